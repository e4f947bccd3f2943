/- Parts of the proof: contracts and plain laws. -/
import Derived.Test.YtnlafkgkcnenfaaGreatDoorS13
namespace Go.Proofs.YtnlafkgkcnenfaaGreatDoor
open Go Go.RowKit Tryz
set_option linter.unusedVariables false
set_option linter.unusedSimpArgs false
set_option maxRecDepth 100000
set_option maxHeartbeats 16000000
section
variable {B C c cb d db f g i j k kc m n:Nat} {O:List Nc} {W b w w' wr:World} {e:TypeId} {l:List Fc} {u v v0:Value} {x:Fc} {xs:List Value} {y:Nc}
theorem XT {s:Nat} (h:w.ownsRow B e s v n xs) (q:k<B):v.ownBlock≠some k:=λe=>by have:=(h.lt k e).1;omega
theorem HNs.grown {l:List Nc} {r:Option Nat} (h:HNs w B v l) (q:w.grownBy w' r) (D:v.ownBlock≠r) (A:awayNs r l):HNs w' B v l:=
 ⟨h.row.kept q (Or.inr D),RdNs.grown q l h.rd A,h.away⟩
theorem HNs.cell {l:List Nc} (h:HNs w B v l) (A:v.ownBlock≠some g) (q:awayNs (some g) l):HNs (w.setCell ⟨g,i,none⟩ u) B v l:=
 h.grown (Yo w ⟨g,i,none⟩ u) A q
theorem ZcF (w:Wq) (l:Nat) (o:Obj):w.grownBy (w.putObj l o) (some l):=
 ⟨rfl,rfl,rfl,by rw[World.putObj_size];exact Zb _,λk _ h=>XI (λe=>h (by rw[e]))⟩
theorem ZjD {a:Addr} (h:w.cell? a=some u):∃cs T fr,w.heap[a.block]? =some (.cells cs T fr):=by
 unfold World.cell? at h;split at h
 ·rename_i q;exact ⟨_,_,_,q⟩
 ·cases h
theorem RSl.notObj {size l:Nat} {o:Obj} (h:RSl w size v n xs) (I:w.heap[l]? =some o) (J:o.isCells=false):xs= []\/v.ownBlock≠some l:=by
 cases xs with
 |nil=>exact Or.inl rfl
 |cons u t=>
  right;obtain ⟨_,A,c,rfl,_,_,_,D⟩:=h;obtain ⟨ad,rfl,H⟩:=D 0 u rfl;obtain ⟨cs,T,fr,q⟩:=ZjD H;intro e;have F:(ad.add 0).block=ad.block:=by rw[add_zero]
  rw[F] at q;simp only[Value.ownBlock,Y3] at e;rw[e,I] at q;cases q;cases J
mutual
theorem RdN.notObj {w:Wq} {l:Nat} {o:Obj} (hl:w.heap[l]? =some o) (ho:o.isCells=false):∀x:Nc,RdN w x->awayN (some l) x
 | .mk k s n al l0 ks kids t a,h=>by
  rw[RdN] at h
  rw[awayN]
  refine ⟨?_,?_,RdNs.notObj hl ho kids h.2.2⟩
  ·by_cases h0:l0= []
   ·exact Or.inl (by rw[h0];rfl)
   ·exact Or.inr ((RSl.notObj h.1 hl ho).resolve_left (JO h0))
  ·by_cases h0:kids= []
   ·exact Or.inl (by rw[h0];rfl)
   ·exact Or.inr ((RSl.notObj h.2.1 hl ho).resolve_left (Er h0))
theorem RdNs.notObj {w:Wq} {l:Nat} {o:Obj} (hl:w.heap[l]? =some o) (ho:o.isCells=false):∀x:List Nc,RdNs w x->awayNs (some l) x
 | [],_=>by rw[awayNs];trivial
 |x::t,h=>by
  rw[RdNs] at h
  rw[awayNs]
  exact ⟨RdN.notObj hl ho x h.1,RdNs.notObj hl ho t h.2⟩
end
theorem ER {s l:Nat} {o:Obj} (h:w.ownsRow B e s v n xs) (D:w.heap[l]? =some o) (I:o.isCells=false):v.ownBlock≠some l:=by
 rcases h.2 with ⟨rfl,_⟩|⟨q,cap,F,rfl,_,H,_⟩
 ·simp[Value.ownBlock]
 ·intro A;simp only[Value.ownBlock,Y3] at A;subst A;rw[H] at D;cases D;cases I
theorem HNs.obj {l:Nat} {x:List Nc} {o o':Obj} (h:HNs w B v x) (q:w.heap[l]? =some o) (A:o.isCells=false):HNs (w.putObj l o') B v x:=
 h.grown (ZcF w l o') (ER h.row q A) (RdNs.notObj q A x h.rd)
def newNs (B:Nat) (l:List Nc):Prop:=∀k,k<B->awayNs (some k) l
theorem newNs.nil (B:Nat):newNs B []:=λk _=>by rw[awayNs];trivial
theorem newNs.snoc {l:List Nc} {x:Nc} (h:newNs B l) (D:∀k,k<B->awayN (some k) x):newNs B (l++ [x]):=λk A=>(Z0 _).2 λy q=>by
 rcases Zt.1 q with q|q
 ·exact (Z0 l).1 (h k A) y q
 ·rw[Zo.1 q];exact D k A
theorem newNs.mono {l:List Nc} (h:newNs B l) (q:C<=B):newNs C l:=λk A=>h k (YE A q)
theorem ZdU {KB:Option Addr} {al:Value} {f:Fd} (h:w.ownsRow C 88 4 al n xs) (A:B<=C):(∀k,k<B->awayN (some k) (leafC KB kc al f))/\(∀k,k<B->awayN (some k) (leafC2 KB kc al f)):=by
 refine ⟨λk q=> ?_,λk q=> ?_⟩
 ·unfold leafC;rw[awayN];exact ⟨Or.inr (XT h (by omega)),Or.inl rfl,by rw[awayNs];trivial⟩
 ·unfold leafC2;rw[awayN];exact ⟨Or.inr (XT h (by omega)),Or.inl rfl,by rw[awayNs];trivial⟩
def foldC (al ks:Value) (kids:List Nc) (s:ByteArray):Nc:= .mk 0 [] outlineL al [pairA (textL,lst s)] ks kids [] 0
theorem Zip {al ks:Value} {kids:List Nc} {s:ByteArray} (A:∀y∈kids,y.kind=0):(foldC al ks kids s).nd=withP (elemN outlineL (Nc.nds kids)) [(textL,lst s)]:=by
 have q:elems (Nc.nds kids):=λy h=>by rw[XL] at h;obtain ⟨z,D,rfl⟩:=Z3.1 h;rw[Zcm];exact A z D
 unfold elemN foldC;rw[Jk q,Nc.nd];rfl
theorem Ziq {al ks:Value} {kids:List Nc} {s:ByteArray} (h:w.ownsRow B 88 4 al 1 (flatA [pairA (textL,lst s)])) (q:w.ownsRow C 25 7 ks kids.length (flatN kids)) (A:RdNs w kids):RdN w (foldC al ks kids s):=by
 unfold foldC;rw[RdN];exact ⟨RSl.of_own h,RSl.of_own q,A⟩
theorem ZgT {D:Nat} {al ks:Value} {kids:List Nc} {s:ByteArray} {H:List Value} (h:w.ownsRow B 88 4 al n xs) (I:D<=B) (A:w'.ownsRow C 25 7 ks m H) (J:D<=C) (F:newNs D kids):∀k,k<D->awayN (some k) (foldC al ks kids s):=λk q=>by
 unfold foldC;rw[awayN];exact ⟨Or.inr (XT h (by omega)),Or.inr (XT A (by omega)),F k q⟩
theorem Zhg {s:ByteArray} (h:s.toList.isEmpty=true):s.size=0:=by
 rw[Z2] at h;rw[List.isEmpty_iff] at h;show s.data.size=0;rw[<-Array.length_toList,h];rfl
theorem Zhe {s:ByteArray} (h:s.toList.isEmpty=false):s.size≠0:=by
 rw[Z2] at h;intro e;have e:s.data.size=0:=e;rw[<-Array.length_toList] at e;rw[Zw e] at h;cases h
theorem ZfQ (AB:Option Addr) (ac:Nat) (KB:Option Addr) (kc:Nat) (v:Value) (title id link:ByteArray) (w:Wq) (A:RAts w (.slice AB 3 ac) ([(typeL,rssL),(textL,lst title),(xmlUrlL,lst id)].map pairA)) (D:RStrs w v (pairS [(htmlUrlL,lst link)])):
 Calls prog 46 #[.agg #[nI 0,eS,.string ⟨#[111,117,116,108,105,110,101]⟩,.slice AB 3 ac,.slice KB 0 kc,eS,nI 0],v] w λe w'=>
  ∃q h,e= .returned (.agg #[nI 0,eS,.string ⟨#[111,117,116,108,105,110,101]⟩,.slice q 4 h,.slice KB 0 kc,eS,nI 0])/\w'.ownsRow w.heap.size 88 4 (.slice q 4 h) 4 (flatA ([(typeL,rssL),(textL,lst title),(xmlUrlL,lst id)].map pairA++ [(htmlUrlL,lst link)].map pairA))/\Ext w w':=
 Ic (.slice AB 3 ac) ([(typeL,rssL),(textL,lst title),(xmlUrlL,lst id)].map pairA) KB 0 kc v [(htmlUrlL,lst link)] w A D (by show 3+1<=1000000;omega)
theorem ZhT (KB:Option Addr) (n kc:Nat) (v:Value) (name:ByteArray) (w:Wq) (h:RStrs w v (pairS [(textL,lst name)])):
 Calls prog 46 #[.agg #[nI 0,eS,.string ⟨#[111,117,116,108,105,110,101]⟩,sN,.slice KB n kc,eS,nI 0],v] w λe w'=>
  ∃AB ac,e= .returned (.agg #[nI 0,eS,.string ⟨#[111,117,116,108,105,110,101]⟩,.slice AB 1 ac,.slice KB n kc,eS,nI 0])/\w'.ownsRow w.heap.size 88 4 (.slice AB 1 ac) 1 (flatA [pairA (textL,lst name)])/\Ext w w':=
 Ic sN [] KB n kc v [(textL,lst name)] w (RAts.nil w) h (by show 0+1<=1000000;omega)
def ownN (d:Nat) (l:List Fd):Nat:=(l.takeWhile λx=>decide (x.path.length=d)).length
def okT:Nat->Nat->List Fd->Prop
 |0,_,_=>False
 |f+1,d,l=>(∀x∈l.drop (ownN d l),d<x.path.length)/\∀(v:Value) (L:List Fc),L.map Fc.f=l.drop (ownN d l)->∀g∈grps d (L.length+1) v L,okT f (d+1) (g.l.map Fc.f)
theorem G7 (d:Nat):∀(f:Nat) (v:Value) (l:List Fc),∀g∈grps d f v l,(∀y∈g.l,pathAt y.f d=g.name)/\g.l.Sublist l/\g.l≠ []
 |0,_,_,g,q=>by cases q
 |_+1,_,[],g,q=>by cases q
 |f+1,v,x::t,g,q=>by
  have D:0<runN d ((x::t).map Fc.f):=E1 d x.f (t.map Fc.f)
  rw[grps] at q
  rcases ZF.1 q with rfl|q
  ·refine ⟨λy I=> ?_,List.take_sublist _ _,?_⟩
   ·have h:=Zf0 x.f (t.map Fc.f) d y.f
    refine h ?_
    have A:y.f∈((x::t).take (runN d ((x::t).map Fc.f))).map Fc.f:=Yg I
    rw[List.map_take] at A
    exact A
   ·intro e
    have:=Zz List.length e
    rw[ZD] at this
    simp only[Zf,ZK] at this
    omega
  ·obtain ⟨F,A,H⟩:=G7 d f _ _ g q
   exact ⟨F,A.trans (List.drop_sublist _ _),H⟩
theorem ZiN:∀(f d:Nat) (path:List ByteArray) (l:List Fd),path.length=d->65<=f+d->(f=0->l≠ [])->asc l->(∀x∈l,Pref path x/\x.path.length<=64)->okT f d l
 |0,d,path,l,hd,hf,hn,hs,hl=>by
  cases l with
  |nil=>exact absurd rfl (hn rfl)
  |cons x t=>
   have D:=(hl x ZH).1.len
   have F:=(hl x ZH).2
   omega
 |f+1,d,path,l,hd,hf,hn,hs,hl=>by
  have I:=KC hd hs λx A=>(hl x A).1
  rw[okT]
  refine ⟨I.2,λv L K g M=> ?_⟩
  obtain ⟨D,F,J⟩:=G7 d _ v L g M
  have H:(g.l.map Fc.f).Sublist (l.drop (ownN d l)):=by rw[<-K];exact F.map _
  refine ZiN f (d+1) (path++ [g.name]) _ (by rw[Zc,hd];rfl) (by omega) (λ_=>by simpa using J) (IL (H.trans (List.drop_sublist _ _)) hs) λx A=> ?_
  have h:=H.subset A
  have q:=YJ h
  refine ⟨?_,(hl x q).2⟩
  obtain ⟨y,Q,rfl⟩:=Z3.1 A
  rw[<-D y Q]
  exact (hl y.f q).1.next hd (I.2 _ h)
theorem Zj5 {l:List Fd} (h:okA l=true):okT 66 0 l:=
 ZiN 66 0 [] l rfl (by omega) (λe=>by cases e) (ZfU h) λx q=>⟨⟨x.path,rfl⟩,(Zj3 (Ue.1 ((VX.1 h).1 x q)).1).2.2⟩
structure OutI (d:Nat) (l:List Fc) (w:Wq) (v0:Value) (j:Nat) (u:Value) (O:List Nc) (wr:Wq):Prop where
 left:RFcs w v0 (l.drop j)
 le:j<=l.length
 dcell:wr.heap[w.heap.size]? =some (.cells #[nI (d:Nat)] 3 (0,0))
 ucell:wr.heap[w.heap.size+1]? =some (.cells #[u] 23 (0,0))
 nodes:HNs wr (w.heap.size+2) u O
 nds:Nc.nds O=((l.take j).map Fc.f).map feedN
 kinds:∀y∈O,y.kind=0
 ext:Ext w wr
 size:w.heap.size+2<=wr.heap.size
 own:ownN d (l.map Fc.f)=j+(((l.map Fc.f).drop j).takeWhile λx=>decide (x.path.length=d)).length
 new:newNs (w.heap.size+2) O
theorem OutI.next {A:Wq} {H u8:Value} (h:OutI d l w v0 j u O wr) (D:j<l.length) (R:l[j]=x) (U:RFcs w H (l.drop (j+1)))
 (I:A.heap[w.heap.size]? =some (.cells #[nI (d:Nat)] 3 (0,0))) (K:A.heap[w.heap.size+1]? =some (.cells #[u] 23 (0,0))) (Q:HNs A (w.heap.size+2) u8 (O++ [y])) (Y:y.nd=feedN x.f) (S:y.kind=0) (M:Ext w A)
 (X:w.heap.size+2<=A.heap.size) (V:x.f.path.length=d) (J:∀k,k<w.heap.size+2->awayN (some k) y):OutI d l w H (j+1) u8 (O++ [y]) (A.setCell ⟨w.heap.size+1,0,none⟩ u8):=by
 have q:=h.new.snoc J;refine ⟨U,D,(Z4 A ⟨w.heap.size+1,0,none⟩ w.heap.size _ (by show w.heap.size≠w.heap.size+1;omega)).trans I,Z7 A (w.heap.size+1) 0 _ _ _ K,Q.cell (XT Q.row (by omega)) (q _ (by omega)),?_,?_,M.setCell (by show w.heap.size<=w.heap.size+1;omega) _,by simpa [World.setCell] using X,?_,q⟩
 ·rw[XS,h.nds,Zx D,ZR,ZR,R]
  congr 1
  rw[Nc.nds,Nc.nds,Y];rfl
 ·intro z F;rcases Zt.1 F with F|F
  ·exact h.kinds z F
  ·rw[Zo.1 F];exact S
 ·rw[h.own];refine Zge (by rw[Zs];exact D) ?_;rw[Ju,R];simpa using V
theorem OutI.ext_ (h:OutI d l w v0 j u O wr) (q:Ext wr w'):OutI d l w v0 j u O w':=
 ⟨h.left,h.le,q.heap h.dcell,q.heap h.ucell,h.nodes.ext q,h.nds,h.kinds,h.ext.trans q,Zu h.size q.size,h.own,h.new⟩
theorem OutI.stop (h:OutI d l w v0 j u O wr) (q:j<l.length) (D:l[j]=x) (A:x.f.path.length≠d):ownN d (l.map Fc.f)=j:=by
 rw[h.own];refine Zgf (by rw[Zs];exact q) ?_;rw[Ju,D];simpa using A
theorem OutI.full (h:OutI d l w v0 j u O wr) (q:l.length<=j):ownN d (l.map Fc.f)=j:=by
 rw[h.own];exact Zjs (by rw[Zs];exact q)
structure FolI (f d:Nat) (own:List Nd) (w:Wq) (cb db:Nat) (s:List Grp) (u:Value) (O:List Nc) (wr:Wq):Prop where
 ucell:wr.heap[w.heap.size+1]? =some (.cells #[u] 23 (0,0))
 dcell:wr.heap[w.heap.size]? =some (.cells #[nI (d:Nat)] 3 (0,0))
 nodes:HNs wr (w.heap.size+2) u O
 nds:Nc.nds O=own++s.map λg=>withP (elemN outlineL (outsP f (d+1) (g.l.map Fc.f))) [(textL,lst g.name)]
 kinds:∀y∈O,y.kind=0
 ext:Ext w wr
 size:w.heap.size+2<=wr.heap.size
 new:newNs (w.heap.size+2) O
 cb_:u.ownBlock≠some cb
 db_:u.ownBlock≠some db
 cbs:awayNs (some cb) O
 lts:w.heap.size+2<=cb/\w.heap.size+2<=db/\cb<wr.heap.size/\db<wr.heap.size
section
variable {f d cb db:Nat} {own:List Nd} {w wr:World} {s:List Grp} {u:Value} {O:List Nc}
theorem FolI.ext_ (h:FolI f d own w cb db s u O wr) (q:Ext wr w'):FolI f d own w cb db s u O w':=
 ⟨q.heap h.ucell,q.heap h.dcell,h.nodes.ext q,h.nds,h.kinds,h.ext.trans q,Zu h.size q.size,h.new,h.cb_,h.db_,h.cbs,h.lts.1,h.lts.2.1,YE h.lts.2.2.1 q.size,YE h.lts.2.2.2 q.size⟩
theorem FolI.cell (h:FolI f d own w cb db s u O wr) (v:Value):FolI f d own w cb db s u O (wr.setCell ⟨cb,0,none⟩ v):=by
 have q:=h.lts;refine ⟨(Z4 wr ⟨cb,0,none⟩ (w.heap.size+1) _ (by show w.heap.size+1≠cb;omega)).trans h.ucell,(Z4 wr ⟨cb,0,none⟩ w.heap.size _ (by show w.heap.size≠cb;omega)).trans h.dcell,h.nodes.cell h.cb_ h.cbs,h.nds,h.kinds,h.ext.setCell (by show w.heap.size<=cb;omega) _,by simpa [World.setCell] using h.size,h.new,h.cb_,h.db_,h.cbs,by simpa [World.setCell] using q⟩
theorem Ext.putObj {a:Wq} (h:Ext a b) {l:Nat} {o:Obj} (A:a.heap.size<=l):Ext a (b.putObj l o):=
 h.then ⟨rfl,rfl,rfl,by rw[World.putObj_size];exact Zb _,λk q=>XI (by omega)⟩
theorem FolI.obj {l:Nat} {o o':Obj} (h:FolI f d own w cb db s u O wr) (q:wr.heap[l]? =some o) (D:o.isCells=false) (A:w.heap.size+2<=l):FolI f d own w cb db s u O (wr.putObj l o'):=
 ⟨(XI (by omega)).trans h.ucell,(XI (by omega)).trans h.dcell,h.nodes.obj q D,h.nds,h.kinds,h.ext.putObj (by omega),by rw[World.putObj_size];exact h.size,h.new,h.cb_,h.db_,h.cbs,by rw[World.putObj_size];exact h.lts⟩
theorem FolI.next {A:Wq} {u8:Value} {g:Grp} (h:FolI f d own w cb db s u O wr) (U:Ext w A) (M:A.heap[w.heap.size]? =some (.cells #[nI (d:Nat)] 3 (0,0))) (S:A.heap[w.heap.size+1]? =some (.cells #[u] 23 (0,0))) (V:HNs A (w.heap.size+2) u8 (O++ [y]))
 (Y:y.nd=withP (elemN outlineL (outsP f (d+1) (g.l.map Fc.f))) [(textL,lst g.name)]) (Q:y.kind=0) (Z:wr.heap.size<=A.heap.size) (I:∀k,k<wr.heap.size->awayN (some k) y) (K:u8.ownBlock=u.ownBlock\/∀k,u8.ownBlock=some k->wr.heap.size<=k):
 FolI f d own w cb db (s++ [g]) u8 (O++ [y]) (A.setCell ⟨w.heap.size+1,0,none⟩ u8):=by
 have H:=h.lts;have X:=h.size;have F:=h.new.snoc λk Q=>I k (by omega);have D:∀k,k<wr.heap.size->u.ownBlock≠some k->u8.ownBlock≠some k:=λk Q R e=>by
  rcases K with J|J
  ·exact R (by rw[<-J];exact e)
  ·have:=J k e;omega
 refine ⟨Z7 A (w.heap.size+1) 0 _ _ _ S,(Z4 A ⟨w.heap.size+1,0,none⟩ w.heap.size _ (by show w.heap.size≠w.heap.size+1;omega)).trans M,V.cell (XT V.row (by omega)) (F _ (by omega)),?_,?_,U.setCell (by show w.heap.size<=w.heap.size+1;omega) _,?_,F,D cb H.2.2.1 h.cb_,D db H.2.2.2 h.db_,?_,H.1,H.2.1,?_,?_⟩
 ·rw[XS,h.nds,ZR,ZN]
  congr 2
  rw[Nc.nds,Nc.nds,Y];rfl
 ·intro z q;rcases Zt.1 q with q|q
  ·exact h.kinds z q
  ·rw[Zo.1 q];exact Q
 ·show _<=(A.setCell _ _).heap.size;simp[World.setCell];omega
 ·refine (Z0 _).2 λz q=> ?_;rcases Zt.1 q with q|q
  ·exact (Z0 O).1 h.cbs z q
  ·rw[Zo.1 q];exact I cb H.2.2.1
 ·simp[World.setCell];omega
 ·simp[World.setCell];omega
end
theorem FolI.start {D:Wq} (h:OutI d l w v0 j u O W) (A:Ext W D) (I:D.heap.size=W.heap.size+2):FolI f d (((l.take j).map Fc.f).map feedN) w W.heap.size (W.heap.size+1) [] u O D:=by
 have F:=h.size;have q:∀k,W.heap.size<=k->u.ownBlock≠some k:=λk H e=>by have:=(h.nodes.row.lt _ e).2;omega
 exact ⟨A.heap h.ucell,A.heap h.dcell,h.nodes.ext A,by rw[Yv,Yi];exact h.nds,h.kinds,h.ext.trans A,by omega,h.new,q _ (Zb _),q _ (Yf _),QS (w:=W) (λg e=>by injection e with e;omega) O h.nodes.rd,F,by omega,by omega,by omega⟩
theorem FolI.kp {own:List Nd} {W':Wq} {s:List Grp} (h:FolI f d own w cb db s u O W) (A:Keep W W' (w.heap.size+1) u.ownBlock):Stays B W W'/\KpF w.heap.size cb db W W':=by
 have K:=h.lts;have J:=h.size;refine ⟨λk o _ F I=> ?_,A.os,A.tape,A.output,A.size,λk q=> ?_⟩
 ·have H:=ER h.nodes.row F I;refine A.heap F (λe=> ?_) (λe=>H e.symm);subst e;rw[h.ucell] at F;cases F;cases I
 ·have D:u.ownBlock≠some k:=by
   rcases q with q|q|q
   ·exact XT h.nodes.row (by omega)
   ·rw[q];exact h.cb_
   ·rw[q];exact h.db_
  exact A.block k (by omega) (by omega) (λe=>D e.symm)
theorem Io (rec_:List Fd->List Nd) (d:Nat):∀(f g:Nat) (l:List Fd),l.length<f->l.length<g->foldsP rec_ d f l=foldsP rec_ d g l
 |0,_,l,h,_=>by omega
 |_,0,l,_,h=>by omega
 |f+1,g+1,[],_,_=>by rw[foldsP,foldsP]
 |f+1,g+1,x::t,hf,hg=>by
  have q:=Zce x t d
  rw[foldsP,foldsP]
  (try dsimp only)
  rw[Io rec_ d f g _ (by rw[Zj];rw[Zf] at hf|-;omega) (by rw[Zj];rw[Zf] at hg|-;omega)]
theorem FolI.done (h:FolI f d (((l.take j).map Fc.f).map feedN) w cb db (grps d ((l.drop j).length+1) v0 (l.drop j)) u O W) (D:ownN d (l.map Fc.f)=j):Nc.nds O=outsP (f+1) d (l.map Fc.f):=by
 have A:(l.map Fc.f).takeWhile (λx=>decide (x.path.length=d))=(l.map Fc.f).take j:=by rw[<-D];exact Xh.1 (JK _)
 have q:((l.map Fc.f).takeWhile λx=>decide (x.path.length=d)).length=j:=D;rw[h.nds,outsP,q,A,List.map_take]
 congr 1
 rw[<-List.map_drop,Io _ d _ ((l.drop j).length+1) _ (by rw[Zs,Zj,Zs];omega) (by rw[Zs];omega),Eu _ d _ v0]
def zeroNc:Nc:= .mk 0 [] [] sN [] sN [] [] 0
theorem ZhY (w:Wq):RdN w zeroNc:=by
 unfold zeroNc;rw[RdN];exact ⟨RAts.nil w,RNs.nil w,by rw[RdNs];trivial⟩
theorem ZeK (r:Option Nat):awayN r zeroNc:=by
 unfold zeroNc;rw[awayN];exact ⟨Or.inl rfl,Or.inl rfl,by rw[awayNs];trivial⟩
theorem Zbs:∀l:List Nc,(flatN l).length=l.length*7
 | []=>rfl
 |x::t=>by
  have e:flatN (x::t)=cellsN x++flatN t:=by unfold flatN;simp
  rw[e,Zc,Jw,Zbs t,Zf]
  omega
theorem HNs.put_last {z:Nc} (h:HNs w B (.slice (some ⟨g,0,none⟩) (O.length+1) c) (O++ [z])) (K:RdN w y) (I:awayN (some g) y):
 HNs (w.setCells g (O.length*7) (cellsN y)) B (.slice (some ⟨g,0,none⟩) (O.length+1) c) (O++ [y]):=by
 have D:=h.row;rw[Zc,Zaq,UD,UE] at D;have F:=Zed (cellsN y) (O.length*7) w _ D (by rw[Jw];omega);have H:=Zbs O;rw[List.take_left' H,Jw,ZC (by rw[Zc,H,Jw];exact Zb _),Yi] at F;have J:=V1 g (cellsN y) (O.length*7) w;have q:∀x∈O++ [y],RdN w x/\awayN (some g) x:=λx A=>by
  rcases Zt.1 A with A|A
  ·exact ⟨(Xg _).1 h.rd x (Zll _ A),(Z0 _).1 h.away x (Zll _ A)⟩
  ·rw[Zo.1 A];exact ⟨K,I⟩
 refine ⟨?_,(Xg _).2 λx A=>RdN.grown J x (q x A).1 (q x A).2,(Z0 _).2 λx A=>(q x A).2⟩;rw[Zc,Zaq,UD,UE];exact F
theorem Ext.puts {a:Wq} (q:a.heap.size<=g):∀(vs:List Value) (o:Nat) (b:Wq),Ext a b->Ext a (b.setCells g o vs)
 | [],_,_,h=>h
 |v::r,o,b,h=>Ext.puts q r (o+1) _ (h.setCell (by show a.heap.size<=g;exact q) v)
theorem Zh3 {r:Option Nat} {D:Nat} (h:∀k,k<D->awayN (some k) y) (A:RdN w y) (q:∀k,r=some k->k<D):awayN r y:=by
 cases r with
 |none=>exact Gv A
 |some k=>exact h k (q k rfl)
theorem FolI.leaf {q I:Nat} {own:List Nd} {M A:Wq} {s:List Grp} {G:Grp} (h:FolI f d own w cb db s u O W) (U:Ext W M)
 (K:A.ownsRow (w.heap.size+2) 25 7 (.slice (some ⟨q,0,none⟩) (O.length+1) I) (O.length+1) (flatN O++cellsN zeroNc)) (Q:M.grownBy A u.ownBlock) (F:(Value.slice (some ⟨q,0,none⟩) (O.length+1) I).ownBlock=u.ownBlock\/(Value.slice (some ⟨q,0,none⟩) (O.length+1) I).ownBlock=some M.heap.size)
 (hy:RdN M y) (J:∀k,k<W.heap.size->awayN (some k) y) (he:y.nd=withP (elemN outlineL (outsP f (d+1) (G.l.map Fc.f))) [(textL,lst G.name)]) (X:y.kind=0):
 Stays B W ((A.setCells q (O.length*7) (cellsN y)).setCell ⟨w.heap.size+1,0,none⟩ (.slice (some ⟨q,0,none⟩) (O.length+1) I))/\KpF w.heap.size cb db W ((A.setCells q (O.length*7) (cellsN y)).setCell ⟨w.heap.size+1,0,none⟩ (.slice (some ⟨q,0,none⟩) (O.length+1) I))/\
  FolI f d own w cb db (s++ [G]) (.slice (some ⟨q,0,none⟩) (O.length+1) I) (O++ [y]) ((A.setCells q (O.length*7) (cellsN y)).setCell ⟨w.heap.size+1,0,none⟩ (.slice (some ⟨q,0,none⟩) (O.length+1) I)):=by
 have hp:=h.size;have hq:=U.size;have D:∀k,u.ownBlock=some k->w.heap.size+2<=k/\k<W.heap.size:=λk e=>h.nodes.row.lt k e;have hm:w.heap.size+2<=q:=(K.lt q rfl).1;have Y:=h.nodes.ext U;have V:awayN u.ownBlock y:=Zh3 J hy λk e=>(D k e).2;have Z:=HNs.snoc Y (ZhY M) (ZeK _) K Q F;have hl:RdN A y:=RdN.grown Q y hy V;have hb:awayN (some q) y:=by
  rcases F with e|e
  ·have S:some q=u.ownBlock:=e;rw[S];exact V
  ·have S:some q=some M.heap.size:=e;rw[S];exact XJ hy (Zb _)
 have ha:=Z.put_last hl hb;have H:=V1 q (cellsN y) (O.length*7) A;have hi:Ext w A:=Ext.app (h.ext.trans U) Q Y.row (by omega);have hj:=Ext.puts (a:=w) (g:=q) (by omega) (cellsN y) (O.length*7) A hi;have hn:=Q.size;have ho:=H.size;have hf:A.heap[w.heap.size+1]? =some (.cells #[u] 23 (0,0)):=(Q.block _ (by omega) (λe=>by have:=(D _ e.symm).1;omega)).trans (U.heap h.ucell);have hc:A.heap[w.heap.size]? =some (.cells #[nI (d:Nat)] 3 (0,0)):=(Q.block _ (by omega) (λe=>by have:=(D _ e.symm).1;omega)).trans (U.heap h.dcell);have hh:=(H.block (w.heap.size+1) (by omega) (λe=>by injection e with e;omega)).trans hf;have hd:=(H.block w.heap.size (by omega) (λe=>by injection e with e;omega)).trans hc;have R:Keep W ((A.setCells q (O.length*7) (cellsN y)).setCell ⟨w.heap.size+1,0,none⟩ (.slice (some ⟨q,0,none⟩) (O.length+1) I)) (w.heap.size+1) u.ownBlock:=by
  refine ((((Keep.of_ext (w.heap.size+1) u.ownBlock U).trans (Keep.of_grown _ Q) λk e=>Or.inl e).trans (Keep.of_grown _ H) λk e=> ?_).cell_ 0 _);injection e with e;subst e;rcases F with e|e
  ·exact Or.inl e.symm
  ·have S:some q=some M.heap.size:=e;injection S with S;exact Or.inr (by omega)
 obtain ⟨k1,k2⟩:=h.kp (B:=B) R;refine ⟨k1,k2,h.next hj hd hh ha he X (by omega) J ?_⟩;rcases F with e|e
 ·exact Or.inl e
 ·refine Or.inr λk X=> ?_;rw[e] at X;injection X with X;omega
theorem ZcR (w:Wq) (a b:Addr) (u v:Value) (h:a.block≠b.block):(w.setCell a u).setCell b v=(w.setCell b v).setCell a u:=by
 unfold World.setCell
 congr 1
 apply Array.ext
 ·simp
 ·intro k D F;simp only[Array.getElem_modify];by_cases A:b.block=k
  ·by_cases q:a.block=k
   ·omega
   ·simp[A,q]
  ·by_cases q:a.block=k
   ·simp[A,q]
   ·simp[A,q]
theorem Gj (g:Nat) (a:Addr) (u:Value) (h:a.block≠g):∀(vs:List Value) (o:Nat) (w:Wq),(w.setCell a u).setCells g o vs=(w.setCells g o vs).setCell a u
 | [],_,_=>rfl
 |v::r,o,w=>by
  show ((w.setCell a u).setCell ⟨g,o,none⟩ v).setCells g (o+1) r=_
  rw[ZcR w a ⟨g,o,none⟩ u v h,Gj g a u h r]
  rfl
theorem ZiQ {s:Nat} (h:w.ownsRow B e s v n xs) (D:0<n):∃g c,v= .slice (some ⟨g,0,none⟩) n c:=by
 rcases h.2 with ⟨rfl,A⟩|⟨g,cap,q,rfl,_⟩
 ·omega
 ·exact ⟨g,cap,rfl⟩
theorem FolI.len_ {own:List Nd} {s:List Grp} (h:FolI f d own w cb db s u O wr):O.length=own.length+s.length:=by
 have q:=Zz List.length h.nds;rw[X2,Zc,Zs] at q;exact q
theorem Et (rec_:List Fd->List Nd) (d:Nat):∀(f:Nat) (l:List Fd),(foldsP rec_ d f l).length<=l.length
 |0,l=>by rw[foldsP];exact Zk _
 |f+1,[]=>by rw[foldsP];exact Zb _
 |f+1,x::t=>by
  have h:=Zce x t d
  rw[foldsP]
  (try dsimp only)
  have ih:=Et rec_ d f ((x::t).drop ((x::t).takeWhile λy=>decide (pathAt y d=pathAt x d)).length)
  rw[Zj] at ih
  rw[Zf] at ih|-
  rw[Zf] at*
  omega
theorem Zec:∀(f d:Nat) (l:List Fd),(outsP f d l).length<=l.length
 |0,d,l=>by rw[outsP];exact Zk _
 |f+1,d,l=>by
  have h:=Et (outsP f (d+1)) d (l.length+1) (l.drop (l.takeWhile λx=>decide (x.path.length=d)).length)
  have q:=(Yp (λx:Fd=>decide (x.path.length=d)) (l:=l)).length_le
  rw[Zj] at h
  rw[outsP,Zc,Zs]
  omega
theorem ZdE (d:Nat):∀(f:Nat) (v:Value) (l:List Fc),(grps d f v l).length<=l.length
 |0,v,l=>by rw[grps];exact Zk _
 |f+1,v,[]=>by rw[grps];exact Zb _
 |f+1,v,x::t=>by
  have h:0<runN d ((x::t).map Fc.f):=E1 d x.f (t.map Fc.f)
  rw[grps,Zf]
  have ih:=ZdE d f (loV (runN d ((x::t).map Fc.f)) v) ((x::t).drop (runN d ((x::t).map Fc.f)))
  rw[Zj] at ih
  rw[Zf] at ih|-
  omega
theorem Zhz {s:Nat} (h:w.ownsRow B e s (.slice (some ⟨g,0,none⟩) n c) n xs) (J:j<n*s):(w.cell? ⟨g,j,none⟩).isSome=true/\w.frozen? ⟨g,j,none⟩=false:=by
 obtain ⟨g',D,q,I,F⟩:=ZfB h;injection q with q;subst q;refine ⟨?_,ZX F j⟩;have K:=h.1;obtain ⟨u,H⟩:∃u,xs[j]? =some u:=⟨xs[j]'(by omega),Zr _⟩;have A:=h.cells (g:=g) rfl j u H;rw[IW] at A;rw[A];rfl
end
section
variable {a:Act} {d f i k n:Nat} {o:Oper} {v:Value} {w w':World}
def lstOf (n:Nat) (base:Array Bool) (done:List Nat):Array Bool:=Array.ofFn (n:=n) λj=>base.getD j.val false||done.contains j.val
def actOf (a0:Act) (hs:List Nat) (dst:Nat->Nat) (done:List Nat) (vs:Nat->Value):Act:=
 {a0 with tmps:=Array.ofFn (n:=a0.tmps.size) λk=>match hs.find? (λi=>dst i==k.val && done.contains i) with|some i=>vs i|none=>a0.tmps.getD k.val undef}
def upd (vs:Nat->Value) (i:Nat) (v:Value):Nat->Value:=λj=>if j=i then v else vs j
def subs:List Nat->List (List Nat)
 | []=> [[]]
 |x::t=>subs t++(subs t).map (x:: ·)
theorem Ik (p:Nat->Bool):∀h:List Nat,h.filter p∈subs h
 | []=>by simp[subs]
 |x::t=>by
  have ih:=Ik p t
  rw[subs,Zt,List.filter_cons]
  split
  ·exact Or.inr (Z3.2 ⟨_,ih,rfl⟩)
  ·exact Or.inl ih
theorem ZbE {base:Array Bool} {d e:List Nat} (h:∀j,d.contains j=e.contains j):lstOf n base d=lstOf n base e:=by
 unfold lstOf
 congr 1
 funext j;rw[h]
theorem ZjX {base:Array Bool} {done:List Nat} (F:i<n):(lstOf n base done).setIfInBounds i true=lstOf n base (i::done):=by
 apply Array.ext
 ·simp[lstOf]
 ·intro k A D;simp only[lstOf,Array.size_setIfInBounds,Array.size_ofFn] at A D;rw[Array.getElem_setIfInBounds (by simpa [lstOf] using A)];simp only[lstOf,Array.getElem_ofFn];by_cases h:i=k
  ·subst h;simp
  ·have q:¬k=i:=λe=>h e.symm;simp[h,q]
theorem Zdt {q:List Nat} {p:Nat->Bool} (A:i∈q) (D:p i=true) (F:∀j∈q,p j=true->j=i):q.find? p=some i:=by
 cases h:q.find? p with
 |none=>exact absurd D (by simpa using List.find?_eq_none.1 h i A)
 |some j=>rw[F j (List.mem_of_find?_eq_some h) (List.find?_some h)]
theorem KP {p q:Nat->Bool}:∀{A:List Nat},(∀j∈A,p j=q j)->A.find? p=A.find? q
 | [],_=>rfl
 |x::t,h=>by rw[List.find?_cons,List.find?_cons,h x ZH,KP λj D=>h j (ZE _ D)]
section
variable {a0:Act} {hs:List Nat} {dst:Nat→Nat} {done:List Nat} {vs:Nat→Value} {i k:Nat} {v:Value}
theorem ZjB (A:∀i∈hs,∀j∈hs,dst i=dst j->i=j) (H:i∈hs):(actOf a0 hs dst done vs).put (some (dst i)) v=actOf a0 hs dst (i::done) (upd vs i v):=by
 unfold actOf Act.put;simp only
 congr 1
 apply Array.ext
 ·simp
 ·intro k F J;simp only[Array.size_setIfInBounds,Array.size_ofFn] at F J;rw[Array.getElem_setIfInBounds (by simpa using F)];simp only[Array.getElem_ofFn];by_cases q:dst i=k
  ·rw[Zh q,Zdt (i:=i) H (by simp[q]) (λj I D=>by
    simp only[ZZ,JI] at D;exact A j I i H (D.1.trans q.symm))]
   simp[upd]
  ·rw[Ze q];have M:hs.find? (λj=>dst j==k && (i::done).contains j)=hs.find? (λj=>dst j==k && done.contains j):=KP λj I=>by
    by_cases h:dst j=k
    ·have:j≠i:=λe=>q (by rw[<-e];exact h);simp[h,this]
    ·have K:(dst j==k)=false:=(by simpa using h);rw[K,Yh,Yh]
   rw[M];cases hf:hs.find? (λj=>dst j==k && done.contains j) with
   |none=>rfl
   |some j=>have D:=List.find?_some hf;simp only[ZZ,JI] at D;have:j≠i:=λe=>q (by rw[<-e];exact D.1);simp[upd,this]
theorem ZjA (D:∀j∈hs,dst j≠k):(actOf a0 hs dst done vs).eval (.tmp k)=a0.eval (.tmp k):=by
 show (actOf a0 hs dst done vs).tmps.getD k undef=a0.tmps.getD k undef;unfold actOf;simp only;rw[Jn,Jn];by_cases h:k<a0.tmps.size
 ·rw[Array.getElem?_eq_getElem (by simpa using h),Array.getElem_ofFn];have q:hs.find? (λi=>dst i==k && done.contains i)=none:=List.find?_eq_none.2 λj A=>by have:=D j A;simp[this]
  simp only[q];rw[Jn];rfl
 ·rw[YP (by simpa using h),YP (by omega)]
theorem Zjy (h:∀i∈hs,∀j∈hs,dst i=dst j->i=j) (A:i∈hs) (F:i∈done) (q:dst i<a0.tmps.size):(actOf a0 hs dst done vs).eval (.tmp (dst i))=vs i:=by
 show (actOf a0 hs dst done vs).tmps.getD (dst i) undef=vs i;unfold actOf;simp only;rw[Jn,Array.getElem?_eq_getElem (by simpa using q),Array.getElem_ofFn,Zdt (i:=i) A (by simp[F]) (λj H D=>by
  simp only[ZZ,JI] at D;exact h j H i A D.1)]
 rfl
theorem Zjz:actOf a0 hs dst [] vs=a0:=by
 unfold actOf;cases a0 with
 |mk t d=>
  congr 1
  apply Array.ext
  ·simp
  ·intro k A h;simp only[Array.getElem_ofFn];have q:hs.find? (λi=>dst i==k && ([]:List Nat).contains i)=none:=List.find?_eq_none.2 λj _=>(by simp);simp only[q];rw[Jn,Array.getElem?_eq_getElem h];rfl
end
theorem Jy {A:Act} (h:A.eval (.tmp k)=v):A.tmps[k]?.getD undef=v:=by
 rw[<-Jn];exact h
theorem Ij {p:Nat->Bool} (F:p i=true):∀{q:List Nat},q.Nodup->i∈q->(q.filter λj=>p j && !(j==i)).length+1=(q.filter p).length
 |x::t,hn,hi=>by
  rw[List.nodup_cons] at hn
  rw[List.filter_cons,List.filter_cons]
  by_cases D:x=i
  ·subst D
   have I:t.filter (λj=>p j && !(j==x))=t.filter p:=List.filter_congr λj J=>by
    have:j≠x:=λe=>hn.1 (e▸J)
    simp[this]
   rw[I,F]
   simp
  ·have A:i∈t:=by
    rcases ZF.1 hi with h|h
    ·exact absurd h.symm D
    ·exact h
   have ih:=Ij F hn.2 A
   have H:(x==i)=false:=(by simpa using D)
   rw[H]
   simp only[Bool.not_false,Bool.and_true]
   split<;>(try simp only[Zf])<;>omega
section
variable {P:Program} {md:Region.Mode} {Q:Exit→Act→World→Prop} {S:World→Prop} {T:Array Bool→Act→World→Prop}
def relOk (md:Region.Mode) (l:List Oper) (base:Array Bool) (hs:List Nat) (D:Nat->List Nat):Bool:=
 (subs hs).all λd=>d.length==hs.length||(!(Region.ready md l.toArray (lstOf l.length base d)).isEmpty && (Region.ready md l.toArray (lstOf l.length base d)).all λi=>hs.contains i && !d.contains i && (D i).all d.contains)
theorem ZfR {l:List Oper} {H:List Nat} {dst:Nat->Nat} {D:Nat->List Nat} {F:Nat->Value->Wq->Prop} {base:Array Bool} {a0:Act} {W0:Wq} (hm:H.Nodup)
 (V:∀i∈H,∀j∈H,dst i=dst j->i=j) (hq:∀i∈H,dst i<a0.tmps.size) (hn:∀i∈H,i<l.length) (ho:relOk md l base H D=true)
 (hF:∀i∈H,∀v w w',F i v w->Ext w w'->F i v w') (hS:∀w',Ext W0 w'->S w')
 (hp:∀i∈H,∀(A:Act) (w':Wq) (vs:Nat->Value),Ext W0 w'->(∀k,(∀j∈H,dst j≠k)->A.eval (.tmp k)=a0.eval (.tmp k))->(∀j∈D i,A.eval (.tmp (dst j))=vs j/\F j (vs j) w')->
  wpOp P l.toArray Q i (λa2 w2=>∃v,a2=A.put (some (dst i)) v/\Ext w' w2/\F i v w2) A w')
 (Z:∀vs w',Ext W0 w'->(∀i∈H,F i (vs i) w')->T (lstOf l.length base H) (actOf a0 H dst H vs) w'):
 ∀(f:Nat) (done:List Nat) (vs:Nat->Value) (w':Wq),(∀i∈done,i∈H)->f=(H.filter λj=> !done.contains j).length->Ext W0 w'->(∀i∈done,F i (vs i) w')->
  wpAnyC P md l.toArray Q S T f (lstOf l.length base done) (actOf a0 H dst done vs) w':=by
 intro f
 induction f with
 |zero=>
  intro done vs w' I hf hx M;have U:∀i∈H,i∈done:=λi hi=>by have h0:=Zw hf.symm;have:=(List.filter_eq_nil_iff.1 h0) i hi;simpa using this
  have hc:∀j,done.contains j=H.contains j:=λj=>by rw[Y0,Xv,Xv];exact ⟨I j,U j⟩
  show T _ _ _;have ha:actOf a0 H dst done vs=actOf a0 H dst H vs:=by
   unfold actOf
   congr 1
   congr 1
   funext k;rw[KP (p:=λi=>dst i==k.val && done.contains i) (q:=λi=>dst i==k.val && H.contains i) λj _=>by rw[hc]]
  rw[ZbE hc,ha];exact Z vs w' hx λi hi=>M i (U i hi)
 |succ f ih=>
  intro done vs w' I hf hx M;obtain ⟨d,hd⟩:∃d,H.filter (λj=>done.contains j)=d:=⟨_,rfl⟩;have R:∀j,j∈d↔j∈done:=λj=>by rw[<-hd,Y1,Xv];exact ⟨λh=>h.2,λh=>⟨I j h,h⟩⟩
  have hc:∀j,done.contains j=d.contains j:=λj=>by rw[Y0,Xv,Xv];exact (R j).symm
  have hg:¬d.length=H.length:=λe=>by have h1:d=H:=(by rw[<-hd] at e|-;exact (List.filter_sublist).eq_of_length e);have h2:(H.filter λj=> !done.contains j)= []:=List.filter_eq_nil_iff.2 λj J=>(by have:j∈done:=(R j).1 (h1▸J);simp[this]);rw[h2] at hf;cases hf
  have hk:=Yq.1 ho d (by rw[<-hd];exact Ik _ H);simp only[Bool.or_eq_true,ZZ,JI,hg,false_or] at hk;rw[<-ZbE hc] at hk;refine ⟨λh=>(by rw[h] at hk;exact absurd hk.1 (by simp)),λi hi=> ?_⟩;have he:=Yq.1 hk.2 i hi;simp only[ZZ,Vz] at he;obtain ⟨⟨h1,h2⟩,h3⟩:=he;have K:i∈H:=Xv.1 h1;have hh:i ∉ done:=λh=>by have:=Xv.2 ((R i).2 h);rw[this] at h2;cases h2
  have hD:∀j∈D i,j∈done:=λj J=>(R j).1 (Xv.1 (Yq.1 h3 j J));refine JD (λa2 w2 h=> ?_) (hp i K (actOf a0 H dst done vs) w' vs hx (λk hl=>ZjA hl) (λj J=>⟨Zjy V (I j (hD j J)) (hD j J) (hq j (I j (hD j J))),M j (hD j J)⟩));obtain ⟨v,rfl,Y,hv⟩:=h;refine ⟨hS w2 (hx.trans Y),?_⟩;rw[ZjB V K,ZjX (hn i K)];refine ih (i::done) (upd vs i v) w2 (λj J=> ?_) ?_ (hx.trans Y) (λj J=> ?_)
  ·rcases ZF.1 J with rfl|J
   ·exact K
   ·exact I j J
  ·have h4:=Ij (p:=λj=> !done.contains j) (i:=i) (by simpa using hh) hm K;have h5:(H.filter λj=> !(i::done).contains j)=H.filter λj=> !done.contains j && !(j==i):=List.filter_congr λj _=>(by rw[List.contains_cons,Bool.not_or,Bool.and_comm]);rw[h5];omega
  ·by_cases X:j=i
   ·subst X;simpa [upd] using hv
   ·have hb:j∈done:=(ZF.1 J).resolve_left X;have:=hF j (I j hb) _ _ _ (M j hb) Y;simpa [upd,X] using this
theorem V8 {l:List Oper} {listed:Array Bool} (q:List Nat) (dst:Nat->Nat) (D:Nat->List Nat) (F:Nat->Value->Wq->Prop) (hf:f=q.length) (Y:lstOf l.length listed []=listed) (K:q.Nodup)
 (J:∀i∈q,∀j∈q,dst i=dst j->i=j) (U:(q.all λi=>decide (dst i<a.tmps.size))=true) (hn:∀i∈q,i<l.length) (M:relOk md l listed q D=true)
 (X:∀i∈q,∀v w w',F i v w->Ext w w'->F i v w') (Z:∀w',Ext w w'->S w')
 (R:∀i∈q,∀(A:Act) (w':Wq) (vs:Nat->Value),Ext w w'->(∀k,(∀j∈q,dst j≠k)->A.eval (.tmp k)=a.eval (.tmp k))->(∀j∈D i,A.eval (.tmp (dst j))=vs j/\F j (vs j) w')->
  wpOp P l.toArray Q i (λV w2=>∃v,V=A.put (some (dst i)) v/\Ext w' w2/\F i v w2) A w')
 (H:∀vs w',Ext w w'->(∀i∈q,F i (vs i) w')->T (lstOf l.length listed q) (actOf a q dst q vs) w'):wpAnyC P md l.toArray Q S T f listed a w:=by
 have h:=ZfR (T:=T) (base:=listed) (a0:=a) (W0:=w) K J (λi I=>Y4 (Yq.1 U i I)) hn M X Z R H f [] (λ_=>undef) w (by intro i I;cases I) (by rw[hf];exact (Zz List.length (List.filter_eq_self.2 λj _=>rfl)).symm) (Ext.refl w) (by intro i I;cases I);rw[Zjz,Y] at h;exact h
theorem U7 {l:List Oper} {A:Act} {F:Value->Wq->Prop} (R:l[i]? =some o) (S:o.dst=some d)
 (h:∀K:Act->Wq->Prop,(∀v w2,Ext w' w2->F v w2->K (A.put (some d) v) w2)->if Region.wanted o (yielded l.toArray A.tmps) then Oper.wp P o A w' K Q else K (A.put o.dst undef) w'):
 wpOp P l.toArray Q i (λD w2=>∃v,D=A.put (some d) v/\Ext w' w2/\F v w2) A w':=by
 have H:l.toArray[i]? =some o:=by rw[Yd];exact R
 have q:=h (λD w2=>∃v,D=A.put (some d) v/\Ext w' w2/\F v w2) λv w2 J M=>⟨v,rfl,J,M⟩;unfold wpOp;simp only[H];split
 ·rename_i I;rw[Zh I] at q;exact Or.inl q
 ·rename_i I;rw[Ze I] at q;exact q
end
end
end Go.Proofs.YtnlafkgkcnenfaaGreatDoor
