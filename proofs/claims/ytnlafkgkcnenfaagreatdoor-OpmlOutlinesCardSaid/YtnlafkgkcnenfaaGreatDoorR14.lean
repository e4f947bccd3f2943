/- Parts of the proof: contracts and plain laws. -/
import Derived.Test.YtnlafkgkcnenfaaGreatDoorR13
namespace Go.Proofs.YtnlafkgkcnenfaaGreatDoor
open Go Go.RowKit Tryz
set_option linter.unusedVariables false
set_option linter.unusedSimpArgs false
set_option maxRecDepth 100000
set_option maxHeartbeats 16000000
section
variable {B C c cb d db g i j k kc m n:Nat} {O:List Nc} {W b w w' wr:World} {e:TypeId} {f:Fd} {l:List Fc} {r:Option Nat} {u v v0:Value} {x:Fc} {xs:List Value} {y:Nc}
theorem X7 {s:Nat} (h:w.ownsRow B e s v n xs) (A:k<B):v.ownBlock≠some k:=λe=>by have:=(h.lt k e).1;omega
theorem HNs.grown {l:List Nc} (h:HNs w B v l) (A:w.grownBy w' r) (F:v.ownBlock≠r) (D:awayNs r l):HNs w' B v l:=
 ⟨h.row.kept A (Or.inr F),RdNs.grown A l h.rd D,h.away⟩
theorem HNs.cell {l:List Nc} (h:HNs w B v l) (D:v.ownBlock≠some g) (A:awayNs (some g) l):HNs (w.setCell ⟨g,i,none⟩ u) B v l:=
 h.grown (Yo w ⟨g,i,none⟩ u) D A
theorem ZcD (w:Wq) (l:Nat) (o:Obj):w.grownBy (w.putObj l o) (some l):=
 ⟨rfl,rfl,rfl,by rw[World.putObj_size];exact Zb _,λk _ h=>XS (λe=>h (by rw[e]))⟩
theorem Zj6 {a:Addr} (h:w.cell? a=some u):∃cs T fr,w.heap[a.block]? =some (.cells cs T fr):=by
 unfold World.cell? at h;split at h
 ·rename_i A;exact ⟨_,_,_,A⟩
 ·cases h
theorem RSl.notObj {size l:Nat} {o:Obj} (h:RSl w size v n xs) (J:w.heap[l]? =some o) (K:o.isCells=false):xs= []\/v.ownBlock≠some l:=by
 cases xs with
 |nil=>exact Or.inl rfl
 |cons u t=>
  right;obtain ⟨_,A,c,rfl,_,_,_,F⟩:=h;obtain ⟨ad,rfl,I⟩:=F 0 u rfl;obtain ⟨cs,T,fr,D⟩:=Zj6 I;intro e;have H:(ad.add 0).block=ad.block:=by rw[add_zero]
  rw[H] at D;simp only[Value.ownBlock,Xc] at e;rw[e,J] at D;cases D;cases K
mutual
theorem RdN.notObj {w:Wq} {l:Nat} {o:Obj} (hl:w.heap[l]? =some o) (ho:o.isCells=false):∀x:Nc,RdN w x->awayN (some l) x
 | .mk k s n al l0 ks kids t a,h=>by
  rw[RdN] at h
  rw[awayN]
  refine ⟨?_,?_,RdNs.notObj hl ho kids h.2.2⟩
  ·by_cases h0:l0= []
   ·exact Or.inl (by rw[h0];rfl)
   ·exact Or.inr ((RSl.notObj h.1 hl ho).resolve_left (JU h0))
  ·by_cases h0:kids= []
   ·exact Or.inl (by rw[h0];rfl)
   ·exact Or.inr ((RSl.notObj h.2.1 hl ho).resolve_left (E5 h0))
theorem RdNs.notObj {w:Wq} {l:Nat} {o:Obj} (hl:w.heap[l]? =some o) (ho:o.isCells=false):∀x:List Nc,RdNs w x->awayNs (some l) x
 | [],_=>by rw[awayNs];trivial
 |x::t,h=>by
  rw[RdNs] at h
  rw[awayNs]
  exact ⟨RdN.notObj hl ho x h.1,RdNs.notObj hl ho t h.2⟩
end
theorem Zam {s l:Nat} {o:Obj} (h:w.ownsRow B e s v n xs) (D:w.heap[l]? =some o) (I:o.isCells=false):v.ownBlock≠some l:=by
 rcases h.2 with ⟨rfl,_⟩|⟨q,cap,F,rfl,_,H,_⟩
 ·simp[Value.ownBlock]
 ·intro A;simp only[Value.ownBlock,Xc] at A;subst A;rw[H] at D;cases D;cases I
theorem HNs.obj {l:Nat} {x:List Nc} {o o':Obj} (h:HNs w B v x) (A:w.heap[l]? =some o) (D:o.isCells=false):HNs (w.putObj l o') B v x:=
 h.grown (ZcD w l o') (Zam h.row A D) (RdNs.notObj A D x h.rd)
def newNs (B:Nat) (l:List Nc):Prop:=∀k,k<B->awayNs (some k) l
theorem newNs.nil (B:Nat):newNs B []:=λk _=>by rw[awayNs];trivial
theorem newNs.snoc {l:List Nc} {x:Nc} (h:newNs B l) (F:∀k,k<B->awayN (some k) x):newNs B (l++ [x]):=λk D=>(Z3 _).2 λy A=>by
 rcases Zu.1 A with A|A
 ·exact (Z3 l).1 (h k D) y A
 ·rw[Zo.1 A];exact F k D
theorem newNs.mono {l:List Nc} (h:newNs B l) (A:C<=B):newNs C l:=λk D=>h k (YQ D A)
theorem ZdU {KB:Option Addr} {al:Value} (h:w.ownsRow C 88 4 al n xs) (D:B<=C):(∀k,k<B->awayN (some k) (leafC KB kc al f))/\(∀k,k<B->awayN (some k) (leafC2 KB kc al f)):=by
 refine ⟨λk A=> ?_,λk A=> ?_⟩
 ·unfold leafC;rw[awayN];exact ⟨Or.inr (X7 h (by omega)),Or.inl rfl,by rw[awayNs];trivial⟩
 ·unfold leafC2;rw[awayN];exact ⟨Or.inr (X7 h (by omega)),Or.inl rfl,by rw[awayNs];trivial⟩
def foldC (al ks:Value) (kids:List Nc) (s:ByteArray):Nc:= .mk 0 [] outlineL al [pairA (textL,lst s)] ks kids [] 0
theorem ZiR {al ks:Value} {kids:List Nc} {s:ByteArray} (D:∀y∈kids,y.kind=0):(foldC al ks kids s).nd=withP (elemN outlineL (Nc.nds kids)) [(textL,lst s)]:=by
 have A:elems (Nc.nds kids):=λy h=>by rw[XX] at h;obtain ⟨z,F,rfl⟩:=ZO.1 h;rw[Zcu];exact D z F
 unfold elemN foldC;rw[Jz A,Nc.nd];rfl
theorem ZiS {al ks:Value} {kids:List Nc} {s:ByteArray} (h:w.ownsRow B 88 4 al 1 (flatA [pairA (textL,lst s)])) (A:w.ownsRow C 25 7 ks kids.length (flatN kids)) (D:RdNs w kids):RdN w (foldC al ks kids s):=by
 unfold foldC;rw[RdN];exact ⟨RSl.of_own h,RSl.of_own A,D⟩
theorem Zg9 {D:Nat} {al ks:Value} {kids:List Nc} {s:ByteArray} {I:List Value} (h:w.ownsRow B 88 4 al n xs) (J:D<=B) (F:w'.ownsRow C 25 7 ks m I) (K:D<=C) (H:newNs D kids):∀k,k<D->awayN (some k) (foldC al ks kids s):=λk A=>by
 unfold foldC;rw[awayN];exact ⟨Or.inr (X7 h (by omega)),Or.inr (X7 F (by omega)),H k A⟩
theorem Zhv {s:ByteArray} (h:s.toList.isEmpty=true):s.size=0:=by
 rw[Z7] at h;rw[List.isEmpty_iff] at h;show s.data.size=0;rw[<-Array.length_toList,h];rfl
theorem Zht {s:ByteArray} (h:s.toList.isEmpty=false):s.size≠0:=by
 rw[Z7] at h;intro e;have e:s.data.size=0:=e;rw[<-Array.length_toList] at e;rw[ZF e] at h;cases h
theorem Zgb (AB:Option Addr) (ac:Nat) (KB:Option Addr) (kc:Nat) (v:Value) (title id link:ByteArray) (w:Wq) (D:RAts w (.slice AB 3 ac) ([(typeL,rssL),(textL,lst title),(xmlUrlL,lst id)].map pairA)) (F:RStrs w v (pairS [(htmlUrlL,lst link)])):
 Calls prog 46 #[.agg #[nI 0,eS,.string ⟨#[111,117,116,108,105,110,101]⟩,.slice AB 3 ac,.slice KB 0 kc,eS,nI 0],v] w λe w'=>
  ∃A h,e= .returned (.agg #[nI 0,eS,.string ⟨#[111,117,116,108,105,110,101]⟩,.slice A 4 h,.slice KB 0 kc,eS,nI 0])/\w'.ownsRow w.heap.size 88 4 (.slice A 4 h) 4 (flatA ([(typeL,rssL),(textL,lst title),(xmlUrlL,lst id)].map pairA++ [(htmlUrlL,lst link)].map pairA))/\Ext w w':=
 IE (.slice AB 3 ac) ([(typeL,rssL),(textL,lst title),(xmlUrlL,lst id)].map pairA) KB 0 kc v [(htmlUrlL,lst link)] w D F (by show 3+1<=1000000;omega)
theorem Zio (KB:Option Addr) (n kc:Nat) (v:Value) (name:ByteArray) (w:Wq) (h:RStrs w v (pairS [(textL,lst name)])):
 Calls prog 46 #[.agg #[nI 0,eS,.string ⟨#[111,117,116,108,105,110,101]⟩,sN,.slice KB n kc,eS,nI 0],v] w λe w'=>
  ∃AB ac,e= .returned (.agg #[nI 0,eS,.string ⟨#[111,117,116,108,105,110,101]⟩,.slice AB 1 ac,.slice KB n kc,eS,nI 0])/\w'.ownsRow w.heap.size 88 4 (.slice AB 1 ac) 1 (flatA [pairA (textL,lst name)])/\Ext w w':=
 IE sN [] KB n kc v [(textL,lst name)] w (RAts.nil w) h (by show 0+1<=1000000;omega)
def ownN (d:Nat) (l:List Fd):Nat:=(l.takeWhile λx=>decide (x.path.length=d)).length
def okT:Nat->Nat->List Fd->Prop
 |0,_,_=>False
 |f+1,d,l=>(∀x∈l.drop (ownN d l),d<x.path.length)/\∀(v:Value) (L:List Fc),L.map Fc.f=l.drop (ownN d l)->∀g∈grps d (L.length+1) v L,okT f (d+1) (g.l.map Fc.f)
theorem Kh (d:Nat):∀(f:Nat) (v:Value) (l:List Fc),∀g∈grps d f v l,(∀y∈g.l,pathAt y.f d=g.name)/\g.l.Sublist l/\g.l≠ []
 |0,_,_,g,A=>by cases A
 |_+1,_,[],g,A=>by cases A
 |f+1,v,x::t,g,A=>by
  have F:0<runN d ((x::t).map Fc.f):=Zax d x.f (t.map Fc.f)
  rw[grps] at A
  rcases ZI.1 A with rfl|A
  ·refine ⟨λy J=> ?_,List.take_sublist _ _,?_⟩
   ·have h:=Zgn x.f (t.map Fc.f) d y.f
    refine h ?_
    have D:y.f∈((x::t).take (runN d ((x::t).map Fc.f))).map Fc.f:=Z9 J
    rw[List.map_take] at D
    exact D
   ·intro e
    have:=Zy List.length e
    rw[ZG] at this
    simp only[Ze,ZT] at this
    omega
  ·obtain ⟨H,D,I⟩:=Kh d f _ _ g A
   exact ⟨H,D.trans (List.drop_sublist _ _),I⟩
theorem Zji:∀(f d:Nat) (path:List ByteArray) (l:List Fd),path.length=d->65<=f+d->(f=0->l≠ [])->asc l->(∀x∈l,Pref path x/\x.path.length<=64)->okT f d l
 |0,d,path,l,hd,hf,hn,hs,hl=>by
  cases l with
  |nil=>exact absurd rfl (hn rfl)
  |cons x t=>
   have F:=(hl x ZS).1.len
   have H:=(hl x ZS).2
   omega
 |f+1,d,path,l,hd,hf,hn,hs,hl=>by
  have J:=KI hd hs λx D=>(hl x D).1
  rw[okT]
  refine ⟨J.2,λv L M g Q=> ?_⟩
  obtain ⟨F,H,K⟩:=Kh d _ v L g Q
  have I:(g.l.map Fc.f).Sublist (l.drop (ownN d l)):=by rw[<-M];exact H.map _
  refine Zji f (d+1) (path++ [g.name]) _ (by rw[Zd,hd];rfl) (by omega) (λ_=>by simpa using K) (Eo (I.trans (List.drop_sublist _ _)) hs) λx D=> ?_
  have h:=I.subset D
  have A:=YV h
  refine ⟨?_,(hl x A).2⟩
  obtain ⟨y,R,rfl⟩:=ZO.1 D
  rw[<-F y R]
  exact (hl y.f A).1.next hd (J.2 _ h)
theorem Zkx {l:List Fd} (h:okA l=true):okT 66 0 l:=
 Zji 66 0 [] l rfl (by omega) (λe=>by cases e) (Zgf h) λx A=>⟨⟨x.path,rfl⟩,(Zkv (Jq.1 ((Ve.1 h).1 x A)).1).2.2⟩
structure OutI (d:Nat) (l:List Fc) (w:Wq) (v0:Value) (j:Nat) (u:Value) (O:List Nc) (wr:Wq):Prop where
 left:RFcs w v0 (l.drop j)
 le:j<=l.length
 dcell:wr.heap[w.heap.size]? =some (.cells #[nI (d:Nat)] 3 (0,0))
 ucell:wr.heap[w.heap.size+1]? =some (.cells #[u] 23 (0,0))
 nodes:HNs wr (w.heap.size+2) u O
 nds:Nc.nds O=((l.take j).map Fc.f).map feedN
 kinds:∀y∈O,y.kind=0
 ext:Ext w wr
 size:w.heap.size+2<=wr.heap.size
 own:ownN d (l.map Fc.f)=j+(((l.map Fc.f).drop j).takeWhile λx=>decide (x.path.length=d)).length
 new:newNs (w.heap.size+2) O
theorem OutI.next {D:Wq} {I u8:Value} (h:OutI d l w v0 j u O wr) (F:j<l.length) (S:l[j]=x) (V:RFcs w I (l.drop (j+1)))
 (J:D.heap[w.heap.size]? =some (.cells #[nI (d:Nat)] 3 (0,0))) (M:D.heap[w.heap.size+1]? =some (.cells #[u] 23 (0,0))) (R:HNs D (w.heap.size+2) u8 (O++ [y])) (Z:y.nd=feedN x.f) (U:y.kind=0) (Q:Ext w D)
 (Y:w.heap.size+2<=D.heap.size) (X:x.f.path.length=d) (K:∀k,k<w.heap.size+2->awayN (some k) y):OutI d l w I (j+1) u8 (O++ [y]) (D.setCell ⟨w.heap.size+1,0,none⟩ u8):=by
 have A:=h.new.snoc K;refine ⟨V,F,(ZY D ⟨w.heap.size+1,0,none⟩ w.heap.size _ (by show w.heap.size≠w.heap.size+1;omega)).trans J,Yd D (w.heap.size+1) 0 _ _ _ M,R.cell (X7 R.row (by omega)) (A _ (by omega)),?_,?_,Q.setCell (by show w.heap.size<=w.heap.size+1;omega) _,by simpa [World.setCell] using Y,?_,A⟩
 ·rw[X5,h.nds,Zq F,ZK,ZK,S]
  congr 1
  rw[Nc.nds,Nc.nds,Z];rfl
 ·intro z H;rcases Zu.1 H with H|H
  ·exact h.kinds z H
  ·rw[Zo.1 H];exact U
 ·rw[h.own];refine Zgx (by rw[Zk];exact F) ?_;rw[Xv,S];simpa using X
theorem OutI.ext_ (h:OutI d l w v0 j u O wr) (A:Ext wr w'):OutI d l w v0 j u O w':=
 ⟨h.left,h.le,A.heap h.dcell,A.heap h.ucell,h.nodes.ext A,h.nds,h.kinds,h.ext.trans A,Zv h.size A.size,h.own,h.new⟩
theorem OutI.stop (h:OutI d l w v0 j u O wr) (A:j<l.length) (F:l[j]=x) (D:x.f.path.length≠d):ownN d (l.map Fc.f)=j:=by
 rw[h.own];refine Zgy (by rw[Zk];exact A) ?_;rw[Xv,F];simpa using D
theorem OutI.full (h:OutI d l w v0 j u O wr) (A:l.length<=j):ownN d (l.map Fc.f)=j:=by
 rw[h.own];exact ZjT (by rw[Zk];exact A)
structure FolI (f d:Nat) (own:List Nd) (w:Wq) (cb db:Nat) (s:List Grp) (u:Value) (O:List Nc) (wr:Wq):Prop where
 ucell:wr.heap[w.heap.size+1]? =some (.cells #[u] 23 (0,0))
 dcell:wr.heap[w.heap.size]? =some (.cells #[nI (d:Nat)] 3 (0,0))
 nodes:HNs wr (w.heap.size+2) u O
 nds:Nc.nds O=own++s.map λg=>withP (elemN outlineL (outsP f (d+1) (g.l.map Fc.f))) [(textL,lst g.name)]
 kinds:∀y∈O,y.kind=0
 ext:Ext w wr
 size:w.heap.size+2<=wr.heap.size
 new:newNs (w.heap.size+2) O
 cb_:u.ownBlock≠some cb
 db_:u.ownBlock≠some db
 cbs:awayNs (some cb) O
 lts:w.heap.size+2<=cb/\w.heap.size+2<=db/\cb<wr.heap.size/\db<wr.heap.size
section
variable {f d cb db:Nat} {own:List Nd} {w wr:World} {s:List Grp} {u:Value} {O:List Nc}
theorem FolI.ext_ (h:FolI f d own w cb db s u O wr) (A:Ext wr w'):FolI f d own w cb db s u O w':=
 ⟨A.heap h.ucell,A.heap h.dcell,h.nodes.ext A,h.nds,h.kinds,h.ext.trans A,Zv h.size A.size,h.new,h.cb_,h.db_,h.cbs,h.lts.1,h.lts.2.1,YQ h.lts.2.2.1 A.size,YQ h.lts.2.2.2 A.size⟩
theorem FolI.cell (h:FolI f d own w cb db s u O wr) (v:Value):FolI f d own w cb db s u O (wr.setCell ⟨cb,0,none⟩ v):=by
 have A:=h.lts;refine ⟨(ZY wr ⟨cb,0,none⟩ (w.heap.size+1) _ (by show w.heap.size+1≠cb;omega)).trans h.ucell,(ZY wr ⟨cb,0,none⟩ w.heap.size _ (by show w.heap.size≠cb;omega)).trans h.dcell,h.nodes.cell h.cb_ h.cbs,h.nds,h.kinds,h.ext.setCell (by show w.heap.size<=cb;omega) _,by simpa [World.setCell] using h.size,h.new,h.cb_,h.db_,h.cbs,by simpa [World.setCell] using A⟩
theorem Ext.putObj {a:Wq} (h:Ext a b) {l:Nat} {o:Obj} (D:a.heap.size<=l):Ext a (b.putObj l o):=
 h.then ⟨rfl,rfl,rfl,by rw[World.putObj_size];exact Zb _,λk A=>XS (by omega)⟩
theorem FolI.obj {l:Nat} {o o':Obj} (h:FolI f d own w cb db s u O wr) (A:wr.heap[l]? =some o) (F:o.isCells=false) (D:w.heap.size+2<=l):FolI f d own w cb db s u O (wr.putObj l o'):=
 ⟨(XS (by omega)).trans h.ucell,(XS (by omega)).trans h.dcell,h.nodes.obj A F,h.nds,h.kinds,h.ext.putObj (by omega),by rw[World.putObj_size];exact h.size,h.new,h.cb_,h.db_,h.cbs,by rw[World.putObj_size];exact h.lts⟩
theorem FolI.next {D:Wq} {u8:Value} {g:Grp} (h:FolI f d own w cb db s u O wr) (V:Ext w D) (Q:D.heap[w.heap.size]? =some (.cells #[nI (d:Nat)] 3 (0,0))) (U:D.heap[w.heap.size+1]? =some (.cells #[u] 23 (0,0))) (X:HNs D (w.heap.size+2) u8 (O++ [y]))
 (Z:y.nd=withP (elemN outlineL (outsP f (d+1) (g.l.map Fc.f))) [(textL,lst g.name)]) (R:y.kind=0) (hs:wr.heap.size<=D.heap.size) (J:∀k,k<wr.heap.size->awayN (some k) y) (M:u8.ownBlock=u.ownBlock\/∀k,u8.ownBlock=some k->wr.heap.size<=k):
 FolI f d own w cb db (s++ [g]) u8 (O++ [y]) (D.setCell ⟨w.heap.size+1,0,none⟩ u8):=by
 have I:=h.lts;have Y:=h.size;have H:=h.new.snoc λk R=>J k (by omega);have F:∀k,k<wr.heap.size->u.ownBlock≠some k->u8.ownBlock≠some k:=λk R S e=>by
  rcases M with K|K
  ·exact S (by rw[<-K];exact e)
  ·have:=K k e;omega
 refine ⟨Yd D (w.heap.size+1) 0 _ _ _ U,(ZY D ⟨w.heap.size+1,0,none⟩ w.heap.size _ (by show w.heap.size≠w.heap.size+1;omega)).trans Q,X.cell (X7 X.row (by omega)) (H _ (by omega)),?_,?_,V.setCell (by show w.heap.size<=w.heap.size+1;omega) _,?_,H,F cb I.2.2.1 h.cb_,F db I.2.2.2 h.db_,?_,I.1,I.2.1,?_,?_⟩
 ·rw[X5,h.nds,ZK,Ym]
  congr 2
  rw[Nc.nds,Nc.nds,Z];rfl
 ·intro z A;rcases Zu.1 A with A|A
  ·exact h.kinds z A
  ·rw[Zo.1 A];exact R
 ·show _<=(D.setCell _ _).heap.size;simp[World.setCell];omega
 ·refine (Z3 _).2 λz A=> ?_;rcases Zu.1 A with A|A
  ·exact (Z3 O).1 h.cbs z A
  ·rw[Zo.1 A];exact J cb I.2.2.1
 ·simp[World.setCell];omega
 ·simp[World.setCell];omega
end
theorem FolI.start {f:Nat} {F:Wq} (h:OutI d l w v0 j u O W) (D:Ext W F) (J:F.heap.size=W.heap.size+2):FolI f d (((l.take j).map Fc.f).map feedN) w W.heap.size (W.heap.size+1) [] u O F:=by
 have H:=h.size;have A:∀k,W.heap.size<=k->u.ownBlock≠some k:=λk I e=>by have:=(h.nodes.row.lt _ e).2;omega
 exact ⟨D.heap h.ucell,D.heap h.dcell,h.nodes.ext D,by rw[Yt,Ye];exact h.nds,h.kinds,h.ext.trans D,by omega,h.new,A _ (Zb _),A _ (Yc _),QV (w:=W) (λg e=>by injection e with e;omega) O h.nodes.rd,H,by omega,by omega,by omega⟩
theorem FolI.kp {f:Nat} {own:List Nd} {W':Wq} {s:List Grp} (h:FolI f d own w cb db s u O W) (D:Keep W W' (w.heap.size+1) u.ownBlock):Stays B W W'/\KpF w.heap.size cb db W W':=by
 have M:=h.lts;have K:=h.size;refine ⟨λk o _ H J=> ?_,D.os,D.tape,D.output,D.size,λk A=> ?_⟩
 ·have I:=Zam h.nodes.row H J;refine D.heap H (λe=> ?_) (λe=>I e.symm);subst e;rw[h.ucell] at H;cases H;cases J
 ·have F:u.ownBlock≠some k:=by
   rcases A with A|A|A
   ·exact X7 h.nodes.row (by omega)
   ·rw[A];exact h.cb_
   ·rw[A];exact h.db_
  exact D.block k (by omega) (by omega) (λe=>F e.symm)
theorem IQ (rec_:List Fd->List Nd) (d:Nat):∀(f g:Nat) (l:List Fd),l.length<f->l.length<g->foldsP rec_ d f l=foldsP rec_ d g l
 |0,_,l,h,_=>by omega
 |_,0,l,_,h=>by omega
 |f+1,g+1,[],_,_=>by rw[foldsP,foldsP]
 |f+1,g+1,x::t,hf,hg=>by
  have A:=Zcl x t d
  rw[foldsP,foldsP]
  (try dsimp only)
  rw[IQ rec_ d f g _ (by rw[Zm];rw[Ze] at hf|-;omega) (by rw[Zm];rw[Ze] at hg|-;omega)]
theorem FolI.done {f:Nat} (h:FolI f d (((l.take j).map Fc.f).map feedN) w cb db (grps d ((l.drop j).length+1) v0 (l.drop j)) u O W) (F:ownN d (l.map Fc.f)=j):Nc.nds O=outsP (f+1) d (l.map Fc.f):=by
 have D:(l.map Fc.f).takeWhile (λx=>decide (x.path.length=d))=(l.map Fc.f).take j:=by rw[<-F];exact Xn.1 (JQ _)
 have A:((l.map Fc.f).takeWhile λx=>decide (x.path.length=d)).length=j:=F;rw[h.nds,outsP,A,D,List.map_take]
 congr 1
 rw[<-List.map_drop,IQ _ d _ ((l.drop j).length+1) _ (by rw[Zk,Zm,Zk];omega) (by rw[Zk];omega),E9 _ d _ v0]
def zeroNc:Nc:= .mk 0 [] [] sN [] sN [] [] 0
theorem Zit (w:Wq):RdN w zeroNc:=by
 unfold zeroNc;rw[RdN];exact ⟨RAts.nil w,RNs.nil w,by rw[RdNs];trivial⟩
theorem ZeW (r:Option Nat):awayN r zeroNc:=by
 unfold zeroNc;rw[awayN];exact ⟨Or.inl rfl,Or.inl rfl,by rw[awayNs];trivial⟩
theorem Zbz:∀l:List Nc,(flatN l).length=l.length*7
 | []=>rfl
 |x::t=>by
  have e:flatN (x::t)=cellsN x++flatN t:=by unfold flatN;simp
  rw[e,Zd,JF,Zbz t,Ze]
  omega
theorem HNs.put_last {z:Nc} (h:HNs w B (.slice (some ⟨g,0,none⟩) (O.length+1) c) (O++ [z])) (M:RdN w y) (J:awayN (some g) y):
 HNs (w.setCells g (O.length*7) (cellsN y)) B (.slice (some ⟨g,0,none⟩) (O.length+1) c) (O++ [y]):=by
 have F:=h.row;rw[Zd,ZaT,UJ,UK] at F;have H:=Zec (cellsN y) (O.length*7) w _ F (by rw[JF];omega);have I:=Zbz O;rw[List.take_left' I,JF,Zw (by rw[Zd,I,JF];exact Zb _),Ye] at H;have K:=V6 g (cellsN y) (O.length*7) w;have A:∀x∈O++ [y],RdN w x/\awayN (some g) x:=λx D=>by
  rcases Zu.1 D with D|D
  ·exact ⟨(Xm _).1 h.rd x (XR _ D),(Z3 _).1 h.away x (XR _ D)⟩
  ·rw[Zo.1 D];exact ⟨M,J⟩
 refine ⟨?_,(Xm _).2 λx D=>RdN.grown K x (A x D).1 (A x D).2,(Z3 _).2 λx D=>(A x D).2⟩;rw[Zd,ZaT,UJ,UK];exact H
theorem Ext.puts {a:Wq} (A:a.heap.size<=g):∀(vs:List Value) (o:Nat) (b:Wq),Ext a b->Ext a (b.setCells g o vs)
 | [],_,_,h=>h
 |v::r,o,b,h=>Ext.puts A r (o+1) _ (h.setCell (by show a.heap.size<=g;exact A) v)
theorem Zix {D:Nat} (h:∀k,k<D->awayN (some k) y) (F:RdN w y) (A:∀k,r=some k->k<D):awayN r y:=by
 cases r with
 |none=>exact GG F
 |some k=>exact h k (A k rfl)
theorem FolI.leaf {f A J:Nat} {own:List Nd} {Q D:Wq} {s:List Grp} {G:Grp} (h:FolI f d own w cb db s u O W) (U:Ext W Q)
 (M:D.ownsRow (w.heap.size+2) 25 7 (.slice (some ⟨A,0,none⟩) (O.length+1) J) (O.length+1) (flatN O++cellsN zeroNc)) (R:Q.grownBy D u.ownBlock) (H:(Value.slice (some ⟨A,0,none⟩) (O.length+1) J).ownBlock=u.ownBlock\/(Value.slice (some ⟨A,0,none⟩) (O.length+1) J).ownBlock=some Q.heap.size)
 (hy:RdN Q y) (K:∀k,k<W.heap.size->awayN (some k) y) (he:y.nd=withP (elemN outlineL (outsP f (d+1) (G.l.map Fc.f))) [(textL,lst G.name)]) (X:y.kind=0):
 Stays B W ((D.setCells A (O.length*7) (cellsN y)).setCell ⟨w.heap.size+1,0,none⟩ (.slice (some ⟨A,0,none⟩) (O.length+1) J))/\KpF w.heap.size cb db W ((D.setCells A (O.length*7) (cellsN y)).setCell ⟨w.heap.size+1,0,none⟩ (.slice (some ⟨A,0,none⟩) (O.length+1) J))/\
  FolI f d own w cb db (s++ [G]) (.slice (some ⟨A,0,none⟩) (O.length+1) J) (O++ [y]) ((D.setCells A (O.length*7) (cellsN y)).setCell ⟨w.heap.size+1,0,none⟩ (.slice (some ⟨A,0,none⟩) (O.length+1) J)):=by
 have hp:=h.size;have hq:=U.size;have F:∀k,u.ownBlock=some k->w.heap.size+2<=k/\k<W.heap.size:=λk e=>h.nodes.row.lt k e;have hm:w.heap.size+2<=A:=(M.lt A rfl).1;have Y:=h.nodes.ext U;have V:awayN u.ownBlock y:=Zix K hy λk e=>(F k e).2;have Z:=HNs.snoc Y (Zit Q) (ZeW _) M R H;have hl:RdN D y:=RdN.grown R y hy V;have hb:awayN (some A) y:=by
  rcases H with e|e
  ·have e':some A=u.ownBlock:=e;rw[e'];exact V
  ·have e':some A=some Q.heap.size:=e;rw[e'];exact XW hy (Zb _)
 have ha:=Z.put_last hl hb;have I:=V6 A (cellsN y) (O.length*7) D;have hi:Ext w D:=Ext.app (h.ext.trans U) R Y.row (by omega);have hj:=Ext.puts (a:=w) (g:=A) (by omega) (cellsN y) (O.length*7) D hi;have hn:=R.size;have ho:=I.size;have hf:D.heap[w.heap.size+1]? =some (.cells #[u] 23 (0,0)):=(R.block _ (by omega) (λe=>by have:=(F _ e.symm).1;omega)).trans (U.heap h.ucell);have hc:D.heap[w.heap.size]? =some (.cells #[nI (d:Nat)] 3 (0,0)):=(R.block _ (by omega) (λe=>by have:=(F _ e.symm).1;omega)).trans (U.heap h.dcell);have hh:=(I.block (w.heap.size+1) (by omega) (λe=>by injection e with e;omega)).trans hf;have hd:=(I.block w.heap.size (by omega) (λe=>by injection e with e;omega)).trans hc;have S:Keep W ((D.setCells A (O.length*7) (cellsN y)).setCell ⟨w.heap.size+1,0,none⟩ (.slice (some ⟨A,0,none⟩) (O.length+1) J)) (w.heap.size+1) u.ownBlock:=by
  refine ((((Keep.of_ext (w.heap.size+1) u.ownBlock U).trans (Keep.of_grown _ R) λk e=>Or.inl e).trans (Keep.of_grown _ I) λk e=> ?_).cell_ 0 _);injection e with e;subst e;rcases H with e|e
  ·exact Or.inl e.symm
  ·have e':some A=some Q.heap.size:=e;injection e' with e';exact Or.inr (by omega)
 obtain ⟨k1,k2⟩:=h.kp (B:=B) S;refine ⟨k1,k2,h.next hj hd hh ha he X (by omega) K ?_⟩;rcases H with e|e
 ·exact Or.inl e
 ·refine Or.inr λk X=> ?_;rw[e] at X;injection X with X;omega
theorem ZcP (w:Wq) (a b:Addr) (u v:Value) (h:a.block≠b.block):(w.setCell a u).setCell b v=(w.setCell b v).setCell a u:=by
 unfold World.setCell
 congr 1
 apply Array.ext
 ·simp
 ·intro k F H;simp only[Array.getElem_modify];by_cases D:b.block=k
  ·by_cases A:a.block=k
   ·omega
   ·simp[D,A]
  ·by_cases A:a.block=k
   ·simp[D,A]
   ·simp[D,A]
theorem Gu (g:Nat) (a:Addr) (u:Value) (h:a.block≠g):∀(vs:List Value) (o:Nat) (w:Wq),(w.setCell a u).setCells g o vs=(w.setCells g o vs).setCell a u
 | [],_,_=>rfl
 |v::r,o,w=>by
  show ((w.setCell a u).setCell ⟨g,o,none⟩ v).setCells g (o+1) r=_
  rw[ZcP w a ⟨g,o,none⟩ u v h,Gu g a u h r]
  rfl
theorem Zjp {s:Nat} (h:w.ownsRow B e s v n xs) (F:0<n):∃g c,v= .slice (some ⟨g,0,none⟩) n c:=by
 rcases h.2 with ⟨rfl,D⟩|⟨g,cap,A,rfl,_⟩
 ·omega
 ·exact ⟨g,cap,rfl⟩
theorem FolI.len_ {f:Nat} {own:List Nd} {s:List Grp} (h:FolI f d own w cb db s u O wr):O.length=own.length+s.length:=by
 have A:=Zy List.length h.nds;rw[Jh,Zd,Zk] at A;exact A
theorem E7 (rec_:List Fd->List Nd) (d:Nat):∀(f:Nat) (l:List Fd),(foldsP rec_ d f l).length<=l.length
 |0,l=>by rw[foldsP];exact Zh _
 |f+1,[]=>by rw[foldsP];exact Zb _
 |f+1,x::t=>by
  have h:=Zcl x t d
  rw[foldsP]
  (try dsimp only)
  have ih:=E7 rec_ d f ((x::t).drop ((x::t).takeWhile λy=>decide (pathAt y d=pathAt x d)).length)
  rw[Zm] at ih
  rw[Ze] at ih|-
  rw[Ze] at*
  omega
theorem Zeb:∀(f d:Nat) (l:List Fd),(outsP f d l).length<=l.length
 |0,d,l=>by rw[outsP];exact Zh _
 |f+1,d,l=>by
  have h:=E7 (outsP f (d+1)) d (l.length+1) (l.drop (l.takeWhile λx=>decide (x.path.length=d)).length)
  have A:=(YF (λx:Fd=>decide (x.path.length=d)) (l:=l)).length_le
  rw[Zm] at h
  rw[outsP,Zd,Zk]
  omega
theorem ZdE (d:Nat):∀(f:Nat) (v:Value) (l:List Fc),(grps d f v l).length<=l.length
 |0,v,l=>by rw[grps];exact Zh _
 |f+1,v,[]=>by rw[grps];exact Zb _
 |f+1,v,x::t=>by
  have h:0<runN d ((x::t).map Fc.f):=Zax d x.f (t.map Fc.f)
  rw[grps,Ze]
  have ih:=ZdE d f (loV (runN d ((x::t).map Fc.f)) v) ((x::t).drop (runN d ((x::t).map Fc.f)))
  rw[Zm] at ih
  rw[Ze] at ih|-
  omega
theorem ZhS {s:Nat} (h:w.ownsRow B e s (.slice (some ⟨g,0,none⟩) n c) n xs) (K:j<n*s):(w.cell? ⟨g,j,none⟩).isSome=true/\w.frozen? ⟨g,j,none⟩=false:=by
 obtain ⟨g',F,A,J,H⟩:=ZfX h;injection A with A;subst A;refine ⟨?_,ZX H j⟩;have M:=h.1;obtain ⟨u,I⟩:∃u,xs[j]? =some u:=⟨xs[j]'(by omega),Zj _⟩;have D:=h.cells (g:=g) rfl j u I;rw[Ey] at D;rw[D];rfl
end
section
variable {a:Act} {d i k n:Nat} {o:Oper} {v:Value} {w w':World}
def lstOf (n:Nat) (base:Array Bool) (done:List Nat):Array Bool:=Array.ofFn (n:=n) λj=>base.getD j.val false||done.contains j.val
def actOf (a0:Act) (hs:List Nat) (dst:Nat->Nat) (done:List Nat) (vs:Nat->Value):Act:=
 {a0 with tmps:=Array.ofFn (n:=a0.tmps.size) λk=>match hs.find? (λi=>dst i==k.val && done.contains i) with|some i=>vs i|none=>a0.tmps.getD k.val undef}
def upd (vs:Nat->Value) (i:Nat) (v:Value):Nat->Value:=λj=>if j=i then v else vs j
def subs:List Nat->List (List Nat)
 | []=> [[]]
 |x::t=>subs t++(subs t).map (x:: ·)
theorem IL (p:Nat->Bool):∀h:List Nat,h.filter p∈subs h
 | []=>by simp[subs]
 |x::t=>by
  have ih:=IL p t
  rw[subs,Zu,List.filter_cons]
  split
  ·exact Or.inr (ZO.2 ⟨_,ih,rfl⟩)
  ·exact Or.inl ih
theorem ZbL {base:Array Bool} {d e:List Nat} (h:∀j,d.contains j=e.contains j):lstOf n base d=lstOf n base e:=by
 unfold lstOf
 congr 1
 funext j;rw[h]
theorem Zkq {base:Array Bool} {done:List Nat} (H:i<n):(lstOf n base done).setIfInBounds i true=lstOf n base (i::done):=by
 apply Array.ext
 ·simp[lstOf]
 ·intro k D F;simp only[lstOf,Array.size_setIfInBounds,Array.size_ofFn] at D F;rw[Array.getElem_setIfInBounds (by simpa [lstOf] using D)];simp only[lstOf,Array.getElem_ofFn];by_cases h:i=k
  ·subst h;simp
  ·have A:¬k=i:=λe=>h e.symm;simp[h,A]
theorem Zdt {A:List Nat} {p:Nat->Bool} (D:i∈A) (F:p i=true) (H:∀j∈A,p j=true->j=i):A.find? p=some i:=by
 cases h:A.find? p with
 |none=>exact absurd F (by simpa using List.find?_eq_none.1 h i D)
 |some j=>rw[H j (List.mem_of_find?_eq_some h) (List.find?_some h)]
theorem KT {p q:Nat->Bool}:∀{A:List Nat},(∀j∈A,p j=q j)->A.find? p=A.find? q
 | [],_=>rfl
 |x::t,h=>by rw[List.find?_cons,List.find?_cons,h x ZS,KT λj D=>h j (ZJ _ D)]
section
variable {a0:Act} {hs:List Nat} {dst:Nat→Nat} {done:List Nat} {vs:Nat→Value} {i k:Nat} {v:Value}
theorem Zj3 (D:∀i∈hs,∀j∈hs,dst i=dst j->i=j) (I:i∈hs):(actOf a0 hs dst done vs).put (some (dst i)) v=actOf a0 hs dst (i::done) (upd vs i v):=by
 unfold actOf Act.put;simp only
 congr 1
 apply Array.ext
 ·simp
 ·intro k H K;simp only[Array.size_setIfInBounds,Array.size_ofFn] at H K;rw[Array.getElem_setIfInBounds (by simpa using H)];simp only[Array.getElem_ofFn];by_cases A:dst i=k
  ·rw[Zl A,Zdt (i:=i) I (by simp[A]) (λj J F=>by
    simp only[Z2,JO] at F;exact D j J i I (F.1.trans A.symm))]
   simp[upd]
  ·rw[Zg A];have Q:hs.find? (λj=>dst j==k && (i::done).contains j)=hs.find? (λj=>dst j==k && done.contains j):=KT λj J=>by
    by_cases h:dst j=k
    ·have:j≠i:=λe=>A (by rw[<-e];exact h);simp[h,this]
    ·have M:(dst j==k)=false:=(by simpa using h);rw[M,Yq,Yq]
   rw[Q];cases hf:hs.find? (λj=>dst j==k && done.contains j) with
   |none=>rfl
   |some j=>have F:=List.find?_some hf;simp only[Z2,JO] at F;have:j≠i:=λe=>A (by rw[<-e];exact F.1);simp[upd,this]
theorem Zj2 (F:∀j∈hs,dst j≠k):(actOf a0 hs dst done vs).eval (.tmp k)=a0.eval (.tmp k):=by
 show (actOf a0 hs dst done vs).tmps.getD k undef=a0.tmps.getD k undef;unfold actOf;simp only;rw[JA,JA];by_cases h:k<a0.tmps.size
 ·rw[Array.getElem?_eq_getElem (by simpa using h),Array.getElem_ofFn];have A:hs.find? (λi=>dst i==k && done.contains i)=none:=List.find?_eq_none.2 λj D=>by have:=F j D;simp[this]
  simp only[A];rw[JA];rfl
 ·rw[Y5 (by simpa using h),Y5 (by omega)]
theorem Zj0 (h:∀i∈hs,∀j∈hs,dst i=dst j->i=j) (D:i∈hs) (H:i∈done) (A:dst i<a0.tmps.size):(actOf a0 hs dst done vs).eval (.tmp (dst i))=vs i:=by
 show (actOf a0 hs dst done vs).tmps.getD (dst i) undef=vs i;unfold actOf;simp only;rw[JA,Array.getElem?_eq_getElem (by simpa using A),Array.getElem_ofFn,Zdt (i:=i) D (by simp[H]) (λj I F=>by
  simp only[Z2,JO] at F;exact h j I i D F.1)]
 rfl
theorem Zj1:actOf a0 hs dst [] vs=a0:=by
 unfold actOf;cases a0 with
 |mk t d=>
  congr 1
  apply Array.ext
  ·simp
  ·intro k D h;simp only[Array.getElem_ofFn];have A:hs.find? (λi=>dst i==k && ([]:List Nat).contains i)=none:=List.find?_eq_none.2 λj _=>(by simp);simp only[A];rw[JA,Array.getElem?_eq_getElem h];rfl
end
theorem JH {A:Act} (h:A.eval (.tmp k)=v):A.tmps[k]?.getD undef=v:=by
 rw[<-JA];exact h
theorem IK {p:Nat->Bool} (H:p i=true):∀{A:List Nat},A.Nodup->i∈A->(A.filter λj=>p j && !(j==i)).length+1=(A.filter p).length
 |x::t,hn,hi=>by
  rw[List.nodup_cons] at hn
  rw[List.filter_cons,List.filter_cons]
  by_cases F:x=i
  ·subst F
   have J:t.filter (λj=>p j && !(j==x))=t.filter p:=List.filter_congr λj K=>by
    have:j≠x:=λe=>hn.1 (e▸K)
    simp[this]
   rw[J,H]
   simp
  ·have D:i∈t:=by
    rcases ZI.1 hi with h|h
    ·exact absurd h.symm F
    ·exact h
   have ih:=IK H hn.2 D
   have I:(x==i)=false:=(by simpa using F)
   rw[I]
   simp only[Bool.not_false,Bool.and_true]
   split<;>(try simp only[Ze])<;>omega
section
variable {P:Program} {md:Region.Mode} {Q:Exit→Act→World→Prop} {S:World→Prop} {T:Array Bool→Act→World→Prop}
def relOk (md:Region.Mode) (l:List Oper) (base:Array Bool) (hs:List Nat) (D:Nat->List Nat):Bool:=
 (subs hs).all λd=>d.length==hs.length||(!(Region.ready md l.toArray (lstOf l.length base d)).isEmpty && (Region.ready md l.toArray (lstOf l.length base d)).all λi=>hs.contains i && !d.contains i && (D i).all d.contains)
theorem Zgc {l:List Oper} {H:List Nat} {dst:Nat->Nat} {D:Nat->List Nat} {F:Nat->Value->Wq->Prop} {base:Array Bool} {a0:Act} {W0:Wq} (hm:H.Nodup)
 (V:∀i∈H,∀j∈H,dst i=dst j->i=j) (hq:∀i∈H,dst i<a0.tmps.size) (hn:∀i∈H,i<l.length) (ho:relOk md l base H D=true)
 (hF:∀i∈H,∀v w w',F i v w->Ext w w'->F i v w') (hS:∀w',Ext W0 w'->S w')
 (hp:∀i∈H,∀(A:Act) (w':Wq) (vs:Nat->Value),Ext W0 w'->(∀k,(∀j∈H,dst j≠k)->A.eval (.tmp k)=a0.eval (.tmp k))->(∀j∈D i,A.eval (.tmp (dst j))=vs j/\F j (vs j) w')->
  wpOp P l.toArray Q i (λa2 w2=>∃v,a2=A.put (some (dst i)) v/\Ext w' w2/\F i v w2) A w')
 (Z:∀vs w',Ext W0 w'->(∀i∈H,F i (vs i) w')->T (lstOf l.length base H) (actOf a0 H dst H vs) w'):
 ∀(f:Nat) (done:List Nat) (vs:Nat->Value) (w':Wq),(∀i∈done,i∈H)->f=(H.filter λj=> !done.contains j).length->Ext W0 w'->(∀i∈done,F i (vs i) w')->
  wpAnyC P md l.toArray Q S T f (lstOf l.length base done) (actOf a0 H dst done vs) w':=by
 intro f
 induction f with
 |zero=>
  intro done vs w' I hf hx M;have U:∀i∈H,i∈done:=λi hi=>by have h0:=ZF hf.symm;have:=(List.filter_eq_nil_iff.1 h0) i hi;simpa using this
  have hc:∀j,done.contains j=H.contains j:=λj=>by rw[Y4,Ja,Ja];exact ⟨I j,U j⟩
  show T _ _ _;have ha:actOf a0 H dst done vs=actOf a0 H dst H vs:=by
   unfold actOf
   congr 1
   congr 1
   funext k;rw[KT (p:=λi=>dst i==k.val && done.contains i) (q:=λi=>dst i==k.val && H.contains i) λj _=>by rw[hc]]
  rw[ZbL hc,ha];exact Z vs w' hx λi hi=>M i (U i hi)
 |succ f ih=>
  intro done vs w' I hf hx M;obtain ⟨d,hd⟩:∃d,H.filter (λj=>done.contains j)=d:=⟨_,rfl⟩;have R:∀j,j∈d↔j∈done:=λj=>by rw[<-hd,Xb,Ja];exact ⟨λh=>h.2,λh=>⟨I j h,h⟩⟩
  have hc:∀j,done.contains j=d.contains j:=λj=>by rw[Y4,Ja,Ja];exact (R j).symm
  have hg:¬d.length=H.length:=λe=>by have h1:d=H:=(by rw[<-hd] at e|-;exact (List.filter_sublist).eq_of_length e);have h2:(H.filter λj=> !done.contains j)= []:=List.filter_eq_nil_iff.2 λj J=>(by have:j∈done:=(R j).1 (h1▸J);simp[this]);rw[h2] at hf;cases hf
  have hk:=Yk.1 ho d (by rw[<-hd];exact IL _ H);simp only[Bool.or_eq_true,Z2,JO,hg,false_or] at hk;rw[<-ZbL hc] at hk;refine ⟨λh=>(by rw[h] at hk;exact absurd hk.1 (by simp)),λi hi=> ?_⟩;have he:=Yk.1 hk.2 i hi;simp only[Z2,I7] at he;obtain ⟨⟨h1,h2⟩,h3⟩:=he;have K:i∈H:=Ja.1 h1;have hh:i ∉ done:=λh=>by have:=Ja.2 ((R i).2 h);rw[this] at h2;cases h2
  have hD:∀j∈D i,j∈done:=λj J=>(R j).1 (Ja.1 (Yk.1 h3 j J));refine JJ (λa2 w2 h=> ?_) (hp i K (actOf a0 H dst done vs) w' vs hx (λk hl=>Zj2 hl) (λj J=>⟨Zj0 V (I j (hD j J)) (hD j J) (hq j (I j (hD j J))),M j (hD j J)⟩));obtain ⟨v,rfl,Y,hv⟩:=h;refine ⟨hS w2 (hx.trans Y),?_⟩;rw[Zj3 V K,Zkq (hn i K)];refine ih (i::done) (upd vs i v) w2 (λj J=> ?_) ?_ (hx.trans Y) (λj J=> ?_)
  ·rcases ZI.1 J with rfl|J
   ·exact K
   ·exact I j J
  ·have h4:=IK (p:=λj=> !done.contains j) (i:=i) (by simpa using hh) hm K;have h5:(H.filter λj=> !(i::done).contains j)=H.filter λj=> !done.contains j && !(j==i):=List.filter_congr λj _=>(by rw[List.contains_cons,Bool.not_or,Bool.and_comm]);rw[h5];omega
  ·by_cases X:j=i
   ·subst X;simpa [upd] using hv
   ·have hb:j∈done:=(ZI.1 J).resolve_left X;have:=hF j (I j hb) _ _ _ (M j hb) Y;simpa [upd,X] using this
theorem Qf {l:List Oper} {listed:Array Bool} {f:Nat} (H:List Nat) (dst:Nat->Nat) (D:Nat->List Nat) (F:Nat->Value->Wq->Prop) (hf:f=H.length) (Z:lstOf l.length listed []=listed) (M:H.Nodup)
 (K:∀i∈H,∀j∈H,dst i=dst j->i=j) (V:(H.all λi=>decide (dst i<a.tmps.size))=true) (hn:∀i∈H,i<l.length) (R:relOk md l listed H D=true)
 (Y:∀i∈H,∀v w w',F i v w->Ext w w'->F i v w') (hS:∀w',Ext w w'->S w')
 (U:∀i∈H,∀(A:Act) (w':Wq) (vs:Nat->Value),Ext w w'->(∀k,(∀j∈H,dst j≠k)->A.eval (.tmp k)=a.eval (.tmp k))->(∀j∈D i,A.eval (.tmp (dst j))=vs j/\F j (vs j) w')->
  wpOp P l.toArray Q i (λX w2=>∃v,X=A.put (some (dst i)) v/\Ext w' w2/\F i v w2) A w')
 (I:∀vs w',Ext w w'->(∀i∈H,F i (vs i) w')->T (lstOf l.length listed H) (actOf a H dst H vs) w'):wpAnyC P md l.toArray Q S T f listed a w:=by
 have h:=Zgc (T:=T) (base:=listed) (a0:=a) (W0:=w) M K (λi J=>YG (Yk.1 V i J)) hn R Y hS U I f [] (λ_=>undef) w (by intro i J;cases J) (by rw[hf];exact (Zy List.length (List.filter_eq_self.2 λj _=>rfl)).symm) (Ext.refl w) (by intro i J;cases J);rw[Zj1,Z] at h;exact h
theorem Vg {l:List Oper} {A:Act} {F:Value->Wq->Prop} (S:l[i]? =some o) (U:o.dst=some d)
 (h:∀K:Act->Wq->Prop,(∀v w2,Ext w' w2->F v w2->K (A.put (some d) v) w2)->if Region.wanted o (yielded l.toArray A.tmps) then Oper.wp P o A w' K Q else K (A.put o.dst undef) w'):
 wpOp P l.toArray Q i (λH w2=>∃v,H=A.put (some d) v/\Ext w' w2/\F v w2) A w':=by
 have I:l.toArray[i]? =some o:=by rw[Yl];exact S
 have D:=h (λH w2=>∃v,H=A.put (some d) v/\Ext w' w2/\F v w2) λv w2 M R=>⟨v,rfl,M,R⟩;unfold wpOp;simp only[I];split
 ·rename_i J;rw[Zl J] at D;exact Or.inl D
 ·rename_i J;rw[Zg J] at D;exact D
end
end
end Go.Proofs.YtnlafkgkcnenfaaGreatDoor
