/- Parts of the proof: contracts and plain laws. -/
import Derived.Test.YtnlafkgkcnenfaaGreatDoorT18
import Derived.Test.YtnlafkgkcnenfaaGreatDoorT22
import Derived.Test.YtnlafkgkcnenfaaGreatDoorT23
namespace Go.Proofs.YtnlafkgkcnenfaaGreatDoor
open Go Go.RowKit Tryz
set_option linter.unusedVariables false
set_option linter.unusedSimpArgs false
set_option linter.unusedSimpArgs false
set_option maxRecDepth 100000
set_option maxHeartbeats 16000000
theorem Ze6:∀(l:List Fd) (k:Nat) (A:k<l.length),(∀e∈l.take k,errF e=0)->errF l[k]≠0->errFs l=errF l[k]
 | [],k,A,_,_=>by simp at A
 |e::t,0,_,_,h=>by simp only[errFs];rw[Ze (by simpa using h)];rfl
 |e::t,k+1,A,h,h2=>by
  simp only[errFs]
  rw[Zi (h e (by simp)),Ze6 t k (by simpa using A) (λx D=>h x (by simp[D])) (by simpa using h2)]
  rfl
theorem Xy:(prog.info? 31).map (λi=>i.size)=some 1:=by kernel_rfl
theorem Zkr:∀(L:List Fc) (l:List Fd),L.map Fc.f=l->allE L=(l.map λf=>f.ents.length).sum
 | [],_,h=>by subst h;rfl
 |x::t,_,h=>by subst h;unfold allE;rw[X1];rfl
theorem II:∀(l:List Fc),((l.map λx=>collF x.f).map λf=>f.ents.length).sum<=allE l
 | []=>Zb _
 |x::t=>by
  have h:=II t
  have A:(collF x.f).ents.length<=x.f.ents.length:=by
   show (ordE.canon (x.f.ents.map collE)).length<=_
   have:=IM ordE (x.f.ents.map collE)
   rwa [Zm] at this
  unfold allE at*
  simp only[Zw,Yn] at h|-
  omega
theorem Za4 (l:List Ent):∀u∈flatE l,u.oneCell'=true:=by
 intro u h;unfold flatE at h;obtain ⟨c,A,h⟩:=ZmW.1 h;obtain ⟨e,_,rfl⟩:=ZS.1 A;exact XL e u h
section
variable {k n:Nat} {l:List Fc}
def ewide (e:Ent):Prop:=i64ok e.upd/\e.id.size<=reachBytes/\e.title.size<=reachBytes/\e.link.size<=reachBytes/\e.content.size<=reachBytes
def fwide (f:Fd):Prop:=i64ok f.upd/\f.path.length<=reachBytes/\(∀s∈f.path,s.size<=reachBytes)/\f.id.size<=reachBytes/\f.title.size<=reachBytes/\f.link.size<=reachBytes/\f.ents.length<=reachBytes/\∀e∈f.ents,ewide e
def capN (n:Nat):Nat:=1+min n 9000
def bigE (e:Ent):Nat:=capN (e.id.size+e.title.size+e.link.size+e.content.size)
def bigP (l:List ByteArray):Nat:=(l.map λs=>capN s.size).sum
def bigEs (l:List Ent):Nat:=(l.map bigE).sum
def bigH (f:Fd):Nat:=capN (f.id.size+f.title.size+f.link.size)
def bigF (f:Fd):Nat:=bigH f+bigP f.path+bigEs f.ents
def bigL (l:List Fd):Nat:=(l.map bigF).sum
theorem Zao {l:List Nat} (h:n∈l):n<=l.sum:=by
 induction l with
 |nil=>simp at h
 |cons x t ih=>
  rw[Yn];rcases ZK.1 h with h|h
  ·omega
  ·have:=ih h;omega
theorem ZaE:∀{l:List ByteArray},bigP l<=5000->l.length+sizes l<=bigP l
 | [],_=>by simp[sizes,bigP]
 |s::t,h=>by
  have e:bigP (s::t)=capN s.size+bigP t:=by unfold bigP;simp
  have e2:sizes (s::t)=s.size+sizes t:=by unfold sizes;simp
  rw[e] at h|-
  have ih:=ZaE (l:=t) (by omega)
  unfold capN at h|-
  rw[e2,Zd]
  omega
theorem Zcx:∀(l:List Ent),l.length<=bigEs l
 | []=>by simp
 |s::t=>by
  have e:bigEs (s::t)=bigE s+bigEs t:=by unfold bigEs;simp
  have ih:=Zcx t
  rw[e,Zd]
  unfold bigE capN
  omega
theorem Zku {l:List Ent} {e:Ent} (h:e∈l):bigE e<=bigEs l:=Zao (ZS.2 ⟨e,h,rfl⟩)
theorem ZeK {l:List Fd} {f:Fd} (h:f∈l):bigF f<=bigL l:=Zao (ZS.2 ⟨f,h,rfl⟩)
theorem ZgN {e:Ent} (h:bigE e<=5000):e.id.size+e.title.size+e.link.size+e.content.size<=5000:=by
 unfold bigE capN at h;omega
theorem Zj7 {e:Ent} (A:i64ok e.upd) (h:bigE e<=5000):eok e:=⟨A,by have:=ZgN h;omega⟩
theorem Zj8 {f:Fd} (D:fwide f) (h:bigF f<=5000):fokS f:=by
 have H:bigH f+bigP f.path+bigEs f.ents<=5000:=h;have J:=ZaE (l:=f.path) (by omega);have F:bigH f<=5000:=by omega
 unfold bigH capN at F;have I:=Zcx f.ents;refine ⟨⟨D.1,by omega⟩,by omega,λe A=>Zj7 (D.2.2.2.2.2.2.2 e A).1 ?_⟩;have:=Zku A;omega
theorem Zix (h:k<l.length):bigL ((l.take (k+1)).map Fc.f)=bigL ((l.take k).map Fc.f)+bigF l[k].f:=by
 rw[Zn h];unfold bigL;simp only[ZN,Jw,Zw,Yc,Yn,List.sum_nil,Nat.add_zero]
theorem Zl7 (l:List Fc) (k:Nat):bigL ((l.take k).map Fc.f)<=bigL (l.map Fc.f):=by
 have e:bigL (l.map Fc.f)=bigL ((l.take k).map Fc.f)+bigL ((l.drop k).map Fc.f):=by unfold bigL;rw[<-Jw,<-ZN,<-ZN,Yy]
 omega
theorem Ziy {l:List ByteArray} (h:k<l.length):bigP (l.take (k+1))=bigP (l.take k)+capN l[k].size:=by
 rw[Zn h];unfold bigP;simp only[ZN,Jw,Zw,Yc,Yn,List.sum_nil,Nat.add_zero]
theorem ZgO {l:List Ent} (h:k<l.length):bigEs (l.take (k+1))=bigEs (l.take k)+bigE l[k]:=by
 rw[Zn h];unfold bigEs;simp only[ZN,Jw,Zw,Yc,Yn,List.sum_nil,Nat.add_zero]
theorem Zkv (l:List Ent) (k:Nat):bigEs (l.take k)<=bigEs l:=by
 have e:bigEs l=bigEs (l.take k)+bigEs (l.drop k):=by unfold bigEs;rw[<-Jw,<-ZN,Yy]
 omega
theorem Zh3 (n:Nat):capN n<=9001:=by unfold capN;omega
theorem Ziw (D:∀x∈l,fwide x.f) (h:bigL (l.map Fc.f)<=5000):∀x∈l,fokS x.f:=λx A=>Zj8 (D x A) (Zt (ZeK (ZS.2 ⟨x,A,rfl⟩)) h)
end
theorem Zlq {s:List Ent} {e:Ent} (A:∀x∈s,eok x) (D:eok e):∀z∈ordE.put s e,eok z:=by
 intro z F;rcases (Ord.mem_ins _ _ _ _).1 F with h|h
 ·rw[h];exact ZbI s e A D
 ·exact A z (ZbJ s e z h)
theorem Zc0:∀(l s:List Ent),(∀x∈l,eok x)->(∀x∈s,eok x)->∀z∈l.foldl ordE.put s,eok z
 | [],s,_,hs=>hs
 |e::t,s,hl,hs=>Zc0 t _ (λx h=>hl x (Zu _ h)) (Zlq hs (hl e (ZF ..)))
def hokF (f:Fd):Prop:=(fok f/\f.path.length<=1000000)/\∀e∈f.ents,eok e
theorem Zjh {a b:Fd} (h:hokF a) (A:hokF b):hokF (joinF a b):=by
 refine ⟨⟨Zbn h.1.1 A.1.1,?_⟩,Zc0 _ _ A.2 h.2⟩;show (laterF a b).path.length<=1000000;unfold laterF;dsimp only;split
 ·exact A.1.2
 ·exact h.1.2
def sumE (l:List Fd):Nat:=(l.map λf=>f.ents.length).sum
theorem VM (f:Fd) (t:List Fd):sumE (f::t)=f.ents.length+sumE t:=by unfold sumE;simp
theorem Zji (a b:Fd):(joinF a b).ents.length<=a.ents.length+b.ents.length:=V7 ordE b.ents a.ents
theorem Em:∀(l:List Fd) (e:Fd),(∀x∈l,hokF x)->hokF e->hokF (ordF.scan l e).2
 | [],_,_,h=>h
 |x::t,e,hl,h=>by
  unfold Ord.scan
  split
  ·exact Em t _ (λy A=>hl y (Zu _ A)) (Zjh (hl x (ZF ..)) h)
  ·exact Em t e (λy A=>hl y (Zu _ A)) h
theorem En:∀(l:List Fd) (e:Fd),sumE (ordF.scan l e).1+(ordF.scan l e).2.ents.length<=sumE l+e.ents.length
 | [],e=>by simp[Ord.scan,sumE]
 |x::t,e=>by
  have h:ordF.op x e=joinF x e:=rfl
  unfold Ord.scan
  split
  ·have A:=En t (ordF.op x e)
   have D:=Zji x e
   rw[VM]
   rw[h] at A|-
   omega
  ·have A:=En t e
   simp only[VM]
   omega
theorem Zfs:∀(l:List Fd) (e:Fd),sumE (ordF.ins l e)=sumE l+e.ents.length
 | [],e=>by simp[Ord.ins,sumE]
 |x::t,e=>by
  have ih:=Zfs t e
  unfold Ord.ins
  split
  ·simp only[VM];omega
  ·simp only[VM];omega
theorem Zls (l:List Fd) (e:Fd):sumE (ordF.put l e)<=sumE l+e.ents.length:=by
 unfold Ord.put;rw[Zfs];exact En l e
theorem Zlr {l:List Fd} {e:Fd} (D:∀x∈l,hokF x) (F:hokF e):∀z∈ordF.put l e,hokF z:=by
 intro z H;rcases (Ord.mem_ins _ _ _ _).1 H with h|h
 ·rw[h];exact Em l e D F
 ·have A:∀(l:List Fd) (e z:Fd),z∈(ordF.scan l e).1->z∈l:=by
   intro l
   induction l with
   |nil=>intro e z h;simp[Ord.scan] at h
   |cons y t ih=>
    intro e z h;unfold Ord.scan at h;split at h
    ·exact Zu _ (ih _ z h)
    ·rcases ZK.1 h with h|h
     ·rw[h];exact ZF ..
     ·exact Zu _ (ih _ z h)
  exact D z (A l e z h)
section
attribute [local go_sem ↓] Go.wp_at_zero Go.wp_at_succ
attribute [local go_sem] calm1
end
theorem Zc3:∀(l s:List Fd),sumE (l.foldl ordF.put s)<=sumE s+sumE l
 | [],s=>by simp[sumE]
 |e::t,s=>by
  have h:=Zc3 t (ordF.put s e)
  have A:=Zls s e
  rw[List.foldl_cons,VM]
  omega
theorem Zc2:∀(l s:List Fd),(∀x∈l,hokF x)->(∀x∈s,hokF x)->∀z∈l.foldl ordF.put s,hokF z
 | [],_,_,hs=>hs
 |e::t,s,hl,hs=>Zc2 t _ (λx h=>hl x (Zu _ h)) (Zlr hs (hl e (ZF ..)))
theorem ZgS (l:List Fd):sumE (ordF.canon l)<=sumE l:=by
 have h:=Zc3 l [];have A:sumE []=0:=rfl;show sumE (l.foldl ordF.put [])<=_;omega
theorem ZgR {l:List Fd} (h:∀x∈l,hokF x):∀z∈ordF.canon l,hokF z:=Zc2 l [] h (by simp)
theorem ZiB {f:Fd} (h:fokS f) (D:f.path.length<=1000000):hokF (collF f):=by
 have A:=ZcZ h;refine ⟨⟨A.1,?_⟩,A.2.2⟩;show (f.path.map collapse).length<=1000000;rw[Zm];exact D
theorem Zkh (l:List Fc):sumE (l.map λx=>collF x.f)<=allE l:=II l
section
variable {α:Type}
def WrV (w:Wq) (B:Nat) (v:Value) (m:Nat):Prop:=∀j,j<m->∃(ad:Addr) (n c:Nat) (u:Value),v= .slice (some ad) n c/\B<=ad.block/\w.cell? (ad.add j)=some u/\w.frozen? (ad.add j)=false
theorem WrV.zero (w:Wq) (B:Nat) (v:Value):WrV w B v 0:=λj h=>absurd h (Nat.not_lt_zero _)
theorem WrV.mono {w:Wq} {B B':Nat} {v:Value} {m:Nat} (h:WrV w B v m) (H:B'<=B):WrV w B' v m:=λj I=>
 let ⟨ad,n,c,u,e,A,D,F⟩:=h j I;⟨ad,n,c,u,e,Zt H A,D,F⟩
theorem WrV.ext {a b:Wq} {B:Nat} {v:Value} {m:Nat} (h:WrV a B v m) (D:Ext a b):WrV b B v m:=λj I=>
 let ⟨ad,n,c,u,e,F,A,H⟩:=h j I
 ⟨ad,n,c,u,e,F,D.cell A,(JA D (ZV a _ A)).trans H⟩
theorem WrV.grown {a b:Wq} {B:Nat} {v:Value} {m:Nat} {r:Option Nat} (h:WrV a B v m) (I:a.grownBy b r) (F:m=0\/v.ownBlock≠r):WrV b B v m:=λj Q=>by
 obtain ⟨ad,n,c,u,rfl,J,H,K⟩:=h j Q;have A:=ZV a _ H;have D:some (ad.add j).block≠r:=by
  rw[UD];rcases F with F|F
  ·omega
  ·exact F
 exact ⟨ad,n,c,u,rfl,J,(I.cell_far _ A D).trans H,(I.frozen_far _ A D).trans K⟩
theorem WrV.setCell {w:Wq} {B:Nat} {v:Value} {m:Nat} (h:WrV w B v m) (p:Addr) (x:Value):WrV (w.setCell p x) B v m:=λj H=>by
 obtain ⟨ad,n,c,u,rfl,A,D,F⟩:=h j H;by_cases e:p=ad.add j
 ·subst e;exact ⟨ad,n,c,x,rfl,A,GV _ _ _ D,by rw[XH];exact F⟩
 ·exact ⟨ad,n,c,u,rfl,A,(YP _ _ _ _ e).trans D,by rw[XH];exact F⟩
theorem WrV.setS:∀(l:List (Addr×ByteArray)) {w:Wq} {B:Nat} {v:Value} {m:Nat},WrV w B v m->WrV (setS w l) B v m
 | [],_,_,_,_,h=>h
 |p::t,_,_,_,_,h=>WrV.setS t (h.setCell p.1 _)
theorem WrV.own {w:Wq} {B:Nat} {e:TypeId} {size n:Nat} {v:Value} {xs:List Value} (h:w.ownsRow B e size v n xs):WrV w B v (n*size):=λj D=>by
 have J:0<n:=Nat.pos_of_ne_zero λF=>by rw[F,Xa] at D;exact Nat.not_lt_zero _ D
 obtain ⟨g,cap,rfl,H,_⟩:=Zip h J;have A:(⟨g,0,none⟩:Addr).add j=⟨g,j,none⟩:=by unfold Addr.add;split<;>simp_all
 have I:j<xs.length:=by rw[h.1];exact D
 exact ⟨⟨g,0,none⟩,n,cap,xs[j],rfl,H,by rw[A,h.cellAt j D];exact Zl I,by rw[A];exact h.frozenAt j⟩
def WcF (w:Wq) (B:Nat) (y:Fc):Prop:=WrV w B y.p y.f.path.length/\WrV w B y.es (y.f.ents.length*5)
theorem WcF.ext {a b:Wq} {B:Nat} {y:Fc} (h:WcF a B y) (A:Ext a b):WcF b B y:=⟨h.1.ext A,h.2.ext A⟩
theorem WcF.mono {w:Wq} {B B':Nat} {y:Fc} (h:WcF w B y) (A:B'<=B):WcF w B' y:=⟨h.1.mono A,h.2.mono A⟩
theorem ZaC {l:List α} {P:Prop} (h:l= []\/P):l.length=0\/P:=h.imp (λe=>by rw[e];rfl) λe=>e
theorem IK {l:List α} {P:Prop} (h:l= []\/P):l.length*5=0\/P:=h.imp (λe=>by rw[e];rfl) λe=>e
theorem WcF.grown {a b:Wq} {B:Nat} {y:Fc} {r:Option Nat} (h:WcF a B y) (D:a.grownBy b r) (A:awayC y r):WcF b B y:=⟨h.1.grown D (ZaC A.1),h.2.grown D (IK A.2)⟩
end
section
variable {W:World} {cap g:Nat} {v:Value} {z:ByteArray}
theorem Zb6 (w:Wq) (B:Nat):WcF w B zeroC:=⟨WrV.zero _ _ _,WrV.zero _ _ _⟩
theorem Zd0 {b:Nat} {A:Option Addr} {l:List ByteArray} {x y:ByteArray} {p e t:Value} (hE:Env W) (hP:Ptrs W v (ptrsF g b l x y z)) (I:g≠b)
 (hA:0<l.length->A=some ⟨g,0,none⟩) (hr:RStrs W (.slice A l.length cap) l)
 (R:W.cell? ⟨b,0,none⟩=some p) (V:W.cell? ⟨b,1,none⟩=some (.string x)) (X:W.cell? ⟨b,2,none⟩=some (.string y)) (Y:W.cell? ⟨b,3,none⟩=some (.string z)) (Z:W.cell? ⟨b,4,none⟩=some t) (h5:W.cell? ⟨b,5,none⟩=some e) (U:W.frozen? ⟨b,5,none⟩=false)
 (hz:firstErr (l++ [x,y,z])=0):
 Calls prog 103 #[v] W λu w'=>u= .returned (nI 0)/\RStrs w' (.slice A l.length cap) (l.map collapse)/\
  (w'.cell? ⟨b,0,none⟩=some p/\w'.cell? ⟨b,1,none⟩=some (.string (collapse x))/\w'.cell? ⟨b,2,none⟩=some (.string (collapse y))/\w'.cell? ⟨b,3,none⟩=some (.string (collapse z))/\w'.cell? ⟨b,4,none⟩=some t/\w'.cell? ⟨b,5,none⟩=some e)/\
  w'.frozen? ⟨b,5,none⟩=false/\(∀a:Wq,Ext a W->a.heap.size<=g->a.heap.size<=b->Ext a w')/\(∀k o,k≠g->k≠b->W.heap[k]? =some o->w'.heap[k]? =some o)/\(∀B v m,WrV W B v m->WrV w' B v m):=by
 refine (JD v _ W hE hP).mono ?_;rintro u w' ⟨q1,q2⟩;rw[Eh,hz] at q1 q2;rw[ZjW] at q2;rcases q2 with ⟨_,q2⟩|⟨q2,_⟩
 ·have F:Ext (setS W (ptrsF g b (l.map collapse) (collapse x) (collapse y) (collapse z))) w':=by unfold Ext;rw[Gt];exact q2
  have D:l.length=(l.map collapse).length:=by simp
  have S:=ZjX (l:=l.map collapse) (x:=collapse x) (y:=collapse y) (z:=collapse z) (A:=A) (cap:=cap) (ll:=l) I D (by rw[<-D];exact hA) (by rw[<-D];exact hr) R V X Y Z h5 F;rw[<-D] at S;obtain ⟨s0,s1⟩:=S;have H:b<W.heap.size:=ZV W _ R;refine ⟨q1,s0,s1,?_,λa ha hc hb=> ?_,λk o J K ho=> ?_,λB v m h=>(WrV.setS _ h).ext F⟩
  ·rw[JA F (by rw[Gt];exact H),Q6];exact U
  ·refine Ext.trans (Ext.setS _ ha λq Q=> ?_) F;rcases Zdw Q with e|e<;>rw[e]<;>assumption
  ·refine F.heap ?_;rw[Qu _ _ _ λq Q=> ?_]
   ·exact ho
   ·rcases Zdw Q with e|e<;>rw[e]
    ·exact λe=>J e.symm
    ·exact λe=>K e.symm
 ·exact absurd rfl q2
theorem Zcd (x:Fc) (w:Wq) (hE:Env w) (hk:fokS x.f) (hr:RdC w x) (gw:x.f.ents.length<=1\/LatE):
 Calls prog 63 #[.agg (cellsC x).toArray] w λe w'=>∃y:Fc,e= .returned (.tuple #[.agg (cellsC y).toArray,nI (errF x.f:Nat)])/\y.f=normF x.f/\RdC w' y/\(∀g,g<w.heap.size->awayC y (some g))/\WcF w' w.heap.size y/\Ext w w':=by
 obtain ⟨i0,hR,hV,hu,hW⟩:=Yu Zml;obtain ⟨i1,fJ,fO,fP,fQ⟩:=Yu KQ;obtain ⟨p,es,f⟩:=x;obtain ⟨F,hF⟩:∃F,f=F:=⟨_,rfl⟩;obtain ⟨EF,gu⟩:∃n,errF F=n:=⟨_,rfl⟩;obtain ⟨NF,gx⟩:∃n,normF F=n:=⟨_,rfl⟩;have e1:errF f=EF:=by rw[hF];exact gu
 have e2:normF f=NF:=by rw[hF];exact gx
 simp only[e1,e2];have h1:=gd gu;have hY:=gd gx;clear e1 e2 gu gx;have hA:Hid (∀n,errF F=n->n≠0->normF F=zeroF):=gd λn h h'=>by unfold normF;rw[h,Ze h']
 obtain ⟨path,id,title,link,upd,ents⟩:=f;obtain ⟨gk,gj⟩:=hr;obtain ⟨⟨fN,fg⟩,g6,gC⟩:=hk;simp only at gk gj fg g6 gC gw;have ft:=gd gw;clear gw;have fV:path.length<=16777216:=by omega
 have fA:Hid (∀s∈path++ [id,title,link],s.size<=16777216):=gd (by
  intro s hs;rcases Zx.1 hs with hs|hs
  ·have:=XZ hs;omega
  ·simp only[ZK,Z2,Xc] at hs;rcases hs with rfl|rfl|rfl<;>omega)
 have gO:=gd gC;have gL:=gd (λ(w':Wq) (h:Ext w w')=>Gg p path.length (path.map Value.string) w' (gk.ext h) (ZmI path) (by omega));have fx:=gd gj;have HF:=gd hF;obtain ⟨pA,pc,gE,_,_⟩:=gk.form;obtain ⟨eA,ec,fH,_,_⟩:=gj.form;subst gE fH;clear gk gj gC fg fN hF;unfold cellsC fCells;dsimp only;go_enter func63,ntmps63
 go_wp2_with (go_at_call 33;refine (gL.out _ (((Ext.refl w).alloc _).alloc _)).mono ?_;rintro e w1 ⟨p1,rfl,hS,gf⟩;(obtain ⟨A1,V,gE⟩:∃A c,p1= .slice A path.length c:=(by obtain ⟨A,c,e,_⟩:=(RSl.of_own hS).2;exact ⟨A,c,e⟩));subst gE;(have hj:=((Ext.refl _).alloc _).trans gf);(have c0:=hj.boxed 0 _ rfl);(have c1:=hj.boxed 1 _ rfl);(have c2:=hj.boxed 2 _ rfl);(have c3:=hj.boxed 3 _ rfl);(have c4:=hj.boxed 4 _ rfl);(have c5:=hj.boxed 5 _ rfl);(have f0:=hj.boxedF 0);(have f1:=hj.boxedF 1);(have f2:=hj.boxedF 2);(have f3:=hj.boxedF 3);(have f5:=hj.boxedF 5))
 obtain ⟨W1,Y⟩:∃W,W=w1.setCell ⟨w.heap.size,0,none⟩ (.slice A1 path.length V):=⟨_,rfl⟩;rw[<-Y];have hD:w1.ownsRow (w.heap.size+2) 9 1 (.slice A1 path.length V) path.length (path.map Value.string):=XM hS (by rw[Zp,Zp];exact Zb _);have b0:W1.cell? ⟨w.heap.size,0,none⟩=some (.slice A1 path.length V):=by rw[Y];exact GV _ _ _ c0
 have b1:W1.cell? ⟨w.heap.size,1,none⟩=some (.string id):=by rw[Y,YP _ _ _ _ (by simp)];exact c1
 have b2:W1.cell? ⟨w.heap.size,2,none⟩=some (.string title):=by rw[Y,YP _ _ _ _ (by simp)];exact c2
 have b3:W1.cell? ⟨w.heap.size,3,none⟩=some (.string link):=by rw[Y,YP _ _ _ _ (by simp)];exact c3
 have b4:W1.cell? ⟨w.heap.size,4,none⟩=some (nI upd):=by rw[Y,YP _ _ _ _ (by simp)];exact c4
 have b5:W1.cell? ⟨w.heap.size,5,none⟩=some (.slice eA ents.length ec):=by rw[Y,YP _ _ _ _ (by simp)];exact c5
 have g1:W1.frozen? ⟨w.heap.size,1,none⟩=false:=by rw[Y,XH];exact f1
 have g2:W1.frozen? ⟨w.heap.size,2,none⟩=false:=by rw[Y,XH];exact f2
 have g3:W1.frozen? ⟨w.heap.size,3,none⟩=false:=by rw[Y,XH];exact f3
 have g5:W1.frozen? ⟨w.heap.size,5,none⟩=false:=by rw[Y,XH];exact f5
 have I:W1.ownsRow (w.heap.size+2) 9 1 (.slice A1 path.length V) path.length (path.map Value.string):=by rw[Y];exact VJ hD (a:=⟨w.heap.size,0,none⟩) (λe=>absurd (hD.lt _ e).1 (show ¬(w.heap.size+2<=w.heap.size) by omega)) _
 have fi:W1.heap[w.heap.size+1]? =some (.cells #[sN,eS,eS,eS,nI 0,sN] 55):=by
  rw[Y,ZZ _ _ _ _ (by simp)];refine gf.heap ?_;have:=Zg (w.alloc (.cells #[.slice pA path.length pc,.string id,.string title,.string link,nI upd,.slice eA ents.length ec] 55)) (.cells #[sN,eS,eS,eS,nI 0,sN] 55)
  rwa [Zp] at this
 have gJ:Ext w W1:=by rw[Y];exact Ext.setCell ((((Ext.refl w).alloc _).alloc _).trans gf) (Zb _) _
 have gW:=hE.ext gJ;have fY:w.heap.size+2<=W1.heap.size:=by rw[Y];have:=gf.size;rw[Zp,Zp] at this;show w.heap.size+2<=(w1.heap.modify _ _).size;rw[Array.size_modify];exact this
 obtain ⟨g,g7,fU⟩:∃g,(0<path.length->A1=some ⟨g,0,none⟩)/\w.heap.size+2<=g:=by
  rcases YO path.length with h0|h0
  ·exact ⟨w.heap.size+2,λh=>by omega,Zb _⟩
  ·obtain ⟨g,cap,e,hb,_⟩:=Zip I h0;injection e with e1 e2 e3;exact ⟨g,λ_=>e1,hb⟩
 have gm:=gd I;have h6:Hid (WrV W1 (w.heap.size+2) (.slice A1 path.length V) path.length):=gd (by have h:=WrV.own I;rwa [Nat.mul_one] at h);have hC:=gd g7;have hw:=gd gJ;have gQ:=gd gW;clear Y hS hD I c0 c1 c2 c3 c4 c5 f0 f1 f2 f3 f5 hj gf gJ gW g7 gL;go_loopw [4,19] (λo i wr=>∃k:Nat,k<=path.length/\i=nI k/\wr.ownsRow W1.heap.size 157 1 o k (((ptrsAt g 0 path).take k).map λq=>Value.pointer (some q.1))/\Ext W1 wr) (λ_ i _=>path.length - (intOf i).toNat)
 case atStart=>exact ⟨0,Zh _,rfl,YL _ _ _ _,Ext.refl _⟩
 case round=>
  obtain ⟨k,hk,rfl,I,hx⟩:=hrel;by_cases hK:k<path.length
  ·have gs:=hC.out (by omega);subst gs;have d0:=hx.cell b0;have g9:(0:Int)<=(k:Int):=(by omega);have fa:(k:Int)<(path.length:Int):=(by omega);have gF:=Zf6 g path k hK;obtain ⟨X,hX⟩:∃X,((ptrsAt g 0 path).take k).map (λq=>Value.pointer (some q.1))=X:=⟨_,rfl⟩;rw[hX] at I gF;have fy:=gd gF;have hl:Hid ((k+1)*8<=140737488355328):=gd (by omega);have hm:Hid (k+1<=maxLen):=gd (by unfold maxLen;omega);have Q:=gd I;have hh:=gd hx;have hws:=hx.size;clear gF hX I
   go_wp2_with (first|(at_builtin;refine ZP _ rfl (.tmp 22) (.tmp 27) _ rfl W1.heap.size 157 i0 _ 1 8 underlying156 hR hV hu hW rfl (by decide) _ k X rfl (Q.out.alloc _) _ 1 [.pointer (some ⟨g,k,none⟩)] rfl (Yq rfl (by decide)) (by intro y hy;simp at hy;subst hy;rfl) hm.out hl.out ?_ ?_;(simp;omega);intro v3 w3 H hc hp;(have D:Ext W1 w3:=Ext.app (hh.out.alloc _) hc (Q.out.alloc _) (Zb _))))
   go_roundw
   case rel=>exact ⟨k+1,hK,by go_num,by rw[fy.out];exact H,D⟩
   case measure=>simp[intOf];omega
  have gD:k=path.length:=by omega
  subst gD;rw[ZR (by rw[Qe];exact Zb _)] at I;have d0:=hx.cell b0;have d1:=hx.cell b1;have d2:=hx.cell b2;have d3:=hx.cell b3;have d4:=hx.cell b4;have d5:=hx.cell b5;obtain ⟨X,hX⟩:∃X,(ptrsAt g 0 path).map (λq=>Value.pointer (some q.1))=X:=⟨_,rfl⟩;rw[hX] at I;have fd:(ptrsF g w.heap.size path id title link).map (λq=>Value.pointer (some q.1))=X++ [.pointer (some ⟨w.heap.size,1,none⟩),.pointer (some ⟨w.heap.size,2,none⟩),.pointer (some ⟨w.heap.size,3,none⟩)]:=by unfold ptrsF;rw[ZN,hX];rfl
  have fw:=gd fd;have Q:=gd I;have hh:=gd hx;have hws:=hx.size;have hl:Hid ((path.length+3)*8<=140737488355328):=gd (by omega);have hm:Hid (path.length+3<=maxLen):=gd (by unfold maxLen;omega);have gn:g≠w.heap.size:=by omega
  have hP:∀(w4:Wq) (v4:Value),Ext W1 w4->w4.ownsRow W1.heap.size 157 1 v4 (path.length+3) (X++ [.pointer (some ⟨w.heap.size,1,none⟩),.pointer (some ⟨w.heap.size,2,none⟩),.pointer (some ⟨w.heap.size,3,none⟩)])->Ptrs w4 v4 (ptrsF g w.heap.size path id title link):=by intro w4 v4 R hU;have gy:w.heap.size<W1.heap.size:=(by omega);refine ZkO (A:=A1) (cap:=V) gn hC.out (Ye gm.out R) (R.cell b1) (R.cell b2) (R.cell b3) ((JA R gy).trans g1) ((JA R gy).trans g2) ((JA R gy).trans g3) fA.out ?_;rw[fw.out];exact RSl.of_own hU
  have HP:=gd hP;have go:RStrs W1 (.slice A1 path.length V) path:=RSl.of_own gm.out;have fz:=gd go;have HB:=gd (Vz b0 (Vz b1 (Vz b2 (Vz b3 (Vz b4 b5)))));have fq:=gd g5;have h4:=gd fi;clear hX fd I hP go b0 b1 b2 b3 b4 b5 g1 g2 g3 g5 fi hx;by_cases h0:firstErr (path++ [id,title,link])=0;have g8:errF F=if collapse id=noS\/(path.any λp=>decide (collapse p=noS))=true then 19 else if 64<path.length then 9 else if inT upd=true then errEs ents else 3:=by
   rw[<-HF.out];unfold errF headF strsF;simp only[h0,ne_eq,not_true_eq_false,Vq];split
   ·rfl
   ·split
    ·rfl
    ·split<;>rfl
  have h2:=gd g8;have ga:((path.map collapse).any λs=>decide (s=⟨#[]⟩))=path.any λp=>decide (collapse p=noS):=by rw[List.any_map];rfl
  obtain ⟨Bp,gt⟩:∃B,(path.any λp=>decide (collapse p=noS))=B:=⟨_,rfl⟩;rw[gt] at ga;have hH:=gd ga;have gK:=gd gt;have HT:=gd (λw'=>G8 upd w');have hM:=gd (λ(w4:Wq) (v4:Value) (R:Ext W1 w4) hU=>Zd0 (W:=w4) (v:=v4) (g:=g) (b:=w.heap.size) (cap:=V) (A:=A1) (l:=path) (x:=id) (y:=title) (z:=link) (gQ.out.ext R) (HP.out w4 v4 R hU) gn hC.out (fz.out.ext R) (R.cell HB.out.1) (R.cell HB.out.2.1) (R.cell HB.out.2.2.1) (R.cell HB.out.2.2.2.1) (R.cell HB.out.2.2.2.2.1) (R.cell HB.out.2.2.2.2.2) ((JA R (show w.heap.size<W1.heap.size by omega)).trans fq.out) h0);clear g8 ga gt h0;obtain ⟨ci,gh⟩:∃c,collapse id=c:=⟨_,rfl⟩;obtain ⟨ct,gA⟩:∃c,collapse title=c:=⟨_,rfl⟩;obtain ⟨cl,gz⟩:∃c,collapse link=c:=⟨_,rfl⟩;rw[gh,gA,gz] at hM;rw[gh] at h2;have fl:=gd gh;have fm:=gd gA;have gM:=gd gz;clear gh gA gz;by_cases hZ:ci=noS
  focus
   subst hZ
   have fL:noS.toList= []:=(by rw[X3];rfl)
   unfold noS at hM
   have he:errF F=19:=by
    rw[h2.out]
    rw[Zi (Or.inl rfl)]
   have HN:=gd (hA.out _ he (by decide))
   have hi:=h1.out.symm.trans he
   subst hi
   clear he
   go_wp2_with (first|(at_builtin;refine ZP _ rfl (.tmp 30) (.tmp 34) _ rfl W1.heap.size 157 i0 _ 1 8 underlying156 hR hV hu hW rfl (by decide) _ path.length X rfl (Q.out.alloc _) _ 3 [.pointer (some ⟨w.heap.size,1,none⟩),.pointer (some ⟨w.heap.size,2,none⟩),.pointer (some ⟨w.heap.size,3,none⟩)] rfl (Yq rfl (by decide)) (by intro y hy;simp at hy;rcases hy with rfl|rfl|rfl<;>rfl) hm.out hl.out ?_ ?_;(simp;omega);intro v3 w3 H hc hp;(have D:Ext W1 w3:=Ext.app (hh.out.alloc _) hc (Q.out.alloc _) (Zb _)))|(go_at_call 103;(have K:=hM.out _ _ D H);(with_reducible refine Za K ?_);clear K;rintro e w5 ⟨rfl,S,⟨q0,q1,q2,q3,q4,q5⟩,f5,hg,hd,hf⟩;(have h7:=gd (hf _ _ _ (h6.out.ext D)));clear hf;(have ht:Ext w w5:=hg w (hw.out.trans D) (by omega) (Zb _));(have Z:=hd (w.heap.size+1) _ (by omega) (by omega) (D.heap h4.out));(have HC:=gd (JU (w:=w5) (g:=g) (n:=path.length) (c:=V) (A:=A1) (l:=path.map collapse) ⟨#[]⟩ (by simp) (by simpa using hC.out) S (by simp;omega)));rw[hH.out] at HC;clear hg hd)|(refine Zf rfl 55 (.tmp 2) (.tmp 51) rfl (w.heap.size+1) _ rfl rfl _ _ Z JF rfl ZfW ?_))
  rotate_left
  have fL:=Vs hZ;have gR:=gd hZ;clear hZ;cases Bp;have gY:¬(ci=noS\/(path.any λp=>decide (collapse p=noS))=true):=by
   rintro (h|h)
   ·exact gR.out h
   ·rw[gK.out] at h;cases h
  have gq:=gd gY;clear gY;by_cases gi:64<path.length
  focus
   have g0:(64:Int)<(path.length:Int):=(by omega)
   have he:errF F=9:=by
    rw[h2.out]
    rw[Ze gq.out,Zi gi]
   have HN:=gd (hA.out _ he (by decide))
   have hi:=h1.out.symm.trans he
   subst hi
   clear he
   go_wp2_with (first|(at_builtin;refine ZP _ rfl (.tmp 30) (.tmp 34) _ rfl W1.heap.size 157 i0 _ 1 8 underlying156 hR hV hu hW rfl (by decide) _ path.length X rfl (Q.out.alloc _) _ 3 [.pointer (some ⟨w.heap.size,1,none⟩),.pointer (some ⟨w.heap.size,2,none⟩),.pointer (some ⟨w.heap.size,3,none⟩)] rfl (Yq rfl (by decide)) (by intro y hy;simp at hy;rcases hy with rfl|rfl|rfl<;>rfl) hm.out hl.out ?_ ?_;(simp;omega);intro v3 w3 H hc hp;(have D:Ext W1 w3:=Ext.app (hh.out.alloc _) hc (Q.out.alloc _) (Zb _)))|(go_at_call 103;(have K:=hM.out _ _ D H);(with_reducible refine Za K ?_);clear K;rintro e w5 ⟨rfl,S,⟨q0,q1,q2,q3,q4,q5⟩,f5,hg,hd,hf⟩;(have h7:=gd (hf _ _ _ (h6.out.ext D)));clear hf;(have ht:Ext w w5:=hg w (hw.out.trans D) (by omega) (Zb _));(have Z:=hd (w.heap.size+1) _ (by omega) (by omega) (D.heap h4.out));(have HC:=gd (JU (w:=w5) (g:=g) (n:=path.length) (c:=V) (A:=A1) (l:=path.map collapse) ⟨#[]⟩ (by simp) (by simpa using hC.out) S (by simp;omega)));rw[hH.out] at HC;clear hg hd)|(go_at_call 104;(have K:=HC.out);(with_reducible refine Za K ?_);clear K;rintro e w6 ⟨rfl,rfl⟩)|(refine Zf rfl 55 (.tmp 2) (.tmp 57) rfl (w.heap.size+1) _ rfl rfl _ _ Z JF rfl ZfW ?_))
  rotate_left
  have g0:¬(64:Int)<(path.length:Int):=by omega
  cases hti:inT upd
  focus
   rw[hti] at HT
   have he:errF F=3:=by
    rw[h2.out]
    rw[Ze gq.out,Ze gi,hti];rfl
   have HN:=gd (hA.out _ he (by decide))
   have hi:=h1.out.symm.trans he
   subst hi
   clear he
   go_wp2_with (first|(at_builtin;refine ZP _ rfl (.tmp 30) (.tmp 34) _ rfl W1.heap.size 157 i0 _ 1 8 underlying156 hR hV hu hW rfl (by decide) _ path.length X rfl (Q.out.alloc _) _ 3 [.pointer (some ⟨w.heap.size,1,none⟩),.pointer (some ⟨w.heap.size,2,none⟩),.pointer (some ⟨w.heap.size,3,none⟩)] rfl (Yq rfl (by decide)) (by intro y hy;simp at hy;rcases hy with rfl|rfl|rfl<;>rfl) hm.out hl.out ?_ ?_;(simp;omega);intro v3 w3 H hc hp;(have D:Ext W1 w3:=Ext.app (hh.out.alloc _) hc (Q.out.alloc _) (Zb _)))|(go_at_call 103;(have K:=hM.out _ _ D H);(with_reducible refine Za K ?_);clear K;rintro e w5 ⟨rfl,S,⟨q0,q1,q2,q3,q4,q5⟩,f5,hg,hd,hf⟩;(have h7:=gd (hf _ _ _ (h6.out.ext D)));clear hf;(have ht:Ext w w5:=hg w (hw.out.trans D) (by omega) (Zb _));(have Z:=hd (w.heap.size+1) _ (by omega) (by omega) (D.heap h4.out));(have HC:=gd (JU (w:=w5) (g:=g) (n:=path.length) (c:=V) (A:=A1) (l:=path.map collapse) ⟨#[]⟩ (by simp) (by simpa using hC.out) S (by simp;omega)));rw[hH.out] at HC;clear hg hd)|(go_at_call 104;(have K:=HC.out);(with_reducible refine Za K ?_);clear K;rintro e w6 ⟨rfl,rfl⟩)|(go_at_call 105;refine (HT.out _).mono ?_;rintro e w6 ⟨rfl,rfl⟩)|(refine Zf rfl 55 (.tmp 2) (.tmp 63) rfl (w.heap.size+1) _ rfl rfl _ _ Z JF rfl ZfW ?_))
  rotate_left
  ·rw[hti] at HT;have he:errF F=errEs ents:=(by rw[h2.out,Ze gq.out,Ze gi,hti,Zi rfl]);have hi:=h1.out.symm.trans he;subst hi;have gN:=gd he;clear he hti gi
   go_wp2_with (first|(at_builtin;refine ZP _ rfl (.tmp 30) (.tmp 34) _ rfl W1.heap.size 157 i0 _ 1 8 underlying156 hR hV hu hW rfl (by decide) _ path.length X rfl (Q.out.alloc _) _ 3 [.pointer (some ⟨w.heap.size,1,none⟩),.pointer (some ⟨w.heap.size,2,none⟩),.pointer (some ⟨w.heap.size,3,none⟩)] rfl (Yq rfl (by decide)) (by intro y hy;simp at hy;rcases hy with rfl|rfl|rfl<;>rfl) hm.out hl.out ?_ ?_;(simp;omega);intro v3 w3 H hc hp;(have D:Ext W1 w3:=Ext.app (hh.out.alloc _) hc (Q.out.alloc _) (Zb _)))|(go_at_call 103;(have K:=hM.out _ _ D H);(with_reducible refine Za K ?_);clear K;rintro e w5 ⟨rfl,S,⟨q0,q1,q2,q3,q4,q5⟩,f5,hg,hd,hf⟩;(have h7:=gd (hf _ _ _ (h6.out.ext D)));clear hf;(have ht:Ext w w5:=hg w (hw.out.trans D) (by omega) (Zb _));(have Z:=hd (w.heap.size+1) _ (by omega) (by omega) (D.heap h4.out));(have HC:=gd (JU (w:=w5) (g:=g) (n:=path.length) (c:=V) (A:=A1) (l:=path.map collapse) ⟨#[]⟩ (by simp) (by simpa using hC.out) S (by simp;omega)));rw[hH.out] at HC;clear hg hd)|(go_at_call 104;(have K:=HC.out);(with_reducible refine Za K ?_);clear K;rintro e w6 ⟨rfl,rfl⟩)|(go_at_call 105;refine (HT.out _).mono ?_;rintro e w6 ⟨rfl,rfl⟩))
   have gU:=gd ht;have gT:=gd S;have fn:=gd (hE.ext ht);have HC:=();have hL:=gd (Vz q0 (Vz q1 (Vz q2 (Vz q3 (Vz q4 q5)))));have fp:=gd f5;have gV:=gd Z;have fW:w.heap.size+2<=w6.heap.size:=(by have:=(Zv.1 Z).1;omega);clear D H hc hp S q0 q1 q2 q3 q4 q5 f5 Z ht;go_loopw [7,67] (λo i wr=>∃k:Nat,k<=ents.length/\i=nI k/\OEnts wr w6.heap.size o ((ents.take k).map collE)/\Hid (∀e∈ents.take k,errE e=0)/\Ext w6 wr) (λ_ i _=>ents.length - (intOf i).toNat)
   case atStart=>exact ⟨0,Zh _,rfl,OEnts.nil _ _,gd (by simp),Ext.refl _⟩
   case round=>
    obtain ⟨k,hk,rfl,I,hJ,hx⟩:=hrel;have fh:Ext w wr:=gU.out.trans hx;by_cases hK:k<ents.length
    ·obtain ⟨ad,c',hv,gX⟩:=(fx.out.ext fh).at hK;injection hv with hv1 hv2 hv3;subst hv1;clear hv2 hv3;have gG:=Zn hK;have gb:=Ze5 ents k hK hJ.out;have gB:=gO.out _ (ZE hK);obtain ⟨e,g4⟩:∃e,ents[k]=e:=⟨_,rfl⟩;rw[g4] at gX gG gb gB;have fb:eokS e:=(by obtain ⟨_,h⟩:=gB;exact ⟨by omega,by omega,by omega,by omega⟩);have h3:=gd (λ(w':Wq) (h:Ext w w')=>Zcc e w' (hE.ext h) fb);have fB:=gd gG;have gp:=gd gb;have hw:=gd fh;have hh:=gd hx;have Q:=gd I;have ge:((ents.take k).map collE).length=k:=(by rw[Zm,ZL];omega);have hl:Hid ((((ents.take k).map collE).length+1)*72<=140737488355328):=gd (by rw[ge];omega);have hm:Hid (((ents.take k).map collE).length+1<=maxLen):=gd (by rw[ge];unfold maxLen;omega);have g9:(0:Int)<=(k:Int):=(by omega);have fa:(k:Int)<(ents.length:Int):=(by omega);have hws:=hx.size;clear gG gb gB fb g4 I ge;obtain ⟨a0,a1,a2,a3,a4⟩:=gX;obtain ⟨E,h5⟩:∃E,errE e=E:=⟨_,rfl⟩;rw[h5] at h3 gp;have gl:=gd h5;obtain ⟨N,hN⟩:∃N,normE e=N:=⟨_,rfl⟩;rw[hN] at h3;have fv:=gd hN;clear hN h5;obtain ⟨O,hO⟩:∃O,(ents.take k).map collE=O:=⟨_,rfl⟩;rw[hO] at Q hl hm;have HO:=gd hO;clear hO;obtain ⟨h8,ha,ho,J,hI⟩:=e;simp only at a0 a1 a2 a3 a4;unfold eCells at h3;dsimp only at h3;by_cases h9:E=0
     ·subst h9
      go_wp2_with (first|(go_at_call 106;(have K:=h3.out _ (hw.out.trans ((Ext.refl wr).alloc (.cells #[.string h8,.string ha,.string ho,.string J,nI hI] 76))));(with_reducible refine Za K ?_);clear K;rintro e w8 ⟨rfl,gH⟩;(have hB:=((Ext.refl wr).alloc (.cells #[.string h8,.string ha,.string ho,.string J,nI hI] 76)).trans gH);(have gS:=gd (OEnts.ext Q.out hB));(have fC:=gd (hh.out.trans hB));(have fX:=hB.size))|(at_builtin;refine ZP _ rfl (.tmp 80) (.tmp 82) _ rfl w6.heap.size 76 i1 _ 5 72 underlying53 fJ fO fP fQ rfl (by decide) _ _ (flatE O) rfl ((Ye gS.out ((Ext.refl _).alloc _)).alloc _) _ 1 (eCells N) rfl (X8 (e:=76) (fr:=(0,0)) (cs:=eCells N) (YI _ _ _) rfl (by decide)) (XL _) hm.out hl.out ?_ ?_;(simp;omega);intro v9 w9 hG fI fS;(have gI:Ext w6 w9:=Ext.app ((fC.out.alloc _).alloc _) fI ((Ye gS.out ((Ext.refl _).alloc _)).alloc _) (Zb _))))
      go_roundw
      case rel=>
       have fE:N=collE ⟨h8,ha,ho,J,hI⟩:=(by rw[<-fv.out];unfold normE;rw[Zi gl.out]);have hT:=fB.out;have hO:=HO.out;refine ⟨k+1,hK,by go_num,?_,gd λx hx=> ?_,gI⟩
       ·rw[hT,ZN,hO,Zw,Yc,<-fE];exact OEnts.snoc hG
       ·rw[hT] at hx;rcases Zx.1 hx with hx|hx
        ·exact hJ.out x hx
        ·rw[Zo.1 hx];exact gl.out
      case measure=>simp[intOf];omega
     ·have hb:((E:Int) !=0)=true:=(by simp;omega);have he:errF F=E:=gN.out.trans (gp.out h9);have HN:=gd (hA.out _ he h9);have fo:=gd (gp.out h9);clear he h9
      go_wp2_with (first|(go_at_call 106;(have K:=h3.out _ (hw.out.trans ((Ext.refl wr).alloc (.cells #[.string h8,.string ha,.string ho,.string J,nI hI] 76))));(with_reducible refine Za K ?_);clear K;rintro e w8 ⟨rfl,gH⟩;(have hB:=((Ext.refl wr).alloc (.cells #[.string h8,.string ha,.string ho,.string J,nI hI] 76)).trans gH);(have fj:=(((hh.out.trans hB).alloc (.cells (eCells N).toArray 76))).heap gV.out))|(refine Zf rfl 55 (.tmp 2) (.tmp 78) rfl (w.heap.size+1) _ rfl rfl _ _ fj JF rfl ZfW ?_))
      ((try simp only[Exit.inBlock,Exit.then]);refine Zy (Yp rfl _ _ _ _ _ _ _ rfl (Zz _ _ _ _ _ _ fj) underlying55 rfl JF) rfl ?_);exact ⟨zeroC,by rw[fo.out];rfl,HN.out.symm.trans hY.out,Zb5 _,λ_ _=>Ko _,Zb6 _ _,((hw.out.trans hB).alloc _).setRow (by omega) _⟩
    ·have gD:k=ents.length:=(by omega);subst gD;rw[ZR (Zb _)] at I hJ;have gc:errEs ents=0:=ZaV.2 hJ.out;have fc:normF F=collF F:=(by unfold normF;rw[Zi (gN.out.trans gc)]);have gZ:collF F=⟨path.map collapse,ci,ct,cl,upd,ordE.canon (ents.map collE)⟩:=(by rw[<-HF.out,<-fl.out,<-fm.out,<-gM.out];rfl);have fu:=gd (fc.trans gZ);have gg:=gd (KG _ (ents.map collE) wr (fn.out.ext hx) I.reads (λx hx=>by
      obtain ⟨e,he,rfl⟩:=ZS.1 hx;exact Ze4 (gO.out e he)) (by rw[Zm];exact g6) (by rw[Zm];exact ft.out))
     have q0:=hx.cell hL.out.1;have gP:=gd gc;have hh:=gd hx;have hws:=hx.size;have fG:w.heap.size<w6.heap.size:=(by omega);clear fc gZ gc I hJ
     go_wp2_with (first|(go_at_call 68;(have K:=gg.out);(with_reducible refine Za K ?_);clear K;rintro e w9 ⟨fT,rfl,hG,gI⟩;(obtain ⟨zA,zc,fR,_,_⟩:=hG.reads.form);subst fR;(have U:=hh.out.trans gI);(have r0:=U.cell hL.out.1);(have r1:=U.cell hL.out.2.1);(have r2:=U.cell hL.out.2.2.1);(have r3:=U.cell hL.out.2.2.2.1);(have r4:=U.cell hL.out.2.2.2.2.1);(have r5:=U.cell hL.out.2.2.2.2.2);(have s5:=(JA U fG).trans fp.out);(have fk:=U.heap gV.out);(have gr:=gd hG))|(refine Zf rfl 55 (.tmp 2) (.tmp 88) rfl (w.heap.size+1) _ rfl rfl _ _ ((ZZ _ _ _ _ (by simp)).trans fk) JF rfl ZfW ?_))
     ((try simp only[Exit.inBlock,Exit.then]);refine Zy (Yp rfl _ _ _ _ _ _ _ rfl (Zz _ _ _ _ _ _ ((ZZ _ _ _ _ (by simp)).trans fk)) underlying55 rfl JF) rfl ?_);have ff:=gT.out.ext U;have fe:=gr.out.reads;have fK:=gr.out.lt;have hQ:∀q,q<w.heap.size+2->awayC ⟨.slice A1 path.length V,.slice zA (ordE.canon (ents.map collE)).length zc,⟨path.map collapse,ci,ct,cl,upd,ordE.canon (ents.map collE)⟩⟩ (some q):=by
      intro q hq;refine ⟨?_,Or.inr λe=> ?_⟩
      ·rcases YO path.length with h|h
       ·exact Or.inl (by rw[Zr h];rfl)
       ·refine Or.inr λe=> ?_;have gs:=hC.out h;subst gs;injection e with e;simp only at e;omega
      ·have:=(fK q e).1;omega
     have fM:RdC w9 ⟨.slice A1 path.length V,.slice zA (ordE.canon (ents.map collE)).length zc,⟨path.map collapse,ci,ct,cl,upd,ordE.canon (ents.map collE)⟩⟩:=⟨ff,fe⟩;refine ⟨⟨.slice A1 path.length V,.slice zA (ordE.canon (ents.map collE)).length zc,⟨path.map collapse,ci,ct,cl,upd,ordE.canon (ents.map collE)⟩⟩,by rw[gP.out];rfl,fu.out.symm.trans hY.out,(fM.grown (Yi _ _ _) (hQ _ (by simp))).grown (Yo _ _ _) (hQ _ (by simp)),λq hq=>hQ q (by omega),⟨?_,?_⟩,?_⟩
     ·rw[Zm];exact (((h7.out.ext U).grown (Yi _ _ _) (by have:=ZaC (hQ w.heap.size (by omega)).1;rwa [Zm] at this)).grown (Yo _ _ _) (by have:=ZaC (hQ (w.heap.size+1) (by omega)).1;rwa [Zm] at this)).mono (by omega)
     ·exact (((WrV.own gr.out).grown (Yi _ _ _) (IK (hQ w.heap.size (by omega)).2)).grown (Yo _ _ _) (IK (hQ (w.heap.size+1) (by omega)).2)).mono (by omega)
     exact (Ext.setCell (gU.out.trans U) (Zb _) _).setRow (by omega) _
  focus
   have he:errF F=19:=by
    rw[h2.out]
    rw[Zi (Or.inr gK.out)]
   have HN:=gd (hA.out _ he (by decide))
   have hi:=h1.out.symm.trans he
   subst hi
   clear he
   go_wp2_with (first|(at_builtin;refine ZP _ rfl (.tmp 30) (.tmp 34) _ rfl W1.heap.size 157 i0 _ 1 8 underlying156 hR hV hu hW rfl (by decide) _ path.length X rfl (Q.out.alloc _) _ 3 [.pointer (some ⟨w.heap.size,1,none⟩),.pointer (some ⟨w.heap.size,2,none⟩),.pointer (some ⟨w.heap.size,3,none⟩)] rfl (Yq rfl (by decide)) (by intro y hy;simp at hy;rcases hy with rfl|rfl|rfl<;>rfl) hm.out hl.out ?_ ?_;(simp;omega);intro v3 w3 H hc hp;(have D:Ext W1 w3:=Ext.app (hh.out.alloc _) hc (Q.out.alloc _) (Zb _)))|(go_at_call 103;(have K:=hM.out _ _ D H);(with_reducible refine Za K ?_);clear K;rintro e w5 ⟨rfl,S,⟨q0,q1,q2,q3,q4,q5⟩,f5,hg,hd,hf⟩;(have h7:=gd (hf _ _ _ (h6.out.ext D)));clear hf;(have ht:Ext w w5:=hg w (hw.out.trans D) (by omega) (Zb _));(have Z:=hd (w.heap.size+1) _ (by omega) (by omega) (D.heap h4.out));(have HC:=gd (JU (w:=w5) (g:=g) (n:=path.length) (c:=V) (A:=A1) (l:=path.map collapse) ⟨#[]⟩ (by simp) (by simpa using hC.out) S (by simp;omega)));rw[hH.out] at HC;clear hg hd)|(go_at_call 104;(have K:=HC.out);(with_reducible refine Za K ?_);clear K;rintro e w6 ⟨rfl,rfl⟩)|(refine Zf rfl 55 (.tmp 2) (.tmp 51) rfl (w.heap.size+1) _ rfl rfl _ _ Z JF rfl ZfW ?_))
  rotate_left
  ·have hb:((firstErr (path++ [id,title,link]):Int) !=0)=true:=(by simp;omega);have he:errF F=firstErr (path++ [id,title,link]):=(by rw[<-HF.out];unfold errF headF strsF;rw[Zi h0,Ze h0]);have hn:=hA.out _ he h0;have hi:=h1.out.symm.trans he;obtain ⟨E,h5⟩:∃E,firstErr (path++ [id,title,link])=E:=⟨_,rfl⟩;have gg:=gd (λ(w4:Wq) (v4:Value) fD fF=>Zd1 (W:=w4) (v:=v4) (g:=g) (b:=w.heap.size) fD fF h0);rw[h5] at gg hb h0 hi;have HN:=gd hn;clear h5 he hn h0;subst hi
   go_wp2_with (first|(at_builtin;refine ZP _ rfl (.tmp 30) (.tmp 34) _ rfl W1.heap.size 157 i0 _ 1 8 underlying156 hR hV hu hW rfl (by decide) _ path.length X rfl (Q.out.alloc _) _ 3 [.pointer (some ⟨w.heap.size,1,none⟩),.pointer (some ⟨w.heap.size,2,none⟩),.pointer (some ⟨w.heap.size,3,none⟩)] rfl (Yq rfl (by decide)) (by intro y hy;simp at hy;rcases hy with rfl|rfl|rfl<;>rfl) hm.out hl.out ?_ ?_;(simp;omega);intro v3 w3 H hc hp;(have D:Ext W1 w3:=Ext.app (hh.out.alloc _) hc (Q.out.alloc _) (Zb _)))|(go_at_call 103;(have K:=gg.out _ _ (gQ.out.ext D) (HP.out _ _ D H));(with_reducible refine Za K ?_);clear K;rintro e w5 ⟨rfl,ht⟩;(have Z:=(D.trans ht).heap h4.out))|(refine Zf rfl 55 (.tmp 2) (.tmp 40) rfl (w.heap.size+1) _ rfl rfl _ _ Z JF rfl ZfW ?_))
   ((try simp only[Exit.inBlock,Exit.then]);refine Zy (Yp rfl _ _ _ _ _ _ _ rfl (Zz _ _ _ _ _ _ Z) underlying55 rfl JF) rfl ?_);exact ⟨zeroC,rfl,HN.out.symm.trans hY.out,Zb5 _,λ_ _=>Ko _,Zb6 _ _,((hw.out.trans D).trans ht).setRow (by omega) _⟩
  all_goals
   ((try simp only[Exit.inBlock,Exit.then]);refine Zy (Yp rfl _ _ _ _ _ _ _ rfl (Zz _ _ _ _ _ _ Z) underlying55 rfl JF) rfl ?_)
   exact ⟨zeroC,rfl,HN.out.symm.trans hY.out,Zb5 _,λ_ _=>Ko _,Zb6 _ _,ht.setRow (by omega) _⟩
end
theorem WcF.setCell {w:Wq} {B:Nat} {y:Fc} (h:WcF w B y) (p:Addr) (x:Value):WcF (w.setCell p x) B y:=⟨h.1.setCell p x,h.2.setCell p x⟩
def LatF:Prop:=∀(a b:Fc) (w:Wq),Env w->fok a.f->fok b.f->RStrs w a.p a.f.path->RStrs w b.p b.f.path->isSl a.es->isSl b.es->Calls prog 67 #[.agg (cellsC a).toArray,.agg (cellsC b).toArray] w
 λx w'=>∃p',x= .returned (.agg (fCells p' sN (laterF a.f b.f)).toArray)/\w'.ownsRow w.heap.size 9 1 p' (laterF a.f b.f).path.length ((laterF a.f b.f).path.map Value.string)/\Ext w w'
def distF (l:List Fd):Prop:=(l.map λf=>(collF f).id).Pairwise (· ≠ ·)
theorem ZiE:∀{l:List Fd},l.length<=1->distF l
 | [],_=>List.Pairwise.nil
 | [_],_=>List.pairwise_singleton _ _
 |_::_::_,h=>by simp at h
theorem ZkT (l:List Fc) (s:ByteArray) (h:(l.map λy=>y.f.id).Pairwise (· ≠ ·)):(grpC l s).length<=1:=by
 have D:(grpC l s).Pairwise λa b=>a.f.id≠b.f.id:=(List.pairwise_map.1 h).filter _;have A:∀y∈grpC l s,y.f.id=s:=λy F=>Yw (Y0.1 F).2
 match grpC l s,D,A with
 | [],_,_=>exact Zh _
 | [_],_,_=>exact Zb _
 |a::b::t,D,A=>exact absurd ((A a (by simp)).trans (A b (by simp)).symm) ((Xs.1 D).1 b (by simp))
theorem ZcM:∀{l:List Fc} {x:Fc},x∈l->x.f.ents.length<=allE l
 |y::t,x,h=>by
  have e:allE (y::t)=y.f.ents.length+allE t:=by unfold allE;rw[Zw,Yn]
  rw[e]
  rcases ZK.1 h with rfl|h
  ·omega
  ·have:=ZcM h
   omega
theorem ZdO (v:Value) (l:List Fc) (w:Wq) (hE:Env w) (hr:RFcs w v l) (dC:∀x∈l,RdC w x) (hk:∀x∈l,fokS x.f) (hn:l.length<=1000000) (bp:allE l<=1000000) (di:allE l<=1\/LatE) (hQ:distF (l.map Fc.f)\/LatF):
 Calls prog 34 #[v] w λe w'=>∃(v':Value) (lc:List Fc),e= .returned (.tuple #[.agg #[v'],nI (errFs (l.map Fc.f):Nat)])/\lc.map Fc.f=normA (l.map Fc.f)/\HFs w' w.heap.size v' lc/\(∀y∈lc,WcF w' w.heap.size y)/\Ext w w':=by
 obtain ⟨i0,dt,fa,dS,dT⟩:=Yu Zc8;obtain ⟨i1,br,bJ,bK,bL⟩:=Yu KQ;obtain ⟨A,c,rfl,bs,bo⟩:=hr.form;have d7:=gd dC;have HK:=gd hk;have f9:=gd di;have gE:=gd hQ;obtain ⟨EF,fF⟩:∃n,errFs (l.map Fc.f)=n:=⟨_,rfl⟩;obtain ⟨NF,fI⟩:∃n,normA (l.map Fc.f)=n:=⟨_,rfl⟩;simp only[fF,fI];have f4:=gd fF;have fe:=gd fI;clear bs bo dC hk fF fI di hQ;go_enter func34,ntmps34;go_wp2;go_loopw [4,18] (λo i wr=>∃(k:Nat) (lc:List Fc),k<=l.length/\i=nI k/\HFs wr (w.heap.size+1) o lc/\Hid (lc.map Fc.f=(l.take k).map λx=>collF x.f)/\Hid (∀x∈l.take k,errF x.f=0)/\Hid (∀y∈lc,awayC y (some w.heap.size)/\WcF wr w.heap.size y)/\Ext (w.alloc (.cells #[sN] 31)) wr) (λ_ i _=>l.length - (intOf i).toNat)
 case atStart=>exact ⟨0,[],Zh _,rfl,HFs.nil _ _,gd rfl,gd (by simp),gd (by simp),Ext.refl _⟩
 case round=>
  obtain ⟨k,lc,hk,rfl,hH,ht,hW,gm,hx⟩:=hrel;have g9:Ext w wr:=((Ext.refl w).alloc _).trans hx;by_cases hw:k<l.length
  ·obtain ⟨ad,c',hv,hD⟩:=(hr.ext g9).at hw;injection hv with gT hv2 hv3;subst gT;clear hv2 hv3;have ha:l[k]∈l:=ZE hw;have hA:=d7.out _ ha;have fP:=HK.out _ ha;have fM:l[k].f.ents.length<=1\/LatE:=f9.out.imp (Zt (ZcM ha)) id;have hg:=Zn hw;have go:=Ze6 (l.map Fc.f) k (by rw[Zm];exact hw) (λf hf=>by
    rw[<-List.map_take] at hf;obtain ⟨y,K,rfl⟩:=ZS.1 hf;exact hW.out y K)
   rw[XD] at go;obtain ⟨x,dK⟩:∃x,l[k]=x:=⟨_,rfl⟩;rw[dK] at hD hA fP hg go fM;have gu:=gd (λ(w':Wq) (h:Ext w w')=>Zcd x w' (hE.ext h) fP (hA.ext h) fM);clear fM;have bC:=hA.sl;have fk:lc.length=k:=(by have:=ZC List.length ht.out;rw[Zm,Zm,ZL] at this;omega);have du:(0:Int)<=(k:Int):=(by omega);have dv:(k:Int)<(l.length:Int):=(by omega);have g0:=gd hg;have fc:=gd go;have HH:=gd hH;have HX:=gd hx;have hc:=gd g9;have gs:Hid ((lc.length+1)*104<=140737488355328):=gd (by omega);have gt:Hid (lc.length+1<=maxLen):=gd (by unfold maxLen;omega);have hws:=g9.size;have dJ:=hx.size;rw[Zp] at dJ;clear dK hg go hA fP ha hH;obtain ⟨E,fH⟩:∃E,errF x.f=E:=⟨_,rfl⟩;rw[fH] at gu fc;have f6:=gd fH;obtain ⟨N,hN⟩:∃N,normF x.f=N:=⟨_,rfl⟩;rw[hN] at gu;have HN:=gd hN;clear hN fH;obtain ⟨xp,bP,⟨hO,gh,I,Q,ho,V⟩⟩:=x;obtain ⟨⟨xA,xn,xc,gV⟩,⟨xB,xm,xd,g8⟩⟩:=bC;simp only at gV g8;subst gV g8;obtain ⟨a0,a1,a2,a3,a4,a5⟩:=hD;simp only at a0 a1 a2 a3 a4 a5;unfold cellsC fCells at gu;dsimp only at gu;by_cases h0:E=0
   ·subst h0
    go_wp2_with (first|(go_at_call 63;(have D:=gu.out _ (hc.out.trans ((Ext.refl wr).alloc (.cells #[.slice xA xn xc,.string gh,.string I,.string Q,nI ho,.slice xB xm xd] 55))));(with_reducible refine Za D ?_);clear D;rintro e w2 ⟨y,rfl,gX,gC,fX,dP,fW⟩;(have h8:=gC.sl);(obtain ⟨yp,dU,yf⟩:=y);(obtain ⟨⟨yA,yn,yc,h7⟩,⟨yB,ym,yd,h6⟩⟩:=h8);simp only at h7 h6;subst h7 h6;(have gY:yf=N:=gX);clear gX;subst gY;(have hh:=((Ext.refl wr).alloc (.cells #[.slice xA xn xc,.string gh,.string I,.string Q,nI ho,.slice xB xm xd] 55)).trans fW);(have fw:=gd (HH.out.ext hh));(have b3:=hh.size))|(at_builtin;refine ZP _ rfl (.tmp 31) (.tmp 33) _ rfl (w.heap.size+1) 55 i0 _ 6 104 underlying29 dt fa dS dT rfl (by decide) _ lc.length (flatC lc) rfl ((Ye fw.out.row ((Ext.refl _).alloc _)).alloc _) _ 1 (cellsC ⟨.slice yA yn yc,.slice yB ym yd,yf⟩) rfl (X8 (e:=55) (fr:=(0,0)) (cs:=cellsC ⟨.slice yA yn yc,.slice yB ym yd,yf⟩) (YI _ _ _) rfl (by decide)) (Jd gC.sl) gt.out gs.out ?_ ?_;(simp;omega);intro v3 w3 hF g3 dn))
    go_roundw
    case rel=>
     have dL:yf=collF ⟨hO,gh,I,Q,ho,V⟩:=(by rw[<-HN.out];unfold normF;rw[Zi f6.out]);have hT:=g0.out;have gc:awayC ⟨.slice yA yn yc,.slice yB ym yd,yf⟩ _:=Zct gC λq hq=>fX q (by have:=(HH.out.row.lt q hq).2;simp;omega);refine ⟨k+1,lc++ [⟨.slice yA yn yc,.slice yB ym yd,yf⟩],hw,by go_num,HFs.snoc (fw.out.ext (((Ext.refl _).alloc _).alloc _)) ((gC.ext ((Ext.refl _).alloc _)).ext ((Ext.refl _).alloc _)) gc hF g3 dn,gd ?_,gd λz D=> ?_,gd λz D=> ?_,?_⟩
     ·rw[hT,ZN,ZN,ht.out,Zw,Yc,Zw,Yc];exact ZC (λf=>_++ [f]) dL
     ·rw[hT] at D;rcases Zx.1 D with D|D
      ·exact hW.out z D
      ·rw[Zo.1 D];exact f6.out
     ·rcases Zx.1 D with D|D
      ·exact ⟨(gm.out z D).1,((gm.out z D).2.ext ((hh.alloc _).alloc _)).grown g3 (HH.out.away z D)⟩
      ·rw[Zo.1 D];exact ⟨fX _ (by rw[Zp];omega),((dP.ext (((Ext.refl _).alloc _).alloc _)).grown g3 gc).mono (by rw[Zp];omega)⟩
     ·exact Ext.app (((HX.out.trans hh).alloc _).alloc _) g3 ((fw.out.row.ext ((Ext.refl _).alloc _)).ext ((Ext.refl _).alloc _)) (by rw[Zp];exact Zb _)
    case measure=>simp[intOf];omega
   ·have hb:((E:Int) !=0)=true:=(by simp;omega);have he:=fc.out h0;have dZ:=gd h0;have fL:=f4.out.symm.trans he;subst fL;have d0:=gd he;clear he h0
    go_wp2_with (first|(go_at_call 63;(have D:=gu.out _ (hc.out.trans ((Ext.refl wr).alloc (.cells #[.slice xA xn xc,.string gh,.string I,.string Q,nI ho,.slice xB xm xd] 55))));(with_reducible refine Za D ?_);clear D;rintro e w2 ⟨y,rfl,gX,gC,fX,dP,fW⟩;(have h8:=gC.sl);(obtain ⟨yp,dU,yf⟩:=y);(obtain ⟨⟨yA,yn,yc,h7⟩,⟨yB,ym,yd,h6⟩⟩:=h8);simp only at h7 h6;subst h7 h6;(have gY:yf=N:=gX);clear gX;subst gY;(have hh:=((Ext.refl wr).alloc (.cells #[.slice xA xn xc,.string gh,.string I,.string Q,nI ho,.slice xB xm xd] 55)).trans fW);(have fq:=((HX.out.trans hh).alloc (.cells (cellsC ⟨.slice yA yn yc,.slice yB ym yd,yf⟩).toArray 55)).heap (Zg w _)))|(refine Zf rfl 31 (.tmp 2) (.tmp 29) rfl w.heap.size _ rfl rfl _ _ fq Xy rfl Vt ?_))
    ((try simp only[Exit.inBlock,Exit.then]);refine Zy (Yp rfl _ _ _ _ _ _ _ rfl (Zz _ _ _ _ _ _ fq) underlying31 rfl Xy) rfl ?_);refine ⟨sN,[],rfl,?_,HFs.nil _ _,by simp,((hc.out.trans hh).alloc _).setRow (Zb _) _⟩;rw[<-fe.out];unfold normA;rw[d0.out,Ze dZ.out];rfl
  ·have fO:k=l.length:=(by omega);subst fO;rw[ZR (Zb _)] at ht hW;have gK:errFs (l.map Fc.f)=0:=ZaW.2 λf hf=>(by obtain ⟨y,K,rfl⟩:=ZS.1 hf;exact hW.out y K);have ge:normA (l.map Fc.f)=ordF.canon (lc.map Fc.f):=(by unfold normA;rw[Zi gK,ht.out,X1];rfl);have fL:=f4.out.symm.trans gK;have bw:=fe.out.symm.trans ge;subst fL bw;have ha:∀y∈lc,∃x∈l,y.f=collF x.f:=(by intro y K;have:y.f∈lc.map Fc.f:=ZS.2 ⟨y,K,rfl⟩;rw[ht.out] at this;obtain ⟨x,hx,e⟩:=ZS.1 this;exact ⟨x,hx,e.symm⟩);have hB:Hid (∀y∈lc,fokS y.f):=gd λy K=>(by obtain ⟨x,hx,e⟩:=ha y K;rw[e];exact ZcZ (HK.out x hx));have dX:Hid (∀y∈lc,ordE.canon y.f.ents=y.f.ents):=gd λy K=>(by obtain ⟨x,hx,e⟩:=ha y K;rw[e];exact ordE.canon_canon _);have gb:allE lc<=allE l:=(by rw[Zkr lc _ ht.out];exact II l);have hU:allE lc<=1000000:=Zt gb bp;have f1:=gd hU;have ft:=gd gb;have d5:Hid (lc.length<=l.length):=gd (by
    have:=ZC List.length ht.out;rw[Zm,Zm] at this;omega)
   have dY:Hid ((lc.map λy=>y.f.id).Pairwise (· ≠ ·)\/LatF):=gd (gE.out.imp (λh=>by
    unfold distF at h;have e:(lc.map λy=>y.f.id)=(l.map Fc.f).map λf=>(collF f).id:=(by have:=ZC (List.map Fd.id) ht.out;rw[X1,X1] at this;rw[X1];exact this);rw[e];exact h) id)
   clear gb;have fk:lc.length<=1000000:=(by have:=ZC List.length ht.out;rw[Zm,Zm] at this;omega);clear gK ge ha ht hW hU;obtain ⟨U,bH⟩:∃U:Wq,U=wr:=⟨_,rfl⟩;subst bH;have f8:=gd (Zfk _ lc (U.alloc (.cells #[sN] 31)) (hH.row.reads.ext ((Ext.refl _).alloc _)) (λy K=>(hH.rd y K).sl) (λy K=>by have:=(hB.out y K).1.2;omega) fk);have gk:=gd hH.rd;have HX:=gd hx;have hc:=gd g9;have dr:=ES lc;have d2:=gd dr;clear hH dr
   go_wp2_with (go_at_call 64;(have D:=f8.out);(with_reducible refine Za D ?_);clear D;rintro e w1 ⟨v1,gv,rfl,hG,gU⟩;(obtain ⟨A1,c1,gT⟩:=hG.form);subst gT)
   have ds:=hG.len;have b2:gv.length<=1000000:=(by have:=d2.out;omega);have dl:U.heap.size<w1.heap.size:=(by have:=gU.size;rw[Zp] at this;omega);have c0:=gU.boxed 0 sN rfl;have f0:=gU.boxedF 0;have HG:=gd hG;have fv:=gd ds;have fB:=gd gU;have f3:=gd c0;have d1:=gd f0;have fA:Hid (∀o:Value,(w1.setCell ⟨U.heap.size,0,none⟩ o).heap.size=w1.heap.size):=gd λo=>(by simp[World.setCell]);have h9:Hid (∀(o:Value) (wr:Wq),Ext (w1.setCell ⟨U.heap.size,0,none⟩ o) wr->wr.cell? ⟨U.heap.size,0,none⟩=some o/\wr.frozen? ⟨U.heap.size,0,none⟩=false):=gd λo wr h=>
    ⟨h.cell (GV _ _ _ f3.out),(JA h (by rw[fA.out];exact dl)).trans (by rw[XH];exact d1.out)⟩
   have ff:Hid (∀(o:Value) (wr:Wq),Ext (w1.setCell ⟨U.heap.size,0,none⟩ o) wr->∀y∈lc,RdC wr y):=gd λo wr h y K=>
    (((gk.out y K).ext (((Ext.refl _).alloc _).trans fB.out)).grown (Yi _ _ _) (Ge (gk.out y K) (Zb _))).ext h
   have d9:Hid (∀(o:Value) (wr:Wq),Ext (w1.setCell ⟨U.heap.size,0,none⟩ o) wr->∀y∈lc,WcF wr w.heap.size y):=gd λo wr h y K=>
    (((gm.out y K).2.ext (((Ext.refl _).alloc _).trans fB.out)).grown (Yi _ _ _) (Ge (gk.out y K) (Zb _))).ext h
   have d3:Hid (∀(o:Value) (wr:Wq),Ext (w1.setCell ⟨U.heap.size,0,none⟩ o) wr->GrpsC wr (U.alloc (.cells #[sN] 31)).heap.size (.slice A1 gv.length c1) lc (firstsC lc) gv):=gd λo wr h=>
    (HG.out.kept (Yi _ _ _) (by rw[Zp];exact YK _)).ext h
   have gG:Hid (∀(o:Value) (wr:Wq),Ext (w1.setCell ⟨U.heap.size,0,none⟩ o) wr->Ext U wr):=gd λo wr h=>
    ((((Ext.refl U).alloc _).trans fB.out).setCell (Zb _) _).trans h
   clear hG ds gU c0 f0;go_loopw [39] (λi wr=>∃(k:Nat) (o:Value) (rs:List Fc),k<=gv.length/\i=nI k/\HFs wr w1.heap.size o rs/\Hid (rs.map Fc.f=((firstsC lc).take k).map (jF (lc.map Fc.f)))/\Hid (∀y∈rs,awayC y (some U.heap.size)/\awayC y (some w.heap.size)/\fok y.f)/\Hid (∀y∈rs,WcF wr w.heap.size y)/\Ext (w1.setCell ⟨U.heap.size,0,none⟩ o) wr) (λi _=>gv.length - (intOf i).toNat)
   case atStart=>exact ⟨0,sN,[],Zh _,rfl,HFs.nil _ _,gd rfl,gd (by simp),gd (by simp),by rw[Zeu _ _ _ _ f3.out];exact Ext.refl _⟩
   case round=>
    obtain ⟨k,o,rs,hk,rfl,hH,gQ,gc,dG,hx⟩:=hrel;by_cases hw:k<gv.length
    ·have gH:=d3.out o wr hx;have g5:k<(firstsC lc).length:=(by rw[<-fv.out];exact hw);obtain ⟨g,cap,hv,_,_⟩:=gH.row.form (by omega);injection hv with gT hv2 hv3;subst gT;have bq:wr.cell? ⟨g,k,none⟩=some gv[k]:=(by rw[hv3] at gH;rw[gH.row.cellAt k (by omega)];exact Zl hw);have gA:=gH.each k (firstsC lc)[k] gv[k] (Zl g5) (Zl hw);obtain ⟨x,t,Z⟩:=Zi7 (ZE g5);rw[Z] at gA;have h5:∀y∈x::t,y∈lc:=λy K=>(by rw[<-Z] at K;exact (Y0.1 K).1);have dw:=Znb Z (dX.out x (h5 x (by simp)));have hg:((firstsC lc).take (k+1)).map (jF (lc.map Fc.f))=((firstsC lc).take k).map (jF (lc.map Fc.f))++ [jF (lc.map Fc.f) (firstsC lc)[k]]:=(by rw[Zn g5,ZN];rfl);rw[dw] at hg;have hV:(enF x t).length<=1000000:=(by rw[KJ,<-Z];exact Zt (Qz _ lc) f1.out);have gL:Hid ((enF x t).length<=1\/LatE):=gd (f9.out.imp (Zt (by
      rw[KJ,<-Z];exact Zt (Qz _ lc) ft.out)) id)
     have fo:t.length+1<=lc.length:=(by have:=Zfl lc (firstsC lc)[k];rw[Z] at this;simpa using this);have b4:t.length+1<=1000000:=(by omega);have df:Hid (t.length=0\/LatF):=gd (dY.out.imp (λh=>by
      have:=ZkT lc (firstsC lc)[k] h;rw[Z] at this;simpa using this) id)
     have bS:=gd fo;clear fo;have g0:=gd hg;have J:=gd h5;obtain ⟨u,hu⟩:∃u,gv[k]=u:=⟨_,rfl⟩;rw[hu] at gA bq;obtain ⟨A2,c2,bD,_,_⟩:=gA.reads.form;subst bD;have fm:RFcs wr (.slice A2 (t.length+1) c2) (x::t):=gA.reads;obtain ⟨v2,bV,fJ⟩:=ZnL fm;obtain ⟨ad,c3,bE,hD⟩:=gA.reads.at (k:=0) (by simp);injection bE with hv5 hv6 fS;subst hv5;rw[Xa] at hD;have gJ:ad.add 0=ad:=add_zero ad;rw[gJ] at hD;obtain ⟨a0,a1,a2,a3,a4,a5⟩:=hD;simp only[JB] at a0 a1 a2 a3 a4 a5;obtain ⟨A3,c4,bF,_,_⟩:=fJ.form;subst bF;have hA:=ff.out o wr hx x (h5 x (by simp));have bx:=hA.1.form;have bz:=hA.2.form;have fx:=gd hA;have d6:=gd fJ;have HH:=gd hH;have hC:=gd hx;have bX:=gd hu;have bI:=hx.size;rw[fA.out] at bI;have g8:x.f.ents.length<=1000000:=(by have:=(hB.out x (h5 x (by simp))).2.1;exact this);have fu:=gd (λ(w':Wq) (h:Ext wr w')=>ZeP x.es x.f.ents.length (flatE x.f.ents) w' (hA.2.ext h) (Za4 _) (by omega));clear gH hv2 hv3 hv6 fS Z dw hg gA fm h5 fJ hu gJ g5 hA hH hx;obtain ⟨X,hX⟩:∃X,X=x:=⟨_,rfl⟩;rw[<-hX] at g0 J fx fu hV gL g8;obtain ⟨xp,bP,⟨hO,gh,I,Q,ho,V⟩⟩:=x;obtain ⟨xA,xc,gV,_,_⟩:=bx;obtain ⟨xB,xd,fp,_,_⟩:=bz;simp only at gV fp a0 a1 a2 a3 a4 a5;subst gV fp;obtain ⟨S,dI⟩:∃S:Wq,S=wr:=⟨_,rfl⟩;subst dI;have bb:=gd hX;have dj:X.es= .slice xB V.length xd:=(by rw[hX]);have bl:X.f.ents.length=V.length:=(by rw[hX]);rw[dj] at fu;clear hX dj bl
     go_wp2_with (go_at_call 66;(have D:=fu.out _ ((Ext.refl S).alloc (.cells #[.slice xA hO.length xc,.string gh,.string I,.string Q,nI ho,.slice xB V.length xd] 55)));(with_reducible refine Za D ?_);clear D;rintro e w3 ⟨v3,rfl,hF,gB⟩;(have gF:=gd hF);(have ba:=gd gB);clear hF gB)
     go_loopw [13,52] (λev i wr=>∃(m:Nat) (pz ez:Value),m<=t.length/\i=nI m/\Ext (S.alloc (.cells (fCells pz ez (hdF X (t.take m))).toArray 55)) wr/\wr.ownsRow (S.heap.size+1) 76 5 ev (enF X (t.take m)).length (flatE (enF X (t.take m)))/\RStrs wr pz (hdF X (t.take m)).path/\isSl ez/\Hid ((hdF X (t.take m)).path= []\/pz.ownBlock≠ev.ownBlock)/\Hid ((hdF X (t.take m)).path= []\/∀q,pz.ownBlock=some q->(q<U.heap.size/\q≠w.heap.size)\/S.heap.size<q)/\Hid (WrV wr w.heap.size pz (hdF X (t.take m)).path.length)) (λ_ i _=>t.length - (intOf i).toNat)
     case atStart=>
      have gB:=ba.out;have gI:=bb.out;have dA:=gk.out X (J.out X (by simp));refine ⟨0,.slice xA hO.length xc,.slice xB V.length xd,Zh _,rfl,?_,?_,?_,⟨_,_,_,rfl⟩,gd ?_,gd ?_,gd ?_⟩
      ·rw[gI];exact gB
      ·have:=XM gF.out (B':=S.heap.size+1) (by rw[Zp];exact Zb _);simpa [enF] using this
      ·have:=fx.out.1.ext (((Ext.refl _).alloc _).trans gB);rw[gI] at this|-;exact this
      ·have:=(Zcu fx.out (r:=v3.ownBlock) (λq hq=>by have:=(gF.out.lt q hq).1;rw[Zp] at this;omega)).1;rw[gI] at this|-;exact this
      ·cases hp:X.f.path with
       |nil=>exact Or.inl hp
       |cons s r=>
        refine Or.inr λq hq=>Or.inl ?_;obtain ⟨q',h1,h2⟩:=RSl.old dA.1 (by rw[hp];simp);have h3:=(gm.out X (J.out X (by simp))).1.1;rw[hp] at h3;rw[h1] at h3;rw[gI] at h1;rw[h1] at hq;injection hq with hq;subst hq;refine ⟨h2,λe=> ?_⟩;rcases h3 with h3|h3
        ·cases h3
        ·exact h3 (by rw[e])
      ·have:=((d9.out o S hC.out X (J.out X (by simp))).1).ext (((Ext.refl _).alloc _).trans gB);rw[gI] at this|-;exact this
     case round=>
      obtain ⟨m,pz,ez,hm,rfl,hL,hd,hI,fN,gn,g2,fV⟩:=hrel;have hl:Ext S wr:=((Ext.refl S).alloc _).trans hL;have fU:=hL.size;rw[Zp] at fU;by_cases g6:m<t.length
      ·obtain ⟨bZ,c5,fT,hD⟩:=(d6.out.ext hl).at g6;injection fT with fT hv10 hv11;subst fT;clear hv10 hv11;have dF:=Zn g6;have hM:t[m]∈lc:=J.out _ (Zu _ (ZE g6));have gz:=ZkW X (t.take m) t[m];have gx:=ZkF X (t.take m) t[m];rw[<-dF] at gz gx;have ga:fok (hdF X (t.take m)):=Zia X _ (hB.out X (J.out X (by simp))).1 λy K=>(hB.out y (J.out y (Zu _ (Y2 K)))).1;have fl:(enF X (t.take (m+1))).length<=1000000:=(by refine Zt ?_ hV;rw[KJ,KJ];unfold allE;simp only[Zw,Yn];have:=Yy (m+1) t;have h2:(t.map λx=>x.f.ents.length).sum=((t.take (m+1)).map λx=>x.f.ents.length).sum+((t.drop (m+1)).map λx=>x.f.ents.length).sum:=(by rw[<-Jw,<-ZN,this]);omega);obtain ⟨y,dR⟩:∃y,t[m]=y:=⟨_,rfl⟩;rw[dR] at hD hM gz gx;obtain ⟨H,hH⟩:∃H,hdF X (t.take m)=H:=⟨_,rfl⟩;obtain ⟨E,gw⟩:∃E,enF X (t.take m)=E:=⟨_,rfl⟩;rw[hH] at gz ga hL hI gn;rw[hH] at g2;rw[gw] at gx hd;rw[gx,Zc] at fl;have dM:=(hB.out y hM).1;have gS:=ff.out o S hC.out y hM;have gR:=gS.ext hl;have h8:=gR.sl;have hQ:=λ(w':Wq) (fE:Env w') (hp:RStrs w' pz H.path) (K:RStrs w' y.p y.f.path)=>(df.out.resolve_left (by omega)) ⟨pz,ez,H⟩ y w' fE ga dM hp K fN h8.2;obtain ⟨R,hR⟩:∃R,laterF H y.f=R:=⟨_,rfl⟩;dsimp only at hQ;simp only[hR] at hQ;rw[hR] at gz;have gD:=gd gz;have fd:=gd gx;have HR:=gd hR;have gj:=gd hd;have fC:=gd hL;have fz:=gd hI;have fy:=gd gR;have fg:=gd gS;have gl:=gd hl;have dN:=gR.1.form;have dO:=gR.2.form;have dq:=fN;have dB:=hI.form;have bj:Env S:=hE.ext (hc.out.trans (gG.out o S hC.out));have bn:S.heap.size+1<=wr.heap.size:=fU;have gs:Hid ((E.length+y.f.ents.length)*72<=140737488355328):=gd (by omega);have gt:Hid (E.length+y.f.ents.length<=maxLen):=gd (by unfold maxLen;omega);clear gz gx hR hd hL hI gR gS ga dM fl dR hM hH gw dF hl fU;obtain ⟨Y,hY⟩:∃Y,Y=y:=⟨_,rfl⟩;rw[<-hY] at fd HR fy fg hQ gs gt;obtain ⟨yp,dU,⟨gi,bQ,fb,fZ,dV,hP⟩⟩:=y;obtain ⟨yA,yc,h7,_,_⟩:=dN;obtain ⟨yB,yd,h6,_,_⟩:=dO;obtain ⟨zA,zc,fR,_,_⟩:=dB;obtain ⟨eA,en,ec,gM⟩:=dq;obtain ⟨bc,bd,be,bf,bg,bh⟩:=hD;simp only at h7 h6 bc bd be bf bg bh;subst h7 h6 fR gM;have du:(0:Int)<=(m:Int):=(by omega);have dv:(m:Int)<(t.length:Int):=(by omega);have g1:Y.f.ents=hP:=(by rw[hY]);have fi:Y.es= .slice yB hP.length yd:=(by rw[hY]);have dk:Y.p= .slice yA gi.length yc:=(by rw[hY]);have fj:Y.f.path=gi:=(by rw[hY]);have fn:RSl wr 5 (.slice yB hP.length yd) Y.f.ents.length (flatE Y.f.ents):=(by have:=fy.out.2;rwa [fi] at this);have dc:=gd fn;have bY:=gd (Vz dk fj);have gE:=gd (λw' fE hp K=>by
        have:=hQ w' fE hp K;rw[hY] at this;exact this)
       clear fn fi g1 dk fj hQ hY;unfold cellsC fCells at gE;dsimp only at gE
       go_wp2_with (first|(at_builtin;refine ZP _ rfl (.tmp 56) (.tmp 58) _ rfl (S.heap.size+1) 76 i1 _ 5 72 underlying53 br bJ bK bL rfl (by decide) _ _ (flatE E) rfl (gj.out.alloc _) _ Y.f.ents.length (flatE Y.f.ents) rfl (dc.out.ext ((Ext.refl _).alloc _)) (Za4 _) gt.out gs.out ?_ ?_;(simp;omega);intro v4 w4 gO gN bT;(have hJ:=Ext.app (fC.out.alloc _) gN (gj.out.alloc _) (by rw[Zp];exact Zb _));(have e0:=hJ.boxed 0 (.slice zA H.path.length zc) rfl);(have e1:=hJ.boxed 1 (.string H.id) rfl);(have e2:=hJ.boxed 2 (.string H.title) rfl);(have e3:=hJ.boxed 3 (.string H.link) rfl);(have e4:=hJ.boxed 4 (nI H.upd) rfl);(have e5:=hJ.boxed 5 (.slice eA en ec) rfl);(have yk:∀(i:Nat) (v:Value),(#[.slice yA gi.length yc,.string bQ,.string fb,.string fZ,nI dV,.slice yB hP.length yd]:Array Value)[i]? =some v->w4.cell? ⟨wr.heap.size,i,none⟩=some v:=λi v hv=>gN.cell (Ext.boxed (t:=55) (fr:=(0,0)) (Ext.refl _) i v hv) (λe=>absurd (gj.out.lt _ e.symm).2 (Nat.lt_irrefl _)));(have y0:=yk 0 _ rfl);(have y1:=yk 1 _ rfl);(have y2:=yk 2 _ rfl);(have y3:=yk 3 _ rfl);(have y4:=yk 4 _ rfl);(have y5:=yk 5 _ rfl);(clear yk))|(refine Zf rfl 55 (.tmp 12) (.tmp 62) rfl S.heap.size _ rfl rfl _ _ bm JF rfl ZfW ?_)|(go_at_call 67;(have bM:RdC w4 Y:=(fy.out.ext ((Ext.refl _).alloc _)).grown gN (Zcu fg.out λq hq=>by have:=(gj.out.lt q hq).1;omega));(have bN:RStrs w4 (.slice zA H.path.length zc) H.path:=RSl.grown (fz.out.ext ((Ext.refl _).alloc _)) gN (gn.out.imp (λe=>by rw[e];rfl) λe=>e));(have D:=gE.out w4 (bj.ext (((Ext.refl _).alloc _).trans hJ)) bN bM.1);(with_reducible refine Za D ?_);clear D;rintro e w5 ⟨p5,rfl,F,hK⟩;(obtain ⟨A5,fD,bA⟩:∃A c,p5= .slice A R.path.length c:=(by obtain ⟨A,c,e,_⟩:=(RSl.of_own F).2;exact ⟨A,c,e⟩));subst bA;(have bm:=(hJ.trans hK).heap (Zg S _))))
       go_roundw
       case rel=>
        have fK:=F.lt;have bB:=gN.size;rw[Zp] at bB;refine ⟨m+1,.slice A5 R.path.length fD,sN,g6,by go_num,?_,?_,?_,⟨_,_,_,rfl⟩,gd ?_,gd ?_,gd ?_⟩
        ·rw[gD.out];exact ZaY (hJ.trans hK)
        ·rw[fd.out,Zc,ZcW];exact Jr (Ye gO hK) (YK _) _
        ·rw[gD.out];exact RSl.grown (RSl.of_own F) (Yo _ _ _) (Or.inr λe=>by have:=(fK _ e).1;omega)
        ·rw[gD.out];rcases F.2 with ⟨h1,h2⟩|⟨q,cap,b0,h1,h2,_⟩
         ·exact Or.inl (Zr h2)
         ·refine Or.inr λe=> ?_;have e2:(Value.slice A5 R.path.length fD).ownBlock=some q:=(by rw[h1];rfl);rw[e2] at e;have:=(gO.lt q e.symm).2;omega
        ·rw[gD.out];refine Or.inr λq hq=>Or.inr ?_;have:=(fK q hq).1;omega
        ·rw[gD.out];have bv:w.heap.size<=w4.heap.size:=(by have h1:=hc.out.size;have h2:=(gG.out o S hC.out).size;omega);have D:WrV w5 w.heap.size (.slice A5 R.path.length fD) R.path.length:=(by have h:=WrV.own F;rw[Nat.mul_one] at h;exact h.mono bv);exact D.grown (Yo _ _ _) (Or.inr λe=>by have:=(fK _ e).1;omega)
       case measure=>simp[intOf];omega
      ·have bu:m=t.length:=(by omega);subst bu;rw[ZR (Zb _)] at hL hd hI gn g2 fV;have ga:fok (hdF X t):=Zia X _ (hB.out X (J.out X (by simp))).1 λy K=>(hB.out y (J.out y (Zu _ K))).1;have fG:∀e∈enF X t,eok e:=Zmd (hB.out X (J.out X (by simp))).2.2 λy K=>(hB.out y (J.out y (Zu _ K))).2.2;have hg:=g0.out;obtain ⟨H,hH⟩:∃H,hdF X t=H:=⟨_,rfl⟩;obtain ⟨E,gw⟩:∃E,enF X t=E:=⟨_,rfl⟩;rw[hH] at hL hI gn g2 ga fV;rw[gw] at hd fG hV gL;rw[hH,gw] at hg;have de:=gd hg;clear hg hH gw;obtain ⟨zA,zc,fR,_,_⟩:=hI.form;obtain ⟨eA,en,ec,gM⟩:=fN;subst fR gM;have dW:=gd (KG _ E wr (hE.ext (hc.out.trans ((gG.out o S hC.out).trans hl))) (RSl.of_own hd) fG hV gL.out);have hZ:rs.length=k:=(by have:=ZC List.length gQ.out;rw[Zm,Zm,ZL] at this;have:=fv.out;omega);have gs:Hid ((rs.length+1)*104<=140737488355328):=gd (by omega);have gt:Hid (rs.length+1<=maxLen):=gd (by unfold maxLen;omega);have bR:=gd hZ;clear hZ;have fC:=gd hL;have gl:=gd hl;have fz:=gd hI;have dm:U.heap.size<S.heap.size:=(by omega);obtain ⟨oA,oc,fQ,_,_⟩:=HH.out.row.reads.form;subst fQ;have d4:=gd ga;clear hL hl hI fG hV hd ga;have bU:U.heap.size≠S.heap.size:=by omega
       go_wp2_with (first|(go_at_call 68;(have D:=dW.out);(with_reducible refine Za D ?_);clear D;rintro e w5 ⟨b1,rfl,F,hK⟩;(obtain ⟨gf,gg,bO,_,_⟩:=F.reads.form);subst bO;(have hi:=fC.out.trans hK);(have e0:=hi.boxed 0 (.slice zA H.path.length zc) rfl);(have e1:=hi.boxed 1 (.string H.id) rfl);(have e2:=hi.boxed 2 (.string H.title) rfl);(have e3:=hi.boxed 3 (.string H.link) rfl);(have e4:=hi.boxed 4 (nI H.upd) rfl);(have e5:=hi.boxed 5 (.slice eA en ec) rfl);(have f5:=hi.boxedF 5);(have ca:=h9.out _ w5 (hC.out.trans (gl.out.trans hK)));(obtain ⟨dh,bi⟩:=ca);(have hj:Ext S (w5.setCell ⟨S.heap.size,5,none⟩ (.slice gf (ordE.canon E).length gg)):=Ext.setCell (gl.out.trans hK) (Zb _) _);(have dD:=hj.size))|(at_builtin;refine ZP _ rfl (.tmp 68) (.tmp 70) _ rfl w1.heap.size 55 i0 _ 6 104 underlying29 dt fa dS dT rfl (by decide) _ rs.length (flatC rs) rfl ((Ye HH.out.row hj).alloc _) _ 1 (cellsC ⟨.slice zA H.path.length zc,.slice gf (ordE.canon E).length gg,withE H (ordE.canon E)⟩) rfl (X8 (e:=55) (fr:=(0,0)) (cs:=cellsC ⟨.slice zA H.path.length zc,.slice gf (ordE.canon E).length gg,withE H (ordE.canon E)⟩) (Zd3 _ _ _ _) rfl (by decide)) (Jd ⟨⟨_,_,_,rfl⟩,⟨_,_,_,rfl⟩⟩) gt.out gs.out ?_ ?_;(simp[World.setCell] at dD|-;omega);intro v7 w7 gP gy dp;(obtain ⟨g7,fh,fS,_⟩:=Zip gP (ZgF _));subst fS;(have c6:=h9.out _ _ (hC.out.trans (hj.alloc (.cells (cellsC ⟨.slice zA H.path.length zc,.slice gf (ordE.canon E).length gg,withE H (ordE.canon E)⟩).toArray 55))));(have ge:some U.heap.size≠(Value.slice oA rs.length oc).ownBlock:=λe=>by have:=(HH.out.row.lt _ e.symm).1;omega);(have c7:=gy.cell c6.1 ge);(have f7:=(World.frozen?_of_block (a:=⟨U.heap.size,0,none⟩) (gy.block U.heap.size (by have:=dm;simp[World.setCell] at dD|-;omega) ge)).trans c6.2)))
       go_roundw
       case rel=>
        have dE:RStrs w5 (.slice zA H.path.length zc) H.path:=fz.out.ext hK;obtain ⟨Y,hY⟩:∃Y:Fc,Y=⟨.slice zA H.path.length zc,.slice gf (ordE.canon E).length gg,withE H (ordE.canon E)⟩:=⟨_,rfl⟩;have gZ:RdC w5 Y:=(by rw[hY];exact ⟨dE,F.reads⟩);have dy:=F.lt;have bG:=hc.out.size;have gr:∀q,(q=w.heap.size\/U.heap.size<=q)->q<=S.heap.size->awayC Y (some q):=by
         intro q h1 h2;rw[hY];refine ⟨?_,Or.inr λe=> ?_⟩
         ·rcases g2.out with h|h
          ·exact Or.inl h
          ·refine Or.inr λe=> ?_;rcases h q e with ⟨h3,h4⟩|h3
           ·rcases h1 with h1|h1
            ·exact h4 h1
            ·omega
           ·omega
         ·have:=(dy q e).1;omega
        have fY:=gZ.grown (Yi w5 ⟨S.heap.size,5,none⟩ (.slice gf (ordE.canon E).length gg)) (gr S.heap.size (Or.inr (by omega)) (Zb _));have gW:awayC Y (Value.slice oA rs.length oc).ownBlock:=Zct gZ λq hq=>gr q (Or.inr (by have:=(HH.out.row.lt q hq).1;omega)) (by have:=(HH.out.row.lt q hq).2;omega);have hS:=HFs.snoc (x:=Y) (HH.out.ext (hj.alloc _)) (fY.ext ((Ext.refl _).alloc _)) gW (by rw[hY];exact gP) gy dp;have hU:∀z∈rs++ [Y],awayC z (some U.heap.size)/\awayC z (some w.heap.size)/\fok z.f:=by
         intro z D;rcases Zx.1 D with D|D
         ·exact gc.out z D
         ·rw[Zo.1 D];exact ⟨gr _ (Or.inr (Zb _)) (by omega),gr _ (Or.inl rfl) (by omega),by rw[hY];exact d4.out⟩
        have dQ:WcF w5 w.heap.size Y:=(by rw[hY];refine ⟨fV.out.ext hK,(WrV.own F).mono ?_⟩;have h1:=hc.out.size;have h2:=(gG.out _ S hC.out).size;have h3:=gl.out.size;omega);have dH:∀z∈rs++ [Y],WcF (w7.setCell ⟨U.heap.size,0,none⟩ (.slice (some ⟨g7,0,none⟩) (rs.length+1) fh)) w.heap.size z:=by
         intro z D;rcases Zx.1 D with D|D
         ·exact (((dG.out z D).ext (hj.alloc _)).grown gy (HH.out.away z D)).setCell _ _
         ·rw[Zo.1 D];exact (((dQ.setCell ⟨S.heap.size,5,none⟩ (.slice gf (ordE.canon E).length gg)).ext ((Ext.refl _).alloc _)).grown gy gW).setCell _ _
        refine ⟨k+1,.slice (some ⟨g7,0,none⟩) (rs.length+1) fh,rs++ [Y],hw,by go_num,HFs.setCell hS dl (λz D=>(hU z D).1),gd ?_,gd hU,gd dH,ZdY (Ext.app (hC.out.trans (hj.alloc _)) gy (Ye HH.out.row (hj.alloc _)) (by rw[fA.out];exact Zb _))⟩;rw[de.out,ZN,gQ.out,Zw,Yc,hY]
       case measure=>simp[intOf];omega
    ·have fO:k=gv.length:=(by omega);subst fO;have dx:((firstsC lc).take gv.length).map (jF (lc.map Fc.f))=ordF.joined (lc.map Fc.f):=(by rw[ZR (by rw[fv.out];exact Zb _),Zfy];rfl);have hZ:rs.length<=1000000:=(by have:=ZC List.length gQ.out;rw[Zm,Zm,ZL] at this;omega);have dd:=gd (gQ.out.trans dx);have d8:=gd (Zkc o rs wr w1.heap.size hH (λy K=>by have:=(gc.out y K).2.2.2;omega) hZ);obtain ⟨oA,oc,fQ,_,_⟩:=hH.row.reads.form;subst fQ;obtain ⟨dh,bi⟩:=h9.out _ wr hx;have gq:=gG.out _ wr hx;have fa:=(HX.out.trans gq).heap (Zg w _);have bG:=hc.out.size;have gp:=hH.row.lt;have ge:some U.heap.size≠(Value.slice oA rs.length oc).ownBlock:=λe=>(by have:=(gp _ e.symm).1;omega);have dz:some w.heap.size≠(Value.slice oA rs.length oc).ownBlock:=λe=>(by have:=(gp _ e.symm).1;omega);have bW:=gq.size;have da:=gd gp;have f2:=gd hH.away;have dg:=gd gq;have bt:w.heap.size<wr.heap.size:=(by have:=HX.out.size;rw[Zp] at this;omega);clear dx hZ gQ hH hx gq gp
     go_wp2_with (first|(go_at_call 69;(have D:=d8.out);(with_reducible refine Za D ?_);clear D;rintro e w9 ⟨rfl,l',hp,hs,bk,g4⟩;(have c9:=g4.cell dh ge);(have z9:=(g4.block w.heap.size bt dz).trans fa))|(refine Zf rfl 31 (.tmp 2) (.tmp 77) rfl w.heap.size _ rfl rfl _ _ z9 Xy rfl Vt ?_))
     ((try simp only[Exit.inBlock,Exit.then]);refine Zy (Yp rfl _ _ _ _ #[.slice oA rs.length oc] _ _ rfl (Zz _ _ _ #[.slice oA rs.length oc] _ _ z9) underlying31 rfl Xy) rfl ?_);refine ⟨.slice oA rs.length oc,l',rfl,?_,HFs.setRow bk (by omega) (by omega) (λz D=>(gc.out z (hp.mem_iff.1 D)).2.1) _,λz D=>((dG.out z (hp.mem_iff.1 D)).grown g4 (f2.out z (hp.mem_iff.1 D))).grown (Yo _ _ _) (gc.out z (hp.mem_iff.1 D)).2.1,?_⟩
     ·exact ordF.sorted_joined (lc.map Fc.f) (l'.map Fc.f) (by rw[<-dd.out];exact hp.map _) (List.pairwise_map.2 hs)
     ·exact (Ext.grown' (B:=0) (hc.out.trans dg.out) g4 λq hq=>by have:=(da.out q hq).1;omega).setRow (Zb _) _
end Go.Proofs.YtnlafkgkcnenfaaGreatDoor
