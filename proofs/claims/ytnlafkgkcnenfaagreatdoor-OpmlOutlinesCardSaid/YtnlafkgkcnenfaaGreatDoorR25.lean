/- Parts of the proof: contracts and plain laws. -/
import Derived.Test.YtnlafkgkcnenfaaGreatDoorR19
import Derived.Test.YtnlafkgkcnenfaaGreatDoorR23
import Derived.Test.YtnlafkgkcnenfaaGreatDoorR24
namespace Go.Proofs.YtnlafkgkcnenfaaGreatDoor
open Go Go.RowKit Tryz
set_option linter.unusedVariables false
set_option linter.unusedSimpArgs false
set_option maxRecDepth 100000
set_option maxHeartbeats 16000000
theorem Zdo:∀(l:List Fd) (k:Nat) (A:k<l.length),(∀e∈l.take k,errF e=0)->errF l[k]≠0->errFs l=errF l[k]
 | [],k,A,_,_=>by simp at A
 |e::t,0,_,_,h=>by simp only[errFs];rw[Zg (by simpa using h)];rfl
 |e::t,k+1,A,h,h2=>by
  simp only[errFs]
  rw[Zl (h e (by simp)),Zdo t k (by simpa using A) (λx D=>h x (by simp[D])) (by simpa using h2)]
  rfl
theorem Xa:(prog.info? 31).map (λi=>i.size)=some 1:=by kernel_rfl
theorem Ziv:∀(L:List Fc) (l:List Fd),L.map Fc.f=l->allE L=(l.map λf=>f.ents.length).sum
 | [],_,h=>by subst h;rfl
 |x::t,_,h=>by subst h;unfold allE;rw[J4];rfl
theorem KH:∀(l:List Fc),((l.map λx=>collF x.f).map λf=>f.ents.length).sum<=allE l
 | []=>Zb _
 |x::t=>by
  have h:=KH t
  have A:(collF x.f).ents.length<=x.f.ents.length:=by
   show (ordE.canon (x.f.ents.map collE)).length<=_
   have:=KL ordE (x.f.ents.map collE)
   rwa [Zk] at this
  unfold allE at*
  simp only[ZP,XH] at h|-
  omega
theorem E4 (l:List Ent):∀u∈flatE l,u.oneCell'=true:=by
 intro u h;unfold flatE at h;obtain ⟨c,A,h⟩:=ZkW.1 h;obtain ⟨e,_,rfl⟩:=ZO.1 A;exact XK e u h
section
variable {f:Fd} {k n:Nat} {l:List Fc}
def ewide (e:Ent):Prop:=i64ok e.upd/\e.id.size<=reachBytes/\e.title.size<=reachBytes/\e.link.size<=reachBytes/\e.content.size<=reachBytes
def fwide (f:Fd):Prop:=i64ok f.upd/\f.path.length<=reachBytes/\(∀s∈f.path,s.size<=reachBytes)/\f.id.size<=reachBytes/\f.title.size<=reachBytes/\f.link.size<=reachBytes/\f.ents.length<=reachBytes/\∀e∈f.ents,ewide e
def capN (n:Nat):Nat:=1+min n 9000
def bigE (e:Ent):Nat:=capN (e.id.size+e.title.size+e.link.size+e.content.size)
def bigP (l:List ByteArray):Nat:=(l.map λs=>capN s.size).sum
def bigEs (l:List Ent):Nat:=(l.map bigE).sum
def bigH (f:Fd):Nat:=capN (f.id.size+f.title.size+f.link.size)
def bigF (f:Fd):Nat:=bigH f+bigP f.path+bigEs f.ents
def bigL (l:List Fd):Nat:=(l.map bigF).sum
theorem Eq {l:List Nat} (h:n∈l):n<=l.sum:=by
 induction l with
 |nil=>simp at h
 |cons x t ih=>
  rw[XH];rcases ZI.1 h with h|h
  ·omega
  ·have:=ih h;omega
theorem EJ:∀{l:List ByteArray},bigP l<=5000->l.length+sizes l<=bigP l
 | [],_=>by simp[sizes,bigP]
 |s::t,h=>by
  have e:bigP (s::t)=capN s.size+bigP t:=by unfold bigP;simp
  have e2:sizes (s::t)=s.size+sizes t:=by unfold sizes;simp
  rw[e] at h|-
  have ih:=EJ (l:=t) (by omega)
  unfold capN at h|-
  rw[e2,Ze]
  omega
theorem Zbh:∀(l:List Ent),l.length<=bigEs l
 | []=>by simp
 |s::t=>by
  have e:bigEs (s::t)=bigE s+bigEs t:=by unfold bigEs;simp
  have ih:=Zbh t
  rw[e,Ze]
  unfold bigE capN
  omega
theorem Ziy {l:List Ent} {e:Ent} (h:e∈l):bigE e<=bigEs l:=Eq (ZO.2 ⟨e,h,rfl⟩)
theorem Zc4 {l:List Fd} (h:f∈l):bigF f<=bigL l:=Eq (ZO.2 ⟨f,h,rfl⟩)
theorem Ze5 {e:Ent} (h:bigE e<=5000):e.id.size+e.title.size+e.link.size+e.content.size<=5000:=by
 unfold bigE capN at h;omega
theorem Zib {e:Ent} (A:i64ok e.upd) (h:bigE e<=5000):eok e:=⟨A,by have:=Ze5 h;omega⟩
theorem Zic (D:fwide f) (h:bigF f<=5000):fokS f:=by
 have H:bigH f+bigP f.path+bigEs f.ents<=5000:=h;have J:=EJ (l:=f.path) (by omega);have F:bigH f<=5000:=by omega
 unfold bigH capN at F;have I:=Zbh f.ents;refine ⟨⟨D.1,by omega⟩,by omega,λe A=>Zib (D.2.2.2.2.2.2.2 e A).1 ?_⟩;have:=Ziy A;omega
theorem ZgE (h:k<l.length):bigL ((l.take (k+1)).map Fc.f)=bigL ((l.take k).map Fc.f)+bigF l[k].f:=by
 rw[Zq h];unfold bigL;simp only[ZK,Vl,ZP,Yt,XH,List.sum_nil,Nat.add_zero]
theorem Zj4 (l:List Fc) (k:Nat):bigL ((l.take k).map Fc.f)<=bigL (l.map Fc.f):=by
 have e:bigL (l.map Fc.f)=bigL ((l.take k).map Fc.f)+bigL ((l.drop k).map Fc.f):=by unfold bigL;rw[<-Vl,<-ZK,<-ZK,YZ]
 omega
theorem ZgF {l:List ByteArray} (h:k<l.length):bigP (l.take (k+1))=bigP (l.take k)+capN l[k].size:=by
 rw[Zq h];unfold bigP;simp only[ZK,Vl,ZP,Yt,XH,List.sum_nil,Nat.add_zero]
theorem Ze6 {l:List Ent} (h:k<l.length):bigEs (l.take (k+1))=bigEs (l.take k)+bigE l[k]:=by
 rw[Zq h];unfold bigEs;simp only[ZK,Vl,ZP,Yt,XH,List.sum_nil,Nat.add_zero]
theorem Ziz (l:List Ent) (k:Nat):bigEs (l.take k)<=bigEs l:=by
 have e:bigEs l=bigEs (l.take k)+bigEs (l.drop k):=by unfold bigEs;rw[<-Vl,<-ZK,YZ]
 omega
theorem Zgh (n:Nat):capN n<=9001:=by unfold capN;omega
theorem ZgD (D:∀x∈l,fwide x.f) (h:bigL (l.map Fc.f)<=5000):∀x∈l,fokS x.f:=λx A=>Zic (D x A) (Zv (Zc4 (ZO.2 ⟨x,A,rfl⟩)) h)
end
theorem Zjq {s:List Ent} {e:Ent} (A:∀x∈s,eok x) (D:eok e):∀z∈ordE.put s e,eok z:=by
 intro z F;rcases (Ord.mem_ins _ _ _ _).1 F with h|h
 ·rw[h];exact ZaA s e A D
 ·exact A z (ZaB s e z h)
theorem ZbC:∀(l s:List Ent),(∀x∈l,eok x)->(∀x∈s,eok x)->∀z∈l.foldl ordE.put s,eok z
 | [],s,_,hs=>hs
 |e::t,s,hl,hs=>ZbC t _ (λx h=>hl x (ZJ _ h)) (Zjq hs (hl e (ZS ..)))
def hokF (f:Fd):Prop:=(fok f/\f.path.length<=1000000)/\∀e∈f.ents,eok e
theorem Zhk {a b:Fd} (h:hokF a) (A:hokF b):hokF (joinF a b):=by
 refine ⟨⟨Zai h.1.1 A.1.1,?_⟩,ZbC _ _ A.2 h.2⟩;show (laterF a b).path.length<=1000000;unfold laterF;dsimp only;split
 ·exact A.1.2
 ·exact h.1.2
def sumE (l:List Fd):Nat:=(l.map λf=>f.ents.length).sum
theorem VB (f:Fd) (t:List Fd):sumE (f::t)=f.ents.length+sumE t:=by unfold sumE;simp
theorem Zhl (a b:Fd):(joinF a b).ents.length<=a.ents.length+b.ents.length:=VU ordE b.ents a.ents
theorem Ix:∀(l:List Fd) (e:Fd),(∀x∈l,hokF x)->hokF e->hokF (ordF.scan l e).2
 | [],_,_,h=>h
 |x::t,e,hl,h=>by
  unfold Ord.scan
  split
  ·exact Ix t _ (λy A=>hl y (ZJ _ A)) (Zhk (hl x (ZS ..)) h)
  ·exact Ix t e (λy A=>hl y (ZJ _ A)) h
theorem Iy:∀(l:List Fd) (e:Fd),sumE (ordF.scan l e).1+(ordF.scan l e).2.ents.length<=sumE l+e.ents.length
 | [],e=>by simp[Ord.scan,sumE]
 |x::t,e=>by
  have h:ordF.op x e=joinF x e:=rfl
  unfold Ord.scan
  split
  ·have A:=Iy t (ordF.op x e)
   have D:=Zhl x e
   rw[VB]
   rw[h] at A|-
   omega
  ·have A:=Iy t e
   simp only[VB]
   omega
theorem ZdI:∀(l:List Fd) (e:Fd),sumE (ordF.ins l e)=sumE l+e.ents.length
 | [],e=>by simp[Ord.ins,sumE]
 |x::t,e=>by
  have ih:=ZdI t e
  unfold Ord.ins
  split
  ·simp only[VB];omega
  ·simp only[VB];omega
theorem Zjs (l:List Fd) (e:Fd):sumE (ordF.put l e)<=sumE l+e.ents.length:=by
 unfold Ord.put;rw[ZdI];exact Iy l e
theorem Zjr {l:List Fd} {e:Fd} (D:∀x∈l,hokF x) (F:hokF e):∀z∈ordF.put l e,hokF z:=by
 intro z H;rcases (Ord.mem_ins _ _ _ _).1 H with h|h
 ·rw[h];exact Ix l e D F
 ·have A:∀(l:List Fd) (e z:Fd),z∈(ordF.scan l e).1->z∈l:=by
   intro l
   induction l with
   |nil=>intro e z h;simp[Ord.scan] at h
   |cons y t ih=>
    intro e z h;unfold Ord.scan at h;split at h
    ·exact ZJ _ (ih _ z h)
    ·rcases ZI.1 h with h|h
     ·rw[h];exact ZS ..
     ·exact ZJ _ (ih _ z h)
  exact D z (A l e z h)
section
attribute [local go_sem ↓] Go.wp_at_zero Go.wp_at_succ
attribute [local go_sem] calm1
end
section
variable {f:Fd}
theorem ZbF:∀(l s:List Fd),sumE (l.foldl ordF.put s)<=sumE s+sumE l
 | [],s=>by simp[sumE]
 |e::t,s=>by
  have h:=ZbF t (ordF.put s e)
  have A:=Zjs s e
  rw[List.foldl_cons,VB]
  omega
theorem ZbE:∀(l s:List Fd),(∀x∈l,hokF x)->(∀x∈s,hokF x)->∀z∈l.foldl ordF.put s,hokF z
 | [],_,_,hs=>hs
 |e::t,s,hl,hs=>ZbE t _ (λx h=>hl x (ZJ _ h)) (Zjr hs (hl e (ZS ..)))
theorem Zfa (l:List Fd):sumE (ordF.canon l)<=sumE l:=by
 have h:=ZbF l [];have A:sumE []=0:=rfl;show sumE (l.foldl ordF.put [])<=_;omega
theorem Ze9 {l:List Fd} (h:∀x∈l,hokF x):∀z∈ordF.canon l,hokF z:=ZbE l [] h (by simp)
theorem ZgJ (h:fokS f) (D:f.path.length<=1000000):hokF (collF f):=by
 have A:=ZbB h;refine ⟨⟨A.1,?_⟩,A.2.2⟩;show (f.path.map collapse).length<=1000000;rw[Zk];exact D
theorem Zil (l:List Fc):sumE (l.map λx=>collF x.f)<=allE l:=KH l
end
section
variable {B B' m n:Nat} {b w:World} {e:TypeId} {r:Option Nat} {v:Value} {xs:List Value} {α:Type}
def WrV (w:Wq) (B:Nat) (v:Value) (m:Nat):Prop:=∀j,j<m->∃(ad:Addr) (n c:Nat) (u:Value),v= .slice (some ad) n c/\B<=ad.block/\w.cell? (ad.add j)=some u/\w.frozen? (ad.add j)=false
theorem WrV.zero (w:Wq) (B:Nat) (v:Value):WrV w B v 0:=λj h=>absurd h (Nat.not_lt_zero _)
theorem WrV.mono (h:WrV w B v m) (H:B'<=B):WrV w B' v m:=λj I=>
 let ⟨ad,n,c,u,e,A,D,F⟩:=h j I;⟨ad,n,c,u,e,Zv H A,D,F⟩
theorem WrV.ext {a:Wq} (h:WrV a B v m) (D:Ext a b):WrV b B v m:=λj I=>
 let ⟨ad,n,c,u,e,F,A,H⟩:=h j I
 ⟨ad,n,c,u,e,F,D.cell A,(Xt D (ZQ a _ A)).trans H⟩
theorem WrV.grown {a:Wq} (h:WrV a B v m) (I:a.grownBy b r) (F:m=0\/v.ownBlock≠r):WrV b B v m:=λj M=>by
 obtain ⟨ad,n,c,u,rfl,J,H,K⟩:=h j M;have A:=ZQ a _ H;have D:some (ad.add j).block≠r:=by
  rw[VI];rcases F with F|F
  ·omega
  ·exact F
 exact ⟨ad,n,c,u,rfl,J,(I.cell_far _ A D).trans H,(I.frozen_far _ A D).trans K⟩
theorem WrV.setCell (h:WrV w B v m) (p:Addr) (x:Value):WrV (w.setCell p x) B v m:=λj H=>by
 obtain ⟨ad,n,c,u,rfl,A,D,F⟩:=h j H;by_cases e:p=ad.add j
 ·subst e;exact ⟨ad,n,c,x,rfl,A,Jo _ _ _ D,by rw[Yz];exact F⟩
 ·exact ⟨ad,n,c,u,rfl,A,(ZZ _ _ _ _ e).trans D,by rw[Yz];exact F⟩
theorem WrV.setS:∀(l:List (Addr×ByteArray)) {w:Wq} {B:Nat} {v:Value} {m:Nat},WrV w B v m->WrV (setS w l) B v m
 | [],_,_,_,_,h=>h
 |p::t,_,_,_,_,h=>WrV.setS t (h.setCell p.1 _)
theorem WrV.own {size:Nat} (h:w.ownsRow B e size v n xs):WrV w B v (n*size):=λj D=>by
 have J:0<n:=Nat.pos_of_ne_zero λF=>by rw[F,Xf] at D;exact Nat.not_lt_zero _ D
 obtain ⟨g,cap,rfl,H,_⟩:=U6 h J;have A:(⟨g,0,none⟩:Addr).add j=⟨g,j,none⟩:=by unfold Addr.add;split<;>simp_all
 have I:j<xs.length:=by rw[h.1];exact D
 exact ⟨⟨g,0,none⟩,n,cap,xs[j],rfl,H,by rw[A,h.cellAt j D];exact Zj I,by rw[A];exact h.frozenAt j⟩
def WcF (w:Wq) (B:Nat) (y:Fc):Prop:=WrV w B y.p y.f.path.length/\WrV w B y.es (y.f.ents.length*5)
theorem WcF.ext {a:Wq} {y:Fc} (h:WcF a B y) (A:Ext a b):WcF b B y:=⟨h.1.ext A,h.2.ext A⟩
theorem WcF.mono {y:Fc} (h:WcF w B y) (A:B'<=B):WcF w B' y:=⟨h.1.mono A,h.2.mono A⟩
theorem EH {l:List α} {P:Prop} (h:l= []\/P):l.length=0\/P:=h.imp (λe=>by rw[e];rfl) λe=>e
theorem KK {l:List α} {P:Prop} (h:l= []\/P):l.length*5=0\/P:=h.imp (λe=>by rw[e];rfl) λe=>e
theorem WcF.grown {a:Wq} {y:Fc} (h:WcF a B y) (D:a.grownBy b r) (A:awayC y r):WcF b B y:=⟨h.1.grown D (EH A.1),h.2.grown D (KK A.2)⟩
end
section
variable {W:World} {cap g:Nat} {v:Value} {z:ByteArray}
theorem VE (w:Wq) (B:Nat):WcF w B zeroC:=⟨WrV.zero _ _ _,WrV.zero _ _ _⟩
theorem Zcj {b:Nat} {A:Option Addr} {l:List ByteArray} {x y:ByteArray} {p e t:Value} (hE:Env W) (hP:Ptrs W v (ptrsF g b l x y z)) (I:g≠b)
 (hA:0<l.length->A=some ⟨g,0,none⟩) (hr:RStrs W (.slice A l.length cap) l)
 (Q:W.cell? ⟨b,0,none⟩=some p) (U:W.cell? ⟨b,1,none⟩=some (.string x)) (V:W.cell? ⟨b,2,none⟩=some (.string y)) (X:W.cell? ⟨b,3,none⟩=some (.string z)) (Y:W.cell? ⟨b,4,none⟩=some t) (Z:W.cell? ⟨b,5,none⟩=some e) (S:W.frozen? ⟨b,5,none⟩=false)
 (hz:firstErr (l++ [x,y,z])=0):
 Calls prog 103 #[v] W λu w'=>u= .returned (nI 0)/\RStrs w' (.slice A l.length cap) (l.map collapse)/\
  (w'.cell? ⟨b,0,none⟩=some p/\w'.cell? ⟨b,1,none⟩=some (.string (collapse x))/\w'.cell? ⟨b,2,none⟩=some (.string (collapse y))/\w'.cell? ⟨b,3,none⟩=some (.string (collapse z))/\w'.cell? ⟨b,4,none⟩=some t/\w'.cell? ⟨b,5,none⟩=some e)/\
  w'.frozen? ⟨b,5,none⟩=false/\(∀a:Wq,Ext a W->a.heap.size<=g->a.heap.size<=b->Ext a w')/\(∀k o,k≠g->k≠b->W.heap[k]? =some o->w'.heap[k]? =some o)/\(∀B v m,WrV W B v m->WrV w' B v m):=by
 refine (JD v _ W hE hP).mono ?_;rintro u w' ⟨q1,q2⟩;rw[It,hz] at q1 q2;rw[ZhU] at q2;rcases q2 with ⟨_,q2⟩|⟨q2,_⟩
 ·have F:Ext (setS W (ptrsF g b (l.map collapse) (collapse x) (collapse y) (collapse z))) w':=by unfold Ext;rw[Gc];exact q2
  have D:l.length=(l.map collapse).length:=by simp
  have R:=ZhV (l:=l.map collapse) (x:=collapse x) (y:=collapse y) (z:=collapse z) (A:=A) (cap:=cap) (ll:=l) I D (by rw[<-D];exact hA) (by rw[<-D];exact hr) Q U V X Y Z F;rw[<-D] at R;obtain ⟨s0,s1⟩:=R;have H:b<W.heap.size:=ZQ W _ Q;refine ⟨q1,s0,s1,?_,λa ha hc hb=> ?_,λk o J K ho=> ?_,λB v m h=>(WrV.setS _ h).ext F⟩
  ·rw[Xt F (by rw[Gc];exact H),QM];exact S
  ·refine Ext.trans (Ext.setS _ ha λq M=> ?_) F;rcases ZbV M with e|e<;>rw[e]<;>assumption
  ·refine F.heap ?_;rw[Ql _ _ _ λq M=> ?_]
   ·exact ho
   ·rcases ZbV M with e|e<;>rw[e]
    ·exact λe=>J e.symm
    ·exact λe=>K e.symm
 ·exact absurd rfl q2
theorem ZaZ (x:Fc) (w:Wq) (hE:Env w) (hk:fokS x.f) (hr:RdC w x) (gu:x.f.ents.length<=1\/LatE):
 Calls prog 63 #[.agg (cellsC x).toArray] w λe w'=>∃y:Fc,e= .returned (.tuple #[.agg (cellsC y).toArray,nI (errF x.f:Nat)])/\y.f=normF x.f/\RdC w' y/\(∀g,g<w.heap.size->awayC y (some g))/\WcF w' w.heap.size y/\Ext w w':=by
 obtain ⟨i0,hR,hV,hu,hW⟩:=Yw Zkk;obtain ⟨i1,fI,fN,fO,fP⟩:=Yw Kj;obtain ⟨p,es,f⟩:=x;obtain ⟨F,hF⟩:∃F,f=F:=⟨_,rfl⟩;obtain ⟨EF,gt⟩:∃n,errF F=n:=⟨_,rfl⟩;obtain ⟨NF,gw⟩:∃n,normF F=n:=⟨_,rfl⟩;have e1:errF f=EF:=by rw[hF];exact gt
 have e2:normF f=NF:=by rw[hF];exact gw
 simp only[e1,e2];have hZ:=gd gt;have ho:=gd gw;clear e1 e2 gt gw;have hA:Hid (∀n,errF F=n->n≠0->normF F=zeroF):=gd λn h h'=>by unfold normF;rw[h,Zg h']
 obtain ⟨path,id,title,link,upd,ents⟩:=f;obtain ⟨gj,gi⟩:=hr;obtain ⟨⟨fM,ff⟩,g4,gB⟩:=hk;simp only at gj gi ff g4 gB gu;have fq:=gd gu;clear gu;have fU:path.length<=16777216:=by omega
 have fz:Hid (∀s∈path++ [id,title,link],s.size<=16777216):=gd (by
  intro s hs;rcases Zu.1 hs with hs|hs
  ·have:=X1 hs;omega
  ·simp only[ZI,Yg,Xx] at hs;rcases hs with rfl|rfl|rfl<;>omega)
 have gN:=gd gB;have gK:=gd (λ(w':Wq) (h:Ext w w')=>QW p path.length (path.map Value.string) w' (gj.ext h) (ZkH path) (by omega));have fw:=gd gi;have HF:=gd hF;obtain ⟨pA,pc,gD,_,_⟩:=gj.form;obtain ⟨eA,ec,fG,_,_⟩:=gi.form;subst gD fG;clear gj gi gB ff fM hF;unfold cellsC fCells;dsimp only;go_enter func63,ntmps63
 go_wp2_with (go_at_call 33;refine (gK.out _ (((Ext.refl w).alloc _).alloc _)).mono ?_;rintro e w1 ⟨p1,rfl,hS,ge⟩;(obtain ⟨A1,V,gD⟩:∃A c,p1= .slice A path.length c:=(by obtain ⟨A,c,e,_⟩:=(RSl.of_own hS).2;exact ⟨A,c,e⟩));subst gD;(have hj:=((Ext.refl _).alloc _).trans ge);(have c0:=hj.boxed 0 _ rfl);(have c1:=hj.boxed 1 _ rfl);(have c2:=hj.boxed 2 _ rfl);(have c3:=hj.boxed 3 _ rfl);(have c4:=hj.boxed 4 _ rfl);(have c5:=hj.boxed 5 _ rfl);(have f0:=hj.boxedF 0);(have f1:=hj.boxedF 1);(have f2:=hj.boxedF 2);(have f3:=hj.boxedF 3);(have f5:=hj.boxedF 5))
 obtain ⟨W1,Y⟩:∃W,W=w1.setCell ⟨w.heap.size,0,none⟩ (.slice A1 path.length V):=⟨_,rfl⟩;rw[<-Y];have hD:w1.ownsRow (w.heap.size+2) 9 1 (.slice A1 path.length V) path.length (path.map Value.string):=XM hS (by rw[Zt,Zt];exact Zb _);have b0:W1.cell? ⟨w.heap.size,0,none⟩=some (.slice A1 path.length V):=by rw[Y];exact Jo _ _ _ c0
 have b1:W1.cell? ⟨w.heap.size,1,none⟩=some (.string id):=by rw[Y,ZZ _ _ _ _ (by simp)];exact c1
 have b2:W1.cell? ⟨w.heap.size,2,none⟩=some (.string title):=by rw[Y,ZZ _ _ _ _ (by simp)];exact c2
 have b3:W1.cell? ⟨w.heap.size,3,none⟩=some (.string link):=by rw[Y,ZZ _ _ _ _ (by simp)];exact c3
 have b4:W1.cell? ⟨w.heap.size,4,none⟩=some (nI upd):=by rw[Y,ZZ _ _ _ _ (by simp)];exact c4
 have b5:W1.cell? ⟨w.heap.size,5,none⟩=some (.slice eA ents.length ec):=by rw[Y,ZZ _ _ _ _ (by simp)];exact c5
 have g1:W1.frozen? ⟨w.heap.size,1,none⟩=false:=by rw[Y,Yz];exact f1
 have g2:W1.frozen? ⟨w.heap.size,2,none⟩=false:=by rw[Y,Yz];exact f2
 have g3:W1.frozen? ⟨w.heap.size,3,none⟩=false:=by rw[Y,Yz];exact f3
 have g5:W1.frozen? ⟨w.heap.size,5,none⟩=false:=by rw[Y,Yz];exact f5
 have I:W1.ownsRow (w.heap.size+2) 9 1 (.slice A1 path.length V) path.length (path.map Value.string):=by rw[Y];exact Vx hD (a:=⟨w.heap.size,0,none⟩) (λe=>absurd (hD.lt _ e).1 (show ¬(w.heap.size+2<=w.heap.size) by omega)) _
 have fh:W1.heap[w.heap.size+1]? =some (.cells #[sN,eS,eS,eS,nI 0,sN] 55):=by
  rw[Y,ZY _ _ _ _ (by simp)];refine ge.heap ?_;have:=Zf (w.alloc (.cells #[.slice pA path.length pc,.string id,.string title,.string link,nI upd,.slice eA ents.length ec] 55)) (.cells #[sN,eS,eS,eS,nI 0,sN] 55)
  rwa [Zt] at this
 have gI:Ext w W1:=by rw[Y];exact Ext.setCell ((((Ext.refl w).alloc _).alloc _).trans ge) (Zb _) _
 have gV:=hE.ext gI;have fX:w.heap.size+2<=W1.heap.size:=by rw[Y];have:=ge.size;rw[Zt,Zt] at this;show w.heap.size+2<=(w1.heap.modify _ _).size;rw[Array.size_modify];exact this
 obtain ⟨g,g6,fT⟩:∃g,(0<path.length->A1=some ⟨g,0,none⟩)/\w.heap.size+2<=g:=by
  rcases YP path.length with h0|h0
  ·exact ⟨w.heap.size+2,λh=>by omega,Zb _⟩
  ·obtain ⟨g,cap,e,hb,_⟩:=U6 I h0;injection e with e1 e2 e3;exact ⟨g,λ_=>e1,hb⟩
 have gl:=gd I;have h5:Hid (WrV W1 (w.heap.size+2) (.slice A1 path.length V) path.length):=gd (by have h:=WrV.own I;rwa [Nat.mul_one] at h);have hC:=gd g6;have hw:=gd gI;have gP:=gd gV;clear Y hS hD I c0 c1 c2 c3 c4 c5 f0 f1 f2 f3 f5 hj ge gI gV g6 gK;go_loopw [4,19] (λo i wr=>∃k:Nat,k<=path.length/\i=nI k/\wr.ownsRow W1.heap.size 157 1 o k (((ptrsAt g 0 path).take k).map λq=>Value.pointer (some q.1))/\Ext W1 wr) (λ_ i _=>path.length - (intOf i).toNat)
 case atStart=>exact ⟨0,Zh _,rfl,YO _ _ _ _,Ext.refl _⟩
 case round=>
  obtain ⟨k,hk,rfl,I,hx⟩:=hrel;by_cases hK:k<path.length
  ·have gr:=hC.out (by omega);subst gr;have d0:=hx.cell b0;have g8:(0:Int)<=(k:Int):=(by omega);have g9:(k:Int)<(path.length:Int):=(by omega);have gE:=Zeh g path k hK;obtain ⟨X,hX⟩:∃X,((ptrsAt g 0 path).take k).map (λq=>Value.pointer (some q.1))=X:=⟨_,rfl⟩;rw[hX] at I gE;have fx:=gd gE;have hl:Hid ((k+1)*8<=140737488355328):=gd (by omega);have hm:Hid (k+1<=maxLen):=gd (by unfold maxLen;omega);have M:=gd I;have hh:=gd hx;have hws:=hx.size;clear gE hX I
   go_wp2_with (first|(at_builtin;refine ZH _ rfl (.tmp 22) (.tmp 27) _ rfl W1.heap.size 157 i0 _ 1 8 underlying156 hR hV hu hW rfl (by decide) _ k X rfl (M.out.alloc _) _ 1 [.pointer (some ⟨g,k,none⟩)] rfl (Yp rfl (by decide)) (by intro y hy;simp at hy;subst hy;rfl) hm.out hl.out ?_ ?_;(simp;omega);intro v3 w3 H ha ht;(have D:Ext W1 w3:=Ext.app (hh.out.alloc _) ha (M.out.alloc _) (Zb _))))
   go_roundw
   case rel=>exact ⟨k+1,hK,by go_num,by rw[fx.out];exact H,D⟩
   case measure=>simp[intOf];omega
  ·have gC:k=path.length:=(by omega);subst gC;rw[ZM (by rw[V4];exact Zb _)] at I;have d0:=hx.cell b0;have d1:=hx.cell b1;have d2:=hx.cell b2;have d3:=hx.cell b3;have d4:=hx.cell b4;have d5:=hx.cell b5;obtain ⟨X,hX⟩:∃X,(ptrsAt g 0 path).map (λq=>Value.pointer (some q.1))=X:=⟨_,rfl⟩;rw[hX] at I;have fc:(ptrsF g w.heap.size path id title link).map (λq=>Value.pointer (some q.1))=X++ [.pointer (some ⟨w.heap.size,1,none⟩),.pointer (some ⟨w.heap.size,2,none⟩),.pointer (some ⟨w.heap.size,3,none⟩)]:=(by unfold ptrsF;rw[ZK,hX];rfl);have fv:=gd fc;have M:=gd I;have hh:=gd hx;have hws:=hx.size;have hl:Hid ((path.length+3)*8<=140737488355328):=gd (by omega);have hm:Hid (path.length+3<=maxLen):=gd (by unfold maxLen;omega);have gm:g≠w.heap.size:=(by omega);have hP:∀(w4:Wq) (v4:Value),Ext W1 w4->w4.ownsRow W1.heap.size 157 1 v4 (path.length+3) (X++ [.pointer (some ⟨w.heap.size,1,none⟩),.pointer (some ⟨w.heap.size,2,none⟩),.pointer (some ⟨w.heap.size,3,none⟩)])->Ptrs w4 v4 (ptrsF g w.heap.size path id title link):=(by intro w4 v4 Q hU;have gx:w.heap.size<W1.heap.size:=(by omega);refine ZiP (A:=A1) (cap:=V) gm hC.out (Yh gl.out Q) (Q.cell b1) (Q.cell b2) (Q.cell b3) ((Xt Q gx).trans g1) ((Xt Q gx).trans g2) ((Xt Q gx).trans g3) fz.out ?_;rw[fv.out];exact RSl.of_own hU);have HP:=gd hP;have gn:RStrs W1 (.slice A1 path.length V) path:=RSl.of_own gl.out;have fy:=gd gn;have HB:=gd (Vr b0 (Vr b1 (Vr b2 (Vr b3 (Vr b4 b5)))));have fp:=gd g5;have h3:=gd fh;clear hX fc I hP gn b0 b1 b2 b3 b4 b5 g1 g2 g3 g5 fh hx;by_cases h0:firstErr (path++ [id,title,link])=0
   ·have g7:errF F=if collapse id=noS\/(path.any λp=>decide (collapse p=noS))=true then 19 else if 64<path.length then 9 else if inT upd=true then errEs ents else 3:=by
     rw[<-HF.out];unfold errF headF strsF;simp only[h0,ne_eq,not_true_eq_false,Zco];split
     ·rfl
     ·split
      ·rfl
      ·split<;>rfl
    have h1:=gd g7;have h9:((path.map collapse).any λs=>decide (s=⟨#[]⟩))=path.any λp=>decide (collapse p=noS):=(by rw[List.any_map];rfl);obtain ⟨Bp,gs⟩:∃B,(path.any λp=>decide (collapse p=noS))=B:=⟨_,rfl⟩;rw[gs] at h9;have hH:=gd h9;have gJ:=gd gs;have HT:=gd (λw'=>GQ upd w');have hM:=gd (λ(w4:Wq) (v4:Value) (Q:Ext W1 w4) hU=>Zcj (W:=w4) (v:=v4) (g:=g) (b:=w.heap.size) (cap:=V) (A:=A1) (l:=path) (x:=id) (y:=title) (z:=link) (gP.out.ext Q) (HP.out w4 v4 Q hU) gm hC.out (fy.out.ext Q) (Q.cell HB.out.1) (Q.cell HB.out.2.1) (Q.cell HB.out.2.2.1) (Q.cell HB.out.2.2.2.1) (Q.cell HB.out.2.2.2.2.1) (Q.cell HB.out.2.2.2.2.2) ((Xt Q (show w.heap.size<W1.heap.size by omega)).trans fp.out) h0);clear g7 h9 gs h0;obtain ⟨ci,gg⟩:∃c,collapse id=c:=⟨_,rfl⟩;obtain ⟨ct,gz⟩:∃c,collapse title=c:=⟨_,rfl⟩;obtain ⟨cl,gy⟩:∃c,collapse link=c:=⟨_,rfl⟩;rw[gg,gz,gy] at hM;rw[gg] at h1;have fk:=gd gg;have fl:=gd gz;have gL:=gd gy;clear gg gz gy;by_cases hY:ci=noS
    ·subst hY;have fK:noS.toList= []:=(by rw[X4];rfl);unfold noS at hM;have he:errF F=19:=(by rw[h1.out];rw[Zl (Or.inl rfl)]);have HN:=gd (hA.out _ he (by decide));have hi:=hZ.out.symm.trans he;subst hi;clear he
     go_wp2_with (first|(at_builtin;refine ZH _ rfl (.tmp 30) (.tmp 34) _ rfl W1.heap.size 157 i0 _ 1 8 underlying156 hR hV hu hW rfl (by decide) _ path.length X rfl (M.out.alloc _) _ 3 [.pointer (some ⟨w.heap.size,1,none⟩),.pointer (some ⟨w.heap.size,2,none⟩),.pointer (some ⟨w.heap.size,3,none⟩)] rfl (Yp rfl (by decide)) (by intro y hy;simp at hy;rcases hy with rfl|rfl|rfl<;>rfl) hm.out hl.out ?_ ?_;(simp;omega);intro v3 w3 H ha ht;(have D:Ext W1 w3:=Ext.app (hh.out.alloc _) ha (M.out.alloc _) (Zb _)))|(go_at_call 103;(have K:=hM.out _ _ D H);(with_reducible refine Za K ?_);clear K;rintro e w5 ⟨rfl,S,⟨q0,q1,q2,q3,q4,q5⟩,f5,hg,hc,hd⟩;(have h6:=gd (hd _ _ _ (h5.out.ext D)));clear hd;(have hf:Ext w w5:=hg w (hw.out.trans D) (by omega) (Zb _));(have R:=hc (w.heap.size+1) _ (by omega) (by omega) (D.heap h3.out));(have HC:=gd (JT (w:=w5) (g:=g) (n:=path.length) (c:=V) (A:=A1) (l:=path.map collapse) ⟨#[]⟩ (by simp) (by simpa using hC.out) S (by simp;omega)));rw[hH.out] at HC;clear hg hc)|(refine Zc rfl 55 (.tmp 2) (.tmp 51) rfl (w.heap.size+1) _ rfl rfl _ _ R Ji rfl Zd8 ?_))
     ((try simp only[Exit.inBlock,Exit.then]);refine Zn (Yb rfl _ _ _ _ _ _ _ rfl (Zp _ _ _ _ _ _ R) underlying55 rfl Ji) rfl ?_);exact ⟨zeroC,rfl,HN.out.symm.trans ho.out,VD _,λ_ _=>Ug _,VE _ _,hf.setRow (by omega) _⟩
    ·have fK:=UW hY;have gQ:=gd hY;clear hY;cases Bp with
     |true=>
      have he:errF F=19:=(by rw[h1.out];rw[Zl (Or.inr gJ.out)]);have HN:=gd (hA.out _ he (by decide));have hi:=hZ.out.symm.trans he;subst hi;clear he
      go_wp2_with (first|(at_builtin;refine ZH _ rfl (.tmp 30) (.tmp 34) _ rfl W1.heap.size 157 i0 _ 1 8 underlying156 hR hV hu hW rfl (by decide) _ path.length X rfl (M.out.alloc _) _ 3 [.pointer (some ⟨w.heap.size,1,none⟩),.pointer (some ⟨w.heap.size,2,none⟩),.pointer (some ⟨w.heap.size,3,none⟩)] rfl (Yp rfl (by decide)) (by intro y hy;simp at hy;rcases hy with rfl|rfl|rfl<;>rfl) hm.out hl.out ?_ ?_;(simp;omega);intro v3 w3 H ha ht;(have D:Ext W1 w3:=Ext.app (hh.out.alloc _) ha (M.out.alloc _) (Zb _)))|(go_at_call 103;(have K:=hM.out _ _ D H);(with_reducible refine Za K ?_);clear K;rintro e w5 ⟨rfl,S,⟨q0,q1,q2,q3,q4,q5⟩,f5,hg,hc,hd⟩;(have h6:=gd (hd _ _ _ (h5.out.ext D)));clear hd;(have hf:Ext w w5:=hg w (hw.out.trans D) (by omega) (Zb _));(have R:=hc (w.heap.size+1) _ (by omega) (by omega) (D.heap h3.out));(have HC:=gd (JT (w:=w5) (g:=g) (n:=path.length) (c:=V) (A:=A1) (l:=path.map collapse) ⟨#[]⟩ (by simp) (by simpa using hC.out) S (by simp;omega)));rw[hH.out] at HC;clear hg hc)|(go_at_call 104;(have K:=HC.out);(with_reducible refine Za K ?_);clear K;rintro e w6 ⟨rfl,rfl⟩)|(refine Zc rfl 55 (.tmp 2) (.tmp 51) rfl (w.heap.size+1) _ rfl rfl _ _ R Ji rfl Zd8 ?_))
      ((try simp only[Exit.inBlock,Exit.then]);refine Zn (Yb rfl _ _ _ _ _ _ _ rfl (Zp _ _ _ _ _ _ R) underlying55 rfl Ji) rfl ?_);exact ⟨zeroC,rfl,HN.out.symm.trans ho.out,VD _,λ_ _=>Ug _,VE _ _,hf.setRow (by omega) _⟩
     |false=>
      have gX:¬(ci=noS\/(path.any λp=>decide (collapse p=noS))=true):=by
       rintro (h|h)
       ·exact gQ.out h
       ·rw[gJ.out] at h;cases h
      have gp:=gd gX;clear gX;by_cases gh:64<path.length
      ·have gZ:(64:Int)<(path.length:Int):=(by omega);have he:errF F=9:=(by rw[h1.out];rw[Zg gp.out,Zl gh]);have HN:=gd (hA.out _ he (by decide));have hi:=hZ.out.symm.trans he;subst hi;clear he
       go_wp2_with (first|(at_builtin;refine ZH _ rfl (.tmp 30) (.tmp 34) _ rfl W1.heap.size 157 i0 _ 1 8 underlying156 hR hV hu hW rfl (by decide) _ path.length X rfl (M.out.alloc _) _ 3 [.pointer (some ⟨w.heap.size,1,none⟩),.pointer (some ⟨w.heap.size,2,none⟩),.pointer (some ⟨w.heap.size,3,none⟩)] rfl (Yp rfl (by decide)) (by intro y hy;simp at hy;rcases hy with rfl|rfl|rfl<;>rfl) hm.out hl.out ?_ ?_;(simp;omega);intro v3 w3 H ha ht;(have D:Ext W1 w3:=Ext.app (hh.out.alloc _) ha (M.out.alloc _) (Zb _)))|(go_at_call 103;(have K:=hM.out _ _ D H);(with_reducible refine Za K ?_);clear K;rintro e w5 ⟨rfl,S,⟨q0,q1,q2,q3,q4,q5⟩,f5,hg,hc,hd⟩;(have h6:=gd (hd _ _ _ (h5.out.ext D)));clear hd;(have hf:Ext w w5:=hg w (hw.out.trans D) (by omega) (Zb _));(have R:=hc (w.heap.size+1) _ (by omega) (by omega) (D.heap h3.out));(have HC:=gd (JT (w:=w5) (g:=g) (n:=path.length) (c:=V) (A:=A1) (l:=path.map collapse) ⟨#[]⟩ (by simp) (by simpa using hC.out) S (by simp;omega)));rw[hH.out] at HC;clear hg hc)|(go_at_call 104;(have K:=HC.out);(with_reducible refine Za K ?_);clear K;rintro e w6 ⟨rfl,rfl⟩)|(refine Zc rfl 55 (.tmp 2) (.tmp 57) rfl (w.heap.size+1) _ rfl rfl _ _ R Ji rfl Zd8 ?_))
       ((try simp only[Exit.inBlock,Exit.then]);refine Zn (Yb rfl _ _ _ _ _ _ _ rfl (Zp _ _ _ _ _ _ R) underlying55 rfl Ji) rfl ?_);exact ⟨zeroC,rfl,HN.out.symm.trans ho.out,VD _,λ_ _=>Ug _,VE _ _,hf.setRow (by omega) _⟩
      ·have gZ:¬(64:Int)<(path.length:Int):=(by omega);cases hti:inT upd with
       |false=>
        rw[hti] at HT;have he:errF F=3:=(by rw[h1.out];rw[Zg gp.out,Zg gh,hti];rfl);have HN:=gd (hA.out _ he (by decide));have hi:=hZ.out.symm.trans he;subst hi;clear he
        go_wp2_with (first|(at_builtin;refine ZH _ rfl (.tmp 30) (.tmp 34) _ rfl W1.heap.size 157 i0 _ 1 8 underlying156 hR hV hu hW rfl (by decide) _ path.length X rfl (M.out.alloc _) _ 3 [.pointer (some ⟨w.heap.size,1,none⟩),.pointer (some ⟨w.heap.size,2,none⟩),.pointer (some ⟨w.heap.size,3,none⟩)] rfl (Yp rfl (by decide)) (by intro y hy;simp at hy;rcases hy with rfl|rfl|rfl<;>rfl) hm.out hl.out ?_ ?_;(simp;omega);intro v3 w3 H ha ht;(have D:Ext W1 w3:=Ext.app (hh.out.alloc _) ha (M.out.alloc _) (Zb _)))|(go_at_call 103;(have K:=hM.out _ _ D H);(with_reducible refine Za K ?_);clear K;rintro e w5 ⟨rfl,S,⟨q0,q1,q2,q3,q4,q5⟩,f5,hg,hc,hd⟩;(have h6:=gd (hd _ _ _ (h5.out.ext D)));clear hd;(have hf:Ext w w5:=hg w (hw.out.trans D) (by omega) (Zb _));(have R:=hc (w.heap.size+1) _ (by omega) (by omega) (D.heap h3.out));(have HC:=gd (JT (w:=w5) (g:=g) (n:=path.length) (c:=V) (A:=A1) (l:=path.map collapse) ⟨#[]⟩ (by simp) (by simpa using hC.out) S (by simp;omega)));rw[hH.out] at HC;clear hg hc)|(go_at_call 104;(have K:=HC.out);(with_reducible refine Za K ?_);clear K;rintro e w6 ⟨rfl,rfl⟩)|(go_at_call 105;refine (HT.out _).mono ?_;rintro e w6 ⟨rfl,rfl⟩)|(refine Zc rfl 55 (.tmp 2) (.tmp 63) rfl (w.heap.size+1) _ rfl rfl _ _ R Ji rfl Zd8 ?_))
        ((try simp only[Exit.inBlock,Exit.then]);refine Zn (Yb rfl _ _ _ _ _ _ _ rfl (Zp _ _ _ _ _ _ R) underlying55 rfl Ji) rfl ?_);exact ⟨zeroC,rfl,HN.out.symm.trans ho.out,VD _,λ_ _=>Ug _,VE _ _,hf.setRow (by omega) _⟩
       |true=>
        rw[hti] at HT;have he:errF F=errEs ents:=(by rw[h1.out,Zg gp.out,Zg gh,hti,Zl rfl]);have hi:=hZ.out.symm.trans he;subst hi;have gM:=gd he;clear he hti gh
        go_wp2_with (first|(at_builtin;refine ZH _ rfl (.tmp 30) (.tmp 34) _ rfl W1.heap.size 157 i0 _ 1 8 underlying156 hR hV hu hW rfl (by decide) _ path.length X rfl (M.out.alloc _) _ 3 [.pointer (some ⟨w.heap.size,1,none⟩),.pointer (some ⟨w.heap.size,2,none⟩),.pointer (some ⟨w.heap.size,3,none⟩)] rfl (Yp rfl (by decide)) (by intro y hy;simp at hy;rcases hy with rfl|rfl|rfl<;>rfl) hm.out hl.out ?_ ?_;(simp;omega);intro v3 w3 H ha ht;(have D:Ext W1 w3:=Ext.app (hh.out.alloc _) ha (M.out.alloc _) (Zb _)))|(go_at_call 103;(have K:=hM.out _ _ D H);(with_reducible refine Za K ?_);clear K;rintro e w5 ⟨rfl,S,⟨q0,q1,q2,q3,q4,q5⟩,f5,hg,hc,hd⟩;(have h6:=gd (hd _ _ _ (h5.out.ext D)));clear hd;(have hf:Ext w w5:=hg w (hw.out.trans D) (by omega) (Zb _));(have R:=hc (w.heap.size+1) _ (by omega) (by omega) (D.heap h3.out));(have HC:=gd (JT (w:=w5) (g:=g) (n:=path.length) (c:=V) (A:=A1) (l:=path.map collapse) ⟨#[]⟩ (by simp) (by simpa using hC.out) S (by simp;omega)));rw[hH.out] at HC;clear hg hc)|(go_at_call 104;(have K:=HC.out);(with_reducible refine Za K ?_);clear K;rintro e w6 ⟨rfl,rfl⟩)|(go_at_call 105;refine (HT.out _).mono ?_;rintro e w6 ⟨rfl,rfl⟩))
        have gT:=gd hf;have gS:=gd S;have fm:=gd (hE.ext hf);have HC:=();have hL:=gd (Vr q0 (Vr q1 (Vr q2 (Vr q3 (Vr q4 q5)))));have fo:=gd f5;have gU:=gd R;have fV:w.heap.size+2<=w6.heap.size:=(by have:=(Zx.1 R).1;omega);clear D H ha ht S q0 q1 q2 q3 q4 q5 f5 R hf;go_loopw [7,67] (λo i wr=>∃k:Nat,k<=ents.length/\i=nI k/\OEnts wr w6.heap.size o ((ents.take k).map collE)/\Hid (∀e∈ents.take k,errE e=0)/\Ext w6 wr) (λ_ i _=>ents.length - (intOf i).toNat)
        case atStart=>exact ⟨0,Zh _,rfl,OEnts.nil _ _,gd (by simp),Ext.refl _⟩
        case round=>
         obtain ⟨k,hk,rfl,I,hJ,hx⟩:=hrel;have fg:Ext w wr:=gT.out.trans hx;by_cases hK:k<ents.length
         ·obtain ⟨ad,c',hv,gW⟩:=(fw.out.ext fg).at hK;injection hv with hv1 hv2 hv3;subst hv1;clear hv2 hv3;have gF:=Zq hK;have ga:=Zdn ents k hK hJ.out;have gA:=gN.out _ (Zz hK);obtain ⟨e,g0⟩:∃e,ents[k]=e:=⟨_,rfl⟩;rw[g0] at gW gF ga gA;have fa:eokS e:=(by obtain ⟨_,h⟩:=gA;exact ⟨by omega,by omega,by omega,by omega⟩);have h2:=gd (λ(w':Wq) (h:Ext w w')=>ZaY e w' (hE.ext h) fa);have fA:=gd gF;have go:=gd ga;have hw:=gd fg;have hh:=gd hx;have M:=gd I;have gc:((ents.take k).map collE).length=k:=(by rw[Zk,ZG];omega);have hl:Hid ((((ents.take k).map collE).length+1)*72<=140737488355328):=gd (by rw[gc];omega);have hm:Hid (((ents.take k).map collE).length+1<=maxLen):=gd (by rw[gc];unfold maxLen;omega);have g8:(0:Int)<=(k:Int):=(by omega);have g9:(k:Int)<(ents.length:Int):=(by omega);have hws:=hx.size;clear gF ga gA fa g0 I gc;obtain ⟨a0,a1,a2,a3,a4⟩:=gW;obtain ⟨E,h4⟩:∃E,errE e=E:=⟨_,rfl⟩;rw[h4] at h2 go;have gk:=gd h4;obtain ⟨N,hN⟩:∃N,normE e=N:=⟨_,rfl⟩;rw[hN] at h2;have fu:=gd hN;clear hN h4;obtain ⟨O,hO⟩:∃O,(ents.take k).map collE=O:=⟨_,rfl⟩;rw[hO] at M hl hm;have HO:=gd hO;clear hO;obtain ⟨h7,Z,hp,J,hI⟩:=e;simp only at a0 a1 a2 a3 a4;unfold eCells at h2;dsimp only at h2;by_cases h8:E=0
          ·subst h8
           go_wp2_with (first|(go_at_call 106;(have K:=h2.out _ (hw.out.trans ((Ext.refl wr).alloc (.cells #[.string h7,.string Z,.string hp,.string J,nI hI] 76))));(with_reducible refine Za K ?_);clear K;rintro e w8 ⟨rfl,gG⟩;(have hB:=((Ext.refl wr).alloc (.cells #[.string h7,.string Z,.string hp,.string J,nI hI] 76)).trans gG);(have gR:=gd (OEnts.ext M.out hB));(have fB:=gd (hh.out.trans hB));(have fW:=hB.size))|(at_builtin;refine ZH _ rfl (.tmp 80) (.tmp 82) _ rfl w6.heap.size 76 i1 _ 5 72 underlying53 fI fN fO fP rfl (by decide) _ _ (flatE O) rfl ((Yh gR.out ((Ext.refl _).alloc _)).alloc _) _ 1 (eCells N) rfl (Xo (e:=76) (fr:=(0,0)) (cs:=eCells N) (YD _ _ _) rfl (by decide)) (XK _) hm.out hl.out ?_ ?_;(simp;omega);intro v9 w9 hG fH fR;(have gH:Ext w6 w9:=Ext.app ((fB.out.alloc _).alloc _) fH ((Yh gR.out ((Ext.refl _).alloc _)).alloc _) (Zb _))))
           go_roundw
           case rel=>
            have fD:N=collE ⟨h7,Z,hp,J,hI⟩:=(by rw[<-fu.out];unfold normE;rw[Zl gk.out]);have hT:=fA.out;have hO:=HO.out;refine ⟨k+1,hK,by go_num,?_,gd λx hx=> ?_,gH⟩
            ·rw[hT,ZK,hO,ZP,Yt,<-fD];exact OEnts.snoc hG
            ·rw[hT] at hx;rcases Zu.1 hx with hx|hx
             ·exact hJ.out x hx
             ·rw[Zo.1 hx];exact gk.out
           case measure=>simp[intOf];omega
          ·have hb:((E:Int) !=0)=true:=(by simp;omega);have he:errF F=E:=gM.out.trans (go.out h8);have HN:=gd (hA.out _ he h8);have fn:=gd (go.out h8);clear he h8
           go_wp2_with (first|(go_at_call 106;(have K:=h2.out _ (hw.out.trans ((Ext.refl wr).alloc (.cells #[.string h7,.string Z,.string hp,.string J,nI hI] 76))));(with_reducible refine Za K ?_);clear K;rintro e w8 ⟨rfl,gG⟩;(have hB:=((Ext.refl wr).alloc (.cells #[.string h7,.string Z,.string hp,.string J,nI hI] 76)).trans gG);(have fi:=(((hh.out.trans hB).alloc (.cells (eCells N).toArray 76))).heap gU.out))|(refine Zc rfl 55 (.tmp 2) (.tmp 78) rfl (w.heap.size+1) _ rfl rfl _ _ fi Ji rfl Zd8 ?_))
           ((try simp only[Exit.inBlock,Exit.then]);refine Zn (Yb rfl _ _ _ _ _ _ _ rfl (Zp _ _ _ _ _ _ fi) underlying55 rfl Ji) rfl ?_);exact ⟨zeroC,by rw[fn.out];rfl,HN.out.symm.trans ho.out,VD _,λ_ _=>Ug _,VE _ _,((hw.out.trans hB).alloc _).setRow (by omega) _⟩
         ·have gC:k=ents.length:=(by omega);subst gC;rw[ZM (Zb _)] at I hJ;have gb:errEs ents=0:=EV.2 hJ.out;have fb:normF F=collF F:=(by unfold normF;rw[Zl (gM.out.trans gb)]);have gY:collF F=⟨path.map collapse,ci,ct,cl,upd,ordE.canon (ents.map collE)⟩:=(by rw[<-HF.out,<-fk.out,<-fl.out,<-gL.out];rfl);have ft:=gd (fb.trans gY);have gf:=gd (Ka _ (ents.map collE) wr (fm.out.ext hx) I.reads (λx hx=>by
           obtain ⟨e,he,rfl⟩:=ZO.1 hx;exact Zdm (gN.out e he)) (by rw[Zk];exact g4) (by rw[Zk];exact fq.out))
          have q0:=hx.cell hL.out.1;have gO:=gd gb;have hh:=gd hx;have hws:=hx.size;have fF:w.heap.size<w6.heap.size:=(by omega);clear fb gY gb I hJ
          go_wp2_with (first|(go_at_call 68;(have K:=gf.out);(with_reducible refine Za K ?_);clear K;rintro e w9 ⟨fS,rfl,hG,gH⟩;(obtain ⟨zA,zc,fQ,_,_⟩:=hG.reads.form);subst fQ;(have U:=hh.out.trans gH);(have r0:=U.cell hL.out.1);(have r1:=U.cell hL.out.2.1);(have r2:=U.cell hL.out.2.2.1);(have r3:=U.cell hL.out.2.2.2.1);(have r4:=U.cell hL.out.2.2.2.2.1);(have r5:=U.cell hL.out.2.2.2.2.2);(have s5:=(Xt U fF).trans fo.out);(have fj:=U.heap gU.out);(have gq:=gd hG))|(refine Zc rfl 55 (.tmp 2) (.tmp 88) rfl (w.heap.size+1) _ rfl rfl _ _ ((ZY _ _ _ _ (by simp)).trans fj) Ji rfl Zd8 ?_))
          ((try simp only[Exit.inBlock,Exit.then]);refine Zn (Yb rfl _ _ _ _ _ _ _ rfl (Zp _ _ _ _ _ _ ((ZY _ _ _ _ (by simp)).trans fj)) underlying55 rfl Ji) rfl ?_);have fe:=gS.out.ext U;have fd:=gq.out.reads;have fJ:=gq.out.lt;have hQ:∀q,q<w.heap.size+2->awayC ⟨.slice A1 path.length V,.slice zA (ordE.canon (ents.map collE)).length zc,⟨path.map collapse,ci,ct,cl,upd,ordE.canon (ents.map collE)⟩⟩ (some q):=by
           intro q hq;refine ⟨?_,Or.inr λe=> ?_⟩
           ·rcases YP path.length with h|h
            ·exact Or.inl (by rw[ZF h];rfl)
            ·refine Or.inr λe=> ?_;have gr:=hC.out h;subst gr;injection e with e;simp only at e;omega
           ·have:=(fJ q e).1;omega
          have fL:RdC w9 ⟨.slice A1 path.length V,.slice zA (ordE.canon (ents.map collE)).length zc,⟨path.map collapse,ci,ct,cl,upd,ordE.canon (ents.map collE)⟩⟩:=⟨fe,fd⟩;refine ⟨⟨.slice A1 path.length V,.slice zA (ordE.canon (ents.map collE)).length zc,⟨path.map collapse,ci,ct,cl,upd,ordE.canon (ents.map collE)⟩⟩,by rw[gO.out];rfl,ft.out.symm.trans ho.out,(fL.grown (Yo _ _ _) (hQ _ (by simp))).grown (Yv _ _ _) (hQ _ (by simp)),λq hq=>hQ q (by omega),⟨?_,?_⟩,?_⟩
          ·rw[Zk];exact (((h6.out.ext U).grown (Yo _ _ _) (by have:=EH (hQ w.heap.size (by omega)).1;rwa [Zk] at this)).grown (Yv _ _ _) (by have:=EH (hQ (w.heap.size+1) (by omega)).1;rwa [Zk] at this)).mono (by omega)
          ·exact (((WrV.own gq.out).grown (Yo _ _ _) (KK (hQ w.heap.size (by omega)).2)).grown (Yv _ _ _) (KK (hQ (w.heap.size+1) (by omega)).2)).mono (by omega)
          exact (Ext.setCell (gT.out.trans U) (Zb _) _).setRow (by omega) _
   ·have hb:((firstErr (path++ [id,title,link]):Int) !=0)=true:=(by simp;omega);have he:errF F=firstErr (path++ [id,title,link]):=(by rw[<-HF.out];unfold errF headF strsF;rw[Zl h0,Zg h0]);have hn:=hA.out _ he h0;have hi:=hZ.out.symm.trans he;obtain ⟨E,h4⟩:∃E,firstErr (path++ [id,title,link])=E:=⟨_,rfl⟩;have gf:=gd (λ(w4:Wq) (v4:Value) fC fE=>Zck (W:=w4) (v:=v4) (g:=g) (b:=w.heap.size) fC fE h0);rw[h4] at gf hb h0 hi;have HN:=gd hn;clear h4 he hn h0;subst hi
    go_wp2_with (first|(at_builtin;refine ZH _ rfl (.tmp 30) (.tmp 34) _ rfl W1.heap.size 157 i0 _ 1 8 underlying156 hR hV hu hW rfl (by decide) _ path.length X rfl (M.out.alloc _) _ 3 [.pointer (some ⟨w.heap.size,1,none⟩),.pointer (some ⟨w.heap.size,2,none⟩),.pointer (some ⟨w.heap.size,3,none⟩)] rfl (Yp rfl (by decide)) (by intro y hy;simp at hy;rcases hy with rfl|rfl|rfl<;>rfl) hm.out hl.out ?_ ?_;(simp;omega);intro v3 w3 H ha ht;(have D:Ext W1 w3:=Ext.app (hh.out.alloc _) ha (M.out.alloc _) (Zb _)))|(go_at_call 103;(have K:=gf.out _ _ (gP.out.ext D) (HP.out _ _ D H));(with_reducible refine Za K ?_);clear K;rintro e w5 ⟨rfl,hf⟩;(have R:=(D.trans hf).heap h3.out))|(refine Zc rfl 55 (.tmp 2) (.tmp 40) rfl (w.heap.size+1) _ rfl rfl _ _ R Ji rfl Zd8 ?_))
    ((try simp only[Exit.inBlock,Exit.then]);refine Zn (Yb rfl _ _ _ _ _ _ _ rfl (Zp _ _ _ _ _ _ R) underlying55 rfl Ji) rfl ?_);exact ⟨zeroC,rfl,HN.out.symm.trans ho.out,VD _,λ_ _=>Ug _,VE _ _,((hw.out.trans D).trans hf).setRow (by omega) _⟩
end
section
variable {B:Nat} {w:World}
theorem WcF.setCell {y:Fc} (h:WcF w B y) (p:Addr) (x:Value):WcF (w.setCell p x) B y:=⟨h.1.setCell p x,h.2.setCell p x⟩
def LatF:Prop:=∀(a b:Fc) (w:Wq),Env w->fok a.f->fok b.f->RStrs w a.p a.f.path->RStrs w b.p b.f.path->isSl a.es->isSl b.es->Calls prog 67 #[.agg (cellsC a).toArray,.agg (cellsC b).toArray] w
 λx w'=>∃p',x= .returned (.agg (fCells p' sN (laterF a.f b.f)).toArray)/\w'.ownsRow w.heap.size 9 1 p' (laterF a.f b.f).path.length ((laterF a.f b.f).path.map Value.string)/\Ext w w'
theorem Zbq:∀{l:List Fc} {x:Fc},x∈l->x.f.ents.length<=allE l
 |y::t,x,h=>by
  have e:allE (y::t)=y.f.ents.length+allE t:=by unfold allE;rw[ZP,XH]
  rw[e]
  rcases ZI.1 h with rfl|h
  ·omega
  ·have:=Zbq h
   omega
theorem Zb9 (v:Value) (l:List Fc) (w:Wq) (hE:Env w) (hr:RFcs w v l) (dD:∀x∈l,RdC w x) (hk:∀x∈l,fokS x.f) (hn:l.length<=1000000) (bo:allE l<=1000000) (dj:allE l<=1\/LatE) (hQ:l.length<=1\/LatF):
 Calls prog 34 #[v] w λe w'=>∃(v':Value) (lc:List Fc),e= .returned (.tuple #[.agg #[v'],nI (errFs (l.map Fc.f):Nat)])/\lc.map Fc.f=normA (l.map Fc.f)/\HFs w' w.heap.size v' lc/\(∀y∈lc,WcF w' w.heap.size y)/\Ext w w':=by
 obtain ⟨i0,du,fa,dT,dU⟩:=Yw ZbJ;obtain ⟨i1,bq,bI,bJ,bK⟩:=Yw Kj;obtain ⟨A,c,rfl,br,bn⟩:=hr.form;have d6:=gd dD;have HK:=gd hk;have da:=gd dj;have gE:=gd hQ;obtain ⟨EF,fG⟩:∃n,errFs (l.map Fc.f)=n:=⟨_,rfl⟩;obtain ⟨NF,fJ⟩:∃n,normA (l.map Fc.f)=n:=⟨_,rfl⟩;simp only[fG,fJ];have f6:=gd fG;have fe:=gd fJ;clear br bn dD hk fG fJ dj hQ;go_enter func34,ntmps34;go_wp2;go_loopw [4,18] (λo i wr=>∃(k:Nat) (lc:List Fc),k<=l.length/\i=nI k/\HFs wr (w.heap.size+1) o lc/\Hid (lc.map Fc.f=(l.take k).map λx=>collF x.f)/\Hid (∀x∈l.take k,errF x.f=0)/\Hid (∀y∈lc,awayC y (some w.heap.size)/\WcF wr w.heap.size y)/\Ext (w.alloc (.cells #[sN] 31)) wr) (λ_ i _=>l.length - (intOf i).toNat)
 case atStart=>exact ⟨0,[],Zh _,rfl,HFs.nil _ _,gd rfl,gd (by simp),gd (by simp),Ext.refl _⟩
 case round=>
  obtain ⟨k,lc,hk,rfl,hH,hD,hW,gm,hx⟩:=hrel;have g9:Ext w wr:=((Ext.refl w).alloc _).trans hx;by_cases ht:k<l.length
  ·obtain ⟨ad,c',hv,hC⟩:=(hr.ext g9).at ht;injection hv with gT hv2 hv3;subst gT;clear hv2 hv3;have V:l[k]∈l:=Zz ht;have hw:=d6.out _ V;have fQ:=HK.out _ V;have fN:l[k].f.ents.length<=1\/LatE:=da.out.imp (Zv (Zbq V)) id;have hg:=Zq ht;have go:=Zdo (l.map Fc.f) k (by rw[Zk];exact ht) (λf hf=>by
    rw[<-List.map_take] at hf;obtain ⟨y,K,rfl⟩:=ZO.1 hf;exact hW.out y K)
   rw[Xv] at go;obtain ⟨x,dL⟩:∃x,l[k]=x:=⟨_,rfl⟩;rw[dL] at hC hw fQ hg go fN;have gu:=gd (λ(w':Wq) (h:Ext w w')=>ZaZ x w' (hE.ext h) fQ (hw.ext h) fN);clear fN;have bB:=hw.sl;have fk:lc.length=k:=(by have:=Zy List.length hD.out;rw[Zk,Zk,ZG] at this;omega);have dv:(0:Int)<=(k:Int):=(by omega);have dw:(k:Int)<(l.length:Int):=(by omega);have g0:=gd hg;have fc:=gd go;have HH:=gd hH;have HX:=gd hx;have ha:=gd g9;have gs:Hid ((lc.length+1)*104<=140737488355328):=gd (by omega);have gt:Hid (lc.length+1<=maxLen):=gd (by unfold maxLen;omega);have hws:=g9.size;have dK:=hx.size;rw[Zt] at dK;clear dL hg go hw fQ V hH;obtain ⟨E,fI⟩:∃E,errF x.f=E:=⟨_,rfl⟩;rw[fI] at gu fc;have f8:=gd fI;obtain ⟨N,hN⟩:∃N,normF x.f=N:=⟨_,rfl⟩;rw[hN] at gu;have HN:=gd hN;clear hN fI;obtain ⟨xp,bO,⟨hO,gh,I,M,ho,U⟩⟩:=x;obtain ⟨⟨xA,xn,xc,gV⟩,⟨xB,xm,xd,g8⟩⟩:=bB;simp only at gV g8;subst gV g8;obtain ⟨a0,a1,a2,a3,a4,a5⟩:=hC;simp only at a0 a1 a2 a3 a4 a5;unfold cellsC fCells at gu;dsimp only at gu;by_cases h0:E=0
   ·subst h0
    go_wp2_with (first|(go_at_call 63;(have D:=gu.out _ (ha.out.trans ((Ext.refl wr).alloc (.cells #[.slice xA xn xc,.string gh,.string I,.string M,nI ho,.slice xB xm xd] 55))));(with_reducible refine Za D ?_);clear D;rintro e w2 ⟨y,rfl,gX,gC,fY,dQ,fX⟩;(have h8:=gC.sl);(obtain ⟨yp,dV,yf⟩:=y);(obtain ⟨⟨yA,yn,yc,h7⟩,⟨yB,ym,yd,h6⟩⟩:=h8);simp only at h7 h6;subst h7 h6;(have gY:yf=N:=gX);clear gX;subst gY;(have hh:=((Ext.refl wr).alloc (.cells #[.slice xA xn xc,.string gh,.string I,.string M,nI ho,.slice xB xm xd] 55)).trans fX);(have fw:=gd (HH.out.ext hh));(have b1:=hh.size))|(at_builtin;refine ZH _ rfl (.tmp 31) (.tmp 33) _ rfl (w.heap.size+1) 55 i0 _ 6 104 underlying29 du fa dT dU rfl (by decide) _ lc.length (flatC lc) rfl ((Yh fw.out.row ((Ext.refl _).alloc _)).alloc _) _ 1 (cellsC ⟨.slice yA yn yc,.slice yB ym yd,yf⟩) rfl (Xo (e:=55) (fr:=(0,0)) (cs:=cellsC ⟨.slice yA yn yc,.slice yB ym yd,yf⟩) (YD _ _ _) rfl (by decide)) (Jf gC.sl) gt.out gs.out ?_ ?_;(simp;omega);intro v3 w3 hF g3 dp))
    go_roundw
    case rel=>
     have dM:yf=collF ⟨hO,gh,I,M,ho,U⟩:=(by rw[<-HN.out];unfold normF;rw[Zl f8.out]);have hT:=g0.out;have gc:awayC ⟨.slice yA yn yc,.slice yB ym yd,yf⟩ _:=Zbe gC λq hq=>fY q (by have:=(HH.out.row.lt q hq).2;simp;omega);refine ⟨k+1,lc++ [⟨.slice yA yn yc,.slice yB ym yd,yf⟩],ht,by go_num,HFs.snoc (fw.out.ext (((Ext.refl _).alloc _).alloc _)) ((gC.ext ((Ext.refl _).alloc _)).ext ((Ext.refl _).alloc _)) gc hF g3 dp,gd ?_,gd λz D=> ?_,gd λz D=> ?_,?_⟩
     ·rw[hT,ZK,ZK,hD.out,ZP,Yt,ZP,Yt];exact Zy (λf=>_++ [f]) dM
     ·rw[hT] at D;rcases Zu.1 D with D|D
      ·exact hW.out z D
      ·rw[Zo.1 D];exact f8.out
     ·rcases Zu.1 D with D|D
      ·exact ⟨(gm.out z D).1,((gm.out z D).2.ext ((hh.alloc _).alloc _)).grown g3 (HH.out.away z D)⟩
      ·rw[Zo.1 D];exact ⟨fY _ (by rw[Zt];omega),((dQ.ext (((Ext.refl _).alloc _).alloc _)).grown g3 gc).mono (by rw[Zt];omega)⟩
     ·exact Ext.app (((HX.out.trans hh).alloc _).alloc _) g3 ((fw.out.row.ext ((Ext.refl _).alloc _)).ext ((Ext.refl _).alloc _)) (by rw[Zt];exact Zb _)
    case measure=>simp[intOf];omega
   ·have hb:((E:Int) !=0)=true:=(by simp;omega);have he:=fc.out h0;have dZ:=gd h0;have fM:=f6.out.symm.trans he;subst fM;have d0:=gd he;clear he h0
    go_wp2_with (first|(go_at_call 63;(have D:=gu.out _ (ha.out.trans ((Ext.refl wr).alloc (.cells #[.slice xA xn xc,.string gh,.string I,.string M,nI ho,.slice xB xm xd] 55))));(with_reducible refine Za D ?_);clear D;rintro e w2 ⟨y,rfl,gX,gC,fY,dQ,fX⟩;(have h8:=gC.sl);(obtain ⟨yp,dV,yf⟩:=y);(obtain ⟨⟨yA,yn,yc,h7⟩,⟨yB,ym,yd,h6⟩⟩:=h8);simp only at h7 h6;subst h7 h6;(have gY:yf=N:=gX);clear gX;subst gY;(have hh:=((Ext.refl wr).alloc (.cells #[.slice xA xn xc,.string gh,.string I,.string M,nI ho,.slice xB xm xd] 55)).trans fX);(have fq:=((HX.out.trans hh).alloc (.cells (cellsC ⟨.slice yA yn yc,.slice yB ym yd,yf⟩).toArray 55)).heap (Zf w _)))|(refine Zc rfl 31 (.tmp 2) (.tmp 29) rfl w.heap.size _ rfl rfl _ _ fq Xa rfl Uw ?_))
    ((try simp only[Exit.inBlock,Exit.then]);refine Zn (Yb rfl _ _ _ _ _ _ _ rfl (Zp _ _ _ _ _ _ fq) underlying31 rfl Xa) rfl ?_);refine ⟨sN,[],rfl,?_,HFs.nil _ _,by simp,((ha.out.trans hh).alloc _).setRow (Zb _) _⟩;rw[<-fe.out];unfold normA;rw[d0.out,Zg dZ.out];rfl
  ·have fP:k=l.length:=(by omega);subst fP;rw[ZM (Zb _)] at hD hW;have gK:errFs (l.map Fc.f)=0:=EW.2 λf hf=>(by obtain ⟨y,K,rfl⟩:=ZO.1 hf;exact hW.out y K);have ge:normA (l.map Fc.f)=ordF.canon (lc.map Fc.f):=(by unfold normA;rw[Zl gK,hD.out,J4];rfl);have fM:=f6.out.symm.trans gK;have bv:=fe.out.symm.trans ge;subst fM bv;have V:∀y∈lc,∃x∈l,y.f=collF x.f:=(by intro y K;have:y.f∈lc.map Fc.f:=ZO.2 ⟨y,K,rfl⟩;rw[hD.out] at this;obtain ⟨x,hx,e⟩:=ZO.1 this;exact ⟨x,hx,e.symm⟩);have hA:Hid (∀y∈lc,fokS y.f):=gd λy K=>(by obtain ⟨x,hx,e⟩:=V y K;rw[e];exact ZbB (HK.out x hx));have dY:Hid (∀y∈lc,ordE.canon y.f.ents=y.f.ents):=gd λy K=>(by obtain ⟨x,hx,e⟩:=V y K;rw[e];exact ordE.canon_canon _);have gb:allE lc<=allE l:=(by rw[Ziv lc _ hD.out];exact KH l);have hU:allE lc<=1000000:=Zv gb bo;have f2:=gd hU;have ft:=gd gb;have fx:Hid (lc.length<=l.length):=gd (by
    have:=Zy List.length hD.out;rw[Zk,Zk] at this;omega)
   clear gb;have fk:lc.length<=1000000:=(by have:=Zy List.length hD.out;rw[Zk,Zk] at this;omega);clear gK ge V hD hW hU;obtain ⟨S,bG⟩:∃S:Wq,S=wr:=⟨_,rfl⟩;subst bG;have f9:=gd (ZdB _ lc (S.alloc (.cells #[sN] 31)) (hH.row.reads.ext ((Ext.refl _).alloc _)) (λy K=>(hH.rd y K).sl) (λy K=>by have:=(hA.out y K).1.2;omega) fk);have gk:=gd hH.rd;have HX:=gd hx;have ha:=gd g9;have ds:=IP lc;have d2:=gd ds;clear hH ds
   go_wp2_with (go_at_call 64;(have D:=f9.out);(with_reducible refine Za D ?_);clear D;rintro e w1 ⟨v1,gv,rfl,hG,gU⟩;(obtain ⟨A1,c1,gT⟩:=hG.form);subst gT)
   have dt:=hG.len;have b0:gv.length<=1000000:=(by have:=d2.out;omega);have dm:S.heap.size<w1.heap.size:=(by have:=gU.size;rw[Zt] at this;omega);have c0:=gU.boxed 0 sN rfl;have f0:=gU.boxedF 0;have HG:=gd hG;have fv:=gd dt;have fC:=gd gU;have f4:=gd c0;have d1:=gd f0;have fB:Hid (∀o:Value,(w1.setCell ⟨S.heap.size,0,none⟩ o).heap.size=w1.heap.size):=gd λo=>(by simp[World.setCell]);have h9:Hid (∀(o:Value) (wr:Wq),Ext (w1.setCell ⟨S.heap.size,0,none⟩ o) wr->wr.cell? ⟨S.heap.size,0,none⟩=some o/\wr.frozen? ⟨S.heap.size,0,none⟩=false):=gd λo wr h=>
    ⟨h.cell (Jo _ _ _ f4.out),(Xt h (by rw[fB.out];exact dm)).trans (by rw[Yz];exact d1.out)⟩
   have ff:Hid (∀(o:Value) (wr:Wq),Ext (w1.setCell ⟨S.heap.size,0,none⟩ o) wr->∀y∈lc,RdC wr y):=gd λo wr h y K=>
    (((gk.out y K).ext (((Ext.refl _).alloc _).trans fC.out)).grown (Yo _ _ _) (QU (gk.out y K) (Zb _))).ext h
   have d8:Hid (∀(o:Value) (wr:Wq),Ext (w1.setCell ⟨S.heap.size,0,none⟩ o) wr->∀y∈lc,WcF wr w.heap.size y):=gd λo wr h y K=>
    (((gm.out y K).2.ext (((Ext.refl _).alloc _).trans fC.out)).grown (Yo _ _ _) (QU (gk.out y K) (Zb _))).ext h
   have d3:Hid (∀(o:Value) (wr:Wq),Ext (w1.setCell ⟨S.heap.size,0,none⟩ o) wr->GrpsC wr (S.alloc (.cells #[sN] 31)).heap.size (.slice A1 gv.length c1) lc (firstsC lc) gv):=gd λo wr h=>
    (HG.out.kept (Yo _ _ _) (by rw[Zt];exact YW _)).ext h
   have gG:Hid (∀(o:Value) (wr:Wq),Ext (w1.setCell ⟨S.heap.size,0,none⟩ o) wr->Ext S wr):=gd λo wr h=>
    ((((Ext.refl S).alloc _).trans fC.out).setCell (Zb _) _).trans h
   clear hG dt gU c0 f0;go_loopw [39] (λi wr=>∃(k:Nat) (o:Value) (Z:List Fc),k<=gv.length/\i=nI k/\HFs wr w1.heap.size o Z/\Hid (Z.map Fc.f=((firstsC lc).take k).map (jF (lc.map Fc.f)))/\Hid (∀y∈Z,awayC y (some S.heap.size)/\awayC y (some w.heap.size)/\fok y.f)/\Hid (∀y∈Z,WcF wr w.heap.size y)/\Ext (w1.setCell ⟨S.heap.size,0,none⟩ o) wr) (λi _=>gv.length - (intOf i).toNat)
   case atStart=>exact ⟨0,sN,[],Zh _,rfl,HFs.nil _ _,gd rfl,gd (by simp),gd (by simp),by rw[ZcQ _ _ _ _ f4.out];exact Ext.refl _⟩
   case round=>
    obtain ⟨k,o,Z,hk,rfl,hH,gQ,gc,dH,hx⟩:=hrel;by_cases ht:k<gv.length
    ·have gH:=d3.out o wr hx;have g5:k<(firstsC lc).length:=(by rw[<-fv.out];exact ht);obtain ⟨g,cap,hv,_,_⟩:=gH.row.form (by omega);injection hv with gT hv2 hv3;subst gT;have bp:wr.cell? ⟨g,k,none⟩=some gv[k]:=(by rw[hv3] at gH;rw[gH.row.cellAt k (by omega)];exact Zj ht);have gA:=gH.each k (firstsC lc)[k] gv[k] (Zj g5) (Zj ht);obtain ⟨x,t,hc⟩:=Zhc (Zz g5);rw[hc] at gA;have h5:∀y∈x::t,y∈lc:=λy K=>(by rw[<-hc] at K;exact (Xb.1 K).1);have dx:=Zlb hc (dY.out x (h5 x (by simp)));have hg:((firstsC lc).take (k+1)).map (jF (lc.map Fc.f))=((firstsC lc).take k).map (jF (lc.map Fc.f))++ [jF (lc.map Fc.f) (firstsC lc)[k]]:=(by rw[Zq g5,ZK];rfl);rw[dx] at hg;have hV:(enF x t).length<=1000000:=(by rw[Kd,<-hc];exact Zv (Qp _ lc) f2.out);have gL:Hid ((enF x t).length<=1\/LatE):=gd (da.out.imp (Zv (by
      rw[Kd,<-hc];exact Zv (Qp _ lc) ft.out)) id)
     have fo:t.length+1<=lc.length:=(by have:=ZdC lc (firstsC lc)[k];rw[hc] at this;simpa using this);have b2:t.length+1<=1000000:=(by omega);have dg:=gd fo;clear fo;have g0:=gd hg;have J:=gd h5;obtain ⟨u,hu⟩:∃u,gv[k]=u:=⟨_,rfl⟩;rw[hu] at gA bp;obtain ⟨A2,c2,bC,_,_⟩:=gA.reads.form;subst bC;have fm:RFcs wr (.slice A2 (t.length+1) c2) (x::t):=gA.reads;obtain ⟨v2,bT,fK⟩:=ZlG fm;obtain ⟨ad,c3,bD,hC⟩:=gA.reads.at (k:=0) (by simp);injection bD with hv5 hv6 fT;subst hv5;rw[Xf] at hC;have gJ:ad.add 0=ad:=add_zero ad;rw[gJ] at hC;obtain ⟨a0,a1,a2,a3,a4,a5⟩:=hC;simp only[JB] at a0 a1 a2 a3 a4 a5;obtain ⟨A3,c4,bE,_,_⟩:=fK.form;subst bE;have hw:=ff.out o wr hx x (h5 x (by simp));have bw:=hw.1.form;have bx:=hw.2.form;have fy:=gd hw;have d5:=gd fK;have HH:=gd hH;have hB:=gd hx;have bV:=gd hu;have bH:=hx.size;rw[fB.out] at bH;have g8:x.f.ents.length<=1000000:=(by have:=(hA.out x (h5 x (by simp))).2.1;exact this);have fu:=gd (λ(w':Wq) (h:Ext wr w')=>Zc9 x.es x.f.ents.length (flatE x.f.ents) w' (hw.2.ext h) (E4 _) (by omega));clear gH hv2 hv3 hv6 fT hc dx hg gA fm h5 fK hu gJ g5 hw hH hx;obtain ⟨X,hX⟩:∃X,X=x:=⟨_,rfl⟩;rw[<-hX] at g0 J fy fu hV gL g8;obtain ⟨xp,bO,⟨hO,gh,I,M,ho,U⟩⟩:=x;obtain ⟨xA,xc,gV,_,_⟩:=bw;obtain ⟨xB,xd,fp,_,_⟩:=bx;simp only at gV fp a0 a1 a2 a3 a4 a5;subst gV fp;obtain ⟨Q,dJ⟩:∃Q:Wq,Q=wr:=⟨_,rfl⟩;subst dJ;have ba:=gd hX;have dk:X.es= .slice xB U.length xd:=(by rw[hX]);have bk:X.f.ents.length=U.length:=(by rw[hX]);rw[dk] at fu;clear hX dk bk
     go_wp2_with (go_at_call 66;(have D:=fu.out _ ((Ext.refl Q).alloc (.cells #[.slice xA hO.length xc,.string gh,.string I,.string M,nI ho,.slice xB U.length xd] 55)));(with_reducible refine Za D ?_);clear D;rintro e w3 ⟨v3,rfl,hF,gB⟩;(have gF:=gd hF);(have d9:=gd gB);clear hF gB)
     go_loopw [13,52] (λev i wr=>∃(m:Nat) (pz ez:Value),m<=t.length/\i=nI m/\Ext (Q.alloc (.cells (fCells pz ez (hdF X (t.take m))).toArray 55)) wr/\wr.ownsRow (Q.heap.size+1) 76 5 ev (enF X (t.take m)).length (flatE (enF X (t.take m)))/\RStrs wr pz (hdF X (t.take m)).path/\isSl ez/\Hid ((hdF X (t.take m)).path= []\/pz.ownBlock≠ev.ownBlock)/\Hid ((hdF X (t.take m)).path= []\/∀q,pz.ownBlock=some q->(q<S.heap.size/\q≠w.heap.size)\/Q.heap.size<q)/\Hid (WrV wr w.heap.size pz (hdF X (t.take m)).path.length)) (λ_ i _=>t.length - (intOf i).toNat)
     case atStart=>
      have gB:=d9.out;have gI:=ba.out;have dB:=gk.out X (J.out X (by simp));refine ⟨0,.slice xA hO.length xc,.slice xB U.length xd,Zh _,rfl,?_,?_,?_,⟨_,_,_,rfl⟩,gd ?_,gd ?_,gd ?_⟩
      ·rw[gI];exact gB
      ·have:=XM gF.out (B':=Q.heap.size+1) (by rw[Zt];exact Zb _);simpa [enF] using this
      ·have:=fy.out.1.ext (((Ext.refl _).alloc _).trans gB);rw[gI] at this|-;exact this
      ·have:=(Zbf fy.out (r:=v3.ownBlock) (λq hq=>by have:=(gF.out.lt q hq).1;rw[Zt] at this;omega)).1;rw[gI] at this|-;exact this
      ·cases hp:X.f.path with
       |nil=>exact Or.inl hp
       |cons s r=>
        refine Or.inr λq hq=>Or.inl ?_;obtain ⟨q',h1,h2⟩:=RSl.old dB.1 (by rw[hp];simp);have h3:=(gm.out X (J.out X (by simp))).1.1;rw[hp] at h3;rw[h1] at h3;rw[gI] at h1;rw[h1] at hq;injection hq with hq;subst hq;refine ⟨h2,λe=> ?_⟩;rcases h3 with h3|h3
        ·cases h3
        ·exact h3 (by rw[e])
      ·have:=((d8.out o Q hB.out X (J.out X (by simp))).1).ext (((Ext.refl _).alloc _).trans gB);rw[gI] at this|-;exact this
     case round=>
      obtain ⟨m,pz,ez,hm,rfl,hL,hd,hI,fO,gn,g2,fW⟩:=hrel;have hl:Ext Q wr:=((Ext.refl Q).alloc _).trans hL;have fV:=hL.size;rw[Zt] at fV;by_cases g6:m<t.length
      ·obtain ⟨bX,c5,fU,hC⟩:=(d5.out.ext hl).at g6;injection fU with fU hv10 hv11;subst fU;clear hv10 hv11;have dG:=Zq g6;have hM:t[m]∈lc:=J.out _ (ZJ _ (Zz g6));have gz:=ZiW X (t.take m) t[m];have gx:=ZiI X (t.take m) t[m];rw[<-dG] at gz gx;have ga:fok (hdF X (t.take m)):=Zgp X _ (hA.out X (J.out X (by simp))).1 λy K=>(hA.out y (J.out y (ZJ _ (Jr K)))).1;have fl:(enF X (t.take (m+1))).length<=1000000:=(by refine Zv ?_ hV;rw[Kd,Kd];unfold allE;simp only[ZP,XH];have:=YZ (m+1) t;have h2:(t.map λx=>x.f.ents.length).sum=((t.take (m+1)).map λx=>x.f.ents.length).sum+((t.drop (m+1)).map λx=>x.f.ents.length).sum:=(by rw[<-Vl,<-ZK,this]);omega);obtain ⟨y,dS⟩:∃y,t[m]=y:=⟨_,rfl⟩;rw[dS] at hC hM gz gx;obtain ⟨H,hH⟩:∃H,hdF X (t.take m)=H:=⟨_,rfl⟩;obtain ⟨E,gw⟩:∃E,enF X (t.take m)=E:=⟨_,rfl⟩;rw[hH] at gz ga hL hI gn;rw[hH] at g2;rw[gw] at gx hd;rw[gx,Zd] at fl;have dN:=(hA.out y hM).1;have gS:=ff.out o Q hB.out y hM;have gR:=gS.ext hl;have h8:=gR.sl;have hQ:=λ(w':Wq) (fF:Env w') (hp:RStrs w' pz H.path) (K:RStrs w' y.p y.f.path)=>(gE.out.resolve_left (by have:=dg.out;have:=fx.out;omega)) ⟨pz,ez,H⟩ y w' fF ga dN hp K fO h8.2;obtain ⟨R,hR⟩:∃R,laterF H y.f=R:=⟨_,rfl⟩;dsimp only at hQ;simp only[hR] at hQ;rw[hR] at gz;have gD:=gd gz;have fd:=gd gx;have HR:=gd hR;have gj:=gd hd;have fD:=gd hL;have fA:=gd hI;have fz:=gd gR;have fg:=gd gS;have gl:=gd hl;have dO:=gR.1.form;have dP:=gR.2.form;have dr:=fO;have dC:=hI.form;have bi:Env Q:=hE.ext (ha.out.trans (gG.out o Q hB.out));have bm:Q.heap.size+1<=wr.heap.size:=fV;have gs:Hid ((E.length+y.f.ents.length)*72<=140737488355328):=gd (by omega);have gt:Hid (E.length+y.f.ents.length<=maxLen):=gd (by unfold maxLen;omega);clear gz gx hR hd hL hI gR gS ga dN fl dS hM hH gw dG hl fV;obtain ⟨Y,hY⟩:∃Y,Y=y:=⟨_,rfl⟩;rw[<-hY] at fd HR fz fg hQ gs gt;obtain ⟨yp,dV,⟨gi,bP,fb,f1,dW,hP⟩⟩:=y;obtain ⟨yA,yc,h7,_,_⟩:=dO;obtain ⟨yB,yd,h6,_,_⟩:=dP;obtain ⟨zA,zc,fS,_,_⟩:=dC;obtain ⟨eA,en,ec,gM⟩:=dr;obtain ⟨bb,bc,bd,be,bf,bg⟩:=hC;simp only at h7 h6 bb bc bd be bf bg;subst h7 h6 fS gM;have dv:(0:Int)<=(m:Int):=(by omega);have dw:(m:Int)<(t.length:Int):=(by omega);have g1:Y.f.ents=hP:=(by rw[hY]);have fi:Y.es= .slice yB hP.length yd:=(by rw[hY]);have dl:Y.p= .slice yA gi.length yc:=(by rw[hY]);have fj:Y.f.path=gi:=(by rw[hY]);have fn:RSl wr 5 (.slice yB hP.length yd) Y.f.ents.length (flatE Y.f.ents):=(by have:=fz.out.2;rwa [fi] at this);have dd:=gd fn;have bW:=gd (Vr dl fj);have gE:=gd (λw' fF hp K=>by
        have:=hQ w' fF hp K;rw[hY] at this;exact this)
       clear fn fi g1 dl fj hQ hY;unfold cellsC fCells at gE;dsimp only at gE
       go_wp2_with (first|(at_builtin;refine ZH _ rfl (.tmp 56) (.tmp 58) _ rfl (Q.heap.size+1) 76 i1 _ 5 72 underlying53 bq bI bJ bK rfl (by decide) _ _ (flatE E) rfl (gj.out.alloc _) _ Y.f.ents.length (flatE Y.f.ents) rfl (dd.out.ext ((Ext.refl _).alloc _)) (E4 _) gt.out gs.out ?_ ?_;(simp;omega);intro v4 w4 gO gN bR;(have hJ:=Ext.app (fD.out.alloc _) gN (gj.out.alloc _) (by rw[Zt];exact Zb _));(have e0:=hJ.boxed 0 (.slice zA H.path.length zc) rfl);(have e1:=hJ.boxed 1 (.string H.id) rfl);(have e2:=hJ.boxed 2 (.string H.title) rfl);(have e3:=hJ.boxed 3 (.string H.link) rfl);(have e4:=hJ.boxed 4 (nI H.upd) rfl);(have e5:=hJ.boxed 5 (.slice eA en ec) rfl);(have yk:∀(i:Nat) (v:Value),(#[.slice yA gi.length yc,.string bP,.string fb,.string f1,nI dW,.slice yB hP.length yd]:Array Value)[i]? =some v->w4.cell? ⟨wr.heap.size,i,none⟩=some v:=λi v hv=>gN.cell (Ext.boxed (t:=55) (fr:=(0,0)) (Ext.refl _) i v hv) (λe=>absurd (gj.out.lt _ e.symm).2 (Nat.lt_irrefl _)));(have y0:=yk 0 _ rfl);(have y1:=yk 1 _ rfl);(have y2:=yk 2 _ rfl);(have y3:=yk 3 _ rfl);(have y4:=yk 4 _ rfl);(have y5:=yk 5 _ rfl);(clear yk))|(refine Zc rfl 55 (.tmp 12) (.tmp 62) rfl Q.heap.size _ rfl rfl _ _ bl Ji rfl Zd8 ?_)|(go_at_call 67;(have bL:RdC w4 Y:=(fz.out.ext ((Ext.refl _).alloc _)).grown gN (Zbf fg.out λq hq=>by have:=(gj.out.lt q hq).1;omega));(have bM:RStrs w4 (.slice zA H.path.length zc) H.path:=RSl.grown (fA.out.ext ((Ext.refl _).alloc _)) gN (gn.out.imp (λe=>by rw[e];rfl) λe=>e));(have D:=gE.out w4 (bi.ext (((Ext.refl _).alloc _).trans hJ)) bM bL.1);(with_reducible refine Za D ?_);clear D;rintro e w5 ⟨p5,rfl,F,hK⟩;(obtain ⟨A5,fE,bz⟩:∃A c,p5= .slice A R.path.length c:=(by obtain ⟨A,c,e,_⟩:=(RSl.of_own F).2;exact ⟨A,c,e⟩));subst bz;(have bl:=(hJ.trans hK).heap (Zf Q _))))
       go_roundw
       case rel=>
        have fL:=F.lt;have bA:=gN.size;rw[Zt] at bA;refine ⟨m+1,.slice A5 R.path.length fE,sN,g6,by go_num,?_,?_,?_,⟨_,_,_,rfl⟩,gd ?_,gd ?_,gd ?_⟩
        ·rw[gD.out];exact EY (hJ.trans hK)
        ·rw[fd.out,Zd,Zby];exact Jv (Yh gO hK) (YW _) _
        ·rw[gD.out];exact RSl.grown (RSl.of_own F) (Yv _ _ _) (Or.inr λe=>by have:=(fL _ e).1;omega)
        ·rw[gD.out];rcases F.2 with ⟨h1,h2⟩|⟨q,cap,bY,h1,h2,_⟩
         ·exact Or.inl (ZF h2)
         ·refine Or.inr λe=> ?_;have e2:(Value.slice A5 R.path.length fE).ownBlock=some q:=(by rw[h1];rfl);rw[e2] at e;have:=(gO.lt q e.symm).2;omega
        ·rw[gD.out];refine Or.inr λq hq=>Or.inr ?_;have:=(fL q hq).1;omega
        ·rw[gD.out];have bu:w.heap.size<=w4.heap.size:=(by have h1:=ha.out.size;have h2:=(gG.out o Q hB.out).size;omega);have D:WrV w5 w.heap.size (.slice A5 R.path.length fE) R.path.length:=(by have h:=WrV.own F;rw[Nat.mul_one] at h;exact h.mono bu);exact D.grown (Yv _ _ _) (Or.inr λe=>by have:=(fL _ e).1;omega)
       case measure=>simp[intOf];omega
      ·have bt:m=t.length:=(by omega);subst bt;rw[ZM (Zb _)] at hL hd hI gn g2 fW;have ga:fok (hdF X t):=Zgp X _ (hA.out X (J.out X (by simp))).1 λy K=>(hA.out y (J.out y (ZJ _ K))).1;have fH:∀e∈enF X t,eok e:=Zkc (hA.out X (J.out X (by simp))).2.2 λy K=>(hA.out y (J.out y (ZJ _ K))).2.2;have hg:=g0.out;obtain ⟨H,hH⟩:∃H,hdF X t=H:=⟨_,rfl⟩;obtain ⟨E,gw⟩:∃E,enF X t=E:=⟨_,rfl⟩;rw[hH] at hL hI gn g2 ga fW;rw[gw] at hd fH hV gL;rw[hH,gw] at hg;have df:=gd hg;clear hg hH gw;obtain ⟨zA,zc,fS,_,_⟩:=hI.form;obtain ⟨eA,en,ec,gM⟩:=fO;subst fS gM;have dX:=gd (Ka _ E wr (hE.ext (ha.out.trans ((gG.out o Q hB.out).trans hl))) (RSl.of_own hd) fH hV gL.out);have hZ:Z.length=k:=(by have:=Zy List.length gQ.out;rw[Zk,Zk,ZG] at this;have:=fv.out;omega);have gs:Hid ((Z.length+1)*104<=140737488355328):=gd (by omega);have gt:Hid (Z.length+1<=maxLen):=gd (by unfold maxLen;omega);have bQ:=gd hZ;clear hZ;have fD:=gd hL;have gl:=gd hl;have fA:=gd hI;have dn:S.heap.size<Q.heap.size:=(by omega);obtain ⟨oA,oc,fR,_,_⟩:=HH.out.row.reads.form;subst fR;have d4:=gd ga;clear hL hl hI fH hV hd ga;have bS:S.heap.size≠Q.heap.size:=by omega
       go_wp2_with (first|(go_at_call 68;(have D:=dX.out);(with_reducible refine Za D ?_);clear D;rintro e w5 ⟨bZ,rfl,F,hK⟩;(obtain ⟨gf,gg,bN,_,_⟩:=F.reads.form);subst bN;(have hi:=fD.out.trans hK);(have e0:=hi.boxed 0 (.slice zA H.path.length zc) rfl);(have e1:=hi.boxed 1 (.string H.id) rfl);(have e2:=hi.boxed 2 (.string H.title) rfl);(have e3:=hi.boxed 3 (.string H.link) rfl);(have e4:=hi.boxed 4 (nI H.upd) rfl);(have e5:=hi.boxed 5 (.slice eA en ec) rfl);(have f5:=hi.boxedF 5);(have ca:=h9.out _ w5 (hB.out.trans (gl.out.trans hK)));(obtain ⟨di,bh⟩:=ca);(have hj:Ext Q (w5.setCell ⟨Q.heap.size,5,none⟩ (.slice gf (ordE.canon E).length gg)):=Ext.setCell (gl.out.trans hK) (Zb _) _);(have dE:=hj.size))|(at_builtin;refine ZH _ rfl (.tmp 68) (.tmp 70) _ rfl w1.heap.size 55 i0 _ 6 104 underlying29 du fa dT dU rfl (by decide) _ Z.length (flatC Z) rfl ((Yh HH.out.row hj).alloc _) _ 1 (cellsC ⟨.slice zA H.path.length zc,.slice gf (ordE.canon E).length gg,withE H (ordE.canon E)⟩) rfl (Xo (e:=55) (fr:=(0,0)) (cs:=cellsC ⟨.slice zA H.path.length zc,.slice gf (ordE.canon E).length gg,withE H (ordE.canon E)⟩) (Zcn _ _ _ _) rfl (by decide)) (Jf ⟨⟨_,_,_,rfl⟩,⟨_,_,_,rfl⟩⟩) gt.out gs.out ?_ ?_;(simp[World.setCell] at dE|-;omega);intro v7 w7 gP gy dq;(obtain ⟨g7,fh,fT,_⟩:=U6 gP (ZeX _));subst fT;(have c6:=h9.out _ _ (hB.out.trans (hj.alloc (.cells (cellsC ⟨.slice zA H.path.length zc,.slice gf (ordE.canon E).length gg,withE H (ordE.canon E)⟩).toArray 55))));(have ge:some S.heap.size≠(Value.slice oA Z.length oc).ownBlock:=λe=>by have:=(HH.out.row.lt _ e.symm).1;omega);(have c7:=gy.cell c6.1 ge);(have f7:=(World.frozen?_of_block (a:=⟨S.heap.size,0,none⟩) (gy.block S.heap.size (by have:=dn;simp[World.setCell] at dE|-;omega) ge)).trans c6.2)))
       go_roundw
       case rel=>
        have dF:RStrs w5 (.slice zA H.path.length zc) H.path:=fA.out.ext hK;obtain ⟨Y,hY⟩:∃Y:Fc,Y=⟨.slice zA H.path.length zc,.slice gf (ordE.canon E).length gg,withE H (ordE.canon E)⟩:=⟨_,rfl⟩;have gZ:RdC w5 Y:=(by rw[hY];exact ⟨dF,F.reads⟩);have dz:=F.lt;have bF:=ha.out.size;have gr:∀q,(q=w.heap.size\/S.heap.size<=q)->q<=Q.heap.size->awayC Y (some q):=by
         intro q h1 h2;rw[hY];refine ⟨?_,Or.inr λe=> ?_⟩
         ·rcases g2.out with h|h
          ·exact Or.inl h
          ·refine Or.inr λe=> ?_;rcases h q e with ⟨h3,h4⟩|h3
           ·rcases h1 with h1|h1
            ·exact h4 h1
            ·omega
           ·omega
         ·have:=(dz q e).1;omega
        have fZ:=gZ.grown (Yo w5 ⟨Q.heap.size,5,none⟩ (.slice gf (ordE.canon E).length gg)) (gr Q.heap.size (Or.inr (by omega)) (Zb _));have gW:awayC Y (Value.slice oA Z.length oc).ownBlock:=Zbe gZ λq hq=>gr q (Or.inr (by have:=(HH.out.row.lt q hq).1;omega)) (by have:=(HH.out.row.lt q hq).2;omega);have hS:=HFs.snoc (x:=Y) (HH.out.ext (hj.alloc _)) (fZ.ext ((Ext.refl _).alloc _)) gW (by rw[hY];exact gP) gy dq;have hU:∀z∈Z++ [Y],awayC z (some S.heap.size)/\awayC z (some w.heap.size)/\fok z.f:=by
         intro z D;rcases Zu.1 D with D|D
         ·exact gc.out z D
         ·rw[Zo.1 D];exact ⟨gr _ (Or.inr (Zb _)) (by omega),gr _ (Or.inl rfl) (by omega),by rw[hY];exact d4.out⟩
        have dR:WcF w5 w.heap.size Y:=(by rw[hY];refine ⟨fW.out.ext hK,(WrV.own F).mono ?_⟩;have h1:=ha.out.size;have h2:=(gG.out _ Q hB.out).size;have h3:=gl.out.size;omega);have dI:∀z∈Z++ [Y],WcF (w7.setCell ⟨S.heap.size,0,none⟩ (.slice (some ⟨g7,0,none⟩) (Z.length+1) fh)) w.heap.size z:=by
         intro z D;rcases Zu.1 D with D|D
         ·exact (((dH.out z D).ext (hj.alloc _)).grown gy (HH.out.away z D)).setCell _ _
         ·rw[Zo.1 D];exact (((dR.setCell ⟨Q.heap.size,5,none⟩ (.slice gf (ordE.canon E).length gg)).ext ((Ext.refl _).alloc _)).grown gy gW).setCell _ _
        refine ⟨k+1,.slice (some ⟨g7,0,none⟩) (Z.length+1) fh,Z++ [Y],ht,by go_num,HFs.setCell hS dm (λz D=>(hU z D).1),gd ?_,gd hU,gd dI,Zci (Ext.app (hB.out.trans (hj.alloc _)) gy (Yh HH.out.row (hj.alloc _)) (by rw[fB.out];exact Zb _))⟩;rw[df.out,ZK,gQ.out,ZP,Yt,hY]
       case measure=>simp[intOf];omega
    ·have fP:k=gv.length:=(by omega);subst fP;have dy:((firstsC lc).take gv.length).map (jF (lc.map Fc.f))=ordF.joined (lc.map Fc.f):=(by rw[ZM (by rw[fv.out];exact Zb _),ZdL];rfl);have hZ:Z.length<=1000000:=(by have:=Zy List.length gQ.out;rw[Zk,Zk,ZG] at this;omega);have de:=gd (gQ.out.trans dy);have d7:=gd (Zig o Z wr w1.heap.size hH (λy K=>by have:=(gc.out y K).2.2.2;omega) hZ);obtain ⟨oA,oc,fR,_,_⟩:=hH.row.reads.form;subst fR;obtain ⟨di,bh⟩:=h9.out _ wr hx;have gq:=gG.out _ wr hx;have fa:=(HX.out.trans gq).heap (Zf w _);have bF:=ha.out.size;have gp:=hH.row.lt;have ge:some S.heap.size≠(Value.slice oA Z.length oc).ownBlock:=λe=>(by have:=(gp _ e.symm).1;omega);have dA:some w.heap.size≠(Value.slice oA Z.length oc).ownBlock:=λe=>(by have:=(gp _ e.symm).1;omega);have bU:=gq.size;have dc:=gd gp;have f3:=gd hH.away;have dh:=gd gq;have bs:w.heap.size<wr.heap.size:=(by have:=HX.out.size;rw[Zt] at this;omega);clear dy hZ gQ hH hx gq gp
     go_wp2_with (first|(go_at_call 69;(have D:=d7.out);(with_reducible refine Za D ?_);clear D;rintro e w9 ⟨rfl,l',hp,hs,bj,g4⟩;(have c9:=g4.cell di ge);(have z9:=(g4.block w.heap.size bs dA).trans fa))|(refine Zc rfl 31 (.tmp 2) (.tmp 77) rfl w.heap.size _ rfl rfl _ _ z9 Xa rfl Uw ?_))
     ((try simp only[Exit.inBlock,Exit.then]);refine Zn (Yb rfl _ _ _ _ #[.slice oA Z.length oc] _ _ rfl (Zp _ _ _ #[.slice oA Z.length oc] _ _ z9) underlying31 rfl Xa) rfl ?_);refine ⟨.slice oA Z.length oc,l',rfl,?_,HFs.setRow bj (by omega) (by omega) (λz D=>(gc.out z (hp.mem_iff.1 D)).2.1) _,λz D=>((dH.out z (hp.mem_iff.1 D)).grown g4 (f3.out z (hp.mem_iff.1 D))).grown (Yv _ _ _) (gc.out z (hp.mem_iff.1 D)).2.1,?_⟩
     ·exact ordF.sorted_joined (lc.map Fc.f) (l'.map Fc.f) (by rw[<-de.out];exact hp.map _) (List.pairwise_map.2 hs)
     ·exact (Ext.grown' (B:=0) (ha.out.trans dh.out) g4 λq hq=>by have:=(dc.out q hq).1;omega).setRow (Zb _) _
end
end Go.Proofs.YtnlafkgkcnenfaaGreatDoor
