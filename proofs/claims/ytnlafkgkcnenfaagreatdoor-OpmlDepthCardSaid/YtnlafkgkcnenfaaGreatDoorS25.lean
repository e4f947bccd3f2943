/- Parts of the proof: contracts and plain laws. -/
import Derived.Test.YtnlafkgkcnenfaaGreatDoorS19
import Derived.Test.YtnlafkgkcnenfaaGreatDoorS23
import Derived.Test.YtnlafkgkcnenfaaGreatDoorS24
namespace Go.Proofs.YtnlafkgkcnenfaaGreatDoor
open Go Go.RowKit Tryz
set_option linter.unusedVariables false
set_option linter.unusedSimpArgs false
set_option maxRecDepth 100000
set_option maxHeartbeats 16000000
theorem Zdn:∀(l:List Fd) (k:Nat) (q:k<l.length),(∀e∈l.take k,errF e=0)->errF l[k]≠0->errFs l=errF l[k]
 | [],k,q,_,_=>by simp at q
 |e::t,0,_,_,h=>by simp only[errFs];rw[Ze (by simpa using h)];rfl
 |e::t,k+1,q,h,h2=>by
  simp only[errFs]
  rw[Zh (h e (by simp)),Zdn t k (by simpa using q) (λx A=>h x (by simp[A])) (by simpa using h2)]
  rfl
theorem YU:(prog.info? 31).map (λi=>i.size)=some 1:=by kernel_rfl
theorem Zh0:∀(L:List Fc) (l:List Fd),L.map Fc.f=l->allE L=(l.map λf=>f.ents.length).sum
 | [],_,h=>by subst h;rfl
 |x::t,_,h=>by subst h;unfold allE;rw[ZeL];rfl
theorem Kz:∀(l:List Fc),((l.map λx=>collF x.f).map λf=>f.ents.length).sum<=allE l
 | []=>Zb _
 |x::t=>by
  have h:=Kz t
  have q:(collF x.f).ents.length<=x.f.ents.length:=by
   show (ordE.canon (x.f.ents.map collE)).length<=_
   have:=KG ordE (x.f.ents.map collE)
   rwa [Zs] at this
  unfold allE at*
  simp only[ZP,Uk] at h|-
  omega
theorem Eq (l:List Ent):∀u∈flatE l,u.oneCell'=true:=by
 intro u h;unfold flatE at h;obtain ⟨c,q,h⟩:=Zkr.1 h;obtain ⟨e,_,rfl⟩:=Z3.1 q;exact XE e u h
section
variable {n:Nat}
theorem ZjY {l:List Nat} (h:n∈l):n<=l.sum:=by
 induction l with
 |nil=>simp at h
 |cons x t ih=>
  rw[Uk];rcases ZF.1 h with h|h
  ·omega
  ·have:=ih h;omega
end
theorem ZiR {s:List Ent} {e:Ent} (q:∀x∈s,eok x) (A:eok e):∀z∈ordE.put s e,eok z:=by
 intro z D;rcases (Ord.mem_ins _ _ _ _).1 D with h|h
 ·rw[h];exact E5 s e q A
 ·exact q z (E6 s e z h)
theorem Zbu:∀(l s:List Ent),(∀x∈l,eok x)->(∀x∈s,eok x)->∀z∈l.foldl ordE.put s,eok z
 | [],s,_,hs=>hs
 |e::t,s,hl,hs=>Zbu t _ (λx h=>hl x (ZE _ h)) (ZiR hs (hl e (ZH ..)))
def hokF (f:Fd):Prop:=(fok f/\f.path.length<=1000000)/\∀e∈f.ents,eok e
theorem Zg5 {a b:Fd} (h:hokF a) (q:hokF b):hokF (joinF a b):=by
 refine ⟨⟨EJ h.1.1 q.1.1,?_⟩,Zbu _ _ q.2 h.2⟩;show (laterF a b).path.length<=1000000;unfold laterF;dsimp only;split
 ·exact q.1.2
 ·exact h.1.2
def sumE (l:List Fd):Nat:=(l.map λf=>f.ents.length).sum
theorem Vu (f:Fd) (t:List Fd):sumE (f::t)=f.ents.length+sumE t:=by unfold sumE;simp
theorem Zg6 (a b:Fd):(joinF a b).ents.length<=a.ents.length+b.ents.length:=VO ordE b.ents a.ents
theorem K0:∀(l:List Fd) (e:Fd),(∀x∈l,hokF x)->hokF e->hokF (ordF.scan l e).2
 | [],_,_,h=>h
 |x::t,e,hl,h=>by
  unfold Ord.scan
  split
  ·exact K0 t _ (λy q=>hl y (ZE _ q)) (Zg5 (hl x (ZH ..)) h)
  ·exact K0 t e (λy q=>hl y (ZE _ q)) h
theorem K1:∀(l:List Fd) (e:Fd),sumE (ordF.scan l e).1+(ordF.scan l e).2.ents.length<=sumE l+e.ents.length
 | [],e=>by simp[Ord.scan,sumE]
 |x::t,e=>by
  have h:ordF.op x e=joinF x e:=rfl
  unfold Ord.scan
  split
  ·have q:=K1 t (ordF.op x e)
   have A:=Zg6 x e
   rw[Vu]
   rw[h] at q|-
   omega
  ·have q:=K1 t e
   simp only[Vu]
   omega
theorem ZdI:∀(l:List Fd) (e:Fd),sumE (ordF.ins l e)=sumE l+e.ents.length
 | [],e=>by simp[Ord.ins,sumE]
 |x::t,e=>by
  have ih:=ZdI t e
  unfold Ord.ins
  split
  ·simp only[Vu];omega
  ·simp only[Vu];omega
theorem ZiT (l:List Fd) (e:Fd):sumE (ordF.put l e)<=sumE l+e.ents.length:=by
 unfold Ord.put;rw[ZdI];exact K1 l e
theorem ZiS {l:List Fd} {e:Fd} (A:∀x∈l,hokF x) (D:hokF e):∀z∈ordF.put l e,hokF z:=by
 intro z F;rcases (Ord.mem_ins _ _ _ _).1 F with h|h
 ·rw[h];exact K0 l e A D
 ·have q:∀(l:List Fd) (e z:Fd),z∈(ordF.scan l e).1->z∈l:=by
   intro l
   induction l with
   |nil=>intro e z h;simp[Ord.scan] at h
   |cons y t ih=>
    intro e z h;unfold Ord.scan at h;split at h
    ·exact ZE _ (ih _ z h)
    ·rcases ZF.1 h with h|h
     ·rw[h];exact ZH ..
     ·exact ZE _ (ih _ z h)
  exact A z (q l e z h)
section
attribute [local go_sem ↓] Go.wp_at_zero Go.wp_at_succ
attribute [local go_sem] calm1
end
theorem Zbx:∀(l s:List Fd),sumE (l.foldl ordF.put s)<=sumE s+sumE l
 | [],s=>by simp[sumE]
 |e::t,s=>by
  have h:=Zbx t (ordF.put s e)
  have q:=ZiT s e
  rw[List.foldl_cons,Vu]
  omega
theorem Zbw:∀(l s:List Fd),(∀x∈l,hokF x)->(∀x∈s,hokF x)->∀z∈l.foldl ordF.put s,hokF z
 | [],_,_,hs=>hs
 |e::t,s,hl,hs=>Zbw t _ (λx h=>hl x (ZE _ h)) (ZiS hs (hl e (ZH ..)))
theorem ZeX (l:List Fd):sumE (ordF.canon l)<=sumE l:=by
 have h:=Zbx l [];have q:sumE []=0:=rfl;show sumE (l.foldl ordF.put [])<=_;omega
theorem ZeW {l:List Fd} (h:∀x∈l,hokF x):∀z∈ordF.canon l,hokF z:=Zbw l [] h (by simp)
theorem Zgs {f:Fd} (h:fokS f) (A:f.path.length<=1000000):hokF (collF f):=by
 have q:=Zbt h;refine ⟨⟨q.1,?_⟩,q.2.2⟩;show (f.path.map collapse).length<=1000000;rw[Zs];exact A
theorem ZhQ (l:List Fc):sumE (l.map λx=>collF x.f)<=allE l:=Kz l
section
variable {B B' m n:Nat} {b w:World} {e:TypeId} {v:Value} {xs:List Value} {α:Type}
def WrV (w:Wq) (B:Nat) (v:Value) (m:Nat):Prop:=∀j,j<m->∃(ad:Addr) (n c:Nat) (u:Value),v= .slice (some ad) n c/\B<=ad.block/\w.cell? (ad.add j)=some u/\w.frozen? (ad.add j)=false
theorem WrV.zero (w:Wq) (B:Nat) (v:Value):WrV w B v 0:=λj h=>absurd h (Nat.not_lt_zero _)
theorem WrV.mono (h:WrV w B v m) (F:B'<=B):WrV w B' v m:=λj H=>
 let ⟨ad,n,c,u,e,q,A,D⟩:=h j H;⟨ad,n,c,u,e,Zu F q,A,D⟩
theorem WrV.ext {a:Wq} (h:WrV a B v m) (A:Ext a b):WrV b B v m:=λj H=>
 let ⟨ad,n,c,u,e,D,q,F⟩:=h j H
 ⟨ad,n,c,u,e,D,A.cell q,(Jo A (ZS a _ q)).trans F⟩
theorem WrV.grown {a:Wq} {r:Option Nat} (h:WrV a B v m) (H:a.grownBy b r) (D:m=0\/v.ownBlock≠r):WrV b B v m:=λj K=>by
 obtain ⟨ad,n,c,u,rfl,I,F,J⟩:=h j K;have q:=ZS a _ F;have A:some (ad.add j).block≠r:=by
  rw[VD];rcases D with D|D
  ·omega
  ·exact D
 exact ⟨ad,n,c,u,rfl,I,(H.cell_far _ q A).trans F,(H.frozen_far _ q A).trans J⟩
theorem WrV.setCell (h:WrV w B v m) (p:Addr) (x:Value):WrV (w.setCell p x) B v m:=λj F=>by
 obtain ⟨ad,n,c,u,rfl,q,A,D⟩:=h j F;by_cases e:p=ad.add j
 ·subst e;exact ⟨ad,n,c,x,rfl,q,Gt _ _ _ A,by rw[Xw];exact D⟩
 ·exact ⟨ad,n,c,u,rfl,q,(Y8 _ _ _ _ e).trans A,by rw[Xw];exact D⟩
theorem WrV.setS:∀(l:List (Addr×ByteArray)) {w:Wq} {B:Nat} {v:Value} {m:Nat},WrV w B v m->WrV (setS w l) B v m
 | [],_,_,_,_,h=>h
 |p::t,_,_,_,_,h=>WrV.setS t (h.setCell p.1 _)
theorem WrV.own {size:Nat} (h:w.ownsRow B e size v n xs):WrV w B v (n*size):=λj A=>by
 have I:0<n:=Nat.pos_of_ne_zero λD=>by rw[D,Xf] at A;exact Nat.not_lt_zero _ A
 obtain ⟨g,cap,rfl,F,_⟩:=Zgi h I;have q:(⟨g,0,none⟩:Addr).add j=⟨g,j,none⟩:=by unfold Addr.add;split<;>simp_all
 have H:j<xs.length:=by rw[h.1];exact A
 exact ⟨⟨g,0,none⟩,n,cap,xs[j],rfl,F,by rw[q,h.cellAt j A];exact Zr H,by rw[q];exact h.frozenAt j⟩
def WcF (w:Wq) (B:Nat) (y:Fc):Prop:=WrV w B y.p y.f.path.length/\WrV w B y.es (y.f.ents.length*5)
theorem WcF.ext {a:Wq} {y:Fc} (h:WcF a B y) (q:Ext a b):WcF b B y:=⟨h.1.ext q,h.2.ext q⟩
theorem WcF.mono {y:Fc} (h:WcF w B y) (q:B'<=B):WcF w B' y:=⟨h.1.mono q,h.2.mono q⟩
theorem I2 {l:List α} {P:Prop} (h:l= []\/P):l.length=0\/P:=h.imp (λe=>by rw[e];rfl) λe=>e
theorem KE {l:List α} {P:Prop} (h:l= []\/P):l.length*5=0\/P:=h.imp (λe=>by rw[e];rfl) λe=>e
theorem WcF.grown {a:Wq} {y:Fc} {r:Option Nat} (h:WcF a B y) (A:a.grownBy b r) (q:awayC y r):WcF b B y:=⟨h.1.grown A (I2 q.1),h.2.grown A (KE q.2)⟩
end
section
variable {W:World} {cap g:Nat} {v:Value} {z:ByteArray}
theorem Vy (w:Wq) (B:Nat):WcF w B zeroC:=⟨WrV.zero _ _ _,WrV.zero _ _ _⟩
theorem Zcc {b:Nat} {A:Option Addr} {l:List ByteArray} {x y:ByteArray} {p e t:Value} (hE:Env W) (hP:Ptrs W v (ptrsF g b l x y z)) (I:g≠b)
 (hA:0<l.length->A=some ⟨g,0,none⟩) (hr:RStrs W (.slice A l.length cap) l)
 (Q:W.cell? ⟨b,0,none⟩=some p) (U:W.cell? ⟨b,1,none⟩=some (.string x)) (V:W.cell? ⟨b,2,none⟩=some (.string y)) (X:W.cell? ⟨b,3,none⟩=some (.string z)) (Y:W.cell? ⟨b,4,none⟩=some t) (Z:W.cell? ⟨b,5,none⟩=some e) (S:W.frozen? ⟨b,5,none⟩=false)
 (hz:firstErr (l++ [x,y,z])=0):
 Calls prog 103 #[v] W λu w'=>u= .returned (nI 0)/\RStrs w' (.slice A l.length cap) (l.map collapse)/\
  (w'.cell? ⟨b,0,none⟩=some p/\w'.cell? ⟨b,1,none⟩=some (.string (collapse x))/\w'.cell? ⟨b,2,none⟩=some (.string (collapse y))/\w'.cell? ⟨b,3,none⟩=some (.string (collapse z))/\w'.cell? ⟨b,4,none⟩=some t/\w'.cell? ⟨b,5,none⟩=some e)/\
  w'.frozen? ⟨b,5,none⟩=false/\(∀a:Wq,Ext a W->a.heap.size<=g->a.heap.size<=b->Ext a w')/\(∀k o,k≠g->k≠b->W.heap[k]? =some o->w'.heap[k]? =some o)/\(∀B v m,WrV W B v m->WrV w' B v m):=by
 refine (Js v _ W hE hP).mono ?_;rintro u w' ⟨q1,q2⟩;rw[KW,hz] at q1 q2;rw[ZhB] at q2;rcases q2 with ⟨_,q2⟩|⟨q2,_⟩
 ·have F:Ext (setS W (ptrsF g b (l.map collapse) (collapse x) (collapse y) (collapse z))) w':=by unfold Ext;rw[Q2];exact q2
  have D:l.length=(l.map collapse).length:=by simp
  have R:=ZhC (l:=l.map collapse) (x:=collapse x) (y:=collapse y) (z:=collapse z) (A:=A) (cap:=cap) (ll:=l) I D (by rw[<-D];exact hA) (by rw[<-D];exact hr) Q U V X Y Z F;rw[<-D] at R;obtain ⟨s0,s1⟩:=R;have H:b<W.heap.size:=ZS W _ Q;refine ⟨q1,s0,s1,?_,λa ha hc hb=> ?_,λk o J K ho=> ?_,λB v m h=>(WrV.setS _ h).ext F⟩
  ·rw[Jo F (by rw[Q2];exact H),QI];exact S
  ·refine Ext.trans (Ext.setS _ ha λq M=> ?_) F;rcases ZbN M with e|e<;>rw[e]<;>assumption
  ·refine F.heap ?_;rw[Qf _ _ _ λq M=> ?_]
   ·exact ho
   ·rcases ZbN M with e|e<;>rw[e]
    ·exact λe=>J e.symm
    ·exact λe=>K e.symm
 ·exact absurd rfl q2
theorem Zaw (x:Fc) (w:Wq) (hE:Env w) (hk:fokS x.f) (hr:RdC w x) (gu:x.f.ents.length<=1\/LatE):
 Calls prog 63 #[.agg (cellsC x).toArray] w λe w'=>∃y:Fc,e= .returned (.tuple #[.agg (cellsC y).toArray,nI (errF x.f:Nat)])/\y.f=normF x.f/\RdC w' y/\(∀g,g<w.heap.size->awayC y (some g))/\WcF w' w.heap.size y/\Ext w w':=by
 obtain ⟨i0,hR,hV,hu,hW⟩:=Yw ZjR;obtain ⟨i1,fI,fN,fO,fP⟩:=Yw G9;obtain ⟨p,es,f⟩:=x;obtain ⟨F,hF⟩:∃F,f=F:=⟨_,rfl⟩;obtain ⟨EF,gt⟩:∃n,errF F=n:=⟨_,rfl⟩;obtain ⟨NF,gw⟩:∃n,normF F=n:=⟨_,rfl⟩;have e1:errF f=EF:=by rw[hF];exact gt
 have e2:normF f=NF:=by rw[hF];exact gw
 simp only[e1,e2];have hZ:=gd gt;have ho:=gd gw;clear e1 e2 gt gw;have hA:Hid (∀n,errF F=n->n≠0->normF F=zeroF):=gd λn h h'=>by unfold normF;rw[h,Ze h']
 obtain ⟨path,id,title,link,upd,ents⟩:=f;obtain ⟨gj,gi⟩:=hr;obtain ⟨⟨fM,ff⟩,g4,gB⟩:=hk;simp only at gj gi ff g4 gB gu;have fq:=gd gu;clear gu;have fU:path.length<=16777216:=by omega
 have fz:Hid (∀s∈path++ [id,title,link],s.size<=16777216):=gd (by
  intro s hs;rcases Zt.1 hs with hs|hs
  ·have:=X9 hs;omega
  ·simp only[ZF,Ya,Xs] at hs;rcases hs with rfl|rfl|rfl<;>omega)
 have gN:=gd gB;have gK:=gd (λ(w':Wq) (h:Ext w w')=>KI p path.length (path.map Value.string) w' (gj.ext h) (Zke path) (by omega));have fw:=gd gi;have HF:=gd hF;obtain ⟨pA,pc,gD,_,_⟩:=gj.form;obtain ⟨eA,ec,fG,_,_⟩:=gi.form;subst gD fG;clear gj gi gB ff fM hF;unfold cellsC fCells;dsimp only;go_enter func63,ntmps63
 go_wp2_with (go_at_call 33;refine (gK.out _ (((Ext.refl w).alloc _).alloc _)).mono ?_;rintro e w1 ⟨p1,rfl,hS,ge⟩;(obtain ⟨A1,V,gD⟩:∃A c,p1= .slice A path.length c:=(by obtain ⟨A,c,e,_⟩:=(RSl.of_own hS).2;exact ⟨A,c,e⟩));subst gD;(have hj:=((Ext.refl _).alloc _).trans ge);(have c0:=hj.boxed 0 _ rfl);(have c1:=hj.boxed 1 _ rfl);(have c2:=hj.boxed 2 _ rfl);(have c3:=hj.boxed 3 _ rfl);(have c4:=hj.boxed 4 _ rfl);(have c5:=hj.boxed 5 _ rfl);(have f0:=hj.boxedF 0);(have f1:=hj.boxedF 1);(have f2:=hj.boxedF 2);(have f3:=hj.boxedF 3);(have f5:=hj.boxedF 5))
 obtain ⟨W1,Y⟩:∃W,W=w1.setCell ⟨w.heap.size,0,none⟩ (.slice A1 path.length V):=⟨_,rfl⟩;rw[<-Y];have hD:w1.ownsRow (w.heap.size+2) 9 1 (.slice A1 path.length V) path.length (path.map Value.string):=XM hS (by rw[Zq,Zq];exact Zb _);have b0:W1.cell? ⟨w.heap.size,0,none⟩=some (.slice A1 path.length V):=by rw[Y];exact Gt _ _ _ c0
 have b1:W1.cell? ⟨w.heap.size,1,none⟩=some (.string id):=by rw[Y,Y8 _ _ _ _ (by simp)];exact c1
 have b2:W1.cell? ⟨w.heap.size,2,none⟩=some (.string title):=by rw[Y,Y8 _ _ _ _ (by simp)];exact c2
 have b3:W1.cell? ⟨w.heap.size,3,none⟩=some (.string link):=by rw[Y,Y8 _ _ _ _ (by simp)];exact c3
 have b4:W1.cell? ⟨w.heap.size,4,none⟩=some (nI upd):=by rw[Y,Y8 _ _ _ _ (by simp)];exact c4
 have b5:W1.cell? ⟨w.heap.size,5,none⟩=some (.slice eA ents.length ec):=by rw[Y,Y8 _ _ _ _ (by simp)];exact c5
 have g1:W1.frozen? ⟨w.heap.size,1,none⟩=false:=by rw[Y,Xw];exact f1
 have g2:W1.frozen? ⟨w.heap.size,2,none⟩=false:=by rw[Y,Xw];exact f2
 have g3:W1.frozen? ⟨w.heap.size,3,none⟩=false:=by rw[Y,Xw];exact f3
 have g5:W1.frozen? ⟨w.heap.size,5,none⟩=false:=by rw[Y,Xw];exact f5
 have I:W1.ownsRow (w.heap.size+2) 9 1 (.slice A1 path.length V) path.length (path.map Value.string):=by rw[Y];exact Vq hD (a:=⟨w.heap.size,0,none⟩) (λe=>absurd (hD.lt _ e).1 (show ¬(w.heap.size+2<=w.heap.size) by omega)) _
 have fh:W1.heap[w.heap.size+1]? =some (.cells #[sN,eS,eS,eS,nI 0,sN] 55):=by
  rw[Y,Z4 _ _ _ _ (by simp)];refine ge.heap ?_;have:=Zg (w.alloc (.cells #[.slice pA path.length pc,.string id,.string title,.string link,nI upd,.slice eA ents.length ec] 55)) (.cells #[sN,eS,eS,eS,nI 0,sN] 55)
  rwa [Zq] at this
 have gI:Ext w W1:=by rw[Y];exact Ext.setCell ((((Ext.refl w).alloc _).alloc _).trans ge) (Zb _) _
 have gV:=hE.ext gI;have fX:w.heap.size+2<=W1.heap.size:=by rw[Y];have:=ge.size;rw[Zq,Zq] at this;show w.heap.size+2<=(w1.heap.modify _ _).size;rw[Array.size_modify];exact this
 obtain ⟨g,g6,fT⟩:∃g,(0<path.length->A1=some ⟨g,0,none⟩)/\w.heap.size+2<=g:=by
  rcases YY path.length with h0|h0
  ·exact ⟨w.heap.size+2,λh=>by omega,Zb _⟩
  ·obtain ⟨g,cap,e,hb,_⟩:=Zgi I h0;injection e with e1 e2 e3;exact ⟨g,λ_=>e1,hb⟩
 have gl:=gd I;have h5:Hid (WrV W1 (w.heap.size+2) (.slice A1 path.length V) path.length):=gd (by have h:=WrV.own I;rwa [Nat.mul_one] at h);have hC:=gd g6;have hw:=gd gI;have gP:=gd gV;clear Y hS hD I c0 c1 c2 c3 c4 c5 f0 f1 f2 f3 f5 hj ge gI gV g6 gK;go_loopw [4,19] (λo i wr=>∃k:Nat,k<=path.length/\i=nI k/\wr.ownsRow W1.heap.size 157 1 o k (((ptrsAt g 0 path).take k).map λq=>Value.pointer (some q.1))/\Ext W1 wr) (λ_ i _=>path.length - (intOf i).toNat)
 case atStart=>exact ⟨0,Zk _,rfl,YL _ _ _ _,Ext.refl _⟩
 case round=>
  obtain ⟨k,hk,rfl,I,hx⟩:=hrel;by_cases hK:k<path.length
  ·have gr:=hC.out (by omega);subst gr;have d0:=hx.cell b0;have g8:(0:Int)<=(k:Int):=(by omega);have g9:(k:Int)<(path.length:Int):=(by omega);have gE:=Zei g path k hK;obtain ⟨X,hX⟩:∃X,((ptrsAt g 0 path).take k).map (λq=>Value.pointer (some q.1))=X:=⟨_,rfl⟩;rw[hX] at I gE;have fx:=gd gE;have hl:Hid ((k+1)*8<=140737488355328):=gd (by omega);have hm:Hid (k+1<=maxLen):=gd (by unfold maxLen;omega);have M:=gd I;have hh:=gd hx;have hws:=hx.size;clear gE hX I
   go_wp2_with (first|(at_builtin;refine ZJ _ rfl (.tmp 22) (.tmp 27) _ rfl W1.heap.size 157 i0 _ 1 8 underlying156 hR hV hu hW rfl (by decide) _ k X rfl (M.out.alloc _) _ 1 [.pointer (some ⟨g,k,none⟩)] rfl (Yn rfl (by decide)) (by intro y hy;simp at hy;subst hy;rfl) hm.out hl.out ?_ ?_;(simp;omega);intro v3 w3 H ha ht;(have D:Ext W1 w3:=Ext.app (hh.out.alloc _) ha (M.out.alloc _) (Zb _))))
   go_roundw
   case rel=>exact ⟨k+1,hK,by go_num,by rw[fx.out];exact H,D⟩
   case measure=>simp[intOf];omega
  ·have gC:k=path.length:=(by omega);subst gC;rw[ZT (by rw[V0];exact Zb _)] at I;have d0:=hx.cell b0;have d1:=hx.cell b1;have d2:=hx.cell b2;have d3:=hx.cell b3;have d4:=hx.cell b4;have d5:=hx.cell b5;obtain ⟨X,hX⟩:∃X,(ptrsAt g 0 path).map (λq=>Value.pointer (some q.1))=X:=⟨_,rfl⟩;rw[hX] at I;have fc:(ptrsF g w.heap.size path id title link).map (λq=>Value.pointer (some q.1))=X++ [.pointer (some ⟨w.heap.size,1,none⟩),.pointer (some ⟨w.heap.size,2,none⟩),.pointer (some ⟨w.heap.size,3,none⟩)]:=(by unfold ptrsF;rw[ZR,hX];rfl);have fv:=gd fc;have M:=gd I;have hh:=gd hx;have hws:=hx.size;have hl:Hid ((path.length+3)*8<=140737488355328):=gd (by omega);have hm:Hid (path.length+3<=maxLen):=gd (by unfold maxLen;omega);have gm:g≠w.heap.size:=(by omega);have hP:∀(w4:Wq) (v4:Value),Ext W1 w4->w4.ownsRow W1.heap.size 157 1 v4 (path.length+3) (X++ [.pointer (some ⟨w.heap.size,1,none⟩),.pointer (some ⟨w.heap.size,2,none⟩),.pointer (some ⟨w.heap.size,3,none⟩)])->Ptrs w4 v4 (ptrsF g w.heap.size path id title link):=(by intro w4 v4 Q hU;have gx:w.heap.size<W1.heap.size:=(by omega);refine Zin (A:=A1) (cap:=V) gm hC.out (Ye gl.out Q) (Q.cell b1) (Q.cell b2) (Q.cell b3) ((Jo Q gx).trans g1) ((Jo Q gx).trans g2) ((Jo Q gx).trans g3) fz.out ?_;rw[fv.out];exact RSl.of_own hU);have HP:=gd hP;have gn:RStrs W1 (.slice A1 path.length V) path:=RSl.of_own gl.out;have fy:=gd gn;have HB:=gd (Vg b0 (Vg b1 (Vg b2 (Vg b3 (Vg b4 b5)))));have fp:=gd g5;have h3:=gd fh;clear hX fc I hP gn b0 b1 b2 b3 b4 b5 g1 g2 g3 g5 fh hx;by_cases h0:firstErr (path++ [id,title,link])=0
   ·have g7:errF F=if collapse id=noS\/(path.any λp=>decide (collapse p=noS))=true then 19 else if 64<path.length then 9 else if inT upd=true then errEs ents else 3:=by
     rw[<-HF.out];unfold errF headF strsF;simp only[h0,ne_eq,not_true_eq_false,ZkC];split
     ·rfl
     ·split
      ·rfl
      ·split<;>rfl
    have h1:=gd g7;have h9:((path.map collapse).any λs=>decide (s=⟨#[]⟩))=path.any λp=>decide (collapse p=noS):=(by rw[List.any_map];rfl);obtain ⟨Bp,gs⟩:∃B,(path.any λp=>decide (collapse p=noS))=B:=⟨_,rfl⟩;rw[gs] at h9;have hH:=gd h9;have gJ:=gd gs;have HT:=gd (λw'=>GD upd w');have hM:=gd (λ(w4:Wq) (v4:Value) (Q:Ext W1 w4) hU=>Zcc (W:=w4) (v:=v4) (g:=g) (b:=w.heap.size) (cap:=V) (A:=A1) (l:=path) (x:=id) (y:=title) (z:=link) (gP.out.ext Q) (HP.out w4 v4 Q hU) gm hC.out (fy.out.ext Q) (Q.cell HB.out.1) (Q.cell HB.out.2.1) (Q.cell HB.out.2.2.1) (Q.cell HB.out.2.2.2.1) (Q.cell HB.out.2.2.2.2.1) (Q.cell HB.out.2.2.2.2.2) ((Jo Q (show w.heap.size<W1.heap.size by omega)).trans fp.out) h0);clear g7 h9 gs h0;obtain ⟨ci,gg⟩:∃c,collapse id=c:=⟨_,rfl⟩;obtain ⟨ct,gz⟩:∃c,collapse title=c:=⟨_,rfl⟩;obtain ⟨cl,gy⟩:∃c,collapse link=c:=⟨_,rfl⟩;rw[gg,gz,gy] at hM;rw[gg] at h1;have fk:=gd gg;have fl:=gd gz;have gL:=gd gy;clear gg gz gy;by_cases hY:ci=noS
    ·subst hY;have fK:noS.toList= []:=(by rw[Q8];rfl);unfold noS at hM;have he:errF F=19:=(by rw[h1.out];rw[Zh (Or.inl rfl)]);have HN:=gd (hA.out _ he (by decide));have hi:=hZ.out.symm.trans he;subst hi;clear he
     go_wp2_with (first|(at_builtin;refine ZJ _ rfl (.tmp 30) (.tmp 34) _ rfl W1.heap.size 157 i0 _ 1 8 underlying156 hR hV hu hW rfl (by decide) _ path.length X rfl (M.out.alloc _) _ 3 [.pointer (some ⟨w.heap.size,1,none⟩),.pointer (some ⟨w.heap.size,2,none⟩),.pointer (some ⟨w.heap.size,3,none⟩)] rfl (Yn rfl (by decide)) (by intro y hy;simp at hy;rcases hy with rfl|rfl|rfl<;>rfl) hm.out hl.out ?_ ?_;(simp;omega);intro v3 w3 H ha ht;(have D:Ext W1 w3:=Ext.app (hh.out.alloc _) ha (M.out.alloc _) (Zb _)))|(go_at_call 103;(have K:=hM.out _ _ D H);(with_reducible refine Za K ?_);clear K;rintro e w5 ⟨rfl,S,⟨q0,q1,q2,q3,q4,q5⟩,f5,hg,hc,hd⟩;(have h6:=gd (hd _ _ _ (h5.out.ext D)));clear hd;(have hf:Ext w w5:=hg w (hw.out.trans D) (by omega) (Zb _));(have R:=hc (w.heap.size+1) _ (by omega) (by omega) (D.heap h3.out));(have HC:=gd (JN (w:=w5) (g:=g) (n:=path.length) (c:=V) (A:=A1) (l:=path.map collapse) ⟨#[]⟩ (by simp) (by simpa using hC.out) S (by simp;omega)));rw[hH.out] at HC;clear hg hc)|(refine Zd rfl 55 (.tmp 2) (.tmp 51) rfl (w.heap.size+1) _ rfl rfl _ _ R X3 rfl Zea ?_))
     ((try simp only[Exit.inBlock,Exit.then]);refine Zl (Z6 rfl _ _ _ _ _ _ _ rfl (Zm _ _ _ _ _ _ R) underlying55 rfl X3) rfl ?_);exact ⟨zeroC,rfl,HN.out.symm.trans ho.out,Vx _,λ_ _=>Ub _,Vy _ _,hf.setRow (by omega) _⟩
    ·have fK:=KU hY;have gQ:=gd hY;clear hY;cases Bp with
     |true=>
      have he:errF F=19:=(by rw[h1.out];rw[Zh (Or.inr gJ.out)]);have HN:=gd (hA.out _ he (by decide));have hi:=hZ.out.symm.trans he;subst hi;clear he
      go_wp2_with (first|(at_builtin;refine ZJ _ rfl (.tmp 30) (.tmp 34) _ rfl W1.heap.size 157 i0 _ 1 8 underlying156 hR hV hu hW rfl (by decide) _ path.length X rfl (M.out.alloc _) _ 3 [.pointer (some ⟨w.heap.size,1,none⟩),.pointer (some ⟨w.heap.size,2,none⟩),.pointer (some ⟨w.heap.size,3,none⟩)] rfl (Yn rfl (by decide)) (by intro y hy;simp at hy;rcases hy with rfl|rfl|rfl<;>rfl) hm.out hl.out ?_ ?_;(simp;omega);intro v3 w3 H ha ht;(have D:Ext W1 w3:=Ext.app (hh.out.alloc _) ha (M.out.alloc _) (Zb _)))|(go_at_call 103;(have K:=hM.out _ _ D H);(with_reducible refine Za K ?_);clear K;rintro e w5 ⟨rfl,S,⟨q0,q1,q2,q3,q4,q5⟩,f5,hg,hc,hd⟩;(have h6:=gd (hd _ _ _ (h5.out.ext D)));clear hd;(have hf:Ext w w5:=hg w (hw.out.trans D) (by omega) (Zb _));(have R:=hc (w.heap.size+1) _ (by omega) (by omega) (D.heap h3.out));(have HC:=gd (JN (w:=w5) (g:=g) (n:=path.length) (c:=V) (A:=A1) (l:=path.map collapse) ⟨#[]⟩ (by simp) (by simpa using hC.out) S (by simp;omega)));rw[hH.out] at HC;clear hg hc)|(go_at_call 104;(have K:=HC.out);(with_reducible refine Za K ?_);clear K;rintro e w6 ⟨rfl,rfl⟩)|(refine Zd rfl 55 (.tmp 2) (.tmp 51) rfl (w.heap.size+1) _ rfl rfl _ _ R X3 rfl Zea ?_))
      ((try simp only[Exit.inBlock,Exit.then]);refine Zl (Z6 rfl _ _ _ _ _ _ _ rfl (Zm _ _ _ _ _ _ R) underlying55 rfl X3) rfl ?_);exact ⟨zeroC,rfl,HN.out.symm.trans ho.out,Vx _,λ_ _=>Ub _,Vy _ _,hf.setRow (by omega) _⟩
     |false=>
      have gX:¬(ci=noS\/(path.any λp=>decide (collapse p=noS))=true):=by
       rintro (h|h)
       ·exact gQ.out h
       ·rw[gJ.out] at h;cases h
      have gp:=gd gX;clear gX;by_cases gh:64<path.length
      ·have gZ:(64:Int)<(path.length:Int):=(by omega);have he:errF F=9:=(by rw[h1.out];rw[Ze gp.out,Zh gh]);have HN:=gd (hA.out _ he (by decide));have hi:=hZ.out.symm.trans he;subst hi;clear he
       go_wp2_with (first|(at_builtin;refine ZJ _ rfl (.tmp 30) (.tmp 34) _ rfl W1.heap.size 157 i0 _ 1 8 underlying156 hR hV hu hW rfl (by decide) _ path.length X rfl (M.out.alloc _) _ 3 [.pointer (some ⟨w.heap.size,1,none⟩),.pointer (some ⟨w.heap.size,2,none⟩),.pointer (some ⟨w.heap.size,3,none⟩)] rfl (Yn rfl (by decide)) (by intro y hy;simp at hy;rcases hy with rfl|rfl|rfl<;>rfl) hm.out hl.out ?_ ?_;(simp;omega);intro v3 w3 H ha ht;(have D:Ext W1 w3:=Ext.app (hh.out.alloc _) ha (M.out.alloc _) (Zb _)))|(go_at_call 103;(have K:=hM.out _ _ D H);(with_reducible refine Za K ?_);clear K;rintro e w5 ⟨rfl,S,⟨q0,q1,q2,q3,q4,q5⟩,f5,hg,hc,hd⟩;(have h6:=gd (hd _ _ _ (h5.out.ext D)));clear hd;(have hf:Ext w w5:=hg w (hw.out.trans D) (by omega) (Zb _));(have R:=hc (w.heap.size+1) _ (by omega) (by omega) (D.heap h3.out));(have HC:=gd (JN (w:=w5) (g:=g) (n:=path.length) (c:=V) (A:=A1) (l:=path.map collapse) ⟨#[]⟩ (by simp) (by simpa using hC.out) S (by simp;omega)));rw[hH.out] at HC;clear hg hc)|(go_at_call 104;(have K:=HC.out);(with_reducible refine Za K ?_);clear K;rintro e w6 ⟨rfl,rfl⟩)|(refine Zd rfl 55 (.tmp 2) (.tmp 57) rfl (w.heap.size+1) _ rfl rfl _ _ R X3 rfl Zea ?_))
       ((try simp only[Exit.inBlock,Exit.then]);refine Zl (Z6 rfl _ _ _ _ _ _ _ rfl (Zm _ _ _ _ _ _ R) underlying55 rfl X3) rfl ?_);exact ⟨zeroC,rfl,HN.out.symm.trans ho.out,Vx _,λ_ _=>Ub _,Vy _ _,hf.setRow (by omega) _⟩
      ·have gZ:¬(64:Int)<(path.length:Int):=(by omega);cases hti:inT upd with
       |false=>
        rw[hti] at HT;have he:errF F=3:=(by rw[h1.out];rw[Ze gp.out,Ze gh,hti];rfl);have HN:=gd (hA.out _ he (by decide));have hi:=hZ.out.symm.trans he;subst hi;clear he
        go_wp2_with (first|(at_builtin;refine ZJ _ rfl (.tmp 30) (.tmp 34) _ rfl W1.heap.size 157 i0 _ 1 8 underlying156 hR hV hu hW rfl (by decide) _ path.length X rfl (M.out.alloc _) _ 3 [.pointer (some ⟨w.heap.size,1,none⟩),.pointer (some ⟨w.heap.size,2,none⟩),.pointer (some ⟨w.heap.size,3,none⟩)] rfl (Yn rfl (by decide)) (by intro y hy;simp at hy;rcases hy with rfl|rfl|rfl<;>rfl) hm.out hl.out ?_ ?_;(simp;omega);intro v3 w3 H ha ht;(have D:Ext W1 w3:=Ext.app (hh.out.alloc _) ha (M.out.alloc _) (Zb _)))|(go_at_call 103;(have K:=hM.out _ _ D H);(with_reducible refine Za K ?_);clear K;rintro e w5 ⟨rfl,S,⟨q0,q1,q2,q3,q4,q5⟩,f5,hg,hc,hd⟩;(have h6:=gd (hd _ _ _ (h5.out.ext D)));clear hd;(have hf:Ext w w5:=hg w (hw.out.trans D) (by omega) (Zb _));(have R:=hc (w.heap.size+1) _ (by omega) (by omega) (D.heap h3.out));(have HC:=gd (JN (w:=w5) (g:=g) (n:=path.length) (c:=V) (A:=A1) (l:=path.map collapse) ⟨#[]⟩ (by simp) (by simpa using hC.out) S (by simp;omega)));rw[hH.out] at HC;clear hg hc)|(go_at_call 104;(have K:=HC.out);(with_reducible refine Za K ?_);clear K;rintro e w6 ⟨rfl,rfl⟩)|(go_at_call 105;refine (HT.out _).mono ?_;rintro e w6 ⟨rfl,rfl⟩)|(refine Zd rfl 55 (.tmp 2) (.tmp 63) rfl (w.heap.size+1) _ rfl rfl _ _ R X3 rfl Zea ?_))
        ((try simp only[Exit.inBlock,Exit.then]);refine Zl (Z6 rfl _ _ _ _ _ _ _ rfl (Zm _ _ _ _ _ _ R) underlying55 rfl X3) rfl ?_);exact ⟨zeroC,rfl,HN.out.symm.trans ho.out,Vx _,λ_ _=>Ub _,Vy _ _,hf.setRow (by omega) _⟩
       |true=>
        rw[hti] at HT;have he:errF F=errEs ents:=(by rw[h1.out,Ze gp.out,Ze gh,hti,Zh rfl]);have hi:=hZ.out.symm.trans he;subst hi;have gM:=gd he;clear he hti gh
        go_wp2_with (first|(at_builtin;refine ZJ _ rfl (.tmp 30) (.tmp 34) _ rfl W1.heap.size 157 i0 _ 1 8 underlying156 hR hV hu hW rfl (by decide) _ path.length X rfl (M.out.alloc _) _ 3 [.pointer (some ⟨w.heap.size,1,none⟩),.pointer (some ⟨w.heap.size,2,none⟩),.pointer (some ⟨w.heap.size,3,none⟩)] rfl (Yn rfl (by decide)) (by intro y hy;simp at hy;rcases hy with rfl|rfl|rfl<;>rfl) hm.out hl.out ?_ ?_;(simp;omega);intro v3 w3 H ha ht;(have D:Ext W1 w3:=Ext.app (hh.out.alloc _) ha (M.out.alloc _) (Zb _)))|(go_at_call 103;(have K:=hM.out _ _ D H);(with_reducible refine Za K ?_);clear K;rintro e w5 ⟨rfl,S,⟨q0,q1,q2,q3,q4,q5⟩,f5,hg,hc,hd⟩;(have h6:=gd (hd _ _ _ (h5.out.ext D)));clear hd;(have hf:Ext w w5:=hg w (hw.out.trans D) (by omega) (Zb _));(have R:=hc (w.heap.size+1) _ (by omega) (by omega) (D.heap h3.out));(have HC:=gd (JN (w:=w5) (g:=g) (n:=path.length) (c:=V) (A:=A1) (l:=path.map collapse) ⟨#[]⟩ (by simp) (by simpa using hC.out) S (by simp;omega)));rw[hH.out] at HC;clear hg hc)|(go_at_call 104;(have K:=HC.out);(with_reducible refine Za K ?_);clear K;rintro e w6 ⟨rfl,rfl⟩)|(go_at_call 105;refine (HT.out _).mono ?_;rintro e w6 ⟨rfl,rfl⟩))
        have gT:=gd hf;have gS:=gd S;have fm:=gd (hE.ext hf);have HC:=();have hL:=gd (Vg q0 (Vg q1 (Vg q2 (Vg q3 (Vg q4 q5)))));have fo:=gd f5;have gU:=gd R;have fV:w.heap.size+2<=w6.heap.size:=(by have:=(ZG.1 R).1;omega);clear D H ha ht S q0 q1 q2 q3 q4 q5 f5 R hf;go_loopw [7,67] (λo i wr=>∃k:Nat,k<=ents.length/\i=nI k/\OEnts wr w6.heap.size o ((ents.take k).map collE)/\Hid (∀e∈ents.take k,errE e=0)/\Ext w6 wr) (λ_ i _=>ents.length - (intOf i).toNat)
        case atStart=>exact ⟨0,Zk _,rfl,OEnts.nil _ _,gd (by simp),Ext.refl _⟩
        case round=>
         obtain ⟨k,hk,rfl,I,hJ,hx⟩:=hrel;have fg:Ext w wr:=gT.out.trans hx;by_cases hK:k<ents.length
         ·obtain ⟨ad,c',hv,gW⟩:=(fw.out.ext fg).at hK;injection hv with hv1 hv2 hv3;subst hv1;clear hv2 hv3;have gF:=Zx hK;have ga:=Zdm ents k hK hJ.out;have gA:=gN.out _ (ZL hK);obtain ⟨e,g0⟩:∃e,ents[k]=e:=⟨_,rfl⟩;rw[g0] at gW gF ga gA;have fa:eokS e:=(by obtain ⟨_,h⟩:=gA;exact ⟨by omega,by omega,by omega,by omega⟩);have h2:=gd (λ(w':Wq) (h:Ext w w')=>Zav e w' (hE.ext h) fa);have fA:=gd gF;have go:=gd ga;have hw:=gd fg;have hh:=gd hx;have M:=gd I;have gc:((ents.take k).map collE).length=k:=(by rw[Zs,ZD];omega);have hl:Hid ((((ents.take k).map collE).length+1)*72<=140737488355328):=gd (by rw[gc];omega);have hm:Hid (((ents.take k).map collE).length+1<=maxLen):=gd (by rw[gc];unfold maxLen;omega);have g8:(0:Int)<=(k:Int):=(by omega);have g9:(k:Int)<(ents.length:Int):=(by omega);have hws:=hx.size;clear gF ga gA fa g0 I gc;obtain ⟨a0,a1,a2,a3,a4⟩:=gW;obtain ⟨E,h4⟩:∃E,errE e=E:=⟨_,rfl⟩;rw[h4] at h2 go;have gk:=gd h4;obtain ⟨N,hN⟩:∃N,normE e=N:=⟨_,rfl⟩;rw[hN] at h2;have fu:=gd hN;clear hN h4;obtain ⟨O,hO⟩:∃O,(ents.take k).map collE=O:=⟨_,rfl⟩;rw[hO] at M hl hm;have HO:=gd hO;clear hO;obtain ⟨h7,Z,hp,J,hI⟩:=e;simp only at a0 a1 a2 a3 a4;unfold eCells at h2;dsimp only at h2;by_cases h8:E=0
          ·subst h8
           go_wp2_with (first|(go_at_call 106;(have K:=h2.out _ (hw.out.trans ((Ext.refl wr).alloc (.cells #[.string h7,.string Z,.string hp,.string J,nI hI] 76))));(with_reducible refine Za K ?_);clear K;rintro e w8 ⟨rfl,gG⟩;(have hB:=((Ext.refl wr).alloc (.cells #[.string h7,.string Z,.string hp,.string J,nI hI] 76)).trans gG);(have gR:=gd (OEnts.ext M.out hB));(have fB:=gd (hh.out.trans hB));(have fW:=hB.size))|(at_builtin;refine ZJ _ rfl (.tmp 80) (.tmp 82) _ rfl w6.heap.size 76 i1 _ 5 72 underlying53 fI fN fO fP rfl (by decide) _ _ (flatE O) rfl ((Ye gR.out ((Ext.refl _).alloc _)).alloc _) _ 1 (eCells N) rfl (Xi (e:=76) (fr:=(0,0)) (cs:=eCells N) (Ys _ _ _) rfl (by decide)) (XE _) hm.out hl.out ?_ ?_;(simp;omega);intro v9 w9 hG fH fR;(have gH:Ext w6 w9:=Ext.app ((fB.out.alloc _).alloc _) fH ((Ye gR.out ((Ext.refl _).alloc _)).alloc _) (Zb _))))
           go_roundw
           case rel=>
            have fD:N=collE ⟨h7,Z,hp,J,hI⟩:=(by rw[<-fu.out];unfold normE;rw[Zh gk.out]);have hT:=fA.out;have hO:=HO.out;refine ⟨k+1,hK,by go_num,?_,gd λx hx=> ?_,gH⟩
            ·rw[hT,ZR,hO,ZP,Yv,<-fD];exact OEnts.snoc hG
            ·rw[hT] at hx;rcases Zt.1 hx with hx|hx
             ·exact hJ.out x hx
             ·rw[Zo.1 hx];exact gk.out
           case measure=>simp[intOf];omega
          ·have hb:((E:Int) !=0)=true:=(by simp;omega);have he:errF F=E:=gM.out.trans (go.out h8);have HN:=gd (hA.out _ he h8);have fn:=gd (go.out h8);clear he h8
           go_wp2_with (first|(go_at_call 106;(have K:=h2.out _ (hw.out.trans ((Ext.refl wr).alloc (.cells #[.string h7,.string Z,.string hp,.string J,nI hI] 76))));(with_reducible refine Za K ?_);clear K;rintro e w8 ⟨rfl,gG⟩;(have hB:=((Ext.refl wr).alloc (.cells #[.string h7,.string Z,.string hp,.string J,nI hI] 76)).trans gG);(have fi:=(((hh.out.trans hB).alloc (.cells (eCells N).toArray 76))).heap gU.out))|(refine Zd rfl 55 (.tmp 2) (.tmp 78) rfl (w.heap.size+1) _ rfl rfl _ _ fi X3 rfl Zea ?_))
           ((try simp only[Exit.inBlock,Exit.then]);refine Zl (Z6 rfl _ _ _ _ _ _ _ rfl (Zm _ _ _ _ _ _ fi) underlying55 rfl X3) rfl ?_);exact ⟨zeroC,by rw[fn.out];rfl,HN.out.symm.trans ho.out,Vx _,λ_ _=>Ub _,Vy _ _,((hw.out.trans hB).alloc _).setRow (by omega) _⟩
         ·have gC:k=ents.length:=(by omega);subst gC;rw[ZT (Zb _)] at I hJ;have gb:errEs ents=0:=Ei.2 hJ.out;have fb:normF F=collF F:=(by unfold normF;rw[Zh (gM.out.trans gb)]);have gY:collF F=⟨path.map collapse,ci,ct,cl,upd,ordE.canon (ents.map collE)⟩:=(by rw[<-HF.out,<-fk.out,<-fl.out,<-gL.out];rfl);have ft:=gd (fb.trans gY);have gf:=gd (GZ _ (ents.map collE) wr (fm.out.ext hx) I.reads (λx hx=>by
           obtain ⟨e,he,rfl⟩:=Z3.1 hx;exact Zdl (gN.out e he)) (by rw[Zs];exact g4) (by rw[Zs];exact fq.out))
          have q0:=hx.cell hL.out.1;have gO:=gd gb;have hh:=gd hx;have hws:=hx.size;have fF:w.heap.size<w6.heap.size:=(by omega);clear fb gY gb I hJ
          go_wp2_with (first|(go_at_call 68;(have K:=gf.out);(with_reducible refine Za K ?_);clear K;rintro e w9 ⟨fS,rfl,hG,gH⟩;(obtain ⟨zA,zc,fQ,_,_⟩:=hG.reads.form);subst fQ;(have U:=hh.out.trans gH);(have r0:=U.cell hL.out.1);(have r1:=U.cell hL.out.2.1);(have r2:=U.cell hL.out.2.2.1);(have r3:=U.cell hL.out.2.2.2.1);(have r4:=U.cell hL.out.2.2.2.2.1);(have r5:=U.cell hL.out.2.2.2.2.2);(have s5:=(Jo U fF).trans fo.out);(have fj:=U.heap gU.out);(have gq:=gd hG))|(refine Zd rfl 55 (.tmp 2) (.tmp 88) rfl (w.heap.size+1) _ rfl rfl _ _ ((Z4 _ _ _ _ (by simp)).trans fj) X3 rfl Zea ?_))
          ((try simp only[Exit.inBlock,Exit.then]);refine Zl (Z6 rfl _ _ _ _ _ _ _ rfl (Zm _ _ _ _ _ _ ((Z4 _ _ _ _ (by simp)).trans fj)) underlying55 rfl X3) rfl ?_);have fe:=gS.out.ext U;have fd:=gq.out.reads;have fJ:=gq.out.lt;have hQ:∀q,q<w.heap.size+2->awayC ⟨.slice A1 path.length V,.slice zA (ordE.canon (ents.map collE)).length zc,⟨path.map collapse,ci,ct,cl,upd,ordE.canon (ents.map collE)⟩⟩ (some q):=by
           intro q hq;refine ⟨?_,Or.inr λe=> ?_⟩
           ·rcases YY path.length with h|h
            ·exact Or.inl (by rw[Zw h];rfl)
            ·refine Or.inr λe=> ?_;have gr:=hC.out h;subst gr;injection e with e;simp only at e;omega
           ·have:=(fJ q e).1;omega
          have fL:RdC w9 ⟨.slice A1 path.length V,.slice zA (ordE.canon (ents.map collE)).length zc,⟨path.map collapse,ci,ct,cl,upd,ordE.canon (ents.map collE)⟩⟩:=⟨fe,fd⟩;refine ⟨⟨.slice A1 path.length V,.slice zA (ordE.canon (ents.map collE)).length zc,⟨path.map collapse,ci,ct,cl,upd,ordE.canon (ents.map collE)⟩⟩,by rw[gO.out];rfl,ft.out.symm.trans ho.out,(fL.grown (Yo _ _ _) (hQ _ (by simp))).grown (Yr _ _ _) (hQ _ (by simp)),λq hq=>hQ q (by omega),⟨?_,?_⟩,?_⟩
          ·rw[Zs];exact (((h6.out.ext U).grown (Yo _ _ _) (by have:=I2 (hQ w.heap.size (by omega)).1;rwa [Zs] at this)).grown (Yr _ _ _) (by have:=I2 (hQ (w.heap.size+1) (by omega)).1;rwa [Zs] at this)).mono (by omega)
          ·exact (((WrV.own gq.out).grown (Yo _ _ _) (KE (hQ w.heap.size (by omega)).2)).grown (Yr _ _ _) (KE (hQ (w.heap.size+1) (by omega)).2)).mono (by omega)
          exact (Ext.setCell (gT.out.trans U) (Zb _) _).setRow (by omega) _
   ·have hb:((firstErr (path++ [id,title,link]):Int) !=0)=true:=(by simp;omega);have he:errF F=firstErr (path++ [id,title,link]):=(by rw[<-HF.out];unfold errF headF strsF;rw[Zh h0,Ze h0]);have hn:=hA.out _ he h0;have hi:=hZ.out.symm.trans he;obtain ⟨E,h4⟩:∃E,firstErr (path++ [id,title,link])=E:=⟨_,rfl⟩;have gf:=gd (λ(w4:Wq) (v4:Value) fC fE=>Zcd (W:=w4) (v:=v4) (g:=g) (b:=w.heap.size) fC fE h0);rw[h4] at gf hb h0 hi;have HN:=gd hn;clear h4 he hn h0;subst hi
    go_wp2_with (first|(at_builtin;refine ZJ _ rfl (.tmp 30) (.tmp 34) _ rfl W1.heap.size 157 i0 _ 1 8 underlying156 hR hV hu hW rfl (by decide) _ path.length X rfl (M.out.alloc _) _ 3 [.pointer (some ⟨w.heap.size,1,none⟩),.pointer (some ⟨w.heap.size,2,none⟩),.pointer (some ⟨w.heap.size,3,none⟩)] rfl (Yn rfl (by decide)) (by intro y hy;simp at hy;rcases hy with rfl|rfl|rfl<;>rfl) hm.out hl.out ?_ ?_;(simp;omega);intro v3 w3 H ha ht;(have D:Ext W1 w3:=Ext.app (hh.out.alloc _) ha (M.out.alloc _) (Zb _)))|(go_at_call 103;(have K:=gf.out _ _ (gP.out.ext D) (HP.out _ _ D H));(with_reducible refine Za K ?_);clear K;rintro e w5 ⟨rfl,hf⟩;(have R:=(D.trans hf).heap h3.out))|(refine Zd rfl 55 (.tmp 2) (.tmp 40) rfl (w.heap.size+1) _ rfl rfl _ _ R X3 rfl Zea ?_))
    ((try simp only[Exit.inBlock,Exit.then]);refine Zl (Z6 rfl _ _ _ _ _ _ _ rfl (Zm _ _ _ _ _ _ R) underlying55 rfl X3) rfl ?_);exact ⟨zeroC,rfl,HN.out.symm.trans ho.out,Vx _,λ_ _=>Ub _,Vy _ _,((hw.out.trans D).trans hf).setRow (by omega) _⟩
end
section
variable {B:Nat} {w:World}
theorem WcF.setCell {y:Fc} (h:WcF w B y) (p:Addr) (x:Value):WcF (w.setCell p x) B y:=⟨h.1.setCell p x,h.2.setCell p x⟩
def LatF:Prop:=∀(a b:Fc) (w:Wq),Env w->fok a.f->fok b.f->RStrs w a.p a.f.path->RStrs w b.p b.f.path->isSl a.es->isSl b.es->Calls prog 67 #[.agg (cellsC a).toArray,.agg (cellsC b).toArray] w
 λx w'=>∃p',x= .returned (.agg (fCells p' sN (laterF a.f b.f)).toArray)/\w'.ownsRow w.heap.size 9 1 p' (laterF a.f b.f).path.length ((laterF a.f b.f).path.map Value.string)/\Ext w w'
theorem Zbi:∀{l:List Fc} {x:Fc},x∈l->x.f.ents.length<=allE l
 |y::t,x,h=>by
  have e:allE (y::t)=y.f.ents.length+allE t:=by unfold allE;rw[ZP,Uk]
  rw[e]
  rcases ZF.1 h with rfl|h
  ·omega
  ·have:=Zbi h
   omega
theorem Zb1 (v:Value) (l:List Fc) (w:Wq) (hE:Env w) (hr:RFcs w v l) (dC:∀x∈l,RdC w x) (hk:∀x∈l,fokS x.f) (hn:l.length<=1000000) (bn:allE l<=1000000) (di:allE l<=1\/LatE) (hP:l.length<=1\/LatF):
 Calls prog 34 #[v] w λe w'=>∃(v':Value) (lc:List Fc),e= .returned (.tuple #[.agg #[v'],nI (errFs (l.map Fc.f):Nat)])/\lc.map Fc.f=normA (l.map Fc.f)/\HFs w' w.heap.size v' lc/\(∀y∈lc,WcF w' w.heap.size y)/\Ext w w':=by
 obtain ⟨i0,dt,g9,dS,dT⟩:=Yw ZbB;obtain ⟨i1,bp,bH,bI,bJ⟩:=Yw G9;obtain ⟨A,c,rfl,bq,bm⟩:=hr.form;have d5:=gd dC;have HK:=gd hk;have f9:=gd di;have gD:=gd hP;obtain ⟨EF,fF⟩:∃n,errFs (l.map Fc.f)=n:=⟨_,rfl⟩;obtain ⟨NF,fI⟩:∃n,normA (l.map Fc.f)=n:=⟨_,rfl⟩;simp only[fF,fI];have f4:=gd fF;have fd:=gd fI;clear bq bm dC hk fF fI di hP;go_enter func34,ntmps34;go_wp2;go_loopw [4,18] (λo i wr=>∃(k:Nat) (lc:List Fc),k<=l.length/\i=nI k/\HFs wr (w.heap.size+1) o lc/\Hid (lc.map Fc.f=(l.take k).map λx=>collF x.f)/\Hid (∀x∈l.take k,errF x.f=0)/\Hid (∀y∈lc,awayC y (some w.heap.size)/\WcF wr w.heap.size y)/\Ext (w.alloc (.cells #[sN] 31)) wr) (λ_ i _=>l.length - (intOf i).toNat)
 case atStart=>exact ⟨0,[],Zk _,rfl,HFs.nil _ _,gd rfl,gd (by simp),gd (by simp),Ext.refl _⟩
 case round=>
  obtain ⟨k,lc,hk,rfl,hH,hC,hV,gl,hx⟩:=hrel;have g8:Ext w wr:=((Ext.refl w).alloc _).trans hx;by_cases ho:k<l.length
  ·obtain ⟨ad,c',hv,hB⟩:=(hr.ext g8).at ho;injection hv with gS hv2 hv3;subst gS;clear hv2 hv3;have V:l[k]∈l:=ZL ho;have ht:=d5.out _ V;have fP:=HK.out _ V;have fM:l[k].f.ents.length<=1\/LatE:=f9.out.imp (Zu (Zbi V)) id;have hd:=Zx ho;have gn:=Zdn (l.map Fc.f) k (by rw[Zs];exact ho) (λf hf=>by
    rw[<-List.map_take] at hf;obtain ⟨y,K,rfl⟩:=Z3.1 hf;exact hV.out y K)
   rw[Ju] at gn;obtain ⟨x,dK⟩:∃x,l[k]=x:=⟨_,rfl⟩;rw[dK] at hB ht fP hd gn fM;have gt:=gd (λ(w':Wq) (h:Ext w w')=>Zaw x w' (hE.ext h) fP (ht.ext h) fM);clear fM;have bA:=ht.sl;have fj:lc.length=k:=(by have:=Zz List.length hC.out;rw[Zs,Zs,ZD] at this;omega);have du:(0:Int)<=(k:Int):=(by omega);have dv:(k:Int)<(l.length:Int):=(by omega);have gZ:=gd hd;have fb:=gd gn;have HH:=gd hH;have HX:=gd hx;have Z:=gd g8;have gr:Hid ((lc.length+1)*104<=140737488355328):=gd (by omega);have gs:Hid (lc.length+1<=maxLen):=gd (by unfold maxLen;omega);have hws:=g8.size;have dJ:=hx.size;rw[Zq] at dJ;clear dK hd gn ht fP V hH;obtain ⟨E,fH⟩:∃E,errF x.f=E:=⟨_,rfl⟩;rw[fH] at gt fb;have f6:=gd fH;obtain ⟨N,hN⟩:∃N,normF x.f=N:=⟨_,rfl⟩;rw[hN] at gt;have HN:=gd hN;clear hN fH;obtain ⟨xp,bN,⟨hM,gg,I,M,hl,U⟩⟩:=x;obtain ⟨⟨xA,xn,xc,gU⟩,⟨xB,xm,xd,g6⟩⟩:=bA;simp only at gU g6;subst gU g6;obtain ⟨a0,a1,a2,a3,a4,a5⟩:=hB;simp only at a0 a1 a2 a3 a4 a5;unfold cellsC fCells at gt;dsimp only at gt;by_cases h0:E=0
   ·subst h0
    go_wp2_with (first|(go_at_call 63;(have D:=gt.out _ (Z.out.trans ((Ext.refl wr).alloc (.cells #[.slice xA xn xc,.string gg,.string I,.string M,nI hl,.slice xB xm xd] 55))));(with_reducible refine Za D ?_);clear D;rintro e w2 ⟨y,rfl,gW,gB,fX,dP,fW⟩;(have h7:=gB.sl);(obtain ⟨yp,dU,yf⟩:=y);(obtain ⟨⟨yA,yn,yc,h6⟩,⟨yB,ym,yd,h5⟩⟩:=h7);simp only at h6 h5;subst h6 h5;(have gX:yf=N:=gW);clear gW;subst gX;(have hg:=((Ext.refl wr).alloc (.cells #[.slice xA xn xc,.string gg,.string I,.string M,nI hl,.slice xB xm xd] 55)).trans fW);(have fv:=gd (HH.out.ext hg));(have b0:=hg.size))|(at_builtin;refine ZJ _ rfl (.tmp 31) (.tmp 33) _ rfl (w.heap.size+1) 55 i0 _ 6 104 underlying29 dt g9 dS dT rfl (by decide) _ lc.length (flatC lc) rfl ((Ye fv.out.row ((Ext.refl _).alloc _)).alloc _) _ 1 (cellsC ⟨.slice yA yn yc,.slice yB ym yd,yf⟩) rfl (Xi (e:=55) (fr:=(0,0)) (cs:=cellsC ⟨.slice yA yn yc,.slice yB ym yd,yf⟩) (Ys _ _ _) rfl (by decide)) (Jv gB.sl) gs.out gr.out ?_ ?_;(simp;omega);intro v3 w3 hD g2 dn))
    go_roundw
    case rel=>
     have dL:yf=collF ⟨hM,gg,I,M,hl,U⟩:=(by rw[<-HN.out];unfold normF;rw[Zh f6.out]);have hT:=gZ.out;have gb:awayC ⟨.slice yA yn yc,.slice yB ym yd,yf⟩ _:=Za4 gB λq hq=>fX q (by have:=(HH.out.row.lt q hq).2;simp;omega);refine ⟨k+1,lc++ [⟨.slice yA yn yc,.slice yB ym yd,yf⟩],ho,by go_num,HFs.snoc (fv.out.ext (((Ext.refl _).alloc _).alloc _)) ((gB.ext ((Ext.refl _).alloc _)).ext ((Ext.refl _).alloc _)) gb hD g2 dn,gd ?_,gd λz D=> ?_,gd λz D=> ?_,?_⟩
     ·rw[hT,ZR,ZR,hC.out,ZP,Yv,ZP,Yv];exact Zz (λf=>_++ [f]) dL
     ·rw[hT] at D;rcases Zt.1 D with D|D
      ·exact hV.out z D
      ·rw[Zo.1 D];exact f6.out
     ·rcases Zt.1 D with D|D
      ·exact ⟨(gl.out z D).1,((gl.out z D).2.ext ((hg.alloc _).alloc _)).grown g2 (HH.out.away z D)⟩
      ·rw[Zo.1 D];exact ⟨fX _ (by rw[Zq];omega),((dP.ext (((Ext.refl _).alloc _).alloc _)).grown g2 gb).mono (by rw[Zq];omega)⟩
     ·exact Ext.app (((HX.out.trans hg).alloc _).alloc _) g2 ((fv.out.row.ext ((Ext.refl _).alloc _)).ext ((Ext.refl _).alloc _)) (by rw[Zq];exact Zb _)
    case measure=>simp[intOf];omega
   ·have hb:((E:Int) !=0)=true:=(by simp;omega);have he:=fb.out h0;have dY:=gd h0;have fL:=f4.out.symm.trans he;subst fL;have dZ:=gd he;clear he h0
    go_wp2_with (first|(go_at_call 63;(have D:=gt.out _ (Z.out.trans ((Ext.refl wr).alloc (.cells #[.slice xA xn xc,.string gg,.string I,.string M,nI hl,.slice xB xm xd] 55))));(with_reducible refine Za D ?_);clear D;rintro e w2 ⟨y,rfl,gW,gB,fX,dP,fW⟩;(have h7:=gB.sl);(obtain ⟨yp,dU,yf⟩:=y);(obtain ⟨⟨yA,yn,yc,h6⟩,⟨yB,ym,yd,h5⟩⟩:=h7);simp only at h6 h5;subst h6 h5;(have gX:yf=N:=gW);clear gW;subst gX;(have hg:=((Ext.refl wr).alloc (.cells #[.slice xA xn xc,.string gg,.string I,.string M,nI hl,.slice xB xm xd] 55)).trans fW);(have fp:=((HX.out.trans hg).alloc (.cells (cellsC ⟨.slice yA yn yc,.slice yB ym yd,yf⟩).toArray 55)).heap (Zg w _)))|(refine Zd rfl 31 (.tmp 2) (.tmp 29) rfl w.heap.size _ rfl rfl _ _ fp YU rfl Va ?_))
    ((try simp only[Exit.inBlock,Exit.then]);refine Zl (Z6 rfl _ _ _ _ _ _ _ rfl (Zm _ _ _ _ _ _ fp) underlying31 rfl YU) rfl ?_);refine ⟨sN,[],rfl,?_,HFs.nil _ _,by simp,((Z.out.trans hg).alloc _).setRow (Zb _) _⟩;rw[<-fd.out];unfold normA;rw[dZ.out,Ze dY.out];rfl
  ·have fO:k=l.length:=(by omega);subst fO;rw[ZT (Zb _)] at hC hV;have gJ:errFs (l.map Fc.f)=0:=Ej.2 λf hf=>(by obtain ⟨y,K,rfl⟩:=Z3.1 hf;exact hV.out y K);have gc:normA (l.map Fc.f)=ordF.canon (lc.map Fc.f):=(by unfold normA;rw[Zh gJ,hC.out,ZeL];rfl);have fL:=f4.out.symm.trans gJ;have bu:=fd.out.symm.trans gc;subst fL bu;have V:∀y∈lc,∃x∈l,y.f=collF x.f:=(by intro y K;have:y.f∈lc.map Fc.f:=Z3.2 ⟨y,K,rfl⟩;rw[hC.out] at this;obtain ⟨x,hx,e⟩:=Z3.1 this;exact ⟨x,hx,e.symm⟩);have hw:Hid (∀y∈lc,fokS y.f):=gd λy K=>(by obtain ⟨x,hx,e⟩:=V y K;rw[e];exact Zbt (HK.out x hx));have dX:Hid (∀y∈lc,ordE.canon y.f.ents=y.f.ents):=gd λy K=>(by obtain ⟨x,hx,e⟩:=V y K;rw[e];exact ordE.canon_canon _);have ga:allE lc<=allE l:=(by rw[Zh0 lc _ hC.out];exact Kz l);have hQ:allE lc<=1000000:=Zu ga bn;have f1:=gd hQ;have fq:=gd ga;have fw:Hid (lc.length<=l.length):=gd (by
    have:=Zz List.length hC.out;rw[Zs,Zs] at this;omega)
   clear ga;have fj:lc.length<=1000000:=(by have:=Zz List.length hC.out;rw[Zs,Zs] at this;omega);clear gJ gc V hC hV hQ;obtain ⟨S,bF⟩:∃S:Wq,S=wr:=⟨_,rfl⟩;subst bF;have f8:=gd (ZdB _ lc (S.alloc (.cells #[sN] 31)) (hH.row.reads.ext ((Ext.refl _).alloc _)) (λy K=>(hH.rd y K).sl) (λy K=>by have:=(hw.out y K).1.2;omega) fj);have gj:=gd hH.rd;have HX:=gd hx;have Z:=gd g8;have dr:=In lc;have d1:=gd dr;clear hH dr
   go_wp2_with (go_at_call 64;(have D:=f8.out);(with_reducible refine Za D ?_);clear D;rintro e w1 ⟨v1,gv,rfl,hG,gT⟩;(obtain ⟨A1,c1,gS⟩:=hG.form);subst gS)
   have ds:=hG.len;have bZ:gv.length<=1000000:=(by have:=d1.out;omega);have dl:S.heap.size<w1.heap.size:=(by have:=gT.size;rw[Zq] at this;omega);have c0:=gT.boxed 0 sN rfl;have f0:=gT.boxedF 0;have HG:=gd hG;have fu:=gd ds;have fB:=gd gT;have f3:=gd c0;have d0:=gd f0;have fA:Hid (∀o:Value,(w1.setCell ⟨S.heap.size,0,none⟩ o).heap.size=w1.heap.size):=gd λo=>(by simp[World.setCell]);have h8:Hid (∀(o:Value) (wr:Wq),Ext (w1.setCell ⟨S.heap.size,0,none⟩ o) wr->wr.cell? ⟨S.heap.size,0,none⟩=some o/\wr.frozen? ⟨S.heap.size,0,none⟩=false):=gd λo wr h=>
    ⟨h.cell (Gt _ _ _ f3.out),(Jo h (by rw[fA.out];exact dl)).trans (by rw[Xw];exact d0.out)⟩
   have fe:Hid (∀(o:Value) (wr:Wq),Ext (w1.setCell ⟨S.heap.size,0,none⟩ o) wr->∀y∈lc,RdC wr y):=gd λo wr h y K=>
    (((gj.out y K).ext (((Ext.refl _).alloc _).trans fB.out)).grown (Yo _ _ _) (QR (gj.out y K) (Zb _))).ext h
   have d7:Hid (∀(o:Value) (wr:Wq),Ext (w1.setCell ⟨S.heap.size,0,none⟩ o) wr->∀y∈lc,WcF wr w.heap.size y):=gd λo wr h y K=>
    (((gl.out y K).2.ext (((Ext.refl _).alloc _).trans fB.out)).grown (Yo _ _ _) (QR (gj.out y K) (Zb _))).ext h
   have d2:Hid (∀(o:Value) (wr:Wq),Ext (w1.setCell ⟨S.heap.size,0,none⟩ o) wr->GrpsC wr (S.alloc (.cells #[sN] 31)).heap.size (.slice A1 gv.length c1) lc (firstsC lc) gv):=gd λo wr h=>
    (HG.out.kept (Yo _ _ _) (by rw[Zq];exact YK _)).ext h
   have gF:Hid (∀(o:Value) (wr:Wq),Ext (w1.setCell ⟨S.heap.size,0,none⟩ o) wr->Ext S wr):=gd λo wr h=>
    ((((Ext.refl S).alloc _).trans fB.out).setCell (Zb _) _).trans h
   clear hG ds gT c0 f0;go_loopw [39] (λi wr=>∃(k:Nat) (o:Value) (rs:List Fc),k<=gv.length/\i=nI k/\HFs wr w1.heap.size o rs/\Hid (rs.map Fc.f=((firstsC lc).take k).map (jF (lc.map Fc.f)))/\Hid (∀y∈rs,awayC y (some S.heap.size)/\awayC y (some w.heap.size)/\fok y.f)/\Hid (∀y∈rs,WcF wr w.heap.size y)/\Ext (w1.setCell ⟨S.heap.size,0,none⟩ o) wr) (λi _=>gv.length - (intOf i).toNat)
   case atStart=>exact ⟨0,sN,[],Zk _,rfl,HFs.nil _ _,gd rfl,gd (by simp),gd (by simp),by rw[ZcS _ _ _ _ f3.out];exact Ext.refl _⟩
   case round=>
    obtain ⟨k,o,rs,hk,rfl,hH,gP,gb,dG,hx⟩:=hrel;by_cases ho:k<gv.length
    ·have gG:=d2.out o wr hx;have g4:k<(firstsC lc).length:=(by rw[<-fu.out];exact ho);obtain ⟨g,cap,hv,_,_⟩:=gG.row.form (by omega);injection hv with gS hv2 hv3;subst gS;have bo:wr.cell? ⟨g,k,none⟩=some gv[k]:=(by rw[hv3] at gG;rw[gG.row.cellAt k (by omega)];exact Zr ho);have gz:=gG.each k (firstsC lc)[k] gv[k] (Zr g4) (Zr ho);obtain ⟨x,t,ha⟩:=ZgW (ZL g4);rw[ha] at gz;have hZ:∀y∈x::t,y∈lc:=λy K=>(by rw[<-ha] at K;exact (Y1.1 K).1);have dw:=ZkF ha (dX.out x (hZ x (by simp)));have hd:((firstsC lc).take (k+1)).map (jF (lc.map Fc.f))=((firstsC lc).take k).map (jF (lc.map Fc.f))++ [jF (lc.map Fc.f) (firstsC lc)[k]]:=(by rw[Zx g4,ZR];rfl);rw[dw] at hd;have hU:(enF x t).length<=1000000:=(by rw[G3,<-ha];exact Zu (Qk _ lc) f1.out);have gK:Hid ((enF x t).length<=1\/LatE):=gd (f9.out.imp (Zu (by
      rw[G3,<-ha];exact Zu (Qk _ lc) fq.out)) id)
     have fn:t.length+1<=lc.length:=(by have:=ZdC lc (firstsC lc)[k];rw[ha] at this;simpa using this);have b1:t.length+1<=1000000:=(by omega);have df:=gd fn;clear fn;have gZ:=gd hd;have J:=gd hZ;obtain ⟨u,hu⟩:∃u,gv[k]=u:=⟨_,rfl⟩;rw[hu] at gz bo;obtain ⟨A2,c2,bB,_,_⟩:=gz.reads.form;subst bB;have fl:RFcs wr (.slice A2 (t.length+1) c2) (x::t):=gz.reads;obtain ⟨v2,bS,fJ⟩:=Zle fl;obtain ⟨ad,c3,bC,hB⟩:=gz.reads.at (k:=0) (by simp);injection bC with hv5 hv6 fS;subst hv5;rw[Xf] at hB;have gI:ad.add 0=ad:=add_zero ad;rw[gI] at hB;obtain ⟨a0,a1,a2,a3,a4,a5⟩:=hB;simp only[Jp] at a0 a1 a2 a3 a4 a5;obtain ⟨A3,c4,bD,_,_⟩:=fJ.form;subst bD;have ht:=fe.out o wr hx x (hZ x (by simp));have bv:=ht.1.form;have bw:=ht.2.form;have fx:=gd ht;have d4:=gd fJ;have HH:=gd hH;have hA:=gd hx;have bU:=gd hu;have bG:=hx.size;rw[fA.out] at bG;have g6:x.f.ents.length<=1000000:=(by have:=(hw.out x (hZ x (by simp))).2.1;exact this);have ft:=gd (λ(w':Wq) (h:Ext wr w')=>Zc9 x.es x.f.ents.length (flatE x.f.ents) w' (ht.2.ext h) (Eq _) (by omega));clear gG hv2 hv3 hv6 fS ha dw hd gz fl hZ fJ hu gI g4 ht hH hx;obtain ⟨X,hX⟩:∃X,X=x:=⟨_,rfl⟩;rw[<-hX] at gZ J fx ft hU gK g6;obtain ⟨xp,bN,⟨hM,gg,I,M,hl,U⟩⟩:=x;obtain ⟨xA,xc,gU,_,_⟩:=bv;obtain ⟨xB,xd,fo,_,_⟩:=bw;simp only at gU fo a0 a1 a2 a3 a4 a5;subst gU fo;obtain ⟨Q,dI⟩:∃Q:Wq,Q=wr:=⟨_,rfl⟩;subst dI;have d9:=gd hX;have dj:X.es= .slice xB U.length xd:=(by rw[hX]);have bj:X.f.ents.length=U.length:=(by rw[hX]);rw[dj] at ft;clear hX dj bj
     go_wp2_with (go_at_call 66;(have D:=ft.out _ ((Ext.refl Q).alloc (.cells #[.slice xA hM.length xc,.string gg,.string I,.string M,nI hl,.slice xB U.length xd] 55)));(with_reducible refine Za D ?_);clear D;rintro e w3 ⟨v3,rfl,hD,gA⟩;(have gE:=gd hD);(have d8:=gd gA);clear hD gA)
     go_loopw [13,52] (λev i wr=>∃(m:Nat) (pz ez:Value),m<=t.length/\i=nI m/\Ext (Q.alloc (.cells (fCells pz ez (hdF X (t.take m))).toArray 55)) wr/\wr.ownsRow (Q.heap.size+1) 76 5 ev (enF X (t.take m)).length (flatE (enF X (t.take m)))/\RStrs wr pz (hdF X (t.take m)).path/\isSl ez/\Hid ((hdF X (t.take m)).path= []\/pz.ownBlock≠ev.ownBlock)/\Hid ((hdF X (t.take m)).path= []\/∀q,pz.ownBlock=some q->(q<S.heap.size/\q≠w.heap.size)\/Q.heap.size<q)/\Hid (WrV wr w.heap.size pz (hdF X (t.take m)).path.length)) (λ_ i _=>t.length - (intOf i).toNat)
     case atStart=>
      have gA:=d8.out;have gH:=d9.out;have dA:=gj.out X (J.out X (by simp));refine ⟨0,.slice xA hM.length xc,.slice xB U.length xd,Zk _,rfl,?_,?_,?_,⟨_,_,_,rfl⟩,gd ?_,gd ?_,gd ?_⟩
      ·rw[gH];exact gA
      ·have:=XM gE.out (B':=Q.heap.size+1) (by rw[Zq];exact Zb _);simpa [enF] using this
      ·have:=fx.out.1.ext (((Ext.refl _).alloc _).trans gA);rw[gH] at this|-;exact this
      ·have:=(Za5 fx.out (r:=v3.ownBlock) (λq hq=>by have:=(gE.out.lt q hq).1;rw[Zq] at this;omega)).1;rw[gH] at this|-;exact this
      ·cases hp:X.f.path with
       |nil=>exact Or.inl hp
       |cons s r=>
        refine Or.inr λq hq=>Or.inl ?_;obtain ⟨q',h1,h2⟩:=RSl.old dA.1 (by rw[hp];simp);have h3:=(gl.out X (J.out X (by simp))).1.1;rw[hp] at h3;rw[h1] at h3;rw[gH] at h1;rw[h1] at hq;injection hq with hq;subst hq;refine ⟨h2,λe=> ?_⟩;rcases h3 with h3|h3
        ·cases h3
        ·exact h3 (by rw[e])
      ·have:=((d7.out o Q hA.out X (J.out X (by simp))).1).ext (((Ext.refl _).alloc _).trans gA);rw[gH] at this|-;exact this
     case round=>
      obtain ⟨m,pz,ez,hm,rfl,hK,hc,hF,fN,gm,g1,fV⟩:=hrel;have hj:Ext Q wr:=((Ext.refl Q).alloc _).trans hK;have fU:=hK.size;rw[Zq] at fU;by_cases g5:m<t.length
      ·obtain ⟨bW,c5,fT,hB⟩:=(d4.out.ext hj).at g5;injection fT with fT hv10 hv11;subst fT;clear hv10 hv11;have dF:=Zx g5;have hL:t[m]∈lc:=J.out _ (ZE _ (ZL g5));have gy:=Ziu X (t.take m) t[m];have gw:=Zif X (t.take m) t[m];rw[<-dF] at gy gw;have h9:fok (hdF X (t.take m)):=Zf2 X _ (hw.out X (J.out X (by simp))).1 λy K=>(hw.out y (J.out y (ZE _ (Jb K)))).1;have fk:(enF X (t.take (m+1))).length<=1000000:=(by refine Zu ?_ hU;rw[G3,G3];unfold allE;simp only[ZP,Uk];have:=Xe (m+1) t;have h2:(t.map λx=>x.f.ents.length).sum=((t.take (m+1)).map λx=>x.f.ents.length).sum+((t.drop (m+1)).map λx=>x.f.ents.length).sum:=(by rw[<-List.sum_append,<-ZR,this]);omega);obtain ⟨y,dR⟩:∃y,t[m]=y:=⟨_,rfl⟩;rw[dR] at hB hL gy gw;obtain ⟨H,hH⟩:∃H,hdF X (t.take m)=H:=⟨_,rfl⟩;obtain ⟨E,gu⟩:∃E,enF X (t.take m)=E:=⟨_,rfl⟩;rw[hH] at gy h9 hK hF gm;rw[hH] at g1;rw[gu] at gw hc;rw[gw,Zc] at fk;have dM:=(hw.out y hL).1;have gR:=fe.out o Q hA.out y hL;have gQ:=gR.ext hj;have h7:=gQ.sl;have hP:=λ(w':Wq) (fE:Env w') (hp:RStrs w' pz H.path) (K:RStrs w' y.p y.f.path)=>(gD.out.resolve_left (by have:=df.out;have:=fw.out;omega)) ⟨pz,ez,H⟩ y w' fE h9 dM hp K fN h7.2;obtain ⟨R,hR⟩:∃R,laterF H y.f=R:=⟨_,rfl⟩;dsimp only at hP;simp only[hR] at hP;rw[hR] at gy;have gC:=gd gy;have fc:=gd gw;have HR:=gd hR;have gi:=gd hc;have fC:=gd hK;have fz:=gd hF;have fy:=gd gQ;have ff:=gd gR;have gk:=gd hj;have dN:=gQ.1.form;have dO:=gQ.2.form;have dq:=fN;have dB:=hF.form;have bh:Env Q:=hE.ext (Z.out.trans (gF.out o Q hA.out));have bl:Q.heap.size+1<=wr.heap.size:=fU;have gr:Hid ((E.length+y.f.ents.length)*72<=140737488355328):=gd (by omega);have gs:Hid (E.length+y.f.ents.length<=maxLen):=gd (by unfold maxLen;omega);clear gy gw hR hc hK hF gQ gR h9 dM fk dR hL hH gu dF hj fU;obtain ⟨Y,hY⟩:∃Y,Y=y:=⟨_,rfl⟩;rw[<-hY] at fc HR fy ff hP gr gs;obtain ⟨yp,dU,⟨gh,bO,fa,fZ,dV,hO⟩⟩:=y;obtain ⟨yA,yc,h6,_,_⟩:=dN;obtain ⟨yB,yd,h5,_,_⟩:=dO;obtain ⟨zA,zc,fR,_,_⟩:=dB;obtain ⟨eA,en,ec,gL⟩:=dq;obtain ⟨ba,bb,bc,bd,be,bf⟩:=hB;simp only at h6 h5 ba bb bc bd be bf;subst h6 h5 fR gL;have du:(0:Int)<=(m:Int):=(by omega);have dv:(m:Int)<(t.length:Int):=(by omega);have g0:Y.f.ents=hO:=(by rw[hY]);have fh:Y.es= .slice yB hO.length yd:=(by rw[hY]);have dk:Y.p= .slice yA gh.length yc:=(by rw[hY]);have fi:Y.f.path=gh:=(by rw[hY]);have fm:RSl wr 5 (.slice yB hO.length yd) Y.f.ents.length (flatE Y.f.ents):=(by have:=fy.out.2;rwa [fh] at this);have dc:=gd fm;have bV:=gd (Vg dk fi);have gD:=gd (λw' fE hp K=>by
        have:=hP w' fE hp K;rw[hY] at this;exact this)
       clear fm fh g0 dk fi hP hY;unfold cellsC fCells at gD;dsimp only at gD
       go_wp2_with (first|(at_builtin;refine ZJ _ rfl (.tmp 56) (.tmp 58) _ rfl (Q.heap.size+1) 76 i1 _ 5 72 underlying53 bp bH bI bJ rfl (by decide) _ _ (flatE E) rfl (gi.out.alloc _) _ Y.f.ents.length (flatE Y.f.ents) rfl (dc.out.ext ((Ext.refl _).alloc _)) (Eq _) gs.out gr.out ?_ ?_;(simp;omega);intro v4 w4 gN gM bQ;(have hI:=Ext.app (fC.out.alloc _) gM (gi.out.alloc _) (by rw[Zq];exact Zb _));(have e0:=hI.boxed 0 (.slice zA H.path.length zc) rfl);(have e1:=hI.boxed 1 (.string H.id) rfl);(have e2:=hI.boxed 2 (.string H.title) rfl);(have e3:=hI.boxed 3 (.string H.link) rfl);(have e4:=hI.boxed 4 (nI H.upd) rfl);(have e5:=hI.boxed 5 (.slice eA en ec) rfl);(have yk:∀(i:Nat) (v:Value),(#[.slice yA gh.length yc,.string bO,.string fa,.string fZ,nI dV,.slice yB hO.length yd]:Array Value)[i]? =some v->w4.cell? ⟨wr.heap.size,i,none⟩=some v:=λi v hv=>gM.cell (Ext.boxed (t:=55) (fr:=(0,0)) (Ext.refl _) i v hv) (λe=>absurd (gi.out.lt _ e.symm).2 (Nat.lt_irrefl _)));(have y0:=yk 0 _ rfl);(have y1:=yk 1 _ rfl);(have y2:=yk 2 _ rfl);(have y3:=yk 3 _ rfl);(have y4:=yk 4 _ rfl);(have y5:=yk 5 _ rfl);(clear yk))|(refine Zd rfl 55 (.tmp 12) (.tmp 62) rfl Q.heap.size _ rfl rfl _ _ bk X3 rfl Zea ?_)|(go_at_call 67;(have bK:RdC w4 Y:=(fy.out.ext ((Ext.refl _).alloc _)).grown gM (Za5 ff.out λq hq=>by have:=(gi.out.lt q hq).1;omega));(have bL:RStrs w4 (.slice zA H.path.length zc) H.path:=RSl.grown (fz.out.ext ((Ext.refl _).alloc _)) gM (gm.out.imp (λe=>by rw[e];rfl) λe=>e));(have D:=gD.out w4 (bh.ext (((Ext.refl _).alloc _).trans hI)) bL bK.1);(with_reducible refine Za D ?_);clear D;rintro e w5 ⟨p5,rfl,F,hJ⟩;(obtain ⟨A5,fD,bx⟩:∃A c,p5= .slice A R.path.length c:=(by obtain ⟨A,c,e,_⟩:=(RSl.of_own F).2;exact ⟨A,c,e⟩));subst bx;(have bk:=(hI.trans hJ).heap (Zg Q _))))
       go_roundw
       case rel=>
        have fK:=F.lt;have bz:=gM.size;rw[Zq] at bz;refine ⟨m+1,.slice A5 R.path.length fD,sN,g5,by go_num,?_,?_,?_,⟨_,_,_,rfl⟩,gd ?_,gd ?_,gd ?_⟩
        ·rw[gC.out];exact El (hI.trans hJ)
        ·rw[fc.out,Zc,Zbr];exact Jf (Ye gN hJ) (YK _) _
        ·rw[gC.out];exact RSl.grown (RSl.of_own F) (Yr _ _ _) (Or.inr λe=>by have:=(fK _ e).1;omega)
        ·rw[gC.out];rcases F.2 with ⟨h1,h2⟩|⟨q,cap,bX,h1,h2,_⟩
         ·exact Or.inl (Zw h2)
         ·refine Or.inr λe=> ?_;have e2:(Value.slice A5 R.path.length fD).ownBlock=some q:=(by rw[h1];rfl);rw[e2] at e;have:=(gN.lt q e.symm).2;omega
        ·rw[gC.out];refine Or.inr λq hq=>Or.inr ?_;have:=(fK q hq).1;omega
        ·rw[gC.out];have bt:w.heap.size<=w4.heap.size:=(by have h1:=Z.out.size;have h2:=(gF.out o Q hA.out).size;omega);have D:WrV w5 w.heap.size (.slice A5 R.path.length fD) R.path.length:=(by have h:=WrV.own F;rw[Nat.mul_one] at h;exact h.mono bt);exact D.grown (Yr _ _ _) (Or.inr λe=>by have:=(fK _ e).1;omega)
       case measure=>simp[intOf];omega
      ·have bs:m=t.length:=(by omega);subst bs;rw[ZT (Zb _)] at hK hc hF gm g1 fV;have h9:fok (hdF X t):=Zf2 X _ (hw.out X (J.out X (by simp))).1 λy K=>(hw.out y (J.out y (ZE _ K))).1;have fG:∀e∈enF X t,eok e:=ZjJ (hw.out X (J.out X (by simp))).2.2 λy K=>(hw.out y (J.out y (ZE _ K))).2.2;have hd:=gZ.out;obtain ⟨H,hH⟩:∃H,hdF X t=H:=⟨_,rfl⟩;obtain ⟨E,gu⟩:∃E,enF X t=E:=⟨_,rfl⟩;rw[hH] at hK hF gm g1 h9 fV;rw[gu] at hc fG hU gK;rw[hH,gu] at hd;have de:=gd hd;clear hd hH gu;obtain ⟨zA,zc,fR,_,_⟩:=hF.form;obtain ⟨eA,en,ec,gL⟩:=fN;subst fR gL;have dW:=gd (GZ _ E wr (hE.ext (Z.out.trans ((gF.out o Q hA.out).trans hj))) (RSl.of_own hc) fG hU gK.out);have hW:rs.length=k:=(by have:=Zz List.length gP.out;rw[Zs,Zs,ZD] at this;have:=fu.out;omega);have gr:Hid ((rs.length+1)*104<=140737488355328):=gd (by omega);have gs:Hid (rs.length+1<=maxLen):=gd (by unfold maxLen;omega);have bP:=gd hW;clear hW;have fC:=gd hK;have gk:=gd hj;have fz:=gd hF;have dm:S.heap.size<Q.heap.size:=(by omega);obtain ⟨oA,oc,fQ,_,_⟩:=HH.out.row.reads.form;subst fQ;have d3:=gd h9;clear hK hj hF fG hU hc h9;have bR:S.heap.size≠Q.heap.size:=by omega
       go_wp2_with (first|(go_at_call 68;(have D:=dW.out);(with_reducible refine Za D ?_);clear D;rintro e w5 ⟨bY,rfl,F,hJ⟩;(obtain ⟨ge,gf,bM,_,_⟩:=F.reads.form);subst bM;(have hh:=fC.out.trans hJ);(have e0:=hh.boxed 0 (.slice zA H.path.length zc) rfl);(have e1:=hh.boxed 1 (.string H.id) rfl);(have e2:=hh.boxed 2 (.string H.title) rfl);(have e3:=hh.boxed 3 (.string H.link) rfl);(have e4:=hh.boxed 4 (nI H.upd) rfl);(have e5:=hh.boxed 5 (.slice eA en ec) rfl);(have f5:=hh.boxedF 5);(have ca:=h8.out _ w5 (hA.out.trans (gk.out.trans hJ)));(obtain ⟨dh,bg⟩:=ca);(have hi:Ext Q (w5.setCell ⟨Q.heap.size,5,none⟩ (.slice ge (ordE.canon E).length gf)):=Ext.setCell (gk.out.trans hJ) (Zb _) _);(have dD:=hi.size))|(at_builtin;refine ZJ _ rfl (.tmp 68) (.tmp 70) _ rfl w1.heap.size 55 i0 _ 6 104 underlying29 dt g9 dS dT rfl (by decide) _ rs.length (flatC rs) rfl ((Ye HH.out.row hi).alloc _) _ 1 (cellsC ⟨.slice zA H.path.length zc,.slice ge (ordE.canon E).length gf,withE H (ordE.canon E)⟩) rfl (Xi (e:=55) (fr:=(0,0)) (cs:=cellsC ⟨.slice zA H.path.length zc,.slice ge (ordE.canon E).length gf,withE H (ordE.canon E)⟩) (Zcg _ _ _ _) rfl (by decide)) (Jv ⟨⟨_,_,_,rfl⟩,⟨_,_,_,rfl⟩⟩) gs.out gr.out ?_ ?_;(simp[World.setCell] at dD|-;omega);intro v7 w7 gO gx dp;(obtain ⟨g7,fg,fS,_⟩:=Zgi gO (ZeM _));subst fS;(have c6:=h8.out _ _ (hA.out.trans (hi.alloc (.cells (cellsC ⟨.slice zA H.path.length zc,.slice ge (ordE.canon E).length gf,withE H (ordE.canon E)⟩).toArray 55))));(have gc:some S.heap.size≠(Value.slice oA rs.length oc).ownBlock:=λe=>by have:=(HH.out.row.lt _ e.symm).1;omega);(have c7:=gx.cell c6.1 gc);(have f7:=(World.frozen?_of_block (a:=⟨S.heap.size,0,none⟩) (gx.block S.heap.size (by have:=dm;simp[World.setCell] at dD|-;omega) gc)).trans c6.2)))
       go_roundw
       case rel=>
        have dE:RStrs w5 (.slice zA H.path.length zc) H.path:=fz.out.ext hJ;obtain ⟨Y,hY⟩:∃Y:Fc,Y=⟨.slice zA H.path.length zc,.slice ge (ordE.canon E).length gf,withE H (ordE.canon E)⟩:=⟨_,rfl⟩;have gY:RdC w5 Y:=(by rw[hY];exact ⟨dE,F.reads⟩);have dy:=F.lt;have bE:=Z.out.size;have gq:∀q,(q=w.heap.size\/S.heap.size<=q)->q<=Q.heap.size->awayC Y (some q):=by
         intro q h1 h2;rw[hY];refine ⟨?_,Or.inr λe=> ?_⟩
         ·rcases g1.out with h|h
          ·exact Or.inl h
          ·refine Or.inr λe=> ?_;rcases h q e with ⟨h3,h4⟩|h3
           ·rcases h1 with h1|h1
            ·exact h4 h1
            ·omega
           ·omega
         ·have:=(dy q e).1;omega
        have fY:=gY.grown (Yo w5 ⟨Q.heap.size,5,none⟩ (.slice ge (ordE.canon E).length gf)) (gq Q.heap.size (Or.inr (by omega)) (Zb _));have gV:awayC Y (Value.slice oA rs.length oc).ownBlock:=Za4 gY λq hq=>gq q (Or.inr (by have:=(HH.out.row.lt q hq).1;omega)) (by have:=(HH.out.row.lt q hq).2;omega);have hS:=HFs.snoc (x:=Y) (HH.out.ext (hi.alloc _)) (fY.ext ((Ext.refl _).alloc _)) gV (by rw[hY];exact gO) gx dp;have hQ:∀z∈rs++ [Y],awayC z (some S.heap.size)/\awayC z (some w.heap.size)/\fok z.f:=by
         intro z D;rcases Zt.1 D with D|D
         ·exact gb.out z D
         ·rw[Zo.1 D];exact ⟨gq _ (Or.inr (Zb _)) (by omega),gq _ (Or.inl rfl) (by omega),by rw[hY];exact d3.out⟩
        have dQ:WcF w5 w.heap.size Y:=(by rw[hY];refine ⟨fV.out.ext hJ,(WrV.own F).mono ?_⟩;have h1:=Z.out.size;have h2:=(gF.out _ Q hA.out).size;have h3:=gk.out.size;omega);have dH:∀z∈rs++ [Y],WcF (w7.setCell ⟨S.heap.size,0,none⟩ (.slice (some ⟨g7,0,none⟩) (rs.length+1) fg)) w.heap.size z:=by
         intro z D;rcases Zt.1 D with D|D
         ·exact (((dG.out z D).ext (hi.alloc _)).grown gx (HH.out.away z D)).setCell _ _
         ·rw[Zo.1 D];exact (((dQ.setCell ⟨Q.heap.size,5,none⟩ (.slice ge (ordE.canon E).length gf)).ext ((Ext.refl _).alloc _)).grown gx gV).setCell _ _
        refine ⟨k+1,.slice (some ⟨g7,0,none⟩) (rs.length+1) fg,rs++ [Y],ho,by go_num,HFs.setCell hS dl (λz D=>(hQ z D).1),gd ?_,gd hQ,gd dH,Zcb (Ext.app (hA.out.trans (hi.alloc _)) gx (Ye HH.out.row (hi.alloc _)) (by rw[fA.out];exact Zb _))⟩;rw[de.out,ZR,gP.out,ZP,Yv,hY]
       case measure=>simp[intOf];omega
    ·have fO:k=gv.length:=(by omega);subst fO;have dx:((firstsC lc).take gv.length).map (jF (lc.map Fc.f))=ordF.joined (lc.map Fc.f):=(by rw[ZT (by rw[fu.out];exact Zb _),ZdL];rfl);have hW:rs.length<=1000000:=(by have:=Zz List.length gP.out;rw[Zs,Zs,ZD] at this;omega);have dd:=gd (gP.out.trans dx);have d6:=gd (ZhL o rs wr w1.heap.size hH (λy K=>by have:=(gb.out y K).2.2.2;omega) hW);obtain ⟨oA,oc,fQ,_,_⟩:=hH.row.reads.form;subst fQ;obtain ⟨dh,bg⟩:=h8.out _ wr hx;have gp:=gF.out _ wr hx;have g9:=(HX.out.trans gp).heap (Zg w _);have bE:=Z.out.size;have go:=hH.row.lt;have gc:some S.heap.size≠(Value.slice oA rs.length oc).ownBlock:=λe=>(by have:=(go _ e.symm).1;omega);have dz:some w.heap.size≠(Value.slice oA rs.length oc).ownBlock:=λe=>(by have:=(go _ e.symm).1;omega);have bT:=gp.size;have da:=gd go;have f2:=gd hH.away;have dg:=gd gp;have br:w.heap.size<wr.heap.size:=(by have:=HX.out.size;rw[Zq] at this;omega);clear dx hW gP hH hx gp go
     go_wp2_with (first|(go_at_call 69;(have D:=d6.out);(with_reducible refine Za D ?_);clear D;rintro e w9 ⟨rfl,l',hp,hs,bi,g3⟩;(have c9:=g3.cell dh gc);(have z9:=(g3.block w.heap.size br dz).trans g9))|(refine Zd rfl 31 (.tmp 2) (.tmp 77) rfl w.heap.size _ rfl rfl _ _ z9 YU rfl Va ?_))
     ((try simp only[Exit.inBlock,Exit.then]);refine Zl (Z6 rfl _ _ _ _ #[.slice oA rs.length oc] _ _ rfl (Zm _ _ _ #[.slice oA rs.length oc] _ _ z9) underlying31 rfl YU) rfl ?_);refine ⟨.slice oA rs.length oc,l',rfl,?_,HFs.setRow bi (by omega) (by omega) (λz D=>(gb.out z (hp.mem_iff.1 D)).2.1) _,λz D=>((dG.out z (hp.mem_iff.1 D)).grown g3 (f2.out z (hp.mem_iff.1 D))).grown (Yr _ _ _) (gb.out z (hp.mem_iff.1 D)).2.1,?_⟩
     ·exact ordF.sorted_joined (lc.map Fc.f) (l'.map Fc.f) (by rw[<-dd.out];exact hp.map _) (List.pairwise_map.2 hs)
     ·exact (Ext.grown' (B:=0) (Z.out.trans dg.out) g3 λq hq=>by have:=(da.out q hq).1;omega).setRow (Zb _) _
end
end Go.Proofs.YtnlafkgkcnenfaaGreatDoor
