/- Parts of the proof: contracts and plain laws. -/
import Derived.Test.YtnlafkgkcnenfaaGreatDoorR04
import Derived.Test.YtnlafkgkcnenfaaGreatDoorR21
namespace Go.Proofs.YtnlafkgkcnenfaaGreatDoor
open Go Go.RowKit Go.Sort Tryz
set_option linter.unusedVariables false
set_option linter.unusedSimpArgs false
set_option maxRecDepth 100000
set_option maxHeartbeats 16000000
section
variable {B cap g m:Nat} {e:TypeId} {w:World} {α:Type}
theorem KU (enc:α->List Value) (k:Nat) (h:∀x,(enc x).length=k):∀(l:List α),(l.map enc).flatten.length=l.length*k
 | []=>by simp
 |x::l=>by rw[ZP,X2,Zd,h,KU enc k h l,Ze,Nat.add_mul];omega
section
variable {α:Type} [Inhabited α] (enc:α→List Value) (k:Nat)
theorem Zgm:∀(l:List (List Value)) (i:Nat) (c:List Value) (j:Nat) (u:Value),(∀c∈l,c.length=k)->l[i]? =some c->c[j]? =some u->l.flatten[k*i+j]? =some u
 | [],i,c,j,u,_,h,_=>by simp at h
 |x::l,i,c,j,u,hl,hc,hu=>by
  have D:x.length=k:=hl x (by simp)
  cases i with
  |zero=>
   simp at hc
   subst hc
   have A:j<x.length:=(ZN.mp hu).1
   simpa [List.getElem?_append,A] using (ZN.mp hu).2
  |succ i=>
   have:=Zgm l i c j u (λc h=>hl c (by simp[h])) (by simpa using hc) hu
   simp only[X2]
   have e:k*(i+1)+j=x.length+(k*i+j):=(by rw[D,Nat.mul_succ];omega)
   rw[e,Yr (by omega)]
   simpa using this
theorem Zdu (F:∀x,(enc x).length=k) (d:Array α) (t:Nat) (h:t<d.size*k):(d.toList.map enc).flatten[t]? =some ((flatK enc k d)[t]!):=by
 have A:0<k:=by
  rcases YP k with e|e
  ·rw[e] at h;omega
  ·exact e
 have D:t / k<d.size:=Nat.div_lt_of_lt_mul (by rw[U5];exact h);have J:t % k<k:=Nat.mod_lt _ A;rw[get_flatK enc k d t h];have e1:(enc d[t / k]!)[t % k]? =some (enc d[t / k]!)[t % k]! :=by
  have H:t % k<(enc d[t / k]!).length:=by rw[F];exact J
  rw[getElem!_pos (enc d[t / k]!) (t % k) H,Zj H]
 have e2:(d.toList.map enc)[t / k]? =some (enc d[t / k]!):=by rw[Ys,Zj (by simpa using D)];simp[getElem!_pos d (t / k) D]
 have:=Zgm k (d.toList.map enc) (t / k) _ (t % k) _ (by intro c I;obtain ⟨x,_,rfl⟩:=ZO.1 I;exact F x) e2 e1
 rwa [Nat.div_add_mod] at this
theorem Ki (D:∀x,(enc x).length=k) {d:Array α} (h:w.ownsRow B e k (.slice (some ⟨g,0,none⟩) d.size cap) d.size (d.toList.map enc).flatten):HoldsK enc k w g 0 d:=by
 intro j A;rw[size_flatK] at A;rw[Yu];exact ⟨by rw[h.cellAt j A,Zdu enc k D d j A];rfl,h.frozenAt j⟩
theorem QH (S:∀x,(enc x).length=k) {d A:Array α} {os:Array Obj} (h:w.ownsRow B e k (.slice (some ⟨g,0,none⟩) d.size cap) d.size (d.toList.map enc).flatten) (J:A.size=d.size):
 (sortWorldK enc k w g 0 m A os).ownsRow B e k (.slice (some ⟨g,0,none⟩) d.size cap) d.size (A.toList.map enc).flatten/\w.grownBy (sortWorldK enc k w g 0 m A os) (some g):=by
 rcases h.2 with ⟨I,_⟩|⟨g',X,M,I,Z,Y,H,Q,R,V⟩
 ·simp at I
 ·simp only[Value.slice.injEq,Xc,Addr.mk.injEq,and_true,true_and] at I;obtain ⟨rfl,rfl⟩:=I;have F:g<w.heap.size:=(Zx.1 Y).1;have ha:d.size*k<=cap*k:=Nat.mul_le_mul_right k H;have D:(sortWorldK enc k w g 0 m A os).heap[g]? =some (.cells (putCells id 0 (flatK enc k A) M) e):=by unfold sortWorldK putRowK putRow mapBlock grow;rw[Array.getElem?_append_left (by simpa [Sort.ahead] using F),Xk,Zl rfl];show Option.map _ (w.heap[g]?)=_;rw[Y];rfl
  refine ⟨⟨by rw[KU enc k S];simp[J],.inr ⟨g,cap,_,rfl,Z,D,H,Q,by simpa [putCells] using R,?_⟩⟩,⟨rfl,rfl,rfl,size_sortWorldK_c enc k w g 0 m A os,λj hj U=> ?_⟩⟩
  ·apply List.ext_getElem?;intro t;rw[List.getElem?_take];by_cases K:t<d.size*k
   ·rw[Zl K,Zdu enc k S A t (by rw[J];exact K)];rw[Array.getElem?_toList];unfold putCells;rw[Array.getElem?_mapIdx,Array.getElem?_eq_getElem (by omega)];simp[J,K]
   ·rw[Zg K,List.getElem?_eq_none (by rw[KU enc k S];simp[J];omega)]
  ·unfold sortWorldK putRowK putRow mapBlock grow;rw[Array.getElem?_append_left (by simpa [Sort.ahead] using hj),Xk,Zg (λe=>U (by rw[e]))];rfl
end
theorem ZjJ {c:α->α->Int} (h:IsCmp c):SWO (ltOf c) where
 irrefl x:=by unfold ltOf;rw[h.self];rfl
 trans x y z h1 h2:=by unfold ltOf at*;simp only[Yn] at*;exact h.lt_trans x y z h1 h2
 ntrans x y z h1 h2:=by unfold ltOf at*;simp only[UC] at*;have:=h.trans z y x (by have:=h.anti y z;omega) (by have:=h.anti x y;omega);have:=h.anti x z;omega
instance:Inhabited Ent:=⟨zeroE⟩
theorem Zk9 (w:Wq):(isAgg 76).run prog w= .ok true w:=by kernel_rfl
theorem ZlD (w:Wq):(Go.sizeOf 76).run prog w= .ok 5 w:=by kernel_rfl
theorem ZiL (args:Array Value) (w:Wq):(callFunc 114 args).run prog w= .ok (.enter 114 args) w:=enters_of func114 (by kernel_rfl) rfl args w
attribute [local go_sem ↓] Go.wp_at_zero Go.wp_at_succ
theorem Gl (a b:Ent) (w:Wq):
 Calls prog 114 #[.agg (eCells a).toArray,.agg (eCells b).toArray] w λx w'=>x= .returned (nI (entCmp a b))/\∃q os,w'=grow (w.drewN q) os:=by
 obtain ⟨H,R,U,M,A⟩:=a;obtain ⟨I,S,V,Q,D⟩:=b;unfold entCmp;obtain ⟨ci,J⟩:∃ci,iCmp D A=ci:=⟨_,rfl⟩;obtain ⟨cs,K⟩:∃cs,sCmp H I=cs:=⟨_,rfl⟩;simp only[J,K];have X:=gd (λw'=>EQ D A w');have Z:=gd (λw'=>VL H I w');rw[K] at Z;rw[show (if D<A then (-1:Int) else if A<D then 1 else 0)=ci from J] at X;have Y:=gd (λv w' h=>KN ci cs v w' h);obtain ⟨res,F⟩:∃res,(if ci=0 then cs else ci)=res:=⟨_,rfl⟩;rw[F] at Y;rw[F];clear J K F;unfold eCells;go_enter func114,ntmps114;go_wp2
 go_region_held3 (λw'=>Ext w w'/\w'.cell? ⟨w.heap.size,0,none⟩=some (.string H)/\w'.cell? ⟨w.heap.size,4,none⟩=some (nI A)/\w'.cell? ⟨w.heap.size+1,0,none⟩=some (.string I)/\w'.cell? ⟨w.heap.size+1,4,none⟩=some (nI D))
  ((go_split_ands;refine ⟨?_,?_,?_,?_,?_⟩<;>first|assumption|((repeat (first|exact Ext.refl _|assumption|apply Ext.drew|apply Ext.alloc));done)|((refine Ext.trans ?_ (by assumption));(repeat (first|exact Ext.refl _|assumption|apply Ext.drew|apply Ext.alloc));done)|((refine Ext.cell (by assumption) ?_);first|assumption|(go_keep;done))|(go_keep;done)))
  (first|(go_at_call 152;refine (X.out _).mono ?_;rintro e w1 ⟨rfl,rfl⟩)|(go_at_call 119;refine (Z.out _).mono ?_;rintro e w2 ⟨rfl,rfl⟩)|(go_at_call 117;refine (Y.out _ _ (Xo (e:=3) (fr:=(0,0)) (cs:= [nI ci,nI cs]) ?hg (by rfl) (by decide))).mono ?_;(case hg=>exact Jl w _ _ _);rintro e w3 ⟨rfl,rfl⟩))
 go_wp2;go_ret;exact ⟨rfl,1,_,by rw[alloc_eq_grow,alloc_eq_grow,alloc_eq_grow,grow_grow,grow_grow];rfl⟩
theorem Zif (v:Value) (l:List Ent) (w:Wq) (B:Nat) (h:OEnts w B v l) (hn:l.length<=1000000):
 Calls prog 113 #[v,.func (.func 114) #[] #[]] w λe w'=>e= .returned (.tuple #[])/\
  ∃l':List Ent,l'.Perm l/\l'.Pairwise (λa b=>ordE.lt b a=false)/\OEnts w' B v l'/\w.grownBy w' v.ownBlock:=by
 rcases YP l.length with I|I
 ·have K:l= []:=ZF I;subst K;obtain ⟨A,c,rfl,_,_⟩:=h.reads.form;refine (slices_SortFunc_none_f113 (α:=Ent) A c _ w).mono ?_;rintro e w' ⟨rfl,rfl⟩;exact ⟨rfl,[],List.Perm.refl _,List.Pairwise.nil,h,World.grownBy.refl _ _⟩
 ·obtain ⟨g,cap,rfl,hb,Y⟩:=U6 h I;have M:w.ownsRow B 76 5 (.slice (some ⟨g,0,none⟩) l.toArray.size cap) l.toArray.size (l.toArray.toList.map eCells).flatten:=by simpa [OEnts,flatE] using h
  have V:=slices_SortFunc_f113 5 Zk9 ZlD eCells (λ_=>rfl) (λx=>XK x) entCmp (ZjJ QY) 114 #[] g 0 cap l.toArray w ZiL
   (λm os dk X x y=>Gl x y _) (Ki eCells 5 (λ_=>rfl) M) Y (by simp;omega)
  refine V.mono ?_;rintro e w' ⟨rfl,F,n,os,U,hs,rfl⟩;have H:F.size=l.toArray.size:=U.1;have S:=QH eCells 5 (λ_=>rfl) (m:=n) (os:=os) M H;have D:F.toList.Perm l:=by
   have:=U.2.2;have K:l.length=F.toList.length:=(by simpa using H.symm);simp at this
   rwa [K,ZM (Zb _)] at this
  refine ⟨rfl,F.toList,D,?_,?_,S.2⟩
  ·rw[Xe];intro i j Z R J;have Q:=hs i j (Zh _) J (by rw[<-H];simpa using R);rw[getElem!_pos F j (by simpa using R),getElem!_pos F i (by simpa using Z)] at Q;simpa [ltOf,ordE,ltE] using Q
  ·unfold OEnts;have e1:F.toList.length=l.length:=D.length_eq;rw[e1];have:=S.1;simpa [flatE] using this
end
end Go.Proofs.YtnlafkgkcnenfaaGreatDoor
