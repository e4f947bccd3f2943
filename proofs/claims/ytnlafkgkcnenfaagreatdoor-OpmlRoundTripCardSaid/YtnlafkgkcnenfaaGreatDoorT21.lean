/- Parts of the proof: contracts and plain laws. -/
import Derived.Test.YtnlafkgkcnenfaaGreatDoorT04
import Derived.Test.YtnlafkgkcnenfaaGreatDoorT20
namespace Go.Proofs.YtnlafkgkcnenfaaGreatDoor
open Go Go.RowKit Go.Sort Tryz
set_option linter.unusedVariables false
set_option linter.unusedSimpArgs false
set_option linter.unusedSimpArgs false
set_option maxRecDepth 100000
set_option maxHeartbeats 16000000
section
variable {B cap g m:Nat} {e:TypeId} {w:World} {α:Type}
theorem IZ {α:Type} (enc:α->List Value) (k:Nat) (h:∀x,(enc x).length=k):∀(l:List α),(l.map enc).flatten.length=l.length*k
 | []=>by simp
 |x::l=>by rw[Zw,X0,Zc,h,IZ enc k h l,Zd,Nat.add_mul];omega
section
variable {α:Type} [Inhabited α] (enc:α→List Value) (k:Nat)
theorem Zh8:∀(l:List (List Value)) (i:Nat) (c:List Value) (j:Nat) (u:Value),(∀c∈l,c.length=k)->l[i]? =some c->c[j]? =some u->l.flatten[k*i+j]? =some u
 | [],i,c,j,u,_,h,_=>by simp at h
 |x::l,i,c,j,u,hl,hc,hu=>by
  have D:x.length=k:=hl x (by simp)
  cases i with
  |zero=>
   simp at hc
   subst hc
   have A:j<x.length:=(ZT.mp hu).1
   simpa [List.getElem?_append,A] using (ZT.mp hu).2
  |succ i=>
   have:=Zh8 l i c j u (λc h=>hl c (by simp[h])) (by simpa using hc) hu
   simp only[X0]
   have e:k*(i+1)+j=x.length+(k*i+j):=(by rw[D,Nat.mul_succ];omega)
   rw[e,Ym (by omega)]
   simpa using this
theorem Zfd (F:∀x,(enc x).length=k) (d:Array α) (t:Nat) (h:t<d.size*k):(d.toList.map enc).flatten[t]? =some ((flatK enc k d)[t]!):=by
 have A:0<k:=by
  rcases YO k with e|e
  ·rw[e] at h;omega
  ·exact e
 have D:t / k<d.size:=Nat.div_lt_of_lt_mul (by rw[Qy];exact h);have J:t % k<k:=Nat.mod_lt _ A;rw[get_flatK enc k d t h];have e1:(enc d[t / k]!)[t % k]? =some (enc d[t / k]!)[t % k]! :=by
  have H:t % k<(enc d[t / k]!).length:=by rw[F];exact J
  rw[getElem!_pos (enc d[t / k]!) (t % k) H,Zl H]
 have e2:(d.toList.map enc)[t / k]? =some (enc d[t / k]!):=by rw[Yz,Zl (by simpa using D)];simp[getElem!_pos d (t / k) D]
 have:=Zh8 k (d.toList.map enc) (t / k) _ (t % k) _ (by intro c I;obtain ⟨x,_,rfl⟩:=ZS.1 I;exact F x) e2 e1
 rwa [Nat.div_add_mod] at this
theorem KP (D:∀x,(enc x).length=k) {d:Array α} (h:w.ownsRow B e k (.slice (some ⟨g,0,none⟩) d.size cap) d.size (d.toList.map enc).flatten):HoldsK enc k w g 0 d:=by
 intro j A;rw[size_flatK] at A;rw[YQ];exact ⟨by rw[h.cellAt j A,Zfd enc k D d j A];rfl,h.frozenAt j⟩
theorem QS (U:∀x,(enc x).length=k) {d A:Array α} {os:Array Obj} (h:w.ownsRow B e k (.slice (some ⟨g,0,none⟩) d.size cap) d.size (d.toList.map enc).flatten) (J:A.size=d.size):
 (sortWorldK enc k w g 0 m A os).ownsRow B e k (.slice (some ⟨g,0,none⟩) d.size cap) d.size (A.toList.map enc).flatten/\w.grownBy (sortWorldK enc k w g 0 m A os) (some g):=by
 rcases h.2 with ⟨I,_⟩|⟨g',Y,Q,I,hb,Z,H,R,S,X⟩
 ·simp at I
 ·simp only[Value.slice.injEq,Y8,Addr.mk.injEq,and_true,true_and] at I;obtain ⟨rfl,rfl⟩:=I;have F:g<w.heap.size:=(Zv.1 Z).1;have ha:d.size*k<=cap*k:=Nat.mul_le_mul_right k H;have D:(sortWorldK enc k w g 0 m A os).heap[g]? =some (.cells (putCells id 0 (flatK enc k A) Q) e):=by unfold sortWorldK putRowK putRow mapBlock grow;rw[Array.getElem?_append_left (by simpa [Sort.ahead] using F),Xj,Zi rfl];show Option.map _ (w.heap[g]?)=_;rw[Z];rfl
  refine ⟨⟨by rw[IZ enc k U];simp[J],.inr ⟨g,cap,_,rfl,hb,D,H,R,by simpa [putCells] using S,?_⟩⟩,⟨rfl,rfl,rfl,size_sortWorldK_c enc k w g 0 m A os,λj hj V=> ?_⟩⟩
  ·apply List.ext_getElem?;intro t;rw[List.getElem?_take];by_cases K:t<d.size*k
   ·rw[Zi K,Zfd enc k U A t (by rw[J];exact K)];rw[Array.getElem?_toList];unfold putCells;rw[Array.getElem?_mapIdx,Array.getElem?_eq_getElem (by omega)];simp[J,K]
   ·rw[Ze K,List.getElem?_eq_none (by rw[IZ enc k U];simp[J];omega)]
  ·unfold sortWorldK putRowK putRow mapBlock grow;rw[Array.getElem?_append_left (by simpa [Sort.ahead] using hj),Xj,Ze (λe=>V (by rw[e]))];rfl
end
theorem ZlJ {c:α->α->Int} (h:IsCmp c):SWO (ltOf c) where
 irrefl x:=by unfold ltOf;rw[h.self];rfl
 trans x y z h1 h2:=by unfold ltOf at*;simp only[ZU] at*;exact h.lt_trans x y z h1 h2
 ntrans x y z h1 h2:=by unfold ltOf at*;simp only[Jv] at*;have:=h.trans z y x (by have:=h.anti y z;omega) (by have:=h.anti x y;omega);have:=h.anti x z;omega
instance:Inhabited Ent:=⟨zeroE⟩
theorem Zm9 (w:Wq):(isAgg 76).run prog w= .ok true w:=by kernel_rfl
theorem ZnI (w:Wq):(Go.sizeOf 76).run prog w= .ok 5 w:=by kernel_rfl
theorem ZkK (args:Array Value) (w:Wq):(callFunc 114 args).run prog w= .ok (.enter 114 args) w:=enters_of func114 (by kernel_rfl) rfl args w
attribute [local go_sem ↓] Go.wp_at_zero Go.wp_at_succ
theorem GB (a b:Ent) (w:Wq):
 Calls prog 114 #[.agg (eCells a).toArray,.agg (eCells b).toArray] w λx w'=>x= .returned (nI (entCmp a b))/\∃q os,w'=grow (w.drewN q) os:=by
 obtain ⟨H,S,V,Q,A⟩:=a;obtain ⟨I,U,X,R,D⟩:=b;unfold entCmp;obtain ⟨ci,J⟩:∃ci,iCmp D A=ci:=⟨_,rfl⟩;obtain ⟨cs,K⟩:∃cs,sCmp H I=cs:=⟨_,rfl⟩;simp only[J,K];have Y:=gd (λw'=>ZaJ D A w');have HS:=gd (λw'=>VV H I w');rw[K] at HS;rw[show (if D<A then (-1:Int) else if A<D then 1 else 0)=ci from J] at Y;have Z:=gd (λv w' h=>IP ci cs v w' h);obtain ⟨res,F⟩:∃res,(if ci=0 then cs else ci)=res:=⟨_,rfl⟩;rw[F] at Z;rw[F];clear J K F;unfold eCells;go_enter func114,ntmps114;go_wp2
 go_region_held3 (λw'=>Ext w w'/\w'.cell? ⟨w.heap.size,0,none⟩=some (.string H)/\w'.cell? ⟨w.heap.size,4,none⟩=some (nI A)/\w'.cell? ⟨w.heap.size+1,0,none⟩=some (.string I)/\w'.cell? ⟨w.heap.size+1,4,none⟩=some (nI D))
  ((go_split_ands;refine ⟨?_,?_,?_,?_,?_⟩<;>first|assumption|((repeat (first|exact Ext.refl _|assumption|apply Ext.drew|apply Ext.alloc));done)|((refine Ext.trans ?_ (by assumption));(repeat (first|exact Ext.refl _|assumption|apply Ext.drew|apply Ext.alloc));done)|((refine Ext.cell (by assumption) ?_);first|assumption|(go_keep;done))|(go_keep;done)))
  (first|(go_at_call 152;refine (Y.out _).mono ?_;rintro e w1 ⟨rfl,rfl⟩)|(go_at_call 119;refine (HS.out _).mono ?_;rintro e w2 ⟨rfl,rfl⟩)|(go_at_call 117;refine (Z.out _ _ (X8 (e:=3) (fr:=(0,0)) (cs:= [nI ci,nI cs]) ?hg (by rfl) (by decide))).mono ?_;(case hg=>exact Jh w _ _ _);rintro e w3 ⟨rfl,rfl⟩))
 go_wp2;go_ret;exact ⟨rfl,1,_,by rw[alloc_eq_grow,alloc_eq_grow,alloc_eq_grow,grow_grow,grow_grow];rfl⟩
theorem Zkb (v:Value) (l:List Ent) (w:Wq) (B:Nat) (h:OEnts w B v l) (hn:l.length<=1000000):
 Calls prog 113 #[v,.func (.func 114) #[] #[]] w λe w'=>e= .returned (.tuple #[])/\
  ∃l':List Ent,l'.Perm l/\l'.Pairwise (λa b=>ordE.lt b a=false)/\OEnts w' B v l'/\w.grownBy w' v.ownBlock:=by
 rcases YO l.length with I|I
 ·have K:l= []:=Zr I;subst K;obtain ⟨A,c,rfl,_,_⟩:=h.reads.form;refine (slices_SortFunc_none_f113 (α:=Ent) A c _ w).mono ?_;rintro e w' ⟨rfl,rfl⟩;exact ⟨rfl,[],List.Perm.refl _,List.Pairwise.nil,h,World.grownBy.refl _ _⟩
 ·obtain ⟨g,cap,rfl,hb,Z⟩:=Zip h I;have Q:w.ownsRow B 76 5 (.slice (some ⟨g,0,none⟩) l.toArray.size cap) l.toArray.size (l.toArray.toList.map eCells).flatten:=by simpa [OEnts,flatE] using h
  have X:=slices_SortFunc_f113 5 Zm9 ZnI eCells (λ_=>rfl) (λx=>XL x) entCmp (ZlJ Gk) 114 #[] g 0 cap l.toArray w ZkK
   (λm os dk Y x y=>GB x y _) (KP eCells 5 (λ_=>rfl) Q) Z (by simp;omega)
  refine X.mono ?_;rintro e w' ⟨rfl,F,n,os,V,hs,rfl⟩;have H:F.size=l.toArray.size:=V.1;have U:=QS eCells 5 (λ_=>rfl) (m:=n) (os:=os) Q H;have D:F.toList.Perm l:=by
   have:=V.2.2;have K:l.length=F.toList.length:=(by simpa using H.symm);simp at this
   rwa [K,ZR (Zb _)] at this
  refine ⟨rfl,F.toList,D,?_,?_,U.2⟩
  ·rw[Y9];intro i j hi S J;have R:=hs i j (Zh _) J (by rw[<-H];simpa using S);rw[getElem!_pos F j (by simpa using S),getElem!_pos F i (by simpa using hi)] at R;simpa [ltOf,ordE,ltE] using R
  ·unfold OEnts;have e1:F.toList.length=l.length:=D.length_eq;rw[e1];have:=U.1;simpa [flatE] using this
end
end Go.Proofs.YtnlafkgkcnenfaaGreatDoor
