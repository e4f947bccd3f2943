/- Parts of the proof: contracts and plain laws. -/
import Derived.Test.YtnlafkgkcnenfaaGreatDoorS04
import Derived.Test.YtnlafkgkcnenfaaGreatDoorS21
namespace Go.Proofs.YtnlafkgkcnenfaaGreatDoor
open Go Go.RowKit Go.Sort Tryz
set_option linter.unusedVariables false
set_option linter.unusedSimpArgs false
set_option maxRecDepth 100000
set_option maxHeartbeats 16000000
section
variable {B cap g m:Nat} {e:TypeId} {w:World} {α:Type}
theorem KQ (enc:α->List Value) (k:Nat) (h:∀x,(enc x).length=k):∀(l:List α),(l.map enc).flatten.length=l.length*k
 | []=>by simp
 |x::l=>by rw[ZP,Jh,Zc,h,KQ enc k h l,Zf,Nat.add_mul];omega
section
variable {α:Type} [Inhabited α] (enc:α→List Value) (k:Nat)
theorem ZfZ:∀(l:List (List Value)) (i:Nat) (c:List Value) (j:Nat) (u:Value),(∀c∈l,c.length=k)->l[i]? =some c->c[j]? =some u->l.flatten[k*i+j]? =some u
 | [],i,c,j,u,_,h,_=>by simp at h
 |x::l,i,c,j,u,hl,hc,hu=>by
  have A:x.length=k:=hl x (by simp)
  cases i with
  |zero=>
   simp at hc
   subst hc
   have q:j<x.length:=(ZM.mp hu).1
   simpa [List.getElem?_append,q] using (ZM.mp hu).2
  |succ i=>
   have:=ZfZ l i c j u (λc h=>hl c (by simp[h])) (by simpa using hc) hu
   simp only[Jh]
   have e:k*(i+1)+j=x.length+(k*i+j):=(by rw[A,Nat.mul_succ];omega)
   rw[e,Yl (by omega)]
   simpa using this
theorem Zdu (D:∀x,(enc x).length=k) (d:Array α) (t:Nat) (h:t<d.size*k):(d.toList.map enc).flatten[t]? =some ((flatK enc k d)[t]!):=by
 have q:0<k:=by
  rcases YY k with e|e
  ·rw[e] at h;omega
  ·exact e
 have A:t / k<d.size:=Nat.div_lt_of_lt_mul (by rw[IG];exact h);have I:t % k<k:=Nat.mod_lt _ q;rw[get_flatK enc k d t h];have e1:(enc d[t / k]!)[t % k]? =some (enc d[t / k]!)[t % k]! :=by
  have F:t % k<(enc d[t / k]!).length:=by rw[D];exact I
  rw[getElem!_pos (enc d[t / k]!) (t % k) F,Zr F]
 have e2:(d.toList.map enc)[t / k]? =some (enc d[t / k]!):=by rw[YD,Zr (by simpa using A)];simp[getElem!_pos d (t / k) A]
 have:=ZfZ k (d.toList.map enc) (t / k) _ (t % k) _ (by intro c H;obtain ⟨x,_,rfl⟩:=Z3.1 H;exact D x) e2 e1
 rwa [Nat.div_add_mod] at this
theorem G8 (A:∀x,(enc x).length=k) {d:Array α} (h:w.ownsRow B e k (.slice (some ⟨g,0,none⟩) d.size cap) d.size (d.toList.map enc).flatten):HoldsK enc k w g 0 d:=by
 intro j q;rw[size_flatK] at q;rw[Ym];exact ⟨by rw[h.cellAt j q,Zdu enc k A d j q];rfl,h.frozenAt j⟩
theorem QC (R:∀x,(enc x).length=k) {d q:Array α} {os:Array Obj} (h:w.ownsRow B e k (.slice (some ⟨g,0,none⟩) d.size cap) d.size (d.toList.map enc).flatten) (I:q.size=d.size):
 (sortWorldK enc k w g 0 m q os).ownsRow B e k (.slice (some ⟨g,0,none⟩) d.size cap) d.size (q.toList.map enc).flatten/\w.grownBy (sortWorldK enc k w g 0 m q os) (some g):=by
 rcases h.2 with ⟨H,_⟩|⟨g',V,K,H,Y,X,F,M,Q,U⟩
 ·simp at H
 ·simp only[Value.slice.injEq,Y3,Addr.mk.injEq,and_true,true_and] at H;obtain ⟨rfl,rfl⟩:=H;have D:g<w.heap.size:=(ZG.1 X).1;have ha:d.size*k<=cap*k:=Nat.mul_le_mul_right k F;have A:(sortWorldK enc k w g 0 m q os).heap[g]? =some (.cells (putCells id 0 (flatK enc k q) K) e):=by unfold sortWorldK putRowK putRow mapBlock grow;rw[Array.getElem?_append_left (by simpa [Sort.ahead] using D),Xd,Zh rfl];show Option.map _ (w.heap[g]?)=_;rw[X];rfl
  refine ⟨⟨by rw[KQ enc k R];simp[I],.inr ⟨g,cap,_,rfl,Y,A,F,M,by simpa [putCells] using Q,?_⟩⟩,⟨rfl,rfl,rfl,size_sortWorldK_c enc k w g 0 m q os,λj Z S=> ?_⟩⟩
  ·apply List.ext_getElem?;intro t;rw[List.getElem?_take];by_cases J:t<d.size*k
   ·rw[Zh J,Zdu enc k R q t (by rw[I];exact J)];rw[Array.getElem?_toList];unfold putCells;rw[Array.getElem?_mapIdx,Array.getElem?_eq_getElem (by omega)];simp[I,J]
   ·rw[Ze J,List.getElem?_eq_none (by rw[KQ enc k R];simp[I];omega)]
  ·unfold sortWorldK putRowK putRow mapBlock grow;rw[Array.getElem?_append_left (by simpa [Sort.ahead] using Z),Xd,Ze (λe=>S (by rw[e]))];rfl
end
theorem Zjc {c:α->α->Int} (h:IsCmp c):SWO (ltOf c) where
 irrefl x:=by unfold ltOf;rw[h.self];rfl
 trans x y z h1 h2:=by unfold ltOf at*;simp only[Yb] at*;exact h.lt_trans x y z h1 h2
 ntrans x y z h1 h2:=by unfold ltOf at*;simp only[Jj] at*;have:=h.trans z y x (by have:=h.anti y z;omega) (by have:=h.anti x y;omega);have:=h.anti x z;omega
instance:Inhabited Ent:=⟨zeroE⟩
theorem ZkD (w:Wq):(isAgg 76).run prog w= .ok true w:=by kernel_rfl
theorem Zlb (w:Wq):(Go.sizeOf 76).run prog w= .ok 5 w:=by kernel_rfl
theorem Zij (args:Array Value) (w:Wq):(callFunc 114 args).run prog w= .ok (.enter 114 args) w:=enters_of func114 (by kernel_rfl) rfl args w
attribute [local go_sem ↓] Go.wp_at_zero Go.wp_at_succ
theorem Ga (a b:Ent) (w:Wq):
 Calls prog 114 #[.agg (eCells a).toArray,.agg (eCells b).toArray] w λx w'=>x= .returned (nI (entCmp a b))/\∃q os,w'=grow (w.drewN q) os:=by
 obtain ⟨H,R,U,M,A⟩:=a;obtain ⟨I,S,V,Q,D⟩:=b;unfold entCmp;obtain ⟨ci,J⟩:∃ci,iCmp D A=ci:=⟨_,rfl⟩;obtain ⟨cs,K⟩:∃cs,sCmp H I=cs:=⟨_,rfl⟩;simp only[J,K];have X:=gd (λw'=>I7 D A w');have Z:=gd (λw'=>VG H I w');rw[K] at Z;rw[show (if D<A then (-1:Int) else if A<D then 1 else 0)=ci from J] at X;have Y:=gd (λv w' h=>KJ ci cs v w' h);obtain ⟨res,F⟩:∃res,(if ci=0 then cs else ci)=res:=⟨_,rfl⟩;rw[F] at Y;rw[F];clear J K F;unfold eCells;go_enter func114,ntmps114;go_wp2
 go_region_held3 (λw'=>Ext w w'/\w'.cell? ⟨w.heap.size,0,none⟩=some (.string H)/\w'.cell? ⟨w.heap.size,4,none⟩=some (nI A)/\w'.cell? ⟨w.heap.size+1,0,none⟩=some (.string I)/\w'.cell? ⟨w.heap.size+1,4,none⟩=some (nI D))
  ((go_split_ands;refine ⟨?_,?_,?_,?_,?_⟩<;>first|assumption|((repeat (first|exact Ext.refl _|assumption|apply Ext.drew|apply Ext.alloc));done)|((refine Ext.trans ?_ (by assumption));(repeat (first|exact Ext.refl _|assumption|apply Ext.drew|apply Ext.alloc));done)|((refine Ext.cell (by assumption) ?_);first|assumption|(go_keep;done))|(go_keep;done)))
  (first|(go_at_call 152;refine (X.out _).mono ?_;rintro e w1 ⟨rfl,rfl⟩)|(go_at_call 119;refine (Z.out _).mono ?_;rintro e w2 ⟨rfl,rfl⟩)|(go_at_call 117;refine (Y.out _ _ (Xi (e:=3) (fr:=(0,0)) (cs:= [nI ci,nI cs]) ?hg (by rfl) (by decide))).mono ?_;(case hg=>exact X6 w _ _ _);rintro e w3 ⟨rfl,rfl⟩))
 go_wp2;go_ret;exact ⟨rfl,1,_,by rw[alloc_eq_grow,alloc_eq_grow,alloc_eq_grow,grow_grow,grow_grow];rfl⟩
theorem ZhK (v:Value) (l:List Ent) (w:Wq) (B:Nat) (h:OEnts w B v l) (hn:l.length<=1000000):
 Calls prog 113 #[v,.func (.func 114) #[] #[]] w λe w'=>e= .returned (.tuple #[])/\
  ∃l':List Ent,l'.Perm l/\l'.Pairwise (λa b=>ordE.lt b a=false)/\OEnts w' B v l'/\w.grownBy w' v.ownBlock:=by
 rcases YY l.length with H|H
 ·have J:l= []:=Zw H;subst J;obtain ⟨A,c,rfl,_,_⟩:=h.reads.form;refine (slices_SortFunc_none_f113 (α:=Ent) A c _ w).mono ?_;rintro e w' ⟨rfl,rfl⟩;exact ⟨rfl,[],List.Perm.refl _,List.Pairwise.nil,h,World.grownBy.refl _ _⟩
 ·obtain ⟨g,cap,rfl,hb,X⟩:=Zgi h H;have K:w.ownsRow B 76 5 (.slice (some ⟨g,0,none⟩) l.toArray.size cap) l.toArray.size (l.toArray.toList.map eCells).flatten:=by simpa [OEnts,flatE] using h
  have U:=slices_SortFunc_f113 5 ZkD Zlb eCells (λ_=>rfl) (λx=>XE x) entCmp (Zjc QV) 114 #[] g 0 cap l.toArray w Zij
   (λm os dk V x y=>Ga x y _) (G8 eCells 5 (λ_=>rfl) K) X (by simp;omega)
  refine U.mono ?_;rintro e w' ⟨rfl,D,n,os,S,Z,rfl⟩;have F:D.size=l.toArray.size:=S.1;have R:=QC eCells 5 (λ_=>rfl) (m:=n) (os:=os) K F;have q:D.toList.Perm l:=by
   have:=S.2.2;have J:l.length=D.toList.length:=(by simpa using F.symm);simp at this
   rwa [J,ZT (Zb _)] at this
  refine ⟨rfl,D.toList,q,?_,?_,R.2⟩
  ·rw[Y7];intro i j Y Q I;have M:=Z i j (Zk _) I (by rw[<-F];simpa using Q);rw[getElem!_pos D j (by simpa using Q),getElem!_pos D i (by simpa using Y)] at M;simpa [ltOf,ordE,ltE] using M
  ·unfold OEnts;have e1:D.toList.length=l.length:=q.length_eq;rw[e1];have:=R.1;simpa [flatE] using this
end
end Go.Proofs.YtnlafkgkcnenfaaGreatDoor
