/- Parts of the proof: contracts and plain laws. -/
import Derived.Test.YtnlafkgkcnenfaaGreatDoorS16
import Derived.Test.YtnlafkgkcnenfaaGreatDoorS22
namespace Go.Proofs.YtnlafkgkcnenfaaGreatDoor
open Go Go.RowKit Go.Sort Tryz
set_option linter.unusedVariables false
set_option linter.unusedSimpArgs false
set_option maxRecDepth 100000
set_option maxHeartbeats 16000000
def PthC (w:Wq) (g:Nat) (x:Fc):Prop:=RdC w x/\awayC x (some g)/\x.f.path.length<=16777216
instance:Inhabited Fc:=⟨⟨.slice none 0 0,.slice none 0 0,zeroF⟩⟩
instance (w:World) (g:Nat):Inhabited {x:Fc // PthC w g x}:=⟨⟨⟨.slice none 0 0,.slice none 0 0,zeroF⟩,⟨RSl.nil w 1,RSl.nil w 5⟩,⟨Or.inl rfl,Or.inl rfl⟩,Zk _⟩⟩
theorem ZkE (w:Wq):(isAgg 55).run prog w= .ok true w:=by kernel_rfl
theorem Zlc (w:Wq):(Go.sizeOf 55).run prog w= .ok 6 w:=by kernel_rfl
theorem ZgJ (args:Array Value) (w:Wq):(callFunc 70 args).run prog w= .ok (.enter 70 args) w:=enters_of func70 (by kernel_rfl) rfl args w
theorem ZhL (v:Value) (l:List Fc) (w:Wq) (B:Nat) (h:HFs w B v l) (hp:∀x∈l,x.f.path.length<=16777216) (hn:l.length<=1000000):
 Calls prog 69 #[v,.func (.func 70) #[] #[]] w λe w'=>e= .returned (.tuple #[])/\
  ∃l':List Fc,l'.Perm l/\l'.Pairwise (λa b=>ordF.lt b.f a.f=false)/\HFs w' B v l'/\w.grownBy w' v.ownBlock:=by
 rcases YY l.length with Y|Y
 ·have hl:l= []:=Zw Y;subst hl;obtain ⟨A,c,rfl,_,_⟩:=h.row.reads.form;refine (slices_SortFunc_none_f69 (α:=Fc) A c _ w).mono ?_;rintro e w' ⟨rfl,rfl⟩;exact ⟨rfl,[],List.Perm.refl _,List.Pairwise.nil,h,World.grownBy.refl _ _⟩
 ·obtain ⟨g,cap,rfl,hb,hg⟩:=Zgi h.row Y;have hP:∀x∈l,PthC w g x:=λx K=>⟨h.rd x K,h.away x K,hp x K⟩;obtain ⟨L,Z⟩:∃L:List {x:Fc // PthC w g x},L.map Subtype.val=l:=⟨l.attachWith _ hP,by simp⟩;have q:L.length=l.length:=by rw[<-Z,Zs]
  let enc:{x:Fc // PthC w g x}->List Value:=λs=>cellsC s.1
  have S:∀M:List {x:Fc // PthC w g x},(M.map enc).flatten=flatC (M.map Subtype.val):=λM=>by unfold flatC;rw[ZeL];rfl
  have X:w.ownsRow B 55 6 (.slice (some ⟨g,0,none⟩) L.toArray.size cap) L.toArray.size (L.toArray.toList.map enc).flatten:=by rw[List.toList_toArray,S,Z,List.size_toArray,q];exact h.row
  let V:{x:Fc // PthC w g x}->{x:Fc // PthC w g x}->Int:=λs t=>feedCmp s.1.f t.1.f
  have ha:IsCmp V:=VN.comap λs:{x:Fc // PthC w g x}=>s.1.f;have Q:∀(m:Nat) (os:Array Obj) (R:Array {x:Fc // PthC w g x}),R.size=L.toArray.size->∀s:{x:Fc // PthC w g x},RdC (sortWorldK enc 6 w g 0 m R os) s.1:=λm os R F s=>
   s.2.1.grown (QC enc 6 (λ_=>rfl) (m:=m) (os:=os) X F).2 s.2.2.1
  have hc:=slices_SortFunc_f69 6 ZkE Zlc enc (λ_=>rfl) (λs=>Jv s.2.1.sl) V (Zjc ha) 70 #[] g 0 cap L.toArray w ZgJ
   (λm os R F x y=>U1 x.1 y.1 _ x.2.1.sl.2 y.2.1.sl.2 (Q m os R F x).1 (Q m os R F y).1 x.2.2.2) (G8 enc 6 (λ_=>rfl) X) hg (by rw[List.size_toArray,q];omega)
  rw[List.size_toArray,q] at hc;refine hc.mono ?_;rintro e w' ⟨rfl,D,n,os,U,hs,rfl⟩;have H:D.size=L.toArray.size:=U.1;have ho:=QC enc 6 (λ_=>rfl) (m:=n) (os:=os) X H;have I:D.toList.Perm L:=by
   have:=U.2.2;have hl:L.length=D.toList.length:=(by simpa using H.symm);rw[<-q] at this;simp at this
   rwa [hl,ZT (Zb _)] at this
  have J:(D.toList.map Subtype.val).Perm l:=by rw[<-Z];exact I.map _
  refine ⟨rfl,D.toList.map Subtype.val,J,?_,⟨?_,?_,?_⟩,ho.2⟩
  ·rw[List.pairwise_map,Y7];intro i j hi hj hd;have h1:=hs i j (Zk _) hd (by rw[<-q,<-List.size_toArray,<-H];simpa using hj);rw[getElem!_pos D j (by simpa using hj),getElem!_pos D i (by simpa using hi)] at h1;simpa [ltOf,ordF,ltF,V] using h1
  ·unfold OFcs;have e1:(D.toList.map Subtype.val).length=l.length:=J.length_eq;rw[e1];have:=ho.1;rw[S,List.size_toArray,q] at this;exact this
  ·intro x K;obtain ⟨s,_,rfl⟩:=Z3.1 K;exact Q n os D H s
  ·intro x K;exact h.away x (J.mem_iff.1 K)
end Go.Proofs.YtnlafkgkcnenfaaGreatDoor
