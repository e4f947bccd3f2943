/- Parts of the proof: contracts and plain laws. -/
import Derived.Test.YtnlafkgkcnenfaaGreatDoorT15
import Derived.Test.YtnlafkgkcnenfaaGreatDoorT21
namespace Go.Proofs.YtnlafkgkcnenfaaGreatDoor
open Go Go.RowKit Go.Sort Tryz
set_option linter.unusedVariables false
set_option linter.unusedSimpArgs false
set_option linter.unusedSimpArgs false
set_option maxRecDepth 100000
set_option maxHeartbeats 16000000
def PthC (w:Wq) (g:Nat) (x:Fc):Prop:=RdC w x/\awayC x (some g)/\x.f.path.length<=16777216
instance:Inhabited Fc:=⟨⟨.slice none 0 0,.slice none 0 0,zeroF⟩⟩
instance (w:World) (g:Nat):Inhabited {x:Fc // PthC w g x}:=⟨⟨⟨.slice none 0 0,.slice none 0 0,zeroF⟩,⟨RSl.nil w 1,RSl.nil w 5⟩,⟨Or.inl rfl,Or.inl rfl⟩,Zh _⟩⟩
theorem Zna (w:Wq):(isAgg 55).run prog w= .ok true w:=by kernel_rfl
theorem ZnJ (w:Wq):(Go.sizeOf 55).run prog w= .ok 6 w:=by kernel_rfl
theorem ZiV (args:Array Value) (w:Wq):(callFunc 70 args).run prog w= .ok (.enter 70 args) w:=enters_of func70 (by kernel_rfl) rfl args w
theorem Zkc (v:Value) (l:List Fc) (w:Wq) (B:Nat) (h:HFs w B v l) (hp:∀x∈l,x.f.path.length<=16777216) (hn:l.length<=1000000):
 Calls prog 69 #[v,.func (.func 70) #[] #[]] w λe w'=>e= .returned (.tuple #[])/\
  ∃l':List Fc,l'.Perm l/\l'.Pairwise (λa b=>ordF.lt b.f a.f=false)/\HFs w' B v l'/\w.grownBy w' v.ownBlock:=by
 rcases YO l.length with Z|Z
 ·have hl:l= []:=Zr Z;subst hl;obtain ⟨A,c,rfl,_,_⟩:=h.row.reads.form;refine (slices_SortFunc_none_f69 (α:=Fc) A c _ w).mono ?_;rintro e w' ⟨rfl,rfl⟩;exact ⟨rfl,[],List.Perm.refl _,List.Pairwise.nil,h,World.grownBy.refl _ _⟩
 ·obtain ⟨g,cap,rfl,hb,hg⟩:=Zip h.row Z;have hP:∀x∈l,PthC w g x:=λx Q=>⟨h.rd x Q,h.away x Q,hp x Q⟩;obtain ⟨L,hL⟩:∃L:List {x:Fc // PthC w g x},L.map Subtype.val=l:=⟨l.attachWith _ hP,by simp⟩;have D:L.length=l.length:=by rw[<-hL,Zm]
  let enc:{x:Fc // PthC w g x}->List Value:=λs=>cellsC s.1
  have U:∀M:List {x:Fc // PthC w g x},(M.map enc).flatten=flatC (M.map Subtype.val):=λM=>by unfold flatC;rw[X1];rfl
  have Y:w.ownsRow B 55 6 (.slice (some ⟨g,0,none⟩) L.toArray.size cap) L.toArray.size (L.toArray.toList.map enc).flatten:=by rw[List.toList_toArray,U,hL,List.size_toArray,D];exact h.row
  let X:{x:Fc // PthC w g x}->{x:Fc // PthC w g x}->Int:=λs t=>feedCmp s.1.f t.1.f
  have ha:IsCmp X:=V6.comap λs:{x:Fc // PthC w g x}=>s.1.f;have R:∀(m:Nat) (os:Array Obj) (S:Array {x:Fc // PthC w g x}),S.size=L.toArray.size->∀s:{x:Fc // PthC w g x},RdC (sortWorldK enc 6 w g 0 m S os) s.1:=λm os S H s=>
   s.2.1.grown (QS enc 6 (λ_=>rfl) (m:=m) (os:=os) Y H).2 s.2.2.1
  have hc:=slices_SortFunc_f69 6 Zna ZnJ enc (λ_=>rfl) (λs=>Jd s.2.1.sl) X (ZlJ ha) 70 #[] g 0 cap L.toArray w ZiV
   (λm os S H x y=>Vb x.1 y.1 _ x.2.1.sl.2 y.2.1.sl.2 (R m os S H x).1 (R m os S H y).1 x.2.2.2) (KP enc 6 (λ_=>rfl) Y) hg (by rw[List.size_toArray,D];omega)
  rw[List.size_toArray,D] at hc;refine hc.mono ?_;rintro e w' ⟨rfl,F,n,os,V,hs,rfl⟩;have I:F.size=L.toArray.size:=V.1;have ho:=QS enc 6 (λ_=>rfl) (m:=n) (os:=os) Y I;have J:F.toList.Perm L:=by
   have:=V.2.2;have hl:L.length=F.toList.length:=(by simpa using I.symm);rw[<-D] at this;simp at this
   rwa [hl,ZR (Zb _)] at this
  have K:(F.toList.map Subtype.val).Perm l:=by rw[<-hL];exact J.map _
  refine ⟨rfl,F.toList.map Subtype.val,K,?_,⟨?_,?_,?_⟩,ho.2⟩
  ·rw[List.pairwise_map,Y9];intro i j hi hj hd;have h1:=hs i j (Zh _) hd (by rw[<-D,<-List.size_toArray,<-I];simpa using hj);rw[getElem!_pos F j (by simpa using hj),getElem!_pos F i (by simpa using hi)] at h1;simpa [ltOf,ordF,ltF,X] using h1
  ·unfold OFcs;have e1:(F.toList.map Subtype.val).length=l.length:=K.length_eq;rw[e1];have:=ho.1;rw[U,List.size_toArray,D] at this;exact this
  ·intro x Q;obtain ⟨s,_,rfl⟩:=ZS.1 Q;exact R n os F I s
  ·intro x Q;exact h.away x (K.mem_iff.1 Q)
end Go.Proofs.YtnlafkgkcnenfaaGreatDoor
