/- Parts of the proof: contracts and plain laws. -/
import Derived.Test.YtnlafkgkcnenfaaGreatDoorU12
namespace Go.Proofs.YtnlafkgkcnenfaaGreatDoor
open Go Go.RowKit _root_.Go.Proofs.Tryz
set_option linter.unusedVariables false
set_option linter.unusedSimpArgs false
set_option maxRecDepth 100000
set_option maxHeartbeats 16000000
section
variable {a:Act} {d i k n:Nat} {o:Oper} {v:Value} {w w':World}
def lstOf (n:Nat) (base:Array Bool) (done:List Nat):Array Bool:=Array.ofFn (n:=n) λj=>base.getD j.val false||done.contains j.val
def actOf (a0:Act) (hs:List Nat) (dst:Nat->Nat) (done:List Nat) (vs:Nat->Value):Act:=
 {a0 with tmps:=Array.ofFn (n:=a0.tmps.size) λk=>match hs.find? (λi=>dst i==k.val && done.contains i) with|some i=>vs i|none=>a0.tmps.getD k.val undef}
def upd (vs:Nat->Value) (i:Nat) (v:Value):Nat->Value:=λj=>if j=i then v else vs j
def subs:List Nat->List (List Nat)
 | []=> [[]]
 |x::t=>subs t++(subs t).map (x:: ·)
theorem ZaG (p:Nat->Bool):∀h:List Nat,h.filter p∈subs h
 | []=>by simp[subs]
 |x::t=>by
  have ih:=ZaG p t
  rw[subs,Zs,List.filter_cons]
  split
  ·exact Or.inr (ZU.2 ⟨_,ih,rfl⟩)
  ·exact Or.inl ih
theorem Zeo {base:Array Bool} {d e:List Nat} (h:∀j,d.contains j=e.contains j):lstOf n base d=lstOf n base e:=by
 unfold lstOf
 congr 1
 funext j;rw[h]
theorem ZoC {base:Array Bool} {done:List Nat} (H:i<n):(lstOf n base done).setIfInBounds i true=lstOf n base (i::done):=by
 apply Array.ext
 ·simp[lstOf]
 ·intro k D F;simp only[lstOf,Array.size_setIfInBounds,Array.size_ofFn] at D F;rw[Array.getElem_setIfInBounds (by simpa [lstOf] using D)];simp only[lstOf,Array.getElem_ofFn];by_cases h:i=k
  ·subst h;simp
  ·have A:¬k=i:=λe=>h e.symm;simp[h,A]
theorem Zgw {A:List Nat} {p:Nat->Bool} (D:i∈A) (F:p i=true) (H:∀j∈A,p j=true->j=i):A.find? p=some i:=by
 cases h:A.find? p with
 |none=>exact absurd F (by simpa using List.find?_eq_none.1 h i D)
 |some j=>rw[H j (List.mem_of_find?_eq_some h) (List.find?_some h)]
theorem Ey {p q:Nat->Bool}:∀{A:List Nat},(∀j∈A,p j=q j)->A.find? p=A.find? q
 | [],_=>rfl
 |x::t,h=>by rw[List.find?_cons,List.find?_cons,h x Zx,Ey λj D=>h j (Zn _ D)]
section
variable {a0:Act} {hs:List Nat} {dst:Nat→Nat} {done:List Nat} {vs:Nat→Value} {i k:Nat} {v:Value}
theorem Zod (D:∀i∈hs,∀j∈hs,dst i=dst j->i=j) (I:i∈hs):(actOf a0 hs dst done vs).put (some (dst i)) v=actOf a0 hs dst (i::done) (upd vs i v):=by
 unfold actOf Act.put;simp only
 congr 1
 apply Array.ext
 ·simp
 ·intro k H K;simp only[Array.size_setIfInBounds,Array.size_ofFn] at H K;rw[Array.getElem_setIfInBounds (by simpa using H)];simp only[Array.getElem_ofFn];by_cases A:dst i=k
  ·rw[Zi A,Zgw (i:=i) I (by simp[A]) (λj J F=>by
    simp only[ZG,JI] at F;exact D j J i I (F.1.trans A.symm))]
   simp[upd]
  ·rw[Ze A];have hc:hs.find? (λj=>dst j==k && (i::done).contains j)=hs.find? (λj=>dst j==k && done.contains j):=Ey λj J=>by
    by_cases h:dst j=k
    ·have:j≠i:=λe=>A (by rw[<-e];exact h);simp[h,this]
    ·have Q:(dst j==k)=false:=(by simpa using h);rw[Q,Yk,Yk]
   rw[hc];cases hf:hs.find? (λj=>dst j==k && done.contains j) with
   |none=>rfl
   |some j=>have F:=List.find?_some hf;simp only[ZG,JI] at F;have:j≠i:=λe=>A (by rw[<-e];exact F.1);simp[upd,this]
theorem Zoc (F:∀j∈hs,dst j≠k):(actOf a0 hs dst done vs).eval (.tmp k)=a0.eval (.tmp k):=by
 show (actOf a0 hs dst done vs).tmps.getD k undef=a0.tmps.getD k undef;unfold actOf;simp only;rw[JO,JO];by_cases h:k<a0.tmps.size
 ·rw[Array.getElem?_eq_getElem (by simpa using h),Array.getElem_ofFn];have A:hs.find? (λi=>dst i==k && done.contains i)=none:=List.find?_eq_none.2 λj D=>by have:=F j D;simp[this]
  simp only[A];rw[JO];rfl
 ·rw[Y3 (by simpa using h),Y3 om]
theorem Zoa (h:∀i∈hs,∀j∈hs,dst i=dst j->i=j) (D:i∈hs) (H:i∈done) (A:dst i<a0.tmps.size):(actOf a0 hs dst done vs).eval (.tmp (dst i))=vs i:=by
 show (actOf a0 hs dst done vs).tmps.getD (dst i) undef=vs i;unfold actOf;simp only;rw[JO,Array.getElem?_eq_getElem (by simpa using A),Array.getElem_ofFn,Zgw (i:=i) D (by simp[H]) (λj I F=>by
  simp only[ZG,JI] at F;exact h j I i D F.1)]
 rfl
theorem Zob:actOf a0 hs dst [] vs=a0:=by
 unfold actOf;cases a0 with
 |mk t d=>
  congr 1
  apply Array.ext
  ·simp
  ·intro k D h;simp only[Array.getElem_ofFn];have A:hs.find? (λi=>dst i==k && ([]:List Nat).contains i)=none:=List.find?_eq_none.2 λj _=>(by simp);simp only[A];rw[JO,Array.getElem?_eq_getElem h];rfl
end
theorem J2 {A:Act} (h:A.eval (.tmp k)=v):A.tmps[k]?.getD undef=v:=by
 rw[<-JO];exact h
theorem ZaF {p:Nat->Bool} {i:Nat} (H:p i=true):∀{A:List Nat},A.Nodup->i∈A->(A.filter λj=>p j && !(j==i)).length+1=(A.filter p).length
 |x::t,hn,hi=>by
  rw[List.nodup_cons] at hn
  rw[List.filter_cons,List.filter_cons]
  by_cases F:x=i
  ·subst F
   have J:t.filter (λj=>p j && !(j==x))=t.filter p:=List.filter_congr λj K=>by
    have:j≠x:=λe=>hn.1 (e▸K)
    simp[this]
   rw[J,H]
   simp
  ·have D:i∈t:=by
    rcases ZH.1 hi with h|h
    ·exact absurd h.symm F
    ·exact h
   have ih:=ZaF H hn.2 D
   have I:(x==i)=false:=(by simpa using F)
   rw[I]
   simp only[Bool.not_false,ZqD]
   split<;>(try simp only[Zd])<;>omega
section
variable {P:Program} {md:Region.Mode} {Q:Exit→Act→World→Prop} {S:World→Prop} {T:Array Bool→Act→World→Prop}
def relOk (md:Region.Mode) (l:List Oper) (base:Array Bool) (hs:List Nat) (D:Nat->List Nat):Bool:=
 (subs hs).all λd=>d.length==hs.length||(!(Region.ready md l.toArray (lstOf l.length base d)).isEmpty && (Region.ready md l.toArray (lstOf l.length base d)).all λi=>hs.contains i && !d.contains i && (D i).all d.contains)
theorem ZjF {l:List Oper} {H:List Nat} {dst:Nat->Nat} {D:Nat->List Nat} {F:Nat->Value->Wq->Prop} {base:Array Bool} {a0:Act} {W0:Wq} (ho:H.Nodup)
 (X:∀i∈H,∀j∈H,dst i=dst j->i=j) (hr:∀i∈H,dst i<a0.tmps.size) (hn:∀i∈H,i<l.length) (hp:relOk md l base H D=true)
 (hF:∀i∈H,∀v w w',F i v w->Ext w w'->F i v w') (hS:∀w',Ext W0 w'->S w')
 (hq:∀i∈H,∀(A:Act) (w':Wq) (vs:Nat->Value),Ext W0 w'->(∀k,(∀j∈H,dst j≠k)->A.eval (.tmp k)=a0.eval (.tmp k))->(∀j∈D i,A.eval (.tmp (dst j))=vs j/\F j (vs j) w')->
  wpOp P l.toArray Q i (λa2 w2=>∃v,a2=A.put (some (dst i)) v/\Ext w' w2/\F i v w2) A w')
 (hb:∀vs w',Ext W0 w'->(∀i∈H,F i (vs i) w')->T (lstOf l.length base H) (actOf a0 H dst H vs) w'):
 ∀(f:Nat) (done:List Nat) (vs:Nat->Value) (w':Wq),(∀i∈done,i∈H)->f=(H.filter λj=> !done.contains j).length->Ext W0 w'->(∀i∈done,F i (vs i) w')->
  wpAnyC P md l.toArray Q S T f (lstOf l.length base done) (actOf a0 H dst done vs) w':=by
 intro f
 induction f with
 |zero=>
  intro done vs w' I hf hx R;have V:∀i∈H,i∈done:=λi hi=>by have h0:=Zm hf.symm;have:=(List.filter_eq_nil_iff.1 h0) i hi;simpa using this
  have hc:∀j,done.contains j=H.contains j:=λj=>by rw[Y2,Xw,Xw];exact ⟨I j,V j⟩
  show T _ _ _;have ha:actOf a0 H dst done vs=actOf a0 H dst H vs:=by
   unfold actOf
   congr 1
   congr 1
   funext k;rw[Ey (p:=λi=>dst i==k.val && done.contains i) (q:=λi=>dst i==k.val && H.contains i) λj _=>by rw[hc]]
  rw[Zeo hc,ha];exact hb vs w' hx λi hi=>R i (V i hi)
 |succ f ih=>
  intro done vs w' I hf hx R;obtain ⟨d,hd⟩:∃d,H.filter (λj=>done.contains j)=d:=⟨_,rfl⟩;have U:∀j,j∈d↔j∈done:=λj=>by rw[<-hd,YW,Xw];exact ⟨λh=>h.2,λh=>⟨I j h,h⟩⟩
  have hc:∀j,done.contains j=d.contains j:=λj=>by rw[Y2,Xw,Xw];exact (U j).symm
  have hh:¬d.length=H.length:=λe=>by have h1:d=H:=(by rw[<-hd] at e|-;exact (List.filter_sublist).eq_of_length e);have h2:(H.filter λj=> !done.contains j)= []:=List.filter_eq_nil_iff.2 λj J=>(by have:j∈done:=(U j).1 (h1▸J);simp[this]);rw[h2] at hf;cases hf
  have hk:=Z6.1 hp d (by rw[<-hd];exact ZaG _ H);simp only[Ik,ZG,JI,hh,false_or] at hk;rw[<-Zeo hc] at hk;refine ⟨λh=>(by rw[h] at hk;exact absurd hk.1 (by simp)),λi hi=> ?_⟩;have hg:=Z6.1 hk.2 i hi;simp only[ZG,Jl] at hg;obtain ⟨⟨h1,h2⟩,h3⟩:=hg;have K:i∈H:=Xw.1 h1;have hl:i ∉ done:=λh=>by have:=Xw.2 ((U i).2 h);rw[this] at h2;cases h2
  have hD:∀j∈D i,j∈done:=λj J=>(U j).1 (Xw.1 (Z6.1 h3 j J));refine J3 (λa2 w2 h=> ?_) (hq i K (actOf a0 H dst done vs) w' vs hx (λk hm=>Zoc hm) (λj J=>⟨Zoa X (I j (hD j J)) (hD j J) (hr j (I j (hD j J))),R j (hD j J)⟩));obtain ⟨v,rfl,Z,hv⟩:=h;refine ⟨hS w2 (hx.trans Z),?_⟩;rw[Zod X K,ZoC (hn i K)];refine ih (i::done) (upd vs i v) w2 (λj J=> ?_) ?_ (hx.trans Z) (λj J=> ?_)
  ·rcases ZH.1 J with rfl|J
   ·exact K
   ·exact I j J
  ·have h4:=ZaF (p:=λj=> !done.contains j) (i:=i) (by simpa using hl) ho K;have h5:(H.filter λj=> !(i::done).contains j)=H.filter λj=> !done.contains j && !(j==i):=List.filter_congr λj _=>(by rw[List.contains_cons,Bool.not_or,Bool.and_comm]);rw[h5];omega
  ·by_cases Y:j=i
   ·subst Y;simpa [upd] using hv
   ·have he:j∈done:=(ZH.1 J).resolve_left Y;have:=hF j (I j he) _ _ _ (R j he) Z;simpa [upd,Y] using this
theorem QX {l:List Oper} {listed:Array Bool} {f:Nat} (H:List Nat) (dst:Nat->Nat) (D:Nat->List Nat) (F:Nat->Value->Wq->Prop) (hf:f=H.length) (Z:lstOf l.length listed []=listed) (R:H.Nodup)
 (K:∀i∈H,∀j∈H,dst i=dst j->i=j) (X:(H.all λi=>decide (dst i<a.tmps.size))=true) (hn:∀i∈H,i<l.length) (U:relOk md l listed H D=true)
 (Y:∀i∈H,∀v w w',F i v w->Ext w w'->F i v w') (hS:∀w',Ext w w'->S w')
 (V:∀i∈H,∀(A:Act) (w':Wq) (vs:Nat->Value),Ext w w'->(∀k,(∀j∈H,dst j≠k)->A.eval (.tmp k)=a.eval (.tmp k))->(∀j∈D i,A.eval (.tmp (dst j))=vs j/\F j (vs j) w')->
  wpOp P l.toArray Q i (λa2 w2=>∃v,a2=A.put (some (dst i)) v/\Ext w' w2/\F i v w2) A w')
 (I:∀vs w',Ext w w'->(∀i∈H,F i (vs i) w')->T (lstOf l.length listed H) (actOf a H dst H vs) w'):wpAnyC P md l.toArray Q S T f listed a w:=by
 have h:=ZjF (T:=T) (base:=listed) (a0:=a) (W0:=w) R K (λi J=>YK (Z6.1 X i J)) hn U Y hS V I f [] (λ_=>undef) w (by intro i J;cases J) (by rw[hf];exact (Zz List.length (List.filter_eq_self.2 λj _=>rfl)).symm) (Ext.refl w) (by intro i J;cases J);rw[Zob,Z] at h;exact h
theorem VR {l:List Oper} {A:Act} {F:Value->Wq->Prop} (S:l[i]? =some o) (U:o.dst=some d)
 (h:∀K:Act->Wq->Prop,(∀v w2,Ext w' w2->F v w2->K (A.put (some d) v) w2)->if Region.wanted o (yielded l.toArray A.tmps) then Oper.wp P o A w' K Q else K (A.put o.dst undef) w'):
 wpOp P l.toArray Q i (λa2 w2=>∃v,a2=A.put (some d) v/\Ext w' w2/\F v w2) A w':=by
 have H:l.toArray[i]? =some o:=by rw[Yj];exact S
 have D:=h (λa2 w2=>∃v,a2=A.put (some d) v/\Ext w' w2/\F v w2) λv w2 J R=>⟨v,rfl,J,R⟩;unfold wpOp;simp only[H];split
 ·rename_i I;rw[Zi I] at D;exact Or.inl D
 ·rename_i I;rw[Ze I] at D;exact D
end
end
end Go.Proofs.YtnlafkgkcnenfaaGreatDoor
