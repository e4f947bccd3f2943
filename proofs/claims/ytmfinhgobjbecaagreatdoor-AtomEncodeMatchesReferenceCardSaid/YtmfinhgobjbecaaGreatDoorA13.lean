/- Parts of the proof: contracts and plain laws. -/
import Derived.Test.YtmfinhgobjbecaaGreatDoorA10
import Derived.Test.YtmfinhgobjbecaaGreatDoorA12
namespace Go.Proofs.YtmfinhgobjbecaaGreatDoor
open Go Go.RowKit _root_.Go.Proofs.Tryz
set_option linter.unusedVariables false
set_option linter.unusedSimpArgs false
set_option maxRecDepth 100000
set_option maxHeartbeats 16000000
section
theorem Zmi (g n:Nat):(⟨g,0,none⟩:Addr).add n=⟨g,n,none⟩:=by
 unfold Addr.add;split
 ·rename_i h;rw[h]
 ·simp
theorem ZpR {w:Wq} {base size n c:Nat} {a:Addr} {e:TypeId} {xs:List Value} (h:w.ownsRow base e size (.slice (some a) n c) n xs):∃g A,a=⟨g,0,none⟩/\base<=g/\w.heap[g]? =some (.cells A e (0,0)):=by
 obtain ⟨I,C⟩:=h;rcases C with ⟨C,_⟩|⟨g,cap,A,H,D,F,_⟩
 ·cases C
 ·injection H with hv1 hv2 hv3;injection hv1 with hv1;exact ⟨g,A,hv1,D,F⟩
theorem ZoZ {w:Wq} {base size n g c j:Nat} {e:TypeId} {xs:List Value} (h:w.ownsRow base e size (.slice (some ⟨g,0,none⟩) n c) n xs) (S:j<n*size) (u:Value):(w.setCell ⟨g,j,none⟩ u).ownsRow base e size (.slice (some ⟨g,0,none⟩) n c) n (xs.set j u):=by
 obtain ⟨D,C⟩:=h;refine ⟨by rw[ZsA];exact D,?_⟩;rcases C with ⟨C,_⟩|⟨g',cap,A,R,F,H,J,I,O,Q⟩
 ·cases C
 ·injection R with hv1 hv2 hv3;injection hv1 with hv1;injection hv1 with hv1 _ _;subst hv1;subst hv3;refine Or.inr ⟨g,c,A.setIfInBounds j u,rfl,F,Zrh w g j _ _ _ H,J,I,by simpa using O,?_⟩;rw[Array.toList_setIfInBounds,List.take_set,Q]
theorem ZkW {l:List Nc} {k:Nat} (A:k<l.length) (y:Nc) (u:Value) (h:(cellsN l[k]).set 5 u=cellsN y):(flatN l).set (k*7+5) u=flatN (l.set k y):=by
 induction l generalizing k with
 |nil=>simp at A
 |cons x t ih=>
  cases k with
  |zero=>have C:5<(cellsN x).length:=(by rw[Kg];decide);show (cellsN x++flatN t).set (0*7+5) u=cellsN y++flatN t;rw[Zsl,ZrH,List.set_append_left _ _ C];exact ZqS (· ++flatN t) h
  |succ k=>show (cellsN x++flatN t).set ((k+1)*7+5) u=cellsN x++flatN (t.set k y);have D:=Kg x;rw[List.set_append_right _ _ om,D,show (k+1)*7+5 - 7=k*7+5 by omega,ih (by simpa using A) h]
def BxP (w:Wq) (g:Nat) (lv:Value) (i a e:Nat):Prop:=w.heap[g]? =some (.cells #[lv,nI (i:Nat),nI (a:Nat),nI (e:Nat)] 108 (0,0))
section
variable {w w':World} {g i a e:Nat} {lv:Value}
theorem BxP.ext (h:BxP w g lv i a e) (A:Ext w w'):BxP w' g lv i a e:=A.heap h
theorem BxP.other {g' j:Nat} {v:Value} (h:BxP w g lv i a e) (A:g≠g'):BxP (w.setCell ⟨g',j,none⟩ v) g lv i a e:=(ZrN w ⟨g',j,none⟩ g v A).trans h
theorem BxP.cells (h:BxP w g lv i a e):w.cell? ⟨g,0,none⟩=some lv/\w.cell? ⟨g,1,none⟩=some (nI (i:Nat))/\w.cell? ⟨g,2,none⟩=some (nI (a:Nat))/\w.cell? ⟨g,3,none⟩=some (nI (e:Nat)):=by
 refine ⟨?_,?_,?_,?_⟩<;>(rw[ZqI _ _ _ _ _ _ h];rfl)
theorem BxP.frozen (h:BxP w g lv i a e):w.frozen? ⟨g,1,none⟩=false/\w.frozen? ⟨g,2,none⟩=false/\w.frozen? ⟨g,3,none⟩=false:=⟨Zrk h 1,Zrk h 2,Zrk h 3⟩
theorem BxP.next (h:BxP w g lv i a e) (j:Nat):BxP (w.setCell ⟨g,1,none⟩ (nI (j:Nat))) g lv j a e:=Zrh w g 1 _ _ _ h
theorem BxP.at_ (h:BxP w g lv i a e) (j:Nat):BxP (w.setCell ⟨g,2,none⟩ (nI (j:Nat))) g lv i j e:=Zrh w g 2 _ _ _ h
theorem BxP.code (h:BxP w g lv i a e) (j:Nat):BxP (w.setCell ⟨g,3,none⟩ (nI (j:Nat))) g lv i a j:=Zrh w g 3 _ _ _ h
theorem BxP.lt (h:BxP w g lv i a e):g<w.heap.size:=(Zrg.1 h).1
end
section
variable {a b c:World} {r r':Option Nat} {g:Nat}
theorem XP (h:a.grownBy b r) {g:Nat} (D:a.heap.size<=g) (cs:Array Value):a.grownBy (b.setRow g cs) r:=
 ⟨h.os,h.tape,h.output,by have:=h.size;simpa [World.setRow] using this,λk C A=>(Zrn b g k cs om).trans (h.block k C A)⟩
theorem Kt (h:a.grownBy b r) {g:Nat} (D:a.heap.size<=g) (i:Nat) (v:Value):a.grownBy (b.setCell ⟨g,i,none⟩ v) r:=
 ⟨h.os,h.tape,h.output,by have:=h.size;simpa [World.setCell] using this,λk C A=>(ZrN b ⟨g,i,none⟩ k v (by show k≠g;omega)).trans (h.block k C A)⟩
theorem U7 (h:a.grownBy b (some g)) (i:Nat) (v:Value):a.grownBy (b.setCell ⟨g,i,none⟩ v) (some g):=h.trans (ZY b ⟨g,i,none⟩ v)
theorem YV (h:a.grownBy b r) (A:Ext b c):a.grownBy c r:=h.trans (A.grown r)
end
def zeroN:Array Value:=#[nI 0,eS,eS,sN,sN,eS,nI 0]
theorem X8:(#[Value.int .i64 0,eS,eS,sN,sN,eS,nI 0]).all (λu=>u.oneCell')=true:=by simp[Value.oneCell']
theorem Zok (w:Wq):BxN (w.alloc (.cells zeroN 25)) w.heap.size 0 [] [] sN sN [] 0:=ZqJ w _
theorem Qt (G:Nat) (lv:Value) (i a0 V y c:Nat) (w:Wq) (h:BxP w G lv i a0 V):
 Calls prog 104 #[.pointer (some ⟨G,0,none⟩),nI (y:Nat),nI (c:Nat)] w λe w'=>e= .returned (.agg #[nI ((0:Nat):Int),.string (str []),.string (str []),sN,sN,.string (str []),nI ((0:Nat):Int)])/\BxP w' G lv i y c/\w.grownBy w' (some G):=by
 have hl:=h.lt;have C:=((Ext.refl w).alloc (.cells zeroN 25)).grown (some G);have H:=h.ext ((Ext.refl w).alloc (.cells zeroN 25));have U:=Zok w;unfold zeroN at*;obtain ⟨W0,I⟩:∃W0,w.alloc (.cells #[nI 0,eS,eS,sN,sN,eS,nI 0] 25)=W0:=⟨_,rfl⟩;rw[I] at C H U;obtain ⟨b0,b1,b2,b3⟩:=H.cells;obtain ⟨Y,Z,f3⟩:=H.frozen;have X:=H.at_ y;have S:=X.code c;have F:G≠w.heap.size:=om
 have A:BxN ((W0.setCell ⟨G,2,none⟩ (nI (y:Nat))).setCell ⟨G,3,none⟩ (nI (c:Nat))) w.heap.size 0 [] [] sN sN [] 0:=(U.other om).other om;obtain ⟨R,O⟩:∃g,w.heap.size=g:=⟨_,rfl⟩;rw[O] at A F;obtain ⟨Q,J⟩:∃Q,(W0.setCell ⟨G,2,none⟩ (nI (y:Nat))).setCell ⟨G,3,none⟩ (nI (c:Nat))=Q:=⟨_,rfl⟩;have D:=U7 (U7 C 2 (nI (y:Nat))) 3 (nI (c:Nat));rw[J] at A S D;go_enter func104,ntmps104
 go_wp2_with (first|(refine ZqF rfl 25 (.tmp 6) (.tmp 15) rfl R #[nI 0,eS,eS,sN,sN,eS,nI 0] rfl rfl _ _ A Ze rfl X8 ?_))
 ((try simp only[Exit.inBlock,Exit.then]);refine ZqT (ZrO rfl _ _ _ _ _ _ _ rfl (ZqV _ _ _ _ _ _ A) underlying25 rfl Ze) rfl ?_);exact ⟨rfl,(Zrn _ R G _ F).trans S,XP D om _⟩
end
theorem ZdF {P:Program} {ops:Array Oper} {o:Oper} {a:Act} {w:Wq} {K:Act->Wq->Prop} {Q:Exit->Act->Wq->Prop} {E:Prop} (F:o.guard=none) (ty:TypeId) (x y:Operand) (R:o.op= .store ty x y)
 (g A:Nat) (cells:Array Value) (X:a.eval x= .pointer (some ⟨g,A,none⟩)) (Y:a.eval y= .agg cells)
 (H:(P.info? ty).map (·.size)=some cells.size) (J:∀j,j<cells.size->(w.cell? ⟨g,A+j,none⟩).isSome=true) (O:∀j,w.frozen? ⟨g,j,none⟩=false) (I:cells.all (·.oneCell')=true)
 (h:K (a.put o.dst undef) (w.setCells g A cells.toList)):if Region.wanted o (yielded ops a.tmps)=true then Oper.wp P o a w K Q else E:=by
 have V:Region.wanted o (yielded ops a.tmps)=true:=by simp[Region.wanted,F]
 rw[ZqN V];have D:=run_storeCells_cells (P:=P) g A cells.toList 0 w (by simpa using J) (λj _=>O _) (λv U=>(Array.all_eq_true_iff_forall_mem.1 I) v (by simpa using U));have C:(storeVar ty ⟨g,A,none⟩ (.agg cells)).run P w= .ok () (w.setCells g A cells.toList):=by
  cases hq:P.info? ty with
  |none=>simp[hq] at H
  |some i=>have S:cells.size=i.size:=(by simp[hq] at H;omega);simp only[Nat.add_zero] at D;simp[storeVar,sizeOf,typeInfo,hq,Value.cells,S,D]
 unfold Oper.wp execOp;simp only[R,X,Y,Instr.storeAt,Instr.sureAddr,Sem.run_bind,Sem.run_pure,Result.andThen_ok,C];exact h
section
def lstOf (n:Nat) (base:Array Bool) (done:List Nat):Array Bool:=Array.ofFn (n:=n) λj=>base.getD j.val false||done.contains j.val
def actOf (a0:Act) (hs:List Nat) (dst:Nat->Nat) (done:List Nat) (vs:Nat->Value):Act:=
 {a0 with tmps:=Array.ofFn (n:=a0.tmps.size) λk=>match hs.find? (λi=>dst i==k.val && done.contains i) with|some i=>vs i|none=>a0.tmps.getD k.val undef}
def upd (vs:Nat->Value) (i:Nat) (v:Value):Nat->Value:=λj=>if j=i then v else vs j
def subs:List Nat->List (List Nat)
 | []=> [[]]
 |x::t=>subs t++(subs t).map (x:: ·)
theorem ZaL (p:Nat->Bool):∀h:List Nat,h.filter p∈subs h
 | []=>by simp[subs]
 |x::t=>by
  have ih:=ZaL p t
  rw[subs,Zq0,List.filter_cons]
  split
  ·exact Or.inr (Zrr.2 ⟨_,ih,rfl⟩)
  ·exact Or.inl ih
theorem Zel {n:Nat} {base:Array Bool} {d e:List Nat} (h:∀j,d.contains j=e.contains j):lstOf n base d=lstOf n base e:=by
 unfold lstOf
 congr 1
 funext j;rw[h]
theorem ZoP {n:Nat} {base:Array Bool} {done:List Nat} {i:Nat} (F:i<n):(lstOf n base done).setIfInBounds i true=lstOf n base (i::done):=by
 apply Array.ext
 ·simp[lstOf]
 ·intro k C D;simp only[lstOf,Array.size_setIfInBounds,Array.size_ofFn] at C D;rw[Array.getElem_setIfInBounds (by simpa [lstOf] using C)];simp only[lstOf,Array.getElem_ofFn];by_cases h:i=k
  ·subst h;simp
  ·have A:¬k=i:=λe=>h e.symm;simp[h,A]
theorem Zgm {A:List Nat} {p:Nat->Bool} {i:Nat} (C:i∈A) (D:p i=true) (F:∀j∈A,p j=true->j=i):A.find? p=some i:=by
 cases h:A.find? p with
 |none=>exact absurd D (by simpa using List.find?_eq_none.1 h i C)
 |some j=>rw[F j (List.mem_of_find?_eq_some h) (List.find?_some h)]
theorem Zac {p q:Nat->Bool}:∀{A:List Nat},(∀j∈A,p j=q j)->A.find? p=A.find? q
 | [],_=>rfl
 |x::t,h=>by rw[List.find?_cons,List.find?_cons,h x Zq6,Zac λj C=>h j (Zq7 _ C)]
section
variable {a0:Act} {hs:List Nat} {dst:Nat→Nat} {done:List Nat} {vs:Nat→Value} {i k:Nat} {v:Value}
theorem Zoq (C:∀i∈hs,∀j∈hs,dst i=dst j->i=j) (H:i∈hs):(actOf a0 hs dst done vs).put (some (dst i)) v=actOf a0 hs dst (i::done) (upd vs i v):=by
 unfold actOf Act.put;simp only
 congr 1
 apply Array.ext
 ·simp
 ·intro k F J;simp only[Array.size_setIfInBounds,Array.size_ofFn] at F J;rw[Array.getElem_setIfInBounds (by simpa using F)];simp only[Array.getElem_ofFn];by_cases A:dst i=k
  ·rw[ZqN A,Zgm (i:=i) H (by simp[A]) (λj I D=>by
    simp only[ZqZ,ZsE] at D;exact C j I i H (D.1.trans A.symm))]
   simp[upd]
  ·rw[ZqH A];have Q:hs.find? (λj=>dst j==k && (i::done).contains j)=hs.find? (λj=>dst j==k && done.contains j):=Zac λj I=>by
    by_cases h:dst j=k
    ·have:j≠i:=λe=>A (by rw[<-e];exact h);simp[h,this]
    ·have O:(dst j==k)=false:=(by simpa using h);rw[O,ZrA,ZrA]
   rw[Q];cases hf:hs.find? (λj=>dst j==k && done.contains j) with
   |none=>rfl
   |some j=>have D:=List.find?_some hf;simp only[ZqZ,ZsE] at D;have:j≠i:=λe=>A (by rw[<-e];exact D.1);simp[upd,this]
theorem Zop (D:∀j∈hs,dst j≠k):(actOf a0 hs dst done vs).eval (.tmp k)=a0.eval (.tmp k):=by
 show (actOf a0 hs dst done vs).tmps.getD k undef=a0.tmps.getD k undef;unfold actOf;simp only;rw[Zsx,Zsx];by_cases h:k<a0.tmps.size
 ·rw[Array.getElem?_eq_getElem (by simpa using h),Array.getElem_ofFn];have A:hs.find? (λi=>dst i==k && done.contains i)=none:=List.find?_eq_none.2 λj C=>by have:=D j C;simp[this]
  simp only[A];rw[Zsx];rfl
 ·rw[ZrT (by simpa using h),ZrT om]
theorem Zon (h:∀i∈hs,∀j∈hs,dst i=dst j->i=j) (C:i∈hs) (F:i∈done) (A:dst i<a0.tmps.size):(actOf a0 hs dst done vs).eval (.tmp (dst i))=vs i:=by
 show (actOf a0 hs dst done vs).tmps.getD (dst i) undef=vs i;unfold actOf;simp only;rw[Zsx,Array.getElem?_eq_getElem (by simpa using A),Array.getElem_ofFn,Zgm (i:=i) C (by simp[F]) (λj H D=>by
  simp only[ZqZ,ZsE] at D;exact h j H i C D.1)]
 rfl
theorem Zoo:actOf a0 hs dst [] vs=a0:=by
 unfold actOf;cases a0 with
 |mk t d=>
  congr 1
  apply Array.ext
  ·simp
  ·intro k C h;simp only[Array.getElem_ofFn];have A:hs.find? (λi=>dst i==k && ([]:List Nat).contains i)=none:=List.find?_eq_none.2 λj _=>(by simp);simp only[A];rw[Zsx,Array.getElem?_eq_getElem h];rfl
end
theorem YM {A:Act} {k:Nat} {v:Value} (h:A.eval (.tmp k)=v):A.tmps[k]?.getD undef=v:=by
 rw[<-Zsx];exact h
theorem ZaK {p:Nat->Bool} {i:Nat} (F:p i=true):∀{A:List Nat},A.Nodup->i∈A->(A.filter λj=>p j && !(j==i)).length+1=(A.filter p).length
 |x::t,hn,hi=>by
  rw[List.nodup_cons] at hn
  rw[List.filter_cons,List.filter_cons]
  by_cases D:x=i
  ·subst D
   have I:t.filter (λj=>p j && !(j==x))=t.filter p:=List.filter_congr λj J=>by
    have:j≠x:=λe=>hn.1 (e▸J)
    simp[this]
   rw[I,F]
   simp
  ·have C:i∈t:=by
    rcases Zq1.1 hi with h|h
    ·exact absurd h.symm D
    ·exact h
   have ih:=ZaK F hn.2 C
   have H:(x==i)=false:=(by simpa using D)
   rw[H]
   simp only[Bool.not_false,ZsY]
   split<;>(try simp only[ZqK])<;>omega
section
variable {P:Program} {md:Region.Mode} {Q:Exit→Act→World→Prop} {S:World→Prop} {T:Array Bool→Act→World→Prop}
def relOk (md:Region.Mode) (l:List Oper) (base:Array Bool) (hs:List Nat) (D:Nat->List Nat):Bool:=
 (subs hs).all λd=>d.length==hs.length||(!(Region.ready md l.toArray (lstOf l.length base d)).isEmpty && (Region.ready md l.toArray (lstOf l.length base d)).all λi=>hs.contains i && !d.contains i && (D i).all d.contains)
theorem ZjL {l:List Oper} {C:List Nat} {dst:Nat->Nat} {D:Nat->List Nat} {F:Nat->Value->Wq->Prop} {base:Array Bool} {a0:Act} {W0:Wq} (hm:C.Nodup)
 (V:∀i∈C,∀j∈C,dst i=dst j->i=j) (hq:∀i∈C,dst i<a0.tmps.size) (hn:∀i∈C,i<l.length) (ho:relOk md l base C D=true)
 (hF:∀i∈C,∀v w w',F i v w->Ext w w'->F i v w') (hS:∀w',Ext W0 w'->S w')
 (hp:∀i∈C,∀(A:Act) (w':Wq) (vs:Nat->Value),Ext W0 w'->(∀k,(∀j∈C,dst j≠k)->A.eval (.tmp k)=a0.eval (.tmp k))->(∀j∈D i,A.eval (.tmp (dst j))=vs j/\F j (vs j) w')->
  wpOp P l.toArray Q i (λa2 w2=>∃v,a2=A.put (some (dst i)) v/\Ext w' w2/\F i v w2) A w')
 (Z:∀vs w',Ext W0 w'->(∀i∈C,F i (vs i) w')->T (lstOf l.length base C) (actOf a0 C dst C vs) w'):
 ∀(f:Nat) (done:List Nat) (vs:Nat->Value) (w':Wq),(∀i∈done,i∈C)->f=(C.filter λj=> !done.contains j).length->Ext W0 w'->(∀i∈done,F i (vs i) w')->
  wpAnyC P md l.toArray Q S T f (lstOf l.length base done) (actOf a0 C dst done vs) w':=by
 intro f
 induction f with
 |zero=>
  intro done vs w' H hf hx O;have U:∀i∈C,i∈done:=λi hi=>by have h0:=ZqX hf.symm;have:=(List.filter_eq_nil_iff.1 h0) i hi;simpa using this
  have hc:∀j,done.contains j=C.contains j:=λj=>by rw[ZrG,Zr7,Zr7];exact ⟨H j,U j⟩
  show T _ _ _;have ha:actOf a0 C dst done vs=actOf a0 C dst C vs:=by
   unfold actOf
   congr 1
   congr 1
   funext k;rw[Zac (p:=λi=>dst i==k.val && done.contains i) (q:=λi=>dst i==k.val && C.contains i) λj _=>by rw[hc]]
  rw[Zel hc,ha];exact Z vs w' hx λi hi=>O i (U i hi)
 |succ f ih=>
  intro done vs w' H hf hx O;obtain ⟨d,hd⟩:∃d,C.filter (λj=>done.contains j)=d:=⟨_,rfl⟩;have R:∀j,j∈d↔j∈done:=λj=>by rw[<-hd,ZrK,Zr7];exact ⟨λh=>h.2,λh=>⟨H j h,h⟩⟩
  have hc:∀j,done.contains j=d.contains j:=λj=>by rw[ZrG,Zr7,Zr7];exact (R j).symm
  have hg:¬d.length=C.length:=λe=>by have h1:d=C:=(by rw[<-hd] at e|-;exact (List.filter_sublist).eq_of_length e);have h2:(C.filter λj=> !done.contains j)= []:=List.filter_eq_nil_iff.2 λj I=>(by have:j∈done:=(R j).1 (h1▸I);simp[this]);rw[h2] at hf;cases hf
  have hk:=Zrm.1 ho d (by rw[<-hd];exact ZaL _ C);simp only[ZsI,ZqZ,ZsE,hg,false_or] at hk;rw[<-Zel hc] at hk;refine ⟨λh=>(by rw[h] at hk;exact absurd hk.1 (by simp)),λi hi=> ?_⟩;have he:=Zrm.1 hk.2 i hi;simp only[ZqZ,Zsj] at he;obtain ⟨⟨h1,h2⟩,h3⟩:=he;have J:i∈C:=Zr7.1 h1;have hh:i ∉ done:=λh=>by have:=Zr7.2 ((R i).2 h);rw[this] at h2;cases h2
  have hD:∀j∈D i,j∈done:=λj I=>(R j).1 (Zr7.1 (Zrm.1 h3 j I));refine ZsH (λa2 w2 h=> ?_) (hp i J (actOf a0 C dst done vs) w' vs hx (λk hl=>Zop hl) (λj I=>⟨Zon V (H j (hD j I)) (hD j I) (hq j (H j (hD j I))),O j (hD j I)⟩));obtain ⟨v,rfl,Y,hv⟩:=h;refine ⟨hS w2 (hx.trans Y),?_⟩;rw[Zoq V J,ZoP (hn i J)];refine ih (i::done) (upd vs i v) w2 (λj I=> ?_) ?_ (hx.trans Y) (λj I=> ?_)
  ·rcases Zq1.1 I with rfl|I
   ·exact J
   ·exact H j I
  ·have h4:=ZaK (p:=λj=> !done.contains j) (i:=i) (by simpa using hh) hm J;have h5:(C.filter λj=> !(i::done).contains j)=C.filter λj=> !done.contains j && !(j==i):=List.filter_congr λj _=>(by rw[List.contains_cons,Bool.not_or,Bool.and_comm]);rw[h5];omega
  ·by_cases X:j=i
   ·subst X;simpa [upd] using hv
   ·have hb:j∈done:=(Zq1.1 I).resolve_left X;have:=hF j (H j hb) _ _ _ (O j hb) Y;simpa [upd,X] using this
theorem Jy {l:List Oper} {listed:Array Bool} {a:Act} {w:Wq} {f:Nat} (C:List Nat) (dst:Nat->Nat) (D:Nat->List Nat) (F:Nat->Value->Wq->Prop) (hf:f=C.length) (Y:lstOf l.length listed []=listed) (O:C.Nodup)
 (J:∀i∈C,∀j∈C,dst i=dst j->i=j) (V:(C.all λi=>decide (dst i<a.tmps.size))=true) (hn:∀i∈C,i<l.length) (R:relOk md l listed C D=true)
 (X:∀i∈C,∀v w w',F i v w->Ext w w'->F i v w') (Z:∀w',Ext w w'->S w')
 (U:∀i∈C,∀(A:Act) (w':Wq) (vs:Nat->Value),Ext w w'->(∀k,(∀j∈C,dst j≠k)->A.eval (.tmp k)=a.eval (.tmp k))->(∀j∈D i,A.eval (.tmp (dst j))=vs j/\F j (vs j) w')->
  wpOp P l.toArray Q i (λa2 w2=>∃v,a2=A.put (some (dst i)) v/\Ext w' w2/\F i v w2) A w')
 (H:∀vs w',Ext w w'->(∀i∈C,F i (vs i) w')->T (lstOf l.length listed C) (actOf a C dst C vs) w'):wpAnyC P md l.toArray Q S T f listed a w:=by
 have h:=ZjL (T:=T) (base:=listed) (a0:=a) (W0:=w) O J (λi I=>Zro (Zrm.1 V i I)) hn R X Z U H f [] (λ_=>undef) w (by intro i I;cases I) (by rw[hf];exact (ZqS List.length (List.filter_eq_self.2 λj _=>rfl)).symm) (Ext.refl w) (by intro i I;cases I);rw[Zoo,Y] at h;exact h
theorem Jq {l:List Oper} {i d:Nat} {o:Oper} {A:Act} {w':Wq} {F:Value->Wq->Prop} (O:l[i]? =some o) (R:o.dst=some d)
 (h:∀K:Act->Wq->Prop,(∀v w2,Ext w' w2->F v w2->K (A.put (some d) v) w2)->if Region.wanted o (yielded l.toArray A.tmps) then Oper.wp P o A w' K Q else K (A.put o.dst undef) w'):
 wpOp P l.toArray Q i (λa2 w2=>∃v,a2=A.put (some d) v/\Ext w' w2/\F v w2) A w':=by
 have D:l.toArray[i]? =some o:=by rw[ZrM];exact O
 have C:=h (λa2 w2=>∃v,a2=A.put (some d) v/\Ext w' w2/\F v w2) λv w2 I J=>⟨v,rfl,I,J⟩;unfold wpOp;simp only[D];split
 ·rename_i H;rw[ZqN H] at C;exact Or.inl C
 ·rename_i H;rw[ZqH H] at C;exact C
end
end
section
set_option linter.unusedSimpArgs false
def dimI (y m:Int):Nat:=if 1<=y/\y<=9999/\1<=m/\m<=12 then dimN y.toNat m.toNat else 0
theorem Xv {y m:Nat} (h:1<=y/\y<=9999/\1<=m/\m<=12):dimI y m=dimN y m:=by
 unfold dimI;rw[ZqN om];rfl
theorem IE {y m:Int} (h:¬(1<=y/\y<=9999/\1<=m/\m<=12)):dimI y m=0:=by
 unfold dimI;rw[ZqH h]
theorem Zns (y:Nat) (w:World) (A:1<=y) (C:y<=9999):
 Calls prog 197 #[.int .i64 (y:Nat)] w λe w'=>e= .returned (.bool (leapN y))/\w'=w:=by
 have h:(1:Int)<=(y:Int):=om
 have a2:(y:Int)<=9999:=om
 go_enter func197,ntmps197;go_wp2
 all_goals go_ret
 all_goals exact ⟨ZqS (λb=>Ending.returned (Value.bool b)) (ZrG.2 (by rw[QX];simp;omega)),rfl⟩
theorem ZmA {m:Nat} (A:1<=m) (C:m<=12) (h:m≠2) (y:Nat):30+((m:Int)+(m:Int) / 8) % 2=(dimN y m:Nat):=by
 unfold dimN;rw[ZqH h];have:∀k:Fin 13,1<=k.1->k.1≠2->30+((k.1:Int)+(k.1:Int) / 8) % 2=((if k.1=4\/k.1=6\/k.1=9\/k.1=11 then 30 else 31:Nat):Int):=by decide
 exact this ⟨m,om⟩ A h
theorem Kl (y m:Int) (w:World):
 Calls prog 163 #[.int .i64 y,.int .i64 m] w λe w'=>e= .returned (.int .i64 (dimI y m:Nat))/\w'=w:=by
 by_cases h:1<=y/\y<=9999/\1<=m/\m<=12
 ·obtain ⟨y,rfl⟩:=Int.eq_ofNat_of_zero_le (show 0<=y by omega);obtain ⟨m,rfl⟩:=Int.eq_ofNat_of_zero_le (show 0<=m by omega);have R:1<=y/\y<=9999/\1<=m/\m<=12:=om
  have A:=gd (Xv R);obtain ⟨I,J,O,Q⟩:=R;have F:=gd (λw'=>Zns y w' I J);have V:¬(y:Int)<1:=om
  have a2:¬9999<(y:Int):=om
  have a3:¬(m:Int)<1:=om
  have a4:¬12<(m:Int):=om
  by_cases H:m=2
  ·have D:Hid (dimN y m=if leapN y then 29 else 28):=(by show _=_;unfold dimN;rw[ZqN H]);subst H;cases hb:leapN y
   ·rw[hb] at F;clear h I J O Q;go_enter func163,ntmps163
    go_wp2_with (first|(go_at_call 197;refine ZqD (F.out _) ?_;rintro e w1 ⟨rfl,rfl⟩))
    go_ret;exact ⟨by rw[A.out,D.out,hb];rfl,rfl⟩
   ·rw[hb] at F;clear h I J O Q;go_enter func163,ntmps163
    go_wp2_with (first|(go_at_call 197;refine ZqD (F.out _) ?_;rintro e w1 ⟨rfl,rfl⟩))
    go_ret;exact ⟨by rw[A.out,D.out,hb];rfl,rfl⟩
  ·have D:=gd (ZmA O Q H y);have a5:¬(m:Int)=2:=om;clear h H;go_enter func163,ntmps163;go_wp2;go_ret;exact ⟨by rw[A.out,<-D.out];rfl,rfl⟩
 ·have A:=gd (IE h);have C:y<1\/(¬y<1/\9999<y)\/(¬y<1/\¬9999<y/\m<1)\/(¬y<1/\¬9999<y/\¬m<1/\12<m):=om
  clear h;go_enter func163,ntmps163;rcases C with C|⟨C,S⟩|⟨C,S,U⟩|⟨C,S,U,X⟩
  all_goals go_wp2
  all_goals go_ret
  all_goals exact ⟨by rw[A.out];rfl,rfl⟩
def dayN (y m d:Nat):Int:=((befN y+monN y (m - 1)+(d - 1):Nat):Int) - 719162
theorem Zbw {y:Nat} (h:1<=y) (A:y<=10000):befN y<=3652059:=by
 have:=ZdP h A;have C:befN 10000=3652059:=by decide
 omega
theorem Zfh (y:Nat) {m:Nat} (h:m<=12):monN y m<=366:=by
 have:=Zem y h;have A:=Zbz y;unfold lenN at A;split at A<;>omega
theorem Zmn {y:Nat} (h:1<=y):365*((y:Int) - 1)+((y:Int) - 1) / 4 - ((y:Int) - 1) / 100+((y:Int) - 1) / 400=(befN y:Nat):=by
 obtain ⟨p,rfl⟩:∃p,y=p+1:=⟨y - 1,om⟩;have e:(((p+1:Nat):Int) - 1)=(p:Int):=om
 rw[e];unfold befN;rw[Nat.add_sub_cancel];have e4:((p:Int) / 4)=((p / 4:Nat):Int):=om
 have e1:((p:Int) / 100)=((p / 100:Nat):Int):=om
 have A:((p:Int) / 400)=((p / 400:Nat):Int):=om
 rw[e4,e1,A];have:p / 100<=365*p:=om
 generalize p / 4=a at*;generalize p / 100=b at*;generalize p / 400=c at*;omega
theorem ZkD (y m d:Int) (w:World) (h:d<1\/(dimI y m:Int)<d):
 Calls prog 151 #[.int .i64 y,.int .i64 m,.int .i64 d] w λe w'=>e= .returned (.tuple #[.int .i64 0,.int .i64 3])/\w'=w:=by
 have C:=gd (λw'=>Kl y m w');generalize dimI y m=D at*;have A:d<1\/(¬d<1/\(D:Int)<d):=om
 clear h;go_enter func151,ntmps151;rcases A with A|⟨A,F⟩
 ·go_wp2
  go_ret2
  exact ⟨rfl,rfl⟩
 ·go_wp2_with (first|(go_at_call 163;refine ZqD (C.out _) ?_;rintro e w1 ⟨rfl,rfl⟩))
  go_ret2
  exact ⟨rfl,rfl⟩
theorem Zmy (y m d:Nat) (w:World) (h:1<=y/\y<=9999/\1<=m/\m<=12) (hd:1<=d) (X:d<=dimN y m):
 Calls prog 151 #[.int .i64 (y:Nat),.int .i64 (m:Nat),.int .i64 (d:Nat)] w λe w'=>e= .returned (.tuple #[.int .i64 (dayN y m d),.int .i64 0])/\w'=w:=by
 have S:∀k:Nat,1<=k->k<=12->∀w',Calls prog 163 #[.int .i64 (y:Nat),.int .i64 (k:Nat)] w' λe hc=>e= .returned (.int .i64 (dimN y k:Nat))/\hc=w':=λk Q h4 w'=>by
  have:=Kl y k w'
  rwa [Xv ⟨h.1,h.2.1,Q,h4⟩] at this
 have HL:=gd S;have Z:=(JK y m).2;have I:=gd (Zmn h.1);have V:=Zbw h.1 om;obtain ⟨R,U⟩:∃R,dayN y m d=R:=⟨_,rfl⟩;rw[U];have HR:=gd U;have HM:=gd (λk (hk:k<=12)=>Zfh y hk);obtain ⟨D,H⟩:∃D,dimN y m=D:=⟨_,rfl⟩;have F:=gd (S m h.2.2.1 h.2.2.2);rw[H] at X F Z;obtain ⟨B,hB⟩:∃B,befN y=B:=⟨_,rfl⟩;rw[hB] at V I;clear S U H;obtain ⟨h1,h2,Q,h4⟩:=h;have a1:¬(d:Int)<1:=om
 have a2:¬(D:Int)<d:=om
 have a3:¬D<d:=om
 go_enter func151,ntmps151
 go_wp2_with (first|(go_at_call 163;refine ZqD (F.out _) ?_;rintro e w1 ⟨rfl,rfl⟩))
 go_loopw [9,38] (λn i wr=>∃k:Nat,k+1<=m/\n= .int .i64 ((B+monN y k+(d - 1):Nat):Int)/\i= .int .i64 (k:Nat)/\wr=w1) (λ_ i _=>m - (intOf i).toNat)
 case atStart=>exact ⟨0,Q,by rw[I.out];refine ZqS (Value.int .i64) ?_;show _=((B+0+(d - 1):Nat):Int);omega,rfl,rfl⟩
 case round=>
  obtain ⟨k,hk,rfl,rfl,rfl⟩:=hrel;have J:=HM.out k om;by_cases hb:k+1<m
  ·have b1:(k:Int)<(m:Int) - 1:=om;have O:=gd (HL.out (k+1) om om);rw[show ((k+1:Nat):Int)=(k:Int)+1 by omega] at O;have Y:=JK y (k+1);have C:Hid (monN y (k+1)=monN y k+dimN y (k+1)):=rfl;obtain ⟨E,hE⟩:∃E,dimN y (k+1)=E:=⟨_,rfl⟩;rw[hE] at O Y C;obtain ⟨M,A⟩:∃M,monN y k=M:=⟨_,rfl⟩;rw[A] at C J;simp only[A];clear hE A
   go_wp2_with (first|(go_at_call 163;refine ZqD (O.out _) ?_;rintro e w1 ⟨rfl,rfl⟩))
   go_roundw
   case rel=>exact ⟨k+1,hb,by rw[C.out];refine ZqS (Value.int .i64) ?_;omega,by go_num,trivial⟩
   case measure=>simp[intOf];omega
  ·have ha:k=m - 1:=om;have b1:¬(k:Int)<(m:Int) - 1:=om;have hF:Hid (((B+monN y k+(d - 1):Nat):Int) - 719162=R):=(by show _=_;rw[<-HR.out,dayN,hB,ha]);obtain ⟨M,A⟩:∃M,monN y k=M:=⟨_,rfl⟩;rw[A] at hF J;simp only[A];clear A;go_wp2
   go_ret2
   exact ⟨by rw[<-hF.out];rfl,rfl⟩
def secsI (y m d h mi s:Int):Option Int:=
 if 1<=d/\d<=dimI y m/\0<=h/\h<=23/\0<=mi/\mi<=59/\0<=s/\s<=59 then some (dayN y.toNat m.toNat d.toNat*86400+(h*3600+mi*60+s)) else none
theorem IF {y m:Int} (h:1<=dimI y m):1<=y/\y<=9999/\1<=m/\m<=12:=by
 by_cases A:1<=y/\y<=9999/\1<=m/\m<=12
 ·exact A
 ·rw[IE A] at h;omega
theorem ZlV (y m d h mi s:Nat):secsI y m d h mi s=secsP y m d h mi s:=by
 unfold secsI secsP;by_cases A:1<=y/\y<=9999/\1<=m/\m<=12
 ·rw[Xv A];by_cases C:1<=d/\d<=dimN y m/\h<=23/\mi<=59/\s<=59
  ·rw[ZqN om,ZqN om];simp only[Int.toNat_natCast,dayN]
   congr 1;omega
  ·rw[ZqH om,ZqH om]
 ·rw[IE om,ZqH om,ZqH om]
theorem ZeZ {y m d:Nat} (h:1<=y/\y<=9999/\1<=m/\m<=12) (A:d<=dimN y m): -719162<=dayN y m d/\dayN y m d<=2933300:=by
 have a:=Zbw h.1 (show y<=10000 by omega);have b:=Zfh y (show m - 1<=12 by omega);have c:=(JK y m).2;unfold dayN;omega
theorem Zhz (y m d h mi s:Int) (w:World):
 Calls prog 110 #[.int .i64 y,.int .i64 m,.int .i64 d,.int .i64 h,.int .i64 mi,.int .i64 s] w λe w'=>
  e= .returned (match secsI y m d h mi s with|some t=> .tuple #[.int .i64 t,.int .i64 0]|none=> .tuple #[.int .i64 0,.int .i64 3])/\w'=w:=by
 by_cases J:d<1\/(dimI y m:Int)<d
 ·have D:secsI y m d h mi s=none:=by unfold secsI;rw[ZqH om]
  rw[D];have I:=gd (λw'=>ZkD y m d w' J);clear J D;go_enter func110,ntmps110
  go_wp2_with (first|(go_at_call 151;refine ZqD (I.out _) ?_;rintro e w1 ⟨rfl,rfl⟩))
  go_ret2
  exact ⟨rfl,rfl⟩
 ·have Q:=IF (y:=y) (m:=m) om;obtain ⟨y,rfl⟩:=Int.eq_ofNat_of_zero_le (show 0<=y by omega);obtain ⟨m,rfl⟩:=Int.eq_ofNat_of_zero_le (show 0<=m by omega);obtain ⟨d,rfl⟩:=Int.eq_ofNat_of_zero_le (show 0<=d by omega);have A:1<=y/\y<=9999/\1<=m/\m<=12:=om
  have F:=Xv A;have I:=gd (λw'=>Zmy y m d w' A om om);have H:=ZeZ (d:=d) A om;by_cases R:0<=h/\h<=23/\0<=mi/\mi<=59/\0<=s/\s<=59
  ·have O:secsI y m d h mi s=some (dayN y m d*86400+(h*3600+mi*60+s)):=(by unfold secsI;rw[ZqN om];rfl);rw[O];generalize dayN y m d=X at*;obtain ⟨h,rfl⟩:=Int.eq_ofNat_of_zero_le (show 0<=h by omega);obtain ⟨mi,rfl⟩:=Int.eq_ofNat_of_zero_le (show 0<=mi by omega);obtain ⟨s,rfl⟩:=Int.eq_ofNat_of_zero_le (show 0<=s by omega);have b1:¬(h:Int)<0:=om;have b2:¬23<(h:Int):=om;have b3:¬(mi:Int)<0:=om;have b4:¬59<(mi:Int):=om;have b5:¬(s:Int)<0:=om;have V:¬59<(s:Int):=om;obtain ⟨S,U⟩:=H;clear O F Q A J R;go_enter func110,ntmps110
   go_wp2_with (first|(go_at_call 151;refine ZqD (I.out _) ?_;rintro e w1 ⟨rfl,rfl⟩))
   go_ret2
   exact ⟨by refine ZqS (λt=>Ending.returned (.tuple #[.int .i64 t,.int .i64 0])) ?_;show X*86400+(h:Int)*3600+(mi:Int)*60+(s:Int)=_;omega,rfl⟩
  ·have D:secsI y m d h mi s=none:=(by unfold secsI;rw[ZqH om]);rw[D];generalize dayN y m d=X at*;have C:h<0\/(¬h<0/\23<h)\/(¬h<0/\¬23<h/\mi<0)\/(¬h<0/\¬23<h/\¬mi<0/\59<mi)\/(¬h<0/\¬23<h/\¬mi<0/\¬59<mi/\s<0)\/(¬h<0/\¬23<h/\¬mi<0/\¬59<mi/\¬s<0/\59<s):=om;clear D F Q A J R H;go_enter func110,ntmps110;rcases C with C|⟨c1,C⟩|⟨c1,c2,C⟩|⟨c1,c2,c3,C⟩|⟨c1,c2,c3,c4,C⟩|⟨c1,c2,c3,c4,c5,C⟩
   all_goals go_wp2_with (first|(go_at_call 151;refine ZqD (I.out _) ?_;rintro e w1 ⟨rfl,rfl⟩))
   all_goals go_ret2
   all_goals exact ⟨rfl,rfl⟩
end
def oi:Option Nat->Int
 |some n=>n
 |none=> -1
theorem Q5 {l:List UInt8} {a k:Nat} (h:digP l (a+k)=none):∀{w:Nat},k<w->numP l a w=none
 |0,hk=>by omega
 |w+1,hk=>by
  unfold numP
  rcases ZrJ k w with A|A
  ·rw[Q5 h A]
  ·obtain rfl:k=w:=om
   rw[h]
   cases numP l a k<;>rfl
theorem JI {l:List UInt8} {i:Nat} (h:l.length<=i):digP l i=none:=by
 unfold digP;rw[List.getElem?_eq_none h]
theorem Vz {l:List UInt8} {a w:Nat} (h:l.length<a+w) (A:0<w):numP l a w=none:=
 Q5 (k:=w - 1) (JI om) om
theorem ZjT {l:List UInt8} {i d:Nat} (h:digP l i=some d):d<10:=by
 unfold digP at h;cases hc:l[i]? with
 |none=>rw[hc] at h;cases h
 |some c=>
  rw[hc] at h;simp only at h;split at h
  ·injection h with h;omega
  ·cases h
theorem Xx {l:List UInt8} {a:Nat}:∀{w n:Nat},numP l a w=some n->n<10 ^ w
 |0,n,h=>by injection h with h;subst h;decide
 |w+1,n,h=>by
  unfold numP at h
  cases h1:numP l a w with
  |none=>rw[h1] at h;cases h
  |some m=>
   cases h2:digP l (a+w) with
   |none=>rw[h1,h2] at h;cases h
   |some d=>
    rw[h1,h2] at h
    injection h with h
    have:=Xx h1
    have:=ZjT h2
    rw[Nat.pow_succ];omega
theorem Zet {l:List UInt8} {a w n d:Nat} (h:numP l a w=some n) (A:digP l (a+w)=some d):numP l a (w+1)=some (n*10+d):=by
 unfold numP;rw[h,A]
theorem Ze3 {l:List UInt8} {i:Nat} (h:i<l.length):digP l i=if 48<=l[i].toNat/\l[i].toNat<=57 then some (l[i].toNat - 48) else none:=by
 unfold digP;rw[ZqL h]
theorem Gb {l:List UInt8} {i:Nat} (a b:Nat) (h:i<l.length):sepP l i a b=(decide (l[i].toNat=a)||decide (l[i].toNat=b)):=by
 unfold sepP;rw[ZqL h]
theorem ZhD {l:List UInt8} {i:Nat} (a b:Nat) (h:l.length<=i):sepP l i a b=false:=by
 unfold sepP;rw[List.getElem?_eq_none h]
theorem ZhB (y m d h mi s:Option Nat):secsI (oi y) (oi m) (oi d) (oi h) (oi mi) (oi s)=match y,m,d,h,mi,s with
 |some y,some m,some d,some h,some mi,some s=>secsP y m d h mi s
 |_,_,_,_,_,_=>none:=by
 have A:∀(y m d h mi s:Int),y= -1\/m= -1\/d= -1\/h= -1\/mi= -1\/s= -1->secsI y m d h mi s=none:=by intro y m d h mi s R;unfold secsI;rw[ZqH];rintro ⟨C,D,F,H,I,J,O,Q⟩;have:=IF (y:=y) (m:=m) om;omega
 cases y with
 |none=>simp only;exact A _ _ _ _ _ _ (Or.inl rfl)
 |some y=>cases m with
  |none=>simp only;exact A _ _ _ _ _ _ (Or.inr (Or.inl rfl))
  |some m=>cases d with
   |none=>simp only;exact A _ _ _ _ _ _ (Or.inr (Or.inr (Or.inl rfl)))
   |some d=>cases h with
    |none=>simp only;exact A _ _ _ _ _ _ (Or.inr (Or.inr (Or.inr (Or.inl rfl))))
    |some h=>cases mi with
     |none=>simp only;exact A _ _ _ _ _ _ (Or.inr (Or.inr (Or.inr (Or.inr (Or.inl rfl)))))
     |some mi=>cases s with
      |none=>simp only;exact A _ _ _ _ _ _ (Or.inr (Or.inr (Or.inr (Or.inr (Or.inr rfl)))))
      |some s=>exact ZlV y m d h mi s
theorem Km {l:List UInt8} {k i:Nat} (h:(digP l i).isSome=true):digsP l (k+1) i=digsP l k (i+1)+1:=ZqN h
theorem JJ {l:List UInt8} {k i:Nat} (h:(digP l i).isSome=false):digsP l k i=0:=by
 cases k with
 |zero=>rfl
 |succ k=>unfold digsP;rw[h];rfl
theorem ID {l:List UInt8}:∀(k i:Nat),i<=l.length->i+digsP l k i<=l.length
 |0,i,h=>h
 |k+1,i,h=>by
  unfold digsP
  split
  ·rename_i C
   have D:i<l.length:=by
    rcases ZrJ i l.length with A|A
    ·exact A
    ·rw[JI A] at C;cases C
   have:=ID (l:=l) k (i+1) D
   omega
  ·exact h
theorem Vr {l:List UInt8}:∀(k m i:Nat),l.length<=i+k->l.length<=i+m->digsP l k i=digsP l m i
 |0,m,i,h,_=>by rw[JJ (k:=m) (by rw[JI om];rfl)];rfl
 |k+1,0,i,_,h=>by rw[JJ (k:=k+1) (by rw[JI om];rfl)];rfl
 |k+1,m+1,i,h1,h2=>by
  unfold digsP
  rw[Vr k m (i+1) om om]
section
set_option linter.unusedSimpArgs false
def cycC:Nat->Nat
 |0=>146097
 |1=>36524
 |2=>1461
 |_=>365
def cycY:Nat->Nat
 |0=>400
 |1=>100
 |2=>4
 |_=>1
def cycT:Nat->Nat
 |0=>25
 |1=>3
 |2=>24
 |_=>3
def cyc (n:Nat):Nat->Nat×Nat
 |0=>(n,1)
 |i+1=>((cyc n i).1 - min ((cyc n i).1 / cycC i) (cycT i)*cycC i,(cyc n i).2+min ((cyc n i).1 / cycC i) (cycT i)*cycY i)
theorem Zqf {n:Nat} (h:n<3652059):cyc n 4=(n - befN (yearN n),yearN n):=by
 have R:=Zdm n;obtain ⟨a,H⟩:∃a,n / 146097=a:=⟨_,rfl⟩;have F:min (n / 146097) 25=a:=om
 have e1:n - a*146097=n % 146097:=om
 obtain ⟨r,D⟩:∃r,n % 146097=r:=⟨_,rfl⟩;obtain ⟨b,I⟩:∃b,min (r / 36524) 3=b:=⟨_,rfl⟩;obtain ⟨s,X⟩:∃s,r - b*36524=s:=⟨_,rfl⟩;obtain ⟨c,S⟩:∃c,min (s / 1461) 24=c:=⟨_,rfl⟩;obtain ⟨t,Y⟩:∃t,s - c*1461=t:=⟨_,rfl⟩;obtain ⟨e,U⟩:∃e,min (t / 365) 3=e:=⟨_,rfl⟩;have Q:yearN n=1+400*a+100*b+4*c+e:=by unfold yearN;simp only[H,D,I,X,S,Y,U]
 have C:cyc n 4=(t - e*365,1+a*400+b*100+c*4+e*1):=by simp only[cyc,cycC,cycT,cycY,F,e1,D,I,X,S,Y,U]
 have A:=ZjN a b c e om om om;have J:n=146097*a+r:=om
 have O:36524*b<=r:=by clear J R C A Q h F e1 H D;omega
 have V:1461*c<=s:=by clear J R C A Q h F e1 H D O I;omega
 have Z:365*e<=t:=by clear J R C A Q h F e1 H D O I V S;omega
 rw[C,Q,A,J];clear R C A Q h F e1 H D I S U J;refine Prod.ext ?_ ?_
 ·show t - e*365=_;omega
 ·show 1+a*400+b*100+c*4+e*1=_;omega
theorem Zmx (n:Nat):∀i,(cyc n i).1<=n/\(cyc n i).2<=1+10000*i
 |0=>⟨ZqE _,ZqE _⟩
 |i+1=>by
  have ih:=Zmx n i
  refine ⟨ZqM (ZsV _ _) ih.1,?_⟩
  show (cyc n i).2+min ((cyc n i).1 / cycC i) (cycT i)*cycY i<=_
  have h:min ((cyc n i).1 / cycC i) (cycT i)<=25:=by
   refine ZqM (Nat.min_le_right _ _) ?_
   unfold cycT;split<;>omega
  have A:cycY i<=400:=by unfold cycY;split<;>omega
  have:=Nat.mul_le_mul h A
  omega
theorem ZfD {A:Func} {t u v x:Tmp} (h:A.results=#[.tmp t,.tmp u,.tmp v,.tmp x]) (tmps:Array Value) (P:Program) (w:World):
 (results A tmps).run P w= .ok (.tuple #[tmps.getD t undef,tmps.getD u undef,tmps.getD v undef,tmps.getD x undef]) w:=by
 simp[results,h]
theorem Zoy (n:Nat) (w:World) (h:n<3652059):
 Calls prog 130 #[.int .i64 ((n:Int) - 719162)] w λe w'=>e= .returned (.tuple #[.int .i64 ((dateN n).1:Nat),.int .i64 ((dateN n).2.1:Nat),.int .i64 ((dateN n).2.2:Nat),.int .i64 0])/\Ext w w':=by
 have a1:¬(n:Int) - 719162< -719162:=om
 have a2:¬2932896<(n:Int) - 719162:=om
 have HF:=gd (Zqf h);go_enter func130,ntmps130;obtain ⟨W1,hc⟩:∃W1,w.alloc (.cells #[.int .i64 146097,.int .i64 400,.int .i64 25,.int .i64 36524,.int .i64 100,.int .i64 3,.int .i64 1461,.int .i64 4,.int .i64 24,.int .i64 365,.int .i64 1,.int .i64 3] 226)=W1:=⟨_,rfl⟩;have hh:Ext w W1:=by rw[<-hc];exact (Ext.refl w).alloc _
 have R:=gd (λ(j:Nat) (u:Value) (h:#[Value.int .i64 146097,.int .i64 400,.int .i64 25,.int .i64 36524,.int .i64 100,.int .i64 3,.int .i64 1461,.int .i64 4,.int .i64 24,.int .i64 365,.int .i64 1,.int .i64 3][j]? =some u) wr (O:Ext W1 wr)=>Ext.boxed (w:=w) (by rw[hc];exact O) j u h);have HS:=gd hh;clear hh;obtain ⟨g,hg⟩:∃g,w.heap.size=g:=⟨_,rfl⟩;rw[hg] at R;go_wp2;go_loopw [6,7,26] (λl y i wr=>∃k:Nat,k<=4/\l= .int .i64 ((cyc n k).1:Nat)/\y= .int .i64 ((cyc n k).2:Nat)/\i= .int .i64 (k:Nat)/\Ext W1 wr) (λ_ _ i _=>4 - (intOf i).toNat)
 case atStart=>exact ⟨0,om,rfl,rfl,rfl,Ext.refl _⟩
 case round=>
  obtain ⟨k,X,rfl,rfl,rfl,O⟩:=hrel;have C:=Zmx n k;have H:Hid (cyc n (k+1)=((cyc n k).1 - min ((cyc n k).1 / cycC k) (cycT k)*cycC k,(cyc n k).2+min ((cyc n k).1 / cycC k) (cycT k)*cycY k)):=rfl;rcases (by omega:k=0\/k=1\/k=2\/k=3\/k=4) with rfl|rfl|rfl|rfl|rfl
  ·have c0:=R.out 0 _ rfl wr O;have c1:=R.out 1 _ rfl wr O;have c2:=R.out 2 _ rfl wr O;obtain ⟨P,J⟩:∃P,cyc n 0=P:=⟨_,rfl⟩;rw[J] at H C;simp only[J];clear J;obtain ⟨l,y⟩:=P;simp only at C|-;obtain ⟨hl,hy⟩:=C;obtain ⟨M,S⟩:∃M:Nat,min (l / 146097) 25=M:=⟨_,rfl⟩;have A:min ((l:Int) / 146097) 25=(M:Int):=om;have Q:M*146097<=l:=(by clear A;omega);have hb:M<=25:=(by clear A Q;omega);have F:Hid (cyc n 1=(l - M*146097,y+M*400)):=(by show _=_;rw[H.out];show (l - min (l / 146097) 25*146097,y+min (l / 146097) 25*400)=_;rw[S]);have I:=gd A;clear H S A X;rw[show ((0:Nat):Int)=0 from rfl];go_wp2
   go_region
   rw[I.out];clear I;go_wp2;go_roundw
   case rel=>exact ⟨1,om,by rw[F.out];refine ZqS (Value.int .i64) ?_;show _=((l - M*146097:Nat):Int);omega,by rw[F.out];refine ZqS (Value.int .i64) ?_;show _=((y+M*400:Nat):Int);omega,rfl,(O.alloc _).drew⟩
   case measure=>simp[intOf]
  ·have c0:=R.out 3 _ rfl wr O;have c1:=R.out 4 _ rfl wr O;have c2:=R.out 5 _ rfl wr O;obtain ⟨P,J⟩:∃P,cyc n 1=P:=⟨_,rfl⟩;rw[J] at H C;simp only[J];clear J;obtain ⟨l,y⟩:=P;simp only at C|-;obtain ⟨hl,hy⟩:=C;obtain ⟨M,S⟩:∃M:Nat,min (l / 36524) 3=M:=⟨_,rfl⟩;have A:min ((l:Int) / 36524) 3=(M:Int):=om;have Q:M*36524<=l:=(by clear A;omega);have hb:M<=3:=(by clear A Q;omega);have F:Hid (cyc n 2=(l - M*36524,y+M*100)):=(by show _=_;rw[H.out];show (l - min (l / 36524) 3*36524,y+min (l / 36524) 3*100)=_;rw[S]);have I:=gd A;clear H S A X;rw[show ((1:Nat):Int)=1 from rfl];go_wp2
   go_region
   rw[I.out];clear I;go_wp2;go_roundw
   case rel=>exact ⟨2,om,by rw[F.out];refine ZqS (Value.int .i64) ?_;show _=((l - M*36524:Nat):Int);omega,by rw[F.out];refine ZqS (Value.int .i64) ?_;show _=((y+M*100:Nat):Int);omega,rfl,(O.alloc _).drew⟩
   case measure=>simp[intOf]
  ·have c0:=R.out 6 _ rfl wr O;have c1:=R.out 7 _ rfl wr O;have c2:=R.out 8 _ rfl wr O;obtain ⟨P,J⟩:∃P,cyc n 2=P:=⟨_,rfl⟩;rw[J] at H C;simp only[J];clear J;obtain ⟨l,y⟩:=P;simp only at C|-;obtain ⟨hl,hy⟩:=C;obtain ⟨M,S⟩:∃M:Nat,min (l / 1461) 24=M:=⟨_,rfl⟩;have A:min ((l:Int) / 1461) 24=(M:Int):=om;have Q:M*1461<=l:=(by clear A;omega);have hb:M<=24:=(by clear A Q;omega);have F:Hid (cyc n 3=(l - M*1461,y+M*4)):=(by show _=_;rw[H.out];show (l - min (l / 1461) 24*1461,y+min (l / 1461) 24*4)=_;rw[S]);have I:=gd A;clear H S A X;rw[show ((2:Nat):Int)=2 from rfl];go_wp2
   go_region
   rw[I.out];clear I;go_wp2;go_roundw
   case rel=>exact ⟨3,om,by rw[F.out];refine ZqS (Value.int .i64) ?_;show _=((l - M*1461:Nat):Int);omega,by rw[F.out];refine ZqS (Value.int .i64) ?_;show _=((y+M*4:Nat):Int);omega,rfl,(O.alloc _).drew⟩
   case measure=>simp[intOf]
  ·have c0:=R.out 9 _ rfl wr O;have c1:=R.out 10 _ rfl wr O;have c2:=R.out 11 _ rfl wr O;obtain ⟨P,J⟩:∃P,cyc n 3=P:=⟨_,rfl⟩;rw[J] at H C;simp only[J];clear J;obtain ⟨l,y⟩:=P;simp only at C|-;obtain ⟨hl,hy⟩:=C;obtain ⟨M,S⟩:∃M:Nat,min (l / 365) 3=M:=⟨_,rfl⟩;have A:min ((l:Int) / 365) 3=(M:Int):=om;have Q:M*365<=l:=(by clear A;omega);have hb:M<=3:=(by clear A Q;omega);have F:Hid (cyc n 4=(l - M*365,y+M*1)):=(by show _=_;rw[H.out];show (l - min (l / 365) 3*365,y+min (l / 365) 3*1)=_;rw[S]);have I:=gd A;clear H S A X;rw[show ((3:Nat):Int)=3 from rfl];go_wp2
   go_region
   rw[I.out];clear I;go_wp2;go_roundw
   case rel=>exact ⟨4,om,by rw[F.out];refine ZqS (Value.int .i64) ?_;show _=((l - M*365:Nat):Int);omega,by rw[F.out];refine ZqS (Value.int .i64) ?_;show _=((y+M*1:Nat):Int);omega,rfl,(O.alloc _).drew⟩
   case measure=>simp[intOf]
  ·rw[HF.out] at C|-;simp only at C|-;rw[show ((4:Nat):Int)=4 from rfl];have ha:=Zdm n;obtain ⟨Y,hY⟩:∃Y,yearN n=Y:=⟨_,rfl⟩;rw[hY] at C ha;simp only[hY];have ho:=Jz Y ha.2.2;have hn:Y<=9999:=(by have:=(Zb3 n).top om;rw[show (dateN n).1=yearN n from rfl,hY] at this;exact this);obtain ⟨P,J⟩:∃P,monthGo Y 11 1 (n - befN Y)=P:=⟨_,rfl⟩;have hd:Hid (dateN n=(Y,P.1,P.2+1)):=(by show _=_;rw[<-J,<-hY];rfl);have he:Hid (monN Y (1 - 1)+(n - befN Y)<lenN Y):=(by show 0+(n - befN Y)<lenN Y;omega);obtain ⟨L,hL⟩:∃L,n - befN Y=L:=⟨_,rfl⟩;rw[hL] at J he;simp only[hL] at C|-;have hm:L<=3652059:=om;have hj:=gd J;have HD:=gd (λ(m:Nat) (h3:1<=m) (h4:m<=12) w'=>by have:=Kl Y m w';rw[Xv ⟨ha.2.2,hn,h3,h4⟩] at this;exact this);have hi:=gd (HS.out.trans O);clear ho ha C J hL H X HF HS O hY;obtain ⟨wP,ht⟩:∃wP:World,wP=wr:=⟨_,rfl⟩;subst ht;go_wp2;go_loopw [6,12] (λl m wr=>∃l' m':Nat,1<=m'/\m'<=12/\l'<=3652059/\l= .int .i64 (l':Nat)/\m= .int .i64 (m':Nat)/\Hid (monthGo Y (12 - m') m' l'=P)/\Hid (monN Y (m' - 1)+l'<lenN Y)/\wr=wP) (λ_ m _=>13 - (intOf m).toNat)
   case atStart=>exact ⟨L,1,om,om,hm,rfl,rfl,hj,he,rfl⟩
   case round=>
    obtain ⟨l',m',hr,hs,hu,rfl,rfl,hp,hq,rfl⟩:=hrel;have U:=gd (HD.out m' hr hs);by_cases V:dimN Y m'<=l'
    ·have hv:m'<12:=by
      rcases ZrJ m' 12 with h|h
      ·exact h
      ·obtain rfl:m'=12:=om;have h1:=hq.out;have h2:monN Y 11+dimN Y 12=lenN Y:=Zbz Y;have h3:monN Y (12 - 1)=monN Y 11:=rfl;omega
     have Z:Hid (monthGo Y (12 - (m'+1)) (m'+1) (l' - dimN Y m')=P):=(by show _=_;have h1:=hp.out;obtain ⟨k,X⟩:∃k,12 - m'=k+1:=⟨11 - m',om⟩;rw[X,monthGo,ZqN V] at h1;rw[show 12 - (m'+1)=k by omega];exact h1);have hf:Hid (monN Y (m'+1 - 1)+(l' - dimN Y m')<lenN Y):=(by show _<_;have h1:=hq.out;obtain ⟨j,rfl⟩:∃j,m'=j+1:=⟨m' - 1,om⟩;have h2:monN Y (j+1+1 - 1)=monN Y (j+1 - 1)+dimN Y (j+1):=rfl;omega);obtain ⟨D,hD⟩:∃D,dimN Y m'=D:=⟨_,rfl⟩;rw[hD] at U V Z hf;have b1:(D:Int)<=(l':Int):=om;clear hD hp hq
     go_wp2_with (first|(go_at_call 163;refine ZqD (U.out _) ?_;rintro e w1 ⟨rfl,rfl⟩))
     go_roundw
     case rel=>exact ⟨l' - D,m'+1,om,om,om,by refine ZqS (Value.int .i64) ?_;omega,by go_num,Z,hf,trivial⟩
     case measure=>simp[intOf];omega
    ·have Z:Hid (dateN n=(Y,m',l'+1)):=by
      show _=_;have h1:=hp.out;have h2:monthGo Y (12 - m') m' l'=(m',l'):=by
       rcases ZrX (12 - m') with h|h
       ·rw[h];rfl
       ·obtain ⟨k,X⟩:∃k,12 - m'=k+1:=⟨11 - m',om⟩;rw[X,monthGo,ZqH V]
      rw[hd.out,<-h1,h2]
     obtain ⟨D,hD⟩:∃D,dimN Y m'=D:=⟨_,rfl⟩;rw[hD] at U V;have b1:¬(D:Int)<=(l':Int):=om;clear hD hp hq
     go_wp2_with (first|(go_at_call 163;refine ZqD (U.out _) ?_;rintro e w1 ⟨rfl,rfl⟩))
     ((try simp only[Exit.inBlock,Exit.then]);refine ZqT (ZfD rfl _ _ _) rfl ?_);exact ⟨by rw[Z.out];rfl,hi.out⟩
end
section
set_option linter.unusedSimpArgs false
theorem ZbC (l:List UInt8) (a:Nat) (A:sepP l a 90 122=false):offP l a=match numP l (a+1) 2,numP l (a+4) 2 with
 |some h,some m=>if (sepP l a 43 45 && sepP l (a+3) 58 58)=true/\h<=23/\m<=59/\l.length=a+6 then some (if sepP l a 45 45 then -((h*3600+m*60:Nat):Int) else ((h*3600+m*60:Nat):Int)) else none
 |_,_=>none:=by
 unfold offP;rw[A];rfl
theorem Zhc {l:List UInt8} {a:Nat} (C:sepP l a 90 122=false) (h:sepP l a 43 45=false\/oi (numP l (a+1) 2)<0\/23<oi (numP l (a+1) 2)\/sepP l (a+3) 58 58=false\/oi (numP l (a+4) 2)<0\/59<oi (numP l (a+4) 2)\/l.length≠a+6):offP l a=none:=by
 rw[ZbC l a C];cases h1:numP l (a+1) 2 with
 |none=>rfl
 |some x=>
  cases h2:numP l (a+4) 2 with
  |none=>rfl
  |some m=>
   rw[h1,h2] at h;simp only[oi] at h;simp only;rw[ZqH];rintro ⟨A,H,F,D⟩;rw[ZqZ] at A;rcases h with h|h|h|h|h|h|h
   ·rw[A.1] at h;cases h
   ·omega
   ·omega
   ·rw[A.2] at h;cases h
   ·omega
   ·omega
   ·exact h D
end
section
set_option linter.unusedSimpArgs false
theorem Znf (n:Int) (w:World) (A:Env w) (h:i64ok n):
 Calls prog 164 #[.int .i64 n] w λe w'=>e= .returned (.string (itoaS n))/\Ext w w':=by
 refine (strconv_Itoa n h.1 h.2 w A.pow).mono ?_;rintro e w' ⟨rfl,k,os,rfl⟩;exact ⟨rfl,Lib.below_grow _ w (ZqE _) k os⟩
def padZ (width n:Nat):List UInt8:=List.replicate (width - (Lib.decDigits n).length) 48++Lib.decDigits n
theorem Zqi {n:Nat} (h:n<10):UInt8.ofNat (48+n)=dg n:=by unfold dg;rw[Nat.mod_eq_of_lt h]
theorem Zpx {n:Nat} (h:n<10):Lib.decDigits n= [dg n]:=by rw[IC n h,Zqi h]
theorem Zpy {n:Nat} (h:10<=n) (A:n<100):Lib.decDigits n= [dg (n / 10),dg n]:=by rw[Vq n om,Zpx (show n / 10<10 by omega)];rfl
theorem Zqg {n:Nat} (h:100<=n) (A:n<1000):Lib.decDigits n= [dg (n / 100),dg (n / 10),dg n]:=by
 rw[Vq n om,Zpy (show 10<=n / 10 by omega) om,Nat.div_div_eq_div_mul];rfl
theorem Zqw {n:Nat} (h:1000<=n) (A:n<10000):Lib.decDigits n= [dg (n / 1000),dg (n / 100),dg (n / 10),dg n]:=by
 rw[Vq n om,Zqg (show 100<=n / 10 by omega) om,Nat.div_div_eq_div_mul,Nat.div_div_eq_div_mul];rfl
theorem Vp {n:Nat} (h:n=0):dg n=48:=by subst h;rfl
theorem ZpT {n:Nat} (h:n<100):padZ 2 n=pad2 n/\(Lib.decDigits n).length<=2:=by
 unfold padZ pad2;by_cases A:n<10
 ·rw[Zpx A,Vp (show n / 10=0 by omega)];exact ⟨rfl,by simp⟩
 ·rw[Zpy om h];exact ⟨rfl,by simp⟩
theorem ZpU {n:Nat} (h:n<10000):padZ 4 n=pad4 n/\(Lib.decDigits n).length<=4:=by
 unfold padZ pad4;by_cases A:n<10
 ·rw[Zpx A,Vp (show n / 10=0 by omega),Vp (show n / 100=0 by omega),Vp (show n / 1000=0 by omega)];exact ⟨rfl,by simp⟩
 ·by_cases C:n<100
  ·rw[Zpy om C,Vp (show n / 100=0 by omega),Vp (show n / 1000=0 by omega)];exact ⟨rfl,by simp⟩
  ·by_cases D:n<1000
   ·rw[Zqg om D,Vp (show n / 1000=0 by omega)];exact ⟨rfl,by simp⟩
   ·rw[Zqw om h];exact ⟨rfl,by simp⟩
def OB (w:World) (B:Nat) (v:Value) (l:List UInt8):Prop:=w.ownsRow B 5 1 v l.length (Lib.byteCells l)
theorem OB.of {w:World} {B n:Nat} {v:Value} {xs:List Value} {l:List UInt8} (h:w.ownsRow B 5 1 v n xs) (A:xs=Lib.byteCells l):OB w B v l:=by
 subst A;have:=h.1;rw[Zw,Nat.mul_one] at this;subst this;exact h
theorem OB.ext {w w':World} {B:Nat} {v:Value} {l:List UInt8} (h:OB w B v l) (A:Ext w w'):OB w' B v l:=Zt h A
theorem Zng (n:Nat):itoaS (n:Nat)=str (Lib.decDigits n):=by
 unfold itoaS Lib.itoa;rw[ZqH om];rfl
theorem Zka (b:World) (B:Nat) (hb:b.heap.size<=B) (hE:Env b) (v:Value) (l:List UInt8) (n width:Nat) (w:World) (hx:Ext b w) (hB:B<=w.heap.size) (ho:OB w B v l) (hl:l.length<=1000) (hn:n<10000) (hw:(Lib.decDigits n).length<=width) (hi:width<=4):
 Calls prog 131 #[v,.int .i64 (n:Nat),.int .i64 (width:Nat)] w λe w'=>∃v',e= .returned v'/\OB w' B v' (l++padZ width n)/\Ext b w':=by
 obtain ⟨i0,U,Y,Z,ha⟩:=ZrE Ju;have HI:=gd (λw' (h:Ext b w')=>Znf (n:Nat) w' (hE.ext h) ⟨om,om⟩);rw[Zng] at HI;obtain ⟨D,hD⟩:∃D,Lib.decDigits n=D:=⟨_,rfl⟩;have V:Hid (padZ width n=List.replicate (width - D.length) 48++D):=by show _=_;unfold padZ;rw[hD]
 rw[hD] at HI hw;have O:(str D).size=D.length:=by simp[str,ByteArray.size]
 have hh:((str D).size:Int)=(D.length:Int):=by rw[O]
 obtain ⟨z,hz⟩:∃z,width - D.length=z:=⟨_,rfl⟩;have hc:(width:Int) - (D.length:Int)=(z:Int):=om
 rw[hz] at V;have hj:z<=4:=om
 have hf:D.length<=4:=om
 have S:=gd hc;clear hD hz hc hw;go_enter func131,ntmps131
 go_wp2_with (first|(go_at_call 164;refine ZqD (HI.out _ hx) ?_;rintro e w1 ⟨rfl,Q⟩))
 go_loopw [0,14] (λv i wr=>∃k:Nat,k<=z/\i= .int .i64 (k:Nat)/\OB wr B v (l++List.replicate k 48)/\B<=wr.heap.size/\Ext b wr) (λ_ i _=>z - (intOf i).toNat)
 case atStart=>exact ⟨0,om,rfl,by simpa using ho.ext Q,ZqM hB Q.size,hx.trans Q⟩
 case round=>
  obtain ⟨k,hk,rfl,F,I,X⟩:=hrel;have hg:(l++List.replicate k 48).length<=1004:=by simp;omega
  by_cases he:k<z
  ·have b1:(k:Int)<(width:Int) - (D.length:Int):=by have:=S.out;omega
   go_wp2_with (at_builtin;refine Za _ rfl (.tmp 16) (.tmp 17) _ rfl B 5 i0 _ 1 1 underlying145 U Y Z ha rfl om _ _ _ rfl (F.ext ((Ext.refl wr).alloc _)) _ 1 _ rfl (Zj (cs:= [.int .u8 48]) (by simp) (by unfold maxLen;omega)) (by intro y hy;simp at hy;subst hy;rfl) (by unfold maxLen;omega) om (ZqM I ((Ext.refl wr).alloc _).size) ?_;intro v1 w2 A C H)
   have R:Ext b w2:=(X.alloc _).app C (F.ext ((Ext.refl wr).alloc _)) hb;have hd:B<=w2.heap.size:=ZqM (ZqM I ((Ext.refl wr).alloc (.cells #[.int .u8 48] 5)).size) C.size;have J:OB w2 B v1 (l++List.replicate (k+1) 48):=OB.of A (by rw[List.replicate_succ',<-ZqY,Zf (l++List.replicate k 48) [48]];rfl);clear A C H;go_roundw
   case rel=>exact ⟨k+1,he,by go_num,J,hd,R⟩
   case measure=>simp[intOf];omega
  ·have b1:¬(k:Int)<(width:Int) - (D.length:Int):=(by have:=S.out;omega);obtain rfl:k=z:=om
   go_wp2_with (at_builtin;refine Lib.wpList_append_own_string _ rfl (.tmp 20) (.tmp 21) _ _ rfl B 5 i0 underlying145 underlying9 U Y Z ha _ _ _ rfl F (str D) rfl (by rw[O];unfold maxLen;omega) (by rw[O];omega) I ?_;intro v1 w2 A C H)
   have R:Ext b w2:=X.app C F hb;have J:OB w2 B v1 (l++padZ width n):=OB.of A (by rw[V.out,<-ZqY,Zf];simp[Lib.strCells,Lib.byteCells,str]);go_ret;exact ⟨_,rfl,J,R⟩
end
section
set_option linter.unusedSimpArgs false
theorem ZhA {y m d h mi s t:Int} (A:secsI y m d h mi s=some t): -62135596800<=t/\t<=253438000000:=by
 unfold secsI at A;split at A
 ·rename_i D;injection A with A;have H:=IF (y:=y) (m:=m) om;obtain ⟨y,rfl⟩:=Int.eq_ofNat_of_zero_le (show 0<=y by omega);obtain ⟨m,rfl⟩:=Int.eq_ofNat_of_zero_le (show 0<=m by omega);obtain ⟨d,rfl⟩:=Int.eq_ofNat_of_zero_le (show 0<=d by omega);have C:1<=y/\y<=9999/\1<=m/\m<=12:=om
  have F:=Xv C;have:=ZeZ (d:=d) C om;simp only[Int.toNat_natCast] at A;omega
 ·cases A
theorem Zfl {l:List UInt8} {a:Nat} {o:Int} (h:offP l a=some o): -86400<=o/\o<=86400:=by
 cases h0:sepP l a 90 122 with
 |true=>
  unfold offP at h;rw[h0,ZqN rfl] at h;split at h
  ·injection h with h;omega
  ·cases h
 |false=>
  rw[ZbC l a h0] at h;cases h1:numP l (a+1) 2 with
  |none=>rw[h1] at h;cases h
  |some x=>
   cases h2:numP l (a+4) 2 with
   |none=>rw[h1,h2] at h;cases h
   |some y=>
    rw[h1,h2] at h;simp only at h;split at h
    ·rename_i A;injection h with h;split at h<;>omega
    ·cases h
def sepsP (l:List UInt8):Bool:=sepP l 4 45 45 && sepP l 7 45 45 && sepP l 10 84 116 && sepP l 13 58 58 && sepP l 16 58 58
theorem Zas (l:List UInt8):stampP l=if sepsP l=true then secsI (oi (numP l 0 4)) (oi (numP l 5 2)) (oi (numP l 8 2)) (oi (numP l 11 2)) (oi (numP l 14 2)) (oi (numP l 17 2)) else none:=by
 rw[ZhB];rfl
theorem Ul {l:List UInt8} (h:stampP l=none):timeP l=none:=by unfold timeP;rw[h]
theorem Zbd {l:List UInt8} (h:fracP l 19=none):timeP l=none:=by unfold timeP;rw[h];cases stampP l<;>rfl
theorem KM {l:List UInt8} {t:Int} {a:Nat} (h:stampP l=some t) (A:fracP l 19=some a):timeP l=match offP l a with|some o=>if inT (t - o) then some (t - o) else none|none=>none:=by unfold timeP;rw[h,A];rfl
def TimeR (l:List UInt8) (e:Ending):Prop:=match timeP l with
 |some t=>e= .returned (.tuple #[.int .i64 t,.int .i64 0])
 |none=>∃x:Int,x≠0/\e= .returned (.tuple #[.int .i64 0,.int .i64 x])
end
section
set_option linter.unusedSimpArgs false
def sepB (l:List UInt8) (i:Nat) (c:Nat):Bool:=match l[i]? with
 |some x=>decide (x.toNat=c)||(decide (c=116) && decide (x.toNat=84))
 |none=>false
def grpG (l:List UInt8) (bt:List Nat):List Nat->Nat->Nat->Option (List Nat×Nat)
 | [],_,a=>some ([],a)
 |w::ws,0,a=>match numP l a w with
  |some n=>(grpG l bt ws 1 (a+w)).map λp=>(n::p.1,p.2)
  |none=>none
 |w::ws,i+1,a=>if sepB l a (bt.getD i 0) then match numP l (a+1) w with
  |some n=>(grpG l bt ws (i+2) (a+1+w)).map λp=>(n::p.1,p.2)
  |none=>none
  else none
def ints (l:List Nat):List Value:=l.map λn=> .int .i64 (n:Nat)
theorem Znd (l:List Nat):(ints l).length=l.length:=by simp[ints]
def OI (w:World) (B:Nat) (v:Value) (l:List Nat):Prop:=w.ownsRow B 3 1 v l.length (ints l)
theorem OI.of {w:World} {B n:Nat} {v:Value} {xs:List Value} {l:List Nat} (h:w.ownsRow B 3 1 v n xs) (A:xs=ints l):OI w B v l:=by
 subst A;have:=h.1;rw[Znd,Nat.mul_one] at this;subst this;exact h
theorem OI.ext {w w':World} {B:Nat} {v:Value} {l:List Nat} (h:OI w B v l) (A:Ext w w'):OI w' B v l:=Zt h A
theorem Zm9:(prog.info? 3).map (λi=>(i.zero,i.size,i.bytes))=some (some (.int .i64 0),1,8):=by kernel_rfl
theorem Ze8 (s:ByteArray) (k:Nat) (h:k<=s.size):s.extract k s.size=str (s.data.toList.drop k):=by
 refine Yj ?_;have:=ZW s k (s.size - k);rw[show k+(s.size - k)=s.size by omega] at this;rw[this,Zg,Zq4];rw[ZqP,Zb];exact ZqE _
theorem Ziq (s:ByteArray) (k:Nat):s.extract 0 k=str (s.data.toList.take k):=by
 refine Yj ?_;have:=ZW s 0 k;rw[ZrH] at this;rw[this,Zg,Zsf]
theorem IM (s:ByteArray) (k:Nat) (h:k<=s.size) (A:World):
 (Instr.slice 9 (.string s) (some (.int .i64 (k:Nat))) none none).run prog A= .ok (.string (str (s.data.toList.drop k))) A:=by
 rw[run_slice_string_from_if (P:=prog) (w:=A) 9 s .i64 _ underlying9,ZqN om,Int.toNat_natCast,Ze8 s k h]
theorem Zqs (s:ByteArray) (k:Nat) (h:k<=s.size) (A:World):
 (Instr.slice 9 (.string s) none (some (.int .i64 (k:Nat))) none).run prog A= .ok (.string (str (s.data.toList.take k))) A:=by
 rw[run_slice_string_to_if (P:=prog) (w:=A) 9 s .i64 _ underlying9,ZqN om,Int.toNat_natCast,Ziq]
def GrpR (w0:World) (S:ByteArray) (o:Option (List Nat×Nat)) (e:Ending) (w':World):Prop:=match o with
 |some (ns,a)=>∃v,e= .returned (.tuple #[v,.string (str (S.data.toList.drop a)),.bool true])/\OI w' w0.heap.size v ns
 |none=>e= .returned (.tuple #[.slice none 0 0,.string ⟨#[]⟩,.bool false])
def grpA (acc:List Nat) (o:Option (List Nat×Nat)):Option (List Nat×Nat):=o.map λp=>(acc++p.1,p.2)
theorem Zk3 (acc:List Nat) (n:Nat) (o:Option (List Nat×Nat)):grpA acc (o.map λp=>(n::p.1,p.2))=grpA (acc++ [n]) o:=by
 cases o<;>simp[grpA]
theorem Zcr (S bt:ByteArray) (ws:List Nat) (V:Value) (w:World) (hS:S.size<=16777216) (hV:RSl w 1 V ws.length (ints ws)) (hb:ws.length<=bt.size+1) (hw:∀x∈ws,0<x/\x<=4) (hn:ws.length<=10) (gR:bt.size<=10):
 Calls prog 109 #[.string S,.string bt,V] w λe w'=>GrpR w S (grpG S.data.toList (bt.data.toList.map UInt8.toNat) ws 0 0) e w'/\Ext w w':=by
 obtain ⟨i0,gz,gI,gJ,gK⟩:=ZrE Zm9;obtain ⟨_,A,c,rfl,gC,gy,_,_⟩:=id hV;obtain ⟨R,hR⟩:∃R,grpG S.data.toList (bt.data.toList.map UInt8.toNat) ws 0 0=R:=⟨_,rfl⟩;rw[hR];have HV:=gd hV;have HW:=gd hw;have HR:Hid (grpA [] (grpG S.data.toList (bt.data.toList.map UInt8.toNat) ws 0 0)=R):=by show _=_;rw[hR];cases R<;>rfl
 clear hV hw hR gC gy;go_enter func109,ntmps109;go_wp2;go_loopw [0,9,18] (λt l i wr=>∃(k a:Nat) (acc:List Nat),k<=ws.length/\a<=S.size/\t= .string (str (S.data.toList.drop a))/\i= .int .i64 (k:Nat)/\OI wr w.heap.size l acc/\acc.length=k/\Hid (grpA acc (grpG S.data.toList (bt.data.toList.map UInt8.toNat) (ws.drop k) k a)=R)/\Ext w wr) (λ_ _ i _=>ws.length - (intOf i).toNat)
 case atStart=>exact ⟨0,0,[],om,om,by rw[Zsf,VH],rfl,Zrt _ _ _ _,rfl,HR,Ext.refl _⟩
 case round=>
  obtain ⟨k,a,acc,hk,ha,rfl,rfl,ho,hL,hg,hx⟩:=hrel;have gM:acc.length<=10:=by rw[hL];omega
  have hU:=gd hL;clear hL;obtain ⟨oA,oc,gD, -, -⟩:=(RSl.of_own ho).2;subst gD;have hE:(str (S.data.toList.drop a)).size=S.size - a:=by rw[Zo,ZqP,Zb]
  have hh:(str (S.data.toList.drop a)).data.toList=S.data.toList.drop a:=Zg _;obtain ⟨T,hT⟩:∃T,str (S.data.toList.drop a)=T:=⟨_,rfl⟩;rw[hT] at hE hh;simp only[hT];by_cases gi:k<ws.length
  ·obtain ⟨ad,h6,I⟩:=(HV.out.ext hx).at1 k (.int .i64 (ws[k]:Nat)) (by rw[ints,Zrq,ZqL gi];rfl);subst h6;obtain ⟨gm,gG⟩:=HW.out ws[k] (Zq2 _);rw[ZqR gi] at hg;obtain ⟨W,hW⟩:∃W,ws[k]=W:=⟨_,rfl⟩;rw[hW] at I gm gG hg;have gL:(∃n,k=n+1/\sepB S.data.toList a ((bt.data.toList.map UInt8.toNat).getD n 0)=false)\/
    (∃Q,Q<=S.size/\(k=0/\Q=a\/∃n,k=n+1/\Q=a+1/\sepB S.data.toList a ((bt.data.toList.map UInt8.toNat).getD n 0)=true)/\grpA acc (match numP S.data.toList Q W with
     |some n=>(grpG S.data.toList (bt.data.toList.map UInt8.toNat) (ws.drop (k+1)) (k+1) (Q+W)).map λp=>(n::p.1,p.2)
     |none=>none)=R):=by
    cases k with
    |zero=>exact Or.inr ⟨a,ha,Or.inl ⟨rfl,rfl⟩,hg.out⟩
    |succ n=>
     cases D:sepB S.data.toList a ((bt.data.toList.map UInt8.toNat).getD n 0) with
     |false=>exact Or.inl ⟨n,rfl,D⟩
     |true=>
      have J:a<S.data.toList.length:=by
       rcases ZrJ a S.data.toList.length with h|h
       ·exact h
       ·unfold sepB at D;rw[List.getElem?_eq_none h] at D;cases D
      rw[Zb] at J
      refine Or.inr ⟨a+1,J,Or.inr ⟨n,rfl,rfl,D⟩,?_⟩
      have U:=hg.out
      rw[grpG,ZqN D] at U
      exact U
   have gP:=HV;have HX:=gd hx;have HO:=gd ho;have gS:((W:Nat):Int)<=4:=om;rcases gL with ⟨n,rfl,D⟩|⟨Q,gx,hG,hv⟩
   ·have X:Hid (R=none):=(by show _=_;rw[<-hg.out,grpG,D];rfl);have H:n<bt.size:=om;have hD:((n+1:Nat):Int) - 1=(n:Int):=om;have hB:(0:Int)<((n+1:Nat):Int):=om;have h8:(0:Int)<=(n:Int):=om;have h9:(n:Int)<(bt.size:Int):=om;have ht:(bt.data.toList.map UInt8.toNat).getD n 0=(bt[n]'H).toNat:=(by rw[Zry,Zrq,ZqL (by rw[Zb];exact H)];rfl);rw[ht] at D;obtain ⟨C,hC⟩:∃C,(bt[n]'H).toNat=C:=⟨_,rfl⟩;have h3:(((bt[n]'H).toNat:Nat):Int)=(C:Int):=(by rw[hC]);rw[hC] at D;by_cases J:a<S.size
    ·have F:0<T.size:=om;have hQ:T.toList.isEmpty=false:=(by rw[<-Bool.not_eq_true,Zsi];intro h;have:=ZqS List.length h;rw[show T.toList=T.data.toList from ZrC _,Zb,Zq5] at this;omega);have hF:(T[0]'F).toNat=(S.data.toList[a]'(by rw[Zb];exact J)).toNat:=(by have U:T.data.toList[0]? =S.data.toList[a]?:=(by rw[hh,List.getElem?_drop,Nat.add_zero]);rw[ZqL (by rw[Zb];exact F),ZqL (by rw[Zb];exact J)] at U;injection U with U;rw[<-U];rfl);unfold sepB at D;rw[ZqL (by rw[Zb];exact J)] at D;simp only[<-hF] at D;obtain ⟨x,O⟩:∃x,(T[0]'F).toNat=x:=⟨_,rfl⟩;rw[O] at D;have gp:(((T[0]'F).toNat:Nat):Int)=(x:Int):=(by rw[O]);simp only[Bool.or_eq_false_iff,Bool.and_eq_false_iff,Zr0] at D;obtain ⟨n1,n2⟩:=D;have m1:¬(x:Int)=(C:Int):=om;have h4:(0:Int)<(T.size:Int):=om;rw[show ((n+1:Nat):Int)=(n:Int)+1 by omega] at hD hB;simp only[show ((n+1:Nat):Int)=(n:Int)+1 by omega];rw[show ad.add (n+1)=⟨ad.block,ad.off+(n+1),none⟩ from ZqH om] at I;have Z:(n:Int)+1<(ws.length:Int):=om;clear hg ho hx ht hE hh hF;have m1:((x:Int) !=(C:Int))=true:=(by rw[ZrQ];omega);by_cases gt:C=116
     ·have m2:((x:Int) !=84)=true:=(by rw[ZrQ];omega);subst gt;have m1:((x:Int) !=116)=true:=(by rw[ZrQ];omega);clear n1 n2;go_wp2
      go_ret3
      exact ⟨by rw[X.out];rfl,HX.out⟩
     ·have m3:((C:Int) !=116)=true:=(by rw[ZrQ];omega);clear n1 n2;go_wp2
      go_ret3
      exact ⟨by rw[X.out];rfl,HX.out⟩
    ·have hQ:T.toList.isEmpty=true:=(by rw[Zsi];refine ZqX ?_;rw[show T.toList=T.data.toList from ZrC _,Zb];omega);rw[show ((n+1:Nat):Int)=(n:Int)+1 by omega] at hD hB;simp only[show ((n+1:Nat):Int)=(n:Int)+1 by omega];rw[show ad.add (n+1)=⟨ad.block,ad.off+(n+1),none⟩ from ZqH om] at I;have Z:(n:Int)+1<(ws.length:Int):=om;clear hg ho hx ht hE hh D;go_wp2
     go_ret3
     exact ⟨by rw[X.out];rfl,HX.out⟩
   ·obtain ⟨T1,hq⟩:∃T1:ByteArray,str (S.data.toList.drop Q)=T1:=⟨_,rfl⟩;have hJ:T1.data.toList=S.data.toList.drop Q:=(by rw[<-hq];exact Zg _);have gE:T1.size=S.size - Q:=(by rw[<-hq,Zo,ZqP,Zb]);have gN:(T1.size:Int)<=16777216:=om;have hH:(k=0/\T=T1)\/(∃n,k=n+1/\∃(F:0<T.size) (H:n<bt.size),(∀wx,(Instr.slice 9 (.string T) (some (.int .i64 1)) none none).run prog wx= .ok (.string T1) wx)/\
     ((T[0]'F).toNat=(bt[n]'H).toNat\/((bt[n]'H).toNat=116/\(T[0]'F).toNat=84))):=by
     rcases hG with ⟨rfl,rfl⟩|⟨n,rfl,rfl,D⟩
     ·exact Or.inl ⟨rfl,by rw[<-hT,<-hq]⟩
     ·have J:a<S.size:=gx
      have F:0<T.size:=om
      have H:n<bt.size:=om
      refine Or.inr ⟨n,rfl,F,H,λwx=> ?_,?_⟩
      ·have:=IM T 1 om wx
       rw[show ((1:Nat):Int)=1 from rfl,hh,List.drop_drop,hq] at this
       exact this
      ·have ht:(bt.data.toList.map UInt8.toNat).getD n 0=(bt[n]'H).toNat:=(by rw[Zry,Zrq,ZqL (by rw[Zb];exact H)];rfl)
       have hF:(T[0]'F).toNat=(S.data.toList[a]'(by rw[Zb];exact J)).toNat:=by
        have U:T.data.toList[0]? =S.data.toList[a]?:=(by rw[hh,List.getElem?_drop,Nat.add_zero])
        rw[ZqL (by rw[Zb];exact F),ZqL (by rw[Zb];exact J)] at U
        injection U with U
        rw[<-U];rfl
       rw[ht] at D
       unfold sepB at D
       rw[ZqL (by rw[Zb];exact J)] at D
       simp only[<-hF,ZsI,ZqZ,Zrd] at D
       exact D
    obtain ⟨kv,hP⟩:∃kv,kv=k:=⟨k,rfl⟩;rw[<-hP] at hv hU;have hi:=gd hv;have hI:=gd hP;have gg:kv+1<=ws.length:=om;clear hP;clear hG hv hg ho hx hq hE hh hT;by_cases gs:T1.size<W
    ·have X:Hid (R=none):=(by show _=_;rw[<-hi.out,Vz (by rw[Zb];omega) gm];rfl);have q1:(T1.size:Int)<(W:Int):=om;clear gE hJ;rcases hH with ⟨rfl,rfl⟩|⟨n,rfl,F,H,gF,hf⟩
     ·rw[add_zero] at I;rw[show ((0:Nat):Int)=0 from rfl];have Z:(0:Int)<(ws.length:Int):=om;go_wp2
      go_ret3
      exact ⟨by rw[X.out];rfl,HX.out⟩
     ·have hD:(n:Int)+1 - 1=(n:Int):=om;have hB:(0:Int)<(n:Int)+1:=om;have h8:(0:Int)<=(n:Int):=om;have h9:(n:Int)<(bt.size:Int):=om;have h4:(0:Int)<(T.size:Int):=om;have Z:(n:Int)+1<(ws.length:Int):=om;have hQ:T.toList.isEmpty=false:=(by rw[<-Bool.not_eq_true,Zsi];intro h;have:=ZqS List.length h;rw[show T.toList=T.data.toList from ZrC _,Zb,Zq5] at this;omega);simp only[show ((n+1:Nat):Int)=(n:Int)+1 by omega];rw[show ad.add (n+1)=⟨ad.block,ad.off+(n+1),none⟩ from ZqH om] at I;obtain ⟨C,hC⟩:∃C,(bt[n]'H).toNat=C:=⟨_,rfl⟩;obtain ⟨x,O⟩:∃x,(T[0]'F).toNat=x:=⟨_,rfl⟩;have h3:(((bt[n]'H).toNat:Nat):Int)=(C:Int):=(by rw[hC]);have gp:(((T[0]'F).toNat:Nat):Int)=(x:Int):=(by rw[O]);rw[hC,O] at hf;clear hC O;have hr:(((x:Int) !=(C:Int))=false/\x=C)\/(((x:Int) !=(C:Int))=true/\C=116/\x=84):=by
       rcases hf with h|⟨U,h2⟩
       ·exact Or.inl ⟨by simp[h],h⟩
       ·exact Or.inr ⟨by rw[ZrQ];omega,U,h2⟩
      clear hf;rcases hr with ⟨m1,rfl⟩|⟨m1,rfl,rfl⟩
      all_goals go_wp2
      all_goals go_ret3
      all_goals exact ⟨by rw[X.out];rfl,HX.out⟩
    ·have q1:¬(T1.size:Int)<(W:Int):=om;have he:W<=T1.size:=om;obtain ⟨Y,hY⟩:∃Y,str (T1.data.toList.take W)=Y:=⟨_,rfl⟩;have gu:Y.data.toList=(S.data.toList.drop Q).take W:=(by rw[<-hY,Zg,hJ]);have gw:Y.size=W:=(by rw[<-hY,Zo,Zra,Zb];omega);have gQ:(Y.size:Int)=(W:Int):=om;obtain ⟨T2,hK⟩:∃T2,str (S.data.toList.drop (Q+W))=T2:=⟨_,rfl⟩;have gl:∀wx,(Instr.slice 9 (.string T1) none (some (.int .i64 (W:Nat))) none).run prog wx= .ok (.string Y) wx:=λwx=>(by rw[<-hY];exact Zqs T1 W he wx);have gO:∀wx,(Instr.slice 9 (.string T1) (some (.int .i64 (W:Nat))) none none).run prog wx= .ok (.string T2) wx:=λwx=>(by have:=IM T1 W he wx;rw[hJ,List.drop_drop,hK] at this;exact this);have gb:=λwx=>Lib.run_convert_string_bytes (P:=prog) wx 9 145 5 Y (u:= .string) underlying9 underlying145 underlying5;rw[gw] at gb;have h0:=gd hK;clear hY hK;rcases hH with ⟨rfl,rfl⟩|⟨n,rfl,F,H,gF,hf⟩
     focus
      rw[add_zero] at I
      rw[show ((0:Nat):Int)=0 from rfl]
      have Z:(0:Int)<(ws.length:Int):=om
     rotate_left
     have hD:(n:Int)+1 - 1=(n:Int):=om;have hB:(0:Int)<(n:Int)+1:=om;have h8:(0:Int)<=(n:Int):=om;have h9:(n:Int)<(bt.size:Int):=om;have h4:(0:Int)<(T.size:Int):=om;have Z:(n:Int)+1<(ws.length:Int):=om;have hQ:T.toList.isEmpty=false:=(by rw[<-Bool.not_eq_true,Zsi];intro h;have:=ZqS List.length h;rw[show T.toList=T.data.toList from ZrC _,Zb,Zq5] at this;omega);simp only[show ((n+1:Nat):Int)=(n:Int)+1 by omega];rw[show ad.add (n+1)=⟨ad.block,ad.off+(n+1),none⟩ from ZqH om] at I;obtain ⟨C,hC⟩:∃C,(bt[n]'H).toNat=C:=⟨_,rfl⟩;obtain ⟨x,O⟩:∃x,(T[0]'F).toNat=x:=⟨_,rfl⟩;have h3:(((bt[n]'H).toNat:Nat):Int)=(C:Int):=(by rw[hC]);have gp:(((T[0]'F).toNat:Nat):Int)=(x:Int):=(by rw[O]);rw[hC,O] at hf;clear hC O;have hr:(((x:Int) !=(C:Int))=false/\x=C)\/(((x:Int) !=(C:Int))=true/\C=116/\x=84):=by
      rcases hf with h|⟨U,h2⟩
      ·exact Or.inl ⟨by simp[h],h⟩
      ·exact Or.inr ⟨by rw[ZrQ];omega,U,h2⟩
     clear hf;rcases hr with ⟨m1,rfl⟩|⟨m1,rfl,rfl⟩
     all_goals go_wp2
     all_goals
      obtain ⟨W1,he⟩:∃W1,W1=Lib.bytesWorld wr 5 Y:=⟨_,rfl⟩
      have go:Ext wr W1:=(by rw[he];exact (Ext.refl wr).bytes _ _)
      have ga:BR W1 wr.heap.size Y.data.toList:=(by rw[he];exact BR.bytes wr Y)
      have hX:=gd ga
      have hA:=gd go
      rw[<-he]
      generalize Go.grownCap wr W 0 5=cap
      obtain ⟨g,gf⟩:∃g,wr.heap.size=g:=⟨_,rfl⟩
      rw[gf] at hX|-
      obtain ⟨wP,gH⟩:∃wP:World,wP=wr:=⟨_,rfl⟩
      subst gH
      clear he gb gf gl ga go
      go_loopw [13,57] (λn i wr=>∃j m:Nat,j<=W/\m<=9999/\n= .int .i64 (m:Nat)/\i= .int .i64 (j:Nat)/\Hid (numP S.data.toList Q j=some m)/\wr=W1) (λ_ i _=>W - (intOf i).toNat)
      case atStart=>exact ⟨0,0,om,om,rfl,rfl,rfl,rfl⟩
      case round=>
       obtain ⟨j,m,hj,hm,rfl,rfl,hp,rfl⟩:=hrel
       by_cases hN:j<W
       ·have hO:j<Y.data.toList.length:=(by rw[Zb];omega)
        have hc:=hX.out.cell j hO
        have J:Q+j<S.data.toList.length:=(by rw[Zb];omega)
        have gq:Y.data.toList[j]=S.data.toList[Q+j]:=by
         have U:Y.data.toList[j]? =S.data.toList[Q+j]?:=(by rw[gu,List.getElem?_take_of_lt hN,List.getElem?_drop])
         rw[ZqL hO,ZqL J] at U
         injection U
        have hd:=Ze3 J
        rw[<-gq] at hd
        obtain ⟨y,hy⟩:∃y,Y.data.toList[j].toNat=y:=⟨_,rfl⟩
        rw[hy] at hc hd
        have gT:y<256:=(by rw[<-hy];exact UInt8.toNat_lt _)
        have hz:=gd hd
        have b1:(j:Int)<(W:Int):=om
        have b0:(0:Int)<=(j:Int):=om
        clear hd gq hy J hO
        by_cases hs:48<=y/\y<=57
        ·have hZ:Hid (numP S.data.toList Q (j+1)=some (m*10+(y - 48))):=Zet hp.out (by rw[hz.out,ZqN hs])
         have gB:m*10+(y - 48)<=9999:=by
          have U:=Xx hZ.out
          have h2:10 ^ (j+1)<=10 ^ 4:=Nat.pow_le_pow_right om om
          omega
         have c1:¬(y:Int)<48:=om
         have c2:¬57<(y:Int):=om
         clear hz hp
         go_wp2
         go_roundw
         case rel=>exact ⟨j+1,m*10+(y - 48),hN,gB,by refine ZqS (Value.int .i64) ?_;omega,by go_num,hZ,trivial⟩
         case measure=>simp[intOf];omega
        ·have X:Hid (R=none):=by
          show _=_
          rw[<-hi.out,Q5 (k:=j) (by rw[hz.out,ZqH hs]) hN];rfl
         have hM:(y:Int)<48\/(¬(y:Int)<48/\57<(y:Int)):=om
         clear hz hp hs
         rcases hM with c1|⟨c1,c2⟩
         all_goals go_wp2
         all_goals go_ret3
         all_goals exact ⟨by rw[X.out];rfl,HX.out.trans hA.out⟩
       ·obtain rfl:j=W:=om
        have gk:OI wr w.heap.size (.slice oA acc.length oc) acc:=Zt HO.out hA.out
        have hl:Hid (grpA (acc++ [m]) (grpG S.data.toList (bt.data.toList.map UInt8.toNat) (ws.drop (kv+1)) (kv+1) (Q+j))=R):=by
         show _=_
         rw[<-hi.out,hp.out,<-Zk3]
        have b1:¬(j:Int)<(j:Int):=om
        clear hp
        go_wp2
        go_region_law (refine Zk _ rfl (.tmp 74) (.tmp 76) _ rfl w.heap.size 3 i0 _ 1 8 underlying168 gz gI gJ gK rfl om _ _ _ rfl ((OI.ext gk ((Ext.refl wr).alloc _)).drew) _ 1 _ rfl (RSl.ext (Zj (cs:= [.int .i64 (m:Nat)]) (by simp) (by unfold maxLen;omega)) (Ext.refl _).drew) (by intro y hy;simp at hy;subst hy;rfl) (by unfold maxLen;omega) om (by simp;have:=(HX.out.trans hA.out).size;omega) ?_;intro v1 gr hu ge h7)
        all_goals have gn:Ext w gr:=(((HX.out.trans hA.out).alloc _).drew).app ge (OI.ext gk ((Ext.refl wr).alloc _)).drew (ZqE _)
        all_goals have gj:OI gr w.heap.size v1 (acc++ [m]):=OI.of hu (by simp[ints])
        all_goals have gh:(acc++ [m]).length=kv+1:=by rw[ZqG,hU.out];rfl
        all_goals have h5:Q+j<=S.size:=om
        all_goals clear ge h7 hu
        all_goals go_wp2
        all_goals go_roundw
        all_goals first|exact ⟨kv+1,Q+j,acc++ [m],gg,h5,ZqS Value.string h0.out.symm,by rw[hI.out];go_num,gj,gh,hl,gn⟩|(simp[intOf];have:=hI.out;omega)|((repeat apply Zsb);exact ⟨⟨kv+1,Q+j,acc++ [m],gg,h5,ZqS Value.string h0.out.symm,by rw[hI.out];go_num,gj,gh,hl,gn⟩,rfl⟩)
  ·have gA:k=ws.length:=om;have gc:Hid (R=some (acc,a)):=(by show _=_;rw[<-hg.out,Zq3 om];simp[grpG,grpA]);subst gA;have HO:=gd ho;have HX:=gd hx;clear hg ho hx hk;go_wp2
   go_ret3
   refine ⟨?_,HX.out⟩;rw[gc.out,<-hT];exact ⟨_,rfl,HO.out⟩
end
theorem Zd2 (l:List UInt8) (k i:Nat):digP (l.drop k) i=digP l (k+i):=by unfold digP;rw[List.getElem?_drop]
theorem QZ (l:List UInt8) (k a:Nat):∀w,numP (l.drop k) a w=numP l (k+a) w
 |0=>rfl
 |w+1=>by unfold numP;rw[QZ l k a w,Zd2,Nat.add_assoc]
theorem Zar (l:List UInt8) (k i a b:Nat):sepP (l.drop k) i a b=sepP l (k+i) a b:=by unfold sepP;rw[List.getElem?_drop]
theorem Zb6 (l:List UInt8) (k:Nat):∀(f i:Nat),digsP (l.drop k) f i=digsP l f (k+i)
 |0,_=>rfl
 |f+1,i=>by unfold digsP;rw[Zd2,Zb6 l k f (i+1),Nat.add_assoc]
theorem ZlA (l:List UInt8) (k a:Nat) (h:k<=l.length):offP (l.drop k) a=offP l (k+a):=by
 unfold offP;simp only[Zar,QZ,ZqP,<-Nat.add_assoc];have e1:(l.length - k=a+1)=(l.length=k+a+1):=propext om;have e6:(l.length - k=a+6)=(l.length=k+a+6):=propext om;simp only[e1,e6]
theorem ZfE (l:List UInt8) (i c:Nat) (h:c≠116):sepB l i c=sepP l i c c:=by
 unfold sepB sepP;cases l[i]? with
 |none=>rfl
 |some x=>simp[h]
theorem Zp1 (l:List UInt8) (i:Nat):sepB l i 116=sepP l i 84 116:=by
 unfold sepB sepP;cases l[i]? with
 |none=>rfl
 |some x=>simp[Bool.or_comm]
theorem Zqy (l:List UInt8):grpG l [58] [2,2] 0 0=match numP l 0 2,numP l 3 2 with
 |some h,some m=>if sepP l 2 58 58 then some ([h,m],5) else none
 |_,_=>none:=by
 simp only[grpG,ZfE l 2 58 (by decide),ZrH,List.getD_cons_zero,Nat.reduceAdd];cases numP l 0 2 with
 |none=>rfl
 |some h=>
  cases sepP l 2 58 58 with
  |false=>cases numP l 3 2<;>rfl
  |true=>cases numP l 3 2<;>rfl
theorem Zqz (l:List UInt8):grpG l [45,45,116,58,58] [4,2,2,2,2,2] 0 0=if sepsP l then match numP l 0 4,numP l 5 2,numP l 8 2,numP l 11 2,numP l 14 2,numP l 17 2 with
 |some y,some m,some d,some h,some mi,some s=>some ([y,m,d,h,mi,s],19)
 |_,_,_,_,_,_=>none
 else none:=by
 unfold sepsP;simp only[grpG,ZfE l _ 45 (by decide),ZfE l _ 58 (by decide),Zp1,ZrH,List.getD_cons_zero,List.getD_cons_succ,Nat.reduceAdd];cases numP l 0 4 with
 |none=>cases sepP l 4 45 45<;>cases sepP l 7 45 45<;>cases sepP l 10 84 116<;>cases sepP l 13 58 58<;>cases sepP l 16 58 58<;>rfl
 |some y=>
  cases sepP l 4 45 45 with
  |false=>rfl
  |true=>
   cases numP l 5 2 with
   |none=>cases sepP l 7 45 45<;>cases sepP l 10 84 116<;>cases sepP l 13 58 58<;>cases sepP l 16 58 58<;>rfl
   |some m=>
    cases sepP l 7 45 45 with
    |false=>rfl
    |true=>
     cases numP l 8 2 with
     |none=>cases sepP l 10 84 116<;>cases sepP l 13 58 58<;>cases sepP l 16 58 58<;>rfl
     |some d=>
      cases sepP l 10 84 116 with
      |false=>rfl
      |true=>
       cases numP l 11 2 with
       |none=>cases sepP l 13 58 58<;>cases sepP l 16 58 58<;>rfl
       |some h=>
        cases sepP l 13 58 58 with
        |false=>rfl
        |true=>
         cases numP l 14 2 with
         |none=>cases sepP l 16 58 58<;>rfl
         |some mi=>
          cases sepP l 16 58 58 with
          |false=>rfl
          |true=>cases numP l 17 2<;>rfl
end Go.Proofs.YtmfinhgobjbecaaGreatDoor
