/- Parts of the proof: contracts and plain laws. -/
import Derived.Test.YthlnaldahkgjnaaGreatDoorZ11
namespace Go.Proofs.YthlnaldahkgjnaaGreatDoor
open Go Go.RowKit _root_.Go.Proofs.Tryz
set_option linter.unusedVariables false
set_option linter.unusedSimpArgs false
set_option maxRecDepth 100000
set_option maxHeartbeats 16000000
section
def idW (j:JO):ByteArray:=if collapse (firstJ j [nFeedUrl])=noS then firstJ j [nHome] else firstJ j [nFeedUrl]
def itemK (j:JO):Option (Nat×Nat):=match memJ j nItems with
 |some x=>if kindJ x≠4 then some (atJ x,21) else none
 |none=>none
def itsW (j:JO):List JO:=match memJ j nItems with
 |some x=>itemsJ x
 |none=> []
def headWJ (j:JO):Option (Nat×Nat):=orF (orF (orF (chkJ j false [nFeedUrl,nHome,nTitle,nUpdated]) (reqF j (idW j))) (faultD (dateJ j [nUpdated]))) (itemK j)
def firstFs:List JO->Option (Nat×Nat)
 | []=>none
 |x::t=>orF (entF x) (firstFs t)
theorem Vs:∀(l m:List JO),firstFs (l++m)=orF (firstFs l) (firstFs m)
 | [],_=>rfl
 |x::t,m=>by
  show orF (entF x) (firstFs (t++m))=orF (orF (entF x) (firstFs t)) (firstFs m)
  rw[Vs t m,Xw]
theorem Ua {l:List JO} {k:Nat} (h:k<l.length):firstFs (l.take (k+1))=orF (firstFs (l.take k)) (entF l[k]):=by
 rw[Zy h,Vs];show orF _ (orF (entF l[k]) none)=_;rw[Y9]
theorem Xd {l:List JO} {k:Nat} {f:Nat×Nat} {o:Option (Nat×Nat)} (h:orF o (firstFs (l.take k))=some f):orF o (firstFs l)=some f:=by
 conv=>lhs;rw[<-List.take_append_drop k l,Vs,<-Xw,h]
 rfl
theorem GH:∀l:List JO,entsJ l=(match firstFs l with |some f=> .error f |none=>entsJ l)
 | []=>rfl
 |x::t=>by
  have ih:=GH t;have h:=EV x;have e:entsJ (x::t)=match entryJ x with
   | .error e=> .error e
   | .ok x=>match entsJ t with
    | .error e=> .error e
    | .ok l=> .ok (x::l):=rfl
  show entsJ (x::t)=match orF (entF x) (firstFs t) with
   |some f=>Except.error f
   |none=>entsJ (x::t)
  cases hx:entryJ x with
  |error f=>rw[hx] at h;rw[h,e,hx];rfl
  |ok y=>
   rw[hx] at h;rw[h];show entsJ (x::t)=match firstFs t with
    |some f=>Except.error f
    |none=>entsJ (x::t)
   cases hf:firstFs t with
   |none=>rfl
   |some f=>rw[hf] at ih;rw[e,hx,ih]
theorem Kt:∀{l:List JO} {E:List Ent},firstFs l=none->E.length=l.length->(∀(i:Nat) (e:Ent) (x:JO),E[i]? =some e->l[i]? =some x->EntR x e)->entsJ l= .ok E
 | [],E,_,hl,_=>by rw[ZI hl];rfl
 |x::t,[],_,hl,_=>by simp at hl
 |x::t,e::E,hf,hl,hr=>by
  have j:orF (entF x) (firstFs t)=none:=hf
  have C:entF x=none:=by cases h:entF x with
   |none=>rfl
   |some f=>rw[h] at j;cases j
  rw[C] at j
  have ih:=Kt (l:=t) (E:=E) j (by simpa using hl) λi a y G H=>hr (i+1) a y (by simpa using G) (by simpa using H)
  have A:=EV x
  rw[C] at A
  cases hx:entryJ x with
  |error f=>rw[hx] at A;cases A
  |ok y=>
   have F:=ZfW (hr 0 e x rfl rfl) hx
   have D:entsJ (x::t)=match entryJ x with
    | .error e=> .error e
    | .ok x=>match entsJ t with
     | .error e=> .error e
     | .ok l=> .ok (x::l):=rfl
   rw[D,hx,ih,F]
theorem Zc0 {j:JO} (h:chkJ j false [nFeedUrl,nHome,nTitle,nUpdated]=none):firstJ j [nFeedUrl]=textJ j nFeedUrl/\firstJ j [nHome]=textJ j nHome/\firstJ j [nTitle]=textJ j nTitle:=by
 have A:=EQ _ h;exact ⟨XR (A _ (by simp)),XR (A _ (by simp)),XR (A _ (by simp))⟩
theorem ZcH (j:JO) (I:versJ j≠none):decJ j=match orF (headWJ j) (firstFs (itsW j)) with
 |some f=> .error f
 |none=>match dateJ j [nUpdated] with
  | .error e=> .error e
  | .ok t=>match entsJ (itsW j) with
   | .error e=> .error e
   | .ok l=> .ok ⟨[],idW j,firstJ j [nTitle],firstJ j [nHome],t,l⟩:=by
 unfold decJ headWJ;rw[Zf I];cases hc:chkJ j false [nFeedUrl,nHome,nTitle,nUpdated] with
 |some e=>rfl
 |none=>
  obtain ⟨G,D,H⟩:=Zc0 hc;have C:idW j=feedId j:=by unfold idW feedId;rw[G,D]
  simp only[orF];unfold reqF;rw[C,D,H];by_cases A:collapse (feedId j)=noS
  ·rw[Zi A,Zi A]
  ·rw[Zf A,Zf A];cases hd:dateJ j [nUpdated] with
   |error e=>rfl
   |ok t=>
    unfold itemK itsW;cases hm:memJ j nItems with
    |none=>rfl
    |some x=>
     simp only[faultD,orF];by_cases h:kindJ x≠4
     ·rw[Zi h,Zi h]
     ·rw[Zf h,Zf h];have F:=GH (itemsJ x);cases hff:firstFs (itemsJ x) with
      |some f=>rw[hff] at F;rw[F]
      |none=>rfl
theorem XN {j:JO} {f:Nat×Nat} (A:versJ j≠none) (h:orF (headWJ j) (firstFs (itsW j))=some f):decJ j= .error f:=by
 rw[ZcH j A,h]
theorem XV {j:JO} {t:Int} {E:List Ent} (H:versJ j≠none) (h:orF (headWJ j) (firstFs (itsW j))=none) (G:∀v,dateJ j [nUpdated]= .ok v->t=v) (D:E.length=(itsW j).length)
 (F:∀(i:Nat) (e:Ent) (x:JO),E[i]? =some e->(itsW j)[i]? =some x->EntR x e):decJ j= .ok ⟨[],idW j,firstJ j [nTitle],firstJ j [nHome],t,E⟩:=by
 have A:headWJ j=none:=by cases hh:headWJ j with
  |none=>rfl
  |some f=>rw[hh] at h;cases h
 have C:firstFs (itsW j)=none:=by rw[A] at h;exact h
 rw[ZcH j H,h];cases hd:dateJ j [nUpdated] with
 |error e=>
  unfold headWJ at A;rw[hd] at A;cases hx:orF (chkJ j false [nFeedUrl,nHome,nTitle,nUpdated]) (reqF j (idW j)) with
  |some f=>rw[hx] at A;cases A
  |none=>rw[hx] at A;cases A
 |ok v=>rw[Kt C D F,G v hd]
structure DC (w0:World) (N b:Nat) (j:JO) (cs:List Value):Prop where
 h:RJ w0 j cs
 hg:jsz N j
 hN:N<=16777216
 hE:Env w0
 hb:w0.heap.size<=b
section
variable {w0 W:World} {N b:Nat} {j:JO} {cs:List Value} {o:Option (Nat×Nat)}
theorem VE (C:DC w0 N b j cs) (R:Ext w0 W) (H:RdAt b cs o W) (A:List ByteArray) (Q:A.length<=1000) (I:Nat) (G:I=W.heap.size):
 Calls prog 28 #[.pointer (some ⟨b,0,none⟩),.slice (some ⟨I,0,none⟩) A.length A.length] (W.alloc (.cells (A.map Value.string).toArray 9)) λe w'=>e= .returned (.tuple #[])/\RdAt b cs (orF o (chkJ j false A)) w'/\Bar b W w':=by
 subst G;have D:=(Ext.refl W).alloc (.cells (A.map Value.string).toArray 9);have F:=(Ze.1 H.1).1;exact (IY N j cs b W.heap.size o A w0 _ C.h C.hg C.hN C.hE (R.trans D) C.hb (H.ext D) (Zh W _) (Nat.ne_of_gt F) Q).mono λ_ _ ⟨J,K,O⟩=>⟨J,K,(Bar.of D).trans O⟩
theorem Xu (C:DC w0 N b j cs) (O:Ext w0 W) (K:RdAt b cs o W) (A:List ByteArray) (J:A.length<=1000) (G:Nat) (F:G=W.heap.size):
 Calls prog 29 #[.pointer (some ⟨b,0,none⟩),.slice (some ⟨G,0,none⟩) A.length A.length] (W.alloc (.cells (A.map Value.string).toArray 9)) λe w'=>e= .returned (.string (firstJ j A))/\Ext W w':=by
 subst F;have D:=(Ext.refl W).alloc (.cells (A.map Value.string).toArray 9);exact (En j cs b W.heap.size o A w0 _ C.h (O.trans D) (K.ext D) (Zh W _) J).mono λ_ _ ⟨H,I⟩=>⟨H,D.trans I⟩
theorem Gj (C:DC w0 N b j cs) (S:Ext w0 W) (H:RdAt b cs o W) (A:List ByteArray) (R:A.length<=1000) (I:Nat) (G:I=W.heap.size):
 Calls prog 32 #[.pointer (some ⟨b,0,none⟩),.slice (some ⟨I,0,none⟩) A.length A.length] (W.alloc (.cells (A.map Value.string).toArray 9)) λe w'=>∃t:Int,e= .returned (.int .i64 t)/\(∀v,dateJ j A= .ok v->t=v)/\RdAt b cs (orF o (faultD (dateJ j A))) w'/\Bar b W w':=by
 subst G;have D:=(Ext.refl W).alloc (.cells (A.map Value.string).toArray 9);have F:=(Ze.1 H.1).1;exact (ZaA N j cs b W.heap.size o A w0 _ C.h C.hg C.hN (S.trans D) (H.ext D) (Zh W _) (Nat.ne_of_gt F) R).mono λ_ _ ⟨⟨t,J,K⟩,O,Q⟩=>⟨t,J,K,O,(Bar.of D).trans Q⟩
end
end
section
section
variable {P:Program} {md:Region.Mode} {ops:Array Oper} {Q:Exit→Act→World→Prop} {S:World→Prop} {T:Array Bool→Act→World→Prop} {t:Nat}
def wpAnyC (P:Program) (md:Region.Mode) (ops:Array Oper) (Q:Exit->Act->World->Prop) (S:World->Prop) (T:Array Bool->Act->World->Prop):Nat->Array Bool->Act->World->Prop
 |0,listed,a,w=>T listed a w
 |f+1,listed,a,w=>(Region.ready md ops listed= []->Q .normal a w)/\
  ∀i∈Region.ready md ops listed,wpOp P ops Q i (λa' w'=>S w'/\wpAnyC P md ops Q S T f (listed.setIfInBounds i true) a' w') a w
theorem Iu {m:Nat} (A:∀L a w,T L a w->wpAnyT P md ops Q S t m L a w):∀(f k:Nat) (listed:Array Bool) (a:Act) (w:World),k=f+m->wpAnyC P md ops Q S T f listed a w->wpAnyT P md ops Q S t k listed a w
 |0,k,listed,a,w,hk,h=>by rw[hk,Yf];exact A _ _ _ h
 |f+1,k,listed,a,w,hk,h=>by
  rw[hk,show f+1+m=(f+m)+1 by omega]
  exact ⟨h.1,λi C=>IR (λa' w' j=>⟨λ_=>j.1,Iu A f (f+m) _ a' w' rfl j.2⟩) (h.2 i C)⟩
theorem G0 {m f k:Nat} {l:List Oper} {listed:Array Bool} {a:Act} {w:World} (D:k=f+m) (j:Array Bool) (R:Act->Act->World->Prop)
 (A:wpAnyC P md l.toArray Q S (λL a' w'=>L=j/\R a a' w') f listed a w) (C:∀a' w',R a a' w'->wpAnyT P md l.toArray Q S t m j a' w'):wpAnyT P md l.toArray Q S t k listed a w:=
 Iu (λL a w h=>by obtain ⟨rfl,h⟩:=h;exact C a w h) f k listed a w D A
theorem Qy {l:List Oper} {f:Nat} {listed:Array Bool} {a:Act} {w:World} (q:Nat) (o:Oper) (G:l[q]? =some o)
 (h:∀K:Act->World->Prop,(∀a' w',S w'->wpAnyC P md l.toArray Q S T f (listed.setIfInBounds q true) a' w'->K a' w')->if Region.wanted o (yielded l.toArray a.tmps) then Oper.wp P o a w K Q else K (a.put o.dst undef) w):
 wpOp P l.toArray Q q (λa' w'=>S w'/\wpAnyC P md l.toArray Q S T f (listed.setIfInBounds q true) a' w') a w:=by
 have A:l.toArray[q]? =some o:=by rw[YE];exact G
 have j:=h (λa' w'=>S w'/\wpAnyC P md l.toArray Q S T f (listed.setIfInBounds q true) a' w') λ_ _ D F=>⟨D,F⟩;unfold wpOp;simp only[A];split
 ·rename_i C;rw[Zi C] at j;exact Or.inl j
 ·rename_i C;rw[Zf C] at j;exact j
section
variable {l:List Oper} {f:Nat} {listed:Array Bool} {a:Act} {w:World} {i j k:Nat} {oi oj ok:Oper}
theorem XF (j:l[i]? =some oi) (C:Region.ready md l.toArray listed= [i])
 (D:∀K:Act->World->Prop,(∀a' w',S w'->wpAnyC P md l.toArray Q S T f (listed.setIfInBounds i true) a' w'->K a' w')->if Region.wanted oi (yielded l.toArray a.tmps) then Oper.wp P oi a w K Q else K (a.put oi.dst undef) w):wpAnyC P md l.toArray Q S T (f+1) listed a w:=by
 refine ⟨λh=>(by rw[C] at h;cases h),λq A=> ?_⟩;rw[C] at A;rw[Z8.1 A];exact Qy i oi j D
theorem Ve (C:l[i]? =some oi) (D:l[j]? =some oj) (F:Region.ready md l.toArray listed= [i,j])
 (G:∀K:Act->World->Prop,(∀a' w',S w'->wpAnyC P md l.toArray Q S T f (listed.setIfInBounds i true) a' w'->K a' w')->if Region.wanted oi (yielded l.toArray a.tmps) then Oper.wp P oi a w K Q else K (a.put oi.dst undef) w)
 (H:∀K:Act->World->Prop,(∀a' w',S w'->wpAnyC P md l.toArray Q S T f (listed.setIfInBounds j true) a' w'->K a' w')->if Region.wanted oj (yielded l.toArray a.tmps) then Oper.wp P oj a w K Q else K (a.put oj.dst undef) w):wpAnyC P md l.toArray Q S T (f+1) listed a w:=by
 refine ⟨λh=>(by rw[F] at h;cases h),λq A=> ?_⟩;rw[F] at A;simp only[ZG,YD,YK] at A;rcases A with A|A
 ·rw[A];exact Qy i oi C G
 ·rw[A];exact Qy j oj D H
end
end
section
variable {P:Program} {md:Region.Mode} {Q:Exit→Act→World→Prop} {S:World→Prop} {t:Nat} {l:List Oper} {f:Nat} {listed:Array Bool} {a:Act} {w:World} {i j:Nat} {oi oj:Oper}
theorem Yo (D:l[i]? =some oi) (H:Region.ready md l.toArray listed= [i])
 (A:∀K:Act->World->Prop,(∀a' w',((listed.setIfInBounds i true).getD t true=false->S w')->wpAnyT P md l.toArray Q S t f (listed.setIfInBounds i true) a' w'->K a' w')->if Region.wanted oi (yielded l.toArray a.tmps) then Oper.wp P oi a w K Q else K (a.put oi.dst undef) w):wpAnyT P md l.toArray Q S t (f+1) listed a w:=by
 refine ⟨λh=>(by rw[H] at h;cases h),λq G=> ?_⟩;rw[H] at G;rw[Z8.1 G];have C:l.toArray[i]? =some oi:=by rw[YE];exact D
 have j:=A (λa' w'=>((listed.setIfInBounds i true).getD t true=false->S w')/\wpAnyT P md l.toArray Q S t f (listed.setIfInBounds i true) a' w') λ_ _ A I=>⟨A,I⟩;unfold wpOp;simp only[C];split
 ·rename_i F;rw[Zi F] at j;exact Or.inl j
 ·rename_i F;rw[Zf F] at j;exact j
theorem Jy (j:Region.ready md l.toArray listed= []) (h:Q .normal a w):wpAnyT P md l.toArray Q S t 0 listed a w:=⟨j,h⟩
end
end
section
set_option linter.unusedSimpArgs false
attribute [local go_sem] calm1
def DecR (w':World) (r:Except (Nat×Nat) Fd) (e:Ending):Prop:=match r with
 | .error f=>e= .returned (.tuple #[.agg (cellsC zeroC).toArray,.int .i64 (f.1:Nat),.int .i64 (f.2:Nat)])
 | .ok f=>∃y:Fc,e= .returned (.tuple #[.agg (cellsC y).toArray,.int .i64 0,.int .i64 (errF f:Nat)])/\y.f=normF f/\RdC w' y/\slC y
theorem Zf5 (j:JO) (cs:List Value) (w:World) (h:RJ w j cs) (hv:versJ j=none):
 Calls prog 12 #[.agg cs.toArray] w λe w'=>DecR w' (.error (atJ j,18)) e/\Ext w w':=by
 have J:=gd (λw' (hx:Ext w w')=>Xm j cs w w' h hx);rw[hv] at J;obtain ⟨A,p,c,B,q,d,X⟩:=h.cells;generalize kindJ j=K,bJ j=Bb,nJ j=Nn,sJ j=Ss at X;obtain ⟨At,Q⟩:∃a,atJ j=a:=⟨_,rfl⟩;rw[Q] at X|-;unfold wcells at X;subst X;obtain ⟨W1,G⟩:∃W1,(w.alloc (.cells #[.int .i64 K,.bool Bb,.int .i64 Nn,.string Ss,.slice A p c,.slice B q d,.int .i64 At] 25)).alloc (.cells (cellsC zeroC).toArray 32)=W1:=⟨_,rfl⟩;have U:Ext w W1:=by rw[<-G];exact ((Ext.refl w).alloc _).alloc _
 have C:W1.heap[w.heap.size]? =some (.cells #[.int .i64 K,.bool Bb,.int .i64 Nn,.string Ss,.slice A p c,.slice B q d,.int .i64 At] 25 (0,0)):=by rw[<-G];exact ((Ext.refl _).alloc _).heap (Zh w _)
 have S:W1.heap[w.heap.size+1]? =some (.cells (cellsC zeroC).toArray 32 (0,0)):=by rw[<-G];exact YN w _ _
 have c0:=Zb _ _ 0 _ _ _ C;have c1:=Zb _ _ 1 _ _ _ C;have c2:=Zb _ _ 2 _ _ _ C;have c3:=Zb _ _ 3 _ _ _ C;have c4:=Zb _ _ 4 _ _ _ C;have c5:=Zb _ _ 5 _ _ _ C;have c6:=Zb _ _ 6 _ _ _ C;have O:=gd U;have ha:=gd C;have Y:=gd S;clear h hv Q U C S;unfold cellsC fCells zeroC zeroF noS at G;go_enter func12,ntmps12
 go_wp2_with (first|(go_at_call 14;(have hz:=J.out W1 O.out);(with_reducible refine Za hz ?_);clear hz;rintro e w2 ⟨rfl,I⟩;(have q6:=Ext.cell I c6)))
 have F:w2.drew.cell? ⟨w.heap.size,6,none⟩=some (.int .i64 At):=q6;have V:Ext w2 w2.drew:=(Ext.refl _).drew;have R:=(I.trans V).heap Y.out;refine rN ?_;change wpAny _ _ _ _ _ _ _ (World.drew _);refine Yi (λw'=>w'.cell? ⟨w.heap.size,6,none⟩=some (.int .i64 At)) ?_;refine tS 0 (.agg (cellsC zeroC).toArray) rfl (λw' Z=>by go_simp;rfl) F ?_;refine tG 1 (.pointer (some ⟨w.heap.size,6,none⟩)) F ?_;refine tS 2 (.int .i64 At) rfl (λw' Z=>by have hq:w'.cell? ⟨w.heap.size,6,none⟩=some (.int .i64 At):=Z;go_simp) F ?_;go_simp;refine Zv (i:=3) rfl (by kernel_rfl) (λK2 D=> ?_);refine Z4 rfl 32 (.tmp 2) (.tmp 22) rfl (w.heap.size+1) (cellsC zeroC).toArray rfl rfl _ _ R ZA rfl YQ ?_;have H:(w2.drew.setRow (w.heap.size+1) (cellsC zeroC).toArray).cell? ⟨w.heap.size,6,none⟩=some (.int .i64 At):=by rw[Zu (a:=⟨w.heap.size,6,none⟩) (ZD _ _ _ _ (Nat.ne_of_lt (YY w.heap.size)))];exact F
 refine D _ _ H ?_;clear D K2;refine Zv (i:=4) rfl (by kernel_rfl) (λK2 D=> ?_);go_simp;refine D _ _ H ?_;clear D K2;refine Zv (i:=5) rfl (by kernel_rfl) (λK2 D=> ?_);go_simp;refine D _ _ H ?_;clear D K2;refine sE ?_;go_wp2;((try simp only[Exit.inBlock,Exit.then]);refine Zm (Zw rfl _ _ _ _ _ _ _ rfl (Zk _ _ _ _ _ _ R) underlying32 rfl ZA) rfl ?_);exact ⟨rfl,((O.out.trans I).trans V).setRow (ZM _) _⟩
structure DK (w:World) (b fb rb:Nat):Prop where
 kb:w.heap.size<=b
 kf:w.heap.size<=fb
 kr:w.heap.size<=rb
 bf:b≠fb
 br:b≠rb
 fr:fb≠rb
structure DF (w:World) (b fb rb:Nat) (cs:List Value) (o:Option (Nat×Nat)) (F:Fc) (W:World):Prop where
 rd:RdAt b cs o W
 fb:W.heap[fb]? =some (.cells (cellsC F).toArray 32 (0,0))
 rb:W.heap[rb]? =some (.cells (cellsC zeroC).toArray 32 (0,0))
 ext:Ext w W
section
variable {w W:World} {b fb rb:Nat} {cs:List Value} {o:Option (Nat×Nat)} {F:Fc}
theorem DF.next (H:DF w b fb rb cs o F W) {W':World} (h:Ext W W'):DF w b fb rb cs o F W':=⟨H.rd.ext h,h.heap H.fb,h.heap H.rb,H.ext.trans h⟩
theorem DF.turn (K:DK w b fb rb) (H:DF w b fb rb cs o F W) {W':World} {o':Option (Nat×Nat)} (h:Bar b W W') (j:RdAt b cs o' W'):DF w b fb rb cs o' F W':=
 ⟨j,h.heap H.fb K.bf.symm,h.heap H.rb K.br.symm,Bar.ext H.ext h K.kb⟩
theorem DF.set (K:DK w b fb rb) (H:DF w b fb rb cs o F W) (i:Nat) (v:Value) {F':Fc} (h:(cellsC F).toArray.setIfInBounds i v=(cellsC F').toArray):DF w b fb rb cs o F' (W.setCell ⟨fb,i,none⟩ v):=by
 refine ⟨⟨?_,H.rd.2⟩,?_,?_,H.ext.setCell (p:=⟨fb,i,none⟩) K.kf v⟩
 ·rw[Zs _ _ _ _ K.bf];exact H.rd.1
 ·rw[ZR _ _ _ _ _ _ H.fb,h]
 ·rw[Zs _ _ _ _ K.fr.symm];exact H.rb
theorem DF.cell (H:DF w b fb rb cs o F W) (i:Nat) {v:Value} (h:(cellsC F).toArray[i]? =some v):W.cell? ⟨fb,i,none⟩=some v/\W.frozen? ⟨fb,i,none⟩=false:=
 ⟨by rw[ZN H.fb];exact h,ZH H.fb i⟩
end
theorem U9 {w:World} {j:JO} {cs:List Value} (h:RJ w j cs):∃(A:Option Addr) (c:Nat) (B:Option Addr) (q d n:Nat) (css:List (List Value)),cs=wcells (kindJ j) (bJ j) (nJ j) (sJ j) (.slice A (itemsJ j).length c) (.slice B q d) (atJ j)/\css.length=(itemsJ j).length/\
 RSl w 7 (.slice A (itemsJ j).length c) (itemsJ j).length css.flatten/\∀(i:Nat) (x:JO) (c:List Value),(itemsJ j)[i]? =some x->css[i]? =some c->RJn n w x c:=by
 obtain ⟨n,h⟩:=h;cases n with
 |zero=>exact h.elim
 |succ n=>obtain ⟨its,ms,rfl,⟨css,D,C,F⟩,⟨_,_,_,G,_⟩,_⟩:=h;obtain ⟨_,A,c,rfl,_⟩:=id C;obtain ⟨_,B,d,rfl,_⟩:=G;exact ⟨_,_,_,_,_,n,css,rfl,D,C,F⟩
def F0 (j:JO):Fc:=⟨.slice none 0 0,.slice none 0 0,⟨[],firstJ j [nFeedUrl],firstJ j [nTitle],firstJ j [nHome],0,[]⟩⟩
def FE (j:JO) (t:Int) (E:List Ent) (es:Value):Fc:=⟨.slice none 0 0,es,⟨[],idW j,firstJ j [nTitle],firstJ j [nHome],t,E⟩⟩
end
section
set_option linter.unusedSimpArgs false
attribute [local go_sem] calm1
theorem Zfv (K:Int) (Bb:Bool) (Nn:Int) (Ss:ByteArray) (A B:Option Addr) (p c q d At:Nat) (w:World) (vs:ByteArray)
 (O:Hid (∀W':World,Ext w W'->Calls prog 15 #[.agg #[.int .i64 K,.bool Bb,.int .i64 Nn,.string Ss,.slice A p c,.slice B q d,.int .i64 At]] W' λe w2=>e= .returned (.tuple #[.string vs,.bool false])/\Ext W' w2)):
 Calls prog 13 #[.agg #[.int .i64 K,.bool Bb,.int .i64 Nn,.string Ss,.slice A p c,.slice B q d,.int .i64 At]] w λe w'=>e= .returned (.tuple #[.agg #[.slice none 0 0,.string ⟨#[]⟩,.string ⟨#[]⟩,.string ⟨#[]⟩,.int .i64 0,.slice none 0 0],.int .i64 (At:Nat),.int .i64 18])/\Ext w w':=by
 obtain ⟨W1,G⟩:∃W1,(w.alloc (.cells #[.int .i64 K,.bool Bb,.int .i64 Nn,.string Ss,.slice A p c,.slice B q d,.int .i64 At] 25)).alloc (.cells #[.slice none 0 0,.string ⟨#[]⟩,.string ⟨#[]⟩,.string ⟨#[]⟩,.int .i64 0,.slice none 0 0] 32)=W1:=⟨_,rfl⟩;have V:Ext w W1:=by rw[<-G];exact ((Ext.refl w).alloc _).alloc _
 have C:W1.heap[w.heap.size]? =some (.cells #[.int .i64 K,.bool Bb,.int .i64 Nn,.string Ss,.slice A p c,.slice B q d,.int .i64 At] 25 (0,0)):=by rw[<-G];exact ((Ext.refl _).alloc _).heap (Zh w _)
 have U:W1.heap[w.heap.size+1]? =some (.cells #[.slice none 0 0,.string ⟨#[]⟩,.string ⟨#[]⟩,.string ⟨#[]⟩,.int .i64 0,.slice none 0 0] 32 (0,0)):=by rw[<-G];exact YN w _ _
 have J:Hid (∀W':World,Ext W1 W'->W'.cell? ⟨w.heap.size,0,none⟩=some (.int .i64 K)/\W'.cell? ⟨w.heap.size,1,none⟩=some (.bool Bb)/\W'.cell? ⟨w.heap.size,2,none⟩=some (.int .i64 Nn)/\W'.cell? ⟨w.heap.size,3,none⟩=some (.string Ss)/\W'.cell? ⟨w.heap.size,4,none⟩=some (.slice A p c)/\W'.cell? ⟨w.heap.size,5,none⟩=some (.slice B q d)/\W'.cell? ⟨w.heap.size,6,none⟩=some (.int .i64 At)):=gd λW' h=>⟨h.cell (Zb _ _ 0 _ _ _ C),h.cell (Zb _ _ 1 _ _ _ C),h.cell (Zb _ _ 2 _ _ _ C),h.cell (Zb _ _ 3 _ _ _ C),h.cell (Zb _ _ 4 _ _ _ C),h.cell (Zb _ _ 5 _ _ _ C),h.cell (Zb _ _ 6 _ _ _ C)⟩;have Q:=gd V;have X:=gd U;obtain ⟨c0,c1,Y,c3,c4,c5,c6⟩:=J.out _ (Ext.refl W1);clear V C U;have H:w.heap.size≠w.heap.size+1:=Nat.ne_of_lt (YY w.heap.size);go_enter func13,ntmps13
 go_wp2_with (first|(go_at_call 15;(have Z:=O.out W1 Q.out);(with_reducible refine Za Z ?_);clear Z;rintro e w2 ⟨rfl,I⟩;(obtain ⟨e0,e1,e2,e3,e4,e5,e6⟩:=J.out _ I);(clear c0 c1 Y c3 c4 c5 c6)))
 have D:w2.drew.cell? ⟨w.heap.size,6,none⟩=some (.int .i64 At):=e6;have S:=(I.trans (Ext.refl w2).drew).heap X.out;refine rN ?_;change wpAny _ _ _ _ _ _ _ (World.drew _);refine Yi (λw'=>w'.cell? ⟨w.heap.size,6,none⟩=some (.int .i64 At)) ?_;refine tG 0 (.agg #[.slice none 0 0,.string ⟨#[]⟩,.string ⟨#[]⟩,.string ⟨#[]⟩,.int .i64 0,.slice none 0 0]) D ?_;refine tG 1 (.pointer (some ⟨w.heap.size,6,none⟩)) D ?_;refine tS 2 (.int .i64 At) rfl (λw' hS=>by have hq:w'.cell? ⟨w.heap.size,6,none⟩=some (.int .i64 At):=hS;go_simp) D ?_;go_simp;refine Zv (i:=3) rfl (by kernel_rfl) (λR j=> ?_);refine Z4 rfl 32 (.tmp 2) (.tmp 22) rfl (w.heap.size+1) #[.slice none 0 0,.string ⟨#[]⟩,.string ⟨#[]⟩,.string ⟨#[]⟩,.int .i64 0,.slice none 0 0] rfl rfl _ _ S ZA rfl YQ ?_;have F:(w2.drew.setRow (w.heap.size+1) #[.slice none 0 0,.string ⟨#[]⟩,.string ⟨#[]⟩,.string ⟨#[]⟩,.int .i64 0,.slice none 0 0]).cell? ⟨w.heap.size,6,none⟩=some (.int .i64 At):=by rw[Zu (a:=⟨w.heap.size,6,none⟩) (ZD _ _ _ _ H)];exact D
 refine j _ _ F ?_;clear j R;refine Zv (i:=4) rfl (by kernel_rfl) (λR j=> ?_);go_simp;refine j _ _ F ?_;clear j R;refine Zv (i:=5) rfl (by kernel_rfl) (λR j=> ?_);go_simp;refine j _ _ F ?_;clear j R;refine sE ?_;go_wp2;((try simp only[Exit.inBlock,Exit.then]);refine Zm (Zw rfl _ _ _ _ _ _ _ rfl (Zk _ _ _ _ _ _ S) underlying32 rfl ZA) rfl ?_);exact ⟨rfl,(Q.out.trans (I.trans (Ext.refl w2).drew)).setRow (ZM _) _⟩
theorem Zfu (K:Int) (Bb:Bool) (Nn:Int) (Ss:ByteArray) (A B:Option Addr) (p c q d At:Nat) (w:World) (vs:ByteArray) (Y J:Nat) (hf:J≠0)
 (I:Hid (∀W':World,Ext w W'->Calls prog 15 #[.agg #[.int .i64 K,.bool Bb,.int .i64 Nn,.string Ss,.slice A p c,.slice B q d,.int .i64 At]] W' λe w2=>e= .returned (.tuple #[.string vs,.bool true])/\Ext W' w2))
 (U:Hid (∀W':World,Ext w W'->Calls prog 37 #[.agg #[.int .i64 K,.bool Bb,.int .i64 Nn,.string Ss,.slice A p c,.slice B q d,.int .i64 At],.slice (some ⟨W'.heap.size,0,none⟩) 4 4,.bool false] (W'.alloc (.cells #[.string ⟨#[102,101,101,100,95,117,114,108]⟩,.string ⟨#[104,111,109,101,95,112,97,103,101,95,117,114,108]⟩,.string ⟨#[116,105,116,108,101]⟩,.string ⟨#[95,117,112,100,97,116,101,100]⟩] 9)) λe w2=>e= .returned (.tuple #[.int .i64 (Y:Nat),.int .i64 (J:Nat)])/\Ext W' w2)):
 Calls prog 13 #[.agg #[.int .i64 K,.bool Bb,.int .i64 Nn,.string Ss,.slice A p c,.slice B q d,.int .i64 At]] w λe w'=>e= .returned (.tuple #[.agg #[.slice none 0 0,.string ⟨#[]⟩,.string ⟨#[]⟩,.string ⟨#[]⟩,.int .i64 0,.slice none 0 0],.int .i64 (Y:Nat),.int .i64 (J:Nat)])/\Ext w w':=by
 obtain ⟨W1,G⟩:∃W1,(w.alloc (.cells #[.int .i64 K,.bool Bb,.int .i64 Nn,.string Ss,.slice A p c,.slice B q d,.int .i64 At] 25)).alloc (.cells #[.slice none 0 0,.string ⟨#[]⟩,.string ⟨#[]⟩,.string ⟨#[]⟩,.int .i64 0,.slice none 0 0] 32)=W1:=⟨_,rfl⟩;have R:Ext w W1:=by rw[<-G];exact ((Ext.refl w).alloc _).alloc _
 have j:W1.heap[w.heap.size]? =some (.cells #[.int .i64 K,.bool Bb,.int .i64 Nn,.string Ss,.slice A p c,.slice B q d,.int .i64 At] 25 (0,0)):=by rw[<-G];exact ((Ext.refl _).alloc _).heap (Zh w _)
 have Q:W1.heap[w.heap.size+1]? =some (.cells #[.slice none 0 0,.string ⟨#[]⟩,.string ⟨#[]⟩,.string ⟨#[]⟩,.int .i64 0,.slice none 0 0] 32 (0,0)):=by rw[<-G];exact YN w _ _
 have D:Hid (∀W':World,Ext W1 W'->W'.cell? ⟨w.heap.size,0,none⟩=some (.int .i64 K)/\W'.cell? ⟨w.heap.size,1,none⟩=some (.bool Bb)/\W'.cell? ⟨w.heap.size,2,none⟩=some (.int .i64 Nn)/\W'.cell? ⟨w.heap.size,3,none⟩=some (.string Ss)/\W'.cell? ⟨w.heap.size,4,none⟩=some (.slice A p c)/\W'.cell? ⟨w.heap.size,5,none⟩=some (.slice B q d)/\W'.cell? ⟨w.heap.size,6,none⟩=some (.int .i64 At)):=gd λW' h=>⟨h.cell (Zb _ _ 0 _ _ _ j),h.cell (Zb _ _ 1 _ _ _ j),h.cell (Zb _ _ 2 _ _ _ j),h.cell (Zb _ _ 3 _ _ _ j),h.cell (Zb _ _ 4 _ _ _ j),h.cell (Zb _ _ 5 _ _ _ j),h.cell (Zb _ _ 6 _ _ _ j)⟩;have F:=gd R;have V:=gd Q;obtain ⟨c0,c1,X,c3,c4,c5,c6⟩:=D.out _ (Ext.refl W1);clear R j Q;have ha:((J:Int) !=0)=true:=by simp;omega
 go_enter func13,ntmps13
 go_wp2_with (first|(refine Zg rfl 32 (.tmp 2) (.tmp 33) rfl (w.heap.size+1) #[.slice none 0 0,.string ⟨#[]⟩,.string ⟨#[]⟩,.string ⟨#[]⟩,.int .i64 0,.slice none 0 0] rfl rfl _ _ O ZA rfl YQ ?_)|(go_at_call 37;(have S:=U.out w2 (F.out.trans H));(with_reducible refine Za S ?_);clear S;rintro e w3 ⟨rfl,Z⟩;(have C:=H.trans Z);(obtain ⟨f0,Y,J,f3,f4,f5,f6⟩:=D.out _ C);(clear e0 e1 e2 e3 e4 e5 e6);(have O:=C.heap V.out))|(go_at_call 15;(have S:=I.out W1 F.out);(with_reducible refine Za S ?_);clear S;rintro e w2 ⟨rfl,H⟩;(obtain ⟨e0,e1,e2,e3,e4,e5,e6⟩:=D.out _ H);(clear c0 c1 X c3 c4 c5 c6)))
 ((try simp only[Exit.inBlock,Exit.then]);refine Zm (Zw rfl _ _ _ _ _ _ _ rfl (Zk _ _ _ _ _ _ O) underlying32 rfl ZA) rfl ?_);exact ⟨rfl,(F.out.trans C).setRow (ZM _) _⟩
end
section
set_option linter.unusedSimpArgs false
attribute [local go_sem] calm1
theorem ZdP (K:Int) (Bb:Bool) (Nn:Int) (Ss:ByteArray) (A B:Option Addr) (p c q d At:Nat) (w:World) (vs ho sti shm:ByteArray)
 (hc:Hid (∀W':World,Ext w W'->Calls prog 15 #[.agg #[.int .i64 K,.bool Bb,.int .i64 Nn,.string Ss,.slice A p c,.slice B q d,.int .i64 At]] W' λe w2=>e= .returned (.tuple #[.string vs,.bool true])/\Ext W' w2))
 (hs:Hid (∀W':World,Ext w W'->Calls prog 37 #[.agg #[.int .i64 K,.bool Bb,.int .i64 Nn,.string Ss,.slice A p c,.slice B q d,.int .i64 At],.slice (some ⟨W'.heap.size,0,none⟩) 4 4,.bool false] (W'.alloc (.cells #[.string ⟨#[102,101,101,100,95,117,114,108]⟩,.string ⟨#[104,111,109,101,95,112,97,103,101,95,117,114,108]⟩,.string ⟨#[116,105,116,108,101]⟩,.string ⟨#[95,117,112,100,97,116,101,100]⟩] 9)) λe w2=>e= .returned (.tuple #[.int .i64 0,.int .i64 0])/\Ext W' w2))
 (hv:Hid (∀W':World,Ext w W'->Calls prog 38 #[.agg #[.int .i64 K,.bool Bb,.int .i64 Nn,.string Ss,.slice A p c,.slice B q d,.int .i64 At],.string ⟨#[102,101,101,100,95,117,114,108]⟩] W' λe w2=>e= .returned (.string ho)/\Ext W' w2))
 (hx:Hid (∀W':World,Ext w W'->Calls prog 38 #[.agg #[.int .i64 K,.bool Bb,.int .i64 Nn,.string Ss,.slice A p c,.slice B q d,.int .i64 At],.string ⟨#[116,105,116,108,101]⟩] W' λe w2=>e= .returned (.string sti)/\Ext W' w2))
 (hw:Hid (∀W':World,Ext w W'->Calls prog 38 #[.agg #[.int .i64 K,.bool Bb,.int .i64 Nn,.string Ss,.slice A p c,.slice B q d,.int .i64 At],.string ⟨#[104,111,109,101,95,112,97,103,101,95,117,114,108]⟩] W' λe w2=>e= .returned (.string shm)/\Ext W' w2))
 (hp:Hid (∀W':World,Calls prog 39 #[.string ho] W' λe w2=>e= .returned (.bool true)/\Ext W' w2))
 (hr:Hid (∀W':World,Calls prog 39 #[.string shm] W' λe w2=>e= .returned (.bool true)/\Ext W' w2)):
 Calls prog 13 #[.agg #[.int .i64 K,.bool Bb,.int .i64 Nn,.string Ss,.slice A p c,.slice B q d,.int .i64 At]] w λe w'=>e= .returned (.tuple #[.agg #[.slice none 0 0,.string ⟨#[]⟩,.string ⟨#[]⟩,.string ⟨#[]⟩,.int .i64 0,.slice none 0 0],.int .i64 (At:Nat),.int .i64 19])/\Ext w w':=by
 obtain ⟨W1,Z⟩:∃W1,(w.alloc (.cells #[.int .i64 K,.bool Bb,.int .i64 Nn,.string Ss,.slice A p c,.slice B q d,.int .i64 At] 25)).alloc (.cells #[.slice none 0 0,.string ⟨#[]⟩,.string ⟨#[]⟩,.string ⟨#[]⟩,.int .i64 0,.slice none 0 0] 32)=W1:=⟨_,rfl⟩;have hl:Ext w W1:=by rw[<-Z];exact ((Ext.refl w).alloc _).alloc _
 have D:W1.heap[w.heap.size]? =some (.cells #[.int .i64 K,.bool Bb,.int .i64 Nn,.string Ss,.slice A p c,.slice B q d,.int .i64 At] 25 (0,0)):=by rw[<-Z];exact ((Ext.refl _).alloc _).heap (Zh w _)
 have hk:W1.heap[w.heap.size+1]? =some (.cells #[.slice none 0 0,.string ⟨#[]⟩,.string ⟨#[]⟩,.string ⟨#[]⟩,.int .i64 0,.slice none 0 0] 32 (0,0)):=by rw[<-Z];exact YN w _ _
 have G:Hid (∀W':World,Ext W1 W'->W'.cell? ⟨w.heap.size,0,none⟩=some (.int .i64 K)/\W'.cell? ⟨w.heap.size,1,none⟩=some (.bool Bb)/\W'.cell? ⟨w.heap.size,2,none⟩=some (.int .i64 Nn)/\W'.cell? ⟨w.heap.size,3,none⟩=some (.string Ss)/\W'.cell? ⟨w.heap.size,4,none⟩=some (.slice A p c)/\W'.cell? ⟨w.heap.size,5,none⟩=some (.slice B q d)/\W'.cell? ⟨w.heap.size,6,none⟩=some (.int .i64 At)):=gd λW' h=>⟨h.cell (Zb _ _ 0 _ _ _ D),h.cell (Zb _ _ 1 _ _ _ D),h.cell (Zb _ _ 2 _ _ _ D),h.cell (Zb _ _ 3 _ _ _ D),h.cell (Zb _ _ 4 _ _ _ D),h.cell (Zb _ _ 5 _ _ _ D),h.cell (Zb _ _ 6 _ _ _ D)⟩;have F:=gd hl;have hu:=gd hk;obtain ⟨c0,c1,hC,c3,c4,c5,c6⟩:=G.out _ (Ext.refl W1);clear hl D hk;have ha:w.heap.size≠w.heap.size+1:=Nat.ne_of_lt (YY w.heap.size);go_enter func13,ntmps13
 go_wp2_with (first|(go_at_call 37;(have J:=hs.out w2 (F.out.trans R));(with_reducible refine Za J ?_);clear J;rintro e S ⟨rfl,hm⟩;(have j:=R.trans hm);(obtain ⟨f0,f1,f2,f3,f4,f5,f6⟩:=G.out _ j);(clear e0 e1 e2 e3 e4 e5 e6))|(go_at_call 15;(have J:=hc.out W1 F.out);(with_reducible refine Za J ?_);clear J;rintro e w2 ⟨rfl,R⟩;(obtain ⟨e0,e1,e2,e3,e4,e5,e6⟩:=G.out _ R);(clear c0 c1 hC c3 c4 c5 c6)))
 have a0:∀y:Aft S,y.w.cell? ⟨w.heap.size,0,none⟩=_:=Aft.cell f0;have a1:∀y:Aft S,y.w.cell? ⟨w.heap.size,1,none⟩=_:=Aft.cell f1;have a2:∀y:Aft S,y.w.cell? ⟨w.heap.size,2,none⟩=_:=Aft.cell f2;have a3:∀y:Aft S,y.w.cell? ⟨w.heap.size,3,none⟩=_:=Aft.cell f3;have a4:∀y:Aft S,y.w.cell? ⟨w.heap.size,4,none⟩=_:=Aft.cell f4;have a5:∀y:Aft S,y.w.cell? ⟨w.heap.size,5,none⟩=_:=Aft.cell f5;have a6:∀y:Aft S,y.w.cell? ⟨w.heap.size,6,none⟩=_:=Aft.cell f6;clear f0 f1 f2 f3 f4 f5 f6;refine Yy 7 (.cells #[.slice none 0 0,.string ⟨#[]⟩,.string ⟨#[]⟩,.string ⟨#[]⟩,.int .i64 0,.slice none 0 0] 32) _ (by kernel_rfl) rfl (by kernel_rfl) (λa w K h=>by go_simp;exact h) ?_
 repeat (refine YH (λU hK=> ?_);go_simp;first|(refine hK _ ?_;clear hK U)|(apply Ye;refine ⟨λy=> ?_,hK _ ?_⟩;(go_at_call 38;first|with_reducible exact ZP (hv.out _ ((F.out.trans j).trans y.ext))|with_reducible exact ZP (hx.out _ ((F.out.trans j).trans y.ext))|with_reducible exact ZP (hw.out _ ((F.out.trans j).trans y.ext)));clear hK U))
 refine YO ?_;intro g c' hg V;refine Yk rfl 32 (.tmp 9) (.tmp 42) rfl g _ rfl rfl _ _ V ZA rfl YQ ?_;intro W4 Q he hD;have hn:Ext S W4:=he S c'.ext hg;have hh:W1.heap.size<=g:=Zl j.size hg;clear V he hD hg c' a0 a1 a2 a3 a4 a5 a6;have H:=j.trans hn;obtain ⟨e0,e1,e2,e3,e4,e5,e6⟩:=G.out _ H;have k1:=Zb _ _ 1 _ _ _ Q;have k3:=Zb _ _ 3 _ _ _ Q;have hA:=gd H;have hy:=gd Q;have ht:=gd hh;clear H hn j hm R Q hh
 go_wp2_with (first|(go_at_call 39;(have J:=hr.out W6);(with_reducible refine Za J ?_);clear J;rintro e w7 ⟨rfl,hb⟩;(have X:=gd (hB.out.trans hb));(have hE:=gd (hb.heap hd.out));clear hb;(obtain ⟨f0,f1,f2,f3,f4,f5,f6⟩:=G.out _ X.out))|(go_at_call 39;(have J:=hp.out W4);(with_reducible refine Za J ?_);clear J;rintro e w5 ⟨rfl,I⟩;(have hi:=I.heap hy.out);(have m3:=I.cell k3);(have l1:w5.frozen? ⟨g,1,none⟩=false:=ZH hi 1);(have m1:=I.cell k1);(obtain ⟨W6,hf⟩:∃W6,w5.setCell ⟨g,1,none⟩ (.string shm)=W6:=⟨_,rfl⟩);(have hd:Hid (W6.heap[g]? =some (.cells #[.slice none 0 0,.string shm,.string sti,.string shm,.int .i64 0,.slice none 0 0] 32 (0,0))):=gd (by rw[<-hf,ZR _ _ _ _ _ _ hi];rfl));(have hB:Hid (Ext W1 W6):=gd (by rw[<-hf];exact (hA.out.trans I).setCell (p:=⟨g,1,none⟩) ht.out _));(have n1:=Zb _ _ 1 _ _ _ hd.out);clear k1 k3 I e0 e1 e2 e3 e4 e5 e6))
 have O:w7.drew.cell? ⟨w.heap.size,6,none⟩=some (.int .i64 At):=f6;have hj:=(X.out.trans (Ext.refl w7).drew).heap hu.out;refine rN ?_;change wpAny _ _ _ _ _ _ _ (World.drew _);refine Yi (λw'=>w'.cell? ⟨w.heap.size,6,none⟩=some (.int .i64 At)) ?_;refine tG 0 (.agg #[.slice none 0 0,.string ⟨#[]⟩,.string ⟨#[]⟩,.string ⟨#[]⟩,.int .i64 0,.slice none 0 0]) O ?_;refine tG 1 (.pointer (some ⟨w.heap.size,6,none⟩)) O ?_;refine tS 2 (.int .i64 At) rfl (λw' hS=>by have hq:w'.cell? ⟨w.heap.size,6,none⟩=some (.int .i64 At):=hS;go_simp) O ?_;go_simp;refine Zv (i:=3) rfl (by kernel_rfl) (λU C=> ?_);refine Z4 rfl 32 (.tmp 2) (.tmp 52) rfl (w.heap.size+1) #[.slice none 0 0,.string ⟨#[]⟩,.string ⟨#[]⟩,.string ⟨#[]⟩,.int .i64 0,.slice none 0 0] rfl rfl _ _ hj ZA rfl YQ ?_;have Y:(w7.drew.setRow (w.heap.size+1) #[.slice none 0 0,.string ⟨#[]⟩,.string ⟨#[]⟩,.string ⟨#[]⟩,.int .i64 0,.slice none 0 0]).cell? ⟨w.heap.size,6,none⟩=some (.int .i64 At):=by rw[Zu (a:=⟨w.heap.size,6,none⟩) (ZD _ _ _ _ ha)];exact O
 refine C _ _ Y ?_;clear C U;refine Zv (i:=4) rfl (by kernel_rfl) (λU C=> ?_);go_simp;refine C _ _ Y ?_;clear C U;refine Zv (i:=5) rfl (by kernel_rfl) (λU C=> ?_);go_simp;refine C _ _ Y ?_;clear C U;refine sE ?_;go_wp2;((try simp only[Exit.inBlock,Exit.then]);refine Zm (Zw rfl _ _ _ _ _ _ _ rfl (Zk _ _ _ _ _ _ hj) underlying32 rfl ZA) rfl ?_);exact ⟨rfl,(F.out.trans (X.out.trans (Ext.refl w7).drew)).setRow (ZM _) _⟩
theorem ZdR (K:Int) (Bb:Bool) (Nn:Int) (Ss:ByteArray) (A B:Option Addr) (p c q d At:Nat) (w:World) (vs hp sti shm:ByteArray)
 (hc:Hid (∀W':World,Ext w W'->Calls prog 15 #[.agg #[.int .i64 K,.bool Bb,.int .i64 Nn,.string Ss,.slice A p c,.slice B q d,.int .i64 At]] W' λe w2=>e= .returned (.tuple #[.string vs,.bool true])/\Ext W' w2))
 (hs:Hid (∀W':World,Ext w W'->Calls prog 37 #[.agg #[.int .i64 K,.bool Bb,.int .i64 Nn,.string Ss,.slice A p c,.slice B q d,.int .i64 At],.slice (some ⟨W'.heap.size,0,none⟩) 4 4,.bool false] (W'.alloc (.cells #[.string ⟨#[102,101,101,100,95,117,114,108]⟩,.string ⟨#[104,111,109,101,95,112,97,103,101,95,117,114,108]⟩,.string ⟨#[116,105,116,108,101]⟩,.string ⟨#[95,117,112,100,97,116,101,100]⟩] 9)) λe w2=>e= .returned (.tuple #[.int .i64 0,.int .i64 0])/\Ext W' w2))
 (hv:Hid (∀W':World,Ext w W'->Calls prog 38 #[.agg #[.int .i64 K,.bool Bb,.int .i64 Nn,.string Ss,.slice A p c,.slice B q d,.int .i64 At],.string ⟨#[102,101,101,100,95,117,114,108]⟩] W' λe w2=>e= .returned (.string hp)/\Ext W' w2))
 (hx:Hid (∀W':World,Ext w W'->Calls prog 38 #[.agg #[.int .i64 K,.bool Bb,.int .i64 Nn,.string Ss,.slice A p c,.slice B q d,.int .i64 At],.string ⟨#[116,105,116,108,101]⟩] W' λe w2=>e= .returned (.string sti)/\Ext W' w2))
 (hw:Hid (∀W':World,Ext w W'->Calls prog 38 #[.agg #[.int .i64 K,.bool Bb,.int .i64 Nn,.string Ss,.slice A p c,.slice B q d,.int .i64 At],.string ⟨#[104,111,109,101,95,112,97,103,101,95,117,114,108]⟩] W' λe w2=>e= .returned (.string shm)/\Ext W' w2))
 (hq:Hid (∀W':World,Calls prog 39 #[.string hp] W' λe w2=>e= .returned (.bool true)/\Ext W' w2))
 (hr:Hid (∀W':World,Calls prog 39 #[.string shm] W' λe w2=>e= .returned (.bool false)/\Ext W' w2)) (d1 J:Nat) (hG:J≠0)
 (ht:Hid (∀W':World,Ext w W'->Calls prog 40 #[.agg #[.int .i64 K,.bool Bb,.int .i64 Nn,.string Ss,.slice A p c,.slice B q d,.int .i64 At],.slice (some ⟨W'.heap.size,0,none⟩) 1 1] (W'.alloc (.cells #[.string ⟨#[95,117,112,100,97,116,101,100]⟩] 9)) λe w2=>e= .returned (.tuple #[.int .i64 0,.int .i64 (d1:Nat),.int .i64 (J:Nat)])/\Ext W' w2)):
 Calls prog 13 #[.agg #[.int .i64 K,.bool Bb,.int .i64 Nn,.string Ss,.slice A p c,.slice B q d,.int .i64 At]] w λe w'=>e= .returned (.tuple #[.agg #[.slice none 0 0,.string ⟨#[]⟩,.string ⟨#[]⟩,.string ⟨#[]⟩,.int .i64 0,.slice none 0 0],.int .i64 (d1:Nat),.int .i64 (J:Nat)])/\Ext w w':=by
 obtain ⟨W1,X⟩:∃W1,(w.alloc (.cells #[.int .i64 K,.bool Bb,.int .i64 Nn,.string Ss,.slice A p c,.slice B q d,.int .i64 At] 25)).alloc (.cells #[.slice none 0 0,.string ⟨#[]⟩,.string ⟨#[]⟩,.string ⟨#[]⟩,.int .i64 0,.slice none 0 0] 32)=W1:=⟨_,rfl⟩;have hm:Ext w W1:=by rw[<-X];exact ((Ext.refl w).alloc _).alloc _
 have C:W1.heap[w.heap.size]? =some (.cells #[.int .i64 K,.bool Bb,.int .i64 Nn,.string Ss,.slice A p c,.slice B q d,.int .i64 At] 25 (0,0)):=by rw[<-X];exact ((Ext.refl _).alloc _).heap (Zh w _)
 have hl:W1.heap[w.heap.size+1]? =some (.cells #[.slice none 0 0,.string ⟨#[]⟩,.string ⟨#[]⟩,.string ⟨#[]⟩,.int .i64 0,.slice none 0 0] 32 (0,0)):=by rw[<-X];exact YN w _ _
 have G:Hid (∀W':World,Ext W1 W'->W'.cell? ⟨w.heap.size,0,none⟩=some (.int .i64 K)/\W'.cell? ⟨w.heap.size,1,none⟩=some (.bool Bb)/\W'.cell? ⟨w.heap.size,2,none⟩=some (.int .i64 Nn)/\W'.cell? ⟨w.heap.size,3,none⟩=some (.string Ss)/\W'.cell? ⟨w.heap.size,4,none⟩=some (.slice A p c)/\W'.cell? ⟨w.heap.size,5,none⟩=some (.slice B q d)/\W'.cell? ⟨w.heap.size,6,none⟩=some (.int .i64 At)):=gd λW' h=>⟨h.cell (Zb _ _ 0 _ _ _ C),h.cell (Zb _ _ 1 _ _ _ C),h.cell (Zb _ _ 2 _ _ _ C),h.cell (Zb _ _ 3 _ _ _ C),h.cell (Zb _ _ 4 _ _ _ C),h.cell (Zb _ _ 5 _ _ _ C),h.cell (Zb _ _ 6 _ _ _ C)⟩;have D:=gd hm;have hu:=gd hl;obtain ⟨c0,c1,hD,c3,c4,c5,c6⟩:=G.out _ (Ext.refl W1);clear hm C hl;have hH:((J:Int) !=0)=true:=by simp;omega
 go_enter func13,ntmps13
 go_wp2_with (first|(go_at_call 37;(have F:=hs.out w2 (D.out.trans Q));(with_reducible refine Za F ?_);clear F;rintro e R ⟨rfl,hn⟩;(have j:=Q.trans hn);(obtain ⟨f0,f1,f2,f3,f4,f5,f6⟩:=G.out _ j);(clear e0 e1 e2 e3 e4 e5 e6))|(go_at_call 15;(have F:=hc.out W1 D.out);(with_reducible refine Za F ?_);clear F;rintro e w2 ⟨rfl,Q⟩;(obtain ⟨e0,e1,e2,e3,e4,e5,e6⟩:=G.out _ Q);(clear c0 c1 hD c3 c4 c5 c6)))
 have a0:∀y:Aft R,y.w.cell? ⟨w.heap.size,0,none⟩=_:=Aft.cell f0;have a1:∀y:Aft R,y.w.cell? ⟨w.heap.size,1,none⟩=_:=Aft.cell f1;have a2:∀y:Aft R,y.w.cell? ⟨w.heap.size,2,none⟩=_:=Aft.cell f2;have a3:∀y:Aft R,y.w.cell? ⟨w.heap.size,3,none⟩=_:=Aft.cell f3;have a4:∀y:Aft R,y.w.cell? ⟨w.heap.size,4,none⟩=_:=Aft.cell f4;have a5:∀y:Aft R,y.w.cell? ⟨w.heap.size,5,none⟩=_:=Aft.cell f5;have a6:∀y:Aft R,y.w.cell? ⟨w.heap.size,6,none⟩=_:=Aft.cell f6;clear f0 f1 f2 f3 f4 f5 f6;refine Yy 7 (.cells #[.slice none 0 0,.string ⟨#[]⟩,.string ⟨#[]⟩,.string ⟨#[]⟩,.int .i64 0,.slice none 0 0] 32) _ (by kernel_rfl) rfl (by kernel_rfl) (λa w K h=>by go_simp;exact h) ?_
 repeat (refine YH (λKc hK=> ?_);go_simp;first|(refine hK _ ?_;clear hK Kc)|(apply Ye;refine ⟨λy=> ?_,hK _ ?_⟩;(go_at_call 38;first|with_reducible exact ZP (hv.out _ ((D.out.trans j).trans y.ext))|with_reducible exact ZP (hx.out _ ((D.out.trans j).trans y.ext))|with_reducible exact ZP (hw.out _ ((D.out.trans j).trans y.ext)));clear hK Kc))
 refine YO ?_;intro g c' hg S;refine Yk rfl 32 (.tmp 9) (.tmp 42) rfl g _ rfl rfl _ _ S ZA rfl YQ ?_;intro W4 O he hE;have ho:Ext R W4:=he R c'.ext hg;have hi:W1.heap.size<=g:=Zl j.size hg;clear S he hE hg c' a0 a1 a2 a3 a4 a5 a6;have H:=j.trans ho;obtain ⟨e0,e1,e2,e3,e4,e5,e6⟩:=G.out _ H;have k1:=Zb _ _ 1 _ _ _ O;have k3:=Zb _ _ 3 _ _ _ O;have hB:=gd H;have hy:=gd O;have hb:=gd hi;clear H ho j hn Q O hi
 go_wp2_with (first|(refine Zg rfl 32 (.tmp 2) (.tmp 65) rfl (w.heap.size+1) #[.slice none 0 0,.string ⟨#[]⟩,.string ⟨#[]⟩,.string ⟨#[]⟩,.int .i64 0,.slice none 0 0] rfl rfl _ _ hk ZA rfl YQ ?_)|(go_at_call 40;(have F:=ht.out w7 (D.out.trans U.out));(with_reducible refine Za F ?_);clear F;rintro e w8 ⟨rfl,ha⟩;(have Y:=ha.heap hA.out);(have l4:w8.frozen? ⟨g,4,none⟩=false:=ZH Y 4);(have hI:=Zb _ _ 4 _ _ _ Y);(obtain ⟨W9,hh⟩:∃W9,w8.setCell ⟨g,4,none⟩ (.int .i64 0)=W9:=⟨_,rfl⟩);(have hF:Hid (W9.heap[g]? =some (.cells #[.slice none 0 0,.string shm,.string sti,.string shm,.int .i64 0,.slice none 0 0] 32 (0,0))):=gd (by rw[<-hh,ZR _ _ _ _ _ _ Y];rfl));(have V:Hid (Ext W1 W9):=gd (by rw[<-hh];exact (U.out.trans ha).setCell (p:=⟨g,4,none⟩) hb.out _));clear ha f0 f1 f2 f3 f4 f5 f6;(obtain ⟨e0,e1,e2,e3,e4,e5,e6⟩:=G.out _ V.out);(have hk:=V.out.heap hu.out))|(go_at_call 39;(have F:=hr.out W6);(with_reducible refine Za F ?_);clear F;rintro e w7 ⟨rfl,Z⟩;(have U:=gd (hC.out.trans Z));(have hA:=gd (Z.heap hd.out));clear Z;(obtain ⟨f0,f1,f2,f3,f4,f5,f6⟩:=G.out _ U.out))|(go_at_call 39;(have F:=hq.out W4);(with_reducible refine Za F ?_);clear F;rintro e w5 ⟨rfl,I⟩;(have hj:=I.heap hy.out);(have m3:=I.cell k3);(have l1:w5.frozen? ⟨g,1,none⟩=false:=ZH hj 1);(have m1:=I.cell k1);(obtain ⟨W6,hf⟩:∃W6,w5.setCell ⟨g,1,none⟩ (.string shm)=W6:=⟨_,rfl⟩);(have hd:Hid (W6.heap[g]? =some (.cells #[.slice none 0 0,.string shm,.string sti,.string shm,.int .i64 0,.slice none 0 0] 32 (0,0))):=gd (by rw[<-hf,ZR _ _ _ _ _ _ hj];rfl));(have hC:Hid (Ext W1 W6):=gd (by rw[<-hf];exact (hB.out.trans I).setCell (p:=⟨g,1,none⟩) hb.out _));(have n1:=Zb _ _ 1 _ _ _ hd.out);clear k1 k3 I e0 e1 e2 e3 e4 e5 e6))
 ((try simp only[Exit.inBlock,Exit.then]);refine Zm (Zw rfl _ _ _ _ _ _ _ rfl (Zk _ _ _ _ _ _ hk) underlying32 rfl ZA) rfl ?_);exact ⟨rfl,(D.out.trans V.out).setRow (ZM _) _⟩
theorem ZdT (K:Int) (Bb:Bool) (Nn:Int) (Ss:ByteArray) (A B:Option Addr) (p c q d At:Nat) (w:World) (vs hB sti shm:ByteArray)
 (hn:Hid (∀W':World,Ext w W'->Calls prog 15 #[.agg #[.int .i64 K,.bool Bb,.int .i64 Nn,.string Ss,.slice A p c,.slice B q d,.int .i64 At]] W' λe w2=>e= .returned (.tuple #[.string vs,.bool true])/\Ext W' w2))
 (hE:Hid (∀W':World,Ext w W'->Calls prog 37 #[.agg #[.int .i64 K,.bool Bb,.int .i64 Nn,.string Ss,.slice A p c,.slice B q d,.int .i64 At],.slice (some ⟨W'.heap.size,0,none⟩) 4 4,.bool false] (W'.alloc (.cells #[.string ⟨#[102,101,101,100,95,117,114,108]⟩,.string ⟨#[104,111,109,101,95,112,97,103,101,95,117,114,108]⟩,.string ⟨#[116,105,116,108,101]⟩,.string ⟨#[95,117,112,100,97,116,101,100]⟩] 9)) λe w2=>e= .returned (.tuple #[.int .i64 0,.int .i64 0])/\Ext W' w2))
 (hI:Hid (∀W':World,Ext w W'->Calls prog 38 #[.agg #[.int .i64 K,.bool Bb,.int .i64 Nn,.string Ss,.slice A p c,.slice B q d,.int .i64 At],.string ⟨#[102,101,101,100,95,117,114,108]⟩] W' λe w2=>e= .returned (.string hB)/\Ext W' w2))
 (hL:Hid (∀W':World,Ext w W'->Calls prog 38 #[.agg #[.int .i64 K,.bool Bb,.int .i64 Nn,.string Ss,.slice A p c,.slice B q d,.int .i64 At],.string ⟨#[116,105,116,108,101]⟩] W' λe w2=>e= .returned (.string sti)/\Ext W' w2))
 (hJ:Hid (∀W':World,Ext w W'->Calls prog 38 #[.agg #[.int .i64 K,.bool Bb,.int .i64 Nn,.string Ss,.slice A p c,.slice B q d,.int .i64 At],.string ⟨#[104,111,109,101,95,112,97,103,101,95,117,114,108]⟩] W' λe w2=>e= .returned (.string shm)/\Ext W' w2))
 (hC:Hid (∀W':World,Calls prog 39 #[.string hB] W' λe w2=>e= .returned (.bool true)/\Ext W' w2))
 (hD:Hid (∀W':World,Calls prog 39 #[.string shm] W' λe w2=>e= .returned (.bool false)/\Ext W' w2)) (tt:Int)
 (hF:Hid (∀W':World,Ext w W'->Calls prog 40 #[.agg #[.int .i64 K,.bool Bb,.int .i64 Nn,.string Ss,.slice A p c,.slice B q d,.int .i64 At],.slice (some ⟨W'.heap.size,0,none⟩) 1 1] (W'.alloc (.cells #[.string ⟨#[95,117,112,100,97,116,101,100]⟩] 9)) λe w2=>e= .returned (.tuple #[.int .i64 tt,.int .i64 0,.int .i64 0])/\Ext W' w2)) (K2:Nat) (B2:Bool) (N2:Int) (S2:ByteArray) (A2 C2:Option Addr) (p2 c2 q2 d2 At2:Nat) (h4:K2≠4)
 (hH:Hid (∀W':World,Ext w W'->Calls prog 41 #[.agg #[.int .i64 K,.bool Bb,.int .i64 Nn,.string Ss,.slice A p c,.slice B q d,.int .i64 At],.string ⟨#[105,116,101,109,115]⟩] W' λe w2=>e= .returned (.tuple #[.agg #[.int .i64 (K2:Nat),.bool B2,.int .i64 N2,.string S2,.slice A2 p2 c2,.slice C2 q2 d2,.int .i64 (At2:Nat)],.bool true])/\Ext W' w2)):
 Calls prog 13 #[.agg #[.int .i64 K,.bool Bb,.int .i64 Nn,.string Ss,.slice A p c,.slice B q d,.int .i64 At]] w λe w'=>e= .returned (.tuple #[.agg #[.slice none 0 0,.string ⟨#[]⟩,.string ⟨#[]⟩,.string ⟨#[]⟩,.int .i64 0,.slice none 0 0],.int .i64 (At2:Nat),.int .i64 21])/\Ext w w':=by
 obtain ⟨W1,hf⟩:∃W1,(w.alloc (.cells #[.int .i64 K,.bool Bb,.int .i64 Nn,.string Ss,.slice A p c,.slice B q d,.int .i64 At] 25)).alloc (.cells #[.slice none 0 0,.string ⟨#[]⟩,.string ⟨#[]⟩,.string ⟨#[]⟩,.int .i64 0,.slice none 0 0] 32)=W1:=⟨_,rfl⟩;have hx:Ext w W1:=by rw[<-hf];exact ((Ext.refl w).alloc _).alloc _
 have I:W1.heap[w.heap.size]? =some (.cells #[.int .i64 K,.bool Bb,.int .i64 Nn,.string Ss,.slice A p c,.slice B q d,.int .i64 At] 25 (0,0)):=by rw[<-hf];exact ((Ext.refl _).alloc _).heap (Zh w _)
 have hw:W1.heap[w.heap.size+1]? =some (.cells #[.slice none 0 0,.string ⟨#[]⟩,.string ⟨#[]⟩,.string ⟨#[]⟩,.int .i64 0,.slice none 0 0] 32 (0,0)):=by rw[<-hf];exact YN w _ _
 have O:Hid (∀W':World,Ext W1 W'->W'.cell? ⟨w.heap.size,0,none⟩=some (.int .i64 K)/\W'.cell? ⟨w.heap.size,1,none⟩=some (.bool Bb)/\W'.cell? ⟨w.heap.size,2,none⟩=some (.int .i64 Nn)/\W'.cell? ⟨w.heap.size,3,none⟩=some (.string Ss)/\W'.cell? ⟨w.heap.size,4,none⟩=some (.slice A p c)/\W'.cell? ⟨w.heap.size,5,none⟩=some (.slice B q d)/\W'.cell? ⟨w.heap.size,6,none⟩=some (.int .i64 At)):=gd λW' h=>⟨h.cell (Zb _ _ 0 _ _ _ I),h.cell (Zb _ _ 1 _ _ _ I),h.cell (Zb _ _ 2 _ _ _ I),h.cell (Zb _ _ 3 _ _ _ I),h.cell (Zb _ _ 4 _ _ _ I),h.cell (Zb _ _ 5 _ _ _ I),h.cell (Zb _ _ 6 _ _ _ I)⟩;have F:=gd hx;have hm:=gd hw;obtain ⟨c0,c1,hR,c3,c4,c5,c6⟩:=O.out _ (Ext.refl W1);clear hx I hw;have hW:((K2:Int) !=4)=true:=by simp;omega
 go_enter func13,ntmps13
 go_wp2_with (first|(go_at_call 37;(have J:=hE.out w2 (F.out.trans Z));(with_reducible refine Za J ?_);clear J;rintro e w3 ⟨rfl,hy⟩;(have C:=Z.trans hy);(obtain ⟨f0,f1,f2,f3,f4,f5,f6⟩:=O.out _ C);(clear e0 e1 e2 e3 e4 e5 e6))|(go_at_call 15;(have J:=hn.out W1 F.out);(with_reducible refine Za J ?_);clear J;rintro e w2 ⟨rfl,Z⟩;(obtain ⟨e0,e1,e2,e3,e4,e5,e6⟩:=O.out _ Z);(clear c0 c1 hR c3 c4 c5 c6)))
 have a0:∀y:Aft w3,y.w.cell? ⟨w.heap.size,0,none⟩=_:=Aft.cell f0;have a1:∀y:Aft w3,y.w.cell? ⟨w.heap.size,1,none⟩=_:=Aft.cell f1;have a2:∀y:Aft w3,y.w.cell? ⟨w.heap.size,2,none⟩=_:=Aft.cell f2;have a3:∀y:Aft w3,y.w.cell? ⟨w.heap.size,3,none⟩=_:=Aft.cell f3;have a4:∀y:Aft w3,y.w.cell? ⟨w.heap.size,4,none⟩=_:=Aft.cell f4;have a5:∀y:Aft w3,y.w.cell? ⟨w.heap.size,5,none⟩=_:=Aft.cell f5;have a6:∀y:Aft w3,y.w.cell? ⟨w.heap.size,6,none⟩=_:=Aft.cell f6;clear f0 f1 f2 f3 f4 f5 f6;refine Yy 7 (.cells #[.slice none 0 0,.string ⟨#[]⟩,.string ⟨#[]⟩,.string ⟨#[]⟩,.int .i64 0,.slice none 0 0] 32) _ (by kernel_rfl) rfl (by kernel_rfl) (λa w K h=>by go_simp;exact h) ?_
 repeat (refine YH (λKc hK=> ?_);go_simp;first|(refine hK _ ?_;clear hK Kc)|(apply Ye;refine ⟨λy=> ?_,hK _ ?_⟩;(go_at_call 38;first|with_reducible exact ZP (hI.out _ ((F.out.trans C).trans y.ext))|with_reducible exact ZP (hL.out _ ((F.out.trans C).trans y.ext))|with_reducible exact ZP (hJ.out _ ((F.out.trans C).trans y.ext)));clear hK Kc))
 refine YO ?_;intro g c' hg hc;refine Yk rfl 32 (.tmp 9) (.tmp 42) rfl g _ rfl rfl _ _ hc ZA rfl YQ ?_;intro W4 Y hp hT;have hA:Ext w3 W4:=hp w3 c'.ext hg;have ht:W1.heap.size<=g:=Zl C.size hg;clear hc hp hT hg c' a0 a1 a2 a3 a4 a5 a6;have S:=C.trans hA;obtain ⟨e0,e1,e2,e3,e4,e5,e6⟩:=O.out _ S;have k1:=Zb _ _ 1 _ _ _ Y;have k3:=Zb _ _ 3 _ _ _ Y;have hP:=gd S;have hM:=gd Y;have hl:=gd ht;clear S hA C hy Z Y ht
 go_wp2_with (first|(go_at_call 41;(have J:=hH.out W9 (F.out.trans V.out));(with_reducible refine Za J ?_);clear J;rintro e D ⟨rfl,Q⟩;(obtain ⟨G,hb⟩:∃G,D.alloc (.cells #[.int .i64 (K2:Nat),.bool B2,.int .i64 N2,.string S2,.slice A2 p2 c2,.slice C2 q2 d2,.int .i64 (At2:Nat)] 25)=G:=⟨_,rfl⟩);(have R:Ext W9 G:=by rw[<-hb];exact Q.alloc _);(have j:G.heap[D.heap.size]? =some (.cells #[.int .i64 (K2:Nat),.bool B2,.int .i64 N2,.string S2,.slice A2 p2 c2,.slice C2 q2 d2,.int .i64 (At2:Nat)] 25 (0,0)):=by rw[<-hb];exact Zh D _);(have ha:=gd (V.out.trans R));(have hV:=gd (R.heap hO.out));(have hG:Hid (W1.heap.size<=D.heap.size):=gd (V.out.trans Q).size);(have z0:=Zb _ _ 0 _ _ _ j);(have z1:=Zb _ _ 1 _ _ _ j);(have z2:=Zb _ _ 2 _ _ _ j);(have z3:=Zb _ _ 3 _ _ _ j);(have z4:=Zb _ _ 4 _ _ _ j);(have z5:=Zb _ _ 5 _ _ _ j);(have z6:=Zb _ _ 6 _ _ _ j);(have hU:=gd j);clear Q R j e0 e1 e2 e3 e4 e5 e6)|(go_at_call 40;(have J:=hF.out w7 (F.out.trans hd.out));(with_reducible refine Za J ?_);clear J;rintro e w8 ⟨rfl,hk⟩;(have hi:=hk.heap hN.out);(have l4:w8.frozen? ⟨g,4,none⟩=false:=ZH hi 4);(have hX:=Zb _ _ 4 _ _ _ hi);(obtain ⟨W9,hs⟩:∃W9,w8.setCell ⟨g,4,none⟩ (.int .i64 tt)=W9:=⟨_,rfl⟩);(have hO:Hid (W9.heap[g]? =some (.cells #[.slice none 0 0,.string shm,.string sti,.string shm,.int .i64 tt,.slice none 0 0] 32 (0,0))):=gd (by rw[<-hs,ZR _ _ _ _ _ _ hi];rfl));(have V:Hid (Ext W1 W9):=gd (by rw[<-hs];exact (hd.out.trans hk).setCell (p:=⟨g,4,none⟩) hl.out _));clear hk f0 f1 f2 f3 f4 f5 f6;(obtain ⟨e0,e1,e2,e3,e4,e5,e6⟩:=O.out _ V.out))|(go_at_call 39;(have J:=hD.out W6);(with_reducible refine Za J ?_);clear J;rintro e w7 ⟨rfl,hj⟩;(have hd:=gd (hQ.out.trans hj));(have hN:=gd (hj.heap ho.out));clear hj;(obtain ⟨f0,f1,f2,f3,f4,f5,f6⟩:=O.out _ hd.out))|(go_at_call 39;(have J:=hC.out W4);(with_reducible refine Za J ?_);clear J;rintro e w5 ⟨rfl,U⟩;(have hu:=U.heap hM.out);(have m3:=U.cell k3);(have l1:w5.frozen? ⟨g,1,none⟩=false:=ZH hu 1);(have m1:=U.cell k1);(obtain ⟨W6,hr⟩:∃W6,w5.setCell ⟨g,1,none⟩ (.string shm)=W6:=⟨_,rfl⟩);(have ho:Hid (W6.heap[g]? =some (.cells #[.slice none 0 0,.string shm,.string sti,.string shm,.int .i64 0,.slice none 0 0] 32 (0,0))):=gd (by rw[<-hr,ZR _ _ _ _ _ _ hu];rfl));(have hQ:Hid (Ext W1 W6):=gd (by rw[<-hr];exact (hP.out.trans U).setCell (p:=⟨g,1,none⟩) hl.out _));(have n1:=Zb _ _ 1 _ _ _ ho.out);clear k1 k3 U e0 e1 e2 e3 e4 e5 e6))
 have hh:D.heap.size≠w.heap.size+1:=by have h1:=hG.out;have h2:=(Ze.1 hm.out).1;omega
 have X:G.drew.cell? ⟨D.heap.size,6,none⟩=some (.int .i64 At2):=z6;have hv:=(ha.out.trans (Ext.refl G).drew).heap hm.out;refine rN ?_;change wpAny _ _ _ _ _ _ _ (World.drew _);refine Yi (λw'=>w'.cell? ⟨D.heap.size,6,none⟩=some (.int .i64 At2)) ?_;refine tG 0 (.agg #[.slice none 0 0,.string ⟨#[]⟩,.string ⟨#[]⟩,.string ⟨#[]⟩,.int .i64 0,.slice none 0 0]) X ?_;refine tG 1 (.pointer (some ⟨D.heap.size,6,none⟩)) X ?_;refine tS 2 (.int .i64 At2) rfl (λw' hS=>by have hq:w'.cell? ⟨D.heap.size,6,none⟩=some (.int .i64 At2):=hS;go_simp) X ?_;go_simp;refine Zv (i:=3) rfl (by kernel_rfl) (λKc H=> ?_);refine Z4 rfl 32 (.tmp 2) (.tmp 79) rfl (w.heap.size+1) #[.slice none 0 0,.string ⟨#[]⟩,.string ⟨#[]⟩,.string ⟨#[]⟩,.int .i64 0,.slice none 0 0] rfl rfl _ _ hv ZA rfl YQ ?_;have he:(G.drew.setRow (w.heap.size+1) #[.slice none 0 0,.string ⟨#[]⟩,.string ⟨#[]⟩,.string ⟨#[]⟩,.int .i64 0,.slice none 0 0]).cell? ⟨D.heap.size,6,none⟩=some (.int .i64 At2):=by rw[Zu (a:=⟨D.heap.size,6,none⟩) (ZD _ _ _ _ hh)];exact X
 refine H _ _ he ?_;clear H Kc;refine Zv (i:=4) rfl (by kernel_rfl) (λKc H=> ?_);go_simp;refine H _ _ he ?_;clear H Kc;refine Zv (i:=5) rfl (by kernel_rfl) (λKc H=> ?_);go_simp;refine H _ _ he ?_;clear H Kc;refine sE ?_;go_wp2;((try simp only[Exit.inBlock,Exit.then]);refine Zm (Zw rfl _ _ _ _ _ _ _ rfl (Zk _ _ _ _ _ _ hv) underlying32 rfl ZA) rfl ?_);exact ⟨rfl,(F.out.trans (ha.out.trans (Ext.refl G).drew)).setRow (ZM _) _⟩
end
end Go.Proofs.YthlnaldahkgjnaaGreatDoor
