/- Parts of the proof: contracts and plain laws. -/
import Derived.Test.YthlnaldahkgjnaaGreatDoorY15
namespace Go.Proofs.YthlnaldahkgjnaaGreatDoor
open Go Go.RowKit
set_option linter.unusedVariables false
set_option linter.unusedSimpArgs false
set_option maxRecDepth 100000
set_option maxHeartbeats 16000000
section
def idW (j:JO):ByteArray:=if collapse (firstJ j [nFeedUrl])=noS then firstJ j [nHome] else firstJ j [nFeedUrl]
def itemK (j:JO):Option (Nat×Nat):=match memJ j nItems with
 |some x=>if kindJ x≠4 then some (atJ x,21) else none
 |none=>none
def itsW (j:JO):List JO:=match memJ j nItems with
 |some x=>itemsJ x
 |none=> []
def headWJ (j:JO):Option (Nat×Nat):=orF (orF (orF (chkJ j false [nFeedUrl,nHome,nTitle,nUpdated]) (reqF j (idW j))) (faultD (dateJ j [nUpdated]))) (itemK j)
def firstFs:List JO→Option (Nat×Nat)
 | []=>none
 |x::t=>orF (entF x) (firstFs t)
theorem firstFs_app:∀(l m:List JO),firstFs (l++m)=orF (firstFs l) (firstFs m)
 | [],_=>rfl
 |x::t,m=>by
  show orF (entF x) (firstFs (t++m))=orF (orF (entF x) (firstFs t)) (firstFs m)
  rw[firstFs_app t m,orF_assoc]
theorem firstFs_take {l:List JO} {k:Nat} (hk:k<l.length):firstFs (l.take (k+1))=orF (firstFs (l.take k)) (entF l[k]):=by
 rw[List.take_succ_eq_append_getElem hk,firstFs_app]
 show orF _ (orF (entF l[k]) none)=_
 rw[orF_none]
theorem firstFs_some {l:List JO} {k:Nat} {f:Nat×Nat} {o:Option (Nat×Nat)} (h:orF o (firstFs (l.take k))=some f):orF o (firstFs l)=some f:=by
 conv=>lhs;rw[←List.take_append_drop k l,firstFs_app,←orF_assoc,h]
 rfl
theorem entsJ_first:∀l:List JO,entsJ l=(match firstFs l with|some f=> .error f|none=>entsJ l)
 | []=>rfl
 |x::t=>by
  have ih:=entsJ_first t
  have he:=entF_eq x
  have e:entsJ (x::t)=match entryJ x with
   | .error e=> .error e
   | .ok x=>match entsJ t with
    | .error e=> .error e
    | .ok l=> .ok (x::l):=rfl
  show entsJ (x::t)=match orF (entF x) (firstFs t) with
   |some f=>Except.error f
   |none=>entsJ (x::t)
  cases hx:entryJ x with
  |error f=>
   rw[hx] at he
   rw[he,e,hx]
   rfl
  |ok y=>
   rw[hx] at he
   rw[he]
   show entsJ (x::t)=match firstFs t with
    |some f=>Except.error f
    |none=>entsJ (x::t)
   cases hf:firstFs t with
   |none=>rfl
   |some f=>
    rw[hf] at ih
    rw[e,hx,ih]
theorem entsJ_none:∀{l:List JO} {E:List Ent},firstFs l=none→E.length=l.length→(∀(i:Nat) (e:Ent) (x:JO),E[i]? =some e→l[i]? =some x→EntR x e)→entsJ l= .ok E
 | [],E,_,hl,_=>by rw[List.eq_nil_of_length_eq_zero hl];rfl
 |x::t,[],_,hl,_=>by simp at hl
 |x::t,e::E,hf,hl,hr=>by
  have hf':orF (entF x) (firstFs t)=none:=hf
  have h1:entF x=none:=by cases h:entF x with
   |none=>rfl
   |some f=>rw[h] at hf';cases hf'
  rw[h1] at hf'
  have ih:=entsJ_none (l:=t) (E:=E) hf' (by simpa using hl) fun i a y ha hy=>hr (i+1) a y (by simpa using ha) (by simpa using hy)
  have h2:=entF_eq x
  rw[h1] at h2
  cases hx:entryJ x with
  |error f=>rw[hx] at h2;cases h2
  |ok y=>
   have h3:=entR_eq (hr 0 e x rfl rfl) hx
   have e0:entsJ (x::t)=match entryJ x with
    | .error e=> .error e
    | .ok x=>match entsJ t with
     | .error e=> .error e
     | .ok l=> .ok (x::l):=rfl
   rw[e0,hx,ih,h3]
theorem chk_texts {j:JO} (h:chkJ j false [nFeedUrl,nHome,nTitle,nUpdated]=none):firstJ j [nFeedUrl]=textJ j nFeedUrl∧firstJ j [nHome]=textJ j nHome∧firstJ j [nTitle]=textJ j nTitle:=by
 have hm:=chk1_of _ h
 exact ⟨chk1_first (hm _ (by simp)),chk1_first (hm _ (by simp)),chk1_first (hm _ (by simp))⟩
theorem decJ_at (j:JO) (hv:versJ j≠none):decJ j=match orF (headWJ j) (firstFs (itsW j)) with
 |some f=> .error f
 |none=>match dateJ j [nUpdated] with
  | .error e=> .error e
  | .ok t=>match entsJ (itsW j) with
   | .error e=> .error e
   | .ok l=> .ok ⟨[],idW j,firstJ j [nTitle],firstJ j [nHome],t,l⟩:=by
 unfold decJ headWJ
 rw[if_neg hv]
 cases hc:chkJ j false [nFeedUrl,nHome,nTitle,nUpdated] with
 |some e=>rfl
 |none=>
  obtain ⟨h1,h2,h3⟩:=chk_texts hc
  have hid:idW j=feedId j:=by unfold idW feedId;rw[h1,h2]
  simp only[orF]
  unfold reqF
  rw[hid,h2,h3]
  by_cases hb:collapse (feedId j)=noS
  ·rw[if_pos hb,if_pos hb]
  ·rw[if_neg hb,if_neg hb]
   cases hd:dateJ j [nUpdated] with
   |error e=>rfl
   |ok t=>
    unfold itemK itsW
    cases hm:memJ j nItems with
    |none=>rfl
    |some x=>
     simp only[faultD,orF]
     by_cases h4:kindJ x≠4
     ·rw[if_pos h4,if_pos h4]
     ·rw[if_neg h4,if_neg h4]
      have hf:=entsJ_first (itemsJ x)
      cases hff:firstFs (itemsJ x) with
      |some f=>rw[hff] at hf;rw[hf]
      |none=>rfl
theorem decJ_err_walk {j:JO} {f:Nat×Nat} (hv:versJ j≠none) (h:orF (headWJ j) (firstFs (itsW j))=some f):decJ j= .error f:=by
 rw[decJ_at j hv,h]
theorem decJ_ok_walk {j:JO} {t:Int} {E:List Ent} (hv:versJ j≠none) (h:orF (headWJ j) (firstFs (itsW j))=none) (ht:∀v,dateJ j [nUpdated]= .ok v→t=v) (hE:E.length=(itsW j).length)
 (hr:∀(i:Nat) (e:Ent) (x:JO),E[i]? =some e→(itsW j)[i]? =some x→EntR x e):decJ j= .ok ⟨[],idW j,firstJ j [nTitle],firstJ j [nHome],t,E⟩:=by
 have h1:headWJ j=none:=by cases hh:headWJ j with
  |none=>rfl
  |some f=>rw[hh] at h;cases h
 have h2:firstFs (itsW j)=none:=by rw[h1] at h;exact h
 rw[decJ_at j hv,h]
 cases hd:dateJ j [nUpdated] with
 |error e=>
  unfold headWJ at h1
  rw[hd] at h1
  cases hx:orF (chkJ j false [nFeedUrl,nHome,nTitle,nUpdated]) (reqF j (idW j)) with
  |some f=>rw[hx] at h1;cases h1
  |none=>rw[hx] at h1;cases h1
 |ok v=>
  rw[entsJ_none h2 hE hr,ht v hd]
structure DC (w0:World) (N b:Nat) (j:JO) (cs:List Value):Prop where
 h:RJ w0 j cs
 hg:jsz N j
 hN:N≤16777216
 hE:Env w0
 hb:w0.heap.size≤b
section
variable {w0 W:World} {N b:Nat} {j:JO} {cs:List Value} {o:Option (Nat×Nat)}
theorem check_b (C:DC w0 N b j cs) (hx:Ext w0 W) (hr:RdAt b cs o W) (names:List ByteArray) (hn:names.length≤1000) (sb:Nat) (hsb:sb=W.heap.size):
 Calls Tryz.prog 28 #[.pointer (some ⟨b,0,none⟩),.slice (some ⟨sb,0,none⟩) names.length names.length] (W.alloc (.cells (names.map Value.string).toArray 9)) fun e w'=>e= .returned (.tuple #[])∧RdAt b cs (orF o (chkJ j false names)) w'∧Bar b W w':=by
 subst hsb
 have hx1:=(Ext.refl W).alloc (.cells (names.map Value.string).toArray 9)
 have hlt:=(Array.getElem?_eq_some_iff.1 hr.1).1
 exact (check_any N j cs b W.heap.size o names w0 _ C.h C.hg C.hN C.hE (hx.trans hx1) C.hb (hr.ext hx1) (heap_alloc_new W _) (Nat.ne_of_gt hlt) hn).mono fun _ _ ⟨h1,h2,h3⟩=>⟨h1,h2,(Bar.of hx1).trans h3⟩
theorem first_b (C:DC w0 N b j cs) (hx:Ext w0 W) (hr:RdAt b cs o W) (names:List ByteArray) (hn:names.length≤1000) (sb:Nat) (hsb:sb=W.heap.size):
 Calls Tryz.prog 29 #[.pointer (some ⟨b,0,none⟩),.slice (some ⟨sb,0,none⟩) names.length names.length] (W.alloc (.cells (names.map Value.string).toArray 9)) fun e w'=>e= .returned (.string (firstJ j names))∧Ext W w':=by
 subst hsb
 have hx1:=(Ext.refl W).alloc (.cells (names.map Value.string).toArray 9)
 exact (first_any j cs b W.heap.size o names w0 _ C.h (hx.trans hx1) (hr.ext hx1) (heap_alloc_new W _) hn).mono fun _ _ ⟨h1,h2⟩=>⟨h1,hx1.trans h2⟩
theorem date_b (C:DC w0 N b j cs) (hx:Ext w0 W) (hr:RdAt b cs o W) (names:List ByteArray) (hn:names.length≤1000) (sb:Nat) (hsb:sb=W.heap.size):
 Calls Tryz.prog 32 #[.pointer (some ⟨b,0,none⟩),.slice (some ⟨sb,0,none⟩) names.length names.length] (W.alloc (.cells (names.map Value.string).toArray 9)) fun e w'=>∃t:Int,e= .returned (.int .i64 t)∧(∀v,dateJ j names= .ok v→t=v)∧RdAt b cs (orF o (faultD (dateJ j names))) w'∧Bar b W w':=by
 subst hsb
 have hx1:=(Ext.refl W).alloc (.cells (names.map Value.string).toArray 9)
 have hlt:=(Array.getElem?_eq_some_iff.1 hr.1).1
 exact (date_any N j cs b W.heap.size o names w0 _ C.h C.hg C.hN (hx.trans hx1) (hr.ext hx1) (heap_alloc_new W _) (Nat.ne_of_gt hlt) hn).mono fun _ _ ⟨⟨t,h1,h2⟩,h3,h4⟩=>⟨t,h1,h2,h3,(Bar.of hx1).trans h4⟩
end
end
section
set_option linter.unusedSimpArgs false
attribute [local go_sem] calm1
def DecR (w':World) (r:Except (Nat×Nat) Fd) (e:Ending):Prop:=match r with
 | .error f=>e= .returned (.tuple #[.agg (cellsC zeroC).toArray,.int .i64 (f.1:Nat),.int .i64 (f.2:Nat)])
 | .ok f=>∃y:Fc,e= .returned (.tuple #[.agg (cellsC y).toArray,.int .i64 0,.int .i64 (errF f:Nat)])∧y.f=normF f∧RdC w' y∧slC y
theorem jdec_no (j:JO) (cs:List Value) (w:World) (h:RJ w j cs) (hv:versJ j=none):
 Calls Tryz.prog 12 #[.agg cs.toArray] w fun e w'=>DecR w' (.error (atJ j,18)) e∧Ext w w':=by
 have HVS:=gd (fun w' (hx:Ext w w')=>jversion_any j cs w w' h hx)
 rw[hv] at HVS
 obtain ⟨A,p,c,B,q,d,hc⟩:=h.cells
 generalize kindJ j=K,bJ j=Bb,nJ j=Nn,sJ j=Ss at hc
 obtain ⟨At,hAt⟩:∃a,atJ j=a:=⟨_,rfl⟩
 rw[hAt] at hc⊢
 unfold wcells at hc
 subst hc
 obtain ⟨W1,hW1⟩:∃W1,(w.alloc (.cells #[.int .i64 K,.bool Bb,.int .i64 Nn,.string Ss,.slice A p c,.slice B q d,.int .i64 At] 25)).alloc (.cells (cellsC zeroC).toArray 32)=W1:=⟨_,rfl⟩
 have hx1:Ext w W1:=by rw[←hW1];exact ((Ext.refl w).alloc _).alloc _
 have hv1:W1.heap[w.heap.size]? =some (.cells #[.int .i64 K,.bool Bb,.int .i64 Nn,.string Ss,.slice A p c,.slice B q d,.int .i64 At] 25 (0,0)):=by
  rw[←hW1];exact ((Ext.refl _).alloc _).heap (heap_alloc_new w _)
 have hr1:W1.heap[w.heap.size+1]? =some (.cells (cellsC zeroC).toArray 32 (0,0)):=by rw[←hW1];exact heap2b w _ _
 have c0:=cell_of_row _ _ 0 _ _ _ hv1
 have c1:=cell_of_row _ _ 1 _ _ _ hv1
 have c2:=cell_of_row _ _ 2 _ _ _ hv1
 have c3:=cell_of_row _ _ 3 _ _ _ hv1
 have c4:=cell_of_row _ _ 4 _ _ _ hv1
 have c5:=cell_of_row _ _ 5 _ _ _ hv1
 have c6:=cell_of_row _ _ 6 _ _ _ hv1
 have HX1:=gd hx1
 have HV1:=gd hv1
 have HR1:=gd hr1
 clear h hv hAt hx1 hv1 hr1
 unfold cellsC fCells zeroC zeroF noS at hW1
 go_enter Tryz.func12,Tryz.ntmps12
 go_wp2_with (first|(go_at_call 14;(have hz:=HVS.out W1 HX1.out);(with_reducible refine Calls.mono hz ?_);clear hz;rintro e w2 ⟨rfl,hx2⟩;(have q6:=Ext.cell hx2 c6)))
 have hS0:w2.drew.cell? ⟨w.heap.size,6,none⟩=some (.int .i64 At):=q6
 have hxd:Ext w2 w2.drew:=(Ext.refl _).drew
 have hkd:=(hx2.trans hxd).heap HR1.out
 refine rN ?_
 change wpAny _ _ _ _ _ _ _ (World.drew _)
 refine wpAny_of_S (fun w'=>w'.cell? ⟨w.heap.size,6,none⟩=some (.int .i64 At)) ?_
 refine tS 0 (.agg (cellsC zeroC).toArray) rfl (fun w' hS=>by go_simp;rfl) hS0 ?_
 refine tG 1 (.pointer (some ⟨w.heap.size,6,none⟩)) hS0 ?_
 refine tS 2 (.int .i64 At) rfl (fun w' hS=>by have hq:w'.cell? ⟨w.heap.size,6,none⟩=some (.int .i64 At):=hS;go_simp) hS0 ?_
 go_simp
 refine wpAnyS_step (i:=3) rfl (by kernel_rfl) (fun K2 hK2=> ?_)
 refine step_store_row rfl 32 (.tmp 2) (.tmp 22) rfl (w.heap.size+1) (cellsC zeroC).toArray rfl rfl _ _ hkd size_fd rfl oneF ?_
 have hS1:(w2.drew.setRow (w.heap.size+1) (cellsC zeroC).toArray).cell? ⟨w.heap.size,6,none⟩=some (.int .i64 At):=by
  rw[World.cell?_of_block (a:=⟨w.heap.size,6,none⟩) (setRow_other _ _ _ _ (Nat.ne_of_lt (Nat.lt_succ_self w.heap.size)))]
  exact hS0
 refine hK2 _ _ hS1 ?_
 clear hK2 K2
 refine wpAnyS_step (i:=4) rfl (by kernel_rfl) (fun K2 hK2=> ?_)
 go_simp
 refine hK2 _ _ hS1 ?_
 clear hK2 K2
 refine wpAnyS_step (i:=5) rfl (by kernel_rfl) (fun K2 hK2=> ?_)
 go_simp
 refine hK2 _ _ hS1 ?_
 clear hK2 K2
 refine sE ?_
 go_wp2
 ((try simp only[Exit.inBlock,Exit.then]);refine bodyPost_ret (results_cell_row3 rfl _ _ _ _ _ _ _ rfl (setRow_heap _ _ _ _ _ _ hkd) Tryz.underlying32 rfl size_fd) rfl ?_)
 exact ⟨rfl,((HX1.out.trans hx2).trans hxd).setRow (Nat.le_succ _) _⟩
structure DK (w:World) (b fb rb:Nat):Prop where
 kb:w.heap.size≤b
 kf:w.heap.size≤fb
 kr:w.heap.size≤rb
 bf:b≠fb
 br:b≠rb
 fr:fb≠rb
structure DF (w:World) (b fb rb:Nat) (cs:List Value) (o:Option (Nat×Nat)) (F:Fc) (W:World):Prop where
 rd:RdAt b cs o W
 fb:W.heap[fb]? =some (.cells (cellsC F).toArray 32 (0,0))
 rb:W.heap[rb]? =some (.cells (cellsC zeroC).toArray 32 (0,0))
 ext:Ext w W
section
variable {w W:World} {b fb rb:Nat} {cs:List Value} {o:Option (Nat×Nat)} {F:Fc}
theorem DF.next (H:DF w b fb rb cs o F W) {W':World} (hx:Ext W W'):DF w b fb rb cs o F W':=⟨H.rd.ext hx,hx.heap H.fb,hx.heap H.rb,H.ext.trans hx⟩
theorem DF.turn (K:DK w b fb rb) (H:DF w b fb rb cs o F W) {W':World} {o':Option (Nat×Nat)} (hb:Bar b W W') (hr:RdAt b cs o' W'):DF w b fb rb cs o' F W':=
 ⟨hr,hb.heap H.fb K.bf.symm,hb.heap H.rb K.br.symm,Bar.ext H.ext hb K.kb⟩
theorem DF.set (K:DK w b fb rb) (H:DF w b fb rb cs o F W) (i:Nat) (v:Value) {F':Fc} (he:(cellsC F).toArray.setIfInBounds i v=(cellsC F').toArray):DF w b fb rb cs o F' (W.setCell ⟨fb,i,none⟩ v):=by
 refine ⟨⟨?_,H.rd.2⟩,?_,?_,H.ext.setCell (p:=⟨fb,i,none⟩) K.kf v⟩
 ·rw[heap_setCell_other _ _ _ _ K.bf];exact H.rd.1
 ·rw[heap_setCell_same _ _ _ _ _ _ H.fb,he]
 ·rw[heap_setCell_other _ _ _ _ K.fr.symm];exact H.rb
theorem DF.cell (H:DF w b fb rb cs o F W) (i:Nat) {v:Value} (h:(cellsC F).toArray[i]? =some v):W.cell? ⟨fb,i,none⟩=some v∧W.frozen? ⟨fb,i,none⟩=false:=
 ⟨by rw[Lib.cell_of_heap H.fb];exact h,Lib.frozen_of_heap H.fb i⟩
end
theorem rj_open {w:World} {j:JO} {cs:List Value} (h:RJ w j cs):∃(A:Option Addr) (c:Nat) (B:Option Addr) (q d n:Nat) (css:List (List Value)),cs=wcells (kindJ j) (bJ j) (nJ j) (sJ j) (.slice A (itemsJ j).length c) (.slice B q d) (atJ j)∧css.length=(itemsJ j).length∧
 RSl w 7 (.slice A (itemsJ j).length c) (itemsJ j).length css.flatten∧∀(i:Nat) (x:JO) (c:List Value),(itemsJ j)[i]? =some x→css[i]? =some c→RJn n w x c:=by
 obtain ⟨n,h⟩:=h
 cases n with
 |zero=>exact h.elim
 |succ n=>
  obtain ⟨its,ms,rfl,⟨css,h1,h2,h3⟩,⟨_,_,_,h4,_⟩,_⟩:=h
  obtain ⟨_,A,c,rfl,_⟩:=id h2
  obtain ⟨_,B,d,rfl,_⟩:=h4
  exact ⟨_,_,_,_,_,n,css,rfl,h1,h2,h3⟩
def F0 (j:JO):Fc:=⟨.slice none 0 0,.slice none 0 0,⟨[],firstJ j [nFeedUrl],firstJ j [nTitle],firstJ j [nHome],0,[]⟩⟩
def FE (j:JO) (t:Int) (E:List Ent) (es:Value):Fc:=⟨.slice none 0 0,es,⟨[],idW j,firstJ j [nTitle],firstJ j [nHome],t,E⟩⟩
end
section
set_option linter.unusedSimpArgs false
attribute [local go_sem] calm1
theorem rd_cells {b:Nat} {cs:List Value} {o:Option (Nat×Nat)} {W:World} (h:RdAt b cs o W) (hl:cs.length=7):W.cell? ⟨b,7,none⟩=some (.int .i64 (faultA o:Nat))∧W.cell? ⟨b,8,none⟩=some (.int .i64 (faultE o:Nat))∧∀i,W.frozen? ⟨b,i,none⟩=false:=by
 refine ⟨?_,?_,fun i=>Lib.frozen_of_heap h.1 i⟩
 ·rw[Lib.cell_of_heap h.1]
  simp[List.getElem?_append_right,hl]
 ·rw[Lib.cell_of_heap h.1]
  simp[List.getElem?_append_right,hl]
theorem rd_set {b:Nat} {cs:List Value} {o f:Option (Nat×Nat)} {W:World} (h:RdAt b cs o W) (hl:cs.length=7) (hf:∀e,f=some e→e.2≠0):RdAt b cs f ((W.setCell ⟨b,7,none⟩ (.int .i64 (faultA f:Nat))).setCell ⟨b,8,none⟩ (.int .i64 (faultE f:Nat))):=by
 refine ⟨?_,hf⟩
 rw[heap_setCell_same _ _ _ _ _ _ (heap_setCell_same _ _ _ _ _ _ h.1)]
 congr 2
 simp[List.setIfInBounds_toArray,List.set_append_right,hl]
theorem rd_mid {b:Nat} {cs:List Value} {o:Option (Nat×Nat)} {W:World} (h:RdAt b cs o W) (hl:cs.length=7) (v:Value):(W.setCell ⟨b,7,none⟩ v).cell? ⟨b,8,none⟩=some (.int .i64 (faultE o:Nat))∧(W.setCell ⟨b,7,none⟩ v).frozen? ⟨b,8,none⟩=false:=by
 have hh:=heap_setCell_same _ _ 7 _ _ v h.1
 refine ⟨?_,Lib.frozen_of_heap hh 8⟩
 rw[Lib.cell_of_heap hh]
 simp[List.getElem?_append_right,hl,List.setIfInBounds_toArray,List.set_append_right]
theorem own_typeJ {w:World} {B size n g:Nat} {e T:TypeId} {v:Value} {xs:List Value} {cs:Array Value} {fr:Nat×Nat} (hown:w.ownsRow B e size v n xs) (hb:w.heap[g]? =some (.cells cs T fr)) (hT:T≠e):v.ownBlock≠some g:=by
 rcases hown.2 with ⟨rfl,_⟩|⟨q,cap,cur,rfl,_,hg,_⟩
 ·simp[Value.ownBlock]
 ·intro h
  simp only[Value.ownBlock,Option.some.injEq] at h
  subst h
  rw[hg] at hb
  simp only[Option.some.injEq,Obj.cells.injEq] at hb
  exact hT hb.2.1.symm
theorem own_setJ {w:World} {B size n:Nat} {e T:TypeId} {v:Value} {xs:List Value} {cs:Array Value} {fr:Nat×Nat} {p:Addr} (hown:w.ownsRow B e size v n xs) (hb:w.heap[p.block]? =some (.cells cs T fr)) (hT:T≠e) (u:Value):(w.setCell p u).ownsRow B e size v n xs:=
 hown.kept (row:=some p.block) (Bar.setCell w p u) (Or.inr (own_typeJ hown hb hT))
theorem keptG {w w':World} {B size n g:Nat} {e T:TypeId} {v:Value} {xs:List Value} {cs:Array Value} {fr:Nat×Nat} (hown:w.ownsRow B e size v n xs) (hg:w.grownBy w' v.ownBlock) (hb:w.heap[g]? =some (.cells cs T fr)) (hT:T≠e):w'.heap[g]? =some (.cells cs T fr):=
 (hg.block g (Array.getElem?_eq_some_iff.1 hb).1 (fun h=>own_typeJ hown hb hT h.symm)).trans hb
theorem DF.fault {w W:World} {b fb rb:Nat} {cs:List Value} {o o':Option (Nat×Nat)} {F:Fc} (H:DF w b fb rb cs o F W) (h:o=o'):DF w b fb rb cs o' F W:=h▸H
theorem itemsJ_no {j:JO} (h:kindJ j≠4):itemsJ j= []:=by cases j<;>first|rfl|exact absurd rfl h
theorem oneV7 {K n a:Int} {k:Bool} {s:ByteArray} {A B:Option Addr} {p c q d:Nat}:(#[Value.int .i64 K,.bool k,.int .i64 n,.string s,.slice A p c,.slice B q d,.int .i64 a]).all (fun u=>u.oneCell')=true:=by simp[Value.oneCell']
end
section
set_option linter.unusedSimpArgs false
theorem jdec_ya (N:Nat) (j:JO) (cs:List Value) (w:World) (h:RJ w j cs) (hg:jsz N j) (hN:N≤16777216) (hE:Env w) (hv:versJ j≠none) (hk:∀f,decJ j= .ok f→fokS f) (hLn:(itsW j).length≤1000000) (hB:(collapse (firstJ j [nFeedUrl])).toList.isEmpty=true) (hI:(memJ j nItems).isSome=false):
 Calls Tryz.prog 12 #[.agg cs.toArray] w fun e w'=>DecR w' (decJ j) e∧Ext w w':=by
 obtain ⟨ver,hver⟩:=Option.ne_none_iff_exists'.1 hv
 have HVS:=gd (fun w' (hx:Ext w w')=>jversion_any j cs w w' h hx)
 rw[hver] at HVS
 have HCC:=gd (fun (b:Nat) (hb:w.heap.size≤b)=>(⟨h,hg,hN,hE,hb⟩:DC w N b j cs))
 have HRJ:=gd h
 have HERR:=gd (fun f hf=>decJ_err_walk (f:=f) hv hf)
 have HOK:=gd (fun (t:Int) (E:List Ent) h1 h2 h3 h4=>decJ_ok_walk (t:=t) (E:=E) hv h1 h2 h3 h4)
 have HFK:=gd hk
 have HEN:=gd hE
 have HG:=gd hg
 obtain ⟨i0,hi0,hz0,hz1,hz2⟩:=info_parts info_ent
 obtain ⟨A,p,c,B,q,d,hc⟩:=h.cells
 obtain ⟨K,hK⟩:∃a,kindJ j=a:=⟨_,rfl⟩
 obtain ⟨Bb,hBb⟩:∃a,bJ j=a:=⟨_,rfl⟩
 obtain ⟨Nn,hNn⟩:∃a,nJ j=a:=⟨_,rfl⟩
 obtain ⟨Ss,hSs⟩:∃a,sJ j=a:=⟨_,rfl⟩
 obtain ⟨At,hAt⟩:∃a,atJ j=a:=⟨_,rfl⟩
 rw[hK,hBb,hNn,hSs,hAt] at hc
 unfold wcells at hc
 have HCS:=gd hc
 rw[hc] at HVS
 obtain ⟨W1,hW1⟩:∃W1,(w.alloc (.cells #[.int .i64 K,.bool Bb,.int .i64 Nn,.string Ss,.slice A p c,.slice B q d,.int .i64 At] 25)).alloc (.cells #[.slice none 0 0,.string ⟨#[]⟩,.string ⟨#[]⟩,.string ⟨#[]⟩,.int .i64 0,.slice none 0 0] 32)=W1:=⟨_,rfl⟩
 have hx1:Ext w W1:=by rw[←hW1];exact ((Ext.refl w).alloc _).alloc _
 have hv1:W1.heap[w.heap.size]? =some (.cells #[.int .i64 K,.bool Bb,.int .i64 Nn,.string Ss,.slice A p c,.slice B q d,.int .i64 At] 25 (0,0)):=by
  rw[←hW1];exact ((Ext.refl _).alloc _).heap (heap_alloc_new w _)
 have hr1:W1.heap[w.heap.size+1]? =some (.cells (cellsC zeroC).toArray 32 (0,0)):=by rw[←hW1];exact heap2b w _ _
 have hs1:W1.heap.size=w.heap.size+2:=by rw[←hW1,size_alloc,size_alloc]
 have c0:=cell_of_row _ _ 0 _ _ _ hv1
 have c1:=cell_of_row _ _ 1 _ _ _ hv1
 have c2:=cell_of_row _ _ 2 _ _ _ hv1
 have c3:=cell_of_row _ _ 3 _ _ _ hv1
 have c4:=cell_of_row _ _ 4 _ _ _ hv1
 have c5:=cell_of_row _ _ 5 _ _ _ hv1
 have c6:=cell_of_row _ _ 6 _ _ _ hv1
 have HX1:=gd hx1
 have HR1:=gd hr1
 have HS1:=gd hs1
 have HID:Hid (idW j=if collapse (firstJ j [nFeedUrl])=noS then firstJ j [nHome] else firstJ j [nFeedUrl]):=rfl
 have hsz:∀n,(firstJ j [n]).size≤16777216:=fun n=>by
  rw[firstJ_one]
  cases hm:memJ j n with
  |none=>exact Nat.zero_le _
  |some y=>exact Nat.le_trans (sJ_size (memJ_good hg hm)) hN
 have hszw:(idW j).size≤16777216:=by unfold idW;split<;>exact hsz _
 have HSZ:=gd hsz
 have HSW:=gd hszw
 obtain ⟨R,hR⟩:∃R,decJ j=R:=⟨_,rfl⟩
 rw[hR]
 have HRR:=gd hR
 obtain ⟨L,hL⟩:∃L,itsW j=L:=⟨_,rfl⟩
 have hHW:headWJ j=orF (orF (orF (chkJ j false [nFeedUrl,nHome,nTitle,nUpdated]) (reqF j (idW j))) (faultD (dateJ j [nUpdated]))) (itemK j):=rfl
 have hcol:=fun w'=>collapse_any (firstJ j [nFeedUrl]) w' (by have:=hsz nFeedUrl;omega)
 have hblank:(collapse (firstJ j [nFeedUrl])).toList.isEmpty=true∧Hid ((cellsC (F0 j)).toArray.setIfInBounds 1 (.string (firstJ j [nHome]))=(cellsC (FE j 0 [] (.slice none 0 0))).toArray)∨
  (collapse (firstJ j [nFeedUrl])).toList.isEmpty=false∧Hid (F0 j=FE j 0 [] (.slice none 0 0)):=by
  by_cases hb:collapse (firstJ j [nFeedUrl])=noS
  ·refine Or.inl ⟨by rw[hb];exact isEmpty_str [],?_⟩
   show _=_
   unfold FE idW
   rw[if_pos hb]
   rfl
  ·refine Or.inr ⟨ne_noS hb,?_⟩
   show _=_
   unfold F0 FE idW
   rw[if_neg hb]
 have hitem:((memJ j nItems).isSome=false∧Hid (memJ j nItems=none∧itemK j=none∧L= []))∨∃x,(memJ j nItems).isSome=true∧Hid (memJ j nItems=some x∧L=itemsJ x)∧(((((kindJ x:Nat):Int) !=4)=false∧Hid (itemK j=none))∨((((kindJ x:Nat):Int) !=4)=true∧Hid (itemK j=some (atJ x,21)))):=by
  cases hm:memJ j nItems with
  |none=>exact Or.inl ⟨rfl,rfl,by unfold itemK;rw[hm],by rw[←hL];unfold itsW;rw[hm]⟩
  |some x=>
   refine Or.inr ⟨x,rfl,⟨rfl,by rw[←hL];unfold itsW;rw[hm]⟩,?_⟩
   by_cases h4:kindJ x=4
   ·exact Or.inl ⟨by rw[h4];rfl,by show _=_;unfold itemK;rw[hm];exact if_neg (by simpa using h4)⟩
   ·exact Or.inr ⟨by rw[bne_iff_ne];omega,by show _=_;unfold itemK;rw[hm];exact if_pos h4⟩
 have HCOL:=gd hcol
 have HLN:Hid (L.length≤1000000):=by show _≤_;rw[←hL];exact hLn
 have HL:=gd hL
 have HHW:=gd hHW
 clear h hg hE hv hver hk hc hx1 hv1 hr1 hs1 hsz hszw hR hL hHW hcol hLn hK hBb hNn hSs hAt
 rw[HCS.out]
 rcases hblank with ⟨hbe,hcb⟩|⟨hbe,hcn⟩
 rotate_left
 ·rw[hbe] at hB;cases hB
 rcases hitem with ⟨hiF,hm⟩|⟨x,hiF,hm,⟨hk4,hk⟩|⟨hk4,hk⟩⟩
 rotate_left
 ·rw[hiF] at hI;cases hI
 ·rw[hiF] at hI;cases hI
 clear hB hI
 all_goals (
  go_enter Tryz.func12,Tryz.ntmps12
  go_wp2_with (first|(go_at_call 34;(refine Calls.mono (fail_c j cs w2.heap.size _ (atJ y) 21 w _ HRJ.out HF15.rd (by decide)) ?_);rintro e w16 ⟨rfl,hr16,hb16⟩;(have HF16:=HF15.turn HDK hb16 hr16);(have i4:=cell_of_row _ _ 4 _ _ _ (hb16.heap hib (by have:=HLT.out;omega))))|(go_at_call 33;(refine Calls.mono (rget_c j cs w2.heap.size _ nItems w _ HRJ.out HF13.ext HF13.rd) ?_);rintro e w14 ⟨⟨y,cy,rfl,hry,hmy⟩,hx14⟩;(obtain ⟨A1,c1',B1,q2,d2,n1,css,hcy,hcl,hrs,hel⟩:=rj_open hry);(unfold wcells at hcy);subst hcy;(have HF14:=HF13.next hx14);(have hib:=heap_alloc_new w14 (.cells #[.int .i64 (kindJ y:Nat),.bool (bJ y),.int .i64 (nJ y),.string (sJ y),.slice A1 (itemsJ y).length c1',.slice B1 q2 d2,.int .i64 (atJ y:Nat)] 25));(have HF15:=HF14.next ((Ext.refl w14).alloc (.cells #[.int .i64 (kindJ y:Nat),.bool (bJ y),.int .i64 (nJ y),.string (sJ y),.slice A1 (itemsJ y).length c1',.slice B1 q2 d2,.int .i64 (atJ y:Nat)] 25)));(have HLT:Hid (w2.heap.size<w14.heap.size):=(Array.getElem?_eq_some_iff.1 HF14.rd.1).1);(have i0:=cell_of_row _ _ 0 _ _ _ hib);(have i4:=cell_of_row _ _ 4 _ _ _ hib);(have i6:=cell_of_row _ _ 6 _ _ _ hib))|(go_at_call 32;(refine Calls.mono (date_b HC2 HF11.ext HF11.rd [nUpdated] (by decide) _ (by first|rfl|exact (size_alloc _ _).symm|(simp;done))) ?_);rintro e w12 ⟨t,rfl,ht,hr12,hb12⟩;(have HT:=gd ht);clear ht;(have HF12:=HF11.turn HDK hb12 hr12);(have g4:=(HF12.cell 4 (v:= .int .i64 0) rfl).1);(have g4f:=(HF12.cell 4 rfl).2);(have HF13:=HF12.set HDK 4 (.int .i64 t) (F':=FE j t [] (.slice none 0 0)) rfl))|(go_at_call 31;(refine Calls.mono (required_any j cs w2.heap.size _ (idW j) w _ HRJ.out HF10.ext HF10.rd HSW.out) ?_);rintro e w11 ⟨rfl,hr11,hb11⟩;(have HF11:=HF10.turn HDK hb11 hr11))|(go_at_call 30;(refine Calls.mono (HCOL.out _) ?_);rintro e w9 ⟨rfl,hx9⟩;(have HF9:=HF8.next hx9);(have g1:=(HF9.cell 1 (v:= .string (firstJ j [nFeedUrl])) rfl).1);(have g1f:=(HF9.cell 1 rfl).2);(have g3:=(HF9.cell 3 (v:= .string (firstJ j [nHome])) rfl).1);(first|(have HF10:=HF9.set HDK 1 (.string (firstJ j [nHome])) (F':=FE j 0 [] (.slice none 0 0)) hcb.out;(have e1:=(HF10.cell 1 (v:= .string (idW j)) rfl).1))|(have HF10:DF w w2.heap.size w7.heap.size (w.heap.size+1) cs _ (FE j 0 [] (.slice none 0 0)) w9:=(by rw[←hcn.out];exact HF9);(have e1:=(HF10.cell 1 (v:= .string (idW j)) rfl).1);clear g1)))|(go_at_call 29;(refine Calls.mono (first_b HC2 hx6 hr6 [nHome] (by decide) _ (by first|rfl|exact (size_alloc _ _).symm|(simp;done))) ?_);rintro e w7 ⟨rfl,hx7⟩;(have HFB:=heap_alloc_new w7 (.cells #[.slice none 0 0,.string (firstJ j [nFeedUrl]),.string (firstJ j [nTitle]),.string (firstJ j [nHome]),.int .i64 0,.slice none 0 0] 32));(have hxa:=hx7.alloc (.cells #[.slice none 0 0,.string (firstJ j [nFeedUrl]),.string (firstJ j [nTitle]),.string (firstJ j [nHome]),.int .i64 0,.slice none 0 0] 32));(have hb67:w2.heap.size<w7.heap.size:=Nat.lt_of_lt_of_le (Array.getElem?_eq_some_iff.1 hr6.1).1 hx7.size);(have HDK:DK w w2.heap.size w7.heap.size (w.heap.size+1):=(by have q1:=HS1.out;have q2:=hx2.size;exact ⟨by omega,by omega,by omega,by omega,by omega,by omega⟩));(have HF8:DF w w2.heap.size w7.heap.size (w.heap.size+1) cs _ (F0 j) _:=⟨hr6.ext hxa,HFB,hxa.heap hrb6,hx6.trans hxa⟩);(have g0:=(HF8.cell 1 (v:= .string (firstJ j [nFeedUrl])) rfl).1))|(go_at_call 29;(refine Calls.mono (first_b HC2 hx5 hr5 [nTitle] (by decide) _ (by first|rfl|exact (size_alloc _ _).symm|(simp;done))) ?_);rintro e w6 ⟨rfl,hx56⟩;(have hx6:=hx5.trans hx56);(have hr6:=hr5.ext hx56);(have hrb6:=hx56.heap hrb5))|(go_at_call 29;(refine Calls.mono (first_b HC2 hx4 hr4 [nFeedUrl] (by decide) _ (by first|rfl|exact (size_alloc _ _).symm|(simp;done))) ?_);rintro e w5 ⟨rfl,hx45⟩;(have hx5:=hx4.trans hx45);(have hr5:=hr4.ext hx45);(have hrb5:=hx45.heap hrb4))|(go_at_call 28;(refine Calls.mono (check_b HC2 hx3 hr3 [nFeedUrl,nHome,nTitle,nUpdated] (by decide) _ (by first|rfl|exact (size_alloc _ _).symm|(simp;done))) ?_);rintro e w4 ⟨rfl,hr4,hb4⟩;(have hx4:=Bar.ext hx3 hb4 HC2.hb);(have hrb4:=hb4.heap hrb3 (by have q1:=HS1.out;have q2:=hx2.size;omega)))|(go_at_call 14;(have hz:=HVS.out W1 HX1.out);(refine Calls.mono hz ?_);clear hz;rintro e w2 ⟨rfl,hx2⟩;(have q0:=Ext.cell hx2 c0);(have q1:=Ext.cell hx2 c1);(have q2:=Ext.cell hx2 c2);(have q3:=Ext.cell hx2 c3);(have q4:=Ext.cell hx2 c4);(have q5:=Ext.cell hx2 c5);(have q6:=Ext.cell hx2 c6);(have HC2:=HCC.out w2.heap.size (Nat.le_trans HX1.out.size hx2.size));(have hxa3:=(Ext.refl w2).alloc (.cells #[.int .i64 K,.bool Bb,.int .i64 Nn,.string Ss,.slice A p c,.slice B q d,.int .i64 At,.int .i64 0,.int .i64 0] 67));(have hx3:=(HX1.out.trans hx2).trans hxa3);(have hrb3:=(hx2.trans hxa3).heap HR1.out);(have hr3:RdAt w2.heap.size cs none (w2.alloc (.cells #[.int .i64 K,.bool Bb,.int .i64 Nn,.string Ss,.slice A p c,.slice B q d,.int .i64 At,.int .i64 0,.int .i64 0] 67)):=⟨(by rw[HCS.out];exact heap_alloc_new w2 _),fun e he=>(by cases he)⟩))))
 focus
  have hy0:kindJ y=0:=hmy.elim (fun e=>by rw[hm.out.1] at e;cases e) fun e=>e.2
  have hLy:itemsJ y=L:=by rw[itemsJ_no (by omega),hm.out.2.2]
  subst hLy
  have HFQ:=HF15.fault (o':=headWJ j) (by rw[HHW.out,hm.out.2.1,orF_none];rfl)
  have HGY:Hid (itemsJ y≠ []→jsz N y):=fun h=>absurd hm.out.2.2 h
  clear HF15 hmy
 all_goals (
  have hLn2:(itemsJ y).length≤1000000:=HLN.out
  have HRS:=gd hrs
  have HEL:=gd hel
  have HCL:=gd hcl
  have HFQ2:=gd HFQ
  clear hrs hel hcl HFQ i0 i4 i6 hib
  go_loopw [74] (fun i wr=>∃(k:Nat) (E:List Ent) (eA:Option Addr) (ec:Nat) (O:Option (Nat×Nat)),k≤(itemsJ y).length∧i= .int .i64 (k:Nat)∧Hid (E.length=k)∧Hid (DF w w2.heap.size w7.heap.size (w.heap.size+1) cs O (FE j t E (.slice eA E.length ec)) wr)∧Hid (OEnts wr w.heap.size (.slice eA E.length ec) E)∧Hid (∀(i:Nat) (e:Ent) (x:JO),E[i]? =some e→(itemsJ y)[i]? =some x→EntR x e)∧Hid (O=orF (headWJ j) (firstFs ((itemsJ y).take k)))) (fun i _=>(itemsJ y).length - (intOf i).toNat)
  case atStart=>exact ⟨0,[],none,0,headWJ j,Nat.zero_le _,rfl,rfl,HFQ2.out,OEnts.nil _ _,(fun i e x he _=>by simp at he),(by rw[List.take_zero];exact (orF_none _).symm)⟩
  case round=>
   obtain ⟨k,E,eA,ec,O,hk,rfl,hEl,HF,HO,HER,hO⟩:=hrel
   by_cases hlt:k<(itemsJ y).length
   ·rw[hm.out.2.2] at hlt;exact absurd hlt (Nat.not_lt_zero _)
   ·have hke:k=(itemsJ y).length:=by omega
    have hki:¬(k:Int)<((itemsJ y).length:Int):=by omega
    cases O with
    |none=>
     have hl7:cs.length=7:=by obtain ⟨_,_,_,_,_,_,e⟩:=HRJ.out.cells;rw[e];rfl
     obtain ⟨r7,r8, -⟩:=rd_cells HF.out.rd hl7
     simp only[faultA,faultE] at r7 r8
     have hEl2:=hEl.out
     have hok:=HOK.out t E (by rw[HL.out,hO.out,List.take_of_length_le (by omega)]) HT.out (by rw[HL.out];omega) (by rw[HL.out];exact HER.out)
     have hfk:=HFK.out _ hok
     have hres:R= .ok ⟨[],idW j,firstJ j [nTitle],firstJ j [nHome],t,E⟩:=by rw[←HRR.out];exact hok
     subst hres
     have hrc:RdC wr (FE j t E (.slice eA E.length ec)):=⟨RSl.nil wr 1,OEnts.reads HO.out⟩
     have HNF:=gd (normFeed_any (FE j t E (.slice eA E.length ec)) wr (HEN.out.ext HF.out.ext) hfk hrc)
     have e0:=(HF.out.cell 0 (v:= .slice none 0 0) rfl).1
     have e1:=(HF.out.cell 1 (v:= .string (idW j)) rfl).1
     have e2:=(HF.out.cell 2 (v:= .string (firstJ j [nTitle])) rfl).1
     have e3:=(HF.out.cell 3 (v:= .string (firstJ j [nHome])) rfl).1
     have e4:=(HF.out.cell 4 (v:= .int .i64 t) rfl).1
     have e5:=(HF.out.cell 5 (v:= .slice eA E.length ec) rfl).1
     have hlf:w7.heap.size<wr.heap.size:=(Array.getElem?_eq_some_iff.1 HF.out.fb).1
     have hlr:w.heap.size+1<wr.heap.size:=(Array.getElem?_eq_some_iff.1 HF.out.rb).1
     have HFR:=HDK.fr
     clear hok hfk hrc hl7 hEl2
     go_wp2_with (first|(refine wpList_store_row rfl 32 (.tmp 2) (.tmp 127) rfl (w.heap.size+1) #[.slice A9 m9 c9,.string yf.id,.string yf.title,.string yf.link,.int .i64 yf.upd,.slice B9 o9 d9] rfl rfl _ _ hrbN size_fd rfl oneF ?_)|(refine wpList_store_row rfl 32 (.tmp 8) (.tmp 125) rfl w7.heap.size #[.slice A9 m9 c9,.string yf.id,.string yf.title,.string yf.link,.int .i64 yf.upd,.slice B9 o9 d9] rfl rfl _ _ hfbN size_fd rfl oneF ?_;(have n0:=cell_of_row _ _ 0 _ _ _ (setRow_heap w17 w7.heap.size _ #[.slice A9 m9 c9,.string yf.id,.string yf.title,.string yf.link,.int .i64 yf.upd,.slice B9 o9 d9] _ _ hfbN));(have n1:=cell_of_row _ _ 1 _ _ _ (setRow_heap w17 w7.heap.size _ #[.slice A9 m9 c9,.string yf.id,.string yf.title,.string yf.link,.int .i64 yf.upd,.slice B9 o9 d9] _ _ hfbN));(have n2:=cell_of_row _ _ 2 _ _ _ (setRow_heap w17 w7.heap.size _ #[.slice A9 m9 c9,.string yf.id,.string yf.title,.string yf.link,.int .i64 yf.upd,.slice B9 o9 d9] _ _ hfbN));(have n3:=cell_of_row _ _ 3 _ _ _ (setRow_heap w17 w7.heap.size _ #[.slice A9 m9 c9,.string yf.id,.string yf.title,.string yf.link,.int .i64 yf.upd,.slice B9 o9 d9] _ _ hfbN));(have n4:=cell_of_row _ _ 4 _ _ _ (setRow_heap w17 w7.heap.size _ #[.slice A9 m9 c9,.string yf.id,.string yf.title,.string yf.link,.int .i64 yf.upd,.slice B9 o9 d9] _ _ hfbN));(have n5:=cell_of_row _ _ 5 _ _ _ (setRow_heap w17 w7.heap.size _ #[.slice A9 m9 c9,.string yf.id,.string yf.title,.string yf.link,.int .i64 yf.upd,.slice B9 o9 d9] _ _ hfbN)))|(go_at_call 36;(have hz:=HNF.out);(refine Calls.mono hz ?_);clear hz;rintro e w17 ⟨Y,rfl,hyf,hyr,hya,hx17⟩;(have hysl:=hyr.sl);(obtain ⟨yp,yes,yf⟩:=Y);(obtain ⟨⟨A9,m9,c9,h9⟩,⟨B9,o9,d9,h9'⟩⟩:=hysl);(dsimp only at h9 h9');(subst h9);(subst h9');(have HYF:=gd hyf);(have HYR:=gd hyr);(have HYA:=gd hya);clear hyf hyr hya;(unfold cellsC fCells);(dsimp only);(have hfbN:=hx17.heap HF.out.fb);(have hrbN:=(setRow_other w17 w7.heap.size (w.heap.size+1) #[.slice A9 m9 c9,.string yf.id,.string yf.title,.string yf.link,.int .i64 yf.upd,.slice B9 o9 d9] HFR.symm).trans (hx17.heap HF.out.rb))))
     ((try simp only[Exit.inBlock,Exit.then]);refine bodyPost_ret (results_cell_row3 rfl _ _ _ _ #[.slice A9 m9 c9,.string yf.id,.string yf.title,.string yf.link,.int .i64 yf.upd,.slice B9 o9 d9] _ _ rfl (setRow_heap _ _ _ _ _ _ hrbN) Tryz.underlying32 rfl size_fd) rfl ?_)
     refine ⟨⟨⟨.slice A9 m9 c9,.slice B9 o9 d9,yf⟩,rfl,HYF.out,?_,⟨⟨_,_,_,rfl⟩,⟨_,_,_,rfl⟩⟩⟩,((HF.out.ext.trans hx17).setRow HDK.kf _).setRow HDK.kr _⟩
     exact (HYR.out.grown (setRow_grown _ _ _) (HYA.out _ hlf)).grown (setRow_grown _ _ _) (HYA.out _ hlr)
    |some f=>
     have HFX:=HF.out
     have hl7:cs.length=7:=by obtain ⟨_,_,_,_,_,_,e⟩:=HRJ.out.cells;rw[e];rfl
     have hfne:f.2≠0:=HFX.rd.2 f rfl
     obtain ⟨r7,r8, -⟩:=rd_cells HFX.rd hl7
     have hfi:(((f.2:Nat):Int) !=0)=true:=by rw[bne_iff_ne];omega
     have hfi2:¬((f.2:Nat):Int)=0:=by omega
     have HFY:=gd HFX
     have hres:R= .error f:=by rw[←HRR.out];exact HERR.out f (by rw[HL.out];exact firstFs_some (k:=k) hO.out.symm)
     subst hres
     obtain ⟨fa,fe⟩:=f
     simp only[faultA,faultE] at r7 r8
     clear HFX hl7
     go_wp2
     have hxd:=(Ext.refl wr).drew
     have hS0:(wr).drew.cell? ⟨w2.heap.size,7,none⟩=some (.int .i64 (fa:Nat))∧(wr).drew.cell? ⟨w2.heap.size,8,none⟩=some (.int .i64 (fe:Nat)):=⟨r7,r8⟩
     have hkd:=hxd.heap HFY.out.rb
     refine rN ?_
     change wpAny _ _ _ _ _ _ _ (World.drew _)
     refine wpAny_of_S (fun w'=>w'.cell? ⟨w2.heap.size,7,none⟩=some (.int .i64 (fa:Nat))∧w'.cell? ⟨w2.heap.size,8,none⟩=some (.int .i64 (fe:Nat))) ?_
     refine tS 0 (.agg (cellsC zeroC).toArray) rfl (fun w' hS=>by go_simp;rfl) hS0 ?_
     refine tG 1 (.pointer (some ⟨w2.heap.size,0,none⟩)) hS0 ?_
     refine tG 2 (.pointer (some ⟨w2.heap.size,0,none⟩)) hS0 ?_
     refine tG 3 (.pointer (some ⟨w2.heap.size,7,none⟩)) hS0 ?_
     go_simp
     refine tS 4 (.int .i64 (fa:Nat)) rfl (fun w' hS=>by have hq:=hS.1;go_simp) hS0 ?_
     refine tG 5 (.pointer (some ⟨w2.heap.size,0,none⟩)) hS0 ?_
     refine tG 6 (.pointer (some ⟨w2.heap.size,0,none⟩)) hS0 ?_
     go_simp
     refine tG 7 (.pointer (some ⟨w2.heap.size,8,none⟩)) hS0 ?_
     refine tS 8 (.int .i64 (fe:Nat)) rfl (fun w' hS=>by have hq:=hS.2;go_simp) hS0 ?_
     go_simp
     refine wpAnyS_step (i:=9) rfl (by kernel_rfl) (fun K2 hK2=> ?_)
     refine step_store_row rfl 32 (.tmp 2) (.tmp 113) rfl (w.heap.size+1) (cellsC zeroC).toArray rfl rfl _ _ hkd size_fd rfl oneF ?_
     have hlt2:w.heap.size+1<w2.heap.size:=by have q1:=HS1.out;have q2:=hx2.size;omega
     have hS1:=And.intro ((World.cell?_of_block (a:=⟨w2.heap.size,7,none⟩) (setRow_other (wr).drew (w.heap.size+1) w2.heap.size (cellsC zeroC).toArray (Nat.ne_of_gt hlt2))).trans hS0.1) ((World.cell?_of_block (a:=⟨w2.heap.size,8,none⟩) (setRow_other (wr).drew (w.heap.size+1) w2.heap.size (cellsC zeroC).toArray (Nat.ne_of_gt hlt2))).trans hS0.2)
     refine hK2 _ _ hS1 ?_
     clear hK2 K2
     refine wpAnyS_step (i:=10) rfl (by kernel_rfl) (fun K2 hK2=> ?_)
     go_simp
     refine hK2 _ _ hS1 ?_
     clear hK2 K2
     refine wpAnyS_step (i:=11) rfl (by kernel_rfl) (fun K2 hK2=> ?_)
     go_simp
     refine hK2 _ _ hS1 ?_
     clear hK2 K2
     refine sE ?_
     go_wp2
     ((try simp only[Exit.inBlock,Exit.then]);refine bodyPost_ret (results_cell_row3 rfl _ _ _ _ _ _ _ rfl (setRow_heap _ _ _ _ _ _ hkd) Tryz.underlying32 rfl size_fd) rfl ?_)
     exact ⟨rfl,(HFY.out.ext.trans hxd).setRow (Nat.le_succ _) _⟩
 )
end
end Go.Proofs.YthlnaldahkgjnaaGreatDoor
