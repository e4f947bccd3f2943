/- Parts of the proof: contracts and plain laws. -/
import Derived.Shelf.SlSortCmp.InsertionK
import Derived.Shelf.SlSortCmp.SiftDownK
import Derived.Shelf.SlSortCmp.HeapSortK
import Derived.Shelf.SlSortCmp.MedianK
import Derived.Shelf.SlSortCmp.PivotK
import Derived.Shelf.SlSortCmp.ReverseRangeK
import Derived.Shelf.SlSortCmp.PartialInsertionK
import Derived.Shelf.SlSortCmp.PartitionEqualK
import Derived.Shelf.SlSortCmp.PartitionK
import Derived.Shelf.SlSortCmp.PdqK
import Derived.Shelf.SlSortCmp.WholeK
import Derived.Shelf.SlSortCmp.NoneTotal
import Derived.Test.YthlnaldahkgjnaaGreatDoorV11
namespace Go.Proofs.YthlnaldahkgjnaaGreatDoor
open Go Go.RowKit Go.Shelf Go.Sort
set_option linter.unusedVariables false
set_option linter.unusedSimpArgs false
set_option maxRecDepth 100000
set_option maxHeartbeats 16000000
theorem entry_oth (N:Nat) (x:JO) (cs:List Value) (b:Nat) (o:Option (Nat×Nat)) (w0 w:World) (h:RJ w0 x cs) (hg:jsz N x) (hN:N≤16777216) (hE:Env w0) (hx0:Ext w0 w) (hb0:w0.heap.size≤b) (hr:RdAt b cs o w) (h5:kindJ x=5) (z:JO) (hm:memJ x nId=some z) (hz:kindJ z≠2):
 Calls Tryz.prog 35 #[.pointer (some ⟨b,0,none⟩)] w fun e w'=>∃E:Ent,e= .returned (.agg (eCells E).toArray)∧EntR x E∧RdAt b cs (orF o (entF x)) w'∧Bar b w w':=by
 obtain ⟨C,H0⟩:=start0 h hg hN hE hx0 hb0 hr
 have hid:idS x=firstJ x [nId]:=by unfold idS;rw[hm];cases z<;>first|rfl|exact absurd rfl hz
 have hif:idF x=chkJ x false [nId]:=by unfold idF;rw[hm];cases z<;>first|rfl|exact absurd rfl hz
 have hids:(firstJ x [nId]).size≤16777216:=by rw[firstJ_one,hm];exact Nat.le_trans (sJ_size (memJ_good hg hm)) hN
 have hk2:¬((kindJ z:Nat):Int)=2:=by omega
 have c0:(w.alloc (.cells #[.string ⟨#[]⟩,.string ⟨#[]⟩,.string ⟨#[]⟩,.string ⟨#[]⟩,.int .i64 0] 64)).cell? ⟨b,0,none⟩=some (.int .i64 5):=by
  obtain ⟨A,p,c,B,q,d,hc⟩:=h.cells
  have hk:=hr.1
  rw[hc] at hk
  rw[Ext.cell ((Ext.refl w).alloc _) (cell_of_row _ _ 0 _ _ _ hk:w.cell? ⟨b,0,none⟩=some (.int .i64 (kindJ x:Nat))),h5]
  rfl
 have hfin:entF x=orF (chkJ x false [nId]) (orF (chkJ x false [nTitle,nUrl,nText,nHtml,nMod,nPub]) (orF (reqF x (firstJ x [nId])) (faultD (dateJ x [nMod,nPub])))):=by
  unfold entF
  rw[if_neg (by omega),hid,hif]
  rfl
 rw[hfin]
 have HID:=gd hid
 clear hfin hif hid h5 hz
 go_enter Tryz.func35,Tryz.ntmps35
 go_wp2_with (first|(refine wpList_store_row rfl 64 (.tmp 2) (.tmp 64) rfl w.heap.size _ rfl rfl _ _ HFd.rb size_ent rfl (oneA (eCells_one ⟨firstJ x [nId],firstJ x [nTitle],firstJ x [nUrl],firstJ x [nText,nHtml],t⟩)) ?_)|(go_at_call 32;(refine Calls.mono (date_new C HFc [nMod,nPub] (by decide) _ (by first|rfl|exact (size_alloc _ _).symm|(simp;done))) ?_);rintro e w10 ⟨t,rfl,ht,HF10⟩;(have g5:=(HF10.cell 4 rfl).1);(have g5f:=(HF10.cell 4 rfl).2);(have HFd:=HF10.set C 4 (.int .i64 t) (E':=⟨firstJ x [nId],firstJ x [nTitle],firstJ x [nUrl],firstJ x [nText,nHtml],t⟩) rfl);(have r0:=(HFd.cell 0 rfl).1);(have r1:=(HFd.cell 1 rfl).1);(have r2:=(HFd.cell 2 rfl).1);(have r3:=(HFd.cell 3 rfl).1);(have r4:=(HFd.cell 4 rfl).1))|(go_at_call 29;(refine Calls.mono (first_new C HF8 [nText,nHtml] (by decide) _ (by first|rfl|exact (size_alloc _ _).symm|(simp;done))) ?_);rintro e w9 ⟨rfl,HF9⟩;(have HFa:=HF9.set C 1 (.string (firstJ x [nTitle])) (E':=⟨firstJ x [nId],firstJ x [nTitle],noS,noS,0⟩) rfl);(have HFb:=HFa.set C 2 (.string (firstJ x [nUrl])) (E':=⟨firstJ x [nId],firstJ x [nTitle],firstJ x [nUrl],noS,0⟩) rfl);(have HFc:=HFb.set C 3 (.string (firstJ x [nText,nHtml])) (E':=⟨firstJ x [nId],firstJ x [nTitle],firstJ x [nUrl],firstJ x [nText,nHtml],0⟩) rfl);(have g2:=(HF9.cell 1 rfl).1);(have g2f:=(HF9.cell 1 rfl).2);(have g3:=(HFa.cell 2 rfl).1);(have g3f:=(HFa.cell 2 rfl).2);(have g4:=(HFb.cell 3 rfl).1);(have g4f:=(HFb.cell 3 rfl).2))|(go_at_call 29;(refine Calls.mono (first_new C HF7 [nUrl] (by decide) _ (by first|rfl|exact (size_alloc _ _).symm|(simp;done))) ?_);rintro e w8 ⟨rfl,HF8⟩)|(go_at_call 29;(refine Calls.mono (first_new C HF6 [nTitle] (by decide) _ (by first|rfl|exact (size_alloc _ _).symm|(simp;done))) ?_);rintro e w7 ⟨rfl,HF7⟩)|(go_at_call 31;(refine Calls.mono (required_new C HF5 _ hids) ?_);rintro e w6 ⟨rfl,HF6⟩)|(go_at_call 28;(refine Calls.mono (check_new C HFi [nTitle,nUrl,nText,nHtml,nMod,nPub] (by decide) _ (by first|rfl|exact (size_alloc _ _).symm|(simp;done))) ?_);rintro e w5 ⟨rfl,HF5⟩;(have g1:=(HF5.cell 0 rfl).1);(have g1f:=(HF5.cell 0 rfl).2))|(go_at_call 29;(refine Calls.mono (first_new C HF3 [nId] (by decide) _ (by first|rfl|exact (size_alloc _ _).symm|(simp;done))) ?_);rintro e w4 ⟨rfl,HF4⟩;(have g0:=(HF4.cell 0 rfl).1);(have g0f:=(HF4.cell 0 rfl).2);(have HFi:=HF4.set C 0 (.string (firstJ x [nId])) (E':=⟨firstJ x [nId],noS,noS,noS,0⟩) rfl))|(go_at_call 28;(refine Calls.mono (check_new C (HF2.next ((Ext.refl w2).alloc _)) [nId] (by decide) _ (by first|rfl|exact (size_alloc _ _).symm|(simp;done))) ?_);rintro e w3 ⟨rfl,HF3⟩)|(go_at_call 33;(refine Calls.mono (get_new C H0 nId) ?_);rintro e w2 ⟨⟨y,cy,rfl,hry,hmy⟩,hx2,HF2⟩;(rw[hm] at hmy);(rw[hm]);(obtain rfl:z=y:=by rcases hmy with hmy|hmy;(injection hmy);(cases hmy.1));(obtain ⟨A1,p1,q1,B1,p2,q2,hc⟩:=hry.cells);(unfold wcells at hc);(generalize kindJ z=K at hk2 hc);(generalize bJ z=Bb,nJ z=Nn,sJ z=Ss,atJ z=At at hc);subst hc))
 ((try simp only[Exit.inBlock,Exit.then]);refine bodyPost_ret (results_cell_row rfl _ _ _ _ _ _ _ rfl (setRow_heap _ _ _ _ _ _ HFd.rb) Tryz.underlying64 rfl size_ent) rfl ?_)
 refine ⟨⟨firstJ x [nId],firstJ x [nTitle],firstJ x [nUrl],firstJ x [nText,nHtml],t⟩,rfl,⟨HID.out.symm,rfl,rfl,rfl,ht⟩,?_,?_⟩
 ·have hrd:=HFd.rd
  simp only[orF_assoc] at hrd
  exact ⟨by rw[setRow_other _ _ _ _ (Nat.ne_of_lt (Nat.lt_of_lt_of_le C.hbw C.hrw))];exact hrd.1,hrd.2⟩
 ·exact ⟨HFd.bar.os,HFd.bar.tape,HFd.bar.output,by have:=HFd.bar.size;simpa [World.setRow] using this,fun k hk hn=>by rw[setRow_other _ _ _ _ (Nat.ne_of_lt hk)];exact HFd.bar.block k hk hn⟩
theorem entry_no5 (N:Nat) (x:JO) (cs:List Value) (b:Nat) (o:Option (Nat×Nat)) (w0 w:World) (h:RJ w0 x cs) (hg:jsz N x) (hN:N≤16777216) (hE:Env w0) (hx0:Ext w0 w) (hb0:w0.heap.size≤b) (hr:RdAt b cs o w) (h5:kindJ x≠5):
 Calls Tryz.prog 35 #[.pointer (some ⟨b,0,none⟩)] w fun e w'=>∃E:Ent,e= .returned (.agg (eCells E).toArray)∧EntR x E∧RdAt b cs (orF o (entF x)) w'∧Bar b w w':=by
 have hm:memJ x nId=none:=by unfold memJ;rw[getJ_ne h5]
 have hblt:b<w.heap.size:=(Array.getElem?_eq_some_iff.1 hr.1).1
 have hne:(((kindJ x:Nat):Int) !=5)=true:=by simp;omega
 have hid:idS x=firstJ x [nId]:=by unfold idS;rw[hm]
 have hif:idF x=chkJ x false [nId]:=by unfold idF;rw[hm]
 have hids:(firstJ x [nId]).size≤16777216:=by rw[firstJ_one,hm];exact Nat.zero_le _
 obtain ⟨A,p,c,B,q,d,hc⟩:=h.cells
 have hk:=((Ext.refl w).alloc (.cells #[.string ⟨#[]⟩,.string ⟨#[]⟩,.string ⟨#[]⟩,.string ⟨#[]⟩,.int .i64 0] 64)).heap hr.1
 rw[hc] at hk
 have c0:(w.alloc (.cells #[.string ⟨#[]⟩,.string ⟨#[]⟩,.string ⟨#[]⟩,.string ⟨#[]⟩,.int .i64 0] 64)).cell? ⟨b,0,none⟩=some (.int .i64 (kindJ x:Nat)):=cell_of_row _ _ 0 _ _ _ hk
 have c6:(w.alloc (.cells #[.string ⟨#[]⟩,.string ⟨#[]⟩,.string ⟨#[]⟩,.string ⟨#[]⟩,.int .i64 0] 64)).cell? ⟨b,6,none⟩=some (.int .i64 (atJ x:Nat)):=cell_of_row _ _ 6 _ _ _ hk
 clear hk hc
 have hfin:entF x=orF (some (atJ x,21)) (orF (chkJ x false [nId]) (orF (chkJ x false [nTitle,nUrl,nText,nHtml,nMod,nPub]) (orF (reqF x (firstJ x [nId])) (faultD (dateJ x [nMod,nPub]))))):=by
  unfold entF
  rw[if_pos h5,hid,hif]
 rw[hfin]
 have HID:=gd hid
 clear hfin hif hid h5
 go_enter Tryz.func35,Tryz.ntmps35
 go_wp2_with (first|(refine wpList_store_row rfl 64 (.tmp 2) (.tmp 64) rfl w.heap.size _ rfl rfl _ _ HFd.rb size_ent rfl (oneA (eCells_one ⟨firstJ x [nId],firstJ x [nTitle],firstJ x [nUrl],firstJ x [nText,nHtml],t⟩)) ?_)|(go_at_call 32;(refine Calls.mono (date_new C HFc [nMod,nPub] (by decide) _ (by first|rfl|exact (size_alloc _ _).symm|(simp;done))) ?_);rintro e w10 ⟨t,rfl,ht,HF10⟩;(have g5:=(HF10.cell 4 rfl).1);(have g5f:=(HF10.cell 4 rfl).2);(have HFd:=HF10.set C 4 (.int .i64 t) (E':=⟨firstJ x [nId],firstJ x [nTitle],firstJ x [nUrl],firstJ x [nText,nHtml],t⟩) rfl);(have r0:=(HFd.cell 0 rfl).1);(have r1:=(HFd.cell 1 rfl).1);(have r2:=(HFd.cell 2 rfl).1);(have r3:=(HFd.cell 3 rfl).1);(have r4:=(HFd.cell 4 rfl).1))|(go_at_call 29;(refine Calls.mono (first_new C HF8 [nText,nHtml] (by decide) _ (by first|rfl|exact (size_alloc _ _).symm|(simp;done))) ?_);rintro e w9 ⟨rfl,HF9⟩;(have HFa:=HF9.set C 1 (.string (firstJ x [nTitle])) (E':=⟨firstJ x [nId],firstJ x [nTitle],noS,noS,0⟩) rfl);(have HFb:=HFa.set C 2 (.string (firstJ x [nUrl])) (E':=⟨firstJ x [nId],firstJ x [nTitle],firstJ x [nUrl],noS,0⟩) rfl);(have HFc:=HFb.set C 3 (.string (firstJ x [nText,nHtml])) (E':=⟨firstJ x [nId],firstJ x [nTitle],firstJ x [nUrl],firstJ x [nText,nHtml],0⟩) rfl);(have g2:=(HF9.cell 1 rfl).1);(have g2f:=(HF9.cell 1 rfl).2);(have g3:=(HFa.cell 2 rfl).1);(have g3f:=(HFa.cell 2 rfl).2);(have g4:=(HFb.cell 3 rfl).1);(have g4f:=(HFb.cell 3 rfl).2))|(go_at_call 29;(refine Calls.mono (first_new C HF7 [nUrl] (by decide) _ (by first|rfl|exact (size_alloc _ _).symm|(simp;done))) ?_);rintro e w8 ⟨rfl,HF8⟩)|(go_at_call 29;(refine Calls.mono (first_new C HF6 [nTitle] (by decide) _ (by first|rfl|exact (size_alloc _ _).symm|(simp;done))) ?_);rintro e w7 ⟨rfl,HF7⟩)|(go_at_call 31;(refine Calls.mono (required_new C HF5 _ hids) ?_);rintro e w6 ⟨rfl,HF6⟩)|(go_at_call 28;(refine Calls.mono (check_new C HFi [nTitle,nUrl,nText,nHtml,nMod,nPub] (by decide) _ (by first|rfl|exact (size_alloc _ _).symm|(simp;done))) ?_);rintro e w5 ⟨rfl,HF5⟩;(have g1:=(HF5.cell 0 rfl).1);(have g1f:=(HF5.cell 0 rfl).2))|(go_at_call 29;(refine Calls.mono (first_new C HF3 [nId] (by decide) _ (by first|rfl|exact (size_alloc _ _).symm|(simp;done))) ?_);rintro e w4 ⟨rfl,HF4⟩;(have g0:=(HF4.cell 0 rfl).1);(have g0f:=(HF4.cell 0 rfl).2);(have HFi:=HF4.set C 0 (.string (firstJ x [nId])) (E':=⟨firstJ x [nId],noS,noS,noS,0⟩) rfl))|(go_at_call 28;(refine Calls.mono (check_new C (HF2.next ((Ext.refl w2).alloc _)) [nId] (by decide) _ (by first|rfl|exact (size_alloc _ _).symm|(simp;done))) ?_);rintro e w3 ⟨rfl,HF3⟩)|(go_at_call 33;(refine Calls.mono (get_new C H0 nId) ?_);rintro e w2 ⟨⟨y,cy,rfl,hry,hmy⟩,hx2,HF2⟩;(rw[hm]);(obtain ⟨A1,p1,q1,B1,p2,q2,hc⟩:=hry.cells);(unfold wcells at hc);(generalize kindJ y=K,bJ y=Bb,nJ y=Nn,sJ y=Ss,atJ y=At at hc);subst hc)|(go_at_call 34;(refine Calls.mono (fail_c x cs b o (atJ x) 21 w0 _ h (hr.ext ((Ext.refl w).alloc _)) (by decide)) ?_);rintro e wa ⟨rfl,hra,hba⟩;(obtain ⟨C,H0⟩:=start1 h hg hN hE hx0 hb0 hblt hra hba)))
 ((try simp only[Exit.inBlock,Exit.then]);refine bodyPost_ret (results_cell_row rfl _ _ _ _ _ _ _ rfl (setRow_heap _ _ _ _ _ _ HFd.rb) Tryz.underlying64 rfl size_ent) rfl ?_)
 refine ⟨⟨firstJ x [nId],firstJ x [nTitle],firstJ x [nUrl],firstJ x [nText,nHtml],t⟩,rfl,⟨HID.out.symm,rfl,rfl,rfl,ht⟩,?_,?_⟩
 ·have hrd:=HFd.rd
  simp only[orF_assoc] at hrd
  exact ⟨by rw[setRow_other _ _ _ _ (Nat.ne_of_lt (Nat.lt_of_lt_of_le C.hbw C.hrw))];exact hrd.1,hrd.2⟩
 ·exact ⟨HFd.bar.os,HFd.bar.tape,HFd.bar.output,by have:=HFd.bar.size;simpa [World.setRow] using this,fun k hk hn=>by rw[setRow_other _ _ _ _ (Nat.ne_of_lt hk)];exact HFd.bar.block k hk hn⟩
theorem entry_walk (N:Nat) (x:JO) (cs:List Value) (b:Nat) (o:Option (Nat×Nat)) (w0 w:World) (h:RJ w0 x cs) (hg:jsz N x) (hN:N≤16777216) (hE:Env w0) (hx0:Ext w0 w) (hb0:w0.heap.size≤b) (hr:RdAt b cs o w):
 Calls Tryz.prog 35 #[.pointer (some ⟨b,0,none⟩)] w fun e w'=>∃E:Ent,e= .returned (.agg (eCells E).toArray)∧EntR x E∧RdAt b cs (orF o (entF x)) w'∧Bar b w w':=by
 by_cases h5:kindJ x=5
 ·cases hm:memJ x nId with
  |none=>exact entry_none N x cs b o w0 w h hg hN hE hx0 hb0 hr h5 hm
  |some z=>
   cases z with
   |int ia n=>exact entry_int N x cs b o w0 w h hg hN hE hx0 hb0 hr h5 ia n hm
   |null a=>exact entry_oth N x cs b o w0 w h hg hN hE hx0 hb0 hr h5 _ hm (by show (0:Nat)≠2;decide)
   |bool a v=>exact entry_oth N x cs b o w0 w h hg hN hE hx0 hb0 hr h5 _ hm (by show (1:Nat)≠2;decide)
   |str a s=>exact entry_oth N x cs b o w0 w h hg hN hE hx0 hb0 hr h5 _ hm (by show (3:Nat)≠2;decide)
   |arr a l=>exact entry_oth N x cs b o w0 w h hg hN hE hx0 hb0 hr h5 _ hm (by show (4:Nat)≠2;decide)
   |obj a k v=>exact entry_oth N x cs b o w0 w h hg hN hE hx0 hb0 hr h5 _ hm (by show (5:Nat)≠2;decide)
 ·exact entry_no5 N x cs b o w0 w h hg hN hE hx0 hb0 hr h5
theorem chk1_first {x:JO} {n:ByteArray} (h:chk1 x n=none):firstJ x [n]=textJ x n:=by
 unfold chk1 at h
 rw[firstJ_one]
 unfold textJ
 cases hm:memJ x n with
 |none=>rfl
 |some y=>
  rw[hm] at h
  simp only at h
  by_cases h3:kindJ y≠3
  ·rw[if_pos h3] at h;cases h
  ·cases y<;>first|rfl|exact absurd (show (2:Nat)≠3 by decide) h3
theorem chk1_of {x:JO}:∀(l:List ByteArray),chkJ x false l=none→∀n∈l,chk1 x n=none
 | [],_,n,hn=>by cases hn
 |m::t,h,n,hn=>by
  rw[chkJ_cons1] at h
  cases hc:chk1 x m with
  |some e=>rw[hc] at h;cases h
  |none=>
   rw[hc] at h
   rcases List.mem_cons.1 hn with rfl|hn
   ·exact hc
   ·exact chk1_of t h n hn
theorem chkT_eq (x:JO) (n:ByteArray) (t:List ByteArray):chkJ x true (n::t)=orF (match memJ x n with
 |some (.int _ _)=>none
 |_=>chkJ x false [n]) (chkJ x false t):=by
 have e:chkJ x true (n::t)=match memJ x n with
  |none=>chkJ x false t
  |some y=>if true=true∧kindJ y=2 then chkJ x false t else if kindJ y≠3 then some (atJ y,21) else if (checkS (sJ y)).2≠0 then some (atJ y,(checkS (sJ y)).2) else chkJ x false t:=rfl
 rw[e,chkJ_one]
 unfold chk1
 cases hm:memJ x n with
 |none=>rfl
 |some y=>
  cases y<;>simp[kindJ,orF]<;>(try (split<;>rfl))
theorem idF_eq (x:JO):(match memJ x nId with
 |some (.int _ _)=>none
 |_=>chkJ x false [nId])=idF x:=rfl
theorem idS_text {x:JO} (h:idF x=none):idS x=textJ x nId:=by
 unfold idF at h
 unfold idS
 cases hm:memJ x nId with
 |none=>unfold textJ;rw[hm,firstJ_one,hm]
 |some y=>
  rw[hm] at h
  cases y with
  |int a n=>unfold textJ;rw[hm];rfl
  |_=>exact chk1_first (by rw[←chkJ_one];exact h)
theorem entF_eq (x:JO):entF x=match entryJ x with
 | .ok _=>none
 | .error e=>some e:=by
 unfold entF entryJ
 by_cases h5:kindJ x≠5
 ·rw[if_pos h5,if_pos h5];rfl
 ·rw[if_neg h5,if_neg h5,chkT_eq,idF_eq]
  cases hi:idF x with
  |some e=>rfl
  |none=>
   rw[idS_text hi]
   cases h6:chkJ x false [nTitle,nUrl,nText,nHtml,nMod,nPub] with
   |some e=>rfl
   |none=>
    unfold reqF
    by_cases hc:collapse (textJ x nId)=noS
    ·simp only[orF,if_pos hc]
    ·simp only[orF,if_neg hc]
     cases dateJ x [nMod,nPub]<;>rfl
theorem entR_eq {x:JO} {E e:Ent} (h:EntR x E) (he:entryJ x= .ok e):E=e:=by
 have hf:=entF_eq x
 rw[he] at hf
 unfold entryJ at he
 by_cases h5:kindJ x≠5
 ·rw[if_pos h5] at he;cases he
 ·rw[if_neg h5,chkT_eq,idF_eq] at he
  cases hi:idF x with
  |some e=>rw[hi] at he;cases he
  |none=>
   rw[hi] at he
   cases h6:chkJ x false [nTitle,nUrl,nText,nHtml,nMod,nPub] with
   |some e=>rw[h6] at he;cases he
   |none=>
    rw[h6] at he
    simp only[orF] at he
    by_cases hc:collapse (textJ x nId)=noS
    ·rw[if_pos hc] at he;cases he
    ·rw[if_neg hc] at he
     cases hd:dateJ x [nMod,nPub] with
     |error e=>rw[hd] at he;cases he
     |ok t=>
      rw[hd] at he
      simp only at he
      injection he with he
      subst he
      obtain ⟨h1,h2,h3,h4,h7⟩:=h
      have hm:=chk1_of _ h6
      have ht:=chk1_first (hm nTitle (by simp))
      have hu:=chk1_first (hm nUrl (by simp))
      have hx:=chk1_first (hm nText (by simp))
      have hh:=chk1_first (hm nHtml (by simp))
      have hco:firstJ x [nText,nHtml]=if (memJ x nText).isSome then textJ x nText else textJ x nHtml:=by
       have e1:firstJ x [nText,nHtml]=match memJ x nText with
        |some y=>sJ y
        |none=>firstJ x [nHtml]:=rfl
       rw[e1]
       cases hmt:memJ x nText with
       |none=>simpa using hh
       |some y=>
        rw[firstJ_one,hmt] at hx
        simpa using hx
      obtain ⟨a,b,c,d,u⟩:=E
      simp only[entJO] at*
      rw[h1,h2,h3,h4,h7 t hd,idS_text hi,ht,hu,hco]
theorem setS_cell:∀(l:List (Addr×ByteArray)) (w:World) (p:Addr×ByteArray) (u:Value),p∈l→(l.Pairwise fun p q=>p.1≠q.1)→w.cell? p.1=some u→(setS w l).cell? p.1=some (.string p.2)
 | [],_,_,_,h,_,_=>by simp at h
 |q::t,w,p,u,h,hap,hu=>by
  have h1:=List.pairwise_cons.1 hap
  rcases List.mem_cons.1 h with h|h
  ·subst h
   rw[setS,setS_other t _ _ fun r hr=>(h1.1 r hr).symm]
   exact World.cell?_setCell_same _ _ _ hu
  ·have hne:q.1≠p.1:=h1.1 p h
   rw[setS]
   exact setS_cell t _ p u h h1.2 (by rw[World.cell?_setCell_other w q.1 p.1 _ hne];exact hu)
theorem Ext.setS {a:World}:∀(l:List (Addr×ByteArray)) {b:World},Ext a b→(∀p∈l,a.heap.size≤p.1.block)→Ext a (setS b l)
 | [],_,h,_=>h
 |p::t,b,h,hl=>Ext.setS t (h.setCell (hl p (by simp)) _) fun q hq=>hl q (by simp[hq])
def ptrsAt (g:Nat):Nat→List ByteArray→List (Addr×ByteArray)
 |_,[]=> []
 |i,s::t=>(⟨g,i,none⟩,s)::ptrsAt g (i+1) t
theorem ptrsAt_len (g:Nat):∀(l:List ByteArray) (i:Nat),(ptrsAt g i l).length=l.length
 | [],_=>rfl
 |s::t,i=>by rw[ptrsAt,List.length_cons,ptrsAt_len g t,List.length_cons]
theorem ptrsAt_get (g:Nat):∀(l:List ByteArray) (i k:Nat),(ptrsAt g i l)[k]? =l[k]?.map fun s=>(⟨g,i+k,none⟩,s)
 | [],_,_=>by simp[ptrsAt]
 |s::t,i,0=>by simp[ptrsAt]
 |s::t,i,k+1=>by
  rw[ptrsAt,List.getElem?_cons_succ,ptrsAt_get g t,List.getElem?_cons_succ]
  rw[show i+1+k=i+(k+1) by omega]
theorem ptrsAt_mem {g i:Nat} {l:List ByteArray} {p:Addr×ByteArray} (h:p∈ptrsAt g i l):∃k s,l[k]? =some s∧p=(⟨g,i+k,none⟩,s):=by
 obtain ⟨k,hk⟩:=List.mem_iff_getElem?.1 h
 rw[ptrsAt_get] at hk
 cases hl:l[k]? with
 |none=>rw[hl] at hk;cases hk
 |some s=>rw[hl] at hk;injection hk with hk;exact ⟨k,s,hl,hk.symm⟩
theorem ptrsAt_snd (g:Nat):∀(l:List ByteArray) (i:Nat),(ptrsAt g i l).map (·.2)=l
 | [],_=>rfl
 |s::t,i=>by rw[ptrsAt,List.map_cons,ptrsAt_snd g t]
theorem ptrsAt_map (g:Nat) (h:ByteArray→ByteArray):∀(l:List ByteArray) (i:Nat),(ptrsAt g i l).map (fun p=>(p.1,h p.2))=ptrsAt g i (l.map h)
 | [],_=>rfl
 |s::t,i=>by rw[ptrsAt,List.map_cons,ptrsAt_map g h t,List.map_cons,ptrsAt]
theorem ptrsAt_apart (g:Nat):∀(l:List ByteArray) (i:Nat),(ptrsAt g i l).Pairwise fun p q=>p.1≠q.1
 | [],_=>List.Pairwise.nil
 |s::t,i=>by
  rw[ptrsAt,List.pairwise_cons]
  refine ⟨fun p hp=> ?_,ptrsAt_apart g t _⟩
  obtain ⟨k,s,_,rfl⟩:=ptrsAt_mem hp
  intro e
  have e':=congrArg Addr.off e
  simp only at e'
  omega
def ptrsF (g b:Nat) (l:List ByteArray) (x y z:ByteArray):List (Addr×ByteArray):=ptrsAt g 0 l++ [(⟨b,1,none⟩,x),(⟨b,2,none⟩,y),(⟨b,3,none⟩,z)]
theorem ptrsF_len (g b:Nat) (l:List ByteArray) (x y z:ByteArray):(ptrsF g b l x y z).length=l.length+3:=by unfold ptrsF;rw[List.length_append,ptrsAt_len];rfl
theorem ptrsF_snd (g b:Nat) (l:List ByteArray) (x y z:ByteArray):(ptrsF g b l x y z).map (·.2)=l++ [x,y,z]:=by unfold ptrsF;rw[List.map_append,ptrsAt_snd];rfl
theorem ptrsF_map (g b:Nat) (h:ByteArray→ByteArray) (l:List ByteArray) (x y z:ByteArray):(ptrsF g b l x y z).map (fun p=>(p.1,h p.2))=ptrsF g b (l.map h) (h x) (h y) (h z):=by unfold ptrsF;rw[List.map_append,ptrsAt_map];rfl
theorem ptrsF_apart {g b:Nat} (hgb:g≠b) (l:List ByteArray) (x y z:ByteArray):(ptrsF g b l x y z).Pairwise fun p q=>p.1≠q.1:=by
 unfold ptrsF
 rw[List.pairwise_append]
 refine ⟨ptrsAt_apart g l 0,by simp,fun p hp q hq=> ?_⟩
 obtain ⟨k,s,_,rfl⟩:=ptrsAt_mem hp
 simp only[List.mem_cons,List.mem_nil_iff,or_false] at hq
 intro e
 have e':=congrArg Addr.block e
 rcases hq with rfl|rfl|rfl<;>exact hgb e'
theorem ptrsF_mem {g b:Nat} {l:List ByteArray} {x y z:ByteArray} {p:Addr×ByteArray} (h:p∈ptrsF g b l x y z):p.1.block=g∨p.1.block=b:=by
 unfold ptrsF at h
 rcases List.mem_append.1 h with h|h
 ·obtain ⟨k,s,_,rfl⟩:=ptrsAt_mem h
  exact Or.inl rfl
 ·simp only[List.mem_cons,List.mem_nil_iff,or_false] at h
  rcases h with rfl|rfl|rfl<;>exact Or.inr rfl
theorem ptrsF_set {w w1:World} {g b cap:Nat} {A:Option Addr} {l:List ByteArray} {x y z x0 y0 z0:ByteArray} {p e t:Value} {ll:List ByteArray} (hgb:g≠b) (hl:ll.length=l.length)
 (hA:0<l.length→A=some ⟨g,0,none⟩) (hr:RStrs w (.slice A l.length cap) ll)
 (h0:w.cell? ⟨b,0,none⟩=some p) (h1:w.cell? ⟨b,1,none⟩=some (.string x0)) (h2:w.cell? ⟨b,2,none⟩=some (.string y0)) (h3:w.cell? ⟨b,3,none⟩=some (.string z0)) (h4:w.cell? ⟨b,4,none⟩=some t) (h5:w.cell? ⟨b,5,none⟩=some e)
 (hx:Ext (setS w (ptrsF g b l x y z)) w1):
 RStrs w1 (.slice A l.length cap) l∧w1.cell? ⟨b,0,none⟩=some p∧w1.cell? ⟨b,1,none⟩=some (.string x)∧w1.cell? ⟨b,2,none⟩=some (.string y)∧w1.cell? ⟨b,3,none⟩=some (.string z)∧w1.cell? ⟨b,4,none⟩=some t∧w1.cell? ⟨b,5,none⟩=some e:=by
 have hap:=ptrsF_apart hgb l x y z
 have oth:∀(i:Nat) (u:Value),(i=0∨i=4∨i=5)→w.cell? ⟨b,i,none⟩=some u→w1.cell? ⟨b,i,none⟩=some u:=by
  intro i u hi hu
  refine hx.cell ?_
  rw[setS_other _ _ _ fun q hq=> ?_]
  ·exact hu
  ·unfold ptrsF at hq
   rcases List.mem_append.1 hq with hq|hq
   ·obtain ⟨k,s,_,rfl⟩:=ptrsAt_mem hq
    intro e
    exact hgb (congrArg Addr.block e)
   ·simp only[List.mem_cons,List.mem_nil_iff,or_false] at hq
    intro e
    have e':=congrArg Addr.off e
    rcases hq with rfl|rfl|rfl<;>simp only at e'<;>omega
 have mm:∀(q:Addr×ByteArray) (u:Value),q∈ptrsF g b l x y z→w.cell? q.1=some u→w1.cell? q.1=some (.string q.2):=fun q u hq hu=>hx.cell (setS_cell _ _ q u hq hap hu)
 refine ⟨?_,oth 0 p (Or.inl rfl) h0,mm (⟨b,1,none⟩,x) _ (by simp[ptrsF]) h1,mm (⟨b,2,none⟩,y) _ (by simp[ptrsF]) h2,mm (⟨b,3,none⟩,z) _ (by simp[ptrsF]) h3,oth 4 t (Or.inr (Or.inl rfl)) h4,oth 5 e (Or.inr (Or.inr rfl)) h5⟩
 obtain ⟨q1,A',c',e1,q2,q3,q4,q5⟩:=hr
 injection e1 with e1 e2 e3
 subst e1 e3
 refine ⟨by simp,A,cap,rfl,by omega,q3,q4,fun j u hu=> ?_⟩
 rw[List.getElem?_map] at hu
 cases hlj:l[j]? with
 |none=>rw[hlj] at hu;cases hu
 |some s=>
  rw[hlj] at hu
  injection hu with hu
  subst hu
  have hjl:j<l.length:=(List.getElem?_eq_some_iff.1 hlj).1
  have hAA:=hA (by omega)
  subst hAA
  refine ⟨_,rfl,?_⟩
  have hjll:j<ll.length:=by omega
  obtain ⟨ad,ha,hc⟩:=q5 j (.string ll[j]) (by rw[List.getElem?_map,List.getElem?_eq_getElem hjll];rfl)
  injection ha with ha
  subst ha
  have had:(⟨g,0,none⟩:Addr).add j=⟨g,j,none⟩:=by unfold Addr.add;split<;>simp_all
  rw[had] at hc⊢
  refine mm (⟨g,j,none⟩,s) _ ?_ hc
  unfold ptrsF
  refine List.mem_append_left _ (List.mem_iff_getElem?.2 ⟨j,?_⟩)
  rw[ptrsAt_get,hlj]
  simp
theorem setS_heap_other:∀(l:List (Addr×ByteArray)) (w:World) (k:Nat),(∀p∈l,p.1.block≠k)→(setS w l).heap[k]? =w.heap[k]?
 | [],_,_,_=>rfl
 |p::t,w,k,h=>by
  rw[setS,setS_heap_other t _ k fun q hq=>h q (by simp[hq])]
  simp only[World.setCell,Array.getElem?_modify]
  rw[if_neg (h p (by simp))]
theorem setCell_grown (w:World) (a:Addr) (v:Value):w.grownBy (w.setCell a v) (some a.block):=
 ⟨rfl,rfl,rfl,by simp[World.setCell],fun k _ hk=>heap_setCell_other w a k v fun e=>hk (by rw[e])⟩
theorem setRow_grown (w:World) (g:Nat) (cs:Array Value):w.grownBy (w.setRow g cs) (some g):=
 ⟨rfl,rfl,rfl,by simp[World.setRow],fun k _ hk=>setRow_other w g k cs fun e=>hk (by rw[e])⟩
theorem feedPtrs {W:World} {B g b cap:Nat} {A:Option Addr} {v:Value} {l:List ByteArray} {x y z:ByteArray} (hgb:g≠b) (hA:0<l.length→A=some ⟨g,0,none⟩)
 (hown:W.ownsRow B 9 1 (.slice A l.length cap) l.length (l.map Value.string))
 (h1:W.cell? ⟨b,1,none⟩=some (.string x)) (h2:W.cell? ⟨b,2,none⟩=some (.string y)) (h3:W.cell? ⟨b,3,none⟩=some (.string z)) (f1:W.frozen? ⟨b,1,none⟩=false) (f2:W.frozen? ⟨b,2,none⟩=false) (f3:W.frozen? ⟨b,3,none⟩=false)
 (hs:∀s∈l++ [x,y,z],s.size≤16777216) (hrow:RSl W 1 v (l.length+3) ((ptrsF g b l x y z).map fun p=>Value.pointer (some p.1))):Ptrs W v (ptrsF g b l x y z):=by
 refine ⟨by rw[ptrsF_len];exact hrow,fun p hp=> ?_,fun p hp=> ?_,ptrsF_apart hgb l x y z⟩
 ·unfold ptrsF at hp
  rcases List.mem_append.1 hp with hp|hp
  ·obtain ⟨k,s,hk,rfl⟩:=ptrsAt_mem hp
   have hkl:k<l.length:=(List.getElem?_eq_some_iff.1 hk).1
   have hAA:=hA (by omega)
   subst hAA
   have hz:0+k=k:=by omega
   simp only[hz]
   refine ⟨?_,hown.frozenAt k⟩
   rw[hown.cellAt k (by omega),List.getElem?_map,hk]
   rfl
  ·simp only[List.mem_cons,List.mem_nil_iff,or_false] at hp
   rcases hp with rfl|rfl|rfl
   ·exact ⟨h1,f1⟩
   ·exact ⟨h2,f2⟩
   ·exact ⟨h3,f3⟩
 ·refine hs _ ?_
  have:p.2∈(ptrsF g b l x y z).map (·.2):=List.mem_map.2 ⟨p,hp,rfl⟩
  rwa [ptrsF_snd] at this
theorem ptrsAt_snoc (g:Nat) (l:List ByteArray) (k:Nat) (hk:k<l.length):((ptrsAt g 0 l).take (k+1)).map (fun p=>Value.pointer (some p.1))=((ptrsAt g 0 l).take k).map (fun p=>Value.pointer (some p.1))++ [.pointer (some ⟨g,k,none⟩)]:=by
 have hk':k<(ptrsAt g 0 l).length:=by rw[ptrsAt_len];exact hk
 rw[List.take_succ_eq_append_getElem hk',List.map_append]
 have e:=ptrsAt_get g l 0 k
 rw[List.getElem?_eq_getElem hk',List.getElem?_eq_getElem hk] at e
 injection e with e
 rw[e]
 simp
theorem errEs_at:∀(l:List Ent) (k:Nat) (hk:k<l.length),(∀e∈l.take k,errE e=0)→errE l[k]≠0→errEs l=errE l[k]
 | [],k,hk,_,_=>by simp at hk
 |e::t,0,_,_,h=>by simp only[errEs];rw[if_neg (by simpa using h)];rfl
 |e::t,k+1,hk,h,h2=>by
  simp only[errEs]
  rw[if_pos (h e (by simp)),errEs_at t k (by simpa using hk) (fun x hx=>h x (by simp[hx])) (by simpa using h2)]
  rfl
theorem contains_any {w:World} {g n c:Nat} {A:Option Addr} {l:List ByteArray} (x:ByteArray) (hn:n=l.length) (hA:0<l.length→A=some ⟨g,0,none⟩) (h:RStrs w (.slice A n c) l) (hb:l.length≤9223372036854775807):
 Calls Tryz.prog 75 #[.slice A n c,.string x] w fun e w'=>e= .returned (.bool (l.any fun s=>decide (s=x)))∧w'=w:=by
 subst hn
 rcases Nat.eq_zero_or_pos l.length with h0|h0
 ·have hl:=List.eq_nil_of_length_eq_zero h0
  subst hl
  exact Tryz.slices_Contains_string_empty A c x w
 ·have hAA:=hA h0
  subst hAA
  have hc:∀j,j<l.length→w.cell? ⟨g,0+j,none⟩=some (.string (l.getD j ByteArray.empty)):=by
   intro j hj
   obtain ⟨_,A',c',e,_,_,_,q⟩:=h
   injection e with e1 e2 e3
   subst e1
   obtain ⟨ad,ha,hcl⟩:=q j (.string l[j]) (by rw[List.getElem?_map,List.getElem?_eq_getElem hj];rfl)
   injection ha with ha
   subst ha
   have had:(⟨g,0,none⟩:Addr).add j=⟨g,0+j,none⟩:=by unfold Addr.add;split<;>simp_all
   rw[had] at hcl
   rw[hcl,List.getD_eq_getElem?_getD,List.getElem?_eq_getElem hj]
   rfl
  refine (Tryz.slices_Contains_string g 0 l.length c l x w (Nat.le_refl _) hb hc).mono ?_
  rintro e w' ⟨rfl,rfl⟩
  refine ⟨?_,rfl⟩
  rw[List.take_of_length_le (Nat.le_refl _)]
  refine congrArg (fun b=>Ending.returned (.bool b)) ?_
  rw[Bool.eq_iff_iff,Lib.containsS_iff,List.any_eq_true]
  constructor
  ·intro h;exact ⟨x,h,by simp⟩
  ·rintro ⟨s,hs,e⟩
   have e':s=x:=by simpa using e
   rw[←e'];exact hs
def Tryz.laysSlF06_f126_ren:Go.Shelf.Ren:=⟨fun|6=>126|15=>169|14=>168|28=>200|29=>186|20=>192|21=>193|22=>194|23=>195|24=>196|25=>197|26=>198|27=>199|46=>208|47=>209|48=>210|49=>211|50=>212|57=>213|n=>n,fun|22=>30|24=>64|25=>104|3=>3|39=>225|0=>0|53=>232|55=>209|4=>4|46=>238|45=>237|50=>220|5=>5|9=>9|66=>252|70=>256|76=>262|77=>77|n=>n,fun|n=>n⟩
theorem Tryz.laysSlF06_f126:Go.Proofs.SlLaysF0.n6 Tryz.prog Tryz.laysSlF06_f126_ren:={
 mixed:=by kernel_rfl
 f6:=⟨Tryz.f126.name,by decide,Tryz.func126.trans (congrArg some (by kernel_rfl))⟩
 f14:=⟨Tryz.f168.name,by decide,Tryz.func168.trans (congrArg some (by kernel_rfl))⟩
 f15:=Tryz.func169.trans (congrArg some (by kernel_rfl))
 f20:=⟨Tryz.f192.name,by decide,Tryz.func192.trans (congrArg some (by kernel_rfl))⟩
 f21:=⟨Tryz.f193.name,by decide,Tryz.func193.trans (congrArg some (by kernel_rfl))⟩
 f22:=⟨Tryz.f194.name,by decide,Tryz.func194.trans (congrArg some (by kernel_rfl))⟩
 f23:=⟨Tryz.f195.name,by decide,Tryz.func195.trans (congrArg some (by kernel_rfl))⟩
 f24:=⟨Tryz.f196.name,by decide,Tryz.func196.trans (congrArg some (by kernel_rfl))⟩
 f25:=⟨Tryz.f197.name,by decide,Tryz.func197.trans (congrArg some (by kernel_rfl))⟩
 f26:=⟨Tryz.f198.name,by decide,Tryz.func198.trans (congrArg some (by kernel_rfl))⟩
 f27:=⟨Tryz.f199.name,by decide,Tryz.func199.trans (congrArg some (by kernel_rfl))⟩
 f28:=Tryz.func200.trans (congrArg some (by kernel_rfl))
 f29:=Tryz.func186.trans (congrArg some (by kernel_rfl))
 f46:=⟨Tryz.f208.name,by decide,Tryz.func208.trans (congrArg some (by kernel_rfl))⟩
 f47:=Tryz.func209.trans (congrArg some (by kernel_rfl))
 f48:=Tryz.func210.trans (congrArg some (by kernel_rfl))
 f49:=⟨Tryz.f211.name,by decide,Tryz.func211.trans (congrArg some (by kernel_rfl))⟩
 f50:=⟨Tryz.f212.name,by decide,Tryz.func212.trans (congrArg some (by kernel_rfl))⟩
 f57:=⟨Tryz.f213.name,by decide,Tryz.func213.trans (congrArg some (by kernel_rfl))⟩
 t0:=Tryz.underlying0
 a0:=Tryz.isAgg0
 z0:=Tryz.sizeOf0
 v0:=Tryz.zeroValue0
 t3:=Tryz.underlying3
 a3:=Tryz.isAgg3
 z3:=Tryz.sizeOf3
 v3:=Tryz.zeroValue3
 t4:=Tryz.underlying4
 a4:=Tryz.isAgg4
 z4:=Tryz.sizeOf4
 v4:=Tryz.zeroValue4
 t5:=Tryz.underlying5
 a5:=Tryz.isAgg5
 z5:=Tryz.sizeOf5
 v5:=Tryz.zeroValue5
 t9:=Tryz.underlying9
 a9:=Tryz.isAgg9
 z9:=Tryz.sizeOf9
 v9:=Tryz.zeroValue9
 t22:=Tryz.underlying30
 a22:=Tryz.isAgg30
 z22:=Tryz.sizeOf30
 v22:=Tryz.zeroValue30
 t25:=Tryz.underlying104
 a25:=Tryz.isAgg104
 z25:=Tryz.sizeOf104
 v25:=Tryz.zeroValue104
 t39:=Tryz.underlying225
 a39:=Tryz.isAgg225
 z39:=Tryz.sizeOf225
 v39:=Tryz.zeroValue225
 t45:=Tryz.underlying237
 a45:=Tryz.isAgg237
 z45:=Tryz.sizeOf237
 v45:=Tryz.zeroValue237
 t46:=Tryz.underlying238
 a46:=Tryz.isAgg238
 z46:=Tryz.sizeOf238
 v46:=Tryz.zeroValue238
 t50:=Tryz.underlying220
 a50:=Tryz.isAgg220
 z50:=Tryz.sizeOf220
 v50:=Tryz.zeroValue220
 t53:=Tryz.underlying232
 a53:=Tryz.isAgg232
 z53:=Tryz.sizeOf232
 v53:=Tryz.zeroValue232
 t55:=Tryz.underlying209
 a55:=Tryz.isAgg209
 z55:=Tryz.sizeOf209
 v55:=Tryz.zeroValue209
 t66:=Tryz.underlying252
 a66:=Tryz.isAgg252
 z66:=Tryz.sizeOf252
 v66:=Tryz.zeroValue252
 t70:=Tryz.underlying256
 a70:=Tryz.isAgg256
 z70:=Tryz.sizeOf256
 v70:=Tryz.zeroValue256
 t76:=Tryz.underlying262
 a76:=Tryz.isAgg262
 z76:=Tryz.sizeOf262
 v76:=Tryz.zeroValue262
 t77:=Tryz.underlying77
 a77:=Tryz.isAgg77
 z77:=Tryz.sizeOf77
 v77:=Tryz.zeroValue77}
open Go.RowKit Go.Lib Go.Sort in
theorem Tryz.slices_SortFunc_f126 {α:Type} [Inhabited α] (k:Nat) (aE:∀w,(isAgg 64).run Tryz.prog w= .ok true w) (zE:∀w,(Go.sizeOf 64).run Tryz.prog w= .ok k w) (enc:α→List Value) (hk:∀x,(enc x).length=k) (h1:∀x,∀v∈enc x,v.oneCell'=true) (cf:α→α→Int) (hO:SWO (ltOf cf)) (g:Nat) (cb:Array Value) (blk off cap:Nat) (d:Array α) (w:World) (eg:∀args w,(callFunc g args).run Tryz.prog w= .ok (.enter g args) w) (hcmp:CmpLays Tryz.prog g cb enc k cf blk off d.size w) (hH:HoldsK enc k w blk off d) (hblk:blk<w.heap.size) (hsz:d.size<4611686018427387904):
 Calls Tryz.prog 126 #[.slice (some ⟨blk,off,none⟩) d.size cap,.func (.func g) #[] cb] w fun e w'=>
  e= .returned (.tuple #[])∧∃d' n os,PermIn 0 d.size d d'∧SortedIn (ltOf cf) 0 d.size d'∧w'=sortWorldK enc k w blk off n d' os:=AnyQ.slices_SortFunc Tryz.laysSlF06_f126 k aE zE enc hk h1 cf hO g cb blk off cap d w eg hcmp hH hblk hsz
open Go.RowKit Go.Lib Go.Sort in
theorem Tryz.slices_SortFunc_none_f126 {α:Type} [Inhabited α] (p:Option Addr) (cap:Nat) (fv:Value) (w:World):
 Calls Tryz.prog 126 #[.slice p 0 cap,fv] w fun e w'=>e= .returned (.tuple #[])∧w'=w:=AnyF.slices_SortFunc_none Tryz.laysSlF06_f126 p cap fv w
section
theorem flatK_len {α:Type} (enc:α→List Value) (k:Nat) (hk:∀x,(enc x).length=k):∀(l:List α),(l.map enc).flatten.length=l.length*k
 | []=>by simp
 |x::l=>by rw[List.map_cons,List.flatten_cons,List.length_append,hk,flatK_len enc k hk l,List.length_cons,Nat.add_mul];omega
section
variable {α:Type} [Inhabited α] (enc:α→List Value) (k:Nat)
theorem flat_at:∀(l:List (List Value)) (i:Nat) (c:List Value) (j:Nat) (u:Value),(∀c∈l,c.length=k)→l[i]? =some c→c[j]? =some u→l.flatten[k*i+j]? =some u
 | [],i,c,j,u,_,h,_=>by simp at h
 |x::l,i,c,j,u,hl,hc,hu=>by
  have hx:x.length=k:=hl x (by simp)
  cases i with
  |zero=>
   simp at hc
   subst hc
   have hj:j<x.length:=(List.getElem?_eq_some_iff.mp hu).1
   simpa [List.getElem?_append,hj] using (List.getElem?_eq_some_iff.mp hu).2
  |succ i=>
   have:=flat_at l i c j u (fun c h=>hl c (by simp[h])) (by simpa using hc) hu
   simp only[List.flatten_cons]
   have e:k*(i+1)+j=x.length+(k*i+j):=by rw[hx,Nat.mul_succ];omega
   rw[e,List.getElem?_append_right (by omega)]
   simpa using this
theorem flat_get (hk:∀x,(enc x).length=k) (d:Array α) (t:Nat) (h:t<d.size*k):(d.toList.map enc).flatten[t]? =some ((flatK enc k d)[t]!):=by
 have hk0:0<k:=by
  rcases Nat.eq_zero_or_pos k with e|e
  ·rw[e] at h;omega
  ·exact e
 have hd:t / k<d.size:=Nat.div_lt_of_lt_mul (by rw[Nat.mul_comm];exact h)
 have hm:t % k<k:=Nat.mod_lt _ hk0
 rw[get_flatK enc k d t h]
 have e1:(enc d[t / k]!)[t % k]? =some (enc d[t / k]!)[t % k]! :=by
  have hl:t % k<(enc d[t / k]!).length:=by rw[hk];exact hm
  rw[getElem!_pos (enc d[t / k]!) (t % k) hl,List.getElem?_eq_getElem hl]
 have e2:(d.toList.map enc)[t / k]? =some (enc d[t / k]!):=by
  rw[List.getElem?_map,List.getElem?_eq_getElem (by simpa using hd)]
  simp[getElem!_pos d (t / k) hd]
 have:=flat_at k (d.toList.map enc) (t / k) _ (t % k) _ (by intro c hc;obtain ⟨x,_,rfl⟩:=List.mem_map.1 hc;exact hk x) e2 e1
 rwa [Nat.div_add_mod] at this
theorem holds_of_own (hk:∀x,(enc x).length=k) {w:World} {B:Nat} {e:TypeId} {g cap:Nat} {d:Array α} (h:w.ownsRow B e k (.slice (some ⟨g,0,none⟩) d.size cap) d.size (d.toList.map enc).flatten):HoldsK enc k w g 0 d:=by
 intro j hj
 rw[size_flatK] at hj
 rw[Nat.zero_add]
 exact ⟨by rw[h.cellAt j hj,flat_get enc k hk d j hj];rfl,h.frozenAt j⟩
theorem own_of_sort (hk:∀x,(enc x).length=k) {w:World} {B:Nat} {e:TypeId} {g cap m:Nat} {d d':Array α} {os:Array Obj} (h:w.ownsRow B e k (.slice (some ⟨g,0,none⟩) d.size cap) d.size (d.toList.map enc).flatten) (hs:d'.size=d.size):
 (sortWorldK enc k w g 0 m d' os).ownsRow B e k (.slice (some ⟨g,0,none⟩) d.size cap) d.size (d'.toList.map enc).flatten∧w.grownBy (sortWorldK enc k w g 0 m d' os) (some g):=by
 rcases h.2 with ⟨h',_⟩|⟨g',cap',cur,h',hb,hg,hnc,hcm,hcs,htake⟩
 ·simp at h'
 ·simp only[Value.slice.injEq,Option.some.injEq,Addr.mk.injEq,and_true,true_and] at h'
  obtain ⟨rfl,rfl⟩:=h'
  have hglt:g<w.heap.size:=(Array.getElem?_eq_some_iff.1 hg).1
  have hle:d.size*k≤cap*k:=Nat.mul_le_mul_right k hnc
  have hheap:(sortWorldK enc k w g 0 m d' os).heap[g]? =some (.cells (putCells id 0 (flatK enc k d') cur) e):=by
   unfold sortWorldK putRowK putRow mapBlock grow
   rw[Array.getElem?_append_left (by simpa [Sort.ahead] using hglt),Array.getElem?_modify,if_pos rfl]
   show Option.map _ (w.heap[g]?)=_
   rw[hg]
   rfl
  refine ⟨⟨by rw[flatK_len enc k hk];simp[hs],.inr ⟨g,cap,_,rfl,hb,hheap,hnc,hcm,by simpa [putCells] using hcs,?_⟩⟩,⟨rfl,rfl,rfl,size_sortWorldK_c enc k w g 0 m d' os,fun j hj hne=> ?_⟩⟩
  ·apply List.ext_getElem?
   intro t
   rw[List.getElem?_take]
   by_cases ht:t<d.size*k
   ·rw[if_pos ht,flat_get enc k hk d' t (by rw[hs];exact ht)]
    rw[Array.getElem?_toList]
    unfold putCells
    rw[Array.getElem?_mapIdx,Array.getElem?_eq_getElem (by omega)]
    simp[hs,ht]
   ·rw[if_neg ht,List.getElem?_eq_none (by rw[flatK_len enc k hk];simp[hs];omega)]
  ·unfold sortWorldK putRowK putRow mapBlock grow
   rw[Array.getElem?_append_left (by simpa [Sort.ahead] using hj),Array.getElem?_modify,if_neg (fun e=>hne (by rw[e]))]
   rfl
end
theorem swo_of {α:Type} {c:α→α→Int} (h:IsCmp c):SWO (ltOf c) where
 irrefl x:=by unfold ltOf;rw[h.self];rfl
 trans x y z h1 h2:=by unfold ltOf at*;simp only[decide_eq_true_eq] at*;exact h.lt_trans x y z h1 h2
 ntrans x y z h1 h2:=by
  unfold ltOf at*
  simp only[decide_eq_false_iff_not] at*
  have:=h.trans z y x (by have:=h.anti y z;omega) (by have:=h.anti x y;omega)
  have:=h.anti x z
  omega
instance:Inhabited Ent:=⟨zeroE⟩
theorem isAggE (w:World):(isAgg 64).run Tryz.prog w= .ok true w:=by kernel_rfl
theorem sizeE (w:World):(Go.sizeOf 64).run Tryz.prog w= .ok 5 w:=by kernel_rfl
theorem enterCmp (args:Array Value) (w:World):(callFunc 94 args).run Tryz.prog w= .ok (.enter 94 args) w:=enters_of Tryz.func94 (by kernel_rfl) rfl args w
attribute [local go_sem ↓] Go.wp_at_zero Go.wp_at_succ
theorem compareEntries_grow (a b:Ent) (w:World):
 Calls Tryz.prog 94 #[.agg (eCells a).toArray,.agg (eCells b).toArray] w fun x w'=>x= .returned (.int .i64 (entCmp a b))∧∃q os,w'=grow (w.drewN q) os:=by
 obtain ⟨aid,atitle,alink,acontent,aupd⟩:=a
 obtain ⟨bid,btitle,blink,bcontent,bupd⟩:=b
 unfold entCmp
 obtain ⟨ci,hci⟩:∃ci,iCmp bupd aupd=ci:=⟨_,rfl⟩
 obtain ⟨cs,hcs⟩:∃cs,sCmp aid bid=cs:=⟨_,rfl⟩
 simp only[hci,hcs]
 have HI:=gd (fun w'=>cmpInt_any bupd aupd w')
 have HS:=gd (fun w'=>cmpStr_any aid bid w')
 rw[hcs] at HS
 rw[show (if bupd<aupd then (-1:Int) else if aupd<bupd then 1 else 0)=ci from hci] at HI
 have HO:=gd (fun v w' h=>cmpOr_any ci cs v w' h)
 obtain ⟨res,hres⟩:∃res,(if ci=0 then cs else ci)=res:=⟨_,rfl⟩
 rw[hres] at HO
 rw[hres]
 clear hci hcs hres
 unfold eCells
 go_enter Tryz.func94,Tryz.ntmps94
 go_wp2
 go_region_held3 (fun w'=>Ext w w'∧w'.cell? ⟨w.heap.size,0,none⟩=some (.string aid)∧w'.cell? ⟨w.heap.size,4,none⟩=some (.int .i64 aupd)∧w'.cell? ⟨w.heap.size+1,0,none⟩=some (.string bid)∧w'.cell? ⟨w.heap.size+1,4,none⟩=some (.int .i64 bupd))
  ((go_split_ands;refine ⟨?_,?_,?_,?_,?_⟩<;>first|assumption|((repeat (first|exact Ext.refl _|assumption|apply Ext.drew|apply Ext.alloc));done)|((refine Ext.trans ?_ (by assumption));(repeat (first|exact Ext.refl _|assumption|apply Ext.drew|apply Ext.alloc));done)|((refine Ext.cell (by assumption) ?_);first|assumption|(go_keep;done))|(go_keep;done)))
  (first|(go_at_call 137;refine (HI.out _).mono ?_;rintro e w1 ⟨rfl,rfl⟩)|(go_at_call 138;refine (HS.out _).mono ?_;rintro e w2 ⟨rfl,rfl⟩)|(go_at_call 136;refine (HO.out _ _ (rsl_block (e:=3) (fr:=(0,0)) (cs:= [.int .i64 ci,.int .i64 cs]) ?hg (by rfl) (by decide))).mono ?_;(case hg=>exact heap_alloc3_new w _ _ _);rintro e w3 ⟨rfl,rfl⟩))
 go_wp2
 go_ret
 exact ⟨rfl,1,_,by rw[alloc_eq_grow,alloc_eq_grow,alloc_eq_grow,grow_grow,grow_grow];rfl⟩
theorem sortE_any (v:Value) (l:List Ent) (w:World) (B:Nat) (h:OEnts w B v l) (hn:l.length≤1000000):
 Calls Tryz.prog 126 #[v,.func (.func 94) #[] #[]] w fun e w'=>e= .returned (.tuple #[])∧
  ∃l':List Ent,l'.Perm l∧l'.Pairwise (fun a b=>ordE.lt b a=false)∧OEnts w' B v l'∧w.grownBy w' v.ownBlock:=by
 rcases Nat.eq_zero_or_pos l.length with h0|h0
 ·have hl:l= []:=List.eq_nil_of_length_eq_zero h0
  subst hl
  obtain ⟨A,c,rfl,_,_⟩:=h.reads.form
  refine (Tryz.slices_SortFunc_none_f126 (α:=Ent) A c _ w).mono ?_
  rintro e w' ⟨rfl,rfl⟩
  exact ⟨rfl,[],List.Perm.refl _,List.Pairwise.nil,h,World.grownBy.refl _ _⟩
 ·obtain ⟨g,cap,rfl,hb,hg⟩:=World.ownsRow.form h h0
  have h':w.ownsRow B 64 5 (.slice (some ⟨g,0,none⟩) l.toArray.size cap) l.toArray.size (l.toArray.toList.map eCells).flatten:=by simpa [OEnts,flatE] using h
  have hc:=Tryz.slices_SortFunc_f126 5 isAggE sizeE eCells (fun _=>rfl) (fun x=>eCells_one x) entCmp (swo_of entCmp_is) 94 #[] g 0 cap l.toArray w enterCmp
   (fun m os dk hdk x y=>compareEntries_grow x y _) (holds_of_own eCells 5 (fun _=>rfl) h') hg (by simp;omega)
  refine hc.mono ?_
  rintro e w' ⟨rfl,d',n,os,hp,hs,rfl⟩
  have hsz:d'.size=l.toArray.size:=hp.1
  have ho:=own_of_sort eCells 5 (fun _=>rfl) (m:=n) (os:=os) h' hsz
  have hperm:d'.toList.Perm l:=by
   have:=hp.2.2
   have hl:l.length=d'.toList.length:=by simpa using hsz.symm
   simp at this
   rwa [hl,List.take_of_length_le (Nat.le_refl _)] at this
  refine ⟨rfl,d'.toList,hperm,?_,?_,ho.2⟩
  ·rw[List.pairwise_iff_getElem]
   intro i j hi hj hij
   have h1:=hs i j (Nat.zero_le _) hij (by rw[←hsz];simpa using hj)
   rw[getElem!_pos d' j (by simpa using hj),getElem!_pos d' i (by simpa using hi)] at h1
   simpa [ltOf,ordE,ltE] using h1
  ·unfold OEnts
   have e1:d'.toList.length=l.length:=hperm.length_eq
   rw[e1]
   have:=ho.1
   simpa [flatE] using this
end
theorem rowSlice:Tryz.prog.underlying 30=some (.slice (Tryz.prog.elem 30)):=by kernel_rfl
theorem rowSize (w:World):(Go.sizeOf (Tryz.prog.elem 30)).run Tryz.prog w= .ok 5 w:=by kernel_rfl
theorem tailE {w:World} {A:Option Addr} {c:Nat} {x:Ent} {t:List Ent} (h:REnts w (.slice A (t.length+1) c) (x::t)):
 ∃v',(∀wx:World,(Instr.slice 30 (.slice A (t.length+1) c) (some (.int .i64 1)) none none).run Tryz.prog wx= .ok v' wx)∧REnts w v' t:=by
 refine ⟨sliced A 1 (t.length+1) c 5,fun wx=> ?_,?_⟩
 ·rw[run_slice_l (P:=Tryz.prog) (w:=wx) 30 A (t.length+1) c rowSlice .i64 1 (by omega) (by omega)]
  rw[rowSize]
  rfl
 ·obtain ⟨h1,A',c',e,h2,h3,h4,h5⟩:=h
  injection e with e1 e2 e3
  subst e1 e3
  clear e2
  have hl:(flatE t).length=t.length*5:=by
   have:(flatE (x::t)).length=(t.length+1)*5:=by simpa using h1
   have e:flatE (x::t)=eCells x++flatE t:=by unfold flatE;simp
   rw[e,List.length_append] at this
   have e5:(eCells x).length=5:=rfl
   omega
  refine ⟨hl,?_⟩
  have hcells:∀j u,(flatE t)[j]? =some u→∃ad,A=some ad∧w.cell? (ad.add (5+j))=some u:=by
   intro j u hu
   refine h5 (5+j) u ?_
   have e:flatE (x::t)=eCells x++flatE t:=by unfold flatE;simp
   rw[e,List.getElem?_append_right (by show 5≤5+j;omega)]
   simpa [eCells] using hu
  unfold sliced
  have hn:t.length+1≤c:=by simpa using h2
  by_cases hc:c=1
  ·have ht:t= []:=List.eq_nil_of_length_eq_zero (by omega)
   subst ht
   exact ⟨_,_,rfl,by simp,Nat.le_trans (Nat.sub_le _ _) h3,fun _=>by omega,fun j u hu=>by simp[flatE] at hu⟩
  ·cases A with
   |none=>have:=h4 rfl;omega
   |some ad=>
    refine ⟨some (ad.add 5),c - 1,by rw[if_neg hc];rfl,by omega,Nat.le_trans (Nat.sub_le _ _) h3,(fun e=>by cases e),fun j u hu=>⟨_,rfl,?_⟩⟩
    obtain ⟨ad',e,hc'⟩:=hcells j u hu
    injection e with e
    subst e
    rw[addr_add2]
    exact hc'
def jE (l:List Ent) (s:ByteArray):Ent:=(ordE.got l s).getD zeroE
theorem joined_map (l:List Ent):ordE.joined l=(ordE.firsts l).map (jE l):=by
 have key:∀fs:List ByteArray,(∀s∈fs,s∈ordE.firsts l)→fs.filterMap (ordE.got l)=fs.map (jE l):=by
  intro fs
  induction fs with
  |nil=>intro _;rfl
  |cons s t ih=>
   intro h
   obtain ⟨x,hx⟩:=(Ord.got_isSome_iff (O:=ordE) l s).2 ((ordE.mem_firsts l s).1 (h s (by simp)))
   rw[List.filterMap_cons_some hx,List.map_cons,ih fun s hs=>h s (by simp[hs])]
   unfold jE
   rw[hx];rfl
 exact key _ fun s hs=>hs
theorem jE_fold {l:List Ent} {s:ByteArray} {x:Ent} {t:List Ent} (h:grp l s=x::t):jE l s=t.foldl laterE x:=by
 unfold jE Ord.got
 have h':(l.filter fun x=>decide (ordE.id x=s))=x::t:=h
 rw[h']
 rfl
theorem grp_cons {l:List Ent} {s:ByteArray} (h:s∈ordE.firsts l):∃x t,grp l s=x::t:=by
 obtain ⟨x,hx,e⟩:=(ordE.mem_firsts l s).1 h
 have:x∈grp l s:=by unfold grp;exact List.mem_filter.2 ⟨hx,by simpa using e⟩
 cases hg:grp l s with
 |nil=>rw[hg] at this;simp at this
 |cons y t=>exact ⟨y,t,rfl⟩
theorem fold_eok:∀(t:List Ent) (x:Ent),eok x→(∀y∈t,eok y)→eok (t.foldl laterE x)
 | [],_,h,_=>h
 |y::t,x,h,ht=>fold_eok t _ (laterE_eok h (ht y (by simp))) fun z hz=>ht z (by simp[hz])
def LatE:Prop:=∀(a b:Ent) (w:World),Env w→eok a→eok b→Calls Tryz.prog 125 #[.agg (eCells a).toArray,.agg (eCells b).toArray] w fun x w'=>x= .returned (.agg (eCells (laterE a b)).toArray)∧Ext w w'
theorem latE:LatE:=fun a b w hE ha hb=>laterEntry_any a b w hE ha hb
theorem combineL_any (v:Value) (l:List Ent) (w:World) (hE:Env w) (h:REnts w v l) (hl:∀x∈l,eok x) (hn:l.length≤1000000) (hLE:l.length≤1∨LatE):
 Calls Tryz.prog 78 #[v] w fun x w'=>∃v',x= .returned v'∧OEnts w' w.heap.size v' (ordE.canon l)∧Ext w w':=by
 obtain ⟨i0,hi0,hz0,hz1,hz2⟩:=info_parts info_ent
 have HGRP:=gd (groupsE_any v l w h (fun x hx=>by have:=(hl x hx).2;omega) hn)
 have HFL:=gd (firsts_len l)
 have HL:=gd hl
 have HLE:=gd hLE
 clear hl hLE
 go_enter Tryz.func78,Tryz.ntmps78
 go_wp2_with (go_at_call 123;refine (HGRP.out).mono ?_;rintro e w1 ⟨v1,gv,rfl,hG,hx1⟩;(obtain ⟨A1,c1,hv1⟩:=hG.form);subst hv1)
 have hgl:=hG.len
 have hfl:=HFL.out
 have hgn:gv.length≤1000000:=by omega
 have HG:=gd hG
 have HGL:=gd hgl
 clear hG hgl hfl
 go_loopw [3,12] (fun o i wr=>∃k:Nat,k≤gv.length∧i= .int .i64 k∧OEnts wr w1.heap.size o (((ordE.firsts l).take k).map (jE l))∧Ext w1 wr) (fun _ i _=>gv.length - (intOf i).toNat)
 case atStart=>exact ⟨0,Nat.zero_le _,rfl,OEnts.nil _ _,Ext.refl _⟩
 case round=>
  obtain ⟨k,hk,rfl,hown,hx⟩:=hrel
  by_cases hlt:k<gv.length
  ·have hGw:=HG.out.ext hx
   obtain ⟨g,cap,hv,_,_⟩:=hGw.row.form (by omega)
   injection hv with hv1 hv2 hv3
   subst hv1
   have hgc:wr.cell? ⟨g,k,none⟩=some gv[k]:=by rw[hv3] at hGw;rw[hGw.row.cellAt k (by omega)];exact List.getElem?_eq_getElem hlt
   have hkf:k<(ordE.firsts l).length:=by rw[←HGL.out];exact hlt
   have hmem:(ordE.firsts l)[k]∈ordE.firsts l:=List.getElem_mem hkf
   have hoe:=hGw.each k (ordE.firsts l)[k] gv[k] (List.getElem?_eq_getElem hkf) (List.getElem?_eq_getElem hlt)
   obtain ⟨x,t,hgrp⟩:=grp_cons hmem
   have hjf:=jE_fold hgrp
   rw[hgrp] at hoe
   have htk:((ordE.firsts l).take (k+1)).map (jE l)=((ordE.firsts l).take k).map (jE l)++ [jE l (ordE.firsts l)[k]]:=by rw[List.take_succ_eq_append_getElem hkf,List.map_append];rfl
   rw[hjf] at htk
   have HTK:=gd htk
   have hxok:∀y∈x::t,eok y:=fun y hy=>HL.out y (by rw[←hgrp] at hy;exact (List.mem_filter.1 hy).1)
   have htl2:t.length+1≤l.length:=by
    have:=grp_len l (ordE.firsts l)[k]
    rw[hgrp] at this
    simpa using this
   have htl:t.length+1≤1000000:=by omega
   have HTL2:=gd htl2
   clear htl2
   obtain ⟨u,hu⟩:∃u,gv[k]=u:=⟨_,rfl⟩
   rw[hu] at hoe hgc
   obtain ⟨A2,c2,hu2,_,_⟩:=hoe.reads.form
   subst hu2
   have hoe2:REnts wr (.slice A2 (t.length+1) c2) (x::t):=hoe.reads
   obtain ⟨v2,hsl,hR2⟩:=tailE hoe2
   obtain ⟨ad,c3,hv4,hat⟩:=hoe.reads.at (k:=0) (by simp)
   injection hv4 with hv5 hv6 hv7
   subst hv5
   rw[Nat.zero_mul] at hat
   have hadd0:ad.add 0=ad:=add_zero ad
   rw[hadd0] at hat
   obtain ⟨a0,a1,a2,a3,a4⟩:=hat
   simp only[List.getElem_cons_zero] at a0 a1 a2 a3 a4
   have HR2:=gd hR2
   have HXK:=gd hxok
   obtain ⟨A3,c4,hv8,_,_⟩:=hR2.form
   subst hv8
   have HHU:=gd hu
   clear hGw hv2 hv3 hv6 hv7 hmem hgrp hjf htk hoe hoe2 hxok hR2 hu hadd0 hkf
   obtain ⟨wo,hwo⟩:∃wo:World,wo=wr:=⟨_,rfl⟩
   subst hwo
   have hR0:=HR2.out
   go_wp2
   go_loopw [22] (fun i w2=>∃m:Nat,m≤t.length∧i= .int .i64 m∧Ext (wo.alloc (.cells (eCells ((t.take m).foldl laterE x)).toArray 64)) w2) (fun i _=>t.length - (intOf i).toNat)
   case atStart=>exact ⟨0,Nat.zero_le _,rfl,by dsimp only[List.take_zero,List.foldl_nil];exact Ext.refl _⟩
   case round=>
    obtain ⟨m,hm,rfl,hxi⟩:=hrel
    have hxwo:Ext wo wr:=((Ext.refl wo).alloc _).trans hxi
    by_cases hmt:m<t.length
    ·obtain ⟨ad2,c5,hv9,hat⟩:=(hR0.ext hxwo).at hmt
     injection hv9 with hv9 hv10 hv11
     subst hv9
     clear hv10 hv11
     have hfs:(t.take (m+1)).foldl laterE x=laterE ((t.take m).foldl laterE x) t[m]:=by rw[List.take_succ_eq_append_getElem hmt,List.foldl_append];rfl
     have hek:=fold_eok (t.take m) x (HXK.out x (by simp)) fun y hy=>HXK.out y (List.mem_cons_of_mem _ (List.mem_of_mem_take hy))
     have hyk:=HXK.out t[m] (by simp)
     obtain ⟨E,hEE⟩:∃E,(t.take m).foldl laterE x=E:=⟨_,rfl⟩
     obtain ⟨y,hy⟩:∃y,t[m]=y:=⟨_,rfl⟩
     rw[hEE,hy] at hfs
     rw[hEE] at hek hxi
     rw[hy] at hyk hat
     have HFS:=gd hfs
     have HLT:=gd (fun (w':World) (hEn:Env w')=>(HLE.out.resolve_left (by have:=HTL2.out;omega)) E y w' hEn hek hyk)
     obtain ⟨r,hr⟩:∃r,laterE E y=r:=⟨_,rfl⟩
     have HR:=gd hr
     rw[hr] at HLT
     have hEw:Env wr:=hE.ext (hx1.trans (hx.trans hxwo))
     have hbx:=fun (d:World) (hd:Ext wr d)=>(hxi.trans hd).heap (heap_alloc_new wo _)
     have HBX:=gd hbx
     have HXI:=gd hxi
     clear hfs hEE hy hr hek hyk hbx
     obtain ⟨eid,etitle,elink,econtent,eupd⟩:=E
     obtain ⟨yid,ytitle,ylink,ycontent,yupd⟩:=y
     obtain ⟨a0',a1',a2',a3',a4'⟩:=hat
     simp only at a0' a1' a2' a3' a4'
     have hi0':(0:Int)≤(m:Int):=by omega
     have hi1:(m:Int)<(t.length:Int):=by omega
     have hxy:Ext (wo.alloc (.cells (eCells ⟨eid,etitle,elink,econtent,eupd⟩).toArray 64)) (wr.alloc (.cells #[.string yid,.string ytitle,.string ylink,.string ycontent,.int .i64 yupd] 64)):=hxi.alloc _
     have hyy:Ext (wr.alloc (.cells (eCells ⟨yid,ytitle,ylink,ycontent,yupd⟩).toArray 64)) (wr.alloc (.cells #[.string yid,.string ytitle,.string ylink,.string ycontent,.int .i64 yupd] 64)):=Ext.refl _
     have e0:(wr.alloc (.cells #[.string yid,.string ytitle,.string ylink,.string ycontent,.int .i64 yupd] 64)).cell? ⟨wo.heap.size,0,none⟩=some (.string eid):=hxy.boxed 0 _ rfl
     have e1:(wr.alloc (.cells #[.string yid,.string ytitle,.string ylink,.string ycontent,.int .i64 yupd] 64)).cell? ⟨wo.heap.size,1,none⟩=some (.string etitle):=hxy.boxed 1 _ rfl
     have e2:(wr.alloc (.cells #[.string yid,.string ytitle,.string ylink,.string ycontent,.int .i64 yupd] 64)).cell? ⟨wo.heap.size,2,none⟩=some (.string elink):=hxy.boxed 2 _ rfl
     have e3:(wr.alloc (.cells #[.string yid,.string ytitle,.string ylink,.string ycontent,.int .i64 yupd] 64)).cell? ⟨wo.heap.size,3,none⟩=some (.string econtent):=hxy.boxed 3 _ rfl
     have e4:(wr.alloc (.cells #[.string yid,.string ytitle,.string ylink,.string ycontent,.int .i64 yupd] 64)).cell? ⟨wo.heap.size,4,none⟩=some (.int .i64 eupd):=hxy.boxed 4 _ rfl
     have y0:(wr.alloc (.cells #[.string yid,.string ytitle,.string ylink,.string ycontent,.int .i64 yupd] 64)).cell? ⟨wr.heap.size,0,none⟩=some (.string yid):=hyy.boxed 0 _ rfl
     have y1:(wr.alloc (.cells #[.string yid,.string ytitle,.string ylink,.string ycontent,.int .i64 yupd] 64)).cell? ⟨wr.heap.size,1,none⟩=some (.string ytitle):=hyy.boxed 1 _ rfl
     have y2:(wr.alloc (.cells #[.string yid,.string ytitle,.string ylink,.string ycontent,.int .i64 yupd] 64)).cell? ⟨wr.heap.size,2,none⟩=some (.string ylink):=hyy.boxed 2 _ rfl
     have y3:(wr.alloc (.cells #[.string yid,.string ytitle,.string ylink,.string ycontent,.int .i64 yupd] 64)).cell? ⟨wr.heap.size,3,none⟩=some (.string ycontent):=hyy.boxed 3 _ rfl
     have y4:(wr.alloc (.cells #[.string yid,.string ytitle,.string ylink,.string ycontent,.int .i64 yupd] 64)).cell? ⟨wr.heap.size,4,none⟩=some (.int .i64 yupd):=hyy.boxed 4 _ rfl
     have hEy:Env (wr.alloc (.cells #[.string yid,.string ytitle,.string ylink,.string ycontent,.int .i64 yupd] 64)):=hEw.ext ((Ext.refl wr).alloc _)
     unfold eCells at HLT
     dsimp only at HLT
     clear hxy hyy
     go_wp2_with (first|(refine wpList_store_row rfl 64 (.tmp 6) (.tmp 28) rfl wo.heap.size _ rfl rfl _ _ hbd size_ent rfl (oneA (eCells_one r)) ?_)|(go_at_call 125;refine (HLT.out _ hEy).mono ?_;rintro e w3 ⟨rfl,hx3⟩;(have hxd:=HXI.out.trans (((Ext.refl wr).alloc _).trans hx3));(have hbd:=HBX.out w3 (((Ext.refl wr).alloc _).trans hx3))))
     go_roundw
     case rel=>
      have hR:=HR.out
      have hF:=HFS.out
      refine ⟨m+1,by omega,by go_num,?_⟩
      rw[hF,hR]
      exact ext_setBox hxd
     case measure=>simp[intOf];omega
    ·have hme:m=t.length:=by omega
     subst hme
     rw[List.take_of_length_le (Nat.le_refl _)] at hxi
     obtain ⟨r,hr⟩:∃r,t.foldl laterE x=r:=⟨_,rfl⟩
     rw[hr] at hxi
     have HR:=gd hr
     clear hr
     have e0:wr.cell? ⟨wo.heap.size,0,none⟩=some (.string r.id):=hxi.boxed 0 _ rfl
     have e1:wr.cell? ⟨wo.heap.size,1,none⟩=some (.string r.title):=hxi.boxed 1 _ rfl
     have e2:wr.cell? ⟨wo.heap.size,2,none⟩=some (.string r.link):=hxi.boxed 2 _ rfl
     have e3:wr.cell? ⟨wo.heap.size,3,none⟩=some (.string r.content):=hxi.boxed 3 _ rfl
     have e4:wr.cell? ⟨wo.heap.size,4,none⟩=some (.int .i64 r.upd):=hxi.boxed 4 _ rfl
     have hown1:=hown.ext hxwo
     have hxx:=hx.trans hxwo
     have hkl:(((ordE.firsts l).take k).map (jE l)).length=k:=by
      have:=HGL.out
      rw[List.length_map,List.length_take];omega
     unfold OEnts at hown1
     have HBY:Hid (((((ordE.firsts l).take k).map (jE l)).length+1)*72≤140737488355328):=gd (by rw[hkl];omega)
     have HML:Hid ((((ordE.firsts l).take k).map (jE l)).length+1≤maxLen):=gd (by rw[hkl];unfold maxLen;omega)
     obtain ⟨O,hO⟩:∃O,((ordE.firsts l).take k).map (jE l)=O:=⟨_,rfl⟩
     rw[hO] at hown1 hkl HBY HML
     have HO:=gd hO
     clear hO
     go_wp2_with (first|(at_builtin;refine wpList_append_rsl _ rfl (.tmp 30) (.tmp 32) _ rfl w1.heap.size 64 i0 _ 5 72 Tryz.underlying30 hi0 hz0 hz1 hz2 rfl (by decide) _ _ _ rfl (hown1.alloc _) _ 1 (eCells r) rfl (rsl_new rfl (by decide)) (eCells_one _) HML.out HBY.out ?_ ?_;(have:=hxx.size;simp;omega);intro v3 w3 hown3 hg3 hat3;(have hx3:Ext w1 w3:=Ext.app (hxx.alloc _) hg3 (hown1.alloc _) (Nat.le_refl _))))
     go_roundw
     case rel=>
      have hT:=HTK.out
      have hO:=HO.out
      have hR:=HR.out
      refine ⟨k+1,by omega,by go_num,?_,hx3⟩
      rw[hT,hO,hR]
      exact OEnts.snoc hown3
     case measure=>simp[intOf];omega
  ·have hke:k=gv.length:=by omega
   subst hke
   have hkf:(ordE.firsts l).take gv.length=ordE.firsts l:=List.take_of_length_le (by rw[HGL.out];exact Nat.le_refl _)
   rw[hkf,←joined_map] at hown
   have hjn:(ordE.joined l).length≤1000000:=by rw[joined_map,List.length_map,←HGL.out];exact hgn
   have hcan:=fun l'=>ordE.sorted_joined l l'
   obtain ⟨J,hJ⟩:∃J,ordE.joined l=J:=⟨_,rfl⟩
   rw[hJ] at hown hjn hcan
   have HCAN:=gd hcan
   have hws:=hx1.size
   have hgb:∀g,u3.ownBlock=some g→w.heap.size≤g:=fun g hg=>Nat.le_trans hws (World.ownsRow.lt hown g hg).1
   have hsr:=sortE_any u3 J wr w1.heap.size hown hjn
   obtain ⟨A9,c9,rfl,_,_⟩:=hown.reads.form
   have HSR:=gd hsr
   have HGB:=gd hgb
   clear hsr hcan hJ hkf hjn hgb
   go_wp2_with (go_at_call 126;(have hz:=HSR.out);(with_reducible refine Calls.mono hz ?_);clear hz;rintro e w9 ⟨rfl,l',hp,hs,hown9,hgr⟩)
   go_ret
   have hc:=HCAN.out l' hp hs
   subst hc
   exact ⟨_,rfl,hown9.mono hws,Ext.grown' (B:=0) (hx1.trans hx) hgr HGB.out⟩
theorem combine_any (v:Value) (l:List Ent) (w:World) (hE:Env w) (h:REnts w v l) (hl:∀x∈l,eok x) (hn:l.length≤1000000):
 Calls Tryz.prog 78 #[v] w fun x w'=>∃v',x= .returned v'∧OEnts w' w.heap.size v' (ordE.canon l)∧Ext w w':=combineL_any v l w hE h hl hn (Or.inr latE)
end Go.Proofs.YthlnaldahkgjnaaGreatDoor
