/- Parts of the proof: contracts and plain laws. -/
import Derived.Test.YthlnaldahkgjnaaGreatDoorY16
namespace Go.Proofs.YthlnaldahkgjnaaGreatDoor
open Go Go.RowKit
set_option linter.unusedVariables false
set_option linter.unusedSimpArgs false
set_option maxRecDepth 100000
set_option maxHeartbeats 16000000
section
set_option linter.unusedSimpArgs false
theorem jdec_yc (N:Nat) (j:JO) (cs:List Value) (w:World) (h:RJ w j cs) (hg:jsz N j) (hN:N≤16777216) (hE:Env w) (hv:versJ j≠none) (hk:∀f,decJ j= .ok f→fokS f) (hLn:(itsW j).length≤1000000) (hB:(collapse (firstJ j [nFeedUrl])).toList.isEmpty=true) (hI:(memJ j nItems).isSome=true) (hKI:∀x,memJ j nItems=some x→(((kindJ x:Nat):Int) !=4)=true):
 Calls Tryz.prog 12 #[.agg cs.toArray] w fun e w'=>DecR w' (decJ j) e∧Ext w w':=by
 obtain ⟨ver,hver⟩:=Option.ne_none_iff_exists'.1 hv
 have HVS:=gd (fun w' (hx:Ext w w')=>jversion_any j cs w w' h hx)
 rw[hver] at HVS
 have HCC:=gd (fun (b:Nat) (hb:w.heap.size≤b)=>(⟨h,hg,hN,hE,hb⟩:DC w N b j cs))
 have HRJ:=gd h
 have HERR:=gd (fun f hf=>decJ_err_walk (f:=f) hv hf)
 have HOK:=gd (fun (t:Int) (E:List Ent) h1 h2 h3 h4=>decJ_ok_walk (t:=t) (E:=E) hv h1 h2 h3 h4)
 have HFK:=gd hk
 have HEN:=gd hE
 have HG:=gd hg
 obtain ⟨i0,hi0,hz0,hz1,hz2⟩:=info_parts info_ent
 obtain ⟨A,p,c,B,q,d,hc⟩:=h.cells
 obtain ⟨K,hK⟩:∃a,kindJ j=a:=⟨_,rfl⟩
 obtain ⟨Bb,hBb⟩:∃a,bJ j=a:=⟨_,rfl⟩
 obtain ⟨Nn,hNn⟩:∃a,nJ j=a:=⟨_,rfl⟩
 obtain ⟨Ss,hSs⟩:∃a,sJ j=a:=⟨_,rfl⟩
 obtain ⟨At,hAt⟩:∃a,atJ j=a:=⟨_,rfl⟩
 rw[hK,hBb,hNn,hSs,hAt] at hc
 unfold wcells at hc
 have HCS:=gd hc
 rw[hc] at HVS
 obtain ⟨W1,hW1⟩:∃W1,(w.alloc (.cells #[.int .i64 K,.bool Bb,.int .i64 Nn,.string Ss,.slice A p c,.slice B q d,.int .i64 At] 25)).alloc (.cells #[.slice none 0 0,.string ⟨#[]⟩,.string ⟨#[]⟩,.string ⟨#[]⟩,.int .i64 0,.slice none 0 0] 32)=W1:=⟨_,rfl⟩
 have hx1:Ext w W1:=by rw[←hW1];exact ((Ext.refl w).alloc _).alloc _
 have hv1:W1.heap[w.heap.size]? =some (.cells #[.int .i64 K,.bool Bb,.int .i64 Nn,.string Ss,.slice A p c,.slice B q d,.int .i64 At] 25 (0,0)):=by
  rw[←hW1];exact ((Ext.refl _).alloc _).heap (heap_alloc_new w _)
 have hr1:W1.heap[w.heap.size+1]? =some (.cells (cellsC zeroC).toArray 32 (0,0)):=by rw[←hW1];exact heap2b w _ _
 have hs1:W1.heap.size=w.heap.size+2:=by rw[←hW1,size_alloc,size_alloc]
 have c0:=cell_of_row _ _ 0 _ _ _ hv1
 have c1:=cell_of_row _ _ 1 _ _ _ hv1
 have c2:=cell_of_row _ _ 2 _ _ _ hv1
 have c3:=cell_of_row _ _ 3 _ _ _ hv1
 have c4:=cell_of_row _ _ 4 _ _ _ hv1
 have c5:=cell_of_row _ _ 5 _ _ _ hv1
 have c6:=cell_of_row _ _ 6 _ _ _ hv1
 have HX1:=gd hx1
 have HR1:=gd hr1
 have HS1:=gd hs1
 have HID:Hid (idW j=if collapse (firstJ j [nFeedUrl])=noS then firstJ j [nHome] else firstJ j [nFeedUrl]):=rfl
 have hsz:∀n,(firstJ j [n]).size≤16777216:=fun n=>by
  rw[firstJ_one]
  cases hm:memJ j n with
  |none=>exact Nat.zero_le _
  |some y=>exact Nat.le_trans (sJ_size (memJ_good hg hm)) hN
 have hszw:(idW j).size≤16777216:=by unfold idW;split<;>exact hsz _
 have HSZ:=gd hsz
 have HSW:=gd hszw
 obtain ⟨R,hR⟩:∃R,decJ j=R:=⟨_,rfl⟩
 rw[hR]
 have HRR:=gd hR
 obtain ⟨L,hL⟩:∃L,itsW j=L:=⟨_,rfl⟩
 have hHW:headWJ j=orF (orF (orF (chkJ j false [nFeedUrl,nHome,nTitle,nUpdated]) (reqF j (idW j))) (faultD (dateJ j [nUpdated]))) (itemK j):=rfl
 have hcol:=fun w'=>collapse_any (firstJ j [nFeedUrl]) w' (by have:=hsz nFeedUrl;omega)
 have hblank:(collapse (firstJ j [nFeedUrl])).toList.isEmpty=true∧Hid ((cellsC (F0 j)).toArray.setIfInBounds 1 (.string (firstJ j [nHome]))=(cellsC (FE j 0 [] (.slice none 0 0))).toArray)∨
  (collapse (firstJ j [nFeedUrl])).toList.isEmpty=false∧Hid (F0 j=FE j 0 [] (.slice none 0 0)):=by
  by_cases hb:collapse (firstJ j [nFeedUrl])=noS
  ·refine Or.inl ⟨by rw[hb];exact isEmpty_str [],?_⟩
   show _=_
   unfold FE idW
   rw[if_pos hb]
   rfl
  ·refine Or.inr ⟨ne_noS hb,?_⟩
   show _=_
   unfold F0 FE idW
   rw[if_neg hb]
 have hitem:((memJ j nItems).isSome=false∧Hid (memJ j nItems=none∧itemK j=none∧L= []))∨∃x,(memJ j nItems).isSome=true∧Hid (memJ j nItems=some x∧L=itemsJ x)∧(((((kindJ x:Nat):Int) !=4)=false∧Hid (itemK j=none))∨((((kindJ x:Nat):Int) !=4)=true∧Hid (itemK j=some (atJ x,21)))):=by
  cases hm:memJ j nItems with
  |none=>exact Or.inl ⟨rfl,rfl,by unfold itemK;rw[hm],by rw[←hL];unfold itsW;rw[hm]⟩
  |some x=>
   refine Or.inr ⟨x,rfl,⟨rfl,by rw[←hL];unfold itsW;rw[hm]⟩,?_⟩
   by_cases h4:kindJ x=4
   ·exact Or.inl ⟨by rw[h4];rfl,by show _=_;unfold itemK;rw[hm];exact if_neg (by simpa using h4)⟩
   ·exact Or.inr ⟨by rw[bne_iff_ne];omega,by show _=_;unfold itemK;rw[hm];exact if_pos h4⟩
 have HCOL:=gd hcol
 have HLN:Hid (L.length≤1000000):=by show _≤_;rw[←hL];exact hLn
 have HL:=gd hL
 have HHW:=gd hHW
 clear h hg hE hv hver hk hc hx1 hv1 hr1 hs1 hsz hszw hR hL hHW hcol hLn hK hBb hNn hSs hAt
 rw[HCS.out]
 rcases hblank with ⟨hbe,hcb⟩|⟨hbe,hcn⟩
 rotate_left
 ·rw[hbe] at hB;cases hB
 rcases hitem with ⟨hiF,hm⟩|⟨x,hiF,hm,⟨hk4,hk⟩|⟨hk4,hk⟩⟩
 ·rw[hiF] at hI;cases hI
 ·have h9:=hKI x hm.out.1;rw[hk4] at h9;cases h9
 clear hB hI hKI
 all_goals (
  go_enter Tryz.func12,Tryz.ntmps12
  go_wp2_with (first|(go_at_call 34;(refine Calls.mono (fail_c j cs w2.heap.size _ (atJ y) 21 w _ HRJ.out HF15.rd (by decide)) ?_);rintro e w16 ⟨rfl,hr16,hb16⟩;(have HF16:=HF15.turn HDK hb16 hr16);(have i4:=cell_of_row _ _ 4 _ _ _ (hb16.heap hib (by have:=HLT.out;omega))))|(go_at_call 33;(refine Calls.mono (rget_c j cs w2.heap.size _ nItems w _ HRJ.out HF13.ext HF13.rd) ?_);rintro e w14 ⟨⟨y,cy,rfl,hry,hmy⟩,hx14⟩;(obtain ⟨A1,c1',B1,q2,d2,n1,css,hcy,hcl,hrs,hel⟩:=rj_open hry);(unfold wcells at hcy);subst hcy;(try (obtain rfl:y=x:=(Option.some.inj (hm.out.1.symm.trans (hmy.elim id fun e=>absurd (hm.out.1.symm.trans e.1) (by simp)))).symm));(have HF14:=HF13.next hx14);(have hib:=heap_alloc_new w14 (.cells #[.int .i64 (kindJ y:Nat),.bool (bJ y),.int .i64 (nJ y),.string (sJ y),.slice A1 (itemsJ y).length c1',.slice B1 q2 d2,.int .i64 (atJ y:Nat)] 25));(have HF15:=HF14.next ((Ext.refl w14).alloc (.cells #[.int .i64 (kindJ y:Nat),.bool (bJ y),.int .i64 (nJ y),.string (sJ y),.slice A1 (itemsJ y).length c1',.slice B1 q2 d2,.int .i64 (atJ y:Nat)] 25)));(have HLT:Hid (w2.heap.size<w14.heap.size):=(Array.getElem?_eq_some_iff.1 HF14.rd.1).1);(have i0:=cell_of_row _ _ 0 _ _ _ hib);(have i4:=cell_of_row _ _ 4 _ _ _ hib);(have i6:=cell_of_row _ _ 6 _ _ _ hib))|(go_at_call 32;(refine Calls.mono (date_b HC2 HF11.ext HF11.rd [nUpdated] (by decide) _ (by first|rfl|exact (size_alloc _ _).symm|(simp;done))) ?_);rintro e w12 ⟨t,rfl,ht,hr12,hb12⟩;(have HT:=gd ht);clear ht;(have HF12:=HF11.turn HDK hb12 hr12);(have g4:=(HF12.cell 4 (v:= .int .i64 0) rfl).1);(have g4f:=(HF12.cell 4 rfl).2);(have HF13:=HF12.set HDK 4 (.int .i64 t) (F':=FE j t [] (.slice none 0 0)) rfl))|(go_at_call 31;(refine Calls.mono (required_any j cs w2.heap.size _ (idW j) w _ HRJ.out HF10.ext HF10.rd HSW.out) ?_);rintro e w11 ⟨rfl,hr11,hb11⟩;(have HF11:=HF10.turn HDK hb11 hr11))|(go_at_call 30;(refine Calls.mono (HCOL.out _) ?_);rintro e w9 ⟨rfl,hx9⟩;(have HF9:=HF8.next hx9);(have g1:=(HF9.cell 1 (v:= .string (firstJ j [nFeedUrl])) rfl).1);(have g1f:=(HF9.cell 1 rfl).2);(have g3:=(HF9.cell 3 (v:= .string (firstJ j [nHome])) rfl).1);(first|(have HF10:=HF9.set HDK 1 (.string (firstJ j [nHome])) (F':=FE j 0 [] (.slice none 0 0)) hcb.out;(have e1:=(HF10.cell 1 (v:= .string (idW j)) rfl).1))|(have HF10:DF w w2.heap.size w7.heap.size (w.heap.size+1) cs _ (FE j 0 [] (.slice none 0 0)) w9:=(by rw[←hcn.out];exact HF9);(have e1:=(HF10.cell 1 (v:= .string (idW j)) rfl).1);clear g1)))|(go_at_call 29;(refine Calls.mono (first_b HC2 hx6 hr6 [nHome] (by decide) _ (by first|rfl|exact (size_alloc _ _).symm|(simp;done))) ?_);rintro e w7 ⟨rfl,hx7⟩;(have HFB:=heap_alloc_new w7 (.cells #[.slice none 0 0,.string (firstJ j [nFeedUrl]),.string (firstJ j [nTitle]),.string (firstJ j [nHome]),.int .i64 0,.slice none 0 0] 32));(have hxa:=hx7.alloc (.cells #[.slice none 0 0,.string (firstJ j [nFeedUrl]),.string (firstJ j [nTitle]),.string (firstJ j [nHome]),.int .i64 0,.slice none 0 0] 32));(have hb67:w2.heap.size<w7.heap.size:=Nat.lt_of_lt_of_le (Array.getElem?_eq_some_iff.1 hr6.1).1 hx7.size);(have HDK:DK w w2.heap.size w7.heap.size (w.heap.size+1):=(by have q1:=HS1.out;have q2:=hx2.size;exact ⟨by omega,by omega,by omega,by omega,by omega,by omega⟩));(have HF8:DF w w2.heap.size w7.heap.size (w.heap.size+1) cs _ (F0 j) _:=⟨hr6.ext hxa,HFB,hxa.heap hrb6,hx6.trans hxa⟩);(have g0:=(HF8.cell 1 (v:= .string (firstJ j [nFeedUrl])) rfl).1))|(go_at_call 29;(refine Calls.mono (first_b HC2 hx5 hr5 [nTitle] (by decide) _ (by first|rfl|exact (size_alloc _ _).symm|(simp;done))) ?_);rintro e w6 ⟨rfl,hx56⟩;(have hx6:=hx5.trans hx56);(have hr6:=hr5.ext hx56);(have hrb6:=hx56.heap hrb5))|(go_at_call 29;(refine Calls.mono (first_b HC2 hx4 hr4 [nFeedUrl] (by decide) _ (by first|rfl|exact (size_alloc _ _).symm|(simp;done))) ?_);rintro e w5 ⟨rfl,hx45⟩;(have hx5:=hx4.trans hx45);(have hr5:=hr4.ext hx45);(have hrb5:=hx45.heap hrb4))|(go_at_call 28;(refine Calls.mono (check_b HC2 hx3 hr3 [nFeedUrl,nHome,nTitle,nUpdated] (by decide) _ (by first|rfl|exact (size_alloc _ _).symm|(simp;done))) ?_);rintro e w4 ⟨rfl,hr4,hb4⟩;(have hx4:=Bar.ext hx3 hb4 HC2.hb);(have hrb4:=hb4.heap hrb3 (by have q1:=HS1.out;have q2:=hx2.size;omega)))|(go_at_call 14;(have hz:=HVS.out W1 HX1.out);(refine Calls.mono hz ?_);clear hz;rintro e w2 ⟨rfl,hx2⟩;(have q0:=Ext.cell hx2 c0);(have q1:=Ext.cell hx2 c1);(have q2:=Ext.cell hx2 c2);(have q3:=Ext.cell hx2 c3);(have q4:=Ext.cell hx2 c4);(have q5:=Ext.cell hx2 c5);(have q6:=Ext.cell hx2 c6);(have HC2:=HCC.out w2.heap.size (Nat.le_trans HX1.out.size hx2.size));(have hxa3:=(Ext.refl w2).alloc (.cells #[.int .i64 K,.bool Bb,.int .i64 Nn,.string Ss,.slice A p c,.slice B q d,.int .i64 At,.int .i64 0,.int .i64 0] 67));(have hx3:=(HX1.out.trans hx2).trans hxa3);(have hrb3:=(hx2.trans hxa3).heap HR1.out);(have hr3:RdAt w2.heap.size cs none (w2.alloc (.cells #[.int .i64 K,.bool Bb,.int .i64 Nn,.string Ss,.slice A p c,.slice B q d,.int .i64 At,.int .i64 0,.int .i64 0] 67)):=⟨(by rw[HCS.out];exact heap_alloc_new w2 _),fun e he=>(by cases he)⟩))))
 focus
  have hLy:itemsJ y=L:=hm.out.2.symm
  subst hLy
  have HFQ:=HF16.fault (o':=headWJ j) (by rw[HHW.out,hk.out];rfl)
  have HGY:Hid (itemsJ y≠ []→jsz N y):=fun _=>memJ_good HG.out hm.out.1
  clear HF15 HF16
 all_goals (
  have hLn2:(itemsJ y).length≤1000000:=HLN.out
  have HRS:=gd hrs
  have HEL:=gd hel
  have HCL:=gd hcl
  have HFQ2:=gd HFQ
  clear hrs hel hcl HFQ i0 i4 i6 hib
  go_loopw [74] (fun i wr=>∃(k:Nat) (E:List Ent) (eA:Option Addr) (ec:Nat) (O:Option (Nat×Nat)),k≤(itemsJ y).length∧i= .int .i64 (k:Nat)∧Hid (E.length=k)∧Hid (DF w w2.heap.size w7.heap.size (w.heap.size+1) cs O (FE j t E (.slice eA E.length ec)) wr)∧Hid (OEnts wr w.heap.size (.slice eA E.length ec) E)∧Hid (∀(i:Nat) (e:Ent) (x:JO),E[i]? =some e→(itemsJ y)[i]? =some x→EntR x e)∧Hid (O=orF (headWJ j) (firstFs ((itemsJ y).take k)))) (fun i _=>(itemsJ y).length - (intOf i).toNat)
  case atStart=>exact ⟨0,[],none,0,headWJ j,Nat.zero_le _,rfl,rfl,HFQ2.out,OEnts.nil _ _,(fun i e x he _=>by simp at he),(by rw[List.take_zero];exact (orF_none _).symm)⟩
  case round=>
   obtain ⟨k,E,eA,ec,O,hk,rfl,hEl,HF,HO,HER,hO⟩:=hrel
   by_cases hlt:k<(itemsJ y).length
   ·have hki:(k:Int)<((itemsJ y).length:Int):=by omega
    have hk0:(0:Int)≤(k:Int):=by omega
    have hck:k<css.length:=by rw[HCL.out];exact hlt
    have hRV:=HEL.out k (itemsJ y)[k] css[k] (List.getElem?_eq_getElem hlt) (List.getElem?_eq_getElem hck)
    have hln:∀c∈css,c.length=7:=by
     intro c hc
     obtain ⟨i,hi,rfl⟩:=List.mem_iff_getElem.1 hc
     exact (HEL.out i ((itemsJ y)[i]'(by rw[←HCL.out];exact hi)) css[i] (List.getElem?_eq_getElem _) (List.getElem?_eq_getElem hi)).len
    obtain ⟨ad,cap,hA,hcells⟩:=RSl.elem (HRS.out.ext HF.out.ext) (by omega) hln k css[k] (List.getElem?_eq_getElem hck)
    injection hA with hA1 hA2 hA3
    subst hA1
    clear hA2 hA3 hln
    rw[Nat.mul_comm] at hcells
    obtain ⟨C,hC⟩:∃C,css[k]=C:=⟨_,rfl⟩
    rw[hC] at hRV hcells
    obtain ⟨X,hX⟩:∃X,(itemsJ y)[k]=X:=⟨_,rfl⟩
    rw[hX] at hRV
    obtain ⟨A4,p4,c4',B4,q4',d4,hc4⟩:=hRV.cells
    obtain ⟨K4,hK4⟩:∃a,kindJ X=a:=⟨_,rfl⟩
    obtain ⟨Bb4,hBb4⟩:∃a,bJ X=a:=⟨_,rfl⟩
    obtain ⟨Nn4,hNn4⟩:∃a,nJ X=a:=⟨_,rfl⟩
    obtain ⟨Ss4,hSs4⟩:∃a,sJ X=a:=⟨_,rfl⟩
    obtain ⟨At4,hAt4⟩:∃a,atJ X=a:=⟨_,rfl⟩
    rw[hK4,hBb4,hNn4,hSs4,hAt4] at hc4
    unfold wcells at hc4
    have HC4:=gd hc4
    have HXJ:Hid (RJ w X C):=⟨_,hRV⟩
    rw[hc4] at hcells
    have u0:=hcells 0 _ rfl
    have u1:=hcells 1 _ rfl
    have u2:=hcells 2 _ rfl
    have u3:=hcells 3 _ rfl
    have u4:=hcells 4 _ rfl
    have u5:=hcells 5 _ rfl
    have u6:=hcells 6 _ rfl
    rw[add_zero] at u0
    have hadd:∀i,0<i→(ad.add (k*7)).add i=⟨(ad.add (k*7)).block,(ad.add (k*7)).off+i,none⟩:=fun i hi=>if_neg (by omega)
    rw[hadd _ (by omega)] at u1 u2 u3 u4 u5 u6
    have HXX:=gd hX
    have HCC4:=gd hC
    clear hadd hcells hRV hX hC hK4 hBb4 hNn4 hSs4 hAt4 hc4
    cases O with
    |none=>
     have hl7:cs.length=7:=by obtain ⟨_,_,_,_,_,_,e⟩:=HRJ.out.cells;rw[e];rfl
     obtain ⟨r7,r8, -⟩:=rd_cells HF.out.rd hl7
     simp only[faultA,faultE] at r7 r8
     have hlw:w2.heap.size<wr.heap.size:=(Array.getElem?_eq_some_iff.1 HF.out.rd.1).1
     have hlf:w7.heap.size<wr.heap.size:=(Array.getElem?_eq_some_iff.1 HF.out.fb).1
     have hlr:w.heap.size+1<wr.heap.size:=(Array.getElem?_eq_some_iff.1 HF.out.rb).1
     obtain ⟨WB,hWB⟩:∃WB,(wr.alloc (.cells #[.int .i64 (K4:Nat),.bool Bb4,.int .i64 Nn4,.string Ss4,.slice A4 p4 c4',.slice B4 q4' d4,.int .i64 (At4:Nat)] 25)).alloc (.cells #[.int .i64 (K4:Nat),.bool Bb4,.int .i64 Nn4,.string Ss4,.slice A4 p4 c4',.slice B4 q4' d4,.int .i64 (At4:Nat),.int .i64 0,.int .i64 0] 67)=WB:=⟨_,rfl⟩
     have hxB:Ext wr WB:=by rw[←hWB];exact ((Ext.refl wr).alloc _).alloc _
     have hrB:WB.heap[wr.heap.size+1]? =some (.cells #[.int .i64 (K4:Nat),.bool Bb4,.int .i64 Nn4,.string Ss4,.slice A4 p4 c4',.slice B4 q4' d4,.int .i64 (At4:Nat),.int .i64 0,.int .i64 0] 67 (0,0)):=by rw[←hWB];exact heap2b wr _ _
     have hRB:Hid (RdAt (wr.heap.size+1) C none WB):=⟨by rw[HC4.out];exact hrB,fun e he=>by cases he⟩
     have HFB:=gd (HF.out.next hxB)
     have HOB:=gd (OEnts.ext HO.out hxB)
     have hsB:WB.heap.size=wr.heap.size+2:=by rw[←hWB,size_alloc,size_alloc]
     have HSB:=gd hsB
     have f5:=(HFB.out.cell 5 (v:= .slice eA E.length ec) rfl).1
     have HXB:=gd hxB
     have HGX:Hid (jsz N X):=by
      have h4:∃a l,y= .arr a l:=by
       cases y with
       |arr a l=>exact ⟨a,l,rfl⟩
       |_=>exact absurd hlt (Nat.not_lt_zero _)
      obtain ⟨a4,l4,e4⟩:=h4
      have hgy:jsz N y:=HGY.out (fun e=>by rw[e4] at hlt e;exact absurd hlt (by rw[e];exact Nat.not_lt_zero _))
      have hxm:X∈itemsJ y:=by rw[←HXX.out];exact List.getElem_mem hlt
      rw[e4] at hgy hxm
      rw[jsz] at hgy
      exact hgy X hxm
     clear hsB hxB hrB hl7
     go_wp2
     refine rN ?_
     change wpAny _ _ _ _ _ _ _ (World.drew _)
     have hxd:=(Ext.refl WB).drew
     have hd5:WB.drew.cell? ⟨w7.heap.size,5,none⟩=some (.slice eA E.length ec):=f5
     refine wpAny_load (i:=0) (v:= .pointer (some ⟨w7.heap.size,5,none⟩)) (fun w'=>w'.cell? ⟨w7.heap.size,5,none⟩=some (.slice eA E.length ec)) 7 rfl (by kernel_rfl) (fun _ _ _ h=>h) (Or.inl ⟨by rfl,fun w' hS=>by go_simp⟩) hd5 ?_
     refine tT 1 (.slice eA E.length ec) rfl (fun w' hS=>by have hq:w'.cell? ⟨w7.heap.size,5,none⟩=some (.slice eA E.length ec):=hS;go_simp) hd5 ?_
     refine tT 2 (.pointer (some ⟨wr.heap.size+1,0,none⟩)) rfl (fun w' hS=>by go_simp) hd5 ?_
     go_simp
     refine wpAnyT_one (i:=3) rfl (by kernel_rfl) (fun K2 hK2=> ?_)
     go_simp
     go_at_call 35
     refine Calls.mono (entry_walk N X C (wr.heap.size+1) none w WB.drew HXJ.out HGX.out hN HEN.out (HFB.out.ext.trans hxd) (by have:=HF.out.ext.size;omega) (hRB.out.ext hxd)) ?_
     rintro e9 w3 ⟨Ex,rfl,hEx,hr3,hb3⟩
     have hext3:Ext wr w3:=Bar.ext (HXB.out.trans hxd) hb3 (Nat.le_succ _)
     have HF3:=HF.out.next hext3
     have HO3:=OEnts.ext HO.out hext3
     have g5:=(HF3.cell 5 (v:= .slice eA E.length ec) rfl).1
     refine hK2 _ _ (fun _=>g5) ?_
     clear hK2 K2
     have HF4:=HF3.next ((Ext.refl w3).alloc (.cells (eCells Ex).toArray 64))
     have HO4:=OEnts.ext HO3 ((Ext.refl w3).alloc (.cells (eCells Ex).toArray 64))
     have hr4:=hr3.ext ((Ext.refl w3).alloc (.cells (eCells Ex).toArray 64))
     have g6:=(HF4.cell 5 (v:= .slice eA E.length ec) rfl).1
     have hnew:RSl (w3.alloc (.cells (eCells Ex).toArray 64)) 5 (.slice (some ⟨w3.heap.size,0,none⟩) 1 1) 1 (eCells Ex):=rsl_new (w:=w3) (n:=1) (cs:=eCells Ex) rfl (by decide)
     refine wpAnyT_one (i:=4) rfl (by kernel_rfl) (fun K2 hK2=> ?_)
     go_simp
     refine hK2 _ _ (fun _=>g6) ?_
     clear hK2 K2
     refine wpAnyT_one (i:=5) rfl (by kernel_rfl) (fun K2 hK2=> ?_)
     refine step_append_rsl _ (by rfl) (.tmp 87) (.tmp 90) _ (by rfl) w.heap.size 64 i0 _ 5 72 Tryz.underlying30 hi0 hz0 hz1 hz2 rfl (by decide) _ E.length (flatE E) (by rfl) HO4 _ 1 (eCells Ex) (by rfl) hnew (eCells_one Ex) (by have:=hEl.out;unfold maxLen;omega) (by have:=hEl.out;omega) HF4.ext.size ?_
     intro v5 w5' hown5 hg5 hat5
     obtain ⟨A5,c5',hv5⟩:∃A c,v5= .slice A (E.length+1) c:=by
      rcases hown5.2 with ⟨h1,h2⟩|⟨g,cap,cur,h1,_⟩
      ·exact ⟨none,0,by rw[h1,h2]⟩
      ·exact ⟨_,cap,h1⟩
     subst hv5
     have hx5:Ext w w5':=Ext.app HF4.ext hg5 HO4 (Nat.le_refl _)
     have hF5:DF w w2.heap.size w7.heap.size (w.heap.size+1) cs none (FE j t E (.slice eA E.length ec)) w5':=⟨⟨keptG HO4 hg5 HF4.rd.1 (by decide),HF4.rd.2⟩,keptG HO4 hg5 HF4.fb (by decide),keptG HO4 hg5 HF4.rb (by decide),hx5⟩
     have hr5:RdAt (wr.heap.size+1) C (entF X) w5':=⟨keptG HO4 hg5 hr4.1 (by decide),hr4.2⟩
     have g7:=(hF5.cell 5 (v:= .slice eA E.length ec) rfl).1
     have g7f:=(hF5.cell 5 (v:= .slice eA E.length ec) rfl).2
     refine hK2 _ _ (fun _=>g7) ?_
     clear hK2 K2
     refine wpAnyT_one (i:=6) rfl (by kernel_rfl) (fun K2 hK2=> ?_)
     go_simp
     refine hK2 _ _ (fun _=>g7) ?_
     clear hK2 K2
     refine wpAnyT_one (i:=7) rfl (by kernel_rfl) (fun K2 hK2=> ?_)
     go_simp
     refine hK2 _ _ (fun h=>absurd (show true=false from h) (by decide)) ?_
     clear hK2 K2
     refine wpAnyT_end (by kernel_rfl) ?_
     have hF6:=hF5.set HDK 5 (.slice A5 (E.length+1) c5') (F':=FE j t (E++ [Ex]) (.slice A5 (E++ [Ex]).length c5')) (by rw[List.length_append,List.length_singleton];rfl)
     have hO6:=own_setJ (p:=⟨w7.heap.size,5,none⟩) hown5 hF5.fb (by decide) (.slice A5 (E.length+1) c5')
     have hr6:RdAt (wr.heap.size+1) C (entF X) (w5'.setCell ⟨w7.heap.size,5,none⟩ (.slice A5 (E.length+1) c5')):=⟨by rw[heap_setCell_other _ _ _ _ (by show wr.heap.size+1≠w7.heap.size;omega)];exact hr5.1,hr5.2⟩
     obtain ⟨W6,hW6⟩:∃W6,w5'.setCell ⟨w7.heap.size,5,none⟩ (.slice A5 (E.length+1) c5')=W6:=⟨_,rfl⟩
     rw[hW6] at hF6 hO6 hr6⊢
     have hlC:C.length=7:=by obtain ⟨_,_,_,_,_,_,e⟩:=HXJ.out.cells;rw[e];rfl
     obtain ⟨s7,s8, -⟩:=rd_cells hr6 hlC
     obtain ⟨-, -,z0⟩:=rd_cells hF6.rd (by obtain ⟨_,_,_,_,_,_,e⟩:=HRJ.out.cells;rw[e];rfl)
     obtain ⟨y7,y8, -⟩:=rd_cells hF6.rd (by obtain ⟨_,_,_,_,_,_,e⟩:=HRJ.out.cells;rw[e];rfl)
     have z7:=z0 7
     have z8:=z0 8
     have HF6:=gd hF6
     have HO6:=gd hO6
     have HR6:=gd hr6
     have HEX:=gd hEx
     clear hW6 hF5 hF6 hO6 hr6 hr5 hr4 hr3 HF3 HF4 HO3 HO4 g5 g6 g7 g7f hown5 hg5 hat5 hnew hx5 hEx hext3 hb3 hd5 f5 hWB hxd z0
     go_wp2
     have hS0:W6.drew.cell? ⟨wr.heap.size+1,7,none⟩=some (.int .i64 (faultA (entF X):Nat))∧W6.drew.cell? ⟨wr.heap.size+1,8,none⟩=some (.int .i64 (faultE (entF X):Nat)):=⟨s7,s8⟩
     have y7d:W6.drew.cell? ⟨w2.heap.size,7,none⟩=some (.int .i64 0):=y7
     have y8d:W6.drew.cell? ⟨w2.heap.size,8,none⟩=some (.int .i64 0):=y8
     have z7d:W6.drew.frozen? ⟨w2.heap.size,7,none⟩=false:=z7
     have z8d:W6.drew.frozen? ⟨w2.heap.size,8,none⟩=false:=z8
     refine rN ?_
     change wpAny _ _ _ _ _ _ _ (World.drew _)
     refine wpAny_of_S (fun w'=>w'.cell? ⟨wr.heap.size+1,7,none⟩=some (.int .i64 (faultA (entF X):Nat))∧w'.cell? ⟨wr.heap.size+1,8,none⟩=some (.int .i64 (faultE (entF X):Nat))) ?_
     refine tG 0 (.pointer (some ⟨w2.heap.size,0,none⟩)) hS0 ?_
     refine tG 1 (.pointer (some ⟨w2.heap.size,0,none⟩)) hS0 ?_
     refine tG 2 (.pointer (some ⟨wr.heap.size+1,0,none⟩)) hS0 ?_
     refine tG 3 (.pointer (some ⟨wr.heap.size+1,0,none⟩)) hS0 ?_
     go_simp
     refine tG 4 (.pointer (some ⟨wr.heap.size+1,7,none⟩)) hS0 ?_
     refine tS 5 (.int .i64 (faultA (entF X):Nat)) rfl (fun w' hS=>by have hq:=hS.1;go_simp) hS0 ?_
     refine tG 6 (.pointer (some ⟨wr.heap.size+1,0,none⟩)) hS0 ?_
     go_simp
     refine tG 7 (.pointer (some ⟨wr.heap.size+1,0,none⟩)) hS0 ?_
     refine tG 8 (.pointer (some ⟨wr.heap.size+1,8,none⟩)) hS0 ?_
     refine tS 9 (.int .i64 (faultE (entF X):Nat)) rfl (fun w' hS=>by have hq:=hS.2;go_simp) hS0 ?_
     go_simp
     refine tG 10 (.pointer (some ⟨w2.heap.size,0,none⟩)) hS0 ?_
     refine tG 11 (.pointer (some ⟨w2.heap.size,7,none⟩)) hS0 ?_
     go_simp
     refine wpAnyS_step (i:=12) rfl (by kernel_rfl) (fun K2 hK2=> ?_)
     go_simp
     have hne:wr.heap.size+1≠w2.heap.size:=by omega
     obtain ⟨W7,hW7'⟩:∃W7,(W6.setCell ⟨w2.heap.size,7,none⟩ (.int .i64 (faultA (entF X):Nat))).drew=W7:=⟨_,rfl⟩
     rw[hW7']
     have hW7:W6.drew.setCell ⟨w2.heap.size,7,none⟩ (.int .i64 (faultA (entF X):Nat))=W7:=hW7'
     have hS1:W7.cell? ⟨wr.heap.size+1,7,none⟩=some (.int .i64 (faultA (entF X):Nat))∧W7.cell? ⟨wr.heap.size+1,8,none⟩=some (.int .i64 (faultE (entF X):Nat)):=by
      rw[←hW7]
      exact ⟨(World.cell?_of_block (a:=⟨wr.heap.size+1,7,none⟩) (heap_setCell_other _ _ _ _ hne)).trans s7,(World.cell?_of_block (a:=⟨wr.heap.size+1,8,none⟩) (heap_setCell_other _ _ _ _ hne)).trans s8⟩
     obtain ⟨m8,m8f⟩:=rd_mid (HF6.out.rd.ext (Ext.refl W6).drew) (by obtain ⟨_,_,_,_,_,_,e⟩:=HRJ.out.cells;rw[e];rfl) (.int .i64 (faultA (entF X):Nat))
     simp only[faultE] at m8
     rw[hW7] at m8 m8f
     refine hK2 _ _ hS1 ?_
     clear hK2 K2
     refine tG 13 (.pointer (some ⟨w2.heap.size,0,none⟩)) hS1 ?_
     refine tG 14 (.pointer (some ⟨w2.heap.size,8,none⟩)) hS1 ?_
     go_simp
     refine wpAnyS_step (i:=15) rfl (by kernel_rfl) (fun K2 hK2=> ?_)
     go_simp
     obtain ⟨W8,hW8⟩:∃W8,W7.setCell ⟨w2.heap.size,8,none⟩ (.int .i64 (faultE (entF X):Nat))=W8:=⟨_,rfl⟩
     rw[hW8]
     have hS2:W8.cell? ⟨wr.heap.size+1,7,none⟩=some (.int .i64 (faultA (entF X):Nat))∧W8.cell? ⟨wr.heap.size+1,8,none⟩=some (.int .i64 (faultE (entF X):Nat)):=by
      rw[←hW8]
      exact ⟨(World.cell?_of_block (a:=⟨wr.heap.size+1,7,none⟩) (heap_setCell_other _ _ _ _ hne)).trans hS1.1,(World.cell?_of_block (a:=⟨wr.heap.size+1,8,none⟩) (heap_setCell_other _ _ _ _ hne)).trans hS1.2⟩
     refine hK2 _ _ hS2 ?_
     clear hK2 K2
     refine sE ?_
     have HF8:Hid (DF w w2.heap.size w7.heap.size (w.heap.size+1) cs (entF X) (FE j t (E++ [Ex]) (.slice A5 (E++ [Ex]).length c5')) W8):=by
      have hd:=HF6.out.next (Ext.refl W6).drew
      have hrd:=rd_set hd.rd (by obtain ⟨_,_,_,_,_,_,e⟩:=HRJ.out.cells;rw[e];rfl) HR6.out.2
      rw[hW7,hW8] at hrd
      refine ⟨hrd,?_,?_,?_⟩
      ·rw[←hW8,←hW7,heap_setCell_other _ _ _ _ HDK.bf.symm,heap_setCell_other _ _ _ _ HDK.bf.symm];exact hd.fb
      ·rw[←hW8,←hW7,heap_setCell_other _ _ _ _ HDK.br.symm,heap_setCell_other _ _ _ _ HDK.br.symm];exact hd.rb
      ·rw[←hW8,←hW7]
       exact (hd.ext.setCell (p:=⟨w2.heap.size,7,none⟩) HDK.kb _).setCell (p:=⟨w2.heap.size,8,none⟩) HDK.kb _
     have HO8:Hid (OEnts W8 w.heap.size (.slice A5 (E++ [Ex]).length c5') (E++ [Ex])):=by
      have hd:=HF6.out.next (Ext.refl W6).drew
      have h0:=own_ext HO6.out (Ext.refl W6).drew
      have h1:=own_setJ (p:=⟨w2.heap.size,7,none⟩) h0 hd.rd.1 (by decide) (.int .i64 (faultA (entF X):Nat))
      rw[hW7] at h1
      have hh:=heap_setCell_same W6.drew w2.heap.size 7 _ _ (.int .i64 (faultA (entF X):Nat)) hd.rd.1
      rw[hW7] at hh
      have h2:=own_setJ (p:=⟨w2.heap.size,8,none⟩) h1 hh (by decide) (.int .i64 (faultE (entF X):Nat))
      rw[hW8] at h2
      show OEnts W8 _ _ _
      rw[List.length_append,List.length_singleton]
      exact OEnts.snoc h2
     have HER8:Hid (∀(i:Nat) (e:Ent) (x:JO),(E++ [Ex])[i]? =some e→(itemsJ y)[i]? =some x→EntR x e):=fun i e x he hx=>by
      by_cases hi:i<E.length
      ·rw[List.getElem?_append_left hi] at he
       exact HER.out i e x he hx
      ·have hil:i=k:=by
        have:=(List.getElem?_eq_some_iff.1 he).1
        have hE:=hEl.out
        simp at this
        omega
       subst hil
       rw[List.getElem?_append_right (by rw[hEl.out];exact Nat.le_refl _),hEl.out,Nat.sub_self] at he
       rw[List.getElem?_eq_getElem hlt,HXX.out] at hx
       simp at he hx
       subst he hx
       exact HEX.out
     have HO9:Hid (entF X=orF (headWJ j) (firstFs ((itemsJ y).take (k+1)))):=by
      show _=_
      rw[firstFs_take hlt,←orF_assoc,←hO.out,HXX.out]
      rfl
     clear hW7 hW7' hW8 hS0 hS1 hS2 s7 s8 y7 y8 y7d y8d z7 z8 z7d z8d m8 m8f
     go_wp2
     go_roundw
     case rel=>exact ⟨k+1,E++ [Ex],A5,c5',entF X,hlt,by go_num,(by have:=hEl.out;rw[List.length_append,this];rfl),HF8,HO8,HER8,HO9⟩
     case measure=>simp[intOf];omega
    |some f=>
     have HFX:=HF.out.next ((Ext.refl wr).alloc (.cells #[.int .i64 (K4:Nat),.bool Bb4,.int .i64 Nn4,.string Ss4,.slice A4 p4 c4',.slice B4 q4' d4,.int .i64 (At4:Nat)] 25))
     have hl7:cs.length=7:=by obtain ⟨_,_,_,_,_,_,e⟩:=HRJ.out.cells;rw[e];rfl
     have hfne:f.2≠0:=HFX.rd.2 f rfl
     obtain ⟨r7,r8, -⟩:=rd_cells HFX.rd hl7
     have hfi:(((f.2:Nat):Int) !=0)=true:=by rw[bne_iff_ne];omega
     have hfi2:¬((f.2:Nat):Int)=0:=by omega
     have HFY:=gd HFX
     have hres:R= .error f:=by rw[←HRR.out];exact HERR.out f (by rw[HL.out];exact firstFs_some (k:=k) hO.out.symm)
     subst hres
     obtain ⟨fa,fe⟩:=f
     simp only[faultA,faultE] at r7 r8
     clear HFX hl7
     go_wp2
     have hxd:=(Ext.refl (wr.alloc (.cells #[.int .i64 (K4:Nat),.bool Bb4,.int .i64 Nn4,.string Ss4,.slice A4 p4 c4',.slice B4 q4' d4,.int .i64 (At4:Nat)] 25))).drew
     have hS0:(wr.alloc (.cells #[.int .i64 (K4:Nat),.bool Bb4,.int .i64 Nn4,.string Ss4,.slice A4 p4 c4',.slice B4 q4' d4,.int .i64 (At4:Nat)] 25)).drew.cell? ⟨w2.heap.size,7,none⟩=some (.int .i64 (fa:Nat))∧(wr.alloc (.cells #[.int .i64 (K4:Nat),.bool Bb4,.int .i64 Nn4,.string Ss4,.slice A4 p4 c4',.slice B4 q4' d4,.int .i64 (At4:Nat)] 25)).drew.cell? ⟨w2.heap.size,8,none⟩=some (.int .i64 (fe:Nat)):=⟨r7,r8⟩
     have hkd:=hxd.heap HFY.out.rb
     refine rN ?_
     change wpAny _ _ _ _ _ _ _ (World.drew _)
     refine wpAny_of_S (fun w'=>w'.cell? ⟨w2.heap.size,7,none⟩=some (.int .i64 (fa:Nat))∧w'.cell? ⟨w2.heap.size,8,none⟩=some (.int .i64 (fe:Nat))) ?_
     refine tS 0 (.agg (cellsC zeroC).toArray) rfl (fun w' hS=>by go_simp;rfl) hS0 ?_
     refine tG 1 (.pointer (some ⟨w2.heap.size,0,none⟩)) hS0 ?_
     refine tG 2 (.pointer (some ⟨w2.heap.size,0,none⟩)) hS0 ?_
     refine tG 3 (.pointer (some ⟨w2.heap.size,7,none⟩)) hS0 ?_
     go_simp
     refine tS 4 (.int .i64 (fa:Nat)) rfl (fun w' hS=>by have hq:=hS.1;go_simp) hS0 ?_
     refine tG 5 (.pointer (some ⟨w2.heap.size,0,none⟩)) hS0 ?_
     refine tG 6 (.pointer (some ⟨w2.heap.size,0,none⟩)) hS0 ?_
     go_simp
     refine tG 7 (.pointer (some ⟨w2.heap.size,8,none⟩)) hS0 ?_
     refine tS 8 (.int .i64 (fe:Nat)) rfl (fun w' hS=>by have hq:=hS.2;go_simp) hS0 ?_
     go_simp
     refine wpAnyS_step (i:=9) rfl (by kernel_rfl) (fun K2 hK2=> ?_)
     refine step_store_row rfl 32 (.tmp 2) (.tmp 113) rfl (w.heap.size+1) (cellsC zeroC).toArray rfl rfl _ _ hkd size_fd rfl oneF ?_
     have hlt2:w.heap.size+1<w2.heap.size:=by have q1:=HS1.out;have q2:=hx2.size;omega
     have hS1:=And.intro ((World.cell?_of_block (a:=⟨w2.heap.size,7,none⟩) (setRow_other (wr.alloc (.cells #[.int .i64 (K4:Nat),.bool Bb4,.int .i64 Nn4,.string Ss4,.slice A4 p4 c4',.slice B4 q4' d4,.int .i64 (At4:Nat)] 25)).drew (w.heap.size+1) w2.heap.size (cellsC zeroC).toArray (Nat.ne_of_gt hlt2))).trans hS0.1) ((World.cell?_of_block (a:=⟨w2.heap.size,8,none⟩) (setRow_other (wr.alloc (.cells #[.int .i64 (K4:Nat),.bool Bb4,.int .i64 Nn4,.string Ss4,.slice A4 p4 c4',.slice B4 q4' d4,.int .i64 (At4:Nat)] 25)).drew (w.heap.size+1) w2.heap.size (cellsC zeroC).toArray (Nat.ne_of_gt hlt2))).trans hS0.2)
     refine hK2 _ _ hS1 ?_
     clear hK2 K2
     refine wpAnyS_step (i:=10) rfl (by kernel_rfl) (fun K2 hK2=> ?_)
     go_simp
     refine hK2 _ _ hS1 ?_
     clear hK2 K2
     refine wpAnyS_step (i:=11) rfl (by kernel_rfl) (fun K2 hK2=> ?_)
     go_simp
     refine hK2 _ _ hS1 ?_
     clear hK2 K2
     refine sE ?_
     go_wp2
     ((try simp only[Exit.inBlock,Exit.then]);refine bodyPost_ret (results_cell_row3 rfl _ _ _ _ _ _ _ rfl (setRow_heap _ _ _ _ _ _ hkd) Tryz.underlying32 rfl size_fd) rfl ?_)
     exact ⟨rfl,(HFY.out.ext.trans hxd).setRow (Nat.le_succ _) _⟩
   ·have hke:k=(itemsJ y).length:=by omega
    have hki:¬(k:Int)<((itemsJ y).length:Int):=by omega
    cases O with
    |none=>
     have hl7:cs.length=7:=by obtain ⟨_,_,_,_,_,_,e⟩:=HRJ.out.cells;rw[e];rfl
     obtain ⟨r7,r8, -⟩:=rd_cells HF.out.rd hl7
     simp only[faultA,faultE] at r7 r8
     have hEl2:=hEl.out
     have hok:=HOK.out t E (by rw[HL.out,hO.out,List.take_of_length_le (by omega)]) HT.out (by rw[HL.out];omega) (by rw[HL.out];exact HER.out)
     have hfk:=HFK.out _ hok
     have hres:R= .ok ⟨[],idW j,firstJ j [nTitle],firstJ j [nHome],t,E⟩:=by rw[←HRR.out];exact hok
     subst hres
     have hrc:RdC wr (FE j t E (.slice eA E.length ec)):=⟨RSl.nil wr 1,OEnts.reads HO.out⟩
     have HNF:=gd (normFeed_any (FE j t E (.slice eA E.length ec)) wr (HEN.out.ext HF.out.ext) hfk hrc)
     have e0:=(HF.out.cell 0 (v:= .slice none 0 0) rfl).1
     have e1:=(HF.out.cell 1 (v:= .string (idW j)) rfl).1
     have e2:=(HF.out.cell 2 (v:= .string (firstJ j [nTitle])) rfl).1
     have e3:=(HF.out.cell 3 (v:= .string (firstJ j [nHome])) rfl).1
     have e4:=(HF.out.cell 4 (v:= .int .i64 t) rfl).1
     have e5:=(HF.out.cell 5 (v:= .slice eA E.length ec) rfl).1
     have hlf:w7.heap.size<wr.heap.size:=(Array.getElem?_eq_some_iff.1 HF.out.fb).1
     have hlr:w.heap.size+1<wr.heap.size:=(Array.getElem?_eq_some_iff.1 HF.out.rb).1
     have HFR:=HDK.fr
     clear hok hfk hrc hl7 hEl2
     go_wp2_with (first|(refine wpList_store_row rfl 32 (.tmp 2) (.tmp 127) rfl (w.heap.size+1) #[.slice A9 m9 c9,.string yf.id,.string yf.title,.string yf.link,.int .i64 yf.upd,.slice B9 o9 d9] rfl rfl _ _ hrbN size_fd rfl oneF ?_)|(refine wpList_store_row rfl 32 (.tmp 8) (.tmp 125) rfl w7.heap.size #[.slice A9 m9 c9,.string yf.id,.string yf.title,.string yf.link,.int .i64 yf.upd,.slice B9 o9 d9] rfl rfl _ _ hfbN size_fd rfl oneF ?_;(have n0:=cell_of_row _ _ 0 _ _ _ (setRow_heap w17 w7.heap.size _ #[.slice A9 m9 c9,.string yf.id,.string yf.title,.string yf.link,.int .i64 yf.upd,.slice B9 o9 d9] _ _ hfbN));(have n1:=cell_of_row _ _ 1 _ _ _ (setRow_heap w17 w7.heap.size _ #[.slice A9 m9 c9,.string yf.id,.string yf.title,.string yf.link,.int .i64 yf.upd,.slice B9 o9 d9] _ _ hfbN));(have n2:=cell_of_row _ _ 2 _ _ _ (setRow_heap w17 w7.heap.size _ #[.slice A9 m9 c9,.string yf.id,.string yf.title,.string yf.link,.int .i64 yf.upd,.slice B9 o9 d9] _ _ hfbN));(have n3:=cell_of_row _ _ 3 _ _ _ (setRow_heap w17 w7.heap.size _ #[.slice A9 m9 c9,.string yf.id,.string yf.title,.string yf.link,.int .i64 yf.upd,.slice B9 o9 d9] _ _ hfbN));(have n4:=cell_of_row _ _ 4 _ _ _ (setRow_heap w17 w7.heap.size _ #[.slice A9 m9 c9,.string yf.id,.string yf.title,.string yf.link,.int .i64 yf.upd,.slice B9 o9 d9] _ _ hfbN));(have n5:=cell_of_row _ _ 5 _ _ _ (setRow_heap w17 w7.heap.size _ #[.slice A9 m9 c9,.string yf.id,.string yf.title,.string yf.link,.int .i64 yf.upd,.slice B9 o9 d9] _ _ hfbN)))|(go_at_call 36;(have hz:=HNF.out);(refine Calls.mono hz ?_);clear hz;rintro e w17 ⟨Y,rfl,hyf,hyr,hya,hx17⟩;(have hysl:=hyr.sl);(obtain ⟨yp,yes,yf⟩:=Y);(obtain ⟨⟨A9,m9,c9,h9⟩,⟨B9,o9,d9,h9'⟩⟩:=hysl);(dsimp only at h9 h9');(subst h9);(subst h9');(have HYF:=gd hyf);(have HYR:=gd hyr);(have HYA:=gd hya);clear hyf hyr hya;(unfold cellsC fCells);(dsimp only);(have hfbN:=hx17.heap HF.out.fb);(have hrbN:=(setRow_other w17 w7.heap.size (w.heap.size+1) #[.slice A9 m9 c9,.string yf.id,.string yf.title,.string yf.link,.int .i64 yf.upd,.slice B9 o9 d9] HFR.symm).trans (hx17.heap HF.out.rb))))
     ((try simp only[Exit.inBlock,Exit.then]);refine bodyPost_ret (results_cell_row3 rfl _ _ _ _ #[.slice A9 m9 c9,.string yf.id,.string yf.title,.string yf.link,.int .i64 yf.upd,.slice B9 o9 d9] _ _ rfl (setRow_heap _ _ _ _ _ _ hrbN) Tryz.underlying32 rfl size_fd) rfl ?_)
     refine ⟨⟨⟨.slice A9 m9 c9,.slice B9 o9 d9,yf⟩,rfl,HYF.out,?_,⟨⟨_,_,_,rfl⟩,⟨_,_,_,rfl⟩⟩⟩,((HF.out.ext.trans hx17).setRow HDK.kf _).setRow HDK.kr _⟩
     exact (HYR.out.grown (setRow_grown _ _ _) (HYA.out _ hlf)).grown (setRow_grown _ _ _) (HYA.out _ hlr)
    |some f=>
     have HFX:=HF.out
     have hl7:cs.length=7:=by obtain ⟨_,_,_,_,_,_,e⟩:=HRJ.out.cells;rw[e];rfl
     have hfne:f.2≠0:=HFX.rd.2 f rfl
     obtain ⟨r7,r8, -⟩:=rd_cells HFX.rd hl7
     have hfi:(((f.2:Nat):Int) !=0)=true:=by rw[bne_iff_ne];omega
     have hfi2:¬((f.2:Nat):Int)=0:=by omega
     have HFY:=gd HFX
     have hres:R= .error f:=by rw[←HRR.out];exact HERR.out f (by rw[HL.out];exact firstFs_some (k:=k) hO.out.symm)
     subst hres
     obtain ⟨fa,fe⟩:=f
     simp only[faultA,faultE] at r7 r8
     clear HFX hl7
     go_wp2
     have hxd:=(Ext.refl wr).drew
     have hS0:(wr).drew.cell? ⟨w2.heap.size,7,none⟩=some (.int .i64 (fa:Nat))∧(wr).drew.cell? ⟨w2.heap.size,8,none⟩=some (.int .i64 (fe:Nat)):=⟨r7,r8⟩
     have hkd:=hxd.heap HFY.out.rb
     refine rN ?_
     change wpAny _ _ _ _ _ _ _ (World.drew _)
     refine wpAny_of_S (fun w'=>w'.cell? ⟨w2.heap.size,7,none⟩=some (.int .i64 (fa:Nat))∧w'.cell? ⟨w2.heap.size,8,none⟩=some (.int .i64 (fe:Nat))) ?_
     refine tS 0 (.agg (cellsC zeroC).toArray) rfl (fun w' hS=>by go_simp;rfl) hS0 ?_
     refine tG 1 (.pointer (some ⟨w2.heap.size,0,none⟩)) hS0 ?_
     refine tG 2 (.pointer (some ⟨w2.heap.size,0,none⟩)) hS0 ?_
     refine tG 3 (.pointer (some ⟨w2.heap.size,7,none⟩)) hS0 ?_
     go_simp
     refine tS 4 (.int .i64 (fa:Nat)) rfl (fun w' hS=>by have hq:=hS.1;go_simp) hS0 ?_
     refine tG 5 (.pointer (some ⟨w2.heap.size,0,none⟩)) hS0 ?_
     refine tG 6 (.pointer (some ⟨w2.heap.size,0,none⟩)) hS0 ?_
     go_simp
     refine tG 7 (.pointer (some ⟨w2.heap.size,8,none⟩)) hS0 ?_
     refine tS 8 (.int .i64 (fe:Nat)) rfl (fun w' hS=>by have hq:=hS.2;go_simp) hS0 ?_
     go_simp
     refine wpAnyS_step (i:=9) rfl (by kernel_rfl) (fun K2 hK2=> ?_)
     refine step_store_row rfl 32 (.tmp 2) (.tmp 113) rfl (w.heap.size+1) (cellsC zeroC).toArray rfl rfl _ _ hkd size_fd rfl oneF ?_
     have hlt2:w.heap.size+1<w2.heap.size:=by have q1:=HS1.out;have q2:=hx2.size;omega
     have hS1:=And.intro ((World.cell?_of_block (a:=⟨w2.heap.size,7,none⟩) (setRow_other (wr).drew (w.heap.size+1) w2.heap.size (cellsC zeroC).toArray (Nat.ne_of_gt hlt2))).trans hS0.1) ((World.cell?_of_block (a:=⟨w2.heap.size,8,none⟩) (setRow_other (wr).drew (w.heap.size+1) w2.heap.size (cellsC zeroC).toArray (Nat.ne_of_gt hlt2))).trans hS0.2)
     refine hK2 _ _ hS1 ?_
     clear hK2 K2
     refine wpAnyS_step (i:=10) rfl (by kernel_rfl) (fun K2 hK2=> ?_)
     go_simp
     refine hK2 _ _ hS1 ?_
     clear hK2 K2
     refine wpAnyS_step (i:=11) rfl (by kernel_rfl) (fun K2 hK2=> ?_)
     go_simp
     refine hK2 _ _ hS1 ?_
     clear hK2 K2
     refine sE ?_
     go_wp2
     ((try simp only[Exit.inBlock,Exit.then]);refine bodyPost_ret (results_cell_row3 rfl _ _ _ _ _ _ _ rfl (setRow_heap _ _ _ _ _ _ hkd) Tryz.underlying32 rfl size_fd) rfl ?_)
     exact ⟨rfl,(HFY.out.ext.trans hxd).setRow (Nat.le_succ _) _⟩
 )
end
section
set_option linter.unusedSimpArgs false
theorem jdec_yd (N:Nat) (j:JO) (cs:List Value) (w:World) (h:RJ w j cs) (hg:jsz N j) (hN:N≤16777216) (hE:Env w) (hv:versJ j≠none) (hk:∀f,decJ j= .ok f→fokS f) (hLn:(itsW j).length≤1000000) (hB:(collapse (firstJ j [nFeedUrl])).toList.isEmpty=false) (hI:(memJ j nItems).isSome=false):
 Calls Tryz.prog 12 #[.agg cs.toArray] w fun e w'=>DecR w' (decJ j) e∧Ext w w':=by
 obtain ⟨ver,hver⟩:=Option.ne_none_iff_exists'.1 hv
 have HVS:=gd (fun w' (hx:Ext w w')=>jversion_any j cs w w' h hx)
 rw[hver] at HVS
 have HCC:=gd (fun (b:Nat) (hb:w.heap.size≤b)=>(⟨h,hg,hN,hE,hb⟩:DC w N b j cs))
 have HRJ:=gd h
 have HERR:=gd (fun f hf=>decJ_err_walk (f:=f) hv hf)
 have HOK:=gd (fun (t:Int) (E:List Ent) h1 h2 h3 h4=>decJ_ok_walk (t:=t) (E:=E) hv h1 h2 h3 h4)
 have HFK:=gd hk
 have HEN:=gd hE
 have HG:=gd hg
 obtain ⟨i0,hi0,hz0,hz1,hz2⟩:=info_parts info_ent
 obtain ⟨A,p,c,B,q,d,hc⟩:=h.cells
 obtain ⟨K,hK⟩:∃a,kindJ j=a:=⟨_,rfl⟩
 obtain ⟨Bb,hBb⟩:∃a,bJ j=a:=⟨_,rfl⟩
 obtain ⟨Nn,hNn⟩:∃a,nJ j=a:=⟨_,rfl⟩
 obtain ⟨Ss,hSs⟩:∃a,sJ j=a:=⟨_,rfl⟩
 obtain ⟨At,hAt⟩:∃a,atJ j=a:=⟨_,rfl⟩
 rw[hK,hBb,hNn,hSs,hAt] at hc
 unfold wcells at hc
 have HCS:=gd hc
 rw[hc] at HVS
 obtain ⟨W1,hW1⟩:∃W1,(w.alloc (.cells #[.int .i64 K,.bool Bb,.int .i64 Nn,.string Ss,.slice A p c,.slice B q d,.int .i64 At] 25)).alloc (.cells #[.slice none 0 0,.string ⟨#[]⟩,.string ⟨#[]⟩,.string ⟨#[]⟩,.int .i64 0,.slice none 0 0] 32)=W1:=⟨_,rfl⟩
 have hx1:Ext w W1:=by rw[←hW1];exact ((Ext.refl w).alloc _).alloc _
 have hv1:W1.heap[w.heap.size]? =some (.cells #[.int .i64 K,.bool Bb,.int .i64 Nn,.string Ss,.slice A p c,.slice B q d,.int .i64 At] 25 (0,0)):=by
  rw[←hW1];exact ((Ext.refl _).alloc _).heap (heap_alloc_new w _)
 have hr1:W1.heap[w.heap.size+1]? =some (.cells (cellsC zeroC).toArray 32 (0,0)):=by rw[←hW1];exact heap2b w _ _
 have hs1:W1.heap.size=w.heap.size+2:=by rw[←hW1,size_alloc,size_alloc]
 have c0:=cell_of_row _ _ 0 _ _ _ hv1
 have c1:=cell_of_row _ _ 1 _ _ _ hv1
 have c2:=cell_of_row _ _ 2 _ _ _ hv1
 have c3:=cell_of_row _ _ 3 _ _ _ hv1
 have c4:=cell_of_row _ _ 4 _ _ _ hv1
 have c5:=cell_of_row _ _ 5 _ _ _ hv1
 have c6:=cell_of_row _ _ 6 _ _ _ hv1
 have HX1:=gd hx1
 have HR1:=gd hr1
 have HS1:=gd hs1
 have HID:Hid (idW j=if collapse (firstJ j [nFeedUrl])=noS then firstJ j [nHome] else firstJ j [nFeedUrl]):=rfl
 have hsz:∀n,(firstJ j [n]).size≤16777216:=fun n=>by
  rw[firstJ_one]
  cases hm:memJ j n with
  |none=>exact Nat.zero_le _
  |some y=>exact Nat.le_trans (sJ_size (memJ_good hg hm)) hN
 have hszw:(idW j).size≤16777216:=by unfold idW;split<;>exact hsz _
 have HSZ:=gd hsz
 have HSW:=gd hszw
 obtain ⟨R,hR⟩:∃R,decJ j=R:=⟨_,rfl⟩
 rw[hR]
 have HRR:=gd hR
 obtain ⟨L,hL⟩:∃L,itsW j=L:=⟨_,rfl⟩
 have hHW:headWJ j=orF (orF (orF (chkJ j false [nFeedUrl,nHome,nTitle,nUpdated]) (reqF j (idW j))) (faultD (dateJ j [nUpdated]))) (itemK j):=rfl
 have hcol:=fun w'=>collapse_any (firstJ j [nFeedUrl]) w' (by have:=hsz nFeedUrl;omega)
 have hblank:(collapse (firstJ j [nFeedUrl])).toList.isEmpty=true∧Hid ((cellsC (F0 j)).toArray.setIfInBounds 1 (.string (firstJ j [nHome]))=(cellsC (FE j 0 [] (.slice none 0 0))).toArray)∨
  (collapse (firstJ j [nFeedUrl])).toList.isEmpty=false∧Hid (F0 j=FE j 0 [] (.slice none 0 0)):=by
  by_cases hb:collapse (firstJ j [nFeedUrl])=noS
  ·refine Or.inl ⟨by rw[hb];exact isEmpty_str [],?_⟩
   show _=_
   unfold FE idW
   rw[if_pos hb]
   rfl
  ·refine Or.inr ⟨ne_noS hb,?_⟩
   show _=_
   unfold F0 FE idW
   rw[if_neg hb]
 have hitem:((memJ j nItems).isSome=false∧Hid (memJ j nItems=none∧itemK j=none∧L= []))∨∃x,(memJ j nItems).isSome=true∧Hid (memJ j nItems=some x∧L=itemsJ x)∧(((((kindJ x:Nat):Int) !=4)=false∧Hid (itemK j=none))∨((((kindJ x:Nat):Int) !=4)=true∧Hid (itemK j=some (atJ x,21)))):=by
  cases hm:memJ j nItems with
  |none=>exact Or.inl ⟨rfl,rfl,by unfold itemK;rw[hm],by rw[←hL];unfold itsW;rw[hm]⟩
  |some x=>
   refine Or.inr ⟨x,rfl,⟨rfl,by rw[←hL];unfold itsW;rw[hm]⟩,?_⟩
   by_cases h4:kindJ x=4
   ·exact Or.inl ⟨by rw[h4];rfl,by show _=_;unfold itemK;rw[hm];exact if_neg (by simpa using h4)⟩
   ·exact Or.inr ⟨by rw[bne_iff_ne];omega,by show _=_;unfold itemK;rw[hm];exact if_pos h4⟩
 have HCOL:=gd hcol
 have HLN:Hid (L.length≤1000000):=by show _≤_;rw[←hL];exact hLn
 have HL:=gd hL
 have HHW:=gd hHW
 clear h hg hE hv hver hk hc hx1 hv1 hr1 hs1 hsz hszw hR hL hHW hcol hLn hK hBb hNn hSs hAt
 rw[HCS.out]
 rcases hblank with ⟨hbe,hcb⟩|⟨hbe,hcn⟩
 ·rw[hbe] at hB;cases hB
 rcases hitem with ⟨hiF,hm⟩|⟨x,hiF,hm,⟨hk4,hk⟩|⟨hk4,hk⟩⟩
 rotate_left
 ·rw[hiF] at hI;cases hI
 ·rw[hiF] at hI;cases hI
 clear hB hI
 all_goals (
  go_enter Tryz.func12,Tryz.ntmps12
  go_wp2_with (first|(go_at_call 34;(refine Calls.mono (fail_c j cs w2.heap.size _ (atJ y) 21 w _ HRJ.out HF15.rd (by decide)) ?_);rintro e w16 ⟨rfl,hr16,hb16⟩;(have HF16:=HF15.turn HDK hb16 hr16);(have i4:=cell_of_row _ _ 4 _ _ _ (hb16.heap hib (by have:=HLT.out;omega))))|(go_at_call 33;(refine Calls.mono (rget_c j cs w2.heap.size _ nItems w _ HRJ.out HF13.ext HF13.rd) ?_);rintro e w14 ⟨⟨y,cy,rfl,hry,hmy⟩,hx14⟩;(obtain ⟨A1,c1',B1,q2,d2,n1,css,hcy,hcl,hrs,hel⟩:=rj_open hry);(unfold wcells at hcy);subst hcy;(have HF14:=HF13.next hx14);(have hib:=heap_alloc_new w14 (.cells #[.int .i64 (kindJ y:Nat),.bool (bJ y),.int .i64 (nJ y),.string (sJ y),.slice A1 (itemsJ y).length c1',.slice B1 q2 d2,.int .i64 (atJ y:Nat)] 25));(have HF15:=HF14.next ((Ext.refl w14).alloc (.cells #[.int .i64 (kindJ y:Nat),.bool (bJ y),.int .i64 (nJ y),.string (sJ y),.slice A1 (itemsJ y).length c1',.slice B1 q2 d2,.int .i64 (atJ y:Nat)] 25)));(have HLT:Hid (w2.heap.size<w14.heap.size):=(Array.getElem?_eq_some_iff.1 HF14.rd.1).1);(have i0:=cell_of_row _ _ 0 _ _ _ hib);(have i4:=cell_of_row _ _ 4 _ _ _ hib);(have i6:=cell_of_row _ _ 6 _ _ _ hib))|(go_at_call 32;(refine Calls.mono (date_b HC2 HF11.ext HF11.rd [nUpdated] (by decide) _ (by first|rfl|exact (size_alloc _ _).symm|(simp;done))) ?_);rintro e w12 ⟨t,rfl,ht,hr12,hb12⟩;(have HT:=gd ht);clear ht;(have HF12:=HF11.turn HDK hb12 hr12);(have g4:=(HF12.cell 4 (v:= .int .i64 0) rfl).1);(have g4f:=(HF12.cell 4 rfl).2);(have HF13:=HF12.set HDK 4 (.int .i64 t) (F':=FE j t [] (.slice none 0 0)) rfl))|(go_at_call 31;(refine Calls.mono (required_any j cs w2.heap.size _ (idW j) w _ HRJ.out HF10.ext HF10.rd HSW.out) ?_);rintro e w11 ⟨rfl,hr11,hb11⟩;(have HF11:=HF10.turn HDK hb11 hr11))|(go_at_call 30;(refine Calls.mono (HCOL.out _) ?_);rintro e w9 ⟨rfl,hx9⟩;(have HF9:=HF8.next hx9);(have g1:=(HF9.cell 1 (v:= .string (firstJ j [nFeedUrl])) rfl).1);(have g1f:=(HF9.cell 1 rfl).2);(have g3:=(HF9.cell 3 (v:= .string (firstJ j [nHome])) rfl).1);(first|(have HF10:=HF9.set HDK 1 (.string (firstJ j [nHome])) (F':=FE j 0 [] (.slice none 0 0)) hcb.out;(have e1:=(HF10.cell 1 (v:= .string (idW j)) rfl).1))|(have HF10:DF w w2.heap.size w7.heap.size (w.heap.size+1) cs _ (FE j 0 [] (.slice none 0 0)) w9:=(by rw[←hcn.out];exact HF9);(have e1:=(HF10.cell 1 (v:= .string (idW j)) rfl).1);clear g1)))|(go_at_call 29;(refine Calls.mono (first_b HC2 hx6 hr6 [nHome] (by decide) _ (by first|rfl|exact (size_alloc _ _).symm|(simp;done))) ?_);rintro e w7 ⟨rfl,hx7⟩;(have HFB:=heap_alloc_new w7 (.cells #[.slice none 0 0,.string (firstJ j [nFeedUrl]),.string (firstJ j [nTitle]),.string (firstJ j [nHome]),.int .i64 0,.slice none 0 0] 32));(have hxa:=hx7.alloc (.cells #[.slice none 0 0,.string (firstJ j [nFeedUrl]),.string (firstJ j [nTitle]),.string (firstJ j [nHome]),.int .i64 0,.slice none 0 0] 32));(have hb67:w2.heap.size<w7.heap.size:=Nat.lt_of_lt_of_le (Array.getElem?_eq_some_iff.1 hr6.1).1 hx7.size);(have HDK:DK w w2.heap.size w7.heap.size (w.heap.size+1):=(by have q1:=HS1.out;have q2:=hx2.size;exact ⟨by omega,by omega,by omega,by omega,by omega,by omega⟩));(have HF8:DF w w2.heap.size w7.heap.size (w.heap.size+1) cs _ (F0 j) _:=⟨hr6.ext hxa,HFB,hxa.heap hrb6,hx6.trans hxa⟩);(have g0:=(HF8.cell 1 (v:= .string (firstJ j [nFeedUrl])) rfl).1))|(go_at_call 29;(refine Calls.mono (first_b HC2 hx5 hr5 [nTitle] (by decide) _ (by first|rfl|exact (size_alloc _ _).symm|(simp;done))) ?_);rintro e w6 ⟨rfl,hx56⟩;(have hx6:=hx5.trans hx56);(have hr6:=hr5.ext hx56);(have hrb6:=hx56.heap hrb5))|(go_at_call 29;(refine Calls.mono (first_b HC2 hx4 hr4 [nFeedUrl] (by decide) _ (by first|rfl|exact (size_alloc _ _).symm|(simp;done))) ?_);rintro e w5 ⟨rfl,hx45⟩;(have hx5:=hx4.trans hx45);(have hr5:=hr4.ext hx45);(have hrb5:=hx45.heap hrb4))|(go_at_call 28;(refine Calls.mono (check_b HC2 hx3 hr3 [nFeedUrl,nHome,nTitle,nUpdated] (by decide) _ (by first|rfl|exact (size_alloc _ _).symm|(simp;done))) ?_);rintro e w4 ⟨rfl,hr4,hb4⟩;(have hx4:=Bar.ext hx3 hb4 HC2.hb);(have hrb4:=hb4.heap hrb3 (by have q1:=HS1.out;have q2:=hx2.size;omega)))|(go_at_call 14;(have hz:=HVS.out W1 HX1.out);(refine Calls.mono hz ?_);clear hz;rintro e w2 ⟨rfl,hx2⟩;(have q0:=Ext.cell hx2 c0);(have q1:=Ext.cell hx2 c1);(have q2:=Ext.cell hx2 c2);(have q3:=Ext.cell hx2 c3);(have q4:=Ext.cell hx2 c4);(have q5:=Ext.cell hx2 c5);(have q6:=Ext.cell hx2 c6);(have HC2:=HCC.out w2.heap.size (Nat.le_trans HX1.out.size hx2.size));(have hxa3:=(Ext.refl w2).alloc (.cells #[.int .i64 K,.bool Bb,.int .i64 Nn,.string Ss,.slice A p c,.slice B q d,.int .i64 At,.int .i64 0,.int .i64 0] 67));(have hx3:=(HX1.out.trans hx2).trans hxa3);(have hrb3:=(hx2.trans hxa3).heap HR1.out);(have hr3:RdAt w2.heap.size cs none (w2.alloc (.cells #[.int .i64 K,.bool Bb,.int .i64 Nn,.string Ss,.slice A p c,.slice B q d,.int .i64 At,.int .i64 0,.int .i64 0] 67)):=⟨(by rw[HCS.out];exact heap_alloc_new w2 _),fun e he=>(by cases he)⟩))))
 focus
  have hy0:kindJ y=0:=hmy.elim (fun e=>by rw[hm.out.1] at e;cases e) fun e=>e.2
  have hLy:itemsJ y=L:=by rw[itemsJ_no (by omega),hm.out.2.2]
  subst hLy
  have HFQ:=HF15.fault (o':=headWJ j) (by rw[HHW.out,hm.out.2.1,orF_none];rfl)
  have HGY:Hid (itemsJ y≠ []→jsz N y):=fun h=>absurd hm.out.2.2 h
  clear HF15 hmy
 all_goals (
  have hLn2:(itemsJ y).length≤1000000:=HLN.out
  have HRS:=gd hrs
  have HEL:=gd hel
  have HCL:=gd hcl
  have HFQ2:=gd HFQ
  clear hrs hel hcl HFQ i0 i4 i6 hib
  go_loopw [74] (fun i wr=>∃(k:Nat) (E:List Ent) (eA:Option Addr) (ec:Nat) (O:Option (Nat×Nat)),k≤(itemsJ y).length∧i= .int .i64 (k:Nat)∧Hid (E.length=k)∧Hid (DF w w2.heap.size w7.heap.size (w.heap.size+1) cs O (FE j t E (.slice eA E.length ec)) wr)∧Hid (OEnts wr w.heap.size (.slice eA E.length ec) E)∧Hid (∀(i:Nat) (e:Ent) (x:JO),E[i]? =some e→(itemsJ y)[i]? =some x→EntR x e)∧Hid (O=orF (headWJ j) (firstFs ((itemsJ y).take k)))) (fun i _=>(itemsJ y).length - (intOf i).toNat)
  case atStart=>exact ⟨0,[],none,0,headWJ j,Nat.zero_le _,rfl,rfl,HFQ2.out,OEnts.nil _ _,(fun i e x he _=>by simp at he),(by rw[List.take_zero];exact (orF_none _).symm)⟩
  case round=>
   obtain ⟨k,E,eA,ec,O,hk,rfl,hEl,HF,HO,HER,hO⟩:=hrel
   by_cases hlt:k<(itemsJ y).length
   ·rw[hm.out.2.2] at hlt;exact absurd hlt (Nat.not_lt_zero _)
   ·have hke:k=(itemsJ y).length:=by omega
    have hki:¬(k:Int)<((itemsJ y).length:Int):=by omega
    cases O with
    |none=>
     have hl7:cs.length=7:=by obtain ⟨_,_,_,_,_,_,e⟩:=HRJ.out.cells;rw[e];rfl
     obtain ⟨r7,r8, -⟩:=rd_cells HF.out.rd hl7
     simp only[faultA,faultE] at r7 r8
     have hEl2:=hEl.out
     have hok:=HOK.out t E (by rw[HL.out,hO.out,List.take_of_length_le (by omega)]) HT.out (by rw[HL.out];omega) (by rw[HL.out];exact HER.out)
     have hfk:=HFK.out _ hok
     have hres:R= .ok ⟨[],idW j,firstJ j [nTitle],firstJ j [nHome],t,E⟩:=by rw[←HRR.out];exact hok
     subst hres
     have hrc:RdC wr (FE j t E (.slice eA E.length ec)):=⟨RSl.nil wr 1,OEnts.reads HO.out⟩
     have HNF:=gd (normFeed_any (FE j t E (.slice eA E.length ec)) wr (HEN.out.ext HF.out.ext) hfk hrc)
     have e0:=(HF.out.cell 0 (v:= .slice none 0 0) rfl).1
     have e1:=(HF.out.cell 1 (v:= .string (idW j)) rfl).1
     have e2:=(HF.out.cell 2 (v:= .string (firstJ j [nTitle])) rfl).1
     have e3:=(HF.out.cell 3 (v:= .string (firstJ j [nHome])) rfl).1
     have e4:=(HF.out.cell 4 (v:= .int .i64 t) rfl).1
     have e5:=(HF.out.cell 5 (v:= .slice eA E.length ec) rfl).1
     have hlf:w7.heap.size<wr.heap.size:=(Array.getElem?_eq_some_iff.1 HF.out.fb).1
     have hlr:w.heap.size+1<wr.heap.size:=(Array.getElem?_eq_some_iff.1 HF.out.rb).1
     have HFR:=HDK.fr
     clear hok hfk hrc hl7 hEl2
     go_wp2_with (first|(refine wpList_store_row rfl 32 (.tmp 2) (.tmp 127) rfl (w.heap.size+1) #[.slice A9 m9 c9,.string yf.id,.string yf.title,.string yf.link,.int .i64 yf.upd,.slice B9 o9 d9] rfl rfl _ _ hrbN size_fd rfl oneF ?_)|(refine wpList_store_row rfl 32 (.tmp 8) (.tmp 125) rfl w7.heap.size #[.slice A9 m9 c9,.string yf.id,.string yf.title,.string yf.link,.int .i64 yf.upd,.slice B9 o9 d9] rfl rfl _ _ hfbN size_fd rfl oneF ?_;(have n0:=cell_of_row _ _ 0 _ _ _ (setRow_heap w17 w7.heap.size _ #[.slice A9 m9 c9,.string yf.id,.string yf.title,.string yf.link,.int .i64 yf.upd,.slice B9 o9 d9] _ _ hfbN));(have n1:=cell_of_row _ _ 1 _ _ _ (setRow_heap w17 w7.heap.size _ #[.slice A9 m9 c9,.string yf.id,.string yf.title,.string yf.link,.int .i64 yf.upd,.slice B9 o9 d9] _ _ hfbN));(have n2:=cell_of_row _ _ 2 _ _ _ (setRow_heap w17 w7.heap.size _ #[.slice A9 m9 c9,.string yf.id,.string yf.title,.string yf.link,.int .i64 yf.upd,.slice B9 o9 d9] _ _ hfbN));(have n3:=cell_of_row _ _ 3 _ _ _ (setRow_heap w17 w7.heap.size _ #[.slice A9 m9 c9,.string yf.id,.string yf.title,.string yf.link,.int .i64 yf.upd,.slice B9 o9 d9] _ _ hfbN));(have n4:=cell_of_row _ _ 4 _ _ _ (setRow_heap w17 w7.heap.size _ #[.slice A9 m9 c9,.string yf.id,.string yf.title,.string yf.link,.int .i64 yf.upd,.slice B9 o9 d9] _ _ hfbN));(have n5:=cell_of_row _ _ 5 _ _ _ (setRow_heap w17 w7.heap.size _ #[.slice A9 m9 c9,.string yf.id,.string yf.title,.string yf.link,.int .i64 yf.upd,.slice B9 o9 d9] _ _ hfbN)))|(go_at_call 36;(have hz:=HNF.out);(refine Calls.mono hz ?_);clear hz;rintro e w17 ⟨Y,rfl,hyf,hyr,hya,hx17⟩;(have hysl:=hyr.sl);(obtain ⟨yp,yes,yf⟩:=Y);(obtain ⟨⟨A9,m9,c9,h9⟩,⟨B9,o9,d9,h9'⟩⟩:=hysl);(dsimp only at h9 h9');(subst h9);(subst h9');(have HYF:=gd hyf);(have HYR:=gd hyr);(have HYA:=gd hya);clear hyf hyr hya;(unfold cellsC fCells);(dsimp only);(have hfbN:=hx17.heap HF.out.fb);(have hrbN:=(setRow_other w17 w7.heap.size (w.heap.size+1) #[.slice A9 m9 c9,.string yf.id,.string yf.title,.string yf.link,.int .i64 yf.upd,.slice B9 o9 d9] HFR.symm).trans (hx17.heap HF.out.rb))))
     ((try simp only[Exit.inBlock,Exit.then]);refine bodyPost_ret (results_cell_row3 rfl _ _ _ _ #[.slice A9 m9 c9,.string yf.id,.string yf.title,.string yf.link,.int .i64 yf.upd,.slice B9 o9 d9] _ _ rfl (setRow_heap _ _ _ _ _ _ hrbN) Tryz.underlying32 rfl size_fd) rfl ?_)
     refine ⟨⟨⟨.slice A9 m9 c9,.slice B9 o9 d9,yf⟩,rfl,HYF.out,?_,⟨⟨_,_,_,rfl⟩,⟨_,_,_,rfl⟩⟩⟩,((HF.out.ext.trans hx17).setRow HDK.kf _).setRow HDK.kr _⟩
     exact (HYR.out.grown (setRow_grown _ _ _) (HYA.out _ hlf)).grown (setRow_grown _ _ _) (HYA.out _ hlr)
    |some f=>
     have HFX:=HF.out
     have hl7:cs.length=7:=by obtain ⟨_,_,_,_,_,_,e⟩:=HRJ.out.cells;rw[e];rfl
     have hfne:f.2≠0:=HFX.rd.2 f rfl
     obtain ⟨r7,r8, -⟩:=rd_cells HFX.rd hl7
     have hfi:(((f.2:Nat):Int) !=0)=true:=by rw[bne_iff_ne];omega
     have hfi2:¬((f.2:Nat):Int)=0:=by omega
     have HFY:=gd HFX
     have hres:R= .error f:=by rw[←HRR.out];exact HERR.out f (by rw[HL.out];exact firstFs_some (k:=k) hO.out.symm)
     subst hres
     obtain ⟨fa,fe⟩:=f
     simp only[faultA,faultE] at r7 r8
     clear HFX hl7
     go_wp2
     have hxd:=(Ext.refl wr).drew
     have hS0:(wr).drew.cell? ⟨w2.heap.size,7,none⟩=some (.int .i64 (fa:Nat))∧(wr).drew.cell? ⟨w2.heap.size,8,none⟩=some (.int .i64 (fe:Nat)):=⟨r7,r8⟩
     have hkd:=hxd.heap HFY.out.rb
     refine rN ?_
     change wpAny _ _ _ _ _ _ _ (World.drew _)
     refine wpAny_of_S (fun w'=>w'.cell? ⟨w2.heap.size,7,none⟩=some (.int .i64 (fa:Nat))∧w'.cell? ⟨w2.heap.size,8,none⟩=some (.int .i64 (fe:Nat))) ?_
     refine tS 0 (.agg (cellsC zeroC).toArray) rfl (fun w' hS=>by go_simp;rfl) hS0 ?_
     refine tG 1 (.pointer (some ⟨w2.heap.size,0,none⟩)) hS0 ?_
     refine tG 2 (.pointer (some ⟨w2.heap.size,0,none⟩)) hS0 ?_
     refine tG 3 (.pointer (some ⟨w2.heap.size,7,none⟩)) hS0 ?_
     go_simp
     refine tS 4 (.int .i64 (fa:Nat)) rfl (fun w' hS=>by have hq:=hS.1;go_simp) hS0 ?_
     refine tG 5 (.pointer (some ⟨w2.heap.size,0,none⟩)) hS0 ?_
     refine tG 6 (.pointer (some ⟨w2.heap.size,0,none⟩)) hS0 ?_
     go_simp
     refine tG 7 (.pointer (some ⟨w2.heap.size,8,none⟩)) hS0 ?_
     refine tS 8 (.int .i64 (fe:Nat)) rfl (fun w' hS=>by have hq:=hS.2;go_simp) hS0 ?_
     go_simp
     refine wpAnyS_step (i:=9) rfl (by kernel_rfl) (fun K2 hK2=> ?_)
     refine step_store_row rfl 32 (.tmp 2) (.tmp 113) rfl (w.heap.size+1) (cellsC zeroC).toArray rfl rfl _ _ hkd size_fd rfl oneF ?_
     have hlt2:w.heap.size+1<w2.heap.size:=by have q1:=HS1.out;have q2:=hx2.size;omega
     have hS1:=And.intro ((World.cell?_of_block (a:=⟨w2.heap.size,7,none⟩) (setRow_other (wr).drew (w.heap.size+1) w2.heap.size (cellsC zeroC).toArray (Nat.ne_of_gt hlt2))).trans hS0.1) ((World.cell?_of_block (a:=⟨w2.heap.size,8,none⟩) (setRow_other (wr).drew (w.heap.size+1) w2.heap.size (cellsC zeroC).toArray (Nat.ne_of_gt hlt2))).trans hS0.2)
     refine hK2 _ _ hS1 ?_
     clear hK2 K2
     refine wpAnyS_step (i:=10) rfl (by kernel_rfl) (fun K2 hK2=> ?_)
     go_simp
     refine hK2 _ _ hS1 ?_
     clear hK2 K2
     refine wpAnyS_step (i:=11) rfl (by kernel_rfl) (fun K2 hK2=> ?_)
     go_simp
     refine hK2 _ _ hS1 ?_
     clear hK2 K2
     refine sE ?_
     go_wp2
     ((try simp only[Exit.inBlock,Exit.then]);refine bodyPost_ret (results_cell_row3 rfl _ _ _ _ _ _ _ rfl (setRow_heap _ _ _ _ _ _ hkd) Tryz.underlying32 rfl size_fd) rfl ?_)
     exact ⟨rfl,(HFY.out.ext.trans hxd).setRow (Nat.le_succ _) _⟩
 )
end
end Go.Proofs.YthlnaldahkgjnaaGreatDoor
