/- Parts of the proof: contracts and plain laws. -/
import Derived.Test.YthlnaldahkgjnaaGreatDoorY13
namespace Go.Proofs.YthlnaldahkgjnaaGreatDoor
open Go Go.RowKit
set_option linter.unusedVariables false
set_option linter.unusedSimpArgs false
set_option maxRecDepth 100000
set_option maxHeartbeats 16000000
theorem first_any (j:JO) (cs:List Value) (b sb:Nat) (o:Option (Nat×Nat)) (names:List ByteArray) (w0 w:World) (h:RJ w0 j cs) (hx0:Ext w0 w) (hr:RdAt b cs o w)
 (hs:w.heap[sb]? =some (.cells (names.map Value.string).toArray 9 (0,0))) (hn:names.length≤1000):
 Calls Tryz.prog 29 #[.pointer (some ⟨b,0,none⟩),.slice (some ⟨sb,0,none⟩) names.length names.length] w fun e w'=>e= .returned (.string (firstJ j names))∧Ext w w':=by
 have HGET:=gd (fun w' name o' (hx:Ext w0 w') (hr':RdAt b cs o' w')=>rget_c j cs b o' name w0 w' h hx hr')
 go_enter Tryz.func29,Tryz.ntmps29
 go_wp2
 go_loopw [11] (fun i wr=>∃k:Nat,k≤names.length∧i= .int .i64 k∧Hid (firstJ j names=firstJ j (names.drop k))∧Ext w wr) (fun i _=>names.length - (intOf i).toNat)
 case atStart=>exact ⟨0,Nat.zero_le _,rfl,rfl,Ext.refl _⟩
 case round=>
  obtain ⟨k,hk,rfl,hf,hx⟩:=hrel
  have hsw:=hx.heap hs
  by_cases hlt:k<names.length
  ·have hcell:=names_cell hsw hlt
   have hstep:firstJ j names=match memJ j names[k] with|some x=>sJ x|none=>firstJ j (names.drop (k+1)):=by
    rw[hf.out,List.drop_eq_getElem_cons hlt];rfl
   obtain ⟨NM,hNM⟩:∃n,names[k]=n:=⟨_,rfl⟩
   rw[hNM] at hcell hstep
   have hget:=HGET.out wr NM o (hx0.trans hx) (hr.ext hx)
   clear hf hNM
   cases hm:memJ j NM with
   |none=>
    rw[hm] at hget hstep
    have HST:=gd hstep
    have HG:=gd hget
    clear hget hstep
    go_wp2_with (go_at_call 33;(have hz:=HG.out);(with_reducible refine Calls.mono hz ?_);clear hz;rintro e w1 ⟨⟨x,cx,rfl,hrx,hmx⟩,hx1⟩;(obtain ⟨A1,p1,q1,B1,p2,q2,hc⟩:=hrx.cells);(generalize kindJ _=K,bJ _=Bb,nJ _=Nn,sJ _=Ss,atJ _=At at hc);unfold wcells at hc;subst hc)
    go_roundw
    case rel=>exact ⟨k+1,hlt,rfl,HST,hx.trans (hx1.alloc _)⟩
    case measure=>simp[intOf];omega
   |some x=>
    rw[hm] at hget hstep
    have HST:=gd hstep
    have HG:=gd hget
    clear hget hstep
    go_wp2_with (go_at_call 33;(have hz:=HG.out);(with_reducible refine Calls.mono hz ?_);clear hz;rintro e w1 ⟨⟨y,cx,rfl,hrx,hmx⟩,hx1⟩;(obtain rfl:x=y:=by rcases hmx with hmx|hmx;(injection hmx);(cases hmx.1));(obtain ⟨A1,p1,q1,B1,p2,q2,hc⟩:=hrx.cells);(unfold wcells at hc);(generalize kindJ x=K,bJ x=Bb,nJ x=Nn,atJ x=At at hc);(generalize hS:sJ x=Ss at hc);subst hc)
    go_ret
    exact ⟨by rw[HST.out,hS];rfl,hx.trans (hx1.alloc _)⟩
  ·have hke:names.drop k= []:=List.drop_of_length_le (by omega)
   rw[hke] at hf
   have HST:=gd hf.out
   clear hf
   go_wp2
   go_ret
   exact ⟨by rw[HST.out];rfl,hx⟩
theorem required_any (j:JO) (cs:List Value) (b:Nat) (o:Option (Nat×Nat)) (s:ByteArray) (w0 w:World) (h:RJ w0 j cs) (hx0:Ext w0 w) (hr:RdAt b cs o w) (hs:s.size≤16777216):
 Calls Tryz.prog 31 #[.pointer (some ⟨b,0,none⟩),.string s] w fun e w'=>e= .returned (.tuple #[])∧RdAt b cs (orF o (if collapse s=noS then some (atJ j,19) else none)) w'∧Bar b w w':=by
 have HFAIL:=gd (fun w' at_ e o' (hr':RdAt b cs o' w') (he:e≠0)=>fail_c j cs b o' at_ e w0 w' h hr' he)
 have HCO:=gd (collapse_any s w (by omega))
 obtain ⟨A,p,c,B,q,d,hc⟩:=h.cells
 obtain ⟨C,hC⟩:∃C,collapse s=C:=⟨_,rfl⟩
 rw[hC] at HCO⊢
 have hk:=hr.1
 rw[hc] at hk
 have hk':∀w',Ext w w'→w'.cell? ⟨b,6,none⟩=some (.int .i64 (atJ j:Nat)):=fun w' hx=>cell_of_row _ _ 6 _ _ _ (hx.heap hk)
 clear hC hs
 by_cases hn:C=noS
 ·rw[if_pos hn]
  have hbe:C.toList.isEmpty=true:=by rw[hn];exact isEmpty_str []
  clear hn
  go_enter Tryz.func31,Tryz.ntmps31
  go_wp2_with (first|(go_at_call 30;(have hz:=HCO.out);(with_reducible refine Calls.mono hz ?_);clear hz;rintro e w1 ⟨rfl,hx1⟩;(have hq6:=hk' w1 hx1))|(go_at_call 34;(with_reducible refine Calls.mono (HFAIL.out w1 (atJ j) 19 o (hr.ext hx1) (by decide)) ?_);rintro e w3 ⟨rfl,hr3,hb3⟩))
  all_goals ((try simp only[Exit.inBlock,Exit.then]);refine bodyPost_end (results_none rfl _ _ _) rfl ?_)
  all_goals exact ⟨rfl,hr3,(Bar.of hx1).trans hb3⟩
 ·rw[if_neg hn,orF_none]
  have hbe:C.toList.isEmpty=false:=by
   rw[toList_data]
   cases hl:C.data.toList with
   |nil=>exact absurd (bytes_inj hl) hn
   |cons a t=>rfl
  go_enter Tryz.func31,Tryz.ntmps31
  go_wp2_with (go_at_call 30;(have hz:=HCO.out);(with_reducible refine Calls.mono hz ?_);clear hz;rintro e w1 ⟨rfl,hx1⟩)
  all_goals ((try simp only[Exit.inBlock,Exit.then]);refine bodyPost_end (results_none rfl _ _ _) rfl ?_)
  all_goals exact ⟨rfl,hr.ext hx1,Bar.of hx1⟩
def faultD (x:Except (Nat×Nat) Int):Option (Nat×Nat):=match x with
 | .ok _=>none
 | .error e=>some e
theorem dateJ_step (j:JO) (n:ByteArray) (t:List ByteArray):dateJ j (n::t)=match memJ j n with
 |none=>dateJ j t
 |some x=>match timeP (collapse (sJ x)).data.toList with
  |some t=> .ok t
  |none=> .error (atJ x,20):=rfl
theorem date_any (N:Nat) (j:JO) (cs:List Value) (b sb:Nat) (o:Option (Nat×Nat)) (names:List ByteArray) (w0 w:World) (h:RJ w0 j cs) (hg:jsz N j) (hN:N≤16777216) (hx0:Ext w0 w) (hr:RdAt b cs o w)
 (hs:w.heap[sb]? =some (.cells (names.map Value.string).toArray 9 (0,0))) (hsb:sb≠b) (hn:names.length≤1000):
 Calls Tryz.prog 32 #[.pointer (some ⟨b,0,none⟩),.slice (some ⟨sb,0,none⟩) names.length names.length] w fun e w'=>(∃t:Int,e= .returned (.int .i64 t)∧∀v,dateJ j names= .ok v→t=v)∧RdAt b cs (orF o (faultD (dateJ j names))) w'∧Bar b w w':=by
 have HGET:=gd (fun w' name o' (hx:Ext w0 w') (hr':RdAt b cs o' w')=>rget_c j cs b o' name w0 w' h hx hr')
 have HFAIL:=gd (fun w' at_ e o' (hr':RdAt b cs o' w') (he:e≠0)=>fail_c j cs b o' at_ e w0 w' h hr' he)
 go_enter Tryz.func32,Tryz.ntmps32
 go_wp2
 go_loopw [13] (fun i wr=>∃k:Nat,k≤names.length∧i= .int .i64 k∧Hid (dateJ j names=dateJ j (names.drop k))∧Ext w wr) (fun i _=>names.length - (intOf i).toNat)
 case atStart=>exact ⟨0,Nat.zero_le _,rfl,rfl,Ext.refl _⟩
 case round=>
  obtain ⟨k,hk,rfl,hf,hx⟩:=hrel
  have hsw:=hx.heap hs
  by_cases hlt:k<names.length
  ·have hcell:=names_cell hsw hlt
   have hstep:dateJ j names=match memJ j names[k] with
    |none=>dateJ j (names.drop (k+1))
    |some x=>match timeP (collapse (sJ x)).data.toList with
     |some t=> .ok t
     |none=> .error (atJ x,20):=by
    rw[hf.out,List.drop_eq_getElem_cons hlt,dateJ_step]
   obtain ⟨NM,hNM⟩:∃n,names[k]=n:=⟨_,rfl⟩
   rw[hNM] at hcell hstep
   have hget:=HGET.out wr NM o (hx0.trans hx) (hr.ext hx)
   clear hf hNM
   cases hm:memJ j NM with
   |none=>
    rw[hm] at hget hstep
    have HST:=gd hstep
    have HG:=gd hget
    clear hget hstep
    go_wp2_with (go_at_call 33;(have hz:=HG.out);(with_reducible refine Calls.mono hz ?_);clear hz;rintro e w1 ⟨⟨x,cx,rfl,hrx,hmx⟩,hx1⟩;(obtain ⟨A1,p1,q1,B1,p2,q2,hc⟩:=hrx.cells);(generalize kindJ _=K,bJ _=Bb,nJ _=Nn,sJ _=Ss,atJ _=At at hc);unfold wcells at hc;subst hc)
    go_roundw
    case rel=>exact ⟨k+1,hlt,rfl,HST,hx.trans (hx1.alloc _)⟩
    case measure=>simp[intOf];omega
   |some x=>
    rw[hm] at hget hstep
    simp only at hstep
    have hgx:=memJ_good hg hm
    have hsz:=sJ_size hgx
    have hcz:=collapse_size (sJ x)
    have hco:=fun w'=>collapse_any (sJ x) w' (by omega)
    have hti:=fun w'=>time_any (collapse (sJ x)) w' (by omega)
    generalize collapse (sJ x)=C at hco hti hstep hcz
    have HG:=gd hget
    have HCO:=gd hco
    have hblt:b<wr.heap.size:=(Array.getElem?_eq_some_iff.1 (hr.ext hx).1).1
    clear hget hco hsz hcz hgx
    cases ht:timeP C.data.toList with
    |some t=>
     rw[ht] at hstep
     have HTI:Hid (∀w':World,Calls Tryz.prog 71 #[.string C] w' fun e w''=>e= .returned (.tuple #[.int .i64 t,.int .i64 0])∧Ext w' w''):=gd fun w'=>(hti w').mono fun e w'' ⟨h1,h2⟩=>⟨by unfold TimeR at h1;rw[ht] at h1;exact h1,h2⟩
     have HST:=gd hstep
     clear hstep hti
     go_wp2_with (first|(go_at_call 33;(have hz:=HG.out);(with_reducible refine Calls.mono hz ?_);clear hz;rintro e w1 ⟨⟨y,cx,rfl,hrx,hmx⟩,hx1⟩;(obtain rfl:x=y:=by rcases hmx with hmx|hmx;(injection hmx);(cases hmx.1));(obtain ⟨A1,p1,q1,B1,p2,q2,hc⟩:=hrx.cells);(unfold wcells at hc);(generalize kindJ x=K,bJ x=Bb,nJ x=Nn,sJ x=Ss,atJ x=At at*);subst hc)|(go_at_call 30;(with_reducible refine Calls.mono (HCO.out _) ?_);rintro e w2 ⟨rfl,hx2⟩)|(go_at_call 71;(with_reducible refine Calls.mono (HTI.out _) ?_);rintro e w3 ⟨rfl,hx3⟩))
     go_ret
     have hxx:=hx.trans (((hx1.alloc _).trans hx2).trans hx3)
     exact ⟨⟨t,rfl,fun v hv=>by rw[HST.out] at hv;injection hv⟩,by rw[HST.out];exact (by rw[show faultD (Except.ok t)=none from rfl,orF_none];exact hr.ext hxx),Bar.of hxx⟩
    |none=>
     rw[ht] at hstep
     have HTI:Hid (∀w':World,Calls Tryz.prog 71 #[.string C] w' fun e w''=>∃x:Int,x≠0∧e= .returned (.tuple #[.int .i64 0,.int .i64 x])∧Ext w' w''):=gd fun w'=>(hti w').mono fun e w'' ⟨h1,h2⟩=>by unfold TimeR at h1;rw[ht] at h1;obtain ⟨x,hx,rfl⟩:=h1;exact ⟨x,hx,rfl,h2⟩
     have HST:=gd hstep
     clear hstep hti
     go_wp2_with (first|(go_at_call 33;(have hz:=HG.out);(with_reducible refine Calls.mono hz ?_);clear hz;rintro e w1 ⟨⟨y,cx,rfl,hrx,hmx⟩,hx1⟩;(obtain rfl:x=y:=by rcases hmx with hmx|hmx;(injection hmx);(cases hmx.1));(obtain ⟨A1,p1,q1,B1,p2,q2,hc⟩:=hrx.cells);(unfold wcells at hc);(generalize kindJ x=K,bJ x=Bb,nJ x=Nn,sJ x=Ss at hc HCO);(generalize hAt:atJ x=At at hc);subst hc)|(go_at_call 30;(with_reducible refine Calls.mono (HCO.out _) ?_);rintro e w2 ⟨rfl,hx2⟩)|(go_at_call 71;(with_reducible refine Calls.mono (HTI.out _) ?_);rintro e w3 ⟨er,her,rfl,hx3⟩;(have hq6:=(hx2.trans hx3).boxed 6 _ rfl))|(go_at_call 34;(with_reducible refine Calls.mono (HFAIL.out w3 At 20 o (hr.ext (hx.trans (((hx1.alloc _).trans hx2).trans hx3))) (by decide)) ?_);rintro e w4 ⟨rfl,hr4,hb4⟩))
     go_ret
     have hxx:=hx.trans (((hx1.alloc _).trans hx2).trans hx3)
     exact ⟨⟨0,rfl,fun v hv=>by rw[HST.out] at hv;cases hv⟩,by rw[HST.out,hAt];exact hr4,(Bar.of hxx).trans hb4⟩
  ·have hke:names.drop k= []:=List.drop_of_length_le (by omega)
   rw[hke] at hf
   have HST:=gd hf.out
   clear hf
   go_wp2
   go_ret
   exact ⟨⟨_,rfl,fun v hv=>by rw[HST.out] at hv;injection hv⟩,by rw[HST.out];exact (by rw[show faultD (dateJ j [])=none from rfl,orF_none];exact hr.ext hx),Bar.of hx⟩
def verS (s:ByteArray):Option ByteArray:=if s=str (base1++ [49]) then some v1 else if s=str (base1++ [49,46,49]) then some v11 else none
theorem versJ_get (j:JO):versJ j=match getJ j nVersion with
 |some x=>verS (sJ x)
 |none=>none:=rfl
theorem verS_no {s:ByteArray} (h:Lib.hasPrefix s.data.toList base1=false):verS s=none:=by
 unfold verS
 rw[if_neg,if_neg]
 ·rintro rfl
  rw[str_list] at h
  revert h
  decide
 ·rintro rfl
  rw[str_list] at h
  revert h
  decide
theorem verS_yes {s:ByteArray} {t:List UInt8} (h:Lib.hasPrefix s.data.toList base1=true) (ht:Lib.trimPrefix s.data.toList base1=t):verS s=if t= [49] then some v1 else if t= [49,46,49] then some v11 else none:=by
 have hs:s.data.toList=base1++t:=by
  subst ht
  unfold Lib.trimPrefix
  rw[h]
  unfold Lib.hasPrefix at h
  obtain ⟨r,hr⟩:=List.isPrefixOf_iff_prefix.1 h
  rw[←hr]
  simp
 have e:∀u:List UInt8,s=str (base1++u)↔t=u:=by
  intro u
  constructor
  ·intro h'
   rw[h',str_list] at hs
   exact (List.append_cancel_left hs).symm
  ·rintro rfl
   exact bytes_inj (by rw[hs,str_list])
 unfold verS
 simp only[e]
theorem cut_any (s p:ByteArray) (w:World):Calls Tryz.prog 45 #[.string s,.string p] w fun e w'=>e= .returned (.tuple #[.string (str (Lib.trimPrefix s.data.toList p.data.toList)),.bool (Lib.hasPrefix s.data.toList p.data.toList)])∧w'=w:=Tryz.strings_CutPrefix s p w
def baseS:ByteArray:=⟨#[104,116,116,112,115,58,47,47,106,115,111,110,102,101,101,100,46,111,114,103,47,118,101,114,115,105,111,110,47]⟩
theorem jversion_any (j:JO) (cs:List Value) (w0 w:World) (h:RJ w0 j cs) (hx0:Ext w0 w):
 Calls Tryz.prog 14 #[.agg cs.toArray] w fun e w'=>e= .returned (.tuple #[.string ((versJ j).getD noS),.bool (versJ j).isSome])∧Ext w w':=by
 have HG:=gd (fun w' (hx:Ext w w')=>jget_any j cs nVersion w0 w' h (hx0.trans hx))
 have hv:∃S:ByteArray,(∀e,GotJ w0 (getJ j nVersion) e→∃k bb n A1 p1 q1 B1 p2 q2 a F,e= .returned (.tuple #[.agg #[.int .i64 k,.bool bb,.int .i64 n,.string S,.slice A1 p1 q1,.slice B1 p2 q2,.int .i64 a],.bool F]))∧versJ j=verS S:=by
  cases hj:getJ j nVersion with
  |none=>
   refine ⟨noS,?_,by rw[versJ_get,hj];rw[verS_no (by decide)]⟩
   rintro e ⟨cv,rfl,hr⟩
   obtain ⟨A1,p1,q1,B1,p2,q2,hc⟩:=hr.cells
   subst hc
   exact ⟨_,_,_,_,_,_,_,_,_,_,_,rfl⟩
  |some x=>
   refine ⟨sJ x,?_,by rw[versJ_get,hj]⟩
   rintro e ⟨cv,rfl,hr⟩
   obtain ⟨A1,p1,q1,B1,p2,q2,hc⟩:=hr.cells
   subst hc
   exact ⟨_,_,_,_,_,_,_,_,_,_,_,rfl⟩
 obtain ⟨S,hS,hver⟩:=hv
 have HS:=gd hS
 have hcut:=fun w'=>cut_any S baseS w'
 obtain ⟨A,p,c,B,q,d,hc⟩:=h.cells
 subst hc
 unfold wcells at*
 rw[hver]
 cases hf:Lib.hasPrefix S.data.toList baseS.data.toList with
 |false=>
  rw[hf] at hcut
  rw[verS_no hf]
  generalize str (Lib.trimPrefix S.data.toList baseS.data.toList)=T at hcut
  have HC:=gd hcut
  clear hcut hf hver h hS
  unfold nVersion at HG HS
  unfold baseS at HC
  go_enter Tryz.func14,Tryz.ntmps14
  go_wp2_with (first|(go_at_call 44;(with_reducible refine Calls.mono (HG.out _ ((Ext.refl w).alloc _)) ?_);rintro e w1 ⟨hg,hx1⟩;(obtain ⟨k,bb,n,A1,p1,q1,B1,p2,q2,a,F,rfl⟩:=HS.out e hg))|(go_at_call 45;(with_reducible refine Calls.mono (HC.out _) ?_);rintro e w2 ⟨rfl,rfl⟩))
  go_ret2
  exact ⟨rfl,((Ext.refl w).alloc _).trans (hx1.alloc _)⟩
 |true=>
  rw[hf] at hcut
  obtain ⟨t,ht⟩:∃t,Lib.trimPrefix S.data.toList baseS.data.toList=t:=⟨_,rfl⟩
  rw[ht] at hcut
  rw[verS_yes hf ht]
  obtain ⟨T,hT⟩:∃T,str t=T:=⟨_,rfl⟩
  have hl:T.toList=t:=by rw[←hT,toList_data,str_list]
  rw[hT] at hcut
  have HC:=gd hcut
  clear hcut hf hver h hS ht
  by_cases h1:t= [49]
  ·rw[if_pos h1]
   have e1:T.toList= [49]:=hl.trans h1
   have hv1:=gd (show T=v1 by rw[←hT,h1];rfl)
   clear hl h1 hT
   unfold nVersion at HG HS
   unfold baseS at HC
   go_enter Tryz.func14,Tryz.ntmps14
   go_wp2_with (first|(go_at_call 44;(with_reducible refine Calls.mono (HG.out _ ((Ext.refl w).alloc _)) ?_);rintro e w1 ⟨hg,hx1⟩;(obtain ⟨k,bb,n,A1,p1,q1,B1,p2,q2,a,F,rfl⟩:=HS.out e hg))|(go_at_call 45;(with_reducible refine Calls.mono (HC.out _) ?_);rintro e w2 ⟨rfl,rfl⟩))
   go_ret2
   exact ⟨by rw[hv1.out];rfl,((Ext.refl w).alloc _).trans (hx1.alloc _)⟩
  by_cases h2:t= [49,46,49]
  ·rw[if_neg h1,if_pos h2]
   have e1:T.toList= [49,46,49]:=hl.trans h2
   have hv1:=gd (show T=v11 by rw[←hT,h2];rfl)
   clear hl h1 h2 hT
   unfold nVersion at HG HS
   unfold baseS at HC
   go_enter Tryz.func14,Tryz.ntmps14
   go_wp2_with (first|(go_at_call 44;(with_reducible refine Calls.mono (HG.out _ ((Ext.refl w).alloc _)) ?_);rintro e w1 ⟨hg,hx1⟩;(obtain ⟨k,bb,n,A1,p1,q1,B1,p2,q2,a,F,rfl⟩:=HS.out e hg))|(go_at_call 45;(with_reducible refine Calls.mono (HC.out _) ?_);rintro e w2 ⟨rfl,rfl⟩))
   go_ret2
   exact ⟨by rw[hv1.out];rfl,((Ext.refl w).alloc _).trans (hx1.alloc _)⟩
  ·rw[if_neg h1,if_neg h2]
   have e1:(T.toList== [49])=false:=by rw[hl];simpa using h1
   have e2:(T.toList== [49,46,49])=false:=by rw[hl];simpa using h2
   clear hl h1 h2 hT
   unfold nVersion at HG HS
   unfold baseS at HC
   go_enter Tryz.func14,Tryz.ntmps14
   go_wp2_with (first|(go_at_call 44;(with_reducible refine Calls.mono (HG.out _ ((Ext.refl w).alloc _)) ?_);rintro e w1 ⟨hg,hx1⟩;(obtain ⟨k,bb,n,A1,p1,q1,B1,p2,q2,a,F,rfl⟩:=HS.out e hg))|(go_at_call 45;(with_reducible refine Calls.mono (HC.out _) ?_);rintro e w2 ⟨rfl,rfl⟩))
   all_goals go_ret2
   all_goals exact ⟨rfl,((Ext.refl w).alloc _).trans (hx1.alloc _)⟩
section
theorem Bar.trans' {b g i:Nat} {u v:World} (h:Bar b u v) (hg:u.heap.size≤g) (a:Value):Bar b u (v.setCell ⟨g,i,none⟩ a):=
 ⟨h.os,h.tape,h.output,by have:=h.size;simpa [World.setCell] using this,fun k hk hn=>by rw[Below.heap_setCell _ _ _ _ (fun e=>by have e':k=g:=e;omega)];exact h.block k hk hn⟩
structure EF (w0 w:World) (b eb rb:Nat) (x:JO) (cs:List Value) (o:Option (Nat×Nat)) (E:Ent) (W:World):Prop where
 rd:RdAt b cs o W
 eb:W.heap[eb]? =some (.cells (eCells E).toArray 64 (0,0))
 rb:W.heap[rb]? =some (.cells (eCells zeroE).toArray 64 (0,0))
 ext:Ext w0 W
 bar:Bar b w W
def reqF (x:JO) (s:ByteArray):Option (Nat×Nat):=if collapse s=noS then some (atJ x,19) else none
structure EC (w0 w:World) (N b eb rb:Nat) (x:JO) (cs:List Value):Prop where
 h:RJ w0 x cs
 hg:jsz N x
 hN:N≤16777216
 hE:Env w0
 hb0:w0.heap.size≤b
 h0w:w0.heap.size≤w.heap.size
 hbw:b<w.heap.size
 hew:w.heap.size≤eb
 hrw:w.heap.size≤rb
 hre:rb≠eb
section
variable {w0 w:World} {N b eb rb:Nat} {x:JO} {cs:List Value} {o:Option (Nat×Nat)} {E:Ent} {W:World}
theorem EF.next (H:EF w0 w b eb rb x cs o E W) {W':World} (hx:Ext W W'):EF w0 w b eb rb x cs o E W':=
 ⟨H.rd.ext hx,hx.heap H.eb,hx.heap H.rb,H.ext.trans hx,H.bar.trans (Bar.of hx)⟩
theorem EF.turn (C:EC w0 w N b eb rb x cs) (H:EF w0 w b eb rb x cs o E W) {W':World} {o':Option (Nat×Nat)} (hb:Bar b W W') (hr:RdAt b cs o' W'):EF w0 w b eb rb x cs o' E W':=
 ⟨hr,hb.heap H.eb (Nat.ne_of_gt (Nat.lt_of_lt_of_le C.hbw C.hew)),hb.heap H.rb (Nat.ne_of_gt (Nat.lt_of_lt_of_le C.hbw C.hrw)),Bar.ext H.ext hb C.hb0,H.bar.trans hb⟩
theorem EF.set (C:EC w0 w N b eb rb x cs) (H:EF w0 w b eb rb x cs o E W) (i:Nat) (v:Value) {E':Ent} (he:(eCells E).toArray.setIfInBounds i v=(eCells E').toArray):EF w0 w b eb rb x cs o E' (W.setCell ⟨eb,i,none⟩ v):=by
 have hbe:b≠eb:=Nat.ne_of_lt (Nat.lt_of_lt_of_le C.hbw C.hew)
 refine ⟨⟨?_,H.rd.2⟩,?_,?_,H.ext.setCell (p:=⟨eb,i,none⟩) (Nat.le_trans C.h0w C.hew) v,H.bar.trans' C.hew v⟩
 ·rw[heap_setCell_other _ _ _ _ hbe];exact H.rd.1
 ·rw[heap_setCell_same _ _ _ _ _ _ H.eb,he]
 ·rw[heap_setCell_other _ _ _ _ C.hre];exact H.rb
theorem EF.cell (H:EF w0 w b eb rb x cs o E W) (i:Nat) {v:Value} (h:(eCells E).toArray[i]? =some v):W.cell? ⟨eb,i,none⟩=some v∧W.frozen? ⟨eb,i,none⟩=false:=
 ⟨by rw[Lib.cell_of_heap H.eb];exact h,Lib.frozen_of_heap H.eb i⟩
theorem EF.lt (H:EF w0 w b eb rb x cs o E W):b<W.heap.size:=(Array.getElem?_eq_some_iff.1 H.rd.1).1
theorem get_new (C:EC w0 w N b eb rb x cs) (H:EF w0 w b eb rb x cs o E W) (name:ByteArray):
 Calls Tryz.prog 33 #[.pointer (some ⟨b,0,none⟩),.string name] W fun e w'=>GotM w0 (memJ x name) e∧Ext W w'∧EF w0 w b eb rb x cs o E w':=
 (rget_c x cs b o name w0 W C.h H.ext H.rd).mono fun _ _ ⟨h1,h2⟩=>⟨h1,h2,H.next h2⟩
theorem check_new (C:EC w0 w N b eb rb x cs) (H:EF w0 w b eb rb x cs o E W) (names:List ByteArray) (hn:names.length≤1000) (sb:Nat) (hsb:sb=W.heap.size):
 Calls Tryz.prog 28 #[.pointer (some ⟨b,0,none⟩),.slice (some ⟨sb,0,none⟩) names.length names.length] (W.alloc (.cells (names.map Value.string).toArray 9)) fun e w'=>e= .returned (.tuple #[])∧EF w0 w b eb rb x cs (orF o (chkJ x false names)) E w':=by
 subst hsb
 have H1:=H.next ((Ext.refl W).alloc (.cells (names.map Value.string).toArray 9))
 exact (check_any N x cs b W.heap.size o names w0 _ C.h C.hg C.hN C.hE H1.ext C.hb0 H1.rd (heap_alloc_new W _) (Nat.ne_of_gt H.lt) hn).mono fun _ _ ⟨h1,h2,h3⟩=>⟨h1,H1.turn C h3 h2⟩
theorem first_new (C:EC w0 w N b eb rb x cs) (H:EF w0 w b eb rb x cs o E W) (names:List ByteArray) (hn:names.length≤1000) (sb:Nat) (hsb:sb=W.heap.size):
 Calls Tryz.prog 29 #[.pointer (some ⟨b,0,none⟩),.slice (some ⟨sb,0,none⟩) names.length names.length] (W.alloc (.cells (names.map Value.string).toArray 9)) fun e w'=>e= .returned (.string (firstJ x names))∧EF w0 w b eb rb x cs o E w':=by
 subst hsb
 have H1:=H.next ((Ext.refl W).alloc (.cells (names.map Value.string).toArray 9))
 exact (first_any x cs b W.heap.size o names w0 _ C.h H1.ext H1.rd (heap_alloc_new W _) hn).mono fun _ _ ⟨h1,h2⟩=>⟨h1,H1.next h2⟩
theorem date_new (C:EC w0 w N b eb rb x cs) (H:EF w0 w b eb rb x cs o E W) (names:List ByteArray) (hn:names.length≤1000) (sb:Nat) (hsb:sb=W.heap.size):
 Calls Tryz.prog 32 #[.pointer (some ⟨b,0,none⟩),.slice (some ⟨sb,0,none⟩) names.length names.length] (W.alloc (.cells (names.map Value.string).toArray 9)) fun e w'=>∃t:Int,e= .returned (.int .i64 t)∧(∀v,dateJ x names= .ok v→t=v)∧EF w0 w b eb rb x cs (orF o (faultD (dateJ x names))) E w':=by
 subst hsb
 have H1:=H.next ((Ext.refl W).alloc (.cells (names.map Value.string).toArray 9))
 exact (date_any N x cs b W.heap.size o names w0 _ C.h C.hg C.hN H1.ext H1.rd (heap_alloc_new W _) (Nat.ne_of_gt H.lt) hn).mono fun _ _ ⟨⟨t,h1,h2⟩,h3,h4⟩=>⟨t,h1,h2,H1.turn C h4 h3⟩
theorem required_new (C:EC w0 w N b eb rb x cs) (H:EF w0 w b eb rb x cs o E W) (s:ByteArray) (hs:s.size≤16777216):
 Calls Tryz.prog 31 #[.pointer (some ⟨b,0,none⟩),.string s] W fun e w'=>e= .returned (.tuple #[])∧EF w0 w b eb rb x cs (orF o (reqF x s)) E w':=
 (required_any x cs b o s w0 W C.h H.ext H.rd hs).mono fun _ _ ⟨h1,h2,h3⟩=>⟨h1,H.turn C h3 h2⟩
end
end
def idS (x:JO):ByteArray:=match memJ x nId with
 |some (.int _ n)=>itoaS n
 |_=>firstJ x [nId]
def idF (x:JO):Option (Nat×Nat):=match memJ x nId with
 |some (.int _ _)=>none
 |_=>chkJ x false [nId]
def entF (x:JO):Option (Nat×Nat):=orF (if kindJ x≠5 then some (atJ x,21) else none) (orF (idF x) (orF (chkJ x false [nTitle,nUrl,nText,nHtml,nMod,nPub]) (orF (reqF x (idS x)) (faultD (dateJ x [nMod,nPub])))))
def EntR (x:JO) (E:Ent):Prop:=E.id=idS x∧E.title=firstJ x [nTitle]∧E.link=firstJ x [nUrl]∧E.content=firstJ x [nText,nHtml]∧∀t,dateJ x [nMod,nPub]= .ok t→E.upd=t
theorem firstJ_one (x:JO) (n:ByteArray):firstJ x [n]=match memJ x n with
 |some y=>sJ y
 |none=>noS:=rfl
theorem start0 {w0 w:World} {N b:Nat} {x:JO} {cs:List Value} {o:Option (Nat×Nat)} (h:RJ w0 x cs) (hg:jsz N x) (hN:N≤16777216) (hE:Env w0) (hx0:Ext w0 w) (hb0:w0.heap.size≤b) (hr:RdAt b cs o w):
 EC w0 w N b (w.heap.size+1) w.heap.size x cs∧EF w0 w b (w.heap.size+1) w.heap.size x cs o zeroE ((w.alloc (.cells (eCells zeroE).toArray 64)).alloc (.cells (eCells zeroE).toArray 64)):=by
 have hblt:b<w.heap.size:=(Array.getElem?_eq_some_iff.1 hr.1).1
 have hx:Ext w ((w.alloc (.cells (eCells zeroE).toArray 64)).alloc (.cells (eCells zeroE).toArray 64)):=((Ext.refl w).alloc _).alloc _
 exact ⟨⟨h,hg,hN,hE,hb0,hx0.size,hblt,by omega,Nat.le_refl _,by omega⟩,⟨hr.ext hx,heap2b w _ _,((Ext.refl _).alloc _).heap (heap_alloc_new w _),hx0.trans hx,Bar.of hx⟩⟩
theorem start1 {w0 w wa:World} {N b:Nat} {x:JO} {cs:List Value} {o:Option (Nat×Nat)} (h:RJ w0 x cs) (hg:jsz N x) (hN:N≤16777216) (hE:Env w0) (hx0:Ext w0 w) (hb0:w0.heap.size≤b) (hbw:b<w.heap.size) (hr:RdAt b cs o wa) (hba:Bar b (w.alloc (.cells (eCells zeroE).toArray 64)) wa):
 EC w0 w N b wa.heap.size w.heap.size x cs∧EF w0 w b wa.heap.size w.heap.size x cs o zeroE (wa.alloc (.cells (eCells zeroE).toArray 64)):=by
 have hs:w.heap.size+1≤wa.heap.size:=by have:=hba.size;rwa [size_alloc] at this
 have hb1:Bar b w wa:=(Bar.of ((Ext.refl w).alloc _)).trans hba
 have hx:Ext wa (wa.alloc (.cells (eCells zeroE).toArray 64)):=(Ext.refl wa).alloc _
 exact ⟨⟨h,hg,hN,hE,hb0,hx0.size,hbw,by omega,Nat.le_refl _,by omega⟩,⟨hr.ext hx,heap_alloc_new wa _,hx.heap (hba.heap (heap_alloc_new w _) (Nat.ne_of_gt hbw)),(Bar.ext hx0 hb1 hb0).trans hx,hb1.trans (Bar.of hx)⟩⟩
theorem entry_none (N:Nat) (x:JO) (cs:List Value) (b:Nat) (o:Option (Nat×Nat)) (w0 w:World) (h:RJ w0 x cs) (hg:jsz N x) (hN:N≤16777216) (hE:Env w0) (hx0:Ext w0 w) (hb0:w0.heap.size≤b) (hr:RdAt b cs o w) (h5:kindJ x=5) (hm:memJ x nId=none):
 Calls Tryz.prog 35 #[.pointer (some ⟨b,0,none⟩)] w fun e w'=>∃E:Ent,e= .returned (.agg (eCells E).toArray)∧EntR x E∧RdAt b cs (orF o (entF x)) w'∧Bar b w w':=by
 obtain ⟨C,H0⟩:=start0 h hg hN hE hx0 hb0 hr
 have hid:idS x=firstJ x [nId]:=by unfold idS;rw[hm]
 have hif:idF x=chkJ x false [nId]:=by unfold idF;rw[hm]
 have hids:(firstJ x [nId]).size≤16777216:=by rw[firstJ_one,hm];exact Nat.zero_le _
 have c0:(w.alloc (.cells #[.string ⟨#[]⟩,.string ⟨#[]⟩,.string ⟨#[]⟩,.string ⟨#[]⟩,.int .i64 0] 64)).cell? ⟨b,0,none⟩=some (.int .i64 5):=by
  obtain ⟨A,p,c,B,q,d,hc⟩:=h.cells
  have hk:=hr.1
  rw[hc] at hk
  rw[Ext.cell ((Ext.refl w).alloc _) (cell_of_row _ _ 0 _ _ _ hk:w.cell? ⟨b,0,none⟩=some (.int .i64 (kindJ x:Nat))),h5]
  rfl
 have hfin:entF x=orF (chkJ x false [nId]) (orF (chkJ x false [nTitle,nUrl,nText,nHtml,nMod,nPub]) (orF (reqF x (firstJ x [nId])) (faultD (dateJ x [nMod,nPub])))):=by
  unfold entF
  rw[if_neg (by omega),hid,hif]
  rfl
 rw[hfin]
 have HID:=gd hid
 clear hfin hif hid h5
 go_enter Tryz.func35,Tryz.ntmps35
 go_wp2_with (first|(refine wpList_store_row rfl 64 (.tmp 2) (.tmp 64) rfl w.heap.size _ rfl rfl _ _ HFd.rb size_ent rfl (oneA (eCells_one ⟨firstJ x [nId],firstJ x [nTitle],firstJ x [nUrl],firstJ x [nText,nHtml],t⟩)) ?_)|(go_at_call 32;(refine Calls.mono (date_new C HFc [nMod,nPub] (by decide) _ (by first|rfl|exact (size_alloc _ _).symm|(simp;done))) ?_);rintro e w10 ⟨t,rfl,ht,HF10⟩;(have g5:=(HF10.cell 4 rfl).1);(have g5f:=(HF10.cell 4 rfl).2);(have HFd:=HF10.set C 4 (.int .i64 t) (E':=⟨firstJ x [nId],firstJ x [nTitle],firstJ x [nUrl],firstJ x [nText,nHtml],t⟩) rfl);(have r0:=(HFd.cell 0 rfl).1);(have r1:=(HFd.cell 1 rfl).1);(have r2:=(HFd.cell 2 rfl).1);(have r3:=(HFd.cell 3 rfl).1);(have r4:=(HFd.cell 4 rfl).1))|(go_at_call 29;(refine Calls.mono (first_new C HF8 [nText,nHtml] (by decide) _ (by first|rfl|exact (size_alloc _ _).symm|(simp;done))) ?_);rintro e w9 ⟨rfl,HF9⟩;(have HFa:=HF9.set C 1 (.string (firstJ x [nTitle])) (E':=⟨firstJ x [nId],firstJ x [nTitle],noS,noS,0⟩) rfl);(have HFb:=HFa.set C 2 (.string (firstJ x [nUrl])) (E':=⟨firstJ x [nId],firstJ x [nTitle],firstJ x [nUrl],noS,0⟩) rfl);(have HFc:=HFb.set C 3 (.string (firstJ x [nText,nHtml])) (E':=⟨firstJ x [nId],firstJ x [nTitle],firstJ x [nUrl],firstJ x [nText,nHtml],0⟩) rfl);(have g2:=(HF9.cell 1 rfl).1);(have g2f:=(HF9.cell 1 rfl).2);(have g3:=(HFa.cell 2 rfl).1);(have g3f:=(HFa.cell 2 rfl).2);(have g4:=(HFb.cell 3 rfl).1);(have g4f:=(HFb.cell 3 rfl).2))|(go_at_call 29;(refine Calls.mono (first_new C HF7 [nUrl] (by decide) _ (by first|rfl|exact (size_alloc _ _).symm|(simp;done))) ?_);rintro e w8 ⟨rfl,HF8⟩)|(go_at_call 29;(refine Calls.mono (first_new C HF6 [nTitle] (by decide) _ (by first|rfl|exact (size_alloc _ _).symm|(simp;done))) ?_);rintro e w7 ⟨rfl,HF7⟩)|(go_at_call 31;(refine Calls.mono (required_new C HF5 _ hids) ?_);rintro e w6 ⟨rfl,HF6⟩)|(go_at_call 28;(refine Calls.mono (check_new C HFi [nTitle,nUrl,nText,nHtml,nMod,nPub] (by decide) _ (by first|rfl|exact (size_alloc _ _).symm|(simp;done))) ?_);rintro e w5 ⟨rfl,HF5⟩;(have g1:=(HF5.cell 0 rfl).1);(have g1f:=(HF5.cell 0 rfl).2))|(go_at_call 29;(refine Calls.mono (first_new C HF3 [nId] (by decide) _ (by first|rfl|exact (size_alloc _ _).symm|(simp;done))) ?_);rintro e w4 ⟨rfl,HF4⟩;(have g0:=(HF4.cell 0 rfl).1);(have g0f:=(HF4.cell 0 rfl).2);(have HFi:=HF4.set C 0 (.string (firstJ x [nId])) (E':=⟨firstJ x [nId],noS,noS,noS,0⟩) rfl))|(go_at_call 28;(refine Calls.mono (check_new C (HF2.next ((Ext.refl w2).alloc _)) [nId] (by decide) _ (by first|rfl|exact (size_alloc _ _).symm|(simp;done))) ?_);rintro e w3 ⟨rfl,HF3⟩)|(go_at_call 33;(refine Calls.mono (get_new C H0 nId) ?_);rintro e w2 ⟨⟨y,cy,rfl,hry,hmy⟩,hx2,HF2⟩;(rw[hm]);(obtain ⟨A1,p1,q1,B1,p2,q2,hc⟩:=hry.cells);(unfold wcells at hc);(generalize kindJ y=K,bJ y=Bb,nJ y=Nn,sJ y=Ss,atJ y=At at hc);subst hc))
 ((try simp only[Exit.inBlock,Exit.then]);refine bodyPost_ret (results_cell_row rfl _ _ _ _ _ _ _ rfl (setRow_heap _ _ _ _ _ _ HFd.rb) Tryz.underlying64 rfl size_ent) rfl ?_)
 refine ⟨⟨firstJ x [nId],firstJ x [nTitle],firstJ x [nUrl],firstJ x [nText,nHtml],t⟩,rfl,⟨HID.out.symm,rfl,rfl,rfl,ht⟩,?_,?_⟩
 ·have hrd:=HFd.rd
  simp only[orF_assoc] at hrd
  exact ⟨by rw[setRow_other _ _ _ _ (Nat.ne_of_lt (Nat.lt_of_lt_of_le C.hbw C.hrw))];exact hrd.1,hrd.2⟩
 ·exact ⟨HFd.bar.os,HFd.bar.tape,HFd.bar.output,by have:=HFd.bar.size;simpa [World.setRow] using this,fun k hk hn=>by rw[setRow_other _ _ _ _ (Nat.ne_of_lt hk)];exact HFd.bar.block k hk hn⟩
theorem entry_int (N:Nat) (x:JO) (cs:List Value) (b:Nat) (o:Option (Nat×Nat)) (w0 w:World) (h:RJ w0 x cs) (hg:jsz N x) (hN:N≤16777216) (hE:Env w0) (hx0:Ext w0 w) (hb0:w0.heap.size≤b) (hr:RdAt b cs o w) (h5:kindJ x=5) (ia:Nat) (n:Int) (hm:memJ x nId=some (.int ia n)):
 Calls Tryz.prog 35 #[.pointer (some ⟨b,0,none⟩)] w fun e w'=>∃E:Ent,e= .returned (.agg (eCells E).toArray)∧EntR x E∧RdAt b cs (orF o (entF x)) w'∧Bar b w w':=by
 obtain ⟨C,H0⟩:=start0 h hg hN hE hx0 hb0 hr
 have hid:idS x=itoaS n:=by unfold idS;rw[hm]
 have hif:idF x=none:=by unfold idF;rw[hm]
 have hn64:i64ok n:=by
  have:=memJ_good hg hm
  rw[jsz] at this
  exact this
 have hids:(itoaS n).size≤16777216:=by
  have h21:(itoaS n).size≤21:=by unfold itoaS;rw[str_size];exact Lib.itoa_length_le n hn64.1 hn64.2
  omega
 have c0:(w.alloc (.cells #[.string ⟨#[]⟩,.string ⟨#[]⟩,.string ⟨#[]⟩,.string ⟨#[]⟩,.int .i64 0] 64)).cell? ⟨b,0,none⟩=some (.int .i64 5):=by
  obtain ⟨A,p,c,B,q,d,hc⟩:=h.cells
  have hk:=hr.1
  rw[hc] at hk
  rw[Ext.cell ((Ext.refl w).alloc _) (cell_of_row _ _ 0 _ _ _ hk:w.cell? ⟨b,0,none⟩=some (.int .i64 (kindJ x:Nat))),h5]
  rfl
 have hfin:entF x=orF (chkJ x false [nTitle,nUrl,nText,nHtml,nMod,nPub]) (orF (reqF x (itoaS n)) (faultD (dateJ x [nMod,nPub]))):=by
  unfold entF
  rw[if_neg (by omega),hid,hif]
  rfl
 rw[hfin]
 have HID:=gd hid
 clear hfin hif hid h5
 go_enter Tryz.func35,Tryz.ntmps35
 go_wp2_with (first|(refine wpList_store_row rfl 64 (.tmp 2) (.tmp 64) rfl w.heap.size _ rfl rfl _ _ HFd.rb size_ent rfl (oneA (eCells_one ⟨itoaS n,firstJ x [nTitle],firstJ x [nUrl],firstJ x [nText,nHtml],t⟩)) ?_)|(go_at_call 32;(refine Calls.mono (date_new C HFc [nMod,nPub] (by decide) _ (by first|rfl|exact (size_alloc _ _).symm|(simp;done))) ?_);rintro e w10 ⟨t,rfl,ht,HF10⟩;(have g5:=(HF10.cell 4 rfl).1);(have g5f:=(HF10.cell 4 rfl).2);(have HFd:=HF10.set C 4 (.int .i64 t) (E':=⟨itoaS n,firstJ x [nTitle],firstJ x [nUrl],firstJ x [nText,nHtml],t⟩) rfl);(have r0:=(HFd.cell 0 rfl).1);(have r1:=(HFd.cell 1 rfl).1);(have r2:=(HFd.cell 2 rfl).1);(have r3:=(HFd.cell 3 rfl).1);(have r4:=(HFd.cell 4 rfl).1))|(go_at_call 29;(refine Calls.mono (first_new C HF8 [nText,nHtml] (by decide) _ (by first|rfl|exact (size_alloc _ _).symm|(simp;done))) ?_);rintro e w9 ⟨rfl,HF9⟩;(have HFa:=HF9.set C 1 (.string (firstJ x [nTitle])) (E':=⟨itoaS n,firstJ x [nTitle],noS,noS,0⟩) rfl);(have HFb:=HFa.set C 2 (.string (firstJ x [nUrl])) (E':=⟨itoaS n,firstJ x [nTitle],firstJ x [nUrl],noS,0⟩) rfl);(have HFc:=HFb.set C 3 (.string (firstJ x [nText,nHtml])) (E':=⟨itoaS n,firstJ x [nTitle],firstJ x [nUrl],firstJ x [nText,nHtml],0⟩) rfl);(have g2:=(HF9.cell 1 rfl).1);(have g2f:=(HF9.cell 1 rfl).2);(have g3:=(HFa.cell 2 rfl).1);(have g3f:=(HFa.cell 2 rfl).2);(have g4:=(HFb.cell 3 rfl).1);(have g4f:=(HFb.cell 3 rfl).2))|(go_at_call 29;(refine Calls.mono (first_new C HF7 [nUrl] (by decide) _ (by first|rfl|exact (size_alloc _ _).symm|(simp;done))) ?_);rintro e w8 ⟨rfl,HF8⟩)|(go_at_call 29;(refine Calls.mono (first_new C HF6 [nTitle] (by decide) _ (by first|rfl|exact (size_alloc _ _).symm|(simp;done))) ?_);rintro e w7 ⟨rfl,HF7⟩)|(go_at_call 31;(refine Calls.mono (required_new C HF5 _ hids) ?_);rintro e w6 ⟨rfl,HF6⟩)|(go_at_call 28;(refine Calls.mono (check_new C HFi [nTitle,nUrl,nText,nHtml,nMod,nPub] (by decide) _ (by first|rfl|exact (size_alloc _ _).symm|(simp;done))) ?_);rintro e w5 ⟨rfl,HF5⟩;(have g1:=(HF5.cell 0 rfl).1);(have g1f:=(HF5.cell 0 rfl).2))|(go_at_call 72;(refine Calls.mono (formatInt_any n _ (hE.ext (HF2.next ((Ext.refl w2).alloc _)).ext) hn64) ?_);rintro e w4 ⟨rfl,hx4⟩;(have HF4:=(HF2.next ((Ext.refl w2).alloc _)).next hx4);(have g0:=(HF4.cell 0 rfl).1);(have g0f:=(HF4.cell 0 rfl).2);(have HFi:=HF4.set C 0 (.string (itoaS n)) (E':=⟨itoaS n,noS,noS,noS,0⟩) rfl))|(go_at_call 33;(refine Calls.mono (get_new C H0 nId) ?_);rintro e w2 ⟨⟨y,cy,rfl,hry,hmy⟩,hx2,HF2⟩;(rw[hm] at hmy);(rw[hm]);(obtain rfl:JO.int ia n=y:=by rcases hmy with hmy|hmy;(injection hmy);(cases hmy.1));(obtain ⟨A1,p1,q1,B1,p2,q2,hc⟩:=hry.cells);(replace hc:cy= [.int .i64 2,.bool false,.int .i64 n,.string ⟨#[]⟩,.slice A1 p1 q1,.slice B1 p2 q2,.int .i64 (ia:Nat)]:=hc);subst hc))
 ((try simp only[Exit.inBlock,Exit.then]);refine bodyPost_ret (results_cell_row rfl _ _ _ _ _ _ _ rfl (setRow_heap _ _ _ _ _ _ HFd.rb) Tryz.underlying64 rfl size_ent) rfl ?_)
 refine ⟨⟨itoaS n,firstJ x [nTitle],firstJ x [nUrl],firstJ x [nText,nHtml],t⟩,rfl,⟨HID.out.symm,rfl,rfl,rfl,ht⟩,?_,?_⟩
 ·have hrd:=HFd.rd
  simp only[orF_assoc] at hrd
  exact ⟨by rw[setRow_other _ _ _ _ (Nat.ne_of_lt (Nat.lt_of_lt_of_le C.hbw C.hrw))];exact hrd.1,hrd.2⟩
 ·exact ⟨HFd.bar.os,HFd.bar.tape,HFd.bar.output,by have:=HFd.bar.size;simpa [World.setRow] using this,fun k hk hn=>by rw[setRow_other _ _ _ _ (Nat.ne_of_lt hk)];exact HFd.bar.block k hk hn⟩
theorem entry_oth (N:Nat) (x:JO) (cs:List Value) (b:Nat) (o:Option (Nat×Nat)) (w0 w:World) (h:RJ w0 x cs) (hg:jsz N x) (hN:N≤16777216) (hE:Env w0) (hx0:Ext w0 w) (hb0:w0.heap.size≤b) (hr:RdAt b cs o w) (h5:kindJ x=5) (z:JO) (hm:memJ x nId=some z) (hz:kindJ z≠2):
 Calls Tryz.prog 35 #[.pointer (some ⟨b,0,none⟩)] w fun e w'=>∃E:Ent,e= .returned (.agg (eCells E).toArray)∧EntR x E∧RdAt b cs (orF o (entF x)) w'∧Bar b w w':=by
 obtain ⟨C,H0⟩:=start0 h hg hN hE hx0 hb0 hr
 have hid:idS x=firstJ x [nId]:=by unfold idS;rw[hm];cases z<;>first|rfl|exact absurd rfl hz
 have hif:idF x=chkJ x false [nId]:=by unfold idF;rw[hm];cases z<;>first|rfl|exact absurd rfl hz
 have hids:(firstJ x [nId]).size≤16777216:=by rw[firstJ_one,hm];exact Nat.le_trans (sJ_size (memJ_good hg hm)) hN
 have hk2:¬((kindJ z:Nat):Int)=2:=by omega
 have c0:(w.alloc (.cells #[.string ⟨#[]⟩,.string ⟨#[]⟩,.string ⟨#[]⟩,.string ⟨#[]⟩,.int .i64 0] 64)).cell? ⟨b,0,none⟩=some (.int .i64 5):=by
  obtain ⟨A,p,c,B,q,d,hc⟩:=h.cells
  have hk:=hr.1
  rw[hc] at hk
  rw[Ext.cell ((Ext.refl w).alloc _) (cell_of_row _ _ 0 _ _ _ hk:w.cell? ⟨b,0,none⟩=some (.int .i64 (kindJ x:Nat))),h5]
  rfl
 have hfin:entF x=orF (chkJ x false [nId]) (orF (chkJ x false [nTitle,nUrl,nText,nHtml,nMod,nPub]) (orF (reqF x (firstJ x [nId])) (faultD (dateJ x [nMod,nPub])))):=by
  unfold entF
  rw[if_neg (by omega),hid,hif]
  rfl
 rw[hfin]
 have HID:=gd hid
 clear hfin hif hid h5 hz
 go_enter Tryz.func35,Tryz.ntmps35
 go_wp2_with (first|(refine wpList_store_row rfl 64 (.tmp 2) (.tmp 64) rfl w.heap.size _ rfl rfl _ _ HFd.rb size_ent rfl (oneA (eCells_one ⟨firstJ x [nId],firstJ x [nTitle],firstJ x [nUrl],firstJ x [nText,nHtml],t⟩)) ?_)|(go_at_call 32;(refine Calls.mono (date_new C HFc [nMod,nPub] (by decide) _ (by first|rfl|exact (size_alloc _ _).symm|(simp;done))) ?_);rintro e w10 ⟨t,rfl,ht,HF10⟩;(have g5:=(HF10.cell 4 rfl).1);(have g5f:=(HF10.cell 4 rfl).2);(have HFd:=HF10.set C 4 (.int .i64 t) (E':=⟨firstJ x [nId],firstJ x [nTitle],firstJ x [nUrl],firstJ x [nText,nHtml],t⟩) rfl);(have r0:=(HFd.cell 0 rfl).1);(have r1:=(HFd.cell 1 rfl).1);(have r2:=(HFd.cell 2 rfl).1);(have r3:=(HFd.cell 3 rfl).1);(have r4:=(HFd.cell 4 rfl).1))|(go_at_call 29;(refine Calls.mono (first_new C HF8 [nText,nHtml] (by decide) _ (by first|rfl|exact (size_alloc _ _).symm|(simp;done))) ?_);rintro e w9 ⟨rfl,HF9⟩;(have HFa:=HF9.set C 1 (.string (firstJ x [nTitle])) (E':=⟨firstJ x [nId],firstJ x [nTitle],noS,noS,0⟩) rfl);(have HFb:=HFa.set C 2 (.string (firstJ x [nUrl])) (E':=⟨firstJ x [nId],firstJ x [nTitle],firstJ x [nUrl],noS,0⟩) rfl);(have HFc:=HFb.set C 3 (.string (firstJ x [nText,nHtml])) (E':=⟨firstJ x [nId],firstJ x [nTitle],firstJ x [nUrl],firstJ x [nText,nHtml],0⟩) rfl);(have g2:=(HF9.cell 1 rfl).1);(have g2f:=(HF9.cell 1 rfl).2);(have g3:=(HFa.cell 2 rfl).1);(have g3f:=(HFa.cell 2 rfl).2);(have g4:=(HFb.cell 3 rfl).1);(have g4f:=(HFb.cell 3 rfl).2))|(go_at_call 29;(refine Calls.mono (first_new C HF7 [nUrl] (by decide) _ (by first|rfl|exact (size_alloc _ _).symm|(simp;done))) ?_);rintro e w8 ⟨rfl,HF8⟩)|(go_at_call 29;(refine Calls.mono (first_new C HF6 [nTitle] (by decide) _ (by first|rfl|exact (size_alloc _ _).symm|(simp;done))) ?_);rintro e w7 ⟨rfl,HF7⟩)|(go_at_call 31;(refine Calls.mono (required_new C HF5 _ hids) ?_);rintro e w6 ⟨rfl,HF6⟩)|(go_at_call 28;(refine Calls.mono (check_new C HFi [nTitle,nUrl,nText,nHtml,nMod,nPub] (by decide) _ (by first|rfl|exact (size_alloc _ _).symm|(simp;done))) ?_);rintro e w5 ⟨rfl,HF5⟩;(have g1:=(HF5.cell 0 rfl).1);(have g1f:=(HF5.cell 0 rfl).2))|(go_at_call 29;(refine Calls.mono (first_new C HF3 [nId] (by decide) _ (by first|rfl|exact (size_alloc _ _).symm|(simp;done))) ?_);rintro e w4 ⟨rfl,HF4⟩;(have g0:=(HF4.cell 0 rfl).1);(have g0f:=(HF4.cell 0 rfl).2);(have HFi:=HF4.set C 0 (.string (firstJ x [nId])) (E':=⟨firstJ x [nId],noS,noS,noS,0⟩) rfl))|(go_at_call 28;(refine Calls.mono (check_new C (HF2.next ((Ext.refl w2).alloc _)) [nId] (by decide) _ (by first|rfl|exact (size_alloc _ _).symm|(simp;done))) ?_);rintro e w3 ⟨rfl,HF3⟩)|(go_at_call 33;(refine Calls.mono (get_new C H0 nId) ?_);rintro e w2 ⟨⟨y,cy,rfl,hry,hmy⟩,hx2,HF2⟩;(rw[hm] at hmy);(rw[hm]);(obtain rfl:z=y:=by rcases hmy with hmy|hmy;(injection hmy);(cases hmy.1));(obtain ⟨A1,p1,q1,B1,p2,q2,hc⟩:=hry.cells);(unfold wcells at hc);(generalize kindJ z=K at hk2 hc);(generalize bJ z=Bb,nJ z=Nn,sJ z=Ss,atJ z=At at hc);subst hc))
 ((try simp only[Exit.inBlock,Exit.then]);refine bodyPost_ret (results_cell_row rfl _ _ _ _ _ _ _ rfl (setRow_heap _ _ _ _ _ _ HFd.rb) Tryz.underlying64 rfl size_ent) rfl ?_)
 refine ⟨⟨firstJ x [nId],firstJ x [nTitle],firstJ x [nUrl],firstJ x [nText,nHtml],t⟩,rfl,⟨HID.out.symm,rfl,rfl,rfl,ht⟩,?_,?_⟩
 ·have hrd:=HFd.rd
  simp only[orF_assoc] at hrd
  exact ⟨by rw[setRow_other _ _ _ _ (Nat.ne_of_lt (Nat.lt_of_lt_of_le C.hbw C.hrw))];exact hrd.1,hrd.2⟩
 ·exact ⟨HFd.bar.os,HFd.bar.tape,HFd.bar.output,by have:=HFd.bar.size;simpa [World.setRow] using this,fun k hk hn=>by rw[setRow_other _ _ _ _ (Nat.ne_of_lt hk)];exact HFd.bar.block k hk hn⟩
theorem entry_no5 (N:Nat) (x:JO) (cs:List Value) (b:Nat) (o:Option (Nat×Nat)) (w0 w:World) (h:RJ w0 x cs) (hg:jsz N x) (hN:N≤16777216) (hE:Env w0) (hx0:Ext w0 w) (hb0:w0.heap.size≤b) (hr:RdAt b cs o w) (h5:kindJ x≠5):
 Calls Tryz.prog 35 #[.pointer (some ⟨b,0,none⟩)] w fun e w'=>∃E:Ent,e= .returned (.agg (eCells E).toArray)∧EntR x E∧RdAt b cs (orF o (entF x)) w'∧Bar b w w':=by
 have hm:memJ x nId=none:=by unfold memJ;rw[getJ_ne h5]
 have hblt:b<w.heap.size:=(Array.getElem?_eq_some_iff.1 hr.1).1
 have hne:(((kindJ x:Nat):Int) !=5)=true:=by simp;omega
 have hid:idS x=firstJ x [nId]:=by unfold idS;rw[hm]
 have hif:idF x=chkJ x false [nId]:=by unfold idF;rw[hm]
 have hids:(firstJ x [nId]).size≤16777216:=by rw[firstJ_one,hm];exact Nat.zero_le _
 obtain ⟨A,p,c,B,q,d,hc⟩:=h.cells
 have hk:=((Ext.refl w).alloc (.cells #[.string ⟨#[]⟩,.string ⟨#[]⟩,.string ⟨#[]⟩,.string ⟨#[]⟩,.int .i64 0] 64)).heap hr.1
 rw[hc] at hk
 have c0:(w.alloc (.cells #[.string ⟨#[]⟩,.string ⟨#[]⟩,.string ⟨#[]⟩,.string ⟨#[]⟩,.int .i64 0] 64)).cell? ⟨b,0,none⟩=some (.int .i64 (kindJ x:Nat)):=cell_of_row _ _ 0 _ _ _ hk
 have c6:(w.alloc (.cells #[.string ⟨#[]⟩,.string ⟨#[]⟩,.string ⟨#[]⟩,.string ⟨#[]⟩,.int .i64 0] 64)).cell? ⟨b,6,none⟩=some (.int .i64 (atJ x:Nat)):=cell_of_row _ _ 6 _ _ _ hk
 clear hk hc
 have hfin:entF x=orF (some (atJ x,21)) (orF (chkJ x false [nId]) (orF (chkJ x false [nTitle,nUrl,nText,nHtml,nMod,nPub]) (orF (reqF x (firstJ x [nId])) (faultD (dateJ x [nMod,nPub]))))):=by
  unfold entF
  rw[if_pos h5,hid,hif]
 rw[hfin]
 have HID:=gd hid
 clear hfin hif hid h5
 go_enter Tryz.func35,Tryz.ntmps35
 go_wp2_with (first|(refine wpList_store_row rfl 64 (.tmp 2) (.tmp 64) rfl w.heap.size _ rfl rfl _ _ HFd.rb size_ent rfl (oneA (eCells_one ⟨firstJ x [nId],firstJ x [nTitle],firstJ x [nUrl],firstJ x [nText,nHtml],t⟩)) ?_)|(go_at_call 32;(refine Calls.mono (date_new C HFc [nMod,nPub] (by decide) _ (by first|rfl|exact (size_alloc _ _).symm|(simp;done))) ?_);rintro e w10 ⟨t,rfl,ht,HF10⟩;(have g5:=(HF10.cell 4 rfl).1);(have g5f:=(HF10.cell 4 rfl).2);(have HFd:=HF10.set C 4 (.int .i64 t) (E':=⟨firstJ x [nId],firstJ x [nTitle],firstJ x [nUrl],firstJ x [nText,nHtml],t⟩) rfl);(have r0:=(HFd.cell 0 rfl).1);(have r1:=(HFd.cell 1 rfl).1);(have r2:=(HFd.cell 2 rfl).1);(have r3:=(HFd.cell 3 rfl).1);(have r4:=(HFd.cell 4 rfl).1))|(go_at_call 29;(refine Calls.mono (first_new C HF8 [nText,nHtml] (by decide) _ (by first|rfl|exact (size_alloc _ _).symm|(simp;done))) ?_);rintro e w9 ⟨rfl,HF9⟩;(have HFa:=HF9.set C 1 (.string (firstJ x [nTitle])) (E':=⟨firstJ x [nId],firstJ x [nTitle],noS,noS,0⟩) rfl);(have HFb:=HFa.set C 2 (.string (firstJ x [nUrl])) (E':=⟨firstJ x [nId],firstJ x [nTitle],firstJ x [nUrl],noS,0⟩) rfl);(have HFc:=HFb.set C 3 (.string (firstJ x [nText,nHtml])) (E':=⟨firstJ x [nId],firstJ x [nTitle],firstJ x [nUrl],firstJ x [nText,nHtml],0⟩) rfl);(have g2:=(HF9.cell 1 rfl).1);(have g2f:=(HF9.cell 1 rfl).2);(have g3:=(HFa.cell 2 rfl).1);(have g3f:=(HFa.cell 2 rfl).2);(have g4:=(HFb.cell 3 rfl).1);(have g4f:=(HFb.cell 3 rfl).2))|(go_at_call 29;(refine Calls.mono (first_new C HF7 [nUrl] (by decide) _ (by first|rfl|exact (size_alloc _ _).symm|(simp;done))) ?_);rintro e w8 ⟨rfl,HF8⟩)|(go_at_call 29;(refine Calls.mono (first_new C HF6 [nTitle] (by decide) _ (by first|rfl|exact (size_alloc _ _).symm|(simp;done))) ?_);rintro e w7 ⟨rfl,HF7⟩)|(go_at_call 31;(refine Calls.mono (required_new C HF5 _ hids) ?_);rintro e w6 ⟨rfl,HF6⟩)|(go_at_call 28;(refine Calls.mono (check_new C HFi [nTitle,nUrl,nText,nHtml,nMod,nPub] (by decide) _ (by first|rfl|exact (size_alloc _ _).symm|(simp;done))) ?_);rintro e w5 ⟨rfl,HF5⟩;(have g1:=(HF5.cell 0 rfl).1);(have g1f:=(HF5.cell 0 rfl).2))|(go_at_call 29;(refine Calls.mono (first_new C HF3 [nId] (by decide) _ (by first|rfl|exact (size_alloc _ _).symm|(simp;done))) ?_);rintro e w4 ⟨rfl,HF4⟩;(have g0:=(HF4.cell 0 rfl).1);(have g0f:=(HF4.cell 0 rfl).2);(have HFi:=HF4.set C 0 (.string (firstJ x [nId])) (E':=⟨firstJ x [nId],noS,noS,noS,0⟩) rfl))|(go_at_call 28;(refine Calls.mono (check_new C (HF2.next ((Ext.refl w2).alloc _)) [nId] (by decide) _ (by first|rfl|exact (size_alloc _ _).symm|(simp;done))) ?_);rintro e w3 ⟨rfl,HF3⟩)|(go_at_call 33;(refine Calls.mono (get_new C H0 nId) ?_);rintro e w2 ⟨⟨y,cy,rfl,hry,hmy⟩,hx2,HF2⟩;(rw[hm]);(obtain ⟨A1,p1,q1,B1,p2,q2,hc⟩:=hry.cells);(unfold wcells at hc);(generalize kindJ y=K,bJ y=Bb,nJ y=Nn,sJ y=Ss,atJ y=At at hc);subst hc)|(go_at_call 34;(refine Calls.mono (fail_c x cs b o (atJ x) 21 w0 _ h (hr.ext ((Ext.refl w).alloc _)) (by decide)) ?_);rintro e wa ⟨rfl,hra,hba⟩;(obtain ⟨C,H0⟩:=start1 h hg hN hE hx0 hb0 hblt hra hba)))
 ((try simp only[Exit.inBlock,Exit.then]);refine bodyPost_ret (results_cell_row rfl _ _ _ _ _ _ _ rfl (setRow_heap _ _ _ _ _ _ HFd.rb) Tryz.underlying64 rfl size_ent) rfl ?_)
 refine ⟨⟨firstJ x [nId],firstJ x [nTitle],firstJ x [nUrl],firstJ x [nText,nHtml],t⟩,rfl,⟨HID.out.symm,rfl,rfl,rfl,ht⟩,?_,?_⟩
 ·have hrd:=HFd.rd
  simp only[orF_assoc] at hrd
  exact ⟨by rw[setRow_other _ _ _ _ (Nat.ne_of_lt (Nat.lt_of_lt_of_le C.hbw C.hrw))];exact hrd.1,hrd.2⟩
 ·exact ⟨HFd.bar.os,HFd.bar.tape,HFd.bar.output,by have:=HFd.bar.size;simpa [World.setRow] using this,fun k hk hn=>by rw[setRow_other _ _ _ _ (Nat.ne_of_lt hk)];exact HFd.bar.block k hk hn⟩
theorem entry_walk (N:Nat) (x:JO) (cs:List Value) (b:Nat) (o:Option (Nat×Nat)) (w0 w:World) (h:RJ w0 x cs) (hg:jsz N x) (hN:N≤16777216) (hE:Env w0) (hx0:Ext w0 w) (hb0:w0.heap.size≤b) (hr:RdAt b cs o w):
 Calls Tryz.prog 35 #[.pointer (some ⟨b,0,none⟩)] w fun e w'=>∃E:Ent,e= .returned (.agg (eCells E).toArray)∧EntR x E∧RdAt b cs (orF o (entF x)) w'∧Bar b w w':=by
 by_cases h5:kindJ x=5
 ·cases hm:memJ x nId with
  |none=>exact entry_none N x cs b o w0 w h hg hN hE hx0 hb0 hr h5 hm
  |some z=>
   cases z with
   |int ia n=>exact entry_int N x cs b o w0 w h hg hN hE hx0 hb0 hr h5 ia n hm
   |null a=>exact entry_oth N x cs b o w0 w h hg hN hE hx0 hb0 hr h5 _ hm (by show (0:Nat)≠2;decide)
   |bool a v=>exact entry_oth N x cs b o w0 w h hg hN hE hx0 hb0 hr h5 _ hm (by show (1:Nat)≠2;decide)
   |str a s=>exact entry_oth N x cs b o w0 w h hg hN hE hx0 hb0 hr h5 _ hm (by show (3:Nat)≠2;decide)
   |arr a l=>exact entry_oth N x cs b o w0 w h hg hN hE hx0 hb0 hr h5 _ hm (by show (4:Nat)≠2;decide)
   |obj a k v=>exact entry_oth N x cs b o w0 w h hg hN hE hx0 hb0 hr h5 _ hm (by show (5:Nat)≠2;decide)
 ·exact entry_no5 N x cs b o w0 w h hg hN hE hx0 hb0 hr h5
theorem chk1_first {x:JO} {n:ByteArray} (h:chk1 x n=none):firstJ x [n]=textJ x n:=by
 unfold chk1 at h
 rw[firstJ_one]
 unfold textJ
 cases hm:memJ x n with
 |none=>rfl
 |some y=>
  rw[hm] at h
  simp only at h
  by_cases h3:kindJ y≠3
  ·rw[if_pos h3] at h;cases h
  ·cases y<;>first|rfl|exact absurd (show (2:Nat)≠3 by decide) h3
theorem chk1_of {x:JO}:∀(l:List ByteArray),chkJ x false l=none→∀n∈l,chk1 x n=none
 | [],_,n,hn=>by cases hn
 |m::t,h,n,hn=>by
  rw[chkJ_cons1] at h
  cases hc:chk1 x m with
  |some e=>rw[hc] at h;cases h
  |none=>
   rw[hc] at h
   rcases List.mem_cons.1 hn with rfl|hn
   ·exact hc
   ·exact chk1_of t h n hn
theorem chkT_eq (x:JO) (n:ByteArray) (t:List ByteArray):chkJ x true (n::t)=orF (match memJ x n with
 |some (.int _ _)=>none
 |_=>chkJ x false [n]) (chkJ x false t):=by
 have e:chkJ x true (n::t)=match memJ x n with
  |none=>chkJ x false t
  |some y=>if true=true∧kindJ y=2 then chkJ x false t else if kindJ y≠3 then some (atJ y,21) else if (checkS (sJ y)).2≠0 then some (atJ y,(checkS (sJ y)).2) else chkJ x false t:=rfl
 rw[e,chkJ_one]
 unfold chk1
 cases hm:memJ x n with
 |none=>rfl
 |some y=>
  cases y<;>simp[kindJ,orF]<;>(try (split<;>rfl))
theorem idF_eq (x:JO):(match memJ x nId with
 |some (.int _ _)=>none
 |_=>chkJ x false [nId])=idF x:=rfl
theorem idS_text {x:JO} (h:idF x=none):idS x=textJ x nId:=by
 unfold idF at h
 unfold idS
 cases hm:memJ x nId with
 |none=>unfold textJ;rw[hm,firstJ_one,hm]
 |some y=>
  rw[hm] at h
  cases y with
  |int a n=>unfold textJ;rw[hm];rfl
  |_=>exact chk1_first (by rw[←chkJ_one];exact h)
theorem entF_eq (x:JO):entF x=match entryJ x with
 | .ok _=>none
 | .error e=>some e:=by
 unfold entF entryJ
 by_cases h5:kindJ x≠5
 ·rw[if_pos h5,if_pos h5];rfl
 ·rw[if_neg h5,if_neg h5,chkT_eq,idF_eq]
  cases hi:idF x with
  |some e=>rfl
  |none=>
   rw[idS_text hi]
   cases h6:chkJ x false [nTitle,nUrl,nText,nHtml,nMod,nPub] with
   |some e=>rfl
   |none=>
    unfold reqF
    by_cases hc:collapse (textJ x nId)=noS
    ·simp only[orF,if_pos hc]
    ·simp only[orF,if_neg hc]
     cases dateJ x [nMod,nPub]<;>rfl
theorem entR_eq {x:JO} {E e:Ent} (h:EntR x E) (he:entryJ x= .ok e):E=e:=by
 have hf:=entF_eq x
 rw[he] at hf
 unfold entryJ at he
 by_cases h5:kindJ x≠5
 ·rw[if_pos h5] at he;cases he
 ·rw[if_neg h5,chkT_eq,idF_eq] at he
  cases hi:idF x with
  |some e=>rw[hi] at he;cases he
  |none=>
   rw[hi] at he
   cases h6:chkJ x false [nTitle,nUrl,nText,nHtml,nMod,nPub] with
   |some e=>rw[h6] at he;cases he
   |none=>
    rw[h6] at he
    simp only[orF] at he
    by_cases hc:collapse (textJ x nId)=noS
    ·rw[if_pos hc] at he;cases he
    ·rw[if_neg hc] at he
     cases hd:dateJ x [nMod,nPub] with
     |error e=>rw[hd] at he;cases he
     |ok t=>
      rw[hd] at he
      simp only at he
      injection he with he
      subst he
      obtain ⟨h1,h2,h3,h4,h7⟩:=h
      have hm:=chk1_of _ h6
      have ht:=chk1_first (hm nTitle (by simp))
      have hu:=chk1_first (hm nUrl (by simp))
      have hx:=chk1_first (hm nText (by simp))
      have hh:=chk1_first (hm nHtml (by simp))
      have hco:firstJ x [nText,nHtml]=if (memJ x nText).isSome then textJ x nText else textJ x nHtml:=by
       have e1:firstJ x [nText,nHtml]=match memJ x nText with
        |some y=>sJ y
        |none=>firstJ x [nHtml]:=rfl
       rw[e1]
       cases hmt:memJ x nText with
       |none=>simpa using hh
       |some y=>
        rw[firstJ_one,hmt] at hx
        simpa using hx
      obtain ⟨a,b,c,d,u⟩:=E
      simp only[entJO] at*
      rw[h1,h2,h3,h4,h7 t hd,idS_text hi,ht,hu,hco]
theorem setS_cell:∀(l:List (Addr×ByteArray)) (w:World) (p:Addr×ByteArray) (u:Value),p∈l→(l.Pairwise fun p q=>p.1≠q.1)→w.cell? p.1=some u→(setS w l).cell? p.1=some (.string p.2)
 | [],_,_,_,h,_,_=>by simp at h
 |q::t,w,p,u,h,hap,hu=>by
  have h1:=List.pairwise_cons.1 hap
  rcases List.mem_cons.1 h with h|h
  ·subst h
   rw[setS,setS_other t _ _ fun r hr=>(h1.1 r hr).symm]
   exact World.cell?_setCell_same _ _ _ hu
  ·have hne:q.1≠p.1:=h1.1 p h
   rw[setS]
   exact setS_cell t _ p u h h1.2 (by rw[World.cell?_setCell_other w q.1 p.1 _ hne];exact hu)
theorem Ext.setS {a:World}:∀(l:List (Addr×ByteArray)) {b:World},Ext a b→(∀p∈l,a.heap.size≤p.1.block)→Ext a (setS b l)
 | [],_,h,_=>h
 |p::t,b,h,hl=>Ext.setS t (h.setCell (hl p (by simp)) _) fun q hq=>hl q (by simp[hq])
def ptrsAt (g:Nat):Nat→List ByteArray→List (Addr×ByteArray)
 |_,[]=> []
 |i,s::t=>(⟨g,i,none⟩,s)::ptrsAt g (i+1) t
theorem ptrsAt_len (g:Nat):∀(l:List ByteArray) (i:Nat),(ptrsAt g i l).length=l.length
 | [],_=>rfl
 |s::t,i=>by rw[ptrsAt,List.length_cons,ptrsAt_len g t,List.length_cons]
theorem ptrsAt_get (g:Nat):∀(l:List ByteArray) (i k:Nat),(ptrsAt g i l)[k]? =l[k]?.map fun s=>(⟨g,i+k,none⟩,s)
 | [],_,_=>by simp[ptrsAt]
 |s::t,i,0=>by simp[ptrsAt]
 |s::t,i,k+1=>by
  rw[ptrsAt,List.getElem?_cons_succ,ptrsAt_get g t,List.getElem?_cons_succ]
  rw[show i+1+k=i+(k+1) by omega]
theorem ptrsAt_mem {g i:Nat} {l:List ByteArray} {p:Addr×ByteArray} (h:p∈ptrsAt g i l):∃k s,l[k]? =some s∧p=(⟨g,i+k,none⟩,s):=by
 obtain ⟨k,hk⟩:=List.mem_iff_getElem?.1 h
 rw[ptrsAt_get] at hk
 cases hl:l[k]? with
 |none=>rw[hl] at hk;cases hk
 |some s=>rw[hl] at hk;injection hk with hk;exact ⟨k,s,hl,hk.symm⟩
theorem ptrsAt_snd (g:Nat):∀(l:List ByteArray) (i:Nat),(ptrsAt g i l).map (·.2)=l
 | [],_=>rfl
 |s::t,i=>by rw[ptrsAt,List.map_cons,ptrsAt_snd g t]
theorem ptrsAt_map (g:Nat) (h:ByteArray→ByteArray):∀(l:List ByteArray) (i:Nat),(ptrsAt g i l).map (fun p=>(p.1,h p.2))=ptrsAt g i (l.map h)
 | [],_=>rfl
 |s::t,i=>by rw[ptrsAt,List.map_cons,ptrsAt_map g h t,List.map_cons,ptrsAt]
theorem ptrsAt_apart (g:Nat):∀(l:List ByteArray) (i:Nat),(ptrsAt g i l).Pairwise fun p q=>p.1≠q.1
 | [],_=>List.Pairwise.nil
 |s::t,i=>by
  rw[ptrsAt,List.pairwise_cons]
  refine ⟨fun p hp=> ?_,ptrsAt_apart g t _⟩
  obtain ⟨k,s,_,rfl⟩:=ptrsAt_mem hp
  intro e
  have e':=congrArg Addr.off e
  simp only at e'
  omega
def ptrsF (g b:Nat) (l:List ByteArray) (x y z:ByteArray):List (Addr×ByteArray):=ptrsAt g 0 l++ [(⟨b,1,none⟩,x),(⟨b,2,none⟩,y),(⟨b,3,none⟩,z)]
theorem ptrsF_len (g b:Nat) (l:List ByteArray) (x y z:ByteArray):(ptrsF g b l x y z).length=l.length+3:=by unfold ptrsF;rw[List.length_append,ptrsAt_len];rfl
theorem ptrsF_snd (g b:Nat) (l:List ByteArray) (x y z:ByteArray):(ptrsF g b l x y z).map (·.2)=l++ [x,y,z]:=by unfold ptrsF;rw[List.map_append,ptrsAt_snd];rfl
theorem ptrsF_map (g b:Nat) (h:ByteArray→ByteArray) (l:List ByteArray) (x y z:ByteArray):(ptrsF g b l x y z).map (fun p=>(p.1,h p.2))=ptrsF g b (l.map h) (h x) (h y) (h z):=by unfold ptrsF;rw[List.map_append,ptrsAt_map];rfl
theorem ptrsF_apart {g b:Nat} (hgb:g≠b) (l:List ByteArray) (x y z:ByteArray):(ptrsF g b l x y z).Pairwise fun p q=>p.1≠q.1:=by
 unfold ptrsF
 rw[List.pairwise_append]
 refine ⟨ptrsAt_apart g l 0,by simp,fun p hp q hq=> ?_⟩
 obtain ⟨k,s,_,rfl⟩:=ptrsAt_mem hp
 simp only[List.mem_cons,List.mem_nil_iff,or_false] at hq
 intro e
 have e':=congrArg Addr.block e
 rcases hq with rfl|rfl|rfl<;>exact hgb e'
theorem ptrsF_mem {g b:Nat} {l:List ByteArray} {x y z:ByteArray} {p:Addr×ByteArray} (h:p∈ptrsF g b l x y z):p.1.block=g∨p.1.block=b:=by
 unfold ptrsF at h
 rcases List.mem_append.1 h with h|h
 ·obtain ⟨k,s,_,rfl⟩:=ptrsAt_mem h
  exact Or.inl rfl
 ·simp only[List.mem_cons,List.mem_nil_iff,or_false] at h
  rcases h with rfl|rfl|rfl<;>exact Or.inr rfl
theorem ptrsF_set {w w1:World} {g b cap:Nat} {A:Option Addr} {l:List ByteArray} {x y z x0 y0 z0:ByteArray} {p e t:Value} {ll:List ByteArray} (hgb:g≠b) (hl:ll.length=l.length)
 (hA:0<l.length→A=some ⟨g,0,none⟩) (hr:RStrs w (.slice A l.length cap) ll)
 (h0:w.cell? ⟨b,0,none⟩=some p) (h1:w.cell? ⟨b,1,none⟩=some (.string x0)) (h2:w.cell? ⟨b,2,none⟩=some (.string y0)) (h3:w.cell? ⟨b,3,none⟩=some (.string z0)) (h4:w.cell? ⟨b,4,none⟩=some t) (h5:w.cell? ⟨b,5,none⟩=some e)
 (hx:Ext (setS w (ptrsF g b l x y z)) w1):
 RStrs w1 (.slice A l.length cap) l∧w1.cell? ⟨b,0,none⟩=some p∧w1.cell? ⟨b,1,none⟩=some (.string x)∧w1.cell? ⟨b,2,none⟩=some (.string y)∧w1.cell? ⟨b,3,none⟩=some (.string z)∧w1.cell? ⟨b,4,none⟩=some t∧w1.cell? ⟨b,5,none⟩=some e:=by
 have hap:=ptrsF_apart hgb l x y z
 have oth:∀(i:Nat) (u:Value),(i=0∨i=4∨i=5)→w.cell? ⟨b,i,none⟩=some u→w1.cell? ⟨b,i,none⟩=some u:=by
  intro i u hi hu
  refine hx.cell ?_
  rw[setS_other _ _ _ fun q hq=> ?_]
  ·exact hu
  ·unfold ptrsF at hq
   rcases List.mem_append.1 hq with hq|hq
   ·obtain ⟨k,s,_,rfl⟩:=ptrsAt_mem hq
    intro e
    exact hgb (congrArg Addr.block e)
   ·simp only[List.mem_cons,List.mem_nil_iff,or_false] at hq
    intro e
    have e':=congrArg Addr.off e
    rcases hq with rfl|rfl|rfl<;>simp only at e'<;>omega
 have mm:∀(q:Addr×ByteArray) (u:Value),q∈ptrsF g b l x y z→w.cell? q.1=some u→w1.cell? q.1=some (.string q.2):=fun q u hq hu=>hx.cell (setS_cell _ _ q u hq hap hu)
 refine ⟨?_,oth 0 p (Or.inl rfl) h0,mm (⟨b,1,none⟩,x) _ (by simp[ptrsF]) h1,mm (⟨b,2,none⟩,y) _ (by simp[ptrsF]) h2,mm (⟨b,3,none⟩,z) _ (by simp[ptrsF]) h3,oth 4 t (Or.inr (Or.inl rfl)) h4,oth 5 e (Or.inr (Or.inr rfl)) h5⟩
 obtain ⟨q1,A',c',e1,q2,q3,q4,q5⟩:=hr
 injection e1 with e1 e2 e3
 subst e1 e3
 refine ⟨by simp,A,cap,rfl,by omega,q3,q4,fun j u hu=> ?_⟩
 rw[List.getElem?_map] at hu
 cases hlj:l[j]? with
 |none=>rw[hlj] at hu;cases hu
 |some s=>
  rw[hlj] at hu
  injection hu with hu
  subst hu
  have hjl:j<l.length:=(List.getElem?_eq_some_iff.1 hlj).1
  have hAA:=hA (by omega)
  subst hAA
  refine ⟨_,rfl,?_⟩
  have hjll:j<ll.length:=by omega
  obtain ⟨ad,ha,hc⟩:=q5 j (.string ll[j]) (by rw[List.getElem?_map,List.getElem?_eq_getElem hjll];rfl)
  injection ha with ha
  subst ha
  have had:(⟨g,0,none⟩:Addr).add j=⟨g,j,none⟩:=by unfold Addr.add;split<;>simp_all
  rw[had] at hc⊢
  refine mm (⟨g,j,none⟩,s) _ ?_ hc
  unfold ptrsF
  refine List.mem_append_left _ (List.mem_iff_getElem?.2 ⟨j,?_⟩)
  rw[ptrsAt_get,hlj]
  simp
theorem setS_heap_other:∀(l:List (Addr×ByteArray)) (w:World) (k:Nat),(∀p∈l,p.1.block≠k)→(setS w l).heap[k]? =w.heap[k]?
 | [],_,_,_=>rfl
 |p::t,w,k,h=>by
  rw[setS,setS_heap_other t _ k fun q hq=>h q (by simp[hq])]
  simp only[World.setCell,Array.getElem?_modify]
  rw[if_neg (h p (by simp))]
theorem setCell_grown (w:World) (a:Addr) (v:Value):w.grownBy (w.setCell a v) (some a.block):=
 ⟨rfl,rfl,rfl,by simp[World.setCell],fun k _ hk=>heap_setCell_other w a k v fun e=>hk (by rw[e])⟩
theorem setRow_grown (w:World) (g:Nat) (cs:Array Value):w.grownBy (w.setRow g cs) (some g):=
 ⟨rfl,rfl,rfl,by simp[World.setRow],fun k _ hk=>setRow_other w g k cs fun e=>hk (by rw[e])⟩
theorem feedPtrs {W:World} {B g b cap:Nat} {A:Option Addr} {v:Value} {l:List ByteArray} {x y z:ByteArray} (hgb:g≠b) (hA:0<l.length→A=some ⟨g,0,none⟩)
 (hown:W.ownsRow B 9 1 (.slice A l.length cap) l.length (l.map Value.string))
 (h1:W.cell? ⟨b,1,none⟩=some (.string x)) (h2:W.cell? ⟨b,2,none⟩=some (.string y)) (h3:W.cell? ⟨b,3,none⟩=some (.string z)) (f1:W.frozen? ⟨b,1,none⟩=false) (f2:W.frozen? ⟨b,2,none⟩=false) (f3:W.frozen? ⟨b,3,none⟩=false)
 (hs:∀s∈l++ [x,y,z],s.size≤16777216) (hrow:RSl W 1 v (l.length+3) ((ptrsF g b l x y z).map fun p=>Value.pointer (some p.1))):Ptrs W v (ptrsF g b l x y z):=by
 refine ⟨by rw[ptrsF_len];exact hrow,fun p hp=> ?_,fun p hp=> ?_,ptrsF_apart hgb l x y z⟩
 ·unfold ptrsF at hp
  rcases List.mem_append.1 hp with hp|hp
  ·obtain ⟨k,s,hk,rfl⟩:=ptrsAt_mem hp
   have hkl:k<l.length:=(List.getElem?_eq_some_iff.1 hk).1
   have hAA:=hA (by omega)
   subst hAA
   have hz:0+k=k:=by omega
   simp only[hz]
   refine ⟨?_,hown.frozenAt k⟩
   rw[hown.cellAt k (by omega),List.getElem?_map,hk]
   rfl
  ·simp only[List.mem_cons,List.mem_nil_iff,or_false] at hp
   rcases hp with rfl|rfl|rfl
   ·exact ⟨h1,f1⟩
   ·exact ⟨h2,f2⟩
   ·exact ⟨h3,f3⟩
 ·refine hs _ ?_
  have:p.2∈(ptrsF g b l x y z).map (·.2):=List.mem_map.2 ⟨p,hp,rfl⟩
  rwa [ptrsF_snd] at this
theorem ptrsAt_snoc (g:Nat) (l:List ByteArray) (k:Nat) (hk:k<l.length):((ptrsAt g 0 l).take (k+1)).map (fun p=>Value.pointer (some p.1))=((ptrsAt g 0 l).take k).map (fun p=>Value.pointer (some p.1))++ [.pointer (some ⟨g,k,none⟩)]:=by
 have hk':k<(ptrsAt g 0 l).length:=by rw[ptrsAt_len];exact hk
 rw[List.take_succ_eq_append_getElem hk',List.map_append]
 have e:=ptrsAt_get g l 0 k
 rw[List.getElem?_eq_getElem hk',List.getElem?_eq_getElem hk] at e
 injection e with e
 rw[e]
 simp
theorem errEs_at:∀(l:List Ent) (k:Nat) (hk:k<l.length),(∀e∈l.take k,errE e=0)→errE l[k]≠0→errEs l=errE l[k]
 | [],k,hk,_,_=>by simp at hk
 |e::t,0,_,_,h=>by simp only[errEs];rw[if_neg (by simpa using h)];rfl
 |e::t,k+1,hk,h,h2=>by
  simp only[errEs]
  rw[if_pos (h e (by simp)),errEs_at t k (by simpa using hk) (fun x hx=>h x (by simp[hx])) (by simpa using h2)]
  rfl
theorem contains_any {w:World} {g n c:Nat} {A:Option Addr} {l:List ByteArray} (x:ByteArray) (hn:n=l.length) (hA:0<l.length→A=some ⟨g,0,none⟩) (h:RStrs w (.slice A n c) l) (hb:l.length≤9223372036854775807):
 Calls Tryz.prog 75 #[.slice A n c,.string x] w fun e w'=>e= .returned (.bool (l.any fun s=>decide (s=x)))∧w'=w:=by
 subst hn
 rcases Nat.eq_zero_or_pos l.length with h0|h0
 ·have hl:=List.eq_nil_of_length_eq_zero h0
  subst hl
  exact Tryz.slices_Contains_string_empty A c x w
 ·have hAA:=hA h0
  subst hAA
  have hc:∀j,j<l.length→w.cell? ⟨g,0+j,none⟩=some (.string (l.getD j ByteArray.empty)):=by
   intro j hj
   obtain ⟨_,A',c',e,_,_,_,q⟩:=h
   injection e with e1 e2 e3
   subst e1
   obtain ⟨ad,ha,hcl⟩:=q j (.string l[j]) (by rw[List.getElem?_map,List.getElem?_eq_getElem hj];rfl)
   injection ha with ha
   subst ha
   have had:(⟨g,0,none⟩:Addr).add j=⟨g,0+j,none⟩:=by unfold Addr.add;split<;>simp_all
   rw[had] at hcl
   rw[hcl,List.getD_eq_getElem?_getD,List.getElem?_eq_getElem hj]
   rfl
  refine (Tryz.slices_Contains_string g 0 l.length c l x w (Nat.le_refl _) hb hc).mono ?_
  rintro e w' ⟨rfl,rfl⟩
  refine ⟨?_,rfl⟩
  rw[List.take_of_length_le (Nat.le_refl _)]
  refine congrArg (fun b=>Ending.returned (.bool b)) ?_
  rw[Bool.eq_iff_iff,Lib.containsS_iff,List.any_eq_true]
  constructor
  ·intro h;exact ⟨x,h,by simp⟩
  ·rintro ⟨s,hs,e⟩
   have e':s=x:=by simpa using e
   rw[←e'];exact hs
end Go.Proofs.YthlnaldahkgjnaaGreatDoor
