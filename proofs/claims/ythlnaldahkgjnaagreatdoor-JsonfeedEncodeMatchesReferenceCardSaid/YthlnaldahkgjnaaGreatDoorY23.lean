/- Parts of the proof: contracts and plain laws. -/
import Derived.Test.YthlnaldahkgjnaaGreatDoorY22
namespace Go.Proofs.YthlnaldahkgjnaaGreatDoor
open Go Go.RowKit
set_option linter.unusedVariables false
set_option linter.unusedSimpArgs false
set_option maxRecDepth 100000
set_option maxHeartbeats 16000000
section
set_option linter.unusedSimpArgs false
theorem oneV9 {key:ByteArray} {k:Int} {b:Bool} {x:Int} {s:ByteArray} {A:Option Addr} {m c:Nat} {B:Option Addr} {p q:Nat} {a z:Int}:∀u∈([.string key,.int .i64 k,.bool b,.int .i64 x,.string s,.slice A m c,.slice B p q,.int .i64 a,.int .i64 z]:List Value),u.oneCell'=true:=by
 intro u hu
 simp only[List.mem_cons,List.not_mem_nil,or_false] at hu
 rcases hu with rfl|rfl|rfl|rfl|rfl|rfl|rfl|rfl|rfl<;>rfl
theorem oneV7l {k:Int} {b:Bool} {x:Int} {s:ByteArray} {A:Option Addr} {m c:Nat} {B:Option Addr} {p q:Nat} {a:Int}:∀u∈([.int .i64 k,.bool b,.int .i64 x,.string s,.slice A m c,.slice B p q,.int .i64 a]:List Value),u.oneCell'=true:=by
 intro u hu
 simp only[List.mem_cons,List.not_mem_nil,or_false] at hu
 rcases hu with rfl|rfl|rfl|rfl|rfl|rfl|rfl<;>rfl
theorem jenc_yes (x:Fc) (w:World) (hE:Env w) (hr:RdC w x) (hk:fokS x.f) (hyes:okJ x.f=true):
 Calls Tryz.prog 18 #[.agg (cellsC x).toArray] w fun e w'=>∃cs,e= .returned (.tuple #[.agg cs.toArray,.int .i64 0])∧RV w' (encJ x.f) cs∧Ext w w':=by
 have hyes2:okF x.f=true∧x.f.path= []:=by
  unfold okJ at hyes
  simpa using hyes
 obtain ⟨hokF,hpath⟩:=hyes2
 have HCK:=gd (fun (w':World) (h:Ext w w')=>mCheckF_any x w' (hE.ext h) (hr.ext h) hk)
 rw[if_pos hokF] at HCK
 have htF:inT x.f.upd=true:=(okH_iff.1 (okF_iff.1 hokF).1).2.2.2.1
 have htE:∀e∈x.f.ents,inT e.upd=true:=fun e he=>(okE_iff.1 ((okL_iff.1 (okF_iff.1 hokF).2).1 e he)).2.2
 have hnE:=hk.2.1
 have hr1:=hr.2
 clear hokF hyes hk
 obtain ⟨xp,xes,⟨xpath,xid,xtitle,xlink,xupd,xents⟩⟩:=x
 obtain ⟨hx0,hx1⟩:=hr
 dsimp only at*
 subst hpath
 obtain ⟨xA,xc,rfl, -, -⟩:=hx0.form
 obtain ⟨xB,xd,rfl, -, -⟩:=hx1.form
 unfold cellsC fCells at HCK⊢
 dsimp only[List.length_nil] at HCK⊢
 obtain ⟨i0,hi0,hz0,hz1,hz2⟩:=info_parts_val
 obtain ⟨i9,hi9,hz9,hs9,hb9⟩:=info_partsM
 obtain ⟨W0,hW0⟩:∃W0,(w.alloc (.cells #[.slice xA 0 xc,.string xid,.string xtitle,.string xlink,.int .i64 xupd,.slice xB xents.length xd] 32)).alloc (.cells #[.int .i64 0,.bool false,.int .i64 0,.string ⟨#[]⟩,.slice none 0 0,.slice none 0 0,.int .i64 0] 25)=W0:=⟨_,rfl⟩
 have hx0':Ext w W0:=by rw[←hW0];exact ((Ext.refl w).alloc _).alloc _
 have hr0:W0.heap[w.heap.size+1]? =some (.cells #[.int .i64 0,.bool false,.int .i64 0,.string ⟨#[]⟩,.slice none 0 0,.slice none 0 0,.int .i64 0] 25 (0,0)):=by
  rw[←hW0]
  have:=heap_alloc_new (w.alloc (.cells #[.slice xA 0 xc,.string xid,.string xtitle,.string xlink,.int .i64 xupd,.slice xB xents.length xd] 32)) (.cells #[.int .i64 0,.bool false,.int .i64 0,.string ⟨#[]⟩,.slice none 0 0,.slice none 0 0,.int .i64 0] 25)
  rwa [size_alloc] at this
 have hb0:∀i v,(#[.slice xA 0 xc,.string xid,.string xtitle,.string xlink,.int .i64 xupd,.slice xB xents.length xd]:Array Value)[i]? =some v→W0.cell? ⟨w.heap.size,i,none⟩=some v:=fun i v h=>by
  rw[←hW0]
  exact ((Ext.refl (w.alloc _)).alloc _).boxed i v h
 have c0:=hb0 0 _ rfl
 have c1:=hb0 1 _ rfl
 have c2:=hb0 2 _ rfl
 have c3:=hb0 3 _ rfl
 have c4:=hb0 4 _ rfl
 have c5:=hb0 5 _ rfl
 have hW0s:W0.heap.size=w.heap.size+2:=by rw[←hW0,size_alloc,size_alloc]
 have HFB:=gd (fun (w':World) (h:Ext w w')=>format_any xupd w' (hE.ext h) htF)
 have HFE:=gd (fun (w':World) (h:Ext w w') (t:Int) (ht:inT t=true)=>format_any t w' (hE.ext h) ht)
 have HTE:=gd htE
 have HNE:=gd hnE
 have HR1:=gd (fun (w':World) (h:Ext w w')=>hr1.ext h)
 have HX0:=gd hx0'
 have HR0:=gd hr0
 obtain ⟨F,hF⟩:∃F,F=str (fmtL xupd):=⟨_,rfl⟩
 rw[←hF] at HFB
 have HMF:=gd (fun (w':World)=>members_feed ⟨[],xid,xtitle,xlink,xupd,xents⟩ F hF w')
 dsimp only at HMF
 have HB:=gd hb0
 have HWS:=gd hW0s
 clear hx0' hr0 hx0 hx1 hE hb0 htF htE hnE hr1 hF hW0s
 go_enter Tryz.func18,Tryz.ntmps18
 go_wp2_with (first|(go_at_call 48;(have hz:=HCK.out W0 HX0.out);(with_reducible refine Calls.mono hz ?_);clear hz;rintro e w2 ⟨rfl,hx2⟩;(have d0:=hx2.cell c0);(have d5:=hx2.cell c5);(have HX2:=gd hx2)))
 clear d0 d5 hx2
 go_loopw [4,25] (fun v i wr=>∃(k:Nat) (css:List (List Value)),k≤xents.length∧i= .int .i64 k∧Hid (EncO wr (xents.take k) css)∧Hid (wr.ownsRow (w.heap.size+2) 25 7 v k css.flatten)∧Hid (Ext W0 wr)) (fun _ i _=>xents.length - (intOf i).toNat)
 case atStart=>exact ⟨0,[],Nat.zero_le _,rfl,gd (EncO.nil _),gd (World.ownsRow_nil _ _ _ _),HX2⟩
 case round=>
  obtain ⟨k,css,hkl,rfl,henc,hown,hx⟩:=hrel
  have hne2:=HNE.out
  by_cases hlt:k<xents.length
  ·obtain ⟨ad,c',hv,hat⟩:=(HR1.out wr (HX0.out.trans hx.out)).at hlt
   injection hv with hv1 hv2 hv3
   subst hv1
   clear hv2 hv3
   have hte:=HTE.out _ (List.getElem_mem hlt)
   have htk:xents.take (k+1)=xents.take k++ [xents[k]]:=List.take_succ_eq_append_getElem hlt
   obtain ⟨E,hEE⟩:∃E,xents[k]=E:=⟨_,rfl⟩
   rw[hEE] at hat hte htk
   obtain ⟨eid,etitle,elink,econt,eupd⟩:=E
   obtain ⟨a0,a1,a2,a3,a4⟩:=hat
   dsimp only at a0 a1 a2 a3 a4 hte
   obtain ⟨F1,hF1⟩:∃F1,F1=str (fmtL eupd):=⟨_,rfl⟩
   have HME:=gd (fun (w':World)=>members_ent ⟨eid,etitle,elink,econt,eupd⟩ F1 hF1 w')
   dsimp only at HME
   have HF1:=gd (fun (w':World) (h:Ext w w')=>HFE.out w' h eupd hte)
   rw[←hF1] at HF1
   have HTK:=gd htk
   have hi0':(0:Int)≤(k:Int):=by omega
   have hi1:(k:Int)<(xents.length:Int):=by omega
   have hw1:wrap64 ((k:Int)+1)=(k:Int)+1:=wrap_ok _ ⟨by omega,by omega⟩
   have HBY:Hid ((k+1)*96≤140737488355328):=gd (by omega)
   have HML:Hid (k+1≤maxLen):=gd (by unfold maxLen;omega)
   have HWE:Hid (Value.int .i64 (wrap64 ((k:Int)+1))=Value.int .i64 ((k+1:Nat):Int)):=gd (by rw[hw1];rfl)
   have HMS:Hid (xents.length - (intOf (Value.int .i64 (wrap64 ((k:Int)+1)))).toNat<xents.length - (intOf (Value.int .i64 (k:Int))).toNat):=gd (by rw[hw1];simp only[intOf];omega)
   clear hEE hte htk hF1 hne2 hw1 c0 c1 c2 c3 c4 c5
   obtain ⟨W1,hW1⟩:∃W1,wr.alloc (.cells #[.string eid,.string etitle,.string elink,.string econt,.int .i64 eupd] 64)=W1:=⟨_,rfl⟩
   have hx1:Ext wr W1:=by rw[←hW1];exact (Ext.refl wr).alloc _
   have he0:∀i v,(#[.string eid,.string etitle,.string elink,.string econt,.int .i64 eupd]:Array Value)[i]? =some v→W1.cell? ⟨wr.heap.size,i,none⟩=some v:=fun i v h=>by
    rw[←hW1]
    exact (Ext.refl (wr.alloc _)).boxed i v h
   have b0:=he0 0 _ rfl
   have b1:=he0 1 _ rfl
   have b2:=he0 2 _ rfl
   have b3:=he0 3 _ rfl
   have b4:=he0 4 _ rfl
   have HX1:=gd hx1
   clear hx1 he0
   go_wp2_with (first|(at_builtin;refine wpList_append_rsl _ rfl (.tmp 35) (.tmp 48) _ rfl (w.heap.size+2) 25 i0 _ 7 96 Tryz.underlying22 hi0 hz0 hz1 hz2 rfl (by decide) _ k css.flatten rfl HOW5.out _ 1 [.int .i64 5,.bool false,.int .i64 0,.string ⟨#[]⟩,.slice none 0 0,.slice A4 n4 c4',.int .i64 0] rfl hnew oneV7l HML.out HBY.out HSZ.out ?_;intro v9 w9 hown9 hg9 hat9)|(go_at_call 50;(have hz:=objectO_any (entM ⟨eid,etitle,elink,econt,eupd⟩) v3 w3 (RSl.of_own HO3.out) (Nat.le_trans (entM_len _) (by decide)));(refine Calls.mono hz ?_);clear hz;rintro e w4 ⟨A4,n4,c4',rfl,ho4,hx4⟩;(have hx5:=((hx2'.trans hx3').trans hx4).alloc (.cells #[.int .i64 5,.bool false,.int .i64 0,.string ⟨#[]⟩,.slice none 0 0,.slice A4 n4 c4',.int .i64 0] 25));(have hnew:RSl (w4.alloc (.cells #[.int .i64 5,.bool false,.int .i64 0,.string ⟨#[]⟩,.slice none 0 0,.slice A4 n4 c4',.int .i64 0] 25)) 7 (.slice (some ⟨w4.heap.size,0,none⟩) 1 1) 1 [.int .i64 5,.bool false,.int .i64 0,.string ⟨#[]⟩,.slice none 0 0,.slice A4 n4 c4',.int .i64 0]:=rsl_new (w:=w4) (n:=1) (cs:= [.int .i64 5,.bool false,.int .i64 0,.string ⟨#[]⟩,.slice none 0 0,.slice A4 n4 c4',.int .i64 0]) rfl (by decide));(have HOW5:=gd (own_ext hown.out (HX1.out.trans hx5)));(have HX5:=gd (HX1.out.trans hx5));(have HO4:=gd (own_ext ho4 ((Ext.refl w4).alloc (.cells #[.int .i64 5,.bool false,.int .i64 0,.string ⟨#[]⟩,.slice none 0 0,.slice A4 n4 c4',.int .i64 0] 25))));(have HSZ:=gd (Nat.le_trans (Nat.le_of_eq HWS.out.symm) (hx.out.trans HX5.out).size));clear ho4 hx5)|(go_at_call 51;(have hz:=HME.out w2');(refine Calls.mono hz ?_);clear hz;rintro e w3 ⟨v3,rfl,ho3,hx3'⟩;(have HO3:=gd ho3);clear ho3)|(go_at_call 49;(have hz:=HF1.out W1 ((HX0.out.trans hx.out).trans HX1.out));(with_reducible refine Calls.mono hz ?_);clear hz;rintro e w2' ⟨rfl,hx2'⟩;(have f0:=hx2'.cell b0);(have f1:=hx2'.cell b1);(have f2:=hx2'.cell b2);(have f3:=hx2'.cell b3)))
   have HXX:Hid (Ext W0 w9):=gd ((hx.out.trans HX5.out).app hg9 HOW5.out (Nat.le_of_eq HWS.out))
   have HOWN:Hid (w9.ownsRow (w.heap.size+2) 25 7 v9 (k+1) (css++ [ocells (.slice A4 n4 c4') 0]).flatten):=gd (by rw[List.flatten_append];simpa [ocells] using hown9)
   have HEO:Hid (EncO w9 (xents.take (k+1)) (css++ [ocells (.slice A4 n4 c4') 0])):=gd (by
    rw[HTK.out]
    exact ((henc.out.ext HX5.out).app HOW5.out hg9).snoc (own_types HO4.out HOW5.out (by decide) hg9))
   go_roundw
   case rel=>exact ⟨k+1,_,hlt,HWE.out,HEO,HOWN,HXX⟩
   case measure=>exact HMS.out
  ·have hke:k=xents.length:=by omega
   subst hke
   rw[List.take_length] at henc
   have hxo:=hx.out
   have d1:=hxo.cell c1
   have d2:=hxo.cell c2
   have d3:=hxo.cell c3
   have d4:=hxo.cell c4
   have hkr:=hxo.heap HR0.out
   have HKR:=gd hkr
   have h5:=feedM_len5 ⟨[],xid,xtitle,xlink,xupd,xents⟩
   obtain ⟨L,hL⟩:∃L,feedM ⟨[],xid,xtitle,xlink,xupd,xents⟩=L:=⟨_,rfl⟩
   rw[hL] at h5
   have HL:=gd hL
   have HMF2:Hid (∀w':World,Calls Tryz.prog 51 #[.slice (some ⟨w'.heap.size,0,none⟩) 10 10] (w'.alloc (.cells #[.string ⟨#[118,101,114,115,105,111,110]⟩,.string ⟨#[104,116,116,112,115,58,47,47,106,115,111,110,102,101,101,100,46,111,114,103,47,118,101,114,115,105,111,110,47,49,46,49]⟩,.string ⟨#[116,105,116,108,101]⟩,.string xtitle,.string ⟨#[104,111,109,101,95,112,97,103,101,95,117,114,108,63]⟩,.string xlink,.string ⟨#[102,101,101,100,95,117,114,108]⟩,.string xid,.string ⟨#[95,117,112,100,97,116,101,100]⟩,.string F] 9))
    fun r w2=>∃v',r= .returned v'∧w2.ownsRow w'.heap.size 56 9 v' L.length (L.map cellM).flatten∧Ext w' w2):=gd (fun w'=>by have h:=HMF.out w';rw[HL.out] at h;exact h)
   have HML2:Hid (L.length+1≤maxLen):=gd (by unfold maxLen;omega)
   have HBY2:Hid ((L.length+1)*120≤140737488355328):=gd (by omega)
   have HL5:=gd h5
   have hne3:=HNE
   have HONE:Hid (∀(A7:Option Addr) (m7 c7:Nat),∀u∈(L.map cellM).flatten++ [.string nItems,.int .i64 4,.bool false,.int .i64 0,.string ⟨#[]⟩,.slice A7 m7 c7,.slice none 0 0,.int .i64 0,.int .i64 0],u.oneCell'=true):=gd (fun A7 m7 c7 u hu=>by
    rcases List.mem_append.1 hu with hu|hu
    ·exact flat_one (fun c hc=>by
      obtain ⟨m,hm,rfl⟩:=List.mem_map.1 hc
      exact cellM_one m) u hu
    ·exact oneV9 u hu)
   clear hxo hkr hL h5 c0 c1 c2 c3 c4 c5 HMF hne2
   go_wp2_with (first|(refine wpList_store_row rfl 25 (.tmp 2) (.tmp 72) rfl (w.heap.size+1) #[.int .i64 5,.bool false,.int .i64 0,.string ⟨#[]⟩,.slice none 0 0,.slice A9 m9 c9,.int .i64 0] rfl rfl _ _ hkd size_val rfl (all_one oneV7l) ?_)|(go_at_call 50;(have hz:=objectG_any (L.length+1) _ v8 w8 (RSl.of_own HOM8.out) (HONE.out A7 m7 c7) (Nat.le_trans (Nat.succ_le_succ HL5.out) (by decide)));(refine Calls.mono hz ?_);clear hz;rintro e w9 ⟨A9,m9,c9,rfl,ho9,hx9⟩;(have hkd:=hx9.heap HKD.out);(have HX9:=gd (HX8.out.trans hx9));(have HO9:=gd ho9);clear ho9)|(at_builtin;refine wpList_append_rsl _ rfl (.tmp 66) (.tmp 70) _ rfl wa.heap.size 56 i9 _ 9 120 Tryz.underlying23 hi9 hz9 hs9 hb9 rfl (by decide) _ L.length (L.map cellM).flatten rfl HOB.out _ 1 [.string nItems,.int .i64 4,.bool false,.int .i64 0,.string ⟨#[]⟩,.slice A7 m7 c7,.slice none 0 0,.int .i64 0,.int .i64 0] rfl hnew2 oneV9 HML2.out HBY2.out HSZ2.out ?_;intro v8 w8 hown8 hg8 hat8;(have HX8:Hid (Ext W0 w8):=gd (hx.out.trans ((hxa.trans HXB.out).app hg8 HOB.out hxa.size)));(have HKD:Hid (w8.heap[w.heap.size+1]? =some (.cells #[.int .i64 0,.bool false,.int .i64 0,.string ⟨#[]⟩,.slice none 0 0,.slice none 0 0,.int .i64 0] 25 (0,0))):=gd (HX8.out.heap HR0.out));(have HOM8:=gd hown8);(have HOA8:=gd (own_types HO7.out HOB.out (by decide) hg8));(have HEO8:=gd (henc.out.ext ((hxa.trans HXB.out).app hg8 HOB.out hxa.size)));clear hown8)|(go_at_call 52;(have hz:=memberL_any nItems _ 4 false 0 ⟨#[]⟩ A7 m7 c7 none 0 0 0 w7 HRV7.out);(refine Calls.mono hz ?_);clear hz;rintro e w7b ⟨rfl,hx7b⟩;(have hxc:=(hx7.trans hx7b).alloc (.cells #[.string nItems,.int .i64 4,.bool false,.int .i64 0,.string ⟨#[]⟩,.slice A7 m7 c7,.slice none 0 0,.int .i64 0,.int .i64 0] 56));(have hnew2:RSl (w7b.alloc (.cells #[.string nItems,.int .i64 4,.bool false,.int .i64 0,.string ⟨#[]⟩,.slice A7 m7 c7,.slice none 0 0,.int .i64 0,.int .i64 0] 56)) 9 (.slice (some ⟨w7b.heap.size,0,none⟩) 1 1) 1 [.string nItems,.int .i64 4,.bool false,.int .i64 0,.string ⟨#[]⟩,.slice A7 m7 c7,.slice none 0 0,.int .i64 0,.int .i64 0]:=rsl_new (w:=w7b) (n:=1) (cs:= [.string nItems,.int .i64 4,.bool false,.int .i64 0,.string ⟨#[]⟩,.slice A7 m7 c7,.slice none 0 0,.int .i64 0,.int .i64 0]) rfl (by decide));(have HXB:=gd (hx11.trans hxc));(have HOB:=gd (own_ext ho11 hxc));(have HO7:=gd (own_ext ho7 (hx7b.alloc (.cells #[.string nItems,.int .i64 4,.bool false,.int .i64 0,.string ⟨#[]⟩,.slice A7 m7 c7,.slice none 0 0,.int .i64 0,.int .i64 0] 56))));(have HSZ2:=gd HXB.out.size);clear hxc ho7 ho11)|(go_at_call 53;(have hz:=arrayO_any xents.length css.flatten _ w11 (RSl.of_own (own_ext hown.out (hxa.trans hx11))) henc.out.one hne3.out);(refine Calls.mono hz ?_);clear hz;rintro e w7 ⟨A7,m7,c7,rfl,ho7,hx7⟩;(have HRV7:=gd ((henc.out.ext ((hxa.trans hx11).trans hx7)).arr (RSl.of_own ho7))))|(go_at_call 51;(have hz:=HMF2.out wa);(refine Calls.mono hz ?_);clear hz;rintro e w11 ⟨v11,rfl,ho11,hx11⟩)|(go_at_call 49;(have hz:=HFB.out wr (HX0.out.trans hx.out));(with_reducible refine Calls.mono hz ?_);clear hz;rintro e wa ⟨rfl,hxa⟩;(have f1:=hxa.cell d1);(have f2:=hxa.cell d2);(have f3:=hxa.cell d3)))
   ((try simp only[Exit.inBlock,Exit.then]);refine bodyPost_ret (results_cell_row2 rfl _ _ _ _ #[.int .i64 5,.bool false,.int .i64 0,.string ⟨#[]⟩,.slice none 0 0,.slice A9 m9 c9,.int .i64 0] _ _ rfl (setRow_heap _ _ _ _ _ _ hkd) Tryz.underlying25 rfl size_val) rfl ?_)
   have HS:w.heap.size+1<w8.heap.size:=by have h1:=HX8.out.size;have h2:=HWS.out;omega
   have HS2:w.heap.size+1<w11.heap.size:=by have h1:=(hx.out.trans (hxa.trans hx11)).size;have h2:=HWS.out;omega
   have hm:=own_setRow HO9.out HS #[.int .i64 5,.bool false,.int .i64 0,.string ⟨#[]⟩,.slice none 0 0,.slice A9 m9 c9,.int .i64 0]
   have ha:=own_setRow (own_ext HOA8.out hx9) HS2 #[.int .i64 5,.bool false,.int .i64 0,.string ⟨#[]⟩,.slice none 0 0,.slice A9 m9 c9,.int .i64 0]
   have he:=(HEO8.out.ext hx9).setRow hkd #[.int .i64 5,.bool false,.int .i64 0,.string ⟨#[]⟩,.slice none 0 0,.slice A9 m9 c9,.int .i64 0]
   refine ⟨ocells (.slice A9 m9 c9) 0,rfl,?_,((HX0.out.trans HX9.out)).setRow (Nat.le_succ _) _⟩
   unfold encJ
   rw[HL.out]
   exact (rms_items L nItems _ _ _ _ (RSl.of_own hm) (he.arr (RSl.of_own ha))).obj
end
section
set_option linter.unusedSimpArgs false
def textF (f:Fd):ByteArray:=str (jtext (encJ f))
def smallJ (f:Fd):Prop:=(∀s∈ [f.id,f.title,f.link],s.size≤1000000)∧∀e∈f.ents,∀s∈strsE e,s.size≤1000000
theorem okJ_iff {f:Fd}:okJ f=true↔okF f=true∧f.path= []:=by unfold okJ;simp
theorem smallJ_wr {f:Fd} (h:smallJ f) (hf:okJ f=true):wrF 1000000 f:=okF_wr (okJ_iff.1 hf).1 h.1 h.2
theorem jfw_no (x:Fc) (w:World) (hE:Env w) (hr:RdC w x) (hk:fokS x.f) (hno:okJ x.f=false):
 Calls Tryz.prog 20 #[.agg (cellsC x).toArray] w fun e w'=>e= .returned (.tuple #[.string ⟨#[]⟩,.int .i64 22])∧Ext w w':=by
 have HEN:=gd (fun (w':World) (h:Ext w w')=>jenc_no x w' (hE.ext h) (hr.ext h) hk hno)
 obtain ⟨xp,xes,⟨xpath,xid,xtitle,xlink,xupd,xents⟩⟩:=x
 obtain ⟨hx0,hx1⟩:=hr
 dsimp only at*
 obtain ⟨xA,xc,rfl, -, -⟩:=hx0.form
 obtain ⟨xB,xd,rfl, -, -⟩:=hx1.form
 unfold cellsC fCells at HEN⊢
 dsimp only at HEN⊢
 clear hk hno hx0 hx1 hE
 go_enter Tryz.func20,Tryz.ntmps20
 go_wp2_with (first|(go_at_call 18;(have hz:=HEN.out _ ((Ext.refl w).alloc (.cells #[.slice xA xpath.length xc,.string xid,.string xtitle,.string xlink,.int .i64 xupd,.slice xB xents.length xd] 32)));(refine Calls.mono hz ?_);clear hz;rintro e w2 ⟨rfl,hx2⟩))
 go_ret2
 exact ⟨rfl,(((Ext.refl w).alloc _).trans hx2).alloc _⟩
theorem jfw_yes (x:Fc) (w:World) (hE:Env w) (hr:RdC w x) (hk:fokS x.f) (hyes:okJ x.f=true) (hs:smallJ x.f):
 Calls Tryz.prog 20 #[.agg (cellsC x).toArray] w fun e w'=>e= .returned (.tuple #[.string (textF x.f),.int .i64 0])∧Ext w w':=by
 have hwr:=smallJ_wr hs hyes
 have HEN:=gd (fun (w':World) (h:Ext w w')=>jenc_yes x w' (hE.ext h) (hr.ext h) hk hyes)
 have hjl:(jtext (encJ x.f)).length≤140737488355328:=Nat.le_trans (encJ_len (by decide) hwr) (by have:=hk.2.1;omega)
 have hjw:jwrite (encJ x.f)=(textF x.f,0):=if_pos (encJ_valid (by decide) hwr)
 have HWR:=gd (fun (cs:List Value) (w':World) (h:Ext w w') (hv:RV w' (encJ x.f) cs)=>jwrite_any (encJ x.f) cs w' hv (encJ_ok (M:=1000000) (by decide) (by decide) hwr) (hE.ext h) hjl)
 rw[hjw] at HWR
 obtain ⟨T,hT⟩:∃T,textF x.f=T:=⟨_,rfl⟩
 obtain ⟨J,hJ⟩:∃J,encJ x.f=J:=⟨_,rfl⟩
 rw[hT,hJ] at HWR
 rw[hJ] at HEN
 rw[hT]
 clear hT hJ hjw hjl hwr hs
 obtain ⟨xp,xes,⟨xpath,xid,xtitle,xlink,xupd,xents⟩⟩:=x
 obtain ⟨hx0,hx1⟩:=hr
 dsimp only at*
 obtain ⟨xA,xc,rfl, -, -⟩:=hx0.form
 obtain ⟨xB,xd,rfl, -, -⟩:=hx1.form
 unfold cellsC fCells at HEN⊢
 dsimp only at HEN⊢
 clear hk hyes hx0 hx1 hE
 go_enter Tryz.func20,Tryz.ntmps20
 go_wp2_with (first|(go_at_call 56;(have hz:=HWR.out _ _ (HX2.out.alloc (.cells #[.int .i64 k9,.bool b9,.int .i64 x9,.string s9,.slice A9 m9 c9,.slice B9 p9 q9,.int .i64 a9] 25)) (RVn.ext ((Ext.refl w2).alloc (.cells #[.int .i64 k9,.bool b9,.int .i64 x9,.string s9,.slice A9 m9 c9,.slice B9 p9 q9,.int .i64 a9] 25)) _ _ _ HV2.out|>fun h=>⟨_,h⟩));(refine Calls.mono hz ?_);clear hz;rintro e w3 ⟨rfl,hx3⟩)|(go_at_call 18;(have hz:=HEN.out _ ((Ext.refl w).alloc (.cells #[.slice xA xpath.length xc,.string xid,.string xtitle,.string xlink,.int .i64 xupd,.slice xB xents.length xd] 32)));(refine Calls.mono hz ?_);clear hz;rintro e w2 ⟨cs,rfl,⟨nv,hv⟩,hx2⟩;(obtain ⟨k9,b9,x9,s9,A9,m9,c9,B9,p9,q9,a9,rfl⟩:=hv.shape);(have HV2:=gd hv);(have HX2:=gd (((Ext.refl w).alloc (.cells #[.slice xA xpath.length xc,.string xid,.string xtitle,.string xlink,.int .i64 xupd,.slice xB xents.length xd] 32)).trans hx2));clear hv))
 go_ret2
 exact ⟨rfl,(HX2.out.alloc _).trans hx3⟩
end
def docG:List UInt8:= [123,34,118,101,114,115,105,111,110,34,58,34,104,116,116,112,115,58,47,47,106,115,111,110,102,101,101,100,46,111,114,103,47,118,101,114,115,105,111,110,47,49,34,44,34,104,111,109,101,95,112,97,103,101,95,117,114,108,34,58,34,72,34,44,34,105,116,101,109,115,34,58,91,123,34,105,100,34,58,55,125,93,125]
def docH:List UInt8:= [123,34,118,101,114,115,105,111,110,34,58,34,104,116,116,112,115,58,47,47,106,115,111,110,102,101,101,100,46,111,114,103,47,118,101,114,115,105,111,110,47,49,34,44,34,104,111,109,101,95,112,97,103,101,95,117,114,108,34,58,34,72,34,44,34,105,116,101,109,115,34,58,91,123,34,105,100,34,58,116,114,117,101,125,93,125]
def docK:List UInt8:= [123,34,118,101,114,115,105,111,110,34,58,34,104,116,116,112,115,58,47,47,106,115,111,110,102,101,101,100,46,111,114,103,47,118,101,114,115,105,111,110,47,49,46,49,34,44,34,116,105,116,108,101,34,58,34,34,44,34,102,101,101,100,95,117,114,108,34,58,34,70,34,44,34,95,117,112,100,97,116,101,100,34,58,34,49,57,55,48,45,48,49,45,48,49,84,48,48,58,48,48,58,48,48,90,34,44,34,105,116,101,109,115,34,58,91,93,125]
def feedG:Fd:=⟨[],⟨#[72]⟩,noS,⟨#[72]⟩, -62135596800,[⟨⟨#[55]⟩,noS,noS,noS, -62135596800⟩]⟩
def feedK:Fd:=⟨[],⟨#[70]⟩,noS,noS,0,[]⟩
def rdIs (s:List UInt8) (p:JO→Bool):Bool:=match jsonP s with
 |some o=>p o
 |none=>false
theorem rdIs_eq {s:List UInt8} {p:JO→Bool} (h:rdIs s p=true):∃o,jsonP s=some o∧p o=true:=by
 unfold rdIs at h
 cases hj:jsonP s with
 |none=>rw[hj] at h;cases h
 |some o=>rw[hj] at h;exact ⟨o,rfl,h⟩
def okIs (r:Except (Nat×Nat) Fd) (f:Fd):Bool:=match r with
 | .ok g=>decide (g=f)
 | .error _=>false
theorem okIs_eq {r:Except (Nat×Nat) Fd} {f:Fd} (h:okIs r f=true):r= .ok f:=by
 cases r with
 |error e=>cases h
 |ok g=>have:=of_decide_eq_true h;rw[this]
def errIs (r:Except (Nat×Nat) Fd) (f:Nat×Nat):Bool:=match r with
 | .error g=>decide (g=f)
 | .ok _=>false
theorem errIs_eq {r:Except (Nat×Nat) Fd} {f:Nat×Nat} (h:errIs r f=true):r= .error f:=by
 cases r with
 |ok e=>cases h
 |error g=>have:=of_decide_eq_true h;rw[this]
theorem docG_tree:∃o,jsonP docG=some o∧decJ o= .ok feedG∧versJ o=some ⟨#[49]⟩∧(itsW o).length≤10:=by
 obtain ⟨o,h1,h2⟩:=rdIs_eq (s:=docG) (p:=fun o=>okIs (decJ o) feedG && (decide (versJ o=some ⟨#[49]⟩) && decide ((itsW o).length≤10))) (by decide+kernel)
 rw[Bool.and_eq_true,Bool.and_eq_true] at h2
 exact ⟨o,h1,okIs_eq h2.1,of_decide_eq_true h2.2.1,of_decide_eq_true h2.2.2⟩
theorem docH_tree:∃o,jsonP docH=some o∧decJ o= .error (79,21)∧(itsW o).length≤10:=by
 obtain ⟨o,h1,h2⟩:=rdIs_eq (s:=docH) (p:=fun o=>errIs (decJ o) (79,21) && decide ((itsW o).length≤10)) (by decide+kernel)
 rw[Bool.and_eq_true] at h2
 exact ⟨o,h1,errIs_eq h2.1,of_decide_eq_true h2.2⟩
theorem feedG_norm:normF feedG=feedG∧errF feedG=0:=by decide+kernel
theorem feedK_ok:okJ feedK=true:=by decide+kernel
theorem feedK_enc:encJ feedK= .obj [nVersion,nTitle,nFeedUrl,nUpdated,nItems] [.str (str (base1++ [49,46,49])),.str noS,.str ⟨#[70]⟩,.str (str (fmtL 0)),.arr []]:=rfl
theorem feedK_text:jtext (encJ feedK)=docK:=by
 rw[feedK_enc,jtext_obj]
 simp only[List.map_cons,List.map_nil,jtext_arr,jtext]
 decide+kernel
theorem feedK_out:textF feedK=⟨docK.toArray⟩:=by unfold textF;rw[feedK_text];rfl
theorem inT_i64 {t:Int} (h:inT t=true):i64ok t:=by
 unfold inT at h
 rw[Bool.and_eq_true] at h
 have h1:=of_decide_eq_true h.1
 have h2:=of_decide_eq_true h.2
 exact ⟨by omega,by omega⟩
theorem errE_inT {e:Ent} (h:errE e=0):inT e.upd=true:=by
 unfold errE at h
 split at h
 ·rename_i h1;exact absurd h h1
 ·split at h
  ·cases h
  ·split at h
   ·assumption
   ·cases h
theorem headF_inT {f:Fd} (h:headF f=0):inT f.upd=true:=by
 unfold headF at h
 split at h
 ·rename_i h1;exact absurd h h1
 ·split at h
  ·cases h
  ·split at h
   ·cases h
   ·split at h
    ·assumption
    ·cases h
theorem errEs_all:∀{l:List Ent},errEs l=0→∀e∈l,errE e=0
 | [],_,_,h=>by cases h
 |a::t,h,e,he=>by
  unfold errEs at h
  split at h
  ·rename_i h1
   rcases List.mem_cons.1 he with rfl|he
   ·exact h1
   ·exact errEs_all h e he
  ·rename_i h1;exact absurd h h1
theorem dec_small {N:Nat} {j:JO} {f:Fd} (h:jgood N j) (hN:N≤1000000) (hf:decJ j= .ok f):fokS f∧smallJ f:=by
 obtain ⟨h1,h2,h3⟩:=decJ_size (M:=1000000) hN (by decide) h hf
 obtain ⟨hp,he⟩:=decJ_ok hf
 obtain ⟨he1,he2⟩:=errF_zero.1 he
 have a1:=h1 f.id (by simp)
 have a2:=h1 f.title (by simp)
 have a3:=h1 f.link (by simp)
 refine ⟨⟨⟨inT_i64 (headF_inT he1),?_⟩,Nat.le_trans h3 hN,fun e hm=>⟨inT_i64 (errE_inT (errEs_all he2 e hm)),?_⟩⟩,h1,h2⟩
 ·rw[hp]
  have hz:sizes []=0:=rfl
  rw[hz,List.length_nil]
  omega
 ·have b:=h2 e hm
  have b1:=b e.id (by unfold strsE;simp)
  have b2:=b e.title (by unfold strsE;simp)
  have b3:=b e.link (by unfold strsE;simp)
  have b4:=b e.content (by unfold strsE;simp)
  omega
theorem feedK_fok:fokS feedK:=⟨⟨inT_i64 (by decide),by show 0+0+1+0+0≤16777216;decide⟩,by show 0≤1000000;decide,fun e he=>by simp[feedK] at he⟩
theorem feedK_small:smallJ feedK:=⟨fun s hs=>by
 have h:s=(⟨#[70]⟩:ByteArray)∨s=noS:=by
  simp only[feedK,List.mem_cons,List.not_mem_nil,or_false] at hs
  rcases hs with h|h|h
  ·exact Or.inl h
  ·exact Or.inr h
  ·exact Or.inr h
 rcases h with rfl|rfl<;>decide,fun e he=>by simp[feedK] at he⟩
section
set_option linter.unusedSimpArgs false
theorem setRow_new18 (w:World) (zs cs:Array Value) (t:TypeId):(w.alloc (.cells zs t)).setRow w.heap.size cs=w.alloc (.cells cs t):=by
 have e:(w.heap.push (.cells zs t)).modify w.heap.size (fun| .cells _ elem frozen=> .cells cs elem frozen|o=>o)=w.heap.push (.cells cs t):=by
  apply Array.ext_getElem?
  intro i
  rw[Array.getElem?_modify,Array.getElem?_push,Array.getElem?_push]
  split
  ·rename_i h
   rw[if_pos h.symm,if_pos h.symm]
   rfl
  ·rename_i h
   rw[if_neg (fun e=>h e.symm),if_neg (fun e=>h e.symm)]
 show ({(w.alloc (.cells zs t)) with heap:=_}:World)=_
 exact congrArg (fun H=>({w with heap:=H}:World)) e
theorem alive18_any (w:World) (hE:Env w):Calls Tryz.prog 11 #[] w fun e w'=>e= .returned (.bool true)∧Ext w w':=by
 obtain ⟨oG,hG1,hG2,hG3,hG4⟩:=docG_tree
 obtain ⟨oH,hH1,hH2,hH4⟩:=docH_tree
 have jG:=jsonP_ok hG1
 have jH:=jsonP_ok hH1
 have HPG:Hid (∀(s:ByteArray) (w':World),s.data.toList=docG→Calls Tryz.prog 10 #[.string s] w' fun e w2=>PrsR (w'.heap.size+1) w2 (some oG) e∧Ext w' w2):=gd fun s w' h=>by
  have hd:docJ s=some oG:=by unfold docJ;rw[if_neg (by rw[←data_len s,h];decide),h];exact hG1
  have:=parsed_any s w' (by rw[←data_len s,h];unfold reachBytes;decide)
  rw[hd] at this
  exact this
 have HPH:Hid (∀(s:ByteArray) (w':World),s.data.toList=docH→Calls Tryz.prog 10 #[.string s] w' fun e w2=>PrsR (w'.heap.size+1) w2 (some oH) e∧Ext w' w2):=gd fun s w' h=>by
  have hd:docJ s=some oH:=by unfold docJ;rw[if_neg (by rw[←data_len s,h];decide),h];exact hH1
  have:=parsed_any s w' (by rw[←data_len s,h];unfold reachBytes;decide)
  rw[hd] at this
  exact this
 have HDG:=gd (fun (w':World) (cs:List Value) (hx:Ext w w') (hr:RJ w' oG cs)=>jdecode_any 5000 oG cs w' hr (jsz_good (by decide) oG jG) (by decide) (hE.ext hx) (fun f hf=>(dec_small jG (by decide) hf).1) (by omega))
 have HDH:=gd (fun (w':World) (cs:List Value) (hx:Ext w w') (hr:RJ w' oH cs)=>jdecode_any 5000 oH cs w' hr (jsz_good (by decide) oH jH) (by decide) (hE.ext hx) (fun f hf=>(dec_small jH (by decide) hf).1) (by omega))
 rw[hG2] at HDG
 rw[hH2] at HDH
 have HVG:=gd (fun (w':World) (cs:List Value) (hr:RJ w' oG cs)=>jversion_any oG cs w' w' hr (Ext.refl _))
 rw[hG3] at HVG
 have HWK:Hid (∀(w':World),Ext w w'→Calls Tryz.prog 20 #[.agg #[.slice none 0 0,.string ⟨#[70]⟩,.string ⟨#[]⟩,.string ⟨#[]⟩,.int .i64 0,.slice none 0 0]] w' fun e w2=>e= .returned (.tuple #[.string ⟨docK.toArray⟩,.int .i64 0])∧Ext w' w2):=gd fun w' hx=>by
  have h:=jfw_yes ⟨.slice none 0 0,.slice none 0 0,feedK⟩ w' (hE.ext hx) ⟨RSl.nil w' 1,RSl.nil w' 5⟩ feedK_fok feedK_ok feedK_small
  dsimp only at h
  rw[feedK_out] at h
  exact h
 have HNF:Hid (normF feedG=feedG∧errF feedG=0):=gd feedG_norm
 have HDG2:Hid (∀(w':World) (cs:List Value),Ext w w'→RJ w' oG cs→Calls Tryz.prog 12 #[.agg cs.toArray] w' fun e w2=>(∃A5 c5 ad5 d5,e= .returned (.tuple #[.agg #[.slice A5 0 c5,.string ⟨#[72]⟩,.string ⟨#[]⟩,.string ⟨#[72]⟩,.int .i64 (-62135596800),.slice (some ad5) 1 d5],.int .i64 0,.int .i64 0])∧w2.cell? ad5=some (.string ⟨#[55]⟩))∧Ext w' w2):=gd fun w' cs hx hr=>by
  refine Calls.mono (HDG.out w' cs hx hr) ?_
  rintro e w2 ⟨⟨y,rfl,hyf,hyr, -⟩,hx2⟩
  refine ⟨?_,hx2⟩
  rw[feedG_norm.1] at hyf
  obtain ⟨yp,yes,yf⟩:=y
  dsimp only at hyf
  subst hyf
  obtain ⟨hy0,hy1⟩:=hyr
  dsimp only at hy0 hy1
  obtain ⟨A5,c5,rfl, -, -⟩:=hy0.form
  obtain ⟨ad5,d5,rfl,hat⟩:=REnts.at hy1 (k:=0) (by show 0<1;decide)
  have h0:=hat.c0
  rw[Nat.zero_mul,add_zero] at h0
  refine ⟨A5,c5,ad5,d5,?_,h0⟩
  rw[feedG_norm.2]
  rfl
 have HDH2:Hid (∀(w':World) (cs:List Value),Ext w w'→RJ w' oH cs→Calls Tryz.prog 12 #[.agg cs.toArray] w' fun e w2=>e= .returned (.tuple #[.agg #[.slice none 0 0,.string ⟨#[]⟩,.string ⟨#[]⟩,.string ⟨#[]⟩,.int .i64 0,.slice none 0 0],.int .i64 79,.int .i64 21])∧Ext w' w2):=HDH
 have HVG2:Hid (∀(w':World) (cs:List Value),RJ w' oG cs→Calls Tryz.prog 14 #[.agg cs.toArray] w' fun e w2=>e= .returned (.tuple #[.string ⟨#[49]⟩,.bool true])∧Ext w' w2):=HVG
 clear HDG HDH HVG HNF hG1 hG2 hG3 hG4 hH1 hH2 hH4 jG jH hE
 go_enter Tryz.func11,Tryz.ntmps11
 go_wp2_with (first|(refine wpList_store_row rfl 32 (.tmp 8) (.tmp 32) rfl w7.heap.size #[.slice none 0 0,.string ⟨#[]⟩,.string ⟨#[]⟩,.string ⟨#[]⟩,.int .i64 0,.slice none 0 0] rfl rfl _ _ hk8 size_fd18 rfl oneF18 ?_;rw[hs8])|(go_at_call 20;(have hz:=HWK.out w9 HX9.out);(refine Calls.mono hz ?_);clear hz;rintro e w10 ⟨rfl,hx10⟩;(have s1:=hx10.cell r1);(have s3:=hx10.cell r3);(have s5:=hx10.cell r5);(have s7:=hx10.cell r7);clear r1 r3 r5 r7)|(go_at_call 14;(have hz:=HVG2.out W8 _ HRG8.out);(refine Calls.mono hz ?_);clear hz;rintro e w9 ⟨rfl,hx9⟩;(have r1:=hx9.cell h1);(have r3:=hx9.cell h3);(have r5:=hx9.cell h5);(have r7:=hx9.cell h7);(have HX9:=gd (HX8.out.trans hx9));clear h1 h3 h5 h7)|(go_at_call 12;(have hz:=HDH2.out W6 _ HX6.out HRH6.out);(refine Calls.mono hz ?_);clear hz;rintro e w7 ⟨rfl,hx7⟩;(obtain ⟨W8,hW8⟩:∃W8,w7.alloc (.cells #[.slice none 0 0,.string ⟨#[]⟩,.string ⟨#[]⟩,.string ⟨#[]⟩,.int .i64 0,.slice none 0 0] 32)=W8:=⟨_,rfl⟩);(have hs8:W8.setRow w7.heap.size #[.slice none 0 0,.string ⟨#[]⟩,.string ⟨#[]⟩,.string ⟨#[]⟩,.int .i64 0,.slice none 0 0]=W8:=by rw[←hW8,setRow_new18]);(have hk8:W8.heap[w7.heap.size]? =some (.cells #[.slice none 0 0,.string ⟨#[]⟩,.string ⟨#[]⟩,.string ⟨#[]⟩,.int .i64 0,.slice none 0 0] 32 (0,0)):=by rw[←hW8];exact heap_alloc_new w7 _);(have hx8:Ext W6 W8:=by rw[←hW8];exact hx7.alloc _);(have o0:=(hx8).cell n0);(have o1:=(hx8).cell n1);(have o2:=(hx8).cell n2);(have o3:=(hx8).cell n3);(have o4:=(hx8).cell n4);(have o5:=(hx8).cell n5);(have o6:=(hx8).cell n6);(have h1:=hx8.cell g1);(have h3:=hx8.cell g3);(have h5:=hx8.cell g5);(have h7:=hx8.cell g7);(have HX8:=gd (HX6.out.trans hx8));(have HRG8:=gd (HRG6.out.ext hx8));clear g1 g3 g5 g7 n0 n1 n2 n3 n4 n5 n6)|(go_at_call 12;(have hz:=HDG2.out W4 _ HX4.out HRG.out);(refine Calls.mono hz ?_);clear hz;rintro e w5 ⟨⟨A5,c5,ad5,d5,rfl,q7⟩,hx5⟩;(obtain ⟨W6,hW6⟩:∃W6,w5.alloc (.cells #[.slice A5 0 c5,.string ⟨#[72]⟩,.string ⟨#[]⟩,.string ⟨#[72]⟩,.int .i64 (-62135596800),.slice (some ad5) 1 d5] 32)=W6:=⟨_,rfl⟩);(have hx56:Ext w5 W6:=by rw[←hW6];exact (Ext.refl w5).alloc _);(have hx6:=hx5.trans hx56);(have f0:=(hx6).cell e0);(have f1:=(hx6).cell e1);(have f2:=(hx6).cell e2);(have f3:=(hx6).cell e3);(have f4:=(hx6).cell e4);(have f5:=(hx6).cell e5);(have f6:=(hx6).cell e6);(have n0:=(hx6).cell b0);(have n1:=(hx6).cell b1);(have n2:=(hx6).cell b2);(have n3:=(hx6).cell b3);(have n4:=(hx6).cell b4);(have n5:=(hx6).cell b5);(have n6:=(hx6).cell b6);(have hbf:∀i v,(#[.slice A5 0 c5,.string ⟨#[72]⟩,.string ⟨#[]⟩,.string ⟨#[72]⟩,.int .i64 (-62135596800),.slice (some ad5) 1 d5]:Array Value)[i]? =some v→W6.cell? ⟨w5.heap.size,i,none⟩=some v:=fun i v h=>by rw[←hW6];exact (Ext.refl (w5.alloc _)).boxed i v h);(have g1:=hbf 1 _ rfl);(have g3:=hbf 3 _ rfl);(have g5:=hbf 5 _ rfl);(have g7:=hx56.cell q7);(have HX6:=gd (HX4.out.trans hx6));(have HRG6:=gd (HRG.out.ext hx6));(have HRH6:=gd (HRH.out.ext hx6));clear hbf q7 b0 b1 b2 b3 b4 b5 b6 e0 e1 e2 e3 e4 e5 e6)|(go_at_call 10;refine Calls.mono (HPH.out _ _ (by exact rfl)) ?_;rintro e w3 ⟨⟨A2,p2,c2,C2,q2,d2,m2,rfl,hnj2⟩,hx3⟩;(obtain ⟨W4,hW4⟩:∃W4,w3.alloc (.cells #[.int .i64 (kindJ oH:Nat),.bool (bJ oH),.int .i64 (nJ oH),.string (sJ oH),.slice A2 p2 c2,.slice C2 q2 d2,.int .i64 (atJ oH:Nat)] 25)=W4:=⟨_,rfl⟩);(have hx4:Ext w3 W4:=by rw[←hW4];exact (Ext.refl w3).alloc _);(have b0:=(hx3.trans hx4).cell a0);(have b1:=(hx3.trans hx4).cell a1);(have b2:=(hx3.trans hx4).cell a2);(have b3:=(hx3.trans hx4).cell a3);(have b4:=(hx3.trans hx4).cell a4);(have b5:=(hx3.trans hx4).cell a5);(have b6:=(hx3.trans hx4).cell a6);(have hbh:∀i v,(#[.int .i64 (kindJ oH:Nat),.bool (bJ oH),.int .i64 (nJ oH),.string (sJ oH),.slice A2 p2 c2,.slice C2 q2 d2,.int .i64 (atJ oH:Nat)]:Array Value)[i]? =some v→W4.cell? ⟨w3.heap.size,i,none⟩=some v:=fun i v h=>by rw[←hW4];exact (Ext.refl (w3.alloc _)).boxed i v h);(have e0:=hbh 0 _ rfl);(have e1:=hbh 1 _ rfl);(have e2:=hbh 2 _ rfl);(have e3:=hbh 3 _ rfl);(have e4:=hbh 4 _ rfl);(have e5:=hbh 5 _ rfl);(have e6:=hbh 6 _ rfl);(have HX4:=gd (HX2.out.trans (hx3.trans hx4)));(have HRG:=gd (HRG2.out.ext (hx3.trans hx4)));(have HRH:Hid (RJ W4 oH (wcells (kindJ oH) (bJ oH) (nJ oH) (sJ oH) (.slice A2 p2 c2) (.slice C2 q2 d2) (atJ oH))):=gd (RJ.ext ⟨m2,hnj2.rj⟩ hx4));clear hnj2 hbh a0 a1 a2 a3 a4 a5 a6)|(go_at_call 10;refine Calls.mono (HPG.out _ _ (by exact rfl)) ?_;rintro e w1 ⟨⟨A,p,c,C,q,d,m,rfl,hnj⟩,hx1⟩;(obtain ⟨W2,hW2⟩:∃W2,w1.alloc (.cells #[.int .i64 (kindJ oG:Nat),.bool (bJ oG),.int .i64 (nJ oG),.string (sJ oG),.slice A p c,.slice C q d,.int .i64 (atJ oG:Nat)] 25)=W2:=⟨_,rfl⟩);(have hx2:Ext w1 W2:=by rw[←hW2];exact (Ext.refl w1).alloc _);(have hbg:∀i v,(#[.int .i64 (kindJ oG:Nat),.bool (bJ oG),.int .i64 (nJ oG),.string (sJ oG),.slice A p c,.slice C q d,.int .i64 (atJ oG:Nat)]:Array Value)[i]? =some v→W2.cell? ⟨w1.heap.size,i,none⟩=some v:=fun i v h=>by rw[←hW2];exact (Ext.refl (w1.alloc _)).boxed i v h);(have a0:=hbg 0 _ rfl);(have a1:=hbg 1 _ rfl);(have a2:=hbg 2 _ rfl);(have a3:=hbg 3 _ rfl);(have a4:=hbg 4 _ rfl);(have a5:=hbg 5 _ rfl);(have a6:=hbg 6 _ rfl);(have HX2:=gd (hx1.trans hx2));(have HRG2:Hid (RJ W2 oG (wcells (kindJ oG) (bJ oG) (nJ oG) (sJ oG) (.slice A p c) (.slice C q d) (atJ oG))):=gd (RJ.ext ⟨m,hnj.rj⟩ hx2));clear hnj hbg))
 go_ret
 exact ⟨rfl,HX9.out.trans hx10⟩
end
section
set_option linter.unusedSimpArgs false
theorem small_J {f:Fd} (hw:fwide f) (h:¬5000<bigF f):fokS f∧smallJ f:=by
 have h':bigH f+bigP f.path+bigEs f.ents≤5000:=by unfold bigF at h;omega
 have hh:bigH f≤5000:=by omega
 unfold bigH capN at hh
 refine ⟨small_fok hw (by omega),fun s hs=> ?_,fun e he s hs=> ?_⟩
 ·simp only[List.mem_cons,List.not_mem_nil,or_false] at hs
  rcases hs with rfl|rfl|rfl<;>omega
 ·have hb:=bigE_mem he
  have hc:bigE e≤5000:=by omega
  unfold bigE capN at hc
  unfold strsE at hs
  simp only[List.mem_cons,List.not_mem_nil,or_false] at hs
  rcases hs with rfl|rfl|rfl|rfl<;>omega
end
section
set_option linter.unusedSimpArgs false
def objO (l:List (ByteArray×ByteArray)):JO:= .obj 0 (l.map fun p=>(p.1,0)) (l.map fun p=> .str 0 p.2)
def encO (f:Fd):JO:= .obj 0 ((feedM f).map (fun p=>(p.1,0))++ [(nItems,0)]) ((feedM f).map (fun p=>JO.str 0 p.2)++ [.arr 0 (f.ents.map fun e=>objO (entM e))])
theorem str_rj (w:World) (s:ByteArray):RJn 1 w (.str 0 s) (strCells s):=RJn.leaf (j:= .str 0 s) ⟨rfl,rfl,rfl⟩
theorem obj_rj {w:World} {l:List (ByteArray×ByteArray)} {v:Value} (h:RSl w 9 v l.length (l.map cellM).flatten):RJn 2 w (objO l) (ocells v 0):=by
 refine ⟨.slice none 0 0,v,rfl,⟨[],rfl,RSl.nil w 7,fun i j c hj _=>by simp[objO,itemsJ] at hj⟩,⟨l.map fun p=>(p.1,strCells p.2,0),?_,by simp[objO,vsJ],?_,fun i j m hj hm=> ?_⟩,fun _=>rfl,fun e=>absurd rfl e⟩
 ·simp[objO,ksJ,List.map_map,Function.comp_def]
 ·show RSl w 9 v (l.map fun p=>JO.str 0 p.2).length _
  rw[List.length_map,List.map_map]
  exact h
 ·have hj':(l.map fun p=>JO.str 0 p.2)[i]? =some j:=hj
  rw[List.getElem?_map] at hj' hm
  cases hl:l[i]? with
  |none=>rw[hl] at hj';cases hj'
  |some p=>
   rw[hl] at hj' hm
   injection hj' with hj'
   injection hm with hm
   subst hj' hm
   exact str_rj w p.2
theorem arr_rj {w:World} {l:List Ent} {css:List (List Value)} {v:Value} (h:EncO w l css) (hr:RSl w 7 v l.length css.flatten):RJn 3 w (.arr 0 (l.map fun e=>objO (entM e))) (vcells 4 false 0 ⟨#[]⟩ v 0):=by
 refine ⟨v,.slice none 0 0,rfl,⟨css,by simp[itemsJ,h.1],?_,fun i j c hj hc=> ?_⟩,⟨[],rfl,rfl,RSl.nil w 9,fun i j m hj _=>by simp[vsJ] at hj⟩,fun e=>absurd rfl e,fun _=>rfl⟩
 ·show RSl w 7 v (l.map fun e=>objO (entM e)).length _
  rw[List.length_map]
  exact hr
 ·have hj':(l.map fun e=>objO (entM e))[i]? =some j:=hj
  rw[List.getElem?_map] at hj'
  cases hl:l[i]? with
  |none=>rw[hl] at hj';cases hj'
  |some e=>
   rw[hl] at hj'
   injection hj' with hj'
   subst hj'
   obtain ⟨A,n,d,rfl,ho⟩:=h.2 i e c hl hc
   exact obj_rj (RSl.of_own ho)
theorem enc_rj {w:World} {l:List (ByteArray×ByteArray)} {E:List Ent} {css:List (List Value)} {v u:Value} (h:EncO w E css) (hr:RSl w 7 u E.length css.flatten)
 (hm:RSl w 9 v (l.length+1) ((l.map cellM).flatten++ [.string nItems,.int .i64 4,.bool false,.int .i64 0,.string ⟨#[]⟩,u,.slice none 0 0,.int .i64 0,.int .i64 0])):
 RJ w (.obj 0 (l.map (fun p=>(p.1,0))++ [(nItems,0)]) (l.map (fun p=>JO.str 0 p.2)++ [.arr 0 (E.map fun e=>objO (entM e))])) (ocells v 0):=by
 refine ⟨4,.slice none 0 0,v,rfl,⟨[],rfl,RSl.nil w 7,fun i j c hj _=>by simp[itemsJ] at hj⟩,⟨(l.map fun p=>(p.1,strCells p.2,0))++ [(nItems,vcells 4 false 0 ⟨#[]⟩ u 0,0)],?_,by simp[vsJ],?_,fun i j m hj hm2=> ?_⟩,fun _=>rfl,fun e=>absurd rfl e⟩
 ·simp[ksJ,List.map_map,Function.comp_def]
 ·show RSl w 9 v (l.map (fun p=>JO.str 0 p.2)++ [JO.arr 0 (E.map fun e=>objO (entM e))]).length _
  rw[List.length_append,List.length_map,List.map_append,List.flatten_append,List.map_map]
  exact hm
 ·have hj':(l.map (fun p=>JO.str 0 p.2)++ [JO.arr 0 (E.map fun e=>objO (entM e))])[i]? =some j:=hj
  by_cases hi:i<l.length
  ·rw[List.getElem?_append_left (by simpa using hi),List.getElem?_map,List.getElem?_eq_getElem hi] at hj' hm2
   injection hj' with hj'
   injection hm2 with hm2
   subst hj' hm2
   exact (str_rj w l[i].2).more (by decide)
  ·rw[List.getElem?_append_right (by simpa using hi),List.length_map] at hj' hm2
   have h0:i - l.length=0:=by
    by_cases h0:i - l.length=0
    ·exact h0
    ·rw[List.getElem?_eq_none (by simp;omega)] at hj'
     cases hj'
   rw[h0] at hj' hm2
   injection hj' with hj'
   injection hm2 with hm2
   subst hj' hm2
   exact arr_rj h hr
theorem erase_obj (l:List (ByteArray×ByteArray)):eraseJ (objO l)=objS l:=by
 unfold objO objS
 simp[eraseJ,List.map_map,Function.comp_def]
theorem erase_enc (f:Fd):eraseJ (encO f)=encJ f:=by
 unfold encO encJ
 simp[eraseJ,List.map_map,Function.comp_def,erase_obj]
theorem jenc_yes0 (x:Fc) (w:World) (hE:Env w) (hr:RdC w x) (hk:fokS x.f) (hyes:okJ x.f=true):
 Calls Tryz.prog 18 #[.agg (cellsC x).toArray] w fun e w'=>∃A n c,e= .returned (.tuple #[.agg (ocells (.slice A n c) 0).toArray,.int .i64 0])∧RJ w' (encO x.f) (ocells (.slice A n c) 0)∧Ext w w':=by
 have hyes2:okF x.f=true∧x.f.path= []:=by
  unfold okJ at hyes
  simpa using hyes
 obtain ⟨hokF,hpath⟩:=hyes2
 have HCK:=gd (fun (w':World) (h:Ext w w')=>mCheckF_any x w' (hE.ext h) (hr.ext h) hk)
 rw[if_pos hokF] at HCK
 have htF:inT x.f.upd=true:=(okH_iff.1 (okF_iff.1 hokF).1).2.2.2.1
 have htE:∀e∈x.f.ents,inT e.upd=true:=fun e he=>(okE_iff.1 ((okL_iff.1 (okF_iff.1 hokF).2).1 e he)).2.2
 have hnE:=hk.2.1
 have hr1:=hr.2
 clear hokF hyes hk
 obtain ⟨xp,xes,⟨xpath,xid,xtitle,xlink,xupd,xents⟩⟩:=x
 obtain ⟨hx0,hx1⟩:=hr
 dsimp only at*
 subst hpath
 obtain ⟨xA,xc,rfl, -, -⟩:=hx0.form
 obtain ⟨xB,xd,rfl, -, -⟩:=hx1.form
 unfold cellsC fCells at HCK⊢
 dsimp only[List.length_nil] at HCK⊢
 obtain ⟨i0,hi0,hz0,hz1,hz2⟩:=info_parts_val
 obtain ⟨i9,hi9,hz9,hs9,hb9⟩:=info_partsM
 obtain ⟨W0,hW0⟩:∃W0,(w.alloc (.cells #[.slice xA 0 xc,.string xid,.string xtitle,.string xlink,.int .i64 xupd,.slice xB xents.length xd] 32)).alloc (.cells #[.int .i64 0,.bool false,.int .i64 0,.string ⟨#[]⟩,.slice none 0 0,.slice none 0 0,.int .i64 0] 25)=W0:=⟨_,rfl⟩
 have hx0':Ext w W0:=by rw[←hW0];exact ((Ext.refl w).alloc _).alloc _
 have hr0:W0.heap[w.heap.size+1]? =some (.cells #[.int .i64 0,.bool false,.int .i64 0,.string ⟨#[]⟩,.slice none 0 0,.slice none 0 0,.int .i64 0] 25 (0,0)):=by
  rw[←hW0]
  have:=heap_alloc_new (w.alloc (.cells #[.slice xA 0 xc,.string xid,.string xtitle,.string xlink,.int .i64 xupd,.slice xB xents.length xd] 32)) (.cells #[.int .i64 0,.bool false,.int .i64 0,.string ⟨#[]⟩,.slice none 0 0,.slice none 0 0,.int .i64 0] 25)
  rwa [size_alloc] at this
 have hb0:∀i v,(#[.slice xA 0 xc,.string xid,.string xtitle,.string xlink,.int .i64 xupd,.slice xB xents.length xd]:Array Value)[i]? =some v→W0.cell? ⟨w.heap.size,i,none⟩=some v:=fun i v h=>by
  rw[←hW0]
  exact ((Ext.refl (w.alloc _)).alloc _).boxed i v h
 have c0:=hb0 0 _ rfl
 have c1:=hb0 1 _ rfl
 have c2:=hb0 2 _ rfl
 have c3:=hb0 3 _ rfl
 have c4:=hb0 4 _ rfl
 have c5:=hb0 5 _ rfl
 have hW0s:W0.heap.size=w.heap.size+2:=by rw[←hW0,size_alloc,size_alloc]
 have HFB:=gd (fun (w':World) (h:Ext w w')=>format_any xupd w' (hE.ext h) htF)
 have HFE:=gd (fun (w':World) (h:Ext w w') (t:Int) (ht:inT t=true)=>format_any t w' (hE.ext h) ht)
 have HTE:=gd htE
 have HNE:=gd hnE
 have HR1:=gd (fun (w':World) (h:Ext w w')=>hr1.ext h)
 have HX0:=gd hx0'
 have HR0:=gd hr0
 obtain ⟨F,hF⟩:∃F,F=str (fmtL xupd):=⟨_,rfl⟩
 rw[←hF] at HFB
 have HMF:=gd (fun (w':World)=>members_feed ⟨[],xid,xtitle,xlink,xupd,xents⟩ F hF w')
 dsimp only at HMF
 have HB:=gd hb0
 have HWS:=gd hW0s
 clear hx0' hr0 hx0 hx1 hE hb0 htF htE hnE hr1 hF hW0s
 go_enter Tryz.func18,Tryz.ntmps18
 go_wp2_with (first|(go_at_call 48;(have hz:=HCK.out W0 HX0.out);(with_reducible refine Calls.mono hz ?_);clear hz;rintro e w2 ⟨rfl,hx2⟩;(have d0:=hx2.cell c0);(have d5:=hx2.cell c5);(have HX2:=gd hx2)))
 clear d0 d5 hx2
 go_loopw [4,25] (fun v i wr=>∃(k:Nat) (css:List (List Value)),k≤xents.length∧i= .int .i64 k∧Hid (EncO wr (xents.take k) css)∧Hid (wr.ownsRow (w.heap.size+2) 25 7 v k css.flatten)∧Hid (Ext W0 wr)) (fun _ i _=>xents.length - (intOf i).toNat)
 case atStart=>exact ⟨0,[],Nat.zero_le _,rfl,gd (EncO.nil _),gd (World.ownsRow_nil _ _ _ _),HX2⟩
 case round=>
  obtain ⟨k,css,hkl,rfl,henc,hown,hx⟩:=hrel
  have hne2:=HNE.out
  by_cases hlt:k<xents.length
  ·obtain ⟨ad,c',hv,hat⟩:=(HR1.out wr (HX0.out.trans hx.out)).at hlt
   injection hv with hv1 hv2 hv3
   subst hv1
   clear hv2 hv3
   have hte:=HTE.out _ (List.getElem_mem hlt)
   have htk:xents.take (k+1)=xents.take k++ [xents[k]]:=List.take_succ_eq_append_getElem hlt
   obtain ⟨E,hEE⟩:∃E,xents[k]=E:=⟨_,rfl⟩
   rw[hEE] at hat hte htk
   obtain ⟨eid,etitle,elink,econt,eupd⟩:=E
   obtain ⟨a0,a1,a2,a3,a4⟩:=hat
   dsimp only at a0 a1 a2 a3 a4 hte
   obtain ⟨F1,hF1⟩:∃F1,F1=str (fmtL eupd):=⟨_,rfl⟩
   have HME:=gd (fun (w':World)=>members_ent ⟨eid,etitle,elink,econt,eupd⟩ F1 hF1 w')
   dsimp only at HME
   have HF1:=gd (fun (w':World) (h:Ext w w')=>HFE.out w' h eupd hte)
   rw[←hF1] at HF1
   have HTK:=gd htk
   have hi0':(0:Int)≤(k:Int):=by omega
   have hi1:(k:Int)<(xents.length:Int):=by omega
   have hw1:wrap64 ((k:Int)+1)=(k:Int)+1:=wrap_ok _ ⟨by omega,by omega⟩
   have HBY:Hid ((k+1)*96≤140737488355328):=gd (by omega)
   have HML:Hid (k+1≤maxLen):=gd (by unfold maxLen;omega)
   have HWE:Hid (Value.int .i64 (wrap64 ((k:Int)+1))=Value.int .i64 ((k+1:Nat):Int)):=gd (by rw[hw1];rfl)
   have HMS:Hid (xents.length - (intOf (Value.int .i64 (wrap64 ((k:Int)+1)))).toNat<xents.length - (intOf (Value.int .i64 (k:Int))).toNat):=gd (by rw[hw1];simp only[intOf];omega)
   clear hEE hte htk hF1 hne2 hw1 c0 c1 c2 c3 c4 c5
   obtain ⟨W1,hW1⟩:∃W1,wr.alloc (.cells #[.string eid,.string etitle,.string elink,.string econt,.int .i64 eupd] 64)=W1:=⟨_,rfl⟩
   have hx1:Ext wr W1:=by rw[←hW1];exact (Ext.refl wr).alloc _
   have he0:∀i v,(#[.string eid,.string etitle,.string elink,.string econt,.int .i64 eupd]:Array Value)[i]? =some v→W1.cell? ⟨wr.heap.size,i,none⟩=some v:=fun i v h=>by
    rw[←hW1]
    exact (Ext.refl (wr.alloc _)).boxed i v h
   have b0:=he0 0 _ rfl
   have b1:=he0 1 _ rfl
   have b2:=he0 2 _ rfl
   have b3:=he0 3 _ rfl
   have b4:=he0 4 _ rfl
   have HX1:=gd hx1
   clear hx1 he0
   go_wp2_with (first|(at_builtin;refine wpList_append_rsl _ rfl (.tmp 35) (.tmp 48) _ rfl (w.heap.size+2) 25 i0 _ 7 96 Tryz.underlying22 hi0 hz0 hz1 hz2 rfl (by decide) _ k css.flatten rfl HOW5.out _ 1 [.int .i64 5,.bool false,.int .i64 0,.string ⟨#[]⟩,.slice none 0 0,.slice A4 n4 c4',.int .i64 0] rfl hnew oneV7l HML.out HBY.out HSZ.out ?_;intro v9 w9 hown9 hg9 hat9)|(go_at_call 50;(have hz:=objectO_any (entM ⟨eid,etitle,elink,econt,eupd⟩) v3 w3 (RSl.of_own HO3.out) (Nat.le_trans (entM_len _) (by decide)));(refine Calls.mono hz ?_);clear hz;rintro e w4 ⟨A4,n4,c4',rfl,ho4,hx4⟩;(have hx5:=((hx2'.trans hx3').trans hx4).alloc (.cells #[.int .i64 5,.bool false,.int .i64 0,.string ⟨#[]⟩,.slice none 0 0,.slice A4 n4 c4',.int .i64 0] 25));(have hnew:RSl (w4.alloc (.cells #[.int .i64 5,.bool false,.int .i64 0,.string ⟨#[]⟩,.slice none 0 0,.slice A4 n4 c4',.int .i64 0] 25)) 7 (.slice (some ⟨w4.heap.size,0,none⟩) 1 1) 1 [.int .i64 5,.bool false,.int .i64 0,.string ⟨#[]⟩,.slice none 0 0,.slice A4 n4 c4',.int .i64 0]:=rsl_new (w:=w4) (n:=1) (cs:= [.int .i64 5,.bool false,.int .i64 0,.string ⟨#[]⟩,.slice none 0 0,.slice A4 n4 c4',.int .i64 0]) rfl (by decide));(have HOW5:=gd (own_ext hown.out (HX1.out.trans hx5)));(have HX5:=gd (HX1.out.trans hx5));(have HO4:=gd (own_ext ho4 ((Ext.refl w4).alloc (.cells #[.int .i64 5,.bool false,.int .i64 0,.string ⟨#[]⟩,.slice none 0 0,.slice A4 n4 c4',.int .i64 0] 25))));(have HSZ:=gd (Nat.le_trans (Nat.le_of_eq HWS.out.symm) (hx.out.trans HX5.out).size));clear ho4 hx5)|(go_at_call 51;(have hz:=HME.out w2');(refine Calls.mono hz ?_);clear hz;rintro e w3 ⟨v3,rfl,ho3,hx3'⟩;(have HO3:=gd ho3);clear ho3)|(go_at_call 49;(have hz:=HF1.out W1 ((HX0.out.trans hx.out).trans HX1.out));(with_reducible refine Calls.mono hz ?_);clear hz;rintro e w2' ⟨rfl,hx2'⟩;(have f0:=hx2'.cell b0);(have f1:=hx2'.cell b1);(have f2:=hx2'.cell b2);(have f3:=hx2'.cell b3)))
   have HXX:Hid (Ext W0 w9):=gd ((hx.out.trans HX5.out).app hg9 HOW5.out (Nat.le_of_eq HWS.out))
   have HOWN:Hid (w9.ownsRow (w.heap.size+2) 25 7 v9 (k+1) (css++ [ocells (.slice A4 n4 c4') 0]).flatten):=gd (by rw[List.flatten_append];simpa [ocells] using hown9)
   have HEO:Hid (EncO w9 (xents.take (k+1)) (css++ [ocells (.slice A4 n4 c4') 0])):=gd (by
    rw[HTK.out]
    exact ((henc.out.ext HX5.out).app HOW5.out hg9).snoc (own_types HO4.out HOW5.out (by decide) hg9))
   go_roundw
   case rel=>exact ⟨k+1,_,hlt,HWE.out,HEO,HOWN,HXX⟩
   case measure=>exact HMS.out
  ·have hke:k=xents.length:=by omega
   subst hke
   rw[List.take_length] at henc
   have hxo:=hx.out
   have d1:=hxo.cell c1
   have d2:=hxo.cell c2
   have d3:=hxo.cell c3
   have d4:=hxo.cell c4
   have hkr:=hxo.heap HR0.out
   have HKR:=gd hkr
   have h5:=feedM_len5 ⟨[],xid,xtitle,xlink,xupd,xents⟩
   obtain ⟨L,hL⟩:∃L,feedM ⟨[],xid,xtitle,xlink,xupd,xents⟩=L:=⟨_,rfl⟩
   rw[hL] at h5
   have HL:=gd hL
   have HMF2:Hid (∀w':World,Calls Tryz.prog 51 #[.slice (some ⟨w'.heap.size,0,none⟩) 10 10] (w'.alloc (.cells #[.string ⟨#[118,101,114,115,105,111,110]⟩,.string ⟨#[104,116,116,112,115,58,47,47,106,115,111,110,102,101,101,100,46,111,114,103,47,118,101,114,115,105,111,110,47,49,46,49]⟩,.string ⟨#[116,105,116,108,101]⟩,.string xtitle,.string ⟨#[104,111,109,101,95,112,97,103,101,95,117,114,108,63]⟩,.string xlink,.string ⟨#[102,101,101,100,95,117,114,108]⟩,.string xid,.string ⟨#[95,117,112,100,97,116,101,100]⟩,.string F] 9))
    fun r w2=>∃v',r= .returned v'∧w2.ownsRow w'.heap.size 56 9 v' L.length (L.map cellM).flatten∧Ext w' w2):=gd (fun w'=>by have h:=HMF.out w';rw[HL.out] at h;exact h)
   have HML2:Hid (L.length+1≤maxLen):=gd (by unfold maxLen;omega)
   have HBY2:Hid ((L.length+1)*120≤140737488355328):=gd (by omega)
   have HL5:=gd h5
   have hne3:=HNE
   have HONE:Hid (∀(A7:Option Addr) (m7 c7:Nat),∀u∈(L.map cellM).flatten++ [.string nItems,.int .i64 4,.bool false,.int .i64 0,.string ⟨#[]⟩,.slice A7 m7 c7,.slice none 0 0,.int .i64 0,.int .i64 0],u.oneCell'=true):=gd (fun A7 m7 c7 u hu=>by
    rcases List.mem_append.1 hu with hu|hu
    ·exact flat_one (fun c hc=>by
      obtain ⟨m,hm,rfl⟩:=List.mem_map.1 hc
      exact cellM_one m) u hu
    ·exact oneV9 u hu)
   clear hxo hkr hL h5 c0 c1 c2 c3 c4 c5 HMF hne2
   go_wp2_with (first|(refine wpList_store_row rfl 25 (.tmp 2) (.tmp 72) rfl (w.heap.size+1) #[.int .i64 5,.bool false,.int .i64 0,.string ⟨#[]⟩,.slice none 0 0,.slice A9 m9 c9,.int .i64 0] rfl rfl _ _ hkd size_val rfl (all_one oneV7l) ?_)|(go_at_call 50;(have hz:=objectG_any (L.length+1) _ v8 w8 (RSl.of_own HOM8.out) (HONE.out A7 m7 c7) (Nat.le_trans (Nat.succ_le_succ HL5.out) (by decide)));(refine Calls.mono hz ?_);clear hz;rintro e w9 ⟨A9,m9,c9,rfl,ho9,hx9⟩;(have hkd:=hx9.heap HKD.out);(have HX9:=gd (HX8.out.trans hx9));(have HO9:=gd ho9);clear ho9)|(at_builtin;refine wpList_append_rsl _ rfl (.tmp 66) (.tmp 70) _ rfl wa.heap.size 56 i9 _ 9 120 Tryz.underlying23 hi9 hz9 hs9 hb9 rfl (by decide) _ L.length (L.map cellM).flatten rfl HOB.out _ 1 [.string nItems,.int .i64 4,.bool false,.int .i64 0,.string ⟨#[]⟩,.slice A7 m7 c7,.slice none 0 0,.int .i64 0,.int .i64 0] rfl hnew2 oneV9 HML2.out HBY2.out HSZ2.out ?_;intro v8 w8 hown8 hg8 hat8;(have HX8:Hid (Ext W0 w8):=gd (hx.out.trans ((hxa.trans HXB.out).app hg8 HOB.out hxa.size)));(have HKD:Hid (w8.heap[w.heap.size+1]? =some (.cells #[.int .i64 0,.bool false,.int .i64 0,.string ⟨#[]⟩,.slice none 0 0,.slice none 0 0,.int .i64 0] 25 (0,0))):=gd (HX8.out.heap HR0.out));(have HOM8:=gd hown8);(have HOA8:=gd (own_types HO7.out HOB.out (by decide) hg8));(have HEO8:=gd (henc.out.ext ((hxa.trans HXB.out).app hg8 HOB.out hxa.size)));clear hown8)|(go_at_call 52;(have hz:=memberL_any nItems _ 4 false 0 ⟨#[]⟩ A7 m7 c7 none 0 0 0 w7 HRV7.out);(refine Calls.mono hz ?_);clear hz;rintro e w7b ⟨rfl,hx7b⟩;(have hxc:=(hx7.trans hx7b).alloc (.cells #[.string nItems,.int .i64 4,.bool false,.int .i64 0,.string ⟨#[]⟩,.slice A7 m7 c7,.slice none 0 0,.int .i64 0,.int .i64 0] 56));(have hnew2:RSl (w7b.alloc (.cells #[.string nItems,.int .i64 4,.bool false,.int .i64 0,.string ⟨#[]⟩,.slice A7 m7 c7,.slice none 0 0,.int .i64 0,.int .i64 0] 56)) 9 (.slice (some ⟨w7b.heap.size,0,none⟩) 1 1) 1 [.string nItems,.int .i64 4,.bool false,.int .i64 0,.string ⟨#[]⟩,.slice A7 m7 c7,.slice none 0 0,.int .i64 0,.int .i64 0]:=rsl_new (w:=w7b) (n:=1) (cs:= [.string nItems,.int .i64 4,.bool false,.int .i64 0,.string ⟨#[]⟩,.slice A7 m7 c7,.slice none 0 0,.int .i64 0,.int .i64 0]) rfl (by decide));(have HXB:=gd (hx11.trans hxc));(have HOB:=gd (own_ext ho11 hxc));(have HO7:=gd (own_ext ho7 (hx7b.alloc (.cells #[.string nItems,.int .i64 4,.bool false,.int .i64 0,.string ⟨#[]⟩,.slice A7 m7 c7,.slice none 0 0,.int .i64 0,.int .i64 0] 56))));(have HSZ2:=gd HXB.out.size);clear hxc ho7 ho11)|(go_at_call 53;(have hz:=arrayO_any xents.length css.flatten _ w11 (RSl.of_own (own_ext hown.out (hxa.trans hx11))) henc.out.one hne3.out);(refine Calls.mono hz ?_);clear hz;rintro e w7 ⟨A7,m7,c7,rfl,ho7,hx7⟩;(have HRV7:=gd ((henc.out.ext ((hxa.trans hx11).trans hx7)).arr (RSl.of_own ho7))))|(go_at_call 51;(have hz:=HMF2.out wa);(refine Calls.mono hz ?_);clear hz;rintro e w11 ⟨v11,rfl,ho11,hx11⟩)|(go_at_call 49;(have hz:=HFB.out wr (HX0.out.trans hx.out));(with_reducible refine Calls.mono hz ?_);clear hz;rintro e wa ⟨rfl,hxa⟩;(have f1:=hxa.cell d1);(have f2:=hxa.cell d2);(have f3:=hxa.cell d3)))
   ((try simp only[Exit.inBlock,Exit.then]);refine bodyPost_ret (results_cell_row2 rfl _ _ _ _ #[.int .i64 5,.bool false,.int .i64 0,.string ⟨#[]⟩,.slice none 0 0,.slice A9 m9 c9,.int .i64 0] _ _ rfl (setRow_heap _ _ _ _ _ _ hkd) Tryz.underlying25 rfl size_val) rfl ?_)
   have HS:w.heap.size+1<w8.heap.size:=by have h1:=HX8.out.size;have h2:=HWS.out;omega
   have HS2:w.heap.size+1<w11.heap.size:=by have h1:=(hx.out.trans (hxa.trans hx11)).size;have h2:=HWS.out;omega
   have hm:=own_setRow HO9.out HS #[.int .i64 5,.bool false,.int .i64 0,.string ⟨#[]⟩,.slice none 0 0,.slice A9 m9 c9,.int .i64 0]
   have ha:=own_setRow (own_ext HOA8.out hx9) HS2 #[.int .i64 5,.bool false,.int .i64 0,.string ⟨#[]⟩,.slice none 0 0,.slice A9 m9 c9,.int .i64 0]
   have he:=(HEO8.out.ext hx9).setRow hkd #[.int .i64 5,.bool false,.int .i64 0,.string ⟨#[]⟩,.slice none 0 0,.slice A9 m9 c9,.int .i64 0]
   refine ⟨A9,m9,c9,rfl,?_,((HX0.out.trans HX9.out)).setRow (Nat.le_succ _) _⟩
   unfold encO
   rw[HL.out]
   exact enc_rj he (RSl.of_own ha) (RSl.of_own hm)
end
section
set_option linter.unusedSimpArgs false
abbrev Mm:=ByteArray×List Value×Int
theorem box9 {w:World} {g:Nat} {a b c d e f h i j:Value} {t:TypeId} {fr:Nat×Nat} (hz:w.heap[g]? =some (.cells #[a,b,c,d,e,f,h,i,j] t fr)):
 w.cell? ⟨g,0,none⟩=some a∧w.cell? ⟨g,1,none⟩=some b∧w.cell? ⟨g,2,none⟩=some c∧w.cell? ⟨g,3,none⟩=some d∧w.cell? ⟨g,4,none⟩=some e∧w.cell? ⟨g,5,none⟩=some f∧w.cell? ⟨g,6,none⟩=some h∧w.cell? ⟨g,7,none⟩=some i∧w.cell? ⟨g,8,none⟩=some j:=by
 refine ⟨?_,?_,?_,?_,?_,?_,?_,?_,?_⟩<;>(rw[Lib.cell_of_heap hz];rfl)
abbrev obC (a:Nat) (v:Value):Array Value:=#[.int .i64 5,.bool false,.int .i64 0,.string ⟨#[]⟩,.slice none 0 0,v,.int .i64 (a:Nat)]
structure NF (W2:World) (g8 g9 a:Nat) (v8 v9:Value) (l8 l9:List Mm) (W:World):Prop where
 ext:Ext W2 W
 b8:W.heap[g8]? =some (.cells (obC a v8) 25 (0,0))
 b9:W.heap[g9]? =some (.cells (obC a v9) 25 (0,0))
 o8:W.ownsRow W2.heap.size 56 9 v8 l8.length (l8.map mcell).flatten
 o9:W.ownsRow W2.heap.size 56 9 v9 l9.length (l9.map mcell).flatten
 ap:v8.ownBlock=none∨v8.ownBlock≠v9.ownBlock
section
variable {W2 W W':World} {g8 g9 a:Nat} {v8 v9 v':Value} {l8 l9:List Mm}
end
end
end Go.Proofs.YthlnaldahkgjnaaGreatDoor
