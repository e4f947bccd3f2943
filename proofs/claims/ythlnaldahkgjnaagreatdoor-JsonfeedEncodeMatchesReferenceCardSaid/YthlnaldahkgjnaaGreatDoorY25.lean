/- Parts of the proof: contracts and plain laws. -/
import Derived.Test.YthlnaldahkgjnaaGreatDoorY24
namespace Go.Proofs.YthlnaldahkgjnaaGreatDoor
open Go Go.RowKit
set_option linter.unusedVariables false
set_option linter.unusedSimpArgs false
set_option maxRecDepth 100000
set_option maxHeartbeats 16000000
section
set_option linter.unusedSimpArgs false
theorem commas_mem (l:List (List UInt8)) (t:List UInt8) (h:t∈l):t.length≤(commas l).length:=by
 obtain ⟨i,hi,rfl⟩:=List.mem_iff_getElem.1 h
 have h1:=commas_take l i hi
 have h2:=commas_le l (i+1) hi
 rw[h1,List.length_append] at h2
 omega
theorem commas_next (l:List (List UInt8)) (k:Nat) (h:k<l.length):(k=0→str (commas (l.take k))++str l[k]=str (commas (l.take (k+1))))∧(k≠0→str (commas (l.take k))++(⟨#[44]⟩:ByteArray)++str l[k]=str (commas (l.take (k+1))))∧(commas (l.take k)).length+1+l[k].length≤(commas l).length+1:=by
 have h1:=commas_take l k h
 have h2:=commas_le l (k+1) h
 have h44:(⟨#[44]⟩:ByteArray)=str [44]:=rfl
 refine ⟨fun h0=> ?_,fun h0=> ?_,?_⟩
 ·subst h0;rw[h1,if_pos rfl,str_app];rfl
 ·rw[h1,if_neg h0,h44,str_app,str_app]
 ·by_cases h0:k=0
  ·subst h0
   rw[h1,if_pos rfl] at h2
   simp only[List.take_zero,commas,List.length_nil,List.nil_append] at h2⊢
   omega
  ·rw[h1,if_neg h0] at h2
   simp only[List.length_append,List.length_cons,List.length_nil] at h2
   omega
theorem str_sz (l:List UInt8):(str l).size=l.length:=str_size l
theorem tx_str (Ss Q:ByteArray) (A B:Option Addr) (c d At:Nat) (w:World) (HQ:Hid (∀w':World,Calls Tryz.prog 153 #[.string Ss] w' fun e w2=>e= .returned (.tuple #[.string Q,.int .i64 0])∧Ext w' w2)):
 Calls Tryz.prog 106 #[.agg #[.int .i64 3,.bool false,.int .i64 0,.string Ss,.slice A 0 c,.slice B 0 d,.int .i64 (At:Nat)]] w fun e w'=>e= .returned (.string Q)∧Ext w w':=by
 obtain ⟨w2,hw2⟩:∃w2,w.alloc (.cells #[.int .i64 3,.bool false,.int .i64 0,.string Ss,.slice A 0 c,.slice B 0 d,.int .i64 (At:Nat)] 25)=w2:=⟨_,rfl⟩
 have hx2:Ext w w2:=by rw[←hw2];exact (Ext.refl w).alloc _
 have hb1:w2.heap[w.heap.size]? =some (.cells #[.int .i64 3,.bool false,.int .i64 0,.string Ss,.slice A 0 c,.slice B 0 d,.int .i64 (At:Nat)] 25 (0,0)):=by rw[←hw2];exact heap_alloc_new w _
 have HA:Hid (∀W':World,Ext w2 W'→W'.cell? ⟨w.heap.size,0,none⟩=some (.int .i64 3)∧W'.cell? ⟨w.heap.size,1,none⟩=some (.bool false)∧W'.cell? ⟨w.heap.size,2,none⟩=some (.int .i64 0)∧W'.cell? ⟨w.heap.size,3,none⟩=some (.string Ss)∧W'.cell? ⟨w.heap.size,4,none⟩=some (.slice A 0 c)∧W'.cell? ⟨w.heap.size,5,none⟩=some (.slice B 0 d)∧W'.cell? ⟨w.heap.size,6,none⟩=some (.int .i64 (At:Nat))):=gd fun W' h=>⟨h.cell (cell_of_row _ _ 0 _ _ _ hb1),h.cell (cell_of_row _ _ 1 _ _ _ hb1),h.cell (cell_of_row _ _ 2 _ _ _ hb1),h.cell (cell_of_row _ _ 3 _ _ _ hb1),h.cell (cell_of_row _ _ 4 _ _ _ hb1),h.cell (cell_of_row _ _ 5 _ _ _ hb1),h.cell (cell_of_row _ _ 6 _ _ _ hb1)⟩
 have HX:=gd hx2
 obtain ⟨x0,x1,x2,x3,x4,x5,x6⟩:=HA.out _ (Ext.refl w2)
 clear hx2 hb1
 go_enter Tryz.func106,Tryz.ntmps106
 go_wp2_with (go_at_call 153;(have hz:=HQ.out w2);(with_reducible refine Calls.mono hz ?_);clear hz;rintro e w3 ⟨rfl,hx3⟩;(have HX3:=gd hx3);clear hx3)
 go_ret
 exact ⟨rfl,HX.out.trans HX3.out⟩
theorem tx_arr (n:Nat) (A B:Option Addr) (c d At:Nat) (w:World)
 (L:List JO) (css:List (List Value)) (tl:List (List UInt8)) (R:ByteArray) (HTL:Hid (tl.length=L.length)) (HSZ:Hid ((commas tl).length+2≤140737488355328)) (HR:Hid (str (91::(commas tl++ [93]))=R))
 (HIH:Hid (∀(i:Nat) (cs:List Value) (t:List UInt8) (w':World),css[i]? =some cs→tl[i]? =some t→Ext w w'→Calls Tryz.prog 106 #[.agg cs.toArray] w' fun e w2=>e= .returned (.string (str t))∧Ext w' w2))
 (HCL:Hid (css.length=L.length)) (HROW:Hid (RSl w 7 (.slice A L.length c) L.length css.flatten)) (HEL:Hid (∀(i:Nat) (x:JO) (c:List Value),L[i]? =some x→css[i]? =some c→RJn n w x c)) (HL7:Hid (∀c∈css,c.length=7)):
 Calls Tryz.prog 106 #[.agg #[.int .i64 4,.bool false,.int .i64 0,.string ⟨#[]⟩,.slice A L.length c,.slice B 0 d,.int .i64 (At:Nat)]] w fun e w'=>e= .returned (.string R)∧Ext w w':=by
 have hcmL:L.length≤maxLen:=by obtain ⟨_,_,_,e,h1,h2,_⟩:=id HROW.out;injection e with _ _ e;omega
 unfold maxLen at hcmL
 obtain ⟨w2,hw2⟩:∃w2,w.alloc (.cells #[.int .i64 4,.bool false,.int .i64 0,.string ⟨#[]⟩,.slice A L.length c,.slice B 0 d,.int .i64 (At:Nat)] 25)=w2:=⟨_,rfl⟩
 have hx2:Ext w w2:=by rw[←hw2];exact (Ext.refl w).alloc _
 have hb1:w2.heap[w.heap.size]? =some (.cells #[.int .i64 4,.bool false,.int .i64 0,.string ⟨#[]⟩,.slice A L.length c,.slice B 0 d,.int .i64 (At:Nat)] 25 (0,0)):=by rw[←hw2];exact heap_alloc_new w _
 have HA:Hid (∀W':World,Ext w2 W'→W'.cell? ⟨w.heap.size,0,none⟩=some (.int .i64 4)∧W'.cell? ⟨w.heap.size,1,none⟩=some (.bool false)∧W'.cell? ⟨w.heap.size,2,none⟩=some (.int .i64 0)∧W'.cell? ⟨w.heap.size,3,none⟩=some (.string ⟨#[]⟩)∧W'.cell? ⟨w.heap.size,4,none⟩=some (.slice A L.length c)∧W'.cell? ⟨w.heap.size,5,none⟩=some (.slice B 0 d)∧W'.cell? ⟨w.heap.size,6,none⟩=some (.int .i64 (At:Nat))):=gd fun W' h=>⟨h.cell (cell_of_row _ _ 0 _ _ _ hb1),h.cell (cell_of_row _ _ 1 _ _ _ hb1),h.cell (cell_of_row _ _ 2 _ _ _ hb1),h.cell (cell_of_row _ _ 3 _ _ _ hb1),h.cell (cell_of_row _ _ 4 _ _ _ hb1),h.cell (cell_of_row _ _ 5 _ _ _ hb1),h.cell (cell_of_row _ _ 6 _ _ _ hb1)⟩
 have HX:=gd hx2
 obtain ⟨x0,x1,x2,x3,x4,x5,x6⟩:=HA.out _ (Ext.refl w2)
 clear hx2 hb1
 go_enter Tryz.func106,Tryz.ntmps106
 go_wp2
 go_loopw [5,6] (fun u i wr=>∃(k:Nat) (S:ByteArray),k≤L.length∧i= .int .i64 k∧u= .string S∧Hid (S=str (commas (tl.take k)))∧Ext w2 wr) (fun _ i _=>L.length - (intOf i).toNat)
 case atStart=>exact ⟨0,_,Nat.zero_le _,rfl,rfl,rfl,Ext.refl _⟩
 case round=>
  obtain ⟨k,S,hk,rfl,rfl,hS,hxw⟩:=hrel
  clear x0 x1 x2 x3 x4 x5 x6
  obtain ⟨cu0,cu1,cu2,cu3,cu4,cu5,cu6⟩:=HA.out _ hxw
  have HXW:=gd (HX.out.trans hxw)
  have HXR:=gd hxw
  clear hxw
  have hsz0:S.size=(commas (tl.take k)).length:=by rw[hS.out,str_sz]
  by_cases hlt:k<L.length
  focus
   have hk1:k<css.length:=by rw[HCL.out];exact hlt
   have hk2:k<tl.length:=by rw[HTL.out];exact hlt
   have hr1:=HEL.out k L[k] css[k] (List.getElem?_eq_getElem hlt) (List.getElem?_eq_getElem hk1)
   obtain ⟨ad,cap,hq,hcells⟩:=RSl.elem (HROW.out.ext HXW.out) (by omega) HL7.out k css[k] (List.getElem?_eq_getElem hk1)
   injection hq with hq1 hq2 hq3
   subst hq1
   clear hq2 hq3
   rw[Nat.mul_comm] at hcells
   have hih:=fun w' (hx:Ext w w')=>HIH.out k css[k] tl[k] w' (List.getElem?_eq_getElem hk1) (List.getElem?_eq_getElem hk2) hx
   obtain ⟨hn0,hn1,hnz⟩:=commas_next tl k hk2
   rw[←hS.out] at hn0 hn1
   rw[←hsz0] at hnz
   rw[←str_sz tl[k]] at hnz
   have hSZ:=HSZ.out
   obtain ⟨T,hT⟩:∃x,str tl[k]=x:=⟨_,rfl⟩
   rw[hT] at hih hn0 hn1 hnz
   obtain ⟨cx,hcx⟩:∃x,css[k]=x:=⟨_,rfl⟩
   rw[hcx] at hr1
   rw[hcx] at hcells hih
   obtain ⟨y,hy⟩:∃x,L[k]=x:=⟨_,rfl⟩
   rw[hy] at hr1
   obtain ⟨e1,p1,q1,f1,r1,t1,hc1⟩:=hr1.cells
   generalize kindJ y=K1,bJ y=b1,nJ y=n1,sJ y=s1,atJ y=a1 at hc1
   unfold wcells at hc1
   subst hc1
   have HI2:Hid (∀w':World,Ext w w'→Calls Tryz.prog 106 #[.agg #[.int .i64 (K1:Nat),.bool b1,.int .i64 n1,.string s1,.slice e1 p1 q1,.slice f1 r1 t1,.int .i64 (a1:Nat)]] w' fun e w2=>e= .returned (.string T)∧Ext w' w2):=gd hih
   have g0:wr.cell? (ad.add (k*7))=some (.int .i64 (K1:Nat)):=hcells 0 _ rfl
   have g1:wr.cell? ⟨(ad.add (k*7)).block,(ad.add (k*7)).off+1,none⟩=some (.bool b1):=hcells 1 _ rfl
   have g2:wr.cell? ⟨(ad.add (k*7)).block,(ad.add (k*7)).off+2,none⟩=some (.int .i64 n1):=hcells 2 _ rfl
   have g3:wr.cell? ⟨(ad.add (k*7)).block,(ad.add (k*7)).off+3,none⟩=some (.string s1):=hcells 3 _ rfl
   have g4:wr.cell? ⟨(ad.add (k*7)).block,(ad.add (k*7)).off+4,none⟩=some (.slice e1 p1 q1):=hcells 4 _ rfl
   have g5:wr.cell? ⟨(ad.add (k*7)).block,(ad.add (k*7)).off+5,none⟩=some (.slice f1 r1 t1):=hcells 5 _ rfl
   have g6:wr.cell? ⟨(ad.add (k*7)).block,(ad.add (k*7)).off+6,none⟩=some (.int .i64 (a1:Nat)):=hcells 6 _ rfl
   have hz1:S.size+1≤9223372036854775807:=by omega
   have hz2:S.size+1+T.size≤9223372036854775807:=by omega
   have hz3:S.size+T.size≤9223372036854775807:=by omega
   rcases Nat.eq_zero_or_pos k with hk0|hk0
   focus
    have hd0:decide (0<k)=false:=decide_eq_false (by rw[hk0];exact Nat.lt_irrefl 0)
    have HN:=gd (hn0 hk0)
    clear hih hcx hy hr1 hcells hk1 hk2 hn0 hn1 hnz hT hSZ hsz0 hS hk0
    go_wp2_with (go_at_call 106;(have hz:=HI2.out wr HXW.out);(with_reducible refine Calls.mono hz ?_);clear hz;rintro e w4 ⟨rfl,hx4⟩)
    go_roundw
    case rel=>exact ⟨k+1,_,hlt,by go_num,rfl,HN.out,HXR.out.trans hx4⟩
    case measure=>simp[intOf];omega
   focus
    have hd0:decide (0<k)=true:=decide_eq_true hk0
    have HN:=gd (hn1 (by omega))
    clear hih hcx hy hr1 hcells hk1 hk2 hn0 hn1 hnz hT hSZ hsz0 hS hk0
    go_wp2_with (go_at_call 106;(have hz:=HI2.out wr HXW.out);(with_reducible refine Calls.mono hz ?_);clear hz;rintro e w4 ⟨rfl,hx4⟩)
    go_roundw
    case rel=>exact ⟨k+1,_,hlt,by go_num,rfl,HN.out,HXR.out.trans hx4⟩
    case measure=>simp[intOf];omega
  focus
   have hke:k=L.length:=by omega
   subst hke
   have hSZ:=HSZ.out
   rw[List.take_of_length_le (by rw[HTL.out];exact Nat.le_refl _)] at hS hsz0
   have HF:Hid ((⟨#[91]⟩:ByteArray)++S++(⟨#[93]⟩:ByteArray)=R):=gd (by rw[←HR.out,hS.out,show (⟨#[91]⟩:ByteArray)=str [91] from rfl,show (⟨#[93]⟩:ByteArray)=str [93] from rfl,str_app,str_app];rfl)
   have hz1:1+S.size≤9223372036854775807:=by omega
   have hz2:1+S.size+1≤9223372036854775807:=by omega
   clear hS hsz0 hSZ
   go_wp2
   go_ret
   exact ⟨by rw[←HF.out];rfl,HXW.out⟩
theorem tx_obj (n:Nat) (A B:Option Addr) (c d At:Nat) (w:World)
 (M:List JO) (ms:List Mm) (tl xs:List (List UInt8)) (R:ByteArray) (HTX:Hid (xs.length=ms.length∧tl=List.zipWith keyed (ms.map fun m=>m.1) xs)) (HSZ:Hid ((commas tl).length+2≤140737488355328)) (HR:Hid (str (123::(commas tl++ [125]))=R))
 (HIH:Hid (∀(i:Nat) (m:Mm) (t:List UInt8) (w':World),ms[i]? =some m→xs[i]? =some t→Ext w w'→Calls Tryz.prog 106 #[.agg m.2.1.toArray] w' fun e w2=>e= .returned (.string (str t))∧Ext w' w2))
 (HML:Hid (ms.length=M.length)) (HMR:Hid (RSl w 9 (.slice B M.length d) M.length (ms.map mcell).flatten)) (HEM:Hid (∀(i:Nat) (x:JO) (m:Mm),M[i]? =some x→ms[i]? =some m→RJn n w x m.2.1)) (HL9:Hid (∀c∈ms.map mcell,c.length=9))
 (HKY:Hid (∀(i:Nat) (h:i<ms.length),ms[i].1.size≤16777216∧Lib.validD ms[i].1.data.toList=true)):
 Calls Tryz.prog 106 #[.agg #[.int .i64 5,.bool false,.int .i64 0,.string ⟨#[]⟩,.slice A 0 c,.slice B M.length d,.int .i64 (At:Nat)]] w fun e w'=>e= .returned (.string R)∧Ext w w':=by
 have hcmM:M.length≤maxLen:=by obtain ⟨_,_,_,e,h1,h2,_⟩:=id HMR.out;injection e with _ _ e;omega
 unfold maxLen at hcmM
 have HTL:Hid (tl.length=ms.length):=gd (by rw[HTX.out.2,List.length_zipWith,List.length_map,HTX.out.1,Nat.min_self])
 have HVK:=gd (fun (s:ByteArray) (w':World) (h:s.size≤16777216∧Lib.validD s.data.toList=true)=>(by have hz:=ref10Quote_any s w' h.1;unfold quoteS at hz;rw[if_pos h.2] at hz;exact hz:Calls Tryz.prog 153 #[.string s] w' fun e w2=>e= .returned (.tuple #[.string (str (quoteL s.data.toList)),.int .i64 0])∧Ext w' w2))
 obtain ⟨w2,hw2⟩:∃w2,w.alloc (.cells #[.int .i64 5,.bool false,.int .i64 0,.string ⟨#[]⟩,.slice A 0 c,.slice B M.length d,.int .i64 (At:Nat)] 25)=w2:=⟨_,rfl⟩
 have hx2:Ext w w2:=by rw[←hw2];exact (Ext.refl w).alloc _
 have hb1:w2.heap[w.heap.size]? =some (.cells #[.int .i64 5,.bool false,.int .i64 0,.string ⟨#[]⟩,.slice A 0 c,.slice B M.length d,.int .i64 (At:Nat)] 25 (0,0)):=by rw[←hw2];exact heap_alloc_new w _
 have HA:Hid (∀W':World,Ext w2 W'→W'.cell? ⟨w.heap.size,0,none⟩=some (.int .i64 5)∧W'.cell? ⟨w.heap.size,1,none⟩=some (.bool false)∧W'.cell? ⟨w.heap.size,2,none⟩=some (.int .i64 0)∧W'.cell? ⟨w.heap.size,3,none⟩=some (.string ⟨#[]⟩)∧W'.cell? ⟨w.heap.size,4,none⟩=some (.slice A 0 c)∧W'.cell? ⟨w.heap.size,5,none⟩=some (.slice B M.length d)∧W'.cell? ⟨w.heap.size,6,none⟩=some (.int .i64 (At:Nat))):=gd fun W' h=>⟨h.cell (cell_of_row _ _ 0 _ _ _ hb1),h.cell (cell_of_row _ _ 1 _ _ _ hb1),h.cell (cell_of_row _ _ 2 _ _ _ hb1),h.cell (cell_of_row _ _ 3 _ _ _ hb1),h.cell (cell_of_row _ _ 4 _ _ _ hb1),h.cell (cell_of_row _ _ 5 _ _ _ hb1),h.cell (cell_of_row _ _ 6 _ _ _ hb1)⟩
 have HX:=gd hx2
 obtain ⟨x0,x1,x2,x3,x4,x5,x6⟩:=HA.out _ (Ext.refl w2)
 clear hx2 hb1
 go_enter Tryz.func106,Tryz.ntmps106
 go_wp2
 refine wp_loop_rounds 1 ?_
 rw[rounds_succ]
 go_wp2
 go_loopw [5,7] (fun u i wr=>∃(k:Nat) (S:ByteArray),k≤M.length∧i= .int .i64 k∧u= .string S∧Hid (S=str (commas (tl.take k)))∧Ext w2 wr) (fun _ i _=>M.length - (intOf i).toNat)
 case atStart=>exact ⟨0,_,Nat.zero_le _,rfl,rfl,rfl,Ext.refl _⟩
 case round=>
  obtain ⟨k,S,hk,rfl,rfl,hS,hxw⟩:=hrel
  clear x0 x1 x2 x3 x4 x5 x6
  obtain ⟨cu0,cu1,cu2,cu3,cu4,cu5,cu6⟩:=HA.out _ hxw
  have HXW:=gd (HX.out.trans hxw)
  have HXR:=gd hxw
  clear hxw
  have hsz0:S.size=(commas (tl.take k)).length:=by rw[hS.out,str_sz]
  by_cases hlt:k<M.length
  focus
   have hk1:k<ms.length:=by rw[HML.out];exact hlt
   have hk2:k<tl.length:=by rw[HTL.out];exact hk1
   have hk3:k<xs.length:=by rw[HTX.out.1];exact hk1
   have hr1:=HEM.out k M[k] ms[k] (List.getElem?_eq_getElem hlt) (List.getElem?_eq_getElem hk1)
   obtain ⟨ad,cap,hq,hcells⟩:=RSl.elem (HMR.out.ext HXW.out) (by omega) HL9.out k (mcell ms[k]) (by rw[List.getElem?_map,List.getElem?_eq_getElem hk1];rfl)
   injection hq with hq1 hq2 hq3
   subst hq1
   clear hq2 hq3
   rw[Nat.mul_comm] at hcells
   have hih:=fun w' (hx:Ext w w')=>HIH.out k ms[k] xs[k] w' (List.getElem?_eq_getElem hk1) (List.getElem?_eq_getElem hk3) hx
   have hky:=HKY.out k hk1
   have htk:tl[k]=keyed ms[k].1 xs[k]:=by
    have:tl[k]? =some (keyed ms[k].1 xs[k]):=by rw[HTX.out.2,List.getElem?_zipWith,List.getElem?_map,List.getElem?_eq_getElem hk1,List.getElem?_eq_getElem hk3];rfl
    rw[List.getElem?_eq_getElem hk2] at this
    injection this
   obtain ⟨hn0,hn1,hnz⟩:=commas_next tl k hk2
   rw[←hS.out] at hn0 hn1
   rw[←hsz0] at hnz
   rw[htk] at hn0 hn1 hnz
   have hSZ:=HSZ.out
   obtain ⟨T,hT⟩:∃x,str xs[k]=x:=⟨_,rfl⟩
   have hTs:T.size=xs[k].length:=by rw[←hT,str_sz]
   have hkd:str (keyed ms[k].1 xs[k])=str (quoteL ms[k].1.data.toList)++(⟨#[58]⟩:ByteArray)++T:=by
    rw[←hT,show (⟨#[58]⟩:ByteArray)=str [58] from rfl,str_app,str_app];unfold keyed;simp
   have hkl:(keyed ms[k].1 xs[k]).length=(quoteL ms[k].1.data.toList).length+1+T.size:=by
    rw[hTs];unfold keyed;simp only[List.length_append,List.length_cons];omega
   rw[hkd] at hn0 hn1
   rw[hkl,←str_sz (quoteL _)] at hnz
   rw[hT] at hih
   obtain ⟨cx,hcx⟩:∃x,ms[k]=x:=⟨_,rfl⟩
   obtain ⟨y,hy⟩:∃x,M[k]=x:=⟨_,rfl⟩
   rw[hcx,hy] at hr1
   rw[hcx] at hcells hih hky hn0 hn1 hnz
   obtain ⟨key,c1,xt⟩:=cx
   dsimp only at hr1 hky hih hn0 hn1 hnz
   have hvk:=fun w'=>HVK.out key w' hky
   obtain ⟨Q,hQ⟩:∃x,str (quoteL key.data.toList)=x:=⟨_,rfl⟩
   rw[hQ] at hvk hn0 hn1 hnz
   have HVK2:=gd hvk
   obtain ⟨e1,p1,q1,f1,r1,t1,hc1⟩:=hr1.cells
   generalize kindJ y=K1,bJ y=b1,nJ y=n1,sJ y=s1,atJ y=a1 at hc1
   unfold wcells at hc1
   subst hc1
   have HI2:Hid (∀w':World,Ext w w'→Calls Tryz.prog 106 #[.agg #[.int .i64 (K1:Nat),.bool b1,.int .i64 n1,.string s1,.slice e1 p1 q1,.slice f1 r1 t1,.int .i64 (a1:Nat)]] w' fun e w2=>e= .returned (.string T)∧Ext w' w2):=gd hih
   have g0:wr.cell? (ad.add (k*9))=some (.string key):=hcells 0 _ rfl
   have g1:wr.cell? ⟨(ad.add (k*9)).block,(ad.add (k*9)).off+1,none⟩=some (.int .i64 (K1:Nat)):=hcells 1 _ rfl
   have g2:wr.cell? ⟨(ad.add (k*9)).block,(ad.add (k*9)).off+2,none⟩=some (.bool b1):=hcells 2 _ rfl
   have g3:wr.cell? ⟨(ad.add (k*9)).block,(ad.add (k*9)).off+3,none⟩=some (.int .i64 n1):=hcells 3 _ rfl
   have g4:wr.cell? ⟨(ad.add (k*9)).block,(ad.add (k*9)).off+4,none⟩=some (.string s1):=hcells 4 _ rfl
   have g5:wr.cell? ⟨(ad.add (k*9)).block,(ad.add (k*9)).off+5,none⟩=some (.slice e1 p1 q1):=hcells 5 _ rfl
   have g6:wr.cell? ⟨(ad.add (k*9)).block,(ad.add (k*9)).off+6,none⟩=some (.slice f1 r1 t1):=hcells 6 _ rfl
   have g7:wr.cell? ⟨(ad.add (k*9)).block,(ad.add (k*9)).off+7,none⟩=some (.int .i64 (a1:Nat)):=hcells 7 _ rfl
   have g8:wr.cell? ⟨(ad.add (k*9)).block,(ad.add (k*9)).off+8,none⟩=some (.int .i64 xt):=hcells 8 _ rfl
   have hz1:S.size+1≤9223372036854775807:=by omega
   have hz2:Q.size+1≤9223372036854775807:=by omega
   have hz3:Q.size+1+T.size≤9223372036854775807:=by omega
   have hz4:S.size+(Q.size+1+T.size)≤9223372036854775807:=by omega
   have hz5:S.size+1+(Q.size+1+T.size)≤9223372036854775807:=by omega
   rcases Nat.eq_zero_or_pos k with hk0|hk0
   focus
    have hd0:decide (0<k)=false:=decide_eq_false (by rw[hk0];exact Nat.lt_irrefl 0)
    have HN:=gd (hn0 hk0)
    clear hih hcx hy hr1 hcells hk1 hk2 hk3 hn0 hn1 hnz hT hTs hkd hkl htk hvk hky hQ hSZ hsz0 hS hk0
    go_wp2_with (first|(go_at_call 153;(have hz:=HVK2.out wr);(with_reducible refine Calls.mono hz ?_);clear hz;rintro e w4 ⟨rfl,hx4⟩;(have cv0:=hx4.cell cu0);(have cv1:=hx4.cell cu1);(have cv2:=hx4.cell cu2);(have cv3:=hx4.cell cu3);(have cv4:=hx4.cell cu4);(have cv5:=hx4.cell cu5);(have cv6:=hx4.cell cu6);(have h0:=hx4.cell g0);(have h1:=hx4.cell g1);(have h2:=hx4.cell g2);(have h3:=hx4.cell g3);(have h4:=hx4.cell g4);(have h5:=hx4.cell g5);(have h6:=hx4.cell g6);(have h7:=hx4.cell g7);(have h8:=hx4.cell g8);(have HX4:=gd (HXR.out.trans hx4));(have HX5:=gd (HXW.out.trans hx4));clear hx4 cu0 cu1 cu2 cu3 cu4 cu5 cu6 g0 g1 g2 g3 g4 g5 g6 g7 g8)|(go_at_call 106;(have hz:=HI2.out w4 HX5.out);(with_reducible refine Calls.mono hz ?_);clear hz;rintro e w5 ⟨rfl,hx5⟩))
    go_roundw
    case rel=>exact ⟨k+1,_,hlt,by go_num,rfl,HN.out,HX4.out.trans hx5⟩
    case measure=>simp[intOf];omega
   focus
    have hd0:decide (0<k)=true:=decide_eq_true hk0
    have HN:=gd (hn1 (by omega))
    clear hih hcx hy hr1 hcells hk1 hk2 hk3 hn0 hn1 hnz hT hTs hkd hkl htk hvk hky hQ hSZ hsz0 hS hk0
    go_wp2_with (first|(go_at_call 153;(have hz:=HVK2.out wr);(with_reducible refine Calls.mono hz ?_);clear hz;rintro e w4 ⟨rfl,hx4⟩;(have cv0:=hx4.cell cu0);(have cv1:=hx4.cell cu1);(have cv2:=hx4.cell cu2);(have cv3:=hx4.cell cu3);(have cv4:=hx4.cell cu4);(have cv5:=hx4.cell cu5);(have cv6:=hx4.cell cu6);(have h0:=hx4.cell g0);(have h1:=hx4.cell g1);(have h2:=hx4.cell g2);(have h3:=hx4.cell g3);(have h4:=hx4.cell g4);(have h5:=hx4.cell g5);(have h6:=hx4.cell g6);(have h7:=hx4.cell g7);(have h8:=hx4.cell g8);(have HX4:=gd (HXR.out.trans hx4));(have HX5:=gd (HXW.out.trans hx4));clear hx4 cu0 cu1 cu2 cu3 cu4 cu5 cu6 g0 g1 g2 g3 g4 g5 g6 g7 g8)|(go_at_call 106;(have hz:=HI2.out w4 HX5.out);(with_reducible refine Calls.mono hz ?_);clear hz;rintro e w5 ⟨rfl,hx5⟩))
    go_roundw
    case rel=>exact ⟨k+1,_,hlt,by go_num,rfl,HN.out,HX4.out.trans hx5⟩
    case measure=>simp[intOf];omega
  focus
   have hke:k=M.length:=by omega
   subst hke
   have hSZ:=HSZ.out
   rw[List.take_of_length_le (by rw[HTL.out,HML.out];exact Nat.le_refl _)] at hS hsz0
   have HF:Hid ((⟨#[123]⟩:ByteArray)++S++(⟨#[125]⟩:ByteArray)=R):=gd (by rw[←HR.out,hS.out,show (⟨#[123]⟩:ByteArray)=str [123] from rfl,show (⟨#[125]⟩:ByteArray)=str [125] from rfl,str_app,str_app];rfl)
   have hz1:1+S.size≤9223372036854775807:=by omega
   have hz2:1+S.size+1≤9223372036854775807:=by omega
   clear hS hsz0 hSZ
   go_wp2
   go_ret
   exact ⟨by rw[←HF.out];rfl,HXW.out⟩
theorem textO_any:∀(n:Nat) (j:JO) (cs:List Value) (w:World),RJn n w j cs→gO j→(jtext (eraseJ j)).length≤140737488355328→Calls Tryz.prog 106 #[.agg cs.toArray] w fun e w'=>e= .returned (.string (str (jtext (eraseJ j))))∧Ext w w':=by
 intro n
 induction n with
 |zero=>intro j cs w h;exact h.elim
 |succ n ih=>
 intro j cs w h hg hz
 obtain ⟨A,c,B,d,css,ms,rfl,hcl,hrow,hel,hl7,hks,hml,hmr,hem,hl9⟩:=rj_open2 h
 cases j with
 |str a s=>
  rw[gO] at hg
  rw[eraseJ,jtext_str]
  exact tx_str s _ A B c d a w (gd fun w'=>by have hz:=ref10Quote_any s w' hg.1;unfold quoteS at hz;rw[if_pos hg.2] at hz;exact hz)
 |arr a l=>
  rw[gO] at hg
  rw[eraseJ,jtext_arr] at hz⊢
  have hsz:(commas ((l.map eraseJ).map jtext)).length+2≤140737488355328:=by
   simp only[List.length_cons,List.length_append,List.length_nil] at hz
   omega
  refine tx_arr n A B c d a w l css ((l.map eraseJ).map jtext) _ (gd (by rw[List.length_map,List.length_map])) (gd hsz) (gd rfl) (gd fun i cs t w' hc ht hx=> ?_) (gd hcl) (gd hrow) (gd hel) (gd hl7)
  have hm:=commas_mem _ t (List.mem_of_getElem? ht)
  rw[List.getElem?_map,List.getElem?_map] at ht
  cases hli:l[i]? with
  |none=>rw[hli] at ht;cases ht
  |some x=>
   rw[hli] at ht
   injection ht with ht
   subst ht
   exact ih x cs w' ((hel i x cs hli hc).ext hx) (hg x (List.mem_of_getElem? hli)) (by omega)
 |obj a ks vs=>
  rw[gO] at hg
  obtain ⟨hkl,hnd,hkv,hgm⟩:=hg
  rw[eraseJ,jtext_obj] at hz⊢
  replace hks:ms.map (fun m=>(m.1,m.2.2))=ks.map (fun k=>(k.1,(k.2:Int))):=hks
  have hkeys:ms.map (fun m=>m.1)=ks.map Prod.fst:=by
   have h1:=congrArg (List.map Prod.fst) hks
   rw[List.map_map,List.map_map] at h1
   exact h1
  have hsz:(commas (List.zipWith keyed (ks.map Prod.fst) ((vs.map eraseJ).map jtext))).length+2≤140737488355328:=by
   simp only[List.length_cons,List.length_append,List.length_nil] at hz
   omega
  refine tx_obj n A B c d a w vs ms (List.zipWith keyed (ks.map Prod.fst) ((vs.map eraseJ).map jtext)) ((vs.map eraseJ).map jtext) _ (gd ⟨by rw[List.length_map,List.length_map];exact hml.symm,by rw[hkeys]⟩) (gd hsz) (gd rfl) (gd fun i m t w' hc ht hx=> ?_) (gd hml) (gd hmr) (gd hem) (gd hl9) (gd fun i h=> ?_)
  ·have hi:i<ms.length:=(List.getElem?_eq_some_iff.1 hc).1
   have hkd:(List.zipWith keyed (ks.map Prod.fst) ((vs.map eraseJ).map jtext))[i]? =some (keyed m.1 t):=by
    rw[List.getElem?_zipWith,←hkeys,List.getElem?_map,hc,ht];rfl
   have hm:=commas_mem _ _ (List.mem_of_getElem? hkd)
   have hkd2:t.length≤(keyed m.1 t).length:=by unfold keyed;simp only[List.length_append,List.length_cons];omega
   rw[List.getElem?_map,List.getElem?_map] at ht
   cases hli:vs[i]? with
   |none=>rw[hli] at ht;cases ht
   |some x=>
    rw[hli] at ht
    injection ht with ht
    subst ht
    exact ih x m.2.1 w' ((hem i x m hli hc).ext hx) (hgm x (List.mem_of_getElem? hli)) (by omega)
  ·have h1:ms[i].1∈ks.map Prod.fst:=by rw[←hkeys];exact List.mem_map_of_mem (List.getElem_mem h)
   obtain ⟨q,hq,hq2⟩:=List.mem_map.1 h1
   rw[←hq2]
   exact hkv q hq
 |_=>simp[gO] at hg
end
section
set_option linter.unusedSimpArgs false
theorem checkO_any (n:Nat) (hn:n≤100) (j:JO) (cs:List Value) (w:World) (h:RJn n w j cs) (hg:gO j):
 Calls Tryz.prog 105 #[.agg cs.toArray] w fun e w'=>e= .returned (.int .i64 0)∧Ext w w':=by
 have hv:=fun w' (hx:Ext w w')=>validO_any n j cs w' (h.ext hx) hg
 have hd:=fun w' (hx:Ext w w')=>depthJ_any n j cs w' (by omega) (h.ext hx)
 obtain ⟨e1,p1,q1,f1,r1,t1,hc1⟩:=h.cells
 clear h hg
 generalize kindJ j=K1,bJ j=b1,nJ j=n1,sJ j=s1,atJ j=a1 at hc1
 unfold wcells at hc1
 subst hc1
 have HV:Hid (∀w':World,Ext w w'→Calls Tryz.prog 151 #[.agg #[.int .i64 (K1:Nat),.bool b1,.int .i64 n1,.string s1,.slice e1 p1 q1,.slice f1 r1 t1,.int .i64 (a1:Nat)]] w' fun e w2=>e= .returned (.bool true)∧Ext w' w2):=gd hv
 have HD:Hid (∀w':World,Ext w w'→Calls Tryz.prog 152 #[.agg #[.int .i64 (K1:Nat),.bool b1,.int .i64 n1,.string s1,.slice e1 p1 q1,.slice f1 r1 t1,.int .i64 (a1:Nat)]] w' fun e w2=>DepX n e∧Ext w' w2):=gd hd
 have HN:=gd hn
 clear hv hd hn
 obtain ⟨w2,hw2⟩:∃w2,w.alloc (.cells #[.int .i64 (K1:Nat),.bool b1,.int .i64 n1,.string s1,.slice e1 p1 q1,.slice f1 r1 t1,.int .i64 (a1:Nat)] 25)=w2:=⟨_,rfl⟩
 have hx2:Ext w w2:=by rw[←hw2];exact (Ext.refl w).alloc _
 have hb1:w2.heap[w.heap.size]? =some (.cells #[.int .i64 (K1:Nat),.bool b1,.int .i64 n1,.string s1,.slice e1 p1 q1,.slice f1 r1 t1,.int .i64 (a1:Nat)] 25 (0,0)):=by rw[←hw2];exact heap_alloc_new w _
 have x0:=cell_of_row _ _ 0 _ _ _ hb1
 have x1:=cell_of_row _ _ 1 _ _ _ hb1
 have x2:=cell_of_row _ _ 2 _ _ _ hb1
 have x3:=cell_of_row _ _ 3 _ _ _ hb1
 have x4:=cell_of_row _ _ 4 _ _ _ hb1
 have x5:=cell_of_row _ _ 5 _ _ _ hb1
 have x6:=cell_of_row _ _ 6 _ _ _ hb1
 have HX:=gd hx2
 clear hx2 hb1
 go_enter Tryz.func105,Tryz.ntmps105
 go_wp2_with (first|(go_at_call 151;(have hz:=HV.out w2 HX.out);(with_reducible refine Calls.mono hz ?_);clear hz;rintro e w3 ⟨rfl,hx3⟩;(have y0:=hx3.cell x0);(have y1:=hx3.cell x1);(have y2:=hx3.cell x2);(have y3:=hx3.cell x3);(have y4:=hx3.cell x4);(have y5:=hx3.cell x5);(have y6:=hx3.cell x6);(have HX3:=gd (HX.out.trans hx3));clear hx3 x0 x1 x2 x3 x4 x5 x6)|(go_at_call 152;(have hz:=HD.out w3 HX3.out);(with_reducible refine Calls.mono hz ?_);clear hz;rintro e w4 ⟨⟨d,hd,rfl⟩,hx4⟩;(have hd2:(d:Int)≤100:=(by have:=HN.out;omega));(have HX4:=gd (HX3.out.trans hx4));clear hx4 hd))
 go_ret
 exact ⟨rfl,HX4.out⟩
theorem writeO_any (n:Nat) (hn:n≤100) (j:JO) (cs:List Value) (w:World) (h:RJn n w j cs) (hg:gO j) (hz:(jtext (eraseJ j)).length≤140737488355328):
 Calls Tryz.prog 57 #[.agg cs.toArray] w fun e w'=>e= .returned (.tuple #[.string (str (jtext (eraseJ j))),.int .i64 0])∧Ext w w':=by
 have hv:=fun w' (hx:Ext w w')=>checkO_any n hn j cs w' (h.ext hx) hg
 have hd:=fun w' (hx:Ext w w')=>textO_any n j cs w' (h.ext hx) hg hz
 obtain ⟨T,hT⟩:∃T,str (jtext (eraseJ j))=T:=⟨_,rfl⟩
 rw[hT] at hd⊢
 obtain ⟨e1,p1,q1,f1,r1,t1,hc1⟩:=h.cells
 clear h hg hT hz
 generalize kindJ j=K1,bJ j=b1,nJ j=n1,sJ j=s1,atJ j=a1 at hc1
 unfold wcells at hc1
 subst hc1
 have HV:Hid (∀w':World,Ext w w'→Calls Tryz.prog 105 #[.agg #[.int .i64 (K1:Nat),.bool b1,.int .i64 n1,.string s1,.slice e1 p1 q1,.slice f1 r1 t1,.int .i64 (a1:Nat)]] w' fun e w2=>e= .returned (.int .i64 0)∧Ext w' w2):=gd hv
 have HD:Hid (∀w':World,Ext w w'→Calls Tryz.prog 106 #[.agg #[.int .i64 (K1:Nat),.bool b1,.int .i64 n1,.string s1,.slice e1 p1 q1,.slice f1 r1 t1,.int .i64 (a1:Nat)]] w' fun e w2=>e= .returned (.string T)∧Ext w' w2):=gd hd
 clear hv hd hn
 obtain ⟨w2,hw2⟩:∃w2,w.alloc (.cells #[.int .i64 (K1:Nat),.bool b1,.int .i64 n1,.string s1,.slice e1 p1 q1,.slice f1 r1 t1,.int .i64 (a1:Nat)] 25)=w2:=⟨_,rfl⟩
 have hx2:Ext w w2:=by rw[←hw2];exact (Ext.refl w).alloc _
 have hb1:w2.heap[w.heap.size]? =some (.cells #[.int .i64 (K1:Nat),.bool b1,.int .i64 n1,.string s1,.slice e1 p1 q1,.slice f1 r1 t1,.int .i64 (a1:Nat)] 25 (0,0)):=by rw[←hw2];exact heap_alloc_new w _
 have x0:=cell_of_row _ _ 0 _ _ _ hb1
 have x1:=cell_of_row _ _ 1 _ _ _ hb1
 have x2:=cell_of_row _ _ 2 _ _ _ hb1
 have x3:=cell_of_row _ _ 3 _ _ _ hb1
 have x4:=cell_of_row _ _ 4 _ _ _ hb1
 have x5:=cell_of_row _ _ 5 _ _ _ hb1
 have x6:=cell_of_row _ _ 6 _ _ _ hb1
 have HX:=gd hx2
 clear hx2 hb1
 go_enter Tryz.func57,Tryz.ntmps57
 go_wp2_with (first|(go_at_call 105;(have hz:=HV.out w2 HX.out);(with_reducible refine Calls.mono hz ?_);clear hz;rintro e w3 ⟨rfl,hx3⟩;(have y0:=hx3.cell x0);(have y1:=hx3.cell x1);(have y2:=hx3.cell x2);(have y3:=hx3.cell x3);(have y4:=hx3.cell x4);(have y5:=hx3.cell x5);(have y6:=hx3.cell x6);(have HX3:=gd (HX.out.trans hx3));clear hx3 x0 x1 x2 x3 x4 x5 x6)|(go_at_call 106;(have hz:=HD.out w3 HX3.out);(with_reducible refine Calls.mono hz ?_);clear hz;rintro e w4 ⟨rfl,hx4⟩;(have HX4:=gd (HX3.out.trans hx4));clear hx4))
 go_ret2
 exact ⟨rfl,HX4.out⟩
end
section
set_option linter.unusedSimpArgs false
theorem oneM9 {kn sv:ByteArray}:∀u∈ [Value.string kn,.int .i64 3,.bool false,.int .i64 0,.string sv,.slice none 0 0,.slice none 0 0,.int .i64 0,.int .i64 0],u.oneCell'=true:=by simp[Value.oneCell']
theorem putF_any (K:Int) (b:Bool) (m:Int) (s1:ByteArray) (E B:Option Addr) (p q n d:Nat) (a:Int) (xs:List Value) (kn sv:ByteArray) (w:World) (hr:RSl w 9 (.slice B n d) n xs) (h1:∀u∈xs,u.oneCell'=true) (hn:n≤100):
 Calls Tryz.prog 54 #[.agg #[.int .i64 K,.bool b,.int .i64 m,.string s1,.slice E p q,.slice B n d,.int .i64 a],.string kn,.string sv] w fun e w'=>∃A c,e= .returned (.agg #[.int .i64 K,.bool b,.int .i64 m,.string s1,.slice E p q,.slice A (n+1) c,.int .i64 a])∧w'.ownsRow w.heap.size 56 9 (.slice A (n+1) c) (n+1) (xs++cellM (kn,sv))∧Ext w w':=by
 obtain ⟨i9,hi9,hz9,hs9,hb9⟩:=info_partsM
 obtain ⟨W0,hW0⟩:∃W0,(w.alloc (.cells #[.int .i64 K,.bool b,.int .i64 m,.string s1,.slice E p q,.slice B n d,.int .i64 a] 25)).alloc (.cells #[.int .i64 0,.bool false,.int .i64 0,.string ⟨#[]⟩,.slice none 0 0,.slice none 0 0,.int .i64 0] 25)=W0:=⟨_,rfl⟩
 have hx0:Ext w W0:=by rw[←hW0];exact ((Ext.refl w).alloc _).alloc _
 have hr0:W0.heap[w.heap.size+1]? =some (.cells #[.int .i64 0,.bool false,.int .i64 0,.string ⟨#[]⟩,.slice none 0 0,.slice none 0 0,.int .i64 0] 25 (0,0)):=by rw[←hW0];exact heap2J w _ _
 have hb0:W0.heap[w.heap.size]? =some (.cells #[.int .i64 K,.bool b,.int .i64 m,.string s1,.slice E p q,.slice B n d,.int .i64 a] 25 (0,0)):=by
  rw[←hW0]
  exact ((Ext.refl _).alloc _).heap (heap_alloc_new w _)
 have hW0s:W0.heap.size=w.heap.size+2:=by rw[←hW0,size_alloc,size_alloc]
 have hev:Ext W0 (W0.alloc (.cells #[] 56)):=(Ext.refl W0).alloc _
 have b5:(W0.alloc (.cells #[] 56)).cell? ⟨w.heap.size,5,none⟩=some (.slice B n d):=hev.cell (cell_of_row _ _ 5 _ _ _ hb0)
 have HX0:=gd hx0
 have HR0:=gd hr0
 have HB0:=gd hb0
 have HWS:=gd hW0s
 have HRS:=gd (hr.ext (hx0.trans hev))
 have HONE:=gd h1
 have HOW1:Hid ((W0.alloc (.cells #[] 56)).ownsRow W0.heap.size 56 9 (.slice (some ⟨W0.heap.size,0,none⟩) 0 0) 0 []):=gd (own_newB (Nat.le_refl _) (heap_alloc_new W0 _) rfl (Nat.zero_le _))
 have HM1:Hid (0+n≤maxLen):=gd (by unfold maxLen;omega)
 have HY1:Hid ((0+n)*120≤140737488355328):=gd (by omega)
 have HM2:Hid (n+1≤maxLen):=gd (by unfold maxLen;omega)
 have HY2:Hid ((n+1)*120≤140737488355328):=gd (by omega)
 have HSZ1:Hid (W0.heap.size≤(W0.alloc (.cells #[] 56)).heap.size):=gd hev.size
 clear hx0 hr0 hb0 hW0s hr h1 hev hn
 go_enter Tryz.func54,Tryz.ntmps54
 go_wp2_with (first|(refine wpList_store_row rfl 25 (.tmp 6) (.tmp 18) rfl (w.heap.size+1) #[.int .i64 K,.bool b,.int .i64 m,.string s1,.slice E p q,.slice A5 (n+1) c5,.int .i64 a] rfl rfl _ _ hkr size_val rfl oneV7 ?_)|(at_builtin;refine wpList_append_rsl _ rfl (.tmp 10) (.tmp 15) _ rfl W0.heap.size 56 i9 _ 9 120 Tryz.underlying23 hi9 hz9 hs9 hb9 rfl (by decide) _ n xs rfl HOW4.out _ 1 [.string kn,.int .i64 3,.bool false,.int .i64 0,.string sv,.slice none 0 0,.slice none 0 0,.int .i64 0,.int .i64 0] rfl HNEW.out oneM9 HM2.out HY2.out HSZ4.out ?_;intro v5 w5 hown5 hg5 hat5;(obtain ⟨A5,c5,rfl⟩:=ownJ_form hown5);(have hx5:=HX4.out.app hg5 HOW4.out (Nat.le_refl _));(have hb5:=hx5.heap HB0.out);(have fz:=Lib.frozen_of_heap hb5 5);(have fc:=cell_of_row _ _ 5 _ _ _ hb5);(obtain ⟨X,hX⟩:∃X,w5.setCell ⟨w.heap.size,5,none⟩ (.slice A5 (n+1) c5)=X:=⟨_,rfl⟩);(have hbX:X.heap[w.heap.size]? =some (.cells #[.int .i64 K,.bool b,.int .i64 m,.string s1,.slice E p q,.slice A5 (n+1) c5,.int .i64 a] 25 (0,0)):=by rw[←hX];exact heap_setCell_same _ _ 5 _ _ _ hb5);(have hkr:X.heap[w.heap.size+1]? =some (.cells #[.int .i64 0,.bool false,.int .i64 0,.string ⟨#[]⟩,.slice none 0 0,.slice none 0 0,.int .i64 0] 25 (0,0)):=by rw[←hX,heap_setCell_other _ _ _ _ (by simp)];exact hx5.heap HR0.out);(have e0:=cell_of_row _ _ 0 _ _ _ hbX);(have e1:=cell_of_row _ _ 1 _ _ _ hbX);(have e2:=cell_of_row _ _ 2 _ _ _ hbX);(have e3:=cell_of_row _ _ 3 _ _ _ hbX);(have e4:=cell_of_row _ _ 4 _ _ _ hbX);(have e5:=cell_of_row _ _ 5 _ _ _ hbX);(have e6:=cell_of_row _ _ 6 _ _ _ hbX);(have HOX:Hid (X.ownsRow W0.heap.size 56 9 (.slice A5 (n+1) c5) (n+1) (xs++ [.string kn,.int .i64 3,.bool false,.int .i64 0,.string sv,.slice none 0 0,.slice none 0 0,.int .i64 0,.int .i64 0])):=gd (by rw[←hX];exact own_setJ hown5 hb5 (by decide) _));(have HXX:Hid (Ext w X):=gd (by rw[←hX];exact (HX0.out.trans hx5).setCell (Nat.le_refl _) _));clear hown5 hg5 hat5 hb5 hbX hx5)|(at_builtin;refine wpList_append_rsl _ rfl (.tmp 7) (.tmp 9) _ rfl W0.heap.size 56 i9 _ 9 120 Tryz.underlying23 hi9 hz9 hs9 hb9 rfl (by decide) _ 0 [] rfl HOW1.out _ n xs rfl HRS.out HONE.out HM1.out HY1.out HSZ1.out ?_;intro v3 w3 hown3 hg3 hat3;(rw[Nat.zero_add,List.nil_append] at hown3);(obtain ⟨A3,c3,rfl⟩:=ownJ_form hown3);(have hx3:Ext W0 w3:=((Ext.refl W0).alloc _).app hg3 HOW1.out (Nat.le_refl _));(have HOW4:Hid ((w3.alloc (.cells #[.string kn,.int .i64 3,.bool false,.int .i64 0,.string sv,.slice none 0 0,.slice none 0 0,.int .i64 0,.int .i64 0] 56)).ownsRow W0.heap.size 56 9 (.slice A3 n c3) n xs):=gd (own_ext hown3 ((Ext.refl w3).alloc _)));(have HNEW:Hid (RSl (w3.alloc (.cells #[.string kn,.int .i64 3,.bool false,.int .i64 0,.string sv,.slice none 0 0,.slice none 0 0,.int .i64 0,.int .i64 0] 56)) 9 (.slice (some ⟨w3.heap.size,0,none⟩) 1 1) 1 [.string kn,.int .i64 3,.bool false,.int .i64 0,.string sv,.slice none 0 0,.slice none 0 0,.int .i64 0,.int .i64 0]):=gd (rsl_new (cs:= [.string kn,.int .i64 3,.bool false,.int .i64 0,.string sv,.slice none 0 0,.slice none 0 0,.int .i64 0,.int .i64 0]) rfl (by decide)));(have HX4:Hid (Ext W0 (w3.alloc (.cells #[.string kn,.int .i64 3,.bool false,.int .i64 0,.string sv,.slice none 0 0,.slice none 0 0,.int .i64 0,.int .i64 0] 56))):=gd (hx3.alloc _));(have HSZ4:=gd HX4.out.size);clear hown3 hg3 hat3 hx3))
 ((try simp only[Exit.inBlock,Exit.then]);refine bodyPost_ret (results_cell_row rfl _ _ _ _ _ _ _ rfl (setRow_heap _ _ _ _ _ _ hkr) Tryz.underlying25 rfl size_val) rfl ?_)
 have hlt:w.heap.size+1<W0.heap.size:=by have:=HWS.out;omega
 exact ⟨A5,c5,rfl,own_mono (own_setRow HOX.out hlt _) (by omega),HXX.out.setRow (by omega) _⟩
end
section
set_option linter.unusedSimpArgs false
theorem gO_of:∀(n:Nat) (j:JO),jplain n (eraseJ j)→jok (eraseJ j)→gO j:=by
 intro n
 induction n with
 |zero=>
  intro j hp hk
  cases j with
  |str a s=>rw[eraseJ,jplain] at hp;rw[eraseJ,jok] at hk;rw[gO];exact ⟨hk,hp⟩
  |_=>simp only[eraseJ,jplain] at hp
 |succ n ih=>
  intro j hp hk
  cases j with
  |str a s=>rw[eraseJ,jplain] at hp;rw[eraseJ,jok] at hk;rw[gO];exact ⟨hk,hp⟩
  |arr a l=>
   rw[eraseJ,jplain] at hp
   rw[eraseJ,jok] at hk
   rw[gO]
   exact fun j hj=>ih j (hp _ (List.mem_map_of_mem hj)) (hk _ (List.mem_map_of_mem hj))
  |obj a ks vs=>
   rw[eraseJ,jplain] at hp
   rw[eraseJ,jok] at hk
   rw[gO]
   obtain ⟨h1,h2,h3,h4⟩:=hk
   refine ⟨by simpa using h1,h2,fun k hk=>h3 _ (List.mem_map_of_mem hk),fun j hj=>ih j (hp.2.2.2 _ (List.mem_map_of_mem hj)) (h4 _ (List.mem_map_of_mem hj))⟩
  |_=>simp only[eraseJ,jplain] at hp
theorem gO_enc {f:Fd} (h:wrF 1000000 f):gO (encO f):=
 gO_of 3 _ (by rw[erase_enc];exact encJ_plain (n:=0) (by decide) h) (by rw[erase_enc];exact encJ_ok (by decide) (by decide) h)
theorem writeEnc_any {f:Fd} (h:wrF 1000000 f) (hl:(jtext (encJ f)).length≤140737488355328) (n:Nat) (hn:n≤100) (cs:List Value) (w:World) (hr:RJn n w (encO f) cs):
 Calls Tryz.prog 57 #[.agg cs.toArray] w fun e w'=>e= .returned (.tuple #[.string (str (jtext (encJ f))),.int .i64 0])∧Ext w w':=by
 have:=writeO_any n hn (encO f) cs w hr (gO_enc h) (by rw[erase_enc];exact hl)
 rw[erase_enc] at this
 exact this
end
section
set_option linter.unusedSimpArgs false
theorem refEnc_no (x:Fc) (w:World) (hr:RdC w x) (hk:fokS x.f) (hno:okJ x.f=false):
 Calls Tryz.prog 19 #[.agg (cellsC x).toArray] w fun e w'=>e= .returned (.tuple #[.agg #[.int .i64 0,.bool false,.int .i64 0,.string ⟨#[]⟩,.slice none 0 0,.slice none 0 0,.int .i64 0],.int .i64 22])∧Ext w w':=by
 have HCK:=gd (fun (w':World) (h:Ext w w')=>refCheckF_any x w' (hr.ext h) hk)
 obtain ⟨C,hC⟩:∃C:Int,(if okF x.f=true then (0:Int) else 22)=C:=⟨_,rfl⟩
 rw[hC] at HCK
 have hno2:C=22∨C=0∧0<x.f.path.length:=by
  rcases okJ_no hno with h|⟨h,h2⟩
  ·rw[h] at hC;exact Or.inl hC.symm
  ·rw[h] at hC;exact Or.inr ⟨hC.symm,h2⟩
 clear hC hno
 obtain ⟨xp,xes,⟨xpath,xid,xtitle,xlink,xupd,xents⟩⟩:=x
 obtain ⟨hx0,hx1⟩:=hr
 dsimp only at*
 obtain ⟨xA,xc,rfl, -, -⟩:=hx0.form
 obtain ⟨xB,xd,rfl, -, -⟩:=hx1.form
 clear hk
 unfold cellsC fCells at HCK⊢
 dsimp only at HCK⊢
 obtain ⟨W0,hW0⟩:∃W0,(w.alloc (.cells #[.slice xA xpath.length xc,.string xid,.string xtitle,.string xlink,.int .i64 xupd,.slice xB xents.length xd] 32)).alloc (.cells #[.int .i64 0,.bool false,.int .i64 0,.string ⟨#[]⟩,.slice none 0 0,.slice none 0 0,.int .i64 0] 25)=W0:=⟨_,rfl⟩
 have hx0':Ext w W0:=by rw[←hW0];exact ((Ext.refl w).alloc _).alloc _
 have hr0:W0.heap[w.heap.size+1]? =some (.cells #[.int .i64 0,.bool false,.int .i64 0,.string ⟨#[]⟩,.slice none 0 0,.slice none 0 0,.int .i64 0] 25 (0,0)):=by
  rw[←hW0]
  have:=heap_alloc_new (w.alloc (.cells #[.slice xA xpath.length xc,.string xid,.string xtitle,.string xlink,.int .i64 xupd,.slice xB xents.length xd] 32)) (.cells #[.int .i64 0,.bool false,.int .i64 0,.string ⟨#[]⟩,.slice none 0 0,.slice none 0 0,.int .i64 0] 25)
  rwa [size_alloc] at this
 have hb0:∀i v,(#[.slice xA xpath.length xc,.string xid,.string xtitle,.string xlink,.int .i64 xupd,.slice xB xents.length xd]:Array Value)[i]? =some v→W0.cell? ⟨w.heap.size,i,none⟩=some v:=fun i v h=>by
  rw[←hW0]
  exact ((Ext.refl (w.alloc _)).alloc _).boxed i v h
 have c0:=hb0 0 _ rfl
 have c1:=hb0 1 _ rfl
 have c2:=hb0 2 _ rfl
 have c3:=hb0 3 _ rfl
 have c4:=hb0 4 _ rfl
 have c5:=hb0 5 _ rfl
 clear hb0
 have HX0:=gd hx0'
 have HR0:=gd hr0
 clear hx0' hr0 hx0 hx1
 rcases hno2 with rfl|⟨rfl,hpl⟩
 case inl=>
  go_enter Tryz.func19,Tryz.ntmps19
  go_wp2_with (first|(go_at_call 23;(have hz:=HCK.out W0 HX0.out);(with_reducible refine Calls.mono hz ?_);clear hz;rintro e w2 ⟨rfl,hx2⟩;(have d0:=hx2.cell c0);(have hkd:=hx2.heap HR0.out))|(refine wpList_store_row rfl 25 (.tmp 2) (.tmp 22) rfl (w.heap.size+1) #[.int .i64 0,.bool false,.int .i64 0,.string ⟨#[]⟩,.slice none 0 0,.slice none 0 0,.int .i64 0] rfl rfl _ _ hkd size_val rfl (all_one (vcells_one (k:=0) (b:=false) (n:=0) (s:=⟨#[]⟩) (a:=0))) ?_))
  ((try simp only[Exit.inBlock,Exit.then]);refine bodyPost_ret (results_cell_row2 rfl _ _ _ _ _ _ _ rfl (setRow_heap _ _ _ _ _ _ hkd) Tryz.underlying25 rfl size_val) rfl ?_)
  exact ⟨rfl,(HX0.out.trans hx2).setRow (Nat.le_succ _) _⟩
 case inr=>
  have hpi:(0:Int)<(xpath.length:Int):=by omega
  go_enter Tryz.func19,Tryz.ntmps19
  go_wp2_with (first|(go_at_call 23;(have hz:=HCK.out W0 HX0.out);(with_reducible refine Calls.mono hz ?_);clear hz;rintro e w2 ⟨rfl,hx2⟩;(have d0:=hx2.cell c0);(have hkd:=hx2.heap HR0.out))|(refine wpList_store_row rfl 25 (.tmp 2) (.tmp 22) rfl (w.heap.size+1) #[.int .i64 0,.bool false,.int .i64 0,.string ⟨#[]⟩,.slice none 0 0,.slice none 0 0,.int .i64 0] rfl rfl _ _ hkd size_val rfl (all_one (vcells_one (k:=0) (b:=false) (n:=0) (s:=⟨#[]⟩) (a:=0))) ?_))
  ((try simp only[Exit.inBlock,Exit.then]);refine bodyPost_ret (results_cell_row2 rfl _ _ _ _ _ _ _ rfl (setRow_heap _ _ _ _ _ _ hkd) Tryz.underlying25 rfl size_val) rfl ?_)
  exact ⟨rfl,(HX0.out.trans hx2).setRow (Nat.le_succ _) _⟩
theorem refWrite_no (x:Fc) (w:World) (hr:RdC w x) (hk:fokS x.f) (hno:okJ x.f=false):
 Calls Tryz.prog 21 #[.agg (cellsC x).toArray] w fun e w'=>e= .returned (.tuple #[.string ⟨#[]⟩,.int .i64 22])∧Ext w w':=by
 have HEN:=gd (fun (w':World) (h:Ext w w')=>refEnc_no x w' (hr.ext h) hk hno)
 obtain ⟨xp,xes,⟨xpath,xid,xtitle,xlink,xupd,xents⟩⟩:=x
 obtain ⟨hx0,hx1⟩:=hr
 dsimp only at*
 obtain ⟨xA,xc,rfl, -, -⟩:=hx0.form
 obtain ⟨xB,xd,rfl, -, -⟩:=hx1.form
 unfold cellsC fCells at HEN⊢
 dsimp only at HEN⊢
 clear hk hno hx0 hx1
 go_enter Tryz.func21,Tryz.ntmps21
 go_wp2_with (first|(go_at_call 19;(have hz:=HEN.out _ ((Ext.refl w).alloc (.cells #[.slice xA xpath.length xc,.string xid,.string xtitle,.string xlink,.int .i64 xupd,.slice xB xents.length xd] 32)));(refine Calls.mono hz ?_);clear hz;rintro e w2 ⟨rfl,hx2⟩))
 go_ret2
 exact ⟨rfl,(((Ext.refl w).alloc _).trans hx2).alloc _⟩
end
section
set_option linter.unusedSimpArgs false
theorem putL_any (l:List (ByteArray×ByteArray)) (B:Option Addr) (d:Nat) (kn sv:ByteArray) (w:World) (hr:RSl w 9 (.slice B l.length d) l.length (l.map cellM).flatten) (hl:l.length≤100):
 Calls Tryz.prog 54 #[.agg #[.int .i64 5,.bool false,.int .i64 0,.string ⟨#[]⟩,.slice none 0 0,.slice B l.length d,.int .i64 0],.string kn,.string sv] w fun e w'=>∃A c,e= .returned (.agg #[.int .i64 5,.bool false,.int .i64 0,.string ⟨#[]⟩,.slice none 0 0,.slice A (l.length+1) c,.int .i64 0])∧w'.ownsRow w.heap.size 56 9 (.slice A (l.length+1) c) (l++ [(kn,sv)]).length ((l++ [(kn,sv)]).map cellM).flatten∧Ext w w':=by
 have h:=putF_any 5 false 0 ⟨#[]⟩ none B 0 0 l.length d 0 (l.map cellM).flatten kn sv w hr (fun u hu=>flat_one (fun c hc=>by
  obtain ⟨m,hm,rfl⟩:=List.mem_map.1 hc
  exact cellM_one m) u hu) hl
 refine Calls.mono h ?_
 rintro e w' ⟨A,c,rfl,ho,hx⟩
 refine ⟨A,c,rfl,?_,hx⟩
 rw[List.length_append,List.map_append,List.flatten_append]
 simpa using ho
end
section
set_option linter.unusedSimpArgs false
theorem month_in {Y m l L:Nat} (h1:1≤m) (h2:m≤12) (hq:monN Y (m - 1)+l=L) (hL:L<lenN Y) (hd:dimN Y m≤l):m<12∧monN Y (m+1 - 1)+(l - dimN Y m)=L:=by
 have h3:monN Y 11+dimN Y 12=lenN Y:=monN_12 Y
 obtain ⟨j,rfl⟩:∃j,m=j+1:=⟨m - 1,by omega⟩
 have h4:monN Y (j+1+1 - 1)=monN Y (j+1 - 1)+dimN Y (j+1):=rfl
 refine ⟨?_,by omega⟩
 rcases Nat.lt_or_ge (j+1) 12 with h|h
 ·exact h
 ·obtain rfl:j=11:=by omega
  have h5:monN Y (11+1 - 1)=monN Y 11:=rfl
  have h6:dimN Y (11+1)=dimN Y 12:=rfl
  omega
theorem refDate_ok (n:Nat) (w:World) (h:n<3652059):
 Calls Tryz.prog 101 #[.int .i64 ((n:Int) - 719162)] w fun e w'=>e= .returned (.tuple #[.int .i64 ((dateN n).1:Nat),.int .i64 ((dateN n).2.1:Nat),.int .i64 ((dateN n).2.2:Nat),.int .i64 0])∧w'=w:=by
 have a1:¬(n:Int) - 719162< -719162:=by omega
 have a2:¬2932896<(n:Int) - 719162:=by omega
 obtain ⟨R,hR⟩:∃R,dateN n=R:=⟨_,rfl⟩
 rw[hR]
 have HR:=gd hR
 have hN:=gd h
 clear hR
 go_enter Tryz.func101,Tryz.ntmps101
 go_wp2
 obtain ⟨wP,hwP⟩:∃wP:World,wP=w:=⟨_,rfl⟩
 subst hwP
 go_loopw [6,7] (fun l y wr=>∃left k:Nat,1≤k∧k≤9999∧left≤n∧Hid (befN k+left=n)∧l= .int .i64 (left:Nat)∧y= .int .i64 (k:Nat)∧wr=wP) (fun _ y _=>10000 - (intOf y).toNat)
 case atStart=>exact ⟨n,1,by omega,by omega,by omega,by show 0+n=n;omega,rfl,rfl,rfl⟩
 case round=>
  obtain ⟨left,k,hk1,hk,hln,hbl,rfl,rfl,rfl⟩:=hrel
  have HC:=gd (fun w'=>refLeap_any k w' hk1 hk)
  have hst:=gd (befN_succ k hk1)
  obtain ⟨E,hE⟩:∃E,lenN k=E:=⟨_,rfl⟩
  have hEv:E=if leapN k then 366 else 365:=by rw[←hE];rfl
  rw[hE] at hst
  by_cases hlt:left<E
  ·have HD:=gd (fun (m:Nat) (h3:1≤m) (h4:m≤12) w'=>by have:=refDaysIn_any k m w';rw[dimI_nat ⟨hk1,hk,h3,h4⟩] at this;exact this)
   have HK:Hid (1≤k):=hk1
   have HLT:Hid (left<lenN k):=by rw[hE];exact hlt
   have go:∀(b:Bool) (E':Nat),leapN k=b→E=E'→(left:Int)<(E':Int):=by rintro b E' _ rfl;omega
   cases hl:leapN k with
   |true=>
    rw[hl] at HC hEv
    simp only[if_true] at hEv
    have b1:(left:Int)<366:=by omega
    clear hE hEv hst hlt hl go
    go_wp2_with (first|(go_at_call 142;(with_reducible refine Calls.mono (HC.out _) ?_);rintro e w1 ⟨rfl,rfl⟩))
    obtain ⟨wQ,hwQ⟩:∃wQ:World,wQ=w1:=⟨_,rfl⟩
    subst hwQ
    go_loopw [6,9] (fun l m wr=>∃l' m':Nat,1≤m'∧m'≤12∧l'≤left∧l= .int .i64 (l':Nat)∧m= .int .i64 (m':Nat)∧Hid (monN k (m' - 1)+l'=left)∧wr=wQ) (fun _ m _=>13 - (intOf m).toNat)
    case atStart=>exact ⟨left,1,by omega,by omega,by omega,rfl,rfl,by show 0+left=left;omega,rfl⟩
    case round=>
     obtain ⟨l',m',hm1,hm2,hl3,rfl,rfl,hq,rfl⟩:=hrel
     have HDm:=gd (HD.out m' hm1 hm2)
     by_cases hdm:dimN k m'≤l'
     ·obtain ⟨hm3,hq2⟩:=month_in hm1 hm2 hq.out HLT.out hdm
      have HQ2:=gd hq2
      obtain ⟨D,hD⟩:∃D,dimN k m'=D:=⟨_,rfl⟩
      rw[hD] at HDm hdm HQ2
      have b2:(D:Int)≤(l':Int):=by omega
      clear hD hq hq2
      go_wp2_with (first|(go_at_call 143;(with_reducible refine Calls.mono (HDm.out _) ?_);rintro e w1 ⟨rfl,rfl⟩))
      go_roundw
      case rel=>exact ⟨l' - D,m'+1,by omega,by omega,by omega,by refine congrArg (Value.int .i64) ?_;omega,by go_num,HQ2,trivial⟩
      case measure=>simp[intOf];omega
     ·have hfin:Hid (R=(k,m',l'+1)):=by
       show _=_
       rw[←HR.out]
       refine IsDate.eq ⟨HK.out,hm1,hm2,by omega,by omega,?_⟩
       have h1:=hbl.out
       have h2:=hq.out
       omega
      obtain ⟨D,hD⟩:∃D,dimN k m'=D:=⟨_,rfl⟩
      rw[hD] at HDm hdm
      have b2:¬(D:Int)≤(l':Int):=by omega
      clear hD hq
      go_wp2_with (first|(go_at_call 143;(with_reducible refine Calls.mono (HDm.out _) ?_);rintro e w1 ⟨rfl,rfl⟩))
      ((try simp only[Exit.inBlock,Exit.then]);refine bodyPost_ret (results_tmp4 rfl _ _ _) rfl ?_)
      exact ⟨by rw[hfin.out];rfl,rfl⟩
   |false=>
    rw[hl] at HC hEv
    simp only[Bool.false_eq_true,if_false] at hEv
    have b1:(left:Int)<365:=by omega
    clear hE hEv hst hlt hl go
    go_wp2_with (first|(go_at_call 142;(with_reducible refine Calls.mono (HC.out _) ?_);rintro e w1 ⟨rfl,rfl⟩))
    obtain ⟨wQ,hwQ⟩:∃wQ:World,wQ=w1:=⟨_,rfl⟩
    subst hwQ
    go_loopw [6,9] (fun l m wr=>∃l' m':Nat,1≤m'∧m'≤12∧l'≤left∧l= .int .i64 (l':Nat)∧m= .int .i64 (m':Nat)∧Hid (monN k (m' - 1)+l'=left)∧wr=wQ) (fun _ m _=>13 - (intOf m).toNat)
    case atStart=>exact ⟨left,1,by omega,by omega,by omega,rfl,rfl,by show 0+left=left;omega,rfl⟩
    case round=>
     obtain ⟨l',m',hm1,hm2,hl3,rfl,rfl,hq,rfl⟩:=hrel
     have HDm:=gd (HD.out m' hm1 hm2)
     by_cases hdm:dimN k m'≤l'
     ·obtain ⟨hm3,hq2⟩:=month_in hm1 hm2 hq.out HLT.out hdm
      have HQ2:=gd hq2
      obtain ⟨D,hD⟩:∃D,dimN k m'=D:=⟨_,rfl⟩
      rw[hD] at HDm hdm HQ2
      have b2:(D:Int)≤(l':Int):=by omega
      clear hD hq hq2
      go_wp2_with (first|(go_at_call 143;(with_reducible refine Calls.mono (HDm.out _) ?_);rintro e w1 ⟨rfl,rfl⟩))
      go_roundw
      case rel=>exact ⟨l' - D,m'+1,by omega,by omega,by omega,by refine congrArg (Value.int .i64) ?_;omega,by go_num,HQ2,trivial⟩
      case measure=>simp[intOf];omega
     ·have hfin:Hid (R=(k,m',l'+1)):=by
       show _=_
       rw[←HR.out]
       refine IsDate.eq ⟨HK.out,hm1,hm2,by omega,by omega,?_⟩
       have h1:=hbl.out
       have h2:=hq.out
       omega
      obtain ⟨D,hD⟩:∃D,dimN k m'=D:=⟨_,rfl⟩
      rw[hD] at HDm hdm
      have b2:¬(D:Int)≤(l':Int):=by omega
      clear hD hq
      go_wp2_with (first|(go_at_call 143;(with_reducible refine Calls.mono (HDm.out _) ?_);rintro e w1 ⟨rfl,rfl⟩))
      ((try simp only[Exit.inBlock,Exit.then]);refine bodyPost_ret (results_tmp4 rfl _ _ _) rfl ?_)
      exact ⟨by rw[hfin.out];rfl,rfl⟩
  ·have hk9:k+1≤9999:=by
    have h1:=hst.out
    have h2:=hbl.out
    have h3:befN 10000=3652059:=by decide
    have h4:=hN.out
    rcases Nat.lt_or_ge k 9999 with h|h
    ·exact h
    ·obtain rfl:k=9999:=by omega
     have h5:befN (9999+1)=befN 10000:=rfl
     omega
   have hbl':Hid (befN (k+1)+(left - E)=n):=by
    show _=_
    have h1:=hst.out
    have h2:=hbl.out
    omega
   cases hl:leapN k with
   |true=>
    rw[hl] at HC hEv
    simp only[if_true] at hEv
    have b1:¬(left:Int)<366:=by omega
    subst hEv
    clear hE hst hl hbl hN
    go_wp2_with (first|(go_at_call 142;(with_reducible refine Calls.mono (HC.out _) ?_);rintro e w1 ⟨rfl,rfl⟩))
    go_roundw
    case rel=>exact ⟨left - 366,k+1,by omega,hk9,by omega,hbl',by refine congrArg (Value.int .i64) ?_;omega,by go_num,trivial⟩
    case measure=>simp[intOf];omega
   |false=>
    rw[hl] at HC hEv
    simp only[Bool.false_eq_true,if_false] at hEv
    have b1:¬(left:Int)<365:=by omega
    subst hEv
    clear hE hst hl hbl hN
    go_wp2_with (first|(go_at_call 142;(with_reducible refine Calls.mono (HC.out _) ?_);rintro e w1 ⟨rfl,rfl⟩))
    go_roundw
    case rel=>exact ⟨left - 365,k+1,by omega,hk9,by omega,hbl',by refine congrArg (Value.int .i64) ?_;omega,by go_num,trivial⟩
    case measure=>simp[intOf];omega
end
section
set_option linter.unusedSimpArgs false
attribute [local go_sem] conv1 strOfNums_size
def pdN (n:Nat):Nat→List UInt8
 |0=> []
 |k+1=>dg (n / 10 ^ k)::pdN n k
theorem pdN_len (n:Nat):∀k,(pdN n k).length=k
 |0=>rfl
 |k+1=>by rw[pdN,List.length_cons,pdN_len]
theorem refPad_any (n width:Nat) (w:World) (hw:width≤4) (hn:n<10 ^ width):
 Calls Tryz.prog 102 #[.int .i64 (n:Nat),.int .i64 (width:Nat)] w fun e w'=>e= .returned (.string (str (pdN n width)))∧Ext w w':=by
 have hn4:n<10000:=Nat.lt_of_lt_of_le hn (Nat.pow_le_pow_right (by omega) hw)
 have HN:=gd hn
 clear hn
 go_enter Tryz.func102,Tryz.ntmps102
 go_wp2
 go_loopw [0,5] (fun x s wr=>∃k m:Nat,k≤width∧m≤9999∧Hid (m=n / 10 ^ k)∧x= .int .i64 (m:Nat)∧s= .string (str (pdN n k))∧Ext w wr) (fun _ s _=>width - (match s with| .string b=>b.size|_=>0))
 case atStart=>exact ⟨0,n,by omega,by omega,by show n=n / 1;simp,rfl,rfl,Ext.refl _⟩
 case round=>
  obtain ⟨k,m,hk,hm,hmk,rfl,rfl,hx⟩:=hrel
  have hsz:(str (pdN n k)).size=k:=by simp[str,ByteArray.size,pdN_len]
  by_cases hlt:k<width
  ·obtain ⟨c,hc⟩:∃c,m % 10=c:=⟨_,rfl⟩
   have hci:(m:Int) % 10=(c:Int):=by omega
   obtain ⟨d,hd⟩:∃d,m / 10=d:=⟨_,rfl⟩
   have hdi:(m:Int) / 10=(d:Int):=by omega
   have hd9:d≤9999:=by omega
   have hc9:c≤9:=by omega
   have hdk:Hid (d=n / 10 ^ (k+1)):=by show _=_;rw[←hd,hmk.out,Nat.div_div_eq_div_mul,Nat.pow_succ]
   have hpd:Hid (str (pdN n (k+1))=str (UInt8.ofNat (48+c)::pdN n k)):=by show _=_;rw[pdN,←hmk.out,←hc];rfl
   obtain ⟨S,hS⟩:∃S,pdN n k=S:=⟨_,rfl⟩
   rw[hS] at hsz hpd
   simp only[hS]
   have b2:(k:Int)<(width:Int):=by omega
   have hs2:((str S).size:Int)=(k:Int):=by rw[hsz]
   clear hmk hS
   rcases Nat.eq_zero_or_pos m with h0|h0
   ·have b1:¬(0:Int)<(m:Int):=by omega
    obtain rfl:c=0:=by omega
    obtain rfl:d=0:=by omega
    subst h0
    rw[show ((0:Nat):Int)=0 from rfl]
    clear hc hd hci hdi b1
    go_wp2
    go_roundw
    case rel=>exact ⟨k+1,0,hlt,hd9,hdk,rfl,by rw[hpd.out];exact congrArg Value.string (cons_nums _ _ _ rfl),hx.alloc _⟩
    case measure=>show width - (strOfNums [48]++str S).size<width - (str S).size;rw[ByteArray.size_append,hsz];simp[strOfNums_size];omega
   ·have b1:(0:Int)<(m:Int):=by omega
    clear hc hd
    go_wp2
    go_roundw
    case rel=>exact ⟨k+1,d,hlt,hd9,hdk,rfl,by rw[hpd.out];exact congrArg Value.string (cons_nums _ _ _ (by omega)),hx.alloc _⟩
    case measure=>show width - (strOfNums [48+(c:Int)]++str S).size<width - (str S).size;rw[ByteArray.size_append,hsz];simp[strOfNums_size];omega
  ·obtain rfl:k=width:=by omega
   have hm0:m=0:=by rw[hmk.out];exact Nat.div_eq_of_lt HN.out
   subst hm0
   have b1:¬(0:Int)<((0:Nat):Int):=by omega
   have hs2:((str (pdN n k)).size:Int)=(k:Int):=by rw[hsz]
   rw[show ((0:Nat):Int)=0 from rfl]
   go_wp2
   go_ret
   exact ⟨rfl,hx⟩
end
section
set_option linter.unusedSimpArgs false
theorem refPad2_any (n:Nat) (w:World) (hn:n<100):
 Calls Tryz.prog 102 #[.int .i64 (n:Nat),.int .i64 2] w fun e w'=>e= .returned (.string (str (pad2 n)))∧Ext w w':=by
 have h:=refPad_any n 2 w (by omega) hn
 have e:pdN n 2=pad2 n:=by simp[pdN,pad2]
 rwa [e] at h
theorem refPad4_any (n:Nat) (w:World) (hn:n<10000):
 Calls Tryz.prog 102 #[.int .i64 (n:Nat),.int .i64 4] w fun e w'=>e= .returned (.string (str (pad4 n)))∧Ext w w':=by
 have h:=refPad_any n 4 w (by omega) hn
 have e:pdN n 4=pad4 n:=by simp[pdN,pad4]
 rwa [e] at h
theorem refFormat_any (t:Int) (w:World) (ht:inT t=true):
 Calls Tryz.prog 55 #[.int .i64 t] w fun e w'=>e= .returned (.tuple #[.string (str (fmtL t)),.int .i64 0])∧Ext w w':=by
 obtain ⟨hu,hn⟩:=sinceN_at ht
 have hr: -62135596800≤t∧t≤253402300799:=by simpa [inT] using ht
 have hd:=dateN_ok (sinceN t / 86400)
 have hy:=hd.top hn
 have HD:=gd (fun w'=>refDate_ok (sinceN t / 86400) w' hn)
 have hR:fmtL t=fmtD (dateN (sinceN t / 86400)).1 (dateN (sinceN t / 86400)).2.1 (dateN (sinceN t / 86400)).2.2 (sinceN t % 86400):=rfl
 obtain ⟨N,hN⟩:∃N,sinceN t / 86400=N:=⟨_,rfl⟩
 obtain ⟨s,hs⟩:∃s,sinceN t % 86400=s:=⟨_,rfl⟩
 obtain ⟨u,hu0⟩:∃u,sinceN t=u:=⟨_,rfl⟩
 have hq1:(u:Int) / 86400=(N:Int):=by rw[hu0] at hN;omega
 have hq2:(u:Int) % 86400=(s:Int):=by rw[hu0] at hs;omega
 have hs8:s<86400:=by omega
 rw[hN,hs] at hR
 rw[hN] at hd hy HD hn
 rw[hu0] at hu
 have hus:t+62135596800=(u:Int):=hu.symm
 have hu9:(u:Int)≤315537897599:=by omega
 obtain ⟨q,hq⟩:∃q,dateN N=q:=⟨_,rfl⟩
 rw[hq] at hd hy HD hR
 obtain ⟨y,m,d⟩:=q
 simp only at hd hy HD hR
 have hm:m<100:=by have:=hd.2.2.1;omega
 have hdd:d<100:=by have:=hd.2.2.2.2.1;have:=(dimN_pos y m).2;omega
 have hy:y<10000:=by omega
 obtain ⟨S1,hS1⟩:∃x,s / 3600=x:=⟨_,rfl⟩
 obtain ⟨S0,hS0⟩:∃x,s / 60=x:=⟨_,rfl⟩
 obtain ⟨S2,hS2⟩:∃x,S0 % 60=x:=⟨_,rfl⟩
 obtain ⟨S3,hS3⟩:∃x,s % 60=x:=⟨_,rfl⟩
 rw[fmtD,hS0,hS1,hS2,hS3] at hR
 have hs9:(s:Int)≤86399:=by omega
 have h3:((s:Int) / 3600)=(S1:Int):=by omega
 have h60:((s:Int) / 60)=(S0:Int):=by omega
 have h62:((S0:Int) % 60)=(S2:Int):=by omega
 have h6:((s:Int) % 60)=(S3:Int):=by omega
 have hb1:S1<100:=by omega
 have hb2:S2<100:=by omega
 have hb3:S3<100:=by omega
 have hb0:(S0:Int)≤86399:=by omega
 have a1:¬t< -62135596800:=by omega
 have a2:¬253402300799<t:=by omega
 have hn1:(N:Int)≤3652058:=by omega
 have HP4:=gd (fun w'=>refPad4_any y w' hy)
 have HPm:=gd (fun w'=>refPad2_any m w' hm)
 have HPd:=gd (fun w'=>refPad2_any d w' hdd)
 have HP1:=gd (fun w'=>refPad2_any S1 w' hb1)
 have HP2:=gd (fun w'=>refPad2_any S2 w' hb2)
 have HP3:=gd (fun w'=>refPad2_any S3 w' hb3)
 have z4:(str (pad4 y)).size=4:=rfl
 have z2:∀n,(str (pad2 n)).size=2:=fun _=>rfl
 have zm:=z2 m
 have zd:=z2 d
 have z1:=z2 S1
 have z22:=z2 S2
 have z3:=z2 S3
 have HRR:Hid (str (pad4 y)++⟨#[45]⟩++str (pad2 m)++⟨#[45]⟩++str (pad2 d)++⟨#[84]⟩++str (pad2 S1)++⟨#[58]⟩++str (pad2 S2)++⟨#[58]⟩++str (pad2 S3)++⟨#[90]⟩=str (fmtL t)):=by
  show _=_
  rw[hR]
  refine bytes_inj ?_
  simp
 generalize str (pad4 y)=P4 at*
 generalize str (pad2 m)=Pm at*
 generalize str (pad2 d)=Pd at*
 generalize str (pad2 S1)=P1 at*
 generalize str (pad2 S2)=P2 at*
 generalize str (pad2 S3)=P3 at*
 clear hN hs hu0 hq hd hR ht hu hr hS1 hS0 hS2 hS3 z2 hn
 go_enter Tryz.func55,Tryz.ntmps55
 go_wp2_with (first|(go_at_call 101;(have hz:=HD.out w);(with_reducible refine Calls.mono hz ?_);clear hz;rintro e w0 ⟨rfl,rfl⟩)|(go_at_call 102;(have hz:=HP4.out w0);(with_reducible refine Calls.mono hz ?_);clear hz;rintro e w1 ⟨rfl,hx1⟩)|(go_at_call 102;(have hz:=HPm.out w1);(with_reducible refine Calls.mono hz ?_);clear hz;rintro e w2 ⟨rfl,hx2⟩)|(go_at_call 102;(have hz:=HPd.out w2);(with_reducible refine Calls.mono hz ?_);clear hz;rintro e w3 ⟨rfl,hx3⟩)|(go_at_call 102;(have hz:=HP1.out w3);(with_reducible refine Calls.mono hz ?_);clear hz;rintro e w4 ⟨rfl,hx4⟩)|(go_at_call 102;(have hz:=HP2.out w4);(with_reducible refine Calls.mono hz ?_);clear hz;rintro e w5 ⟨rfl,hx5⟩)|(go_at_call 102;(have hz:=HP3.out w5);(with_reducible refine Calls.mono hz ?_);clear hz;rintro e w6 ⟨rfl,hx6⟩))
 go_ret2
 exact ⟨by rw[←HRR.out];rfl,((((hx1.trans hx2).trans hx3).trans hx4).trans hx5).trans hx6⟩
end
def toldR (R:Act→World→Prop):Exit→Act→World→Prop
 | .normal,a',w'=>R a' w'
 |_,_,_=>False
theorem wp_toldR {P:Program} {c:Code} {Q:Exit→Act→World→Prop} {a:Act} {w:World} (R:Act→World→Prop) (h1:∀a' w',R a' w'→Q .normal a' w') (h2:c.wp P (toldR R) a w):c.wp P Q a w:=
 Code.wp_mono (fun e a' w' h=>by cases e<;>first|exact h1 a' w' h|exact h.elim) h2
end Go.Proofs.YthlnaldahkgjnaaGreatDoor
