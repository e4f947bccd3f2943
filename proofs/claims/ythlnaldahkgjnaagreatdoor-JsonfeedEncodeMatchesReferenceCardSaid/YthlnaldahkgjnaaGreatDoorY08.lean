/- Parts of the proof: contracts and plain laws. -/
import Derived.Test.YthlnaldahkgjnaaGreatDoorY07
namespace Go.Proofs.YthlnaldahkgjnaaGreatDoor
open Go Go.RowKit
set_option linter.unusedVariables false
set_option linter.unusedSimpArgs false
set_option maxRecDepth 100000
set_option maxHeartbeats 16000000
theorem cell58: [Value.int IntKind.u8 58]=Lib.byteCells [58]:=rfl
theorem cell125: [Value.int IntKind.u8 125]=Lib.byteCells [125]:=rfl
theorem keyed_len (k:ByteArray) (t:List UInt8):(keyed k t).length=(quoteL k.data.toList).length+1+t.length:=by
 rw[keyed,List.length_append,List.length_cons];omega
theorem member_any (n:Nat) (ih:ValueSaid n) (j:JV) (key:ByteArray) (cv:List Value) (at_:Int) (w0 w:World) (B b:Nat) (bs:List Value) (d:Nat) (hrv:RVn n w0 j cv) (hok:jok j) (hv:jvalid j d=true) (hk:key.size≤16777216∧Lib.validD key.data.toList=true) (hE:Env w0) (hx:Ext w0 w) (h0:w0.heap.size≤B)
 (hB:WB B b bs w) (hBw:B≤w.heap.size) (hl:bs.length+(keyed key (jtext j)).length≤140737488355328):
 Calls Tryz.prog 150 #[.pointer (some ⟨b,0,none⟩),.agg (mcell (key,cv,at_)).toArray] w fun e w'=>e= .returned (.tuple #[])∧(WB B b (bs++Lib.byteCells (keyed key (jtext j))) w'∧Below B w w'):=by
 rw[keyed_len] at hl
 have hEw:=hE.ext hx
 obtain ⟨x0,x1,x2,x3,x4,x5,x6,y4,y5,y6,x7,hc⟩:=hrv.shape
 subst hc
 obtain ⟨O,hO⟩:∃O,Obj.cells #[Value.string key,.int .i64 x0,.bool x1,.int .i64 x2,.string x3,.slice x4 x5 x6,.slice y4 y5 y6,.int .i64 x7,.int .i64 at_] 56=O:=⟨_,rfl⟩
 have hxa:Ext w (w.alloc O):=(Ext.refl w).alloc O
 have hba:Below B w (w.alloc O):=Below.mono hxa hBw
 have hq:quoteS key=(str (quoteL key.data.toList),0):=by unfold quoteS;rw[if_pos hk.2]
 have hqs:(str (quoteL key.data.toList)).size=(quoteL key.data.toList).length:=by rw[←data_len,str_list]
 have hstr:=jstr_k key B b bs (w.alloc O) (hEw.ext hxa) hk.1 (builder_ext hB hxa) (Nat.le_trans hBw hxa.size) (by rw[hq];show bs.length+(str (quoteL key.data.toList)).size≤_;rw[hqs];omega)
 rw[hq] at hstr
 dsimp only at hstr
 rw[str_list] at hstr
 have hk0:(w.alloc O).heap[w.heap.size]? =some O:=heap_alloc_new w _
 have hfit:Hid ((bs++Lib.byteCells (quoteL key.data.toList)).length+1≤140737488355328∧(bs++Lib.byteCells (quoteL key.data.toList)++ [Value.int .u8 58]).length+(jtext j).length≤140737488355328):=by
  refine ⟨?_,?_⟩
  ·rw[List.length_append,byteCells_len];omega
  ·rw[List.length_append,List.length_append,byteCells_len];simp only[List.length_cons,List.length_nil];omega
 have hkd:keyed key (jtext j)=quoteL key.data.toList++([58]++jtext j):=rfl
 have hfl:∀w',WB B b (bs++Lib.byteCells (quoteL key.data.toList)++ [Value.int .u8 58]++Lib.byteCells (jtext j)) w'→WB B b (bs++Lib.byteCells (keyed key (jtext j))) w':=by
  intro w' h
  rw[hkd,byteCells_app,byteCells_app,←cell58,←List.append_assoc,←List.append_assoc]
  exact h
 have HFL:=gd hfl
 have HST:=gd hstr
 have HIH:=gd ih
 have HRV:=gd hrv
 have HOK:=gd hok
 have HV:=gd hv
 clear hfl hkd hstr ih hrv hok hv hqs hq hl hk
 subst hO
 unfold mcell
 go_enter Tryz.func150,Tryz.ntmps150
 go_wp2_with (first|(go_at_call 147;refine HST.out.mono ?_;rintro e w1 ⟨rfl,hB1,hx1,hkp1⟩;(have hk1:=hkp1 _ _ _ _ hk0 (by decide) (by decide));(have hs1:=Nat.le_trans (Nat.le_trans hBw hxa.size) hx1.size))|(go_at_call 69;refine (Builder_WriteByte_k bt_writer _ _ _ _ _ hB1 hfit.out.1 hs1).mono ?_;rintro e w2 ⟨rfl,hB2,hx2,hkp2⟩;(have hs2:=Nat.le_trans hs1 hx2.size);(have hk2:=hkp2 _ _ _ _ hk1 (by decide) (by decide));(have hy1:=(cell_of_row _ _ 1 _ _ _ hk2));(have hy2:=(cell_of_row _ _ 2 _ _ _ hk2));(have hy3:=(cell_of_row _ _ 3 _ _ _ hk2));(have hy4:=(cell_of_row _ _ 4 _ _ _ hk2));(have hy5:=(cell_of_row _ _ 5 _ _ _ hk2));(have hy6:=(cell_of_row _ _ 6 _ _ _ hk2));(have hy7:=(cell_of_row _ _ 7 _ _ _ hk2)))|(go_at_call 104;refine (HIH.out j _ w0 _ B b _ d HRV.out HOK.out HV.out hE (hx.then (Below.mono ((hba.trans hx1).trans hx2) h0)) h0 (Or.inr hB2) hs2 hfit.out.2).mono ?_;rintro e w3 ⟨rfl,hB3,hx3⟩))
 ((try simp only[Exit.inBlock,Exit.then]);refine bodyPost_end (results_none rfl _ _ _) rfl ?_)
 exact ⟨rfl,HFL.out _ hB3,((hba.trans hx1).trans hx2).trans hx3⟩
theorem join_obj (n:Nat) (ih:ValueSaid n) (ks:List ByteArray) (l:List JV) (A:Option Addr) (c:Nat) (ms:List (ByteArray×List Value×Int)) (w0 w:World) (B b:Nat) (bs:List Value) (d:Nat) (hml:ms.length=l.length) (hks:ms.map Prod.fst=ks) (hkl:ks.length=l.length) (hkv:∀k∈ks,k.size≤16777216∧Lib.validD k.data.toList=true)
 (hr:RSl w0 9 (.slice A l.length c) l.length (ms.map mcell).flatten) (hel:∀(i:Nat) (j:JV) (m:ByteArray×List Value×Int),l[i]? =some j→ms[i]? =some m→RVn n w0 j m.2.1) (hok:∀j∈l,jok j) (hv:∀j∈l,jvalid j d=true) (hE:Env w0) (hx:Ext w0 w) (h0:w0.heap.size≤B)
 (hB:WB B b bs w) (hBw:B≤w.heap.size) (hl:bs.length+(commas (List.zipWith keyed ks (l.map jtext))).length+2≤140737488355328):
 Calls Tryz.prog 149 #[.pointer (some ⟨b,0,none⟩),.int .u8 123,.int .u8 125,.slice A l.length c,.func (.func 150) #[.pointer (some ⟨b,0,none⟩)] #[]] w
  fun e w'=>e= .returned (.tuple #[])∧(WB B b (bs++Lib.byteCells (123::(commas (List.zipWith keyed ks (l.map jtext))++ [125]))) w'∧Below B w w'):=by
 obtain ⟨_,A',c',hAc,hmc,hcm,_,_⟩:=id hr
 injection hAc with h1 h2 h3
 subst h1 h3
 have hln:∀c∈ms.map mcell,c.length=9:=by
  intro c hc
  obtain ⟨m,hm,rfl⟩:=List.mem_map.1 hc
  obtain ⟨i,hi,rfl⟩:=List.mem_iff_getElem.1 hm
  have:=(hel i l[i] ms[i] (List.getElem?_eq_getElem (by omega)) (List.getElem?_eq_getElem hi)).len
  simp[mcell,this]
 have hzl:(List.zipWith keyed ks (l.map jtext)).length=l.length:=by rw[List.length_zipWith,List.length_map,hkl,Nat.min_self]
 have HLN:=gd hln
 have HIH:=gd ih
 have HEL:=gd hel
 have HOK:=gd hok
 have HV:=gd hv
 have HL:=gd hl
 have HKV:=gd hkv
 have HKS:=gd hks
 have HZL:=gd hzl
 have hcs:∀k,k≤(List.zipWith keyed ks (l.map jtext)).length→bs.length+(commas ((List.zipWith keyed ks (l.map jtext)).take k)).length+2≤140737488355328:=fun k hk=>by have:=commas_le _ k hk;omega
 have HCS:=gd hcs
 clear hln ih hel hok hv hcs hl hkv hks hzl
 go_enter Tryz.func149,Tryz.ntmps149
 go_wp2_with (go_at_call 69;refine (builderWriteByte_t bt_writer _ _ _ _ _ hB (by have:=HL.out;omega) hBw).mono ?_;rintro e w1 ⟨rfl,hB1,hx1⟩)
 go_loopw [19] (fun i wr=>∃k:Nat,k≤l.length∧i= .int .i64 k∧WB B b (bs++Lib.byteCells (123::commas ((List.zipWith keyed ks (l.map jtext)).take k))) wr∧Below B w wr) (fun i _=>l.length - (intOf i).toNat)
 case atStart=>exact ⟨0,Nat.zero_le _,rfl,hB1,hx1⟩
 case round=>
  obtain ⟨k,hk,rfl,hBk,hxk⟩:=hrel
  have hxw:Ext w0 wr:=hx.then (Below.mono hxk h0)
  have hBs:=Nat.le_trans hBw hxk.size
  by_cases hlt:k<l.length
  ·have hck:k<ms.length:=by omega
   have hkk:k<ks.length:=by omega
   have hRV:=HEL.out k l[k] ms[k] (List.getElem?_eq_getElem hlt) (List.getElem?_eq_getElem hck)
   obtain ⟨ad,cap,hA,hcells⟩:=RSl.elem (hr.ext hxw) (by omega) HLN.out k (mcell ms[k]) (by rw[List.getElem?_map,List.getElem?_eq_getElem hck];rfl)
   injection hA with hA1 hA2 hA3
   subst hA1
   clear hA2 hA3
   rw[Nat.mul_comm] at hcells
   have hkey:ks[k]=ms[k].1:=by
    have h1:(ms.map Prod.fst)[k]? =ks[k]?:=by rw[HKS.out]
    rw[List.getElem?_map,List.getElem?_eq_getElem hck,List.getElem?_eq_getElem hkk] at h1
    injection h1 with h1
    exact h1.symm
   have hkok:=HKV.out ks[k] (List.getElem_mem _)
   have hct:=commas_take (List.zipWith keyed ks (l.map jtext)) k (by rw[HZL.out];exact hlt)
   rw[List.getElem_zipWith,List.getElem_map] at hct
   obtain ⟨M,hM0⟩:∃M,ms[k]=M:=⟨_,rfl⟩
   rw[hM0] at hcells hRV hkey
   obtain ⟨key,cv,at_⟩:=M
   dsimp only at hkey hRV
   rw[hkey] at hkok hct
   have hl7:=hRV.len
   obtain ⟨x0,x1,x2,x3,x4,x5,x6,y4,y5,y6,x7,hc⟩:=hRV.shape
   subst hc
   obtain ⟨hc0,cv_,hc8⟩:=mcell_at hl7 hcells
   have hc1:=cv_ 0 _ rfl
   have hc2:=cv_ 1 _ rfl
   have hc3:=cv_ 2 _ rfl
   have hc4:=cv_ 3 _ rfl
   have hc5:=cv_ 4 _ rfl
   have hc6:=cv_ 5 _ rfl
   have hc7:=cv_ 6 _ rfl
   simp only[Nat.zero_add,Nat.reduceAdd] at hc1 hc2 hc3 hc4 hc5 hc6 hc7
   clear hcells cv_ hl7 hkey hM0
   have hw1:wrap64 ((k:Int)+1)=((k+1:Nat):Int):=by rw[maxLen] at hcm;rw[wrap_ok _ ⟨by omega,by omega⟩];rfl
   have HRV:=gd hRV
   have HKO:=gd hkok
   have hok1:=HOK.out l[k] (List.getElem_mem _)
   have hv1:=HV.out l[k] (List.getElem_mem _)
   have hcl1:=HCS.out (k+1) (by rw[HZL.out];exact hlt)
   rw[hct] at hcl1
   clear hRV
   have HC1:=gd hcl1
   have HCT:=gd hct
   have HOK1:=gd hok1
   have HV1:=gd hv1
   have hxa:∀o,Ext wr (wr.alloc o):=fun o=>(Ext.refl wr).alloc o
   have hba:∀o,Below B wr (wr.alloc o):=fun o=>Below.mono (hxa o) hBs
   have hBa:∀o,B≤(wr.alloc o).heap.size:=fun o=>Nat.le_trans hBs (hxa o).size
   clear hct hcl1 hok1 hv1 hkok
   have hms:l.length - (intOf (Value.int IntKind.i64 (wrap64 ((k:Int)+1)))).toNat<l.length - (intOf (Value.int IntKind.i64 (k:Int))).toNat:=by
    rw[hw1]
    exact Nat.sub_lt_sub_left hlt (Nat.lt_succ_self k)
   have hwe:=congrArg (Value.int .i64) hw1
   have hk1:k+1≤l.length:=hlt
   rcases Nat.eq_zero_or_pos k with hk0|hk0
   ·have hd0:decide (0<k)=false:=decide_eq_false (by rw[hk0];exact Nat.lt_irrefl 0)
    have hct0:commas (List.take (k+1) (List.zipWith keyed ks (l.map jtext)))=keyed key (jtext l[k]):=by rw[HCT.out,if_pos hk0];rfl
    have hct1:commas (List.take k (List.zipWith keyed ks (l.map jtext)))= []:=by
     have:∀m,m=0→commas (List.take m (List.zipWith keyed ks (l.map jtext)))= []:=by rintro m rfl;rfl
     exact this k hk0
    have hcb:bs.length+(keyed key (jtext l[k])).length+2≤140737488355328:=by have:=HC1.out;rw[if_pos hk0] at this;exact this
    have hcv:Hid ((bs++Lib.byteCells (123::commas (List.take k (List.zipWith keyed ks (l.map jtext))))).length+(keyed key (jtext l[k])).length≤140737488355328):=by
     unfold Hid
     rw[hct1,List.length_append,byteCells_len]
     simp only[List.length_cons,List.length_nil]
     omega
    have HCB:=gd hcv
    have HC0:=gd hct0
    have HC2:=gd hct1
    clear hk0 hct0 hct1 hcb
    go_wp2_with (go_at_call 150;refine (member_any n HIH.out l[k] key _ at_ w0 _ B b _ d HRV.out HOK1.out HV1.out HKO.out hE (hxw.alloc _) h0 (builder_ext hBk (hxa _)) (hBa _) hcv.out).mono ?_;rintro e w2 ⟨rfl,hB2,hx2⟩)
    have hfin:WB B b (bs++Lib.byteCells (123::commas ((List.zipWith keyed ks (l.map jtext)).take (k+1)))) w2:=by
     rw[HC0.out]
     have h2:=hB2
     rw[HC2.out,List.append_assoc,←byteCells_app] at h2
     exact h2
    have hxf:=hxk.trans ((hba _).trans hx2)
    go_roundw
    case rel=>exact ⟨k+1,hk1,hwe,hfin,hxf⟩
    case measure=>exact hms
   ·have hd0:decide (0<k)=true:=decide_eq_true hk0
    have hne:k≠0:=Nat.pos_iff_ne_zero.1 hk0
    have hct0:commas (List.take (k+1) (List.zipWith keyed ks (l.map jtext)))=commas (List.take k (List.zipWith keyed ks (l.map jtext)))++ [44]++keyed key (jtext l[k]):=by rw[HCT.out,if_neg hne]
    have hcb:bs.length+(commas (List.take k (List.zipWith keyed ks (l.map jtext)))++ [44]++keyed key (jtext l[k])).length+2≤140737488355328:=by have:=HC1.out;rw[if_neg hne] at this;exact this
    rw[List.length_append,List.length_append] at hcb
    simp only[List.length_cons,List.length_nil] at hcb
    have hcv:Hid ((bs++Lib.byteCells (123::commas (List.take k (List.zipWith keyed ks (l.map jtext))))++ [Value.int .u8 44]).length+(keyed key (jtext l[k])).length≤140737488355328):=by
     unfold Hid
     rw[List.length_append,List.length_append,byteCells_len]
     simp only[List.length_cons,List.length_nil]
     omega
    have hcu:Hid ((bs++Lib.byteCells (123::commas (List.take k (List.zipWith keyed ks (l.map jtext))))).length+1≤140737488355328):=by
     unfold Hid
     rw[List.length_append,byteCells_len]
     simp only[List.length_cons]
     omega
    have HC0:=gd hct0
    clear hk0 hct0 hcb hne
    go_wp2_with (first|(go_at_call 69;refine (Builder_WriteByte_k bt_writer _ _ _ _ _ (builder_ext hBk (hxa _)) hcu.out (hBa _)).mono ?_;rintro e w2 ⟨rfl,hB2,hx2,hks⟩;(have hbs2:=Nat.le_trans (hBa _) hx2.size);(have hk2:=hks _ _ _ _ (heap_alloc_new wr _) (by decide) (by decide));(have hy0:=(cell_of_row _ _ 0 _ _ _ hk2));(have hy1:=(cell_of_row _ _ 1 _ _ _ hk2));(have hy2:=(cell_of_row _ _ 2 _ _ _ hk2));(have hy3:=(cell_of_row _ _ 3 _ _ _ hk2));(have hy4:=(cell_of_row _ _ 4 _ _ _ hk2));(have hy5:=(cell_of_row _ _ 5 _ _ _ hk2));(have hy6:=(cell_of_row _ _ 6 _ _ _ hk2));(have hy7:=(cell_of_row _ _ 7 _ _ _ hk2));(have hy8:=(cell_of_row _ _ 8 _ _ _ hk2)))|(go_at_call 150;refine (member_any n HIH.out l[k] key _ at_ w0 _ B b _ d HRV.out HOK1.out HV1.out HKO.out hE (hx.then (Below.mono (hxk.trans ((hba _).trans hx2)) h0)) h0 (Or.inr hB2) hbs2 hcv.out).mono ?_;rintro e w3 ⟨rfl,hB3,hx3⟩))
    have hfin:WB B b (bs++Lib.byteCells (123::commas ((List.zipWith keyed ks (l.map jtext)).take (k+1)))) w3:=by
     rw[HC0.out]
     have h2:=hB3
     rw[List.append_assoc,List.append_assoc,cell44,←byteCells_app,←byteCells_app] at h2
     simpa using h2
    have hxf:=hxk.trans ((hba _).trans (hx2.trans hx3))
    go_roundw
    case rel=>exact ⟨k+1,hk1,hwe,hfin,hxf⟩
    case measure=>exact hms
  ·have hke:(List.zipWith keyed ks (l.map jtext)).take k=List.zipWith keyed ks (l.map jtext):=List.take_of_length_le (by rw[HZL.out];exact Nat.not_lt.1 hlt)
   rw[hke] at hBk
   have hcu:Hid ((bs++Lib.byteCells (123::commas (List.zipWith keyed ks (l.map jtext)))).length+1≤140737488355328):=by
    unfold Hid
    rw[List.length_append,byteCells_len]
    have:=HL.out
    simp only[List.length_cons]
    omega
   clear HCS HL hke
   go_wp2_with (go_at_call 69;refine (builderWriteByte_t bt_writer _ _ _ _ _ hBk hcu.out hBs).mono ?_;rintro e w2 ⟨rfl,hB2,hx2⟩)
   ((try simp only[Exit.inBlock,Exit.then]);refine bodyPost_end (results_none rfl _ _ _) rfl ?_)
   refine ⟨rfl,?_,hxk.trans hx2⟩
   rw[cell125,List.append_assoc,←byteCells_app] at hB2
   exact hB2
theorem value_obj (n:Nat) (ih:ValueSaid n) (ks:List ByteArray) (vs:List JV) (cs:List Value) (w0 w:World) (B b:Nat) (bs:List Value) (d:Nat) (hrv:RVn (n+1) w0 (.obj ks vs) cs) (hok:jok (.obj ks vs)) (hv:jvalid (.obj ks vs) d=true) (hE:Env w0) (hx:Ext w0 w) (h0:w0.heap.size≤B)
 (hB:WB B b bs w) (hBw:B≤w.heap.size) (hl:bs.length+(jtext (.obj ks vs)).length≤140737488355328):
 Calls Tryz.prog 104 #[.pointer (some ⟨b,0,none⟩),.agg cs.toArray] w fun e w'=>e= .returned (.tuple #[])∧(WB B b (bs++Lib.byteCells (jtext (.obj ks vs))) w'∧Below B w w'):=by
 obtain ⟨a,v,ms,rfl,hks,hml,hr,hel⟩:=hrv
 obtain ⟨_,A,c,rfl,hmc,hcm,_,_⟩:=id hr
 rw[jok_obj] at hok
 obtain ⟨hkl,hnd,hkv,hvs⟩:=hok
 rw[jvalid_obj] at hv
 rw[jtext_obj] at hl⊢
 simp only[Bool.and_eq_true,List.all_eq_true] at hv
 have hl':bs.length+(commas (List.zipWith keyed ks (vs.map jtext))).length+2≤140737488355328:=by
  simp only[List.length_cons,List.length_append,List.length_nil] at hl
  omega
 have HJ:=gd (fun w' (hx':Ext w0 w') hB' hBw'=>join_obj n ih ks vs A c ms w0 w' B b bs (d+1) hml hks hkl hkv hr hel hvs hv.2 hE hx' h0 hB' hBw' hl')
 have hbel:∀o,Below B w (w.alloc o):=fun o=>Below.mono ((Ext.refl w).alloc o) hBw
 clear hkl hnd hkv hvs hks hml hv hel hl hl' ih
 unfold ocells
 go_enter Tryz.func104,Tryz.ntmps104
 go_wp2_with (go_at_call 149;refine (HJ.out _ (hx.alloc _) (builder_ext hB ((Ext.refl w).alloc _)) (Nat.le_trans hBw ((Ext.refl w).alloc _).size)).mono ?_;rintro e w2 ⟨rfl,hB2,hx2⟩)
 ((try simp only[Exit.inBlock,Exit.then]);refine bodyPost_end (results_none rfl _ _ _) rfl ?_)
 exact ⟨rfl,hB2,(hbel _).trans hx2⟩
theorem value_in:∀n,ValueSaid n
 |0,_,_,_,_,_,_,_,_,h,_,_,_,_,_,_,_,_=>h.elim
 |n+1,j,cs,w0,w,B,b,bs,d,h,hok,hv,hE,hx,h0,hB,hBw,hl=>by
  cases j with
  |arr l=>exact value_arr n (value_in n) l cs w0 w B b bs d h hok hv hE hx h0 hB hBw hl
  |obj ks vs=>exact value_obj n (value_in n) ks vs cs w0 w B b bs d h hok hv hE hx h0 hB hBw hl
  |null=>exact value_leaf (n+1) _ cs w0 w B b bs d h hok hv hE hx h0 hB hBw hl (by simp) (by simp)
  |bool x=>exact value_leaf (n+1) _ cs w0 w B b bs d h hok hv hE hx h0 hB hBw hl (by simp) (by simp)
  |int x=>exact value_leaf (n+1) _ cs w0 w B b bs d h hok hv hE hx h0 hB hBw hl (by simp) (by simp)
  |str s=>exact value_leaf (n+1) _ cs w0 w B b bs d h hok hv hE hx h0 hB hBw hl (by simp) (by simp)
theorem info_val:(Tryz.prog.info? 25).map (fun i=>(i.zero,i.size,i.bytes))=some (some (.agg #[.int .i64 0,.bool false,.int .i64 0,.string ⟨#[]⟩,.slice none 0 0,.slice none 0 0,.int .i64 0]),7,96):=by kernel_rfl
theorem clone_val (v:Value) (n:Nat) (xs:List Value) (w:World) (h:RSl w 7 v n xs) (h1:∀u∈xs,u.oneCell'=true) (hbig:n*96≤140737488355328):
 Calls Tryz.prog 100 #[v] w fun e w'=>∃v',e= .returned v'∧w'.ownsRow w.heap.size 25 7 v' n xs∧Ext w w':=by
 obtain ⟨i0,hi,hz0,hz1,hz2⟩:=info_parts info_val
 obtain ⟨hl,A,c,rfl,hnc,hcm,hA,hcell⟩:=id h
 have HBIG:Hid ((0+n)*96≤140737488355328):=by rw[Nat.zero_add];exact hbig
 have hnm:0+n≤maxLen:=by rw[Nat.zero_add];exact Nat.le_trans hnc hcm
 clear hbig
 have hq:∀(w:World) (a:Option Addr) (n c n' c':Nat),(binOp .eql 22 (.slice a n c) (.slice none n' c')).run Tryz.prog w= .ok (.bool a.isNone) w:=fun w a n c n' c'=>Lib.run_eql_slice_nil w _ _ a n c n' c' Tryz.underlying22
 cases A with
 |none=>
  have hn:n=0:=Nat.le_zero.1 (hA rfl▸hnc)
  subst hn
  have hx:xs= []:=List.eq_nil_of_length_eq_zero (by rw[hl])
  subst hx
  go_enter Tryz.func100,Tryz.ntmps100
  go_wp2
  go_ret
  exact ⟨_,rfl,World.ownsRow_nil _ _ _ _,Ext.refl _⟩
 |some ad=>
  go_enter Tryz.func100,Tryz.ntmps100
  go_wp2_with (at_builtin;refine wpList_append_rsl _ rfl (.tmp 5) (.tmp 6) _ rfl w.heap.size 25 i0 _ 7 96 Tryz.underlying22 hi hz0 hz1 hz2 rfl (by decide) _ _ [] rfl (own_new (cs:= []) (Nat.le_refl _) rfl (by decide)) _ n xs rfl (h.ext ((Ext.refl w).alloc _)) h1 hnm HBIG.out ((Ext.refl w).alloc _).size ?_;intro v1 w2 hown2 hg2 hat2)
  go_ret
  rw[Nat.zero_add] at hown2
  exact ⟨v1,rfl,hown2,((Ext.refl w).alloc _).app hg2 (own_new (cs:= []) (size:=7) (n:=0) (Nat.le_refl _) rfl (by decide)) (Nat.le_refl _)⟩
theorem info_str:(Tryz.prog.info? 9).map (fun i=>(i.zero,i.size,i.bytes))=some (some (.string ⟨#[]⟩),1,16):=by kernel_rfl
theorem clone_str (v:Value) (n:Nat) (xs:List Value) (w:World) (h:RSl w 1 v n xs) (h1:∀u∈xs,u.oneCell'=true) (hbig:n*16≤140737488355328):
 Calls Tryz.prog 73 #[v] w fun e w'=>∃v',e= .returned v'∧w'.ownsRow w.heap.size 9 1 v' n xs∧Ext w w':=by
 obtain ⟨i0,hi,hz0,hz1,hz2⟩:=info_parts info_str
 obtain ⟨hl,A,c,rfl,hnc,hcm,hA,hcell⟩:=id h
 have HBIG:Hid ((0+n)*16≤140737488355328):=by rw[Nat.zero_add];exact hbig
 have hnm:0+n≤maxLen:=by rw[Nat.zero_add];exact Nat.le_trans hnc hcm
 clear hbig
 have hq:∀(w:World) (a:Option Addr) (n c n' c':Nat),(binOp .eql 29 (.slice a n c) (.slice none n' c')).run Tryz.prog w= .ok (.bool a.isNone) w:=fun w a n c n' c'=>Lib.run_eql_slice_nil w _ _ a n c n' c' Tryz.underlying29
 cases A with
 |none=>
  have hn:n=0:=Nat.le_zero.1 (hA rfl▸hnc)
  subst hn
  have hx:xs= []:=List.eq_nil_of_length_eq_zero (by rw[hl])
  subst hx
  go_enter Tryz.func73,Tryz.ntmps73
  go_wp2
  go_ret
  exact ⟨_,rfl,World.ownsRow_nil _ _ _ _,Ext.refl _⟩
 |some ad=>
  go_enter Tryz.func73,Tryz.ntmps73
  go_wp2_with (at_builtin;refine wpList_append_rsl _ rfl (.tmp 5) (.tmp 6) _ rfl w.heap.size 9 i0 _ 1 16 Tryz.underlying29 hi hz0 hz1 hz2 rfl (by decide) _ _ [] rfl (own_new (cs:= []) (Nat.le_refl _) rfl (by decide)) _ n xs rfl (h.ext ((Ext.refl w).alloc _)) h1 hnm HBIG.out ((Ext.refl w).alloc _).size ?_;intro v1 w2 hown2 hg2 hat2)
  go_ret
  rw[Nat.zero_add] at hown2
  exact ⟨v1,rfl,hown2,((Ext.refl w).alloc _).app hg2 (own_new (cs:= []) (size:=1) (n:=0) (Nat.le_refl _) rfl (by decide)) (Nat.le_refl _)⟩
theorem info_entry:(Tryz.prog.info? 64).map (fun i=>(i.zero,i.size,i.bytes))=some (some (.agg #[.string ⟨#[]⟩,.string ⟨#[]⟩,.string ⟨#[]⟩,.string ⟨#[]⟩,.int .i64 0]),5,72):=by kernel_rfl
theorem jwrite_any (j:JV) (cs:List Value) (w:World) (h:RV w j cs) (hok:jok j) (hE:Env w) (hl:(jtext j).length≤140737488355328):
 Calls Tryz.prog 56 #[.agg cs.toArray] w fun e w'=>e= .returned (.tuple #[.string (jwrite j).1,.int .i64 ((jwrite j).2:Nat)])∧Ext w w':=by
 have HCK:=gd (fun w' (hx:Ext w w')=>jcheck_any j cs w' (h.ext hx) hok (hE.ext hx))
 obtain ⟨n,h⟩:=h
 obtain ⟨x0,x1,x2,x3,x4,x5,x6,y4,y5,y6,x7,hc⟩:=h.shape
 subst hc
 by_cases hv:jvalid j 1=true
 ·have hfin:jwrite j=(str (jtext j),0):=by rw[jwrite,if_pos hv]
  have HVAL:=gd (fun w0 w' (hx:Ext w w0) B b bs (hx':Ext w0 w') h0 hB hBw hl'=>value_in n j _ w0 w' B b bs 1 (h.ext hx) hok hv (hE.ext hx) hx' h0 hB hBw hl')
  rw[if_pos hv] at HCK
  have HL:=gd hl
  rw[hfin]
  clear hv hfin hl h hok
  go_enter Tryz.func56,Tryz.ntmps56
  go_wp2_with (first|(go_at_call 103;refine (HCK.out _ ((Ext.refl w).alloc _)).mono ?_;rintro e w1 ⟨rfl,hx1⟩;(have hy0:=((Ext.refl w1).alloc (.cells #[.pointer none,.slice none 0 0] 161)).cell (hx1.boxed 0 _ rfl));(have hy1:=((Ext.refl w1).alloc (.cells #[.pointer none,.slice none 0 0] 161)).cell (hx1.boxed 1 _ rfl));(have hy2:=((Ext.refl w1).alloc (.cells #[.pointer none,.slice none 0 0] 161)).cell (hx1.boxed 2 _ rfl));(have hy3:=((Ext.refl w1).alloc (.cells #[.pointer none,.slice none 0 0] 161)).cell (hx1.boxed 3 _ rfl));(have hy4:=((Ext.refl w1).alloc (.cells #[.pointer none,.slice none 0 0] 161)).cell (hx1.boxed 4 _ rfl));(have hy5:=((Ext.refl w1).alloc (.cells #[.pointer none,.slice none 0 0] 161)).cell (hx1.boxed 5 _ rfl));(have hy6:=((Ext.refl w1).alloc (.cells #[.pointer none,.slice none 0 0] 161)).cell (hx1.boxed 6 _ rfl)))|(go_at_call 104;refine (HVAL.out w1 _ (((Ext.refl w).alloc _).trans hx1) w1.heap.size w1.heap.size [] ((Ext.refl w1).alloc _) (Nat.le_refl _) (Lib.fresh_isBuilder _ _ _) ((Ext.refl w1).alloc _).size (by simpa using HL.out)).mono ?_;rintro e w2 ⟨rfl,hB2,hx2⟩)|(go_at_call 70;refine (builderString_t bt_writer _ _ _ _ hB2 (Nat.le_trans ((Ext.refl w1).alloc _).size hx2.size)).mono ?_;rintro e w3 ⟨rfl,hx3⟩))
  go_ret2
  exact ⟨rfl,(((Ext.refl w).alloc _).trans hx1).then (Below.mono ((((Ext.refl w1).alloc _).then hx2).then hx3) (((Ext.refl w).alloc _).trans hx1).size)⟩
 ·have hfin:jwrite j=(⟨#[]⟩,22):=by rw[jwrite,if_neg hv]
  rw[if_neg hv] at HCK
  rw[hfin]
  clear hv hfin hl h hok
  go_enter Tryz.func56,Tryz.ntmps56
  go_wp2_with (go_at_call 103;refine (HCK.out _ ((Ext.refl w).alloc _)).mono ?_;rintro e w1 ⟨rfl,hx1⟩)
  go_ret2
  exact ⟨rfl,((Ext.refl w).alloc _).trans hx1⟩
theorem jString_any (s:ByteArray) (w:World):
 Calls Tryz.prog 99 #[.string s] w fun e w'=>e= .returned (.agg (vcells 3 false 0 s (.slice none 0 0) 0).toArray)∧Ext w w':=by
 go_enter Tryz.func99,Tryz.ntmps99
 go_wp2
 ((try simp only[Exit.inBlock,Exit.then]);refine bodyPost_ret (results_cell_row rfl _ _ _ _ _ _ _ rfl (heap_alloc_new _ _) Tryz.underlying25 rfl rfl) rfl ?_)
 exact ⟨rfl,(Ext.refl w).alloc _⟩
theorem jInt_any (x:Int) (w:World):
 Calls Tryz.prog 191 #[.int .i64 x] w fun e w'=>e= .returned (.agg (vcells 2 false x ⟨#[]⟩ (.slice none 0 0) 0).toArray)∧Ext w w':=by
 go_enter Tryz.func191,Tryz.ntmps191
 go_wp2
 ((try simp only[Exit.inBlock,Exit.then]);refine bodyPost_ret (results_cell_row rfl _ _ _ _ _ _ _ rfl (heap_alloc_new _ _) Tryz.underlying25 rfl rfl) rfl ?_)
 exact ⟨rfl,(Ext.refl w).alloc _⟩
theorem vcells_one {k:Int} {b:Bool} {n:Int} {s:ByteArray} {A:Option Addr} {m c:Nat} {a:Int}:∀u∈vcells k b n s (.slice A m c) a,u.oneCell'=true:=by
 intro u hu
 simp[vcells] at hu
 rcases hu with rfl|rfl|rfl|rfl|rfl|rfl|rfl<;>rfl
theorem RVn.one {w:World} {n:Nat} {j:JV} {cs:List Value} (h:RVn n w j cs):∀u∈cs,u.oneCell'=true:=by
 obtain ⟨x0,x1,x2,x3,x4,x5,x6,y4,y5,y6,x7,rfl⟩:=h.shape
 intro u hu
 simp at hu
 rcases hu with rfl|rfl|rfl|rfl|rfl|rfl|rfl<;>rfl
theorem flat_one {css:List (List Value)} (h:∀c∈css,∀u∈c,u.oneCell'=true):∀u∈css.flatten,u.oneCell'=true:=by
 intro u hu
 obtain ⟨c,hc,hu⟩:=List.mem_flatten.1 hu
 exact h c hc u hu
def RVs (w:World) (v:Value) (l:List JV) (css:List (List Value)):Prop:=css.length=l.length∧RSl w 7 v l.length css.flatten∧∃n,∀(i:Nat) (j:JV) (c:List Value),l[i]? =some j→css[i]? =some c→RVn n w j c
theorem size_val:(Tryz.prog.info? 25).map (fun i=>i.size)=some 7:=by kernel_rfl
theorem all_one {cs:List Value} (h:∀u∈cs,u.oneCell'=true):cs.toArray.all (fun u=>u.oneCell')=true:=by simpa using h
theorem jArray_any (v:Value) (l:List JV) (css:List (List Value)) (w:World) (h:RVs w v l css) (hbig:l.length*96≤140737488355328):
 Calls Tryz.prog 53 #[v] w fun e w'=>∃cs,e= .returned (.agg cs.toArray)∧RV w' (.arr l) cs∧Ext w w':=by
 obtain ⟨hcl,hr,n,hel⟩:=h
 have hone:∀u∈css.flatten,u.oneCell'=true:=flat_one fun c hc=>by
  obtain ⟨i,hi,rfl⟩:=List.mem_iff_getElem.1 hc
  exact (hel i l[i] css[i] (List.getElem?_eq_getElem (by omega)) (List.getElem?_eq_getElem hi)).one
 have HC:=gd (fun w' (hx:Ext w w')=>clone_val v l.length css.flatten w' (hr.ext hx) hone hbig)
 have HEL:=gd hel
 clear hel hone hbig
 go_enter Tryz.func53,Tryz.ntmps53
 go_wp2_with (first|(go_at_call 100;refine (HC.out _ ((Ext.refl w).alloc _)).mono ?_;rintro e w1 ⟨v',rfl,hown,hx1⟩;(obtain ⟨_,A',c',rfl,_⟩:=id (RSl.of_own hown));(have hk1:=hx1.heap (heap_alloc_new w _)))|(refine wpList_store_row rfl 25 (.tmp 2) (.tmp 5) rfl w.heap.size _ rfl rfl _ _ hk1 size_val rfl (all_one (vcells_one (k:=4) (b:=false) (n:=0) (s:=⟨#[]⟩) (A:=A') (m:=l.length) (c:=c') (a:=0))) ?_))
 ((try simp only[Exit.inBlock,Exit.then]);refine bodyPost_ret (results_cell_row rfl _ _ _ _ _ _ _ rfl (setRow_heap _ _ _ _ _ _ hk1) Tryz.underlying25 rfl size_val) rfl ?_)
 have hxw:Ext w (w1.setRow w.heap.size #[Value.int .i64 4,.bool false,.int .i64 0,.string ⟨#[]⟩,.slice A' l.length c',.slice none 0 0,.int .i64 0]):=(((Ext.refl w).alloc _).trans hx1).setRow (Nat.le_refl _) _
 exact ⟨vcells 4 false 0 ⟨#[]⟩ (.slice A' l.length c') 0,rfl,⟨n+1,0,_,css,rfl,hcl,RSl.of_own (own_setRow hown (by show w.heap.size<(w.heap.push _).size;simp) _),fun i j c hj hc=>(HEL.out i j c hj hc).ext hxw⟩,hxw⟩
theorem info_parts_val:∃i0,Tryz.prog.info? 25=some i0∧i0.zero=some (.agg #[.int .i64 0,.bool false,.int .i64 0,.string ⟨#[]⟩,.slice none 0 0,.slice none 0 0,.int .i64 0])∧i0.size=7∧i0.bytes=96:=info_parts info_val
def strCells (s:ByteArray):List Value:=vcells 3 false 0 s (.slice none 0 0) 0
theorem stringValues_any (v:Value) (l:List ByteArray) (w:World) (h:RSl w 1 v l.length (l.map Value.string)) (hbig:l.length*96≤1407374883553):
 Calls Tryz.prog 190 #[v] w fun e w'=>∃v',e= .returned v'∧w'.ownsRow w.heap.size 25 7 v' l.length (l.map strCells).flatten∧Ext w w':=by
 obtain ⟨_,A,c,rfl,hmc,hcm,_,_⟩:=id h
 obtain ⟨i0,hi0,hz0,hz1,hz2⟩:=info_parts_val
 go_enter Tryz.func190,Tryz.ntmps190
 go_wp2
 go_loopw [3,8] (fun v i wr=>∃k:Nat,k≤l.length∧i= .int .i64 k∧wr.ownsRow w.heap.size 25 7 v k ((l.take k).map strCells).flatten∧Ext w wr) (fun _ i _=>l.length - (intOf i).toNat)
 case atStart=>exact ⟨0,Nat.zero_le _,rfl,World.ownsRow_nil _ _ _ _,Ext.refl _⟩
 case round=>
  obtain ⟨k,hk,rfl,hown,hx⟩:=hrel
  by_cases hlt:k<l.length
  ·obtain ⟨ad,rfl,hcell⟩:=(h.ext hx).at1 k (.string l[k]) (by rw[List.getElem?_map,List.getElem?_eq_getElem hlt];rfl)
   have hw1:wrap64 ((k:Int)+1)=((k+1:Nat):Int):=by rw[maxLen] at hcm;rw[wrap_ok _ ⟨by omega,by omega⟩];rfl
   have hwe:=congrArg (Value.int .i64) hw1
   have hms:l.length - (intOf (Value.int IntKind.i64 (wrap64 ((k:Int)+1)))).toNat<l.length - (intOf (Value.int IntKind.i64 (k:Int))).toNat:=by
    rw[hw1]
    exact Nat.sub_lt_sub_left hlt (Nat.lt_succ_self k)
   have hk1:k+1≤l.length:=hlt
   have hby:Hid ((k+1)*96≤140737488355328):=by unfold Hid;omega
   have hml:Hid (k+1≤maxLen):=Nat.le_trans hk1 (Nat.le_trans hmc hcm)
   have htk:((l.take k).map strCells).flatten++strCells l[k]=((l.take (k+1)).map strCells).flatten:=by
    rw[List.take_succ_eq_append_getElem hlt,List.map_append,List.flatten_append];simp
   clear hbig
   go_wp2_with (first|(go_at_call 99;refine (jString_any _ _).mono ?_;rintro e w1 ⟨he,hx1⟩;(replace he:e= .returned (.agg #[.int .i64 3,.bool false,.int .i64 0,.string l[k],.slice none 0 0,.slice none 0 0,.int .i64 0]):=he);subst he;(have hown1:=own_ext hown hx1);(have hsz:=Nat.le_trans hx.size hx1.size))|(at_builtin;refine wpList_append_rsl _ rfl (.tmp 12) (.tmp 15) _ rfl w.heap.size 25 i0 _ 7 96 Tryz.underlying22 hi0 hz0 hz1 hz2 rfl (by decide) _ _ _ rfl (hown1.alloc _) _ 1 (strCells l[k]) rfl (rsl_new rfl (by decide)) vcells_one hml.out hby.out ?cb ?_;(case cb=>exact Nat.le_trans hsz ((Ext.refl w1).alloc _).size);intro v1 w2 hown2 hg2 hat2))
   have hx2:Ext w w2:=((hx.trans hx1).alloc _).app hg2 (hown1.alloc _) (Nat.le_refl _)
   rw[htk] at hown2
   go_roundw
   case rel=>exact ⟨k+1,hk1,hwe,hown2,hx2⟩
   case measure=>exact hms
  ·have hke:k=l.length:=by omega
   subst hke
   rw[List.take_of_length_le (Nat.le_refl _)] at hown
   clear hbig
   go_wp2
   go_ret
   exact ⟨_,rfl,hown,hx⟩
theorem strCells_rvn (w:World) (s:ByteArray):RVn 1 w (.str s) (strCells s):=⟨0,rfl⟩
def intCells (x:Int):List Value:=vcells 2 false x ⟨#[]⟩ (.slice none 0 0) 0
theorem intCells_rvn (w:World) (x:Int):RVn 1 w (.int x) (intCells x):=⟨0,rfl⟩
theorem info_mem:(Tryz.prog.info? 56).map (fun i=>(i.zero,i.size,i.bytes))=some (some (.agg #[.string ⟨#[]⟩,.int .i64 0,.bool false,.int .i64 0,.string ⟨#[]⟩,.slice none 0 0,.slice none 0 0,.int .i64 0,.int .i64 0]),9,120):=by kernel_rfl
theorem clone_mem (v:Value) (n:Nat) (xs:List Value) (w:World) (h:RSl w 9 v n xs) (h1:∀u∈xs,u.oneCell'=true) (hbig:n*120≤140737488355328):
 Calls Tryz.prog 97 #[v] w fun e w'=>∃v',e= .returned v'∧w'.ownsRow w.heap.size 56 9 v' n xs∧Ext w w':=by
 obtain ⟨i0,hi,hz0,hz1,hz2⟩:=info_parts info_mem
 obtain ⟨hl,A,c,rfl,hnc,hcm,hA,hcell⟩:=id h
 have HBIG:Hid ((0+n)*120≤140737488355328):=by rw[Nat.zero_add];exact hbig
 have hnm:0+n≤maxLen:=by rw[Nat.zero_add];exact Nat.le_trans hnc hcm
 clear hbig
 have hq:∀(w:World) (a:Option Addr) (n c n' c':Nat),(binOp .eql 23 (.slice a n c) (.slice none n' c')).run Tryz.prog w= .ok (.bool a.isNone) w:=fun w a n c n' c'=>Lib.run_eql_slice_nil w _ _ a n c n' c' Tryz.underlying23
 cases A with
 |none=>
  have hn:n=0:=Nat.le_zero.1 (hA rfl▸hnc)
  subst hn
  have hx:xs= []:=List.eq_nil_of_length_eq_zero (by rw[hl])
  subst hx
  go_enter Tryz.func97,Tryz.ntmps97
  go_wp2
  go_ret
  exact ⟨_,rfl,World.ownsRow_nil _ _ _ _,Ext.refl _⟩
 |some ad=>
  go_enter Tryz.func97,Tryz.ntmps97
  go_wp2_with (at_builtin;refine wpList_append_rsl _ rfl (.tmp 5) (.tmp 6) _ rfl w.heap.size 56 i0 _ 9 120 Tryz.underlying23 hi hz0 hz1 hz2 rfl (by decide) _ _ [] rfl (own_new (cs:= []) (Nat.le_refl _) rfl (by decide)) _ n xs rfl (h.ext ((Ext.refl w).alloc _)) h1 hnm HBIG.out ((Ext.refl w).alloc _).size ?_;intro v1 w2 hown2 hg2 hat2)
  go_ret
  rw[Nat.zero_add] at hown2
  exact ⟨v1,rfl,hown2,((Ext.refl w).alloc _).app hg2 (own_new (cs:= []) (size:=9) (n:=0) (Nat.le_refl _) rfl (by decide)) (Nat.le_refl _)⟩
def RMs (w:World) (v:Value) (ks:List ByteArray) (vs:List JV) (ms:List (ByteArray×List Value×Int)):Prop:=ms.map Prod.fst=ks∧ms.length=vs.length∧RSl w 9 v vs.length (ms.map mcell).flatten∧∃n,∀(i:Nat) (j:JV) (m:ByteArray×List Value×Int),vs[i]? =some j→ms[i]? =some m→RVn n w j m.2.1
theorem heap_two (w:World) (A B:Obj):((w.alloc A).alloc B).heap[w.heap.size+1]? =some B:=by
 have hs:(w.alloc A).heap.size=w.heap.size+1:=by show (w.heap.push A).size=_;simp
 have:=heap_alloc_new (w.alloc A) B
 rwa [hs] at this
theorem size_mem:(Tryz.prog.info? 56).map (fun i=>i.size)=some 9:=by kernel_rfl
theorem jMember_any (key:ByteArray) (n:Nat) (j:JV) (cs:List Value) (w:World) (h:RVn n w j cs):
 Calls Tryz.prog 52 #[.string key,.agg cs.toArray] w fun e w'=>e= .returned (.agg (mcell (key,cs,0)).toArray)∧Ext w w':=by
 obtain ⟨x0,x1,x2,x3,x4,x5,x6,y4,y5,y6,x7,hc⟩:=h.shape
 subst hc
 clear h
 go_enter Tryz.func52,Tryz.ntmps52
 go_wp2
 ((try simp only[Exit.inBlock,Exit.then]);refine bodyPost_ret (results_cell_row rfl _ _ _ _ _ _ _ rfl (heap_two _ _ _) Tryz.underlying56 rfl size_mem) rfl ?_)
 exact ⟨rfl,((Ext.refl w).alloc _).alloc _⟩
def KF (B:Nat) (w w':World):Prop:=w.heap.size≤w'.heap.size∧∀k,B≤k→k<w.heap.size→w'.heap[k]? =w.heap[k]?
theorem KF.refl (B:Nat) (w:World):KF B w w:=⟨Nat.le_refl _,fun _ _ _=>rfl⟩
theorem KF.trans {B:Nat} {u v w:World} (h:KF B u v) (k:KF B v w):KF B u w:=
 ⟨Nat.le_trans h.1 k.1,fun i hi hl=>(k.2 i hi (Nat.lt_of_lt_of_le hl h.1)).trans (h.2 i hi hl)⟩
theorem KF.of {B:Nat} {u v:World} (h:Ext u v):KF B u v:=⟨h.size,fun k _ hk=>by
 obtain ⟨o,ho⟩:∃o,u.heap[k]? =some o:=⟨_,Array.getElem?_eq_getElem hk⟩
 rw[ho,h.heap ho]⟩
theorem KF.mono {B B':Nat} {u v:World} (h:KF B u v) (hB:B≤B'):KF B' u v:=⟨h.1,fun k hk hl=>h.2 k (Nat.le_trans hB hk) hl⟩
theorem KF.setCell {B:Nat} (w:World) (p:Addr) (v:Value) (hp:p.block<B):KF B w (w.setCell p v):=
 ⟨by simp[World.setCell],fun k hk _=>by rw[Below.heap_setCell _ _ _ _ (fun e=>by rw[e] at hk;exact absurd hp (Nat.not_lt.2 hk))]⟩
theorem KF.setRow {B:Nat} (w:World) (g:Nat) (cs:Array Value) (hp:g<B):KF B w (w.setRow g cs):=
 ⟨by simp[World.setRow],fun k hk _=>by rw[setRow_other _ _ _ _ (fun e=>by rw[e] at hk;exact absurd hp (Nat.not_lt.2 hk))]⟩
theorem KF.own {B size n:Nat} {e:TypeId} {u v:World} {x:Value} {xs:List Value} (h:u.ownsRow B e size x n xs) (k:KF B u v):v.ownsRow B e size x n xs:=by
 refine ⟨h.1,?_⟩
 rcases h.2 with h2|⟨g,cap,cur,h1,h2,h3,h4⟩
 ·exact Or.inl h2
 ·exact Or.inr ⟨g,cap,cur,h1,h2,(k.2 g h2 (Array.getElem?_eq_some_iff.1 h3).1).trans h3,h4⟩
def NJn (n B:Nat) (w:World) (j:JO) (cs:List Value):Prop:=∀w',KF B w w'→RJn n w' j cs
theorem NJn.keep {n B:Nat} {w w':World} {j:JO} {cs:List Value} (h:NJn n B w j cs) (k:KF B w w'):NJn n B w' j cs:=fun w2 h2=>h w2 (k.trans h2)
theorem NJn.more {n m B:Nat} {w:World} {j:JO} {cs:List Value} (h:NJn n B w j cs) (hm:n≤m):NJn m B w j cs:=fun w2 h2=>(h w2 h2).more hm
theorem NJn.mono {n B B':Nat} {w:World} {j:JO} {cs:List Value} (h:NJn n B w j cs) (hB:B'≤B):NJn n B' w j cs:=fun w2 h2=>h w2 (h2.mono hB)
theorem NJn.rj {n B:Nat} {w:World} {j:JO} {cs:List Value} (h:NJn n B w j cs):RJn n w j cs:=h w (KF.refl B w)
theorem NJn.leaf {n B:Nat} {w:World} {j:JO} (hj:itemsJ j= []∧ksJ j= []∧vsJ j= []):NJn (n+1) B w j (wcells (kindJ j) (bJ j) (nJ j) (sJ j) (.slice none 0 0) (.slice none 0 0) (atJ j)):=fun _ _=>RJn.leaf hj
def ValR (B:Nat) (w':World) (o:Option (JO×Nat)) (e:Ending):Prop:=match o with
 |some (j,to_)=>∃A p c C q d n,e= .returned (.agg #[.int .i64 (kindJ j:Nat),.bool (bJ j),.int .i64 (nJ j),.string (sJ j),.slice A p c,.slice C q d,.int .i64 (atJ j:Nat),.int .i64 (to_:Nat),.int .i64 0])∧NJn n B w' j (wcells (kindJ j) (bJ j) (nJ j) (sJ j) (.slice A p c) (.slice C q d) (atJ j))
 |none=>BadR e
theorem ValR.mono {B B':Nat} {w':World} {o:Option (JO×Nat)} {e:Ending} (h:ValR B w' o e) (hB:B'≤B):ValR B' w' o e:=by
 cases o with
 |none=>exact h
 |some p=>
  obtain ⟨A,a,c,C,q,d,n,h1,h2⟩:=h
  exact ⟨A,a,c,C,q,d,n,h1,h2.mono hB⟩
def NIts (n B:Nat) (w:World) (v:Value) (l:List JO) (css:List (List Value)):Prop:=css.length=l.length∧w.ownsRow B 25 7 v l.length css.flatten∧∀(i:Nat) (j:JO) (c:List Value),l[i]? =some j→css[i]? =some c→NJn n B w j c
theorem NIts.keep {n B:Nat} {w w':World} {v:Value} {l:List JO} {css:List (List Value)} (h:NIts n B w v l css) (k:KF B w w'):NIts n B w' v l css:=
 ⟨h.1,KF.own h.2.1 k,fun i j c hj hc=>(h.2.2 i j c hj hc).keep k⟩
theorem NIts.snoc {n m B:Nat} {w w':World} {v v':Value} {l:List JO} {css:List (List Value)} {j:JO} {cs:List Value} (h:NIts n B w v l css) (k:KF B w w') (hj:NJn m B w' j cs)
 (ho:w'.ownsRow B 25 7 v' (l.length+1) (css.flatten++cs)):NIts (max n m) B w' v' (l++ [j]) (css++ [cs]):=by
 refine ⟨by simp[h.1],?_,fun i x c hx hc=> ?_⟩
 ·rw[List.length_append,List.flatten_append,List.length_singleton]
  simpa using ho
 ·by_cases hi:i<l.length
  ·rw[List.getElem?_append_left hi] at hx
   rw[List.getElem?_append_left (by rw[h.1];exact hi)] at hc
   exact ((h.2.2 i x c hx hc).keep k).more (Nat.le_max_left _ _)
  ·have hil:i=l.length:=by
    have:=(List.getElem?_eq_some_iff.1 hx).1
    simp at this
    omega
   subst hil
   rw[List.getElem?_append_right (Nat.le_refl _),Nat.sub_self] at hx
   rw[List.getElem?_append_right (by rw[h.1];exact Nat.le_refl _),h.1,Nat.sub_self] at hc
   simp at hx hc
   subst hx hc
   exact hj.more (Nat.le_max_right _ _)
theorem NIts.arr {n B a:Nat} {w:World} {v:Value} {l:List JO} {css:List (List Value)} (h:NIts n B w v l css):NJn (n+1) B w (.arr a l) (wcells 4 false 0 noS v (.slice none 0 0) (a:Nat)):=fun w' k=>by
 have h':=h.keep k
 refine ⟨v,.slice none 0 0,rfl,⟨css,h'.1,RSl.of_own h'.2.1,fun i j c hj hc=>(h'.2.2 i j c hj hc).rj⟩,⟨[],rfl,rfl,RSl.nil w' 9,fun i j m hj _=>by simp[vsJ] at hj⟩,fun e=>absurd rfl e,fun _=>rfl⟩
def NMems (n B:Nat) (w:World) (v:Value) (ks:List (ByteArray×Nat)) (vs:List JO) (ms:List (ByteArray×List Value×Int)):Prop:=ms.map (fun m=>(m.1,m.2.2))=ks.map (fun k=>(k.1,(k.2:Int)))∧ms.length=vs.length∧
 w.ownsRow B 56 9 v vs.length (ms.map mcell).flatten∧(∀m∈ms,m.2.1.length=7)∧∀(i:Nat) (j:JO) (m:ByteArray×List Value×Int),vs[i]? =some j→ms[i]? =some m→NJn n B w j m.2.1
theorem NMems.keep {n B:Nat} {w w':World} {v:Value} {ks:List (ByteArray×Nat)} {vs:List JO} {ms:List (ByteArray×List Value×Int)} (h:NMems n B w v ks vs ms) (k:KF B w w'):NMems n B w' v ks vs ms:=
 ⟨h.1,h.2.1,KF.own h.2.2.1 k,h.2.2.2.1,fun i j c hj hc=>(h.2.2.2.2 i j c hj hc).keep k⟩
theorem NMems.snoc {n m B a:Nat} {w w':World} {v v':Value} {ks:List (ByteArray×Nat)} {vs:List JO} {ms:List (ByteArray×List Value×Int)} {j:JO} {cs:List Value} {key:ByteArray} (h:NMems n B w v ks vs ms) (k:KF B w w') (hl:cs.length=7) (hj:NJn m B w' j cs)
 (ho:w'.ownsRow B 56 9 v' (vs.length+1) ((ms.map mcell).flatten++mcell (key,cs,((a:Nat):Int)))):NMems (max n m) B w' v' (ks++ [(key,a)]) (vs++ [j]) (ms++ [(key,cs,((a:Nat):Int))]):=by
 refine ⟨by rw[List.map_append,List.map_append,h.1];rfl,by simp[h.2.1],?_,?_,fun i x c hx hc=> ?_⟩
 ·rw[List.length_append,List.map_append,List.flatten_append,List.length_singleton]
  simpa using ho
 ·intro x hx
  rcases List.mem_append.1 hx with hx|hx
  ·exact h.2.2.2.1 x hx
  ·rw[List.mem_singleton.1 hx];exact hl
 ·by_cases hi:i<vs.length
  ·rw[List.getElem?_append_left hi] at hx
   rw[List.getElem?_append_left (by rw[h.2.1];exact hi)] at hc
   exact ((h.2.2.2.2 i x c hx hc).keep k).more (Nat.le_max_left _ _)
  ·have hil:i=vs.length:=by
    have:=(List.getElem?_eq_some_iff.1 hx).1
    simp at this
    omega
   subst hil
   rw[List.getElem?_append_right (Nat.le_refl _),Nat.sub_self] at hx
   rw[List.getElem?_append_right (by rw[h.2.1];exact Nat.le_refl _),h.2.1,Nat.sub_self] at hc
   simp at hx hc
   subst hx hc
   exact hj.more (Nat.le_max_right _ _)
theorem NMems.obj {n B a:Nat} {w:World} {v:Value} {ks:List (ByteArray×Nat)} {vs:List JO} {ms:List (ByteArray×List Value×Int)} (h:NMems n B w v ks vs ms):NJn (n+1) B w (.obj a ks vs) (wcells 5 false 0 noS (.slice none 0 0) v (a:Nat)):=fun w' k=>by
 have h':=h.keep k
 refine ⟨.slice none 0 0,v,rfl,⟨[],rfl,RSl.nil w' 7,fun i j c hj _=>by simp[itemsJ] at hj⟩,⟨ms,h'.1,h'.2.1,RSl.of_own h'.2.2.1,fun i j m hj hm=>(h'.2.2.2.2 i j m hj hm).rj⟩,fun _=>rfl,fun e=>absurd rfl e⟩
section
def eok (e:Ent):Prop:=i64ok e.upd∧e.id.size+e.title.size+e.link.size+e.content.size≤16777216
theorem entJ_ok (e:Ent) (h:eok e):jok (entJ e):=by
 obtain ⟨h1,h2⟩:=h
 unfold entJ
 rw[jok_arr]
 intro j hj
 simp only[List.mem_cons,List.mem_nil_iff,or_false] at hj
 rcases hj with rfl|rfl|rfl|rfl|rfl<;>simp only[jok]
 ·omega
 ·omega
 ·omega
 ·omega
 ·exact h1
theorem entJ_len (e:Ent) (h:eok e):(jtext (entJ e)).length≤140737488355328:=by
 obtain ⟨h1,h2⟩:=h
 unfold entJ
 rw[jtext_arr]
 have a:=quoteL_len e.id.data.toList
 have b:=quoteL_len e.title.data.toList
 have c:=quoteL_len e.link.data.toList
 have d:=quoteL_len e.content.data.toList
 have f:=Lib.itoa_length_le e.upd h1.1 h1.2
 rw[data_len] at a b c d
 simp only[List.map_cons,List.map_nil,jtext_str,jtext_int,commas,List.length_cons,List.length_append,List.length_nil]
 omega
attribute [local go_sem ↓] Go.wp_at_zero Go.wp_at_succ
theorem entryKey_any (e:Ent) (w:World) (hE:Env w) (hok:eok e):
 Calls Tryz.prog 167 #[.agg (eCells e).toArray] w fun x w'=>x= .returned (.string (entryKey e))∧Ext w w':=by
 obtain ⟨id,title,link,content,upd⟩:=e
 obtain ⟨i0,hi0,hz0,hz1,hz2⟩:=info_parts_val
 have hsz:(w.alloc (.cells (eCells ⟨id,title,link,content,upd⟩).toArray 64)).heap.size=w.heap.size+1:=by show (w.heap.push _).size=_;simp
 have hR:RSl (((w.alloc (.cells (eCells ⟨id,title,link,content,upd⟩).toArray 64)).alloc (.cells #[Value.string id,Value.string title,Value.string link,Value.string content] 9)).drew) 1 (.slice (some ⟨w.heap.size+1,0,none⟩) 4 4) 4 [Value.string id,.string title,.string link,.string content]:=by
  have:=RSl.ext (rsl_new (w:=w.alloc (.cells (eCells ⟨id,title,link,content,upd⟩).toArray 64)) (size:=1) (n:=4) (e:=9) (cs:= [Value.string id,.string title,.string link,.string content]) rfl (by decide)) (Ext.refl _).drew
  rw[hsz] at this
  exact this
 have hsz2:(((w.alloc (.cells (eCells ⟨id,title,link,content,upd⟩).toArray 64)).alloc (.cells #[Value.string id,Value.string title,Value.string link,Value.string content] 9)).drew).heap.size=w.heap.size+2:=by show ((w.heap.push _).push _).size=_;simp
 obtain ⟨X,hX⟩:∃X,([id,title,link,content].map strCells).flatten=X:=⟨_,rfl⟩
 have hcall:Calls Tryz.prog 190 #[.slice (some ⟨w.heap.size+1,0,none⟩) 4 4] (((w.alloc (.cells (eCells ⟨id,title,link,content,upd⟩).toArray 64)).alloc (.cells #[Value.string id,Value.string title,Value.string link,Value.string content] 9)).drew) fun e w'=>∃v',e= .returned v'∧w'.ownsRow (w.heap.size+2) 25 7 v' 4 X∧Ext (((w.alloc (.cells (eCells ⟨id,title,link,content,upd⟩).toArray 64)).alloc (.cells #[Value.string id,Value.string title,Value.string link,Value.string content] 9)).drew) w':=by
  have:=stringValues_any (.slice (some ⟨w.heap.size+1,0,none⟩) 4 4) [id,title,link,content] _ hR (by show 4*96≤1407374883553;decide)
  rw[hsz2,hX] at this
  exact this
 have HS:=gd hcall
 clear hcall hsz
 have hfl:X++intCells upd=([strCells id,strCells title,strCells link,strCells content,intCells upd]:List (List Value)).flatten:=by rw[←hX];simp
 have hrvs:∀w' v,w'.ownsRow (w.heap.size+2) 25 7 v (4+1) (X++intCells upd)→RVs w' v [.str id,.str title,.str link,.str content,.int upd] [strCells id,strCells title,strCells link,strCells content,intCells upd]:=by
  intro w' v hown
  rw[hfl] at hown
  refine ⟨rfl,RSl.of_own hown,1,fun i j c hj hc=> ?_⟩
  match i with
  |0|1|2|3=>simp at hj hc;subst hj hc;exact strCells_rvn _ _
  |4=>simp at hj hc;subst hj hc;exact intCells_rvn _ _
  |i+5=>simp at hj
 have HRVS:=gd hrvs
 clear hrvs hfl hX
 have hjw:=fun w' cs h=>jwrite_any (entJ ⟨id,title,link,content,upd⟩) cs w' h
 have hokJ:jok (entJ ⟨id,title,link,content,upd⟩):=entJ_ok _ hok
 have hlenJ:(jtext (entJ ⟨id,title,link,content,upd⟩)).length≤140737488355328:=entJ_len _ hok
 have HJW:=gd (fun w' cs h hE'=>hjw w' cs h hokJ hE' hlenJ)
 clear hjw hokJ hlenJ
 have HR:=gd hR
 clear hR
 unfold eCells at*
 go_enter Tryz.func167,Tryz.ntmps167
 go_wp2
 go_region_held3 (fun w'=>Ext w w'∧w'.cell? ⟨w.heap.size,0,none⟩=some (.string id)∧w'.cell? ⟨w.heap.size,1,none⟩=some (.string title)∧w'.cell? ⟨w.heap.size,2,none⟩=some (.string link)∧w'.cell? ⟨w.heap.size,3,none⟩=some (.string content)∧w'.cell? ⟨w.heap.size,4,none⟩=some (.int .i64 upd))
  ((go_split_ands;refine ⟨?_,?_,?_,?_,?_,?_⟩<;>first|assumption|((repeat (first|exact Ext.refl _|assumption|apply Ext.drew|apply Ext.alloc));done)|((refine Ext.trans ?_ (by assumption));(repeat (first|exact Ext.refl _|assumption|apply Ext.drew|apply Ext.alloc));done)|((refine Ext.cell (by assumption) ?_);first|assumption|(go_keep;done))|(go_keep;done)))
  (first|(go_at_call 190;refine HS.out.mono ?_;rintro e w1 ⟨v1,rfl,hown1,hx1⟩)|(go_at_call 191;refine (jInt_any _ _).mono ?_;rintro e w2 ⟨he,hx2⟩;(replace he:e= .returned (.agg #[.int .i64 2,.bool false,.int .i64 upd,.string ⟨#[]⟩,.slice none 0 0,.slice none 0 0,.int .i64 0]):=he);subst he)|(refine step_append_rsl _ (by rfl) (.tmp 15) (.tmp 19) _ (by rfl) (w.heap.size+2) 25 i0 _ 7 96 Tryz.underlying22 hi0 hz0 hz1 hz2 rfl (by decide) v1 4 X (by rfl) (own_ext hown1 (by repeat (first|exact hx2|apply Ext.drew|apply Ext.alloc))) _ 1 (intCells upd) (by rfl) (RSl.ext (rsl_new rfl (by decide)) (by repeat (first|exact Ext.refl _|apply Ext.drew))) vcells_one (by decide) (by decide) (Nat.le_trans (Nat.le_of_eq hsz2.symm) (hx1.trans (by repeat (first|exact hx2|apply Ext.drew|apply Ext.alloc))).size) ?_;intro v2 w3 hown3 hg3 hat3;have hxa:=Ext.app (hx1.trans (by repeat (first|exact hx2|apply Ext.drew|apply Ext.alloc))) hg3 (own_ext hown1 (by repeat (first|exact hx2|apply Ext.drew|apply Ext.alloc))) (Nat.le_of_eq hsz2);have hxw3:Ext w w3:=(((Ext.refl w).alloc _).alloc _).drew.trans hxa;have hxb:=hxa;clear hxa hg3 hat3)|(go_at_call 53;refine (jArray_any _ _ _ _ (HRVS.out _ _ hown3) (by show 5*96≤140737488355328;decide)).mono ?_;rintro e w4 ⟨cs4,rfl,hrv4,hx4⟩)|(go_at_call 56;refine (HJW.out _ _ hrv4 (hE.ext (hxw3.trans hx4))).mono ?_;rintro e w5 ⟨rfl,hx5⟩))
 go_wp2
 go_ret
 exact ⟨rfl,hxw3.trans (hx4.trans hx5)⟩
end
section
theorem cmpInt_any (x y:Int) (w:World):
 Calls Tryz.prog 137 #[.int .i64 x,.int .i64 y] w fun e w'=>e= .returned (.int .i64 (if x<y then -1 else if y<x then 1 else 0))∧w'=w:=by
 go_enter Tryz.func137,Tryz.ntmps137
 go_wp2
 all_goals go_ret
 all_goals exact ⟨by simp_all,rfl⟩
theorem cmpStr_any (x y:ByteArray) (w:World):
 Calls Tryz.prog 138 #[.string x,.string y] w fun e w'=>e= .returned (.int .i64 (sCmp x y))∧w'=w:=by
 unfold sCmp
 go_enter Tryz.func138,Tryz.ntmps138
 go_wp2
 all_goals go_ret
 all_goals exact ⟨by simp_all,rfl⟩
theorem cmpOr_any (x y:Int) (v:Value) (w:World) (h:RSl w 1 v 2 [.int .i64 x,.int .i64 y]):
 Calls Tryz.prog 136 #[v] w fun e w'=>e= .returned (.int .i64 (if x=0 then y else x))∧w'=w:=by
 obtain ⟨_,A,c,rfl,hmc,hcm,_,_⟩:=id h
 obtain ⟨ad,rfl,h0⟩:=h.at1 0 _ rfl
 obtain ⟨ad',h',h1⟩:=h.at1 1 _ rfl
 cases h'
 rw[add_zero] at h0
 have h1':w.cell? ⟨ad.block,ad.off+1,none⟩=some (.int .i64 y):=h1
 clear h1
 by_cases hx:x=0
 ·subst hx
  have hfin:(if (0:Int)=0 then y else 0)=y:=rfl
  rw[hfin]
  by_cases hy:y=0
  ·subst hy
   go_enter Tryz.func136,Tryz.ntmps136
   go_wp2
   refine wp_loop_rounds 3 ?_
   rw[rounds_succ]
   go_wp2
   rw[rounds_succ]
   go_wp2
   rw[rounds_succ]
   go_wp2
   all_goals go_ret
   all_goals exact ⟨rfl,rfl⟩
  ·have hy0:(y==0)=false:=by simpa using hy
   go_enter Tryz.func136,Tryz.ntmps136
   go_wp2
   refine wp_loop_rounds 2 ?_
   rw[rounds_succ]
   go_wp2
   rw[rounds_succ]
   go_wp2
   all_goals go_ret
   all_goals exact ⟨rfl,rfl⟩
 ·have hx0:(x==0)=false:=by simpa using hx
  rw[if_neg hx]
  go_enter Tryz.func136,Tryz.ntmps136
  go_wp2
  refine wp_loop_rounds 1 ?_
  rw[rounds_succ]
  go_wp2
  all_goals go_ret
  all_goals exact ⟨rfl,rfl⟩
attribute [local go_sem ↓] Go.wp_at_zero Go.wp_at_succ
theorem compareEntries_any (a b:Ent) (w:World):
 Calls Tryz.prog 94 #[.agg (eCells a).toArray,.agg (eCells b).toArray] w fun x w'=>x= .returned (.int .i64 (entCmp a b))∧Ext w w':=by
 obtain ⟨aid,atitle,alink,acontent,aupd⟩:=a
 obtain ⟨bid,btitle,blink,bcontent,bupd⟩:=b
 unfold entCmp
 obtain ⟨ci,hci⟩:∃ci,iCmp bupd aupd=ci:=⟨_,rfl⟩
 obtain ⟨cs,hcs⟩:∃cs,sCmp aid bid=cs:=⟨_,rfl⟩
 simp only[hci,hcs]
 have HI:=gd (fun w'=>cmpInt_any bupd aupd w')
 have HS:=gd (fun w'=>cmpStr_any aid bid w')
 rw[hcs] at HS
 rw[show (if bupd<aupd then (-1:Int) else if aupd<bupd then 1 else 0)=ci from hci] at HI
 have HO:=gd (fun v w' h=>cmpOr_any ci cs v w' h)
 obtain ⟨res,hres⟩:∃res,(if ci=0 then cs else ci)=res:=⟨_,rfl⟩
 rw[hres] at HO
 rw[hres]
 clear hci hcs hres
 unfold eCells
 go_enter Tryz.func94,Tryz.ntmps94
 go_wp2
 go_region_held3 (fun w'=>Ext w w'∧w'.cell? ⟨w.heap.size,0,none⟩=some (.string aid)∧w'.cell? ⟨w.heap.size,4,none⟩=some (.int .i64 aupd)∧w'.cell? ⟨w.heap.size+1,0,none⟩=some (.string bid)∧w'.cell? ⟨w.heap.size+1,4,none⟩=some (.int .i64 bupd))
  ((go_split_ands;refine ⟨?_,?_,?_,?_,?_⟩<;>first|assumption|((repeat (first|exact Ext.refl _|assumption|apply Ext.drew|apply Ext.alloc));done)|((refine Ext.trans ?_ (by assumption));(repeat (first|exact Ext.refl _|assumption|apply Ext.drew|apply Ext.alloc));done)|((refine Ext.cell (by assumption) ?_);first|assumption|(go_keep;done))|(go_keep;done)))
  (first|(go_at_call 137;refine (HI.out _).mono ?_;rintro e w1 ⟨rfl,rfl⟩)|(go_at_call 138;refine (HS.out _).mono ?_;rintro e w2 ⟨rfl,rfl⟩)|(go_at_call 136;refine (HO.out _ _ (rsl_block (e:=3) (fr:=(0,0)) (cs:= [.int .i64 ci,.int .i64 cs]) ?hg (by rfl) (by decide))).mono ?_;(case hg=>exact heap_alloc3_new w _ _ _);rintro e w3 ⟨rfl,rfl⟩))
 go_wp2
 go_ret
 exact ⟨rfl,((((Ext.refl w).alloc _).alloc _).alloc _).drew⟩
end
section
theorem updE_any (e:Ent) (w:World):Calls Tryz.prog 166 #[.agg (eCells e).toArray] w fun x w'=>x= .returned (.int .i64 e.upd)∧Ext w w':=by
 unfold eCells
 go_enter Tryz.func166,Tryz.ntmps166
 go_wp2
 go_ret
 exact ⟨rfl,(Ext.refl _).alloc _⟩
theorem iCmp_vals (x y:Int):iCmp x y= -1∨iCmp x y=0∨iCmp x y=1:=by
 unfold iCmp
 split
 ·exact Or.inl rfl
 ·split
  ·exact Or.inr (Or.inr rfl)
  ·exact Or.inr (Or.inl rfl)
attribute [local go_sem ↓] Go.wp_at_zero Go.wp_at_succ
theorem laterE_way (a b r:Ent) (w:World) (hE:Env w) (ha:eok a) (hb:eok b) (hway:(iCmp a.upd b.upd= -1∧b=r)∨(iCmp a.upd b.upd=1∧a=r)∨(iCmp a.upd b.upd=0∧Op.bytesLess (entryKey a).toList (entryKey b).toList=true∧b=r)∨(iCmp a.upd b.upd=0∧Op.bytesLess (entryKey a).toList (entryKey b).toList=false∧a=r)):
 Calls Tryz.prog 165 #[.agg (eCells a).toArray,.agg (eCells b).toArray,.func (.func 166) #[] #[],.func (.func 167) #[] #[]] w
  fun x w'=>x= .returned (.agg (eCells r).toArray)∧Ext w w':=by
 have HUA:=gd (fun w'=>updE_any a w')
 have HUB:=gd (fun w'=>updE_any b w')
 have HKA:=gd (fun w' h=>entryKey_any a w' h ha)
 have HKB:=gd (fun w' h=>entryKey_any b w' h hb)
 have HC:=gd (fun w'=>cmpInt_any a.upd b.upd w')
 rw[show (if a.upd<b.upd then (-1:Int) else if b.upd<a.upd then 1 else 0)=iCmp a.upd b.upd from rfl] at HC
 generalize iCmp a.upd b.upd=ci at*
 generalize entryKey a=ka at*
 generalize entryKey b=kb at*
 clear ha hb
 rcases hway with ⟨hc,hr⟩|⟨hc,hr⟩|⟨hc,hT,hr⟩|⟨hc,hT,hr⟩
 all_goals
  subst hr
  subst hc
  obtain ⟨aid,atitle,alink,acontent,aupd⟩:=a
  obtain ⟨bid,btitle,blink,bcontent,bupd⟩:=b
  unfold eCells at*
  dsimp only at*
  go_enter Tryz.func165,Tryz.ntmps165
  go_wp2
  obtain ⟨W,hW⟩:∃W,W=((w.alloc (.cells #[.string aid,.string atitle,.string alink,.string acontent,.int .i64 aupd] 64)).alloc (.cells #[.string bid,.string btitle,.string blink,.string bcontent,.int .i64 bupd] 64)).alloc (.cells #[.string ⟨#[]⟩,.string ⟨#[]⟩,.string ⟨#[]⟩,.string ⟨#[]⟩,.int .i64 0] 64):=⟨_,rfl⟩
  rw[←hW]
  have hxW:Ext w W:=by rw[hW];exact (((Ext.refl w).alloc _).alloc _).alloc _
  have hkW:∀d:Aft W,d.w.heap[w.heap.size+1+1]? =some (.cells #[.string ⟨#[]⟩,.string ⟨#[]⟩,.string ⟨#[]⟩,.string ⟨#[]⟩,.int .i64 0] 64):=by rw[hW];exact fun d=>d.ext.heap (heap_alloc3_new w _ _ _)
  have a0:∀d:Aft W,d.w.cell? ⟨w.heap.size,0,none⟩=some (.string aid):=by rw[hW];exact fun d=>boxed3a d 0 _ rfl
  have a1:∀d:Aft W,d.w.cell? ⟨w.heap.size,1,none⟩=some (.string atitle):=by rw[hW];exact fun d=>boxed3a d 1 _ rfl
  have a2:∀d:Aft W,d.w.cell? ⟨w.heap.size,2,none⟩=some (.string alink):=by rw[hW];exact fun d=>boxed3a d 2 _ rfl
  have a3:∀d:Aft W,d.w.cell? ⟨w.heap.size,3,none⟩=some (.string acontent):=by rw[hW];exact fun d=>boxed3a d 3 _ rfl
  have a4:∀d:Aft W,d.w.cell? ⟨w.heap.size,4,none⟩=some (.int .i64 aupd):=by rw[hW];exact fun d=>boxed3a d 4 _ rfl
  have b0:∀d:Aft W,d.w.cell? ⟨w.heap.size+1,0,none⟩=some (.string bid):=by rw[hW];exact fun d=>boxed3b d 0 _ rfl
  have b1:∀d:Aft W,d.w.cell? ⟨w.heap.size+1,1,none⟩=some (.string btitle):=by rw[hW];exact fun d=>boxed3b d 1 _ rfl
  have b2:∀d:Aft W,d.w.cell? ⟨w.heap.size+1,2,none⟩=some (.string blink):=by rw[hW];exact fun d=>boxed3b d 2 _ rfl
  have b3:∀d:Aft W,d.w.cell? ⟨w.heap.size+1,3,none⟩=some (.string bcontent):=by rw[hW];exact fun d=>boxed3b d 3 _ rfl
  have b4:∀d:Aft W,d.w.cell? ⟨w.heap.size+1,4,none⟩=some (.int .i64 bupd):=by rw[hW];exact fun d=>boxed3b d 4 _ rfl
  clear hW
  refine rA ?_
  repeat (quiet_step ((first|(go_at_call 166;with_reducible exact quiet_call (HUA.out _))|(go_at_call 166;with_reducible exact quiet_call (HUB.out _))|(go_at_call 137;with_reducible exact quiet_call_same' (HC.out _)))))
  refine wpQuiet_nil ?_
  rintro _ ⟨d1,rfl⟩
  have hE1:Env d1.w:=hE.ext (hxW.trans d1.ext)
  have hx1:=hxW.trans d1.ext
  have hk1:=hkW d1
  have a0':∀d:Aft d1.w,d.w.cell? ⟨w.heap.size,0,none⟩=some (.string aid):=fun d=>a0 ⟨_,d1.ext.trans d.ext⟩
  have a1':∀d:Aft d1.w,d.w.cell? ⟨w.heap.size,1,none⟩=some (.string atitle):=fun d=>a1 ⟨_,d1.ext.trans d.ext⟩
  have a2':∀d:Aft d1.w,d.w.cell? ⟨w.heap.size,2,none⟩=some (.string alink):=fun d=>a2 ⟨_,d1.ext.trans d.ext⟩
  have a3':∀d:Aft d1.w,d.w.cell? ⟨w.heap.size,3,none⟩=some (.string acontent):=fun d=>a3 ⟨_,d1.ext.trans d.ext⟩
  have a4':∀d:Aft d1.w,d.w.cell? ⟨w.heap.size,4,none⟩=some (.int .i64 aupd):=fun d=>a4 ⟨_,d1.ext.trans d.ext⟩
  have b0':∀d:Aft d1.w,d.w.cell? ⟨w.heap.size+1,0,none⟩=some (.string bid):=fun d=>b0 ⟨_,d1.ext.trans d.ext⟩
  have b1':∀d:Aft d1.w,d.w.cell? ⟨w.heap.size+1,1,none⟩=some (.string btitle):=fun d=>b1 ⟨_,d1.ext.trans d.ext⟩
  have b2':∀d:Aft d1.w,d.w.cell? ⟨w.heap.size+1,2,none⟩=some (.string blink):=fun d=>b2 ⟨_,d1.ext.trans d.ext⟩
  have b3':∀d:Aft d1.w,d.w.cell? ⟨w.heap.size+1,3,none⟩=some (.string bcontent):=fun d=>b3 ⟨_,d1.ext.trans d.ext⟩
  have b4':∀d:Aft d1.w,d.w.cell? ⟨w.heap.size+1,4,none⟩=some (.int .i64 bupd):=fun d=>b4 ⟨_,d1.ext.trans d.ext⟩
  have hk2:∀d:Aft d1.w,d.w.heap[w.heap.size+1+1]? =some (.cells #[.string ⟨#[]⟩,.string ⟨#[]⟩,.string ⟨#[]⟩,.string ⟨#[]⟩,.int .i64 0] 64):=fun d=>d.ext.heap hk1
  clear a0 a1 a2 a3 a4 b0 b1 b2 b3 b4 hkW hk1
  generalize d1.w=W1 at*
  go_wp2
  refine rA ?_
  repeat (first|go_big_quiet_step ((first|(go_at_call 167;with_reducible exact quiet_call (HKA.out _ (hE1.ext (Aft.ext _))))|(go_at_call 167;with_reducible exact quiet_call (HKB.out _ (hE1.ext (Aft.ext _))))))|quiet_step ((first|(go_at_call 167;with_reducible exact quiet_call (HKA.out _ (hE1.ext (Aft.ext _))))|(go_at_call 167;with_reducible exact quiet_call (HKB.out _ (hE1.ext (Aft.ext _)))))))
  refine wpQuiet_nil ?_
  rintro _ ⟨d2,rfl⟩
  have hkf:=hk2 d2
  go_wp2_with (first|(refine wpList_store_row rfl 64 (.tmp 8) (.tmp 32) rfl (w.heap.size+1+1) _ rfl rfl _ _ hkf size_ent rfl (oneA (eCells_one ⟨bid,btitle,blink,bcontent,bupd⟩)) ?_)|(refine wpList_store_row rfl 64 (.tmp 8) (.tmp 33) rfl (w.heap.size+1+1) _ rfl rfl _ _ hkf size_ent rfl (oneA (eCells_one ⟨aid,atitle,alink,acontent,aupd⟩)) ?_))
  ((try simp only[Exit.inBlock,Exit.then]);refine bodyPost_ret (results_cell_row rfl _ _ _ _ _ _ _ rfl (setRow_heap _ _ _ _ _ _ hkf) Tryz.underlying64 rfl size_ent) rfl ?_)
  exact ⟨rfl,(hx1.trans d2.ext).setRow (by omega) _⟩
theorem laterE_any (a b:Ent) (w:World) (hE:Env w) (ha:eok a) (hb:eok b):
 Calls Tryz.prog 165 #[.agg (eCells a).toArray,.agg (eCells b).toArray,.func (.func 166) #[] #[],.func (.func 167) #[] #[]] w
  fun x w'=>x= .returned (.agg (eCells (laterE a b)).toArray)∧Ext w w':=by
 rcases iCmp_vals a.upd b.upd with h|h|h
 ·have e:laterE a b=b:=by unfold laterE laterB;rw[h];rfl
  rw[e];exact laterE_way a b b w hE ha hb (Or.inl ⟨h,rfl⟩)
 ·cases hT:Op.bytesLess (entryKey a).toList (entryKey b).toList with
  |true=>
   have e:laterE a b=b:=by unfold laterE laterB;rw[h,hT];rfl
   rw[e];exact laterE_way a b b w hE ha hb (Or.inr (Or.inr (Or.inl ⟨h,hT,rfl⟩)))
  |false=>
   have e:laterE a b=a:=by unfold laterE laterB;rw[h,hT];rfl
   rw[e];exact laterE_way a b a w hE ha hb (Or.inr (Or.inr (Or.inr ⟨h,hT,rfl⟩)))
 ·have e:laterE a b=a:=by unfold laterE laterB;rw[h];rfl
  rw[e];exact laterE_way a b a w hE ha hb (Or.inr (Or.inl ⟨h,rfl⟩))
theorem laterEntry_any (a b:Ent) (w:World) (hE:Env w) (ha:eok a) (hb:eok b):
 Calls Tryz.prog 125 #[.agg (eCells a).toArray,.agg (eCells b).toArray] w fun x w'=>x= .returned (.agg (eCells (laterE a b)).toArray)∧Ext w w':=by
 have hxW:∀(A B C:Obj),Ext w (((w.alloc A).alloc B).alloc C):=fun A B C=>(((Ext.refl w).alloc A).alloc B).alloc C
 have HL:=gd (fun (w':World) (h:Ext w w')=>laterE_any a b w' (hE.ext h) ha hb)
 generalize laterE a b=r at*
 obtain ⟨aid,atitle,alink,acontent,aupd⟩:=a
 obtain ⟨bid,btitle,blink,bcontent,bupd⟩:=b
 obtain ⟨rid,rtitle,rlink,rcontent,rupd⟩:=r
 clear ha hb
 have HX:=gd hxW
 clear hxW
 unfold eCells at*
 go_enter Tryz.func125,Tryz.ntmps125
 go_wp2_with (first|(go_at_call 165;refine (HL.out _ (HX.out _ _ _)).mono ?_;rintro e w1 ⟨rfl,hx1⟩;(have hk1:=hx1.heap (heap_alloc3_new w _ _ _)))|(refine wpList_store_row rfl 64 (.tmp 4) (.tmp 7) rfl (w.heap.size+1+1) _ rfl rfl _ _ hk1 size_ent rfl (oneA (eCells_one ⟨rid,rtitle,rlink,rcontent,rupd⟩)) ?_))
 ((try simp only[Exit.inBlock,Exit.then]);refine bodyPost_ret (results_cell_row rfl _ _ _ _ _ _ _ rfl (setRow_heap _ _ _ _ _ _ hk1) Tryz.underlying64 rfl size_ent) rfl ?_)
 exact ⟨rfl,((HX.out _ _ _).trans hx1).setRow (by omega) _⟩
end
def total (l:List ByteArray):Nat:=(l.map fun s=>s.size).sum
theorem str_app (a b:List UInt8):str a++str b=str (a++b):=by
 apply bytes_inj
 rw[str_list,ByteArray.data_append,Array.toList_append,str_list,str_list]
end Go.Proofs.YthlnaldahkgjnaaGreatDoor
