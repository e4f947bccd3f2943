/- Parts of the proof: contracts and plain laws. -/
import Derived.Test.YthlnaldahkgjnaaGreatDoorV08
namespace Go.Proofs.YthlnaldahkgjnaaGreatDoor
open Go Go.RowKit
set_option linter.unusedVariables false
set_option linter.unusedSimpArgs false
set_option maxRecDepth 100000
set_option maxHeartbeats 16000000
section
set_option linter.unusedSimpArgs false
attribute [local go_sem] calm1
theorem memsGo_step {l:List UInt8} {V:Nat→Option (JO×Nat)} {k a:Nat} {ks:List (ByteArray×Nat)} {vs:List JO}:memsGo l V (k+1) a ks vs=match keyP l (spAt l a) ks with
 |none=>none
 |some (key,to_)=>match V to_ with
  |none=>none
  |some (v,to_)=>
   if hasAt l (spAt l to_) [125] then some ((ks++ [(key,spAt l a)],vs++ [v]),spAt l to_+1)
   else if hasAt l (spAt l to_) [44] then memsGo l V k (spAt l to_+1) (ks++ [(key,spAt l a)]) (vs++ [v]) else none:=by
 conv=>lhs;unfold memsGo
 rfl
theorem NMems.ones {n B:Nat} {w:World} {v:Value} {ks:List (ByteArray×Nat)} {vs:List JO} {ms:List (ByteArray×List Value×Int)} (h:NMems n B w v ks vs ms):∀u∈(ms.map mcell).flatten,u.oneCell'=true:=by
 intro u hu
 obtain ⟨c,hc,hu⟩:=List.mem_flatten.1 hu
 obtain ⟨m,hm,rfl⟩:=List.mem_map.1 hc
 obtain ⟨i,hi,rfl⟩:=List.mem_iff_getElem.1 hm
 obtain ⟨A,p,c,B,q,d,he⟩:=(h.2.2.2.2 i (vs[i]'(by rw[←h.2.1];exact hi)) ms[i] (List.getElem?_eq_getElem _) (List.getElem?_eq_getElem hi)).rj.cells
 rcases List.mem_cons.1 hu with rfl|hu
 ·rfl
 ·rcases List.mem_append.1 hu with hu|hu
  ·rw[he] at hu;exact wcells_one u hu
  ·rcases List.mem_singleton.1 hu with rfl;rfl
theorem mcell_ones {K:Int} {b:Bool} {n:Int} {s key:ByteArray} {A B:Option Addr} {p c q d:Nat} {a x:Int}:∀u∈mcell (key,wcells K b n s (.slice A p c) (.slice B q d) a,x),u.oneCell'=true:=by
 intro u hu
 rcases List.mem_cons.1 hu with rfl|hu
 ·rfl
 ·rcases List.mem_append.1 hu with hu|hu
  ·exact wcells_one u hu
  ·rcases List.mem_singleton.1 hu with rfl;rfl
theorem NMems.keys {n B:Nat} {w:World} {v:Value} {ks:List (ByteArray×Nat)} {vs:List JO} {ms:List (ByteArray×List Value×Int)} (h:NMems n B w v ks vs ms):ms.map Prod.fst=ks.map Prod.fst:=by
 have:=congrArg (List.map Prod.fst) h.1
 rw[List.map_map,List.map_map] at this
 exact this
theorem info_parts_mem:∃i0,Tryz.prog.info? 56=some i0∧i0.zero=some (.agg #[.string ⟨#[]⟩,.int .i64 0,.bool false,.int .i64 0,.string ⟨#[]⟩,.slice none 0 0,.slice none 0 0,.int .i64 0,.int .i64 0])∧i0.size=9∧i0.bytes=120:=info_parts info_mem
theorem jObj_any (s:ByteArray) (fr D:Nat) (V:Nat→Option (JO×Nat)) (w:World) (hs:s.size≤1000000000000) (hfr:fr<s.size) (h91:s.data.toList[fr]? =some 123) (hV:ReadV s D V) (hD:D≤100) (hs2:s.size≤80000000000):
 Calls Tryz.prog 110 #[.string s,.int .i64 (fr:Nat),.int .i64 (D:Nat)] w fun e w'=>ValR w.heap.size w' (listP s.data.toList V fr true) e∧Ext w w':=by
 obtain ⟨i0,hi0,hz0,hz1,hz2⟩:=info_parts_mem
 have hcf:(s[fr].toNat:Int)=123:=by
  rw[List.getElem?_eq_getElem (by rw[data_len];exact hfr)] at h91
  injection h91 with h91
  have e:s[fr].toNat=123:=(u8_iff (n:=123) (by decide)).1 h91
  omega
 have j0:(0:Int)≤(fr:Int):=by omega
 have hDi:(D:Int)≤100:=by omega
 have j1:(fr:Int)<(s.size:Int):=by omega
 have hlp:listP s.data.toList V fr true=if hasAt s.data.toList (spAt s.data.toList (fr+1)) [125] then some (.obj fr [] [],spAt s.data.toList (fr+1)+1) else match memsGo s.data.toList V (s.size+1) (spAt s.data.toList (fr+1)) [] [] with
  |some ((ks,vs),to_)=>some (.obj fr ks vs,to_)
  |none=>none:=by unfold listP;rfl
 obtain ⟨F1,hF1⟩:∃F,fr+1=F:=⟨_,rfl⟩
 have hF1i:(fr:Int)+1=(F1:Int):=by omega
 have hF1s:F1≤s.size:=by omega
 rw[hF1] at hlp
 have HS1:=gd (fun w'=>jSpaces_any s F1 w' hs2 hF1s)
 have hP0:spAt s.data.toList F1≤s.size:=by have:=spAt_le (s:=s.data.toList) (k:=F1) (by rw[data_len];exact hF1s);rwa [data_len] at this
 obtain ⟨P0,hP0e⟩:∃P,spAt s.data.toList F1=P:=⟨_,rfl⟩
 rw[hP0e] at hlp HS1 hP0
 have HH0:=gd (fun w'=>jHas_any s ⟨#[125]⟩ P0 w' (by unfold maxLen;omega) (by unfold maxLen;omega) (by unfold maxLen;decide) (by decide))
 obtain ⟨R,hR⟩:∃R,listP s.data.toList V fr true=R:=⟨_,rfl⟩
 rw[hR] at hlp⊢
 obtain ⟨W1,hW1⟩:∃W1,(w.alloc (.cells #[.int .i64 0,.bool false,.int .i64 0,.string ⟨#[]⟩,.slice none 0 0,.slice none 0 0,.int .i64 0,.int .i64 0,.int .i64 0] 109)).alloc (.cells #[.int .i64 5,.bool false,.int .i64 0,.string ⟨#[]⟩,.slice none 0 0,.slice none 0 0,.int .i64 (fr:Nat)] 25)=W1:=⟨_,rfl⟩
 have hx1:Ext w W1:=by rw[←hW1];exact ((Ext.refl w).alloc _).alloc _
 have hb1:W1.heap[w.heap.size+1]? =some (.cells #[.int .i64 5,.bool false,.int .i64 0,.string ⟨#[]⟩,.slice none 0 0,.slice none 0 0,.int .i64 (fr:Nat)] 25 (0,0)):=by rw[←hW1];exact heap2J w _ _
 have hr1:W1.heap[w.heap.size]? =some (.cells #[.int .i64 0,.bool false,.int .i64 0,.string ⟨#[]⟩,.slice none 0 0,.slice none 0 0,.int .i64 0,.int .i64 0,.int .i64 0] 109 (0,0)):=by
  rw[←hW1]
  exact ((Ext.refl _).alloc _).heap (heap_alloc_new w _)
 have hsz1:W1.heap.size=w.heap.size+2:=by rw[←hW1,size_alloc,size_alloc]
 have HX1:=gd hx1
 have HB1:=gd hb1
 have HR1:=gd hr1
 have HSZ:=gd hsz1
 have b0:=cell_of_row _ _ 0 _ _ _ hb1
 have b1:=cell_of_row _ _ 1 _ _ _ hb1
 have b2:=cell_of_row _ _ 2 _ _ _ hb1
 have b3:=cell_of_row _ _ 3 _ _ _ hb1
 have b4:=cell_of_row _ _ 4 _ _ _ hb1
 have b5:=cell_of_row _ _ 5 _ _ _ hb1
 have b6:=cell_of_row _ _ 6 _ _ _ hb1
 clear hx1 hb1 hr1 hsz1 hF1 h91 hs
 cases hh:hasAt s.data.toList P0 (⟨#[125]⟩:ByteArray).data.toList with
 |true=>
  rw[hh] at HH0
  rw[if_pos (show hasAt s.data.toList P0 [125]=true from hh)] at hlp
  subst hlp
  clear hR hh hV hP0e
  go_enter Tryz.func110,Tryz.ntmps110
  go_wp2_with (first|(refine wpList_store_row rfl 109 (.tmp 6) (.tmp 32) rfl w.heap.size _ rfl rfl _ _ HR1.out size_res rfl oneR ?_)|(go_at_call 65;(with_reducible refine Calls.mono (HS1.out _) ?_);rintro e w4 ⟨rfl,hw4⟩;(have hw4':=hw4.symm);clear hw4;subst hw4')|(go_at_call 63;(with_reducible refine Calls.mono (HH0.out _) ?_);rintro e w4 ⟨rfl,hw4⟩;(have hw4':=hw4.symm);clear hw4;subst hw4'))
  ((try simp only[Exit.inBlock,Exit.then]);refine bodyPost_ret (results_cell_row rfl _ _ _ _ _ _ _ rfl (setRow_heap _ _ _ _ _ _ HR1.out) Tryz.underlying109 rfl size_res) rfl ?_)
  exact ⟨⟨none,0,0,none,0,0,1,rfl,NJn.leaf (j:= .obj fr [] []) ⟨rfl,rfl,rfl⟩⟩,HX1.out.setRow (Nat.le_refl _) _⟩
 |false=>
  rw[hh] at HH0
  rw[if_neg (show ¬hasAt s.data.toList P0 [125]=true by rw[show hasAt s.data.toList P0 [125]=false from hh];decide)] at hlp
  have HLP:=gd hlp
  have HV:=gd hV
  clear hR hh hlp hV hP0e
  have HN0:Hid (W1.ownsRow W1.heap.size 56 9 (.slice none 0 0) 0 []):=World.ownsRow_nil _ _ _ _
  go_enter Tryz.func110,Tryz.ntmps110
  go_wp2_with (first|(go_at_call 65;(with_reducible refine Calls.mono (HS1.out _) ?_);rintro e w4 ⟨rfl,hw4⟩;(have hw4':=hw4.symm);clear hw4;subst hw4')|(go_at_call 63;(with_reducible refine Calls.mono (HH0.out _) ?_);rintro e w4 ⟨rfl,hw4⟩;(have hw4':=hw4.symm);clear hw4;subst hw4'))
  clear b0 b1 b2 b3 b4 b5 b6
  go_loopw [9] (fun v wr=>∃(a k n:Nat) (ks:List (ByteArray×Nat)) (vs:List JO) (ms:List (ByteArray×List Value×Int)) (IA:Option Addr) (ic:Nat),a≤s.size∧s.size<k+a∧vs.length≤a∧v= .int .i64 (a:Nat)∧Hid (memsGo s.data.toList V (s.size+1) P0 [] []=memsGo s.data.toList V k a ks vs)∧
   Hid (NMems n W1.heap.size wr (.slice IA vs.length ic) ks vs ms)∧Hid (wr.heap[w.heap.size+1]? =some (.cells #[.int .i64 5,.bool false,.int .i64 0,.string ⟨#[]⟩,.slice none 0 0,.slice IA vs.length ic,.int .i64 (fr:Nat)] 25 (0,0)))∧Hid (wr.heap[w.heap.size]? =some (.cells #[.int .i64 0,.bool false,.int .i64 0,.string ⟨#[]⟩,.slice none 0 0,.slice none 0 0,.int .i64 0,.int .i64 0,.int .i64 0] 109 (0,0)))∧W1.heap.size≤wr.heap.size∧Ext w wr) (fun v _=>s.size - (intOf v).toNat)
  case atStart=>exact ⟨P0,s.size+1,0,[],[],[],none,0,hP0,by omega,Nat.zero_le _,rfl,rfl,⟨rfl,rfl,HN0.out,by simp,fun i j c hj _=>by simp at hj⟩,HB1.out,HR1.out,Nat.le_refl _,HX1.out⟩
  case round=>
   obtain ⟨a,k,n,ks,vs,ms,IA,ic,ha,hk,hla,rfl,hgo,hits,hvb,hrb,hsz,hxw⟩:=hrel
   obtain ⟨k,rfl⟩:∃k',k=k'+1:=⟨k - 1,by omega⟩
   have hgo2:=hgo.out.trans memsGo_step
   have hPa:spAt s.data.toList a≤s.size:=by have:=spAt_le (s:=s.data.toList) (k:=a) (by rw[data_len];exact ha);rwa [data_len] at this
   have HSPa:=gd (fun w'=>jSpaces_any s a w' hs2 ha)
   have hage:=spAt_ge s.data.toList a
   obtain ⟨P,hP⟩:∃P,spAt s.data.toList a=P:=⟨_,rfl⟩
   rw[hP] at hPa hgo2 HSPa hage
   have hb:=hvb.out
   have c0:=cell_of_row _ _ 0 _ _ _ hb
   have c1:=cell_of_row _ _ 1 _ _ _ hb
   have c2:=cell_of_row _ _ 2 _ _ _ hb
   have c3:=cell_of_row _ _ 3 _ _ _ hb
   have c4:=cell_of_row _ _ 4 _ _ _ hb
   have c5:=cell_of_row _ _ 5 _ _ _ hb
   have c6:=cell_of_row _ _ 6 _ _ _ hb
   have hrm:RSl wr 9 (.slice IA vs.length ic) ms.length (ms.map mcell).flatten:=by rw[hits.out.2.1];exact RSl.of_own hits.out.2.2.1
   have hkey:=jKey_any s P fr ks (.slice IA vs.length ic) ms wr hs2 hPa (NMems.keys hits.out) hrm hits.out.2.2.2.1
   unfold wcells noS at hkey
   have HKEY:=gd hkey
   clear hP hb hgo hrm hkey
   cases hkp:keyP s.data.toList P ks with
   |none=>
    rw[hkp] at hgo2 HKEY
    have hres:R=none:=by rw[HLP.out,hgo2]
    subst hres
    clear hgo2 hkp
    go_wp2_with (first|(refine wpList_store_row rfl 109 (.tmp 6) (.tmp 52) rfl w.heap.size _ rfl rfl _ _ hrb5 size_res rfl oneR ?_)|(go_at_call 65;(with_reducible refine Calls.mono (HSPa.out _) ?_);rintro e w4 ⟨rfl,hw4⟩;(have hw4':=hw4.symm);clear hw4;subst hw4')|(go_at_call 156;(have hz:=HKEY.out);(with_reducible refine Calls.mono hz ?_);clear hz;rintro e w5 ⟨⟨b,x,hx0,rfl⟩,hx5⟩;(have hx0i:((x:Int) !=0)=true:=by rw[bne_iff_ne];omega);(have hrb5:=hx5.heap hrb.out)))
    ((try simp only[Exit.inBlock,Exit.then]);refine bodyPost_ret (results_cell_row rfl _ _ _ _ _ _ _ rfl (setRow_heap _ _ _ _ _ _ hrb5) Tryz.underlying109 rfl size_res) rfl ?_)
    exact ⟨⟨b,x,hx0,rfl⟩,(hxw.trans hx5).setRow (Nat.le_refl _) _⟩
   |some pk=>
   obtain ⟨key,u⟩:=pk
   obtain ⟨-, -,hu1,hu2⟩:=keyP_ok hkp
   rw[data_len] at hu2
   rw[hkp] at hgo2 HKEY
   simp only at hgo2
   have HCV:=gd (fun w'=>HV.out.call u w' hu2)
   clear hkp
   cases hva:V u with
   |none=>
    rw[hva] at hgo2 HCV
    have hres:R=none:=by rw[HLP.out,hgo2]
    subst hres
    clear hgo2 hva
    go_wp2_with (first|(refine wpList_store_row rfl 109 (.tmp 6) (.tmp 61) rfl w.heap.size _ rfl rfl _ _ hrb5 size_res rfl oneR ?_)|(go_at_call 65;(with_reducible refine Calls.mono (HSPa.out _) ?_);rintro e w4 ⟨rfl,hw4⟩;(have hw4':=hw4.symm);clear hw4;subst hw4')|(go_at_call 156;(have hz:=HKEY.out);(with_reducible refine Calls.mono hz ?_);clear hz;rintro e wk ⟨hek,hxk⟩;(replace hek:e= .returned (.tuple #[.string key,.int .i64 (u:Nat),.int .i64 0]):=hek);subst hek;(have c0:=hxk.cell c0))|(go_at_call 64;(have hz:=HCV.out wk);(with_reducible refine Calls.mono hz ?_);clear hz;rintro e w5 ⟨⟨b,x,hx0,rfl⟩,hx5⟩;(have hx0i:((x:Int) !=0)=true:=by rw[bne_iff_ne];omega);(have hrb5:=((hxk.trans hx5).alloc (.cells #[.int .i64 0,.bool false,.int .i64 0,.string ⟨#[]⟩,.slice none 0 0,.slice none 0 0,.int .i64 0,.int .i64 (b:Nat),.int .i64 (x:Nat)] 109)).heap hrb.out)))
    ((try simp only[Exit.inBlock,Exit.then]);refine bodyPost_ret (results_cell_row rfl _ _ _ _ _ _ _ rfl (setRow_heap _ _ _ _ _ _ hrb5) Tryz.underlying109 rfl size_res) rfl ?_)
    exact ⟨⟨b,x,hx0,rfl⟩,(((hxw.trans hxk).trans hx5).alloc _).setRow (Nat.le_refl _) _⟩
   |some p=>
    obtain ⟨o,z⟩:=p
    rw[hva] at hgo2 HCV
    simp only at hgo2
    obtain ⟨hgt1,hgt2⟩:=HV.out.gt u o z hva
    have HSPz:=gd (fun w'=>jSpaces_any s z w' hs2 hgt2)
    have hQ:spAt s.data.toList z≤s.size:=by have:=spAt_le (s:=s.data.toList) (k:=z) (by rw[data_len];exact hgt2);rwa [data_len] at this
    have hQge:=spAt_ge s.data.toList z
    obtain ⟨Q,hQe⟩:∃Q,spAt s.data.toList z=Q:=⟨_,rfl⟩
    rw[hQe] at HSPz hQ hgo2 hQge
    have HH1:=gd (fun w'=>jHas_any s ⟨#[125]⟩ Q w' (by unfold maxLen;omega) (by unfold maxLen;omega) (by unfold maxLen;decide) (by decide))
    have HH2:=gd (fun w'=>jHas_any s ⟨#[44]⟩ Q w' (by unfold maxLen;omega) (by unfold maxLen;omega) (by unfold maxLen;decide) (by decide))
    have HW:=gd (fun w'=>jWrong_any s Q w')
    have HGO:=gd hgo2
    clear hgo2 hQe hva
    go_wp2_with (first|(go_at_call 65;(with_reducible refine Calls.mono (HSPa.out _) ?_);rintro e w4 ⟨rfl,hw4⟩;(have hw4':=hw4.symm);clear hw4;subst hw4')|(go_at_call 156;(have hz:=HKEY.out);(with_reducible refine Calls.mono hz ?_);clear hz;rintro e wk ⟨hek,hxk⟩;(replace hek:e= .returned (.tuple #[.string key,.int .i64 (u:Nat),.int .i64 0]):=hek);subst hek;(have c0:=hxk.cell c0))|(go_at_call 64;(have hzz:=HCV.out wk);(with_reducible refine Calls.mono hzz ?_);clear hzz;rintro e w5 ⟨⟨A,pp,cc,C,qq,dd,n2,rfl,hnj⟩,hx5k⟩;(have hx5:=hxk.trans hx5k);(have HNJ:=gd (hnj.mono hxk.size));clear hnj;(have c0:=hx5k.cell c0);(have c0:=((Ext.refl w5).alloc (.cells #[.int .i64 (kindJ o:Nat),.bool (bJ o),.int .i64 (nJ o),.string (sJ o),.slice A pp cc,.slice C qq dd,.int .i64 (atJ o:Nat),.int .i64 (z:Nat),.int .i64 0] 109)).cell c0)))
    obtain ⟨W6,hW6⟩:∃W6,w5.alloc (.cells #[.int .i64 (kindJ o:Nat),.bool (bJ o),.int .i64 (nJ o),.string (sJ o),.slice A pp cc,.slice C qq dd,.int .i64 (atJ o:Nat),.int .i64 (z:Nat),.int .i64 0] 109)=W6:=⟨_,rfl⟩
    rw[hW6]
    have hx56:Ext w5 W6:=by rw[←hW6];exact (Ext.refl w5).alloc _
    have hx6:Ext wr W6:=hx5.trans hx56
    have ht6:W6.heap[w5.heap.size]? =some (.cells #[.int .i64 (kindJ o:Nat),.bool (bJ o),.int .i64 (nJ o),.string (sJ o),.slice A pp cc,.slice C qq dd,.int .i64 (atJ o:Nat),.int .i64 (z:Nat),.int .i64 0] 109 (0,0)):=by rw[←hW6];exact heap_alloc_new w5 _
    have hb6:=hx6.heap hvb.out
    have hr6:=hx6.heap hrb.out
    have hits6:=hits.out.keep (KF.of hx6)
    have hnj6:=HNJ.out.keep (KF.of hx56)
    have q0:=cell_of_row _ _ 0 _ _ _ ht6
    have q1:=cell_of_row _ _ 1 _ _ _ ht6
    have q2:=cell_of_row _ _ 2 _ _ _ ht6
    have q3:=cell_of_row _ _ 3 _ _ _ ht6
    have q4:=cell_of_row _ _ 4 _ _ _ ht6
    have q5:=cell_of_row _ _ 5 _ _ _ ht6
    have q6:=cell_of_row _ _ 6 _ _ _ ht6
    have q7:=cell_of_row _ _ 7 _ _ _ ht6
    have c5:=cell_of_row _ _ 5 _ _ _ hb6
    have HX6:=gd hx6
    have HXW:=gd hxw
    have HT6:=gd ht6
    have HB6:=gd hb6
    have HR6:=gd hr6
    have HI6:=gd hits6
    have HJ6:=gd hnj6
    have hwb:W1.heap.size≤W6.heap.size:=Nat.le_trans hsz hx6.size
    have htb:W1.heap.size≤w5.heap.size:=Nat.le_trans hsz hx5.size
    have hsz16:vs.length*120≤14073748835532:=by omega
    clear hx56 hx6 ht6 hb6 hr6 hits6 hnj6 hW6 hx5 hx5k hxk hxw HNJ c1 c2 c3 c4 c6
    refine rN ?_
    change wpAny _ _ _ _ _ _ _ (World.drew _)
    have hxd:=(Ext.refl W6).drew
    refine wpAny_load (i:=1) (v:= .pointer (some ⟨w.heap.size+1,5,none⟩)) (fun w'=>Ext W6 w') 12 rfl (by kernel_rfl) (fun _ _ _ h=>h) (Or.inl ⟨by rfl,fun w' hS=>by go_simp⟩) hxd ?_
    refine tT 2 (.slice IA vs.length ic) rfl (fun w' hS=>by have hq:=Ext.cell hS c5;go_simp) hxd ?_
    refine tT 4 (.string key) rfl (fun w' hS=>by go_simp) hxd ?_
    refine tT 5 (.pointer (some ⟨w5.heap.size,0,none⟩)) rfl (fun w' hS=>by go_simp) hxd ?_
    go_simp
    refine tT 6 (.agg #[.int .i64 (kindJ o:Nat),.bool (bJ o),.int .i64 (nJ o),.string (sJ o),.slice A pp cc,.slice C qq dd,.int .i64 (atJ o:Nat)]) rfl (fun w' hS=>by have e0:=Ext.cell hS q0;have e1:=Ext.cell hS q1;have e2:=Ext.cell hS q2;have e3:=Ext.cell hS q3;have e4:=Ext.cell hS q4;have e5:=Ext.cell hS q5;have e6:=Ext.cell hS q6;go_simp) hxd ?_
    refine tT 7 (.int .i64 (P:Nat)) rfl (fun w' hS=>by go_simp) hxd ?_
    go_simp
    refine tT 8 (.agg #[.string key,.int .i64 (kindJ o:Nat),.bool (bJ o),.int .i64 (nJ o),.string (sJ o),.slice A pp cc,.slice C qq dd,.int .i64 (atJ o:Nat),.int .i64 (P:Nat)]) rfl (fun w' hS=>by go_simp) hxd ?_
    go_simp
    refine wpAnyT_told (m:=3) (f:=3) rfl #[true,true,true,true,true,true,true,true,true,true,false,false,false] (fun a0 a' w'=>∃(x1 v2:Value) (bA:Nat),a'=((a0.put (some 65) x1).put (some 68) v2).put (some 74) (.slice (some ⟨bA,0,none⟩) 1 1)∧Ext W6 w'∧w'.ownsRow W6.heap.size 56 9 v2 vs.length (ms.map mcell).flatten∧RSl w' 9 (.slice (some ⟨bA,0,none⟩) 1 1) 1 (mcell (key,(wcells (kindJ o) (bJ o) (nJ o) (sJ o) (.slice A pp cc) (.slice C qq dd) (atJ o)),(P:Int)))) ?_ ?_
    ·have HOI:=gd (RSl.of_own HI6.out.2.2.1)
     have HONE:=gd (NMems.ones HI6.out)
     refine wpAnyC_two (i:=0) (j:=9) rfl rfl (by kernel_rfl) (fun K hK=> ?_) (fun K hK=> ?_)
     ·go_simp
      have hxa:=hxd.alloc (.cells #[] 56)
      have HOW:=gd (own_newB (b:=W6.heap.size) (base:=W6.heap.size) (e:=56) (size:=9) (n:=0) (cs:= []) (Nat.le_refl _) (heap_alloc_new W6.drew (.cells #[] 56)) rfl (by decide))
      refine hK _ _ hxa ?_
      clear hK K
      refine wpAnyC_two (i:=3) (j:=9) rfl rfl (by kernel_rfl) (fun K hK=> ?_) (fun K hK=> ?_)
      ·refine step_append_rsl _ (by rfl) (.tmp 65) (.tmp 67) _ (by rfl) W6.heap.size 56 i0 _ 9 120 Tryz.underlying23 hi0 hz0 hz1 hz2 rfl (by decide) _ 0 [] (by rfl) HOW.out _ vs.length (ms.map mcell).flatten (by rfl) (HOI.out.ext hxa) HONE.out (by unfold maxLen;omega) (by omega) (hxa).size ?_
       intro v9 w9 hown9 hg9 hat9
       have hx9:Ext W6 w9:=Ext.app hxa hg9 HOW.out (Nat.le_refl _)
       rw[Nat.zero_add,List.nil_append] at hown9
       refine hK _ _ hx9 ?_
       clear hK K
       refine wpAnyC_step (i:=9) rfl (by kernel_rfl) (fun K hK=> ?_)
       go_simp
       refine hK _ _ (hx9.alloc _) ?_
       refine ⟨rfl,_,v9,_,rfl,hx9.alloc _,own_ext hown9 ((Ext.refl _).alloc _),rsl_new (w:=w9) (n:=1) (cs:=(mcell (key,(wcells (kindJ o) (bJ o) (nJ o) (sJ o) (.slice A pp cc) (.slice C qq dd) (atJ o)),(P:Int)))) rfl (by decide)⟩
      ·go_simp
       have hxb:=hxa.alloc (.cells #[.string key,.int .i64 (kindJ o:Nat),.bool (bJ o),.int .i64 (nJ o),.string (sJ o),.slice A pp cc,.slice C qq dd,.int .i64 (atJ o:Nat),.int .i64 (P:Nat)] 56)
       have HOW2:=gd (own_ext HOW.out ((Ext.refl _).alloc (.cells #[.string key,.int .i64 (kindJ o:Nat),.bool (bJ o),.int .i64 (nJ o),.string (sJ o),.slice A pp cc,.slice C qq dd,.int .i64 (atJ o:Nat),.int .i64 (P:Nat)] 56)))
       refine hK _ _ hxb ?_
       clear hK K
       refine wpAnyC_step (i:=3) rfl (by kernel_rfl) (fun K hK=> ?_)
       refine step_append_rsl _ (by rfl) (.tmp 65) (.tmp 67) _ (by rfl) W6.heap.size 56 i0 _ 9 120 Tryz.underlying23 hi0 hz0 hz1 hz2 rfl (by decide) _ 0 [] (by rfl) HOW2.out _ vs.length (ms.map mcell).flatten (by rfl) (HOI.out.ext hxb) HONE.out (by unfold maxLen;omega) (by omega) (hxb).size ?_
       intro v9 w9 hown9 hg9 hat9
       have hx9:Ext W6 w9:=Ext.app hxb hg9 HOW2.out (Nat.le_refl _)
       rw[Nat.zero_add,List.nil_append] at hown9
       refine hK _ _ hx9 ?_
       refine ⟨rfl,_,v9,_,rfl,hx9,hown9,RSl.grown (RSl.of_own (own_newB (b:=W6.heap.size+1) (base:=0) (e:=56) (n:=1) (cs:=(mcell (key,(wcells (kindJ o) (bJ o) (nJ o) (sJ o) (.slice A pp cc) (.slice C qq dd) (atJ o)),(P:Int)))) (Nat.zero_le _) (heap2J W6.drew (.cells #[] 56) (.cells #[.string key,.int .i64 (kindJ o:Nat),.bool (bJ o),.int .i64 (nJ o),.string (sJ o),.slice A pp cc,.slice C qq dd,.int .i64 (atJ o:Nat),.int .i64 (P:Nat)] 56)) rfl (by decide))) hg9 (Or.inr (fun e=>absurd (Option.some.inj e) (by show ¬W6.heap.size+1=W6.heap.size;omega)))⟩
     ·go_simp
      have hxa:=hxd.alloc (.cells #[.string key,.int .i64 (kindJ o:Nat),.bool (bJ o),.int .i64 (nJ o),.string (sJ o),.slice A pp cc,.slice C qq dd,.int .i64 (atJ o:Nat),.int .i64 (P:Nat)] 56)
      refine hK _ _ hxa ?_
      clear hK K
      refine wpAnyC_step (i:=0) rfl (by kernel_rfl) (fun K hK=> ?_)
      go_simp
      have hxb:=hxa.alloc (.cells #[] 56)
      have HOW:=gd (own_newB (b:=W6.heap.size+1) (base:=W6.heap.size) (e:=56) (size:=9) (n:=0) (cs:= []) (Nat.le_succ _) (heap2J W6.drew (.cells #[.string key,.int .i64 (kindJ o:Nat),.bool (bJ o),.int .i64 (nJ o),.string (sJ o),.slice A pp cc,.slice C qq dd,.int .i64 (atJ o:Nat),.int .i64 (P:Nat)] 56) (.cells #[] 56)) rfl (by decide))
      refine hK _ _ hxb ?_
      clear hK K
      refine wpAnyC_step (i:=3) rfl (by kernel_rfl) (fun K hK=> ?_)
      refine step_append_rsl _ (by rfl) (.tmp 65) (.tmp 67) _ (by rfl) W6.heap.size 56 i0 _ 9 120 Tryz.underlying23 hi0 hz0 hz1 hz2 rfl (by decide) _ 0 [] (by rfl) HOW.out _ vs.length (ms.map mcell).flatten (by rfl) (HOI.out.ext hxb) HONE.out (by unfold maxLen;omega) (by omega) (hxb).size ?_
      intro v9 w9 hown9 hg9 hat9
      have hx9:Ext W6 w9:=Ext.app hxb hg9 HOW.out (Nat.le_refl _)
      rw[Nat.zero_add,List.nil_append] at hown9
      refine hK _ _ hx9 ?_
      refine ⟨rfl,_,v9,_,rfl,hx9,hown9,RSl.grown (RSl.of_own (own_newB (b:=W6.heap.size) (base:=0) (e:=56) (n:=1) (cs:=(mcell (key,(wcells (kindJ o) (bJ o) (nJ o) (sJ o) (.slice A pp cc) (.slice C qq dd) (atJ o)),(P:Int)))) (Nat.zero_le _) (((Ext.refl _).alloc _).heap (heap_alloc_new W6.drew (.cells #[.string key,.int .i64 (kindJ o:Nat),.bool (bJ o),.int .i64 (nJ o),.string (sJ o),.slice A pp cc,.slice C qq dd,.int .i64 (atJ o:Nat),.int .i64 (P:Nat)] 56))) rfl (by decide))) hg9 (Or.inr (fun e=>absurd (Option.some.inj e) (by show ¬W6.heap.size=W6.heap.size+1;omega)))⟩
    rintro a' w7 ⟨x1,v2,bA,rfl,hx7,hown,hnew⟩
    obtain ⟨A2,c2,rfl⟩:=ownJ_form hown
    have HOW7:=gd hown
    have HNW7:=gd hnew
    have HX7:=gd hx7
    have hwb7:=Nat.le_trans (Nat.le_of_eq rfl) hx7.size
    clear hown hnew
    refine wpAnyT_one (i:=10) rfl (by kernel_rfl) (fun K hK=> ?_)
    refine step_append_rsl _ (by rfl) (.tmp 68) (.tmp 74) _ (by rfl) W6.heap.size 56 i0 _ 9 120 Tryz.underlying23 hi0 hz0 hz1 hz2 rfl (by decide) _ vs.length (ms.map mcell).flatten (by rfl) HOW7.out _ 1 (mcell (key,(wcells (kindJ o) (bJ o) (nJ o) (sJ o) (.slice A pp cc) (.slice C qq dd) (atJ o)),(P:Int))) (by rfl) HNW7.out mcell_ones (by unfold maxLen;omega) (by omega) hx7.size ?_
    intro v9 w9 hown9 hg9 hat9
    have hx9:Ext W6 w9:=Ext.app HX7.out hg9 HOW7.out (Nat.le_refl _)
    obtain ⟨A3,c3,rfl⟩:=ownJ_form hown9
    refine hK _ _ (fun _=>hx9) ?_
    clear hK K
    have HOW9:=gd hown9
    have HX9:=gd hx9
    have hb9:=hx9.heap HB6.out
    have c9:=cell_of_row _ _ 5 _ _ _ hb9
    have f9:w9.frozen? ⟨w.heap.size+1,5,none⟩=false:=Lib.frozen_of_heap hb9 5
    refine wpAnyT_one (i:=11) rfl (by kernel_rfl) (fun K hK=> ?_)
    go_simp
    refine hK _ _ (fun _=>HX9.out) ?_
    clear hK K
    refine wpAnyT_one (i:=12) rfl (by kernel_rfl) (fun K hK=> ?_)
    go_simp
    refine hK _ _ (fun h=>absurd (show true=false from h) (by decide)) ?_
    clear hK K
    refine wpAnyT_end (by kernel_rfl) ?_
    have hszw:=HSZ.out
    obtain ⟨W9,hW9⟩:∃W9,w9.setCell ⟨w.heap.size+1,5,none⟩ (.slice A3 (vs.length+1) c3)=W9:=⟨_,rfl⟩
    rw[hW9]
    have hk9:KF W1.heap.size w9 W9:=by rw[←hW9];exact KF.setCell _ _ _ (by show w.heap.size+1<_;omega)
    have hk69:KF W1.heap.size W6 W9:=(KF.of HX9.out).trans hk9
    have HNI:=gd (NMems.snoc HI6.out hk69 rfl ((HJ6.out.mono hsz).keep hk69) (KF.own (own_mono HOW9.out hwb) hk9))
    have hb10:W9.heap[w.heap.size+1]? =some (.cells #[.int .i64 5,.bool false,.int .i64 0,.string ⟨#[]⟩,.slice none 0 0,.slice A3 (vs.length+1) c3,.int .i64 (fr:Nat)] 25 (0,0)):=by
     rw[←hW9,heap_setCell_same _ _ _ _ _ _ hb9];rfl
    have hr10:W9.heap[w.heap.size]? =some (.cells #[.int .i64 0,.bool false,.int .i64 0,.string ⟨#[]⟩,.slice none 0 0,.slice none 0 0,.int .i64 0,.int .i64 0,.int .i64 0] 109 (0,0)):=by
     rw[←hW9,heap_setCell_other _ _ _ _ (by show w.heap.size≠w.heap.size+1;omega)]
     exact HX9.out.heap HR6.out
    have ht10:W9.heap[w5.heap.size]? =some (.cells #[.int .i64 (kindJ o:Nat),.bool (bJ o),.int .i64 (nJ o),.string (sJ o),.slice A pp cc,.slice C qq dd,.int .i64 (atJ o:Nat),.int .i64 (z:Nat),.int .i64 0] 109 (0,0)):=by
     rw[←hW9,heap_setCell_other _ _ _ _ (by show w5.heap.size≠w.heap.size+1;omega)]
     exact HX9.out.heap HT6.out
    have hx10:Ext w W9:=by
     rw[←hW9]
     exact ((HXW.out.trans HX6.out).trans HX9.out).setCell (p:=⟨w.heap.size+1,5,none⟩) (Nat.le_succ _) _
    have d0:=cell_of_row _ _ 0 _ _ _ hb10
    have d1:=cell_of_row _ _ 1 _ _ _ hb10
    have d2:=cell_of_row _ _ 2 _ _ _ hb10
    have d3:=cell_of_row _ _ 3 _ _ _ hb10
    have d4:=cell_of_row _ _ 4 _ _ _ hb10
    have d5:=cell_of_row _ _ 5 _ _ _ hb10
    have d6:=cell_of_row _ _ 6 _ _ _ hb10
    have t7:=cell_of_row _ _ 7 _ _ _ ht10
    have hsz9:W1.heap.size≤W9.heap.size:=Nat.le_trans hwb hk69.1
    have HB10:=gd hb10
    have HR10:=gd hr10
    have HX10:=gd hx10
    clear hW9 hk9 hk69 hb9 c9 f9 hown9 hg9 hat9 hx9 hb10 hr10 ht10 hx10 q0 q1 q2 q3 q4 q5 q6 q7 c0 c5 hxd hx7 hwb htb hwb7
    cases hh1:hasAt s.data.toList Q (⟨#[125]⟩:ByteArray).data.toList with
    |true=>
     rw[hh1] at HH1
     have hres:R=some (JO.obj fr (ks++ [(key,P)]) (vs++ [o]),Q+1):=by rw[HLP.out,HGO.out,if_pos (show hasAt s.data.toList Q [125]=true from hh1)]
     subst hres
     clear hh1
     go_wp2_with (first|(refine wpList_store_row rfl 109 (.tmp 6) (.tmp 97) rfl w.heap.size _ rfl rfl _ _ HR10.out size_res rfl oneR ?_)|(go_at_call 65;(with_reducible refine Calls.mono (HSPz.out _) ?_);rintro e w4 ⟨rfl,hw4⟩;(have hw4':=hw4.symm);clear hw4;subst hw4')|(go_at_call 63;(with_reducible refine Calls.mono (HH1.out _) ?_);rintro e w4 ⟨rfl,hw4⟩;(have hw4':=hw4.symm);clear hw4;subst hw4'))
     ((try simp only[Exit.inBlock,Exit.then]);refine bodyPost_ret (results_cell_row rfl _ _ _ _ _ _ _ rfl (setRow_heap _ _ _ _ _ _ HR10.out) Tryz.underlying109 rfl size_res) rfl ?_)
     exact ⟨⟨none,0,0,A3,_,c3,_,rfl,((NMems.obj HNI.out).keep (KF.setRow _ _ _ (by rw[HSZ.out];omega))).mono (by rw[HSZ.out];omega)⟩,HX10.out.setRow (Nat.le_refl _) _⟩
    |false=>
     rw[hh1] at HH1
     have hgo3:=HGO.out
     rw[if_neg (show ¬hasAt s.data.toList Q [125]=true by rw[show hasAt s.data.toList Q [125]=false from hh1];decide)] at hgo3
     cases hh2:hasAt s.data.toList Q (⟨#[44]⟩:ByteArray).data.toList with
     |true=>
      rw[hh2] at HH2
      rw[if_pos (show hasAt s.data.toList Q [44]=true from hh2)] at hgo3
      have hQ1:Q+1≤s.size:=by have:=has_lt (l:=s.data.toList) (t:= [44]) (i:=Q) hh2 (by decide);rw[data_len] at this;exact this
      have HGO3:=gd hgo3
      clear hgo3 hh1 hh2
      go_wp2_with (first|(go_at_call 65;(with_reducible refine Calls.mono (HSPz.out _) ?_);rintro e w4 ⟨rfl,hw4⟩;(have hw4':=hw4.symm);clear hw4;subst hw4')|(go_at_call 63;(with_reducible refine Calls.mono (HH1.out _) ?_);rintro e w4 ⟨rfl,hw4⟩;(have hw4':=hw4.symm);clear hw4;subst hw4')|(go_at_call 63;(with_reducible refine Calls.mono (HH2.out _) ?_);rintro e w4 ⟨rfl,hw4⟩;(have hw4':=hw4.symm);clear hw4;subst hw4'))
      go_roundw
      case rel=>exact ⟨Q+1,k,max n n2,ks++ [(key,P)],vs++ [o],ms++ [(key,(wcells (kindJ o) (bJ o) (nJ o) (sJ o) (.slice A pp cc) (.slice C qq dd) (atJ o)),(P:Int))],A3,c3,hQ1,by omega,by rw[List.length_append,List.length_singleton];omega,by go_num,HGO3,(by rw[List.length_append,List.length_singleton];exact HNI.out:Hid _),(by rw[List.length_append,List.length_singleton];exact HB10.out:Hid _),HR10,hsz9,HX10.out⟩
      case measure=>simp[intOf];omega
     |false=>
      rw[hh2] at HH2
      rw[if_neg (show ¬hasAt s.data.toList Q [44]=true by rw[show hasAt s.data.toList Q [44]=false from hh2];decide)] at hgo3
      have hres:R=none:=by rw[HLP.out,hgo3]
      subst hres
      clear hgo3 hh1 hh2
      go_wp2_with (first|(refine wpList_store_row rfl 109 (.tmp 6) (.tmp 104) rfl w.heap.size _ rfl rfl _ _ hr11 size_res rfl oneR ?_)|(go_at_call 107;(with_reducible refine Calls.mono (HW.out _) ?_);rintro e w11 ⟨⟨b,x,hx0,rfl⟩,hx11⟩;have hr11:=hx11.heap HR10.out)|(go_at_call 65;(with_reducible refine Calls.mono (HSPz.out _) ?_);rintro e w4 ⟨rfl,hw4⟩;(have hw4':=hw4.symm);clear hw4;subst hw4')|(go_at_call 63;(with_reducible refine Calls.mono (HH1.out _) ?_);rintro e w4 ⟨rfl,hw4⟩;(have hw4':=hw4.symm);clear hw4;subst hw4')|(go_at_call 63;(with_reducible refine Calls.mono (HH2.out _) ?_);rintro e w4 ⟨rfl,hw4⟩;(have hw4':=hw4.symm);clear hw4;subst hw4'))
      ((try simp only[Exit.inBlock,Exit.then]);refine bodyPost_ret (results_cell_row rfl _ _ _ _ _ _ _ rfl (setRow_heap _ _ _ _ _ _ hr11) Tryz.underlying109 rfl size_res) rfl ?_)
      exact ⟨⟨b,x,hx0,rfl⟩,(HX10.out.trans hx11).setRow (Nat.le_refl _) _⟩
end
section
set_option linter.unusedSimpArgs false
attribute [local go_sem] calm1
theorem numAt_step {s:List UInt8} {k:Nat} (h:k<s.length) (hp:numeric s[k]=true):numAt s k=numAt s (k+1):=by
 unfold numAt
 rw[List.drop_eq_getElem_cons h,List.takeWhile_cons,hp]
 simp only[if_true,List.length_cons]
 omega
theorem numAt_stop {s:List UInt8} {k:Nat} (h:k<s.length) (hp:numeric s[k]=false):numAt s k=k:=by
 unfold numAt
 rw[List.drop_eq_getElem_cons h,List.takeWhile_cons,hp]
 rfl
theorem numAt_end {s:List UInt8} {k:Nat} (h:s.length≤k):numAt s k=k:=by
 unfold numAt
 rw[List.drop_of_length_le h]
 rfl
theorem numAt_le {s:List UInt8} {k:Nat} (h:k≤s.length):numAt s k≤s.length:=by
 unfold numAt
 have:=(List.takeWhile_sublist numeric (l:=s.drop k)).length_le
 rw[List.length_drop] at this
 omega
theorem valG_at {l:List UInt8} {L:Nat→Bool→Option (JO×Nat)} {i:Nat} {c:UInt8} (hc:l[i]? =some c):valG l L i=
 if c.toNat=110 then (if hasAt l i [110,117,108,108] then some (.null i,i+4) else none)
 else if c.toNat=116 then (if hasAt l i [116,114,117,101] then some (.bool i true,i+4) else none)
 else if c.toNat=102 then (if hasAt l i [102,97,108,115,101] then some (.bool i false,i+5) else none)
 else if c.toNat=34 then (match strP l i with
  |some (t,to_)=>some (.str i (str t),to_)
  |none=>none)
 else if c.toNat=91 then L i false
 else if c.toNat=123 then L i true
 else if c.toNat=45∨(48≤c.toNat∧c.toNat≤57) then (match numV ((l.drop i).takeWhile numeric) with
  |some n=>some (.int i n,numAt l i)
  |none=>none)
 else none:=by
 have e:∀n:Nat,n<256→(c=UInt8.ofNat n↔c.toNat=n):=fun n hn=>u8_iff hn
 have h110:c=110↔c.toNat=110:=e 110 (by decide)
 have h116:c=116↔c.toNat=116:=e 116 (by decide)
 have h102:c=102↔c.toNat=102:=e 102 (by decide)
 have h34:c=34↔c.toNat=34:=e 34 (by decide)
 have h91:c=91↔c.toNat=91:=e 91 (by decide)
 have h123:c=123↔c.toNat=123:=e 123 (by decide)
 have h45:c=45↔c.toNat=45:=e 45 (by decide)
 have hd:isDg c=true↔(48≤c.toNat∧c.toNat≤57):=by unfold isDg;rw[decide_eq_true_iff]
 unfold valG
 rw[hc]
 simp only[h110,h116,h102,h34,h91,h123,h45,hd]
 repeat' split
 all_goals first|rfl|simp_all
theorem valR_cells {B:Nat} {w':World} {o:Option (JO×Nat)} {e:Ending} (h:ValR B w' o e):∃(K n a x y:Int) (k:Bool) (s:ByteArray) (A C:Option Addr) (p c q d:Nat),e= .returned (.agg #[.int .i64 K,.bool k,.int .i64 n,.string s,.slice A p c,.slice C q d,.int .i64 a,.int .i64 x,.int .i64 y]):=by
 cases o with
 |none=>
  obtain ⟨a,x,hx,rfl⟩:=h
  exact ⟨_,_,_,_,_,_,_,_,_,_,_,_,_,rfl⟩
 |some p=>
  obtain ⟨A,a,c,C,q,d,n,rfl, -⟩:=h
  exact ⟨_,_,_,_,_,_,_,_,_,_,_,_,_,rfl⟩
theorem ValR.keep {B:Nat} {w' w2:World} {o:Option (JO×Nat)} {e:Ending} (h:ValR B w' o e) (k:KF B w' w2):ValR B w2 o e:=by
 cases o with
 |none=>exact h
 |some p=>
  obtain ⟨A,a,c,C,q,d,n,h1,h2⟩:=h
  exact ⟨A,a,c,C,q,d,n,h1,h2.keep k⟩
def ReadL (s:ByteArray) (D:Nat) (L:Nat→Bool→Option (JO×Nat)):Prop:=
 (100<D∧∀i b,L i b=none)∨(D≤100∧∀(i:Nat) (b:Bool) (w:World),i<s.size→s.data.toList[i]? =some (if b then 123 else 91)→
  Calls Tryz.prog 110 #[.string s,.int .i64 (i:Nat),.int .i64 (D:Nat)] w fun e w'=>ValR w.heap.size w' (L i b) e∧Ext w w')
theorem jValue_any (s:ByteArray) (a D:Nat) (L:Nat→Bool→Option (JO×Nat)) (w:World) (ha:a≤s.size) (hL:ReadL s D L) (hs:s.size≤80000000000):
 Calls Tryz.prog 64 #[.string s,.int .i64 (a:Nat),.int .i64 (D:Nat)] w fun e w'=>ValR w.heap.size w' (valG s.data.toList L (spAt s.data.toList a)) e∧Ext w w':=by
 have HSP:=gd (fun w'=>jSpaces_any s a w' hs ha)
 have hP:spAt s.data.toList a≤s.size:=by have:=spAt_le (s:=s.data.toList) (k:=a) (by rw[data_len];exact ha);rwa [data_len] at this
 obtain ⟨P,hPe⟩:∃P,spAt s.data.toList a=P:=⟨_,rfl⟩
 rw[hPe] at HSP hP⊢
 have HW:=gd (fun w'=>jWrong_any s P w')
 have hr1:∀w',Ext (w.alloc (.cells #[.int .i64 0,.bool false,.int .i64 0,.string ⟨#[]⟩,.slice none 0 0,.slice none 0 0,.int .i64 0,.int .i64 0,.int .i64 0] 109)) w'→w'.heap[w.heap.size]? =some (.cells #[.int .i64 0,.bool false,.int .i64 0,.string ⟨#[]⟩,.slice none 0 0,.slice none 0 0,.int .i64 0,.int .i64 0,.int .i64 0] 109 (0,0)):=fun w' hx=>hx.heap (heap_alloc_new w _)
 have HR1:=gd hr1
 obtain ⟨R,hR⟩:∃R,valG s.data.toList L P=R:=⟨_,rfl⟩
 rw[hR]
 clear hr1 hPe
 by_cases hlt:P<s.size
 case neg=>
  have hn:R=none:=by
   rw[←hR]
   unfold valG
   rw[List.getElem?_eq_none (by rw[data_len];omega)]
  subst hn
  have h1:(s.size:Int)≤(P:Int):=by omega
  clear hR hL hlt
  go_enter Tryz.func64,Tryz.ntmps64
  go_wp2_with (first|(refine wpList_store_row rfl 109 (.tmp 6) (.tmp 22) rfl w.heap.size _ rfl rfl _ _ (HR1.out _ hx5) size_res rfl oneR ?_)|(go_at_call 107;(have hz:=HW.out);(with_reducible refine Calls.mono (hz _) ?_);clear hz;rintro e w5 ⟨⟨b,x,hx0,rfl⟩,hx5⟩)|(go_at_call 65;(with_reducible refine Calls.mono (HSP.out _) ?_);rintro e w4 ⟨rfl,hw4⟩;subst hw4))
  ((try simp only[Exit.inBlock,Exit.then]);refine bodyPost_ret (results_cell_row rfl _ _ _ _ _ _ _ rfl (setRow_heap _ _ _ _ _ _ (HR1.out _ hx5)) Tryz.underlying109 rfl size_res) rfl ?_)
  exact ⟨⟨b,x,hx0,rfl⟩,(((Ext.refl w).alloc _).trans hx5).setRow (Nat.le_refl _) _⟩
 have hPl:P<s.data.toList.length:=by rw[data_len];exact hlt
 have hcc:s.data.toList[P]? =some s[P]:=List.getElem?_eq_getElem hPl
 have hvg:=valG_at (L:=L) hcc
 rw[hR] at hvg
 obtain ⟨x,hx⟩:∃x,s[P].toNat=x:=⟨_,rfl⟩
 rw[hx] at hvg
 have hxi:(s[P].toNat:Int)=(x:Int):=by rw[hx]
 have i0:(0:Int)≤(P:Int):=by omega
 have i1:(P:Int)<(s.size:Int):=by omega
 have i2:¬(s.size:Int)≤(P:Int):=by omega
 by_cases h110:x=110
 ·subst h110
  rw[if_pos rfl] at hvg
  have HWD:=gd (fun w'=>jWord_any s ⟨#[110,117,108,108]⟩ P 0 false w' hs hP (by decide) (by decide))
  cases hh:hasAt s.data.toList P (⟨#[110,117,108,108]⟩:ByteArray).data.toList with
  |true=>
   rw[hh] at HWD
   rw[if_pos (show hasAt s.data.toList P [110,117,108,108]=true from hh)] at hvg
   subst hvg
   clear hR hL hcc hh
   go_enter Tryz.func64,Tryz.ntmps64
   go_wp2_with (first|(refine wpList_store_row rfl 109 (.tmp 6) (.tmp 31) rfl w.heap.size _ rfl rfl _ _ (HR1.out _ hx5) size_res rfl oneR ?_)|(go_at_call 108;(have hz:=HWD.out);(with_reducible refine Calls.mono (hz _) ?_);clear hz;rintro e w5 ⟨hwr,hx5⟩;(replace hwr:e= .returned (.agg #[.int .i64 0,.bool false,.int .i64 0,.string ⟨#[]⟩,.slice none 0 0,.slice none 0 0,.int .i64 (P:Nat),.int .i64 ((P+(⟨#[110,117,108,108]⟩:ByteArray).size:Nat):Int),.int .i64 0]):=hwr);subst hwr)|(go_at_call 65;(with_reducible refine Calls.mono (HSP.out _) ?_);rintro e w4 ⟨rfl,hw4⟩;subst hw4))
   ((try simp only[Exit.inBlock,Exit.then]);refine bodyPost_ret (results_cell_row rfl _ _ _ _ _ _ _ rfl (setRow_heap _ _ _ _ _ _ (HR1.out _ hx5)) Tryz.underlying109 rfl size_res) rfl ?_)
   exact ⟨⟨none,0,0,none,0,0,1,rfl,NJn.leaf (j:= .null P) ⟨rfl,rfl,rfl⟩⟩,(((Ext.refl w).alloc _).trans hx5).setRow (Nat.le_refl _) _⟩
  |false=>
   rw[hh] at HWD
   rw[if_neg (show ¬hasAt s.data.toList P [110,117,108,108]=true by rw[show hasAt s.data.toList P [110,117,108,108]=false from hh];decide)] at hvg
   subst hvg
   clear hR hL hcc hh
   go_enter Tryz.func64,Tryz.ntmps64
   go_wp2_with (first|(refine wpList_store_row rfl 109 (.tmp 6) (.tmp 31) rfl w.heap.size _ rfl rfl _ _ (HR1.out _ hx5) size_res rfl oneR ?_)|(go_at_call 108;(have hz:=HWD.out);(with_reducible refine Calls.mono (hz _) ?_);clear hz;rintro e w5 ⟨⟨b,x,hx0,rfl⟩,hx5⟩)|(go_at_call 65;(with_reducible refine Calls.mono (HSP.out _) ?_);rintro e w4 ⟨rfl,hw4⟩;subst hw4))
   ((try simp only[Exit.inBlock,Exit.then]);refine bodyPost_ret (results_cell_row rfl _ _ _ _ _ _ _ rfl (setRow_heap _ _ _ _ _ _ (HR1.out _ hx5)) Tryz.underlying109 rfl size_res) rfl ?_)
   exact ⟨⟨b,x,hx0,rfl⟩,(((Ext.refl w).alloc _).trans hx5).setRow (Nat.le_refl _) _⟩
 rw[if_neg h110] at hvg
 have n110:¬(x:Int)=110:=by omega
 by_cases h116:x=116
 ·subst h116
  rw[if_pos rfl] at hvg
  have HWD:=gd (fun w'=>jWord_any s ⟨#[116,114,117,101]⟩ P 1 true w' hs hP (by decide) (by decide))
  cases hh:hasAt s.data.toList P (⟨#[116,114,117,101]⟩:ByteArray).data.toList with
  |true=>
   rw[hh] at HWD
   rw[if_pos (show hasAt s.data.toList P [116,114,117,101]=true from hh)] at hvg
   subst hvg
   clear hR hL hcc hh
   go_enter Tryz.func64,Tryz.ntmps64
   go_wp2_with (first|(refine wpList_store_row rfl 109 (.tmp 6) (.tmp 37) rfl w.heap.size _ rfl rfl _ _ (HR1.out _ hx5) size_res rfl oneR ?_)|(go_at_call 108;(have hz:=HWD.out);(with_reducible refine Calls.mono (hz _) ?_);clear hz;rintro e w5 ⟨hwr,hx5⟩;(replace hwr:e= .returned (.agg #[.int .i64 1,.bool true,.int .i64 0,.string ⟨#[]⟩,.slice none 0 0,.slice none 0 0,.int .i64 (P:Nat),.int .i64 ((P+(⟨#[116,114,117,101]⟩:ByteArray).size:Nat):Int),.int .i64 0]):=hwr);subst hwr)|(go_at_call 65;(with_reducible refine Calls.mono (HSP.out _) ?_);rintro e w4 ⟨rfl,hw4⟩;subst hw4))
   ((try simp only[Exit.inBlock,Exit.then]);refine bodyPost_ret (results_cell_row rfl _ _ _ _ _ _ _ rfl (setRow_heap _ _ _ _ _ _ (HR1.out _ hx5)) Tryz.underlying109 rfl size_res) rfl ?_)
   exact ⟨⟨none,0,0,none,0,0,1,rfl,NJn.leaf (j:= .bool P true) ⟨rfl,rfl,rfl⟩⟩,(((Ext.refl w).alloc _).trans hx5).setRow (Nat.le_refl _) _⟩
  |false=>
   rw[hh] at HWD
   rw[if_neg (show ¬hasAt s.data.toList P [116,114,117,101]=true by rw[show hasAt s.data.toList P [116,114,117,101]=false from hh];decide)] at hvg
   subst hvg
   clear hR hL hcc hh
   go_enter Tryz.func64,Tryz.ntmps64
   go_wp2_with (first|(refine wpList_store_row rfl 109 (.tmp 6) (.tmp 37) rfl w.heap.size _ rfl rfl _ _ (HR1.out _ hx5) size_res rfl oneR ?_)|(go_at_call 108;(have hz:=HWD.out);(with_reducible refine Calls.mono (hz _) ?_);clear hz;rintro e w5 ⟨⟨b,x,hx0,rfl⟩,hx5⟩)|(go_at_call 65;(with_reducible refine Calls.mono (HSP.out _) ?_);rintro e w4 ⟨rfl,hw4⟩;subst hw4))
   ((try simp only[Exit.inBlock,Exit.then]);refine bodyPost_ret (results_cell_row rfl _ _ _ _ _ _ _ rfl (setRow_heap _ _ _ _ _ _ (HR1.out _ hx5)) Tryz.underlying109 rfl size_res) rfl ?_)
   exact ⟨⟨b,x,hx0,rfl⟩,(((Ext.refl w).alloc _).trans hx5).setRow (Nat.le_refl _) _⟩
 rw[if_neg h116] at hvg
 have n116:¬(x:Int)=116:=by omega
 by_cases h102:x=102
 ·subst h102
  rw[if_pos rfl] at hvg
  have HWD:=gd (fun w'=>jWord_any s ⟨#[102,97,108,115,101]⟩ P 1 false w' hs hP (by decide) (by decide))
  cases hh:hasAt s.data.toList P (⟨#[102,97,108,115,101]⟩:ByteArray).data.toList with
  |true=>
   rw[hh] at HWD
   rw[if_pos (show hasAt s.data.toList P [102,97,108,115,101]=true from hh)] at hvg
   subst hvg
   clear hR hL hcc hh
   go_enter Tryz.func64,Tryz.ntmps64
   go_wp2_with (first|(refine wpList_store_row rfl 109 (.tmp 6) (.tmp 43) rfl w.heap.size _ rfl rfl _ _ (HR1.out _ hx5) size_res rfl oneR ?_)|(go_at_call 108;(have hz:=HWD.out);(with_reducible refine Calls.mono (hz _) ?_);clear hz;rintro e w5 ⟨hwr,hx5⟩;(replace hwr:e= .returned (.agg #[.int .i64 1,.bool false,.int .i64 0,.string ⟨#[]⟩,.slice none 0 0,.slice none 0 0,.int .i64 (P:Nat),.int .i64 ((P+(⟨#[102,97,108,115,101]⟩:ByteArray).size:Nat):Int),.int .i64 0]):=hwr);subst hwr)|(go_at_call 65;(with_reducible refine Calls.mono (HSP.out _) ?_);rintro e w4 ⟨rfl,hw4⟩;subst hw4))
   ((try simp only[Exit.inBlock,Exit.then]);refine bodyPost_ret (results_cell_row rfl _ _ _ _ _ _ _ rfl (setRow_heap _ _ _ _ _ _ (HR1.out _ hx5)) Tryz.underlying109 rfl size_res) rfl ?_)
   exact ⟨⟨none,0,0,none,0,0,1,rfl,NJn.leaf (j:= .bool P false) ⟨rfl,rfl,rfl⟩⟩,(((Ext.refl w).alloc _).trans hx5).setRow (Nat.le_refl _) _⟩
  |false=>
   rw[hh] at HWD
   rw[if_neg (show ¬hasAt s.data.toList P [102,97,108,115,101]=true by rw[show hasAt s.data.toList P [102,97,108,115,101]=false from hh];decide)] at hvg
   subst hvg
   clear hR hL hcc hh
   go_enter Tryz.func64,Tryz.ntmps64
   go_wp2_with (first|(refine wpList_store_row rfl 109 (.tmp 6) (.tmp 43) rfl w.heap.size _ rfl rfl _ _ (HR1.out _ hx5) size_res rfl oneR ?_)|(go_at_call 108;(have hz:=HWD.out);(with_reducible refine Calls.mono (hz _) ?_);clear hz;rintro e w5 ⟨⟨b,x,hx0,rfl⟩,hx5⟩)|(go_at_call 65;(with_reducible refine Calls.mono (HSP.out _) ?_);rintro e w4 ⟨rfl,hw4⟩;subst hw4))
   ((try simp only[Exit.inBlock,Exit.then]);refine bodyPost_ret (results_cell_row rfl _ _ _ _ _ _ _ rfl (setRow_heap _ _ _ _ _ _ (HR1.out _ hx5)) Tryz.underlying109 rfl size_res) rfl ?_)
   exact ⟨⟨b,x,hx0,rfl⟩,(((Ext.refl w).alloc _).trans hx5).setRow (Nat.le_refl _) _⟩
 rw[if_neg h102] at hvg
 have n102:¬(x:Int)=102:=by omega
 by_cases h34:x=34
 ·subst h34
  rw[if_pos rfl] at hvg
  have hc34:s.data.toList[P]? =some 34:=by rw[hcc];exact congrArg some ((u8_iff (n:=34) (by decide)).2 hx)
  have HSR:=gd (fun w'=>refStrP_any s P w' hs hlt hc34)
  cases hst:strP s.data.toList P with
  |none=>
   rw[hst] at HSR hvg
   subst hvg
   clear hR hL hcc hc34 hst
   go_enter Tryz.func64,Tryz.ntmps64
   go_wp2_with (first|(refine wpList_store_row rfl 109 (.tmp 6) (.tmp 57) rfl w.heap.size _ rfl rfl _ _ (HR1.out _ hx5) size_res rfl oneR ?_)|(go_at_call 109;(have hz:=HSR.out);(with_reducible refine Calls.mono (hz _) ?_);clear hz;rintro e w5 ⟨⟨b,x,hx0,rfl⟩,hx5⟩;(have hx0i:((x:Int) !=0)=true:=by rw[bne_iff_ne];omega))|(go_at_call 65;(with_reducible refine Calls.mono (HSP.out _) ?_);rintro e w4 ⟨rfl,hw4⟩;subst hw4))
   ((try simp only[Exit.inBlock,Exit.then]);refine bodyPost_ret (results_cell_row rfl _ _ _ _ _ _ _ rfl (setRow_heap _ _ _ _ _ _ (HR1.out _ hx5)) Tryz.underlying109 rfl size_res) rfl ?_)
   exact ⟨⟨b,x,hx0,rfl⟩,(((Ext.refl w).alloc _).trans hx5).setRow (Nat.le_refl _) _⟩
  |some p=>
   obtain ⟨t,z⟩:=p
   rw[hst] at HSR hvg
   subst hvg
   clear hR hL hcc hc34 hst
   go_enter Tryz.func64,Tryz.ntmps64
   go_wp2_with (first|(refine wpList_store_row rfl 109 (.tmp 6) (.tmp 62) rfl w.heap.size _ rfl rfl _ _ (HR1.out _ hx5) size_res rfl oneR ?_)|(go_at_call 109;(have hz:=HSR.out);(with_reducible refine Calls.mono (hz _) ?_);clear hz;rintro e w5 ⟨he,hx5⟩;(replace he:e= .returned (.tuple #[.string (str t),.int .i64 (z:Nat),.int .i64 0]):=he);subst he)|(go_at_call 65;(with_reducible refine Calls.mono (HSP.out _) ?_);rintro e w4 ⟨rfl,hw4⟩;subst hw4))
   ((try simp only[Exit.inBlock,Exit.then]);refine bodyPost_ret (results_cell_row rfl _ _ _ _ _ _ _ rfl (setRow_heap _ _ _ _ _ _ (HR1.out _ hx5)) Tryz.underlying109 rfl size_res) rfl ?_)
   exact ⟨⟨none,0,0,none,0,0,1,rfl,NJn.leaf (j:= .str P (str t)) ⟨rfl,rfl,rfl⟩⟩,(((Ext.refl w).alloc _).trans hx5).setRow (Nat.le_refl _) _⟩
 rw[if_neg h34] at hvg
 have n34:¬(x:Int)=34:=by omega
 by_cases h91:x=91
 ·subst h91
  rw[if_pos rfl] at hvg
  subst hvg
  have hcb:s.data.toList[P]? =some (if false then 123 else 91):=by rw[hcc];exact congrArg some ((u8_iff (n:=91) (by decide)).2 hx)
  rcases hL with ⟨hD,hL⟩|⟨hD,hL⟩
  ·rw[hL P false]
   have hDi:(100:Int)<(D:Int):=by omega
   clear hR hL hcc hcb hD
   go_enter Tryz.func64,Tryz.ntmps64
   go_wp2_with (first|(go_at_call 65;(with_reducible refine Calls.mono (HSP.out _) ?_);rintro e w4 ⟨rfl,hw4⟩;subst hw4))
   first|(((try simp only[Exit.inBlock,Exit.then]);refine bodyPost_ret (results_cell_row rfl _ _ _ _ _ _ _ rfl (heap_alloc_new _ _) Tryz.underlying109 rfl size_res) rfl ?_);exact ⟨⟨P,9,by decide,rfl⟩,(Ext.refl w).alloc _⟩)
  ·have HL:=gd (fun w'=>hL P false w' hlt hcb)
   have hDi:¬(100:Int)<(D:Int):=by omega
   clear hR hL hcc hcb hD
   go_enter Tryz.func64,Tryz.ntmps64
   go_wp2_with (first|(refine wpList_store_row rfl 109 (.tmp 6) (.tmp 73) rfl w.heap.size _ rfl rfl _ _ (HR1.out _ hx5) size_res rfl oneR ?_)|(go_at_call 110;(have hz:=HL.out);(with_reducible refine Calls.mono (hz _) ?_);clear hz;rintro e w5 ⟨hv,hx5⟩;(obtain ⟨K9,n9,a9,x9,y9,k9,s9,A9,C9,p9,c9,q9,d9,he9⟩:=valR_cells hv);(have HV9:=gd hv);clear hv;subst he9)|(go_at_call 65;(with_reducible refine Calls.mono (HSP.out _) ?_);rintro e w4 ⟨rfl,hw4⟩;subst hw4))
   ((try simp only[Exit.inBlock,Exit.then]);refine bodyPost_ret (results_cell_row rfl _ _ _ _ _ _ _ rfl (setRow_heap _ _ _ _ _ _ (HR1.out _ hx5)) Tryz.underlying109 rfl size_res) rfl ?_)
   exact ⟨(HV9.out.keep (KF.setRow _ _ _ (by rw[size_alloc];omega))).mono (by rw[size_alloc];omega),(((Ext.refl w).alloc _).trans hx5).setRow (Nat.le_refl _) _⟩
 rw[if_neg h91] at hvg
 have n91:¬(x:Int)=91:=by omega
 by_cases h123:x=123
 ·subst h123
  rw[if_pos rfl] at hvg
  subst hvg
  have hcb:s.data.toList[P]? =some (if true then 123 else 91):=by rw[hcc];exact congrArg some ((u8_iff (n:=123) (by decide)).2 hx)
  rcases hL with ⟨hD,hL⟩|⟨hD,hL⟩
  ·rw[hL P true]
   have hDi:(100:Int)<(D:Int):=by omega
   clear hR hL hcc hcb hD
   go_enter Tryz.func64,Tryz.ntmps64
   go_wp2_with (first|(go_at_call 65;(with_reducible refine Calls.mono (HSP.out _) ?_);rintro e w4 ⟨rfl,hw4⟩;subst hw4))
   first|(((try simp only[Exit.inBlock,Exit.then]);refine bodyPost_ret (results_cell_row rfl _ _ _ _ _ _ _ rfl (heap_alloc_new _ _) Tryz.underlying109 rfl size_res) rfl ?_);exact ⟨⟨P,9,by decide,rfl⟩,(Ext.refl w).alloc _⟩)
  ·have HL:=gd (fun w'=>hL P true w' hlt hcb)
   have hDi:¬(100:Int)<(D:Int):=by omega
   clear hR hL hcc hcb hD
   go_enter Tryz.func64,Tryz.ntmps64
   go_wp2_with (first|(refine wpList_store_row rfl 109 (.tmp 6) (.tmp 73) rfl w.heap.size _ rfl rfl _ _ (HR1.out _ hx5) size_res rfl oneR ?_)|(go_at_call 110;(have hz:=HL.out);(with_reducible refine Calls.mono (hz _) ?_);clear hz;rintro e w5 ⟨hv,hx5⟩;(obtain ⟨K9,n9,a9,x9,y9,k9,s9,A9,C9,p9,c9,q9,d9,he9⟩:=valR_cells hv);(have HV9:=gd hv);clear hv;subst he9)|(go_at_call 65;(with_reducible refine Calls.mono (HSP.out _) ?_);rintro e w4 ⟨rfl,hw4⟩;subst hw4))
   ((try simp only[Exit.inBlock,Exit.then]);refine bodyPost_ret (results_cell_row rfl _ _ _ _ _ _ _ rfl (setRow_heap _ _ _ _ _ _ (HR1.out _ hx5)) Tryz.underlying109 rfl size_res) rfl ?_)
   exact ⟨(HV9.out.keep (KF.setRow _ _ _ (by rw[size_alloc];omega))).mono (by rw[size_alloc];omega),(((Ext.refl w).alloc _).trans hx5).setRow (Nat.le_refl _) _⟩
 rw[if_neg h123] at hvg
 have n123:¬(x:Int)=123:=by omega
 by_cases hnum:x=45∨(48≤x∧x≤57)
 case neg=>
  rw[if_neg hnum] at hvg
  subst hvg
  have m45:((x:Int) !=45)=true:=by rw[bne_iff_ne];omega
  have hway:(x:Int)<48∨(¬(x:Int)<48∧57<(x:Int)):=by omega
  clear hR hL hcc hnum
  rcases hway with w1|⟨w1,w2⟩
  all_goals go_enter Tryz.func64,Tryz.ntmps64
  all_goals go_wp2_with (first|(refine wpList_store_row rfl 109 (.tmp 6) (.tmp 92) rfl w.heap.size _ rfl rfl _ _ (HR1.out _ hx5) size_res rfl oneR ?_)|(go_at_call 107;(have hz:=HW.out);(with_reducible refine Calls.mono (hz _) ?_);clear hz;rintro e w5 ⟨⟨b,x,hx0,rfl⟩,hx5⟩)|(go_at_call 65;(with_reducible refine Calls.mono (HSP.out _) ?_);rintro e w4 ⟨rfl,hw4⟩;subst hw4))
  all_goals ((try simp only[Exit.inBlock,Exit.then]);refine bodyPost_ret (results_cell_row rfl _ _ _ _ _ _ _ rfl (setRow_heap _ _ _ _ _ _ (HR1.out _ hx5)) Tryz.underlying109 rfl size_res) rfl ?_)
  all_goals exact ⟨⟨b,x,hx0,rfl⟩,(((Ext.refl w).alloc _).trans hx5).setRow (Nat.le_refl _) _⟩
 rw[if_pos hnum] at hvg
 have hPn:numeric s[P]=true:=by
  unfold numeric isDg
  rcases hnum with h|h
  ·have e:s[P]=45:=(u8_iff (n:=45) (by decide)).2 (by rw[hx];exact h)
   rw[e];rfl
  ·rw[decide_eq_true (by rw[hx];exact h)];rfl
 obtain ⟨N,hN⟩:∃N,numAt s.data.toList P=N:=⟨_,rfl⟩
 have hNle:N≤s.size:=by rw[←hN];have:=numAt_le (s:=s.data.toList) (k:=P) (by omega);rwa [data_len] at this
 have hNgt:P<N:=by
  rw[←hN,numAt_step hPl hPn]
  unfold numAt
  omega
 have hsl:=fun wx=>sliceJ_ab s P N (P:Nat) (N:Nat) rfl rfl (by omega) hNle wx
 obtain ⟨d,hd⟩:∃d,s.extract P N=d:=⟨_,rfl⟩
 have hdl:d.data.toList=(s.data.toList.drop P).takeWhile numeric:=by
  have h1:=extract_take s P (N - P)
  rw[show P+(N - P)=N by omega,hd] at h1
  rw[h1]
  have h2:N - P=((s.data.toList.drop P).takeWhile numeric).length:=by rw[←hN];unfold numAt;omega
  rw[h2]
  exact (List.prefix_iff_eq_take.1 (List.takeWhile_prefix _)).symm
 have hds:0<d.size:=by
  rw[←data_len,hdl]
  have h2:N - P=((s.data.toList.drop P).takeWhile numeric).length:=by rw[←hN];unfold numAt;omega
  omega
 have hds2:d.size≤80000000000:=by
  rw[←data_len,hdl]
  have h2:N - P=((s.data.toList.drop P).takeWhile numeric).length:=by rw[←hN];unfold numAt;omega
  omega
 rw[hd] at hsl
 rw[←hdl,hN] at hvg
 have HNU:=gd (fun w'=>jNumber_any d w' hds2 hds)
 have HN:=gd hN
 have hway:(x:Int)=45∨(((x:Int) !=45)=true∧¬(x:Int)<48∧¬57<(x:Int)):=by
  rcases hnum with h|h
  ·exact Or.inl (by omega)
  ·exact Or.inr ⟨by rw[bne_iff_ne];omega,by omega,by omega⟩
 have i3:¬s.size≤P:=by omega
 have HVG:=gd hvg
 have HNG:=gd hNgt
 clear hR hL hcc hnum hdl hds hds2 hN hd hPn hvg
 rcases hway with w1|⟨w1,w2,w3⟩
 all_goals (
  go_enter Tryz.func64,Tryz.ntmps64
  go_wp2_with (first|(go_at_call 65;(with_reducible refine Calls.mono (HSP.out _) ?_);rintro e w4 ⟨rfl,hw4⟩;subst hw4))
  go_loopw [10] (fun v wr=>∃j:Nat,P≤j∧j≤s.size∧v= .int .i64 (j:Nat)∧Hid (numAt s.data.toList j=N)∧Ext w wr∧Hid (wr.heap[w.heap.size]? =some (.cells #[.int .i64 0,.bool false,.int .i64 0,.string ⟨#[]⟩,.slice none 0 0,.slice none 0 0,.int .i64 0,.int .i64 0,.int .i64 0] 109 (0,0)))) (fun v _=>s.size - (intOf v).toNat)
  case atStart=>exact ⟨P,Nat.le_refl _,hP,rfl,HN.out,(Ext.refl w).alloc _,HR1.out _ (Ext.refl _)⟩
  case round=>
   obtain ⟨j,hj1,hj2,rfl,hnj,hxr,hrb⟩:=hrel
   by_cases hjl:j<s.size
   ·have hl:j<s.data.toList.length:=by rw[data_len];exact hjl
    have g0:(0:Int)≤(j:Int):=by omega
    have g1:(j:Int)<(s.size:Int):=by omega
    have HNM:=gd (fun w'=>numericJ_any s[j] w')
    cases hnn:numeric s[j] with
    |true=>
     rw[hnn] at HNM
     have HNX:Hid (numAt s.data.toList (j+1)=N):=(numAt_step hl hnn).symm.trans hnj.out
     clear hnn hnj
     go_wp2_with (first|(go_at_call 111;(with_reducible refine Calls.mono (HNM.out _) ?_);rintro e w4 ⟨rfl,rfl⟩))
     go_roundw
     case rel=>exact ⟨j+1,by omega,hjl,by go_num,HNX,hxr,hrb⟩
     case measure=>simp[intOf];omega
    |false=>
     rw[hnn] at HNM
     have hfin:j=N:=(numAt_stop hl hnn).symm.trans hnj.out
     clear hnn hnj
     subst hfin
     cases hnv:numV d.data.toList with
     |none=>
      rw[hnv] at HNU
      have hres:R=none:=by rw[HVG.out,hnv]
      subst hres
      clear hnv
      go_wp2_with (first|(refine wpList_store_row rfl 109 (.tmp 6) (.tmp 117) rfl w.heap.size _ rfl rfl _ _ hrb.out size_res rfl oneR ?_)|(go_at_call 112;(have hz:=HNU.out);(with_reducible refine Calls.mono (hz _) ?_);clear hz;rintro e w5 ⟨⟨y,rfl⟩,rfl⟩)|(go_at_call 111;(have hz:=HNM.out);(with_reducible refine Calls.mono (hz _) ?_);clear hz;rintro e w4 ⟨rfl,rfl⟩))
      ((try simp only[Exit.inBlock,Exit.then]);refine bodyPost_ret (results_cell_row rfl _ _ _ _ _ _ _ rfl (setRow_heap _ _ _ _ _ _ hrb.out) Tryz.underlying109 rfl size_res) rfl ?_)
      exact ⟨⟨P,15,by decide,rfl⟩,hxr.setRow (Nat.le_refl _) _⟩
     |some n=>
      rw[hnv] at HNU
      have hres:=HVG.out
      rw[hnv] at hres
      subst hres
      clear hnv
      go_wp2_with (first|(refine wpList_store_row rfl 109 (.tmp 6) (.tmp 122) rfl w.heap.size _ rfl rfl _ _ hrb.out size_res rfl oneR ?_)|(go_at_call 112;(have hz:=HNU.out);(with_reducible refine Calls.mono (hz _) ?_);clear hz;rintro e w5 ⟨hen,rfl⟩;(replace hen:e= .returned (.tuple #[.int .i64 n,.bool true]):=hen);subst hen)|(go_at_call 111;(have hz:=HNM.out);(with_reducible refine Calls.mono (hz _) ?_);clear hz;rintro e w4 ⟨rfl,rfl⟩))
      ((try simp only[Exit.inBlock,Exit.then]);refine bodyPost_ret (results_cell_row rfl _ _ _ _ _ _ _ rfl (setRow_heap _ _ _ _ _ _ hrb.out) Tryz.underlying109 rfl size_res) rfl ?_)
      exact ⟨⟨none,0,0,none,0,0,1,rfl,NJn.leaf (j:= .int P n) ⟨rfl,rfl,rfl⟩⟩,hxr.setRow (Nat.le_refl _) _⟩
   ·have g1:¬(j:Int)<(s.size:Int):=by omega
    have hfin:j=N:=(numAt_end (by rw[data_len];omega)).symm.trans hnj.out
    clear hnj
    subst hfin
    cases hnv:numV d.data.toList with
    |none=>
     rw[hnv] at HNU
     have hres:R=none:=by rw[HVG.out,hnv]
     subst hres
     clear hnv
     go_wp2_with (first|(refine wpList_store_row rfl 109 (.tmp 6) (.tmp 117) rfl w.heap.size _ rfl rfl _ _ hrb.out size_res rfl oneR ?_)|(go_at_call 112;(have hz:=HNU.out);(with_reducible refine Calls.mono (hz _) ?_);clear hz;rintro e w5 ⟨⟨y,rfl⟩,rfl⟩))
     ((try simp only[Exit.inBlock,Exit.then]);refine bodyPost_ret (results_cell_row rfl _ _ _ _ _ _ _ rfl (setRow_heap _ _ _ _ _ _ hrb.out) Tryz.underlying109 rfl size_res) rfl ?_)
     exact ⟨⟨P,15,by decide,rfl⟩,hxr.setRow (Nat.le_refl _) _⟩
    |some n=>
     rw[hnv] at HNU
     have hres:=HVG.out
     rw[hnv] at hres
     subst hres
     clear hnv
     go_wp2_with (first|(refine wpList_store_row rfl 109 (.tmp 6) (.tmp 122) rfl w.heap.size _ rfl rfl _ _ hrb.out size_res rfl oneR ?_)|(go_at_call 112;(have hz:=HNU.out);(with_reducible refine Calls.mono (hz _) ?_);clear hz;rintro e w5 ⟨hen,rfl⟩;(replace hen:e= .returned (.tuple #[.int .i64 n,.bool true]):=hen);subst hen))
     ((try simp only[Exit.inBlock,Exit.then]);refine bodyPost_ret (results_cell_row rfl _ _ _ _ _ _ _ rfl (setRow_heap _ _ _ _ _ _ hrb.out) Tryz.underlying109 rfl size_res) rfl ?_)
     exact ⟨⟨none,0,0,none,0,0,1,rfl,NJn.leaf (j:= .int P n) ⟨rfl,rfl,rfl⟩⟩,hxr.setRow (Nat.le_refl _) _⟩)
end
theorem results_cell_tmps {P:Program} {fn:Func} {p u x:Tmp} {ty:TypeId} (h:fn.results=#[.cell p ty,.tmp u,.tmp x]) (tmps:Array Value) (w:World):
 (results fn tmps).run P w=
  ((asAddr (tmps.getD p undef)).run P w).andThen fun a w₁=>((loadVar ty a).run P w₁).andThen fun v w₂=> .ok (.tuple #[v,tmps.getD u undef,tmps.getD x undef]) w₂:=by
 simp only[results,h]
 simp[Sem.run_bind,Result.andThen]
theorem results_cell_row3 {P:Program} {fn:Func} {p u x:Tmp} {ty:TypeId} (h:fn.results=#[.cell p ty,.tmp u,.tmp x]) (tmps:Array Value) (w:World) (g:Nat) (t:TypeId) (cs:Array Value) (fr:Nat×Nat) (d:TypeDesc)
 (hp:tmps.getD p undef= .pointer (some ⟨g,0,none⟩)) (hg:w.heap[g]? =some (.cells cs t fr))
 (hu:P.underlying ty=some d) (hd:(match d with| .struct _| .array _ _=>true|_=>false)=true) (hi:(P.info? ty).map (·.size)=some cs.size):
 (results fn tmps).run P w= .ok (.tuple #[.agg cs,tmps.getD u undef,tmps.getD x undef]) w:=by
 rw[results_cell_tmps h,hp]
 simp[asAddr,run_loadVar_row w g t ty cs fr d hg hu hd hi]
section
set_option linter.unusedSimpArgs false
attribute [local go_sem] calm1
theorem jval_all (s:ByteArray) (hs:s.size≤80000000000):∀(f D:Nat),f+D=101→∀(a:Nat) (w:World),a≤s.size→
 Calls Tryz.prog 64 #[.string s,.int .i64 (a:Nat),.int .i64 (D:Nat)] w fun e w'=>ValR w.heap.size w' (valP s.data.toList f a) e∧Ext w w':=by
 intro f
 induction f with
 |zero=>
  intro D hD a w ha
  exact jValue_any s a D _ w ha (Or.inl ⟨by omega,fun _ _=>rfl⟩) hs
 |succ f ih=>
  intro D hD a w ha
  have hV:ReadV s D (valP s.data.toList f):=⟨fun a w ha=>ih (D+1) (by omega) a w ha,fun a j to_ h=>by
   have h2:=(valP_ok s.data.toList f a j to_ h).2
   rw[data_len] at h2
   exact h2⟩
  refine jValue_any s a D _ w ha (Or.inr ⟨by omega,fun i b w hi hb=> ?_⟩) hs
  cases b with
  |false=>exact jArr_any s i D _ w (by omega) hi hb hV (by omega) hs
  |true=>exact jObj_any s i D _ w (by omega) hi hb hV (by omega) hs
def ParR (B n:Nat) (w':World) (o:Option JO) (e:Ending):Prop:=match o with
 |some j=>∃A p c C q d m,e= .returned (.tuple #[.agg #[.int .i64 (kindJ j:Nat),.bool (bJ j),.int .i64 (nJ j),.string (sJ j),.slice A p c,.slice C q d,.int .i64 (atJ j:Nat)],.int .i64 (n:Nat),.int .i64 0])∧NJn m B w' j (wcells (kindJ j) (bJ j) (nJ j) (sJ j) (.slice A p c) (.slice C q d) (atJ j))
 |none=>∃a x:Nat,x≠0∧e= .returned (.tuple #[.agg #[.int .i64 0,.bool false,.int .i64 0,.string ⟨#[]⟩,.slice none 0 0,.slice none 0 0,.int .i64 0],.int .i64 (a:Nat),.int .i64 (x:Nat)])
theorem oneJ {K n a:Int} {k:Bool} {s:ByteArray} {A B:Option Addr} {p c q d:Nat}:(#[Value.int .i64 K,.bool k,.int .i64 n,.string s,.slice A p c,.slice B q d,.int .i64 a]).all (fun u=>u.oneCell')=true:=by simp[Value.oneCell']
theorem jParse_at (s:ByteArray) (A0:Nat) (bom:Bool) (w:World) (hs:s.size≤80000000000) (hb:hasAt s.data.toList 0 (⟨#[239,187,191]⟩:ByteArray).data.toList=bom) (hA:A0=if bom then 3 else 0):
 Calls Tryz.prog 27 #[.string s] w fun e w'=>ParR w.heap.size s.size w' (jsonP s.data.toList) e∧Ext w w':=by
 have HH:Hid (∀w',Calls Tryz.prog 63 #[.string s,.int .i64 0,.string ⟨#[239,187,191]⟩] w' fun e w2=>e= .returned (.bool bom)∧w2=w'):=fun w'=>by
  have:=jHas_any s ⟨#[239,187,191]⟩ 0 w' (by unfold maxLen;omega) (by unfold maxLen;omega) (by unfold maxLen;decide) (by decide)
  rw[hb] at this
  exact this
 have hA2:A0≤s.size:=by
  cases bom with
  |true=>
   have:=has_lt (l:=s.data.toList) (t:= [239,187,191]) (i:=0) hb (by decide)
   rw[data_len] at this
   simp only[List.length_cons,List.length_nil] at this
   subst hA
   exact this
  |false=>subst hA;exact Nat.zero_le _
 have HV:Hid (∀w',Calls Tryz.prog 64 #[.string s,.int .i64 (if bom then 3 else 0),.int .i64 1] w' fun e w2=>ValR w'.heap.size w2 (valP s.data.toList 100 A0) e∧Ext w' w2):=fun w'=>by
  have:=jval_all s hs 100 1 rfl A0 w' hA2
  rw[hA] at this⊢
  cases bom<;>exact this
 have hj:jsonP s.data.toList=match valP s.data.toList 100 A0 with
  |some (v,to_)=>if spAt s.data.toList to_<s.data.toList.length then none else some v
  |none=>none:=by
  unfold jsonP
  rw[show hasAt s.data.toList 0 [239,187,191]=bom from hb,hA]
  rfl
 obtain ⟨R,hR⟩:∃R,jsonP s.data.toList=R:=⟨_,rfl⟩
 rw[hR] at hj⊢
 have hk1:∀w',Ext (w.alloc (.cells #[.int .i64 0,.bool false,.int .i64 0,.string ⟨#[]⟩,.slice none 0 0,.slice none 0 0,.int .i64 0] 25)) w'→w'.heap[w.heap.size]? =some (.cells #[.int .i64 0,.bool false,.int .i64 0,.string ⟨#[]⟩,.slice none 0 0,.slice none 0 0,.int .i64 0] 25 (0,0)):=fun w' hx=>hx.heap (heap_alloc_new w _)
 have HK1:=gd hk1
 clear hk1 hb hR
 cases hv:valP s.data.toList 100 A0 with
 |none=>
  rw[hv] at HV hj
  subst hj
  clear hv hA hA2
  cases bom
  all_goals go_enter Tryz.func27,Tryz.ntmps27
  all_goals go_wp2_with (first|(go_at_call 63;(have hz:=HH.out);(with_reducible refine Calls.mono (hz _) ?_);clear hz;rintro e w4 ⟨rfl,hw4⟩;subst hw4)|(go_at_call 64;(have hz:=HV.out (w.alloc (.cells #[.int .i64 0,.bool false,.int .i64 0,.string ⟨#[]⟩,.slice none 0 0,.slice none 0 0,.int .i64 0] 25)));refine Calls.mono hz ?_;clear hz;rintro e w5 ⟨⟨b,x,hx0,rfl⟩,hx5⟩;(have hx0i:((x:Int) !=0)=true:=by rw[bne_iff_ne];omega)))
  all_goals (
   have hS0:(w5.alloc (.cells #[.int .i64 0,.bool false,.int .i64 0,.string ⟨#[]⟩,.slice none 0 0,.slice none 0 0,.int .i64 0,.int .i64 (b:Nat),.int .i64 (x:Nat)] 109)).drew.heap[w5.heap.size]? =some (.cells #[.int .i64 0,.bool false,.int .i64 0,.string ⟨#[]⟩,.slice none 0 0,.slice none 0 0,.int .i64 0,.int .i64 (b:Nat),.int .i64 (x:Nat)] 109 (0,0)):=heap_alloc_new w5 _
   have hxd:Ext (w5.alloc (.cells #[.int .i64 0,.bool false,.int .i64 0,.string ⟨#[]⟩,.slice none 0 0,.slice none 0 0,.int .i64 0,.int .i64 (b:Nat),.int .i64 (x:Nat)] 109)) (w5.alloc (.cells #[.int .i64 0,.bool false,.int .i64 0,.string ⟨#[]⟩,.slice none 0 0,.slice none 0 0,.int .i64 0,.int .i64 (b:Nat),.int .i64 (x:Nat)] 109)).drew:=(Ext.refl _).drew
   have hkd:=HK1.out _ ((hx5.alloc (.cells #[.int .i64 0,.bool false,.int .i64 0,.string ⟨#[]⟩,.slice none 0 0,.slice none 0 0,.int .i64 0,.int .i64 (b:Nat),.int .i64 (x:Nat)] 109)).trans hxd)
   refine rN ?_
   change wpAny _ _ _ _ _ _ _ (World.drew _)
   refine wpAny_of_S (fun w'=>w'.heap[w5.heap.size]? =some (.cells #[.int .i64 0,.bool false,.int .i64 0,.string ⟨#[]⟩,.slice none 0 0,.slice none 0 0,.int .i64 0,.int .i64 (b:Nat),.int .i64 (x:Nat)] 109 (0,0))) ?_
   refine tG 0 (.agg #[.int .i64 0,.bool false,.int .i64 0,.string ⟨#[]⟩,.slice none 0 0,.slice none 0 0,.int .i64 0]) hS0 ?_
   refine tG 1 (.pointer (some ⟨w5.heap.size,7,none⟩)) hS0 ?_
   refine tS 2 (.int .i64 (b:Nat)) rfl (fun w' hS=>by have hq:=cell_of_row _ _ 7 _ _ _ hS;go_simp) hS0 ?_
   refine tG 3 (.pointer (some ⟨w5.heap.size,8,none⟩)) hS0 ?_
   refine tS 4 (.int .i64 (x:Nat)) rfl (fun w' hS=>by have hq:=cell_of_row _ _ 8 _ _ _ hS;go_simp) hS0 ?_
   go_simp
   refine wpAnyS_step (i:=5) rfl (by kernel_rfl) (fun K2 hK2=> ?_)
   refine step_store_row rfl 25 (.tmp 2) (.tmp 15) rfl w.heap.size #[.int .i64 0,.bool false,.int .i64 0,.string ⟨#[]⟩,.slice none 0 0,.slice none 0 0,.int .i64 0] rfl rfl _ _ hkd size_valJ rfl oneJ ?_
   have hlt5:w.heap.size<w5.heap.size:=by have:=hx5.size;rw[size_alloc] at this;omega
   have hS1:=(setRow_other _ w.heap.size w5.heap.size #[.int .i64 0,.bool false,.int .i64 0,.string ⟨#[]⟩,.slice none 0 0,.slice none 0 0,.int .i64 0] (Nat.ne_of_gt hlt5)).trans hS0
   refine hK2 _ _ hS1 ?_
   clear hK2 K2
   refine wpAnyS_step (i:=6) rfl (by kernel_rfl) (fun K2 hK2=> ?_)
   go_simp
   refine hK2 _ _ hS1 ?_
   clear hK2 K2
   refine wpAnyS_step (i:=7) rfl (by kernel_rfl) (fun K2 hK2=> ?_)
   go_simp
   refine hK2 _ _ hS1 ?_
   clear hK2 K2
   refine sE ?_
   go_wp2
   ((try simp only[Exit.inBlock,Exit.then]);refine bodyPost_ret (results_cell_row3 rfl _ _ _ _ _ _ _ rfl (setRow_heap _ _ _ _ _ _ hkd) Tryz.underlying25 rfl size_valJ) rfl ?_)
   exact ⟨⟨b,x,hx0,rfl⟩,((((Ext.refl w).alloc _).trans hx5).alloc _|>.trans hxd).setRow (Nat.le_refl _) _⟩)
 |some pr=>
  obtain ⟨j,z⟩:=pr
  have hz2:z≤s.size:=by have:=(valP_ok s.data.toList 100 A0 j z hv).2.2;rwa [data_len] at this
  rw[hv] at HV hj
  simp only[data_len] at hj
  have HSP0:=fun w'=>jSpaces_any s z w' hs hz2
  obtain ⟨Q,hQ⟩:∃Q,spAt s.data.toList z=Q:=⟨_,rfl⟩
  rw[hQ] at hj HSP0
  have HSP:=gd HSP0
  by_cases hlt:Q<s.size
  ·rw[if_pos hlt] at hj
   subst hj
   have hlti:(Q:Int)<(s.size:Int):=by omega
   clear hv hA hA2 hQ HSP0 hlt
   cases bom
   all_goals go_enter Tryz.func27,Tryz.ntmps27
   all_goals go_wp2_with (first|(refine wpList_store_row rfl 25 (.tmp 2) (.tmp 28) rfl w.heap.size _ rfl rfl _ _ HK5.out size_valJ rfl oneJ ?_)|(go_at_call 63;(have hz:=HH.out);(with_reducible refine Calls.mono (hz _) ?_);clear hz;rintro e w4 ⟨rfl,hw4⟩;subst hw4)|(go_at_call 64;(have hz:=HV.out (w.alloc (.cells #[.int .i64 0,.bool false,.int .i64 0,.string ⟨#[]⟩,.slice none 0 0,.slice none 0 0,.int .i64 0] 25)));refine Calls.mono hz ?_;clear hz;rintro e w5 ⟨⟨A,p,c,C,q,d,m,rfl,hnj⟩,hx5⟩;(have HNJ:=gd hnj);clear hnj;(have hb5:=heap_alloc_new w5 (.cells #[.int .i64 (kindJ j:Nat),.bool (bJ j),.int .i64 (nJ j),.string (sJ j),.slice A p c,.slice C q d,.int .i64 (atJ j:Nat),.int .i64 (z:Nat),.int .i64 0] 109));(have HB5:=gd hb5);(have HK5:=gd (HK1.out _ (hx5.alloc (.cells #[.int .i64 (kindJ j:Nat),.bool (bJ j),.int .i64 (nJ j),.string (sJ j),.slice A p c,.slice C q d,.int .i64 (atJ j:Nat),.int .i64 (z:Nat),.int .i64 0] 109))));(have q0:=cell_of_row _ _ 0 _ _ _ hb5);(have q1:=cell_of_row _ _ 1 _ _ _ hb5);(have q2:=cell_of_row _ _ 2 _ _ _ hb5);(have q3:=cell_of_row _ _ 3 _ _ _ hb5);(have q4:=cell_of_row _ _ 4 _ _ _ hb5);(have q5:=cell_of_row _ _ 5 _ _ _ hb5);(have q6:=cell_of_row _ _ 6 _ _ _ hb5);(have q7:=cell_of_row _ _ 7 _ _ _ hb5);(have q8:=cell_of_row _ _ 8 _ _ _ hb5);clear hb5)|(go_at_call 65;(have hz:=HSP.out);(with_reducible refine Calls.mono (hz _) ?_);clear hz;rintro e w6 ⟨rfl,hw6⟩;subst hw6))
   all_goals ((try simp only[Exit.inBlock,Exit.then]);refine bodyPost_ret (results_cell_row3 rfl _ _ _ _ _ _ _ rfl (setRow_heap _ _ _ _ _ _ HK5.out) Tryz.underlying25 rfl size_valJ) rfl ?_)
   all_goals exact ⟨⟨Q,17,by decide,rfl⟩,((((Ext.refl w).alloc _).trans hx5).alloc _).setRow (Nat.le_refl _) _⟩
  ·rw[if_neg hlt] at hj
   subst hj
   have hlti:¬(Q:Int)<(s.size:Int):=by omega
   clear hv hA hA2 hQ HSP0 hlt
   cases bom
   all_goals go_enter Tryz.func27,Tryz.ntmps27
   all_goals go_wp2_with (first|(refine wpList_store_row rfl 25 (.tmp 2) (.tmp 31) rfl w.heap.size _ rfl rfl _ _ HK5.out size_valJ rfl oneJ ?_)|(go_at_call 63;(have hz:=HH.out);(with_reducible refine Calls.mono (hz _) ?_);clear hz;rintro e w4 ⟨rfl,hw4⟩;subst hw4)|(go_at_call 64;(have hz:=HV.out (w.alloc (.cells #[.int .i64 0,.bool false,.int .i64 0,.string ⟨#[]⟩,.slice none 0 0,.slice none 0 0,.int .i64 0] 25)));refine Calls.mono hz ?_;clear hz;rintro e w5 ⟨⟨A,p,c,C,q,d,m,rfl,hnj⟩,hx5⟩;(have HNJ:=gd hnj);clear hnj;(have hb5:=heap_alloc_new w5 (.cells #[.int .i64 (kindJ j:Nat),.bool (bJ j),.int .i64 (nJ j),.string (sJ j),.slice A p c,.slice C q d,.int .i64 (atJ j:Nat),.int .i64 (z:Nat),.int .i64 0] 109));(have HB5:=gd hb5);(have HK5:=gd (HK1.out _ (hx5.alloc (.cells #[.int .i64 (kindJ j:Nat),.bool (bJ j),.int .i64 (nJ j),.string (sJ j),.slice A p c,.slice C q d,.int .i64 (atJ j:Nat),.int .i64 (z:Nat),.int .i64 0] 109))));(have q0:=cell_of_row _ _ 0 _ _ _ hb5);(have q1:=cell_of_row _ _ 1 _ _ _ hb5);(have q2:=cell_of_row _ _ 2 _ _ _ hb5);(have q3:=cell_of_row _ _ 3 _ _ _ hb5);(have q4:=cell_of_row _ _ 4 _ _ _ hb5);(have q5:=cell_of_row _ _ 5 _ _ _ hb5);(have q6:=cell_of_row _ _ 6 _ _ _ hb5);(have q7:=cell_of_row _ _ 7 _ _ _ hb5);(have q8:=cell_of_row _ _ 8 _ _ _ hb5);clear hb5)|(go_at_call 65;(have hz:=HSP.out);(with_reducible refine Calls.mono (hz _) ?_);clear hz;rintro e w6 ⟨rfl,hw6⟩;subst hw6))
   all_goals ((try simp only[Exit.inBlock,Exit.then]);refine bodyPost_ret (results_cell_row3 rfl _ _ _ _ _ _ _ rfl (setRow_heap _ _ _ _ _ _ HK5.out) Tryz.underlying25 rfl size_valJ) rfl ?_)
   all_goals exact ⟨⟨A,p,c,C,q,d,m,rfl,((HNJ.out.keep (KF.of ((Ext.refl _).alloc _))).keep (KF.setRow _ _ _ (by rw[size_alloc];omega))).mono (by rw[size_alloc];omega)⟩,((((Ext.refl w).alloc _).trans hx5).alloc _).setRow (Nat.le_refl _) _⟩
theorem jParse_any (s:ByteArray) (w:World) (hs:s.size≤80000000000):
 Calls Tryz.prog 27 #[.string s] w fun e w'=>ParR w.heap.size s.size w' (jsonP s.data.toList) e∧Ext w w':=
 jParse_at s _ _ w hs rfl rfl
end
section
theorem collGo_len1:∀(l out:List UInt8) (g:Bool),(collGo l out g).length≤out.length+l.length+(if g=true then 1 else 0)
 | [],out,g=>by simp only[collGo,List.length_nil];omega
 |c::t,out,g=>by
  simp only[collGo]
  by_cases h:isSp c.toNat=true
  ·rw[if_pos h]
   have:=collGo_len1 t out (!out.isEmpty)
   rw[List.length_cons]
   split at this<;>omega
  ·rw[if_neg h]
   have:=collGo_len1 t (out++(if g=true then [32] else [])++ [c]) false
   simp only[Bool.false_eq_true,if_false,List.length_append,List.length_cons,List.length_nil] at this
   rw[List.length_cons]
   cases g
   ·simp only[Bool.false_eq_true,if_false,List.length_nil] at this⊢;omega
   ·simp only[if_true,List.length_cons,List.length_nil] at this⊢;omega
theorem collapse_size (s:ByteArray):(collapse s).size≤s.size:=by
 unfold collapse coll
 rw[str_size]
 have:=collGo_len1 s.data.toList [] false
 simp only[Bool.false_eq_true,if_false,List.length_nil] at this
 rw[data_len] at this
 omega
theorem eok_coll {e:Ent} (h:eok e):eok (collE e):=by
 obtain ⟨h1,h2⟩:=h
 refine ⟨h1,?_⟩
 have a:=collapse_size e.id
 have b:=collapse_size e.title
 have c:=collapse_size e.link
 have d:=collapse_size e.content
 show (collapse e.id).size+(collapse e.title).size+(collapse e.link).size+(collapse e.content).size≤16777216
 omega
section
variable {α κ:Type} (O:Ord α κ)
end
section
variable {α κ:Type} [DecidableEq κ] (O:Ord α κ)
end
def fokS (f:Fd):Prop:=fok f∧f.ents.length≤1000000∧∀e∈f.ents,eok e
end
end Go.Proofs.YthlnaldahkgjnaaGreatDoor
