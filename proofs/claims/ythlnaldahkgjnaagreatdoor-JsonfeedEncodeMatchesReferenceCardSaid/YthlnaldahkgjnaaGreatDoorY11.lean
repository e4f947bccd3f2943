/- Parts of the proof: contracts and plain laws. -/
import Derived.Test.YthlnaldahkgjnaaGreatDoorY10
namespace Go.Proofs.YthlnaldahkgjnaaGreatDoor
open Go Go.RowKit
set_option linter.unusedVariables false
set_option linter.unusedSimpArgs false
set_option maxRecDepth 100000
set_option maxHeartbeats 16000000
section
set_option linter.unusedSimpArgs false
attribute [local go_sem] calm1
theorem numAt_step {s:List UInt8} {k:Nat} (h:k<s.length) (hp:numeric s[k]=true):numAt s k=numAt s (k+1):=by
 unfold numAt
 rw[List.drop_eq_getElem_cons h,List.takeWhile_cons,hp]
 simp only[if_true,List.length_cons]
 omega
theorem numAt_stop {s:List UInt8} {k:Nat} (h:k<s.length) (hp:numeric s[k]=false):numAt s k=k:=by
 unfold numAt
 rw[List.drop_eq_getElem_cons h,List.takeWhile_cons,hp]
 rfl
theorem numAt_end {s:List UInt8} {k:Nat} (h:s.length≤k):numAt s k=k:=by
 unfold numAt
 rw[List.drop_of_length_le h]
 rfl
theorem numAt_le {s:List UInt8} {k:Nat} (h:k≤s.length):numAt s k≤s.length:=by
 unfold numAt
 have:=(List.takeWhile_sublist numeric (l:=s.drop k)).length_le
 rw[List.length_drop] at this
 omega
theorem valG_at {l:List UInt8} {L:Nat→Bool→Option (JO×Nat)} {i:Nat} {c:UInt8} (hc:l[i]? =some c):valG l L i=
 if c.toNat=110 then (if hasAt l i [110,117,108,108] then some (.null i,i+4) else none)
 else if c.toNat=116 then (if hasAt l i [116,114,117,101] then some (.bool i true,i+4) else none)
 else if c.toNat=102 then (if hasAt l i [102,97,108,115,101] then some (.bool i false,i+5) else none)
 else if c.toNat=34 then (match strP l i with
  |some (t,to_)=>some (.str i (str t),to_)
  |none=>none)
 else if c.toNat=91 then L i false
 else if c.toNat=123 then L i true
 else if c.toNat=45∨(48≤c.toNat∧c.toNat≤57) then (match numV ((l.drop i).takeWhile numeric) with
  |some n=>some (.int i n,numAt l i)
  |none=>none)
 else none:=by
 have e:∀n:Nat,n<256→(c=UInt8.ofNat n↔c.toNat=n):=fun n hn=>u8_iff hn
 have h110:c=110↔c.toNat=110:=e 110 (by decide)
 have h116:c=116↔c.toNat=116:=e 116 (by decide)
 have h102:c=102↔c.toNat=102:=e 102 (by decide)
 have h34:c=34↔c.toNat=34:=e 34 (by decide)
 have h91:c=91↔c.toNat=91:=e 91 (by decide)
 have h123:c=123↔c.toNat=123:=e 123 (by decide)
 have h45:c=45↔c.toNat=45:=e 45 (by decide)
 have hd:isDg c=true↔(48≤c.toNat∧c.toNat≤57):=by unfold isDg;rw[decide_eq_true_iff]
 unfold valG
 rw[hc]
 simp only[h110,h116,h102,h34,h91,h123,h45,hd]
 repeat' split
 all_goals first|rfl|simp_all
theorem valR_cells {B:Nat} {w':World} {o:Option (JO×Nat)} {e:Ending} (h:ValR B w' o e):∃(K n a x y:Int) (k:Bool) (s:ByteArray) (A C:Option Addr) (p c q d:Nat),e= .returned (.agg #[.int .i64 K,.bool k,.int .i64 n,.string s,.slice A p c,.slice C q d,.int .i64 a,.int .i64 x,.int .i64 y]):=by
 cases o with
 |none=>
  obtain ⟨a,x,hx,rfl⟩:=h
  exact ⟨_,_,_,_,_,_,_,_,_,_,_,_,_,rfl⟩
 |some p=>
  obtain ⟨A,a,c,C,q,d,n,rfl, -⟩:=h
  exact ⟨_,_,_,_,_,_,_,_,_,_,_,_,_,rfl⟩
theorem ValR.keep {B:Nat} {w' w2:World} {o:Option (JO×Nat)} {e:Ending} (h:ValR B w' o e) (k:KF B w' w2):ValR B w2 o e:=by
 cases o with
 |none=>exact h
 |some p=>
  obtain ⟨A,a,c,C,q,d,n,h1,h2⟩:=h
  exact ⟨A,a,c,C,q,d,n,h1,h2.keep k⟩
def ReadL (s:ByteArray) (D:Nat) (L:Nat→Bool→Option (JO×Nat)):Prop:=
 (100<D∧∀i b,L i b=none)∨(D≤100∧∀(i:Nat) (b:Bool) (w:World),i<s.size→s.data.toList[i]? =some (if b then 123 else 91)→
  Calls Tryz.prog 110 #[.string s,.int .i64 (i:Nat),.int .i64 (D:Nat)] w fun e w'=>ValR w.heap.size w' (L i b) e∧Ext w w')
theorem jValue_any (s:ByteArray) (a D:Nat) (L:Nat→Bool→Option (JO×Nat)) (w:World) (ha:a≤s.size) (hL:ReadL s D L) (hs:s.size≤80000000000):
 Calls Tryz.prog 64 #[.string s,.int .i64 (a:Nat),.int .i64 (D:Nat)] w fun e w'=>ValR w.heap.size w' (valG s.data.toList L (spAt s.data.toList a)) e∧Ext w w':=by
 have HSP:=gd (fun w'=>jSpaces_any s a w' hs ha)
 have hP:spAt s.data.toList a≤s.size:=by have:=spAt_le (s:=s.data.toList) (k:=a) (by rw[data_len];exact ha);rwa [data_len] at this
 obtain ⟨P,hPe⟩:∃P,spAt s.data.toList a=P:=⟨_,rfl⟩
 rw[hPe] at HSP hP⊢
 have HW:=gd (fun w'=>jWrong_any s P w')
 have hr1:∀w',Ext (w.alloc (.cells #[.int .i64 0,.bool false,.int .i64 0,.string ⟨#[]⟩,.slice none 0 0,.slice none 0 0,.int .i64 0,.int .i64 0,.int .i64 0] 109)) w'→w'.heap[w.heap.size]? =some (.cells #[.int .i64 0,.bool false,.int .i64 0,.string ⟨#[]⟩,.slice none 0 0,.slice none 0 0,.int .i64 0,.int .i64 0,.int .i64 0] 109 (0,0)):=fun w' hx=>hx.heap (heap_alloc_new w _)
 have HR1:=gd hr1
 obtain ⟨R,hR⟩:∃R,valG s.data.toList L P=R:=⟨_,rfl⟩
 rw[hR]
 clear hr1 hPe
 by_cases hlt:P<s.size
 case neg=>
  have hn:R=none:=by
   rw[←hR]
   unfold valG
   rw[List.getElem?_eq_none (by rw[data_len];omega)]
  subst hn
  have h1:(s.size:Int)≤(P:Int):=by omega
  clear hR hL hlt
  go_enter Tryz.func64,Tryz.ntmps64
  go_wp2_with (first|(refine wpList_store_row rfl 109 (.tmp 6) (.tmp 22) rfl w.heap.size _ rfl rfl _ _ (HR1.out _ hx5) size_res rfl oneR ?_)|(go_at_call 107;(have hz:=HW.out);(with_reducible refine Calls.mono (hz _) ?_);clear hz;rintro e w5 ⟨⟨b,x,hx0,rfl⟩,hx5⟩)|(go_at_call 65;(with_reducible refine Calls.mono (HSP.out _) ?_);rintro e w4 ⟨rfl,hw4⟩;subst hw4))
  ((try simp only[Exit.inBlock,Exit.then]);refine bodyPost_ret (results_cell_row rfl _ _ _ _ _ _ _ rfl (setRow_heap _ _ _ _ _ _ (HR1.out _ hx5)) Tryz.underlying109 rfl size_res) rfl ?_)
  exact ⟨⟨b,x,hx0,rfl⟩,(((Ext.refl w).alloc _).trans hx5).setRow (Nat.le_refl _) _⟩
 have hPl:P<s.data.toList.length:=by rw[data_len];exact hlt
 have hcc:s.data.toList[P]? =some s[P]:=List.getElem?_eq_getElem hPl
 have hvg:=valG_at (L:=L) hcc
 rw[hR] at hvg
 obtain ⟨x,hx⟩:∃x,s[P].toNat=x:=⟨_,rfl⟩
 rw[hx] at hvg
 have hxi:(s[P].toNat:Int)=(x:Int):=by rw[hx]
 have i0:(0:Int)≤(P:Int):=by omega
 have i1:(P:Int)<(s.size:Int):=by omega
 have i2:¬(s.size:Int)≤(P:Int):=by omega
 by_cases h110:x=110
 ·subst h110
  rw[if_pos rfl] at hvg
  have HWD:=gd (fun w'=>jWord_any s ⟨#[110,117,108,108]⟩ P 0 false w' hs hP (by decide) (by decide))
  cases hh:hasAt s.data.toList P (⟨#[110,117,108,108]⟩:ByteArray).data.toList with
  |true=>
   rw[hh] at HWD
   rw[if_pos (show hasAt s.data.toList P [110,117,108,108]=true from hh)] at hvg
   subst hvg
   clear hR hL hcc hh
   go_enter Tryz.func64,Tryz.ntmps64
   go_wp2_with (first|(refine wpList_store_row rfl 109 (.tmp 6) (.tmp 31) rfl w.heap.size _ rfl rfl _ _ (HR1.out _ hx5) size_res rfl oneR ?_)|(go_at_call 108;(have hz:=HWD.out);(with_reducible refine Calls.mono (hz _) ?_);clear hz;rintro e w5 ⟨hwr,hx5⟩;(replace hwr:e= .returned (.agg #[.int .i64 0,.bool false,.int .i64 0,.string ⟨#[]⟩,.slice none 0 0,.slice none 0 0,.int .i64 (P:Nat),.int .i64 ((P+(⟨#[110,117,108,108]⟩:ByteArray).size:Nat):Int),.int .i64 0]):=hwr);subst hwr)|(go_at_call 65;(with_reducible refine Calls.mono (HSP.out _) ?_);rintro e w4 ⟨rfl,hw4⟩;subst hw4))
   ((try simp only[Exit.inBlock,Exit.then]);refine bodyPost_ret (results_cell_row rfl _ _ _ _ _ _ _ rfl (setRow_heap _ _ _ _ _ _ (HR1.out _ hx5)) Tryz.underlying109 rfl size_res) rfl ?_)
   exact ⟨⟨none,0,0,none,0,0,1,rfl,NJn.leaf (j:= .null P) ⟨rfl,rfl,rfl⟩⟩,(((Ext.refl w).alloc _).trans hx5).setRow (Nat.le_refl _) _⟩
  |false=>
   rw[hh] at HWD
   rw[if_neg (show ¬hasAt s.data.toList P [110,117,108,108]=true by rw[show hasAt s.data.toList P [110,117,108,108]=false from hh];decide)] at hvg
   subst hvg
   clear hR hL hcc hh
   go_enter Tryz.func64,Tryz.ntmps64
   go_wp2_with (first|(refine wpList_store_row rfl 109 (.tmp 6) (.tmp 31) rfl w.heap.size _ rfl rfl _ _ (HR1.out _ hx5) size_res rfl oneR ?_)|(go_at_call 108;(have hz:=HWD.out);(with_reducible refine Calls.mono (hz _) ?_);clear hz;rintro e w5 ⟨⟨b,x,hx0,rfl⟩,hx5⟩)|(go_at_call 65;(with_reducible refine Calls.mono (HSP.out _) ?_);rintro e w4 ⟨rfl,hw4⟩;subst hw4))
   ((try simp only[Exit.inBlock,Exit.then]);refine bodyPost_ret (results_cell_row rfl _ _ _ _ _ _ _ rfl (setRow_heap _ _ _ _ _ _ (HR1.out _ hx5)) Tryz.underlying109 rfl size_res) rfl ?_)
   exact ⟨⟨b,x,hx0,rfl⟩,(((Ext.refl w).alloc _).trans hx5).setRow (Nat.le_refl _) _⟩
 rw[if_neg h110] at hvg
 have n110:¬(x:Int)=110:=by omega
 by_cases h116:x=116
 ·subst h116
  rw[if_pos rfl] at hvg
  have HWD:=gd (fun w'=>jWord_any s ⟨#[116,114,117,101]⟩ P 1 true w' hs hP (by decide) (by decide))
  cases hh:hasAt s.data.toList P (⟨#[116,114,117,101]⟩:ByteArray).data.toList with
  |true=>
   rw[hh] at HWD
   rw[if_pos (show hasAt s.data.toList P [116,114,117,101]=true from hh)] at hvg
   subst hvg
   clear hR hL hcc hh
   go_enter Tryz.func64,Tryz.ntmps64
   go_wp2_with (first|(refine wpList_store_row rfl 109 (.tmp 6) (.tmp 37) rfl w.heap.size _ rfl rfl _ _ (HR1.out _ hx5) size_res rfl oneR ?_)|(go_at_call 108;(have hz:=HWD.out);(with_reducible refine Calls.mono (hz _) ?_);clear hz;rintro e w5 ⟨hwr,hx5⟩;(replace hwr:e= .returned (.agg #[.int .i64 1,.bool true,.int .i64 0,.string ⟨#[]⟩,.slice none 0 0,.slice none 0 0,.int .i64 (P:Nat),.int .i64 ((P+(⟨#[116,114,117,101]⟩:ByteArray).size:Nat):Int),.int .i64 0]):=hwr);subst hwr)|(go_at_call 65;(with_reducible refine Calls.mono (HSP.out _) ?_);rintro e w4 ⟨rfl,hw4⟩;subst hw4))
   ((try simp only[Exit.inBlock,Exit.then]);refine bodyPost_ret (results_cell_row rfl _ _ _ _ _ _ _ rfl (setRow_heap _ _ _ _ _ _ (HR1.out _ hx5)) Tryz.underlying109 rfl size_res) rfl ?_)
   exact ⟨⟨none,0,0,none,0,0,1,rfl,NJn.leaf (j:= .bool P true) ⟨rfl,rfl,rfl⟩⟩,(((Ext.refl w).alloc _).trans hx5).setRow (Nat.le_refl _) _⟩
  |false=>
   rw[hh] at HWD
   rw[if_neg (show ¬hasAt s.data.toList P [116,114,117,101]=true by rw[show hasAt s.data.toList P [116,114,117,101]=false from hh];decide)] at hvg
   subst hvg
   clear hR hL hcc hh
   go_enter Tryz.func64,Tryz.ntmps64
   go_wp2_with (first|(refine wpList_store_row rfl 109 (.tmp 6) (.tmp 37) rfl w.heap.size _ rfl rfl _ _ (HR1.out _ hx5) size_res rfl oneR ?_)|(go_at_call 108;(have hz:=HWD.out);(with_reducible refine Calls.mono (hz _) ?_);clear hz;rintro e w5 ⟨⟨b,x,hx0,rfl⟩,hx5⟩)|(go_at_call 65;(with_reducible refine Calls.mono (HSP.out _) ?_);rintro e w4 ⟨rfl,hw4⟩;subst hw4))
   ((try simp only[Exit.inBlock,Exit.then]);refine bodyPost_ret (results_cell_row rfl _ _ _ _ _ _ _ rfl (setRow_heap _ _ _ _ _ _ (HR1.out _ hx5)) Tryz.underlying109 rfl size_res) rfl ?_)
   exact ⟨⟨b,x,hx0,rfl⟩,(((Ext.refl w).alloc _).trans hx5).setRow (Nat.le_refl _) _⟩
 rw[if_neg h116] at hvg
 have n116:¬(x:Int)=116:=by omega
 by_cases h102:x=102
 ·subst h102
  rw[if_pos rfl] at hvg
  have HWD:=gd (fun w'=>jWord_any s ⟨#[102,97,108,115,101]⟩ P 1 false w' hs hP (by decide) (by decide))
  cases hh:hasAt s.data.toList P (⟨#[102,97,108,115,101]⟩:ByteArray).data.toList with
  |true=>
   rw[hh] at HWD
   rw[if_pos (show hasAt s.data.toList P [102,97,108,115,101]=true from hh)] at hvg
   subst hvg
   clear hR hL hcc hh
   go_enter Tryz.func64,Tryz.ntmps64
   go_wp2_with (first|(refine wpList_store_row rfl 109 (.tmp 6) (.tmp 43) rfl w.heap.size _ rfl rfl _ _ (HR1.out _ hx5) size_res rfl oneR ?_)|(go_at_call 108;(have hz:=HWD.out);(with_reducible refine Calls.mono (hz _) ?_);clear hz;rintro e w5 ⟨hwr,hx5⟩;(replace hwr:e= .returned (.agg #[.int .i64 1,.bool false,.int .i64 0,.string ⟨#[]⟩,.slice none 0 0,.slice none 0 0,.int .i64 (P:Nat),.int .i64 ((P+(⟨#[102,97,108,115,101]⟩:ByteArray).size:Nat):Int),.int .i64 0]):=hwr);subst hwr)|(go_at_call 65;(with_reducible refine Calls.mono (HSP.out _) ?_);rintro e w4 ⟨rfl,hw4⟩;subst hw4))
   ((try simp only[Exit.inBlock,Exit.then]);refine bodyPost_ret (results_cell_row rfl _ _ _ _ _ _ _ rfl (setRow_heap _ _ _ _ _ _ (HR1.out _ hx5)) Tryz.underlying109 rfl size_res) rfl ?_)
   exact ⟨⟨none,0,0,none,0,0,1,rfl,NJn.leaf (j:= .bool P false) ⟨rfl,rfl,rfl⟩⟩,(((Ext.refl w).alloc _).trans hx5).setRow (Nat.le_refl _) _⟩
  |false=>
   rw[hh] at HWD
   rw[if_neg (show ¬hasAt s.data.toList P [102,97,108,115,101]=true by rw[show hasAt s.data.toList P [102,97,108,115,101]=false from hh];decide)] at hvg
   subst hvg
   clear hR hL hcc hh
   go_enter Tryz.func64,Tryz.ntmps64
   go_wp2_with (first|(refine wpList_store_row rfl 109 (.tmp 6) (.tmp 43) rfl w.heap.size _ rfl rfl _ _ (HR1.out _ hx5) size_res rfl oneR ?_)|(go_at_call 108;(have hz:=HWD.out);(with_reducible refine Calls.mono (hz _) ?_);clear hz;rintro e w5 ⟨⟨b,x,hx0,rfl⟩,hx5⟩)|(go_at_call 65;(with_reducible refine Calls.mono (HSP.out _) ?_);rintro e w4 ⟨rfl,hw4⟩;subst hw4))
   ((try simp only[Exit.inBlock,Exit.then]);refine bodyPost_ret (results_cell_row rfl _ _ _ _ _ _ _ rfl (setRow_heap _ _ _ _ _ _ (HR1.out _ hx5)) Tryz.underlying109 rfl size_res) rfl ?_)
   exact ⟨⟨b,x,hx0,rfl⟩,(((Ext.refl w).alloc _).trans hx5).setRow (Nat.le_refl _) _⟩
 rw[if_neg h102] at hvg
 have n102:¬(x:Int)=102:=by omega
 by_cases h34:x=34
 ·subst h34
  rw[if_pos rfl] at hvg
  have hc34:s.data.toList[P]? =some 34:=by rw[hcc];exact congrArg some ((u8_iff (n:=34) (by decide)).2 hx)
  have HSR:=gd (fun w'=>refStrP_any s P w' hs hlt hc34)
  cases hst:strP s.data.toList P with
  |none=>
   rw[hst] at HSR hvg
   subst hvg
   clear hR hL hcc hc34 hst
   go_enter Tryz.func64,Tryz.ntmps64
   go_wp2_with (first|(refine wpList_store_row rfl 109 (.tmp 6) (.tmp 57) rfl w.heap.size _ rfl rfl _ _ (HR1.out _ hx5) size_res rfl oneR ?_)|(go_at_call 109;(have hz:=HSR.out);(with_reducible refine Calls.mono (hz _) ?_);clear hz;rintro e w5 ⟨⟨b,x,hx0,rfl⟩,hx5⟩;(have hx0i:((x:Int) !=0)=true:=by rw[bne_iff_ne];omega))|(go_at_call 65;(with_reducible refine Calls.mono (HSP.out _) ?_);rintro e w4 ⟨rfl,hw4⟩;subst hw4))
   ((try simp only[Exit.inBlock,Exit.then]);refine bodyPost_ret (results_cell_row rfl _ _ _ _ _ _ _ rfl (setRow_heap _ _ _ _ _ _ (HR1.out _ hx5)) Tryz.underlying109 rfl size_res) rfl ?_)
   exact ⟨⟨b,x,hx0,rfl⟩,(((Ext.refl w).alloc _).trans hx5).setRow (Nat.le_refl _) _⟩
  |some p=>
   obtain ⟨t,z⟩:=p
   rw[hst] at HSR hvg
   subst hvg
   clear hR hL hcc hc34 hst
   go_enter Tryz.func64,Tryz.ntmps64
   go_wp2_with (first|(refine wpList_store_row rfl 109 (.tmp 6) (.tmp 62) rfl w.heap.size _ rfl rfl _ _ (HR1.out _ hx5) size_res rfl oneR ?_)|(go_at_call 109;(have hz:=HSR.out);(with_reducible refine Calls.mono (hz _) ?_);clear hz;rintro e w5 ⟨he,hx5⟩;(replace he:e= .returned (.tuple #[.string (str t),.int .i64 (z:Nat),.int .i64 0]):=he);subst he)|(go_at_call 65;(with_reducible refine Calls.mono (HSP.out _) ?_);rintro e w4 ⟨rfl,hw4⟩;subst hw4))
   ((try simp only[Exit.inBlock,Exit.then]);refine bodyPost_ret (results_cell_row rfl _ _ _ _ _ _ _ rfl (setRow_heap _ _ _ _ _ _ (HR1.out _ hx5)) Tryz.underlying109 rfl size_res) rfl ?_)
   exact ⟨⟨none,0,0,none,0,0,1,rfl,NJn.leaf (j:= .str P (str t)) ⟨rfl,rfl,rfl⟩⟩,(((Ext.refl w).alloc _).trans hx5).setRow (Nat.le_refl _) _⟩
 rw[if_neg h34] at hvg
 have n34:¬(x:Int)=34:=by omega
 by_cases h91:x=91
 ·subst h91
  rw[if_pos rfl] at hvg
  subst hvg
  have hcb:s.data.toList[P]? =some (if false then 123 else 91):=by rw[hcc];exact congrArg some ((u8_iff (n:=91) (by decide)).2 hx)
  rcases hL with ⟨hD,hL⟩|⟨hD,hL⟩
  ·rw[hL P false]
   have hDi:(100:Int)<(D:Int):=by omega
   clear hR hL hcc hcb hD
   go_enter Tryz.func64,Tryz.ntmps64
   go_wp2_with (first|(go_at_call 65;(with_reducible refine Calls.mono (HSP.out _) ?_);rintro e w4 ⟨rfl,hw4⟩;subst hw4))
   first|(((try simp only[Exit.inBlock,Exit.then]);refine bodyPost_ret (results_cell_row rfl _ _ _ _ _ _ _ rfl (heap_alloc_new _ _) Tryz.underlying109 rfl size_res) rfl ?_);exact ⟨⟨P,9,by decide,rfl⟩,(Ext.refl w).alloc _⟩)
  ·have HL:=gd (fun w'=>hL P false w' hlt hcb)
   have hDi:¬(100:Int)<(D:Int):=by omega
   clear hR hL hcc hcb hD
   go_enter Tryz.func64,Tryz.ntmps64
   go_wp2_with (first|(refine wpList_store_row rfl 109 (.tmp 6) (.tmp 73) rfl w.heap.size _ rfl rfl _ _ (HR1.out _ hx5) size_res rfl oneR ?_)|(go_at_call 110;(have hz:=HL.out);(with_reducible refine Calls.mono (hz _) ?_);clear hz;rintro e w5 ⟨hv,hx5⟩;(obtain ⟨K9,n9,a9,x9,y9,k9,s9,A9,C9,p9,c9,q9,d9,he9⟩:=valR_cells hv);(have HV9:=gd hv);clear hv;subst he9)|(go_at_call 65;(with_reducible refine Calls.mono (HSP.out _) ?_);rintro e w4 ⟨rfl,hw4⟩;subst hw4))
   ((try simp only[Exit.inBlock,Exit.then]);refine bodyPost_ret (results_cell_row rfl _ _ _ _ _ _ _ rfl (setRow_heap _ _ _ _ _ _ (HR1.out _ hx5)) Tryz.underlying109 rfl size_res) rfl ?_)
   exact ⟨(HV9.out.keep (KF.setRow _ _ _ (by rw[size_alloc];omega))).mono (by rw[size_alloc];omega),(((Ext.refl w).alloc _).trans hx5).setRow (Nat.le_refl _) _⟩
 rw[if_neg h91] at hvg
 have n91:¬(x:Int)=91:=by omega
 by_cases h123:x=123
 ·subst h123
  rw[if_pos rfl] at hvg
  subst hvg
  have hcb:s.data.toList[P]? =some (if true then 123 else 91):=by rw[hcc];exact congrArg some ((u8_iff (n:=123) (by decide)).2 hx)
  rcases hL with ⟨hD,hL⟩|⟨hD,hL⟩
  ·rw[hL P true]
   have hDi:(100:Int)<(D:Int):=by omega
   clear hR hL hcc hcb hD
   go_enter Tryz.func64,Tryz.ntmps64
   go_wp2_with (first|(go_at_call 65;(with_reducible refine Calls.mono (HSP.out _) ?_);rintro e w4 ⟨rfl,hw4⟩;subst hw4))
   first|(((try simp only[Exit.inBlock,Exit.then]);refine bodyPost_ret (results_cell_row rfl _ _ _ _ _ _ _ rfl (heap_alloc_new _ _) Tryz.underlying109 rfl size_res) rfl ?_);exact ⟨⟨P,9,by decide,rfl⟩,(Ext.refl w).alloc _⟩)
  ·have HL:=gd (fun w'=>hL P true w' hlt hcb)
   have hDi:¬(100:Int)<(D:Int):=by omega
   clear hR hL hcc hcb hD
   go_enter Tryz.func64,Tryz.ntmps64
   go_wp2_with (first|(refine wpList_store_row rfl 109 (.tmp 6) (.tmp 73) rfl w.heap.size _ rfl rfl _ _ (HR1.out _ hx5) size_res rfl oneR ?_)|(go_at_call 110;(have hz:=HL.out);(with_reducible refine Calls.mono (hz _) ?_);clear hz;rintro e w5 ⟨hv,hx5⟩;(obtain ⟨K9,n9,a9,x9,y9,k9,s9,A9,C9,p9,c9,q9,d9,he9⟩:=valR_cells hv);(have HV9:=gd hv);clear hv;subst he9)|(go_at_call 65;(with_reducible refine Calls.mono (HSP.out _) ?_);rintro e w4 ⟨rfl,hw4⟩;subst hw4))
   ((try simp only[Exit.inBlock,Exit.then]);refine bodyPost_ret (results_cell_row rfl _ _ _ _ _ _ _ rfl (setRow_heap _ _ _ _ _ _ (HR1.out _ hx5)) Tryz.underlying109 rfl size_res) rfl ?_)
   exact ⟨(HV9.out.keep (KF.setRow _ _ _ (by rw[size_alloc];omega))).mono (by rw[size_alloc];omega),(((Ext.refl w).alloc _).trans hx5).setRow (Nat.le_refl _) _⟩
 rw[if_neg h123] at hvg
 have n123:¬(x:Int)=123:=by omega
 by_cases hnum:x=45∨(48≤x∧x≤57)
 case neg=>
  rw[if_neg hnum] at hvg
  subst hvg
  have m45:((x:Int) !=45)=true:=by rw[bne_iff_ne];omega
  have hway:(x:Int)<48∨(¬(x:Int)<48∧57<(x:Int)):=by omega
  clear hR hL hcc hnum
  rcases hway with w1|⟨w1,w2⟩
  all_goals go_enter Tryz.func64,Tryz.ntmps64
  all_goals go_wp2_with (first|(refine wpList_store_row rfl 109 (.tmp 6) (.tmp 92) rfl w.heap.size _ rfl rfl _ _ (HR1.out _ hx5) size_res rfl oneR ?_)|(go_at_call 107;(have hz:=HW.out);(with_reducible refine Calls.mono (hz _) ?_);clear hz;rintro e w5 ⟨⟨b,x,hx0,rfl⟩,hx5⟩)|(go_at_call 65;(with_reducible refine Calls.mono (HSP.out _) ?_);rintro e w4 ⟨rfl,hw4⟩;subst hw4))
  all_goals ((try simp only[Exit.inBlock,Exit.then]);refine bodyPost_ret (results_cell_row rfl _ _ _ _ _ _ _ rfl (setRow_heap _ _ _ _ _ _ (HR1.out _ hx5)) Tryz.underlying109 rfl size_res) rfl ?_)
  all_goals exact ⟨⟨b,x,hx0,rfl⟩,(((Ext.refl w).alloc _).trans hx5).setRow (Nat.le_refl _) _⟩
 rw[if_pos hnum] at hvg
 have hPn:numeric s[P]=true:=by
  unfold numeric isDg
  rcases hnum with h|h
  ·have e:s[P]=45:=(u8_iff (n:=45) (by decide)).2 (by rw[hx];exact h)
   rw[e];rfl
  ·rw[decide_eq_true (by rw[hx];exact h)];rfl
 obtain ⟨N,hN⟩:∃N,numAt s.data.toList P=N:=⟨_,rfl⟩
 have hNle:N≤s.size:=by rw[←hN];have:=numAt_le (s:=s.data.toList) (k:=P) (by omega);rwa [data_len] at this
 have hNgt:P<N:=by
  rw[←hN,numAt_step hPl hPn]
  unfold numAt
  omega
 have hsl:=fun wx=>sliceJ_ab s P N (P:Nat) (N:Nat) rfl rfl (by omega) hNle wx
 obtain ⟨d,hd⟩:∃d,s.extract P N=d:=⟨_,rfl⟩
 have hdl:d.data.toList=(s.data.toList.drop P).takeWhile numeric:=by
  have h1:=extract_take s P (N - P)
  rw[show P+(N - P)=N by omega,hd] at h1
  rw[h1]
  have h2:N - P=((s.data.toList.drop P).takeWhile numeric).length:=by rw[←hN];unfold numAt;omega
  rw[h2]
  exact (List.prefix_iff_eq_take.1 (List.takeWhile_prefix _)).symm
 have hds:0<d.size:=by
  rw[←data_len,hdl]
  have h2:N - P=((s.data.toList.drop P).takeWhile numeric).length:=by rw[←hN];unfold numAt;omega
  omega
 have hds2:d.size≤80000000000:=by
  rw[←data_len,hdl]
  have h2:N - P=((s.data.toList.drop P).takeWhile numeric).length:=by rw[←hN];unfold numAt;omega
  omega
 rw[hd] at hsl
 rw[←hdl,hN] at hvg
 have HNU:=gd (fun w'=>jNumber_any d w' hds2 hds)
 have HN:=gd hN
 have hway:(x:Int)=45∨(((x:Int) !=45)=true∧¬(x:Int)<48∧¬57<(x:Int)):=by
  rcases hnum with h|h
  ·exact Or.inl (by omega)
  ·exact Or.inr ⟨by rw[bne_iff_ne];omega,by omega,by omega⟩
 have i3:¬s.size≤P:=by omega
 have HVG:=gd hvg
 have HNG:=gd hNgt
 clear hR hL hcc hnum hdl hds hds2 hN hd hPn hvg
 rcases hway with w1|⟨w1,w2,w3⟩
 all_goals (
  go_enter Tryz.func64,Tryz.ntmps64
  go_wp2_with (first|(go_at_call 65;(with_reducible refine Calls.mono (HSP.out _) ?_);rintro e w4 ⟨rfl,hw4⟩;subst hw4))
  go_loopw [10] (fun v wr=>∃j:Nat,P≤j∧j≤s.size∧v= .int .i64 (j:Nat)∧Hid (numAt s.data.toList j=N)∧Ext w wr∧Hid (wr.heap[w.heap.size]? =some (.cells #[.int .i64 0,.bool false,.int .i64 0,.string ⟨#[]⟩,.slice none 0 0,.slice none 0 0,.int .i64 0,.int .i64 0,.int .i64 0] 109 (0,0)))) (fun v _=>s.size - (intOf v).toNat)
  case atStart=>exact ⟨P,Nat.le_refl _,hP,rfl,HN.out,(Ext.refl w).alloc _,HR1.out _ (Ext.refl _)⟩
  case round=>
   obtain ⟨j,hj1,hj2,rfl,hnj,hxr,hrb⟩:=hrel
   by_cases hjl:j<s.size
   ·have hl:j<s.data.toList.length:=by rw[data_len];exact hjl
    have g0:(0:Int)≤(j:Int):=by omega
    have g1:(j:Int)<(s.size:Int):=by omega
    have HNM:=gd (fun w'=>numericJ_any s[j] w')
    cases hnn:numeric s[j] with
    |true=>
     rw[hnn] at HNM
     have HNX:Hid (numAt s.data.toList (j+1)=N):=(numAt_step hl hnn).symm.trans hnj.out
     clear hnn hnj
     go_wp2_with (first|(go_at_call 111;(with_reducible refine Calls.mono (HNM.out _) ?_);rintro e w4 ⟨rfl,rfl⟩))
     go_roundw
     case rel=>exact ⟨j+1,by omega,hjl,by go_num,HNX,hxr,hrb⟩
     case measure=>simp[intOf];omega
    |false=>
     rw[hnn] at HNM
     have hfin:j=N:=(numAt_stop hl hnn).symm.trans hnj.out
     clear hnn hnj
     subst hfin
     cases hnv:numV d.data.toList with
     |none=>
      rw[hnv] at HNU
      have hres:R=none:=by rw[HVG.out,hnv]
      subst hres
      clear hnv
      go_wp2_with (first|(refine wpList_store_row rfl 109 (.tmp 6) (.tmp 117) rfl w.heap.size _ rfl rfl _ _ hrb.out size_res rfl oneR ?_)|(go_at_call 112;(have hz:=HNU.out);(with_reducible refine Calls.mono (hz _) ?_);clear hz;rintro e w5 ⟨⟨y,rfl⟩,rfl⟩)|(go_at_call 111;(have hz:=HNM.out);(with_reducible refine Calls.mono (hz _) ?_);clear hz;rintro e w4 ⟨rfl,rfl⟩))
      ((try simp only[Exit.inBlock,Exit.then]);refine bodyPost_ret (results_cell_row rfl _ _ _ _ _ _ _ rfl (setRow_heap _ _ _ _ _ _ hrb.out) Tryz.underlying109 rfl size_res) rfl ?_)
      exact ⟨⟨P,15,by decide,rfl⟩,hxr.setRow (Nat.le_refl _) _⟩
     |some n=>
      rw[hnv] at HNU
      have hres:=HVG.out
      rw[hnv] at hres
      subst hres
      clear hnv
      go_wp2_with (first|(refine wpList_store_row rfl 109 (.tmp 6) (.tmp 122) rfl w.heap.size _ rfl rfl _ _ hrb.out size_res rfl oneR ?_)|(go_at_call 112;(have hz:=HNU.out);(with_reducible refine Calls.mono (hz _) ?_);clear hz;rintro e w5 ⟨hen,rfl⟩;(replace hen:e= .returned (.tuple #[.int .i64 n,.bool true]):=hen);subst hen)|(go_at_call 111;(have hz:=HNM.out);(with_reducible refine Calls.mono (hz _) ?_);clear hz;rintro e w4 ⟨rfl,rfl⟩))
      ((try simp only[Exit.inBlock,Exit.then]);refine bodyPost_ret (results_cell_row rfl _ _ _ _ _ _ _ rfl (setRow_heap _ _ _ _ _ _ hrb.out) Tryz.underlying109 rfl size_res) rfl ?_)
      exact ⟨⟨none,0,0,none,0,0,1,rfl,NJn.leaf (j:= .int P n) ⟨rfl,rfl,rfl⟩⟩,hxr.setRow (Nat.le_refl _) _⟩
   ·have g1:¬(j:Int)<(s.size:Int):=by omega
    have hfin:j=N:=(numAt_end (by rw[data_len];omega)).symm.trans hnj.out
    clear hnj
    subst hfin
    cases hnv:numV d.data.toList with
    |none=>
     rw[hnv] at HNU
     have hres:R=none:=by rw[HVG.out,hnv]
     subst hres
     clear hnv
     go_wp2_with (first|(refine wpList_store_row rfl 109 (.tmp 6) (.tmp 117) rfl w.heap.size _ rfl rfl _ _ hrb.out size_res rfl oneR ?_)|(go_at_call 112;(have hz:=HNU.out);(with_reducible refine Calls.mono (hz _) ?_);clear hz;rintro e w5 ⟨⟨y,rfl⟩,rfl⟩))
     ((try simp only[Exit.inBlock,Exit.then]);refine bodyPost_ret (results_cell_row rfl _ _ _ _ _ _ _ rfl (setRow_heap _ _ _ _ _ _ hrb.out) Tryz.underlying109 rfl size_res) rfl ?_)
     exact ⟨⟨P,15,by decide,rfl⟩,hxr.setRow (Nat.le_refl _) _⟩
    |some n=>
     rw[hnv] at HNU
     have hres:=HVG.out
     rw[hnv] at hres
     subst hres
     clear hnv
     go_wp2_with (first|(refine wpList_store_row rfl 109 (.tmp 6) (.tmp 122) rfl w.heap.size _ rfl rfl _ _ hrb.out size_res rfl oneR ?_)|(go_at_call 112;(have hz:=HNU.out);(with_reducible refine Calls.mono (hz _) ?_);clear hz;rintro e w5 ⟨hen,rfl⟩;(replace hen:e= .returned (.tuple #[.int .i64 n,.bool true]):=hen);subst hen))
     ((try simp only[Exit.inBlock,Exit.then]);refine bodyPost_ret (results_cell_row rfl _ _ _ _ _ _ _ rfl (setRow_heap _ _ _ _ _ _ hrb.out) Tryz.underlying109 rfl size_res) rfl ?_)
     exact ⟨⟨none,0,0,none,0,0,1,rfl,NJn.leaf (j:= .int P n) ⟨rfl,rfl,rfl⟩⟩,hxr.setRow (Nat.le_refl _) _⟩)
end
theorem results_cell_tmps {P:Program} {fn:Func} {p u x:Tmp} {ty:TypeId} (h:fn.results=#[.cell p ty,.tmp u,.tmp x]) (tmps:Array Value) (w:World):
 (results fn tmps).run P w=
  ((asAddr (tmps.getD p undef)).run P w).andThen fun a w₁=>((loadVar ty a).run P w₁).andThen fun v w₂=> .ok (.tuple #[v,tmps.getD u undef,tmps.getD x undef]) w₂:=by
 simp only[results,h]
 simp[Sem.run_bind,Result.andThen]
theorem results_cell_row3 {P:Program} {fn:Func} {p u x:Tmp} {ty:TypeId} (h:fn.results=#[.cell p ty,.tmp u,.tmp x]) (tmps:Array Value) (w:World) (g:Nat) (t:TypeId) (cs:Array Value) (fr:Nat×Nat) (d:TypeDesc)
 (hp:tmps.getD p undef= .pointer (some ⟨g,0,none⟩)) (hg:w.heap[g]? =some (.cells cs t fr))
 (hu:P.underlying ty=some d) (hd:(match d with| .struct _| .array _ _=>true|_=>false)=true) (hi:(P.info? ty).map (·.size)=some cs.size):
 (results fn tmps).run P w= .ok (.tuple #[.agg cs,tmps.getD u undef,tmps.getD x undef]) w:=by
 rw[results_cell_tmps h,hp]
 simp[asAddr,run_loadVar_row w g t ty cs fr d hg hu hd hi]
section
set_option linter.unusedSimpArgs false
attribute [local go_sem] calm1
theorem jval_all (s:ByteArray) (hs:s.size≤80000000000):∀(f D:Nat),f+D=101→∀(a:Nat) (w:World),a≤s.size→
 Calls Tryz.prog 64 #[.string s,.int .i64 (a:Nat),.int .i64 (D:Nat)] w fun e w'=>ValR w.heap.size w' (valP s.data.toList f a) e∧Ext w w':=by
 intro f
 induction f with
 |zero=>
  intro D hD a w ha
  exact jValue_any s a D _ w ha (Or.inl ⟨by omega,fun _ _=>rfl⟩) hs
 |succ f ih=>
  intro D hD a w ha
  have hV:ReadV s D (valP s.data.toList f):=⟨fun a w ha=>ih (D+1) (by omega) a w ha,fun a j to_ h=>by
   have h2:=(valP_ok s.data.toList f a j to_ h).2
   rw[data_len] at h2
   exact h2⟩
  refine jValue_any s a D _ w ha (Or.inr ⟨by omega,fun i b w hi hb=> ?_⟩) hs
  cases b with
  |false=>exact jArr_any s i D _ w (by omega) hi hb hV (by omega) hs
  |true=>exact jObj_any s i D _ w (by omega) hi hb hV (by omega) hs
def ParR (B n:Nat) (w':World) (o:Option JO) (e:Ending):Prop:=match o with
 |some j=>∃A p c C q d m,e= .returned (.tuple #[.agg #[.int .i64 (kindJ j:Nat),.bool (bJ j),.int .i64 (nJ j),.string (sJ j),.slice A p c,.slice C q d,.int .i64 (atJ j:Nat)],.int .i64 (n:Nat),.int .i64 0])∧NJn m B w' j (wcells (kindJ j) (bJ j) (nJ j) (sJ j) (.slice A p c) (.slice C q d) (atJ j))
 |none=>∃a x:Nat,x≠0∧e= .returned (.tuple #[.agg #[.int .i64 0,.bool false,.int .i64 0,.string ⟨#[]⟩,.slice none 0 0,.slice none 0 0,.int .i64 0],.int .i64 (a:Nat),.int .i64 (x:Nat)])
theorem oneJ {K n a:Int} {k:Bool} {s:ByteArray} {A B:Option Addr} {p c q d:Nat}:(#[Value.int .i64 K,.bool k,.int .i64 n,.string s,.slice A p c,.slice B q d,.int .i64 a]).all (fun u=>u.oneCell')=true:=by simp[Value.oneCell']
theorem jParse_at (s:ByteArray) (A0:Nat) (bom:Bool) (w:World) (hs:s.size≤80000000000) (hb:hasAt s.data.toList 0 (⟨#[239,187,191]⟩:ByteArray).data.toList=bom) (hA:A0=if bom then 3 else 0):
 Calls Tryz.prog 27 #[.string s] w fun e w'=>ParR w.heap.size s.size w' (jsonP s.data.toList) e∧Ext w w':=by
 have HH:Hid (∀w',Calls Tryz.prog 63 #[.string s,.int .i64 0,.string ⟨#[239,187,191]⟩] w' fun e w2=>e= .returned (.bool bom)∧w2=w'):=fun w'=>by
  have:=jHas_any s ⟨#[239,187,191]⟩ 0 w' (by unfold maxLen;omega) (by unfold maxLen;omega) (by unfold maxLen;decide) (by decide)
  rw[hb] at this
  exact this
 have hA2:A0≤s.size:=by
  cases bom with
  |true=>
   have:=has_lt (l:=s.data.toList) (t:= [239,187,191]) (i:=0) hb (by decide)
   rw[data_len] at this
   simp only[List.length_cons,List.length_nil] at this
   subst hA
   exact this
  |false=>subst hA;exact Nat.zero_le _
 have HV:Hid (∀w',Calls Tryz.prog 64 #[.string s,.int .i64 (if bom then 3 else 0),.int .i64 1] w' fun e w2=>ValR w'.heap.size w2 (valP s.data.toList 100 A0) e∧Ext w' w2):=fun w'=>by
  have:=jval_all s hs 100 1 rfl A0 w' hA2
  rw[hA] at this⊢
  cases bom<;>exact this
 have hj:jsonP s.data.toList=match valP s.data.toList 100 A0 with
  |some (v,to_)=>if spAt s.data.toList to_<s.data.toList.length then none else some v
  |none=>none:=by
  unfold jsonP
  rw[show hasAt s.data.toList 0 [239,187,191]=bom from hb,hA]
  rfl
 obtain ⟨R,hR⟩:∃R,jsonP s.data.toList=R:=⟨_,rfl⟩
 rw[hR] at hj⊢
 have hk1:∀w',Ext (w.alloc (.cells #[.int .i64 0,.bool false,.int .i64 0,.string ⟨#[]⟩,.slice none 0 0,.slice none 0 0,.int .i64 0] 25)) w'→w'.heap[w.heap.size]? =some (.cells #[.int .i64 0,.bool false,.int .i64 0,.string ⟨#[]⟩,.slice none 0 0,.slice none 0 0,.int .i64 0] 25 (0,0)):=fun w' hx=>hx.heap (heap_alloc_new w _)
 have HK1:=gd hk1
 clear hk1 hb hR
 cases hv:valP s.data.toList 100 A0 with
 |none=>
  rw[hv] at HV hj
  subst hj
  clear hv hA hA2
  cases bom
  all_goals go_enter Tryz.func27,Tryz.ntmps27
  all_goals go_wp2_with (first|(go_at_call 63;(have hz:=HH.out);(with_reducible refine Calls.mono (hz _) ?_);clear hz;rintro e w4 ⟨rfl,hw4⟩;subst hw4)|(go_at_call 64;(have hz:=HV.out (w.alloc (.cells #[.int .i64 0,.bool false,.int .i64 0,.string ⟨#[]⟩,.slice none 0 0,.slice none 0 0,.int .i64 0] 25)));refine Calls.mono hz ?_;clear hz;rintro e w5 ⟨⟨b,x,hx0,rfl⟩,hx5⟩;(have hx0i:((x:Int) !=0)=true:=by rw[bne_iff_ne];omega)))
  all_goals (
   have hS0:(w5.alloc (.cells #[.int .i64 0,.bool false,.int .i64 0,.string ⟨#[]⟩,.slice none 0 0,.slice none 0 0,.int .i64 0,.int .i64 (b:Nat),.int .i64 (x:Nat)] 109)).drew.heap[w5.heap.size]? =some (.cells #[.int .i64 0,.bool false,.int .i64 0,.string ⟨#[]⟩,.slice none 0 0,.slice none 0 0,.int .i64 0,.int .i64 (b:Nat),.int .i64 (x:Nat)] 109 (0,0)):=heap_alloc_new w5 _
   have hxd:Ext (w5.alloc (.cells #[.int .i64 0,.bool false,.int .i64 0,.string ⟨#[]⟩,.slice none 0 0,.slice none 0 0,.int .i64 0,.int .i64 (b:Nat),.int .i64 (x:Nat)] 109)) (w5.alloc (.cells #[.int .i64 0,.bool false,.int .i64 0,.string ⟨#[]⟩,.slice none 0 0,.slice none 0 0,.int .i64 0,.int .i64 (b:Nat),.int .i64 (x:Nat)] 109)).drew:=(Ext.refl _).drew
   have hkd:=HK1.out _ ((hx5.alloc (.cells #[.int .i64 0,.bool false,.int .i64 0,.string ⟨#[]⟩,.slice none 0 0,.slice none 0 0,.int .i64 0,.int .i64 (b:Nat),.int .i64 (x:Nat)] 109)).trans hxd)
   refine rN ?_
   change wpAny _ _ _ _ _ _ _ (World.drew _)
   refine wpAny_of_S (fun w'=>w'.heap[w5.heap.size]? =some (.cells #[.int .i64 0,.bool false,.int .i64 0,.string ⟨#[]⟩,.slice none 0 0,.slice none 0 0,.int .i64 0,.int .i64 (b:Nat),.int .i64 (x:Nat)] 109 (0,0))) ?_
   refine tG 0 (.agg #[.int .i64 0,.bool false,.int .i64 0,.string ⟨#[]⟩,.slice none 0 0,.slice none 0 0,.int .i64 0]) hS0 ?_
   refine tG 1 (.pointer (some ⟨w5.heap.size,7,none⟩)) hS0 ?_
   refine tS 2 (.int .i64 (b:Nat)) rfl (fun w' hS=>by have hq:=cell_of_row _ _ 7 _ _ _ hS;go_simp) hS0 ?_
   refine tG 3 (.pointer (some ⟨w5.heap.size,8,none⟩)) hS0 ?_
   refine tS 4 (.int .i64 (x:Nat)) rfl (fun w' hS=>by have hq:=cell_of_row _ _ 8 _ _ _ hS;go_simp) hS0 ?_
   go_simp
   refine wpAnyS_step (i:=5) rfl (by kernel_rfl) (fun K2 hK2=> ?_)
   refine step_store_row rfl 25 (.tmp 2) (.tmp 15) rfl w.heap.size #[.int .i64 0,.bool false,.int .i64 0,.string ⟨#[]⟩,.slice none 0 0,.slice none 0 0,.int .i64 0] rfl rfl _ _ hkd size_valJ rfl oneJ ?_
   have hlt5:w.heap.size<w5.heap.size:=by have:=hx5.size;rw[size_alloc] at this;omega
   have hS1:=(setRow_other _ w.heap.size w5.heap.size #[.int .i64 0,.bool false,.int .i64 0,.string ⟨#[]⟩,.slice none 0 0,.slice none 0 0,.int .i64 0] (Nat.ne_of_gt hlt5)).trans hS0
   refine hK2 _ _ hS1 ?_
   clear hK2 K2
   refine wpAnyS_step (i:=6) rfl (by kernel_rfl) (fun K2 hK2=> ?_)
   go_simp
   refine hK2 _ _ hS1 ?_
   clear hK2 K2
   refine wpAnyS_step (i:=7) rfl (by kernel_rfl) (fun K2 hK2=> ?_)
   go_simp
   refine hK2 _ _ hS1 ?_
   clear hK2 K2
   refine sE ?_
   go_wp2
   ((try simp only[Exit.inBlock,Exit.then]);refine bodyPost_ret (results_cell_row3 rfl _ _ _ _ _ _ _ rfl (setRow_heap _ _ _ _ _ _ hkd) Tryz.underlying25 rfl size_valJ) rfl ?_)
   exact ⟨⟨b,x,hx0,rfl⟩,((((Ext.refl w).alloc _).trans hx5).alloc _|>.trans hxd).setRow (Nat.le_refl _) _⟩)
 |some pr=>
  obtain ⟨j,z⟩:=pr
  have hz2:z≤s.size:=by have:=(valP_ok s.data.toList 100 A0 j z hv).2.2;rwa [data_len] at this
  rw[hv] at HV hj
  simp only[data_len] at hj
  have HSP0:=fun w'=>jSpaces_any s z w' hs hz2
  obtain ⟨Q,hQ⟩:∃Q,spAt s.data.toList z=Q:=⟨_,rfl⟩
  rw[hQ] at hj HSP0
  have HSP:=gd HSP0
  by_cases hlt:Q<s.size
  ·rw[if_pos hlt] at hj
   subst hj
   have hlti:(Q:Int)<(s.size:Int):=by omega
   clear hv hA hA2 hQ HSP0 hlt
   cases bom
   all_goals go_enter Tryz.func27,Tryz.ntmps27
   all_goals go_wp2_with (first|(refine wpList_store_row rfl 25 (.tmp 2) (.tmp 28) rfl w.heap.size _ rfl rfl _ _ HK5.out size_valJ rfl oneJ ?_)|(go_at_call 63;(have hz:=HH.out);(with_reducible refine Calls.mono (hz _) ?_);clear hz;rintro e w4 ⟨rfl,hw4⟩;subst hw4)|(go_at_call 64;(have hz:=HV.out (w.alloc (.cells #[.int .i64 0,.bool false,.int .i64 0,.string ⟨#[]⟩,.slice none 0 0,.slice none 0 0,.int .i64 0] 25)));refine Calls.mono hz ?_;clear hz;rintro e w5 ⟨⟨A,p,c,C,q,d,m,rfl,hnj⟩,hx5⟩;(have HNJ:=gd hnj);clear hnj;(have hb5:=heap_alloc_new w5 (.cells #[.int .i64 (kindJ j:Nat),.bool (bJ j),.int .i64 (nJ j),.string (sJ j),.slice A p c,.slice C q d,.int .i64 (atJ j:Nat),.int .i64 (z:Nat),.int .i64 0] 109));(have HB5:=gd hb5);(have HK5:=gd (HK1.out _ (hx5.alloc (.cells #[.int .i64 (kindJ j:Nat),.bool (bJ j),.int .i64 (nJ j),.string (sJ j),.slice A p c,.slice C q d,.int .i64 (atJ j:Nat),.int .i64 (z:Nat),.int .i64 0] 109))));(have q0:=cell_of_row _ _ 0 _ _ _ hb5);(have q1:=cell_of_row _ _ 1 _ _ _ hb5);(have q2:=cell_of_row _ _ 2 _ _ _ hb5);(have q3:=cell_of_row _ _ 3 _ _ _ hb5);(have q4:=cell_of_row _ _ 4 _ _ _ hb5);(have q5:=cell_of_row _ _ 5 _ _ _ hb5);(have q6:=cell_of_row _ _ 6 _ _ _ hb5);(have q7:=cell_of_row _ _ 7 _ _ _ hb5);(have q8:=cell_of_row _ _ 8 _ _ _ hb5);clear hb5)|(go_at_call 65;(have hz:=HSP.out);(with_reducible refine Calls.mono (hz _) ?_);clear hz;rintro e w6 ⟨rfl,hw6⟩;subst hw6))
   all_goals ((try simp only[Exit.inBlock,Exit.then]);refine bodyPost_ret (results_cell_row3 rfl _ _ _ _ _ _ _ rfl (setRow_heap _ _ _ _ _ _ HK5.out) Tryz.underlying25 rfl size_valJ) rfl ?_)
   all_goals exact ⟨⟨Q,17,by decide,rfl⟩,((((Ext.refl w).alloc _).trans hx5).alloc _).setRow (Nat.le_refl _) _⟩
  ·rw[if_neg hlt] at hj
   subst hj
   have hlti:¬(Q:Int)<(s.size:Int):=by omega
   clear hv hA hA2 hQ HSP0 hlt
   cases bom
   all_goals go_enter Tryz.func27,Tryz.ntmps27
   all_goals go_wp2_with (first|(refine wpList_store_row rfl 25 (.tmp 2) (.tmp 31) rfl w.heap.size _ rfl rfl _ _ HK5.out size_valJ rfl oneJ ?_)|(go_at_call 63;(have hz:=HH.out);(with_reducible refine Calls.mono (hz _) ?_);clear hz;rintro e w4 ⟨rfl,hw4⟩;subst hw4)|(go_at_call 64;(have hz:=HV.out (w.alloc (.cells #[.int .i64 0,.bool false,.int .i64 0,.string ⟨#[]⟩,.slice none 0 0,.slice none 0 0,.int .i64 0] 25)));refine Calls.mono hz ?_;clear hz;rintro e w5 ⟨⟨A,p,c,C,q,d,m,rfl,hnj⟩,hx5⟩;(have HNJ:=gd hnj);clear hnj;(have hb5:=heap_alloc_new w5 (.cells #[.int .i64 (kindJ j:Nat),.bool (bJ j),.int .i64 (nJ j),.string (sJ j),.slice A p c,.slice C q d,.int .i64 (atJ j:Nat),.int .i64 (z:Nat),.int .i64 0] 109));(have HB5:=gd hb5);(have HK5:=gd (HK1.out _ (hx5.alloc (.cells #[.int .i64 (kindJ j:Nat),.bool (bJ j),.int .i64 (nJ j),.string (sJ j),.slice A p c,.slice C q d,.int .i64 (atJ j:Nat),.int .i64 (z:Nat),.int .i64 0] 109))));(have q0:=cell_of_row _ _ 0 _ _ _ hb5);(have q1:=cell_of_row _ _ 1 _ _ _ hb5);(have q2:=cell_of_row _ _ 2 _ _ _ hb5);(have q3:=cell_of_row _ _ 3 _ _ _ hb5);(have q4:=cell_of_row _ _ 4 _ _ _ hb5);(have q5:=cell_of_row _ _ 5 _ _ _ hb5);(have q6:=cell_of_row _ _ 6 _ _ _ hb5);(have q7:=cell_of_row _ _ 7 _ _ _ hb5);(have q8:=cell_of_row _ _ 8 _ _ _ hb5);clear hb5)|(go_at_call 65;(have hz:=HSP.out);(with_reducible refine Calls.mono (hz _) ?_);clear hz;rintro e w6 ⟨rfl,hw6⟩;subst hw6))
   all_goals ((try simp only[Exit.inBlock,Exit.then]);refine bodyPost_ret (results_cell_row3 rfl _ _ _ _ _ _ _ rfl (setRow_heap _ _ _ _ _ _ HK5.out) Tryz.underlying25 rfl size_valJ) rfl ?_)
   all_goals exact ⟨⟨A,p,c,C,q,d,m,rfl,((HNJ.out.keep (KF.of ((Ext.refl _).alloc _))).keep (KF.setRow _ _ _ (by rw[size_alloc];omega))).mono (by rw[size_alloc];omega)⟩,((((Ext.refl w).alloc _).trans hx5).alloc _).setRow (Nat.le_refl _) _⟩
theorem jParse_any (s:ByteArray) (w:World) (hs:s.size≤80000000000):
 Calls Tryz.prog 27 #[.string s] w fun e w'=>ParR w.heap.size s.size w' (jsonP s.data.toList) e∧Ext w w':=
 jParse_at s _ _ w hs rfl rfl
end
section
theorem collGo_len1:∀(l out:List UInt8) (g:Bool),(collGo l out g).length≤out.length+l.length+(if g=true then 1 else 0)
 | [],out,g=>by simp only[collGo,List.length_nil];omega
 |c::t,out,g=>by
  simp only[collGo]
  by_cases h:isSp c.toNat=true
  ·rw[if_pos h]
   have:=collGo_len1 t out (!out.isEmpty)
   rw[List.length_cons]
   split at this<;>omega
  ·rw[if_neg h]
   have:=collGo_len1 t (out++(if g=true then [32] else [])++ [c]) false
   simp only[Bool.false_eq_true,if_false,List.length_append,List.length_cons,List.length_nil] at this
   rw[List.length_cons]
   cases g
   ·simp only[Bool.false_eq_true,if_false,List.length_nil] at this⊢;omega
   ·simp only[if_true,List.length_cons,List.length_nil] at this⊢;omega
theorem collapse_size (s:ByteArray):(collapse s).size≤s.size:=by
 unfold collapse coll
 rw[str_size]
 have:=collGo_len1 s.data.toList [] false
 simp only[Bool.false_eq_true,if_false,List.length_nil] at this
 rw[data_len] at this
 omega
theorem eok_coll {e:Ent} (h:eok e):eok (collE e):=by
 obtain ⟨h1,h2⟩:=h
 refine ⟨h1,?_⟩
 have a:=collapse_size e.id
 have b:=collapse_size e.title
 have c:=collapse_size e.link
 have d:=collapse_size e.content
 show (collapse e.id).size+(collapse e.title).size+(collapse e.link).size+(collapse e.content).size≤16777216
 omega
section
variable {α κ:Type} (O:Ord α κ)
end
section
variable {α κ:Type} [DecidableEq κ] (O:Ord α κ)
end
def fokS (f:Fd):Prop:=fok f∧f.ents.length≤1000000∧∀e∈f.ents,eok e
end
def ewide (e:Ent):Prop:=i64ok e.upd∧e.id.size≤reachBytes∧e.title.size≤reachBytes∧e.link.size≤reachBytes∧e.content.size≤reachBytes
def fwide (f:Fd):Prop:=i64ok f.upd∧f.path.length≤reachBytes∧(∀s∈f.path,s.size≤reachBytes)∧f.id.size≤reachBytes∧f.title.size≤reachBytes∧f.link.size≤reachBytes∧f.ents.length≤reachBytes∧∀e∈f.ents,ewide e
def capN (n:Nat):Nat:=1+min n 9000
def bigE (e:Ent):Nat:=capN (e.id.size+e.title.size+e.link.size+e.content.size)
def bigP (l:List ByteArray):Nat:=(l.map fun s=>capN s.size).sum
def bigEs (l:List Ent):Nat:=(l.map bigE).sum
def bigH (f:Fd):Nat:=capN (f.id.size+f.title.size+f.link.size)
def bigF (f:Fd):Nat:=bigH f+bigP f.path+bigEs f.ents
def bigL (l:List Fd):Nat:=(l.map bigF).sum
theorem mem_sum {l:List Nat} {n:Nat} (h:n∈l):n≤l.sum:=by
 induction l with
 |nil=>simp at h
 |cons x t ih=>
  rw[List.sum_cons]
  rcases List.mem_cons.1 h with h|h
  ·omega
  ·have:=ih h;omega
theorem bigP_small:∀{l:List ByteArray},bigP l≤5000→l.length+sizes l≤bigP l
 | [],_=>by simp[sizes,bigP]
 |s::t,h=>by
  have e:bigP (s::t)=capN s.size+bigP t:=by unfold bigP;simp
  have e2:sizes (s::t)=s.size+sizes t:=by unfold sizes;simp
  rw[e] at h⊢
  have ih:=bigP_small (l:=t) (by omega)
  unfold capN at h⊢
  rw[e2,List.length_cons]
  omega
theorem bigEs_len:∀(l:List Ent),l.length≤bigEs l
 | []=>by simp
 |s::t=>by
  have e:bigEs (s::t)=bigE s+bigEs t:=by unfold bigEs;simp
  have ih:=bigEs_len t
  rw[e,List.length_cons]
  unfold bigE capN
  omega
theorem bigE_mem {l:List Ent} {e:Ent} (h:e∈l):bigE e≤bigEs l:=mem_sum (List.mem_map.2 ⟨e,h,rfl⟩)
theorem bigE_small {e:Ent} (h:bigE e≤5000):e.id.size+e.title.size+e.link.size+e.content.size≤5000:=by
 unfold bigE capN at h
 omega
theorem small_eok {e:Ent} (hw:i64ok e.upd) (h:bigE e≤5000):eok e:=⟨hw,by have:=bigE_small h;omega⟩
theorem small_fok {f:Fd} (hw:fwide f) (h:bigF f≤5000):fokS f:=by
 have h':bigH f+bigP f.path+bigEs f.ents≤5000:=h
 have hp:=bigP_small (l:=f.path) (by omega)
 have hh:bigH f≤5000:=by omega
 unfold bigH capN at hh
 have he:=bigEs_len f.ents
 refine ⟨⟨hw.1,by omega⟩,by omega,fun e hm=>small_eok (hw.2.2.2.2.2.2.2 e hm).1 ?_⟩
 have:=bigE_mem hm
 omega
theorem bigL_take {l:List Fc} {k:Nat} (hk:k<l.length):bigL ((l.take (k+1)).map Fc.f)=bigL ((l.take k).map Fc.f)+bigF l[k].f:=by
 rw[List.take_succ_eq_append_getElem hk]
 unfold bigL
 simp only[List.map_append,List.sum_append,List.map_cons,List.map_nil,List.sum_cons,List.sum_nil,Nat.add_zero]
theorem bigL_le (l:List Fc) (k:Nat):bigL ((l.take k).map Fc.f)≤bigL (l.map Fc.f):=by
 have e:bigL (l.map Fc.f)=bigL ((l.take k).map Fc.f)+bigL ((l.drop k).map Fc.f):=by
  unfold bigL
  rw[←List.sum_append,←List.map_append,←List.map_append,List.take_append_drop]
 omega
theorem bigP_take {l:List ByteArray} {k:Nat} (hk:k<l.length):bigP (l.take (k+1))=bigP (l.take k)+capN l[k].size:=by
 rw[List.take_succ_eq_append_getElem hk]
 unfold bigP
 simp only[List.map_append,List.sum_append,List.map_cons,List.map_nil,List.sum_cons,List.sum_nil,Nat.add_zero]
theorem bigEs_take {l:List Ent} {k:Nat} (hk:k<l.length):bigEs (l.take (k+1))=bigEs (l.take k)+bigE l[k]:=by
 rw[List.take_succ_eq_append_getElem hk]
 unfold bigEs
 simp only[List.map_append,List.sum_append,List.map_cons,List.map_nil,List.sum_cons,List.sum_nil,Nat.add_zero]
theorem bigEs_le (l:List Ent) (k:Nat):bigEs (l.take k)≤bigEs l:=by
 have e:bigEs l=bigEs (l.take k)+bigEs (l.drop k):=by
  unfold bigEs
  rw[←List.sum_append,←List.map_append,List.take_append_drop]
 omega
theorem capN_le (n:Nat):capN n≤9001:=by unfold capN;omega
theorem RStrs.at {w:World} {v:Value} {l:List ByteArray} (h:RStrs w v l) {k:Nat} (hk:k<l.length):∃ad c,v= .slice (some ad) l.length c∧w.cell? (ad.add k)=some (.string l[k]):=by
 obtain ⟨_,A,c,e,_,_,_,h5⟩:=h
 obtain ⟨ad,rfl,hc⟩:=h5 k (.string l[k]) (by rw[List.getElem?_map,List.getElem?_eq_getElem hk];rfl)
 exact ⟨ad,c,e,hc⟩
theorem wrap2 {a b:Nat} (h1:a≤140737488351232) (h2:b≤140737488351232):wrap64 ((a:Int)+(b:Int))=(a:Int)+(b:Int):=wrap_ok _ ⟨by omega,by omega⟩
theorem wrap3 {a b c:Nat} (h1:a≤140737488351232) (h2:b≤140737488351232) (h3:c≤140737488351232):wrap64 ((a:Int)+(b:Int)+(c:Int))=(a:Int)+(b:Int)+(c:Int):=wrap_ok _ ⟨by omega,by omega⟩
theorem wrap4 {a b c d:Nat} (h1:a≤140737488351232) (h2:b≤140737488351232) (h3:c≤140737488351232) (h4:d≤140737488351232):wrap64 ((a:Int)+(b:Int)+(c:Int)+(d:Int))=(a:Int)+(b:Int)+(c:Int)+(d:Int):=wrap_ok _ ⟨by omega,by omega⟩
theorem wrapS {a:Nat} (h:a≤1000000000000000):wrap64 (a:Int)=(a:Int):=wrap_ok _ ⟨by omega,by omega⟩
theorem wrapM {M:Int} (h1:0≤M) (h2:M≤9000):wrap64 (1+M)=1+M:=wrap_ok _ ⟨by omega,by omega⟩
theorem wrapQ {q:Nat} {M:Int} (h:q≤2000000000000000000) (h1:0≤M) (h2:M≤9000):wrap64 ((q:Int)+(1+M))=(q:Int)+(1+M):=wrap_ok _ ⟨by omega,by omega⟩
theorem tooLarge_any (v:Value) (l:List Fc) (w:World) (hr:RFcs w v l) (hrd:∀x∈l,RdC w x) (hn:l.length≤reachBytes) (hk:∀x∈l,fwide x.f):
 Calls Tryz.prog 47 #[.agg #[v]] w fun e w'=>e= .returned (.int .i64 (if 5000<bigL (l.map Fc.f) then 1 else 0))∧Ext w w':=by
 obtain ⟨A,c,rfl,hlc,hcm⟩:=hr.form
 have HK:=gd hk
 have HRD:=gd hrd
 obtain ⟨R,hR⟩:∃R:Int,(if 5000<bigL (l.map Fc.f) then 1 else 0)=R:=⟨_,rfl⟩
 rw[hR]
 have HR:=gd hR
 unfold reachBytes at hn
 clear hlc hcm hk hrd hR
 go_enter Tryz.func47,Tryz.ntmps47
 go_wp2
 go_loopw [3,13] (fun u i wr=>∃(k n:Nat),k≤l.length∧i= .int .i64 k∧u= .int .i64 n∧n≤5000∧Hid (n=bigL ((l.take k).map Fc.f))∧Ext w wr) (fun _ i _=>l.length - (intOf i).toNat)
 case atStart=>exact ⟨0,0,Nat.zero_le _,rfl,rfl,by decide,gd rfl,(Ext.refl _).alloc _⟩
 case round=>
  obtain ⟨k,n,hk,rfl,rfl,hn5,hnk,hx⟩:=hrel
  by_cases hlt:k<l.length
  ·obtain ⟨ad,c',hv,hat⟩:=(hr.ext hx).at hlt
   injection hv with hv1 hv2 hv3
   subst hv1
   clear hv2 hv3
   have hmem:l[k]∈l:=List.getElem_mem hlt
   have hrx:=(HRD.out _ hmem).ext hx
   have hkx:=HK.out _ hmem
   have htk:=bigL_take hlt
   rw[←hnk.out] at htk
   have hle:=bigL_le l (k+1)
   obtain ⟨x,hxx⟩:∃x,l[k]=x:=⟨_,rfl⟩
   rw[hxx] at hat hrx hkx htk
   have HTK:=gd htk
   have HLE:=gd hle
   clear hxx htk hle hmem hnk
   obtain ⟨k1,k2,k3,k4,k5,k6,k7,k8⟩:=hkx
   unfold reachBytes at k2 k4 k5 k6 k7
   have HK3:=gd k3
   have HK8:=gd k8
   obtain ⟨xp,xes,⟨xpath,xid,xtitle,xlink,xupd,xents⟩⟩:=x
   obtain ⟨hx0,hx1⟩:=hrx
   dsimp only at*
   obtain ⟨xA,xc,rfl, -, -⟩:=hx0.form
   obtain ⟨xB,xd,rfl, -, -⟩:=hx1.form
   have HX0:=gd hx0
   have HX1:=gd hx1
   have HX:=gd hx
   obtain ⟨a0,a1,a2,a3,a4,a5⟩:=hat
   dsimp only at a0 a1 a2 a3 a4 a5
   have hi0':(0:Int)≤(k:Int):=by omega
   have hi1:(k:Int)<(l.length:Int):=by omega
   have hw1:wrap64 ((xid.size:Int)+(xtitle.size:Int))=(xid.size:Int)+(xtitle.size:Int):=wrap2 k4 k5
   have hw2:wrap64 ((xid.size:Int)+(xtitle.size:Int)+(xlink.size:Int))=(xid.size:Int)+(xtitle.size:Int)+(xlink.size:Int):=wrap3 k4 k5 k6
   clear k1 k3 k8 hx0 hx1
   obtain ⟨S0,hS0⟩:∃S0,xid.size+xtitle.size+xlink.size=S0:=⟨_,rfl⟩
   have HS0:=gd hS0
   have hS0i:(xid.size:Int)+(xtitle.size:Int)+(xlink.size:Int)=(S0:Int):=by omega
   obtain ⟨wB,hwB⟩:∃wB:World,wB=wr:=⟨_,rfl⟩
   subst hwB
   have hxB:Ext w (wB.alloc (.cells #[.slice xA xpath.length xc,.string xid,.string xtitle,.string xlink,.int .i64 xupd,.slice xB xents.length xd] 32)):=hx.alloc _
   have HXB:=gd hxB
   have HB5:Hid (∀w',Ext (wB.alloc (.cells #[.slice xA xpath.length xc,.string xid,.string xtitle,.string xlink,.int .i64 xupd,.slice xB xents.length xd] 32)) w'→w'.cell? ⟨wB.heap.size,5,none⟩=some (.slice xB xents.length xd)):=gd fun w' h=>h.boxed 5 _ rfl
   clear hxB
   go_wp2
   clear hw1 hw2 a0 a1 a2 a3 a4 a5
   go_loopw [3,35] (fun u i wr=>∃(j m:Nat),j≤xpath.length∧i= .int .i64 j∧u= .int .i64 m∧m≤14001+9001*j∧Hid (m=n+capN S0+bigP (xpath.take j))∧Ext (wB.alloc (.cells #[.slice xA xpath.length xc,.string xid,.string xtitle,.string xlink,.int .i64 xupd,.slice xB xents.length xd] 32)) wr) (fun _ i _=>xpath.length - (intOf i).toNat)
   case atStart=>exact ⟨0,n+capN S0,Nat.zero_le _,rfl,congrArg (Value.int .i64) (by unfold capN;omega),by have:=capN_le S0;omega,gd rfl,Ext.refl _⟩
   case round=>
    obtain ⟨j,m,hj,rfl,rfl,hmb,hme,hxj⟩:=hrel
    by_cases hjl:j<xpath.length
    ·obtain ⟨ae,c2,e2,hc⟩:=((HX0.out.ext ((Ext.refl _).alloc _)).ext hxj).at hjl
     injection e2 with e2 e2' e2''
     subst e2
     clear e2' e2''
     have hsz:=HK3.out _ (List.getElem_mem hjl)
     unfold reachBytes at hsz
     have htk:=bigP_take hjl
     obtain ⟨s,hs⟩:∃s,xpath[j]=s:=⟨_,rfl⟩
     rw[hs] at hc hsz htk
     have HTP:=gd htk
     have hi0':(0:Int)≤(j:Int):=by omega
     have hi1:(j:Int)<(xpath.length:Int):=by omega
     clear hs htk
     go_wp2
     go_roundw
     case rel=>exact ⟨j+1,m+capN s.size,hjl,by go_num,congrArg (Value.int .i64) (by unfold capN;omega),by have:=capN_le s.size;omega,gd (by have:=hme.out;have:=HTP.out;omega),hxj⟩
     case measure=>simp[intOf];omega
    ·have hje:j=xpath.length:=by omega
     subst hje
     rw[List.take_of_length_le (Nat.le_refl _)] at hme
     have b5:=HB5.out _ hxj
     obtain ⟨wC,hwC⟩:∃wC:World,wC=wr:=⟨_,rfl⟩
     subst hwC
     have HXJ:=gd hxj
     go_wp2
     go_loopw [3,49] (fun u i wr=>∃(j q:Nat),j≤xents.length∧i= .int .i64 j∧u= .int .i64 q∧q≤14001+9001*xpath.length∧Hid (q=m+bigEs (xents.take j))∧Ext wC wr) (fun _ i _=>xents.length - (intOf i).toNat)
     case atStart=>exact ⟨0,m,Nat.zero_le _,rfl,rfl,by omega,gd rfl,Ext.refl _⟩
     case round=>
      obtain ⟨j,q,hj2,rfl,rfl,hqb,hqe,hxq⟩:=hrel
      by_cases hjl2:j<xents.length
      ·obtain ⟨ae,c2,e2,hat⟩:=(((HX1.out.ext ((Ext.refl _).alloc _)).ext HXJ.out).ext hxq).at hjl2
       injection e2 with e2 e2' e2''
       subst e2
       clear e2' e2''
       have hsz:=HK8.out _ (List.getElem_mem hjl2)
       have htk:=bigEs_take hjl2
       have hle2:=bigEs_le xents (j+1)
       obtain ⟨e,he⟩:∃e,xents[j]=e:=⟨_,rfl⟩
       rw[he] at hat hsz htk
       have HTE:=gd htk
       have HLE2:=gd hle2
       clear he htk hle2
       obtain ⟨eid,etitle,elink,econtent,eupd⟩:=e
       obtain ⟨_,g1,g2,g3,g4⟩:=hsz
       unfold reachBytes at g1 g2 g3 g4
       obtain ⟨p0,p1,p2,p3,p4⟩:=hat
       dsimp only at g1 g2 g3 g4 p0 p1 p2 p3 p4
       have hi0':(0:Int)≤(j:Int):=by omega
       have hi1:(j:Int)<(xents.length:Int):=by omega
       obtain ⟨S1,hS1⟩:∃S1,eid.size+etitle.size+elink.size+econtent.size=S1:=⟨_,rfl⟩
       have hE:bigE ⟨eid,etitle,elink,econtent,eupd⟩=capN S1:=by rw[←hS1];rfl
       have hS1i:(eid.size:Int)+(etitle.size:Int)+(elink.size:Int)+(econtent.size:Int)=(S1:Int):=by omega
       have hq63:q≤2000000000000000000:=by omega
       have HJ2:=gd hjl2
       have hj15:j≤1000000000000000:=by omega
       by_cases hbig:5000<q+capN S1
       ·have hbi:(5000:Int)<(q:Int)+(1+min (S1:Int) 9000):=by unfold capN at hbig;omega
        have hR1:R=1:=by
         rw[←HR.out,if_pos]
         have h1:=HTK.out
         have h2:=HLE.out
         have h3:=hqe.out
         have h4:=hme.out
         have h5:=HTE.out
         have h6:=HLE2.out
         rw[hE] at h5
         have h7:bigF ⟨xpath,xid,xtitle,xlink,xupd,xents⟩=capN S0+bigP xpath+bigEs xents:=by
          unfold bigF bigH
          rw[←HS0.out]
         omega
        subst hR1
        obtain ⟨M,hM⟩:∃M:Int,min (S1:Int) 9000=M:=⟨_,rfl⟩
        have hM1:0≤M:=by omega
        have hM2:M≤9000:=by omega
        rw[hM] at hbi
        have HM:=gd hM
        have hS1b:S1≤1000000000000000:=by omega
        have hwS:=congrArg (Value.int .i64) (wrapS hS1b)
        have hwM:=congrArg (Value.int .i64) (wrapM hM1 hM2)
        have hwQ:=congrArg (Value.int .i64) (wrapQ hq63 hM1 hM2)
        clear hbig hE hS1 hS1b
        have hw1:=congrArg (Value.int .i64) (wrap2 g1 g2)
        have hw2:=congrArg (Value.int .i64) (wrap3 g1 g2 g3)
        have hw3:=congrArg (Value.int .i64) (wrap4 g1 g2 g3 g4)
        clear g1 g2 g3 g4 k2 k4 k5 k6 k7 hn hS0 hS0i hmb hqb hn5 hj2 hjl2 hjl hj hk hlt
        go_wp2
        go_ret
        exact ⟨rfl,(HXB.out.trans HXJ.out).trans (hxq.alloc _)⟩
       ·have hbi:¬(5000:Int)<(q:Int)+(1+min (S1:Int) 9000):=by unfold capN at hbig;omega
        have HBG:=gd hbig
        have HEE:=gd hE
        obtain ⟨M,hM⟩:∃M:Int,min (S1:Int) 9000=M:=⟨_,rfl⟩
        have hM1:0≤M:=by omega
        have hM2:M≤9000:=by omega
        rw[hM] at hbi
        have HM:=gd hM
        have hS1b:S1≤1000000000000000:=by omega
        have hwS:=congrArg (Value.int .i64) (wrapS hS1b)
        have hwM:=congrArg (Value.int .i64) (wrapM hM1 hM2)
        have hwQ:=congrArg (Value.int .i64) (wrapQ hq63 hM1 hM2)
        clear hbig hE hS1 hS1b
        have hw1:=congrArg (Value.int .i64) (wrap2 g1 g2)
        have hw2:=congrArg (Value.int .i64) (wrap3 g1 g2 g3)
        have hw3:=congrArg (Value.int .i64) (wrap4 g1 g2 g3 g4)
        clear g1 g2 g3 g4 k2 k4 k5 k6 k7 hn hS0 hS0i hmb hqb hn5 hj2 hjl2 hjl hj hk hlt
        go_wp2
        clear hw1 hw2 hw3 hwS hwM hwQ
        go_roundw
        case rel=>
         refine ⟨j+1,q+capN S1,HJ2.out,by go_num,congrArg (Value.int .i64) (by have:=HM.out;unfold capN;omega),by have:=HBG.out;omega,gd ?_,hxq.alloc _⟩
         have h3:=hqe.out
         have h5:=HTE.out
         rw[HEE.out] at h5
         omega
        case measure=>simp[intOf];have:=HJ2.out;omega
      ·have hje2:j=xents.length:=by omega
       subst hje2
       rw[List.take_of_length_le (Nat.le_refl _)] at hqe
       have h7:bigF ⟨xpath,xid,xtitle,xlink,xupd,xents⟩=capN S0+bigP xpath+bigEs xents:=by
        unfold bigF bigH
        rw[←HS0.out]
       have hq:q=bigL ((l.take (k+1)).map Fc.f):=by
        have h1:=HTK.out
        have h3:=hqe.out
        have h4:=hme.out
        rw[h7] at h1
        omega
       have HQ:=gd hq
       have hxa:=(HXB.out.trans HXJ.out).trans hxq
       clear hq h7 hqe
       by_cases hbig:5000<q
       ·have hbi:(5000:Int)<(q:Int):=by omega
        have hR1:R=1:=by
         rw[←HR.out,if_pos]
         have h2:=HLE.out
         have:=HQ.out
         omega
        subst hR1
        clear hbig
        go_wp2
        go_ret
        exact ⟨rfl,hxa⟩
       ·have hbi:¬(5000:Int)<(q:Int):=by omega
        have hq5:q≤5000:=by omega
        clear hbig
        go_wp2
        go_roundw
        case rel=>exact ⟨k+1,q,hlt,by go_num,rfl,hq5,HQ,hxa⟩
        case measure=>simp[intOf];omega
  ·have hke:k=l.length:=by omega
   subst hke
   have hnn:=hnk.out
   rw[List.take_of_length_le (Nat.le_refl _)] at hnn
   have hR0:R=0:=by rw[←HR.out,if_neg];omega
   subst hR0
   clear hnn hnk
   go_wp2
   go_ret
   exact ⟨rfl,hx⟩
end Go.Proofs.YthlnaldahkgjnaaGreatDoor
