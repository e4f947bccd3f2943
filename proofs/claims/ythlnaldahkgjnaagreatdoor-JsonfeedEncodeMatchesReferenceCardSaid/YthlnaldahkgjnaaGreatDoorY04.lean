/- Parts of the proof: contracts and plain laws. -/
import Derived.Test.YthlnaldahkgjnaaGreatDoorY03
namespace Go.Proofs.YthlnaldahkgjnaaGreatDoor
open Go Go.RowKit
set_option linter.unusedVariables false
set_option linter.unusedSimpArgs false
set_option maxRecDepth 100000
set_option maxHeartbeats 16000000
theorem byteInt (x:UInt8):(x.toNat:Int)<256:=by have:=byte_lt x;omega
theorem getD_at (s:ByteArray) (k i:Nat) (h:k+i<s.size):(s.data.toList.drop k).getD i 0=s[k+i]:=by
 rw[List.getD_eq_getElem?_getD,List.getElem?_drop,List.getElem?_eq_getElem (by rw[data_len];exact h)]
 rfl
theorem ref_yes (s:ByteArray) (k n:Nat) (h1:1≤n) (h4:n≤4) (hn:k+n≤s.size) (x:Int) (hx:acc n (s.data.toList.drop k) (n - 1)=x.toNat)
 (hd:dec (s.data.toList.drop k)=refFrom (5 - n) n (s.data.toList.drop k)) (hb:((str (encN x.toNat)).toList==(s.extract k (k+n)).toList)=true):dec (s.data.toList.drop k)=(x.toNat,n):=by
 rw[str_beq,extract_take,decide_eq_true_eq] at hb
 obtain ⟨m,hm⟩:∃m,5 - n=m+1:=⟨4 - n,by omega⟩
 rw[hd,hm,refFrom,if_pos ⟨h4,by rw[List.length_drop,data_len];omega⟩,hx,if_pos hb]
theorem ref_no (s:ByteArray) (k n:Nat) (h1:1≤n) (h4:n≤4) (hn:k+n≤s.size) (x:Int) (hx:acc n (s.data.toList.drop k) (n - 1)=x.toNat)
 (hd:dec (s.data.toList.drop k)=refFrom (5 - n) n (s.data.toList.drop k)) (hb:((str (encN x.toNat)).toList==(s.extract k (k+n)).toList)=false):Hid (dec (s.data.toList.drop k)=refFrom (5 - (n+1)) (n+1) (s.data.toList.drop k)):=by
 rw[str_beq,extract_take,decide_eq_false_iff_not] at hb
 obtain ⟨m,hm⟩:∃m,5 - n=m+1:=⟨4 - n,by omega⟩
 have hm':5 - (n+1)=m:=by omega
 rw[hm']
 rw[hm,refFrom,if_pos ⟨h4,by rw[List.length_drop,data_len];omega⟩,hx,if_neg hb] at hd
 exact hd
theorem refDecode_in (s:ByteArray) (k:Nat) (w:World) (hk:k<s.size) (hs:s.size≤maxLen):
 Calls Tryz.prog 127 #[.string s,.int .i64 (k:Nat)] w fun e w'=>e= .returned (.tuple #[.int .i64 ((dec (s.data.toList.drop k)).1:Nat),.int .i64 ((dec (s.data.toList.drop k)).2:Nat)])∧Ext w w':=by
 unfold maxLen at hs
 have hne:s.data.toList.drop k≠ []:=by
  intro h
  have:=congrArg List.length h
  rw[List.length_drop,data_len] at this
  simp at this
  omega
 have hst:Hid (dec (s.data.toList.drop k)=refFrom 4 1 (s.data.toList.drop k)):=(refDec_eq _ hne).symm
 clear hne
 obtain ⟨l,hl⟩:∃l,s.data.toList.drop k=l:=⟨_,rfl⟩
 have HL:=gd hl
 rw[hl] at hst⊢
 clear hl
 have hge:decide (s.size≤k)=false:=by simp;omega
 have hneg:decide ((k:Int)<0)=false:=by simp
 go_enter Tryz.func127,Tryz.ntmps127
 go_wp2
 go_loopw [6,7,8] (fun v _ _ wr=>∃n:Nat,1≤n∧n≤5∧k+n≤s.size+1∧v= .int .i64 n∧Hid (dec l=refFrom (5 - n) n l)∧Ext w wr) (fun v _ _ _=>5 - (intOf v).toNat)
 case atStart=>exact ⟨1,by omega,by omega,by omega,rfl,hst,Ext.refl _⟩
 case round=>
  obtain ⟨n,h1,h5,hn,rfl,hd,hx⟩:=hrel
  clear hst hge hneg
  by_cases hlt:n≤4∧k+n≤s.size
  ·obtain ⟨h4,hn'⟩:=hlt
   have hcase:n=1∨n=2∨n=3∨n=4:=by omega
   rcases hcase with rfl|rfl|rfl|rfl
   ·clear h1 h5 h4 hn
    have b0:=byteInt (s[k]'(by omega))
    have hacc:Hid (acc 1 (s.data.toList.drop k) (1 - 1)=(s[k].toNat:Int).toNat):=by
     show _=_
     simp only[acc,accStart,show 1 - 1=0 from rfl,getD_at s k 0 (by omega)]
     simp
    go_wp2
    refine wp_loop_rounds 1 ?_
    rw[rounds_succ]
    go_wp2
    have hj1:(k:Int)+1≤s.size:=by omega
    have hj0:0≤(k:Int)+1:=by omega
    have hj2:(k:Int)≤(k:Int)+1:=by omega
    have hj3:IntKind.i64.wrap ((k:Int)+1)=(k:Int)+1:=IntWalk.i64_in _ (by omega)
    have hj4:((k:Int)+1).toNat=k+1:=by omega
    go_region_with (go_at_call 155;refine (refEncode_int _ _ (by omega) (by omega)).mono ?_;rintro e w' ⟨rfl,hx'⟩)
    clear hj1 hj0 hj2 hj3 hj4
    go_wp2
    all_goals have hyn:((str (encN (s[k].toNat:Int).toNat)).toList==(s.extract k (k+1)).toList)=true∨((str (encN (s[k].toNat:Int).toNat)).toList==(s.extract k (k+1)).toList)=false:=by first|exact Or.inl ‹_› |exact Or.inr ‹_›
    all_goals have hl:=HL.out
    all_goals subst hl
    all_goals first|(have hfin:=ref_yes s k 1 (by omega) (by omega) hn' _ hacc.out hd.out ‹_›;go_ret2;exact ⟨by rw[hfin];exact ret2_eq (by simp only[];omega) rfl,(hx.drew).trans hx'⟩)|(have hfin:=ref_no s k 1 (by omega) (by omega) hn' _ hacc.out hd.out ‹_›;go_roundw;(case rel=>(first|exact ⟨1+1,by omega,by omega,by omega,rfl,hfin,(hx.drew).trans hx'⟩|((repeat apply Exists.intro);exact ⟨⟨1+1,by omega,by omega,by omega,rfl,hfin,(hx.drew).trans hx'⟩,rfl⟩)));(case measure=>simp[intOf]))
   ·clear h1 h5 h4 hn
    have b0:=byteInt (s[k]'(by omega))
    have b1:=byteInt (s[k+1]'(by omega))
    have hacc:Hid (acc 2 (s.data.toList.drop k) (2 - 1)=((s[k].toNat:Int) % 32*64+(s[k+1].toNat:Int) % 64).toNat):=by
     show _=_
     simp only[acc,accStart,show 2 - 1=1 from rfl,getD_at s k 0 (by omega),getD_at s k 1 (by omega)]
     simp
     omega
    go_wp2
    refine wp_loop_rounds 2 ?_
    rw[rounds_succ]
    go_wp2
    rw[rounds_succ]
    go_wp2
    have hj1:(k:Int)+2≤s.size:=by omega
    have hj0:0≤(k:Int)+2:=by omega
    have hj2:(k:Int)≤(k:Int)+2:=by omega
    have hj3:IntKind.i64.wrap ((k:Int)+2)=(k:Int)+2:=IntWalk.i64_in _ (by omega)
    have hj4:((k:Int)+2).toNat=k+2:=by omega
    go_region_with (go_at_call 155;refine (refEncode_int _ _ (by omega) (by omega)).mono ?_;rintro e w' ⟨rfl,hx'⟩)
    clear hj1 hj0 hj2 hj3 hj4
    go_wp2
    all_goals have hyn:((str (encN ((s[k].toNat:Int) % 32*64+(s[k+1].toNat:Int) % 64).toNat)).toList==(s.extract k (k+2)).toList)=true∨((str (encN ((s[k].toNat:Int) % 32*64+(s[k+1].toNat:Int) % 64).toNat)).toList==(s.extract k (k+2)).toList)=false:=by first|exact Or.inl ‹_› |exact Or.inr ‹_›
    all_goals have hl:=HL.out
    all_goals subst hl
    all_goals first|(have hfin:=ref_yes s k 2 (by omega) (by omega) hn' _ hacc.out hd.out ‹_›;go_ret2;exact ⟨by rw[hfin];exact ret2_eq (by simp only[];omega) rfl,(hx.drew).trans hx'⟩)|(have hfin:=ref_no s k 2 (by omega) (by omega) hn' _ hacc.out hd.out ‹_›;go_roundw;(case rel=>(first|exact ⟨2+1,by omega,by omega,by omega,rfl,hfin,(hx.drew).trans hx'⟩|((repeat apply Exists.intro);exact ⟨⟨2+1,by omega,by omega,by omega,rfl,hfin,(hx.drew).trans hx'⟩,rfl⟩)));(case measure=>simp[intOf]))
   ·clear h1 h5 h4 hn
    have b0:=byteInt (s[k]'(by omega))
    have b1:=byteInt (s[k+1]'(by omega))
    have b2:=byteInt (s[k+2]'(by omega))
    have hacc:Hid (acc 3 (s.data.toList.drop k) (3 - 1)=(((s[k].toNat:Int) % 16*64+(s[k+1].toNat:Int) % 64)*64+(s[k+2].toNat:Int) % 64).toNat):=by
     show _=_
     simp only[acc,accStart,show 3 - 1=2 from rfl,getD_at s k 0 (by omega),getD_at s k 1 (by omega),getD_at s k 2 (by omega)]
     simp
     omega
    go_wp2
    refine wp_loop_rounds 3 ?_
    rw[rounds_succ]
    go_wp2
    rw[rounds_succ]
    go_wp2
    rw[rounds_succ]
    go_wp2
    have hj1:(k:Int)+3≤s.size:=by omega
    have hj0:0≤(k:Int)+3:=by omega
    have hj2:(k:Int)≤(k:Int)+3:=by omega
    have hj3:IntKind.i64.wrap ((k:Int)+3)=(k:Int)+3:=IntWalk.i64_in _ (by omega)
    have hj4:((k:Int)+3).toNat=k+3:=by omega
    go_region_with (go_at_call 155;refine (refEncode_int _ _ (by omega) (by omega)).mono ?_;rintro e w' ⟨rfl,hx'⟩)
    clear hj1 hj0 hj2 hj3 hj4
    go_wp2
    all_goals have hyn:((str (encN (((s[k].toNat:Int) % 16*64+(s[k+1].toNat:Int) % 64)*64+(s[k+2].toNat:Int) % 64).toNat)).toList==(s.extract k (k+3)).toList)=true∨((str (encN (((s[k].toNat:Int) % 16*64+(s[k+1].toNat:Int) % 64)*64+(s[k+2].toNat:Int) % 64).toNat)).toList==(s.extract k (k+3)).toList)=false:=by first|exact Or.inl ‹_› |exact Or.inr ‹_›
    all_goals have hl:=HL.out
    all_goals subst hl
    all_goals first|(have hfin:=ref_yes s k 3 (by omega) (by omega) hn' _ hacc.out hd.out ‹_›;go_ret2;exact ⟨by rw[hfin];exact ret2_eq (by simp only[];omega) rfl,(hx.drew).trans hx'⟩)|(have hfin:=ref_no s k 3 (by omega) (by omega) hn' _ hacc.out hd.out ‹_›;go_roundw;(case rel=>(first|exact ⟨3+1,by omega,by omega,by omega,rfl,hfin,(hx.drew).trans hx'⟩|((repeat apply Exists.intro);exact ⟨⟨3+1,by omega,by omega,by omega,rfl,hfin,(hx.drew).trans hx'⟩,rfl⟩)));(case measure=>simp[intOf]))
   ·clear h1 h5 h4 hn
    have b0:=byteInt (s[k]'(by omega))
    have b1:=byteInt (s[k+1]'(by omega))
    have b2:=byteInt (s[k+2]'(by omega))
    have b3:=byteInt (s[k+3]'(by omega))
    have hacc:Hid (acc 4 (s.data.toList.drop k) (4 - 1)=((((s[k].toNat:Int) % 8*64+(s[k+1].toNat:Int) % 64)*64+(s[k+2].toNat:Int) % 64)*64+(s[k+3].toNat:Int) % 64).toNat):=by
     show _=_
     simp only[acc,accStart,show 4 - 1=3 from rfl,getD_at s k 0 (by omega),getD_at s k 1 (by omega),getD_at s k 2 (by omega),getD_at s k 3 (by omega)]
     simp
     omega
    go_wp2
    refine wp_loop_rounds 4 ?_
    rw[rounds_succ]
    go_wp2
    rw[rounds_succ]
    go_wp2
    rw[rounds_succ]
    go_wp2
    rw[rounds_succ]
    go_wp2
    have hj1:(k:Int)+4≤s.size:=by omega
    have hj0:0≤(k:Int)+4:=by omega
    have hj2:(k:Int)≤(k:Int)+4:=by omega
    have hj3:IntKind.i64.wrap ((k:Int)+4)=(k:Int)+4:=IntWalk.i64_in _ (by omega)
    have hj4:((k:Int)+4).toNat=k+4:=by omega
    go_region_with (go_at_call 155;refine (refEncode_int _ _ (by omega) (by omega)).mono ?_;rintro e w' ⟨rfl,hx'⟩)
    clear hj1 hj0 hj2 hj3 hj4
    go_wp2
    all_goals have hyn:((str (encN ((((s[k].toNat:Int) % 8*64+(s[k+1].toNat:Int) % 64)*64+(s[k+2].toNat:Int) % 64)*64+(s[k+3].toNat:Int) % 64).toNat)).toList==(s.extract k (k+4)).toList)=true∨((str (encN ((((s[k].toNat:Int) % 8*64+(s[k+1].toNat:Int) % 64)*64+(s[k+2].toNat:Int) % 64)*64+(s[k+3].toNat:Int) % 64).toNat)).toList==(s.extract k (k+4)).toList)=false:=by first|exact Or.inl ‹_› |exact Or.inr ‹_›
    all_goals have hl:=HL.out
    all_goals subst hl
    all_goals first|(have hfin:=ref_yes s k 4 (by omega) (by omega) hn' _ hacc.out hd.out ‹_›;go_ret2;exact ⟨by rw[hfin];exact ret2_eq (by simp only[];omega) rfl,(hx.drew).trans hx'⟩)|(have hfin:=ref_no s k 4 (by omega) (by omega) hn' _ hacc.out hd.out ‹_›;go_roundw;(case rel=>(first|exact ⟨4+1,by omega,by omega,by omega,rfl,hfin,(hx.drew).trans hx'⟩|((repeat apply Exists.intro);exact ⟨⟨4+1,by omega,by omega,by omega,rfl,hfin,(hx.drew).trans hx'⟩,rfl⟩)));(case measure=>simp[intOf]))
  ·have hfin:dec l=(0,0):=by
    rw[hd.out]
    have hlen:l.length=s.size - k:=by rw[←HL.out,List.length_drop,data_len]
    cases h:5 - n with
    |zero=>rfl
    |succ m=>rw[refFrom,if_neg (by omega)]
   have HF:=gd hfin
   clear hfin hd
   by_cases h6:n=5
   ·subst h6
    go_wp2
    all_goals go_ret2
    all_goals exact ⟨by rw[HF.out];rfl,hx⟩
   ·have h7:s.size<k+n:=by omega
    clear hlt h6
    go_wp2
    all_goals go_ret2
    all_goals exact ⟨by rw[HF.out];rfl,hx⟩
theorem refCheck_any (s:ByteArray) (w:World) (hs:s.size≤maxLen):
 Calls Tryz.prog 79 #[.string s] w fun e w'=>e= .returned (.tuple #[.int .i64 ((checkS s).1:Nat),.int .i64 ((checkS s).2:Nat)])∧Ext w w':=by
 have hml:=hs
 unfold maxLen at hs
 go_enter Tryz.func79,Tryz.ntmps79
 go_wp2
 go_loopw [4,5,6] (fun v _ _ wr=>∃k:Nat,k≤s.size∧v= .int .i64 k∧Hid (checkS s=checkGo s.data.toList.length k (s.data.toList.drop k))∧Ext w wr) (fun v _ _ _=>s.size - (intOf v).toNat)
 case atStart=>exact ⟨0,Nat.zero_le _,rfl,rfl,Ext.refl _⟩
 case round=>
  obtain ⟨k,hk,rfl,hc,hx⟩:=hrel
  by_cases hlt:k<s.size
  ·have hst:=check_at s.data.toList k (by rw[data_len];exact hlt)
   have hle:=dec_le (s.data.toList.drop k)
   rw[List.length_drop,data_len] at hle
   have hcon:=refDecode_in s k wr hlt hml
   have hc2:=hc.out.trans hst
   clear hc hst
   obtain ⟨R,hR⟩:∃R,(dec (s.data.toList.drop k)).1=R:=⟨_,rfl⟩
   obtain ⟨K,hK⟩:∃K,(dec (s.data.toList.drop k)).2=K:=⟨_,rfl⟩
   rw[hR,hK] at hcon hc2
   rw[hK] at hle
   clear hR hK
   have HC:=gd hcon
   have HS:=gd hc2
   clear hcon hc2
   by_cases h0:K=0
   ·subst h0
    have hfin:=HS.out
    rw[if_pos rfl] at hfin
    have HF:=gd hfin
    clear hfin HS
    go_wp2_with (first|(go_at_call 127;refine (HC.out).mono ?_;rintro e w' ⟨rfl,hx'⟩))
    go_ret2
    exact ⟨by rw[HF.out];rfl,hx.trans hx'⟩
   ·have hb:((K:Int)==0)=false:=by rw[beq_eq_false_iff_ne];omega
    by_cases hch:isChar R=false
    ·have hfin:=HS.out
     rw[if_neg h0,if_pos hch] at hfin
     have HF:=gd hfin
     clear hfin HS
     go_wp2_with (first|(go_at_call 127;refine (HC.out).mono ?_;rintro e w' ⟨rfl,hx'⟩)|(go_at_call 128;refine (refIsChar_any _ _).mono ?_;rintro e w' ⟨rfl,rfl⟩))
     go_ret2
     exact ⟨by rw[HF.out];rfl,hx.trans hx'⟩
    ·have hch':isChar R=true:=by simpa using hch
     have HS2:Hid (checkS s=checkGo s.data.toList.length (k+K) (s.data.toList.drop (k+K))):=by
      have h:=HS.out
      rw[if_neg h0,if_neg hch] at h
      exact h
     clear HS hch
     go_wp2_with (first|(go_at_call 127;refine (HC.out).mono ?_;rintro e w' ⟨rfl,hx'⟩)|(go_at_call 128;refine (refIsChar_any _ _).mono ?_;rintro e w' ⟨rfl,rfl⟩))
     go_roundw
     case rel=>exact ⟨k+K,by omega,by go_num,HS2,hx.trans hx'⟩
     case measure=>simp[intOf];omega
  ·have hke:k=s.size:=by omega
   have hfin:checkS s=(k,0):=by
    rw[hc.out,check_end _ _ (by rw[data_len];omega)]
   have HF:=gd hfin
   clear hfin hc hke
   go_wp2
   go_ret2
   exact ⟨by rw[HF.out];rfl,hx⟩
theorem bytes_one (l:List UInt8):∀y∈Lib.byteCells l,y.oneCell'=true:=by
 intro y hy
 simp[Lib.byteCells] at hy
 obtain ⟨b,_,rfl⟩:=hy
 rfl
theorem conv_own (w:World) (base:Nat) (v:Value) (l:List UInt8) (h:w.ownsRow base 5 1 v l.length (Lib.byteCells l)):
 (convert 115 9 v).run Tryz.prog w= .ok (.string (str l)) w:=by
 rcases h.2 with ⟨rfl,h0⟩|⟨g,cap,cur,rfl,_⟩
 ·have:l= []:=List.eq_nil_of_length_eq_zero h0
  subst this
  exact run_convert_bytes_nil w _ 5 Tryz.underlying115 Tryz.underlying5 0 0 _ Tryz.underlying9
 ·have:=run_convert_bytes_arg (P:=Tryz.prog) w _ 5 Tryz.underlying115 Tryz.underlying5 g 0 l.length cap (l.map fun b=>(b.toNat:Int)) (by simp) (fun i hi=> ?_) 9 Tryz.underlying9
  ·rw[this]
   have e:strOfNums (l.map fun b=>(b.toNat:Int))=str l:=by
    rw[str_nums,List.map_map]
    refine congrArg str ((List.map_congr_left ?_).trans (List.map_id l))
    intro x _
    simp
   rw[e]
  ·have hc:=h.cells (g:=g) rfl i (.int .u8 (l[i].toNat)) (by simp[Lib.byteCells,List.getElem?_eq_getElem hi])
   rw[show (⟨g,0,none⟩:Addr).add i=⟨g,0+i,none⟩ from by unfold Addr.add;split<;>simp_all] at hc
   rw[hc]
   simp[List.getD,List.getElem?_eq_getElem hi]
def gapOf (l:List UInt8) (k:Nat) (out:List UInt8):Bool:=decide (0<k) && isSp (l.getD (k - 1) 0).toNat && !out.isEmpty
theorem gap_sp (s:ByteArray) (out:List UInt8) (k:Nat) (hk:k<s.size) (h:isSp (s[k].toNat)=true):gapOf s.data.toList (k+1) out= !out.isEmpty:=by
 unfold gapOf
 have:s.data.toList.getD (k+1 - 1) 0=s[k]:=by
  rw[Nat.add_sub_cancel,List.getD_eq_getElem?_getD,List.getElem?_eq_getElem (by rw[data_len];exact hk)];rfl
 rw[this,h];simp
theorem gap_ch (s:ByteArray) (out:List UInt8) (k:Nat) (hk:k<s.size) (h:isSp (s[k].toNat)=false):gapOf s.data.toList (k+1) out=false:=by
 unfold gapOf
 have:s.data.toList.getD (k+1 - 1) 0=s[k]:=by
  rw[Nat.add_sub_cancel,List.getD_eq_getElem?_getD,List.getElem?_eq_getElem (by rw[data_len];exact hk)];rfl
 rw[this,h];simp
theorem refCollapse_any (s:ByteArray) (w:World) (hs:s.size≤140737488351232):
 Calls Tryz.prog 81 #[.string s] w fun e w'=>e= .returned (.string (collapse s))∧Ext w w':=by
 obtain ⟨i0,hi0,hz0,hz1,hz2⟩:=info_parts info_u8
 go_enter Tryz.func81,Tryz.ntmps81
 go_wp2
 go_loopw [3,4] (fun v i wr=>∃(k:Nat) (out:List UInt8),k≤s.size∧i= .int .i64 k∧Hid (out.length+(if gapOf s.data.toList k out then 1 else 0)≤k)∧
  wr.ownsRow w.heap.size 5 1 v out.length (Lib.byteCells out)∧Hid (coll s.data.toList=collGo (s.data.toList.drop k) out (gapOf s.data.toList k out))∧Ext w wr) (fun _ i _=>s.size - (intOf i).toNat)
 case atStart=>exact ⟨0,[],Nat.zero_le _,rfl,by show _≤_;simp[gapOf],World.ownsRow_nil _ _ _ _,rfl,Ext.refl _⟩
 case round=>
  obtain ⟨k,out,hk,rfl,hlen,hown,hc,hx⟩:=hrel
  have hsz:=hx.size
  have hle:out.length≤k:=by have:=hlen.out;omega
  by_cases hlt:k<s.size
  ·by_cases hsp:isSp (s[k]).toNat=true
   ·have HC:=gd (hc.out.trans (coll_sp s out _ k hlt hsp))
    rw[←gap_sp s out k hlt hsp] at HC
    have HL:Hid (out.length+(if gapOf s.data.toList (k+1) out then 1 else 0)≤k+1):=by
     show _≤_
     split<;>omega
    clear hc hlen
    go_wp2_with (go_at_call 113;refine (refIsSpace_any _ _).mono ?_;rintro e w' ⟨rfl,rfl⟩)
    go_roundw
    case rel=>exact ⟨k+1,out,by omega,by go_num,HL,hown,HC,hx⟩
    case measure=>simp[intOf];omega
   ·have hsp':isSp (s[k]).toNat=false:=by simpa using hsp
    have hgn:=gap_ch s
    have hc1:=hc.out.trans (coll_ch s out _ k hlt hsp')
    cases hg:gapOf s.data.toList k out
    ·rw[hg] at hc1
     simp only[Bool.false_eq_true,if_false,List.append_nil] at hc1
     rw[←gap_ch s (out++ [s[k]]) k hlt hsp'] at hc1
     have HC:=gd hc1
     have HL:Hid ((out++ [s[k]]).length+(if gapOf s.data.toList (k+1) (out++ [s[k]]) then 1 else 0)≤k+1):=by
      show _≤_
      rw[gap_ch s _ k hlt hsp']
      simp;omega
     clear hc hlen hc1 hgn hsp
     have HOWN:=hown
     obtain ⟨_,A,c,rfl,hmc,hcm,_,_⟩:=RSl.of_own hown
     unfold gapOf at hg
     have hcase:k=0∨(∃j,k=j+1∧isSp (s.data.toList.getD j 0).toNat=false)∨(∃j,k=j+1∧isSp (s.data.toList.getD j 0).toNat=true∧out= []):=by
      cases k with
      |zero=>exact Or.inl rfl
      |succ j=>
       simp at hg
       cases h:isSp (s.data.toList.getD j 0).toNat
       ·exact Or.inr (Or.inl ⟨j,rfl,h⟩)
       ·exact Or.inr (Or.inr ⟨j,rfl,h,by simpa using hg (by simpa using h)⟩)
     clear hg
     rcases hcase with rfl|⟨j,rfl,hj⟩|⟨j,rfl,hj,rfl⟩
     ·go_wp2_with (first|(go_at_call 113;refine (refIsSpace_any _ _).mono ?_;rintro e w' ⟨rfl,rfl⟩)|(at_builtin;refine wpList_append_rsl _ rfl (.tmp 33) (.tmp 37) _ rfl w.heap.size 5 i0 _ 1 1 Tryz.underlying115 hi0 hz0 hz1 hz2 rfl (by omega) _ _ _ rfl (HOWN.alloc _) _ 1 _ rfl (rsl_new (cs:= [.int .u8 s[0].toNat]) (by simp) (by unfold maxLen;omega)) (bytes_one [s[0]]) (by unfold maxLen;omega) (by omega) (by simp;omega) ?_;intro v1 w1 hown1 hg1 hat1))
      have hx1:Ext w w1:=(hx.alloc _).app hg1 (HOWN.alloc _) (Nat.le_refl _)
      have hown2:w1.ownsRow w.heap.size 5 1 v1 (out++ [s[0]]).length (Lib.byteCells (out++ [s[0]])):=by
       rw[byteCells_app,List.length_append];exact hown1
      clear hg1 hat1 hown1
      go_wp2
      go_roundw
      case rel=>first|exact ⟨0+1,out++ [s[0]],by omega,by go_num,HL,hown2,HC,hx1⟩|((repeat apply Exists.intro);exact ⟨⟨0+1,out++ [s[0]],by omega,by go_num,HL,hown2,HC,hx1⟩,rfl⟩)
      case measure=>simp[intOf];omega
     ·have hj':isSp (s[j].toNat)=false:=by
       rw[←hj,List.getD_eq_getElem?_getD,List.getElem?_eq_getElem (by rw[data_len];omega)];rfl
      go_wp2_with (first|(go_at_call 113;refine (refIsSpace_any _ _).mono ?_;rintro e w' ⟨rfl,rfl⟩)|(at_builtin;refine wpList_append_rsl _ rfl (.tmp 33) (.tmp 37) _ rfl w.heap.size 5 i0 _ 1 1 Tryz.underlying115 hi0 hz0 hz1 hz2 rfl (by omega) _ _ _ rfl (HOWN.alloc _) _ 1 _ rfl (rsl_new (cs:= [.int .u8 s[j+1].toNat]) (by simp) (by unfold maxLen;omega)) (bytes_one [s[j+1]]) (by unfold maxLen;omega) (by omega) (by simp;omega) ?_;intro v1 w1 hown1 hg1 hat1))
      have hx1:Ext w w1:=(hx.alloc _).app hg1 (HOWN.alloc _) (Nat.le_refl _)
      have hown2:w1.ownsRow w.heap.size 5 1 v1 (out++ [s[j+1]]).length (Lib.byteCells (out++ [s[j+1]])):=by
       rw[byteCells_app,List.length_append];exact hown1
      clear hg1 hat1 hown1
      go_wp2
      go_roundw
      case rel=>first|exact ⟨j+1+1,out++ [s[j+1]],by omega,by go_num,HL,hown2,HC,hx1⟩|((repeat apply Exists.intro);exact ⟨⟨j+1+1,out++ [s[j+1]],by omega,by go_num,HL,hown2,HC,hx1⟩,rfl⟩)
      case measure=>simp[intOf];omega
     ·have hj':isSp (s[j].toNat)=true:=by
       rw[←hj,List.getD_eq_getElem?_getD,List.getElem?_eq_getElem (by rw[data_len];omega)];rfl
      go_wp2_with (first|(go_at_call 113;refine (refIsSpace_any _ _).mono ?_;rintro e w' ⟨rfl,rfl⟩)|(at_builtin;refine wpList_append_rsl _ rfl (.tmp 33) (.tmp 37) _ rfl w.heap.size 5 i0 _ 1 1 Tryz.underlying115 hi0 hz0 hz1 hz2 rfl (by omega) _ _ _ rfl (HOWN.alloc _) _ 1 _ rfl (rsl_new (cs:= [.int .u8 s[j+1].toNat]) (by simp) (by unfold maxLen;omega)) (bytes_one [s[j+1]]) (by unfold maxLen;omega) (by omega) (by simp;omega) ?_;intro v1 w1 hown1 hg1 hat1))
      have hx1:Ext w w1:=(hx.alloc _).app hg1 (HOWN.alloc _) (Nat.le_refl _)
      have hown2:w1.ownsRow w.heap.size 5 1 v1 (([]:List UInt8)++ [s[j+1]]).length (Lib.byteCells (([]:List UInt8)++ [s[j+1]])):=by
       rw[byteCells_app,List.length_append];exact hown1
      clear hg1 hat1 hown1
      go_wp2
      go_roundw
      case rel=>first|exact ⟨j+1+1,([]:List UInt8)++ [s[j+1]],by omega,by go_num,HL,hown2,HC,hx1⟩|((repeat apply Exists.intro);exact ⟨⟨j+1+1,([]:List UInt8)++ [s[j+1]],by omega,by go_num,HL,hown2,HC,hx1⟩,rfl⟩)
      case measure=>simp[intOf];omega
    ·rw[hg] at hc1 hlen
     simp only[if_true] at hc1 hlen
     have hlen':=hlen.out
     rw[←gap_ch s (out++ [32]++ [s[k]]) k hlt hsp'] at hc1
     have HC:=gd hc1
     have HL:Hid ((out++ [32]++ [s[k]]).length+(if gapOf s.data.toList (k+1) (out++ [32]++ [s[k]]) then 1 else 0)≤k+1):=by
      show _≤_
      rw[gap_ch s _ k hlt hsp']
      simp;omega
     clear hc hlen hc1 hgn hsp
     have HOWN:=hown
     obtain ⟨_,A,c,rfl,hmc,hcm,_,_⟩:=RSl.of_own hown
     unfold gapOf at hg
     simp only[Bool.and_eq_true,decide_eq_true_eq] at hg
     obtain ⟨⟨hk0,hj⟩,hne⟩:=hg
     obtain ⟨j,rfl⟩:∃j,k=j+1:=⟨k - 1,by omega⟩
     rw[Nat.add_sub_cancel] at hj
     have hj':isSp (s[j].toNat)=true:=by
      rw[←hj,List.getD_eq_getElem?_getD,List.getElem?_eq_getElem (by rw[data_len];omega)];rfl
     have hpos:0<out.length:=by
      cases out with
      |nil=>simp at hne
      |cons a t=>simp
     clear hk0 hj hne
     go_wp2_with (first|(go_at_call 113;refine (refIsSpace_any _ _).mono ?_;rintro e w' ⟨rfl,rfl⟩)|(at_builtin;refine wpList_append_rsl _ rfl (.tmp 30) (.tmp 31) _ rfl w.heap.size 5 i0 _ 1 1 Tryz.underlying115 hi0 hz0 hz1 hz2 rfl (by omega) _ _ _ rfl (HOWN.alloc _) _ 1 _ rfl (rsl_new (cs:= [.int .u8 32]) (by simp) (by unfold maxLen;omega)) (by intro y hy;simp at hy;subst hy;rfl) (by unfold maxLen;omega) (by omega) (by simp;omega) ?_;intro v1 w1 hown1 hg1 hat1;have hs1:w.heap.size≤w1.heap.size:=((hx.alloc _).app hg1 (HOWN.alloc _) (Nat.le_refl _)).size)|(at_builtin;refine wpList_append_rsl _ rfl (.tmp 33) (.tmp 37) _ rfl w.heap.size 5 i0 _ 1 1 Tryz.underlying115 hi0 hz0 hz1 hz2 rfl (by omega) _ _ _ rfl (hown1.alloc _) _ 1 _ rfl (rsl_new (cs:= [.int .u8 s[j+1].toNat]) (by simp) (by unfold maxLen;omega)) (bytes_one [s[j+1]]) (by unfold maxLen;omega) (by omega) (by simp;omega) ?_;intro v2 w2 hown2 hg2 hat2))
     have hx1:Ext w w1:=(hx.alloc _).app hg1 (HOWN.alloc _) (Nat.le_refl _)
     have hx2:Ext w w2:=(hx1.alloc _).app hg2 (hown1.alloc _) (Nat.le_refl _)
     have hown3:w2.ownsRow w.heap.size 5 1 v2 (out++ [32]++ [s[j+1]]).length (Lib.byteCells (out++ [32]++ [s[j+1]])):=by
      rw[byteCells_app,byteCells_app,List.length_append,List.length_append];exact hown2
     clear hg1 hat1 hown1 hg2 hat2 hown2
     go_wp2
     go_roundw
     case rel=>first|exact ⟨j+1+1,out++ [32]++ [s[j+1]],by omega,by go_num,HL,hown3,HC,hx2⟩|((repeat apply Exists.intro);exact ⟨⟨j+1+1,out++ [32]++ [s[j+1]],by omega,by go_num,HL,hown3,HC,hx2⟩,rfl⟩)
     case measure=>simp[intOf];omega
  ·have hfin:coll s.data.toList=out:=by
    rw[hc.out,List.drop_of_length_le (by rw[data_len];omega)];rfl
   have HF:Hid (str out=collapse s):=by unfold collapse;rw[hfin];rfl
   have kc:=conv_own wr _ _ out hown
   clear hfin hc hlen
   go_wp2
   go_ret
   exact ⟨by rw[←HF.out];rfl,hx⟩
theorem refValid_any (s:ByteArray) (w:World) (hs:s.size≤140737488351232):
 Calls Tryz.prog 58 #[.string s] w fun e w'=>e= .returned (.bool (validS s))∧Ext w w':=by
 have hml:s.size≤maxLen:=by unfold maxLen;omega
 have hcon:=refCheck_any s w hml
 obtain ⟨K,hK⟩:∃K,(checkS s).2=K:=⟨_,rfl⟩
 obtain ⟨R,hR⟩:∃R,collapse s=R:=⟨_,rfl⟩
 have hfin:validS s=(decide (K=0) && (R.data.toList==s.data.toList)):=by unfold validS;rw[hK,hR]
 have hcol:=fun w'=>refCollapse_any s w' hs
 rw[hK] at hcon
 rw[hR] at hcol
 rw[hfin]
 clear hfin hK hR
 have HC:=gd hcon
 have HD:=gd hcol
 clear hcon hcol
 by_cases h0:K=0
 ·subst h0
  go_enter Tryz.func58,Tryz.ntmps58
  go_wp2_with (first|(go_at_call 79;refine (HC.out).mono ?_;rintro e w' ⟨rfl,hx⟩)|(go_at_call 81;refine (HD.out _).mono ?_;rintro e w' ⟨rfl,hx'⟩))
  go_ret
  exact ⟨by simp[toList_beq],hx.trans hx'⟩
 ·have hb:((K:Int)==0)=false:=by rw[beq_eq_false_iff_ne];omega
  have hk:decide (K=0)=false:=by simp[h0]
  rw[hk]
  clear hk h0
  go_enter Tryz.func58,Tryz.ntmps58
  go_wp2_with (first|(go_at_call 79;refine (HC.out).mono ?_;rintro e w' ⟨rfl,hx⟩)|(go_at_call 81;refine (HD.out _).mono ?_;rintro e w' ⟨rfl,hx'⟩))
  go_ret
  exact ⟨by simp,hx⟩
section
set_option linter.unusedSimpArgs false
def dimI (y m:Int):Nat:=if 1≤y∧y≤9999∧1≤m∧m≤12 then dimN y.toNat m.toNat else 0
theorem dimI_nat {y m:Nat} (h:1≤y∧y≤9999∧1≤m∧m≤12):dimI y m=dimN y m:=by
 unfold dimI;rw[if_pos (by omega)];rfl
theorem dimI_bad {y m:Int} (h:¬(1≤y∧y≤9999∧1≤m∧m≤12)):dimI y m=0:=by
 unfold dimI;rw[if_neg h]
theorem leap_any (y:Nat) (w:World) (h1:1≤y) (h2:y≤9999):
 Calls Tryz.prog 174 #[.int .i64 (y:Nat)] w fun e w'=>e= .returned (.bool (leapN y))∧w'=w:=by
 have a1:(1:Int)≤(y:Int):=by omega
 have a2:(y:Int)≤9999:=by omega
 go_enter Tryz.func174,Tryz.ntmps174
 go_wp2
 all_goals go_ret
 all_goals exact ⟨congrArg (fun b=>Ending.returned (Value.bool b)) (Bool.eq_iff_iff.2 (by rw[leapN_iff];simp;omega)),rfl⟩
theorem dim_form {m:Nat} (h1:1≤m) (h4:m≤12) (h5:m≠2) (y:Nat):30+((m:Int)+(m:Int) / 8) % 2=(dimN y m:Nat):=by
 unfold dimN
 rw[if_neg h5]
 have:∀k:Fin 13,1≤k.1→k.1≠2→30+((k.1:Int)+(k.1:Int) / 8) % 2=((if k.1=4∨k.1=6∨k.1=9∨k.1=11 then 30 else 31:Nat):Int):=by decide
 exact this ⟨m,by omega⟩ h1 h5
theorem daysIn_any (y m:Int) (w:World):
 Calls Tryz.prog 139 #[.int .i64 y,.int .i64 m] w fun e w'=>e= .returned (.int .i64 (dimI y m:Nat))∧w'=w:=by
 by_cases h:1≤y∧y≤9999∧1≤m∧m≤12
 ·obtain ⟨y,rfl⟩:=Int.eq_ofNat_of_zero_le (show 0≤y by omega)
  obtain ⟨m,rfl⟩:=Int.eq_ofNat_of_zero_le (show 0≤m by omega)
  have h':1≤y∧y≤9999∧1≤m∧m≤12:=by omega
  have HD:=gd (dimI_nat h')
  obtain ⟨h1,h2,h3,h4⟩:=h'
  have HL:=gd (fun w'=>leap_any y w' h1 h2)
  have a1:¬(y:Int)<1:=by omega
  have a2:¬9999<(y:Int):=by omega
  have a3:¬(m:Int)<1:=by omega
  have a4:¬12<(m:Int):=by omega
  by_cases h5:m=2
  ·have HF:Hid (dimN y m=if leapN y then 29 else 28):=by show _=_;unfold dimN;rw[if_pos h5]
   subst h5
   cases hb:leapN y
   ·rw[hb] at HL
    clear h h1 h2 h3 h4
    go_enter Tryz.func139,Tryz.ntmps139
    go_wp2_with (first|(go_at_call 174;(with_reducible refine Calls.mono (HL.out _) ?_);rintro e w1 ⟨rfl,rfl⟩))
    go_ret
    exact ⟨by rw[HD.out,HF.out,hb];rfl,rfl⟩
   ·rw[hb] at HL
    clear h h1 h2 h3 h4
    go_enter Tryz.func139,Tryz.ntmps139
    go_wp2_with (first|(go_at_call 174;(with_reducible refine Calls.mono (HL.out _) ?_);rintro e w1 ⟨rfl,rfl⟩))
    go_ret
    exact ⟨by rw[HD.out,HF.out,hb];rfl,rfl⟩
  ·have HF:=gd (dim_form h3 h4 h5 y)
   have a5:¬(m:Int)=2:=by omega
   clear h h5
   go_enter Tryz.func139,Tryz.ntmps139
   go_wp2
   go_ret
   exact ⟨by rw[HD.out,←HF.out];rfl,rfl⟩
 ·have HD:=gd (dimI_bad h)
  have hc:y<1∨(¬y<1∧9999<y)∨(¬y<1∧¬9999<y∧m<1)∨(¬y<1∧¬9999<y∧¬m<1∧12<m):=by omega
  clear h
  go_enter Tryz.func139,Tryz.ntmps139
  rcases hc with hc|⟨hc,hd⟩|⟨hc,hd,he⟩|⟨hc,hd,he,hf⟩
  all_goals go_wp2
  all_goals go_ret
  all_goals exact ⟨by rw[HD.out];rfl,rfl⟩
def dayN (y m d:Nat):Int:=((befN y+monN y (m - 1)+(d - 1):Nat):Int) - 719162
theorem befN_le {y:Nat} (h:1≤y) (h2:y≤10000):befN y≤3652059:=by
 have:=befN_mono h h2
 have h3:befN 10000=3652059:=by decide
 omega
theorem monN_le (y:Nat) {m:Nat} (h:m≤12):monN y m≤366:=by
 have:=monN_mono y h
 have h2:=monN_12 y
 unfold lenN at h2
 split at h2<;>omega
theorem befN_int {y:Nat} (h:1≤y):365*((y:Int) - 1)+((y:Int) - 1) / 4 - ((y:Int) - 1) / 100+((y:Int) - 1) / 400=(befN y:Nat):=by
 obtain ⟨p,rfl⟩:∃p,y=p+1:=⟨y - 1,by omega⟩
 have e:(((p+1:Nat):Int) - 1)=(p:Int):=by omega
 rw[e]
 unfold befN
 rw[Nat.add_sub_cancel]
 have e4:((p:Int) / 4)=((p / 4:Nat):Int):=by omega
 have e1:((p:Int) / 100)=((p / 100:Nat):Int):=by omega
 have e0:((p:Int) / 400)=((p / 400:Nat):Int):=by omega
 rw[e4,e1,e0]
 have:p / 100≤365*p:=by omega
 generalize p / 4=a at*
 generalize p / 100=b at*
 generalize p / 400=c at*
 omega
theorem daysA_bad (y m d:Int) (w:World) (h:d<1∨(dimI y m:Int)<d):
 Calls Tryz.prog 160 #[.int .i64 y,.int .i64 m,.int .i64 d] w fun e w'=>e= .returned (.tuple #[.int .i64 0,.int .i64 3])∧w'=w:=by
 have HL:=gd (fun w'=>daysIn_any y m w')
 generalize dimI y m=D at*
 have hc:d<1∨(¬d<1∧(D:Int)<d):=by omega
 clear h
 go_enter Tryz.func160,Tryz.ntmps160
 rcases hc with hc|⟨hc,hd⟩
 ·go_wp2
  go_ret2
  exact ⟨rfl,rfl⟩
 ·go_wp2_with (first|(go_at_call 139;(with_reducible refine Calls.mono (HL.out _) ?_);rintro e w1 ⟨rfl,rfl⟩))
  go_ret2
  exact ⟨rfl,rfl⟩
theorem daysA_ok (y m d:Nat) (w:World) (h:1≤y∧y≤9999∧1≤m∧m≤12) (hd1:1≤d) (hd2:d≤dimN y m):
 Calls Tryz.prog 160 #[.int .i64 (y:Nat),.int .i64 (m:Nat),.int .i64 (d:Nat)] w fun e w'=>e= .returned (.tuple #[.int .i64 (dayN y m d),.int .i64 0])∧w'=w:=by
 have hD:∀k:Nat,1≤k→k≤12→∀w',Calls Tryz.prog 139 #[.int .i64 (y:Nat),.int .i64 (k:Nat)] w' fun e w''=>e= .returned (.int .i64 (dimN y k:Nat))∧w''=w':=fun k h3 h4 w'=>by
  have:=daysIn_any y k w'
  rwa [dimI_nat ⟨h.1,h.2.1,h3,h4⟩] at this
 have HL:=gd hD
 have hdm:=(dimN_pos y m).2
 have hbe:=gd (befN_int h.1)
 have hbl:=befN_le h.1 (by omega)
 obtain ⟨R,hR⟩:∃R,dayN y m d=R:=⟨_,rfl⟩
 rw[hR]
 have HR:=gd hR
 have HM:=gd (fun k (hk:k≤12)=>monN_le y hk)
 obtain ⟨D,hDd⟩:∃D,dimN y m=D:=⟨_,rfl⟩
 have HLm:=gd (hD m h.2.2.1 h.2.2.2)
 rw[hDd] at hd2 HLm hdm
 obtain ⟨B,hB⟩:∃B,befN y=B:=⟨_,rfl⟩
 rw[hB] at hbl hbe
 clear hD hR hDd
 obtain ⟨h1,h2,h3,h4⟩:=h
 have a1:¬(d:Int)<1:=by omega
 have a2:¬(D:Int)<d:=by omega
 have a3:¬D<d:=by omega
 go_enter Tryz.func160,Tryz.ntmps160
 go_wp2_with (first|(go_at_call 139;(with_reducible refine Calls.mono (HLm.out _) ?_);rintro e w1 ⟨rfl,rfl⟩))
 go_loopw [9,38] (fun n i wr=>∃k:Nat,k+1≤m∧n= .int .i64 ((B+monN y k+(d - 1):Nat):Int)∧i= .int .i64 (k:Nat)∧wr=w1) (fun _ i _=>m - (intOf i).toNat)
 case atStart=>exact ⟨0,h3,by rw[hbe.out];refine congrArg (Value.int .i64) ?_;show _=((B+0+(d - 1):Nat):Int);omega,rfl,rfl⟩
 case round=>
  obtain ⟨k,hk,rfl,rfl,rfl⟩:=hrel
  have hml:=HM.out k (by omega)
  by_cases hlt:k+1<m
  ·have b1:(k:Int)<(m:Int) - 1:=by omega
   have HC:=gd (HL.out (k+1) (by omega) (by omega))
   rw[show ((k+1:Nat):Int)=(k:Int)+1 by omega] at HC
   have hdk:=dimN_pos y (k+1)
   have hst:Hid (monN y (k+1)=monN y k+dimN y (k+1)):=rfl
   obtain ⟨E,hE⟩:∃E,dimN y (k+1)=E:=⟨_,rfl⟩
   rw[hE] at HC hdk hst
   obtain ⟨M,hM⟩:∃M,monN y k=M:=⟨_,rfl⟩
   rw[hM] at hst hml
   simp only[hM]
   clear hE hM
   go_wp2_with (first|(go_at_call 139;(with_reducible refine Calls.mono (HC.out _) ?_);rintro e w1 ⟨rfl,rfl⟩))
   go_roundw
   case rel=>exact ⟨k+1,hlt,by rw[hst.out];refine congrArg (Value.int .i64) ?_;omega,by go_num,trivial⟩
   case measure=>simp[intOf];omega
  ·have hke:k=m - 1:=by omega
   have b1:¬(k:Int)<(m:Int) - 1:=by omega
   have hF:Hid (((B+monN y k+(d - 1):Nat):Int) - 719162=R):=by
    show _=_
    rw[←HR.out,dayN,hB,hke]
   obtain ⟨M,hM⟩:∃M,monN y k=M:=⟨_,rfl⟩
   rw[hM] at hF hml
   simp only[hM]
   clear hM
   go_wp2
   go_ret2
   exact ⟨by rw[←hF.out];rfl,rfl⟩
def secsI (y m d h mi s:Int):Option Int:=
 if 1≤d∧d≤dimI y m∧0≤h∧h≤23∧0≤mi∧mi≤59∧0≤s∧s≤59 then some (dayN y.toNat m.toNat d.toNat*86400+(h*3600+mi*60+s)) else none
theorem dimI_pos {y m:Int} (h:1≤dimI y m):1≤y∧y≤9999∧1≤m∧m≤12:=by
 by_cases hc:1≤y∧y≤9999∧1≤m∧m≤12
 ·exact hc
 ·rw[dimI_bad hc] at h;omega
theorem secsI_nat (y m d h mi s:Nat):secsI y m d h mi s=secsP y m d h mi s:=by
 unfold secsI secsP
 by_cases hc:1≤y∧y≤9999∧1≤m∧m≤12
 ·rw[dimI_nat hc]
  by_cases hd:1≤d∧d≤dimN y m∧h≤23∧mi≤59∧s≤59
  ·rw[if_pos (by omega),if_pos (by omega)]
   simp only[Int.toNat_natCast,dayN]
   congr 1;omega
  ·rw[if_neg (by omega),if_neg (by omega)]
 ·rw[dimI_bad (by omega),if_neg (by omega),if_neg (by omega)]
theorem dayN_in {y m d:Nat} (h:1≤y∧y≤9999∧1≤m∧m≤12) (hd2:d≤dimN y m): -719162≤dayN y m d∧dayN y m d≤2933300:=by
 have a:=befN_le h.1 (show y≤10000 by omega)
 have b:=monN_le y (show m - 1≤12 by omega)
 have c:=(dimN_pos y m).2
 unfold dayN
 omega
theorem seconds_any (y m d h mi s:Int) (w:World):
 Calls Tryz.prog 118 #[.int .i64 y,.int .i64 m,.int .i64 d,.int .i64 h,.int .i64 mi,.int .i64 s] w fun e w'=>
  e= .returned (match secsI y m d h mi s with|some t=> .tuple #[.int .i64 t,.int .i64 0]|none=> .tuple #[.int .i64 0,.int .i64 3])∧w'=w:=by
 by_cases hd:d<1∨(dimI y m:Int)<d
 ·have hN:secsI y m d h mi s=none:=by unfold secsI;rw[if_neg (by omega)]
  rw[hN]
  have HC:=gd (fun w'=>daysA_bad y m d w' hd)
  clear hd hN
  go_enter Tryz.func118,Tryz.ntmps118
  go_wp2_with (first|(go_at_call 160;(with_reducible refine Calls.mono (HC.out _) ?_);rintro e w1 ⟨rfl,rfl⟩))
  go_ret2
  exact ⟨rfl,rfl⟩
 ·have hp:=dimI_pos (y:=y) (m:=m) (by omega)
  obtain ⟨y,rfl⟩:=Int.eq_ofNat_of_zero_le (show 0≤y by omega)
  obtain ⟨m,rfl⟩:=Int.eq_ofNat_of_zero_le (show 0≤m by omega)
  obtain ⟨d,rfl⟩:=Int.eq_ofNat_of_zero_le (show 0≤d by omega)
  have hp':1≤y∧y≤9999∧1≤m∧m≤12:=by omega
  have hdi:=dimI_nat hp'
  have HC:=gd (fun w'=>daysA_ok y m d w' hp' (by omega) (by omega))
  have hin:=dayN_in (d:=d) hp' (by omega)
  by_cases hs:0≤h∧h≤23∧0≤mi∧mi≤59∧0≤s∧s≤59
  ·have hS:secsI y m d h mi s=some (dayN y m d*86400+(h*3600+mi*60+s)):=by unfold secsI;rw[if_pos (by omega)];rfl
   rw[hS]
   generalize dayN y m d=X at*
   obtain ⟨h,rfl⟩:=Int.eq_ofNat_of_zero_le (show 0≤h by omega)
   obtain ⟨mi,rfl⟩:=Int.eq_ofNat_of_zero_le (show 0≤mi by omega)
   obtain ⟨s,rfl⟩:=Int.eq_ofNat_of_zero_le (show 0≤s by omega)
   have b1:¬(h:Int)<0:=by omega
   have b2:¬23<(h:Int):=by omega
   have b3:¬(mi:Int)<0:=by omega
   have b4:¬59<(mi:Int):=by omega
   have b5:¬(s:Int)<0:=by omega
   have b6:¬59<(s:Int):=by omega
   obtain ⟨X1,X2⟩:=hin
   clear hS hdi hp hp' hd hs
   go_enter Tryz.func118,Tryz.ntmps118
   go_wp2_with (first|(go_at_call 160;(with_reducible refine Calls.mono (HC.out _) ?_);rintro e w1 ⟨rfl,rfl⟩))
   go_ret2
   exact ⟨by refine congrArg (fun t=>Ending.returned (.tuple #[.int .i64 t,.int .i64 0])) ?_;show X*86400+(h:Int)*3600+(mi:Int)*60+(s:Int)=_;omega,rfl⟩
  ·have hN:secsI y m d h mi s=none:=by unfold secsI;rw[if_neg (by omega)]
   rw[hN]
   generalize dayN y m d=X at*
   have hc:h<0∨(¬h<0∧23<h)∨(¬h<0∧¬23<h∧mi<0)∨(¬h<0∧¬23<h∧¬mi<0∧59<mi)∨(¬h<0∧¬23<h∧¬mi<0∧¬59<mi∧s<0)∨(¬h<0∧¬23<h∧¬mi<0∧¬59<mi∧¬s<0∧59<s):=by omega
   clear hN hdi hp hp' hd hs hin
   go_enter Tryz.func118,Tryz.ntmps118
   rcases hc with hc|⟨c1,hc⟩|⟨c1,c2,hc⟩|⟨c1,c2,c3,hc⟩|⟨c1,c2,c3,c4,hc⟩|⟨c1,c2,c3,c4,c5,hc⟩
   all_goals go_wp2_with (first|(go_at_call 160;(with_reducible refine Calls.mono (HC.out _) ?_);rintro e w1 ⟨rfl,rfl⟩))
   all_goals go_ret2
   all_goals exact ⟨rfl,rfl⟩
end
def oi:Option Nat→Int
 |some n=>n
 |none=> -1
theorem numP_none {l:List UInt8} {a k:Nat} (h:digP l (a+k)=none):∀{w:Nat},k<w→numP l a w=none
 |0,hk=>by omega
 |w+1,hk=>by
  unfold numP
  rcases Nat.lt_or_ge k w with h1|h1
  ·rw[numP_none h h1]
  ·obtain rfl:k=w:=by omega
   rw[h]
   cases numP l a k<;>rfl
theorem digP_end {l:List UInt8} {i:Nat} (h:l.length≤i):digP l i=none:=by
 unfold digP;rw[List.getElem?_eq_none h]
theorem numP_short {l:List UInt8} {a w:Nat} (h:l.length<a+w) (hw:0<w):numP l a w=none:=
 numP_none (k:=w - 1) (digP_end (by omega)) (by omega)
theorem digP_lt {l:List UInt8} {i d:Nat} (h:digP l i=some d):d<10:=by
 unfold digP at h
 cases hc:l[i]? with
 |none=>rw[hc] at h;cases h
 |some c=>
  rw[hc] at h
  simp only at h
  split at h
  ·injection h with h;omega
  ·cases h
theorem numP_lt {l:List UInt8} {a:Nat}:∀{w n:Nat},numP l a w=some n→n<10 ^ w
 |0,n,h=>by injection h with h;subst h;decide
 |w+1,n,h=>by
  unfold numP at h
  cases h1:numP l a w with
  |none=>rw[h1] at h;cases h
  |some m=>
   cases h2:digP l (a+w) with
   |none=>rw[h1,h2] at h;cases h
   |some d=>
    rw[h1,h2] at h
    injection h with h
    have:=numP_lt h1
    have:=digP_lt h2
    rw[Nat.pow_succ];omega
theorem numP_step {l:List UInt8} {a w n d:Nat} (h1:numP l a w=some n) (h2:digP l (a+w)=some d):numP l a (w+1)=some (n*10+d):=by
 unfold numP;rw[h1,h2]
theorem digP_at {l:List UInt8} {i:Nat} (h:i<l.length):digP l i=if 48≤l[i].toNat∧l[i].toNat≤57 then some (l[i].toNat - 48) else none:=by
 unfold digP;rw[List.getElem?_eq_getElem h]
theorem sepP_at {l:List UInt8} {i:Nat} (a b:Nat) (h:i<l.length):sepP l i a b=(decide (l[i].toNat=a)||decide (l[i].toNat=b)):=by
 unfold sepP;rw[List.getElem?_eq_getElem h]
theorem sepP_end {l:List UInt8} {i:Nat} (a b:Nat) (h:l.length≤i):sepP l i a b=false:=by
 unfold sepP;rw[List.getElem?_eq_none h]
theorem secsI_oi (y m d h mi s:Option Nat):secsI (oi y) (oi m) (oi d) (oi h) (oi mi) (oi s)=match y,m,d,h,mi,s with
 |some y,some m,some d,some h,some mi,some s=>secsP y m d h mi s
 |_,_,_,_,_,_=>none:=by
 have bad:∀(y m d h mi s:Int),y= -1∨m= -1∨d= -1∨h= -1∨mi= -1∨s= -1→secsI y m d h mi s=none:=by
  intro y m d h mi s hc
  unfold secsI
  rw[if_neg]
  rintro ⟨h1,h2,h3,h4,h5,h6,h7,h8⟩
  have:=dimI_pos (y:=y) (m:=m) (by omega)
  omega
 cases y with
 |none=>simp only;exact bad _ _ _ _ _ _ (Or.inl rfl)
 |some y=>cases m with
  |none=>simp only;exact bad _ _ _ _ _ _ (Or.inr (Or.inl rfl))
  |some m=>cases d with
   |none=>simp only;exact bad _ _ _ _ _ _ (Or.inr (Or.inr (Or.inl rfl)))
   |some d=>cases h with
    |none=>simp only;exact bad _ _ _ _ _ _ (Or.inr (Or.inr (Or.inr (Or.inl rfl))))
    |some h=>cases mi with
     |none=>simp only;exact bad _ _ _ _ _ _ (Or.inr (Or.inr (Or.inr (Or.inr (Or.inl rfl)))))
     |some mi=>cases s with
      |none=>simp only;exact bad _ _ _ _ _ _ (Or.inr (Or.inr (Or.inr (Or.inr (Or.inr rfl)))))
      |some s=>exact secsI_nat y m d h mi s
theorem digsP_step {l:List UInt8} {k i:Nat} (h:(digP l i).isSome=true):digsP l (k+1) i=digsP l k (i+1)+1:=if_pos h
theorem digsP_stop {l:List UInt8} {k i:Nat} (h:(digP l i).isSome=false):digsP l k i=0:=by
 cases k with
 |zero=>rfl
 |succ k=>unfold digsP;rw[h];rfl
theorem digsP_le {l:List UInt8}:∀(k i:Nat),i≤l.length→i+digsP l k i≤l.length
 |0,i,h=>h
 |k+1,i,h=>by
  unfold digsP
  split
  ·rename_i h1
   have hi:i<l.length:=by
    rcases Nat.lt_or_ge i l.length with h2|h2
    ·exact h2
    ·rw[digP_end h2] at h1;cases h1
   have:=digsP_le (l:=l) k (i+1) hi
   omega
  ·exact h
theorem digsP_fuel {l:List UInt8}:∀(k m i:Nat),l.length≤i+k→l.length≤i+m→digsP l k i=digsP l m i
 |0,m,i,h,_=>by rw[digsP_stop (k:=m) (by rw[digP_end (by omega)];rfl)];rfl
 |k+1,0,i,_,h=>by rw[digsP_stop (k:=k+1) (by rw[digP_end (by omega)];rfl)];rfl
 |k+1,m+1,i,h1,h2=>by
  unfold digsP
  rw[digsP_fuel k m (i+1) (by omega) (by omega)]
section
section
variable {P:Program}
end
theorem Ext.setRow {a b:World} (h:Ext a b) {g:Nat} (hg:a.heap.size≤g) (cs:Array Value):Ext a (b.setRow g cs):=
 h.then ⟨rfl,rfl,rfl,by simp[World.setRow],fun k hk=>setRow_other b g k cs (by omega)⟩
theorem own_setRow {w:World} {base size n:Nat} {e:TypeId} {v:Value} {xs:List Value} (h:w.ownsRow base e size v n xs) {g:Nat} (hg:g<base) (cs:Array Value):(w.setRow g cs).ownsRow base e size v n xs:=by
 refine h.kept (row:=some g) ⟨rfl,rfl,rfl,by simp[World.setRow],fun k _ hk=>setRow_other w g k cs (fun e=>hk (by rw[e]))⟩ (Or.inr fun hv=> ?_)
 have:=(h.lt g hv).1
 omega
theorem heap_alloc3_new (w:World) (A B C:Obj):(((w.alloc A).alloc B).alloc C).heap[w.heap.size+1+1]? =some C:=by
 have h:=heap_alloc_new ((w.alloc A).alloc B) C
 have e:((w.alloc A).alloc B).heap.size=w.heap.size+1+1:=by
  show ((w.heap.push A).push B).size=_
  simp
 rwa [e] at h
theorem rsl_block {w:World} {g n size:Nat} {cs:List Value} {e:TypeId} {fr:Nat×Nat} (hg:w.heap[g]? =some (.cells cs.toArray e fr)) (h:cs.length=n*size) (hm:n≤maxLen):RSl w size (.slice (some ⟨g,0,none⟩) n n) n cs:=by
 refine ⟨h,some ⟨g,0,none⟩,n,rfl,Nat.le_refl _,hm,(fun h=>by cases h),fun j u hu=>⟨_,rfl,?_⟩⟩
 have hadd:(⟨g,0,none⟩:Addr).add j=⟨g,j,none⟩:=by unfold Addr.add;split<;>simp_all
 rw[hadd,Lib.cell_of_heap hg]
 simpa using hu
theorem RSl.at1 {w:World} {size n c m:Nat} {A:Option Addr} {xs:List Value} (h:RSl w size (.slice A m c) n xs) (k:Nat) (u:Value) (hu:xs[k]? =some u):∃ad,A=some ad∧w.cell? (ad.add k)=some u:=by
 obtain ⟨_,A',c',e,_,_,_,hcell⟩:=h
 cases e
 exact hcell k u hu
theorem addr_add2 (a:Addr) (m n:Nat):(a.add m).add n=a.add (m+n):=by
 unfold Addr.add
 by_cases hm:m=0<;>by_cases hn:n=0<;>simp_all [Nat.add_assoc]
theorem RSl.elem {w:World} {k:Nat} {v:Value} {n:Nat} {css:List (List Value)} (h:RSl w k v n css.flatten) (hk:0<k) (hl:∀c∈css,c.length=k) (i:Nat) (c:List Value) (hc:css[i]? =some c):
 ∃ad cap,v= .slice (some ad) n cap∧∀j u,c[j]? =some u→w.cell? ((ad.add (k*i)).add j)=some u:=by
 obtain ⟨_,A,cap,rfl,_,_,hA,hcell⟩:=h
 have key:∀(l:List (List Value)) (i:Nat) (c:List Value) (j:Nat) (u:Value),(∀c∈l,c.length=k)→l[i]? =some c→c[j]? =some u→l.flatten[k*i+j]? =some u:=by
  intro l
  induction l with
  |nil=>intro i c j u _ h;simp at h
  |cons x l ih=>
   intro i c j u hl hc hu
   have hx:x.length=k:=hl x (by simp)
   cases i with
   |zero=>
    simp at hc
    subst hc
    have hj:j<x.length:=by
     have:=(List.getElem?_eq_some_iff.mp hu).1
     exact this
    simpa [List.getElem?_append,hj] using (List.getElem?_eq_some_iff.mp hu).2
   |succ i=>
    have:=ih i c j u (fun c h=>hl c (by simp[h])) (by simpa using hc) hu
    simp only[List.flatten_cons]
    have e:k*(i+1)+j=x.length+(k*i+j):=by rw[hx,Nat.mul_succ];omega
    rw[e,List.getElem?_append_right (by omega)]
    simpa using this
 have hck:c.length=k:=hl c (List.mem_of_getElem? hc)
 have h0:0<c.length:=by omega
 obtain ⟨ad,rfl,_⟩:=hcell _ _ (key css i c 0 c[0] hl hc (List.getElem?_eq_getElem h0))
 refine ⟨ad,cap,rfl,fun j u hu=> ?_⟩
 obtain ⟨ad',h,hc'⟩:=hcell _ _ (key css i c j u hl hc hu)
 injection h with h
 subst h
 rw[addr_add2]
 exact hc'
theorem Ext.boxed {w w':World} {cs:Array Value} {t:TypeId} {fr:Nat×Nat} (h:Ext (w.alloc (.cells cs t fr)) w') (i:Nat) (v:Value) (hv:cs[i]? =some v):w'.cell? ⟨w.heap.size,i,none⟩=some v:=
 h.cell (p:=⟨w.heap.size,i,none⟩) (by rw[cell_of_row _ _ _ cs t fr (heap_alloc_new w _)];exact hv)
end
section
set_option linter.unusedSimpArgs false
def cycC:Nat→Nat
 |0=>146097
 |1=>36524
 |2=>1461
 |_=>365
def cycY:Nat→Nat
 |0=>400
 |1=>100
 |2=>4
 |_=>1
def cycT:Nat→Nat
 |0=>25
 |1=>3
 |2=>24
 |_=>3
def cyc (n:Nat):Nat→Nat×Nat
 |0=>(n,1)
 |i+1=>((cyc n i).1 - min ((cyc n i).1 / cycC i) (cycT i)*cycC i,(cyc n i).2+min ((cyc n i).1 / cycC i) (cycT i)*cycY i)
theorem cyc_4 {n:Nat} (h:n<3652059):cyc n 4=(n - befN (yearN n),yearN n):=by
 have h1:=yearN_ok n
 obtain ⟨a,ha⟩:∃a,n / 146097=a:=⟨_,rfl⟩
 have e0:min (n / 146097) 25=a:=by omega
 have e1:n - a*146097=n % 146097:=by omega
 obtain ⟨r,hr⟩:∃r,n % 146097=r:=⟨_,rfl⟩
 obtain ⟨b,hb⟩:∃b,min (r / 36524) 3=b:=⟨_,rfl⟩
 obtain ⟨s,hs⟩:∃s,r - b*36524=s:=⟨_,rfl⟩
 obtain ⟨c,hc⟩:∃c,min (s / 1461) 24=c:=⟨_,rfl⟩
 obtain ⟨t,ht⟩:∃t,s - c*1461=t:=⟨_,rfl⟩
 obtain ⟨e,he⟩:∃e,min (t / 365) 3=e:=⟨_,rfl⟩
 have hy:yearN n=1+400*a+100*b+4*c+e:=by
  unfold yearN
  simp only[ha,hr,hb,hs,hc,ht,he]
 have hc4:cyc n 4=(t - e*365,1+a*400+b*100+c*4+e*1):=by
  simp only[cyc,cycC,cycT,cycY,e0,e1,hr,hb,hs,hc,ht,he]
 have hbef:=befN_at a b c e (by omega) (by omega) (by omega)
 have hn:n=146097*a+r:=by omega
 have hr2:36524*b≤r:=by clear hn h1 hc4 hbef hy h e0 e1 ha hr;omega
 have hs2:1461*c≤s:=by clear hn h1 hc4 hbef hy h e0 e1 ha hr hr2 hb;omega
 have ht2:365*e≤t:=by clear hn h1 hc4 hbef hy h e0 e1 ha hr hr2 hb hs2 hc;omega
 rw[hc4,hy,hbef,hn]
 clear h1 hc4 hbef hy h e0 e1 ha hr hb hc he hn
 refine Prod.ext ?_ ?_
 ·show t - e*365=_
  omega
 ·show 1+a*400+b*100+c*4+e*1=_
  omega
theorem cyc_le (n:Nat):∀i,(cyc n i).1≤n∧(cyc n i).2≤1+10000*i
 |0=>⟨Nat.le_refl _,Nat.le_refl _⟩
 |i+1=>by
  have ih:=cyc_le n i
  refine ⟨Nat.le_trans (Nat.sub_le _ _) ih.1,?_⟩
  show (cyc n i).2+min ((cyc n i).1 / cycC i) (cycT i)*cycY i≤_
  have h1:min ((cyc n i).1 / cycC i) (cycT i)≤25:=by
   refine Nat.le_trans (Nat.min_le_right _ _) ?_
   unfold cycT;split<;>omega
  have h2:cycY i≤400:=by unfold cycY;split<;>omega
  have:=Nat.mul_le_mul h1 h2
  omega
theorem results_tmp4 {fn:Func} {t u v x:Tmp} (h:fn.results=#[.tmp t,.tmp u,.tmp v,.tmp x]) (tmps:Array Value) (P:Program) (w:World):
 (results fn tmps).run P w= .ok (.tuple #[tmps.getD t undef,tmps.getD u undef,tmps.getD v undef,tmps.getD x undef]) w:=by
 simp[results,h]
theorem date_ok (n:Nat) (w:World) (h:n<3652059):
 Calls Tryz.prog 95 #[.int .i64 ((n:Int) - 719162)] w fun e w'=>e= .returned (.tuple #[.int .i64 ((dateN n).1:Nat),.int .i64 ((dateN n).2.1:Nat),.int .i64 ((dateN n).2.2:Nat),.int .i64 0])∧Ext w w':=by
 have a1:¬(n:Int) - 719162< -719162:=by omega
 have a2:¬2932896<(n:Int) - 719162:=by omega
 have HF:=gd (cyc_4 h)
 go_enter Tryz.func95,Tryz.ntmps95
 obtain ⟨W1,hW1⟩:∃W1,w.alloc (.cells #[.int .i64 146097,.int .i64 400,.int .i64 25,.int .i64 36524,.int .i64 100,.int .i64 3,.int .i64 1461,.int .i64 4,.int .i64 24,.int .i64 365,.int .i64 1,.int .i64 3] 196)=W1:=⟨_,rfl⟩
 have hx1:Ext w W1:=by rw[←hW1];exact (Ext.refl w).alloc _
 have HC:=gd (fun (j:Nat) (u:Value) (h:#[Value.int .i64 146097,.int .i64 400,.int .i64 25,.int .i64 36524,.int .i64 100,.int .i64 3,.int .i64 1461,.int .i64 4,.int .i64 24,.int .i64 365,.int .i64 1,.int .i64 3][j]? =some u) wr (hx:Ext W1 wr)=>Ext.boxed (w:=w) (by rw[hW1];exact hx) j u h)
 have HS:=gd hx1
 clear hx1
 obtain ⟨g,hg⟩:∃g,w.heap.size=g:=⟨_,rfl⟩
 rw[hg] at HC
 go_wp2
 go_loopw [6,7,26] (fun l y i wr=>∃k:Nat,k≤4∧l= .int .i64 ((cyc n k).1:Nat)∧y= .int .i64 ((cyc n k).2:Nat)∧i= .int .i64 (k:Nat)∧Ext W1 wr) (fun _ _ i _=>4 - (intOf i).toNat)
 case atStart=>exact ⟨0,by omega,rfl,rfl,rfl,Ext.refl _⟩
 case round=>
  obtain ⟨k,hk,rfl,rfl,rfl,hx⟩:=hrel
  have hle:=cyc_le n k
  have hst:Hid (cyc n (k+1)=((cyc n k).1 - min ((cyc n k).1 / cycC k) (cycT k)*cycC k,(cyc n k).2+min ((cyc n k).1 / cycC k) (cycT k)*cycY k)):=rfl
  rcases (by omega:k=0∨k=1∨k=2∨k=3∨k=4) with rfl|rfl|rfl|rfl|rfl
  ·have c0:=HC.out 0 _ rfl wr hx
   have c1:=HC.out 1 _ rfl wr hx
   have c2:=HC.out 2 _ rfl wr hx
   obtain ⟨P,hP⟩:∃P,cyc n 0=P:=⟨_,rfl⟩
   rw[hP] at hst hle
   simp only[hP]
   clear hP
   obtain ⟨l,y⟩:=P
   simp only at hle⊢
   obtain ⟨hl,hy⟩:=hle
   obtain ⟨M,hM⟩:∃M:Nat,min (l / 146097) 25=M:=⟨_,rfl⟩
   have hMi:min ((l:Int) / 146097) 25=(M:Int):=by omega
   have hM1:M*146097≤l:=by clear hMi;omega
   have hM2:M≤25:=by clear hMi hM1;omega
   have hst':Hid (cyc n 1=(l - M*146097,y+M*400)):=by show _=_;rw[hst.out];show (l - min (l / 146097) 25*146097,y+min (l / 146097) 25*400)=_;rw[hM]
   have HMI:=gd hMi
   clear hst hM hMi hk
   rw[show ((0:Nat):Int)=0 from rfl]
   go_wp2
   go_region
   rw[HMI.out]
   clear HMI
   go_wp2
   go_roundw
   case rel=>exact ⟨1,by omega,by rw[hst'.out];refine congrArg (Value.int .i64) ?_;show _=((l - M*146097:Nat):Int);omega,by rw[hst'.out];refine congrArg (Value.int .i64) ?_;show _=((y+M*400:Nat):Int);omega,rfl,(hx.alloc _).drew⟩
   case measure=>simp[intOf]
  ·have c0:=HC.out 3 _ rfl wr hx
   have c1:=HC.out 4 _ rfl wr hx
   have c2:=HC.out 5 _ rfl wr hx
   obtain ⟨P,hP⟩:∃P,cyc n 1=P:=⟨_,rfl⟩
   rw[hP] at hst hle
   simp only[hP]
   clear hP
   obtain ⟨l,y⟩:=P
   simp only at hle⊢
   obtain ⟨hl,hy⟩:=hle
   obtain ⟨M,hM⟩:∃M:Nat,min (l / 36524) 3=M:=⟨_,rfl⟩
   have hMi:min ((l:Int) / 36524) 3=(M:Int):=by omega
   have hM1:M*36524≤l:=by clear hMi;omega
   have hM2:M≤3:=by clear hMi hM1;omega
   have hst':Hid (cyc n 2=(l - M*36524,y+M*100)):=by show _=_;rw[hst.out];show (l - min (l / 36524) 3*36524,y+min (l / 36524) 3*100)=_;rw[hM]
   have HMI:=gd hMi
   clear hst hM hMi hk
   rw[show ((1:Nat):Int)=1 from rfl]
   go_wp2
   go_region
   rw[HMI.out]
   clear HMI
   go_wp2
   go_roundw
   case rel=>exact ⟨2,by omega,by rw[hst'.out];refine congrArg (Value.int .i64) ?_;show _=((l - M*36524:Nat):Int);omega,by rw[hst'.out];refine congrArg (Value.int .i64) ?_;show _=((y+M*100:Nat):Int);omega,rfl,(hx.alloc _).drew⟩
   case measure=>simp[intOf]
  ·have c0:=HC.out 6 _ rfl wr hx
   have c1:=HC.out 7 _ rfl wr hx
   have c2:=HC.out 8 _ rfl wr hx
   obtain ⟨P,hP⟩:∃P,cyc n 2=P:=⟨_,rfl⟩
   rw[hP] at hst hle
   simp only[hP]
   clear hP
   obtain ⟨l,y⟩:=P
   simp only at hle⊢
   obtain ⟨hl,hy⟩:=hle
   obtain ⟨M,hM⟩:∃M:Nat,min (l / 1461) 24=M:=⟨_,rfl⟩
   have hMi:min ((l:Int) / 1461) 24=(M:Int):=by omega
   have hM1:M*1461≤l:=by clear hMi;omega
   have hM2:M≤24:=by clear hMi hM1;omega
   have hst':Hid (cyc n 3=(l - M*1461,y+M*4)):=by show _=_;rw[hst.out];show (l - min (l / 1461) 24*1461,y+min (l / 1461) 24*4)=_;rw[hM]
   have HMI:=gd hMi
   clear hst hM hMi hk
   rw[show ((2:Nat):Int)=2 from rfl]
   go_wp2
   go_region
   rw[HMI.out]
   clear HMI
   go_wp2
   go_roundw
   case rel=>exact ⟨3,by omega,by rw[hst'.out];refine congrArg (Value.int .i64) ?_;show _=((l - M*1461:Nat):Int);omega,by rw[hst'.out];refine congrArg (Value.int .i64) ?_;show _=((y+M*4:Nat):Int);omega,rfl,(hx.alloc _).drew⟩
   case measure=>simp[intOf]
  ·have c0:=HC.out 9 _ rfl wr hx
   have c1:=HC.out 10 _ rfl wr hx
   have c2:=HC.out 11 _ rfl wr hx
   obtain ⟨P,hP⟩:∃P,cyc n 3=P:=⟨_,rfl⟩
   rw[hP] at hst hle
   simp only[hP]
   clear hP
   obtain ⟨l,y⟩:=P
   simp only at hle⊢
   obtain ⟨hl,hy⟩:=hle
   obtain ⟨M,hM⟩:∃M:Nat,min (l / 365) 3=M:=⟨_,rfl⟩
   have hMi:min ((l:Int) / 365) 3=(M:Int):=by omega
   have hM1:M*365≤l:=by clear hMi;omega
   have hM2:M≤3:=by clear hMi hM1;omega
   have hst':Hid (cyc n 4=(l - M*365,y+M*1)):=by show _=_;rw[hst.out];show (l - min (l / 365) 3*365,y+min (l / 365) 3*1)=_;rw[hM]
   have HMI:=gd hMi
   clear hst hM hMi hk
   rw[show ((3:Nat):Int)=3 from rfl]
   go_wp2
   go_region
   rw[HMI.out]
   clear HMI
   go_wp2
   go_roundw
   case rel=>exact ⟨4,by omega,by rw[hst'.out];refine congrArg (Value.int .i64) ?_;show _=((l - M*365:Nat):Int);omega,by rw[hst'.out];refine congrArg (Value.int .i64) ?_;show _=((y+M*1:Nat):Int);omega,rfl,(hx.alloc _).drew⟩
   case measure=>simp[intOf]
  ·rw[HF.out] at hle⊢
   simp only at hle⊢
   rw[show ((4:Nat):Int)=4 from rfl]
   have hyk:=yearN_ok n
   obtain ⟨Y,hY⟩:∃Y,yearN n=Y:=⟨_,rfl⟩
   rw[hY] at hle hyk
   simp only[hY]
   have hb3:=befN_succ Y hyk.2.2
   have hY2:Y≤9999:=by
    have:=(dateN_ok n).top (by omega)
    rw[show (dateN n).1=yearN n from rfl,hY] at this
    exact this
   obtain ⟨P,hP⟩:∃P,monthGo Y 11 1 (n - befN Y)=P:=⟨_,rfl⟩
   have hfin:Hid (dateN n=(Y,P.1,P.2+1)):=by
    show _=_
    rw[←hP,←hY];rfl
   have hlt:Hid (monN Y (1 - 1)+(n - befN Y)<lenN Y):=by show 0+(n - befN Y)<lenN Y;omega
   obtain ⟨L,hL⟩:∃L,n - befN Y=L:=⟨_,rfl⟩
   rw[hL] at hP hlt
   simp only[hL] at hle⊢
   have hLn:L≤3652059:=by omega
   have HP0:=gd hP
   have HD:=gd (fun (m:Nat) (h3:1≤m) (h4:m≤12) w'=>by have:=daysIn_any Y m w';rw[dimI_nat ⟨hyk.2.2,hY2,h3,h4⟩] at this;exact this)
   have HHX:=gd (HS.out.trans hx)
   clear hb3 hyk hle hP hL hst hk HF HS hx hY
   obtain ⟨wP,hwP⟩:∃wP:World,wP=wr:=⟨_,rfl⟩
   subst hwP
   go_wp2
   go_loopw [6,12] (fun l m wr=>∃l' m':Nat,1≤m'∧m'≤12∧l'≤3652059∧l= .int .i64 (l':Nat)∧m= .int .i64 (m':Nat)∧Hid (monthGo Y (12 - m') m' l'=P)∧Hid (monN Y (m' - 1)+l'<lenN Y)∧wr=wP) (fun _ m _=>13 - (intOf m).toNat)
   case atStart=>exact ⟨L,1,by omega,by omega,hLn,rfl,rfl,HP0,hlt,rfl⟩
   case round=>
    obtain ⟨l',m',hm1,hm2,hl3,rfl,rfl,hp,hq,rfl⟩:=hrel
    have HDm:=gd (HD.out m' hm1 hm2)
    by_cases hdm:dimN Y m'≤l'
    ·have hm3:m'<12:=by
      rcases Nat.lt_or_ge m' 12 with h|h
      ·exact h
      ·obtain rfl:m'=12:=by omega
       have h1:=hq.out
       have h2:monN Y 11+dimN Y 12=lenN Y:=monN_12 Y
       have h3:monN Y (12 - 1)=monN Y 11:=rfl
       omega
     have hp':Hid (monthGo Y (12 - (m'+1)) (m'+1) (l' - dimN Y m')=P):=by
      show _=_
      have h1:=hp.out
      obtain ⟨k,hk⟩:∃k,12 - m'=k+1:=⟨11 - m',by omega⟩
      rw[hk,monthGo,if_pos hdm] at h1
      rw[show 12 - (m'+1)=k by omega];exact h1
     have hq':Hid (monN Y (m'+1 - 1)+(l' - dimN Y m')<lenN Y):=by
      show _<_
      have h1:=hq.out
      obtain ⟨j,rfl⟩:∃j,m'=j+1:=⟨m' - 1,by omega⟩
      have h2:monN Y (j+1+1 - 1)=monN Y (j+1 - 1)+dimN Y (j+1):=rfl
      omega
     obtain ⟨D,hD⟩:∃D,dimN Y m'=D:=⟨_,rfl⟩
     rw[hD] at HDm hdm hp' hq'
     have b1:(D:Int)≤(l':Int):=by omega
     clear hD hp hq
     go_wp2_with (first|(go_at_call 139;(with_reducible refine Calls.mono (HDm.out _) ?_);rintro e w1 ⟨rfl,rfl⟩))
     go_roundw
     case rel=>exact ⟨l' - D,m'+1,by omega,by omega,by omega,by refine congrArg (Value.int .i64) ?_;omega,by go_num,hp',hq',trivial⟩
     case measure=>simp[intOf];omega
    ·have hp':Hid (dateN n=(Y,m',l'+1)):=by
      show _=_
      have h1:=hp.out
      have h2:monthGo Y (12 - m') m' l'=(m',l'):=by
       rcases Nat.eq_zero_or_pos (12 - m') with h|h
       ·rw[h];rfl
       ·obtain ⟨k,hk⟩:∃k,12 - m'=k+1:=⟨11 - m',by omega⟩
        rw[hk,monthGo,if_neg hdm]
      rw[hfin.out,←h1,h2]
     obtain ⟨D,hD⟩:∃D,dimN Y m'=D:=⟨_,rfl⟩
     rw[hD] at HDm hdm
     have b1:¬(D:Int)≤(l':Int):=by omega
     clear hD hp hq
     go_wp2_with (first|(go_at_call 139;(with_reducible refine Calls.mono (HDm.out _) ?_);rintro e w1 ⟨rfl,rfl⟩))
     ((try simp only[Exit.inBlock,Exit.then]);refine bodyPost_ret (results_tmp4 rfl _ _ _) rfl ?_)
     exact ⟨by rw[hp'.out];rfl,HHX.out⟩
end
section
set_option linter.unusedSimpArgs false
theorem refLeap_any (y:Nat) (w:World) (h1:1≤y) (h2:y≤9999):
 Calls Tryz.prog 142 #[.int .i64 (y:Nat)] w fun e w'=>e= .returned (.bool (leapN y))∧w'=w:=by
 have a1:(1:Int)≤(y:Int):=by omega
 have a2:(y:Int)≤9999:=by omega
 go_enter Tryz.func142,Tryz.ntmps142
 go_wp2
 all_goals go_ret
 all_goals exact ⟨congrArg (fun b=>Ending.returned (Value.bool b)) (Bool.eq_iff_iff.2 (by rw[leapN_iff];simp;omega)),rfl⟩
theorem refDaysIn_any (y m:Int) (w:World):
 Calls Tryz.prog 143 #[.int .i64 y,.int .i64 m] w fun e w'=>e= .returned (.int .i64 (dimI y m:Nat))∧w'=w:=by
 by_cases h:1≤y∧y≤9999∧1≤m∧m≤12
 ·obtain ⟨y,rfl⟩:=Int.eq_ofNat_of_zero_le (show 0≤y by omega)
  obtain ⟨m,rfl⟩:=Int.eq_ofNat_of_zero_le (show 0≤m by omega)
  have h':1≤y∧y≤9999∧1≤m∧m≤12:=by omega
  have HD:=gd (dimI_nat h')
  obtain ⟨h1,h2,h3,h4⟩:=h'
  have HL:=gd (fun w'=>refLeap_any y w' h1 h2)
  have a1:¬(y:Int)<1:=by omega
  have a2:¬9999<(y:Int):=by omega
  have a3:¬(m:Int)<1:=by omega
  have a4:¬12<(m:Int):=by omega
  by_cases h5:m=2
  ·have HF:Hid (dimN y m=if leapN y then 29 else 28):=by show _=_;unfold dimN;rw[if_pos h5]
   subst h5
   cases hb:leapN y
   ·rw[hb] at HL
    clear h h1 h2 h3 h4
    go_enter Tryz.func143,Tryz.ntmps143
    go_wp2_with (first|(go_at_call 142;(with_reducible refine Calls.mono (HL.out _) ?_);rintro e w1 ⟨rfl,rfl⟩))
    go_ret
    exact ⟨by rw[HD.out,HF.out,hb];rfl,rfl⟩
   ·rw[hb] at HL
    clear h h1 h2 h3 h4
    go_enter Tryz.func143,Tryz.ntmps143
    go_wp2_with (first|(go_at_call 142;(with_reducible refine Calls.mono (HL.out _) ?_);rintro e w1 ⟨rfl,rfl⟩))
    go_ret
    exact ⟨by rw[HD.out,HF.out,hb];rfl,rfl⟩
  ·have a5:¬(m:Int)=2:=by omega
   have HF:Hid (dimN y m=if m=4∨m=6∨m=9∨m=11 then 30 else 31):=by show _=_;unfold dimN;rw[if_neg h5]
   by_cases h6:m=4∨m=6∨m=9∨m=11
   ·have HG:Hid (dimN y m=30):=by show _=_;rw[HF.out,if_pos h6]
    clear h h5 HF
    rcases h6 with rfl|rfl|rfl|rfl
    all_goals go_enter Tryz.func143,Tryz.ntmps143
    all_goals go_wp2
    all_goals go_ret
    all_goals exact ⟨congrArg (fun n:Nat=>Ending.returned (.int .i64 n)) (HD.out.trans HG.out).symm,rfl⟩
   ·have HG:Hid (dimN y m=31):=by show _=_;rw[HF.out,if_neg h6]
    have hc:m=1∨m=3∨m=5∨m=7∨m=8∨m=10∨m=12:=by omega
    clear h h5 HF h6 a5 a3 a4
    rcases hc with rfl|rfl|rfl|rfl|rfl|rfl|rfl
    all_goals go_enter Tryz.func143,Tryz.ntmps143
    all_goals go_wp2
    all_goals go_ret
    all_goals exact ⟨congrArg (fun n:Nat=>Ending.returned (.int .i64 n)) (HD.out.trans HG.out).symm,rfl⟩
 ·have HD:=gd (dimI_bad h)
  have hc:y<1∨(¬y<1∧9999<y)∨(¬y<1∧¬9999<y∧m<1)∨(¬y<1∧¬9999<y∧¬m<1∧12<m):=by omega
  clear h
  go_enter Tryz.func143,Tryz.ntmps143
  rcases hc with hc|⟨hc,hd⟩|⟨hc,hd,he⟩|⟨hc,hd,he,hf⟩
  all_goals go_wp2
  all_goals go_ret
  all_goals exact ⟨by rw[HD.out];rfl,rfl⟩
end
end Go.Proofs.YthlnaldahkgjnaaGreatDoor
