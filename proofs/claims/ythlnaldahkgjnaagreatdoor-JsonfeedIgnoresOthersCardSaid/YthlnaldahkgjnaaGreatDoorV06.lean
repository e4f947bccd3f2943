/- Parts of the proof: contracts and plain laws. -/
import Derived.Test.YthlnaldahkgjnaaGreatDoorV05
namespace Go.Proofs.YthlnaldahkgjnaaGreatDoor
open Go Go.RowKit Go.WideMaps Go.Maps
set_option linter.unusedVariables false
set_option linter.unusedSimpArgs false
set_option maxRecDepth 100000
set_option maxHeartbeats 16000000
section
set_option linter.unusedSimpArgs false
theorem jHas_any (s t:ByteArray) (k:Nat) (w:World) (hs:s.size≤maxLen) (hk:k≤maxLen) (ht:t.size≤maxLen) (h0:0<t.size):
 Calls Tryz.prog 63 #[.string s,.int .i64 (k:Nat),.string t] w fun e w'=>e= .returned (.bool (hasAt s.data.toList k t.data.toList))∧w'=w:=by
 unfold maxLen at hs hk ht
 by_cases h:k+t.size≤s.size
 ·have h1:(t.size:Int)≤(s.size:Int) - (k:Int):=by omega
  have h2:(0:Int)≤(k:Int):=by omega
  have hsl:=fun wx=>slice_in s k t.size (t.size:Int) rfl h wx
  go_enter Tryz.func63,Tryz.ntmps63
  go_wp2
  go_ret
  refine ⟨?_,rfl⟩
  rw[hasAt_eq,←data_len t,←extract_take,data_len,←toList_beq]
  rfl
 ·have h1:¬(t.size:Int)≤(s.size:Int) - (k:Int):=by omega
  have h2:(0:Int)≤(k:Int):=by omega
  have e:hasAt s.data.toList k t.data.toList=false:=hasAt_long (by rw[data_len,data_len];omega) (fun e=>by have:=congrArg List.length e;rw[data_len,List.length_nil] at this;omega)
  rw[e]
  go_enter Tryz.func63,Tryz.ntmps63
  go_wp2
  go_ret
  exact ⟨rfl,rfl⟩
theorem jSpaces_any (s:ByteArray) (k:Nat) (w:World) (hs:s.size≤80000000000) (hk:k≤s.size):
 Calls Tryz.prog 65 #[.string s,.int .i64 (k:Nat)] w fun e w'=>e= .returned (.int .i64 (spAt s.data.toList k:Nat))∧w'=w:=by
 obtain ⟨R,hR⟩:∃R,spAt s.data.toList k=R:=⟨_,rfl⟩
 rw[hR]
 go_enter Tryz.func65,Tryz.ntmps65
 go_wp2
 go_loopw [1] (fun v wr=>∃j:Nat,j≤s.size∧v= .int .i64 j∧Hid (spAt s.data.toList j=R)∧wr=w) (fun v _=>s.size - (intOf v).toNat)
 case atStart=>exact ⟨k,hk,rfl,gd hR,rfl⟩
 case round=>
  obtain ⟨j,hj,rfl,hr,rfl⟩:=hrel
  by_cases hlt:j<s.size
  ·have hi0:(0:Int)≤(j:Int):=by omega
   have hi1:(j:Int)<(s.size:Int):=by omega
   have hl:j<s.data.toList.length:=by rw[data_len];exact hlt
   have hsj:s.data.toList[j]=s[j]:=by rfl
   cases hsp:isSp (s[j].toNat) with
   |true=>
    have HN:=gd ((spAt_step hl (by rw[hsj];exact hsp)).symm.trans hr.out)
    clear hr
    go_wp2_with (first|(go_at_call 113;(with_reducible refine Calls.mono (refIsSpace_any _ _) ?_);rintro e w2 ⟨rfl,rfl⟩))
    go_roundw
    case rel=>exact ⟨j+1,hlt,by go_num,HN,by trivial⟩
    case measure=>simp[intOf];omega
   |false=>
    have hfin:=(spAt_stop hl (by rw[hsj];exact hsp)).symm.trans hr.out
    subst hfin
    clear hr
    go_wp2_with (first|(go_at_call 113;(with_reducible refine Calls.mono (refIsSpace_any _ _) ?_);rintro e w2 ⟨rfl,rfl⟩))
    go_ret
    exact ⟨rfl,rfl⟩
  ·have hje:j=s.size:=by omega
   have hfin:=(spAt_end (s:=s.data.toList) (k:=j) (by rw[data_len];omega)).symm.trans hr.out
   subst hfin
   clear hr
   subst hje
   go_wp2
   go_ret
   exact ⟨rfl,rfl⟩
def BadR (e:Ending):Prop:=∃a x:Nat,x≠0∧e= .returned (.agg #[.int .i64 0,.bool false,.int .i64 0,.string ⟨#[]⟩,.slice none 0 0,.slice none 0 0,.int .i64 0,.int .i64 (a:Nat),.int .i64 (x:Nat)])
theorem size_res:(Tryz.prog.info? 109).map (fun i=>i.size)=some 9:=by kernel_rfl
theorem size_valJ:(Tryz.prog.info? 25).map (fun i=>i.size)=some 7:=by kernel_rfl
theorem jWrong_any (s:ByteArray) (a:Nat) (w:World):Calls Tryz.prog 107 #[.string s,.int .i64 (a:Nat)] w fun e w'=>BadR e∧Ext w w':=by
 by_cases h:s.size≤a
 ·have h1:(s.size:Int)≤(a:Int):=by omega
  go_enter Tryz.func107,Tryz.ntmps107
  go_wp2
  ((try simp only[Exit.inBlock,Exit.then]);refine bodyPost_ret (results_cell_row rfl _ _ _ _ _ _ _ rfl (heap_alloc_new _ _) Tryz.underlying109 rfl rfl) rfl ?_)
  exact ⟨⟨s.size,8,by decide,rfl⟩,(Ext.refl w).alloc _⟩
 ·have h1:¬(s.size:Int)≤(a:Int):=by omega
  go_enter Tryz.func107,Tryz.ntmps107
  go_wp2
  ((try simp only[Exit.inBlock,Exit.then]);refine bodyPost_ret (results_cell_row rfl _ _ _ _ _ _ _ rfl (heap_alloc_new _ _) Tryz.underlying109 rfl rfl) rfl ?_)
  exact ⟨⟨a,7,by decide,rfl⟩,(Ext.refl w).alloc _⟩
theorem heap2J (w:World) (A B:Obj):((w.alloc A).alloc B).heap[w.heap.size+1]? =some B:=by
 have:=heap_alloc_new (w.alloc A) B
 rwa [size_alloc] at this
theorem oneR {K n a x y:Int} {k:Bool} {s:ByteArray} {A B:Option Addr} {p c q d:Nat}:(#[Value.int .i64 K,.bool k,.int .i64 n,.string s,.slice A p c,.slice B q d,.int .i64 a,.int .i64 x,.int .i64 y]).all (fun u=>u.oneCell')=true:=by simp[Value.oneCell']
def WordR (h k:Bool) (K:Int) (a n:Nat) (e:Ending):Prop:=if h then e= .returned (.agg #[.int .i64 K,.bool k,.int .i64 0,.string ⟨#[]⟩,.slice none 0 0,.slice none 0 0,.int .i64 (a:Nat),.int .i64 (n:Nat),.int .i64 0]) else BadR e
theorem jWord_any (s t:ByteArray) (a:Nat) (K:Int) (k:Bool) (w:World) (hs:s.size≤80000000000) (ha:a≤s.size) (ht:t.size≤10) (h0:0<t.size):
 Calls Tryz.prog 108 #[.string s,.int .i64 (a:Nat),.string t,.agg #[.int .i64 K,.bool k,.int .i64 0,.string ⟨#[]⟩,.slice none 0 0,.slice none 0 0,.int .i64 0]] w fun e w'=>WordR (hasAt s.data.toList a t.data.toList) k K a (a+t.size) e∧Ext w w':=by
 have HH:=gd (fun w'=>jHas_any s t a w' (by unfold maxLen;omega) (by unfold maxLen;omega) (by unfold maxLen;omega) h0)
 obtain ⟨n,hn⟩:∃n,a+t.size=n:=⟨_,rfl⟩
 rw[hn]
 have hn':(a:Int)+(t.size:Int)=(n:Int):=by omega
 clear hn
 have hk1:=fun A B=>heap2J w A B
 cases hh:hasAt s.data.toList a t.data.toList with
 |true=>
  rw[hh] at HH
  clear hh
  go_enter Tryz.func108,Tryz.ntmps108
  go_wp2_with (first|(go_at_call 63;(with_reducible refine Calls.mono (HH.out _) ?_);rintro e w2 ⟨rfl,rfl⟩))
  ((try simp only[Exit.inBlock,Exit.then]);refine bodyPost_ret (results_cell_row rfl _ _ _ _ _ _ _ rfl (hk1 _ _) Tryz.underlying109 rfl size_res) rfl ?_)
  exact ⟨rfl,((Ext.refl w).alloc _).alloc _⟩
 |false=>
  rw[hh] at HH
  clear hh
  go_enter Tryz.func108,Tryz.ntmps108
  go_wp2_with (first|(go_at_call 63;(with_reducible refine Calls.mono (HH.out _) ?_);rintro e w2 ⟨rfl,rfl⟩)|(refine wpList_store_row rfl 109 (.tmp 8) (.tmp 16) rfl (w.heap.size+1) _ rfl rfl _ _ hk3 size_res rfl oneR ?_)|(go_at_call 107;(with_reducible refine Calls.mono (jWrong_any _ _ _) ?_);rintro e w3 ⟨⟨b,x,hx0,rfl⟩,hx3⟩;have hk3:=hx3.heap (hk1 _ _)))
  ((try simp only[Exit.inBlock,Exit.then]);refine bodyPost_ret (results_cell_row rfl _ _ _ _ _ _ _ rfl (setRow_heap _ _ _ _ _ _ hk3) Tryz.underlying109 rfl rfl) rfl ?_)
  exact ⟨⟨b,x,hx0,rfl⟩,((((Ext.refl w).alloc _).alloc _).trans hx3).setRow (Nat.le_succ _) _⟩
theorem numericJ_any (c:UInt8) (w:World):Calls Tryz.prog 111 #[.int .u8 (c.toNat:Nat)] w fun e w'=>e= .returned (.bool (numeric c))∧w'=w:=by
 have hn:numeric c=(decide (48≤c.toNat∧c.toNat≤57)||decide (c.toNat=43)||decide (c.toNat=45)||decide (c.toNat=46)||decide (c.toNat=101)||decide (c.toNat=69)):=by
  unfold numeric isDg
  have e:∀n:Nat,n<256→(c==UInt8.ofNat n)=decide (c.toNat=n):=fun n hn=>by
   rw[Bool.eq_iff_iff,beq_iff_eq,decide_eq_true_iff]
   exact u8_iff hn
  rw[show (43:UInt8)=UInt8.ofNat 43 from rfl,show (45:UInt8)=UInt8.ofNat 45 from rfl,show (46:UInt8)=UInt8.ofNat 46 from rfl,show (101:UInt8)=UInt8.ofNat 101 from rfl,show (69:UInt8)=UInt8.ofNat 69 from rfl]
  rw[e 43 (by decide),e 45 (by decide),e 46 (by decide),e 101 (by decide),e 69 (by decide)]
 rw[hn]
 obtain ⟨x,hx⟩:∃x,c.toNat=x:=⟨_,rfl⟩
 rw[hx]
 clear hn hx
 have hc:(¬(x:Int)<48∧¬57<(x:Int))∨((x:Int)<48∨¬(x:Int)<48∧57<(x:Int)):=by omega
 by_cases h43:x=43
 ·subst h43
  go_enter Tryz.func111,Tryz.ntmps111
  go_wp2
  go_ret
  exact ⟨rfl,rfl⟩
 by_cases h45:x=45
 ·subst h45
  go_enter Tryz.func111,Tryz.ntmps111
  go_wp2
  go_ret
  exact ⟨rfl,rfl⟩
 by_cases h46:x=46
 ·subst h46
  go_enter Tryz.func111,Tryz.ntmps111
  go_wp2
  go_ret
  exact ⟨rfl,rfl⟩
 by_cases h101:x=101
 ·subst h101
  go_enter Tryz.func111,Tryz.ntmps111
  go_wp2
  go_ret
  exact ⟨rfl,rfl⟩
 by_cases h69:x=69
 ·subst h69
  go_enter Tryz.func111,Tryz.ntmps111
  go_wp2
  go_ret
  exact ⟨rfl,rfl⟩
 have q1:((x:Int)==43)=false:=by rw[beq_eq_false_iff_ne];omega
 have q2:((x:Int)==45)=false:=by rw[beq_eq_false_iff_ne];omega
 have q3:((x:Int)==46)=false:=by rw[beq_eq_false_iff_ne];omega
 have q4:((x:Int)==101)=false:=by rw[beq_eq_false_iff_ne];omega
 have q5:((x:Int)==69)=false:=by rw[beq_eq_false_iff_ne];omega
 have e0:(decide (48≤x∧x≤57)||decide (x=43)||decide (x=45)||decide (x=46)||decide (x=101)||decide (x=69))=decide (48≤x∧x≤57):=by simp[h43,h45,h46,h101,h69]
 rw[e0]
 clear e0
 rcases hc with ⟨c1,c2⟩|c1|⟨c1,c2⟩
 ·rw[decide_eq_true (show 48≤x∧x≤57 by omega)]
  clear h43 h45 h46 h101 h69
  go_enter Tryz.func111,Tryz.ntmps111
  go_wp2
  go_ret
  exact ⟨by refine congrArg (fun b=>Ending.returned (Value.bool b)) ?_;first|rfl|(simp;omega),rfl⟩
 ·rw[decide_eq_false (show ¬(48≤x∧x≤57) by omega)]
  go_enter Tryz.func111,Tryz.ntmps111
  go_wp2
  go_ret
  exact ⟨by refine congrArg (fun b=>Ending.returned (Value.bool b)) ?_;first|rfl|(simp;omega),rfl⟩
 ·rw[decide_eq_false (show ¬(48≤x∧x≤57) by omega)]
  go_enter Tryz.func111,Tryz.ntmps111
  go_wp2
  go_ret
  exact ⟨by refine congrArg (fun b=>Ending.returned (Value.bool b)) ?_;first|rfl|(simp;omega),rfl⟩
end
section
set_option linter.unusedSimpArgs false
theorem sliceJ_ab (s:ByteArray) (a b:Nat) (A B:Int) (hA:A=a) (hB:B=b) (h:a≤b) (h2:b≤s.size) (wx:World):
 (Instr.slice 9 (.string s) (some (.int .i64 A)) (some (.int .i64 B)) none).run Tryz.prog wx= .ok (.string (s.extract a b)) wx:=by
 subst hA hB
 rw[run_slice_string (P:=Tryz.prog) (w:=wx) 9 s .i64 .i64 _ _ Tryz.underlying9 (by omega) (by omega) (by omega)]
 rw[show ((a:Nat):Int).toNat=a by omega,show ((b:Nat):Int).toNat=b by omega]
theorem sliceJ_from (s:ByteArray) (a:Nat) (A:Int) (hA:A=a) (h2:a≤s.size) (wx:World):
 (Instr.slice 9 (.string s) (some (.int .i64 A)) none none).run Tryz.prog wx= .ok (.string (s.extract a s.size)) wx:=by
 subst hA
 rw[run_slice_string_l (P:=Tryz.prog) (w:=wx) 9 s Tryz.underlying9 .i64 _ (by omega) (by omega)]
 rw[show ((a:Nat):Int).toNat=a by omega]
theorem extractJ_tl (s:ByteArray) (a:Nat) (h:a≤s.size):(s.extract a s.size).data.toList=s.data.toList.drop a:=by
 have:=extract_take s a (s.size - a)
 rw[show a+(s.size - a)=s.size by omega] at this
 rw[this,List.take_of_length_le (by rw[List.length_drop,data_len];omega)]
theorem decV_cons (c:UInt8) (t:List UInt8) (u:Nat):decV (c::t) u=if isDg c then decV t (u*10+(c.toNat - 48)) else none:=rfl
def numD (neg:Bool) (D:List UInt8):Option Int:=
 if D= []∨19<D.length∨(1<D.length∧D.head? =some 48) then none
 else match decV D 0 with
  |none=>none
  |some u=>if neg then (if u≤9223372036854775808 then some (-(u:Int)) else none) else if u<9223372036854775808 then some (u:Int) else none
theorem numV_pos {s:List UInt8} (h:¬s.head? =some 45):numV s=numD false s:=by
 unfold numV numD
 simp only[if_neg h]
 rfl
theorem numV_neg {s:List UInt8} (h:s.head? =some 45):numV s=numD true s.tail:=by
 unfold numV numD
 simp only[if_pos h]
 rfl
theorem numD_bad {neg:Bool} {D:List UInt8} (h:D= []∨19<D.length∨(1<D.length∧D.head? =some 48)):numD neg D=none:=by unfold numD;rw[if_pos h]
theorem numD_good {neg:Bool} {D:List UInt8} (h:¬(D= []∨19<D.length∨(1<D.length∧D.head? =some 48))):numD neg D=match decV D 0 with
 |none=>none
 |some u=>if neg then (if u≤9223372036854775808 then some (-(u:Int)) else none) else if u<9223372036854775808 then some (u:Int) else none:=by unfold numD;rw[if_neg h]
theorem neg_wrap {M:Int} (h0:0≤M) (h1:M≤9223372036854775808):wrap64 (IntKind.u64.wrap (-M))= -M:=by
 simp only[wrap64,IntKind.wrap,IntKind.bits,IntKind.signed]
 simp
 omega
def NumR (o:Option Int) (e:Ending):Prop:=match o with
 |some n=>e= .returned (.tuple #[.int .i64 n,.bool true])
 |none=>∃x:Int,e= .returned (.tuple #[.int .i64 x,.bool false])
theorem head_get {s:ByteArray} (h:0<s.size):s.data.toList.head? =some s[0]:=by
 rw[List.head?_eq_getElem?]
 exact List.getElem?_eq_getElem (by rw[data_len];exact h)
theorem jNumber_pos (s:ByteArray) (w:World) (hs:s.size≤80000000000) (h0:0<s.size) (h45:¬s[0].toNat=45):
 Calls Tryz.prog 112 #[.string s] w fun e w'=>NumR (numD false s.data.toList) e∧w'=w:=by
 have hne:s.toList.isEmpty=false:=ne_noS (fun e=>by rw[e] at h0;exact absurd h0 (by decide))
 have i0:(0:Int)<(s.size:Int):=by omega
 obtain ⟨x,hx⟩:∃x,s[0].toNat=x:=⟨_,rfl⟩
 have hxi:(s[0].toNat:Int)=(x:Int):=by rw[hx]
 rw[hx] at h45
 have h45i:¬(x:Int)=45:=by omega
 have hhd:=head_get h0
 have hne2:¬s.data.toList= []:=fun e=>by have:=congrArg List.length e;rw[data_len,List.length_nil] at this;omega
 by_cases h19:19<s.size
 ·rw[numD_bad (Or.inr (Or.inl (by rw[data_len];exact h19)))]
  have j19:(19:Int)<(s.size:Int):=by omega
  clear h45 hhd hne2 h19
  go_enter Tryz.func112,Tryz.ntmps112
  go_wp2
  go_ret2
  exact ⟨⟨_,rfl⟩,rfl⟩
 have j19:¬(19:Int)<(s.size:Int):=by omega
 by_cases h48:1<s.size∧x=48
 ·have hb:s.data.toList.head? =some 48:=by
   rw[hhd]
   exact congrArg some ((u8_iff (n:=48) (by decide)).2 (by rw[hx];exact h48.2))
  rw[numD_bad (Or.inr (Or.inr ⟨by rw[data_len];exact h48.1,hb⟩))]
  have j1:(1:Int)<(s.size:Int):=by omega
  obtain ⟨-,rfl⟩:=h48
  clear h45 hhd hne2 h19 hb
  go_enter Tryz.func112,Tryz.ntmps112
  go_wp2
  go_ret2
  exact ⟨⟨_,rfl⟩,rfl⟩
 have hbad:¬(s.data.toList= []∨19<s.data.toList.length∨(1<s.data.toList.length∧s.data.toList.head? =some 48)):=by
  rintro (h|h|⟨h1,h2⟩)
  ·exact hne2 h
  ·rw[data_len] at h;exact h19 h
  ·rw[data_len] at h1
   refine h48 ⟨h1,?_⟩
   rw[hhd] at h2
   injection h2 with h2
   rw[←hx,h2]
   rfl
 obtain ⟨V,hV⟩:∃V,numD false s.data.toList=V:=⟨_,rfl⟩
 rw[hV]
 have HG:=gd (hV.symm.trans (numD_good (neg:=false) hbad))
 clear hV
 have hs19:s.size≤19:=by omega
 have hway:¬(1:Int)<(s.size:Int)∨((1:Int)<(s.size:Int)∧¬(x:Int)=48):=by omega
 clear h45 hhd hne2 h19 hbad h48 hs
 obtain ⟨R,hR⟩:∃R,decV s.data.toList 0=R:=⟨_,rfl⟩
 have HR:=gd hR
 clear hR
 rcases hway with j1|⟨j1,j48⟩
 all_goals (
  go_enter Tryz.func112,Tryz.ntmps112
  go_wp2
  go_loopw [5,6] (fun u i wr=>∃(k m:Nat) (M:Int),k≤s.size∧u= .int .u64 M∧i= .int .i64 (k:Nat)∧Hid ((m:Int)=M)∧Hid (m<10 ^ k)∧Hid (decV (s.data.toList.drop k) m=R)∧wr=w) (fun _ i _=>s.size - (intOf i).toNat)
  case atStart=>exact ⟨0,0,0,Nat.zero_le _,rfl,rfl,rfl,Nat.one_pos,HR.out,rfl⟩
  case round=>
   obtain ⟨k,m,M,hk,rfl,rfl,hmM,hm,hp,rfl⟩:=hrel
   by_cases hlt:k<s.size
   ·have hl:k<s.data.toList.length:=by rw[data_len];exact hlt
    have hst:decV (s.data.toList.drop k) m=if isDg s[k] then decV (s.data.toList.drop (k+1)) (m*10+(s[k].toNat - 48)) else none:=by
     rw[List.drop_eq_getElem_cons hl,decV_cons]
     rfl
    rw[hp.out] at hst
    have hdg:isDg s[k]=decide (48≤s[k].toNat∧s[k].toNat≤57):=rfl
    obtain ⟨y,hy⟩:∃y,s[k].toNat=y:=⟨_,rfl⟩
    have hyi:(s[k].toNat:Int)=(y:Int):=by rw[hy]
    rw[hdg,hy] at hst
    have b1:(k:Int)<(s.size:Int):=by omega
    have b2:(0:Int)≤(k:Int):=by omega
    by_cases hd:48≤y∧y≤57
    ·rw[decide_eq_true hd,if_pos rfl] at hst
     have HN:Hid (decV (s.data.toList.drop (k+1)) (m*10+(y - 48))=R):=hst.symm
     have hm2:m*10+(y - 48)<10 ^ (k+1):=by have:=hm.out;rw[Nat.pow_succ];omega
     have hp19:10 ^ (k+1)≤10 ^ 19:=Nat.pow_le_pow_right (by omega) (by omega)
     have e19:(10:Nat) ^ 19=10000000000000000000:=by decide
     have hmM':=hmM.out
     have HM2:=gd hm2
     have c1:¬(y:Int)<48:=by omega
     have c2:¬57<(y:Int):=by omega
     have d1:0≤M:=by omega
     have d2:M*10≤9999999999999999999:=by omega
     have d3:M*10+((y:Int) - 48)≤9999999999999999999:=by omega
     have HM3:Hid (((m*10+(y - 48):Nat):Int)=M*10+((y:Int) - 48)):=by show _=_;omega
     clear hst hdg hm hp hmM hmM' hp19 e19 hm2 hd
     go_wp2
     go_roundw
     case rel=>exact ⟨k+1,m*10+(y - 48),M*10+((y:Int) - 48),hlt,by first|rfl|(refine congrArg (Value.int .u64) ?_;omega),by go_num,HM3,HM2,HN,trivial⟩
     case measure=>simp[intOf];omega
    ·rw[decide_eq_false hd,if_neg (by decide)] at hst
     have hn:V=none:=by
      rw[HG.out,HR.out,hst]
     subst hn
     have hcase:(y:Int)<48∨(¬(y:Int)<48∧57<(y:Int)):=by omega
     clear hst hdg hm hp hmM hd HG HR
     rcases hcase with c1|⟨c1,c2⟩
     ·go_wp2
      go_ret2
      exact ⟨⟨_,rfl⟩,rfl⟩
     ·go_wp2
      go_ret2
      exact ⟨⟨_,rfl⟩,rfl⟩
   ·have hke:k=s.size:=by omega
    have b1:¬(k:Int)<(s.size:Int):=by omega
    have hfin:decV s.data.toList 0=some m:=by
     rw[HR.out,←hp.out,List.drop_of_length_le (by rw[data_len];omega)]
     rfl
    have hn:V=if m<9223372036854775808 then some (m:Int) else none:=by
     rw[HG.out,hfin]
     rfl
    have hmM':=hmM.out
    have d1:0≤M:=by omega
    have hpk:10 ^ k≤10 ^ 19:=Nat.pow_le_pow_right (by omega) (by omega)
    have e19:(10:Nat) ^ 19=10000000000000000000:=by decide
    have d2:M≤9999999999999999999:=by have:=hm.out;omega
    by_cases hu:m<9223372036854775808
    ·rw[if_pos hu,hmM'] at hn
     subst hn
     have c1:M<9223372036854775808:=by omega
     have c2:M≤9223372036854775807:=by omega
     clear hm hp hmM hmM' hfin hu HG HR hpk e19
     go_wp2
     go_ret2
     exact ⟨by first|rfl|(show _=_;refine congrArg (fun t=>Ending.returned (.tuple #[.int .i64 t,.bool true])) ?_;omega),rfl⟩
    ·rw[if_neg hu] at hn
     subst hn
     have c1:¬M<9223372036854775808:=by omega
     clear hm hp hmM hmM' hfin hu HG HR hpk e19
     go_wp2
     go_ret2
     exact ⟨⟨_,rfl⟩,rfl⟩)
theorem jNumber_neg (s:ByteArray) (w:World) (hs:s.size≤80000000000) (h0:0<s.size) (h45:s[0].toNat=45):
 Calls Tryz.prog 112 #[.string s] w fun e w'=>NumR (numD true s.data.toList.tail) e∧w'=w:=by
 have hne:s.toList.isEmpty=false:=ne_noS (fun e=>by rw[e] at h0;exact absurd h0 (by decide))
 have i0:(0:Int)<(s.size:Int):=by omega
 have h45i:(s[0].toNat:Int)=45:=by omega
 have hsl:=fun wx=>sliceJ_from s 1 1 rfl h0 wx
 have hdl:=extractJ_tl s 1 h0
 obtain ⟨d,hd⟩:∃d,s.extract 1 s.size=d:=⟨_,rfl⟩
 rw[hd] at hdl hsl
 have hds:d.size+1=s.size:=by
  have:=congrArg List.length hdl
  rw[data_len,List.length_drop,data_len] at this
  omega
 rw[show s.data.toList.tail=d.data.toList by rw[hdl];exact List.drop_one.symm]
 have hlts:(d.size:Int)<(s.size:Int):=by omega
 clear hd hdl h45 hs
 by_cases hd0:0<d.size
 case neg=>
  have hde:d=noS:=bytes_inj (List.eq_nil_of_length_eq_zero (by rw[data_len];omega))
  have hdn:d.toList.isEmpty=true:=by rw[hde];exact isEmpty_str []
  rw[numD_bad (Or.inl (by rw[hde];rfl))]
  clear hde hd0 hds
  go_enter Tryz.func112,Tryz.ntmps112
  go_wp2
  go_ret2
  exact ⟨⟨_,rfl⟩,rfl⟩
 have hdn:d.toList.isEmpty=false:=ne_noS (fun e=>by rw[e] at hd0;exact absurd hd0 (by decide))
 have e0:(0:Int)<(d.size:Int):=by omega
 clear hds
 obtain ⟨x,hx⟩:∃x,d[0].toNat=x:=⟨_,rfl⟩
 have hxi:(d[0].toNat:Int)=(x:Int):=by rw[hx]
 have hhd:=head_get hd0
 have hne2:¬d.data.toList= []:=fun e=>by have:=congrArg List.length e;rw[data_len,List.length_nil] at this;omega
 by_cases h19:19<d.size
 ·rw[numD_bad (Or.inr (Or.inl (by rw[data_len];exact h19)))]
  have j19:(19:Int)<(d.size:Int):=by omega
  clear hhd hne2 h19
  go_enter Tryz.func112,Tryz.ntmps112
  go_wp2
  go_ret2
  exact ⟨⟨_,rfl⟩,rfl⟩
 have j19:¬(19:Int)<(d.size:Int):=by omega
 by_cases h48:1<d.size∧x=48
 ·have hb:d.data.toList.head? =some 48:=by
   rw[hhd]
   exact congrArg some ((u8_iff (n:=48) (by decide)).2 (by rw[hx];exact h48.2))
  rw[numD_bad (Or.inr (Or.inr ⟨by rw[data_len];exact h48.1,hb⟩))]
  have j1:(1:Int)<(d.size:Int):=by omega
  obtain ⟨-,rfl⟩:=h48
  clear hhd hne2 h19 hb
  go_enter Tryz.func112,Tryz.ntmps112
  go_wp2
  go_ret2
  exact ⟨⟨_,rfl⟩,rfl⟩
 have hbad:¬(d.data.toList= []∨19<d.data.toList.length∨(1<d.data.toList.length∧d.data.toList.head? =some 48)):=by
  rintro (h|h|⟨h1,h2⟩)
  ·exact hne2 h
  ·rw[data_len] at h;exact h19 h
  ·rw[data_len] at h1
   refine h48 ⟨h1,?_⟩
   rw[hhd] at h2
   injection h2 with h2
   rw[←hx,h2]
   rfl
 obtain ⟨V,hV⟩:∃V,numD true d.data.toList=V:=⟨_,rfl⟩
 rw[hV]
 have HG:=gd (hV.symm.trans (numD_good (neg:=true) hbad))
 clear hV
 have hs19:d.size≤19:=by omega
 have hway:¬(1:Int)<(d.size:Int)∨((1:Int)<(d.size:Int)∧¬(x:Int)=48):=by omega
 clear hhd hne2 h19 hbad h48
 obtain ⟨R,hR⟩:∃R,decV d.data.toList 0=R:=⟨_,rfl⟩
 have HR:=gd hR
 clear hR
 rcases hway with j1|⟨j1,j48⟩
 all_goals (
  go_enter Tryz.func112,Tryz.ntmps112
  go_wp2
  go_loopw [5,6] (fun u i wr=>∃(k m:Nat) (M:Int),k≤d.size∧u= .int .u64 M∧i= .int .i64 (k:Nat)∧Hid ((m:Int)=M)∧Hid (m<10 ^ k)∧Hid (decV (d.data.toList.drop k) m=R)∧wr=w) (fun _ i _=>d.size - (intOf i).toNat)
  case atStart=>exact ⟨0,0,0,Nat.zero_le _,rfl,rfl,rfl,Nat.one_pos,HR.out,rfl⟩
  case round=>
   obtain ⟨k,m,M,hk,rfl,rfl,hmM,hm,hp,rfl⟩:=hrel
   by_cases hlt:k<d.size
   ·have hl:k<d.data.toList.length:=by rw[data_len];exact hlt
    have hst:decV (d.data.toList.drop k) m=if isDg d[k] then decV (d.data.toList.drop (k+1)) (m*10+(d[k].toNat - 48)) else none:=by
     rw[List.drop_eq_getElem_cons hl,decV_cons]
     rfl
    rw[hp.out] at hst
    have hdg:isDg d[k]=decide (48≤d[k].toNat∧d[k].toNat≤57):=rfl
    obtain ⟨y,hy⟩:∃y,d[k].toNat=y:=⟨_,rfl⟩
    have hyi:(d[k].toNat:Int)=(y:Int):=by rw[hy]
    rw[hdg,hy] at hst
    have b1:(k:Int)<(d.size:Int):=by omega
    have b2:(0:Int)≤(k:Int):=by omega
    by_cases hd:48≤y∧y≤57
    ·rw[decide_eq_true hd,if_pos rfl] at hst
     have HN:Hid (decV (d.data.toList.drop (k+1)) (m*10+(y - 48))=R):=hst.symm
     have hm2:m*10+(y - 48)<10 ^ (k+1):=by have:=hm.out;rw[Nat.pow_succ];omega
     have hp19:10 ^ (k+1)≤10 ^ 19:=Nat.pow_le_pow_right (by omega) (by omega)
     have e19:(10:Nat) ^ 19=10000000000000000000:=by decide
     have hmM':=hmM.out
     have HM2:=gd hm2
     have c1:¬(y:Int)<48:=by omega
     have c2:¬57<(y:Int):=by omega
     have d1:0≤M:=by omega
     have d2:M*10≤9999999999999999999:=by omega
     have d3:M*10+((y:Int) - 48)≤9999999999999999999:=by omega
     have HM3:Hid (((m*10+(y - 48):Nat):Int)=M*10+((y:Int) - 48)):=by show _=_;omega
     clear hst hdg hm hp hmM hmM' hp19 e19 hm2 hd
     go_wp2
     go_roundw
     case rel=>exact ⟨k+1,m*10+(y - 48),M*10+((y:Int) - 48),hlt,by first|rfl|(refine congrArg (Value.int .u64) ?_;omega),by go_num,HM3,HM2,HN,trivial⟩
     case measure=>simp[intOf];omega
    ·rw[decide_eq_false hd,if_neg (by decide)] at hst
     have hn:V=none:=by
      rw[HG.out,HR.out,hst]
     subst hn
     have hcase:(y:Int)<48∨(¬(y:Int)<48∧57<(y:Int)):=by omega
     clear hst hdg hm hp hmM hd HG HR
     rcases hcase with c1|⟨c1,c2⟩
     ·go_wp2
      go_ret2
      exact ⟨⟨_,rfl⟩,rfl⟩
     ·go_wp2
      go_ret2
      exact ⟨⟨_,rfl⟩,rfl⟩
   ·have hke:k=d.size:=by omega
    have b1:¬(k:Int)<(d.size:Int):=by omega
    have hfin:decV d.data.toList 0=some m:=by
     rw[HR.out,←hp.out,List.drop_of_length_le (by rw[data_len];omega)]
     rfl
    have hn:V=if m≤9223372036854775808 then some (-(m:Int)) else none:=by
     rw[HG.out,hfin]
     rfl
    have hmM':=hmM.out
    have d1:0≤M:=by omega
    have hpk:10 ^ k≤10 ^ 19:=Nat.pow_le_pow_right (by omega) (by omega)
    have e19:(10:Nat) ^ 19=10000000000000000000:=by decide
    have d2:M≤9999999999999999999:=by have:=hm.out;omega
    by_cases hu:m≤9223372036854775808
    ·rw[if_pos hu,hmM'] at hn
     subst hn
     have c1:M≤9223372036854775808:=by omega
     have c1':¬9223372036854775808<M:=by omega
     clear hm hp hmM hmM' hfin hu HG HR hpk e19
     go_wp2
     go_ret2
     exact ⟨by first|rfl|(show _=_;refine congrArg (fun t=>Ending.returned (.tuple #[.int .i64 t,.bool true])) ?_;exact neg_wrap (by omega) (by omega)),rfl⟩
    ·rw[if_neg hu] at hn
     subst hn
     have c1:¬M≤9223372036854775808:=by omega
     have c1':9223372036854775808<M:=by omega
     clear hm hp hmM hmM' hfin hu HG HR hpk e19
     go_wp2
     go_ret2
     exact ⟨⟨_,rfl⟩,rfl⟩)
theorem jNumber_any (s:ByteArray) (w:World) (hs:s.size≤80000000000) (h0:0<s.size):
 Calls Tryz.prog 112 #[.string s] w fun e w'=>NumR (numV s.data.toList) e∧w'=w:=by
 by_cases h45:s[0].toNat=45
 ·have hh:s.data.toList.head? =some 45:=by rw[head_get h0];exact congrArg some ((u8_iff (n:=45) (by decide)).2 h45)
  rw[numV_neg hh]
  exact jNumber_neg s w hs h0 h45
 ·have hh:¬s.data.toList.head? =some 45:=by
   rw[head_get h0]
   intro e
   injection e with e
   exact h45 ((u8_iff (n:=45) (by decide)).1 e)
  rw[numV_pos hh]
  exact jNumber_pos s w hs h0 h45
end
theorem keyLit_str (s:List UInt8):WideAt.IsKeyLit (.string s):=trivial
theorem keyLaw:Keyed Tryz.prog 9:=string_keyed Tryz.underlying9
theorem Ext.grown' {B:Nat} {a b c:World} {row:Option Nat} (h:Ext a b) (hg:b.grownBy c row) (hr:∀g,row=some g→a.heap.size≤g):Ext a c:=
 Below.grown h hg h.size fun k hk=>hr k hk
def SeenMap (D:DataW Unit) (p:ByteArray→Bool):Prop:=
 IsMap D∧∀s:ByteArray,D.atKey (.string s.data.toList) (.lit (.bool false))= .lit (.bool (p s))
theorem SeenMap.nil:SeenMap (.map []) (fun _=>false):=⟨isMap_empty,fun _=>rfl⟩
theorem SeenMap.put {D:DataW Unit} {p q:ByteArray→Bool} {s:ByteArray} (h:SeenMap D p) (hq:∀t,q t=(p t||decide (s=t))):SeenMap (D.put (.string s.data.toList) (.lit (.bool true))) q:=by
 refine ⟨h.1.put _ _,fun t=> ?_⟩
 rw[hq]
 by_cases e:s=t
 ·subst e
  rw[atKey_put_same h.1 (keyLit_str _)]
  simp
 ·have hne:(Lit.string t.data.toList)≠ .string s.data.toList:=by
   intro h'
   injection h' with h'
   exact e (data_inj h').symm
  rw[atKey_put_other hne,h.2 t]
  simp[e]
theorem plainElem_bool_inv {P:Program} {e:TypeId} (he:P.underlying e=some .bool) {v:Value} {z:DataW Unit×List MemPlace} (h:plainElem P e v=some z):∃b:Bool,v= .bool b∧z=(.lit (.bool b),[]):=by
 unfold plainElem at h
 rw[he] at h
 cases v<;>simp at h
 exact ⟨_,rfl,h.symm⟩
theorem zeroBool (w:World):(zeroValue 4).run Tryz.prog w= .ok (.bool false) w:=by kernel_rfl
theorem seen_look {w:World} {b n:Nat} {D:DataW Unit} {p:ByteArray→Bool} {s:ByteArray} (hM:w.ownsMap Tryz.prog 9 (plainElem Tryz.prog 4) b n D) (h:SeenMap D p) (hs:s.size≤maxLen):
 (Instr.lookup 192 (.map (some b)) (.string s) false).run Tryz.prog w= .ok (.bool (p s)) w:=by
 obtain ⟨v,ps,hrun,hv⟩:=hM.lookup keyLaw Tryz.underlying192 (zeroBool w) (plainElem_bool Tryz.underlying4 false) (keyOf_string_mk Tryz.underlying9 hs)
 obtain ⟨c,rfl,hc⟩:=plainElem_bool_inv Tryz.underlying4 hv
 rw[h.2 s] at hc
 simp only[Prod.mk.injEq,DataW.lit.injEq,Lit.bool.injEq] at hc
 rw[hrun,hc.1]
def ValidSaid (n:Nat):Prop:=∀(j:JV) (cs:List Value) (w:World) (d:Nat),RVn n w j cs→jok j→Env w→1≤d→d≤101→
 Calls Tryz.prog 144 #[.agg cs.toArray,.int .i64 (d:Nat)] w fun e w'=>e= .returned (.bool (jvalid j d))∧Ext w w'
theorem RVn.shape {w:World} {n:Nat} {j:JV} {cs:List Value} (h:RVn n w j cs):∃k b x s A m c B p q a,cs= [.int .i64 k,.bool b,.int .i64 x,.string s,.slice A m c,.slice B p q,.int .i64 a]:=by
 cases n with
 |zero=>exact h.elim
 |succ n=>
  obtain ⟨a,h⟩:=h
  cases j with
  |arr l=>obtain ⟨v,css,rfl,_,⟨_,A,c,rfl,_⟩,_⟩:=h;exact ⟨_,_,_,_,_,_,_,_,_,_,_,rfl⟩
  |obj ks vs=>obtain ⟨v,ms,rfl,_,_,⟨_,A,c,rfl,_⟩,_⟩:=h;exact ⟨_,_,_,_,_,_,_,_,_,_,_,rfl⟩
  |_=>subst h;exact ⟨_,_,_,_,_,_,_,_,_,_,_,rfl⟩
theorem valid_arr (n:Nat) (ih:ValidSaid n) (l:List JV) (cs:List Value) (w:World) (d:Nat) (h:RVn (n+1) w (.arr l) cs) (hok:jok (.arr l)) (hE:Env w) (hd:1≤d) (hd1:d≤101):
 Calls Tryz.prog 144 #[.agg cs.toArray,.int .i64 (d:Nat)] w fun e w'=>e= .returned (.bool (jvalid (.arr l) d))∧Ext w w':=by
 obtain ⟨a,v,css,rfl,hcl,hr,hel⟩:=h
 rw[jok_arr] at hok
 rw[jvalid_arr]
 have hr':=hr
 obtain ⟨_,A,c,rfl,hmc,hcm,_,_⟩:=hr'
 have hvs:=fun w' (hE':Env w')=>validString_any ⟨#[]⟩ w' hE' (by simp[ByteArray.size])
 have hvt:Lib.validD (⟨#[]⟩:ByteArray).data.toList=true:=by decide
 have HVS:=gd hvs
 have HIH:=gd ih
 have HEL:=gd hel
 have HOK:=gd hok
 have HUN:=gd (fun w' (hx:Ext w w')=>unused_any (n+1) (.arr l) (vcells 4 false 0 ⟨#[]⟩ (.slice A l.length c) a) w' ⟨a,_,css,rfl,hcl,hr.ext hx,fun i j c hj hc=>(hel i j c hj hc).ext hx⟩)
 have hmm:= @run_makeMap Tryz.prog
 have hln:∀c∈css,c.length=7:=by
  intro c hc
  obtain ⟨i,hi,rfl⟩:=List.mem_iff_getElem.1 hc
  exact (hel i l[i] css[i] (List.getElem?_eq_getElem (by omega)) (List.getElem?_eq_getElem hi)).len
 have HLN:=gd hln
 clear hvs ih hel hok hln
 by_cases hd2:d≤100
 ·have hd3:decide ((100:Int)<(d:Nat))=false:=by simp;omega
  have HDD:=gd hd2
  unfold vcells at*
  go_enter Tryz.func144,Tryz.ntmps144
  go_wp2_with (first|(go_at_call 177;refine (HUN.out _ ((Ext.refl _).alloc _)).mono ?_;rintro e w1 ⟨rfl,hx1⟩;(have hb3:=hx1.boxed 3 _ rfl))|(go_at_call 178;refine (HVS.out _ ((hE.alloc _).ext hx1)).mono ?_;rintro e w2 ⟨rfl,hx2⟩;(have hb4:=hx2.cell (hx1.boxed 4 _ rfl));(have hb5:=hx2.cell (hx1.boxed 5 _ rfl))))
  go_loopw [36] (fun i wr=>∃k:Nat,k≤l.length∧i= .int .i64 k∧Hid ((l.all fun j=>jvalid j (d+1))=((l.drop k).all fun j=>jvalid j (d+1)))∧Ext w2 wr) (fun i _=>l.length - (intOf i).toNat)
  case atStart=>exact ⟨0,Nat.zero_le _,rfl,rfl,Ext.refl _⟩
  case round=>
   obtain ⟨k,hk,rfl,hall,hx⟩:=hrel
   by_cases hlt:k<l.length
   ·have hck:k<css.length:=by omega
    have hRV:=HEL.out k l[k] css[k] (List.getElem?_eq_getElem hlt) (List.getElem?_eq_getElem hck)
    obtain ⟨ad,cap,hA,hcells⟩:=RSl.elem (hr.ext ((((Ext.refl w).alloc _).trans hx1).trans (hx2.trans hx))) (by omega) HLN.out k css[k] (List.getElem?_eq_getElem hck)
    injection hA with hA1 hA2 hA3
    subst hA1
    clear hA2 hA3
    rw[Nat.mul_comm] at hcells
    obtain ⟨x0,x1,x2,x3,x4,x5,x6,y4,y5,y6,x7,hc⟩:=hRV.shape
    rw[hc] at hcells
    have hc0:=hcells 0 _ rfl
    have hc1:=hcells 1 _ rfl
    have hc2:=hcells 2 _ rfl
    have hc3:=hcells 3 _ rfl
    have hc4:=hcells 4 _ rfl
    have hc5:=hcells 5 _ rfl
    have hc6:=hcells 6 _ rfl
    rw[add_zero] at hc0
    have hadd:∀i,0<i→(ad.add (k*7)).add i=⟨(ad.add (k*7)).block,(ad.add (k*7)).off+i,none⟩:=fun i hi=>if_neg (by omega)
    rw[hadd _ (by omega)] at hc1 hc2 hc3 hc4 hc5 hc6
    clear hadd
    rw[hc] at hRV
    clear hcells
    have hE2:=hE.ext ((((Ext.refl w).alloc _).trans hx1).trans (hx2.trans hx))
    have hRV2:=hRV.ext ((((Ext.refl w).alloc _).trans hx1).trans (hx2.trans hx))
    have hok1:=HOK.out l[k] (List.getElem_mem _)
    have hwrap:IntKind.i64.wrap ((d:Int)+1)=((d+1:Nat):Int):=by rw[IntKind.wrap];simp[IntKind.signed,IntKind.bits];omega
    have hall':=hall.out.trans (by rw[List.drop_eq_getElem_cons hlt,List.all_cons]:_=(jvalid l[k] (d+1) && (l.drop (k+1)).all fun j=>jvalid j (d+1)))
    have HALL:=gd hall'
    have HOK1:=gd hok1
    have HRV2:=gd hRV2
    clear hall hall' hok1 hRV hRV2
    have hw1:wrap64 ((k:Int)+1)=((k+1:Nat):Int):=by rw[maxLen] at hcm;rw[wrap_ok _ ⟨by omega,by omega⟩];rfl
    have hxw:=(((Ext.refl w).alloc _).trans hx1).trans (hx2.trans hx)
    go_wp2_with (first|(go_at_call 144;refine (HIH.out l[k] _ _ (d+1) (HRV2.out.ext ((Ext.refl _).alloc _)) HOK1.out (hE2.alloc _) (by omega) (by omega)).mono ?_;rintro e w3 ⟨rfl,hx3⟩))
    ·go_ret
     refine ⟨?_,(hxw.alloc _).trans hx3⟩
     have h1:=HALL.out
     simp_all
    ·go_roundw
     case rel=>first|exact ⟨k+1,by omega,by rw[hw1],by have h1:=HALL.out;simp_all [Hid],(hx.alloc _).trans hx3⟩|((repeat apply Exists.intro);exact ⟨⟨k+1,by omega,by rw[hw1],by have h1:=HALL.out;simp_all [Hid],(hx.alloc _).trans hx3⟩,rfl⟩)
     case measure=>rw[hw1];simp[intOf];omega
   ·have hk':k=l.length:=by omega
    subst hk'
    have hall1:=gd (hall.out.trans (by simp:_=true))
    have hb5':=((Ext.refl wr).alloc (.map #[] 0)).cell (hx.cell hb5)
    go_wp2
    refine wp_loop_rounds 1 ?_
    rw[rounds_succ]
    go_wp2
    go_ret
    refine ⟨by rw[hall1.out];simp[HDD.out],?_⟩
    exact (((((Ext.refl w).alloc _).trans hx1).trans (hx2.trans hx)).alloc _)
 ·have hd3:decide ((100:Int)<(d:Nat))=true:=by simp;omega
  have HDD:=gd hd2
  unfold vcells at*
  go_enter Tryz.func144,Tryz.ntmps144
  go_wp2
  go_ret
  exact ⟨by simp,(Ext.refl _).alloc _⟩
theorem mcell_at {w:World} {ad:Addr} {key:ByteArray} {cs:List Value} {at_:Int} {k:Nat} (hl:cs.length=7) (h:∀j u,(mcell (key,cs,at_))[j]? =some u→w.cell? ((ad.add (k*9)).add j)=some u):
 w.cell? (ad.add (k*9))=some (.string key)∧(∀j u,cs[j]? =some u→w.cell? ⟨(ad.add (k*9)).block,(ad.add (k*9)).off+(j+1),none⟩=some u)∧w.cell? ⟨(ad.add (k*9)).block,(ad.add (k*9)).off+8,none⟩=some (.int .i64 at_):=by
 have hadd:∀i,0<i→(ad.add (k*9)).add i=⟨(ad.add (k*9)).block,(ad.add (k*9)).off+i,none⟩:=fun i hi=>if_neg (by omega)
 refine ⟨?_,fun j u hj=> ?_,?_⟩
 ·have:=h 0 _ rfl
  rwa [add_zero] at this
 ·have hj7:j<cs.length:=(List.getElem?_eq_some_iff.1 hj).1
  have:=h (j+1) u (by show (cs++ [_])[j]? =some u;rw[List.getElem?_append_left hj7];exact hj)
  rwa [hadd _ (by omega)] at this
 ·have:=h 8 (.int .i64 at_) (by show (cs++ [_])[7]? =_;rw[List.getElem?_append_right (by omega),hl];rfl)
  rwa [hadd _ (by omega)] at this
theorem valid_obj (n:Nat) (ih:ValidSaid n) (ks:List ByteArray) (vs:List JV) (cs:List Value) (w:World) (d:Nat) (h:RVn (n+1) w (.obj ks vs) cs) (hok:jok (.obj ks vs)) (hE:Env w) (hd:1≤d) (hd1:d≤101):
 Calls Tryz.prog 144 #[.agg cs.toArray,.int .i64 (d:Nat)] w fun e w'=>e= .returned (.bool (jvalid (.obj ks vs) d))∧Ext w w':=by
 obtain ⟨a,v,ms,rfl,hks,hml,hr,hel⟩:=h
 rw[jok_obj] at hok
 obtain ⟨hkl,hnd,hkv,hvs⟩:=hok
 rw[jvalid_obj]
 have hr':=hr
 obtain ⟨_,A,c,rfl,hmc,hcm,_,_⟩:=hr'
 have hsz0:(⟨#[]⟩:ByteArray).size≤16777216:=by simp[ByteArray.size]
 have hvs0:=fun w' (hE':Env w')=>validString_any ⟨#[]⟩ w' hE' hsz0
 have hvt:Lib.validD (⟨#[]⟩:ByteArray).data.toList=true:=by decide
 rw[hvt] at hvs0
 have HVS:=gd hvs0
 have HUN:=gd (fun w' (hx:Ext w w')=>unused_any (n+1) (.obj ks vs) (ocells (.slice A vs.length c) a) w' ⟨a,_,ms,rfl,hks,hml,hr.ext hx,fun i j c hj hc=>(hel i j c hj hc).ext hx⟩)
 have hmm:= @run_makeMap Tryz.prog
 have hln:∀c∈ms.map mcell,c.length=9:=by
  intro c hc
  obtain ⟨m,hm,rfl⟩:=List.mem_map.1 hc
  obtain ⟨i,hi,rfl⟩:=List.mem_iff_getElem.1 hm
  have:=(hel i vs[i] ms[i] (List.getElem?_eq_getElem (by omega)) (List.getElem?_eq_getElem hi)).len
  simp[mcell,this]
 have HLN:=gd hln
 have HIH:=gd ih
 have HEL:=gd hel
 have HVV:=gd hvs
 have HKS:=gd hks
 have HND:=gd hnd
 have HKV:=gd hkv
 have HR:=gd hr
 have HE:=gd hE
 clear hln ih hel hvs hks hnd hkv hvs0 hvt hsz0
 by_cases hd2:d≤100
 ·have hd3:decide ((100:Int)<(d:Nat))=false:=by simp;omega
  have HDD:=gd hd2
  unfold ocells at*
  go_enter Tryz.func144,Tryz.ntmps144
  go_wp2_with (first|(go_at_call 177;refine (HUN.out _ ((Ext.refl _).alloc _)).mono ?_;rintro e w1 ⟨rfl,hx1⟩;(have hb3:=hx1.boxed 3 _ rfl))|(go_at_call 178;refine (HVS.out _ ((HE.out.alloc _).ext hx1)).mono ?_;rintro e w2 ⟨rfl,hx2⟩;(have hb4:=hx2.cell (hx1.boxed 4 _ rfl));(have hb5:=((Ext.refl w2).alloc (.map #[] 0)).cell (hx2.cell (hx1.boxed 5 _ rfl)))))
  refine wp_loop_rounds 1 ?_
  rw[rounds_succ]
  go_wp2
  go_loopw [50] (fun i wr=>∃(k:Nat) (D:DataW Unit),k≤vs.length∧i= .int .i64 k∧wr.ownsMap Tryz.prog 9 (plainElem Tryz.prog 4) w2.heap.size k D∧Hid (SeenMap D (fun s=>(ks.take k).any (fun e=>decide (e=s))))∧Hid ((vs.all fun j=>jvalid j (d+1))=((vs.drop k).all fun j=>jvalid j (d+1)))∧Ext w2 wr) (fun i _=>vs.length - (intOf i).toNat)
  case atStart=>exact ⟨0,.map [],Nat.zero_le _,rfl,World.ownsMap_made _ _ _ _,gd SeenMap.nil,rfl,(Ext.refl _).alloc _⟩
  case round=>
   obtain ⟨k,D,hk,rfl,hM,hD,hall,hx⟩:=hrel
   have hx2m:Ext w w2:=(((Ext.refl w).alloc _).trans hx1).trans hx2
   have hxw:Ext w wr:=hx2m.trans hx
   by_cases hlt:k<vs.length
   ·have hck:k<ms.length:=by omega
    have hkk:k<ks.length:=by omega
    have hRV:=HEL.out k vs[k] ms[k] (List.getElem?_eq_getElem hlt) (List.getElem?_eq_getElem hck)
    obtain ⟨ad,cap,hA,hcells⟩:=RSl.elem (HR.out.ext hxw) (by omega) HLN.out k (mcell ms[k]) (by rw[List.getElem?_map,List.getElem?_eq_getElem hck];rfl)
    injection hA with hA1 hA2 hA3
    subst hA1
    clear hA2 hA3
    rw[Nat.mul_comm] at hcells
    have hkey:ks[k]=ms[k].1:=by
     have h1:(ms.map Prod.fst)[k]? =ks[k]?:=by rw[HKS.out]
     rw[List.getElem?_map,List.getElem?_eq_getElem hck,List.getElem?_eq_getElem hkk] at h1
     injection h1 with h1
     exact h1.symm
    have hseen:(ks.take k).any (fun e=>decide (e=ks[k]))=false:=by
     rw[List.any_eq_false]
     intro x hx hxe
     have hxe:x=ks[k]:=by simpa using hxe
     obtain ⟨j,hj,hje⟩:=List.mem_take_iff_getElem.1 hx
     have:=(List.pairwise_iff_getElem.1 (List.nodup_iff_pairwise_ne.1 HND.out)) j k (by omega) hkk (by omega)
     exact this (hje.trans hxe)
    have htk:=List.take_succ_eq_append_getElem hkk
    have hkok:=HKV.out ks[k] (List.getElem_mem _)
    have hok1:=HVV.out vs[k] (List.getElem_mem _)
    have hall':=hall.out.trans (by rw[List.drop_eq_getElem_cons hlt,List.all_cons]:_=(jvalid vs[k] (d+1) && (vs.drop (k+1)).all fun j=>jvalid j (d+1)))
    obtain ⟨M,hM0⟩:∃M,ms[k]=M:=⟨_,rfl⟩
    rw[hM0] at hcells hRV hkey
    obtain ⟨key,cv,at_⟩:=M
    dsimp only at hkey hRV
    rw[hkey] at hseen htk hkok
    have hl7:=hRV.len
    obtain ⟨x0,x1,x2,x3,x4,x5,x6,y4,y5,y6,x7,hc⟩:=hRV.shape
    subst hc
    obtain ⟨c0,cv_,c8⟩:=mcell_at hl7 hcells
    have c1:=cv_ 0 _ rfl
    have c2:=cv_ 1 _ rfl
    have c3:=cv_ 2 _ rfl
    have c4:=cv_ 3 _ rfl
    have c5:=cv_ 4 _ rfl
    have c6:=cv_ 5 _ rfl
    have c7:=cv_ 6 _ rfl
    simp only[Nat.zero_add,Nat.reduceAdd] at c1 c2 c3 c4 c5 c6 c7
    have hmx:key.size≤maxLen:=by have:=hkok.1;unfold maxLen;omega
    have HKEY:=gd (keyOf_string_mk Tryz.underlying9 hmx:keyOf Tryz.prog 9 (.string key)=some (.string key.data.toList))
    have HPUT:Hid (SeenMap (D.put (.string key.data.toList) (.lit (.bool true))) (fun s=>(ks.take (k+1)).any (fun e=>decide (e=s)))):=gd (hD.out.put fun t=>by rw[htk,List.any_append];simp)
    obtain ⟨W1,hW1⟩:∃W1,wr.alloc (.cells #[.string key,.int .i64 x0,.bool x1,.int .i64 x2,.string x3,.slice x4 x5 x6,.slice y4 y5 y6,.int .i64 x7,.int .i64 at_] 56)=W1:=⟨_,rfl⟩
    have hx1':Ext wr W1:=by rw[←hW1];exact (Ext.refl _).alloc _
    have hLK:=seen_look (hM.kept (hx1'.grown none) (by simp)) hD.out hmx
    simp only[hseen] at hLK
    have HBX:Hid (∀i u wz,#[Value.string key,.int .i64 x0,.bool x1,.int .i64 x2,.string x3,.slice x4 x5 x6,.slice y4 y5 y6,.int .i64 x7,.int .i64 at_][i]? =some u→Ext W1 wz→wz.cell? ⟨wr.heap.size,i,none⟩=some u):=gd (fun i u wz h hz=>Ext.boxed (w:=wr) (by rw[hW1];exact hz) i u h)
    have HVK:=gd (validString_any key W1 (HE.out.ext (hxw.trans hx1')) hkok.1)
    rw[hkok.2] at HVK
    have HRV:=gd (hRV.ext (hxw.trans hx1'))
    have HOK1:=gd hok1
    have HALL:=gd hall'
    have HM:=gd (hM.kept (hx1'.grown none) (by simp))
    have HXW:=gd (hxw.trans hx1')
    have HXM:=gd (hx.trans hx1')
    have HKL:Hid (k<maxLen):=gd (by have:=hmc;have:=hcm;omega)
    have hw1:wrap64 ((k:Int)+1)=((k+1:Nat):Int):=by rw[maxLen] at hcm;rw[wrap_ok _ ⟨by omega,by omega⟩];rfl
    have hwrap:IntKind.i64.wrap ((d:Int)+1)=((d+1:Nat):Int):=by rw[IntKind.wrap];simp[IntKind.signed,IntKind.bits];omega
    have b0:=HBX.out 0 _ W1 rfl (Ext.refl _)
    clear hall hall' hok1 hRV hcells cv_ hl7 hkok hmx hseen htk hkey hM0 hM hx1' hD hcm
    go_wp2_with (first|(go_at_call 178;(have hz:=HVK.out);(with_reducible refine Calls.mono hz ?_);clear hz;rintro e w3 ⟨rfl,hx3⟩;(have b1:=HBX.out 1 _ w3 rfl hx3);(have b2:=HBX.out 2 _ w3 rfl hx3);(have b3:=HBX.out 3 _ w3 rfl hx3);(have b4:=HBX.out 4 _ w3 rfl hx3);(have b5:=HBX.out 5 _ w3 rfl hx3);(have b6:=HBX.out 6 _ w3 rfl hx3);(have b7:=HBX.out 7 _ w3 rfl hx3);(have HR3:=gd (HRV.out.ext hx3));(have HE3:=gd (HE.out.ext (HXW.out.trans hx3))))|(go_at_call 144;(have hz:=HIH.out vs[k] _ w3 (d+1) HR3.out HOK1.out HE3.out (by omega) (by omega));(rw[show ((d+1:Nat):Int)=(d:Int)+1 from rfl] at hz);(with_reducible refine Calls.mono hz ?_);clear hz;rintro e w4 ⟨rfl,hx4⟩;(have d0:=HBX.out 0 _ w4 rfl (hx3.trans hx4));(have HM4:=gd (HM.out.kept ((hx3.trans hx4).grown none) (by simp))))|(at_mapUpdate;(refine wpList_mapUpdate_own _ rfl (.tmp 72) (.tmp 74) (.const (.bool true)) 192 rfl 9 4 keyLaw Tryz.underlying192 _ w2.heap.size k D rfl HM4.out HKL.out _ _ _ rfl rfl HKEY.out _ [] (plainElem_bool Tryz.underlying4 true) ?_);intro w5 hM5 hg5))
    ·go_ret
     refine ⟨?_,HXW.out.trans (hx3.trans hx4)⟩
     have h1:=HALL.out
     simp_all
    ·have hxm:Ext w2 w5:=Ext.grown' (B:=0) (HXM.out.trans (hx3.trans hx4)) hg5 (fun b hb=>by cases hb;exact Nat.le_refl _)
     have HM5:=gd hM5
     have HAL2:Hid ((vs.all fun j=>jvalid j (d+1))=((vs.drop (k+1)).all fun j=>jvalid j (d+1))):=by have h1:=HALL.out;simp_all [Hid]
     clear hM5 hg5
     go_roundw
     case rel=>exact ⟨k+1,_,hlt,by rw[hw1],HM5.out,HPUT,HAL2,hxm⟩
     case measure=>rw[hw1];simp[intOf];omega
   ·have hk':k=vs.length:=by omega
    subst hk'
    have hall1:=gd (hall.out.trans (by simp:_=true))
    clear hall
    go_wp2
    go_ret
    exact ⟨by rw[hall1.out];simp[HDD.out],hxw⟩
 ·have hd3:decide ((100:Int)<(d:Nat))=true:=by simp;omega
  have HDD:=gd hd2
  unfold ocells at*
  go_enter Tryz.func144,Tryz.ntmps144
  go_wp2
  go_ret
  exact ⟨by simp[HDD.out],(Ext.refl _).alloc _⟩
theorem valid_leaf (k:Int) (b:Bool) (x:Int) (s:ByteArray) (a:Int) (w:World) (d:Nat) (hE:Env w) (hs:s.size≤16777216) (hk:0≤k) (hk5:k≤5) (hd:1≤d) (hd1:d≤101)
 (hun:∀w',Calls Tryz.prog 177 #[.agg (vcells k b x s (.slice none 0 0) a).toArray] w' fun e w''=>e= .returned (.bool true)∧Ext w' w''):
 Calls Tryz.prog 144 #[.agg (vcells k b x s (.slice none 0 0) a).toArray,.int .i64 (d:Nat)] w fun e w'=>e= .returned (.bool (decide (d≤100) && Lib.validD s.data.toList))∧Ext w w':=by
 have hvs:=fun w' (hE':Env w')=>validString_any s w' hE' hs
 have HVS:=gd hvs
 have HUN:=gd hun
 have hk1:decide (k<0)=false:=by simp;omega
 have hk2:decide (5<k)=false:=by simp;omega
 have hmm:= @run_makeMap Tryz.prog
 clear hvs hun hs
 by_cases hd2:d≤100
 ·have hd3:decide ((100:Int)<(d:Nat))=false:=by simp;omega
  have HDD:=gd hd2
  unfold vcells at*
  have key:∀vb:Bool,Lib.validD s.data.toList=vb→Calls Tryz.prog 144 #[.agg #[.int .i64 k,.bool b,.int .i64 x,.string s,.slice none 0 0,.slice none 0 0,.int .i64 a],.int .i64 (d:Nat)] w fun e w'=>e= .returned (.bool vb)∧Ext w w':=by
   intro vb hvb
   rw[hvb] at HVS
   clear hvb
   go_enter Tryz.func144,Tryz.ntmps144
   cases vb
   ·go_wp2_with (first|(go_at_call 177;refine (HUN.out _).mono ?_;rintro e w1 ⟨rfl,hx1⟩;(have hb3:=hx1.boxed 3 _ rfl))|(go_at_call 178;refine (HVS.out _ ((hE.alloc _).ext hx1)).mono ?_;rintro e w2 ⟨rfl,hx2⟩))
    go_ret
    exact ⟨rfl,(((Ext.refl w).alloc _).trans hx1).trans hx2⟩
   ·go_wp2_with (first|(go_at_call 177;refine (HUN.out _).mono ?_;rintro e w1 ⟨rfl,hx1⟩;(have hb3:=hx1.boxed 3 _ rfl))|(go_at_call 178;refine (HVS.out _ ((hE.alloc _).ext hx1)).mono ?_;rintro e w2 ⟨rfl,hx2⟩;(have hb4:=hx2.cell (hx1.boxed 4 _ rfl));(have hb5:=((Ext.refl w2).alloc (.map #[] 0)).cell (hx2.cell (hx1.boxed 5 _ rfl)))))
    refine wp_loop_rounds 1 ?_
    rw[rounds_succ]
    go_wp2
    refine wp_loop_rounds 1 ?_
    rw[rounds_succ]
    go_wp2
    go_ret
    exact ⟨rfl,((((Ext.refl w).alloc _).trans hx1).trans hx2).alloc _⟩
  refine (key _ rfl).mono ?_
  rintro e w' ⟨rfl,hx⟩
  exact ⟨by simp[HDD.out],hx⟩
 ·have hd3:decide ((100:Int)<(d:Nat))=true:=by simp;omega
  have HDD:=gd hd2
  unfold vcells at*
  go_enter Tryz.func144,Tryz.ntmps144
  go_wp2
  go_ret
  exact ⟨by simp[HDD.out],(Ext.refl _).alloc _⟩
theorem vnil:Lib.validD (⟨#[]⟩:ByteArray).data.toList=true:=by decide
theorem valid_in:∀n,ValidSaid n
 |0,_,_,_,_,h,_,_,_,_=>h.elim
 |n+1,j,cs,w,d,h,hok,hE,hd,hd1=>by
  cases j with
  |arr l=>exact valid_arr n (valid_in n) l cs w d h hok hE hd hd1
  |obj ks vs=>exact valid_obj n (valid_in n) ks vs cs w d h hok hE hd hd1
  |null=>
   obtain ⟨a,rfl⟩:=h
   refine (valid_leaf 0 false 0 ⟨#[]⟩ a w d hE (by simp[ByteArray.size]) (by omega) (by omega) hd hd1 fun w'=>unused_any (n+1) .null _ w' ⟨a,rfl⟩).mono ?_
   rintro e w' ⟨rfl,hx⟩
   exact ⟨by rw[vnil,Bool.and_true];simp[jvalid],hx⟩
  |bool b=>
   obtain ⟨a,rfl⟩:=h
   refine (valid_leaf 1 b 0 ⟨#[]⟩ a w d hE (by simp[ByteArray.size]) (by omega) (by omega) hd hd1 fun w'=>unused_any (n+1) (.bool b) _ w' ⟨a,rfl⟩).mono ?_
   rintro e w' ⟨rfl,hx⟩
   exact ⟨by rw[vnil,Bool.and_true];simp[jvalid],hx⟩
  |int x=>
   obtain ⟨a,rfl⟩:=h
   refine (valid_leaf 2 false x ⟨#[]⟩ a w d hE (by simp[ByteArray.size]) (by omega) (by omega) hd hd1 fun w'=>unused_any (n+1) (.int x) _ w' ⟨a,rfl⟩).mono ?_
   rintro e w' ⟨rfl,hx⟩
   exact ⟨by rw[vnil,Bool.and_true];simp[jvalid],hx⟩
  |str s=>
   obtain ⟨a,rfl⟩:=h
   refine (valid_leaf 3 false 0 s a w d hE (by simpa [jok] using hok) (by omega) (by omega) hd hd1 fun w'=>unused_any (n+1) (.str s) _ w' ⟨a,rfl⟩).mono ?_
   rintro e w' ⟨rfl,hx⟩
   exact ⟨by simp[jvalid],hx⟩
theorem jcheck_any (j:JV) (cs:List Value) (w:World) (h:RV w j cs) (hok:jok j) (hE:Env w):
 Calls Tryz.prog 103 #[.agg cs.toArray] w fun e w'=>e= .returned (.int .i64 (if jvalid j 1 then 0 else 22))∧Ext w w':=by
 obtain ⟨n,h⟩:=h
 obtain ⟨x0,x1,x2,x3,x4,x5,x6,y4,y5,y6,x7,hc⟩:=h.shape
 subst hc
 have H:=gd (fun w' (hx:Ext w w')=>valid_in n j _ w' 1 (h.ext hx) hok (hE.ext hx) (by omega) (by omega))
 clear h hok hE
 go_enter Tryz.func103,Tryz.ntmps103
 go_wp2_with (go_at_call 144;refine (H.out _ ((Ext.refl w).alloc _)).mono ?_;rintro e w' ⟨rfl,hx⟩)
 all_goals go_ret
 all_goals exact ⟨by simp_all,((Ext.refl w).alloc _).trans hx⟩
section
set_option linter.unusedSimpArgs false
def KeyR (o:Option (ByteArray×Nat)) (e:Ending):Prop:=match o with
 |some (k,to_)=>e= .returned (.tuple #[.string k,.int .i64 (to_:Nat),.int .i64 0])
 |none=>∃a x:Nat,x≠0∧e= .returned (.tuple #[.string ⟨#[]⟩,.int .i64 (a:Nat),.int .i64 (x:Nat)])
theorem any_step {ks:List ByteArray} {k:Nat} {n:ByteArray} (hk:k<ks.length):(ks.drop k).any (fun p=>decide (p=n))=(decide (ks[k]=n)||(ks.drop (k+1)).any fun p=>decide (p=n)):=by
 rw[List.drop_eq_getElem_cons hk,List.any_cons]
theorem jKey_any (s:ByteArray) (a fr:Nat) (ks:List (ByteArray×Nat)) (mv:Value) (ms:List (ByteArray×List Value×Int)) (w:World) (hs:s.size≤80000000000) (ha:a≤s.size)
 (hks:ms.map Prod.fst=ks.map Prod.fst) (hr:RSl w 9 mv ms.length (ms.map mcell).flatten) (h7:∀m∈ms,m.2.1.length=7):
 Calls Tryz.prog 156 #[.string s,.int .i64 (a:Nat),.agg (wcells 5 false 0 noS (.slice none 0 0) mv (fr:Nat)).toArray] w fun e w'=>KeyR (keyP s.data.toList a ks) e∧Ext w w':=by
 obtain ⟨_,A,c,rfl,hmc,hcm,_,_⟩:=id hr
 obtain ⟨V,hV⟩:∃V,keyP s.data.toList a ks=V:=⟨_,rfl⟩
 rw[hV]
 unfold keyP at hV
 have i0:(0:Int)≤(a:Int):=by omega
 by_cases hq:s.data.toList[a]? =some 34
 case neg=>
  have hst:strP s.data.toList a=none:=by unfold strP;rw[if_neg hq]
  rw[hst] at hV
  obtain rfl:V=none:=hV.symm
  clear hV hst
  have hway:(s.size:Int)≤(a:Int)∨∃h:a<s.size,¬(s.size:Int)≤(a:Int)∧(a:Int)<(s.size:Int)∧((s[a].toNat:Int) !=34)=true:=by
   by_cases h:s.size≤a
   ·exact Or.inl (by omega)
   ·refine Or.inr ⟨by omega,by omega,by omega,?_⟩
    rw[bne_iff_ne]
    intro e
    refine hq ?_
    rw[List.getElem?_eq_getElem (by rw[data_len];omega)]
    exact congrArg some ((u8_iff (n:=34) (by decide)).2 (by have:s[a].toNat=34:=(by omega);exact this))
  have HW:=gd (fun w'=>jWrong_any s a w')
  clear hq hks hr h7
  unfold wcells noS
  rcases hway with h1|⟨h0,h1,h2,h3⟩
  all_goals go_enter Tryz.func156,Tryz.ntmps156
  all_goals go_wp2_with (first|(go_at_call 107;(with_reducible refine Calls.mono (HW.out _) ?_);rintro e w3 ⟨⟨b,x,hx0,rfl⟩,hx3⟩))
  all_goals (
   have q7:∀d:Aft (w3.alloc (.cells #[.int .i64 0,.bool false,.int .i64 0,.string ⟨#[]⟩,.slice none 0 0,.slice none 0 0,.int .i64 0,.int .i64 (b:Nat),.int .i64 (x:Nat)] 109)),d.w.cell? ⟨w3.heap.size,7,none⟩=some (.int .i64 (b:Nat)):=Aft.cell ((Ext.refl _).boxed 7 _ rfl)
   have q8:∀d:Aft (w3.alloc (.cells #[.int .i64 0,.bool false,.int .i64 0,.string ⟨#[]⟩,.slice none 0 0,.slice none 0 0,.int .i64 0,.int .i64 (b:Nat),.int .i64 (x:Nat)] 109)),d.w.cell? ⟨w3.heap.size,8,none⟩=some (.int .i64 (x:Nat)):=Aft.cell ((Ext.refl _).boxed 8 _ rfl)
   refine rA ?_
   repeat (first|go_big_quiet_step (fail)|quiet_step (fail))
   refine wpQuiet_nil ?_
   rintro _ ⟨d1,rfl⟩
   go_wp2
   go_ret3
   exact ⟨⟨b,x,hx0,rfl⟩,((((Ext.refl w).alloc _).trans hx3).alloc _).trans d1.ext⟩)
 have haS:a<s.size:=by
  have:=(List.getElem?_eq_some_iff.1 hq).1
  rwa [data_len] at this
 have h34i:(s[a].toNat:Int)=34:=by
  rw[List.getElem?_eq_getElem (by rw[data_len];exact haS)] at hq
  injection hq with hq
  have e:s[a].toNat=34:=(u8_iff (n:=34) (by decide)).1 hq
  omega
 have h1:¬(s.size:Int)≤(a:Int):=by omega
 have h2:(a:Int)<(s.size:Int):=by omega
 have HS:=gd (fun w'=>refStrP_any s a w' hs haS hq)
 cases hst:strP s.data.toList a with
 |none=>
  rw[hst] at hV HS
  obtain rfl:V=none:=hV.symm
  clear hV hst hq hks hr h7
  unfold wcells noS
  go_enter Tryz.func156,Tryz.ntmps156
  go_wp2_with (first|(go_at_call 109;(with_reducible refine Calls.mono (HS.out _) ?_);rintro e w3 ⟨⟨b,x,hx0,rfl⟩,hx3⟩;(have hx0i:((x:Int) !=0)=true:=by rw[bne_iff_ne];omega)))
  go_ret3
  exact ⟨⟨b,x,hx0,rfl⟩,((Ext.refl w).alloc _).trans hx3⟩
 |some p=>
  obtain ⟨t,z⟩:=p
  obtain ⟨-, -,hz1,hz2⟩:=strP_ok hst
  rw[data_len] at hz2
  rw[hst] at hV HS
  simp only at hV
  have HR:=gd hr
  have H7:=gd h7
  have HKS:=gd hks
  have HV:=gd hV
  have hln:∀c∈ms.map mcell,c.length=9:=by
   intro c hc
   obtain ⟨m,hm,rfl⟩:=List.mem_map.1 hc
   simp[mcell,h7 m hm]
  have HLN:=gd hln
  have hkl:ks.length=ms.length:=by
   have:=congrArg List.length hks
   rw[List.length_map,List.length_map] at this
   exact this.symm
  have hcell5:∀w',Ext (w.alloc (.cells (wcells 5 false 0 noS (.slice none 0 0) (.slice A ms.length c) (fr:Nat)).toArray 25)) w'→w'.cell? ⟨w.heap.size,5,none⟩=some (.slice A ms.length c):=fun w' hx=>hx.boxed 5 _ rfl
  unfold wcells noS at*
  have HCM:Hid (ms.length≤maxLen):=Nat.le_trans hmc hcm
  clear hV hst hq hks hr h7 hln hcm hmc
  go_enter Tryz.func156,Tryz.ntmps156
  go_wp2_with (first|(go_at_call 109;(with_reducible refine Calls.mono (HS.out _) ?_);rintro e w3 ⟨he,hx3⟩;(replace he:e= .returned (.tuple #[.string (str t),.int .i64 (z:Nat),.int .i64 0]):=he);subst he))
  go_loopw [13] (fun i wr=>∃k:Nat,k≤ms.length∧i= .int .i64 (k:Nat)∧Hid ((ks.map Prod.fst).any (fun p=>decide (p=str t))=((ks.map Prod.fst).drop k).any fun p=>decide (p=str t))∧wr=w3) (fun i _=>ms.length - (intOf i).toNat)
  case atStart=>exact ⟨0,Nat.zero_le _,rfl,by rw[List.drop_zero];trivial,rfl⟩
  case round=>
   obtain ⟨k,hk,rfl,hany,rfl⟩:=hrel
   have q5:=hcell5 wr hx3
   by_cases hlt:k<ms.length
   ·have hkk:k<(ks.map Prod.fst).length:=by rw[List.length_map];omega
    have hst:=any_step (n:=str t) hkk
    obtain ⟨ad,cap,hA,hcells⟩:=RSl.elem (HR.out.ext (((Ext.refl w).alloc _).trans hx3)) (by omega) HLN.out k (mcell ms[k]) (by rw[List.getElem?_map,List.getElem?_eq_getElem hlt];rfl)
    injection hA with hA1 hA2 hA3
    subst hA1
    clear hA2 hA3
    rw[Nat.mul_comm] at hcells
    have hkey:(ks.map Prod.fst)[k]=ms[k].1:=by
     have e1:(ks.map Prod.fst)[k]? =(ms.map Prod.fst)[k]?:=by rw[HKS.out]
     rw[List.getElem?_eq_getElem hkk,List.getElem?_map,List.getElem?_eq_getElem hlt] at e1
     simpa using e1
    have hl7:=H7.out ms[k] (List.getElem_mem hlt)
    rw[hkey] at hst
    obtain ⟨M,hM0⟩:∃M,ms[k]=M:=⟨_,rfl⟩
    rw[hM0] at hcells hst hl7
    obtain ⟨key,cv,at_⟩:=M
    obtain ⟨c0, -, -⟩:=mcell_at hl7 hcells
    dsimp only at hst
    have hkb:(k:Int)<(ms.length:Int):=by omega
    have hk0:(0:Int)≤(k:Int):=by omega
    have hw1:Hid (wrap64 ((k:Int)+1)=((k+1:Nat):Int)):=by
     have h1:=HCM.out
     rw[maxLen] at h1
     show _=_
     rw[wrap_ok _ ⟨by omega,by omega⟩];rfl
    clear hcells hkey hM0 hl7
    by_cases hn:key=str t
    ·have hres:=hany.out.trans hst
     rw[decide_eq_true hn,Bool.true_or] at hres
     have hv:V=none:=by
      have:=HV.out
      rw[List.any_map] at hres
      rw[show (ks.any fun p=>decide (p.1=str t))=true from hres,if_pos rfl] at this
      exact this.symm
     subst hv
     have hbe:(key.toList==(str t).toList)=true:=by rw[hn];simp
     clear hst hres hany
     go_wp2
     go_ret3
     exact ⟨⟨a,10,by decide,rfl⟩,((Ext.refl w).alloc _).trans hx3⟩
    ·have hres:Hid _:=gd (hany.out.trans hst)
     rw[decide_eq_false hn,Bool.false_or] at hres
     have hbe:(key.toList==(str t).toList)=false:=by rw[toList_beq];simp only[beq_eq_false_iff_ne];exact fun e=>hn (bytes_inj e)
     clear hst hany
     go_wp2
     go_roundw
     case rel=>exact ⟨k+1,hlt,congrArg (Value.int .i64) hw1.out,hres,trivial⟩
     case measure=>rw[hw1.out];clear hw1;simp[intOf];omega
   ·have hke:k=ms.length:=by omega
    have hkb:¬(k:Int)<(ms.length:Int):=by omega
    have hres:=hany.out
    rw[List.drop_of_length_le (by rw[List.length_map];omega),List.any_nil,List.any_map] at hres
    have hv:=HV.out
    rw[show (ks.any fun p=>decide (p.1=str t))=false from hres,if_neg (by decide)] at hv
    have HSP:=gd (fun w'=>jSpaces_any s z w' hs hz2)
    have hsl:spAt s.data.toList z≤s.size:=by have:=spAt_le (s:=s.data.toList) (k:=z) (by rw[data_len];exact hz2);rwa [data_len] at this
    have HHC:=gd (fun w'=>jHas_any s ⟨#[58]⟩ (spAt s.data.toList z) w' (by unfold maxLen;omega) (by unfold maxLen;omega) (by unfold maxLen;decide) (by decide))
    obtain ⟨Z,hZ⟩:∃Z,spAt s.data.toList z=Z:=⟨_,rfl⟩
    rw[hZ] at HSP HHC hv hsl
    have HW:=gd (fun w'=>jWrong_any s Z w')
    clear hany hres hZ
    cases hh:hasAt s.data.toList Z (⟨#[58]⟩:ByteArray).data.toList with
    |true=>
     rw[if_pos (show hasAt s.data.toList Z [58]=true from hh)] at hv
     rw[hh] at HHC
     subst hv
     clear hh HV
     go_wp2_with (first|(go_at_call 65;(with_reducible refine Calls.mono (HSP.out _) ?_);rintro e w4 ⟨rfl,rfl⟩)|(go_at_call 63;(with_reducible refine Calls.mono (HHC.out _) ?_);rintro e w4 ⟨rfl,rfl⟩))
     go_ret3
     exact ⟨rfl,((Ext.refl w).alloc _).trans hx3⟩
    |false=>
     rw[if_neg (show ¬hasAt s.data.toList Z [58]=true by rw[show hasAt s.data.toList Z [58]=false from hh];decide)] at hv
     rw[hh] at HHC
     subst hv
     clear hh HV
     go_wp2_with (first|(go_at_call 65;(with_reducible refine Calls.mono (HSP.out _) ?_);rintro e w4 ⟨rfl,rfl⟩)|(go_at_call 63;(with_reducible refine Calls.mono (HHC.out _) ?_);rintro e w4 ⟨rfl,rfl⟩)|(go_at_call 107;(with_reducible refine Calls.mono (HW.out _) ?_);rintro e w5 ⟨⟨b,x,hx0,rfl⟩,hx5⟩))
     have q7:∀d:Aft (w5.alloc (.cells #[.int .i64 0,.bool false,.int .i64 0,.string ⟨#[]⟩,.slice none 0 0,.slice none 0 0,.int .i64 0,.int .i64 (b:Nat),.int .i64 (x:Nat)] 109)),d.w.cell? ⟨w5.heap.size,7,none⟩=some (.int .i64 (b:Nat)):=Aft.cell ((Ext.refl _).boxed 7 _ rfl)
     have q8:∀d:Aft (w5.alloc (.cells #[.int .i64 0,.bool false,.int .i64 0,.string ⟨#[]⟩,.slice none 0 0,.slice none 0 0,.int .i64 0,.int .i64 (b:Nat),.int .i64 (x:Nat)] 109)),d.w.cell? ⟨w5.heap.size,8,none⟩=some (.int .i64 (x:Nat)):=Aft.cell ((Ext.refl _).boxed 8 _ rfl)
     refine rA ?_
     repeat (first|go_big_quiet_step (fail)|quiet_step (fail))
     refine wpQuiet_nil ?_
     rintro _ ⟨d1,rfl⟩
     go_wp2
     go_ret3
     exact ⟨⟨b,x,hx0,rfl⟩,(((((Ext.refl w).alloc _).trans hx3).trans hx5).alloc _).trans d1.ext⟩
end
section
section
variable {P:Program} {md:Region.Mode} {ops:Array Oper} {Q:Exit→Act→World→Prop} {S:World→Prop} {T:Array Bool→Act→World→Prop} {t:Nat}
def wpAnyC (P:Program) (md:Region.Mode) (ops:Array Oper) (Q:Exit→Act→World→Prop) (S:World→Prop) (T:Array Bool→Act→World→Prop):Nat→Array Bool→Act→World→Prop
 |0,listed,a,w=>T listed a w
 |f+1,listed,a,w=>(Region.ready md ops listed= []→Q .normal a w)∧
  ∀i∈Region.ready md ops listed,wpOp P ops Q i (fun a' w'=>S w'∧wpAnyC P md ops Q S T f (listed.setIfInBounds i true) a' w') a w
theorem wpAnyT_cut {m:Nat} (hT:∀L a w,T L a w→wpAnyT P md ops Q S t m L a w):∀(f k:Nat) (listed:Array Bool) (a:Act) (w:World),k=f+m→wpAnyC P md ops Q S T f listed a w→wpAnyT P md ops Q S t k listed a w
 |0,k,listed,a,w,hk,h=>by rw[hk,Nat.zero_add];exact hT _ _ _ h
 |f+1,k,listed,a,w,hk,h=>by
  rw[hk,show f+1+m=(f+m)+1 by omega]
  exact ⟨h.1,fun i hi=>wpOp_mono (fun a' w' h'=>⟨fun _=>h'.1,wpAnyT_cut hT f (f+m) _ a' w' rfl h'.2⟩) (h.2 i hi)⟩
theorem wpAnyT_told {m f k:Nat} {l:List Oper} {listed:Array Bool} {a:Act} {w:World} (hk:k=f+m) (L':Array Bool) (R:Act→Act→World→Prop)
 (h1:wpAnyC P md l.toArray Q S (fun L a' w'=>L=L'∧R a a' w') f listed a w) (h2:∀a' w',R a a' w'→wpAnyT P md l.toArray Q S t m L' a' w'):wpAnyT P md l.toArray Q S t k listed a w:=
 wpAnyT_cut (fun L a w h=>by obtain ⟨rfl,h⟩:=h;exact h2 a w h) f k listed a w hk h1
theorem wpAnyC_key {l:List Oper} {f:Nat} {listed:Array Bool} {a:Act} {w:World} (q:Nat) (o:Oper) (ho:l[q]? =some o)
 (h:∀K:Act→World→Prop,(∀a' w',S w'→wpAnyC P md l.toArray Q S T f (listed.setIfInBounds q true) a' w'→K a' w')→if Region.wanted o (yielded l.toArray a.tmps) then Oper.wp P o a w K Q else K (a.put o.dst undef) w):
 wpOp P l.toArray Q q (fun a' w'=>S w'∧wpAnyC P md l.toArray Q S T f (listed.setIfInBounds q true) a' w') a w:=by
 have ho':l.toArray[q]? =some o:=by rw[List.getElem?_toArray];exact ho
 have h':=h (fun a' w'=>S w'∧wpAnyC P md l.toArray Q S T f (listed.setIfInBounds q true) a' w') fun _ _ h1 h2=>⟨h1,h2⟩
 unfold wpOp
 simp only[ho']
 split
 ·rename_i hw;rw[if_pos hw] at h';exact Or.inl h'
 ·rename_i hw;rw[if_neg hw] at h';exact h'
section
variable {l:List Oper} {f:Nat} {listed:Array Bool} {a:Act} {w:World} {i j k:Nat} {oi oj ok:Oper}
theorem wpAnyC_step (hoi:l[i]? =some oi) (hr:Region.ready md l.toArray listed= [i])
 (h1:∀K:Act→World→Prop,(∀a' w',S w'→wpAnyC P md l.toArray Q S T f (listed.setIfInBounds i true) a' w'→K a' w')→if Region.wanted oi (yielded l.toArray a.tmps) then Oper.wp P oi a w K Q else K (a.put oi.dst undef) w):wpAnyC P md l.toArray Q S T (f+1) listed a w:=by
 refine ⟨fun h=>(by rw[hr] at h;cases h),fun q hq=> ?_⟩
 rw[hr] at hq
 rw[List.mem_singleton.1 hq]
 exact wpAnyC_key i oi hoi h1
theorem wpAnyC_two (hoi:l[i]? =some oi) (hoj:l[j]? =some oj) (hr:Region.ready md l.toArray listed= [i,j])
 (h1:∀K:Act→World→Prop,(∀a' w',S w'→wpAnyC P md l.toArray Q S T f (listed.setIfInBounds i true) a' w'→K a' w')→if Region.wanted oi (yielded l.toArray a.tmps) then Oper.wp P oi a w K Q else K (a.put oi.dst undef) w)
 (h2:∀K:Act→World→Prop,(∀a' w',S w'→wpAnyC P md l.toArray Q S T f (listed.setIfInBounds j true) a' w'→K a' w')→if Region.wanted oj (yielded l.toArray a.tmps) then Oper.wp P oj a w K Q else K (a.put oj.dst undef) w):wpAnyC P md l.toArray Q S T (f+1) listed a w:=by
 refine ⟨fun h=>(by rw[hr] at h;cases h),fun q hq=> ?_⟩
 rw[hr] at hq
 simp only[List.mem_cons,List.mem_nil_iff,or_false] at hq
 rcases hq with hq|hq
 ·rw[hq];exact wpAnyC_key i oi hoi h1
 ·rw[hq];exact wpAnyC_key j oj hoj h2
end
end
section
variable {P:Program} {md:Region.Mode} {Q:Exit→Act→World→Prop} {S:World→Prop} {t:Nat} {l:List Oper} {f:Nat} {listed:Array Bool} {a:Act} {w:World} {i j:Nat} {oi oj:Oper}
theorem wpAnyT_one (hoi:l[i]? =some oi) (hr:Region.ready md l.toArray listed= [i])
 (h1:∀K:Act→World→Prop,(∀a' w',((listed.setIfInBounds i true).getD t true=false→S w')→wpAnyT P md l.toArray Q S t f (listed.setIfInBounds i true) a' w'→K a' w')→if Region.wanted oi (yielded l.toArray a.tmps) then Oper.wp P oi a w K Q else K (a.put oi.dst undef) w):wpAnyT P md l.toArray Q S t (f+1) listed a w:=by
 refine ⟨fun h=>(by rw[hr] at h;cases h),fun q hq=> ?_⟩
 rw[hr] at hq
 rw[List.mem_singleton.1 hq]
 have ho':l.toArray[i]? =some oi:=by rw[List.getElem?_toArray];exact hoi
 have h':=h1 (fun a' w'=>((listed.setIfInBounds i true).getD t true=false→S w')∧wpAnyT P md l.toArray Q S t f (listed.setIfInBounds i true) a' w') fun _ _ h1 h2=>⟨h1,h2⟩
 unfold wpOp
 simp only[ho']
 split
 ·rename_i hw;rw[if_pos hw] at h';exact Or.inl h'
 ·rename_i hw;rw[if_neg hw] at h';exact h'
theorem wpAnyT_end (hr:Region.ready md l.toArray listed= []) (h:Q .normal a w):wpAnyT P md l.toArray Q S t 0 listed a w:=⟨hr,h⟩
end
end
def KeepsT (T:TypeId) (w w':World):Prop:=∀(k:Nat) (cs:Array Value) (t:TypeId) (fr:Nat×Nat),w.heap[k]? =some (Obj.cells cs t fr)→t≠T→t≠5→w'.heap[k]? =some (Obj.cells cs t fr)
theorem Builder_copyCheck_k {T:TypeId} (hT:BT T) (B b:Nat) (bs:List Value) (w:World) (h:Lib.IsBuilder T 5 B b bs w):
 Calls Tryz.prog 116 #[.pointer (some ⟨b,0,none⟩)] w fun e w'=>e= .returned (.tuple #[])∧(Lib.BuilderAt T 5 B b (.pointer (some ⟨b,0,none⟩)) bs w'∧Below B w w'∧KeepsT T w w'):=by
 rcases h with h|h
 ·refine (Builder_copyCheck_fresh hT b w h.cell0 h.shape h.frozen0).mono ?_
  rintro e w' ⟨rfl,rfl⟩
  refine ⟨rfl,h.used _,(Below.refl B w).setCell (p:=⟨b,0,none⟩) h.1 _,?_⟩
  intro k cs t fr hk hT' he'
  rw[Below.heap_setCell _ _ _ _ (fun e=> ?_)]
  ·exact hk
  ·obtain ⟨_,v,hb,_⟩:=h
   simp at e
   subst e
   rw[hb] at hk
   simp only[Option.some.injEq,Obj.cells.injEq] at hk
   exact hT' hk.2.1.symm
 ·refine (Builder_copyCheck_used hT b w h.cell0).mono ?_
  rintro e w' ⟨rfl,rfl⟩
  exact ⟨rfl,h,Below.refl B _,fun _ _ _ _ hk _ _=>hk⟩
theorem Builder_WriteByte_k {T:TypeId} (hT:BT T) (B b:Nat) (bs:List Value) (c:Int) (w:World) (h:Lib.IsBuilder T 5 B b bs w) (hlen:bs.length+1≤140737488355328) (hBw:B≤w.heap.size):
 Calls Tryz.prog 69 #[.pointer (some ⟨b,0,none⟩),.int .u8 c] w fun e w'=>e= .returned .nilIface∧(Lib.BuilderAt T 5 B b (.pointer (some ⟨b,0,none⟩)) (bs++ [.int .u8 c]) w'∧Below B w w'∧KeepsT T w w'):=by
 obtain ⟨i0,hi,hz0,hz1,hz2⟩:=info_parts info_u8
 go_enter Tryz.func69,Tryz.ntmps69
 go_wp2_with (go_at_call 116;refine (Builder_copyCheck_k hT B b bs _ h).mono ?_)
 rintro e w1 ⟨rfl,h1,hb1,hk1⟩
 obtain ⟨hB,v,hbk,hown,hne⟩:=h1
 have c0:w1.cell? ⟨b,0,none⟩=some (.pointer (some ⟨b,0,none⟩)):=by rw[Lib.cell_of_heap hbk];rfl
 have c1:w1.cell? ⟨b,1,none⟩=some v:=by rw[Lib.cell_of_heap hbk];rfl
 go_wp2_with (at_builtin;refine wpList_append_own _ rfl _ _ 115 rfl B 5 i0 (.int .u8 0) 1 1 Tryz.underlying115 hi hz0 hz1 hz2 rfl (by decide) _ _ _ rfl (hown.alloc _) ⟨w1.heap.size,0,none⟩ 1 1 [.int .u8 c] rfl rfl ?c1 ?c2 ?c3 ?c4 ?c5 ?_)
 case c1=>
  intro j u hj
  match j,hj with
  |0,hj=>simp at hj;subst hj;simp[Addr.add]
 case c2=>intro u hu;simp at hu;subst hu;rfl
 case c3=>unfold maxLen;omega
 case c4=>omega
 case c5=>have:=hb1.size;simp;omega
 intro v' w2 hown' hgrow _
 have hlt:b<w1.heap.size:=by
  rcases Nat.lt_or_ge b w1.heap.size with h'|h'
  ·exact h'
  ·simp[Array.getElem?_eq_none h'] at hbk
 have hb2:w2.heap[b]? =some (.cells #[.pointer (some ⟨b,0,none⟩),v] T (0,0)):=by
  rw[hgrow.block b (by simp;omega) (fun e=>hne e.symm),Lib.alloc_old w1 _ b hlt]
  exact hbk
 have d0:w2.cell? ⟨b,0,none⟩=some (.pointer (some ⟨b,0,none⟩)):=by rw[Lib.cell_of_heap hb2];rfl
 have d1:w2.cell? ⟨b,1,none⟩=some v:=by rw[Lib.cell_of_heap hb2];rfl
 have f1:w2.frozen? ⟨b,1,none⟩=false:=Lib.frozen_of_heap hb2 1
 obtain ⟨g,cap,rfl⟩:∃g cap,v'= .slice (some ⟨g,0,none⟩) (bs.length+1) cap:=by
  rcases hown'.2 with ⟨_,h0⟩|⟨g,cap,cur,hv,_⟩
  ·omega
  ·exact ⟨g,cap,hv⟩
 go_wp2
 go_ret
 refine ⟨rfl,?_,?_,?_⟩
 ·exact Lib.BuilderAt.put (T:=T) (e:=5) hB hb2 (bs':=bs++ [.int .u8 c]) (by simpa using hown') hT.ne
 ·exact ((hb1.alloc (by have:=hb1.size;omega) _).grown hgrow (by have:=hb1.size;simp;omega) (fun k hk=>(hown.lt k hk).1)).setCell (p:=⟨b,1,none⟩) hB _
 ·intro k cs t fr hk hT' he'
  have hk':=hk1 k cs t fr hk hT' he'
  have hkb:k≠b:=by
   rintro rfl
   rw[hbk] at hk'
   simp only[Option.some.injEq,Obj.cells.injEq] at hk'
   exact hT' hk'.2.1.symm
  have hlk:k<w1.heap.size:=(Array.getElem?_eq_some_iff.1 hk').1
  rw[Below.heap_setCell _ _ _ _ (fun e=>hkb (by simpa using e))]
  rw[hgrow.block k (by simp;omega) (fun e=>Lib.ownBlock_ne hown hk' he' e.symm),Lib.alloc_old w1 _ k hlk]
  exact hk'
theorem Builder_WriteString_k {T:TypeId} (hT:BT T) (B b:Nat) (bs:List Value) (s:ByteArray) (w:World) (h:Lib.IsBuilder T 5 B b bs w) (hlen:bs.length+s.size≤140737488355328) (hBw:B≤w.heap.size):
 Calls Tryz.prog 145 #[.pointer (some ⟨b,0,none⟩),.string s] w fun e w'=>e= .returned (.tuple #[.int .i64 s.size,.nilIface])∧(Lib.BuilderAt T 5 B b (.pointer (some ⟨b,0,none⟩)) (bs++Lib.strCells s) w'∧Below B w w'∧KeepsT T w w'):=by
 obtain ⟨i0,hi,hz0,hz1,hz2⟩:=info_parts info_u8
 go_enter Tryz.func145,Tryz.ntmps145
 go_wp2_with (go_at_call 116;refine (Builder_copyCheck_k hT B b bs _ h).mono ?_)
 rintro e w1 ⟨rfl,h1,hb1,hk1⟩
 obtain ⟨hB,v,hbk,hown,hne⟩:=h1
 have c0:w1.cell? ⟨b,0,none⟩=some (.pointer (some ⟨b,0,none⟩)):=by rw[Lib.cell_of_heap hbk];rfl
 have c1:w1.cell? ⟨b,1,none⟩=some v:=by rw[Lib.cell_of_heap hbk];rfl
 go_wp2_with (at_builtin;refine Lib.wpList_append_own_string _ rfl _ _ 115 9 rfl B 5 i0 Tryz.underlying115 Tryz.underlying9 hi hz0 hz1 hz2 _ _ _ rfl hown s rfl ?c3 ?c4 ?c5 ?_)
 case c3=>unfold maxLen;omega
 case c4=>omega
 case c5=>have:=hb1.size;omega
 intro v' w2 hown' hgrow _
 have hlt:b<w1.heap.size:=by
  rcases Nat.lt_or_ge b w1.heap.size with h'|h'
  ·exact h'
  ·simp[Array.getElem?_eq_none h'] at hbk
 have hb2:w2.heap[b]? =some (.cells #[.pointer (some ⟨b,0,none⟩),v] T (0,0)):=by
  rw[hgrow.block b hlt (fun e=>hne e.symm)]
  exact hbk
 have d0:w2.cell? ⟨b,0,none⟩=some (.pointer (some ⟨b,0,none⟩)):=by rw[Lib.cell_of_heap hb2];rfl
 have d1:w2.cell? ⟨b,1,none⟩=some v:=by rw[Lib.cell_of_heap hb2];rfl
 have f1:w2.frozen? ⟨b,1,none⟩=false:=Lib.frozen_of_heap hb2 1
 obtain ⟨ao,n',cap,rfl⟩:∃ao n' cap,v'= .slice ao n' cap:=by
  rcases hown'.2 with ⟨hv,_⟩|⟨g,cap,cur,hv,_⟩
  ·exact ⟨_,_,_,hv⟩
  ·exact ⟨_,_,_,hv⟩
 go_wp2
 go_ret2
 refine ⟨rfl,?_,?_,?_⟩
 ·exact Lib.BuilderAt.put (T:=T) (e:=5) hB hb2 (bs':=bs++Lib.strCells s) (by simpa [Lib.strCells_length] using hown') hT.ne
 ·exact (hb1.grown hgrow (by have:=hb1.size;omega) (fun k hk=>(hown.lt k hk).1)).setCell (p:=⟨b,1,none⟩) hB _
 ·intro k cs t fr hk hT' he'
  have hk':=hk1 k cs t fr hk hT' he'
  have hkb:k≠b:=by
   rintro rfl
   rw[hbk] at hk'
   simp only[Option.some.injEq,Obj.cells.injEq] at hk'
   exact hT' hk'.2.1.symm
  have hlk:k<w1.heap.size:=(Array.getElem?_eq_some_iff.1 hk').1
  rw[Below.heap_setCell _ _ _ _ (fun e=>hkb (by simpa using e))]
  rw[hgrow.block k hlk (fun e=>Lib.ownBlock_ne hown hk' he' e.symm)]
  exact hk'
end Go.Proofs.YthlnaldahkgjnaaGreatDoor
