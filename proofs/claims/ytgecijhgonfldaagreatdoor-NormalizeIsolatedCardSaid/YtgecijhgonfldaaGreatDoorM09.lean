/- YtgecijhgonfldaaGreatDoor: texts Jv2, Jv3, put one behind the other. -/
import Derived.Test.YtgecijhgonfldaaGreatDoorM08
/- Contracts: jsonwrite's valid and Check. -/
namespace Go.Proofs.YtgecijhgonfldaaGreatDoor
open Go Go.RowKit
set_option linter.unusedVariables false

def ValidSaid (n : Nat) : Prop := ∀ (j : JV) (cs : List Value) (w : World) (d : Nat), RVn n w j cs → jok j → Env w → 1 ≤ d → d ≤ 101 →
  Calls Tryz.prog 167 #[.agg cs.toArray, .int .i64 (d : Nat)] w fun e w' => e = .returned (.bool (jvalid j d)) ∧ Ext w w'

theorem RVn.shape {w : World} {n : Nat} {j : JV} {cs : List Value} (h : RVn n w j cs) : ∃ k b x s A m c a, cs = [.int .i64 k, .bool b, .int .i64 x, .string s, .slice A m c, .slice none 0 0, .int .i64 a] := by
  cases n with
  | zero => exact h.elim
  | succ n =>
    obtain ⟨a, h⟩ := h
    cases j with
    | arr l => obtain ⟨v, css, rfl, _, ⟨_, A, c, rfl, _⟩, _⟩ := h; exact ⟨_, _, _, _, _, _, _, _, rfl⟩
    | _ => subst h; exact ⟨_, _, _, _, _, _, _, _, rfl⟩

set_option maxRecDepth 100000 in
set_option maxHeartbeats 1000000 in
theorem valid_arr (n : Nat) (ih : ValidSaid n) (l : List JV) (cs : List Value) (w : World) (d : Nat) (h : RVn (n + 1) w (.arr l) cs) (hok : jok (.arr l)) (hE : Env w) (hd : 1 ≤ d) (hd1 : d ≤ 101) :
    Calls Tryz.prog 167 #[.agg cs.toArray, .int .i64 (d : Nat)] w fun e w' => e = .returned (.bool (jvalid (.arr l) d)) ∧ Ext w w' := by
  obtain ⟨a, v, css, rfl, hcl, hr, hel⟩ := h
  rw [jok_arr] at hok
  rw [jvalid_arr]
  have hr' := hr
  obtain ⟨_, A, c, rfl, hmc, hcm, _, _⟩ := hr'
  have hvs := fun w' (hE' : Env w') => validString_any ⟨#[]⟩ w' hE' (by simp [ByteArray.size])
  have hvt : Lib.validD (⟨#[]⟩ : ByteArray).data.toList = true := by decide
  have HVS := Lib.hid hvs
  have HIH := Lib.hid ih
  have HEL := Lib.hid hel
  have HOK := Lib.hid hok
  have HUN := Lib.hid (fun w' (hx : Ext w w') => unused_any (n + 1) (.arr l) (vcells 4 false 0 ⟨#[]⟩ (.slice A l.length c) a) w' ⟨a, _, css, rfl, hcl, hr.ext hx, fun i j c hj hc => (hel i j c hj hc).ext hx⟩)
  have hmm := @run_makeMap Tryz.prog
  have hln : ∀ c ∈ css, c.length = 7 := by
    intro c hc
    obtain ⟨i, hi, rfl⟩ := List.mem_iff_getElem.1 hc
    exact (hel i l[i] css[i] (List.getElem?_eq_getElem (by omega)) (List.getElem?_eq_getElem hi)).len
  have HLN := Lib.hid hln
  clear hvs ih hel hok hln
  by_cases hd2 : d ≤ 100
  · have hd3 : decide ((100 : Int) < (d : Nat)) = false := by simp; omega
    have HDD := Lib.hid hd2
    unfold vcells at *
    go_enter Tryz.func167, Tryz.ntmps167
    go_wp2_with (first
      | (go_at_call 178; refine (HUN.out _ ((Ext.refl _).alloc _)).mono ?_; rintro e w1 ⟨rfl, hx1⟩; (have hb3 := hx1.boxed 3 _ rfl))
      | (go_at_call 179; refine (HVS.out _ ((hE.alloc _).ext hx1)).mono ?_; rintro e w2 ⟨rfl, hx2⟩; (have hb4 := hx2.cell (hx1.boxed 4 _ rfl)); (have hb5 := hx2.cell (hx1.boxed 5 _ rfl))))
    go_loopw [36] (fun i wr => ∃ k : Nat, k ≤ l.length ∧ i = .int .i64 k ∧ Hid ((l.all fun j => jvalid j (d + 1)) = ((l.drop k).all fun j => jvalid j (d + 1))) ∧ Ext w2 wr) (fun i _ => l.length - (intOf i).toNat)
    case atStart => exact ⟨0, Nat.zero_le _, rfl, rfl, Ext.refl _⟩
    case round =>
      obtain ⟨k, hk, rfl, hall, hx⟩ := hrel
      by_cases hlt : k < l.length
      · have hck : k < css.length := by omega
        have hRV := HEL.out k l[k] css[k] (List.getElem?_eq_getElem hlt) (List.getElem?_eq_getElem hck)
        obtain ⟨ad, cap, hA, hcells⟩ := RSl.elem (hr.ext ((((Ext.refl w).alloc _).trans hx1).trans (hx2.trans hx))) (by omega) HLN.out k css[k] (List.getElem?_eq_getElem hck)
        injection hA with hA1 hA2 hA3
        subst hA1
        clear hA2 hA3
        rw [Nat.mul_comm] at hcells
        obtain ⟨x0, x1, x2, x3, x4, x5, x6, x7, hc⟩ := hRV.shape
        rw [hc] at hcells
        have hc0 := hcells 0 _ rfl
        have hc1 := hcells 1 _ rfl
        have hc2 := hcells 2 _ rfl
        have hc3 := hcells 3 _ rfl
        have hc4 := hcells 4 _ rfl
        have hc5 := hcells 5 _ rfl
        have hc6 := hcells 6 _ rfl
        rw [add_zero] at hc0
        have hadd : ∀ i, 0 < i → (ad.add (k * 7)).add i = ⟨(ad.add (k * 7)).block, (ad.add (k * 7)).off + i, none⟩ := fun i hi => if_neg (by omega)
        rw [hadd _ (by omega)] at hc1 hc2 hc3 hc4 hc5 hc6
        clear hadd
        rw [hc] at hRV
        clear hcells
        have hE2 := hE.ext ((((Ext.refl w).alloc _).trans hx1).trans (hx2.trans hx))
        have hRV2 := hRV.ext ((((Ext.refl w).alloc _).trans hx1).trans (hx2.trans hx))
        have hok1 := HOK.out l[k] (List.getElem_mem _)
        have hwrap : IntKind.i64.wrap ((d : Int) + 1) = ((d + 1 : Nat) : Int) := by rw [IntKind.wrap]; simp [IntKind.signed, IntKind.bits]; omega
        have hall' := hall.out.trans (by rw [List.drop_eq_getElem_cons hlt, List.all_cons] : _ = (jvalid l[k] (d + 1) && (l.drop (k + 1)).all fun j => jvalid j (d + 1)))
        have HALL := Lib.hid hall'
        have HOK1 := Lib.hid hok1
        have HRV2 := Lib.hid hRV2
        clear hall hall' hok1 hRV hRV2
        have hw1 : wrap64 ((k : Int) + 1) = ((k + 1 : Nat) : Int) := by rw [maxLen] at hcm; rw [wrap_ok _ ⟨by omega, by omega⟩]; rfl
        have hxw := (((Ext.refl w).alloc _).trans hx1).trans (hx2.trans hx)
        go_wp2_with (first
            | (go_at_call 167; refine (HIH.out l[k] _ _ (d + 1) (HRV2.out.ext ((Ext.refl _).alloc _)) HOK1.out (hE2.alloc _) (by omega) (by omega)).mono ?_; rintro e w3 ⟨rfl, hx3⟩))
        · go_ret
          refine ⟨?_, (hxw.alloc _).trans hx3⟩
          have h1 := HALL.out
          simp_all
        · go_roundw
          case rel => first | exact ⟨k + 1, by omega, by rw [hw1], by have h1 := HALL.out; simp_all [Hid], (hx.alloc _).trans hx3⟩ | ((repeat apply Exists.intro); exact ⟨⟨k + 1, by omega, by rw [hw1], by have h1 := HALL.out; simp_all [Hid], (hx.alloc _).trans hx3⟩, rfl⟩)
          case measure => rw [hw1]; simp [intOf]; omega
      · have hk' : k = l.length := by omega
        subst hk'
        have hall1 := Lib.hid (hall.out.trans (by simp : _ = true))
        have hb5' := ((Ext.refl wr).alloc (.map #[] 0)).cell (hx.cell hb5)
        go_wp2
        refine wp_loop_rounds 1 ?_
        rw [rounds_succ]
        go_wp2
        go_ret
        refine ⟨by rw [hall1.out]; simp [HDD.out], ?_⟩
        exact (((((Ext.refl w).alloc _).trans hx1).trans (hx2.trans hx)).alloc _)
  · have hd3 : decide ((100 : Int) < (d : Nat)) = true := by simp; omega
    have HDD := Lib.hid hd2
    unfold vcells at *
    go_enter Tryz.func167, Tryz.ntmps167
    go_wp2
    go_ret
    exact ⟨by simp, (Ext.refl _).alloc _⟩

set_option maxRecDepth 100000 in
set_option maxHeartbeats 1000000 in
theorem valid_leaf (k : Int) (b : Bool) (x : Int) (s : ByteArray) (a : Int) (w : World) (d : Nat) (hE : Env w) (hs : s.size ≤ 16777216) (hk : 0 ≤ k) (hk5 : k ≤ 5) (hd : 1 ≤ d) (hd1 : d ≤ 101)
    (hun : ∀ w', Calls Tryz.prog 178 #[.agg (vcells k b x s (.slice none 0 0) a).toArray] w' fun e w'' => e = .returned (.bool true) ∧ Ext w' w'') :
    Calls Tryz.prog 167 #[.agg (vcells k b x s (.slice none 0 0) a).toArray, .int .i64 (d : Nat)] w fun e w' => e = .returned (.bool (decide (d ≤ 100) && Lib.validD s.data.toList)) ∧ Ext w w' := by
  have hvs := fun w' (hE' : Env w') => validString_any s w' hE' hs
  have HVS := Lib.hid hvs
  have HUN := Lib.hid hun
  have hk1 : decide (k < 0) = false := by simp; omega
  have hk2 : decide (5 < k) = false := by simp; omega
  have hmm := @run_makeMap Tryz.prog
  clear hvs hun hs
  by_cases hd2 : d ≤ 100
  · have hd3 : decide ((100 : Int) < (d : Nat)) = false := by simp; omega
    have HDD := Lib.hid hd2
    unfold vcells at *
    have key : ∀ vb : Bool, Lib.validD s.data.toList = vb → Calls Tryz.prog 167 #[.agg #[.int .i64 k, .bool b, .int .i64 x, .string s, .slice none 0 0, .slice none 0 0, .int .i64 a], .int .i64 (d : Nat)] w fun e w' => e = .returned (.bool vb) ∧ Ext w w' := by
      intro vb hvb
      rw [hvb] at HVS
      clear hvb
      go_enter Tryz.func167, Tryz.ntmps167
      cases vb
      · go_wp2_with (first
          | (go_at_call 178; refine (HUN.out _).mono ?_; rintro e w1 ⟨rfl, hx1⟩; (have hb3 := hx1.boxed 3 _ rfl))
          | (go_at_call 179; refine (HVS.out _ ((hE.alloc _).ext hx1)).mono ?_; rintro e w2 ⟨rfl, hx2⟩))
        go_ret
        exact ⟨rfl, (((Ext.refl w).alloc _).trans hx1).trans hx2⟩
      · go_wp2_with (first
          | (go_at_call 178; refine (HUN.out _).mono ?_; rintro e w1 ⟨rfl, hx1⟩; (have hb3 := hx1.boxed 3 _ rfl))
          | (go_at_call 179; refine (HVS.out _ ((hE.alloc _).ext hx1)).mono ?_; rintro e w2 ⟨rfl, hx2⟩; (have hb4 := hx2.cell (hx1.boxed 4 _ rfl)); (have hb5 := ((Ext.refl w2).alloc (.map #[] 0)).cell (hx2.cell (hx1.boxed 5 _ rfl)))))
        refine wp_loop_rounds 1 ?_
        rw [rounds_succ]
        go_wp2
        refine wp_loop_rounds 1 ?_
        rw [rounds_succ]
        go_wp2
        go_ret
        exact ⟨rfl, ((((Ext.refl w).alloc _).trans hx1).trans hx2).alloc _⟩
    refine (key _ rfl).mono ?_
    rintro e w' ⟨rfl, hx⟩
    exact ⟨by simp [HDD.out], hx⟩
  · have hd3 : decide ((100 : Int) < (d : Nat)) = true := by simp; omega
    have HDD := Lib.hid hd2
    unfold vcells at *
    go_enter Tryz.func167, Tryz.ntmps167
    go_wp2
    go_ret
    exact ⟨by simp [HDD.out], (Ext.refl _).alloc _⟩

theorem vnil : Lib.validD (⟨#[]⟩ : ByteArray).data.toList = true := by decide
theorem valid_in : ∀ n, ValidSaid n
  | 0, _, _, _, _, h, _, _, _, _ => h.elim
  | n + 1, j, cs, w, d, h, hok, hE, hd, hd1 => by
    cases j with
    | arr l => exact valid_arr n (valid_in n) l cs w d h hok hE hd hd1
    | null =>
      obtain ⟨a, rfl⟩ := h
      refine (valid_leaf 0 false 0 ⟨#[]⟩ a w d hE (by simp [ByteArray.size]) (by omega) (by omega) hd hd1 fun w' => unused_any (n + 1) .null _ w' ⟨a, rfl⟩).mono ?_
      rintro e w' ⟨rfl, hx⟩
      exact ⟨by rw [vnil, Bool.and_true]; simp [jvalid], hx⟩
    | bool b =>
      obtain ⟨a, rfl⟩ := h
      refine (valid_leaf 1 b 0 ⟨#[]⟩ a w d hE (by simp [ByteArray.size]) (by omega) (by omega) hd hd1 fun w' => unused_any (n + 1) (.bool b) _ w' ⟨a, rfl⟩).mono ?_
      rintro e w' ⟨rfl, hx⟩
      exact ⟨by rw [vnil, Bool.and_true]; simp [jvalid], hx⟩
    | int x =>
      obtain ⟨a, rfl⟩ := h
      refine (valid_leaf 2 false x ⟨#[]⟩ a w d hE (by simp [ByteArray.size]) (by omega) (by omega) hd hd1 fun w' => unused_any (n + 1) (.int x) _ w' ⟨a, rfl⟩).mono ?_
      rintro e w' ⟨rfl, hx⟩
      exact ⟨by rw [vnil, Bool.and_true]; simp [jvalid], hx⟩
    | str s =>
      obtain ⟨a, rfl⟩ := h
      refine (valid_leaf 3 false 0 s a w d hE (by simpa [jok] using hok) (by omega) (by omega) hd hd1 fun w' => unused_any (n + 1) (.str s) _ w' ⟨a, rfl⟩).mono ?_
      rintro e w' ⟨rfl, hx⟩
      exact ⟨by simp [jvalid], hx⟩

set_option maxRecDepth 100000 in
theorem jcheck_any (j : JV) (cs : List Value) (w : World) (h : RV w j cs) (hok : jok j) (hE : Env w) :
    Calls Tryz.prog 148 #[.agg cs.toArray] w fun e w' => e = .returned (.int .i64 (if jvalid j 1 then 0 else 22)) ∧ Ext w w' := by
  obtain ⟨n, h⟩ := h
  obtain ⟨x0, x1, x2, x3, x4, x5, x6, x7, hc⟩ := h.shape
  subst hc
  have H := Lib.hid (fun w' (hx : Ext w w') => valid_in n j _ w' 1 (h.ext hx) hok (hE.ext hx) (by omega) (by omega))
  clear h hok hE
  go_enter Tryz.func148, Tryz.ntmps148
  go_wp2_with (go_at_call 167; refine (H.out _ ((Ext.refl w).alloc _)).mono ?_; rintro e w' ⟨rfl, hx⟩)
  all_goals go_ret
  all_goals exact ⟨by simp_all, ((Ext.refl w).alloc _).trans hx⟩
end Go.Proofs.YtgecijhgonfldaaGreatDoor
/- Contracts: the writer of jsonwrite: str, value, join. -/
namespace Go.Proofs.YtgecijhgonfldaaGreatDoor
open Go Go.RowKit
set_option linter.unusedVariables false

abbrev WB (B b : Nat) (bs : List Value) (w : World) : Prop := Lib.IsBuilder 184 5 B b bs w

set_option maxRecDepth 100000 in
theorem jstr_any (s : ByteArray) (B b : Nat) (bs : List Value) (w : World) (hE : Env w) (hs : s.size ≤ 16777216) (hB : WB B b bs w) (hBw : B ≤ w.heap.size) (hl : bs.length + (quoteS s).1.size ≤ 140737488355328) :
    Calls Tryz.prog 171 #[.pointer (some ⟨b, 0, none⟩), .string s] w fun e w' => e = .returned (.tuple #[]) ∧ (WB B b (bs ++ Lib.byteCells (quoteS s).1.data.toList) w' ∧ Below B w w') := by
  have hq := quote_any s w hE hs
  generalize hQ : quoteS s = Q at *
  clear hQ hs
  obtain ⟨q, e⟩ := Q
  have HQ := Lib.hid hq
  clear hq
  go_enter Tryz.func171, Tryz.ntmps171
  go_wp2_with (first
    | (go_at_call 182; refine HQ.out.mono ?_; rintro e w1 ⟨rfl, hx1⟩; (have hB1 := builder_ext hB hx1); (have hBw1 := Nat.le_trans hBw hx1.size))
    | (go_at_call 168; refine (builderWriteString_t bt_writer _ _ _ _ _ hB1 hl hBw1).mono ?_; rintro e w2 ⟨rfl, hB2, hx2⟩))
  ((try simp only [Exit.inBlock, Exit.then]); refine bodyPost_end (results_none rfl _ _ _) rfl ?_)
  exact ⟨rfl, hB2, (Below.mono hx1 hBw).trans hx2⟩

theorem jtext_null : jtext .null = [110, 117, 108, 108] := by simp [jtext]
theorem jtext_bool (b : Bool) : jtext (.bool b) = if b then [116, 114, 117, 101] else [102, 97, 108, 115, 101] := by simp [jtext]
theorem jtext_int (n : Int) : jtext (.int n) = Lib.itoa n := by simp [jtext]
theorem jtext_str (s : ByteArray) : jtext (.str s) = quoteL s.data.toList := by simp [jtext]
theorem formatBool_any (x : Bool) (w : World) : Calls Tryz.prog 169 #[.bool x] w fun e w' => e = .returned (.string (str (jtext (.bool x)))) ∧ w' = w := by
  have hin : Calls Tryz.prog 180 #[.bool x] w fun e w' => e = .returned (.string (str (jtext (.bool x)))) ∧ w' = w := by
    go_enter Tryz.func180, Tryz.ntmps180
    cases x
    · go_wp2
      go_ret
      exact ⟨by rw [jtext_bool]; rfl, rfl⟩
    · go_wp2
      go_ret
      exact ⟨by rw [jtext_bool]; rfl, rfl⟩
  go_enter Tryz.func169, Tryz.ntmps169
  go_wp2_with (go_at_call 180; refine hin.mono ?_; rintro e w1 ⟨rfl, rfl⟩)
  go_ret
  exact ⟨rfl, rfl⟩

def ValueSaid (n : Nat) : Prop := ∀ (j : JV) (cs : List Value) (w0 w : World) (B b : Nat) (bs : List Value) (d : Nat), RVn n w0 j cs → jok j → jvalid j d = true → Env w0 → Ext w0 w → w0.heap.size ≤ B →
  WB B b bs w → B ≤ w.heap.size → bs.length + (jtext j).length ≤ 140737488355328 →
  Calls Tryz.prog 149 #[.pointer (some ⟨b, 0, none⟩), .agg cs.toArray] w fun e w' => e = .returned (.tuple #[]) ∧ (WB B b (bs ++ Lib.byteCells (jtext j)) w' ∧ Below B w w')

set_option maxRecDepth 100000 in
theorem value_leaf (n : Nat) (j : JV) (cs : List Value) (w0 w : World) (B b : Nat) (bs : List Value) (d : Nat) (hrv : RVn n w0 j cs) (hok : jok j) (hv : jvalid j d = true) (hE : Env w0) (hx : Ext w0 w) (h0 : w0.heap.size ≤ B)
    (hB : WB B b bs w) (hBw : B ≤ w.heap.size) (hl : bs.length + (jtext j).length ≤ 140737488355328) (hj : ∀ l, j ≠ .arr l) :
    Calls Tryz.prog 149 #[.pointer (some ⟨b, 0, none⟩), .agg cs.toArray] w fun e w' => e = .returned (.tuple #[]) ∧ (WB B b (bs ++ Lib.byteCells (jtext j)) w' ∧ Below B w w') := by
  have hEw := hE.ext hx
  cases n with
  | zero => exact hrv.elim
  | succ n =>
    obtain ⟨a, hrv⟩ := hrv
    have HB1 := fun o => builder_ext hB ((Ext.refl w).alloc o)
    have hBw1 : ∀ o, B ≤ (w.alloc o).heap.size := fun o => Nat.le_trans hBw ((Ext.refl w).alloc o).size
    have hbel : ∀ o, Below B w (w.alloc o) := fun o => Below.mono ((Ext.refl w).alloc o) hBw
    cases j with
    | arr l => exact absurd rfl (hj l)
    | null =>
      subst hrv
      rw [jtext_null] at *
      unfold vcells
      go_enter Tryz.func149, Tryz.ntmps149
      go_wp2_with (go_at_call 168; refine (builderWriteString_t bt_writer _ _ _ _ _ (HB1 _) (by exact hl) (hBw1 _)).mono ?_; rintro e w2 ⟨rfl, hB2, hx2⟩)
      ((try simp only [Exit.inBlock, Exit.then]); refine bodyPost_end (results_none rfl _ _ _) rfl ?_)
      exact ⟨rfl, hB2, (hbel _).trans hx2⟩
    | bool x =>
      subst hrv
      unfold vcells
      have HF := Lib.hid (formatBool_any x)
      generalize jtext (.bool x) = tx at *
      clear hok hv
      go_enter Tryz.func149, Tryz.ntmps149
      go_wp2_with fail
      go_region_with (first
        | (go_at_call 169; refine (HF.out _).mono ?_; rintro e w1 ⟨rfl, rfl⟩)
        | (go_at_call 168; refine (builderWriteString_t bt_writer _ _ _ _ _ (builder_ext hB ((Ext.refl w).alloc _).drew) (by exact hl) (hBw1 _)).mono ?_; rintro e w2 ⟨rfl, hB2, hx2⟩))
      all_goals ((try simp only [Exit.inBlock]); refine bodyPost_end (results_none rfl _ _ _) rfl ?_)
      all_goals exact ⟨rfl, hB2, (hbel _).drew.trans hx2⟩
    | int x =>
      subst hrv
      unfold vcells
      have HF := Lib.hid (fun w' hE' => formatInt_any x w' hE' (by simpa [jok, i64ok] using hok))
      rw [jtext_int] at *
      have hit : itoaS x = str (Lib.itoa x) := rfl
      rw [hit] at HF
      clear hit
      generalize Lib.itoa x = tx at *
      clear hok hv
      go_enter Tryz.func149, Tryz.ntmps149
      go_wp2_with fail
      go_region_with (first
        | (go_at_call 170; refine (HF.out _ (hEw.alloc _).drew).mono ?_; rintro e w1 ⟨rfl, hx1⟩)
        | (go_at_call 168; refine (builderWriteString_t bt_writer _ _ _ _ _ (builder_ext hB (((Ext.refl w).alloc _).drew.trans hx1)) (by exact hl) (Nat.le_trans (hBw1 _) hx1.size)).mono ?_; rintro e w2 ⟨rfl, hB2, hx2⟩))
      all_goals ((try simp only [Exit.inBlock]); refine bodyPost_end (results_none rfl _ _ _) rfl ?_)
      all_goals exact ⟨rfl, hB2, (hbel _).drew.trans ((Below.mono hx1 (hBw1 _)).trans hx2)⟩
    | str s =>
      subst hrv
      unfold vcells
      have hQ : quoteS s = (str (jtext (.str s)), 0) := by
        unfold quoteS
        rw [jtext_str, if_pos]
        rw [jvalid] at hv
        simp at hv
        exact hv.2
      have hstr := fun w' hE' hB' hBw' => jstr_any s B b bs w' hE' (by simpa [jok] using hok) hB' hBw' (by rw [hQ]; exact hl)
      rw [hQ] at hstr
      have HS := Lib.hid hstr
      clear hstr hQ hok hv hl
      go_enter Tryz.func149, Tryz.ntmps149
      go_wp2_with (go_at_call 171; refine (HS.out _ (hEw.alloc _) (HB1 _) (hBw1 _)).mono ?_; rintro e w2 ⟨rfl, hB2, hx2⟩)
      ((try simp only [Exit.inBlock, Exit.then]); refine bodyPost_end (results_none rfl _ _ _) rfl ?_)
      exact ⟨rfl, hB2, (hbel _).trans hx2⟩
end Go.Proofs.YtgecijhgonfldaaGreatDoor
