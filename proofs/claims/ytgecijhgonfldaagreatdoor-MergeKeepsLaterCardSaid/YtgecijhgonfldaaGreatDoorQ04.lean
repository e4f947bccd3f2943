/- Parts of the proof: contracts and plain laws that the statement needs. -/
import Derived.Test.YtgecijhgonfldaaGreatDoorQ03
import Derived.Test.YtgecijhgonfldaaGreatDoorQ00
namespace Go.Proofs.YtgecijhgonfldaaGreatDoor
open Go Go.RowKit
set_option linter.unusedVariables false
def ValidSaid (n : Nat) : Prop := ∀ (j : JV) (cs : List Value) (w : World) (d : Nat), RVn n w j cs → jok j → Env w → 1 ≤ d → d ≤ 101 →
  Calls Tryz.prog 167 #[.agg cs.toArray, .int .i64 (d : Nat)] w fun e w' => e = .returned (.bool (jvalid j d)) ∧ Ext w w'
theorem RVn.shape {w : World} {n : Nat} {j : JV} {cs : List Value} (h : RVn n w j cs) : ∃ k b x s A m c a, cs = [.int .i64 k, .bool b, .int .i64 x, .string s, .slice A m c, .slice none 0 0, .int .i64 a] := by
  cases n with
  | zero => exact h.elim
  | succ n =>
    obtain ⟨a, h⟩ := h
    cases j with
    | arr l => obtain ⟨v, css, rfl, _, ⟨_, A, c, rfl, _⟩, _⟩ := h; exact ⟨_, _, _, _, _, _, _, _, rfl⟩
    | _ => subst h; exact ⟨_, _, _, _, _, _, _, _, rfl⟩
set_option maxRecDepth 100000 in
set_option maxHeartbeats 1000000 in
theorem valid_arr (n : Nat) (ih : ValidSaid n) (l : List JV) (cs : List Value) (w : World) (d : Nat) (h : RVn (n + 1) w (.arr l) cs) (hok : jok (.arr l)) (hE : Env w) (hd : 1 ≤ d) (hd1 : d ≤ 101) :
    Calls Tryz.prog 167 #[.agg cs.toArray, .int .i64 (d : Nat)] w fun e w' => e = .returned (.bool (jvalid (.arr l) d)) ∧ Ext w w' := by
  obtain ⟨a, v, css, rfl, hcl, hr, hel⟩ := h
  rw [jok_arr] at hok
  rw [jvalid_arr]
  have hr' := hr
  obtain ⟨_, A, c, rfl, hmc, hcm, _, _⟩ := hr'
  have hvs := fun w' (hE' : Env w') => validString_any ⟨#[]⟩ w' hE' (by simp [ByteArray.size])
  have hvt : Lib.validD (⟨#[]⟩ : ByteArray).data.toList = true := by decide
  have HVS := Lib.hid hvs
  have HIH := Lib.hid ih
  have HEL := Lib.hid hel
  have HOK := Lib.hid hok
  have HUN := Lib.hid (fun w' (hx : Ext w w') => unused_any (n + 1) (.arr l) (vcells 4 false 0 ⟨#[]⟩ (.slice A l.length c) a) w' ⟨a, _, css, rfl, hcl, hr.ext hx, fun i j c hj hc => (hel i j c hj hc).ext hx⟩)
  have hmm := @run_makeMap Tryz.prog
  have hln : ∀ c ∈ css, c.length = 7 := by
    intro c hc
    obtain ⟨i, hi, rfl⟩ := List.mem_iff_getElem.1 hc
    exact (hel i l[i] css[i] (List.getElem?_eq_getElem (by omega)) (List.getElem?_eq_getElem hi)).len
  have HLN := Lib.hid hln
  clear hvs ih hel hok hln
  by_cases hd2 : d ≤ 100
  · have hd3 : decide ((100 : Int) < (d : Nat)) = false := by simp; omega
    have HDD := Lib.hid hd2
    unfold vcells at *
    go_enter Tryz.func167, Tryz.ntmps167
    go_wp2_with (first
      | (go_at_call 178; refine (HUN.out _ ((Ext.refl _).alloc _)).mono ?_; rintro e w1 ⟨rfl, hx1⟩; (have hb3 := hx1.boxed 3 _ rfl))
      | (go_at_call 179; refine (HVS.out _ ((hE.alloc _).ext hx1)).mono ?_; rintro e w2 ⟨rfl, hx2⟩; (have hb4 := hx2.cell (hx1.boxed 4 _ rfl)); (have hb5 := hx2.cell (hx1.boxed 5 _ rfl))))
    go_loopw [36] (fun i wr => ∃ k : Nat, k ≤ l.length ∧ i = .int .i64 k ∧ Hid ((l.all fun j => jvalid j (d + 1)) = ((l.drop k).all fun j => jvalid j (d + 1))) ∧ Ext w2 wr) (fun i _ => l.length - (intOf i).toNat)
    case atStart => exact ⟨0, Nat.zero_le _, rfl, rfl, Ext.refl _⟩
    case round =>
      obtain ⟨k, hk, rfl, hall, hx⟩ := hrel
      by_cases hlt : k < l.length
      · have hck : k < css.length := by omega
        have hRV := HEL.out k l[k] css[k] (List.getElem?_eq_getElem hlt) (List.getElem?_eq_getElem hck)
        obtain ⟨ad, cap, hA, hcells⟩ := RSl.elem (hr.ext ((((Ext.refl w).alloc _).trans hx1).trans (hx2.trans hx))) (by omega) HLN.out k css[k] (List.getElem?_eq_getElem hck)
        injection hA with hA1 hA2 hA3
        subst hA1
        clear hA2 hA3
        rw [Nat.mul_comm] at hcells
        obtain ⟨x0, x1, x2, x3, x4, x5, x6, x7, hc⟩ := hRV.shape
        rw [hc] at hcells
        have hc0 := hcells 0 _ rfl
        have hc1 := hcells 1 _ rfl
        have hc2 := hcells 2 _ rfl
        have hc3 := hcells 3 _ rfl
        have hc4 := hcells 4 _ rfl
        have hc5 := hcells 5 _ rfl
        have hc6 := hcells 6 _ rfl
        rw [add_zero] at hc0
        have hadd : ∀ i, 0 < i → (ad.add (k * 7)).add i = ⟨(ad.add (k * 7)).block, (ad.add (k * 7)).off + i, none⟩ := fun i hi => if_neg (by omega)
        rw [hadd _ (by omega)] at hc1 hc2 hc3 hc4 hc5 hc6
        clear hadd
        rw [hc] at hRV
        clear hcells
        have hE2 := hE.ext ((((Ext.refl w).alloc _).trans hx1).trans (hx2.trans hx))
        have hRV2 := hRV.ext ((((Ext.refl w).alloc _).trans hx1).trans (hx2.trans hx))
        have hok1 := HOK.out l[k] (List.getElem_mem _)
        have hwrap : IntKind.i64.wrap ((d : Int) + 1) = ((d + 1 : Nat) : Int) := by rw [IntKind.wrap]; simp [IntKind.signed, IntKind.bits]; omega
        have hall' := hall.out.trans (by rw [List.drop_eq_getElem_cons hlt, List.all_cons] : _ = (jvalid l[k] (d + 1) && (l.drop (k + 1)).all fun j => jvalid j (d + 1)))
        have HALL := Lib.hid hall'
        have HOK1 := Lib.hid hok1
        have HRV2 := Lib.hid hRV2
        clear hall hall' hok1 hRV hRV2
        have hw1 : wrap64 ((k : Int) + 1) = ((k + 1 : Nat) : Int) := by rw [maxLen] at hcm; rw [wrap_ok _ ⟨by omega, by omega⟩]; rfl
        have hxw := (((Ext.refl w).alloc _).trans hx1).trans (hx2.trans hx)
        go_wp2_with (first
            | (go_at_call 167; refine (HIH.out l[k] _ _ (d + 1) (HRV2.out.ext ((Ext.refl _).alloc _)) HOK1.out (hE2.alloc _) (by omega) (by omega)).mono ?_; rintro e w3 ⟨rfl, hx3⟩))
        · go_ret
          refine ⟨?_, (hxw.alloc _).trans hx3⟩
          have h1 := HALL.out
          simp_all
        · go_roundw
          case rel => first | exact ⟨k + 1, by omega, by rw [hw1], by have h1 := HALL.out; simp_all [Hid], (hx.alloc _).trans hx3⟩ | ((repeat apply Exists.intro); exact ⟨⟨k + 1, by omega, by rw [hw1], by have h1 := HALL.out; simp_all [Hid], (hx.alloc _).trans hx3⟩, rfl⟩)
          case measure => rw [hw1]; simp [intOf]; omega
      · have hk' : k = l.length := by omega
        subst hk'
        have hall1 := Lib.hid (hall.out.trans (by simp : _ = true))
        have hb5' := ((Ext.refl wr).alloc (.map #[] 0)).cell (hx.cell hb5)
        go_wp2
        refine wp_loop_rounds 1 ?_
        rw [rounds_succ]
        go_wp2
        go_ret
        refine ⟨by rw [hall1.out]; simp [HDD.out], ?_⟩
        exact (((((Ext.refl w).alloc _).trans hx1).trans (hx2.trans hx)).alloc _)
  · have hd3 : decide ((100 : Int) < (d : Nat)) = true := by simp; omega
    have HDD := Lib.hid hd2
    unfold vcells at *
    go_enter Tryz.func167, Tryz.ntmps167
    go_wp2
    go_ret
    exact ⟨by simp, (Ext.refl _).alloc _⟩
set_option maxRecDepth 100000 in
set_option maxHeartbeats 1000000 in
theorem valid_leaf (k : Int) (b : Bool) (x : Int) (s : ByteArray) (a : Int) (w : World) (d : Nat) (hE : Env w) (hs : s.size ≤ 16777216) (hk : 0 ≤ k) (hk5 : k ≤ 5) (hd : 1 ≤ d) (hd1 : d ≤ 101)
    (hun : ∀ w', Calls Tryz.prog 178 #[.agg (vcells k b x s (.slice none 0 0) a).toArray] w' fun e w'' => e = .returned (.bool true) ∧ Ext w' w'') :
    Calls Tryz.prog 167 #[.agg (vcells k b x s (.slice none 0 0) a).toArray, .int .i64 (d : Nat)] w fun e w' => e = .returned (.bool (decide (d ≤ 100) && Lib.validD s.data.toList)) ∧ Ext w w' := by
  have hvs := fun w' (hE' : Env w') => validString_any s w' hE' hs
  have HVS := Lib.hid hvs
  have HUN := Lib.hid hun
  have hk1 : decide (k < 0) = false := by simp; omega
  have hk2 : decide (5 < k) = false := by simp; omega
  have hmm := @run_makeMap Tryz.prog
  clear hvs hun hs
  by_cases hd2 : d ≤ 100
  · have hd3 : decide ((100 : Int) < (d : Nat)) = false := by simp; omega
    have HDD := Lib.hid hd2
    unfold vcells at *
    have key : ∀ vb : Bool, Lib.validD s.data.toList = vb → Calls Tryz.prog 167 #[.agg #[.int .i64 k, .bool b, .int .i64 x, .string s, .slice none 0 0, .slice none 0 0, .int .i64 a], .int .i64 (d : Nat)] w fun e w' => e = .returned (.bool vb) ∧ Ext w w' := by
      intro vb hvb
      rw [hvb] at HVS
      clear hvb
      go_enter Tryz.func167, Tryz.ntmps167
      cases vb
      · go_wp2_with (first
          | (go_at_call 178; refine (HUN.out _).mono ?_; rintro e w1 ⟨rfl, hx1⟩; (have hb3 := hx1.boxed 3 _ rfl))
          | (go_at_call 179; refine (HVS.out _ ((hE.alloc _).ext hx1)).mono ?_; rintro e w2 ⟨rfl, hx2⟩))
        go_ret
        exact ⟨rfl, (((Ext.refl w).alloc _).trans hx1).trans hx2⟩
      · go_wp2_with (first
          | (go_at_call 178; refine (HUN.out _).mono ?_; rintro e w1 ⟨rfl, hx1⟩; (have hb3 := hx1.boxed 3 _ rfl))
          | (go_at_call 179; refine (HVS.out _ ((hE.alloc _).ext hx1)).mono ?_; rintro e w2 ⟨rfl, hx2⟩; (have hb4 := hx2.cell (hx1.boxed 4 _ rfl)); (have hb5 := ((Ext.refl w2).alloc (.map #[] 0)).cell (hx2.cell (hx1.boxed 5 _ rfl)))))
        refine wp_loop_rounds 1 ?_
        rw [rounds_succ]
        go_wp2
        refine wp_loop_rounds 1 ?_
        rw [rounds_succ]
        go_wp2
        go_ret
        exact ⟨rfl, ((((Ext.refl w).alloc _).trans hx1).trans hx2).alloc _⟩
    refine (key _ rfl).mono ?_
    rintro e w' ⟨rfl, hx⟩
    exact ⟨by simp [HDD.out], hx⟩
  · have hd3 : decide ((100 : Int) < (d : Nat)) = true := by simp; omega
    have HDD := Lib.hid hd2
    unfold vcells at *
    go_enter Tryz.func167, Tryz.ntmps167
    go_wp2
    go_ret
    exact ⟨by simp [HDD.out], (Ext.refl _).alloc _⟩
theorem vnil : Lib.validD (⟨#[]⟩ : ByteArray).data.toList = true := by decide
theorem valid_in : ∀ n, ValidSaid n
  | 0, _, _, _, _, h, _, _, _, _ => h.elim
  | n + 1, j, cs, w, d, h, hok, hE, hd, hd1 => by
    cases j with
    | arr l => exact valid_arr n (valid_in n) l cs w d h hok hE hd hd1
    | null =>
      obtain ⟨a, rfl⟩ := h
      refine (valid_leaf 0 false 0 ⟨#[]⟩ a w d hE (by simp [ByteArray.size]) (by omega) (by omega) hd hd1 fun w' => unused_any (n + 1) .null _ w' ⟨a, rfl⟩).mono ?_
      rintro e w' ⟨rfl, hx⟩
      exact ⟨by rw [vnil, Bool.and_true]; simp [jvalid], hx⟩
    | bool b =>
      obtain ⟨a, rfl⟩ := h
      refine (valid_leaf 1 b 0 ⟨#[]⟩ a w d hE (by simp [ByteArray.size]) (by omega) (by omega) hd hd1 fun w' => unused_any (n + 1) (.bool b) _ w' ⟨a, rfl⟩).mono ?_
      rintro e w' ⟨rfl, hx⟩
      exact ⟨by rw [vnil, Bool.and_true]; simp [jvalid], hx⟩
    | int x =>
      obtain ⟨a, rfl⟩ := h
      refine (valid_leaf 2 false x ⟨#[]⟩ a w d hE (by simp [ByteArray.size]) (by omega) (by omega) hd hd1 fun w' => unused_any (n + 1) (.int x) _ w' ⟨a, rfl⟩).mono ?_
      rintro e w' ⟨rfl, hx⟩
      exact ⟨by rw [vnil, Bool.and_true]; simp [jvalid], hx⟩
    | str s =>
      obtain ⟨a, rfl⟩ := h
      refine (valid_leaf 3 false 0 s a w d hE (by simpa [jok] using hok) (by omega) (by omega) hd hd1 fun w' => unused_any (n + 1) (.str s) _ w' ⟨a, rfl⟩).mono ?_
      rintro e w' ⟨rfl, hx⟩
      exact ⟨by simp [jvalid], hx⟩
set_option maxRecDepth 100000 in
theorem jcheck_any (j : JV) (cs : List Value) (w : World) (h : RV w j cs) (hok : jok j) (hE : Env w) :
    Calls Tryz.prog 148 #[.agg cs.toArray] w fun e w' => e = .returned (.int .i64 (if jvalid j 1 then 0 else 22)) ∧ Ext w w' := by
  obtain ⟨n, h⟩ := h
  obtain ⟨x0, x1, x2, x3, x4, x5, x6, x7, hc⟩ := h.shape
  subst hc
  have H := Lib.hid (fun w' (hx : Ext w w') => valid_in n j _ w' 1 (h.ext hx) hok (hE.ext hx) (by omega) (by omega))
  clear h hok hE
  go_enter Tryz.func148, Tryz.ntmps148
  go_wp2_with (go_at_call 167; refine (H.out _ ((Ext.refl w).alloc _)).mono ?_; rintro e w' ⟨rfl, hx⟩)
  all_goals go_ret
  all_goals exact ⟨by simp_all, ((Ext.refl w).alloc _).trans hx⟩
end Go.Proofs.YtgecijhgonfldaaGreatDoor
namespace Go.Proofs.YtgecijhgonfldaaGreatDoor
open Go Go.RowKit
set_option linter.unusedVariables false
abbrev WB (B b : Nat) (bs : List Value) (w : World) : Prop := Lib.IsBuilder 184 5 B b bs w
set_option maxRecDepth 100000 in
theorem jstr_any (s : ByteArray) (B b : Nat) (bs : List Value) (w : World) (hE : Env w) (hs : s.size ≤ 16777216) (hB : WB B b bs w) (hBw : B ≤ w.heap.size) (hl : bs.length + (quoteS s).1.size ≤ 140737488355328) :
    Calls Tryz.prog 171 #[.pointer (some ⟨b, 0, none⟩), .string s] w fun e w' => e = .returned (.tuple #[]) ∧ (WB B b (bs ++ Lib.byteCells (quoteS s).1.data.toList) w' ∧ Below B w w') := by
  have hq := quote_any s w hE hs
  generalize hQ : quoteS s = Q at *
  clear hQ hs
  obtain ⟨q, e⟩ := Q
  have HQ := Lib.hid hq
  clear hq
  go_enter Tryz.func171, Tryz.ntmps171
  go_wp2_with (first
    | (go_at_call 182; refine HQ.out.mono ?_; rintro e w1 ⟨rfl, hx1⟩; (have hB1 := builder_ext hB hx1); (have hBw1 := Nat.le_trans hBw hx1.size))
    | (go_at_call 168; refine (builderWriteString_t bt_writer _ _ _ _ _ hB1 hl hBw1).mono ?_; rintro e w2 ⟨rfl, hB2, hx2⟩))
  ((try simp only [Exit.inBlock, Exit.then]); refine bodyPost_end (results_none rfl _ _ _) rfl ?_)
  exact ⟨rfl, hB2, (Below.mono hx1 hBw).trans hx2⟩
theorem jtext_null : jtext .null = [110, 117, 108, 108] := by simp [jtext]
theorem jtext_bool (b : Bool) : jtext (.bool b) = if b then [116, 114, 117, 101] else [102, 97, 108, 115, 101] := by simp [jtext]
theorem jtext_int (n : Int) : jtext (.int n) = Lib.itoa n := by simp [jtext]
theorem jtext_str (s : ByteArray) : jtext (.str s) = quoteL s.data.toList := by simp [jtext]
theorem formatBool_any (x : Bool) (w : World) : Calls Tryz.prog 169 #[.bool x] w fun e w' => e = .returned (.string (str (jtext (.bool x)))) ∧ w' = w := by
  have hin : Calls Tryz.prog 180 #[.bool x] w fun e w' => e = .returned (.string (str (jtext (.bool x)))) ∧ w' = w := by
    go_enter Tryz.func180, Tryz.ntmps180
    cases x
    · go_wp2
      go_ret
      exact ⟨by rw [jtext_bool]; rfl, rfl⟩
    · go_wp2
      go_ret
      exact ⟨by rw [jtext_bool]; rfl, rfl⟩
  go_enter Tryz.func169, Tryz.ntmps169
  go_wp2_with (go_at_call 180; refine hin.mono ?_; rintro e w1 ⟨rfl, rfl⟩)
  go_ret
  exact ⟨rfl, rfl⟩
def ValueSaid (n : Nat) : Prop := ∀ (j : JV) (cs : List Value) (w0 w : World) (B b : Nat) (bs : List Value) (d : Nat), RVn n w0 j cs → jok j → jvalid j d = true → Env w0 → Ext w0 w → w0.heap.size ≤ B →
  WB B b bs w → B ≤ w.heap.size → bs.length + (jtext j).length ≤ 140737488355328 →
  Calls Tryz.prog 149 #[.pointer (some ⟨b, 0, none⟩), .agg cs.toArray] w fun e w' => e = .returned (.tuple #[]) ∧ (WB B b (bs ++ Lib.byteCells (jtext j)) w' ∧ Below B w w')
set_option maxRecDepth 100000 in
theorem value_leaf (n : Nat) (j : JV) (cs : List Value) (w0 w : World) (B b : Nat) (bs : List Value) (d : Nat) (hrv : RVn n w0 j cs) (hok : jok j) (hv : jvalid j d = true) (hE : Env w0) (hx : Ext w0 w) (h0 : w0.heap.size ≤ B)
    (hB : WB B b bs w) (hBw : B ≤ w.heap.size) (hl : bs.length + (jtext j).length ≤ 140737488355328) (hj : ∀ l, j ≠ .arr l) :
    Calls Tryz.prog 149 #[.pointer (some ⟨b, 0, none⟩), .agg cs.toArray] w fun e w' => e = .returned (.tuple #[]) ∧ (WB B b (bs ++ Lib.byteCells (jtext j)) w' ∧ Below B w w') := by
  have hEw := hE.ext hx
  cases n with
  | zero => exact hrv.elim
  | succ n =>
    obtain ⟨a, hrv⟩ := hrv
    have HB1 := fun o => builder_ext hB ((Ext.refl w).alloc o)
    have hBw1 : ∀ o, B ≤ (w.alloc o).heap.size := fun o => Nat.le_trans hBw ((Ext.refl w).alloc o).size
    have hbel : ∀ o, Below B w (w.alloc o) := fun o => Below.mono ((Ext.refl w).alloc o) hBw
    cases j with
    | arr l => exact absurd rfl (hj l)
    | null =>
      subst hrv
      rw [jtext_null] at *
      unfold vcells
      go_enter Tryz.func149, Tryz.ntmps149
      go_wp2_with (go_at_call 168; refine (builderWriteString_t bt_writer _ _ _ _ _ (HB1 _) (by exact hl) (hBw1 _)).mono ?_; rintro e w2 ⟨rfl, hB2, hx2⟩)
      ((try simp only [Exit.inBlock, Exit.then]); refine bodyPost_end (results_none rfl _ _ _) rfl ?_)
      exact ⟨rfl, hB2, (hbel _).trans hx2⟩
    | bool x =>
      subst hrv
      unfold vcells
      have HF := Lib.hid (formatBool_any x)
      generalize jtext (.bool x) = tx at *
      clear hok hv
      go_enter Tryz.func149, Tryz.ntmps149
      go_wp2_with fail
      go_region_with (first
        | (go_at_call 169; refine (HF.out _).mono ?_; rintro e w1 ⟨rfl, rfl⟩)
        | (go_at_call 168; refine (builderWriteString_t bt_writer _ _ _ _ _ (builder_ext hB ((Ext.refl w).alloc _).drew) (by exact hl) (hBw1 _)).mono ?_; rintro e w2 ⟨rfl, hB2, hx2⟩))
      all_goals ((try simp only [Exit.inBlock]); refine bodyPost_end (results_none rfl _ _ _) rfl ?_)
      all_goals exact ⟨rfl, hB2, (hbel _).drew.trans hx2⟩
    | int x =>
      subst hrv
      unfold vcells
      have HF := Lib.hid (fun w' hE' => formatInt_any x w' hE' (by simpa [jok, i64ok] using hok))
      rw [jtext_int] at *
      have hit : itoaS x = str (Lib.itoa x) := rfl
      rw [hit] at HF
      clear hit
      generalize Lib.itoa x = tx at *
      clear hok hv
      go_enter Tryz.func149, Tryz.ntmps149
      go_wp2_with fail
      go_region_with (first
        | (go_at_call 170; refine (HF.out _ (hEw.alloc _).drew).mono ?_; rintro e w1 ⟨rfl, hx1⟩)
        | (go_at_call 168; refine (builderWriteString_t bt_writer _ _ _ _ _ (builder_ext hB (((Ext.refl w).alloc _).drew.trans hx1)) (by exact hl) (Nat.le_trans (hBw1 _) hx1.size)).mono ?_; rintro e w2 ⟨rfl, hB2, hx2⟩))
      all_goals ((try simp only [Exit.inBlock]); refine bodyPost_end (results_none rfl _ _ _) rfl ?_)
      all_goals exact ⟨rfl, hB2, (hbel _).drew.trans ((Below.mono hx1 (hBw1 _)).trans hx2)⟩
    | str s =>
      subst hrv
      unfold vcells
      have hQ : quoteS s = (str (jtext (.str s)), 0) := by
        unfold quoteS
        rw [jtext_str, if_pos]
        rw [jvalid] at hv
        simp at hv
        exact hv.2
      have hstr := fun w' hE' hB' hBw' => jstr_any s B b bs w' hE' (by simpa [jok] using hok) hB' hBw' (by rw [hQ]; exact hl)
      rw [hQ] at hstr
      have HS := Lib.hid hstr
      clear hstr hQ hok hv hl
      go_enter Tryz.func149, Tryz.ntmps149
      go_wp2_with (go_at_call 171; refine (HS.out _ (hEw.alloc _) (HB1 _) (hBw1 _)).mono ?_; rintro e w2 ⟨rfl, hB2, hx2⟩)
      ((try simp only [Exit.inBlock, Exit.then]); refine bodyPost_end (results_none rfl _ _ _) rfl ?_)
      exact ⟨rfl, hB2, (hbel _).trans hx2⟩
end Go.Proofs.YtgecijhgonfldaaGreatDoor
namespace Go.Proofs.YtgecijhgonfldaaGreatDoor
open Go Go.RowKit
set_option linter.unusedVariables false
def KeepsT (T : TypeId) (w w' : World) : Prop := ∀ (k : Nat) (cs : Array Value) (t : TypeId) (fr : Nat × Nat), w.heap[k]? = some (Obj.cells cs t fr) → t ≠ T → t ≠ 5 → w'.heap[k]? = some (Obj.cells cs t fr)
theorem Builder_copyCheck_k {T : TypeId} (hT : BT T) (B b : Nat) (bs : List Value) (w : World) (h : Lib.IsBuilder T 5 B b bs w) :
    Calls Tryz.prog 135 #[.pointer (some ⟨b, 0, none⟩)] w fun e w' => e = .returned (.tuple #[]) ∧ (Lib.BuilderAt T 5 B b (.pointer (some ⟨b, 0, none⟩)) bs w' ∧ Below B w w' ∧ KeepsT T w w') := by
  rcases h with h | h
  · refine (Builder_copyCheck_fresh hT b w h.cell0 h.shape h.frozen0).mono ?_
    rintro e w' ⟨rfl, rfl⟩
    refine ⟨rfl, h.used _, (Below.refl B w).setCell (p := ⟨b, 0, none⟩) h.1 _, ?_⟩
    intro k cs t fr hk hT' he'
    rw [Below.heap_setCell _ _ _ _ (fun e => ?_)]
    · exact hk
    · obtain ⟨_, v, hb, _⟩ := h
      simp at e
      subst e
      rw [hb] at hk
      simp only [Option.some.injEq, Obj.cells.injEq] at hk
      exact hT' hk.2.1.symm
  · refine (Builder_copyCheck_used hT b w h.cell0).mono ?_
    rintro e w' ⟨rfl, rfl⟩
    exact ⟨rfl, h, Below.refl B _, fun _ _ _ _ hk _ _ => hk⟩
set_option maxHeartbeats 2000000 in
set_option maxRecDepth 100000 in
theorem Builder_WriteByte_k {T : TypeId} (hT : BT T) (B b : Nat) (bs : List Value) (c : Int) (w : World) (h : Lib.IsBuilder T 5 B b bs w) (hlen : bs.length + 1 ≤ 140737488355328) (hBw : B ≤ w.heap.size) :
    Calls Tryz.prog 101 #[.pointer (some ⟨b, 0, none⟩), .int .u8 c] w fun e w' => e = .returned .nilIface ∧ (Lib.BuilderAt T 5 B b (.pointer (some ⟨b, 0, none⟩)) (bs ++ [.int .u8 c]) w' ∧ Below B w w' ∧ KeepsT T w w') := by
  obtain ⟨i0, hi, hz0, hz1, hz2⟩ := info_parts info_u8
  go_enter Tryz.func101, Tryz.ntmps101
  go_wp2_with (go_at_call 135; refine (Builder_copyCheck_k hT B b bs _ h).mono ?_)
  rintro e w1 ⟨rfl, h1, hb1, hk1⟩
  obtain ⟨hB, v, hbk, hown, hne⟩ := h1
  have c0 : w1.cell? ⟨b, 0, none⟩ = some (.pointer (some ⟨b, 0, none⟩)) := by rw [Lib.cell_of_heap hbk]; rfl
  have c1 : w1.cell? ⟨b, 1, none⟩ = some v := by rw [Lib.cell_of_heap hbk]; rfl
  go_wp2_with (at_builtin; refine wpList_append_own _ rfl _ _ 107 rfl B 5 i0 (.int .u8 0) 1 1 Tryz.underlying107 hi hz0 hz1 hz2 rfl (by decide) _ _ _ rfl (hown.alloc _) ⟨w1.heap.size, 0, none⟩ 1 1 [.int .u8 c] rfl rfl ?c1 ?c2 ?c3 ?c4 ?c5 ?_)
  case c1 =>
    intro j u hj
    match j, hj with
    | 0, hj => simp at hj; subst hj; simp [Addr.add]
  case c2 => intro u hu; simp at hu; subst hu; rfl
  case c3 => unfold maxLen; omega
  case c4 => omega
  case c5 => have := hb1.size; simp; omega
  intro v' w2 hown' hgrow _
  have hlt : b < w1.heap.size := by
    rcases Nat.lt_or_ge b w1.heap.size with h' | h'
    · exact h'
    · simp [Array.getElem?_eq_none h'] at hbk
  have hb2 : w2.heap[b]? = some (.cells #[.pointer (some ⟨b, 0, none⟩), v] T (0, 0)) := by
    rw [hgrow.block b (by simp; omega) (fun e => hne e.symm), Lib.alloc_old w1 _ b hlt]
    exact hbk
  have d0 : w2.cell? ⟨b, 0, none⟩ = some (.pointer (some ⟨b, 0, none⟩)) := by rw [Lib.cell_of_heap hb2]; rfl
  have d1 : w2.cell? ⟨b, 1, none⟩ = some v := by rw [Lib.cell_of_heap hb2]; rfl
  have f1 : w2.frozen? ⟨b, 1, none⟩ = false := Lib.frozen_of_heap hb2 1
  obtain ⟨g, cap, rfl⟩ : ∃ g cap, v' = .slice (some ⟨g, 0, none⟩) (bs.length + 1) cap := by
    rcases hown'.2 with ⟨_, h0⟩ | ⟨g, cap, cur, hv, _⟩
    · omega
    · exact ⟨g, cap, hv⟩
  go_wp2
  go_ret
  refine ⟨rfl, ?_, ?_, ?_⟩
  · exact Lib.BuilderAt.put (T := T) (e := 5) hB hb2 (bs' := bs ++ [.int .u8 c]) (by simpa using hown') hT.ne
  · exact ((hb1.alloc (by have := hb1.size; omega) _).grown hgrow (by have := hb1.size; simp; omega) (fun k hk => (hown.lt k hk).1)).setCell (p := ⟨b, 1, none⟩) hB _
  · intro k cs t fr hk hT' he'
    have hk' := hk1 k cs t fr hk hT' he'
    have hkb : k ≠ b := by
      rintro rfl
      rw [hbk] at hk'
      simp only [Option.some.injEq, Obj.cells.injEq] at hk'
      exact hT' hk'.2.1.symm
    have hlk : k < w1.heap.size := (Array.getElem?_eq_some_iff.1 hk').1
    rw [Below.heap_setCell _ _ _ _ (fun e => hkb (by simpa using e))]
    rw [hgrow.block k (by simp; omega) (fun e => Lib.ownBlock_ne hown hk' he' e.symm), Lib.alloc_old w1 _ k hlk]
    exact hk'
end Go.Proofs.YtgecijhgonfldaaGreatDoor
namespace Go.Proofs.YtgecijhgonfldaaGreatDoor
open Go Go.RowKit
set_option linter.unusedVariables false
theorem cell44 : [Value.int IntKind.u8 44] = Lib.byteCells [44] := rfl
theorem cell93 : [Value.int IntKind.u8 93] = Lib.byteCells [93] := rfl
theorem commas_take (L : List (List UInt8)) (k : Nat) (h : k < L.length) : commas (L.take (k + 1)) = (if k = 0 then [] else commas (L.take k) ++ [44]) ++ L[k] := by
  rw [List.take_succ_eq_append_getElem h, commas_snoc]
  by_cases hk : k = 0
  · subst hk; simp
  · have : L.take k ≠ [] := by
      intro h'
      have := congrArg List.length h'
      rw [List.length_take] at this
      simp at this
      rcases this with h | h
      · exact hk h
      · subst h; simp at *
    rw [if_neg this, if_neg hk]
    simp
theorem commas_le (L : List (List UInt8)) : ∀ k, k ≤ L.length → (commas (L.take k)).length ≤ (commas L).length := by
  have step : ∀ k, k < L.length → (commas (L.take k)).length ≤ (commas (L.take (k + 1))).length := by
    intro k hk
    rw [commas_take L k hk]
    by_cases h0 : k = 0
    · subst h0; simp [commas]
    · rw [if_neg h0]; simp only [List.length_append]; omega
  have all : ∀ n k, k + n = L.length → (commas (L.take k)).length ≤ (commas L).length := by
    intro n
    induction n with
    | zero => intro k hk; rw [List.take_of_length_le (by omega)]; exact Nat.le_refl _
    | succ n ih => intro k hk; exact Nat.le_trans (step k (by omega)) (ih (k + 1) (by omega))
  intro k hk
  exact all (L.length - k) k (by omega)
set_option maxRecDepth 100000 in
set_option maxHeartbeats 1000000 in
theorem join_arr (n : Nat) (ih : ValueSaid n) (l : List JV) (A : Option Addr) (c : Nat) (css : List (List Value)) (w0 w : World) (B b : Nat) (bs : List Value) (d : Nat) (hcl : css.length = l.length)
    (hr : RSl w0 7 (.slice A l.length c) l.length css.flatten) (hel : ∀ (i : Nat) (j : JV) (c : List Value), l[i]? = some j → css[i]? = some c → RVn n w0 j c) (hok : ∀ j ∈ l, jok j) (hv : ∀ j ∈ l, jvalid j d = true) (hE : Env w0) (hx : Ext w0 w) (h0 : w0.heap.size ≤ B)
    (hB : WB B b bs w) (hBw : B ≤ w.heap.size) (hl : bs.length + (commas (l.map jtext)).length + 2 ≤ 140737488355328) :
    Calls Tryz.prog 172 #[.pointer (some ⟨b, 0, none⟩), .int .u8 91, .int .u8 93, .slice A l.length c, .func (.func 149) #[.pointer (some ⟨b, 0, none⟩)] #[]] w
      fun e w' => e = .returned (.tuple #[]) ∧ (WB B b (bs ++ Lib.byteCells (91 :: (commas (l.map jtext) ++ [93]))) w' ∧ Below B w w') := by
  obtain ⟨_, A', c', hAc, hmc, hcm, _, _⟩ := id hr
  injection hAc with h1 h2 h3
  subst h1 h3
  have hln : ∀ c ∈ css, c.length = 7 := by
    intro c hc
    obtain ⟨i, hi, rfl⟩ := List.mem_iff_getElem.1 hc
    exact (hel i l[i] css[i] (List.getElem?_eq_getElem (by omega)) (List.getElem?_eq_getElem hi)).len
  have HLN := Lib.hid hln
  have HIH := Lib.hid ih
  have HEL := Lib.hid hel
  have HOK := Lib.hid hok
  have HV := Lib.hid hv
  have HL := Lib.hid hl
  have hcs : ∀ k, k ≤ (l.map jtext).length → bs.length + (commas ((l.map jtext).take k)).length + 2 ≤ 140737488355328 := fun k hk => by have := commas_le _ k hk; omega
  have HCS := Lib.hid hcs
  clear hln ih hel hok hv hcs hl
  go_enter Tryz.func172, Tryz.ntmps172
  go_wp2_with (go_at_call 101; refine (builderWriteByte_t bt_writer _ _ _ _ _ hB (by have := HL.out; omega) hBw).mono ?_; rintro e w1 ⟨rfl, hB1, hx1⟩)
  go_loopw [19] (fun i wr => ∃ k : Nat, k ≤ l.length ∧ i = .int .i64 k ∧ WB B b (bs ++ Lib.byteCells (91 :: commas ((l.map jtext).take k))) wr ∧ Below B w wr) (fun i _ => l.length - (intOf i).toNat)
  case atStart => exact ⟨0, Nat.zero_le _, rfl, hB1, hx1⟩
  case round =>
    obtain ⟨k, hk, rfl, hBk, hxk⟩ := hrel
    have hxw : Ext w0 wr := hx.then (Below.mono hxk h0)
    have hBs := Nat.le_trans hBw hxk.size
    by_cases hlt : k < l.length
    · have hck : k < css.length := by omega
      have hRV := HEL.out k l[k] css[k] (List.getElem?_eq_getElem hlt) (List.getElem?_eq_getElem hck)
      obtain ⟨ad, cap, hA, hcells⟩ := RSl.elem (hr.ext hxw) (by omega) HLN.out k css[k] (List.getElem?_eq_getElem hck)
      injection hA with hA1 hA2 hA3
      subst hA1
      clear hA2 hA3
      rw [Nat.mul_comm] at hcells
      obtain ⟨x0, x1, x2, x3, x4, x5, x6, x7, hc⟩ := hRV.shape
      rw [hc] at hcells
      have hc0 := hcells 0 _ rfl
      have hc1 := hcells 1 _ rfl
      have hc2 := hcells 2 _ rfl
      have hc3 := hcells 3 _ rfl
      have hc4 := hcells 4 _ rfl
      have hc5 := hcells 5 _ rfl
      have hc6 := hcells 6 _ rfl
      rw [add_zero] at hc0
      have hadd : ∀ i, 0 < i → (ad.add (k * 7)).add i = ⟨(ad.add (k * 7)).block, (ad.add (k * 7)).off + i, none⟩ := fun i hi => if_neg (by omega)
      rw [hadd _ (by omega)] at hc1 hc2 hc3 hc4 hc5 hc6
      clear hadd
      rw [hc] at hRV
      clear hcells
      have hw1 : wrap64 ((k : Int) + 1) = ((k + 1 : Nat) : Int) := by rw [maxLen] at hcm; rw [wrap_ok _ ⟨by omega, by omega⟩]; rfl
      have HRV := Lib.hid hRV
      have hok1 := HOK.out l[k] (List.getElem_mem _)
      have hv1 := HV.out l[k] (List.getElem_mem _)
      have hct := commas_take (l.map jtext) k (by simpa using hlt)
      have hcl1 := HCS.out (k + 1) (by rw [List.length_map]; exact hlt)
      rw [List.getElem_map] at hct
      rw [hct] at hcl1
      clear hRV
      have HC1 := Lib.hid hcl1
      have HCT := Lib.hid hct
      have HOK1 := Lib.hid hok1
      have HV1 := Lib.hid hv1
      have hxa : ∀ o, Ext wr (wr.alloc o) := fun o => (Ext.refl wr).alloc o
      have hba : ∀ o, Below B wr (wr.alloc o) := fun o => Below.mono (hxa o) hBs
      have hBa : ∀ o, B ≤ (wr.alloc o).heap.size := fun o => Nat.le_trans hBs (hxa o).size
      clear hct hcl1 hok1 hv1
      have hms : l.length - (intOf (Value.int IntKind.i64 (wrap64 ((k : Int) + 1)))).toNat < l.length - (intOf (Value.int IntKind.i64 (k : Int))).toNat := by
        rw [hw1]
        exact Nat.sub_lt_sub_left hlt (Nat.lt_succ_self k)
      have hwe := congrArg (Value.int .i64) hw1
      have hk1 : k + 1 ≤ l.length := hlt
      rcases Nat.eq_zero_or_pos k with hk0 | hk0
      · have hd0 : decide (0 < k) = false := decide_eq_false (by rw [hk0]; exact Nat.lt_irrefl 0)
        have hct0 : commas (List.take (k + 1) (List.map jtext l)) = jtext l[k] := by rw [HCT.out, if_pos hk0]; rfl
        have hct1 : commas (List.take k (List.map jtext l)) = [] := by
          have : ∀ m, m = 0 → commas (List.take m (List.map jtext l)) = [] := by rintro m rfl; rfl
          exact this k hk0
        have hcb : bs.length + (jtext l[k]).length + 2 ≤ 140737488355328 := by have := HC1.out; rw [if_pos hk0] at this; exact this
        have hcv : Hid ((bs ++ Lib.byteCells (91 :: commas (List.take k (List.map jtext l)))).length + (jtext l[k]).length ≤ 140737488355328) := by
          unfold Hid
          rw [hct1, List.length_append, byteCells_len]
          simp only [List.length_cons, List.length_nil]
          omega
        have HCB := Lib.hid hcv
        have HC0 := Lib.hid hct0
        have HC2 := Lib.hid hct1
        clear hk0 hct0 hct1 hcb
        go_wp2_with (go_at_call 149; refine (HIH.out l[k] _ w0 _ B b _ d HRV.out HOK1.out HV1.out hE (hxw.alloc _) h0 (builder_ext hBk (hxa _)) (hBa _) hcv.out).mono ?_; rintro e w2 ⟨rfl, hB2, hx2⟩)
        have hfin : WB B b (bs ++ Lib.byteCells (91 :: commas ((l.map jtext).take (k + 1)))) w2 := by
          rw [HC0.out]
          have h2 := hB2
          rw [HC2.out, List.append_assoc, ← byteCells_app] at h2
          exact h2
        have hxf := hxk.trans ((hba _).trans hx2)
        go_roundw
        case rel => exact ⟨k + 1, hk1, hwe, hfin, hxf⟩
        case measure => exact hms
      · have hd0 : decide (0 < k) = true := decide_eq_true hk0
        have hne : k ≠ 0 := Nat.pos_iff_ne_zero.1 hk0
        have hct0 : commas (List.take (k + 1) (List.map jtext l)) = commas (List.take k (List.map jtext l)) ++ [44] ++ jtext l[k] := by rw [HCT.out, if_neg hne]
        have hcb : bs.length + (commas (List.take k (List.map jtext l)) ++ [44] ++ jtext l[k]).length + 2 ≤ 140737488355328 := by have := HC1.out; rw [if_neg hne] at this; exact this
        rw [List.length_append, List.length_append] at hcb
        simp only [List.length_cons, List.length_nil] at hcb
        have hcv : Hid ((bs ++ Lib.byteCells (91 :: commas (List.take k (List.map jtext l))) ++ [Value.int .u8 44]).length + (jtext l[k]).length ≤ 140737488355328) := by
          unfold Hid
          rw [List.length_append, List.length_append, byteCells_len]
          simp only [List.length_cons, List.length_nil]
          omega
        have hcu : Hid ((bs ++ Lib.byteCells (91 :: commas (List.take k (List.map jtext l)))).length + 1 ≤ 140737488355328) := by
          unfold Hid
          rw [List.length_append, byteCells_len]
          simp only [List.length_cons]
          omega
        have HC0 := Lib.hid hct0
        clear hk0 hct0 hcb hne
        go_wp2_with (first
          | (go_at_call 101; refine (Builder_WriteByte_k bt_writer _ _ _ _ _ (builder_ext hBk (hxa _)) hcu.out (hBa _)).mono ?_; rintro e w2 ⟨rfl, hB2, hx2, hks⟩; (have hbs2 := Nat.le_trans (hBa _) hx2.size); (have hk2 := hks _ _ _ _ (heap_alloc_new wr _) (by decide) (by decide)); (have hy0 := (cell_of_row _ _ 0 _ _ _ hk2)); (have hy1 := (cell_of_row _ _ 1 _ _ _ hk2)); (have hy2 := (cell_of_row _ _ 2 _ _ _ hk2)); (have hy3 := (cell_of_row _ _ 3 _ _ _ hk2)); (have hy4 := (cell_of_row _ _ 4 _ _ _ hk2)); (have hy5 := (cell_of_row _ _ 5 _ _ _ hk2)); (have hy6 := (cell_of_row _ _ 6 _ _ _ hk2)))
          | (go_at_call 149; refine (HIH.out l[k] _ w0 _ B b _ d HRV.out HOK1.out HV1.out hE (hx.then (Below.mono (hxk.trans ((hba _).trans hx2)) h0)) h0 (Or.inr hB2) hbs2 hcv.out).mono ?_; rintro e w3 ⟨rfl, hB3, hx3⟩))
        have hfin : WB B b (bs ++ Lib.byteCells (91 :: commas ((l.map jtext).take (k + 1)))) w3 := by
          rw [HC0.out]
          have h2 := hB3
          rw [List.append_assoc, List.append_assoc, cell44, ← byteCells_app, ← byteCells_app] at h2
          simpa using h2
        have hxf := hxk.trans ((hba _).trans (hx2.trans hx3))
        go_roundw
        case rel => exact ⟨k + 1, hk1, hwe, hfin, hxf⟩
        case measure => exact hms
    · have hke : (l.map jtext).take k = l.map jtext := List.take_of_length_le (by rw [List.length_map]; exact Nat.not_lt.1 hlt)
      rw [hke] at hBk
      have hcu : Hid ((bs ++ Lib.byteCells (91 :: commas (l.map jtext))).length + 1 ≤ 140737488355328) := by
        unfold Hid
        rw [List.length_append, byteCells_len]
        have := HL.out
        simp only [List.length_cons]
        omega
      clear HCS HL hke
      go_wp2_with (go_at_call 101; refine (builderWriteByte_t bt_writer _ _ _ _ _ hBk hcu.out hBs).mono ?_; rintro e w2 ⟨rfl, hB2, hx2⟩)
      ((try simp only [Exit.inBlock, Exit.then]); refine bodyPost_end (results_none rfl _ _ _) rfl ?_)
      refine ⟨rfl, ?_, hxk.trans hx2⟩
      rw [cell93, List.append_assoc, ← byteCells_app] at hB2
      exact hB2
set_option maxRecDepth 100000 in
theorem value_arr (n : Nat) (ih : ValueSaid n) (l : List JV) (cs : List Value) (w0 w : World) (B b : Nat) (bs : List Value) (d : Nat) (hrv : RVn (n + 1) w0 (.arr l) cs) (hok : jok (.arr l)) (hv : jvalid (.arr l) d = true) (hE : Env w0) (hx : Ext w0 w) (h0 : w0.heap.size ≤ B)
    (hB : WB B b bs w) (hBw : B ≤ w.heap.size) (hl : bs.length + (jtext (.arr l)).length ≤ 140737488355328) :
    Calls Tryz.prog 149 #[.pointer (some ⟨b, 0, none⟩), .agg cs.toArray] w fun e w' => e = .returned (.tuple #[]) ∧ (WB B b (bs ++ Lib.byteCells (jtext (.arr l))) w' ∧ Below B w w') := by
  obtain ⟨a, v, css, rfl, hcl, hr, hel⟩ := hrv
  obtain ⟨_, A, c, rfl, hmc, hcm, _, _⟩ := id hr
  rw [jok_arr] at hok
  rw [jvalid_arr] at hv
  rw [jtext_arr] at hl ⊢
  simp only [Bool.and_eq_true, List.all_eq_true] at hv
  have hl' : bs.length + (commas (l.map jtext)).length + 2 ≤ 140737488355328 := by
    simp only [List.length_cons, List.length_append, List.length_nil] at hl
    omega
  have HJ := Lib.hid (fun w' (hx' : Ext w0 w') hB' hBw' => join_arr n ih l A c css w0 w' B b bs (d + 1) hcl hr hel hok hv.2 hE hx' h0 hB' hBw' hl')
  have hbel : ∀ o, Below B w (w.alloc o) := fun o => Below.mono ((Ext.refl w).alloc o) hBw
  clear hok hv hel hl hl' ih
  unfold vcells
  go_enter Tryz.func149, Tryz.ntmps149
  go_wp2_with (go_at_call 172; refine (HJ.out _ (hx.alloc _) (builder_ext hB ((Ext.refl w).alloc _)) (Nat.le_trans hBw ((Ext.refl w).alloc _).size)).mono ?_; rintro e w2 ⟨rfl, hB2, hx2⟩)
  ((try simp only [Exit.inBlock, Exit.then]); refine bodyPost_end (results_none rfl _ _ _) rfl ?_)
  exact ⟨rfl, hB2, (hbel _).trans hx2⟩
theorem value_in : ∀ n, ValueSaid n
  | 0, _, _, _, _, _, _, _, _, h, _, _, _, _, _, _, _, _ => h.elim
  | n + 1, j, cs, w0, w, B, b, bs, d, h, hok, hv, hE, hx, h0, hB, hBw, hl => by
    cases j with
    | arr l => exact value_arr n (value_in n) l cs w0 w B b bs d h hok hv hE hx h0 hB hBw hl
    | null => exact value_leaf (n + 1) _ cs w0 w B b bs d h hok hv hE hx h0 hB hBw hl (by simp)
    | bool x => exact value_leaf (n + 1) _ cs w0 w B b bs d h hok hv hE hx h0 hB hBw hl (by simp)
    | int x => exact value_leaf (n + 1) _ cs w0 w B b bs d h hok hv hE hx h0 hB hBw hl (by simp)
    | str s => exact value_leaf (n + 1) _ cs w0 w B b bs d h hok hv hE hx h0 hB hBw hl (by simp)
end Go.Proofs.YtgecijhgonfldaaGreatDoor
namespace Go.Proofs.YtgecijhgonfldaaGreatDoor
open Go Go.RowKit
set_option linter.unusedVariables false
theorem info_val : (Tryz.prog.info? 146).map (fun i => (i.zero, i.size, i.bytes)) = some (some (.agg #[.int .i64 0, .bool false, .int .i64 0, .string ⟨#[]⟩, .slice none 0 0, .slice none 0 0, .int .i64 0]), 7, 96) := by kernel_rfl
set_option maxRecDepth 100000 in
theorem clone_val (v : Value) (n : Nat) (xs : List Value) (w : World) (h : RSl w 7 v n xs) (h1 : ∀ u ∈ xs, u.oneCell' = true) (hbig : n * 96 ≤ 140737488355328) :
    Calls Tryz.prog 146 #[v] w fun e w' => ∃ v', e = .returned v' ∧ w'.ownsRow w.heap.size 146 7 v' n xs ∧ Ext w w' := by
  obtain ⟨i0, hi, hz0, hz1, hz2⟩ := info_parts info_val
  obtain ⟨hl, A, c, rfl, hnc, hcm, hA, hcell⟩ := id h
  have HBIG : Hid ((0 + n) * 96 ≤ 140737488355328) := by rw [Nat.zero_add]; exact hbig
  have hnm : 0 + n ≤ maxLen := by rw [Nat.zero_add]; exact Nat.le_trans hnc hcm
  clear hbig
  have hq : ∀ (w : World) (a : Option Addr) (n c n' c' : Nat), (binOp .eql 143 (.slice a n c) (.slice none n' c')).run Tryz.prog w = .ok (.bool a.isNone) w := fun w a n c n' c' => Lib.run_eql_slice_nil w _ _ a n c n' c' Tryz.underlying143
  cases A with
  | none =>
    have hn : n = 0 := Nat.le_zero.1 (hA rfl ▸ hnc)
    subst hn
    have hx : xs = [] := List.eq_nil_of_length_eq_zero (by rw [hl])
    subst hx
    go_enter Tryz.func146, Tryz.ntmps146
    go_wp2
    go_ret
    exact ⟨_, rfl, World.ownsRow_nil _ _ _ _, Ext.refl _⟩
  | some ad =>
    go_enter Tryz.func146, Tryz.ntmps146
    go_wp2_with (at_builtin; refine wpList_append_rsl _ rfl (.tmp 5) (.tmp 6) _ rfl w.heap.size 146 i0 _ 7 96 Tryz.underlying143 hi hz0 hz1 hz2 rfl (by decide) _ _ [] rfl (own_new (cs := []) (Nat.le_refl _) rfl (by decide)) _ n xs rfl (h.ext ((Ext.refl w).alloc _)) h1 hnm HBIG.out ((Ext.refl w).alloc _).size ?_; intro v1 w2 hown2 hg2 hat2)
    go_ret
    rw [Nat.zero_add] at hown2
    exact ⟨v1, rfl, hown2, ((Ext.refl w).alloc _).app hg2 (own_new (cs := []) (size := 7) (n := 0) (Nat.le_refl _) rfl (by decide)) (Nat.le_refl _)⟩
theorem info_str : (Tryz.prog.info? 9).map (fun i => (i.zero, i.size, i.bytes)) = some (some (.string ⟨#[]⟩), 1, 16) := by kernel_rfl
set_option maxRecDepth 100000 in
theorem clone_str (v : Value) (n : Nat) (xs : List Value) (w : World) (h : RSl w 1 v n xs) (h1 : ∀ u ∈ xs, u.oneCell' = true) (hbig : n * 16 ≤ 140737488355328) :
    Calls Tryz.prog 50 #[v] w fun e w' => ∃ v', e = .returned v' ∧ w'.ownsRow w.heap.size 9 1 v' n xs ∧ Ext w w' := by
  obtain ⟨i0, hi, hz0, hz1, hz2⟩ := info_parts info_str
  obtain ⟨hl, A, c, rfl, hnc, hcm, hA, hcell⟩ := id h
  have HBIG : Hid ((0 + n) * 16 ≤ 140737488355328) := by rw [Nat.zero_add]; exact hbig
  have hnm : 0 + n ≤ maxLen := by rw [Nat.zero_add]; exact Nat.le_trans hnc hcm
  clear hbig
  have hq : ∀ (w : World) (a : Option Addr) (n c n' c' : Nat), (binOp .eql 32 (.slice a n c) (.slice none n' c')).run Tryz.prog w = .ok (.bool a.isNone) w := fun w a n c n' c' => Lib.run_eql_slice_nil w _ _ a n c n' c' Tryz.underlying32
  cases A with
  | none =>
    have hn : n = 0 := Nat.le_zero.1 (hA rfl ▸ hnc)
    subst hn
    have hx : xs = [] := List.eq_nil_of_length_eq_zero (by rw [hl])
    subst hx
    go_enter Tryz.func50, Tryz.ntmps50
    go_wp2
    go_ret
    exact ⟨_, rfl, World.ownsRow_nil _ _ _ _, Ext.refl _⟩
  | some ad =>
    go_enter Tryz.func50, Tryz.ntmps50
    go_wp2_with (at_builtin; refine wpList_append_rsl _ rfl (.tmp 5) (.tmp 6) _ rfl w.heap.size 9 i0 _ 1 16 Tryz.underlying32 hi hz0 hz1 hz2 rfl (by decide) _ _ [] rfl (own_new (cs := []) (Nat.le_refl _) rfl (by decide)) _ n xs rfl (h.ext ((Ext.refl w).alloc _)) h1 hnm HBIG.out ((Ext.refl w).alloc _).size ?_; intro v1 w2 hown2 hg2 hat2)
    go_ret
    rw [Nat.zero_add] at hown2
    exact ⟨v1, rfl, hown2, ((Ext.refl w).alloc _).app hg2 (own_new (cs := []) (size := 1) (n := 0) (Nat.le_refl _) rfl (by decide)) (Nat.le_refl _)⟩
theorem info_feed : (Tryz.prog.info? 35).map (fun i => (i.zero, i.size, i.bytes)) = some (some (.agg #[.slice none 0 0, .string ⟨#[]⟩, .string ⟨#[]⟩, .string ⟨#[]⟩, .int .i64 0, .slice none 0 0]), 6, 104) := by kernel_rfl
theorem info_entry : (Tryz.prog.info? 23).map (fun i => (i.zero, i.size, i.bytes)) = some (some (.agg #[.string ⟨#[]⟩, .string ⟨#[]⟩, .string ⟨#[]⟩, .string ⟨#[]⟩, .int .i64 0]), 5, 72) := by kernel_rfl
set_option maxRecDepth 100000 in
theorem clone_entry (v : Value) (n : Nat) (xs : List Value) (w : World) (h : RSl w 5 v n xs) (h1 : ∀ u ∈ xs, u.oneCell' = true) (hbig : n * 72 ≤ 140737488355328) :
    Calls Tryz.prog 58 #[v] w fun e w' => ∃ v', e = .returned v' ∧ w'.ownsRow w.heap.size 23 5 v' n xs ∧ Ext w w' := by
  obtain ⟨i0, hi, hz0, hz1, hz2⟩ := info_parts info_entry
  obtain ⟨hl, A, c, rfl, hnc, hcm, hA, hcell⟩ := id h
  have HBIG : Hid ((0 + n) * 72 ≤ 140737488355328) := by rw [Nat.zero_add]; exact hbig
  have hnm : 0 + n ≤ maxLen := by rw [Nat.zero_add]; exact Nat.le_trans hnc hcm
  clear hbig
  have hq : ∀ (w : World) (a : Option Addr) (n c n' c' : Nat), (binOp .eql 33 (.slice a n c) (.slice none n' c')).run Tryz.prog w = .ok (.bool a.isNone) w := fun w a n c n' c' => Lib.run_eql_slice_nil w _ _ a n c n' c' Tryz.underlying33
  cases A with
  | none =>
    have hn : n = 0 := Nat.le_zero.1 (hA rfl ▸ hnc)
    subst hn
    have hx : xs = [] := List.eq_nil_of_length_eq_zero (by rw [hl])
    subst hx
    go_enter Tryz.func58, Tryz.ntmps58
    go_wp2
    go_ret
    exact ⟨_, rfl, World.ownsRow_nil _ _ _ _, Ext.refl _⟩
  | some ad =>
    go_enter Tryz.func58, Tryz.ntmps58
    go_wp2_with (at_builtin; refine wpList_append_rsl _ rfl (.tmp 5) (.tmp 6) _ rfl w.heap.size 23 i0 _ 5 72 Tryz.underlying33 hi hz0 hz1 hz2 rfl (by decide) _ _ [] rfl (own_new (cs := []) (Nat.le_refl _) rfl (by decide)) _ n xs rfl (h.ext ((Ext.refl w).alloc _)) h1 hnm HBIG.out ((Ext.refl w).alloc _).size ?_; intro v1 w2 hown2 hg2 hat2)
    go_ret
    rw [Nat.zero_add] at hown2
    exact ⟨v1, rfl, hown2, ((Ext.refl w).alloc _).app hg2 (own_new (cs := []) (size := 5) (n := 0) (Nat.le_refl _) rfl (by decide)) (Nat.le_refl _)⟩
end Go.Proofs.YtgecijhgonfldaaGreatDoor
