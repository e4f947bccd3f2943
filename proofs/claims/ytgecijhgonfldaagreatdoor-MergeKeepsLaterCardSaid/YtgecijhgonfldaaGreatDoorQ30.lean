/- Parts of the proof: contracts and plain laws that the statement needs. -/
import Derived.Test.YtgecijhgonfldaaGreatDoorQ22
import Derived.Test.YtgecijhgonfldaaGreatDoorQ13
import Derived.Test.YtgecijhgonfldaaGreatDoorQ08
import Derived.Test.YtgecijhgonfldaaGreatDoorQ27
import Derived.Test.YtgecijhgonfldaaGreatDoorQ19
namespace Go.Proofs.YtgecijhgonfldaaGreatDoor
open Go Go.RowKit
set_option linter.unusedVariables false
theorem mInTime_any (t : Int) (w : World) :
    Calls Tryz.prog 157 #[.int .i64 t] w fun e w' => e = .returned (.bool (inT t)) ∧ w = w' := by
  unfold inT
  go_enter Tryz.func157, Tryz.ntmps157
  go_wp2
  all_goals go_ret
  all_goals exact ⟨by simp_all <;> omega, rfl⟩
theorem checked_any (b : Bool) (w : World) :
    Calls Tryz.prog 126 #[.bool b] w fun e w' => e = .returned (.int .i64 (if b = true then 0 else 22)) ∧ w = w' := by
  cases b with
  | true =>
    go_enter Tryz.func126, Tryz.ntmps126
    go_wp2
    go_ret
    exact ⟨rfl, rfl⟩
  | false =>
    go_enter Tryz.func126, Tryz.ntmps126
    go_wp2
    go_ret
    exact ⟨rfl, rfl⟩
theorem mEntID_any (e : Ent) (w : World) : Calls Tryz.prog 156 #[.agg (eCells e).toArray] w fun x w' => x = .returned (.string e.id) ∧ Ext w w' := by
  unfold eCells
  go_enter Tryz.func156, Tryz.ntmps156
  go_wp2
  go_ret
  exact ⟨rfl, (Ext.refl _).alloc _⟩
theorem mFdID_any (p es : Value) (f : Fd) (w : World) : Calls Tryz.prog 129 #[.agg (fCells p es f).toArray] w fun x w' => x = .returned (.string f.id) ∧ Ext w w' := by
  unfold fCells
  go_enter Tryz.func129, Tryz.ntmps129
  go_wp2
  go_ret
  exact ⟨rfl, (Ext.refl _).alloc _⟩
set_option maxRecDepth 100000 in
set_option maxHeartbeats 4000000 in
theorem mAll_any (v : Value) (l : List ByteArray) (w : World) (hE : Env w) (h : RStrs w v l) (hs : ∀ s ∈ l, s.size ≤ 16777216) (hn : l.length ≤ 16777216) :
    Calls Tryz.prog 155 #[v] w fun e w' => e = .returned (.bool (l.all validS)) ∧ Ext w w' := by
  obtain ⟨A, c, rfl, -, -⟩ := h.form
  obtain ⟨R, hR⟩ : ∃ R, l.all validS = R := ⟨_, rfl⟩
  rw [hR]
  have HR := Lib.hid hR
  have HS := Lib.hid hs
  have HH := Lib.hid h
  have HEW := Lib.hid hE
  clear hR hs h hE
  go_enter Tryz.func155, Tryz.ntmps155
  go_wp2
  go_loopw [7] (fun i wr => ∃ k : Nat, k ≤ l.length ∧ i = .int .i64 k ∧ Hid (∀ s ∈ l.take k, validS s = true) ∧ Ext w wr) (fun i _ => l.length - (intOf i).toNat)
  case atStart => exact ⟨0, Nat.zero_le _, rfl, Lib.hid (by simp), Ext.refl _⟩
  case round =>
    obtain ⟨k, hk, rfl, hinv, hxr⟩ := hrel
    by_cases hlt : k < l.length
    · obtain ⟨ad, c1, e1, hc⟩ := (RStrs.ext HH.out hxr).at hlt
      injection e1 with e1 e1' e1''
      subst e1
      clear e1' e1''
      have hmem : l[k] ∈ l := List.getElem_mem hlt
      have htk := List.take_succ_eq_append_getElem hlt
      have HV := Lib.hid (textValid_any l[k] wr (HEW.out.ext hxr) (by have := HS.out _ hmem; omega))
      have hbad : validS l[k] = false → R = false := fun h => by
        rw [← HR.out, Bool.eq_false_iff]
        intro h2
        have := List.all_eq_true.1 h2 _ hmem
        rw [h] at this
        cases this
      obtain ⟨p, hpp⟩ : ∃ p, l[k] = p := ⟨_, rfl⟩
      rw [hpp] at hc htk HV hbad
      have HTK := Lib.hid htk
      have hi0' : (0 : Int) ≤ (k : Int) := by omega
      have hi1 : (k : Int) < (l.length : Int) := by omega
      clear hpp hmem htk
      cases hv : validS p with
      | false =>
        have hRf := hbad hv
        subst hRf
        rw [hv] at HV
        clear hbad hv
        go_wp2_with (first | (go_at_call 176; (with_reducible refine Calls.mono (HV.out) ?_); rintro e w6 ⟨rfl, hx6⟩))
        go_ret
        exact ⟨rfl, hxr.trans hx6⟩
      | true =>
        have HPV := Lib.hid hv
        rw [hv] at HV
        clear hbad hv
        go_wp2_with (first | (go_at_call 176; (with_reducible refine Calls.mono (HV.out) ?_); rintro e w6 ⟨rfl, hx6⟩))
        go_roundw
        case rel => exact ⟨k + 1, hlt, by go_num, Lib.hid (fun s hs => by
          rw [HTK.out] at hs
          rcases List.mem_append.1 hs with hs | hs
          · exact hinv.out s hs
          · rw [List.mem_singleton.1 hs]; exact HPV.out), hxr.trans hx6⟩
        case measure => simp [intOf]; omega
    · have hke : k = l.length := by omega
      subst hke
      have hi := hinv.out
      rw [List.take_of_length_le (Nat.le_refl _)] at hi
      have hRt : R = true := by rw [← HR.out]; exact List.all_eq_true.2 hi
      subst hRt
      clear hi
      go_wp2
      go_ret
      exact ⟨rfl, hxr⟩
theorem noS_empty {s : ByteArray} (h : s = noS) : s.toList.isEmpty = true := by rw [h, ByteArray.toList_eq]; rfl
theorem strs_new (w : World) (l : List ByteArray) (hm : l.length ≤ maxLen) : RStrs (w.alloc (.cells (l.map Value.string).toArray 9)) (.slice (some ⟨w.heap.size, 0, none⟩) l.length l.length) l :=
  rsl_new (by rw [List.length_map, Nat.mul_one]) hm
set_option maxRecDepth 100000 in
set_option maxHeartbeats 4000000 in
theorem mCheckE_any (e : Ent) (w : World) (hE : Env w) (hs : eokS e) :
    Calls Tryz.prog 159 #[.agg (eCells e).toArray] w fun x w' => x = .returned (.int .i64 (if okE e = true then 0 else 22)) ∧ Ext w w' := by
  have hF : okE e = ((strsE e).all validS && !decide (e.id = noS) && inT e.upd) := rfl
  have HC0 := Lib.hid (fun w' => checked_any false w')
  have HT := Lib.hid (fun w' => mInTime_any e.upd w')
  have HA := Lib.hid (fun (w' : World) (h : Ext w w') => mAll_any _ (strsE e) (w'.alloc (.cells ((strsE e).map Value.string).toArray 9)) ((hE.ext h).alloc _) (strs_new w' (strsE e) (by show 4 ≤ maxLen; decide)) (fun s h => by
    obtain ⟨h1, h2, h3, h4⟩ := hs
    unfold strsE at h
    simp only [List.mem_cons, List.mem_nil_iff, or_false] at h
    rcases h with rfl | rfl | rfl | rfl <;> omega) (by show 4 ≤ 16777216; decide))
  by_cases h0 : e.id = noS
  · have hr : okE e = false := by rw [hF, h0]; simp
    rw [if_neg (by rw [hr]; simp)]
    have hem := noS_empty h0
    clear hF h0 hr HT HA
    unfold eCells
    go_enter Tryz.func159, Tryz.ntmps159
    go_wp2_with (first | (go_at_call 126; (with_reducible refine Calls.mono (HC0.out _) ?_); rintro e w6 ⟨rfl, rfl⟩))
    go_ret
    exact ⟨rfl, (Ext.refl _).alloc _⟩
  · have hem := ne_noS h0
    cases hti : inT e.upd with
    | false =>
      have hr : okE e = false := by rw [hF, hti, Bool.and_false]
      rw [if_neg (by rw [hr]; simp)]
      rw [hti] at HT
      clear hF h0 hr HA hti
      unfold eCells
      go_enter Tryz.func159, Tryz.ntmps159
      go_wp2_with (first
        | (go_at_call 157; (with_reducible refine Calls.mono (HT.out _) ?_); rintro e w5 ⟨rfl, rfl⟩)
        | (go_at_call 126; (with_reducible refine Calls.mono (HC0.out _) ?_); rintro e w6 ⟨rfl, rfl⟩))
      go_ret
      exact ⟨rfl, (Ext.refl _).alloc _⟩
    | true =>
      have hr : okE e = (strsE e).all validS := by rw [hF, hti, decide_eq_false h0]; simp
      rw [hr]
      rw [hti] at HT
      have HC := Lib.hid (fun w' => checked_any ((strsE e).all validS) w')
      obtain ⟨b, hb⟩ : ∃ b, (strsE e).all validS = b := ⟨_, rfl⟩
      simp only [hb] at HA HC ⊢
      unfold strsE at HA
      simp only [List.map_cons, List.map_nil, List.length_cons, List.length_nil] at HA
      clear hF h0 hr HC0 hti hb
      unfold eCells
      go_enter Tryz.func159, Tryz.ntmps159
      go_wp2_with (first
        | (go_at_call 157; (with_reducible refine Calls.mono (HT.out _) ?_); rintro e w5 ⟨rfl, rfl⟩)
        | (go_at_call 155; (have hz := HA.out _ ((Ext.refl w).alloc (.cells #[.string e.id, .string e.title, .string e.link, .string e.content, .int .i64 e.upd] 23))); (simp only [size_alloc] at hz); (with_reducible refine Calls.mono hz ?_); clear hz; rintro e7 w7 ⟨rfl, hx7⟩)
        | (go_at_call 126; (with_reducible refine Calls.mono (HC.out _) ?_); rintro e8 w8 ⟨rfl, rfl⟩))
      all_goals go_ret
      all_goals exact ⟨rfl, (((Ext.refl _).alloc _).alloc _).trans hx7⟩
end Go.Proofs.YtgecijhgonfldaaGreatDoor
namespace Go.Proofs.YtgecijhgonfldaaGreatDoor
open Go Go.RowKit Go.WideMaps Go.Maps
set_option linter.unusedVariables false
def SeenMap (D : DataW Unit) (p : ByteArray → Bool) : Prop :=
  IsMap D ∧ ∀ s : ByteArray, D.atKey (.string s.data.toList) (.lit (.bool false)) = .lit (.bool (p s))
theorem SeenMap.nil : SeenMap (.map []) (fun _ => false) := ⟨isMap_empty, fun _ => rfl⟩
theorem SeenMap.put {D : DataW Unit} {p q : ByteArray → Bool} {s : ByteArray} (h : SeenMap D p) (hq : ∀ t, q t = (p t || decide (s = t))) : SeenMap (D.put (.string s.data.toList) (.lit (.bool true))) q := by
  refine ⟨h.1.put _ _, fun t => ?_⟩
  rw [hq]
  by_cases e : s = t
  · subst e
    rw [atKey_put_same h.1 (keyLit_str _)]
    simp
  · have hne : (Lit.string t.data.toList) ≠ .string s.data.toList := by
      intro h'
      injection h' with h'
      exact e (data_inj h').symm
    rw [atKey_put_other hne, h.2 t]
    simp [e]
theorem plainElem_bool_inv {P : Program} {e : TypeId} (he : P.underlying e = some .bool) {v : Value} {z : DataW Unit × List MemPlace} (h : plainElem P e v = some z) : ∃ b : Bool, v = .bool b ∧ z = (.lit (.bool b), []) := by
  unfold plainElem at h
  rw [he] at h
  cases v <;> simp at h
  exact ⟨_, rfl, h.symm⟩
theorem zeroBool (w : World) : (zeroValue 4).run Tryz.prog w = .ok (.bool false) w := by kernel_rfl
theorem seen_look {w : World} {b n : Nat} {D : DataW Unit} {p : ByteArray → Bool} {s : ByteArray} (hM : w.ownsMap Tryz.prog 9 (plainElem Tryz.prog 4) b n D) (h : SeenMap D p) (hs : s.size ≤ maxLen) :
    (Instr.lookup 192 (.map (some b)) (.string s) false).run Tryz.prog w = .ok (.bool (p s)) w := by
  obtain ⟨v, ps, hrun, hv⟩ := hM.lookup keyLaw Tryz.underlying192 (zeroBool w) (plainElem_bool Tryz.underlying4 false) (keyOf_string_mk Tryz.underlying9 hs)
  obtain ⟨c, rfl, hc⟩ := plainElem_bool_inv Tryz.underlying4 hv
  rw [h.2 s] at hc
  simp only [Prod.mk.injEq, DataW.lit.injEq, Lit.bool.injEq] at hc
  rw [hrun, hc.1]
theorem okL_falseG {α κ : Type} [DecidableEq κ] {ok : α → Bool} {O : Ord α κ} {l : List α} {k : Nat} (hk : k < l.length) (h : okAt ok O l k = false) : okL ok O l = false := by
  rw [Bool.eq_false_iff]
  intro h'
  have := List.all_eq_true.1 h' k (List.mem_range.2 hk)
  rw [h] at this
  cases this
theorem okL_trueG {α κ : Type} [DecidableEq κ] {ok : α → Bool} {O : Ord α κ} {l : List α} (h : ∀ k, k < l.length → okAt ok O l k = true) : okL ok O l = true :=
  List.all_eq_true.2 fun k hk => h k (List.mem_range.1 hk)
theorem any_take_false {α : Type} {l : List α} {k : Nat} {id : α → ByteArray} {s : ByteArray} (h : (l.take k).any (fun x => decide (id x = s)) = false) : ∀ j (hj : j < l.length), j < k → id l[j] ≠ s := fun j hj hk e => by
  rw [List.any_eq_false] at h
  exact h l[j] (List.mem_take_iff_getElem.2 ⟨j, by omega, rfl⟩) (by simpa using e)
theorem any_take_true {α : Type} {l : List α} {k : Nat} {id : α → ByteArray} {s : ByteArray} (h : (l.take k).any (fun x => decide (id x = s)) = true) : ∃ j, ∃ hj : j < l.length, j < k ∧ id l[j] = s := by
  rw [List.any_eq_true] at h
  obtain ⟨x, hx, he⟩ := h
  obtain ⟨j, hj, rfl⟩ := List.mem_take_iff_getElem.1 hx
  exact ⟨j, by omega, by omega, by simpa using he⟩
set_option maxRecDepth 100000 in
set_option maxHeartbeats 8000000 in
theorem orderedE_any (v : Value) (l : List Ent) (w : World) (hE : Env w) (h : REnts w v l) (hs : ∀ x ∈ l, eokS x) (hn : l.length ≤ 1000000) :
    Calls Tryz.prog 158 #[v, .func (.func 159) #[] #[], .func (.func 82) #[] #[], .func (.func 156) #[] #[]] w fun e w' => e = .returned (.bool (okL okE ordE l)) ∧ Ext w w' := by
  obtain ⟨A, c, rfl, -, -⟩ := h.form
  have hmm := @run_makeMap Tryz.prog
  obtain ⟨R, hR⟩ : ∃ R, okL okE ordE l = R := ⟨_, rfl⟩
  rw [hR]
  have HR := Lib.hid hR
  have HS := Lib.hid hs
  have HH := Lib.hid h
  have HEW := Lib.hid hE
  clear hR hs h hE
  go_enter Tryz.func158, Tryz.ntmps158
  go_wp2
  go_loopw [15] (fun i wr => ∃ (k : Nat) (D : DataW Unit), k ≤ l.length ∧ i = .int .i64 k ∧ wr.ownsMap Tryz.prog 9 (plainElem Tryz.prog 4) w.heap.size k D ∧ Hid (SeenMap D (fun s => (l.take k).any (fun e => decide (e.id = s)))) ∧ Hid (∀ j, j < k → okAt okE ordE l j = true) ∧ Ext w wr) (fun i _ => l.length - (intOf i).toNat)
  case atStart => exact ⟨0, .map [], Nat.zero_le _, rfl, World.ownsMap_made _ _ _ _, Lib.hid SeenMap.nil, Lib.hid (fun j h => by omega), (Ext.refl _).alloc _⟩
  case round =>
    obtain ⟨k, D, hk, rfl, hM, hD, hinv, hxr⟩ := hrel
    by_cases hlt : k < l.length
    · obtain ⟨ad, c1, e1, hat⟩ := (REnts.ext HH.out hxr).at hlt
      injection e1 with e1 e1' e1''
      subst e1
      clear e1' e1''
      have hmem : l[k] ∈ l := List.getElem_mem hlt
      have hEk := HS.out _ hmem
      have htk := List.take_succ_eq_append_getElem hlt
      have hIFF := okAt_iff (ok := okE) (O := ordE) hlt
      have hb : ∃ b, (l.take k).any (fun e => decide (e.id = l[k].id)) = b := ⟨_, rfl⟩
      obtain ⟨b, hb⟩ := hb
      have hbf : b = false → ∀ j (hj : j < k), ordE.id l[j] ≠ ordE.id l[k] := fun e j hj => any_take_false (id := Ent.id) (hb.trans e) j (by omega) hj
      have hbt : b = true → okAt okE ordE l k = false := fun e => by
        rw [Bool.eq_false_iff]
        intro h
        obtain ⟨j, hj, hjk, he⟩ := any_take_true (id := Ent.id) (hb.trans e)
        exact (hIFF.1 h).2.2 j hjk he
      have HBAD : Hid (okAt okE ordE l k = false → R = false) := Lib.hid fun h => by rw [← HR.out]; exact okL_falseG hlt h
      have HPUT : Hid (SeenMap (D.put (.string l[k].id.data.toList) (.lit (.bool true))) (fun s => (l.take (k + 1)).any (fun e => decide (e.id = s)))) := Lib.hid (hD.out.put fun t => by rw [htk, List.any_append]; simp)
      obtain ⟨E, hEE⟩ : ∃ E, l[k] = E := ⟨_, rfl⟩
      rw [hEE] at hat hEk hb HPUT hIFF hbf
      have HIFF := Lib.hid hIFF
      have HBF := Lib.hid hbf
      have HBT := Lib.hid hbt
      have hkey : keyOf Tryz.prog 9 (.string E.id) = some (.string E.id.data.toList) := keyOf_string_mk Tryz.underlying9 (by have := hEk.1; unfold maxLen; omega)
      have hmx : E.id.size ≤ maxLen := by have := hEk.1; unfold maxLen; omega
      have HKEY := Lib.hid hkey
      have HM := Lib.hid hM
      have HLT := Lib.hid hlt
      clear hIFF hbf hbt htk hmem hkey
      obtain ⟨W1, hW1⟩ : ∃ W1, wr.alloc (.cells (eCells E).toArray 23) = W1 := ⟨_, rfl⟩
      have hx1 : Ext wr W1 := by rw [← hW1]; exact (Ext.refl _).alloc _
      have hLK := fun z : Aft W1 => seen_look (hM.kept ((hx1.trans z.ext).grown none) (by simp)) hD.out hmx
      simp only [hb] at hLK
      have HCE := Lib.hid (fun z : Aft W1 => mCheckE_any E z.w (HEW.out.ext (hxr.trans (hx1.trans z.ext))) hEk)
      have HID := Lib.hid (fun z : World => mEntID_any E z)
      have hbk : W1.heap[wr.heap.size]? = some (.cells (eCells E).toArray 23) := by rw [← hW1]; exact heap_alloc_new _ _
      have HX1 := Lib.hid hx1
      have hi0' : (0 : Int) ≤ (k : Int) := by omega
      have hi1 : (k : Int) < (l.length : Int) := by omega
      have HKL : Hid (k < maxLen) := Lib.hid (by unfold maxLen; omega)
      clear hx1 hM hb
      obtain ⟨id, title, link, content, upd⟩ := E
      unfold eCells at hW1 hbk HCE HID
      dsimp only at hW1 hbk HCE HID hat hLK HPUT HKEY
      obtain ⟨b0, b1, b2, b3, b4⟩ := blk5 hbk
      obtain ⟨a0, a1, a2, a3, a4⟩ := hat
      have B0 := fun z : Aft W1 => Aft.cell b0 z
      have B1 := fun z : Aft W1 => Aft.cell b1 z
      have B2 := fun z : Aft W1 => Aft.cell b2 z
      have B3 := fun z : Aft W1 => Aft.cell b3 z
      have B4 := fun z : Aft W1 => Aft.cell b4 z
      clear b0 b1 b2 b3 b4 hbk
      dsimp only at a0 a1 a2 a3 a4
      cases hok : okE ⟨id, title, link, content, upd⟩ with
      | false =>
        have hR := HBAD.out (by
          rw [Bool.eq_false_iff]
          intro h
          have h1 := (HIFF.out.1 h).1
          rw [hok] at h1
          cases h1)
        subst hR
        rw [hok] at HCE
        clear hok
        simp only [Bool.false_eq_true, if_false] at HCE
        go_wp2
        refine wp_region_aft (by kernel_rfl) (by kernel_rfl) ?_
        repeat (first | go_big_quiet_step ((first
        | (go_at_call 159; with_reducible exact quiet_call (HCE.out _))
        | (go_at_call 156; with_reducible exact quiet_call (HID.out _)))) | quiet_step ((first
        | (go_at_call 159; with_reducible exact quiet_call (HCE.out _))
        | (go_at_call 156; with_reducible exact quiet_call (HID.out _)))))
        refine wpQuiet_nil ?_
        rintro _ ⟨d1, rfl⟩
        go_wp2
        go_ret
        exact ⟨rfl, hxr.trans (HX1.out.trans d1.ext)⟩
      | true =>
        have HOK := Lib.hid hok
        rw [hok] at HCE
        clear hok
        simp only [if_true] at HCE
        rcases Nat.eq_zero_or_pos k with h0 | hpos
        · cases b with
          | true =>
            have hR := HBAD.out (HBT.out rfl)
            subst hR
            subst h0
            simp only [Nat.zero_mul, add_zero] at a0 a1 a2 a3 a4
            go_wp2
            refine wp_region_aft (by kernel_rfl) (by kernel_rfl) ?_
            repeat (first | go_big_quiet_step ((first
        | (go_at_call 159; with_reducible exact quiet_call (HCE.out _))
        | (go_at_call 156; with_reducible exact quiet_call (HID.out _)))) | quiet_step ((first
        | (go_at_call 159; with_reducible exact quiet_call (HCE.out _))
        | (go_at_call 156; with_reducible exact quiet_call (HID.out _)))))
            refine wpQuiet_nil ?_
            rintro _ ⟨d1, rfl⟩
            go_wp2
            go_ret
            exact ⟨rfl, hxr.trans (HX1.out.trans d1.ext)⟩
          | false =>
            have HGOOD := Lib.hid (HIFF.out.2 ⟨HOK.out, fun h => absurd h (by omega), HBF.out rfl⟩)
            subst h0
            simp only [Nat.zero_mul, add_zero] at a0 a1 a2 a3 a4
            go_wp2
            refine wp_region_aft (by kernel_rfl) (by kernel_rfl) ?_
            repeat (first | go_big_quiet_step ((first
        | (go_at_call 159; with_reducible exact quiet_call (HCE.out _))
        | (go_at_call 156; with_reducible exact quiet_call (HID.out _)))) | quiet_step ((first
        | (go_at_call 159; with_reducible exact quiet_call (HCE.out _))
        | (go_at_call 156; with_reducible exact quiet_call (HID.out _)))))
            refine wpQuiet_nil ?_
            rintro _ ⟨d1, rfl⟩
            have HM1 := Lib.hid (HM.out.kept ((HX1.out.trans d1.ext).grown none) (by simp))
            have HXD := Lib.hid (hxr.trans (HX1.out.trans d1.ext))
            have D0 := B0 d1
            have D1 := B1 d1
            have D2 := B2 d1
            have D3 := B3 d1
            have D4 := B4 d1
            clear B0 B1 B2 B3 B4 hLK
            go_wp2_with (first
              | (go_at_call 156; (with_reducible refine Calls.mono (HID.out _) ?_); rintro e w2 ⟨rfl, hx2⟩)
              | (at_mapUpdate; (refine wpList_mapUpdate_own _ rfl (.tmp 46) (.tmp 49) (.const (.bool true)) 192 rfl 9 4 keyLaw Tryz.underlying192 _ w.heap.size 0 D rfl (HM1.out.kept (hx2.grown none) (by simp)) HKL.out _ _ _ rfl rfl HKEY.out _ [] (plainElem_bool Tryz.underlying4 true) ?_); intro w5 hM5 hg5))
            have hxm : Ext w w5 := Ext.grown' (B := 0) (HXD.out.trans hx2) hg5 (fun b hb => by cases hb; exact Nat.le_refl _)
            have HM5 := Lib.hid hM5
            clear hM5 hg5
            go_roundw
            case rel => exact ⟨0 + 1, _, HLT.out, by go_num, HM5.out, HPUT, Lib.hid (fun t ht => by
              by_cases e : t = 0
              · rw [e]; exact HGOOD.out
              · exact hinv.out t (by omega)), hxm⟩
            case measure => simp [intOf]; have := HLT.out; omega
        · obtain ⟨q, hq⟩ : ∃ q, k = q + 1 := ⟨k - 1, by omega⟩
          have hql : q < l.length := by have := HLT.out; omega
          obtain ⟨af, c3, e3, haq⟩ := (REnts.ext HH.out (hxr.trans HX1.out)).at hql
          injection e3 with e3 e3' e3''
          injection e3 with e3
          subst e3
          clear e3' e3''
          have hPE : l[k - 1]'(Nat.lt_of_le_of_lt (Nat.sub_le _ _) HLT.out) = l[q] := by subst hq; rfl
          obtain ⟨F, haq, hPE⟩ : ∃ F : Ent, AtEnt W1 (ad.add (q * 5)) F ∧ l[k - 1]'(Nat.lt_of_le_of_lt (Nat.sub_le _ _) HLT.out) = F := ⟨_, haq, hPE⟩
          have HPE := Lib.hid hPE
          have hlt2 : ordE.lt F ⟨id, title, link, content, upd⟩ = decide (entCmp F ⟨id, title, link, content, upd⟩ < 0) := rfl
          have HCM := Lib.hid (fun z : Aft W1 => compareEntries_any F ⟨id, title, link, content, upd⟩ z.w)
          obtain ⟨cc, hc⟩ : ∃ cc, entCmp F ⟨id, title, link, content, upd⟩ = cc := ⟨_, rfl⟩
          rw [hc] at hlt2
          simp only [hc] at HCM
          clear hPE hc
          obtain ⟨fid, ftitle, flink, fcontent, fupd⟩ := F
          obtain ⟨k0, k1, k2, k3, k4⟩ := haq
          dsimp only at k0 k1 k2 k3 k4
          have C0 := fun z : Aft W1 => Aft.cell k0 z
          have C1 := fun z : Aft W1 => Aft.cell k1 z
          have C2 := fun z : Aft W1 => Aft.cell k2 z
          have C3 := fun z : Aft W1 => Aft.cell k3 z
          have C4 := fun z : Aft W1 => Aft.cell k4 z
          clear k0 k1 k2 k3 k4
          have hk0 : (0 : Int) < (k : Int) := by omega
          have hks : wrap64 ((k : Int) - 1) = (q : Int) := by rw [wrap_ok _ ⟨by omega, by omega⟩]; omega
          have hkq : (k : Int) - 1 = (q : Int) := by omega
          have hq0 : (0 : Int) ≤ (q : Int) := by omega
          have hq1 : (q : Int) < (l.length : Int) := by omega
          unfold eCells at HCM
          dsimp only at HCM
          by_cases hneg : cc < 0
          · have HPREV : Hid (∀ h : 0 < k, ordE.lt (l[k - 1]'(Nat.lt_of_le_of_lt (Nat.sub_le _ _) HLT.out)) ⟨id, title, link, content, upd⟩ = true) := Lib.hid (fun h => by rw [HPE.out, hlt2]; exact decide_eq_true hneg)
            have hge : ¬ (0 : Int) ≤ cc := by omega
            cases b with
            | true =>
              have hR := HBAD.out (HBT.out rfl)
              subst hR
              clear hlt2 hq HPE
              go_wp2
              refine wp_region_aft (by kernel_rfl) (by kernel_rfl) ?_
              repeat (first | go_big_quiet_step ((first
        | (go_at_call 159; with_reducible exact quiet_call (HCE.out _))
        | (go_at_call 82; with_reducible exact quiet_call (HCM.out _))
        | (go_at_call 156; with_reducible exact quiet_call (HID.out _)))) | quiet_step ((first
        | (go_at_call 159; with_reducible exact quiet_call (HCE.out _))
        | (go_at_call 82; with_reducible exact quiet_call (HCM.out _))
        | (go_at_call 156; with_reducible exact quiet_call (HID.out _)))))
              refine wpQuiet_nil ?_
              rintro _ ⟨d1, rfl⟩
              go_wp2
              go_ret
              exact ⟨rfl, hxr.trans (HX1.out.trans d1.ext)⟩
            | false =>
              have HGOOD := Lib.hid (HIFF.out.2 ⟨HOK.out, HPREV.out, HBF.out rfl⟩)
              clear hlt2 hq HPE HPREV
              go_wp2
              refine wp_region_aft (by kernel_rfl) (by kernel_rfl) ?_
              repeat (first | go_big_quiet_step ((first
        | (go_at_call 159; with_reducible exact quiet_call (HCE.out _))
        | (go_at_call 82; with_reducible exact quiet_call (HCM.out _))
        | (go_at_call 156; with_reducible exact quiet_call (HID.out _)))) | quiet_step ((first
        | (go_at_call 159; with_reducible exact quiet_call (HCE.out _))
        | (go_at_call 82; with_reducible exact quiet_call (HCM.out _))
        | (go_at_call 156; with_reducible exact quiet_call (HID.out _)))))
              refine wpQuiet_nil ?_
              rintro _ ⟨d1, rfl⟩
              have HM1 := Lib.hid (HM.out.kept ((HX1.out.trans d1.ext).grown none) (by simp))
              have HXD := Lib.hid (hxr.trans (HX1.out.trans d1.ext))
              have D0 := B0 d1
              have D1 := B1 d1
              have D2 := B2 d1
              have D3 := B3 d1
              have D4 := B4 d1
              clear B0 B1 B2 B3 B4 hLK
              go_wp2_with (first
                | (go_at_call 156; (with_reducible refine Calls.mono (HID.out _) ?_); rintro e w2 ⟨rfl, hx2⟩)
                | (at_mapUpdate; (refine wpList_mapUpdate_own _ rfl (.tmp 46) (.tmp 49) (.const (.bool true)) 192 rfl 9 4 keyLaw Tryz.underlying192 _ w.heap.size k D rfl (HM1.out.kept (hx2.grown none) (by simp)) HKL.out _ _ _ rfl rfl HKEY.out _ [] (plainElem_bool Tryz.underlying4 true) ?_); intro w5 hM5 hg5))
              have hxm : Ext w w5 := Ext.grown' (B := 0) (HXD.out.trans hx2) hg5 (fun b hb => by cases hb; exact Nat.le_refl _)
              have HM5 := Lib.hid hM5
              clear hM5 hg5
              go_roundw
              case rel => exact ⟨k + 1, _, HLT.out, by go_num, HM5.out, HPUT, Lib.hid (fun t ht => by
                by_cases e : t = k
                · rw [e]; exact HGOOD.out
                · exact hinv.out t (by omega)), hxm⟩
              case measure => simp [intOf]; have := HLT.out; omega
          · have hR := HBAD.out (by
              rw [Bool.eq_false_iff]
              intro h
              have h1 := (HIFF.out.1 h).2.1 hpos
              rw [HPE.out, hlt2] at h1
              exact hneg (of_decide_eq_true h1))
            subst hR
            have hge : (0 : Int) ≤ cc := by omega
            clear hlt2 hq HPE
            go_wp2
            refine wp_region_aft (by kernel_rfl) (by kernel_rfl) ?_
            repeat (first | go_big_quiet_step ((first
        | (go_at_call 159; with_reducible exact quiet_call (HCE.out _))
        | (go_at_call 82; with_reducible exact quiet_call (HCM.out _))
        | (go_at_call 156; with_reducible exact quiet_call (HID.out _)))) | quiet_step ((first
        | (go_at_call 159; with_reducible exact quiet_call (HCE.out _))
        | (go_at_call 82; with_reducible exact quiet_call (HCM.out _))
        | (go_at_call 156; with_reducible exact quiet_call (HID.out _)))))
            refine wpQuiet_nil ?_
            rintro _ ⟨d1, rfl⟩
            go_wp2
            go_ret
            exact ⟨rfl, hxr.trans (HX1.out.trans d1.ext)⟩
    · have hke : k = l.length := by omega
      subst hke
      have hRt : R = true := by rw [← HR.out]; exact okL_trueG hinv.out
      subst hRt
      go_wp2
      go_ret
      exact ⟨rfl, hxr⟩
end Go.Proofs.YtgecijhgonfldaaGreatDoor
namespace Go.Proofs.YtgecijhgonfldaaGreatDoor
open Go Go.RowKit
set_option linter.unusedVariables false
set_option maxRecDepth 100000 in
set_option maxHeartbeats 4000000 in
theorem indexS_any (v : Value) (x : ByteArray) (l : List ByteArray) (w : World) (h : RStrs w v l) (hn : l.length ≤ 16777216) :
    Calls Tryz.prog 77 #[v, .string x] w fun e w' => (∃ i : Int, e = .returned (.int .i64 i) ∧ (((l.any fun s => decide (s = x)) = true ∧ 0 ≤ i) ∨ ((l.any fun s => decide (s = x)) = false ∧ i < 0))) ∧ w = w' := by
  obtain ⟨A, c, rfl, -, -⟩ := h.form
  obtain ⟨R, hR⟩ : ∃ R, (l.any fun s => decide (s = x)) = R := ⟨_, rfl⟩
  rw [hR]
  have HR := Lib.hid hR
  have HH := Lib.hid h
  clear hR h
  go_enter Tryz.func77, Tryz.ntmps77
  go_wp2
  go_loopw [8] (fun i wr => ∃ k : Nat, k ≤ l.length ∧ i = .int .i64 k ∧ Hid (∀ s ∈ l.take k, s ≠ x) ∧ w = wr) (fun i _ => l.length - (intOf i).toNat)
  case atStart => exact ⟨0, Nat.zero_le _, rfl, Lib.hid (by simp), rfl⟩
  case round =>
    obtain ⟨k, hk, rfl, hinv, rfl⟩ := hrel
    by_cases hlt : k < l.length
    · obtain ⟨ad, c1, e1, hc⟩ := (HH.out).at hlt
      injection e1 with e1 e1' e1''
      subst e1
      clear e1' e1''
      have hmem : l[k] ∈ l := List.getElem_mem hlt
      have htk := List.take_succ_eq_append_getElem hlt
      have hgood : l[k] = x → R = true := fun h => by
        rw [← HR.out, List.any_eq_true]
        exact ⟨_, hmem, by simpa using h⟩
      obtain ⟨p, hpp⟩ : ∃ p, l[k] = p := ⟨_, rfl⟩
      rw [hpp] at hc htk hgood
      have HTK := Lib.hid htk
      have hi0' : (0 : Int) ≤ (k : Int) := by omega
      have hi1 : (k : Int) < (l.length : Int) := by omega
      clear hpp hmem htk
      cases hyz : (x.toList == p.toList) with
      | true =>
        have hRt := hgood (toList_inj (by simpa using hyz)).symm
        subst hRt
        clear hgood
        go_wp2
        go_ret
        exact ⟨⟨_, rfl, hi0'⟩, rfl⟩
      | false =>
        have HNE := Lib.hid (show p ≠ x from fun e => by rw [e] at hyz; simp at hyz)
        clear hgood
        go_wp2
        go_roundw
        case rel => exact ⟨k + 1, hlt, by go_num, Lib.hid (fun s hs => by
          rw [HTK.out] at hs
          rcases List.mem_append.1 hs with hs | hs
          · exact hinv.out s hs
          · rw [List.mem_singleton.1 hs]; exact HNE.out), (by first | trivial | rfl)⟩
        case measure => simp [intOf]; omega
    · have hke : k = l.length := by omega
      subst hke
      have hi := hinv.out
      rw [List.take_of_length_le (Nat.le_refl _)] at hi
      have hRf : R = false := by
        rw [← HR.out, List.any_eq_false]
        intro s hs
        simpa using hi s hs
      subst hRf
      clear hi
      go_wp2
      go_ret
      exact ⟨⟨_, rfl, by omega⟩, rfl⟩
theorem containsS_any (v : Value) (x : ByteArray) (l : List ByteArray) (w : World) (h : RStrs w v l) (hn : l.length ≤ 16777216) :
    Calls Tryz.prog 51 #[v, .string x] w fun e w' => e = .returned (.bool (l.any fun s => decide (s = x))) ∧ w = w' := by
  have HI := Lib.hid (indexS_any v x l w h hn)
  obtain ⟨A, c, rfl, -, -⟩ := h.form
  obtain ⟨R, hR⟩ : ∃ R, (l.any fun s => decide (s = x)) = R := ⟨_, rfl⟩
  simp only [hR] at HI ⊢
  clear h hR
  go_enter Tryz.func51, Tryz.ntmps51
  go_wp2_with (first | (go_at_call 77; (with_reducible refine Calls.mono (HI.out) ?_); rintro e w6 ⟨⟨i, rfl, hi⟩, rfl⟩))
  go_ret
  rcases hi with ⟨rfl, h⟩ | ⟨rfl, h⟩
  · exact ⟨by simp [h], rfl⟩
  · exact ⟨by simp; omega, rfl⟩
set_option maxRecDepth 100000 in
set_option maxHeartbeats 2000000 in
theorem mCheckF_0 (x : Fc) (w : World) (hE : Env w) (hr : RdC w x) (hk : fokS x.f) (h0 : ¬ x.f.path.length ≤ 64) :
    Calls Tryz.prog 128 #[.agg (cellsC x).toArray] w fun e w' => e = .returned (.int .i64 22) ∧ Ext w w' := by
  obtain ⟨⟨z0, z1⟩, z2, z3⟩ := hk
  have HC := Lib.hid (fun w' => checked_any (false) w')
  obtain ⟨xp, xes, ⟨xpath, xid, xtitle, xlink, xupd, xents⟩⟩ := x
  obtain ⟨hx0, hx1⟩ := hr
  dsimp only at *
  obtain ⟨xA, xc, rfl, -, -⟩ := hx0.form
  obtain ⟨xB, xd, rfl, -, -⟩ := hx1.form
  have hb : ¬ (xpath.length : Int) ≤ 64 := by omega
  clear hx0 hx1 z0 z1 z2 z3 hE h0
  unfold cellsC fCells
  dsimp only
  go_enter Tryz.func128, Tryz.ntmps128
  go_wp2_with (first
        | (go_at_call 126; (with_reducible refine Calls.mono (HC.out _) ?_); rintro e9 w9 ⟨rfl, rfl⟩))
  all_goals go_ret
  all_goals exact ⟨rfl, (Ext.refl _).alloc _⟩
set_option maxRecDepth 100000 in
set_option maxHeartbeats 2000000 in
theorem mCheckF_1 (x : Fc) (w : World) (hE : Env w) (hr : RdC w x) (hk : fokS x.f) (h0 : x.f.path.length ≤ 64) (c0 : (x.f.path.any fun s => decide (s = ⟨#[]⟩)) = true) :
    Calls Tryz.prog 128 #[.agg (cellsC x).toArray] w fun e w' => e = .returned (.int .i64 22) ∧ Ext w w' := by
  obtain ⟨⟨z0, z1⟩, z2, z3⟩ := hk
  have HCT := Lib.hid (fun (w' : World) (h : Ext w w') => containsS_any x.p ⟨#[]⟩ x.f.path w' (hr.1.ext h) (by omega))
  rw [c0] at HCT
  have HC := Lib.hid (fun w' => checked_any (false) w')
  obtain ⟨xp, xes, ⟨xpath, xid, xtitle, xlink, xupd, xents⟩⟩ := x
  obtain ⟨hx0, hx1⟩ := hr
  dsimp only at *
  obtain ⟨xA, xc, rfl, -, -⟩ := hx0.form
  obtain ⟨xB, xd, rfl, -, -⟩ := hx1.form
  have hb : (xpath.length : Int) ≤ 64 := by omega
  clear hx0 hx1 z0 z1 z2 z3 hE h0 c0
  unfold cellsC fCells
  dsimp only
  go_enter Tryz.func128, Tryz.ntmps128
  go_wp2_with (first
        | (go_at_call 51; (with_reducible refine Calls.mono (HCT.out _ ((Ext.refl w).alloc _)) ?_); rintro e3 w3 ⟨rfl, rfl⟩)
        | (go_at_call 126; (with_reducible refine Calls.mono (HC.out _) ?_); rintro e9 w9 ⟨rfl, rfl⟩))
  all_goals go_ret
  all_goals exact ⟨rfl, (Ext.refl _).alloc _⟩
set_option maxRecDepth 100000 in
set_option maxHeartbeats 2000000 in
theorem mCheckF_2 (x : Fc) (w : World) (hE : Env w) (hr : RdC w x) (hk : fokS x.f) (h0 : x.f.path.length ≤ 64) (c0 : (x.f.path.any fun s => decide (s = ⟨#[]⟩)) = false) (v0 : x.f.path.all validS = false) :
    Calls Tryz.prog 128 #[.agg (cellsC x).toArray] w fun e w' => e = .returned (.int .i64 22) ∧ Ext w w' := by
  obtain ⟨⟨z0, z1⟩, z2, z3⟩ := hk
  have HCT := Lib.hid (fun (w' : World) (h : Ext w w') => containsS_any x.p ⟨#[]⟩ x.f.path w' (hr.1.ext h) (by omega))
  rw [c0] at HCT
  have HPA := Lib.hid (fun (w' : World) (h : Ext w w') => mAll_any x.p x.f.path w' (hE.ext h) (hr.1.ext h) (fun s hs => by have := size_le_sizes hs; omega) (by omega))
  rw [v0] at HPA
  have HC := Lib.hid (fun w' => checked_any (false) w')
  obtain ⟨xp, xes, ⟨xpath, xid, xtitle, xlink, xupd, xents⟩⟩ := x
  obtain ⟨hx0, hx1⟩ := hr
  dsimp only at *
  obtain ⟨xA, xc, rfl, -, -⟩ := hx0.form
  obtain ⟨xB, xd, rfl, -, -⟩ := hx1.form
  have hb : (xpath.length : Int) ≤ 64 := by omega
  clear hx0 hx1 z0 z1 z2 z3 hE h0 c0 v0
  unfold cellsC fCells
  dsimp only
  go_enter Tryz.func128, Tryz.ntmps128
  go_wp2_with (first
        | (go_at_call 51; (with_reducible refine Calls.mono (HCT.out _ ((Ext.refl w).alloc _)) ?_); rintro e3 w3 ⟨rfl, rfl⟩)
        | (go_at_call 155; (with_reducible refine Calls.mono (HPA.out _ ((Ext.refl w).alloc _)) ?_); rintro e4 w4 ⟨rfl, hx4⟩; (have k1 := hx4.boxed 1 _ rfl); (have k2 := hx4.boxed 2 _ rfl); (have k3 := hx4.boxed 3 _ rfl); (have k4 := hx4.boxed 4 _ rfl))
        | (go_at_call 126; (with_reducible refine Calls.mono (HC.out _) ?_); rintro e9 w9 ⟨rfl, rfl⟩))
  all_goals go_ret
  all_goals exact ⟨rfl, ((Ext.refl _).alloc _).trans hx4⟩
set_option maxRecDepth 100000 in
set_option maxHeartbeats 2000000 in
theorem mCheckF_3 (x : Fc) (w : World) (hE : Env w) (hr : RdC w x) (hk : fokS x.f) (h0 : x.f.path.length ≤ 64) (c0 : (x.f.path.any fun s => decide (s = ⟨#[]⟩)) = false) (v0 : x.f.path.all validS = true) (i0 : x.f.id.toList.isEmpty = true) :
    Calls Tryz.prog 128 #[.agg (cellsC x).toArray] w fun e w' => e = .returned (.int .i64 22) ∧ Ext w w' := by
  obtain ⟨⟨z0, z1⟩, z2, z3⟩ := hk
  have HCT := Lib.hid (fun (w' : World) (h : Ext w w') => containsS_any x.p ⟨#[]⟩ x.f.path w' (hr.1.ext h) (by omega))
  rw [c0] at HCT
  have HPA := Lib.hid (fun (w' : World) (h : Ext w w') => mAll_any x.p x.f.path w' (hE.ext h) (hr.1.ext h) (fun s hs => by have := size_le_sizes hs; omega) (by omega))
  rw [v0] at HPA
  have HC := Lib.hid (fun w' => checked_any (false) w')
  obtain ⟨xp, xes, ⟨xpath, xid, xtitle, xlink, xupd, xents⟩⟩ := x
  obtain ⟨hx0, hx1⟩ := hr
  dsimp only at *
  obtain ⟨xA, xc, rfl, -, -⟩ := hx0.form
  obtain ⟨xB, xd, rfl, -, -⟩ := hx1.form
  have hb : (xpath.length : Int) ≤ 64 := by omega
  clear hx0 hx1 z0 z1 z2 z3 hE h0 c0 v0
  unfold cellsC fCells
  dsimp only
  go_enter Tryz.func128, Tryz.ntmps128
  go_wp2_with (first
        | (go_at_call 51; (with_reducible refine Calls.mono (HCT.out _ ((Ext.refl w).alloc _)) ?_); rintro e3 w3 ⟨rfl, rfl⟩)
        | (go_at_call 155; (with_reducible refine Calls.mono (HPA.out _ ((Ext.refl w).alloc _)) ?_); rintro e4 w4 ⟨rfl, hx4⟩; (have k1 := hx4.boxed 1 _ rfl); (have k2 := hx4.boxed 2 _ rfl); (have k3 := hx4.boxed 3 _ rfl); (have k4 := hx4.boxed 4 _ rfl))
        | (go_at_call 126; (with_reducible refine Calls.mono (HC.out _) ?_); rintro e9 w9 ⟨rfl, rfl⟩))
  all_goals go_ret
  all_goals exact ⟨rfl, ((Ext.refl _).alloc _).trans hx4⟩
set_option maxRecDepth 100000 in
set_option maxHeartbeats 2000000 in
theorem mCheckF_4 (x : Fc) (w : World) (hE : Env w) (hr : RdC w x) (hk : fokS x.f) (h0 : x.f.path.length ≤ 64) (c0 : (x.f.path.any fun s => decide (s = ⟨#[]⟩)) = false) (v0 : x.f.path.all validS = true) (i0 : x.f.id.toList.isEmpty = false) (t0 : inT x.f.upd = false) :
    Calls Tryz.prog 128 #[.agg (cellsC x).toArray] w fun e w' => e = .returned (.int .i64 22) ∧ Ext w w' := by
  obtain ⟨⟨z0, z1⟩, z2, z3⟩ := hk
  have HCT := Lib.hid (fun (w' : World) (h : Ext w w') => containsS_any x.p ⟨#[]⟩ x.f.path w' (hr.1.ext h) (by omega))
  rw [c0] at HCT
  have HPA := Lib.hid (fun (w' : World) (h : Ext w w') => mAll_any x.p x.f.path w' (hE.ext h) (hr.1.ext h) (fun s hs => by have := size_le_sizes hs; omega) (by omega))
  rw [v0] at HPA
  have HIT := Lib.hid (fun w' => mInTime_any x.f.upd w')
  rw [t0] at HIT
  have HC := Lib.hid (fun w' => checked_any (false) w')
  obtain ⟨xp, xes, ⟨xpath, xid, xtitle, xlink, xupd, xents⟩⟩ := x
  obtain ⟨hx0, hx1⟩ := hr
  dsimp only at *
  obtain ⟨xA, xc, rfl, -, -⟩ := hx0.form
  obtain ⟨xB, xd, rfl, -, -⟩ := hx1.form
  have hb : (xpath.length : Int) ≤ 64 := by omega
  clear hx0 hx1 z0 z1 z2 z3 hE h0 c0 v0 t0
  unfold cellsC fCells
  dsimp only
  go_enter Tryz.func128, Tryz.ntmps128
  go_wp2_with (first
        | (go_at_call 51; (with_reducible refine Calls.mono (HCT.out _ ((Ext.refl w).alloc _)) ?_); rintro e3 w3 ⟨rfl, rfl⟩)
        | (go_at_call 155; (with_reducible refine Calls.mono (HPA.out _ ((Ext.refl w).alloc _)) ?_); rintro e4 w4 ⟨rfl, hx4⟩; (have k1 := hx4.boxed 1 _ rfl); (have k2 := hx4.boxed 2 _ rfl); (have k3 := hx4.boxed 3 _ rfl); (have k4 := hx4.boxed 4 _ rfl))
        | (go_at_call 157; (with_reducible refine Calls.mono (HIT.out _) ?_); rintro e5 w5 ⟨rfl, rfl⟩)
        | (go_at_call 126; (with_reducible refine Calls.mono (HC.out _) ?_); rintro e9 w9 ⟨rfl, rfl⟩))
  all_goals go_ret
  all_goals exact ⟨rfl, ((Ext.refl _).alloc _).trans hx4⟩
set_option maxRecDepth 100000 in
set_option maxHeartbeats 2000000 in
theorem mCheckF_5 (x : Fc) (w : World) (hE : Env w) (hr : RdC w x) (hk : fokS x.f) (h0 : x.f.path.length ≤ 64) (c0 : (x.f.path.any fun s => decide (s = ⟨#[]⟩)) = false) (v0 : x.f.path.all validS = true) (i0 : x.f.id.toList.isEmpty = false) (t0 : inT x.f.upd = true) (s0 : [x.f.id, x.f.title, x.f.link].all validS = false) :
    Calls Tryz.prog 128 #[.agg (cellsC x).toArray] w fun e w' => e = .returned (.int .i64 22) ∧ Ext w w' := by
  obtain ⟨⟨z0, z1⟩, z2, z3⟩ := hk
  have HCT := Lib.hid (fun (w' : World) (h : Ext w w') => containsS_any x.p ⟨#[]⟩ x.f.path w' (hr.1.ext h) (by omega))
  rw [c0] at HCT
  have HPA := Lib.hid (fun (w' : World) (h : Ext w w') => mAll_any x.p x.f.path w' (hE.ext h) (hr.1.ext h) (fun s hs => by have := size_le_sizes hs; omega) (by omega))
  rw [v0] at HPA
  have HIT := Lib.hid (fun w' => mInTime_any x.f.upd w')
  rw [t0] at HIT
  have HA3 := Lib.hid (fun (w' : World) (h : Ext w w') => mAll_any _ [x.f.id, x.f.title, x.f.link] (w'.alloc (.cells ([x.f.id, x.f.title, x.f.link].map Value.string).toArray 9)) ((hE.ext h).alloc _) (strs_new w' [x.f.id, x.f.title, x.f.link] (by show 3 ≤ maxLen; decide)) (fun s h => by simp only [List.mem_cons, List.mem_nil_iff, or_false] at h; rcases h with rfl | rfl | rfl <;> omega) (by show 3 ≤ 16777216; decide))
  rw [s0] at HA3
  simp only [List.map_cons, List.map_nil, List.length_cons, List.length_nil] at HA3
  have HC := Lib.hid (fun w' => checked_any (false) w')
  obtain ⟨xp, xes, ⟨xpath, xid, xtitle, xlink, xupd, xents⟩⟩ := x
  obtain ⟨hx0, hx1⟩ := hr
  dsimp only at *
  obtain ⟨xA, xc, rfl, -, -⟩ := hx0.form
  obtain ⟨xB, xd, rfl, -, -⟩ := hx1.form
  have hb : (xpath.length : Int) ≤ 64 := by omega
  clear hx0 hx1 z0 z1 z2 z3 hE h0 c0 v0 t0 s0
  unfold cellsC fCells
  dsimp only
  go_enter Tryz.func128, Tryz.ntmps128
  go_wp2_with (first
        | (go_at_call 51; (with_reducible refine Calls.mono (HCT.out _ ((Ext.refl w).alloc _)) ?_); rintro e3 w3 ⟨rfl, rfl⟩)
        | (go_at_call 155; (with_reducible refine Calls.mono (HPA.out _ ((Ext.refl w).alloc _)) ?_); rintro e4 w4 ⟨rfl, hx4⟩; (have k1 := hx4.boxed 1 _ rfl); (have k2 := hx4.boxed 2 _ rfl); (have k3 := hx4.boxed 3 _ rfl); (have k4 := hx4.boxed 4 _ rfl))
        | (go_at_call 157; (with_reducible refine Calls.mono (HIT.out _) ?_); rintro e5 w5 ⟨rfl, rfl⟩)
        | (go_at_call 155; (have hz := HA3.out _ (((Ext.refl w).alloc _).trans hx4)); (with_reducible refine Calls.mono hz ?_); clear hz; rintro e7 w7 ⟨rfl, hx7⟩; (have hx47 := hx4.trans (((Ext.refl _).alloc _).trans hx7)); (have k5 := hx47.boxed 5 _ rfl))
        | (go_at_call 126; (with_reducible refine Calls.mono (HC.out _) ?_); rintro e9 w9 ⟨rfl, rfl⟩))
  all_goals go_ret
  all_goals exact ⟨rfl, ((Ext.refl _).alloc _).trans hx47⟩
set_option maxRecDepth 100000 in
set_option maxHeartbeats 2000000 in
theorem mCheckF_6 (x : Fc) (w : World) (hE : Env w) (hr : RdC w x) (hk : fokS x.f) (h0 : x.f.path.length ≤ 64) (c0 : (x.f.path.any fun s => decide (s = ⟨#[]⟩)) = false) (v0 : x.f.path.all validS = true) (i0 : x.f.id.toList.isEmpty = false) (t0 : inT x.f.upd = true) (s0 : [x.f.id, x.f.title, x.f.link].all validS = true) :
    Calls Tryz.prog 128 #[.agg (cellsC x).toArray] w fun e w' => e = .returned (.int .i64 (if okL okE ordE x.f.ents = true then 0 else 22)) ∧ Ext w w' := by
  obtain ⟨⟨z0, z1⟩, z2, z3⟩ := hk
  have HCT := Lib.hid (fun (w' : World) (h : Ext w w') => containsS_any x.p ⟨#[]⟩ x.f.path w' (hr.1.ext h) (by omega))
  rw [c0] at HCT
  have HPA := Lib.hid (fun (w' : World) (h : Ext w w') => mAll_any x.p x.f.path w' (hE.ext h) (hr.1.ext h) (fun s hs => by have := size_le_sizes hs; omega) (by omega))
  rw [v0] at HPA
  have HIT := Lib.hid (fun w' => mInTime_any x.f.upd w')
  rw [t0] at HIT
  have HA3 := Lib.hid (fun (w' : World) (h : Ext w w') => mAll_any _ [x.f.id, x.f.title, x.f.link] (w'.alloc (.cells ([x.f.id, x.f.title, x.f.link].map Value.string).toArray 9)) ((hE.ext h).alloc _) (strs_new w' [x.f.id, x.f.title, x.f.link] (by show 3 ≤ maxLen; decide)) (fun s h => by simp only [List.mem_cons, List.mem_nil_iff, or_false] at h; rcases h with rfl | rfl | rfl <;> omega) (by show 3 ≤ 16777216; decide))
  rw [s0] at HA3
  simp only [List.map_cons, List.map_nil, List.length_cons, List.length_nil] at HA3
  have HOR := Lib.hid (fun (w' : World) (h : Ext w w') => orderedE_any x.es x.f.ents w' (hE.ext h) (hr.2.ext h) (fun e he => by obtain ⟨_, h⟩ := z3 e he; exact ⟨by omega, by omega, by omega, by omega⟩) z2)
  have HC := Lib.hid (fun w' => checked_any (okL okE ordE x.f.ents) w')
  obtain ⟨b, hb⟩ : ∃ b, okL okE ordE x.f.ents = b := ⟨_, rfl⟩
  simp only [hb] at HOR HC ⊢
  clear hb
  obtain ⟨xp, xes, ⟨xpath, xid, xtitle, xlink, xupd, xents⟩⟩ := x
  obtain ⟨hx0, hx1⟩ := hr
  dsimp only at *
  obtain ⟨xA, xc, rfl, -, -⟩ := hx0.form
  obtain ⟨xB, xd, rfl, -, -⟩ := hx1.form
  have hb : (xpath.length : Int) ≤ 64 := by omega
  clear hx0 hx1 z0 z1 z2 z3 hE h0 c0 v0 t0 s0
  unfold cellsC fCells
  dsimp only
  go_enter Tryz.func128, Tryz.ntmps128
  go_wp2_with (first
        | (go_at_call 51; (with_reducible refine Calls.mono (HCT.out _ ((Ext.refl w).alloc _)) ?_); rintro e3 w3 ⟨rfl, rfl⟩)
        | (go_at_call 155; (with_reducible refine Calls.mono (HPA.out _ ((Ext.refl w).alloc _)) ?_); rintro e4 w4 ⟨rfl, hx4⟩; (have k1 := hx4.boxed 1 _ rfl); (have k2 := hx4.boxed 2 _ rfl); (have k3 := hx4.boxed 3 _ rfl); (have k4 := hx4.boxed 4 _ rfl))
        | (go_at_call 157; (with_reducible refine Calls.mono (HIT.out _) ?_); rintro e5 w5 ⟨rfl, rfl⟩)
        | (go_at_call 155; (have hz := HA3.out _ (((Ext.refl w).alloc _).trans hx4)); (with_reducible refine Calls.mono hz ?_); clear hz; rintro e7 w7 ⟨rfl, hx7⟩; (have hx47 := hx4.trans (((Ext.refl _).alloc _).trans hx7)); (have k5 := hx47.boxed 5 _ rfl))
        | (go_at_call 158; (with_reducible refine Calls.mono (HOR.out _ (((Ext.refl w).alloc _).trans hx47)) ?_); rintro e8 w8 ⟨rfl, hx8⟩)
        | (go_at_call 126; (with_reducible refine Calls.mono (HC.out _) ?_); rintro e9 w9 ⟨rfl, rfl⟩))
  all_goals go_ret
  all_goals exact ⟨rfl, (((Ext.refl _).alloc _).trans hx47).trans hx8⟩
theorem mCheckF_any (x : Fc) (w : World) (hE : Env w) (hr : RdC w x) (hk : fokS x.f) :
    Calls Tryz.prog 128 #[.agg (cellsC x).toArray] w fun e w' => e = .returned (.int .i64 (if okF x.f = true then 0 else 22)) ∧ Ext w w' := by
  by_cases h0 : x.f.path.length ≤ 64
  case neg =>
    rw [if_neg (fun h' => h0 (okH_iff.1 (okF_iff.1 h').1).1)]
    exact mCheckF_0 x w hE hr hk h0
  cases c0 : (x.f.path.any fun s => decide (s = ⟨#[]⟩)) with
  | true =>
    rw [if_neg (fun h' => by
      obtain ⟨s, hs, he⟩ := List.any_eq_true.1 c0
      exact (okH_iff.1 (okF_iff.1 h').1).2.2.2.2 s hs (of_decide_eq_true he))]
    exact mCheckF_1 x w hE hr hk h0 c0
  | false =>
  cases v0 : x.f.path.all validS with
  | false =>
    rw [if_neg (fun h' => by
      have hall := (okH_iff.1 (okF_iff.1 h').1).2.1
      rw [List.all_eq_true.2 (fun s hs => hall s (by unfold strsF; simp [hs]))] at v0
      cases v0)]
    exact mCheckF_2 x w hE hr hk h0 c0 v0
  | true =>
  by_cases h4 : x.f.id = noS
  · rw [if_neg (fun h' => (okH_iff.1 (okF_iff.1 h').1).2.2.1 h4)]
    exact mCheckF_3 x w hE hr hk h0 c0 v0 (noS_empty h4)
  cases t0 : inT x.f.upd with
  | false =>
    rw [if_neg (fun h' => by have := (okH_iff.1 (okF_iff.1 h').1).2.2.2.1; rw [t0] at this; cases this)]
    exact mCheckF_4 x w hE hr hk h0 c0 v0 (ne_noS h4) t0
  | true =>
  cases s0 : [x.f.id, x.f.title, x.f.link].all validS with
  | false =>
    rw [if_neg (fun h' => by
      have hall := (okH_iff.1 (okF_iff.1 h').1).2.1
      rw [List.all_eq_true.2 (fun s hs => hall s (by unfold strsF; simp only [List.mem_append]; exact Or.inr hs))] at s0
      cases s0)]
    exact mCheckF_5 x w hE hr hk h0 c0 v0 (ne_noS h4) t0 s0
  | true =>
    have hH : okH x.f = true := okH_iff.2 ⟨h0, fun s hs => by
      unfold strsF at hs
      rcases List.mem_append.1 hs with hs | hs
      · exact List.all_eq_true.1 v0 s hs
      · exact List.all_eq_true.1 s0 s hs, h4, t0, fun p hp e => by
      rw [List.any_eq_false] at c0
      exact c0 p hp (decide_eq_true e)⟩
    have hF : okF x.f = okL okE ordE x.f.ents := by unfold okF; rw [hH]; rfl
    rw [hF]
    exact mCheckF_6 x w hE hr hk h0 c0 v0 (ne_noS h4) t0 s0
end Go.Proofs.YtgecijhgonfldaaGreatDoor
namespace Go.Proofs.YtgecijhgonfldaaGreatDoor
open Go Go.RowKit Go.WideMaps Go.Maps Go.Sort
set_option linter.unusedVariables false
theorem ext_grow (w : World) (q : Nat) (os : Array Obj) : Ext w (grow (w.drewN q) os) :=
  ⟨rfl, rfl, rfl, by show w.heap.size ≤ (w.heap ++ os).size; simp, fun k hk => by show (w.heap ++ os)[k]? = w.heap[k]?; rw [Array.getElem?_append_left hk]⟩
theorem compareFeeds_any (x y : Fc) (w : World) (hsx : isSl x.es) (hsy : isSl y.es) (hx : RStrs w x.p x.f.path) (hy : RStrs w y.p y.f.path) (hn : x.f.path.length ≤ 16777216) :
    Calls Tryz.prog 61 #[.agg (cellsC x).toArray, .agg (cellsC y).toArray] w fun e w' => e = .returned (.int .i64 (feedCmp x.f y.f)) ∧ Ext w w' :=
  (compareFeeds_grow x y w hsx hsy hx hy hn).mono fun e w' ⟨h, q, os, h'⟩ => ⟨h, by rw [h']; exact ext_grow w q os⟩
set_option maxRecDepth 100000 in
set_option maxHeartbeats 8000000 in
theorem orderedF_any (v : Value) (l : List Fc) (w : World) (hE : Env w) (hr : RFcs w v l) (hrd : ∀ x ∈ l, RdC w x) (hk : ∀ x ∈ l, fokS x.f) (hn : l.length ≤ 1000000) :
    Calls Tryz.prog 127 #[v, .func (.func 128) #[] #[], .func (.func 61) #[] #[], .func (.func 129) #[] #[]] w fun e w' => e = .returned (.bool (okL okF ordF (l.map Fc.f))) ∧ Ext w w' := by
  obtain ⟨A, c, rfl, -, -⟩ := hr.form
  have hmm := @run_makeMap Tryz.prog
  obtain ⟨L, hL⟩ : ∃ L, l.map Fc.f = L := ⟨_, rfl⟩
  have hLl : L.length = l.length := by rw [← hL, List.length_map]
  have HLL := Lib.hid hLl
  have HLG : Hid (∀ (j : Nat) (h : j < l.length), L[j]'(by rw [hLl]; exact h) = l[j].f) := Lib.hid fun j h => by subst hL; rw [List.getElem_map]
  rw [hL]
  obtain ⟨R, hR⟩ : ∃ R, okL okF ordF L = R := ⟨_, rfl⟩
  rw [hR]
  have HR := Lib.hid hR
  have HRD := Lib.hid hrd
  have HS := Lib.hid hk
  have HH := Lib.hid hr
  have HEW := Lib.hid hE
  clear hR hk hr hrd hE hL
  go_enter Tryz.func127, Tryz.ntmps127
  go_wp2
  go_loopw [15] (fun i wr => ∃ (k : Nat) (D : DataW Unit), k ≤ l.length ∧ i = .int .i64 k ∧ wr.ownsMap Tryz.prog 9 (plainElem Tryz.prog 4) w.heap.size k D ∧ Hid (SeenMap D (fun s => (L.take k).any (fun e => decide (e.id = s)))) ∧ Hid (∀ j, j < k → okAt okF ordF L j = true) ∧ Ext w wr) (fun i _ => l.length - (intOf i).toNat)
  case atStart => exact ⟨0, .map [], Nat.zero_le _, rfl, World.ownsMap_made _ _ _ _, Lib.hid SeenMap.nil, Lib.hid (fun j h => by omega), (Ext.refl _).alloc _⟩
  case round =>
    obtain ⟨k, D, hk, rfl, hM, hD, hinv, hxr⟩ := hrel
    by_cases hlt : k < l.length
    · obtain ⟨ad, c1, e1, hat⟩ := (RFcs.ext HH.out hxr).at hlt
      injection e1 with e1 e1' e1''
      subst e1
      clear e1' e1''
      have hmem : l[k] ∈ l := List.getElem_mem hlt
      have hEk := HS.out _ hmem
      have hEr := (HRD.out _ hmem).ext hxr
      have hltL : k < L.length := by rw [HLL.out]; exact hlt
      have htk := List.take_succ_eq_append_getElem hltL
      have hIFF := okAt_iff (ok := okF) (O := ordF) hltL
      have hLk := HLG.out k hlt
      have hb : ∃ b, (L.take k).any (fun e => decide (e.id = l[k].f.id)) = b := ⟨_, rfl⟩
      obtain ⟨b, hb⟩ := hb
      rw [hLk] at hIFF htk
      have hbf : b = false → ∀ j (hj : j < k), ordF.id L[j] ≠ ordF.id l[k].f := fun e j hj => any_take_false (id := Fd.id) (hb.trans e) j (by omega) hj
      have hbt : b = true → okAt okF ordF L k = false := fun e => by
        rw [Bool.eq_false_iff]
        intro h
        obtain ⟨j, hj, hjk, he⟩ := any_take_true (id := Fd.id) (hb.trans e)
        exact (hIFF.1 h).2.2 j hjk he
      have HBAD : Hid (okAt okF ordF L k = false → R = false) := Lib.hid fun h => by rw [← HR.out]; exact okL_falseG hltL h
      have HPUT : Hid (SeenMap (D.put (.string l[k].f.id.data.toList) (.lit (.bool true))) (fun s => (L.take (k + 1)).any (fun e => decide (e.id = s)))) := Lib.hid (hD.out.put fun t => by rw [htk, List.any_append]; simp)
      obtain ⟨E, hEE⟩ : ∃ E, l[k] = E := ⟨_, rfl⟩
      rw [hEE] at hat hEk hEr hb HPUT hIFF hbf
      have HIFF := Lib.hid hIFF
      have HBF := Lib.hid hbf
      have HBT := Lib.hid hbt
      have hmx : E.f.id.size ≤ maxLen := by have := hEk.1.2; unfold maxLen; omega
      have HKEY := Lib.hid (keyOf_string_mk Tryz.underlying9 hmx)
      have HM := Lib.hid hM
      have HLT := Lib.hid hlt
      have HLTL := Lib.hid hltL
      clear hIFF hbf hbt htk hmem hLk hEE
      obtain ⟨W1, hW1⟩ : ∃ W1, wr.alloc (.cells (cellsC E).toArray 35) = W1 := ⟨_, rfl⟩
      have hx1 : Ext wr W1 := by rw [← hW1]; exact (Ext.refl _).alloc _
      have hLK := fun z : Aft W1 => seen_look (hM.kept ((hx1.trans z.ext).grown none) (by simp)) hD.out hmx
      simp only [hb] at hLK
      have HCE := Lib.hid (fun z : Aft W1 => mCheckF_any E z.w (HEW.out.ext (hxr.trans (hx1.trans z.ext))) (hEr.ext (hx1.trans z.ext)) hEk)
      have HID := Lib.hid (fun z : World => mFdID_any E.p E.es E.f z)
      have hbk : W1.heap[wr.heap.size]? = some (.cells (cellsC E).toArray 35) := by rw [← hW1]; exact heap_alloc_new _ _
      have HX1 := Lib.hid hx1
      have HER := Lib.hid (hEr.ext hx1)
      have HSE := Lib.hid hEr.sl
      have hi0' : (0 : Int) ≤ (k : Int) := by omega
      have hi1 : (k : Int) < (l.length : Int) := by omega
      have HKL : Hid (k < maxLen) := Lib.hid (by unfold maxLen; omega)
      clear hx1 hM hb hEr hEk
      obtain ⟨EP, EE, ⟨path, id, title, link, upd, ents⟩⟩ := E
      obtain ⟨⟨EA, EN, EC, hep⟩, ⟨EB, EM, ED, hee⟩⟩ := HSE.out
      dsimp only at hep hee
      subst hep hee
      unfold cellsC fCells at hW1 hbk HCE
      unfold fCells at HID
      dsimp only at hW1 hbk HCE HID hat hLK HPUT HKEY hmx
      obtain ⟨b0, b1, b2, b3, b4, b5⟩ := blk6 hbk
      obtain ⟨a0, a1, a2, a3, a4, a5⟩ := hat
      have B0 := fun z : Aft W1 => Aft.cell b0 z
      have B1 := fun z : Aft W1 => Aft.cell b1 z
      have B2 := fun z : Aft W1 => Aft.cell b2 z
      have B3 := fun z : Aft W1 => Aft.cell b3 z
      have B4 := fun z : Aft W1 => Aft.cell b4 z
      have B5 := fun z : Aft W1 => Aft.cell b5 z
      clear b0 b1 b2 b3 b4 b5 hbk hmx
      dsimp only at a0 a1 a2 a3 a4 a5
      cases hok : okF ⟨path, id, title, link, upd, ents⟩ with
      | false =>
        have hR := HBAD.out (by
          rw [Bool.eq_false_iff]
          intro h
          have h1 := (HIFF.out.1 h).1
          rw [hok] at h1
          cases h1)
        subst hR
        rw [hok] at HCE
        clear hok
        simp only [Bool.false_eq_true, if_false] at HCE
        go_wp2
        refine wp_region_aft (by kernel_rfl) (by kernel_rfl) ?_
        repeat (first | go_big_quiet_step ((first
        | (go_at_call 128; with_reducible exact quiet_call (HCE.out _))
        | (go_at_call 129; with_reducible exact quiet_call (HID.out _)))) | quiet_step ((first
        | (go_at_call 128; with_reducible exact quiet_call (HCE.out _))
        | (go_at_call 129; with_reducible exact quiet_call (HID.out _)))))
        refine wpQuiet_nil ?_
        rintro _ ⟨d1, rfl⟩
        go_wp2
        go_ret
        exact ⟨rfl, hxr.trans (HX1.out.trans d1.ext)⟩
      | true =>
        have HOK := Lib.hid hok
        rw [hok] at HCE
        clear hok
        simp only [if_true] at HCE
        rcases Nat.eq_zero_or_pos k with h0 | hpos
        · cases b with
          | true =>
            have hR := HBAD.out (HBT.out rfl)
            subst hR
            subst h0
            simp only [Nat.zero_mul, add_zero] at a0 a1 a2 a3 a4 a5
            go_wp2
            refine wp_region_aft (by kernel_rfl) (by kernel_rfl) ?_
            repeat (first | go_big_quiet_step ((first
        | (go_at_call 128; with_reducible exact quiet_call (HCE.out _))
        | (go_at_call 129; with_reducible exact quiet_call (HID.out _)))) | quiet_step ((first
        | (go_at_call 128; with_reducible exact quiet_call (HCE.out _))
        | (go_at_call 129; with_reducible exact quiet_call (HID.out _)))))
            refine wpQuiet_nil ?_
            rintro _ ⟨d1, rfl⟩
            go_wp2
            go_ret
            exact ⟨rfl, hxr.trans (HX1.out.trans d1.ext)⟩
          | false =>
            have HGOOD := Lib.hid (HIFF.out.2 ⟨HOK.out, fun h => absurd h (by omega), HBF.out rfl⟩)
            subst h0
            simp only [Nat.zero_mul, add_zero] at a0 a1 a2 a3 a4 a5
            go_wp2
            refine wp_region_aft (by kernel_rfl) (by kernel_rfl) ?_
            repeat (first | go_big_quiet_step ((first
        | (go_at_call 128; with_reducible exact quiet_call (HCE.out _))
        | (go_at_call 129; with_reducible exact quiet_call (HID.out _)))) | quiet_step ((first
        | (go_at_call 128; with_reducible exact quiet_call (HCE.out _))
        | (go_at_call 129; with_reducible exact quiet_call (HID.out _)))))
            refine wpQuiet_nil ?_
            rintro _ ⟨d1, rfl⟩
            have HM1 := Lib.hid (HM.out.kept ((HX1.out.trans d1.ext).grown none) (by simp))
            have HXD := Lib.hid (hxr.trans (HX1.out.trans d1.ext))
            have D0 := B0 d1
            have D1 := B1 d1
            have D2 := B2 d1
            have D3 := B3 d1
            have D4 := B4 d1
            have D5 := B5 d1
            clear B0 B1 B2 B3 B4 B5 hLK
            go_wp2_with (first
              | (go_at_call 129; (with_reducible refine Calls.mono (HID.out _) ?_); rintro e w2 ⟨rfl, hx2⟩)
              | (at_mapUpdate; (refine wpList_mapUpdate_own _ rfl (.tmp 46) (.tmp 49) (.const (.bool true)) 192 rfl 9 4 keyLaw Tryz.underlying192 _ w.heap.size 0 D rfl (HM1.out.kept (hx2.grown none) (by simp)) HKL.out _ _ _ rfl rfl HKEY.out _ [] (plainElem_bool Tryz.underlying4 true) ?_); intro w5 hM5 hg5))
            have hxm : Ext w w5 := Ext.grown' (B := 0) (HXD.out.trans hx2) hg5 (fun b hb => by cases hb; exact Nat.le_refl _)
            have HM5 := Lib.hid hM5
            clear hM5 hg5
            go_roundw
            case rel => exact ⟨0 + 1, _, HLT.out, by go_num, HM5.out, HPUT, Lib.hid (fun t ht => by
              by_cases e : t = 0
              · rw [e]; exact HGOOD.out
              · exact hinv.out t (by omega)), hxm⟩
            case measure => simp [intOf]; have := HLT.out; omega
        · obtain ⟨q, hq⟩ : ∃ q, k = q + 1 := ⟨k - 1, by omega⟩
          have hql : q < l.length := by have := HLT.out; omega
          obtain ⟨af, c3, e3, haq⟩ := (RFcs.ext HH.out (hxr.trans HX1.out)).at hql
          injection e3 with e3 e3' e3''
          injection e3 with e3
          subst e3
          clear e3' e3''
          have hQr := (HRD.out _ (List.getElem_mem hql)).ext (hxr.trans HX1.out)
          have hQk := HS.out _ (List.getElem_mem hql)
          have hPE : ∀ h : k - 1 < L.length, L[k - 1] = l[q].f := fun h => by subst hq; exact HLG.out q hql
          obtain ⟨F, haq, hQr, hQk, hPE⟩ : ∃ F : Fc, AtFc W1 (ad.add (q * 6)) F ∧ RdC W1 F ∧ fokS F.f ∧ (∀ h : k - 1 < L.length, L[k - 1] = F.f) := ⟨_, haq, hQr, hQk, hPE⟩
          have HPE := Lib.hid hPE
          have hlt2 : ordF.lt F.f ⟨path, id, title, link, upd, ents⟩ = decide (feedCmp F.f ⟨path, id, title, link, upd, ents⟩ < 0) := rfl
          have HCM := Lib.hid (fun z : Aft W1 => compareFeeds_any F ⟨.slice EA EN EC, .slice EB EM ED, ⟨path, id, title, link, upd, ents⟩⟩ z.w hQr.sl.2 HSE.out.2 (hQr.1.ext z.ext) (HER.out.1.ext z.ext) (by have := hQk.1.2; omega))
          have hsF := hQr.sl
          dsimp only at HCM
          obtain ⟨cc, hc⟩ : ∃ cc, feedCmp F.f ⟨path, id, title, link, upd, ents⟩ = cc := ⟨_, rfl⟩
          rw [hc] at hlt2
          simp only [hc] at HCM
          clear hPE hc hQr hQk
          obtain ⟨FP, FE, FF⟩ := F
          obtain ⟨⟨FA, FN, FC, hep⟩, ⟨FB, FM, FD, hee⟩⟩ := hsF
          dsimp only at hep hee
          subst hep hee
          obtain ⟨k0, k1, k2, k3, k4, k5⟩ := haq
          dsimp only at k0 k1 k2 k3 k4 k5 HCM hlt2 HPE
          have C0 := fun z : Aft W1 => Aft.cell k0 z
          have C1 := fun z : Aft W1 => Aft.cell k1 z
          have C2 := fun z : Aft W1 => Aft.cell k2 z
          have C3 := fun z : Aft W1 => Aft.cell k3 z
          have C4 := fun z : Aft W1 => Aft.cell k4 z
          have C5 := fun z : Aft W1 => Aft.cell k5 z
          clear k0 k1 k2 k3 k4 k5
          have hk0 : (0 : Int) < (k : Int) := by omega
          have hks : wrap64 ((k : Int) - 1) = (q : Int) := by rw [wrap_ok _ ⟨by omega, by omega⟩]; omega
          have hkq : (k : Int) - 1 = (q : Int) := by omega
          have hq0 : (0 : Int) ≤ (q : Int) := by omega
          have hq1 : (q : Int) < (l.length : Int) := by omega
          unfold cellsC fCells at HCM
          dsimp only at HCM
          by_cases hneg : cc < 0
          · have HPREV : Hid (∀ h : 0 < k, ordF.lt (L[k - 1]'(Nat.lt_of_le_of_lt (Nat.sub_le _ _) HLTL.out)) ⟨path, id, title, link, upd, ents⟩ = true) := Lib.hid (fun h => by rw [HPE.out, hlt2]; exact decide_eq_true hneg)
            have hge : ¬ (0 : Int) ≤ cc := by omega
            cases b with
            | true =>
              have hR := HBAD.out (HBT.out rfl)
              subst hR
              clear hlt2 hq HPE
              go_wp2
              refine wp_region_aft (by kernel_rfl) (by kernel_rfl) ?_
              repeat (first | go_big_quiet_step ((first
        | (go_at_call 128; with_reducible exact quiet_call (HCE.out _))
        | (go_at_call 61; with_reducible exact quiet_call (HCM.out _))
        | (go_at_call 129; with_reducible exact quiet_call (HID.out _)))) | quiet_step ((first
        | (go_at_call 128; with_reducible exact quiet_call (HCE.out _))
        | (go_at_call 61; with_reducible exact quiet_call (HCM.out _))
        | (go_at_call 129; with_reducible exact quiet_call (HID.out _)))))
              refine wpQuiet_nil ?_
              rintro _ ⟨d1, rfl⟩
              go_wp2
              go_ret
              exact ⟨rfl, hxr.trans (HX1.out.trans d1.ext)⟩
            | false =>
              have HGOOD := Lib.hid (HIFF.out.2 ⟨HOK.out, HPREV.out, HBF.out rfl⟩)
              clear hlt2 hq HPE HPREV
              go_wp2
              refine wp_region_aft (by kernel_rfl) (by kernel_rfl) ?_
              repeat (first | go_big_quiet_step ((first
        | (go_at_call 128; with_reducible exact quiet_call (HCE.out _))
        | (go_at_call 61; with_reducible exact quiet_call (HCM.out _))
        | (go_at_call 129; with_reducible exact quiet_call (HID.out _)))) | quiet_step ((first
        | (go_at_call 128; with_reducible exact quiet_call (HCE.out _))
        | (go_at_call 61; with_reducible exact quiet_call (HCM.out _))
        | (go_at_call 129; with_reducible exact quiet_call (HID.out _)))))
              refine wpQuiet_nil ?_
              rintro _ ⟨d1, rfl⟩
              have HM1 := Lib.hid (HM.out.kept ((HX1.out.trans d1.ext).grown none) (by simp))
              have HXD := Lib.hid (hxr.trans (HX1.out.trans d1.ext))
              have D0 := B0 d1
              have D1 := B1 d1
              have D2 := B2 d1
              have D3 := B3 d1
              have D4 := B4 d1
              have D5 := B5 d1
              clear B0 B1 B2 B3 B4 B5 hLK
              go_wp2_with (first
                | (go_at_call 129; (with_reducible refine Calls.mono (HID.out _) ?_); rintro e w2 ⟨rfl, hx2⟩)
                | (at_mapUpdate; (refine wpList_mapUpdate_own _ rfl (.tmp 46) (.tmp 49) (.const (.bool true)) 192 rfl 9 4 keyLaw Tryz.underlying192 _ w.heap.size k D rfl (HM1.out.kept (hx2.grown none) (by simp)) HKL.out _ _ _ rfl rfl HKEY.out _ [] (plainElem_bool Tryz.underlying4 true) ?_); intro w5 hM5 hg5))
              have hxm : Ext w w5 := Ext.grown' (B := 0) (HXD.out.trans hx2) hg5 (fun b hb => by cases hb; exact Nat.le_refl _)
              have HM5 := Lib.hid hM5
              clear hM5 hg5
              go_roundw
              case rel => exact ⟨k + 1, _, HLT.out, by go_num, HM5.out, HPUT, Lib.hid (fun t ht => by
                by_cases e : t = k
                · rw [e]; exact HGOOD.out
                · exact hinv.out t (by omega)), hxm⟩
              case measure => simp [intOf]; have := HLT.out; omega
          · have hR := HBAD.out (by
              rw [Bool.eq_false_iff]
              intro h
              have h1 := (HIFF.out.1 h).2.1 hpos
              rw [HPE.out, hlt2] at h1
              exact hneg (of_decide_eq_true h1))
            subst hR
            have hge : (0 : Int) ≤ cc := by omega
            clear hlt2 hq HPE
            go_wp2
            refine wp_region_aft (by kernel_rfl) (by kernel_rfl) ?_
            repeat (first | go_big_quiet_step ((first
        | (go_at_call 128; with_reducible exact quiet_call (HCE.out _))
        | (go_at_call 61; with_reducible exact quiet_call (HCM.out _))
        | (go_at_call 129; with_reducible exact quiet_call (HID.out _)))) | quiet_step ((first
        | (go_at_call 128; with_reducible exact quiet_call (HCE.out _))
        | (go_at_call 61; with_reducible exact quiet_call (HCM.out _))
        | (go_at_call 129; with_reducible exact quiet_call (HID.out _)))))
            refine wpQuiet_nil ?_
            rintro _ ⟨d1, rfl⟩
            go_wp2
            go_ret
            exact ⟨rfl, hxr.trans (HX1.out.trans d1.ext)⟩
    · have hke : k = l.length := by omega
      subst hke
      have hRt : R = true := by rw [← HR.out]; exact okL_trueG (by rw [HLL.out]; exact hinv.out)
      subst hRt
      go_wp2
      go_ret
      exact ⟨rfl, hxr⟩
set_option maxRecDepth 100000 in
set_option maxHeartbeats 2000000 in
theorem mCheckA_any (v : Value) (l : List Fc) (w : World) (hE : Env w) (hr : RFcs w v l) (hrd : ∀ x ∈ l, RdC w x) (hk : ∀ x ∈ l, fokS x.f) (hn : l.length ≤ 1000000) :
    Calls Tryz.prog 92 #[.agg #[v]] w fun e w' => e = .returned (.int .i64 (if okA (l.map Fc.f) = true then 0 else 22)) ∧ Ext w w' := by
  have HO := Lib.hid (fun (w' : World) (h : Ext w w') => orderedF_any v l w' (hE.ext h) (hr.ext h) (fun x hx => (hrd x hx).ext h) hk hn)
  have HC := Lib.hid (fun w' => checked_any (okL okF ordF (l.map Fc.f)) w')
  unfold okA
  obtain ⟨b, hb⟩ : ∃ b, okL okF ordF (l.map Fc.f) = b := ⟨_, rfl⟩
  simp only [hb] at HO HC ⊢
  obtain ⟨A, c, rfl, -, -⟩ := hr.form
  clear hb hr hrd hk hE
  go_enter Tryz.func92, Tryz.ntmps92
  go_wp2_with (first
    | (go_at_call 127; (with_reducible refine Calls.mono (HO.out _ ((Ext.refl w).alloc _)) ?_); rintro e1 w1 ⟨rfl, hx1⟩)
    | (go_at_call 126; (with_reducible refine Calls.mono (HC.out _) ?_); rintro e2 w2 ⟨rfl, rfl⟩))
  all_goals go_ret
  all_goals exact ⟨rfl, ((Ext.refl _).alloc _).trans hx1⟩
end Go.Proofs.YtgecijhgonfldaaGreatDoor
