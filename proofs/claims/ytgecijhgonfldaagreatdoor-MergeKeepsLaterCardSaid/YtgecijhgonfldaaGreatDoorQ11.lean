/- Parts of the proof: contracts and plain laws that the statement needs. -/
import Derived.Test.YtgecijhgonfldaaGreatDoorQ09
import Derived.Test.YtgecijhgonfldaaGreatDoorQ10
namespace Go.Proofs.YtgecijhgonfldaaGreatDoor
open Go Go.RowKit
set_option linter.unusedVariables false
def qAll (l : List ByteArray) : ByteArray := if l.all vld then str (commas (l.map fun s => quoteL s.data.toList)) else noS
def total (l : List ByteArray) : Nat := (l.map fun s => s.size).sum
theorem commas_len (l : List ByteArray) : (commas (l.map fun s => quoteL s.data.toList)).length ≤ 6 * total l + 3 * l.length := by
  induction l with
  | nil => simp [commas, total]
  | cons s t ih =>
    have h := quoteL_len s.data.toList
    rw [data_len] at h
    cases t with
    | nil => simp [commas, total]; omega
    | cons u r =>
      have e : total (s :: u :: r) = s.size + total (u :: r) := by simp [total]
      rw [e]
      simp only [List.map_cons, commas, List.length_append, List.length_cons] at ih ⊢
      omega
theorem total_take (l : List ByteArray) (k : Nat) : total (l.take k) ≤ total l := by
  induction l generalizing k with
  | nil => simp [total]
  | cons s t ih =>
    cases k with
    | zero => simp [total]
    | succ k => have := ih k; simp [total] at this ⊢; omega
theorem str_app (a b : List UInt8) : str a ++ str b = str (a ++ b) := by
  apply bytes_inj
  rw [str_list, ByteArray.data_append, Array.toList_append, str_list, str_list]
theorem qAll_bad {l : List ByteArray} {s : ByteArray} (h : s ∈ l) (hv : vld s = false) : qAll l = noS := by
  unfold qAll
  rw [if_neg]
  simp only [List.all_eq_true]
  intro h'
  rw [h' s h] at hv
  cases hv
set_option maxRecDepth 100000 in
set_option maxHeartbeats 1000000 in
theorem refQuotes_any (v : Value) (l : List ByteArray) (w : World) (h : RSl w 1 v l.length (l.map Value.string)) (ht : total l ≤ 16777216) (hn : l.length ≤ 1000000) :
    Calls Tryz.prog 93 #[v] w fun e w' => e = .returned (.string (qAll l)) ∧ Ext w w' := by
  obtain ⟨_, A, c, rfl, hmc, hcm, _, _⟩ := id h
  clear hmc hcm
  obtain ⟨R, hR⟩ : ∃ R, qAll l = R := ⟨_, rfl⟩
  rw [hR]
  have HR := Lib.hid hR
  have HT := Lib.hid ht
  clear hR ht
  go_enter Tryz.func93, Tryz.ntmps93
  go_wp2
  go_loopw [3, 4] (fun u i wr => ∃ (k : Nat) (S : ByteArray), k ≤ l.length ∧ i = .int .i64 k ∧ u = .string S ∧ Hid (S = str (commas ((l.take k).map fun s => quoteL s.data.toList)) ∧ (l.take k).all vld = true) ∧ S.size ≤ 110000000 ∧ Ext w wr) (fun _ i _ => l.length - (intOf i).toNat)
  case atStart => exact ⟨0, _, Nat.zero_le _, rfl, rfl, ⟨rfl, rfl⟩, by decide, Ext.refl _⟩
  case round =>
    obtain ⟨k, S, hk, rfl, rfl, hS, hSz, hx⟩ := hrel
    by_cases hlt : k < l.length
    · obtain ⟨ad, rfl, hcell⟩ := (h.ext hx).at1 k (.string l[k]) (by rw [List.getElem?_map, List.getElem?_eq_getElem hlt]; rfl)
      have hle : l[k].size ≤ total l := by
        have : ∀ (l : List ByteArray) (s : ByteArray), s ∈ l → s.size ≤ total l := by
          intro l
          induction l with
          | nil => intro s h; simp at h
          | cons u t ih =>
            intro s h
            have e : total (u :: t) = u.size + total t := by simp [total]
            rcases List.mem_cons.1 h with h | h
            · subst h; omega
            · have := ih s h; omega
        exact this l _ (List.getElem_mem hlt)
      have HQ := Lib.hid (ref10Quote_any l[k] wr (by have := HT.out; omega))
      have hmem := List.getElem_mem hlt
      have htk : l.take (k + 1) = l.take k ++ [l[k]] := List.take_succ_eq_append_getElem hlt
      have hcl := commas_len (l.take (k + 1))
      have htt := total_take l (k + 1)
      have hql := quoteL_len l[k].data.toList
      rw [data_len] at hql
      cases hv : vld l[k] with
      | false =>
        have hq : quoteS l[k] = (str [], 5) := by unfold quoteS; rw [if_neg]; unfold vld at hv; rw [hv]; decide
        rw [hq] at HQ
        have HB := Lib.hid (HR.out.symm.trans (qAll_bad hmem hv))
        generalize l[k] = s at *
        clear hle hmem htk hcl htt hql hv hq hS HR
        go_wp2_with (first | (go_at_call 130; refine (HQ.out).mono ?_; rintro e w' ⟨rfl, hx'⟩))
        go_ret
        exact ⟨by rw [HB.out]; rfl, hx.trans hx'⟩
      | true =>
        have hq : quoteS l[k] = (str (quoteL l[k].data.toList), 0) := by unfold quoteS; unfold vld at hv; rw [if_pos hv]
        rw [hq] at HQ
        have hnew : (if k = 0 then str (quoteL l[k].data.toList) else S ++ str [44] ++ str (quoteL l[k].data.toList)) = str (commas ((l.take (k + 1)).map fun s => quoteL s.data.toList)) := by
          rw [htk, List.map_append, List.map_cons, List.map_nil, commas_snoc]
          by_cases h0 : k = 0
          · subst h0; simp
          · have hne : (l.take k).map (fun s => quoteL s.data.toList) ≠ [] := by
              intro e
              have := congrArg List.length e
              rw [List.length_map, List.length_take, List.length_nil] at this
              omega
            rw [if_neg h0, if_neg hne, hS.out.1, str_app, str_app]
            simp
        have hall : (l.take (k + 1)).all vld = true := by rw [htk, List.all_append, hS.out.2]; simp [hv]
        have HN := Lib.hid (And.intro hnew hall)
        have hQz : (str (quoteL l[k].data.toList)).size ≤ 100663300 := by rw [str_size]; have := HT.out; omega
        have hNz : (str (commas ((l.take (k + 1)).map fun s => quoteL s.data.toList))).size ≤ 110000000 := by
          rw [str_size]
          have := HT.out
          have hl : (l.take (k + 1)).length ≤ 1000000 := by rw [List.length_take]; omega
          omega
        have HNZ := Lib.hid hNz
        clear hnew hall htk hcl htt hql hv hq hmem hle hNz
        generalize l[k] = s at *
        generalize str (quoteL s.data.toList) = Q at *
        have hsum : S.size + Q.size ≤ 9223372036854775807 := by omega
        by_cases h0 : k = 0
        · subst h0
          have hS0 : S = str [] := hS.out.1.trans rfl
          have hnew : S ++ Q = Q := by rw [hS0]; apply bytes_inj; simp
          have HNEW := Lib.hid hnew
          clear hnew hS0 hS
          rw [add_zero] at hcell
          go_wp2_with (first | (go_at_call 130; refine (HQ.out).mono ?_; rintro e w' ⟨rfl, hx'⟩))
          go_roundw
          case rel => exact ⟨0 + 1, _, hlt, by go_num, rfl, ⟨HNEW.out.trans HN.out.1, HN.out.2⟩, by rw [HNEW.out]; exact Nat.le_trans hQz (by decide), hx.trans hx'⟩
          case measure => simp [intOf]; omega
        · have h0' : (0 : Int) < (k : Int) := by omega
          have hnew := HN.out.1
          rw [if_neg h0] at hnew
          have hz1 : S.size + 1 ≤ 9223372036854775807 := by omega
          have hz2 : S.size + 1 + Q.size ≤ 9223372036854775807 := by omega
          have hsz : (S ++ str [44]).size = S.size + 1 := by rw [ByteArray.size_append]; rfl
          have HNEW := Lib.hid hnew
          clear hnew hS h0
          go_wp2_with (first | (go_at_call 130; refine (HQ.out).mono ?_; rintro e w' ⟨rfl, hx'⟩))
          go_roundw
          case rel => exact ⟨k + 1, _, hlt, by go_num, rfl, ⟨HNEW.out, HN.out.2⟩, by rw [show (S ++ ⟨#[44]⟩ ++ Q : ByteArray) = _ from HNEW.out]; exact HNZ.out, hx.trans hx'⟩
          case measure => simp [intOf]; omega
    · have hke : k = l.length := by omega
      subst hke
      rw [List.take_of_length_le (Nat.le_refl _)] at hS
      have hfin : R = S := by rw [← HR.out, hS.out.1]; unfold qAll; rw [if_pos hS.out.2]
      have HF := Lib.hid hfin
      clear hS hfin HR
      go_wp2
      go_ret
      exact ⟨by rw [HF.out]; rfl, hx⟩
theorem qAll_good {l : List ByteArray} (h : l.all vld = true) : qAll l = str (commas (l.map fun s => quoteL s.data.toList)) := by unfold qAll; rw [if_pos h]
theorem entryKey_bad {e : Ent} (h : (strsE e).all vld = false) : entryKey e = noS := by
  unfold entryKey jwrite entJ
  rw [jvalid_arr]
  rw [if_neg]
  · rfl
  · simp only [strsE, vld, List.all_cons, List.all_nil, Bool.and_true] at h
    simp only [jvalid, List.all_cons, List.all_nil, Bool.and_true]
    simp
    intro h1 h2 h3
    simpa [h1, h2, h3] using h
theorem goodE_all {e : Ent} (h : (strsE e).all vld = true) : goodE e := by
  simp only [strsE, List.all_cons, List.all_nil, Bool.and_true, Bool.and_eq_true] at h
  exact h
theorem entryKey_text {e : Ent} (h : (strsE e).all vld = true) : entryKey e = str [91] ++ qAll (strsE e) ++ str [44] ++ itoaS e.upd ++ str [93] := by
  rw [entryKey_good (goodE_all h), qAll_good h]
  unfold itoaS
  rw [str_app, str_app, str_app, str_app]
  congr 1
  unfold entJ strsE
  rw [jtext_arr]
  simp only [List.map_cons, List.map_nil, jtext_str', jtext_int', commas, List.append_assoc, List.cons_append, List.nil_append]
theorem qAll_ne {l : List ByteArray} (h : l.all vld = true) (hl : l ≠ []) : (qAll l).toList.isEmpty = false := by
  rw [qAll_good h, toList_data, str_list]
  cases l with
  | nil => exact absurd rfl hl
  | cons s t =>
    cases t with
    | nil => rfl
    | cons u r => rfl
theorem qAll_size {l : List ByteArray} (ht : total l ≤ 16777216) (hn : l.length ≤ 1000000) : (qAll l).size ≤ 110000000 := by
  unfold qAll
  split
  · rw [str_size]; have := commas_len l; omega
  · decide
set_option maxRecDepth 100000 in
set_option maxHeartbeats 1000000 in
theorem refEntryKey_any (e : Ent) (w : World) (hok : eok e) :
    Calls Tryz.prog 69 #[.agg (eCells e).toArray] w fun x w' => x = .returned (.string (entryKey e)) ∧ Ext w w' := by
  obtain ⟨hi, hz⟩ := hok
  have hR : RSl ((w.alloc (.cells (eCells e).toArray 23)).alloc (.cells #[.string e.id, .string e.title, .string e.link, .string e.content] 9)) 1 (.slice (some ⟨w.heap.size + 1, 0, none⟩) 4 4) 4 [.string e.id, .string e.title, .string e.link, .string e.content] := by
    have := rsl_new (w := w.alloc (.cells (eCells e).toArray 23)) (size := 1) (n := 4) (e := 9) (cs := [.string e.id, .string e.title, .string e.link, .string e.content]) rfl (by decide)
    rwa [size_alloc] at this
  have htot : total (strsE e) ≤ 16777216 := by simp [total, strsE]; omega
  have HQ := Lib.hid (refQuotes_any _ (strsE e) _ hR htot (by simp [strsE]))
  have HD := Lib.hid (fun w' => decimal_any e.upd w' hi)
  have hqs := qAll_size htot (by simp [strsE])
  have hds : (itoaS e.upd).size ≤ 21 := by unfold itoaS; rw [str_size]; exact Lib.itoa_length_le e.upd hi.1 hi.2
  cases hv : (strsE e).all vld with
  | false =>
    have hk := entryKey_bad hv
    have hq : qAll (strsE e) = noS := by unfold qAll; rw [hv]; rfl
    rw [hq] at HQ
    rw [hk]
    clear hk hq hv hqs hds htot HD hR hz
    obtain ⟨id, title, link, content, upd⟩ := e
    unfold eCells noS at *
    dsimp only at *
    go_enter Tryz.func69, Tryz.ntmps69
    go_wp2_with (first | (go_at_call 93; refine (HQ.out).mono ?_; rintro e w1 ⟨rfl, hx1⟩))
    go_ret
    exact ⟨rfl, (((Ext.refl w).alloc _).alloc _).trans hx1⟩
  | true =>
    have hk := entryKey_text hv
    have hne := qAll_ne hv (by simp [strsE])
    rw [hk]
    clear hk hv htot hR hz
    generalize qAll (strsE e) = Q at *
    generalize itoaS e.upd = D at *
    obtain ⟨id, title, link, content, upd⟩ := e
    unfold eCells at *
    dsimp only at *
    have z1 : 1 + Q.size ≤ 9223372036854775807 := by omega
    have z2 : 1 + Q.size + 1 ≤ 9223372036854775807 := by omega
    have z3 : 1 + Q.size + 1 + D.size ≤ 9223372036854775807 := by omega
    have z4 : 1 + Q.size + 1 + D.size + 1 ≤ 9223372036854775807 := by omega
    go_enter Tryz.func69, Tryz.ntmps69
    go_wp2_with (first
      | (go_at_call 93; refine (HQ.out).mono ?_; rintro e w1 ⟨rfl, hx1⟩; (have c4 := hx1.cell (p := ⟨w.heap.size, 4, none⟩) (((Ext.refl _).alloc _ : Ext (w.alloc _) _).boxed 4 _ rfl)))
      | (go_at_call 94; refine (HD.out _).mono ?_; rintro e w2 ⟨rfl, hx2⟩))
    go_ret
    exact ⟨rfl, ((((Ext.refl w).alloc _).alloc _).trans hx1).trans hx2⟩
theorem laterB_ref (x y : Int) (ka kb : ByteArray) : laterB (iCmp x y) ka kb = (decide (x < y) || (decide (y = x) && !(Op.bytesLess kb.toList ka.toList || kb.toList == ka.toList))) := by
  have key : (!(Op.bytesLess kb.toList ka.toList || kb.toList == ka.toList)) = Op.bytesLess ka.toList kb.toList := by
    cases h : Op.bytesLess ka.toList kb.toList with
    | true =>
      have h1 : Op.bytesLess kb.toList ka.toList = false := by
        cases h' : Op.bytesLess kb.toList ka.toList with
        | false => rfl
        | true => have := bl_trans _ _ _ h h'; rw [bl_irrefl] at this; cases this
      have h2 : (kb.toList == ka.toList) = false := by
        rw [beq_eq_false_iff_ne]
        intro e
        rw [e, bl_irrefl] at h
        cases h
      rw [h1, h2]; rfl
    | false =>
      cases h' : Op.bytesLess kb.toList ka.toList with
      | true => rfl
      | false =>
        have := bl_total _ _ h' h
        rw [this]; simp
  rw [key]
  unfold laterB iCmp
  by_cases h1 : x < y
  · simp [h1]
  · by_cases h2 : y < x
    · have : ¬ y = x := by omega
      simp [h1, h2, this]
    · have : y = x := by omega
      simp [this]
end Go.Proofs.YtgecijhgonfldaaGreatDoor
namespace Go.Proofs.YtgecijhgonfldaaGreatDoor
open Go Go.RowKit
set_option linter.unusedVariables false
set_option maxRecDepth 100000 in
set_option maxHeartbeats 2000000 in
theorem refLater_lt (a b : Ent) (w : World) (ha : eok a) (hb : eok b) (h : a.upd < b.upd) :
    Calls Tryz.prog 39 #[.agg (eCells a).toArray, .agg (eCells b).toArray] w fun x w' => x = .returned (.agg (eCells b).toArray) ∧ Ext w w' := by
  have HKA := Lib.hid (fun w' => refEntryKey_any a w' ha)
  have HKB := Lib.hid (fun w' => refEntryKey_any b w' hb)
  generalize entryKey a = ka at *
  generalize entryKey b = kb at *
  clear ha hb
  obtain ⟨aid, atitle, alink, acontent, aupd⟩ := a
  obtain ⟨bid, btitle, blink, bcontent, bupd⟩ := b
  unfold eCells at *
  dsimp only at *
  have hd := decide_eq_true h
  go_enter Tryz.func39, Tryz.ntmps39
  go_wp2
  obtain ⟨W, hW⟩ : ∃ W, W = ((w.alloc (.cells #[.string aid, .string atitle, .string alink, .string acontent, .int .i64 aupd] 23)).alloc (.cells #[.string bid, .string btitle, .string blink, .string bcontent, .int .i64 bupd] 23)).alloc (.cells #[.string ⟨#[]⟩, .string ⟨#[]⟩, .string ⟨#[]⟩, .string ⟨#[]⟩, .int .i64 0] 23) := ⟨_, rfl⟩
  rw [← hW]
  have hxW : Ext w W := by rw [hW]; exact (((Ext.refl w).alloc _).alloc _).alloc _
  have hkW : ∀ d : Aft W, d.w.heap[w.heap.size + 1 + 1]? = some (.cells #[.string ⟨#[]⟩, .string ⟨#[]⟩, .string ⟨#[]⟩, .string ⟨#[]⟩, .int .i64 0] 23) := by rw [hW]; exact fun d => d.ext.heap (heap_alloc3_new w _ _ _)
  have a0 : ∀ d : Aft W, d.w.cell? ⟨w.heap.size, 0, none⟩ = some (.string aid) := by rw [hW]; exact fun d => boxed3a d 0 _ rfl
  have a1 : ∀ d : Aft W, d.w.cell? ⟨w.heap.size, 1, none⟩ = some (.string atitle) := by rw [hW]; exact fun d => boxed3a d 1 _ rfl
  have a2 : ∀ d : Aft W, d.w.cell? ⟨w.heap.size, 2, none⟩ = some (.string alink) := by rw [hW]; exact fun d => boxed3a d 2 _ rfl
  have a3 : ∀ d : Aft W, d.w.cell? ⟨w.heap.size, 3, none⟩ = some (.string acontent) := by rw [hW]; exact fun d => boxed3a d 3 _ rfl
  have a4 : ∀ d : Aft W, d.w.cell? ⟨w.heap.size, 4, none⟩ = some (.int .i64 aupd) := by rw [hW]; exact fun d => boxed3a d 4 _ rfl
  have b0 : ∀ d : Aft W, d.w.cell? ⟨w.heap.size + 1, 0, none⟩ = some (.string bid) := by rw [hW]; exact fun d => boxed3b d 0 _ rfl
  have b1 : ∀ d : Aft W, d.w.cell? ⟨w.heap.size + 1, 1, none⟩ = some (.string btitle) := by rw [hW]; exact fun d => boxed3b d 1 _ rfl
  have b2 : ∀ d : Aft W, d.w.cell? ⟨w.heap.size + 1, 2, none⟩ = some (.string blink) := by rw [hW]; exact fun d => boxed3b d 2 _ rfl
  have b3 : ∀ d : Aft W, d.w.cell? ⟨w.heap.size + 1, 3, none⟩ = some (.string bcontent) := by rw [hW]; exact fun d => boxed3b d 3 _ rfl
  have b4 : ∀ d : Aft W, d.w.cell? ⟨w.heap.size + 1, 4, none⟩ = some (.int .i64 bupd) := by rw [hW]; exact fun d => boxed3b d 4 _ rfl
  clear hW
  refine wp_region_aft (by kernel_rfl) (by kernel_rfl) ?_
  repeat (first | go_big_quiet_step ((first | (go_at_call 69; with_reducible exact quiet_call (HKA.out _)) | (go_at_call 69; with_reducible exact quiet_call (HKB.out _)))) | quiet_step ((first | (go_at_call 69; with_reducible exact quiet_call (HKA.out _)) | (go_at_call 69; with_reducible exact quiet_call (HKB.out _)))))
  refine wpQuiet_nil ?_
  rintro _ ⟨d1, rfl⟩
  have hkf := hkW d1
  go_wp2_with (first
    | (refine wpList_store_row rfl 23 (.tmp 4) (.tmp 24) rfl (w.heap.size + 1 + 1) _ rfl rfl _ _ hkf size_ent rfl (oneA (eCells_one ⟨bid, btitle, blink, bcontent, bupd⟩)) ?_))
  ((try simp only [Exit.inBlock, Exit.then]); refine bodyPost_ret (results_cell_row rfl _ _ _ _ _ _ _ rfl (setRow_heap _ _ _ _ _ _ hkf) Tryz.underlying23 rfl size_ent) rfl ?_)
  exact ⟨rfl, (hxW.trans d1.ext).setRow (by omega) _⟩
set_option maxRecDepth 100000 in
set_option maxHeartbeats 2000000 in
theorem refLater_eq1 (a b : Ent) (w : World) (ha : eok a) (hb : eok b) (h : ¬ a.upd < b.upd) (h2 : (b.upd == a.upd) = true) (hT : (!(Op.bytesLess (entryKey b).toList (entryKey a).toList || (entryKey b).toList == (entryKey a).toList)) = true) :
    Calls Tryz.prog 39 #[.agg (eCells a).toArray, .agg (eCells b).toArray] w fun x w' => x = .returned (.agg (eCells b).toArray) ∧ Ext w w' := by
  have HKA := Lib.hid (fun w' => refEntryKey_any a w' ha)
  have HKB := Lib.hid (fun w' => refEntryKey_any b w' hb)
  generalize entryKey a = ka at *
  generalize entryKey b = kb at *
  clear ha hb
  obtain ⟨aid, atitle, alink, acontent, aupd⟩ := a
  obtain ⟨bid, btitle, blink, bcontent, bupd⟩ := b
  unfold eCells at *
  dsimp only at *
  have hd := decide_eq_false h
  go_enter Tryz.func39, Tryz.ntmps39
  go_wp2
  obtain ⟨W, hW⟩ : ∃ W, W = ((w.alloc (.cells #[.string aid, .string atitle, .string alink, .string acontent, .int .i64 aupd] 23)).alloc (.cells #[.string bid, .string btitle, .string blink, .string bcontent, .int .i64 bupd] 23)).alloc (.cells #[.string ⟨#[]⟩, .string ⟨#[]⟩, .string ⟨#[]⟩, .string ⟨#[]⟩, .int .i64 0] 23) := ⟨_, rfl⟩
  rw [← hW]
  have hxW : Ext w W := by rw [hW]; exact (((Ext.refl w).alloc _).alloc _).alloc _
  have hkW : ∀ d : Aft W, d.w.heap[w.heap.size + 1 + 1]? = some (.cells #[.string ⟨#[]⟩, .string ⟨#[]⟩, .string ⟨#[]⟩, .string ⟨#[]⟩, .int .i64 0] 23) := by rw [hW]; exact fun d => d.ext.heap (heap_alloc3_new w _ _ _)
  have a0 : ∀ d : Aft W, d.w.cell? ⟨w.heap.size, 0, none⟩ = some (.string aid) := by rw [hW]; exact fun d => boxed3a d 0 _ rfl
  have a1 : ∀ d : Aft W, d.w.cell? ⟨w.heap.size, 1, none⟩ = some (.string atitle) := by rw [hW]; exact fun d => boxed3a d 1 _ rfl
  have a2 : ∀ d : Aft W, d.w.cell? ⟨w.heap.size, 2, none⟩ = some (.string alink) := by rw [hW]; exact fun d => boxed3a d 2 _ rfl
  have a3 : ∀ d : Aft W, d.w.cell? ⟨w.heap.size, 3, none⟩ = some (.string acontent) := by rw [hW]; exact fun d => boxed3a d 3 _ rfl
  have a4 : ∀ d : Aft W, d.w.cell? ⟨w.heap.size, 4, none⟩ = some (.int .i64 aupd) := by rw [hW]; exact fun d => boxed3a d 4 _ rfl
  have b0 : ∀ d : Aft W, d.w.cell? ⟨w.heap.size + 1, 0, none⟩ = some (.string bid) := by rw [hW]; exact fun d => boxed3b d 0 _ rfl
  have b1 : ∀ d : Aft W, d.w.cell? ⟨w.heap.size + 1, 1, none⟩ = some (.string btitle) := by rw [hW]; exact fun d => boxed3b d 1 _ rfl
  have b2 : ∀ d : Aft W, d.w.cell? ⟨w.heap.size + 1, 2, none⟩ = some (.string blink) := by rw [hW]; exact fun d => boxed3b d 2 _ rfl
  have b3 : ∀ d : Aft W, d.w.cell? ⟨w.heap.size + 1, 3, none⟩ = some (.string bcontent) := by rw [hW]; exact fun d => boxed3b d 3 _ rfl
  have b4 : ∀ d : Aft W, d.w.cell? ⟨w.heap.size + 1, 4, none⟩ = some (.int .i64 bupd) := by rw [hW]; exact fun d => boxed3b d 4 _ rfl
  clear hW
  refine wp_region_aft (by kernel_rfl) (by kernel_rfl) ?_
  repeat (first | go_big_quiet_step ((first | (go_at_call 69; with_reducible exact quiet_call (HKA.out _)) | (go_at_call 69; with_reducible exact quiet_call (HKB.out _)))) | quiet_step ((first | (go_at_call 69; with_reducible exact quiet_call (HKA.out _)) | (go_at_call 69; with_reducible exact quiet_call (HKB.out _)))))
  refine wpQuiet_nil ?_
  rintro _ ⟨d1, rfl⟩
  have hkf := hkW d1
  go_wp2_with (first
    | (refine wpList_store_row rfl 23 (.tmp 4) (.tmp 24) rfl (w.heap.size + 1 + 1) _ rfl rfl _ _ hkf size_ent rfl (oneA (eCells_one ⟨bid, btitle, blink, bcontent, bupd⟩)) ?_))
  ((try simp only [Exit.inBlock, Exit.then]); refine bodyPost_ret (results_cell_row rfl _ _ _ _ _ _ _ rfl (setRow_heap _ _ _ _ _ _ hkf) Tryz.underlying23 rfl size_ent) rfl ?_)
  exact ⟨rfl, (hxW.trans d1.ext).setRow (by omega) _⟩
set_option maxRecDepth 100000 in
set_option maxHeartbeats 2000000 in
theorem refLater_eq0 (a b : Ent) (w : World) (ha : eok a) (hb : eok b) (h : ¬ a.upd < b.upd) (h2 : (b.upd == a.upd) = true) (hT : (!(Op.bytesLess (entryKey b).toList (entryKey a).toList || (entryKey b).toList == (entryKey a).toList)) = false) :
    Calls Tryz.prog 39 #[.agg (eCells a).toArray, .agg (eCells b).toArray] w fun x w' => x = .returned (.agg (eCells a).toArray) ∧ Ext w w' := by
  have HKA := Lib.hid (fun w' => refEntryKey_any a w' ha)
  have HKB := Lib.hid (fun w' => refEntryKey_any b w' hb)
  generalize entryKey a = ka at *
  generalize entryKey b = kb at *
  clear ha hb
  obtain ⟨aid, atitle, alink, acontent, aupd⟩ := a
  obtain ⟨bid, btitle, blink, bcontent, bupd⟩ := b
  unfold eCells at *
  dsimp only at *
  have hd := decide_eq_false h
  go_enter Tryz.func39, Tryz.ntmps39
  go_wp2
  obtain ⟨W, hW⟩ : ∃ W, W = ((w.alloc (.cells #[.string aid, .string atitle, .string alink, .string acontent, .int .i64 aupd] 23)).alloc (.cells #[.string bid, .string btitle, .string blink, .string bcontent, .int .i64 bupd] 23)).alloc (.cells #[.string ⟨#[]⟩, .string ⟨#[]⟩, .string ⟨#[]⟩, .string ⟨#[]⟩, .int .i64 0] 23) := ⟨_, rfl⟩
  rw [← hW]
  have hxW : Ext w W := by rw [hW]; exact (((Ext.refl w).alloc _).alloc _).alloc _
  have hkW : ∀ d : Aft W, d.w.heap[w.heap.size + 1 + 1]? = some (.cells #[.string ⟨#[]⟩, .string ⟨#[]⟩, .string ⟨#[]⟩, .string ⟨#[]⟩, .int .i64 0] 23) := by rw [hW]; exact fun d => d.ext.heap (heap_alloc3_new w _ _ _)
  have a0 : ∀ d : Aft W, d.w.cell? ⟨w.heap.size, 0, none⟩ = some (.string aid) := by rw [hW]; exact fun d => boxed3a d 0 _ rfl
  have a1 : ∀ d : Aft W, d.w.cell? ⟨w.heap.size, 1, none⟩ = some (.string atitle) := by rw [hW]; exact fun d => boxed3a d 1 _ rfl
  have a2 : ∀ d : Aft W, d.w.cell? ⟨w.heap.size, 2, none⟩ = some (.string alink) := by rw [hW]; exact fun d => boxed3a d 2 _ rfl
  have a3 : ∀ d : Aft W, d.w.cell? ⟨w.heap.size, 3, none⟩ = some (.string acontent) := by rw [hW]; exact fun d => boxed3a d 3 _ rfl
  have a4 : ∀ d : Aft W, d.w.cell? ⟨w.heap.size, 4, none⟩ = some (.int .i64 aupd) := by rw [hW]; exact fun d => boxed3a d 4 _ rfl
  have b0 : ∀ d : Aft W, d.w.cell? ⟨w.heap.size + 1, 0, none⟩ = some (.string bid) := by rw [hW]; exact fun d => boxed3b d 0 _ rfl
  have b1 : ∀ d : Aft W, d.w.cell? ⟨w.heap.size + 1, 1, none⟩ = some (.string btitle) := by rw [hW]; exact fun d => boxed3b d 1 _ rfl
  have b2 : ∀ d : Aft W, d.w.cell? ⟨w.heap.size + 1, 2, none⟩ = some (.string blink) := by rw [hW]; exact fun d => boxed3b d 2 _ rfl
  have b3 : ∀ d : Aft W, d.w.cell? ⟨w.heap.size + 1, 3, none⟩ = some (.string bcontent) := by rw [hW]; exact fun d => boxed3b d 3 _ rfl
  have b4 : ∀ d : Aft W, d.w.cell? ⟨w.heap.size + 1, 4, none⟩ = some (.int .i64 bupd) := by rw [hW]; exact fun d => boxed3b d 4 _ rfl
  clear hW
  refine wp_region_aft (by kernel_rfl) (by kernel_rfl) ?_
  repeat (first | go_big_quiet_step ((first | (go_at_call 69; with_reducible exact quiet_call (HKA.out _)) | (go_at_call 69; with_reducible exact quiet_call (HKB.out _)))) | quiet_step ((first | (go_at_call 69; with_reducible exact quiet_call (HKA.out _)) | (go_at_call 69; with_reducible exact quiet_call (HKB.out _)))))
  refine wpQuiet_nil ?_
  rintro _ ⟨d1, rfl⟩
  have hkf := hkW d1
  go_wp2_with (first
    | (refine wpList_store_row rfl 23 (.tmp 4) (.tmp 25) rfl (w.heap.size + 1 + 1) _ rfl rfl _ _ hkf size_ent rfl (oneA (eCells_one ⟨aid, atitle, alink, acontent, aupd⟩)) ?_))
  ((try simp only [Exit.inBlock, Exit.then]); refine bodyPost_ret (results_cell_row rfl _ _ _ _ _ _ _ rfl (setRow_heap _ _ _ _ _ _ hkf) Tryz.underlying23 rfl size_ent) rfl ?_)
  exact ⟨rfl, (hxW.trans d1.ext).setRow (by omega) _⟩
set_option maxRecDepth 100000 in
set_option maxHeartbeats 2000000 in
theorem refLater_gt (a b : Ent) (w : World) (ha : eok a) (hb : eok b) (h : ¬ a.upd < b.upd) (h2 : (b.upd == a.upd) = false) :
    Calls Tryz.prog 39 #[.agg (eCells a).toArray, .agg (eCells b).toArray] w fun x w' => x = .returned (.agg (eCells a).toArray) ∧ Ext w w' := by
  have HKA := Lib.hid (fun w' => refEntryKey_any a w' ha)
  have HKB := Lib.hid (fun w' => refEntryKey_any b w' hb)
  generalize entryKey a = ka at *
  generalize entryKey b = kb at *
  clear ha hb
  obtain ⟨aid, atitle, alink, acontent, aupd⟩ := a
  obtain ⟨bid, btitle, blink, bcontent, bupd⟩ := b
  unfold eCells at *
  dsimp only at *
  have hd := decide_eq_false h
  go_enter Tryz.func39, Tryz.ntmps39
  go_wp2
  obtain ⟨W, hW⟩ : ∃ W, W = ((w.alloc (.cells #[.string aid, .string atitle, .string alink, .string acontent, .int .i64 aupd] 23)).alloc (.cells #[.string bid, .string btitle, .string blink, .string bcontent, .int .i64 bupd] 23)).alloc (.cells #[.string ⟨#[]⟩, .string ⟨#[]⟩, .string ⟨#[]⟩, .string ⟨#[]⟩, .int .i64 0] 23) := ⟨_, rfl⟩
  rw [← hW]
  have hxW : Ext w W := by rw [hW]; exact (((Ext.refl w).alloc _).alloc _).alloc _
  have hkW : ∀ d : Aft W, d.w.heap[w.heap.size + 1 + 1]? = some (.cells #[.string ⟨#[]⟩, .string ⟨#[]⟩, .string ⟨#[]⟩, .string ⟨#[]⟩, .int .i64 0] 23) := by rw [hW]; exact fun d => d.ext.heap (heap_alloc3_new w _ _ _)
  have a0 : ∀ d : Aft W, d.w.cell? ⟨w.heap.size, 0, none⟩ = some (.string aid) := by rw [hW]; exact fun d => boxed3a d 0 _ rfl
  have a1 : ∀ d : Aft W, d.w.cell? ⟨w.heap.size, 1, none⟩ = some (.string atitle) := by rw [hW]; exact fun d => boxed3a d 1 _ rfl
  have a2 : ∀ d : Aft W, d.w.cell? ⟨w.heap.size, 2, none⟩ = some (.string alink) := by rw [hW]; exact fun d => boxed3a d 2 _ rfl
  have a3 : ∀ d : Aft W, d.w.cell? ⟨w.heap.size, 3, none⟩ = some (.string acontent) := by rw [hW]; exact fun d => boxed3a d 3 _ rfl
  have a4 : ∀ d : Aft W, d.w.cell? ⟨w.heap.size, 4, none⟩ = some (.int .i64 aupd) := by rw [hW]; exact fun d => boxed3a d 4 _ rfl
  have b0 : ∀ d : Aft W, d.w.cell? ⟨w.heap.size + 1, 0, none⟩ = some (.string bid) := by rw [hW]; exact fun d => boxed3b d 0 _ rfl
  have b1 : ∀ d : Aft W, d.w.cell? ⟨w.heap.size + 1, 1, none⟩ = some (.string btitle) := by rw [hW]; exact fun d => boxed3b d 1 _ rfl
  have b2 : ∀ d : Aft W, d.w.cell? ⟨w.heap.size + 1, 2, none⟩ = some (.string blink) := by rw [hW]; exact fun d => boxed3b d 2 _ rfl
  have b3 : ∀ d : Aft W, d.w.cell? ⟨w.heap.size + 1, 3, none⟩ = some (.string bcontent) := by rw [hW]; exact fun d => boxed3b d 3 _ rfl
  have b4 : ∀ d : Aft W, d.w.cell? ⟨w.heap.size + 1, 4, none⟩ = some (.int .i64 bupd) := by rw [hW]; exact fun d => boxed3b d 4 _ rfl
  clear hW
  refine wp_region_aft (by kernel_rfl) (by kernel_rfl) ?_
  repeat (first | go_big_quiet_step ((first | (go_at_call 69; with_reducible exact quiet_call (HKA.out _)) | (go_at_call 69; with_reducible exact quiet_call (HKB.out _)))) | quiet_step ((first | (go_at_call 69; with_reducible exact quiet_call (HKA.out _)) | (go_at_call 69; with_reducible exact quiet_call (HKB.out _)))))
  refine wpQuiet_nil ?_
  rintro _ ⟨d1, rfl⟩
  have hkf := hkW d1
  go_wp2_with (first
    | (refine wpList_store_row rfl 23 (.tmp 4) (.tmp 25) rfl (w.heap.size + 1 + 1) _ rfl rfl _ _ hkf size_ent rfl (oneA (eCells_one ⟨aid, atitle, alink, acontent, aupd⟩)) ?_))
  ((try simp only [Exit.inBlock, Exit.then]); refine bodyPost_ret (results_cell_row rfl _ _ _ _ _ _ _ rfl (setRow_heap _ _ _ _ _ _ hkf) Tryz.underlying23 rfl size_ent) rfl ?_)
  exact ⟨rfl, (hxW.trans d1.ext).setRow (by omega) _⟩
theorem refLater_any (a b : Ent) (w : World) (ha : eok a) (hb : eok b) :
    Calls Tryz.prog 39 #[.agg (eCells a).toArray, .agg (eCells b).toArray] w fun x w' => x = .returned (.agg (eCells (laterE a b)).toArray) ∧ Ext w w' := by
  have hL := laterB_ref a.upd b.upd (entryKey a) (entryKey b)
  by_cases h : a.upd < b.upd
  · have e : laterE a b = b := by unfold laterE; rw [hL, if_pos]; simp [h]
    rw [e]; exact refLater_lt a b w ha hb h
  · cases h2 : (b.upd == a.upd) with
    | false =>
      have h2' : ¬ b.upd = a.upd := by simpa using h2
      have e : laterE a b = a := by unfold laterE; rw [hL, if_neg]; simp [h, h2']
      rw [e]; exact refLater_gt a b w ha hb h h2
    | true =>
      have h2' : b.upd = a.upd := by simpa using h2
      cases hT : (!(Op.bytesLess (entryKey b).toList (entryKey a).toList || (entryKey b).toList == (entryKey a).toList)) with
      | true =>
        have e : laterE a b = b := by unfold laterE; rw [hL, hT, if_pos]; simp [h2']
        rw [e]; exact refLater_eq1 a b w ha hb h h2 hT
      | false =>
        have e : laterE a b = a := by unfold laterE; rw [hL, hT, if_neg]; simp [h2']
        rw [e]; exact refLater_eq0 a b w ha hb h h2 hT
end Go.Proofs.YtgecijhgonfldaaGreatDoor
