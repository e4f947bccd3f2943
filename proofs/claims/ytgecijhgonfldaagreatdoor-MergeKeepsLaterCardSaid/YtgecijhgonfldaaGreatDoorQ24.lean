/- Parts of the proof: contracts and plain laws that the statement needs. -/
import Derived.Test.YtgecijhgonfldaaGreatDoorQ11
import Derived.Test.YtgecijhgonfldaaGreatDoorQ13
import Derived.Test.YtgecijhgonfldaaGreatDoorQ17
import Derived.Test.YtgecijhgonfldaaGreatDoorQ10
import Derived.Test.YtgecijhgonfldaaGreatDoorQ14
namespace Go.Proofs.YtgecijhgonfldaaGreatDoor
open Go Go.RowKit
set_option linter.unusedVariables false
theorem feedKey_text {f : Fd} (h : f.path.all vld = true) (k : [f.id, f.title, f.link].all vld = true) :
    feedKey f = str [91, 91] ++ qAll f.path ++ str [93, 44] ++ qAll [f.id, f.title, f.link] ++ str [44] ++ itoaS f.upd ++ str [93] := by
  have hg : goodH f := by
    simp only [List.all_cons, List.all_nil, Bool.and_true, Bool.and_eq_true] at k
    exact ⟨fun p hp => List.all_eq_true.1 h p hp, k⟩
  rw [feedKey_good hg, qAll_good h, qAll_good k]
  unfold itoaS
  rw [str_app, str_app, str_app, str_app, str_app, str_app]
  congr 1
  unfold feedJ
  rw [jtext_arr]
  simp only [List.map_cons, List.map_nil, jtext_arr, jtext_str', jtext_int', List.map_map]
  have e : (f.path.map (jtext ∘ JV.str)) = f.path.map fun s => quoteL s.data.toList := List.map_congr_left fun s _ => jtext_str' s
  rw [e]
  simp only [commas, List.append_assoc, List.cons_append, List.nil_append]
theorem feedKey_bad {f : Fd} (h : f.path.all vld = false ∨ [f.id, f.title, f.link].all vld = false) : feedKey f = noS := by
  unfold feedKey jwrite feedJ
  rw [jvalid_arr, if_neg]
  · rfl
  · intro hv
    simp only [List.all_cons, List.all_nil, Bool.and_true, Bool.and_eq_true, jvalid_arr, List.all_map] at hv
    obtain ⟨_, ⟨_, h1⟩, h2, h3, h4, _⟩ := hv
    have q1 : f.path.all vld = true := by
      rw [List.all_eq_true] at h1 ⊢
      intro p hp
      have := h1 p hp
      simpa [jvalid, vld] using this
    have q2 : [f.id, f.title, f.link].all vld = true := by
      simp only [jvalid] at h2 h3 h4
      simp only [List.all_cons, List.all_nil, Bool.and_true, Bool.and_eq_true, vld]
      exact ⟨h2, h3, h4⟩
    rcases h with h | h
    · rw [q1] at h; cases h
    · rw [q2] at h; cases h
theorem total_sizes (l : List ByteArray) : total l = sizes l := rfl
set_option maxRecDepth 100000 in
set_option maxHeartbeats 2000000 in
theorem refFeedKey_any (p es : Value) (f : Fd) (w : World) (hok : fok f) (hpn : f.path.length ≤ 1000000) (hp : RStrs w p f.path) (he : isSl es) :
    Calls Tryz.prog 68 #[.agg (fCells p es f).toArray] w fun x w' => x = .returned (.string (feedKey f)) ∧ Ext w w' := by
  obtain ⟨hi, hz⟩ := hok
  obtain ⟨A, c, rfl, -, -⟩ := hp.form
  obtain ⟨B, m, d, rfl⟩ := he
  have HQ1 := Lib.hid (refQuotes_any _ f.path _ (hp.ext ((Ext.refl w).alloc (.cells (fCells (.slice A f.path.length c) (.slice B m d) f).toArray 35))) (by rw [total_sizes]; omega) hpn)
  have ht3 : total [f.id, f.title, f.link] ≤ 16777216 := by simp [total]; omega
  have HQ2 := Lib.hid (fun (w' : World) (v : Value) (h : RSl w' 1 v 3 [.string f.id, .string f.title, .string f.link]) => refQuotes_any v [f.id, f.title, f.link] w' h ht3 (by simp))
  have HD := Lib.hid (fun w' => decimal_any f.upd w' hi)
  have hqs := qAll_size (l := f.path) (by rw [total_sizes]; omega) hpn
  have hqs3 := qAll_size ht3 (by simp)
  have hds : (itoaS f.upd).size ≤ 21 := by unfold itoaS; rw [str_size]; exact Lib.itoa_length_le f.upd hi.1 hi.2
  have hnil : f.path.all vld = false → ¬ f.path = [] := fun h e => by rw [e] at h; cases h
  cases hv : [f.id, f.title, f.link].all vld with
  | false =>
    have hk := feedKey_bad (Or.inr hv)
    have hq : qAll [f.id, f.title, f.link] = noS := by unfold qAll; rw [hv]; rfl
    rw [hq] at HQ2
    rw [hk]
    clear hk hq hv hqs hqs3 hds ht3 HD hz hp hnil
    generalize qAll f.path = P at *
    obtain ⟨path, id, title, link, upd, ents⟩ := f
    unfold fCells noS at *
    dsimp only at *
    go_enter Tryz.func68, Tryz.ntmps68
    go_wp2_with (first
      | (go_at_call 93; (have hz := HQ1.out); (with_reducible refine Calls.mono hz ?_); clear hz; rintro e w1 ⟨rfl, hx1⟩; (have k1 := hx1.boxed 1 _ rfl); (have k2 := hx1.boxed 2 _ rfl); (have k3 := hx1.boxed 3 _ rfl))
      | (go_at_call 93; (have hz := HQ2.out _ _ (rsl_new (w := w1) (size := 1) (n := 3) (e := 9) (cs := [.string id, .string title, .string link]) rfl (by decide))); (with_reducible refine Calls.mono hz ?_); clear hz; rintro e w2 ⟨rfl, hx2⟩))
    go_ret
    exact ⟨rfl, (((Ext.refl w).alloc _).trans hx1).trans (((Ext.refl w1).alloc _).trans hx2)⟩
  | true =>
    have hne := qAll_ne hv (by simp)
    cases hv2 : f.path.all vld with
    | false =>
      have hk := feedKey_bad (Or.inl hv2)
      have hq : qAll f.path = noS := by unfold qAll; rw [hv2]; rfl
      have hlen : (0 : Int) < (f.path.length : Int) := by
        have := List.length_pos_iff.2 (hnil hv2)
        omega
      rw [hq] at HQ1
      rw [hk]
      clear hk hq hv hv2 hqs hqs3 hds ht3 HD hz hp hnil
      generalize qAll [f.id, f.title, f.link] = Q at *
      obtain ⟨path, id, title, link, upd, ents⟩ := f
      unfold fCells noS at *
      dsimp only at *
      go_enter Tryz.func68, Tryz.ntmps68
      go_wp2_with (first
        | (go_at_call 93; (have hz := HQ1.out); (with_reducible refine Calls.mono hz ?_); clear hz; rintro e w1 ⟨rfl, hx1⟩; (have k1 := hx1.boxed 1 _ rfl); (have k2 := hx1.boxed 2 _ rfl); (have k3 := hx1.boxed 3 _ rfl))
        | (go_at_call 93; (have hz := HQ2.out _ _ (rsl_new (w := w1) (size := 1) (n := 3) (e := 9) (cs := [.string id, .string title, .string link]) rfl (by decide))); (with_reducible refine Calls.mono hz ?_); clear hz; rintro e w2 ⟨rfl, hx2⟩; (have k0 := (hx1.trans (((Ext.refl w1).alloc _).trans hx2)).boxed 0 _ rfl)))
      go_ret
      exact ⟨rfl, (((Ext.refl w).alloc _).trans hx1).trans (((Ext.refl w1).alloc _).trans hx2)⟩
    | true =>
      have hk := feedKey_text hv2 hv
      rw [hk]
      have z1 : 2 + (qAll f.path).size ≤ 9223372036854775807 := by omega
      have z2 : 2 + (qAll f.path).size + 2 ≤ 9223372036854775807 := by omega
      have z3 : 2 + (qAll f.path).size + 2 + (qAll [f.id, f.title, f.link]).size ≤ 9223372036854775807 := by omega
      have z4 : 2 + (qAll f.path).size + 2 + (qAll [f.id, f.title, f.link]).size + 1 ≤ 9223372036854775807 := by omega
      have z5 : 2 + (qAll f.path).size + 2 + (qAll [f.id, f.title, f.link]).size + 1 + (itoaS f.upd).size ≤ 9223372036854775807 := by omega
      have z6 : 2 + (qAll f.path).size + 2 + (qAll [f.id, f.title, f.link]).size + 1 + (itoaS f.upd).size + 1 ≤ 9223372036854775807 := by omega
      clear hk hv ht3 hz hnil hqs hqs3 hds
      rcases Nat.eq_zero_or_pos f.path.length with hl0 | hl0
      · have hpe : f.path = [] := List.eq_nil_of_length_eq_zero hl0
        have hq : qAll f.path = ⟨#[]⟩ := by rw [hpe]; rfl
        have hlen : ¬ (0 : Int) < (f.path.length : Int) := by omega
        rw [hq] at HQ1 z1 z2 z3 z4 z5 z6 ⊢
        clear hq hpe hv2 hp hl0
        generalize qAll [f.id, f.title, f.link] = Q at *
        generalize itoaS f.upd = D at *
        obtain ⟨path, id, title, link, upd, ents⟩ := f
        unfold fCells at *
        dsimp only at *
        go_enter Tryz.func68, Tryz.ntmps68
        go_wp2_with (first
          | (go_at_call 93; (have hz := HQ1.out); (with_reducible refine Calls.mono hz ?_); clear hz; rintro e w1 ⟨rfl, hx1⟩; (have k1 := hx1.boxed 1 _ rfl); (have k2 := hx1.boxed 2 _ rfl); (have k3 := hx1.boxed 3 _ rfl))
          | (go_at_call 93; (have hz := HQ2.out _ _ (rsl_new (w := w1) (size := 1) (n := 3) (e := 9) (cs := [.string id, .string title, .string link]) rfl (by decide))); (with_reducible refine Calls.mono hz ?_); clear hz; rintro e w2 ⟨rfl, hx2⟩; (have k0 := (hx1.trans (((Ext.refl w1).alloc _).trans hx2)).boxed 0 _ rfl); (have k4 := (hx1.trans (((Ext.refl w1).alloc _).trans hx2)).boxed 4 _ rfl))
          | (go_at_call 94; refine (HD.out _).mono ?_; rintro e w3 ⟨rfl, hx3⟩))
        go_ret
        exact ⟨rfl, ((((Ext.refl w).alloc _).trans hx1).trans (((Ext.refl w1).alloc _).trans hx2)).trans hx3⟩
      · have hne2 := qAll_ne hv2 (fun e => by rw [e] at hl0; simp at hl0)
        clear hv2 hp
        generalize qAll [f.id, f.title, f.link] = Q at *
        generalize qAll f.path = P at *
        generalize itoaS f.upd = D at *
        obtain ⟨path, id, title, link, upd, ents⟩ := f
        unfold fCells at *
        dsimp only at *
        go_enter Tryz.func68, Tryz.ntmps68
        go_wp2_with (first
          | (go_at_call 93; (have hz := HQ1.out); (with_reducible refine Calls.mono hz ?_); clear hz; rintro e w1 ⟨rfl, hx1⟩; (have k1 := hx1.boxed 1 _ rfl); (have k2 := hx1.boxed 2 _ rfl); (have k3 := hx1.boxed 3 _ rfl))
          | (go_at_call 93; (have hz := HQ2.out _ _ (rsl_new (w := w1) (size := 1) (n := 3) (e := 9) (cs := [.string id, .string title, .string link]) rfl (by decide))); (with_reducible refine Calls.mono hz ?_); clear hz; rintro e w2 ⟨rfl, hx2⟩; (have k0 := (hx1.trans (((Ext.refl w1).alloc _).trans hx2)).boxed 0 _ rfl); (have k4 := (hx1.trans (((Ext.refl w1).alloc _).trans hx2)).boxed 4 _ rfl))
          | (go_at_call 94; refine (HD.out _).mono ?_; rintro e w3 ⟨rfl, hx3⟩))
        go_ret
        exact ⟨rfl, ((((Ext.refl w).alloc _).trans hx1).trans (((Ext.refl w1).alloc _).trans hx2)).trans hx3⟩
end Go.Proofs.YtgecijhgonfldaaGreatDoor
namespace Go.Proofs.YtgecijhgonfldaaGreatDoor
open Go Go.RowKit
set_option linter.unusedVariables false
theorem boxed4a {w : World} {A : Array Value} {t : TypeId} {fr : Nat × Nat} {B C D : Obj} (d : Aft ((((w.alloc (.cells A t fr)).alloc B).alloc C).alloc D)) (i : Nat) (v : Value) (hv : A[i]? = some v) : d.w.cell? ⟨w.heap.size, i, none⟩ = some v :=
  Ext.boxed ((((Ext.refl _).alloc B).alloc C).alloc D |>.trans d.ext) i v hv
theorem boxed4b {w : World} {B : Array Value} {t : TypeId} {fr : Nat × Nat} {A C D : Obj} (d : Aft ((((w.alloc A).alloc (.cells B t fr)).alloc C).alloc D)) (i : Nat) (v : Value) (hv : B[i]? = some v) : d.w.cell? ⟨w.heap.size + 1, i, none⟩ = some v := by
  have h := Ext.boxed (w := w.alloc A) ((((Ext.refl _).alloc C).alloc D).trans d.ext) i v hv
  rwa [size_alloc] at h
theorem heap_alloc4_new (w : World) (A B C D : Obj) : ((((w.alloc A).alloc B).alloc C).alloc D).heap[w.heap.size + 1 + 1 + 1]? = some D := by
  have h := heap_alloc_new (((w.alloc A).alloc B).alloc C) D
  simpa only [size_alloc] using h
theorem gtS (x y : ByteArray) : (!(Op.bytesLess x.toList y.toList || x.toList == y.toList)) = Op.bytesLess y.toList x.toList := by
  rw [Bool.eq_iff_iff]
  constructor
  · intro h
    simp only [Bool.not_eq_true', Bool.or_eq_false_iff, beq_eq_false_iff_ne] at h
    cases hh : Op.bytesLess y.toList x.toList with
    | true => rfl
    | false => exact absurd (bl_total _ _ h.1 hh) h.2
  · intro h
    simp only [Bool.not_eq_true', Bool.or_eq_false_iff, beq_eq_false_iff_ne]
    refine ⟨?_, fun e => ?_⟩
    · cases hh : Op.bytesLess x.toList y.toList with
      | false => rfl
      | true => have := bl_trans _ _ _ h hh; rw [bl_irrefl] at this; cases this
    · rw [e, bl_irrefl] at h; cases h
theorem str_oneR (l : List ByteArray) : ∀ u ∈ l.map Value.string, u.oneCell' = true := by
  intro u hu
  obtain ⟨s, _, rfl⟩ := List.mem_map.1 hu
  rfl
set_option maxRecDepth 100000 in
set_option maxHeartbeats 4000000 in
theorem refLaterF_lt (a b : Fc) (w : World) (ha : fok a.f) (hb : fok b.f) (han : a.f.path.length ≤ 1000000) (hbn : b.f.path.length ≤ 1000000) (hra : RdC w a) (hrb : RdC w b) (h : a.f.upd < b.f.upd) :
    Calls Tryz.prog 37 #[.agg (cellsC a).toArray, .agg (cellsC b).toArray] w fun x w' => ∃ p' : Value, x = .returned (.agg (fCells p' (.slice none 0 0) b.f).toArray) ∧ RStrs w' p' b.f.path ∧ (∀ q, q < w.heap.size → b.f.path = [] ∨ p'.ownBlock ≠ some q) ∧ Ext w w' := by
  obtain ⟨i0, hi0, hz0, hz1, hz2⟩ := info_parts info_str
  have hpr := hrb.1
  have hsa := hra.sl
  have hsb := hrb.sl
  have hka := fun (w' : World) (h : Ext w w') => refFeedKey_any a.p a.es a.f w' ha han (hra.1.ext h) hra.sl.2
  have hkb := fun (w' : World) (h : Ext w w') => refFeedKey_any b.p b.es b.f w' hb hbn (hrb.1.ext h) hrb.sl.2
  have hrn : b.f.path.length ≤ 1000000 := hbn
  generalize feedKey a.f = ka at *
  generalize feedKey b.f = kb at *
  clear ha hb han hbn hra hrb
  obtain ⟨PP, hPP⟩ : ∃ PP, b.f.path = PP := ⟨_, rfl⟩
  rw [hPP] at hpr hrn ⊢
  obtain ⟨ap, aes, ⟨apath, aid, atitle, alink, aupd, aents⟩⟩ := a
  obtain ⟨bp, bes, ⟨bpath, bid, btitle, blink, bupd, bents⟩⟩ := b
  obtain ⟨⟨aA, an, ac, hap⟩, ⟨aB, am, ad, hae⟩⟩ := hsa
  obtain ⟨⟨bA, bn, bc, hbp⟩, ⟨bB, bm, bd, hbe⟩⟩ := hsb
  dsimp only at *
  subst hap hae hbp hbe
  clear hPP
  unfold cellsC fCells at *
  dsimp only at *
  have hd := decide_eq_true h
  go_enter Tryz.func37, Tryz.ntmps37
  go_wp2
  obtain ⟨W, hW⟩ : ∃ W, W = (((w.alloc (.cells #[.slice aA an ac, .string aid, .string atitle, .string alink, .int .i64 aupd, .slice aB am ad] 35)).alloc (.cells #[.slice bA bn bc, .string bid, .string btitle, .string blink, .int .i64 bupd, .slice bB bm bd] 35)).alloc (.cells #[.slice none 0 0, .string ⟨#[]⟩, .string ⟨#[]⟩, .string ⟨#[]⟩, .int .i64 0, .slice none 0 0] 35)).alloc (.cells #[.slice aA an ac, .string aid, .string atitle, .string alink, .int .i64 aupd, .slice aB am ad] 35) := ⟨_, rfl⟩
  rw [← hW]
  have hxW : Ext w W := by rw [hW]; exact ((((Ext.refl w).alloc _).alloc _).alloc _).alloc _
  have hsW : W.heap.size = w.heap.size + 1 + 1 + 1 + 1 := by rw [hW]; simp only [size_alloc]
  have hkW : ∀ d : Aft W, d.w.heap[w.heap.size + 1 + 1]? = some (.cells #[.slice none 0 0, .string ⟨#[]⟩, .string ⟨#[]⟩, .string ⟨#[]⟩, .int .i64 0, .slice none 0 0] 35) := by rw [hW]; exact fun d => (((Ext.refl _).alloc _).trans d.ext).heap (heap_alloc3_new w _ _ _)
  have hk5W : ∀ d : Aft W, d.w.heap[w.heap.size + 1 + 1 + 1]? = some (.cells #[.slice aA an ac, .string aid, .string atitle, .string alink, .int .i64 aupd, .slice aB am ad] 35) := by rw [hW]; exact fun d => d.ext.heap (heap_alloc4_new w _ _ _ _)
  have HKA := Lib.hid (fun (d : Aft W) => hka d.w (hxW.trans d.ext))
  have HKB := Lib.hid (fun (d : Aft W) => hkb d.w (hxW.trans d.ext))
  have a0 : ∀ d : Aft W, d.w.cell? ⟨w.heap.size, 0, none⟩ = some (.slice aA an ac) := by rw [hW]; exact fun d => boxed4a d 0 _ rfl
  have a1 : ∀ d : Aft W, d.w.cell? ⟨w.heap.size, 1, none⟩ = some (.string aid) := by rw [hW]; exact fun d => boxed4a d 1 _ rfl
  have a2 : ∀ d : Aft W, d.w.cell? ⟨w.heap.size, 2, none⟩ = some (.string atitle) := by rw [hW]; exact fun d => boxed4a d 2 _ rfl
  have a3 : ∀ d : Aft W, d.w.cell? ⟨w.heap.size, 3, none⟩ = some (.string alink) := by rw [hW]; exact fun d => boxed4a d 3 _ rfl
  have a4 : ∀ d : Aft W, d.w.cell? ⟨w.heap.size, 4, none⟩ = some (.int .i64 aupd) := by rw [hW]; exact fun d => boxed4a d 4 _ rfl
  have a5 : ∀ d : Aft W, d.w.cell? ⟨w.heap.size, 5, none⟩ = some (.slice aB am ad) := by rw [hW]; exact fun d => boxed4a d 5 _ rfl
  have b0 : ∀ d : Aft W, d.w.cell? ⟨w.heap.size + 1, 0, none⟩ = some (.slice bA bn bc) := by rw [hW]; exact fun d => boxed4b d 0 _ rfl
  have b1 : ∀ d : Aft W, d.w.cell? ⟨w.heap.size + 1, 1, none⟩ = some (.string bid) := by rw [hW]; exact fun d => boxed4b d 1 _ rfl
  have b2 : ∀ d : Aft W, d.w.cell? ⟨w.heap.size + 1, 2, none⟩ = some (.string btitle) := by rw [hW]; exact fun d => boxed4b d 2 _ rfl
  have b3 : ∀ d : Aft W, d.w.cell? ⟨w.heap.size + 1, 3, none⟩ = some (.string blink) := by rw [hW]; exact fun d => boxed4b d 3 _ rfl
  have b4 : ∀ d : Aft W, d.w.cell? ⟨w.heap.size + 1, 4, none⟩ = some (.int .i64 bupd) := by rw [hW]; exact fun d => boxed4b d 4 _ rfl
  have b5 : ∀ d : Aft W, d.w.cell? ⟨w.heap.size + 1, 5, none⟩ = some (.slice bB bm bd) := by rw [hW]; exact fun d => boxed4b d 5 _ rfl
  clear hW hka hkb
  refine wp_region_aft (by kernel_rfl) (by kernel_rfl) ?_
  repeat (first | go_big_quiet_step ((first | (go_at_call 68; with_reducible exact quiet_call (HKA.out _)) | (go_at_call 68; with_reducible exact quiet_call (HKB.out _)))) | quiet_step ((first | (go_at_call 68; with_reducible exact quiet_call (HKA.out _)) | (go_at_call 68; with_reducible exact quiet_call (HKB.out _)))))
  refine wpQuiet_nil ?_
  rintro _ ⟨d1, rfl⟩
  have hkf := hkW d1
  have hk5 := hk5W d1
  have hx1 := hxW.trans d1.ext
  have hs1 := d1.ext.size
  rw [hsW] at hs1
  have g0 := b0 d1
  have g1 := b1 d1
  have g2 := b2 d1
  have g3 := b3 d1
  have g4 := b4 d1
  have g5 := b5 d1
  clear a0 a1 a2 a3 a4 a5 b0 b1 b2 b3 b4 b5 hkW hk5W HKA HKB
  have HML : Hid (0 + PP.length ≤ maxLen) := Lib.hid (by unfold maxLen; omega)
  have HBY : Hid ((0 + PP.length) * 16 ≤ 140737488355328) := Lib.hid (by omega)
  obtain ⟨X, hX⟩ : ∃ X, X = (d1.w.setRow (w.heap.size + 1 + 1 + 1) #[.slice bA bn bc, .string bid, .string btitle, .string blink, .int .i64 bupd, .slice bB bm bd]) := ⟨_, rfl⟩
  have hxX : Ext w X := by rw [hX]; exact hx1.setRow (by omega) _
  have hsX : w.heap.size + 1 + 1 + 1 + 1 ≤ X.heap.size := by rw [hX]; simpa [World.setRow] using hs1
  have hkX : X.heap[w.heap.size + 1 + 1]? = some (.cells #[.slice none 0 0, .string ⟨#[]⟩, .string ⟨#[]⟩, .string ⟨#[]⟩, .int .i64 0, .slice none 0 0] 35) := by rw [hX]; exact (setRow_other _ _ _ _ (by omega)).trans hkf
  have h5X : X.heap[w.heap.size + 1 + 1 + 1]? = some (.cells #[.slice bA bn bc, .string bid, .string btitle, .string blink, .int .i64 bupd, .slice bB bm bd] 35) := by rw [hX]; exact setRow_heap _ _ _ _ _ _ hk5
  have q0 : X.cell? ⟨w.heap.size + 1 + 1 + 1, 0, none⟩ = some (.slice bA bn bc) := by rw [cell_of_row _ _ _ _ _ _ h5X]; rfl
  have qA : (((d1.w.setRow (w.heap.size + 1 + 1 + 1) #[.slice bA bn bc, .string bid, .string btitle, .string blink, .int .i64 bupd, .slice bB bm bd])).alloc (.cells #[] 9)).cell? ⟨w.heap.size + 1 + 1 + 1, 0, none⟩ = some (.slice bA bn bc) := by rw [← hX]; exact ((Ext.refl X).alloc _).cell q0
  have hXs : X.heap.size = d1.w.heap.size := by rw [hX]; simp [World.setRow]
  have HOWX : Hid ((X.alloc (.cells #[] 9)).ownsRow d1.w.heap.size 9 1 (.slice (some ⟨d1.w.heap.size, 0, none⟩) 0 0) 0 []) := Lib.hid (by have h := own_new (w := X) (base := X.heap.size) (e := 9) (size := 1) (n := 0) (cs := []) (Nat.le_refl _) rfl (by decide); rwa [hXs] at h)
  have HXS := Lib.hid hXs
  clear hXs
  have HPR := Lib.hid hpr
  have HXX := Lib.hid hxX
  go_wp2_with (first
      | (refine wpList_store_row rfl 35 (.tmp 5) (.tmp 26) rfl (w.heap.size + 1 + 1 + 1) _ rfl rfl _ _ hk5 size_fd rfl oneF ?_)
      | (at_builtin; (first | rw [← hX] | skip); (have q0' := ((Ext.refl X).alloc (.cells #[] 9)).cell q0); refine wpList_append_rsl _ rfl (.tmp 27) (.tmp 29) _ rfl d1.w.heap.size 9 i0 _ 1 16 Tryz.underlying32 hi0 hz0 hz1 hz2 rfl (by decide) _ 0 [] rfl HOWX.out _ PP.length (PP.map Value.string) rfl (HPR.out.ext (HXX.out.trans ((Ext.refl X).alloc _))) (str_oneR PP) HML.out HBY.out ?_ ?_; (have hq := HXS.out; rw [size_alloc]; omega); intro v4 w4 hown4 hg4 hat4; (rw [Nat.zero_add, List.nil_append] at hown4); (obtain ⟨A4, c4, hv4, _, _⟩ := (RSl.of_own hown4).2; subst hv4; (have hx4 : Ext X w4 := Ext.app ((Ext.refl X).alloc _) hg4 HOWX.out (Nat.le_of_eq HXS.out)); (have hb5 := hx4.heap h5X); (obtain ⟨r0, r1, r2, r3, r4, r5⟩ := blk6 hb5); (have f0 := Lib.frozen_of_heap hb5 0); (have f5 := Lib.frozen_of_heap hb5 5); (have hkk := (heap_setCell_other (w4.setCell ⟨w.heap.size + 1 + 1 + 1, 0, none⟩ (.slice A4 PP.length c4)) ⟨w.heap.size + 1 + 1 + 1, 5, none⟩ (w.heap.size + 1 + 1) (.slice none 0 0) (by simp)).trans ((heap_setCell_other w4 ⟨w.heap.size + 1 + 1 + 1, 0, none⟩ (w.heap.size + 1 + 1) (.slice A4 PP.length c4) (by simp)).trans (hx4.heap hkX)))))
      | (refine wpList_store_row rfl 35 (.tmp 4) (.tmp 33) rfl (w.heap.size + 1 + 1) _ rfl rfl _ _ hkk size_fd rfl oneF ?_))
  ((try simp only [Exit.inBlock, Exit.then]); refine bodyPost_ret (results_cell_row rfl _ _ _ _ _ _ _ rfl (setRow_heap _ _ _ _ _ _ hkk) Tryz.underlying35 rfl size_fd) rfl ?_)
  have hrl := hown4.lt
  have hrp : RStrs w4 (.slice A4 PP.length c4) PP := by
    exact RSl.of_own hown4
  have haw : ∀ q, q < X.heap.size → PP = [] ∨ (Value.slice A4 PP.length c4).ownBlock ≠ some q := fun q hq => Or.inr fun e => by have := (hrl q e).1; have := HXS.out; omega
  refine ⟨.slice A4 PP.length c4, rfl, ?_, ?_, ((Ext.setCell (Ext.setCell (hxX.trans hx4) (show w.heap.size ≤ w.heap.size + 1 + 1 + 1 by omega) _) (show w.heap.size ≤ w.heap.size + 1 + 1 + 1 by omega) _).setRow (by omega) _)⟩
  · exact RSl.grown (RSl.grown (RSl.grown hrp (setCell_grown _ _ _) ((haw (w.heap.size + 1 + 1 + 1) (by omega)).imp (fun e => by rw [e]; rfl) fun e => e)) (setCell_grown _ _ _) ((haw (w.heap.size + 1 + 1 + 1) (by omega)).imp (fun e => by rw [e]; rfl) fun e => e)) (setRow_grown _ _ _) ((haw (w.heap.size + 1 + 1) (by omega)).imp (fun e => by rw [e]; rfl) fun e => e)
  · exact fun q hq => haw q (by have := hxX.size; omega)
set_option maxRecDepth 100000 in
set_option maxHeartbeats 4000000 in
theorem refLaterF_eq1 (a b : Fc) (w : World) (ha : fok a.f) (hb : fok b.f) (han : a.f.path.length ≤ 1000000) (hbn : b.f.path.length ≤ 1000000) (hra : RdC w a) (hrb : RdC w b) (h : ¬ a.f.upd < b.f.upd) (h2 : (b.f.upd == a.f.upd) = true) (hT : (!(Op.bytesLess (feedKey b.f).toList (feedKey a.f).toList || (feedKey b.f).toList == (feedKey a.f).toList)) = true) :
    Calls Tryz.prog 37 #[.agg (cellsC a).toArray, .agg (cellsC b).toArray] w fun x w' => ∃ p' : Value, x = .returned (.agg (fCells p' (.slice none 0 0) b.f).toArray) ∧ RStrs w' p' b.f.path ∧ (∀ q, q < w.heap.size → b.f.path = [] ∨ p'.ownBlock ≠ some q) ∧ Ext w w' := by
  obtain ⟨i0, hi0, hz0, hz1, hz2⟩ := info_parts info_str
  have hpr := hrb.1
  have hsa := hra.sl
  have hsb := hrb.sl
  have hka := fun (w' : World) (h : Ext w w') => refFeedKey_any a.p a.es a.f w' ha han (hra.1.ext h) hra.sl.2
  have hkb := fun (w' : World) (h : Ext w w') => refFeedKey_any b.p b.es b.f w' hb hbn (hrb.1.ext h) hrb.sl.2
  have hrn : b.f.path.length ≤ 1000000 := hbn
  generalize feedKey a.f = ka at *
  generalize feedKey b.f = kb at *
  clear ha hb han hbn hra hrb
  obtain ⟨PP, hPP⟩ : ∃ PP, b.f.path = PP := ⟨_, rfl⟩
  rw [hPP] at hpr hrn ⊢
  obtain ⟨ap, aes, ⟨apath, aid, atitle, alink, aupd, aents⟩⟩ := a
  obtain ⟨bp, bes, ⟨bpath, bid, btitle, blink, bupd, bents⟩⟩ := b
  obtain ⟨⟨aA, an, ac, hap⟩, ⟨aB, am, ad, hae⟩⟩ := hsa
  obtain ⟨⟨bA, bn, bc, hbp⟩, ⟨bB, bm, bd, hbe⟩⟩ := hsb
  dsimp only at *
  subst hap hae hbp hbe
  clear hPP
  unfold cellsC fCells at *
  dsimp only at *
  have hd := decide_eq_false h
  go_enter Tryz.func37, Tryz.ntmps37
  go_wp2
  obtain ⟨W, hW⟩ : ∃ W, W = (((w.alloc (.cells #[.slice aA an ac, .string aid, .string atitle, .string alink, .int .i64 aupd, .slice aB am ad] 35)).alloc (.cells #[.slice bA bn bc, .string bid, .string btitle, .string blink, .int .i64 bupd, .slice bB bm bd] 35)).alloc (.cells #[.slice none 0 0, .string ⟨#[]⟩, .string ⟨#[]⟩, .string ⟨#[]⟩, .int .i64 0, .slice none 0 0] 35)).alloc (.cells #[.slice aA an ac, .string aid, .string atitle, .string alink, .int .i64 aupd, .slice aB am ad] 35) := ⟨_, rfl⟩
  rw [← hW]
  have hxW : Ext w W := by rw [hW]; exact ((((Ext.refl w).alloc _).alloc _).alloc _).alloc _
  have hsW : W.heap.size = w.heap.size + 1 + 1 + 1 + 1 := by rw [hW]; simp only [size_alloc]
  have hkW : ∀ d : Aft W, d.w.heap[w.heap.size + 1 + 1]? = some (.cells #[.slice none 0 0, .string ⟨#[]⟩, .string ⟨#[]⟩, .string ⟨#[]⟩, .int .i64 0, .slice none 0 0] 35) := by rw [hW]; exact fun d => (((Ext.refl _).alloc _).trans d.ext).heap (heap_alloc3_new w _ _ _)
  have hk5W : ∀ d : Aft W, d.w.heap[w.heap.size + 1 + 1 + 1]? = some (.cells #[.slice aA an ac, .string aid, .string atitle, .string alink, .int .i64 aupd, .slice aB am ad] 35) := by rw [hW]; exact fun d => d.ext.heap (heap_alloc4_new w _ _ _ _)
  have HKA := Lib.hid (fun (d : Aft W) => hka d.w (hxW.trans d.ext))
  have HKB := Lib.hid (fun (d : Aft W) => hkb d.w (hxW.trans d.ext))
  have a0 : ∀ d : Aft W, d.w.cell? ⟨w.heap.size, 0, none⟩ = some (.slice aA an ac) := by rw [hW]; exact fun d => boxed4a d 0 _ rfl
  have a1 : ∀ d : Aft W, d.w.cell? ⟨w.heap.size, 1, none⟩ = some (.string aid) := by rw [hW]; exact fun d => boxed4a d 1 _ rfl
  have a2 : ∀ d : Aft W, d.w.cell? ⟨w.heap.size, 2, none⟩ = some (.string atitle) := by rw [hW]; exact fun d => boxed4a d 2 _ rfl
  have a3 : ∀ d : Aft W, d.w.cell? ⟨w.heap.size, 3, none⟩ = some (.string alink) := by rw [hW]; exact fun d => boxed4a d 3 _ rfl
  have a4 : ∀ d : Aft W, d.w.cell? ⟨w.heap.size, 4, none⟩ = some (.int .i64 aupd) := by rw [hW]; exact fun d => boxed4a d 4 _ rfl
  have a5 : ∀ d : Aft W, d.w.cell? ⟨w.heap.size, 5, none⟩ = some (.slice aB am ad) := by rw [hW]; exact fun d => boxed4a d 5 _ rfl
  have b0 : ∀ d : Aft W, d.w.cell? ⟨w.heap.size + 1, 0, none⟩ = some (.slice bA bn bc) := by rw [hW]; exact fun d => boxed4b d 0 _ rfl
  have b1 : ∀ d : Aft W, d.w.cell? ⟨w.heap.size + 1, 1, none⟩ = some (.string bid) := by rw [hW]; exact fun d => boxed4b d 1 _ rfl
  have b2 : ∀ d : Aft W, d.w.cell? ⟨w.heap.size + 1, 2, none⟩ = some (.string btitle) := by rw [hW]; exact fun d => boxed4b d 2 _ rfl
  have b3 : ∀ d : Aft W, d.w.cell? ⟨w.heap.size + 1, 3, none⟩ = some (.string blink) := by rw [hW]; exact fun d => boxed4b d 3 _ rfl
  have b4 : ∀ d : Aft W, d.w.cell? ⟨w.heap.size + 1, 4, none⟩ = some (.int .i64 bupd) := by rw [hW]; exact fun d => boxed4b d 4 _ rfl
  have b5 : ∀ d : Aft W, d.w.cell? ⟨w.heap.size + 1, 5, none⟩ = some (.slice bB bm bd) := by rw [hW]; exact fun d => boxed4b d 5 _ rfl
  clear hW hka hkb
  refine wp_region_aft (by kernel_rfl) (by kernel_rfl) ?_
  repeat (first | go_big_quiet_step ((first | (go_at_call 68; with_reducible exact quiet_call (HKA.out _)) | (go_at_call 68; with_reducible exact quiet_call (HKB.out _)))) | quiet_step ((first | (go_at_call 68; with_reducible exact quiet_call (HKA.out _)) | (go_at_call 68; with_reducible exact quiet_call (HKB.out _)))))
  refine wpQuiet_nil ?_
  rintro _ ⟨d1, rfl⟩
  have hkf := hkW d1
  have hk5 := hk5W d1
  have hx1 := hxW.trans d1.ext
  have hs1 := d1.ext.size
  rw [hsW] at hs1
  have g0 := b0 d1
  have g1 := b1 d1
  have g2 := b2 d1
  have g3 := b3 d1
  have g4 := b4 d1
  have g5 := b5 d1
  clear a0 a1 a2 a3 a4 a5 b0 b1 b2 b3 b4 b5 hkW hk5W HKA HKB
  have HML : Hid (0 + PP.length ≤ maxLen) := Lib.hid (by unfold maxLen; omega)
  have HBY : Hid ((0 + PP.length) * 16 ≤ 140737488355328) := Lib.hid (by omega)
  obtain ⟨X, hX⟩ : ∃ X, X = (d1.w.setRow (w.heap.size + 1 + 1 + 1) #[.slice bA bn bc, .string bid, .string btitle, .string blink, .int .i64 bupd, .slice bB bm bd]) := ⟨_, rfl⟩
  have hxX : Ext w X := by rw [hX]; exact hx1.setRow (by omega) _
  have hsX : w.heap.size + 1 + 1 + 1 + 1 ≤ X.heap.size := by rw [hX]; simpa [World.setRow] using hs1
  have hkX : X.heap[w.heap.size + 1 + 1]? = some (.cells #[.slice none 0 0, .string ⟨#[]⟩, .string ⟨#[]⟩, .string ⟨#[]⟩, .int .i64 0, .slice none 0 0] 35) := by rw [hX]; exact (setRow_other _ _ _ _ (by omega)).trans hkf
  have h5X : X.heap[w.heap.size + 1 + 1 + 1]? = some (.cells #[.slice bA bn bc, .string bid, .string btitle, .string blink, .int .i64 bupd, .slice bB bm bd] 35) := by rw [hX]; exact setRow_heap _ _ _ _ _ _ hk5
  have q0 : X.cell? ⟨w.heap.size + 1 + 1 + 1, 0, none⟩ = some (.slice bA bn bc) := by rw [cell_of_row _ _ _ _ _ _ h5X]; rfl
  have qA : (((d1.w.setRow (w.heap.size + 1 + 1 + 1) #[.slice bA bn bc, .string bid, .string btitle, .string blink, .int .i64 bupd, .slice bB bm bd])).alloc (.cells #[] 9)).cell? ⟨w.heap.size + 1 + 1 + 1, 0, none⟩ = some (.slice bA bn bc) := by rw [← hX]; exact ((Ext.refl X).alloc _).cell q0
  have hXs : X.heap.size = d1.w.heap.size := by rw [hX]; simp [World.setRow]
  have HOWX : Hid ((X.alloc (.cells #[] 9)).ownsRow d1.w.heap.size 9 1 (.slice (some ⟨d1.w.heap.size, 0, none⟩) 0 0) 0 []) := Lib.hid (by have h := own_new (w := X) (base := X.heap.size) (e := 9) (size := 1) (n := 0) (cs := []) (Nat.le_refl _) rfl (by decide); rwa [hXs] at h)
  have HXS := Lib.hid hXs
  clear hXs
  have HPR := Lib.hid hpr
  have HXX := Lib.hid hxX
  go_wp2_with (first
      | (refine wpList_store_row rfl 35 (.tmp 5) (.tmp 26) rfl (w.heap.size + 1 + 1 + 1) _ rfl rfl _ _ hk5 size_fd rfl oneF ?_)
      | (at_builtin; (first | rw [← hX] | skip); (have q0' := ((Ext.refl X).alloc (.cells #[] 9)).cell q0); refine wpList_append_rsl _ rfl (.tmp 27) (.tmp 29) _ rfl d1.w.heap.size 9 i0 _ 1 16 Tryz.underlying32 hi0 hz0 hz1 hz2 rfl (by decide) _ 0 [] rfl HOWX.out _ PP.length (PP.map Value.string) rfl (HPR.out.ext (HXX.out.trans ((Ext.refl X).alloc _))) (str_oneR PP) HML.out HBY.out ?_ ?_; (have hq := HXS.out; rw [size_alloc]; omega); intro v4 w4 hown4 hg4 hat4; (rw [Nat.zero_add, List.nil_append] at hown4); (obtain ⟨A4, c4, hv4, _, _⟩ := (RSl.of_own hown4).2; subst hv4; (have hx4 : Ext X w4 := Ext.app ((Ext.refl X).alloc _) hg4 HOWX.out (Nat.le_of_eq HXS.out)); (have hb5 := hx4.heap h5X); (obtain ⟨r0, r1, r2, r3, r4, r5⟩ := blk6 hb5); (have f0 := Lib.frozen_of_heap hb5 0); (have f5 := Lib.frozen_of_heap hb5 5); (have hkk := (heap_setCell_other (w4.setCell ⟨w.heap.size + 1 + 1 + 1, 0, none⟩ (.slice A4 PP.length c4)) ⟨w.heap.size + 1 + 1 + 1, 5, none⟩ (w.heap.size + 1 + 1) (.slice none 0 0) (by simp)).trans ((heap_setCell_other w4 ⟨w.heap.size + 1 + 1 + 1, 0, none⟩ (w.heap.size + 1 + 1) (.slice A4 PP.length c4) (by simp)).trans (hx4.heap hkX)))))
      | (refine wpList_store_row rfl 35 (.tmp 4) (.tmp 33) rfl (w.heap.size + 1 + 1) _ rfl rfl _ _ hkk size_fd rfl oneF ?_))
  ((try simp only [Exit.inBlock, Exit.then]); refine bodyPost_ret (results_cell_row rfl _ _ _ _ _ _ _ rfl (setRow_heap _ _ _ _ _ _ hkk) Tryz.underlying35 rfl size_fd) rfl ?_)
  have hrl := hown4.lt
  have hrp : RStrs w4 (.slice A4 PP.length c4) PP := by
    exact RSl.of_own hown4
  have haw : ∀ q, q < X.heap.size → PP = [] ∨ (Value.slice A4 PP.length c4).ownBlock ≠ some q := fun q hq => Or.inr fun e => by have := (hrl q e).1; have := HXS.out; omega
  refine ⟨.slice A4 PP.length c4, rfl, ?_, ?_, ((Ext.setCell (Ext.setCell (hxX.trans hx4) (show w.heap.size ≤ w.heap.size + 1 + 1 + 1 by omega) _) (show w.heap.size ≤ w.heap.size + 1 + 1 + 1 by omega) _).setRow (by omega) _)⟩
  · exact RSl.grown (RSl.grown (RSl.grown hrp (setCell_grown _ _ _) ((haw (w.heap.size + 1 + 1 + 1) (by omega)).imp (fun e => by rw [e]; rfl) fun e => e)) (setCell_grown _ _ _) ((haw (w.heap.size + 1 + 1 + 1) (by omega)).imp (fun e => by rw [e]; rfl) fun e => e)) (setRow_grown _ _ _) ((haw (w.heap.size + 1 + 1) (by omega)).imp (fun e => by rw [e]; rfl) fun e => e)
  · exact fun q hq => haw q (by have := hxX.size; omega)
set_option maxRecDepth 100000 in
set_option maxHeartbeats 4000000 in
theorem refLaterF_eq0 (a b : Fc) (w : World) (ha : fok a.f) (hb : fok b.f) (han : a.f.path.length ≤ 1000000) (hbn : b.f.path.length ≤ 1000000) (hra : RdC w a) (hrb : RdC w b) (h : ¬ a.f.upd < b.f.upd) (h2 : (b.f.upd == a.f.upd) = true) (hT : (!(Op.bytesLess (feedKey b.f).toList (feedKey a.f).toList || (feedKey b.f).toList == (feedKey a.f).toList)) = false) :
    Calls Tryz.prog 37 #[.agg (cellsC a).toArray, .agg (cellsC b).toArray] w fun x w' => ∃ p' : Value, x = .returned (.agg (fCells p' (.slice none 0 0) a.f).toArray) ∧ RStrs w' p' a.f.path ∧ (∀ q, q < w.heap.size → a.f.path = [] ∨ p'.ownBlock ≠ some q) ∧ Ext w w' := by
  obtain ⟨i0, hi0, hz0, hz1, hz2⟩ := info_parts info_str
  have hpr := hra.1
  have hsa := hra.sl
  have hsb := hrb.sl
  have hka := fun (w' : World) (h : Ext w w') => refFeedKey_any a.p a.es a.f w' ha han (hra.1.ext h) hra.sl.2
  have hkb := fun (w' : World) (h : Ext w w') => refFeedKey_any b.p b.es b.f w' hb hbn (hrb.1.ext h) hrb.sl.2
  have hrn : a.f.path.length ≤ 1000000 := han
  generalize feedKey a.f = ka at *
  generalize feedKey b.f = kb at *
  clear ha hb han hbn hra hrb
  obtain ⟨PP, hPP⟩ : ∃ PP, a.f.path = PP := ⟨_, rfl⟩
  rw [hPP] at hpr hrn ⊢
  obtain ⟨ap, aes, ⟨apath, aid, atitle, alink, aupd, aents⟩⟩ := a
  obtain ⟨bp, bes, ⟨bpath, bid, btitle, blink, bupd, bents⟩⟩ := b
  obtain ⟨⟨aA, an, ac, hap⟩, ⟨aB, am, ad, hae⟩⟩ := hsa
  obtain ⟨⟨bA, bn, bc, hbp⟩, ⟨bB, bm, bd, hbe⟩⟩ := hsb
  dsimp only at *
  subst hap hae hbp hbe
  clear hPP
  unfold cellsC fCells at *
  dsimp only at *
  have hd := decide_eq_false h
  go_enter Tryz.func37, Tryz.ntmps37
  go_wp2
  obtain ⟨W, hW⟩ : ∃ W, W = (((w.alloc (.cells #[.slice aA an ac, .string aid, .string atitle, .string alink, .int .i64 aupd, .slice aB am ad] 35)).alloc (.cells #[.slice bA bn bc, .string bid, .string btitle, .string blink, .int .i64 bupd, .slice bB bm bd] 35)).alloc (.cells #[.slice none 0 0, .string ⟨#[]⟩, .string ⟨#[]⟩, .string ⟨#[]⟩, .int .i64 0, .slice none 0 0] 35)).alloc (.cells #[.slice aA an ac, .string aid, .string atitle, .string alink, .int .i64 aupd, .slice aB am ad] 35) := ⟨_, rfl⟩
  rw [← hW]
  have hxW : Ext w W := by rw [hW]; exact ((((Ext.refl w).alloc _).alloc _).alloc _).alloc _
  have hsW : W.heap.size = w.heap.size + 1 + 1 + 1 + 1 := by rw [hW]; simp only [size_alloc]
  have hkW : ∀ d : Aft W, d.w.heap[w.heap.size + 1 + 1]? = some (.cells #[.slice none 0 0, .string ⟨#[]⟩, .string ⟨#[]⟩, .string ⟨#[]⟩, .int .i64 0, .slice none 0 0] 35) := by rw [hW]; exact fun d => (((Ext.refl _).alloc _).trans d.ext).heap (heap_alloc3_new w _ _ _)
  have hk5W : ∀ d : Aft W, d.w.heap[w.heap.size + 1 + 1 + 1]? = some (.cells #[.slice aA an ac, .string aid, .string atitle, .string alink, .int .i64 aupd, .slice aB am ad] 35) := by rw [hW]; exact fun d => d.ext.heap (heap_alloc4_new w _ _ _ _)
  have HKA := Lib.hid (fun (d : Aft W) => hka d.w (hxW.trans d.ext))
  have HKB := Lib.hid (fun (d : Aft W) => hkb d.w (hxW.trans d.ext))
  have a0 : ∀ d : Aft W, d.w.cell? ⟨w.heap.size, 0, none⟩ = some (.slice aA an ac) := by rw [hW]; exact fun d => boxed4a d 0 _ rfl
  have a1 : ∀ d : Aft W, d.w.cell? ⟨w.heap.size, 1, none⟩ = some (.string aid) := by rw [hW]; exact fun d => boxed4a d 1 _ rfl
  have a2 : ∀ d : Aft W, d.w.cell? ⟨w.heap.size, 2, none⟩ = some (.string atitle) := by rw [hW]; exact fun d => boxed4a d 2 _ rfl
  have a3 : ∀ d : Aft W, d.w.cell? ⟨w.heap.size, 3, none⟩ = some (.string alink) := by rw [hW]; exact fun d => boxed4a d 3 _ rfl
  have a4 : ∀ d : Aft W, d.w.cell? ⟨w.heap.size, 4, none⟩ = some (.int .i64 aupd) := by rw [hW]; exact fun d => boxed4a d 4 _ rfl
  have a5 : ∀ d : Aft W, d.w.cell? ⟨w.heap.size, 5, none⟩ = some (.slice aB am ad) := by rw [hW]; exact fun d => boxed4a d 5 _ rfl
  have b0 : ∀ d : Aft W, d.w.cell? ⟨w.heap.size + 1, 0, none⟩ = some (.slice bA bn bc) := by rw [hW]; exact fun d => boxed4b d 0 _ rfl
  have b1 : ∀ d : Aft W, d.w.cell? ⟨w.heap.size + 1, 1, none⟩ = some (.string bid) := by rw [hW]; exact fun d => boxed4b d 1 _ rfl
  have b2 : ∀ d : Aft W, d.w.cell? ⟨w.heap.size + 1, 2, none⟩ = some (.string btitle) := by rw [hW]; exact fun d => boxed4b d 2 _ rfl
  have b3 : ∀ d : Aft W, d.w.cell? ⟨w.heap.size + 1, 3, none⟩ = some (.string blink) := by rw [hW]; exact fun d => boxed4b d 3 _ rfl
  have b4 : ∀ d : Aft W, d.w.cell? ⟨w.heap.size + 1, 4, none⟩ = some (.int .i64 bupd) := by rw [hW]; exact fun d => boxed4b d 4 _ rfl
  have b5 : ∀ d : Aft W, d.w.cell? ⟨w.heap.size + 1, 5, none⟩ = some (.slice bB bm bd) := by rw [hW]; exact fun d => boxed4b d 5 _ rfl
  clear hW hka hkb
  refine wp_region_aft (by kernel_rfl) (by kernel_rfl) ?_
  repeat (first | go_big_quiet_step ((first | (go_at_call 68; with_reducible exact quiet_call (HKA.out _)) | (go_at_call 68; with_reducible exact quiet_call (HKB.out _)))) | quiet_step ((first | (go_at_call 68; with_reducible exact quiet_call (HKA.out _)) | (go_at_call 68; with_reducible exact quiet_call (HKB.out _)))))
  refine wpQuiet_nil ?_
  rintro _ ⟨d1, rfl⟩
  have hkf := hkW d1
  have hk5 := hk5W d1
  have hx1 := hxW.trans d1.ext
  have hs1 := d1.ext.size
  rw [hsW] at hs1
  clear a0 a1 a2 a3 a4 a5 b0 b1 b2 b3 b4 b5 hkW hk5W HKA HKB
  have HML : Hid (0 + PP.length ≤ maxLen) := Lib.hid (by unfold maxLen; omega)
  have HBY : Hid ((0 + PP.length) * 16 ≤ 140737488355328) := Lib.hid (by omega)
  obtain ⟨X, hX⟩ : ∃ X, d1.w = X := ⟨_, rfl⟩
  rw [hX] at hkf hk5 hx1 hs1 ⊢
  clear hX
  have hxX : Ext w X := by exact hx1
  have hsX : w.heap.size + 1 + 1 + 1 + 1 ≤ X.heap.size := by exact hs1
  have hkX : X.heap[w.heap.size + 1 + 1]? = some (.cells #[.slice none 0 0, .string ⟨#[]⟩, .string ⟨#[]⟩, .string ⟨#[]⟩, .int .i64 0, .slice none 0 0] 35) := by exact hkf
  have h5X : X.heap[w.heap.size + 1 + 1 + 1]? = some (.cells #[.slice aA an ac, .string aid, .string atitle, .string alink, .int .i64 aupd, .slice aB am ad] 35) := by exact hk5
  have q0 : X.cell? ⟨w.heap.size + 1 + 1 + 1, 0, none⟩ = some (.slice aA an ac) := by rw [cell_of_row _ _ _ _ _ _ h5X]; rfl
  have qA : ((X).alloc (.cells #[] 9)).cell? ⟨w.heap.size + 1 + 1 + 1, 0, none⟩ = some (.slice aA an ac) := by exact ((Ext.refl X).alloc _).cell q0
  have hXs : X.heap.size = X.heap.size := by rfl
  have HOWX : Hid ((X.alloc (.cells #[] 9)).ownsRow X.heap.size 9 1 (.slice (some ⟨X.heap.size, 0, none⟩) 0 0) 0 []) := Lib.hid (by have h := own_new (w := X) (base := X.heap.size) (e := 9) (size := 1) (n := 0) (cs := []) (Nat.le_refl _) rfl (by decide); exact h)
  have HXS := Lib.hid hXs
  clear hXs
  have HPR := Lib.hid hpr
  have HXX := Lib.hid hxX
  go_wp2_with (first
      | (at_builtin; (have q0' := ((Ext.refl X).alloc (.cells #[] 9)).cell q0); refine wpList_append_rsl _ rfl (.tmp 27) (.tmp 29) _ rfl X.heap.size 9 i0 _ 1 16 Tryz.underlying32 hi0 hz0 hz1 hz2 rfl (by decide) _ 0 [] rfl HOWX.out _ PP.length (PP.map Value.string) rfl (HPR.out.ext (HXX.out.trans ((Ext.refl X).alloc _))) (str_oneR PP) HML.out HBY.out ?_ ?_; (have hq := HXS.out; rw [size_alloc]; omega); intro v4 w4 hown4 hg4 hat4; (rw [Nat.zero_add, List.nil_append] at hown4); (obtain ⟨A4, c4, hv4, _, _⟩ := (RSl.of_own hown4).2; subst hv4; (have hx4 : Ext X w4 := Ext.app ((Ext.refl X).alloc _) hg4 HOWX.out (Nat.le_of_eq HXS.out)); (have hb5 := hx4.heap h5X); (obtain ⟨r0, r1, r2, r3, r4, r5⟩ := blk6 hb5); (have f0 := Lib.frozen_of_heap hb5 0); (have f5 := Lib.frozen_of_heap hb5 5); (have hkk := (heap_setCell_other (w4.setCell ⟨w.heap.size + 1 + 1 + 1, 0, none⟩ (.slice A4 PP.length c4)) ⟨w.heap.size + 1 + 1 + 1, 5, none⟩ (w.heap.size + 1 + 1) (.slice none 0 0) (by simp)).trans ((heap_setCell_other w4 ⟨w.heap.size + 1 + 1 + 1, 0, none⟩ (w.heap.size + 1 + 1) (.slice A4 PP.length c4) (by simp)).trans (hx4.heap hkX)))))
      | (refine wpList_store_row rfl 35 (.tmp 4) (.tmp 33) rfl (w.heap.size + 1 + 1) _ rfl rfl _ _ hkk size_fd rfl oneF ?_))
  ((try simp only [Exit.inBlock, Exit.then]); refine bodyPost_ret (results_cell_row rfl _ _ _ _ _ _ _ rfl (setRow_heap _ _ _ _ _ _ hkk) Tryz.underlying35 rfl size_fd) rfl ?_)
  have hrl := hown4.lt
  have hrp : RStrs w4 (.slice A4 PP.length c4) PP := by
    exact RSl.of_own hown4
  have haw : ∀ q, q < X.heap.size → PP = [] ∨ (Value.slice A4 PP.length c4).ownBlock ≠ some q := fun q hq => Or.inr fun e => by have := (hrl q e).1; have := HXS.out; omega
  refine ⟨.slice A4 PP.length c4, rfl, ?_, ?_, ((Ext.setCell (Ext.setCell (hxX.trans hx4) (show w.heap.size ≤ w.heap.size + 1 + 1 + 1 by omega) _) (show w.heap.size ≤ w.heap.size + 1 + 1 + 1 by omega) _).setRow (by omega) _)⟩
  · exact RSl.grown (RSl.grown (RSl.grown hrp (setCell_grown _ _ _) ((haw (w.heap.size + 1 + 1 + 1) (by omega)).imp (fun e => by rw [e]; rfl) fun e => e)) (setCell_grown _ _ _) ((haw (w.heap.size + 1 + 1 + 1) (by omega)).imp (fun e => by rw [e]; rfl) fun e => e)) (setRow_grown _ _ _) ((haw (w.heap.size + 1 + 1) (by omega)).imp (fun e => by rw [e]; rfl) fun e => e)
  · exact fun q hq => haw q (by have := hxX.size; omega)
set_option maxRecDepth 100000 in
set_option maxHeartbeats 4000000 in
theorem refLaterF_gt (a b : Fc) (w : World) (ha : fok a.f) (hb : fok b.f) (han : a.f.path.length ≤ 1000000) (hbn : b.f.path.length ≤ 1000000) (hra : RdC w a) (hrb : RdC w b) (h : ¬ a.f.upd < b.f.upd) (h2 : (b.f.upd == a.f.upd) = false) :
    Calls Tryz.prog 37 #[.agg (cellsC a).toArray, .agg (cellsC b).toArray] w fun x w' => ∃ p' : Value, x = .returned (.agg (fCells p' (.slice none 0 0) a.f).toArray) ∧ RStrs w' p' a.f.path ∧ (∀ q, q < w.heap.size → a.f.path = [] ∨ p'.ownBlock ≠ some q) ∧ Ext w w' := by
  obtain ⟨i0, hi0, hz0, hz1, hz2⟩ := info_parts info_str
  have hpr := hra.1
  have hsa := hra.sl
  have hsb := hrb.sl
  have hka := fun (w' : World) (h : Ext w w') => refFeedKey_any a.p a.es a.f w' ha han (hra.1.ext h) hra.sl.2
  have hkb := fun (w' : World) (h : Ext w w') => refFeedKey_any b.p b.es b.f w' hb hbn (hrb.1.ext h) hrb.sl.2
  have hrn : a.f.path.length ≤ 1000000 := han
  generalize feedKey a.f = ka at *
  generalize feedKey b.f = kb at *
  clear ha hb han hbn hra hrb
  obtain ⟨PP, hPP⟩ : ∃ PP, a.f.path = PP := ⟨_, rfl⟩
  rw [hPP] at hpr hrn ⊢
  obtain ⟨ap, aes, ⟨apath, aid, atitle, alink, aupd, aents⟩⟩ := a
  obtain ⟨bp, bes, ⟨bpath, bid, btitle, blink, bupd, bents⟩⟩ := b
  obtain ⟨⟨aA, an, ac, hap⟩, ⟨aB, am, ad, hae⟩⟩ := hsa
  obtain ⟨⟨bA, bn, bc, hbp⟩, ⟨bB, bm, bd, hbe⟩⟩ := hsb
  dsimp only at *
  subst hap hae hbp hbe
  clear hPP
  unfold cellsC fCells at *
  dsimp only at *
  have hd := decide_eq_false h
  go_enter Tryz.func37, Tryz.ntmps37
  go_wp2
  obtain ⟨W, hW⟩ : ∃ W, W = (((w.alloc (.cells #[.slice aA an ac, .string aid, .string atitle, .string alink, .int .i64 aupd, .slice aB am ad] 35)).alloc (.cells #[.slice bA bn bc, .string bid, .string btitle, .string blink, .int .i64 bupd, .slice bB bm bd] 35)).alloc (.cells #[.slice none 0 0, .string ⟨#[]⟩, .string ⟨#[]⟩, .string ⟨#[]⟩, .int .i64 0, .slice none 0 0] 35)).alloc (.cells #[.slice aA an ac, .string aid, .string atitle, .string alink, .int .i64 aupd, .slice aB am ad] 35) := ⟨_, rfl⟩
  rw [← hW]
  have hxW : Ext w W := by rw [hW]; exact ((((Ext.refl w).alloc _).alloc _).alloc _).alloc _
  have hsW : W.heap.size = w.heap.size + 1 + 1 + 1 + 1 := by rw [hW]; simp only [size_alloc]
  have hkW : ∀ d : Aft W, d.w.heap[w.heap.size + 1 + 1]? = some (.cells #[.slice none 0 0, .string ⟨#[]⟩, .string ⟨#[]⟩, .string ⟨#[]⟩, .int .i64 0, .slice none 0 0] 35) := by rw [hW]; exact fun d => (((Ext.refl _).alloc _).trans d.ext).heap (heap_alloc3_new w _ _ _)
  have hk5W : ∀ d : Aft W, d.w.heap[w.heap.size + 1 + 1 + 1]? = some (.cells #[.slice aA an ac, .string aid, .string atitle, .string alink, .int .i64 aupd, .slice aB am ad] 35) := by rw [hW]; exact fun d => d.ext.heap (heap_alloc4_new w _ _ _ _)
  have HKA := Lib.hid (fun (d : Aft W) => hka d.w (hxW.trans d.ext))
  have HKB := Lib.hid (fun (d : Aft W) => hkb d.w (hxW.trans d.ext))
  have a0 : ∀ d : Aft W, d.w.cell? ⟨w.heap.size, 0, none⟩ = some (.slice aA an ac) := by rw [hW]; exact fun d => boxed4a d 0 _ rfl
  have a1 : ∀ d : Aft W, d.w.cell? ⟨w.heap.size, 1, none⟩ = some (.string aid) := by rw [hW]; exact fun d => boxed4a d 1 _ rfl
  have a2 : ∀ d : Aft W, d.w.cell? ⟨w.heap.size, 2, none⟩ = some (.string atitle) := by rw [hW]; exact fun d => boxed4a d 2 _ rfl
  have a3 : ∀ d : Aft W, d.w.cell? ⟨w.heap.size, 3, none⟩ = some (.string alink) := by rw [hW]; exact fun d => boxed4a d 3 _ rfl
  have a4 : ∀ d : Aft W, d.w.cell? ⟨w.heap.size, 4, none⟩ = some (.int .i64 aupd) := by rw [hW]; exact fun d => boxed4a d 4 _ rfl
  have a5 : ∀ d : Aft W, d.w.cell? ⟨w.heap.size, 5, none⟩ = some (.slice aB am ad) := by rw [hW]; exact fun d => boxed4a d 5 _ rfl
  have b0 : ∀ d : Aft W, d.w.cell? ⟨w.heap.size + 1, 0, none⟩ = some (.slice bA bn bc) := by rw [hW]; exact fun d => boxed4b d 0 _ rfl
  have b1 : ∀ d : Aft W, d.w.cell? ⟨w.heap.size + 1, 1, none⟩ = some (.string bid) := by rw [hW]; exact fun d => boxed4b d 1 _ rfl
  have b2 : ∀ d : Aft W, d.w.cell? ⟨w.heap.size + 1, 2, none⟩ = some (.string btitle) := by rw [hW]; exact fun d => boxed4b d 2 _ rfl
  have b3 : ∀ d : Aft W, d.w.cell? ⟨w.heap.size + 1, 3, none⟩ = some (.string blink) := by rw [hW]; exact fun d => boxed4b d 3 _ rfl
  have b4 : ∀ d : Aft W, d.w.cell? ⟨w.heap.size + 1, 4, none⟩ = some (.int .i64 bupd) := by rw [hW]; exact fun d => boxed4b d 4 _ rfl
  have b5 : ∀ d : Aft W, d.w.cell? ⟨w.heap.size + 1, 5, none⟩ = some (.slice bB bm bd) := by rw [hW]; exact fun d => boxed4b d 5 _ rfl
  clear hW hka hkb
  refine wp_region_aft (by kernel_rfl) (by kernel_rfl) ?_
  repeat (first | go_big_quiet_step ((first | (go_at_call 68; with_reducible exact quiet_call (HKA.out _)) | (go_at_call 68; with_reducible exact quiet_call (HKB.out _)))) | quiet_step ((first | (go_at_call 68; with_reducible exact quiet_call (HKA.out _)) | (go_at_call 68; with_reducible exact quiet_call (HKB.out _)))))
  refine wpQuiet_nil ?_
  rintro _ ⟨d1, rfl⟩
  have hkf := hkW d1
  have hk5 := hk5W d1
  have hx1 := hxW.trans d1.ext
  have hs1 := d1.ext.size
  rw [hsW] at hs1
  clear a0 a1 a2 a3 a4 a5 b0 b1 b2 b3 b4 b5 hkW hk5W HKA HKB
  have HML : Hid (0 + PP.length ≤ maxLen) := Lib.hid (by unfold maxLen; omega)
  have HBY : Hid ((0 + PP.length) * 16 ≤ 140737488355328) := Lib.hid (by omega)
  obtain ⟨X, hX⟩ : ∃ X, d1.w = X := ⟨_, rfl⟩
  rw [hX] at hkf hk5 hx1 hs1 ⊢
  clear hX
  have hxX : Ext w X := by exact hx1
  have hsX : w.heap.size + 1 + 1 + 1 + 1 ≤ X.heap.size := by exact hs1
  have hkX : X.heap[w.heap.size + 1 + 1]? = some (.cells #[.slice none 0 0, .string ⟨#[]⟩, .string ⟨#[]⟩, .string ⟨#[]⟩, .int .i64 0, .slice none 0 0] 35) := by exact hkf
  have h5X : X.heap[w.heap.size + 1 + 1 + 1]? = some (.cells #[.slice aA an ac, .string aid, .string atitle, .string alink, .int .i64 aupd, .slice aB am ad] 35) := by exact hk5
  have q0 : X.cell? ⟨w.heap.size + 1 + 1 + 1, 0, none⟩ = some (.slice aA an ac) := by rw [cell_of_row _ _ _ _ _ _ h5X]; rfl
  have qA : ((X).alloc (.cells #[] 9)).cell? ⟨w.heap.size + 1 + 1 + 1, 0, none⟩ = some (.slice aA an ac) := by exact ((Ext.refl X).alloc _).cell q0
  have hXs : X.heap.size = X.heap.size := by rfl
  have HOWX : Hid ((X.alloc (.cells #[] 9)).ownsRow X.heap.size 9 1 (.slice (some ⟨X.heap.size, 0, none⟩) 0 0) 0 []) := Lib.hid (by have h := own_new (w := X) (base := X.heap.size) (e := 9) (size := 1) (n := 0) (cs := []) (Nat.le_refl _) rfl (by decide); exact h)
  have HXS := Lib.hid hXs
  clear hXs
  have HPR := Lib.hid hpr
  have HXX := Lib.hid hxX
  go_wp2_with (first
      | (at_builtin; (have q0' := ((Ext.refl X).alloc (.cells #[] 9)).cell q0); refine wpList_append_rsl _ rfl (.tmp 27) (.tmp 29) _ rfl X.heap.size 9 i0 _ 1 16 Tryz.underlying32 hi0 hz0 hz1 hz2 rfl (by decide) _ 0 [] rfl HOWX.out _ PP.length (PP.map Value.string) rfl (HPR.out.ext (HXX.out.trans ((Ext.refl X).alloc _))) (str_oneR PP) HML.out HBY.out ?_ ?_; (have hq := HXS.out; rw [size_alloc]; omega); intro v4 w4 hown4 hg4 hat4; (rw [Nat.zero_add, List.nil_append] at hown4); (obtain ⟨A4, c4, hv4, _, _⟩ := (RSl.of_own hown4).2; subst hv4; (have hx4 : Ext X w4 := Ext.app ((Ext.refl X).alloc _) hg4 HOWX.out (Nat.le_of_eq HXS.out)); (have hb5 := hx4.heap h5X); (obtain ⟨r0, r1, r2, r3, r4, r5⟩ := blk6 hb5); (have f0 := Lib.frozen_of_heap hb5 0); (have f5 := Lib.frozen_of_heap hb5 5); (have hkk := (heap_setCell_other (w4.setCell ⟨w.heap.size + 1 + 1 + 1, 0, none⟩ (.slice A4 PP.length c4)) ⟨w.heap.size + 1 + 1 + 1, 5, none⟩ (w.heap.size + 1 + 1) (.slice none 0 0) (by simp)).trans ((heap_setCell_other w4 ⟨w.heap.size + 1 + 1 + 1, 0, none⟩ (w.heap.size + 1 + 1) (.slice A4 PP.length c4) (by simp)).trans (hx4.heap hkX)))))
      | (refine wpList_store_row rfl 35 (.tmp 4) (.tmp 33) rfl (w.heap.size + 1 + 1) _ rfl rfl _ _ hkk size_fd rfl oneF ?_))
  ((try simp only [Exit.inBlock, Exit.then]); refine bodyPost_ret (results_cell_row rfl _ _ _ _ _ _ _ rfl (setRow_heap _ _ _ _ _ _ hkk) Tryz.underlying35 rfl size_fd) rfl ?_)
  have hrl := hown4.lt
  have hrp : RStrs w4 (.slice A4 PP.length c4) PP := by
    exact RSl.of_own hown4
  have haw : ∀ q, q < X.heap.size → PP = [] ∨ (Value.slice A4 PP.length c4).ownBlock ≠ some q := fun q hq => Or.inr fun e => by have := (hrl q e).1; have := HXS.out; omega
  refine ⟨.slice A4 PP.length c4, rfl, ?_, ?_, ((Ext.setCell (Ext.setCell (hxX.trans hx4) (show w.heap.size ≤ w.heap.size + 1 + 1 + 1 by omega) _) (show w.heap.size ≤ w.heap.size + 1 + 1 + 1 by omega) _).setRow (by omega) _)⟩
  · exact RSl.grown (RSl.grown (RSl.grown hrp (setCell_grown _ _ _) ((haw (w.heap.size + 1 + 1 + 1) (by omega)).imp (fun e => by rw [e]; rfl) fun e => e)) (setCell_grown _ _ _) ((haw (w.heap.size + 1 + 1 + 1) (by omega)).imp (fun e => by rw [e]; rfl) fun e => e)) (setRow_grown _ _ _) ((haw (w.heap.size + 1 + 1) (by omega)).imp (fun e => by rw [e]; rfl) fun e => e)
  · exact fun q hq => haw q (by have := hxX.size; omega)
theorem refLaterF_any (a b : Fc) (w : World) (ha : fok a.f) (hb : fok b.f) (han : a.f.path.length ≤ 1000000) (hbn : b.f.path.length ≤ 1000000) (hra : RdC w a) (hrb : RdC w b) :
    Calls Tryz.prog 37 #[.agg (cellsC a).toArray, .agg (cellsC b).toArray] w fun x w' => ∃ p' : Value, x = .returned (.agg (fCells p' (.slice none 0 0) (laterF a.f b.f)).toArray) ∧ RStrs w' p' (laterF a.f b.f).path ∧ (∀ q, q < w.heap.size → (laterF a.f b.f).path = [] ∨ p'.ownBlock ≠ some q) ∧ Ext w w' := by
  have key : ∀ (c : Fc), (if laterB (iCmp a.f.upd b.f.upd) (feedKey a.f) (feedKey b.f) then b.f else a.f) = c.f → ∀ (x : Ending) (w' : World), (∃ p' : Value, x = .returned (.agg (fCells p' (.slice none 0 0) c.f).toArray) ∧ RStrs w' p' c.f.path ∧ (∀ q, q < w.heap.size → c.f.path = [] ∨ p'.ownBlock ≠ some q) ∧ Ext w w') → ∃ p' : Value, x = .returned (.agg (fCells p' (.slice none 0 0) (laterF a.f b.f)).toArray) ∧ RStrs w' p' (laterF a.f b.f).path ∧ (∀ q, q < w.heap.size → (laterF a.f b.f).path = [] ∨ p'.ownBlock ≠ some q) ∧ Ext w w' := by
    intro c hc x w' h
    unfold laterF
    rw [hc]
    exact h
  unfold laterB at key
  by_cases h : a.f.upd < b.f.upd
  · have e1 : iCmp a.f.upd b.f.upd = -1 := by unfold iCmp; rw [if_pos h]
    exact (refLaterF_lt a b w ha hb han hbn hra hrb h).mono (key b (by rw [e1]; rfl))
  · by_cases h2 : b.f.upd = a.f.upd
    · have e1 : iCmp a.f.upd b.f.upd = 0 := by unfold iCmp; rw [if_neg h, if_neg (by omega)]
      have h2' : (b.f.upd == a.f.upd) = true := by rw [h2]; exact beq_self_eq_true _
      have hG : ∀ x y : ByteArray, (!(Op.bytesLess x.toList y.toList || x.toList == y.toList)) = Op.bytesLess y.toList x.toList := gtS
      cases hT : (!(Op.bytesLess (feedKey b.f).toList (feedKey a.f).toList || (feedKey b.f).toList == (feedKey a.f).toList)) with
      | true => exact (refLaterF_eq1 a b w ha hb han hbn hra hrb h h2' hT).mono (key b (by rw [hG] at hT; rw [e1, hT]; rfl))
      | false => exact (refLaterF_eq0 a b w ha hb han hbn hra hrb h h2' hT).mono (key a (by rw [hG] at hT; rw [e1, hT]; rfl))
    · have e1 : iCmp a.f.upd b.f.upd = 1 := by unfold iCmp; rw [if_neg h, if_pos (by omega)]
      have h2' : (b.f.upd == a.f.upd) = false := by rw [beq_eq_false_iff_ne]; exact h2
      exact (refLaterF_gt a b w ha hb han hbn hra hrb h h2').mono (key a (by rw [e1]; rfl))
end Go.Proofs.YtgecijhgonfldaaGreatDoor
