/- MergeFinds: the law's contract. -/
import Derived.Test.YtgecijhgonfldaaGreatDoorQ33
import Derived.Test.YtgecijhgonfldaaGreatDoorQ28
import Derived.Lib.SmallJoins
namespace Go.Proofs.YtgecijhgonfldaaGreatDoor
open Go Go.RowKit Go.Joins
set_option linter.unusedVariables false

theorem title_addr (ad : Addr) (j : Nat) : ad.add (j * 5 + 1) = ⟨(ad.add (j * 5)).block, (ad.add (j * 5)).off + 1, none⟩ := by
  rw [← addr_add2]
  exact if_neg (by decide)
/-- the feed that Find gave, while it is written over -/
structure Fnd (w3 : World) (T : Nat) (y : Fc) (b g : Nat) (O5 O7 : Obj) (S : Nat) (wr : World) : Prop where
  h5 : wr.heap[b]? = some O5
  h7 : wr.heap[g]? = some O7
  pth : ∀ j, j < y.f.path.length → ∃ (ad : Addr) (n c : Nat) (t : ByteArray), y.p = .slice (some ad) n c ∧ w3.heap.size ≤ ad.block ∧ ad.block < T ∧ wr.cell? (ad.add j) = some (.string t) ∧ t.size ≤ S ∧ wr.frozen? (ad.add j) = false
  ent : ∀ j, j < y.f.ents.length → ∃ (ad : Addr) (n c : Nat) (t : ByteArray), y.es = .slice (some ad) n c ∧ w3.heap.size ≤ ad.block ∧ ad.block < T ∧ wr.cell? ⟨(ad.add (j * 5)).block, (ad.add (j * 5)).off + 1, none⟩ = some (.string t) ∧ t.size ≤ S ∧ wr.frozen? ⟨(ad.add (j * 5)).block, (ad.add (j * 5)).off + 1, none⟩ = false
  ext : Ext w3 wr
theorem str_kept {wr : World} {p q : Addr} {t x : ByteArray} {S : Nat} (h : wr.cell? q = some (.string t)) (ht : t.size ≤ S) (hx : x.size ≤ S + 1) : ∃ t', (wr.setCell p (.string x)).cell? q = some (.string t') ∧ t'.size ≤ S + 1 := by
  by_cases e : p = q
  · subst e
    exact ⟨x, World.cell?_setCell_same _ _ _ h, hx⟩
  · exact ⟨t, (World.cell?_setCell_other _ _ _ _ e).trans h, Nat.le_succ_of_le ht⟩
theorem Fnd.store {w3 wr : World} {T b g S : Nat} {y : Fc} {O5 O7 : Obj} (h : Fnd w3 T y b g O5 O7 S wr) {p : Addr} (h1 : w3.heap.size ≤ p.block) (h2 : p.block < T) (hb : T ≤ b) (hg : T ≤ g) (x : ByteArray) (hxs : x.size ≤ S + 1) : Fnd w3 T y b g O5 O7 (S + 1) (wr.setCell p (.string x)) := by
  refine ⟨?_, ?_, fun j hj => ?_, fun j hj => ?_, Ext.setCell h.ext h1 _⟩
  · exact ((setCell_grown wr p _).block b (Array.getElem?_eq_some_iff.1 h.h5).1 (fun e => by injection e with e; omega)).trans h.h5
  · exact ((setCell_grown wr p _).block g (Array.getElem?_eq_some_iff.1 h.h7).1 (fun e => by injection e with e; omega)).trans h.h7
  · obtain ⟨ad, n, c, t, e, k1, k2, k3, ks, k4⟩ := h.pth j hj
    obtain ⟨t', k3', ks'⟩ := str_kept (p := p) (x := x) k3 ks hxs
    exact ⟨ad, n, c, t', e, k1, k2, k3', ks', by rw [World.frozen?_setCell]; exact k4⟩
  · obtain ⟨ad, n, c, t, e, k1, k2, k3, ks, k4⟩ := h.ent j hj
    obtain ⟨t', k3', ks'⟩ := str_kept (p := p) (x := x) k3 ks hxs
    exact ⟨ad, n, c, t', e, k1, k2, k3', ks', by rw [World.frozen?_setCell]; exact k4⟩
theorem Fnd.start {w3 w4 wr : World} {y : Fc} {b g S : Nat} {O5 O7 : Obj} (hS1 : ∀ s ∈ y.f.path, s.size ≤ S) (hS2 : ∀ e ∈ y.f.ents, e.title.size ≤ S) (hrd : RdC w4 y) (hwc : WcF w4 w3.heap.size y) (hx : Ext w4 wr) (hx3 : Ext w3 w4) (h5 : wr.heap[b]? = some O5) (h7 : wr.heap[g]? = some O7) : Fnd w3 w4.heap.size y b g O5 O7 S wr := by
  refine ⟨h5, h7, fun j hj => ?_, fun j hj => ?_, hx3.trans hx⟩
  · obtain ⟨ad, n, c, u, e, k1, k2, k3⟩ := hwc.1 j hj
    obtain ⟨ad', c', e', k2'⟩ := hrd.1.at hj
    rw [e] at e'
    injection e' with e' _ _
    injection e' with e'
    subst e'
    have hlt := World.block_lt_of_cell? w4 _ k2
    exact ⟨ad, n, c, _, e, k1, by rwa [block_of_add] at hlt, hx.cell k2', hS1 _ (List.getElem_mem hj), (Below.frozen hx hlt).trans k3⟩
  · obtain ⟨ad, n, c, u, e, k1, k2, k3⟩ := hwc.2 (j * 5 + 1) (by omega)
    obtain ⟨ad', c', e', hat⟩ := hrd.2.at hj
    rw [e] at e'
    injection e' with e' _ _
    injection e' with e'
    subst e'
    have hlt := World.block_lt_of_cell? w4 _ k2
    rw [title_addr] at k3
    have hlt2 : (⟨(ad.add (j * 5)).block, (ad.add (j * 5)).off + 1, none⟩ : Addr).block < w4.heap.size := by rw [← title_addr]; exact hlt
    exact ⟨ad, n, c, _, e, k1, by rwa [block_of_add] at hlt, hx.cell hat.c1, hS2 _ (List.getElem_mem hj), (Below.frozen hx hlt2).trans k3⟩
set_option maxRecDepth 100000 in
set_option maxHeartbeats 8000000 in
theorem law13_any (vp : Value) (lp : List Fc) (s : ByteArray) (w : World) (hE : Env w) (hpr : RFcs w vp lp) (hpd : ∀ y ∈ lp, RdC w y) (hpn : lp.length ≤ reachBytes) (hpk : ∀ y ∈ lp, fwide y.f) :
    Calls Tryz.prog 15 #[.agg #[vp], .string s] w fun e w' => e = .returned (.bool true) ∧ Ext w w' := by
  have hp : ArcV w (vp, lp) := ⟨hpr, hpd⟩
  obtain ⟨pA, pc, hpf⟩ := hp.form
  have hpw : arcWide (vp, lp) := ⟨hpn, hpk⟩
  dsimp only at hpf
  subst hpf
  obtain ⟨W1, hW1⟩ : ∃ W1, (w.alloc (.cells #[.slice pA lp.length pc] 46)) = W1 := ⟨_, rfl⟩
  have hx1 : Ext w W1 := by rw [← hW1]; exact (Ext.refl _).alloc _
  have cp : W1.cell? ⟨w.heap.size, 0, none⟩ = some (.slice pA lp.length pc) := by rw [← hW1]; exact (Ext.refl _).boxed 0 _ rfl
  have HC : Hid (∀ W' : World, Ext W1 W' → W'.cell? ⟨w.heap.size, 0, none⟩ = some (.slice pA lp.length pc)) := Lib.hid fun W' h => h.cell cp
  have HE := Lib.hid (fun (W' : World) (h : Ext W1 W') => hE.ext (hx1.trans h))
  have HP := Lib.hid (fun (W' : World) (h : Ext W1 W') => hp.ext (hx1.trans h))
  have HX1 := Lib.hid hx1
  have HAL := Lib.hid (fun (W' : World) (h : Ext W1 W') => alive15_any W' (hE.ext (hx1.trans h)))
  have hall : ∀ z ∈ [(.slice pA lp.length pc, lp)], ArcV W1 z := fun z hz => by
    simp only [List.mem_cons, List.mem_nil_iff, or_false] at hz
    rcases hz with rfl
    · exact hp.ext hx1
  have hwall : ∀ z ∈ [(.slice pA lp.length pc, lp)], arcWide z := fun z hz => by
    simp only [List.mem_cons, List.mem_nil_iff, or_false] at hz
    rcases hz with rfl
    · exact hpw
  have HLG : Hid (Calls Tryz.prog 32 #[.slice (some ⟨W1.heap.size, 0, none⟩) 1 1] (W1.alloc (.cells #[.slice pA lp.length pc] 46)) fun e w' => e = .returned (.bool (largeB [(.slice pA lp.length pc, lp)])) ∧ Ext (W1.alloc (.cells #[.slice pA lp.length pc] 46)) w') :=
    Lib.hid (large15_any _ [(.slice pA lp.length pc, lp)] _ (arcs_lit [(.slice pA lp.length pc, lp)] W1 (by show 1 ≤ 1000; decide)) (fun z hz => (hall z hz).ext ((Ext.refl _).alloc _)) hwall (by show 1 ≤ reachBytes; decide))
  cases hlb : largeB [(.slice pA lp.length pc, lp)] with
  | true =>
    rw [hlb] at HLG
    clear hpw hp hpr hpd hpn hpk hall hwall hE hx1 hlb
    go_enter Tryz.func15, Tryz.ntmps15
    go_wp2_with (first
      | (go_at_call 32; (have hz := HLG.out); (with_reducible refine Calls.mono hz ?_); clear hz; rintro e w1 ⟨rfl, hx2⟩; (have hx3 := ((Ext.refl W1).alloc (.cells #[.slice pA lp.length pc] 46)).trans hx2))
      | (go_at_call 33; (have hz := HAL.out _ hx3); (with_reducible refine Calls.mono hz ?_); clear hz; rintro e w2 ⟨rfl, hx4⟩))
    go_ret
    exact ⟨rfl, HX1.out.trans (hx3.trans hx4)⟩
  | false =>
    rw [hlb] at HLG
    have hsm := largeB_sm hlb hwall
    have hsp : SmL (lp.map Fc.f) 5000 := hsm (.slice pA lp.length pc, lp) (by simp)
    have hlens : ∀ y ∈ lp, y.f.path.length ≤ 16777216 ∧ y.f.ents.length ≤ 16777216 := fun y hy => hsp.lens (by decide) y.f (List.mem_map.2 ⟨y, hy, rfl⟩)
    have hll : lp.length ≤ 16777216 := by have := hsp.len; rw [List.length_map] at this; omega
    have hFl : (foundF lp s).path.length ≤ 16777216 ∧ (foundF lp s).ents.length ≤ 16777216 := by
      unfold foundF
      cases hf : findC lp s with
      | none => exact ⟨by show 0 ≤ 16777216; decide, by show 0 ≤ 16777216; decide⟩
      | some y => exact hlens y (findC_mem hf)
    obtain ⟨F, hF⟩ : ∃ F, foundF lp s = F := ⟨_, rfl⟩
    obtain ⟨b, hb⟩ : ∃ b, (findC lp s).isSome = b := ⟨_, rfl⟩
    have hFs : (∀ t ∈ (foundF lp s).path, t.size ≤ 16777216) ∧ ∀ e ∈ (foundF lp s).ents, e.title.size ≤ 16777216 := by
      unfold foundF
      cases hf : findC lp s with
      | none => exact ⟨fun t ht => by simp [zeroF] at ht, fun t ht => by simp [zeroF] at ht⟩
      | some y =>
        have hk := hsp.hok y.f (List.mem_map.2 ⟨y, findC_mem hf, rfl⟩)
        refine ⟨fun t ht => ?_, fun e he => ?_⟩
        · have h1 := size_le_sizes (show t ∈ y.f.path from ht)
          have h2 := hk.1.1.2
          omega
        · have h2 := (hk.2 e he).2
          omega
    rw [hF] at hFl hFs
    have HFS := Lib.hid hFs
    have form : ∀ {W : World} {y : Fc}, RdC W y → y.f = F → ∃ (A : Option Addr) (c : Nat) (B : Option Addr) (d : Nat), y = ⟨.slice A F.path.length c, .slice B F.ents.length d, F⟩ := fun {W y} h e => by
      obtain ⟨A, c, e1, -, -⟩ := h.1.form
      obtain ⟨B, d, e2, -, -⟩ := h.2.form
      obtain ⟨yp, yes, yf⟩ := y
      dsimp only at e e1 e2
      subst e e1 e2
      exact ⟨A, c, B, d, rfl⟩
    have HFD : Hid (∀ W' : World, Ext W1 W' → Calls Tryz.prog 42 #[.agg #[.slice pA lp.length pc], .string s] W' fun e w' => ∃ (A : Option Addr) (c : Nat) (B : Option Addr) (d : Nat), e = .returned (.tuple #[.agg #[.slice A F.path.length c, .string F.id, .string F.title, .string F.link, .int .i64 F.upd, .slice B F.ents.length d], .bool b]) ∧ RdC w' ⟨.slice A F.path.length c, .slice B F.ents.length d, F⟩ ∧ WcF w' W'.heap.size ⟨.slice A F.path.length c, .slice B F.ents.length d, F⟩ ∧ Ext W' w') := Lib.hid fun W' h => by
      refine (find_any (.slice pA lp.length pc) lp s W' (HP.out W' h).row (HP.out W' h).rd hlens hll).mono ?_
      rintro e w' ⟨y, rfl, hy, hr, hw, hx⟩
      obtain ⟨A, c, B, d, rfl⟩ := form hr (hy.trans hF)
      exact ⟨A, c, B, d, by rw [hb]; rfl, hr, hw, hx⟩
    obtain ⟨zA, zc, zB, zd, hzf⟩ := form (foundC_rd (s := s) hpd) ((foundC_f lp s).trans hF)
    have HZ0 : Hid (RdC w ⟨.slice zA F.path.length zc, .slice zB F.ents.length zd, F⟩) := Lib.hid (by rw [← hzf]; exact foundC_rd hpd)
    have HRF : Hid (∀ W' : World, Ext W1 W' → Calls Tryz.prog 36 #[.agg #[.slice pA lp.length pc], .string s] W' fun e w' => e = .returned (.tuple #[.agg #[.slice zA F.path.length zc, .string F.id, .string F.title, .string F.link, .int .i64 F.upd, .slice zB F.ents.length zd], .bool b]) ∧ Ext W' w') := Lib.hid fun W' h => by
      have := refFind_any (.slice pA lp.length pc) lp s W' (HP.out W' h).row (HP.out W' h).rd hll
      rw [hzf, hb] at this
      exact this
    have HSM : Hid (∀ (A : Option Addr) (c : Nat) (B : Option Addr) (d : Nat) (A2 : Option Addr) (c2 : Nat) (B2 : Option Addr) (d2 : Nat) (W' : World), RdC W' ⟨.slice A F.path.length c, .slice B F.ents.length d, F⟩ → RdC W' ⟨.slice A2 F.path.length c2, .slice B2 F.ents.length d2, F⟩ → Calls Tryz.prog 23 #[.agg #[.slice A F.path.length c, .string F.id, .string F.title, .string F.link, .int .i64 F.upd, .slice B F.ents.length d], .agg #[.slice A2 F.path.length c2, .string F.id, .string F.title, .string F.link, .int .i64 F.upd, .slice B2 F.ents.length d2]] W' fun e w' => e = .returned (.bool true) ∧ Ext W' w') := Lib.hid fun A c B d A2 c2 B2 d2 W' h1 h2 => by
      have := refSame_any ⟨.slice A F.path.length c, .slice B F.ents.length d, F⟩ ⟨.slice A2 F.path.length c2, .slice B2 F.ents.length d2, F⟩ W' h1 h2 hFl.1 hFl.2
      rwa [decide_eq_true rfl] at this
    obtain ⟨M, hM⟩ : ∃ M, F.path.length = M := ⟨_, rfl⟩
    obtain ⟨N, hN⟩ : ∃ N, F.ents.length = N := ⟨_, rfl⟩
    have HMN := Lib.hid (And.intro hM hN)
    have hM2 : M ≤ 16777216 := by omega
    have hN2 : N ≤ 16777216 := by omega
    simp only [hM, hN] at HFD HRF HSM HZ0
    clear hpw hp hpr hpd hpn hpk hall hwall hE hx1 hlb hsm hsp hlens hll hFl hFs hF hb form hzf hM hN
    go_enter Tryz.func15, Tryz.ntmps15
    go_wp2_with (first
      | (go_at_call 32; (have hz := HLG.out); (with_reducible refine Calls.mono hz ?_); clear hz; rintro e w1 ⟨rfl, hx2⟩; (have hy0 := ((Ext.refl W1).alloc (.cells #[.slice pA lp.length pc] 46)).trans hx2); (have n0 := HC.out _ hy0))
      | (go_at_call 42; (have hz := HFD.out _ hy0); (with_reducible refine Calls.mono hz ?_); clear hz; rintro e w4 ⟨yA, yc, yB, yd, rfl, hr4, hwc4, hx4⟩; clear n0; (have hy1 := (hy0.trans hx4).alloc (.cells #[.slice yA M yc, .string F.id, .string F.title, .string F.link, .int .i64 F.upd, .slice yB N yd] 35)); (have n0 := HC.out _ hy1))
      | (go_at_call 36; (have hz := HRF.out _ hy1); (with_reducible refine Calls.mono hz ?_); clear hz; rintro e w5 ⟨rfl, hx5⟩; clear n0; (have hrz := HZ0.out.ext (HX1.out.trans hy1)); (have hs5 := (((Ext.refl w4).alloc (.cells #[.slice yA M yc, .string F.id, .string F.title, .string F.link, .int .i64 F.upd, .slice yB N yd] 35)).trans hx5).alloc (.cells #[.slice zA M zc, .string F.id, .string F.title, .string F.link, .int .i64 F.upd, .slice zB N zd] 35)); (have hs51 := hx5.alloc (.cells #[.slice zA M zc, .string F.id, .string F.title, .string F.link, .int .i64 F.upd, .slice zB N zd] 35)); (have b5 := hs51.heap (heap_alloc_new w4 (.cells #[.slice yA M yc, .string F.id, .string F.title, .string F.link, .int .i64 F.upd, .slice yB N yd] 35))); (have b7 := heap_alloc_new w5 (.cells #[.slice zA M zc, .string F.id, .string F.title, .string F.link, .int .i64 F.upd, .slice zB N zd] 35)); (have hz5 := hrz.ext hs51); (have hr5 := hr4.ext hs5); (obtain ⟨q0, q1, q2, q3, q4, q5⟩ := blk6 b5))
      | (go_at_call 23; (have hz := HSM.out yA yc yB yd zA zc zB zd _ hr5 hz5); (with_reducible refine Calls.mono hz ?_); clear hz; rintro e w6 ⟨rfl, hx6⟩; (have r5 := hx6.cell q5)))
    have hT5 : w4.heap.size ≤ w5.heap.size := by have := hx5.size; rw [size_alloc] at this; omega
    have hst := Fnd.start (b := w4.heap.size) (g := w5.heap.size) (S := 16777216) HFS.out.1 HFS.out.2 hr4 hwc4 (hs5.trans hx6) hx4 (hx6.heap b5) (hx6.heap b7)
    have HY0 := Lib.hid hy0
    have HZ : Hid (∀ wr, Ext w1 wr → RdC wr ⟨.slice zA M zc, .slice zB N zd, F⟩) := Lib.hid fun wr h => HZ0.out.ext (HX1.out.trans (HY0.out.trans h))
    obtain ⟨O5, hO5⟩ : ∃ O : Obj, ((.cells #[.slice yA M yc, .string F.id, .string F.title, .string F.link, .int .i64 F.upd, .slice yB N yd] 35) : Obj) = O := ⟨_, rfl⟩
    obtain ⟨O7, hO7⟩ : ∃ O : Obj, ((.cells #[.slice zA M zc, .string F.id, .string F.title, .string F.link, .int .i64 F.upd, .slice zB N zd] 35) : Obj) = O := ⟨_, rfl⟩
    rw [hO5, hO7] at hst
    obtain ⟨T, hT⟩ : ∃ T, w4.heap.size = T := ⟨_, rfl⟩
    obtain ⟨G, hG⟩ : ∃ G, w5.heap.size = G := ⟨_, rfl⟩
    have HCL : Hid (∀ S wr, Fnd w1 T ⟨.slice yA M yc, .slice yB N yd, F⟩ T G O5 O7 S wr → wr.cell? ⟨T, 0, none⟩ = some (.slice yA M yc) ∧ wr.cell? ⟨T, 5, none⟩ = some (.slice yB N yd)) := Lib.hid fun S wr h => by
      have h5 := h.h5
      rw [← hO5] at h5
      obtain ⟨q0, -, -, -, -, q5⟩ := blk6 h5
      exact ⟨q0, q5⟩
    have HC7 : Hid (∀ S wr w', Fnd w1 T ⟨.slice yA M yc, .slice yB N yd, F⟩ T G O5 O7 S wr → Ext wr w' → w'.cell? ⟨G, 0, none⟩ = some (.slice zA M zc) ∧ w'.cell? ⟨G, 1, none⟩ = some (.string F.id) ∧ w'.cell? ⟨G, 2, none⟩ = some (.string F.title) ∧ w'.cell? ⟨G, 3, none⟩ = some (.string F.link) ∧ w'.cell? ⟨G, 4, none⟩ = some (.int .i64 F.upd) ∧ w'.cell? ⟨G, 5, none⟩ = some (.slice zB N zd)) := Lib.hid fun S wr w' h hx => by
      have h7 := hx.heap h.h7
      rw [← hO7] at h7
      exact blk6 h7
    rw [hT, hG] at hst
    rw [hT, hG] at hT5
    rw [hT, hG]
    have HST := Lib.hid hst
    have HPT : Hid (∀ S wr, Fnd w1 T ⟨.slice yA M yc, .slice yB N yd, F⟩ T G O5 O7 S wr → ∀ j, j < M → ∃ a, yA = some a ∧ ∃ t, wr.cell? (a.add j) = some (.string t) ∧ t.size ≤ S ∧ wr.frozen? (a.add j) = false ∧ ∀ x : ByteArray, x.size ≤ S + 1 → Fnd w1 T ⟨.slice yA M yc, .slice yB N yd, F⟩ T G O5 O7 (S + 1) (wr.setCell (a.add j) (.string x))) := Lib.hid fun S wr h j hj => by
      obtain ⟨a, n, c, t, e, k1, k2, k3, ks, k4⟩ := h.pth j (by show j < F.path.length; rw [HMN.out.1]; exact hj)
      injection e with e _ _
      exact ⟨a, e, t, k3, ks, k4, fun x hxs => h.store (by rw [block_of_add]; exact k1) (by rw [block_of_add]; exact k2) (Nat.le_refl _) hT5 x hxs⟩
    have HEN : Hid (∀ S wr, Fnd w1 T ⟨.slice yA M yc, .slice yB N yd, F⟩ T G O5 O7 S wr → ∀ j, j < N → ∃ a, yB = some a ∧ ∃ t, wr.cell? ⟨(a.add (j * 5)).block, (a.add (j * 5)).off + 1, none⟩ = some (.string t) ∧ t.size ≤ S ∧ wr.frozen? ⟨(a.add (j * 5)).block, (a.add (j * 5)).off + 1, none⟩ = false ∧ ∀ x : ByteArray, x.size ≤ S + 1 → Fnd w1 T ⟨.slice yA M yc, .slice yB N yd, F⟩ T G O5 O7 (S + 1) (wr.setCell ⟨(a.add (j * 5)).block, (a.add (j * 5)).off + 1, none⟩ (.string x))) := Lib.hid fun S wr h j hj => by
      obtain ⟨a, n, c, t, e, k1, k2, k3, ks, k4⟩ := h.ent j (by show j < F.ents.length; rw [HMN.out.2]; exact hj)
      injection e with e _ _
      exact ⟨a, e, t, k3, ks, k4, fun x hxs => h.store (by show _ ≤ (a.add (j * 5)).block; rw [block_of_add]; exact k1) (by show (a.add (j * 5)).block < _; rw [block_of_add]; exact k2) (Nat.le_refl _) hT5 x hxs⟩
    clear hst hO5 hO7 hT hG r5 q0 q1 q2 q3 q4 q5 b5 b7 hr4 hwc4 hs5 hs51 hr5 hz5 hrz hx4 hx5 hx6 hy0 hy1
    go_loopw [9, 41] (fun x i wr => ∃ k : Nat, k ≤ N ∧ i = .int .i64 k ∧ Hid (Fnd w1 T ⟨.slice yA M yc, .slice yB N yd, F⟩ T G O5 O7 (16777216 + k) wr)) (fun _ i _ => N - (intOf i).toNat)
    case atStart => exact ⟨0, Nat.zero_le _, rfl, HST⟩
    case round =>
      obtain ⟨k, hk, rfl, hI⟩ := hrel
      obtain ⟨k0, k5⟩ := HCL.out _ wr hI.out
      by_cases hlt : k < N
      · obtain ⟨a, rfl, t, h1, hts, h2, h3⟩ := HEN.out _ wr hI.out k hlt
        have hts2 : ¬ 9223372036854775807 < t.size + 1 := by omega
        have H3 := Lib.hid (h3 (t ++ ⟨#[120]⟩) (by rw [ByteArray.size_append]; show t.size + 1 ≤ _; omega))
        have hi0 : (0 : Int) ≤ (k : Int) := by omega
        have hi1 : (k : Int) < (N : Int) := by omega
        clear h3 hts
        go_wp2
        go_roundw
        case rel => exact ⟨k + 1, hlt, by go_num, H3⟩
        case measure => simp [intOf]; omega
      · have hke : k = N := by omega
        subst hke
        go_wp2
        clear k0 k5
        go_loopw [10, 57] (fun x i wr => ∃ j : Nat, j ≤ M ∧ i = .int .i64 j ∧ Hid (Fnd w1 T ⟨.slice yA M yc, .slice yB k yd, F⟩ T G O5 O7 (16777216 + k + j) wr)) (fun _ i _ => M - (intOf i).toNat)
        case atStart => exact ⟨0, Nat.zero_le _, rfl, hI⟩
        case round =>
          obtain ⟨j, hj, rfl, hJ⟩ := hrel
          obtain ⟨k0, k5⟩ := HCL.out _ wr hJ.out
          by_cases hlj : j < M
          · obtain ⟨a, rfl, t, h1, hts, h2, h3⟩ := HPT.out _ wr hJ.out j hlj
            have hts2 : ¬ 9223372036854775807 < t.size + 1 := by omega
            have H3 := Lib.hid (h3 (t ++ ⟨#[120]⟩) (by rw [ByteArray.size_append]; show t.size + 1 ≤ _; omega))
            have hi0 : (0 : Int) ≤ (j : Int) := by omega
            have hi1 : (j : Int) < (M : Int) := by omega
            clear h3 hts
            go_wp2
            go_roundw
            case rel => exact ⟨j + 1, hlj, by go_num, H3⟩
            case measure => simp [intOf]; omega
          · have hje : j = M := by omega
            subst hje
            have hxr := hJ.out.ext
            have hy9 := HY0.out.trans hxr
            have n0 := HC.out _ hy9
            clear k0 k5
            go_wp2_with (first
              | (go_at_call 42; (have hz := HFD.out _ hy9); (with_reducible refine Calls.mono hz ?_); clear hz; rintro e w8 ⟨uA, uc, uB, ud, rfl, hr8, -, hx8⟩; (have hya := hx8.alloc (.cells #[.slice uA j uc, .string F.id, .string F.title, .string F.link, .int .i64 F.upd, .slice uB k ud] 35)))
              | (go_at_call 33; (have hz := HAL.out _ (hy9.trans hya)); (with_reducible refine Calls.mono hz ?_); clear hz; rintro e w9 ⟨rfl, hx9⟩; (obtain ⟨g0, g1, g2, g3, g4, g5⟩ := HC7.out _ _ _ hJ.out (hya.trans hx9)); (have a0 := hx9.boxed 0 _ rfl); (have a1 := hx9.boxed 1 _ rfl); (have a2 := hx9.boxed 2 _ rfl); (have a3 := hx9.boxed 3 _ rfl); (have a4 := hx9.boxed 4 _ rfl); (have a5 := hx9.boxed 5 _ rfl))
              | (go_at_call 23; (have hz := HSM.out uA uc uB ud zA zc zB zd _ (hr8.ext (((Ext.refl w8).alloc _).trans hx9)) (HZ.out _ (hxr.trans (hya.trans hx9)))); (with_reducible refine Calls.mono hz ?_); clear hz; rintro e wb ⟨rfl, hxb⟩))
            go_ret
            exact ⟨rfl, HX1.out.trans ((hy9.trans (hya.trans hx9)).trans hxb)⟩
end Go.Proofs.YtgecijhgonfldaaGreatDoor
