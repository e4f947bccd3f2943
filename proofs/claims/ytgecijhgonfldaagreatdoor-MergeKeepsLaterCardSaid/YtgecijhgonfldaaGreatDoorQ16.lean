/- Parts of the proof: contracts and plain laws that the statement needs. -/
import Derived.Test.YtgecijhgonfldaaGreatDoorQ14
import Derived.Test.YtgecijhgonfldaaGreatDoorQ15
namespace Go.Proofs.YtgecijhgonfldaaGreatDoor
open Go Go.RowKit
set_option linter.unusedVariables false
theorem info_ps : (Tryz.prog.info? 76).map (fun i => (i.zero, i.size, i.bytes)) = some (some (.pointer none), 1, 8) := by kernel_rfl
theorem str_one (l : List ByteArray) : ∀ u ∈ l.map Value.string, u.oneCell' = true := by
  intro u hu
  obtain ⟨s, _, rfl⟩ := List.mem_map.1 hu
  rfl
def zeroC : Fc := ⟨.slice none 0 0, .slice none 0 0, zeroF⟩
theorem zeroC_rd (w : World) : RdC w zeroC := ⟨RSl.nil w 1, RSl.nil w 5⟩
theorem zeroC_away (g : Option Nat) : awayC zeroC g := ⟨Or.inl rfl, Or.inl rfl⟩
theorem feedColl_bad {W : World} {v : Value} {g b : Nat} {l : List ByteArray} {x y z : ByteArray} (hE : Env W) (hP : Ptrs W v (ptrsF g b l x y z)) (h0 : firstErr (l ++ [x, y, z]) ≠ 0) :
    Calls Tryz.prog 43 #[v] W fun e w' => e = .returned (.int .i64 (firstErr (l ++ [x, y, z]) : Nat)) ∧ Ext W w' := by
  refine (collapseAll_any v _ W hE hP).mono ?_
  rintro e w' ⟨h1, h2⟩
  rw [ptrsF_snd] at h1 h2
  exact ⟨h1, h2.elim (fun h => absurd h.1 h0) fun h => h.2⟩
theorem feedColl_ok {W : World} {v : Value} {g b cap : Nat} {A : Option Addr} {l : List ByteArray} {x y z : ByteArray} {p e t : Value} (hE : Env W) (hP : Ptrs W v (ptrsF g b l x y z)) (hgb : g ≠ b)
    (hA : 0 < l.length → A = some ⟨g, 0, none⟩) (hr : RStrs W (.slice A l.length cap) l)
    (h0 : W.cell? ⟨b, 0, none⟩ = some p) (h1 : W.cell? ⟨b, 1, none⟩ = some (.string x)) (h2 : W.cell? ⟨b, 2, none⟩ = some (.string y)) (h3 : W.cell? ⟨b, 3, none⟩ = some (.string z)) (h4 : W.cell? ⟨b, 4, none⟩ = some t) (h5 : W.cell? ⟨b, 5, none⟩ = some e) (f5 : W.frozen? ⟨b, 5, none⟩ = false)
    (hz : firstErr (l ++ [x, y, z]) = 0) :
    Calls Tryz.prog 43 #[v] W fun u w' => u = .returned (.int .i64 0) ∧ RStrs w' (.slice A l.length cap) (l.map collapse) ∧
      (w'.cell? ⟨b, 0, none⟩ = some p ∧ w'.cell? ⟨b, 1, none⟩ = some (.string (collapse x)) ∧ w'.cell? ⟨b, 2, none⟩ = some (.string (collapse y)) ∧ w'.cell? ⟨b, 3, none⟩ = some (.string (collapse z)) ∧ w'.cell? ⟨b, 4, none⟩ = some t ∧ w'.cell? ⟨b, 5, none⟩ = some e) ∧
      w'.frozen? ⟨b, 5, none⟩ = false ∧ (∀ a : World, Ext a W → a.heap.size ≤ g → a.heap.size ≤ b → Ext a w') ∧ (∀ k o, k ≠ g → k ≠ b → W.heap[k]? = some o → w'.heap[k]? = some o) := by
  refine (collapseAll_any v _ W hE hP).mono ?_
  rintro u w' ⟨q1, q2⟩
  rw [ptrsF_snd, hz] at q1 q2
  rw [ptrsF_map] at q2
  rcases q2 with ⟨_, q2⟩ | ⟨q2, _⟩
  · have hx : Ext (setS W (ptrsF g b (l.map collapse) (collapse x) (collapse y) (collapse z))) w' := by
      unfold Ext
      rw [setS_size]
      exact q2
    have hlen : l.length = (l.map collapse).length := by simp
    have hs := ptrsF_set (l := l.map collapse) (x := collapse x) (y := collapse y) (z := collapse z) (A := A) (cap := cap) (ll := l) hgb hlen (by rw [← hlen]; exact hA) (by rw [← hlen]; exact hr) h0 h1 h2 h3 h4 h5 hx
    rw [← hlen] at hs
    obtain ⟨s0, s1⟩ := hs
    have hbW : b < W.heap.size := World.block_lt_of_cell? W _ h0
    refine ⟨q1, s0, s1, ?_, fun a ha hag hab => ?_, fun k o hk1 hk2 ho => ?_⟩
    · rw [Below.frozen hx (by rw [setS_size]; exact hbW), setS_frozen]
      exact f5
    · refine Ext.trans (Ext.setS _ ha fun q hq => ?_) hx
      rcases ptrsF_mem hq with e | e <;> rw [e] <;> assumption
    · refine hx.heap ?_
      rw [setS_heap_other _ _ _ fun q hq => ?_]
      · exact ho
      · rcases ptrsF_mem hq with e | e <;> rw [e]
        · exact fun e => hk1 e.symm
        · exact fun e => hk2 e.symm
  · exact absurd rfl q2
set_option maxRecDepth 100000 in
set_option maxHeartbeats 8000000 in
theorem normFeed_any (x : Fc) (w : World) (hE : Env w) (hk : fokS x.f) (hr : RdC w x) :
    Calls Tryz.prog 21 #[.agg (cellsC x).toArray] w fun e w' => ∃ y : Fc, e = .returned (.tuple #[.agg (cellsC y).toArray, .int .i64 (errF x.f : Nat)]) ∧ y.f = normF x.f ∧ RdC w' y ∧ (∀ g, g < w.heap.size → awayC y (some g)) ∧ Ext w w' := by
  obtain ⟨i0, hi0, hz0, hz1', hz2⟩ := info_parts info_ps
  obtain ⟨i1, hj0, hy0, hy1, hy2⟩ := info_parts info_ent
  obtain ⟨p, es, f⟩ := x
  obtain ⟨F, hF⟩ : ∃ F, f = F := ⟨_, rfl⟩
  obtain ⟨EF, hEF⟩ : ∃ n, errF F = n := ⟨_, rfl⟩
  obtain ⟨NF, hNF⟩ : ∃ n, normF F = n := ⟨_, rfl⟩
  have e1 : errF f = EF := by rw [hF]; exact hEF
  have e2 : normF f = NF := by rw [hF]; exact hNF
  simp only [e1, e2]
  have HEF := Lib.hid hEF
  have HNF0 := Lib.hid hNF
  clear e1 e2 hEF hNF
  have HBAD : Hid (∀ n, errF F = n → n ≠ 0 → normF F = zeroF) := Lib.hid fun n h h' => by unfold normF; rw [h, if_neg h']
  obtain ⟨path, id, title, link, upd, ents⟩ := f
  obtain ⟨hrp, hre⟩ := hr
  obtain ⟨⟨hup, hsz⟩, hel, hes⟩ := hk
  simp only at hrp hre hsz hel hes
  have hpl : path.length ≤ 16777216 := by omega
  have HSZ : Hid (∀ s ∈ path ++ [id, title, link], s.size ≤ 16777216) := Lib.hid (by
    intro s hs
    rcases List.mem_append.1 hs with hs | hs
    · have := size_le_sizes hs; omega
    · simp only [List.mem_cons, List.mem_nil_iff, or_false] at hs
      rcases hs with rfl | rfl | rfl <;> omega)
  have HES := Lib.hid hes
  have HCL := Lib.hid (fun (w' : World) (h : Ext w w') => clone_str p path.length (path.map Value.string) w' (hrp.ext h) (str_one path) (by omega))
  have HRE := Lib.hid hre
  have HF := Lib.hid hF
  obtain ⟨pA, pc, hp1, _, _⟩ := hrp.form
  obtain ⟨eA, ec, he1, _, _⟩ := hre.form
  subst hp1 he1
  clear hrp hre hes hsz hup hF
  unfold cellsC fCells
  dsimp only
  go_enter Tryz.func21, Tryz.ntmps21
  go_wp2_with (go_at_call 50; refine (HCL.out _ (((Ext.refl w).alloc _).alloc _)).mono ?_; rintro e w1 ⟨p1, rfl, hown1, hx1⟩; (obtain ⟨A1, cc1, hp1⟩ : ∃ A c, p1 = .slice A path.length c := (by obtain ⟨A, c, e, _⟩ := (RSl.of_own hown1).2; exact ⟨A, c, e⟩)); subst hp1; (have hxb := ((Ext.refl _).alloc _).trans hx1); (have c0 := hxb.boxed 0 _ rfl); (have c1 := hxb.boxed 1 _ rfl); (have c2 := hxb.boxed 2 _ rfl); (have c3 := hxb.boxed 3 _ rfl); (have c4 := hxb.boxed 4 _ rfl); (have c5 := hxb.boxed 5 _ rfl); (have f0 := hxb.boxedF 0); (have f1 := hxb.boxedF 1); (have f2 := hxb.boxedF 2); (have f3 := hxb.boxedF 3); (have f5 := hxb.boxedF 5))
  obtain ⟨W1, hW1⟩ : ∃ W, W = w1.setCell ⟨w.heap.size, 0, none⟩ (.slice A1 path.length cc1) := ⟨_, rfl⟩
  rw [← hW1]
  have hown1' : w1.ownsRow (w.heap.size + 2) 9 1 (.slice A1 path.length cc1) path.length (path.map Value.string) := own_mono hown1 (by rw [size_alloc, size_alloc]; exact Nat.le_refl _)
  have b0 : W1.cell? ⟨w.heap.size, 0, none⟩ = some (.slice A1 path.length cc1) := by rw [hW1]; exact World.cell?_setCell_same _ _ _ c0
  have b1 : W1.cell? ⟨w.heap.size, 1, none⟩ = some (.string id) := by rw [hW1, World.cell?_setCell_other _ _ _ _ (by simp)]; exact c1
  have b2 : W1.cell? ⟨w.heap.size, 2, none⟩ = some (.string title) := by rw [hW1, World.cell?_setCell_other _ _ _ _ (by simp)]; exact c2
  have b3 : W1.cell? ⟨w.heap.size, 3, none⟩ = some (.string link) := by rw [hW1, World.cell?_setCell_other _ _ _ _ (by simp)]; exact c3
  have b4 : W1.cell? ⟨w.heap.size, 4, none⟩ = some (.int .i64 upd) := by rw [hW1, World.cell?_setCell_other _ _ _ _ (by simp)]; exact c4
  have b5 : W1.cell? ⟨w.heap.size, 5, none⟩ = some (.slice eA ents.length ec) := by rw [hW1, World.cell?_setCell_other _ _ _ _ (by simp)]; exact c5
  have g1 : W1.frozen? ⟨w.heap.size, 1, none⟩ = false := by rw [hW1, World.frozen?_setCell]; exact f1
  have g2 : W1.frozen? ⟨w.heap.size, 2, none⟩ = false := by rw [hW1, World.frozen?_setCell]; exact f2
  have g3 : W1.frozen? ⟨w.heap.size, 3, none⟩ = false := by rw [hW1, World.frozen?_setCell]; exact f3
  have g5 : W1.frozen? ⟨w.heap.size, 5, none⟩ = false := by rw [hW1, World.frozen?_setCell]; exact f5
  have hown : W1.ownsRow (w.heap.size + 2) 9 1 (.slice A1 path.length cc1) path.length (path.map Value.string) := by
    rw [hW1]
    exact ownsRow_setCell_other hown1' (a := ⟨w.heap.size, 0, none⟩) (fun e => absurd (hown1'.lt _ e).1 (show ¬ (w.heap.size + 2 ≤ w.heap.size) by omega)) _
  have hz1 : W1.heap[w.heap.size + 1]? = some (.cells #[.slice none 0 0, .string ⟨#[]⟩, .string ⟨#[]⟩, .string ⟨#[]⟩, .int .i64 0, .slice none 0 0] 35) := by
    rw [hW1, heap_setCell_other _ _ _ _ (by simp)]
    refine hx1.heap ?_
    have := heap_alloc_new (w.alloc (.cells #[.slice pA path.length pc, .string id, .string title, .string link, .int .i64 upd, .slice eA ents.length ec] 35)) (.cells #[.slice none 0 0, .string ⟨#[]⟩, .string ⟨#[]⟩, .string ⟨#[]⟩, .int .i64 0, .slice none 0 0] 35)
    rwa [size_alloc] at this
  have hxW : Ext w W1 := by rw [hW1]; exact Ext.setCell ((((Ext.refl w).alloc _).alloc _).trans hx1) (Nat.le_refl _) _
  have hEW := hE.ext hxW
  have hsW : w.heap.size + 2 ≤ W1.heap.size := by
    rw [hW1]
    have := hx1.size
    rw [size_alloc, size_alloc] at this
    show w.heap.size + 2 ≤ (w1.heap.modify _ _).size
    rw [Array.size_modify]
    exact this
  obtain ⟨g, hgA, hgb⟩ : ∃ g, (0 < path.length → A1 = some ⟨g, 0, none⟩) ∧ w.heap.size + 2 ≤ g := by
    rcases Nat.eq_zero_or_pos path.length with h0 | h0
    · exact ⟨w.heap.size + 2, fun h => by omega, Nat.le_refl _⟩
    · obtain ⟨g, cap, e, hb, _⟩ := World.ownsRow.form hown h0
      injection e with e1 e2 e3
      exact ⟨g, fun _ => e1, hb⟩
  have HOWN := Lib.hid hown
  have HGA := Lib.hid hgA
  have HXW := Lib.hid hxW
  have HEW := Lib.hid hEW
  clear hW1 hown1 hown1' hown c0 c1 c2 c3 c4 c5 f0 f1 f2 f3 f5 hxb hx1 hxW hEW hgA HCL
  go_loopw [4, 19] (fun o i wr => ∃ k : Nat, k ≤ path.length ∧ i = .int .i64 k ∧ wr.ownsRow W1.heap.size 76 1 o k (((ptrsAt g 0 path).take k).map fun q => Value.pointer (some q.1)) ∧ Ext W1 wr) (fun _ i _ => path.length - (intOf i).toNat)
  case atStart => exact ⟨0, Nat.zero_le _, rfl, World.ownsRow_nil _ _ _ _, Ext.refl _⟩
  case round =>
    obtain ⟨k, hk, rfl, hown, hx⟩ := hrel
    by_cases hlt : k < path.length
    · have hAA := HGA.out (by omega)
      subst hAA
      have d0 := hx.cell b0
      have hi0' : (0 : Int) ≤ (k : Int) := by omega
      have hi1' : (k : Int) < (path.length : Int) := by omega
      have hsn := ptrsAt_snoc g path k hlt
      obtain ⟨X, hX⟩ : ∃ X, ((ptrsAt g 0 path).take k).map (fun q => Value.pointer (some q.1)) = X := ⟨_, rfl⟩
      rw [hX] at hown hsn
      have HSN := Lib.hid hsn
      have HBY : Hid ((k + 1) * 8 ≤ 140737488355328) := Lib.hid (by omega)
      have HML : Hid (k + 1 ≤ maxLen) := Lib.hid (by unfold maxLen; omega)
      have HOW := Lib.hid hown
      have HXX := Lib.hid hx
      have hws := hx.size
      clear hsn hX hown
      go_wp2_with (first
        | (at_builtin; refine wpList_append_rsl _ rfl (.tmp 22) (.tmp 27) _ rfl W1.heap.size 76 i0 _ 1 8 Tryz.underlying82 hi0 hz0 hz1' hz2 rfl (by decide) _ k X rfl (HOW.out.alloc _) _ 1 [.pointer (some ⟨g, k, none⟩)] rfl (rsl_new rfl (by decide)) (by intro y hy; simp at hy; subst hy; rfl) HML.out HBY.out ?_ ?_; (simp; omega); intro v3 w3 hown3 hg3 hat3; (have hx3 : Ext W1 w3 := Ext.app (HXX.out.alloc _) hg3 (HOW.out.alloc _) (Nat.le_refl _))))
      go_roundw
      case rel => exact ⟨k + 1, hlt, by go_num, by rw [HSN.out]; exact hown3, hx3⟩
      case measure => simp [intOf]; omega
    · have hke : k = path.length := by omega
      subst hke
      rw [List.take_of_length_le (by rw [ptrsAt_len]; exact Nat.le_refl _)] at hown
      have d0 := hx.cell b0
      have d1 := hx.cell b1
      have d2 := hx.cell b2
      have d3 := hx.cell b3
      have d4 := hx.cell b4
      have d5 := hx.cell b5
      obtain ⟨X, hX⟩ : ∃ X, (ptrsAt g 0 path).map (fun q => Value.pointer (some q.1)) = X := ⟨_, rfl⟩
      rw [hX] at hown
      have hpf : (ptrsF g w.heap.size path id title link).map (fun q => Value.pointer (some q.1)) = X ++ [.pointer (some ⟨w.heap.size, 1, none⟩), .pointer (some ⟨w.heap.size, 2, none⟩), .pointer (some ⟨w.heap.size, 3, none⟩)] := by
        unfold ptrsF
        rw [List.map_append, hX]
        rfl
      have HPF := Lib.hid hpf
      have HOW := Lib.hid hown
      have HXX := Lib.hid hx
      have hws := hx.size
      have HBY : Hid ((path.length + 3) * 8 ≤ 140737488355328) := Lib.hid (by omega)
      have HML : Hid (path.length + 3 ≤ maxLen) := Lib.hid (by unfold maxLen; omega)
      have hgne : g ≠ w.heap.size := by omega
      have hP : ∀ (w4 : World) (v4 : Value), Ext W1 w4 → w4.ownsRow W1.heap.size 76 1 v4 (path.length + 3) (X ++ [.pointer (some ⟨w.heap.size, 1, none⟩), .pointer (some ⟨w.heap.size, 2, none⟩), .pointer (some ⟨w.heap.size, 3, none⟩)]) → Ptrs w4 v4 (ptrsF g w.heap.size path id title link) := by
        intro w4 v4 hx4 hown4
        have hbW : w.heap.size < W1.heap.size := by omega
        refine feedPtrs (A := A1) (cap := cc1) hgne HGA.out (own_ext HOWN.out hx4) (hx4.cell b1) (hx4.cell b2) (hx4.cell b3) ((Below.frozen hx4 hbW).trans g1) ((Below.frozen hx4 hbW).trans g2) ((Below.frozen hx4 hbW).trans g3) HSZ.out ?_
        rw [HPF.out]
        exact RSl.of_own hown4
      have HP := Lib.hid hP
      have hst1 : RStrs W1 (.slice A1 path.length cc1) path := RSl.of_own HOWN.out
      have HST := Lib.hid hst1
      have HB := Lib.hid (And.intro b0 (And.intro b1 (And.intro b2 (And.intro b3 (And.intro b4 b5)))))
      have HG5 := Lib.hid g5
      have HZ1 := Lib.hid hz1
      clear hX hpf hown hP hst1 b0 b1 b2 b3 b4 b5 g1 g2 g3 g5 hz1 hx
      by_cases h0 : firstErr (path ++ [id, title, link]) = 0
      · have hhd : errF F = if collapse id = noS ∨ (path.any fun p => decide (collapse p = noS)) = true then 19 else if 64 < path.length then 9 else if inT upd = true then errEs ents else 3 := by
          rw [← HF.out]
          unfold errF headF strsF
          simp only [h0, ne_eq, not_true_eq_false, if_false]
          split
          · rfl
          · split
            · rfl
            · split <;> rfl
        have HHD := Lib.hid hhd
        have hany : ((path.map collapse).any fun s => decide (s = ⟨#[]⟩)) = path.any fun p => decide (collapse p = noS) := by rw [List.any_map]; rfl
        obtain ⟨Bp, hBp⟩ : ∃ B, (path.any fun p => decide (collapse p = noS)) = B := ⟨_, rfl⟩
        rw [hBp] at hany
        have HANY := Lib.hid hany
        have HBp := Lib.hid hBp
        have HT := Lib.hid (fun w' => inTime_any upd w')
        have HCO := Lib.hid (fun (w4 : World) (v4 : Value) (hx4 : Ext W1 w4) hown4 => feedColl_ok (W := w4) (v := v4) (g := g) (b := w.heap.size) (cap := cc1) (A := A1) (l := path) (x := id) (y := title) (z := link) (HEW.out.ext hx4) (HP.out w4 v4 hx4 hown4) hgne HGA.out (HST.out.ext hx4) (hx4.cell HB.out.1) (hx4.cell HB.out.2.1) (hx4.cell HB.out.2.2.1) (hx4.cell HB.out.2.2.2.1) (hx4.cell HB.out.2.2.2.2.1) (hx4.cell HB.out.2.2.2.2.2) ((Below.frozen hx4 (show w.heap.size < W1.heap.size by omega)).trans HG5.out) h0)
        clear hhd hany hBp h0
        obtain ⟨ci, hci⟩ : ∃ c, collapse id = c := ⟨_, rfl⟩
        obtain ⟨ct, hct⟩ : ∃ c, collapse title = c := ⟨_, rfl⟩
        obtain ⟨cl, hcl⟩ : ∃ c, collapse link = c := ⟨_, rfl⟩
        rw [hci, hct, hcl] at HCO
        rw [hci] at HHD
        have HCI := Lib.hid hci
        have HCT := Lib.hid hct
        have HCLK := Lib.hid hcl
        clear hci hct hcl
        by_cases hid0 : ci = noS
        · subst hid0
          have hne : noS.toList = [] := by rw [ByteArray.toList_eq]; rfl
          unfold noS at HCO
          have he : errF F = 19 := by
            rw [HHD.out]
            rw [if_pos (Or.inl rfl)]
          have HN := Lib.hid (HBAD.out _ he (by decide))
          have heE := HEF.out.symm.trans he
          subst heE
          clear he
          go_wp2_with (first
            | (at_builtin; refine wpList_append_rsl _ rfl (.tmp 30) (.tmp 34) _ rfl W1.heap.size 76 i0 _ 1 8 Tryz.underlying82 hi0 hz0 hz1' hz2 rfl (by decide) _ path.length X rfl (HOW.out.alloc _) _ 3 [.pointer (some ⟨w.heap.size, 1, none⟩), .pointer (some ⟨w.heap.size, 2, none⟩), .pointer (some ⟨w.heap.size, 3, none⟩)] rfl (rsl_new rfl (by decide)) (by intro y hy; simp at hy; rcases hy with rfl | rfl | rfl <;> rfl) HML.out HBY.out ?_ ?_; (simp; omega); intro v3 w3 hown3 hg3 hat3; (have hx3 : Ext W1 w3 := Ext.app (HXX.out.alloc _) hg3 (HOW.out.alloc _) (Nat.le_refl _)))
            | (go_at_call 43; (have hz := HCO.out _ _ hx3 hown3); (with_reducible refine Calls.mono hz ?_); clear hz; rintro e w5 ⟨rfl, hst5, ⟨q0, q1, q2, q3, q4, q5⟩, f5, hxa, hka⟩; (have hx5 : Ext w w5 := hxa w (HXW.out.trans hx3) (by omega) (Nat.le_refl _)); (have hz5 := hka (w.heap.size + 1) _ (by omega) (by omega) (hx3.heap HZ1.out)); (have HC := Lib.hid (contains_any (w := w5) (g := g) (n := path.length) (c := cc1) (A := A1) (l := path.map collapse) ⟨#[]⟩ (by simp) (by simpa using HGA.out) hst5 (by simp; omega))); rw [HANY.out] at HC; clear hxa hka)
            | (refine wpList_store_row rfl 35 (.tmp 2) (.tmp 51) rfl (w.heap.size + 1) _ rfl rfl _ _ hz5 size_fd rfl oneF ?_))
          ((try simp only [Exit.inBlock, Exit.then]); refine bodyPost_ret (results_cell_row2 rfl _ _ _ _ _ _ _ rfl (setRow_heap _ _ _ _ _ _ hz5) Tryz.underlying35 rfl size_fd) rfl ?_)
          exact ⟨zeroC, rfl, HN.out.symm.trans HNF0.out, zeroC_rd _, fun _ _ => zeroC_away _, hx5.setRow (by omega) _⟩
        · have hne := ne_noS hid0
          have HID0 := Lib.hid hid0
          clear hid0
          cases Bp with
          | true =>
            have he : errF F = 19 := by
              rw [HHD.out]
              rw [if_pos (Or.inr HBp.out)]
            have HN := Lib.hid (HBAD.out _ he (by decide))
            have heE := HEF.out.symm.trans he
            subst heE
            clear he
            go_wp2_with (first
              | (at_builtin; refine wpList_append_rsl _ rfl (.tmp 30) (.tmp 34) _ rfl W1.heap.size 76 i0 _ 1 8 Tryz.underlying82 hi0 hz0 hz1' hz2 rfl (by decide) _ path.length X rfl (HOW.out.alloc _) _ 3 [.pointer (some ⟨w.heap.size, 1, none⟩), .pointer (some ⟨w.heap.size, 2, none⟩), .pointer (some ⟨w.heap.size, 3, none⟩)] rfl (rsl_new rfl (by decide)) (by intro y hy; simp at hy; rcases hy with rfl | rfl | rfl <;> rfl) HML.out HBY.out ?_ ?_; (simp; omega); intro v3 w3 hown3 hg3 hat3; (have hx3 : Ext W1 w3 := Ext.app (HXX.out.alloc _) hg3 (HOW.out.alloc _) (Nat.le_refl _)))
              | (go_at_call 43; (have hz := HCO.out _ _ hx3 hown3); (with_reducible refine Calls.mono hz ?_); clear hz; rintro e w5 ⟨rfl, hst5, ⟨q0, q1, q2, q3, q4, q5⟩, f5, hxa, hka⟩; (have hx5 : Ext w w5 := hxa w (HXW.out.trans hx3) (by omega) (Nat.le_refl _)); (have hz5 := hka (w.heap.size + 1) _ (by omega) (by omega) (hx3.heap HZ1.out)); (have HC := Lib.hid (contains_any (w := w5) (g := g) (n := path.length) (c := cc1) (A := A1) (l := path.map collapse) ⟨#[]⟩ (by simp) (by simpa using HGA.out) hst5 (by simp; omega))); rw [HANY.out] at HC; clear hxa hka)
              | (go_at_call 51; (have hz := HC.out); (with_reducible refine Calls.mono hz ?_); clear hz; rintro e w6 ⟨rfl, rfl⟩)
              | (refine wpList_store_row rfl 35 (.tmp 2) (.tmp 51) rfl (w.heap.size + 1) _ rfl rfl _ _ hz5 size_fd rfl oneF ?_))
            ((try simp only [Exit.inBlock, Exit.then]); refine bodyPost_ret (results_cell_row2 rfl _ _ _ _ _ _ _ rfl (setRow_heap _ _ _ _ _ _ hz5) Tryz.underlying35 rfl size_fd) rfl ?_)
            exact ⟨zeroC, rfl, HN.out.symm.trans HNF0.out, zeroC_rd _, fun _ _ => zeroC_away _, hx5.setRow (by omega) _⟩
          | false =>
            have hcd : ¬ (ci = noS ∨ (path.any fun p => decide (collapse p = noS)) = true) := by
              rintro (h | h)
              · exact HID0.out h
              · rw [HBp.out] at h; cases h
            have HCD := Lib.hid hcd
            clear hcd
            by_cases hdp : 64 < path.length
            · have hdpi : (64 : Int) < (path.length : Int) := by omega
              have he : errF F = 9 := by
                rw [HHD.out]
                rw [if_neg HCD.out, if_pos hdp]
              have HN := Lib.hid (HBAD.out _ he (by decide))
              have heE := HEF.out.symm.trans he
              subst heE
              clear he
              go_wp2_with (first
                | (at_builtin; refine wpList_append_rsl _ rfl (.tmp 30) (.tmp 34) _ rfl W1.heap.size 76 i0 _ 1 8 Tryz.underlying82 hi0 hz0 hz1' hz2 rfl (by decide) _ path.length X rfl (HOW.out.alloc _) _ 3 [.pointer (some ⟨w.heap.size, 1, none⟩), .pointer (some ⟨w.heap.size, 2, none⟩), .pointer (some ⟨w.heap.size, 3, none⟩)] rfl (rsl_new rfl (by decide)) (by intro y hy; simp at hy; rcases hy with rfl | rfl | rfl <;> rfl) HML.out HBY.out ?_ ?_; (simp; omega); intro v3 w3 hown3 hg3 hat3; (have hx3 : Ext W1 w3 := Ext.app (HXX.out.alloc _) hg3 (HOW.out.alloc _) (Nat.le_refl _)))
                | (go_at_call 43; (have hz := HCO.out _ _ hx3 hown3); (with_reducible refine Calls.mono hz ?_); clear hz; rintro e w5 ⟨rfl, hst5, ⟨q0, q1, q2, q3, q4, q5⟩, f5, hxa, hka⟩; (have hx5 : Ext w w5 := hxa w (HXW.out.trans hx3) (by omega) (Nat.le_refl _)); (have hz5 := hka (w.heap.size + 1) _ (by omega) (by omega) (hx3.heap HZ1.out)); (have HC := Lib.hid (contains_any (w := w5) (g := g) (n := path.length) (c := cc1) (A := A1) (l := path.map collapse) ⟨#[]⟩ (by simp) (by simpa using HGA.out) hst5 (by simp; omega))); rw [HANY.out] at HC; clear hxa hka)
                | (go_at_call 51; (have hz := HC.out); (with_reducible refine Calls.mono hz ?_); clear hz; rintro e w6 ⟨rfl, rfl⟩)
                | (refine wpList_store_row rfl 35 (.tmp 2) (.tmp 57) rfl (w.heap.size + 1) _ rfl rfl _ _ hz5 size_fd rfl oneF ?_))
              ((try simp only [Exit.inBlock, Exit.then]); refine bodyPost_ret (results_cell_row2 rfl _ _ _ _ _ _ _ rfl (setRow_heap _ _ _ _ _ _ hz5) Tryz.underlying35 rfl size_fd) rfl ?_)
              exact ⟨zeroC, rfl, HN.out.symm.trans HNF0.out, zeroC_rd _, fun _ _ => zeroC_away _, hx5.setRow (by omega) _⟩
            · have hdpi : ¬ (64 : Int) < (path.length : Int) := by omega
              cases hti : inT upd with
              | false =>
                rw [hti] at HT
                have he : errF F = 3 := by
                  rw [HHD.out]
                  rw [if_neg HCD.out, if_neg hdp, hti]; rfl
                have HN := Lib.hid (HBAD.out _ he (by decide))
                have heE := HEF.out.symm.trans he
                subst heE
                clear he
                go_wp2_with (first
                  | (at_builtin; refine wpList_append_rsl _ rfl (.tmp 30) (.tmp 34) _ rfl W1.heap.size 76 i0 _ 1 8 Tryz.underlying82 hi0 hz0 hz1' hz2 rfl (by decide) _ path.length X rfl (HOW.out.alloc _) _ 3 [.pointer (some ⟨w.heap.size, 1, none⟩), .pointer (some ⟨w.heap.size, 2, none⟩), .pointer (some ⟨w.heap.size, 3, none⟩)] rfl (rsl_new rfl (by decide)) (by intro y hy; simp at hy; rcases hy with rfl | rfl | rfl <;> rfl) HML.out HBY.out ?_ ?_; (simp; omega); intro v3 w3 hown3 hg3 hat3; (have hx3 : Ext W1 w3 := Ext.app (HXX.out.alloc _) hg3 (HOW.out.alloc _) (Nat.le_refl _)))
                  | (go_at_call 43; (have hz := HCO.out _ _ hx3 hown3); (with_reducible refine Calls.mono hz ?_); clear hz; rintro e w5 ⟨rfl, hst5, ⟨q0, q1, q2, q3, q4, q5⟩, f5, hxa, hka⟩; (have hx5 : Ext w w5 := hxa w (HXW.out.trans hx3) (by omega) (Nat.le_refl _)); (have hz5 := hka (w.heap.size + 1) _ (by omega) (by omega) (hx3.heap HZ1.out)); (have HC := Lib.hid (contains_any (w := w5) (g := g) (n := path.length) (c := cc1) (A := A1) (l := path.map collapse) ⟨#[]⟩ (by simp) (by simpa using HGA.out) hst5 (by simp; omega))); rw [HANY.out] at HC; clear hxa hka)
                  | (go_at_call 51; (have hz := HC.out); (with_reducible refine Calls.mono hz ?_); clear hz; rintro e w6 ⟨rfl, rfl⟩)
                  | (go_at_call 44; refine (HT.out _).mono ?_; rintro e w6 ⟨rfl, rfl⟩)
                  | (refine wpList_store_row rfl 35 (.tmp 2) (.tmp 63) rfl (w.heap.size + 1) _ rfl rfl _ _ hz5 size_fd rfl oneF ?_))
                ((try simp only [Exit.inBlock, Exit.then]); refine bodyPost_ret (results_cell_row2 rfl _ _ _ _ _ _ _ rfl (setRow_heap _ _ _ _ _ _ hz5) Tryz.underlying35 rfl size_fd) rfl ?_)
                exact ⟨zeroC, rfl, HN.out.symm.trans HNF0.out, zeroC_rd _, fun _ _ => zeroC_away _, hx5.setRow (by omega) _⟩
              | true =>
                rw [hti] at HT
                have he : errF F = errEs ents := by rw [HHD.out, if_neg HCD.out, if_neg hdp, hti, if_pos rfl]
                have heE := HEF.out.symm.trans he
                subst heE
                have HER := Lib.hid he
                clear he hti hdp
                go_wp2_with (first
                  | (at_builtin; refine wpList_append_rsl _ rfl (.tmp 30) (.tmp 34) _ rfl W1.heap.size 76 i0 _ 1 8 Tryz.underlying82 hi0 hz0 hz1' hz2 rfl (by decide) _ path.length X rfl (HOW.out.alloc _) _ 3 [.pointer (some ⟨w.heap.size, 1, none⟩), .pointer (some ⟨w.heap.size, 2, none⟩), .pointer (some ⟨w.heap.size, 3, none⟩)] rfl (rsl_new rfl (by decide)) (by intro y hy; simp at hy; rcases hy with rfl | rfl | rfl <;> rfl) HML.out HBY.out ?_ ?_; (simp; omega); intro v3 w3 hown3 hg3 hat3; (have hx3 : Ext W1 w3 := Ext.app (HXX.out.alloc _) hg3 (HOW.out.alloc _) (Nat.le_refl _)))
                  | (go_at_call 43; (have hz := HCO.out _ _ hx3 hown3); (with_reducible refine Calls.mono hz ?_); clear hz; rintro e w5 ⟨rfl, hst5, ⟨q0, q1, q2, q3, q4, q5⟩, f5, hxa, hka⟩; (have hx5 : Ext w w5 := hxa w (HXW.out.trans hx3) (by omega) (Nat.le_refl _)); (have hz5 := hka (w.heap.size + 1) _ (by omega) (by omega) (hx3.heap HZ1.out)); (have HC := Lib.hid (contains_any (w := w5) (g := g) (n := path.length) (c := cc1) (A := A1) (l := path.map collapse) ⟨#[]⟩ (by simp) (by simpa using HGA.out) hst5 (by simp; omega))); rw [HANY.out] at HC; clear hxa hka)
                  | (go_at_call 51; (have hz := HC.out); (with_reducible refine Calls.mono hz ?_); clear hz; rintro e w6 ⟨rfl, rfl⟩)
                  | (go_at_call 44; refine (HT.out _).mono ?_; rintro e w6 ⟨rfl, rfl⟩))
                have HX5 := Lib.hid hx5
                have HST5 := Lib.hid hst5
                have HE5 := Lib.hid (hE.ext hx5)
                have HC := ()
                have HB5 := Lib.hid (And.intro q0 (And.intro q1 (And.intro q2 (And.intro q3 (And.intro q4 q5)))))
                have HF5 := Lib.hid f5
                have HZ5 := Lib.hid hz5
                have hs5 : w.heap.size + 2 ≤ w6.heap.size := by
                  have := (Array.getElem?_eq_some_iff.1 hz5).1
                  omega
                clear hx3 hown3 hg3 hat3 hst5 q0 q1 q2 q3 q4 q5 f5 hz5 hx5
                go_loopw [7, 67] (fun o i wr => ∃ k : Nat, k ≤ ents.length ∧ i = .int .i64 k ∧ OEnts wr w6.heap.size o ((ents.take k).map collE) ∧ Hid (∀ e ∈ ents.take k, errE e = 0) ∧ Ext w6 wr) (fun _ i _ => ents.length - (intOf i).toNat)
                case atStart => exact ⟨0, Nat.zero_le _, rfl, OEnts.nil _ _, Lib.hid (by simp), Ext.refl _⟩
                case round =>
                  obtain ⟨k, hk, rfl, hown, herr, hx⟩ := hrel
                  have hxw : Ext w wr := HX5.out.trans hx
                  by_cases hlt : k < ents.length
                  · obtain ⟨ad, c', hv, hat⟩ := (HRE.out.ext hxw).at hlt
                    injection hv with hv1 hv2 hv3
                    subst hv1
                    clear hv2 hv3
                    have htk := List.take_succ_eq_append_getElem hlt
                    have hbad := errEs_at ents k hlt herr.out
                    have hek := HES.out _ (List.getElem_mem hlt)
                    obtain ⟨e, hee⟩ : ∃ e, ents[k] = e := ⟨_, rfl⟩
                    rw [hee] at hat htk hbad hek
                    have hks : eokS e := by obtain ⟨_, h⟩ := hek; exact ⟨by omega, by omega, by omega, by omega⟩
                    have HNE := Lib.hid (fun (w' : World) (h : Ext w w') => normEntry_any e w' (hE.ext h) hks)
                    have HTK := Lib.hid htk
                    have HBD := Lib.hid hbad
                    have HXW := Lib.hid hxw
                    have HXX := Lib.hid hx
                    have HOW := Lib.hid hown
                    have hlen : ((ents.take k).map collE).length = k := by rw [List.length_map, List.length_take]; omega
                    have HBY : Hid ((((ents.take k).map collE).length + 1) * 72 ≤ 140737488355328) := Lib.hid (by rw [hlen]; omega)
                    have HML : Hid (((ents.take k).map collE).length + 1 ≤ maxLen) := Lib.hid (by rw [hlen]; unfold maxLen; omega)
                    have hi0' : (0 : Int) ≤ (k : Int) := by omega
                    have hi1' : (k : Int) < (ents.length : Int) := by omega
                    have hws := hx.size
                    clear htk hbad hek hks hee hown hlen
                    obtain ⟨a0, a1, a2, a3, a4⟩ := hat
                    obtain ⟨E, hEr⟩ : ∃ E, errE e = E := ⟨_, rfl⟩
                    rw [hEr] at HNE HBD
                    have HER2 := Lib.hid hEr
                    obtain ⟨N, hN⟩ : ∃ N, normE e = N := ⟨_, rfl⟩
                    rw [hN] at HNE
                    have HNN := Lib.hid hN
                    clear hN hEr
                    obtain ⟨O, hO⟩ : ∃ O, (ents.take k).map collE = O := ⟨_, rfl⟩
                    rw [hO] at HOW HBY HML
                    have HO := Lib.hid hO
                    clear hO
                    obtain ⟨eid, etitle, elink, econtent, eupd⟩ := e
                    simp only at a0 a1 a2 a3 a4
                    unfold eCells at HNE
                    dsimp only at HNE
                    by_cases hE0 : E = 0
                    · subst hE0
                      go_wp2_with (first
                        | (go_at_call 17; (have hz := HNE.out _ (HXW.out.trans ((Ext.refl wr).alloc (.cells #[.string eid, .string etitle, .string elink, .string econtent, .int .i64 eupd] 23)))); (with_reducible refine Calls.mono hz ?_); clear hz; rintro e w8 ⟨rfl, hx8⟩; (have hx8' := ((Ext.refl wr).alloc (.cells #[.string eid, .string etitle, .string elink, .string econtent, .int .i64 eupd] 23)).trans hx8); (have HO8 := Lib.hid (OEnts.ext HOW.out hx8')); (have HX8 := Lib.hid (HXX.out.trans hx8')); (have hs8 := hx8'.size))
                        | (at_builtin; refine wpList_append_rsl _ rfl (.tmp 80) (.tmp 82) _ rfl w6.heap.size 23 i1 _ 5 72 Tryz.underlying33 hj0 hy0 hy1 hy2 rfl (by decide) _ _ (flatE O) rfl ((own_ext HO8.out ((Ext.refl _).alloc _)).alloc _) _ 1 (eCells N) rfl (rsl_block (e := 23) (fr := (0, 0)) (cs := eCells N) (heap2_new _ _ _) rfl (by decide)) (eCells_one _) HML.out HBY.out ?_ ?_; (simp; omega); intro v9 w9 hown9 hg9 hat9; (have hx9 : Ext w6 w9 := Ext.app ((HX8.out.alloc _).alloc _) hg9 ((own_ext HO8.out ((Ext.refl _).alloc _)).alloc _) (Nat.le_refl _))))
                      go_roundw
                      case rel =>
                        have hNc : N = collE ⟨eid, etitle, elink, econtent, eupd⟩ := by rw [← HNN.out]; unfold normE; rw [if_pos HER2.out]
                        have hT := HTK.out
                        have hO := HO.out
                        refine ⟨k + 1, hlt, by go_num, ?_, Lib.hid fun x hx => ?_, hx9⟩
                        · rw [hT, List.map_append, hO, List.map_cons, List.map_nil, ← hNc]
                          exact OEnts.snoc hown9
                        · rw [hT] at hx
                          rcases List.mem_append.1 hx with hx | hx
                          · exact herr.out x hx
                          · rw [List.mem_singleton.1 hx]; exact HER2.out
                      case measure => simp [intOf]; omega
                    · have hb : ((E : Int) != 0) = true := by simp; omega
                      have he : errF F = E := HER.out.trans (HBD.out hE0)
                      have HN := Lib.hid (HBAD.out _ he hE0)
                      have HEE := Lib.hid (HBD.out hE0)
                      clear he hE0
                      go_wp2_with (first
                        | (go_at_call 17; (have hz := HNE.out _ (HXW.out.trans ((Ext.refl wr).alloc (.cells #[.string eid, .string etitle, .string elink, .string econtent, .int .i64 eupd] 23)))); (with_reducible refine Calls.mono hz ?_); clear hz; rintro e w8 ⟨rfl, hx8⟩; (have hx8' := ((Ext.refl wr).alloc (.cells #[.string eid, .string etitle, .string elink, .string econtent, .int .i64 eupd] 23)).trans hx8); (have hz8 := (((HXX.out.trans hx8').alloc (.cells (eCells N).toArray 23))).heap HZ5.out))
                        | (refine wpList_store_row rfl 35 (.tmp 2) (.tmp 78) rfl (w.heap.size + 1) _ rfl rfl _ _ hz8 size_fd rfl oneF ?_))
                      ((try simp only [Exit.inBlock, Exit.then]); refine bodyPost_ret (results_cell_row2 rfl _ _ _ _ _ _ _ rfl (setRow_heap _ _ _ _ _ _ hz8) Tryz.underlying35 rfl size_fd) rfl ?_)
                      exact ⟨zeroC, by rw [HEE.out]; rfl, HN.out.symm.trans HNF0.out, zeroC_rd _, fun _ _ => zeroC_away _, ((HXW.out.trans hx8').alloc _).setRow (by omega) _⟩
                  · have hke : k = ents.length := by omega
                    subst hke
                    rw [List.take_of_length_le (Nat.le_refl _)] at hown herr
                    have hes0 : errEs ents = 0 := errEs_zero.2 herr.out
                    have hnf : normF F = collF F := by unfold normF; rw [if_pos (HER.out.trans hes0)]
                    have hcf : collF F = ⟨path.map collapse, ci, ct, cl, upd, ordE.canon (ents.map collE)⟩ := by
                      rw [← HF.out, ← HCI.out, ← HCT.out, ← HCLK.out]
                      rfl
                    have HNF := Lib.hid (hnf.trans hcf)
                    have HCB := Lib.hid (combine_any _ (ents.map collE) wr (HE5.out.ext hx) hown.reads (fun x hx => by
                      obtain ⟨e, he, rfl⟩ := List.mem_map.1 hx
                      exact eok_coll (HES.out e he)) (by rw [List.length_map]; exact hel))
                    have q0 := hx.cell HB5.out.1
                    have HES0 := Lib.hid hes0
                    have HXX := Lib.hid hx
                    have hws := hx.size
                    have hb5 : w.heap.size < w6.heap.size := by omega
                    clear hnf hcf hes0 hown herr
                    go_wp2_with (first
                      | (go_at_call 52; (have hz := HCB.out); (with_reducible refine Calls.mono hz ?_); clear hz; rintro e w9 ⟨es', rfl, hown9, hx9⟩; (obtain ⟨zA, zc, hze, _, _⟩ := hown9.reads.form); subst hze; (have hx59 := HXX.out.trans hx9); (have r0 := hx59.cell HB5.out.1); (have r1 := hx59.cell HB5.out.2.1); (have r2 := hx59.cell HB5.out.2.2.1); (have r3 := hx59.cell HB5.out.2.2.2.1); (have r4 := hx59.cell HB5.out.2.2.2.2.1); (have r5 := hx59.cell HB5.out.2.2.2.2.2); (have s5 := (Below.frozen hx59 hb5).trans HF5.out); (have hz9 := hx59.heap HZ5.out); (have HO9 := Lib.hid hown9))
                      | (refine wpList_store_row rfl 35 (.tmp 2) (.tmp 88) rfl (w.heap.size + 1) _ rfl rfl _ _ ((heap_setCell_other _ _ _ _ (by simp)).trans hz9) size_fd rfl oneF ?_))
                    ((try simp only [Exit.inBlock, Exit.then]); refine bodyPost_ret (results_cell_row2 rfl _ _ _ _ _ _ _ rfl (setRow_heap _ _ _ _ _ _ ((heap_setCell_other _ _ _ _ (by simp)).trans hz9)) Tryz.underlying35 rfl size_fd) rfl ?_)
                    have hst9 := HST5.out.ext hx59
                    have hre9 := HO9.out.reads
                    have hlb := HO9.out.lt
                    have haw : ∀ q, q < w.heap.size + 2 → awayC ⟨.slice A1 path.length cc1, .slice zA (ordE.canon (ents.map collE)).length zc, ⟨path.map collapse, ci, ct, cl, upd, ordE.canon (ents.map collE)⟩⟩ (some q) := by
                      intro q hq
                      refine ⟨?_, Or.inr fun e => ?_⟩
                      · rcases Nat.eq_zero_or_pos path.length with h | h
                        · exact Or.inl (by rw [List.eq_nil_of_length_eq_zero h]; rfl)
                        · refine Or.inr fun e => ?_
                          have hAA := HGA.out h
                          subst hAA
                          injection e with e
                          simp only at e
                          omega
                      · have := (hlb q e).1
                        omega
                    have hrd : RdC w9 ⟨.slice A1 path.length cc1, .slice zA (ordE.canon (ents.map collE)).length zc, ⟨path.map collapse, ci, ct, cl, upd, ordE.canon (ents.map collE)⟩⟩ := ⟨hst9, hre9⟩
                    refine ⟨⟨.slice A1 path.length cc1, .slice zA (ordE.canon (ents.map collE)).length zc, ⟨path.map collapse, ci, ct, cl, upd, ordE.canon (ents.map collE)⟩⟩, by rw [HES0.out]; rfl, HNF.out.symm.trans HNF0.out, (hrd.grown (setCell_grown _ _ _) (haw _ (by simp))).grown (setRow_grown _ _ _) (haw _ (by simp)), fun q hq => haw q (by omega), ?_⟩
                    exact (Ext.setCell (HX5.out.trans hx59) (Nat.le_refl _) _).setRow (by omega) _
      · have hb : ((firstErr (path ++ [id, title, link]) : Int) != 0) = true := by simp; omega
        have he : errF F = firstErr (path ++ [id, title, link]) := by
          rw [← HF.out]
          unfold errF headF strsF
          rw [if_pos h0, if_neg h0]
        have hn := HBAD.out _ he h0
        have heE := HEF.out.symm.trans he
        obtain ⟨E, hEr⟩ : ∃ E, firstErr (path ++ [id, title, link]) = E := ⟨_, rfl⟩
        have HCB := Lib.hid (fun (w4 : World) (v4 : Value) hEn hPn => feedColl_bad (W := w4) (v := v4) (g := g) (b := w.heap.size) hEn hPn h0)
        rw [hEr] at HCB hb h0 heE
        have HN := Lib.hid hn
        clear hEr he hn h0
        subst heE
        go_wp2_with (first
          | (at_builtin; refine wpList_append_rsl _ rfl (.tmp 30) (.tmp 34) _ rfl W1.heap.size 76 i0 _ 1 8 Tryz.underlying82 hi0 hz0 hz1' hz2 rfl (by decide) _ path.length X rfl (HOW.out.alloc _) _ 3 [.pointer (some ⟨w.heap.size, 1, none⟩), .pointer (some ⟨w.heap.size, 2, none⟩), .pointer (some ⟨w.heap.size, 3, none⟩)] rfl (rsl_new rfl (by decide)) (by intro y hy; simp at hy; rcases hy with rfl | rfl | rfl <;> rfl) HML.out HBY.out ?_ ?_; (simp; omega); intro v3 w3 hown3 hg3 hat3; (have hx3 : Ext W1 w3 := Ext.app (HXX.out.alloc _) hg3 (HOW.out.alloc _) (Nat.le_refl _)))
          | (go_at_call 43; (have hz := HCB.out _ _ (HEW.out.ext hx3) (HP.out _ _ hx3 hown3)); (with_reducible refine Calls.mono hz ?_); clear hz; rintro e w5 ⟨rfl, hx5⟩; (have hz5 := (hx3.trans hx5).heap HZ1.out))
          | (refine wpList_store_row rfl 35 (.tmp 2) (.tmp 40) rfl (w.heap.size + 1) _ rfl rfl _ _ hz5 size_fd rfl oneF ?_))
        ((try simp only [Exit.inBlock, Exit.then]); refine bodyPost_ret (results_cell_row2 rfl _ _ _ _ _ _ _ rfl (setRow_heap _ _ _ _ _ _ hz5) Tryz.underlying35 rfl size_fd) rfl ?_)
        exact ⟨zeroC, rfl, HN.out.symm.trans HNF0.out, zeroC_rd _, fun _ _ => zeroC_away _, ((HXW.out.trans hx3).trans hx5).setRow (by omega) _⟩
end Go.Proofs.YtgecijhgonfldaaGreatDoor
