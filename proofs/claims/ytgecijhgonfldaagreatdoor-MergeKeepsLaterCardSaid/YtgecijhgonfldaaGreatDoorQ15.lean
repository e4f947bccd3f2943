/- Parts of the proof: contracts and plain laws that the statement needs. -/
import Derived.Test.YtgecijhgonfldaaGreatDoorQ14
namespace Go.Proofs.YtgecijhgonfldaaGreatDoor
open Go Go.RowKit Go.Sort
set_option linter.unusedVariables false
theorem rowSlice : Tryz.prog.underlying 33 = some (.slice (Tryz.prog.elem 33)) := by kernel_rfl
theorem rowSize (w : World) : (Go.sizeOf (Tryz.prog.elem 33)).run Tryz.prog w = .ok 5 w := by kernel_rfl
theorem tailE {w : World} {A : Option Addr} {c : Nat} {x : Ent} {t : List Ent} (h : REnts w (.slice A (t.length + 1) c) (x :: t)) :
    ∃ v', (∀ wx : World, (Instr.slice 33 (.slice A (t.length + 1) c) (some (.int .i64 1)) none none).run Tryz.prog wx = .ok v' wx) ∧ REnts w v' t := by
  refine ⟨sliced A 1 (t.length + 1) c 5, fun wx => ?_, ?_⟩
  · rw [run_slice_l (P := Tryz.prog) (w := wx) 33 A (t.length + 1) c rowSlice .i64 1 (by omega) (by omega)]
    rw [rowSize]
    rfl
  · obtain ⟨h1, A', c', e, h2, h3, h4, h5⟩ := h
    injection e with e1 e2 e3
    subst e1 e3
    clear e2
    have hl : (flatE t).length = t.length * 5 := by
      have : (flatE (x :: t)).length = (t.length + 1) * 5 := by simpa using h1
      have e : flatE (x :: t) = eCells x ++ flatE t := by unfold flatE; simp
      rw [e, List.length_append] at this
      have e5 : (eCells x).length = 5 := rfl
      omega
    refine ⟨hl, ?_⟩
    have hcells : ∀ j u, (flatE t)[j]? = some u → ∃ ad, A = some ad ∧ w.cell? (ad.add (5 + j)) = some u := by
      intro j u hu
      refine h5 (5 + j) u ?_
      have e : flatE (x :: t) = eCells x ++ flatE t := by unfold flatE; simp
      rw [e, List.getElem?_append_right (by show 5 ≤ 5 + j; omega)]
      simpa [eCells] using hu
    unfold sliced
    have hn : t.length + 1 ≤ c := by simpa using h2
    by_cases hc : c = 1
    · have ht : t = [] := List.eq_nil_of_length_eq_zero (by omega)
      subst ht
      exact ⟨_, _, rfl, by simp, Nat.le_trans (Nat.sub_le _ _) h3, fun _ => by omega, fun j u hu => by simp [flatE] at hu⟩
    · cases A with
      | none => have := h4 rfl; omega
      | some ad =>
        refine ⟨some (ad.add 5), c - 1, by rw [if_neg hc]; rfl, by omega, Nat.le_trans (Nat.sub_le _ _) h3, (fun e => by cases e), fun j u hu => ⟨_, rfl, ?_⟩⟩
        obtain ⟨ad', e, hc'⟩ := hcells j u hu
        injection e with e
        subst e
        rw [addr_add2]
        exact hc'
def jE (l : List Ent) (s : ByteArray) : Ent := (ordE.got l s).getD zeroE
theorem joined_map (l : List Ent) : ordE.joined l = (ordE.firsts l).map (jE l) := by
  have key : ∀ fs : List ByteArray, (∀ s ∈ fs, s ∈ ordE.firsts l) → fs.filterMap (ordE.got l) = fs.map (jE l) := by
    intro fs
    induction fs with
    | nil => intro _; rfl
    | cons s t ih =>
      intro h
      obtain ⟨x, hx⟩ := (Ord.got_isSome_iff (O := ordE) l s).2 ((ordE.mem_firsts l s).1 (h s (by simp)))
      rw [List.filterMap_cons_some hx, List.map_cons, ih fun s hs => h s (by simp [hs])]
      unfold jE
      rw [hx]; rfl
  exact key _ fun s hs => hs
theorem jE_fold {l : List Ent} {s : ByteArray} {x : Ent} {t : List Ent} (h : grp l s = x :: t) : jE l s = t.foldl laterE x := by
  unfold jE Ord.got
  have h' : (l.filter fun x => decide (ordE.id x = s)) = x :: t := h
  rw [h']
  rfl
theorem grp_cons {l : List Ent} {s : ByteArray} (h : s ∈ ordE.firsts l) : ∃ x t, grp l s = x :: t := by
  obtain ⟨x, hx, e⟩ := (ordE.mem_firsts l s).1 h
  have : x ∈ grp l s := by unfold grp; exact List.mem_filter.2 ⟨hx, by simpa using e⟩
  cases hg : grp l s with
  | nil => rw [hg] at this; simp at this
  | cons y t => exact ⟨y, t, rfl⟩
theorem fold_eok : ∀ (t : List Ent) (x : Ent), eok x → (∀ y ∈ t, eok y) → eok (t.foldl laterE x)
  | [], _, h, _ => h
  | y :: t, x, h, ht => fold_eok t _ (laterE_eok h (ht y (by simp))) fun z hz => ht z (by simp [hz])
set_option maxRecDepth 100000 in
set_option maxHeartbeats 2000000 in
theorem combine_any (v : Value) (l : List Ent) (w : World) (hE : Env w) (h : REnts w v l) (hl : ∀ x ∈ l, eok x) (hn : l.length ≤ 1000000) :
    Calls Tryz.prog 52 #[v] w fun x w' => ∃ v', x = .returned v' ∧ OEnts w' w.heap.size v' (ordE.canon l) ∧ Ext w w' := by
  obtain ⟨i0, hi0, hz0, hz1, hz2⟩ := info_parts info_ent
  have HGRP := Lib.hid (groupsE_any v l w h (fun x hx => by have := (hl x hx).2; omega) hn)
  have HFL := Lib.hid (firsts_len l)
  have HL := Lib.hid hl
  clear hl
  go_enter Tryz.func52, Tryz.ntmps52
  go_wp2_with (go_at_call 78; refine (HGRP.out).mono ?_; rintro e w1 ⟨v1, gv, rfl, hG, hx1⟩; (obtain ⟨A1, c1, hv1⟩ := hG.form); subst hv1)
  have hgl := hG.len
  have hfl := HFL.out
  have hgn : gv.length ≤ 1000000 := by omega
  have HG := Lib.hid hG
  have HGL := Lib.hid hgl
  clear hG hgl hfl
  go_loopw [3, 12] (fun o i wr => ∃ k : Nat, k ≤ gv.length ∧ i = .int .i64 k ∧ OEnts wr w1.heap.size o (((ordE.firsts l).take k).map (jE l)) ∧ Ext w1 wr) (fun _ i _ => gv.length - (intOf i).toNat)
  case atStart => exact ⟨0, Nat.zero_le _, rfl, OEnts.nil _ _, Ext.refl _⟩
  case round =>
    obtain ⟨k, hk, rfl, hown, hx⟩ := hrel
    by_cases hlt : k < gv.length
    · have hGw := HG.out.ext hx
      obtain ⟨g, cap, hv, _, _⟩ := hGw.row.form (by omega)
      injection hv with hv1 hv2 hv3
      subst hv1
      have hgc : wr.cell? ⟨g, k, none⟩ = some gv[k] := by rw [hv3] at hGw; rw [hGw.row.cellAt k (by omega)]; exact List.getElem?_eq_getElem hlt
      have hkf : k < (ordE.firsts l).length := by rw [← HGL.out]; exact hlt
      have hmem : (ordE.firsts l)[k] ∈ ordE.firsts l := List.getElem_mem hkf
      have hoe := hGw.each k (ordE.firsts l)[k] gv[k] (List.getElem?_eq_getElem hkf) (List.getElem?_eq_getElem hlt)
      obtain ⟨x, t, hgrp⟩ := grp_cons hmem
      have hjf := jE_fold hgrp
      rw [hgrp] at hoe
      have htk : ((ordE.firsts l).take (k + 1)).map (jE l) = ((ordE.firsts l).take k).map (jE l) ++ [jE l (ordE.firsts l)[k]] := by rw [List.take_succ_eq_append_getElem hkf, List.map_append]; rfl
      rw [hjf] at htk
      have HTK := Lib.hid htk
      have hxok : ∀ y ∈ x :: t, eok y := fun y hy => HL.out y (by rw [← hgrp] at hy; exact (List.mem_filter.1 hy).1)
      have htl : t.length + 1 ≤ 1000000 := by
        have := grp_len l (ordE.firsts l)[k]
        rw [hgrp] at this
        simp at this
        omega
      obtain ⟨u, hu⟩ : ∃ u, gv[k] = u := ⟨_, rfl⟩
      rw [hu] at hoe hgc
      obtain ⟨A2, c2, hu2, _, _⟩ := hoe.reads.form
      subst hu2
      have hoe2 : REnts wr (.slice A2 (t.length + 1) c2) (x :: t) := hoe.reads
      obtain ⟨v2, hsl, hR2⟩ := tailE hoe2
      obtain ⟨ad, c3, hv4, hat⟩ := hoe.reads.at (k := 0) (by simp)
      injection hv4 with hv5 hv6 hv7
      subst hv5
      rw [Nat.zero_mul] at hat
      have hadd0 : ad.add 0 = ad := add_zero ad
      rw [hadd0] at hat
      obtain ⟨a0, a1, a2, a3, a4⟩ := hat
      simp only [List.getElem_cons_zero] at a0 a1 a2 a3 a4
      have HR2 := Lib.hid hR2
      have HXK := Lib.hid hxok
      obtain ⟨A3, c4, hv8, _, _⟩ := hR2.form
      subst hv8
      have HHU := Lib.hid hu
      clear hGw hv2 hv3 hv6 hv7 hmem hgrp hjf htk hoe hoe2 hxok hR2 hu hadd0 hkf
      obtain ⟨wo, hwo⟩ : ∃ wo : World, wo = wr := ⟨_, rfl⟩
      subst hwo
      have hR0 := HR2.out
      go_wp2
      go_loopw [22] (fun i w2 => ∃ m : Nat, m ≤ t.length ∧ i = .int .i64 m ∧ Ext (wo.alloc (.cells (eCells ((t.take m).foldl laterE x)).toArray 23)) w2) (fun i _ => t.length - (intOf i).toNat)
      case atStart => exact ⟨0, Nat.zero_le _, rfl, by dsimp only [List.take_zero, List.foldl_nil]; exact Ext.refl _⟩
      case round =>
        obtain ⟨m, hm, rfl, hxi⟩ := hrel
        have hxwo : Ext wo wr := ((Ext.refl wo).alloc _).trans hxi
        by_cases hmt : m < t.length
        · obtain ⟨ad2, c5, hv9, hat⟩ := (hR0.ext hxwo).at hmt
          injection hv9 with hv9 hv10 hv11
          subst hv9
          clear hv10 hv11
          have hfs : (t.take (m + 1)).foldl laterE x = laterE ((t.take m).foldl laterE x) t[m] := by rw [List.take_succ_eq_append_getElem hmt, List.foldl_append]; rfl
          have hek := fold_eok (t.take m) x (HXK.out x (by simp)) fun y hy => HXK.out y (List.mem_cons_of_mem _ (List.mem_of_mem_take hy))
          have hyk := HXK.out t[m] (by simp)
          obtain ⟨E, hEE⟩ : ∃ E, (t.take m).foldl laterE x = E := ⟨_, rfl⟩
          obtain ⟨y, hy⟩ : ∃ y, t[m] = y := ⟨_, rfl⟩
          rw [hEE, hy] at hfs
          rw [hEE] at hek hxi
          rw [hy] at hyk hat
          have HFS := Lib.hid hfs
          have HLT := Lib.hid (fun (w' : World) (hEn : Env w') => laterEntry_any E y w' hEn hek hyk)
          obtain ⟨r, hr⟩ : ∃ r, laterE E y = r := ⟨_, rfl⟩
          have HR := Lib.hid hr
          rw [hr] at HLT
          have hEw : Env wr := hE.ext (hx1.trans (hx.trans hxwo))
          have hbx := fun (d : World) (hd : Ext wr d) => (hxi.trans hd).heap (heap_alloc_new wo _)
          have HBX := Lib.hid hbx
          have HXI := Lib.hid hxi
          clear hfs hEE hy hr hek hyk hbx
          obtain ⟨eid, etitle, elink, econtent, eupd⟩ := E
          obtain ⟨yid, ytitle, ylink, ycontent, yupd⟩ := y
          obtain ⟨a0', a1', a2', a3', a4'⟩ := hat
          simp only at a0' a1' a2' a3' a4'
          have hi0' : (0 : Int) ≤ (m : Int) := by omega
          have hi1 : (m : Int) < (t.length : Int) := by omega
          have hxy : Ext (wo.alloc (.cells (eCells ⟨eid, etitle, elink, econtent, eupd⟩).toArray 23)) (wr.alloc (.cells #[.string yid, .string ytitle, .string ylink, .string ycontent, .int .i64 yupd] 23)) := hxi.alloc _
          have hyy : Ext (wr.alloc (.cells (eCells ⟨yid, ytitle, ylink, ycontent, yupd⟩).toArray 23)) (wr.alloc (.cells #[.string yid, .string ytitle, .string ylink, .string ycontent, .int .i64 yupd] 23)) := Ext.refl _
          have e0 : (wr.alloc (.cells #[.string yid, .string ytitle, .string ylink, .string ycontent, .int .i64 yupd] 23)).cell? ⟨wo.heap.size, 0, none⟩ = some (.string eid) := hxy.boxed 0 _ rfl
          have e1 : (wr.alloc (.cells #[.string yid, .string ytitle, .string ylink, .string ycontent, .int .i64 yupd] 23)).cell? ⟨wo.heap.size, 1, none⟩ = some (.string etitle) := hxy.boxed 1 _ rfl
          have e2 : (wr.alloc (.cells #[.string yid, .string ytitle, .string ylink, .string ycontent, .int .i64 yupd] 23)).cell? ⟨wo.heap.size, 2, none⟩ = some (.string elink) := hxy.boxed 2 _ rfl
          have e3 : (wr.alloc (.cells #[.string yid, .string ytitle, .string ylink, .string ycontent, .int .i64 yupd] 23)).cell? ⟨wo.heap.size, 3, none⟩ = some (.string econtent) := hxy.boxed 3 _ rfl
          have e4 : (wr.alloc (.cells #[.string yid, .string ytitle, .string ylink, .string ycontent, .int .i64 yupd] 23)).cell? ⟨wo.heap.size, 4, none⟩ = some (.int .i64 eupd) := hxy.boxed 4 _ rfl
          have y0 : (wr.alloc (.cells #[.string yid, .string ytitle, .string ylink, .string ycontent, .int .i64 yupd] 23)).cell? ⟨wr.heap.size, 0, none⟩ = some (.string yid) := hyy.boxed 0 _ rfl
          have y1 : (wr.alloc (.cells #[.string yid, .string ytitle, .string ylink, .string ycontent, .int .i64 yupd] 23)).cell? ⟨wr.heap.size, 1, none⟩ = some (.string ytitle) := hyy.boxed 1 _ rfl
          have y2 : (wr.alloc (.cells #[.string yid, .string ytitle, .string ylink, .string ycontent, .int .i64 yupd] 23)).cell? ⟨wr.heap.size, 2, none⟩ = some (.string ylink) := hyy.boxed 2 _ rfl
          have y3 : (wr.alloc (.cells #[.string yid, .string ytitle, .string ylink, .string ycontent, .int .i64 yupd] 23)).cell? ⟨wr.heap.size, 3, none⟩ = some (.string ycontent) := hyy.boxed 3 _ rfl
          have y4 : (wr.alloc (.cells #[.string yid, .string ytitle, .string ylink, .string ycontent, .int .i64 yupd] 23)).cell? ⟨wr.heap.size, 4, none⟩ = some (.int .i64 yupd) := hyy.boxed 4 _ rfl
          have hEy : Env (wr.alloc (.cells #[.string yid, .string ytitle, .string ylink, .string ycontent, .int .i64 yupd] 23)) := hEw.ext ((Ext.refl wr).alloc _)
          unfold eCells at HLT
          dsimp only at HLT
          clear hxy hyy
          go_wp2_with (first
            | (refine wpList_store_row rfl 23 (.tmp 6) (.tmp 28) rfl wo.heap.size _ rfl rfl _ _ hbd size_ent rfl (oneA (eCells_one r)) ?_)
            | (go_at_call 80; refine (HLT.out _ hEy).mono ?_; rintro e w3 ⟨rfl, hx3⟩; (have hxd := HXI.out.trans (((Ext.refl wr).alloc _).trans hx3)); (have hbd := HBX.out w3 (((Ext.refl wr).alloc _).trans hx3))))
          go_roundw
          case rel =>
            have hR := HR.out
            have hF := HFS.out
            refine ⟨m + 1, by omega, by go_num, ?_⟩
            rw [hF, hR]
            exact ext_setBox hxd
          case measure => simp [intOf]; omega
        · have hme : m = t.length := by omega
          subst hme
          rw [List.take_of_length_le (Nat.le_refl _)] at hxi
          obtain ⟨r, hr⟩ : ∃ r, t.foldl laterE x = r := ⟨_, rfl⟩
          rw [hr] at hxi
          have HR := Lib.hid hr
          clear hr
          have e0 : wr.cell? ⟨wo.heap.size, 0, none⟩ = some (.string r.id) := hxi.boxed 0 _ rfl
          have e1 : wr.cell? ⟨wo.heap.size, 1, none⟩ = some (.string r.title) := hxi.boxed 1 _ rfl
          have e2 : wr.cell? ⟨wo.heap.size, 2, none⟩ = some (.string r.link) := hxi.boxed 2 _ rfl
          have e3 : wr.cell? ⟨wo.heap.size, 3, none⟩ = some (.string r.content) := hxi.boxed 3 _ rfl
          have e4 : wr.cell? ⟨wo.heap.size, 4, none⟩ = some (.int .i64 r.upd) := hxi.boxed 4 _ rfl
          have hown1 := hown.ext hxwo
          have hxx := hx.trans hxwo
          have hkl : (((ordE.firsts l).take k).map (jE l)).length = k := by
            have := HGL.out
            rw [List.length_map, List.length_take]; omega
          unfold OEnts at hown1
          have HBY : Hid (((((ordE.firsts l).take k).map (jE l)).length + 1) * 72 ≤ 140737488355328) := Lib.hid (by rw [hkl]; omega)
          have HML : Hid ((((ordE.firsts l).take k).map (jE l)).length + 1 ≤ maxLen) := Lib.hid (by rw [hkl]; unfold maxLen; omega)
          obtain ⟨O, hO⟩ : ∃ O, ((ordE.firsts l).take k).map (jE l) = O := ⟨_, rfl⟩
          rw [hO] at hown1 hkl HBY HML
          have HO := Lib.hid hO
          clear hO
          go_wp2_with (first
            | (at_builtin; refine wpList_append_rsl _ rfl (.tmp 30) (.tmp 32) _ rfl w1.heap.size 23 i0 _ 5 72 Tryz.underlying33 hi0 hz0 hz1 hz2 rfl (by decide) _ _ _ rfl (hown1.alloc _) _ 1 (eCells r) rfl (rsl_new rfl (by decide)) (eCells_one _) HML.out HBY.out ?_ ?_; (have := hxx.size; simp; omega); intro v3 w3 hown3 hg3 hat3; (have hx3 : Ext w1 w3 := Ext.app (hxx.alloc _) hg3 (hown1.alloc _) (Nat.le_refl _))))
          go_roundw
          case rel =>
            have hT := HTK.out
            have hO := HO.out
            have hR := HR.out
            refine ⟨k + 1, by omega, by go_num, ?_, hx3⟩
            rw [hT, hO, hR]
            exact OEnts.snoc hown3
          case measure => simp [intOf]; omega
    · have hke : k = gv.length := by omega
      subst hke
      have hkf : (ordE.firsts l).take gv.length = ordE.firsts l := List.take_of_length_le (by rw [HGL.out]; exact Nat.le_refl _)
      rw [hkf, ← joined_map] at hown
      have hjn : (ordE.joined l).length ≤ 1000000 := by rw [joined_map, List.length_map, ← HGL.out]; exact hgn
      have hcan := fun l' => ordE.sorted_joined l l'
      obtain ⟨J, hJ⟩ : ∃ J, ordE.joined l = J := ⟨_, rfl⟩
      rw [hJ] at hown hjn hcan
      have HCAN := Lib.hid hcan
      have hws := hx1.size
      have hgb : ∀ g, u3.ownBlock = some g → w.heap.size ≤ g := fun g hg => Nat.le_trans hws (World.ownsRow.lt hown g hg).1
      have hsr := sortE_any u3 J wr w1.heap.size hown hjn
      obtain ⟨A9, c9, rfl, _, _⟩ := hown.reads.form
      have HSR := Lib.hid hsr
      have HGB := Lib.hid hgb
      clear hsr hcan hJ hkf hjn hgb
      go_wp2_with (go_at_call 81; (have hz := HSR.out); (with_reducible refine Calls.mono hz ?_); clear hz; rintro e w9 ⟨rfl, l', hp, hs, hown9, hgr⟩)
      go_ret
      have hc := HCAN.out l' hp hs
      subst hc
      exact ⟨_, rfl, hown9.mono hws, Ext.grown' (B := 0) (hx1.trans hx) hgr HGB.out⟩
end Go.Proofs.YtgecijhgonfldaaGreatDoor
