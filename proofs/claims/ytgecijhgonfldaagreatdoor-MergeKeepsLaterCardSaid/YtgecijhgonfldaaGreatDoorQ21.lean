/- Parts of the proof: contracts and plain laws that the statement needs. -/
import Derived.Test.YtgecijhgonfldaaGreatDoorQ16
import Derived.Test.YtgecijhgonfldaaGreatDoorQ18
import Derived.Test.YtgecijhgonfldaaGreatDoorQ20
namespace Go.Proofs.YtgecijhgonfldaaGreatDoor
open Go Go.RowKit
set_option linter.unusedVariables false
theorem errFs_at : ∀ (l : List Fd) (k : Nat) (hk : k < l.length), (∀ e ∈ l.take k, errF e = 0) → errF l[k] ≠ 0 → errFs l = errF l[k]
  | [], k, hk, _, _ => by simp at hk
  | e :: t, 0, _, _, h => by simp only [errFs]; rw [if_neg (by simpa using h)]; rfl
  | e :: t, k + 1, hk, h, h2 => by
    simp only [errFs]
    rw [if_pos (h e (by simp)), errFs_at t k (by simpa using hk) (fun x hx => h x (by simp [hx])) (by simpa using h2)]
    rfl
theorem size_arc : (Tryz.prog.info? 46).map (fun i => i.size) = some 1 := by kernel_rfl
theorem allE_len : ∀ (L : List Fc) (l : List Fd), L.map Fc.f = l → allE L = (l.map fun f => f.ents.length).sum
  | [], _, h => by subst h; rfl
  | x :: t, _, h => by subst h; unfold allE; rw [List.map_map]; rfl
theorem allE_coll : ∀ (l : List Fc), ((l.map fun x => collF x.f).map fun f => f.ents.length).sum ≤ allE l
  | [] => Nat.le_refl _
  | x :: t => by
    have h := allE_coll t
    have h2 : (collF x.f).ents.length ≤ x.f.ents.length := by
      show (ordE.canon (x.f.ents.map collE)).length ≤ _
      have := canon_len ordE (x.f.ents.map collE)
      rwa [List.length_map] at this
    unfold allE at *
    simp only [List.map_cons, List.sum_cons] at h ⊢
    omega
theorem flatE_one' (l : List Ent) : ∀ u ∈ flatE l, u.oneCell' = true := by
  intro u hu
  unfold flatE at hu
  obtain ⟨c, hc, hu⟩ := List.mem_flatten.1 hu
  obtain ⟨e, _, rfl⟩ := List.mem_map.1 hc
  exact eCells_one e u hu
set_option maxRecDepth 100000 in
set_option maxHeartbeats 8000000 in
theorem archive_any (v : Value) (l : List Fc) (w : World) (hE : Env w) (hr : RFcs w v l) (hrd : ∀ x ∈ l, RdC w x) (hk : ∀ x ∈ l, fokS x.f) (hn : l.length ≤ 1000000) (hen : allE l ≤ 1000000) :
    Calls Tryz.prog 25 #[v] w fun e w' => ∃ (v' : Value) (lc : List Fc), e = .returned (.tuple #[.agg #[v'], .int .i64 (errFs (l.map Fc.f) : Nat)]) ∧ lc.map Fc.f = normA (l.map Fc.f) ∧ HFs w' w.heap.size v' lc ∧ Ext w w' := by
  obtain ⟨i0, hi0, hz0, hz1, hz2⟩ := info_parts info_feed
  obtain ⟨i1, hj0, hy0, hy1, hy2⟩ := info_parts info_ent
  obtain ⟨A, c, rfl, hlc, hcm⟩ := hr.form
  have HRD := Lib.hid hrd
  have HK := Lib.hid hk
  obtain ⟨EF, hEF⟩ : ∃ n, errFs (l.map Fc.f) = n := ⟨_, rfl⟩
  obtain ⟨NF, hNF⟩ : ∃ n, normA (l.map Fc.f) = n := ⟨_, rfl⟩
  simp only [hEF, hNF]
  have HEF := Lib.hid hEF
  have HNF0 := Lib.hid hNF
  clear hlc hcm hrd hk hEF hNF
  go_enter Tryz.func25, Tryz.ntmps25
  go_wp2
  go_loopw [4, 18] (fun o i wr => ∃ (k : Nat) (lc : List Fc), k ≤ l.length ∧ i = .int .i64 k ∧ HFs wr (w.heap.size + 1) o lc ∧ Hid (lc.map Fc.f = (l.take k).map fun x => collF x.f) ∧ Hid (∀ x ∈ l.take k, errF x.f = 0) ∧ Hid (∀ y ∈ lc, awayC y (some w.heap.size)) ∧ Ext (w.alloc (.cells #[.slice none 0 0] 46)) wr) (fun _ i _ => l.length - (intOf i).toNat)
  case atStart => exact ⟨0, [], Nat.zero_le _, rfl, HFs.nil _ _, Lib.hid rfl, Lib.hid (by simp), Lib.hid (by simp), Ext.refl _⟩
  case round =>
    obtain ⟨k, lc, hk, rfl, hH, hlm, herr, hawr, hx⟩ := hrel
    have hxw : Ext w wr := ((Ext.refl w).alloc _).trans hx
    by_cases hlt : k < l.length
    · obtain ⟨ad, c', hv, hat⟩ := (hr.ext hxw).at hlt
      injection hv with hv1 hv2 hv3
      subst hv1
      clear hv2 hv3
      have hmem : l[k] ∈ l := List.getElem_mem hlt
      have hrx := HRD.out _ hmem
      have hkx := HK.out _ hmem
      have htk := List.take_succ_eq_append_getElem hlt
      have hbad := errFs_at (l.map Fc.f) k (by rw [List.length_map]; exact hlt) (fun f hf => by
        rw [← List.map_take] at hf
        obtain ⟨y, hy, rfl⟩ := List.mem_map.1 hf
        exact herr.out y hy)
      rw [List.getElem_map] at hbad
      obtain ⟨x, hxx⟩ : ∃ x, l[k] = x := ⟨_, rfl⟩
      rw [hxx] at hat hrx hkx htk hbad
      have HNF := Lib.hid (fun (w' : World) (h : Ext w w') => normFeed_any x w' (hE.ext h) hkx (hrx.ext h))
      have hsl := hrx.sl
      have hlcl : lc.length = k := by
        have := congrArg List.length hlm.out
        rw [List.length_map, List.length_map, List.length_take] at this
        omega
      have hi0' : (0 : Int) ≤ (k : Int) := by omega
      have hi1' : (k : Int) < (l.length : Int) := by omega
      have HTK := Lib.hid htk
      have HBAD := Lib.hid hbad
      have HH := Lib.hid hH
      have HX := Lib.hid hx
      have HXW := Lib.hid hxw
      have HBY : Hid ((lc.length + 1) * 104 ≤ 140737488355328) := Lib.hid (by omega)
      have HML : Hid (lc.length + 1 ≤ maxLen) := Lib.hid (by unfold maxLen; omega)
      have hws := hxw.size
      have hws1 := hx.size
      rw [size_alloc] at hws1
      clear hxx htk hbad hrx hkx hmem hH
      obtain ⟨E, hEr⟩ : ∃ E, errF x.f = E := ⟨_, rfl⟩
      rw [hEr] at HNF HBAD
      have HER := Lib.hid hEr
      obtain ⟨N, hN⟩ : ∃ N, normF x.f = N := ⟨_, rfl⟩
      rw [hN] at HNF
      have HN := Lib.hid hN
      clear hN hEr
      obtain ⟨xp, xes, ⟨xpath, xid, xtitle, xlink, xupd, xents⟩⟩ := x
      obtain ⟨⟨xA, xn, xc, hxp⟩, ⟨xB, xm, xd, hxe⟩⟩ := hsl
      simp only at hxp hxe
      subst hxp hxe
      obtain ⟨a0, a1, a2, a3, a4, a5⟩ := hat
      simp only at a0 a1 a2 a3 a4 a5
      unfold cellsC fCells at HNF
      dsimp only at HNF
      by_cases h0 : E = 0
      · subst h0
        go_wp2_with (first
          | (go_at_call 21; (have hz := HNF.out _ (HXW.out.trans ((Ext.refl wr).alloc (.cells #[.slice xA xn xc, .string xid, .string xtitle, .string xlink, .int .i64 xupd, .slice xB xm xd] 35)))); (with_reducible refine Calls.mono hz ?_); clear hz; rintro e w2 ⟨y, rfl, hyf, hyr, hya, hx2⟩; (have hysl := hyr.sl); (obtain ⟨yp, yes, yf⟩ := y); (obtain ⟨⟨yA, yn, yc, hyp⟩, ⟨yB, ym, yd, hye⟩⟩ := hysl); simp only at hyp hye; subst hyp hye; (have hyf2 : yf = N := hyf); clear hyf; subst hyf2; (have hx2' := ((Ext.refl wr).alloc (.cells #[.slice xA xn xc, .string xid, .string xtitle, .string xlink, .int .i64 xupd, .slice xB xm xd] 35)).trans hx2); (have HH2 := Lib.hid (HH.out.ext hx2')); (have hs2 := hx2'.size))
          | (at_builtin; refine wpList_append_rsl _ rfl (.tmp 31) (.tmp 33) _ rfl (w.heap.size + 1) 35 i0 _ 6 104 Tryz.underlying37 hi0 hz0 hz1 hz2 rfl (by decide) _ lc.length (flatC lc) rfl ((own_ext HH2.out.row ((Ext.refl _).alloc _)).alloc _) _ 1 (cellsC ⟨.slice yA yn yc, .slice yB ym yd, yf⟩) rfl (rsl_block (e := 35) (fr := (0, 0)) (cs := cellsC ⟨.slice yA yn yc, .slice yB ym yd, yf⟩) (heap2_new _ _ _) rfl (by decide)) (cellsC_one hyr.sl) HML.out HBY.out ?_ ?_; (simp; omega); intro v3 w3 hown3 hg3 hat3))
        go_roundw
        case rel =>
          have hyf' : yf = collF ⟨xpath, xid, xtitle, xlink, xupd, xents⟩ := by
            rw [← HN.out]
            unfold normF
            rw [if_pos HER.out]
          have hT := HTK.out
          have haw : awayC ⟨.slice yA yn yc, .slice yB ym yd, yf⟩ _ := awayC_opt hyr fun q hq => hya q (by have := (HH.out.row.lt q hq).2; simp; omega)
          refine ⟨k + 1, lc ++ [⟨.slice yA yn yc, .slice yB ym yd, yf⟩], hlt, by go_num, HFs.snoc (HH2.out.ext (((Ext.refl _).alloc _).alloc _)) ((hyr.ext ((Ext.refl _).alloc _)).ext ((Ext.refl _).alloc _)) haw hown3 hg3 hat3, Lib.hid ?_, Lib.hid fun z hz => ?_, Lib.hid fun z hz => ?_, ?_⟩
          · rw [hT, List.map_append, List.map_append, hlm.out, List.map_cons, List.map_nil, List.map_cons, List.map_nil]
            exact congrArg (fun f => _ ++ [f]) hyf'
          · rw [hT] at hz
            rcases List.mem_append.1 hz with hz | hz
            · exact herr.out z hz
            · rw [List.mem_singleton.1 hz]; exact HER.out
          · rcases List.mem_append.1 hz with hz | hz
            · exact hawr.out z hz
            · rw [List.mem_singleton.1 hz]; exact hya _ (by rw [size_alloc]; omega)
          · exact Ext.app (((HX.out.trans hx2').alloc _).alloc _) hg3 ((HH2.out.row.ext ((Ext.refl _).alloc _)).ext ((Ext.refl _).alloc _)) (by rw [size_alloc]; exact Nat.le_refl _)
        case measure => simp [intOf]; omega
      · have hb : ((E : Int) != 0) = true := by simp; omega
        have he := HBAD.out h0
        have HE0 := Lib.hid h0
        have heE := HEF.out.symm.trans he
        subst heE
        have HEE := Lib.hid he
        clear he h0
        go_wp2_with (first
          | (go_at_call 21; (have hz := HNF.out _ (HXW.out.trans ((Ext.refl wr).alloc (.cells #[.slice xA xn xc, .string xid, .string xtitle, .string xlink, .int .i64 xupd, .slice xB xm xd] 35)))); (with_reducible refine Calls.mono hz ?_); clear hz; rintro e w2 ⟨y, rfl, hyf, hyr, hya, hx2⟩; (have hysl := hyr.sl); (obtain ⟨yp, yes, yf⟩ := y); (obtain ⟨⟨yA, yn, yc, hyp⟩, ⟨yB, ym, yd, hye⟩⟩ := hysl); simp only at hyp hye; subst hyp hye; (have hyf2 : yf = N := hyf); clear hyf; subst hyf2; (have hx2' := ((Ext.refl wr).alloc (.cells #[.slice xA xn xc, .string xid, .string xtitle, .string xlink, .int .i64 xupd, .slice xB xm xd] 35)).trans hx2); (have hzz2 := ((HX.out.trans hx2').alloc (.cells (cellsC ⟨.slice yA yn yc, .slice yB ym yd, yf⟩).toArray 35)).heap (heap_alloc_new w _)))
          | (refine wpList_store_row rfl 46 (.tmp 2) (.tmp 29) rfl w.heap.size _ rfl rfl _ _ hzz2 size_arc rfl oneArc ?_))
        ((try simp only [Exit.inBlock, Exit.then]); refine bodyPost_ret (results_cell_row2 rfl _ _ _ _ _ _ _ rfl (setRow_heap _ _ _ _ _ _ hzz2) Tryz.underlying46 rfl size_arc) rfl ?_)
        refine ⟨.slice none 0 0, [], rfl, ?_, HFs.nil _ _, ((HXW.out.trans hx2').alloc _).setRow (Nat.le_refl _) _⟩
        rw [← HNF0.out]
        unfold normA
        rw [HEE.out, if_neg HE0.out]
        rfl
    · have hke : k = l.length := by omega
      subst hke
      rw [List.take_of_length_le (Nat.le_refl _)] at hlm herr
      have hefs : errFs (l.map Fc.f) = 0 := errFs_zero.2 fun f hf => by
        obtain ⟨y, hy, rfl⟩ := List.mem_map.1 hf
        exact herr.out y hy
      have hno : normA (l.map Fc.f) = ordF.canon (lc.map Fc.f) := by
        unfold normA
        rw [if_pos hefs, hlm.out, List.map_map]
        rfl
      have heE := HEF.out.symm.trans hefs
      have hnE := HNF0.out.symm.trans hno
      subst heE hnE
      have hmem : ∀ y ∈ lc, ∃ x ∈ l, y.f = collF x.f := by
        intro y hy
        have : y.f ∈ lc.map Fc.f := List.mem_map.2 ⟨y, hy, rfl⟩
        rw [hlm.out] at this
        obtain ⟨x, hx, e⟩ := List.mem_map.1 this
        exact ⟨x, hx, e.symm⟩
      have HKS : Hid (∀ y ∈ lc, fokS y.f) := Lib.hid fun y hy => by
        obtain ⟨x, hx, e⟩ := hmem y hy
        rw [e]
        exact fokS_coll (HK.out x hx)
      have HCN : Hid (∀ y ∈ lc, ordE.canon y.f.ents = y.f.ents) := Lib.hid fun y hy => by
        obtain ⟨x, hx, e⟩ := hmem y hy
        rw [e]
        exact ordE.canon_canon _
      have hall : allE lc ≤ 1000000 := by
        rw [allE_len lc _ hlm.out]
        exact Nat.le_trans (allE_coll l) hen
      have HALL := Lib.hid hall
      have hlcl : lc.length ≤ 1000000 := by
        have := congrArg List.length hlm.out
        rw [List.length_map, List.length_map] at this
        omega
      clear hefs hno hmem hlm herr hall
      obtain ⟨wA, hwA⟩ : ∃ wA : World, wA = wr := ⟨_, rfl⟩
      subst hwA
      have HGRP := Lib.hid (groupsF_any _ lc (wA.alloc (.cells #[.slice none 0 0] 46)) (hH.row.reads.ext ((Ext.refl _).alloc _)) (fun y hy => (hH.rd y hy).sl) (fun y hy => by have := (HKS.out y hy).1.2; omega) hlcl)
      have HRD2 := Lib.hid hH.rd
      have HX := Lib.hid hx
      have HXW := Lib.hid hxw
      have hfn := firstsC_len lc
      have HFN := Lib.hid hfn
      clear hH hfn
      go_wp2_with (go_at_call 56; (have hz := HGRP.out); (with_reducible refine Calls.mono hz ?_); clear hz; rintro e w1 ⟨v1, gv, rfl, hG, hx1⟩; (obtain ⟨A1, c1, hv1⟩ := hG.form); subst hv1)
      have hgl := hG.len
      have hgn : gv.length ≤ 1000000 := by have := HFN.out; omega
      have hab : wA.heap.size < w1.heap.size := by have := hx1.size; rw [size_alloc] at this; omega
      have c0 := hx1.boxed 0 (.slice none 0 0) rfl
      have f0 := hx1.boxedF 0
      have HG := Lib.hid hG
      have HGL := Lib.hid hgl
      have HX1 := Lib.hid hx1
      have HC0 := Lib.hid c0
      have HF0 := Lib.hid f0
      have HSZ : Hid (∀ o : Value, (w1.setCell ⟨wA.heap.size, 0, none⟩ o).heap.size = w1.heap.size) := Lib.hid fun o => by simp [World.setCell]
      have HCELL : Hid (∀ (o : Value) (wr : World), Ext (w1.setCell ⟨wA.heap.size, 0, none⟩ o) wr → wr.cell? ⟨wA.heap.size, 0, none⟩ = some o ∧ wr.frozen? ⟨wA.heap.size, 0, none⟩ = false) := Lib.hid fun o wr h =>
        ⟨h.cell (World.cell?_setCell_same _ _ _ HC0.out), (Below.frozen h (by rw [HSZ.out]; exact hab)).trans (by rw [World.frozen?_setCell]; exact HF0.out)⟩
      have HRDW : Hid (∀ (o : Value) (wr : World), Ext (w1.setCell ⟨wA.heap.size, 0, none⟩ o) wr → ∀ y ∈ lc, RdC wr y) := Lib.hid fun o wr h y hy =>
        (((HRD2.out y hy).ext (((Ext.refl _).alloc _).trans HX1.out)).grown (setCell_grown _ _ _) (awayC_new (HRD2.out y hy) (Nat.le_refl _))).ext h
      have HGW : Hid (∀ (o : Value) (wr : World), Ext (w1.setCell ⟨wA.heap.size, 0, none⟩ o) wr → GrpsC wr (wA.alloc (.cells #[.slice none 0 0] 46)).heap.size (.slice A1 gv.length c1) lc (firstsC lc) gv) := Lib.hid fun o wr h =>
        (HG.out.kept (setCell_grown _ _ _) (by rw [size_alloc]; exact Nat.lt_succ_self _)).ext h
      have HXR : Hid (∀ (o : Value) (wr : World), Ext (w1.setCell ⟨wA.heap.size, 0, none⟩ o) wr → Ext wA wr) := Lib.hid fun o wr h =>
        ((((Ext.refl wA).alloc _).trans HX1.out).setCell (Nat.le_refl _) _).trans h
      clear hG hgl hx1 c0 f0
      go_loopw [39] (fun i wr => ∃ (k : Nat) (o : Value) (rs : List Fc), k ≤ gv.length ∧ i = .int .i64 k ∧ HFs wr w1.heap.size o rs ∧ Hid (rs.map Fc.f = ((firstsC lc).take k).map (jF (lc.map Fc.f))) ∧ Hid (∀ y ∈ rs, awayC y (some wA.heap.size) ∧ awayC y (some w.heap.size) ∧ fok y.f) ∧ Ext (w1.setCell ⟨wA.heap.size, 0, none⟩ o) wr) (fun i _ => gv.length - (intOf i).toNat)
      case atStart => exact ⟨0, .slice none 0 0, [], Nat.zero_le _, rfl, HFs.nil _ _, Lib.hid rfl, Lib.hid (by simp), by rw [setCell_kept _ _ _ _ HC0.out]; exact Ext.refl _⟩
      case round =>
        obtain ⟨k, o, rs, hk, rfl, hH, hrs, haw, hx⟩ := hrel
        by_cases hlt : k < gv.length
        · have hGw := HGW.out o wr hx
          have hkf : k < (firstsC lc).length := by rw [← HGL.out]; exact hlt
          obtain ⟨g, cap, hv, _, _⟩ := hGw.row.form (by omega)
          injection hv with hv1 hv2 hv3
          subst hv1
          have hgc : wr.cell? ⟨g, k, none⟩ = some gv[k] := by rw [hv3] at hGw; rw [hGw.row.cellAt k (by omega)]; exact List.getElem?_eq_getElem hlt
          have hoe := hGw.each k (firstsC lc)[k] gv[k] (List.getElem?_eq_getElem hkf) (List.getElem?_eq_getElem hlt)
          obtain ⟨x, t, hgrp⟩ := grpC_cons (List.getElem_mem hkf)
          rw [hgrp] at hoe
          have hsub : ∀ y ∈ x :: t, y ∈ lc := fun y hy => by rw [← hgrp] at hy; exact (List.mem_filter.1 hy).1
          have hjf := jF_grp hgrp (HCN.out x (hsub x (by simp)))
          have htk : ((firstsC lc).take (k + 1)).map (jF (lc.map Fc.f)) = ((firstsC lc).take k).map (jF (lc.map Fc.f)) ++ [jF (lc.map Fc.f) (firstsC lc)[k]] := by rw [List.take_succ_eq_append_getElem hkf, List.map_append]; rfl
          rw [hjf] at htk
          have hen2 : (enF x t).length ≤ 1000000 := by
            rw [enF_len, ← hgrp]
            exact Nat.le_trans (allE_filter _ lc) HALL.out
          have htl : t.length + 1 ≤ 1000000 := by
            have := grpC_len lc (firstsC lc)[k]
            rw [hgrp] at this
            simp at this
            omega
          have HTK := Lib.hid htk
          have HSUB := Lib.hid hsub
          obtain ⟨u, hu⟩ : ∃ u, gv[k] = u := ⟨_, rfl⟩
          rw [hu] at hoe hgc
          obtain ⟨A2, c2, hu2, _, _⟩ := hoe.reads.form
          subst hu2
          have hoe2 : RFcs wr (.slice A2 (t.length + 1) c2) (x :: t) := hoe.reads
          obtain ⟨v2, hsl2, hR2⟩ := tailF hoe2
          obtain ⟨ad, c3, hv4, hat⟩ := hoe.reads.at (k := 0) (by simp)
          injection hv4 with hv5 hv6 hv7
          subst hv5
          rw [Nat.zero_mul] at hat
          have hadd0 : ad.add 0 = ad := add_zero ad
          rw [hadd0] at hat
          obtain ⟨a0, a1, a2, a3, a4, a5⟩ := hat
          simp only [List.getElem_cons_zero] at a0 a1 a2 a3 a4 a5
          obtain ⟨A3, c4, hv8, _, _⟩ := hR2.form
          subst hv8
          have hrx := HRDW.out o wr hx x (hsub x (by simp))
          have hp1 := hrx.1.form
          have hp2 := hrx.2.form
          have HRX := Lib.hid hrx
          have HR2 := Lib.hid hR2
          have HH := Lib.hid hH
          have HXO := Lib.hid hx
          have HHU := Lib.hid hu
          have hwo := hx.size
          rw [HSZ.out] at hwo
          have hxe : x.f.ents.length ≤ 1000000 := by
            have := (HKS.out x (hsub x (by simp))).2.1
            exact this
          have HCE := Lib.hid (fun (w' : World) (h : Ext wr w') => clone_entry x.es x.f.ents.length (flatE x.f.ents) w' (hrx.2.ext h) (flatE_one' _) (by omega))
          clear hGw hv2 hv3 hv6 hv7 hgrp hjf htk hoe hoe2 hsub hR2 hu hadd0 hkf hrx hH hx
          obtain ⟨X, hX⟩ : ∃ X, X = x := ⟨_, rfl⟩
          rw [← hX] at HTK HSUB HRX HCE hen2 hxe
          obtain ⟨xp, xes, ⟨xpath, xid, xtitle, xlink, xupd, xents⟩⟩ := x
          obtain ⟨xA, xc, hxp, _, _⟩ := hp1
          obtain ⟨xB, xd, hxe', _, _⟩ := hp2
          simp only at hxp hxe' a0 a1 a2 a3 a4 a5
          subst hxp hxe'
          obtain ⟨wo, hwo'⟩ : ∃ wo : World, wo = wr := ⟨_, rfl⟩
          subst hwo'
          have HXX := Lib.hid hX
          have hXe : X.es = .slice xB xents.length xd := by rw [hX]
          have hXl : X.f.ents.length = xents.length := by rw [hX]
          rw [hXe] at HCE
          clear hX hXe hXl
          go_wp2_with (go_at_call 58; (have hz := HCE.out _ ((Ext.refl wo).alloc (.cells #[.slice xA xpath.length xc, .string xid, .string xtitle, .string xlink, .int .i64 xupd, .slice xB xents.length xd] 35))); (with_reducible refine Calls.mono hz ?_); clear hz; rintro e w3 ⟨v3, rfl, hown3, hx3⟩; (have HOWN3 := Lib.hid hown3); (have HX3 := Lib.hid hx3); clear hown3 hx3)
          go_loopw [13, 52] (fun ev i wr => ∃ (m : Nat) (pz ez : Value), m ≤ t.length ∧ i = .int .i64 m ∧ Ext (wo.alloc (.cells (fCells pz ez (hdF X (t.take m))).toArray 35)) wr ∧ wr.ownsRow (wo.heap.size + 1) 23 5 ev (enF X (t.take m)).length (flatE (enF X (t.take m))) ∧ RStrs wr pz (hdF X (t.take m)).path ∧ isSl ez ∧ Hid ((hdF X (t.take m)).path = [] ∨ pz.ownBlock ≠ ev.ownBlock) ∧ Hid ((hdF X (t.take m)).path = [] ∨ ∀ q, pz.ownBlock = some q → (q < wA.heap.size ∧ q ≠ w.heap.size) ∨ wo.heap.size < q)) (fun _ i _ => t.length - (intOf i).toNat)
          case atStart =>
            have hx3 := HX3.out
            have hXX := HXX.out
            have hold := HRD2.out X (HSUB.out X (by simp))
            refine ⟨0, .slice xA xpath.length xc, .slice xB xents.length xd, Nat.zero_le _, rfl, ?_, ?_, ?_, ⟨_, _, _, rfl⟩, Lib.hid ?_, Lib.hid ?_⟩
            · rw [hXX]; exact hx3
            · have := own_mono HOWN3.out (B' := wo.heap.size + 1) (by rw [size_alloc]; exact Nat.le_refl _)
              simpa [enF] using this
            · have := HRX.out.1.ext (((Ext.refl _).alloc _).trans hx3)
              rw [hXX] at this ⊢
              exact this
            · have := (awayC_row HRX.out (r := v3.ownBlock) (fun q hq => by have := (HOWN3.out.lt q hq).1; rw [size_alloc] at this; omega)).1
              rw [hXX] at this ⊢
              exact this
            · cases hp : X.f.path with
              | nil => exact Or.inl hp
              | cons s r =>
                refine Or.inr fun q hq => Or.inl ?_
                obtain ⟨q', h1, h2⟩ := RSl.old hold.1 (by rw [hp]; simp)
                have h3 := (hawr.out X (HSUB.out X (by simp))).1
                rw [hp] at h3
                rw [h1] at h3
                rw [hXX] at h1
                rw [h1] at hq
                injection hq with hq
                subst hq
                refine ⟨h2, fun e => ?_⟩
                rcases h3 with h3 | h3
                · cases h3
                · exact h3 (by rw [e])
          case round =>
            obtain ⟨m, pz, ez, hm, rfl, hxi, hown, hrz, hez, hawz, hbz⟩ := hrel
            have hxwo : Ext wo wr := ((Ext.refl wo).alloc _).trans hxi
            have hwi := hxi.size
            rw [size_alloc] at hwi
            by_cases hmt : m < t.length
            · obtain ⟨ad2, c5, hv9, hat⟩ := (HR2.out.ext hxwo).at hmt
              injection hv9 with hv9 hv10 hv11
              subst hv9
              clear hv10 hv11
              have htm := List.take_succ_eq_append_getElem hmt
              have hymem : t[m] ∈ lc := HSUB.out _ (List.mem_cons_of_mem _ (List.getElem_mem hmt))
              have hhs := hdF_snoc X (t.take m) t[m]
              have hes := enF_snoc X (t.take m) t[m]
              rw [← htm] at hhs hes
              have hHk : fok (hdF X (t.take m)) := hdF_fok X _ (HKS.out X (HSUB.out X (by simp))).1 fun y hy => (HKS.out y (HSUB.out y (List.mem_cons_of_mem _ (List.mem_of_mem_take hy)))).1
              have hlen : (enF X (t.take (m + 1))).length ≤ 1000000 := by
                refine Nat.le_trans ?_ hen2
                rw [enF_len, enF_len]
                unfold allE
                simp only [List.map_cons, List.sum_cons]
                have := List.take_append_drop (m + 1) t
                have h2 : (t.map fun x => x.f.ents.length).sum = ((t.take (m + 1)).map fun x => x.f.ents.length).sum + ((t.drop (m + 1)).map fun x => x.f.ents.length).sum := by
                  rw [← List.sum_append, ← List.map_append, this]
                omega
              obtain ⟨y, hyy⟩ : ∃ y, t[m] = y := ⟨_, rfl⟩
              rw [hyy] at hat hymem hhs hes
              obtain ⟨H, hH⟩ : ∃ H, hdF X (t.take m) = H := ⟨_, rfl⟩
              obtain ⟨E, hEE⟩ : ∃ E, enF X (t.take m) = E := ⟨_, rfl⟩
              rw [hH] at hhs hHk hxi hrz hawz
              rw [hH] at hbz
              rw [hEE] at hes hown
              rw [hes, List.length_append] at hlen
              have hyk := (HKS.out y hymem).1
              have hryo := HRDW.out o wo HXO.out y hymem
              have hry := hryo.ext hxwo
              have hysl := hry.sl
              have hLF := fun (w' : World) (hE' : Env w') (hp : RStrs w' pz H.path) (hy : RStrs w' y.p y.f.path) => laterFeed_any ⟨pz, ez, H⟩ y w' hE' hHk hyk hp hy hez hysl.2
              obtain ⟨R, hR⟩ : ∃ R, laterF H y.f = R := ⟨_, rfl⟩
              dsimp only at hLF
              simp only [hR] at hLF
              rw [hR] at hhs
              have HHS := Lib.hid hhs
              have HES2 := Lib.hid hes
              have HR := Lib.hid hR
              have HOWN := Lib.hid hown
              have HXI := Lib.hid hxi
              have HRZ := Lib.hid hrz
              have HRY := Lib.hid hry
              have HRYO := Lib.hid hryo
              have HXWO := Lib.hid hxwo
              have hyp1 := hry.1.form
              have hyp2 := hry.2.form
              have hez' := hez
              have hpz' := hrz.form
              have hEw : Env wo := hE.ext (HXW.out.trans (HXR.out o wo HXO.out))
              have hbase : wo.heap.size + 1 ≤ wr.heap.size := hwi
              have HBY : Hid ((E.length + y.f.ents.length) * 72 ≤ 140737488355328) := Lib.hid (by omega)
              have HML : Hid (E.length + y.f.ents.length ≤ maxLen) := Lib.hid (by unfold maxLen; omega)
              clear hhs hes hR hown hxi hrz hry hryo hHk hyk hlen hyy hymem hH hEE htm hxwo hwi
              obtain ⟨Y, hY⟩ : ∃ Y, Y = y := ⟨_, rfl⟩
              rw [← hY] at HES2 HR HRY HRYO hLF HBY HML
              obtain ⟨yp, yes, ⟨ypath, yid, ytitle, ylink, yupd, yents⟩⟩ := y
              obtain ⟨yA, yc, hyp, _, _⟩ := hyp1
              obtain ⟨yB, yd, hye, _, _⟩ := hyp2
              obtain ⟨zA, zc, hpz, _, _⟩ := hpz'
              obtain ⟨eA, en, ec, hezz⟩ := hez'
              obtain ⟨a0', a1', a2', a3', a4', a5'⟩ := hat
              simp only at hyp hye a0' a1' a2' a3' a4' a5'
              subst hyp hye hpz hezz
              have hi0' : (0 : Int) ≤ (m : Int) := by omega
              have hi1' : (m : Int) < (t.length : Int) := by omega
              have hYents : Y.f.ents = yents := by rw [hY]
              have hYes : Y.es = .slice yB yents.length yd := by rw [hY]
              have hYp : Y.p = .slice yA ypath.length yc := by rw [hY]
              have hYpa : Y.f.path = ypath := by rw [hY]
              have hre2 : RSl wr 5 (.slice yB yents.length yd) Y.f.ents.length (flatE Y.f.ents) := by have := HRY.out.2; rwa [hYes] at this
              have HRE2 := Lib.hid hre2
              have HYP := Lib.hid (And.intro hYp hYpa)
              have HLF := Lib.hid (fun w' hE' hp hy => by
                have := hLF w' hE' hp hy
                rw [hY] at this
                exact this)
              clear hre2 hYes hYents hYp hYpa hLF hY
              unfold cellsC fCells at HLF
              dsimp only at HLF
              go_wp2_with (first
                | (at_builtin; refine wpList_append_rsl _ rfl (.tmp 56) (.tmp 58) _ rfl (wo.heap.size + 1) 23 i1 _ 5 72 Tryz.underlying33 hj0 hy0 hy1 hy2 rfl (by decide) _ _ (flatE E) rfl (HOWN.out.alloc _) _ Y.f.ents.length (flatE Y.f.ents) rfl (HRE2.out.ext ((Ext.refl _).alloc _)) (flatE_one' _) HML.out HBY.out ?_ ?_; (simp; omega); intro v4 w4 hown4 hg4 hat4; (have hx4 := Ext.app (HXI.out.alloc _) hg4 (HOWN.out.alloc _) (by rw [size_alloc]; exact Nat.le_refl _)); (have e0 := hx4.boxed 0 (.slice zA H.path.length zc) rfl); (have e1 := hx4.boxed 1 (.string H.id) rfl); (have e2 := hx4.boxed 2 (.string H.title) rfl); (have e3 := hx4.boxed 3 (.string H.link) rfl); (have e4 := hx4.boxed 4 (.int .i64 H.upd) rfl); (have e5 := hx4.boxed 5 (.slice eA en ec) rfl); (have yk : ∀ (i : Nat) (v : Value), (#[.slice yA ypath.length yc, .string yid, .string ytitle, .string ylink, .int .i64 yupd, .slice yB yents.length yd] : Array Value)[i]? = some v → w4.cell? ⟨wr.heap.size, i, none⟩ = some v := fun i v hv => hg4.cell (Ext.boxed (t := 35) (fr := (0, 0)) (Ext.refl _) i v hv) (fun e => absurd (HOWN.out.lt _ e.symm).2 (Nat.lt_irrefl _))); (have y0 := yk 0 _ rfl); (have y1 := yk 1 _ rfl); (have y2 := yk 2 _ rfl); (have y3 := yk 3 _ rfl); (have y4 := yk 4 _ rfl); (have y5 := yk 5 _ rfl); (clear yk))
                | (refine wpList_store_row rfl 35 (.tmp 12) (.tmp 62) rfl wo.heap.size _ rfl rfl _ _ hb5 size_fd rfl oneF ?_)
                | (go_at_call 59; (have hy4 : RdC w4 Y := (HRY.out.ext ((Ext.refl _).alloc _)).grown hg4 (awayC_row HRYO.out fun q hq => by have := (HOWN.out.lt q hq).1; omega)); (have hz4 : RStrs w4 (.slice zA H.path.length zc) H.path := RSl.grown (HRZ.out.ext ((Ext.refl _).alloc _)) hg4 (hawz.out.imp (fun e => by rw [e]; rfl) fun e => e)); (have hz := HLF.out w4 (hEw.ext (((Ext.refl _).alloc _).trans hx4)) hz4 hy4.1); (with_reducible refine Calls.mono hz ?_); clear hz; rintro e w5 ⟨p5, rfl, hown5, hx5⟩; (obtain ⟨A5, cc5, hp5⟩ : ∃ A c, p5 = .slice A R.path.length c := (by obtain ⟨A, c, e, _⟩ := (RSl.of_own hown5).2; exact ⟨A, c, e⟩)); subst hp5; (have hb5 := (hx4.trans hx5).heap (heap_alloc_new wo _))))
              go_roundw
              case rel =>
                have hb1 := hown5.lt
                have hs4 := hg4.size
                rw [size_alloc] at hs4
                refine ⟨m + 1, .slice A5 R.path.length cc5, .slice none 0 0, hmt, by go_num, ?_, ?_, ?_, ⟨_, _, _, rfl⟩, Lib.hid ?_, Lib.hid ?_⟩
                · rw [HHS.out]; exact ext_setBox (hx4.trans hx5)
                · rw [HES2.out, List.length_append, flatE_app]; exact own_setRow (own_ext hown4 hx5) (Nat.lt_succ_self _) _
                · rw [HHS.out]; exact RSl.grown (RSl.of_own hown5) (setRow_grown _ _ _) (Or.inr fun e => by have := (hb1 _ e).1; omega)
                · rw [HHS.out]
                  rcases hown5.2 with ⟨h1, h2⟩ | ⟨q, cap, cur, h1, h2, _⟩
                  · exact Or.inl (List.eq_nil_of_length_eq_zero h2)
                  · refine Or.inr fun e => ?_
                    have e2 : (Value.slice A5 R.path.length cc5).ownBlock = some q := by rw [h1]; rfl
                    rw [e2] at e
                    have := (hown4.lt q e.symm).2
                    omega
                · rw [HHS.out]
                  refine Or.inr fun q hq => Or.inr ?_
                  have := (hb1 q hq).1
                  omega
              case measure => simp [intOf]; omega
            · have hme : m = t.length := by omega
              subst hme
              rw [List.take_of_length_le (Nat.le_refl _)] at hxi hown hrz hawz hbz
              have hHk : fok (hdF X t) := hdF_fok X _ (HKS.out X (HSUB.out X (by simp))).1 fun y hy => (HKS.out y (HSUB.out y (List.mem_cons_of_mem _ hy))).1
              have hEk : ∀ e ∈ enF X t, eok e := enF_eok (HKS.out X (HSUB.out X (by simp))).2.2 fun y hy => (HKS.out y (HSUB.out y (List.mem_cons_of_mem _ hy))).2.2
              have htk := HTK.out
              obtain ⟨H, hH⟩ : ∃ H, hdF X t = H := ⟨_, rfl⟩
              obtain ⟨E, hEE⟩ : ∃ E, enF X t = E := ⟨_, rfl⟩
              rw [hH] at hxi hrz hawz hbz hHk
              rw [hEE] at hown hEk hen2
              rw [hH, hEE] at htk
              have HTK2 := Lib.hid htk
              clear htk hH hEE
              obtain ⟨zA, zc, hpz, _, _⟩ := hrz.form
              obtain ⟨eA, en, ec, hezz⟩ := hez
              subst hpz hezz
              have HCB := Lib.hid (combine_any _ E wr (hE.ext (HXW.out.trans ((HXR.out o wo HXO.out).trans hxwo))) (RSl.of_own hown) hEk hen2)
              have hrsl : rs.length = k := by
                have := congrArg List.length hrs.out
                rw [List.length_map, List.length_map, List.length_take] at this
                have := HGL.out
                omega
              have HBY : Hid ((rs.length + 1) * 104 ≤ 140737488355328) := Lib.hid (by omega)
              have HML : Hid (rs.length + 1 ≤ maxLen) := Lib.hid (by unfold maxLen; omega)
              have HRSL := Lib.hid hrsl
              clear hrsl
              have HXI := Lib.hid hxi
              have HXWO := Lib.hid hxwo
              have HRZ := Lib.hid hrz
              have hab2 : wA.heap.size < wo.heap.size := by omega
              obtain ⟨oA, oc, hoo, _, _⟩ := HH.out.row.reads.form
              subst hoo
              have HHK := Lib.hid hHk
              clear hxi hxwo hrz hEk hen2 hown hHk
              have hne5 : wA.heap.size ≠ wo.heap.size := by omega
              go_wp2_with (first
                | (go_at_call 52; (have hz := HCB.out); (with_reducible refine Calls.mono hz ?_); clear hz; rintro e w5 ⟨es', rfl, hown5, hx5⟩; (obtain ⟨wAA, wcc, hze, _, _⟩ := hown5.reads.form); subst hze; (have hxi5 := HXI.out.trans hx5); (have e0 := hxi5.boxed 0 (.slice zA H.path.length zc) rfl); (have e1 := hxi5.boxed 1 (.string H.id) rfl); (have e2 := hxi5.boxed 2 (.string H.title) rfl); (have e3 := hxi5.boxed 3 (.string H.link) rfl); (have e4 := hxi5.boxed 4 (.int .i64 H.upd) rfl); (have e5 := hxi5.boxed 5 (.slice eA en ec) rfl); (have f5 := hxi5.boxedF 5); (have ca := HCELL.out _ w5 (HXO.out.trans (HXWO.out.trans hx5))); (obtain ⟨ca1, ca2⟩ := ca); (have hxo6 : Ext wo (w5.setCell ⟨wo.heap.size, 5, none⟩ (.slice wAA (ordE.canon E).length wcc)) := Ext.setCell (HXWO.out.trans hx5) (Nat.le_refl _) _); (have hs6 := hxo6.size))
                | (at_builtin; refine wpList_append_rsl _ rfl (.tmp 68) (.tmp 70) _ rfl w1.heap.size 35 i0 _ 6 104 Tryz.underlying37 hi0 hz0 hz1 hz2 rfl (by decide) _ rs.length (flatC rs) rfl ((own_ext HH.out.row hxo6).alloc _) _ 1 (cellsC ⟨.slice zA H.path.length zc, .slice wAA (ordE.canon E).length wcc, withE H (ordE.canon E)⟩) rfl (rsl_block (e := 35) (fr := (0, 0)) (cs := cellsC ⟨.slice zA H.path.length zc, .slice wAA (ordE.canon E).length wcc, withE H (ordE.canon E)⟩) (heap_set_new _ _ _ _) rfl (by decide)) (cellsC_one ⟨⟨_, _, _, rfl⟩, ⟨_, _, _, rfl⟩⟩) HML.out HBY.out ?_ ?_; (simp [World.setCell] at hs6 ⊢; omega); intro v7 w7 hown7 hg7 hat7; (obtain ⟨g7, cap7, hv7, _⟩ := World.ownsRow.form hown7 (Nat.succ_pos _)); subst hv7; (have c6 := HCELL.out _ _ (HXO.out.trans (hxo6.alloc (.cells (cellsC ⟨.slice zA H.path.length zc, .slice wAA (ordE.canon E).length wcc, withE H (ordE.canon E)⟩).toArray 35)))); (have hno : some wA.heap.size ≠ (Value.slice oA rs.length oc).ownBlock := fun e => by have := (HH.out.row.lt _ e.symm).1; omega); (have c7 := hg7.cell c6.1 hno); (have f7 := (World.frozen?_of_block (a := ⟨wA.heap.size, 0, none⟩) (hg7.block wA.heap.size (by have := hab2; simp [World.setCell] at hs6 ⊢; omega) hno)).trans c6.2)))
              go_roundw
              case rel =>
                have hst5 : RStrs w5 (.slice zA H.path.length zc) H.path := HRZ.out.ext hx5
                obtain ⟨Y, hY⟩ : ∃ Y : Fc, Y = ⟨.slice zA H.path.length zc, .slice wAA (ordE.canon E).length wcc, withE H (ordE.canon E)⟩ := ⟨_, rfl⟩
                have hyrd5 : RdC w5 Y := by rw [hY]; exact ⟨hst5, hown5.reads⟩
                have hlt5 := hown5.lt
                have hw0 := HXW.out.size
                have hyaw : ∀ q, (q = w.heap.size ∨ wA.heap.size ≤ q) → q ≤ wo.heap.size → awayC Y (some q) := by
                  intro q h1 h2
                  rw [hY]
                  refine ⟨?_, Or.inr fun e => ?_⟩
                  · rcases hbz.out with h | h
                    · exact Or.inl h
                    · refine Or.inr fun e => ?_
                      rcases h q e with ⟨h3, h4⟩ | h3
                      · rcases h1 with h1 | h1
                        · exact h4 h1
                        · omega
                      · omega
                  · have := (hlt5 q e).1
                    omega
                have hyrd6 := hyrd5.grown (setCell_grown w5 ⟨wo.heap.size, 5, none⟩ (.slice wAA (ordE.canon E).length wcc)) (hyaw wo.heap.size (Or.inr (by omega)) (Nat.le_refl _))
                have hyaw2 : awayC Y (Value.slice oA rs.length oc).ownBlock := awayC_opt hyrd5 fun q hq => hyaw q (Or.inr (by have := (HH.out.row.lt q hq).1; omega)) (by have := (HH.out.row.lt q hq).2; omega)
                have hS := HFs.snoc (x := Y) (HH.out.ext (hxo6.alloc _)) (hyrd6.ext ((Ext.refl _).alloc _)) hyaw2 (by rw [hY]; exact hown7) hg7 hat7
                have hall : ∀ z ∈ rs ++ [Y], awayC z (some wA.heap.size) ∧ awayC z (some w.heap.size) ∧ fok z.f := by
                  intro z hz
                  rcases List.mem_append.1 hz with hz | hz
                  · exact haw.out z hz
                  · rw [List.mem_singleton.1 hz]
                    exact ⟨hyaw _ (Or.inr (Nat.le_refl _)) (by omega), hyaw _ (Or.inl rfl) (by omega), by rw [hY]; exact HHK.out⟩
                refine ⟨k + 1, .slice (some ⟨g7, 0, none⟩) (rs.length + 1) cap7, rs ++ [Y], hlt, by go_num, HFs.setCell hS hab (fun z hz => (hall z hz).1), Lib.hid ?_, Lib.hid hall, ext_setCell2 (Ext.app (HXO.out.trans (hxo6.alloc _)) hg7 (own_ext HH.out.row (hxo6.alloc _)) (by rw [HSZ.out]; exact Nat.le_refl _))⟩
                rw [HTK2.out, List.map_append, hrs.out, List.map_cons, List.map_nil, hY]
              case measure => simp [intOf]; omega
        · have hke : k = gv.length := by omega
          subst hke
          have hjm : ((firstsC lc).take gv.length).map (jF (lc.map Fc.f)) = ordF.joined (lc.map Fc.f) := by
            rw [List.take_of_length_le (by rw [HGL.out]; exact Nat.le_refl _), joinedF_map]
            rfl
          have hrsl : rs.length ≤ 1000000 := by
            have := congrArg List.length hrs.out
            rw [List.length_map, List.length_map, List.length_take] at this
            omega
          have HRSJ := Lib.hid (hrs.out.trans hjm)
          have HSR := Lib.hid (sortF_any o rs wr w1.heap.size hH (fun y hy => by have := (haw.out y hy).2.2.2; omega) hrsl)
          obtain ⟨oA, oc, hoo, _, _⟩ := hH.row.reads.form
          subst hoo
          obtain ⟨ca1, ca2⟩ := HCELL.out _ wr hx
          have hxwr := HXR.out _ wr hx
          have hz0 := (HX.out.trans hxwr).heap (heap_alloc_new w _)
          have hw0 := HXW.out.size
          have hlt0 := hH.row.lt
          have hno : some wA.heap.size ≠ (Value.slice oA rs.length oc).ownBlock := fun e => by have := (hlt0 _ e.symm).1; omega
          have hno2 : some w.heap.size ≠ (Value.slice oA rs.length oc).ownBlock := fun e => by have := (hlt0 _ e.symm).1; omega
          have hwr0 := hxwr.size
          have HLT0 := Lib.hid hlt0
          have HXWR := Lib.hid hxwr
          have hlw : w.heap.size < wr.heap.size := by have := HX.out.size; rw [size_alloc] at this; omega
          clear hjm hrsl hrs hH hx hxwr hlt0
          go_wp2_with (first
            | (go_at_call 60; (have hz := HSR.out); (with_reducible refine Calls.mono hz ?_); clear hz; rintro e w9 ⟨rfl, l', hp, hs, hH9, hgr⟩; (have c9 := hgr.cell ca1 hno); (have z9 := (hgr.block w.heap.size hlw hno2).trans hz0))
            | (refine wpList_store_row rfl 46 (.tmp 2) (.tmp 77) rfl w.heap.size _ rfl rfl _ _ z9 size_arc rfl oneArc ?_))
          ((try simp only [Exit.inBlock, Exit.then]); refine bodyPost_ret (results_cell_row2 rfl _ _ _ _ #[.slice oA rs.length oc] _ _ rfl (setRow_heap _ _ _ #[.slice oA rs.length oc] _ _ z9) Tryz.underlying46 rfl size_arc) rfl ?_)
          refine ⟨.slice oA rs.length oc, l', rfl, ?_, HFs.setRow hH9 (by omega) (by omega) (fun z hz => (haw.out z (hp.mem_iff.1 hz)).2.1) _, ?_⟩
          · exact ordF.sorted_joined (lc.map Fc.f) (l'.map Fc.f) (by rw [← HRSJ.out]; exact hp.map _) (List.pairwise_map.2 hs)
          · exact (Ext.grown' (B := 0) (HXW.out.trans HXWR.out) hgr fun q hq => by have := (HLT0.out q hq).1; omega).setRow (Nat.le_refl _) _
end Go.Proofs.YtgecijhgonfldaaGreatDoor
