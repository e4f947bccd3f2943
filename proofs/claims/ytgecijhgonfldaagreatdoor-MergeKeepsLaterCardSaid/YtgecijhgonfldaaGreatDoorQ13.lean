/- Parts of the proof: contracts and plain laws that the statement needs. -/
import Derived.Deep.RegionLaw
import Derived.Test.YtgecijhgonfldaaGreatDoorQ12
import Derived.Test.YtgecijhgonfldaaGreatDoorQ07
namespace Go.Proofs.YtgecijhgonfldaaGreatDoor
open Go Go.RowKit Go.WideMaps Go.Maps
set_option linter.unusedVariables false
theorem entID_any (e : Ent) (w : World) : Calls Tryz.prog 79 #[.agg (eCells e).toArray] w fun x w' => x = .returned (.string e.id) ∧ Ext w w' := by
  unfold eCells
  go_enter Tryz.func79, Tryz.ntmps79
  go_wp2
  go_ret
  exact ⟨rfl, (Ext.refl _).alloc _⟩
theorem keyLaw : Keyed Tryz.prog 9 := string_keyed Tryz.underlying9
theorem zeroInt (w : World) : (zeroValue 3).run Tryz.prog w = .ok (.int .i64 0) w := by kernel_rfl
theorem info_row : (Tryz.prog.info? 33).map (fun i => (i.zero, i.size, i.bytes)) = some (some (.slice none 0 0), 1, 24) := by kernel_rfl
theorem firsts_len (l : List Ent) : (ordE.firsts l).length ≤ l.length := by
  suffices h : ∀ (n : Nat) (l : List Ent), l.length = n → (ordE.firsts l).length ≤ l.length from h _ l rfl
  intro n
  induction n with
  | zero => intro l hl; rw [List.eq_nil_of_length_eq_zero hl]; exact Nat.le_refl _
  | succ n ih =>
    intro l hl
    obtain ⟨l', e, rfl⟩ : ∃ l' e, l = l' ++ [e] := by
      rcases List.eq_nil_or_concat l with h | ⟨l', e, h⟩
      · subst h; simp at hl
      · exact ⟨l', e, by simpa using h⟩
    have := ih l' (by simpa using hl)
    rw [ordE.firsts_snoc]
    split <;> simp <;> omega
theorem grp_len (l : List Ent) (s : ByteArray) : (grp l s).length ≤ l.length := List.length_filter_le _ _
theorem own_mono {w : World} {B B' : Nat} {e : TypeId} {size n : Nat} {v : Value} {xs : List Value} (h : w.ownsRow B e size v n xs) (hB : B' ≤ B) : w.ownsRow B' e size v n xs := by
  refine ⟨h.1, ?_⟩
  rcases h.2 with h2 | ⟨g, cap, cur, h1, h2, h3⟩
  · exact Or.inl h2
  · exact Or.inr ⟨g, cap, cur, h1, Nat.le_trans hB h2, h3⟩
theorem Grps.grow' {w0 w1 w w2 : World} {B g cap : Nat} {l : List Ent} {fs : List ByteArray} {gv : List Value} {x : Ent} {i : Nat} {u u' : Value} {s : ByteArray}
    (h : Grps w1 B (.slice (some ⟨g, 0, none⟩) gv.length cap) l fs gv) (_hx0 : Ext w0 w1) (hx : Ext w1 w) (hnd : fs.Pairwise (· ≠ ·)) (hi : fs[i]? = some s) (hu : gv[i]? = some u) (hxs : ordE.id x = s)
    (hown : w2.ownsRow B 23 5 u' ((grp l s).length + 1) (flatE (grp l s) ++ eCells x)) (hg : w.grownBy w2 u.ownBlock) (hat : u'.ownBlock = u.ownBlock ∨ u'.ownBlock = some w.heap.size) (hne : u.ownBlock ≠ some g) :
    w2.cell? ⟨g, i, none⟩ = some u ∧ w2.frozen? ⟨g, i, none⟩ = false ∧ Grps (w2.setCell ⟨g, i, none⟩ u') B (.slice (some ⟨g, 0, none⟩) gv.length cap) (l ++ [x]) fs (gv.set i u') := by
  have hw := h.ext hx
  have hrow := hw.row.kept hg (Or.inr fun e => hne e.symm)
  have hil : i < gv.length := (List.getElem?_eq_some_iff.1 hu).1
  refine ⟨by rw [hrow.cellAt i (by omega)]; exact hu, hrow.frozenAt i, hw.grow hnd hi hu hxs hown hg ?_ hne⟩
  rcases hat with e | e
  · exact Or.inl e
  · exact Or.inr ⟨_, Nat.le_refl _, e⟩
set_option maxRecDepth 100000 in
set_option maxHeartbeats 2000000 in
theorem groupsE_any (v : Value) (l : List Ent) (w : World) (h : REnts w v l) (hsz : ∀ x ∈ l, x.id.size ≤ 16777216) (hn : l.length ≤ 1000000) :
    Calls Tryz.prog 78 #[v, .func (.func 79) #[] #[]] w fun x w' => ∃ v' gv, x = .returned v' ∧ Grps w' w.heap.size v' l (ordE.firsts l) gv ∧ Ext w w' := by
  obtain ⟨i0, hi0, hz0, hz1, hz2⟩ := info_parts info_ent
  obtain ⟨i1, hj0, hy0, hy1, hy2⟩ := info_parts info_row
  obtain ⟨A, c, rfl, hlc, hcm⟩ := h.form
  have hmm := @run_makeMap Tryz.prog
  have HSZ := Lib.hid hsz
  clear hlc hcm hsz
  go_enter Tryz.func78, Tryz.ntmps78
  go_wp2
  go_loopw [6, 14] (fun o i wr => ∃ (k : Nat) (gv : List Value) (D : DataW Unit), k ≤ l.length ∧ i = .int .i64 k ∧ Grps wr (w.heap.size + 1) o (l.take k) (ordE.firsts (l.take k)) gv ∧ wr.ownsMap Tryz.prog 9 (plainElem Tryz.prog 3) w.heap.size k D ∧ Hid (IdxMap D (ordE.firsts (l.take k))) ∧ Ext w wr ∧ w.heap.size + 1 ≤ wr.heap.size) (fun _ i _ => l.length - (intOf i).toNat)
  case atStart => exact ⟨0, [], .map [], Nat.zero_le _, rfl, Grps.nil _ _, World.ownsMap_made _ _ _ _, IdxMap.nil, (Ext.refl _).alloc _, by simp⟩
  case round =>
    obtain ⟨k, gv, D, hk, rfl, hG, hM, hD, hx, hws⟩ := hrel
    by_cases hlt : k < l.length
    · obtain ⟨ad, c', hv, hat⟩ := (h.ext hx).at hlt
      injection hv with hv1 hv2 hv3
      subst hv1
      clear hv2 hv3
      have hxs := HSZ.out l[k] (List.getElem_mem hlt)
      have htk := List.take_succ_eq_append_getElem hlt
      have hfn := ordE.firsts_snoc (l.take k) l[k]
      rw [← htk] at hfn
      have hfl := firsts_len (l.take k)
      rw [List.length_take] at hfl
      have hgl := hG.len
      have hnd := ordE.firsts_nodup (l.take k)
      obtain ⟨x, hxx⟩ : ∃ x, l[k] = x := ⟨_, rfl⟩
      rw [hxx] at hat hxs htk hfn
      have HTK := Lib.hid htk
      have HFN := Lib.hid hfn
      clear htk hfn hxx
      have hgrl := grp_len (l.take k) x.id
      rw [List.length_take] at hgrl
      have hkey : keyOf Tryz.prog 9 (.string x.id) = some (.string x.id.data.toList) := keyOf_string_mk Tryz.underlying9 (by unfold maxLen; omega)
      have HID := Lib.hid (fun w' => entID_any x w')
      have hi0' : (0 : Int) ≤ (k : Int) := by omega
      have hi1 : (k : Int) < (l.length : Int) := by omega
      have hDx := hD.out.2 x.id
      obtain ⟨a0, a1, a2, a3, a4⟩ := hat
      by_cases hmem : x.id ∈ ordE.firsts (l.take k)
      · have hhas : Maps.has D (.string x.id.data.toList) = true := hDx.1.2 hmem
        obtain ⟨j, hj⟩ := List.mem_iff_getElem?.1 hmem
        have hjd := hDx.2 j hj
        have hjl : j < gv.length := by rw [hgl]; exact (List.getElem?_eq_some_iff.1 hj).1
        have HJD := Lib.hid hjd
        have HHAS := Lib.hid hhas
        have HMEM := Lib.hid hmem
        obtain ⟨g, cap, ho, hcap⟩ : ∃ g cap, (_ : Value) = .slice (some ⟨g, 0, none⟩) gv.length cap ∧ gv.length ≤ maxLen := by
          rcases hG.row.2 with ⟨h1, h2⟩ | ⟨g, cap, cur, h1, _, _, h4, h5, _⟩
          · omega
          · exact ⟨g, cap, h1, Nat.le_trans h4 h5⟩
        subst ho
        obtain ⟨u, hu⟩ : ∃ u, gv[j]? = some u := ⟨_, List.getElem?_eq_getElem hjl⟩
        have hou := hG.each j x.id u hj hu
        have hgc : wr.cell? ⟨g, j, none⟩ = some u := by rw [hG.row.cellAt j (by omega)]; exact hu
        have hgf := hG.row.frozenAt j
        have hgB := hG.row.lt g rfl
        have hune : u.ownBlock ≠ some g := by
          intro e
          rcases hou.2 with ⟨rfl, _⟩ | ⟨b', c', cur', rfl, _, hb', _⟩
          · cases e
          · rcases hG.row.2 with ⟨h2, _⟩ | ⟨g', c'', cur'', h2, _, hg', _⟩
            · cases h2
            · cases h2
              cases e
              rw [hb'] at hg'
              simp at hg'
        have huM : u.ownBlock ≠ some w.heap.size := by
          intro e
          have := (hou.lt _ e).1
          omega
        have HOU := Lib.hid hou
        have HHU := Lib.hid hu
        have HHJ := Lib.hid hj
        have HUN := Lib.hid hune
        have HUM := Lib.hid huM
        have HGB := Lib.hid hgB
        have hjl' : (j : Int) < (gv.length : Int) := by omega
        have hj0' : (0 : Int) ≤ (j : Int) := by omega
        have HBY : Hid (((grp (l.take k) x.id).length + 1) * 72 ≤ 140737488355328) := Lib.hid (by omega)
        have HML : Hid ((grp (l.take k) x.id).length + 1 ≤ maxLen) := Lib.hid (by unfold maxLen; omega)
        have hgl' : gv.length ≤ 9223372036854775807 := by omega
        have HGL := Lib.hid hgl
        have HCAP := Lib.hid hcap
        clear hjd hhas hmem hDx hou hu hj hune huM hgB hgl hcap hjl hgrl hfl
        obtain ⟨xid, xtitle, xlink, xcontent, xupd⟩ := x
        simp only at a0 a1 a2 a3 a4 hkey
        unfold eCells at HID
        dsimp only at HID
        go_wp2_with (first
          | (go_at_call 79; refine (HID.out _).mono ?_; rintro e w2 ⟨rfl, hx2⟩; (have e0 := hx2.boxed 0 _ rfl); (have e1 := hx2.boxed 1 _ rfl); (have e2 := hx2.boxed 2 _ rfl); (have e3 := hx2.boxed 3 _ rfl); (have e4 := hx2.boxed 4 _ rfl); (have hxa := (((Ext.refl wr).alloc _).trans hx2)); (have hgc2 := hxa.cell hgc); (have hgf2 := (Below.frozen hxa HGB.out.2).trans hgf))
          | (at_lookup; refine wpList_lookup_own_ok_int _ rfl (.tmp 19) (.tmp 22) _ rfl 9 3 .i64 keyLaw Tryz.underlying114 Tryz.underlying3 (zeroInt _) w.heap.size k D rfl ((hM.kept (((Ext.refl wr).alloc _).grown none) (by simp)).kept (hx2.grown none) (by simp)) _ _ rfl hkey ?_; intro c hat hwc; (have hcj : c = (j : Int) := by (have e := HJD.out.symm.trans hat; injection e with e; injection e with _ e; exact e.symm)); rw [HHAS.out, hcj]; clear hat hwc hcj c))
        have HXA := Lib.hid hxa
        have HG2 := Lib.hid (hG.ext hxa)
        have HM2 := Lib.hid (hM.kept (hxa.grown none) (by simp))
        have HOU2 := Lib.hid (OEnts.ext HOU.out hxa)
        have HXW := Lib.hid (hx.trans hxa)
        have HWS := Lib.hid (Nat.le_trans hws hxa.size)
        have HND := Lib.hid hnd
        clear hG hM hkey a0 a1 a2 a3 a4 hgc hgf hx2 hnd
        have hgw2 : g < w2.heap.size := World.block_lt_of_cell? w2 _ hgc2
        have hbw2 : wr.heap.size < w2.heap.size := World.block_lt_of_cell? w2 _ e0
        go_region_law (first
          | (refine step_append_rsl _ (by rfl) (.tmp 43) (.tmp 45) _ (by rfl) (w.heap.size + 1) 23 i0 _ 5 72 Tryz.underlying33 hi0 hz0 hz1 hz2 rfl (by decide) u (grp (l.take k) xid).length (flatE (grp (l.take k) xid)) (by rfl) (own_ext HOU2.out (by repeat (first | exact Ext.refl _ | apply Ext.drew | apply Ext.alloc))) _ 1 (eCells ⟨xid, xtitle, xlink, xcontent, xupd⟩) (by rfl) (RSl.ext (rsl_new rfl (by decide)) (by repeat (first | exact Ext.refl _ | apply Ext.drew))) (eCells_one _) HML.out HBY.out (Nat.le_trans HWS.out (by simp)) ?_; intro v3 w3 hown3 hg3 hat3; (obtain ⟨g3, cap3, hv3, hb3⟩ : ∃ g3 cap3, v3 = .slice (some ⟨g3, 0, none⟩) ((grp (l.take k) xid).length + 1) cap3 ∧ True := by (obtain ⟨g3, cap3, hv3, _⟩ := hown3.form (by omega); exact ⟨g3, cap3, hv3, trivial⟩)); subst hv3; (have hgr := Grps.grow' HG2.out (Ext.refl _) (by repeat (first | exact Ext.refl _ | apply Ext.drew | apply Ext.alloc)) HND.out HHJ.out HHU.out rfl hown3 hg3 hat3 HUN.out); (have hgc3 := hgr.1); (have hgf3 := hgr.2.1); (have hm3 := (HM2.out.kept ((show Ext w2 _ from by repeat (first | exact Ext.refl _ | apply Ext.drew | apply Ext.alloc)).grown none) (by simp)).kept hg3 (fun e => HUM.out e.symm)); (have hx3 : Ext w w3 := Ext.grown' (B := 0) (Ext.trans HXW.out (by repeat (first | exact Ext.refl _ | apply Ext.drew | apply Ext.alloc))) hg3 (fun b hb => Nat.le_trans (Nat.le_succ _) (HOU2.out.lt b hb).1))))
        all_goals
          have hgr3 := hgr.2.2
          have HGR := Lib.hid hgr3
          have HM3 := Lib.hid (hm3.setCell (a := ⟨g, j, none⟩) (show w.heap.size ≠ g by have := HGB.out.1; omega) (.slice (some ⟨g3, 0, none⟩) ((grp (l.take k) xid).length + 1) cap3))
          have HX3 := Lib.hid (hx3.setCell (p := ⟨g, j, none⟩) (show w.heap.size ≤ g by have := HGB.out.1; omega) (.slice (some ⟨g3, 0, none⟩) ((grp (l.take k) xid).length + 1) cap3))
          clear hgr hgr3 hm3 hx3 hown3 hg3 hat3 hgc3 hgf3 e0 e1 e2 e3 e4 hgc2 hgf2 hxa
          go_wp2
          go_roundw
          case rel =>
            have hfm : ordE.firsts (l.take (k + 1)) = ordE.firsts (l.take k) := HFN.out.trans (if_pos HMEM.out)
            exact ⟨k + 1, gv.set j _, D, hlt, by go_num, by rw [hfm, HTK.out]; exact HGR.out, HM3.out.mono (Nat.le_succ _), by rw [hfm]; exact hD, HX3.out, HM3.out.lt⟩
          case measure => simp [intOf]; omega
      · have hhas : Maps.has D (.string x.id.data.toList) = false := by
          cases hb : Maps.has D (.string x.id.data.toList) with
          | false => rfl
          | true => exact absurd (hDx.1.1 hb) hmem
        have hput := hD.out.put (s := x.id) hmem
        rw [← hgl] at hput
        have HPUT := Lib.hid hput
        have HHAS := Lib.hid hhas
        have HMEM := Lib.hid hmem
        have HNEW := Lib.hid (mem_grp_new hmem)
        have HGL := Lib.hid hgl
        have hwf : (Lit.int .i64 (gv.length : Nat)).wf = true := by
          simp only [Lit.wf, IntKind.min, IntKind.max, Bool.and_eq_true]
          simp [IntKind.signed, IntKind.bits]
          omega
        have HWF := Lib.hid hwf
        have hbx0 := heap_alloc_new wr (.cells (eCells x).toArray 23)
        have HBX := Lib.hid hbx0
        have HBYR : Hid ((gv.length + 1) * 24 ≤ 140737488355328) := Lib.hid (by omega)
        have HMLR : Hid (gv.length + 1 ≤ maxLen) := Lib.hid (by unfold maxLen; omega)
        have HKL : Hid (k < maxLen) := Lib.hid (by unfold maxLen; omega)
        have hgl' : gv.length ≤ 9223372036854775806 := by omega
        clear hhas hmem hput hwf hbx0 hDx hfl hgrl hgl
        obtain ⟨xid, xtitle, xlink, xcontent, xupd⟩ := x
        simp only at a0 a1 a2 a3 a4 hkey
        unfold eCells at HID HBX
        dsimp only at HID HBX
        obtain ⟨gA, gC, ho⟩ := hG.form
        subst ho
        have tok1 : True := trivial
        go_wp2_with (first
          | (clear tok1; go_at_call 79; refine (HID.out _).mono ?_; rintro e w2 ⟨rfl, hx2⟩; (have hb2 := hx2.heap HBX.out); (obtain ⟨e0, e1, e2, e3, e4⟩ := blk5 hb2); (have hxa := (((Ext.refl wr).alloc _).trans hx2)))
          | (at_lookup; refine wpList_lookup_own_ok_int _ rfl (.tmp 19) (.tmp 22) _ rfl 9 3 .i64 keyLaw Tryz.underlying114 Tryz.underlying3 (zeroInt _) w.heap.size k D rfl ((hM.kept (((Ext.refl wr).alloc _).grown none) (by simp)).kept (hx2.grown none) (by simp)) _ _ rfl hkey ?_; intro c hat hwc; rw [HHAS.out]; clear hat hwc)
          | (go_at_call 79; refine (HID.out _).mono ?_; rintro e w4 ⟨rfl, hx4⟩; (have hb4 := hx4.heap hb2); (have hxb := hxa.trans hx4))
          | (at_mapUpdate; refine wpList_mapUpdate_own _ rfl (.tmp 30) (.tmp 33) (.tmp 34) 114 rfl 9 3 keyLaw Tryz.underlying114 _ w.heap.size k D rfl (hM.kept (hxb.grown none) (by simp)) HKL.out _ _ _ rfl rfl hkey _ [] (plainElem_int Tryz.underlying3 HWF.out) ?_; intro w5 hM5 hg5)
          | (at_builtin; refine wpList_append_rsl _ rfl (.tmp 35) (.tmp 36) _ rfl (w.heap.size + 1) 33 i1 _ 1 24 Tryz.underlying110 hj0 hy0 hy1 hy2 rfl (by decide) _ gv.length gv rfl ((((hG.ext hxb).kept hg5 (Nat.lt_succ_self _)).row).alloc _) _ 1 [.slice none 0 0] rfl (rsl_new rfl (by decide)) (by intro y hy; simp at hy; subst hy; rfl) HMLR.out HBYR.out ?_ ?_; (have := hM5.lt; simp; omega); intro v6 w6 hown6 hg6 hat6))
        obtain ⟨g, cap, hv6, hgB1, hgB2⟩ := hown6.form (Nat.succ_pos _)
        subst hv6
        have hxm : Ext w w5 := Ext.grown' (B := 0) (hx.trans hxb) hg5 (fun b hb => by cases hb; exact Nat.le_refl _)
        have hG5 := (hG.ext hxb).kept hg5 (Nat.lt_succ_self _)
        have hlen : gv.length + 1 = (gv ++ [Value.slice none 0 0]).length := by simp
        have hG6 := Grps.more (hG5.ext ((Ext.refl _).alloc _)) HNEW.out hown6 hg6
        rw [hlen] at hG6
        have HG2 := Lib.hid hG6
        have huN : ∀ b, (Value.slice gA gv.length gC).ownBlock = some b → w.heap.size + 1 ≤ b := fun b hb => (hG.row.lt b hb).1
        have HM2 := Lib.hid ((hM5.alloc _).kept hg6 (fun e => by have := huN _ e.symm; omega))
        have HXW := Lib.hid (Ext.grown' (B := 0) (hxm.alloc _) hg6 (fun b hb => Nat.le_trans (Nat.le_succ _) (huN b hb)))
        have hou : OEnts w6 (w.heap.size + 1) (.slice none 0 0) (grp (l.take k) xid) := by rw [HNEW.out]; exact OEnts.nil _ _
        have HOU2 := Lib.hid hou
        have hW6 : w.heap.size + 1 ≤ w6.heap.size := HM2.out.lt
        have HWS := Lib.hid hW6
        have hb5 : w5.heap[wr.heap.size]? = some (.cells #[.string xid, .string xtitle, .string xlink, .string xcontent, .int .i64 xupd] 23) := by
          rw [hg5.block wr.heap.size (World.block_lt_of_cell? w4 ⟨wr.heap.size, 0, none⟩ (by rw [cell_of_row _ _ _ _ _ _ hb4]; rfl)) (by simp; omega)]
          exact hb4
        have hb6 : w6.heap[wr.heap.size]? = some (.cells #[.string xid, .string xtitle, .string xlink, .string xcontent, .int .i64 xupd] 23) := by
          rw [hg6.block wr.heap.size (by have : wr.heap.size < w5.heap.size := World.block_lt_of_cell? w5 ⟨wr.heap.size, 0, none⟩ (by rw [cell_of_row _ _ _ _ _ _ hb5]; rfl); simp; omega) (fun e => by have := (hG.row.lt _ e.symm).2; omega)]
          exact ((Ext.refl w5).alloc _).heap hb5
        have HND : Hid ((ordE.firsts (l.take k) ++ [xid]).Pairwise (· ≠ ·)) := Lib.hid (by
          rw [List.pairwise_append]
          exact ⟨hnd, by simp, fun a ha b hb => by simp at hb; subst hb; rintro rfl; exact HMEM.out ha⟩)
        have HHJ : Hid ((ordE.firsts (l.take k) ++ [xid])[gv.length]? = some xid) := Lib.hid (by rw [HGL.out]; simp)
        have HHU : Hid ((gv ++ [Value.slice none 0 0])[gv.length]? = some (.slice none 0 0)) := Lib.hid (by simp)
        have HUN : Hid ((Value.slice none 0 0).ownBlock ≠ some g) := Lib.hid (by intro e; cases e)
        have HUM : Hid ((Value.slice none 0 0).ownBlock ≠ some w.heap.size) := Lib.hid (by intro e; cases e)
        have HGB := Lib.hid (And.intro hgB1 hgB2)
        have hgc2 : w6.cell? ⟨g, gv.length, none⟩ = some (.slice none 0 0) := by rw [hown6.cellAt gv.length (by omega)]; simp
        have hgf2 : w6.frozen? ⟨g, gv.length, none⟩ = false := hown6.frozenAt gv.length
        have hjl' : (gv.length : Int) < ((gv.length : Nat) : Int) + 1 := by omega
        have hjn' : gv.length < gv.length + 1 := by omega
        have hj0' : (0 : Int) ≤ (gv.length : Int) := by omega
        have HBY : Hid ((grp (l.take k) xid).length + 1 ≤ 1 ∧ True) := Lib.hid ⟨by rw [HNEW.out]; simp, trivial⟩
        have HML : Hid ((grp (l.take k) xid).length + 1 ≤ maxLen) := Lib.hid (Nat.le_trans HBY.out.1 (by decide))
        have HBY2 : Hid (((grp (l.take k) xid).length + 1) * 72 ≤ 140737488355328) := Lib.hid (by have := HBY.out.1; omega)
        clear HBY
        have HBY := HBY2
        have HLEN := Lib.hid hlen
        clear e0 e1 e2 e3 e4
        obtain ⟨e0, e1, e2, e3, e4⟩ := blk5 hb6
        clear hG hG5 hG6 hM hM5 hkey a0 a1 a2 a3 a4 hx2 hx4 hxa hxb hb2 hb4 hb5 hb6 hg5 hg6 hat6 hown6 hxm huN hou hW6 hlen hgB1 hgB2 hnd
        have hgw2 : g < w6.heap.size := World.block_lt_of_cell? w6 _ hgc2
        have hbw2 : wr.heap.size < w6.heap.size := World.block_lt_of_cell? w6 _ e0
        go_region_law (first
          | (refine step_append_rsl _ (by rfl) (.tmp 43) (.tmp 45) _ (by rfl) (w.heap.size + 1) 23 i0 _ 5 72 Tryz.underlying33 hi0 hz0 hz1 hz2 rfl (by decide) (.slice none 0 0) (grp (l.take k) xid).length (flatE (grp (l.take k) xid)) (by rfl) (own_ext HOU2.out (by repeat (first | exact Ext.refl _ | apply Ext.drew | apply Ext.alloc))) _ 1 (eCells ⟨xid, xtitle, xlink, xcontent, xupd⟩) (by rfl) (RSl.ext (rsl_new rfl (by decide)) (by repeat (first | exact Ext.refl _ | apply Ext.drew))) (eCells_one _) HML.out HBY.out (Nat.le_trans HWS.out (by simp)) ?_; intro v3 w3 hown3 hg3 hat3; (obtain ⟨g3, cap3, hv3, hb3⟩ : ∃ g3 cap3, v3 = .slice (some ⟨g3, 0, none⟩) ((grp (l.take k) xid).length + 1) cap3 ∧ True := by (obtain ⟨g3, cap3, hv3, _⟩ := hown3.form (by omega); exact ⟨g3, cap3, hv3, trivial⟩)); subst hv3; (have hgr := Grps.grow' HG2.out (Ext.refl _) (by repeat (first | exact Ext.refl _ | apply Ext.drew | apply Ext.alloc)) HND.out HHJ.out HHU.out rfl hown3 hg3 hat3 HUN.out); (have hgc3 := hgr.1); (have hgf3 := hgr.2.1); (have hm3 := (HM2.out.kept ((show Ext w6 _ from by repeat (first | exact Ext.refl _ | apply Ext.drew | apply Ext.alloc)).grown none) (by simp)).kept hg3 (fun e => HUM.out e.symm)); (have hx3 : Ext w w3 := Ext.grown' (B := 0) (Ext.trans HXW.out (by repeat (first | exact Ext.refl _ | apply Ext.drew | apply Ext.alloc))) hg3 (fun b hb => Nat.le_trans (Nat.le_succ _) (HOU2.out.lt b hb).1))))
        all_goals
          have hgr3 := hgr.2.2
          have HGR := Lib.hid hgr3
          have HM3 := Lib.hid (hm3.setCell (a := ⟨g, gv.length, none⟩) (show w.heap.size ≠ g by have := HGB.out.1; omega) (.slice (some ⟨g3, 0, none⟩) ((grp (l.take k) xid).length + 1) cap3))
          have HX3 := Lib.hid (hx3.setCell (p := ⟨g, gv.length, none⟩) (show w.heap.size ≤ g by have := HGB.out.1; omega) (.slice (some ⟨g3, 0, none⟩) ((grp (l.take k) xid).length + 1) cap3))
          clear hgr hgr3 hm3 hx3 hown3 hg3 hat3 hgc3 hgf3 e0 e1 e2 e3 e4 hgc2 hgf2
          go_wp2
          go_roundw
          case rel =>
            have hfm : ordE.firsts (l.take (k + 1)) = ordE.firsts (l.take k) ++ [xid] := HFN.out.trans (if_neg HMEM.out)
            exact ⟨k + 1, (gv ++ [Value.slice none 0 0]).set gv.length _, D.put (.string xid.data.toList) (.lit (.int .i64 (gv.length : Nat))), hlt, by go_num, by rw [hfm, HTK.out, HLEN.out]; exact HGR.out, HM3.out, by rw [hfm]; exact HPUT.out, HX3.out, HM3.out.lt⟩
          case measure => simp [intOf]; omega
    · have hke : k = l.length := by omega
      subst hke
      rw [List.take_of_length_le (Nat.le_refl _)] at hG hD
      have HG := Lib.hid hG
      clear hG hD hM hk hlt
      go_wp2
      go_ret
      refine ⟨_, gv, rfl, ?_, hx⟩
      have h1 := HG.out
      exact ⟨h1.len, own_mono h1.row (Nat.le_succ _), fun j s u hj hu => (h1.each j s u hj hu).mono (Nat.le_succ _), h1.apart⟩
end Go.Proofs.YtgecijhgonfldaaGreatDoor
namespace Go.Proofs.YtgecijhgonfldaaGreatDoor
open Go Go.RowKit
set_option linter.unusedVariables false
def RStrs (w : World) (v : Value) (l : List ByteArray) : Prop := RSl w 1 v l.length (l.map Value.string)
theorem RStrs.ext {w w' : World} {v : Value} {l : List ByteArray} (h : RStrs w v l) (hx : Ext w w') : RStrs w' v l := RSl.ext h hx
theorem RStrs.form {w : World} {v : Value} {l : List ByteArray} (h : RStrs w v l) : ∃ A c, v = .slice A l.length c ∧ l.length ≤ c ∧ c ≤ maxLen := by
  obtain ⟨_, A, c, e, h1, h2, _⟩ := h
  exact ⟨A, c, e, h1, h2⟩
def fCells (p es : Value) (f : Fd) : List Value := [p, .string f.id, .string f.title, .string f.link, .int .i64 f.upd, es]
def RFd (w : World) (cs : List Value) (f : Fd) : Prop := ∃ p es, cs = fCells p es f ∧ RStrs w p f.path ∧ REnts w es f.ents
theorem RFd.ext {w w' : World} {cs : List Value} {f : Fd} (h : RFd w cs f) (hx : Ext w w') : RFd w' cs f := by
  obtain ⟨p, es, e, h1, h2⟩ := h
  exact ⟨p, es, e, h1.ext hx, h2.ext hx⟩
theorem RFd.len {w : World} {cs : List Value} {f : Fd} (h : RFd w cs f) : cs.length = 6 := by
  obtain ⟨p, es, rfl, _⟩ := h
  rfl
theorem RFd.one {w : World} {cs : List Value} {f : Fd} (h : RFd w cs f) : ∀ u ∈ cs, u.oneCell' = true := by
  obtain ⟨p, es, rfl, h1, h2⟩ := h
  obtain ⟨A, c, rfl, _⟩ := h1.form
  obtain ⟨B, d, rfl, _⟩ := h2.form
  intro u hu
  simp only [fCells, List.mem_cons, List.mem_nil_iff, or_false] at hu
  rcases hu with rfl | rfl | rfl | rfl | rfl | rfl <;> rfl
theorem size_fd : (Tryz.prog.info? 35).map (fun i => i.size) = some 6 := by kernel_rfl
def RFds (w : World) (v : Value) (l : List Fd) (css : List (List Value)) : Prop :=
  css.length = l.length ∧ RSl w 6 v l.length css.flatten ∧ ∀ (i : Nat) (f : Fd) (c : List Value), l[i]? = some f → css[i]? = some c → RFd w c f
theorem RFds.ext {w w' : World} {v : Value} {l : List Fd} {css : List (List Value)} (h : RFds w v l css) (hx : Ext w w') : RFds w' v l css :=
  ⟨h.1, h.2.1.ext hx, fun i f c hf hc => (h.2.2 i f c hf hc).ext hx⟩
theorem RFds.nil (w : World) : RFds w (.slice none 0 0) [] [] := ⟨rfl, RSl.nil w 6, fun i f c hf _ => by simp at hf⟩
theorem RFds.lens {w : World} {v : Value} {l : List Fd} {css : List (List Value)} (h : RFds w v l css) : ∀ c ∈ css, c.length = 6 := by
  intro c hc
  obtain ⟨i, hi⟩ := List.mem_iff_getElem?.1 hc
  have hil : i < l.length := by rw [← h.1]; exact (List.getElem?_eq_some_iff.1 hi).1
  exact (h.2.2 i l[i] c (List.getElem?_eq_getElem hil) hi).len
structure AtFd (w : World) (q : Addr) (p es : Value) (f : Fd) : Prop where
  c0 : w.cell? q = some p
  c1 : w.cell? ⟨q.block, q.off + 1, none⟩ = some (.string f.id)
  c2 : w.cell? ⟨q.block, q.off + 2, none⟩ = some (.string f.title)
  c3 : w.cell? ⟨q.block, q.off + 3, none⟩ = some (.string f.link)
  c4 : w.cell? ⟨q.block, q.off + 4, none⟩ = some (.int .i64 f.upd)
  c5 : w.cell? ⟨q.block, q.off + 5, none⟩ = some es
  path : RStrs w p f.path
  ents : REnts w es f.ents
theorem AtFd.ext {w w' : World} {q : Addr} {p es : Value} {f : Fd} (h : AtFd w q p es f) (hx : Ext w w') : AtFd w' q p es f :=
  ⟨hx.cell h.c0, hx.cell h.c1, hx.cell h.c2, hx.cell h.c3, hx.cell h.c4, hx.cell h.c5, h.path.ext hx, h.ents.ext hx⟩
theorem RFds.at {w : World} {v : Value} {l : List Fd} {css : List (List Value)} (h : RFds w v l css) {k : Nat} (hk : k < l.length) :
    ∃ ad c p es, v = .slice (some ad) l.length c ∧ css[k]? = some (fCells p es l[k]) ∧ AtFd w (ad.add (k * 6)) p es l[k] := by
  have hkc : k < css.length := by rw [h.1]; exact hk
  obtain ⟨p, es, e0, h1, h2⟩ := h.2.2 k l[k] css[k] (List.getElem?_eq_getElem hk) (List.getElem?_eq_getElem hkc)
  have hck : css[k]? = some (fCells p es l[k]) := by rw [List.getElem?_eq_getElem hkc, e0]
  obtain ⟨ad, c, e, hc⟩ := RSl.elem (k := 6) h.2.1 (by decide) h.lens k _ hck
  rw [Nat.mul_comm] at hc
  have hadd : ∀ i, 0 < i → (ad.add (k * 6)).add i = ⟨(ad.add (k * 6)).block, (ad.add (k * 6)).off + i, none⟩ := fun i hi => if_neg (by omega)
  refine ⟨ad, c, p, es, e, hck, ?_, ?_, ?_, ?_, ?_, ?_, h1, h2⟩
  · have := hc 0 _ rfl; rwa [add_zero] at this
  · have := hc 1 _ rfl; rwa [hadd _ (by decide)] at this
  · have := hc 2 _ rfl; rwa [hadd _ (by decide)] at this
  · have := hc 3 _ rfl; rwa [hadd _ (by decide)] at this
  · have := hc 4 _ rfl; rwa [hadd _ (by decide)] at this
  · have := hc 5 _ rfl; rwa [hadd _ (by decide)] at this
end Go.Proofs.YtgecijhgonfldaaGreatDoor
namespace Go.Proofs.YtgecijhgonfldaaGreatDoor
open Go Go.RowKit
set_option linter.unusedVariables false
def sizes (l : List ByteArray) : Nat := (l.map ByteArray.size).sum
def fok (f : Fd) : Prop := i64ok f.upd ∧ f.path.length + sizes f.path + f.id.size + f.title.size + f.link.size ≤ 16777216
theorem size_le_sizes {l : List ByteArray} {s : ByteArray} (h : s ∈ l) : s.size ≤ sizes l := by
  induction l with
  | nil => simp at h
  | cons x t ih =>
    have e : sizes (x :: t) = x.size + sizes t := by unfold sizes; simp
    rcases List.mem_cons.1 h with rfl | h
    · omega
    · have := ih h; omega
theorem feedJ_ok (f : Fd) (h : fok f) : jok (feedJ f) := by
  obtain ⟨h1, h2⟩ := h
  unfold feedJ
  rw [jok_arr]
  intro j hj
  simp only [List.mem_cons, List.mem_nil_iff, or_false] at hj
  rcases hj with rfl | rfl | rfl | rfl | rfl
  · rw [jok_arr]
    intro j hj
    obtain ⟨s, hs, rfl⟩ := List.mem_map.1 hj
    have := size_le_sizes hs
    simp only [jok]
    omega
  · simp only [jok]; omega
  · simp only [jok]; omega
  · simp only [jok]; omega
  · simp only [jok]; exact h1
theorem paths_len : ∀ l : List ByteArray, (commas ((l.map JV.str).map jtext)).length ≤ 8 * sizes l + 3 * l.length
  | [] => by simp [commas]
  | [s] => by
    have a := quoteL_len s.data.toList
    rw [data_len] at a
    simp only [List.map_cons, List.map_nil, jtext_str, commas]
    unfold sizes
    simp
    omega
  | s :: t :: r => by
    have a := quoteL_len s.data.toList
    rw [data_len] at a
    have ih := paths_len (t :: r)
    have e : sizes (s :: t :: r) = s.size + sizes (t :: r) := by unfold sizes; simp
    rw [e]
    simp only [List.map_cons, jtext_str, commas, List.length_append, List.length_cons] at ih ⊢
    omega
theorem feedJ_len (f : Fd) (h : fok f) : (jtext (feedJ f)).length ≤ 140737488355328 := by
  obtain ⟨h1, h2⟩ := h
  unfold feedJ
  rw [jtext_arr]
  have a := quoteL_len f.id.data.toList
  have b := quoteL_len f.title.data.toList
  have c := quoteL_len f.link.data.toList
  have p := paths_len f.path
  have g := Lib.itoa_length_le f.upd h1.1 h1.2
  rw [data_len] at a b c
  simp only [List.map_cons, List.map_nil, jtext_arr, jtext_str, jtext_int, commas, List.length_cons, List.length_append, List.length_nil] at p ⊢
  omega
theorem updF_any (p es : Value) (f : Fd) (w : World) : Calls Tryz.prog 85 #[.agg (fCells p es f).toArray] w fun x w' => x = .returned (.int .i64 f.upd) ∧ Ext w w' := by
  unfold fCells
  go_enter Tryz.func85, Tryz.ntmps85
  go_wp2
  go_ret
  exact ⟨rfl, (Ext.refl _).alloc _⟩
theorem fdID_any (p es : Value) (f : Fd) (w : World) : Calls Tryz.prog 57 #[.agg (fCells p es f).toArray] w fun x w' => x = .returned (.string f.id) ∧ Ext w w' := by
  unfold fCells
  go_enter Tryz.func57, Tryz.ntmps57
  go_wp2
  go_ret
  exact ⟨rfl, (Ext.refl _).alloc _⟩
end Go.Proofs.YtgecijhgonfldaaGreatDoor
namespace Go.Proofs.YtgecijhgonfldaaGreatDoor
open Go Go.RowKit
set_option linter.unusedVariables false
theorem heap2_new (w : World) (A B : Obj) : ((w.alloc A).alloc B).heap[w.heap.size + 1]? = some B := by
  have := heap_alloc_new (w.alloc A) B
  rwa [size_alloc] at this
structure Fc where
  p : Value
  es : Value
  f : Fd
def cellsC (x : Fc) : List Value := fCells x.p x.es x.f
def isSl (v : Value) : Prop := ∃ A n c, v = .slice A n c
def slC (x : Fc) : Prop := isSl x.p ∧ isSl x.es
theorem cellsC_one {x : Fc} (h : slC x) : ∀ u ∈ cellsC x, u.oneCell' = true := by
  obtain ⟨p, es, f⟩ := x
  obtain ⟨⟨A, n, c, h1⟩, ⟨B, m, d, h2⟩⟩ := h
  simp only at h1 h2
  subst h1 h2
  intro u hu
  simp only [cellsC, fCells, List.mem_cons, List.mem_nil_iff, or_false] at hu
  rcases hu with rfl | rfl | rfl | rfl | rfl | rfl <;> rfl
theorem cellsC_len (x : Fc) : (cellsC x).length = 6 := rfl
def RdC (w : World) (x : Fc) : Prop := RStrs w x.p x.f.path ∧ REnts w x.es x.f.ents
theorem RdC.ext {w w' : World} {x : Fc} (h : RdC w x) (hx : Ext w w') : RdC w' x := ⟨h.1.ext hx, h.2.ext hx⟩
theorem RdC.sl {w : World} {x : Fc} (h : RdC w x) : slC x := by
  obtain ⟨A, c, e, _⟩ := h.1.form
  obtain ⟨B, d, e', _⟩ := h.2.form
  exact ⟨⟨A, _, c, e⟩, ⟨B, _, d, e'⟩⟩
def flatC (l : List Fc) : List Value := (l.map cellsC).flatten
theorem flatC_app (a b : List Fc) : flatC (a ++ b) = flatC a ++ flatC b := by unfold flatC; rw [List.map_append, List.flatten_append]
theorem flatC_one (x : Fc) : flatC [x] = cellsC x := by unfold flatC; simp
def RFcs (w : World) (v : Value) (l : List Fc) : Prop := RSl w 6 v l.length (flatC l)
def OFcs (w : World) (B : Nat) (v : Value) (l : List Fc) : Prop := w.ownsRow B 35 6 v l.length (flatC l)
theorem OFcs.reads {w : World} {B : Nat} {v : Value} {l : List Fc} (h : OFcs w B v l) : RFcs w v l := RSl.of_own h
theorem RFcs.ext {w w' : World} {v : Value} {l : List Fc} (h : RFcs w v l) (hx : Ext w w') : RFcs w' v l := RSl.ext h hx
theorem OFcs.ext {w w' : World} {B : Nat} {v : Value} {l : List Fc} (h : OFcs w B v l) (hx : Ext w w') : OFcs w' B v l := own_ext h hx
theorem RFcs.form {w : World} {v : Value} {l : List Fc} (h : RFcs w v l) : ∃ A c, v = .slice A l.length c ∧ l.length ≤ c ∧ c ≤ maxLen := by
  obtain ⟨_, A, c, e, h1, h2, _⟩ := h
  exact ⟨A, c, e, h1, h2⟩
theorem OFcs.nil (w : World) (B : Nat) : OFcs w B (.slice none 0 0) [] := World.ownsRow_nil _ _ _ _
theorem OFcs.snoc {w : World} {B : Nat} {v : Value} {l : List Fc} {x : Fc} (h : w.ownsRow B 35 6 v (l.length + 1) (flatC l ++ cellsC x)) : OFcs w B v (l ++ [x]) := by
  unfold OFcs
  rw [flatC_app, flatC_one, List.length_append]
  exact h
theorem OFcs.mono {w : World} {B B' : Nat} {v : Value} {l : List Fc} (h : OFcs w B v l) (hB : B' ≤ B) : OFcs w B' v l := own_mono h hB
structure AtFc (w : World) (q : Addr) (x : Fc) : Prop where
  c0 : w.cell? q = some x.p
  c1 : w.cell? ⟨q.block, q.off + 1, none⟩ = some (.string x.f.id)
  c2 : w.cell? ⟨q.block, q.off + 2, none⟩ = some (.string x.f.title)
  c3 : w.cell? ⟨q.block, q.off + 3, none⟩ = some (.string x.f.link)
  c4 : w.cell? ⟨q.block, q.off + 4, none⟩ = some (.int .i64 x.f.upd)
  c5 : w.cell? ⟨q.block, q.off + 5, none⟩ = some x.es
theorem AtFc.ext {w w' : World} {q : Addr} {x : Fc} (h : AtFc w q x) (hx : Ext w w') : AtFc w' q x := ⟨hx.cell h.c0, hx.cell h.c1, hx.cell h.c2, hx.cell h.c3, hx.cell h.c4, hx.cell h.c5⟩
theorem RFcs.at {w : World} {v : Value} {l : List Fc} (h : RFcs w v l) {k : Nat} (hk : k < l.length) : ∃ ad c, v = .slice (some ad) l.length c ∧ AtFc w (ad.add (k * 6)) l[k] := by
  obtain ⟨ad, c, e, hc⟩ := RSl.elem (k := 6) (css := l.map cellsC) h (by decide) (by intro c hc; obtain ⟨x, _, rfl⟩ := List.mem_map.1 hc; rfl) k (cellsC l[k]) (by rw [List.getElem?_map, List.getElem?_eq_getElem hk]; rfl)
  rw [Nat.mul_comm] at hc
  have hadd : ∀ i, 0 < i → (ad.add (k * 6)).add i = ⟨(ad.add (k * 6)).block, (ad.add (k * 6)).off + i, none⟩ := fun i hi => if_neg (by omega)
  refine ⟨ad, c, e, ?_, ?_, ?_, ?_, ?_, ?_⟩
  · have := hc 0 _ rfl; rwa [add_zero] at this
  · have := hc 1 _ rfl; rwa [hadd _ (by decide)] at this
  · have := hc 2 _ rfl; rwa [hadd _ (by decide)] at this
  · have := hc 3 _ rfl; rwa [hadd _ (by decide)] at this
  · have := hc 4 _ rfl; rwa [hadd _ (by decide)] at this
  · have := hc 5 _ rfl; rwa [hadd _ (by decide)] at this
theorem oneF {A : Option Addr} {n c : Nat} {B : Option Addr} {m d : Nat} {i t l : ByteArray} {u : Int} : (#[Value.slice A n c, .string i, .string t, .string l, .int .i64 u, .slice B m d]).all (fun u => u.oneCell') = true :=
  oneA (cellsC_one (x := ⟨.slice A n c, .slice B m d, ⟨[], i, t, l, u, []⟩⟩) ⟨⟨_, _, _, rfl⟩, ⟨_, _, _, rfl⟩⟩)
theorem oneArc {A : Option Addr} {n c : Nat} : (#[Value.slice A n c]).all (fun u => u.oneCell') = true := oneA (cs := [Value.slice A n c]) (by intro u hu; rw [List.mem_singleton.1 hu]; rfl)
theorem RSl.grown {w w' : World} {size n : Nat} {v : Value} {xs : List Value} {r : Option Nat} (h : RSl w size v n xs) (hg : w.grownBy w' r) (hv : xs = [] ∨ v.ownBlock ≠ r) : RSl w' size v n xs := by
  obtain ⟨h1, A, c, rfl, h2, h3, h4, h5⟩ := h
  refine ⟨h1, A, c, rfl, h2, h3, h4, fun j u hu => ?_⟩
  obtain ⟨ad, rfl, hc⟩ := h5 j u hu
  refine ⟨ad, rfl, hg.cell hc ?_⟩
  rw [block_of_add]
  rcases hv with hv | hv
  · subst hv; simp at hu
  · exact hv
theorem RSl.old {w : World} {size n : Nat} {v : Value} {xs : List Value} (h : RSl w size v n xs) (hne : xs ≠ []) : ∃ g, v.ownBlock = some g ∧ g < w.heap.size := by
  obtain ⟨h1, A, c, rfl, h2, h3, h4, h5⟩ := h
  cases xs with
  | nil => exact absurd rfl hne
  | cons u t =>
    obtain ⟨ad, rfl, hc⟩ := h5 0 u rfl
    refine ⟨ad.block, rfl, ?_⟩
    have := World.block_lt_of_cell? w _ hc
    rwa [block_of_add] at this
def awayC (x : Fc) (r : Option Nat) : Prop := (x.f.path = [] ∨ x.p.ownBlock ≠ r) ∧ (x.f.ents = [] ∨ x.es.ownBlock ≠ r)
theorem awayC_none {w : World} {x : Fc} (h : RdC w x) : awayC x none := by
  refine ⟨?_, ?_⟩
  · cases hp : x.f.path with
    | nil => exact Or.inl rfl
    | cons s t =>
      obtain ⟨g, hg, _⟩ := RSl.old h.1 (by rw [hp]; simp)
      exact Or.inr (by rw [hg]; simp)
  · cases hp : x.f.ents with
    | nil => exact Or.inl rfl
    | cons s t =>
      obtain ⟨g, hg, _⟩ := RSl.old h.2 (by rw [hp]; unfold flatE; simp [eCells])
      exact Or.inr (by rw [hg]; simp)
theorem awayC_new {w : World} {x : Fc} (h : RdC w x) {g : Nat} (hg : w.heap.size ≤ g) : awayC x (some g) := by
  refine ⟨?_, ?_⟩
  · cases hp : x.f.path with
    | nil => exact Or.inl rfl
    | cons s t =>
      obtain ⟨k, hk, hlt⟩ := RSl.old h.1 (by rw [hp]; simp)
      exact Or.inr (by rw [hk]; intro e; injection e with e; omega)
  · cases hp : x.f.ents with
    | nil => exact Or.inl rfl
    | cons s t =>
      obtain ⟨k, hk, hlt⟩ := RSl.old h.2 (by rw [hp]; unfold flatE; simp [eCells])
      exact Or.inr (by rw [hk]; intro e; injection e with e; omega)
theorem RdC.grown {w w' : World} {x : Fc} {r : Option Nat} (h : RdC w x) (hg : w.grownBy w' r) (ha : awayC x r) : RdC w' x :=
  ⟨RSl.grown h.1 hg (ha.1.imp (fun e => by rw [e]; rfl) fun e => e), RSl.grown h.2 hg (ha.2.imp (fun e => by rw [e]; rfl) fun e => e)⟩
structure HFs (w : World) (B : Nat) (v : Value) (l : List Fc) : Prop where
  row : OFcs w B v l
  rd : ∀ x ∈ l, RdC w x
  away : ∀ x ∈ l, awayC x v.ownBlock
theorem HFs.nil (w : World) (B : Nat) : HFs w B (.slice none 0 0) [] := ⟨OFcs.nil _ _, by simp, by simp⟩
theorem HFs.ext {w w' : World} {B : Nat} {v : Value} {l : List Fc} (h : HFs w B v l) (hx : Ext w w') : HFs w' B v l := ⟨h.row.ext hx, fun x hxl => (h.rd x hxl).ext hx, h.away⟩
theorem HFs.snoc {w w3 : World} {B : Nat} {v v3 : Value} {l : List Fc} {x : Fc} (h : HFs w B v l) (hx : RdC w x) (ha : awayC x v.ownBlock)
    (hown : w3.ownsRow B 35 6 v3 (l.length + 1) (flatC l ++ cellsC x)) (hg : w.grownBy w3 v.ownBlock) (hat : v3.ownBlock = v.ownBlock ∨ v3.ownBlock = some w.heap.size) : HFs w3 B v3 (l ++ [x]) := by
  have key : ∀ y ∈ l ++ [x], RdC w y ∧ awayC y v.ownBlock := by
    intro y hy
    rcases List.mem_append.1 hy with hy | hy
    · exact ⟨h.rd y hy, h.away y hy⟩
    · rw [List.mem_singleton.1 hy]; exact ⟨hx, ha⟩
  refine ⟨OFcs.snoc hown, fun y hy => (key y hy).1.grown hg (key y hy).2, fun y hy => ?_⟩
  rcases hat with e | e
  · rw [e]; exact (key y hy).2
  · rw [e]; exact awayC_new (key y hy).1 (Nat.le_refl _)
end Go.Proofs.YtgecijhgonfldaaGreatDoor
namespace Go.Proofs.YtgecijhgonfldaaGreatDoor
open Go
set_option linter.unusedVariables false
def withE (f : Fd) (l : List Ent) : Fd := { f with ents := l }
theorem laterF_withE (a b : Fd) (x y : List Ent) : laterF (withE a x) (withE b y) = laterF a b := by
  unfold laterF
  rw [show feedKey (withE a x) = feedKey a from rfl, show feedKey (withE b y) = feedKey b from rfl]
  rw [show (withE a x).upd = a.upd from rfl, show (withE b y).upd = b.upd from rfl]
  cases laterB (iCmp a.upd b.upd) (feedKey a) (feedKey b) <;> rfl
theorem laterF_withL (a b : Fd) (x : List Ent) : laterF (withE a x) b = laterF a b := laterF_withE a b x b.ents
theorem fold_laterF_withE : ∀ (t : List Fd) (a : Fd) (x z : List Ent), withE (t.foldl laterF (withE a x)) z = withE (t.foldl laterF a) z
  | [], _, _, _ => rfl
  | h :: t, a, x, z => by rw [List.foldl_cons, List.foldl_cons, laterF_withL]
theorem joinF_fold : ∀ (t : List Fd) (g : Fd), ordE.canon g.ents = g.ents → t.foldl joinF g = withE (t.foldl laterF g) (ordE.canon (g.ents ++ (t.map Fd.ents).flatten))
  | [], g, h => by
    rw [List.map_nil, List.flatten_nil, List.append_nil, h]
    rfl
  | x :: t, g, h => by
    have hj : joinF g x = withE (laterF g x) (ordE.canon (g.ents ++ x.ents)) := by
      rw [ordE.canon_append, h]
      rfl
    rw [List.foldl_cons, joinF_fold t (joinF g x) (by rw [hj]; exact ordE.canon_canon _), hj, fold_laterF_withE, List.foldl_cons]
    refine congrArg (withE _) ?_
    show ordE.canon (ordE.canon (g.ents ++ x.ents) ++ (t.map Fd.ents).flatten) = _
    rw [ordE.canon_append, ordE.canon_canon, ← ordE.canon_append, List.append_assoc, List.map_cons, List.flatten_cons]
def jF (l : List Fd) (s : ByteArray) : Fd := (ordF.got l s).getD zeroF
theorem joinedF_map (l : List Fd) : ordF.joined l = (ordF.firsts l).map (jF l) := by
  have key : ∀ fs : List ByteArray, (∀ s ∈ fs, s ∈ ordF.firsts l) → fs.filterMap (ordF.got l) = fs.map (jF l) := by
    intro fs
    induction fs with
    | nil => intro _; rfl
    | cons s t ih =>
      intro h
      obtain ⟨x, hx⟩ := (Ord.got_isSome_iff (O := ordF) l s).2 ((ordF.mem_firsts l s).1 (h s (by simp)))
      rw [List.filterMap_cons_some hx, List.map_cons, ih fun s hs => h s (by simp [hs])]
      unfold jF
      rw [hx]; rfl
  exact key _ fun s hs => hs
theorem jF_fold {l : List Fd} {s : ByteArray} {x : Fd} {t : List Fd} (h : (l.filter fun x => decide (x.id = s)) = x :: t) (hx : ordE.canon x.ents = x.ents) :
    jF l s = withE (t.foldl laterF x) (ordE.canon (x.ents ++ (t.map Fd.ents).flatten)) := by
  rw [← joinF_fold t x hx]
  unfold jF Ord.got
  have h' : (l.filter fun x => decide (ordF.id x = s)) = x :: t := h
  rw [h']
  rfl
end Go.Proofs.YtgecijhgonfldaaGreatDoor
namespace Go.Proofs.YtgecijhgonfldaaGreatDoor
open Go
set_option linter.unusedVariables false
theorem collGo_len1 : ∀ (l out : List UInt8) (g : Bool), (collGo l out g).length ≤ out.length + l.length + (if g = true then 1 else 0)
  | [], out, g => by simp only [collGo, List.length_nil]; omega
  | c :: t, out, g => by
    simp only [collGo]
    by_cases h : isSp c.toNat = true
    · rw [if_pos h]
      have := collGo_len1 t out (!out.isEmpty)
      rw [List.length_cons]
      split at this <;> omega
    · rw [if_neg h]
      have := collGo_len1 t (out ++ (if g = true then [32] else []) ++ [c]) false
      simp only [Bool.false_eq_true, if_false, List.length_append, List.length_cons, List.length_nil] at this
      rw [List.length_cons]
      cases g
      · simp only [Bool.false_eq_true, if_false, List.length_nil] at this ⊢; omega
      · simp only [if_true, List.length_cons, List.length_nil] at this ⊢; omega
theorem collapse_size (s : ByteArray) : (collapse s).size ≤ s.size := by
  unfold collapse coll
  rw [str_size]
  have := collGo_len1 s.data.toList [] false
  simp only [Bool.false_eq_true, if_false, List.length_nil] at this
  rw [data_len] at this
  omega
theorem eok_coll {e : Ent} (h : eok e) : eok (collE e) := by
  obtain ⟨h1, h2⟩ := h
  refine ⟨h1, ?_⟩
  have a := collapse_size e.id
  have b := collapse_size e.title
  have c := collapse_size e.link
  have d := collapse_size e.content
  show (collapse e.id).size + (collapse e.title).size + (collapse e.link).size + (collapse e.content).size ≤ 16777216
  omega
theorem sizes_coll : ∀ l : List ByteArray, sizes (l.map collapse) ≤ sizes l
  | [] => Nat.le_refl _
  | s :: t => by
    have h := sizes_coll t
    have a := collapse_size s
    unfold sizes at *
    simp only [List.map_cons, List.sum_cons] at h ⊢
    omega
theorem fok_coll {f : Fd} (h : fok f) : fok (collF f) := by
  obtain ⟨h1, h2⟩ := h
  refine ⟨h1, ?_⟩
  have a := collapse_size f.id
  have b := collapse_size f.title
  have c := collapse_size f.link
  have d := sizes_coll f.path
  show (f.path.map collapse).length + sizes (f.path.map collapse) + (collapse f.id).size + (collapse f.title).size + (collapse f.link).size ≤ 16777216
  rw [List.length_map]
  omega
theorem fold_pick : ∀ (t : List Ent) (x : Ent), t.foldl laterE x ∈ x :: t
  | [], x => by simp
  | y :: t, x => by
    have h := fold_pick t (laterE x y)
    rw [List.foldl_cons]
    rcases List.mem_cons.1 h with h | h
    · rw [h]
      unfold laterE
      split <;> simp
    · simp [h]
theorem canonE_mem {l : List Ent} {x : Ent} (h : x ∈ ordE.canon l) : x ∈ l := by
  have h1 := ((ordE.canon_is l).2 x).1 h
  unfold Ord.got at h1
  cases hf : l.filter fun y => decide (ordE.id y = ordE.id x) with
  | nil => rw [hf] at h1; cases h1
  | cons y t =>
    rw [hf] at h1
    have h2 : t.foldl laterE y = x := by
      unfold Ord.fold1 at h1
      injection h1
    have h3 := fold_pick t y
    rw [h2, ← hf] at h3
    exact (List.mem_filter.1 h3).1
section
variable {α κ : Type} (O : Ord α κ)
theorem ins_len : ∀ (l : List α) (e : α), (O.ins l e).length = l.length + 1
  | [], _ => rfl
  | x :: t, e => by
    unfold Ord.ins
    split
    · rfl
    · rw [List.length_cons, ins_len t e, List.length_cons]
end
section
variable {α κ : Type} [DecidableEq κ] (O : Ord α κ)
theorem put_len (l : List α) (e : α) : (O.put l e).length ≤ l.length + 1 := by
  unfold Ord.put
  rw [ins_len, O.scan_fst]
  have := List.length_filter_le (fun x => !decide (O.id x = O.id e)) l
  omega
theorem fold_put_len : ∀ (l s : List α), (l.foldl O.put s).length ≤ s.length + l.length
  | [], s => by simp
  | x :: t, s => by
    have h := fold_put_len t (O.put s x)
    have := put_len O s x
    rw [List.foldl_cons, List.length_cons]
    omega
theorem canon_len (l : List α) : (O.canon l).length ≤ l.length := by
  have := fold_put_len O l []
  unfold Ord.canon
  simpa using this
end
theorem laterF_fok {a b : Fd} (ha : fok a) (hb : fok b) : fok (laterF a b) := by
  unfold laterF
  cases laterB (iCmp a.upd b.upd) (feedKey a) (feedKey b)
  · exact ha
  · exact hb
theorem foldF_fok : ∀ (t : List Fd) (x : Fd), fok x → (∀ y ∈ t, fok y) → fok (t.foldl laterF x)
  | [], _, h, _ => h
  | y :: t, x, h, ht => foldF_fok t _ (laterF_fok h (ht y (by simp))) fun z hz => ht z (by simp [hz])
def fokS (f : Fd) : Prop := fok f ∧ f.ents.length ≤ 1000000 ∧ ∀ e ∈ f.ents, eok e
theorem fokS_coll {f : Fd} (h : fokS f) : fokS (collF f) := by
  refine ⟨fok_coll h.1, ?_, fun e he => ?_⟩
  · show (ordE.canon (f.ents.map collE)).length ≤ 1000000
    have := canon_len ordE (f.ents.map collE)
    rw [List.length_map] at this
    have := h.2.1
    omega
  · obtain ⟨x, hx, rfl⟩ := List.mem_map.1 (canonE_mem (show e ∈ ordE.canon (f.ents.map collE) from he))
    exact eok_coll (h.2.2 x hx)
end Go.Proofs.YtgecijhgonfldaaGreatDoor
