/- YtgecijhgonfldaaGreatDoor: texts Grp2, put one behind the other. -/
import Derived.Deep.RegionLaw
import Derived.Test.YtgecijhgonfldaaGreatDoorM22
/- Contracts: normalize.groups at entries. -/
namespace Go.Proofs.YtgecijhgonfldaaGreatDoor
open Go Go.RowKit Go.WideMaps Go.Maps
set_option linter.unusedVariables false

theorem entID_any (e : Ent) (w : World) : Calls Tryz.prog 79 #[.agg (eCells e).toArray] w fun x w' => x = .returned (.string e.id) ∧ Ext w w' := by
  unfold eCells
  go_enter Tryz.func79, Tryz.ntmps79
  go_wp2
  go_ret
  exact ⟨rfl, (Ext.refl _).alloc _⟩
theorem keyLaw : Keyed Tryz.prog 9 := string_keyed Tryz.underlying9
theorem zeroInt (w : World) : (zeroValue 3).run Tryz.prog w = .ok (.int .i64 0) w := by kernel_rfl
theorem info_row : (Tryz.prog.info? 33).map (fun i => (i.zero, i.size, i.bytes)) = some (some (.slice none 0 0), 1, 24) := by kernel_rfl
theorem firsts_len (l : List Ent) : (ordE.firsts l).length ≤ l.length := by
  suffices h : ∀ (n : Nat) (l : List Ent), l.length = n → (ordE.firsts l).length ≤ l.length from h _ l rfl
  intro n
  induction n with
  | zero => intro l hl; rw [List.eq_nil_of_length_eq_zero hl]; exact Nat.le_refl _
  | succ n ih =>
    intro l hl
    obtain ⟨l', e, rfl⟩ : ∃ l' e, l = l' ++ [e] := by
      rcases List.eq_nil_or_concat l with h | ⟨l', e, h⟩
      · subst h; simp at hl
      · exact ⟨l', e, by simpa using h⟩
    have := ih l' (by simpa using hl)
    rw [ordE.firsts_snoc]
    split <;> simp <;> omega
theorem grp_len (l : List Ent) (s : ByteArray) : (grp l s).length ≤ l.length := List.length_filter_le _ _

theorem own_mono {w : World} {B B' : Nat} {e : TypeId} {size n : Nat} {v : Value} {xs : List Value} (h : w.ownsRow B e size v n xs) (hB : B' ≤ B) : w.ownsRow B' e size v n xs := by
  refine ⟨h.1, ?_⟩
  rcases h.2 with h2 | ⟨g, cap, cur, h1, h2, h3⟩
  · exact Or.inl h2
  · exact Or.inr ⟨g, cap, cur, h1, Nat.le_trans hB h2, h3⟩
/-- an append to one group: what the walk needs of the world behind it -/
theorem Grps.grow' {w0 w1 w w2 : World} {B g cap : Nat} {l : List Ent} {fs : List ByteArray} {gv : List Value} {x : Ent} {i : Nat} {u u' : Value} {s : ByteArray}
    (h : Grps w1 B (.slice (some ⟨g, 0, none⟩) gv.length cap) l fs gv) (_hx0 : Ext w0 w1) (hx : Ext w1 w) (hnd : fs.Pairwise (· ≠ ·)) (hi : fs[i]? = some s) (hu : gv[i]? = some u) (hxs : ordE.id x = s)
    (hown : w2.ownsRow B 23 5 u' ((grp l s).length + 1) (flatE (grp l s) ++ eCells x)) (hg : w.grownBy w2 u.ownBlock) (hat : u'.ownBlock = u.ownBlock ∨ u'.ownBlock = some w.heap.size) (hne : u.ownBlock ≠ some g) :
    w2.cell? ⟨g, i, none⟩ = some u ∧ w2.frozen? ⟨g, i, none⟩ = false ∧ Grps (w2.setCell ⟨g, i, none⟩ u') B (.slice (some ⟨g, 0, none⟩) gv.length cap) (l ++ [x]) fs (gv.set i u') := by
  have hw := h.ext hx
  have hrow := hw.row.kept hg (Or.inr fun e => hne e.symm)
  have hil : i < gv.length := (List.getElem?_eq_some_iff.1 hu).1
  refine ⟨by rw [hrow.cellAt i (by omega)]; exact hu, hrow.frozenAt i, hw.grow hnd hi hu hxs hown hg ?_ hne⟩
  rcases hat with e | e
  · exact Or.inl e
  · exact Or.inr ⟨_, Nat.le_refl _, e⟩
set_option maxRecDepth 100000 in
set_option maxHeartbeats 2000000 in
theorem groupsE_any (v : Value) (l : List Ent) (w : World) (h : REnts w v l) (hsz : ∀ x ∈ l, x.id.size ≤ 16777216) (hn : l.length ≤ 1000000) :
    Calls Tryz.prog 78 #[v, .func (.func 79) #[] #[]] w fun x w' => ∃ v' gv, x = .returned v' ∧ Grps w' w.heap.size v' l (ordE.firsts l) gv ∧ Ext w w' := by
  obtain ⟨i0, hi0, hz0, hz1, hz2⟩ := info_parts info_ent
  obtain ⟨i1, hj0, hy0, hy1, hy2⟩ := info_parts info_row
  obtain ⟨A, c, rfl, hlc, hcm⟩ := h.form
  have hmm := @run_makeMap Tryz.prog
  have HSZ := Lib.hid hsz
  clear hlc hcm hsz
  go_enter Tryz.func78, Tryz.ntmps78
  go_wp2
  go_loopw [6, 14] (fun o i wr => ∃ (k : Nat) (gv : List Value) (D : DataW Unit), k ≤ l.length ∧ i = .int .i64 k ∧ Grps wr (w.heap.size + 1) o (l.take k) (ordE.firsts (l.take k)) gv ∧ wr.ownsMap Tryz.prog 9 (plainElem Tryz.prog 3) w.heap.size k D ∧ Hid (IdxMap D (ordE.firsts (l.take k))) ∧ Ext w wr ∧ w.heap.size + 1 ≤ wr.heap.size) (fun _ i _ => l.length - (intOf i).toNat)
  case atStart => exact ⟨0, [], .map [], Nat.zero_le _, rfl, Grps.nil _ _, World.ownsMap_made _ _ _ _, IdxMap.nil, (Ext.refl _).alloc _, by simp⟩
  case round =>
    obtain ⟨k, gv, D, hk, rfl, hG, hM, hD, hx, hws⟩ := hrel
    by_cases hlt : k < l.length
    · obtain ⟨ad, c', hv, hat⟩ := (h.ext hx).at hlt
      injection hv with hv1 hv2 hv3
      subst hv1
      clear hv2 hv3
      have hxs := HSZ.out l[k] (List.getElem_mem hlt)
      have htk := List.take_succ_eq_append_getElem hlt
      have hfn := ordE.firsts_snoc (l.take k) l[k]
      rw [← htk] at hfn
      have hfl := firsts_len (l.take k)
      rw [List.length_take] at hfl
      have hgl := hG.len
      have hnd := ordE.firsts_nodup (l.take k)
      obtain ⟨x, hxx⟩ : ∃ x, l[k] = x := ⟨_, rfl⟩
      rw [hxx] at hat hxs htk hfn
      have HTK := Lib.hid htk
      have HFN := Lib.hid hfn
      clear htk hfn hxx
      have hgrl := grp_len (l.take k) x.id
      rw [List.length_take] at hgrl
      have hkey : keyOf Tryz.prog 9 (.string x.id) = some (.string x.id.data.toList) := keyOf_string_mk Tryz.underlying9 (by unfold maxLen; omega)
      have HID := Lib.hid (fun w' => entID_any x w')
      have hi0' : (0 : Int) ≤ (k : Int) := by omega
      have hi1 : (k : Int) < (l.length : Int) := by omega
      have hDx := hD.out.2 x.id
      obtain ⟨a0, a1, a2, a3, a4⟩ := hat
      by_cases hmem : x.id ∈ ordE.firsts (l.take k)
      · have hhas : Maps.has D (.string x.id.data.toList) = true := hDx.1.2 hmem
        obtain ⟨j, hj⟩ := List.mem_iff_getElem?.1 hmem
        have hjd := hDx.2 j hj
        have hjl : j < gv.length := by rw [hgl]; exact (List.getElem?_eq_some_iff.1 hj).1
        have HJD := Lib.hid hjd
        have HHAS := Lib.hid hhas
        have HMEM := Lib.hid hmem
        obtain ⟨g, cap, ho, hcap⟩ : ∃ g cap, (_ : Value) = .slice (some ⟨g, 0, none⟩) gv.length cap ∧ gv.length ≤ maxLen := by
          rcases hG.row.2 with ⟨h1, h2⟩ | ⟨g, cap, cur, h1, _, _, h4, h5, _⟩
          · omega
          · exact ⟨g, cap, h1, Nat.le_trans h4 h5⟩
        subst ho
        obtain ⟨u, hu⟩ : ∃ u, gv[j]? = some u := ⟨_, List.getElem?_eq_getElem hjl⟩
        have hou := hG.each j x.id u hj hu
        have hgc : wr.cell? ⟨g, j, none⟩ = some u := by rw [hG.row.cellAt j (by omega)]; exact hu
        have hgf := hG.row.frozenAt j
        have hgB := hG.row.lt g rfl
        have hune : u.ownBlock ≠ some g := by
          intro e
          rcases hou.2 with ⟨rfl, _⟩ | ⟨b', c', cur', rfl, _, hb', _⟩
          · cases e
          · rcases hG.row.2 with ⟨h2, _⟩ | ⟨g', c'', cur'', h2, _, hg', _⟩
            · cases h2
            · cases h2
              cases e
              rw [hb'] at hg'
              simp at hg'
        have huM : u.ownBlock ≠ some w.heap.size := by
          intro e
          have := (hou.lt _ e).1
          omega
        have HOU := Lib.hid hou
        have HHU := Lib.hid hu
        have HHJ := Lib.hid hj
        have HUN := Lib.hid hune
        have HUM := Lib.hid huM
        have HGB := Lib.hid hgB
        have hjl' : (j : Int) < (gv.length : Int) := by omega
        have hj0' : (0 : Int) ≤ (j : Int) := by omega
        have HBY : Hid (((grp (l.take k) x.id).length + 1) * 72 ≤ 140737488355328) := Lib.hid (by omega)
        have HML : Hid ((grp (l.take k) x.id).length + 1 ≤ maxLen) := Lib.hid (by unfold maxLen; omega)
        have hgl' : gv.length ≤ 9223372036854775807 := by omega
        have HGL := Lib.hid hgl
        have HCAP := Lib.hid hcap
        clear hjd hhas hmem hDx hou hu hj hune huM hgB hgl hcap hjl hgrl hfl
        obtain ⟨xid, xtitle, xlink, xcontent, xupd⟩ := x
        simp only at a0 a1 a2 a3 a4 hkey
        unfold eCells at HID
        dsimp only at HID
        go_wp2_with (first
          | (go_at_call 79; refine (HID.out _).mono ?_; rintro e w2 ⟨rfl, hx2⟩; (have e0 := hx2.boxed 0 _ rfl); (have e1 := hx2.boxed 1 _ rfl); (have e2 := hx2.boxed 2 _ rfl); (have e3 := hx2.boxed 3 _ rfl); (have e4 := hx2.boxed 4 _ rfl); (have hxa := (((Ext.refl wr).alloc _).trans hx2)); (have hgc2 := hxa.cell hgc); (have hgf2 := (Below.frozen hxa HGB.out.2).trans hgf))
          | (at_lookup; refine wpList_lookup_own_ok_int _ rfl (.tmp 19) (.tmp 22) _ rfl 9 3 .i64 keyLaw Tryz.underlying114 Tryz.underlying3 (zeroInt _) w.heap.size k D rfl ((hM.kept (((Ext.refl wr).alloc _).grown none) (by simp)).kept (hx2.grown none) (by simp)) _ _ rfl hkey ?_; intro c hat hwc; (have hcj : c = (j : Int) := by (have e := HJD.out.symm.trans hat; injection e with e; injection e with _ e; exact e.symm)); rw [HHAS.out, hcj]; clear hat hwc hcj c))
        have HXA := Lib.hid hxa
        have HG2 := Lib.hid (hG.ext hxa)
        have HM2 := Lib.hid (hM.kept (hxa.grown none) (by simp))
        have HOU2 := Lib.hid (OEnts.ext HOU.out hxa)
        have HXW := Lib.hid (hx.trans hxa)
        have HWS := Lib.hid (Nat.le_trans hws hxa.size)
        have HND := Lib.hid hnd
        clear hG hM hkey a0 a1 a2 a3 a4 hgc hgf hx2 hnd
        have hgw2 : g < w2.heap.size := World.block_lt_of_cell? w2 _ hgc2
        have hbw2 : wr.heap.size < w2.heap.size := World.block_lt_of_cell? w2 _ e0
        go_region_law (first
          | (refine step_append_rsl _ (by rfl) (.tmp 43) (.tmp 45) _ (by rfl) (w.heap.size + 1) 23 i0 _ 5 72 Tryz.underlying33 hi0 hz0 hz1 hz2 rfl (by decide) u (grp (l.take k) xid).length (flatE (grp (l.take k) xid)) (by rfl) (own_ext HOU2.out (by repeat (first | exact Ext.refl _ | apply Ext.drew | apply Ext.alloc))) _ 1 (eCells ⟨xid, xtitle, xlink, xcontent, xupd⟩) (by rfl) (RSl.ext (rsl_new rfl (by decide)) (by repeat (first | exact Ext.refl _ | apply Ext.drew))) (eCells_one _) HML.out HBY.out (Nat.le_trans HWS.out (by simp)) ?_; intro v3 w3 hown3 hg3 hat3; (obtain ⟨g3, cap3, hv3, hb3⟩ : ∃ g3 cap3, v3 = .slice (some ⟨g3, 0, none⟩) ((grp (l.take k) xid).length + 1) cap3 ∧ True := by (obtain ⟨g3, cap3, hv3, _⟩ := hown3.form (by omega); exact ⟨g3, cap3, hv3, trivial⟩)); subst hv3; (have hgr := Grps.grow' HG2.out (Ext.refl _) (by repeat (first | exact Ext.refl _ | apply Ext.drew | apply Ext.alloc)) HND.out HHJ.out HHU.out rfl hown3 hg3 hat3 HUN.out); (have hgc3 := hgr.1); (have hgf3 := hgr.2.1); (have hm3 := (HM2.out.kept ((show Ext w2 _ from by repeat (first | exact Ext.refl _ | apply Ext.drew | apply Ext.alloc)).grown none) (by simp)).kept hg3 (fun e => HUM.out e.symm)); (have hx3 : Ext w w3 := Ext.grown' (B := 0) (Ext.trans HXW.out (by repeat (first | exact Ext.refl _ | apply Ext.drew | apply Ext.alloc))) hg3 (fun b hb => Nat.le_trans (Nat.le_succ _) (HOU2.out.lt b hb).1))))
        all_goals
          have hgr3 := hgr.2.2
          have HGR := Lib.hid hgr3
          have HM3 := Lib.hid (hm3.setCell (a := ⟨g, j, none⟩) (show w.heap.size ≠ g by have := HGB.out.1; omega) (.slice (some ⟨g3, 0, none⟩) ((grp (l.take k) xid).length + 1) cap3))
          have HX3 := Lib.hid (hx3.setCell (p := ⟨g, j, none⟩) (show w.heap.size ≤ g by have := HGB.out.1; omega) (.slice (some ⟨g3, 0, none⟩) ((grp (l.take k) xid).length + 1) cap3))
          clear hgr hgr3 hm3 hx3 hown3 hg3 hat3 hgc3 hgf3 e0 e1 e2 e3 e4 hgc2 hgf2 hxa
          go_wp2
          go_roundw
          case rel =>
            have hfm : ordE.firsts (l.take (k + 1)) = ordE.firsts (l.take k) := HFN.out.trans (if_pos HMEM.out)
            exact ⟨k + 1, gv.set j _, D, hlt, by go_num, by rw [hfm, HTK.out]; exact HGR.out, HM3.out.mono (Nat.le_succ _), by rw [hfm]; exact hD, HX3.out, HM3.out.lt⟩
          case measure => simp [intOf]; omega
      · have hhas : Maps.has D (.string x.id.data.toList) = false := by
          cases hb : Maps.has D (.string x.id.data.toList) with
          | false => rfl
          | true => exact absurd (hDx.1.1 hb) hmem
        have hput := hD.out.put (s := x.id) hmem
        rw [← hgl] at hput
        have HPUT := Lib.hid hput
        have HHAS := Lib.hid hhas
        have HMEM := Lib.hid hmem
        have HNEW := Lib.hid (mem_grp_new hmem)
        have HGL := Lib.hid hgl
        have hwf : (Lit.int .i64 (gv.length : Nat)).wf = true := by
          simp only [Lit.wf, IntKind.min, IntKind.max, Bool.and_eq_true]
          simp [IntKind.signed, IntKind.bits]
          omega
        have HWF := Lib.hid hwf
        have hbx0 := heap_alloc_new wr (.cells (eCells x).toArray 23)
        have HBX := Lib.hid hbx0
        have HBYR : Hid ((gv.length + 1) * 24 ≤ 140737488355328) := Lib.hid (by omega)
        have HMLR : Hid (gv.length + 1 ≤ maxLen) := Lib.hid (by unfold maxLen; omega)
        have HKL : Hid (k < maxLen) := Lib.hid (by unfold maxLen; omega)
        have hgl' : gv.length ≤ 9223372036854775806 := by omega
        clear hhas hmem hput hwf hbx0 hDx hfl hgrl hgl
        obtain ⟨xid, xtitle, xlink, xcontent, xupd⟩ := x
        simp only at a0 a1 a2 a3 a4 hkey
        unfold eCells at HID HBX
        dsimp only at HID HBX
        obtain ⟨gA, gC, ho⟩ := hG.form
        subst ho
        have tok1 : True := trivial
        go_wp2_with (first
          | (clear tok1; go_at_call 79; refine (HID.out _).mono ?_; rintro e w2 ⟨rfl, hx2⟩; (have hb2 := hx2.heap HBX.out); (obtain ⟨e0, e1, e2, e3, e4⟩ := blk5 hb2); (have hxa := (((Ext.refl wr).alloc _).trans hx2)))
          | (at_lookup; refine wpList_lookup_own_ok_int _ rfl (.tmp 19) (.tmp 22) _ rfl 9 3 .i64 keyLaw Tryz.underlying114 Tryz.underlying3 (zeroInt _) w.heap.size k D rfl ((hM.kept (((Ext.refl wr).alloc _).grown none) (by simp)).kept (hx2.grown none) (by simp)) _ _ rfl hkey ?_; intro c hat hwc; rw [HHAS.out]; clear hat hwc)
          | (go_at_call 79; refine (HID.out _).mono ?_; rintro e w4 ⟨rfl, hx4⟩; (have hb4 := hx4.heap hb2); (have hxb := hxa.trans hx4))
          | (at_mapUpdate; refine wpList_mapUpdate_own _ rfl (.tmp 30) (.tmp 33) (.tmp 34) 114 rfl 9 3 keyLaw Tryz.underlying114 _ w.heap.size k D rfl (hM.kept (hxb.grown none) (by simp)) HKL.out _ _ _ rfl rfl hkey _ [] (plainElem_int Tryz.underlying3 HWF.out) ?_; intro w5 hM5 hg5)
          | (at_builtin; refine wpList_append_rsl _ rfl (.tmp 35) (.tmp 36) _ rfl (w.heap.size + 1) 33 i1 _ 1 24 Tryz.underlying110 hj0 hy0 hy1 hy2 rfl (by decide) _ gv.length gv rfl ((((hG.ext hxb).kept hg5 (Nat.lt_succ_self _)).row).alloc _) _ 1 [.slice none 0 0] rfl (rsl_new rfl (by decide)) (by intro y hy; simp at hy; subst hy; rfl) HMLR.out HBYR.out ?_ ?_; (have := hM5.lt; simp; omega); intro v6 w6 hown6 hg6 hat6))
        obtain ⟨g, cap, hv6, hgB1, hgB2⟩ := hown6.form (Nat.succ_pos _)
        subst hv6
        have hxm : Ext w w5 := Ext.grown' (B := 0) (hx.trans hxb) hg5 (fun b hb => by cases hb; exact Nat.le_refl _)
        have hG5 := (hG.ext hxb).kept hg5 (Nat.lt_succ_self _)
        have hlen : gv.length + 1 = (gv ++ [Value.slice none 0 0]).length := by simp
        have hG6 := Grps.more (hG5.ext ((Ext.refl _).alloc _)) HNEW.out hown6 hg6
        rw [hlen] at hG6
        have HG2 := Lib.hid hG6
        have huN : ∀ b, (Value.slice gA gv.length gC).ownBlock = some b → w.heap.size + 1 ≤ b := fun b hb => (hG.row.lt b hb).1
        have HM2 := Lib.hid ((hM5.alloc _).kept hg6 (fun e => by have := huN _ e.symm; omega))
        have HXW := Lib.hid (Ext.grown' (B := 0) (hxm.alloc _) hg6 (fun b hb => Nat.le_trans (Nat.le_succ _) (huN b hb)))
        have hou : OEnts w6 (w.heap.size + 1) (.slice none 0 0) (grp (l.take k) xid) := by rw [HNEW.out]; exact OEnts.nil _ _
        have HOU2 := Lib.hid hou
        have hW6 : w.heap.size + 1 ≤ w6.heap.size := HM2.out.lt
        have HWS := Lib.hid hW6
        have hb5 : w5.heap[wr.heap.size]? = some (.cells #[.string xid, .string xtitle, .string xlink, .string xcontent, .int .i64 xupd] 23) := by
          rw [hg5.block wr.heap.size (World.block_lt_of_cell? w4 ⟨wr.heap.size, 0, none⟩ (by rw [cell_of_row _ _ _ _ _ _ hb4]; rfl)) (by simp; omega)]
          exact hb4
        have hb6 : w6.heap[wr.heap.size]? = some (.cells #[.string xid, .string xtitle, .string xlink, .string xcontent, .int .i64 xupd] 23) := by
          rw [hg6.block wr.heap.size (by have : wr.heap.size < w5.heap.size := World.block_lt_of_cell? w5 ⟨wr.heap.size, 0, none⟩ (by rw [cell_of_row _ _ _ _ _ _ hb5]; rfl); simp; omega) (fun e => by have := (hG.row.lt _ e.symm).2; omega)]
          exact ((Ext.refl w5).alloc _).heap hb5
        have HND : Hid ((ordE.firsts (l.take k) ++ [xid]).Pairwise (· ≠ ·)) := Lib.hid (by
          rw [List.pairwise_append]
          exact ⟨hnd, by simp, fun a ha b hb => by simp at hb; subst hb; rintro rfl; exact HMEM.out ha⟩)
        have HHJ : Hid ((ordE.firsts (l.take k) ++ [xid])[gv.length]? = some xid) := Lib.hid (by rw [HGL.out]; simp)
        have HHU : Hid ((gv ++ [Value.slice none 0 0])[gv.length]? = some (.slice none 0 0)) := Lib.hid (by simp)
        have HUN : Hid ((Value.slice none 0 0).ownBlock ≠ some g) := Lib.hid (by intro e; cases e)
        have HUM : Hid ((Value.slice none 0 0).ownBlock ≠ some w.heap.size) := Lib.hid (by intro e; cases e)
        have HGB := Lib.hid (And.intro hgB1 hgB2)
        have hgc2 : w6.cell? ⟨g, gv.length, none⟩ = some (.slice none 0 0) := by rw [hown6.cellAt gv.length (by omega)]; simp
        have hgf2 : w6.frozen? ⟨g, gv.length, none⟩ = false := hown6.frozenAt gv.length
        have hjl' : (gv.length : Int) < ((gv.length : Nat) : Int) + 1 := by omega
        have hjn' : gv.length < gv.length + 1 := by omega
        have hj0' : (0 : Int) ≤ (gv.length : Int) := by omega
        have HBY : Hid ((grp (l.take k) xid).length + 1 ≤ 1 ∧ True) := Lib.hid ⟨by rw [HNEW.out]; simp, trivial⟩
        have HML : Hid ((grp (l.take k) xid).length + 1 ≤ maxLen) := Lib.hid (Nat.le_trans HBY.out.1 (by decide))
        have HBY2 : Hid (((grp (l.take k) xid).length + 1) * 72 ≤ 140737488355328) := Lib.hid (by have := HBY.out.1; omega)
        clear HBY
        have HBY := HBY2
        have HLEN := Lib.hid hlen
        clear e0 e1 e2 e3 e4
        obtain ⟨e0, e1, e2, e3, e4⟩ := blk5 hb6
        clear hG hG5 hG6 hM hM5 hkey a0 a1 a2 a3 a4 hx2 hx4 hxa hxb hb2 hb4 hb5 hb6 hg5 hg6 hat6 hown6 hxm huN hou hW6 hlen hgB1 hgB2 hnd
        have hgw2 : g < w6.heap.size := World.block_lt_of_cell? w6 _ hgc2
        have hbw2 : wr.heap.size < w6.heap.size := World.block_lt_of_cell? w6 _ e0
        go_region_law (first
          | (refine step_append_rsl _ (by rfl) (.tmp 43) (.tmp 45) _ (by rfl) (w.heap.size + 1) 23 i0 _ 5 72 Tryz.underlying33 hi0 hz0 hz1 hz2 rfl (by decide) (.slice none 0 0) (grp (l.take k) xid).length (flatE (grp (l.take k) xid)) (by rfl) (own_ext HOU2.out (by repeat (first | exact Ext.refl _ | apply Ext.drew | apply Ext.alloc))) _ 1 (eCells ⟨xid, xtitle, xlink, xcontent, xupd⟩) (by rfl) (RSl.ext (rsl_new rfl (by decide)) (by repeat (first | exact Ext.refl _ | apply Ext.drew))) (eCells_one _) HML.out HBY.out (Nat.le_trans HWS.out (by simp)) ?_; intro v3 w3 hown3 hg3 hat3; (obtain ⟨g3, cap3, hv3, hb3⟩ : ∃ g3 cap3, v3 = .slice (some ⟨g3, 0, none⟩) ((grp (l.take k) xid).length + 1) cap3 ∧ True := by (obtain ⟨g3, cap3, hv3, _⟩ := hown3.form (by omega); exact ⟨g3, cap3, hv3, trivial⟩)); subst hv3; (have hgr := Grps.grow' HG2.out (Ext.refl _) (by repeat (first | exact Ext.refl _ | apply Ext.drew | apply Ext.alloc)) HND.out HHJ.out HHU.out rfl hown3 hg3 hat3 HUN.out); (have hgc3 := hgr.1); (have hgf3 := hgr.2.1); (have hm3 := (HM2.out.kept ((show Ext w6 _ from by repeat (first | exact Ext.refl _ | apply Ext.drew | apply Ext.alloc)).grown none) (by simp)).kept hg3 (fun e => HUM.out e.symm)); (have hx3 : Ext w w3 := Ext.grown' (B := 0) (Ext.trans HXW.out (by repeat (first | exact Ext.refl _ | apply Ext.drew | apply Ext.alloc))) hg3 (fun b hb => Nat.le_trans (Nat.le_succ _) (HOU2.out.lt b hb).1))))
        all_goals
          have hgr3 := hgr.2.2
          have HGR := Lib.hid hgr3
          have HM3 := Lib.hid (hm3.setCell (a := ⟨g, gv.length, none⟩) (show w.heap.size ≠ g by have := HGB.out.1; omega) (.slice (some ⟨g3, 0, none⟩) ((grp (l.take k) xid).length + 1) cap3))
          have HX3 := Lib.hid (hx3.setCell (p := ⟨g, gv.length, none⟩) (show w.heap.size ≤ g by have := HGB.out.1; omega) (.slice (some ⟨g3, 0, none⟩) ((grp (l.take k) xid).length + 1) cap3))
          clear hgr hgr3 hm3 hx3 hown3 hg3 hat3 hgc3 hgf3 e0 e1 e2 e3 e4 hgc2 hgf2 
          go_wp2
          go_roundw
          case rel =>
            have hfm : ordE.firsts (l.take (k + 1)) = ordE.firsts (l.take k) ++ [xid] := HFN.out.trans (if_neg HMEM.out)
            exact ⟨k + 1, (gv ++ [Value.slice none 0 0]).set gv.length _, D.put (.string xid.data.toList) (.lit (.int .i64 (gv.length : Nat))), hlt, by go_num, by rw [hfm, HTK.out, HLEN.out]; exact HGR.out, HM3.out, by rw [hfm]; exact HPUT.out, HX3.out, HM3.out.lt⟩
          case measure => simp [intOf]; omega
    · have hke : k = l.length := by omega
      subst hke
      rw [List.take_of_length_le (Nat.le_refl _)] at hG hD
      have HG := Lib.hid hG
      clear hG hD hM hk hlt
      go_wp2
      go_ret
      refine ⟨_, gv, rfl, ?_, hx⟩
      have h1 := HG.out
      exact ⟨h1.len, own_mono h1.row (Nat.le_succ _), fun j s u hj hu => (h1.each j s u hj hu).mono (Nat.le_succ _), h1.apart⟩
end Go.Proofs.YtgecijhgonfldaaGreatDoor
