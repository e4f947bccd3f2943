/- Parts of the proof: contracts and plain laws that the statement needs. -/
import Derived.Test.YtgecijhgonfldaaGreatDoorQ11
import Derived.Maps.OwnSet
import Derived.Laws.OwnMore
namespace Go.Proofs.YtgecijhgonfldaaGreatDoor
open Go Go.RowKit
set_option linter.unusedVariables false
section
variable {α κ : Type} (O : Ord α κ)
theorem ins_at : ∀ (l : List α) (e : α) (k : Nat) (hk : k < l.length), (∀ x ∈ l.take k, O.lt e x = false) → O.lt e l[k] = true → O.ins l e = l.take k ++ e :: l.drop k
  | [], _, k, hk, _, _ => by simp at hk
  | y :: t, e, 0, _, _, h => by
    unfold Ord.ins
    rw [if_pos (by simpa using h)]
    rfl
  | y :: t, e, k + 1, hk, h, h2 => by
    unfold Ord.ins
    rw [if_neg (by simp [h y (by simp)])]
    rw [ins_at t e k (by simpa using hk) (fun x hx => h x (by simp [hx])) (by simpa using h2)]
    rfl
theorem ins_none : ∀ (l : List α) (e : α), (∀ x ∈ l, O.lt e x = false) → O.ins l e = l ++ [e]
  | [], _, _ => rfl
  | y :: t, e, h => by
    unfold Ord.ins
    rw [if_neg (by simp [h y (by simp)]), ins_none t e fun x hx => h x (by simp [hx])]
    rfl
end
section
variable {α κ : Type} [DecidableEq κ] (O : Ord α κ)
theorem scan_snd_id : ∀ (l : List α) (e : α), O.id (O.scan l e).2 = O.id e
  | [], _ => rfl
  | x :: t, e => by
    unfold Ord.scan
    by_cases h : O.id x = O.id e
    · rw [if_pos h, scan_snd_id t, O.op_id x e h]
    · rw [if_neg h]; exact scan_snd_id t e
theorem scan_snoc : ∀ (l : List α) (e x : α), O.scan (l ++ [x]) e = if O.id x = O.id e then ((O.scan l e).1, O.op x (O.scan l e).2) else ((O.scan l e).1 ++ [x], (O.scan l e).2)
  | [], e, x => by
    simp only [List.nil_append, Ord.scan]
  | y :: t, e, x => by
    show O.scan (y :: (t ++ [x])) e = _
    unfold Ord.scan
    by_cases h : O.id y = O.id e
    · rw [if_pos h, if_pos h, scan_snoc t (O.op y e) x, O.op_id y e h]
    · rw [if_neg h, if_neg h, scan_snoc t e x]
      by_cases h2 : O.id x = O.id e
      · rw [if_pos h2, if_pos h2]
      · rw [if_neg h2, if_neg h2]; rfl
end
def flatE (l : List Ent) : List Value := (l.map eCells).flatten
theorem flatE_app (a b : List Ent) : flatE (a ++ b) = flatE a ++ flatE b := by unfold flatE; rw [List.map_append, List.flatten_append]
theorem flatE_one (x : Ent) : flatE [x] = eCells x := by unfold flatE; simp
def REnts (w : World) (v : Value) (l : List Ent) : Prop := RSl w 5 v l.length (flatE l)
def OEnts (w : World) (B : Nat) (v : Value) (l : List Ent) : Prop := w.ownsRow B 23 5 v l.length (flatE l)
theorem OEnts.reads {w : World} {B : Nat} {v : Value} {l : List Ent} (h : OEnts w B v l) : REnts w v l := RSl.of_own h
theorem REnts.ext {w w' : World} {v : Value} {l : List Ent} (h : REnts w v l) (hx : Ext w w') : REnts w' v l := RSl.ext h hx
theorem OEnts.ext {w w' : World} {B : Nat} {v : Value} {l : List Ent} (h : OEnts w B v l) (hx : Ext w w') : OEnts w' B v l := own_ext h hx
theorem REnts.form {w : World} {v : Value} {l : List Ent} (h : REnts w v l) : ∃ A c, v = .slice A l.length c ∧ l.length ≤ c ∧ c ≤ maxLen := by
  obtain ⟨_, A, c, e, h1, h2, _⟩ := h
  exact ⟨A, c, e, h1, h2⟩
structure AtEnt (w : World) (p : Addr) (e : Ent) : Prop where
  c0 : w.cell? p = some (.string e.id)
  c1 : w.cell? ⟨p.block, p.off + 1, none⟩ = some (.string e.title)
  c2 : w.cell? ⟨p.block, p.off + 2, none⟩ = some (.string e.link)
  c3 : w.cell? ⟨p.block, p.off + 3, none⟩ = some (.string e.content)
  c4 : w.cell? ⟨p.block, p.off + 4, none⟩ = some (.int .i64 e.upd)
theorem AtEnt.ext {w w' : World} {p : Addr} {e : Ent} (h : AtEnt w p e) (hx : Ext w w') : AtEnt w' p e := ⟨hx.cell h.c0, hx.cell h.c1, hx.cell h.c2, hx.cell h.c3, hx.cell h.c4⟩
theorem REnts.at {w : World} {v : Value} {l : List Ent} (h : REnts w v l) {k : Nat} (hk : k < l.length) : ∃ ad c, v = .slice (some ad) l.length c ∧ AtEnt w (ad.add (k * 5)) l[k] := by
  obtain ⟨ad, c, e, hc⟩ := RSl.elem (k := 5) (css := l.map eCells) h (by decide) (by intro c hc; obtain ⟨x, _, rfl⟩ := List.mem_map.1 hc; rfl) k (eCells l[k]) (by rw [List.getElem?_map, List.getElem?_eq_getElem hk]; rfl)
  rw [Nat.mul_comm] at hc
  have hadd : ∀ i, 0 < i → (ad.add (k * 5)).add i = ⟨(ad.add (k * 5)).block, (ad.add (k * 5)).off + i, none⟩ := fun i hi => if_neg (by omega)
  refine ⟨ad, c, e, ?_, ?_, ?_, ?_, ?_⟩
  · have := hc 0 _ rfl; rwa [add_zero] at this
  · have := hc 1 _ rfl; rwa [hadd _ (by decide)] at this
  · have := hc 2 _ rfl; rwa [hadd _ (by decide)] at this
  · have := hc 3 _ rfl; rwa [hadd _ (by decide)] at this
  · have := hc 4 _ rfl; rwa [hadd _ (by decide)] at this
theorem info_ent : (Tryz.prog.info? 23).map (fun i => (i.zero, i.size, i.bytes)) = some (some (.agg #[.string ⟨#[]⟩, .string ⟨#[]⟩, .string ⟨#[]⟩, .string ⟨#[]⟩, .int .i64 0]), 5, 72) := info_entry
theorem ext_setBox {w wr : World} {A A' : Array Value} {t : TypeId} {fr : Nat × Nat} (h : Ext (w.alloc (.cells A t fr)) wr) : Ext (w.alloc (.cells A' t fr)) (wr.setRow w.heap.size A') := by
  have hh : Below (w.alloc (.cells A t fr)).heap.size (w.alloc (.cells A t fr)) wr := h
  refine ⟨hh.os, hh.tape, hh.output, by have := hh.size; simp at this ⊢; simpa [World.setRow] using this, fun k hk => ?_⟩
  have hk' : k < w.heap.size + 1 := by simpa using hk
  by_cases e : k = w.heap.size
  · subst e
    rw [setRow_heap wr w.heap.size A A' t fr (h.heap (heap_alloc_new w _)), heap_alloc_new]
  · rw [setRow_other _ _ _ _ e, hh.block k (by simpa using hk'), Below.heap_alloc _ _ _ (by omega), Below.heap_alloc _ _ _ (by omega)]
end Go.Proofs.YtgecijhgonfldaaGreatDoor
namespace Go.Proofs.YtgecijhgonfldaaGreatDoor
open Go Go.RowKit
set_option linter.unusedVariables false
theorem laterE_eok {a b : Ent} (ha : eok a) (hb : eok b) : eok (laterE a b) := by unfold laterE; split <;> assumption
theorem scan_eok : ∀ (l : List Ent) (e : Ent), (∀ x ∈ l, eok x) → eok e → eok (ordE.scan l e).2
  | [], _, _, h => h
  | x :: t, e, hl, h => by
    unfold Ord.scan
    split
    · exact scan_eok t _ (fun y hy => hl y (by simp [hy])) (laterE_eok (hl x (by simp)) h)
    · exact scan_eok t e (fun y hy => hl y (by simp [hy])) h
theorem scan_len : ∀ (l : List Ent) (e : Ent), (ordE.scan l e).1.length ≤ l.length
  | [], _ => Nat.le_refl _
  | x :: t, e => by
    unfold Ord.scan
    split
    · have := scan_len t (ordE.op x e); simp; omega
    · have := scan_len t e; simp; omega
theorem scan_mem : ∀ (l : List Ent) (e x : Ent), x ∈ (ordE.scan l e).1 → x ∈ l
  | [], _, _, h => by simp [Ord.scan] at h
  | y :: t, e, x, h => by
    unfold Ord.scan at h
    split at h
    · exact List.mem_cons_of_mem _ (scan_mem t _ x h)
    · rcases List.mem_cons.1 h with h | h
      · simp [h]
      · exact List.mem_cons_of_mem _ (scan_mem t _ x h)
theorem OEnts.mono {w : World} {B B' : Nat} {v : Value} {l : List Ent} (h : OEnts w B v l) (hB : B' ≤ B) : OEnts w B' v l := by
  refine ⟨h.1, ?_⟩
  rcases h.2 with h2 | ⟨g, cap, cur, h1, h2, h3⟩
  · exact Or.inl h2
  · exact Or.inr ⟨g, cap, cur, h1, Nat.le_trans hB h2, h3⟩
theorem OEnts.nil (w : World) (B : Nat) : OEnts w B (.slice none 0 0) [] := World.ownsRow_nil _ _ _ _
theorem OEnts.snoc {w : World} {B : Nat} {v : Value} {l : List Ent} {x : Ent} (h : w.ownsRow B 23 5 v (l.length + 1) (flatE l ++ eCells x)) : OEnts w B v (l ++ [x]) := by
  unfold OEnts
  rw [List.length_append, flatE_app, flatE_one]
  exact h
attribute [local go_sem] calm1
set_option maxRecDepth 100000 in
set_option maxHeartbeats 2000000 in
theorem refAdd_any (v : Value) (l : List Ent) (e : Ent) (w : World) (h : REnts w v l) (hl : ∀ x ∈ l, eok x) (he : eok e) (hn : l.length ≤ 1000000) :
    Calls Tryz.prog 53 #[v, .agg (eCells e).toArray] w fun x w' => ∃ v', x = .returned v' ∧ OEnts w' w.heap.size v' (ordE.put l e) ∧ Ext w w' := by
  obtain ⟨i0, hi0, hz0, hz1, hz2⟩ := info_parts info_ent
  obtain ⟨A, c, rfl, hlc, hcm⟩ := h.form
  have HSC := Lib.hid (fun k => scan_eok (l.take k) e (fun x hx => hl x (List.mem_of_mem_take hx)) he)
  have HSL := Lib.hid (fun k => scan_len (l.take k) e)
  have HL := Lib.hid hl
  clear hlc hcm hl
  go_enter Tryz.func53, Tryz.ntmps53
  go_wp2
  go_loopw [5, 6] (fun u i wr => ∃ k : Nat, k ≤ l.length ∧ i = .int .i64 k ∧ OEnts wr (w.heap.size + 1) u (ordE.scan (l.take k) e).1 ∧ Ext (w.alloc (.cells (eCells (ordE.scan (l.take k) e).2).toArray 23)) wr) (fun _ i _ => l.length - (intOf i).toNat)
  case atStart => exact ⟨0, Nat.zero_le _, rfl, OEnts.nil _ _, Ext.refl _⟩
  case round =>
    obtain ⟨k, hk, rfl, hown, hx⟩ := hrel
    by_cases hlt : k < l.length
    · have hxw : Ext w wr := ((Ext.refl w).alloc _).trans hx
      obtain ⟨ad, c', hv, hat⟩ := (h.ext hxw).at hlt
      injection hv with hv1 hv2 hv3
      subst hv1
      clear hv2 hv3
      have hsn := scan_snoc ordE (l.take k) e l[k]
      rw [← List.take_succ_eq_append_getElem hlt] at hsn
      have hse := scan_snd_id ordE (l.take k) e
      have hxok := HL.out l[k] (List.getElem_mem hlt)
      have hEok := HSC.out k
      have hRl := HSL.out k
      rw [List.length_take] at hRl
      obtain ⟨R, hR⟩ : ∃ R, (ordE.scan (l.take k) e).1 = R := ⟨_, rfl⟩
      obtain ⟨E, hEE⟩ : ∃ E, (ordE.scan (l.take k) e).2 = E := ⟨_, rfl⟩
      rw [hR, hEE] at hsn
      rw [hEE] at hse hEok hx
      rw [hR] at hRl hown
      obtain ⟨S, hS⟩ : ∃ S, ordE.scan (l.take (k + 1)) e = S := ⟨_, rfl⟩
      rw [hS] at hsn
      rw [← hse] at hsn
      obtain ⟨x, hxx⟩ : ∃ x, l[k] = x := ⟨_, rfl⟩
      rw [hxx] at hsn hat hxok
      have HS := Lib.hid hS
      have HLT := Lib.hid (fun w' => refLater_any x E w' hxok hEok)
      have hRn : R.length ≤ 1000000 := by omega
      clear hS hR hEE hse hxx hxok hEok hRl
      have hi0' : (0 : Int) ≤ (k : Int) := by omega
      have hi1 : (k : Int) < (l.length : Int) := by omega
      obtain ⟨a0, a1, a2, a3, a4⟩ := hat
      obtain ⟨eid, etitle, elink, econtent, eupd⟩ := E
      obtain ⟨xid, xtitle, xlink, xcontent, xupd⟩ := x
      simp only at a0 a1 a2 a3 a4
      have q0 : ∀ d : Aft wr, d.w.cell? (ad.add (k * 5)) = some (.string xid) := Aft.cell a0
      have b0 : ∀ d : Aft wr, d.w.cell? ⟨w.heap.size, 0, none⟩ = some (.string eid) := fun d => (hx.trans d.ext).boxed 0 _ rfl
      cases hid : (xid.toList == eid.toList) with
      | true =>
        have hide : xid = eid := toList_inj (by simpa using hid)
        rw [if_pos (show ordE.id ⟨xid, xtitle, xlink, xcontent, xupd⟩ = ordE.id ⟨eid, etitle, elink, econtent, eupd⟩ from hide)] at hsn
        have HSN := Lib.hid hsn
        clear hsn hide
        obtain ⟨r, hr⟩ : ∃ r, laterE ⟨xid, xtitle, xlink, xcontent, xupd⟩ ⟨eid, etitle, elink, econtent, eupd⟩ = r := ⟨_, rfl⟩
        have HR := Lib.hid hr
        rw [hr] at HLT
        clear hr
        unfold eCells at HLT
        dsimp only at HLT
        go_wp2
        refine wp_region_aft (by kernel_rfl) (by kernel_rfl) ?_
        repeat (first | go_big_quiet_step (fail) | quiet_step (fail))
        refine wpQuiet_nil ?_
        rintro _ ⟨d1, rfl⟩
        have hx1 := hx.trans d1.ext
        have hown1 := hown.ext d1.ext
        have c0 : ∀ d : Aft d1.w, d.w.cell? (ad.add (k * 5)) = some (.string xid) := fun d => (d1.ext.trans d.ext).cell a0
        have c1 : ∀ d : Aft d1.w, d.w.cell? ⟨(ad.add (k * 5)).block, (ad.add (k * 5)).off + 1, none⟩ = some (.string xtitle) := fun d => (d1.ext.trans d.ext).cell a1
        have c2 : ∀ d : Aft d1.w, d.w.cell? ⟨(ad.add (k * 5)).block, (ad.add (k * 5)).off + 2, none⟩ = some (.string xlink) := fun d => (d1.ext.trans d.ext).cell a2
        have c3 : ∀ d : Aft d1.w, d.w.cell? ⟨(ad.add (k * 5)).block, (ad.add (k * 5)).off + 3, none⟩ = some (.string xcontent) := fun d => (d1.ext.trans d.ext).cell a3
        have c4 : ∀ d : Aft d1.w, d.w.cell? ⟨(ad.add (k * 5)).block, (ad.add (k * 5)).off + 4, none⟩ = some (.int .i64 xupd) := fun d => (d1.ext.trans d.ext).cell a4
        have e0 : ∀ d : Aft d1.w, d.w.cell? ⟨w.heap.size, 0, none⟩ = some (.string eid) := fun d => (hx1.trans d.ext).boxed 0 _ rfl
        have e1 : ∀ d : Aft d1.w, d.w.cell? ⟨w.heap.size, 1, none⟩ = some (.string etitle) := fun d => (hx1.trans d.ext).boxed 1 _ rfl
        have e2 : ∀ d : Aft d1.w, d.w.cell? ⟨w.heap.size, 2, none⟩ = some (.string elink) := fun d => (hx1.trans d.ext).boxed 2 _ rfl
        have e3 : ∀ d : Aft d1.w, d.w.cell? ⟨w.heap.size, 3, none⟩ = some (.string econtent) := fun d => (hx1.trans d.ext).boxed 3 _ rfl
        have e4 : ∀ d : Aft d1.w, d.w.cell? ⟨w.heap.size, 4, none⟩ = some (.int .i64 eupd) := fun d => (hx1.trans d.ext).boxed 4 _ rfl
        have hbx : ∀ d : Aft d1.w, d.w.heap[w.heap.size]? = some (.cells (eCells ⟨eid, etitle, elink, econtent, eupd⟩).toArray 23) := fun d => (hx1.trans d.ext).heap (heap_alloc_new w _)
        clear q0 b0 a0 a1 a2 a3 a4 hid
        go_wp2
        refine wp_region_tail 6 (by kernel_rfl) (by kernel_rfl) ?_
        repeat (refine wpCalm_step (fun K hK => ?_); go_simp; first | (refine hK _ ?_; clear hK K) | (apply Exists.intro; refine ⟨fun _ => ?_, hK _ ?_⟩; (go_at_call 39; exact quiet_callC (HLT.out _)); clear hK K))
        refine wpCalm_nil ?_
        intro d
        have hbd := hbx d
        have hxd := hx1.trans d.ext
        have hod := hown1.ext d.ext
        clear c0 c1 c2 c3 c4 e0 e1 e2 e3 e4 hbx
        refine wpList_store_row rfl 23 (.tmp 3) (.tmp 29) rfl w.heap.size _ rfl rfl _ _ hbd size_ent rfl (oneA (eCells_one r)) ?_
        go_wp2
        go_roundw
        case rel =>
          have hS := HS.out
          have hSN := HSN.out
          have hR := HR.out
          refine ⟨k + 1, by omega, by go_num, ?_, ?_⟩
          · rw [hS, hSN]; exact own_setRow hod (by omega) _
          · rw [hS, hSN]
            show Ext (w.alloc (.cells (eCells (laterE _ _)).toArray 23)) _
            rw [hR]
            exact ext_setBox hxd
        case measure => simp [intOf]; omega
      | false =>
        have hide : ¬ xid = eid := by
          intro e'
          rw [e'] at hid
          simp at hid
        rw [if_neg (show ¬ ordE.id ⟨xid, xtitle, xlink, xcontent, xupd⟩ = ordE.id ⟨eid, etitle, elink, econtent, eupd⟩ from hide)] at hsn
        have HSN := Lib.hid hsn
        clear hsn hide HLT
        go_wp2
        refine wp_region_aft (by kernel_rfl) (by kernel_rfl) ?_
        repeat (first | go_big_quiet_step (fail) | quiet_step (fail))
        refine wpQuiet_nil ?_
        rintro _ ⟨d1, rfl⟩
        have hx1 := hx.trans d1.ext
        have hown1 := hown.ext d1.ext
        have c0 := d1.ext.cell a0
        have c1 := d1.ext.cell a1
        have c2 := d1.ext.cell a2
        have c3 := d1.ext.cell a3
        have c4 := d1.ext.cell a4
        clear q0 b0 a0 a1 a2 a3 a4 hid
        unfold OEnts at hown1
        have hml : R.length + 1 ≤ maxLen := by unfold maxLen; omega
        have hby : (R.length + 1) * 72 ≤ 140737488355328 := by omega
        have hsz1 : w.heap.size + 1 ≤ d1.w.heap.size := by have := hx1.size; simpa using this
        have HML := Lib.hid hml
        have HBY := Lib.hid hby
        clear hml hby
        go_wp2_with (first
          | (at_builtin; refine wpList_append_rsl _ rfl (.tmp 30) (.tmp 35) _ rfl (w.heap.size + 1) 23 i0 _ 5 72 Tryz.underlying33 hi0 hz0 hz1 hz2 rfl (by decide) _ _ _ rfl (hown1.alloc _) _ 1 (eCells ⟨xid, xtitle, xlink, xcontent, xupd⟩) rfl (rsl_new rfl (by decide)) (eCells_one _) HML.out HBY.out ?cb ?_; (case cb => simp; omega); intro v2 w2 hown2 hg2 hat2))
        have hx2 : Ext (w.alloc (.cells (eCells ⟨eid, etitle, elink, econtent, eupd⟩).toArray 23)) w2 := Ext.app (hx1.alloc _) hg2 (hown1.alloc _) (by simp)
        go_roundw
        case rel =>
          have hS := HS.out
          have hSN := HSN.out
          refine ⟨k + 1, by omega, by go_num, ?_, ?_⟩
          · rw [hS, hSN]; exact OEnts.snoc hown2
          · rw [hS, hSN]; exact hx2
        case measure => simp [intOf]; omega
    · have hke : k = l.length := by omega
      subst hke
      rw [List.take_of_length_le (Nat.le_refl _)] at hown hx
      have hRl := HSL.out l.length
      rw [List.take_of_length_le (Nat.le_refl _)] at hRl
      obtain ⟨R, hR⟩ : ∃ R, (ordE.scan l e).1 = R := ⟨_, rfl⟩
      obtain ⟨E, hEE⟩ : ∃ E, (ordE.scan l e).2 = E := ⟨_, rfl⟩
      have hput : ordE.put l e = ordE.ins R E := by unfold Ord.put; rw [hR, hEE]
      rw [hR] at hown hRl
      rw [hEE] at hx
      have HP := Lib.hid hput
      have hRn : R.length ≤ 1000000 := by omega
      clear hput hR hEE hRl HSC HSL HL hlt hk hn h
      obtain ⟨A2, c2, rfl, _, _⟩ := hown.reads.form
      have hownR := hown.reads
      obtain ⟨wo, hwo⟩ : ∃ wo : World, wo = wr := ⟨_, rfl⟩
      have hx0 : Ext (w.alloc (.cells (eCells E).toArray 23)) wo := by rw [hwo]; exact hx
      have hR0 : REnts wo (.slice A2 R.length c2) R := by rw [hwo]; exact hownR
      have hxs : Ext wo wr := by rw [hwo]; exact Ext.refl _
      clear hwo hx hown hownR
      obtain ⟨eid, etitle, elink, econtent, eupd⟩ := E
      have b0 : wo.cell? ⟨w.heap.size, 0, none⟩ = some (.string eid) := hx0.boxed 0 _ rfl
      have b1 : wo.cell? ⟨w.heap.size, 1, none⟩ = some (.string etitle) := hx0.boxed 1 _ rfl
      have b2 : wo.cell? ⟨w.heap.size, 2, none⟩ = some (.string elink) := hx0.boxed 2 _ rfl
      have b3 : wo.cell? ⟨w.heap.size, 3, none⟩ = some (.string econtent) := hx0.boxed 3 _ rfl
      have b4 : wo.cell? ⟨w.heap.size, 4, none⟩ = some (.int .i64 eupd) := hx0.boxed 4 _ rfl
      have B0 := Lib.hid b0
      have B1 := Lib.hid b1
      have B2 := Lib.hid b2
      have B3 := Lib.hid b3
      have B4 := Lib.hid b4
      clear b0 b1 b2 b3 b4
      go_wp2
      go_loopw [7, 8, 9] (fun o dn i w2 => ∃ (k : Nat) (done : Bool) (out : List Ent), k ≤ R.length ∧ i = .int .i64 k ∧ dn = .bool done ∧ OEnts w2 wo.heap.size o out ∧ Ext wo w2 ∧ out.length ≤ k + 1 ∧
          Hid ((done = false → out = R.take k ∧ ∀ x ∈ R.take k, ordE.lt ⟨eid, etitle, elink, econtent, eupd⟩ x = false) ∧ (done = true → out ++ R.drop k = ordE.ins R ⟨eid, etitle, elink, econtent, eupd⟩))) (fun _ _ i _ => R.length - (intOf i).toNat)
      case atStart => exact ⟨0, false, [], Nat.zero_le _, rfl, rfl, OEnts.nil _ _, hxs, by simp, ⟨fun _ => ⟨rfl, by simp⟩, fun h => by cases h⟩⟩
      case round =>
        obtain ⟨k, done, out, hk, rfl, rfl, hown2, hxo, hol, hinv⟩ := hrel
        by_cases hlt : k < R.length
        · obtain ⟨ad, c', hv, hat⟩ := hR0.at hlt
          injection hv with hv1 hv2 hv3
          subst hv1
          clear hv2 hv3
          have htk := List.take_succ_eq_append_getElem hlt
          have hdk := List.drop_eq_getElem_cons hlt
          have hia := ins_at ordE R ⟨eid, etitle, elink, econtent, eupd⟩ k hlt
          obtain ⟨x, hxx⟩ : ∃ x, R[k] = x := ⟨_, rfl⟩
          rw [hxx] at hat htk hdk hia
          have HTK := Lib.hid htk
          have HDK := Lib.hid hdk
          have HIA := Lib.hid hia
          have HCMP := Lib.hid (fun w' => refCmpE_any ⟨eid, etitle, elink, econtent, eupd⟩ x w')
          have hltd : ordE.lt ⟨eid, etitle, elink, econtent, eupd⟩ x = decide (entCmp ⟨eid, etitle, elink, econtent, eupd⟩ x < 0) := rfl
          have HLT := Lib.hid hltd
          clear htk hdk hia hltd hxx
          obtain ⟨cc, hcc⟩ : ∃ cc, entCmp ⟨eid, etitle, elink, econtent, eupd⟩ x = cc := ⟨_, rfl⟩
          rw [hcc] at HCMP HLT
          clear hcc
          have hi0' : (0 : Int) ≤ (k : Int) := by omega
          have hi1 : (k : Int) < (R.length : Int) := by omega
          obtain ⟨a0, a1, a2, a3, a4⟩ := hat
          have b0 := B0.out
          have b1 := B1.out
          have b2 := B2.out
          have b3 := B3.out
          have b4 := B4.out
          obtain ⟨xid, xtitle, xlink, xcontent, xupd⟩ := x
          simp only at a0 a1 a2 a3 a4
          unfold eCells at HCMP
          dsimp only at HCMP
          have HBY : Hid ((out.length + 1) * 72 ≤ 140737488355328) := Lib.hid (by omega)
          have HBY2 : Hid ((out.length + 1 + 1) * 72 ≤ 140737488355328) := Lib.hid (by omega)
          have HML2 : Hid (out.length + 1 + 1 ≤ maxLen) := Lib.hid (by unfold maxLen; omega)
          have HML : Hid (out.length + 1 ≤ maxLen) := Lib.hid (by unfold maxLen; omega)
          have HOL := Lib.hid hol
          clear hol
          cases done with
          | true =>
            have hinv' := hinv.out.2 rfl
            have HI := Lib.hid hinv'
            clear hinv hinv'
            have f0 : ∀ d : Aft wr, d.w.cell? (ad.add (k * 5)) = some (.string xid) := fun d => (hxo.trans d.ext).cell a0
            have f1 : ∀ d : Aft wr, d.w.cell? ⟨(ad.add (k * 5)).block, (ad.add (k * 5)).off + 1, none⟩ = some (.string xtitle) := fun d => (hxo.trans d.ext).cell a1
            have f2 : ∀ d : Aft wr, d.w.cell? ⟨(ad.add (k * 5)).block, (ad.add (k * 5)).off + 2, none⟩ = some (.string xlink) := fun d => (hxo.trans d.ext).cell a2
            have f3 : ∀ d : Aft wr, d.w.cell? ⟨(ad.add (k * 5)).block, (ad.add (k * 5)).off + 3, none⟩ = some (.string xcontent) := fun d => (hxo.trans d.ext).cell a3
            have f4 : ∀ d : Aft wr, d.w.cell? ⟨(ad.add (k * 5)).block, (ad.add (k * 5)).off + 4, none⟩ = some (.int .i64 xupd) := fun d => (hxo.trans d.ext).cell a4
            have g0 : ∀ d : Aft wr, d.w.cell? ⟨w.heap.size, 0, none⟩ = some (.string eid) := fun d => (hxo.trans d.ext).cell b0
            have g1 : ∀ d : Aft wr, d.w.cell? ⟨w.heap.size, 1, none⟩ = some (.string etitle) := fun d => (hxo.trans d.ext).cell b1
            have g2 : ∀ d : Aft wr, d.w.cell? ⟨w.heap.size, 2, none⟩ = some (.string elink) := fun d => (hxo.trans d.ext).cell b2
            have g3 : ∀ d : Aft wr, d.w.cell? ⟨w.heap.size, 3, none⟩ = some (.string econtent) := fun d => (hxo.trans d.ext).cell b3
            have g4 : ∀ d : Aft wr, d.w.cell? ⟨w.heap.size, 4, none⟩ = some (.int .i64 eupd) := fun d => (hxo.trans d.ext).cell b4
            go_wp2
            refine wp_region_aft (by kernel_rfl) (by kernel_rfl) ?_
            repeat (first | go_big_quiet_step ((first | (go_at_call 55; with_reducible exact quiet_call (HCMP.out _)))) | quiet_step ((first | (go_at_call 55; with_reducible exact quiet_call (HCMP.out _)))))
            refine wpQuiet_nil ?_
            rintro _ ⟨d1, rfl⟩
            have hx1 := hxo.trans d1.ext
            have hown1 := hown2.ext d1.ext
            clear f0 f1 f2 f3 f4 g0 g1 g2 g3 g4
            have p0 := hx1.cell a0
            have p1 := hx1.cell a1
            have p2 := hx1.cell a2
            have p3 := hx1.cell a3
            have p4 := hx1.cell a4
            have r0 := hx1.cell b0
            have r1 := hx1.cell b1
            have r2 := hx1.cell b2
            have r3 := hx1.cell b3
            have r4 := hx1.cell b4
            unfold OEnts at hown1
            go_wp2_with (first | (at_builtin; refine wpList_append_rsl _ rfl (.tmp 58) (.tmp 63) _ rfl wo.heap.size 23 i0 _ 5 72 Tryz.underlying33 hi0 hz0 hz1 hz2 rfl (by decide) _ _ _ rfl (hown1.alloc _) _ 1 (eCells ⟨xid, xtitle, xlink, xcontent, xupd⟩) rfl (rsl_new rfl (by decide)) (eCells_one _) HML.out HBY.out ?_ ?_; (have := hx1.size; simp; omega); intro v3 w3 hown3 hg3 hat3))
            have hx3 : Ext wo w3 := Ext.app (hx1.alloc _) hg3 (hown1.alloc _) (Nat.le_refl _)
            go_roundw
            case rel => exact ⟨k + 1, true, out ++ [⟨xid, xtitle, xlink, xcontent, xupd⟩], by omega, by go_num, rfl, OEnts.snoc hown3, hx3, by have := HOL.out; simp; omega, ⟨(fun h => by cases h), fun _ => by rw [List.append_assoc, List.singleton_append, ← HDK.out]; exact HI.out⟩⟩
            case measure => simp [intOf]; omega
          | false =>
            have hinv' := hinv.out.1 rfl
            have HI := Lib.hid hinv'
            clear hinv hinv'
            by_cases hcl : cc < 0
            · have hcd := decide_eq_true hcl
              have f0 : ∀ d : Aft wr, d.w.cell? (ad.add (k * 5)) = some (.string xid) := fun d => (hxo.trans d.ext).cell a0
              have f1 : ∀ d : Aft wr, d.w.cell? ⟨(ad.add (k * 5)).block, (ad.add (k * 5)).off + 1, none⟩ = some (.string xtitle) := fun d => (hxo.trans d.ext).cell a1
              have f2 : ∀ d : Aft wr, d.w.cell? ⟨(ad.add (k * 5)).block, (ad.add (k * 5)).off + 2, none⟩ = some (.string xlink) := fun d => (hxo.trans d.ext).cell a2
              have f3 : ∀ d : Aft wr, d.w.cell? ⟨(ad.add (k * 5)).block, (ad.add (k * 5)).off + 3, none⟩ = some (.string xcontent) := fun d => (hxo.trans d.ext).cell a3
              have f4 : ∀ d : Aft wr, d.w.cell? ⟨(ad.add (k * 5)).block, (ad.add (k * 5)).off + 4, none⟩ = some (.int .i64 xupd) := fun d => (hxo.trans d.ext).cell a4
              have g0 : ∀ d : Aft wr, d.w.cell? ⟨w.heap.size, 0, none⟩ = some (.string eid) := fun d => (hxo.trans d.ext).cell b0
              have g1 : ∀ d : Aft wr, d.w.cell? ⟨w.heap.size, 1, none⟩ = some (.string etitle) := fun d => (hxo.trans d.ext).cell b1
              have g2 : ∀ d : Aft wr, d.w.cell? ⟨w.heap.size, 2, none⟩ = some (.string elink) := fun d => (hxo.trans d.ext).cell b2
              have g3 : ∀ d : Aft wr, d.w.cell? ⟨w.heap.size, 3, none⟩ = some (.string econtent) := fun d => (hxo.trans d.ext).cell b3
              have g4 : ∀ d : Aft wr, d.w.cell? ⟨w.heap.size, 4, none⟩ = some (.int .i64 eupd) := fun d => (hxo.trans d.ext).cell b4
              go_wp2
              refine wp_region_aft (by kernel_rfl) (by kernel_rfl) ?_
              repeat (first | go_big_quiet_step ((first | (go_at_call 55; with_reducible exact quiet_call (HCMP.out _)))) | quiet_step ((first | (go_at_call 55; with_reducible exact quiet_call (HCMP.out _)))))
              refine wpQuiet_nil ?_
              rintro _ ⟨d1, rfl⟩
              have hx1 := hxo.trans d1.ext
              have hown1 := hown2.ext d1.ext
              clear f0 f1 f2 f3 f4 g0 g1 g2 g3 g4
              have p0 := hx1.cell a0
              have p1 := hx1.cell a1
              have p2 := hx1.cell a2
              have p3 := hx1.cell a3
              have p4 := hx1.cell a4
              have r0 := hx1.cell b0
              have r1 := hx1.cell b1
              have r2 := hx1.cell b2
              have r3 := hx1.cell b3
              have r4 := hx1.cell b4
              unfold OEnts at hown1
              go_wp2_with (first
                | (at_builtin; refine wpList_append_rsl _ rfl (.tmp 54) (.tmp 56) _ rfl wo.heap.size 23 i0 _ 5 72 Tryz.underlying33 hi0 hz0 hz1 hz2 rfl (by decide) _ _ _ rfl (hown1.alloc _) _ 1 (eCells ⟨eid, etitle, elink, econtent, eupd⟩) rfl (rsl_new rfl (by decide)) (eCells_one _) HML.out HBY.out ?_ ?_; (have := hx1.size; simp; omega); intro v3 w3 hown3 hg3 hat3; (have hx3 : Ext wo w3 := Ext.app (hx1.alloc _) hg3 (hown1.alloc _) (Nat.le_refl _)); (have s0 := hx3.cell a0); (have s1 := hx3.cell a1); (have s2 := hx3.cell a2); (have s3 := hx3.cell a3); (have s4 := hx3.cell a4))
                | (at_builtin; refine wpList_append_rsl _ rfl (.tmp 58) (.tmp 63) _ rfl wo.heap.size 23 i0 _ 5 72 Tryz.underlying33 hi0 hz0 hz1 hz2 rfl (by decide) _ _ _ rfl (hown3.alloc _) _ 1 (eCells ⟨xid, xtitle, xlink, xcontent, xupd⟩) rfl (rsl_new rfl (by decide)) (eCells_one _) HML2.out HBY2.out ?_ ?_; (have := hx3.size; simp; omega); intro v4 w4 hown4 hg4 hat4; (have hx4 : Ext wo w4 := Ext.app (hx3.alloc _) hg4 (hown3.alloc _) (Nat.le_refl _))))
              go_roundw
              case rel =>
                have e1 : w4.ownsRow wo.heap.size 23 5 v4 ((out ++ ([⟨eid, etitle, elink, econtent, eupd⟩] : List Ent)).length + 1) (flatE (out ++ ([⟨eid, etitle, elink, econtent, eupd⟩] : List Ent)) ++ eCells ⟨xid, xtitle, xlink, xcontent, xupd⟩) := by rw [List.length_append, flatE_app, flatE_one]; exact hown4
                refine ⟨k + 1, true, (out ++ [⟨eid, etitle, elink, econtent, eupd⟩]) ++ [⟨xid, xtitle, xlink, xcontent, xupd⟩], by omega, by go_num, rfl, OEnts.snoc e1, hx4, ?_, ⟨(fun h => by cases h), fun _ => ?_⟩⟩
                · have h1 := HI.out.1
                  rw [h1]; simp; omega
                · have h1 := HI.out
                  rw [HIA.out h1.2 (by rw [HLT.out]; exact hcd), HDK.out, h1.1]
                  simp
              case measure => simp [intOf]; omega
            · have hcd := decide_eq_false hcl
              have f0 : ∀ d : Aft wr, d.w.cell? (ad.add (k * 5)) = some (.string xid) := fun d => (hxo.trans d.ext).cell a0
              have f1 : ∀ d : Aft wr, d.w.cell? ⟨(ad.add (k * 5)).block, (ad.add (k * 5)).off + 1, none⟩ = some (.string xtitle) := fun d => (hxo.trans d.ext).cell a1
              have f2 : ∀ d : Aft wr, d.w.cell? ⟨(ad.add (k * 5)).block, (ad.add (k * 5)).off + 2, none⟩ = some (.string xlink) := fun d => (hxo.trans d.ext).cell a2
              have f3 : ∀ d : Aft wr, d.w.cell? ⟨(ad.add (k * 5)).block, (ad.add (k * 5)).off + 3, none⟩ = some (.string xcontent) := fun d => (hxo.trans d.ext).cell a3
              have f4 : ∀ d : Aft wr, d.w.cell? ⟨(ad.add (k * 5)).block, (ad.add (k * 5)).off + 4, none⟩ = some (.int .i64 xupd) := fun d => (hxo.trans d.ext).cell a4
              have g0 : ∀ d : Aft wr, d.w.cell? ⟨w.heap.size, 0, none⟩ = some (.string eid) := fun d => (hxo.trans d.ext).cell b0
              have g1 : ∀ d : Aft wr, d.w.cell? ⟨w.heap.size, 1, none⟩ = some (.string etitle) := fun d => (hxo.trans d.ext).cell b1
              have g2 : ∀ d : Aft wr, d.w.cell? ⟨w.heap.size, 2, none⟩ = some (.string elink) := fun d => (hxo.trans d.ext).cell b2
              have g3 : ∀ d : Aft wr, d.w.cell? ⟨w.heap.size, 3, none⟩ = some (.string econtent) := fun d => (hxo.trans d.ext).cell b3
              have g4 : ∀ d : Aft wr, d.w.cell? ⟨w.heap.size, 4, none⟩ = some (.int .i64 eupd) := fun d => (hxo.trans d.ext).cell b4
              go_wp2
              refine wp_region_aft (by kernel_rfl) (by kernel_rfl) ?_
              repeat (first | go_big_quiet_step ((first | (go_at_call 55; with_reducible exact quiet_call (HCMP.out _)))) | quiet_step ((first | (go_at_call 55; with_reducible exact quiet_call (HCMP.out _)))))
              refine wpQuiet_nil ?_
              rintro _ ⟨d1, rfl⟩
              have hx1 := hxo.trans d1.ext
              have hown1 := hown2.ext d1.ext
              clear f0 f1 f2 f3 f4 g0 g1 g2 g3 g4
              have p0 := hx1.cell a0
              have p1 := hx1.cell a1
              have p2 := hx1.cell a2
              have p3 := hx1.cell a3
              have p4 := hx1.cell a4
              have r0 := hx1.cell b0
              have r1 := hx1.cell b1
              have r2 := hx1.cell b2
              have r3 := hx1.cell b3
              have r4 := hx1.cell b4
              unfold OEnts at hown1
              go_wp2_with (first
                | (at_builtin; refine wpList_append_rsl _ rfl (.tmp 58) (.tmp 63) _ rfl wo.heap.size 23 i0 _ 5 72 Tryz.underlying33 hi0 hz0 hz1 hz2 rfl (by decide) _ _ _ rfl (hown1.alloc _) _ 1 (eCells ⟨xid, xtitle, xlink, xcontent, xupd⟩) rfl (rsl_new rfl (by decide)) (eCells_one _) HML.out HBY.out ?_ ?_; (have := hx1.size; simp; omega); intro v3 w3 hown3 hg3 hat3; (have hx3 : Ext wo w3 := Ext.app (hx1.alloc _) hg3 (hown1.alloc _) (Nat.le_refl _))))
              go_roundw
              case rel =>
                refine ⟨k + 1, false, out ++ [⟨xid, xtitle, xlink, xcontent, xupd⟩], by omega, by go_num, rfl, OEnts.snoc hown3, hx3, by have := HOL.out; simp; omega, ⟨fun _ => ⟨by rw [HTK.out, HI.out.1], ?_⟩, (fun h => by cases h)⟩⟩
                intro y hy
                rw [HTK.out] at hy
                rcases List.mem_append.1 hy with hy | hy
                · exact HI.out.2 y hy
                · simp only [List.mem_cons, List.mem_nil_iff, or_false] at hy
                  rw [hy, HLT.out]; exact hcd
              case measure => simp [intOf]; omega
        · have hke : k = R.length := by omega
          subst hke
          have hxw : Ext w wo := ((Ext.refl w).alloc _).trans hx0
          have hws := hxw.size
          cases done with
          | true =>
            have hinv' := hinv.out.2 rfl
            rw [List.drop_of_length_le (Nat.le_refl _), List.append_nil] at hinv'
            have hfin : ordE.put l e = out := HP.out.trans hinv'.symm
            have HF := Lib.hid hfin
            clear hfin hinv hinv'
            go_wp2
            go_ret
            exact ⟨_, rfl, by rw [HF.out]; exact hown2.mono hws, hxw.trans hxo⟩
          | false =>
            have hinv' := hinv.out.1 rfl
            rw [List.take_of_length_le (Nat.le_refl _)] at hinv'
            have hfin : ordE.put l e = out ++ [⟨eid, etitle, elink, econtent, eupd⟩] := by rw [HP.out, ins_none ordE R _ hinv'.2, hinv'.1]
            have HF := Lib.hid hfin
            clear hfin hinv hinv'
            have r0 := hxo.cell B0.out
            have r1 := hxo.cell B1.out
            have r2 := hxo.cell B2.out
            have r3 := hxo.cell B3.out
            have r4 := hxo.cell B4.out
            have hml : out.length + 1 ≤ maxLen := by unfold maxLen; omega
            have hby : (out.length + 1) * 72 ≤ 140737488355328 := by omega
            have HML := Lib.hid hml
            have HBY := Lib.hid hby
            clear hml hby
            unfold OEnts at hown2
            go_wp2_with (first
              | (at_builtin; refine wpList_append_rsl _ rfl (.tmp 67) (.tmp 69) _ rfl wo.heap.size 23 i0 _ 5 72 Tryz.underlying33 hi0 hz0 hz1 hz2 rfl (by decide) _ _ _ rfl (hown2.alloc _) _ 1 (eCells ⟨eid, etitle, elink, econtent, eupd⟩) rfl (rsl_new rfl (by decide)) (eCells_one _) HML.out HBY.out ?_ ?_; (have := hxo.size; simp; omega); intro v3 w3 hown3 hg3 hat3; (have hx3 : Ext wo w3 := Ext.app (hxo.alloc _) hg3 (hown2.alloc _) (Nat.le_refl _))))
            go_ret
            exact ⟨_, rfl, by rw [HF.out]; exact (OEnts.snoc hown3).mono hws, hxw.trans hx3⟩
end Go.Proofs.YtgecijhgonfldaaGreatDoor
namespace Go.Proofs.YtgecijhgonfldaaGreatDoor
open Go Go.RowKit Go.WideMaps Go.Maps
set_option linter.unusedVariables false
def grp (l : List Ent) (s : ByteArray) : List Ent := l.filter fun x => decide (ordE.id x = s)
structure Grps (w : World) (B : Nat) (v : Value) (l : List Ent) (fs : List ByteArray) (gv : List Value) : Prop where
  len : gv.length = fs.length
  row : w.ownsRow B 33 1 v gv.length gv
  each : ∀ (j : Nat) (s : ByteArray) (u : Value), fs[j]? = some s → gv[j]? = some u → OEnts w B u (grp l s)
  apart : ∀ (i j : Nat) (u u' : Value), gv[i]? = some u → gv[j]? = some u' → i ≠ j → ∀ g, u.ownBlock = some g → u'.ownBlock ≠ some g
theorem Grps.ext {w w' : World} {B : Nat} {v : Value} {l : List Ent} {fs : List ByteArray} {gv : List Value} (h : Grps w B v l fs gv) (hx : Ext w w') : Grps w' B v l fs gv :=
  ⟨h.len, own_ext h.row hx, fun j s u h1 h2 => (h.each j s u h1 h2).ext hx, h.apart⟩
theorem Grps.nil (w : World) (B : Nat) : Grps w B (.slice none 0 0) [] [] [] := ⟨rfl, World.ownsRow_nil _ _ _ _, by simp, by simp⟩
def IdxMap (D : DataW Unit) (fs : List ByteArray) : Prop :=
  IsMap D ∧ ∀ s : ByteArray, (Maps.has D (.string s.data.toList) = true ↔ s ∈ fs) ∧ ∀ j : Nat, fs[j]? = some s → D.atKey (.string s.data.toList) (.lit (.int .i64 0)) = .lit (.int .i64 j)
theorem IdxMap.nil : IdxMap (.map []) [] := ⟨isMap_empty, fun s => ⟨by simp [Maps.has], by simp⟩⟩
theorem keyLit_str (s : List UInt8) : WideAt.IsKeyLit (.string s) := trivial
theorem IdxMap.put {D : DataW Unit} {fs : List ByteArray} {s : ByteArray} (h : IdxMap D fs) (hs : s ∉ fs) : IdxMap (D.put (.string s.data.toList) (.lit (.int .i64 (fs.length : Nat)))) (fs ++ [s]) := by
  refine ⟨h.1.put _ _, fun t => ?_⟩
  by_cases e : t = s
  · subst e
    refine ⟨⟨fun _ => by simp, fun _ => has_put_same h.1 (keyLit_str _) _⟩, fun j hj => ?_⟩
    rw [atKey_put_same h.1 (keyLit_str _)]
    have : j = fs.length := by
      rcases Nat.lt_trichotomy j fs.length with h1 | h1 | h1
      · rw [List.getElem?_append_left h1] at hj
        exact absurd (List.mem_of_getElem? hj) hs
      · exact h1
      · rw [List.getElem?_eq_none (by simp; omega)] at hj; cases hj
    rw [this]
  · have hne : (Lit.string t.data.toList) ≠ .string s.data.toList := by
      intro h'
      injection h' with h'
      exact e (data_inj h')
    obtain ⟨h1, h2⟩ := h.2 t
    rw [has_put_other hne, h1]
    refine ⟨by simp [e], fun j hj => ?_⟩
    rw [atKey_put_other hne]
    refine h2 j ?_
    rcases Nat.lt_or_ge j fs.length with h3 | h3
    · rwa [List.getElem?_append_left h3] at hj
    · rw [List.getElem?_append_right h3] at hj
      rcases Nat.eq_zero_or_pos (j - fs.length) with h4 | h4
      · rw [h4] at hj; simp at hj; exact absurd hj.symm e
      · rw [List.getElem?_eq_none (by simp; omega)] at hj; cases hj
theorem grp_snoc (l : List Ent) (x : Ent) (s : ByteArray) : grp (l ++ [x]) s = if ordE.id x = s then grp l s ++ [x] else grp l s := by
  unfold grp
  rw [List.filter_append]
  by_cases h : ordE.id x = s
  · rw [if_pos h]; simp [h]
  · rw [if_neg h]; simp [h]
theorem mem_grp_new {l : List Ent} {s : ByteArray} (h : s ∉ ordE.firsts l) : grp l s = [] := by
  unfold grp
  rw [List.filter_eq_nil_iff]
  intro x hx
  simp only [decide_eq_true_eq]
  intro e
  exact h ((ordE.mem_firsts l s).2 ⟨x, hx, e⟩)
theorem Ext.grown' {B : Nat} {a b c : World} {row : Option Nat} (h : Ext a b) (hg : b.grownBy c row) (hr : ∀ g, row = some g → a.heap.size ≤ g) : Ext a c :=
  Below.grown h hg h.size fun k hk => hr k hk
theorem Grps.grow {w w2 : World} {B g cap : Nat} {l : List Ent} {fs : List ByteArray} {gv : List Value} {x : Ent} {i : Nat} {u u' : Value} {s : ByteArray}
    (h : Grps w B (.slice (some ⟨g, 0, none⟩) gv.length cap) l fs gv) (hnd : fs.Pairwise (· ≠ ·)) (hi : fs[i]? = some s) (hu : gv[i]? = some u) (hx : ordE.id x = s)
    (hown : w2.ownsRow B 23 5 u' ((grp l s).length + 1) (flatE (grp l s) ++ eCells x)) (hg : w.grownBy w2 u.ownBlock) (hat : u'.ownBlock = u.ownBlock ∨ (∃ W : Nat, w.heap.size ≤ W ∧ u'.ownBlock = some W)) (hne : u.ownBlock ≠ some g) :
    Grps (w2.setCell ⟨g, i, none⟩ u') B (.slice (some ⟨g, 0, none⟩) gv.length cap) (l ++ [x]) fs (gv.set i u') := by
  have hlen := h.len
  have hgB := h.row.lt g rfl
  have hu'g : u'.ownBlock ≠ some g := by
    rcases hat with e | ⟨W, hW, e⟩
    · rw [e]; exact hne
    · rw [e]; intro e'; injection e' with e'; omega
  have hlt : ∀ (j : Nat) (v : Value), gv[j]? = some v → j ≠ i → v.ownBlock = none ∨ v.ownBlock ≠ u.ownBlock := by
    intro j v hv hj
    cases hv' : v.ownBlock with
    | none => exact Or.inl rfl
    | some b => exact Or.inr fun e => h.apart j i v u hv hu hj b hv' e.symm
  have hrow2 := (h.row.kept hg (Or.inr fun e => hne e.symm))
  refine ⟨by rw [List.length_set]; exact hlen, ?_, ?_, ?_⟩
  · rw [List.length_set]
    exact (hrow2.stored i u').1
  · intro j t v hj hv
    have hvg : ∀ (m : Nat) (q : Value), gv[m]? = some q → (∃ t, fs[m]? = some t) → q.ownBlock = none ∨ q.ownBlock ≠ some g := by
      intro m q hq ⟨t', ht'⟩
      cases hq' : q.ownBlock with
      | none => exact Or.inl rfl
      | some b =>
        refine Or.inr fun e => ?_
        injection e with e
        subst e
        have h1 := (h.each m t' q ht' hq).2
        have h2 := h.row.2
        rcases h1 with ⟨rfl, _⟩ | ⟨b', c', cur', rfl, _, hb', _⟩
        · cases hq'
        · rcases h2 with ⟨h2, _⟩ | ⟨g', c'', cur'', h2, _, hg', _⟩
          · cases h2
          · cases h2
            cases hq'
            rw [hb'] at hg'
            simp at hg'
    by_cases hji : j = i
    · subst hji
      rw [hi] at hj
      injection hj with hj
      subst hj
      have hv' : v = u' := by
        rw [List.getElem?_set] at hv
        have : j < gv.length := (List.getElem?_eq_some_iff.1 hu).1
        simp [this] at hv
        exact hv.symm
      subst hv'
      rw [grp_snoc, if_pos hx]
      exact OEnts.snoc (ownsRow_setCell_other hown (a := ⟨g, j, none⟩) hu'g v)
    · rw [List.getElem?_set_ne (fun e => hji e.symm)] at hv
      have ht : t ≠ s := by
        intro e
        subst e
        have h1 := List.pairwise_iff_getElem.1 hnd
        obtain ⟨p1, q1⟩ := List.getElem?_eq_some_iff.1 hi
        obtain ⟨p2, q2⟩ := List.getElem?_eq_some_iff.1 hj
        rcases Nat.lt_or_gt_of_ne hji with h3 | h3
        · exact h1 j i p2 p1 h3 (q2.trans q1.symm)
        · exact h1 i j p1 p2 h3 (q1.trans q2.symm)
      rw [grp_snoc, if_neg (by rw [hx]; exact fun e => ht e.symm)]
      have h4 := (h.each j t v hj hv).kept hg (hlt j v hv hji)
      refine ownsRow_setCell_other h4 (a := ⟨g, i, none⟩) ?_ u'
      rcases hvg j v hv ⟨t, hj⟩ with e | e
      · rw [e]; simp
      · exact e
  · intro a b v v' hv hv' hab q hq
    rw [List.getElem?_set] at hv hv'
    have key : ∀ (m : Nat) (q' : Value), gv[m]? = some q' → m ≠ i → ∀ b, u'.ownBlock = some b → q'.ownBlock ≠ some b := by
      intro m q' hq' hm b hb e
      rcases hat with e' | ⟨W, hW, e'⟩
      · rw [e'] at hb
        exact h.apart i m u q' hu hq' (fun e => hm e.symm) b hb e
      · rw [e'] at hb
        injection hb with hb
        obtain ⟨pm, _⟩ := List.getElem?_eq_some_iff.1 hq'
        have h5 := h.each m (fs[m]'(by omega)) q' (List.getElem?_eq_getElem (by omega)) hq'
        have := (h5.lt b e).2
        omega
    by_cases ha : i = a
    · subst ha
      have hil : i < gv.length := (List.getElem?_eq_some_iff.1 hu).1
      simp only [if_true, if_pos hil, Option.some.injEq] at hv
      subst hv
      rw [if_neg hab] at hv'
      exact key b v' hv' (fun e => hab e.symm) q hq
    · rw [if_neg ha] at hv
      by_cases hb : i = b
      · subst hb
        have hil : i < gv.length := (List.getElem?_eq_some_iff.1 hu).1
        simp only [if_true, if_pos hil, Option.some.injEq] at hv'
        subst hv'
        intro e
        exact key a v hv (fun e => ha e.symm) q e hq
      · rw [if_neg hb] at hv'
        exact h.apart a b v v' hv hv' hab q hq
theorem Grps.form {w : World} {B : Nat} {v : Value} {l : List Ent} {fs : List ByteArray} {gv : List Value} (h : Grps w B v l fs gv) : ∃ A c, v = .slice A gv.length c := by
  rcases h.row.2 with ⟨h1, h2⟩ | ⟨g, cap, cur, h1, _⟩
  · exact ⟨none, 0, by rw [h1, h2]⟩
  · exact ⟨_, _, h1⟩
theorem Grps.kept {w w2 : World} {B m : Nat} {v : Value} {l : List Ent} {fs : List ByteArray} {gv : List Value} (h : Grps w B v l fs gv) (hg : w.grownBy w2 (some m)) (hm : m < B) : Grps w2 B v l fs gv := by
  have key : ∀ {e : TypeId} {n size : Nat} {u : Value} {xs : List Value}, w.ownsRow B e size u n xs → u.ownBlock = none ∨ u.ownBlock ≠ some m := by
    intro e n size u xs hu
    cases hb : u.ownBlock with
    | none => exact Or.inl rfl
    | some b =>
      refine Or.inr fun e => ?_
      injection e with e
      have := (hu.lt b hb).1
      omega
  exact ⟨h.len, h.row.kept hg (key h.row), fun j s u h1 h2 => (h.each j s u h1 h2).kept hg (key (h.each j s u h1 h2)), h.apart⟩
theorem Grps.more {w w2 : World} {B : Nat} {v v' : Value} {l : List Ent} {fs : List ByteArray} {gv : List Value} {s : ByteArray}
    (h : Grps w B v l fs gv) (hs : grp l s = []) (hrow : w2.ownsRow B 33 1 v' (gv.length + 1) (gv ++ [.slice none 0 0])) (hg : w.grownBy w2 v.ownBlock) :
    Grps w2 B v' l (fs ++ [s]) (gv ++ [.slice none 0 0]) := by
  have hlen := h.len
  refine ⟨by simp [hlen], by simpa using hrow, ?_, ?_⟩
  · intro j t u hj hu
    rcases Nat.lt_or_ge j gv.length with hjl | hjl
    · rw [List.getElem?_append_left hjl] at hu
      rw [List.getElem?_append_left (by omega)] at hj
      have h1 := h.each j t u hj hu
      refine h1.kept hg ?_
      cases hu' : u.ownBlock with
      | none => exact Or.inl rfl
      | some b =>
        refine Or.inr fun e => ?_
        rcases h1.2 with ⟨rfl, _⟩ | ⟨b', c', cur', rfl, _, hb', _⟩
        · cases hu'
        · rcases h.row.2 with ⟨rfl, _⟩ | ⟨g', c'', cur'', rfl, _, hg', _⟩
          · cases e
          · cases hu'
            cases e
            rw [hb'] at hg'
            simp at hg'
    · rw [List.getElem?_append_right hjl] at hu
      rw [List.getElem?_append_right (by omega)] at hj
      have hj0 : j - gv.length = 0 := by
        rcases Nat.eq_zero_or_pos (j - gv.length) with h4 | h4
        · exact h4
        · rw [List.getElem?_eq_none (by simp; omega)] at hu; cases hu
      rw [hj0] at hu
      rw [show j - fs.length = 0 by omega] at hj
      simp at hu hj
      subst hu hj
      rw [hs]
      exact OEnts.nil _ _
  · intro a b q q' hq hq' hab m hm
    have last : ∀ (n : Nat) (u : Value), (gv ++ [Value.slice none 0 0])[n]? = some u → ∀ m, u.ownBlock = some m → gv[n]? = some u := by
      intro n u hu m hm
      rcases Nat.lt_or_ge n gv.length with hjl | hjl
      · rwa [List.getElem?_append_left hjl] at hu
      · rw [List.getElem?_append_right hjl] at hu
        have := List.mem_of_getElem? hu
        simp at this
        subst this
        cases hm
    intro e
    exact h.apart a b q q' (last a q hq m hm) (last b q' hq' m e) hab m hm e
end Go.Proofs.YtgecijhgonfldaaGreatDoor
