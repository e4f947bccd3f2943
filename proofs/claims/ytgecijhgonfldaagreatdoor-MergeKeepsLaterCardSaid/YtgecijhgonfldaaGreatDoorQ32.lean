/- Parts of the proof: contracts and plain laws that the statement needs. -/
import Derived.Test.YtgecijhgonfldaaGreatDoorQ13
import Derived.Test.YtgecijhgonfldaaGreatDoorQ23
import Derived.Test.YtgecijhgonfldaaGreatDoorQ26
import Derived.Test.YtgecijhgonfldaaGreatDoorQ27
import Derived.Test.YtgecijhgonfldaaGreatDoorQ29
import Derived.Test.YtgecijhgonfldaaGreatDoorQ30
import Derived.Test.YtgecijhgonfldaaGreatDoorQ25
import Derived.Lib.SmallJoins
import Derived.Test.YtgecijhgonfldaaGreatDoorQ31
import Derived.Test.YtgecijhgonfldaaGreatDoorQ21
namespace Go.Proofs.YtgecijhgonfldaaGreatDoor
open Go
set_option linter.unusedVariables false
def mrg (a b : List Fd) : List Fd := ordF.canon (a ++ b)
theorem okA_all {a : List Fd} (h : okA a = true) : ∀ x ∈ a, okF x = true := (okL_iff.1 h).1
theorem app_ok {a b : List Fd} (ha : ∀ x ∈ a, okF x = true) (hb : ∀ x ∈ b, okF x = true) : ∀ x ∈ a ++ b, okF x = true :=
  fun x hx => (List.mem_append.1 hx).elim (ha x) (hb x)
theorem norm_ok {l : List Fd} (h : ∀ x ∈ l, okF x = true) : errFs l = 0 ∧ normA l = ordF.canon l := by
  have e : errFs l = 0 := errFs_zero.2 fun f hf => (coll_okF (h f hf)).1
  refine ⟨e, ?_⟩
  unfold normA
  rw [if_pos e, map_self fun f hf => (coll_okF (h f hf)).2]
theorem canon_okA {l : List Fd} (h : ∀ x ∈ l, okF x = true) : okA (ordF.canon l) = true := canon_okL (semiF'.canon_good h)
theorem mrg_ok {a b : List Fd} (ha : okA a = true) (hb : okA b = true) : okA (mrg a b) = true := canon_okA (app_ok (okA_all ha) (okA_all hb))
theorem mrg_comm {a b : List Fd} (ha : okA a = true) (hb : okA b = true) : mrg a b = mrg b a := semiF'.canon_comm (okA_all ha) (okA_all hb)
theorem mrg_left (a b c : List Fd) : mrg (mrg a b) c = ordF.canon (a ++ b ++ c) := Ord.canon_left _ _
theorem mrg_right {a b c : List Fd} (ha : okA a = true) (hb : okA b = true) (hc : okA c = true) : mrg a (mrg b c) = ordF.canon (a ++ b ++ c) := by
  unfold mrg
  rw [semiF'.canon_right (okA_all ha) (app_ok (okA_all hb) (okA_all hc)), List.append_assoc]
theorem mrg_self {a : List Fd} (ha : okA a = true) : mrg a a = a := by
  have e : mrg a a = ordF.canon a := semiF'.canon_congr (app_ok (okA_all ha) (okA_all ha)) fun x => by simp
  rw [e, okL_canon ha]
theorem mrg_nil {a : List Fd} (ha : okA a = true) : mrg [] a = a := okL_canon ha
theorem incl_anti {a b : List Fd} (ha : okA a = true) (hb : okA b = true) : (mrg a b = a ∧ mrg b a = b) ↔ a = b := by
  constructor
  · rintro ⟨h1, h2⟩; rw [← h1, mrg_comm ha hb, h2]
  · rintro rfl; exact ⟨mrg_self ha, mrg_self ha⟩
theorem incl_trans {a b c : List Fd} (ha : okA a = true) (hb : okA b = true) (hc : okA c = true) (h1 : mrg a b = a) (h2 : mrg b c = b) : mrg a c = a := by
  have e1 : mrg (mrg a b) c = mrg a (mrg b c) := by rw [mrg_left, mrg_right ha hb hc]
  rw [h1, h2] at e1
  rw [e1, h1]
theorem incl_left {a b : List Fd} (ha : okA a = true) (hb : okA b = true) : mrg (mrg a b) a = mrg a b := by
  have e : mrg (mrg a b) a = ordF.canon (a ++ b) := by
    rw [mrg_left]
    exact semiF'.canon_congr (app_ok (app_ok (okA_all ha) (okA_all hb)) (okA_all ha)) fun x => by
      simp only [List.mem_append]
      constructor
      · rintro ((h | h) | h) <;> simp [h]
      · rintro (h | h) <;> simp [h]
  exact e
theorem incl_right {a b : List Fd} (ha : okA a = true) (hb : okA b = true) : mrg (mrg a b) b = mrg a b := by
  rw [mrg_comm ha hb]
  exact incl_left hb ha
theorem find_lub {l : List Fd} (h : ∀ x ∈ l, okF x = true) {f : Fd} (hf : f ∈ l) : ∃ g ∈ ordF.canon l, g.id = f.id ∧ joinF f g = g := by
  obtain ⟨g, hg⟩ := (Ord.got_isSome_iff (O := ordF) l f.id).2 ⟨f, hf, rfl⟩
  have hid := ordF.got_id hg
  have hlub := (semiF'.got_lub h hg).1
  exact ⟨g, ((ordF.canon_is l).2 g).2 (by rw [hid]; exact hg), hid, hlub.2.2 f hf rfl⟩
theorem later_of_join {f g : Fd} (h : joinF f g = g) : laterF f g = laterF g g := by
  have h1 := joinF_hdr f g
  rw [h] at h1
  rw [laterF_pk, laterF_pk, pk_self, ← h1]
theorem ents_of_join {f g : Fd} (hf : okF f = true) (hg : okF g = true) (h : joinF f g = g) {e : Ent} (he : e ∈ f.ents) : ∃ y ∈ g.ents, e.id = y.id ∧ laterE e y = y := by
  have hf' := (okF_iff.1 hf).2
  have hg' := (okF_iff.1 hg).2
  have h1 := joinF_ents (a := f) (b := g) (okL_canon hf')
  rw [h] at h1
  have hall : ∀ x ∈ f.ents ++ g.ents, okE x = true := fun x hx => (List.mem_append.1 hx).elim ((okL_iff.1 hf').1 x) ((okL_iff.1 hg').1 x)
  obtain ⟨y, hy⟩ := (Ord.got_isSome_iff (O := ordE) (f.ents ++ g.ents) e.id).2 ⟨e, List.mem_append_left _ he, rfl⟩
  have hid := ordE.got_id hy
  have hlub := (semiE'.got_lub hall hy).1
  refine ⟨y, ?_, hid.symm, hlub.2.2 e (List.mem_append_left _ he) rfl⟩
  rw [h1]
  exact ((ordE.canon_is _).2 y).2 (by rw [hid]; exact hy)
def entsOf (s : ByteArray) (l : List Fd) : List Ent := ((l.filter fun f => decide (f.id = s)).map Fd.ents).flatten
theorem ents_from {l : List Fd} (h : ∀ x ∈ l, okF x = true) {g : Fd} (hg : g ∈ ordF.canon l) {y : Ent} (hy : y ∈ g.ents) : y ∈ entsOf g.id l := by
  have hgot := ((ordF.canon_is l).2 g).1 hg
  unfold Ord.got at hgot
  unfold entsOf
  cases hfl : l.filter fun f => decide (f.id = g.id) with
  | nil =>
    have e : (l.filter fun x => decide (ordF.id x = ordF.id g)) = [] := hfl
    rw [e] at hgot
    cases hgot
  | cons x t =>
    have e : (l.filter fun x => decide (ordF.id x = ordF.id g)) = x :: t := hfl
    rw [e] at hgot
    have hx : x ∈ l := (List.mem_filter.1 (show x ∈ l.filter fun f => decide (f.id = g.id) by rw [hfl]; simp)).1
    have h2 : t.foldl joinF x = g := by
      unfold Ord.fold1 at hgot
      injection hgot
    have h3 := joinF_fold t x (okL_canon (okF_iff.1 (h x hx)).2)
    rw [h2] at h3
    rw [h3] at hy
    have hy' : y ∈ ordE.canon (x.ents ++ (t.map Fd.ents).flatten) := hy
    simpa using canonE_mem hy'
theorem ents_to {l : List Fd} (h : ∀ x ∈ l, okF x = true) {g : Fd} (hg : g ∈ ordF.canon l) {e : Ent} (he : e ∈ entsOf g.id l) : ∃ y ∈ g.ents, e.id = y.id ∧ laterE e y = y := by
  unfold entsOf at he
  obtain ⟨es, hes, he⟩ := List.mem_flatten.1 he
  obtain ⟨f, hf, rfl⟩ := List.mem_map.1 hes
  obtain ⟨hfl, hfid⟩ := List.mem_filter.1 hf
  have hid : f.id = g.id := by simpa using hfid
  have hgot := ((ordF.canon_is l).2 g).1 hg
  have hlub := (semiF'.got_lub h hgot).1
  exact ents_of_join (h f hfl) (semiF'.canon_good h g hg) (hlub.2.2 f hfl hid) he
end Go.Proofs.YtgecijhgonfldaaGreatDoor
namespace Go.Proofs.YtgecijhgonfldaaGreatDoor
open Go Go.RowKit
set_option linter.unusedVariables false
set_option maxRecDepth 100000 in
set_option maxHeartbeats 8000000 in
theorem refArcW_any (v : Value) (l : List Fc) (w : World) (hE : Env w) (hr : RFcs w v l) (hrd : ∀ x ∈ l, RdC w x) (hk : ∀ x ∈ l, fokS x.f ∧ x.f.path.length ≤ 1000000) (hn : l.length ≤ 1000000) (hen : allE l ≤ 1000000) :
    Calls Tryz.prog 26 #[v] w fun e w' => ∃ (v' : Value) (lc : List Fc), e = .returned (.tuple #[.agg #[v'], .int .i64 (errFs (l.map Fc.f) : Nat)]) ∧ lc.map Fc.f = normA (l.map Fc.f) ∧ RFcs w' v' lc ∧ (∀ y ∈ lc, RdC w' y) ∧ (∀ q, q < w.heap.size → (flatC lc = [] ∨ v'.ownBlock ≠ some q) ∧ ∀ z ∈ lc, awayC z (some q)) ∧ Ext w w' := by
  obtain ⟨A, c, rfl, -, -⟩ := hr.form
  obtain ⟨E, hEr⟩ : ∃ E, errFs (l.map Fc.f) = E := ⟨_, rfl⟩
  obtain ⟨NA, hNA⟩ : ∃ NA, normA (l.map Fc.f) = NA := ⟨_, rfl⟩
  simp only [hEr, hNA]
  have HER := Lib.hid hEr
  have HNA := Lib.hid hNA
  obtain ⟨M, hM⟩ : ∃ M, l.map (fun x => collF x.f) = M := ⟨_, rfl⟩
  have hMl : M.length = l.length := by rw [← hM, List.length_map]
  have hMh : ∀ y ∈ M, hokF y := by rw [← hM]; intro y hy; obtain ⟨z, hz, rfl⟩ := List.mem_map.1 hy; exact collF_hok (hk z hz).1 (hk z hz).2
  have hMs : sumE M ≤ 1000000 := by rw [← hM]; exact Nat.le_trans (sumE_coll l) hen
  have HMH := Lib.hid (fun k => canonF_hok (l := M.take k) (fun y hy => hMh y (List.mem_of_mem_take hy)))
  have HMM := Lib.hid hMh
  have HMS : Hid (∀ k (h : k < M.length), sumE (ordF.canon (M.take k)) + M[k].ents.length ≤ 1000000) := Lib.hid fun k h => by
    have h1 := canonF_sum (M.take k)
    have h2 : sumE M = sumE (M.take k) + sumE (M.drop k) := by unfold sumE; rw [← List.sum_append, ← List.map_append, List.take_append_drop]
    have h3 : sumE (M.drop k) = M[k].ents.length + sumE (M.drop (k + 1)) := by rw [List.drop_eq_getElem_cons h, sumE_cons]
    omega
  have HMG : Hid (∀ k (h : k < l.length), M[k]? = some (collF l[k].f)) := Lib.hid fun k h => by rw [← hM, List.getElem?_map, List.getElem?_eq_getElem h]; rfl
  have HMC : Hid (ordF.canon M = ordF.canon ((l.map Fc.f).map collF)) := Lib.hid (by rw [← hM, List.map_map]; rfl)
  have HR := Lib.hid hr
  have HRD := Lib.hid hrd
  have HK := Lib.hid hk
  have HEW := Lib.hid hE
  clear hr hrd hk hen hM hMh hMs hEr hNA hE
  go_enter Tryz.func26, Tryz.ntmps26
  go_wp2
  obtain ⟨w0, hw0⟩ : ∃ w0, w0 = (w.alloc (.cells #[.slice none 0 0] 46)).alloc (.cells #[.slice none 0 0] 46) := ⟨_, rfl⟩
  rw [← hw0]
  have hxw0 : Ext w w0 := by rw [hw0]; exact ((Ext.refl _).alloc _).alloc _
  have hb1 : w0.heap[w.heap.size]? = some (.cells #[.slice none 0 0] 46) := by rw [hw0]; exact ((Ext.refl _).alloc _).heap (heap_alloc_new w _)
  have hb2 : w0.heap[w.heap.size + 1]? = some (.cells #[.slice none 0 0] 46) := by rw [hw0]; exact heap2_new w _ _
  clear hw0
  go_loopw [5] (fun i wr => ∃ (k : Nat) (lc : List Fc) (vA : Option Addr) (vc : Nat), k ≤ l.length ∧ i = .int .i64 k ∧ Ext w wr ∧
      Hid (lc.map Fc.f = ordF.canon (M.take k) ∧ ∀ x ∈ (l.map Fc.f).take k, errF x = 0) ∧
      Hid (RFcs wr (.slice vA lc.length vc) lc ∧ (∀ y ∈ lc, RdC wr y ∧ ∀ q, q < w.heap.size + 2 → awayC y (some q)) ∧ (∀ q, q < w.heap.size + 2 → flatC lc = [] ∨ (Value.slice vA lc.length vc).ownBlock ≠ some q)) ∧
      Hid (wr.heap[w.heap.size]? = some (.cells #[.slice none 0 0] 46) ∧ wr.heap[w.heap.size + 1]? = some (.cells #[.slice vA lc.length vc] 46))) (fun i _ => l.length - (intOf i).toNat)
  case atStart => exact ⟨0, [], none, 0, Nat.zero_le _, rfl, hxw0, Lib.hid ⟨rfl, by simp⟩, Lib.hid ⟨RSl.nil _ 6, by simp, fun _ _ => Or.inl rfl⟩, Lib.hid ⟨hb1, hb2⟩⟩
  case round =>
    obtain ⟨k, lc, vA, vc, hk, rfl, hxr, hrel, hlr, hbx⟩ := hrel
    have hsz : w.heap.size + 1 < wr.heap.size := (Array.getElem?_eq_some_iff.1 hbx.out.2).1
    by_cases hlt : k < l.length
    · obtain ⟨ad, c1, e1, hax⟩ := (HR.out.ext hxr).at hlt
      injection e1 with e1 e1' e1''
      subst e1
      clear e1' e1''
      have hkM : k < M.length := by rw [hMl]; exact hlt
      have hMk : M[k] = collF l[k].f := by have h := HMG.out k hlt; rw [List.getElem?_eq_getElem hkM] at h; exact Option.some.inj h
      have htk := List.take_succ_eq_append_getElem hkM
      rw [hMk] at htk
      have hms := HMS.out k hkM
      rw [hMk] at hms
      have hmk := HMM.out _ (List.getElem_mem hkM)
      rw [hMk] at hmk
      have hkL : k < (l.map Fc.f).length := by rw [List.length_map]; exact hlt
      have htL := List.take_succ_eq_append_getElem hkL
      rw [List.getElem_map] at htL
      have hbad := errFs_at (l.map Fc.f) k hkL hrel.out.2
      rw [List.getElem_map] at hbad
      have hmem := List.getElem_mem hlt
      have HNF := Lib.hid (refFeed_at l[k] wr (HEW.out.ext hxr) (HK.out _ hmem).1 ((HRD.out _ hmem).ext hxr))
      have hsl := (HRD.out _ hmem).sl
      obtain ⟨x, hx⟩ : ∃ x, l[k] = x := ⟨_, rfl⟩
      rw [hx] at hax htk hms hmk htL hbad HNF hsl
      obtain ⟨xp, xes, xf⟩ := x
      obtain ⟨⟨xA, xn, xc, hxp⟩, ⟨xB, xm, xd, hxe⟩⟩ := hsl
      dsimp only at hxp hxe
      subst hxp hxe
      obtain ⟨a0, a1, a2, a3, a4, a5⟩ := hax
      dsimp only at a0 a1 a2 a3 a4 a5 HNF htk hms hmk htL hbad
      unfold cellsC fCells at HNF
      dsimp only at HNF
      obtain ⟨EX, hEX⟩ : ∃ EX, errF xf = EX := ⟨_, rfl⟩
      rw [hEX] at HNF hbad
      have HEX := Lib.hid hEX
      have HTK := Lib.hid htk
      have HTL := Lib.hid htL
      have HMSk := Lib.hid hms
      have HMK := Lib.hid hmk
      have HXR := Lib.hid hxr
      have hi0' : (0 : Int) ≤ (k : Int) := by omega
      have hi1 : (k : Int) < (l.length : Int) := by omega
      clear hx hEX htk htL hms hmk hmem hMk
      by_cases hE0 : EX = 0
      · subst hE0
        have hnx : normF xf = collF xf := by unfold normF; rw [if_pos HEX.out]
        rw [hnx] at HNF
        have HPU : Hid (∀ (w' : World) (y : Fc), Ext wr w' → RdC w' y → y.f = collF xf → Calls Tryz.prog 62 #[.agg #[.slice vA lc.length vc], .agg (cellsC y).toArray] w' fun e w'' => ∃ (v' : Value) (lc' : List Fc), e = .returned (.agg #[v']) ∧ lc'.map Fc.f = ordF.canon (M.take (k + 1)) ∧ OFcs w'' w'.heap.size v' lc' ∧ (∀ y ∈ lc', RdC w'' y) ∧ (∀ q, q < w'.heap.size → (∀ z ∈ lc, awayC z (some q)) → awayC y (some q) → ∀ z ∈ lc', awayC z (some q)) ∧ Ext w' w'') := Lib.hid fun w' y h1 h2 h3 => by
          have hlen : lc.length ≤ 1000000 := by
            have e1 : lc.length = (ordF.canon (M.take k)).length := by rw [← hrel.out.1, List.length_map]
            have e2 := canon_len ordF (M.take k)
            rw [List.length_take] at e2
            omega
          have hp := refPut_any (.slice vA lc.length vc) lc y w' (hlr.out.1.ext h1) (fun z hz => (hlr.out.2.1 z hz).1.ext h1) h2 (fun z hz => HMH.out k z.f (by rw [← hrel.out.1]; exact List.mem_map.2 ⟨z, hz, rfl⟩)) (by rw [h3]; exact HMK.out) (by rw [hrel.out.1, h3]; exact HMSk.out) hlen
          rw [hrel.out.1, h3] at hp
          have hcs : ordF.put (ordF.canon (M.take k)) (collF xf) = ordF.canon (M.take (k + 1)) := by rw [HTK.out, Ord.canon_append]; rfl
          rwa [hcs] at hp
        have HH1 := Lib.hid hbx.out.1
        have h2r := hbx.out.2
        clear hnx hbad hxr
        go_wp2_with (first
          | (go_at_call 22; (have hz := HNF.out); (with_reducible refine Calls.mono hz ?_); clear hz; rintro e w8 ⟨y, rfl, hyf, hyr, hya, hx8⟩; (have hysl := hyr.sl); (obtain ⟨yp, yes, yf⟩ := y); (obtain ⟨⟨yA, yn, yc, hyp⟩, ⟨yB, ym, yd, hye⟩⟩ := hysl); simp only at hyp hye; subst hyp hye; (have HYF := Lib.hid (show yf = collF xf from hyf)); clear hyf; (have hx9 := hx8.alloc (.cells #[.slice yA yn yc, .string yf.id, .string yf.title, .string yf.link, .int .i64 yf.upd, .slice yB ym yd] 35)); (have h29 := hx9.heap h2r); (have c29 : (w8.alloc (.cells #[.slice yA yn yc, .string yf.id, .string yf.title, .string yf.link, .int .i64 yf.upd, .slice yB ym yd] 35)).cell? ⟨w.heap.size + 1, 0, none⟩ = some (.slice vA lc.length vc) := by rw [cell_of_row _ _ _ _ _ _ h29]; rfl))
          | (go_at_call 62; (have hz := HPU.out _ ⟨.slice yA yn yc, .slice yB ym yd, yf⟩ hx9 (hyr.ext ((Ext.refl _).alloc _)) HYF.out); (unfold cellsC fCells at hz); (dsimp only at hz); (with_reducible refine Calls.mono hz ?_); clear hz; rintro e wP ⟨v', lc', rfl, hm', hown', hrd', haw', hxP⟩; (obtain ⟨v'A, v'c, hv', -, -⟩ := hown'.reads.form); subst hv'; (have h2P := hxP.heap h29))
          | (refine wpList_store_row rfl 46 (.tmp 4) (.tmp 29) rfl (w.heap.size + 1) _ rfl rfl _ _ h2P size_arc rfl oneArc ?_))
        have hs9 := hx9.size
        go_roundw
        case rel =>
          have hlb := hown'.lt
          have ha : ∀ q, q < w.heap.size + 2 → ∀ z ∈ lc', awayC z (some q) := fun q hq => haw' q (by omega) (fun z hz => (hlr.out.2.1 z hz).2 q hq) (hya q (by omega))
          refine ⟨k + 1, lc', v'A, v'c, hlt, by go_num, ((HXR.out.trans hx9).trans hxP).setRow (by omega) _, Lib.hid ⟨hm', ?_⟩, Lib.hid ⟨RSl.of_own (own_setRow hown' (by omega) _), fun z hz => ⟨(hrd' z hz).grown (setRow_grown _ _ _) (ha (w.heap.size + 1) (by omega) z hz), fun q hq => ha q hq z hz⟩, fun q hq => Or.inr fun e => by have := (hlb _ e).1; omega⟩, Lib.hid ⟨(setRow_other _ _ _ _ (by omega)).trans ((hx9.trans hxP).heap HH1.out), setRow_heap _ _ _ _ _ _ h2P⟩⟩
          intro z hz
          rw [HTL.out] at hz
          rcases List.mem_append.1 hz with hz | hz
          · exact hrel.out.2 z hz
          · rw [List.mem_singleton.1 hz]; exact HEX.out
        case measure => simp [intOf]; omega
      · have hb : ((EX : Int) != 0) = true := by simp; omega
        have he : E = EX := HER.out.symm.trans (hbad hE0)
        have hn : normA (l.map Fc.f) = [] := by unfold normA; rw [if_neg]; rw [HER.out, he]; exact hE0
        have hnE := HNA.out.symm.trans hn
        subst he hnE
        have hz1 := hbx.out.1
        clear hn hE0 hbad
        go_wp2_with (first
          | (go_at_call 22; (have hz := HNF.out); (with_reducible refine Calls.mono hz ?_); clear hz; rintro e w8 ⟨y, rfl, -, hyr, -, hx8⟩; (have hysl := hyr.sl); (obtain ⟨yp, yes, yf⟩ := y); (obtain ⟨⟨yA, yn, yc, hyp⟩, ⟨yB, ym, yd, hye⟩⟩ := hysl); simp only at hyp hye; subst hyp hye; (have hx9 := hx8.alloc (.cells #[.slice yA yn yc, .string yf.id, .string yf.title, .string yf.link, .int .i64 yf.upd, .slice yB ym yd] 35)); (have h19 := hx9.heap hz1))
          | (refine wpList_store_row rfl 46 (.tmp 2) (.tmp 25) rfl w.heap.size _ rfl rfl _ _ h19 size_arc rfl oneArc ?_))
        ((try simp only [Exit.inBlock, Exit.then]); refine bodyPost_ret (results_cell_row2 rfl _ _ _ _ _ _ _ rfl (setRow_heap _ _ _ _ _ _ h19) Tryz.underlying46 rfl size_arc) rfl ?_)
        exact ⟨.slice none 0 0, [], rfl, rfl, RSl.nil _ 6, by simp, fun q hq => ⟨Or.inl rfl, by simp⟩, (HXR.out.trans hx9).setRow (by omega) _⟩
    · have hke : k = l.length := by omega
      subst hke
      have htM : M.take l.length = M := List.take_of_length_le (by omega)
      have htL : (l.map Fc.f).take l.length = l.map Fc.f := List.take_of_length_le (by rw [List.length_map]; exact Nat.le_refl _)
      have hre := hrel.out
      rw [htM, htL] at hre
      have h0 : errFs (l.map Fc.f) = 0 := errFs_zero.2 hre.2
      have he : E = 0 := HER.out.symm.trans h0
      have hn : NA = lc.map Fc.f := by rw [hre.1, HMC.out, ← HNA.out]; unfold normA; rw [if_pos h0]
      subst he hn
      have h1 := hbx.out.1
      have c2 : wr.cell? ⟨w.heap.size + 1, 0, none⟩ = some (.slice vA lc.length vc) := by rw [cell_of_row _ _ _ _ _ _ hbx.out.2]; rfl
      have HLR := Lib.hid hlr.out
      have HXR := Lib.hid hxr
      clear htM htL hre h0 hxr hlr hbx
      go_wp2_with (first
        | (refine wpList_store_row rfl 46 (.tmp 2) (.tmp 30) rfl w.heap.size _ rfl rfl _ _ h1 size_arc rfl oneArc ?_))
      ((try simp only [Exit.inBlock, Exit.then]); refine bodyPost_ret (results_cell_row2 rfl _ _ _ _ _ _ _ rfl (setRow_heap _ _ _ _ _ _ h1) Tryz.underlying46 rfl size_arc) rfl ?_)
      exact ⟨.slice vA lc.length vc, lc, rfl, rfl, RSl.grown HLR.out.1 (setRow_grown _ _ _) (HLR.out.2.2 w.heap.size (by omega)), fun z hz => (HLR.out.2.1 z hz).1.grown (setRow_grown _ _ _) ((HLR.out.2.1 z hz).2 w.heap.size (by omega)), fun q hq => ⟨HLR.out.2.2 q (by omega), fun z hz => (HLR.out.2.1 z hz).2 q (by omega)⟩, HXR.out.setRow (by omega) _⟩
end Go.Proofs.YtgecijhgonfldaaGreatDoor
namespace Go.Proofs.YtgecijhgonfldaaGreatDoor
open Go Go.RowKit
set_option linter.unusedVariables false
def okM (L : List (Value × List Fc)) : Bool := L.all fun p => okA (p.2.map Fc.f)
def mErr (L : List (Value × List Fc)) : Int := if okM L = true then 0 else 22
def mVal (L : List (Value × List Fc)) : List Fd := if okM L = true then ordF.canon ((catP L).map Fc.f) else []
theorem okM_feeds {L : List (Value × List Fc)} (h : okM L = true) : ∀ f ∈ (catP L).map Fc.f, okF f = true := by
  intro f hf
  obtain ⟨x, hx, rfl⟩ := List.mem_map.1 hf
  unfold catP at hx
  obtain ⟨l, hl, hx⟩ := List.mem_flatten.1 hx
  obtain ⟨p, hp, rfl⟩ := List.mem_map.1 hl
  exact okA_all (List.all_eq_true.1 h p hp) _ (List.mem_map.2 ⟨x, hx, rfl⟩)
theorem okM_bad {L : List (Value × List Fc)} {p : Value × List Fc} (hp : p ∈ L) (h : okA (p.2.map Fc.f) = false) : okM L = false := by
  rw [Bool.eq_false_iff]
  intro h'
  rw [List.all_eq_true.1 h' p hp] at h
  cases h
theorem okM_take {L : List (Value × List Fc)} {k : Nat} (hk : k < L.length) (h : okM (L.take k) = true) (h2 : okA (L[k].2.map Fc.f) = true) : okM (L.take (k + 1)) = true := by
  refine List.all_eq_true.2 fun p hp => ?_
  rw [List.take_succ_eq_append_getElem hk] at hp
  rcases List.mem_append.1 hp with hp | hp
  · exact List.all_eq_true.1 h p hp
  · rw [List.mem_singleton.1 hp]; exact h2
theorem mem_catP {L : List (Value × List Fc)} {x : Fc} (h : x ∈ catP L) : ∃ p ∈ L, x ∈ p.2 := by
  unfold catP at h
  obtain ⟨l, hl, hx⟩ := List.mem_flatten.1 h
  obtain ⟨p, hp, rfl⟩ := List.mem_map.1 hl
  exact ⟨p, hp, hx⟩
theorem lensP_mem {L : List (Value × List Fc)} {k : Nat} (hk : k < L.length) : L[k].2.length ≤ lensP L := by
  have h1 := lensP_take L (k + 1)
  rw [List.take_succ_eq_append_getElem hk, lensP_snoc] at h1
  omega
set_option maxRecDepth 100000 in
set_option maxHeartbeats 8000000 in
theorem refMerge_any (u : Value) (L : List (Value × List Fc)) (w : World) (hE : Env w) (hu : RSl w 1 u L.length (L.map Prod.fst)) (hp : ∀ p ∈ L, RFcs w p.1 p.2 ∧ ∀ x ∈ p.2, RdC w x)
    (hk : ∀ p ∈ L, ∀ x ∈ p.2, fokS x.f ∧ x.f.path.length ≤ 1000000) (hn : L.length ≤ 1000) (ht : lensP L ≤ 1000000) (hen : allE (catP L) ≤ 1000000) :
    Calls Tryz.prog 35 #[u] w fun e w' => ∃ (v' : Value) (lc : List Fc), e = .returned (.tuple #[.agg #[v'], .int .i64 (mErr L)]) ∧ lc.map Fc.f = mVal L ∧ RFcs w' v' lc ∧ (∀ y ∈ lc, RdC w' y) ∧ Ext w w' := by
  obtain ⟨i0, hi0, hz0, hz1, hz2⟩ := info_parts info_feed
  obtain ⟨A, c, rfl⟩ : ∃ A c, u = .slice A L.length c := by obtain ⟨_, A, c, e, _⟩ := hu; exact ⟨A, c, e⟩
  obtain ⟨E, hEr⟩ : ∃ E, mErr L = E := ⟨_, rfl⟩
  obtain ⟨V, hVr⟩ : ∃ V, mVal L = V := ⟨_, rfl⟩
  simp only [hEr, hVr]
  have HER := Lib.hid hEr
  have HVR := Lib.hid hVr
  have HV := Lib.hid hu
  have HP := Lib.hid hp
  have HK := Lib.hid hk
  have HEW := Lib.hid hE
  have HT := Lib.hid (fun k => Nat.le_trans (lensP_take L k) ht)
  have HTM : Hid (∀ k (h : k < L.length), L[k].2.length ≤ 1000000) := Lib.hid fun k h => Nat.le_trans (lensP_mem h) ht
  have HEN := Lib.hid hen
  have HT1 := Lib.hid ht
  clear hp hu hk hE hEr hVr ht hen
  obtain ⟨W1, hW1⟩ : ∃ W1, w.alloc (.cells #[.slice none 0 0] 46) = W1 := ⟨_, rfl⟩
  have hx1 : Ext w W1 := by rw [← hW1]; exact (Ext.refl _).alloc _
  have hb1 : W1.heap[w.heap.size]? = some (.cells #[.slice none 0 0] 46) := by rw [← hW1]; exact heap_alloc_new _ _
  have hs1 : W1.heap.size = w.heap.size + 1 := by rw [← hW1]; exact size_alloc _ _
  have HX1 := Lib.hid hx1
  have HB1 := Lib.hid hb1
  have HS1 := Lib.hid hs1
  clear hx1 hb1 hs1
  go_enter Tryz.func35, Tryz.ntmps35
  go_wp2
  clear hW1
  go_loopw [4, 5] (fun u i wr => ∃ (k : Nat) (uA : Option Addr) (uc : Nat), u = .slice uA (catP (L.take k)).length uc ∧ k ≤ L.length ∧ i = .int .i64 k ∧ OFcs wr W1.heap.size u (catP (L.take k)) ∧ Hid (okM (L.take k) = true) ∧ Ext W1 wr) (fun _ i _ => L.length - (intOf i).toNat)
  case atStart => exact ⟨0, none, 0, rfl, Nat.zero_le _, rfl, OFcs.nil _ _, Lib.hid rfl, Ext.refl _⟩
  case round =>
    obtain ⟨k, uA, uc, rfl, hk, rfl, hownr, hokr, hxr⟩ := hrel
    have h1 := hxr.heap HB1.out
    have HXR := Lib.hid (HX1.out.trans hxr)
    by_cases hlt : k < L.length
    · have hgk : (L.map Prod.fst)[k]? = some L[k].1 := by rw [List.getElem?_map, List.getElem?_eq_getElem hlt]; rfl
      obtain ⟨ad, e1, hc⟩ := RSl.at1 (HV.out.ext HXR.out) k _ hgk
      subst e1
      have htk := List.take_succ_eq_append_getElem hlt
      have hmem := List.getElem_mem hlt
      have hpk := HP.out _ hmem
      have hkk := HK.out _ hmem
      have hs := catP_snoc (L.take k) L[k]
      rw [← htk] at hs
      have h6 := HT.out (k + 1)
      rw [← catP_len, hs, List.length_append] at h6
      have hlm := HTM.out k hlt
      have hokS : okA (L[k].2.map Fc.f) = true → okM (L.take (k + 1)) = true := okM_take hlt hokr.out
      have hbad : okA (L[k].2.map Fc.f) = false → E = 22 ∧ V = [] := fun h => by
        have := okM_bad hmem h
        rw [← HER.out, ← HVR.out]
        unfold mErr mVal
        rw [this]
        exact ⟨rfl, rfl⟩
      obtain ⟨pA, pc, hpf, -, -⟩ := hpk.1.form
      rw [hpf] at hc
      obtain ⟨P, hP⟩ : ∃ P, L[k].2 = P := ⟨_, rfl⟩
      rw [hP] at hc hs h6 hpk hpf hkk hlm hokS hbad
      rw [hpf] at hpk
      have HCK := Lib.hid (refCheckA_any _ P wr (hpk.1.ext HXR.out) (fun x hx => (hpk.2 x hx).ext HXR.out) (fun x hx => (hkk x hx).1) hlm)
      obtain ⟨O, hO⟩ : ∃ O, catP (L.take k) = O := ⟨_, rfl⟩
      rw [hO] at hs h6 hownr
      simp only [hO]
      have HS := Lib.hid hs
      have HOW := Lib.hid hownr
      have HPK := Lib.hid hpk
      have HML : Hid (O.length + P.length ≤ maxLen) := Lib.hid (by unfold maxLen; omega)
      have HBY : Hid ((O.length + P.length) * 104 ≤ 140737488355328) := Lib.hid (by omega)
      have hws := hxr.size
      have hi0' : (0 : Int) ≤ (k : Int) := by omega
      have hi1 : (k : Int) < (L.length : Int) := by omega
      have HX := Lib.hid hxr
      clear hP hpf hs h6 htk hgk hpk hO hownr hkk hlm hmem hxr
      cases hok : okA (P.map Fc.f) with
      | false =>
        obtain ⟨hE2, hV2⟩ := hbad hok
        subst hE2 hV2
        rw [hok] at HCK
        clear hok hbad hokS
        simp only [Bool.false_eq_true, if_false] at HCK
        go_wp2_with (first
          | (go_at_call 28; (have hz := HCK.out); (with_reducible refine Calls.mono hz ?_); clear hz; rintro e w2 ⟨rfl, hx2⟩; (have h2 := hx2.heap h1))
          | (refine wpList_store_row rfl 46 (.tmp 2) (.tmp 18) rfl w.heap.size _ rfl rfl _ _ h2 size_arc rfl oneArc ?_))
        ((try simp only [Exit.inBlock, Exit.then]); refine bodyPost_ret (results_cell_row2 rfl _ _ _ _ _ _ _ rfl (setRow_heap _ _ _ _ _ _ h2) Tryz.underlying46 rfl size_arc) rfl ?_)
        exact ⟨.slice none 0 0, [], rfl, rfl, RSl.nil _ 6, by simp, (HXR.out.trans hx2).setRow (Nat.le_refl _) _⟩
      | true =>
        have HOK := Lib.hid (hokS hok)
        rw [hok] at HCK
        clear hok hbad hokS
        simp only [if_true] at HCK
        go_wp2_with (first
          | (go_at_call 28; (have hz := HCK.out); (with_reducible refine Calls.mono hz ?_); clear hz; rintro e w2 ⟨rfl, hx2⟩; (have hc2 := hx2.cell hc))
          | (at_builtin; refine wpList_append_rsl _ rfl (.tmp 19) (.tmp 24) _ rfl W1.heap.size 35 i0 _ 6 104 Tryz.underlying37 hi0 hz0 hz1 hz2 rfl (by decide) _ O.length (flatC O) rfl (OFcs.ext HOW.out hx2) _ P.length (flatC P) rfl (HPK.out.1.ext (HXR.out.trans hx2)) (flatC_ones (fun x hx => (HPK.out.2 x hx).sl)) HML.out HBY.out (Nat.le_trans hws hx2.size) ?_; intro v3 w3 hown3 hg3 hat3; (have hx3 : Ext W1 w3 := Ext.app (HX.out.trans hx2) hg3 (OFcs.ext HOW.out hx2) (Nat.le_refl _)); (obtain ⟨o3A, o3c, ho3, -, -⟩ := (RSl.of_own hown3).2); subst ho3))
        go_roundw
        case rel =>
          have hl : (catP (L.take (k + 1))).length = O.length + P.length := by rw [HS.out, List.length_append]
          refine ⟨k + 1, o3A, o3c, by rw [hl], hlt, by go_num, ?_, HOK, hx3⟩
          unfold OFcs
          rw [hl, HS.out, flatC_app]
          exact hown3
        case measure => simp [intOf]; omega
    · have hke : k = L.length := by omega
      subst hke
      have htl : L.take L.length = L := List.take_of_length_le (Nat.le_refl _)
      rw [htl] at hownr hokr ⊢
      have hnorm := norm_ok (okM_feeds hokr.out)
      have hE0 : E = 0 := by rw [← HER.out]; unfold mErr; rw [if_pos hokr.out]
      have hV0 : V = normA ((catP L).map Fc.f) := by rw [← HVR.out, hnorm.2]; unfold mVal; rw [if_pos hokr.out]
      have HAR := Lib.hid (refArcW_any _ (catP L) wr (HEW.out.ext HXR.out) hownr.reads (fun x hx => by obtain ⟨p, hp, hx⟩ := mem_catP hx; exact ((HP.out p hp).2 x hx).ext HXR.out) (fun x hx => by obtain ⟨p, hp, hx⟩ := mem_catP hx; exact HK.out p hp x hx) (by rw [catP_len]; exact HT1.out) HEN.out)
      rw [hnorm.1] at HAR
      rw [← hV0] at HAR
      subst hE0
      clear hnorm hV0 htl hokr
      go_wp2_with (first
        | (go_at_call 26; (have hz := HAR.out); (with_reducible refine Calls.mono hz ?_); clear hz; rintro e w2 ⟨v', lc, rfl, hlc, hv', hrd', haw', hx2⟩; (have h2 := hx2.heap h1); (obtain ⟨vA, vc, hvf, -, -⟩ := hv'.form); subst hvf)
        | (refine wpList_store_row rfl 46 (.tmp 2) (.tmp 28) rfl w.heap.size _ rfl rfl _ _ h2 size_arc rfl oneArc ?_))
      ((try simp only [Exit.inBlock, Exit.then]); refine bodyPost_ret (results_cell_row2 rfl _ _ _ _ _ _ _ rfl (setRow_heap _ _ _ _ _ _ h2) Tryz.underlying46 rfl size_arc) rfl ?_)
      have hlt0 : w.heap.size < wr.heap.size := (Array.getElem?_eq_some_iff.1 h1).1
      exact ⟨.slice vA lc.length vc, lc, rfl, hlc, RSl.grown hv' (setRow_grown _ _ _) (haw' w.heap.size hlt0).1, fun z hz => (hrd' z hz).grown (setRow_grown _ _ _) ((haw' w.heap.size hlt0).2 z hz), (HXR.out.trans hx2).setRow (Nat.le_refl _) _⟩
end Go.Proofs.YtgecijhgonfldaaGreatDoor
namespace Go.Proofs.YtgecijhgonfldaaGreatDoor
open Go Go.RowKit Go.Joins
set_option linter.unusedVariables false
def Colr (w : World) (cb : Nat) (u : Value) (e : Int) (O : List Fc) : Prop :=
  w.heap[cb]? = some (.cells #[u, .int .i64 e] 98) ∧ OFcs w (cb + 1) u O
theorem colr_cells {w : World} {cb : Nat} {u : Value} {e : Int} {O : List Fc} (h : Colr w cb u e O) : w.cell? ⟨cb, 0, none⟩ = some u ∧ w.cell? ⟨cb, 1, none⟩ = some (.int .i64 e) ∧ (∀ i, w.frozen? ⟨cb, i, none⟩ = false) ∧ cb < w.heap.size := by
  refine ⟨?_, ?_, fun i => unfrozen_of_block h.1 i, (Array.getElem?_eq_some_iff.1 h.1).1⟩
  · rw [cell_of_block h.1]; rfl
  · rw [cell_of_block h.1]; rfl
theorem Colr.ext {w w' : World} {cb : Nat} {u : Value} {e : Int} {O : List Fc} (h : Colr w cb u e O) (hx : Ext w w') : Colr w' cb u e O := ⟨hx.heap h.1, h.2.ext hx⟩
theorem Colr.err {w : World} {cb : Nat} {u : Value} {e : Int} {O : List Fc} (h : Colr w cb u e O) (e2 : Int) : Colr (w.setCell ⟨cb, 1, none⟩ (.int .i64 e2)) cb u e2 O :=
  ⟨block_setCell h.1 _, ownsRow_setCell_below h.2 (a := ⟨cb, 1, none⟩) (Nat.lt_succ_self _) _⟩
theorem Colr.row {w w5 : World} {cb : Nat} {u u' : Value} {e : Int} {O O' : List Fc} (h : Colr w cb u e O) (hg : w.grownBy w5 u.ownBlock) (hown : OFcs w5 (cb + 1) u' O') : Colr (w5.setCell ⟨cb, 0, none⟩ u') cb u' e O' := by
  have hb : w5.heap[cb]? = w.heap[cb]? := hg.block cb (Array.getElem?_eq_some_iff.1 h.1).1 (fun e => by have := (h.2.lt cb e.symm).1; omega)
  exact ⟨block_setCell (hb.trans h.1) _, ownsRow_setCell_below hown (a := ⟨cb, 0, none⟩) (Nat.lt_succ_self _) _⟩
set_option maxRecDepth 100000 in
set_option maxHeartbeats 4000000 in
theorem add_err (b : World) (cb : Nat) (hcb : b.heap.size ≤ cb) (pv : Value) (P : List Fc) (hP : RFcs b pv P) (w : World) (hx : Ext b w) (u : Value) (O : List Fc) (hc : Colr w cb u 22 O) :
    Calls Tryz.prog 67 #[.pointer (some ⟨cb, 0, none⟩), .agg #[pv]] w fun e w' => e = .returned (.tuple #[]) ∧ Colr w' cb u 22 O ∧ Ext b w' := by
  obtain ⟨k0, k1, kf, klt⟩ := colr_cells hc
  obtain ⟨A, c, rfl, -, -⟩ := hP.form
  have HC := Lib.hid hc
  have HX := Lib.hid hx
  clear hc hx hP
  have hne : w.heap.size ≠ cb := by omega
  go_enter Tryz.func67, Tryz.ntmps67
  go_wp2
  ((try simp only [Exit.inBlock, Exit.then]); refine bodyPost_end (results_none rfl _ _ _) rfl ?_)
  exact ⟨rfl, HC.out.ext ((Ext.refl _).alloc _), HX.out.alloc _⟩
set_option maxRecDepth 100000 in
set_option maxHeartbeats 4000000 in
theorem add_bad (b : World) (cb : Nat) (hcb : b.heap.size ≤ cb) (hE : Env b) (pv : Value) (P : List Fc) (hP : RFcs b pv P) (hPd : ∀ x ∈ P, RdC b x) (hk : ∀ x ∈ P, fokS x.f) (hl : P.length ≤ 1000000) (w : World) (hx : Ext b w) (u : Value) (O : List Fc) (hc : Colr w cb u 0 O) (hbad : okA (P.map Fc.f) = false) :
    Calls Tryz.prog 67 #[.pointer (some ⟨cb, 0, none⟩), .agg #[pv]] w fun e w' => e = .returned (.tuple #[]) ∧ Colr w' cb u 22 O ∧ Ext b w' := by
  obtain ⟨k0, k1, kf, klt⟩ := colr_cells hc
  have HK := Lib.hid (fun w' (h : Ext b w') => mCheckA_any pv P w' (hE.ext h) (hP.ext h) (fun x hx => (hPd x hx).ext h) hk hl)
  rw [hbad] at HK
  obtain ⟨A, c, rfl, -, -⟩ := hP.form
  have HC := Lib.hid hc
  have HX := Lib.hid hx
  have HCB := Lib.hid hcb
  clear hc hx hP hE hPd hk hl hbad
  have hne : w.heap.size ≠ cb := by omega
  go_enter Tryz.func67, Tryz.ntmps67
  go_wp2_with (first
    | (go_at_call 92; (with_reducible refine Calls.mono (HK.out _ (HX.out.alloc _)) ?_); rintro e2 w2 ⟨rfl, hx2⟩; (have HC2 := Lib.hid (HC.out.ext (((Ext.refl w).alloc _).trans hx2))); (obtain ⟨m0, m1, mf, -⟩ := colr_cells HC2.out); (have m1f := mf 1); (have q1 := (colr_cells (HC2.out.err 22)).2.1)))
  ((try simp only [Exit.inBlock, Exit.then]); refine bodyPost_end (results_none rfl _ _ _) rfl ?_)
  exact ⟨rfl, HC2.out.err 22, (HX.out.trans (((Ext.refl w).alloc _).trans hx2)).setCell HCB.out _⟩
set_option maxRecDepth 100000 in
set_option maxHeartbeats 4000000 in
theorem add_ok (b : World) (cb : Nat) (hcb : b.heap.size ≤ cb) (hE : Env b) (pv : Value) (P : List Fc) (hP : RFcs b pv P) (hPd : ∀ x ∈ P, RdC b x) (hk : ∀ x ∈ P, fokS x.f) (hl : P.length ≤ 1000000) (w : World) (hx : Ext b w) (u : Value) (O : List Fc) (hc : Colr w cb u 0 O) (hok : okA (P.map Fc.f) = true) (hsz : O.length + P.length ≤ 1000000) :
    Calls Tryz.prog 67 #[.pointer (some ⟨cb, 0, none⟩), .agg #[pv]] w fun e w' => e = .returned (.tuple #[]) ∧ (∃ u', Colr w' cb u' 0 (O ++ P)) ∧ Ext b w' := by
  obtain ⟨i0, hi0, hz0, hz1, hz2⟩ := info_parts info_feed
  obtain ⟨k0, k1, kf, klt⟩ := colr_cells hc
  have HK := Lib.hid (fun w' (h : Ext b w') => mCheckA_any pv P w' (hE.ext h) (hP.ext h) (fun x hx => (hPd x hx).ext h) hk hl)
  rw [hok] at HK
  have HPP := Lib.hid hP
  have HON := Lib.hid (flatC_ones fun x hx => (hPd x hx).sl)
  obtain ⟨A, c, rfl, -, -⟩ := hP.form
  obtain ⟨uA, uc, rfl, -, -⟩ := hc.2.reads.form
  have HC := Lib.hid hc
  have HX := Lib.hid hx
  have HCB := Lib.hid hcb
  have HML : Hid (O.length + P.length ≤ maxLen) := Lib.hid (by unfold maxLen; omega)
  have HBY : Hid ((O.length + P.length) * 104 ≤ 140737488355328) := Lib.hid (by omega)
  clear hc hx hP hE hPd hk hl hok
  have hne : w.heap.size ≠ cb := by omega
  go_enter Tryz.func67, Tryz.ntmps67
  go_wp2_with (first
    | (go_at_call 92; (with_reducible refine Calls.mono (HK.out _ (HX.out.alloc _)) ?_); rintro e2 w2 ⟨rfl, hx2⟩; (have HC2 := Lib.hid (HC.out.ext (((Ext.refl w).alloc _).trans hx2))); (obtain ⟨m0, m1, mf, -⟩ := colr_cells HC2.out); (have m1f := mf 1); (have q1 := (colr_cells (HC2.out.err 0)).2.1)))
  have pb := (hx2.boxed 0 _ rfl)
  have HXB := Lib.hid ((HX.out.trans (((Ext.refl w).alloc _).trans hx2)).setCell (p := ⟨cb, 1, none⟩) HCB.out (.int .i64 0))
  have HC3 := Lib.hid (HC2.out.err 0)
  have hpb : (w2.setCell ⟨cb, 1, none⟩ (.int .i64 0)).cell? ⟨w.heap.size, 0, none⟩ = some (.slice A P.length c) := (World.cell?_setCell_other w2 ⟨cb, 1, none⟩ ⟨w.heap.size, 0, none⟩ _ (fun e => by have := congrArg Addr.block e; simp only at this; omega)).trans pb
  obtain ⟨W3, hW3⟩ : ∃ W3, w2.setCell ⟨cb, 1, none⟩ (.int .i64 0) = W3 := ⟨_, rfl⟩
  rw [hW3] at HXB HC3 hpb ⊢
  obtain ⟨n0, n1, nf, nlt⟩ := colr_cells HC3.out
  clear hW3 pb q1 m0 m1 mf m1f HC2 k0 k1 kf
  refine wp_region_any (by kernel_rfl) ?_
  change wpAny _ _ _ _ _ _ _ (World.drew _)
  refine wpAny_takeL (i := 0) (v := .pointer (some ⟨cb, 0, none⟩)) rfl (by kernel_rfl) (fun _ _ _ h => h) (Or.inl ⟨by rfl, fun w => by go_simp⟩) ?_
  refine wpAny_takeL (i := 1) (v := .pointer (some ⟨cb, 0, none⟩)) rfl (by kernel_rfl) (fun _ _ _ h => h) (Or.inl ⟨by rfl, fun w => by go_simp⟩) ?_
  refine wpAny_takeL (i := 2) (v := .pointer (some ⟨cb, 0, none⟩)) rfl (by kernel_rfl) (fun _ _ _ h => h) (Or.inl ⟨by rfl, fun w => by go_simp⟩) ?_
  refine wpAny_takeL (i := 3) (v := .pointer (some ⟨cb, 0, none⟩)) rfl (by kernel_rfl) (fun _ _ _ h => h) (Or.inl ⟨by rfl, fun w => by go_simp⟩) ?_
  refine wpAny_load (i := 4) (v := .slice uA O.length uc) (fun w' => Ext W3 w') 7 rfl (by kernel_rfl) (fun _ _ _ h => h) (Or.inl ⟨by rfl, fun w' hS => by have hq := Ext.cell hS n0; go_simp⟩) (Ext.refl W3).drew ?_
  refine wpAnyT_seqS 7 [8, 9, 10] (AtIx.cons rfl (AtIx.cons rfl (AtIx.cons rfl (AtIx.cons rfl AtIx.nil)))) [5, 6] _ _ _ _ (AtIx.cons rfl (AtIx.cons rfl AtIx.nil)) (by kernel_rfl) ?_
  have hxd := (Ext.refl W3).drew
  have hbd := hxd.cell hpb
  refine wpListS_step (fun K hK => ?_); go_simp; refine hK _ _ hxd ?_; clear hK K
  refine wpListS_step (fun K hK => ?_); go_simp; refine hK _ _ hxd ?_; clear hK K
  refine wpListS_nil ?_
  have HOW : Hid (OFcs W3.drew (cb + 1) (.slice uA O.length uc) O) := Lib.hid (HC3.out.2.ext hxd)
  have HCD := Lib.hid (HC3.out.ext hxd)
  have hsz3 : cb + 1 ≤ W3.drew.heap.size := nlt
  have HXD := Lib.hid (HXB.out.trans hxd)
  go_wp2_with (first
    | (at_builtin; refine wpList_append_rsl _ rfl (.tmp 23) (.tmp 25) _ rfl (cb + 1) 35 i0 _ 6 104 Tryz.underlying37 hi0 hz0 hz1 hz2 rfl (by decide) _ O.length (flatC O) rfl HOW.out _ P.length (flatC P) rfl (HPP.out.ext HXD.out) HON.out HML.out HBY.out hsz3 ?_; intro v5 w5 hown5 hg5 hat5; (have hx5 : Ext b w5 := Ext.app HXD.out hg5 HOW.out (Nat.le_succ_of_le HCB.out)); (obtain ⟨A5, c5, hv5, -, -⟩ := (RSl.of_own hown5).2); subst hv5; (have hh5 : w5.heap[cb]? = some (.cells #[.slice uA O.length uc, .int .i64 0] 98) := (hg5.block cb (Array.getElem?_eq_some_iff.1 HCD.out.1).1 (fun e => by have := (HOW.out.lt cb e.symm).1; omega)).trans HCD.out.1); (have p0 := (cell_of_block hh5 0)); (have pf := unfrozen_of_block hh5 0)))
  ((try simp only [Exit.inBlock, Exit.then]); refine bodyPost_end (results_none rfl _ _ _) rfl ?_)
  exact ⟨rfl, ⟨_, Colr.row HCD.out hg5 (show OFcs w5 (cb + 1) _ (O ++ P) from by unfold OFcs; rw [List.length_append, flatC_app]; exact hown5)⟩, hx5.setCell HCB.out _⟩
end Go.Proofs.YtgecijhgonfldaaGreatDoor
namespace Go.Proofs.YtgecijhgonfldaaGreatDoor
open Go Go.RowKit
set_option linter.unusedVariables false
def ColS (w : World) (cb : Nat) (L : List (Value × List Fc)) : Prop :=
  (okM L = true ∧ ∃ u, Colr w cb u 0 (catP L)) ∨ (okM L = false ∧ ∃ u O, Colr w cb u 22 O)
theorem ColS.ext {w w' : World} {cb : Nat} {L : List (Value × List Fc)} (h : ColS w cb L) (hx : Ext w w') : ColS w' cb L := by
  rcases h with ⟨h, u, hc⟩ | ⟨h, u, O, hc⟩
  · exact Or.inl ⟨h, u, hc.ext hx⟩
  · exact Or.inr ⟨h, u, O, hc.ext hx⟩
theorem okM_snoc (L : List (Value × List Fc)) (p : Value × List Fc) : okM (L ++ [p]) = (okM L && okA (p.2.map Fc.f)) := by
  unfold okM
  rw [List.all_append]
  simp
theorem add_any (b : World) (cb : Nat) (hcb : b.heap.size ≤ cb) (hE : Env b) (L : List (Value × List Fc)) (p : Value × List Fc) (hP : RFcs b p.1 p.2) (hPd : ∀ x ∈ p.2, RdC b x) (hk : ∀ x ∈ p.2, fokS x.f) (hl : p.2.length ≤ 1000000) (hsz : lensP L + p.2.length ≤ 1000000) (w : World) (hx : Ext b w) (hc : ColS w cb L) :
    Calls Tryz.prog 67 #[.pointer (some ⟨cb, 0, none⟩), .agg #[p.1]] w fun e w' => e = .returned (.tuple #[]) ∧ ColS w' cb (L ++ [p]) ∧ Ext b w' := by
  rcases hc with ⟨hm, u, hc⟩ | ⟨hm, u, O, hc⟩
  · cases hok : okA (p.2.map Fc.f) with
    | false =>
      refine (add_bad b cb hcb hE p.1 p.2 hP hPd hk hl w hx u _ hc hok).mono ?_
      rintro e w' ⟨h1, h2, h3⟩
      exact ⟨h1, Or.inr ⟨by rw [okM_snoc, hok, Bool.and_false], u, _, h2⟩, h3⟩
    | true =>
      refine (add_ok b cb hcb hE p.1 p.2 hP hPd hk hl w hx u _ hc hok (by rw [catP_len]; exact hsz)).mono ?_
      rintro e w' ⟨h1, ⟨u', h2⟩, h3⟩
      refine ⟨h1, Or.inl ⟨by rw [okM_snoc, hm, hok]; rfl, u', ?_⟩, h3⟩
      rw [catP_snoc]
      exact h2
  · refine (add_err b cb hcb p.1 p.2 hP w hx u O hc).mono ?_
    rintro e w' ⟨h1, h2, h3⟩
    exact ⟨h1, Or.inr ⟨by rw [okM_snoc, hm]; rfl, u, O, h2⟩, h3⟩
set_option maxRecDepth 100000 in
set_option maxHeartbeats 2000000 in
theorem each_any (b : World) (cb : Nat) (hcb : b.heap.size ≤ cb) (hE : Env b) (u : Value) (L : List (Value × List Fc)) (hu : RSl b 1 u L.length (L.map Prod.fst)) (hp : ∀ p ∈ L, RFcs b p.1 p.2 ∧ ∀ x ∈ p.2, RdC b x) (hk : ∀ p ∈ L, ∀ x ∈ p.2, fokS x.f) (hn : L.length ≤ 1000) (ht : lensP L ≤ 1000000) (w : World) (hx : Ext b w) (hc : ColS w cb []) :
    Calls Tryz.prog 66 #[.func (.func 67) #[.pointer (some ⟨cb, 0, none⟩)] #[], u] w fun e w' => e = .returned (.tuple #[]) ∧ ColS w' cb L ∧ Ext b w' := by
  obtain ⟨A, c, rfl⟩ : ∃ A c, u = .slice A L.length c := by obtain ⟨_, A, c, e, _⟩ := hu; exact ⟨A, c, e⟩
  have HV := Lib.hid hu
  have HADD : Hid (∀ (k : Nat) (hkl : k < L.length) (w' : World), Ext b w' → ColS w' cb (L.take k) → Calls Tryz.prog 67 #[.pointer (some ⟨cb, 0, none⟩), .agg #[L[k].1]] w' fun e w'' => e = .returned (.tuple #[]) ∧ ColS w'' cb (L.take (k + 1)) ∧ Ext b w'') := Lib.hid fun k hkl w' hx' hc' => by
    have hm := List.getElem_mem hkl
    have h1 := lensP_take L (k + 1)
    have htk := List.take_succ_eq_append_getElem hkl
    rw [htk, lensP_snoc] at h1
    rw [htk]
    exact add_any b cb hcb hE (L.take k) L[k] (hp _ hm).1 (hp _ hm).2 (hk _ hm) (by omega) (by omega) w' hx' hc'
  have HF : Hid (∀ (k : Nat) (hkl : k < L.length), ∃ pA pn pc, L[k].1 = .slice pA pn pc) := Lib.hid fun k hkl => by
    obtain ⟨pA, pc, h, -, -⟩ := (hp _ (List.getElem_mem hkl)).1.form
    exact ⟨pA, _, pc, h⟩
  have HX := Lib.hid hx
  have HC := Lib.hid hc
  clear hu hp hk ht hE hx hc
  go_enter Tryz.func66, Tryz.ntmps66
  go_wp2
  go_loopw [8] (fun i wr => ∃ k : Nat, k ≤ L.length ∧ i = .int .i64 k ∧ Hid (ColS wr cb (L.take k)) ∧ Ext b wr) (fun i _ => L.length - (intOf i).toNat)
  case atStart => exact ⟨0, Nat.zero_le _, rfl, HC, HX.out⟩
  case round =>
    obtain ⟨k, hkk, rfl, hcr, hxr⟩ := hrel
    by_cases hlt : k < L.length
    · have hgk : (L.map Prod.fst)[k]? = some L[k].1 := by rw [List.getElem?_map, List.getElem?_eq_getElem hlt]; rfl
      obtain ⟨ad, e1, hc⟩ := RSl.at1 (HV.out.ext hxr) k _ hgk
      subst e1
      obtain ⟨pA, pn, pc, hpf⟩ := HF.out k hlt
      have HA := Lib.hid (HADD.out k hlt (wr.alloc (.cells #[.slice pA pn pc] 46)) (hxr.alloc _) (hcr.out.ext ((Ext.refl _).alloc _)))
      rw [hpf] at HA hc
      have hi0' : (0 : Int) ≤ (k : Int) := by omega
      have hi1 : (k : Int) < (L.length : Int) := by omega
      have HLT := Lib.hid hlt
      clear hpf hgk
      go_wp2_with (first
        | (go_at_call 67; (have hz := HA.out); (with_reducible refine Calls.mono hz ?_); clear hz; rintro e w2 ⟨rfl, hc2, hx2⟩))
      go_roundw
      case rel => exact ⟨k + 1, HLT.out, by go_num, Lib.hid hc2, hx2⟩
      case measure => simp [intOf]; omega
    · have hke : k = L.length := by omega
      subst hke
      have hcr2 := hcr.out
      rw [List.take_of_length_le (Nat.le_refl _)] at hcr2
      have HR := Lib.hid hcr2
      clear hcr2
      go_wp2
      ((try simp only [Exit.inBlock, Exit.then]); refine bodyPost_end (results_none rfl _ _ _) rfl ?_)
      exact ⟨rfl, HR.out, hxr⟩
end Go.Proofs.YtgecijhgonfldaaGreatDoor
namespace Go.Proofs.YtgecijhgonfldaaGreatDoor
open Go Go.RowKit
set_option linter.unusedVariables false
structure SmL (l : List Fd) (n : Nat) : Prop where
  len : l.length ≤ n
  sum : sumE l ≤ n
  hok : ∀ f ∈ l, hokF f
theorem sumE_app (a b : List Fd) : sumE (a ++ b) = sumE a + sumE b := by unfold sumE; rw [List.map_append, List.sum_append]
theorem SmL.app {a b : List Fd} {n m : Nat} (ha : SmL a n) (hb : SmL b m) : SmL (a ++ b) (n + m) :=
  ⟨by rw [List.length_append]; exact Nat.add_le_add ha.len hb.len, by rw [sumE_app]; exact Nat.add_le_add ha.sum hb.sum, fun f hf => (List.mem_append.1 hf).elim (ha.hok f) (hb.hok f)⟩
theorem SmL.canon {l : List Fd} {n : Nat} (h : SmL l n) : SmL (ordF.canon l) n :=
  ⟨Nat.le_trans (canon_len ordF l) h.len, Nat.le_trans (canonF_sum l) h.sum, canonF_hok h.hok⟩
theorem SmL.mrg {a b : List Fd} {n m : Nat} (ha : SmL a n) (hb : SmL b m) : SmL (mrg a b) (n + m) := (ha.app hb).canon
theorem SmL.mono {l : List Fd} {n m : Nat} (h : SmL l n) (hm : n ≤ m) : SmL l m := ⟨Nat.le_trans h.len hm, Nat.le_trans h.sum hm, h.hok⟩
theorem SmL.nil : SmL [] 0 := ⟨Nat.le_refl _, Nat.le_refl _, by simp⟩
theorem SmL.fokS {l : List Fd} {n : Nat} (h : SmL l n) (hn : n ≤ 1000000) : ∀ f ∈ l, fokS f ∧ f.path.length ≤ 1000000 := fun f hf => by
  have h1 : f.ents.length ≤ sumE l := mem_sum (List.mem_map.2 ⟨f, hf, rfl⟩)
  have h2 := h.sum
  exact ⟨⟨(h.hok f hf).1.1, by omega, (h.hok f hf).2⟩, (h.hok f hf).1.2⟩
theorem SmL.lens {l : List Fd} {n : Nat} (h : SmL l n) (hn : n ≤ 1000000) : ∀ f ∈ l, f.path.length ≤ 16777216 ∧ f.ents.length ≤ 16777216 := fun f hf => by
  have h1 := h.fokS hn f hf
  exact ⟨by have := h1.2; omega, by have := h1.1.2.1; omega⟩
theorem SmL.of_big {l : List Fc} (hw : ∀ x ∈ l, fwide x.f) (h : bigL (l.map Fc.f) ≤ 5000) : SmL (l.map Fc.f) 5000 := by
  have h1 := small_all hw h
  have h2 := small_allE l
  refine ⟨?_, Nat.le_trans h2 h, fun f hf => ?_⟩
  · have h3 : ∀ m : List Fd, m.length ≤ bigL m := by
      intro m
      induction m with
      | nil => exact Nat.zero_le _
      | cons f t ih =>
        have e : bigL (f :: t) = bigF f + bigL t := by unfold bigL; simp
        have e2 : bigF f = bigH f + bigP f.path + bigEs f.ents := rfl
        have e3 : 1 ≤ bigH f := by unfold bigH capN; omega
        rw [List.length_cons]
        omega
    exact Nat.le_trans (h3 _) h
  · obtain ⟨x, hx, rfl⟩ := List.mem_map.1 hf
    exact ⟨⟨(h1 x hx).1.1, (h1 x hx).2⟩, (h1 x hx).1.2.2⟩
abbrev Arc := Value × List Fc
def Arc.fs (p : Arc) : List Fd := p.2.map Fc.f
structure ArcV (w : World) (p : Arc) : Prop where
  row : RFcs w p.1 p.2
  rd : ∀ x ∈ p.2, RdC w x
theorem ArcV.ext {w w' : World} {p : Arc} (h : ArcV w p) (hx : Ext w w') : ArcV w' p := ⟨h.row.ext hx, fun x hx' => (h.rd x hx').ext hx⟩
theorem ArcV.form {w : World} {p : Arc} (h : ArcV w p) : ∃ A c, p.1 = .slice A p.2.length c := by
  obtain ⟨A, c, e, -, -⟩ := h.row.form
  exact ⟨A, c, e⟩
theorem ArcV.nil (w : World) : ArcV w (.slice none 0 0, []) := ⟨RSl.nil _ 6, by simp⟩
def arcWide (p : Arc) : Prop := p.2.length ≤ reachBytes ∧ ∀ y ∈ p.2, fwide y.f
theorem catP_map (L : List Arc) : (catP L).map Fc.f = (L.map Arc.fs).flatten := by
  unfold catP
  rw [List.map_flatten, List.map_map]
  rfl
theorem smL_cat : ∀ (L : List Arc) (n : Nat), (∀ p ∈ L, SmL p.fs n) → SmL ((catP L).map Fc.f) (n * L.length)
  | [], n, _ => by rw [List.length_nil, Nat.mul_zero]; exact SmL.nil
  | p :: t, n, h => by
    have h1 := smL_cat t n fun q hq => h q (List.mem_cons_of_mem _ hq)
    have h2 := (h p (List.mem_cons_self ..)).app h1
    rw [List.length_cons, Nat.mul_succ]
    have e : (catP (p :: t)).map Fc.f = p.fs ++ (catP t).map Fc.f := by unfold catP Arc.fs; simp
    rw [e]
    exact h2.mono (by omega)
theorem allE_sum (l : List Fc) : allE l = sumE (l.map Fc.f) := by unfold allE sumE; rw [List.map_map]; rfl
theorem lensP_sm {L : List Arc} {n : Nat} (h : SmL ((catP L).map Fc.f) n) : lensP L ≤ n := by
  rw [← catP_len]
  have := h.len
  rwa [List.length_map] at this
theorem allE_sm {L : List Arc} {n : Nat} (h : SmL ((catP L).map Fc.f) n) : allE (catP L) ≤ n := by
  rw [allE_sum]
  exact h.sum
theorem fokS_sm {L : List Arc} {n : Nat} (h : SmL ((catP L).map Fc.f) n) (hn : n ≤ 1000000) : ∀ p ∈ L, ∀ x ∈ p.2, fokS x.f ∧ x.f.path.length ≤ 1000000 := fun p hp x hx =>
  h.fokS hn x.f (List.mem_map.2 ⟨x, List.mem_flatten.2 ⟨p.2, List.mem_map.2 ⟨p, hp, rfl⟩, hx⟩, rfl⟩)
def okV (V : List (List Fd)) : Bool := V.all okA
def mErrV (V : List (List Fd)) : Int := if okV V = true then 0 else 22
def mValV (V : List (List Fd)) : List Fd := if okV V = true then ordF.canon V.flatten else []
theorem okM_V (L : List Arc) : okM L = okV (L.map Arc.fs) := by unfold okM okV; rw [List.all_map]; rfl
theorem mErr_V (L : List Arc) : mErr L = mErrV (L.map Arc.fs) := by unfold mErr mErrV; rw [okM_V]
theorem mVal_V (L : List Arc) : mVal L = mValV (L.map Arc.fs) := by unfold mVal mValV; rw [okM_V, catP_map]
theorem mV_two {a b : List Fd} (ha : okA a = true) (hb : okA b = true) : mErrV [a, b] = 0 ∧ mValV [a, b] = mrg a b := by
  have h : okV [a, b] = true := by unfold okV; simp [ha, hb]
  unfold mErrV mValV mrg
  rw [if_pos h, if_pos h]
  simp
theorem mV_three {a b c : List Fd} (ha : okA a = true) (hb : okA b = true) (hc : okA c = true) : mErrV [a, b, c] = 0 ∧ mValV [a, b, c] = ordF.canon (a ++ b ++ c) := by
  have h : okV [a, b, c] = true := by unfold okV; simp [ha, hb, hc]
  unfold mErrV mValV
  rw [if_pos h, if_pos h]
  simp
theorem smL_valV {V : List (List Fd)} {n : Nat} (h : SmL V.flatten n) : SmL (mValV V) n := by
  unfold mValV
  split
  · exact h.canon
  · exact SmL.nil.mono (Nat.zero_le _)
theorem okA_valV (V : List (List Fd)) : okA (mValV V) = true := by
  unfold mValV
  split
  · rename_i h
    refine canon_okA fun x hx => ?_
    obtain ⟨l, hl, hx⟩ := List.mem_flatten.1 hx
    exact okA_all (List.all_eq_true.1 h l hl) x hx
  · rfl
theorem rsl_arcs {w : World} {us : List Value} (hm : us.length ≤ maxLen) : RSl (w.alloc (.cells us.toArray 46)) 1 (.slice (some ⟨w.heap.size, 0, none⟩) us.length us.length) us.length us :=
  rsl_block (e := 46) (fr := (0, 0)) (size := 1) (heap_alloc_new w _) (by rw [Nat.mul_one]) hm
theorem ob_of_str {w : World} {size n g : Nat} {v u : Value} {s : ByteArray} {xs : List Value} {t : TypeId} (h : RSl w size v n (.string s :: xs)) (hb : w.heap[g]? = some (.cells #[u] t)) (hu : ∀ s, u ≠ .string s) : v.ownBlock ≠ some g := by
  obtain ⟨_, A, c, rfl, _, _, _, h5⟩ := h
  obtain ⟨ad, rfl, hc⟩ := h5 0 _ rfl
  rw [add_zero] at hc
  intro e
  have e : some ad.block = some g := e
  injection e with e
  simp only [World.cell?, e, hb] at hc
  split at hc
  · cases hc
  · have := Array.mem_of_getElem? hc
    simp at this
    exact hu s this.symm
theorem away_box {w : World} {y : Fc} (h : RdC w y) {g : Nat} {A : Option Addr} {n c : Nat} {t : TypeId} (hb : w.heap[g]? = some (.cells #[.slice A n c] t)) : awayC y (some g) := by
  refine ⟨?_, ?_⟩
  · have h1 := h.1
    unfold RStrs at h1
    cases hp : y.f.path with
    | nil => exact Or.inl rfl
    | cons s l =>
      rw [hp] at h1
      exact Or.inr (ob_of_str h1 hb (fun s e => by cases e))
  · have h1 := h.2
    unfold REnts flatE at h1
    cases hp : y.f.ents with
    | nil => exact Or.inl rfl
    | cons e l =>
      rw [hp] at h1
      exact Or.inr (ob_of_str h1 hb (fun s e => by cases e))
end Go.Proofs.YtgecijhgonfldaaGreatDoor
namespace Go.Proofs.YtgecijhgonfldaaGreatDoor
open Go Go.RowKit
section
variable {P : Program} {md : Region.Mode} {Q : Exit → Act → World → Prop} {S : World → Prop}
theorem wpAnyT_first_load {ops : Array Oper} {t i : Nat} {oi : Oper} {v : Value} (hi : ops[i]? = some oi) (hsel : ∀ (j : Nat) (o : Oper) cs b, ops[j]? = some o → o.op ≠ .select cs b)
    (hQ : ∀ c a w, Q (.panic c) (a.put oi.dst v) w → Q (.panic c) a w) (hit : i ≠ t) (hwt : ∀ ot, ops[t]? = some ot → ∃ e ∈ ot.after, Region.binds md e = true ∧ e.on = i) :
    ∀ (fuel : Nat) (listed : Array Bool) (a : Act) (w : World), listed.getD t true = false →
      (∀ j oj, ops[j]? = some oj → j ≠ i → listed.getD j true = false → (∀ e ∈ oj.after, Region.binds md e = true → e.on ≠ i) → oi.apart ops oj = true) →
      i ∈ Region.ready md ops listed → YieldsIf P ops S oi v a → S w →
      wpAnyT P md ops Q S t fuel (listed.setIfInBounds i true) (a.put oi.dst v) w → wpAnyT P md ops Q S t (fuel + 1) listed a w := by
  intro fuel
  induction fuel with
  | zero =>
    intro listed a w _ _ hr hy hS H
    refine ⟨fun h => (by rw [h] at hr; cases hr), fun j hj => ?_⟩
    by_cases hji : j = i
    · subst hji; exact hy.wpOp hi hS ⟨fun _ => hS, H⟩
    · have := ready_mono hj hji
      rw [H.1] at this
      cases this
  | succ fuel ih =>
    intro listed a w htl hfree hr hy hS H
    refine ⟨fun h => (by rw [h] at hr; cases hr), fun j hj => ?_⟩
    by_cases hji : j = i
    · subst hji; exact hy.wpOp hi hS ⟨fun _ => hS, H⟩
    · have h1 := H.2 j (ready_mono hj hji)
      obtain ⟨hjun, oj, hoj, hall⟩ := mem_ready.1 hj
      have hun := (mem_ready.1 hr).1
      have hnot : ∀ e ∈ oj.after, Region.binds md e = true → e.on ≠ i := fun e he hb heq => by
        have h1 := hall e he hb
        rw [heq, getD_both hun] at h1
        cases h1
      have hjt : j ≠ t := fun e => by
        subst e
        obtain ⟨e, he, hb, hon⟩ := hwt oj hoj
        exact hnot e he hb hon
      have h2 := wpOp_putIf hoj (hfree j oj hoj hji hjun hnot) (fun cs b => hsel i oi cs b hi) (fun cs b => hsel j oj cs b hoj) hQ hy h1
      have hfree' : ∀ k ok, ops[k]? = some ok → k ≠ i → (listed.setIfInBounds j true).getD k true = false →
          (∀ e ∈ ok.after, Region.binds md e = true → e.on ≠ i) → oi.apart ops ok = true := fun k ok hk hki hunk hno => by
        refine hfree k ok hk hki ?_ hno
        by_cases hjk : j = k
        · subst hjk; exact hjun
        · rw [getD_set_ne true hjk] at hunk; exact hunk
      have htl' : (listed.setIfInBounds j true).getD t true = false := by rw [getD_set_ne true hjt]; exact htl
      have htl2 : ((listed.setIfInBounds i true).setIfInBounds j true).getD t true = false := by rw [getD_set_ne true hjt, getD_set_ne true hit]; exact htl
      refine wpOp_mono (fun a' w' h3 => ⟨fun _ => h3.2.1 htl2, ih (listed.setIfInBounds j true) a' w' htl' hfree' (ready_mono hr (Ne.symm hji)) h3.1 (h3.2.1 htl2) ?_⟩) h2
      rw [Array.setIfInBounds_comm _ _ hji]
      exact h3.2.2
theorem wpAnyT_load {l : List Oper} {i t : Nat} {oi : Oper} {v : Value} {fuel : Nat} {listed : Array Bool} {a : Act} {w : World} (hi' : l[i]? = some oi)
    (hB : (Region.noSelect l.toArray && decide (i ≠ t) && Region.waitsFor md l.toArray t i && !listed.getD t true && Region.free md l.toArray listed i && (Region.ready md l.toArray listed).contains i) = true)
    (hQ : ∀ c a w, Q (.panic c) (a.put oi.dst v) w → Q (.panic c) a w) (hy : YieldsIf P l.toArray S oi v a) (hS : S w)
    (h : wpAnyT P md l.toArray Q S t fuel (listed.setIfInBounds i true) (a.put oi.dst v) w) : wpAnyT P md l.toArray Q S t (fuel + 1) listed a w := by
  have hi : l.toArray[i]? = some oi := by rw [List.getElem?_toArray]; exact hi'
  simp only [Bool.and_eq_true, decide_eq_true_eq, Bool.not_eq_true'] at hB
  obtain ⟨⟨⟨⟨⟨b1, b2⟩, b3⟩, b4⟩, b5⟩, b6⟩ := hB
  obtain ⟨ot, hot, e, he, hb, hon⟩ := Region.waitsFor_spec b3
  exact wpAnyT_first_load hi (Region.noSelect_spec b1) hQ b2 (fun ot' ho' => by
    have : ot' = ot := Option.some.inj (ho'.symm.trans hot)
    subst this
    exact ⟨e, he, hb, hon⟩) fuel listed a w b4 (Region.free_spec hi b5) (by simpa using b6) hy hS h
theorem wpAnyT_step {l : List Oper} {t i fuel : Nat} {o : Oper} {listed : Array Bool} {a : Act} {w : World} (ho : l[i]? = some o) (hr : Region.ready md l.toArray listed = [i])
    (h : ∀ K : Act → World → Prop, (∀ a' w', S w' → wpAnyT P md l.toArray Q S t fuel (listed.setIfInBounds i true) a' w' → K a' w') → if Region.wanted o (yielded l.toArray a.tmps) then Oper.wp P o a w K Q else K (a.put o.dst undef) w) : wpAnyT P md l.toArray Q S t (fuel + 1) listed a w := by
  have ho' : l.toArray[i]? = some o := by rw [List.getElem?_toArray]; exact ho
  have h' := h (fun a' w' => S w' ∧ wpAnyT P md l.toArray Q S t fuel (listed.setIfInBounds i true) a' w') fun _ _ h1 h2 => ⟨h1, h2⟩
  refine ⟨fun h => (by rw [hr] at h; cases h), fun k hk => ?_⟩
  rw [hr] at hk
  rw [List.mem_singleton.1 hk]
  have hw : wpOp P l.toArray Q i (fun a' w' => S w' ∧ wpAnyT P md l.toArray Q S t fuel (listed.setIfInBounds i true) a' w') a w := by
    unfold wpOp
    simp only [ho']
    split
    · rename_i hw; rw [if_pos hw] at h'; exact Or.inl h'
    · rename_i hw; rw [if_neg hw] at h'; exact h'
  exact wpOp_mono (fun a' w' h' => ⟨fun _ => h'.1, h'.2⟩) hw
theorem wpAnyT_seqF {l : List Oper} (t : Nat) (us : List Nat) {post : List Oper} (hus : AtIx l (t :: us) post) (ts : List Nat) {tl : List Oper} {fuel : Nat} {listed : Array Bool} {a : Act} {w : World} (hts : AtIx l ts tl) (hf : fuel = ts.length + (us.length + 1))
    (hB : seqL md l.toArray (ts ++ (t :: us)) listed = true) (h : wpListS P l.toArray Q S post tl a w) : wpAnyT P md l.toArray Q S t fuel listed a w := by
  subst hf
  exact wpAnyT_seqS t us hus ts tl listed a w hts hB h
end
end Go.Proofs.YtgecijhgonfldaaGreatDoor
namespace Go.Proofs.YtgecijhgonfldaaGreatDoor
open Go Go.RowKit
set_option linter.unusedVariables false
def ErrIs (cb : Nat) (w : World) : Prop := w.cell? ⟨cb, 1, none⟩ = some (.int .i64 22)
set_option maxRecDepth 100000 in
set_option maxHeartbeats 4000000 in
theorem merge_any (u : Value) (L : List (Value × List Fc)) (w : World) (hE : Env w) (hu : RSl w 1 u L.length (L.map Prod.fst)) (hp : ∀ p ∈ L, RFcs w p.1 p.2 ∧ ∀ x ∈ p.2, RdC w x)
    (hk : ∀ p ∈ L, ∀ x ∈ p.2, fokS x.f) (hn : L.length ≤ 1000) (ht : lensP L ≤ 1000000) (hen : allE (catP L) ≤ 1000000) :
    Calls Tryz.prog 34 #[u] w fun e w' => ∃ (v' : Value) (lc : List Fc), e = .returned (.tuple #[.agg #[v'], .int .i64 (mErr L)]) ∧ lc.map Fc.f = mVal L ∧ RFcs w' v' lc ∧ (∀ y ∈ lc, RdC w' y) ∧ Ext w w' := by
  obtain ⟨W1, hW1⟩ : ∃ W1, w.alloc (.cells #[.slice none 0 0] 46) = W1 := ⟨_, rfl⟩
  have hx1 : Ext w W1 := by rw [← hW1]; exact (Ext.refl _).alloc _
  have hs1 : W1.heap.size = w.heap.size + 1 := by rw [← hW1]; exact size_alloc _ _
  have hb1 : W1.heap[w.heap.size]? = some (.cells #[.slice none 0 0] 46) := by rw [← hW1]; exact heap_alloc_new _ _
  have hcol : ColS (W1.alloc (.cells #[.slice none 0 0, .int .i64 0] 98)) W1.heap.size [] := Or.inl ⟨rfl, .slice none 0 0, heap_alloc_new _ _, OFcs.nil _ _⟩
  have HEA := Lib.hid (each_any W1 W1.heap.size (Nat.le_refl _) (hE.ext hx1) u L (hu.ext hx1) (fun p hpm => ⟨(hp p hpm).1.ext hx1, fun x hx => ((hp p hpm).2 x hx).ext hx1⟩) hk hn ht _ ((Ext.refl W1).alloc _) hcol)
  have HEW := Lib.hid hE
  have HP := Lib.hid hp
  have HK := Lib.hid hk
  have HX1 := Lib.hid hx1
  have HB1 := Lib.hid hb1
  have HT := Lib.hid ht
  have HEN := Lib.hid hen
  obtain ⟨A, c, rfl⟩ : ∃ A c, u = .slice A L.length c := by obtain ⟨_, A, c, e, _⟩ := hu; exact ⟨A, c, e⟩
  clear hu hp hk ht hen hE hx1 hb1 hcol
  obtain ⟨E, hEr⟩ : ∃ E, mErr L = E := ⟨_, rfl⟩
  obtain ⟨V, hVr⟩ : ∃ V, mVal L = V := ⟨_, rfl⟩
  simp only [hEr, hVr]
  have HER := Lib.hid hEr
  have HVR := Lib.hid hVr
  have HS1 := Lib.hid hs1
  clear hEr hVr hs1
  cases hm : okM L with
  | true =>
    have HEB : Hid (Calls Tryz.prog 66 #[.func (.func 67) #[.pointer (some ⟨W1.heap.size, 0, none⟩)] #[], .slice A L.length c] (W1.alloc (.cells #[.slice none 0 0, .int .i64 0] 98)) fun e w' => e = .returned (.tuple #[]) ∧ (∃ u', Colr w' W1.heap.size u' 0 (catP L)) ∧ Ext W1 w') := Lib.hid (HEA.out.mono (fun e w' h => ⟨h.1, (by
      rcases h.2.1 with ⟨_, h2⟩ | ⟨h2, _⟩
      · exact h2
      · rw [hm] at h2; cases h2), h.2.2⟩))
    have hnorm := norm_ok (okM_feeds hm)
    have hE0 : E = 0 := by rw [← HER.out]; unfold mErr; rw [if_pos hm]
    have hV0 : V = normA ((catP L).map Fc.f) := by rw [← HVR.out, hnorm.2]; unfold mVal; rw [if_pos hm]
    have HAR : Hid (∀ (v : Value) (w' : World), Ext W1 w' → RFcs w' v (catP L) → Calls Tryz.prog 25 #[v] w' fun e w'' => ∃ (v' : Value) (lc : List Fc), e = .returned (.tuple #[.agg #[v'], .int .i64 0]) ∧ lc.map Fc.f = V ∧ HFs w'' w'.heap.size v' lc ∧ Ext w' w'') := Lib.hid fun v w' hx hr => by
      have h := archive_any v (catP L) w' (HEW.out.ext (HX1.out.trans hx)) hr (fun x hx2 => by obtain ⟨p, hp, hx2⟩ := mem_catP hx2; exact ((HP.out p hp).2 x hx2).ext (HX1.out.trans hx)) (fun x hx2 => by obtain ⟨p, hp, hx2⟩ := mem_catP hx2; exact HK.out p hp x hx2) (by rw [catP_len]; exact HT.out) HEN.out
      rw [hnorm.1, ← hV0] at h
      exact h
    subst hE0
    clear hnorm hV0 hm HEA
    go_enter Tryz.func34, Tryz.ntmps34
    go_wp2_with (first
      | (go_at_call 66; (have hz := HEB.out); (with_reducible refine Calls.mono hz ?_); clear hz; rintro e w2 ⟨rfl, ⟨u', hcc⟩, hx2⟩; (obtain ⟨k0, k1, kf, klt⟩ := colr_cells hcc); (obtain ⟨uA, uc, huf, -, -⟩ := hcc.2.reads.form); subst huf; (have h2 := hx2.heap HB1.out))
      | (go_at_call 25; (have hz := HAR.out _ w2 hx2 hcc.2.reads); (with_reducible refine Calls.mono hz ?_); clear hz; rintro e3 w3 ⟨v', lc, rfl, hlc, hfs, hx3⟩; (have h3 := hx3.heap h2); (obtain ⟨vA, vc, hvf, -, -⟩ := hfs.row.reads.form); subst hvf)
      | (refine wpList_store_row rfl 46 (.tmp 2) (.tmp 26) rfl w.heap.size _ rfl rfl _ _ h3 size_arc rfl oneArc ?_))
    have hlt2 : w.heap.size < w2.heap.size := (Array.getElem?_eq_some_iff.1 h2).1
    have hfl := hfs.row.lt
    ((try simp only [Exit.inBlock, Exit.then]); refine bodyPost_ret (results_cell_row2 rfl _ _ _ _ #[.slice vA lc.length vc] _ _ rfl (setRow_heap _ _ _ #[.slice vA lc.length vc] _ _ h3) Tryz.underlying46 rfl size_arc) rfl ?_)
    exact ⟨.slice vA lc.length vc, lc, rfl, hlc, RSl.grown hfs.row.reads (setRow_grown _ _ _) (Or.inr fun e => by have := (hfl _ e).1; omega), fun y hy => (hfs.rd y hy).grown (setRow_grown _ _ _) (away_box (hfs.rd y hy) h3), ((HX1.out.trans hx2).trans hx3).setRow (Nat.le_refl _) _⟩
  | false =>
    have HEB : Hid (Calls Tryz.prog 66 #[.func (.func 67) #[.pointer (some ⟨W1.heap.size, 0, none⟩)] #[], .slice A L.length c] (W1.alloc (.cells #[.slice none 0 0, .int .i64 0] 98)) fun e w' => e = .returned (.tuple #[]) ∧ (∃ u' O, Colr w' W1.heap.size u' 22 O) ∧ Ext W1 w') := Lib.hid (HEA.out.mono (fun e w' h => ⟨h.1, (by
      rcases h.2.1 with ⟨h2, _⟩ | ⟨_, h2⟩
      · rw [hm] at h2; cases h2
      · exact h2), h.2.2⟩))
    have hE2 : E = 22 := by rw [← HER.out]; unfold mErr; rw [hm]; rfl
    have hV2 : V = [] := by rw [← HVR.out]; unfold mVal; rw [hm]; rfl
    subst hE2 hV2
    clear hm HEA HVR HER
    go_enter Tryz.func34, Tryz.ntmps34
    go_wp2_with (first
      | (go_at_call 66; (have hz := HEB.out); (with_reducible refine Calls.mono hz ?_); clear hz; rintro e w2 ⟨rfl, ⟨u', O, hcc⟩, hx2⟩; (obtain ⟨k0, k1, kf, klt⟩ := colr_cells hcc); (have h2 := hx2.heap HB1.out)))
    have hxd := (Ext.refl w2).drew
    have h2d := hxd.heap h2
    have k1d := hxd.cell k1
    have hne : W1.heap.size ≠ w.heap.size := by have := HS1.out; omega
    have k1e := (World.cell?_of_block (a := ⟨W1.heap.size, 1, none⟩) (setRow_other w2.drew w.heap.size W1.heap.size #[.slice none 0 0] hne)).trans k1d
    refine wp_region_any (by kernel_rfl) ?_
    change wpAny _ _ _ _ _ _ _ (World.drew _)
    refine wpAny_takeL (i := 0) (v := .agg #[.slice none 0 0]) rfl (by kernel_rfl) (fun _ _ _ h => h) (Or.inl ⟨by rfl, fun w => by go_simp⟩) ?_
    refine wpAny_takeL (i := 1) (v := .pointer (some ⟨W1.heap.size, 0, none⟩)) rfl (by kernel_rfl) (fun _ _ _ h => h) (Or.inl ⟨by rfl, fun w => by go_simp⟩) ?_
    refine wpAny_takeL (i := 2) (v := .pointer (some ⟨W1.heap.size, 0, none⟩)) rfl (by kernel_rfl) (fun _ _ _ h => h) (Or.inl ⟨by rfl, fun w => by go_simp⟩) ?_
    refine wpAny_takeL (i := 3) (v := .pointer (some ⟨W1.heap.size, 1, none⟩)) rfl (by kernel_rfl) (fun _ _ _ h => h) (Or.inl ⟨by rfl, fun w => by go_simp⟩) ?_
    refine wpAny_load (i := 4) (v := .int .i64 22) (ErrIs W1.heap.size) 6 rfl (by kernel_rfl) (fun _ _ _ h => h) (Or.inl ⟨by rfl, fun w' hS => by have hq : w'.cell? ⟨W1.heap.size, 1, none⟩ = some (.int .i64 22) := hS; go_simp⟩) k1d ?_
    go_simp
    refine wpAnyT_seqF 6 [] (AtIx.cons rfl AtIx.nil) [5] (AtIx.cons rfl AtIx.nil) rfl (by kernel_rfl) ?_
    refine (wpListS_step ?_ : wpListS _ _ _ _ _ (_ :: _) _ _)
    intro K hK
    refine step_store_row rfl 46 (.tmp 2) (.tmp 16) rfl w.heap.size _ rfl rfl _ _ h2d size_arc rfl oneArc ?_
    refine hK _ _ k1e ?_
    clear hK K
    refine wpListS_nil ?_
    clear k0 k1 kf klt k1d k1e
    go_wp2
    ((try simp only [Exit.inBlock, Exit.then]); refine bodyPost_ret (results_cell_row2 rfl _ _ _ _ _ _ _ rfl (setRow_heap _ _ _ _ _ _ h2d) Tryz.underlying46 rfl size_arc) rfl ?_)
    exact ⟨.slice none 0 0, [], rfl, rfl, RSl.nil _ 6, by simp, ((HX1.out.trans hx2).trans hxd).setRow (Nat.le_refl _) _⟩
end Go.Proofs.YtgecijhgonfldaaGreatDoor
namespace Go.Proofs.YtgecijhgonfldaaGreatDoor
open Go Go.RowKit
set_option linter.unusedVariables false
def MrgPost (w : World) (V : List (List Fd)) (e : Ending) (w' : World) : Prop :=
  ∃ (A : Option Addr) (c : Nat) (l : List Fc), e = .returned (.tuple #[.agg #[.slice A l.length c], .int .i64 (mErrV V)]) ∧ l.map Fc.f = mValV V ∧ ArcV w' (.slice A l.length c, l) ∧ Ext w w'
theorem mrgPost_of {w w' : World} {L : List Arc} {e : Ending} {v' : Value} {lc : List Fc} (h1 : e = .returned (.tuple #[.agg #[v'], .int .i64 (mErr L)])) (h2 : lc.map Fc.f = mVal L) (h3 : RFcs w' v' lc) (h4 : ∀ y ∈ lc, RdC w' y) (h5 : Ext w w') :
    MrgPost w (L.map Arc.fs) e w' := by
  obtain ⟨A, c, rfl, -, -⟩ := h3.form
  exact ⟨A, c, lc, by rw [h1, mErr_V], h2.trans (mVal_V L), ⟨h3, h4⟩, h5⟩
theorem merge_arcs (L : List Arc) (u : Value) (w : World) (hE : Env w) (hu : RSl w 1 u L.length (L.map Prod.fst)) (hp : ∀ p ∈ L, ArcV w p) {n : Nat} (hs : SmL ((catP L).map Fc.f) n) (hn : n ≤ 1000000) (hL : L.length ≤ 1000) :
    Calls Tryz.prog 34 #[u] w (MrgPost w (L.map Arc.fs)) := by
  refine (merge_any u L w hE hu (fun p hq => ⟨(hp p hq).row, (hp p hq).rd⟩) (fun p hq x hx => (fokS_sm hs hn p hq x hx).1) hL (Nat.le_trans (lensP_sm hs) hn) (Nat.le_trans (allE_sm hs) hn)).mono ?_
  rintro e w' ⟨v', lc, h1, h2, h3, h4, h5⟩
  exact mrgPost_of h1 h2 h3 h4 h5
theorem refMerge_arcs (L : List Arc) (u : Value) (w : World) (hE : Env w) (hu : RSl w 1 u L.length (L.map Prod.fst)) (hp : ∀ p ∈ L, ArcV w p) {n : Nat} (hs : SmL ((catP L).map Fc.f) n) (hn : n ≤ 1000000) (hL : L.length ≤ 1000) :
    Calls Tryz.prog 35 #[u] w (MrgPost w (L.map Arc.fs)) := by
  refine (refMerge_any u L w hE hu (fun p hq => ⟨(hp p hq).row, (hp p hq).rd⟩) (fokS_sm hs hn) hL (Nat.le_trans (lensP_sm hs) hn) (Nat.le_trans (allE_sm hs) hn)).mono ?_
  rintro e w' ⟨v', lc, h1, h2, h3, h4, h5⟩
  exact mrgPost_of h1 h2 h3 h4 h5
theorem arcs_lit (L : List Arc) (w : World) (hL : L.length ≤ 1000) : RSl (w.alloc (.cells (L.map Prod.fst).toArray 46)) 1 (.slice (some ⟨w.heap.size, 0, none⟩) L.length L.length) L.length (L.map Prod.fst) := by
  have h := rsl_arcs (w := w) (us := L.map Prod.fst) (by rw [List.length_map]; unfold maxLen; omega)
  rw [List.length_map] at h
  exact h
theorem merge_lit (L : List Arc) (w : World) (hE : Env w) (hp : ∀ p ∈ L, ArcV w p) {n : Nat} (hs : ∀ p ∈ L, SmL p.fs n) (hn : n * L.length ≤ 1000000) (hL : L.length ≤ 1000) :
    Calls Tryz.prog 34 #[.slice (some ⟨w.heap.size, 0, none⟩) L.length L.length] (w.alloc (.cells (L.map Prod.fst).toArray 46)) (MrgPost (w.alloc (.cells (L.map Prod.fst).toArray 46)) (L.map Arc.fs)) :=
  merge_arcs L _ _ (hE.alloc _) (arcs_lit L w hL) (fun p hq => (hp p hq).ext ((Ext.refl _).alloc _)) (smL_cat L n hs) hn hL
theorem refMerge_lit (L : List Arc) (w : World) (hE : Env w) (hp : ∀ p ∈ L, ArcV w p) {n : Nat} (hs : ∀ p ∈ L, SmL p.fs n) (hn : n * L.length ≤ 1000000) (hL : L.length ≤ 1000) :
    Calls Tryz.prog 35 #[.slice (some ⟨w.heap.size, 0, none⟩) L.length L.length] (w.alloc (.cells (L.map Prod.fst).toArray 46)) (MrgPost (w.alloc (.cells (L.map Prod.fst).toArray 46)) (L.map Arc.fs)) :=
  refMerge_arcs L _ _ (hE.alloc _) (arcs_lit L w hL) (fun p hq => (hp p hq).ext ((Ext.refl _).alloc _)) (smL_cat L n hs) hn hL
def inclV (a b : List Fd) : Bool := okV [a, b] && decide (mValV [a, b] = a)
theorem inclV_ok {a b : List Fd} (ha : okA a = true) (hb : okA b = true) : inclV a b = decide (mrg a b = a) := by
  unfold inclV
  rw [(mV_two ha hb).2, show okV [a, b] = true by unfold okV; simp [ha, hb], Bool.true_and]
end Go.Proofs.YtgecijhgonfldaaGreatDoor
