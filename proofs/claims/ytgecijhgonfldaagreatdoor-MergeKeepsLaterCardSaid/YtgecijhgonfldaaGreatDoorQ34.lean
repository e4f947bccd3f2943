/- Parts of the proof: contracts and plain laws that the statement needs. -/
import Derived.Test.YtgecijhgonfldaaGreatDoorQ32
import Derived.Test.YtgecijhgonfldaaGreatDoorQ33
namespace Go.Proofs.YtgecijhgonfldaaGreatDoor
open Go Go.RowKit
section
variable {P : Program} {md : Region.Mode} {Q : Exit → Act → World → Prop} {S : World → Prop}
def wpAnyS (P : Program) (md : Region.Mode) (ops : Array Oper) (Q : Exit → Act → World → Prop) (S : World → Prop) : Nat → Array Bool → Act → World → Prop
  | 0, listed, a, w => Region.ready md ops listed = [] ∧ Q .normal a w
  | f + 1, listed, a, w => (Region.ready md ops listed = [] → Q .normal a w) ∧
    ∀ i ∈ Region.ready md ops listed, wpOp P ops Q i (fun a' w' => S w' ∧ wpAnyS P md ops Q S f (listed.setIfInBounds i true) a' w') a w
theorem wpAny_of_S {ops : Array Oper} (S : World → Prop) : ∀ {f : Nat} {listed : Array Bool} {a : Act} {w : World}, wpAnyS P md ops Q S f listed a w → wpAny P md ops Q f listed a w
  | 0, _, _, _, h => h
  | _ + 1, _, _, _, h => ⟨h.1, fun i hi => wpOp_mono (fun _ _ h' => wpAny_of_S S h'.2) (h.2 i hi)⟩
theorem wpAnyS_first {ops : Array Oper} {i : Nat} {oi : Oper} {v : Value} (hi : ops[i]? = some oi) (hsel : ∀ (j : Nat) (o : Oper) cs b, ops[j]? = some o → o.op ≠ .select cs b)
    (hQ : ∀ c a w, Q (.panic c) (a.put oi.dst v) w → Q (.panic c) a w) :
    ∀ (fuel : Nat) (listed : Array Bool) (a : Act) (w : World),
      (∀ j oj, ops[j]? = some oj → j ≠ i → listed.getD j true = false → (∀ e ∈ oj.after, Region.binds md e = true → e.on ≠ i) → oi.apart ops oj = true) →
      i ∈ Region.ready md ops listed → YieldsIf P ops S oi v a → S w →
      wpAnyS P md ops Q S fuel (listed.setIfInBounds i true) (a.put oi.dst v) w → wpAnyS P md ops Q S (fuel + 1) listed a w := by
  intro fuel
  induction fuel with
  | zero =>
    intro listed a w _ hr hy hS H
    refine ⟨fun h => (by rw [h] at hr; cases hr), fun j hj => ?_⟩
    by_cases hji : j = i
    · subst hji; exact hy.wpOp hi hS ⟨hS, H⟩
    · have := ready_mono hj hji
      rw [H.1] at this
      cases this
  | succ fuel ih =>
    intro listed a w hfree hr hy hS H
    refine ⟨fun h => (by rw [h] at hr; cases hr), fun j hj => ?_⟩
    by_cases hji : j = i
    · subst hji; exact hy.wpOp hi hS ⟨hS, H⟩
    · have h1 := H.2 j (ready_mono hj hji)
      obtain ⟨hjun, oj, hoj, hall⟩ := mem_ready.1 hj
      have hun := (mem_ready.1 hr).1
      have hnot : ∀ e ∈ oj.after, Region.binds md e = true → e.on ≠ i := fun e he hb heq => by
        have h1 := hall e he hb
        rw [heq, getD_both hun] at h1
        cases h1
      have h2 := wpOp_putIf hoj (hfree j oj hoj hji hjun hnot) (fun cs b => hsel i oi cs b hi) (fun cs b => hsel j oj cs b hoj) hQ hy h1
      have hfree' : ∀ k ok, ops[k]? = some ok → k ≠ i → (listed.setIfInBounds j true).getD k true = false →
          (∀ e ∈ ok.after, Region.binds md e = true → e.on ≠ i) → oi.apart ops ok = true := fun k ok hk hki hunk hno => by
        refine hfree k ok hk hki ?_ hno
        by_cases hjk : j = k
        · subst hjk; exact hjun
        · rw [getD_set_ne true hjk] at hunk; exact hunk
      refine wpOp_mono (fun a' w' h3 => ⟨h3.2.1, ih (listed.setIfInBounds j true) a' w' hfree' (ready_mono hr (Ne.symm hji)) h3.1 h3.2.1 ?_⟩) h2
      rw [Array.setIfInBounds_comm _ _ hji]
      exact h3.2.2
theorem wpAnyS_take {l : List Oper} {i : Nat} {oi : Oper} {v : Value} {fuel : Nat} {listed : Array Bool} {a : Act} {w : World} (hi' : l[i]? = some oi)
    (hB : (Region.noSelect l.toArray && Region.free md l.toArray listed i && (Region.ready md l.toArray listed).contains i) = true)
    (hQ : ∀ c a w, Q (.panic c) (a.put oi.dst v) w → Q (.panic c) a w) (hy : YieldsIf P l.toArray S oi v a) (hS : S w)
    (h : wpAnyS P md l.toArray Q S fuel (listed.setIfInBounds i true) (a.put oi.dst v) w) : wpAnyS P md l.toArray Q S (fuel + 1) listed a w := by
  have hi : l.toArray[i]? = some oi := by rw [List.getElem?_toArray]; exact hi'
  simp only [Bool.and_eq_true] at hB
  obtain ⟨⟨b1, b5⟩, b6⟩ := hB
  exact wpAnyS_first hi (Region.noSelect_spec b1) hQ fuel listed a w (Region.free_spec hi b5) (by simpa using b6) hy hS h
theorem wpAnyS_step {l : List Oper} {i fuel : Nat} {o : Oper} {listed : Array Bool} {a : Act} {w : World} (ho : l[i]? = some o) (hr : Region.ready md l.toArray listed = [i])
    (h : ∀ K : Act → World → Prop, (∀ a' w', S w' → wpAnyS P md l.toArray Q S fuel (listed.setIfInBounds i true) a' w' → K a' w') → if Region.wanted o (yielded l.toArray a.tmps) then Oper.wp P o a w K Q else K (a.put o.dst undef) w) : wpAnyS P md l.toArray Q S (fuel + 1) listed a w := by
  have ho' : l.toArray[i]? = some o := by rw [List.getElem?_toArray]; exact ho
  have h' := h (fun a' w' => S w' ∧ wpAnyS P md l.toArray Q S fuel (listed.setIfInBounds i true) a' w') fun _ _ h1 h2 => ⟨h1, h2⟩
  refine ⟨fun h => (by rw [hr] at h; cases h), fun k hk => ?_⟩
  rw [hr] at hk
  rw [List.mem_singleton.1 hk]
  unfold wpOp
  simp only [ho']
  split
  · rename_i hw; rw [if_pos hw] at h'; exact Or.inl h'
  · rename_i hw; rw [if_neg hw] at h'; exact h'
theorem wpAnyS_end {ops : Array Oper} {listed : Array Bool} {a : Act} {w : World} (hr : Region.ready md ops listed = []) (h : wpList P ops Q [] a w) : wpAnyS P md ops Q S 0 listed a w := ⟨hr, h⟩
end
end Go.Proofs.YtgecijhgonfldaaGreatDoor
namespace Go.Proofs.YtgecijhgonfldaaGreatDoor
open Go Go.RowKit
set_option linter.unusedVariables false
theorem entsOf_app (s : ByteArray) (a b : List Fd) : entsOf s (a ++ b) = entsOf s a ++ entsOf s b := by unfold entsOf; rw [List.filter_append, List.map_append, List.flatten_append]
theorem entsOf_hit {s : ByteArray} {f : Fd} (h : f.id = s) : entsOf s [f] = f.ents := by unfold entsOf; simp [h]
theorem entsOf_miss {s : ByteArray} {f : Fd} (h : f.id ≠ s) : entsOf s [f] = [] := by unfold entsOf; simp [h]
theorem entsOf_len (s : ByteArray) : ∀ l : List Fd, (entsOf s l).length ≤ sumE l
  | [] => Nat.zero_le _
  | f :: t => by
    have h := entsOf_len s t
    rw [show f :: t = [f] ++ t from rfl, entsOf_app, List.length_append, sumE_app]
    by_cases e : f.id = s
    · rw [entsOf_hit e]
      have : sumE [f] = f.ents.length := by unfold sumE; simp
      omega
    · rw [entsOf_miss e]
      simp only [List.length_nil]
      omega
theorem sumE_take (l : List Fd) (j : Nat) : sumE (l.take j) ≤ sumE l := by
  have h := sumE_app (l.take j) (l.drop j)
  rw [List.take_append_drop] at h
  omega
def fsTo (L : List Arc) (k : Nat) : List Fd := ((L.take k).map Arc.fs).flatten
theorem fsTo_succ {L : List Arc} {k : Nat} (hk : k < L.length) : fsTo L (k + 1) = fsTo L k ++ L[k].fs := by
  unfold fsTo
  rw [List.take_succ_eq_append_getElem hk, List.map_append, List.flatten_append, List.map_cons, List.map_nil, List.flatten_cons, List.flatten_nil, List.append_nil]
theorem fsTo_all (L : List Arc) : fsTo L L.length = (L.map Arc.fs).flatten := by unfold fsTo; rw [List.take_of_length_le (Nat.le_refl _)]
theorem fsTo_sum {L : List Arc} (hs : ∀ p ∈ L, SmL p.fs 5000) : ∀ k, k ≤ L.length → sumE (fsTo L k) ≤ 5000 * k
  | 0, _ => Nat.le_refl 0
  | k + 1, h => by
    have h1 := fsTo_sum hs k (by omega)
    rw [fsTo_succ h, sumE_app]
    have := (hs _ (List.getElem_mem h)).sum
    omega
set_option maxRecDepth 100000 in
set_option maxHeartbeats 8000000 in
theorem entries_any (s : ByteArray) (u : Value) (L : List Arc) (w : World) (hu : RSl w 1 u L.length (L.map Prod.fst)) (hp : ∀ p ∈ L, ArcV w p) (hL : L.length ≤ 10) (hs : ∀ p ∈ L, SmL p.fs 5000) :
    Calls Tryz.prog 38 #[.string s, u] w fun e w' => ∃ (A : Option Addr) (n c : Nat), e = .returned (.slice A n c) ∧ REnts w' (.slice A n c) (entsOf s (L.map Arc.fs).flatten) ∧ Ext w w' := by
  obtain ⟨i1, hj0, hy0, hy1, hy2⟩ := info_parts info_ent
  obtain ⟨A, c, rfl⟩ : ∃ A c, u = .slice A L.length c := by obtain ⟨_, A, c, e, _⟩ := hu; exact ⟨A, c, e⟩
  have HV := Lib.hid hu
  have HP : Hid (∀ (k : Nat) (hk : k < L.length), ArcV w L[k]) := Lib.hid fun k hk => hp _ (List.getElem_mem hk)
  have HS : Hid (∀ (k : Nat) (hk : k < L.length), SmL L[k].fs 5000) := Lib.hid fun k hk => hs _ (List.getElem_mem hk)
  have HSUM := Lib.hid (fsTo_sum hs)
  clear hu hp hs
  go_enter Tryz.func38, Tryz.ntmps38
  go_wp2
  go_loopw [5, 12] (fun o i wr => ∃ (k : Nat) (E : List Ent) (oA : Option Addr) (oc : Nat), o = .slice oA E.length oc ∧ k ≤ L.length ∧ i = .int .i64 k ∧ Hid (E = entsOf s (fsTo L k)) ∧ wr.ownsRow w.heap.size 23 5 (.slice oA E.length oc) E.length (flatE E) ∧ Ext w wr) (fun _ i _ => L.length - (intOf i).toNat)
  case atStart => exact ⟨0, [], none, 0, rfl, Nat.zero_le _, rfl, Lib.hid rfl, World.ownsRow_nil _ _ _ _, Ext.refl _⟩
  case round =>
    obtain ⟨k, E, oA, oc, rfl, hk, rfl, hEk, hown, hxr⟩ := hrel
    by_cases hlt : k < L.length
    · have hgk : (L.map Prod.fst)[k]? = some L[k].1 := by rw [List.getElem?_map, List.getElem?_eq_getElem hlt]; rfl
      obtain ⟨ad, e1, hc⟩ := RSl.at1 (HV.out.ext hxr) k _ hgk
      subst e1
      obtain ⟨pA, pc, hpf⟩ := (HP.out k hlt).form
      have hpk := HP.out k hlt
      have hsk := HS.out k hlt
      have hsum := HSUM.out k hk
      have hsc := fsTo_succ hlt
      obtain ⟨P, hP⟩ : ∃ P, L[k].2 = P := ⟨_, rfl⟩
      have hfs : L[k].fs = P.map Fc.f := by unfold Arc.fs; rw [hP]
      rw [hfs] at hsk hsc
      rw [hP] at hpf
      have hPr : RFcs w (.slice pA P.length pc) P := by rw [← hpf, ← hP]; exact hpk.row
      have hPd : ∀ x ∈ P, RdC w x := by rw [← hP]; exact hpk.rd
      rw [hpf] at hc
      have hpl : P.length ≤ 5000 := by have := hsk.len; rwa [List.length_map] at this
      have HPR := Lib.hid hPr
      have HPD := Lib.hid hPd
      have HSC := Lib.hid hsc
      have HSUMK : Hid (∀ j, sumE (fsTo L k ++ (P.map Fc.f).take j) ≤ 55000) := Lib.hid fun j => by
        rw [sumE_app]
        have h1 := sumE_take (P.map Fc.f) j
        have h2 := hsk.sum
        omega
      have hi0' : (0 : Int) ≤ (k : Int) := by omega
      have hi1 : (k : Int) < (L.length : Int) := by omega
      have HLT := Lib.hid hlt
      have HOWN0 := Lib.hid hown
      have HXR0 := Lib.hid hxr
      obtain ⟨wP, hwP⟩ : ∃ wP : World, wP = wr := ⟨_, rfl⟩
      subst hwP
      clear hgk hP hfs hpf hPr hPd hsk hsc hsum hpk hown hxr
      go_wp2
      go_loopw [5, 19] (fun o i wr => ∃ (j : Nat) (E : List Ent) (oA : Option Addr) (oc : Nat), o = .slice oA E.length oc ∧ j ≤ P.length ∧ i = .int .i64 j ∧ Hid (E = entsOf s (fsTo L k ++ (P.map Fc.f).take j)) ∧ wr.ownsRow w.heap.size 23 5 (.slice oA E.length oc) E.length (flatE E) ∧ Ext w wr) (fun _ i _ => P.length - (intOf i).toNat)
      case atStart => exact ⟨0, E, oA, oc, rfl, Nat.zero_le _, rfl, Lib.hid (by rw [List.take_zero, List.append_nil]; exact hEk.out), own_ext HOWN0.out ((Ext.refl _).alloc _), HXR0.out.alloc _⟩
      case round =>
        obtain ⟨j, E, oA, oc, rfl, hj, rfl, hEj, hown, hxr⟩ := hrel
        by_cases hlj : j < P.length
        · obtain ⟨ad, c1, e1, hax⟩ := (HPR.out.ext hxr).at hlj
          injection e1 with e1 e1' e1''
          subst e1
          clear e1' e1''
          have hx := HPD.out _ (List.getElem_mem hlj)
          have htk : (P.map Fc.f).take (j + 1) = (P.map Fc.f).take j ++ [P[j].f] := by
            rw [List.take_succ_eq_append_getElem (by rw [List.length_map]; exact hlj), List.getElem_map]
          have hlen := Nat.le_trans (entsOf_len s (fsTo L k ++ (P.map Fc.f).take (j + 1))) (HSUMK.out (j + 1))
          have hstep : entsOf s (fsTo L k ++ (P.map Fc.f).take (j + 1)) = E ++ entsOf s [P[j].f] := by rw [htk, ← List.append_assoc, entsOf_app, ← hEj.out]
          rw [hstep, List.length_append] at hlen
          obtain ⟨x, hxx⟩ : ∃ x, P[j] = x := ⟨_, rfl⟩
          rw [hxx] at hax hx hstep hlen
          have hsx := hx.sl
          have hi0' : (0 : Int) ≤ (j : Int) := by omega
          have hi1 : (j : Int) < (P.length : Int) := by omega
          have HLJ := Lib.hid hlj
          have HXR := Lib.hid hxr
          have HOWN := Lib.hid hown
          have HXD := Lib.hid hx
          have hes := hx.2.form
          clear hxx htk hx hxr hown
          obtain ⟨xp, xes, xf⟩ := x
          obtain ⟨⟨xA, xn, xc, hxp⟩, -⟩ := hsx
          obtain ⟨xB, xd, hxe, -, -⟩ := hes
          dsimp only at hxp hxe hstep hlen
          subst hxp hxe
          obtain ⟨p0, p1, p2, p3, p4, p5⟩ := hax
          dsimp only at p0 p1 p2 p3 p4 p5
          cases hS : (xf.id.toList == s.toList) with
          | true =>
            rw [entsOf_hit (str_eqb hS)] at hstep hlen
            have HST := Lib.hid hstep
            have HML : Hid (E.length + xf.ents.length ≤ maxLen) := Lib.hid (by unfold maxLen; omega)
            have HBY : Hid ((E.length + xf.ents.length) * 72 ≤ 140737488355328) := Lib.hid (by omega)
            have hws := HXR.out.size
            clear hstep hlen
            go_wp2_with (first
              | (at_builtin; refine wpList_append_rsl _ rfl (.tmp 27) (.tmp 29) _ rfl w.heap.size 23 i1 _ 5 72 Tryz.underlying33 hj0 hy0 hy1 hy2 rfl (by decide) _ E.length (flatE E) rfl (own_ext HOWN.out ((Ext.refl _).alloc _)) _ xf.ents.length (flatE xf.ents) rfl (HXD.out.2.ext (HXR.out.alloc _)) (flatE_ones _) HML.out HBY.out (by rw [size_alloc]; omega) ?_; intro v3 w3 hown3 hg3 hat3; (have hx3 : Ext w w3 := Ext.app (HXR.out.alloc _) hg3 (own_ext HOWN.out ((Ext.refl _).alloc _)) (Nat.le_refl _)); (obtain ⟨o3A, o3c, ho3, -, -⟩ := (RSl.of_own hown3).2); subst ho3))
            go_roundw
            case rel =>
              have hl : (E ++ xf.ents).length = E.length + xf.ents.length := List.length_append
              refine ⟨j + 1, E ++ xf.ents, o3A, o3c, by rw [hl], HLJ.out, by go_num, Lib.hid HST.out.symm, ?_, hx3⟩
              rw [hl, flatE_app]
              exact hown3
            case measure => simp [intOf]; omega
          | false =>
            rw [entsOf_miss (str_neb hS), List.append_nil] at hstep
            have HST := Lib.hid hstep
            clear hstep hlen
            go_wp2
            go_roundw
            case rel => exact ⟨j + 1, E, oA, oc, rfl, HLJ.out, by go_num, Lib.hid HST.out.symm, own_ext HOWN.out ((Ext.refl _).alloc _), HXR.out.alloc _⟩
            case measure => simp [intOf]; omega
        · have hje : j = P.length := by omega
          subst hje
          have hEE := hEj.out
          rw [List.take_of_length_le (by rw [List.length_map]; exact Nat.le_refl _), ← HSC.out] at hEE
          have HE2 := Lib.hid hEE
          clear hEE
          go_wp2
          go_roundw
          case rel => exact ⟨k + 1, E, oA, oc, rfl, HLT.out, by go_num, HE2, hown, hxr⟩
          case measure => simp [intOf]; omega
    · have hke : k = L.length := by omega
      subst hke
      go_wp2
      go_ret
      refine ⟨oA, E.length, oc, rfl, ?_, hxr⟩
      have := RSl.of_own hown
      rw [← fsTo_all, ← hEk.out]
      exact this
end Go.Proofs.YtgecijhgonfldaaGreatDoor
