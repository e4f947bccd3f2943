/- Parts of the proof: contracts and plain laws that the statement needs. -/
import Derived.Test.YtgecijhgonfldaaGreatDoorQ01
import Derived.Test.YtgecijhgonfldaaGreatDoorQ03
import Derived.Test.YtgecijhgonfldaaGreatDoorQ06
import Derived.Deep.RegionHeld3
import Derived.Deep.DrawnRows
import Derived.Lib.ItoaLen
import Derived.Test.YtgecijhgonfldaaGreatDoorQ05
namespace Go.Proofs.YtgecijhgonfldaaGreatDoor
open Go
set_option linter.unusedVariables false
def noS : ByteArray := ⟨#[]⟩
def zeroE : Ent := ⟨noS, noS, noS, noS, 0⟩
def zeroF : Fd := ⟨[], noS, noS, noS, 0, []⟩
def inT (t : Int) : Bool := decide (-62135596800 ≤ t) && decide (t ≤ 253402300799)
def firstErr : List ByteArray → Nat
  | [] => 0
  | s :: t => if (checkS s).2 = 0 then firstErr t else (checkS s).2
def strsE (e : Ent) : List ByteArray := [e.id, e.title, e.link, e.content]
def strsF (f : Fd) : List ByteArray := f.path ++ [f.id, f.title, f.link]
def collE (e : Ent) : Ent := ⟨collapse e.id, collapse e.title, collapse e.link, collapse e.content, e.upd⟩
def collF (f : Fd) : Fd := ⟨f.path.map collapse, collapse f.id, collapse f.title, collapse f.link, f.upd, ordE.canon (f.ents.map collE)⟩
def errE (e : Ent) : Nat := if firstErr (strsE e) ≠ 0 then firstErr (strsE e) else if collapse e.id = noS then 19 else if inT e.upd then 0 else 3
def errEs : List Ent → Nat
  | [] => 0
  | e :: t => if errE e = 0 then errEs t else errE e
def headF (f : Fd) : Nat := if firstErr (strsF f) ≠ 0 then firstErr (strsF f) else if collapse f.id = noS ∨ (f.path.any fun p => decide (collapse p = noS)) = true then 19 else if 64 < f.path.length then 9 else if inT f.upd then 0 else 3
def errF (f : Fd) : Nat := if headF f = 0 then errEs f.ents else headF f
def errFs : List Fd → Nat
  | [] => 0
  | f :: t => if errF f = 0 then errFs t else errF f
def normE (e : Ent) : Ent := if errE e = 0 then collE e else zeroE
def normF (f : Fd) : Fd := if errF f = 0 then collF f else zeroF
def normA (l : List Fd) : List Fd := if errFs l = 0 then ordF.canon (l.map collF) else []
def okAt {α κ : Type} [DecidableEq κ] (ok : α → Bool) (O : Ord α κ) (l : List α) (i : Nat) : Bool :=
  match l[i]? with
  | none => true
  | some x => ok x && (decide (i = 0) || (match l[i - 1]? with | none => true | some y => O.lt y x)) && (l.take i).all fun y => decide (O.id y ≠ O.id x)
def okL {α κ : Type} [DecidableEq κ] (ok : α → Bool) (O : Ord α κ) (l : List α) : Bool := (List.range l.length).all (okAt ok O l)
def okE (e : Ent) : Bool := (strsE e).all validS && !decide (e.id = noS) && inT e.upd
def okH (f : Fd) : Bool := decide (f.path.length ≤ 64) && (strsF f).all validS && !decide (f.id = noS) && inT f.upd && f.path.all fun p => !decide (p = noS)
def okF (f : Fd) : Bool := okH f && okL okE ordE f.ents
def okA (l : List Fd) : Bool := okL okF ordF l
section
variable {α κ : Type} [DecidableEq κ] {ok : α → Bool} {O : Ord α κ}
theorem okAt_iff {l : List α} {i : Nat} (hi : i < l.length) : okAt ok O l i = true ↔ ok l[i] = true ∧ (∀ h : 0 < i, O.lt l[i - 1] l[i] = true) ∧ ∀ j (hj : j < i), O.id l[j] ≠ O.id l[i] := by
  unfold okAt
  rw [List.getElem?_eq_getElem hi]
  simp only [Bool.and_eq_true, Bool.or_eq_true, decide_eq_true_eq, List.all_eq_true, and_assoc]
  refine and_congr Iff.rfl (and_congr ?_ ?_)
  · rw [List.getElem?_eq_getElem (show i - 1 < l.length by omega)]
    constructor
    · rintro (h | h) h0
      · omega
      · exact h
    · intro h
      rcases Nat.eq_zero_or_pos i with h0 | h0
      · exact Or.inl h0
      · exact Or.inr (h h0)
  · constructor
    · intro h j hj
      refine h _ ?_
      exact List.mem_take_iff_getElem.2 ⟨j, by omega, rfl⟩
    · intro h x hx
      obtain ⟨j, hj, rfl⟩ := List.mem_take_iff_getElem.1 hx
      exact h j (by omega)
theorem okL_iff {l : List α} : okL ok O l = true ↔ (∀ x ∈ l, ok x = true) ∧ O.sorted l ∧ l.Pairwise fun a b => O.id a ≠ O.id b := by
  unfold okL
  simp only [List.all_eq_true, List.mem_range]
  constructor
  · intro h
    refine ⟨fun x hx => ?_, ?_, ?_⟩
    · obtain ⟨i, hi, rfl⟩ := List.mem_iff_getElem.1 hx
      exact ((okAt_iff hi).1 (h i hi)).1
    · refine List.pairwise_iff_getElem.2 fun i j hi hj hij => ?_
      have step : ∀ d i (hd : i + d + 1 < l.length), O.lt l[i] l[i + d + 1] = true := by
        intro d
        induction d with
        | zero => intro i hd; exact ((okAt_iff hd).1 (h (i + 1) hd)).2.1 (by omega)
        | succ d ih =>
          intro i hd
          have h1 := ih i (by omega)
          have h2 := ((okAt_iff hd).1 (h _ hd)).2.1 (by omega)
          exact O.trans _ _ _ h1 h2
      have := step (j - i - 1) i (by omega)
      simpa [show i + (j - i - 1) + 1 = j by omega] using this
    · exact List.pairwise_iff_getElem.2 fun i j hi hj hij => ((okAt_iff hj).1 (h j hj)).2.2 i hij
  · rintro ⟨h1, h2, h3⟩ i hi
    rw [okAt_iff hi]
    exact ⟨h1 _ (List.getElem_mem hi), fun h0 => List.pairwise_iff_getElem.1 h2 (i - 1) i (by omega) hi (by omega), fun j hj => List.pairwise_iff_getElem.1 h3 j i (by omega) hi hj⟩
end
theorem okE_iff {e : Ent} : okE e = true ↔ (∀ s ∈ strsE e, validS s = true) ∧ e.id ≠ noS ∧ inT e.upd = true := by
  unfold okE; simp only [Bool.and_eq_true, List.all_eq_true, Bool.not_eq_true', decide_eq_false_iff_not, and_assoc, ne_eq]
theorem okH_iff {f : Fd} : okH f = true ↔ f.path.length ≤ 64 ∧ (∀ s ∈ strsF f, validS s = true) ∧ f.id ≠ noS ∧ inT f.upd = true ∧ ∀ p ∈ f.path, p ≠ noS := by
  unfold okH; simp only [Bool.and_eq_true, List.all_eq_true, Bool.not_eq_true', decide_eq_false_iff_not, decide_eq_true_eq, and_assoc, ne_eq]
theorem okF_iff {f : Fd} : okF f = true ↔ okH f = true ∧ okL okE ordE f.ents = true := by unfold okF; rw [Bool.and_eq_true]
theorem vld_of {s : ByteArray} (h : validS s = true) : vld s = true := utf8_of_check (check_valid h)
theorem okE_good {e : Ent} (h : okE e = true) : goodE e := by
  have h := (okE_iff.1 h).1
  exact ⟨vld_of (h _ (by simp [strsE])), vld_of (h _ (by simp [strsE])), vld_of (h _ (by simp [strsE])), vld_of (h _ (by simp [strsE]))⟩
theorem okH_good {f : Fd} (h : okH f = true) : goodH f := by
  have h := (okH_iff.1 h).2.1
  exact ⟨fun p hp => vld_of (h p (by simp [strsF, hp])), vld_of (h _ (by simp [strsF])), vld_of (h _ (by simp [strsF])), vld_of (h _ (by simp [strsF]))⟩
theorem okL_canon {α κ : Type} [DecidableEq κ] {ok : α → Bool} {O : Ord α κ} {l : List α} (h : okL ok O l = true) : O.canon l = l := by
  have h := okL_iff.1 h
  exact O.canon_self h.2.1 h.2.2
theorem canon_okL {α κ : Type} [DecidableEq κ] {ok : α → Bool} {O : Ord α κ} {l : List α} (h : ∀ x ∈ O.canon l, ok x = true) : okL ok O (O.canon l) = true :=
  okL_iff.2 ⟨h, (O.canon_is l).1, (O.canon_is l).ids⟩
theorem okF_good {f : Fd} (h : okF f = true) : goodF f := by
  have h := okF_iff.1 h
  exact ⟨okH_good h.1, fun e he => okE_good ((okL_iff.1 h.2).1 e he), okL_canon h.2⟩
theorem semiE' : ordE.Semi (fun e => okE e = true) where
  good a b _ ha hb := by show okE (laterE a b) = true; rw [laterE_pk]; rcases pk_either keyCmpE a b with h | h <;> rw [h] <;> assumption
  comm a b h ha hb := semiE.comm a b h (okE_good ha) (okE_good hb)
  assoc a b c h k ha hb hc := semiE.assoc a b c h k (okE_good ha) (okE_good hb) (okE_good hc)
  idem a ha := semiE.idem a (okE_good ha)
theorem okH_hdr (f : Fd) : okH (hdr f) = okH f := rfl
theorem okH_of_hdr {a b : Fd} (h : hdr a = hdr b) (k : okH b = true) : okH a = true := by rw [← okH_hdr, h, okH_hdr]; exact k
theorem okF_join {a b : Fd} (ha : okF a = true) (hb : okF b = true) : okF (joinF a b) = true := by
  have ha' := okF_iff.1 ha
  have hb' := okF_iff.1 hb
  refine okF_iff.2 ⟨okH_of_hdr (joinF_hdr a b) ?_, ?_⟩
  · rcases pk_either keyCmpF a b with h | h <;> rw [h]
    · exact ha'.1
    · exact hb'.1
  · rw [joinF_ents (okL_canon ha'.2)]
    refine canon_okL (semiE'.canon_good fun x hx => ?_)
    rcases List.mem_append.1 hx with h | h
    · exact (okL_iff.1 ha'.2).1 x h
    · exact (okL_iff.1 hb'.2).1 x h
theorem semiF' : ordF.Semi (fun f => okF f = true) where
  good a b _ ha hb := okF_join ha hb
  comm a b h ha hb := semiF.comm a b h (okF_good ha) (okF_good hb)
  assoc a b c h k ha hb hc := semiF.assoc a b c h k (okF_good ha) (okF_good hb) (okF_good hc)
  idem a ha := semiF.idem a (okF_good ha)
theorem firstErr_zero {l : List ByteArray} : firstErr l = 0 ↔ ∀ s ∈ l, (checkS s).2 = 0 := by
  induction l with
  | nil => simp [firstErr]
  | cons s t ih =>
    unfold firstErr
    by_cases h : (checkS s).2 = 0
    · rw [if_pos h, ih]; simp [h]
    · rw [if_neg h]; simp [h]
theorem firstErr_drop {l : List ByteArray} {k : Nat} (hk : k < l.length) : firstErr (l.drop k) = if (checkS l[k]).2 = 0 then firstErr (l.drop (k + 1)) else (checkS l[k]).2 := by
  rw [List.drop_eq_getElem_cons hk]; rfl
theorem errE_zero {e : Ent} : errE e = 0 ↔ firstErr (strsE e) = 0 ∧ collapse e.id ≠ noS ∧ inT e.upd = true := by
  unfold errE
  by_cases h : firstErr (strsE e) = 0
  · rw [if_neg (by simpa using h)]
    by_cases k : collapse e.id = noS
    · rw [if_pos k]; simp [k]
    · rw [if_neg k]; simp [h, k]
  · rw [if_pos h]; simp [h]
theorem headF_zero {f : Fd} : headF f = 0 ↔ firstErr (strsF f) = 0 ∧ collapse f.id ≠ noS ∧ (∀ p ∈ f.path, collapse p ≠ noS) ∧ f.path.length ≤ 64 ∧ inT f.upd = true := by
  unfold headF
  by_cases h : firstErr (strsF f) = 0
  · rw [if_neg (by simpa using h)]
    by_cases k : collapse f.id = noS ∨ (f.path.any fun p => decide (collapse p = noS)) = true
    · rw [if_pos k]
      constructor
      · intro h'; omega
      · rintro ⟨_, h1, h2, _⟩
        rcases k with k | k
        · exact absurd k h1
        · obtain ⟨p, hp, e⟩ := List.any_eq_true.1 k; exact absurd (of_decide_eq_true e) (h2 p hp)
    · rw [if_neg k]
      have k1 : collapse f.id ≠ noS := fun e => k (Or.inl e)
      have k2 : ∀ p ∈ f.path, collapse p ≠ noS := fun p hp e => k (Or.inr (List.any_eq_true.2 ⟨p, hp, decide_eq_true e⟩))
      by_cases g : 64 < f.path.length
      · rw [if_pos g]; constructor
        · intro h'; omega
        · rintro ⟨_, _, _, h', _⟩; omega
      · rw [if_neg g]
        have g' : f.path.length ≤ 64 := by omega
        by_cases hi : inT f.upd = true
        · rw [if_pos hi]; exact ⟨fun _ => ⟨h, k1, k2, g', hi⟩, fun _ => rfl⟩
        · rw [if_neg hi]; exact ⟨fun h' => by omega, fun h' => absurd h'.2.2.2.2 hi⟩
  · rw [if_pos h]; exact ⟨fun h' => absurd h' h, fun h' => absurd h'.1 h⟩
theorem errEs_zero {l : List Ent} : errEs l = 0 ↔ ∀ e ∈ l, errE e = 0 := by
  induction l with
  | nil => simp [errEs]
  | cons s t ih =>
    unfold errEs
    by_cases h : errE s = 0
    · rw [if_pos h, ih]; simp [h]
    · rw [if_neg h]; simp [h]
theorem errF_zero {f : Fd} : errF f = 0 ↔ headF f = 0 ∧ errEs f.ents = 0 := by
  unfold errF
  by_cases h : headF f = 0
  · rw [if_pos h]; simp [h]
  · rw [if_neg h]; simp [h]
theorem errFs_zero {l : List Fd} : errFs l = 0 ↔ ∀ e ∈ l, errF e = 0 := by
  induction l with
  | nil => simp [errFs]
  | cons s t ih =>
    unfold errFs
    by_cases h : errF s = 0
    · rw [if_pos h, ih]; simp [h]
    · rw [if_neg h]; simp [h]
theorem coll_okE {e : Ent} (h : okE e = true) : errE e = 0 ∧ collE e = e := by
  obtain ⟨h1, h2, h3⟩ := okE_iff.1 h
  have c1 := collapse_valid (h1 e.id (by simp [strsE]))
  have c2 := collapse_valid (h1 e.title (by simp [strsE]))
  have c3 := collapse_valid (h1 e.link (by simp [strsE]))
  have c4 := collapse_valid (h1 e.content (by simp [strsE]))
  refine ⟨errE_zero.2 ⟨firstErr_zero.2 fun s hs => check_valid (h1 s hs), by rw [c1]; exact h2, h3⟩, ?_⟩
  unfold collE
  rw [c1, c2, c3, c4]
theorem map_self {α : Type} {g : α → α} : ∀ {l : List α}, (∀ x ∈ l, g x = x) → l.map g = l
  | [], _ => rfl
  | x :: t, h => by rw [List.map_cons, h x (by simp), map_self fun y hy => h y (by simp [hy])]
theorem coll_okF {f : Fd} (h : okF f = true) : errF f = 0 ∧ collF f = f := by
  obtain ⟨h1, h2⟩ := okF_iff.1 h
  obtain ⟨g1, g2, g3, g4, g5⟩ := okH_iff.1 h1
  have c1 := collapse_valid (g2 f.id (by simp [strsF]))
  have c2 := collapse_valid (g2 f.title (by simp [strsF]))
  have c3 := collapse_valid (g2 f.link (by simp [strsF]))
  have c4 : ∀ p ∈ f.path, collapse p = p := fun p hp => collapse_valid (g2 p (by simp [strsF, hp]))
  have h3 := (okL_iff.1 h2).1
  refine ⟨errF_zero.2 ⟨headF_zero.2 ⟨firstErr_zero.2 fun s hs => check_valid (g2 s hs), by rw [c1]; exact g3, fun p hp => by rw [c4 p hp]; exact g5 p hp, g1, g4⟩, errEs_zero.2 fun e he => (coll_okE (h3 e he)).1⟩, ?_⟩
  unfold collF
  rw [c1, c2, c3, map_self c4, map_self fun e he => (coll_okE (h3 e he)).2, okL_canon h2]
end Go.Proofs.YtgecijhgonfldaaGreatDoor
namespace Go.Proofs.YtgecijhgonfldaaGreatDoor
open Go Go.RowKit
set_option linter.unusedVariables false
theorem Ext.setBoth {B : Nat} {a b : World} (h : Below B a b) (p : Addr) (v : Value) : Below B (a.setCell p v) (b.setCell p v) := by
  refine ⟨h.os, h.tape, h.output, ?_, fun k hk => ?_⟩
  · simpa [World.setCell] using h.size
  · simp only [World.setCell, Array.getElem?_modify, h.block k hk]
def setS (w : World) : List (Addr × ByteArray) → World
  | [] => w
  | p :: t => setS (w.setCell p.1 (.string p.2)) t
theorem setS_snoc : ∀ (l : List (Addr × ByteArray)) (w : World) (p : Addr × ByteArray), setS w (l ++ [p]) = (setS w l).setCell p.1 (.string p.2)
  | [], _, _ => rfl
  | q :: t, w, p => setS_snoc t (w.setCell q.1 (.string q.2)) p
theorem setS_size : ∀ (l : List (Addr × ByteArray)) (w : World), (setS w l).heap.size = w.heap.size
  | [], _ => rfl
  | p :: t, w => by rw [setS, setS_size t]; simp [World.setCell]
theorem setS_frozen : ∀ (l : List (Addr × ByteArray)) (w : World) (a : Addr), (setS w l).frozen? a = w.frozen? a
  | [], _, _ => rfl
  | p :: t, w, a => by rw [setS, setS_frozen t, World.frozen?_setCell]
theorem setS_other : ∀ (l : List (Addr × ByteArray)) (w : World) (a : Addr), (∀ p ∈ l, p.1 ≠ a) → (setS w l).cell? a = w.cell? a
  | [], _, _, _ => rfl
  | p :: t, w, a, h => by rw [setS, setS_other t _ a (fun q hq => h q (by simp [hq])), World.cell?_setCell_other w p.1 a _ (h p (by simp))]
structure Ptrs (w : World) (v : Value) (ps : List (Addr × ByteArray)) : Prop where
  row : RSl w 1 v ps.length (ps.map fun p => Value.pointer (some p.1))
  cells : ∀ p ∈ ps, w.cell? p.1 = some (.string p.2) ∧ w.frozen? p.1 = false
  size : ∀ p ∈ ps, p.2.size ≤ 16777216
  apart : ps.Pairwise fun p q => p.1 ≠ q.1
theorem below_cell {w : World} {B : Nat} {a : Addr} {v : Value} {w' : World} (h : Below B w w') (hB : w.heap.size ≤ B) (hc : w.cell? a = some v) : w'.cell? a = some v :=
  (Below.cell h (Nat.lt_of_lt_of_le (World.block_lt_of_cell? w a hc) hB)).trans hc
set_option maxRecDepth 100000 in
set_option maxHeartbeats 1000000 in
theorem collapseAll_any (v : Value) (ps : List (Addr × ByteArray)) (w : World) (hE : Env w) (h : Ptrs w v ps) :
    Calls Tryz.prog 43 #[v] w fun e w' => e = .returned (.int .i64 (firstErr (ps.map (·.2)) : Nat)) ∧
      ((firstErr (ps.map (·.2)) = 0 ∧ Below w.heap.size (setS w (ps.map fun p => (p.1, collapse p.2))) w') ∨ (firstErr (ps.map (·.2)) ≠ 0 ∧ Ext w w')) := by
  obtain ⟨hrow, hcells, hsz, hap⟩ := h
  obtain ⟨_, A, c, rfl, hmc, hcm, _, _⟩ := id hrow
  have hnm : ps.length ≤ 9223372036854775807 := Nat.le_trans hmc hcm
  clear hmc hcm
  obtain ⟨E, hEr⟩ : ∃ E, firstErr (ps.map (·.2)) = E := ⟨_, rfl⟩
  rw [hEr]
  go_enter Tryz.func43, Tryz.ntmps43
  go_wp2
  go_loopw [11] (fun i wr => ∃ k : Nat, k ≤ ps.length ∧ i = .int .i64 k ∧ Hid (E = firstErr ((ps.map (·.2)).drop k)) ∧ Ext w wr) (fun i _ => ps.length - (intOf i).toNat)
  case atStart => exact ⟨0, Nat.zero_le _, rfl, hEr.symm, Ext.refl _⟩
  case round =>
    obtain ⟨k, hk, rfl, hf, hx⟩ := hrel
    by_cases hlt : k < ps.length
    · obtain ⟨ad, rfl, hcell⟩ := (hrow.ext hx).at1 k (.pointer (some ps[k].1)) (by rw [List.getElem?_map, List.getElem?_eq_getElem hlt]; rfl)
      have hst := hx.cell (hcells ps[k] (List.getElem_mem hlt)).1
      have hfd := firstErr_drop (l := ps.map (·.2)) (k := k) (by rw [List.length_map]; exact hlt)
      rw [List.getElem_map] at hfd
      have HC := Lib.hid (textCheck_any ps[k].2 wr (hE.ext hx) (by have := hsz ps[k] (List.getElem_mem hlt); unfold maxLen; omega))
      obtain ⟨O, hO⟩ : ∃ O, (checkS ps[k].2).1 = O := ⟨_, rfl⟩
      obtain ⟨K, hK⟩ : ∃ K, (checkS ps[k].2).2 = K := ⟨_, rfl⟩
      obtain ⟨S, hS⟩ : ∃ S, ps[k].2 = S := ⟨_, rfl⟩
      obtain ⟨a, ha⟩ : ∃ a, ps[k].1 = a := ⟨_, rfl⟩
      rw [hK] at hfd
      rw [hO, hK, hS] at HC
      rw [hS, ha] at hst
      rw [ha] at hcell
      have hff := hf.out.trans hfd
      clear hfd hf hO hK hS ha hEr
      by_cases h0 : K = 0
      · subst h0
        rw [if_pos rfl] at hff
        have HF := Lib.hid hff
        clear hff
        go_wp2_with (first | (go_at_call 73; refine (HC.out).mono ?_; rintro e w' ⟨rfl, hx'⟩))
        go_roundw
        case rel => exact ⟨k + 1, hlt, by go_num, HF.out, hx.trans hx'⟩
        case measure => simp [intOf]; omega
      · have hb : ((K : Int) != 0) = true := by simp; omega
        rw [if_neg h0] at hff
        subst hff
        have hfin : (E = 0 ∧ Below w.heap.size (setS w (ps.map fun p => (p.1, collapse p.2))) w) ∨ E ≠ 0 := Or.inr h0
        clear hfin
        have H0 := Lib.hid h0
        clear h0
        go_wp2_with (first | (go_at_call 73; refine (HC.out).mono ?_; rintro e w' ⟨rfl, hx'⟩))
        go_ret
        exact ⟨rfl, Or.inr ⟨H0.out, hx.trans hx'⟩⟩
    · have hke : k = ps.length := by omega
      have hff := hf.out
      rw [List.drop_of_length_le (by rw [List.length_map]; omega)] at hff
      have hff' : E = 0 := hff
      subst hff'
      subst hke
      clear hff hlt hf hEr hk
      obtain ⟨wo, rfl⟩ : ∃ wo : World, wo = wr := ⟨_, rfl⟩
      go_wp2
      go_loopw [28] (fun i w2 => ∃ k : Nat, k ≤ ps.length ∧ i = .int .i64 k ∧ Below w.heap.size (setS w ((ps.take k).map fun p => (p.1, collapse p.2))) w2 ∧ w.heap.size ≤ w2.heap.size) (fun i _ => ps.length - (intOf i).toNat)
      case atStart => exact ⟨0, Nat.zero_le _, rfl, hx, hx.size⟩
      case round =>
        obtain ⟨k, hk, rfl, hb, hz⟩ := hrel
        by_cases hlt : k < ps.length
        · obtain ⟨wk, hwk⟩ : ∃ wk, setS w ((ps.take k).map fun p => (p.1, collapse p.2)) = wk := ⟨_, rfl⟩
          have hzk : wk.heap.size = w.heap.size := by rw [← hwk, setS_size]
          obtain ⟨ad, rfl, hc0⟩ := hrow.at1 k (.pointer (some ps[k].1)) (by rw [List.getElem?_map, List.getElem?_eq_getElem hlt]; rfl)
          have hs0 := hcells ps[k] (List.getElem_mem hlt)
          have hs1 : wk.cell? ps[k].1 = some (.string ps[k].2) := by
            rw [← hwk, setS_other, hs0.1]
            intro p hp
            obtain ⟨q, hq, rfl⟩ := List.mem_map.1 hp
            obtain ⟨j, hj, rfl⟩ := List.mem_take_iff_getElem.1 hq
            exact List.pairwise_iff_getElem.1 hap j k (by omega) hlt (by omega)
          have hf1 : wk.frozen? ps[k].1 = false := by rw [← hwk, setS_frozen]; exact hs0.2
          have hc1 : wk.cell? (ad.add k) = some (.pointer (some ps[k].1)) := by
            rw [← hwk, setS_other, hc0]
            intro p hp e
            obtain ⟨q, hq, rfl⟩ := List.mem_map.1 hp
            have := (hcells q (List.mem_of_mem_take hq)).1
            simp only at e
            rw [e, hc0] at this
            cases this
          have hB : ps[k].1.block < w.heap.size := by have := World.block_lt_of_cell? wk _ hs1; omega
          rw [hwk] at hb
          have hcell := below_cell hb (Nat.le_of_eq hzk) hc1
          have hst := below_cell hb (Nat.le_of_eq hzk) hs1
          have hfz : wr.frozen? ps[k].1 = false := (Below.frozen hb hB).trans hf1
          have HT : Hid (setS w ((ps.take (k + 1)).map fun p => (p.1, collapse p.2)) = wk.setCell ps[k].1 (.string (collapse ps[k].2))) := by
            show _ = _
            rw [List.take_succ_eq_append_getElem hlt, List.map_append, List.map_cons, List.map_nil, setS_snoc, hwk]
          have HC := Lib.hid (collapse_any ps[k].2 wr (by have := hsz ps[k] (List.getElem_mem hlt); omega))
          have HZ := Lib.hid hz
          have HZK := Lib.hid hzk
          clear hz hzk hs0 hs1 hf1 hc1 hc0 hwk
          obtain ⟨a, ha⟩ : ∃ a, ps[k].1 = a := ⟨_, rfl⟩
          obtain ⟨S, hS⟩ : ∃ S, ps[k].2 = S := ⟨_, rfl⟩
          rw [ha] at hcell hst hfz HT hB
          rw [hS] at hst HT HC
          clear ha hS
          go_wp2_with (first | (go_at_call 74; refine (HC.out).mono ?_; rintro e w3 ⟨rfl, hx3⟩; (have hst3 := hx3.cell hst); (have hfz3 := (Below.frozen hx3 (Nat.lt_of_lt_of_le hB HZ.out)).trans hfz)))
          go_roundw
          case rel => exact ⟨k + 1, hlt, by go_num, by rw [HT.out]; exact Ext.setBoth (hb.trans (Below.mono hx3 HZ.out)) _ _, by have := hx3.size; have := HZ.out; simp [World.setCell]; omega⟩
          case measure => simp [intOf]; omega
        · have hke : k = ps.length := by omega
          subst hke
          rw [List.take_of_length_le (Nat.le_refl _)] at hb
          clear hlt hk
          go_wp2
          go_ret
          exact ⟨rfl, hb⟩
end Go.Proofs.YtgecijhgonfldaaGreatDoor
namespace Go.Proofs.YtgecijhgonfldaaGreatDoor
open Go Go.RowKit
set_option linter.unusedVariables false
def eok (e : Ent) : Prop := i64ok e.upd ∧ e.id.size + e.title.size + e.link.size + e.content.size ≤ 16777216
theorem entJ_ok (e : Ent) (h : eok e) : jok (entJ e) := by
  obtain ⟨h1, h2⟩ := h
  unfold entJ
  rw [jok_arr]
  intro j hj
  simp only [List.mem_cons, List.mem_nil_iff, or_false] at hj
  rcases hj with rfl | rfl | rfl | rfl | rfl <;> simp only [jok]
  · omega
  · omega
  · omega
  · omega
  · exact h1
theorem entJ_len (e : Ent) (h : eok e) : (jtext (entJ e)).length ≤ 140737488355328 := by
  obtain ⟨h1, h2⟩ := h
  unfold entJ
  rw [jtext_arr]
  have a := quoteL_len e.id.data.toList
  have b := quoteL_len e.title.data.toList
  have c := quoteL_len e.link.data.toList
  have d := quoteL_len e.content.data.toList
  have f := Lib.itoa_length_le e.upd h1.1 h1.2
  rw [data_len] at a b c d
  simp only [List.map_cons, List.map_nil, jtext_str, jtext_int, commas, List.length_cons, List.length_append, List.length_nil]
  omega
attribute [local go_sem ↓] Go.wp_at_zero Go.wp_at_succ
set_option maxRecDepth 100000 in
set_option maxHeartbeats 1000000 in
theorem entryKey_any (e : Ent) (w : World) (hE : Env w) (hok : eok e) :
    Calls Tryz.prog 107 #[.agg (eCells e).toArray] w fun x w' => x = .returned (.string (entryKey e)) ∧ Ext w w' := by
  obtain ⟨id, title, link, content, upd⟩ := e
  obtain ⟨i0, hi0, hz0, hz1, hz2⟩ := info_parts_val
  have hsz : (w.alloc (.cells (eCells ⟨id, title, link, content, upd⟩).toArray 23)).heap.size = w.heap.size + 1 := by show (w.heap.push _).size = _; simp
  have hR : RSl (((w.alloc (.cells (eCells ⟨id, title, link, content, upd⟩).toArray 23)).alloc (.cells #[Value.string id, Value.string title, Value.string link, Value.string content] 9)).drew) 1 (.slice (some ⟨w.heap.size + 1, 0, none⟩) 4 4) 4 [Value.string id, .string title, .string link, .string content] := by
    have := RSl.ext (rsl_new (w := w.alloc (.cells (eCells ⟨id, title, link, content, upd⟩).toArray 23)) (size := 1) (n := 4) (e := 9) (cs := [Value.string id, .string title, .string link, .string content]) rfl (by decide)) (Ext.refl _).drew
    rw [hsz] at this
    exact this
  have hsz2 : (((w.alloc (.cells (eCells ⟨id, title, link, content, upd⟩).toArray 23)).alloc (.cells #[Value.string id, Value.string title, Value.string link, Value.string content] 9)).drew).heap.size = w.heap.size + 2 := by show ((w.heap.push _).push _).size = _; simp
  obtain ⟨X, hX⟩ : ∃ X, ([id, title, link, content].map strCells).flatten = X := ⟨_, rfl⟩
  have hcall : Calls Tryz.prog 111 #[.slice (some ⟨w.heap.size + 1, 0, none⟩) 4 4] (((w.alloc (.cells (eCells ⟨id, title, link, content, upd⟩).toArray 23)).alloc (.cells #[Value.string id, Value.string title, Value.string link, Value.string content] 9)).drew) fun e w' => ∃ v', e = .returned v' ∧ w'.ownsRow (w.heap.size + 2) 146 7 v' 4 X ∧ Ext (((w.alloc (.cells (eCells ⟨id, title, link, content, upd⟩).toArray 23)).alloc (.cells #[Value.string id, Value.string title, Value.string link, Value.string content] 9)).drew) w' := by
    have := stringValues_any (.slice (some ⟨w.heap.size + 1, 0, none⟩) 4 4) [id, title, link, content] _ hR (by show 4 * 96 ≤ 1407374883553; decide)
    rw [hsz2, hX] at this
    exact this
  have HS := Lib.hid hcall
  clear hcall hsz
  have hfl : X ++ intCells upd = ([strCells id, strCells title, strCells link, strCells content, intCells upd] : List (List Value)).flatten := by rw [← hX]; simp
  have hrvs : ∀ w' v, w'.ownsRow (w.heap.size + 2) 146 7 v (4 + 1) (X ++ intCells upd) → RVs w' v [.str id, .str title, .str link, .str content, .int upd] [strCells id, strCells title, strCells link, strCells content, intCells upd] := by
    intro w' v hown
    rw [hfl] at hown
    refine ⟨rfl, RSl.of_own hown, 1, fun i j c hj hc => ?_⟩
    match i with
    | 0 | 1 | 2 | 3 => simp at hj hc; subst hj hc; exact strCells_rvn _ _
    | 4 => simp at hj hc; subst hj hc; exact intCells_rvn _ _
    | i + 5 => simp at hj
  have HRVS := Lib.hid hrvs
  clear hrvs hfl hX
  have hjw := fun w' cs h => jwrite_any (entJ ⟨id, title, link, content, upd⟩) cs w' h
  have hokJ : jok (entJ ⟨id, title, link, content, upd⟩) := entJ_ok _ hok
  have hlenJ : (jtext (entJ ⟨id, title, link, content, upd⟩)).length ≤ 140737488355328 := entJ_len _ hok
  have HJW := Lib.hid (fun w' cs h hE' => hjw w' cs h hokJ hE' hlenJ)
  clear hjw hokJ hlenJ
  have HR := Lib.hid hR
  clear hR
  unfold eCells at *
  go_enter Tryz.func107, Tryz.ntmps107
  go_wp2
  go_region_held3 (fun w' => Ext w w' ∧ w'.cell? ⟨w.heap.size, 0, none⟩ = some (.string id) ∧ w'.cell? ⟨w.heap.size, 1, none⟩ = some (.string title) ∧ w'.cell? ⟨w.heap.size, 2, none⟩ = some (.string link) ∧ w'.cell? ⟨w.heap.size, 3, none⟩ = some (.string content) ∧ w'.cell? ⟨w.heap.size, 4, none⟩ = some (.int .i64 upd))
    ((go_split_ands; refine ⟨?_, ?_, ?_, ?_, ?_, ?_⟩ <;> first | assumption | ((repeat (first | exact Ext.refl _ | assumption | apply Ext.drew | apply Ext.alloc)); done) | ((refine Ext.trans ?_ (by assumption)); (repeat (first | exact Ext.refl _ | assumption | apply Ext.drew | apply Ext.alloc)); done) | ((refine Ext.cell (by assumption) ?_); first | assumption | (go_keep; done)) | (go_keep; done)))
    (first
      | (go_at_call 111; refine HS.out.mono ?_; rintro e w1 ⟨v1, rfl, hown1, hx1⟩)
      | (go_at_call 113; refine (jInt_any _ _).mono ?_; rintro e w2 ⟨he, hx2⟩; (replace he : e = .returned (.agg #[.int .i64 2, .bool false, .int .i64 upd, .string ⟨#[]⟩, .slice none 0 0, .slice none 0 0, .int .i64 0]) := he); subst he)
      | (refine step_append_rsl _ (by rfl) (.tmp 15) (.tmp 19) _ (by rfl) (w.heap.size + 2) 146 i0 _ 7 96 Tryz.underlying143 hi0 hz0 hz1 hz2 rfl (by decide) v1 4 X (by rfl) (own_ext hown1 (by repeat (first | exact hx2 | apply Ext.drew | apply Ext.alloc))) _ 1 (intCells upd) (by rfl) (RSl.ext (rsl_new rfl (by decide)) (by repeat (first | exact Ext.refl _ | apply Ext.drew))) vcells_one (by decide) (by decide) (Nat.le_trans (Nat.le_of_eq hsz2.symm) (hx1.trans (by repeat (first | exact hx2 | apply Ext.drew | apply Ext.alloc))).size) ?_; intro v2 w3 hown3 hg3 hat3; have hxa := Ext.app (hx1.trans (by repeat (first | exact hx2 | apply Ext.drew | apply Ext.alloc))) hg3 (own_ext hown1 (by repeat (first | exact hx2 | apply Ext.drew | apply Ext.alloc))) (Nat.le_of_eq hsz2); have hxw3 : Ext w w3 := (((Ext.refl w).alloc _).alloc _).drew.trans hxa; have hxb := hxa; clear hxa hg3 hat3)
      | (go_at_call 110; refine (jArray_any _ _ _ _ (HRVS.out _ _ hown3) (by show 5 * 96 ≤ 140737488355328; decide)).mono ?_; rintro e w4 ⟨cs4, rfl, hrv4, hx4⟩)
      | (go_at_call 112; refine (HJW.out _ _ hrv4 (hE.ext (hxw3.trans hx4))).mono ?_; rintro e w5 ⟨rfl, hx5⟩))
  go_wp2
  go_ret
  exact ⟨rfl, hxw3.trans (hx4.trans hx5)⟩
end Go.Proofs.YtgecijhgonfldaaGreatDoor
namespace Go.Proofs.YtgecijhgonfldaaGreatDoor
open Go Go.RowKit
set_option linter.unusedVariables false
theorem cmpInt_any (x y : Int) (w : World) :
    Calls Tryz.prog 109 #[.int .i64 x, .int .i64 y] w fun e w' => e = .returned (.int .i64 (if x < y then -1 else if y < x then 1 else 0)) ∧ w' = w := by
  go_enter Tryz.func109, Tryz.ntmps109
  go_wp2
  all_goals go_ret
  all_goals exact ⟨by simp_all, rfl⟩
theorem cmpStr_any (x y : ByteArray) (w : World) :
    Calls Tryz.prog 91 #[.string x, .string y] w fun e w' => e = .returned (.int .i64 (sCmp x y)) ∧ w' = w := by
  unfold sCmp
  go_enter Tryz.func91, Tryz.ntmps91
  go_wp2
  all_goals go_ret
  all_goals exact ⟨by simp_all, rfl⟩
theorem cmpOr_any (x y : Int) (v : Value) (w : World) (h : RSl w 1 v 2 [.int .i64 x, .int .i64 y]) :
    Calls Tryz.prog 89 #[v] w fun e w' => e = .returned (.int .i64 (if x = 0 then y else x)) ∧ w' = w := by
  obtain ⟨_, A, c, rfl, hmc, hcm, _, _⟩ := id h
  obtain ⟨ad, rfl, h0⟩ := h.at1 0 _ rfl
  obtain ⟨ad', h', h1⟩ := h.at1 1 _ rfl
  cases h'
  rw [add_zero] at h0
  have h1' : w.cell? ⟨ad.block, ad.off + 1, none⟩ = some (.int .i64 y) := h1
  clear h1
  by_cases hx : x = 0
  · subst hx
    have hfin : (if (0 : Int) = 0 then y else 0) = y := rfl
    rw [hfin]
    by_cases hy : y = 0
    · subst hy
      go_enter Tryz.func89, Tryz.ntmps89
      go_wp2
      refine wp_loop_rounds 3 ?_
      rw [rounds_succ]
      go_wp2
      rw [rounds_succ]
      go_wp2
      rw [rounds_succ]
      go_wp2
      all_goals go_ret
      all_goals exact ⟨rfl, rfl⟩
    · have hy0 : (y == 0) = false := by simpa using hy
      go_enter Tryz.func89, Tryz.ntmps89
      go_wp2
      refine wp_loop_rounds 2 ?_
      rw [rounds_succ]
      go_wp2
      rw [rounds_succ]
      go_wp2
      all_goals go_ret
      all_goals exact ⟨rfl, rfl⟩
  · have hx0 : (x == 0) = false := by simpa using hx
    rw [if_neg hx]
    go_enter Tryz.func89, Tryz.ntmps89
    go_wp2
    refine wp_loop_rounds 1 ?_
    rw [rounds_succ]
    go_wp2
    all_goals go_ret
    all_goals exact ⟨rfl, rfl⟩
attribute [local go_sem ↓] Go.wp_at_zero Go.wp_at_succ
set_option maxRecDepth 100000 in
set_option maxHeartbeats 1000000 in
theorem compareEntries_any (a b : Ent) (w : World) :
    Calls Tryz.prog 82 #[.agg (eCells a).toArray, .agg (eCells b).toArray] w fun x w' => x = .returned (.int .i64 (entCmp a b)) ∧ Ext w w' := by
  obtain ⟨aid, atitle, alink, acontent, aupd⟩ := a
  obtain ⟨bid, btitle, blink, bcontent, bupd⟩ := b
  unfold entCmp
  obtain ⟨ci, hci⟩ : ∃ ci, iCmp bupd aupd = ci := ⟨_, rfl⟩
  obtain ⟨cs, hcs⟩ : ∃ cs, sCmp aid bid = cs := ⟨_, rfl⟩
  simp only [hci, hcs]
  have HI := Lib.hid (fun w' => cmpInt_any bupd aupd w')
  have HS := Lib.hid (fun w' => cmpStr_any aid bid w')
  rw [hcs] at HS
  rw [show (if bupd < aupd then (-1 : Int) else if aupd < bupd then 1 else 0) = ci from hci] at HI
  have HO := Lib.hid (fun v w' h => cmpOr_any ci cs v w' h)
  obtain ⟨res, hres⟩ : ∃ res, (if ci = 0 then cs else ci) = res := ⟨_, rfl⟩
  rw [hres] at HO
  rw [hres]
  clear hci hcs hres
  unfold eCells
  go_enter Tryz.func82, Tryz.ntmps82
  go_wp2
  go_region_held3 (fun w' => Ext w w' ∧ w'.cell? ⟨w.heap.size, 0, none⟩ = some (.string aid) ∧ w'.cell? ⟨w.heap.size, 4, none⟩ = some (.int .i64 aupd) ∧ w'.cell? ⟨w.heap.size + 1, 0, none⟩ = some (.string bid) ∧ w'.cell? ⟨w.heap.size + 1, 4, none⟩ = some (.int .i64 bupd))
    ((go_split_ands; refine ⟨?_, ?_, ?_, ?_, ?_⟩ <;> first | assumption | ((repeat (first | exact Ext.refl _ | assumption | apply Ext.drew | apply Ext.alloc)); done) | ((refine Ext.trans ?_ (by assumption)); (repeat (first | exact Ext.refl _ | assumption | apply Ext.drew | apply Ext.alloc)); done) | ((refine Ext.cell (by assumption) ?_); first | assumption | (go_keep; done)) | (go_keep; done)))
    (first
      | (go_at_call 109; refine (HI.out _).mono ?_; rintro e w1 ⟨rfl, rfl⟩)
      | (go_at_call 91; refine (HS.out _).mono ?_; rintro e w2 ⟨rfl, rfl⟩)
      | (go_at_call 89; refine (HO.out _ _ (rsl_block (e := 3) (fr := (0, 0)) (cs := [.int .i64 ci, .int .i64 cs]) ?hg (by rfl) (by decide))).mono ?_; (case hg => exact heap_alloc3_new w _ _ _); rintro e w3 ⟨rfl, rfl⟩))
  go_wp2
  go_ret
  exact ⟨rfl, ((((Ext.refl w).alloc _).alloc _).alloc _).drew⟩
end Go.Proofs.YtgecijhgonfldaaGreatDoor
