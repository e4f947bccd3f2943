/- Parts of the proof: contracts and plain laws that the statement needs. -/
import Derived.Test.YtgecijhgonfldaaGreatDoorQ24
import Derived.Test.YtgecijhgonfldaaGreatDoorQ12
import Derived.Test.YtgecijhgonfldaaGreatDoorQ17
import Derived.Test.YtgecijhgonfldaaGreatDoorQ21
import Derived.Test.YtgecijhgonfldaaGreatDoorQ23
import Derived.Test.YtgecijhgonfldaaGreatDoorQ25
namespace Go.Proofs.YtgecijhgonfldaaGreatDoor
open Go Go.RowKit
set_option linter.unusedVariables false
theorem putE_eok {s : List Ent} {e : Ent} (hs : ∀ x ∈ s, eok x) (he : eok e) : ∀ z ∈ ordE.put s e, eok z := by
  intro z hz
  rcases (Ord.mem_ins _ _ _ _).1 hz with h | h
  · rw [h]; exact scan_eok s e hs he
  · exact hs z (scan_mem s e z h)
theorem foldE_eok : ∀ (l s : List Ent), (∀ x ∈ l, eok x) → (∀ x ∈ s, eok x) → ∀ z ∈ l.foldl ordE.put s, eok z
  | [], s, _, hs => hs
  | e :: t, s, hl, hs => foldE_eok t _ (fun x hx => hl x (List.mem_cons_of_mem _ hx)) (putE_eok hs (hl e (List.mem_cons_self ..)))
def hokF (f : Fd) : Prop := (fok f ∧ f.path.length ≤ 1000000) ∧ ∀ e ∈ f.ents, eok e
theorem joinF_hok {a b : Fd} (ha : hokF a) (hb : hokF b) : hokF (joinF a b) := by
  refine ⟨⟨laterF_fok ha.1.1 hb.1.1, ?_⟩, foldE_eok _ _ hb.2 ha.2⟩
  show (laterF a b).path.length ≤ 1000000
  unfold laterF
  dsimp only
  split
  · exact hb.1.2
  · exact ha.1.2
def sumE (l : List Fd) : Nat := (l.map fun f => f.ents.length).sum
theorem sumE_cons (f : Fd) (t : List Fd) : sumE (f :: t) = f.ents.length + sumE t := by unfold sumE; simp
theorem joinF_len (a b : Fd) : (joinF a b).ents.length ≤ a.ents.length + b.ents.length := fold_put_len ordE b.ents a.ents
theorem scanF_hok : ∀ (l : List Fd) (e : Fd), (∀ x ∈ l, hokF x) → hokF e → hokF (ordF.scan l e).2
  | [], _, _, h => h
  | x :: t, e, hl, h => by
    unfold Ord.scan
    split
    · exact scanF_hok t _ (fun y hy => hl y (List.mem_cons_of_mem _ hy)) (joinF_hok (hl x (List.mem_cons_self ..)) h)
    · exact scanF_hok t e (fun y hy => hl y (List.mem_cons_of_mem _ hy)) h
theorem scanF_sum : ∀ (l : List Fd) (e : Fd), sumE (ordF.scan l e).1 + (ordF.scan l e).2.ents.length ≤ sumE l + e.ents.length
  | [], e => by simp [Ord.scan, sumE]
  | x :: t, e => by
    have hop : ordF.op x e = joinF x e := rfl
    unfold Ord.scan
    split
    · have h1 := scanF_sum t (ordF.op x e)
      have h2 := joinF_len x e
      rw [sumE_cons]
      rw [hop] at h1 ⊢
      omega
    · have h1 := scanF_sum t e
      simp only [sumE_cons]
      omega
theorem insF_sum : ∀ (l : List Fd) (e : Fd), sumE (ordF.ins l e) = sumE l + e.ents.length
  | [], e => by simp [Ord.ins, sumE]
  | x :: t, e => by
    have ih := insF_sum t e
    unfold Ord.ins
    split
    · simp only [sumE_cons]; omega
    · simp only [sumE_cons]; omega
theorem putF_sum (l : List Fd) (e : Fd) : sumE (ordF.put l e) ≤ sumE l + e.ents.length := by
  unfold Ord.put
  rw [insF_sum]
  exact scanF_sum l e
theorem putF_hok {l : List Fd} {e : Fd} (hl : ∀ x ∈ l, hokF x) (he : hokF e) : ∀ z ∈ ordF.put l e, hokF z := by
  intro z hz
  rcases (Ord.mem_ins _ _ _ _).1 hz with h | h
  · rw [h]; exact scanF_hok l e hl he
  · have key : ∀ (l : List Fd) (e z : Fd), z ∈ (ordF.scan l e).1 → z ∈ l := by
      intro l
      induction l with
      | nil => intro e z h; simp [Ord.scan] at h
      | cons y t ih =>
        intro e z h
        unfold Ord.scan at h
        split at h
        · exact List.mem_cons_of_mem _ (ih _ z h)
        · rcases List.mem_cons.1 h with h | h
          · rw [h]; exact List.mem_cons_self ..
          · exact List.mem_cons_of_mem _ (ih _ z h)
    exact hl z (key l e z h)
theorem heap_grown {b c : World} {r : Option Nat} {B k : Nat} {O : Obj} (hg : b.grownBy c r) (hr : ∀ q, r = some q → B ≤ q) (hk : k < B) (h : b.heap[k]? = some O) : c.heap[k]? = some O := by
  obtain ⟨_, _, _, _, h5⟩ := hg
  exact (h5 k (Array.getElem?_eq_some_iff.1 h).1 (fun e => by first | (have := hr k e; omega) | (have := hr k e.symm; omega))).trans h
theorem flatE_lenP (l : List Ent) : (flatE l).length = l.length * 5 := by
  induction l with
  | nil => rfl
  | cons x t ih =>
    have e : flatE (x :: t) = eCells x ++ flatE t := by unfold flatE; simp
    have e5 : (eCells x).length = 5 := rfl
    rw [e, List.length_append, ih, e5, List.length_cons]
    omega
set_option maxRecDepth 100000 in
set_option maxHeartbeats 8000000 in
theorem refPut_any (v : Value) (l : List Fc) (x : Fc) (w : World) (hr : RFcs w v l) (hrd : ∀ y ∈ l, RdC w y) (hx : RdC w x) (hk : ∀ y ∈ l, hokF y.f) (hkx : hokF x.f) (hen : sumE (l.map Fc.f) + x.f.ents.length ≤ 1000000) (hn : l.length ≤ 1000000) :
    Calls Tryz.prog 62 #[.agg #[v], .agg (cellsC x).toArray] w fun e w' => ∃ (v' : Value) (lc : List Fc), e = .returned (.agg #[v']) ∧ lc.map Fc.f = ordF.put (l.map Fc.f) x.f ∧ OFcs w' w.heap.size v' lc ∧ (∀ y ∈ lc, RdC w' y) ∧ (∀ q, q < w.heap.size → (∀ z ∈ l, awayC z (some q)) → awayC x (some q) → ∀ z ∈ lc, awayC z (some q)) ∧ Ext w w' := by
  obtain ⟨i0, hi0, hz0, hz1, hz2⟩ := info_parts info_feed
  obtain ⟨A, c, rfl, -, -⟩ := hr.form
  obtain ⟨L, hL⟩ : ∃ L, l.map Fc.f = L := ⟨_, rfl⟩
  rw [hL] at hen ⊢
  have hLl : L.length = l.length := by rw [← hL, List.length_map]
  have HL := Lib.hid hL
  have hLh : ∀ y ∈ L, hokF y := by rw [← hL]; intro y hy; obtain ⟨z, hz, rfl⟩ := List.mem_map.1 hy; exact hk z hz
  have HSH := Lib.hid (fun k => scanF_hok (L.take k) x.f (fun y hy => hLh y (List.mem_of_mem_take hy)) hkx)
  have HSS : Hid (∀ k, (ordF.scan (L.take k) x.f).2.ents.length + (if h : k < L.length then L[k].ents.length else 0) ≤ 1000000) := Lib.hid fun k => by
    have h1 := scanF_sum (L.take k) x.f
    have h2 : sumE L = sumE (L.take k) + sumE (L.drop k) := by unfold sumE; rw [← List.sum_append, ← List.map_append, List.take_append_drop]
    split
    · rename_i h
      have h3 : sumE (L.drop k) = L[k].ents.length + sumE (L.drop (k + 1)) := by rw [List.drop_eq_getElem_cons h, sumE_cons]
      omega
    · omega
  have HR := Lib.hid hr
  have HRD := Lib.hid hrd
  have HK := Lib.hid hk
  have hsl := hx.sl
  obtain ⟨xF, hxF⟩ : ∃ xF, x.f = xF := ⟨_, rfl⟩
  have HX := Lib.hid hx
  have HXF := Lib.hid hxF
  rw [hxF] at HSH HSS ⊢
  have hstart : Hid (RdC w x ∧ x.f = xF) := Lib.hid ⟨hx, hxF⟩
  obtain ⟨AW, hAW⟩ : ∃ AW : Nat → Prop, ∀ q, AW q ↔ (∀ z ∈ l, awayC z (some q)) ∧ awayC x (some q) := ⟨fun q => (∀ z ∈ l, awayC z (some q)) ∧ awayC x (some q), fun q => Iff.rfl⟩
  have hAN : ∀ q, w.heap.size ≤ q → AW q := fun q hq => (hAW q).2 ⟨fun z hz => awayC_new (hrd z hz) hq, awayC_new hx hq⟩
  have HAW := Lib.hid hAW
  have HAN := Lib.hid hAN
  clear hr hrd hk hkx hen hL hLh hx hAW hAN
  obtain ⟨xp, xes, xf⟩ := x
  obtain ⟨⟨xA, xn, xc, hxp⟩, ⟨xB, xm, xd, hxe⟩⟩ := hsl
  dsimp only at hxp hxe hxF
  subst hxp hxe hxF
  unfold cellsC fCells
  dsimp only
  go_enter Tryz.func62, Tryz.ntmps62
  go_wp2
  obtain ⟨w0, hw0⟩ : ∃ w0, w0 = ((w.alloc (.cells #[.slice A l.length c] 46)).alloc (.cells #[.slice xA xn xc, .string xf.id, .string xf.title, .string xf.link, .int .i64 xf.upd, .slice xB xm xd] 35)).alloc (.cells #[.slice none 0 0] 46) := ⟨_, rfl⟩
  rw [← hw0]
  have hxw0 : Ext w w0 := by rw [hw0]; exact (((Ext.refl _).alloc _).alloc _).alloc _
  have hb1 : w0.heap[w.heap.size]? = some (.cells #[.slice A l.length c] 46) := by rw [hw0]; exact (((Ext.refl _).alloc _).alloc _).heap (heap_alloc_new w _)
  have hb2 : w0.heap[w.heap.size + 1]? = some (.cells (cellsC ⟨.slice xA xn xc, .slice xB xm xd, xf⟩).toArray 35) := by rw [hw0]; exact ((Ext.refl _).alloc _).heap (heap2_new w _ _)
  have hb3 : w0.heap[w.heap.size + 1 + 1]? = some (.cells #[.slice none 0 0] 46) := by rw [hw0]; exact heap_alloc3_new w _ _ _
  clear hw0
  go_loopw [5, 6] (fun u i wr => ∃ (k : Nat) (rest : List Fc) (y : Fc) (uA : Option Addr) (uc : Nat), u = .slice uA rest.length uc ∧ k ≤ l.length ∧ i = .int .i64 k ∧ OFcs wr (w.heap.size + 1 + 1 + 1) u rest ∧ Ext w wr ∧
      Hid (rest.map Fc.f = (ordF.scan (L.take k) xf).1 ∧ y.f = (ordF.scan (L.take k) xf).2 ∧ (∀ z ∈ rest, z ∈ l) ∧ rest.length ≤ k) ∧
      Hid (RdC wr y ∧ awayC y u.ownBlock ∧ ∀ q, AW q → q < w.heap.size + 1 + 1 + 1 → awayC y (some q)) ∧
      Hid (wr.heap[w.heap.size]? = some (.cells #[.slice A l.length c] 46) ∧ wr.heap[w.heap.size + 1]? = some (.cells (cellsC y).toArray 35) ∧ wr.heap[w.heap.size + 1 + 1]? = some (.cells #[.slice none 0 0] 46))) (fun _ i _ => l.length - (intOf i).toNat)
  case atStart => exact ⟨0, [], ⟨.slice xA xn xc, .slice xB xm xd, xf⟩, none, 0, rfl, Nat.zero_le _, rfl, OFcs.nil _ _, hxw0, Lib.hid ⟨rfl, rfl, by simp, Nat.le_refl _⟩, Lib.hid ⟨hstart.out.1.ext hxw0, awayC_none hstart.out.1, fun q hq _ => ((HAW.out q).1 hq).2⟩, Lib.hid ⟨hb1, hb2, hb3⟩⟩
  case round =>
    obtain ⟨k, rest, y, uA, uc, rfl, hk, rfl, hown, hxr, hrel, hyr, hbx⟩ := hrel
    have hysl := hyr.out.1.sl
    obtain ⟨yp, yes, yf⟩ := y
    obtain ⟨⟨yA, yn, yc, hyp⟩, ⟨yB, ym, yd, hye⟩⟩ := hysl
    dsimp only at hyp hye
    subst hyp hye
    have b1 : wr.cell? ⟨w.heap.size, 0, none⟩ = some (.slice A l.length c) := by rw [cell_of_row _ _ _ _ _ _ hbx.out.1]; rfl
    obtain ⟨y0, y1, y2, y3, y4, y5⟩ := blk6 (show wr.heap[w.heap.size + 1]? = some (.cells #[.slice yA yn yc, .string yf.id, .string yf.title, .string yf.link, .int .i64 yf.upd, .slice yB ym yd] 35 (0, 0)) from hbx.out.2.1)
    have hsz : w.heap.size + 1 + 1 + 1 ≤ wr.heap.size := (Array.getElem?_eq_some_iff.1 hbx.out.2.2).1
    by_cases hlt : k < l.length
    · obtain ⟨ad, c1, e1, hax⟩ := (HR.out.ext hxr).at hlt
      injection e1 with e1 e1' e1''
      subst e1
      clear e1' e1''
      have hltL : k < L.length := by rw [hLl]; exact hlt
      have hsn := scan_snoc ordF (L.take k) xf L[k]
      rw [← List.take_succ_eq_append_getElem hltL] at hsn
      have hLk : L[k] = l[k].f := by have h := HL.out; subst h; rw [List.getElem_map]
      have hss := HSS.out k
      rw [dif_pos hltL, hLk] at hss
      rw [hLk] at hsn
      have hmem := List.getElem_mem hlt
      have hxd := HRD.out _ hmem
      have hxk := HK.out _ hmem
      have hyk := HSH.out k
      have hidy : (ordF.scan (L.take k) xf).2.id = xf.id := scan_snd_id ordF (L.take k) xf
      rw [← hrel.out.2.1] at hss hyk hidy
      obtain ⟨s, hs⟩ : ∃ s, l[k] = s := ⟨_, rfl⟩
      rw [hs] at hax hsn hmem hxd hxk hss
      have hssl := hxd.sl
      obtain ⟨sp, ses, sf⟩ := s
      obtain ⟨⟨sA, sn, sc, hsp⟩, ⟨sB, sm, sd, hse⟩⟩ := hssl
      dsimp only at hsp hse
      subst hsp hse
      obtain ⟨a0, a1, a2, a3, a4, a5⟩ := hax
      dsimp only at a0 a1 a2 a3 a4 a5 hxk hyk hss hidy hsn
      have HSN := Lib.hid hsn
      have HMEM := Lib.hid hmem
      have HXD := Lib.hid hxd
      have HYK := Lib.hid hyk
      have HXK := Lib.hid hxk
      have HOW := Lib.hid hown
      have HXR := Lib.hid hxr
      have HIDY := Lib.hid hidy
      have hi0' : (0 : Int) ≤ (k : Int) := by omega
      have hi1 : (k : Int) < (l.length : Int) := by omega
      have hrl := hrel.out.2.2.2
      clear hs hsn hmem hxd hyk hxk hown hLk hidy
      have hW1 : Ext wr (wr.alloc (.cells #[.slice sA sn sc, .string sf.id, .string sf.title, .string sf.link, .int .i64 sf.upd, .slice sB sm sd] 35)) := (Ext.refl _).alloc _
      have z0 := hW1.cell y0
      have z1 := hW1.cell y1
      have z2 := hW1.cell y2
      have z3 := hW1.cell y3
      have z4 := hW1.cell y4
      have z5 := hW1.cell y5
      clear y0 y1 y2 y3 y4 y5
      cases hid : (sf.id.toList == yf.id.toList) with
      | false =>
        have hide : ¬ ordF.id sf = ordF.id xf := by
          intro e'
          have e2 : sf.id = yf.id := (show sf.id = xf.id from e').trans HIDY.out.symm
          rw [e2] at hid
          simp at hid
        have HML : Hid (rest.length + 1 ≤ maxLen) := Lib.hid (by unfold maxLen; omega)
        have HBY : Hid ((rest.length + 1) * 104 ≤ 140737488355328) := Lib.hid (by omega)
        have HOW2 : Hid (((wr.alloc (.cells #[.slice sA sn sc, .string sf.id, .string sf.title, .string sf.link, .int .i64 sf.upd, .slice sB sm sd] 35)).alloc (.cells #[.slice sA sn sc, .string sf.id, .string sf.title, .string sf.link, .int .i64 sf.upd, .slice sB sm sd] 35)).ownsRow (w.heap.size + 1 + 1 + 1) 35 6 (.slice uA rest.length uc) rest.length (flatC rest)) := Lib.hid (own_ext HOW.out (((Ext.refl _).alloc _).alloc _))
        go_wp2_with (first | (at_builtin; refine wpList_append_rsl _ rfl (.tmp 30) (.tmp 32) _ rfl (w.heap.size + 1 + 1 + 1) 35 i0 _ 6 104 Tryz.underlying37 hi0 hz0 hz1 hz2 rfl (by decide) _ rest.length (flatC rest) rfl HOW2.out _ 1 (cellsC ⟨.slice sA sn sc, .slice sB sm sd, sf⟩) rfl (rsl_block (e := 35) (fr := (0, 0)) (heap2_new _ _ _) rfl (by decide)) (cellsC_one (x := ⟨.slice sA sn sc, .slice sB sm sd, sf⟩) ⟨⟨_, _, _, rfl⟩, ⟨_, _, _, rfl⟩⟩) HML.out HBY.out ?_ ?_; (simp only [size_alloc]; omega); intro u5 w5 hown5 hg5 hat5; (obtain ⟨u5A, u5c, hu5, -, -⟩ := (RSl.of_own hown5).2); subst hu5))
        have hx5 : Ext wr ((wr.alloc (.cells #[.slice sA sn sc, .string sf.id, .string sf.title, .string sf.link, .int .i64 sf.upd, .slice sB sm sd] 35)).alloc (.cells #[.slice sA sn sc, .string sf.id, .string sf.title, .string sf.link, .int .i64 sf.upd, .slice sB sm sd] 35)) := ((Ext.refl _).alloc _).alloc _
        have hlb := HOW.out.lt
        go_roundw
        case rel =>
          have hsn := HSN.out
          rw [if_neg hide] at hsn
          refine ⟨k + 1, rest ++ [⟨.slice sA sn sc, .slice sB sm sd, sf⟩], ⟨.slice yA yn yc, .slice yB ym yd, yf⟩, u5A, u5c, by rw [List.length_append]; rfl, hlt, by go_num, OFcs.snoc hown5, Ext.app (HXR.out.trans hx5) hg5 HOW2.out (by omega), Lib.hid ⟨?_, ?_, ?_, ?_⟩, Lib.hid ⟨?_, ?_, hyr.out.2.2⟩, Lib.hid ⟨?_, ?_, ?_⟩⟩
          · rw [hsn, List.map_append, hrel.out.1]; rfl
          · rw [hsn]; exact hrel.out.2.1
          · intro z hz
            rcases List.mem_append.1 hz with hz | hz
            · exact hrel.out.2.2.1 z hz
            · rw [List.mem_singleton.1 hz]; exact HMEM.out
          · rw [List.length_append]; exact Nat.succ_le_succ hrl
          · exact (hyr.out.1.ext hx5).grown hg5 hyr.out.2.1
          · rcases hat5 with e | e
            · rw [e]; exact hyr.out.2.1
            · rw [e]; exact awayC_new (hyr.out.1.ext hx5) (Nat.le_refl _)
          · exact heap_grown hg5 (fun q hq => (hlb q hq).1) (by omega) (hx5.heap hbx.out.1)
          · exact heap_grown hg5 (fun q hq => (hlb q hq).1) (by omega) (hx5.heap hbx.out.2.1)
          · exact heap_grown hg5 (fun q hq => (hlb q hq).1) (by omega) (hx5.heap hbx.out.2.2)
        case measure => simp [intOf]; omega
      | true =>
        have hide : ordF.id sf = ordF.id xf := by
          have e2 : sf.id = yf.id := toList_inj (by simpa using hid)
          exact e2.trans HIDY.out
        have HIDE := Lib.hid hide
        clear hide
        have hW1s : wr.heap.size < (wr.alloc (.cells #[.slice sA sn sc, .string sf.id, .string sf.title, .string sf.link, .int .i64 sf.upd, .slice sB sm sd] 35)).heap.size := by rw [size_alloc]; omega
        have hW1b := heap_alloc_new wr (.cells #[.slice sA sn sc, .string sf.id, .string sf.title, .string sf.link, .int .i64 sf.upd, .slice sB sm sd] 35)
        go_wp2
        obtain ⟨wP, hwP⟩ : ∃ wP : World, wP = wr := ⟨_, rfl⟩
        subst hwP
        obtain ⟨W1, hW1e⟩ : ∃ W1, wP.alloc (.cells #[.slice sA sn sc, .string sf.id, .string sf.title, .string sf.link, .int .i64 sf.upd, .slice sB sm sd] 35) = W1 := ⟨_, rfl⟩
        rw [hW1e] at hW1 z0 z1 z2 z3 z4 z5 hW1s hW1b ⊢
        clear hW1e
        have hYR := hyr.out.1.ext hW1
        obtain ⟨B', d', e1, -, -⟩ := hYR.2.form
        dsimp only at e1
        injection e1 with e1 e2 e3
        subst e1 e2 e3
        have HYR := Lib.hid hYR
        have HW1 := Lib.hid hW1
        have hsR : RdC W1 ⟨.slice sA sn sc, .slice sB sm sd, sf⟩ := (HXD.out.ext HXR.out).ext hW1
        obtain ⟨B', d', e1, -, -⟩ := hsR.2.form
        dsimp only at e1
        injection e1 with e1 e2 e3
        subst e1 e2 e3
        have HSR := Lib.hid hsR
        have HW1B := Lib.hid hW1b
        have HZ := Lib.hid (And.intro z0 (And.intro z1 (And.intro z2 (And.intro z3 (And.intro z4 z5)))))
        have HOLD : Hid (∀ q, AW q → flatE sf.ents = [] ∨ (Value.slice sB sf.ents.length sd).ownBlock ≠ some q) := Lib.hid fun q hq => by
          have := (((HAW.out q).1 hq).1 _ HMEM.out).2
          exact this.imp (fun e => by show flatE sf.ents = []; rw [show sf.ents = [] from e]; rfl) fun e => e
        clear hYR hsR z0 z1 z2 z3 z4 z5 a0 a1 a2 a3 a4 a5 b1 hW1b
        go_loopw [8, 9] (fun u' i wq => ∃ (j : Nat) (A' : Option Addr) (c' : Nat), j ≤ yf.ents.length ∧ i = .int .i64 j ∧ u' = .slice A' ((yf.ents.take j).foldl ordE.put sf.ents).length c' ∧ REnts wq u' ((yf.ents.take j).foldl ordE.put sf.ents) ∧
            Hid (∀ q, AW q → q < W1.heap.size → flatE ((yf.ents.take j).foldl ordE.put sf.ents) = [] ∨ u'.ownBlock ≠ some q) ∧ Ext W1 wq) (fun _ i _ => yf.ents.length - (intOf i).toNat)
        case atStart => exact ⟨0, sB, sd, Nat.zero_le _, rfl, rfl, HSR.out.2, Lib.hid fun q h1 _ => HOLD.out q h1, Ext.refl _⟩
        case round =>
          obtain ⟨j, A', c', hj, rfl, rfl, hre, haw, hxq⟩ := hrel
          have v5 := hxq.cell HZ.out.2.2.2.2.2
          have hlen : ((yf.ents.take j).foldl ordE.put sf.ents).length ≤ sf.ents.length + yf.ents.length := by
            have h1 := fold_put_len ordE (yf.ents.take j) sf.ents
            rw [List.length_take] at h1
            omega
          by_cases hlj : j < yf.ents.length
          · obtain ⟨ae, c2, e2, hat⟩ := (REnts.ext HYR.out.2 hxq).at hlj
            dsimp only at e2
            injection e2 with e2 e2' e2''
            subst e2
            clear e2' e2''
            have htk := List.take_succ_eq_append_getElem hlj
            have hstep : (yf.ents.take (j + 1)).foldl ordE.put sf.ents = ordE.put ((yf.ents.take j).foldl ordE.put sf.ents) yf.ents[j] := by rw [htk, List.foldl_append]; rfl
            have HAD := Lib.hid (refAdd_any _ _ yf.ents[j] wr hre (foldE_eok _ _ (fun z hz => HYK.out.2 z (List.mem_of_mem_take hz)) HXK.out.2) (HYK.out.2 _ (List.getElem_mem hlj)) (by omega))
            rw [← hstep] at HAD
            obtain ⟨e, he⟩ : ∃ e, yf.ents[j] = e := ⟨_, rfl⟩
            rw [he] at hat HAD
            obtain ⟨p0, p1, p2, p3, p4⟩ := hat
            obtain ⟨O, hO⟩ : ∃ O, (yf.ents.take j).foldl ordE.put sf.ents = O := ⟨_, rfl⟩
            rw [hO] at HAD
            simp only [hO]
            have hj0 : (0 : Int) ≤ (j : Int) := by omega
            have hj1 : (j : Int) < (yf.ents.length : Int) := by omega
            have hws := hxq.size
            unfold eCells at HAD
            clear htk hstep he hO hre haw hlen
            go_wp2_with (first | (go_at_call 53; (have hz := HAD.out); (with_reducible refine Calls.mono hz ?_); clear hz; rintro e' wA ⟨u', rfl, hownA, hxA⟩; (obtain ⟨zA, zc, hze, -, -⟩ := hownA.reads.form); subst hze))
            have hlb := hownA.lt
            go_roundw
            case rel => exact ⟨j + 1, zA, zc, hlj, by go_num, rfl, hownA.reads, Lib.hid fun q _ h2 => Or.inr fun e => by have := (hlb q e).1; omega, hxq.trans hxA⟩
            case measure => simp [intOf]; omega
          · have hje : j = yf.ents.length := by omega
            subst hje
            have htl : yf.ents.take yf.ents.length = yf.ents := List.take_of_length_le (Nat.le_refl _)
            rw [htl] at hre haw hlen ⊢
            obtain ⟨O, hO⟩ : ∃ O, yf.ents.foldl ordE.put sf.ents = O := ⟨_, rfl⟩
            rw [hO] at hre haw hlen ⊢
            have HO := Lib.hid hO
            have HRE := Lib.hid hre
            have HAW := Lib.hid haw.out
            have HLF := Lib.hid (refLaterF_any ⟨.slice sA sn sc, .slice sB sf.ents.length sd, sf⟩ ⟨.slice yA yn yc, .slice yB yf.ents.length yd, yf⟩ wr HXK.out.1.1 HYK.out.1.1 HXK.out.1.2 HYK.out.1.2 (HSR.out.ext hxq) (HYR.out.ext hxq))
            dsimp only at HLF
            unfold cellsC fCells at HLF
            dsimp only at HLF
            obtain ⟨JF, hJF⟩ : ∃ JF, laterF sf yf = JF := ⟨_, rfl⟩
            rw [hJF] at HLF
            have HJF := Lib.hid hJF
            obtain ⟨s0, s1, s2, s3, s4, s5⟩ := blk6 (hxq.heap HW1B.out)
            obtain ⟨v0, v1, v2, v3, v4, -⟩ := And.intro (hxq.cell HZ.out.1) (And.intro (hxq.cell HZ.out.2.1) (And.intro (hxq.cell HZ.out.2.2.1) (And.intro (hxq.cell HZ.out.2.2.2.1) (And.intro (hxq.cell HZ.out.2.2.2.2.1) trivial))))
            have g1 := (HW1.out.trans hxq).heap hbx.out.1
            have g2 := (HW1.out.trans hxq).heap hbx.out.2.1
            have g3 := (HW1.out.trans hxq).heap hbx.out.2.2
            have G1 := Lib.hid g1
            have G3 := Lib.hid g3
            have hws : W1.heap.size ≤ wr.heap.size := hxq.size
            have HXQ := Lib.hid hxq
            clear hJF hO hre haw htl hxq g1 g3
            go_wp2_with (first
              | (go_at_call 37; (have hz := HLF.out); (with_reducible refine Calls.mono hz ?_); clear hz; rintro e' wL ⟨p', rfl, hpr, hpa, hxL⟩; (obtain ⟨pA, pc, hpp, -, -⟩ := hpr.form); subst hpp; (have g2L := hxL.heap g2))
              | (refine wpList_store_row rfl 35 (.tmp 3) (.tmp 52) rfl (w.heap.size + 1) _ rfl rfl _ _ g2L size_fd rfl oneF ?_; (have hr2 := setRow_heap wL (w.heap.size + 1) _ #[.slice pA JF.path.length pc, .string JF.id, .string JF.title, .string JF.link, .int .i64 JF.upd, .slice none 0 0] _ _ g2L); (obtain ⟨-, -, -, -, -, t5⟩ := blk6 hr2); (have tf := Lib.frozen_of_heap hr2 5)))
            go_roundw
            case rel =>
              have hsn := HSN.out
              rw [if_pos HIDE.out] at hsn
              have hlb := HOW.out.lt
              have hjn : (⟨JF.path, JF.id, JF.title, JF.link, JF.upd, O⟩ : Fd) = joinF sf yf := by rw [← HJF.out, ← HO.out]; rfl
              have hxe := (HW1.out.trans HXQ.out).trans hxL
              have hpa' : ∀ q, q < W1.heap.size → JF.path = [] ∨ (Value.slice pA JF.path.length pc).ownBlock ≠ some q := fun q hq => hpa q (by omega)
              have haY : ∀ q, AW q → q < W1.heap.size → awayC ⟨.slice pA JF.path.length pc, .slice A' O.length c', ⟨JF.path, JF.id, JF.title, JF.link, JF.upd, O⟩⟩ (some q) := fun q h1 h2 => ⟨hpa' q h2, (HAW.out q h1 h2).imp (fun e => by
                have h3 : (flatE O).length = 0 := by rw [show flatE O = [] from e]; rfl
                rw [flatE_lenP] at h3
                exact List.eq_nil_of_length_eq_zero (show O.length = 0 by omega)) fun e => e⟩
              have hrdL : RdC wL ⟨.slice pA JF.path.length pc, .slice A' O.length c', ⟨JF.path, JF.id, JF.title, JF.link, JF.upd, O⟩⟩ := ⟨hpr, HRE.out.ext hxL⟩
              have hs1 : w.heap.size + 1 < W1.heap.size := by omega
              have hrdF := (hrdL.grown (setRow_grown wL (w.heap.size + 1) #[.slice pA JF.path.length pc, .string JF.id, .string JF.title, .string JF.link, .int .i64 JF.upd, .slice none 0 0]) (haY (w.heap.size + 1) (HAN.out _ (by omega)) hs1)).grown (setCell_grown _ ⟨w.heap.size + 1, 5, none⟩ (.slice A' O.length c')) (haY (w.heap.size + 1) (HAN.out _ (by omega)) hs1)
              refine ⟨k + 1, rest, ⟨.slice pA JF.path.length pc, .slice A' O.length c', ⟨JF.path, JF.id, JF.title, JF.link, JF.upd, O⟩⟩, uA, uc, rfl, hlt, by go_num, ?_, ?_, Lib.hid ⟨?_, ?_, hrel.out.2.2.1, Nat.le_succ_of_le hrl⟩, Lib.hid ⟨hrdF, ?_, fun q h1 h2 => haY q h1 (by omega)⟩, Lib.hid ⟨?_, ?_, ?_⟩⟩
              · exact ownsRow_setCell_below (own_setRow (own_ext HOW.out hxe) (by omega) _) (a := ⟨w.heap.size + 1, 5, none⟩) (by show w.heap.size + 1 < _; omega) _
              · exact Ext.setCell (Ext.setRow (HXR.out.trans hxe) (by omega) _) (by show w.heap.size ≤ w.heap.size + 1; omega) _
              · rw [hsn]; exact hrel.out.1
              · rw [hsn, hjn]
                show joinF sf yf = joinF sf (ordF.scan (L.take k) xf).2
                rw [← hrel.out.2.1]
              · exact awayC_opt hrdF fun q hq => haY q (HAN.out q (by have := (hlb q hq).1; omega)) (by have := (hlb q hq).2; have := HW1.out.size; omega)
              · exact (heap_setCell_other _ ⟨w.heap.size + 1, 5, none⟩ w.heap.size _ (by simp)).trans ((setRow_other _ _ _ _ (by omega)).trans (hxL.heap G1.out))
              · exact Go.heap_setCell_same _ _ _ _ _ _ hr2
              · exact (heap_setCell_other _ ⟨w.heap.size + 1, 5, none⟩ (w.heap.size + 1 + 1) _ (by simp)).trans ((setRow_other _ _ _ _ (by omega)).trans (hxL.heap G3.out))
            case measure => simp [intOf]; omega
    · have hke : k = l.length := by omega
      subst hke
      have htL : L.take l.length = L := List.take_of_length_le (by omega)
      have hri := hrel.out
      rw [htL] at hri
      have hput : ordF.put L xf = ordF.ins (rest.map Fc.f) yf := by unfold Ord.put; rw [hri.1, ← hri.2.1]
      have HP := Lib.hid hput
      have hrn : rest.length ≤ 1000000 := by have := hri.2.2.2; omega
      have hyk := HSH.out l.length
      rw [htL, ← hri.2.1] at hyk
      have HYK := Lib.hid hyk
      have hold : ∀ z ∈ rest, RdC w z := fun z hz => HRD.out z (hri.2.2.1 z hz)
      have hokz : ∀ z ∈ rest, hokF z.f := fun z hz => HK.out z (hri.2.2.1 z hz)
      have HOLD := Lib.hid hold
      have HMEL := Lib.hid hri.2.2.1
      have HOKZ := Lib.hid hokz
      have HOWR := Lib.hid hown
      have HYR := Lib.hid hyr.out
      have HBX := Lib.hid hbx.out
      have HXR := Lib.hid hxr
      obtain ⟨wo, hwo⟩ : ∃ wo : World, wo = wr := ⟨_, rfl⟩
      subst hwo
      have HY6 := Lib.hid (And.intro y0 (And.intro y1 (And.intro y2 (And.intro y3 (And.intro y4 y5)))))
      clear htL hri hput hyk hold hokz hown hyr hbx hxr hrel y0 y1 y2 y3 y4 y5 HSH HSS HR HRD HK hlt hk
      go_wp2
      clear b1
      go_loopw [10, 11, 12] (fun o dn i w2 => ∃ (k : Nat) (done : Bool) (out : List Fc) (oA : Option Addr) (oc : Nat), o = .slice oA out.length oc ∧ k ≤ rest.length ∧ i = .int .i64 k ∧ dn = .bool done ∧ OFcs w2 wo.heap.size o out ∧ Ext wo w2 ∧ out.length ≤ k + 1 ∧
          Hid ((done = false → out = rest.take k ∧ ∀ x ∈ rest.take k, ordF.lt yf x.f = false) ∧ (done = true → out.map Fc.f ++ (rest.drop k).map Fc.f = ordF.ins (rest.map Fc.f) yf) ∧ ∀ z ∈ out, z ∈ rest ∨ z = (⟨.slice yA yn yc, .slice yB ym yd, yf⟩ : Fc))) (fun _ _ i _ => rest.length - (intOf i).toNat)
      case atStart => exact ⟨0, false, [], none, 0, rfl, Nat.zero_le _, rfl, rfl, OFcs.nil _ _, Ext.refl _, by simp, Lib.hid ⟨fun _ => ⟨rfl, by simp⟩, fun h => (by cases h), by simp⟩⟩
      case round =>
        obtain ⟨k, done, out, oA, oc, rfl, hk, rfl, rfl, hown2, hxo, hol, hinv⟩ := hrel
        by_cases hlt : k < rest.length
        · obtain ⟨ad, c', hv, hat⟩ := (OFcs.reads HOWR.out).at hlt
          injection hv with hv1 hv2 hv3
          subst hv1
          clear hv2 hv3
          have htk := List.take_succ_eq_append_getElem hlt
          have hdk := List.drop_eq_getElem_cons hlt
          have hltm : k < (rest.map Fc.f).length := by rw [List.length_map]; exact hlt
          have hia := ins_at ordF (rest.map Fc.f) yf k hltm
          rw [List.getElem_map] at hia
          have hmz := List.getElem_mem hlt
          obtain ⟨z, hz⟩ : ∃ z, rest[k] = z := ⟨_, rfl⟩
          rw [hz] at hat htk hdk hia hmz
          have hzr := (HOLD.out z hmz).ext HXR.out
          have hzk := HOKZ.out z hmz
          have hzsl := hzr.sl
          have HTK := Lib.hid htk
          have HDK := Lib.hid hdk
          have HIA := Lib.hid hia
          have HMZ := Lib.hid hmz
          have HCMP := Lib.hid (fun d : Aft wr => refCmpF_any (.slice yA yn yc) z.p (.slice yB ym yd) z.es yf z.f d.w (HYR.out.1.1.ext (hxo.trans d.ext)) (hzr.1.ext (hxo.trans d.ext)) (by have := HYK.out.1.2; omega))
          have hltd : ordF.lt yf z.f = decide (feedCmp yf z.f < 0) := rfl
          have HLT := Lib.hid hltd
          obtain ⟨cc, hcc⟩ : ∃ cc, feedCmp yf z.f = cc := ⟨_, rfl⟩
          simp only [hcc] at HCMP HLT
          clear htk hdk hia hltd hz hmz hltm hzr hzk hcc
          obtain ⟨zp, zes, zf⟩ := z
          obtain ⟨⟨zA, zn, zc, hzp⟩, ⟨zB, zm, zd, hze⟩⟩ := hzsl
          dsimp only at hzp hze
          subst hzp hze
          have hi0' : (0 : Int) ≤ (k : Int) := by omega
          have hi1 : (k : Int) < (rest.length : Int) := by omega
          obtain ⟨a0, a1, a2, a3, a4, a5⟩ := hat
          obtain ⟨b0, b1, b2, b3, b4, b5⟩ := HY6.out
          try dsimp only at a0 a1 a2 a3 a4 a5 HCMP HLT HIA
          unfold fCells at HCMP
          have HBY : Hid ((out.length + 1) * 104 ≤ 140737488355328) := Lib.hid (by omega)
          have HBY2 : Hid ((out.length + 1 + 1) * 104 ≤ 140737488355328) := Lib.hid (by omega)
          have HML2 : Hid (out.length + 1 + 1 ≤ maxLen) := Lib.hid (by unfold maxLen; omega)
          have HML : Hid (out.length + 1 ≤ maxLen) := Lib.hid (by unfold maxLen; omega)
          have HOL := Lib.hid hol
          have HMO := Lib.hid hinv.out.2.2
          clear hol
          have f0 := fun d : Aft wr => (hxo.trans d.ext).cell a0
          have f1 := fun d : Aft wr => (hxo.trans d.ext).cell a1
          have f2 := fun d : Aft wr => (hxo.trans d.ext).cell a2
          have f3 := fun d : Aft wr => (hxo.trans d.ext).cell a3
          have f4 := fun d : Aft wr => (hxo.trans d.ext).cell a4
          have f5 := fun d : Aft wr => (hxo.trans d.ext).cell a5
          have g0 := fun d : Aft wr => (hxo.trans d.ext).cell b0
          have g1 := fun d : Aft wr => (hxo.trans d.ext).cell b1
          have g2 := fun d : Aft wr => (hxo.trans d.ext).cell b2
          have g3 := fun d : Aft wr => (hxo.trans d.ext).cell b3
          have g4 := fun d : Aft wr => (hxo.trans d.ext).cell b4
          have g5 := fun d : Aft wr => (hxo.trans d.ext).cell b5
          cases done with
          | true =>
            have hinv' := hinv.out.2.1 rfl
            have HI := Lib.hid hinv'
            clear hinv hinv'
            go_wp2
            refine wp_region_aft (by kernel_rfl) (by kernel_rfl) ?_
            repeat (first | go_big_quiet_step ((go_at_call 63; with_reducible exact quiet_call (HCMP.out _))) | quiet_step ((go_at_call 63; with_reducible exact quiet_call (HCMP.out _))))
            refine wpQuiet_nil ?_
            rintro _ ⟨d1, rfl⟩
            have hx1 := hxo.trans d1.ext
            have hown1 := hown2.ext d1.ext
            clear f0 f1 f2 f3 f4 f5 g0 g1 g2 g3 g4 g5
            have p0 := hx1.cell a0
            have p1 := hx1.cell a1
            have p2 := hx1.cell a2
            have p3 := hx1.cell a3
            have p4 := hx1.cell a4
            have p5 := hx1.cell a5
            have r0 := hx1.cell b0
            have r1 := hx1.cell b1
            have r2 := hx1.cell b2
            have r3 := hx1.cell b3
            have r4 := hx1.cell b4
            have r5 := hx1.cell b5
            have hws1 := hx1.size
            unfold OFcs at hown1
            go_wp2_with (first | (at_builtin; refine wpList_append_rsl _ rfl (.tmp 76) (.tmp 81) _ rfl wo.heap.size 35 i0 _ 6 104 Tryz.underlying37 hi0 hz0 hz1 hz2 rfl (by decide) _ out.length (flatC out) rfl (own_ext hown1 ((Ext.refl _).alloc _)) _ 1 (cellsC (⟨.slice zA zn zc, .slice zB zm zd, zf⟩ : Fc)) rfl (rsl_new rfl (by decide)) (cellsC_one (x := (⟨.slice zA zn zc, .slice zB zm zd, zf⟩ : Fc)) ⟨⟨_, _, _, rfl⟩, ⟨_, _, _, rfl⟩⟩) HML.out HBY.out ?_ ?_; (rw [size_alloc]; omega); intro v3 w3 hown3 hg3 hat3; (obtain ⟨o3A, o3c, ho3, -, -⟩ := (RSl.of_own hown3).2); subst ho3))
            have hx3 : Ext wo w3 := Ext.app (hx1.alloc _) hg3 (own_ext hown1 ((Ext.refl _).alloc _)) (Nat.le_refl _)
            go_roundw
            case rel => exact ⟨k + 1, true, out ++ [(⟨.slice zA zn zc, .slice zB zm zd, zf⟩ : Fc)], o3A, o3c, by rw [List.length_append]; rfl, by omega, by go_num, rfl, OFcs.snoc hown3, hx3, by have := HOL.out; simp; omega, Lib.hid ⟨(fun h => by cases h), fun _ => by
              have h := HI.out
              rw [HDK.out, List.map_cons] at h
              rw [List.map_append, List.append_assoc]
              exact h, fun z hz => by
              rcases List.mem_append.1 hz with hz | hz
              · exact HMO.out z hz
              · rw [List.mem_singleton.1 hz]; exact Or.inl HMZ.out⟩⟩
            case measure => simp [intOf]; omega
          | false =>
            have hinv' := hinv.out.1 rfl
            have HI := Lib.hid hinv'
            clear hinv hinv'
            by_cases hcl : cc < 0
            · have hcd := decide_eq_true hcl
              go_wp2
              refine wp_region_aft (by kernel_rfl) (by kernel_rfl) ?_
              repeat (first | go_big_quiet_step ((go_at_call 63; with_reducible exact quiet_call (HCMP.out _))) | quiet_step ((go_at_call 63; with_reducible exact quiet_call (HCMP.out _))))
              refine wpQuiet_nil ?_
              rintro _ ⟨d1, rfl⟩
              have hx1 := hxo.trans d1.ext
              have hown1 := hown2.ext d1.ext
              clear f0 f1 f2 f3 f4 f5 g0 g1 g2 g3 g4 g5
              have p0 := hx1.cell a0
              have p1 := hx1.cell a1
              have p2 := hx1.cell a2
              have p3 := hx1.cell a3
              have p4 := hx1.cell a4
              have p5 := hx1.cell a5
              have r0 := hx1.cell b0
              have r1 := hx1.cell b1
              have r2 := hx1.cell b2
              have r3 := hx1.cell b3
              have r4 := hx1.cell b4
              have r5 := hx1.cell b5
              have hws1 := hx1.size
              unfold OFcs at hown1
              go_wp2_with (first
                | (at_builtin; refine wpList_append_rsl _ rfl (.tmp 72) (.tmp 74) _ rfl wo.heap.size 35 i0 _ 6 104 Tryz.underlying37 hi0 hz0 hz1 hz2 rfl (by decide) _ out.length (flatC out) rfl (own_ext hown1 ((Ext.refl _).alloc _)) _ 1 (cellsC (⟨.slice yA yn yc, .slice yB ym yd, yf⟩ : Fc)) rfl (rsl_new rfl (by decide)) (cellsC_one (x := (⟨.slice yA yn yc, .slice yB ym yd, yf⟩ : Fc)) ⟨⟨_, _, _, rfl⟩, ⟨_, _, _, rfl⟩⟩) HML.out HBY.out ?_ ?_; (rw [size_alloc]; omega); intro v3 w3 hown3 hg3 hat3; (have hx3 : Ext wo w3 := Ext.app (hx1.alloc _) hg3 (own_ext hown1 ((Ext.refl _).alloc _)) (Nat.le_refl _)); (have s0 := hx3.cell a0); (have s1 := hx3.cell a1); (have s2 := hx3.cell a2); (have s3 := hx3.cell a3); (have s4 := hx3.cell a4); (have s5 := hx3.cell a5); (have hws3 := hx3.size); (obtain ⟨o3A, o3c, ho3, -, -⟩ := (RSl.of_own hown3).2); subst ho3)
                | (at_builtin; refine wpList_append_rsl _ rfl (.tmp 76) (.tmp 81) _ rfl wo.heap.size 35 i0 _ 6 104 Tryz.underlying37 hi0 hz0 hz1 hz2 rfl (by decide) _ (out.length + 1) (flatC out ++ cellsC (⟨.slice yA yn yc, .slice yB ym yd, yf⟩ : Fc)) rfl (own_ext hown3 ((Ext.refl _).alloc _)) _ 1 (cellsC (⟨.slice zA zn zc, .slice zB zm zd, zf⟩ : Fc)) rfl (rsl_new rfl (by decide)) (cellsC_one (x := (⟨.slice zA zn zc, .slice zB zm zd, zf⟩ : Fc)) ⟨⟨_, _, _, rfl⟩, ⟨_, _, _, rfl⟩⟩) HML2.out HBY2.out ?_ ?_; (rw [size_alloc]; omega); intro v4 w4 hown4 hg4 hat4; (have hx4 : Ext wo w4 := Ext.app (hx3.alloc _) hg4 (own_ext hown3 ((Ext.refl _).alloc _)) (Nat.le_refl _)); (obtain ⟨o4A, o4c, ho4, -, -⟩ := (RSl.of_own hown4).2); subst ho4))
              go_roundw
              case rel =>
                have e1 : w4.ownsRow wo.heap.size 35 6 (.slice o4A (out.length + 1 + 1) o4c) ((out ++ ([(⟨.slice yA yn yc, .slice yB ym yd, yf⟩ : Fc)] : List Fc)).length + 1) (flatC (out ++ ([(⟨.slice yA yn yc, .slice yB ym yd, yf⟩ : Fc)] : List Fc)) ++ cellsC (⟨.slice zA zn zc, .slice zB zm zd, zf⟩ : Fc)) := by rw [List.length_append, flatC_app, flatC_one]; exact hown4
                refine ⟨k + 1, true, (out ++ [(⟨.slice yA yn yc, .slice yB ym yd, yf⟩ : Fc)]) ++ [(⟨.slice zA zn zc, .slice zB zm zd, zf⟩ : Fc)], o4A, o4c, by simp only [List.length_append]; rfl, by omega, by go_num, rfl, OFcs.snoc e1, hx4, ?_, Lib.hid ⟨(fun h => by cases h), fun _ => ?_, fun z hz => ?_⟩⟩
                · have h1 := HI.out.1
                  rw [h1]; simp; omega
                · have h1 := HI.out
                  have h2 := HIA.out (fun x hx => by
                    rw [← List.map_take] at hx
                    obtain ⟨q, hq, rfl⟩ := List.mem_map.1 hx
                    exact h1.2 q hq) (by rw [HLT.out]; exact hcd)
                  rw [h2, ← List.map_take, ← List.map_drop, HDK.out, ← h1.1]
                  simp
                · rcases List.mem_append.1 hz with hz | hz
                  · rcases List.mem_append.1 hz with hz | hz
                    · exact HMO.out z hz
                    · rw [List.mem_singleton.1 hz]; exact Or.inr rfl
                  · rw [List.mem_singleton.1 hz]; exact Or.inl HMZ.out
              case measure => simp [intOf]; omega
            · have hcd := decide_eq_false hcl
              go_wp2
              refine wp_region_aft (by kernel_rfl) (by kernel_rfl) ?_
              repeat (first | go_big_quiet_step ((go_at_call 63; with_reducible exact quiet_call (HCMP.out _))) | quiet_step ((go_at_call 63; with_reducible exact quiet_call (HCMP.out _))))
              refine wpQuiet_nil ?_
              rintro _ ⟨d1, rfl⟩
              have hx1 := hxo.trans d1.ext
              have hown1 := hown2.ext d1.ext
              clear f0 f1 f2 f3 f4 f5 g0 g1 g2 g3 g4 g5
              have p0 := hx1.cell a0
              have p1 := hx1.cell a1
              have p2 := hx1.cell a2
              have p3 := hx1.cell a3
              have p4 := hx1.cell a4
              have p5 := hx1.cell a5
              have r0 := hx1.cell b0
              have r1 := hx1.cell b1
              have r2 := hx1.cell b2
              have r3 := hx1.cell b3
              have r4 := hx1.cell b4
              have r5 := hx1.cell b5
              have hws1 := hx1.size
              unfold OFcs at hown1
              go_wp2_with (first | (at_builtin; refine wpList_append_rsl _ rfl (.tmp 76) (.tmp 81) _ rfl wo.heap.size 35 i0 _ 6 104 Tryz.underlying37 hi0 hz0 hz1 hz2 rfl (by decide) _ out.length (flatC out) rfl (own_ext hown1 ((Ext.refl _).alloc _)) _ 1 (cellsC (⟨.slice zA zn zc, .slice zB zm zd, zf⟩ : Fc)) rfl (rsl_new rfl (by decide)) (cellsC_one (x := (⟨.slice zA zn zc, .slice zB zm zd, zf⟩ : Fc)) ⟨⟨_, _, _, rfl⟩, ⟨_, _, _, rfl⟩⟩) HML.out HBY.out ?_ ?_; (rw [size_alloc]; omega); intro v3 w3 hown3 hg3 hat3; (obtain ⟨o3A, o3c, ho3, -, -⟩ := (RSl.of_own hown3).2); subst ho3))
              have hx3 : Ext wo w3 := Ext.app (hx1.alloc _) hg3 (own_ext hown1 ((Ext.refl _).alloc _)) (Nat.le_refl _)
              go_roundw
              case rel =>
                refine ⟨k + 1, false, out ++ [(⟨.slice zA zn zc, .slice zB zm zd, zf⟩ : Fc)], o3A, o3c, by rw [List.length_append]; rfl, by omega, by go_num, rfl, OFcs.snoc hown3, hx3, by have := HOL.out; simp; omega, Lib.hid ⟨fun _ => ⟨by rw [HTK.out, HI.out.1], ?_⟩, (fun h => by cases h), fun z hz => ?_⟩⟩
                · intro y hy
                  rw [HTK.out] at hy
                  rcases List.mem_append.1 hy with hy | hy
                  · exact HI.out.2 y hy
                  · rw [List.mem_singleton.1 hy, HLT.out]; exact hcd
                · rcases List.mem_append.1 hz with hz | hz
                  · exact HMO.out z hz
                  · rw [List.mem_singleton.1 hz]; exact Or.inl HMZ.out
              case measure => simp [intOf]; omega
        · have hke : k = rest.length := by omega
          subst hke
          have hzz := hxo.heap HBX.out.2.2
          have hrdo : ∀ z, z ∈ rest ∨ z = (⟨.slice yA yn yc, .slice yB ym yd, yf⟩ : Fc) → RdC wo z ∧ awayC z (some (w.heap.size + 1 + 1)) := fun z hz => by
            rcases hz with hz | rfl
            · exact ⟨(HOLD.out z hz).ext HXR.out, awayC_new (HOLD.out z hz) (by omega)⟩
            · exact ⟨HYR.out.1, HYR.out.2.2 _ (HAN.out _ (by omega)) (by omega)⟩
          have HRO := Lib.hid hrdo
          have hwz : w.heap.size ≤ wo.heap.size := HXR.out.size
          have HRA : Hid (∀ q, q < w.heap.size → (∀ z ∈ l, awayC z (some q)) → awayC (⟨.slice xA xn xc, .slice xB xm xd, xf⟩ : Fc) (some q) → ∀ z, z ∈ rest ∨ z = (⟨.slice yA yn yc, .slice yB ym yd, yf⟩ : Fc) → awayC z (some q)) := Lib.hid fun q hq h1 h2 z hz => by
            rcases hz with hz | rfl
            · exact h1 z (HMEL.out z hz)
            · exact HYR.out.2.2 q ((HAW.out q).2 ⟨h1, h2⟩) (by omega)
          have hmo := hinv.out.2.2
          have HMO := Lib.hid hmo
          clear hrdo hmo
          cases done with
          | true =>
            have hinv' := hinv.out.2.1 rfl
            rw [List.drop_of_length_le (Nat.le_refl _), List.map_nil, List.append_nil] at hinv'
            have HF := Lib.hid (hinv'.trans HP.out.symm)
            have HOW := Lib.hid hown2
            have HXO := Lib.hid hxo
            clear hinv hinv' hown2 hxo
            go_wp2_with (first
              | (refine wpList_store_row rfl 46 (.tmp 4) (.tmp 90) rfl (w.heap.size + 1 + 1) _ rfl rfl _ _ hzz size_arc rfl oneArc ?_))
            ((try simp only [Exit.inBlock, Exit.then]); refine bodyPost_ret (results_cell_row rfl _ _ _ _ _ _ _ rfl (setRow_heap _ _ _ _ _ _ hzz) Tryz.underlying46 rfl size_arc) rfl ?_)
            exact ⟨_, out, rfl, HF.out, OFcs.mono (own_setRow HOW.out (by omega) _) hwz, fun z hz => ((HRO.out z (HMO.out z hz)).1.ext HXO.out).grown (setRow_grown _ _ _) (HRO.out z (HMO.out z hz)).2, fun q hq h1 h2 z hz => HRA.out q hq h1 h2 z (HMO.out z hz), Ext.setRow (HXR.out.trans HXO.out) (by omega) _⟩
          | false =>
            have hinv' := hinv.out.1 rfl
            rw [List.take_of_length_le (Nat.le_refl _)] at hinv'
            have hfin : (out ++ [(⟨.slice yA yn yc, .slice yB ym yd, yf⟩ : Fc)]).map Fc.f = ordF.put L xf := by
              rw [HP.out, ins_none ordF (rest.map Fc.f) _ (fun x hx => by
                obtain ⟨q, hq, rfl⟩ := List.mem_map.1 hx
                exact hinv'.2 q hq), hinv'.1]
              simp
            have HF := Lib.hid hfin
            obtain ⟨b0, b1, b2, b3, b4, b5⟩ := HY6.out
            have r0 := hxo.cell b0
            have r1 := hxo.cell b1
            have r2 := hxo.cell b2
            have r3 := hxo.cell b3
            have r4 := hxo.cell b4
            have r5 := hxo.cell b5
            have HML : Hid (out.length + 1 ≤ maxLen) := Lib.hid (by unfold maxLen; omega)
            have HBY : Hid ((out.length + 1) * 104 ≤ 140737488355328) := Lib.hid (by omega)
            have HZQ := Lib.hid hzz
            clear hfin hinv hinv' b0 b1 b2 b3 b4 b5 hzz
            go_wp2_with (first
              | (at_builtin; refine wpList_append_rsl _ rfl (.tmp 85) (.tmp 87) _ rfl wo.heap.size 35 i0 _ 6 104 Tryz.underlying37 hi0 hz0 hz1 hz2 rfl (by decide) _ out.length (flatC out) rfl (own_ext hown2 ((Ext.refl _).alloc _)) _ 1 (cellsC (⟨.slice yA yn yc, .slice yB ym yd, yf⟩ : Fc)) rfl (rsl_new rfl (by decide)) (cellsC_one (x := (⟨.slice yA yn yc, .slice yB ym yd, yf⟩ : Fc)) ⟨⟨_, _, _, rfl⟩, ⟨_, _, _, rfl⟩⟩) HML.out HBY.out ?_ ?_; (have := hxo.size; rw [size_alloc]; omega); intro v3 w3 hown3 hg3 hat3; (have hx3 : Ext wo w3 := Ext.app (hxo.alloc _) hg3 (own_ext hown2 ((Ext.refl _).alloc _)) (Nat.le_refl _)); (have hz3 := hx3.heap HBX.out.2.2); (obtain ⟨o3A, o3c, ho3, -, -⟩ := (RSl.of_own hown3).2); subst ho3)
              | (refine wpList_store_row rfl 46 (.tmp 4) (.tmp 90) rfl (w.heap.size + 1 + 1) _ rfl rfl _ _ hz3 size_arc rfl oneArc ?_))
            ((try simp only [Exit.inBlock, Exit.then]); refine bodyPost_ret (results_cell_row rfl _ _ _ _ _ _ _ rfl (setRow_heap _ _ _ _ _ _ hz3) Tryz.underlying46 rfl size_arc) rfl ?_)
            have hmem : ∀ z ∈ out ++ [(⟨.slice yA yn yc, .slice yB ym yd, yf⟩ : Fc)], z ∈ rest ∨ z = (⟨.slice yA yn yc, .slice yB ym yd, yf⟩ : Fc) := fun z hz => by
              rcases List.mem_append.1 hz with hz | hz
              · exact HMO.out z hz
              · exact Or.inr (List.mem_singleton.1 hz)
            exact ⟨_, out ++ [(⟨.slice yA yn yc, .slice yB ym yd, yf⟩ : Fc)], rfl, HF.out, OFcs.mono (own_setRow (OFcs.snoc (x := (⟨.slice yA yn yc, .slice yB ym yd, yf⟩ : Fc)) hown3) (by omega) _) hwz, fun z hz => ((HRO.out z (hmem z hz)).1.ext hx3).grown (setRow_grown _ _ _) (HRO.out z (hmem z hz)).2, fun q hq h1 h2 z hz => HRA.out q hq h1 h2 z (hmem z hz), Ext.setRow (HXR.out.trans hx3) (by omega) _⟩
end Go.Proofs.YtgecijhgonfldaaGreatDoor
namespace Go.Proofs.YtgecijhgonfldaaGreatDoor
open Go Go.RowKit
set_option linter.unusedVariables false
theorem foldF_sum : ∀ (l s : List Fd), sumE (l.foldl ordF.put s) ≤ sumE s + sumE l
  | [], s => by simp [sumE]
  | e :: t, s => by
    have h1 := foldF_sum t (ordF.put s e)
    have h2 := putF_sum s e
    rw [List.foldl_cons, sumE_cons]
    omega
theorem foldF_hok : ∀ (l s : List Fd), (∀ x ∈ l, hokF x) → (∀ x ∈ s, hokF x) → ∀ z ∈ l.foldl ordF.put s, hokF z
  | [], _, _, hs => hs
  | e :: t, s, hl, hs => foldF_hok t _ (fun x hx => hl x (List.mem_cons_of_mem _ hx)) (putF_hok hs (hl e (List.mem_cons_self ..)))
theorem canonF_sum (l : List Fd) : sumE (ordF.canon l) ≤ sumE l := by
  have h := foldF_sum l []
  have h0 : sumE [] = 0 := rfl
  show sumE (l.foldl ordF.put []) ≤ _
  omega
theorem canonF_hok {l : List Fd} (h : ∀ x ∈ l, hokF x) : ∀ z ∈ ordF.canon l, hokF z := foldF_hok l [] h (by simp)
theorem collF_hok {f : Fd} (h : fokS f) (hp : f.path.length ≤ 1000000) : hokF (collF f) := by
  have h1 := fokS_coll h
  refine ⟨⟨h1.1, ?_⟩, h1.2.2⟩
  show (f.path.map collapse).length ≤ 1000000
  rw [List.length_map]
  exact hp
theorem sumE_coll (l : List Fc) : sumE (l.map fun x => collF x.f) ≤ allE l := allE_coll l
end Go.Proofs.YtgecijhgonfldaaGreatDoor
