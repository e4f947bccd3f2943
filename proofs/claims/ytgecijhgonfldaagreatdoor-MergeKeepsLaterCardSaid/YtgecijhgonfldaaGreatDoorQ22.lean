/- Parts of the proof: contracts and plain laws that the statement needs. -/
import Derived.Test.YtgecijhgonfldaaGreatDoorQ02
import Derived.Test.YtgecijhgonfldaaGreatDoorQ08
import Derived.Test.YtgecijhgonfldaaGreatDoorQ21
import Derived.Test.YtgecijhgonfldaaGreatDoorRows
import Derived.Lib.LaidU8
import Derived.Lib.LaidTab
import Derived.ProofKit
import Derived.LaidMore
import Derived.OpenShut
import Derived.Test.YtgecijhgonfldaaGreatDoorTie
import Derived.Test.YtgecijhgonfldaaGreatDoorCards
import Derived.Lay
import Derived.SevenTiedAt
import Derived.Stop.Joined
import Derived.Lib.SmallJoins
import Derived.Deep.Fields
import Derived.Carry
import Derived.Test.YtgecijhgonfldaaGreatDoorQ00
import Derived.Test.YtgecijhgonfldaaGreatDoorQ10
namespace Go.Proofs.YtgecijhgonfldaaGreatDoor
open Go Go.RowKit
set_option linter.unusedVariables false
set_option maxRecDepth 100000 in
set_option maxHeartbeats 1000000 in
theorem refCheckE_0 (e : Ent) (w : World) (hs : eokS e) (h0 : validS e.id = false) :
    Calls Tryz.prog 19 #[.agg (eCells e).toArray] w fun x w' => x = .returned (.int .i64 22) ∧ Ext w w' := by
  obtain ⟨s0, s1, s2, s3⟩ := hs
  have V0 := Lib.hid (fun w' => refValid_any e.id w' (by omega))
  rw [h0] at V0
  clear s0 s1 s2 s3 h0
  obtain ⟨id, title, link, content, upd⟩ := e
  unfold eCells
  dsimp only at *
  go_enter Tryz.func19, Tryz.ntmps19
  go_wp2_with (first
        | (go_at_call 47; (with_reducible refine Calls.mono (V0.out _) ?_); rintro e w1 ⟨rfl, hx1⟩; (have k1 := hx1.boxed 1 _ rfl)))
  go_ret
  exact ⟨rfl, ((Ext.refl _).alloc _).trans hx1⟩
set_option maxRecDepth 100000 in
set_option maxHeartbeats 1000000 in
theorem refCheckE_1 (e : Ent) (w : World) (hs : eokS e) (h0 : validS e.id = true) (h1 : validS e.title = false) :
    Calls Tryz.prog 19 #[.agg (eCells e).toArray] w fun x w' => x = .returned (.int .i64 22) ∧ Ext w w' := by
  obtain ⟨s0, s1, s2, s3⟩ := hs
  have V0 := Lib.hid (fun w' => refValid_any e.id w' (by omega))
  rw [h0] at V0
  have V1 := Lib.hid (fun w' => refValid_any e.title w' (by omega))
  rw [h1] at V1
  clear s0 s1 s2 s3 h0 h1
  obtain ⟨id, title, link, content, upd⟩ := e
  unfold eCells
  dsimp only at *
  go_enter Tryz.func19, Tryz.ntmps19
  go_wp2_with (first
        | (go_at_call 47; (with_reducible refine Calls.mono (V0.out _) ?_); rintro e w1 ⟨rfl, hx1⟩; (have k1 := hx1.boxed 1 _ rfl))
        | (go_at_call 47; (with_reducible refine Calls.mono (V1.out _) ?_); rintro e w2 ⟨rfl, hx2⟩; (have hy2 := hx1.trans hx2); (have k2 := hy2.boxed 2 _ rfl)))
  go_ret
  exact ⟨rfl, ((Ext.refl _).alloc _).trans hy2⟩
set_option maxRecDepth 100000 in
set_option maxHeartbeats 1000000 in
theorem refCheckE_2 (e : Ent) (w : World) (hs : eokS e) (h0 : validS e.id = true) (h1 : validS e.title = true) (h2 : validS e.link = false) :
    Calls Tryz.prog 19 #[.agg (eCells e).toArray] w fun x w' => x = .returned (.int .i64 22) ∧ Ext w w' := by
  obtain ⟨s0, s1, s2, s3⟩ := hs
  have V0 := Lib.hid (fun w' => refValid_any e.id w' (by omega))
  rw [h0] at V0
  have V1 := Lib.hid (fun w' => refValid_any e.title w' (by omega))
  rw [h1] at V1
  have V2 := Lib.hid (fun w' => refValid_any e.link w' (by omega))
  rw [h2] at V2
  clear s0 s1 s2 s3 h0 h1 h2
  obtain ⟨id, title, link, content, upd⟩ := e
  unfold eCells
  dsimp only at *
  go_enter Tryz.func19, Tryz.ntmps19
  go_wp2_with (first
        | (go_at_call 47; (with_reducible refine Calls.mono (V0.out _) ?_); rintro e w1 ⟨rfl, hx1⟩; (have k1 := hx1.boxed 1 _ rfl))
        | (go_at_call 47; (with_reducible refine Calls.mono (V1.out _) ?_); rintro e w2 ⟨rfl, hx2⟩; (have hy2 := hx1.trans hx2); (have k2 := hy2.boxed 2 _ rfl))
        | (go_at_call 47; (with_reducible refine Calls.mono (V2.out _) ?_); rintro e w3 ⟨rfl, hx3⟩; (have hy3 := hy2.trans hx3); (have k3 := hy3.boxed 3 _ rfl)))
  go_ret
  exact ⟨rfl, ((Ext.refl _).alloc _).trans hy3⟩
set_option maxRecDepth 100000 in
set_option maxHeartbeats 1000000 in
theorem refCheckE_3 (e : Ent) (w : World) (hs : eokS e) (h0 : validS e.id = true) (h1 : validS e.title = true) (h2 : validS e.link = true) (h3 : validS e.content = false) :
    Calls Tryz.prog 19 #[.agg (eCells e).toArray] w fun x w' => x = .returned (.int .i64 22) ∧ Ext w w' := by
  obtain ⟨s0, s1, s2, s3⟩ := hs
  have V0 := Lib.hid (fun w' => refValid_any e.id w' (by omega))
  rw [h0] at V0
  have V1 := Lib.hid (fun w' => refValid_any e.title w' (by omega))
  rw [h1] at V1
  have V2 := Lib.hid (fun w' => refValid_any e.link w' (by omega))
  rw [h2] at V2
  have V3 := Lib.hid (fun w' => refValid_any e.content w' (by omega))
  rw [h3] at V3
  clear s0 s1 s2 s3 h0 h1 h2 h3
  obtain ⟨id, title, link, content, upd⟩ := e
  unfold eCells
  dsimp only at *
  go_enter Tryz.func19, Tryz.ntmps19
  go_wp2_with (first
        | (go_at_call 47; (with_reducible refine Calls.mono (V0.out _) ?_); rintro e w1 ⟨rfl, hx1⟩; (have k1 := hx1.boxed 1 _ rfl))
        | (go_at_call 47; (with_reducible refine Calls.mono (V1.out _) ?_); rintro e w2 ⟨rfl, hx2⟩; (have hy2 := hx1.trans hx2); (have k2 := hy2.boxed 2 _ rfl))
        | (go_at_call 47; (with_reducible refine Calls.mono (V2.out _) ?_); rintro e w3 ⟨rfl, hx3⟩; (have hy3 := hy2.trans hx3); (have k3 := hy3.boxed 3 _ rfl))
        | (go_at_call 47; (with_reducible refine Calls.mono (V3.out _) ?_); rintro e w4 ⟨rfl, hx4⟩; (have hy4 := hy3.trans hx4); (have k4 := hy4.boxed 0 _ rfl); (have k5 := hy4.boxed 4 _ rfl)))
  go_ret
  exact ⟨rfl, ((Ext.refl _).alloc _).trans hy4⟩
set_option maxRecDepth 100000 in
set_option maxHeartbeats 1000000 in
theorem refCheckE_4 (e : Ent) (w : World) (hs : eokS e) (h0 : validS e.id = true) (h1 : validS e.title = true) (h2 : validS e.link = true) (h3 : validS e.content = true) (h4 : e.id.toList.isEmpty = true) :
    Calls Tryz.prog 19 #[.agg (eCells e).toArray] w fun x w' => x = .returned (.int .i64 22) ∧ Ext w w' := by
  obtain ⟨s0, s1, s2, s3⟩ := hs
  have V0 := Lib.hid (fun w' => refValid_any e.id w' (by omega))
  rw [h0] at V0
  have V1 := Lib.hid (fun w' => refValid_any e.title w' (by omega))
  rw [h1] at V1
  have V2 := Lib.hid (fun w' => refValid_any e.link w' (by omega))
  rw [h2] at V2
  have V3 := Lib.hid (fun w' => refValid_any e.content w' (by omega))
  rw [h3] at V3
  clear s0 s1 s2 s3 h0 h1 h2 h3
  obtain ⟨id, title, link, content, upd⟩ := e
  simp only at h4
  unfold eCells
  dsimp only at *
  go_enter Tryz.func19, Tryz.ntmps19
  go_wp2_with (first
        | (go_at_call 47; (with_reducible refine Calls.mono (V0.out _) ?_); rintro e w1 ⟨rfl, hx1⟩; (have k1 := hx1.boxed 1 _ rfl))
        | (go_at_call 47; (with_reducible refine Calls.mono (V1.out _) ?_); rintro e w2 ⟨rfl, hx2⟩; (have hy2 := hx1.trans hx2); (have k2 := hy2.boxed 2 _ rfl))
        | (go_at_call 47; (with_reducible refine Calls.mono (V2.out _) ?_); rintro e w3 ⟨rfl, hx3⟩; (have hy3 := hy2.trans hx3); (have k3 := hy3.boxed 3 _ rfl))
        | (go_at_call 47; (with_reducible refine Calls.mono (V3.out _) ?_); rintro e w4 ⟨rfl, hx4⟩; (have hy4 := hy3.trans hx4); (have k4 := hy4.boxed 0 _ rfl); (have k5 := hy4.boxed 4 _ rfl)))
  go_ret
  exact ⟨rfl, ((Ext.refl _).alloc _).trans hy4⟩
set_option maxRecDepth 100000 in
set_option maxHeartbeats 1000000 in
theorem refCheckE_5 (e : Ent) (w : World) (hs : eokS e) (h0 : validS e.id = true) (h1 : validS e.title = true) (h2 : validS e.link = true) (h3 : validS e.content = true) (h4 : e.id.toList.isEmpty = false) (h5 : inT e.upd = false) :
    Calls Tryz.prog 19 #[.agg (eCells e).toArray] w fun x w' => x = .returned (.int .i64 22) ∧ Ext w w' := by
  obtain ⟨s0, s1, s2, s3⟩ := hs
  have V0 := Lib.hid (fun w' => refValid_any e.id w' (by omega))
  rw [h0] at V0
  have V1 := Lib.hid (fun w' => refValid_any e.title w' (by omega))
  rw [h1] at V1
  have V2 := Lib.hid (fun w' => refValid_any e.link w' (by omega))
  rw [h2] at V2
  have V3 := Lib.hid (fun w' => refValid_any e.content w' (by omega))
  rw [h3] at V3
  have VT := Lib.hid (fun w' => refInTime_any e.upd w')
  rw [h5] at VT
  clear s0 s1 s2 s3 h0 h1 h2 h3 h5
  obtain ⟨id, title, link, content, upd⟩ := e
  simp only at h4
  unfold eCells
  dsimp only at *
  go_enter Tryz.func19, Tryz.ntmps19
  go_wp2_with (first
        | (go_at_call 47; (with_reducible refine Calls.mono (V0.out _) ?_); rintro e w1 ⟨rfl, hx1⟩; (have k1 := hx1.boxed 1 _ rfl))
        | (go_at_call 47; (with_reducible refine Calls.mono (V1.out _) ?_); rintro e w2 ⟨rfl, hx2⟩; (have hy2 := hx1.trans hx2); (have k2 := hy2.boxed 2 _ rfl))
        | (go_at_call 47; (with_reducible refine Calls.mono (V2.out _) ?_); rintro e w3 ⟨rfl, hx3⟩; (have hy3 := hy2.trans hx3); (have k3 := hy3.boxed 3 _ rfl))
        | (go_at_call 47; (with_reducible refine Calls.mono (V3.out _) ?_); rintro e w4 ⟨rfl, hx4⟩; (have hy4 := hy3.trans hx4); (have k4 := hy4.boxed 0 _ rfl); (have k5 := hy4.boxed 4 _ rfl))
        | (go_at_call 48; (with_reducible refine Calls.mono (VT.out _) ?_); rintro e w5 ⟨rfl, rfl⟩))
  go_ret
  exact ⟨rfl, ((Ext.refl _).alloc _).trans hy4⟩
set_option maxRecDepth 100000 in
set_option maxHeartbeats 1000000 in
theorem refCheckE_6 (e : Ent) (w : World) (hs : eokS e) (h0 : validS e.id = true) (h1 : validS e.title = true) (h2 : validS e.link = true) (h3 : validS e.content = true) (h4 : e.id.toList.isEmpty = false) (h5 : inT e.upd = true) :
    Calls Tryz.prog 19 #[.agg (eCells e).toArray] w fun x w' => x = .returned (.int .i64 0) ∧ Ext w w' := by
  obtain ⟨s0, s1, s2, s3⟩ := hs
  have V0 := Lib.hid (fun w' => refValid_any e.id w' (by omega))
  rw [h0] at V0
  have V1 := Lib.hid (fun w' => refValid_any e.title w' (by omega))
  rw [h1] at V1
  have V2 := Lib.hid (fun w' => refValid_any e.link w' (by omega))
  rw [h2] at V2
  have V3 := Lib.hid (fun w' => refValid_any e.content w' (by omega))
  rw [h3] at V3
  have VT := Lib.hid (fun w' => refInTime_any e.upd w')
  rw [h5] at VT
  clear s0 s1 s2 s3 h0 h1 h2 h3 h5
  obtain ⟨id, title, link, content, upd⟩ := e
  simp only at h4
  unfold eCells
  dsimp only at *
  go_enter Tryz.func19, Tryz.ntmps19
  go_wp2_with (first
        | (go_at_call 47; (with_reducible refine Calls.mono (V0.out _) ?_); rintro e w1 ⟨rfl, hx1⟩; (have k1 := hx1.boxed 1 _ rfl))
        | (go_at_call 47; (with_reducible refine Calls.mono (V1.out _) ?_); rintro e w2 ⟨rfl, hx2⟩; (have hy2 := hx1.trans hx2); (have k2 := hy2.boxed 2 _ rfl))
        | (go_at_call 47; (with_reducible refine Calls.mono (V2.out _) ?_); rintro e w3 ⟨rfl, hx3⟩; (have hy3 := hy2.trans hx3); (have k3 := hy3.boxed 3 _ rfl))
        | (go_at_call 47; (with_reducible refine Calls.mono (V3.out _) ?_); rintro e w4 ⟨rfl, hx4⟩; (have hy4 := hy3.trans hx4); (have k4 := hy4.boxed 0 _ rfl); (have k5 := hy4.boxed 4 _ rfl))
        | (go_at_call 48; (with_reducible refine Calls.mono (VT.out _) ?_); rintro e w5 ⟨rfl, rfl⟩))
  go_ret
  exact ⟨rfl, ((Ext.refl _).alloc _).trans hy4⟩
theorem refCheckE_any (e : Ent) (w : World) (hs : eokS e) :
    Calls Tryz.prog 19 #[.agg (eCells e).toArray] w fun x w' => x = .returned (.int .i64 (if okE e = true then 0 else 22)) ∧ Ext w w' := by
  have hk : okE e = (validS e.id && (validS e.title && (validS e.link && (validS e.content && true))) && !decide (e.id = noS) && inT e.upd) := rfl
  cases h0 : validS e.id
  · rw [if_neg (by rw [hk, h0]; simp)]; exact refCheckE_0 e w hs h0
  cases h1 : validS e.title
  · rw [if_neg (by rw [hk, h1]; simp)]; exact refCheckE_1 e w hs h0 h1
  cases h2 : validS e.link
  · rw [if_neg (by rw [hk, h2]; simp)]; exact refCheckE_2 e w hs h0 h1 h2
  cases h3 : validS e.content
  · rw [if_neg (by rw [hk, h3]; simp)]; exact refCheckE_3 e w hs h0 h1 h2 h3
  by_cases h4 : e.id = noS
  · rw [if_neg (by rw [hk]; simp [h4])]; exact refCheckE_4 e w hs h0 h1 h2 h3 (by rw [h4, ByteArray.toList_eq]; rfl)
  cases h5 : inT e.upd
  · rw [if_neg (by rw [hk, h5]; simp)]; exact refCheckE_5 e w hs h0 h1 h2 h3 (ne_noS h4) h5
  · rw [if_pos (by rw [hk, h0, h1, h2, h3, h5]; simp [h4])]; exact refCheckE_6 e w hs h0 h1 h2 h3 (ne_noS h4) h5
end Go.Proofs.YtgecijhgonfldaaGreatDoor
namespace Go.Proofs.YtgecijhgonfldaaGreatDoor
open Go Go.RowKit
set_option linter.unusedVariables false
def aE (n : Int) : Ent := ⟨⟨#[97]⟩, noS, noS, noS, n⟩
def aF (n : Int) : Fd := ⟨[], ⟨#[102]⟩, noS, noS, 0, [aE n]⟩
def aX : Ent := ⟨⟨#[32, 120, 32]⟩, noS, noS, noS, 0⟩
def aZ : Fd := ⟨[], ⟨#[32]⟩, noS, noS, 0, []⟩
abbrev aS (n : Int) : Obj := .cells (eCells (aE n)).toArray 23
abbrev aC (b : Nat) (n : Int) : Fc := ⟨.slice none 0 0, .slice (some ⟨b, 0, none⟩) 1 1, aF n⟩
abbrev aW (w : World) (E : Obj) : World := (((w.alloc E).alloc (aS 1)).alloc (aS 2)).alloc (.cells (cellsC (aC (w.heap.size + 1) 1) ++ cellsC (aC (w.heap.size + 1 + 1) 2)).toArray 35)
end Go.Proofs.YtgecijhgonfldaaGreatDoor
namespace Go.Proofs.YtgecijhgonfldaaGreatDoor
open Go Go.RowKit
set_option linter.unusedVariables false
end Go.Proofs.YtgecijhgonfldaaGreatDoor
namespace Go.Proofs.YtgecijhgonfldaaGreatDoor
open Go Go.RowKit
set_option linter.unusedVariables false
abbrev laidAll : List (String × DataW Unit) := [("math/bits.deBruijn32tab", Rows.laid_math_bits_deBruijn32tab), ("math/bits.deBruijn64tab", Rows.laid_math_bits_deBruijn64tab), ("internal/strconv.uint64pow10", Rows.laid_internal_strconv_uint64pow10), ("unicode/utf8.acceptRanges", Rows.laid_unicode_utf8_acceptRanges), ("feedvault/jsonstring.letters", Rows.laid_feedvault_jsonstring_letters), ("unicode/utf8.first", Rows.laid_unicode_utf8_first)]
theorem laid_first : Rows.laid_unicode_utf8_first = Lib.firstData := by kernel_rfl
theorem laid_accept : (Rows.laid_unicode_utf8_acceptRanges : DataW Unit) = Lib.acceptData := by kernel_rfl
theorem laid_pow : (Rows.laid_internal_strconv_uint64pow10 : DataW Unit) = Lib.tabData .u64 Lib.pow10Tab := by kernel_rfl
theorem laid_let : (Rows.laid_feedvault_jsonstring_letters : DataW Unit) = .agg [.agg [.lit (.int .u8 98), .lit (.int .u8 8)], .agg [.lit (.int .u8 102), .lit (.int .u8 12)], .agg [.lit (.int .u8 110), .lit (.int .u8 10)], .agg [.lit (.int .u8 114), .lit (.int .u8 13)], .agg [.lit (.int .u8 116), .lit (.int .u8 9)]] := rfl
theorem gLet : Tryz.prog.globalNamed "feedvault/jsonstring.letters" = some 3 := by kernel_rfl
theorem gDb : Tryz.prog.globalNamed "math/bits.deBruijn64tab" = some 5 := by kernel_rfl
theorem heap_of_var {P : Program} {W : World} {n : String} {g : Nat} {cs : Array Value} (hg : P.globalNamed n = some g) (h : W.var? P n = some cs) : ∃ t fr, W.heap[g]? = some (.cells cs t fr) := by
  unfold World.var? at h
  rw [hg] at h
  simp only [Option.bind_some] at h
  split at h
  · rename_i cs' t fr hh
    injection h with h
    subst h
    exact ⟨t, fr, hh⟩
  · cases h
theorem list10 {α : Type} {l : List α} (h : l.length = 10) : ∃ a b c d e f g i j k, l = [a, b, c, d, e, f, g, i, j, k] := by
  match l, h with
  | [a, b, c, d, e, f, g, i, j, k], _ => exact ⟨a, b, c, d, e, f, g, i, j, k, rfl⟩
theorem env_of_laid {W : World} (h : laidMet Tryz.prog laidAll W) : Env W := by
  have r5 := Lib.laidMet.reads h (n := "unicode/utf8.first") (.tail _ (.tail _ (.tail _ (.tail _ (.tail _ (.head _))))))
  have r3 := Lib.laidMet.reads h (n := "unicode/utf8.acceptRanges") (.tail _ (.tail _ (.tail _ (.head _))))
  have r2 := Lib.laidMet.reads h (n := "internal/strconv.uint64pow10") (.tail _ (.tail _ (.head _)))
  have r4 := Lib.laidMet.reads h (n := "feedvault/jsonstring.letters") (.tail _ (.tail _ (.tail _ (.tail _ (.head _)))))
  have r1 := Lib.laidMet.reads h (n := "math/bits.deBruijn64tab") (.tail _ (.head _))
  rw [laid_first] at r5
  rw [laid_accept] at r3
  rw [laid_pow] at r2
  rw [laid_let] at r4
  refine ⟨?_, ?_, ?_, ?_⟩
  · exact utf8Tabs_of_reads (ρ := Tryz.lays197_ren) { Tryz.lays197 with } ⟨by kernel_rfl, by kernel_rfl, by kernel_rfl, by kernel_rfl, by kernel_rfl, by kernel_rfl, by kernel_rfl⟩ r5 r3
  · obtain ⟨g, t, cs, fuel, p, hg, hty, hvar, hd⟩ := r2
    obtain rfl := Option.some.inj (gPow.symm.trans hg)
    obtain rfl := Option.some.inj ((show (Tryz.prog.globals[2]?).map (·.type) = some 229 by kernel_rfl).symm.trans hty)
    unfold Lib.TabIs
    rw [hvar, ← Lib.cells_of_tab Tryz.underlying229 Tryz.underlying162 (by kernel_rfl) (by kernel_rfl) hd]
  · obtain ⟨g, t, cs, fuel, p, hg, hty, hvar, hd⟩ := r1
    obtain rfl := Option.some.inj (gDb.symm.trans hg)
    obtain ⟨t', fr, hh⟩ := heap_of_var gDb hvar
    have := (Array.getElem?_eq_some_iff.1 hh).1
    omega
  · obtain ⟨g, t, cs, fuel, p, hg, hty, hvar, hd⟩ := r4
    obtain rfl := Option.some.inj (gLet.symm.trans hg)
    obtain rfl := Option.some.inj ((show (Tryz.prog.globals[3]?).map (·.type) = some 232 by kernel_rfl).symm.trans hty)
    obtain ⟨t', fr, hh⟩ := heap_of_var gLet hvar
    have c2 : Tryz.prog.cellsOf 231 = 2 := by kernel_rfl
    have c10 : Tryz.prog.cellsOf 232 = 10 := by kernel_rfl
    obtain ⟨xs, m, hf, hx, hlen, hxl, hel⟩ := DataW.trod_array Tryz.underlying232 hd
    rw [c10] at hlen
    obtain ⟨l⟩ := cs
    obtain ⟨a, b, c, d, e, f, g, i, j, k, hl⟩ := list10 hlen
    have hl' : l = [a, b, c, d, e, f, g, i, j, k] := hl
    subst hl'
    have part : ∀ (q : Nat) (z1 z2 : Int), q < 5 →
        ([.agg [.lit (.int .u8 98), .lit (.int .u8 8)], .agg [.lit (.int .u8 102), .lit (.int .u8 12)], .agg [.lit (.int .u8 110), .lit (.int .u8 10)], .agg [.lit (.int .u8 114), .lit (.int .u8 13)], .agg [.lit (.int .u8 116), .lit (.int .u8 9)]] : List (DataW Unit))[q]? = some (Lib.tabData .u8 [z1, z2]) →
        (([a, b, c, d, e, f, g, i, j, k] : List Value).drop (q * 2)).take 2 = [.int .u8 z1, .int .u8 z2] := by
      intro q z1 z2 hq hz
      obtain ⟨fuel', dd, pp, hdi, he⟩ := Lib.array_elem Tryz.underlying232 hd q hq
      obtain rfl := Option.some.inj (hz.symm.trans hdi)
      rw [c2] at he
      have := Lib.cells_of_tab Tryz.underlying231 Tryz.underlying5 (by kernel_rfl) c2 he
      simpa using this
    have p0 := part 0 98 8 (by decide) rfl
    have p1 := part 1 102 12 (by decide) rfl
    have p2 := part 2 110 10 (by decide) rfl
    have p3 := part 3 114 13 (by decide) rfl
    have p4 := part 4 116 9 (by decide) rfl
    simp at p0 p1 p2 p3 p4
    obtain ⟨rfl, rfl⟩ := p0
    obtain ⟨rfl, rfl⟩ := p1
    obtain ⟨rfl, rfl⟩ := p2
    obtain ⟨rfl, rfl⟩ := p3
    obtain ⟨rfl, rfl⟩ := p4
    exact ⟨t', fr, hh⟩
end Go.Proofs.YtgecijhgonfldaaGreatDoor
namespace Go.Proofs.YtgecijhgonfldaaGreatDoor
open Go Go.ChangeShapes Go.WideShapes Go.ChangeAt Go.RowKit Go.Joins Go.Deep
theorem own1 : ownKnob Tryz.prog.godebug = none := by kernel_rfl
theorem laidOut1 : laidOutB Tryz.prog = true := by kernel_rfl
theorem array5 {α : Type} {cs : Array α} (h : cs.size = 5) : ∃ c0 c1 c2 c3 c4, cs = #[c0, c1, c2, c3, c4] := by
  obtain ⟨l⟩ := cs
  match l, h with
  | [c0, c1, c2, c3, c4], _ => exact ⟨c0, c1, c2, c3, c4, rfl⟩
section
variable {H : Type} {enc : TypeId × Value → H} {P : Program} {w : World} {base : Nat} {spare : Nat → Bool} {held : Bool}
end
end Go.Proofs.YtgecijhgonfldaaGreatDoor
