/- YtgecijhgonfldaaGreatDoor: texts Law1, Laid, Row1, put one behind the other. -/
import Derived.Test.YtgecijhgonfldaaGreatDoorRows
import Derived.Lib.LaidU8
import Derived.Lib.LaidTab
import Derived.ProofKit
import Derived.LaidMore
import Derived.OpenShut
import Derived.Test.YtgecijhgonfldaaGreatDoorTie
import Derived.Test.YtgecijhgonfldaaGreatDoorCards
import Derived.Lay
import Derived.SevenTiedAt
import Derived.Stop.Joined
import Derived.Lib.SmallJoins
import Derived.Deep.Fields
import Derived.Carry
import Derived.Test.YtgecijhgonfldaaGreatDoorM01
import Derived.Test.YtgecijhgonfldaaGreatDoorM02
import Derived.Test.YtgecijhgonfldaaGreatDoorM19
import Derived.Test.YtgecijhgonfldaaGreatDoorM35
/- NormalizeEntryMatchesReference: the law's contract. -/
namespace Go.Proofs.YtgecijhgonfldaaGreatDoor
open Go Go.RowKit
set_option linter.unusedVariables false

set_option maxRecDepth 100000 in
set_option maxHeartbeats 4000000 in
theorem law1_any (e : Ent) (w : World) (hE : Env w) (h0 : e.id.size ≤ 140737488351232) (h1 : e.title.size ≤ 140737488351232) (h2 : e.link.size ≤ 140737488351232) (h3 : e.content.size ≤ 140737488351232) :
    Calls Tryz.prog 3 #[.agg (eCells e).toArray] w fun x w' => x = .returned (.bool true) ∧ Ext w w' := by
  have HAL := Lib.hid (fun (w' : World) (h : Ext w w') => alive_any w' (hE.ext h))
  have hw1 : wrap64 ((e.id.size : Int) + (e.title.size : Int)) = (e.id.size : Int) + (e.title.size : Int) := wrap_ok _ ⟨by omega, by omega⟩
  have hw2 : wrap64 ((e.id.size : Int) + (e.title.size : Int) + (e.link.size : Int)) = (e.id.size : Int) + (e.title.size : Int) + (e.link.size : Int) := wrap_ok _ ⟨by omega, by omega⟩
  have hw3 : wrap64 ((e.id.size : Int) + (e.title.size : Int) + (e.link.size : Int) + (e.content.size : Int)) = (e.id.size : Int) + (e.title.size : Int) + (e.link.size : Int) + (e.content.size : Int) := wrap_ok _ ⟨by omega, by omega⟩
  by_cases hbig : 5000 < e.id.size + e.title.size + e.link.size + e.content.size
  · have hb : (5000 : Int) < (e.id.size : Int) + (e.title.size : Int) + (e.link.size : Int) + (e.content.size : Int) := by omega
    obtain ⟨id, title, link, content, upd⟩ := e
    simp only at h0 h1 h2 h3 hb hw1 hw2 hw3
    clear hbig
    unfold eCells
    dsimp only
    go_enter Tryz.func3, Tryz.ntmps3
    go_wp2_with (go_at_call 16; (have hz := HAL.out (w.alloc (.cells #[.string id, .string title, .string link, .string content, .int .i64 upd] 23)) ((Ext.refl w).alloc _)); (with_reducible refine Calls.mono hz ?_); clear hz; rintro e w1 ⟨rfl, hx1⟩)
    go_ret
    exact ⟨rfl, ((Ext.refl _).alloc _).trans hx1⟩
  · have hs : eokS e := ⟨by omega, by omega, by omega, by omega⟩
    have hb : ¬ (5000 : Int) < (e.id.size : Int) + (e.title.size : Int) + (e.link.size : Int) + (e.content.size : Int) := by omega
    have HE1 := Lib.hid (fun (w' : World) (h : Ext w w') => normEntry_any e w' (hE.ext h) hs)
    have HR1 := Lib.hid (fun (w' : World) (h : Ext w w') => refEntry_any e w' (hE.ext h) hs)
    have hok : errE e = 0 → okE (normE e) = true ∧ eokS (normE e) := fun h => by
      have h2 : normE e = collE e := by unfold normE; rw [if_pos h]
      rw [h2]
      refine ⟨okE_coll h, ?_⟩
      obtain ⟨a, b, c, d⟩ := hs
      exact ⟨Nat.le_trans (collapse_size _) a, Nat.le_trans (collapse_size _) b, Nat.le_trans (collapse_size _) c, Nat.le_trans (collapse_size _) d⟩
    obtain ⟨E, hEr⟩ : ∃ E, errE e = E := ⟨_, rfl⟩
    obtain ⟨N, hN⟩ : ∃ N, normE e = N := ⟨_, rfl⟩
    simp only [hEr, hN] at HE1 HR1 hok
    clear hEr hN hbig hs
    by_cases hE0 : E = 0
    · subst hE0
      obtain ⟨hk, hsN⟩ := hok rfl
      obtain ⟨h4, h5⟩ := coll_okE hk
      have h6 : normE N = N := by unfold normE; rw [if_pos h4, h5]
      have HE2 := Lib.hid (fun (w' : World) (h : Ext w w') => normEntry_any N w' (hE.ext h) hsN)
      have HCK := Lib.hid (fun (w' : World) => refCheckE_any N w' hsN)
      simp only [h4, h6] at HE2
      simp only [hk, if_true] at HCK
      clear hk hsN h4 h5 h6 hok
      obtain ⟨id, title, link, content, upd⟩ := e
      obtain ⟨nid, ntitle, nlink, ncontent, nupd⟩ := N
      simp only at h0 h1 h2 h3 hb hw1 hw2 hw3
      unfold eCells at *
      dsimp only at *
      go_enter Tryz.func3, Tryz.ntmps3
      go_wp2_with (first
        | (go_at_call 17; (have hz := HE1.out (w.alloc (.cells #[.string id, .string title, .string link, .string content, .int .i64 upd] 23)) ((Ext.refl w).alloc _)); (with_reducible refine Calls.mono hz ?_); clear hz; rintro e w1 ⟨rfl, hx1⟩; (have hx1' := (((Ext.refl w).alloc (.cells #[.string id, .string title, .string link, .string content, .int .i64 upd] 23)).trans hx1).alloc (.cells #[.string nid, .string ntitle, .string nlink, .string ncontent, .int .i64 nupd] 23)); (have c0 := (hx1.alloc (.cells #[.string nid, .string ntitle, .string nlink, .string ncontent, .int .i64 nupd] 23)).boxed 0 _ rfl); (have c1 := (hx1.alloc (.cells #[.string nid, .string ntitle, .string nlink, .string ncontent, .int .i64 nupd] 23)).boxed 1 _ rfl); (have c2 := (hx1.alloc (.cells #[.string nid, .string ntitle, .string nlink, .string ncontent, .int .i64 nupd] 23)).boxed 2 _ rfl); (have c3 := (hx1.alloc (.cells #[.string nid, .string ntitle, .string nlink, .string ncontent, .int .i64 nupd] 23)).boxed 3 _ rfl); (have c4 := (hx1.alloc (.cells #[.string nid, .string ntitle, .string nlink, .string ncontent, .int .i64 nupd] 23)).boxed 4 _ rfl))
        | (go_at_call 18; (have hz := HR1.out (w1.alloc (.cells #[.string nid, .string ntitle, .string nlink, .string ncontent, .int .i64 nupd] 23)) hx1'); (with_reducible refine Calls.mono hz ?_); clear hz; rintro e w2 ⟨rfl, hx2⟩; (have hx2' := (hx1'.trans hx2).alloc (.cells #[.string nid, .string ntitle, .string nlink, .string ncontent, .int .i64 nupd] 23)); (have d0 := (hx2.alloc (.cells #[.string nid, .string ntitle, .string nlink, .string ncontent, .int .i64 nupd] 23)).boxed 0 _ rfl); (have d1 := (hx2.alloc (.cells #[.string nid, .string ntitle, .string nlink, .string ncontent, .int .i64 nupd] 23)).boxed 1 _ rfl); (have d2 := (hx2.alloc (.cells #[.string nid, .string ntitle, .string nlink, .string ncontent, .int .i64 nupd] 23)).boxed 2 _ rfl); (have d3 := (hx2.alloc (.cells #[.string nid, .string ntitle, .string nlink, .string ncontent, .int .i64 nupd] 23)).boxed 3 _ rfl); (have d4 := (hx2.alloc (.cells #[.string nid, .string ntitle, .string nlink, .string ncontent, .int .i64 nupd] 23)).boxed 4 _ rfl); (have e0 := (Ext.refl (w2.alloc (.cells #[.string nid, .string ntitle, .string nlink, .string ncontent, .int .i64 nupd] 23))).boxed 0 _ rfl); (have e1 := (Ext.refl (w2.alloc (.cells #[.string nid, .string ntitle, .string nlink, .string ncontent, .int .i64 nupd] 23))).boxed 1 _ rfl); (have e2 := (Ext.refl (w2.alloc (.cells #[.string nid, .string ntitle, .string nlink, .string ncontent, .int .i64 nupd] 23))).boxed 2 _ rfl); (have e3 := (Ext.refl (w2.alloc (.cells #[.string nid, .string ntitle, .string nlink, .string ncontent, .int .i64 nupd] 23))).boxed 3 _ rfl); (have e4 := (Ext.refl (w2.alloc (.cells #[.string nid, .string ntitle, .string nlink, .string ncontent, .int .i64 nupd] 23))).boxed 4 _ rfl))
        | (go_at_call 17; (have hz := HE2.out (w2.alloc (.cells #[.string nid, .string ntitle, .string nlink, .string ncontent, .int .i64 nupd] 23)) hx2'); (with_reducible refine Calls.mono hz ?_); clear hz; rintro e w4 ⟨rfl, hx4⟩; (have hx4' := (hx2'.trans hx4).alloc (.cells #[.string nid, .string ntitle, .string nlink, .string ncontent, .int .i64 nupd] 23)); (have hy4 := ((hx2.alloc (.cells #[.string nid, .string ntitle, .string nlink, .string ncontent, .int .i64 nupd] 23)).trans hx4).alloc (.cells #[.string nid, .string ntitle, .string nlink, .string ncontent, .int .i64 nupd] 23)))
        | (go_at_call 16; (have hz := HAL.out (w4.alloc (.cells #[.string nid, .string ntitle, .string nlink, .string ncontent, .int .i64 nupd] 23)) hx4'); (with_reducible refine Calls.mono hz ?_); clear hz; rintro e w5 ⟨rfl, hx5⟩; (have hy5 := hy4.trans hx5); (have f0 := hy5.boxed 0 _ rfl); (have f1 := hy5.boxed 1 _ rfl); (have f2 := hy5.boxed 2 _ rfl); (have f3 := hy5.boxed 3 _ rfl); (have f4 := hy5.boxed 4 _ rfl); (have g0 := hx5.boxed 0 _ rfl); (have g1 := hx5.boxed 1 _ rfl); (have g2 := hx5.boxed 2 _ rfl); (have g3 := hx5.boxed 3 _ rfl); (have g4 := hx5.boxed 4 _ rfl))
        | (go_at_call 19; (have hz := HCK.out w5); (with_reducible refine Calls.mono hz ?_); clear hz; rintro e w6 ⟨rfl, hx6⟩))
      go_ret
      exact ⟨rfl, (hx4'.trans hx5).trans hx6⟩
    · have hb0 : ((E : Int) != 0) = true := by simp; omega
      clear hok hE0
      obtain ⟨id, title, link, content, upd⟩ := e
      obtain ⟨nid, ntitle, nlink, ncontent, nupd⟩ := N
      simp only at h0 h1 h2 h3 hb hw1 hw2 hw3
      unfold eCells at *
      dsimp only at *
      go_enter Tryz.func3, Tryz.ntmps3
      go_wp2_with (first
        | (go_at_call 17; (have hz := HE1.out (w.alloc (.cells #[.string id, .string title, .string link, .string content, .int .i64 upd] 23)) ((Ext.refl w).alloc _)); (with_reducible refine Calls.mono hz ?_); clear hz; rintro e w1 ⟨rfl, hx1⟩; (have hx1' := (((Ext.refl w).alloc (.cells #[.string id, .string title, .string link, .string content, .int .i64 upd] 23)).trans hx1).alloc (.cells #[.string nid, .string ntitle, .string nlink, .string ncontent, .int .i64 nupd] 23)); (have c0 := (hx1.alloc (.cells #[.string nid, .string ntitle, .string nlink, .string ncontent, .int .i64 nupd] 23)).boxed 0 _ rfl); (have c1 := (hx1.alloc (.cells #[.string nid, .string ntitle, .string nlink, .string ncontent, .int .i64 nupd] 23)).boxed 1 _ rfl); (have c2 := (hx1.alloc (.cells #[.string nid, .string ntitle, .string nlink, .string ncontent, .int .i64 nupd] 23)).boxed 2 _ rfl); (have c3 := (hx1.alloc (.cells #[.string nid, .string ntitle, .string nlink, .string ncontent, .int .i64 nupd] 23)).boxed 3 _ rfl); (have c4 := (hx1.alloc (.cells #[.string nid, .string ntitle, .string nlink, .string ncontent, .int .i64 nupd] 23)).boxed 4 _ rfl))
        | (go_at_call 18; (have hz := HR1.out (w1.alloc (.cells #[.string nid, .string ntitle, .string nlink, .string ncontent, .int .i64 nupd] 23)) hx1'); (with_reducible refine Calls.mono hz ?_); clear hz; rintro e w2 ⟨rfl, hx2⟩; (have hx2' := (hx1'.trans hx2).alloc (.cells #[.string nid, .string ntitle, .string nlink, .string ncontent, .int .i64 nupd] 23)); (have d0 := (hx2.alloc (.cells #[.string nid, .string ntitle, .string nlink, .string ncontent, .int .i64 nupd] 23)).boxed 0 _ rfl); (have d1 := (hx2.alloc (.cells #[.string nid, .string ntitle, .string nlink, .string ncontent, .int .i64 nupd] 23)).boxed 1 _ rfl); (have d2 := (hx2.alloc (.cells #[.string nid, .string ntitle, .string nlink, .string ncontent, .int .i64 nupd] 23)).boxed 2 _ rfl); (have d3 := (hx2.alloc (.cells #[.string nid, .string ntitle, .string nlink, .string ncontent, .int .i64 nupd] 23)).boxed 3 _ rfl); (have d4 := (hx2.alloc (.cells #[.string nid, .string ntitle, .string nlink, .string ncontent, .int .i64 nupd] 23)).boxed 4 _ rfl); (have e0 := (Ext.refl (w2.alloc (.cells #[.string nid, .string ntitle, .string nlink, .string ncontent, .int .i64 nupd] 23))).boxed 0 _ rfl); (have e1 := (Ext.refl (w2.alloc (.cells #[.string nid, .string ntitle, .string nlink, .string ncontent, .int .i64 nupd] 23))).boxed 1 _ rfl); (have e2 := (Ext.refl (w2.alloc (.cells #[.string nid, .string ntitle, .string nlink, .string ncontent, .int .i64 nupd] 23))).boxed 2 _ rfl); (have e3 := (Ext.refl (w2.alloc (.cells #[.string nid, .string ntitle, .string nlink, .string ncontent, .int .i64 nupd] 23))).boxed 3 _ rfl); (have e4 := (Ext.refl (w2.alloc (.cells #[.string nid, .string ntitle, .string nlink, .string ncontent, .int .i64 nupd] 23))).boxed 4 _ rfl))
        | (go_at_call 16; (have hz := HAL.out (w2.alloc (.cells #[.string nid, .string ntitle, .string nlink, .string ncontent, .int .i64 nupd] 23)) hx2'); (with_reducible refine Calls.mono hz ?_); clear hz; rintro e w5 ⟨rfl, hx5⟩))
      go_ret
      exact ⟨rfl, hx2'.trans hx5⟩
end Go.Proofs.YtgecijhgonfldaaGreatDoor
/- From the rows' condition on listed variables to the tables that the walks use; the worlds behind a call that keeps old memory. -/
namespace Go.Proofs.YtgecijhgonfldaaGreatDoor
open Go Go.RowKit
set_option linter.unusedVariables false

abbrev laidAll : List (String × DataW Unit) := [("math/bits.deBruijn32tab", Rows.laid_math_bits_deBruijn32tab), ("math/bits.deBruijn64tab", Rows.laid_math_bits_deBruijn64tab), ("internal/strconv.uint64pow10", Rows.laid_internal_strconv_uint64pow10), ("unicode/utf8.acceptRanges", Rows.laid_unicode_utf8_acceptRanges), ("feedvault/jsonstring.letters", Rows.laid_feedvault_jsonstring_letters), ("unicode/utf8.first", Rows.laid_unicode_utf8_first)]
theorem laid_first : Rows.laid_unicode_utf8_first = Lib.firstData := by kernel_rfl
theorem laid_accept : (Rows.laid_unicode_utf8_acceptRanges : DataW Unit) = Lib.acceptData := by kernel_rfl
theorem laid_pow : (Rows.laid_internal_strconv_uint64pow10 : DataW Unit) = Lib.tabData .u64 Lib.pow10Tab := by kernel_rfl
theorem laid_let : (Rows.laid_feedvault_jsonstring_letters : DataW Unit) = .agg [.agg [.lit (.int .u8 98), .lit (.int .u8 8)], .agg [.lit (.int .u8 102), .lit (.int .u8 12)], .agg [.lit (.int .u8 110), .lit (.int .u8 10)], .agg [.lit (.int .u8 114), .lit (.int .u8 13)], .agg [.lit (.int .u8 116), .lit (.int .u8 9)]] := rfl
theorem gLet : Tryz.prog.globalNamed "feedvault/jsonstring.letters" = some 3 := by kernel_rfl
theorem gDb : Tryz.prog.globalNamed "math/bits.deBruijn64tab" = some 5 := by kernel_rfl
theorem heap_of_var {P : Program} {W : World} {n : String} {g : Nat} {cs : Array Value} (hg : P.globalNamed n = some g) (h : W.var? P n = some cs) : ∃ t fr, W.heap[g]? = some (.cells cs t fr) := by
  unfold World.var? at h
  rw [hg] at h
  simp only [Option.bind_some] at h
  split at h
  · rename_i cs' t fr hh
    injection h with h
    subst h
    exact ⟨t, fr, hh⟩
  · cases h
theorem list10 {α : Type} {l : List α} (h : l.length = 10) : ∃ a b c d e f g i j k, l = [a, b, c, d, e, f, g, i, j, k] := by
  match l, h with
  | [a, b, c, d, e, f, g, i, j, k], _ => exact ⟨a, b, c, d, e, f, g, i, j, k, rfl⟩
theorem env_of_laid {W : World} (h : laidMet Tryz.prog laidAll W) : Env W := by
  have r5 := Lib.laidMet.reads h (n := "unicode/utf8.first") (.tail _ (.tail _ (.tail _ (.tail _ (.tail _ (.head _))))))
  have r3 := Lib.laidMet.reads h (n := "unicode/utf8.acceptRanges") (.tail _ (.tail _ (.tail _ (.head _))))
  have r2 := Lib.laidMet.reads h (n := "internal/strconv.uint64pow10") (.tail _ (.tail _ (.head _)))
  have r4 := Lib.laidMet.reads h (n := "feedvault/jsonstring.letters") (.tail _ (.tail _ (.tail _ (.tail _ (.head _)))))
  have r1 := Lib.laidMet.reads h (n := "math/bits.deBruijn64tab") (.tail _ (.head _))
  rw [laid_first] at r5
  rw [laid_accept] at r3
  rw [laid_pow] at r2
  rw [laid_let] at r4
  refine ⟨?_, ?_, ?_, ?_⟩
  · exact utf8Tabs_of_reads (ρ := Tryz.lays197_ren) { Tryz.lays197 with } ⟨by kernel_rfl, by kernel_rfl, by kernel_rfl, by kernel_rfl, by kernel_rfl, by kernel_rfl, by kernel_rfl⟩ r5 r3
  · obtain ⟨g, t, cs, fuel, p, hg, hty, hvar, hd⟩ := r2
    obtain rfl := Option.some.inj (gPow.symm.trans hg)
    obtain rfl := Option.some.inj ((show (Tryz.prog.globals[2]?).map (·.type) = some 229 by kernel_rfl).symm.trans hty)
    unfold Lib.TabIs
    rw [hvar, ← Lib.cells_of_tab Tryz.underlying229 Tryz.underlying162 (by kernel_rfl) (by kernel_rfl) hd]
  · obtain ⟨g, t, cs, fuel, p, hg, hty, hvar, hd⟩ := r1
    obtain rfl := Option.some.inj (gDb.symm.trans hg)
    obtain ⟨t', fr, hh⟩ := heap_of_var gDb hvar
    have := (Array.getElem?_eq_some_iff.1 hh).1
    omega
  · obtain ⟨g, t, cs, fuel, p, hg, hty, hvar, hd⟩ := r4
    obtain rfl := Option.some.inj (gLet.symm.trans hg)
    obtain rfl := Option.some.inj ((show (Tryz.prog.globals[3]?).map (·.type) = some 232 by kernel_rfl).symm.trans hty)
    obtain ⟨t', fr, hh⟩ := heap_of_var gLet hvar
    have c2 : Tryz.prog.cellsOf 231 = 2 := by kernel_rfl
    have c10 : Tryz.prog.cellsOf 232 = 10 := by kernel_rfl
    obtain ⟨xs, m, hf, hx, hlen, hxl, hel⟩ := DataW.trod_array Tryz.underlying232 hd
    rw [c10] at hlen
    obtain ⟨l⟩ := cs
    obtain ⟨a, b, c, d, e, f, g, i, j, k, hl⟩ := list10 hlen
    have hl' : l = [a, b, c, d, e, f, g, i, j, k] := hl
    subst hl'
    have part : ∀ (q : Nat) (z1 z2 : Int), q < 5 →
        ([.agg [.lit (.int .u8 98), .lit (.int .u8 8)], .agg [.lit (.int .u8 102), .lit (.int .u8 12)], .agg [.lit (.int .u8 110), .lit (.int .u8 10)], .agg [.lit (.int .u8 114), .lit (.int .u8 13)], .agg [.lit (.int .u8 116), .lit (.int .u8 9)]] : List (DataW Unit))[q]? = some (Lib.tabData .u8 [z1, z2]) →
        (([a, b, c, d, e, f, g, i, j, k] : List Value).drop (q * 2)).take 2 = [.int .u8 z1, .int .u8 z2] := by
      intro q z1 z2 hq hz
      obtain ⟨fuel', dd, pp, hdi, he⟩ := Lib.array_elem Tryz.underlying232 hd q hq
      obtain rfl := Option.some.inj (hz.symm.trans hdi)
      rw [c2] at he
      have := Lib.cells_of_tab Tryz.underlying231 Tryz.underlying5 (by kernel_rfl) c2 he
      simpa using this
    have p0 := part 0 98 8 (by decide) rfl
    have p1 := part 1 102 12 (by decide) rfl
    have p2 := part 2 110 10 (by decide) rfl
    have p3 := part 3 114 13 (by decide) rfl
    have p4 := part 4 116 9 (by decide) rfl
    simp at p0 p1 p2 p3 p4
    obtain ⟨rfl, rfl⟩ := p0
    obtain ⟨rfl, rfl⟩ := p1
    obtain ⟨rfl, rfl⟩ := p2
    obtain ⟨rfl, rfl⟩ := p3
    obtain ⟨rfl, rfl⟩ := p4
    exact ⟨t', fr, hh⟩
end Go.Proofs.YtgecijhgonfldaaGreatDoor
/- NormalizeEntryMatchesReference: the row and the tied card, from the law's contract. -/
namespace Go.Proofs.YtgecijhgonfldaaGreatDoor
open Go Go.ChangeShapes Go.WideShapes Go.ChangeAt Go.RowKit Go.Joins Go.Deep

theorem own1 : ownKnob Tryz.prog.godebug = none := by kernel_rfl
theorem laidOut1 : laidOutB Tryz.prog = true := by kernel_rfl
theorem array5 {α : Type} {cs : Array α} (h : cs.size = 5) : ∃ c0 c1 c2 c3 c4, cs = #[c0, c1, c2, c3, c4] := by
  obtain ⟨l⟩ := cs
  match l, h with
  | [c0, c1, c2, c3, c4], _ => exact ⟨c0, c1, c2, c3, c4, rfl⟩
section
variable {H : Type} {enc : TypeId × Value → H} {P : Program} {w : World} {base : Nat} {spare : Nat → Bool} {held : Bool}
/-- a structure of five fields of one cell each, opened -/
theorem open_agg5 {r : Reach} {b0 : Nat} {t : TypeId} {f0 f1 f2 f3 f4 : Field} {v : Value} {d : DataW H} {p : List MemPlace} (hs : P.underlying t = some (.struct #[f0, f1, f2, f3, f4])) (hone : oneCellFields P #[f0, f1, f2, f3, f4] = true) (hC : P.cellsOf t = 5)
    (hv : Value.okWide P w r b0 t v) (h : DataW.Trod enc P w base spare held t v d p) :
    ∃ (v0 v1 v2 v3 v4 : Value) (y0 y1 y2 y3 y4 : DataW H × List MemPlace) (n : Nat), v = .agg #[v0, v1, v2, v3, v4] ∧ d = .agg [y0.1, y1.1, y2.1, y3.1, y4.1] ∧
      DataW.trod enc P w base spare held n f0.type [v0] = some y0 ∧ DataW.trod enc P w base spare held n f1.type [v1] = some y1 ∧ DataW.trod enc P w base spare held n f2.type [v2] = some y2 ∧ DataW.trod enc P w base spare held n f3.type [v3] = some y3 ∧ DataW.trod enc P w base spare held n f4.type [v4] = some y4 := by
  obtain ⟨cs, rfl, hsz⟩ := okWide_struct hs hv
  obtain ⟨c0, c1, c2, c3, c4, rfl⟩ := array5 (hsz.trans hC)
  obtain ⟨fuel, hf⟩ := h
  obtain ⟨xs, n, _, hx, hl, hlen, hall⟩ := DataW.trod_struct hs hf
  obtain ⟨o0, k0⟩ := hone_of hone 0 f0 rfl
  obtain ⟨o1, k1⟩ := hone_of hone 1 f1 rfl
  obtain ⟨o2, k2⟩ := hone_of hone 2 f2 rfl
  obtain ⟨o3, k3⟩ := hone_of hone 3 f3 rfl
  obtain ⟨o4, k4⟩ := hone_of hone 4 f4 rfl
  match xs, hlen with
  | [y0, y1, y2, y3, y4], _ =>
    exact ⟨c0, c1, c2, c3, c4, y0, y1, y2, y3, y4, n, rfl, by simpa using (Prod.mk.inj hx).1, by simpa [Value.cells, o0, k0] using hall 0 f0 rfl, by simpa [Value.cells, o1, k1] using hall 1 f1 rfl, by simpa [Value.cells, o2, k2] using hall 2 f2 rfl, by simpa [Value.cells, o3, k3] using hall 3 f3 rfl, by simpa [Value.cells, o4, k4] using hall 4 f4 rfl⟩
end

set_option maxRecDepth 100000 in
theorem lifted1 (os : Os) (started : os.Started) (H : Type) (enc : TypeId × Value → H) :
    ReturnsInHanded {} Tryz.checked os 3 .any (fun w args => (Rows.normalizeEntryMatchesReferenceSpec.pre enc Tryz.prog Tryz.f3 [] false w args ∧ laidMetH Tryz.prog laidAll w) ∧ sizedMet enc Tryz.prog Tryz.f3 (OpenSpec.ofChange Rows.normalizeEntryMatchesReferenceSpec) false w args)
      (Rows.normalizeEntryMatchesReferenceSpec.post enc Tryz.prog Tryz.f3 false true false false) := by
  refine returnsInHanded_of_change_and (C := Tryz.checked) (X := fun w _ => laidMetH Tryz.prog laidAll w) (fun _ _ _ hh h => h.of_heap hh) own1 started (by kernel_rfl) Tryz.func3
    (ChangeSpec.witness_shaped (enc := enc) (C := Tryz.checked) (os := os) (X := fun w _ => laidMetH Tryz.prog laidAll w) false (World.laidAll Tryz.prog os laidAll) #[.agg #[.string ⟨#[]⟩, .string ⟨#[]⟩, .string ⟨#[]⟩, .string ⟨#[]⟩, .int .i64 0]] 8 (World.laidAll_os _ _ _)
      (World.shaped_of_ZipB (by kernel_rfl) (by kernel_rfl)) (by kernel_rfl) (by kernel_rfl) (by kernel_rfl)
      (by rw [MakeChecks.laidMetH_plain _ _ _ (by kernel_rfl)]; exact laidMet_laidAll _ (by kernel_rfl) (by kernel_rfl))) ?_
  intro W base args ds gs before hval0 hW hc hsz hL _
  have hval : ∀ (j : Nat) t v, Tryz.f3.params[j]? = some t → args[j]? = some v → Value.okWide Tryz.prog W .any base t v := hval0
  have hW' := hW
  obtain ⟨p, q, hA0, hV, rfl, _, _⟩ := hW
  have hA : DataW.TrodAll enc Tryz.prog W 0 (fun _ => true) true Tryz.f3.params.toList args.toList ds p := hA0
  rw [Tryz.params3] at hA hval
  obtain ⟨v0, d0, rfl, rfl, h0⟩ := trodAll_one hA
  obtain ⟨rfl, rfl⟩ := trodVars_none hV
  have h0k := h0
  obtain ⟨c0, c1, c2, c3, c4, y0, y1, y2, y3, y4, n, rfl, hd, k0, k1, k2, k3, k4⟩ := open_agg5 Tryz.underlying23 (by kernel_rfl) (by kernel_rfl) (hval 0 23 v0 rfl rfl) h0
  rw [MakeChecks.laidMetH_plain _ _ _ (by kernel_rfl)] at hL
  have hE := env_of_laid hL
  obtain ⟨s0, e0, w0, b0⟩ := DataW.trod_string Tryz.underlying9 k0
  obtain ⟨s1, e1, w1, b1⟩ := DataW.trod_string Tryz.underlying9 k1
  obtain ⟨s2, e2, w2, b2⟩ := DataW.trod_string Tryz.underlying9 k2
  obtain ⟨s3, e3, w3, b3⟩ := DataW.trod_string Tryz.underlying9 k3
  obtain ⟨n4, e4, w4, b4⟩ := DataW.trod_int Tryz.underlying2 k4
  injection e0 with e0
  injection e1 with e1
  injection e2 with e2
  injection e3 with e3
  injection e4 with e4
  subst e0 e1 e2 e3 e4
  clear k0 k1 k2 k3 k4
  rw [w0, w1, w2, w3, w4] at hd
  have hwt : (DataW.weightsEach Tryz.prog [23] [d0]).all (· ≤ reachBytes) = true := by
    have h := hsz
    rw [Tryz.params3] at h
    exact h
  rw [hd] at hwt
  simp [DataW.weightsEach, DataW.weights, Tryz.underlying23, reachBytes] at hwt
  clear w0 w1 w2 w3 w4 hd hsz
  obtain ⟨g0, g1, g2, g3⟩ := hwt
  have hlt : ∀ x ∈ p, x.block < W.heap.size := fun x hx => by simpa using hW'.lt x (List.mem_append_left _ hx)
  refine (law1_any ⟨s0, s1, s2, s3, n4⟩ W hE (of_decide_eq_true g0) (of_decide_eq_true g1) (of_decide_eq_true g2) (of_decide_eq_true g3)).mono fun e W' ⟨he, hx⟩ => ?_
  subst he
  have hB : Below W.heap.size W W' := hx
  refine ⟨_, rfl, _, _, _, [], p, [], hW', ?_, ?_, ?_, hB.frame _, fun h => by cases h⟩
  · exact trodAll_mk1 (shut_bool Tryz.underlying4 _)
  · exact trodAll_mk1 (Below.trod laidOut1 (by kernel_rfl) (of_decide_eq_true (by kernel_rfl)) h0k hB hlt)
  · rfl
end Go.Proofs.YtgecijhgonfldaaGreatDoor
