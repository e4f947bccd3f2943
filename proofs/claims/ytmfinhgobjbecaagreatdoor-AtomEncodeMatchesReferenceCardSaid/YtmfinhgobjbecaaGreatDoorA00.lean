/- Short names of laws that are used often. -/
import Derived.Lib.ValidLaws
import Derived.Lib.DecodeN
import Derived.WalkKit
import Derived.WalkLawsBesides
import Derived.WalkSpells
import Derived.Lib.Hide
import Derived.Lib.LaidTab
import Derived.Deep.Draws
import Derived.Deep.QuietTactic
import Derived.BigQuiet
import Derived.Deep.LoopGhost
import Derived.Deep.DeepMust
import Derived.Deep.DeepFit
import Derived.Shelf.Unicode.DecodeSlow
import Derived.Lib.ItoaMem
import Derived.StillTail
import Derived.OrdersHeld
import Derived.KernelRfl
import Derived.Maps.AppendAt
import Derived.Deep.AppendLies
import Derived.RegionTactic
import Derived.Lib.Builder
import Derived.Lib.AppendStr
import Derived.Lib.UnsafeStr
import Derived.Shelf.Strings.Builder1
import Derived.Shelf.Small.Utf8
import Derived.Shelf.Small.Bits
import Derived.Shelf.Small.Wraps
import Derived.Shelf.Strings.BuilderF
import Derived.Shelf.Strings.BuilderK
import Derived.Shelf.Strconv.Itoa0
import Derived.Shelf.Strconv.Itoa1
import Derived.Shelf.LaysM
import Derived.Shelf.Strconv.Itoa2
import Derived.Shelf.Strconv.Itoa3
import Derived.Shelf.Strconv.Itoa4
import Derived.Shelf.Unicode.Decode
import Derived.Shelf.Unicode.DecodeAny
import Derived.Shelf.Strings.BuilderCap
import Derived.Shelf.Slices.Turned
import Derived.Ground.Names2Prog
import Derived.Shelf.Slices.Clone
import Derived.Ground.SlgnProg
import Derived.Shelf.SlicesE.Clone
import Derived.Laws.BytesArg
import Derived.Deep.RegionWith
import Derived.Lib.ItoaNum
import Derived.Lib.ValidU
import Derived.Deep.RegionLaw
import Derived.Shelf.Unicode.ValidAny
import Derived.Lib.ConvBytes
import Derived.Laws.IdiomStrings
import Derived.Lib.ItoaLen
import Derived.Lib.AppendIntMem
import Derived.Maps.OwnSet
import Derived.Laws.OwnMore
import Derived.Deep.RegionHeld3
import Derived.Deep.DrawnRows
import Derived.Lib.SmallJoins
import Derived.Ground.SlsfProg
import Derived.Laws.EntriesVeiled
import Derived.Lay
import Derived.SevenTiedAt
import Derived.Stop.Joined
import Derived.Deep.Fields
import Derived.Carry
import Derived.Lib.LaidU8
import Derived.ProofKit
import Derived.LaidMore
import Derived.OpenShut
import Derived.Deep.Strs
import Derived.JoinedOf
namespace Go.Proofs.YtmfinhgobjbecaaGreatDoor
open Go Go.RowKit Go.Joins
theorem gd {p : Prop} (h : p) : Hid p := Lib.hid h
abbrev sN : Value := .slice none 0 0
abbrev eS : Value := .string ⟨#[]⟩
abbrev nI (z : Int) : Value := .int .i64 z
abbrev Wq := World
theorem om {p : Prop} (h : p := by omega) : p := h
theorem ZqD : type_of% @Calls.mono := @Calls.mono
theorem ZqE : type_of% @Nat.le_refl := @Nat.le_refl
theorem ZqG : type_of% @List.length_append := @List.length_append
theorem ZqF : type_of% @wpList_store_row := @wpList_store_row
theorem ZqH : type_of% @if_neg := @if_neg
theorem ZqJ : type_of% @heap_alloc_new := @heap_alloc_new
theorem ZqK : type_of% @List.length_cons := @List.length_cons
theorem ZqL : type_of% @List.getElem?_eq_getElem := @List.getElem?_eq_getElem
theorem ZqM : type_of% @Nat.le_trans := @Nat.le_trans
theorem ZqN : type_of% @if_pos := @if_pos
theorem ZqO : type_of% @Nat.zero_le := @Nat.zero_le
theorem ZqI : type_of% @cell_of_row := @cell_of_row
theorem ZqP : type_of% @List.length_drop := @List.length_drop
theorem ZqQ : type_of% @List.take_succ_eq_append_getElem := @List.take_succ_eq_append_getElem
theorem ZqR : type_of% @List.drop_eq_getElem_cons := @List.drop_eq_getElem_cons
theorem ZqS : type_of% @congrArg := @congrArg
theorem ZqT : type_of% @bodyPost_ret := @bodyPost_ret
theorem ZqU : type_of% @List.mem_singleton := @List.mem_singleton
theorem ZqW : type_of% @beq_eq_false_iff_ne := @beq_eq_false_iff_ne
theorem ZqV : type_of% @setRow_heap := @setRow_heap
theorem ZqX : type_of% @List.eq_nil_of_length_eq_zero := @List.eq_nil_of_length_eq_zero
theorem ZqY : type_of% @List.append_assoc := @List.append_assoc
theorem ZqZ : type_of% @Bool.and_eq_true := @Bool.and_eq_true
theorem Zq0 : type_of% @List.mem_append := @List.mem_append
theorem Zq1 : type_of% @List.mem_cons := @List.mem_cons
theorem Zq2 : type_of% @List.getElem_mem := @List.getElem_mem
theorem Zq3 : type_of% @List.drop_of_length_le := @List.drop_of_length_le
theorem Zq4 : type_of% @List.take_of_length_le := @List.take_of_length_le
theorem Zq5 : type_of% @List.length_nil := @List.length_nil
theorem Zq6 : type_of% @List.mem_cons_self := @List.mem_cons_self
theorem Zq7 : type_of% @List.mem_cons_of_mem := @List.mem_cons_of_mem
theorem Zq8 : type_of% @List.map_cons := @List.map_cons
theorem Zq9 : type_of% @List.length_map := @List.length_map
theorem Zra : type_of% @List.length_take := @List.length_take
theorem Zrb : type_of% @List.append_nil := @List.append_nil
theorem Zrc : type_of% @Lib.cell_of_heap := @Lib.cell_of_heap
theorem Zrd : type_of% @decide_eq_true_eq := @decide_eq_true_eq
theorem Zre : type_of% @decide_eq_false := @decide_eq_false
theorem Zrf : type_of% @List.map_append := @List.map_append
theorem Zrg : type_of% @Array.getElem?_eq_some_iff := @Array.getElem?_eq_some_iff
theorem Zrh : type_of% @heap_setCell_same := @heap_setCell_same
theorem Zri : type_of% @List.mem_nil_iff := @List.mem_nil_iff
theorem Zrj : type_of% @decide_eq_true := @decide_eq_true
theorem Zrk : type_of% @Lib.frozen_of_heap := @Lib.frozen_of_heap
theorem Zrl : type_of% @List.nil_append := @List.nil_append
theorem Zrm : type_of% @List.all_eq_true := @List.all_eq_true
theorem Zro : type_of% @of_decide_eq_true := @of_decide_eq_true
theorem Zrp : type_of% @List.cons_append := @List.cons_append
theorem Zrq : type_of% @List.getElem?_map := @List.getElem?_map
theorem Zrr : type_of% @List.mem_map := @List.mem_map
theorem Zrn : type_of% @setRow_other := @setRow_other
theorem Zrt : type_of% @World.ownsRow_nil := @World.ownsRow_nil
theorem Zru : type_of% @wpQuiet_nil := @wpQuiet_nil
theorem Zrv : type_of% @List.mem_map_of_mem := @List.mem_map_of_mem
theorem Zrw : type_of% @List.getElem?_eq_some_iff := @List.getElem?_eq_some_iff
theorem Zrx : type_of% @Nat.lt_of_lt_of_le := @Nat.lt_of_lt_of_le
theorem Zry : type_of% @List.getD_eq_getElem?_getD := @List.getD_eq_getElem?_getD
theorem Zrz : type_of% @List.map_nil := @List.map_nil
theorem ZrA : type_of% @Bool.false_and := @Bool.false_and
theorem Zrs : type_of% @World.cell?_of_block := @World.cell?_of_block
theorem ZrC : type_of% @ByteArray.toList_eq := @ByteArray.toList_eq
theorem ZrD : type_of% @or_false := @or_false
theorem ZrE : type_of% @info_parts := @info_parts
theorem ZrG : type_of% @Bool.eq_iff_iff := @Bool.eq_iff_iff
theorem ZrH : type_of% @Nat.zero_add := @Nat.zero_add
theorem ZrI : type_of% @Option.some.inj := @Option.some.inj
theorem ZrJ : type_of% @Nat.lt_or_ge := @Nat.lt_or_ge
theorem ZrK : type_of% @List.mem_filter := @List.mem_filter
theorem ZrL : type_of% @World.block_lt_of_cell? := @World.block_lt_of_cell?
theorem ZrM : type_of% @List.getElem?_toArray := @List.getElem?_toArray
theorem ZrF : type_of% @Nat.le_succ := @Nat.le_succ
theorem ZrB : type_of% @Nat.lt_succ_self := @Nat.lt_succ_self
theorem ZrN : type_of% @heap_setCell_other := @heap_setCell_other
theorem ZrO : type_of% @results_cell_row := @results_cell_row
theorem ZrP : type_of% @List.getElem?_append_right := @List.getElem?_append_right
theorem ZrQ : type_of% @bne_iff_ne := @bne_iff_ne
theorem ZrR : type_of% @List.take_append_drop := @List.take_append_drop
theorem ZrS : type_of% @World.cell?_setCell_other := @World.cell?_setCell_other
theorem ZrT : type_of% @Array.getElem?_eq_none := @Array.getElem?_eq_none
theorem ZrU : type_of% @List.flatMap_cons := @List.flatMap_cons
theorem ZrV : type_of% @Below.mono := @Below.mono
theorem ZrW : type_of% @Bool.false_eq_true := @Bool.false_eq_true
theorem ZrX : type_of% @Nat.eq_zero_or_pos := @Nat.eq_zero_or_pos
theorem ZrY : type_of% @UInt8.toNat_inj := @UInt8.toNat_inj
theorem ZrZ : type_of% @List.mem_append_left := @List.mem_append_left
theorem Zr0 : type_of% @decide_eq_false_iff_not := @decide_eq_false_iff_not
theorem Zr1 : type_of% @List.takeWhile_sublist := @List.takeWhile_sublist
theorem Zr2 : type_of% @Bool.true_and := @Bool.true_and
theorem Zr3 : type_of% @List.length_pos_iff := @List.length_pos_iff
theorem Zr4 : type_of% @List.takeWhile_cons := @List.takeWhile_cons
theorem Zr5 : type_of% @getD_set_ne := @getD_set_ne
theorem Zr6 : type_of% @Array.getElem?_modify := @Array.getElem?_modify
theorem Zr7 : type_of% @List.contains_iff_mem := @List.contains_iff_mem
theorem Zr8 : type_of% @Bool.eq_false_iff := @Bool.eq_false_iff
theorem Zr9 : type_of% @And.intro := @And.intro
theorem Zsa : type_of% @List.getLast?_append := @List.getLast?_append
theorem Zsb : type_of% @Exists.intro := @Exists.intro
theorem Zsc : type_of% @List.any_eq_true := @List.any_eq_true
theorem Zsd : type_of% @List.pairwise_iff_getElem := @List.pairwise_iff_getElem
theorem Zse : type_of% @World.frozen?_setCell := @World.frozen?_setCell
theorem Zsf : type_of% @List.drop_zero := @List.drop_zero
theorem Zsg : type_of% @wp_loop_rounds := @wp_loop_rounds
theorem Zsh : type_of% @List.getLast?_singleton := @List.getLast?_singleton
theorem Zsi : type_of% @List.isEmpty_iff := @List.isEmpty_iff
theorem Zsj : type_of% @Bool.not_eq_true' := @Bool.not_eq_true'
theorem Zsk : type_of% @List.getElem_cons_zero := @List.getElem_cons_zero
theorem Zsl : type_of% @Nat.zero_mul := @Nat.zero_mul
theorem Zsm : type_of% @Option.some.injEq := @Option.some.injEq
theorem Zsn : type_of% @ready_mono := @ready_mono
theorem Zso : type_of% @unfrozen_of_block := @unfrozen_of_block
theorem Zsp : type_of% @Classical.byContradiction := @Classical.byContradiction
theorem Zsq : type_of% @List.getElem?_append_left := @List.getElem?_append_left
theorem Zsr : type_of% @List.pairwise_cons := @List.pairwise_cons
theorem Zss : type_of% @Below.frozen := @Below.frozen
theorem Zst : type_of% @Nat.mul_comm := @Nat.mul_comm
theorem Zsu : type_of% @List.mem_range := @List.mem_range
theorem Zsv : type_of% @DataW.trod_string := @DataW.trod_string
theorem Zsw : type_of% @List.cons.injEq := @List.cons.injEq
theorem Zsx : type_of% @Array.getD_eq_getD_getElem? := @Array.getD_eq_getD_getElem?
theorem Zsy : type_of% @if_true := @if_true
theorem Zsz : type_of% @heap_alloc_old := @heap_alloc_old
theorem ZsA : type_of% @List.length_set := @List.length_set
theorem ZsB : type_of% @List.flatten_cons := @List.flatten_cons
theorem ZsC : type_of% @Array.setIfInBounds_comm := @Array.setIfInBounds_comm
theorem ZsD : type_of% @World.cell?_setCell_same := @World.cell?_setCell_same
theorem ZsE : type_of% @beq_iff_eq := @beq_iff_eq
theorem ZsF : type_of% @List.getElem_map := @List.getElem_map
theorem ZsG : type_of% @List.prefix_iff_eq_take := @List.prefix_iff_eq_take
theorem ZsH : type_of% @wpOp_mono := @wpOp_mono
theorem ZsI : type_of% @Bool.or_eq_true := @Bool.or_eq_true
theorem ZsJ : type_of% @if_false := @if_false
theorem ZsK : type_of% @List.all_cons := @List.all_cons
theorem ZsL : type_of% @ByteArray.size_append := @ByteArray.size_append
theorem ZsM : type_of% @ownsRow_setCell_below := @ownsRow_setCell_below
theorem ZsN : type_of% @Lib.laidMet.reads := @Lib.laidMet.reads
theorem ZsO : type_of% @mem_ready := @mem_ready
theorem ZsP : type_of% @List.flatten_append := @List.flatten_append
theorem ZsQ : type_of% @cell_of_block := @cell_of_block
theorem ZsR : type_of% @List.head?_cons := @List.head?_cons
theorem ZsS : type_of% @List.sum_append := @List.sum_append
theorem ZsT : type_of% @Below.refl := @Below.refl
theorem ZsU : type_of% @Nat.lt_of_le_of_lt := @Nat.lt_of_le_of_lt
theorem ZsV : type_of% @Nat.sub_le := @Nat.sub_le
theorem ZsW : type_of% @List.length_range := @List.length_range
theorem ZsX : type_of% @List.map_map := @List.map_map
theorem ZsY : type_of% @Bool.and_true := @Bool.and_true
theorem ZsZ : type_of% @wpList_mapUpdate_own := @wpList_mapUpdate_own
theorem Zs0 : type_of% @List.mem_flatten := @List.mem_flatten
theorem Zs1 : type_of% @List.takeWhile_prefix := @List.takeWhile_prefix
theorem Zs2 : type_of% @List.mem_of_mem_take := @List.mem_of_mem_take
end Go.Proofs.YtmfinhgobjbecaaGreatDoor
