/- Short names of laws that are used often. -/
import Derived.Lib.ValidLaws
import Derived.Lib.DecodeN
import Derived.WalkKit
import Derived.WalkLawsBesides
import Derived.WalkSpells
import Derived.Lib.Hide
import Derived.Lib.LaidTab
import Derived.Deep.Draws
import Derived.Deep.QuietTactic
import Derived.BigQuiet
import Derived.Deep.LoopGhost
import Derived.Deep.DeepMust
import Derived.Deep.DeepFit
import Derived.Shelf.Unicode.DecodeSlow
import Derived.Lib.ItoaMem
import Derived.StillTail
import Derived.OrdersHeld
import Derived.KernelRfl
import Derived.Shelf.Strings.Builder1
import Derived.Shelf.Small.Utf8
import Derived.Shelf.Small.Bits
import Derived.Shelf.Small.Wraps
import Derived.Shelf.Strings.BuilderF
import Derived.Shelf.Strings.BuilderK
import Derived.Shelf.Strconv.Itoa0
import Derived.Shelf.Strconv.Itoa1
import Derived.Shelf.LaysM
import Derived.Shelf.Strconv.Itoa2
import Derived.Shelf.Strconv.Itoa3
import Derived.Shelf.Strconv.Itoa4
import Derived.Shelf.Unicode.Decode
import Derived.Shelf.Unicode.DecodeAny
import Derived.Shelf.Strings.BuilderCap
import Derived.Shelf.Slices.Turned
import Derived.Ground.Names2Prog
import Derived.Shelf.Slices.Clone
import Derived.Ground.SlgnProg
import Derived.Shelf.SlicesE.Clone
import Derived.Maps.AppendAt
import Derived.Deep.AppendLies
import Derived.RegionTactic
import Derived.Lib.Builder
import Derived.Lib.AppendStr
import Derived.Lib.UnsafeStr
import Derived.Laws.BytesArg
import Derived.Deep.RegionWith
import Derived.Lib.ItoaNum
import Derived.Lib.ValidU
import Derived.Deep.RegionLaw
import Derived.Shelf.Unicode.ValidAny
import Derived.Shelf.Strings.Builder2
import Derived.Shelf.Strings.Builder2Cap
import Derived.Shelf.Strings.Prefix
import Derived.Shelf.Bits.Mul64
import Derived.Shelf.Strings.Repeat
import Derived.Shelf.SlicesG.SearchI
import Derived.Ground.SlgcProg
import Derived.Shelf.SlicesG.Cmp
import Derived.Lib.ItoaLen
import Derived.Lib.AppendIntMem
import Derived.Deep.RegionHeld3
import Derived.Deep.DrawnRows
import Derived.Maps.OwnSet
import Derived.Laws.OwnMore
import Derived.Lib.ConvBytes
import Derived.Laws.IdiomStrings
import Derived.RangeFuncNested
import Derived.RangeFuncCalls
import Derived.Lib.SmallJoins
import Derived.TacticsInMore
import Derived.Shelf.RegionOpen
import Derived.OrdersIn
import Derived.TacticsIn
import Derived.Laws.EntriesVeiled
import Derived.Ground.SlsfProg
import Derived.Lay
import Derived.SevenTiedAt
import Derived.Stop.Joined
import Derived.Deep.Fields
import Derived.Carry
import Derived.Lib.LaidU8
import Derived.ProofKit
import Derived.LaidMore
import Derived.OpenShut
import Derived.JoinedOf
import Derived.Deep.Strs
namespace Go.Proofs.YtnlafkgkcnenfaaGreatDoor
open Go Go.RowKit Go.Joins
theorem gd {p : Prop} (h : p) : Hid p := Lib.hid h
abbrev sN : Value := .slice none 0 0
abbrev eS : Value := .string ⟨#[]⟩
abbrev nI (z : Int) : Value := .int .i64 z
abbrev Wq := World
theorem om {p : Prop} (h : p := by omega) : p := h
theorem Za : type_of% @Calls.mono := @Calls.mono
theorem Zb : type_of% @List.length_append := @List.length_append
theorem Zc : type_of% @Nat.le_refl := @Nat.le_refl
theorem Zf : type_of% @wpList_store_row := @wpList_store_row
theorem Zd : type_of% @List.length_cons := @List.length_cons
theorem Zg : type_of% @heap_alloc_new := @heap_alloc_new
theorem Ze : type_of% @if_neg := @if_neg
theorem Zj : type_of% @Nat.zero_le := @Nat.zero_le
theorem Zi : type_of% @if_pos := @if_pos
theorem Zh : type_of% @List.getElem?_eq_getElem := @List.getElem?_eq_getElem
theorem Zq : type_of% @List.length_map := @List.length_map
theorem Zy : type_of% @Lib.cell_of_heap := @Lib.cell_of_heap
theorem Zr : type_of% @List.take_succ_eq_append_getElem := @List.take_succ_eq_append_getElem
theorem Zk : type_of% @List.length_drop := @List.length_drop
theorem Zl : type_of% @List.drop_eq_getElem_cons := @List.drop_eq_getElem_cons
theorem Zo : type_of% @List.mem_singleton := @List.mem_singleton
theorem ZL : type_of% @List.getElem_mem := @List.getElem_mem
theorem Zs : type_of% @List.mem_append := @List.mem_append
theorem Zp : type_of% @Nat.le_trans := @Nat.le_trans
theorem Zv : type_of% @beq_eq_false_iff_ne := @beq_eq_false_iff_ne
theorem Zm : type_of% @List.eq_nil_of_length_eq_zero := @List.eq_nil_of_length_eq_zero
theorem Zn : type_of% @List.mem_cons_of_mem := @List.mem_cons_of_mem
theorem Zz : type_of% @congrArg := @congrArg
theorem ZF : type_of% @setRow_heap := @setRow_heap
theorem ZD : type_of% @bodyPost_ret := @bodyPost_ret
theorem Zw : type_of% @List.map_cons := @List.map_cons
theorem Zx : type_of% @List.mem_cons_self := @List.mem_cons_self
theorem Zt : type_of% @List.append_assoc := @List.append_assoc
theorem ZC : type_of% @List.drop_of_length_le := @List.drop_of_length_le
theorem ZG : type_of% @Bool.and_eq_true := @Bool.and_eq_true
theorem ZQ : type_of% @List.take_of_length_le := @List.take_of_length_le
theorem ZP : type_of% @Array.getElem?_eq_some_iff := @Array.getElem?_eq_some_iff
theorem ZM : type_of% @List.length_take := @List.length_take
theorem ZH : type_of% @List.mem_cons := @List.mem_cons
theorem ZK : type_of% @List.length_nil := @List.length_nil
theorem ZS : type_of% @List.map_append := @List.map_append
theorem ZU : type_of% @List.mem_map := @List.mem_map
theorem Yc : type_of% @List.mem_map_of_mem := @List.mem_map_of_mem
theorem ZV : type_of% @List.append_nil := @List.append_nil
theorem Z8 : type_of% @World.cell?_of_block := @World.cell?_of_block
theorem Z4 : type_of% @heap_setCell_other := @heap_setCell_other
theorem ZR : type_of% @List.getElem?_eq_some_iff := @List.getElem?_eq_some_iff
theorem ZW : type_of% @World.block_lt_of_cell? := @World.block_lt_of_cell?
theorem ZT : type_of% @decide_eq_true_eq := @decide_eq_true_eq
theorem Z7 : type_of% @List.nil_append := @List.nil_append
theorem Z5 : type_of% @Lib.frozen_of_heap := @Lib.frozen_of_heap
theorem ZZ : type_of% @List.getD_eq_getElem?_getD := @List.getD_eq_getElem?_getD
theorem Z2 : type_of% @List.map_nil := @List.map_nil
theorem Z6 : type_of% @List.all_eq_true := @List.all_eq_true
theorem Yd : type_of% @decide_eq_false := @decide_eq_false
theorem ZX : type_of% @List.cons_append := @List.cons_append
theorem ZY : type_of% @List.mem_nil_iff := @List.mem_nil_iff
theorem Yf : type_of% @setRow_other := @setRow_other
theorem Z9 : type_of% @wpQuiet_nil := @wpQuiet_nil
theorem YK : type_of% @of_decide_eq_true := @of_decide_eq_true
theorem Yz : type_of% @List.take_append_drop := @List.take_append_drop
theorem YH : type_of% @info_parts := @info_parts
theorem Yu : type_of% @Nat.le_succ := @Nat.le_succ
theorem Yt : type_of% @List.getElem?_append_right := @List.getElem?_append_right
theorem Yp : type_of% @List.getElem?_map := @List.getElem?_map
theorem Yi : type_of% @List.takeWhile_cons := @List.takeWhile_cons
theorem Yh : type_of% @heap_setCell_same := @heap_setCell_same
theorem YZ : type_of% @Nat.lt_of_lt_of_le := @Nat.lt_of_lt_of_le
theorem YG : type_of% @decide_eq_true := @decide_eq_true
theorem Yj : type_of% @List.getElem?_toArray := @List.getElem?_toArray
theorem YI : type_of% @Nat.zero_add := @Nat.zero_add
theorem YF : type_of% @World.ownsRow_nil := @World.ownsRow_nil
theorem Yy : type_of% @Nat.lt_succ_self := @Nat.lt_succ_self
theorem Yk : type_of% @Bool.false_and := @Bool.false_and
theorem Xe : type_of% @results_cell_row := @results_cell_row
theorem Xi : type_of% @World.cell?_setCell_other := @World.cell?_setCell_other
theorem Yq : type_of% @List.mem_of_mem_drop := @List.mem_of_mem_drop
theorem YO : type_of% @cell_of_row := @cell_of_row
theorem YM : type_of% @List.sum_cons := @List.sum_cons
theorem YX : type_of% @Option.some.inj := @Option.some.inj
theorem Yv : type_of% @Bool.eq_false_iff := @Bool.eq_false_iff
theorem Xn : type_of% @List.getElem_map := @List.getElem_map
theorem YQ : type_of% @List.prefix_iff_eq_take := @List.prefix_iff_eq_take
theorem YE : type_of% @List.takeWhile_sublist := @List.takeWhile_sublist
theorem YL : type_of% @Nat.eq_zero_or_pos := @Nat.eq_zero_or_pos
theorem YW : type_of% @List.mem_filter := @List.mem_filter
theorem V7 : type_of% @And.intro := @And.intro
theorem Y4 : type_of% @List.mem_of_mem_take := @List.mem_of_mem_take
theorem Xy : type_of% @unfrozen_of_block := @unfrozen_of_block
theorem Xx : type_of% @List.takeWhile_prefix := @List.takeWhile_prefix
theorem YR : type_of% @Bool.false_eq_true := @Bool.false_eq_true
theorem ZeY : type_of% @List.mem_append_left := @List.mem_append_left
theorem Y2 : type_of% @Bool.eq_iff_iff := @Bool.eq_iff_iff
theorem YV : type_of% @List.flatMap_cons := @List.flatMap_cons
theorem Xk : type_of% @bne_iff_ne := @bne_iff_ne
theorem Y1 : type_of% @or_false := @or_false
theorem XX : type_of% @World.frozen?_setCell := @World.frozen?_setCell
theorem Xg : type_of% @List.getElem?_append_left := @List.getElem?_append_left
theorem Y3 : type_of% @Array.getElem?_eq_none := @Array.getElem?_eq_none
theorem Xj : type_of% @Nat.zero_mul := @Nat.zero_mul
theorem Y5 : type_of% @Option.some.injEq := @Option.some.injEq
theorem Xt : type_of% @List.length_pos_iff := @List.length_pos_iff
theorem Y9 : type_of% @Nat.lt_or_ge := @Nat.lt_or_ge
theorem Xb : type_of% @List.cons.injEq := @List.cons.injEq
theorem Xc : type_of% @UInt8.toNat_inj := @UInt8.toNat_inj
theorem Ub : type_of% @List.mem_range := @List.mem_range
theorem Jl : type_of% @Bool.not_eq_true' := @Bool.not_eq_true'
theorem GV : type_of% @Classical.byContradiction := @Classical.byContradiction
theorem Xh : type_of% @List.pairwise_iff_getElem := @List.pairwise_iff_getElem
theorem JR : type_of% @List.map_map := @List.map_map
theorem Uc : type_of% @heap_alloc_old := @heap_alloc_old
theorem XL : type_of% @Bool.true_and := @Bool.true_and
theorem Xm : type_of% @List.any_eq_true := @List.any_eq_true
theorem Xu : type_of% @getD_set_ne := @getD_set_ne
theorem Xv : type_of% @Array.getElem?_modify := @Array.getElem?_modify
theorem Xw : type_of% @List.contains_iff_mem := @List.contains_iff_mem
theorem X9 : type_of% @decide_eq_false_iff_not := @decide_eq_false_iff_not
theorem XF : type_of% @Below.mono := @Below.mono
theorem XG : type_of% @List.getLast?_append := @List.getLast?_append
theorem XH : type_of% @List.pairwise_cons := @List.pairwise_cons
theorem JQ : type_of% @List.getElem_cons_zero := @List.getElem_cons_zero
theorem Jp : type_of% @ByteArray.toList_eq := @ByteArray.toList_eq
theorem Jm : type_of% @List.drop_zero := @List.drop_zero
theorem KJ : type_of% @World.cell?_setCell_same := @World.cell?_setCell_same
theorem JP : type_of% @Below.frozen := @Below.frozen
theorem ZpW : type_of% @List.sum_append := @List.sum_append
theorem X5 : type_of% @Nat.lt_of_le_of_lt := @Nat.lt_of_le_of_lt
theorem X6 : type_of% @World.ownsRow.form := @World.ownsRow.form
theorem X7 : type_of% @List.getLast?_singleton := @List.getLast?_singleton
theorem X8 : type_of% @World.putObj_heap_other := @World.putObj_heap_other
theorem Um : type_of% @List.flatten_cons := @List.flatten_cons
theorem Jn : type_of% @ready_mono := @ready_mono
theorem Jo : type_of% @wp_loop_rounds := @wp_loop_rounds
theorem Jt : type_of% @List.length_set := @List.length_set
theorem Zp2 : type_of% @ownsRow_setCell_below := @ownsRow_setCell_below
theorem Jy : type_of% @ownsRow_setCell_other := @ownsRow_setCell_other
theorem Jz : type_of% @Nat.sub_le := @Nat.sub_le
theorem Gf : type_of% @Exists.intro := @Exists.intro
theorem JW : type_of% @cell_of_block := @cell_of_block
theorem Us : type_of% @if_true := @if_true
theorem Zp8 : type_of% @DataW.trod_string := @DataW.trod_string
theorem Zp9 : type_of% @List.length_range := @List.length_range
theorem JI : type_of% @beq_iff_eq := @beq_iff_eq
theorem UZ : type_of% @List.flatten_append := @List.flatten_append
theorem JO : type_of% @Array.getD_eq_getD_getElem? := @Array.getD_eq_getD_getElem?
theorem KI : type_of% @List.all_cons := @List.all_cons
theorem J3 : type_of% @wpOp_mono := @wpOp_mono
theorem V8 : type_of% @List.length_singleton := @List.length_singleton
theorem VF : type_of% @Nat.mul_comm := @Nat.mul_comm
theorem UC : type_of% @wpList_mapUpdate_own := @wpList_mapUpdate_own
theorem UL : type_of% @Array.setIfInBounds_comm := @Array.setIfInBounds_comm
theorem U0 : type_of% @List.isEmpty_iff := @List.isEmpty_iff
theorem U4 : type_of% @if_false := @if_false
theorem Zdf : type_of% @ByteArray.size_append := @ByteArray.size_append
theorem Qq : type_of% @Lib.laidMet.reads := @Lib.laidMet.reads
theorem Zdh : type_of% @List.mem_flatten := @List.mem_flatten
theorem Zig : type_of% @Nat.succ_pos := @Nat.succ_pos
theorem ZrA : type_of% @mem_ready := @mem_ready
theorem Ik : type_of% @Bool.or_eq_true := @Bool.or_eq_true
theorem Il : type_of% @List.head?_cons := @List.head?_cons
theorem Zdg : type_of% @Below.refl := @Below.refl
theorem ZqD : type_of% @Bool.and_true := @Bool.and_true
end Go.Proofs.YtnlafkgkcnenfaaGreatDoor
