/- Short names of laws that are used often. -/
import Derived.Lib.ValidLaws
import Derived.Lib.DecodeN
import Derived.WalkKit
import Derived.WalkLawsBesides
import Derived.WalkSpells
import Derived.Lib.Hide
import Derived.Lib.LaidTab
import Derived.Deep.Draws
import Derived.Deep.QuietTactic
import Derived.BigQuiet
import Derived.Deep.LoopGhost
import Derived.Deep.DeepMust
import Derived.Deep.DeepFit
import Derived.Shelf.Unicode.DecodeSlow
import Derived.Lib.ItoaMem
import Derived.StillTail
import Derived.OrdersHeld
import Derived.KernelRfl
import Derived.Lib.ItoaNum
import Derived.Lib.ValidU
import Derived.Shelf.Strings.Builder1
import Derived.Shelf.Small.Utf8
import Derived.Shelf.Small.Bits
import Derived.Shelf.Small.Wraps
import Derived.Shelf.Strings.BuilderF
import Derived.Shelf.Strings.BuilderK
import Derived.Shelf.Strconv.Itoa0
import Derived.Shelf.Strconv.Itoa1
import Derived.Shelf.LaysM
import Derived.Shelf.Strconv.Itoa2
import Derived.Shelf.Strconv.Itoa3
import Derived.Shelf.Strconv.Itoa4
import Derived.Shelf.Strings.Prefix
import Derived.Shelf.Unicode.Decode
import Derived.Shelf.Unicode.DecodeAny
import Derived.Shelf.Strings.BuilderCap
import Derived.Shelf.Slices.Turned
import Derived.Ground.Names2Prog
import Derived.Shelf.Slices.Clone
import Derived.Ground.SlgnProg
import Derived.Shelf.SlicesE.Clone
import Derived.Maps.AppendAt
import Derived.Deep.AppendLies
import Derived.RegionTactic
import Derived.Lib.Builder
import Derived.Lib.AppendStr
import Derived.Lib.UnsafeStr
import Derived.Laws.BytesArg
import Derived.Deep.RegionWith
import Derived.Deep.RegionLaw
import Derived.Shelf.Unicode.ValidAny
import Derived.Shelf.SlicesG.SearchI
import Derived.Ground.SlgcProg
import Derived.Shelf.SlicesG.Cmp
import Derived.Ground.SlsfProg
import Derived.Lib.ItoaLen
import Derived.Lib.AppendIntMem
import Derived.Maps.OwnSet
import Derived.Laws.OwnMore
import Derived.Lib.ConvBytes
import Derived.Laws.IdiomStrings
import Derived.Deep.RegionHeld3
import Derived.Deep.DrawnRows
import Derived.Lib.LaidU8
import Derived.ProofKit
import Derived.LaidMore
import Derived.OpenShut
import Derived.Lay
import Derived.SevenTiedAt
import Derived.Stop.Joined
import Derived.Lib.SmallJoins
import Derived.Deep.Fields
import Derived.Carry
import Derived.Deep.Strs
import Derived.JoinedOf
namespace Go.Proofs.YthlnaldahkgjnaaGreatDoor
open Go Go.RowKit Go.Joins
theorem gd {p : Prop} (h : p) : Hid p := Lib.hid h
abbrev sN : Value := .slice none 0 0
abbrev eS : Value := .string ⟨#[]⟩
abbrev nI (z : Int) : Value := .int .i64 z
abbrev Wq := World
theorem Za : type_of% @Calls.mono := @Calls.mono
theorem Zb : type_of% @cell_of_row := @cell_of_row
theorem Zc : type_of% @List.getElem?_eq_getElem := @List.getElem?_eq_getElem
theorem Zd : type_of% @Nat.le_refl := @Nat.le_refl
theorem Ze : type_of% @Array.getElem?_eq_some_iff := @Array.getElem?_eq_some_iff
theorem Zf : type_of% @if_neg := @if_neg
theorem Zg : type_of% @wpList_store_row := @wpList_store_row
theorem Zh : type_of% @heap_alloc_new := @heap_alloc_new
theorem Zi : type_of% @if_pos := @if_pos
theorem Zj : type_of% @List.length_append := @List.length_append
theorem Zk : type_of% @setRow_heap := @setRow_heap
theorem Zl : type_of% @Nat.le_trans := @Nat.le_trans
theorem Zm : type_of% @bodyPost_ret := @bodyPost_ret
theorem Zo : type_of% @congrArg := @congrArg
theorem Zr : type_of% @List.length_cons := @List.length_cons
theorem Zs : type_of% @heap_setCell_other := @heap_setCell_other
theorem Zt : type_of% @Nat.zero_le := @Nat.zero_le
theorem Zu : type_of% @World.cell?_of_block := @World.cell?_of_block
theorem Zx : type_of% @List.drop_eq_getElem_cons := @List.drop_eq_getElem_cons
theorem Zy : type_of% @List.take_succ_eq_append_getElem := @List.take_succ_eq_append_getElem
theorem Zz : type_of% @results_cell_row := @results_cell_row
theorem ZB : type_of% @List.drop_of_length_le := @List.drop_of_length_le
theorem ZC : type_of% @List.take_of_length_le := @List.take_of_length_le
theorem ZD : type_of% @setRow_other := @setRow_other
theorem ZE : type_of% @List.getElem?_eq_some_iff := @List.getElem?_eq_some_iff
theorem ZF : type_of% @List.length_nil := @List.length_nil
theorem ZG : type_of% @List.mem_cons := @List.mem_cons
theorem ZH : type_of% @Lib.frozen_of_heap := @Lib.frozen_of_heap
theorem ZI : type_of% @List.eq_nil_of_length_eq_zero := @List.eq_nil_of_length_eq_zero
theorem ZK : type_of% @List.getElem?_append_right := @List.getElem?_append_right
theorem ZL : type_of% @List.length_drop := @List.length_drop
theorem ZM : type_of% @Nat.le_succ := @Nat.le_succ
theorem ZN : type_of% @Lib.cell_of_heap := @Lib.cell_of_heap
theorem ZO : type_of% @List.getElem_mem := @List.getElem_mem
theorem ZQ : type_of% @Option.some.injEq := @Option.some.injEq
theorem ZR : type_of% @heap_setCell_same := @heap_setCell_same
theorem ZS : type_of% @List.length_map := @List.length_map
theorem ZT : type_of% @List.getElem?_map := @List.getElem?_map
theorem ZU : type_of% @Bool.and_eq_true := @Bool.and_eq_true
theorem ZV : type_of% @beq_eq_false_iff_ne := @beq_eq_false_iff_ne
theorem ZZ : type_of% @List.mem_append := @List.mem_append
theorem Z2 : type_of% @List.getElem?_append_left := @List.getElem?_append_left
theorem Z3 : type_of% @Nat.lt_of_lt_of_le := @Nat.lt_of_lt_of_le
theorem Z6 : type_of% @decide_eq_true_eq := @decide_eq_true_eq
theorem Z8 : type_of% @List.mem_singleton := @List.mem_singleton
theorem Z9 : type_of% @And.intro := @And.intro
theorem Ya : type_of% @decide_eq_false := @decide_eq_false
theorem Yb : type_of% @List.length_singleton := @List.length_singleton
theorem Yc : type_of% @World.ownsRow_nil := @World.ownsRow_nil
theorem Yd : type_of% @of_decide_eq_true := @of_decide_eq_true
theorem Ye : type_of% @Exists.intro := @Exists.intro
theorem Yf : type_of% @Nat.zero_add := @Nat.zero_add
theorem Yg : type_of% @decide_eq_true := @decide_eq_true
theorem Yj : type_of% @bne_iff_ne := @bne_iff_ne
theorem Yl : type_of% @List.append_assoc := @List.append_assoc
theorem Ym : type_of% @List.map_cons := @List.map_cons
theorem Yn : type_of% @List.all_eq_true := @List.all_eq_true
theorem Yp : type_of% @List.map_append := @List.map_append
theorem Yq : type_of% @List.mem_map := @List.mem_map
theorem Yr : type_of% @info_parts := @info_parts
theorem Ys : type_of% @Option.some.inj := @Option.some.inj
theorem Yx : type_of% @ByteArray.toList_eq := @ByteArray.toList_eq
theorem YA : type_of% @List.getD_eq_getElem?_getD := @List.getD_eq_getElem?_getD
theorem YB : type_of% @wpQuiet_nil := @wpQuiet_nil
theorem YD : type_of% @List.mem_nil_iff := @List.mem_nil_iff
theorem YE : type_of% @List.getElem?_toArray := @List.getElem?_toArray
theorem YF : type_of% @List.nil_append := @List.nil_append
theorem YG : type_of% @Nat.lt_or_ge := @Nat.lt_or_ge
theorem YK : type_of% @or_false := @or_false
theorem YL : type_of% @World.cell?_setCell_other := @World.cell?_setCell_other
theorem YP : type_of% @Nat.eq_zero_or_pos := @Nat.eq_zero_or_pos
theorem YR : type_of% @List.length_take := @List.length_take
theorem YS : type_of% @World.block_lt_of_cell? := @World.block_lt_of_cell?
theorem YY : type_of% @Nat.lt_succ_self := @Nat.lt_succ_self
theorem YZ : type_of% @Array.getElem?_modify := @Array.getElem?_modify
theorem Y6 : type_of% @List.map_nil := @List.map_nil
theorem Y7 : type_of% @Nat.mul_comm := @Nat.mul_comm
theorem Xb : type_of% @Below.mono := @Below.mono
theorem Xe : type_of% @wp_loop_rounds := @wp_loop_rounds
theorem Xf : type_of% @Bool.eq_iff_iff := @Bool.eq_iff_iff
theorem Xh : type_of% @Array.getElem?_eq_none := @Array.getElem?_eq_none
theorem Xj : type_of% @List.pairwise_iff_getElem := @List.pairwise_iff_getElem
theorem XG : type_of% @World.frozen?_setCell := @World.frozen?_setCell
theorem XP : type_of% @Below.frozen := @Below.frozen
theorem XQ : type_of% @List.drop_zero := @List.drop_zero
theorem XU : type_of% @List.flatMap_cons := @List.flatMap_cons
theorem X6 : type_of% @List.cons_append := @List.cons_append
theorem Ja : type_of% @Bool.false_eq_true := @Bool.false_eq_true
theorem Jb : type_of% @List.pairwise_cons := @List.pairwise_cons
theorem Jc : type_of% @ready_mono := @ready_mono
theorem Jp : type_of% @List.mem_filter := @List.mem_filter
theorem Jq : type_of% @Bool.eq_false_iff := @Bool.eq_false_iff
theorem J8 : type_of% @List.flatten_append := @List.flatten_append
theorem UB : type_of% @getD_set_ne := @getD_set_ne
theorem Vo : type_of% @List.map_map := @List.map_map
theorem Qe : type_of% @World.cell?_setCell_same := @World.cell?_setCell_same
theorem Gf : type_of% @decide_eq_false_iff_not := @decide_eq_false_iff_not
theorem IB : type_of% @Below.refl := @Below.refl
theorem IC : type_of% @List.any_eq_true := @List.any_eq_true
theorem IH : type_of% @mem_ready := @mem_ready
theorem IR : type_of% @wpOp_mono := @wpOp_mono
theorem Eq : type_of% @if_true := @if_true
theorem EN : type_of% @List.mem_cons_of_mem := @List.mem_cons_of_mem
theorem ZbB : type_of% @List.length_pos_iff := @List.length_pos_iff
theorem ZbC : type_of% @List.takeWhile_cons := @List.takeWhile_cons
theorem ZcZ : type_of% @List.mem_cons_self := @List.mem_cons_self
theorem ZfL : type_of% @Lib.laidMet.reads := @Lib.laidMet.reads
theorem ZfM : type_of% @Array.setIfInBounds_comm := @Array.setIfInBounds_comm
theorem ZfN : type_of% @Bool.and_true := @Bool.and_true
theorem Zgx : type_of% @List.isEmpty_iff := @List.isEmpty_iff
theorem ZgK : type_of% @if_false := @if_false
theorem Zhj : type_of% @List.append_nil := @List.append_nil
theorem Zhr : type_of% @List.mem_of_mem_take := @List.mem_of_mem_take
theorem Zhs : type_of% @wpList_mapUpdate_own := @wpList_mapUpdate_own
end Go.Proofs.YthlnaldahkgjnaaGreatDoor
