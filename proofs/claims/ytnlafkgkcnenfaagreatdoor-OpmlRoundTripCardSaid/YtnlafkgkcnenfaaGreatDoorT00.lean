/- Short names of laws that are used often. -/
import Derived.Lib.ValidLaws
import Derived.Lib.DecodeN
import Derived.WalkKit
import Derived.WalkLawsBesides
import Derived.WalkSpells
import Derived.Lib.Hide
import Derived.Lib.LaidTab
import Derived.Deep.Draws
import Derived.Deep.QuietTactic
import Derived.BigQuiet
import Derived.Deep.LoopGhost
import Derived.Deep.DeepMust
import Derived.Deep.DeepFit
import Derived.Shelf.Unicode.DecodeSlow
import Derived.Lib.ItoaMem
import Derived.StillTail
import Derived.OrdersHeld
import Derived.KernelRfl
import Derived.Shelf.Strings.Builder1
import Derived.Shelf.Small.Utf8
import Derived.Shelf.Small.Bits
import Derived.Shelf.Small.Wraps
import Derived.Shelf.Strings.BuilderF
import Derived.Shelf.Strings.BuilderK
import Derived.Shelf.Strconv.Itoa0
import Derived.Shelf.Strconv.Itoa1
import Derived.Shelf.LaysM
import Derived.Shelf.Strconv.Itoa2
import Derived.Shelf.Strconv.Itoa3
import Derived.Shelf.Strconv.Itoa4
import Derived.Shelf.Unicode.Decode
import Derived.Shelf.Unicode.DecodeAny
import Derived.Shelf.Strings.BuilderCap
import Derived.Shelf.Slices.Turned
import Derived.Ground.Names2Prog
import Derived.Shelf.Slices.Clone
import Derived.Ground.SlgnProg
import Derived.Shelf.SlicesE.Clone
import Derived.Maps.AppendAt
import Derived.Deep.AppendLies
import Derived.RegionTactic
import Derived.Lib.Builder
import Derived.Lib.AppendStr
import Derived.Lib.UnsafeStr
import Derived.Laws.BytesArg
import Derived.Deep.RegionWith
import Derived.Lib.ItoaNum
import Derived.Lib.ValidU
import Derived.Deep.RegionLaw
import Derived.Shelf.Unicode.ValidAny
import Derived.Shelf.Strings.Builder2
import Derived.Shelf.Strings.Builder2Cap
import Derived.Shelf.Strings.Prefix
import Derived.Shelf.Bits.Mul64
import Derived.Shelf.Strings.Repeat
import Derived.Shelf.SlicesG.SearchI
import Derived.Ground.SlgcProg
import Derived.Shelf.SlicesG.Cmp
import Derived.Lib.ItoaLen
import Derived.Lib.AppendIntMem
import Derived.Deep.RegionHeld3
import Derived.Deep.DrawnRows
import Derived.Maps.OwnSet
import Derived.Laws.OwnMore
import Derived.Lib.ConvBytes
import Derived.Laws.IdiomStrings
import Derived.RangeFuncNested
import Derived.RangeFuncCalls
import Derived.Lib.SmallJoins
import Derived.TacticsInMore
import Derived.Shelf.RegionOpen
import Derived.OrdersIn
import Derived.TacticsIn
import Derived.Laws.EntriesVeiled
import Derived.Ground.SlsfProg
import Derived.Lay
import Derived.SevenTiedAt
import Derived.Stop.Joined
import Derived.Deep.Fields
import Derived.Carry
import Derived.Lib.LaidU8
import Derived.ProofKit
import Derived.LaidMore
import Derived.OpenShut
import Derived.Deep.Strs
import Derived.JoinedOf
namespace Go.Proofs.YtnlafkgkcnenfaaGreatDoor
open Go Go.RowKit Go.Joins
theorem gd {p : Prop} (h : p) : Hid p := Lib.hid h
abbrev sN : Value := .slice none 0 0
abbrev eS : Value := .string ⟨#[]⟩
abbrev nI (z : Int) : Value := .int .i64 z
abbrev Wq := World
theorem Za : type_of% @Calls.mono := @Calls.mono
theorem Zb : type_of% @Nat.le_refl := @Nat.le_refl
theorem Zc : type_of% @List.length_append := @List.length_append
theorem Zd : type_of% @List.length_cons := @List.length_cons
theorem Ze : type_of% @if_neg := @if_neg
theorem Zf : type_of% @wpList_store_row := @wpList_store_row
theorem Zg : type_of% @heap_alloc_new := @heap_alloc_new
theorem Zh : type_of% @Nat.zero_le := @Nat.zero_le
theorem Zi : type_of% @if_pos := @if_pos
theorem Zj : type_of% @List.length_drop := @List.length_drop
theorem Zk : type_of% @List.drop_eq_getElem_cons := @List.drop_eq_getElem_cons
theorem Zl : type_of% @List.getElem?_eq_getElem := @List.getElem?_eq_getElem
theorem Zm : type_of% @List.length_map := @List.length_map
theorem Zn : type_of% @List.take_succ_eq_append_getElem := @List.take_succ_eq_append_getElem
theorem Zo : type_of% @List.mem_singleton := @List.mem_singleton
theorem Zq : type_of% @Lib.cell_of_heap := @Lib.cell_of_heap
theorem Zr : type_of% @List.eq_nil_of_length_eq_zero := @List.eq_nil_of_length_eq_zero
theorem Zs : type_of% @List.drop_of_length_le := @List.drop_of_length_le
theorem Zt : type_of% @Nat.le_trans := @Nat.le_trans
theorem Zu : type_of% @List.mem_cons_of_mem := @List.mem_cons_of_mem
theorem Zv : type_of% @Array.getElem?_eq_some_iff := @Array.getElem?_eq_some_iff
theorem Zw : type_of% @List.map_cons := @List.map_cons
theorem Zx : type_of% @List.mem_append := @List.mem_append
theorem Zy : type_of% @bodyPost_ret := @bodyPost_ret
theorem Zz : type_of% @setRow_heap := @setRow_heap
theorem ZC : type_of% @congrArg := @congrArg
theorem ZE : type_of% @List.getElem_mem := @List.getElem_mem
theorem ZF : type_of% @List.mem_cons_self := @List.mem_cons_self
theorem ZG : type_of% @beq_eq_false_iff_ne := @beq_eq_false_iff_ne
theorem ZH : type_of% @Bool.and_eq_true := @Bool.and_eq_true
theorem ZK : type_of% @List.mem_cons := @List.mem_cons
theorem ZL : type_of% @List.length_take := @List.length_take
theorem ZM : type_of% @List.length_nil := @List.length_nil
theorem ZN : type_of% @List.map_append := @List.map_append
theorem ZQ : type_of% @List.append_assoc := @List.append_assoc
theorem ZR : type_of% @List.take_of_length_le := @List.take_of_length_le
theorem ZS : type_of% @List.mem_map := @List.mem_map
theorem ZT : type_of% @List.getElem?_eq_some_iff := @List.getElem?_eq_some_iff
theorem ZU : type_of% @decide_eq_true_eq := @decide_eq_true_eq
theorem ZV : type_of% @World.block_lt_of_cell? := @World.block_lt_of_cell?
theorem ZW : type_of% @List.getD_eq_getElem?_getD := @List.getD_eq_getElem?_getD
theorem ZX : type_of% @List.append_nil := @List.append_nil
theorem ZY : type_of% @List.mem_map_of_mem := @List.mem_map_of_mem
theorem ZZ : type_of% @heap_setCell_other := @heap_setCell_other
theorem Z1 : type_of% @Lib.frozen_of_heap := @Lib.frozen_of_heap
theorem Z2 : type_of% @List.mem_nil_iff := @List.mem_nil_iff
theorem Z3 : type_of% @World.cell?_of_block := @World.cell?_of_block
theorem Z8 : type_of% @wpQuiet_nil := @wpQuiet_nil
theorem Z9 : type_of% @setRow_other := @setRow_other
theorem Ya : type_of% @decide_eq_false := @decide_eq_false
theorem Yc : type_of% @List.map_nil := @List.map_nil
theorem Yd : type_of% @heap_setCell_same := @heap_setCell_same
theorem Yg : type_of% @List.all_eq_true := @List.all_eq_true
theorem Yh : type_of% @List.getElem?_toArray := @List.getElem?_toArray
theorem Yj : type_of% @Nat.le_succ := @Nat.le_succ
theorem Yk : type_of% @List.takeWhile_cons := @List.takeWhile_cons
theorem Yl : type_of% @Bool.false_and := @Bool.false_and
theorem Ym : type_of% @List.getElem?_append_right := @List.getElem?_append_right
theorem Yn : type_of% @List.sum_cons := @List.sum_cons
theorem Yr : type_of% @List.mem_of_mem_drop := @List.mem_of_mem_drop
theorem Yt : type_of% @List.nil_append := @List.nil_append
theorem Yu : type_of% @info_parts := @info_parts
theorem Yv : type_of% @Bool.eq_false_iff := @Bool.eq_false_iff
theorem Yw : type_of% @of_decide_eq_true := @of_decide_eq_true
theorem Yy : type_of% @List.take_append_drop := @List.take_append_drop
theorem Yz : type_of% @List.getElem?_map := @List.getElem?_map
theorem YD : type_of% @List.cons_append := @List.cons_append
theorem YE : type_of% @decide_eq_true := @decide_eq_true
theorem YG : type_of% @List.takeWhile_sublist := @List.takeWhile_sublist
theorem YK : type_of% @Nat.lt_succ_self := @Nat.lt_succ_self
theorem YL : type_of% @World.ownsRow_nil := @World.ownsRow_nil
theorem YN : type_of% @unfrozen_of_block := @unfrozen_of_block
theorem YO : type_of% @Nat.eq_zero_or_pos := @Nat.eq_zero_or_pos
theorem YP : type_of% @World.cell?_setCell_other := @World.cell?_setCell_other
theorem YQ : type_of% @Nat.zero_add := @Nat.zero_add
theorem YS : type_of% @Option.some.inj := @Option.some.inj
theorem YV : type_of% @Bool.false_eq_true := @Bool.false_eq_true
theorem YW : type_of% @Nat.lt_of_lt_of_le := @Nat.lt_of_lt_of_le
theorem YX : type_of% @List.prefix_iff_eq_take := @List.prefix_iff_eq_take
theorem YY : type_of% @List.getElem?_append_left := @List.getElem?_append_left
theorem YZ : type_of% @Bool.eq_iff_iff := @Bool.eq_iff_iff
theorem Y0 : type_of% @List.mem_filter := @List.mem_filter
theorem Y1 : type_of% @Array.getElem?_eq_none := @Array.getElem?_eq_none
theorem Y2 : type_of% @List.mem_of_mem_take := @List.mem_of_mem_take
theorem Y6 : type_of% @Nat.lt_or_ge := @Nat.lt_or_ge
theorem Y8 : type_of% @Option.some.injEq := @Option.some.injEq
theorem Y9 : type_of% @List.pairwise_iff_getElem := @List.pairwise_iff_getElem
theorem Xa : type_of% @Nat.zero_mul := @Nat.zero_mul
theorem Xb : type_of% @UInt8.toNat_inj := @UInt8.toNat_inj
theorem Xc : type_of% @or_false := @or_false
theorem Xh : type_of% @cell_of_row := @cell_of_row
theorem Xi : type_of% @getD_set_ne := @getD_set_ne
theorem Xj : type_of% @Array.getElem?_modify := @Array.getElem?_modify
theorem Xk : type_of% @List.contains_iff_mem := @List.contains_iff_mem
theorem Xl : type_of% @bne_iff_ne := @bne_iff_ne
theorem Xr : type_of% @List.getLast?_append := @List.getLast?_append
theorem Xs : type_of% @List.pairwise_cons := @List.pairwise_cons
theorem Xv : type_of% @Bool.true_and := @Bool.true_and
theorem XC : type_of% @List.any_eq_true := @List.any_eq_true
theorem XD : type_of% @List.getElem_map := @List.getElem_map
theorem XE : type_of% @List.length_pos_iff := @List.length_pos_iff
theorem XG : type_of% @List.takeWhile_prefix := @List.takeWhile_prefix
theorem XH : type_of% @World.frozen?_setCell := @World.frozen?_setCell
theorem XK : type_of% @List.mem_range := @List.mem_range
theorem XN : type_of% @Nat.lt_of_le_of_lt := @Nat.lt_of_le_of_lt
theorem XO : type_of% @List.getLast?_singleton := @List.getLast?_singleton
theorem XP : type_of% @List.mem_append_left := @List.mem_append_left
theorem XQ : type_of% @World.putObj_heap_other := @World.putObj_heap_other
theorem XR : type_of% @results_cell_row := @results_cell_row
theorem X0 : type_of% @List.flatten_cons := @List.flatten_cons
theorem X1 : type_of% @List.map_map := @List.map_map
theorem X2 : type_of% @ready_mono := @ready_mono
theorem X3 : type_of% @ByteArray.toList_eq := @ByteArray.toList_eq
theorem X9 : type_of% @List.length_set := @List.length_set
theorem Jg : type_of% @Nat.sub_le := @Nat.sub_le
theorem Jl : type_of% @cell_of_block := @cell_of_block
theorem Jm : type_of% @List.drop_zero := @List.drop_zero
theorem Jt : type_of% @Bool.not_eq_true' := @Bool.not_eq_true'
theorem Ju : type_of% @List.length_range := @List.length_range
theorem Jv : type_of% @decide_eq_false_iff_not := @decide_eq_false_iff_not
theorem Jw : type_of% @List.sum_append := @List.sum_append
theorem Jz : type_of% @Array.getD_eq_getD_getElem? := @Array.getD_eq_getD_getElem?
theorem JA : type_of% @Below.frozen := @Below.frozen
theorem JB : type_of% @List.getElem_cons_zero := @List.getElem_cons_zero
theorem JL : type_of% @wpOp_mono := @wpOp_mono
theorem JQ : type_of% @beq_iff_eq := @beq_iff_eq
theorem JR : type_of% @heap_alloc_old := @heap_alloc_old
theorem J9 : type_of% @if_true := @if_true
theorem Uf : type_of% @wpList_mapUpdate_own := @wpList_mapUpdate_own
theorem Ur : type_of% @Array.setIfInBounds_comm := @Array.setIfInBounds_comm
theorem UC : type_of% @List.isEmpty_iff := @List.isEmpty_iff
theorem Vq : type_of% @if_false := @if_false
theorem Vz : type_of% @And.intro := @And.intro
theorem VB : type_of% @List.length_singleton := @List.length_singleton
theorem VJ : type_of% @ownsRow_setCell_other := @ownsRow_setCell_other
theorem VP : type_of% @DataW.trod_string := @DataW.trod_string
theorem VQ : type_of% @Lib.laidMet.reads := @Lib.laidMet.reads
theorem Qy : type_of% @Nat.mul_comm := @Nat.mul_comm
theorem QR : type_of% @mem_ready := @mem_ready
theorem GA : type_of% @List.flatten_append := @List.flatten_append
theorem GV : type_of% @World.cell?_setCell_same := @World.cell?_setCell_same
theorem Kq : type_of% @List.head?_cons := @List.head?_cons
theorem Zaf : type_of% @Exists.intro := @Exists.intro
theorem Zak : type_of% @wp_loop_rounds := @wp_loop_rounds
theorem Zb7 : type_of% @ByteArray.size_append := @ByteArray.size_append
theorem Zb8 : type_of% @Below.refl := @Below.refl
theorem Zcr : type_of% @List.all_cons := @List.all_cons
theorem ZgF : type_of% @Nat.succ_pos := @Nat.succ_pos
theorem Zio : type_of% @Below.mono := @Below.mono
theorem Zip : type_of% @World.ownsRow.form := @World.ownsRow.form
theorem Zkq : type_of% @Classical.byContradiction := @Classical.byContradiction
theorem ZmW : type_of% @List.mem_flatten := @List.mem_flatten
theorem ZnP : type_of% @Bool.or_eq_true := @Bool.or_eq_true
theorem ZnU : type_of% @ownsRow_setCell_below := @ownsRow_setCell_below
end Go.Proofs.YtnlafkgkcnenfaaGreatDoor
