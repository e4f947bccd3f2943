/- Parts of the proof: contracts and plain laws. -/
import Derived.Test.YthlnaldahkgjnaaGreatDoorProg
import Derived.Test.YthlnaldahkgjnaaGreatDoorY00
namespace Go.Proofs.YthlnaldahkgjnaaGreatDoor
open Go Go.RowKit
set_option linter.unusedVariables false
set_option linter.unusedSimpArgs false
set_option maxRecDepth 100000
set_option maxHeartbeats 16000000
def isSp (c:Int):Bool:=decide (c=32∨c=9∨c=10∨c=13)
def isChar (r:Int):Bool:=decide (r=9∨r=10∨r=13∨(32≤r∧r≤55295)∨(57344≤r∧r≤65533)∨(65536≤r∧r≤1114111))
def dec (l:List UInt8):Nat×Nat:=
 if l= [] then (0,0) else if (Lib.decodeL l).1=65533∧(Lib.decodeL l).2=1 then (0,0) else Lib.decodeL l
def checkGo:Nat→Nat→List UInt8→Nat×Nat
 |0,at_,_=>(at_,0)
 |n+1,at_,l=>if l= [] then (at_,0) else if (dec l).2=0 then (at_,5) else if isChar (dec l).1=false then (at_,6) else checkGo n (at_+(dec l).2) (l.drop (dec l).2)
def check (l:List UInt8):Nat×Nat:=checkGo l.length 0 l
def collGo:List UInt8→List UInt8→Bool→List UInt8
 | [],out,_=>out
 |c::t,out,gap=>if isSp c.toNat then collGo t out (!out.isEmpty) else collGo t (out++(if gap then [32] else [])++ [c]) false
def coll (l:List UInt8):List UInt8:=collGo l [] false
def str (l:List UInt8):ByteArray:=⟨l.toArray⟩
@[simp] theorem str_list (l:List UInt8):(str l).data.toList=l:=by simp[str]
@[simp] theorem str_size (l:List UInt8):(str l).size=l.length:=by simp[str,ByteArray.size]
theorem str_of (s:ByteArray):str s.data.toList=s:=by simp[str]
def collapse (s:ByteArray):ByteArray:=str (coll s.data.toList)
def checkS (s:ByteArray):Nat×Nat:=check s.data.toList
def validS (s:ByteArray):Bool:=decide ((checkS s).2=0) && ((collapse s).data.toList==s.data.toList)
theorem decodeL_nat (l:List UInt8):Lib.decodeL l=Lib.decodeN l.length (l.getD 0 0).toNat (l.getD 1 0).toNat (l.getD 2 0).toNat (l.getD 3 0).toNat:=by
 unfold Lib.decodeL
 rw[Lib.decode_at]
 have h:∀k,(ByteArray.mk l.toArray).get! k=l.getD k 0:=by
  intro k
  simp[ByteArray.get!,List.getD_eq_getElem?_getD]
  rfl
 simp only[h]
 simp[ByteArray.size]
theorem decodeN_len (n b0 b1 b2 b3:Nat) (hn:1≤n):1≤(Lib.decodeN n b0 b1 b2 b3).2∧(Lib.decodeN n b0 b1 b2 b3).2≤n:=by
 unfold Lib.decodeN
 repeat' split
 all_goals (simp only[];omega)
theorem dec_le (l:List UInt8):(dec l).2≤l.length:=by
 unfold dec
 by_cases h:l= []
 ·simp[h]
 ·rw[if_neg h]
  have hl:1≤l.length:=List.length_pos_iff.2 h
  split
  ·simp
  ·rw[decodeL_nat];exact (decodeN_len _ _ _ _ _ hl).2
theorem check_step (n k:Nat) (l:List UInt8) (hl:l≠ []):checkGo (n+1) k l=if (dec l).2=0 then (k,5) else if isChar (dec l).1=false then (k,6) else checkGo n (k+(dec l).2) (l.drop (dec l).2):=by
 simp only[checkGo,if_neg hl]
theorem checkGo_fuel:∀(n m k:Nat) (l:List UInt8),l.length≤n→l.length≤m→checkGo n k l=checkGo m k l
 |0,m,k,l,h,_=>by
  have hl:l= []:=List.eq_nil_of_length_eq_zero (by omega)
  subst hl
  cases m<;>simp[checkGo]
 |n+1,0,k,l,_,h=>by
  have hl:l= []:=List.eq_nil_of_length_eq_zero (by omega)
  subst hl
  simp[checkGo]
 |n+1,m+1,k,l,h1,h2=>by
  by_cases hl:l= []
  ·subst hl;simp[checkGo]
  ·rw[check_step n k l hl,check_step m k l hl]
   by_cases h0:(dec l).2=0
   ·rw[if_pos h0,if_pos h0]
   ·rw[if_neg h0,if_neg h0]
    by_cases hc:isChar (dec l).1=false
    ·rw[if_pos hc,if_pos hc]
    ·rw[if_neg hc,if_neg hc]
     exact checkGo_fuel n m _ _ (by simp;omega) (by simp;omega)
theorem check_nil (n k:Nat):checkGo n k []=(k,0):=by cases n<;>simp[checkGo]
theorem check_at (l:List UInt8) (k:Nat) (hk:k<l.length):checkGo l.length k (l.drop k)=if (dec (l.drop k)).2=0 then (k,5) else if isChar (dec (l.drop k)).1=false then (k,6) else checkGo l.length (k+(dec (l.drop k)).2) (l.drop (k+(dec (l.drop k)).2)):=by
 have hne:l.drop k≠ []:=by intro h;have:=congrArg List.length h;simp at this;omega
 obtain ⟨n,hn⟩:∃n,l.length=n+1:=⟨l.length - 1,by omega⟩
 rw[show checkGo l.length k (l.drop k)=checkGo (n+1) k (l.drop k) by rw[hn],check_step n k _ hne,List.drop_drop]
 by_cases h0:(dec (l.drop k)).2=0
 ·rw[if_pos h0,if_pos h0]
 ·rw[if_neg h0,if_neg h0]
  by_cases hc:isChar (dec (l.drop k)).1=false
  ·rw[if_pos hc,if_pos hc]
  ·rw[if_neg hc,if_neg hc]
   exact checkGo_fuel _ _ _ _ (by rw[List.length_drop];omega) (by rw[List.length_drop];omega)
theorem check_end (l:List UInt8) (k:Nat) (hk:l.length≤k):checkGo l.length k (l.drop k)=(k,0):=by
 rw[List.drop_of_length_le hk];exact check_nil _ _
def Ext (w w':World):Prop:=Below w.heap.size w w'
theorem Ext.refl (w:World):Ext w w:=Below.refl _ _
theorem Ext.size {a b:World} (h:Ext a b):a.heap.size≤b.heap.size:=Below.size h
theorem Ext.trans {a b c:World} (h:Ext a b) (k:Ext b c):Ext a c:=Below.trans h (Below.mono k h.size)
theorem Ext.drew {a b:World} (h:Ext a b):Ext a b.drew:=Below.drew h
theorem Ext.alloc {a b:World} (h:Ext a b) (o:Obj):Ext a (b.alloc o):=Below.alloc h h.size o
theorem Ext.setCell {a b:World} (h:Ext a b) {p:Addr} (hp:a.heap.size≤p.block) (u:Value):Ext a (b.setCell p u):=Below.setCell h hp u
theorem Ext.then {a b c:World} (h:Ext a b) (k:Below a.heap.size b c):Ext a c:=Below.trans h k
theorem Ext.cell {a b:World} (h:Ext a b) {p:Addr} {v:Value} (hc:a.cell? p=some v):b.cell? p=some v:=
 (Below.cell h (World.block_lt_of_cell? a p hc)).trans hc
theorem Ext.heap {a b:World} (h:Ext a b) {k:Nat} {o:Obj} (hc:a.heap[k]? =some o):b.heap[k]? =some o:=
 (Below.block h k (Array.getElem?_eq_some_iff.1 hc).1).trans hc
theorem Ext.grown {a b:World} (h:Ext a b) (row:Option Nat):a.grownBy b row:=⟨h.os,h.tape,h.output,h.size,fun k hk _=>Below.block h k hk⟩
theorem toList_data (s:ByteArray):s.toList=s.data.toList:=ByteArray.toList_eq s
theorem toList_beq (a b:ByteArray):(a.toList==b.toList)=(a.data.toList==b.data.toList):=by rw[toList_data,toList_data]
theorem bytes_inj {a b:ByteArray} (h:a.data.toList=b.data.toList):a=b:=by
 cases a;cases b
 congr
 exact Array.toList_inj.1 h
theorem ret_int {k:IntKind} {a b:Int} (h:a=b):Ending.returned (.int k a)= .returned (.int k b):=by rw[h]
theorem ret2_eq {k k':IntKind} {a b c d:Int} (h:a=b) (h':c=d):Ending.returned (.tuple #[.int k a,.int k' c])= .returned (.tuple #[.int k b,.int k' d]):=by rw[h,h']
structure Env (w:World):Prop where
 utf8:Lib.Utf8Tabs 1 2 w
 pow : Lib.TabIs Tryz.prog w "internal/strconv.uint64pow10" .u64 Lib.pow10Tab
 size:6≤w.heap.size
 letters:∃t fr,w.heap[3]? =some (.cells #[.int .u8 98,.int .u8 8,.int .u8 102,.int .u8 12,.int .u8 110,.int .u8 10,.int .u8 114,.int .u8 13,.int .u8 116,.int .u8 9] t fr)
theorem gPow : Tryz.prog.globalNamed "internal/strconv.uint64pow10" = some 0 := by kernel_rfl
theorem Env.ext {w w':World} (hE:Env w) (h:Ext w w'):Env w':=by
 obtain ⟨h1,h2,h3,h4⟩:=hE
 refine ⟨⟨fun c hc=>h.cell (h1.1 c hc),fun i hi=>⟨h.cell (h1.2 i hi).1,h.cell (h1.2 i hi).2⟩⟩,?_,Nat.le_trans h3 h.size,?_⟩
 ·exact var?_below (B:=w.heap.size) h gPow (by omega) h2
 ·obtain ⟨t,fr,hl⟩:=h4
  exact ⟨t,fr,h.heap hl⟩
theorem Env.drew {w:World} (hE:Env w):Env w.drew:=hE.ext (Ext.refl w).drew
theorem Env.alloc {w:World} (hE:Env w) (o:Obj):Env (w.alloc o):=hE.ext ((Ext.refl w).alloc o)
theorem block_of_add (a:Addr) (n:Nat):(a.add n).block=a.block:=by unfold Addr.add;split<;>rfl
theorem add_zero (a:Addr):a.add 0=a:=by unfold Addr.add;simp
structure RSl (w:World) (size:Nat) (v:Value) (n:Nat) (xs:List Value):Prop where
 len:xs.length=n*size
 form:∃A c,v= .slice A n c∧n≤c∧c≤maxLen∧(A=none→c=0)∧∀j u,xs[j]? =some u→∃ad,A=some ad∧w.cell? (ad.add j)=some u
theorem RSl.ext {w w':World} {size n:Nat} {v:Value} {xs:List Value} (h:RSl w size v n xs) (hx:Ext w w'):RSl w' size v n xs:=by
 obtain ⟨h1,A,c,e,h2,h3,h4,h5⟩:=h
 exact ⟨h1,A,c,e,h2,h3,h4,fun j u hu=>let ⟨ad,ha,hc⟩:=h5 j u hu;⟨ad,ha,hx.cell hc⟩⟩
theorem RSl.nil (w:World) (size:Nat):RSl w size (.slice none 0 0) 0 []:=⟨by simp,none,0,rfl,Nat.le_refl _,Nat.zero_le _,fun _=>rfl,fun j u hu=>by simp at hu⟩
theorem RSl.of_own {w:World} {base size n:Nat} {e:TypeId} {v:Value} {xs:List Value} (h:w.ownsRow base e size v n xs):RSl w size v n xs:=by
 refine ⟨h.1,?_⟩
 rcases h.2 with ⟨rfl,rfl⟩|⟨g,cap,cur,rfl,hb,hg,hn,hm,hs,ht⟩
 ·exact ⟨none,0,rfl,Nat.le_refl _,Nat.zero_le _,fun _=>rfl,fun j u hu=>by have:=h.1;simp at this;subst this;simp at hu⟩
 ·exact ⟨some ⟨g,0,none⟩,cap,rfl,hn,hm,(fun e=>by cases e),fun j u hu=>⟨_,rfl,h.cells (g:=g) rfl j u hu⟩⟩
structure Aft (W:World) where
 w:World
 ext:Ext W w
instance (W:World):Nonempty (Aft W):=⟨⟨W,Ext.refl W⟩⟩
theorem wp_region_aft {P:Program} {id:Nat} {Q:Exit→Act→World→Prop} {a:Act} {w:World} {l:List Oper} (hm:P.follows .mixedOrders=true) (hB:Region.lexB .any l.toArray=true)
 (h:wpQuiet P l.toArray (fun w'=>∃d:Aft w,w'=d.w) (fun a'=>∀w',(∃d:Aft w,w'=d.w)→Q .normal a' w') l a):(Code.region id l.toArray true).wp P Q a w:=
 wp_region_quiet (C:=fun w'=>∃d:Aft w,w'=d.w) hm hB ⟨⟨_,(Ext.refl w).drew⟩,rfl⟩ (by simpa using h)
theorem quiet_call {P:Program} {f:FuncId} {args:Array Value} {W:World} {d:Aft W} {v:Value} (h:Calls P f args d.w fun e w'=>e= .returned v∧Ext d.w w'):Calls P f args d.w fun e w'=>e= .returned v∧∃d:Aft W,w'=d.w:=
 h.mono fun _ w' ⟨he,h'⟩=>⟨he,⟨w',d.ext.trans h'⟩,rfl⟩
theorem quiet_call_same' {P:Program} {f:FuncId} {args:Array Value} {W:World} {d:Aft W} {v:Value} (h:Calls P f args d.w fun e w'=>e= .returned v∧w'=d.w):Calls P f args d.w fun e w'=>e= .returned v∧∃d:Aft W,w'=d.w:=
 h.mono fun _ _ ⟨he,h'⟩=>⟨he,d,h'⟩
theorem Aft.cell {W:World} {p:Addr} {v:Value} (hc:W.cell? p=some v) (d:Aft W):d.w.cell? p=some v:=d.ext.cell hc
theorem step_store_row {P:Program} {ops:Array Oper} {o:Oper} {a:Act} {w:World} {K:Act→World→Prop} {Q:Exit→Act→World→Prop} {E:Prop} (hgd:o.guard=none) (ty:TypeId) (x y:Operand) (ho:o.op= .store ty x y)
 (g:Nat) (cells:Array Value) (hx:a.eval x= .pointer (some ⟨g,0,none⟩)) (hy:a.eval y= .agg cells)
 (t:TypeId) (old:Array Value) (hg:w.heap[g]? =some (.cells old t (0,0))) (hi:(P.info? ty).map (·.size)=some cells.size)
 (hold:old.size=cells.size) (h1:cells.all (·.oneCell')=true)
 (h:K (a.put o.dst undef) (w.setRow g cells)):if Region.wanted o (yielded ops a.tmps)=true then Oper.wp P o a w K Q else E:=by
 have hw:Region.wanted o (yielded ops a.tmps)=true:=by simp[Region.wanted,hgd]
 rw[if_pos hw]
 exact wp_store_row ty x y ho g cells hx hy t old hg hi hold h1 h
theorem blk5 {w:World} {g:Nat} {a b c d e:Value} {t:TypeId} {fr:Nat×Nat} (h:w.heap[g]? =some (.cells #[a,b,c,d,e] t fr)):
 w.cell? ⟨g,0,none⟩=some a∧w.cell? ⟨g,1,none⟩=some b∧w.cell? ⟨g,2,none⟩=some c∧w.cell? ⟨g,3,none⟩=some d∧w.cell? ⟨g,4,none⟩=some e:=by
 refine ⟨?_,?_,?_,?_,?_⟩<;>(rw[cell_of_row _ _ _ _ _ _ h];rfl)
section
section
variable {P:Program} {ops:Array Oper} {W:World}
def calm1 (P:Program) (W:World) (o:Oper) (a:Act) (next:Act→Prop):Prop:=∃v,(∀c:Aft W,o.quietAt P a (fun w'=>∃e:Aft c.w,w'=e.w) c.w v)∧next (a.put o.dst v)
end
section
variable {P:Program} {ops:Array Oper} {md:Region.Mode} {W:World} {p n:Nat} {d:Option Tmp}
end
end
section
section
variable {P:Program} {ops:Array Oper} {md:Region.Mode} {Q:Exit→Act→World→Prop} {S:World→Prop} {t:Nat}
def wpAnyT (P:Program) (md:Region.Mode) (ops:Array Oper) (Q:Exit→Act→World→Prop) (S:World→Prop) (t:Nat):Nat→Array Bool→Act→World→Prop
 |0,listed,a,w=>Region.ready md ops listed= []∧Q .normal a w
 |f+1,listed,a,w=>(Region.ready md ops listed= []→Q .normal a w)∧
  ∀i∈Region.ready md ops listed,wpOp P ops Q i (fun a' w'=>((listed.setIfInBounds i true).getD t true=false→S w')∧wpAnyT P md ops Q S t f (listed.setIfInBounds i true) a' w') a w
theorem wpAny_of_T:∀(f:Nat) (listed:Array Bool) (a:Act) (w:World),wpAnyT P md ops Q S t f listed a w→wpAny P md ops Q f listed a w
 |0,_,_,_,h=>h
 |f+1,_,_,_,h=>⟨h.1,fun i hi=>wpOp_mono (fun a' w' h'=>wpAny_of_T f _ a' w' h'.2) (h.2 i hi)⟩
theorem wpAny_first_load {i:Nat} {oi:Oper} {v:Value} (hi:ops[i]? =some oi) (hsel:∀(j:Nat) (o:Oper) cs b,ops[j]? =some o→o.op≠ .select cs b)
 (hQ:∀c a w,Q (.panic c) (a.put oi.dst v) w→Q (.panic c) a w) (hit:i≠t) (hwt:∀ot,ops[t]? =some ot→∃e∈ot.after,Region.binds md e=true∧e.on=i):
 ∀(fuel:Nat) (listed:Array Bool) (a:Act) (w:World),listed.getD t true=false→
  (∀j oj,ops[j]? =some oj→j≠i→listed.getD j true=false→(∀e∈oj.after,Region.binds md e=true→e.on≠i)→oi.apart ops oj=true)→
  i∈Region.ready md ops listed→YieldsIf P ops S oi v a→S w→
  wpAnyT P md ops Q S t fuel (listed.setIfInBounds i true) (a.put oi.dst v) w→wpAny P md ops Q (fuel+1) listed a w:=by
 intro fuel
 induction fuel with
 |zero=>
  intro listed a w _ _ hr hy hS H
  refine ⟨fun h=>(by rw[h] at hr;cases hr),fun j hj=> ?_⟩
  by_cases hji:j=i
  ·subst hji;exact hy.wpOp hi hS H
  ·have:=ready_mono hj hji
   rw[H.1] at this
   cases this
 |succ fuel ih=>
  intro listed a w htl hfree hr hy hS H
  refine ⟨fun h=>(by rw[h] at hr;cases hr),fun j hj=> ?_⟩
  by_cases hji:j=i
  ·subst hji;exact hy.wpOp hi hS (wpAny_of_T _ _ _ _ H)
  ·have h1:=H.2 j (ready_mono hj hji)
   obtain ⟨hjun,oj,hoj,hall⟩:=mem_ready.1 hj
   have hun:=(mem_ready.1 hr).1
   have hnot:∀e∈oj.after,Region.binds md e=true→e.on≠i:=fun e he hb heq=>by
    have h1:=hall e he hb
    rw[heq,getD_both hun] at h1
    cases h1
   have hjt:j≠t:=fun e=>by
    subst e
    obtain ⟨e,he,hb,hon⟩:=hwt oj hoj
    exact hnot e he hb hon
   have h2:=wpOp_putIf hoj (hfree j oj hoj hji hjun hnot) (fun cs b=>hsel i oi cs b hi) (fun cs b=>hsel j oj cs b hoj) hQ hy h1
   have hfree':∀k ok,ops[k]? =some ok→k≠i→(listed.setIfInBounds j true).getD k true=false→
    (∀e∈ok.after,Region.binds md e=true→e.on≠i)→oi.apart ops ok=true:=fun k ok hk hki hunk hno=>by
    refine hfree k ok hk hki ?_ hno
    by_cases hjk:j=k
    ·subst hjk;exact hjun
    ·rw[getD_set_ne true hjk] at hunk;exact hunk
   have htl':(listed.setIfInBounds j true).getD t true=false:=by rw[getD_set_ne true hjt];exact htl
   have htl2:((listed.setIfInBounds i true).setIfInBounds j true).getD t true=false:=by rw[getD_set_ne true hjt,getD_set_ne true hit];exact htl
   refine wpOp_mono (fun a' w' h3=>ih (listed.setIfInBounds j true) a' w' htl' hfree' (ready_mono hr (Ne.symm hji)) h3.1 (h3.2.1 htl2) ?_) h2
   rw[Array.setIfInBounds_comm _ _ hji]
   exact h3.2.2
theorem wpAny_takeL {l:List Oper} {i:Nat} {oi:Oper} {v:Value} {fuel:Nat} {listed:Array Bool} {a:Act} {w:World} (hi:l[i]? =some oi)
 (hB:(Region.noSelect l.toArray && Region.free md l.toArray listed i && (Region.ready md l.toArray listed).contains i)=true)
 (hQ:∀c a w,Q (.panic c) (a.put oi.dst v) w→Q (.panic c) a w) (hy:Yields P l.toArray oi v a)
 (h:wpAny P md l.toArray Q fuel (listed.setIfInBounds i true) (a.put oi.dst v) w):wpAny P md l.toArray Q (fuel+1) listed a w:=by
 simp only[Bool.and_eq_true] at hB
 exact wpAny_take (by rw[List.getElem?_toArray];exact hi) hB.1.1 hB.1.2 hB.2 hQ hy h
theorem wpAny_load {l:List Oper} {i:Nat} {oi:Oper} {v:Value} {fuel:Nat} {listed:Array Bool} {a:Act} {w:World} (S:World→Prop) (t:Nat) (hi':l[i]? =some oi)
 (hB:(Region.noSelect l.toArray && decide (i≠t) && Region.waitsFor md l.toArray t i && !listed.getD t true && Region.free md l.toArray listed i && (Region.ready md l.toArray listed).contains i)=true)
 (hQ:∀c a w,Q (.panic c) (a.put oi.dst v) w→Q (.panic c) a w) (hy:YieldsIf P l.toArray S oi v a) (hS:S w)
 (h:wpAnyT P md l.toArray Q S t fuel (listed.setIfInBounds i true) (a.put oi.dst v) w):wpAny P md l.toArray Q (fuel+1) listed a w:=by
 have hi:l.toArray[i]? =some oi:=by rw[List.getElem?_toArray];exact hi'
 simp only[Bool.and_eq_true,decide_eq_true_eq,Bool.not_eq_true'] at hB
 obtain ⟨⟨⟨⟨⟨b1,b2⟩,b3⟩,b4⟩,b5⟩,b6⟩:=hB
 obtain ⟨ot,hot,e,he,hb,hon⟩:=Region.waitsFor_spec b3
 exact wpAny_first_load hi (Region.noSelect_spec b1) hQ b2 (fun ot' ho'=>by
  have:ot'=ot:=Option.some.inj (ho'.symm.trans hot)
  subst this
  exact ⟨e,he,hb,hon⟩) fuel listed a w b4 (Region.free_spec hi b5) (by simpa using b6) hy hS h
end
end
section
section
variable {P:Program} {md:Region.Mode} {Q:Exit→Act→World→Prop} {S:World→Prop}
theorem wpAnyT_first_load {ops:Array Oper} {t i:Nat} {oi:Oper} {v:Value} (hi:ops[i]? =some oi) (hsel:∀(j:Nat) (o:Oper) cs b,ops[j]? =some o→o.op≠ .select cs b)
 (hQ:∀c a w,Q (.panic c) (a.put oi.dst v) w→Q (.panic c) a w) (hit:i≠t) (hwt:∀ot,ops[t]? =some ot→∃e∈ot.after,Region.binds md e=true∧e.on=i):
 ∀(fuel:Nat) (listed:Array Bool) (a:Act) (w:World),listed.getD t true=false→
  (∀j oj,ops[j]? =some oj→j≠i→listed.getD j true=false→(∀e∈oj.after,Region.binds md e=true→e.on≠i)→oi.apart ops oj=true)→
  i∈Region.ready md ops listed→YieldsIf P ops S oi v a→S w→
  wpAnyT P md ops Q S t fuel (listed.setIfInBounds i true) (a.put oi.dst v) w→wpAnyT P md ops Q S t (fuel+1) listed a w:=by
 intro fuel
 induction fuel with
 |zero=>
  intro listed a w _ _ hr hy hS H
  refine ⟨fun h=>(by rw[h] at hr;cases hr),fun j hj=> ?_⟩
  by_cases hji:j=i
  ·subst hji;exact hy.wpOp hi hS ⟨fun _=>hS,H⟩
  ·have:=ready_mono hj hji
   rw[H.1] at this
   cases this
 |succ fuel ih=>
  intro listed a w htl hfree hr hy hS H
  refine ⟨fun h=>(by rw[h] at hr;cases hr),fun j hj=> ?_⟩
  by_cases hji:j=i
  ·subst hji;exact hy.wpOp hi hS ⟨fun _=>hS,H⟩
  ·have h1:=H.2 j (ready_mono hj hji)
   obtain ⟨hjun,oj,hoj,hall⟩:=mem_ready.1 hj
   have hun:=(mem_ready.1 hr).1
   have hnot:∀e∈oj.after,Region.binds md e=true→e.on≠i:=fun e he hb heq=>by
    have h1:=hall e he hb
    rw[heq,getD_both hun] at h1
    cases h1
   have hjt:j≠t:=fun e=>by
    subst e
    obtain ⟨e,he,hb,hon⟩:=hwt oj hoj
    exact hnot e he hb hon
   have h2:=wpOp_putIf hoj (hfree j oj hoj hji hjun hnot) (fun cs b=>hsel i oi cs b hi) (fun cs b=>hsel j oj cs b hoj) hQ hy h1
   have hfree':∀k ok,ops[k]? =some ok→k≠i→(listed.setIfInBounds j true).getD k true=false→
    (∀e∈ok.after,Region.binds md e=true→e.on≠i)→oi.apart ops ok=true:=fun k ok hk hki hunk hno=>by
    refine hfree k ok hk hki ?_ hno
    by_cases hjk:j=k
    ·subst hjk;exact hjun
    ·rw[getD_set_ne true hjk] at hunk;exact hunk
   have htl':(listed.setIfInBounds j true).getD t true=false:=by rw[getD_set_ne true hjt];exact htl
   have htl2:((listed.setIfInBounds i true).setIfInBounds j true).getD t true=false:=by rw[getD_set_ne true hjt,getD_set_ne true hit];exact htl
   refine wpOp_mono (fun a' w' h3=>⟨fun _=>h3.2.1 htl2,ih (listed.setIfInBounds j true) a' w' htl' hfree' (ready_mono hr (Ne.symm hji)) h3.1 (h3.2.1 htl2) ?_⟩) h2
   rw[Array.setIfInBounds_comm _ _ hji]
   exact h3.2.2
theorem wpAnyT_load {l:List Oper} {i t:Nat} {oi:Oper} {v:Value} {fuel:Nat} {listed:Array Bool} {a:Act} {w:World} (hi':l[i]? =some oi)
 (hB:(Region.noSelect l.toArray && decide (i≠t) && Region.waitsFor md l.toArray t i && !listed.getD t true && Region.free md l.toArray listed i && (Region.ready md l.toArray listed).contains i)=true)
 (hQ:∀c a w,Q (.panic c) (a.put oi.dst v) w→Q (.panic c) a w) (hy:YieldsIf P l.toArray S oi v a) (hS:S w)
 (h:wpAnyT P md l.toArray Q S t fuel (listed.setIfInBounds i true) (a.put oi.dst v) w):wpAnyT P md l.toArray Q S t (fuel+1) listed a w:=by
 have hi:l.toArray[i]? =some oi:=by rw[List.getElem?_toArray];exact hi'
 simp only[Bool.and_eq_true,decide_eq_true_eq,Bool.not_eq_true'] at hB
 obtain ⟨⟨⟨⟨⟨b1,b2⟩,b3⟩,b4⟩,b5⟩,b6⟩:=hB
 obtain ⟨ot,hot,e,he,hb,hon⟩:=Region.waitsFor_spec b3
 exact wpAnyT_first_load hi (Region.noSelect_spec b1) hQ b2 (fun ot' ho'=>by
  have:ot'=ot:=Option.some.inj (ho'.symm.trans hot)
  subst this
  exact ⟨e,he,hb,hon⟩) fuel listed a w b4 (Region.free_spec hi b5) (by simpa using b6) hy hS h
end
end
section
section
variable {P:Program} {md:Region.Mode} {Q:Exit→Act→World→Prop} {S:World→Prop}
def wpAnyS (P:Program) (md:Region.Mode) (ops:Array Oper) (Q:Exit→Act→World→Prop) (S:World→Prop):Nat→Array Bool→Act→World→Prop
 |0,listed,a,w=>Region.ready md ops listed= []∧Q .normal a w
 |f+1,listed,a,w=>(Region.ready md ops listed= []→Q .normal a w)∧
  ∀i∈Region.ready md ops listed,wpOp P ops Q i (fun a' w'=>S w'∧wpAnyS P md ops Q S f (listed.setIfInBounds i true) a' w') a w
theorem wpAny_of_S {ops:Array Oper} (S:World→Prop):∀{f:Nat} {listed:Array Bool} {a:Act} {w:World},wpAnyS P md ops Q S f listed a w→wpAny P md ops Q f listed a w
 |0,_,_,_,h=>h
 |_+1,_,_,_,h=>⟨h.1,fun i hi=>wpOp_mono (fun _ _ h'=>wpAny_of_S S h'.2) (h.2 i hi)⟩
theorem wpAnyS_first {ops:Array Oper} {i:Nat} {oi:Oper} {v:Value} (hi:ops[i]? =some oi) (hsel:∀(j:Nat) (o:Oper) cs b,ops[j]? =some o→o.op≠ .select cs b)
 (hQ:∀c a w,Q (.panic c) (a.put oi.dst v) w→Q (.panic c) a w):
 ∀(fuel:Nat) (listed:Array Bool) (a:Act) (w:World),
  (∀j oj,ops[j]? =some oj→j≠i→listed.getD j true=false→(∀e∈oj.after,Region.binds md e=true→e.on≠i)→oi.apart ops oj=true)→
  i∈Region.ready md ops listed→YieldsIf P ops S oi v a→S w→
  wpAnyS P md ops Q S fuel (listed.setIfInBounds i true) (a.put oi.dst v) w→wpAnyS P md ops Q S (fuel+1) listed a w:=by
 intro fuel
 induction fuel with
 |zero=>
  intro listed a w _ hr hy hS H
  refine ⟨fun h=>(by rw[h] at hr;cases hr),fun j hj=> ?_⟩
  by_cases hji:j=i
  ·subst hji;exact hy.wpOp hi hS ⟨hS,H⟩
  ·have:=ready_mono hj hji
   rw[H.1] at this
   cases this
 |succ fuel ih=>
  intro listed a w hfree hr hy hS H
  refine ⟨fun h=>(by rw[h] at hr;cases hr),fun j hj=> ?_⟩
  by_cases hji:j=i
  ·subst hji;exact hy.wpOp hi hS ⟨hS,H⟩
  ·have h1:=H.2 j (ready_mono hj hji)
   obtain ⟨hjun,oj,hoj,hall⟩:=mem_ready.1 hj
   have hun:=(mem_ready.1 hr).1
   have hnot:∀e∈oj.after,Region.binds md e=true→e.on≠i:=fun e he hb heq=>by
    have h1:=hall e he hb
    rw[heq,getD_both hun] at h1
    cases h1
   have h2:=wpOp_putIf hoj (hfree j oj hoj hji hjun hnot) (fun cs b=>hsel i oi cs b hi) (fun cs b=>hsel j oj cs b hoj) hQ hy h1
   have hfree':∀k ok,ops[k]? =some ok→k≠i→(listed.setIfInBounds j true).getD k true=false→
    (∀e∈ok.after,Region.binds md e=true→e.on≠i)→oi.apart ops ok=true:=fun k ok hk hki hunk hno=>by
    refine hfree k ok hk hki ?_ hno
    by_cases hjk:j=k
    ·subst hjk;exact hjun
    ·rw[getD_set_ne true hjk] at hunk;exact hunk
   refine wpOp_mono (fun a' w' h3=>⟨h3.2.1,ih (listed.setIfInBounds j true) a' w' hfree' (ready_mono hr (Ne.symm hji)) h3.1 h3.2.1 ?_⟩) h2
   rw[Array.setIfInBounds_comm _ _ hji]
   exact h3.2.2
theorem wpAnyS_take {l:List Oper} {i:Nat} {oi:Oper} {v:Value} {fuel:Nat} {listed:Array Bool} {a:Act} {w:World} (hi':l[i]? =some oi)
 (hB:(Region.noSelect l.toArray && Region.free md l.toArray listed i && (Region.ready md l.toArray listed).contains i)=true)
 (hQ:∀c a w,Q (.panic c) (a.put oi.dst v) w→Q (.panic c) a w) (hy:YieldsIf P l.toArray S oi v a) (hS:S w)
 (h:wpAnyS P md l.toArray Q S fuel (listed.setIfInBounds i true) (a.put oi.dst v) w):wpAnyS P md l.toArray Q S (fuel+1) listed a w:=by
 have hi:l.toArray[i]? =some oi:=by rw[List.getElem?_toArray];exact hi'
 simp only[Bool.and_eq_true] at hB
 obtain ⟨⟨b1,b5⟩,b6⟩:=hB
 exact wpAnyS_first hi (Region.noSelect_spec b1) hQ fuel listed a w (Region.free_spec hi b5) (by simpa using b6) hy hS h
theorem wpAnyS_step {l:List Oper} {i fuel:Nat} {o:Oper} {listed:Array Bool} {a:Act} {w:World} (ho:l[i]? =some o) (hr:Region.ready md l.toArray listed= [i])
 (h:∀K:Act→World→Prop,(∀a' w',S w'→wpAnyS P md l.toArray Q S fuel (listed.setIfInBounds i true) a' w'→K a' w')→if Region.wanted o (yielded l.toArray a.tmps) then Oper.wp P o a w K Q else K (a.put o.dst undef) w):wpAnyS P md l.toArray Q S (fuel+1) listed a w:=by
 have ho':l.toArray[i]? =some o:=by rw[List.getElem?_toArray];exact ho
 have h':=h (fun a' w'=>S w'∧wpAnyS P md l.toArray Q S fuel (listed.setIfInBounds i true) a' w') fun _ _ h1 h2=>⟨h1,h2⟩
 refine ⟨fun h=>(by rw[hr] at h;cases h),fun k hk=> ?_⟩
 rw[hr] at hk
 rw[List.mem_singleton.1 hk]
 unfold wpOp
 simp only[ho']
 split
 ·rename_i hw;rw[if_pos hw] at h';exact Or.inl h'
 ·rename_i hw;rw[if_neg hw] at h';exact h'
theorem wpAnyS_end {ops:Array Oper} {listed:Array Bool} {a:Act} {w:World} (hr:Region.ready md ops listed= []) (h:wpList P ops Q [] a w):wpAnyS P md ops Q S 0 listed a w:=⟨hr,h⟩
end
end
section
section
variable {P:Program} {md:Region.Mode} {Q:Exit→Act→World→Prop} {F:Array Bool→World→Prop}
def wpAnyM (P:Program) (md:Region.Mode) (ops:Array Oper) (Q:Exit→Act→World→Prop) (F:Array Bool→World→Prop):Nat→Array Bool→Act→World→Prop
 |0,listed,a,w=>Region.ready md ops listed= []∧Q .normal a w
 |f+1,listed,a,w=>(Region.ready md ops listed= []→Q .normal a w)∧
  ∀i∈Region.ready md ops listed,wpOp P ops Q i (fun a' w'=>F (listed.setIfInBounds i true) w'∧wpAnyM P md ops Q F f (listed.setIfInBounds i true) a' w') a w
theorem wpAnyM_step {l:List Oper} {i fuel:Nat} {o:Oper} {listed:Array Bool} {a:Act} {w:World} (ho:l[i]? =some o) (hr:Region.ready md l.toArray listed= [i])
 (h:∀K:Act→World→Prop,(∀a' w',F (listed.setIfInBounds i true) w'→wpAnyM P md l.toArray Q F fuel (listed.setIfInBounds i true) a' w'→K a' w')→if Region.wanted o (yielded l.toArray a.tmps) then Oper.wp P o a w K Q else K (a.put o.dst undef) w):wpAnyM P md l.toArray Q F (fuel+1) listed a w:=by
 have ho':l.toArray[i]? =some o:=by rw[List.getElem?_toArray];exact ho
 have h':=h (fun a' w'=>F (listed.setIfInBounds i true) w'∧wpAnyM P md l.toArray Q F fuel (listed.setIfInBounds i true) a' w') fun _ _ h1 h2=>⟨h1,h2⟩
 refine ⟨fun h=>(by rw[hr] at h;cases h),fun k hk=> ?_⟩
 rw[hr] at hk
 rw[List.mem_singleton.1 hk]
 unfold wpOp
 simp only[ho']
 split
 ·rename_i hw;rw[if_pos hw] at h';exact Or.inl h'
 ·rename_i hw;rw[if_neg hw] at h';exact h'
end
end
section
section
variable {P:Program} {md:Region.Mode} {Q:Exit→Act→World→Prop} {S:World→Prop} {l:List Oper} {oi:Oper} {fuel:Nat} {listed:Array Bool} {a:Act} {w:World} {t:Nat}
theorem tS (i:Nat) (v:Value) (hi:l[i]? =some oi) (hr:∀w',S w'→(execOp a.eval oi).run P w'= .ok (.value v) w') (hS:S w) (h:wpAnyS P md l.toArray Q S fuel (listed.setIfInBounds i true) (a.put oi.dst v) w)
 (hB:(Region.noSelect l.toArray && Region.free md l.toArray listed i && (Region.ready md l.toArray listed).contains i)=true:=by kernel_rfl) (hQ:∀c a w,Q (.panic c) (a.put oi.dst v) w→Q (.panic c) a w:=by exact fun _ _ _ h=>h)
 (hw:Region.wanted oi (yielded l.toArray a.tmps)=true:=by rfl):wpAnyS P md l.toArray Q S (fuel+1) listed a w:=wpAnyS_take (i:=i) (v:=v) hi hB hQ (Or.inl ⟨hw,hr⟩) hS h
theorem tL (i:Nat) (v:Value) (hi:l[i]? =some oi) (hr:∀w',(execOp a.eval oi).run P w'= .ok (.value v) w') (h:wpAny P md l.toArray Q fuel (listed.setIfInBounds i true) (a.put oi.dst v) w)
 (hB:(Region.noSelect l.toArray && Region.free md l.toArray listed i && (Region.ready md l.toArray listed).contains i)=true:=by kernel_rfl) (hQ:∀c a w,Q (.panic c) (a.put oi.dst v) w→Q (.panic c) a w:=by exact fun _ _ _ h=>h)
 (hw:Region.wanted oi (yielded l.toArray a.tmps)=true:=by rfl):wpAny P md l.toArray Q (fuel+1) listed a w:=wpAny_takeL (i:=i) (v:=v) hi hB hQ (Or.inl ⟨hw,hr⟩) h
theorem tT (i:Nat) (v:Value) (hi:l[i]? =some oi) (hr:∀w',S w'→(execOp a.eval oi).run P w'= .ok (.value v) w') (hS:S w) (h:wpAnyT P md l.toArray Q S t fuel (listed.setIfInBounds i true) (a.put oi.dst v) w)
 (hB:(Region.noSelect l.toArray && decide (i≠t) && Region.waitsFor md l.toArray t i && !listed.getD t true && Region.free md l.toArray listed i && (Region.ready md l.toArray listed).contains i)=true:=by kernel_rfl)
 (hQ:∀c a w,Q (.panic c) (a.put oi.dst v) w→Q (.panic c) a w:=by exact fun _ _ _ h=>h) (hw:Region.wanted oi (yielded l.toArray a.tmps)=true:=by rfl):wpAnyT P md l.toArray Q S t (fuel+1) listed a w:=
 wpAnyT_load (i:=i) (v:=v) hi hB hQ (Or.inl ⟨hw,hr⟩) hS h
theorem sS (i:Nat) {o:Oper} (h:∀K:Act→World→Prop,(∀a' w',S w'→wpAnyS P md l.toArray Q S fuel (listed.setIfInBounds i true) a' w'→K a' w')→if Region.wanted o (yielded l.toArray a.tmps) then Oper.wp P o a w K Q else K (a.put o.dst undef) w)
 (ho:l[i]? =some o:=by exact rfl) (hr:Region.ready md l.toArray listed= [i]:=by kernel_rfl):wpAnyS P md l.toArray Q S (fuel+1) listed a w:=wpAnyS_step (i:=i) ho hr h
theorem tG (i:Nat) (v:Value) (hS:S w) (h:wpAnyS P md l.toArray Q S fuel (listed.setIfInBounds i true) (a.put oi.dst v) w) (hi:l[i]? =some oi:=by exact rfl)
 (hr:∀w',S w'→(execOp a.eval oi).run P w'= .ok (.value v) w':=by exact fun w' hS=>by go_simp) (hB:(Region.noSelect l.toArray && Region.free md l.toArray listed i && (Region.ready md l.toArray listed).contains i)=true:=by kernel_rfl)
 (hQ:∀c a w,Q (.panic c) (a.put oi.dst v) w→Q (.panic c) a w:=by exact fun _ _ _ h=>h) (hw:Region.wanted oi (yielded l.toArray a.tmps)=true:=by rfl):wpAnyS P md l.toArray Q S (fuel+1) listed a w:=wpAnyS_take (i:=i) (v:=v) hi hB hQ (Or.inl ⟨hw,hr⟩) hS h
theorem tH (i:Nat) (v:Value) (h:wpAny P md l.toArray Q fuel (listed.setIfInBounds i true) (a.put oi.dst v) w) (hi:l[i]? =some oi:=by exact rfl) (hr:∀w',(execOp a.eval oi).run P w'= .ok (.value v) w':=by exact fun w=>by go_simp)
 (hB:(Region.noSelect l.toArray && Region.free md l.toArray listed i && (Region.ready md l.toArray listed).contains i)=true:=by kernel_rfl) (hQ:∀c a w,Q (.panic c) (a.put oi.dst v) w→Q (.panic c) a w:=by exact fun _ _ _ h=>h)
 (hw:Region.wanted oi (yielded l.toArray a.tmps)=true:=by rfl):wpAny P md l.toArray Q (fuel+1) listed a w:=wpAny_takeL (i:=i) (v:=v) hi hB hQ (Or.inl ⟨hw,hr⟩) h
theorem sE {ops:Array Oper} (h:wpList P ops Q [] a w) (hr:Region.ready md ops listed= []:=by kernel_rfl):wpAnyS P md ops Q S 0 listed a w:=wpAnyS_end hr h
theorem mS {F:Array Bool→World→Prop} (i:Nat) {o:Oper} (h:∀K:Act→World→Prop,(∀a' w',F (listed.setIfInBounds i true) w'→wpAnyM P md l.toArray Q F fuel (listed.setIfInBounds i true) a' w'→K a' w')→if Region.wanted o (yielded l.toArray a.tmps) then Oper.wp P o a w K Q else K (a.put o.dst undef) w)
 (ho:l[i]? =some o:=by exact rfl) (hr:Region.ready md l.toArray listed= [i]:=by kernel_rfl):wpAnyM P md l.toArray Q F (fuel+1) listed a w:=wpAnyM_step (i:=i) ho hr h
theorem rA {id:Nat} (h:wpQuiet P l.toArray (fun w'=>∃d:Aft w,w'=d.w) (fun a'=>∀w',(∃d:Aft w,w'=d.w)→Q .normal a' w') l a) (hm:P.follows .mixedOrders=true:=by kernel_rfl) (hB:Region.lexB .any l.toArray=true:=by kernel_rfl):(Code.region id l.toArray true).wp P Q a w:=wp_region_aft hm hB h
theorem rN {id:Nat} {ops:Array Oper} (h:wpAny P .any ops Q ops.size (Array.replicate ops.size false) a {w with drawn:=w.drawn+1}) (hm:P.follows .mixedOrders=true:=by kernel_rfl):(Code.region id ops true).wp P Q a w:=wp_region_any hm h
end
end
def encN (r:Nat):List UInt8:=
 if 1114111<r∨(55296≤r∧r≤57343) then []
 else if r<128 then [UInt8.ofNat r]
 else if r<2048 then [UInt8.ofNat (192+r / 64),UInt8.ofNat (128+r % 64)]
 else if r<65536 then [UInt8.ofNat (224+r / 4096),UInt8.ofNat (128+r / 64 % 64),UInt8.ofNat (128+r % 64)]
 else [UInt8.ofNat (240+r / 262144),UInt8.ofNat (128+r / 4096 % 64),UInt8.ofNat (128+r / 64 % 64),UInt8.ofNat (128+r % 64)]
def accStart (n:Nat) (b:Nat):Nat:=if n=2 then b % 32 else if n=3 then b % 16 else if n=4 then b % 8 else b
def acc (n:Nat) (l:List UInt8):Nat→Nat
 |0=>accStart n (l.getD 0 0).toNat
 |i+1=>acc n l i*64+(l.getD (i+1) 0).toNat % 64
def refFrom:Nat→Nat→List UInt8→Nat×Nat
 |0,_,_=>(0,0)
 |k+1,n,l=>if n≤4∧n≤l.length then (if encN (acc n l (n - 1))=l.take n then (acc n l (n - 1),n) else refFrom k (n+1) l) else (0,0)
def refDec (l:List UInt8):Nat×Nat:=refFrom 4 1 l
theorem byte_lt (x:UInt8):x.toNat<256:=x.toNat_lt
theorem byte_eq_of (x:UInt8) (n:Nat) (hn:n<256):UInt8.ofNat n=x↔n=x.toNat:=by
 constructor
 ·rintro rfl;simp[Nat.mod_eq_of_lt hn]
 ·rintro rfl;simp
theorem enc1 (a:UInt8):encN a.toNat= [a]↔a.toNat<128:=by
 have ha:=byte_lt a
 unfold encN
 rw[if_neg (by omega)]
 by_cases h:a.toNat<128
 ·rw[if_pos h];simp[h]
 ·rw[if_neg h,if_pos (by omega)];simp[h]
theorem enc2 (a b:UInt8):encN (a.toNat % 32*64+b.toNat % 64)= [a,b]↔(a.toNat / 32=6∧b.toNat / 64=2)∧128≤a.toNat % 32*64+b.toNat % 64:=by
 have ha:=byte_lt a
 have hb:=byte_lt b
 unfold encN
 rw[if_neg (by omega)]
 by_cases h:a.toNat % 32*64+b.toNat % 64<128
 ·rw[if_pos h];simp;omega
 ·rw[if_neg h,if_pos (by omega)]
  simp only[List.cons.injEq,and_true]
  rw[byte_eq_of _ _ (by omega),byte_eq_of _ _ (by omega)]
  omega
theorem enc3 (a b c:UInt8):encN ((a.toNat % 16*64+b.toNat % 64)*64+c.toNat % 64)= [a,b,c]↔(a.toNat / 16=14∧b.toNat / 64=2∧c.toNat / 64=2)∧
 2048≤(a.toNat % 16*64+b.toNat % 64)*64+c.toNat % 64∧((a.toNat % 16*64+b.toNat % 64)*64+c.toNat % 64<55296∨57344≤(a.toNat % 16*64+b.toNat % 64)*64+c.toNat % 64):=by
 have ha:=byte_lt a
 have hb:=byte_lt b
 have hc:=byte_lt c
 unfold encN
 generalize hr:(a.toNat % 16*64+b.toNat % 64)*64+c.toNat % 64=r
 by_cases h0:1114111<r∨(55296≤r∧r≤57343)
 ·rw[if_pos h0];simp;omega
 ·rw[if_neg h0]
  by_cases h:r<128
  ·rw[if_pos h];simp;omega
  ·rw[if_neg h]
   by_cases h2:r<2048
   ·rw[if_pos h2];simp;omega
   ·rw[if_neg h2,if_pos (by omega)]
    simp only[List.cons.injEq,and_true]
    rw[byte_eq_of _ _ (by omega),byte_eq_of _ _ (by omega),byte_eq_of _ _ (by omega)]
    omega
theorem enc4 (a b c d:UInt8):encN (((a.toNat % 8*64+b.toNat % 64)*64+c.toNat % 64)*64+d.toNat % 64)= [a,b,c,d]↔(a.toNat / 8=30∧b.toNat / 64=2∧c.toNat / 64=2∧d.toNat / 64=2)∧
 65536≤((a.toNat % 8*64+b.toNat % 64)*64+c.toNat % 64)*64+d.toNat % 64∧((a.toNat % 8*64+b.toNat % 64)*64+c.toNat % 64)*64+d.toNat % 64≤1114111:=by
 have ha:=byte_lt a
 have hb:=byte_lt b
 have hc:=byte_lt c
 have hd:=byte_lt d
 unfold encN
 generalize hr:((a.toNat % 8*64+b.toNat % 64)*64+c.toNat % 64)*64+d.toNat % 64=r
 by_cases h0:1114111<r∨(55296≤r∧r≤57343)
 ·rw[if_pos h0];simp;omega
 ·rw[if_neg h0]
  by_cases h:r<128
  ·rw[if_pos h];simp;omega
  ·rw[if_neg h]
   by_cases h2:r<2048
   ·rw[if_pos h2];simp;omega
   ·rw[if_neg h2]
    by_cases h3:r<65536
    ·rw[if_pos h3];simp;omega
    ·rw[if_neg h3]
     simp only[List.cons.injEq,and_true]
     rw[byte_eq_of _ _ (by omega),byte_eq_of _ _ (by omega),byte_eq_of _ _ (by omega),byte_eq_of _ _ (by omega)]
     omega
theorem refDec_eq (l:List UInt8) (hl:l≠ []):refDec l=dec l:=by
 have hlen:1≤l.length:=List.length_pos_iff.2 hl
 unfold dec
 rw[if_neg hl,decodeL_nat]
 match l,hl with
 | [a],_=>
  have ha:=byte_lt a
  simp[refDec,refFrom,acc,accStart,Lib.decodeN,enc1]
  split<;>simp
  omega
 | [a,b],_=>
  have ha:=byte_lt a
  have hb:=byte_lt b
  simp[refDec,refFrom,acc,accStart,Lib.decodeN,enc1,enc2]
  repeat' split
  all_goals (simp at*;try omega)
 | [a,b,c],_=>
  have ha:=byte_lt a
  have hb:=byte_lt b
  have hc:=byte_lt c
  simp[refDec,refFrom,acc,accStart,Lib.decodeN,enc1,enc2,enc3]
  repeat' split
  all_goals (simp at*;try omega)
 |a::b::c::d::t,_=>
  have ha:=byte_lt a
  have hb:=byte_lt b
  have hc:=byte_lt c
  have hd:=byte_lt d
  simp[refDec,refFrom,acc,accStart,Lib.decodeN,enc1,enc2,enc3,enc4]
  repeat' split
  all_goals (simp at*;try omega)
def hexD (n:Nat):UInt8:=UInt8.ofNat (if n<10 then 48+n else 87+n)
def escB (c:UInt8):List UInt8:=
 if c.toNat=34∨c.toNat=92 then [92,c]
 else if 32≤c.toNat then []
 else if c.toNat=8 then [92,98] else if c.toNat=12 then [92,102] else if c.toNat=10 then [92,110] else if c.toNat=13 then [92,114] else if c.toNat=9 then [92,116]
 else [92,117,48,48,hexD (c.toNat / 16),hexD (c.toNat % 16)]
def qB (c:UInt8):List UInt8:=if escB c= [] then [c] else escB c
def quoteL (l:List UInt8):List UInt8:=34::(l.flatMap qB++ [34])
def quoteS (s:ByteArray):ByteArray×Nat:=if Lib.validD s.data.toList then (str (quoteL s.data.toList),0) else (str [],5)
theorem valid_at (l:List UInt8) (k:Nat) (hk:k<l.length):Lib.validD (l.drop k)=if (dec (l.drop k)).2=0 then false else Lib.validD (l.drop (k+(dec (l.drop k)).2)):=by
 have hne:l.drop k≠ []:=by intro h;have:=congrArg List.length h;simp at this;omega
 rw[Lib.validD_step _ hne]
 have hd:dec (l.drop k)=if (Lib.decodeL (l.drop k)).1=65533∧(Lib.decodeL (l.drop k)).2=1 then (0,0) else Lib.decodeL (l.drop k):=by unfold dec;rw[if_neg hne]
 by_cases h:(Lib.decodeL (l.drop k)).1=65533∧(Lib.decodeL (l.drop k)).2=1
 ·rw[if_pos h] at hd⊢
  rw[hd];rfl
 ·rw[if_neg h] at hd⊢
  rw[hd,if_neg,List.drop_drop]
  rw[decodeL_nat]
  have:=(decodeN_len (l.drop k).length ((l.drop k).getD 0 0).toNat ((l.drop k).getD 1 0).toNat ((l.drop k).getD 2 0).toNat ((l.drop k).getD 3 0).toNat (List.length_pos_iff.2 hne)).1
  omega
theorem valid_end (l:List UInt8) (k:Nat) (hk:l.length≤k):Lib.validD (l.drop k)=true:=by
 rw[List.drop_of_length_le hk];rfl
def letterN (c:Nat):Nat:=if c=34∨c=92 then c else if c=8 then 98 else if c=9 then 116 else if c=10 then 110 else if c=12 then 102 else if c=13 then 114 else 0
theorem escB_letter (c:UInt8) (h:letterN c.toNat≠0):escB c= [92,UInt8.ofNat (letterN c.toNat)]:=by
 unfold letterN at h⊢
 unfold escB
 by_cases h1:c.toNat=34∨c.toNat=92
 ·rw[if_pos h1,if_pos h1];simp
 ·rw[if_neg h1] at h⊢
  rw[if_neg h1]
  have hc:c.toNat=8∨c.toNat=9∨c.toNat=10∨c.toNat=12∨c.toNat=13:=by
   by_cases a:c.toNat=8<;>by_cases b:c.toNat=9<;>by_cases d:c.toNat=10<;>by_cases e:c.toNat=12<;>by_cases f:c.toNat=13<;>simp_all
  rcases hc with e|e|e|e|e<;>rw[e]<;>rfl
theorem escB_hex (c:UInt8) (h:letterN c.toNat=0) (h2:c.toNat<32):escB c= [92,117,48,48,hexD (c.toNat / 16),hexD (c.toNat % 16)]:=by
 unfold letterN at h
 unfold escB
 by_cases h1:c.toNat=34∨c.toNat=92
 ·omega
 ·rw[if_neg h1] at h⊢
  rw[if_neg (by omega)]
  by_cases a:c.toNat=8
  ·rw[if_pos a] at h;omega
  ·rw[if_neg a] at h⊢
   by_cases b:c.toNat=9
   ·rw[if_pos b] at h;omega
   ·rw[if_neg b] at h
    by_cases d:c.toNat=10
    ·rw[if_pos d] at h;omega
    ·rw[if_neg d] at h
     by_cases e:c.toNat=12
     ·rw[if_pos e] at h;omega
     ·rw[if_neg e] at h⊢
      by_cases f:c.toNat=13
      ·rw[if_pos f] at h;omega
      ·rw[if_neg d,if_neg f,if_neg b]
theorem escB_none (c:UInt8) (h:letterN c.toNat=0) (h2:32≤c.toNat):escB c= []:=by
 unfold letterN at h
 unfold escB
 by_cases h1:c.toNat=34∨c.toNat=92
 ·rw[if_pos h1] at h;omega
 ·rw[if_neg h1,if_pos h2]
theorem qB_letter (c:UInt8) (h:letterN c.toNat≠0):qB c= [92,UInt8.ofNat (letterN c.toNat)]:=by
 unfold qB;rw[escB_letter c h,if_neg (by simp)]
theorem qB_hex (c:UInt8) (h:letterN c.toNat=0) (h2:c.toNat<32):qB c= [92,117,48,48,hexD (c.toNat / 16),hexD (c.toNat % 16)]:=by
 unfold qB;rw[escB_hex c h h2,if_neg (by simp)]
theorem qB_none (c:UInt8) (h:letterN c.toNat=0) (h2:32≤c.toNat):qB c= [c]:=by
 unfold qB;rw[escB_none c h h2,if_pos rfl]
theorem escB_len (c:UInt8):(escB c).length≤6:=by
 unfold escB
 repeat' split
 all_goals simp
theorem qB_len (c:UInt8):(qB c).length≤6:=by
 unfold qB
 split
 ·simp
 ·exact escB_len c
theorem flat_len (l:List UInt8):(l.flatMap qB).length≤6*l.length:=by
 induction l with
 |nil=>simp
 |cons c t ih=>have:=qB_len c;simp only[List.flatMap_cons,List.length_append,List.length_cons];omega
inductive JV where
 |null
 |bool (b:Bool)
 |int (n:Int)
 |str (s:ByteArray)
 |arr (l:List JV)
 |obj (ks:List ByteArray) (vs:List JV)
def commas:List (List UInt8)→List UInt8
 | []=> []
 | [t]=>t
 |t::u::r=>t++44::commas (u::r)
theorem commas_snoc:∀(l:List (List UInt8)) (t:List UInt8),commas (l++ [t])=if l= [] then t else commas l++44::t
 | [],t=>by simp[commas]
 | [u],t=>by simp[commas]
 |u::v::r,t=>by
  have ih:=commas_snoc (v::r) t
  simp only[List.cons_append] at ih⊢
  rw[if_neg (by simp)] at ih⊢
  simp only[commas,ih,List.append_assoc,List.cons_append]
def keyed (k:ByteArray) (t:List UInt8):List UInt8:=quoteL k.data.toList++58::t
def jtext:JV→List UInt8
 | .null=> [110,117,108,108]
 | .bool b=>if b then [116,114,117,101] else [102,97,108,115,101]
 | .int n=>Lib.itoa n
 | .str s=>quoteL s.data.toList
 | .arr l=>91::(commas (l.map jtext)++ [93])
 | .obj ks vs=>123::(commas (List.zipWith keyed ks (vs.map jtext))++ [125])
def jvalid:JV→Nat→Bool
 | .str s,depth=>decide (depth≤100) && Lib.validD s.data.toList
 | .arr l,depth=>decide (depth≤100) && (l.map fun j=>jvalid j (depth+1)).all id
 | .obj _ vs,depth=>decide (depth≤100) && (vs.map fun j=>jvalid j (depth+1)).all id
 |_,depth=>decide (depth≤100)
def jok:JV→Prop
 | .int n=> -9223372036854775808≤n∧n≤9223372036854775807
 | .str s=>s.size≤16777216
 | .arr l=>∀j∈l,jok j
 | .obj ks vs=>ks.length=vs.length∧ks.Nodup∧(∀k∈ks,k.size≤16777216∧Lib.validD k.data.toList=true)∧∀j∈vs,jok j
 |_=>True
def jwrite (j:JV):ByteArray×Nat:=if jvalid j 1 then (str (jtext j),0) else (⟨#[]⟩,22)
theorem jtext_arr (l:List JV):jtext (.arr l)=91::(commas (l.map jtext)++ [93]):=by rw[jtext]
theorem jvalid_arr (d:Nat) (l:List JV):jvalid (.arr l) d=(decide (d≤100) && l.all fun j=>jvalid j (d+1)):=by rw[jvalid];simp[List.all_map]
theorem jtext_obj (ks:List ByteArray) (vs:List JV):jtext (.obj ks vs)=123::(commas (List.zipWith keyed ks (vs.map jtext))++ [125]):=by rw[jtext]
theorem jvalid_obj (d:Nat) (ks:List ByteArray) (vs:List JV):jvalid (.obj ks vs) d=(decide (d≤100) && vs.all fun j=>jvalid j (d+1)):=by rw[jvalid];simp[List.all_map]
theorem jok_obj (ks:List ByteArray) (vs:List JV):jok (.obj ks vs)=(ks.length=vs.length∧ks.Nodup∧(∀k∈ks,k.size≤16777216∧Lib.validD k.data.toList=true)∧∀j∈vs,jok j):=by rw[jok]
theorem jok_arr (l:List JV):jok (.arr l)=∀j∈l,jok j:=by rw[jok]
def hasAt (s:List UInt8) (at_:Nat) (t:List UInt8):Bool:=t.isPrefixOf (s.drop at_)
def spAt (s:List UInt8) (at_:Nat):Nat:=at_+((s.drop at_).takeWhile fun c=>isSp c.toNat).length
def hexV (c:UInt8):Nat:=if 48≤c.toNat∧c.toNat≤57 then c.toNat - 48 else if 97≤c.toNat∧c.toNat≤102 then c.toNat - 97+10 else if 65≤c.toNat∧c.toNat≤70 then c.toNat - 65+10 else 16
structure AtP where
 space:List UInt8
 name:List UInt8
 value:List UInt8
 at_:Nat
 deriving DecidableEq
structure Tok where
 kind:Nat
 name:List UInt8
 attrs:List AtP
 empty:Bool
 text:List UInt8
 at_:Nat
 deriving DecidableEq
theorem spAt_step {s:List UInt8} {k:Nat} (h:k<s.length) (hs:isSp (s[k].toNat)=true):spAt s k=spAt s (k+1):=by
 unfold spAt
 rw[List.drop_eq_getElem_cons h,List.takeWhile_cons,if_pos hs,List.length_cons]
 omega
theorem spAt_stop {s:List UInt8} {k:Nat} (h:k<s.length) (hs:isSp (s[k].toNat)=false):spAt s k=k:=by
 unfold spAt
 rw[List.drop_eq_getElem_cons h,List.takeWhile_cons,if_neg (by rw[hs];simp)]
 rfl
theorem spAt_end {s:List UInt8} {k:Nat} (h:s.length≤k):spAt s k=k:=by
 unfold spAt
 rw[List.drop_of_length_le h]
 rfl
theorem spAt_le {s:List UInt8} {k:Nat} (h:k≤s.length):spAt s k≤s.length:=by
 unfold spAt
 have h1:=(List.takeWhile_sublist (l:=s.drop k) (fun c:UInt8=>isSp c.toNat)).length_le
 rw[List.length_drop] at h1
 omega
theorem spAt_ge (s:List UInt8) (k:Nat):k≤spAt s k:=Nat.le_add_right _ _
inductive JO where
 |null (a:Nat)
 |bool (a:Nat) (b:Bool)
 |int (a:Nat) (n:Int)
 |str (a:Nat) (s:ByteArray)
 |arr (a:Nat) (l:List JO)
 |obj (a:Nat) (ks:List (ByteArray×Nat)) (vs:List JO)
def hexGo (l:List UInt8) (i:Nat):Nat→Option Nat
 |0=>some 0
 |k+1=>match hexGo l i k,l[i+k]? with
  |some n,some c=>if hexV c<16 then some (n*16+hexV c) else none
  |_,_=>none
def unitP (l:List UInt8) (i:Nat):Option Nat:=if l[i]? =some 92∧l[i+1]? =some 117 then hexGo l (i+2) 4 else none
def seqP (l:List UInt8) (i:Nat):Option (Nat×Nat):=match l[i+1]? with
 |none=>none
 |some c=>
  if c=34∨c=92∨c=47 then some (c.toNat,2)
  else if c=98 then some (8,2) else if c=102 then some (12,2) else if c=110 then some (10,2) else if c=114 then some (13,2) else if c=116 then some (9,2)
  else match unitP l i with
   |none=>none
   |some n=>if 55296≤n∧n≤56319 then (match unitP l (i+6) with
    |some m=>if 56320≤m∧m≤57343 then some (65536+(n - 55296)*1024+m - 56320,12) else none
    |none=>none)
    else if 56320≤n∧n≤57343 then none else some (n,6)
def strGo (l:List UInt8):Nat→Nat→List UInt8→Option (List UInt8×Nat)
 |0,_,_=>none
 |k+1,i,out=>
  if (dec (l.drop i)).2=0 then none
  else if (dec (l.drop i)).1<32 then none
  else if (dec (l.drop i)).1=34 then some (out,i+1)
  else if (dec (l.drop i)).1=92 then (match seqP l i with
   |some (r,n)=>strGo l k (i+n) (out++encN r)
   |none=>none)
  else strGo l k (i+(dec (l.drop i)).2) (out++encN (dec (l.drop i)).1)
def strP (l:List UInt8) (at_:Nat):Option (List UInt8×Nat):=if l[at_]? =some 34 then strGo l (l.length+1) (at_+1) [] else none
def isDg (c:UInt8):Bool:=decide (48≤c.toNat∧c.toNat≤57)
def numeric (c:UInt8):Bool:=isDg c||c==43||c==45||c==46||c==101||c==69
def numAt (l:List UInt8) (at_:Nat):Nat:=at_+((l.drop at_).takeWhile numeric).length
def decV:List UInt8→Nat→Option Nat
 | [],u=>some u
 |c::t,u=>if isDg c then decV t (u*10+(c.toNat - 48)) else none
def numV (s:List UInt8):Option Int:=
 let d:=if s.head? =some 45 then s.tail else s
 if d= []∨19<d.length∨(1<d.length∧d.head? =some 48) then none
 else match decV d 0 with
  |none=>none
  |some u=>if s.head? =some 45 then (if u≤9223372036854775808 then some (-(u:Int)) else none) else if u<9223372036854775808 then some (u:Int) else none
def itemsGo (l:List UInt8) (V:Nat→Option (JO×Nat)):Nat→Nat→List JO→Option (List JO×Nat)
 |0,_,_=>none
 |k+1,at_,acc=>match V (spAt l at_) with
  |none=>none
  |some (v,to_)=>
   if hasAt l (spAt l to_) [93] then some (acc++ [v],spAt l to_+1)
   else if hasAt l (spAt l to_) [44] then itemsGo l V k (spAt l to_+1) (acc++ [v]) else none
def keyP (l:List UInt8) (at_:Nat) (ks:List (ByteArray×Nat)):Option (ByteArray×Nat):=match strP l at_ with
 |none=>none
 |some (k,to_)=>if (ks.any fun p=>decide (p.1=str k)) then none else if hasAt l (spAt l to_) [58] then some (str k,spAt l to_+1) else none
def memsGo (l:List UInt8) (V:Nat→Option (JO×Nat)):Nat→Nat→List (ByteArray×Nat)→List JO→Option ((List (ByteArray×Nat)×List JO)×Nat)
 |0,_,_,_=>none
 |k+1,at_,ks,vs=>match keyP l (spAt l at_) ks with
  |none=>none
  |some (key,to_)=>match V to_ with
   |none=>none
   |some (v,to_)=>
    if hasAt l (spAt l to_) [125] then some ((ks++ [(key,spAt l at_)],vs++ [v]),spAt l to_+1)
    else if hasAt l (spAt l to_) [44] then memsGo l V k (spAt l to_+1) (ks++ [(key,spAt l at_)]) (vs++ [v]) else none
def listP (l:List UInt8) (V:Nat→Option (JO×Nat)) (from_:Nat) (o:Bool):Option (JO×Nat):=
 if o then
  if hasAt l (spAt l (from_+1)) [125] then some (.obj from_ [] [],spAt l (from_+1)+1)
  else match memsGo l V (l.length+1) (spAt l (from_+1)) [] [] with
   |some ((ks,vs),to_)=>some (.obj from_ ks vs,to_)
   |none=>none
 else
  if hasAt l (spAt l (from_+1)) [93] then some (.arr from_ [],spAt l (from_+1)+1)
  else match itemsGo l V (l.length+1) (spAt l (from_+1)) [] with
   |some (vs,to_)=>some (.arr from_ vs,to_)
   |none=>none
def valG (l:List UInt8) (L:Nat→Bool→Option (JO×Nat)) (at_:Nat):Option (JO×Nat):=match l[at_]? with
 |none=>none
 |some c=>
  if c=110 then (if hasAt l at_ [110,117,108,108] then some (.null at_,at_+4) else none)
  else if c=116 then (if hasAt l at_ [116,114,117,101] then some (.bool at_ true,at_+4) else none)
  else if c=102 then (if hasAt l at_ [102,97,108,115,101] then some (.bool at_ false,at_+5) else none)
  else if c=34 then (match strP l at_ with
   |some (t,to_)=>some (.str at_ (str t),to_)
   |none=>none)
  else if c=91 then L at_ false
  else if c=123 then L at_ true
  else if c=45∨isDg c=true then (match numV ((l.drop at_).takeWhile numeric) with
   |some n=>some (.int at_ n,numAt l at_)
   |none=>none)
  else none
def valP (l:List UInt8):Nat→Nat→Option (JO×Nat)
 |0,at_=>valG l (fun _ _=>none) (spAt l at_)
 |f+1,at_=>valG l (fun a o=>listP l (valP l f) a o) (spAt l at_)
def jsonP (l:List UInt8):Option JO:=match valP l 100 (if hasAt l 0 [239,187,191] then 3 else 0) with
 |some (v,to_)=>if spAt l to_<l.length then none else some v
 |none=>none
def jgood (N:Nat):JO→Prop
 | .null a=>a<N
 | .bool a _=>a<N
 | .int a n=>a<N∧ -9223372036854775808≤n∧n≤9223372036854775807
 | .str a s=>a<N∧s.size≤N∧Lib.validD s.data.toList=true
 | .arr a l=>a<N∧l.length≤N∧∀j∈l,jgood N j
 | .obj a ks vs=>a<N∧ks.length=vs.length∧vs.length≤N∧(∀k∈ks,k.2<N∧k.1.size≤N∧Lib.validD k.1.data.toList=true)∧∀j∈vs,jgood N j
section
structure Ord (α κ:Type) where
 id:α→κ
 op:α→α→α
 lt:α→α→Bool
 op_id:∀a b,id a=id b→id (op a b)=id b
 irrefl:∀a,lt a a=false
 trans:∀a b c,lt a b=true→lt b c=true→lt a c=true
 total:∀a b,id a≠id b→lt a b=true∨lt b a=true
namespace Ord
section
variable {α κ:Type} (O:Ord α κ)
def ins:List α→α→List α
 | [],e=> [e]
 |x::t,e=>if O.lt e x then e::x::t else x::ins t e
def sorted (S:List α):Prop:=S.Pairwise fun a b=>O.lt a b=true
theorem sorted_unique:∀(S T:List α),O.sorted S→O.sorted T→(∀x,x∈S↔x∈T)→S=T
 | [],T,_,_,h=>by
  cases T with
  |nil=>rfl
  |cons b u=>exact absurd ((h b).2 (by simp)) (by simp)
 |a::t,[],_,_,h=>absurd ((h a).1 (by simp)) (by simp)
 |a::t,b::u,hS,hT,h=>by
  have hS':=List.pairwise_cons.1 hS
  have hT':=List.pairwise_cons.1 hT
  have hab:a=b:=by
   have h1:=(h a).1 (by simp)
   have h2:=(h b).2 (by simp)
   rcases List.mem_cons.1 h1 with h1|h1
   ·exact h1
   ·rcases List.mem_cons.1 h2 with h2|h2
    ·exact h2.symm
    ·have:=O.trans a b a (hS'.1 b h2) (hT'.1 a h1)
     rw[O.irrefl] at this
     cases this
  subst hab
  refine congrArg (a:: ·) (sorted_unique t u hS'.2 hT'.2 fun x=>⟨fun hx=> ?_,fun hx=> ?_⟩)
  ·rcases List.mem_cons.1 ((h x).1 (by simp[hx])) with e|e
   ·subst e;have:=hS'.1 x hx;rw[O.irrefl] at this;cases this
   ·exact e
  ·rcases List.mem_cons.1 ((h x).2 (by simp[hx])) with e|e
   ·subst e;have:=hT'.1 x hx;rw[O.irrefl] at this;cases this
   ·exact e
theorem foldl_id:∀(t:List α) (x:α),(∀y∈t,O.id y=O.id x)→O.id (t.foldl O.op x)=O.id x
 | [],_,_=>rfl
 |y::t,x,h=>by
  have hy:=h y (by simp)
  have e:O.id (O.op x y)=O.id x:=by rw[O.op_id x y hy.symm,hy]
  show O.id (t.foldl O.op (O.op x y))=_
  rw[foldl_id t (O.op x y) (fun z hz=>by rw[e];exact h z (by simp[hz])),e]
theorem mem_ins:∀(l:List α) (e x:α),x∈O.ins l e↔x=e∨x∈l
 | [],e,x=>by simp[ins]
 |y::t,e,x=>by
  unfold ins
  split
  ·simp
  ·simp only[List.mem_cons,mem_ins t e x]
   constructor
   ·rintro (h|h|h)<;>simp[h]
   ·rintro (h|h|h)<;>simp[h]
theorem ins_sorted:∀(l:List α) (e:α),O.sorted l→(∀x∈l,O.id x≠O.id e)→O.sorted (O.ins l e)
 | [],e,_,_=>by simp[ins,sorted]
 |y::t,e,hs,h=>by
  have hs':=List.pairwise_cons.1 hs
  unfold ins
  split
  ·rename_i hlt
   refine List.pairwise_cons.2 ⟨fun x hx=> ?_,hs⟩
   rcases List.mem_cons.1 hx with e'|e'
   ·rw[e'];exact hlt
   ·exact O.trans _ _ _ hlt (hs'.1 x e')
  ·rename_i hlt
   have hye:O.lt y e=true:=by
    rcases O.total e y (fun e'=>h y (by simp) e'.symm) with h'|h'
    ·exact absurd h' hlt
    ·exact h'
   refine List.pairwise_cons.2 ⟨fun x hx=> ?_,ins_sorted t e hs'.2 fun x hx=>h x (by simp[hx])⟩
   rcases (O.mem_ins t e x).1 hx with e'|e'
   ·rw[e'];exact hye
   ·exact hs'.1 x e'
end
variable {α κ:Type} [DecidableEq κ] (O:Ord α κ)
def scan:List α→α→List α×α
 | [],e=>([],e)
 |x::t,e=>if O.id x=O.id e then scan t (O.op x e) else (x::(scan t e).1,(scan t e).2)
def put (l:List α) (e:α):List α:=O.ins (O.scan l e).1 (O.scan l e).2
def canon (l:List α):List α:=l.foldl O.put []
def fold1:List α→Option α
 | []=>none
 |x::t=>some (t.foldl O.op x)
def got (l:List α) (k:κ):Option α:=O.fold1 (l.filter fun x=>O.id x=k)
def firsts (l:List α):List κ:=l.foldl (fun acc x=>if O.id x∈acc then acc else acc++ [O.id x]) []
theorem got_id {l:List α} {k:κ} {x:α} (h:O.got l k=some x):O.id x=k:=by
 unfold got at h
 generalize hg:(l.filter fun x=>O.id x=k)=g at h
 cases g with
 |nil=>cases h
 |cons y t=>
  have hall:∀z∈y::t,O.id z=k:=by
   intro z hz
   rw[←hg] at hz
   simpa using (List.mem_filter.1 hz).2
  simp only[fold1,Option.some.injEq] at h
  rw[←h,O.foldl_id t y (fun z hz=>by rw[hall z (by simp[hz]),hall y (by simp)]),hall y (by simp)]
theorem got_nil (k:κ):O.got [] k=none:=rfl
theorem got_snoc (l:List α) (e:α) (k:κ):O.got (l++ [e]) k=if O.id e=k then (match O.got l k with|none=>some e|some y=>some (O.op y e)) else O.got l k:=by
 unfold got
 rw[List.filter_append]
 by_cases h:O.id e=k
 ·rw[if_pos h]
  have: [e].filter (fun x=>decide (O.id x=k))= [e]:=by simp[h]
  rw[this]
  cases l.filter fun x=>O.id x=k with
  |nil=>rfl
  |cons y t=>simp[fold1,List.foldl_append]
 ·rw[if_neg h]
  have: [e].filter (fun x=>decide (O.id x=k))= []:=by simp[h]
  rw[this,List.append_nil]
theorem scan_fst:∀(l:List α) (e:α),(O.scan l e).1=l.filter fun x=> !decide (O.id x=O.id e)
 | [],_=>rfl
 |x::t,e=>by
  unfold scan
  by_cases h:O.id x=O.id e
  ·rw[if_pos h,scan_fst t (O.op x e),O.op_id x e h]
   simp[h]
  ·rw[if_neg h]
   simp[h,scan_fst t e]
theorem scan_none:∀(l:List α) (e:α),(∀x∈l,O.id x≠O.id e)→(O.scan l e).2=e
 | [],_,_=>rfl
 |x::t,e,h=>by
  unfold scan
  rw[if_neg (h x (by simp))]
  exact scan_none t e fun y hy=>h y (by simp[hy])
theorem scan_one:∀(l:List α) (e y:α),y∈l→O.id y=O.id e→l.Pairwise (fun a b=>O.id a≠O.id b)→(O.scan l e).2=O.op y e
 | [],_,_,h,_,_=>by simp at h
 |x::t,e,y,hy,hid,hp=>by
  have hp':=List.pairwise_cons.1 hp
  unfold scan
  by_cases h:O.id x=O.id e
  ·have hxy:x=y:=by
    rcases List.mem_cons.1 hy with e'|e'
    ·exact e'.symm
    ·exact absurd (h.trans hid.symm) (hp'.1 y e')
   subst hxy
   rw[if_pos h]
   exact O.scan_none t _ fun z hz=>by rw[O.op_id x e h,←h];exact (hp'.1 z hz).symm
  ·rw[if_neg h]
   have hy':y∈t:=by
    rcases List.mem_cons.1 hy with e'|e'
    ·subst e';exact absurd hid h
    ·exact e'
   exact scan_one t e y hy' hid hp'.2
def IsCanon (l S:List α):Prop:=O.sorted S∧∀x,x∈S↔O.got l (O.id x)=some x
theorem IsCanon.unique {l S T:List α} (h:O.IsCanon l S) (k:O.IsCanon l T):S=T:=
 O.sorted_unique S T h.1 k.1 fun x=>(h.2 x).trans (k.2 x).symm
theorem IsCanon.ids {l S:List α} (h:O.IsCanon l S):S.Pairwise fun a b=>O.id a≠O.id b:=by
 refine h.1.imp_of_mem fun {a b} ha hb hab e=> ?_
 have h1:=(h.2 a).1 ha
 have h2:=(h.2 b).1 hb
 rw[e,h2] at h1
 injection h1 with h1
 rw[h1,O.irrefl] at hab
 cases hab
theorem IsCanon.put {l S:List α} (h:O.IsCanon l S) (e:α):O.IsCanon (l++ [e]) (O.put S e):=by
 have hids:=h.ids
 have hid2:O.id (O.scan S e).2=O.id e∧O.got (l++ [e]) (O.id e)=some (O.scan S e).2:=by
  rw[got_snoc,if_pos rfl]
  cases hg:O.got l (O.id e) with
  |none=>
   have:(O.scan S e).2=e:=O.scan_none S e fun x hx hx'=>by
    have:=(h.2 x).1 hx
    rw[hx',hg] at this
    cases this
   rw[this];exact ⟨rfl,rfl⟩
  |some y=>
   have hy:O.id y=O.id e:=O.got_id hg
   have hm:y∈S:=(h.2 y).2 (by rw[hy];exact hg)
   rw[O.scan_one S e y hm hy hids]
   exact ⟨O.op_id y e hy,rfl⟩
 have hne:∀x∈(O.scan S e).1,O.id x≠O.id (O.scan S e).2:=by
  intro x hx
  rw[scan_fst] at hx
  rw[hid2.1]
  simpa using (List.mem_filter.1 hx).2
 refine ⟨O.ins_sorted _ _ ?_ hne,fun x=> ?_⟩
 ·rw[scan_fst];exact h.1.filter _
 ·unfold Ord.put
  rw[mem_ins,scan_fst,List.mem_filter,h.2 x]
  by_cases hx:O.id x=O.id e
  ·constructor
   ·rintro (rfl|⟨_,h'⟩)
    ·rw[hid2.1];exact hid2.2
    ·simp[hx] at h'
   ·intro h'
    rw[hx,hid2.2] at h'
    injection h' with h'
    exact Or.inl h'.symm
  ·have e':O.got (l++ [e]) (O.id x)=O.got l (O.id x):=by rw[got_snoc,if_neg (fun e'=>hx e'.symm)]
   rw[e']
   constructor
   ·rintro (rfl|⟨h',_⟩)
    ·exact absurd hid2.1 hx
    ·exact h'
   ·intro h'
    exact Or.inr ⟨h',by simp[hx]⟩
theorem IsCanon.foldl:∀(t l S:List α),O.IsCanon l S→O.IsCanon (l++t) (t.foldl O.put S)
 | [],l,S,h=>by simpa using h
 |e::t,l,S,h=>by
  have:=foldl t (l++ [e]) (O.put S e) (h.put O e)
  simpa using this
theorem isCanon_nil:O.IsCanon [] []:=⟨List.Pairwise.nil,fun x=>by simp[got_nil]⟩
theorem canon_is (l:List α):O.IsCanon l (O.canon l):=by
 have h:=IsCanon.foldl O l [] [] O.isCanon_nil
 rw[List.nil_append] at h
 exact h
theorem firsts_snoc (l:List α) (e:α):O.firsts (l++ [e])=if O.id e∈O.firsts l then O.firsts l else O.firsts l++ [O.id e]:=by
 unfold firsts;rw[List.foldl_append];rfl
theorem mem_firsts (l:List α) (k:κ):k∈O.firsts l↔∃x∈l,O.id x=k:=by
 suffices h:∀(n:Nat) (l:List α),l.length=n→∀k,k∈O.firsts l↔∃x∈l,O.id x=k from h _ l rfl k
 intro n
 induction n with
 |zero=>intro l hl k;rw[List.eq_nil_of_length_eq_zero hl];simp[firsts]
 |succ n ih=>
  intro l hl k
  obtain ⟨l',e,rfl⟩:∃l' e,l=l'++ [e]:=by
   rcases List.eq_nil_or_concat l with h|⟨l',e,h⟩
   ·subst h;simp at hl
   ·exact ⟨l',e,by simpa using h⟩
  have ih':=ih l' (by simpa using hl)
  rw[firsts_snoc]
  by_cases h:O.id e∈O.firsts l'
  ·rw[if_pos h,ih' k]
   constructor
   ·rintro ⟨x,hx,e'⟩;exact ⟨x,by simp[hx],e'⟩
   ·rintro ⟨x,hx,e'⟩
    rcases List.mem_append.1 hx with hx|hx
    ·exact ⟨x,hx,e'⟩
    ·simp at hx;subst hx;obtain ⟨y,hy,hy'⟩:=(ih' (O.id x)).1 h;exact ⟨y,hy,hy'.trans e'⟩
  ·rw[if_neg h,List.mem_append,ih' k]
   constructor
   ·rintro (⟨x,hx,e'⟩|hx)
    ·exact ⟨x,by simp[hx],e'⟩
    ·simp at hx;exact ⟨e,by simp,hx.symm⟩
   ·rintro ⟨x,hx,e'⟩
    rcases List.mem_append.1 hx with hx|hx
    ·exact Or.inl ⟨x,hx,e'⟩
    ·simp at hx;subst hx;exact Or.inr (by simp[e'])
theorem firsts_nodup (l:List α):(O.firsts l).Pairwise (· ≠ ·):=by
 suffices h:∀(n:Nat) (l:List α),l.length=n→(O.firsts l).Pairwise (· ≠ ·) from h _ l rfl
 intro n
 induction n with
 |zero=>intro l hl;rw[List.eq_nil_of_length_eq_zero hl];exact List.Pairwise.nil
 |succ n ih=>
  intro l hl
  obtain ⟨l',e,rfl⟩:∃l' e,l=l'++ [e]:=by
   rcases List.eq_nil_or_concat l with h|⟨l',e,h⟩
   ·subst h;simp at hl
   ·exact ⟨l',e,by simpa using h⟩
  have ih':=ih l' (by simpa using hl)
  rw[firsts_snoc]
  split
  ·exact ih'
  ·rename_i h
   rw[List.pairwise_append]
   exact ⟨ih',by simp,fun a ha b hb=>by simp at hb;subst hb;rintro rfl;exact h ha⟩
def joined (l:List α):List α:=(O.firsts l).filterMap (O.got l)
theorem mem_joined (l:List α) (x:α):x∈O.joined l↔O.got l (O.id x)=some x:=by
 unfold joined
 rw[List.mem_filterMap]
 constructor
 ·rintro ⟨k,_,h⟩
  rw[O.got_id h];exact h
 ·intro h
  refine ⟨O.id x,(O.mem_firsts l _).2 ?_,h⟩
  unfold got at h
  generalize hg:(l.filter fun y=>O.id y=O.id x)=g at h
  cases g with
  |nil=>cases h
  |cons y t=>
   have:y∈l.filter fun z=>decide (O.id z=O.id x):=by rw[hg];simp
   have:=List.mem_filter.1 this
   exact ⟨y,this.1,by simpa using this.2⟩
theorem joined_ids (l:List α):(O.joined l).Pairwise fun a b=>O.id a≠O.id b:=by
 unfold joined
 rw[List.pairwise_filterMap]
 refine (O.firsts_nodup l).imp fun {a b} hab x hx y hy=> ?_
 rw[O.got_id hx,O.got_id hy]
 exact hab
theorem sorted_joined (l S:List α) (hp:S.Perm (O.joined l)) (hs:S.Pairwise fun a b=>O.lt b a=false):S=O.canon l:=by
 refine IsCanon.unique O ⟨?_,fun x=>by rw[hp.mem_iff];exact O.mem_joined l x⟩ (O.canon_is l)
 have hids:S.Pairwise fun a b=>O.id a≠O.id b:=(O.joined_ids l).perm hp.symm fun h=>h.symm
 refine (hs.and hids).imp fun {a b} h=> ?_
 rcases O.total a b h.2 with h'|h'
 ·exact h'
 ·rw[h.1] at h';cases h'
end Ord
end
end Go.Proofs.YthlnaldahkgjnaaGreatDoor
