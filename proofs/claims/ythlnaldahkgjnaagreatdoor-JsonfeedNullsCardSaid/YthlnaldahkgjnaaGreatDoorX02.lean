/- Parts of the proof: contracts and plain laws. -/
import Derived.Lib.ItoaLen
import Derived.Test.YthlnaldahkgjnaaGreatDoorV01
import Derived.Test.YthlnaldahkgjnaaGreatDoorV02
import Derived.Test.YthlnaldahkgjnaaGreatDoorV03
import Derived.Test.YthlnaldahkgjnaaGreatDoorV04
import Derived.Test.YthlnaldahkgjnaaGreatDoorV05
import Derived.Test.YthlnaldahkgjnaaGreatDoorV06
import Derived.Test.YthlnaldahkgjnaaGreatDoorV07
import Derived.Test.YthlnaldahkgjnaaGreatDoorV08
import Derived.Test.YthlnaldahkgjnaaGreatDoorV09
import Derived.Test.YthlnaldahkgjnaaGreatDoorV10
import Derived.Test.YthlnaldahkgjnaaGreatDoorV11
import Derived.Test.YthlnaldahkgjnaaGreatDoorV12
import Derived.Test.YthlnaldahkgjnaaGreatDoorV13
import Derived.Test.YthlnaldahkgjnaaGreatDoorV14
import Derived.Test.YthlnaldahkgjnaaGreatDoorV15
import Derived.Test.YthlnaldahkgjnaaGreatDoorV16
import Derived.Test.YthlnaldahkgjnaaGreatDoorV17
import Derived.Test.YthlnaldahkgjnaaGreatDoorV18
import Derived.Test.YthlnaldahkgjnaaGreatDoorV19
import Derived.Test.YthlnaldahkgjnaaGreatDoorV20
import Derived.Test.YthlnaldahkgjnaaGreatDoorV31
import Derived.Test.YthlnaldahkgjnaaGreatDoorX01
namespace Go.Proofs.YthlnaldahkgjnaaGreatDoor
open Go Go.RowKit Go.ChangeShapes Go.WideShapes Go.ChangeAt Go.Joins Go.Deep
set_option linter.unusedVariables false
set_option linter.unusedSimpArgs false
set_option maxRecDepth 100000
set_option maxHeartbeats 16000000
section
section
variable {P:Program} {md:Region.Mode} {ops:Array Oper} {Q:Exit→Act→World→Prop} {S:World→Prop} {T:Array Bool→Act→World→Prop} {t:Nat}
theorem wpAnyS_cut {m:Nat} (hT:∀L a w,T L a w→wpAnyS P md ops Q S m L a w):∀(f k:Nat) (listed:Array Bool) (a:Act) (w:World),k=f+m→wpAnyC P md ops Q S T f listed a w→wpAnyS P md ops Q S k listed a w
 |0,k,listed,a,w,hk,h=>by rw[hk,Nat.zero_add];exact hT _ _ _ h
 |f+1,k,listed,a,w,hk,h=>by
  rw[hk,show f+1+m=(f+m)+1 by omega]
  exact ⟨h.1,fun i hi=>wpOp_mono (fun a' w' h'=>⟨h'.1,wpAnyS_cut hT f (f+m) _ a' w' rfl h'.2⟩) (h.2 i hi)⟩
theorem wpAnyS_told {m f k:Nat} {l:List Oper} {listed:Array Bool} {a:Act} {w:World} (hk:k=f+m) (L':Array Bool) (R:Act→Act→World→Prop)
 (h1:wpAnyC P md l.toArray Q S (fun L a' w'=>L=L'∧R a a' w') f listed a w) (h2:∀a' w',R a a' w'→wpAnyS P md l.toArray Q S m L' a' w'):wpAnyS P md l.toArray Q S k listed a w:=
 wpAnyS_cut (fun L a w h=>by obtain ⟨rfl,h⟩:=h;exact h2 a w h) f k listed a w hk h1
section
variable {l:List Oper} {f:Nat} {listed:Array Bool} {a:Act} {w:World} {i j k:Nat} {oi oj ok:Oper}
end
end
section
variable {P:Program} {md:Region.Mode} {Q:Exit→Act→World→Prop} {S:World→Prop} {t:Nat} {l:List Oper} {f:Nat} {listed:Array Bool} {a:Act} {w:World} {i j:Nat} {oi oj:Oper}
end
end
section
set_option linter.unusedSimpArgs false
def dropZ (n:ByteArray) (z:ZL):ZL:=z.filter fun p=>decide (p.1.1≠n)
def nullZ (n:ByteArray) (z:ZL):ZL:=z.map fun p=>if p.1.1=n then (p.1,JO.null 0) else p
theorem lookZ_drop {n m:ByteArray}:∀z:ZL,m≠n→lookZ (dropZ n z) m=lookZ z m
 | [],_=>rfl
 |p::t,h=>by
  have ih:=lookZ_drop t h
  unfold dropZ at ih⊢
  rw[List.filter_cons,lookZ_cons]
  by_cases hp:p.1.1=n
  ·rw[if_neg (by simp[hp]),ih,if_neg (by rw[hp];exact fun e=>h e.symm)]
  ·rw[if_pos (by simp[hp]),lookZ_cons,ih]
theorem lookZ_dropped {n:ByteArray}:∀z:ZL,lookZ (dropZ n z) n=none
 | []=>rfl
 |p::t=>by
  have ih:=lookZ_dropped (n:=n) t
  unfold dropZ at ih⊢
  rw[List.filter_cons]
  by_cases hp:p.1.1=n
  ·rw[if_neg (by simp[hp]),ih]
  ·rw[if_pos (by simp[hp]),lookZ_cons,if_neg hp,ih]
theorem lookZ_null {n m:ByteArray}:∀z:ZL,m≠n→lookZ (nullZ n z) m=lookZ z m
 | [],_=>rfl
 |p::t,h=>by
  have ih:=lookZ_null t h
  unfold nullZ at ih⊢
  rw[List.map_cons,lookZ_cons,lookZ_cons,ih]
  by_cases hp:p.1.1=n
  ·rw[if_pos hp,if_neg (by simp only[hp];exact fun e=>h e.symm),if_neg (by rw[hp];exact fun e=>h e.symm)]
  ·rw[if_neg hp]
theorem lookZ_nulled {n:ByteArray}:∀z:ZL,lookZ (nullZ n z) n=none∨lookZ (nullZ n z) n=some (.null 0)
 | []=>Or.inl rfl
 |p::t=>by
  have ih:=lookZ_nulled (n:=n) t
  unfold nullZ at ih⊢
  rw[List.map_cons,lookZ_cons]
  by_cases hp:p.1.1=n
  ·right
   rw[if_pos hp,if_pos (by simpa using hp)]
  ·rw[if_neg hp,if_neg hp]
   exact ih
theorem nulls_dec {a:Nat} {n:ByteArray} (z:ZL) (hn:n≠nVersion):decJ (objZ a (nullZ n z))=decJ (objZ a (dropZ n z)):=by
 refine decJ_congr ?_ rfl fun m _=> ?_
 ·rw[getJ_objZ,getJ_objZ,lookZ_null z (Ne.symm hn),lookZ_drop z (Ne.symm hn)]
 ·by_cases hm:m=n
  ·subst hm
   unfold memJ
   rw[getJ_objZ,getJ_objZ,lookZ_dropped]
   rcases lookZ_nulled (n:=m) z with h|h
   ·rw[h]
   ·rw[h];rfl
  ·exact memJ_of_look (by rw[getJ_objZ,getJ_objZ,lookZ_null z hm,lookZ_drop z hm])
end
section
set_option linter.unusedSimpArgs false
def zero7:List Value:=wcells 0 false 0 ⟨#[]⟩ (.slice none 0 0) (.slice none 0 0) 0
def dropM (n:ByteArray) (l:List Mm):List Mm:=l.filter fun m=>decide (m.1≠n)
def nullM (n:ByteArray) (l:List Mm):List Mm:=l.map fun m=>if m.1=n then (m.1,zero7,m.2.2) else m
theorem AllM.drop {n:Nat} {w:World} (nm:ByteArray):∀{l:List Mm} {z:ZL},AllM (relM n w) l z→AllM (relM n w) (dropM nm l) (dropZ nm z)
 | [],[],_=>trivial
 |m::l,p::z,h=>by
  have ih:=AllM.drop nm h.2
  unfold dropM dropZ at*
  rw[List.filter_cons,List.filter_cons,h.1.1]
  split
  ·exact ⟨h.1,ih⟩
  ·exact ih
 | [],_::_,h=>h.elim
 |_::_,[],h=>h.elim
theorem AllM.null {n:Nat} {w:World} (nm:ByteArray):∀{l:List Mm} {z:ZL},AllM (relM (n+1) w) l z→AllM (relM (n+1) w) (nullM nm l) (nullZ nm z)
 | [],[],_=>trivial
 |m::l,p::z,h=>by
  have ih:=AllM.null nm h.2
  unfold nullM nullZ at*
  rw[List.map_cons,List.map_cons,h.1.1]
  split
  ·exact ⟨⟨rfl,h.1.2.1,RJn.leaf (j:= .null 0) ⟨rfl,rfl,rfl⟩⟩,ih⟩
  ·exact ⟨h.1,ih⟩
 | [],_::_,h=>h.elim
 |_::_,[],h=>h.elim
theorem nullM_take {nm:ByteArray} {l:List Mm} {k:Nat} (h:k<l.length):nullM nm (l.take (k+1))=nullM nm (l.take k)++ [if l[k].1=nm then (l[k].1,zero7,l[k].2.2) else l[k]]:=by
 rw[List.take_succ_eq_append_getElem h]
 unfold nullM
 rw[List.map_append]
 rfl
theorem dropM_take {nm:ByteArray} {l:List Mm} {k:Nat} (h:k<l.length):dropM nm (l.take (k+1))=dropM nm (l.take k)++(if l[k].1=nm then [] else [l[k]]):=by
 rw[List.take_succ_eq_append_getElem h]
 unfold dropM
 rw[List.filter_append]
 congr 1
 rw[List.filter_cons]
 by_cases hk:l[k].1=nm
 ·rw[if_pos hk,if_neg (by simp[hk])];rfl
 ·rw[if_neg hk,if_pos (by simp[hk])];rfl
theorem nullM_len (nm:ByteArray) (l:List Mm):(nullM nm l).length=l.length:=by unfold nullM;rw[List.length_map]
theorem dropM_len (nm:ByteArray) (l:List Mm):(dropM nm l).length≤l.length:=List.length_filter_le _ _
theorem mcell_z (nm:ByteArray) (x:Int):∀u∈mcell (nm,zero7,x),u.oneCell'=true:=by
 intro u hu
 simp[mcell,zero7,wcells] at hu
 rcases hu with rfl|rfl|rfl|rfl|rfl|rfl|rfl|rfl|rfl<;>rfl
theorem box9 {w:World} {g:Nat} {a b c d e f h i j:Value} {t:TypeId} {fr:Nat×Nat} (hz:w.heap[g]? =some (.cells #[a,b,c,d,e,f,h,i,j] t fr)):
 w.cell? ⟨g,0,none⟩=some a∧w.cell? ⟨g,1,none⟩=some b∧w.cell? ⟨g,2,none⟩=some c∧w.cell? ⟨g,3,none⟩=some d∧w.cell? ⟨g,4,none⟩=some e∧w.cell? ⟨g,5,none⟩=some f∧w.cell? ⟨g,6,none⟩=some h∧w.cell? ⟨g,7,none⟩=some i∧w.cell? ⟨g,8,none⟩=some j:=by
 refine ⟨?_,?_,?_,?_,?_,?_,?_,?_,?_⟩<;>(rw[Lib.cell_of_heap hz];rfl)
section
variable {W2 W W':World} {g8 g9 a:Nat} {v8 v9 v':Value} {l8 l9:List Mm}
theorem NF.next (H:NF W2 g8 g9 a v8 v9 l8 l9 W) (hx:Ext W W'):NF W2 g8 g9 a v8 v9 l8 l9 W':=
 ⟨H.ext.trans hx,hx.heap H.b8,hx.heap H.b9,own_ext H.o8 hx,own_ext H.o9 hx,H.ap⟩
theorem NF.swap (H:NF W2 g8 g9 a v8 v9 l8 l9 W):NF W2 g9 g8 a v9 v8 l9 l8 W:=⟨H.ext,H.b9,H.b8,H.o9,H.o8,by
 rcases H.ap with h|h
 ·cases h9:v9.ownBlock with
  |none=>exact Or.inl rfl
  |some k=>rw[h];exact Or.inr (by simp)
 ·exact Or.inr (Ne.symm h)⟩
theorem NF.grow8 (H:NF W2 g8 g9 a v8 v9 l8 l9 W) (hg:W.grownBy W' v8.ownBlock):W'.heap[g8]? =some (.cells (obC a v8) 25 (0,0)):=
 (hg.block g8 (Array.getElem?_eq_some_iff.1 H.b8).1 (Ne.symm (own_ne_type H.o8 H.b8 (by decide)))).trans H.b8
theorem NF.low (H:NF W2 g8 g9 a v8 v9 l8 l9 W):g8<W.heap.size∧g9<W.heap.size:=⟨(Array.getElem?_eq_some_iff.1 H.b8).1,(Array.getElem?_eq_some_iff.1 H.b9).1⟩
theorem NF.snoc (H:NF W2 g8 g9 a v8 v9 l8 l9 W) (K8:W2.heap.size≤g8) (K:g8≠g9) {m:Mm}
 (ho:W'.ownsRow W2.heap.size 56 9 v' (l8.length+1) ((l8.map mcell).flatten++mcell m)) (hg:W.grownBy W' v8.ownBlock) (hv:v'.ownBlock=v8.ownBlock∨v'.ownBlock=some W.heap.size):
 NF W2 g8 g9 a v' v9 (l8++ [m]) l9 (W'.setCell ⟨g8,5,none⟩ v'):=by
 have hx:Ext W2 W':=Ext.app H.ext hg H.o8 (Nat.le_refl _)
 have n8:v8.ownBlock≠some g8:=own_ne_type H.o8 H.b8 (by decide)
 have n9:v8.ownBlock≠some g9:=own_ne_type H.o8 H.b9 (by decide)
 have e8:W'.heap[g8]? =some (.cells (obC a v8) 25 (0,0)):=(hg.block g8 (Array.getElem?_eq_some_iff.1 H.b8).1 (Ne.symm n8)).trans H.b8
 have e9:W'.heap[g9]? =some (.cells (obC a v9) 25 (0,0)):=(hg.block g9 (Array.getElem?_eq_some_iff.1 H.b9).1 (Ne.symm n9)).trans H.b9
 have hset:W'.grownBy (W'.setCell ⟨g8,5,none⟩ v') (some g8):=⟨rfl,rfl,rfl,by simp[World.setCell],fun k _ hk=>heap_setCell_other W' ⟨g8,5,none⟩ k v' (fun e=>hk (by rw[e]))⟩
 have o9':W'.ownsRow W2.heap.size 56 9 v9 l9.length (l9.map mcell).flatten:=H.o9.kept hg (by
  rcases H.swap.ap with h|h
  ·exact Or.inl h
  ·exact Or.inr h)
 refine ⟨hx.setCell (p:=⟨g8,5,none⟩) K8 v',?_,?_,?_,?_,?_⟩
 ·rw[heap_setCell_same _ _ _ _ _ _ e8];rfl
 ·rw[heap_setCell_other _ _ _ _ (Ne.symm K)];exact e9
 ·rw[List.length_append,List.map_append,List.flatten_append,List.length_singleton]
  refine World.ownsRow.kept (w:=W') ?_ hset (Or.inr (own_ne_type ho e8 (by decide)))
  simpa using ho
 ·exact o9'.kept hset (Or.inr (own_ne_type o9' e8 (by decide)))
 ·rcases hv with hv|hv
  ·rw[hv];exact H.ap
  ·rw[hv]
   refine Or.inr fun e=> ?_
   have:=(H.o9.lt _ e.symm).2
   omega
end
theorem objZ_sub {N a:Nat} {ks:List (ByteArray×Nat)} {vs:List JO} (h:jgood N (.obj a ks vs)) (nm:ByteArray):jgood N (objZ a (dropZ nm (ks.zip vs)))∧jsz N (objZ a (nullZ nm (ks.zip vs))):=by
 rw[jgood] at h
 obtain ⟨h1,h2,h3,h4,h5⟩:=h
 have hin:∀p∈ks.zip vs,p.1∈ks∧p.2∈vs:=fun p hp=>List.of_mem_zip (by simpa using hp)
 have hlz:(ks.zip vs).length=vs.length:=by rw[List.length_zip,h2,Nat.min_self]
 constructor
 ·unfold objZ
  rw[jgood]
  refine ⟨h1,by simp,?_,fun k hk=> ?_,fun j hj=> ?_⟩
  ·rw[List.length_map]
   have:=List.length_filter_le (fun p:(ByteArray×Nat)×JO=>decide (p.1.1≠nm)) (ks.zip vs)
   unfold dropZ
   omega
  ·obtain ⟨p,hp,rfl⟩:=List.mem_map.1 hk
   exact h4 _ (hin p (List.mem_filter.1 hp).1).1
  ·obtain ⟨p,hp,rfl⟩:=List.mem_map.1 hj
   exact h5 _ (hin p (List.mem_filter.1 hp).1).2
 ·unfold objZ
  rw[jsz]
  intro j hj
  obtain ⟨p,hp,rfl⟩:=List.mem_map.1 hj
  unfold nullZ at hp
  obtain ⟨q,hq,rfl⟩:=List.mem_map.1 hp
  split
  ·simp[jsz]
  ·exact jsz_good (Nat.le_refl _) _ (h5 _ (hin q hq).2)
theorem itsW_null {a:Nat} {nm:ByteArray} (z:ZL):itsW (objZ a (nullZ nm z))=itsW (objZ a (dropZ nm z)):=by
 have e:memJ (objZ a (nullZ nm z)) nItems=memJ (objZ a (dropZ nm z)) nItems:=by
  by_cases hm:nItems=nm
  ·subst hm
   unfold memJ
   rw[getJ_objZ,getJ_objZ,lookZ_dropped]
   rcases lookZ_nulled (n:=nItems) z with h|h
   ·rw[h]
   ·rw[h];rfl
  ·exact memJ_of_look (by rw[getJ_objZ,getJ_objZ,lookZ_null z hm,lookZ_drop z hm])
 unfold itsW
 rw[e]
end
section
set_option linter.unusedSimpArgs false
theorem nul_none (s:ByteArray) (k:Int) (w:World) (hE:Env w) (hs:s.size≤reachBytes) (hj:docJ s=none):
 Calls Tryz.prog 8 #[.string s,.int .u8 k] w fun e w'=>e= .returned (.bool true)∧Ext w w':=by
 have HAL:=gd (fun (W':World) (h:Ext w W')=>alive18_any W' (hE.ext h))
 have HPS:=gd (parsed_any s w hs)
 rw[hj] at HPS
 clear hj
 go_enter Tryz.func8,Tryz.ntmps8
 go_wp2_with (first|(refine wpList_store_row rfl 25 (.tmp 5) (.tmp 21) rfl w2.heap.size #[.int .i64 0,.bool false,.int .i64 0,.string ⟨#[]⟩,.slice none 0 0,.slice none 0 0,.int .i64 0] rfl rfl _ _ hk2 size_valJ rfl oneJ ?_;rw[hs2])|(go_at_call 11;(have hz:=HAL.out _ hy2);(with_reducible refine Calls.mono hz ?_);clear hz;rintro e w3 ⟨rfl,hx3⟩;(have hy3:=hy2.trans hx3))|(go_at_call 10;(have hz:=HPS.out);(with_reducible refine Calls.mono hz ?_);clear hz;rintro e w2 ⟨rfl,hx2⟩;(obtain ⟨W2,hW2⟩:∃W0,w2.alloc (.cells #[.int .i64 0,.bool false,.int .i64 0,.string ⟨#[]⟩,.slice none 0 0,.slice none 0 0,.int .i64 0] 25)=W0:=⟨_,rfl⟩);(have hv2:Ext w2 W2:=by rw[←hW2];exact (Ext.refl _).alloc _);(have hb2:∀i v,(#[.int .i64 0,.bool false,.int .i64 0,.string ⟨#[]⟩,.slice none 0 0,.slice none 0 0,.int .i64 0]:Array Value)[i]? =some v→W2.cell? ⟨w2.heap.size,i,none⟩=some v:=fun i v h=>by rw[←hW2];exact (Ext.refl (w2.alloc _)).boxed i v h);(have HB2:Hid (∀W':World,Ext W2 W'→W'.cell? ⟨w2.heap.size,0,none⟩=some (.int .i64 0)∧W'.cell? ⟨w2.heap.size,1,none⟩=some (.bool false)∧W'.cell? ⟨w2.heap.size,2,none⟩=some (.int .i64 0)∧W'.cell? ⟨w2.heap.size,3,none⟩=some (.string ⟨#[]⟩)∧W'.cell? ⟨w2.heap.size,4,none⟩=some (.slice none 0 0)∧W'.cell? ⟨w2.heap.size,5,none⟩=some (.slice none 0 0)∧W'.cell? ⟨w2.heap.size,6,none⟩=some (.int .i64 0)):=gd fun W' h=>⟨h.cell (hb2 0 _ rfl),h.cell (hb2 1 _ rfl),h.cell (hb2 2 _ rfl),h.cell (hb2 3 _ rfl),h.cell (hb2 4 _ rfl),h.cell (hb2 5 _ rfl),h.cell (hb2 6 _ rfl)⟩);clear hb2;(have hs2:=hx2.trans hv2);(have hy2:=(Ext.refl w).trans hs2);(obtain ⟨q1_0_0,q1_0_1,q1_0_2,q1_0_3,q1_0_4,q1_0_5,q1_0_6⟩:=HB2.out _ (Ext.refl W2));(have hs2:W2.setRow w2.heap.size #[.int .i64 0,.bool false,.int .i64 0,.string ⟨#[]⟩,.slice none 0 0,.slice none 0 0,.int .i64 0]=W2:=by rw[←hW2,setRow_new18]);(have hk2:W2.heap[w2.heap.size]? =some (.cells #[.int .i64 0,.bool false,.int .i64 0,.string ⟨#[]⟩,.slice none 0 0,.slice none 0 0,.int .i64 0] 25 (0,0)):=by rw[←hW2];exact heap_alloc_new w2 _)))
 go_ret
 exact ⟨rfl,hy3⟩
theorem nul_kind (s:ByteArray) (k:Int) (w:World) (hE:Env w) (hs:s.size≤reachBytes) (o:JO) (hj:docJ s=some o) (h5:kindJ o≠5):
 Calls Tryz.prog 8 #[.string s,.int .u8 k] w fun e w'=>e= .returned (.bool true)∧Ext w w':=by
 have HAL:=gd (fun (W':World) (h:Ext w W')=>alive18_any W' (hE.ext h))
 have hps:=parsed_any s w hs
 rw[hj] at hps
 have HPS:Hid (Calls Tryz.prog 10 #[.string s] w fun e w'=>(∃K Bb Nn Ss A p c C q d At,e= .returned (.tuple #[.agg #[.int .i64 (K:Nat),.bool Bb,.int .i64 Nn,.string Ss,.slice A p c,.slice C q d,.int .i64 (At:Nat)],.int .i64 1])∧((K:Int) !=5)=true)∧Ext w w'):=gd (hps.mono fun e w' ⟨h1,h2⟩=>by
  obtain ⟨A,p,c,C,q,d,m,rfl, -⟩:=h1
  exact ⟨⟨_,_,_,_,A,p,c,C,q,d,_,rfl,by simp;omega⟩,h2⟩)
 clear hj hps h5
 go_enter Tryz.func8,Tryz.ntmps8
 go_wp2_with (first|(go_at_call 11;(have hz:=HAL.out _ hy2);(with_reducible refine Calls.mono hz ?_);clear hz;rintro e w3 ⟨rfl,hx3⟩;(have hy3:=hy2.trans hx3))|(go_at_call 10;(have hz:=HPS.out);(with_reducible refine Calls.mono hz ?_);clear hz;rintro e w2 ⟨⟨K,Bb,Nn,Ss,A,p,c,C,q,d,At,rfl,hne⟩,hx2⟩;(obtain ⟨W2,hW2⟩:∃W0,w2.alloc (.cells #[.int .i64 (K:Nat),.bool Bb,.int .i64 Nn,.string Ss,.slice A p c,.slice C q d,.int .i64 (At:Nat)] 25)=W0:=⟨_,rfl⟩);(have hv2:Ext w2 W2:=by rw[←hW2];exact (Ext.refl _).alloc _);(have hb2:∀i v,(#[.int .i64 (K:Nat),.bool Bb,.int .i64 Nn,.string Ss,.slice A p c,.slice C q d,.int .i64 (At:Nat)]:Array Value)[i]? =some v→W2.cell? ⟨w2.heap.size,i,none⟩=some v:=fun i v h=>by rw[←hW2];exact (Ext.refl (w2.alloc _)).boxed i v h);(have HB2:Hid (∀W':World,Ext W2 W'→W'.cell? ⟨w2.heap.size,0,none⟩=some (.int .i64 (K:Nat))∧W'.cell? ⟨w2.heap.size,1,none⟩=some (.bool Bb)∧W'.cell? ⟨w2.heap.size,2,none⟩=some (.int .i64 Nn)∧W'.cell? ⟨w2.heap.size,3,none⟩=some (.string Ss)∧W'.cell? ⟨w2.heap.size,4,none⟩=some (.slice A p c)∧W'.cell? ⟨w2.heap.size,5,none⟩=some (.slice C q d)∧W'.cell? ⟨w2.heap.size,6,none⟩=some (.int .i64 (At:Nat))):=gd fun W' h=>⟨h.cell (hb2 0 _ rfl),h.cell (hb2 1 _ rfl),h.cell (hb2 2 _ rfl),h.cell (hb2 3 _ rfl),h.cell (hb2 4 _ rfl),h.cell (hb2 5 _ rfl),h.cell (hb2 6 _ rfl)⟩);clear hb2;(have hs2:=hx2.trans hv2);(have hy2:=(Ext.refl w).trans hs2);(obtain ⟨q1_0_0,q1_0_1,q1_0_2,q1_0_3,q1_0_4,q1_0_5,q1_0_6⟩:=HB2.out _ (Ext.refl W2))))
 go_ret
 exact ⟨rfl,hy3⟩
theorem index5 (k:Int) (h:0≤k∧k≤255):∃NM:ByteArray,NM≠nVersion∧∀wx:World,(Instr.index 54 (.agg #[.string ⟨#[102,101,101,100,95,117,114,108]⟩,.string ⟨#[104,111,109,101,95,112,97,103,101,95,117,114,108]⟩,.string ⟨#[116,105,116,108,101]⟩,.string ⟨#[95,117,112,100,97,116,101,100]⟩,.string ⟨#[105,116,101,109,115]⟩]) (.int .u8 (k % 5))).run Tryz.prog wx= .ok (.string NM) wx:=by
 have:k % 5=0∨k % 5=1∨k % 5=2∨k % 5=3∨k % 5=4:=by omega
 rcases this with h|h|h|h|h
 ·exact ⟨⟨#[102,101,101,100,95,117,114,108]⟩,by decide,fun wx=>by rw[h];rfl⟩
 ·exact ⟨⟨#[104,111,109,101,95,112,97,103,101,95,117,114,108]⟩,by decide,fun wx=>by rw[h];rfl⟩
 ·exact ⟨⟨#[116,105,116,108,101]⟩,by decide,fun wx=>by rw[h];rfl⟩
 ·exact ⟨⟨#[95,117,112,100,97,116,101,100]⟩,by decide,fun wx=>by rw[h];rfl⟩
 ·exact ⟨⟨#[105,116,101,109,115]⟩,by decide,fun wx=>by rw[h];rfl⟩
theorem nul_obj (s:ByteArray) (k:Int) (w:World) (hE:Env w) (hs:s.size≤reachBytes) (hk8:0≤k∧k≤255) (a:Nat) (ks:List (ByteArray×Nat)) (vs:List JO) (hj:docJ s=some (.obj a ks vs)):
 Calls Tryz.prog 8 #[.string s,.int .u8 k] w fun e w'=>e= .returned (.bool true)∧Ext w w':=by
 have HAL:=gd (fun (W':World) (h:Ext w W')=>alive18_any W' (hE.ext h))
 have hps:=parsed_any s w hs
 rw[hj] at hps
 have hs5:s.size≤5000∧jsonP s.data.toList=some (.obj a ks vs):=by
  unfold docJ at hj
  split at hj
  ·cases hj
  ·exact ⟨by omega,hj⟩
 have hgd:=jsonP_ok hs5.2
 rw[data_len] at hgd
 have hvn:vs.length≤5000:=by rw[jgood] at hgd;have:=hgd.2.2.1;omega
 obtain ⟨NM,hnv,hix⟩:=index5 k hk8
 obtain ⟨hg1,hg2⟩:=objZ_sub hgd NM
 obtain ⟨z,hz⟩:∃z,ks.zip vs=z:=⟨_,rfl⟩
 have HPS:Hid (Calls Tryz.prog 10 #[.string s] w fun e w'=>(∃C d ms n,e= .returned (.tuple #[.agg #[.int .i64 5,.bool false,.int .i64 0,.string ⟨#[]⟩,.slice none 0 0,.slice C (List.length (α:=Mm) ms) d,.int .i64 (a:Nat)],.int .i64 1])∧RSl w' 9 (.slice C ms.length d) ms.length (ms.map mcell).flatten∧AllM (relM n w') ms z∧ms.length≤5000)∧Ext w w'):=gd (hps.mono fun e w' ⟨h1,h2⟩=>by
  obtain ⟨C,d,ms,n,e1,e2,e3,e4⟩:=parsed_obj h1
  rw[hz] at e3
  exact ⟨⟨C,d,ms,n,e1,e2,e3,by omega⟩,h2⟩)
 rw[hz] at hg1 hg2
 have hsame:decJ (objZ a (nullZ NM z))=decJ (objZ a (dropZ NM z)):=nulls_dec z hnv
 have hfk:∀f,decJ (objZ a (dropZ NM z))= .ok f→fokS f:=fun f hf=>(dec_small hg1 (by omega) hf).1
 have hil:=itsW_len hg1
 have HDE:Hid (∀(w':World) (cs:List Value),Ext w w'→(RJ w' (objZ a (nullZ NM z)) cs∨RJ w' (objZ a (dropZ NM z)) cs)→Calls Tryz.prog 12 #[.agg cs.toArray] w' fun e w2=>DecR w2 (decJ (objZ a (dropZ NM z))) e∧Ext w' w2):=gd fun w' cs hx hr=>by
  rcases hr with hr|hr
  ·have h:=jdecode_any s.size (objZ a (nullZ NM z)) cs w' hr hg2 (by omega) (hE.ext hx) (by rw[hsame];exact hfk) (by rw[itsW_null];omega)
   rw[hsame] at h
   exact h
  ·exact jdecode_any s.size (objZ a (dropZ NM z)) cs w' hr (jsz_good (Nat.le_refl _) _ hg1) (by omega) (hE.ext hx) hfk (by omega)
 obtain ⟨r,hr⟩:∃r,decJ (objZ a (dropZ NM z))=r:=⟨_,rfl⟩
 rw[hr] at hfk
 simp only[hr] at HDE
 have hgk:fokS (fdR r):=by
  cases r with
  |error f=>exact zeroF_fokJ
  |ok f=>exact norm_fokJ (hfk f rfl)
 obtain ⟨R,hR⟩:∃R,fdR r=R:=⟨_,rfl⟩
 obtain ⟨at_,hat⟩:∃x,atR r=x:=⟨_,rfl⟩
 obtain ⟨er,her⟩:∃x,erR r=x:=⟨_,rfl⟩
 rw[hR] at hgk
 obtain ⟨gpath,gid,gtitle,glink,gupd,gents⟩:=R
 have hnp:gpath.length≤16777216:=by have h:=hgk.1.2;dsimp only at h;omega
 have hne:gents.length≤16777216:=Nat.le_trans hgk.2.1 (by decide)
 have HD2:Hid (∀(w':World) (cs:List Value),Ext w w'→(RJ w' (objZ a (nullZ NM z)) cs∨RJ w' (objZ a (dropZ NM z)) cs)→Calls Tryz.prog 12 #[.agg cs.toArray] w' fun e w2=>(∃A5 c5 B5 d5,e= .returned (.tuple #[.agg #[.slice A5 gpath.length c5,.string gid,.string gtitle,.string glink,.int .i64 gupd,.slice B5 gents.length d5],.int .i64 (at_:Nat),.int .i64 (er:Nat)])∧RdC w2 ⟨.slice A5 gpath.length c5,.slice B5 gents.length d5,⟨gpath,gid,gtitle,glink,gupd,gents⟩⟩)∧Ext w' w2):=gd fun w' cs hx h=>by
  refine (HDE.out w' cs hx h).mono fun e w2 ⟨h1,h2⟩=>⟨?_,h2⟩
  have h3:=dec_uni h1
  rw[hR,hat,her] at h3
  exact h3
 have HSM:Hid (∀(W':World) (A5:Option Addr) (c5:Nat) (B5:Option Addr) (d5:Nat) (A6:Option Addr) (c6:Nat) (B6:Option Addr) (d6:Nat),RdC W' ⟨.slice A5 gpath.length c5,.slice B5 gents.length d5,⟨gpath,gid,gtitle,glink,gupd,gents⟩⟩→RdC W' ⟨.slice A6 gpath.length c6,.slice B6 gents.length d6,⟨gpath,gid,gtitle,glink,gupd,gents⟩⟩→Calls Tryz.prog 16 #[.agg #[.slice A5 gpath.length c5,.string gid,.string gtitle,.string glink,.int .i64 gupd,.slice B5 gents.length d5],.agg #[.slice A6 gpath.length c6,.string gid,.string gtitle,.string glink,.int .i64 gupd,.slice B6 gents.length d6]] W' fun e w2=>e= .returned (.bool true)∧Ext W' w2):=gd fun W' A5 c5 B5 d5 A6 c6 B6 d6 hr hr2=>by
  have hz:=refSame_any ⟨.slice A5 gpath.length c5,.slice B5 gents.length d5,⟨gpath,gid,gtitle,glink,gupd,gents⟩⟩ ⟨.slice A6 gpath.length c6,.slice B6 gents.length d6,⟨gpath,gid,gtitle,glink,gupd,gents⟩⟩ W' hr hr2 hnp hne
  rw[decide_eq_true rfl] at hz
  exact hz
 clear hr hR hat her hgk hnp hne HDE hfk hil hsame hg1 hg2 hnv hgd hs5 hps hj hvn hz
 go_enter Tryz.func8,Tryz.ntmps8
 go_wp2_with (first|(go_at_call 10;(have hz:=HPS.out);(with_reducible refine Calls.mono hz ?_);clear hz;rintro e w2 ⟨⟨C,d,ms,n,rfl,hrow,hall,hml⟩,hx2⟩;(obtain ⟨W2,hW2⟩:∃W0,w2.alloc (.cells #[.int .i64 5,.bool false,.int .i64 0,.string ⟨#[]⟩,.slice none 0 0,.slice C ms.length d,.int .i64 (a:Nat)] 25)=W0:=⟨_,rfl⟩);(have hv2:Ext w2 W2:=by rw[←hW2];exact (Ext.refl _).alloc _);(have hb2:∀i v,(#[.int .i64 5,.bool false,.int .i64 0,.string ⟨#[]⟩,.slice none 0 0,.slice C ms.length d,.int .i64 (a:Nat)]:Array Value)[i]? =some v→W2.cell? ⟨w2.heap.size,i,none⟩=some v:=fun i v h=>by rw[←hW2];exact (Ext.refl (w2.alloc _)).boxed i v h);(have HB2:Hid (∀W':World,Ext W2 W'→W'.cell? ⟨w2.heap.size,0,none⟩=some (.int .i64 5)∧W'.cell? ⟨w2.heap.size,1,none⟩=some (.bool false)∧W'.cell? ⟨w2.heap.size,2,none⟩=some (.int .i64 0)∧W'.cell? ⟨w2.heap.size,3,none⟩=some (.string ⟨#[]⟩)∧W'.cell? ⟨w2.heap.size,4,none⟩=some (.slice none 0 0)∧W'.cell? ⟨w2.heap.size,5,none⟩=some (.slice C ms.length d)∧W'.cell? ⟨w2.heap.size,6,none⟩=some (.int .i64 (a:Nat))):=gd fun W' h=>⟨h.cell (hb2 0 _ rfl),h.cell (hb2 1 _ rfl),h.cell (hb2 2 _ rfl),h.cell (hb2 3 _ rfl),h.cell (hb2 4 _ rfl),h.cell (hb2 5 _ rfl),h.cell (hb2 6 _ rfl)⟩);clear hb2;(have hs2:=hx2.trans hv2);(have hy2:=(Ext.refl w).trans hs2);(obtain ⟨q1_0_0,q1_0_1,q1_0_2,q1_0_3,q1_0_4,q1_0_5,q1_0_6⟩:=HB2.out _ (Ext.refl W2));(have HROW:=gd (hrow.ext hv2));(have HALL:=gd (AllM.more (hall.ext hv2)));(have HY2:=gd hy2);clear hrow hall))
 clear hix
 have hxd:=(Ext.refl W2).drew
 refine rN ?_
 change wpAny _ _ _ _ _ _ _ (World.drew _)
 refine wpAny_of_S (fun w'=>Ext W2 w') ?_
 refine tS 0 (.agg #[.int .i64 5,.bool false,.int .i64 0,.string ⟨#[]⟩,.slice none 0 0,.slice C ms.length d,.int .i64 (a:Nat)]) rfl (fun w2 hS=>by have e0:=Ext.cell hS q1_0_0;have e1:=Ext.cell hS q1_0_1;have e2:=Ext.cell hS q1_0_2;have e3:=Ext.cell hS q1_0_3;have e4:=Ext.cell hS q1_0_4;have e5:=Ext.cell hS q1_0_5;have e6:=Ext.cell hS q1_0_6;go_simp) hxd ?_
 refine tS 1 (.agg #[.int .i64 5,.bool false,.int .i64 0,.string ⟨#[]⟩,.slice none 0 0,.slice C ms.length d,.int .i64 (a:Nat)]) rfl (fun w2 hS=>by have e0:=Ext.cell hS q1_0_0;have e1:=Ext.cell hS q1_0_1;have e2:=Ext.cell hS q1_0_2;have e3:=Ext.cell hS q1_0_3;have e4:=Ext.cell hS q1_0_4;have e5:=Ext.cell hS q1_0_5;have e6:=Ext.cell hS q1_0_6;go_simp) hxd ?_
 go_simp
 refine wpAnyS_told (m:=2) (f:=2) rfl #[true,true,true,true,false,false] (fun a0 a' w'=>∃g8 g9:Nat,a'=(a0.put (some 8) (.pointer (some ⟨g8,0,none⟩))).put (some 9) (.pointer (some ⟨g9,0,none⟩))∧Ext W2 w'∧w'.heap[g8]? =some (.cells #[.int .i64 0,.bool false,.int .i64 0,.string ⟨#[]⟩,.slice none 0 0,.slice none 0 0,.int .i64 0] 25 (0,0))∧w'.heap[g9]? =some (.cells #[.int .i64 0,.bool false,.int .i64 0,.string ⟨#[]⟩,.slice none 0 0,.slice none 0 0,.int .i64 0] 25 (0,0))∧W2.heap.size≤g8∧W2.heap.size≤g9∧g8≠g9) ?_ ?_
 ·refine wpAnyC_two (i:=2) (j:=3) rfl rfl (by kernel_rfl) (fun Kc hK=> ?_) (fun Kc hK=> ?_)
  ·go_simp
   refine hK _ _ ((Ext.refl W2).alloc (.cells #[.int .i64 0,.bool false,.int .i64 0,.string ⟨#[]⟩,.slice none 0 0,.slice none 0 0,.int .i64 0] 25)).drew ?_
   clear hK Kc
   refine wpAnyC_step (i:=3) rfl (by kernel_rfl) (fun Kc hK=> ?_)
   go_simp
   have hxb:=(((Ext.refl W2).alloc (.cells #[.int .i64 0,.bool false,.int .i64 0,.string ⟨#[]⟩,.slice none 0 0,.slice none 0 0,.int .i64 0] 25)).alloc (.cells #[.int .i64 0,.bool false,.int .i64 0,.string ⟨#[]⟩,.slice none 0 0,.slice none 0 0,.int .i64 0] 25)).drew
   refine hK _ _ hxb ?_
   exact ⟨rfl,W2.heap.size,W2.heap.size+1,rfl,hxb,((Ext.refl _).alloc _).heap (heap_alloc_new W2 _),heap2b W2 _ _,Nat.le_refl _,Nat.le_succ _,by omega⟩
  ·go_simp
   refine hK _ _ ((Ext.refl W2).alloc (.cells #[.int .i64 0,.bool false,.int .i64 0,.string ⟨#[]⟩,.slice none 0 0,.slice none 0 0,.int .i64 0] 25)).drew ?_
   clear hK Kc
   refine wpAnyC_step (i:=2) rfl (by kernel_rfl) (fun Kc hK=> ?_)
   go_simp
   have hxb:=(((Ext.refl W2).alloc (.cells #[.int .i64 0,.bool false,.int .i64 0,.string ⟨#[]⟩,.slice none 0 0,.slice none 0 0,.int .i64 0] 25)).alloc (.cells #[.int .i64 0,.bool false,.int .i64 0,.string ⟨#[]⟩,.slice none 0 0,.slice none 0 0,.int .i64 0] 25)).drew
   refine hK _ _ hxb ?_
   exact ⟨rfl,W2.heap.size+1,W2.heap.size,rfl,hxb,heap2b W2 _ _,((Ext.refl _).alloc _).heap (heap_alloc_new W2 _),Nat.le_succ _,Nat.le_refl _,by omega⟩
 rintro a' w7 ⟨g8,g9,rfl,hx7,h8,h9,k8,k9,k89⟩
 have hone:(#[Value.int .i64 5,.bool false,.int .i64 0,.string ⟨#[]⟩,.slice none 0 0,.slice C ms.length d,.int .i64 (a:Nat)]).all (fun u=>u.oneCell')=true:=by simp[Value.oneCell']
 refine wpAnyS_step (i:=4) rfl (by kernel_rfl) (fun Kc hK=> ?_)
 refine step_store_row rfl 25 (.tmp 8) (.tmp 35) rfl g8 #[.int .i64 5,.bool false,.int .i64 0,.string ⟨#[]⟩,.slice none 0 0,.slice C ms.length d,.int .i64 (a:Nat)] rfl rfl _ _ h8 size_val rfl hone ?_
 have hx8:=hx7.setRow k8 #[Value.int .i64 5,.bool false,.int .i64 0,.string ⟨#[]⟩,.slice none 0 0,.slice C ms.length d,.int .i64 (a:Nat)]
 have h88:=setRow_heap _ _ _ #[Value.int .i64 5,.bool false,.int .i64 0,.string ⟨#[]⟩,.slice none 0 0,.slice C ms.length d,.int .i64 (a:Nat)] _ _ h8
 have h89:=(setRow_other w7 g8 g9 #[Value.int .i64 5,.bool false,.int .i64 0,.string ⟨#[]⟩,.slice none 0 0,.slice C ms.length d,.int .i64 (a:Nat)] (Ne.symm k89)).trans h9
 refine hK _ _ hx8 ?_
 clear hK Kc
 obtain ⟨w8,hw8⟩:∃w8,w7.setRow g8 #[Value.int .i64 5,.bool false,.int .i64 0,.string ⟨#[]⟩,.slice none 0 0,.slice C ms.length d,.int .i64 (a:Nat)]=w8:=⟨_,rfl⟩
 rw[hw8] at hx8 h88 h89⊢
 refine wpAnyS_step (i:=5) rfl (by kernel_rfl) (fun Kc hK=> ?_)
 refine step_store_row rfl 25 (.tmp 9) (.tmp 36) rfl g9 #[.int .i64 5,.bool false,.int .i64 0,.string ⟨#[]⟩,.slice none 0 0,.slice C ms.length d,.int .i64 (a:Nat)] rfl rfl _ _ h89 size_val rfl hone ?_
 have hx9:=hx8.setRow k9 #[Value.int .i64 5,.bool false,.int .i64 0,.string ⟨#[]⟩,.slice none 0 0,.slice C ms.length d,.int .i64 (a:Nat)]
 have h99:=setRow_heap _ _ _ #[Value.int .i64 5,.bool false,.int .i64 0,.string ⟨#[]⟩,.slice none 0 0,.slice C ms.length d,.int .i64 (a:Nat)] _ _ h89
 have h98:=(setRow_other w8 g9 g8 #[Value.int .i64 5,.bool false,.int .i64 0,.string ⟨#[]⟩,.slice none 0 0,.slice C ms.length d,.int .i64 (a:Nat)] k89).trans h88
 refine hK _ _ hx9 ?_
 clear hK Kc
 obtain ⟨X,hX⟩:∃X,w8.setRow g9 #[Value.int .i64 5,.bool false,.int .i64 0,.string ⟨#[]⟩,.slice none 0 0,.slice C ms.length d,.int .i64 (a:Nat)]=X:=⟨_,rfl⟩
 rw[hX] at hx9 h99 h98⊢
 refine sE ?_
 clear hX hw8 hx7 h8 h9 hx8 h88 h89 hone hxd
 obtain ⟨X8,hX8⟩:∃X8,X.setCell ⟨g8,5,none⟩ (.slice none 0 0)=X8:=⟨_,rfl⟩
 obtain ⟨X9,hX9⟩:∃X9,X8.setCell ⟨g9,5,none⟩ (.slice none 0 0)=X9:=⟨_,rfl⟩
 have u1:X.frozen? ⟨g8,5,none⟩=false:=Lib.frozen_of_heap h98 5
 have u1c:=cell_of_row _ _ 5 _ _ _ h98
 have hb8:X8.heap[g8]? =some (.cells (obC a (.slice none 0 0)) 25 (0,0)):=by rw[←hX8,heap_setCell_same _ _ _ _ _ _ h98];rfl
 have hb9:X8.heap[g9]? =some (.cells #[.int .i64 5,.bool false,.int .i64 0,.string ⟨#[]⟩,.slice none 0 0,.slice C ms.length d,.int .i64 (a:Nat)] 25 (0,0)):=by rw[←hX8,heap_setCell_other _ _ _ _ (Ne.symm k89)];exact h99
 have u2:X8.frozen? ⟨g9,5,none⟩=false:=Lib.frozen_of_heap hb9 5
 have u2c:=cell_of_row _ _ 5 _ _ _ hb9
 have hc9:X9.heap[g9]? =some (.cells (obC a (.slice none 0 0)) 25 (0,0)):=by rw[←hX9,heap_setCell_same _ _ _ _ _ _ hb9];rfl
 have hc8:X9.heap[g8]? =some (.cells (obC a (.slice none 0 0)) 25 (0,0)):=by rw[←hX9,heap_setCell_other _ _ _ _ k89];exact hb8
 have hxX9:Ext W2 X9:=by rw[←hX9,←hX8];exact (hx9.setCell (p:=⟨g8,5,none⟩) k8 _).setCell (p:=⟨g9,5,none⟩) k9 _
 have HNF0:Hid (NF W2 g8 g9 a (.slice none 0 0) (.slice none 0 0) [] [] X9):=gd ⟨hxX9,hc8,hc9,World.ownsRow_nil _ _ _ _,World.ownsRow_nil _ _ _ _,Or.inl rfl⟩
 have q5:=hxX9.cell q1_0_5
 have HK:=gd (And.intro k8 (And.intro k9 k89))
 clear h98 h99 hb8 hb9 hc8 hc9 hxX9 hx9 k8 k9 k89 q1_0_0 q1_0_1 q1_0_2 q1_0_3 q1_0_4 q1_0_5 q1_0_6
 go_wp2
 obtain ⟨i0,hi0,hz0,hz1,hz2⟩:=info_partsM
 have HLN:=gd HALL.out.lens
 go_loopw [42] (fun i wr=>∃(k:Nat) (v8 v9:Value),k≤ms.length∧i= .int .i64 k∧Hid (NF W2 g8 g9 a v8 v9 (nullM NM (ms.take k)) (dropM NM (ms.take k)) wr)) (fun i _=>ms.length - (intOf i).toNat)
 case atStart=>exact ⟨0,_,_,Nat.zero_le _,rfl,HNF0⟩
 case round=>
  obtain ⟨k2,v8,v9,hk2,rfl,hnf⟩:=hrel
  by_cases hlt:k2<ms.length
  focus
   have hnt:=nullM_take (nm:=NM) hlt
   have hdt:=dropM_take (nm:=NM) hlt
   obtain ⟨ad,cap,hA,hcells⟩:=RSl.elem (HROW.out.ext hnf.out.ext) (by omega) HLN.out k2 (mcell ms[k2]) (by rw[List.getElem?_map,List.getElem?_eq_getElem hlt];rfl)
   injection hA with hA1 hA2 hA3
   subst hA1
   clear hA2 hA3
   rw[Nat.mul_comm] at hcells
   obtain ⟨l8,hl8⟩:∃l,nullM NM (ms.take k2)=l:=⟨_,rfl⟩
   obtain ⟨l9,hl9⟩:∃l,dropM NM (ms.take k2)=l:=⟨_,rfl⟩
   have hn8:l8.length≤5000:=by rw[←hl8,nullM_len,List.length_take];omega
   have hn9:l9.length≤5000:=by have:=dropM_len NM (ms.take k2);rw[hl9,List.length_take] at this;omega
   rw[hl8] at hnt hnf
   rw[hl9] at hdt hnf
   have hzk:k2<z.length:=by rw[←HALL.out.len];exact hlt
   have hrel:=HALL.out.get (List.getElem?_eq_getElem hlt) (List.getElem?_eq_getElem hzk)
   obtain ⟨M,hM⟩:∃M,ms[k2]=M:=⟨_,rfl⟩
   rw[hM] at hcells hnt hdt hrel
   obtain ⟨key,cv,xt⟩:=M
   obtain ⟨A1,p1,q1,B1,p2,q2,hcv⟩:=hrel.2.2.cells
   dsimp only at hcv hnt hdt
   generalize kindJ z[k2].2=K,bJ z[k2].2=Bb,nJ z[k2].2=Nn,sJ z[k2].2=Ss,atJ z[k2].2=At at hcv
   subst hcv
   obtain ⟨d0,dv,d8⟩:=mcell_at rfl hcells
   have d1:=dv 0 _ rfl
   have d2:=dv 1 _ rfl
   have d3:=dv 2 _ rfl
   have d4:=dv 3 _ rfl
   have d5:=dv 4 _ rfl
   have d6:=dv 5 _ rfl
   have d7:=dv 6 _ rfl
   simp only[Nat.zero_add,Nat.reduceAdd] at d1 d2 d3 d4 d5 d6 d7
   have HNT:=gd hnt
   have HDT:=gd hdt
   obtain ⟨A8,c8,rfl⟩:=ownJ_form hnf.out.o8
   obtain ⟨A9,c9,rfl⟩:=ownJ_form hnf.out.o9
   obtain ⟨X1,hX1⟩:∃X1,wr.alloc (.cells #[.string key,.int .i64 (K:Nat),.bool Bb,.int .i64 Nn,.string Ss,.slice A1 p1 q1,.slice B1 p2 q2,.int .i64 (At:Nat),.int .i64 xt] 56)=X1:=⟨_,rfl⟩
   have hx1:Ext wr X1:=by rw[←hX1];exact (Ext.refl wr).alloc _
   have hb1:X1.heap[wr.heap.size]? =some (.cells #[.string key,.int .i64 (K:Nat),.bool Bb,.int .i64 Nn,.string Ss,.slice A1 p1 q1,.slice B1 p2 q2,.int .i64 (At:Nat),.int .i64 xt] 56 (0,0)):=by rw[←hX1];exact heap_alloc_new wr _
   have HN1:=gd (hnf.out.next hx1)
   obtain ⟨e0,e1,e2,e3,e4,e5,e6,e7,e8⟩:=box9 hb1
   have h95:=cell_of_row _ _ 5 _ _ _ HN1.out.b9
   have h85:=cell_of_row _ _ 5 _ _ _ HN1.out.b8
   have HB1:=gd hb1
   have HG9:=gd hnf.out.low
   have hlow8:Hid (∀q,(Value.slice A8 l8.length c8).ownBlock=some q→q<wr.heap.size):=gd fun q hq=>(hnf.out.o8.lt q hq).2
   have hlow9:Hid (∀q,(Value.slice A9 l9.length c9).ownBlock=some q→q<wr.heap.size):=gd fun q hq=>(hnf.out.o9.lt q hq).2
   clear hcells dv hM hrel hnt hdt hl8 hl9 hb1 hx1 hnf
   by_cases hkn:key=NM
  focus
   have hs8:=gd (HNT.out.trans (by rw[if_pos hkn]))
   have hs9:=gd (HDT.out.trans (by rw[if_pos hkn,List.append_nil]))
   have hbe:(key.toList==NM.toList)=true:=by rw[hkn];simp
   have hbn:(key.toList !=NM.toList)=false:=by rw[hkn];simp
   have HKN:=gd hkn
   clear hkn HNT HDT
   obtain ⟨X2,hX2⟩:∃X2,X1.alloc (.cells #[.string NM,.int .i64 0,.bool false,.int .i64 0,.string ⟨#[]⟩,.slice none 0 0,.slice none 0 0,.int .i64 0,.int .i64 xt] 56)=X2:=⟨_,rfl⟩
   have hx2:Ext X1 X2:=by rw[←hX2];exact (Ext.refl X1).alloc _
   have HNEW:Hid (RSl X2 9 (.slice (some ⟨X1.heap.size,0,none⟩) 1 1) 1 (mcell (NM,zero7,xt))):=gd (by rw[←hX2];exact rsl_new (cs:=mcell (NM,zero7,xt)) rfl (by decide))
   have HN2:=gd (HN1.out.next hx2)
   have HSZ:=gd HN2.out.ext.size
   clear hx2
   go_wp2_with (first|(at_builtin;refine wpList_append_rsl _ rfl (.tmp 63) (.tmp 68) _ rfl W2.heap.size 56 i0 _ 9 120 Tryz.underlying23 hi0 hz0 hz1 hz2 rfl (by decide) _ l8.length (l8.map mcell).flatten rfl HN2.out.o8 _ 1 (mcell (NM,zero7,xt)) rfl HNEW.out (mcell_z NM xt) (by unfold maxLen;omega) (by omega) HSZ.out ?_;intro v3 w3 hown3 hg3 hat3;(obtain ⟨A3,c3,rfl⟩:=ownJ_form hown3);(have fz:=Lib.frozen_of_heap (HN2.out.grow8 hg3) 5);(have fc:=cell_of_row _ _ 5 _ _ _ (HN2.out.grow8 hg3));(have HN3:=gd (HN2.out.snoc (m:=(NM,zero7,xt)) HK.out.1 HK.out.2.2 hown3 hg3 hat3));clear hown3 hg3 hat3))
   go_roundw
   case rel=>exact ⟨k2+1,_,_,hlt,by go_num,by rw[hs8.out,hs9.out,HKN.out];exact HN3⟩
   case measure=>simp[intOf];omega
  focus
   have hs8:=gd (HNT.out.trans (by rw[if_neg hkn]))
   have hs9:=gd (HDT.out.trans (by rw[if_neg hkn]))
   have hbe:(key.toList==NM.toList)=false:=beq_ne hkn
   have hbn:(key.toList !=NM.toList)=true:=by rw[bne,hbe];rfl
   clear hkn HNT HDT
   obtain ⟨X2,hX2⟩:∃X2,X1.alloc (.cells #[.string key,.int .i64 (K:Nat),.bool Bb,.int .i64 Nn,.string Ss,.slice A1 p1 q1,.slice B1 p2 q2,.int .i64 (At:Nat),.int .i64 xt] 56)=X2:=⟨_,rfl⟩
   have hx2:Ext X1 X2:=by rw[←hX2];exact (Ext.refl X1).alloc _
   have HNEW:Hid (RSl X2 9 (.slice (some ⟨X1.heap.size,0,none⟩) 1 1) 1 (mcell (key,wcells (K:Nat) Bb Nn Ss (.slice A1 p1 q1) (.slice B1 p2 q2) (At:Nat),xt))):=gd (by rw[←hX2];exact rsl_new (cs:=mcell (key,wcells (K:Nat) Bb Nn Ss (.slice A1 p1 q1) (.slice B1 p2 q2) (At:Nat),xt)) rfl (by decide))
   have HN2:=gd (HN1.out.next hx2)
   have HB2:=gd (hx2.heap HB1.out)
   have HSZ:=gd HN2.out.ext.size
   clear hx2
   go_wp2_with (first|(at_builtin;refine wpList_append_rsl _ rfl (.tmp 57) (.tmp 59) _ rfl W2.heap.size 56 i0 _ 9 120 Tryz.underlying23 hi0 hz0 hz1 hz2 rfl (by decide) _ l8.length (l8.map mcell).flatten rfl HN5.out.o8 _ 1 (mcell (key,wcells (K:Nat) Bb Nn Ss (.slice A1 p1 q1) (.slice B1 p2 q2) (At:Nat),xt)) rfl HNEW5.out mcell_ones (by unfold maxLen;omega) (by omega) HSZ5.out ?_;intro v6 w6 hown6 hg6 hat6;(obtain ⟨A6,c6,rfl⟩:=ownJ_form hown6);(have fz6:=Lib.frozen_of_heap (HN5.out.grow8 hg6) 5);(have fc6:=cell_of_row _ _ 5 _ _ _ (HN5.out.grow8 hg6));(have HN7:=gd (HN5.out.snoc (m:=(key,wcells (K:Nat) Bb Nn Ss (.slice A1 p1 q1) (.slice B1 p2 q2) (At:Nat),xt)) HK.out.1 HK.out.2.2 hown6 hg6 hat6));clear hown6 hg6 hat6)|(at_builtin;refine wpList_append_rsl _ rfl (.tmp 51) (.tmp 53) _ rfl W2.heap.size 56 i0 _ 9 120 Tryz.underlying23 hi0 hz0 hz1 hz2 rfl (by decide) _ l9.length (l9.map mcell).flatten rfl HN2.out.o9 _ 1 (mcell (key,wcells (K:Nat) Bb Nn Ss (.slice A1 p1 q1) (.slice B1 p2 q2) (At:Nat),xt)) rfl HNEW.out mcell_ones (by unfold maxLen;omega) (by omega) HSZ.out ?_;intro v3 w3 hown3 hg3 hat3;(obtain ⟨A3,c3,rfl⟩:=ownJ_form hown3);(have fz:=Lib.frozen_of_heap (HN2.out.swap.grow8 hg3) 5);(have fc:=cell_of_row _ _ 5 _ _ _ (HN2.out.swap.grow8 hg3));(have hn3:=(HN2.out.swap.snoc (m:=(key,wcells (K:Nat) Bb Nn Ss (.slice A1 p1 q1) (.slice B1 p2 q2) (At:Nat),xt)) HK.out.2.1 (Ne.symm HK.out.2.2) hown3 hg3 hat3).swap);(have hb3:w3.heap[wr.heap.size]? =some (.cells #[.string key,.int .i64 (K:Nat),.bool Bb,.int .i64 Nn,.string Ss,.slice A1 p1 q1,.slice B1 p2 q2,.int .i64 (At:Nat),.int .i64 xt] 56 (0,0)):=(hg3.block _ (Array.getElem?_eq_some_iff.1 HB2.out).1 (fun e=>Nat.lt_irrefl _ (hlow9.out _ e.symm))).trans HB2.out);(obtain ⟨X4,hX4⟩:∃X4,w3.setCell ⟨g9,5,none⟩ (.slice A3 (l9.length+1) c3)=X4:=⟨_,rfl⟩);(rw[hX4] at hn3);(have hb4:X4.heap[wr.heap.size]? =some (.cells #[.string key,.int .i64 (K:Nat),.bool Bb,.int .i64 Nn,.string Ss,.slice A1 p1 q1,.slice B1 p2 q2,.int .i64 (At:Nat),.int .i64 xt] 56 (0,0)):=by rw[←hX4,heap_setCell_other _ _ _ _ (Nat.ne_of_gt HG9.out.2)];exact hb3);(obtain ⟨f0,f1,f2,f3,f4,f5,f6,f7,f8⟩:=box9 hb4);(have h86:=cell_of_row _ _ 5 _ _ _ hn3.b8);(obtain ⟨X5,hX5⟩:∃X5,X4.alloc (.cells #[.string key,.int .i64 (K:Nat),.bool Bb,.int .i64 Nn,.string Ss,.slice A1 p1 q1,.slice B1 p2 q2,.int .i64 (At:Nat),.int .i64 xt] 56)=X5:=⟨_,rfl⟩);(have hx5:Ext X4 X5:=by rw[←hX5];exact (Ext.refl X4).alloc _);(have HNEW5:Hid (RSl X5 9 (.slice (some ⟨X4.heap.size,0,none⟩) 1 1) 1 (mcell (key,wcells (K:Nat) Bb Nn Ss (.slice A1 p1 q1) (.slice B1 p2 q2) (At:Nat),xt))):=gd (by rw[←hX5];exact rsl_new (cs:=mcell (key,wcells (K:Nat) Bb Nn Ss (.slice A1 p1 q1) (.slice B1 p2 q2) (At:Nat),xt)) rfl (by decide)));(have HN5:=gd (hn3.next hx5));(have HSZ5:=gd HN5.out.ext.size);clear hown3 hg3 hat3 hn3 hb3 hb4 hx5 e0 e1 e2 e3 e4 e5 e6 e7 e8 h95 h85))
   go_roundw
   case rel=>exact ⟨k2+1,_,_,hlt,by go_num,by rw[hs8.out,hs9.out];exact HN7⟩
   case measure=>simp[intOf];omega
  focus
   have hke:k2=ms.length:=by omega
   subst hke
   rw[List.take_of_length_le (Nat.le_refl _)] at hnf
   have hal:=HALL.out.ext hnf.out.ext
   have HR8:=gd ((hal.null NM).rj (a:=a) (RSl.of_own hnf.out.o8))
   have HR9:=gd ((hal.drop NM).rj (a:=a) (RSl.of_own hnf.out.o9))
   obtain ⟨A8,c8,rfl⟩:=ownJ_form hnf.out.o8
   obtain ⟨A9,c9,rfl⟩:=ownJ_form hnf.out.o9
   obtain ⟨n8,hn8⟩:∃n,(nullM NM ms).length=n:=⟨_,rfl⟩
   obtain ⟨n9,hn9⟩:∃n,(dropM NM ms).length=n:=⟨_,rfl⟩
   have hb8:=hnf.out.b8
   have hb9:=hnf.out.b9
   rw[hn8] at hb8 HR8
   rw[hn9] at hb9 HR9
   have HC8:Hid (∀W':World,Ext wr W'→W'.cell? ⟨g8,0,none⟩=some (.int .i64 5)∧W'.cell? ⟨g8,1,none⟩=some (.bool false)∧W'.cell? ⟨g8,2,none⟩=some (.int .i64 0)∧W'.cell? ⟨g8,3,none⟩=some (.string ⟨#[]⟩)∧W'.cell? ⟨g8,4,none⟩=some (.slice none 0 0)∧W'.cell? ⟨g8,5,none⟩=some (.slice A8 n8 c8)∧W'.cell? ⟨g8,6,none⟩=some (.int .i64 (a:Nat))):=gd fun W' h=>⟨h.cell (cell_of_row _ _ 0 _ _ _ hb8),h.cell (cell_of_row _ _ 1 _ _ _ hb8),h.cell (cell_of_row _ _ 2 _ _ _ hb8),h.cell (cell_of_row _ _ 3 _ _ _ hb8),h.cell (cell_of_row _ _ 4 _ _ _ hb8),h.cell (cell_of_row _ _ 5 _ _ _ hb8),h.cell (cell_of_row _ _ 6 _ _ _ hb8)⟩
   have HC9:Hid (∀W':World,Ext wr W'→W'.cell? ⟨g9,0,none⟩=some (.int .i64 5)∧W'.cell? ⟨g9,1,none⟩=some (.bool false)∧W'.cell? ⟨g9,2,none⟩=some (.int .i64 0)∧W'.cell? ⟨g9,3,none⟩=some (.string ⟨#[]⟩)∧W'.cell? ⟨g9,4,none⟩=some (.slice none 0 0)∧W'.cell? ⟨g9,5,none⟩=some (.slice A9 n9 c9)∧W'.cell? ⟨g9,6,none⟩=some (.int .i64 (a:Nat))):=gd fun W' h=>⟨h.cell (cell_of_row _ _ 0 _ _ _ hb9),h.cell (cell_of_row _ _ 1 _ _ _ hb9),h.cell (cell_of_row _ _ 2 _ _ _ hb9),h.cell (cell_of_row _ _ 3 _ _ _ hb9),h.cell (cell_of_row _ _ 4 _ _ _ hb9),h.cell (cell_of_row _ _ 5 _ _ _ hb9),h.cell (cell_of_row _ _ 6 _ _ _ hb9)⟩
   have HX1:=gd (HY2.out.trans hnf.out.ext)
   clear hnf hal hn8 hn9 hb8 hb9
  obtain ⟨q0_0_0,q0_0_1,q0_0_2,q0_0_3,q0_0_4,q0_0_5,q0_0_6⟩:=HC8.out _ (Ext.refl wr)
  obtain ⟨q0_1_0,q0_1_1,q0_1_2,q0_1_3,q0_1_4,q0_1_5,q0_1_6⟩:=HC9.out _ (Ext.refl wr)
  go_wp2_with (first|(go_at_call 16;(have hz:=HSM.out _ A5 c5 B5 d5 A6 c6 B6 d6 HF53.out HF63.out);(with_reducible refine Calls.mono hz ?_);clear hz;rintro e w16 ⟨rfl,hx16⟩;(have hy16:=hy15.trans hx16))|(go_at_call 11;(have hz:=HAL.out _ (HX1.out.trans hy14));(with_reducible refine Calls.mono hz ?_);clear hz;rintro e w15 ⟨rfl,hx15⟩;(have HF63:=gd (HF6.out.ext hx15));(have HF53:=gd (HF52.out.ext hx15));(have hy15:=hy14.trans hx15);(obtain ⟨q3_0_0,q3_0_1,q3_0_2,q3_0_3,q3_0_4,q3_0_5,q3_0_6⟩:=HC8.out _ hy15);(obtain ⟨q3_1_0,q3_1_1,q3_1_2,q3_1_3,q3_1_4,q3_1_5,q3_1_6⟩:=HC9.out _ hy15);(have hc2_15:=hc2_14.trans hx15);(obtain ⟨q3_2_0,q3_2_1,q3_2_2,q3_2_3,q3_2_4,q3_2_5⟩:=HB13.out _ hc2_15);(have hc3_15:=(Ext.refl W14).trans hx15);(obtain ⟨q3_3_0,q3_3_1,q3_3_2,q3_3_3,q3_3_4,q3_3_5⟩:=HB14.out _ hc3_15);clear q2_0_0 q2_0_1 q2_0_2 q2_0_3 q2_0_4 q2_0_5 q2_0_6 q2_1_0 q2_1_1 q2_1_2 q2_1_3 q2_1_4 q2_1_5 q2_1_6 q2_2_0 q2_2_1 q2_2_2 q2_2_3 q2_2_4 q2_2_5 q2_3_0 q2_3_1 q2_3_2 q2_3_3 q2_3_4 q2_3_5)|(go_at_call 12;(have hz:=HD2.out _ [.int .i64 5,.bool false,.int .i64 0,.string ⟨#[]⟩,.slice none 0 0,.slice A9 n9 c9,.int .i64 (a:Nat)] (HX1.out.trans hy13) (Or.inr (HR9.out.ext hy13)));(refine Calls.mono hz ?_);clear hz;rintro e w14 ⟨⟨A6,c6,B6,d6,rfl,hrd⟩,hx14⟩;(obtain ⟨W14,hW14⟩:∃W0,w14.alloc (.cells #[.slice A6 gpath.length c6,.string gid,.string gtitle,.string glink,.int .i64 gupd,.slice B6 gents.length d6] 32)=W0:=⟨_,rfl⟩);(have hv14:Ext w14 W14:=by rw[←hW14];exact (Ext.refl _).alloc _);(have hb14:∀i v,(#[.slice A6 gpath.length c6,.string gid,.string gtitle,.string glink,.int .i64 gupd,.slice B6 gents.length d6]:Array Value)[i]? =some v→W14.cell? ⟨w14.heap.size,i,none⟩=some v:=fun i v h=>by rw[←hW14];exact (Ext.refl (w14.alloc _)).boxed i v h);(have HB14:Hid (∀W':World,Ext W14 W'→W'.cell? ⟨w14.heap.size,0,none⟩=some (.slice A6 gpath.length c6)∧W'.cell? ⟨w14.heap.size,1,none⟩=some (.string gid)∧W'.cell? ⟨w14.heap.size,2,none⟩=some (.string gtitle)∧W'.cell? ⟨w14.heap.size,3,none⟩=some (.string glink)∧W'.cell? ⟨w14.heap.size,4,none⟩=some (.int .i64 gupd)∧W'.cell? ⟨w14.heap.size,5,none⟩=some (.slice B6 gents.length d6)):=gd fun W' h=>⟨h.cell (hb14 0 _ rfl),h.cell (hb14 1 _ rfl),h.cell (hb14 2 _ rfl),h.cell (hb14 3 _ rfl),h.cell (hb14 4 _ rfl),h.cell (hb14 5 _ rfl)⟩);clear hb14;(have hs14:=hx14.trans hv14);(have hy14:=hy13.trans hs14);(obtain ⟨q2_0_0,q2_0_1,q2_0_2,q2_0_3,q2_0_4,q2_0_5,q2_0_6⟩:=HC8.out _ hy14);(obtain ⟨q2_1_0,q2_1_1,q2_1_2,q2_1_3,q2_1_4,q2_1_5,q2_1_6⟩:=HC9.out _ hy14);(have hc2_14:=(Ext.refl W13).trans hs14);(obtain ⟨q2_2_0,q2_2_1,q2_2_2,q2_2_3,q2_2_4,q2_2_5⟩:=HB13.out _ hc2_14);clear q1_0_0 q1_0_1 q1_0_2 q1_0_3 q1_0_4 q1_0_5 q1_0_6 q1_1_0 q1_1_1 q1_1_2 q1_1_3 q1_1_4 q1_1_5 q1_1_6 q1_2_0 q1_2_1 q1_2_2 q1_2_3 q1_2_4 q1_2_5;(obtain ⟨q2_3_0,q2_3_1,q2_3_2,q2_3_3,q2_3_4,q2_3_5⟩:=HB14.out _ (Ext.refl W14));(have HF6:=gd (hrd.ext hv14));(have HF52:=gd (HF5.out.ext hs14));clear hrd)|(go_at_call 12;(have hz:=HD2.out _ [.int .i64 5,.bool false,.int .i64 0,.string ⟨#[]⟩,.slice none 0 0,.slice A8 n8 c8,.int .i64 (a:Nat)] (HX1.out.trans (Ext.refl wr)) (Or.inl (HR8.out.ext (Ext.refl wr))));(refine Calls.mono hz ?_);clear hz;rintro e w13 ⟨⟨A5,c5,B5,d5,rfl,hrd⟩,hx13⟩;(obtain ⟨W13,hW13⟩:∃W0,w13.alloc (.cells #[.slice A5 gpath.length c5,.string gid,.string gtitle,.string glink,.int .i64 gupd,.slice B5 gents.length d5] 32)=W0:=⟨_,rfl⟩);(have hv13:Ext w13 W13:=by rw[←hW13];exact (Ext.refl _).alloc _);(have hb13:∀i v,(#[.slice A5 gpath.length c5,.string gid,.string gtitle,.string glink,.int .i64 gupd,.slice B5 gents.length d5]:Array Value)[i]? =some v→W13.cell? ⟨w13.heap.size,i,none⟩=some v:=fun i v h=>by rw[←hW13];exact (Ext.refl (w13.alloc _)).boxed i v h);(have HB13:Hid (∀W':World,Ext W13 W'→W'.cell? ⟨w13.heap.size,0,none⟩=some (.slice A5 gpath.length c5)∧W'.cell? ⟨w13.heap.size,1,none⟩=some (.string gid)∧W'.cell? ⟨w13.heap.size,2,none⟩=some (.string gtitle)∧W'.cell? ⟨w13.heap.size,3,none⟩=some (.string glink)∧W'.cell? ⟨w13.heap.size,4,none⟩=some (.int .i64 gupd)∧W'.cell? ⟨w13.heap.size,5,none⟩=some (.slice B5 gents.length d5)):=gd fun W' h=>⟨h.cell (hb13 0 _ rfl),h.cell (hb13 1 _ rfl),h.cell (hb13 2 _ rfl),h.cell (hb13 3 _ rfl),h.cell (hb13 4 _ rfl),h.cell (hb13 5 _ rfl)⟩);clear hb13;(have hs13:=hx13.trans hv13);(have hy13:=(Ext.refl wr).trans hs13);(obtain ⟨q1_0_0,q1_0_1,q1_0_2,q1_0_3,q1_0_4,q1_0_5,q1_0_6⟩:=HC8.out _ hy13);(obtain ⟨q1_1_0,q1_1_1,q1_1_2,q1_1_3,q1_1_4,q1_1_5,q1_1_6⟩:=HC9.out _ hy13);clear q0_0_0 q0_0_1 q0_0_2 q0_0_3 q0_0_4 q0_0_5 q0_0_6 q0_1_0 q0_1_1 q0_1_2 q0_1_3 q0_1_4 q0_1_5 q0_1_6;(obtain ⟨q1_2_0,q1_2_1,q1_2_2,q1_2_3,q1_2_4,q1_2_5⟩:=HB13.out _ (Ext.refl W13));(have HF5:=gd (hrd.ext hv13));clear hrd))
  go_ret
  exact ⟨rfl,HX1.out.trans hy16⟩
theorem law23_any (s:ByteArray) (k:Int) (w:World) (hE:Env w) (hs:s.size≤reachBytes) (hk8:0≤k∧k≤255):
 Calls Tryz.prog 8 #[.string s,.int .u8 k] w fun e w'=>e= .returned (.bool true)∧Ext w w':=by
 cases hj:docJ s with
 |none=>exact nul_none s k w hE hs hj
 |some o=>
  by_cases h5:kindJ o=5
  ·cases o with
   |obj a ks vs=>exact nul_obj s k w hE hs hk8 a ks vs hj
   |_=>exact absurd h5 (by simp[kindJ])
  ·exact nul_kind s k w hE hs o hj h5
end
theorem lifted23 (os:Os) (started:os.Started) (H:Type) (enc:TypeId×Value→H):
 ReturnsInHanded {} Tryz.checked os 8 .any (fun w args=>(Rows.jsonfeedNullsSpec.pre enc Tryz.prog Tryz.f8 [] false w args∧laidMetH Tryz.prog laidAll w)∧sizedMet enc Tryz.prog Tryz.f8 (OpenSpec.ofChange Rows.jsonfeedNullsSpec) false w args)
  (Rows.jsonfeedNullsSpec.post enc Tryz.prog Tryz.f8 false true false false):=by
 refine returnsInHanded_of_change_and (C:=Tryz.checked) (X:=fun w _=>laidMetH Tryz.prog laidAll w) (fun _ _ _ hh h=>h.of_heap hh) own1 started (by kernel_rfl) Tryz.func8
  (ChangeSpec.witness_shaped (enc:=enc) (C:=Tryz.checked) (os:=os) (X:=fun w _=>laidMetH Tryz.prog laidAll w) false (World.laidAll Tryz.prog os laidAll) #[.string ⟨#[]⟩,.int .u8 0] 8 (World.laidAll_os _ _ _)
   (World.shaped_of_ZipB (by kernel_rfl) (by kernel_rfl)) (by kernel_rfl) (by kernel_rfl) (by kernel_rfl)
   (by rw[MakeChecks.laidMetH_plain _ _ _ (by kernel_rfl)];exact laidMet_laidAll _ (by kernel_rfl) (by kernel_rfl))) ?_
 intro W base args ds gs before hval0 hW hc hsz hL _
 have hval:∀(j:Nat) t v,Tryz.f8.params[j]? =some t→args[j]? =some v→Value.okWide Tryz.prog W .any base t v:=hval0
 have hW':=hW
 obtain ⟨p,q,hA0,hV,rfl,_,_⟩:=hW
 have hA:DataW.TrodAll enc Tryz.prog W 0 (fun _=>true) true Tryz.f8.params.toList args.toList ds p:=hA0
 rw[Tryz.params8] at hA hval
 obtain ⟨v0,v1,d0,d1,p0,p1,rfl,rfl,rfl,h0,h1⟩:=trodAll_two hA
 obtain ⟨rfl,rfl⟩:=trodVars_none hV
 have h0k:=h0
 have h1k:=h1
 rw[MakeChecks.laidMetH_plain _ _ _ (by kernel_rfl)] at hL
 have hE:=env_of_laid hL
 have hwt:(DataW.weightsEach Tryz.prog [9,5] [d0,d1]).all (· ≤reachBytes)=true:=by
  have h:=hsz
  rw[Tryz.params8] at h
  exact h
 have hwa:=List.all_eq_true.1 hwt
 have hw0:∀n∈d0.weights Tryz.prog 9,n≤reachBytes:=fun n hn=>of_decide_eq_true (hwa n (by simp only[DataW.weightsEach,List.append_nil,List.mem_append];exact Or.inl hn))
 clear hsz hwt hwa
 have hlt:∀x∈(p0++p1),x.block<W.heap.size:=fun x hx=>by simpa using hW'.lt x (List.mem_append_left _ hx)
 obtain ⟨fuel0,hf0⟩:=h0
 obtain ⟨s0,rfl⟩:=okWide_string Tryz.underlying9 (hval 0 9 v0 rfl rfl)
 obtain ⟨q0,e0,u0,_⟩:=DataW.trod_string Tryz.underlying9 (show DataW.trod enc Tryz.prog W 0 (fun _=>true) true fuel0 9 [.string s0]=some (d0,p0) from hf0)
 injection e0 with e0 _
 injection e0 with e0
 subst e0
 rw[(Prod.mk.inj u0).1] at hw0
 have hz0:s0.size≤reachBytes:=hw0 s0.size (by simp[DataW.weights])
 obtain ⟨fuel1,hf1⟩:=h1
 obtain ⟨n1,rfl⟩:=okWide_int Tryz.underlying5 (hval 1 5 v1 rfl rfl)
 obtain ⟨m1,hm1,_,hwf1⟩:=DataW.trod_int Tryz.underlying5 (show DataW.trod enc Tryz.prog W 0 (fun _=>true) true fuel1 5 [.int .u8 n1]=some (d1,p1) from hf1)
 injection hm1 with hm1 _
 injection hm1 with _ hm1
 subst hm1
 refine (law23_any s0 n1 W hE hz0 (u8_of_wf hwf1)).mono fun e W' ⟨he,hx⟩=> ?_
 subst he
 have hB:Below W.heap.size W W':=hx
 refine ⟨_,rfl,_,_,_,[],(p0++p1),[],hW',?_,?_,?_,hB.frame _,fun h=>by cases h⟩
 ·exact trodAll_mk1 (shut_bool Tryz.underlying4 _)
 ·exact trodAll_mk2 (Below.trod laidOut1 (by kernel_rfl) (of_decide_eq_true (by kernel_rfl)) h0k hB fun x hx=>hlt x (List.mem_append_left _ hx)) (Below.trod laidOut1 (by kernel_rfl) (of_decide_eq_true (by kernel_rfl)) h1k hB fun x hx=>hlt x (List.mem_append_right _ hx))
 ·rfl
end Go.Proofs.YthlnaldahkgjnaaGreatDoor
