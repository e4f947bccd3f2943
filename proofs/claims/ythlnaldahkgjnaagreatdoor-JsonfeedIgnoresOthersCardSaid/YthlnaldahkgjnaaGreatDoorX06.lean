/- Parts of the proof: contracts and plain laws. -/
import Derived.Lib.ItoaLen
import Derived.Lib.AppendZerosOnto
import Derived.Lib.SliceRun
import Derived.Test.YthlnaldahkgjnaaGreatDoorV01
import Derived.Test.YthlnaldahkgjnaaGreatDoorV02
import Derived.Test.YthlnaldahkgjnaaGreatDoorV03
import Derived.Test.YthlnaldahkgjnaaGreatDoorV04
import Derived.Test.YthlnaldahkgjnaaGreatDoorV05
import Derived.Test.YthlnaldahkgjnaaGreatDoorV06
import Derived.Test.YthlnaldahkgjnaaGreatDoorV07
import Derived.Test.YthlnaldahkgjnaaGreatDoorV08
import Derived.Test.YthlnaldahkgjnaaGreatDoorV09
import Derived.Test.YthlnaldahkgjnaaGreatDoorV10
import Derived.Test.YthlnaldahkgjnaaGreatDoorV11
import Derived.Test.YthlnaldahkgjnaaGreatDoorV12
import Derived.Test.YthlnaldahkgjnaaGreatDoorV13
import Derived.Test.YthlnaldahkgjnaaGreatDoorV14
import Derived.Test.YthlnaldahkgjnaaGreatDoorV15
import Derived.Test.YthlnaldahkgjnaaGreatDoorV16
import Derived.Test.YthlnaldahkgjnaaGreatDoorV17
import Derived.Test.YthlnaldahkgjnaaGreatDoorV18
import Derived.Test.YthlnaldahkgjnaaGreatDoorV19
import Derived.Test.YthlnaldahkgjnaaGreatDoorV20
import Derived.Test.YthlnaldahkgjnaaGreatDoorV31
import Derived.Test.YthlnaldahkgjnaaGreatDoorX01
namespace Go.Proofs.YthlnaldahkgjnaaGreatDoor
open Go Go.RowKit
set_option linter.unusedVariables false
set_option linter.unusedSimpArgs false
set_option maxRecDepth 100000
set_option maxHeartbeats 16000000
section
set_option linter.unusedSimpArgs false
theorem lookZ_nil (n:ByteArray):lookZ [] n=none:=rfl
theorem obj_zip {a:Nat} {ks:List (ByteArray×Nat)} {vs:List JO} (h:ks.length=vs.length):JO.obj a ks vs=objZ a (ks.zip vs):=by
 unfold objZ
 rw[List.map_fst_zip (Nat.le_of_eq h),List.map_snd_zip (Nat.le_of_eq h.symm)]
theorem lookZ_mem {n:ByteArray} {v:JO}:∀{z:ZL},(z.map fun p=>p.1.1).Nodup→(lookZ z n=some v↔∃p∈z,p.1.1=n∧p.2=v)
 | [],_=>by rw[lookZ_nil];simp
 |p::t,h=>by
  rw[List.map_cons,List.nodup_cons] at h
  rw[lookZ_cons]
  by_cases hp:p.1.1=n
  ·rw[if_pos hp]
   constructor
   ·intro e;injection e with e;exact ⟨p,List.mem_cons_self ..,hp,e⟩
   ·rintro ⟨q,hq,hqn,rfl⟩
    rcases List.mem_cons.1 hq with rfl|hq
    ·rfl
    ·exact absurd (List.mem_map.2 ⟨q,hq,hqn.trans hp.symm⟩) h.1
  ·rw[if_neg hp,lookZ_mem h.2]
   constructor
   ·rintro ⟨q,hq,h1,h2⟩;exact ⟨q,List.mem_cons_of_mem _ hq,h1,h2⟩
   ·rintro ⟨q,hq,h1,h2⟩
    rcases List.mem_cons.1 hq with rfl|hq
    ·exact absurd h1 hp
    ·exact ⟨q,hq,h1,h2⟩
theorem lookZ_perm {z y:ZL} (h:z.Perm y) (hz:(z.map fun p=>p.1.1).Nodup) (n:ByteArray):lookZ z n=lookZ y n:=by
 have hy:(y.map fun p=>p.1.1).Nodup:=(h.map _).nodup_iff.1 hz
 refine Option.ext fun v=> ?_
 rw[lookZ_mem hz,lookZ_mem hy]
 exact ⟨fun ⟨p,hp,e⟩=>⟨p,h.subset hp,e⟩,fun ⟨p,hp,e⟩=>⟨p,h.symm.subset hp,e⟩⟩
def nX:ByteArray:=⟨#[95,120]⟩
theorem getJ_none {a:Nat}:∀{z:ZL},getJ (objZ a z) nX=none→nX ∉ z.map fun p=>p.1.1
 | [],_=>by simp
 |p::t,h=>by
  rw[getJ_objZ,lookZ_cons] at h
  by_cases hp:p.1.1=nX
  ·rw[if_pos hp] at h;cases h
  ·rw[if_neg hp] at h
   rw[List.map_cons,List.mem_cons]
   rintro (e|e)
   ·exact hp e.symm
   ·exact getJ_none (a:=a) (z:=t) h e
theorem others_dec {a:Nat} {z y:ZL} {x:JO} {b:Nat} (hz:(z.map fun p=>p.1.1).Nodup) (hx:getJ (objZ a z) nX=none) (hp:y.Perm (((nX,b),x)::z)):decJ (objZ a y)=decJ (objZ a z):=by
 have hnx:=getJ_none hx
 have hnd:((((nX,b),x)::z).map fun p=>p.1.1).Nodup:=by
  rw[List.map_cons,List.nodup_cons]
  exact ⟨hnx,hz⟩
 have hg:∀n,n≠nX→getJ (objZ a y) n=getJ (objZ a z) n:=fun n hn=>by
  rw[getJ_objZ,getJ_objZ,lookZ_perm hp ((hp.map _).nodup_iff.2 hnd),lookZ_cons,if_neg (Ne.symm hn)]
 refine decJ_congr (hg _ (by decide+kernel)) rfl fun n hn=>memJ_of_look (hg n ?_)
 have hne:∀m∈ [nFeedUrl,nHome,nTitle,nUpdated,nItems],m≠nX:=by decide+kernel
 exact hne n hn
theorem keyP_new {l:List UInt8} {i to_:Nat} {k:ByteArray} {ks:List (ByteArray×Nat)} (h:keyP l i ks=some (k,to_)):k ∉ ks.map Prod.fst:=by
 unfold keyP at h
 cases hs:strP l i with
 |none=>rw[hs] at h;cases h
 |some p=>
  obtain ⟨u,t⟩:=p
  rw[hs] at h
  simp only at h
  by_cases ha:(ks.any fun p=>decide (p.1=str u))=true
  ·rw[if_pos ha] at h;cases h
  ·rw[if_neg ha] at h
   split at h
   ·injection h with h
    injection h with h1 h2
    subst h1
    intro hm
    obtain ⟨p,hp,e⟩:=List.mem_map.1 hm
    exact ha (List.any_eq_true.2 ⟨p,hp,decide_eq_true e⟩)
   ·cases h
theorem memsGo_nodup {l:List UInt8} {V:Nat→Option (JO×Nat)}:∀(f i:Nat) (ak:List (ByteArray×Nat)) (av:List JO) (ks:List (ByteArray×Nat)) (vs:List JO) (to_:Nat),memsGo l V f i ak av=some ((ks,vs),to_)→(ak.map Prod.fst).Nodup→(ks.map Prod.fst).Nodup
 |0,_,_,_,_,_,_,h,_=>by simp[memsGo] at h
 |f+1,i,ak,av,ks,vs,to_,h,hn=>by
  unfold memsGo at h
  cases hk:keyP l (spAt l i) ak with
  |none=>rw[hk] at h;cases h
  |some p=>
   obtain ⟨key,t1⟩:=p
   rw[hk] at h
   simp only at h
   have hnew:=keyP_new hk
   have hn':((ak++ [(key,spAt l i)]).map Prod.fst).Nodup:=by
    rw[List.map_append]
    refine List.nodup_append.2 ⟨hn,by simp,?_⟩
    intro x hx y hy e
    simp only[List.map_cons,List.map_nil,List.mem_singleton] at hy
    exact hnew (by rw[←hy,←e];exact hx)
   cases hv:V t1 with
   |none=>rw[hv] at h;cases h
   |some q=>
    obtain ⟨v,t2⟩:=q
    rw[hv] at h
    simp only at h
    split at h
    ·injection h with h
     injection h with h _
     injection h with h _
     rw[←h];exact hn'
    ·split at h
     ·exact memsGo_nodup f _ _ _ ks vs to_ h hn'
     ·cases h
theorem listP_nodup {l:List UInt8} {V:Nat→Option (JO×Nat)} {i to_ a:Nat} {b:Bool} {ks:List (ByteArray×Nat)} {vs:List JO} (h:listP l V i b=some (.obj a ks vs,to_)):(ks.map Prod.fst).Nodup:=by
 unfold listP at h
 cases b with
 |true=>
  rw[if_pos rfl] at h
  split at h
  ·injection h with h
   injection h with h _
   injection h with _ h _
   rw[←h];simp
  ·cases hm:memsGo l V (l.length+1) (spAt l (i+1)) [] [] with
   |none=>rw[hm] at h;cases h
   |some p=>
    obtain ⟨⟨k,v⟩,t⟩:=p
    rw[hm] at h
    injection h with h
    injection h with h _
    injection h with _ h _
    rw[←h]
    exact memsGo_nodup _ _ _ _ _ _ _ hm (by simp)
 |false=>
  rw[if_neg (by decide)] at h
  split at h
  ·injection h with h
   injection h with h _
   cases h
  ·split at h
   ·injection h with h
    injection h with h _
    cases h
   ·cases h
theorem valG_nodup {l:List UInt8} {L:Nat→Bool→Option (JO×Nat)} {i to_ a:Nat} {ks:List (ByteArray×Nat)} {vs:List JO} (hL:∀i b to_ a ks vs,L i b=some (.obj a ks vs,to_)→(ks.map Prod.fst).Nodup) (h:valG l L i=some (.obj a ks vs,to_)):(ks.map Prod.fst).Nodup:=by
 unfold valG at h
 cases hc:l[i]? with
 |none=>rw[hc] at h;cases h
 |some c=>
  rw[hc] at h
  simp only at h
  repeat' split at h
  all_goals first|exact hL _ _ _ _ _ _ h|(cases h;done)|(injection h with h;injection h with h _;cases h;done)
theorem jsonP_nodup {l:List UInt8} {a:Nat} {ks:List (ByteArray×Nat)} {vs:List JO} (h:jsonP l=some (.obj a ks vs)):(ks.map Prod.fst).Nodup:=by
 unfold jsonP at h
 split at h
 ·rename_i v to_ hv
  split at h
  ·cases h
  ·injection h with h
   subst h
   unfold valP at hv
   exact valG_nodup (fun i b to_ a ks vs h=>listP_nodup h) hv
 ·cases h
end
section
set_option linter.unusedSimpArgs false
theorem AllM.ones {n:Nat} {w:World}:∀{l:List Mm} {z:ZL},AllM (relM n w) l z→∀u∈(l.map mcell).flatten,u.oneCell'=true
 | [],[],_,u,hu=>by simp at hu
 |m::l,p::z,h,u,hu=>by
  rw[List.map_cons,List.flatten_cons] at hu
  rcases List.mem_append.1 hu with hu|hu
  ·obtain ⟨key,cs,x⟩:=m
   obtain ⟨A,p',c,B,q,d,hc⟩:=h.1.2.2.cells
   dsimp only at hc
   subst hc
   exact mcell_ones u hu
  ·exact h.2.ones u hu
 | [],_::_,h,_,_=>h.elim
 |_::_,[],h,_,_=>h.elim
section
variable {W2 W W':World} {g8 g9 a:Nat} {v8 v9 v':Value} {l8 l9:List Mm}
end
end
theorem rowSliceMm:Tryz.prog.underlying 23=some (.slice (Tryz.prog.elem 23)):=by kernel_rfl
theorem rowSizeMm (w:World):(Go.sizeOf (Tryz.prog.elem 23)).run Tryz.prog w= .ok 9 w:=by kernel_rfl
theorem growM_any (n:Nat) (w:World) (hn:n≤1000000):
 Calls Tryz.prog 62 #[.slice none 0 0,.int .i64 n] w fun e w'=>∃(gA:Option Addr) (gc:Nat),e= .returned (.slice gA 0 gc)∧w'.ownsRow w.heap.size 56 9 (.slice gA 0 gc) 0 []∧Ext w w':=by
 obtain ⟨i0,hi0,hz0,hz1,hz2⟩:=info_parts info_mem
 rcases Nat.eq_zero_or_pos n with h0|h0
 ·subst h0
  go_enter Tryz.func62,Tryz.ntmps62
  go_wp2
  go_ret
  exact ⟨none,0,rfl,World.ownsRow_nil _ _ _ _,Ext.refl _⟩
 ·obtain ⟨G,hG⟩:∃G,G=grownCap w n 0 56:=⟨_,rfl⟩
  have hGn:n≤G:=by rw[hG];exact grownCap_ge w _ _ _
  have hGm:G≤maxLen:=by rw[hG];exact grownCap_le_maxLen w _ _ _ (by unfold maxLen;omega)
  have hrz:∀ty,(Builtin.append_ #[23,3] ty #[.slice none 0 0,.int .i64 (n:Int)]).run Tryz.prog w=
   .ok (.slice (some ⟨w.heap.size,0,none⟩) n G) (w.drew.alloc (.cells ((([]:List Value).toArray++Builtin.zeroCells (Value.agg #[.string ⟨#[]⟩,.int .i64 0,.bool false,.int .i64 0,.string ⟨#[]⟩,.slice none 0 0,.slice none 0 0,.int .i64 0,.int .i64 0]).cells n++Builtin.zeroCells (Value.agg #[.string ⟨#[]⟩,.int .i64 0,.bool false,.int .i64 0,.string ⟨#[]⟩,.slice none 0 0,.slice none 0 0,.int .i64 0,.int .i64 0]).cells (G - n))) 56)):=fun ty=>by
   have h:=Lib.run_append_grow_zeros w 23 3 ty 56 i0 _ .i64 .i64 Tryz.underlying23 Tryz.underlying3 hi0 hz0 none 0 0 [] (run_firstCells_none w.drew i0.size 0 0 0) n h0 (by omega) (by omega) (by omega)
    (by rw[hz2];omega) (by rw[hz2,Nat.zero_add];exact growslice_fits h0 (by omega))
   rw[Nat.zero_add,←hG] at h
   exact h
  have hsl1:∀wx:World,(Instr.slice 23 (.slice none 0 0) none (some (.int .i64 0)) none).run Tryz.prog wx= .ok (.slice none 0 0) wx:=fun wx=>by
   rw[run_slice_h (P:=Tryz.prog) (w:=wx) 23 none 0 0 rowSliceMm .i64 0 (by omega) (by omega),rowSizeMm]
   rfl
  have hsl2:∀wx:World,(Instr.slice 23 (.slice (some ⟨w.heap.size,0,none⟩) n G) none (some (.int .i64 0)) none).run Tryz.prog wx= .ok (.slice (some ⟨w.heap.size,0,none⟩) 0 G) wx:=fun wx=>by
   rw[run_slice_h (P:=Tryz.prog) (w:=wx) 23 (some ⟨w.heap.size,0,none⟩) n G rowSliceMm .i64 0 (by omega) (by omega),rowSizeMm]
   show Result.ok (sliced (some ⟨w.heap.size,0,none⟩) 0 0 G 9) wx=_
   unfold sliced
   have:G≠0:=by omega
   rw[if_neg this]
   rfl
  have hZ:(((([]:List Value).toArray++Builtin.zeroCells (Value.agg #[.string ⟨#[]⟩,.int .i64 0,.bool false,.int .i64 0,.string ⟨#[]⟩,.slice none 0 0,.slice none 0 0,.int .i64 0,.int .i64 0]).cells n++Builtin.zeroCells (Value.agg #[.string ⟨#[]⟩,.int .i64 0,.bool false,.int .i64 0,.string ⟨#[]⟩,.slice none 0 0,.slice none 0 0,.int .i64 0,.int .i64 0]).cells (G - n)))).size=G*9:=by
   simp only[Array.size_append,List.size_toArray,List.length_nil,size_zeroCells]
   show 0+n*9+(G - n)*9=G*9
   omega
  obtain ⟨Z,hZe⟩:∃Z,((([]:List Value).toArray++Builtin.zeroCells (Value.agg #[.string ⟨#[]⟩,.int .i64 0,.bool false,.int .i64 0,.string ⟨#[]⟩,.slice none 0 0,.slice none 0 0,.int .i64 0,.int .i64 0]).cells n++Builtin.zeroCells (Value.agg #[.string ⟨#[]⟩,.int .i64 0,.bool false,.int .i64 0,.string ⟨#[]⟩,.slice none 0 0,.slice none 0 0,.int .i64 0,.int .i64 0]).cells (G - n)))=Z:=⟨_,rfl⟩
  simp only[hZe] at hrz
  rw[hZe] at hZ
  have HRZ:=gd hrz
  have HGM:=gd hGm
  have HZ:=gd hZ
  have hn0:(0:Int)<(n:Int):=by omega
  clear hrz hZe hZ hG hGm hi0 hz0 hz1 hz2
  go_enter Tryz.func62,Tryz.ntmps62
  go_wp2_with (at_builtin;refine Lib.wpList_append_run _ rfl _ _ _ _ rfl _ _ rfl rfl _ _ (HRZ.out _) ?_)
  go_ret
  exact ⟨some ⟨w.heap.size,0,none⟩,G,rfl,⟨rfl,.inr ⟨w.heap.size,G,Z,rfl,Nat.le_refl _,heap_alloc_new w.drew _,Nat.zero_le _,HGM.out,HZ.out,by simp⟩⟩,(Ext.refl w).drew.alloc _⟩
def lensMm (L:List (Value×List Mm)):Nat:=(L.map fun p=>p.2.length).sum
def catMm (L:List (Value×List Mm)):List Mm:=(L.map Prod.snd).flatten
theorem lensMm_snoc (L:List (Value×List Mm)) (p:Value×List Mm):lensMm (L++ [p])=lensMm L+p.2.length:=by unfold lensMm;simp
theorem catMm_snoc (L:List (Value×List Mm)) (p:Value×List Mm):catMm (L++ [p])=catMm L++p.2:=by unfold catMm;simp
theorem catMm_len (L:List (Value×List Mm)):(catMm L).length=lensMm L:=by unfold catMm lensMm;rw[List.length_flatten,List.map_map];rfl
theorem lensMm_take (L:List (Value×List Mm)) (k:Nat):lensMm (L.take k)≤lensMm L:=by
 have h:lensMm L=lensMm (L.take k)+lensMm (L.drop k):=by unfold lensMm;rw[←List.sum_append,←List.map_append,List.take_append_drop]
 omega
theorem concatM_any (v:Value) (L:List (Value×List Mm)) (w:World) (hv:RSl w 1 v L.length (L.map Prod.fst)) (hp:∀p∈L,RSl w 9 p.1 p.2.length (p.2.map mcell).flatten∧∀u∈(p.2.map mcell).flatten,u.oneCell'=true) (hn:L.length≤1000) (ht:lensMm L≤1000000):
 Calls Tryz.prog 25 #[v] w fun e w'=>∃v',e= .returned v'∧w'.ownsRow w.heap.size 56 9 v' (catMm L).length ((catMm L).map mcell).flatten∧Ext w w':=by
 obtain ⟨i0,hi0,hz0,hz1,hz2⟩:=info_parts info_mem
 obtain ⟨A,c,rfl⟩:∃A c,v= .slice A L.length c:=by obtain ⟨_,A,c,e,_⟩:=hv;exact ⟨A,c,e⟩
 have HV:=gd hv
 have HP:=gd hp
 have HT:=gd (fun k=>Nat.le_trans (lensMm_take L k) ht)
 clear hp hv ht
 go_enter Tryz.func25,Tryz.ntmps25
 go_wp2
 go_loop [3,11] (fun s i=>∃k n:Nat,k≤L.length∧i= .int .i64 k∧s= .int .i64 n∧n≤1000000∧Hid (n=lensMm (L.take k))) (fun _ i=>L.length - (intOf i).toNat)
 case atStart=>exact ⟨0,0,Nat.zero_le _,rfl,rfl,Nat.zero_le _,gd rfl⟩
 case round=>
  obtain ⟨k,n,hk,rfl,rfl,hn6,hnk⟩:=hrel
  by_cases hlt:k<L.length
  ·have hgk:(L.map Prod.fst)[k]? =some L[k].1:=by rw[List.getElem?_map,List.getElem?_eq_getElem hlt];rfl
   obtain ⟨ad,e1,hc⟩:=RSl.at1 HV.out k _ hgk
   subst e1
   have htk:=List.take_succ_eq_append_getElem hlt
   have hpk:=HP.out _ (List.getElem_mem hlt)
   have hs:=lensMm_snoc (L.take k) L[k]
   rw[←htk,←hnk.out] at hs
   have h6:=HT.out (k+1)
   obtain ⟨pA,pc,hpf, -, -⟩:=hpk.1.form
   rw[hpf] at hc
   obtain ⟨m,hm⟩:∃m,L[k].2.length=m:=⟨_,rfl⟩
   rw[hm] at hc hs
   have hq:n+m≤1000000:=by omega
   have HS:=gd hs
   have hi0':(0:Int)≤(k:Int):=by omega
   have hi1:(k:Int)<(L.length:Int):=by omega
   clear hm hpf hs h6 htk hgk hpk
   go_wp2
   go_round
   case rel=>exact ⟨k+1,n+m,hlt,by go_num,by go_num,hq,gd HS.out.symm⟩
   case measure=>simp[intOf];omega
  ·have hke:k=L.length:=by omega
   subst hke
   have HNK:=gd hnk.out
   clear hnk
   have HG:=gd (growM_any n w hn6)
   go_wp2_with (first|(go_at_call 62;(have hz:=HG.out);(with_reducible refine Calls.mono hz ?_);clear hz;rintro e w1 ⟨gA,gc,rfl,hown,hx1⟩))
   go_loopw [6,27] (fun u i wr=>∃(k:Nat) (uA:Option Addr) (uc:Nat),u= .slice uA (catMm (L.take k)).length uc∧k≤L.length∧i= .int .i64 k∧wr.ownsRow w.heap.size 56 9 u (catMm (L.take k)).length ((catMm (L.take k)).map mcell).flatten∧Ext w wr) (fun _ i _=>L.length - (intOf i).toNat)
   case atStart=>exact ⟨0,gA,gc,rfl,Nat.zero_le _,rfl,hown,hx1⟩
   case round=>
    obtain ⟨k,uA,uc,rfl,hk,rfl,hownr,hxr⟩:=hrel
    by_cases hlt:k<L.length
    ·have hgk:(L.map Prod.fst)[k]? =some L[k].1:=by rw[List.getElem?_map,List.getElem?_eq_getElem hlt];rfl
     obtain ⟨ad,e1,hc⟩:=RSl.at1 (HV.out.ext hxr) k _ hgk
     subst e1
     have htk:=List.take_succ_eq_append_getElem hlt
     have hpk:=HP.out _ (List.getElem_mem hlt)
     have hs:=catMm_snoc (L.take k) L[k]
     rw[←htk] at hs
     have h6:=HT.out (k+1)
     rw[←catMm_len,hs,List.length_append] at h6
     obtain ⟨pA,pc,hpf, -, -⟩:=hpk.1.form
     rw[hpf] at hc
     obtain ⟨P,hP⟩:∃P,L[k].2=P:=⟨_,rfl⟩
     rw[hP] at hc hs h6 hpk hpf
     rw[hpf] at hpk
     obtain ⟨O,hO⟩:∃O,catMm (L.take k)=O:=⟨_,rfl⟩
     rw[hO] at hs h6 hownr
     simp only[hO]
     have HS:=gd hs
     have HOW:=gd hownr
     have HPK:=gd hpk
     have HML:Hid (O.length+P.length≤maxLen):=gd (by unfold maxLen;omega)
     have HBY:Hid ((O.length+P.length)*120≤140737488355328):=gd (by omega)
     have hws:=hxr.size
     have hi0':(0:Int)≤(k:Int):=by omega
     have hi1:(k:Int)<(L.length:Int):=by omega
     clear hP hpf hs h6 htk hgk hpk hO hownr
     go_wp2_with (first|(at_builtin;refine wpList_append_rsl _ rfl (.tmp 31) (.tmp 32) _ rfl w.heap.size 56 i0 _ 9 120 Tryz.underlying23 hi0 hz0 hz1 hz2 rfl (by decide) _ O.length (O.map mcell).flatten rfl HOW.out _ P.length (P.map mcell).flatten rfl (HPK.out.1.ext hxr) HPK.out.2 HML.out HBY.out hws ?_;intro v3 w3 hown3 hg3 hat3;(have hx3:Ext w w3:=Ext.app hxr hg3 HOW.out (Nat.le_refl _));(obtain ⟨o3A,o3c,ho3, -, -⟩:=(RSl.of_own hown3).2);subst ho3))
     go_roundw
     case rel=>
      have hl:(catMm (L.take (k+1))).length=O.length+P.length:=by rw[HS.out,List.length_append]
      refine ⟨k+1,o3A,o3c,by rw[hl],hlt,by go_num,?_,hx3⟩
      rw[hl,HS.out,List.map_append,List.flatten_append]
      exact hown3
     case measure=>simp[intOf];omega
    ·have hke:k=L.length:=by omega
     subst hke
     have htl:L.take L.length=L:=List.take_of_length_le (Nat.le_refl _)
     rw[htl] at hownr⊢
     go_wp2
     go_ret
     exact ⟨_,rfl,hownr,hxr⟩
section
set_option linter.unusedSimpArgs false
theorem flatM_len:∀{l:List Mm},(∀c∈l.map mcell,c.length=9)→(l.map mcell).flatten.length=l.length*9
 | [],_=>rfl
 |x::t,h=>by
  rw[List.map_cons,List.flatten_cons,List.length_append,flatM_len (fun c hc=>h c (List.mem_cons_of_mem _ hc)),h _ (List.mem_cons_self ..),List.length_cons]
  omega
theorem flatM_td (l:List Mm) (n:Nat):(l.map mcell).flatten=((l.take n).map mcell).flatten++((l.drop n).map mcell).flatten:=by rw[←List.flatten_append,←List.map_append,List.take_append_drop]
theorem lens_take {l:List Mm} (h:∀c∈l.map mcell,c.length=9) (n:Nat):∀c∈(l.take n).map mcell,c.length=9:=fun c hc=>by
 obtain ⟨m,hm,rfl⟩:=List.mem_map.1 hc
 exact h _ (List.mem_map_of_mem (List.mem_of_mem_take hm))
theorem takeM {w:World} {A:Option Addr} {c:Nat} {l:List Mm} (n:Nat) (h:RSl w 9 (.slice A l.length c) l.length (l.map mcell).flatten) (hl:∀c∈l.map mcell,c.length=9) (hn:n≤l.length):
 ∃A1 c1,(∀wx:World,(Instr.slice 23 (.slice A l.length c) none (some (.int .i64 (n:Int))) none).run Tryz.prog wx= .ok (.slice A1 n c1) wx)∧RSl w 9 (.slice A1 n c1) (l.take n).length ((l.take n).map mcell).flatten:=by
 obtain ⟨h1,A',c',e,h2,h3,h4,h5⟩:=h
 injection e with e1 e2 e3
 subst e1 e3
 clear e2
 have hlt:(l.take n).length=n:=by rw[List.length_take];omega
 refine ⟨if c=0 then A else A.map (·.add (0*9)),c,fun wx=> ?_,?_⟩
 ·rw[run_slice_h (P:=Tryz.prog) (w:=wx) 23 A l.length c rowSliceMm .i64 (n:Int) (by omega) (by omega),rowSizeMm]
  show Result.ok (sliced A 0 ((n:Int).toNat) c 9) wx=_
  rw[Int.toNat_natCast]
  rfl
 ·rw[hlt]
  refine ⟨by rw[flatM_len (lens_take hl n),hlt],_,c,rfl,by omega,h3,fun e=> ?_,fun j u hu=> ?_⟩
  ·by_cases h0:c=0
   ·exact h0
   ·rw[if_neg h0] at e
    exact h4 (by simpa using e)
  ·have hj:(l.map mcell).flatten[j]? =some u:=by
    rw[flatM_td l n,List.getElem?_append_left (List.getElem?_eq_some_iff.1 hu).1]
    exact hu
   obtain ⟨ad,ha,hc⟩:=h5 j u hj
   subst ha
   refine ⟨ad,?_,hc⟩
   by_cases h0:c=0
   ·rw[if_pos h0]
   ·rw[if_neg h0]
    show some (ad.add (0*9))=some ad
    rw[Nat.zero_mul,add_zero]
theorem dropMr {w:World} {A:Option Addr} {c:Nat} {l:List Mm} (n:Nat) (h:RSl w 9 (.slice A l.length c) l.length (l.map mcell).flatten) (hl:∀c∈l.map mcell,c.length=9) (hn:n≤l.length):
 ∃A2 c2,(∀wx:World,(Instr.slice 23 (.slice A l.length c) (some (.int .i64 (n:Int))) none none).run Tryz.prog wx= .ok (.slice A2 (l.length - n) c2) wx)∧RSl w 9 (.slice A2 (l.length - n) c2) (l.drop n).length ((l.drop n).map mcell).flatten:=by
 obtain ⟨h1,A',c',e,h2,h3,h4,h5⟩:=h
 injection e with e1 e2 e3
 subst e1 e3
 clear e2
 have hlt:(l.drop n).length=l.length - n:=List.length_drop
 have hld:∀c∈(l.drop n).map mcell,c.length=9:=fun c hc=>by
  obtain ⟨m,hm,rfl⟩:=List.mem_map.1 hc
  exact hl _ (List.mem_map_of_mem (List.mem_of_mem_drop hm))
 refine ⟨if c=n then A else A.map (·.add (n*9)),c - n,fun wx=> ?_,?_⟩
 ·rw[run_slice_l (P:=Tryz.prog) (w:=wx) 23 A l.length c rowSliceMm .i64 (n:Int) (by omega) (by omega),rowSizeMm]
  show Result.ok (sliced A ((n:Int).toNat) l.length c 9) wx=_
  rw[Int.toNat_natCast]
  rfl
 ·rw[hlt]
  refine ⟨by rw[flatM_len hld,hlt],_,c - n,rfl,by omega,Nat.le_trans (Nat.sub_le _ _) h3,fun e=> ?_,fun j u hu=> ?_⟩
  ·by_cases h0:c=n
   ·omega
   ·rw[if_neg h0] at e
    have:=h4 (by simpa using e)
    omega
  ·have hjl:j<((l.drop n).map mcell).flatten.length:=(List.getElem?_eq_some_iff.1 hu).1
   rw[flatM_len hld,hlt] at hjl
   have htl:((l.take n).map mcell).flatten.length=n*9:=by rw[flatM_len (lens_take hl n),List.length_take];congr 1;omega
   have hj:(l.map mcell).flatten[n*9+j]? =some u:=by
    rw[flatM_td l n,List.getElem?_append_right (by omega),htl,show n*9+j - n*9=j by omega]
    exact hu
   obtain ⟨ad,ha,hc⟩:=h5 _ u hj
   subst ha
   have h0:c≠n:=by omega
   refine ⟨ad.add (n*9),?_,?_⟩
   ·rw[if_neg h0];rfl
   ·rw[addr_add2];exact hc
theorem AllM.append {P:Mm→(ByteArray×Nat)×JO→Prop}:∀{l:List Mm} {z:ZL} {l2:List Mm} {z2:ZL},AllM P l z→AllM P l2 z2→AllM P (l++l2) (z++z2)
 | [],[],_,_,_,h2=>h2
 |_::_,_::_,_,_,h,h2=>⟨h.1,AllM.append h.2 h2⟩
 | [],_::_,_,_,h,_=>h.elim
 |_::_,[],_,_,h,_=>h.elim
theorem AllM.takes {P:Mm→(ByteArray×Nat)×JO→Prop}:∀{l:List Mm} {z:ZL} (n:Nat),AllM P l z→AllM P (l.take n) (z.take n)
 |_,_,0,_=>trivial
 | [],[],_+1,_=>trivial
 |_::_,_::_,n+1,h=>⟨h.1,AllM.takes n h.2⟩
 | [],_::_,_+1,h=>h.elim
 |_::_,[],_+1,h=>h.elim
theorem AllM.drops {P:Mm→(ByteArray×Nat)×JO→Prop}:∀{l:List Mm} {z:ZL} (n:Nat),AllM P l z→AllM P (l.drop n) (z.drop n)
 |_,_,0,h=>h
 | [],[],_+1,_=>trivial
 |_::_,_::_,n+1,h=>AllM.drops n h.2
 | [],_::_,_+1,h=>h.elim
 |_::_,[],_+1,h=>h.elim
def newM:Mm:=(nX,wcells 1 false 0 ⟨#[]⟩ (.slice none 0 0) (.slice none 0 0) 0,0)
def newZ:(ByteArray×Nat)×JO:=((nX,0),.bool 0 false)
theorem new_rel (n:Nat) (w:World):relM (n+1) w newM newZ:=⟨rfl,rfl,RJn.leaf (j:= .bool 0 false) ⟨rfl,rfl,rfl⟩⟩
def turnZ (z:ZL) (i:Nat):ZL:=(newZ::z).drop i++(newZ::z).take i
def turnM (l:List Mm) (i:Nat):List Mm:=(newM::l).drop i++(newM::l).take i
theorem turn_perm (z:ZL) (i:Nat):(turnZ z i).Perm (newZ::z):=by
 unfold turnZ
 refine List.perm_append_comm.trans ?_
 rw[List.take_append_drop]
theorem turn_rel {n:Nat} {w:World} {l:List Mm} {z:ZL} (h:AllM (relM (n+1) w) l z) (i:Nat):AllM (relM (n+1) w) (turnM l i) (turnZ z i):=by
 have h':AllM (relM (n+1) w) (newM::l) (newZ::z):=⟨new_rel n w,h⟩
 exact (h'.drops i).append (h'.takes i)
theorem turn_dec {a:Nat} {z:ZL} (hz:(z.map fun p=>p.1.1).Nodup) (hx:getJ (objZ a z) nX=none) (i:Nat):decJ (objZ a (turnZ z i))=decJ (objZ a z):=others_dec hz hx (turn_perm z i)
theorem turn_its {a:Nat} {z:ZL} (hz:(z.map fun p=>p.1.1).Nodup) (hx:getJ (objZ a z) nX=none) (i:Nat):itsW (objZ a (turnZ z i))=itsW (objZ a z):=by
 have hnx:=getJ_none hx
 have hnd:((newZ::z).map fun p=>p.1.1).Nodup:=by
  rw[List.map_cons,List.nodup_cons]
  exact ⟨hnx,hz⟩
 have hnd2:((turnZ z i).map fun p=>p.1.1).Nodup:=((turn_perm z i).map _).nodup_iff.2 hnd
 have e:memJ (objZ a (turnZ z i)) nItems=memJ (objZ a z) nItems:=memJ_of_look (by
  rw[getJ_objZ,getJ_objZ,lookZ_perm (turn_perm z i) hnd2,lookZ_cons,if_neg (by decide)])
 unfold itsW
 rw[e]
theorem turn_sz {M a:Nat} {z:ZL} (h:jsz M (objZ a z)) (i:Nat):jsz M (objZ a (turnZ z i)):=by
 unfold objZ at*
 rw[jsz] at*
 intro j hj
 obtain ⟨p,hp,rfl⟩:=List.mem_map.1 hj
 have hm:=(turn_perm z i).subset hp
 rcases List.mem_cons.1 hm with rfl|hm
 ·simp[newZ,jsz]
 ·exact h _ (List.mem_map_of_mem hm)
theorem keys_nodup {ks:List (ByteArray×Nat)} {vs:List JO} (h:(ks.map Prod.fst).Nodup) (hl:ks.length=vs.length):((ks.zip vs).map fun p=>p.1.1).Nodup:=by
 have e:(ks.zip vs).map (fun p=>p.1.1)=ks.map Prod.fst:=by
  rw[show (fun p:(ByteArray×Nat)×JO=>p.1.1)=Prod.fst∘Prod.fst from rfl,←List.map_map,List.map_fst_zip (Nat.le_of_eq hl)]
 rw[e]
 exact h
end
def lookM:List (ByteArray×List Value×Int)→ByteArray→List Value
 |m::t,name=>if m.1=name then m.2.1 else lookM t name
 | [],_=>wcells 0 false 0 ⟨#[]⟩ (.slice none 0 0) (.slice none 0 0) 0
theorem lookM_rj {w:World} {n:Nat}:∀{ks:List (ByteArray×Nat)} {vs:List JO} {ms:List (ByteArray×List Value×Int)} {name:ByteArray},ms.map (fun m=>(m.1,m.2.2))=ks.map (fun k=>(k.1,(k.2:Int)))→ms.length=vs.length→
 (∀(i:Nat) (j:JO) (m:ByteArray×List Value×Int),vs[i]? =some j→ms[i]? =some m→RJn n w j m.2.1)→RJ w ((lookG ks vs name).getD (.null 0)) (lookM ms name)
 |k::ks,v::vs,m::ms,name,h1,h2,h3=>by
  simp only[List.map_cons,List.cons.injEq,Prod.mk.injEq] at h1
  unfold lookG lookM
  rw[h1.1.1]
  by_cases hn:k.1=name
  ·rw[if_pos hn,if_pos hn];exact ⟨n,h3 0 v m rfl rfl⟩
  ·rw[if_neg hn,if_neg hn];exact lookM_rj h1.2 (by simpa using h2) fun i j m hj hm=>h3 (i+1) j m hj hm
 | [],[],[],_,_,_,_=>RJ.null w
 | [],_::_,[],_,_,h2,_=>by simp at h2
 |_::_,_,[],_,h1,_,_=>by simp at h1
 | [],_,_::_,_,h1,_,_=>by simp at h1
 |_::_,[],_::_,_,_,h2,_=>by simp at h2
theorem refGet_fix (j:JO) (cs:List Value) (name:ByteArray) (w0:World) (h:RJ w0 j cs):
 ∃cv,RJ w0 ((getJ j name).getD (.null 0)) cv∧∀w,Ext w0 w→Calls Tryz.prog 26 #[.agg cs.toArray,.string name] w fun e w'=>e= .returned (.tuple #[.agg cv.toArray,.bool (getJ j name).isSome])∧Ext w w':=by
 by_cases h5:kindJ j=5
 ·cases j with
  |obj a ks vs=>
   obtain ⟨n,h⟩:=h
   cases n with
   |zero=>exact h.elim
   |succ n=>
    obtain ⟨its,mv,rfl,hits,⟨ms,hks,hml,hr,hel⟩,hi0, -⟩:=h
    obtain rfl:=hi0 (by show (5:Nat)≠4;decide)
    replace hks:ms.map (fun m=>(m.1,m.2.2))=ks.map (fun k=>(k.1,(k.2:Int))):=hks
    replace hml:ms.length=vs.length:=hml
    replace hr:RSl w0 9 mv vs.length (ms.map mcell).flatten:=hr
    replace hel:∀(i:Nat) (j:JO) (m:ByteArray×List Value×Int),vs[i]? =some j→ms[i]? =some m→RJn n w0 j m.2.1:=hel
    obtain ⟨_,A,c,rfl,hmc,hcm,_,_⟩:=id hr
    have hln:∀c∈ms.map mcell,c.length=9:=by
     intro c hc
     obtain ⟨m,hm,rfl⟩:=List.mem_map.1 hc
     obtain ⟨i,hi,rfl⟩:=List.mem_iff_getElem.1 hm
     have:=(hel i vs[i] ms[i] (List.getElem?_eq_getElem (by omega)) (List.getElem?_eq_getElem hi)).len
     simp[mcell,this]
    have hkl:ks.length=vs.length:=by
     have:=congrArg List.length hks
     rw[List.length_map,List.length_map] at this
     omega
    refine ⟨lookM ms name,lookM_rj hks hml hel,fun w hx0=> ?_⟩
    show Calls _ _ #[.agg (wcells 5 false 0 noS (.slice none 0 0) (.slice A vs.length c) a).toArray,_] _ fun e w'=>e= .returned (.tuple #[.agg (lookM ms name).toArray,.bool (lookG ks vs name).isSome])∧Ext w w'
    have HLN:=gd hln
    have HEL:=gd hel
    have HKS:=gd hks
    have hk1:=heap2b w (.cells (wcells 5 false 0 noS (.slice none 0 0) (.slice A vs.length c) a).toArray 25) (.cells #[.int .i64 0,.bool false,.int .i64 0,.string ⟨#[]⟩,.slice none 0 0,.slice none 0 0,.int .i64 0] 25)
    clear hln hel hks hits
    unfold wcells noS at*
    go_enter Tryz.func26,Tryz.ntmps26
    go_wp2
    go_loopw [6] (fun i wr=>∃k:Nat,k≤vs.length∧i= .int .i64 k∧Hid (lookG ks vs name=lookG (ks.drop k) (vs.drop k) name∧lookM ms name=lookM (ms.drop k) name)∧Ext ((w.alloc (.cells #[.int .i64 5,.bool false,.int .i64 0,.string ⟨#[]⟩,.slice none 0 0,.slice A vs.length c,.int .i64 a] 25)).alloc (.cells #[.int .i64 0,.bool false,.int .i64 0,.string ⟨#[]⟩,.slice none 0 0,.slice none 0 0,.int .i64 0] 25)) wr) (fun i _=>vs.length - (intOf i).toNat)
    case atStart=>exact ⟨0,Nat.zero_le _,rfl,⟨rfl,rfl⟩,Ext.refl _⟩
    case round=>
     obtain ⟨k,hk,rfl,hlk,hx⟩:=hrel
     have hxw:Ext w wr:=(((Ext.refl w).alloc _).alloc _).trans hx
     have hk2:=hx.heap hk1
     have b0:wr.cell? ⟨w.heap.size,0,none⟩=some (.int .i64 5):=Ext.boxed (((Ext.refl _).alloc _).trans hx) 0 _ rfl
     have b5:wr.cell? ⟨w.heap.size,5,none⟩=some (.slice A vs.length c):=Ext.boxed (((Ext.refl _).alloc _).trans hx) 5 _ rfl
     by_cases hlt:k<vs.length
     ·have hck:k<ms.length:=by omega
      have hkk:k<ks.length:=by omega
      have hRV:=HEL.out k vs[k] ms[k] (List.getElem?_eq_getElem hlt) (List.getElem?_eq_getElem hck)
      obtain ⟨ad,cap,hA,hcells⟩:=RSl.elem (hr.ext (hx0.trans hxw)) (by omega) HLN.out k (mcell ms[k]) (by rw[List.getElem?_map,List.getElem?_eq_getElem hck];rfl)
      injection hA with hA1 hA2 hA3
      subst hA1
      clear hA2 hA3
      rw[Nat.mul_comm] at hcells
      have hkey:ks[k].1=ms[k].1:=by
       have h1:(ms.map (fun m=>(m.1,m.2.2)))[k]? =(ks.map (fun k=>(k.1,(k.2:Int))))[k]?:=by rw[HKS.out]
       rw[List.getElem?_map,List.getElem?_map,List.getElem?_eq_getElem hck,List.getElem?_eq_getElem hkk] at h1
       simp at h1
       exact h1.1.symm
      have hst:lookG ks vs name=if ks[k].1=name then some vs[k] else lookG (ks.drop (k+1)) (vs.drop (k+1)) name:=by
       rw[hlk.out.1,List.drop_eq_getElem_cons hlt,List.drop_eq_getElem_cons hkk];rfl
      have hsm:lookM ms name=if ms[k].1=name then ms[k].2.1 else lookM (ms.drop (k+1)) name:=by
       rw[hlk.out.2,List.drop_eq_getElem_cons hck];rfl
      obtain ⟨M,hM0⟩:∃M,ms[k]=M:=⟨_,rfl⟩
      rw[hM0] at hcells hRV hkey hsm
      obtain ⟨key,cv,at_⟩:=M
      dsimp only at hkey hRV hsm
      rw[hkey] at hst
      have hl7:=hRV.len
      have HRJ:=gd hRV
      obtain ⟨A1,p1,q1,B1,p2,q2,hc⟩:=hRV.cells
      generalize kindJ vs[k]=K,bJ vs[k]=Bb,nJ vs[k]=Nn,sJ vs[k]=Ss,atJ vs[k]=At at hc
      subst hc
      obtain ⟨c0,cv_,c8⟩:=mcell_at hl7 hcells
      have c1:=cv_ 0 _ rfl
      have c2:=cv_ 1 _ rfl
      have c3:=cv_ 2 _ rfl
      have c4:=cv_ 3 _ rfl
      have c5:=cv_ 4 _ rfl
      have c6:=cv_ 5 _ rfl
      have c7:=cv_ 6 _ rfl
      simp only[Nat.zero_add,Nat.reduceAdd] at c1 c2 c3 c4 c5 c6 c7
      have HST:=gd hst
      have HSM:=gd hsm
      have hk3:=hk2
      have hw1:wrap64 ((k:Int)+1)=((k+1:Nat):Int):=by rw[maxLen] at hcm;rw[wrap_ok _ ⟨by omega,by omega⟩];rfl
      clear hcells cv_ hl7 hkey hM0 hst hsm hRV hlk
      by_cases hn:key=name
      ·subst hn
       have hbe:(key.toList==key.toList)=true:=by simp
       have hst:=gd (And.intro (HST.out.trans (if_pos rfl)) (HSM.out.trans (if_pos rfl)))
       go_wp2_with (refine wpList_store_row rfl 25 (.tmp 4) (.tmp 32) rfl (w.heap.size+1) _ rfl rfl _ _ hk3 size_val rfl (wone (k:=K) (b:=Bb) (n:=Nn) (s:=Ss) (A:=A1) (B:=B1) (p:=p1) (c:=q1) (q:=p2) (d:=q2) (a:=At)) ?_)
       ((try simp only[Exit.inBlock,Exit.then]);refine bodyPost_ret (results_cell_row2 rfl _ _ _ _ _ _ _ rfl (setRow_heap _ _ _ _ _ _ hk3) Tryz.underlying25 rfl size_val) rfl ?_)
       rw[hst.out.1,hst.out.2]
       exact ⟨rfl,hxw.setRow (Nat.le_succ _) _⟩
      ·have hst:=gd (And.intro (HST.out.trans (if_neg hn)) (HSM.out.trans (if_neg hn)))
       have hbe:(key.toList==name.toList)=false:=beq_ne hn
       go_wp2
       go_roundw
       case rel=>exact ⟨k+1,hlt,by rw[hw1],hst,hx⟩
       case measure=>rw[hw1];simp[intOf];omega
     ·have hk':k=vs.length:=by omega
      subst hk'
      have hst:=gd (hlk.out.1.trans (by rw[List.drop_of_length_le (Nat.le_of_eq hkl),List.drop_of_length_le (Nat.le_refl _)];rfl:_=none))
      have hsm:=gd (hlk.out.2.trans (by rw[List.drop_of_length_le (Nat.le_of_eq hml)];rfl:_=wcells 0 false 0 ⟨#[]⟩ (.slice none 0 0) (.slice none 0 0) 0))
      go_wp2_with (refine wpList_store_row rfl 25 (.tmp 4) (.tmp 33) rfl (w.heap.size+1) _ rfl rfl _ _ hk2 size_val rfl (wone (k:=0) (b:=false) (n:=0) (s:=⟨#[]⟩) (A:=none) (B:=none) (p:=0) (c:=0) (q:=0) (d:=0) (a:=0)) ?_)
      ((try simp only[Exit.inBlock,Exit.then]);refine bodyPost_ret (results_cell_row2 rfl _ _ _ _ _ _ _ rfl (setRow_heap _ _ _ _ _ _ hk2) Tryz.underlying25 rfl size_val) rfl ?_)
      rw[hst.out,hsm.out]
      exact ⟨rfl,hxw.setRow (Nat.le_succ _) _⟩
  |null=>exact absurd h5 (by show ¬(0:Nat)=5;decide)
  |bool=>exact absurd h5 (by show ¬(1:Nat)=5;decide)
  |int=>exact absurd h5 (by show ¬(2:Nat)=5;decide)
  |str=>exact absurd h5 (by show ¬(3:Nat)=5;decide)
  |arr=>exact absurd h5 (by show ¬(4:Nat)=5;decide)
 ·rw[getJ_ne h5]
  have hcs:∃A p c,cs=wcells (kindJ j) (bJ j) (nJ j) (sJ j) (.slice A p c) (.slice none 0 0) (atJ j):=by
   obtain ⟨n,h⟩:=h
   cases n with
   |zero=>exact h.elim
   |succ n=>
    obtain ⟨its,mv,rfl,⟨_,_,h2,_⟩, -, -,h6⟩:=h
    obtain rfl:=h6 h5
    obtain ⟨_,A,c,rfl,_⟩:=h2
    exact ⟨_,_,_,rfl⟩
  obtain ⟨A,p,c,rfl⟩:=hcs
  refine ⟨wcells 0 false 0 ⟨#[]⟩ (.slice none 0 0) (.slice none 0 0) 0,RJ.null w0,fun w hx0=> ?_⟩
  obtain ⟨K,hK⟩:∃K,kindJ j=K:=⟨_,rfl⟩
  rw[hK] at h5⊢
  have hne:((K:Int) !=5)=true:=by simp;omega
  have hk1:=heap2b w (.cells (wcells K (bJ j) (nJ j) (sJ j) (.slice A p c) (.slice none 0 0) (atJ j)).toArray 25) (.cells #[.int .i64 0,.bool false,.int .i64 0,.string ⟨#[]⟩,.slice none 0 0,.slice none 0 0,.int .i64 0] 25)
  unfold wcells at*
  clear h hK
  go_enter Tryz.func26,Tryz.ntmps26
  go_wp2
  refine wp_loop_rounds 1 ?_
  rw[rounds_succ]
  go_wp2_with (refine wpList_store_row rfl 25 (.tmp 4) (.tmp 33) rfl (w.heap.size+1) _ rfl rfl _ _ hk1 size_val rfl (wone (k:=0) (b:=false) (n:=0) (s:=⟨#[]⟩) (A:=none) (B:=none) (p:=0) (c:=0) (q:=0) (d:=0) (a:=0)) ?_)
  ((try simp only[Exit.inBlock,Exit.then]);refine bodyPost_ret (results_cell_row2 rfl _ _ _ _ _ _ _ rfl (setRow_heap _ _ _ _ _ _ hk1) Tryz.underlying25 rfl size_val) rfl ?_)
  exact ⟨rfl,(((Ext.refl w).alloc _).alloc _).setRow (Nat.le_succ _) _⟩
theorem refGet_any (j:JO) (cs:List Value) (name:ByteArray) (w0 w:World) (h:RJ w0 j cs) (hx0:Ext w0 w):
 Calls Tryz.prog 26 #[.agg cs.toArray,.string name] w fun e w'=>GotJ w0 (getJ j name) e∧Ext w w':=by
 obtain ⟨cv,h1,h2⟩:=refGet_fix j cs name w0 h
 exact (h2 w hx0).mono fun e w' ⟨he,hx⟩=>⟨⟨cv,he,h1⟩,hx⟩
end Go.Proofs.YthlnaldahkgjnaaGreatDoor
