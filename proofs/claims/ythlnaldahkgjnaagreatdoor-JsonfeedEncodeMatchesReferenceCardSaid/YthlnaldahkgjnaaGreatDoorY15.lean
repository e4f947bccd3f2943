/- Parts of the proof: contracts and plain laws. -/
import Derived.Shelf.SlSortCmp.InsertionK
import Derived.Shelf.SlSortCmp.SiftDownK
import Derived.Shelf.SlSortCmp.HeapSortK
import Derived.Shelf.SlSortCmp.MedianK
import Derived.Shelf.SlSortCmp.PivotK
import Derived.Shelf.SlSortCmp.ReverseRangeK
import Derived.Shelf.SlSortCmp.PartialInsertionK
import Derived.Shelf.SlSortCmp.PartitionEqualK
import Derived.Shelf.SlSortCmp.PartitionK
import Derived.Shelf.SlSortCmp.PdqK
import Derived.Shelf.SlSortCmp.WholeK
import Derived.Shelf.SlSortCmp.NoneTotal
import Derived.Test.YthlnaldahkgjnaaGreatDoorY14
namespace Go.Proofs.YthlnaldahkgjnaaGreatDoor
open Go.Shelf Go Go.RowKit Go.Sort
set_option linter.unusedVariables false
set_option linter.unusedSimpArgs false
set_option maxRecDepth 100000
set_option maxHeartbeats 16000000
def Tryz.laysSlF06_f126_ren:Go.Shelf.Ren:=⟨fun|6=>126|15=>169|14=>168|28=>200|29=>186|20=>192|21=>193|22=>194|23=>195|24=>196|25=>197|26=>198|27=>199|46=>208|47=>209|48=>210|49=>211|50=>212|57=>213|n=>n,fun|22=>30|24=>64|25=>104|3=>3|39=>225|0=>0|53=>232|55=>209|4=>4|46=>238|45=>237|50=>220|5=>5|9=>9|66=>252|70=>256|76=>262|77=>77|n=>n,fun|n=>n⟩
theorem Tryz.laysSlF06_f126:Go.Proofs.SlLaysF0.n6 Tryz.prog Tryz.laysSlF06_f126_ren:={
 mixed:=by kernel_rfl
 f6:=⟨Tryz.f126.name,by decide,Tryz.func126.trans (congrArg some (by kernel_rfl))⟩
 f14:=⟨Tryz.f168.name,by decide,Tryz.func168.trans (congrArg some (by kernel_rfl))⟩
 f15:=Tryz.func169.trans (congrArg some (by kernel_rfl))
 f20:=⟨Tryz.f192.name,by decide,Tryz.func192.trans (congrArg some (by kernel_rfl))⟩
 f21:=⟨Tryz.f193.name,by decide,Tryz.func193.trans (congrArg some (by kernel_rfl))⟩
 f22:=⟨Tryz.f194.name,by decide,Tryz.func194.trans (congrArg some (by kernel_rfl))⟩
 f23:=⟨Tryz.f195.name,by decide,Tryz.func195.trans (congrArg some (by kernel_rfl))⟩
 f24:=⟨Tryz.f196.name,by decide,Tryz.func196.trans (congrArg some (by kernel_rfl))⟩
 f25:=⟨Tryz.f197.name,by decide,Tryz.func197.trans (congrArg some (by kernel_rfl))⟩
 f26:=⟨Tryz.f198.name,by decide,Tryz.func198.trans (congrArg some (by kernel_rfl))⟩
 f27:=⟨Tryz.f199.name,by decide,Tryz.func199.trans (congrArg some (by kernel_rfl))⟩
 f28:=Tryz.func200.trans (congrArg some (by kernel_rfl))
 f29:=Tryz.func186.trans (congrArg some (by kernel_rfl))
 f46:=⟨Tryz.f208.name,by decide,Tryz.func208.trans (congrArg some (by kernel_rfl))⟩
 f47:=Tryz.func209.trans (congrArg some (by kernel_rfl))
 f48:=Tryz.func210.trans (congrArg some (by kernel_rfl))
 f49:=⟨Tryz.f211.name,by decide,Tryz.func211.trans (congrArg some (by kernel_rfl))⟩
 f50:=⟨Tryz.f212.name,by decide,Tryz.func212.trans (congrArg some (by kernel_rfl))⟩
 f57:=⟨Tryz.f213.name,by decide,Tryz.func213.trans (congrArg some (by kernel_rfl))⟩
 t0:=Tryz.underlying0
 a0:=Tryz.isAgg0
 z0:=Tryz.sizeOf0
 v0:=Tryz.zeroValue0
 t3:=Tryz.underlying3
 a3:=Tryz.isAgg3
 z3:=Tryz.sizeOf3
 v3:=Tryz.zeroValue3
 t4:=Tryz.underlying4
 a4:=Tryz.isAgg4
 z4:=Tryz.sizeOf4
 v4:=Tryz.zeroValue4
 t5:=Tryz.underlying5
 a5:=Tryz.isAgg5
 z5:=Tryz.sizeOf5
 v5:=Tryz.zeroValue5
 t9:=Tryz.underlying9
 a9:=Tryz.isAgg9
 z9:=Tryz.sizeOf9
 v9:=Tryz.zeroValue9
 t22:=Tryz.underlying30
 a22:=Tryz.isAgg30
 z22:=Tryz.sizeOf30
 v22:=Tryz.zeroValue30
 t25:=Tryz.underlying104
 a25:=Tryz.isAgg104
 z25:=Tryz.sizeOf104
 v25:=Tryz.zeroValue104
 t39:=Tryz.underlying225
 a39:=Tryz.isAgg225
 z39:=Tryz.sizeOf225
 v39:=Tryz.zeroValue225
 t45:=Tryz.underlying237
 a45:=Tryz.isAgg237
 z45:=Tryz.sizeOf237
 v45:=Tryz.zeroValue237
 t46:=Tryz.underlying238
 a46:=Tryz.isAgg238
 z46:=Tryz.sizeOf238
 v46:=Tryz.zeroValue238
 t50:=Tryz.underlying220
 a50:=Tryz.isAgg220
 z50:=Tryz.sizeOf220
 v50:=Tryz.zeroValue220
 t53:=Tryz.underlying232
 a53:=Tryz.isAgg232
 z53:=Tryz.sizeOf232
 v53:=Tryz.zeroValue232
 t55:=Tryz.underlying209
 a55:=Tryz.isAgg209
 z55:=Tryz.sizeOf209
 v55:=Tryz.zeroValue209
 t66:=Tryz.underlying252
 a66:=Tryz.isAgg252
 z66:=Tryz.sizeOf252
 v66:=Tryz.zeroValue252
 t70:=Tryz.underlying256
 a70:=Tryz.isAgg256
 z70:=Tryz.sizeOf256
 v70:=Tryz.zeroValue256
 t76:=Tryz.underlying262
 a76:=Tryz.isAgg262
 z76:=Tryz.sizeOf262
 v76:=Tryz.zeroValue262
 t77:=Tryz.underlying77
 a77:=Tryz.isAgg77
 z77:=Tryz.sizeOf77
 v77:=Tryz.zeroValue77}
open Go.RowKit Go.Lib Go.Sort in
theorem Tryz.slices_SortFunc_f126 {α:Type} [Inhabited α] (k:Nat) (aE:∀w,(isAgg 64).run Tryz.prog w= .ok true w) (zE:∀w,(Go.sizeOf 64).run Tryz.prog w= .ok k w) (enc:α→List Value) (hk:∀x,(enc x).length=k) (h1:∀x,∀v∈enc x,v.oneCell'=true) (cf:α→α→Int) (hO:SWO (ltOf cf)) (g:Nat) (cb:Array Value) (blk off cap:Nat) (d:Array α) (w:World) (eg:∀args w,(callFunc g args).run Tryz.prog w= .ok (.enter g args) w) (hcmp:CmpLays Tryz.prog g cb enc k cf blk off d.size w) (hH:HoldsK enc k w blk off d) (hblk:blk<w.heap.size) (hsz:d.size<4611686018427387904):
 Calls Tryz.prog 126 #[.slice (some ⟨blk,off,none⟩) d.size cap,.func (.func g) #[] cb] w fun e w'=>
  e= .returned (.tuple #[])∧∃d' n os,PermIn 0 d.size d d'∧SortedIn (ltOf cf) 0 d.size d'∧w'=sortWorldK enc k w blk off n d' os:=AnyQ.slices_SortFunc Tryz.laysSlF06_f126 k aE zE enc hk h1 cf hO g cb blk off cap d w eg hcmp hH hblk hsz
open Go.RowKit Go.Lib Go.Sort in
theorem Tryz.slices_SortFunc_none_f126 {α:Type} [Inhabited α] (p:Option Addr) (cap:Nat) (fv:Value) (w:World):
 Calls Tryz.prog 126 #[.slice p 0 cap,fv] w fun e w'=>e= .returned (.tuple #[])∧w'=w:=AnyF.slices_SortFunc_none Tryz.laysSlF06_f126 p cap fv w
section
theorem flatK_len {α:Type} (enc:α→List Value) (k:Nat) (hk:∀x,(enc x).length=k):∀(l:List α),(l.map enc).flatten.length=l.length*k
 | []=>by simp
 |x::l=>by rw[List.map_cons,List.flatten_cons,List.length_append,hk,flatK_len enc k hk l,List.length_cons,Nat.add_mul];omega
section
variable {α:Type} [Inhabited α] (enc:α→List Value) (k:Nat)
theorem flat_at:∀(l:List (List Value)) (i:Nat) (c:List Value) (j:Nat) (u:Value),(∀c∈l,c.length=k)→l[i]? =some c→c[j]? =some u→l.flatten[k*i+j]? =some u
 | [],i,c,j,u,_,h,_=>by simp at h
 |x::l,i,c,j,u,hl,hc,hu=>by
  have hx:x.length=k:=hl x (by simp)
  cases i with
  |zero=>
   simp at hc
   subst hc
   have hj:j<x.length:=(List.getElem?_eq_some_iff.mp hu).1
   simpa [List.getElem?_append,hj] using (List.getElem?_eq_some_iff.mp hu).2
  |succ i=>
   have:=flat_at l i c j u (fun c h=>hl c (by simp[h])) (by simpa using hc) hu
   simp only[List.flatten_cons]
   have e:k*(i+1)+j=x.length+(k*i+j):=by rw[hx,Nat.mul_succ];omega
   rw[e,List.getElem?_append_right (by omega)]
   simpa using this
theorem flat_get (hk:∀x,(enc x).length=k) (d:Array α) (t:Nat) (h:t<d.size*k):(d.toList.map enc).flatten[t]? =some ((flatK enc k d)[t]!):=by
 have hk0:0<k:=by
  rcases Nat.eq_zero_or_pos k with e|e
  ·rw[e] at h;omega
  ·exact e
 have hd:t / k<d.size:=Nat.div_lt_of_lt_mul (by rw[Nat.mul_comm];exact h)
 have hm:t % k<k:=Nat.mod_lt _ hk0
 rw[get_flatK enc k d t h]
 have e1:(enc d[t / k]!)[t % k]? =some (enc d[t / k]!)[t % k]! :=by
  have hl:t % k<(enc d[t / k]!).length:=by rw[hk];exact hm
  rw[getElem!_pos (enc d[t / k]!) (t % k) hl,List.getElem?_eq_getElem hl]
 have e2:(d.toList.map enc)[t / k]? =some (enc d[t / k]!):=by
  rw[List.getElem?_map,List.getElem?_eq_getElem (by simpa using hd)]
  simp[getElem!_pos d (t / k) hd]
 have:=flat_at k (d.toList.map enc) (t / k) _ (t % k) _ (by intro c hc;obtain ⟨x,_,rfl⟩:=List.mem_map.1 hc;exact hk x) e2 e1
 rwa [Nat.div_add_mod] at this
theorem holds_of_own (hk:∀x,(enc x).length=k) {w:World} {B:Nat} {e:TypeId} {g cap:Nat} {d:Array α} (h:w.ownsRow B e k (.slice (some ⟨g,0,none⟩) d.size cap) d.size (d.toList.map enc).flatten):HoldsK enc k w g 0 d:=by
 intro j hj
 rw[size_flatK] at hj
 rw[Nat.zero_add]
 exact ⟨by rw[h.cellAt j hj,flat_get enc k hk d j hj];rfl,h.frozenAt j⟩
theorem own_of_sort (hk:∀x,(enc x).length=k) {w:World} {B:Nat} {e:TypeId} {g cap m:Nat} {d d':Array α} {os:Array Obj} (h:w.ownsRow B e k (.slice (some ⟨g,0,none⟩) d.size cap) d.size (d.toList.map enc).flatten) (hs:d'.size=d.size):
 (sortWorldK enc k w g 0 m d' os).ownsRow B e k (.slice (some ⟨g,0,none⟩) d.size cap) d.size (d'.toList.map enc).flatten∧w.grownBy (sortWorldK enc k w g 0 m d' os) (some g):=by
 rcases h.2 with ⟨h',_⟩|⟨g',cap',cur,h',hb,hg,hnc,hcm,hcs,htake⟩
 ·simp at h'
 ·simp only[Value.slice.injEq,Option.some.injEq,Addr.mk.injEq,and_true,true_and] at h'
  obtain ⟨rfl,rfl⟩:=h'
  have hglt:g<w.heap.size:=(Array.getElem?_eq_some_iff.1 hg).1
  have hle:d.size*k≤cap*k:=Nat.mul_le_mul_right k hnc
  have hheap:(sortWorldK enc k w g 0 m d' os).heap[g]? =some (.cells (putCells id 0 (flatK enc k d') cur) e):=by
   unfold sortWorldK putRowK putRow mapBlock grow
   rw[Array.getElem?_append_left (by simpa [Sort.ahead] using hglt),Array.getElem?_modify,if_pos rfl]
   show Option.map _ (w.heap[g]?)=_
   rw[hg]
   rfl
  refine ⟨⟨by rw[flatK_len enc k hk];simp[hs],.inr ⟨g,cap,_,rfl,hb,hheap,hnc,hcm,by simpa [putCells] using hcs,?_⟩⟩,⟨rfl,rfl,rfl,size_sortWorldK_c enc k w g 0 m d' os,fun j hj hne=> ?_⟩⟩
  ·apply List.ext_getElem?
   intro t
   rw[List.getElem?_take]
   by_cases ht:t<d.size*k
   ·rw[if_pos ht,flat_get enc k hk d' t (by rw[hs];exact ht)]
    rw[Array.getElem?_toList]
    unfold putCells
    rw[Array.getElem?_mapIdx,Array.getElem?_eq_getElem (by omega)]
    simp[hs,ht]
   ·rw[if_neg ht,List.getElem?_eq_none (by rw[flatK_len enc k hk];simp[hs];omega)]
  ·unfold sortWorldK putRowK putRow mapBlock grow
   rw[Array.getElem?_append_left (by simpa [Sort.ahead] using hj),Array.getElem?_modify,if_neg (fun e=>hne (by rw[e]))]
   rfl
end
theorem swo_of {α:Type} {c:α→α→Int} (h:IsCmp c):SWO (ltOf c) where
 irrefl x:=by unfold ltOf;rw[h.self];rfl
 trans x y z h1 h2:=by unfold ltOf at*;simp only[decide_eq_true_eq] at*;exact h.lt_trans x y z h1 h2
 ntrans x y z h1 h2:=by
  unfold ltOf at*
  simp only[decide_eq_false_iff_not] at*
  have:=h.trans z y x (by have:=h.anti y z;omega) (by have:=h.anti x y;omega)
  have:=h.anti x z
  omega
instance:Inhabited Ent:=⟨zeroE⟩
theorem isAggE (w:World):(isAgg 64).run Tryz.prog w= .ok true w:=by kernel_rfl
theorem sizeE (w:World):(Go.sizeOf 64).run Tryz.prog w= .ok 5 w:=by kernel_rfl
theorem enterCmp (args:Array Value) (w:World):(callFunc 94 args).run Tryz.prog w= .ok (.enter 94 args) w:=enters_of Tryz.func94 (by kernel_rfl) rfl args w
attribute [local go_sem ↓] Go.wp_at_zero Go.wp_at_succ
theorem compareEntries_grow (a b:Ent) (w:World):
 Calls Tryz.prog 94 #[.agg (eCells a).toArray,.agg (eCells b).toArray] w fun x w'=>x= .returned (.int .i64 (entCmp a b))∧∃q os,w'=grow (w.drewN q) os:=by
 obtain ⟨aid,atitle,alink,acontent,aupd⟩:=a
 obtain ⟨bid,btitle,blink,bcontent,bupd⟩:=b
 unfold entCmp
 obtain ⟨ci,hci⟩:∃ci,iCmp bupd aupd=ci:=⟨_,rfl⟩
 obtain ⟨cs,hcs⟩:∃cs,sCmp aid bid=cs:=⟨_,rfl⟩
 simp only[hci,hcs]
 have HI:=gd (fun w'=>cmpInt_any bupd aupd w')
 have HS:=gd (fun w'=>cmpStr_any aid bid w')
 rw[hcs] at HS
 rw[show (if bupd<aupd then (-1:Int) else if aupd<bupd then 1 else 0)=ci from hci] at HI
 have HO:=gd (fun v w' h=>cmpOr_any ci cs v w' h)
 obtain ⟨res,hres⟩:∃res,(if ci=0 then cs else ci)=res:=⟨_,rfl⟩
 rw[hres] at HO
 rw[hres]
 clear hci hcs hres
 unfold eCells
 go_enter Tryz.func94,Tryz.ntmps94
 go_wp2
 go_region_held3 (fun w'=>Ext w w'∧w'.cell? ⟨w.heap.size,0,none⟩=some (.string aid)∧w'.cell? ⟨w.heap.size,4,none⟩=some (.int .i64 aupd)∧w'.cell? ⟨w.heap.size+1,0,none⟩=some (.string bid)∧w'.cell? ⟨w.heap.size+1,4,none⟩=some (.int .i64 bupd))
  ((go_split_ands;refine ⟨?_,?_,?_,?_,?_⟩<;>first|assumption|((repeat (first|exact Ext.refl _|assumption|apply Ext.drew|apply Ext.alloc));done)|((refine Ext.trans ?_ (by assumption));(repeat (first|exact Ext.refl _|assumption|apply Ext.drew|apply Ext.alloc));done)|((refine Ext.cell (by assumption) ?_);first|assumption|(go_keep;done))|(go_keep;done)))
  (first|(go_at_call 137;refine (HI.out _).mono ?_;rintro e w1 ⟨rfl,rfl⟩)|(go_at_call 138;refine (HS.out _).mono ?_;rintro e w2 ⟨rfl,rfl⟩)|(go_at_call 136;refine (HO.out _ _ (rsl_block (e:=3) (fr:=(0,0)) (cs:= [.int .i64 ci,.int .i64 cs]) ?hg (by rfl) (by decide))).mono ?_;(case hg=>exact heap_alloc3_new w _ _ _);rintro e w3 ⟨rfl,rfl⟩))
 go_wp2
 go_ret
 exact ⟨rfl,1,_,by rw[alloc_eq_grow,alloc_eq_grow,alloc_eq_grow,grow_grow,grow_grow];rfl⟩
theorem sortE_any (v:Value) (l:List Ent) (w:World) (B:Nat) (h:OEnts w B v l) (hn:l.length≤1000000):
 Calls Tryz.prog 126 #[v,.func (.func 94) #[] #[]] w fun e w'=>e= .returned (.tuple #[])∧
  ∃l':List Ent,l'.Perm l∧l'.Pairwise (fun a b=>ordE.lt b a=false)∧OEnts w' B v l'∧w.grownBy w' v.ownBlock:=by
 rcases Nat.eq_zero_or_pos l.length with h0|h0
 ·have hl:l= []:=List.eq_nil_of_length_eq_zero h0
  subst hl
  obtain ⟨A,c,rfl,_,_⟩:=h.reads.form
  refine (Tryz.slices_SortFunc_none_f126 (α:=Ent) A c _ w).mono ?_
  rintro e w' ⟨rfl,rfl⟩
  exact ⟨rfl,[],List.Perm.refl _,List.Pairwise.nil,h,World.grownBy.refl _ _⟩
 ·obtain ⟨g,cap,rfl,hb,hg⟩:=World.ownsRow.form h h0
  have h':w.ownsRow B 64 5 (.slice (some ⟨g,0,none⟩) l.toArray.size cap) l.toArray.size (l.toArray.toList.map eCells).flatten:=by simpa [OEnts,flatE] using h
  have hc:=Tryz.slices_SortFunc_f126 5 isAggE sizeE eCells (fun _=>rfl) (fun x=>eCells_one x) entCmp (swo_of entCmp_is) 94 #[] g 0 cap l.toArray w enterCmp
   (fun m os dk hdk x y=>compareEntries_grow x y _) (holds_of_own eCells 5 (fun _=>rfl) h') hg (by simp;omega)
  refine hc.mono ?_
  rintro e w' ⟨rfl,d',n,os,hp,hs,rfl⟩
  have hsz:d'.size=l.toArray.size:=hp.1
  have ho:=own_of_sort eCells 5 (fun _=>rfl) (m:=n) (os:=os) h' hsz
  have hperm:d'.toList.Perm l:=by
   have:=hp.2.2
   have hl:l.length=d'.toList.length:=by simpa using hsz.symm
   simp at this
   rwa [hl,List.take_of_length_le (Nat.le_refl _)] at this
  refine ⟨rfl,d'.toList,hperm,?_,?_,ho.2⟩
  ·rw[List.pairwise_iff_getElem]
   intro i j hi hj hij
   have h1:=hs i j (Nat.zero_le _) hij (by rw[←hsz];simpa using hj)
   rw[getElem!_pos d' j (by simpa using hj),getElem!_pos d' i (by simpa using hi)] at h1
   simpa [ltOf,ordE,ltE] using h1
  ·unfold OEnts
   have e1:d'.toList.length=l.length:=hperm.length_eq
   rw[e1]
   have:=ho.1
   simpa [flatE] using this
end
theorem rowSlice:Tryz.prog.underlying 30=some (.slice (Tryz.prog.elem 30)):=by kernel_rfl
theorem rowSize (w:World):(Go.sizeOf (Tryz.prog.elem 30)).run Tryz.prog w= .ok 5 w:=by kernel_rfl
theorem tailE {w:World} {A:Option Addr} {c:Nat} {x:Ent} {t:List Ent} (h:REnts w (.slice A (t.length+1) c) (x::t)):
 ∃v',(∀wx:World,(Instr.slice 30 (.slice A (t.length+1) c) (some (.int .i64 1)) none none).run Tryz.prog wx= .ok v' wx)∧REnts w v' t:=by
 refine ⟨sliced A 1 (t.length+1) c 5,fun wx=> ?_,?_⟩
 ·rw[run_slice_l (P:=Tryz.prog) (w:=wx) 30 A (t.length+1) c rowSlice .i64 1 (by omega) (by omega)]
  rw[rowSize]
  rfl
 ·obtain ⟨h1,A',c',e,h2,h3,h4,h5⟩:=h
  injection e with e1 e2 e3
  subst e1 e3
  clear e2
  have hl:(flatE t).length=t.length*5:=by
   have:(flatE (x::t)).length=(t.length+1)*5:=by simpa using h1
   have e:flatE (x::t)=eCells x++flatE t:=by unfold flatE;simp
   rw[e,List.length_append] at this
   have e5:(eCells x).length=5:=rfl
   omega
  refine ⟨hl,?_⟩
  have hcells:∀j u,(flatE t)[j]? =some u→∃ad,A=some ad∧w.cell? (ad.add (5+j))=some u:=by
   intro j u hu
   refine h5 (5+j) u ?_
   have e:flatE (x::t)=eCells x++flatE t:=by unfold flatE;simp
   rw[e,List.getElem?_append_right (by show 5≤5+j;omega)]
   simpa [eCells] using hu
  unfold sliced
  have hn:t.length+1≤c:=by simpa using h2
  by_cases hc:c=1
  ·have ht:t= []:=List.eq_nil_of_length_eq_zero (by omega)
   subst ht
   exact ⟨_,_,rfl,by simp,Nat.le_trans (Nat.sub_le _ _) h3,fun _=>by omega,fun j u hu=>by simp[flatE] at hu⟩
  ·cases A with
   |none=>have:=h4 rfl;omega
   |some ad=>
    refine ⟨some (ad.add 5),c - 1,by rw[if_neg hc];rfl,by omega,Nat.le_trans (Nat.sub_le _ _) h3,(fun e=>by cases e),fun j u hu=>⟨_,rfl,?_⟩⟩
    obtain ⟨ad',e,hc'⟩:=hcells j u hu
    injection e with e
    subst e
    rw[addr_add2]
    exact hc'
def jE (l:List Ent) (s:ByteArray):Ent:=(ordE.got l s).getD zeroE
theorem joined_map (l:List Ent):ordE.joined l=(ordE.firsts l).map (jE l):=by
 have key:∀fs:List ByteArray,(∀s∈fs,s∈ordE.firsts l)→fs.filterMap (ordE.got l)=fs.map (jE l):=by
  intro fs
  induction fs with
  |nil=>intro _;rfl
  |cons s t ih=>
   intro h
   obtain ⟨x,hx⟩:=(Ord.got_isSome_iff (O:=ordE) l s).2 ((ordE.mem_firsts l s).1 (h s (by simp)))
   rw[List.filterMap_cons_some hx,List.map_cons,ih fun s hs=>h s (by simp[hs])]
   unfold jE
   rw[hx];rfl
 exact key _ fun s hs=>hs
theorem jE_fold {l:List Ent} {s:ByteArray} {x:Ent} {t:List Ent} (h:grp l s=x::t):jE l s=t.foldl laterE x:=by
 unfold jE Ord.got
 have h':(l.filter fun x=>decide (ordE.id x=s))=x::t:=h
 rw[h']
 rfl
theorem grp_cons {l:List Ent} {s:ByteArray} (h:s∈ordE.firsts l):∃x t,grp l s=x::t:=by
 obtain ⟨x,hx,e⟩:=(ordE.mem_firsts l s).1 h
 have:x∈grp l s:=by unfold grp;exact List.mem_filter.2 ⟨hx,by simpa using e⟩
 cases hg:grp l s with
 |nil=>rw[hg] at this;simp at this
 |cons y t=>exact ⟨y,t,rfl⟩
theorem fold_eok:∀(t:List Ent) (x:Ent),eok x→(∀y∈t,eok y)→eok (t.foldl laterE x)
 | [],_,h,_=>h
 |y::t,x,h,ht=>fold_eok t _ (laterE_eok h (ht y (by simp))) fun z hz=>ht z (by simp[hz])
def LatE:Prop:=∀(a b:Ent) (w:World),Env w→eok a→eok b→Calls Tryz.prog 125 #[.agg (eCells a).toArray,.agg (eCells b).toArray] w fun x w'=>x= .returned (.agg (eCells (laterE a b)).toArray)∧Ext w w'
theorem latE:LatE:=fun a b w hE ha hb=>laterEntry_any a b w hE ha hb
theorem combineL_any (v:Value) (l:List Ent) (w:World) (hE:Env w) (h:REnts w v l) (hl:∀x∈l,eok x) (hn:l.length≤1000000) (hLE:l.length≤1∨LatE):
 Calls Tryz.prog 78 #[v] w fun x w'=>∃v',x= .returned v'∧OEnts w' w.heap.size v' (ordE.canon l)∧Ext w w':=by
 obtain ⟨i0,hi0,hz0,hz1,hz2⟩:=info_parts info_ent
 have HGRP:=gd (groupsE_any v l w h (fun x hx=>by have:=(hl x hx).2;omega) hn)
 have HFL:=gd (firsts_len l)
 have HL:=gd hl
 have HLE:=gd hLE
 clear hl hLE
 go_enter Tryz.func78,Tryz.ntmps78
 go_wp2_with (go_at_call 123;refine (HGRP.out).mono ?_;rintro e w1 ⟨v1,gv,rfl,hG,hx1⟩;(obtain ⟨A1,c1,hv1⟩:=hG.form);subst hv1)
 have hgl:=hG.len
 have hfl:=HFL.out
 have hgn:gv.length≤1000000:=by omega
 have HG:=gd hG
 have HGL:=gd hgl
 clear hG hgl hfl
 go_loopw [3,12] (fun o i wr=>∃k:Nat,k≤gv.length∧i= .int .i64 k∧OEnts wr w1.heap.size o (((ordE.firsts l).take k).map (jE l))∧Ext w1 wr) (fun _ i _=>gv.length - (intOf i).toNat)
 case atStart=>exact ⟨0,Nat.zero_le _,rfl,OEnts.nil _ _,Ext.refl _⟩
 case round=>
  obtain ⟨k,hk,rfl,hown,hx⟩:=hrel
  by_cases hlt:k<gv.length
  ·have hGw:=HG.out.ext hx
   obtain ⟨g,cap,hv,_,_⟩:=hGw.row.form (by omega)
   injection hv with hv1 hv2 hv3
   subst hv1
   have hgc:wr.cell? ⟨g,k,none⟩=some gv[k]:=by rw[hv3] at hGw;rw[hGw.row.cellAt k (by omega)];exact List.getElem?_eq_getElem hlt
   have hkf:k<(ordE.firsts l).length:=by rw[←HGL.out];exact hlt
   have hmem:(ordE.firsts l)[k]∈ordE.firsts l:=List.getElem_mem hkf
   have hoe:=hGw.each k (ordE.firsts l)[k] gv[k] (List.getElem?_eq_getElem hkf) (List.getElem?_eq_getElem hlt)
   obtain ⟨x,t,hgrp⟩:=grp_cons hmem
   have hjf:=jE_fold hgrp
   rw[hgrp] at hoe
   have htk:((ordE.firsts l).take (k+1)).map (jE l)=((ordE.firsts l).take k).map (jE l)++ [jE l (ordE.firsts l)[k]]:=by rw[List.take_succ_eq_append_getElem hkf,List.map_append];rfl
   rw[hjf] at htk
   have HTK:=gd htk
   have hxok:∀y∈x::t,eok y:=fun y hy=>HL.out y (by rw[←hgrp] at hy;exact (List.mem_filter.1 hy).1)
   have htl2:t.length+1≤l.length:=by
    have:=grp_len l (ordE.firsts l)[k]
    rw[hgrp] at this
    simpa using this
   have htl:t.length+1≤1000000:=by omega
   have HTL2:=gd htl2
   clear htl2
   obtain ⟨u,hu⟩:∃u,gv[k]=u:=⟨_,rfl⟩
   rw[hu] at hoe hgc
   obtain ⟨A2,c2,hu2,_,_⟩:=hoe.reads.form
   subst hu2
   have hoe2:REnts wr (.slice A2 (t.length+1) c2) (x::t):=hoe.reads
   obtain ⟨v2,hsl,hR2⟩:=tailE hoe2
   obtain ⟨ad,c3,hv4,hat⟩:=hoe.reads.at (k:=0) (by simp)
   injection hv4 with hv5 hv6 hv7
   subst hv5
   rw[Nat.zero_mul] at hat
   have hadd0:ad.add 0=ad:=add_zero ad
   rw[hadd0] at hat
   obtain ⟨a0,a1,a2,a3,a4⟩:=hat
   simp only[List.getElem_cons_zero] at a0 a1 a2 a3 a4
   have HR2:=gd hR2
   have HXK:=gd hxok
   obtain ⟨A3,c4,hv8,_,_⟩:=hR2.form
   subst hv8
   have HHU:=gd hu
   clear hGw hv2 hv3 hv6 hv7 hmem hgrp hjf htk hoe hoe2 hxok hR2 hu hadd0 hkf
   obtain ⟨wo,hwo⟩:∃wo:World,wo=wr:=⟨_,rfl⟩
   subst hwo
   have hR0:=HR2.out
   go_wp2
   go_loopw [22] (fun i w2=>∃m:Nat,m≤t.length∧i= .int .i64 m∧Ext (wo.alloc (.cells (eCells ((t.take m).foldl laterE x)).toArray 64)) w2) (fun i _=>t.length - (intOf i).toNat)
   case atStart=>exact ⟨0,Nat.zero_le _,rfl,by dsimp only[List.take_zero,List.foldl_nil];exact Ext.refl _⟩
   case round=>
    obtain ⟨m,hm,rfl,hxi⟩:=hrel
    have hxwo:Ext wo wr:=((Ext.refl wo).alloc _).trans hxi
    by_cases hmt:m<t.length
    ·obtain ⟨ad2,c5,hv9,hat⟩:=(hR0.ext hxwo).at hmt
     injection hv9 with hv9 hv10 hv11
     subst hv9
     clear hv10 hv11
     have hfs:(t.take (m+1)).foldl laterE x=laterE ((t.take m).foldl laterE x) t[m]:=by rw[List.take_succ_eq_append_getElem hmt,List.foldl_append];rfl
     have hek:=fold_eok (t.take m) x (HXK.out x (by simp)) fun y hy=>HXK.out y (List.mem_cons_of_mem _ (List.mem_of_mem_take hy))
     have hyk:=HXK.out t[m] (by simp)
     obtain ⟨E,hEE⟩:∃E,(t.take m).foldl laterE x=E:=⟨_,rfl⟩
     obtain ⟨y,hy⟩:∃y,t[m]=y:=⟨_,rfl⟩
     rw[hEE,hy] at hfs
     rw[hEE] at hek hxi
     rw[hy] at hyk hat
     have HFS:=gd hfs
     have HLT:=gd (fun (w':World) (hEn:Env w')=>(HLE.out.resolve_left (by have:=HTL2.out;omega)) E y w' hEn hek hyk)
     obtain ⟨r,hr⟩:∃r,laterE E y=r:=⟨_,rfl⟩
     have HR:=gd hr
     rw[hr] at HLT
     have hEw:Env wr:=hE.ext (hx1.trans (hx.trans hxwo))
     have hbx:=fun (d:World) (hd:Ext wr d)=>(hxi.trans hd).heap (heap_alloc_new wo _)
     have HBX:=gd hbx
     have HXI:=gd hxi
     clear hfs hEE hy hr hek hyk hbx
     obtain ⟨eid,etitle,elink,econtent,eupd⟩:=E
     obtain ⟨yid,ytitle,ylink,ycontent,yupd⟩:=y
     obtain ⟨a0',a1',a2',a3',a4'⟩:=hat
     simp only at a0' a1' a2' a3' a4'
     have hi0':(0:Int)≤(m:Int):=by omega
     have hi1:(m:Int)<(t.length:Int):=by omega
     have hxy:Ext (wo.alloc (.cells (eCells ⟨eid,etitle,elink,econtent,eupd⟩).toArray 64)) (wr.alloc (.cells #[.string yid,.string ytitle,.string ylink,.string ycontent,.int .i64 yupd] 64)):=hxi.alloc _
     have hyy:Ext (wr.alloc (.cells (eCells ⟨yid,ytitle,ylink,ycontent,yupd⟩).toArray 64)) (wr.alloc (.cells #[.string yid,.string ytitle,.string ylink,.string ycontent,.int .i64 yupd] 64)):=Ext.refl _
     have e0:(wr.alloc (.cells #[.string yid,.string ytitle,.string ylink,.string ycontent,.int .i64 yupd] 64)).cell? ⟨wo.heap.size,0,none⟩=some (.string eid):=hxy.boxed 0 _ rfl
     have e1:(wr.alloc (.cells #[.string yid,.string ytitle,.string ylink,.string ycontent,.int .i64 yupd] 64)).cell? ⟨wo.heap.size,1,none⟩=some (.string etitle):=hxy.boxed 1 _ rfl
     have e2:(wr.alloc (.cells #[.string yid,.string ytitle,.string ylink,.string ycontent,.int .i64 yupd] 64)).cell? ⟨wo.heap.size,2,none⟩=some (.string elink):=hxy.boxed 2 _ rfl
     have e3:(wr.alloc (.cells #[.string yid,.string ytitle,.string ylink,.string ycontent,.int .i64 yupd] 64)).cell? ⟨wo.heap.size,3,none⟩=some (.string econtent):=hxy.boxed 3 _ rfl
     have e4:(wr.alloc (.cells #[.string yid,.string ytitle,.string ylink,.string ycontent,.int .i64 yupd] 64)).cell? ⟨wo.heap.size,4,none⟩=some (.int .i64 eupd):=hxy.boxed 4 _ rfl
     have y0:(wr.alloc (.cells #[.string yid,.string ytitle,.string ylink,.string ycontent,.int .i64 yupd] 64)).cell? ⟨wr.heap.size,0,none⟩=some (.string yid):=hyy.boxed 0 _ rfl
     have y1:(wr.alloc (.cells #[.string yid,.string ytitle,.string ylink,.string ycontent,.int .i64 yupd] 64)).cell? ⟨wr.heap.size,1,none⟩=some (.string ytitle):=hyy.boxed 1 _ rfl
     have y2:(wr.alloc (.cells #[.string yid,.string ytitle,.string ylink,.string ycontent,.int .i64 yupd] 64)).cell? ⟨wr.heap.size,2,none⟩=some (.string ylink):=hyy.boxed 2 _ rfl
     have y3:(wr.alloc (.cells #[.string yid,.string ytitle,.string ylink,.string ycontent,.int .i64 yupd] 64)).cell? ⟨wr.heap.size,3,none⟩=some (.string ycontent):=hyy.boxed 3 _ rfl
     have y4:(wr.alloc (.cells #[.string yid,.string ytitle,.string ylink,.string ycontent,.int .i64 yupd] 64)).cell? ⟨wr.heap.size,4,none⟩=some (.int .i64 yupd):=hyy.boxed 4 _ rfl
     have hEy:Env (wr.alloc (.cells #[.string yid,.string ytitle,.string ylink,.string ycontent,.int .i64 yupd] 64)):=hEw.ext ((Ext.refl wr).alloc _)
     unfold eCells at HLT
     dsimp only at HLT
     clear hxy hyy
     go_wp2_with (first|(refine wpList_store_row rfl 64 (.tmp 6) (.tmp 28) rfl wo.heap.size _ rfl rfl _ _ hbd size_ent rfl (oneA (eCells_one r)) ?_)|(go_at_call 125;refine (HLT.out _ hEy).mono ?_;rintro e w3 ⟨rfl,hx3⟩;(have hxd:=HXI.out.trans (((Ext.refl wr).alloc _).trans hx3));(have hbd:=HBX.out w3 (((Ext.refl wr).alloc _).trans hx3))))
     go_roundw
     case rel=>
      have hR:=HR.out
      have hF:=HFS.out
      refine ⟨m+1,by omega,by go_num,?_⟩
      rw[hF,hR]
      exact ext_setBox hxd
     case measure=>simp[intOf];omega
    ·have hme:m=t.length:=by omega
     subst hme
     rw[List.take_of_length_le (Nat.le_refl _)] at hxi
     obtain ⟨r,hr⟩:∃r,t.foldl laterE x=r:=⟨_,rfl⟩
     rw[hr] at hxi
     have HR:=gd hr
     clear hr
     have e0:wr.cell? ⟨wo.heap.size,0,none⟩=some (.string r.id):=hxi.boxed 0 _ rfl
     have e1:wr.cell? ⟨wo.heap.size,1,none⟩=some (.string r.title):=hxi.boxed 1 _ rfl
     have e2:wr.cell? ⟨wo.heap.size,2,none⟩=some (.string r.link):=hxi.boxed 2 _ rfl
     have e3:wr.cell? ⟨wo.heap.size,3,none⟩=some (.string r.content):=hxi.boxed 3 _ rfl
     have e4:wr.cell? ⟨wo.heap.size,4,none⟩=some (.int .i64 r.upd):=hxi.boxed 4 _ rfl
     have hown1:=hown.ext hxwo
     have hxx:=hx.trans hxwo
     have hkl:(((ordE.firsts l).take k).map (jE l)).length=k:=by
      have:=HGL.out
      rw[List.length_map,List.length_take];omega
     unfold OEnts at hown1
     have HBY:Hid (((((ordE.firsts l).take k).map (jE l)).length+1)*72≤140737488355328):=gd (by rw[hkl];omega)
     have HML:Hid ((((ordE.firsts l).take k).map (jE l)).length+1≤maxLen):=gd (by rw[hkl];unfold maxLen;omega)
     obtain ⟨O,hO⟩:∃O,((ordE.firsts l).take k).map (jE l)=O:=⟨_,rfl⟩
     rw[hO] at hown1 hkl HBY HML
     have HO:=gd hO
     clear hO
     go_wp2_with (first|(at_builtin;refine wpList_append_rsl _ rfl (.tmp 30) (.tmp 32) _ rfl w1.heap.size 64 i0 _ 5 72 Tryz.underlying30 hi0 hz0 hz1 hz2 rfl (by decide) _ _ _ rfl (hown1.alloc _) _ 1 (eCells r) rfl (rsl_new rfl (by decide)) (eCells_one _) HML.out HBY.out ?_ ?_;(have:=hxx.size;simp;omega);intro v3 w3 hown3 hg3 hat3;(have hx3:Ext w1 w3:=Ext.app (hxx.alloc _) hg3 (hown1.alloc _) (Nat.le_refl _))))
     go_roundw
     case rel=>
      have hT:=HTK.out
      have hO:=HO.out
      have hR:=HR.out
      refine ⟨k+1,by omega,by go_num,?_,hx3⟩
      rw[hT,hO,hR]
      exact OEnts.snoc hown3
     case measure=>simp[intOf];omega
  ·have hke:k=gv.length:=by omega
   subst hke
   have hkf:(ordE.firsts l).take gv.length=ordE.firsts l:=List.take_of_length_le (by rw[HGL.out];exact Nat.le_refl _)
   rw[hkf,←joined_map] at hown
   have hjn:(ordE.joined l).length≤1000000:=by rw[joined_map,List.length_map,←HGL.out];exact hgn
   have hcan:=fun l'=>ordE.sorted_joined l l'
   obtain ⟨J,hJ⟩:∃J,ordE.joined l=J:=⟨_,rfl⟩
   rw[hJ] at hown hjn hcan
   have HCAN:=gd hcan
   have hws:=hx1.size
   have hgb:∀g,u3.ownBlock=some g→w.heap.size≤g:=fun g hg=>Nat.le_trans hws (World.ownsRow.lt hown g hg).1
   have hsr:=sortE_any u3 J wr w1.heap.size hown hjn
   obtain ⟨A9,c9,rfl,_,_⟩:=hown.reads.form
   have HSR:=gd hsr
   have HGB:=gd hgb
   clear hsr hcan hJ hkf hjn hgb
   go_wp2_with (go_at_call 126;(have hz:=HSR.out);(with_reducible refine Calls.mono hz ?_);clear hz;rintro e w9 ⟨rfl,l',hp,hs,hown9,hgr⟩)
   go_ret
   have hc:=HCAN.out l' hp hs
   subst hc
   exact ⟨_,rfl,hown9.mono hws,Ext.grown' (B:=0) (hx1.trans hx) hgr HGB.out⟩
theorem combine_any (v:Value) (l:List Ent) (w:World) (hE:Env w) (h:REnts w v l) (hl:∀x∈l,eok x) (hn:l.length≤1000000):
 Calls Tryz.prog 78 #[v] w fun x w'=>∃v',x= .returned v'∧OEnts w' w.heap.size v' (ordE.canon l)∧Ext w w':=combineL_any v l w hE h hl hn (Or.inr latE)
theorem info_ps:(Tryz.prog.info? 129).map (fun i=>(i.zero,i.size,i.bytes))=some (some (.pointer none),1,8):=by kernel_rfl
theorem str_one (l:List ByteArray):∀u∈l.map Value.string,u.oneCell'=true:=by
 intro u hu
 obtain ⟨s,_,rfl⟩:=List.mem_map.1 hu
 rfl
def zeroC:Fc:=⟨.slice none 0 0,.slice none 0 0,zeroF⟩
theorem zeroC_rd (w:World):RdC w zeroC:=⟨RSl.nil w 1,RSl.nil w 5⟩
theorem zeroC_away (g:Option Nat):awayC zeroC g:=⟨Or.inl rfl,Or.inl rfl⟩
theorem feedColl_bad {W:World} {v:Value} {g b:Nat} {l:List ByteArray} {x y z:ByteArray} (hE:Env W) (hP:Ptrs W v (ptrsF g b l x y z)) (h0:firstErr (l++ [x,y,z])≠0):
 Calls Tryz.prog 74 #[v] W fun e w'=>e= .returned (.int .i64 (firstErr (l++ [x,y,z]):Nat))∧Ext W w':=by
 refine (collapseAll_any v _ W hE hP).mono ?_
 rintro e w' ⟨h1,h2⟩
 rw[ptrsF_snd] at h1 h2
 exact ⟨h1,h2.elim (fun h=>absurd h.1 h0) fun h=>h.2⟩
theorem feedColl_ok {W:World} {v:Value} {g b cap:Nat} {A:Option Addr} {l:List ByteArray} {x y z:ByteArray} {p e t:Value} (hE:Env W) (hP:Ptrs W v (ptrsF g b l x y z)) (hgb:g≠b)
 (hA:0<l.length→A=some ⟨g,0,none⟩) (hr:RStrs W (.slice A l.length cap) l)
 (h0:W.cell? ⟨b,0,none⟩=some p) (h1:W.cell? ⟨b,1,none⟩=some (.string x)) (h2:W.cell? ⟨b,2,none⟩=some (.string y)) (h3:W.cell? ⟨b,3,none⟩=some (.string z)) (h4:W.cell? ⟨b,4,none⟩=some t) (h5:W.cell? ⟨b,5,none⟩=some e) (f5:W.frozen? ⟨b,5,none⟩=false)
 (hz:firstErr (l++ [x,y,z])=0):
 Calls Tryz.prog 74 #[v] W fun u w'=>u= .returned (.int .i64 0)∧RStrs w' (.slice A l.length cap) (l.map collapse)∧
  (w'.cell? ⟨b,0,none⟩=some p∧w'.cell? ⟨b,1,none⟩=some (.string (collapse x))∧w'.cell? ⟨b,2,none⟩=some (.string (collapse y))∧w'.cell? ⟨b,3,none⟩=some (.string (collapse z))∧w'.cell? ⟨b,4,none⟩=some t∧w'.cell? ⟨b,5,none⟩=some e)∧
  w'.frozen? ⟨b,5,none⟩=false∧(∀a:World,Ext a W→a.heap.size≤g→a.heap.size≤b→Ext a w')∧(∀k o,k≠g→k≠b→W.heap[k]? =some o→w'.heap[k]? =some o):=by
 refine (collapseAll_any v _ W hE hP).mono ?_
 rintro u w' ⟨q1,q2⟩
 rw[ptrsF_snd,hz] at q1 q2
 rw[ptrsF_map] at q2
 rcases q2 with ⟨_,q2⟩|⟨q2,_⟩
 ·have hx:Ext (setS W (ptrsF g b (l.map collapse) (collapse x) (collapse y) (collapse z))) w':=by
   unfold Ext
   rw[setS_size]
   exact q2
  have hlen:l.length=(l.map collapse).length:=by simp
  have hs:=ptrsF_set (l:=l.map collapse) (x:=collapse x) (y:=collapse y) (z:=collapse z) (A:=A) (cap:=cap) (ll:=l) hgb hlen (by rw[←hlen];exact hA) (by rw[←hlen];exact hr) h0 h1 h2 h3 h4 h5 hx
  rw[←hlen] at hs
  obtain ⟨s0,s1⟩:=hs
  have hbW:b<W.heap.size:=World.block_lt_of_cell? W _ h0
  refine ⟨q1,s0,s1,?_,fun a ha hag hab=> ?_,fun k o hk1 hk2 ho=> ?_⟩
  ·rw[Below.frozen hx (by rw[setS_size];exact hbW),setS_frozen]
   exact f5
  ·refine Ext.trans (Ext.setS _ ha fun q hq=> ?_) hx
   rcases ptrsF_mem hq with e|e<;>rw[e]<;>assumption
  ·refine hx.heap ?_
   rw[setS_heap_other _ _ _ fun q hq=> ?_]
   ·exact ho
   ·rcases ptrsF_mem hq with e|e<;>rw[e]
    ·exact fun e=>hk1 e.symm
    ·exact fun e=>hk2 e.symm
 ·exact absurd rfl q2
theorem normFeed_any (x:Fc) (w:World) (hE:Env w) (hk:fokS x.f) (hr:RdC w x):
 Calls Tryz.prog 36 #[.agg (cellsC x).toArray] w fun e w'=>∃y:Fc,e= .returned (.tuple #[.agg (cellsC y).toArray,.int .i64 (errF x.f:Nat)])∧y.f=normF x.f∧RdC w' y∧(∀g,g<w.heap.size→awayC y (some g))∧Ext w w':=by
 obtain ⟨i0,hi0,hz0,hz1',hz2⟩:=info_parts info_ps
 obtain ⟨i1,hj0,hy0,hy1,hy2⟩:=info_parts info_ent
 obtain ⟨p,es,f⟩:=x
 obtain ⟨F,hF⟩:∃F,f=F:=⟨_,rfl⟩
 obtain ⟨EF,hEF⟩:∃n,errF F=n:=⟨_,rfl⟩
 obtain ⟨NF,hNF⟩:∃n,normF F=n:=⟨_,rfl⟩
 have e1:errF f=EF:=by rw[hF];exact hEF
 have e2:normF f=NF:=by rw[hF];exact hNF
 simp only[e1,e2]
 have HEF:=gd hEF
 have HNF0:=gd hNF
 clear e1 e2 hEF hNF
 have HBAD:Hid (∀n,errF F=n→n≠0→normF F=zeroF):=gd fun n h h'=>by unfold normF;rw[h,if_neg h']
 obtain ⟨path,id,title,link,upd,ents⟩:=f
 obtain ⟨hrp,hre⟩:=hr
 obtain ⟨⟨hup,hsz⟩,hel,hes⟩:=hk
 simp only at hrp hre hsz hel hes
 have hpl:path.length≤16777216:=by omega
 have HSZ:Hid (∀s∈path++ [id,title,link],s.size≤16777216):=gd (by
  intro s hs
  rcases List.mem_append.1 hs with hs|hs
  ·have:=size_le_sizes hs;omega
  ·simp only[List.mem_cons,List.mem_nil_iff,or_false] at hs
   rcases hs with rfl|rfl|rfl<;>omega)
 have HES:=gd hes
 have HCL:=gd (fun (w':World) (h:Ext w w')=>clone_str p path.length (path.map Value.string) w' (hrp.ext h) (str_one path) (by omega))
 have HRE:=gd hre
 have HF:=gd hF
 obtain ⟨pA,pc,hp1,_,_⟩:=hrp.form
 obtain ⟨eA,ec,he1,_,_⟩:=hre.form
 subst hp1 he1
 clear hrp hre hes hsz hup hF
 unfold cellsC fCells
 dsimp only
 go_enter Tryz.func36,Tryz.ntmps36
 go_wp2_with (go_at_call 73;refine (HCL.out _ (((Ext.refl w).alloc _).alloc _)).mono ?_;rintro e w1 ⟨p1,rfl,hown1,hx1⟩;(obtain ⟨A1,cc1,hp1⟩:∃A c,p1= .slice A path.length c:=(by obtain ⟨A,c,e,_⟩:=(RSl.of_own hown1).2;exact ⟨A,c,e⟩));subst hp1;(have hxb:=((Ext.refl _).alloc _).trans hx1);(have c0:=hxb.boxed 0 _ rfl);(have c1:=hxb.boxed 1 _ rfl);(have c2:=hxb.boxed 2 _ rfl);(have c3:=hxb.boxed 3 _ rfl);(have c4:=hxb.boxed 4 _ rfl);(have c5:=hxb.boxed 5 _ rfl);(have f0:=hxb.boxedF 0);(have f1:=hxb.boxedF 1);(have f2:=hxb.boxedF 2);(have f3:=hxb.boxedF 3);(have f5:=hxb.boxedF 5))
 obtain ⟨W1,hW1⟩:∃W,W=w1.setCell ⟨w.heap.size,0,none⟩ (.slice A1 path.length cc1):=⟨_,rfl⟩
 rw[←hW1]
 have hown1':w1.ownsRow (w.heap.size+2) 9 1 (.slice A1 path.length cc1) path.length (path.map Value.string):=own_mono hown1 (by rw[size_alloc,size_alloc];exact Nat.le_refl _)
 have b0:W1.cell? ⟨w.heap.size,0,none⟩=some (.slice A1 path.length cc1):=by rw[hW1];exact World.cell?_setCell_same _ _ _ c0
 have b1:W1.cell? ⟨w.heap.size,1,none⟩=some (.string id):=by rw[hW1,World.cell?_setCell_other _ _ _ _ (by simp)];exact c1
 have b2:W1.cell? ⟨w.heap.size,2,none⟩=some (.string title):=by rw[hW1,World.cell?_setCell_other _ _ _ _ (by simp)];exact c2
 have b3:W1.cell? ⟨w.heap.size,3,none⟩=some (.string link):=by rw[hW1,World.cell?_setCell_other _ _ _ _ (by simp)];exact c3
 have b4:W1.cell? ⟨w.heap.size,4,none⟩=some (.int .i64 upd):=by rw[hW1,World.cell?_setCell_other _ _ _ _ (by simp)];exact c4
 have b5:W1.cell? ⟨w.heap.size,5,none⟩=some (.slice eA ents.length ec):=by rw[hW1,World.cell?_setCell_other _ _ _ _ (by simp)];exact c5
 have g1:W1.frozen? ⟨w.heap.size,1,none⟩=false:=by rw[hW1,World.frozen?_setCell];exact f1
 have g2:W1.frozen? ⟨w.heap.size,2,none⟩=false:=by rw[hW1,World.frozen?_setCell];exact f2
 have g3:W1.frozen? ⟨w.heap.size,3,none⟩=false:=by rw[hW1,World.frozen?_setCell];exact f3
 have g5:W1.frozen? ⟨w.heap.size,5,none⟩=false:=by rw[hW1,World.frozen?_setCell];exact f5
 have hown:W1.ownsRow (w.heap.size+2) 9 1 (.slice A1 path.length cc1) path.length (path.map Value.string):=by
  rw[hW1]
  exact ownsRow_setCell_other hown1' (a:=⟨w.heap.size,0,none⟩) (fun e=>absurd (hown1'.lt _ e).1 (show ¬(w.heap.size+2≤w.heap.size) by omega)) _
 have hz1:W1.heap[w.heap.size+1]? =some (.cells #[.slice none 0 0,.string ⟨#[]⟩,.string ⟨#[]⟩,.string ⟨#[]⟩,.int .i64 0,.slice none 0 0] 32):=by
  rw[hW1,heap_setCell_other _ _ _ _ (by simp)]
  refine hx1.heap ?_
  have:=heap_alloc_new (w.alloc (.cells #[.slice pA path.length pc,.string id,.string title,.string link,.int .i64 upd,.slice eA ents.length ec] 32)) (.cells #[.slice none 0 0,.string ⟨#[]⟩,.string ⟨#[]⟩,.string ⟨#[]⟩,.int .i64 0,.slice none 0 0] 32)
  rwa [size_alloc] at this
 have hxW:Ext w W1:=by rw[hW1];exact Ext.setCell ((((Ext.refl w).alloc _).alloc _).trans hx1) (Nat.le_refl _) _
 have hEW:=hE.ext hxW
 have hsW:w.heap.size+2≤W1.heap.size:=by
  rw[hW1]
  have:=hx1.size
  rw[size_alloc,size_alloc] at this
  show w.heap.size+2≤(w1.heap.modify _ _).size
  rw[Array.size_modify]
  exact this
 obtain ⟨g,hgA,hgb⟩:∃g,(0<path.length→A1=some ⟨g,0,none⟩)∧w.heap.size+2≤g:=by
  rcases Nat.eq_zero_or_pos path.length with h0|h0
  ·exact ⟨w.heap.size+2,fun h=>by omega,Nat.le_refl _⟩
  ·obtain ⟨g,cap,e,hb,_⟩:=World.ownsRow.form hown h0
   injection e with e1 e2 e3
   exact ⟨g,fun _=>e1,hb⟩
 have HOWN:=gd hown
 have HGA:=gd hgA
 have HXW:=gd hxW
 have HEW:=gd hEW
 clear hW1 hown1 hown1' hown c0 c1 c2 c3 c4 c5 f0 f1 f2 f3 f5 hxb hx1 hxW hEW hgA HCL
 go_loopw [4,19] (fun o i wr=>∃k:Nat,k≤path.length∧i= .int .i64 k∧wr.ownsRow W1.heap.size 129 1 o k (((ptrsAt g 0 path).take k).map fun q=>Value.pointer (some q.1))∧Ext W1 wr) (fun _ i _=>path.length - (intOf i).toNat)
 case atStart=>exact ⟨0,Nat.zero_le _,rfl,World.ownsRow_nil _ _ _ _,Ext.refl _⟩
 case round=>
  obtain ⟨k,hk,rfl,hown,hx⟩:=hrel
  by_cases hlt:k<path.length
  ·have hAA:=HGA.out (by omega)
   subst hAA
   have d0:=hx.cell b0
   have hi0':(0:Int)≤(k:Int):=by omega
   have hi1':(k:Int)<(path.length:Int):=by omega
   have hsn:=ptrsAt_snoc g path k hlt
   obtain ⟨X,hX⟩:∃X,((ptrsAt g 0 path).take k).map (fun q=>Value.pointer (some q.1))=X:=⟨_,rfl⟩
   rw[hX] at hown hsn
   have HSN:=gd hsn
   have HBY:Hid ((k+1)*8≤140737488355328):=gd (by omega)
   have HML:Hid (k+1≤maxLen):=gd (by unfold maxLen;omega)
   have HOW:=gd hown
   have HXX:=gd hx
   have hws:=hx.size
   clear hsn hX hown
   go_wp2_with (first|(at_builtin;refine wpList_append_rsl _ rfl (.tmp 22) (.tmp 27) _ rfl W1.heap.size 129 i0 _ 1 8 Tryz.underlying128 hi0 hz0 hz1' hz2 rfl (by decide) _ k X rfl (HOW.out.alloc _) _ 1 [.pointer (some ⟨g,k,none⟩)] rfl (rsl_new rfl (by decide)) (by intro y hy;simp at hy;subst hy;rfl) HML.out HBY.out ?_ ?_;(simp;omega);intro v3 w3 hown3 hg3 hat3;(have hx3:Ext W1 w3:=Ext.app (HXX.out.alloc _) hg3 (HOW.out.alloc _) (Nat.le_refl _))))
   go_roundw
   case rel=>exact ⟨k+1,hlt,by go_num,by rw[HSN.out];exact hown3,hx3⟩
   case measure=>simp[intOf];omega
  have hke:k=path.length:=by omega
  subst hke
  rw[List.take_of_length_le (by rw[ptrsAt_len];exact Nat.le_refl _)] at hown
  have d0:=hx.cell b0
  have d1:=hx.cell b1
  have d2:=hx.cell b2
  have d3:=hx.cell b3
  have d4:=hx.cell b4
  have d5:=hx.cell b5
  obtain ⟨X,hX⟩:∃X,(ptrsAt g 0 path).map (fun q=>Value.pointer (some q.1))=X:=⟨_,rfl⟩
  rw[hX] at hown
  have hpf:(ptrsF g w.heap.size path id title link).map (fun q=>Value.pointer (some q.1))=X++ [.pointer (some ⟨w.heap.size,1,none⟩),.pointer (some ⟨w.heap.size,2,none⟩),.pointer (some ⟨w.heap.size,3,none⟩)]:=by
   unfold ptrsF
   rw[List.map_append,hX]
   rfl
  have HPF:=gd hpf
  have HOW:=gd hown
  have HXX:=gd hx
  have hws:=hx.size
  have HBY:Hid ((path.length+3)*8≤140737488355328):=gd (by omega)
  have HML:Hid (path.length+3≤maxLen):=gd (by unfold maxLen;omega)
  have hgne:g≠w.heap.size:=by omega
  have hP:∀(w4:World) (v4:Value),Ext W1 w4→w4.ownsRow W1.heap.size 129 1 v4 (path.length+3) (X++ [.pointer (some ⟨w.heap.size,1,none⟩),.pointer (some ⟨w.heap.size,2,none⟩),.pointer (some ⟨w.heap.size,3,none⟩)])→Ptrs w4 v4 (ptrsF g w.heap.size path id title link):=by
   intro w4 v4 hx4 hown4
   have hbW:w.heap.size<W1.heap.size:=by omega
   refine feedPtrs (A:=A1) (cap:=cc1) hgne HGA.out (own_ext HOWN.out hx4) (hx4.cell b1) (hx4.cell b2) (hx4.cell b3) ((Below.frozen hx4 hbW).trans g1) ((Below.frozen hx4 hbW).trans g2) ((Below.frozen hx4 hbW).trans g3) HSZ.out ?_
   rw[HPF.out]
   exact RSl.of_own hown4
  have HP:=gd hP
  have hst1:RStrs W1 (.slice A1 path.length cc1) path:=RSl.of_own HOWN.out
  have HST:=gd hst1
  have HB:=gd (And.intro b0 (And.intro b1 (And.intro b2 (And.intro b3 (And.intro b4 b5)))))
  have HG5:=gd g5
  have HZ1:=gd hz1
  clear hX hpf hown hP hst1 b0 b1 b2 b3 b4 b5 g1 g2 g3 g5 hz1 hx
  by_cases h0:firstErr (path++ [id,title,link])=0
  have hhd:errF F=if collapse id=noS∨(path.any fun p=>decide (collapse p=noS))=true then 19 else if 64<path.length then 9 else if inT upd=true then errEs ents else 3:=by
   rw[←HF.out]
   unfold errF headF strsF
   simp only[h0,ne_eq,not_true_eq_false,if_false]
   split
   ·rfl
   ·split
    ·rfl
    ·split<;>rfl
  have HHD:=gd hhd
  have hany:((path.map collapse).any fun s=>decide (s=⟨#[]⟩))=path.any fun p=>decide (collapse p=noS):=by rw[List.any_map];rfl
  obtain ⟨Bp,hBp⟩:∃B,(path.any fun p=>decide (collapse p=noS))=B:=⟨_,rfl⟩
  rw[hBp] at hany
  have HANY:=gd hany
  have HBp:=gd hBp
  have HT:=gd (fun w'=>inTime_any upd w')
  have HCO:=gd (fun (w4:World) (v4:Value) (hx4:Ext W1 w4) hown4=>feedColl_ok (W:=w4) (v:=v4) (g:=g) (b:=w.heap.size) (cap:=cc1) (A:=A1) (l:=path) (x:=id) (y:=title) (z:=link) (HEW.out.ext hx4) (HP.out w4 v4 hx4 hown4) hgne HGA.out (HST.out.ext hx4) (hx4.cell HB.out.1) (hx4.cell HB.out.2.1) (hx4.cell HB.out.2.2.1) (hx4.cell HB.out.2.2.2.1) (hx4.cell HB.out.2.2.2.2.1) (hx4.cell HB.out.2.2.2.2.2) ((Below.frozen hx4 (show w.heap.size<W1.heap.size by omega)).trans HG5.out) h0)
  clear hhd hany hBp h0
  obtain ⟨ci,hci⟩:∃c,collapse id=c:=⟨_,rfl⟩
  obtain ⟨ct,hct⟩:∃c,collapse title=c:=⟨_,rfl⟩
  obtain ⟨cl,hcl⟩:∃c,collapse link=c:=⟨_,rfl⟩
  rw[hci,hct,hcl] at HCO
  rw[hci] at HHD
  have HCI:=gd hci
  have HCT:=gd hct
  have HCLK:=gd hcl
  clear hci hct hcl
  by_cases hid0:ci=noS
  focus
   subst hid0
   have hne:noS.toList= []:=by rw[ByteArray.toList_eq];rfl
   unfold noS at HCO
   have he:errF F=19:=by
    rw[HHD.out]
    rw[if_pos (Or.inl rfl)]
   have HN:=gd (HBAD.out _ he (by decide))
   have heE:=HEF.out.symm.trans he
   subst heE
   clear he
   go_wp2_with (first|(at_builtin;refine wpList_append_rsl _ rfl (.tmp 30) (.tmp 34) _ rfl W1.heap.size 129 i0 _ 1 8 Tryz.underlying128 hi0 hz0 hz1' hz2 rfl (by decide) _ path.length X rfl (HOW.out.alloc _) _ 3 [.pointer (some ⟨w.heap.size,1,none⟩),.pointer (some ⟨w.heap.size,2,none⟩),.pointer (some ⟨w.heap.size,3,none⟩)] rfl (rsl_new rfl (by decide)) (by intro y hy;simp at hy;rcases hy with rfl|rfl|rfl<;>rfl) HML.out HBY.out ?_ ?_;(simp;omega);intro v3 w3 hown3 hg3 hat3;(have hx3:Ext W1 w3:=Ext.app (HXX.out.alloc _) hg3 (HOW.out.alloc _) (Nat.le_refl _)))|(go_at_call 74;(have hz:=HCO.out _ _ hx3 hown3);(with_reducible refine Calls.mono hz ?_);clear hz;rintro e w5 ⟨rfl,hst5,⟨q0,q1,q2,q3,q4,q5⟩,f5,hxa,hka⟩;(have hx5:Ext w w5:=hxa w (HXW.out.trans hx3) (by omega) (Nat.le_refl _));(have hz5:=hka (w.heap.size+1) _ (by omega) (by omega) (hx3.heap HZ1.out));(have HC:=gd (contains_any (w:=w5) (g:=g) (n:=path.length) (c:=cc1) (A:=A1) (l:=path.map collapse) ⟨#[]⟩ (by simp) (by simpa using HGA.out) hst5 (by simp;omega)));rw[HANY.out] at HC;clear hxa hka)|(refine wpList_store_row rfl 32 (.tmp 2) (.tmp 51) rfl (w.heap.size+1) _ rfl rfl _ _ hz5 size_fd rfl oneF ?_))
  rotate_left
  have hne:=ne_noS hid0
  have HID0:=gd hid0
  clear hid0
  cases Bp
  have hcd:¬(ci=noS∨(path.any fun p=>decide (collapse p=noS))=true):=by
   rintro (h|h)
   ·exact HID0.out h
   ·rw[HBp.out] at h;cases h
  have HCD:=gd hcd
  clear hcd
  by_cases hdp:64<path.length
  focus
   have hdpi:(64:Int)<(path.length:Int):=by omega
   have he:errF F=9:=by
    rw[HHD.out]
    rw[if_neg HCD.out,if_pos hdp]
   have HN:=gd (HBAD.out _ he (by decide))
   have heE:=HEF.out.symm.trans he
   subst heE
   clear he
   go_wp2_with (first|(at_builtin;refine wpList_append_rsl _ rfl (.tmp 30) (.tmp 34) _ rfl W1.heap.size 129 i0 _ 1 8 Tryz.underlying128 hi0 hz0 hz1' hz2 rfl (by decide) _ path.length X rfl (HOW.out.alloc _) _ 3 [.pointer (some ⟨w.heap.size,1,none⟩),.pointer (some ⟨w.heap.size,2,none⟩),.pointer (some ⟨w.heap.size,3,none⟩)] rfl (rsl_new rfl (by decide)) (by intro y hy;simp at hy;rcases hy with rfl|rfl|rfl<;>rfl) HML.out HBY.out ?_ ?_;(simp;omega);intro v3 w3 hown3 hg3 hat3;(have hx3:Ext W1 w3:=Ext.app (HXX.out.alloc _) hg3 (HOW.out.alloc _) (Nat.le_refl _)))|(go_at_call 74;(have hz:=HCO.out _ _ hx3 hown3);(with_reducible refine Calls.mono hz ?_);clear hz;rintro e w5 ⟨rfl,hst5,⟨q0,q1,q2,q3,q4,q5⟩,f5,hxa,hka⟩;(have hx5:Ext w w5:=hxa w (HXW.out.trans hx3) (by omega) (Nat.le_refl _));(have hz5:=hka (w.heap.size+1) _ (by omega) (by omega) (hx3.heap HZ1.out));(have HC:=gd (contains_any (w:=w5) (g:=g) (n:=path.length) (c:=cc1) (A:=A1) (l:=path.map collapse) ⟨#[]⟩ (by simp) (by simpa using HGA.out) hst5 (by simp;omega)));rw[HANY.out] at HC;clear hxa hka)|(go_at_call 75;(have hz:=HC.out);(with_reducible refine Calls.mono hz ?_);clear hz;rintro e w6 ⟨rfl,rfl⟩)|(refine wpList_store_row rfl 32 (.tmp 2) (.tmp 57) rfl (w.heap.size+1) _ rfl rfl _ _ hz5 size_fd rfl oneF ?_))
  rotate_left
  have hdpi:¬(64:Int)<(path.length:Int):=by omega
  cases hti:inT upd
  focus
   rw[hti] at HT
   have he:errF F=3:=by
    rw[HHD.out]
    rw[if_neg HCD.out,if_neg hdp,hti];rfl
   have HN:=gd (HBAD.out _ he (by decide))
   have heE:=HEF.out.symm.trans he
   subst heE
   clear he
   go_wp2_with (first|(at_builtin;refine wpList_append_rsl _ rfl (.tmp 30) (.tmp 34) _ rfl W1.heap.size 129 i0 _ 1 8 Tryz.underlying128 hi0 hz0 hz1' hz2 rfl (by decide) _ path.length X rfl (HOW.out.alloc _) _ 3 [.pointer (some ⟨w.heap.size,1,none⟩),.pointer (some ⟨w.heap.size,2,none⟩),.pointer (some ⟨w.heap.size,3,none⟩)] rfl (rsl_new rfl (by decide)) (by intro y hy;simp at hy;rcases hy with rfl|rfl|rfl<;>rfl) HML.out HBY.out ?_ ?_;(simp;omega);intro v3 w3 hown3 hg3 hat3;(have hx3:Ext W1 w3:=Ext.app (HXX.out.alloc _) hg3 (HOW.out.alloc _) (Nat.le_refl _)))|(go_at_call 74;(have hz:=HCO.out _ _ hx3 hown3);(with_reducible refine Calls.mono hz ?_);clear hz;rintro e w5 ⟨rfl,hst5,⟨q0,q1,q2,q3,q4,q5⟩,f5,hxa,hka⟩;(have hx5:Ext w w5:=hxa w (HXW.out.trans hx3) (by omega) (Nat.le_refl _));(have hz5:=hka (w.heap.size+1) _ (by omega) (by omega) (hx3.heap HZ1.out));(have HC:=gd (contains_any (w:=w5) (g:=g) (n:=path.length) (c:=cc1) (A:=A1) (l:=path.map collapse) ⟨#[]⟩ (by simp) (by simpa using HGA.out) hst5 (by simp;omega)));rw[HANY.out] at HC;clear hxa hka)|(go_at_call 75;(have hz:=HC.out);(with_reducible refine Calls.mono hz ?_);clear hz;rintro e w6 ⟨rfl,rfl⟩)|(go_at_call 76;refine (HT.out _).mono ?_;rintro e w6 ⟨rfl,rfl⟩)|(refine wpList_store_row rfl 32 (.tmp 2) (.tmp 63) rfl (w.heap.size+1) _ rfl rfl _ _ hz5 size_fd rfl oneF ?_))
  rotate_left
  ·rw[hti] at HT
   have he:errF F=errEs ents:=by rw[HHD.out,if_neg HCD.out,if_neg hdp,hti,if_pos rfl]
   have heE:=HEF.out.symm.trans he
   subst heE
   have HER:=gd he
   clear he hti hdp
   go_wp2_with (first|(at_builtin;refine wpList_append_rsl _ rfl (.tmp 30) (.tmp 34) _ rfl W1.heap.size 129 i0 _ 1 8 Tryz.underlying128 hi0 hz0 hz1' hz2 rfl (by decide) _ path.length X rfl (HOW.out.alloc _) _ 3 [.pointer (some ⟨w.heap.size,1,none⟩),.pointer (some ⟨w.heap.size,2,none⟩),.pointer (some ⟨w.heap.size,3,none⟩)] rfl (rsl_new rfl (by decide)) (by intro y hy;simp at hy;rcases hy with rfl|rfl|rfl<;>rfl) HML.out HBY.out ?_ ?_;(simp;omega);intro v3 w3 hown3 hg3 hat3;(have hx3:Ext W1 w3:=Ext.app (HXX.out.alloc _) hg3 (HOW.out.alloc _) (Nat.le_refl _)))|(go_at_call 74;(have hz:=HCO.out _ _ hx3 hown3);(with_reducible refine Calls.mono hz ?_);clear hz;rintro e w5 ⟨rfl,hst5,⟨q0,q1,q2,q3,q4,q5⟩,f5,hxa,hka⟩;(have hx5:Ext w w5:=hxa w (HXW.out.trans hx3) (by omega) (Nat.le_refl _));(have hz5:=hka (w.heap.size+1) _ (by omega) (by omega) (hx3.heap HZ1.out));(have HC:=gd (contains_any (w:=w5) (g:=g) (n:=path.length) (c:=cc1) (A:=A1) (l:=path.map collapse) ⟨#[]⟩ (by simp) (by simpa using HGA.out) hst5 (by simp;omega)));rw[HANY.out] at HC;clear hxa hka)|(go_at_call 75;(have hz:=HC.out);(with_reducible refine Calls.mono hz ?_);clear hz;rintro e w6 ⟨rfl,rfl⟩)|(go_at_call 76;refine (HT.out _).mono ?_;rintro e w6 ⟨rfl,rfl⟩))
   have HX5:=gd hx5
   have HST5:=gd hst5
   have HE5:=gd (hE.ext hx5)
   have HC:=()
   have HB5:=gd (And.intro q0 (And.intro q1 (And.intro q2 (And.intro q3 (And.intro q4 q5)))))
   have HF5:=gd f5
   have HZ5:=gd hz5
   have hs5:w.heap.size+2≤w6.heap.size:=by
    have:=(Array.getElem?_eq_some_iff.1 hz5).1
    omega
   clear hx3 hown3 hg3 hat3 hst5 q0 q1 q2 q3 q4 q5 f5 hz5 hx5
   go_loopw [7,67] (fun o i wr=>∃k:Nat,k≤ents.length∧i= .int .i64 k∧OEnts wr w6.heap.size o ((ents.take k).map collE)∧Hid (∀e∈ents.take k,errE e=0)∧Ext w6 wr) (fun _ i _=>ents.length - (intOf i).toNat)
   case atStart=>exact ⟨0,Nat.zero_le _,rfl,OEnts.nil _ _,gd (by simp),Ext.refl _⟩
   case round=>
    obtain ⟨k,hk,rfl,hown,herr,hx⟩:=hrel
    have hxw:Ext w wr:=HX5.out.trans hx
    by_cases hlt:k<ents.length
    ·obtain ⟨ad,c',hv,hat⟩:=(HRE.out.ext hxw).at hlt
     injection hv with hv1 hv2 hv3
     subst hv1
     clear hv2 hv3
     have htk:=List.take_succ_eq_append_getElem hlt
     have hbad:=errEs_at ents k hlt herr.out
     have hek:=HES.out _ (List.getElem_mem hlt)
     obtain ⟨e,hee⟩:∃e,ents[k]=e:=⟨_,rfl⟩
     rw[hee] at hat htk hbad hek
     have hks:eokS e:=by obtain ⟨_,h⟩:=hek;exact ⟨by omega,by omega,by omega,by omega⟩
     have HNE:=gd (fun (w':World) (h:Ext w w')=>normEntry_any e w' (hE.ext h) hks)
     have HTK:=gd htk
     have HBD:=gd hbad
     have HXW:=gd hxw
     have HXX:=gd hx
     have HOW:=gd hown
     have hlen:((ents.take k).map collE).length=k:=by rw[List.length_map,List.length_take];omega
     have HBY:Hid ((((ents.take k).map collE).length+1)*72≤140737488355328):=gd (by rw[hlen];omega)
     have HML:Hid (((ents.take k).map collE).length+1≤maxLen):=gd (by rw[hlen];unfold maxLen;omega)
     have hi0':(0:Int)≤(k:Int):=by omega
     have hi1':(k:Int)<(ents.length:Int):=by omega
     have hws:=hx.size
     clear htk hbad hek hks hee hown hlen
     obtain ⟨a0,a1,a2,a3,a4⟩:=hat
     obtain ⟨E,hEr⟩:∃E,errE e=E:=⟨_,rfl⟩
     rw[hEr] at HNE HBD
     have HER2:=gd hEr
     obtain ⟨N,hN⟩:∃N,normE e=N:=⟨_,rfl⟩
     rw[hN] at HNE
     have HNN:=gd hN
     clear hN hEr
     obtain ⟨O,hO⟩:∃O,(ents.take k).map collE=O:=⟨_,rfl⟩
     rw[hO] at HOW HBY HML
     have HO:=gd hO
     clear hO
     obtain ⟨eid,etitle,elink,econtent,eupd⟩:=e
     simp only at a0 a1 a2 a3 a4
     unfold eCells at HNE
     dsimp only at HNE
     by_cases hE0:E=0
     ·subst hE0
      go_wp2_with (first|(go_at_call 77;(have hz:=HNE.out _ (HXW.out.trans ((Ext.refl wr).alloc (.cells #[.string eid,.string etitle,.string elink,.string econtent,.int .i64 eupd] 64))));(with_reducible refine Calls.mono hz ?_);clear hz;rintro e w8 ⟨rfl,hx8⟩;(have hx8':=((Ext.refl wr).alloc (.cells #[.string eid,.string etitle,.string elink,.string econtent,.int .i64 eupd] 64)).trans hx8);(have HO8:=gd (OEnts.ext HOW.out hx8'));(have HX8:=gd (HXX.out.trans hx8'));(have hs8:=hx8'.size))|(at_builtin;refine wpList_append_rsl _ rfl (.tmp 80) (.tmp 82) _ rfl w6.heap.size 64 i1 _ 5 72 Tryz.underlying30 hj0 hy0 hy1 hy2 rfl (by decide) _ _ (flatE O) rfl ((own_ext HO8.out ((Ext.refl _).alloc _)).alloc _) _ 1 (eCells N) rfl (rsl_block (e:=64) (fr:=(0,0)) (cs:=eCells N) (heap2_new _ _ _) rfl (by decide)) (eCells_one _) HML.out HBY.out ?_ ?_;(simp;omega);intro v9 w9 hown9 hg9 hat9;(have hx9:Ext w6 w9:=Ext.app ((HX8.out.alloc _).alloc _) hg9 ((own_ext HO8.out ((Ext.refl _).alloc _)).alloc _) (Nat.le_refl _))))
      go_roundw
      case rel=>
       have hNc:N=collE ⟨eid,etitle,elink,econtent,eupd⟩:=by rw[←HNN.out];unfold normE;rw[if_pos HER2.out]
       have hT:=HTK.out
       have hO:=HO.out
       refine ⟨k+1,hlt,by go_num,?_,gd fun x hx=> ?_,hx9⟩
       ·rw[hT,List.map_append,hO,List.map_cons,List.map_nil,←hNc]
        exact OEnts.snoc hown9
       ·rw[hT] at hx
        rcases List.mem_append.1 hx with hx|hx
        ·exact herr.out x hx
        ·rw[List.mem_singleton.1 hx];exact HER2.out
      case measure=>simp[intOf];omega
     ·have hb:((E:Int) !=0)=true:=by simp;omega
      have he:errF F=E:=HER.out.trans (HBD.out hE0)
      have HN:=gd (HBAD.out _ he hE0)
      have HEE:=gd (HBD.out hE0)
      clear he hE0
      go_wp2_with (first|(go_at_call 77;(have hz:=HNE.out _ (HXW.out.trans ((Ext.refl wr).alloc (.cells #[.string eid,.string etitle,.string elink,.string econtent,.int .i64 eupd] 64))));(with_reducible refine Calls.mono hz ?_);clear hz;rintro e w8 ⟨rfl,hx8⟩;(have hx8':=((Ext.refl wr).alloc (.cells #[.string eid,.string etitle,.string elink,.string econtent,.int .i64 eupd] 64)).trans hx8);(have hz8:=(((HXX.out.trans hx8').alloc (.cells (eCells N).toArray 64))).heap HZ5.out))|(refine wpList_store_row rfl 32 (.tmp 2) (.tmp 78) rfl (w.heap.size+1) _ rfl rfl _ _ hz8 size_fd rfl oneF ?_))
      ((try simp only[Exit.inBlock,Exit.then]);refine bodyPost_ret (results_cell_row2 rfl _ _ _ _ _ _ _ rfl (setRow_heap _ _ _ _ _ _ hz8) Tryz.underlying32 rfl size_fd) rfl ?_)
      exact ⟨zeroC,by rw[HEE.out];rfl,HN.out.symm.trans HNF0.out,zeroC_rd _,fun _ _=>zeroC_away _,((HXW.out.trans hx8').alloc _).setRow (by omega) _⟩
    ·have hke:k=ents.length:=by omega
     subst hke
     rw[List.take_of_length_le (Nat.le_refl _)] at hown herr
     have hes0:errEs ents=0:=errEs_zero.2 herr.out
     have hnf:normF F=collF F:=by unfold normF;rw[if_pos (HER.out.trans hes0)]
     have hcf:collF F=⟨path.map collapse,ci,ct,cl,upd,ordE.canon (ents.map collE)⟩:=by
      rw[←HF.out,←HCI.out,←HCT.out,←HCLK.out]
      rfl
     have HNF:=gd (hnf.trans hcf)
     have HCB:=gd (combine_any _ (ents.map collE) wr (HE5.out.ext hx) hown.reads (fun x hx=>by
      obtain ⟨e,he,rfl⟩:=List.mem_map.1 hx
      exact eok_coll (HES.out e he)) (by rw[List.length_map];exact hel))
     have q0:=hx.cell HB5.out.1
     have HES0:=gd hes0
     have HXX:=gd hx
     have hws:=hx.size
     have hb5:w.heap.size<w6.heap.size:=by omega
     clear hnf hcf hes0 hown herr
     go_wp2_with (first|(go_at_call 78;(have hz:=HCB.out);(with_reducible refine Calls.mono hz ?_);clear hz;rintro e w9 ⟨es',rfl,hown9,hx9⟩;(obtain ⟨zA,zc,hze,_,_⟩:=hown9.reads.form);subst hze;(have hx59:=HXX.out.trans hx9);(have r0:=hx59.cell HB5.out.1);(have r1:=hx59.cell HB5.out.2.1);(have r2:=hx59.cell HB5.out.2.2.1);(have r3:=hx59.cell HB5.out.2.2.2.1);(have r4:=hx59.cell HB5.out.2.2.2.2.1);(have r5:=hx59.cell HB5.out.2.2.2.2.2);(have s5:=(Below.frozen hx59 hb5).trans HF5.out);(have hz9:=hx59.heap HZ5.out);(have HO9:=gd hown9))|(refine wpList_store_row rfl 32 (.tmp 2) (.tmp 88) rfl (w.heap.size+1) _ rfl rfl _ _ ((heap_setCell_other _ _ _ _ (by simp)).trans hz9) size_fd rfl oneF ?_))
     ((try simp only[Exit.inBlock,Exit.then]);refine bodyPost_ret (results_cell_row2 rfl _ _ _ _ _ _ _ rfl (setRow_heap _ _ _ _ _ _ ((heap_setCell_other _ _ _ _ (by simp)).trans hz9)) Tryz.underlying32 rfl size_fd) rfl ?_)
     have hst9:=HST5.out.ext hx59
     have hre9:=HO9.out.reads
     have hlb:=HO9.out.lt
     have haw:∀q,q<w.heap.size+2→awayC ⟨.slice A1 path.length cc1,.slice zA (ordE.canon (ents.map collE)).length zc,⟨path.map collapse,ci,ct,cl,upd,ordE.canon (ents.map collE)⟩⟩ (some q):=by
      intro q hq
      refine ⟨?_,Or.inr fun e=> ?_⟩
      ·rcases Nat.eq_zero_or_pos path.length with h|h
       ·exact Or.inl (by rw[List.eq_nil_of_length_eq_zero h];rfl)
       ·refine Or.inr fun e=> ?_
        have hAA:=HGA.out h
        subst hAA
        injection e with e
        simp only at e
        omega
      ·have:=(hlb q e).1
       omega
     have hrd:RdC w9 ⟨.slice A1 path.length cc1,.slice zA (ordE.canon (ents.map collE)).length zc,⟨path.map collapse,ci,ct,cl,upd,ordE.canon (ents.map collE)⟩⟩:=⟨hst9,hre9⟩
     refine ⟨⟨.slice A1 path.length cc1,.slice zA (ordE.canon (ents.map collE)).length zc,⟨path.map collapse,ci,ct,cl,upd,ordE.canon (ents.map collE)⟩⟩,by rw[HES0.out];rfl,HNF.out.symm.trans HNF0.out,(hrd.grown (setCell_grown _ _ _) (haw _ (by simp))).grown (setRow_grown _ _ _) (haw _ (by simp)),fun q hq=>haw q (by omega),?_⟩
     exact (Ext.setCell (HX5.out.trans hx59) (Nat.le_refl _) _).setRow (by omega) _
  focus
   have he:errF F=19:=by
    rw[HHD.out]
    rw[if_pos (Or.inr HBp.out)]
   have HN:=gd (HBAD.out _ he (by decide))
   have heE:=HEF.out.symm.trans he
   subst heE
   clear he
   go_wp2_with (first|(at_builtin;refine wpList_append_rsl _ rfl (.tmp 30) (.tmp 34) _ rfl W1.heap.size 129 i0 _ 1 8 Tryz.underlying128 hi0 hz0 hz1' hz2 rfl (by decide) _ path.length X rfl (HOW.out.alloc _) _ 3 [.pointer (some ⟨w.heap.size,1,none⟩),.pointer (some ⟨w.heap.size,2,none⟩),.pointer (some ⟨w.heap.size,3,none⟩)] rfl (rsl_new rfl (by decide)) (by intro y hy;simp at hy;rcases hy with rfl|rfl|rfl<;>rfl) HML.out HBY.out ?_ ?_;(simp;omega);intro v3 w3 hown3 hg3 hat3;(have hx3:Ext W1 w3:=Ext.app (HXX.out.alloc _) hg3 (HOW.out.alloc _) (Nat.le_refl _)))|(go_at_call 74;(have hz:=HCO.out _ _ hx3 hown3);(with_reducible refine Calls.mono hz ?_);clear hz;rintro e w5 ⟨rfl,hst5,⟨q0,q1,q2,q3,q4,q5⟩,f5,hxa,hka⟩;(have hx5:Ext w w5:=hxa w (HXW.out.trans hx3) (by omega) (Nat.le_refl _));(have hz5:=hka (w.heap.size+1) _ (by omega) (by omega) (hx3.heap HZ1.out));(have HC:=gd (contains_any (w:=w5) (g:=g) (n:=path.length) (c:=cc1) (A:=A1) (l:=path.map collapse) ⟨#[]⟩ (by simp) (by simpa using HGA.out) hst5 (by simp;omega)));rw[HANY.out] at HC;clear hxa hka)|(go_at_call 75;(have hz:=HC.out);(with_reducible refine Calls.mono hz ?_);clear hz;rintro e w6 ⟨rfl,rfl⟩)|(refine wpList_store_row rfl 32 (.tmp 2) (.tmp 51) rfl (w.heap.size+1) _ rfl rfl _ _ hz5 size_fd rfl oneF ?_))
  rotate_left
  ·have hb:((firstErr (path++ [id,title,link]):Int) !=0)=true:=by simp;omega
   have he:errF F=firstErr (path++ [id,title,link]):=by
    rw[←HF.out]
    unfold errF headF strsF
    rw[if_pos h0,if_neg h0]
   have hn:=HBAD.out _ he h0
   have heE:=HEF.out.symm.trans he
   obtain ⟨E,hEr⟩:∃E,firstErr (path++ [id,title,link])=E:=⟨_,rfl⟩
   have HCB:=gd (fun (w4:World) (v4:Value) hEn hPn=>feedColl_bad (W:=w4) (v:=v4) (g:=g) (b:=w.heap.size) hEn hPn h0)
   rw[hEr] at HCB hb h0 heE
   have HN:=gd hn
   clear hEr he hn h0
   subst heE
   go_wp2_with (first|(at_builtin;refine wpList_append_rsl _ rfl (.tmp 30) (.tmp 34) _ rfl W1.heap.size 129 i0 _ 1 8 Tryz.underlying128 hi0 hz0 hz1' hz2 rfl (by decide) _ path.length X rfl (HOW.out.alloc _) _ 3 [.pointer (some ⟨w.heap.size,1,none⟩),.pointer (some ⟨w.heap.size,2,none⟩),.pointer (some ⟨w.heap.size,3,none⟩)] rfl (rsl_new rfl (by decide)) (by intro y hy;simp at hy;rcases hy with rfl|rfl|rfl<;>rfl) HML.out HBY.out ?_ ?_;(simp;omega);intro v3 w3 hown3 hg3 hat3;(have hx3:Ext W1 w3:=Ext.app (HXX.out.alloc _) hg3 (HOW.out.alloc _) (Nat.le_refl _)))|(go_at_call 74;(have hz:=HCB.out _ _ (HEW.out.ext hx3) (HP.out _ _ hx3 hown3));(with_reducible refine Calls.mono hz ?_);clear hz;rintro e w5 ⟨rfl,hx5⟩;(have hz5:=(hx3.trans hx5).heap HZ1.out))|(refine wpList_store_row rfl 32 (.tmp 2) (.tmp 40) rfl (w.heap.size+1) _ rfl rfl _ _ hz5 size_fd rfl oneF ?_))
   ((try simp only[Exit.inBlock,Exit.then]);refine bodyPost_ret (results_cell_row2 rfl _ _ _ _ _ _ _ rfl (setRow_heap _ _ _ _ _ _ hz5) Tryz.underlying32 rfl size_fd) rfl ?_)
   exact ⟨zeroC,rfl,HN.out.symm.trans HNF0.out,zeroC_rd _,fun _ _=>zeroC_away _,((HXW.out.trans hx3).trans hx5).setRow (by omega) _⟩
  all_goals
   ((try simp only[Exit.inBlock,Exit.then]);refine bodyPost_ret (results_cell_row2 rfl _ _ _ _ _ _ _ rfl (setRow_heap _ _ _ _ _ _ hz5) Tryz.underlying32 rfl size_fd) rfl ?_)
   exact ⟨zeroC,rfl,HN.out.symm.trans HNF0.out,zeroC_rd _,fun _ _=>zeroC_away _,hx5.setRow (by omega) _⟩
end Go.Proofs.YthlnaldahkgjnaaGreatDoor
