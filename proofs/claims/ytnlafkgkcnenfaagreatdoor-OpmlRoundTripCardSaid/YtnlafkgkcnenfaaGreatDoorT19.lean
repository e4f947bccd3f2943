/- Parts of the proof: contracts and plain laws. -/
import Derived.Shelf.SlSortCmp.InsertionK
import Derived.Shelf.SlSortCmp.SiftDownK
import Derived.Shelf.SlSortCmp.HeapSortK
import Derived.Shelf.SlSortCmp.MedianK
import Derived.Shelf.SlSortCmp.PivotK
import Derived.Shelf.SlSortCmp.ReverseRangeK
import Derived.Shelf.SlSortCmp.PartialInsertionK
import Derived.Shelf.SlSortCmp.PartitionEqualK
import Derived.Shelf.SlSortCmp.PartitionK
import Derived.Shelf.SlSortCmp.PdqK
import Derived.Shelf.SlSortCmp.WholeK
import Derived.Test.YtnlafkgkcnenfaaGreatDoorT01
namespace Go.Proofs.YtnlafkgkcnenfaaGreatDoor
open Go.Shelf Tryz
set_option linter.unusedVariables false
set_option linter.unusedSimpArgs false
set_option linter.unusedSimpArgs false
set_option maxRecDepth 100000
set_option maxHeartbeats 16000000
def laysSlF06_f69_ren:Go.Shelf.Ren:=⟨fun|6=>69|15=>116|14=>115|28=>169|29=>170|20=>161|21=>162|22=>163|23=>164|24=>165|25=>166|26=>167|27=>168|46=>203|47=>204|48=>205|49=>206|50=>207|57=>228|n=>n,fun|22=>29|24=>55|25=>78|3=>3|39=>89|0=>0|53=>141|55=>144|4=>4|46=>221|45=>220|50=>163|5=>5|9=>9|66=>252|70=>256|76=>275|77=>148|n=>n,fun|n=>n⟩
theorem laysSlF06_f69:Go.Proofs.SlLaysF0.n6 prog laysSlF06_f69_ren:={
 mixed:=by kernel_rfl
 f6:=⟨f69.name,by decide,func69.trans (ZC some (by kernel_rfl))⟩
 f14:=⟨f115.name,by decide,func115.trans (ZC some (by kernel_rfl))⟩
 f15:=func116.trans (ZC some (by kernel_rfl))
 f20:=⟨f161.name,by decide,func161.trans (ZC some (by kernel_rfl))⟩
 f21:=⟨f162.name,by decide,func162.trans (ZC some (by kernel_rfl))⟩
 f22:=⟨f163.name,by decide,func163.trans (ZC some (by kernel_rfl))⟩
 f23:=⟨f164.name,by decide,func164.trans (ZC some (by kernel_rfl))⟩
 f24:=⟨f165.name,by decide,func165.trans (ZC some (by kernel_rfl))⟩
 f25:=⟨f166.name,by decide,func166.trans (ZC some (by kernel_rfl))⟩
 f26:=⟨f167.name,by decide,func167.trans (ZC some (by kernel_rfl))⟩
 f27:=⟨f168.name,by decide,func168.trans (ZC some (by kernel_rfl))⟩
 f28:=func169.trans (ZC some (by kernel_rfl))
 f29:=func170.trans (ZC some (by kernel_rfl))
 f46:=⟨f203.name,by decide,func203.trans (ZC some (by kernel_rfl))⟩
 f47:=func204.trans (ZC some (by kernel_rfl))
 f48:=func205.trans (ZC some (by kernel_rfl))
 f49:=⟨f206.name,by decide,func206.trans (ZC some (by kernel_rfl))⟩
 f50:=⟨f207.name,by decide,func207.trans (ZC some (by kernel_rfl))⟩
 f57:=⟨f228.name,by decide,func228.trans (ZC some (by kernel_rfl))⟩
 t0:=underlying0
 a0:=isAgg0
 z0:=sizeOf0
 v0:=zeroValue0
 t3:=underlying3
 a3:=isAgg3
 z3:=sizeOf3
 v3:=zeroValue3
 t4:=underlying4
 a4:=isAgg4
 z4:=sizeOf4
 v4:=zeroValue4
 t5:=underlying5
 a5:=isAgg5
 z5:=sizeOf5
 v5:=zeroValue5
 t9:=underlying9
 a9:=isAgg9
 z9:=sizeOf9
 v9:=zeroValue9
 t22:=underlying29
 a22:=isAgg29
 z22:=sizeOf29
 v22:=zeroValue29
 t25:=underlying78
 a25:=isAgg78
 z25:=sizeOf78
 v25:=zeroValue78
 t39:=underlying89
 a39:=isAgg89
 z39:=sizeOf89
 v39:=zeroValue89
 t45:=underlying220
 a45:=isAgg220
 z45:=sizeOf220
 v45:=zeroValue220
 t46:=underlying221
 a46:=isAgg221
 z46:=sizeOf221
 v46:=zeroValue221
 t50:=underlying163
 a50:=isAgg163
 z50:=sizeOf163
 v50:=zeroValue163
 t53:=underlying141
 a53:=isAgg141
 z53:=sizeOf141
 v53:=zeroValue141
 t55:=underlying144
 a55:=isAgg144
 z55:=sizeOf144
 v55:=zeroValue144
 t66:=underlying252
 a66:=isAgg252
 z66:=sizeOf252
 v66:=zeroValue252
 t70:=underlying256
 a70:=isAgg256
 z70:=sizeOf256
 v70:=zeroValue256
 t76:=underlying275
 a76:=isAgg275
 z76:=sizeOf275
 v76:=zeroValue275
 t77:=underlying148
 a77:=isAgg148
 z77:=sizeOf148
 v77:=zeroValue148}
def laysSlF06_f113_ren:Go.Shelf.Ren:=⟨fun|6=>113|15=>116|14=>160|28=>169|29=>170|20=>195|21=>196|22=>197|23=>198|24=>199|25=>200|26=>201|27=>202|46=>225|47=>204|48=>205|49=>226|50=>227|57=>239|n=>n,fun|22=>53|24=>76|25=>130|3=>3|39=>89|0=>0|53=>141|55=>144|4=>4|46=>221|45=>220|50=>163|5=>5|9=>9|66=>252|70=>256|76=>275|77=>148|n=>n,fun|n=>n⟩
theorem laysSlF06_f113:Go.Proofs.SlLaysF0.n6 prog laysSlF06_f113_ren:={
 mixed:=by kernel_rfl
 f6:=⟨f113.name,by decide,func113.trans (ZC some (by kernel_rfl))⟩
 f14:=⟨f160.name,by decide,func160.trans (ZC some (by kernel_rfl))⟩
 f15:=func116.trans (ZC some (by kernel_rfl))
 f20:=⟨f195.name,by decide,func195.trans (ZC some (by kernel_rfl))⟩
 f21:=⟨f196.name,by decide,func196.trans (ZC some (by kernel_rfl))⟩
 f22:=⟨f197.name,by decide,func197.trans (ZC some (by kernel_rfl))⟩
 f23:=⟨f198.name,by decide,func198.trans (ZC some (by kernel_rfl))⟩
 f24:=⟨f199.name,by decide,func199.trans (ZC some (by kernel_rfl))⟩
 f25:=⟨f200.name,by decide,func200.trans (ZC some (by kernel_rfl))⟩
 f26:=⟨f201.name,by decide,func201.trans (ZC some (by kernel_rfl))⟩
 f27:=⟨f202.name,by decide,func202.trans (ZC some (by kernel_rfl))⟩
 f28:=func169.trans (ZC some (by kernel_rfl))
 f29:=func170.trans (ZC some (by kernel_rfl))
 f46:=⟨f225.name,by decide,func225.trans (ZC some (by kernel_rfl))⟩
 f47:=func204.trans (ZC some (by kernel_rfl))
 f48:=func205.trans (ZC some (by kernel_rfl))
 f49:=⟨f226.name,by decide,func226.trans (ZC some (by kernel_rfl))⟩
 f50:=⟨f227.name,by decide,func227.trans (ZC some (by kernel_rfl))⟩
 f57:=⟨f239.name,by decide,func239.trans (ZC some (by kernel_rfl))⟩
 t0:=underlying0
 a0:=isAgg0
 z0:=sizeOf0
 v0:=zeroValue0
 t3:=underlying3
 a3:=isAgg3
 z3:=sizeOf3
 v3:=zeroValue3
 t4:=underlying4
 a4:=isAgg4
 z4:=sizeOf4
 v4:=zeroValue4
 t5:=underlying5
 a5:=isAgg5
 z5:=sizeOf5
 v5:=zeroValue5
 t9:=underlying9
 a9:=isAgg9
 z9:=sizeOf9
 v9:=zeroValue9
 t22:=underlying53
 a22:=isAgg53
 z22:=sizeOf53
 v22:=zeroValue53
 t25:=underlying130
 a25:=isAgg130
 z25:=sizeOf130
 v25:=zeroValue130
 t39:=underlying89
 a39:=isAgg89
 z39:=sizeOf89
 v39:=zeroValue89
 t45:=underlying220
 a45:=isAgg220
 z45:=sizeOf220
 v45:=zeroValue220
 t46:=underlying221
 a46:=isAgg221
 z46:=sizeOf221
 v46:=zeroValue221
 t50:=underlying163
 a50:=isAgg163
 z50:=sizeOf163
 v50:=zeroValue163
 t53:=underlying141
 a53:=isAgg141
 z53:=sizeOf141
 v53:=zeroValue141
 t55:=underlying144
 a55:=isAgg144
 z55:=sizeOf144
 v55:=zeroValue144
 t66:=underlying252
 a66:=isAgg252
 z66:=sizeOf252
 v66:=zeroValue252
 t70:=underlying256
 a70:=isAgg256
 z70:=sizeOf256
 v70:=zeroValue256
 t76:=underlying275
 a76:=isAgg275
 z76:=sizeOf275
 v76:=zeroValue275
 t77:=underlying148
 a77:=isAgg148
 z77:=sizeOf148
 v77:=zeroValue148}
open Go.RowKit Go.Lib Go.Sort in
theorem slices_SortFunc_f69 {α:Type} [Inhabited α] (k:Nat) (K:∀w,(isAgg 55).run prog w= .ok true w) (X:∀w,(Go.sizeOf 55).run prog w= .ok k w) (enc:α->List Value) (V:∀x,(enc x).length=k) (R:∀x,∀v∈enc x,v.oneCell'=true) (H:α->α->Int) (U:SWO (ltOf H)) (g:Nat) (cb:Array Value) (h A cap:Nat) (d:Array α) (w:Wq) (Q:∀args w,(callFunc g args).run prog w= .ok (.enter g args) w) (F:CmpLays prog g cb enc k H h A d.size w) (S:HoldsK enc k w h A d) (D:h<w.heap.size) (J:d.size<4611686018427387904):
 Calls prog 69 #[.slice (some ⟨h,A,none⟩) d.size cap,.func (.func g) #[] cb] w λe w'=>
  e= .returned (.tuple #[])/\∃I n os,PermIn 0 d.size d I/\SortedIn (ltOf H) 0 d.size I/\w'=sortWorldK enc k w h A n I os:=AnyQ.slices_SortFunc laysSlF06_f69 k K X enc V R H U g cb h A cap d w Q F S D J
open Go.RowKit Go.Lib Go.Sort in
theorem slices_SortFunc_f113 {α:Type} [Inhabited α] (k:Nat) (K:∀w,(isAgg 76).run prog w= .ok true w) (X:∀w,(Go.sizeOf 76).run prog w= .ok k w) (enc:α->List Value) (V:∀x,(enc x).length=k) (R:∀x,∀v∈enc x,v.oneCell'=true) (H:α->α->Int) (U:SWO (ltOf H)) (g:Nat) (cb:Array Value) (h A cap:Nat) (d:Array α) (w:Wq) (Q:∀args w,(callFunc g args).run prog w= .ok (.enter g args) w) (F:CmpLays prog g cb enc k H h A d.size w) (S:HoldsK enc k w h A d) (D:h<w.heap.size) (J:d.size<4611686018427387904):
 Calls prog 113 #[.slice (some ⟨h,A,none⟩) d.size cap,.func (.func g) #[] cb] w λe w'=>
  e= .returned (.tuple #[])/\∃I n os,PermIn 0 d.size d I/\SortedIn (ltOf H) 0 d.size I/\w'=sortWorldK enc k w h A n I os:=AnyQ.slices_SortFunc laysSlF06_f113 k K X enc V R H U g cb h A cap d w Q F S D J
end Go.Proofs.YtnlafkgkcnenfaaGreatDoor
