/- Parts of the proof: contracts and plain laws. -/
import Derived.Test.YtnlafkgkcnenfaaGreatDoorU24
import Derived.Test.YtnlafkgkcnenfaaGreatDoorU27
namespace Go.Proofs.YtnlafkgkcnenfaaGreatDoor
open Go Go.RowKit _root_.Go.Proofs.Tryz
set_option linter.unusedVariables false
set_option linter.unusedSimpArgs false
set_option maxRecDepth 100000
set_option maxHeartbeats 16000000
section
variable {w:World}
theorem Zqa {A:Array Value} {t:TypeId} {fr:Nat×Nat} {B C D:Obj} (d:Aft ((((w.alloc (.cells A t fr)).alloc B).alloc C).alloc D)) (i:Nat) (v:Value) (h:A[i]? =some v):d.w.cell? ⟨w.heap.size,i,none⟩=some v:=
 Ext.boxed ((((Ext.refl _).alloc B).alloc C).alloc D|>.trans d.ext) i v h
theorem Zqb {B:Array Value} {t:TypeId} {fr:Nat×Nat} {A C D:Obj} (d:Aft ((((w.alloc A).alloc (.cells B t fr)).alloc C).alloc D)) (i:Nat) (v:Value) (F:B[i]? =some v):d.w.cell? ⟨w.heap.size+1,i,none⟩=some v:=by
 have h:=Ext.boxed (w:=w.alloc A) ((((Ext.refl _).alloc C).alloc D).trans d.ext) i v F
 rwa [Zu] at h
theorem Zrw (w:Wq) (A B C D:Obj):((((w.alloc A).alloc B).alloc C).alloc D).heap[w.heap.size+1+1+1]? =some D:=by
 have h:=Zg (((w.alloc A).alloc B).alloc C) D;simpa only[Zu] using h
theorem gtS (x y:ByteArray):(!(Op.bytesLess x.toList y.toList||x.toList==y.toList))=Op.bytesLess y.toList x.toList:=by
 rw[Y2];constructor
 ·intro h;simp only[Jl,Bool.or_eq_false_iff,Zv] at h;cases hh:Op.bytesLess y.toList x.toList with
  |true=>rfl
  |false=>exact absurd (Zf3 _ _ h.1 hh) h.2
 ·intro h;simp only[Jl,Bool.or_eq_false_iff,Zv];refine ⟨?_,λe=> ?_⟩
  ·cases hh:Op.bytesLess x.toList y.toList with
   |false=>rfl
   |true=>have:=ZbJ _ _ _ h hh;rw[Qd] at this;cases this
  ·rw[e,Qd] at h;cases h
theorem Zs5 (l:List ByteArray):∀u∈l.map Value.string,u.oneCell'=true:=by
 intro u h;obtain ⟨s,_,rfl⟩:=ZU.1 h;rfl
theorem ZrY (a b:Fc) (w:Wq) (ha:fok a.f) (hb:fok b.f) (hs:a.f.path.length<=1000000) (hl:b.f.path.length<=1000000) (hc:RdC w a) (V:RdC w b) (hA:a.f.upd<b.f.upd\/¬a.f.upd<b.f.upd/\(b.f.upd==a.f.upd)=true/\(!(Op.bytesLess (feedKey b.f).toList (feedKey a.f).toList||(feedKey b.f).toList==(feedKey a.f).toList))=true):
 Calls prog 124 #[.agg (cellsC a).toArray,.agg (cellsC b).toArray] w λx w'=>∃p':Value,x= .returned (.agg (fCells p' sN b.f).toArray)/\RStrs w' p' b.f.path/\(∀q,q<w.heap.size->b.f.path= []\/p'.ownBlock≠some q)/\Ext w w':=by
 obtain ⟨i0,hO,h3,h4,h5⟩:=YH ZmV;have hy:=V.1;have hY:=hc.sl;have hZ:=V.sl;have hv:=λ(w':Wq) (h:Ext w w')=>Zqe a.p a.es a.f w' ha hs (hc.1.ext h) hc.sl.2;have hw:=λ(w':Wq) (h:Ext w w')=>Zqe b.p b.es b.f w' hb hl (V.1.ext h) V.sl.2;have hS:b.f.path.length<=1000000:=hl;generalize feedKey a.f=ka at*;generalize feedKey b.f=kb at*;clear ha hb hs hl hc V;obtain ⟨R,hr⟩:∃R,b.f.path=R:=⟨_,rfl⟩;rw[hr] at hy hS|-;obtain ⟨ap,h7,⟨hG,Y,D,H,S,hF⟩⟩:=a;obtain ⟨bp,h8,⟨hI,U,A,F,K,hH⟩⟩:=b;obtain ⟨⟨aA,an,ac,hK⟩,⟨aB,am,ad,hJ⟩⟩:=hY;obtain ⟨⟨bA,bn,bc,hM⟩,⟨bB,bm,bd,hL⟩⟩:=hZ;dsimp only at*;subst hK hJ hM hL;clear hr;unfold cellsC fCells at*;dsimp only at*;rcases hA with h|⟨h,h2,hT⟩;have hd:=YG h
 rotate_left
 have hd:=Yd h
 all_goals
  go_enter func124,ntmps124
  go_wp2
  obtain ⟨W,J⟩:∃W,W=(((w.alloc (.cells #[.slice aA an ac,.string Y,.string D,.string H,nI S,.slice aB am ad] 55)).alloc (.cells #[.slice bA bn bc,.string U,.string A,.string F,nI K,.slice bB bm bd] 55)).alloc (.cells #[sN,eS,eS,eS,nI 0,sN] 55)).alloc (.cells #[.slice aA an ac,.string Y,.string D,.string H,nI S,.slice aB am ad] 55):=⟨_,rfl⟩
  rw[<-J]
  have hn:Ext w W:=by rw[J];exact ((((Ext.refl w).alloc _).alloc _).alloc _).alloc _
  have hV:W.heap.size=w.heap.size+1+1+1+1:=by rw[J];simp only[Zu]
  have hu:∀d:Aft W,d.w.heap[w.heap.size+1+1]? =some (.cells #[sN,eS,eS,eS,nI 0,sN] 55):=by rw[J];exact λd=>(((Ext.refl _).alloc _).trans d.ext).heap (XR w _ _ _)
  have hf:∀d:Aft W,d.w.heap[w.heap.size+1+1+1]? =some (.cells #[.slice aA an ac,.string Y,.string D,.string H,nI S,.slice aB am ad] 55):=by rw[J];exact λd=>d.ext.heap (Zrw w _ _ _ _)
  have hg:=gd (λ(d:Aft W)=>hv d.w (hn.trans d.ext))
  have hh:=gd (λ(d:Aft W)=>hw d.w (hn.trans d.ext))
  have a0:∀d:Aft W,d.w.cell? ⟨w.heap.size,0,none⟩=some (.slice aA an ac):=by rw[J];exact λd=>Zqa d 0 _ rfl
  have a1:∀d:Aft W,d.w.cell? ⟨w.heap.size,1,none⟩=some (.string Y):=by rw[J];exact λd=>Zqa d 1 _ rfl
  have a2:∀d:Aft W,d.w.cell? ⟨w.heap.size,2,none⟩=some (.string D):=by rw[J];exact λd=>Zqa d 2 _ rfl
  have a3:∀d:Aft W,d.w.cell? ⟨w.heap.size,3,none⟩=some (.string H):=by rw[J];exact λd=>Zqa d 3 _ rfl
  have a4:∀d:Aft W,d.w.cell? ⟨w.heap.size,4,none⟩=some (nI S):=by rw[J];exact λd=>Zqa d 4 _ rfl
  have a5:∀d:Aft W,d.w.cell? ⟨w.heap.size,5,none⟩=some (.slice aB am ad):=by rw[J];exact λd=>Zqa d 5 _ rfl
  have b0:∀d:Aft W,d.w.cell? ⟨w.heap.size+1,0,none⟩=some (.slice bA bn bc):=by rw[J];exact λd=>Zqb d 0 _ rfl
  have b1:∀d:Aft W,d.w.cell? ⟨w.heap.size+1,1,none⟩=some (.string U):=by rw[J];exact λd=>Zqb d 1 _ rfl
  have b2:∀d:Aft W,d.w.cell? ⟨w.heap.size+1,2,none⟩=some (.string A):=by rw[J];exact λd=>Zqb d 2 _ rfl
  have b3:∀d:Aft W,d.w.cell? ⟨w.heap.size+1,3,none⟩=some (.string F):=by rw[J];exact λd=>Zqb d 3 _ rfl
  have b4:∀d:Aft W,d.w.cell? ⟨w.heap.size+1,4,none⟩=some (nI K):=by rw[J];exact λd=>Zqb d 4 _ rfl
  have b5:∀d:Aft W,d.w.cell? ⟨w.heap.size+1,5,none⟩=some (.slice bB bm bd):=by rw[J];exact λd=>Zqb d 5 _ rfl
  clear J hv hw
  refine rA ?_
  repeat (first|go_big_quiet_step ((first|(go_at_call 174;with_reducible exact ZE (hg.out _))|(go_at_call 174;with_reducible exact ZE (hh.out _))))|quiet_step ((first|(go_at_call 174;with_reducible exact ZE (hg.out _))|(go_at_call 174;with_reducible exact ZE (hh.out _)))))
  refine Z9 ?_
  rintro _ ⟨Q,rfl⟩
  have hQ:=hu Q
  have ht:=hf Q
  have h1:=hn.trans Q.ext
  have hz:=Q.ext.size
  rw[hV] at hz
  have g0:=b0 Q
  have g1:=b1 Q
  have g2:=b2 Q
  have g3:=b3 Q
  have g4:=b4 Q
  have g5:=b5 Q
  clear a0 a1 a2 a3 a4 a5 b0 b1 b2 b3 b4 b5 hu hf hg hh
  have hC:Hid (0+R.length<=maxLen):=gd (by unfold maxLen;omega)
  have hB:Hid ((0+R.length)*16<=140737488355328):=gd om
  obtain ⟨X,hX⟩:∃X,X=(Q.w.setRow (w.heap.size+1+1+1) #[.slice bA bn bc,.string U,.string A,.string F,nI K,.slice bB bm bd]):=⟨_,rfl⟩
  have ho:Ext w X:=by rw[hX];exact h1.setRow om _
  have h9:w.heap.size+1+1+1+1<=X.heap.size:=by rw[hX];simpa [World.setRow] using hz
  have hP:X.heap[w.heap.size+1+1]? =some (.cells #[sN,eS,eS,eS,nI 0,sN] 55):=by rw[hX];exact (Yf _ _ _ _ om).trans hQ
  have hp:X.heap[w.heap.size+1+1+1]? =some (.cells #[.slice bA bn bc,.string U,.string A,.string F,nI K,.slice bB bm bd] 55):=by rw[hX];exact ZF _ _ _ _ _ _ ht
  have q0:X.cell? ⟨w.heap.size+1+1+1,0,none⟩=some (.slice bA bn bc):=by rw[YO _ _ _ _ _ _ hp];rfl
  have qA:(((Q.w.setRow (w.heap.size+1+1+1) #[.slice bA bn bc,.string U,.string A,.string F,nI K,.slice bB bm bd])).alloc (.cells #[] 9)).cell? ⟨w.heap.size+1+1+1,0,none⟩=some (.slice bA bn bc):=by rw[<-hX];exact ((Ext.refl X).alloc _).cell q0
  have hj:X.heap.size=Q.w.heap.size:=by rw[hX];simp[World.setRow]
  have he:Hid ((X.alloc (.cells #[] 9)).ownsRow Q.w.heap.size 9 1 (.slice (some ⟨Q.w.heap.size,0,none⟩) 0 0) 0 []):=gd (by have h:=Jx (w:=X) (base:=X.heap.size) (e:=9) (size:=1) (n:=0) (cs:= []) (Zc _) rfl (by decide);rwa [hj] at h)
  have hi:=gd hj
  clear hj
  have hD:=gd hy
  have hE:=gd ho
  go_wp2_with (first|(refine Zf rfl 55 (.tmp 5) (.tmp 26) rfl (w.heap.size+1+1+1) _ rfl rfl _ _ ht Jh rfl Zfv ?_)|(at_builtin;(first|rw[<-hX]|skip);have ga:=((Ext.refl X).alloc (.cells #[] 9)).cell q0;refine ZO _ rfl (.tmp 27) (.tmp 29) _ rfl Q.w.heap.size 9 i0 _ 1 16 underlying52 hO h3 h4 h5 rfl (by decide) _ 0 [] rfl he.out _ R.length (R.map Value.string) rfl (hD.out.ext (hE.out.trans ((Ext.refl X).alloc _))) (Zs5 R) hC.out hB.out ?_ ?_;(have hq:=hi.out;rw[Zu];omega);intro v4 w4 I hN h6;(rw[YI,Z7] at I);(obtain ⟨A4,c4,h0,_,_⟩:=(RSl.of_own I).2;subst h0;have hm:Ext X w4:=Ext.app ((Ext.refl X).alloc _) hN he.out (Nat.le_of_eq hi.out);have hk:=hm.heap hp;obtain ⟨r0,r1,r2,r3,r4,r5⟩:=Zo5 hk;have f0:=Z5 hk 0;have f5:=Z5 hk 5;(have hx:=(Z4 (w4.setCell ⟨w.heap.size+1+1+1,0,none⟩ (.slice A4 R.length c4)) ⟨w.heap.size+1+1+1,5,none⟩ (w.heap.size+1+1) sN (by simp)).trans ((Z4 w4 ⟨w.heap.size+1+1+1,0,none⟩ (w.heap.size+1+1) (.slice A4 R.length c4) (by simp)).trans (hm.heap hP)))))|(refine Zf rfl 55 (.tmp 4) (.tmp 33) rfl (w.heap.size+1+1) _ rfl rfl _ _ hx Jh rfl Zfv ?_))
  ((try simp only[Exit.inBlock,Exit.then]);refine ZD (Xe rfl _ _ _ _ _ _ _ rfl (ZF _ _ _ _ _ _ hx) underlying55 rfl Jh) rfl ?_)
  have hR:=I.lt
  have hU:RStrs w4 (.slice A4 R.length c4) R:=by exact RSl.of_own I
  have Z:∀q,q<X.heap.size->R= []\/(Value.slice A4 R.length c4).ownBlock≠some q:=λq hq=>Or.inr λe=>by have:=(hR q e).1;have:=hi.out;omega
  refine ⟨.slice A4 R.length c4,rfl,?_,?_,((Ext.setCell (Ext.setCell (ho.trans hm) (show w.heap.size<=w.heap.size+1+1+1 by omega) _) (show w.heap.size<=w.heap.size+1+1+1 by omega) _).setRow om _)⟩
  ·exact RSl.grown (RSl.grown (RSl.grown hU (Yw _ _ _) ((Z (w.heap.size+1+1+1) om).imp (λe=>by rw[e];rfl) λe=>e)) (Yw _ _ _) ((Z (w.heap.size+1+1+1) om).imp (λe=>by rw[e];rfl) λe=>e)) (Yx _ _ _) ((Z (w.heap.size+1+1) om).imp (λe=>by rw[e];rfl) λe=>e)
  ·exact λq hq=>Z q (by have:=ho.size;omega)
theorem ZrX (a b:Fc) (w:Wq) (ha:fok a.f) (hb:fok b.f) (hi:a.f.path.length<=1000000) (ht:b.f.path.length<=1000000) (S:RdC w a) (Y:RdC w b) (U:¬a.f.upd<b.f.upd/\((b.f.upd==a.f.upd)=true/\(!(Op.bytesLess (feedKey b.f).toList (feedKey a.f).toList||(feedKey b.f).toList==(feedKey a.f).toList))=false\/(b.f.upd==a.f.upd)=false)):
 Calls prog 124 #[.agg (cellsC a).toArray,.agg (cellsC b).toArray] w λx w'=>∃p':Value,x= .returned (.agg (fCells p' sN a.f).toArray)/\RStrs w' p' a.f.path/\(∀q,q<w.heap.size->a.f.path= []\/p'.ownBlock≠some q)/\Ext w w':=by
 obtain ⟨i0,hP,h1,h3,h4⟩:=YH ZmV;have hA:=S.1;have hY:=S.sl;have hZ:=Y.sl;have hw:=λ(w':Wq) (h:Ext w w')=>Zqe a.p a.es a.f w' ha hi (S.1.ext h) S.sl.2;have hx:=λ(w':Wq) (h:Ext w w')=>Zqe b.p b.es b.f w' hb ht (Y.1.ext h) Y.sl.2;have hS:a.f.path.length<=1000000:=hi;generalize feedKey a.f=ka at*;generalize feedKey b.f=kb at*;clear ha hb hi ht S Y;obtain ⟨J,hr⟩:∃J,a.f.path=J:=⟨_,rfl⟩;rw[hr] at hA hS|-;obtain ⟨ap,h6,⟨hH,Q,A,D,I,hG⟩⟩:=a;obtain ⟨bp,h7,⟨hJ,ho,K,R,hc,hI⟩⟩:=b;obtain ⟨⟨aA,an,ac,hL⟩,⟨aB,am,ad,hK⟩⟩:=hY;obtain ⟨⟨bA,bn,bc,hN⟩,⟨bB,bm,bd,hM⟩⟩:=hZ;dsimp only at*;subst hL hK hN hM;clear hr;unfold cellsC fCells at*;dsimp only at*;obtain ⟨h,U⟩:=U;have hd:=Yd h;rcases U with ⟨h2,hT⟩|h2
 all_goals
  go_enter func124,ntmps124
  go_wp2
  obtain ⟨W,H⟩:∃W,W=(((w.alloc (.cells #[.slice aA an ac,.string Q,.string A,.string D,nI I,.slice aB am ad] 55)).alloc (.cells #[.slice bA bn bc,.string ho,.string K,.string R,nI hc,.slice bB bm bd] 55)).alloc (.cells #[sN,eS,eS,eS,nI 0,sN] 55)).alloc (.cells #[.slice aA an ac,.string Q,.string A,.string D,nI I,.slice aB am ad] 55):=⟨_,rfl⟩
  rw[<-H]
  have hm:Ext w W:=by rw[H];exact ((((Ext.refl w).alloc _).alloc _).alloc _).alloc _
  have hV:W.heap.size=w.heap.size+1+1+1+1:=by rw[H];simp only[Zu]
  have hv:∀d:Aft W,d.w.heap[w.heap.size+1+1]? =some (.cells #[sN,eS,eS,eS,nI 0,sN] 55):=by rw[H];exact λd=>(((Ext.refl _).alloc _).trans d.ext).heap (XR w _ _ _)
  have he:∀d:Aft W,d.w.heap[w.heap.size+1+1+1]? =some (.cells #[.slice aA an ac,.string Q,.string A,.string D,nI I,.slice aB am ad] 55):=by rw[H];exact λd=>d.ext.heap (Zrw w _ _ _ _)
  have hf:=gd (λ(d:Aft W)=>hw d.w (hm.trans d.ext))
  have hg:=gd (λ(d:Aft W)=>hx d.w (hm.trans d.ext))
  have a0:∀d:Aft W,d.w.cell? ⟨w.heap.size,0,none⟩=some (.slice aA an ac):=by rw[H];exact λd=>Zqa d 0 _ rfl
  have a1:∀d:Aft W,d.w.cell? ⟨w.heap.size,1,none⟩=some (.string Q):=by rw[H];exact λd=>Zqa d 1 _ rfl
  have a2:∀d:Aft W,d.w.cell? ⟨w.heap.size,2,none⟩=some (.string A):=by rw[H];exact λd=>Zqa d 2 _ rfl
  have a3:∀d:Aft W,d.w.cell? ⟨w.heap.size,3,none⟩=some (.string D):=by rw[H];exact λd=>Zqa d 3 _ rfl
  have a4:∀d:Aft W,d.w.cell? ⟨w.heap.size,4,none⟩=some (nI I):=by rw[H];exact λd=>Zqa d 4 _ rfl
  have a5:∀d:Aft W,d.w.cell? ⟨w.heap.size,5,none⟩=some (.slice aB am ad):=by rw[H];exact λd=>Zqa d 5 _ rfl
  have b0:∀d:Aft W,d.w.cell? ⟨w.heap.size+1,0,none⟩=some (.slice bA bn bc):=by rw[H];exact λd=>Zqb d 0 _ rfl
  have b1:∀d:Aft W,d.w.cell? ⟨w.heap.size+1,1,none⟩=some (.string ho):=by rw[H];exact λd=>Zqb d 1 _ rfl
  have b2:∀d:Aft W,d.w.cell? ⟨w.heap.size+1,2,none⟩=some (.string K):=by rw[H];exact λd=>Zqb d 2 _ rfl
  have b3:∀d:Aft W,d.w.cell? ⟨w.heap.size+1,3,none⟩=some (.string R):=by rw[H];exact λd=>Zqb d 3 _ rfl
  have b4:∀d:Aft W,d.w.cell? ⟨w.heap.size+1,4,none⟩=some (nI hc):=by rw[H];exact λd=>Zqb d 4 _ rfl
  have b5:∀d:Aft W,d.w.cell? ⟨w.heap.size+1,5,none⟩=some (.slice bB bm bd):=by rw[H];exact λd=>Zqb d 5 _ rfl
  clear H hw hx
  refine rA ?_
  repeat (first|go_big_quiet_step ((first|(go_at_call 174;with_reducible exact ZE (hf.out _))|(go_at_call 174;with_reducible exact ZE (hg.out _))))|quiet_step ((first|(go_at_call 174;with_reducible exact ZE (hf.out _))|(go_at_call 174;with_reducible exact ZE (hg.out _)))))
  refine Z9 ?_
  rintro _ ⟨d1,rfl⟩
  have hy:=hv d1
  have hu:=he d1
  have hB:=hm.trans d1.ext
  have hk:=d1.ext.size
  rw[hV] at hk
  clear a0 a1 a2 a3 a4 a5 b0 b1 b2 b3 b4 b5 hv he hf hg
  have hD:Hid (0+J.length<=maxLen):=gd (by unfold maxLen;omega)
  have hC:Hid ((0+J.length)*16<=140737488355328):=gd om
  obtain ⟨X,hX⟩:∃X,d1.w=X:=⟨_,rfl⟩
  rw[hX] at hy hu hB hk|-
  clear hX
  have hn:Ext w X:=by exact hB
  have h8:w.heap.size+1+1+1+1<=X.heap.size:=by exact hk
  have hQ:X.heap[w.heap.size+1+1]? =some (.cells #[sN,eS,eS,eS,nI 0,sN] 55):=by exact hy
  have hp:X.heap[w.heap.size+1+1+1]? =some (.cells #[.slice aA an ac,.string Q,.string A,.string D,nI I,.slice aB am ad] 55):=by exact hu
  have q0:X.cell? ⟨w.heap.size+1+1+1,0,none⟩=some (.slice aA an ac):=by rw[YO _ _ _ _ _ _ hp];rfl
  have qA:((X).alloc (.cells #[] 9)).cell? ⟨w.heap.size+1+1+1,0,none⟩=some (.slice aA an ac):=by exact ((Ext.refl X).alloc _).cell q0
  have hs:X.heap.size=X.heap.size:=by rfl
  have Z:Hid ((X.alloc (.cells #[] 9)).ownsRow X.heap.size 9 1 (.slice (some ⟨X.heap.size,0,none⟩) 0 0) 0 []):=gd (by have h:=Jx (w:=X) (base:=X.heap.size) (e:=9) (size:=1) (n:=0) (cs:= []) (Zc _) rfl (by decide);exact h)
  have hh:=gd hs
  clear hs
  have hE:=gd hA
  have hF:=gd hn
  go_wp2_with (first|(at_builtin;have h9:=((Ext.refl X).alloc (.cells #[] 9)).cell q0;refine ZO _ rfl (.tmp 27) (.tmp 29) _ rfl X.heap.size 9 i0 _ 1 16 underlying52 hP h1 h3 h4 rfl (by decide) _ 0 [] rfl Z.out _ J.length (J.map Value.string) rfl (hE.out.ext (hF.out.trans ((Ext.refl X).alloc _))) (Zs5 J) hD.out hC.out ?_ ?_;(have hq:=hh.out;rw[Zu];omega);intro v4 w4 F hO h5;(rw[YI,Z7] at F);(obtain ⟨A4,c4,h0,_,_⟩:=(RSl.of_own F).2;subst h0;have hl:Ext X w4:=Ext.app ((Ext.refl X).alloc _) hO Z.out (Nat.le_of_eq hh.out);have hj:=hl.heap hp;obtain ⟨r0,r1,r2,r3,r4,r5⟩:=Zo5 hj;have f0:=Z5 hj 0;have f5:=Z5 hj 5;(have hz:=(Z4 (w4.setCell ⟨w.heap.size+1+1+1,0,none⟩ (.slice A4 J.length c4)) ⟨w.heap.size+1+1+1,5,none⟩ (w.heap.size+1+1) sN (by simp)).trans ((Z4 w4 ⟨w.heap.size+1+1+1,0,none⟩ (w.heap.size+1+1) (.slice A4 J.length c4) (by simp)).trans (hl.heap hQ)))))|(refine Zf rfl 55 (.tmp 4) (.tmp 33) rfl (w.heap.size+1+1) _ rfl rfl _ _ hz Jh rfl Zfv ?_))
  ((try simp only[Exit.inBlock,Exit.then]);refine ZD (Xe rfl _ _ _ _ _ _ _ rfl (ZF _ _ _ _ _ _ hz) underlying55 rfl Jh) rfl ?_)
  have hR:=F.lt
  have hU:RStrs w4 (.slice A4 J.length c4) J:=by exact RSl.of_own F
  have V:∀q,q<X.heap.size->J= []\/(Value.slice A4 J.length c4).ownBlock≠some q:=λq hq=>Or.inr λe=>by have:=(hR q e).1;have:=hh.out;omega
  refine ⟨.slice A4 J.length c4,rfl,?_,?_,((Ext.setCell (Ext.setCell (hn.trans hl) (show w.heap.size<=w.heap.size+1+1+1 by omega) _) (show w.heap.size<=w.heap.size+1+1+1 by omega) _).setRow om _)⟩
  ·exact RSl.grown (RSl.grown (RSl.grown hU (Yw _ _ _) ((V (w.heap.size+1+1+1) om).imp (λe=>by rw[e];rfl) λe=>e)) (Yw _ _ _) ((V (w.heap.size+1+1+1) om).imp (λe=>by rw[e];rfl) λe=>e)) (Yx _ _ _) ((V (w.heap.size+1+1) om).imp (λe=>by rw[e];rfl) λe=>e)
  ·exact λq hq=>V q (by have:=hn.size;omega)
theorem Zsm (a b:Fc) (w:Wq) (K:fok a.f) (Q:fok b.f) (F:a.f.path.length<=1000000) (H:b.f.path.length<=1000000) (I:RdC w a) (J:RdC w b):
 Calls prog 124 #[.agg (cellsC a).toArray,.agg (cellsC b).toArray] w λx w'=>∃p':Value,x= .returned (.agg (fCells p' sN (laterF a.f b.f)).toArray)/\RStrs w' p' (laterF a.f b.f).path/\(∀q,q<w.heap.size->(laterF a.f b.f).path= []\/p'.ownBlock≠some q)/\Ext w w':=by
 have A:∀(c:Fc),(if laterB (iCmp a.f.upd b.f.upd) (feedKey a.f) (feedKey b.f) then b.f else a.f)=c.f->∀(x:Ending) (w':Wq),(∃p':Value,x= .returned (.agg (fCells p' sN c.f).toArray)/\RStrs w' p' c.f.path/\(∀q,q<w.heap.size->c.f.path= []\/p'.ownBlock≠some q)/\Ext w w')->∃p':Value,x= .returned (.agg (fCells p' sN (laterF a.f b.f)).toArray)/\RStrs w' p' (laterF a.f b.f).path/\(∀q,q<w.heap.size->(laterF a.f b.f).path= []\/p'.ownBlock≠some q)/\Ext w w':=by intro c hc x w' h;unfold laterF;rw[hc];exact h
 unfold laterB at A;by_cases h:a.f.upd<b.f.upd
 ·have e1:iCmp a.f.upd b.f.upd= -1:=by unfold iCmp;rw[Zi h]
  exact (ZrY a b w K Q F H I J (Or.inl h)).mono (A b (by rw[e1];rfl))
 ·by_cases R:b.f.upd=a.f.upd
  ·have e1:iCmp a.f.upd b.f.upd=0:=(by unfold iCmp;rw[Ze h,Ze om]);have D:(b.f.upd==a.f.upd)=true:=(by rw[R];exact beq_self_eq_true _);have S:∀x y:ByteArray,(!(Op.bytesLess x.toList y.toList||x.toList==y.toList))=Op.bytesLess y.toList x.toList:=gtS;cases hT:(!(Op.bytesLess (feedKey b.f).toList (feedKey a.f).toList||(feedKey b.f).toList==(feedKey a.f).toList)) with
   |true=>exact (ZrY a b w K Q F H I J (Or.inr ⟨h,D,hT⟩)).mono (A b (by rw[S] at hT;rw[e1,hT];rfl))
   |false=>exact (ZrX a b w K Q F H I J ⟨h,Or.inl ⟨D,hT⟩⟩).mono (A a (by rw[S] at hT;rw[e1,hT];rfl))
  ·have e1:iCmp a.f.upd b.f.upd=1:=(by unfold iCmp;rw[Ze h,Zi om]);have D:(b.f.upd==a.f.upd)=false:=(by rw[Zv];exact R);exact (ZrX a b w K Q F H I J ⟨h,Or.inr D⟩).mono (A a (by rw[e1];rfl))
end
section
variable {B k:Nat} {b:World}
theorem ZrJ {c:Wq} {r:Option Nat} {O:Obj} (F:b.grownBy c r) (A:∀q,r=some q->B<=q) (H:k<B) (h:b.heap[k]? =some O):c.heap[k]? =some O:=by
 obtain ⟨_,_,_,_,D⟩:=F;exact (D k (ZP.1 h).1 (λe=>by first|(have:=A k e;omega)|(have:=A k e.symm;omega))).trans h
theorem Ztc (l:List Ent):(flatE l).length=l.length*5:=by
 induction l with
 |nil=>rfl
 |cons x t ih=>
  have e:flatE (x::t)=eCells x++flatE t:=by unfold flatE;simp
  have e5:(eCells x).length=5:=rfl;rw[e,Zb,ih,e5,Zd];omega
theorem Ztw (v:Value) (l:List Fc) (x:Fc) (w:Wq) (hr:RFcs w v l) (gM:∀y∈l,RdC w y) (hx:RdC w x) (hk:∀y∈l,hokF y.f) (fp:hokF x.f) (fn:sumE (l.map Fc.f)+x.f.ents.length<=0) (hn:l.length<=1000000):
 Calls prog 74 #[.agg #[v],.agg (cellsC x).toArray] w λe w'=>∃(v':Value) (lc:List Fc),e= .returned (.agg #[v'])/\lc.map Fc.f=ordF.put (l.map Fc.f) x.f/\OFcs w' w.heap.size v' lc/\(∀y∈lc,RdC w' y)/\(∀q,q<w.heap.size->(∀z∈l,awayC z (some q))->awayC x (some q)->∀z∈lc,awayC z (some q))/\Ext w w':=by
 obtain ⟨i0,hN,hW,hX,hY⟩:=YH Zeh;obtain ⟨A,c,rfl, -, -⟩:=hr.form;obtain ⟨L,hL⟩:∃L,l.map Fc.f=L:=⟨_,rfl⟩;rw[hL] at fn|-;have fT:L.length=l.length:=by rw[<-hL,Zq]
 have HL:=gd hL;have fh:∀y∈L,hokF y:=by rw[<-hL];intro y hy;obtain ⟨z,D,rfl⟩:=ZU.1 hy;exact hk z D
 have h5:=gd (λk=>Zai (L.take k) x.f (λy hy=>fh y (Y4 hy)) fp);have h6:Hid (∀k,(ordF.scan (L.take k) x.f).2.ents.length+(if h:k<L.length then L[k].ents.length else 0)<=0):=gd λk=>by
  have h1:=Zaj (L.take k) x.f;have h2:sumE L=sumE (L.take k)+sumE (L.drop k):=by unfold sumE;rw[<-ZpW,<-ZS,Yz]
  split
  ·rename_i h;have h3:sumE (L.drop k)=L[k].ents.length+sumE (L.drop (k+1)):=(by rw[Zl h,Qn]);omega
  ·omega
 have HR:=gd hr;have gC:=gd gM;have HK:=gd hk;have dc:=hx.sl;obtain ⟨xF,hT⟩:∃xF,x.f=xF:=⟨_,rfl⟩;have HX:=gd hx;have dp:=gd hT;rw[hT] at h5 h6|-;have hu:Hid (RdC w x/\x.f=xF):=gd ⟨hx,hT⟩;obtain ⟨AW,gD⟩:∃AW:Nat->Prop,∀q,AW q↔(∀z∈l,awayC z (some q))/\awayC x (some q):=⟨λq=>(∀z∈l,awayC z (some q))/\awayC x (some q),λq=>Iff.rfl⟩;have fg:∀q,w.heap.size<=q->AW q:=λq hq=>(gD q).2 ⟨λz D=>GX (gM z D) hq,GX hx hq⟩;have hH:=gd gD;have hZ:=gd fg;clear hr gM hk fp fn hL fh hx gD fg;obtain ⟨xp,du,xf⟩:=x;obtain ⟨⟨xA,xn,xc,fF⟩,⟨xB,xm,xd,hV⟩⟩:=dc;dsimp only at fF hV hT;subst fF hV hT;unfold cellsC fCells;dsimp only;go_enter func74,ntmps74;go_wp2;obtain ⟨w0,hF⟩:∃w0,w0=((w.alloc (.cells #[.slice A l.length c] 31)).alloc (.cells #[.slice xA xn xc,.string xf.id,.string xf.title,.string xf.link,nI xf.upd,.slice xB xm xd] 55)).alloc (.cells #[sN] 31):=⟨_,rfl⟩;rw[<-hF];have gA:Ext w w0:=by rw[hF];exact (((Ext.refl _).alloc _).alloc _).alloc _
 have fU:w0.heap[w.heap.size]? =some (.cells #[.slice A l.length c] 31):=by rw[hF];exact (((Ext.refl _).alloc _).alloc _).heap (Zg w _)
 have fV:w0.heap[w.heap.size+1]? =some (.cells (cellsC ⟨.slice xA xn xc,.slice xB xm xd,xf⟩).toArray 55):=by rw[hF];exact ((Ext.refl _).alloc _).heap (YS w _ _)
 have fW:w0.heap[w.heap.size+1+1]? =some (.cells #[sN] 31):=by rw[hF];exact XR w _ _ _
 clear hF;go_loopw [5,6] (λu i wr=>∃(k:Nat) (rest:List Fc) (y:Fc) (uA:Option Addr) (uc:Nat),u= .slice uA rest.length uc/\k<=l.length/\i=nI k/\OFcs wr (w.heap.size+1+1+1) u rest/\Ext w wr/\
  Hid (rest.map Fc.f=(ordF.scan (L.take k) xf).1/\y.f=(ordF.scan (L.take k) xf).2/\(∀z∈rest,z∈l)/\rest.length<=k)/\
  Hid (RdC wr y/\awayC y u.ownBlock/\∀q,AW q->q<w.heap.size+1+1+1->awayC y (some q))/\
  Hid (wr.heap[w.heap.size]? =some (.cells #[.slice A l.length c] 31)/\wr.heap[w.heap.size+1]? =some (.cells (cellsC y).toArray 55)/\wr.heap[w.heap.size+1+1]? =some (.cells #[sN] 31))) (λ_ i _=>l.length - (intOf i).toNat)
 case atStart=>exact ⟨0,[],⟨.slice xA xn xc,.slice xB xm xd,xf⟩,none,0,rfl,Zj _,rfl,OFcs.nil _ _,gA,gd ⟨rfl,rfl,by simp,Zc _⟩,gd ⟨hu.out.1.ext gA,ZbG hu.out.1,λq hq _=>((hH.out q).1 hq).2⟩,gd ⟨fU,fV,fW⟩⟩
 case round=>
  obtain ⟨k,rest,y,uA,uc,rfl,hk,rfl,ht,gg,hrel,hg,hb⟩:=hrel;have fI:=hg.out.1.sl;obtain ⟨yp,dv,I⟩:=y;obtain ⟨⟨yA,yn,yc,fH⟩,⟨yB,ym,yd,fG⟩⟩:=fI;dsimp only at fH fG;subst fH fG;have b1:wr.cell? ⟨w.heap.size,0,none⟩=some (.slice A l.length c):=by rw[YO _ _ _ _ _ _ hb.out.1];rfl
  obtain ⟨y0,y1,y2,y3,y4,y5⟩:=Zo5 (show wr.heap[w.heap.size+1]? =some (.cells #[.slice yA yn yc,.string I.id,.string I.title,.string I.link,nI I.upd,.slice yB ym yd] 55 (0,0)) from hb.out.2.1);have ds:w.heap.size+1+1+1<=wr.heap.size:=(ZP.1 hb.out.2.2).1;by_cases ha:k<l.length
  ·obtain ⟨ad,c1,e1,fl⟩:=(HR.out.ext gg).at ha;injection e1 with e1 e1' e1'';subst e1;clear e1' e1'';have gr:k<L.length:=(by rw[fT];exact ha);have Y:=ZrF ordF (L.take k) xf L[k];rw[<-Zr gr] at Y;have gF:L[k]=l[k].f:=(by have h:=HL.out;subst h;rw[Xn]);have gc:=h6.out k;rw[dif_pos gr,gF] at gc;rw[gF] at Y;have X:=ZL ha;have ge:=gC.out _ X;have gf:=HK.out _ X;have hm:=h5.out k;have hp:(ordF.scan (L.take k) xf).2.id=xf.id:=ZqS ordF (L.take k) xf;rw[<-hrel.out.2.1] at gc hm hp;obtain ⟨s,hs⟩:∃s,l[k]=s:=⟨_,rfl⟩;rw[hs] at fl Y X ge gf gc;have fB:=ge.sl;obtain ⟨sp,dt,F⟩:=s;obtain ⟨⟨sA,sn,sc,fA⟩,⟨sB,sm,sd,fz⟩⟩:=fB;dsimp only at fA fz;subst fA fz;obtain ⟨a0,a1,a2,a3,a4,a5⟩:=fl;dsimp only at a0 a1 a2 a3 a4 a5 gf hm gc hp Y;have g8:=gd Y;have gl:=gd X;have fR:=gd ge;have h7:=gd hm;have fc:=gd gf;have hB:=gd ht;have he:=gd gg;have gk:=gd hp;have fo:(0:Int)<=(k:Int):=om;have fY:(k:Int)<(l.length:Int):=om;have fx:=hrel.out.2.2.2;clear hs Y X ge hm gf ht gF hp;have hd:Ext wr (wr.alloc (.cells #[.slice sA sn sc,.string F.id,.string F.title,.string F.link,nI F.upd,.slice sB sm sd] 55)):=(Ext.refl _).alloc _;have z0:=hd.cell y0;have z1:=hd.cell y1;have z2:=hd.cell y2;have z3:=hd.cell y3;have z4:=hd.cell y4;have z5:=hd.cell y5;clear y0 y1 y2 y3 y4 y5;cases hid:(F.id.toList==I.id.toList) with
   |false=>
    have ho:¬ordF.id F=ordF.id xf:=(by intro e';have e2:F.id=I.id:=(show F.id=xf.id from e').trans gk.out.symm;rw[e2] at hid;simp at hid);have hA:Hid (rest.length+1<=maxLen):=gd (by unfold maxLen;omega);have hw:Hid ((rest.length+1)*104<=140737488355328):=gd om;have gm:Hid (((wr.alloc (.cells #[.slice sA sn sc,.string F.id,.string F.title,.string F.link,nI F.upd,.slice sB sm sd] 55)).alloc (.cells #[.slice sA sn sc,.string F.id,.string F.title,.string F.link,nI F.upd,.slice sB sm sd] 55)).ownsRow (w.heap.size+1+1+1) 55 6 (.slice uA rest.length uc) rest.length (flatC rest)):=gd (Ya hB.out (((Ext.refl _).alloc _).alloc _))
    go_wp2_with (first|(at_builtin;refine ZO _ rfl (.tmp 30) (.tmp 32) _ rfl (w.heap.size+1+1+1) 55 i0 _ 6 104 underlying29 hN hW hX hY rfl (by decide) _ rest.length (flatC rest) rfl gm.out _ 1 (cellsC ⟨.slice sA sn sc,.slice sB sm sd,F⟩) rfl (Jb (e:=55) (fr:=(0,0)) (YS _ _ _) rfl (by decide)) (Jv (x:=⟨.slice sA sn sc,.slice sB sm sd,F⟩) ⟨⟨_,_,_,rfl⟩,⟨_,_,_,rfl⟩⟩) hA.out hw.out ?_ ?_;(simp only[Zu];omega);intro u5 w5 hS hM fk;obtain ⟨di,dj,dd, -, -⟩:=(RSl.of_own hS).2;subst dd))
    have hG:Ext wr ((wr.alloc (.cells #[.slice sA sn sc,.string F.id,.string F.title,.string F.link,nI F.upd,.slice sB sm sd] 55)).alloc (.cells #[.slice sA sn sc,.string F.id,.string F.title,.string F.link,nI F.upd,.slice sB sm sd] 55)):=((Ext.refl _).alloc _).alloc _;have hE:=hB.out.lt;go_roundw
    case rel=>
     have Y:=g8.out;rw[Ze ho] at Y;refine ⟨k+1,rest++ [⟨.slice sA sn sc,.slice sB sm sd,F⟩],⟨.slice yA yn yc,.slice yB ym yd,I⟩,di,dj,by rw[Zb];rfl,ha,by go_num,OFcs.snoc hS,Ext.app (he.out.trans hG) hM gm.out om,gd ⟨?_,?_,?_,?_⟩,gd ⟨?_,?_,hg.out.2.2⟩,gd ⟨?_,?_,?_⟩⟩
     ·rw[Y,ZS,hrel.out.1];rfl
     ·rw[Y];exact hrel.out.2.1
     ·intro z D;rcases Zs.1 D with D|D
      ·exact hrel.out.2.2.1 z D
      ·rw[Zo.1 D];exact gl.out
     ·rw[Zb];exact Nat.succ_le_succ fx
     ·exact (hg.out.1.ext hG).grown hM hg.out.2.1
     ·rcases fk with e|e
      ·rw[e];exact hg.out.2.1
      ·rw[e];exact GX (hg.out.1.ext hG) (Zc _)
     ·exact ZrJ hM (λq hq=>(hE q hq).1) om (hG.heap hb.out.1)
     ·exact ZrJ hM (λq hq=>(hE q hq).1) om (hG.heap hb.out.2.1)
     ·exact ZrJ hM (λq hq=>(hE q hq).1) om (hG.heap hb.out.2.2)
    case measure=>simp[intOf];omega
   |true=>
    have ho:ordF.id F=ordF.id xf:=(by have e2:F.id=I.id:=toList_inj (by simpa using hid);exact e2.trans gk.out);have gV:=gd ho;clear ho;have fi:wr.heap.size<(wr.alloc (.cells #[.slice sA sn sc,.string F.id,.string F.title,.string F.link,nI F.upd,.slice sB sm sd] 55)).heap.size:=(by rw[Zu];omega);have hK:=Zg wr (.cells #[.slice sA sn sc,.string F.id,.string F.title,.string F.link,nI F.upd,.slice sB sm sd] 55);go_wp2;obtain ⟨wP,de⟩:∃wP:Wq,wP=wr:=⟨_,rfl⟩;subst de;obtain ⟨W1,gn⟩:∃W1,wP.alloc (.cells #[.slice sA sn sc,.string F.id,.string F.title,.string F.link,nI F.upd,.slice sB sm sd] 55)=W1:=⟨_,rfl⟩;rw[gn] at hd z0 z1 z2 z3 z4 z5 fi hK|-;clear gn;have gG:=hg.out.1.ext hd;obtain ⟨B',d',e1, -, -⟩:=gG.2.form;dsimp only at e1;injection e1 with e1 e2 e3;subst e1 e2 e3;have hC:=gd gG;have hJ:=gd hd;have gN:RdC W1 ⟨.slice sA sn sc,.slice sB sm sd,F⟩:=(fR.out.ext he.out).ext hd;obtain ⟨B',d',e1, -, -⟩:=gN.2.form;dsimp only at e1;injection e1 with e1 e2 e3;subst e1 e2 e3;have g9:=gd gN;have fb:=gd hK;have HZ:=gd (V7 z0 (V7 z1 (V7 z2 (V7 z3 (V7 z4 z5)))));have hl:Hid (∀q,AW q->flatE F.ents= []\/(Value.slice sB F.ents.length sd).ownBlock≠some q):=gd λq hq=>(by have:=(((hH.out q).1 hq).1 _ gl.out).2;exact this.imp (λe=>by show flatE F.ents= [];rw[show F.ents= [] from e];rfl) λe=>e);clear gG gN z0 z1 z2 z3 z4 z5 a0 a1 a2 a3 a4 a5 b1 hK;go_loopw [8,9] (λu' i wq=>∃(j:Nat) (A':Option Addr) (c':Nat),j<=I.ents.length/\i=nI j/\u'= .slice A' ((I.ents.take j).foldl ordE.put F.ents).length c'/\REnts wq u' ((I.ents.take j).foldl ordE.put F.ents)/\
     Hid (∀q,AW q->q<W1.heap.size->flatE ((I.ents.take j).foldl ordE.put F.ents)= []\/u'.ownBlock≠some q)/\Ext W1 wq) (λ_ i _=>I.ents.length - (intOf i).toNat)
    case atStart=>exact ⟨0,sB,sd,Zj _,rfl,rfl,g9.out.2,gd λq h1 _=>hl.out q h1,Ext.refl _⟩
    case round=>
     obtain ⟨j,A',c',hj,rfl,rfl,gb,h9,V⟩:=hrel;have v5:=V.cell HZ.out.2.2.2.2.2;have gq:((I.ents.take j).foldl ordE.put F.ents).length<=F.ents.length+I.ents.length:=(by have h1:=QF ordE (I.ents.take j) F.ents;rw[ZM] at h1;omega);by_cases f7:j<I.ents.length
     ·exact absurd f7 (by have h:=h6.out k;rw[<-hrel.out.2.1] at h;omega)
     ·have fZ:j=I.ents.length:=om;subst fZ;have fC:I.ents.take I.ents.length=I.ents:=ZQ (Zc _);rw[fC] at gb h9 gq|-;obtain ⟨O,hO⟩:∃O,I.ents.foldl ordE.put F.ents=O:=⟨_,rfl⟩;rw[hO] at gb h9 gq|-;have HO:=gd hO;have fQ:=gd gb;have hH:=gd h9.out;have hI:=gd (Zsm ⟨.slice sA sn sc,.slice sB F.ents.length sd,F⟩ ⟨.slice yA yn yc,.slice yB I.ents.length yd,I⟩ wr fc.out.1.1 h7.out.1.1 fc.out.1.2 h7.out.1.2 (g9.out.ext V) (hC.out.ext V));dsimp only at hI;unfold cellsC fCells at hI;dsimp only at hI;obtain ⟨K,gE⟩:∃K,laterF F I=K:=⟨_,rfl⟩;rw[gE] at hI;have fP:=gd gE;obtain ⟨s0,s1,s2,s3,s4,s5⟩:=Zo5 (V.heap fb.out);obtain ⟨v0,v1,v2,v3,v4, -⟩:=V7 (V.cell HZ.out.1) (V7 (V.cell HZ.out.2.1) (V7 (V.cell HZ.out.2.2.1) (V7 (V.cell HZ.out.2.2.2.1) (V7 (V.cell HZ.out.2.2.2.2.1) trivial))));have g1:=(hJ.out.trans V).heap hb.out.1;have g2:=(hJ.out.trans V).heap hb.out.2.1;have g3:=(hJ.out.trans V).heap hb.out.2.2;have G1:=gd g1;have G3:=gd g3;have hws:W1.heap.size<=wr.heap.size:=V.size;have fS:=gd V;clear gE hO gb h9 fC V g1 g3
      go_wp2_with (first|(go_at_call 124;have D:=hI.out;refine Za D ?_;clear D;rintro e' wL ⟨p',rfl,fv,f9,hU⟩;obtain ⟨pA,pc,da, -, -⟩:=fv.form;subst da;have ff:=hU.heap g2)|(refine Zf rfl 55 (.tmp 3) (.tmp 52) rfl (w.heap.size+1) _ rfl rfl _ _ ff Jh rfl Zfv ?_;have gL:=ZF wL (w.heap.size+1) _ #[.slice pA K.path.length pc,.string K.id,.string K.title,.string K.link,nI K.upd,sN] _ _ ff;obtain ⟨-, -, -, -, -,t5⟩:=Zo5 gL;have tf:=Z5 gL 5))
      go_roundw
      case rel=>
       have Y:=g8.out;rw[Zi gV.out] at Y;have hE:=hB.out.lt;have f6:(⟨K.path,K.id,K.title,K.link,K.upd,O⟩:Fd)=joinF F I:=(by rw[<-fP.out,<-HO.out];rfl);have hV:=(hJ.out.trans fS.out).trans hU;have fu:∀q,q<W1.heap.size->K.path= []\/(Value.slice pA K.path.length pc).ownBlock≠some q:=λq hq=>f9 q om;have h8:∀q,AW q->q<W1.heap.size->awayC ⟨.slice pA K.path.length pc,.slice A' O.length c',⟨K.path,K.id,K.title,K.link,K.upd,O⟩⟩ (some q):=λq h1 h2=>⟨fu q h2,(hH.out q h1 h2).imp (λe=>by
        have h3:(flatE O).length=0:=(by rw[show flatE O= [] from e];rfl);rw[Ztc] at h3;exact Zm (show O.length=0 by omega)) λe=>e⟩
       have fw:RdC wL ⟨.slice pA K.path.length pc,.slice A' O.length c',⟨K.path,K.id,K.title,K.link,K.upd,O⟩⟩:=⟨fv,fQ.out.ext hU⟩;have fy:w.heap.size+1<W1.heap.size:=om;have gy:=(fw.grown (Yx wL (w.heap.size+1) #[.slice pA K.path.length pc,.string K.id,.string K.title,.string K.link,nI K.upd,sN]) (h8 (w.heap.size+1) (hZ.out _ om) fy)).grown (Yw _ ⟨w.heap.size+1,5,none⟩ (.slice A' O.length c')) (h8 (w.heap.size+1) (hZ.out _ om) fy);refine ⟨k+1,rest,⟨.slice pA K.path.length pc,.slice A' O.length c',⟨K.path,K.id,K.title,K.link,K.upd,O⟩⟩,uA,uc,rfl,ha,by go_num,?_,?_,gd ⟨?_,?_,hrel.out.2.2.1,Nat.le_succ_of_le fx⟩,gd ⟨gy,?_,λq h1 h2=>h8 q h1 om⟩,gd ⟨?_,?_,?_⟩⟩
       ·exact Zp2 (Jk (Ya hB.out hV) om _) (a:=⟨w.heap.size+1,5,none⟩) (by show w.heap.size+1<_;omega) _
       ·exact Ext.setCell (Ext.setRow (he.out.trans hV) om _) (by show w.heap.size<=w.heap.size+1;omega) _
       ·rw[Y];exact hrel.out.1
       ·rw[Y,f6];show joinF F I=joinF F (ordF.scan (L.take k) xf).2;rw[<-hrel.out.2.1]
       ·exact ZdF gy λq hq=>h8 q (hZ.out q (by have:=(hE q hq).1;omega)) (by have:=(hE q hq).2;have:=hJ.out.size;omega)
       ·exact (Z4 _ ⟨w.heap.size+1,5,none⟩ w.heap.size _ (by simp)).trans ((Yf _ _ _ _ om).trans (hU.heap G1.out))
       ·exact Go.heap_setCell_same _ _ _ _ _ _ gL
       ·exact (Z4 _ ⟨w.heap.size+1,5,none⟩ (w.heap.size+1+1) _ (by simp)).trans ((Yf _ _ _ _ om).trans (hU.heap G3.out))
      case measure=>simp[intOf];omega
  ·have gK:k=l.length:=om;subst gK;have gO:L.take l.length=L:=ZQ om;have hf:=hrel.out;rw[gO] at hf;have gx:ordF.put L xf=ordF.ins (rest.map Fc.f) I:=(by unfold Ord.put;rw[hf.1,<-hf.2.1]);have HP:=gd gx;have dr:rest.length<=1000000:=(by have:=hf.2.2.2;omega);have hm:=h5.out l.length;rw[gO,<-hf.2.1] at hm;have h7:=gd hm;have gw:∀z∈rest,RdC w z:=λz D=>gC.out z (hf.2.2.1 z D);have gu:∀z∈rest,hokF z.f:=λz D=>HK.out z (hf.2.2.1 z D);have hl:=gd gw;have gW:=gd hf.2.2.1;have gY:=gd gu;have g6:=gd ht;have hC:=gd hg.out;have gR:=gd hb.out;have he:=gd gg;obtain ⟨wo,df⟩:∃wo:Wq,wo=wr:=⟨_,rfl⟩;subst df;have fe:=gd (V7 y0 (V7 y1 (V7 y2 (V7 y3 (V7 y4 y5)))));clear gO hf gx hm gw gu ht hg hb gg hrel y0 y1 y2 y3 y4 y5 h5 h6 HR gC HK ha hk;go_wp2;clear b1;go_loopw [10,11,12] (λo dn i w2=>∃(k:Nat) (done:Bool) (out:List Fc) (oA:Option Addr) (oc:Nat),o= .slice oA out.length oc/\k<=rest.length/\i=nI k/\dn= .bool done/\OFcs w2 wo.heap.size o out/\Ext wo w2/\out.length<=k+1/\
    Hid ((done=false->out=rest.take k/\∀x∈rest.take k,ordF.lt I x.f=false)/\(done=true->out.map Fc.f++(rest.drop k).map Fc.f=ordF.ins (rest.map Fc.f) I)/\∀z∈out,z∈rest\/z=(⟨.slice yA yn yc,.slice yB ym yd,I⟩:Fc))) (λ_ _ i _=>rest.length - (intOf i).toNat)
   case atStart=>exact ⟨0,false,[],none,0,rfl,Zj _,rfl,rfl,OFcs.nil _ _,Ext.refl _,by simp,gd ⟨λ_=>⟨rfl,by simp⟩,λh=>(by cases h),by simp⟩⟩
   case round=>
    obtain ⟨k,done,out,oA,oc,rfl,hk,rfl,rfl,hc,H,ft,U⟩:=hrel;by_cases ha:k<rest.length
    ·obtain ⟨ad,c',hv,fj⟩:=(OFcs.reads g6.out).at ha;injection hv with hv1 hv2 hv3;subst hv1;clear hv2 hv3;have gP:=Zr ha;have gJ:=Zl ha;have gt:k<(rest.map Fc.f).length:=(by rw[Zq];exact ha);have ga:=Ztd ordF (rest.map Fc.f) I k gt;rw[Xn] at ga;have hP:=ZL ha;obtain ⟨z,D⟩:∃z,rest[k]=z:=⟨_,rfl⟩;rw[D] at fj gP gJ ga hP;have gQ:=(hl.out z hP).ext he.out;have dh:=gY.out z hP;have fM:=gQ.sl;have fa:=gd gP;have gT:=gd gJ;have gU:=gd ga;have gB:=gd hP;have hh:=gd (λd:Aft wr=>ZhE (.slice yA yn yc) z.p (.slice yB ym yd) z.es I z.f d.w (hC.out.1.1.ext (H.trans d.ext)) (gQ.1.ext (H.trans d.ext)) (by have:=h7.out.1.2;omega));have gs:ordF.lt I z.f=decide (feedCmp I z.f<0):=rfl;have h0:=gd gs;obtain ⟨cc,fm⟩:∃cc,feedCmp I z.f=cc:=⟨_,rfl⟩;simp only[fm] at hh h0;clear gP gJ ga gs D hP gt gQ dh fm;obtain ⟨zp,dw,zf⟩:=z;obtain ⟨⟨zA,zn,zc,fL⟩,⟨zB,zm,zd,fK⟩⟩:=fM;dsimp only at fL fK;subst fL fK;have fo:(0:Int)<=(k:Int):=om;have fY:(k:Int)<(rest.length:Int):=om;obtain ⟨a0,a1,a2,a3,a4,a5⟩:=fj;obtain ⟨b0,b1,b2,b3,b4,b5⟩:=fe.out
     try dsimp only at a0 a1 a2 a3 a4 a5 hh h0 gU
     unfold fCells at hh;have hw:Hid ((out.length+1)*104<=140737488355328):=gd om;have gS:Hid ((out.length+1+1)*104<=140737488355328):=gd om;have gX:Hid (out.length+1+1<=maxLen):=gd (by unfold maxLen;omega);have hA:Hid (out.length+1<=maxLen):=gd (by unfold maxLen;omega);have gZ:=gd ft;have hi:=gd U.out.2.2;clear ft;have f0:=λd:Aft wr=>(H.trans d.ext).cell a0;have f1:=λd:Aft wr=>(H.trans d.ext).cell a1;have f2:=λd:Aft wr=>(H.trans d.ext).cell a2;have f3:=λd:Aft wr=>(H.trans d.ext).cell a3;have f4:=λd:Aft wr=>(H.trans d.ext).cell a4;have f5:=λd:Aft wr=>(H.trans d.ext).cell a5;have g0:=λd:Aft wr=>(H.trans d.ext).cell b0;have g1:=λd:Aft wr=>(H.trans d.ext).cell b1;have g2:=λd:Aft wr=>(H.trans d.ext).cell b2;have g3:=λd:Aft wr=>(H.trans d.ext).cell b3;have g4:=λd:Aft wr=>(H.trans d.ext).cell b4;have g5:=λd:Aft wr=>(H.trans d.ext).cell b5;have fD:(done=false/\cc<0)\/(done=false/\¬cc<0)\/done=true:=(by cases done<;>by_cases h:cc<0<;>simp[h]);rcases fD with ⟨rfl,gI⟩|⟨rfl,gI⟩|rfl;have HI:=gd (U.out.1 rfl);have gH:=YG gI
     rotate_left
     have HI:=gd (U.out.1 rfl);have gH:=Yd gI
     rotate_left
     have HI:=gd (U.out.2.1 rfl)
     rotate_left
     all_goals
      clear U
      go_wp2
      refine rA ?_
      repeat (first|go_big_quiet_step ((go_at_call 41;with_reducible exact ZE (hh.out _)))|quiet_step ((go_at_call 41;with_reducible exact ZE (hh.out _))))
      refine Z9 ?_
      rintro _ ⟨d1,rfl⟩
      have R:=H.trans d1.ext
      have Z:=hc.ext d1.ext
      clear f0 f1 f2 f3 f4 f5 g0 g1 g2 g3 g4 g5
      have p0:=R.cell a0
      have p1:=R.cell a1
      have p2:=R.cell a2
      have p3:=R.cell a3
      have p4:=R.cell a4
      have p5:=R.cell a5
      have r0:=R.cell b0
      have r1:=R.cell b1
      have r2:=R.cell b2
      have r3:=R.cell b3
      have r4:=R.cell b4
      have r5:=R.cell b5
      have dl:=R.size
      unfold OFcs at Z
      go_wp2_with (first|(at_builtin;refine ZO _ rfl (.tmp 72) (.tmp 74) _ rfl wo.heap.size 55 i0 _ 6 104 underlying29 hN hW hX hY rfl (by decide) _ out.length (flatC out) rfl (Ya Z ((Ext.refl _).alloc _)) _ 1 (cellsC (⟨.slice yA yn yc,.slice yB ym yd,I⟩:Fc)) rfl (Yo rfl (by decide)) (Jv (x:=(⟨.slice yA yn yc,.slice yB ym yd,I⟩:Fc)) ⟨⟨_,_,_,rfl⟩,⟨_,_,_,rfl⟩⟩) hA.out hw.out ?_ ?_;(rw[Zu];omega);intro v3 w3 J hD go;have S:Ext wo w3:=Ext.app (R.alloc _) hD (Ya Z ((Ext.refl _).alloc _)) (Zc _);have s0:=S.cell a0;have s1:=S.cell a1;have s2:=S.cell a2;have s3:=S.cell a3;have s4:=S.cell a4;have s5:=S.cell a5;have dm:=S.size;obtain ⟨gi,gj,hQ, -, -⟩:=(RSl.of_own J).2;subst hQ)|(at_builtin;refine ZO _ rfl (.tmp 76) (.tmp 81) _ rfl wo.heap.size 55 i0 _ 6 104 underlying29 hN hW hX hY rfl (by decide) _ (out.length+1) (flatC out++cellsC (⟨.slice yA yn yc,.slice yB ym yd,I⟩:Fc)) rfl (Ya J ((Ext.refl _).alloc _)) _ 1 (cellsC (⟨.slice zA zn zc,.slice zB zm zd,zf⟩:Fc)) rfl (Yo rfl (by decide)) (Jv (x:=(⟨.slice zA zn zc,.slice zB zm zd,zf⟩:Fc)) ⟨⟨_,_,_,rfl⟩,⟨_,_,_,rfl⟩⟩) gX.out gS.out ?_ ?_;(rw[Zu];omega);intro v4 w4 hR fX dk;have dg:Ext wo w4:=Ext.app (S.alloc _) fX (Ya J ((Ext.refl _).alloc _)) (Zc _);obtain ⟨fN,fO,f8, -, -⟩:=(RSl.of_own hR).2;subst f8)|(at_builtin;refine ZO _ rfl (.tmp 76) (.tmp 81) _ rfl wo.heap.size 55 i0 _ 6 104 underlying29 hN hW hX hY rfl (by decide) _ out.length (flatC out) rfl (Ya Z ((Ext.refl _).alloc _)) _ 1 (cellsC (⟨.slice zA zn zc,.slice zB zm zd,zf⟩:Fc)) rfl (Yo rfl (by decide)) (Jv (x:=(⟨.slice zA zn zc,.slice zB zm zd,zf⟩:Fc)) ⟨⟨_,_,_,rfl⟩,⟨_,_,_,rfl⟩⟩) hA.out hw.out ?_ ?_;(rw[Zu];omega);intro v3 w3 J hD go;obtain ⟨gi,gj,hQ, -, -⟩:=(RSl.of_own J).2;subst hQ))
     ·go_roundw
      case rel=>
       have e1:w4.ownsRow wo.heap.size 55 6 (.slice fN (out.length+1+1) fO) ((out++([(⟨.slice yA yn yc,.slice yB ym yd,I⟩:Fc)]:List Fc)).length+1) (flatC (out++([(⟨.slice yA yn yc,.slice yB ym yd,I⟩:Fc)]:List Fc))++cellsC (⟨.slice zA zn zc,.slice zB zm zd,zf⟩:Fc)):=(by rw[Zb,Zd1,ZkK];exact hR);refine ⟨k+1,true,(out++ [(⟨.slice yA yn yc,.slice yB ym yd,I⟩:Fc)])++ [(⟨.slice zA zn zc,.slice zB zm zd,zf⟩:Fc)],fN,fO,by simp only[Zb];rfl,om,by go_num,rfl,OFcs.snoc e1,dg,?_,gd ⟨(λh=>by cases h),λ_=> ?_,λz D=> ?_⟩⟩
       ·have h1:=HI.out.1;rw[h1];simp;omega
       ·have h1:=HI.out;have h2:=gU.out (λx hx=>by
         rw[<-List.map_take] at hx;obtain ⟨q,hq,rfl⟩:=ZU.1 hx;exact h1.2 q hq) (by rw[h0.out];exact gH)
        rw[h2,<-List.map_take,<-List.map_drop,gT.out,<-h1.1];simp
       ·rcases Zs.1 D with D|D
        ·rcases Zs.1 D with D|D
         ·exact hi.out z D
         ·rw[Zo.1 D];exact Or.inr rfl
        ·rw[Zo.1 D];exact Or.inl gB.out
      case measure=>simp[intOf];omega
     ·have S:Ext wo w3:=Ext.app (R.alloc _) hD (Ya Z ((Ext.refl _).alloc _)) (Zc _);go_roundw
      case rel=>
       refine ⟨k+1,false,out++ [(⟨.slice zA zn zc,.slice zB zm zd,zf⟩:Fc)],gi,gj,by rw[Zb];rfl,om,by go_num,rfl,OFcs.snoc J,S,by have:=gZ.out;simp;omega,gd ⟨λ_=>⟨by rw[fa.out,HI.out.1],?_⟩,(λh=>by cases h),λz D=> ?_⟩⟩
       ·intro y hy;rw[fa.out] at hy;rcases Zs.1 hy with hy|hy
        ·exact HI.out.2 y hy
        ·rw[Zo.1 hy,h0.out];exact gH
       ·rcases Zs.1 D with D|D
        ·exact hi.out z D
        ·rw[Zo.1 D];exact Or.inl gB.out
      case measure=>simp[intOf];omega
     ·have S:Ext wo w3:=Ext.app (R.alloc _) hD (Ya Z ((Ext.refl _).alloc _)) (Zc _);go_roundw
      case rel=>exact ⟨k+1,true,out++ [(⟨.slice zA zn zc,.slice zB zm zd,zf⟩:Fc)],gi,gj,by rw[Zb];rfl,om,by go_num,rfl,OFcs.snoc J,S,by have:=gZ.out;simp;omega,gd ⟨(λh=>by cases h),λ_=>by
       have h:=HI.out;rw[gT.out,Zw] at h;rw[ZS,Zt];exact h,λz D=>by
       rcases Zs.1 D with D|D
       ·exact hi.out z D
       ·rw[Zo.1 D];exact Or.inl gB.out⟩⟩
      case measure=>simp[intOf];omega
    ·have gK:k=rest.length:=om;subst gK;have gh:=H.heap gR.out.2.2;have gz:∀z,z∈rest\/z=(⟨.slice yA yn yc,.slice yB ym yd,I⟩:Fc)->RdC wo z/\awayC z (some (w.heap.size+1+1)):=λz D=>by
      rcases D with D|rfl
      ·exact ⟨(hl.out z D).ext he.out,GX (hl.out z D) om⟩
      ·exact ⟨hC.out.1,hC.out.2.2 _ (hZ.out _ om) om⟩
     have h4:=gd gz;have fE:w.heap.size<=wo.heap.size:=he.out.size;have g7:Hid (∀q,q<w.heap.size->(∀z∈l,awayC z (some q))->awayC (⟨.slice xA xn xc,.slice xB xm xd,xf⟩:Fc) (some q)->∀z,z∈rest\/z=(⟨.slice yA yn yc,.slice yB ym yd,I⟩:Fc)->awayC z (some q)):=gd λq hq h1 h2 z D=>by
      rcases D with D|rfl
      ·exact h1 z (gW.out z D)
      ·exact hC.out.2.2 q ((hH.out q).2 ⟨h1,h2⟩) om
     have fq:=U.out.2.2;have hi:=gd fq;clear gz fq;cases done with
     |true=>
      have Q:=U.out.2.1 rfl;rw[ZC (Zc _),Z2,ZV] at Q;have HF:=gd (Q.trans HP.out.symm);have hB:=gd hc;have fd:=gd H;clear U Q hc H
      go_wp2_with (first|(refine Zf rfl 31 (.tmp 4) (.tmp 90) rfl (w.heap.size+1+1) _ rfl rfl _ _ gh Xl rfl GB ?_))
      ((try simp only[Exit.inBlock,Exit.then]);refine ZD (Xe rfl _ _ _ _ _ _ _ rfl (ZF _ _ _ _ _ _ gh) underlying31 rfl Xl) rfl ?_);exact ⟨_,out,rfl,HF.out,OFcs.mono (Jk hB.out om _) fE,λz D=>((h4.out z (hi.out z D)).1.ext fd.out).grown (Yx _ _ _) (h4.out z (hi.out z D)).2,λq hq h1 h2 z D=>g7.out q hq h1 h2 z (hi.out z D),Ext.setRow (he.out.trans fd.out) om _⟩
     |false=>
      have Q:=U.out.1 rfl;rw[ZQ (Zc _)] at Q;have gp:(out++ [(⟨.slice yA yn yc,.slice yB ym yd,I⟩:Fc)]).map Fc.f=ordF.put L xf:=by
       rw[HP.out,Zr6 ordF (rest.map Fc.f) _ (λx hx=>by
        obtain ⟨q,hq,rfl⟩:=ZU.1 hx;exact Q.2 q hq),Q.1]
       simp
      have HF:=gd gp;obtain ⟨b0,b1,b2,b3,b4,b5⟩:=fe.out;have r0:=H.cell b0;have r1:=H.cell b1;have r2:=H.cell b2;have r3:=H.cell b3;have r4:=H.cell b4;have r5:=H.cell b5;have hA:Hid (out.length+1<=maxLen):=gd (by unfold maxLen;omega);have hw:Hid ((out.length+1)*104<=140737488355328):=gd om;have dq:=gd gh;clear gp U Q b0 b1 b2 b3 b4 b5 gh
      go_wp2_with (first|(at_builtin;refine ZO _ rfl (.tmp 85) (.tmp 87) _ rfl wo.heap.size 55 i0 _ 6 104 underlying29 hN hW hX hY rfl (by decide) _ out.length (flatC out) rfl (Ya hc ((Ext.refl _).alloc _)) _ 1 (cellsC (⟨.slice yA yn yc,.slice yB ym yd,I⟩:Fc)) rfl (Yo rfl (by decide)) (Jv (x:=(⟨.slice yA yn yc,.slice yB ym yd,I⟩:Fc)) ⟨⟨_,_,_,rfl⟩,⟨_,_,_,rfl⟩⟩) hA.out hw.out ?_ ?_;(have:=H.size;rw[Zu];omega);intro v3 w3 J hD go;have S:Ext wo w3:=Ext.app (H.alloc _) hD (Ya hc ((Ext.refl _).alloc _)) (Zc _);have fJ:=S.heap gR.out.2.2;obtain ⟨gi,gj,hQ, -, -⟩:=(RSl.of_own J).2;subst hQ)|(refine Zf rfl 31 (.tmp 4) (.tmp 90) rfl (w.heap.size+1+1) _ rfl rfl _ _ fJ Xl rfl GB ?_))
      ((try simp only[Exit.inBlock,Exit.then]);refine ZD (Xe rfl _ _ _ _ _ _ _ rfl (ZF _ _ _ _ _ _ fJ) underlying31 rfl Xl) rfl ?_);have X:∀z∈out++ [(⟨.slice yA yn yc,.slice yB ym yd,I⟩:Fc)],z∈rest\/z=(⟨.slice yA yn yc,.slice yB ym yd,I⟩:Fc):=λz D=>by
       rcases Zs.1 D with D|D
       ·exact hi.out z D
       ·exact Or.inr (Zo.1 D)
      exact ⟨_,out++ [(⟨.slice yA yn yc,.slice yB ym yd,I⟩:Fc)],rfl,HF.out,OFcs.mono (Jk (OFcs.snoc (x:=(⟨.slice yA yn yc,.slice yB ym yd,I⟩:Fc)) J) om _) fE,λz D=>((h4.out z (X z D)).1.ext S).grown (Yx _ _ _) (h4.out z (X z D)).2,λq hq h1 h2 z D=>g7.out q hq h1 h2 z (X z D),Ext.setRow (he.out.trans S) om _⟩
end
end Go.Proofs.YtnlafkgkcnenfaaGreatDoor
