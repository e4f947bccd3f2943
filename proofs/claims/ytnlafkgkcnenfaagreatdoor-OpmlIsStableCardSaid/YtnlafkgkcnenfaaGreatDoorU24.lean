/- Parts of the proof: contracts and plain laws. -/
import Derived.Test.YtnlafkgkcnenfaaGreatDoorU22
import Derived.Test.YtnlafkgkcnenfaaGreatDoorU23
namespace Go.Proofs.YtnlafkgkcnenfaaGreatDoor
open Go Go.RowKit _root_.Go.Proofs.Tryz
set_option linter.unusedVariables false
set_option linter.unusedSimpArgs false
set_option maxRecDepth 100000
set_option maxHeartbeats 16000000
section
structure SlPair (w:Wq) (x:Fc):Prop where
 hra:RStrs w x.p x.f.path
 hsa:isSl x.es
theorem SlPair.sl {w:Wq} {x:Fc} (h:SlPair w x):slC x:=by
 obtain ⟨A,c,e,_⟩:=h.hra.form;exact ⟨⟨A,_,c,e⟩,h.hsa⟩
attribute [local go_sem ↓] Go.wp_at_zero Go.wp_at_succ
theorem QI (a b r:Fc) (w:Wq) (hE:Env w) (ha:fok a.f) (hb:fok b.f) (X:RStrs w a.p a.f.path) (Y:RStrs w b.p b.f.path) (hn:isSl a.es) (ho:isSl b.es) (hp:(iCmp a.f.upd b.f.upd= -1/\b=r)\/(iCmp a.f.upd b.f.upd=1/\a=r)\/(iCmp a.f.upd b.f.upd=0/\Op.bytesLess (feedKey a.f).toList (feedKey b.f).toList=true/\b=r)\/(iCmp a.f.upd b.f.upd=0/\Op.bytesLess (feedKey a.f).toList (feedKey b.f).toList=false/\a=r)):
 Calls prog 107 #[.agg (cellsC a).toArray,.agg (cellsC b).toArray,.func (.func 108) #[] #[],.func (.func 109) #[] #[]] w
  λx w'=>x= .returned (.agg (cellsC r).toArray)/\Ext w w':=by
 have hs:=gd (λw'=>ZhZ a.p a.es a.f w');have ht:=gd (λw'=>ZhZ b.p b.es b.f w');have hf:=gd (λw' h (hx:Ext w w')=>ZaD a.p a.es a.f w' h ha (X.ext hx));have hg:=gd (λw' h (hx:Ext w w')=>ZaD b.p b.es b.f w' h hb (Y.ext hx));have HC:=gd (λw'=>KN a.f.upd b.f.upd w');rw[show (if a.f.upd<b.f.upd then (-1:Int) else if b.f.upd<a.f.upd then 1 else 0)=iCmp a.f.upd b.f.upd from rfl] at HC;have h1:=Jv (SlPair.sl (w:=w) ⟨X,hn⟩);have h2:=Jv (SlPair.sl (w:=w) ⟨Y,ho⟩);generalize iCmp a.f.upd b.f.upd=ci at*;generalize feedKey a.f=ka at*;generalize feedKey b.f=kb at*;clear ha hb;rcases hp with ⟨hc,hr⟩|⟨hc,hr⟩|⟨hc,hT,hr⟩|⟨hc,hT,hr⟩
 all_goals
  subst hr
  subst hc
  obtain ⟨ap,hF,⟨J,Z,D,I,R,hu⟩⟩:=a
  obtain ⟨bp,hM,⟨Q,hd,F,K,S,hv⟩⟩:=b
  obtain ⟨aA,ac,hj,_,_⟩:=X.form
  obtain ⟨bA,bc,hk,_,_⟩:=Y.form
  obtain ⟨aB,am,ad,hl⟩:=hn
  obtain ⟨bB,bm,bd,hm⟩:=ho
  simp only at hj hk hl hm
  subst hj hk hl hm
  clear X Y
  have H1:=gd h1
  have H2:=gd h2
  clear h1 h2
  unfold cellsC fCells at*
  dsimp only at*
  go_enter func107,ntmps107
  go_wp2
  obtain ⟨W,H⟩:∃W,W=((w.alloc (.cells #[.slice aA J.length ac,.string Z,.string D,.string I,nI R,.slice aB am ad] 55)).alloc (.cells #[.slice bA Q.length bc,.string hd,.string F,.string K,nI S,.slice bB bm bd] 55)).alloc (.cells #[sN,eS,eS,eS,nI 0,sN] 55):=⟨_,rfl⟩
  rw[<-H]
  have hq:Ext w W:=by rw[H];exact (((Ext.refl w).alloc _).alloc _).alloc _
  have hi:∀d:Aft W,d.w.heap[w.heap.size+1+1]? =some (.cells #[sN,eS,eS,eS,nI 0,sN] 55):=by rw[H];exact λd=>d.ext.heap (XR w _ _ _)
  have a0:∀d:Aft W,d.w.cell? ⟨w.heap.size,0,none⟩=some (.slice aA J.length ac):=by rw[H];exact λd=>XI d 0 _ rfl
  have a1:∀d:Aft W,d.w.cell? ⟨w.heap.size,1,none⟩=some (.string Z):=by rw[H];exact λd=>XI d 1 _ rfl
  have a2:∀d:Aft W,d.w.cell? ⟨w.heap.size,2,none⟩=some (.string D):=by rw[H];exact λd=>XI d 2 _ rfl
  have a3:∀d:Aft W,d.w.cell? ⟨w.heap.size,3,none⟩=some (.string I):=by rw[H];exact λd=>XI d 3 _ rfl
  have a4:∀d:Aft W,d.w.cell? ⟨w.heap.size,4,none⟩=some (nI R):=by rw[H];exact λd=>XI d 4 _ rfl
  have a5:∀d:Aft W,d.w.cell? ⟨w.heap.size,5,none⟩=some (.slice aB am ad):=by rw[H];exact λd=>XI d 5 _ rfl
  have b0:∀d:Aft W,d.w.cell? ⟨w.heap.size+1,0,none⟩=some (.slice bA Q.length bc):=by rw[H];exact λd=>GZ d 0 _ rfl
  have b1:∀d:Aft W,d.w.cell? ⟨w.heap.size+1,1,none⟩=some (.string hd):=by rw[H];exact λd=>GZ d 1 _ rfl
  have b2:∀d:Aft W,d.w.cell? ⟨w.heap.size+1,2,none⟩=some (.string F):=by rw[H];exact λd=>GZ d 2 _ rfl
  have b3:∀d:Aft W,d.w.cell? ⟨w.heap.size+1,3,none⟩=some (.string K):=by rw[H];exact λd=>GZ d 3 _ rfl
  have b4:∀d:Aft W,d.w.cell? ⟨w.heap.size+1,4,none⟩=some (nI S):=by rw[H];exact λd=>GZ d 4 _ rfl
  have b5:∀d:Aft W,d.w.cell? ⟨w.heap.size+1,5,none⟩=some (.slice bB bm bd):=by rw[H];exact λd=>GZ d 5 _ rfl
  clear H
  refine rA ?_
  repeat (quiet_step ((first|(go_at_call 108;with_reducible exact ZE (hs.out _))|(go_at_call 108;with_reducible exact ZE (ht.out _))|(go_at_call 152;with_reducible exact Uv (HC.out _)))))
  refine Z9 ?_
  rintro _ ⟨A,rfl⟩
  have V:Env A.w:=hE.ext (hq.trans A.ext)
  have U:=hq.trans A.ext
  have hh:=hi A
  have hy:∀d:Aft A.w,d.w.cell? ⟨w.heap.size,0,none⟩=some (.slice aA J.length ac):=λd=>a0 ⟨_,A.ext.trans d.ext⟩
  have hz:∀d:Aft A.w,d.w.cell? ⟨w.heap.size,1,none⟩=some (.string Z):=λd=>a1 ⟨_,A.ext.trans d.ext⟩
  have hA:∀d:Aft A.w,d.w.cell? ⟨w.heap.size,2,none⟩=some (.string D):=λd=>a2 ⟨_,A.ext.trans d.ext⟩
  have hB:∀d:Aft A.w,d.w.cell? ⟨w.heap.size,3,none⟩=some (.string I):=λd=>a3 ⟨_,A.ext.trans d.ext⟩
  have hC:∀d:Aft A.w,d.w.cell? ⟨w.heap.size,4,none⟩=some (nI R):=λd=>a4 ⟨_,A.ext.trans d.ext⟩
  have hD:∀d:Aft A.w,d.w.cell? ⟨w.heap.size,5,none⟩=some (.slice aB am ad):=λd=>a5 ⟨_,A.ext.trans d.ext⟩
  have hG:∀d:Aft A.w,d.w.cell? ⟨w.heap.size+1,0,none⟩=some (.slice bA Q.length bc):=λd=>b0 ⟨_,A.ext.trans d.ext⟩
  have hH:∀d:Aft A.w,d.w.cell? ⟨w.heap.size+1,1,none⟩=some (.string hd):=λd=>b1 ⟨_,A.ext.trans d.ext⟩
  have hI:∀d:Aft A.w,d.w.cell? ⟨w.heap.size+1,2,none⟩=some (.string F):=λd=>b2 ⟨_,A.ext.trans d.ext⟩
  have hJ:∀d:Aft A.w,d.w.cell? ⟨w.heap.size+1,3,none⟩=some (.string K):=λd=>b3 ⟨_,A.ext.trans d.ext⟩
  have hK:∀d:Aft A.w,d.w.cell? ⟨w.heap.size+1,4,none⟩=some (nI S):=λd=>b4 ⟨_,A.ext.trans d.ext⟩
  have hL:∀d:Aft A.w,d.w.cell? ⟨w.heap.size+1,5,none⟩=some (.slice bB bm bd):=λd=>b5 ⟨_,A.ext.trans d.ext⟩
  have hw:∀d:Aft A.w,d.w.heap[w.heap.size+1+1]? =some (.cells #[sN,eS,eS,eS,nI 0,sN] 55):=λd=>d.ext.heap hh
  clear a0 a1 a2 a3 a4 a5 b0 b1 b2 b3 b4 b5 hi hh
  generalize A.w=W1 at*
  go_wp2
  refine rA ?_
  repeat (first|go_big_quiet_step ((first|(go_at_call 109;with_reducible exact ZE (hf.out _ (V.ext (Aft.ext _)) (U.trans (Aft.ext _))))|(go_at_call 109;with_reducible exact ZE (hg.out _ (V.ext (Aft.ext _)) (U.trans (Aft.ext _))))))|quiet_step ((first|(go_at_call 109;with_reducible exact ZE (hf.out _ (V.ext (Aft.ext _)) (U.trans (Aft.ext _))))|(go_at_call 109;with_reducible exact ZE (hg.out _ (V.ext (Aft.ext _)) (U.trans (Aft.ext _)))))))
  refine Z9 ?_
  rintro _ ⟨d2,rfl⟩
  have he:=hw d2
  go_wp2_with (first|(refine Zf rfl 55 (.tmp 8) (.tmp 32) rfl (w.heap.size+1+1) _ rfl rfl _ _ he Jh rfl (Zcz H2.out) ?_)|(refine Zf rfl 55 (.tmp 8) (.tmp 33) rfl (w.heap.size+1+1) _ rfl rfl _ _ he Jh rfl (Zcz H1.out) ?_))
  ((try simp only[Exit.inBlock,Exit.then]);refine ZD (Xe rfl _ _ _ _ _ _ _ rfl (ZF _ _ _ _ _ _ he) underlying55 rfl Jh) rfl ?_)
  exact ⟨rfl,(U.trans d2.ext).setRow om _⟩
theorem Zg1 (a b:Fc) (w:Wq) (I:Env w) (J:fok a.f) (K:fok b.f) (A:RStrs w a.p a.f.path) (D:RStrs w b.p b.f.path) (F:isSl a.es) (H:isSl b.es):
 Calls prog 107 #[.agg (cellsC a).toArray,.agg (cellsC b).toArray,.func (.func 108) #[] #[],.func (.func 109) #[] #[]] w
  λx w'=>x= .returned (.agg (cellsC (if laterB (iCmp a.f.upd b.f.upd) (feedKey a.f) (feedKey b.f) then b else a)).toArray)/\Ext w w':=by
 rcases ZkV a.f.upd b.f.upd with h|h|h
 ·have e:laterB (iCmp a.f.upd b.f.upd) (feedKey a.f) (feedKey b.f)=true:=by unfold laterB;rw[h];rfl
  rw[Zi e];exact QI a b b w I J K A D F H (Or.inl ⟨h,rfl⟩)
 ·cases hT:Op.bytesLess (feedKey a.f).toList (feedKey b.f).toList with
  |true=>have e:laterB (iCmp a.f.upd b.f.upd) (feedKey a.f) (feedKey b.f)=true:=(by unfold laterB;rw[h,hT];rfl);rw[Zi e];exact QI a b b w I J K A D F H (Or.inr (Or.inr (Or.inl ⟨h,hT,rfl⟩)))
  |false=>have e:laterB (iCmp a.f.upd b.f.upd) (feedKey a.f) (feedKey b.f)=false:=(by unfold laterB;rw[h,hT];rfl);rw[Ze (by rw[e];decide)];exact QI a b a w I J K A D F H (Or.inr (Or.inr (Or.inr ⟨h,hT,rfl⟩)))
 ·have e:laterB (iCmp a.f.upd b.f.upd) (feedKey a.f) (feedKey b.f)=false:=by unfold laterB;rw[h];rfl
  rw[Ze (by rw[e];decide)];exact QI a b a w I J K A D F H (Or.inr (Or.inl ⟨h,rfl⟩))
theorem Zdl (a b:Fc) (w:Wq) (hE:Env w) (ha:fok a.f) (hb:fok b.f) (R:RStrs w a.p a.f.path) (S:RStrs w b.p b.f.path) (hm:isSl a.es) (hp:isSl b.es):
 Calls prog 67 #[.agg (cellsC a).toArray,.agg (cellsC b).toArray] w
  λx w'=>∃p',x= .returned (.agg (fCells p' sN (laterF a.f b.f)).toArray)/\w'.ownsRow w.heap.size 9 1 p' (laterF a.f b.f).path.length ((laterF a.f b.f).path.map Value.string)/\Ext w w':=by
 have HX:Hid (∀(A B C:Obj),Ext w (((w.alloc A).alloc B).alloc C)):=gd λA B C=>(((Ext.refl w).alloc A).alloc B).alloc C;have HL:=gd (λ(w':Wq) (h:Ext w w')=>Zg1 a b w' (hE.ext h) ha hb (R.ext h) (S.ext h) hm hp);obtain ⟨r,X⟩:∃r,(if laterB (iCmp a.f.upd b.f.upd) (feedKey a.f) (feedKey b.f) then b else a)=r:=⟨_,rfl⟩;have hfr:laterF a.f b.f={r.f with ents:= []}:=by rw[<-X];unfold laterF;cases laterB (iCmp a.f.upd b.f.upd) (feedKey a.f) (feedKey b.f)<;>rfl
 have U:RStrs w r.p r.f.path:=by rw[<-X];split<;>assumption
 have hG:isSl r.es:=by rw[<-X];split<;>assumption
 have hl:fok r.f:=by rw[<-X];split<;>assumption
 rw[X] at HL;rw[hfr];clear X hfr;have hn:=SlPair.sl (w:=w) ⟨R,hm⟩;have hq:=SlPair.sl (w:=w) ⟨S,hp⟩;obtain ⟨ap,hN,⟨hz,hO,hv,hy,hL,hx⟩⟩:=a;obtain ⟨bp,hP,⟨hC,hQ,hw,hB,hM,hA⟩⟩:=b;obtain ⟨rp,res,⟨D,hK,Q,V,ht,hJ⟩⟩:=r;obtain ⟨⟨aA,an,ac,hg⟩,⟨aB,am,ad,hh⟩⟩:=hn;obtain ⟨⟨bA,bn,bc,J⟩,⟨bB,bm,bd,hi⟩⟩:=hq;obtain ⟨rA,rc,hj,_,_⟩:=U.form;obtain ⟨rB,rm,rd,hk⟩:=hG;simp only at hg J hh hi hj hk;subst hg J hh hi hj hk;have hR:D.length<=16777216:=by have:=hl.2;simp at this;omega
 have Z:=gd (λ(w':Wq) (h:Ext w w')=>G0 _ D.length (D.map Value.string) w' (U.ext h) (by intro u hu;obtain ⟨s,_,rfl⟩:=ZU.1 hu;rfl) om);clear R S U hl ha hb;dsimp only at Z|-;unfold cellsC at HL|-;unfold fCells at HL|-;dsimp only at HL|-;go_enter func67,ntmps67
 go_wp2_with (first|(go_at_call 107;refine (HL.out _ (HX.out _ _ _)).mono ?_;rintro e w1 ⟨rfl,K⟩;have hD:=K.heap (XR w _ _ _);have hH:=K.size;simp only[Zu] at hH)|(go_at_call 33;refine (Z.out _ ((HX.out _ _ _).trans (K.trans ((Ext.refl _).alloc _)))).mono ?_;rintro e w2 ⟨p2,rfl,H,F⟩;(obtain ⟨Y,I,J⟩:∃A c,p2= .slice A D.length c:=(by obtain ⟨A,c,e,_⟩:=(RSl.of_own H).2;exact ⟨A,c,e⟩));subst J;have c0:=F.boxed 0 _ rfl;have c1:=F.boxed 1 _ rfl;have c2:=F.boxed 2 _ rfl;have c3:=F.boxed 3 _ rfl;have c4:=F.boxed 4 _ rfl;have c5:=F.boxed 5 _ rfl;have f0:=F.boxedF 0;have f5:=F.boxedF 5;have hF:=F.heap (((Ext.refl w1).alloc _).heap hD);have hc:=gd H;clear H;(have hd:=(Z4 (w2.setCell ⟨w1.heap.size,0,none⟩ (.slice Y D.length I)) ⟨w1.heap.size,5,none⟩ (w.heap.size+1+1) sN (by show w.heap.size+1+1≠w1.heap.size;omega)).trans ((Z4 w2 ⟨w1.heap.size,0,none⟩ (w.heap.size+1+1) (.slice Y D.length I) (by show w.heap.size+1+1≠w1.heap.size;omega)).trans hF)))|(refine Zf rfl 55 (.tmp 4) (.tmp 14) rfl (w.heap.size+1+1) _ rfl rfl _ _ hd Jh rfl Zfv ?_))
 ((try simp only[Exit.inBlock,Exit.then]);refine ZD (Xe rfl _ _ _ _ _ _ _ rfl (ZF _ _ _ #[.slice Y D.length I,.string hK,.string Q,.string V,nI ht,sN] _ _ hd) underlying55 rfl Jh) rfl ?_);have hs:=K.trans (((Ext.refl w1).alloc _).trans F);have hI:=(HX.out _ _ _).trans hs;have hS:w1.heap.size+1<=w2.heap.size:=by have:=F.size;rwa [Zu] at this
 have ho:=hc.out;have hf:=ho.lt;rw[Zu] at hf;refine ⟨_,rfl,?_,?_⟩
 ·have he:∀i,(Value.slice Y D.length I).ownBlock≠some (⟨w1.heap.size,i,none⟩:Addr).block:=λi e=>absurd (hf _ e).1 (show ¬(w1.heap.size+1<=w1.heap.size) by omega);have h1:=Jy ho (a:=⟨w1.heap.size,0,none⟩) (he 0) (.slice Y D.length I);have h2:=Jy h1 (a:=⟨w1.heap.size,5,none⟩) (he 5) sN;exact X4 (Jk h2 (by rw[Zu];omega) _) (by rw[Zu];omega)
 ·exact (Ext.setCell (Ext.setCell hI (show w.heap.size<=w1.heap.size by omega) _) (show w.heap.size<=w1.heap.size by omega) _).setRow om _
end
theorem Zp0:LatF:=λa b w H I J h A D F=>Zdl a b w H I J h A D F
theorem Zl7 {s:ByteArray} (h:treeP s.data.toList=none) (w:Wq) (D:s.size<=maxLen):
 Calls prog 10 #[.string s] w λe w'=>e= .returned (.tuple #[.agg #[nI 0,eS,eS,sN,sN,eS,nI 0],nI 0])/\Ext w w':=by
 refine Za (ZaR s w D) ?_;rintro e w' ⟨v,rfl,A,F⟩;rw[h] at A;have A:v=_:=A;subst A;exact ⟨rfl,F⟩
end Go.Proofs.YtnlafkgkcnenfaaGreatDoor
