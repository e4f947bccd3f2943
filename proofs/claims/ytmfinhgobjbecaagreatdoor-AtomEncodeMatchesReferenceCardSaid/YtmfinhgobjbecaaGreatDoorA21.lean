/- Parts of the proof: contracts and plain laws. -/
import Derived.Test.YtmfinhgobjbecaaGreatDoorTie
import Derived.Test.YtmfinhgobjbecaaGreatDoorCards
import Derived.Test.YtmfinhgobjbecaaGreatDoorRows
import Derived.Test.YtmfinhgobjbecaaGreatDoorA20
namespace Go.Proofs.YtmfinhgobjbecaaGreatDoor
open Go Go.RowKit Go.ChangeShapes Go.WideShapes Go.ChangeAt Go.Joins Go.Deep _root_.Go.Proofs.Tryz
set_option linter.unusedVariables false
set_option linter.unusedSimpArgs false
set_option maxRecDepth 100000
set_option maxHeartbeats 16000000
section
set_option linter.unusedSimpArgs false
theorem J6 (w:World) (hE:Env w) (hu:NmTabs w):Calls prog 10 #[] w λe w'=>e= .returned (.bool true)/\Ext w w':=by
 obtain ⟨mG,he,hs⟩:=ZkF;obtain ⟨mH,hg,ht⟩:=ZkI;have aG:=QD he;have aH:=QD hg;have hO:=gd (λ(s:ByteArray) (w':World) (h:s.data.toList=docG)=>Em (s:=s) (m:=mG) (by rw[h];exact he) w' (by rw[<-Zb s,h];unfold maxLen;decide));have hP:=gd (λ(s:ByteArray) (w':World) (h:s.data.toList=docH)=>Em (s:=s) (m:=mH) (by rw[h];exact hg) w' (by rw[<-Zb s,h];unfold maxLen;decide));have hJ:Hid (∀(w':World) (k:Nat) (sp nm:List UInt8) (A:Option Addr) (n c:Nat) (B:Option Addr) (q d:Nat) (t:List UInt8) (a:Nat),Ext w w'->TrA 5000 5000 w' mG k sp nm A n c B q d t a->Calls prog 11 #[.agg #[.int .i64 (k:Nat),.string (str sp),.string (str nm),.slice A n c,.slice B q d,.string (str t),.int .i64 (a:Nat)]] w' λe w2=>(∃A5 c5 D d5,e= .returned (.tuple #[.agg #[.slice A5 0 c5,.string ⟨#[70]⟩,.string ⟨#[]⟩,.string ⟨#[]⟩,.int .i64 (-62135596800),.slice (some D) 1 d5],.int .i64 0,.int .i64 0])/\w2.cell? D=some (.string ⟨#[69]⟩)/\w2.cell? ⟨D.block,D.off+2,none⟩=some (.string ⟨#[76]⟩))/\Ext w' w2):=gd λw' k sp nm A n c B q d t a hx hr=>by refine ZqD (VX (by decide) (by decide) (by decide) (hE.ext hx) hr aG (λf hf=>IB aG hf)) ?_;rintro e w2 ⟨S,X⟩;rw[hs] at S;obtain ⟨y,rfl,hj,hZ, -⟩:=S;refine ⟨?_,X⟩;rw[Zcg.1] at hj;obtain ⟨yp,h3,yf⟩:=y;dsimp only at hj;subst hj;obtain ⟨hD,hF⟩:=hZ;dsimp only at hD hF;obtain ⟨A5,c5,rfl, -, -⟩:=hD.form;obtain ⟨D,d5,rfl,hA⟩:=REnts.at hF (k:=0) (by show 0<1;decide);have h0:=hA.c0;have h2:=hA.c2;rw[Zsl,add_zero] at h0 h2;refine ⟨A5,c5,D,d5,?_,h0,h2⟩;rw[Zcg.2];rfl
 have hK:Hid (∀(w':World) (k:Nat) (sp nm:List UInt8) (A:Option Addr) (n c:Nat) (B:Option Addr) (q d:Nat) (t:List UInt8) (a:Nat),Ext w w'->TrA 5000 5000 w' mH k sp nm A n c B q d t a->Calls prog 11 #[.agg #[.int .i64 (k:Nat),.string (str sp),.string (str nm),.slice A n c,.slice B q d,.string (str t),.int .i64 (a:Nat)]] w' λe w2=>e= .returned (.tuple #[.agg #[.slice none 0 0,.string ⟨#[]⟩,.string ⟨#[]⟩,.string ⟨#[]⟩,.int .i64 0,.slice none 0 0],.int .i64 52,.int .i64 19])/\Ext w' w2):=gd λw' k sp nm A n c B q d t a hx hr=>by refine ZqD (VX (by decide) (by decide) (by decide) (hE.ext hx) hr aH (λf hf=>IB aH hf)) ?_;rintro e w2 ⟨S,X⟩;rw[ht] at S;exact ⟨S,X⟩
 have hQ:Hid (∀(w':World),Ext w w'->Calls prog 17 #[.agg #[.slice none 0 0,.string ⟨#[70]⟩,.string ⟨#[]⟩,.string ⟨#[]⟩,.int .i64 0,.slice none 0 0]] w' λe w2=>e= .returned (.tuple #[.string ⟨docK.toArray⟩,.int .i64 0])/\Ext w' w2):=gd λw' hx=>by have h:=EY ⟨.slice none 0 0,.slice none 0 0,feedK⟩ w' (hE.ext hx) (hu.ext hx) ⟨RSl.nil w' 1,RSl.nil w' 5⟩ ZkR (XR.2 ⟨ZmQ,rfl⟩) Zgk;dsimp only at h;rw[show textA feedK=⟨docK.toArray⟩ by unfold textA;rw[ZkQ];rfl] at h;exact h
 clear he hs hg ht aG aH hE hu;go_enter func10,ntmps10
 go_wp2_with (first|(refine ZqF rfl 32 (.tmp 8) (.tmp 30) rfl O.heap.size #[.slice none 0 0,.string ⟨#[]⟩,.string ⟨#[]⟩,.string ⟨#[]⟩,.int .i64 0,.slice none 0 0] rfl rfl _ _ hR Ge rfl Zjh ?_;rw[h1])|(go_at_call 17;have hz:=hQ.out _ hI;refine ZqD hz ?_;clear hz;rintro e w6 ⟨rfl,Q⟩;obtain ⟨g3,g4⟩:=hL.out _ (U.trans Q);have hY:=hI.trans Q;have hc0_6:=hc0_5.trans Q;obtain ⟨q5_0_0,q5_0_1,q5_0_2,q5_0_3,q5_0_4,q5_0_5,q5_0_6⟩:=R.out _ hc0_6;have hc1_6:=hc1_5.trans Q;obtain ⟨q5_1_0,q5_1_1,q5_1_2,q5_1_3,q5_1_4,q5_1_5,q5_1_6⟩:=ha.out _ hc1_6;have hc2_6:=hc2_5.trans Q;obtain ⟨q5_2_0,q5_2_1,q5_2_2,q5_2_3,q5_2_4,q5_2_5⟩:=hd.out _ hc2_6;have hc3_6:=(Ext.refl W5).trans Q;obtain ⟨q5_3_0,q5_3_1,q5_3_2,q5_3_3,q5_3_4,q5_3_5⟩:=ho.out _ hc3_6;clear q4_0_0 q4_0_1 q4_0_2 q4_0_3 q4_0_4 q4_0_5 q4_0_6 q4_1_0 q4_1_1 q4_1_2 q4_1_3 q4_1_4 q4_1_5 q4_1_6 q4_2_0 q4_2_1 q4_2_2 q4_2_3 q4_2_4 q4_2_5 q4_3_0 q4_3_1 q4_3_2 q4_3_3 q4_3_4 q4_3_5)|(go_at_call 11;have hz:=hK.out _ _ _ _ _ _ _ _ _ _ _ _ hH hq.out;(refine ZqD hz ?_);clear hz;rintro e O ⟨rfl,hW⟩;obtain ⟨W5,hb⟩:∃W0,O.alloc (.cells #[.slice none 0 0,.string ⟨#[]⟩,.string ⟨#[]⟩,.string ⟨#[]⟩,.int .i64 0,.slice none 0 0] 32)=W0:=⟨_,rfl⟩;(have hT:Ext O W5:=by rw[<-hb];exact (Ext.refl _).alloc _);(have J:∀i v,(#[.slice none 0 0,.string ⟨#[]⟩,.string ⟨#[]⟩,.string ⟨#[]⟩,.int .i64 0,.slice none 0 0]:Array Value)[i]? =some v->W5.cell? ⟨O.heap.size,i,none⟩=some v:=λi v h=>by rw[<-hb];exact (Ext.refl (O.alloc _)).boxed i v h);have ho:Hid (∀C:World,Ext W5 C->C.cell? ⟨O.heap.size,0,none⟩=some (.slice none 0 0)/\C.cell? ⟨O.heap.size,1,none⟩=some (.string ⟨#[]⟩)/\C.cell? ⟨O.heap.size,2,none⟩=some (.string ⟨#[]⟩)/\C.cell? ⟨O.heap.size,3,none⟩=some (.string ⟨#[]⟩)/\C.cell? ⟨O.heap.size,4,none⟩=some (.int .i64 0)/\C.cell? ⟨O.heap.size,5,none⟩=some (.slice none 0 0)):=gd λC h=>⟨h.cell (J 0 _ rfl),h.cell (J 1 _ rfl),h.cell (J 2 _ rfl),h.cell (J 3 _ rfl),h.cell (J 4 _ rfl),h.cell (J 5 _ rfl)⟩;clear J;have U:=hW.trans hT;have hI:=hH.trans U;have hc0_5:=hc0_4.trans U;obtain ⟨q4_0_0,q4_0_1,q4_0_2,q4_0_3,q4_0_4,q4_0_5,q4_0_6⟩:=R.out _ hc0_5;have hc1_5:=hc1_4.trans U;obtain ⟨q4_1_0,q4_1_1,q4_1_2,q4_1_3,q4_1_4,q4_1_5,q4_1_6⟩:=ha.out _ hc1_5;have hc2_5:=(Ext.refl W4).trans U;obtain ⟨q4_2_0,q4_2_1,q4_2_2,q4_2_3,q4_2_4,q4_2_5⟩:=hd.out _ hc2_5;clear q3_0_0 q3_0_1 q3_0_2 q3_0_3 q3_0_4 q3_0_5 q3_0_6 q3_1_0 q3_1_1 q3_1_2 q3_1_3 q3_1_4 q3_1_5 q3_1_6 q3_2_0 q3_2_1 q3_2_2 q3_2_3 q3_2_4 q3_2_5;obtain ⟨q4_3_0,q4_3_1,q4_3_2,q4_3_3,q4_3_4,q4_3_5⟩:=ho.out _ (Ext.refl W5);(have h1:W5.setRow O.heap.size #[.slice none 0 0,.string ⟨#[]⟩,.string ⟨#[]⟩,.string ⟨#[]⟩,.int .i64 0,.slice none 0 0]=W5:=by rw[<-hb,Zh]);(have hR:W5.heap[O.heap.size]? =some (.cells #[.slice none 0 0,.string ⟨#[]⟩,.string ⟨#[]⟩,.string ⟨#[]⟩,.int .i64 0,.slice none 0 0] 32 (0,0)):=by rw[<-hb];exact ZqJ O _))|(go_at_call 11;have hz:=hJ.out _ _ _ _ _ _ _ _ _ _ _ _ hG hp.out;(refine ZqD hz ?_);clear hz;rintro e Z ⟨⟨A5,c5,D,d5,rfl,g1,g2⟩,hV⟩;obtain ⟨W4,hy⟩:∃W0,Z.alloc (.cells #[.slice A5 0 c5,.string ⟨#[70]⟩,.string ⟨#[]⟩,.string ⟨#[]⟩,.int .i64 (-62135596800),.slice (some D) 1 d5] 32)=W0:=⟨_,rfl⟩;(have hi:Ext Z W4:=by rw[<-hy];exact (Ext.refl _).alloc _);(have I:∀i v,(#[.slice A5 0 c5,.string ⟨#[70]⟩,.string ⟨#[]⟩,.string ⟨#[]⟩,.int .i64 (-62135596800),.slice (some D) 1 d5]:Array Value)[i]? =some v->W4.cell? ⟨Z.heap.size,i,none⟩=some v:=λi v h=>by rw[<-hy];exact (Ext.refl (Z.alloc _)).boxed i v h);have hd:Hid (∀C:World,Ext W4 C->C.cell? ⟨Z.heap.size,0,none⟩=some (.slice A5 0 c5)/\C.cell? ⟨Z.heap.size,1,none⟩=some (.string ⟨#[70]⟩)/\C.cell? ⟨Z.heap.size,2,none⟩=some (.string ⟨#[]⟩)/\C.cell? ⟨Z.heap.size,3,none⟩=some (.string ⟨#[]⟩)/\C.cell? ⟨Z.heap.size,4,none⟩=some (.int .i64 (-62135596800))/\C.cell? ⟨Z.heap.size,5,none⟩=some (.slice (some D) 1 d5)):=gd λC h=>⟨h.cell (I 0 _ rfl),h.cell (I 1 _ rfl),h.cell (I 2 _ rfl),h.cell (I 3 _ rfl),h.cell (I 4 _ rfl),h.cell (I 5 _ rfl)⟩;clear I;have hc:=hV.trans hi;have hH:=hG.trans hc;have hc0_4:=hc0_3.trans hc;obtain ⟨q3_0_0,q3_0_1,q3_0_2,q3_0_3,q3_0_4,q3_0_5,q3_0_6⟩:=R.out _ hc0_4;have hc1_4:=(Ext.refl W3).trans hc;obtain ⟨q3_1_0,q3_1_1,q3_1_2,q3_1_3,q3_1_4,q3_1_5,q3_1_6⟩:=ha.out _ hc1_4;clear q2_0_0 q2_0_1 q2_0_2 q2_0_3 q2_0_4 q2_0_5 q2_0_6 q2_1_0 q2_1_1 q2_1_2 q2_1_3 q2_1_4 q2_1_5 q2_1_6;obtain ⟨q3_2_0,q3_2_1,q3_2_2,q3_2_3,q3_2_4,q3_2_5⟩:=hd.out _ (Ext.refl W4);have hL:Hid (∀C:World,Ext W4 C->C.cell? D=some (.string ⟨#[69]⟩)/\C.cell? ⟨D.block,D.off+2,none⟩=some (.string ⟨#[76]⟩)):=gd λC h=>⟨h.cell (hi.cell g1),h.cell (hi.cell g2)⟩;have hq:=gd (hN.out.ext hc);clear g1 g2)|(go_at_call 9;refine ZqD (hP.out _ _ (by exact rfl)) ?_;rintro e Y ⟨⟨k2,hn,hl,A2,n2,c2,B2,q2,d2,t2,a2,rfl,V⟩,hU⟩;obtain ⟨W3,hw⟩:∃W0,Y.alloc (.cells #[.int .i64 (k2:Nat),.string (str hn),.string (str hl),.slice A2 n2 c2,.slice B2 q2 d2,.string (str t2),.int .i64 (a2:Nat)] 25)=W0:=⟨_,rfl⟩;(have hC:Ext Y W3:=by rw[<-hw];exact (Ext.refl _).alloc _);(have H:∀i v,(#[.int .i64 (k2:Nat),.string (str hn),.string (str hl),.slice A2 n2 c2,.slice B2 q2 d2,.string (str t2),.int .i64 (a2:Nat)]:Array Value)[i]? =some v->W3.cell? ⟨Y.heap.size,i,none⟩=some v:=λi v h=>by rw[<-hw];exact (Ext.refl (Y.alloc _)).boxed i v h);have ha:Hid (∀C:World,Ext W3 C->C.cell? ⟨Y.heap.size,0,none⟩=some (.int .i64 (k2:Nat))/\C.cell? ⟨Y.heap.size,1,none⟩=some (.string (str hn))/\C.cell? ⟨Y.heap.size,2,none⟩=some (.string (str hl))/\C.cell? ⟨Y.heap.size,3,none⟩=some (.slice A2 n2 c2)/\C.cell? ⟨Y.heap.size,4,none⟩=some (.slice B2 q2 d2)/\C.cell? ⟨Y.heap.size,5,none⟩=some (.string (str t2))/\C.cell? ⟨Y.heap.size,6,none⟩=some (.int .i64 (a2:Nat))):=gd λC h=>⟨h.cell (H 0 _ rfl),h.cell (H 1 _ rfl),h.cell (H 2 _ rfl),h.cell (H 3 _ rfl),h.cell (H 4 _ rfl),h.cell (H 5 _ rfl),h.cell (H 6 _ rfl)⟩;clear H;have hh:=hU.trans hC;have hG:=hX.trans hh;have hc0_3:=(Ext.refl W2).trans hh;obtain ⟨q2_0_0,q2_0_1,q2_0_2,q2_0_3,q2_0_4,q2_0_5,q2_0_6⟩:=R.out _ hc0_3;clear q1_0_0 q1_0_1 q1_0_2 q1_0_3 q1_0_4 q1_0_5 q1_0_6;obtain ⟨q2_1_0,q2_1_1,q2_1_2,q2_1_3,q2_1_4,q2_1_5,q2_1_6⟩:=ha.out _ (Ext.refl W3);have hN:=gd (V.ext hC);clear V;have hp:=gd (hM.out.ext hh))|(go_at_call 9;refine ZqD (hO.out _ _ (by exact rfl)) ?_;rintro e w2 ⟨⟨k1,hm,hk,A1,n1,c1,B1,q1,d1,t1,a1,rfl,V⟩,X⟩;obtain ⟨W2,hv⟩:∃W0,w2.alloc (.cells #[.int .i64 (k1:Nat),.string (str hm),.string (str hk),.slice A1 n1 c1,.slice B1 q1 d1,.string (str t1),.int .i64 (a1:Nat)] 25)=W0:=⟨_,rfl⟩;(have hB:Ext w2 W2:=by rw[<-hv];exact (Ext.refl _).alloc _);(have F:∀i v,(#[.int .i64 (k1:Nat),.string (str hm),.string (str hk),.slice A1 n1 c1,.slice B1 q1 d1,.string (str t1),.int .i64 (a1:Nat)]:Array Value)[i]? =some v->W2.cell? ⟨w2.heap.size,i,none⟩=some v:=λi v h=>by rw[<-hv];exact (Ext.refl (w2.alloc _)).boxed i v h);have R:Hid (∀C:World,Ext W2 C->C.cell? ⟨w2.heap.size,0,none⟩=some (.int .i64 (k1:Nat))/\C.cell? ⟨w2.heap.size,1,none⟩=some (.string (str hm))/\C.cell? ⟨w2.heap.size,2,none⟩=some (.string (str hk))/\C.cell? ⟨w2.heap.size,3,none⟩=some (.slice A1 n1 c1)/\C.cell? ⟨w2.heap.size,4,none⟩=some (.slice B1 q1 d1)/\C.cell? ⟨w2.heap.size,5,none⟩=some (.string (str t1))/\C.cell? ⟨w2.heap.size,6,none⟩=some (.int .i64 (a1:Nat))):=gd λC h=>⟨h.cell (F 0 _ rfl),h.cell (F 1 _ rfl),h.cell (F 2 _ rfl),h.cell (F 3 _ rfl),h.cell (F 4 _ rfl),h.cell (F 5 _ rfl),h.cell (F 6 _ rfl)⟩;clear F;have hS:=X.trans hB;have hX:=(Ext.refl w).trans hS;obtain ⟨q1_0_0,q1_0_1,q1_0_2,q1_0_3,q1_0_4,q1_0_5,q1_0_6⟩:=R.out _ (Ext.refl W2);have hM:=gd (V.ext hB);clear V))
 go_ret;exact ⟨rfl,hY⟩
end
theorem Xc {w w1:Wq} {A:Obj} {B:Array Value} {t:TypeId} {fr:Nat×Nat} (h:Ext ((w.alloc A).alloc (.cells B t fr)) w1) (i:Nat) (v:Value) (C:B[i]? =some v):w1.cell? ⟨w.heap.size+1,i,none⟩=some v:=by
 have:=h.boxed i v C
 rwa [Zd] at this
theorem XV (x y:Fc) (w:Wq) (hx:RdC w x) (hy:RdC w y) (hn:x.f.path.length<=16777216) (hw:pathCmp x.f.path y.f.path≠0\/pathCmp x.f.path y.f.path=0/\((x.f.id.toList==y.f.id.toList)=false\/(x.f.id.toList==y.f.id.toList)=true/\((x.f.title.toList==y.f.title.toList)=false\/(x.f.title.toList==y.f.title.toList)=true/\((x.f.link.toList==y.f.link.toList)=false\/(x.f.link.toList==y.f.link.toList)=true/\((x.f.upd==y.f.upd)=false\/(x.f.upd==y.f.upd)=true/\x.f.ents.length≠y.f.ents.length))))):
 Calls prog 13 #[.agg (cellsC x).toArray,.agg (cellsC y).toArray] w λe w'=>e= .returned (.bool false)/\Ext w w':=by
 obtain ⟨xp,hf,⟨C,Y,F,I,O,D⟩⟩:=x;obtain ⟨yp,hg,⟨H,ha,Q,S,U,J⟩⟩:=y;obtain ⟨V,A⟩:=hx;obtain ⟨X,Z⟩:=hy;dsimp only at*;obtain ⟨xA,xc,rfl, -, -⟩:=V.form;obtain ⟨xB,xd,rfl, -, -⟩:=A.form;obtain ⟨yA,yc,rfl, -, -⟩:=X.form;obtain ⟨yB,yd,rfl, -, -⟩:=Z.form;have hc:=gd (Za1 _ _ C H ((w.alloc (.cells #[.slice xA C.length xc,.string Y,.string F,.string I,nI O,.slice xB D.length xd] 32)).alloc (.cells #[.slice yA H.length yc,.string ha,.string Q,.string S,nI U,.slice yB J.length yd] 32)) (V.ext (((Ext.refl _).alloc _).alloc _)) (X.ext (((Ext.refl _).alloc _).alloc _)) hn);have R:Hid (∀w1:Wq,Ext ((w.alloc (.cells #[.slice xA C.length xc,.string Y,.string F,.string I,nI O,.slice xB D.length xd] 32)).alloc (.cells #[.slice yA H.length yc,.string ha,.string Q,.string S,nI U,.slice yB J.length yd] 32)) w1->Ext (w.alloc (.cells #[.slice xA C.length xc,.string Y,.string F,.string I,nI O,.slice xB D.length xd] 32)) w1):=gd λw1 h=>((Ext.refl _).alloc _).trans h;generalize pathCmp C H=c at*;clear V A X Z hn;rcases hw with hp|⟨hp,h0|⟨h0,h1|⟨h1,h2|⟨h2,h3|⟨h3,h4⟩⟩⟩⟩⟩;have hb:(c !=0)=true:=by simpa using hp
 rotate_left
 iterate 4
  subst hp
  rotate_left
 subst hp;have he:((D.length:Int) !=(J.length:Int))=true:=by simp;omega
 have hd:(O !=U)=false:=by simpa using h3
 all_goals
  unfold cellsC fCells
  dsimp only
  go_enter func13,ntmps13
  go_wp2_with (first|(go_at_call 35;have hz:=hc.out;refine ZqD hz ?_;clear hz;rintro e w1 ⟨rfl,A⟩;have a0:=(R.out _ A).boxed 0 _ rfl;have a1:=(R.out _ A).boxed 1 _ rfl;have a2:=(R.out _ A).boxed 2 _ rfl;have a3:=(R.out _ A).boxed 3 _ rfl;have a4:=(R.out _ A).boxed 4 _ rfl;have a5:=(R.out _ A).boxed 5 _ rfl;have b0:=Xc A 0 _ rfl;have b1:=Xc A 1 _ rfl;have b2:=Xc A 2 _ rfl;have b3:=Xc A 3 _ rfl;have b4:=Xc A 4 _ rfl;have b5:=Xc A 5 _ rfl))
  go_ret
  exact ⟨rfl,(((Ext.refl _).alloc _).alloc _).trans A⟩
theorem ZdG {α:Type} {P:α->α->Prop} {a b:List α} {k:Nat} (F:k<a.length) (H:k<b.length) (h:∀j (A:j<a.length) (C:j<b.length),j<k->P a[j] b[j]) (D:P a[k] b[k]):∀j (A:j<a.length) (C:j<b.length),j<k+1->P a[j] b[j]:=by
 intro j A C I;by_cases e:j=k
 ·subst e;exact D
 ·exact h j A C om
theorem ZlQ (x y:Fc) (w:Wq) (hx:RdC w x) (hy:RdC w y) (hn:x.f.path.length<=16777216) (hm:x.f.ents.length<=16777216) (hp:pathCmp x.f.path y.f.path=0) (h0:(x.f.id.toList==y.f.id.toList)=true) (h1:(x.f.title.toList==y.f.title.toList)=true) (h2:(x.f.link.toList==y.f.link.toList)=true) (h3:(x.f.upd==y.f.upd)=true) (h4:x.f.ents.length=y.f.ents.length):
 Calls prog 13 #[.agg (cellsC x).toArray,.agg (cellsC y).toArray] w λe w'=>e= .returned (.bool (decide (x.f.ents=y.f.ents)))/\Ext w w':=by
 obtain ⟨xp,hP,⟨I,hs,J,Q,U,A⟩⟩:=x;obtain ⟨yp,hQ,⟨S,hC,V,hc,hd,C⟩⟩:=y;obtain ⟨hq,D⟩:=hx;obtain ⟨hr,hb⟩:=hy;dsimp only at*;obtain ⟨xA,xc,rfl, -, -⟩:=hq.form;obtain ⟨xB,xd,rfl, -, -⟩:=D.form;obtain ⟨yA,yc,rfl, -, -⟩:=hr.form;obtain ⟨yB,yd,rfl, -, -⟩:=hb.form;have Z:=gd (Za1 _ _ I S ((w.alloc (.cells #[.slice xA I.length xc,.string hs,.string J,.string Q,nI U,.slice xB A.length xd] 32)).alloc (.cells #[.slice yA S.length yc,.string hC,.string V,.string hc,nI hd,.slice yB C.length yd] 32)) (hq.ext (((Ext.refl _).alloc _).alloc _)) (hr.ext (((Ext.refl _).alloc _).alloc _)) hn);have F:Hid (∀w1:Wq,Ext ((w.alloc (.cells #[.slice xA I.length xc,.string hs,.string J,.string Q,nI U,.slice xB A.length xd] 32)).alloc (.cells #[.slice yA S.length yc,.string hC,.string V,.string hc,nI hd,.slice yB C.length yd] 32)) w1->Ext (w.alloc (.cells #[.slice xA I.length xc,.string hs,.string J,.string Q,nI U,.slice xB A.length xd] 32)) w1):=gd λw1 h=>((Ext.refl _).alloc _).trans h;rw[hp] at Z;have hH:(U !=hd)=false:=by simpa using h3
 obtain ⟨M,hM⟩:∃M,A.length=M:=⟨_,rfl⟩;have hf:C.length=M:=by rw[<-h4];exact hM
 obtain ⟨R,hR⟩:∃R,decide (A=C)=R:=⟨_,rfl⟩;rw[hR];have HR:=gd hR;have HM:=gd hM;have hi:=gd hf;unfold REnts at D hb;rw[hM] at Z F D hm;rw[hf] at Z F hb;have hF:=gd D;have hG:=gd hb;simp only[hM,hf];clear hq D hr hb hn hp h4 hM hf hR;unfold cellsC fCells;dsimp only;go_enter func13,ntmps13
 go_wp2_with (first|(go_at_call 35;have hz:=Z.out;refine ZqD hz ?_;clear hz;rintro e w1 ⟨rfl,D⟩;have a0:=(F.out _ D).boxed 0 _ rfl;have a1:=(F.out _ D).boxed 1 _ rfl;have a2:=(F.out _ D).boxed 2 _ rfl;have a3:=(F.out _ D).boxed 3 _ rfl;have a4:=(F.out _ D).boxed 4 _ rfl;have a5:=(F.out _ D).boxed 5 _ rfl;have b0:=Xc D 0 _ rfl;have b1:=Xc D 1 _ rfl;have b2:=Xc D 2 _ rfl;have b3:=Xc D 3 _ rfl;have b4:=Xc D 4 _ rfl;have b5:=Xc D 5 _ rfl))
 have hD:=gd a5;have hE:=gd b5;have hw:Ext w w1:=(((Ext.refl _).alloc _).alloc _).trans D;have he:=gd hw;clear a0 a1 a2 a3 a4 a5 b0 b1 b2 b3 b4 b5 F Z D h0 h1 h2 h3 hH hw;go_loopw [5] (λi wr=>∃k:Nat,k<=M/\i=nI k/\Hid (∀j (h1:j<A.length) (h2:j<C.length),j<k->A[j]=C[j])/\Ext w1 wr) (λi _=>M - (intOf i).toNat)
 case atStart=>exact ⟨0,ZqO _,rfl,gd (λj _ _ h=>by omega),Ext.refl _⟩
 case round=>
  obtain ⟨k,hk,rfl,hh,O⟩:=hrel;have a5:=O.cell hD.out;have b5:=O.cell hE.out;by_cases ho:k<M
  ·have hj:k<A.length:=(by rw[HM.out];exact ho);have hl:k<C.length:=(by rw[hi.out];exact ho);have hX:REnts wr (.slice xB M xd) A:=(by unfold REnts;rw[HM.out];exact hF.out.ext (he.out.trans O));have hY:REnts wr (.slice yB M yd) C:=(by unfold REnts;rw[hi.out];exact hG.out.ext (he.out.trans O));obtain ⟨ad,c1,e1,hu⟩:=hX.at hj;obtain ⟨ae,c2,e2,hv⟩:=hY.at hl;injection e1 with e1 e1' e1'';injection e2 with e2 e2' e2'';subst e1 e2;clear e1' e1'' e2' e2'' hX hY;have H:=ZdG (P:=λa b=>a=b) hj hl hh.out;have ha:A[k]≠C[k]->R=false:=λh=>(by rw[<-HR.out];refine Zre λe=>h ?_;subst e;rfl);obtain ⟨x,hA⟩:∃x,A[k]=x:=⟨_,rfl⟩;obtain ⟨y,hB⟩:∃y,C[k]=y:=⟨_,rfl⟩;rw[hA] at hu H ha;rw[hB] at hv H ha;have ht:=gd H;clear H hA hB hj hl;have hN:(0:Int)<=(k:Int):=om;have hO:(k:Int)<(M:Int):=om;obtain ⟨i1,t1,l1,X,u1⟩:=x;obtain ⟨i2,t2,l2,Y,u2⟩:=y;obtain ⟨p0,p1,p2,p3,p4⟩:=hu;obtain ⟨q0,q1,q2,q3,q4⟩:=hv;dsimp only at p0 p1 p2 p3 p4 q0 q1 q2 q3 q4;have A5:∀d:Aft wr,d.w.cell? ⟨w.heap.size,5,none⟩=some (.slice (some ad) M xd):=Aft.cell a5;have B5:∀d:Aft wr,d.w.cell? ⟨w.heap.size+1,5,none⟩=some (.slice (some ae) M yd):=Aft.cell b5;have P0:∀d:Aft wr,d.w.cell? (ad.add (k*5))=some (.string i1):=Aft.cell p0;have P1:∀d:Aft wr,d.w.cell? ⟨(ad.add (k*5)).block,(ad.add (k*5)).off+1,none⟩=some (.string t1):=Aft.cell p1;have P2:∀d:Aft wr,d.w.cell? ⟨(ad.add (k*5)).block,(ad.add (k*5)).off+2,none⟩=some (.string l1):=Aft.cell p2;have P3:∀d:Aft wr,d.w.cell? ⟨(ad.add (k*5)).block,(ad.add (k*5)).off+3,none⟩=some (.string X):=Aft.cell p3;have P4:∀d:Aft wr,d.w.cell? ⟨(ad.add (k*5)).block,(ad.add (k*5)).off+4,none⟩=some (nI u1):=Aft.cell p4;have Q0:∀d:Aft wr,d.w.cell? (ae.add (k*5))=some (.string i2):=Aft.cell q0;have Q1:∀d:Aft wr,d.w.cell? ⟨(ae.add (k*5)).block,(ae.add (k*5)).off+1,none⟩=some (.string t2):=Aft.cell q1;have Q2:∀d:Aft wr,d.w.cell? ⟨(ae.add (k*5)).block,(ae.add (k*5)).off+2,none⟩=some (.string l2):=Aft.cell q2;have Q3:∀d:Aft wr,d.w.cell? ⟨(ae.add (k*5)).block,(ae.add (k*5)).off+3,none⟩=some (.string Y):=Aft.cell q3;have Q4:∀d:Aft wr,d.w.cell? ⟨(ae.add (k*5)).block,(ae.add (k*5)).off+4,none⟩=some (nI u2):=Aft.cell q4;clear p0 p1 p2 p3 p4 q0 q1 q2 q3 q4;by_cases hg:(⟨i1,t1,l1,X,u1⟩:Ent)=⟨i2,t2,l2,Y,u2⟩
   ·injection hg with g1 g2 g3 g4 g5;subst g1 g2 g3 g4 g5;clear ha;go_wp2;refine rA ?_
    repeat (first|go_big_quiet_step (fail)|quiet_step (fail))
    refine Zru ?_;rintro _ ⟨d1,rfl⟩;go_wp2;go_roundw
    case rel=>exact ⟨k+1,ho,by go_num,gd (ht.out (by trivial)),O.trans d1.ext⟩
    case measure=>simp[intOf];omega
   ·have hI:=ha hg;subst hI;have hL:(i1.toList==i2.toList)=false\/(i1=i2/\((t1.toList==t2.toList)=false\/(t1=t2/\((l1.toList==l2.toList)=false\/(l1=l2/\((X.toList==Y.toList)=false\/(X=Y/\(u1==u2)=false))))))):=by
     cases g1:(i1.toList==i2.toList) with
     |false=>exact Or.inl rfl
     |true=>
     refine Or.inr ⟨toList_inj (by simpa using g1),?_⟩;cases g2:(t1.toList==t2.toList) with
     |false=>exact Or.inl rfl
     |true=>
     refine Or.inr ⟨toList_inj (by simpa using g2),?_⟩;cases g3:(l1.toList==l2.toList) with
     |false=>exact Or.inl rfl
     |true=>
     refine Or.inr ⟨toList_inj (by simpa using g3),?_⟩;cases g4:(X.toList==Y.toList) with
     |false=>exact Or.inl rfl
     |true=>
     refine Or.inr ⟨toList_inj (by simpa using g4),?_⟩;rw[ZqW];intro g5;exact hg (by rw[toList_inj (by simpa using g1:i1.toList=i2.toList),toList_inj (by simpa using g2:t1.toList=t2.toList),toList_inj (by simpa using g3:l1.toList=l2.toList),toList_inj (by simpa using g4:X.toList=Y.toList),g5])
    clear ha hg ht;rcases hL with h|⟨rfl,h|⟨rfl,h|⟨rfl,h|⟨rfl,h⟩⟩⟩⟩
    all_goals
     (go_wp2
      refine rA ?_
      repeat (first|go_big_quiet_step (fail)|quiet_step (fail))
      refine Zru ?_
      rintro _ ⟨d1,rfl⟩
      go_wp2
      go_ret
      exact ⟨rfl,he.out.trans (O.trans d1.ext)⟩)
  ·have hK:k=M:=om;subst hK;have hJ:R=true:=(by rw[<-HR.out];refine Zrj (List.ext_getElem (by rw[HM.out,hi.out]) λj h1 h2=>hh.out j h1 h2 (by have:=HM.out;omega)));subst hJ;go_wp2;go_ret;exact ⟨rfl,he.out.trans O⟩
theorem Uk (x y:Fc) (w:Wq) (H:RdC w x) (I:RdC w y) (F:x.f.path.length<=16777216) (Q:x.f.ents.length<=16777216):
 Calls prog 13 #[.agg (cellsC x).toArray,.agg (cellsC y).toArray] w λe w'=>e= .returned (.bool (decide (x.f=y.f)))/\Ext w w':=by
 have tl:∀{s t:ByteArray},(s.toList==t.toList)=false->s≠t:=λ{s t} h e=>by rw[e] at h;simp at h
 by_cases A:pathCmp x.f.path y.f.path=0
 ·cases C:(x.f.id.toList==y.f.id.toList) with
  |false=>rw[Zre (λe=>tl C (ZqS Fd.id e))];exact XV x y w H I F (Or.inr ⟨A,Or.inl C⟩)
  |true=>
  cases D:(x.f.title.toList==y.f.title.toList) with
  |false=>rw[Zre (λe=>tl D (ZqS Fd.title e))];exact XV x y w H I F (Or.inr ⟨A,Or.inr ⟨C,Or.inl D⟩⟩)
  |true=>
  cases J:(x.f.link.toList==y.f.link.toList) with
  |false=>rw[Zre (λe=>tl J (ZqS Fd.link e))];exact XV x y w H I F (Or.inr ⟨A,Or.inr ⟨C,Or.inr ⟨D,Or.inl J⟩⟩⟩)
  |true=>
  cases h3:(x.f.upd==y.f.upd) with
  |false=>rw[Zre (λe=>by rw[ZqS Fd.upd e] at h3;simp at h3)];exact XV x y w H I F (Or.inr ⟨A,Or.inr ⟨C,Or.inr ⟨D,Or.inr ⟨J,Or.inl h3⟩⟩⟩⟩)
  |true=>
  by_cases O:x.f.ents.length=y.f.ents.length
  ·have e:decide (x.f=y.f)=decide (x.f.ents=y.f.ents):=by
    have R:=ZcN A;have e1:=toList_inj (by simpa using C:x.f.id.toList=y.f.id.toList);have e2:=toList_inj (by simpa using D:x.f.title.toList=y.f.title.toList);have e3:=toList_inj (by simpa using J:x.f.link.toList=y.f.link.toList);have e4:x.f.upd=y.f.upd:=(by simpa using h3);rw[decide_eq_decide];constructor
    ·intro h;rw[h]
    ·intro h;generalize x.f=a at*;generalize y.f=b at*;cases a;cases b
     simp_all
   rw[e];exact ZlQ x y w H I F Q A C D J h3 O
  ·rw[Zre (λe=>O (by rw[e]))];exact XV x y w H I F (Or.inr ⟨A,Or.inr ⟨C,Or.inr ⟨D,Or.inr ⟨J,Or.inr ⟨h3,O⟩⟩⟩⟩⟩)
 ·rw[Zre (λe=>A (by rw[e];exact Zjk.self _))];exact XV x y w H I F (Or.inl A)
abbrev laidAll : List (String × DataW Unit) := [("math/bits.deBruijn32tab", Rows.laid_math_bits_deBruijn32tab), ("math/bits.deBruijn64tab", Rows.laid_math_bits_deBruijn64tab), ("internal/strconv.uint64pow10", Rows.laid_internal_strconv_uint64pow10), ("unicode/utf8.acceptRanges", Rows.laid_unicode_utf8_acceptRanges), ("feedvault/text.startRanges", Rows.laid_feedvault_text_startRanges), ("feedvault/text.moreRanges", Rows.laid_feedvault_text_moreRanges), ("feedvault/jsonstring.letters", Rows.laid_feedvault_jsonstring_letters), ("unicode/utf8.first", Rows.laid_unicode_utf8_first)]
theorem ZiK:Rows.laid_unicode_utf8_first=Lib.firstData:=by kernel_rfl
theorem ZgJ:(Rows.laid_unicode_utf8_acceptRanges:DataW Unit)=Lib.acceptData:=by kernel_rfl
theorem Znn:(Rows.laid_internal_strconv_uint64pow10:DataW Unit)=Lib.tabData .u64 Lib.pow10Tab:=by kernel_rfl
theorem Znm:(Rows.laid_feedvault_jsonstring_letters:DataW Unit)= .agg [.agg [.lit (.int .u8 98),.lit (.int .u8 8)],.agg [.lit (.int .u8 102),.lit (.int .u8 12)],.agg [.lit (.int .u8 110),.lit (.int .u8 10)],.agg [.lit (.int .u8 114),.lit (.int .u8 13)],.agg [.lit (.int .u8 116),.lit (.int .u8 9)]]:=rfl
theorem Zql : prog.globalNamed "feedvault/jsonstring.letters" = some 5 := by kernel_rfl
theorem gDb : prog.globalNamed "math/bits.deBruijn64tab" = some 7 := by kernel_rfl
theorem Qj {P:Program} {W:World} {n:String} {g:Nat} {cs:Array Value} (C:P.globalNamed n=some g) (h:W.var? P n=some cs):∃t fr,W.heap[g]? =some (.cells cs t fr):=by
 unfold World.var? at h;rw[C] at h;simp only[Option.bind_some] at h;split at h
 ·rename_i A t fr D;injection h with h;subst h;exact ⟨t,fr,D⟩
 ·cases h
theorem ZpN {α:Type} {l:List α} (h:l.length=10):∃a b c d e f g i j k,l= [a,b,c,d,e,f,g,i,j,k]:=by
 match l,h with
 | [a,b,c,d,e,f,g,i,j,k],_=>exact ⟨a,b,c,d,e,f,g,i,j,k,rfl⟩
theorem Ua {W:World} (h:laidMet prog laidAll W):Env W:=by
 have r5 := ZsN h (n := "unicode/utf8.first") (.tail _ (.tail _ (.tail _ (.tail _ (.tail _ (.tail _ (.tail _ (.head _))))))))
 have r3 := ZsN h (n := "unicode/utf8.acceptRanges") (.tail _ (.tail _ (.tail _ (.head _))))
 have r2 := ZsN h (n := "internal/strconv.uint64pow10") (.tail _ (.tail _ (.head _)))
 have r4 := ZsN h (n := "feedvault/jsonstring.letters") (.tail _ (.tail _ (.tail _ (.tail _ (.tail _ (.tail _ (.head _)))))))
 have r1 := ZsN h (n := "math/bits.deBruijn64tab") (.tail _ (.head _))
 rw[ZiK] at r5;rw[ZgJ] at r3;rw[Znn] at r2;rw[Znm] at r4;refine ⟨?_,?_,?_,?_⟩
 ·exact utf8Tabs_of_reads (ρ:=lays197_ren) {lays197 with} ⟨by kernel_rfl,by kernel_rfl,by kernel_rfl,by kernel_rfl,by kernel_rfl,by kernel_rfl,by kernel_rfl⟩ r5 r3
 ·obtain ⟨g,t,cs,fuel,p,hg,hty,hvar,hd⟩:=r2;obtain rfl:=ZrI (Zqm.symm.trans hg);obtain rfl:=ZrI ((show (prog.globals[4]?).map (·.type)=some 306 by kernel_rfl).symm.trans hty);unfold Lib.TabIs;rw[hvar,<-Lib.cells_of_tab underlying306 underlying256 (by kernel_rfl) (by kernel_rfl) hd]
 ·obtain ⟨g,t,cs,fuel,p,hg,hty,hvar,hd⟩:=r1;obtain rfl:=ZrI (gDb.symm.trans hg);obtain ⟨t',fr,hh⟩:=Qj gDb hvar;have:=(Zrg.1 hh).1;omega
 ·obtain ⟨g,t,cs,fuel,p,hg,hty,hvar,hd⟩:=r4;obtain rfl:=ZrI (Zql.symm.trans hg);obtain rfl:=ZrI ((show (prog.globals[5]?).map (·.type)=some 310 by kernel_rfl).symm.trans hty);obtain ⟨t',fr,hh⟩:=Qj Zql hvar;have c2:prog.cellsOf 309=2:=by kernel_rfl
  have c10:prog.cellsOf 310=10:=by kernel_rfl
  obtain ⟨xs,m,hf,hx,hlen,hxl,hel⟩:=DataW.trod_array underlying310 hd;rw[c10] at hlen;obtain ⟨l⟩:=cs;obtain ⟨a,b,c,d,e,f,g,i,j,k,hl⟩:=ZpN hlen;have hl':l= [a,b,c,d,e,f,g,i,j,k]:=hl;subst hl';have part:∀(q:Nat) (z1 z2:Int),q<5->
   ([.agg [.lit (.int .u8 98),.lit (.int .u8 8)],.agg [.lit (.int .u8 102),.lit (.int .u8 12)],.agg [.lit (.int .u8 110),.lit (.int .u8 10)],.agg [.lit (.int .u8 114),.lit (.int .u8 13)],.agg [.lit (.int .u8 116),.lit (.int .u8 9)]]:List (DataW Unit))[q]? =some (Lib.tabData .u8 [z1,z2])->
   (([a,b,c,d,e,f,g,i,j,k]:List Value).drop (q*2)).take 2= [.int .u8 z1,.int .u8 z2]:=by
   intro q z1 z2 hq hz
   obtain ⟨fuel',dd,pp,hdi,he⟩:=Lib.array_elem underlying310 hd q hq
   obtain rfl:=ZrI (hz.symm.trans hdi)
   rw[c2] at he
   have:=Lib.cells_of_tab underlying309 underlying5 (by kernel_rfl) c2 he
   simpa using this
  have p0:=part 0 98 8 (by decide) rfl;have p1:=part 1 102 12 (by decide) rfl;have p2:=part 2 110 10 (by decide) rfl;have p3:=part 3 114 13 (by decide) rfl;have p4:=part 4 116 9 (by decide) rfl;simp at p0 p1 p2 p3 p4;obtain ⟨rfl,rfl⟩:=p0;obtain ⟨rfl,rfl⟩:=p1;obtain ⟨rfl,rfl⟩:=p2;obtain ⟨rfl,rfl⟩:=p3;obtain ⟨rfl,rfl⟩:=p4;exact ⟨t',fr,hh⟩
theorem Zhe:∀(L:List (Nat×Nat)) (l:List Value),l.length=L.length*2->(∀(q:Nat) (h:q<L.length),(l.drop (q*2)).take 2= [.int .i32 (L[q].1:Nat),.int .i32 (L[q].2:Nat)])->l=L.flatMap λp=> [Value.int .i32 (p.1:Nat),Value.int .i32 (p.2:Nat)]
 | [],l,hl,_=>by
  rw[Zq5,Zsl] at hl
  exact ZqX hl
 |p::t,l,hl,h=>by
  have A:=h 0 (Nat.succ_pos _)
  rw[Zsl,Zsf] at A
  rw[ZqK] at hl
  have ih:=Zhe t (l.drop 2) (by rw[ZqP];omega) (λq D=>by
   have C:=h (q+1) (Nat.succ_lt_succ D)
   rw[List.drop_drop]
   rw[show 2+q*2=(q+1)*2 by omega]
   exact C)
  rw[<-ZrR 2 l,A,ih,ZrU]
  rfl
theorem Zhf {W:World} {nm:String} {g:Nat} {t e:TypeId} {L:List (Nat×Nat)} (U:prog.globalNamed nm=some g) (J:(prog.globals[g]?).map (·.type)=some t) (X:prog.underlying t=some (.array L.length e)) (Y:prog.underlying e=some (.array 2 21)) (R:prog.cellsOf e=2) (ct:prog.cellsOf t=L.length*2)
 (h:Lib.VarReads prog W nm (.agg (L.map λp=> .agg [.lit (.int .i32 (p.1:Nat)),.lit (.int .i32 (p.2:Nat))]))):∃ty fr,W.heap[g]? =some (.cells (pairCells L) ty fr):=by
 obtain ⟨g',t',cs,fuel,p,I,O,F,S⟩:=h;obtain rfl:=ZrI (U.symm.trans I);obtain rfl:=ZrI (J.symm.trans O);obtain ⟨ty,fr,hh⟩:=Qj U F;obtain ⟨xs,m,hf,hx,A,ha,Z⟩:=DataW.trod_array X S;rw[ct] at A;have Q:=Zhe L cs.toList A λq V=>by obtain ⟨H,dd,pp,D,C⟩:=Lib.array_elem X S q V;rw[Zrq,ZqL V] at D;obtain rfl:=ZrI D;rw[R] at C;exact Lib.cells_of_tab (zs:= [(L[q].1:Nat),(L[q].2:Nat)]) Y underlying21 (by kernel_rfl) R C
 refine ⟨ty,fr,?_⟩;rw[hh];have:cs=pairCells L:=by unfold pairCells;rw[<-Q]
 rw[this]
theorem ZiL:(Rows.laid_feedvault_text_startRanges:DataW Unit)= .agg (startL.map λp=> .agg [.lit (.int .i32 (p.1:Nat)),.lit (.int .i32 (p.2:Nat))]):=rfl
theorem Zlh:(Rows.laid_feedvault_text_moreRanges:DataW Unit)= .agg (moreL.map λp=> .agg [.lit (.int .i32 (p.1:Nat)),.lit (.int .i32 (p.2:Nat))]):=rfl
theorem Vx {W:World} (h:laidMet prog laidAll W):NmTabs W:=by
 have r1 := ZsN h (n := "feedvault/text.startRanges") (.tail _ (.tail _ (.tail _ (.tail _ (.head _)))))
 have r2 := ZsN h (n := "feedvault/text.moreRanges") (.tail _ (.tail _ (.tail _ (.tail _ (.tail _ (.head _))))))
 rw[ZiL] at r1;rw[Zlh] at r2;exact ⟨Zhf (by kernel_rfl) (by kernel_rfl) (t:=301) (e:=299) underlying301 underlying299 (by kernel_rfl) (by kernel_rfl) r1,Zhf (by kernel_rfl) (by kernel_rfl) (t:=300) (e:=299) underlying300 underlying299 (by kernel_rfl) (by kernel_rfl) r2⟩
theorem ZoX:ownKnob prog.godebug=none:=by kernel_rfl
theorem Qn:laidOutB prog=true:=by kernel_rfl
end Go.Proofs.YtmfinhgobjbecaaGreatDoor
