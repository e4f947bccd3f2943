/- Parts of the proof: contracts and plain laws. -/
import Derived.Test.YtnlafkgkcnenfaaGreatDoorU28
namespace Go.Proofs.YtnlafkgkcnenfaaGreatDoor
open Go Go.RowKit Go.Joins Go.ChangeShapes Go.WideShapes Go.ChangeAt Go.Deep _root_.Go.Proofs.Tryz
set_option linter.unusedVariables false
set_option linter.unusedSimpArgs false
set_option maxRecDepth 100000
set_option maxHeartbeats 16000000
section
variable {B n:Nat} {P:Program} {a:Act} {f:Fd} {v:Value} {w:World}
theorem Zrq (l:List ByteArray):∀u∈l.map Value.string,u.oneCell'=true:=by
 intro u h;obtain ⟨s,_,rfl⟩:=ZU.1 h;rfl
def toldQ (R:Act->Wq->Prop):Exit->Act->Wq->Prop
 | .normal,a',w'=>R a' w'
 |_,_,_=>False
theorem ZuA {c:Code} {Q:Exit->Act->Wq->Prop} (R:Act->Act->Wq->Prop) (A:∀a' w',R a a' w'->Q .normal a' w') (D:c.wp P (toldQ (R a)) a w):c.wp P Q a w:=
 Code.wp_mono (λe a' w' h=>by cases e<;>first|exact A a' w' h|exact h.elim) D
theorem Zum (W:Wq) {a b c:ByteArray}:((W.drew.alloc (.cells #[.string a,.string b,.string c] 9)).alloc (.cells #[] 9)).ownsRow W.heap.size 9 1 (.slice (some ⟨W.heap.size+1,0,none⟩) 0 0) 0 []:=by
 have h:=Jx (w:=W.drew.alloc (.cells #[.string a,.string b,.string c] 9)) (base:=W.heap.size) (e:=9) (size:=1) (n:=0) (cs:= []) (by rw[Zu];exact Yu _) rfl (by decide);rw[Zu] at h;exact h
theorem ZuL (W:Wq) (a b c:ByteArray) {O:Obj}:RSl ((W.drew.alloc O).alloc (.cells #[.string a,.string b,.string c] 9)) 1 (.slice (some ⟨W.heap.size+1,0,none⟩) 3 3) 3 [.string a,.string b,.string c]:=by
 have h:=Yo (w:=W.drew.alloc O) (size:=1) (n:=3) (e:=9) (cs:= [.string a,.string b,.string c]) rfl (by decide);rw[Zu] at h;exact h
theorem ZuM (W:Wq) (a b c:ByteArray) {O:Obj}:RSl ((W.drew.alloc (.cells #[.string a,.string b,.string c] 9)).alloc O) 1 (.slice (some ⟨W.heap.size,0,none⟩) 3 3) 3 [.string a,.string b,.string c]:=
 (Yo (w:=W.drew) (size:=1) (n:=3) (e:=9) (cs:= [.string a,.string b,.string c]) rfl (by decide)).ext ((Ext.refl _).alloc _)
theorem Zta {path ents} {a b c:ByteArray} {u:Int} (h:w.ownsRow B 9 1 v (0+path.length+3) (([]++path.map Value.string)++ [.string a,.string b,.string c])):
 RSl w 1 v (path.length+3) ((strsF ⟨path,a,b,c,u,ents⟩).map Value.string):=by
 have h:=RSl.of_own h;unfold strsF;simpa using h
theorem ZrS (s:ByteArray):s.toList.isEmpty=decide (s=noS):=by
 have A:noS.toList= []:=by rw[Jp];rfl
 by_cases h:s=noS
 ·subst h;rw[YG rfl,A];rfl
 ·rw[Yd h];cases hl:s.toList with
  |nil=>exact absurd (toList_inj (by rw[hl,A])) h
  |cons _ _=>rfl
theorem ZsW (a:ByteArray) (l:List ByteArray):((collapse a).toList.isEmpty||l.any λp=>(collapse p).toList.isEmpty)=decide (collapse a=noS\/(l.any λp=>decide (collapse p=noS))=true):=by
 have h:(λp:ByteArray=>(collapse p).toList.isEmpty)=λp=>decide (collapse p=noS):=funext λp=>ZrS _;rw[h,ZrS,Bool.decide_or,Bool.decide_eq_true]
theorem ZrK (h:headF f=n) (D:n≠0):errF f=n/\normF f=zeroF:=by
 have A:errF f=n:=by unfold errF;rw[h,Ze D]
 exact ⟨A,by unfold normF;rw[A,Ze D]⟩
theorem ZtR {t:Int} (h:inT t=false):t< -62135596800\/253402300799<t:=by
 unfold inT at h;rw[Bool.and_eq_false_iff] at h;rcases h with h|h
 ·have:=of_decide_eq_false h;exact Or.inl om
 ·have:=of_decide_eq_false h;exact Or.inr om
theorem Zue {t:Int} (h:inT t=true):¬t< -62135596800/\¬253402300799<t:=by
 unfold inT at h;rw[ZG] at h;have A:=YK h.1;have D:=YK h.2;exact ⟨om,om⟩
attribute [local go_sem ↓] Go.wp_at_zero Go.wp_at_succ
attribute [local go_sem] calm1
theorem Ztv (x:Fc) (w:Wq) (hE:Env w) (hk:fokS x.f) (hr:RdC w x) (h8:x.f.ents= []):
 Calls prog 73 #[.agg (cellsC x).toArray] w λe w'=>∃y:Fc,e= .returned (.tuple #[.agg (cellsC y).toArray,nI (errF x.f:Nat)])/\y.f=normF x.f/\RdC w' y/\(∀q,q<w.heap.size->awayC y (some q))/\Ext w w':=by
 obtain ⟨i0,hP,hT,hU,hV⟩:=YH ZmV;obtain ⟨F,hF⟩:∃F,x.f=F:=⟨_,rfl⟩;rw[hF];rw[hF] at hk;obtain ⟨EF,gx⟩:∃n,errF F=n:=⟨_,rfl⟩;obtain ⟨NF,gA⟩:∃n,normF F=n:=⟨_,rfl⟩;simp only[gx,gA];have hI:=gd gx;have hJ:=gd gA;clear gx gA;have fa:(strsF F).length=F.path.length+3:=by unfold strsF;simp
 have fe:∀s∈strsF F,s.size<=16777216:=by
  have h2:=hk.1.2;intro s hs;unfold strsF at hs;rcases Zs.1 hs with hs|hs
  ·have:=XZ hs;omega
  ·simp only[ZH,ZY,Y1] at hs;rcases hs with rfl|rfl|rfl<;>omega
 have gU:=gd (λ(w':Wq) (v:Value) (h:RSl w' 1 v (F.path.length+3) ((strsF F).map Value.string))=>Zrx v (strsF F) w' (by rw[fa];exact h) fe);have f3:F.path.length<=16777216:=by have:=hk.1.2;omega
 have gt:Hid (0+F.path.length<=maxLen):=gd (by unfold maxLen;omega);have gs:Hid ((0+F.path.length)*16<=140737488355328):=gd om;have gl:Hid (0+F.path.length+3<=maxLen):=gd (by unfold maxLen;omega);have gk:Hid ((0+F.path.length+3)*16<=140737488355328):=gd om;have gH:=hr.1;have fD:=hr.sl;rw[hF] at gH;have g0:=gd hr.2;have HK:=gd hk;obtain ⟨EC,gw⟩:∃n,firstErr (strsF F)=n:=⟨_,rfl⟩;rw[gw] at gU;have gX:=gd gw;clear gw fa fe hk hr;obtain ⟨xp,f5,⟨A,J,D,H,Q,I⟩⟩:=x;have fk:Hid (I= []):=gd h8;clear h8;obtain ⟨⟨xA,xn,xc,fL⟩,⟨xB,xm,xd,fK⟩⟩:=fD;dsimp only at*;subst fL fK;have fS:=gd hF;subst hF;dsimp only at*;obtain ⟨A',c',e1, -, -⟩:=gH.form;injection e1 with e1 e2 e3;subst e1 e2 e3;have HP:=gd gH;have gI:=g0.out;obtain ⟨B',d',e1, -, -⟩:=gI.form;injection e1 with e1 e2 e3;subst e1 e2 e3;have fT:=gd gI;clear gI g0;unfold cellsC fCells;dsimp only;go_enter func73,ntmps73;go_wp2;obtain ⟨W,hW⟩:∃W,W=(w.alloc (.cells #[.slice xA A.length xc,.string J,.string D,.string H,nI Q,.slice xB I.length xd] 55)).alloc (.cells #[sN,eS,eS,eS,nI 0,sN] 55):=⟨_,rfl⟩;rw[<-hW];have hA:Ext w W:=by rw[hW];exact ((Ext.refl w).alloc _).alloc _
 have hN:Ext (w.alloc (.cells #[.slice xA A.length xc,.string J,.string D,.string H,nI Q,.slice xB I.length xd] 55)) W:=by rw[hW];exact (Ext.refl _).alloc _
 have gP:W.heap[w.heap.size+1]? =some (.cells #[sN,eS,eS,eS,nI 0,sN] 55):=by rw[hW];exact YS _ _ _
 have h6:Hid (W.heap.size=w.heap.size+1+1):=gd (by rw[hW];simp only[Zu]);have hB:Hid (∀w',Ext W w'->w'.cell? ⟨w.heap.size,0,none⟩=some (.slice xA A.length xc)/\w'.cell? ⟨w.heap.size,1,none⟩=some (.string J)/\w'.cell? ⟨w.heap.size,2,none⟩=some (.string D)/\w'.cell? ⟨w.heap.size,3,none⟩=some (.string H)/\w'.cell? ⟨w.heap.size,4,none⟩=some (nI Q)/\w'.cell? ⟨w.heap.size,5,none⟩=some (.slice xB I.length xd)):=gd λw' h=>⟨(hN.trans h).boxed 0 _ rfl,(hN.trans h).boxed 1 _ rfl,(hN.trans h).boxed 2 _ rfl,(hN.trans h).boxed 3 _ rfl,(hN.trans h).boxed 4 _ rfl,(hN.trans h).boxed 5 _ rfl⟩;clear hW;refine ZuA (λa0 a' w'=>Ext W w'/\∃fh fi v21 v22:Value,a'=((((((((((((((a0.put (some 11) fh).put (some 12) (.pointer (some ⟨w.heap.size,0,none⟩))).put (some 13) (.slice xA A.length xc)).put (some 14) fi).put (some 15) (.pointer (some ⟨w.heap.size,1,none⟩))).put (some 16) (.string J)).put (some 17) (.pointer (some ⟨w.heap.size,2,none⟩))).put (some 18) (.string D)).put (some 19) (.pointer (some ⟨w.heap.size,3,none⟩))).put (some 20) (.string H)).put (some 21) v21).put (some 22) v22).put (some 23) (nI EC)).put (some 4) (nI EC))) ?_ ?_
 ·rintro _ w1 ⟨gc,fh,fi,v21,v22,rfl⟩;have ge:=gc.heap gP;have fp:=gd (hA.trans gc);by_cases h9:EC=0
  ·subst h9;have fv:=hB.out w1 gc;obtain ⟨b0,b1,b2,b3,b4,b5⟩:=fv;have a1:∀d:Aft w1,d.w.cell? ⟨w.heap.size,1,none⟩=some (.string J):=Aft.cell b1;have a2:∀d:Aft w1,d.w.cell? ⟨w.heap.size,2,none⟩=some (.string D):=Aft.cell b2;have a3:∀d:Aft w1,d.w.cell? ⟨w.heap.size,3,none⟩=some (.string H):=Aft.cell b3;have a4:∀d:Aft w1,d.w.cell? ⟨w.heap.size,4,none⟩=some (nI Q):=Aft.cell b4;have s1:J.size<=16777216:=(by have:=HK.out.1.2;simp only at this;omega);have s2:D.size<=16777216:=(by have:=HK.out.1.2;simp only at this;omega);have s3:H.size<=16777216:=(by have:=HK.out.1.2;simp only at this;omega);clear b0 b1 b2 b3 b4 b5;go_wp2;refine KF 12 (.cells #[sN,eS,eS,eS,nI 0,sN] 55) _ (by kernel_rfl) rfl (by kernel_rfl) (λa w K h=>by go_simp;exact h) ?_
   repeat (refine GT (λK hK=> ?_);go_simp;first|(refine hK _ ?_;clear hK K)|(apply Gf;refine ⟨λ_=> ?_,hK _ ?_⟩;(go_at_call 120;exact ZrB (Zrt _ _ (by assumption)));clear hK K))
   refine Ii ?_;intro g c hg go;refine Zrr rfl 55 (.tmp 5) (.tmp 39) rfl g _ rfl rfl _ _ go Jh rfl Zfv ?_;intro W3 h7 g5 _;have gM:Ext w1 W3:=g5 w1 c.ext hg;have gE:W.heap.size<=g:=Zp gc.size hg;have gF:g<W3.heap.size:=(ZP.1 h7).1;obtain ⟨d0,d1,d2,d3,d4,d5⟩:=Zo5 h7;clear go g5 a1 a2 a3 a4 s1 s2 s3;have gW:Hid (∀(v:Value) (wr:Wq),Ext (W3.setCell ⟨g,0,none⟩ v) wr->wr.cell? ⟨g,0,none⟩=some v/\wr.frozen? ⟨g,0,none⟩=false/\Ext W wr):=gd λv wr h=>
    ⟨h.cell (KJ _ _ _ d0),(JP h (by simp[World.setCell];exact gF)).trans (by rw[XX];exact Z5 h7 0),(Ext.setCell (gc.trans gM) gE _).trans h⟩
   have fV:=gd gM;have fl:=gd d0;have hZ:=gd gF;have gg:=gd gE;have HD:Hid (W3.cell? ⟨g,1,none⟩=some (.string (collapse J))/\W3.cell? ⟨g,2,none⟩=some (.string (collapse D))/\W3.cell? ⟨g,3,none⟩=some (.string (collapse H))/\W3.cell? ⟨g,4,none⟩=some (nI Q)/\W3.cell? ⟨g,5,none⟩=some sN):=gd ⟨d1,d2,d3,d4,d5⟩;have gR:=gd h7;obtain ⟨mb,fb⟩:∃mb,(collapse J).toList.isEmpty=mb:=⟨_,rfl⟩;have fo:=gd fb;have fQ:g≠w.heap.size:=(by have:=h6.out;omega);have fR:g≠w.heap.size+1:=(by have:=h6.out;omega);clear h7 gM gF gE;go_wp2;clear fb d0 d1 d2 d3 d4 d5;go_loopw [6,7] (λu i wr=>∃(k:Nat) (v:Value),k<=A.length/\i=nI k/\u= .bool (mb||(A.take k).any λp=>(collapse p).toList.isEmpty)/\wr.ownsRow W3.heap.size 9 1 v k ((A.take k).map λp=>Value.string (collapse p))/\Ext (W3.setCell ⟨g,0,none⟩ v) wr) (λ_ i _=>A.length - (intOf i).toNat)
   case atStart=>exact ⟨0,sN,Zj _,rfl,by simp,YF _ _ _ _,by rw[ZfM _ _ _ _ fl.out];exact Ext.refl _⟩
   case round=>
    obtain ⟨k,v,hk,rfl,rfl,V,hG⟩:=hrel;obtain ⟨gQ,fj,hM⟩:=gW.out v wr hG;obtain ⟨b0,b1,b2,b3,b4,b5⟩:=hB.out wr hM;by_cases hQ:k<A.length;obtain ⟨ad,c1,e1,gD⟩:=HP.out.at hQ;have hc:=(hA.trans hM).cell gD;injection e1 with e1 e1' e1'';subst e1;clear e1' e1'';obtain ⟨vA,vc,hv, -, -⟩:=(RSl.of_own V).2;subst hv;have gK:A[k].size<=16777216:=(by have h1:=XZ (ZL hQ);have:=HK.out.1.2;simp only at this;omega);have gb:=Zr hQ;obtain ⟨s,hs⟩:∃s,A[k]=s:=⟨_,rfl⟩;rw[hs] at gD hc gK gb;obtain ⟨S,hS⟩:∃S,collapse s=S:=⟨_,rfl⟩;have gV:=gd (λw':Wq=>Zrt s w' gK);rw[hS] at gV;have fU:=gd gb;have gZ:=gd V;have ft:=gd hG;have fN:(0:Int)<=(k:Int):=om;have fO:(k:Int)<(A.length:Int):=om;have gY:Hid (k+1<=maxLen):=gd (by unfold maxLen;omega);have gS:Hid ((k+1)*16<=140737488355328):=gd om;have fw:W3.heap.size<=wr.heap.size:=(by have:=hG.size;simpa [World.setCell] using this);have gG:(A.take k).length=k:=(by rw[ZM];omega);have gL:(A.take (k+1)).map (λp=>Value.string (collapse p))=(A.take k).map (λp=>Value.string (collapse p))++ [.string S]:=(by rw[gb,ZS,<-hS];rfl);have g8:((A.take (k+1)).map λp=>Value.string (collapse p))[k]? =some (.string S):=(by rw[gL,Yt (by rw[Zq,gG];exact Zc _),Zq,gG,Nat.sub_self];rfl);have gu:Hid (∀(w5:Wq) (A5:Option Addr) (c5:Nat),w5.ownsRow W3.heap.size 9 1 (.slice A5 (k+1) c5) (k+1) ((A.take k).map (λp=>Value.string (collapse p))++ [.string S])->Ext (W3.setCell ⟨g,0,none⟩ (.slice vA k vc)) w5->
     w5.cell? ⟨g,0,none⟩=some (.slice vA k vc)/\w5.frozen? ⟨g,0,none⟩=false/\∃b5,A5=some b5/\(w5.setCell ⟨g,0,none⟩ (.slice (some b5) (k+1) c5)).cell? ⟨g,0,none⟩=some (.slice (some b5) (k+1) c5)/\(w5.setCell ⟨g,0,none⟩ (.slice (some b5) (k+1) c5)).cell? (b5.add k)=some (.string S)/\
     (w5.setCell ⟨g,0,none⟩ (.slice (some b5) (k+1) c5)).ownsRow W3.heap.size 9 1 (.slice (some b5) (k+1) c5) (k+1) ((A.take (k+1)).map λp=>Value.string (collapse p))/\Ext (W3.setCell ⟨g,0,none⟩ (.slice (some b5) (k+1) c5)) (w5.setCell ⟨g,0,none⟩ (.slice (some b5) (k+1) c5))):=gd λw5 A5 c5 R hy=>by
     rw[<-gL] at R
     have gi:=R.lt
     obtain ⟨p0,pf,fW⟩:=gW.out _ w5 hy
     obtain ⟨b5,gC,fy⟩:=RSl.at1 (RSl.of_own R) k _ g8
     subst gC
     have ff:(⟨g,0,none⟩:Addr)≠b5.add k:=by
      intro e
      have e1:=Zz Addr.block e
      rw[U1] at e1
      have h1:=(gi b5.block rfl).1
      have h2:=hZ.out
      simp only at e1
      omega
     exact ⟨p0,pf,b5,rfl,KJ w5 ⟨g,0,none⟩ (.slice (some b5) (k+1) c5) p0,(Xi w5 ⟨g,0,none⟩ (b5.add k) (.slice (some b5) (k+1) c5) ff).trans fy,Zp2 R (a:=⟨g,0,none⟩) hZ.out (.slice (some b5) (k+1) c5),Zfd (v:= .slice (some b5) (k+1) c5) hy⟩
    have hw:(mb||(A.take (k+1)).any λp=>(collapse p).toList.isEmpty)=((mb||(A.take k).any λp=>(collapse p).toList.isEmpty)||S.toList.isEmpty):=(by rw[gb,List.any_append,<-hS];simp[Bool.or_assoc]);obtain ⟨M1,gz⟩:∃M1,(mb||(A.take (k+1)).any λp=>(collapse p).toList.isEmpty)=M1:=⟨_,rfl⟩;obtain ⟨M0,gy⟩:∃M0,(mb||(A.take k).any λp=>(collapse p).toList.isEmpty)=M0:=⟨_,rfl⟩;rw[gy] at hw;rw[gy];rw[gz] at hw;have fn:=gd gz;have fP:(k:Int)<(k:Int)+1:=om;clear hs gb gK V b1 b2 b3 b4 b5 gD gG gL g8 gz gy hS fj hG;cases hem:S.toList.isEmpty;rw[hem,Bool.or_false] at hw
    rotate_left
    rw[hem,Bool.or_true] at hw
    rotate_left
    ·have fC:k=A.length:=om;subst fC;have hR:A.take A.length=A:=ZQ (Zc _);rw[hR] at V|-;have ga:=ZsW J A;rw[fo.out] at ga;rw[ga];have U:headF ⟨A,J,D,H,Q,I⟩=if collapse J=noS\/(A.any λp=>decide (collapse p=noS))=true then 19 else if 64<A.length then 9 else if inT Q then 0 else 3:=(by unfold headF;rw[gX.out,Ze (by decide)])
     have hX:=hM.heap gP;have fq:=gd (hA.trans hM);clear hR ga;by_cases hm:collapse J=noS\/(A.any λp=>decide (collapse p=noS))=true
     focus
      have hh:=U
      rw[Zi hm] at hh
      rw[YG hm]
      clear U hm
      obtain ⟨he,hn⟩:=ZrK hh (by decide)
      have ha:=hI.out.symm.trans he
      have hd:=hJ.out.symm.trans hn
      subst ha hd
      clear he hn hh
      go_wp2_with (first|(refine Zf rfl 55 (.tmp 2) (.tmp 68) rfl (w.heap.size+1) _ rfl rfl _ _ hX Jh rfl Zfv ?_))
     rotate_left
     rw[Ze hm] at U;rw[Yd hm];clear hm;by_cases gh:64<A.length
     focus
      have hh:=U
      rw[Zi gh] at hh
      have gn:(64:Int)<(A.length:Int):=om
      clear U gh
      obtain ⟨he,hn⟩:=ZrK hh (by decide)
      have ha:=hI.out.symm.trans he
      have hd:=hJ.out.symm.trans hn
      subst ha hd
      clear he hn hh
      go_wp2_with (first|(refine Zf rfl 55 (.tmp 2) (.tmp 73) rfl (w.heap.size+1) _ rfl rfl _ _ hX Jh rfl Zfv ?_))
     rotate_left
     rw[Ze gh] at U;have gn:¬(64:Int)<(A.length:Int):=om;clear gh;cases hti:inT Q;have hh:headF ⟨A,J,D,H,Q,I⟩=3:=(by rw[U,hti];rfl);have gJ:=ZtR hti;clear U hti;rcases gJ with gJ|gJ
     focus
      have fE:¬253402300799<Q:=om
      obtain ⟨he,hn⟩:=ZrK hh (by decide)
      have ha:=hI.out.symm.trans he
      have hd:=hJ.out.symm.trans hn
      subst ha hd
      clear he hn hh
      go_wp2_with (first|(refine Zf rfl 55 (.tmp 2) (.tmp 82) rfl (w.heap.size+1) _ rfl rfl _ _ hX Jh rfl Zfv ?_))
     rotate_left
     focus
      have fE:¬Q< -62135596800:=om
      obtain ⟨he,hn⟩:=ZrK hh (by decide)
      have ha:=hI.out.symm.trans he
      have hd:=hJ.out.symm.trans hn
      subst ha hd
      clear he hn hh
      go_wp2_with (first|(refine Zf rfl 55 (.tmp 2) (.tmp 82) rfl (w.heap.size+1) _ rfl rfl _ _ hX Jh rfl Zfv ?_))
     rotate_left
     ·have hh:headF ⟨A,J,D,H,Q,I⟩=0:=(by rw[U,hti];rfl);obtain ⟨fF,fG⟩:=Zue hti;have HH:=gd hh;clear U hti hh;obtain ⟨vA,vc,hv, -, -⟩:=(RSl.of_own V).2;subst hv;have gr:=hG.size;have g9:g<wr.heap.size:=(by have h1:=hZ.out;simp[World.setCell] at gr;omega);have hY:∀(i:Nat) (u:Value),i≠0->W3.cell? ⟨g,i,none⟩=some u->wr.cell? ⟨g,i,none⟩=some u:=λi u hi hu=>
       hG.cell ((Xi W3 ⟨g,0,none⟩ ⟨g,i,none⟩ _ (by intro e;exact hi (Zz Addr.off e).symm)).trans hu)
      have g7:wr.frozen? ⟨g,5,none⟩=false:=(JP hG (by simp[World.setCell];exact hZ.out)).trans (by rw[XX];exact Z5 gR.out 5);have c5:=hY 5 _ (by decide) HD.out.2.2.2.2;have HC:=gd (V7 gQ (V7 (hY 1 _ (by decide) HD.out.1) (V7 (hY 2 _ (by decide) HD.out.2.1) (V7 (hY 3 _ (by decide) HD.out.2.2.1) (hY 4 _ (by decide) HD.out.2.2.2.1)))));have gm:=gd V;have fm:=gd g7;have gT:=gd c5;have gf:=gd g9;have fr:=gd hM;have fY:I.length<=1000000:=HK.out.2.1;clear hY gr g7 c5 V gQ fj;obtain ⟨wP,fJ⟩:∃wP:Wq,wP=wr:=⟨_,rfl⟩;subst fJ;go_wp2;clear b0 b1 b2 b3 b4 b5 fF fG gn g9 hM hX;go_loopw [8] (λi wr=>∃(j:Nat) (u:Value),j<=I.length/\i=nI j/\OEnts wr wP.heap.size u (ordE.canon ((I.take j).map collE))/\Hid (∀e∈I.take j,errE e=0)/\Ext (wP.setCell ⟨g,5,none⟩ u) wr) (λi _=>I.length - (intOf i).toNat)
      case atStart=>exact ⟨0,sN,Zj _,rfl,show OEnts _ _ _ (ordE.canon []) from OEnts.nil _ _,gd (by simp),by rw[ZfM _ _ _ _ gT.out];exact Ext.refl _⟩
      case round=>
       obtain ⟨j,u,hj,rfl,V,gp,hD⟩:=hrel;have q5:=hD.cell (KJ _ _ _ gT.out);have hf:wr.frozen? ⟨g,5,none⟩=false:=(JP hD (by simp[World.setCell];exact gf.out)).trans (by rw[XX];exact fm.out);have gB:Ext W wr:=(Ext.setCell fr.out gg.out _).trans hD;obtain ⟨b0,b1,b2,b3,b4,b5⟩:=hB.out wr gB;have hws:wP.heap.size<=wr.heap.size:=(by have:=hD.size;simpa [World.setCell] using this);obtain ⟨uA,uc,hu, -, -⟩:=V.reads.form;subst hu;have fM:g<wr.heap.size:=YZ gf.out hws;by_cases hQ:j<I.length
       ·exact absurd hQ (by rw[fk.out];exact Nat.not_lt_zero _)
       ·have fB:j=I.length:=om;subst fB;have hR:I.take I.length=I:=ZQ (Zc _);rw[hR] at V gp;simp only[hR] at q5 hD;have he:errF ⟨A,J,D,H,Q,I⟩=0:=(by unfold errF;rw[HH.out,Zi rfl];exact KT.2 gp.out);have hn:normF ⟨A,J,D,H,Q,I⟩=collF ⟨A,J,D,H,Q,I⟩:=(by unfold normF;rw[he,Zi rfl]);have ha:=hI.out.symm.trans he;have hd:=hJ.out.symm.trans hn;have g2:=gd gB;have g4:=gd hD;have h0:=gd V;subst ha hd;clear he hn gB hR V;have ge:=g2.out.heap gP;have cq:∀(i:Nat) (v:Value),i≠5->wP.cell? ⟨g,i,none⟩=some v->wr.cell? ⟨g,i,none⟩=some v:=λi v hi hv=>
         g4.out.cell ((Xi wP ⟨g,5,none⟩ ⟨g,i,none⟩ _ (by intro e;exact hi (Zz Addr.off e).symm)).trans hv)
        have q0:=cq 0 _ (by decide) HC.out.1;have q1:=cq 1 _ (by decide) HC.out.2.1;have q2:=cq 2 _ (by decide) HC.out.2.2.1;have q3:=cq 3 _ (by decide) HC.out.2.2.2.1;have q4:=cq 4 _ (by decide) HC.out.2.2.2.2;obtain ⟨O,hO⟩:∃O,ordE.canon (I.map collE)=O:=⟨_,rfl⟩;rw[hO] at h0;simp only[hO] at q5;have HO:=gd hO;clear hO cq hD
        go_wp2_with (first|(refine Zf rfl 55 (.tmp 2) (.tmp 108) rfl (w.heap.size+1) _ rfl rfl _ _ ge Jh rfl Zfv ?_))
        ((try simp only[Exit.inBlock,Exit.then]);refine ZD (Yn rfl _ _ _ _ _ _ _ rfl (ZF _ _ _ _ _ _ ge) underlying55 rfl Jh) rfl ?_);have gi:=gm.out.lt;have g6:∀q,q<W3.heap.size->(A.map collapse).map Value.string= []\/(Value.slice vA A.length vc).ownBlock≠some q:=λq hq=>Or.inr λe=>(by have:=(gi q e).1;omega);have fd:RStrs wP (.slice vA A.length vc) (A.map collapse):=(by have h:=RSl.of_own gm.out;unfold RStrs;rw[Zq,JR];exact h);have fA:=hZ.out;have fI:w.heap.size+1<W3.heap.size:=(by have h1:=h6.out;have h2:=gg.out;omega);have gq:=h0.out.lt;refine ⟨⟨.slice vA A.length vc,.slice uA O.length uc,⟨A.map collapse,collapse J,collapse D,collapse H,Q,O⟩⟩,rfl,?_,⟨RSl.grown (RSl.ext (RSl.grown fd (Yw wP ⟨g,5,none⟩ _) (g6 g fA)) g4.out) (Yx wr (w.heap.size+1) _) (g6 _ fI),RSl.grown h0.out.reads (Yx wr (w.heap.size+1) _) (Or.inr λe=>by have h1:=(gq _ e).1;have h2:=gf.out;have h3:=h6.out;have h4:=gg.out;omega)⟩,λq hq=>⟨Or.inr λe=>by have:=(gi q e).1;omega,Or.inr λe=>by have h1:=(gq q e).1;have h2:=gf.out;have h4:=gg.out;have h3:=h6.out;omega⟩,(hA.trans g2.out).setRow om _⟩;rw[<-HO.out];rfl
     all_goals
      ((try simp only[Exit.inBlock,Exit.then]);refine ZD (Yn rfl _ _ _ _ _ _ _ rfl (ZF _ _ _ _ _ _ hX) underlying55 rfl Jh) rfl ?_)
      exact ⟨⟨sN,sN,zeroF⟩,rfl,rfl,⟨RSl.nil _ 1,RSl.nil _ 5⟩,λ_ _=>⟨Or.inl rfl,Or.inl rfl⟩,fq.out.setRow om _⟩
    all_goals
     subst hw
     go_wp2
     refine rN ?_
     change wpAny _ _ _ _ _ _ _ (World.drew _)
     refine tH 0 (.pointer (some ⟨g,0,none⟩)) ?_
     refine tH 2 (.pointer (some ⟨w.heap.size,0,none⟩)) ?_
     refine tH 4 (nI k) ?_
     refine XS (i:=1) (v:= .slice vA k vc) (λw'=>Ext wr w') 9 rfl (by kernel_rfl) (λ_ _ _ h=>h) (Or.inl ⟨by rfl,λw' hS=>by have hq:=Ext.cell hS gQ;go_simp⟩) (Ext.refl wr).drew ?_
     refine Za6 9 [10,11] (AtIx.cons rfl (AtIx.cons rfl (AtIx.cons rfl AtIx.nil))) [3,5,6,7,8] _ _ _ _ (AtIx.cons rfl (AtIx.cons rfl (AtIx.cons rfl (AtIx.cons rfl (AtIx.cons rfl AtIx.nil))))) (by kernel_rfl) ?_
     have fu:=(Ext.refl wr).drew.cell b0
     have fz:=(Ext.refl wr).drew.cell hc
     have hp:=(Ext.refl wr).drew
     refine Yg (λK hK=> ?_);go_simp;refine hK _ _ hp ?_;clear hK K
     refine Yg (λK hK=> ?_);go_simp;refine hK _ _ hp ?_;clear hK K
     refine Yg (λK hK=> ?_);go_simp;refine hK _ _ hp ?_;clear hK K
     refine Yg (λK hK=> ?_);go_simp;refine Za (gV.out wr.drew) ?_;rintro e w4 ⟨rfl,Y⟩;refine hK _ _ (hp.trans Y) ?_;clear hK K
     refine Yg (λK hK=> ?_);go_simp;refine hK _ _ ((hp.trans Y).alloc _) ?_;clear hK K
     refine X0 ?_
     obtain ⟨c,fx⟩:∃c:Aft wr,c.w=w4:=⟨⟨w4,hp.trans Y⟩,rfl⟩
     subst fx
     have Z:=gd (Ya (Ya gZ.out c.ext) ((Ext.refl c.w).alloc (.cells #[.string S] 9)))
     have gO:=gd (ft.out.trans (c.ext.trans ((Ext.refl c.w).alloc (.cells #[.string S] 9))))
     have fX:W3.heap.size<=c.w.heap.size:=Zp fw c.ext.size
     clear fu fz hp Y
     go_wp2_with (first|(at_builtin;go_loud (refine ZO _ rfl (.tmp 51) (.tmp 58) _ rfl W3.heap.size 9 i0 _ 1 16 underlying52 hP hT hU hV rfl (by decide) _ k _ rfl Z.out _ 1 [.string S] rfl (Yo rfl (by decide)) (Zrq [S]) gY.out gS.out ?_ ?_;(rw[Zu];omega);intro v5 w5 R hC hH;obtain ⟨A5,c5,fH, -, -⟩:=(RSl.of_own R).2;subst fH;(have fg:=Ext.app gO.out hC Z.out (by simp[World.setCell]));obtain ⟨p0,pf,b5,gC,q0,q1,fc,gN⟩:=gu.out w5 A5 c5 R fg;subst gC)))
     go_roundw
     case rel=>exact ⟨k+1,_,hQ,by go_num,by rw[fn.out],fc,gN⟩
     case measure=>simp[intOf];omega
  ·have hb:((EC:Int) !=0)=true:=(by simp;omega);have hh:headF ⟨A,J,D,H,Q,I⟩=EC:=(by unfold headF;rw[gX.out,Zi h9]);have he:errF ⟨A,J,D,H,Q,I⟩=EC:=(by unfold errF;rw[hh,Ze h9]);have hn:normF ⟨A,J,D,H,Q,I⟩=zeroF:=(by unfold normF;rw[he,Ze h9]);have ha:=hI.out.symm.trans he;have hd:=hJ.out.symm.trans hn;subst ha hd;clear hh he hn h9
   go_wp2_with (first|(refine Zf rfl 55 (.tmp 2) (.tmp 26) rfl (w.heap.size+1) _ rfl rfl _ _ ge Jh rfl Zfv ?_))
   ((try simp only[Exit.inBlock,Exit.then]);refine ZD (Yn rfl _ _ _ _ _ _ _ rfl (ZF _ _ _ _ _ _ ge) underlying55 rfl Jh) rfl ?_);exact ⟨⟨sN,sN,zeroF⟩,rfl,rfl,⟨RSl.nil _ 1,RSl.nil _ 5⟩,λ_ _=>⟨Or.inl rfl,Or.inl rfl⟩,fp.out.setRow om _⟩
 ·have fd:=(hB.out W (Ext.refl W)).1;have fZ:=(hB.out W (Ext.refl W)).2.1;have f0:=(hB.out W (Ext.refl W)).2.2.1;have f1:=(hB.out W (Ext.refl W)).2.2.2.1;have f2:=HP.out.ext hA;have f4:Ext W W:=Ext.refl W
  go_region_held3 (λw'=>Ext W w'/\w'.cell? ⟨w.heap.size,0,none⟩=some (.slice xA A.length xc)/\w'.cell? ⟨w.heap.size,1,none⟩=some (.string J)/\w'.cell? ⟨w.heap.size,2,none⟩=some (.string D)/\w'.cell? ⟨w.heap.size,3,none⟩=some (.string H))
   ((go_split_ands;refine ⟨?_,?_,?_,?_,?_⟩<;>first|assumption|((repeat (first|exact Ext.refl _|assumption|apply Ext.drew|apply Ext.alloc));done)|((refine Ext.trans ?_ (by assumption));(repeat (first|exact Ext.refl _|assumption|apply Ext.drew|apply Ext.alloc));done)|((refine Ext.cell (by assumption) ?_);first|assumption|(go_keep;done))|(go_keep;done)))
   (first|((have Z:=gd (Jx (w:=W.drew) (base:=W.heap.size) (e:=9) (size:=1) (n:=0) (cs:= []) (Zc _) rfl (by decide)));refine Z1 _ (by rfl) (.tmp 11) (.tmp 13) _ (by rfl) W.heap.size 9 i0 _ 1 16 underlying52 hP hT hU hV rfl (by decide) _ 0 [] (by rfl) Z.out (.slice xA A.length xc) A.length (A.map Value.string) (by rfl) (HP.out.ext (hA.trans ((Ext.refl W).drew.alloc _))) (Zrq _) gt.out gs.out ((show W.heap.size<=_ from ((Ext.refl W).drew.alloc _).size)) ?_;intro v4 w4 X hl hx;(have Y:Ext W w4:=Ext.app ((Ext.refl W).drew.alloc _) hl Z.out (Zc _));(have ho:=gd X);(have hL:=gd Y);clear X hl hx;(have gj:=Y))|((have Z:=gd (Ya (Jx (w:=W.drew) (base:=W.heap.size) (e:=9) (size:=1) (n:=0) (cs:= []) (Zc _) rfl (by decide)) ((Ext.refl _).alloc (.cells #[.string J,.string D,.string H] 9))));refine Z1 _ (by rfl) (.tmp 11) (.tmp 13) _ (by rfl) W.heap.size 9 i0 _ 1 16 underlying52 hP hT hU hV rfl (by decide) _ 0 [] (by rfl) Z.out (.slice xA A.length xc) A.length (A.map Value.string) (by rfl) (HP.out.ext (hA.trans (((Ext.refl W).drew.alloc _).alloc _))) (Zrq _) gt.out gs.out ((show W.heap.size<=_ from (((Ext.refl W).drew.alloc _).alloc _).size)) ?_;intro v4 w4 X hl hx;(have Y:Ext W w4:=Ext.app (((Ext.refl W).drew.alloc _).alloc _) hl Z.out (Zc _));(have g1:Hid (RSl w4 1 (.slice (some ⟨W.heap.size+1,0,none⟩) 3 3) 3 [.string J,.string D,.string H]):=gd (RSl.grown (ZuL W J D H) hl (Or.inr (by intro e;injection e with e;exact absurd e (by show W.heap.size+1≠W.heap.size;omega)))));(have ho:=gd X);(have hL:=gd Y);clear X hl hx;(have gj:=Y))|((have Z:=gd (Zum W (a:=J) (b:=D) (c:=H)));refine Z1 _ (by rfl) (.tmp 11) (.tmp 13) _ (by rfl) W.heap.size 9 i0 _ 1 16 underlying52 hP hT hU hV rfl (by decide) _ 0 [] (by rfl) Z.out (.slice xA A.length xc) A.length (A.map Value.string) (by rfl) (HP.out.ext (hA.trans (((Ext.refl W).drew.alloc _).alloc _))) (Zrq _) gt.out gs.out ((show W.heap.size<=_ from (((Ext.refl W).drew.alloc _).alloc _).size)) ?_;intro v4 w4 X hl hx;(have Y:Ext W w4:=Ext.app (((Ext.refl W).drew.alloc _).alloc _) hl Z.out (Zc _));(have g1:Hid (RSl w4 1 (.slice (some ⟨W.heap.size,0,none⟩) 3 3) 3 [.string J,.string D,.string H]):=gd (RSl.grown (ZuM W J D H) hl (Or.inr (by intro e;injection e with e;exact absurd e (by show W.heap.size≠W.heap.size+1;omega)))));(have ho:=gd X);(have hL:=gd Y);clear X hl hx;(have gj:=Y))|((have ht:=gd (Ya ho.out ((Ext.refl w4).alloc (.cells #[.string J,.string D,.string H] 9))));refine Z1 _ (by rfl) (.tmp 14) (.tmp 21) _ (by rfl) W.heap.size 9 i0 _ 1 16 underlying52 hP hT hU hV rfl (by decide) _ (0+A.length) _ (by rfl) ht.out _ 3 [.string J,.string D,.string H] (by rfl) (Yo (w:=w4) (size:=1) (n:=3) (e:=9) (cs:= [.string J,.string D,.string H]) rfl (by decide)) (Zrq [J,D,H]) gl.out gk.out ((hL.out.alloc _).size) ?_;intro v5 w5 R hC hH;(have hy:Ext W w5:=Ext.app (hL.out.alloc _) hC ht.out (Zc _));(have h5:=gd R);(have g3:=gd hy);clear R hC hH Y gj;(have gO:=hy))|((have ht:=gd (ho.out));refine Z1 _ (by rfl) (.tmp 14) (.tmp 21) _ (by rfl) W.heap.size 9 i0 _ 1 16 underlying52 hP hT hU hV rfl (by decide) _ (0+A.length) _ (by rfl) ht.out _ 3 [.string J,.string D,.string H] (by rfl) (g1.out) (Zrq [J,D,H]) gl.out gk.out (hL.out.size) ?_;intro v5 w5 R hC hH;(have hy:Ext W w5:=Ext.app (hL.out) hC ht.out (Zc _));(have h5:=gd R);(have g3:=gd hy);clear R hC hH Y gj;(have gO:=hy))|(go_at_call 121;(have hz:=gU.out w5 v5 (Zta h5.out));(with_reducible refine Za hz ?_);clear hz;rintro e w6 ⟨rfl,gN⟩;(have hp:=g3.out.trans gN)))
  all_goals exact ⟨hp,_,_,_,_,rfl⟩
end
theorem ZsZ (v:Value) (l:List Fc) (w:Wq) (hE:Env w) (hr:RFcs w v l) (hV:∀x∈l,RdC w x) (hk:∀x∈l,fokS x.f/\x.f.path.length<=1000000) (hn:l.length<=1000000) (Q:∀x∈l,x.f.ents= []):
 Calls prog 38 #[v] w λe w'=>∃(v':Value) (lc:List Fc),e= .returned (.tuple #[.agg #[v'],nI (errFs (l.map Fc.f):Nat)])/\lc.map Fc.f=normA (l.map Fc.f)/\RFcs w' v' lc/\(∀y∈lc,RdC w' y)/\(∀q,q<w.heap.size->(flatC lc= []\/v'.ownBlock≠some q)/\∀z∈lc,awayC z (some q))/\Ext w w':=by
 obtain ⟨A,c,rfl, -, -⟩:=hr.form;obtain ⟨E,hB⟩:∃E,errFs (l.map Fc.f)=E:=⟨_,rfl⟩;obtain ⟨NA,hD⟩:∃NA,normA (l.map Fc.f)=NA:=⟨_,rfl⟩;simp only[hB,hD];have hw:=gd hB;have hK:=gd hD;obtain ⟨M,hM⟩:∃M,l.map (λx=>collF x.f)=M:=⟨_,rfl⟩;have gm:M.length=l.length:=by rw[<-hM,Zq]
 have hC:∀y∈M,hokF y:=by rw[<-hM];intro y hy;obtain ⟨z,D,rfl⟩:=ZU.1 hy;exact Zkj (hk z D).1 (hk z D).2
 have gn:sumE M<=0:=by rw[<-hM];exact Zp (Zl6 l) (Nat.le_of_eq (ZbC Q))
 have h7:=gd Q;have gc:=gd (λk=>Zit (l:=M.take k) (λy hy=>hC y (Y4 hy)));have gf:=gd hC;have gg:Hid (∀k (h:k<M.length),sumE (ordF.canon (M.take k))+M[k].ents.length<=0):=gd λk h=>by
  have h1:=Ziu (M.take k);have h2:sumE M=sumE (M.take k)+sumE (M.drop k):=by unfold sumE;rw[<-ZpW,<-ZS,Yz]
  have h3:sumE (M.drop k)=M[k].ents.length+sumE (M.drop (k+1)):=by rw[Zl h,Qn]
  omega
 have gb:Hid (∀k (h:k<l.length),M[k]? =some (collF l[k].f)):=gd λk h=>by rw[<-hM,Yp,Zh h];rfl
 have ga:Hid (ordF.canon M=ordF.canon ((l.map Fc.f).map collF)):=gd (by rw[<-hM,JR];rfl);have HR:=gd hr;have hL:=gd hV;have HK:=gd hk;have h8:=gd hE;clear hr hV hk Q hM hC gn hB hD hE;go_enter func38,ntmps38;go_wp2;obtain ⟨w0,hh⟩:∃w0,w0=(w.alloc (.cells #[sN] 31)).alloc (.cells #[sN] 31):=⟨_,rfl⟩;rw[<-hh];have h5:Ext w w0:=by rw[hh];exact ((Ext.refl _).alloc _).alloc _
 have go:w0.heap[w.heap.size]? =some (.cells #[sN] 31):=by rw[hh];exact ((Ext.refl _).alloc _).heap (Zg w _)
 have gp:w0.heap[w.heap.size+1]? =some (.cells #[sN] 31):=by rw[hh];exact YS w _ _
 clear hh;go_loopw [5] (λi wr=>∃(k:Nat) (lc:List Fc) (vA:Option Addr) (vc:Nat),k<=l.length/\i=nI k/\Ext w wr/\
  Hid (lc.map Fc.f=ordF.canon (M.take k)/\∀x∈(l.map Fc.f).take k,errF x=0)/\
  Hid (RFcs wr (.slice vA lc.length vc) lc/\(∀y∈lc,RdC wr y/\∀q,q<w.heap.size+2->awayC y (some q))/\(∀q,q<w.heap.size+2->flatC lc= []\/(Value.slice vA lc.length vc).ownBlock≠some q))/\
  Hid (wr.heap[w.heap.size]? =some (.cells #[sN] 31)/\wr.heap[w.heap.size+1]? =some (.cells #[.slice vA lc.length vc] 31))) (λi _=>l.length - (intOf i).toNat)
 case atStart=>exact ⟨0,[],none,0,Zj _,rfl,h5,gd ⟨rfl,by simp⟩,gd ⟨RSl.nil _ 6,by simp,λ_ _=>Or.inl rfl⟩,gd ⟨go,gp⟩⟩
 case round=>
  obtain ⟨k,lc,vA,vc,hk,rfl,U,hrel,hc,R⟩:=hrel;have gG:w.heap.size+1<wr.heap.size:=(ZP.1 R.out.2).1;by_cases Z:k<l.length
  ·obtain ⟨ad,c1,e1,hR⟩:=(HR.out.ext U).at Z;injection e1 with e1 e1' e1'';subst e1;clear e1' e1'';have ht:k<M.length:=(by rw[gm];exact Z);have hs:M[k]=collF l[k].f:=(by have h:=gb.out k Z;rw[Zh ht] at h;exact YX h);have hg:=Zr ht;rw[hs] at hg;have hf:=gg.out k ht;rw[hs] at hf;have hd:=gf.out _ (ZL ht);rw[hs] at hd;have hS:k<(l.map Fc.f).length:=(by rw[Zq];exact Z);have J:=Zr hS;rw[Xn] at J;have F:=Zgn (l.map Fc.f) k hS hrel.out.2;rw[Xn] at F;have I:=ZL Z;have H:=gd (Ztv l[k] wr (h8.out.ext U) (HK.out _ I).1 ((hL.out _ I).ext U) (h7.out _ I));have hX:=(hL.out _ I).sl;obtain ⟨x,hx⟩:∃x,l[k]=x:=⟨_,rfl⟩;rw[hx] at hR hg hf hd J F H hX;obtain ⟨xp,gH,xf⟩:=x;obtain ⟨⟨xA,xn,xc,h4⟩,⟨xB,xm,xd,hZ⟩⟩:=hX;dsimp only at h4 hZ;subst h4 hZ;obtain ⟨a0,a1,a2,a3,a4,a5⟩:=hR;dsimp only at a0 a1 a2 a3 a4 a5 H hg hf hd J F;unfold cellsC fCells at H;dsimp only at H;obtain ⟨EX,hA⟩:∃EX,errF xf=EX:=⟨_,rfl⟩;rw[hA] at H F;have hI:=gd hA;have gi:=gd hg;have gj:=gd J;have hJ:=gd hf;have ge:=gd hd;have hm:=gd U;have gC:(0:Int)<=(k:Int):=om;have gE:(k:Int)<(l.length:Int):=om;clear hx hA hg J hf hd I hs;by_cases ho:EX=0
   ·subst ho;have hU:normF xf=collF xf:=(by unfold normF;rw[Zi hI.out]);rw[hU] at H;have gh:Hid (∀(w':Wq) (y:Fc),Ext wr w'->RdC w' y->y.f=collF xf->Calls prog 74 #[.agg #[.slice vA lc.length vc],.agg (cellsC y).toArray] w' λe hH=>∃(v':Value) (V:List Fc),e= .returned (.agg #[v'])/\V.map Fc.f=ordF.canon (M.take (k+1))/\OFcs hH w'.heap.size v' V/\(∀y∈V,RdC hH y)/\(∀q,q<w'.heap.size->(∀z∈lc,awayC z (some q))->awayC y (some q)->∀z∈V,awayC z (some q))/\Ext w' hH):=gd λw' y h1 h2 h3=>by
     have hT:lc.length<=1000000:=(by have e1:lc.length=(ordF.canon (M.take k)).length:=(by rw[<-hrel.out.1,Zq]);have e2:=Em ordF (M.take k);rw[ZM] at e2;omega);have hp:=Ztw (.slice vA lc.length vc) lc y w' (hc.out.1.ext h1) (λz D=>(hc.out.2.1 z D).1.ext h1) h2 (λz D=>gc.out k z.f (by rw[<-hrel.out.1];exact ZU.2 ⟨z,D,rfl⟩)) (by rw[h3];exact ge.out) (by rw[hrel.out.1,h3];exact hJ.out) hT;rw[hrel.out.1,h3] at hp;have gq:ordF.put (ordF.canon (M.take k)) (collF xf)=ordF.canon (M.take (k+1)):=by rw[gi.out,Ord.canon_append];rfl
     rwa [gq] at hp
    have h9:=gd R.out.1;have gl:=R.out.2;clear hU F U
    go_wp2_with (first|(go_at_call 73;have D:=H.out;refine Za D ?_;clear D;rintro e w8 ⟨y,rfl,h6,hv,gx,hF⟩;have hl:=hv.sl;obtain ⟨yp,gB,X⟩:=y;obtain ⟨⟨yA,yn,yc,hj⟩,⟨yB,ym,yd,hi⟩⟩:=hl;simp only at hj hi;subst hj hi;have gk:=gd (show X=collF xf from h6);clear h6;have K:=hF.alloc (.cells #[.slice yA yn yc,.string X.id,.string X.title,.string X.link,nI X.upd,.slice yB ym yd] 55);have hO:=K.heap gl;(have gD:(w8.alloc (.cells #[.slice yA yn yc,.string X.id,.string X.title,.string X.link,nI X.upd,.slice yB ym yd] 55)).cell? ⟨w.heap.size+1,0,none⟩=some (.slice vA lc.length vc):=by rw[YO _ _ _ _ _ _ hO];rfl))|(go_at_call 74;have D:=gh.out _ ⟨.slice yA yn yc,.slice yB ym yd,X⟩ K (hv.ext ((Ext.refl _).alloc _)) gk.out;(unfold cellsC fCells at D);(dsimp only at D);refine Za D ?_;clear D;rintro e wP ⟨v',V,rfl,gt,S,hW,hQ,hG⟩;obtain ⟨gz,gA,gw, -, -⟩:=S.reads.form;subst gw;have hP:=hG.heap hO)|(refine Zf rfl 31 (.tmp 4) (.tmp 29) rfl (w.heap.size+1) _ rfl rfl _ _ hP Xl rfl GB ?_))
    have gF:=K.size;go_roundw
    case rel=>
     have gs:=S.lt;have ha:∀q,q<w.heap.size+2->∀z∈V,awayC z (some q):=λq hq=>hQ q om (λz D=>(hc.out.2.1 z D).2 q hq) (gx q om);refine ⟨k+1,V,gz,gA,Z,by go_num,((hm.out.trans K).trans hG).setRow om _,gd ⟨gt,?_⟩,gd ⟨RSl.of_own (Jk S om _),λz D=>⟨(hW z D).grown (Yx _ _ _) (ha (w.heap.size+1) om z D),λq hq=>ha q hq z D⟩,λq hq=>Or.inr λe=>by have:=(gs _ e).1;omega⟩,gd ⟨(Yf _ _ _ _ om).trans ((K.trans hG).heap h9.out),ZF _ _ _ _ _ _ hP⟩⟩;intro z D;rw[gj.out] at D;rcases Zs.1 D with D|D
     ·exact hrel.out.2 z D
     ·rw[Zo.1 D];exact hI.out
    case measure=>simp[intOf];omega
   ·have hb:((EX:Int) !=0)=true:=(by simp;omega);have he:E=EX:=hw.out.symm.trans (F ho);have hn:normA (l.map Fc.f)= []:=(by unfold normA;rw[Ze];rw[hw.out,he];exact ho);have gu:=hK.out.symm.trans hn;subst he gu;have gy:=R.out.1;clear hn ho F
    go_wp2_with (first|(go_at_call 73;have D:=H.out;refine Za D ?_;clear D;rintro e w8 ⟨y,rfl, -,hv, -,hF⟩;have hl:=hv.sl;obtain ⟨yp,gB,X⟩:=y;obtain ⟨⟨yA,yn,yc,hj⟩,⟨yB,ym,yd,hi⟩⟩:=hl;simp only at hj hi;subst hj hi;have K:=hF.alloc (.cells #[.slice yA yn yc,.string X.id,.string X.title,.string X.link,nI X.upd,.slice yB ym yd] 55);have hN:=K.heap gy)|(refine Zf rfl 31 (.tmp 2) (.tmp 25) rfl w.heap.size _ rfl rfl _ _ hN Xl rfl GB ?_))
    ((try simp only[Exit.inBlock,Exit.then]);refine ZD (Yn rfl _ _ _ _ _ _ _ rfl (ZF _ _ _ _ _ _ hN) underlying31 rfl Xl) rfl ?_);exact ⟨sN,[],rfl,rfl,RSl.nil _ 6,by simp,λq hq=>⟨Or.inl rfl,by simp⟩,(hm.out.trans K).setRow om _⟩
  ·have gr:k=l.length:=om;subst gr;have hY:M.take l.length=M:=ZQ om;have J:(l.map Fc.f).take l.length=l.map Fc.f:=ZQ (by rw[Zq];exact Zc _);have hu:=hrel.out;rw[hY,J] at hu;have h0:errFs (l.map Fc.f)=0:=QD.2 hu.2;have he:E=0:=hw.out.symm.trans h0;have hn:NA=lc.map Fc.f:=(by rw[hu.1,ga.out,<-hK.out];unfold normA;rw[Zi h0]);subst he hn;have h1:=R.out.1;have c2:wr.cell? ⟨w.heap.size+1,0,none⟩=some (.slice vA lc.length vc):=(by rw[YO _ _ _ _ _ _ R.out.2];rfl);have Y:=gd hc.out;have hm:=gd U;clear hY J hu h0 U hc R
   go_wp2_with (first|(refine Zf rfl 31 (.tmp 2) (.tmp 30) rfl w.heap.size _ rfl rfl _ _ h1 Xl rfl GB ?_))
   ((try simp only[Exit.inBlock,Exit.then]);refine ZD (Yn rfl _ _ _ _ _ _ _ rfl (ZF _ _ _ _ _ _ h1) underlying31 rfl Xl) rfl ?_);exact ⟨.slice vA lc.length vc,lc,rfl,rfl,RSl.grown Y.out.1 (Yx _ _ _) (Y.out.2.2 w.heap.size om),λz D=>(Y.out.2.1 z D).1.grown (Yx _ _ _) ((Y.out.2.1 z D).2 w.heap.size om),λq hq=>⟨Y.out.2.2 q om,λz D=>(Y.out.2.1 z D).2 q om⟩,hm.out.setRow om _⟩
section
variable {N:Nat}
theorem ZuR {O:List Fc} {l:List Fd} (A:O.map Fc.f=l) (h:∀f∈l,opOk N f):∀x∈O,x.f.ents= []:=λx D=>(h x.f (by rw[<-A];exact Yc D)).ents
theorem Zsj (N M:Nat) (hN:N<=10000) (hM:M<=1000000) (x:Nc) (w:Wq) (hE:Env w) (hr:RdN w x) (hf:x.nd.fd N) (hc:x.nd.cnt<=M):
 Calls prog 13 #[.agg (cellsN x).toArray] w λe w'=>∃v,e= .returned v/\DecRet w' v (opmlP x.nd)/\Ext w w':=by
 obtain ⟨k,s,n,al,l0,ks,kids,t,a⟩:=x;have gn:=hr;rw[RdN] at hr;obtain ⟨hW,gj,gi⟩:=hr;have hP:=(XC kids).1 gi;have J:=hf;have hJ:=hc;rw[Nc.nd,Nd.fd] at J;rw[Nc.nd,Nd.cnt] at hJ;have gF:kids.length<=N:=by have:=J.2.2.2.2.2.1;rwa [Jw] at this
 have gI:l0.length<=N:=J.2.2.2.1;have gE:k<=1:=J.1;have gg:=J.2.2.2.2.2.2.2.2;obtain ⟨A,c,gB, -, -⟩:=hW.form;obtain ⟨B,d,gG, -, -⟩:=RNs.form gj;subst gB;subst gG;obtain ⟨W0,hC⟩:∃W0,(w.alloc (.cells #[nI (k:Nat),.string (str s),.string (str n),.slice A l0.length c,.slice B kids.length d,.string (str t),nI (a:Nat)] 25)).alloc (.cells #[sN] 31)=W0:=⟨_,rfl⟩;have hI:Ext w W0:=by rw[<-hC];exact ((Ext.refl w).alloc _).alloc _
 have ge:BxN W0 w.heap.size k s n (.slice A l0.length c) (.slice B kids.length d) t a:=by rw[<-hC];exact BxN.ext (Zg w _) ((Ext.refl _).alloc _)
 have gt:W0.heap[w.heap.size+1]? =some (.cells #[sN] 31):=by rw[<-hC];exact YS w _ _
 have gp:w.heap.size+2<=W0.heap.size:=by rw[<-hC,Zu,Zu];exact Zc _
 obtain ⟨b0,b1,b2,b3,b4,b5,b6⟩:=ge.cells;have he:=gd hI;have hA:=gd ge;have hB:=gd gt;have gA:=gd gp;have gz:=gd (RdN.ext hI _ gn);have gy:=gd (RAts.ext hW hI);have R:=gd (λw' (hx:Ext W0 w')=>ZqP (.mk k s n (.slice A l0.length c) l0 (.slice B kids.length d) kids t a) [] versionL w' (gy.out.ext hx) ⟨_,_,_,rfl⟩ (by show l0.length<=_;omega));have hl:=gd (λw' (hx:Ext W0 w')=>Zry (.mk k s n (.slice A l0.length c) l0 (.slice B kids.length d) kids t a) [] bodyL w' (RdN.ext hx _ gz.out) (by show kids.length<=_;omega));simp only[cellsN,Nc.kids,Nc.attrs,Vy,ZsJ,Zl5] at R hl|-;have gm:(Nc.mk k s n (.slice A l0.length c) l0 (.slice B kids.length d) kids t a).nd= .mk k s n l0 (Nc.nds kids) t a:=by rw[Nc.nd]
 rw[gm];have hk:Hid (attrL (Nd.mk k s n l0 (Nc.nds kids) t a) versionL=attrN l0 [] versionL):=gd rfl;have hT:=gd (λe=>ZlG (n:=Nd.mk k s n l0 (Nc.nds kids) t a) e);have hU:=gd (λh1 h2 h3 h4=>ZlH (n:=Nd.mk k s n l0 (Nc.nds kids) t a) h1 h2 h3 h4);obtain ⟨XV,gb⟩:∃XV,attrN l0 [] versionL=XV:=⟨_,rfl⟩;rw[gb] at hk R;clear hI gt gp gn hW gj gi J hJ gb gm;have hO:∀q,opmlP (Nd.mk k s n l0 (Nc.nds kids) t a)=q->q=opmlP (Nd.mk k s n l0 (Nc.nds kids) t a):=λq h=>h.symm;by_cases D:k≠0\/s≠ []\/n≠opmlL\/attrL (Nd.mk k s n l0 (Nc.nds kids) t a) versionL≠some twoL;have hR:=hT.out D;obtain ⟨RR,ga⟩:∃RR,opmlP (Nd.mk k s n l0 (Nc.nds kids) t a)=RR:=⟨_,rfl⟩;rw[ga] at hR|-;subst hR;obtain ⟨VB,vs,ha⟩:∃(vb:Bool) (vs:List UInt8),lookAns XV= .tuple #[.string (str vs),.bool vb]/\(XV=some vs/\vb=true\/XV=none/\vb=false/\vs= []):=by
  cases XV with
  |none=>exact ⟨false,[],rfl,Or.inr ⟨rfl,rfl,rfl⟩⟩
  |some v=>exact ⟨true,v,rfl,Or.inl ⟨rfl,rfl⟩⟩
 rw[ha.1] at R;have hi:Hid (attrL (Nd.mk k s n l0 (Nc.nds kids) t a) versionL=XV):=hk;clear hk hT hU hO ga;by_cases I:k=0;by_cases V:s= [];by_cases hb:n=opmlL;cases VB;clear D;have q1:((k:Int) !=0)=false:=by rw[I];rfl
 have q2:(str s).toList.isEmpty=true:=by rw[V];exact UK
 have q3:((str n).toList== [111,112,109,108])=true:=QS hb;clear I V hb ha hi
 rotate_left
 have gq:vs≠twoL:=λe=>by
  rcases ha.2 with ⟨h1, -⟩|⟨-,h2, -⟩
  ·rcases D with h|h|h|h
   ·exact h I
   ·exact h V
   ·exact h hb
   ·exact h (by rw[hi.out,h1,e])
  ·cases h2
 clear D;have q1:((k:Int) !=0)=false:=by rw[I];rfl
 have q2:(str s).toList.isEmpty=true:=by rw[V];exact UK
 have q3:((str n).toList== [111,112,109,108])=true:=QS hb;have q4:((str vs).toList== [50,46,48])=false:=JU gq;clear I V hb ha hi gq
 rotate_left
 clear D;have q1:((k:Int) !=0)=false:=by rw[I];rfl
 have q2:(str s).toList.isEmpty=true:=by rw[V];exact UK
 have q3:((str n).toList== [111,112,109,108])=false:=JU hb;clear I V hb ha hi
 rotate_left
 clear D;have q1:((k:Int) !=0)=false:=by rw[I];rfl
 have q2:(str s).toList.isEmpty=false:=V4 V;clear I V ha hi
 rotate_left
 clear D;have q1:((k:Int) !=0)=true:=by rw[Xk];omega
 clear I ha hi
 rotate_left
 ·skip
  have hY:k=0:=GV λe=>D (Or.inl e);have hZ:s= []:=GV λe=>D (Or.inr (Or.inl e));have h0:n=opmlL:=GV λe=>D (Or.inr (Or.inr (Or.inl e)));have h5:attrL (Nd.mk k s n l0 (Nc.nds kids) t a) versionL=some twoL:=GV λe=>D (Or.inr (Or.inr (Or.inr e)));have hH:=hU.out hY hZ h0 h5;have gO:XV=some twoL:=by rw[<-hk.out];exact h5
  subst gO;have q1:((k:Int) !=0)=false:=by rw[hY];rfl
  have q2:(str s).toList.isEmpty=true:=by rw[hZ];exact UK
  have q3:((str n).toList== [111,112,109,108])=true:=QS h0;have q4:((str twoL).toList== [50,46,48])=true:=QS rfl;unfold lookAns at R;dsimp only at R;rw[show (Nd.mk k s n l0 (Nc.nds kids) t a).kids=Nc.nds kids from rfl,show (Nd.mk k s n l0 (Nc.nds kids) t a).at_=a from rfl,Zgv,<-QJ] at hH;obtain ⟨L,hL⟩:∃L,kids.filter (isKid [] bodyL)=L:=⟨_,rfl⟩;rw[hL] at hH hl;rw[hH];have hV:Hid (∀y∈L,RdN W0 y/\y.nd.fd N/\y.nd.cnt<=M):=gd (λy hy=>by
   rw[<-hL,YW] at hy;have hm:y.nd∈Nc.nds kids:=(by rw[Je];exact Yc hy.1);refine ⟨RdN.ext he.out _ (hP y hy.1),(Nds.fd_iff _).1 gg _ hm,?_⟩;have:=Ze5 hm;rw[Nc.nd,Nd.cnt] at hc;omega)
  have gV:Hid (L.length<=N):=gd (by
   have:=(List.filter_sublist (p:=isKid [] bodyL) (l:=kids)).length_le;rw[hL] at this;omega)
  clear hO D hY hZ h0 h5 hk hT hU hP hL hH hf hc gg gF gI gE;cases L with
  |nil=>
   rw[Nc.nds];dsimp only[List.head?];go_enter func13,ntmps13
   go_wp2_with (first|(go_at_call 35;refine Za (R.out _ (Ext.refl _)) ?_;rintro e W1 ⟨rfl,F⟩;obtain ⟨d0,d1,d2,d3,d4,d5,d6⟩:=(hA.out.ext F).cells)|(go_at_call 36;refine Za (hl.out _ F) ?_;rintro e W2 ⟨kv,rfl,hs,X⟩;obtain ⟨U,uc,H, -, -⟩:=RNs.form hs;subst H;have e6:=X.cell d6))
   have gs:=(he.out.trans F).trans X;have gQ:=(F.trans X).heap hB.out;have hd:=(Ext.refl W2).drew;have S:W2.drew.cell? ⟨w.heap.size,6,none⟩=some (nI (a:Nat)):=hd.cell e6;have hn:W2.drew.heap[w.heap.size+1]? =some (.cells #[sN] 31):=hd.heap gQ;have Z:=(Z8 (a:=⟨w.heap.size,6,none⟩) (Yf W2.drew (w.heap.size+1) w.heap.size #[sN] om)).trans S;refine rN ?_;change wpAny _ _ _ _ _ _ _ (World.drew _);refine YD (λw'=>w'.cell? ⟨w.heap.size,6,none⟩=some (nI (a:Nat))) ?_;refine tG 0 (.agg #[sN]) S ?_;refine tG 1 (.pointer (some ⟨w.heap.size,6,none⟩)) S ?_;refine tS 2 (nI (a:Nat)) rfl (λw' hS=>by have hq:w'.cell? ⟨w.heap.size,6,none⟩=some (nI (a:Nat)):=hS;go_simp) S ?_;go_simp;refine sS 3 λK hK=> ?_;refine YJ rfl 31 (.tmp 2) (.tmp 46) rfl (w.heap.size+1) #[sN] rfl rfl _ _ hn Xl rfl GB ?_;refine hK _ _ Z ?_;clear hK K;refine sS 4 λK hK=> ?_;go_simp;refine hK _ _ Z ?_;clear hK K;refine sS 5 λK hK=> ?_;go_simp;refine hK _ _ Z ?_;clear hK K;refine sE ?_;go_wp2;((try simp only[Exit.inBlock,Exit.then]);refine ZD (ZI rfl _ _ _ _ _ _ _ rfl (ZF _ _ _ _ _ _ hn) underlying31 rfl Xl) rfl ?_);exact ⟨_,rfl,rfl,(gs.trans hd).setRow (Yu _) _⟩
  |cons b L=>
   rw[Nc.nds];dsimp only[List.head?];obtain ⟨hG,hF,hD⟩:=hV.out b Zx;have Y:=gd (λw' (hx:Ext W0 w')=>Zs2 N M hN hM b.nd.ht b sN [] w' (Zc _) hF hD (RdN.ext hx _ hG) (RSl.nil _ 1) (Zj _));have gf:=RdN.sl hG;have gH:(0:Int)<((b::L).length:Int):=(by rw[Zd];omega);obtain ⟨bn,hX⟩:∃m,(b::L).length=m:=⟨_,rfl⟩;rw[hX] at gH;have gX:((bn:Int)==0)=false:=(by rw[Zv];omega);cases hv:visP b.nd [] with
   |error yc=>
    obtain ⟨y9,c9⟩:=yc;have gC:=Zc1 b.nd _ hv;have gW:((c9:Int) !=0)=true:=(by rw[Xk];omega);rw[hv] at Y;unfold OutsRet at Y;dsimp only at Y;clear hv gC hV hF hD hG;go_enter func13,ntmps13
    go_wp2_with (first|(go_at_call 35;refine Za (R.out _ (Ext.refl _)) ?_;rintro e W1 ⟨rfl,F⟩;obtain ⟨d0,d1,d2,d3,d4,d5,d6⟩:=(hA.out.ext F).cells)|(go_at_call 36;refine Za (hl.out _ F) ?_;rintro e W2 ⟨kv,rfl,hs,X⟩;(obtain ⟨ad,c9,H,hp⟩:=RNs.at hs (k:=0) (by rw[Zd];exact Zig _));rw[hX] at H;subst H;(rw[Xj,add_zero,JQ] at hp);obtain ⟨yk,ys,yn,gR,yl,gS,h7,yt,ya⟩:=b;obtain ⟨⟨YA,ym,yc,hu⟩,⟨YB,gT,yd,hw⟩⟩:=gf;(simp only[Nc.al,Nc.ks] at hu hw);subst hu;subst hw;obtain ⟨a0,a1,a2,a3,a4,a5,a6⟩:=hp;(simp only[Nc.kind,Nc.space,Nc.name,Nc.al,Nc.ks,Nc.text,Nc.at_] at a0 a1 a2 a3 a4 a5 a6))|(go_at_call 37;have hz:=Y.out _ (F.trans X);simp only[cellsN] at hz;refine Za hz ?_;clear hz;rintro e W3 ⟨v3,rfl,rfl,h6⟩;have Q:=(F.trans X).trans h6;have gu:=Q.heap hB.out)|(refine Zf rfl 31 (.tmp 2) (.tmp 59) rfl (w.heap.size+1) #[sN] rfl rfl _ _ gu Xl rfl GB ?_))
    ((try simp only[Exit.inBlock,Exit.then]);refine ZD (ZI rfl _ _ _ _ _ _ _ rfl (ZF _ _ _ _ _ _ gu) underlying31 rfl Xl) rfl ?_);exact ⟨_,rfl,rfl,(he.out.trans Q).setRow (Yu _) _⟩
   |ok l9=>
    have hg:=Zh6 hv hF hD;have gU:=gd hg;rw[hv] at Y;unfold OutsRet at Y;dsimp only at Y;have gx:=gd (λ(u:Value) (O:List Fc) (w':Wq) (hx:Ext w w') (hh:HFs w' 0 u O) (ho:O.map Fc.f=l9)=>ZsZ u O w' (hE.ext hx) hh.row.reads hh.rd (ZfP hN hM ho hg).2.1 (ZfP hN hM ho hg).1 (ZuR ho hg.2));clear hv hV hF hD hG hg;go_enter func13,ntmps13
    go_wp2_with (first|(go_at_call 35;refine Za (R.out _ (Ext.refl _)) ?_;rintro e W1 ⟨rfl,F⟩;obtain ⟨d0,d1,d2,d3,d4,d5,d6⟩:=(hA.out.ext F).cells)|(go_at_call 36;refine Za (hl.out _ F) ?_;rintro e W2 ⟨kv,rfl,hs,X⟩;(obtain ⟨ad,c9,H,hp⟩:=RNs.at hs (k:=0) (by rw[Zd];exact Zig _));rw[hX] at H;subst H;(rw[Xj,add_zero,JQ] at hp);obtain ⟨yk,ys,yn,gR,yl,gS,h7,yt,ya⟩:=b;obtain ⟨⟨YA,ym,yc,hu⟩,⟨YB,gT,yd,hw⟩⟩:=gf;(simp only[Nc.al,Nc.ks] at hu hw);subst hu;subst hw;obtain ⟨a0,a1,a2,a3,a4,a5,a6⟩:=hp;(simp only[Nc.kind,Nc.space,Nc.name,Nc.al,Nc.ks,Nc.text,Nc.at_] at a0 a1 a2 a3 a4 a5 a6))|(go_at_call 37;have hz:=Y.out _ (F.trans X);simp only[cellsN] at hz;refine Za hz ?_;clear hz;rintro e W3 ⟨v3,rfl,⟨u9,O9,rfl,h8,h9, -⟩,h6⟩;obtain ⟨UA,gY,gL⟩:=Ym h8.row;subst gL;have Q:=(F.trans X).trans h6)|(go_at_call 38;have hz:=gx.out _ _ _ (he.out.trans Q) (HFs.mono h8 (Zj _)) h9;refine Za hz ?_;clear hz;rintro e W4 ⟨v4,lc,rfl,gk,go,gD,gc,gN⟩;obtain ⟨VA,hj,gM, -, -⟩:=go.form;subst gM;have hQ:=Q.trans gN;have gw:=(hQ.alloc (.cells #[.slice VA lc.length hj] 31)).heap hB.out)|(refine Zf rfl 31 (.tmp 11) (.tmp 65) rfl W4.heap.size #[.slice VA lc.length hj] rfl rfl _ _ (Zg _ _) Xl rfl GB ?_;rw[Z0])|(refine Zf rfl 31 (.tmp 2) (.tmp 67) rfl (w.heap.size+1) #[.slice VA lc.length hj] rfl rfl _ _ gw Xl rfl GB ?_))
    ((try simp only[Exit.inBlock,Exit.then]);refine ZD (ZI rfl _ _ _ _ _ _ _ rfl (ZF _ _ _ _ _ _ gw) underlying31 rfl Xl) rfl ?_);have gl:w.heap.size+1<W3.heap.size:=(by have:=Q.size;have:=gA.out;omega);obtain ⟨gJ,gK⟩:=gc _ gl;have gh:=Yx (W4.alloc (.cells #[.slice VA lc.length hj] 31)) (w.heap.size+1) #[.slice VA lc.length hj];rw[h9] at gk;refine ⟨_,rfl,⟨.slice VA lc.length hj,lc,rfl,gk,RSl.grown (RSl.ext go ((Ext.refl W4).alloc _)) gh gJ,λy hy=>((gD y hy).ext ((Ext.refl W4).alloc _)).grown gh (gK y hy)⟩,((he.out.trans hQ).alloc _).setRow (Yu _) _⟩
 all_goals
  go_enter func13,ntmps13
  go_wp2_with (first|(go_at_call 35;refine Za (R.out _ (Ext.refl _)) ?_;rintro e W1 ⟨rfl,F⟩;obtain ⟨d0,d1,d2,d3,d4,d5,d6⟩:=(hA.out.ext F).cells))
  have gr:=he.out.trans F
  have gP:=F.heap hB.out
  have hd:=(Ext.refl W1).drew
  have S:W1.drew.cell? ⟨w.heap.size,6,none⟩=some (nI (a:Nat)):=hd.cell d6
  have hn:W1.drew.heap[w.heap.size+1]? =some (.cells #[sN] 31):=hd.heap gP
  have Z:=(Z8 (a:=⟨w.heap.size,6,none⟩) (Yf W1.drew (w.heap.size+1) w.heap.size #[sN] om)).trans S
  refine rN ?_
  change wpAny _ _ _ _ _ _ _ (World.drew _)
  refine YD (λw'=>w'.cell? ⟨w.heap.size,6,none⟩=some (nI (a:Nat))) ?_
  refine tG 0 (.agg #[sN]) S ?_
  refine tG 1 (.pointer (some ⟨w.heap.size,6,none⟩)) S ?_
  refine tS 2 (nI (a:Nat)) rfl (λw' hS=>by have hq:w'.cell? ⟨w.heap.size,6,none⟩=some (nI (a:Nat)):=hS;go_simp) S ?_
  go_simp
  refine sS 3 λK hK=> ?_
  refine YJ rfl 31 (.tmp 2) (.tmp 38) rfl (w.heap.size+1) #[sN] rfl rfl _ _ hn Xl rfl GB ?_
  refine hK _ _ Z ?_
  clear hK K
  refine sS 4 λK hK=> ?_
  go_simp
  refine hK _ _ Z ?_
  clear hK K
  refine sS 5 λK hK=> ?_
  go_simp
  refine hK _ _ Z ?_
  clear hK K
  refine sE ?_
  go_wp2
  ((try simp only[Exit.inBlock,Exit.then]);refine ZD (ZI rfl _ _ _ _ _ _ _ rfl (ZF _ _ _ _ _ _ hn) underlying31 rfl Xl) rfl ?_)
  exact ⟨_,rfl,rfl,(gr.trans hd).setRow (Yu _) _⟩
end
section
variable {M N c d k q:Nat} {s t:List UInt8}
theorem Zs0 {p a:Nat} {n:List UInt8} {A B:Option Addr} {m:Nd} (w:Wq) (I:Env w) (h:NodeG w k s n (.slice A p c) (.slice B q d) t a m) (R:m.fd N) (hc:m.cnt<=M) (K:N<=10000:=by decide) (J:M<=1000000:=by decide):
 Calls prog 13 #[.agg #[nI (k:Nat),.string (str s),.string (str n),.slice A p c,.slice B q d,.string (str t),nI (a:Nat)]] w λe w'=>∃A n c,e= .returned (.tuple #[.agg #[.slice A n c],nI (decAt m:Nat),nI (decE m:Nat)])/\ArcG w' A n c (decL m)/\Ext w w':=by
 obtain ⟨l0,kids,F,H⟩:=h;subst H;have D:=Zsj _ _ K J _ w I F R hc;simp only[cellsN] at D;refine Za D ?_;rintro e w' ⟨v,rfl,S,U⟩;obtain ⟨A,n,c,rfl,Q⟩:=Zoj S;exact ⟨A,n,c,rfl,Q,U⟩
end
theorem ZtS (x:ByteArray) (w:Wq) (Z:Env w) (R:NmTabs w) (hs:x.size<=maxLen):
 Calls prog 3 #[.string x] w λe w'=>e= .returned (.bool true)/\Ext w w':=by
 have V:=gd (λ(w':Wq) (h:Ext w w')=>ZfY w' (Z.ext h) (R.ext h));cases ht:treeP x.data.toList with
 |none=>
  have HT:=gd (Zl7 ht w hs);clear ht Z R hs;go_enter func3,ntmps3
  go_wp2_with (first|(go_at_call 10;have D:=HT.out;refine Za D ?_;clear D;rintro e w1 ⟨rfl,F⟩)|(refine Zf rfl 25 (.tmp 3) (.tmp 14) rfl w1.heap.size _ rfl rfl _ _ (Zg _ _) ZJ rfl Zno ?_;rw[Z0])|(go_at_call 11;have D:=V.out _ (F.alloc (.cells #[nI 0,eS,eS,sN,sN,eS,nI 0] 25));refine Za D ?_;clear D;rintro e w2 ⟨rfl,H⟩))
  go_ret;exact ⟨rfl,(F.alloc _).trans H⟩
 |some m=>
  obtain ⟨-,hf, -,hc⟩:=Ef ht;have U:=Ze8 hf hc;have HT:=gd (Zap ht w hs);have HD:=gd (λ(w':Wq) (hx:Ext w w') (k p c q d a:Nat) (s n t:List UInt8) (A B:Option Addr) (h:NodeG w' k s n (.slice A p c) (.slice B q d) t a m)=>IE w' (Z.ext hx) h hf hc (λl hl=>Or.inr Zp0));have HR:=gd (λ(w':Wq) (hx:Ext w w') (k p c q d a:Nat) (s n t:List UInt8) (A B:Option Addr) (h:NodeG w' k s n (.slice A p c) (.slice B q d) t a m)=>Zs0 w' (Z.ext hx) h hf hc);obtain ⟨L,hL⟩:∃L,decL m=L:=⟨_,rfl⟩;obtain ⟨AT,Y⟩:∃AT,decAt m=AT:=⟨_,rfl⟩;obtain ⟨ER,ha⟩:∃ER,decE m=ER:=⟨_,rfl⟩;simp only[hL,Y,ha] at HD HR U;have X:=gd (λ(w':Wq) (A B:Option Addr) (n c m d:Nat) (h1:ArcG w' A n c L) (h2:ArcG w' B m d L)=>ZpZ w' h1 h2 U);simp only[decide_true] at X;clear ht Z R hs hf hc hL Y ha U;go_enter func3,ntmps3
  go_wp2_with (first|(go_at_call 10;have D:=HT.out;refine Za D ?_;clear D;rintro e w1 ⟨k,s,n,A,p,c,B,q,d,t,a,rfl,hg,F⟩;obtain ⟨W2,S⟩:∃W2,w1.alloc (.cells #[nI (k:Nat),.string (str s),.string (str n),.slice A p c,.slice B q d,.string (str t),nI (a:Nat)] 25)=W2:=⟨_,rfl⟩;(have H:Ext w1 W2:=by rw[<-S];exact (Ext.refl w1).alloc _);(have hb:BxN W2 w1.heap.size k s n (.slice A p c) (.slice B q d) t a:=by rw[<-S];exact Zg w1 _);obtain ⟨c0,c1,c2,c3,c4,c5,c6⟩:=hb.cells;have HG:=gd (hg.ext H);have HB:=gd hb;have K:=gd (F.trans H);clear hg hb F H)|(refine Zf rfl 25 (.tmp 3) (.tmp 14) rfl w1.heap.size _ rfl rfl _ _ (Zg _ _) ZJ rfl Zhm ?_;rw[Z0];rw[S])|(go_at_call 12;have D:=HD.out _ K.out _ _ _ _ _ _ _ _ _ _ _ HG.out;refine Za D ?_;clear D;rintro e w3 ⟨A3,n3,d3,rfl,hd,hm⟩;have I:=hm.alloc (.cells #[.slice A3 n3 d3] 31);have hj:=gd hd;clear hd c0 c1 c2 c3 c4 c5 c6;obtain ⟨e0,e1,e2,e3,e4,e5,e6⟩:=(HB.out.ext I).cells)|(refine Zf rfl 31 (.tmp 5) (.tmp 22) rfl w3.heap.size _ rfl rfl _ _ (Zg _ _) Xl rfl IW ?_;rw[Z0])|(go_at_call 13;have D:=HR.out _ (K.out.trans I) _ _ _ _ _ _ _ _ _ _ _ (HG.out.ext I);refine Za D ?_;clear D;rintro e w5 ⟨A5,n5,d5,rfl,he,hn⟩;have Q:=hn.alloc (.cells #[.slice A5 n5 d5] 31);have hk:=gd he;clear he)|(refine Zf rfl 31 (.tmp 8) (.tmp 28) rfl w5.heap.size _ rfl rfl _ _ (Zg _ _) Xl rfl IW ?_;rw[Z0])|(go_at_call 11;have D:=V.out _ ((K.out.trans I).trans Q);refine Za D ?_;clear D;rintro e w7 ⟨rfl,J⟩;have n0:=(Q.trans J).boxed 0 _ rfl;have n1:=J.boxed 0 _ rfl;have hh:Ext w3 w7:=(((Ext.refl _).alloc _).trans Q).trans J;have hi:Ext w5 w7:=((Ext.refl _).alloc _).trans J)|(go_at_call 14;have D:=X.out w7 _ _ _ _ _ _ (hj.out.ext hh) (hk.out.ext hi);refine Za D ?_;clear D;rintro e w8 ⟨rfl,ho⟩))
  go_ret;exact ⟨rfl,(((K.out.trans I).trans Q).trans J).trans ho⟩
theorem Zuh (os:Os) (A:os.Started) (H:Type) (enc:TypeId×Value->H):
 ReturnsInHanded {} checked os 3 .any (λw args=>(Rows.opmlMatchesReferenceSpec.pre enc prog f3 [] false w args/\laidMetH prog laidAll w)/\sizedMet enc prog f3 (OpenSpec.ofChange Rows.opmlMatchesReferenceSpec) false w args)
  (Rows.opmlMatchesReferenceSpec.post enc prog f3 false true false false):=by
 refine returnsInHanded_of_change_and (C:=checked) (X:=λw _=>laidMetH prog laidAll w) (λ_ _ _ hh h=>h.of_heap hh) Zp1 A (by kernel_rfl) func3
  (ChangeSpec.witness_shaped (enc:=enc) (C:=checked) (os:=os) (X:=λw _=>laidMetH prog laidAll w) false (World.laidAll prog os laidAll) #[eS] 8 (World.laidAll_os _ _ _)
   (World.shaped_of_ZipB (by kernel_rfl) (by kernel_rfl)) (by kernel_rfl) (by kernel_rfl) (by kernel_rfl)
   (by rw[MakeChecks.laidMetH_plain _ _ _ (by kernel_rfl)];exact laidMet_laidAll _ (by kernel_rfl) (by kernel_rfl))) ?_
 intro W base args ds gs V I hW hc Q hL _;have D:∀(j:Nat) t v,f3.params[j]? =some t->args[j]? =some v->Value.okWide prog W .any base t v:=I;have K:=hW;obtain ⟨p,q,ha,hV,rfl,_,_⟩:=hW;have hA:DataW.TrodAll enc prog W 0 (λ_=>true) true f3.params.toList args.toList ds p:=ha;rw[params3] at hA D;obtain ⟨v0,Y,rfl,rfl,h0⟩:=trodAll_one hA;obtain ⟨rfl,rfl⟩:=trodVars_none hV;have Z:=h0;rw[MakeChecks.laidMetH_plain _ _ _ (by kernel_rfl)] at hL;have hE:=Zgk hL;have U:(DataW.weightsEach prog [9] [Y]).all (· <=reachBytes)=true:=by have h:=Q;rw[params3] at h;exact h
 have S:=Z6.1 U;have R:∀n∈Y.weights prog 9,n<=reachBytes:=λn hn=>YK (S n (by simpa only[DataW.weightsEach,ZV] using hn));clear Q U S;have hd:∀x∈p,x.block<W.heap.size:=λx hx=>by simpa using K.lt x (ZeY _ hx)
 obtain ⟨F,hb⟩:=h0;obtain ⟨s0,rfl⟩:=okWide_string underlying9 (D 0 9 v0 rfl rfl);obtain ⟨q0,J,u0,_⟩:=Zp8 underlying9 (show DataW.trod enc prog W 0 (λ_=>true) true F 9 [.string s0]=some (Y,p) from hb);injection J with J _;injection J with J;subst J;rw[(Prod.mk.inj u0).1] at R;have hf:s0.size<=maxLen:=by have h:=R s0.size (by simp[DataW.weights]);unfold reachBytes at h;unfold maxLen;omega
 refine (ZtS s0 W hE (Zjc hL) hf).mono λe W' ⟨he,hx⟩=> ?_;subst he;have hB:Below W.heap.size W W':=hx;refine ⟨_,rfl,_,_,_,[],p,[],K,?_,?_,?_,hB.frame _,λh=>by cases h⟩
 ·exact trodAll_mk1 (shut_bool underlying4 _)
 ·exact trodAll_mk1 (Below.trod Zm0 (by kernel_rfl) (YK (by kernel_rfl)) Z hB hd)
 ·rfl
end Go.Proofs.YtnlafkgkcnenfaaGreatDoor
