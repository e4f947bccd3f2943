/- Parts of the proof: contracts and plain laws. -/
import Derived.Test.YtnlafkgkcnenfaaGreatDoorT26
namespace Go.Proofs.YtnlafkgkcnenfaaGreatDoor
open Go Go.RowKit Tryz
set_option linter.unusedVariables false
set_option linter.unusedSimpArgs false
set_option linter.unusedSimpArgs false
set_option maxRecDepth 100000
set_option maxHeartbeats 16000000
section
variable {k:Nat} {w w1:World} {α:Type}
theorem Jx {A:Obj} {B:Array Value} {t:TypeId} {fr:Nat×Nat} (h:Ext ((w.alloc A).alloc (.cells B t fr)) w1) (i:Nat) (v:Value) (D:B[i]? =some v):w1.cell? ⟨w.heap.size+1,i,none⟩=some v:=by
 have:=h.boxed i v D
 rwa [Zp] at this
theorem Ud (x y:Fc) (w:Wq) (hx:RdC w x) (hy:RdC w y) (hn:x.f.path.length<=16777216) (hw:pathCmp x.f.path y.f.path≠0\/pathCmp x.f.path y.f.path=0/\((x.f.id.toList==y.f.id.toList)=false\/(x.f.id.toList==y.f.id.toList)=true/\((x.f.title.toList==y.f.title.toList)=false\/(x.f.title.toList==y.f.title.toList)=true/\((x.f.link.toList==y.f.link.toList)=false\/(x.f.link.toList==y.f.link.toList)=true/\((x.f.upd==y.f.upd)=false\/(x.f.upd==y.f.upd)=true/\x.f.ents.length≠y.f.ents.length))))):
 Calls prog 39 #[.agg (cellsC x).toArray,.agg (cellsC y).toArray] w λe w'=>e= .returned (.bool false)/\Ext w w':=by
 obtain ⟨xp,hg,⟨D,Z,H,J,Q,F⟩⟩:=x;obtain ⟨yp,hh,⟨I,hc,R,U,V,K⟩⟩:=y;obtain ⟨X,A⟩:=hx;obtain ⟨Y,ha⟩:=hy;dsimp only at*;obtain ⟨xA,xc,rfl, -, -⟩:=X.form;obtain ⟨xB,xd,rfl, -, -⟩:=A.form;obtain ⟨yA,yc,rfl, -, -⟩:=Y.form;obtain ⟨yB,yd,rfl, -, -⟩:=ha.form;have hd:=gd (QU _ _ D I ((w.alloc (.cells #[.slice xA D.length xc,.string Z,.string H,.string J,nI Q,.slice xB F.length xd] 55)).alloc (.cells #[.slice yA I.length yc,.string hc,.string R,.string U,nI V,.slice yB K.length yd] 55)) (X.ext (((Ext.refl _).alloc _).alloc _)) (Y.ext (((Ext.refl _).alloc _).alloc _)) hn);have S:Hid (∀w1:Wq,Ext ((w.alloc (.cells #[.slice xA D.length xc,.string Z,.string H,.string J,nI Q,.slice xB F.length xd] 55)).alloc (.cells #[.slice yA I.length yc,.string hc,.string R,.string U,nI V,.slice yB K.length yd] 55)) w1->Ext (w.alloc (.cells #[.slice xA D.length xc,.string Z,.string H,.string J,nI Q,.slice xB F.length xd] 55)) w1):=gd λw1 h=>((Ext.refl _).alloc _).trans h;generalize pathCmp D I=c at*;clear X A Y ha hn;rcases hw with hp|⟨hp,h0|⟨h0,h1|⟨h1,h2|⟨h2,h3|⟨h3,h4⟩⟩⟩⟩⟩;have hb:(c !=0)=true:=by simpa using hp
 rotate_left
 iterate 4
  subst hp
  rotate_left
 subst hp;have hf:((F.length:Int) !=(K.length:Int))=true:=by simp;omega
 have he:(Q !=V)=false:=by simpa using h3
 all_goals
  unfold cellsC fCells
  dsimp only
  go_enter func39,ntmps39
  go_wp2_with (first|(go_at_call 75;(have hz:=hd.out);(with_reducible refine Za hz ?_);clear hz;rintro e w1 ⟨rfl,A⟩;(have a0:=(S.out _ A).boxed 0 _ rfl);(have a1:=(S.out _ A).boxed 1 _ rfl);(have a2:=(S.out _ A).boxed 2 _ rfl);(have a3:=(S.out _ A).boxed 3 _ rfl);(have a4:=(S.out _ A).boxed 4 _ rfl);(have a5:=(S.out _ A).boxed 5 _ rfl);(have b0:=Jx A 0 _ rfl);(have b1:=Jx A 1 _ rfl);(have b2:=Jx A 2 _ rfl);(have b3:=Jx A 3 _ rfl);(have b4:=Jx A 4 _ rfl);(have b5:=Jx A 5 _ rfl)))
  go_ret
  exact ⟨rfl,(((Ext.refl _).alloc _).alloc _).trans A⟩
theorem GM {P:α->α->Prop} {a b:List α} (H:k<a.length) (I:k<b.length) (h:∀j (A:j<a.length) (D:j<b.length),j<k->P a[j] b[j]) (F:P a[k] b[k]):∀j (A:j<a.length) (D:j<b.length),j<k+1->P a[j] b[j]:=by
 intro j A D J;by_cases e:j=k
 ·subst e;exact F
 ·exact h j A D (by omega)
theorem Zj1 (x y:Fc) (w:Wq) (hx:RdC w x) (hy:RdC w y) (hn:x.f.path.length<=16777216) (hm:x.f.ents.length<=16777216) (hp:pathCmp x.f.path y.f.path=0) (h0:(x.f.id.toList==y.f.id.toList)=true) (h1:(x.f.title.toList==y.f.title.toList)=true) (h2:(x.f.link.toList==y.f.link.toList)=true) (h3:(x.f.upd==y.f.upd)=true) (h4:x.f.ents.length=y.f.ents.length):
 Calls prog 39 #[.agg (cellsC x).toArray,.agg (cellsC y).toArray] w λe w'=>e= .returned (.bool (decide (x.f.ents=y.f.ents)))/\Ext w w':=by
 obtain ⟨xp,hQ,⟨J,ht,K,S,V,A⟩⟩:=x;obtain ⟨yp,hS,⟨U,hD,X,hd,he,D⟩⟩:=y;obtain ⟨hr,F⟩:=hx;obtain ⟨hs,hc⟩:=hy;dsimp only at*;obtain ⟨xA,xc,rfl, -, -⟩:=hr.form;obtain ⟨xB,xd,rfl, -, -⟩:=F.form;obtain ⟨yA,yc,rfl, -, -⟩:=hs.form;obtain ⟨yB,yd,rfl, -, -⟩:=hc.form;have ha:=gd (QU _ _ J U ((w.alloc (.cells #[.slice xA J.length xc,.string ht,.string K,.string S,nI V,.slice xB A.length xd] 55)).alloc (.cells #[.slice yA U.length yc,.string hD,.string X,.string hd,nI he,.slice yB D.length yd] 55)) (hr.ext (((Ext.refl _).alloc _).alloc _)) (hs.ext (((Ext.refl _).alloc _).alloc _)) hn);have H:Hid (∀w1:Wq,Ext ((w.alloc (.cells #[.slice xA J.length xc,.string ht,.string K,.string S,nI V,.slice xB A.length xd] 55)).alloc (.cells #[.slice yA U.length yc,.string hD,.string X,.string hd,nI he,.slice yB D.length yd] 55)) w1->Ext (w.alloc (.cells #[.slice xA J.length xc,.string ht,.string K,.string S,nI V,.slice xB A.length xd] 55)) w1):=gd λw1 h=>((Ext.refl _).alloc _).trans h;rw[hp] at ha;have hI:(V !=he)=false:=by simpa using h3
 obtain ⟨M,hM⟩:∃M,A.length=M:=⟨_,rfl⟩;have hg:D.length=M:=by rw[<-h4];exact hM
 obtain ⟨R,hR⟩:∃R,decide (A=D)=R:=⟨_,rfl⟩;rw[hR];have HR:=gd hR;have HM:=gd hM;have hj:=gd hg;unfold REnts at F hc;rw[hM] at ha H F hm;rw[hg] at ha H hc;have hG:=gd F;have hH:=gd hc;simp only[hM,hg];clear hr F hs hc hn hp h4 hM hg hR;unfold cellsC fCells;dsimp only;go_enter func39,ntmps39
 go_wp2_with (first|(go_at_call 75;(have hz:=ha.out);(with_reducible refine Za hz ?_);clear hz;rintro e w1 ⟨rfl,F⟩;(have a0:=(H.out _ F).boxed 0 _ rfl);(have a1:=(H.out _ F).boxed 1 _ rfl);(have a2:=(H.out _ F).boxed 2 _ rfl);(have a3:=(H.out _ F).boxed 3 _ rfl);(have a4:=(H.out _ F).boxed 4 _ rfl);(have a5:=(H.out _ F).boxed 5 _ rfl);(have b0:=Jx F 0 _ rfl);(have b1:=Jx F 1 _ rfl);(have b2:=Jx F 2 _ rfl);(have b3:=Jx F 3 _ rfl);(have b4:=Jx F 4 _ rfl);(have b5:=Jx F 5 _ rfl)))
 have hE:=gd a5;have hF:=gd b5;have hA:Ext w w1:=(((Ext.refl _).alloc _).alloc _).trans F;have hf:=gd hA;clear a0 a1 a2 a3 a4 a5 b0 b1 b2 b3 b4 b5 H ha F h0 h1 h2 h3 hI hA;go_loopw [5] (λi wr=>∃k:Nat,k<=M/\i=nI k/\Hid (∀j (h1:j<A.length) (h2:j<D.length),j<k->A[j]=D[j])/\Ext w1 wr) (λi _=>M - (intOf i).toNat)
 case atStart=>exact ⟨0,Zh _,rfl,gd (λj _ _ h=>by omega),Ext.refl _⟩
 case round=>
  obtain ⟨k,hk,rfl,hi,Q⟩:=hrel;have a5:=Q.cell hE.out;have b5:=Q.cell hF.out;by_cases hq:k<M
  ·have hl:k<A.length:=(by rw[HM.out];exact hq);have ho:k<D.length:=(by rw[hj.out];exact hq);have hX:REnts wr (.slice xB M xd) A:=(by unfold REnts;rw[HM.out];exact hG.out.ext (hf.out.trans Q));have hY:REnts wr (.slice yB M yd) D:=(by unfold REnts;rw[hj.out];exact hH.out.ext (hf.out.trans Q));obtain ⟨ad,c1,e1,hv⟩:=hX.at hl;obtain ⟨ae,c2,e2,hw⟩:=hY.at ho;injection e1 with e1 e1' e1'';injection e2 with e2 e2' e2'';subst e1 e2;clear e1' e1'' e2' e2'' hX hY;have I:=GM (P:=λa b=>a=b) hl ho hi.out;have hb:A[k]≠D[k]->R=false:=λh=>(by rw[<-HR.out];refine Ya λe=>h ?_;subst e;rfl);obtain ⟨x,hB⟩:∃x,A[k]=x:=⟨_,rfl⟩;obtain ⟨y,hC⟩:∃y,D[k]=y:=⟨_,rfl⟩;rw[hB] at hv I hb;rw[hC] at hw I hb;have hu:=gd I;clear I hB hC hl ho;have hO:(0:Int)<=(k:Int):=(by omega);have hP:(k:Int)<(M:Int):=(by omega);obtain ⟨i1,t1,l1,Y,u1⟩:=x;obtain ⟨i2,t2,l2,Z,u2⟩:=y;obtain ⟨p0,p1,p2,p3,p4⟩:=hv;obtain ⟨q0,q1,q2,q3,q4⟩:=hw;dsimp only at p0 p1 p2 p3 p4 q0 q1 q2 q3 q4;have A5:∀d:Aft wr,d.w.cell? ⟨w.heap.size,5,none⟩=some (.slice (some ad) M xd):=Aft.cell a5;have B5:∀d:Aft wr,d.w.cell? ⟨w.heap.size+1,5,none⟩=some (.slice (some ae) M yd):=Aft.cell b5;have P0:∀d:Aft wr,d.w.cell? (ad.add (k*5))=some (.string i1):=Aft.cell p0;have P1:∀d:Aft wr,d.w.cell? ⟨(ad.add (k*5)).block,(ad.add (k*5)).off+1,none⟩=some (.string t1):=Aft.cell p1;have P2:∀d:Aft wr,d.w.cell? ⟨(ad.add (k*5)).block,(ad.add (k*5)).off+2,none⟩=some (.string l1):=Aft.cell p2;have P3:∀d:Aft wr,d.w.cell? ⟨(ad.add (k*5)).block,(ad.add (k*5)).off+3,none⟩=some (.string Y):=Aft.cell p3;have P4:∀d:Aft wr,d.w.cell? ⟨(ad.add (k*5)).block,(ad.add (k*5)).off+4,none⟩=some (nI u1):=Aft.cell p4;have Q0:∀d:Aft wr,d.w.cell? (ae.add (k*5))=some (.string i2):=Aft.cell q0;have Q1:∀d:Aft wr,d.w.cell? ⟨(ae.add (k*5)).block,(ae.add (k*5)).off+1,none⟩=some (.string t2):=Aft.cell q1;have Q2:∀d:Aft wr,d.w.cell? ⟨(ae.add (k*5)).block,(ae.add (k*5)).off+2,none⟩=some (.string l2):=Aft.cell q2;have Q3:∀d:Aft wr,d.w.cell? ⟨(ae.add (k*5)).block,(ae.add (k*5)).off+3,none⟩=some (.string Z):=Aft.cell q3;have Q4:∀d:Aft wr,d.w.cell? ⟨(ae.add (k*5)).block,(ae.add (k*5)).off+4,none⟩=some (nI u2):=Aft.cell q4;clear p0 p1 p2 p3 p4 q0 q1 q2 q3 q4;by_cases hh:(⟨i1,t1,l1,Y,u1⟩:Ent)=⟨i2,t2,l2,Z,u2⟩
   ·injection hh with g1 g2 g3 g4 g5;subst g1 g2 g3 g4 g5;clear hb;go_wp2;refine rA ?_
    repeat (first|go_big_quiet_step (fail)|quiet_step (fail))
    refine Z8 ?_;rintro _ ⟨d1,rfl⟩;go_wp2;go_roundw
    case rel=>exact ⟨k+1,hq,by go_num,gd (hu.out (by trivial)),Q.trans d1.ext⟩
    case measure=>simp[intOf];omega
   ·have hJ:=hb hh;subst hJ;have hN:(i1.toList==i2.toList)=false\/(i1=i2/\((t1.toList==t2.toList)=false\/(t1=t2/\((l1.toList==l2.toList)=false\/(l1=l2/\((Y.toList==Z.toList)=false\/(Y=Z/\(u1==u2)=false))))))):=by
     cases g1:(i1.toList==i2.toList) with
     |false=>exact Or.inl rfl
     |true=>
     refine Or.inr ⟨toList_inj (by simpa using g1),?_⟩;cases g2:(t1.toList==t2.toList) with
     |false=>exact Or.inl rfl
     |true=>
     refine Or.inr ⟨toList_inj (by simpa using g2),?_⟩;cases g3:(l1.toList==l2.toList) with
     |false=>exact Or.inl rfl
     |true=>
     refine Or.inr ⟨toList_inj (by simpa using g3),?_⟩;cases g4:(Y.toList==Z.toList) with
     |false=>exact Or.inl rfl
     |true=>
     refine Or.inr ⟨toList_inj (by simpa using g4),?_⟩;rw[ZG];intro g5;exact hh (by rw[toList_inj (by simpa using g1:i1.toList=i2.toList),toList_inj (by simpa using g2:t1.toList=t2.toList),toList_inj (by simpa using g3:l1.toList=l2.toList),toList_inj (by simpa using g4:Y.toList=Z.toList),g5])
    clear hb hh hu;rcases hN with h|⟨rfl,h|⟨rfl,h|⟨rfl,h|⟨rfl,h⟩⟩⟩⟩
    all_goals
     (go_wp2
      refine rA ?_
      repeat (first|go_big_quiet_step (fail)|quiet_step (fail))
      refine Z8 ?_
      rintro _ ⟨d1,rfl⟩
      go_wp2
      go_ret
      exact ⟨rfl,hf.out.trans (Q.trans d1.ext)⟩)
  ·have hL:k=M:=(by omega);subst hL;have hK:R=true:=(by rw[<-HR.out];refine YE (List.ext_getElem (by rw[HM.out,hj.out]) λj h1 h2=>hi.out j h1 h2 (by have:=HM.out;omega)));subst hK;go_wp2;go_ret;exact ⟨rfl,hf.out.trans Q⟩
theorem Zgf (x y:Fc) (w:Wq) (I:RdC w x) (J:RdC w y) (H:x.f.path.length<=16777216) (R:x.f.ents.length<=16777216):
 Calls prog 39 #[.agg (cellsC x).toArray,.agg (cellsC y).toArray] w λe w'=>e= .returned (.bool (decide (x.f=y.f)))/\Ext w w':=by
 have tl:∀{s t:ByteArray},(s.toList==t.toList)=false->s≠t:=λ{s t} h e=>by rw[e] at h;simp at h
 by_cases A:pathCmp x.f.path y.f.path=0
 ·cases D:(x.f.id.toList==y.f.id.toList) with
  |false=>rw[Ya (λe=>tl D (ZC Fd.id e))];exact Ud x y w I J H (Or.inr ⟨A,Or.inl D⟩)
  |true=>
  cases F:(x.f.title.toList==y.f.title.toList) with
  |false=>rw[Ya (λe=>tl F (ZC Fd.title e))];exact Ud x y w I J H (Or.inr ⟨A,Or.inr ⟨D,Or.inl F⟩⟩)
  |true=>
  cases K:(x.f.link.toList==y.f.link.toList) with
  |false=>rw[Ya (λe=>tl K (ZC Fd.link e))];exact Ud x y w I J H (Or.inr ⟨A,Or.inr ⟨D,Or.inr ⟨F,Or.inl K⟩⟩⟩)
  |true=>
  cases h3:(x.f.upd==y.f.upd) with
  |false=>rw[Ya (λe=>by rw[ZC Fd.upd e] at h3;simp at h3)];exact Ud x y w I J H (Or.inr ⟨A,Or.inr ⟨D,Or.inr ⟨F,Or.inr ⟨K,Or.inl h3⟩⟩⟩⟩)
  |true=>
  by_cases Q:x.f.ents.length=y.f.ents.length
  ·have e:decide (x.f=y.f)=decide (x.f.ents=y.f.ents):=by
    have S:=Zbw A;have e1:=toList_inj (by simpa using D:x.f.id.toList=y.f.id.toList);have e2:=toList_inj (by simpa using F:x.f.title.toList=y.f.title.toList);have e3:=toList_inj (by simpa using K:x.f.link.toList=y.f.link.toList);have e4:x.f.upd=y.f.upd:=(by simpa using h3);rw[decide_eq_decide];constructor
    ·intro h;rw[h]
    ·intro h;generalize x.f=a at*;generalize y.f=b at*;cases a;cases b
     simp_all
   rw[e];exact Zj1 x y w I J H R A D F K h3 Q
  ·rw[Ya (λe=>Q (by rw[e]))];exact Ud x y w I J H (Or.inr ⟨A,Or.inr ⟨D,Or.inr ⟨F,Or.inr ⟨K,Or.inr ⟨h3,Q⟩⟩⟩⟩⟩)
 ·rw[Ya (λe=>A (by rw[e];exact Zbx.self _))];exact Ud x y w I J H (Or.inl A)
end
theorem Zen (u v:Value) (l m:List Fc) (w:Wq) (hu:RFcs w u l) (hv:RFcs w v m) (hl:∀x∈l,RdC w x) (hm:∀x∈m,RdC w x) (hk:∀x∈l,x.f.path.length<=16777216/\x.f.ents.length<=16777216) (hn:l.length<=16777216):
 Calls prog 14 #[.agg #[u],.agg #[v]] w λe w'=>e= .returned (.bool (decide (l.map Fc.f=m.map Fc.f)))/\Ext w w':=by
 obtain ⟨R,hR⟩:∃R,decide (l.map Fc.f=m.map Fc.f)=R:=⟨_,rfl⟩;rw[hR];obtain ⟨A,c,rfl, -, -⟩:=hu.form;obtain ⟨B,d,rfl, -, -⟩:=hv.form;by_cases h4:l.length=m.length
 case neg=>
  have Y:R=false:=by rw[<-hR];refine Ya λe=>h4 ?_;have:=ZC List.length e;simpa using this
  subst Y;have hb:((l.length:Int) !=(m.length:Int))=true:=by simp;omega
  clear hR hu hv hl hm hk;go_enter func14,ntmps14;go_wp2;go_ret;exact ⟨rfl,((Ext.refl _).alloc _).alloc _⟩
 case pos=>
  have HR:=gd hR;have HU:=gd hu;have HV:=gd hv;have HL:=gd hl;have hr:=gd hm;have HK:=gd hk;obtain ⟨M,hM⟩:∃M,l.length=M:=⟨_,rfl⟩;have X:m.length=M:=by rw[<-h4];exact hM
  have HM:=gd hM;have ha:=gd X;rw[hM] at hn;simp only[hM,X];clear hu hv hl hm hk h4 hM X hR;go_enter func14,ntmps14;go_wp2;go_loopw [5] (λi wr=>∃k:Nat,k<=M/\i=nI k/\Hid (∀j (h1:j<l.length) (h2:j<m.length),j<k->l[j].f=m[j].f)/\Ext ((w.alloc (.cells #[.slice A M c] 31)).alloc (.cells #[.slice B M d] 31)) wr) (λi _=>M - (intOf i).toNat)
  case atStart=>exact ⟨0,Zh _,rfl,gd (λj _ _ h=>by omega),Ext.refl _⟩
  case round=>
   obtain ⟨k,hk,rfl,V,U⟩:=hrel;have a5:=(((Ext.refl _).alloc _).trans U).boxed 0 _ rfl;have b5:=Jx U 0 _ rfl;have I:Ext w wr:=(((Ext.refl _).alloc _).alloc _).trans U;by_cases Z:k<M
   ·have H:k<l.length:=(by rw[HM.out];exact Z);have J:k<m.length:=(by rw[ha.out];exact Z);obtain ⟨ad,c1,e1,he⟩:=(HU.out.ext I).at H;obtain ⟨ae,c2,e2,hf⟩:=(HV.out.ext I).at J;injection e1 with e1 e1' e1'';injection e2 with e2 e2' e2'';subst e1 e2;clear e1' e1'' e2' e2'';have D:=GM (P:=λa b:Fc=>a.f=b.f) H J V.out;have Q:l[k].f≠m[k].f->R=false:=λh=>(by rw[<-HR.out];refine Ya λe=>h ?_;have h1:(l.map Fc.f)[k]? =(m.map Fc.f)[k]?:=(by rw[e]);rw[Yz,Yz,Zl H,Zl J] at h1;exact YS h1);have hx:=HL.out _ (ZE H);have hy:=hr.out _ (ZE J);have K:=HK.out _ (ZE H);obtain ⟨x,hi⟩:∃x,l[k]=x:=⟨_,rfl⟩;obtain ⟨y,hq⟩:∃y,m[k]=y:=⟨_,rfl⟩;rw[hi] at he D Q hx K;rw[hq] at hf D Q hy;have hs:=gd D;have hc:=gd Q;have hz:=hx.sl;have hA:=hy.sl;have F:=gd (λz:Aft wr=>Zgf x y z.w (hx.ext (I.trans z.ext)) (hy.ext (I.trans z.ext)) K.1 K.2);clear D Q hi hq H J hx hy K;have hB:(0:Int)<=(k:Int):=(by omega);have hC:(k:Int)<(M:Int):=(by omega);obtain ⟨S,hS⟩:∃S,decide (x.f=y.f)=S:=⟨_,rfl⟩;simp only[hS] at F;have HS:=gd hS;clear hS;obtain ⟨xp,hD,xf⟩:=x;obtain ⟨yp,hE,yf⟩:=y;obtain ⟨⟨xA,xn,xc,hh⟩,⟨xB,xm,xd,hg⟩⟩:=hz;obtain ⟨⟨yA,yn,yc,hp⟩,⟨yB,ym,yd,ho⟩⟩:=hA;dsimp only at hh hg hp ho;subst hh hg hp ho;obtain ⟨p0,p1,p2,p3,p4,p5⟩:=he;obtain ⟨q0,q1,q2,q3,q4,q5⟩:=hf;dsimp only at p0 p1 p2 p3 p4 p5 q0 q1 q2 q3 q4 q5;unfold cellsC fCells at F;dsimp only at F;have A5:∀z:Aft wr,z.w.cell? ⟨w.heap.size,0,none⟩=some (.slice (some ad) M c):=Aft.cell a5;have B5:∀z:Aft wr,z.w.cell? ⟨w.heap.size+1,0,none⟩=some (.slice (some ae) M d):=Aft.cell b5;have P0:=λz:Aft wr=>Aft.cell p0 z;have P1:=λz:Aft wr=>Aft.cell p1 z;have P2:=λz:Aft wr=>Aft.cell p2 z;have P3:=λz:Aft wr=>Aft.cell p3 z;have P4:=λz:Aft wr=>Aft.cell p4 z;have P5:=λz:Aft wr=>Aft.cell p5 z;have Q0:=λz:Aft wr=>Aft.cell q0 z;have Q1:=λz:Aft wr=>Aft.cell q1 z;have Q2:=λz:Aft wr=>Aft.cell q2 z;have Q3:=λz:Aft wr=>Aft.cell q3 z;have Q4:=λz:Aft wr=>Aft.cell q4 z;have Q5:=λz:Aft wr=>Aft.cell q5 z;clear p0 p1 p2 p3 p4 p5 q0 q1 q2 q3 q4 q5;cases S with
    |true=>
     have hj:xf=yf:=Yw HS.out;have hd:=gd (hs.out hj);clear hj hc;go_wp2;refine rA ?_
     repeat (first|go_big_quiet_step ((go_at_call 39;with_reducible exact ZD (F.out _)))|quiet_step ((go_at_call 39;with_reducible exact ZD (F.out _))))
     refine Z8 ?_;rintro _ ⟨d1,rfl⟩;go_wp2;go_roundw
     case rel=>exact ⟨k+1,Z,by go_num,hd,U.trans d1.ext⟩
     case measure=>simp[intOf];omega
    |false=>
     have Y:=hc.out (of_decide_eq_false HS.out);subst Y;go_wp2;refine rA ?_
     repeat (first|go_big_quiet_step ((go_at_call 39;with_reducible exact ZD (F.out _)))|quiet_step ((go_at_call 39;with_reducible exact ZD (F.out _))))
     refine Z8 ?_;rintro _ ⟨d1,rfl⟩;go_wp2;go_ret;exact ⟨rfl,I.trans d1.ext⟩
   ·have hw:k=M:=(by omega);subst hw;have ht:R=true:=(by rw[<-HR.out];refine YE (List.ext_getElem (by simp only[Zm];rw[HM.out,ha.out]) λj h1 h2=> ?_);simp only[Zm] at h1 h2;rw[XD,XD];exact V.out j h1 h2 (by have:=HM.out;omega));subst ht;go_wp2;go_ret;exact ⟨rfl,I⟩
section
variable {L:List Fd} {M N c d k m n q:Nat} {s t:List UInt8} {v:Value} {w':World}
def NodeG (w:Wq) (k:Nat) (s n:List UInt8) (al ks:Value) (t:List UInt8) (a:Nat) (m:Nd):Prop:=∃l0 kids,RdN w (.mk k s n al l0 ks kids t a)/\(Nc.mk k s n al l0 ks kids t a).nd=m
def ArcG (w:Wq) (A:Option Addr) (n c:Nat) (L:List Fd):Prop:=∃lc:List Fc,n=lc.length/\lc.map Fc.f=L/\RFcs w (.slice A n c) lc/\∀y∈lc,RdC w y
theorem NodeG.ext {w w':Wq} {k a:Nat} {s n t:List UInt8} {al ks:Value} {m:Nd} (h:NodeG w k s n al ks t a m) (F:Ext w w'):NodeG w' k s n al ks t a m:=by
 obtain ⟨l0,kids,A,D⟩:=h;exact ⟨l0,kids,RdN.ext F _ A,D⟩
theorem ArcG.ext {w w':Wq} {A:Option Addr} {n c:Nat} {L:List Fd} (h:ArcG w A n c L) (D:Ext w w'):ArcG w' A n c L:=by
 obtain ⟨lc,F,H,I,J⟩:=h;exact ⟨lc,F,H,RSl.ext I D,λy K=>(J y K).ext D⟩
theorem ArcG.nil (w:Wq):ArcG w none 0 0 []:=⟨[],rfl,rfl,RSl.nil w 6,by intro y h;cases h⟩
theorem ZdE {s:ByteArray} {m:Nd} (h:treeP s.data.toList=some m) (w:Wq) (Q:s.size<=maxLen):
 Calls prog 10 #[.string s] w λe w'=>∃k s n A p c B q d t a,e= .returned (.tuple #[.agg #[nI (k:Nat),.string (str s),.string (str n),.slice A p c,.slice B q d,.string (str t),nI (a:Nat)],nI 1])/\NodeG w' k s n (.slice A p c) (.slice B q d) t a m/\Ext w w':=by
 refine Za (ZfG s w Q) ?_;rintro e w' ⟨v,rfl,J,R⟩;rw[h] at J;obtain ⟨mc,rfl,K,H⟩:=J;have I:=RdN.sl H;obtain ⟨k,s,n,al,l0,ks,kids,t,a⟩:=mc;obtain ⟨⟨A,p,c,D⟩,⟨B,q,d,F⟩⟩:=I;simp only[Nc.al,Nc.ks] at D F;subst D;subst F;exact ⟨k,s,n,A,p,c,B,q,d,t,a,rfl,⟨l0,kids,H,K⟩,R⟩
theorem Zmc {m:Nd} (h:DecRet w' v (opmlP m)):∃A n c,v= .tuple #[.agg #[.slice A n c],nI (decAt m:Nat),nI (decE m:Nat)]/\ArcG w' A n c (decL m):=by
 unfold decAt decE decL;cases ho:opmlP m with
 |error x=>obtain ⟨y,c⟩:=x;rw[ho] at h;exact ⟨none,0,0,h,ArcG.nil w'⟩
 |ok l=>rw[ho] at h;obtain ⟨v',lc,rfl,F,D,H⟩:=h;obtain ⟨A,c,rfl, -, -⟩:=D.form;exact ⟨A,_,c,rfl,lc,rfl,F,D,H⟩
theorem ZaS {p a:Nat} {n:List UInt8} {A B:Option Addr} {m:Nd} (w:Wq) (J:Env w) (h:NodeG w k s n (.slice A p c) (.slice B q d) t a m) (U:m.fd N) (S:m.cnt<=M) (D:∀l,opmlP m= .ok l->distF l\/LatF) (Q:N<=10000:=by decide) (K:M<=1000000:=by decide):
 Calls prog 12 #[.agg #[nI (k:Nat),.string (str s),.string (str n),.slice A p c,.slice B q d,.string (str t),nI (a:Nat)]] w λe w'=>∃A n c,e= .returned (.tuple #[.agg #[.slice A n c],nI (decAt m:Nat),nI (decE m:Nat)])/\ArcG w' A n c (decL m)/\Ext w w':=by
 obtain ⟨l0,kids,H,I⟩:=h;subst I;have F:=ZgW _ _ Q K _ w J H U S D;simp only[cellsN] at F;refine Za F ?_;rintro e w' ⟨v,rfl,V,X⟩;obtain ⟨A,n,c,rfl,R⟩:=Zmc V;exact ⟨A,n,c,rfl,R,X⟩
theorem ZnS {A B:Option Addr} {M:List Fd} (w:Wq) (I:ArcG w A n c L) (J:ArcG w B m d M) (F:smA L):
 Calls prog 14 #[.agg #[.slice A n c],.agg #[.slice B m d]] w λe w'=>e= .returned (.bool (decide (L=M)))/\Ext w w':=by
 obtain ⟨lc,rfl,rfl,D,H⟩:=I;obtain ⟨mc,rfl,rfl,g3,g4⟩:=J;exact Zen _ _ lc mc w D g3 H g4 (λx K=>by
  have h:=(F.1 x.f (ZY K)).1;have Q:=h.1.2;have D:=h.2.1;omega) (by have:=F.2;rw[Zm] at this;omega)
theorem Zma {A:Option Addr} (w:Wq) (H:ArcG w A n c L) (h:smA L):
 Calls prog 16 #[.agg #[.slice A n c]] w λe w'=>e= .returned (nI (if okA L=true then 0 else 22))/\Ext w w':=by
 obtain ⟨lc,rfl,rfl,D,F⟩:=H;exact Zce _ lc w D F (λx I=>(h.1 x.f (ZY I)).1) (by have:=h.2;rw[Zm] at this;omega)
theorem Zez {A:Option Addr} (w:Wq) (H:Env w) (h:NmTabs w) (I:ArcG w A n c L) (J:smA L):
 Calls prog 17 #[.agg #[.slice A n c]] w λe w'=>e= .returned (.tuple #[.string (str (if okA L=true then docW (encP L) else [])),nI (if okA L=true then 0 else 22)])/\Ext w w':=by
 obtain ⟨lc,rfl,rfl,D,F⟩:=I;exact Zko _ lc w H h D F J
theorem Zig {A:Option Addr}:(#[Value.slice A n c]:Array Value).all (λu=>u.oneCell')=true:=by simp[Value.oneCell']
end
end Go.Proofs.YtnlafkgkcnenfaaGreatDoor
