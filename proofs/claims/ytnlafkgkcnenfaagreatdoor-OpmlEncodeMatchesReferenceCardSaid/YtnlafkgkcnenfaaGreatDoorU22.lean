/- Parts of the proof: contracts and plain laws. -/
import Derived.Test.YtnlafkgkcnenfaaGreatDoorTie
import Derived.Test.YtnlafkgkcnenfaaGreatDoorCards
import Derived.Test.YtnlafkgkcnenfaaGreatDoorRows
import Derived.Test.YtnlafkgkcnenfaaGreatDoorU21
namespace Go.Proofs.YtnlafkgkcnenfaaGreatDoor
open Go Go.RowKit Go.ChangeShapes Go.WideShapes Go.ChangeAt Go.Joins Go.Deep _root_.Go.Proofs.Tryz
set_option linter.unusedVariables false
set_option linter.unusedSimpArgs false
set_option maxRecDepth 100000
set_option maxHeartbeats 16000000
section
variable {k:Nat} {w w1:World} {α:Type}
theorem JJ {A:Obj} {B:Array Value} {t:TypeId} {fr:Nat×Nat} (h:Ext ((w.alloc A).alloc (.cells B t fr)) w1) (i:Nat) (v:Value) (D:B[i]? =some v):w1.cell? ⟨w.heap.size+1,i,none⟩=some v:=by
 have:=h.boxed i v D
 rwa [Zu] at this
theorem Ux (x y:Fc) (w:Wq) (hx:RdC w x) (hy:RdC w y) (hn:x.f.path.length<=16777216) (hw:pathCmp x.f.path y.f.path≠0\/pathCmp x.f.path y.f.path=0/\((x.f.id.toList==y.f.id.toList)=false\/(x.f.id.toList==y.f.id.toList)=true/\((x.f.title.toList==y.f.title.toList)=false\/(x.f.title.toList==y.f.title.toList)=true/\((x.f.link.toList==y.f.link.toList)=false\/(x.f.link.toList==y.f.link.toList)=true/\((x.f.upd==y.f.upd)=false\/(x.f.upd==y.f.upd)=true/\x.f.ents.length≠y.f.ents.length))))):
 Calls prog 39 #[.agg (cellsC x).toArray,.agg (cellsC y).toArray] w λe w'=>e= .returned (.bool false)/\Ext w w':=by
 obtain ⟨xp,hg,⟨D,Z,H,J,Q,F⟩⟩:=x;obtain ⟨yp,hh,⟨I,hc,R,U,V,K⟩⟩:=y;obtain ⟨X,A⟩:=hx;obtain ⟨Y,ha⟩:=hy;dsimp only at*;obtain ⟨xA,xc,rfl, -, -⟩:=X.form;obtain ⟨xB,xd,rfl, -, -⟩:=A.form;obtain ⟨yA,yc,rfl, -, -⟩:=Y.form;obtain ⟨yB,yd,rfl, -, -⟩:=ha.form;have hd:=gd (GE _ _ D I ((w.alloc (.cells #[.slice xA D.length xc,.string Z,.string H,.string J,nI Q,.slice xB F.length xd] 55)).alloc (.cells #[.slice yA I.length yc,.string hc,.string R,.string U,nI V,.slice yB K.length yd] 55)) (X.ext (((Ext.refl _).alloc _).alloc _)) (Y.ext (((Ext.refl _).alloc _).alloc _)) hn);have S:Hid (∀w1:Wq,Ext ((w.alloc (.cells #[.slice xA D.length xc,.string Z,.string H,.string J,nI Q,.slice xB F.length xd] 55)).alloc (.cells #[.slice yA I.length yc,.string hc,.string R,.string U,nI V,.slice yB K.length yd] 55)) w1->Ext (w.alloc (.cells #[.slice xA D.length xc,.string Z,.string H,.string J,nI Q,.slice xB F.length xd] 55)) w1):=gd λw1 h=>((Ext.refl _).alloc _).trans h;generalize pathCmp D I=c at*;clear X A Y ha hn;rcases hw with hp|⟨hp,h0|⟨h0,h1|⟨h1,h2|⟨h2,h3|⟨h3,h4⟩⟩⟩⟩⟩;have hb:(c !=0)=true:=by simpa using hp
 rotate_left
 iterate 4
  subst hp
  rotate_left
 subst hp;have hf:((F.length:Int) !=(K.length:Int))=true:=by simp;omega
 have he:(Q !=V)=false:=by simpa using h3
 all_goals
  unfold cellsC fCells
  dsimp only
  go_enter func39,ntmps39
  go_wp2_with (first|(go_at_call 75;have hz:=hd.out;refine Za hz ?_;clear hz;rintro e w1 ⟨rfl,A⟩;have a0:=(S.out _ A).boxed 0 _ rfl;have a1:=(S.out _ A).boxed 1 _ rfl;have a2:=(S.out _ A).boxed 2 _ rfl;have a3:=(S.out _ A).boxed 3 _ rfl;have a4:=(S.out _ A).boxed 4 _ rfl;have a5:=(S.out _ A).boxed 5 _ rfl;have b0:=JJ A 0 _ rfl;have b1:=JJ A 1 _ rfl;have b2:=JJ A 2 _ rfl;have b3:=JJ A 3 _ rfl;have b4:=JJ A 4 _ rfl;have b5:=JJ A 5 _ rfl))
  go_ret
  exact ⟨rfl,(((Ext.refl _).alloc _).alloc _).trans A⟩
theorem Kx {P:α->α->Prop} {a b:List α} (H:k<a.length) (I:k<b.length) (h:∀j (A:j<a.length) (D:j<b.length),j<k->P a[j] b[j]) (F:P a[k] b[k]):∀j (A:j<a.length) (D:j<b.length),j<k+1->P a[j] b[j]:=by
 intro j A D J;by_cases e:j=k
 ·subst e;exact F
 ·exact h j A D om
theorem ZlT (x y:Fc) (w:Wq) (hx:RdC w x) (hy:RdC w y) (hn:x.f.path.length<=16777216) (hm:x.f.ents.length<=16777216) (hp:pathCmp x.f.path y.f.path=0) (h0:(x.f.id.toList==y.f.id.toList)=true) (h1:(x.f.title.toList==y.f.title.toList)=true) (h2:(x.f.link.toList==y.f.link.toList)=true) (h3:(x.f.upd==y.f.upd)=true) (h4:x.f.ents.length=y.f.ents.length):
 Calls prog 39 #[.agg (cellsC x).toArray,.agg (cellsC y).toArray] w λe w'=>e= .returned (.bool (decide (x.f.ents=y.f.ents)))/\Ext w w':=by
 obtain ⟨xp,hQ,⟨J,ht,K,S,V,A⟩⟩:=x;obtain ⟨yp,hS,⟨U,hD,X,hd,he,D⟩⟩:=y;obtain ⟨hr,F⟩:=hx;obtain ⟨hs,hc⟩:=hy;dsimp only at*;obtain ⟨xA,xc,rfl, -, -⟩:=hr.form;obtain ⟨xB,xd,rfl, -, -⟩:=F.form;obtain ⟨yA,yc,rfl, -, -⟩:=hs.form;obtain ⟨yB,yd,rfl, -, -⟩:=hc.form;have ha:=gd (GE _ _ J U ((w.alloc (.cells #[.slice xA J.length xc,.string ht,.string K,.string S,nI V,.slice xB A.length xd] 55)).alloc (.cells #[.slice yA U.length yc,.string hD,.string X,.string hd,nI he,.slice yB D.length yd] 55)) (hr.ext (((Ext.refl _).alloc _).alloc _)) (hs.ext (((Ext.refl _).alloc _).alloc _)) hn);have H:Hid (∀w1:Wq,Ext ((w.alloc (.cells #[.slice xA J.length xc,.string ht,.string K,.string S,nI V,.slice xB A.length xd] 55)).alloc (.cells #[.slice yA U.length yc,.string hD,.string X,.string hd,nI he,.slice yB D.length yd] 55)) w1->Ext (w.alloc (.cells #[.slice xA J.length xc,.string ht,.string K,.string S,nI V,.slice xB A.length xd] 55)) w1):=gd λw1 h=>((Ext.refl _).alloc _).trans h;rw[hp] at ha;have hI:(V !=he)=false:=by simpa using h3
 obtain ⟨M,hM⟩:∃M,A.length=M:=⟨_,rfl⟩;have hg:D.length=M:=by rw[<-h4];exact hM
 obtain ⟨R,hR⟩:∃R,decide (A=D)=R:=⟨_,rfl⟩;rw[hR];have HR:=gd hR;have HM:=gd hM;have hj:=gd hg;unfold REnts at F hc;rw[hM] at ha H F hm;rw[hg] at ha H hc;have hG:=gd F;have hH:=gd hc;simp only[hM,hg];clear hr F hs hc hn hp h4 hM hg hR;unfold cellsC fCells;dsimp only;go_enter func39,ntmps39
 go_wp2_with (first|(go_at_call 75;have hz:=ha.out;refine Za hz ?_;clear hz;rintro e w1 ⟨rfl,F⟩;have a0:=(H.out _ F).boxed 0 _ rfl;have a1:=(H.out _ F).boxed 1 _ rfl;have a2:=(H.out _ F).boxed 2 _ rfl;have a3:=(H.out _ F).boxed 3 _ rfl;have a4:=(H.out _ F).boxed 4 _ rfl;have a5:=(H.out _ F).boxed 5 _ rfl;have b0:=JJ F 0 _ rfl;have b1:=JJ F 1 _ rfl;have b2:=JJ F 2 _ rfl;have b3:=JJ F 3 _ rfl;have b4:=JJ F 4 _ rfl;have b5:=JJ F 5 _ rfl))
 have hE:=gd a5;have hF:=gd b5;have hA:Ext w w1:=(((Ext.refl _).alloc _).alloc _).trans F;have hf:=gd hA;clear a0 a1 a2 a3 a4 a5 b0 b1 b2 b3 b4 b5 H ha F h0 h1 h2 h3 hI hA;go_loopw [5] (λi wr=>∃k:Nat,k<=M/\i=nI k/\Hid (∀j (h1:j<A.length) (h2:j<D.length),j<k->A[j]=D[j])/\Ext w1 wr) (λi _=>M - (intOf i).toNat)
 case atStart=>exact ⟨0,Zj _,rfl,gd (λj _ _ h=>by omega),Ext.refl _⟩
 case round=>
  obtain ⟨k,hk,rfl,hi,Q⟩:=hrel;have a5:=Q.cell hE.out;have b5:=Q.cell hF.out;by_cases hq:k<M
  ·have hl:k<A.length:=(by rw[HM.out];exact hq);have ho:k<D.length:=(by rw[hj.out];exact hq);have hX:REnts wr (.slice xB M xd) A:=(by unfold REnts;rw[HM.out];exact hG.out.ext (hf.out.trans Q));have hY:REnts wr (.slice yB M yd) D:=(by unfold REnts;rw[hj.out];exact hH.out.ext (hf.out.trans Q));obtain ⟨ad,c1,e1,hv⟩:=hX.at hl;obtain ⟨ae,c2,e2,hw⟩:=hY.at ho;injection e1 with e1 e1' e1'';injection e2 with e2 e2' e2'';subst e1 e2;clear e1' e1'' e2' e2'' hX hY;have I:=Kx (P:=λa b=>a=b) hl ho hi.out;have hb:A[k]≠D[k]->R=false:=λh=>(by rw[<-HR.out];refine Yd λe=>h ?_;subst e;rfl);obtain ⟨x,hB⟩:∃x,A[k]=x:=⟨_,rfl⟩;obtain ⟨y,hC⟩:∃y,D[k]=y:=⟨_,rfl⟩;rw[hB] at hv I hb;rw[hC] at hw I hb;have hu:=gd I;clear I hB hC hl ho;have hO:(0:Int)<=(k:Int):=om;have hP:(k:Int)<(M:Int):=om;obtain ⟨i1,t1,l1,Y,u1⟩:=x;obtain ⟨i2,t2,l2,Z,u2⟩:=y;obtain ⟨p0,p1,p2,p3,p4⟩:=hv;obtain ⟨q0,q1,q2,q3,q4⟩:=hw;dsimp only at p0 p1 p2 p3 p4 q0 q1 q2 q3 q4;have A5:∀d:Aft wr,d.w.cell? ⟨w.heap.size,5,none⟩=some (.slice (some ad) M xd):=Aft.cell a5;have B5:∀d:Aft wr,d.w.cell? ⟨w.heap.size+1,5,none⟩=some (.slice (some ae) M yd):=Aft.cell b5;have P0:∀d:Aft wr,d.w.cell? (ad.add (k*5))=some (.string i1):=Aft.cell p0;have P1:∀d:Aft wr,d.w.cell? ⟨(ad.add (k*5)).block,(ad.add (k*5)).off+1,none⟩=some (.string t1):=Aft.cell p1;have P2:∀d:Aft wr,d.w.cell? ⟨(ad.add (k*5)).block,(ad.add (k*5)).off+2,none⟩=some (.string l1):=Aft.cell p2;have P3:∀d:Aft wr,d.w.cell? ⟨(ad.add (k*5)).block,(ad.add (k*5)).off+3,none⟩=some (.string Y):=Aft.cell p3;have P4:∀d:Aft wr,d.w.cell? ⟨(ad.add (k*5)).block,(ad.add (k*5)).off+4,none⟩=some (nI u1):=Aft.cell p4;have Q0:∀d:Aft wr,d.w.cell? (ae.add (k*5))=some (.string i2):=Aft.cell q0;have Q1:∀d:Aft wr,d.w.cell? ⟨(ae.add (k*5)).block,(ae.add (k*5)).off+1,none⟩=some (.string t2):=Aft.cell q1;have Q2:∀d:Aft wr,d.w.cell? ⟨(ae.add (k*5)).block,(ae.add (k*5)).off+2,none⟩=some (.string l2):=Aft.cell q2;have Q3:∀d:Aft wr,d.w.cell? ⟨(ae.add (k*5)).block,(ae.add (k*5)).off+3,none⟩=some (.string Z):=Aft.cell q3;have Q4:∀d:Aft wr,d.w.cell? ⟨(ae.add (k*5)).block,(ae.add (k*5)).off+4,none⟩=some (nI u2):=Aft.cell q4;clear p0 p1 p2 p3 p4 q0 q1 q2 q3 q4;by_cases hh:(⟨i1,t1,l1,Y,u1⟩:Ent)=⟨i2,t2,l2,Z,u2⟩
   ·injection hh with g1 g2 g3 g4 g5;subst g1 g2 g3 g4 g5;clear hb;go_wp2;refine rA ?_
    repeat (first|go_big_quiet_step (fail)|quiet_step (fail))
    refine Z9 ?_;rintro _ ⟨d1,rfl⟩;go_wp2;go_roundw
    case rel=>exact ⟨k+1,hq,by go_num,gd (hu.out (by trivial)),Q.trans d1.ext⟩
    case measure=>simp[intOf];omega
   ·have hJ:=hb hh;subst hJ;have hN:(i1.toList==i2.toList)=false\/(i1=i2/\((t1.toList==t2.toList)=false\/(t1=t2/\((l1.toList==l2.toList)=false\/(l1=l2/\((Y.toList==Z.toList)=false\/(Y=Z/\(u1==u2)=false))))))):=by
     cases g1:(i1.toList==i2.toList) with
     |false=>exact Or.inl rfl
     |true=>
     refine Or.inr ⟨toList_inj (by simpa using g1),?_⟩;cases g2:(t1.toList==t2.toList) with
     |false=>exact Or.inl rfl
     |true=>
     refine Or.inr ⟨toList_inj (by simpa using g2),?_⟩;cases g3:(l1.toList==l2.toList) with
     |false=>exact Or.inl rfl
     |true=>
     refine Or.inr ⟨toList_inj (by simpa using g3),?_⟩;cases g4:(Y.toList==Z.toList) with
     |false=>exact Or.inl rfl
     |true=>
     refine Or.inr ⟨toList_inj (by simpa using g4),?_⟩;rw[Zv];intro g5;exact hh (by rw[toList_inj (by simpa using g1:i1.toList=i2.toList),toList_inj (by simpa using g2:t1.toList=t2.toList),toList_inj (by simpa using g3:l1.toList=l2.toList),toList_inj (by simpa using g4:Y.toList=Z.toList),g5])
    clear hb hh hu;rcases hN with h|⟨rfl,h|⟨rfl,h|⟨rfl,h|⟨rfl,h⟩⟩⟩⟩
    all_goals
     (go_wp2
      refine rA ?_
      repeat (first|go_big_quiet_step (fail)|quiet_step (fail))
      refine Z9 ?_
      rintro _ ⟨d1,rfl⟩
      go_wp2
      go_ret
      exact ⟨rfl,hf.out.trans (Q.trans d1.ext)⟩)
  ·have hL:k=M:=om;subst hL;have hK:R=true:=(by rw[<-HR.out];refine YG (List.ext_getElem (by rw[HM.out,hj.out]) λj h1 h2=>hi.out j h1 h2 (by have:=HM.out;omega)));subst hK;go_wp2;go_ret;exact ⟨rfl,hf.out.trans Q⟩
theorem ZhH (x y:Fc) (w:Wq) (I:RdC w x) (J:RdC w y) (H:x.f.path.length<=16777216) (R:x.f.ents.length<=16777216):
 Calls prog 39 #[.agg (cellsC x).toArray,.agg (cellsC y).toArray] w λe w'=>e= .returned (.bool (decide (x.f=y.f)))/\Ext w w':=by
 have tl:∀{s t:ByteArray},(s.toList==t.toList)=false->s≠t:=λ{s t} h e=>by rw[e] at h;simp at h
 by_cases A:pathCmp x.f.path y.f.path=0
 ·cases D:(x.f.id.toList==y.f.id.toList) with
  |false=>rw[Yd (λe=>tl D (Zz Fd.id e))];exact Ux x y w I J H (Or.inr ⟨A,Or.inl D⟩)
  |true=>
  cases F:(x.f.title.toList==y.f.title.toList) with
  |false=>rw[Yd (λe=>tl F (Zz Fd.title e))];exact Ux x y w I J H (Or.inr ⟨A,Or.inr ⟨D,Or.inl F⟩⟩)
  |true=>
  cases K:(x.f.link.toList==y.f.link.toList) with
  |false=>rw[Yd (λe=>tl K (Zz Fd.link e))];exact Ux x y w I J H (Or.inr ⟨A,Or.inr ⟨D,Or.inr ⟨F,Or.inl K⟩⟩⟩)
  |true=>
  cases h3:(x.f.upd==y.f.upd) with
  |false=>rw[Yd (λe=>by rw[Zz Fd.upd e] at h3;simp at h3)];exact Ux x y w I J H (Or.inr ⟨A,Or.inr ⟨D,Or.inr ⟨F,Or.inr ⟨K,Or.inl h3⟩⟩⟩⟩)
  |true=>
  by_cases Q:x.f.ents.length=y.f.ents.length
  ·have e:decide (x.f=y.f)=decide (x.f.ents=y.f.ents):=by
    have S:=ZcD A;have e1:=toList_inj (by simpa using D:x.f.id.toList=y.f.id.toList);have e2:=toList_inj (by simpa using F:x.f.title.toList=y.f.title.toList);have e3:=toList_inj (by simpa using K:x.f.link.toList=y.f.link.toList);have e4:x.f.upd=y.f.upd:=(by simpa using h3);rw[decide_eq_decide];constructor
    ·intro h;rw[h]
    ·intro h;generalize x.f=a at*;generalize y.f=b at*;cases a;cases b
     simp_all
   rw[e];exact ZlT x y w I J H R A D F K h3 Q
  ·rw[Yd (λe=>Q (by rw[e]))];exact Ux x y w I J H (Or.inr ⟨A,Or.inr ⟨D,Or.inr ⟨F,Or.inr ⟨K,Or.inr ⟨h3,Q⟩⟩⟩⟩⟩)
 ·rw[Yd (λe=>A (by rw[e];exact ZcE.self _))];exact Ux x y w I J H (Or.inl A)
end
theorem ZfF (u v:Value) (l m:List Fc) (w:Wq) (hu:RFcs w u l) (hv:RFcs w v m) (hl:∀x∈l,RdC w x) (hm:∀x∈m,RdC w x) (hk:∀x∈l,x.f.path.length<=16777216/\x.f.ents.length<=16777216) (hn:l.length<=16777216):
 Calls prog 14 #[.agg #[u],.agg #[v]] w λe w'=>e= .returned (.bool (decide (l.map Fc.f=m.map Fc.f)))/\Ext w w':=by
 obtain ⟨R,hR⟩:∃R,decide (l.map Fc.f=m.map Fc.f)=R:=⟨_,rfl⟩;rw[hR];obtain ⟨A,c,rfl, -, -⟩:=hu.form;obtain ⟨B,d,rfl, -, -⟩:=hv.form;by_cases h4:l.length=m.length
 case neg=>
  have Y:R=false:=by rw[<-hR];refine Yd λe=>h4 ?_;have:=Zz List.length e;simpa using this
  subst Y;have hb:((l.length:Int) !=(m.length:Int))=true:=by simp;omega
  clear hR hu hv hl hm hk;go_enter func14,ntmps14;go_wp2;go_ret;exact ⟨rfl,((Ext.refl _).alloc _).alloc _⟩
 case pos=>
  have HR:=gd hR;have HU:=gd hu;have HV:=gd hv;have HL:=gd hl;have hr:=gd hm;have HK:=gd hk;obtain ⟨M,hM⟩:∃M,l.length=M:=⟨_,rfl⟩;have X:m.length=M:=by rw[<-h4];exact hM
  have HM:=gd hM;have ha:=gd X;rw[hM] at hn;simp only[hM,X];clear hu hv hl hm hk h4 hM X hR;go_enter func14,ntmps14;go_wp2;go_loopw [5] (λi wr=>∃k:Nat,k<=M/\i=nI k/\Hid (∀j (h1:j<l.length) (h2:j<m.length),j<k->l[j].f=m[j].f)/\Ext ((w.alloc (.cells #[.slice A M c] 31)).alloc (.cells #[.slice B M d] 31)) wr) (λi _=>M - (intOf i).toNat)
  case atStart=>exact ⟨0,Zj _,rfl,gd (λj _ _ h=>by omega),Ext.refl _⟩
  case round=>
   obtain ⟨k,hk,rfl,V,U⟩:=hrel;have a5:=(((Ext.refl _).alloc _).trans U).boxed 0 _ rfl;have b5:=JJ U 0 _ rfl;have I:Ext w wr:=(((Ext.refl _).alloc _).alloc _).trans U;by_cases Z:k<M
   ·have H:k<l.length:=(by rw[HM.out];exact Z);have J:k<m.length:=(by rw[ha.out];exact Z);obtain ⟨ad,c1,e1,he⟩:=(HU.out.ext I).at H;obtain ⟨ae,c2,e2,hf⟩:=(HV.out.ext I).at J;injection e1 with e1 e1' e1'';injection e2 with e2 e2' e2'';subst e1 e2;clear e1' e1'' e2' e2'';have D:=Kx (P:=λa b:Fc=>a.f=b.f) H J V.out;have Q:l[k].f≠m[k].f->R=false:=λh=>(by rw[<-HR.out];refine Yd λe=>h ?_;have h1:(l.map Fc.f)[k]? =(m.map Fc.f)[k]?:=(by rw[e]);rw[Yp,Yp,Zh H,Zh J] at h1;exact YX h1);have hx:=HL.out _ (ZL H);have hy:=hr.out _ (ZL J);have K:=HK.out _ (ZL H);obtain ⟨x,hi⟩:∃x,l[k]=x:=⟨_,rfl⟩;obtain ⟨y,hq⟩:∃y,m[k]=y:=⟨_,rfl⟩;rw[hi] at he D Q hx K;rw[hq] at hf D Q hy;have hs:=gd D;have hc:=gd Q;have hz:=hx.sl;have hA:=hy.sl;have F:=gd (λz:Aft wr=>ZhH x y z.w (hx.ext (I.trans z.ext)) (hy.ext (I.trans z.ext)) K.1 K.2);clear D Q hi hq H J hx hy K;have hB:(0:Int)<=(k:Int):=om;have hC:(k:Int)<(M:Int):=om;obtain ⟨S,hS⟩:∃S,decide (x.f=y.f)=S:=⟨_,rfl⟩;simp only[hS] at F;have HS:=gd hS;clear hS;obtain ⟨xp,hD,xf⟩:=x;obtain ⟨yp,hE,yf⟩:=y;obtain ⟨⟨xA,xn,xc,hh⟩,⟨xB,xm,xd,hg⟩⟩:=hz;obtain ⟨⟨yA,yn,yc,hp⟩,⟨yB,ym,yd,ho⟩⟩:=hA;dsimp only at hh hg hp ho;subst hh hg hp ho;obtain ⟨p0,p1,p2,p3,p4,p5⟩:=he;obtain ⟨q0,q1,q2,q3,q4,q5⟩:=hf;dsimp only at p0 p1 p2 p3 p4 p5 q0 q1 q2 q3 q4 q5;unfold cellsC fCells at F;dsimp only at F;have A5:∀z:Aft wr,z.w.cell? ⟨w.heap.size,0,none⟩=some (.slice (some ad) M c):=Aft.cell a5;have B5:∀z:Aft wr,z.w.cell? ⟨w.heap.size+1,0,none⟩=some (.slice (some ae) M d):=Aft.cell b5;have P0:=λz:Aft wr=>Aft.cell p0 z;have P1:=λz:Aft wr=>Aft.cell p1 z;have P2:=λz:Aft wr=>Aft.cell p2 z;have P3:=λz:Aft wr=>Aft.cell p3 z;have P4:=λz:Aft wr=>Aft.cell p4 z;have P5:=λz:Aft wr=>Aft.cell p5 z;have Q0:=λz:Aft wr=>Aft.cell q0 z;have Q1:=λz:Aft wr=>Aft.cell q1 z;have Q2:=λz:Aft wr=>Aft.cell q2 z;have Q3:=λz:Aft wr=>Aft.cell q3 z;have Q4:=λz:Aft wr=>Aft.cell q4 z;have Q5:=λz:Aft wr=>Aft.cell q5 z;clear p0 p1 p2 p3 p4 p5 q0 q1 q2 q3 q4 q5;cases S with
    |true=>
     have hj:xf=yf:=YK HS.out;have hd:=gd (hs.out hj);clear hj hc;go_wp2;refine rA ?_
     repeat (first|go_big_quiet_step ((go_at_call 39;with_reducible exact ZE (F.out _)))|quiet_step ((go_at_call 39;with_reducible exact ZE (F.out _))))
     refine Z9 ?_;rintro _ ⟨d1,rfl⟩;go_wp2;go_roundw
     case rel=>exact ⟨k+1,Z,by go_num,hd,U.trans d1.ext⟩
     case measure=>simp[intOf];omega
    |false=>
     have Y:=hc.out (of_decide_eq_false HS.out);subst Y;go_wp2;refine rA ?_
     repeat (first|go_big_quiet_step ((go_at_call 39;with_reducible exact ZE (F.out _)))|quiet_step ((go_at_call 39;with_reducible exact ZE (F.out _))))
     refine Z9 ?_;rintro _ ⟨d1,rfl⟩;go_wp2;go_ret;exact ⟨rfl,I.trans d1.ext⟩
   ·have hw:k=M:=om;subst hw;have ht:R=true:=(by rw[<-HR.out];refine YG (List.ext_getElem (by simp only[Zq];rw[HM.out,ha.out]) λj h1 h2=> ?_);simp only[Zq] at h1 h2;rw[Xn,Xn];exact V.out j h1 h2 (by have:=HM.out;omega));subst ht;go_wp2;go_ret;exact ⟨rfl,I⟩
section
variable {L:List Fd} {M N c d k m n q:Nat} {s t:List UInt8} {v:Value} {w':World}
def NodeG (w:Wq) (k:Nat) (s n:List UInt8) (al ks:Value) (t:List UInt8) (a:Nat) (m:Nd):Prop:=∃l0 kids,RdN w (.mk k s n al l0 ks kids t a)/\(Nc.mk k s n al l0 ks kids t a).nd=m
def ArcG (w:Wq) (A:Option Addr) (n c:Nat) (L:List Fd):Prop:=∃lc:List Fc,n=lc.length/\lc.map Fc.f=L/\RFcs w (.slice A n c) lc/\∀y∈lc,RdC w y
theorem NodeG.ext {w w':Wq} {k a:Nat} {s n t:List UInt8} {al ks:Value} {m:Nd} (h:NodeG w k s n al ks t a m) (F:Ext w w'):NodeG w' k s n al ks t a m:=by
 obtain ⟨l0,kids,A,D⟩:=h;exact ⟨l0,kids,RdN.ext F _ A,D⟩
theorem ArcG.ext {w w':Wq} {A:Option Addr} {n c:Nat} {L:List Fd} (h:ArcG w A n c L) (D:Ext w w'):ArcG w' A n c L:=by
 obtain ⟨lc,F,H,I,J⟩:=h;exact ⟨lc,F,H,RSl.ext I D,λy K=>(J y K).ext D⟩
theorem ArcG.nil (w:Wq):ArcG w none 0 0 []:=⟨[],rfl,rfl,RSl.nil w 6,by intro y h;cases h⟩
theorem Zap {s:ByteArray} {m:Nd} (h:treeP s.data.toList=some m) (w:Wq) (Q:s.size<=maxLen):
 Calls prog 10 #[.string s] w λe w'=>∃k s n A p c B q d t a,e= .returned (.tuple #[.agg #[nI (k:Nat),.string (str s),.string (str n),.slice A p c,.slice B q d,.string (str t),nI (a:Nat)],nI 1])/\NodeG w' k s n (.slice A p c) (.slice B q d) t a m/\Ext w w':=by
 refine Za (ZaR s w Q) ?_;rintro e w' ⟨v,rfl,J,R⟩;rw[h] at J;obtain ⟨mc,rfl,K,H⟩:=J;have I:=RdN.sl H;obtain ⟨k,s,n,al,l0,ks,kids,t,a⟩:=mc;obtain ⟨⟨A,p,c,D⟩,⟨B,q,d,F⟩⟩:=I;simp only[Nc.al,Nc.ks] at D F;subst D;subst F;exact ⟨k,s,n,A,p,c,B,q,d,t,a,rfl,⟨l0,kids,H,K⟩,R⟩
theorem Zoj {m:Nd} (h:DecRet w' v (opmlP m)):∃A n c,v= .tuple #[.agg #[.slice A n c],nI (decAt m:Nat),nI (decE m:Nat)]/\ArcG w' A n c (decL m):=by
 unfold decAt decE decL;cases ho:opmlP m with
 |error x=>obtain ⟨y,c⟩:=x;rw[ho] at h;exact ⟨none,0,0,h,ArcG.nil w'⟩
 |ok l=>rw[ho] at h;obtain ⟨v',lc,rfl,F,D,H⟩:=h;obtain ⟨A,c,rfl, -, -⟩:=D.form;exact ⟨A,_,c,rfl,lc,rfl,F,D,H⟩
theorem IE {p a:Nat} {n:List UInt8} {A B:Option Addr} {m:Nd} (w:Wq) (J:Env w) (h:NodeG w k s n (.slice A p c) (.slice B q d) t a m) (S:m.fd N) (hc:m.cnt<=M) (D:∀l,opmlP m= .ok l->distF l\/LatF) (Q:N<=10000:=by decide) (K:M<=1000000:=by decide):
 Calls prog 12 #[.agg #[nI (k:Nat),.string (str s),.string (str n),.slice A p c,.slice B q d,.string (str t),nI (a:Nat)]] w λe w'=>∃A n c,e= .returned (.tuple #[.agg #[.slice A n c],nI (decAt m:Nat),nI (decE m:Nat)])/\ArcG w' A n c (decL m)/\Ext w w':=by
 obtain ⟨l0,kids,H,I⟩:=h;subst I;have F:=Ziy _ _ Q K _ w J H S hc D;simp only[cellsN] at F;refine Za F ?_;rintro e w' ⟨v,rfl,U,V⟩;obtain ⟨A,n,c,rfl,R⟩:=Zoj U;exact ⟨A,n,c,rfl,R,V⟩
theorem ZpZ {A B:Option Addr} {M:List Fd} (w:Wq) (I:ArcG w A n c L) (J:ArcG w B m d M) (F:smA L):
 Calls prog 14 #[.agg #[.slice A n c],.agg #[.slice B m d]] w λe w'=>e= .returned (.bool (decide (L=M)))/\Ext w w':=by
 obtain ⟨lc,rfl,rfl,D,H⟩:=I;obtain ⟨mc,rfl,rfl,g3,g4⟩:=J;exact ZfF _ _ lc mc w D g3 H g4 (λx K=>by
  have h:=(F.1 x.f (Yc K)).1;have Q:=h.1.2;have D:=h.2.1;omega) (by have:=F.2;rw[Zq] at this;omega)
theorem Zj9 {A:Option Addr} (w:Wq) (H:Env w) (h:NmTabs w) (I:ArcG w A n c L) (J:smA L):
 Calls prog 17 #[.agg #[.slice A n c]] w λe w'=>e= .returned (.tuple #[.string (str (if okA L=true then docW (encP L) else [])),nI (if okA L=true then 0 else 22)])/\Ext w w':=by
 obtain ⟨lc,rfl,rfl,D,F⟩:=I;exact Zmg _ lc w H h D F J
theorem IW {A:Option Addr}:(#[Value.slice A n c]:Array Value).all (λu=>u.oneCell')=true:=by simp[Value.oneCell']
end
section
variable {c n:Nat} {w:World}
theorem Zmj {A:Option Addr} (h:ArcG w A n c [feedA]):n=1/\∃ad H K,A=some ad/\w.cell? ad=some (.slice (some H) 1 K)/\w.cell? ⟨ad.block,ad.off+1,none⟩=some (.string ⟨#[70]⟩)/\w.cell? ⟨ad.block,ad.off+2,none⟩=some (.string ⟨#[84]⟩)/\w.cell? H=some (.string ⟨#[97]⟩):=by
 obtain ⟨lc,S,Q,U,V⟩:=h;have X:lc.length=1:=by have:=Zz List.length Q;rwa [Zq] at this
 obtain ⟨y,rfl⟩:∃y,lc= [y]:=by
  match lc,X with
  | [y],_=>exact ⟨y,rfl⟩
 have R:y.f=feedA:=by simpa using Q
 obtain ⟨ad,Y,e,D⟩:=RFcs.at U (k:=0) (by show 0<1;decide);rw[Xj,add_zero] at D;have D:AtFc w ad y:=D;injection e with e1 e2 e3;have J:=V y Zx;have F:=J.1;rw[R] at F;obtain ⟨H,K,I,hc⟩:=RStrs.at F (k:=0) (by show 0<1;decide);have b0:=D.c0;have b1:=D.c1;have b2:=D.c2;rw[I] at b0;rw[R] at b1 b2;rw[add_zero] at hc;exact ⟨S,ad,H,K,e1,b0,b1,b2,hc⟩
theorem ZfY (w:Wq) (hE:Env w) (hn:NmTabs w):Calls prog 11 #[] w λe w'=>e= .returned (.bool true)/\Ext w w':=by
 obtain ⟨mA,S,I⟩:=Zkr;obtain ⟨mM,V,J⟩:=Zkt;obtain ⟨-,fA, -,cA⟩:=Ef S;obtain ⟨-,fM, -,cM⟩:=Ef V;have hv:=gd (λ(s:ByteArray) (w':Wq) (h:s.data.toList=docA)=>Zap (s:=s) (m:=mA) (by rw[h];exact S) w' (by rw[<-ZN s,h];unfold maxLen;decide));have hw:=gd (λ(s:ByteArray) (w':Wq) (h:s.data.toList=docM)=>Zap (s:=s) (m:=mM) (by rw[h];exact V) w' (by rw[<-ZN s,h];unfold maxLen;decide));have U:decL mA= [feedA]:=by unfold decL;rw[I];exact ZdQ.2
 have ho:decAt mA=0:=by unfold decAt;rw[I]
 have hj:decE mA=0:=by unfold decE;rw[I];exact ZdQ.1
 have hm:decL mM= []:=by unfold decL;rw[J]
 have hp:decAt mM=26:=by unfold decAt;rw[J]
 have hk:decE mM=19:=by unfold decE;rw[J]
 have hf:=gd (λ(w':Wq) (hx:Ext w w') (k p c q d a:Nat) (s n t:List UInt8) (A B:Option Addr) (h:NodeG w' k s n (.slice A p c) (.slice B q d) t a mA)=>IE w' (hE.ext hx) h fA cA (λl hl=>Or.inl (Zkq (by rw[I] at hl;injection hl with hl;rw[<-hl];decide))));have hh:=gd (λ(w':Wq) (hx:Ext w w') (k p c q d a:Nat) (s n t:List UInt8) (A B:Option Addr) (h:NodeG w' k s n (.slice A p c) (.slice B q d) t a mM)=>IE w' (hE.ext hx) h fM cM (λl hl=>by rw[J] at hl;cases hl));have ha:=Ze8 fA cA;rw[U,ho,hj] at hf;rw[hm,hp,hk] at hh;rw[U] at ha;have hi:=gd (λ(w':Wq) (hx:Ext w w') (A:Option Addr) (n c:Nat) (h:ArcG w' A n c [feedA])=>Zj9 w' (hE.ext hx) (hn.ext hx) h ha);simp only[Zi ZjM,Zmr] at hi;clear S I V J fA cA fM cM U ho hj hm hp hk ha hE hn;go_enter func11,ntmps11
 go_wp2_with (first|(go_at_call 10;refine Za (hv.out _ _ (by exact rfl)) ?_;rintro e w1 ⟨k,s,n,A,p,c,B,q,d,t,a,rfl,hg,hq⟩;obtain ⟨W2,X⟩:∃W2,w1.alloc (.cells #[nI (k:Nat),.string (str s),.string (str n),.slice A p c,.slice B q d,.string (str t),nI (a:Nat)] 25)=W2:=⟨_,rfl⟩;(have hc:Ext w1 W2:=by rw[<-X];exact (Ext.refl w1).alloc _);(have hb:BxN W2 w1.heap.size k s n (.slice A p c) (.slice B q d) t a:=by rw[<-X];exact Zg w1 _);have HG:=gd (hg.ext hc);have HB:=gd hb;have Q:=gd (hq.trans hc);clear hg hb hq hc)|(refine Zf rfl 25 (.tmp 1) (.tmp 15) rfl w1.heap.size _ rfl rfl _ _ (Zg _ _) ZJ rfl Zhm ?_;rw[Z0];rw[X])|(go_at_call 10;refine Za (hw.out _ _ (by exact rfl)) ?_;rintro e w3 ⟨k2,s2,n2,A2,p2,c2,B2,q2,d2,t2,a2,rfl,hg,hr⟩;obtain ⟨W4,Y⟩:∃W4,w3.alloc (.cells #[nI (k2:Nat),.string (str s2),.string (str n2),.slice A2 p2 c2,.slice B2 q2 d2,.string (str t2),nI (a2:Nat)] 25)=W4:=⟨_,rfl⟩;(have hd:Ext w3 W4:=by rw[<-Y];exact (Ext.refl w3).alloc _);(have hb:BxN W4 w3.heap.size k2 s2 n2 (.slice A2 p2 c2) (.slice B2 q2 d2) t2 a2:=by rw[<-Y];exact Zg w3 _);have hu:=gd (hg.ext hd);have ht:=gd hb;have F:=gd (hr.trans hd);obtain ⟨z0,z1,z2,z3,z4,z5,z6⟩:=(HB.out.ext F.out).cells;clear hg hb hr hd)|(refine Zf rfl 25 (.tmp 3) (.tmp 19) rfl w3.heap.size _ rfl rfl _ _ (Zg _ _) ZJ rfl Zhm ?_;rw[Z0];rw[Y])|(go_at_call 12;have R:=hf.out _ (Q.out.trans F.out) _ _ _ _ _ _ _ _ _ _ _ (HG.out.ext F.out);(with_reducible refine Za R ?_);clear R;rintro e w5 ⟨A5,n5,d5,rfl,Z,hC⟩;obtain ⟨hB,ad,pa,pc,hA,g0,g1,g2,g3⟩:=Zmj Z;subst hB;subst hA;have K:=hC.alloc (.cells #[.slice (some ad) 1 d5] 31);have hs:=gd Z;clear Z z0 z1 z2 z3 z4 z5 z6;obtain ⟨y0,y1,y2,y3,y4,y5,y6⟩:=(ht.out.ext K).cells)|(refine Zf rfl 31 (.tmp 5) (.tmp 24) rfl w5.heap.size _ rfl rfl _ _ (Zg _ _) Xl rfl IW ?_;rw[Z0])|(go_at_call 12;have R:=hh.out _ ((Q.out.trans F.out).trans K) _ _ _ _ _ _ _ _ _ _ _ (hu.out.ext K);(with_reducible refine Za R ?_);clear R;rintro e w7 ⟨A7,n7,d7,rfl,hy,hD⟩;have H:=hD.alloc (.cells #[.slice A7 n7 d7] 31);have n0:=H.boxed 0 _ rfl;clear hy y0 y1 y2 y3 y4 y5 y6)|(refine Zf rfl 31 (.tmp 8) (.tmp 30) rfl w7.heap.size _ rfl rfl _ _ (Zg _ _) Xl rfl IW ?_;rw[Z0])|(go_at_call 17;have R:=hi.out _ (((Q.out.trans F.out).trans K).trans H) _ _ _ (hs.out.ext (((Ext.refl _).alloc _).trans H));refine Za R ?_;clear R;rintro e w9 ⟨rfl,he⟩;have m0:=(H.trans he).boxed 0 _ rfl;have D:Ext w5 w9:=(((Ext.refl _).alloc _).trans H).trans he;have m1:=D.cell g0;have m2:=D.cell g1;have m3:=D.cell g2;have m4:=D.cell g3;clear n0 g0 g1 g2 g3))
 go_ret;refine ⟨?_,(((Q.out.trans F.out).trans K).trans H).trans he⟩;have hO:(str docO).toList=docO:=by rw[Yb,Z3]
 show Ending.returned (.bool ((str docO).toList==_))=_;rw[hO];rfl
end
section
variable {P:Program} {W:World} {e:TypeId} {g:Nat} {α:Type}
abbrev laidAll : List (String × DataW Unit) := [("math/bits.deBruijn32tab", Rows.laid_math_bits_deBruijn32tab), ("math/bits.deBruijn64tab", Rows.laid_math_bits_deBruijn64tab), ("internal/strconv.uint64pow10", Rows.laid_internal_strconv_uint64pow10), ("unicode/utf8.acceptRanges", Rows.laid_unicode_utf8_acceptRanges), ("feedvault/text.startRanges", Rows.laid_feedvault_text_startRanges), ("feedvault/text.moreRanges", Rows.laid_feedvault_text_moreRanges), ("feedvault/jsonstring.letters", Rows.laid_feedvault_jsonstring_letters), ("unicode/utf8.first", Rows.laid_unicode_utf8_first)]
theorem ZiW:Rows.laid_unicode_utf8_first=Lib.firstData:=by kernel_rfl
theorem Zg0:(Rows.laid_unicode_utf8_acceptRanges:DataW Unit)=Lib.acceptData:=by kernel_rfl
theorem Zm2:(Rows.laid_internal_strconv_uint64pow10:DataW Unit)=Lib.tabData .u64 Lib.pow10Tab:=by kernel_rfl
theorem Zm1:(Rows.laid_feedvault_jsonstring_letters:DataW Unit)= .agg [.agg [.lit (.int .u8 98),.lit (.int .u8 8)],.agg [.lit (.int .u8 102),.lit (.int .u8 12)],.agg [.lit (.int .u8 110),.lit (.int .u8 10)],.agg [.lit (.int .u8 114),.lit (.int .u8 13)],.agg [.lit (.int .u8 116),.lit (.int .u8 9)]]:=rfl
theorem ZpL : prog.globalNamed "feedvault/jsonstring.letters" = some 6 := by kernel_rfl
theorem gDb : prog.globalNamed "math/bits.deBruijn64tab" = some 8 := by kernel_rfl
theorem Gy {n:String} {cs:Array Value} (D:P.globalNamed n=some g) (h:W.var? P n=some cs):∃t fr,W.heap[g]? =some (.cells cs t fr):=by
 unfold World.var? at h;rw[D] at h;simp only[Option.bind_some] at h;split at h
 ·rename_i A t fr F;injection h with h;subst h;exact ⟨t,fr,F⟩
 ·cases h
theorem Zpn {l:List α} (h:l.length=10):∃a b c d e f g i j k,l= [a,b,c,d,e,f,g,i,j,k]:=by
 match l,h with
 | [a,b,c,d,e,f,g,i,j,k],_=>exact ⟨a,b,c,d,e,f,g,i,j,k,rfl⟩
theorem Zgk (h:laidMet prog laidAll W):Env W:=by
 have r5 := Qq h (n := "unicode/utf8.first") (.tail _ (.tail _ (.tail _ (.tail _ (.tail _ (.tail _ (.tail _ (.head _))))))))
 have r3 := Qq h (n := "unicode/utf8.acceptRanges") (.tail _ (.tail _ (.tail _ (.head _))))
 have r2 := Qq h (n := "internal/strconv.uint64pow10") (.tail _ (.tail _ (.head _)))
 have r4 := Qq h (n := "feedvault/jsonstring.letters") (.tail _ (.tail _ (.tail _ (.tail _ (.tail _ (.tail _ (.head _)))))))
 have r1 := Qq h (n := "math/bits.deBruijn64tab") (.tail _ (.head _))
 rw[ZiW] at r5;rw[Zg0] at r3;rw[Zm2] at r2;rw[Zm1] at r4;refine ⟨?_,?_,?_,?_⟩
 ·exact utf8Tabs_of_reads (ρ:=lays197_ren) {lays197 with} ⟨by kernel_rfl,by kernel_rfl,by kernel_rfl,by kernel_rfl,by kernel_rfl,by kernel_rfl,by kernel_rfl⟩ r5 r3
 ·obtain ⟨g,t,cs,fuel,p,hg,hty,hvar,hd⟩:=r2;obtain rfl:=YX (ZpM.symm.trans hg);obtain rfl:=YX ((show (prog.globals[5]?).map (·.type)=some 298 by kernel_rfl).symm.trans hty);unfold Lib.TabIs;rw[hvar,<-Lib.cells_of_tab underlying298 underlying144 (by kernel_rfl) (by kernel_rfl) hd]
 ·obtain ⟨g,t,cs,fuel,p,hg,hty,hvar,hd⟩:=r1;obtain rfl:=YX (gDb.symm.trans hg);obtain ⟨t',fr,hh⟩:=Gy gDb hvar;have:=(ZP.1 hh).1;omega
 ·obtain ⟨g,t,cs,fuel,p,hg,hty,hvar,hd⟩:=r4;obtain rfl:=YX (ZpL.symm.trans hg);obtain rfl:=YX ((show (prog.globals[6]?).map (·.type)=some 301 by kernel_rfl).symm.trans hty);obtain ⟨t',fr,hh⟩:=Gy ZpL hvar;have c2:prog.cellsOf 300=2:=by kernel_rfl
  have c10:prog.cellsOf 301=10:=by kernel_rfl
  obtain ⟨xs,m,hf,hx,hlen,hxl,hel⟩:=DataW.trod_array underlying301 hd;rw[c10] at hlen;obtain ⟨l⟩:=cs;obtain ⟨a,b,c,d,e,f,g,i,j,k,hl⟩:=Zpn hlen;have hl':l= [a,b,c,d,e,f,g,i,j,k]:=hl;subst hl';have part:∀(q:Nat) (z1 z2:Int),q<5->
   ([.agg [.lit (.int .u8 98),.lit (.int .u8 8)],.agg [.lit (.int .u8 102),.lit (.int .u8 12)],.agg [.lit (.int .u8 110),.lit (.int .u8 10)],.agg [.lit (.int .u8 114),.lit (.int .u8 13)],.agg [.lit (.int .u8 116),.lit (.int .u8 9)]]:List (DataW Unit))[q]? =some (Lib.tabData .u8 [z1,z2])->
   (([a,b,c,d,e,f,g,i,j,k]:List Value).drop (q*2)).take 2= [.int .u8 z1,.int .u8 z2]:=by
   intro q z1 z2 hq hz
   obtain ⟨fuel',dd,pp,hdi,he⟩:=Lib.array_elem underlying301 hd q hq
   obtain rfl:=YX (hz.symm.trans hdi)
   rw[c2] at he
   have:=Lib.cells_of_tab underlying300 underlying5 (by kernel_rfl) c2 he
   simpa using this
  have p0:=part 0 98 8 (by decide) rfl;have p1:=part 1 102 12 (by decide) rfl;have p2:=part 2 110 10 (by decide) rfl;have p3:=part 3 114 13 (by decide) rfl;have p4:=part 4 116 9 (by decide) rfl;simp at p0 p1 p2 p3 p4;obtain ⟨rfl,rfl⟩:=p0;obtain ⟨rfl,rfl⟩:=p1;obtain ⟨rfl,rfl⟩:=p2;obtain ⟨rfl,rfl⟩:=p3;obtain ⟨rfl,rfl⟩:=p4;exact ⟨t',fr,hh⟩
theorem Zht:∀(L:List (Nat×Nat)) (l:List Value),l.length=L.length*2->(∀(q:Nat) (h:q<L.length),(l.drop (q*2)).take 2= [.int .i32 (L[q].1:Nat),.int .i32 (L[q].2:Nat)])->l=L.flatMap λp=> [Value.int .i32 (p.1:Nat),Value.int .i32 (p.2:Nat)]
 | [],l,hl,_=>by
  rw[ZK,Xj] at hl
  exact Zm hl
 |p::t,l,hl,h=>by
  have A:=h 0 (Zig _)
  rw[Xj,Jm] at A
  rw[Zd] at hl
  have ih:=Zht t (l.drop 2) (by rw[Zk];omega) (λq F=>by
   have D:=h (q+1) (Nat.succ_lt_succ F)
   rw[List.drop_drop]
   rw[show 2+q*2=(q+1)*2 by omega]
   exact D)
  rw[<-Yz 2 l,A,ih,YV]
  rfl
theorem Zhu {nm:String} {t:TypeId} {L:List (Nat×Nat)} (V:prog.globalNamed nm=some g) (K:(prog.globals[g]?).map (·.type)=some t) (Y:prog.underlying t=some (.array L.length e)) (Z:prog.underlying e=some (.array 2 21)) (S:prog.cellsOf e=2) (ct:prog.cellsOf t=L.length*2)
 (h:Lib.VarReads prog W nm (.agg (L.map λp=> .agg [.lit (.int .i32 (p.1:Nat)),.lit (.int .i32 (p.2:Nat))]))):∃ty fr,W.heap[g]? =some (.cells (pairCells L) ty fr):=by
 obtain ⟨g',t',cs,fuel,p,J,Q,H,U⟩:=h;obtain rfl:=YX (V.symm.trans J);obtain rfl:=YX (K.symm.trans Q);obtain ⟨ty,fr,hh⟩:=Gy V H;obtain ⟨xs,m,hf,hx,A,hb,ha⟩:=DataW.trod_array Y U;rw[ct] at A;have R:=Zht L cs.toList A λq X=>by obtain ⟨I,dd,pp,F,D⟩:=Lib.array_elem Y U q X;rw[Yp,Zh X] at F;obtain rfl:=YX F;rw[S] at D;exact Lib.cells_of_tab (zs:= [(L[q].1:Nat),(L[q].2:Nat)]) Z underlying21 (by kernel_rfl) S D
 refine ⟨ty,fr,?_⟩;rw[hh];have:cs=pairCells L:=by unfold pairCells;rw[<-R]
 rw[this]
theorem ZiX:(Rows.laid_feedvault_text_startRanges:DataW Unit)= .agg (startL.map λp=> .agg [.lit (.int .i32 (p.1:Nat)),.lit (.int .i32 (p.2:Nat))]):=rfl
theorem Zk8:(Rows.laid_feedvault_text_moreRanges:DataW Unit)= .agg (moreL.map λp=> .agg [.lit (.int .i32 (p.1:Nat)),.lit (.int .i32 (p.2:Nat))]):=rfl
theorem Zjc (h:laidMet prog laidAll W):NmTabs W:=by
 have r1 := Qq h (n := "feedvault/text.startRanges") (.tail _ (.tail _ (.tail _ (.tail _ (.head _)))))
 have r2 := Qq h (n := "feedvault/text.moreRanges") (.tail _ (.tail _ (.tail _ (.tail _ (.tail _ (.head _))))))
 rw[ZiX] at r1;rw[Zk8] at r2;exact ⟨Zhu (by kernel_rfl) (by kernel_rfl) (t:=286) (e:=284) underlying286 underlying284 (by kernel_rfl) (by kernel_rfl) r1,Zhu (by kernel_rfl) (by kernel_rfl) (t:=285) (e:=284) underlying285 underlying284 (by kernel_rfl) (by kernel_rfl) r2⟩
theorem Zp1:ownKnob prog.godebug=none:=by kernel_rfl
theorem Zm0:laidOutB prog=true:=by kernel_rfl
end
end Go.Proofs.YtnlafkgkcnenfaaGreatDoor
