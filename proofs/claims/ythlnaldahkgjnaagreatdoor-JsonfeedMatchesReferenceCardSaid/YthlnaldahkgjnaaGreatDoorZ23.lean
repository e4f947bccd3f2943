/- Parts of the proof: contracts and plain laws. -/
import Derived.Test.YthlnaldahkgjnaaGreatDoorRows
import Derived.Test.YthlnaldahkgjnaaGreatDoorZ22
namespace Go.Proofs.YthlnaldahkgjnaaGreatDoor
open Go Go.RowKit Go.ChangeShapes Go.WideShapes Go.ChangeAt Go.Joins Go.Deep _root_.Go.Proofs.Tryz
set_option linter.unusedVariables false
set_option linter.unusedSimpArgs false
set_option maxRecDepth 100000
set_option maxHeartbeats 16000000
theorem X0 {w w1:World} {A:Obj} {B:Array Value} {t:TypeId} {fr:Nat×Nat} (h:Ext ((w.alloc A).alloc (.cells B t fr)) w1) (i:Nat) (v:Value) (j:B[i]? =some v):w1.cell? ⟨w.heap.size+1,i,none⟩=some v:=by
 have:=h.boxed i v j
 rwa [Zp] at this
theorem Jw (x y:Fc) (w:World) (hx:RdC w x) (hy:RdC w y) (hn:x.f.path.length<=16777216) (hw:pathCmp x.f.path y.f.path≠0\/pathCmp x.f.path y.f.path=0/\((x.f.id.toList==y.f.id.toList)=false\/(x.f.id.toList==y.f.id.toList)=true/\((x.f.title.toList==y.f.title.toList)=false\/(x.f.title.toList==y.f.title.toList)=true/\((x.f.link.toList==y.f.link.toList)=false\/(x.f.link.toList==y.f.link.toList)=true/\((x.f.upd==y.f.upd)=false\/(x.f.upd==y.f.upd)=true/\x.f.ents.length≠y.f.ents.length))))):
 Calls prog 16 #[.agg (cellsC x).toArray,.agg (cellsC y).toArray] w λe w'=>e= .returned (.bool false)/\Ext w w':=by
 obtain ⟨xp,hd,⟨A,U,D,G,I,C⟩⟩:=x;obtain ⟨yp,he,⟨F,X,J,O,Q,H⟩⟩:=y;obtain ⟨R,j⟩:=hx;obtain ⟨S,V⟩:=hy;dsimp only at*;obtain ⟨xA,xc,rfl, -, -⟩:=R.form;obtain ⟨xB,xd,rfl, -, -⟩:=j.form;obtain ⟨yA,yc,rfl, -, -⟩:=S.form;obtain ⟨yB,yd,rfl, -, -⟩:=V.form;have Z:=gd (GS _ _ A F ((w.alloc (.cells #[.slice xA A.length xc,.string U,.string D,.string G,.int .i64 I,.slice xB C.length xd] 32)).alloc (.cells #[.slice yA F.length yc,.string X,.string J,.string O,.int .i64 Q,.slice yB H.length yd] 32)) (R.ext (((Ext.refl _).alloc _).alloc _)) (S.ext (((Ext.refl _).alloc _).alloc _)) hn);have K:Hid (∀w1:World,Ext ((w.alloc (.cells #[.slice xA A.length xc,.string U,.string D,.string G,.int .i64 I,.slice xB C.length xd] 32)).alloc (.cells #[.slice yA F.length yc,.string X,.string J,.string O,.int .i64 Q,.slice yB H.length yd] 32)) w1->Ext (w.alloc (.cells #[.slice xA A.length xc,.string U,.string D,.string G,.int .i64 I,.slice xB C.length xd] 32)) w1):=gd λw1 h=>((Ext.refl _).alloc _).trans h;generalize pathCmp A F=c at*;clear R j S V hn;rcases hw with Y|⟨Y,h0|⟨h0,h1|⟨h1,h2|⟨h2,h3|⟨h3,h4⟩⟩⟩⟩⟩;have hb:(c !=0)=true:=by simpa using Y
 rotate_left
 iterate 4
  subst Y
  rotate_left
 subst Y;have hc:((C.length:Int) !=(H.length:Int))=true:=by simp;omega
 have ha:(I !=Q)=false:=by simpa using h3
 all_goals
  unfold cellsC fCells
  dsimp only
  go_enter func16,ntmps16
  go_wp2_with (first|(go_at_call 46;(have hz:=Z.out);(with_reducible refine Za hz ?_);clear hz;rintro e w1 ⟨rfl,j⟩;(have a0:=(K.out _ j).boxed 0 _ rfl);(have a1:=(K.out _ j).boxed 1 _ rfl);(have a2:=(K.out _ j).boxed 2 _ rfl);(have a3:=(K.out _ j).boxed 3 _ rfl);(have a4:=(K.out _ j).boxed 4 _ rfl);(have a5:=(K.out _ j).boxed 5 _ rfl);(have b0:=X0 j 0 _ rfl);(have b1:=X0 j 1 _ rfl);(have b2:=X0 j 2 _ rfl);(have b3:=X0 j 3 _ rfl);(have b4:=X0 j 4 _ rfl);(have b5:=X0 j 5 _ rfl)))
  go_ret
  exact ⟨rfl,(((Ext.refl _).alloc _).alloc _).trans j⟩
theorem IN {α:Type} {P:α->α->Prop} {a b:List α} {k:Nat} (F:k<a.length) (G:k<b.length) (h:∀j (A:j<a.length) (C:j<b.length),j<k->P a[j] b[j]) (D:P a[k] b[k]):∀j (A:j<a.length) (C:j<b.length),j<k+1->P a[j] b[j]:=by
 intro j A C H;by_cases e:j=k
 ·subst e;exact D
 ·exact h j A C (by omega)
theorem ZdY (x y:Fc) (w:World) (hx:RdC w x) (hy:RdC w y) (hn:x.f.path.length<=16777216) (hm:x.f.ents.length<=16777216) (hp:pathCmp x.f.path y.f.path=0) (h0:(x.f.id.toList==y.f.id.toList)=true) (h1:(x.f.title.toList==y.f.title.toList)=true) (h2:(x.f.link.toList==y.f.link.toList)=true) (h3:(x.f.upd==y.f.upd)=true) (h4:x.f.ents.length=y.f.ents.length):
 Calls prog 16 #[.agg (cellsC x).toArray,.agg (cellsC y).toArray] w λe w'=>e= .returned (.bool (decide (x.f.ents=y.f.ents)))/\Ext w w':=by
 obtain ⟨xp,hO,⟨H,hr,I,O,S,A⟩⟩:=x;obtain ⟨yp,hP,⟨Q,hB,U,hb,hc,C⟩⟩:=y;obtain ⟨ho,D⟩:=hx;obtain ⟨hq,ha⟩:=hy;dsimp only at*;obtain ⟨xA,xc,rfl, -, -⟩:=ho.form;obtain ⟨xB,xd,rfl, -, -⟩:=D.form;obtain ⟨yA,yc,rfl, -, -⟩:=hq.form;obtain ⟨yB,yd,rfl, -, -⟩:=ha.form;have Y:=gd (GS _ _ H Q ((w.alloc (.cells #[.slice xA H.length xc,.string hr,.string I,.string O,.int .i64 S,.slice xB A.length xd] 32)).alloc (.cells #[.slice yA Q.length yc,.string hB,.string U,.string hb,.int .i64 hc,.slice yB C.length yd] 32)) (ho.ext (((Ext.refl _).alloc _).alloc _)) (hq.ext (((Ext.refl _).alloc _).alloc _)) hn);have F:Hid (∀w1:World,Ext ((w.alloc (.cells #[.slice xA H.length xc,.string hr,.string I,.string O,.int .i64 S,.slice xB A.length xd] 32)).alloc (.cells #[.slice yA Q.length yc,.string hB,.string U,.string hb,.int .i64 hc,.slice yB C.length yd] 32)) w1->Ext (w.alloc (.cells #[.slice xA H.length xc,.string hr,.string I,.string O,.int .i64 S,.slice xB A.length xd] 32)) w1):=gd λw1 h=>((Ext.refl _).alloc _).trans h;rw[hp] at Y;have hG:(S !=hc)=false:=by simpa using h3
 obtain ⟨M,hM⟩:∃M,A.length=M:=⟨_,rfl⟩;have he:C.length=M:=by rw[<-h4];exact hM
 obtain ⟨R,hR⟩:∃R,decide (A=C)=R:=⟨_,rfl⟩;rw[hR];have HR:=gd hR;have HM:=gd hM;have hh:=gd he;unfold REnts at D ha;rw[hM] at Y F D hm;rw[he] at Y F ha;have hE:=gd D;have hF:=gd ha;simp only[hM,he];clear ho D hq ha hn hp h4 hM he hR;unfold cellsC fCells;dsimp only;go_enter func16,ntmps16
 go_wp2_with (first|(go_at_call 46;(have hz:=Y.out);(with_reducible refine Za hz ?_);clear hz;rintro e w1 ⟨rfl,D⟩;(have a0:=(F.out _ D).boxed 0 _ rfl);(have a1:=(F.out _ D).boxed 1 _ rfl);(have a2:=(F.out _ D).boxed 2 _ rfl);(have a3:=(F.out _ D).boxed 3 _ rfl);(have a4:=(F.out _ D).boxed 4 _ rfl);(have a5:=(F.out _ D).boxed 5 _ rfl);(have b0:=X0 D 0 _ rfl);(have b1:=X0 D 1 _ rfl);(have b2:=X0 D 2 _ rfl);(have b3:=X0 D 3 _ rfl);(have b4:=X0 D 4 _ rfl);(have b5:=X0 D 5 _ rfl)))
 have hC:=gd a5;have hD:=gd b5;have hv:Ext w w1:=(((Ext.refl _).alloc _).alloc _).trans D;have hd:=gd hv;clear a0 a1 a2 a3 a4 a5 b0 b1 b2 b3 b4 b5 F Y D h0 h1 h2 h3 hG hv;go_loopw [5] (λi wr=>∃k:Nat,k<=M/\i= .int .i64 k/\Hid (∀j (h1:j<A.length) (h2:j<C.length),j<k->A[j]=C[j])/\Ext w1 wr) (λi _=>M - (intOf i).toNat)
 case atStart=>exact ⟨0,Zt _,rfl,gd (λj _ _ h=>by omega),Ext.refl _⟩
 case round=>
  obtain ⟨k,hk,rfl,hg,J⟩:=hrel;have a5:=J.cell hC.out;have b5:=J.cell hD.out;by_cases hl:k<M
  ·have hi:k<A.length:=(by rw[HM.out];exact hl);have hj:k<C.length:=(by rw[hh.out];exact hl);have hX:REnts wr (.slice xB M xd) A:=(by unfold REnts;rw[HM.out];exact hE.out.ext (hd.out.trans J));have hY:REnts wr (.slice yB M yd) C:=(by unfold REnts;rw[hh.out];exact hF.out.ext (hd.out.trans J));obtain ⟨ad,c1,e1,ht⟩:=hX.at hi;obtain ⟨ae,c2,e2,hu⟩:=hY.at hj;injection e1 with e1 e1' e1'';injection e2 with e2 e2' e2'';subst e1 e2;clear e1' e1'' e2' e2'' hX hY;have G:=IN (P:=λa b=>a=b) hi hj hg.out;have Z:A[k]≠C[k]->R=false:=λh=>(by rw[<-HR.out];refine Ya λe=>h ?_;subst e;rfl);obtain ⟨x,hw⟩:∃x,A[k]=x:=⟨_,rfl⟩;obtain ⟨y,hA⟩:∃y,C[k]=y:=⟨_,rfl⟩;rw[hw] at ht G Z;rw[hA] at hu G Z;have hs:=gd G;clear G hw hA hi hj;have hL:(0:Int)<=(k:Int):=(by omega);have hN:(k:Int)<(M:Int):=(by omega);obtain ⟨i1,t1,l1,V,u1⟩:=x;obtain ⟨i2,t2,l2,X,u2⟩:=y;obtain ⟨p0,p1,p2,p3,p4⟩:=ht;obtain ⟨q0,q1,q2,q3,q4⟩:=hu;dsimp only at p0 p1 p2 p3 p4 q0 q1 q2 q3 q4;have A5:∀d:Aft wr,d.w.cell? ⟨w.heap.size,5,none⟩=some (.slice (some ad) M xd):=Aft.cell a5;have B5:∀d:Aft wr,d.w.cell? ⟨w.heap.size+1,5,none⟩=some (.slice (some ae) M yd):=Aft.cell b5;have P0:∀d:Aft wr,d.w.cell? (ad.add (k*5))=some (.string i1):=Aft.cell p0;have P1:∀d:Aft wr,d.w.cell? ⟨(ad.add (k*5)).block,(ad.add (k*5)).off+1,none⟩=some (.string t1):=Aft.cell p1;have P2:∀d:Aft wr,d.w.cell? ⟨(ad.add (k*5)).block,(ad.add (k*5)).off+2,none⟩=some (.string l1):=Aft.cell p2;have P3:∀d:Aft wr,d.w.cell? ⟨(ad.add (k*5)).block,(ad.add (k*5)).off+3,none⟩=some (.string V):=Aft.cell p3;have P4:∀d:Aft wr,d.w.cell? ⟨(ad.add (k*5)).block,(ad.add (k*5)).off+4,none⟩=some (.int .i64 u1):=Aft.cell p4;have Q0:∀d:Aft wr,d.w.cell? (ae.add (k*5))=some (.string i2):=Aft.cell q0;have Q1:∀d:Aft wr,d.w.cell? ⟨(ae.add (k*5)).block,(ae.add (k*5)).off+1,none⟩=some (.string t2):=Aft.cell q1;have Q2:∀d:Aft wr,d.w.cell? ⟨(ae.add (k*5)).block,(ae.add (k*5)).off+2,none⟩=some (.string l2):=Aft.cell q2;have Q3:∀d:Aft wr,d.w.cell? ⟨(ae.add (k*5)).block,(ae.add (k*5)).off+3,none⟩=some (.string X):=Aft.cell q3;have Q4:∀d:Aft wr,d.w.cell? ⟨(ae.add (k*5)).block,(ae.add (k*5)).off+4,none⟩=some (.int .i64 u2):=Aft.cell q4;clear p0 p1 p2 p3 p4 q0 q1 q2 q3 q4;by_cases hf:(⟨i1,t1,l1,V,u1⟩:Ent)=⟨i2,t2,l2,X,u2⟩
   ·injection hf with g1 g2 g3 g4 g5;subst g1 g2 g3 g4 g5;clear Z;go_wp2;refine rA ?_
    repeat (first|go_big_quiet_step (fail)|quiet_step (fail))
    refine YB ?_;rintro _ ⟨d1,rfl⟩;go_wp2;go_roundw
    case rel=>exact ⟨k+1,hl,by go_num,gd (hs.out (by trivial)),J.trans d1.ext⟩
    case measure=>simp[intOf];omega
   ·have hH:=Z hf;subst hH;have hK:(i1.toList==i2.toList)=false\/(i1=i2/\((t1.toList==t2.toList)=false\/(t1=t2/\((l1.toList==l2.toList)=false\/(l1=l2/\((V.toList==X.toList)=false\/(V=X/\(u1==u2)=false))))))):=by
     cases g1:(i1.toList==i2.toList) with
     |false=>exact Or.inl rfl
     |true=>
     refine Or.inr ⟨toList_inj (by simpa using g1),?_⟩;cases g2:(t1.toList==t2.toList) with
     |false=>exact Or.inl rfl
     |true=>
     refine Or.inr ⟨toList_inj (by simpa using g2),?_⟩;cases g3:(l1.toList==l2.toList) with
     |false=>exact Or.inl rfl
     |true=>
     refine Or.inr ⟨toList_inj (by simpa using g3),?_⟩;cases g4:(V.toList==X.toList) with
     |false=>exact Or.inl rfl
     |true=>
     refine Or.inr ⟨toList_inj (by simpa using g4),?_⟩;rw[ZV];intro g5;exact hf (by rw[toList_inj (by simpa using g1:i1.toList=i2.toList),toList_inj (by simpa using g2:t1.toList=t2.toList),toList_inj (by simpa using g3:l1.toList=l2.toList),toList_inj (by simpa using g4:V.toList=X.toList),g5])
    clear Z hf hs;rcases hK with h|⟨rfl,h|⟨rfl,h|⟨rfl,h|⟨rfl,h⟩⟩⟩⟩
    all_goals
     (go_wp2
      refine rA ?_
      repeat (first|go_big_quiet_step (fail)|quiet_step (fail))
      refine YB ?_
      rintro _ ⟨d1,rfl⟩
      go_wp2
      go_ret
      exact ⟨rfl,hd.out.trans (J.trans d1.ext)⟩)
  ·have hJ:k=M:=(by omega);subst hJ;have hI:R=true:=(by rw[<-HR.out];refine Yg (List.ext_getElem (by rw[HM.out,hh.out]) λj h1 h2=>hg.out j h1 h2 (by have:=HM.out;omega)));subst hI;go_wp2;go_ret;exact ⟨rfl,hd.out.trans J⟩
theorem Zbo (x y:Fc) (w:World) (F:RdC w x) (G:RdC w y) (D:x.f.path.length<=16777216) (J:x.f.ents.length<=16777216):
 Calls prog 16 #[.agg (cellsC x).toArray,.agg (cellsC y).toArray] w λe w'=>e= .returned (.bool (decide (x.f=y.f)))/\Ext w w':=by
 have tl:∀{s t:ByteArray},(s.toList==t.toList)=false->s≠t:=λ{s t} h e=>by rw[e] at h;simp at h
 by_cases j:pathCmp x.f.path y.f.path=0
 ·cases A:(x.f.id.toList==y.f.id.toList) with
  |false=>rw[Ya (λe=>tl A (Zo Fd.id e))];exact Jw x y w F G D (Or.inr ⟨j,Or.inl A⟩)
  |true=>
  cases C:(x.f.title.toList==y.f.title.toList) with
  |false=>rw[Ya (λe=>tl C (Zo Fd.title e))];exact Jw x y w F G D (Or.inr ⟨j,Or.inr ⟨A,Or.inl C⟩⟩)
  |true=>
  cases H:(x.f.link.toList==y.f.link.toList) with
  |false=>rw[Ya (λe=>tl H (Zo Fd.link e))];exact Jw x y w F G D (Or.inr ⟨j,Or.inr ⟨A,Or.inr ⟨C,Or.inl H⟩⟩⟩)
  |true=>
  cases h3:(x.f.upd==y.f.upd) with
  |false=>rw[Ya (λe=>by rw[Zo Fd.upd e] at h3;simp at h3)];exact Jw x y w F G D (Or.inr ⟨j,Or.inr ⟨A,Or.inr ⟨C,Or.inr ⟨H,Or.inl h3⟩⟩⟩⟩)
  |true=>
  by_cases I:x.f.ents.length=y.f.ents.length
  ·have e:decide (x.f=y.f)=decide (x.f.ents=y.f.ents):=by
    have K:=K5 j;have e1:=toList_inj (by simpa using A:x.f.id.toList=y.f.id.toList);have e2:=toList_inj (by simpa using C:x.f.title.toList=y.f.title.toList);have e3:=toList_inj (by simpa using H:x.f.link.toList=y.f.link.toList);have O:x.f.upd=y.f.upd:=(by simpa using h3);rw[decide_eq_decide];constructor
    ·intro h;rw[h]
    ·intro h;generalize x.f=a at*;generalize y.f=b at*;cases a;cases b
     simp_all
   rw[e];exact ZdY x y w F G D J j A C H h3 I
  ·rw[Ya (λe=>I (by rw[e]))];exact Jw x y w F G D (Or.inr ⟨j,Or.inr ⟨A,Or.inr ⟨C,Or.inr ⟨H,Or.inr ⟨h3,I⟩⟩⟩⟩⟩)
 ·rw[Ya (λe=>j (by rw[e];exact Zci.self _))];exact Jw x y w F G D (Or.inl j)
section
set_option linter.unusedSimpArgs false
theorem Zet {w:World} {r:Except (Nat×Nat) Fd} {e:Ending} (h:DecX w r e):∃A c B d,e= .returned (.tuple #[.agg (cellsC ⟨.slice A (fdR r).path.length c,.slice B (fdR r).ents.length d,fdR r⟩).toArray,.int .i64 (atR r:Nat),.int .i64 (erR r:Nat)])/\RdC w ⟨.slice A (fdR r).path.length c,.slice B (fdR r).ents.length d,fdR r⟩:=by
 cases r with
 |error f=>exact ⟨none,0,none,0,h,RSl.nil w 1,RSl.nil w 5⟩
 |ok f=>obtain ⟨y,rfl,D,F⟩:=h;obtain ⟨I,G,H⟩:=y;dsimp only at D;subst D;obtain ⟨j,C⟩:=F;dsimp only at j C;obtain ⟨A,c,rfl, -, -⟩:=j.form;obtain ⟨B,d,rfl, -, -⟩:=C.form;exact ⟨A,c,B,d,rfl,j,C⟩
theorem Zdu (s:ByteArray) (w:World) (hE:Env w) (hs:s.size<=reachBytes):
 Calls prog 3 #[.string s] w λe w'=>e= .returned (.bool true)/\Ext w w':=by
 have hC:=gd (λ(W':World) (h:Ext w W')=>Zau W' (hE.ext h));have hl:=gd (Qv s w hs);cases hj:docJ s with
 |none=>
  rw[hj] at hl;clear hj;go_enter func3,ntmps3
  go_wp2_with (first|(refine Zg rfl 25 (.tmp 3) (.tmp 18) rfl w2.heap.size #[.int .i64 0,.bool false,.int .i64 0,.string ⟨#[]⟩,.slice none 0 0,.slice none 0 0,.int .i64 0] rfl rfl _ _ h9 Xq rfl Zch ?_;rw[hh])|(go_at_call 11;(have K:=hC.out _ hi);(with_reducible refine Za K ?_);clear K;rintro e w3 ⟨rfl,hB⟩;(have hq:=hi.trans hB))|(go_at_call 10;(have K:=hl.out);(with_reducible refine Za K ?_);clear K;rintro e w2 ⟨rfl,hA⟩;(obtain ⟨W2,V⟩:∃W0,w2.alloc (.cells #[.int .i64 0,.bool false,.int .i64 0,.string ⟨#[]⟩,.slice none 0 0,.slice none 0 0,.int .i64 0] 25)=W0:=⟨_,rfl⟩);(have hp:Ext w2 W2:=by rw[<-V];exact (Ext.refl _).alloc _);(have I:∀i v,(#[.int .i64 0,.bool false,.int .i64 0,.string ⟨#[]⟩,.slice none 0 0,.slice none 0 0,.int .i64 0]:Array Value)[i]? =some v->W2.cell? ⟨w2.heap.size,i,none⟩=some v:=λi v h=>by rw[<-V];exact (Ext.refl (w2.alloc _)).boxed i v h);(have O:Hid (∀W':World,Ext W2 W'->W'.cell? ⟨w2.heap.size,0,none⟩=some (.int .i64 0)/\W'.cell? ⟨w2.heap.size,1,none⟩=some (.bool false)/\W'.cell? ⟨w2.heap.size,2,none⟩=some (.int .i64 0)/\W'.cell? ⟨w2.heap.size,3,none⟩=some (.string ⟨#[]⟩)/\W'.cell? ⟨w2.heap.size,4,none⟩=some (.slice none 0 0)/\W'.cell? ⟨w2.heap.size,5,none⟩=some (.slice none 0 0)/\W'.cell? ⟨w2.heap.size,6,none⟩=some (.int .i64 0)):=gd λW' h=>⟨h.cell (I 0 _ rfl),h.cell (I 1 _ rfl),h.cell (I 2 _ rfl),h.cell (I 3 _ rfl),h.cell (I 4 _ rfl),h.cell (I 5 _ rfl),h.cell (I 6 _ rfl)⟩);clear I;(have hh:=hA.trans hp);(have hi:=(Ext.refl w).trans hh);(obtain ⟨q1_0_0,q1_0_1,q1_0_2,q1_0_3,q1_0_4,q1_0_5,q1_0_6⟩:=O.out _ (Ext.refl W2));(have hh:W2.setRow w2.heap.size #[.int .i64 0,.bool false,.int .i64 0,.string ⟨#[]⟩,.slice none 0 0,.slice none 0 0,.int .i64 0]=W2:=by rw[<-V,Gd]);(have h9:W2.heap[w2.heap.size]? =some (.cells #[.int .i64 0,.bool false,.int .i64 0,.string ⟨#[]⟩,.slice none 0 0,.slice none 0 0,.int .i64 0] 25 (0,0)):=by rw[<-V];exact Zh w2 _)))
  go_ret;exact ⟨rfl,hq⟩
 |some o=>
  rw[hj] at hl;have hU:s.size<=5000/\jsonP s.data.toList=some o:=by
   unfold docJ at hj;split at hj
   ·cases hj
   ·exact ⟨by omega,hj⟩
  have he:=KP hU.2;rw[Zn] at he;have hd:∀f,decJ o= .ok f->fokS f:=λf hf=>(Gl he (by omega) hf).1;have h8:=Ze2 he;have hy:=Vu (Zd _) _ he;have ht:=gd (λ(w':World) (cs:List Value) (hx:Ext w w') (hr:RJ w' o cs)=>Vt s.size o cs w' hr hy (by omega) (hE.ext hx) hd (by omega));have hu:=gd (λ(w':World) (cs:List Value) (hx:Ext w w') (hr:RJ w' o cs)=>G2 s.size o cs w' hr hy (by omega) (hE.ext hx) hd (by omega));have hL:=gd (λ(w':World) (cs:List Value) (hr:RJ w' o cs)=>Xm o cs w' w' hr (Ext.refl _));have hM:=gd (λ(w':World) (cs:List Value) (hr:RJ w' o cs)=>Vz o cs w' w' hr (Ext.refl _));obtain ⟨vs,hY⟩:∃x,(versJ o).getD noS=x:=⟨_,rfl⟩;obtain ⟨vo,hX⟩:∃x,(versJ o).isSome=x:=⟨_,rfl⟩;rw[hY,hX] at hL hM;obtain ⟨r,hr⟩:∃r,decJ o=r:=⟨_,rfl⟩;rw[hr] at hd ht hu;have hn:fokS (fdR r):=by
   cases r with
   |error f=>exact ZcA
   |ok f=>exact ZdC (hd f rfl)
  obtain ⟨R,hR⟩:∃R,fdR r=R:=⟨_,rfl⟩;obtain ⟨at_,hv⟩:∃x,atR r=x:=⟨_,rfl⟩;obtain ⟨er,hw⟩:∃x,erR r=x:=⟨_,rfl⟩;rw[hR] at hn;obtain ⟨D,J,F,G,H,j⟩:=R;have hS:D.length<=16777216:=by have h:=hn.1.2;dsimp only at h;omega
  have hP:j.length<=16777216:=Zl hn.2.1 (by decide);have h0:Hid (∀(w':World) (cs:List Value),Ext w w'->RJ w' o cs->Calls prog 12 #[.agg cs.toArray] w' λe w2=>(∃Q c5 S U,e= .returned (.tuple #[.agg #[.slice Q D.length c5,.string J,.string F,.string G,.int .i64 H,.slice S j.length U],.int .i64 (at_:Nat),.int .i64 (er:Nat)])/\RdC w2 ⟨.slice Q D.length c5,.slice S j.length U,⟨D,J,F,G,H,j⟩⟩)/\Ext w' w2):=gd λw' cs hx h=>by refine (ht.out w' cs hx h).mono λe w2 ⟨h1,h2⟩=>⟨?_,h2⟩;have h3:=ZfT h1;rw[hR,hv,hw] at h3;exact h3
  have h6:Hid (∀(w':World) (cs:List Value),Ext w w'->RJ w' o cs->Calls prog 13 #[.agg cs.toArray] w' λe w2=>(∃Q c5 S U,e= .returned (.tuple #[.agg #[.slice Q D.length c5,.string J,.string F,.string G,.int .i64 H,.slice S j.length U],.int .i64 (at_:Nat),.int .i64 (er:Nat)])/\RdC w2 ⟨.slice Q D.length c5,.slice S j.length U,⟨D,J,F,G,H,j⟩⟩)/\Ext w' w2):=gd λw' cs hx h=>by refine (hu.out w' cs hx h).mono λe w2 ⟨h1,h2⟩=>⟨?_,h2⟩;have h3:=Zet h1;rw[hR,hv,hw] at h3;exact h3
  have h7:Hid (∀(W':World) (Q:Option Addr) (c5:Nat) (S:Option Addr) (U:Nat) (A6:Option Addr) (c6:Nat) (B6:Option Addr) (d6:Nat),RdC W' ⟨.slice Q D.length c5,.slice S j.length U,⟨D,J,F,G,H,j⟩⟩->RdC W' ⟨.slice A6 D.length c6,.slice B6 j.length d6,⟨D,J,F,G,H,j⟩⟩->Calls prog 16 #[.agg #[.slice Q D.length c5,.string J,.string F,.string G,.int .i64 H,.slice S j.length U],.agg #[.slice A6 D.length c6,.string J,.string F,.string G,.int .i64 H,.slice B6 j.length d6]] W' λe w2=>e= .returned (.bool true)/\Ext W' w2):=gd λW' Q c5 S U A6 c6 B6 d6 hr ga=>by have K:=Zbo ⟨.slice Q D.length c5,.slice S j.length U,⟨D,J,F,G,H,j⟩⟩ ⟨.slice A6 D.length c6,.slice B6 j.length d6,⟨D,J,F,G,H,j⟩⟩ W' hr ga hS hP;rw[Yg rfl] at K;exact K
  clear hr hR hv hw hn hS hP ht hu hd h8 hy he hU hj hY hX hs;cases vo
  all_goals go_enter func3,ntmps3
  all_goals go_wp2_with (first|(go_at_call 16;(have K:=h7.out _ Q c5 S U A6 c6 B6 d6 hH.out hK.out);(with_reducible refine Za K ?_);clear K;rintro e w8 ⟨rfl,gc⟩;(have gh:=gg.trans gc))|(go_at_call 11;(have K:=hC.out _ hZ);(with_reducible refine Za K ?_);clear K;rintro e w7 ⟨rfl,hb⟩;(have hK:=gd (hJ.out.ext hb));(have hH:=gd (hG.out.ext hb));(have gg:=hZ.trans hb);(have hc0_7:=hc0_6.trans hb);(obtain ⟨q6_0_0,q6_0_1,q6_0_2,q6_0_3,q6_0_4,q6_0_5,q6_0_6⟩:=O.out _ hc0_7);(have hc1_7:=hc1_6.trans hb);(obtain ⟨q6_1_0,q6_1_1,q6_1_2,q6_1_3,q6_1_4,q6_1_5⟩:=hc.out _ hc1_7);(have hc2_7:=hc2_6.trans hb);(obtain ⟨q6_2_0,q6_2_1,q6_2_2,q6_2_3,q6_2_4,q6_2_5⟩:=hk.out _ hc2_7);clear q5_0_0 q5_0_1 q5_0_2 q5_0_3 q5_0_4 q5_0_5 q5_0_6 q5_1_0 q5_1_1 q5_1_2 q5_1_3 q5_1_4 q5_1_5 q5_2_0 q5_2_1 q5_2_2 q5_2_3 q5_2_4 q5_2_5)|(go_at_call 15;(have K:=hM.out _ _ (hm.out.ext hc0_5));(refine Za K ?_);clear K;rintro e w6 ⟨rfl,ha⟩;(have hJ:=gd (hI.out.ext ha));(have hG:=gd (hF.out.ext ha));(have hZ:=gf.trans ha);(have hc0_6:=hc0_5.trans ha);(obtain ⟨q5_0_0,q5_0_1,q5_0_2,q5_0_3,q5_0_4,q5_0_5,q5_0_6⟩:=O.out _ hc0_6);(have hc1_6:=hc1_5.trans ha);(obtain ⟨q5_1_0,q5_1_1,q5_1_2,q5_1_3,q5_1_4,q5_1_5⟩:=hc.out _ hc1_6);(have hc2_6:=hc2_5.trans ha);(obtain ⟨q5_2_0,q5_2_1,q5_2_2,q5_2_3,q5_2_4,q5_2_5⟩:=hk.out _ hc2_6);clear q4_0_0 q4_0_1 q4_0_2 q4_0_3 q4_0_4 q4_0_5 q4_0_6 q4_1_0 q4_1_1 q4_1_2 q4_1_3 q4_1_4 q4_1_5 q4_2_0 q4_2_1 q4_2_2 q4_2_3 q4_2_4 q4_2_5)|(go_at_call 14;(have K:=hL.out _ _ (hm.out.ext hc0_4));(refine Za K ?_);clear K;rintro e w5 ⟨rfl,Z⟩;(have hI:=gd (h5.out.ext Z));(have hF:=gd (hD.out.ext Z));(have gf:=ge.trans Z);(have hc0_5:=hc0_4.trans Z);(obtain ⟨q4_0_0,q4_0_1,q4_0_2,q4_0_3,q4_0_4,q4_0_5,q4_0_6⟩:=O.out _ hc0_5);(have hc1_5:=hc1_4.trans Z);(obtain ⟨q4_1_0,q4_1_1,q4_1_2,q4_1_3,q4_1_4,q4_1_5⟩:=hc.out _ hc1_5);(have hc2_5:=(Ext.refl W4).trans Z);(obtain ⟨q4_2_0,q4_2_1,q4_2_2,q4_2_3,q4_2_4,q4_2_5⟩:=hk.out _ hc2_5);clear q3_0_0 q3_0_1 q3_0_2 q3_0_3 q3_0_4 q3_0_5 q3_0_6 q3_1_0 q3_1_1 q3_1_2 q3_1_3 q3_1_4 q3_1_5 q3_2_0 q3_2_1 q3_2_2 q3_2_3 q3_2_4 q3_2_5)|(go_at_call 13;(have K:=h6.out _ _ hq (hm.out.ext hc0_3));(refine Za K ?_);clear K;rintro e w4 ⟨⟨A6,c6,B6,d6,rfl,hg⟩,gb⟩;(obtain ⟨W4,hO⟩:∃W0,w4.alloc (.cells #[.slice A6 D.length c6,.string J,.string F,.string G,.int .i64 H,.slice B6 j.length d6] 32)=W0:=⟨_,rfl⟩);(have hW:Ext w4 W4:=by rw[<-hO];exact (Ext.refl _).alloc _);(have Y:∀i v,(#[.slice A6 D.length c6,.string J,.string F,.string G,.int .i64 H,.slice B6 j.length d6]:Array Value)[i]? =some v->W4.cell? ⟨w4.heap.size,i,none⟩=some v:=λi v h=>by rw[<-hO];exact (Ext.refl (w4.alloc _)).boxed i v h);(have hk:Hid (∀W':World,Ext W4 W'->W'.cell? ⟨w4.heap.size,0,none⟩=some (.slice A6 D.length c6)/\W'.cell? ⟨w4.heap.size,1,none⟩=some (.string J)/\W'.cell? ⟨w4.heap.size,2,none⟩=some (.string F)/\W'.cell? ⟨w4.heap.size,3,none⟩=some (.string G)/\W'.cell? ⟨w4.heap.size,4,none⟩=some (.int .i64 H)/\W'.cell? ⟨w4.heap.size,5,none⟩=some (.slice B6 j.length d6)):=gd λW' h=>⟨h.cell (Y 0 _ rfl),h.cell (Y 1 _ rfl),h.cell (Y 2 _ rfl),h.cell (Y 3 _ rfl),h.cell (Y 4 _ rfl),h.cell (Y 5 _ rfl)⟩);clear Y;(have ho:=gb.trans hW);(have ge:=hq.trans ho);(have hc0_4:=hc0_3.trans ho);(obtain ⟨q3_0_0,q3_0_1,q3_0_2,q3_0_3,q3_0_4,q3_0_5,q3_0_6⟩:=O.out _ hc0_4);(have hc1_4:=(Ext.refl W3).trans ho);(obtain ⟨q3_1_0,q3_1_1,q3_1_2,q3_1_3,q3_1_4,q3_1_5⟩:=hc.out _ hc1_4);clear q2_0_0 q2_0_1 q2_0_2 q2_0_3 q2_0_4 q2_0_5 q2_0_6 q2_1_0 q2_1_1 q2_1_2 q2_1_3 q2_1_4 q2_1_5;(obtain ⟨q3_2_0,q3_2_1,q3_2_2,q3_2_3,q3_2_4,q3_2_5⟩:=hk.out _ (Ext.refl W4));(have h5:=gd (hg.ext hW));(have hD:=gd (h4.out.ext ho));clear hg)|(go_at_call 12;(have K:=h0.out _ _ hi (hm.out.ext (Ext.refl W2)));(refine Za K ?_);clear K;rintro e w3 ⟨⟨Q,c5,S,U,rfl,hg⟩,hB⟩;(obtain ⟨W3,hN⟩:∃W0,w3.alloc (.cells #[.slice Q D.length c5,.string J,.string F,.string G,.int .i64 H,.slice S j.length U] 32)=W0:=⟨_,rfl⟩);(have hV:Ext w3 W3:=by rw[<-hN];exact (Ext.refl _).alloc _);(have X:∀i v,(#[.slice Q D.length c5,.string J,.string F,.string G,.int .i64 H,.slice S j.length U]:Array Value)[i]? =some v->W3.cell? ⟨w3.heap.size,i,none⟩=some v:=λi v h=>by rw[<-hN];exact (Ext.refl (w3.alloc _)).boxed i v h);(have hc:Hid (∀W':World,Ext W3 W'->W'.cell? ⟨w3.heap.size,0,none⟩=some (.slice Q D.length c5)/\W'.cell? ⟨w3.heap.size,1,none⟩=some (.string J)/\W'.cell? ⟨w3.heap.size,2,none⟩=some (.string F)/\W'.cell? ⟨w3.heap.size,3,none⟩=some (.string G)/\W'.cell? ⟨w3.heap.size,4,none⟩=some (.int .i64 H)/\W'.cell? ⟨w3.heap.size,5,none⟩=some (.slice S j.length U)):=gd λW' h=>⟨h.cell (X 0 _ rfl),h.cell (X 1 _ rfl),h.cell (X 2 _ rfl),h.cell (X 3 _ rfl),h.cell (X 4 _ rfl),h.cell (X 5 _ rfl)⟩);clear X;(have hT:=hB.trans hV);(have hq:=hi.trans hT);(have hc0_3:=(Ext.refl W2).trans hT);(obtain ⟨q2_0_0,q2_0_1,q2_0_2,q2_0_3,q2_0_4,q2_0_5,q2_0_6⟩:=O.out _ hc0_3);clear q1_0_0 q1_0_1 q1_0_2 q1_0_3 q1_0_4 q1_0_5 q1_0_6;(obtain ⟨q2_1_0,q2_1_1,q2_1_2,q2_1_3,q2_1_4,q2_1_5⟩:=hc.out _ (Ext.refl W3));(have h4:=gd (hg.ext hV));clear hg)|(go_at_call 10;(have K:=hl.out);(with_reducible refine Za K ?_);clear K;rintro e w2 ⟨⟨A,p,c,C,q,d,m,rfl,hQ⟩,hA⟩;(obtain ⟨W2,V⟩:∃W0,w2.alloc (.cells #[.int .i64 (kindJ o:Nat),.bool (bJ o),.int .i64 (nJ o),.string (sJ o),.slice A p c,.slice C q d,.int .i64 (atJ o:Nat)] 25)=W0:=⟨_,rfl⟩);(have hp:Ext w2 W2:=by rw[<-V];exact (Ext.refl _).alloc _);(have I:∀i v,(#[.int .i64 (kindJ o:Nat),.bool (bJ o),.int .i64 (nJ o),.string (sJ o),.slice A p c,.slice C q d,.int .i64 (atJ o:Nat)]:Array Value)[i]? =some v->W2.cell? ⟨w2.heap.size,i,none⟩=some v:=λi v h=>by rw[<-V];exact (Ext.refl (w2.alloc _)).boxed i v h);(have O:Hid (∀W':World,Ext W2 W'->W'.cell? ⟨w2.heap.size,0,none⟩=some (.int .i64 (kindJ o:Nat))/\W'.cell? ⟨w2.heap.size,1,none⟩=some (.bool (bJ o))/\W'.cell? ⟨w2.heap.size,2,none⟩=some (.int .i64 (nJ o))/\W'.cell? ⟨w2.heap.size,3,none⟩=some (.string (sJ o))/\W'.cell? ⟨w2.heap.size,4,none⟩=some (.slice A p c)/\W'.cell? ⟨w2.heap.size,5,none⟩=some (.slice C q d)/\W'.cell? ⟨w2.heap.size,6,none⟩=some (.int .i64 (atJ o:Nat))):=gd λW' h=>⟨h.cell (I 0 _ rfl),h.cell (I 1 _ rfl),h.cell (I 2 _ rfl),h.cell (I 3 _ rfl),h.cell (I 4 _ rfl),h.cell (I 5 _ rfl),h.cell (I 6 _ rfl)⟩);clear I;(have hh:=hA.trans hp);(have hi:=(Ext.refl w).trans hh);(obtain ⟨q1_0_0,q1_0_1,q1_0_2,q1_0_3,q1_0_4,q1_0_5,q1_0_6⟩:=O.out _ (Ext.refl W2));(have hm:Hid (RJ W2 o (wcells (kindJ o) (bJ o) (nJ o) (sJ o) (.slice A p c) (.slice C q d) (atJ o))):=gd (RJ.ext ⟨m,hQ.rj⟩ hp));clear hQ))
  all_goals go_ret
  all_goals exact ⟨rfl,gh⟩
end
abbrev laidAll : List (String × DataW Unit) := [("math/bits.deBruijn32tab", Rows.laid_math_bits_deBruijn32tab), ("math/bits.deBruijn64tab", Rows.laid_math_bits_deBruijn64tab), ("internal/strconv.uint64pow10", Rows.laid_internal_strconv_uint64pow10), ("unicode/utf8.acceptRanges", Rows.laid_unicode_utf8_acceptRanges), ("feedvault/jsonstring.letters", Rows.laid_feedvault_jsonstring_letters), ("unicode/utf8.first", Rows.laid_unicode_utf8_first)]
theorem Zb2:Rows.laid_unicode_utf8_first=Lib.firstData:=by kernel_rfl
theorem ZaX:(Rows.laid_unicode_utf8_acceptRanges:DataW Unit)=Lib.acceptData:=by kernel_rfl
theorem Zfg:(Rows.laid_internal_strconv_uint64pow10:DataW Unit)=Lib.tabData .u64 Lib.pow10Tab:=by kernel_rfl
theorem Zff:(Rows.laid_feedvault_jsonstring_letters:DataW Unit)= .agg [.agg [.lit (.int .u8 98),.lit (.int .u8 8)],.agg [.lit (.int .u8 102),.lit (.int .u8 12)],.agg [.lit (.int .u8 110),.lit (.int .u8 10)],.agg [.lit (.int .u8 114),.lit (.int .u8 13)],.agg [.lit (.int .u8 116),.lit (.int .u8 9)]]:=rfl
theorem Zhc : prog.globalNamed "feedvault/jsonstring.letters" = some 3 := by kernel_rfl
theorem gDb : prog.globalNamed "math/bits.deBruijn64tab" = some 5 := by kernel_rfl
theorem GK {P:Program} {W:World} {n:String} {g:Nat} {cs:Array Value} (A:P.globalNamed n=some g) (h:W.var? P n=some cs):∃t fr,W.heap[g]? =some (.cells cs t fr):=by
 unfold World.var? at h;rw[A] at h;simp only[Option.bind_some] at h;split at h
 ·rename_i j t fr C;injection h with h;subst h;exact ⟨t,fr,C⟩
 ·cases h
theorem ZgR {α:Type} {l:List α} (h:l.length=10):∃a b c d e f g i j k,l= [a,b,c,d,e,f,g,i,j,k]:=by
 match l,h with
 | [a,b,c,d,e,f,g,i,j,k],_=>exact ⟨a,b,c,d,e,f,g,i,j,k,rfl⟩
theorem ZaF {W:World} (h:laidMet prog laidAll W):Env W:=by
 have r5 := ZfL h (n := "unicode/utf8.first") (.tail _ (.tail _ (.tail _ (.tail _ (.tail _ (.head _))))))
 have r3 := ZfL h (n := "unicode/utf8.acceptRanges") (.tail _ (.tail _ (.tail _ (.head _))))
 have r2 := ZfL h (n := "internal/strconv.uint64pow10") (.tail _ (.tail _ (.head _)))
 have r4 := ZfL h (n := "feedvault/jsonstring.letters") (.tail _ (.tail _ (.tail _ (.tail _ (.head _)))))
 have r1 := ZfL h (n := "math/bits.deBruijn64tab") (.tail _ (.head _))
 rw[Zb2] at r5;rw[ZaX] at r3;rw[Zfg] at r2;rw[Zff] at r4;refine ⟨?_,?_,?_,?_⟩
 ·exact utf8Tabs_of_reads (ρ:=lays197_ren) {lays197 with} ⟨by kernel_rfl,by kernel_rfl,by kernel_rfl,by kernel_rfl,by kernel_rfl,by kernel_rfl,by kernel_rfl⟩ r5 r3
 ·obtain ⟨g,t,cs,fuel,p,hg,hty,hvar,hd⟩:=r2;obtain rfl:=Ys (Zhd.symm.trans hg);obtain rfl:=Ys ((show (prog.globals[0]?).map (·.type)=some 231 by kernel_rfl).symm.trans hty);unfold Lib.TabIs;rw[hvar,<-Lib.cells_of_tab underlying231 underlying209 (by kernel_rfl) (by kernel_rfl) hd]
 ·obtain ⟨g,t,cs,fuel,p,hg,hty,hvar,hd⟩:=r1;obtain rfl:=Ys (gDb.symm.trans hg);obtain ⟨t',fr,hh⟩:=GK gDb hvar;have:=(Ze.1 hh).1;omega
 ·obtain ⟨g,t,cs,fuel,p,hg,hty,hvar,hd⟩:=r4;obtain rfl:=Ys (Zhc.symm.trans hg);obtain rfl:=Ys ((show (prog.globals[3]?).map (·.type)=some 259 by kernel_rfl).symm.trans hty);obtain ⟨t',fr,hh⟩:=GK Zhc hvar;have c2:prog.cellsOf 258=2:=by kernel_rfl
  have c10:prog.cellsOf 259=10:=by kernel_rfl
  obtain ⟨xs,m,hf,hx,hlen,hxl,hel⟩:=DataW.trod_array underlying259 hd;rw[c10] at hlen;obtain ⟨l⟩:=cs;obtain ⟨a,b,c,d,e,f,g,i,j,k,hl⟩:=ZgR hlen;have hl':l= [a,b,c,d,e,f,g,i,j,k]:=hl;subst hl';have part:∀(q:Nat) (z1 z2:Int),q<5->
   ([.agg [.lit (.int .u8 98),.lit (.int .u8 8)],.agg [.lit (.int .u8 102),.lit (.int .u8 12)],.agg [.lit (.int .u8 110),.lit (.int .u8 10)],.agg [.lit (.int .u8 114),.lit (.int .u8 13)],.agg [.lit (.int .u8 116),.lit (.int .u8 9)]]:List (DataW Unit))[q]? =some (Lib.tabData .u8 [z1,z2])->
   (([a,b,c,d,e,f,g,i,j,k]:List Value).drop (q*2)).take 2= [.int .u8 z1,.int .u8 z2]:=by
   intro q z1 z2 hq hz
   obtain ⟨fuel',dd,pp,hdi,he⟩:=Lib.array_elem underlying259 hd q hq
   obtain rfl:=Ys (hz.symm.trans hdi)
   rw[c2] at he
   have:=Lib.cells_of_tab underlying258 underlying5 (by kernel_rfl) c2 he
   simpa using this
  have p0:=part 0 98 8 (by decide) rfl;have p1:=part 1 102 12 (by decide) rfl;have p2:=part 2 110 10 (by decide) rfl;have p3:=part 3 114 13 (by decide) rfl;have p4:=part 4 116 9 (by decide) rfl;simp at p0 p1 p2 p3 p4;obtain ⟨rfl,rfl⟩:=p0;obtain ⟨rfl,rfl⟩:=p1;obtain ⟨rfl,rfl⟩:=p2;obtain ⟨rfl,rfl⟩:=p3;obtain ⟨rfl,rfl⟩:=p4;exact ⟨t',fr,hh⟩
theorem Zhq:ownKnob prog.godebug=none:=by kernel_rfl
theorem Zfe:laidOutB prog=true:=by kernel_rfl
theorem Zfj (os:Os) (A:os.Started) (H:Type) (enc:TypeId×Value->H):
 ReturnsInHanded {} checked os 3 .any (λw args=>(Rows.jsonfeedMatchesReferenceSpec.pre enc prog f3 [] false w args/\laidMetH prog laidAll w)/\sizedMet enc prog f3 (OpenSpec.ofChange Rows.jsonfeedMatchesReferenceSpec) false w args)
  (Rows.jsonfeedMatchesReferenceSpec.post enc prog f3 false true false false):=by
 refine returnsInHanded_of_change_and (C:=checked) (X:=λw _=>laidMetH prog laidAll w) (λ_ _ _ hh h=>h.of_heap hh) Zhq A (by kernel_rfl) func3
  (ChangeSpec.witness_shaped (enc:=enc) (C:=checked) (os:=os) (X:=λw _=>laidMetH prog laidAll w) false (World.laidAll prog os laidAll) #[.string ⟨#[]⟩] 8 (World.laidAll_os _ _ _)
   (World.shaped_of_ZipB (by kernel_rfl) (by kernel_rfl)) (by kernel_rfl) (by kernel_rfl) (by kernel_rfl)
   (by rw[MakeChecks.laidMetH_plain _ _ _ (by kernel_rfl)];exact laidMet_laidAll _ (by kernel_rfl) (by kernel_rfl))) ?_
 intro W base args ds gs S G hW hc K hL _;have D:∀(j:Nat) t v,f3.params[j]? =some t->args[j]? =some v->Value.okWide prog W .any base t v:=G;have J:=hW;obtain ⟨p,q,Y,hV,rfl,_,_⟩:=hW;have hA:DataW.TrodAll enc prog W 0 (λ_=>true) true f3.params.toList args.toList ds p:=Y;rw[params3] at hA D;obtain ⟨v0,U,rfl,rfl,h0⟩:=trodAll_one hA;obtain ⟨rfl,rfl⟩:=trodVars_none hV;have V:=h0;rw[MakeChecks.laidMetH_plain _ _ _ (by kernel_rfl)] at hL;have hE:=ZaF hL;have R:(DataW.weightsEach prog [9] [U]).all (· <=reachBytes)=true:=by have h:=K;rw[params3] at h;exact h
 have Q:=Yn.1 R;have O:∀n∈U.weights prog 9,n<=reachBytes:=λn hn=>Yd (Q n (by simpa only[DataW.weightsEach,Zhj] using hn));clear K R Q;have ha:∀x∈p,x.block<W.heap.size:=λx hx=>by simpa using J.lt x (List.mem_append_left _ hx)
 obtain ⟨F,Z⟩:=h0;obtain ⟨s0,rfl⟩:=okWide_string underlying9 (D 0 9 v0 rfl rfl);obtain ⟨q0,I,u0,_⟩:=DataW.trod_string underlying9 (show DataW.trod enc prog W 0 (λ_=>true) true F 9 [.string s0]=some (U,p) from Z);injection I with I _;injection I with I;subst I;rw[(Prod.mk.inj u0).1] at O;have hb:s0.size<=reachBytes:=O s0.size (by simp[DataW.weights]);refine (Zdu s0 W hE hb).mono λe W' ⟨he,hx⟩=> ?_;subst he;have hB:Below W.heap.size W W':=hx;refine ⟨_,rfl,_,_,_,[],p,[],J,?_,?_,?_,hB.frame _,λh=>by cases h⟩
 ·exact trodAll_mk1 (shut_bool underlying4 _)
 ·exact trodAll_mk1 (Below.trod Zfe (by kernel_rfl) (Yd (by kernel_rfl)) V hB ha)
 ·rfl
end Go.Proofs.YthlnaldahkgjnaaGreatDoor
