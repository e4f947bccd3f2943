/- Parts of the proof: contracts and plain laws. -/
import Derived.Deep.MidRow
import Derived.Lib.AppendZerosOnto
import Derived.Lib.SliceRun
import Derived.Test.YtmfinhgobjbecaaGreatDoorA15
namespace Go.Proofs.YtmfinhgobjbecaaGreatDoor
open Go Go.RowKit _root_.Go.Proofs.Tryz
set_option linter.unusedVariables false
set_option linter.unusedSimpArgs false
set_option maxRecDepth 100000
set_option maxHeartbeats 16000000
theorem Z2 (s:ByteArray) (w:Wq) (U:s.size<=140737488351232):
 Calls prog 48 #[.string s] w λe w'=>e= .returned (.bool (validS s))/\Ext w w':=by
 have I:s.size<=maxLen:=by unfold maxLen;omega
 have A:=VD s w I;obtain ⟨K,hK⟩:∃K,(checkS s).2=K:=⟨_,rfl⟩;obtain ⟨R,H⟩:∃R,collapse s=R:=⟨_,rfl⟩;have C:validS s=(decide (K=0) && (R.data.toList==s.data.toList)):=by unfold validS;rw[hK,H]
 have h:=λw'=>Xg s w' U;rw[hK] at A;rw[H] at h;rw[C];clear C hK H;have O:=gd A;have Q:=gd h;clear A h;by_cases F:K=0
 ·subst F;go_enter func48,ntmps48
  go_wp2_with (first|(go_at_call 99;refine (O.out).mono ?_;rintro e w' ⟨rfl,J⟩)|(go_at_call 72;refine (Q.out _).mono ?_;rintro e w' ⟨rfl,D⟩))
  go_ret;exact ⟨by simp[VI],J.trans D⟩
 ·have V:((K:Int)==0)=false:=by rw[ZqW];omega
  have S:decide (K=0)=false:=by simp[F]
  rw[S];clear S F;go_enter func48,ntmps48
  go_wp2_with (first|(go_at_call 99;refine (O.out).mono ?_;rintro e w' ⟨rfl,J⟩)|(go_at_call 72;refine (Q.out _).mono ?_;rintro e w' ⟨rfl,D⟩))
  go_ret;exact ⟨by simp,J⟩
theorem UM (t:Int) (w:Wq):
 Calls prog 49 #[nI t] w λe w'=>e= .returned (.bool (inT t))/\w=w':=by
 unfold inT;go_enter func49,ntmps49;go_wp2
 all_goals go_ret
 all_goals exact ⟨by simp_all<;>omega,rfl⟩
section
section
variable {α κ:Type} (O:Ord α κ)
end
section
variable {α κ:Type} [DecidableEq κ] (O:Ord α κ)
end
theorem AtEnt.ext {w w':Wq} {p:Addr} {e:Ent} (h:AtEnt w p e) (A:Ext w w'):AtEnt w' p e:=⟨A.cell h.c0,A.cell h.c1,A.cell h.c2,A.cell h.c3,A.cell h.c4⟩
end
theorem Zdy (e:Ent) (w:Wq) (Y:eokS e):
 Calls prog 50 #[.agg (eCells e).toArray] w λx w'=>x= .returned (nI (if okE e=true then 0 else 22))/\Ext w w':=by
 obtain ⟨R,H⟩:∃R:Int,(if (validS e.id && (validS e.title && (validS e.link && (validS e.content && true))) && !decide (e.id=noS) && inT e.upd)=true then 0 else 22)=R:=⟨_,rfl⟩;rw[show (if okE e=true then (0:Int) else 22)=R from H];obtain ⟨s0,Z,s2,s3⟩:=Y;have Q:=gd (λw'=>Z2 e.id w' om);have S:=gd (λw'=>Z2 e.title w' om);have U:=gd (λw'=>Z2 e.link w' om);have V:=gd (λw'=>Z2 e.content w' om);have X:=gd (λw'=>UM e.upd w');have h4:e.id.toList.isEmpty=decide (e.id=noS):=by
  by_cases h:e.id=noS
  ·rw[h,ZrC];rfl
  ·rw[JQ h,Zre h]
 clear s0 Z s2 s3;obtain ⟨id,title,link,content,upd⟩:=e;unfold eCells;dsimp only at*;generalize validS id=b0 at*;generalize validS title=b1 at*;generalize validS link=b2 at*;generalize validS content=b3 at*;generalize decide (id=noS)=b4 at*;generalize inT upd=b5 at*;cases b0;rotate_left;cases b1;rotate_left;cases b2;rotate_left;cases b3;rotate_left;cases b4;cases b5
 all_goals
  simp at H
  subst H
  go_enter func50,ntmps50
  go_wp2_with (first|(go_at_call 48;(with_reducible refine ZqD (Q.out _) ?_);rintro e w1 ⟨rfl,A⟩;have k1:=A.boxed 1 _ rfl)|(go_at_call 48;(with_reducible refine ZqD (S.out _) ?_);rintro e w2 ⟨rfl,I⟩;have C:=A.trans I;have k2:=C.boxed 2 _ rfl)|(go_at_call 48;(with_reducible refine ZqD (U.out _) ?_);rintro e w3 ⟨rfl,J⟩;have D:=C.trans J;have k3:=D.boxed 3 _ rfl)|(go_at_call 48;(with_reducible refine ZqD (V.out _) ?_);rintro e w4 ⟨rfl,O⟩;have F:=D.trans O;have k4:=F.boxed 0 _ rfl;have k5:=F.boxed 4 _ rfl)|(go_at_call 49;refine ZqD (X.out _) ?_;rintro e w5 ⟨rfl,rfl⟩))
  go_ret
  exact ⟨rfl,((Ext.refl _).alloc _).trans (by assumption)⟩
theorem Zhl (x:Fc) (w:Wq) (Q:RdC w x) (O:fokS x.f) (J:¬x.f.path.length<=64):
 Calls prog 20 #[.agg (cellsC x).toArray] w λe w'=>e= .returned (nI 22)/\Ext w w':=by
 obtain ⟨⟨z0,U⟩,z2,z3⟩:=O;obtain ⟨xp,R,⟨h,S,D,H,I,F⟩⟩:=x;obtain ⟨A,C⟩:=Q;dsimp only at*;obtain ⟨X,xc,rfl, -, -⟩:=A.form;obtain ⟨Y,Z,rfl, -, -⟩:=C.form;have V:(64:Int)<(h.length:Int):=om
 clear A C z0 U z2 z3 J;unfold cellsC fCells;dsimp only;go_enter func20,ntmps20;go_wp2;go_ret;exact ⟨rfl,(Ext.refl _).alloc _⟩
theorem Xz (x:Fc) (w:Wq) (hr:RdC w x) (hk:fokS x.f) (Z:x.f.path.length<=64) (hw:validS x.f.id=false\/validS x.f.id=true/\(validS x.f.title=false\/validS x.f.title=true/\(validS x.f.link=false\/validS x.f.link=true/\(x.f.id.toList.isEmpty=true\/x.f.id.toList.isEmpty=false/\inT x.f.upd=false)))):
 Calls prog 20 #[.agg (cellsC x).toArray] w λe w'=>e= .returned (nI 22)/\Ext w w':=by
 obtain ⟨⟨z0,z1⟩,z2,z3⟩:=hk;have U:=gd (λw'=>Z2 x.f.id w' om);have V:=gd (λw'=>Z2 x.f.title w' om);have X:=gd (λw'=>Z2 x.f.link w' om);have Y:=gd (λw'=>UM x.f.upd w');obtain ⟨xp,ha,⟨D,S,A,C,J,R⟩⟩:=x;obtain ⟨F,h⟩:=hr;dsimp only at*;obtain ⟨xA,xc,rfl, -, -⟩:=F.form;obtain ⟨xB,xd,rfl, -, -⟩:=h.form;have hb:¬(64:Int)<(D.length:Int):=om
 clear F h z0 z1 z2 z3 Z;generalize validS S=b0 at*;generalize validS A=b1 at*;generalize validS C=b2 at*;generalize inT J=b5 at*;rcases hw with rfl|⟨rfl,rfl|⟨rfl,rfl|⟨rfl,h4|⟨h4,rfl⟩⟩⟩⟩
 all_goals
  unfold cellsC fCells
  dsimp only
  go_enter func20,ntmps20
  go_wp2_with (first|(go_at_call 48;(with_reducible refine ZqD (U.out _) ?_);rintro e w1 ⟨rfl,h⟩;have k2:=h.boxed 2 _ rfl)|(go_at_call 48;(with_reducible refine ZqD (V.out _) ?_);rintro e w2 ⟨rfl,O⟩;have H:=h.trans O;have k3:=H.boxed 3 _ rfl)|(go_at_call 48;(with_reducible refine ZqD (X.out _) ?_);rintro e w3 ⟨rfl,Q⟩;have I:=H.trans Q;have k1:=I.boxed 1 _ rfl;have k4:=I.boxed 4 _ rfl)|(go_at_call 49;refine ZqD (Y.out _) ?_;rintro e w5 ⟨rfl,rfl⟩))
  go_ret
  exact ⟨rfl,((Ext.refl _).alloc _).trans (by assumption)⟩
def okP (l:List ByteArray):Bool:=l.all λp=> !decide (p=noS) && validS p
theorem ZnK {l:List ByteArray} {k:Nat} (D:k<l.length) (h:∀p∈l.take k,p≠noS/\validS p=true) (C:l[k]≠noS/\validS l[k]=true):∀p∈l.take (k+1),p≠noS/\validS p=true:=by
 intro p A;rw[ZqQ D] at A;rcases Zq0.1 A with A|A
 ·exact h p A
 ·rw[ZqU.1 A];exact C
theorem ZlE {l:List ByteArray} {p:ByteArray} (A:p∈l) (h:p=noS\/validS p=false):okP l=false:=by
 unfold okP;rw[List.all_eq_false];refine ⟨p,A,?_⟩;rcases h with h|h<;>simp[h]
theorem ZnL {l:List ByteArray} (h:∀p∈l,p≠noS/\validS p=true):okP l=true:=by
 unfold okP;rw[Zrm];intro p D;obtain ⟨A,C⟩:=h p D;simp[A,C]
theorem ZlC {l:List Ent} {k:Nat} (A:k<l.length) (h:okAt okE ordE l k=false):okL okE ordE l=false:=by
 unfold okL;rw[List.all_eq_false];exact ⟨k,Zsu.2 A,by simp[h]⟩
theorem ZnJ {l:List Ent} (h:∀k,k<l.length->okAt okE ordE l k=true):okL okE ordE l=true:=by
 unfold okL;rw[Zrm];exact λk A=>h k (Zsu.1 A)
theorem Zhm (x:Fc) (w:Wq) (hr:RdC w x) (hk:fokS x.f) (h0:x.f.path.length<=64) (v0:validS x.f.id=true) (v1:validS x.f.title=true) (v2:validS x.f.link=true) (h4:x.f.id.toList.isEmpty=false) (h5:inT x.f.upd=true):
 Calls prog 20 #[.agg (cellsC x).toArray] w λe w'=>e= .returned (nI (if (okP x.f.path && okL okE ordE x.f.ents)=true then 0 else 22))/\Ext w w':=by
 obtain ⟨⟨z0,z1⟩,z2,z3⟩:=hk;have V0:=gd (λw'=>Z2 x.f.id w' om);rw[v0] at V0;have V1:=gd (λw'=>Z2 x.f.title w' om);rw[v1] at V1;have V2:=gd (λw'=>Z2 x.f.link w' om);rw[v2] at V2;have VT:=gd (λw'=>UM x.f.upd w');rw[h5] at VT;obtain ⟨xp,gt,⟨C,gu,h3,gk,gl,A⟩⟩:=x;obtain ⟨hK,hn⟩:=hr;dsimp only at*;obtain ⟨xA,xc,rfl, -, -⟩:=hK.form;obtain ⟨xB,xd,rfl, -, -⟩:=hn.form;have hb:¬(64:Int)<(C.length:Int):=om
 obtain ⟨R,hR⟩:∃R:Int,(if (okP C && okL okE ordE A)=true then 0 else 22)=R:=⟨_,rfl⟩;rw[hR];have HR:=gd hR;have hQ:=gd hK;have hF:=gd hn;have HS:Hid (∀p∈C,p.size<=16777216):=gd λp hp=>by have:=Yd hp;omega
 have h7:Hid (∀e∈A,eokS e):=gd λe he=>by obtain ⟨_,h⟩:=z3 e he;exact ⟨om,om,om,om⟩
 have gq:C.length<=64:=h0;have gm:A.length<=1000000:=z2;clear hK hn z0 z1 z2 z3 h0 v0 v1 v2 h5 hR;unfold cellsC fCells;dsimp only;go_enter func20,ntmps20
 go_wp2_with (first|(go_at_call 48;(with_reducible refine ZqD (V0.out _) ?_);rintro e w1 ⟨rfl,hn⟩;have k2:=hn.boxed 2 _ rfl)|(go_at_call 48;(with_reducible refine ZqD (V1.out _) ?_);rintro e w2 ⟨rfl,hZ⟩;have hM:=hn.trans hZ;have k3:=hM.boxed 3 _ rfl)|(go_at_call 48;(with_reducible refine ZqD (V2.out _) ?_);rintro e w3 ⟨rfl,h2⟩;have hx:=hM.trans h2;have k1:=hx.boxed 1 _ rfl;have k4:=hx.boxed 4 _ rfl)|(go_at_call 49;refine ZqD (VT.out _) ?_;rintro e w5 ⟨rfl,rfl⟩))
 have ho:Hid (∀wr:Wq,Ext w3 wr->wr.cell? ⟨w.heap.size,0,none⟩=some (.slice xA C.length xc)/\wr.cell? ⟨w.heap.size,5,none⟩=some (.slice xB A.length xd)):=gd λwr h=>⟨(hx.trans h).boxed 0 _ rfl,(hx.trans h).boxed 5 _ rfl⟩;have V:Hid (Ext w w3):=gd (((Ext.refl _).alloc _).trans hx);clear V0 V1 V2 VT hn hZ hM h2 hx k1 k2 k3 k4 hb h4;go_loopw [3] (λi wr=>∃k:Nat,k<=C.length/\i=nI k/\Hid (∀p∈C.take k,p≠noS/\validS p=true)/\Ext w3 wr) (λi _=>C.length - (intOf i).toNat)
 case atStart=>exact ⟨0,ZqO _,rfl,gd (by simp),Ext.refl _⟩
 case round=>
  obtain ⟨k,hk,rfl,J,hw⟩:=hrel;obtain ⟨h8,hG⟩:=ho.out wr hw;by_cases X:k<C.length
  ·obtain ⟨ad,c1,e1,hc⟩:=(hQ.out.ext (V.out.trans hw)).at X;injection e1 with e1 e1' e1'';subst e1;clear e1' e1'';have hA:C[k]∈C:=Zq2 X;have D:=ZnK X J.out;have HV:=gd (Z2 C[k] wr (by have:=HS.out _ hA;omega));have Y:(C[k]=noS\/validS C[k]=false)->R=22:=λh=>(by rw[<-HR.out,ZlE hA h];rfl);obtain ⟨p,hY⟩:∃p,C[k]=p:=⟨_,rfl⟩;rw[hY] at hc D HV Y;have hV:(0:Int)<=(k:Int):=om;have gc:(k:Int)<(C.length:Int):=om;clear hY hA;by_cases he:p=noS
   ·have hR:=Y (Or.inl he);subst hR;have ga:p.toList.isEmpty=true:=(by rw[he,ZrC];rfl);clear he D Y HV;go_wp2;go_ret;exact ⟨rfl,V.out.trans hw⟩
   ·have ga:=JQ he;cases hv:validS p with
    |false=>
     have hR:=Y (Or.inr hv);subst hR;rw[hv] at HV;clear he D Y hv
     go_wp2_with (first|(go_at_call 48;refine ZqD (HV.out) ?_;rintro e w6 ⟨rfl,hL⟩))
     go_ret;exact ⟨rfl,(V.out.trans hw).trans hL⟩
    |true=>
     have hD:=gd (D ⟨he,hv⟩);rw[hv] at HV;clear he D Y hv
     go_wp2_with (first|(go_at_call 48;refine ZqD (HV.out) ?_;rintro e w6 ⟨rfl,hL⟩))
     go_roundw
     case rel=>exact ⟨k+1,X,by go_num,hD,hw.trans hL⟩
     case measure=>simp[intOf];omega
  ·have hJ:k=C.length:=om;subst hJ;rw[Zq4 (ZqE _)] at J;have ha:=ZnL J.out;have hT:(if okL okE ordE A=true then 0 else 22)=R:=(by rw[<-HR.out,ha,Zr2]);have hP:=gd hT;clear ha hT HR J hQ HS;obtain ⟨wA,gh⟩:∃wA:Wq,wA=wr:=⟨_,rfl⟩;subst gh;go_wp2;clear h8 hG;go_loopw [4] (λi wr=>∃k:Nat,k<=A.length/\i=nI k/\Hid (∀j,j<k->okAt okE ordE A j=true)/\Ext w3 wr) (λi _=>A.length - (intOf i).toNat)
   case atStart=>exact ⟨0,ZqO _,rfl,gd (λj h=>by omega),hw⟩
   case round=>
    obtain ⟨k,hk,rfl,J,hi⟩:=hrel;obtain ⟨_,hG⟩:=ho.out wr hi;by_cases X:k<A.length
    ·have hX:REnts wr (.slice xB A.length xd) A:=hF.out.ext (V.out.trans hi);obtain ⟨ad,c1,e1,Z⟩:=hX.at X;injection e1 with e1 e1' e1'';subst e1;clear e1' e1'' hX;have hg:=gd (JR (ok:=okE) (O:=ordE) X);have hB:=h7.out _ (Zq2 X);have hy:Hid (okAt okE ordE A k=false->R=22):=gd λh=>(by rw[<-hP.out,ZlC X h];rfl);obtain ⟨E,hE,Z,hB⟩:∃E,A[k]=E/\AtEnt wr (ad.add (k*5)) E/\eokS E:=⟨_,rfl,Z,hB⟩;have HE:=gd hE;have I:=gd X;have H:=gd (λw'=>Zdy E w' hB);have h6:=gd Z;have hV:(0:Int)<=(k:Int):=om;have gc:(k:Int)<(A.length:Int):=om;have B5:∀d:Aft wr,d.w.cell? ⟨w.heap.size,5,none⟩=some (.slice (some ad) A.length xd):=Aft.cell hG;clear hE hB;have A0:∀d:Aft wr,d.w.cell? (ad.add (k*5))=some (.string E.id):=Aft.cell Z.c0;have A1:∀d:Aft wr,d.w.cell? ⟨(ad.add (k*5)).block,(ad.add (k*5)).off+1,none⟩=some (.string E.title):=Aft.cell Z.c1;have A2:∀d:Aft wr,d.w.cell? ⟨(ad.add (k*5)).block,(ad.add (k*5)).off+2,none⟩=some (.string E.link):=Aft.cell Z.c2;have A3:∀d:Aft wr,d.w.cell? ⟨(ad.add (k*5)).block,(ad.add (k*5)).off+3,none⟩=some (.string E.content):=Aft.cell Z.c3;have A4:∀d:Aft wr,d.w.cell? ⟨(ad.add (k*5)).block,(ad.add (k*5)).off+4,none⟩=some (nI E.upd):=Aft.cell Z.c4;clear Z;cases ha:okE E with
     |false=>
      have hR:=hy.out (by
       rw[Zr8];intro h;have h1:=((hg.out).1 h).1;rw[HE.out,ha] at h1;cases h1)
      subst hR;rw[ha] at H;clear ha;unfold eCells at H;simp only[ZrW,ZsJ] at H;go_wp2;refine rA ?_
      repeat (first|go_big_quiet_step ((first|(go_at_call 50;with_reducible exact Zi (H.out _))))|quiet_step ((first|(go_at_call 50;with_reducible exact Zi (H.out _)))))
      refine Zru ?_;rintro _ ⟨d1,rfl⟩;go_wp2;go_ret;exact ⟨rfl,V.out.trans (hi.trans d1.ext)⟩
     |true=>
      have hO:=gd ha;rw[ha] at H;clear ha;unfold eCells at H;simp only[Zsy] at H;rcases ZrX k with h0|hW
      ·subst h0;have hl:Hid (∀h:0<0,ordE.lt (A[0 - 1]'(by have:=I.out;omega)) (A[0]'I.out)=true):=gd (λh=>by omega);simp only[add_zero,Zsl] at A0 A1 A2 A3 A4;go_wp2;refine rA ?_
       repeat (first|go_big_quiet_step ((first|(go_at_call 50;with_reducible exact Zi (H.out _))))|quiet_step ((first|(go_at_call 50;with_reducible exact Zi (H.out _)))))
       refine Zru ?_;rintro _ ⟨d1,rfl⟩;have hm:=hi.trans d1.ext;go_wp2;go_loopw [5] (λi wr=>∃j:Nat,j<=0/\i=nI j/\Hid (∀t (h:t<A.length),t<j->A[t].id≠E.id)/\Ext d1.w wr) (λi _=>0 - (intOf i).toNat)
       case atStart=>exact ⟨0,ZqO _,rfl,gd (λt _ h=>by omega),Ext.refl _⟩
       case round=>
        obtain ⟨j,hj,rfl,hz,hd⟩:=hrel;obtain ⟨_,hS⟩:=ho.out wr (hm.trans hd);have hs:=I.out;by_cases hI:j<0
        ·exact absurd hI (Nat.not_lt_zero _)
        ·have hH:j=0:=om;subst hH;have S:okAt okE ordE A 0=true:=(by refine (hg.out).2 ⟨by rw[HE.out];exact hO.out,hl.out,λt ht=> ?_⟩;rw[HE.out];exact hz.out t om ht);have HG:=gd S;clear S hs;go_wp2;go_roundw
         case rel=>exact ⟨0+1,I.out,by go_num,gd (λt ht=>by
          by_cases e:t=0
          ·rw[e];exact HG.out
          ·exact J.out t om),hm.trans hd⟩
         case measure=>simp[intOf];have:=I.out;omega
      ·obtain ⟨q,hq⟩:∃q,k=q+1:=⟨k - 1,om⟩;have gg:q<A.length:=(by have:=I.out;omega);have hX:REnts wr (.slice (some ad) A.length xd) A:=hF.out.ext (V.out.trans hi);obtain ⟨af,c3,e3,hh⟩:=hX.at gg;injection e3 with e3 e3' e3'';injection e3 with e3;subst e3;clear e3' e3'' hX;have U:ordE.lt A[q] E=decide (entCmp A[q] E<0):=rfl;have hu:Hid (A[k - 1]'(ZsU (ZsV _ _) I.out)=A[q]):=gd (by subst hq;rfl);have hf:=gd (λw'=>Za0 A[q] E w');obtain ⟨F,hh,U,hu,hf⟩:∃F,AtEnt wr (ad.add (q*5)) F/\(ordE.lt F E=decide (entCmp F E<0))/\Hid (A[k - 1]'(ZsU (ZsV _ _) I.out)=F)/\Hid (∀w',Calls prog 51 #[.agg (eCells F).toArray,.agg (eCells E).toArray] w' λe gj=>e= .returned (nI (entCmp F E))/\Ext w' gj):=⟨_,hh,U,hu,hf⟩;have C0:∀d:Aft wr,d.w.cell? (ad.add (q*5))=some (.string F.id):=Aft.cell hh.c0;have C1:∀d:Aft wr,d.w.cell? ⟨(ad.add (q*5)).block,(ad.add (q*5)).off+1,none⟩=some (.string F.title):=Aft.cell hh.c1;have C2:∀d:Aft wr,d.w.cell? ⟨(ad.add (q*5)).block,(ad.add (q*5)).off+2,none⟩=some (.string F.link):=Aft.cell hh.c2;have C3:∀d:Aft wr,d.w.cell? ⟨(ad.add (q*5)).block,(ad.add (q*5)).off+3,none⟩=some (.string F.content):=Aft.cell hh.c3;have C4:∀d:Aft wr,d.w.cell? ⟨(ad.add (q*5)).block,(ad.add (q*5)).off+4,none⟩=some (nI F.upd):=Aft.cell hh.c4;clear hh;obtain ⟨c,hc⟩:∃c,entCmp F E=c:=⟨_,rfl⟩;rw[hc] at U hf;have gn:(0:Int)<(k:Int):=om;have gp:wrap64 ((k:Int) - 1)=(q:Int):=(by rw[Z9 _ ⟨om,om⟩];omega);have go:(k:Int) - 1=(q:Int):=om;have gr:(0:Int)<=(q:Int):=om;have gs:(q:Int)<(A.length:Int):=om;unfold eCells at hf;by_cases hC:c<0
       ·have hl:Hid (∀h:0<k,ordE.lt (A[k - 1]'(ZsU (ZsV _ _) I.out)) (A[k]'I.out)=true):=gd (λh=>by rw[hu.out,HE.out,U];exact Zrj hC);have gb:¬(0:Int)<=c:=om;clear U hc hq hu;go_wp2;refine rA ?_
        repeat (first|go_big_quiet_step ((first|(go_at_call 50;with_reducible exact Zi (H.out _))|(go_at_call 51;with_reducible exact Zi (hf.out _))))|quiet_step ((first|(go_at_call 50;with_reducible exact Zi (H.out _))|(go_at_call 51;with_reducible exact Zi (hf.out _)))))
        refine Zru ?_;rintro _ ⟨d1,rfl⟩;have hm:=hi.trans d1.ext;go_wp2;go_loopw [5] (λi wr=>∃j:Nat,j<=k/\i=nI j/\Hid (∀t (h:t<A.length),t<j->A[t].id≠E.id)/\Ext d1.w wr) (λi _=>k - (intOf i).toNat)
        case atStart=>exact ⟨0,ZqO _,rfl,gd (λt _ h=>by omega),Ext.refl _⟩
        case round=>
         obtain ⟨j,hj,rfl,hz,hd⟩:=hrel;obtain ⟨_,hS⟩:=ho.out wr (hm.trans hd);have hs:=I.out;by_cases hI:j<k
         ·have ge:j<A.length:=om;have hX:REnts wr (.slice (some ad) A.length xd) A:=hF.out.ext (V.out.trans (hm.trans hd));obtain ⟨ae,c2,e2,hU⟩:=hX.at ge;injection e2 with e2 e2' e2'';injection e2 with e2;subst e2;clear e2' e2'' hX;have D:A[j].id≠E.id->∀t (h:t<A.length),t<j+1->A[t].id≠E.id:=λgf t h ht=>by
           by_cases e:t=j
           ·subst e;exact gf
           ·exact hz.out t h om
          have Q:A[j].id=E.id->R=22:=λe=>(by refine hy.out ?_;rw[Zr8];intro h;exact ((hg.out).1 h).2.2 j hI (by rw[HE.out];exact e));have q0:=hU.c0;have p0:=(h6.out.ext (d1.ext.trans hd)).c0;obtain ⟨y,gi⟩:∃y,A[j].id=y:=⟨_,rfl⟩;rw[gi] at D Q q0;obtain ⟨z,hN⟩:∃z,E.id=z:=⟨_,rfl⟩;simp only[hN] at D Q p0 hz|-;have HZ:=gd hN;clear hN hU;have B5:∀d:Aft wr,d.w.cell? ⟨w.heap.size,5,none⟩=some (.slice (some ad) A.length xd):=Aft.cell hS;have Q0:∀d:Aft wr,d.w.cell? (ad.add (j*5))=some (.string y):=Aft.cell q0;have P0:∀d:Aft wr,d.w.cell? (ad.add (k*5))=some (.string z):=Aft.cell p0;have j0:(0:Int)<=(j:Int):=om;have j1:(j:Int)<(A.length:Int):=om;have j2:(j:Int)<(k:Int):=om;clear q0 p0 hs;cases hyz:(y.toList==z.toList) with
          |true=>
           have hR:=Q (toList_inj (by simpa using hyz));subst hR;clear Q D;go_wp2;refine rA ?_
           repeat (first|go_big_quiet_step (fail)|quiet_step (fail))
           refine Zru ?_;rintro _ ⟨d2,rfl⟩;go_wp2;go_ret;exact ⟨rfl,V.out.trans ((hm.trans hd).trans d2.ext)⟩
          |false=>
           have hD:=gd (D (λe=>by rw[e] at hyz;simp at hyz));clear Q D;go_wp2;refine rA ?_
           repeat (first|go_big_quiet_step (fail)|quiet_step (fail))
           refine Zru ?_;rintro _ ⟨d2,rfl⟩;go_wp2;go_roundw
           case rel=>exact ⟨j+1,om,by go_num,hD,hd.trans d2.ext⟩
           case measure=>simp[intOf];omega
         ·have hH:j=k:=om;subst hH;have S:okAt okE ordE A j=true:=(by refine (hg.out).2 ⟨by rw[HE.out];exact hO.out,hl.out,λt ht=> ?_⟩;rw[HE.out];exact hz.out t om ht);have HG:=gd S;clear S hs;go_wp2;go_roundw
          case rel=>exact ⟨j+1,I.out,by go_num,gd (λt ht=>by
           by_cases e:t=j
           ·rw[e];exact HG.out
           ·exact J.out t om),hm.trans hd⟩
          case measure=>simp[intOf];have:=I.out;omega
       ·have hR:=hy.out (by
         rw[Zr8];intro h;have h1:=((hg.out).1 h).2.1 hW;rw[hu.out,HE.out,U] at h1;exact hC (Zro h1))
        subst hR;have gb:(0:Int)<=c:=om;clear U hc hq hu;go_wp2;refine rA ?_
        repeat (first|go_big_quiet_step ((first|(go_at_call 50;with_reducible exact Zi (H.out _))|(go_at_call 51;with_reducible exact Zi (hf.out _))))|quiet_step ((first|(go_at_call 50;with_reducible exact Zi (H.out _))|(go_at_call 51;with_reducible exact Zi (hf.out _)))))
        refine Zru ?_;rintro _ ⟨d1,rfl⟩;go_wp2;go_ret;exact ⟨rfl,V.out.trans (hi.trans d1.ext)⟩
    ·have hJ:k=A.length:=om;subst hJ;have h9:R=0:=(by rw[<-hP.out,ZnJ J.out];rfl);subst h9;go_wp2;go_ret;exact ⟨rfl,V.out.trans hi⟩
theorem X9 (x:Fc) (w:Wq) (H:RdC w x) (F:fokS x.f):
 Calls prog 20 #[.agg (cellsC x).toArray] w λe w'=>e= .returned (nI (if okF x.f=true then 0 else 22))/\Ext w w':=by
 have Q:okF x.f=(okH x.f && okL okE ordE x.f.ents):=rfl;by_cases A:x.f.path.length<=64
 case neg=>rw[ZqH (by rw[Q];unfold okH;simp[A])];exact Zhl x w H F A
 have O:∀s,validS s=false->s∈ [x.f.id,x.f.title,x.f.link]->okF x.f=false:=λs h C=>by rw[Zr8];intro D;have:=(YF.1 (YE.1 D).1).2.1 s (by unfold strsF;simp only[Zq0];exact Or.inr C);rw[h] at this;cases this
 cases v0:validS x.f.id with
 |false=>rw[ZqH (by rw[O _ v0 (by simp)];simp)];exact Xz x w H F A (Or.inl v0)
 |true=>
 cases v1:validS x.f.title with
 |false=>rw[ZqH (by rw[O _ v1 (by simp)];simp)];exact Xz x w H F A (Or.inr ⟨v0,Or.inl v1⟩)
 |true=>
 cases v2:validS x.f.link with
 |false=>rw[ZqH (by rw[O _ v2 (by simp)];simp)];exact Xz x w H F A (Or.inr ⟨v0,Or.inr ⟨v1,Or.inl v2⟩⟩)
 |true=>
 by_cases J:x.f.id=noS
 ·rw[ZqH (λD=>(YF.1 (YE.1 D).1).2.2.1 J)];exact Xz x w H F A (Or.inr ⟨v0,Or.inr ⟨v1,Or.inr ⟨v2,Or.inl (by rw[J,ZrC];rfl)⟩⟩⟩)
 cases h5:inT x.f.upd with
 |false=>rw[ZqH (λD=>by have:=(YF.1 (YE.1 D).1).2.2.2.1;rw[h5] at this;cases this)];exact Xz x w H F A (Or.inr ⟨v0,Or.inr ⟨v1,Or.inr ⟨v2,Or.inr ⟨JQ J,h5⟩⟩⟩⟩)
 |true=>
  have e:(okF x.f=true)=((okP x.f.path && okL okE ordE x.f.ents)=true):=by
   rw[Q];have:okH x.f=okP x.f.path:=by
    rw[ZrG,YF];unfold okP;rw[Zrm];constructor
    ·rintro ⟨_,a,_,_,b⟩ p I;simp[b p I,a p (by unfold strsF;simp[I])]
    ·intro h;have D:∀p∈x.f.path,p≠noS/\validS p=true:=λp I=>(by have:=h p I;simpa using this);refine ⟨A,λs C=> ?_,J,h5,λp I=>(D p I).1⟩;unfold strsF at C;rcases Zq0.1 C with C|C
     ·exact (D s C).2
     ·simp only[Zq1,Zri,ZrD] at C;rcases C with rfl|rfl|rfl<;>assumption
   rw[this]
  rw[show (if okF x.f=true then (0:Int) else 22)=(if (okP x.f.path && okL okE ordE x.f.ents)=true then 0 else 22) by simp only[e]];exact Zhm x w H F A v0 v1 v2 (JQ J) h5
end Go.Proofs.YtmfinhgobjbecaaGreatDoor
