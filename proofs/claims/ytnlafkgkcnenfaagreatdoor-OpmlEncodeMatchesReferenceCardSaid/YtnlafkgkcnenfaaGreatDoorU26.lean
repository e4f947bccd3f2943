/- Parts of the proof: contracts and plain laws. -/
import Derived.Test.YtnlafkgkcnenfaaGreatDoorU15
namespace Go.Proofs.YtnlafkgkcnenfaaGreatDoor
open Go Go.RowKit _root_.Go.Proofs.Tryz
set_option linter.unusedVariables false
set_option linter.unusedSimpArgs false
set_option maxRecDepth 100000
set_option maxHeartbeats 16000000
theorem Xr (s:ByteArray) (w:Wq) (X:s.size<=140737488351232):
 Calls prog 76 #[.string s] w λe w'=>e= .returned (.bool (validS s))/\Ext w w':=by
 have J:s.size<=maxLen:=by unfold maxLen;omega
 have A:=I2 s w J;obtain ⟨K,hK⟩:∃K,(checkS s).2=K:=⟨_,rfl⟩;obtain ⟨R,I⟩:∃R,collapse s=R:=⟨_,rfl⟩;have D:validS s=(decide (K=0) && (R.data.toList==s.data.toList)):=by unfold validS;rw[hK,I]
 have h:=λw'=>Zbl s w' X;rw[hK] at A;rw[I] at h;rw[D];clear D hK I;have S:=gd A;have U:=gd h;clear A h;by_cases H:K=0
 ·subst H;go_enter func76,ntmps76
  go_wp2_with (first|(go_at_call 97;refine (S.out).mono ?_;rintro e w' ⟨rfl,Q⟩)|(go_at_call 120;refine (U.out _).mono ?_;rintro e w' ⟨rfl,F⟩))
  go_ret;exact ⟨by simp[QT],Q.trans F⟩
 ·have Y:((K:Int)==0)=false:=by rw[Zv];omega
  have V:decide (K=0)=false:=by simp[H]
  rw[V];clear V H;go_enter func76,ntmps76
  go_wp2_with (first|(go_at_call 97;refine (S.out).mono ?_;rintro e w' ⟨rfl,Q⟩)|(go_at_call 120;refine (U.out _).mono ?_;rintro e w' ⟨rfl,F⟩))
  go_ret;exact ⟨by simp,Q⟩
theorem VX (t:Int) (w:Wq):
 Calls prog 77 #[nI t] w λe w'=>e= .returned (.bool (inT t))/\w=w':=by
 unfold inT;go_enter func77,ntmps77;go_wp2
 all_goals go_ret
 all_goals exact ⟨by simp_all<;>omega,rfl⟩
theorem ZhD (a b:Ent) (w:Wq):
 Calls prog 79 #[.agg (eCells a).toArray,.agg (eCells b).toArray] w λe w'=>e= .returned (nI (entCmp a b))/\Ext w w':=by
 have S:=gd (λw'=>Vt a.id b.id w');have A:entCmp a b=if b.upd<a.upd then -1 else if a.upd<b.upd then 1 else sCmp a.id b.id:=by
  unfold entCmp iCmp;by_cases h:b.upd<a.upd
  ·simp[h]
  ·by_cases k:a.upd<b.upd
   ·simp[h,k]
   ·simp[h,k]
 rw[A];clear A;obtain ⟨U,H,J,D,Q⟩:=a;obtain ⟨V,I,K,F,R⟩:=b;unfold eCells;go_enter func79,ntmps79
 go_wp2_with (go_at_call 80;refine (S.out _).mono ?_;rintro e w1 ⟨rfl,rfl⟩)
 all_goals go_ret
 all_goals exact ⟨by simp_all,((Ext.refl _).alloc _).alloc _⟩
section
section
variable {α κ:Type} (O:Ord α κ)
end
section
variable {α κ:Type} [DecidableEq κ] (O:Ord α κ)
end
theorem AtEnt.ext {w w':Wq} {p:Addr} {e:Ent} (h:AtEnt w p e) (A:Ext w w'):AtEnt w' p e:=⟨A.cell h.c0,A.cell h.c1,A.cell h.c2,A.cell h.c3,A.cell h.c4⟩
end
theorem AtFc.ext {w w':Wq} {q:Addr} {x:Fc} (h:AtFc w q x) (A:Ext w w'):AtFc w' q x:=⟨A.cell h.c0,A.cell h.c1,A.cell h.c2,A.cell h.c3,A.cell h.c4,A.cell h.c5⟩
theorem Zdr (e:Ent) (w:Wq) (Z:eokS e):
 Calls prog 78 #[.agg (eCells e).toArray] w λx w'=>x= .returned (nI (if okE e=true then 0 else 22))/\Ext w w':=by
 obtain ⟨R,I⟩:∃R:Int,(if (validS e.id && (validS e.title && (validS e.link && (validS e.content && true))) && !decide (e.id=noS) && inT e.upd)=true then 0 else 22)=R:=⟨_,rfl⟩;rw[show (if okE e=true then (0:Int) else 22)=R from I];obtain ⟨s0,s1,s2,s3⟩:=Z;have S:=gd (λw'=>Xr e.id w' om);have U:=gd (λw'=>Xr e.title w' om);have V:=gd (λw'=>Xr e.link w' om);have X:=gd (λw'=>Xr e.content w' om);have Y:=gd (λw'=>VX e.upd w');have h4:e.id.toList.isEmpty=decide (e.id=noS):=by
  by_cases h:e.id=noS
  ·rw[h,Jp];rfl
  ·rw[VW h,Yd h]
 clear s0 s1 s2 s3;obtain ⟨id,title,link,content,upd⟩:=e;unfold eCells;dsimp only at*;generalize validS id=b0 at*;generalize validS title=b1 at*;generalize validS link=b2 at*;generalize validS content=b3 at*;generalize decide (id=noS)=b4 at*;generalize inT upd=b5 at*;cases b0;rotate_left;cases b1;rotate_left;cases b2;rotate_left;cases b3;rotate_left;cases b4;cases b5
 all_goals
  simp at I
  subst I
  go_enter func78,ntmps78
  go_wp2_with (first|(go_at_call 76;(with_reducible refine Za (S.out _) ?_);rintro e w1 ⟨rfl,A⟩;have k1:=A.boxed 1 _ rfl)|(go_at_call 76;(with_reducible refine Za (U.out _) ?_);rintro e w2 ⟨rfl,J⟩;have D:=A.trans J;have k2:=D.boxed 2 _ rfl)|(go_at_call 76;(with_reducible refine Za (V.out _) ?_);rintro e w3 ⟨rfl,K⟩;have F:=D.trans K;have k3:=F.boxed 3 _ rfl)|(go_at_call 76;(with_reducible refine Za (X.out _) ?_);rintro e w4 ⟨rfl,Q⟩;have H:=F.trans Q;have k4:=H.boxed 0 _ rfl;have k5:=H.boxed 4 _ rfl)|(go_at_call 77;refine Za (Y.out _) ?_;rintro e w5 ⟨rfl,rfl⟩))
  go_ret
  exact ⟨rfl,((Ext.refl _).alloc _).trans (by assumption)⟩
def outl (f:Fd):Fd:=⟨f.path,f.id,f.title,f.link, -62135596800,[]⟩
section
variable {k:Nat}
theorem ZhB (x:Fc) (w:Wq) (R:RdC w x) (Q:fokS x.f) (K:¬x.f.path.length<=64):
 Calls prog 40 #[.agg (cellsC x).toArray] w λe w'=>e= .returned (nI 22)/\Ext w w':=by
 obtain ⟨⟨z0,V⟩,z2,z3⟩:=Q;obtain ⟨xp,S,⟨h,U,F,I,J,H⟩⟩:=x;obtain ⟨A,D⟩:=R;dsimp only at*;obtain ⟨Y,xc,rfl, -, -⟩:=A.form;obtain ⟨Z,xd,rfl, -, -⟩:=D.form;have X:(64:Int)<(h.length:Int):=om
 clear A D z0 V z2 z3 K;unfold cellsC fCells;dsimp only;go_enter func40,ntmps40;go_wp2;go_ret;exact ⟨rfl,(Ext.refl _).alloc _⟩
theorem Uj (x:Fc) (w:Wq) (hr:RdC w x) (hk:fokS x.f) (h0:x.f.path.length<=64) (hw:validS x.f.id=false\/validS x.f.id=true/\(validS x.f.title=false\/validS x.f.title=true/\(validS x.f.link=false\/validS x.f.link=true/\(x.f.id.toList.isEmpty=true\/x.f.id.toList.isEmpty=false/\inT x.f.upd=false)))):
 Calls prog 40 #[.agg (cellsC x).toArray] w λe w'=>e= .returned (nI 22)/\Ext w w':=by
 obtain ⟨⟨z0,z1⟩,z2,z3⟩:=hk;have V:=gd (λw'=>Xr x.f.id w' om);have X:=gd (λw'=>Xr x.f.title w' om);have Y:=gd (λw'=>Xr x.f.link w' om);have Z:=gd (λw'=>VX x.f.upd w');obtain ⟨xp,ha,⟨F,U,A,D,K,S⟩⟩:=x;obtain ⟨H,h⟩:=hr;dsimp only at*;obtain ⟨xA,xc,rfl, -, -⟩:=H.form;obtain ⟨xB,xd,rfl, -, -⟩:=h.form;have hb:¬(64:Int)<(F.length:Int):=om
 clear H h z0 z1 z2 z3 h0;generalize validS U=b0 at*;generalize validS A=b1 at*;generalize validS D=b2 at*;generalize inT K=b5 at*;rcases hw with rfl|⟨rfl,rfl|⟨rfl,rfl|⟨rfl,h4|⟨h4,rfl⟩⟩⟩⟩
 all_goals
  unfold cellsC fCells
  dsimp only
  go_enter func40,ntmps40
  go_wp2_with (first|(go_at_call 76;(with_reducible refine Za (V.out _) ?_);rintro e w1 ⟨rfl,h⟩;have k2:=h.boxed 2 _ rfl)|(go_at_call 76;(with_reducible refine Za (X.out _) ?_);rintro e w2 ⟨rfl,Q⟩;have I:=h.trans Q;have k3:=I.boxed 3 _ rfl)|(go_at_call 76;(with_reducible refine Za (Y.out _) ?_);rintro e w3 ⟨rfl,R⟩;have J:=I.trans R;have k1:=J.boxed 1 _ rfl;have k4:=J.boxed 4 _ rfl)|(go_at_call 77;refine Za (Z.out _) ?_;rintro e w5 ⟨rfl,rfl⟩))
  go_ret
  exact ⟨rfl,((Ext.refl _).alloc _).trans (by assumption)⟩
def okP (l:List ByteArray):Bool:=l.all λp=> !decide (p=noS) && validS p
theorem Znl {l:List ByteArray} (F:k<l.length) (h:∀p∈l.take k,p≠noS/\validS p=true) (D:l[k]≠noS/\validS l[k]=true):∀p∈l.take (k+1),p≠noS/\validS p=true:=by
 intro p A;rw[Zr F] at A;rcases Zs.1 A with A|A
 ·exact h p A
 ·rw[Zo.1 A];exact D
theorem ZlD {l:List ByteArray} {p:ByteArray} (A:p∈l) (h:p=noS\/validS p=false):okP l=false:=by
 unfold okP;rw[List.all_eq_false];refine ⟨p,A,?_⟩;rcases h with h|h<;>simp[h]
theorem Znm {l:List ByteArray} (h:∀p∈l,p≠noS/\validS p=true):okP l=true:=by
 unfold okP;rw[Z6];intro p F;obtain ⟨A,D⟩:=h p F;simp[A,D]
theorem ZlC {l:List Ent} (A:k<l.length) (h:okAt okE ordE l k=false):okL okE ordE l=false:=by
 unfold okL;rw[List.all_eq_false];exact ⟨k,Ub.2 A,by simp[h]⟩
theorem Znk {l:List Ent} (h:∀k,k<l.length->okAt okE ordE l k=true):okL okE ordE l=true:=by
 unfold okL;rw[Z6];exact λk A=>h k (Ub.1 A)
theorem ZhC (x:Fc) (w:Wq) (hr:RdC w x) (hk:fokS x.f) (h0:x.f.path.length<=64) (v0:validS x.f.id=true) (v1:validS x.f.title=true) (v2:validS x.f.link=true) (h4:x.f.id.toList.isEmpty=false) (h5:inT x.f.upd=true):
 Calls prog 40 #[.agg (cellsC x).toArray] w λe w'=>e= .returned (nI (if (okP x.f.path && okL okE ordE x.f.ents)=true then 0 else 22))/\Ext w w':=by
 obtain ⟨⟨z0,z1⟩,z2,z3⟩:=hk;have V0:=gd (λw'=>Xr x.f.id w' om);rw[v0] at V0;have V1:=gd (λw'=>Xr x.f.title w' om);rw[v1] at V1;have V2:=gd (λw'=>Xr x.f.link w' om);rw[v2] at V2;have VT:=gd (λw'=>VX x.f.upd w');rw[h5] at VT;obtain ⟨xp,gt,⟨D,gu,h3,gk,gl,A⟩⟩:=x;obtain ⟨hK,hn⟩:=hr;dsimp only at*;obtain ⟨xA,xc,rfl, -, -⟩:=hK.form;obtain ⟨xB,xd,rfl, -, -⟩:=hn.form;have hb:¬(64:Int)<(D.length:Int):=om
 obtain ⟨R,hR⟩:∃R:Int,(if (okP D && okL okE ordE A)=true then 0 else 22)=R:=⟨_,rfl⟩;rw[hR];have HR:=gd hR;have hQ:=gd hK;have hF:=gd hn;have HS:Hid (∀p∈D,p.size<=16777216):=gd λp hp=>by have:=XZ hp;omega
 have h7:Hid (∀e∈A,eokS e):=gd λe he=>by obtain ⟨_,h⟩:=z3 e he;exact ⟨om,om,om,om⟩
 have gq:D.length<=64:=h0;have gm:A.length<=1000000:=z2;clear hK hn z0 z1 z2 z3 h0 v0 v1 v2 h5 hR;unfold cellsC fCells;dsimp only;go_enter func40,ntmps40
 go_wp2_with (first|(go_at_call 76;(with_reducible refine Za (V0.out _) ?_);rintro e w1 ⟨rfl,hn⟩;have k2:=hn.boxed 2 _ rfl)|(go_at_call 76;(with_reducible refine Za (V1.out _) ?_);rintro e w2 ⟨rfl,hZ⟩;have hM:=hn.trans hZ;have k3:=hM.boxed 3 _ rfl)|(go_at_call 76;(with_reducible refine Za (V2.out _) ?_);rintro e w3 ⟨rfl,h2⟩;have hx:=hM.trans h2;have k1:=hx.boxed 1 _ rfl;have k4:=hx.boxed 4 _ rfl)|(go_at_call 77;refine Za (VT.out _) ?_;rintro e w5 ⟨rfl,rfl⟩))
 have ho:Hid (∀wr:Wq,Ext w3 wr->wr.cell? ⟨w.heap.size,0,none⟩=some (.slice xA D.length xc)/\wr.cell? ⟨w.heap.size,5,none⟩=some (.slice xB A.length xd)):=gd λwr h=>⟨(hx.trans h).boxed 0 _ rfl,(hx.trans h).boxed 5 _ rfl⟩;have V:Hid (Ext w w3):=gd (((Ext.refl _).alloc _).trans hx);clear V0 V1 V2 VT hn hZ hM h2 hx k1 k2 k3 k4 hb h4;go_loopw [3] (λi wr=>∃k:Nat,k<=D.length/\i=nI k/\Hid (∀p∈D.take k,p≠noS/\validS p=true)/\Ext w3 wr) (λi _=>D.length - (intOf i).toNat)
 case atStart=>exact ⟨0,Zj _,rfl,gd (by simp),Ext.refl _⟩
 case round=>
  obtain ⟨k,hk,rfl,K,hw⟩:=hrel;obtain ⟨h8,hG⟩:=ho.out wr hw;by_cases X:k<D.length
  ·obtain ⟨ad,c1,e1,hc⟩:=(hQ.out.ext (V.out.trans hw)).at X;injection e1 with e1 e1' e1'';subst e1;clear e1' e1'';have hA:D[k]∈D:=ZL X;have H:=Znl X K.out;have HV:=gd (Xr D[k] wr (by have:=HS.out _ hA;omega));have Y:(D[k]=noS\/validS D[k]=false)->R=22:=λh=>(by rw[<-HR.out,ZlD hA h];rfl);obtain ⟨p,hY⟩:∃p,D[k]=p:=⟨_,rfl⟩;rw[hY] at hc H HV Y;have hV:(0:Int)<=(k:Int):=om;have gc:(k:Int)<(D.length:Int):=om;clear hY hA;by_cases he:p=noS
   ·have hR:=Y (Or.inl he);subst hR;have ga:p.toList.isEmpty=true:=(by rw[he,Jp];rfl);clear he H Y HV;go_wp2;go_ret;exact ⟨rfl,V.out.trans hw⟩
   ·have ga:=VW he;cases hv:validS p with
    |false=>
     have hR:=Y (Or.inr hv);subst hR;rw[hv] at HV;clear he H Y hv
     go_wp2_with (first|(go_at_call 76;refine Za (HV.out) ?_;rintro e w6 ⟨rfl,hL⟩))
     go_ret;exact ⟨rfl,(V.out.trans hw).trans hL⟩
    |true=>
     have hD:=gd (H ⟨he,hv⟩);rw[hv] at HV;clear he H Y hv
     go_wp2_with (first|(go_at_call 76;refine Za (HV.out) ?_;rintro e w6 ⟨rfl,hL⟩))
     go_roundw
     case rel=>exact ⟨k+1,X,by go_num,hD,hw.trans hL⟩
     case measure=>simp[intOf];omega
  ·have hJ:k=D.length:=om;subst hJ;rw[ZQ (Zc _)] at K;have ha:=Znm K.out;have hT:(if okL okE ordE A=true then 0 else 22)=R:=(by rw[<-HR.out,ha,XL]);have hP:=gd hT;clear ha hT HR K hQ HS;obtain ⟨wA,gh⟩:∃wA:Wq,wA=wr:=⟨_,rfl⟩;subst gh;go_wp2;clear h8 hG;go_loopw [4] (λi wr=>∃k:Nat,k<=A.length/\i=nI k/\Hid (∀j,j<k->okAt okE ordE A j=true)/\Ext w3 wr) (λi _=>A.length - (intOf i).toNat)
   case atStart=>exact ⟨0,Zj _,rfl,gd (λj h=>by omega),hw⟩
   case round=>
    obtain ⟨k,hk,rfl,K,hi⟩:=hrel;obtain ⟨_,hG⟩:=ho.out wr hi;by_cases X:k<A.length
    ·have hX:REnts wr (.slice xB A.length xd) A:=hF.out.ext (V.out.trans hi);obtain ⟨ad,c1,e1,Z⟩:=hX.at X;injection e1 with e1 e1' e1'';subst e1;clear e1' e1'' hX;have hg:=gd (Ui (ok:=okE) (O:=ordE) X);have hB:=h7.out _ (ZL X);have hy:Hid (okAt okE ordE A k=false->R=22):=gd λh=>(by rw[<-hP.out,ZlC X h];rfl);obtain ⟨E,hE,Z,hB⟩:∃E,A[k]=E/\AtEnt wr (ad.add (k*5)) E/\eokS E:=⟨_,rfl,Z,hB⟩;have HE:=gd hE;have J:=gd X;have I:=gd (λw'=>Zdr E w' hB);have h6:=gd Z;have hV:(0:Int)<=(k:Int):=om;have gc:(k:Int)<(A.length:Int):=om;have B5:∀d:Aft wr,d.w.cell? ⟨w.heap.size,5,none⟩=some (.slice (some ad) A.length xd):=Aft.cell hG;clear hE hB;have A0:∀d:Aft wr,d.w.cell? (ad.add (k*5))=some (.string E.id):=Aft.cell Z.c0;have A1:∀d:Aft wr,d.w.cell? ⟨(ad.add (k*5)).block,(ad.add (k*5)).off+1,none⟩=some (.string E.title):=Aft.cell Z.c1;have A2:∀d:Aft wr,d.w.cell? ⟨(ad.add (k*5)).block,(ad.add (k*5)).off+2,none⟩=some (.string E.link):=Aft.cell Z.c2;have A3:∀d:Aft wr,d.w.cell? ⟨(ad.add (k*5)).block,(ad.add (k*5)).off+3,none⟩=some (.string E.content):=Aft.cell Z.c3;have A4:∀d:Aft wr,d.w.cell? ⟨(ad.add (k*5)).block,(ad.add (k*5)).off+4,none⟩=some (nI E.upd):=Aft.cell Z.c4;clear Z;cases ha:okE E with
     |false=>
      have hR:=hy.out (by
       rw[Yv];intro h;have h1:=((hg.out).1 h).1;rw[HE.out,ha] at h1;cases h1)
      subst hR;rw[ha] at I;clear ha;unfold eCells at I;simp only[YR,U4] at I;go_wp2;refine rA ?_
      repeat (first|go_big_quiet_step ((first|(go_at_call 78;with_reducible exact ZE (I.out _))))|quiet_step ((first|(go_at_call 78;with_reducible exact ZE (I.out _)))))
      refine Z9 ?_;rintro _ ⟨d1,rfl⟩;go_wp2;go_ret;exact ⟨rfl,V.out.trans (hi.trans d1.ext)⟩
     |true=>
      have hO:=gd ha;rw[ha] at I;clear ha;unfold eCells at I;simp only[Us] at I;rcases YL k with h0|hW
      ·subst h0;have hl:Hid (∀h:0<0,ordE.lt (A[0 - 1]'(by have:=J.out;omega)) (A[0]'J.out)=true):=gd (λh=>by omega);simp only[add_zero,Xj] at A0 A1 A2 A3 A4;go_wp2;refine rA ?_
       repeat (first|go_big_quiet_step ((first|(go_at_call 78;with_reducible exact ZE (I.out _))))|quiet_step ((first|(go_at_call 78;with_reducible exact ZE (I.out _)))))
       refine Z9 ?_;rintro _ ⟨d1,rfl⟩;have hm:=hi.trans d1.ext;go_wp2;go_loopw [5] (λi wr=>∃j:Nat,j<=0/\i=nI j/\Hid (∀t (h:t<A.length),t<j->A[t].id≠E.id)/\Ext d1.w wr) (λi _=>0 - (intOf i).toNat)
       case atStart=>exact ⟨0,Zj _,rfl,gd (λt _ h=>by omega),Ext.refl _⟩
       case round=>
        obtain ⟨j,hj,rfl,hz,hd⟩:=hrel;obtain ⟨_,hS⟩:=ho.out wr (hm.trans hd);have hs:=J.out;by_cases hI:j<0
        ·exact absurd hI (Nat.not_lt_zero _)
        ·have hH:j=0:=om;subst hH;have S:okAt okE ordE A 0=true:=(by refine (hg.out).2 ⟨by rw[HE.out];exact hO.out,hl.out,λt ht=> ?_⟩;rw[HE.out];exact hz.out t om ht);have HG:=gd S;clear S hs;go_wp2;go_roundw
         case rel=>exact ⟨0+1,J.out,by go_num,gd (λt ht=>by
          by_cases e:t=0
          ·rw[e];exact HG.out
          ·exact K.out t om),hm.trans hd⟩
         case measure=>simp[intOf];have:=J.out;omega
      ·obtain ⟨q,hq⟩:∃q,k=q+1:=⟨k - 1,om⟩;have gg:q<A.length:=(by have:=J.out;omega);have hX:REnts wr (.slice (some ad) A.length xd) A:=hF.out.ext (V.out.trans hi);obtain ⟨af,c3,e3,hh⟩:=hX.at gg;injection e3 with e3 e3' e3'';injection e3 with e3;subst e3;clear e3' e3'' hX;have U:ordE.lt A[q] E=decide (entCmp A[q] E<0):=rfl;have hu:Hid (A[k - 1]'(X5 (Jz _ _) J.out)=A[q]):=gd (by subst hq;rfl);have hf:=gd (λw'=>ZhD A[q] E w');obtain ⟨F,hh,U,hu,hf⟩:∃F,AtEnt wr (ad.add (q*5)) F/\(ordE.lt F E=decide (entCmp F E<0))/\Hid (A[k - 1]'(X5 (Jz _ _) J.out)=F)/\Hid (∀w',Calls prog 79 #[.agg (eCells F).toArray,.agg (eCells E).toArray] w' λe gj=>e= .returned (nI (entCmp F E))/\Ext w' gj):=⟨_,hh,U,hu,hf⟩;have C0:∀d:Aft wr,d.w.cell? (ad.add (q*5))=some (.string F.id):=Aft.cell hh.c0;have C1:∀d:Aft wr,d.w.cell? ⟨(ad.add (q*5)).block,(ad.add (q*5)).off+1,none⟩=some (.string F.title):=Aft.cell hh.c1;have C2:∀d:Aft wr,d.w.cell? ⟨(ad.add (q*5)).block,(ad.add (q*5)).off+2,none⟩=some (.string F.link):=Aft.cell hh.c2;have C3:∀d:Aft wr,d.w.cell? ⟨(ad.add (q*5)).block,(ad.add (q*5)).off+3,none⟩=some (.string F.content):=Aft.cell hh.c3;have C4:∀d:Aft wr,d.w.cell? ⟨(ad.add (q*5)).block,(ad.add (q*5)).off+4,none⟩=some (nI F.upd):=Aft.cell hh.c4;clear hh;obtain ⟨c,hc⟩:∃c,entCmp F E=c:=⟨_,rfl⟩;rw[hc] at U hf;have gn:(0:Int)<(k:Int):=om;have gp:wrap64 ((k:Int) - 1)=(q:Int):=(by rw[Q6 _ ⟨om,om⟩];omega);have go:(k:Int) - 1=(q:Int):=om;have gr:(0:Int)<=(q:Int):=om;have gs:(q:Int)<(A.length:Int):=om;unfold eCells at hf;by_cases hC:c<0
       ·have hl:Hid (∀h:0<k,ordE.lt (A[k - 1]'(X5 (Jz _ _) J.out)) (A[k]'J.out)=true):=gd (λh=>by rw[hu.out,HE.out,U];exact YG hC);have gb:¬(0:Int)<=c:=om;clear U hc hq hu;go_wp2;refine rA ?_
        repeat (first|go_big_quiet_step ((first|(go_at_call 78;with_reducible exact ZE (I.out _))|(go_at_call 79;with_reducible exact ZE (hf.out _))))|quiet_step ((first|(go_at_call 78;with_reducible exact ZE (I.out _))|(go_at_call 79;with_reducible exact ZE (hf.out _)))))
        refine Z9 ?_;rintro _ ⟨d1,rfl⟩;have hm:=hi.trans d1.ext;go_wp2;go_loopw [5] (λi wr=>∃j:Nat,j<=k/\i=nI j/\Hid (∀t (h:t<A.length),t<j->A[t].id≠E.id)/\Ext d1.w wr) (λi _=>k - (intOf i).toNat)
        case atStart=>exact ⟨0,Zj _,rfl,gd (λt _ h=>by omega),Ext.refl _⟩
        case round=>
         obtain ⟨j,hj,rfl,hz,hd⟩:=hrel;obtain ⟨_,hS⟩:=ho.out wr (hm.trans hd);have hs:=J.out;by_cases hI:j<k
         ·have ge:j<A.length:=om;have hX:REnts wr (.slice (some ad) A.length xd) A:=hF.out.ext (V.out.trans (hm.trans hd));obtain ⟨ae,c2,e2,hU⟩:=hX.at ge;injection e2 with e2 e2' e2'';injection e2 with e2;subst e2;clear e2' e2'' hX;have H:A[j].id≠E.id->∀t (h:t<A.length),t<j+1->A[t].id≠E.id:=λgf t h ht=>by
           by_cases e:t=j
           ·subst e;exact gf
           ·exact hz.out t h om
          have Q:A[j].id=E.id->R=22:=λe=>(by refine hy.out ?_;rw[Yv];intro h;exact ((hg.out).1 h).2.2 j hI (by rw[HE.out];exact e));have q0:=hU.c0;have p0:=(h6.out.ext (d1.ext.trans hd)).c0;obtain ⟨y,gi⟩:∃y,A[j].id=y:=⟨_,rfl⟩;rw[gi] at H Q q0;obtain ⟨z,hN⟩:∃z,E.id=z:=⟨_,rfl⟩;simp only[hN] at H Q p0 hz|-;have HZ:=gd hN;clear hN hU;have B5:∀d:Aft wr,d.w.cell? ⟨w.heap.size,5,none⟩=some (.slice (some ad) A.length xd):=Aft.cell hS;have Q0:∀d:Aft wr,d.w.cell? (ad.add (j*5))=some (.string y):=Aft.cell q0;have P0:∀d:Aft wr,d.w.cell? (ad.add (k*5))=some (.string z):=Aft.cell p0;have j0:(0:Int)<=(j:Int):=om;have j1:(j:Int)<(A.length:Int):=om;have j2:(j:Int)<(k:Int):=om;clear q0 p0 hs;cases hyz:(y.toList==z.toList) with
          |true=>
           have hR:=Q (toList_inj (by simpa using hyz));subst hR;clear Q H;go_wp2;refine rA ?_
           repeat (first|go_big_quiet_step (fail)|quiet_step (fail))
           refine Z9 ?_;rintro _ ⟨d2,rfl⟩;go_wp2;go_ret;exact ⟨rfl,V.out.trans ((hm.trans hd).trans d2.ext)⟩
          |false=>
           have hD:=gd (H (λe=>by rw[e] at hyz;simp at hyz));clear Q H;go_wp2;refine rA ?_
           repeat (first|go_big_quiet_step (fail)|quiet_step (fail))
           refine Z9 ?_;rintro _ ⟨d2,rfl⟩;go_wp2;go_roundw
           case rel=>exact ⟨j+1,om,by go_num,hD,hd.trans d2.ext⟩
           case measure=>simp[intOf];omega
         ·have hH:j=k:=om;subst hH;have S:okAt okE ordE A j=true:=(by refine (hg.out).2 ⟨by rw[HE.out];exact hO.out,hl.out,λt ht=> ?_⟩;rw[HE.out];exact hz.out t om ht);have HG:=gd S;clear S hs;go_wp2;go_roundw
          case rel=>exact ⟨j+1,J.out,by go_num,gd (λt ht=>by
           by_cases e:t=j
           ·rw[e];exact HG.out
           ·exact K.out t om),hm.trans hd⟩
          case measure=>simp[intOf];have:=J.out;omega
       ·have hR:=hy.out (by
         rw[Yv];intro h;have h1:=((hg.out).1 h).2.1 hW;rw[hu.out,HE.out,U] at h1;exact hC (YK h1))
        subst hR;have gb:(0:Int)<=c:=om;clear U hc hq hu;go_wp2;refine rA ?_
        repeat (first|go_big_quiet_step ((first|(go_at_call 78;with_reducible exact ZE (I.out _))|(go_at_call 79;with_reducible exact ZE (hf.out _))))|quiet_step ((first|(go_at_call 78;with_reducible exact ZE (I.out _))|(go_at_call 79;with_reducible exact ZE (hf.out _)))))
        refine Z9 ?_;rintro _ ⟨d1,rfl⟩;go_wp2;go_ret;exact ⟨rfl,V.out.trans (hi.trans d1.ext)⟩
    ·have hJ:k=A.length:=om;subst hJ;have h9:R=0:=(by rw[<-hP.out,Znk K.out];rfl);subst h9;go_wp2;go_ret;exact ⟨rfl,V.out.trans hi⟩
theorem Zds (x:Fc) (w:Wq) (I:RdC w x) (H:fokS x.f):
 Calls prog 40 #[.agg (cellsC x).toArray] w λe w'=>e= .returned (nI (if okF x.f=true then 0 else 22))/\Ext w w':=by
 have R:okF x.f=(okH x.f && okL okE ordE x.f.ents):=rfl;by_cases A:x.f.path.length<=64
 case neg=>rw[Ze (by rw[R];unfold okH;simp[A])];exact ZhB x w I H A
 have Q:∀s,validS s=false->s∈ [x.f.id,x.f.title,x.f.link]->okF x.f=false:=λs h D=>by rw[Yv];intro F;have:=(Jf.1 (XW.1 F).1).2.1 s (by unfold strsF;simp only[Zs];exact Or.inr D);rw[h] at this;cases this
 cases v0:validS x.f.id with
 |false=>rw[Ze (by rw[Q _ v0 (by simp)];simp)];exact Uj x w I H A (Or.inl v0)
 |true=>
 cases v1:validS x.f.title with
 |false=>rw[Ze (by rw[Q _ v1 (by simp)];simp)];exact Uj x w I H A (Or.inr ⟨v0,Or.inl v1⟩)
 |true=>
 cases v2:validS x.f.link with
 |false=>rw[Ze (by rw[Q _ v2 (by simp)];simp)];exact Uj x w I H A (Or.inr ⟨v0,Or.inr ⟨v1,Or.inl v2⟩⟩)
 |true=>
 by_cases K:x.f.id=noS
 ·rw[Ze (λF=>(Jf.1 (XW.1 F).1).2.2.1 K)];exact Uj x w I H A (Or.inr ⟨v0,Or.inr ⟨v1,Or.inr ⟨v2,Or.inl (by rw[K,Jp];rfl)⟩⟩⟩)
 cases h5:inT x.f.upd with
 |false=>rw[Ze (λF=>by have:=(Jf.1 (XW.1 F).1).2.2.2.1;rw[h5] at this;cases this)];exact Uj x w I H A (Or.inr ⟨v0,Or.inr ⟨v1,Or.inr ⟨v2,Or.inr ⟨VW K,h5⟩⟩⟩⟩)
 |true=>
  have e:(okF x.f=true)=((okP x.f.path && okL okE ordE x.f.ents)=true):=by
   rw[R];have:okH x.f=okP x.f.path:=by
    rw[Y2,Jf];unfold okP;rw[Z6];constructor
    ·rintro ⟨_,a,_,_,b⟩ p J;simp[b p J,a p (by unfold strsF;simp[J])]
    ·intro h;have F:∀p∈x.f.path,p≠noS/\validS p=true:=λp J=>(by have:=h p J;simpa using this);refine ⟨A,λs D=> ?_,K,h5,λp J=>(F p J).1⟩;unfold strsF at D;rcases Zs.1 D with D|D
     ·exact (F s D).2
     ·simp only[ZH,ZY,Y1] at D;rcases D with rfl|rfl|rfl<;>assumption
   rw[this]
  rw[show (if okF x.f=true then (0:Int) else 22)=(if (okP x.f.path && okL okE ordE x.f.ents)=true then 0 else 22) by simp only[e]];exact ZhC x w I H A v0 v1 v2 (VW K) h5
end
section
variable {k:Nat}
theorem Zjg {l:List Fd} (D:k<l.length) (h:okAt okF ordF l k=false):okL okF ordF l=false:=by
 rw[Yv];intro A;have:=Z6.1 A k (Ub.2 D);rw[h] at this;cases this
theorem ZlB {l:List Fd} (h:∀k,k<l.length->okAt okF ordF l k=true):okL okF ordF l=true:=
 Z6.2 λk A=>h k (Ub.1 A)
theorem Zdq (v:Value) (l:List Fc) (w:Wq) (hr:RFcs w v l) (hY:∀x∈l,RdC w x) (hk:∀x∈l,fokS x.f) (hn:l.length<=1000000):
 Calls prog 16 #[.agg #[v]] w λe w'=>e= .returned (nI (if okA (l.map Fc.f)=true then 0 else 22))/\Ext w w':=by
 obtain ⟨xB,xd,rfl, -, -⟩:=hr.form;obtain ⟨R,hR⟩:∃R:Int,(if okA (l.map Fc.f)=true then 0 else 22)=R:=⟨_,rfl⟩;rw[hR];have hC:=gd hR;have hD:=gd hr;have hQ:=gd hY;have hO:=gd hk;obtain ⟨L,hL⟩:∃L,l.map Fc.f=L:=⟨_,rfl⟩;have hU:L.length=l.length:=by rw[<-hL,Zq]
 have hp:=gd hU;have hA:Hid (∀(j:Nat) (h:j<l.length),L[j]'(by rw[hU];exact h)=l[j].f):=gd λj h=>by subst hL;rw[Xn]
 rw[hL] at hC;have hG:Hid (∀wr:Wq,Ext (w.alloc (.cells #[.slice xB l.length xd] 31)) wr->wr.cell? ⟨w.heap.size,0,none⟩=some (.slice xB l.length xd)):=gd λwr h=>h.boxed 0 _ rfl;have J:Hid (Ext w (w.alloc (.cells #[.slice xB l.length xd] 31))):=gd ((Ext.refl _).alloc _);clear hr hY hk hR hL;go_enter func16,ntmps16;go_wp2;obtain ⟨w3,hZ⟩:∃w3,w.alloc (.cells #[.slice xB l.length xd] 31)=w3:=⟨_,rfl⟩;rw[hZ] at hG J|-;have hh:=hG;clear hZ hG;go_loopw [3] (λi wr=>∃k:Nat,k<=l.length/\i=nI k/\Hid (∀j,j<k->okAt okF ordF L j=true)/\Ext w3 wr) (λi _=>l.length - (intOf i).toNat)
 case atStart=>exact ⟨0,Zj _,rfl,gd (λj h=>by omega),Ext.refl _⟩
 case round=>
  obtain ⟨k,hk,rfl,hl,K⟩:=hrel;have h5:=hh.out wr K;by_cases hd:k<l.length
  ·have hX:=hD.out.ext (J.out.trans K);obtain ⟨ad,c1,e1,hx⟩:=hX.at hd;injection e1 with e1 e1' e1'';subst e1;clear e1' e1'' hX;have hm:k<L.length:=(by rw[hp.out];exact hd);have V:=gd (Ui (ok:=okF) (O:=ordF) hm);have hu:=hO.out _ (ZL hd);have hb:=(hQ.out _ (ZL hd)).ext (J.out.trans K);have he:Hid (okAt okF ordF L k=false->R=22):=gd λh=>(by rw[<-hC.out];unfold okA;rw[Zjg hm h];rfl);have hs:=hA.out k hd;obtain ⟨E,hE,hx,hu,hb,hs⟩:∃E,l[k]=E/\AtFc wr (ad.add (k*6)) E/\fokS E.f/\RdC wr E/\L[k]=E.f:=⟨_,rfl,hx,hu,hb,hs⟩;have HE:=gd hs;have ha:=gd hd;have X:=gd hm;have A:=gd (λz:Aft wr=>Zds E z.w (hb.ext z.ext) hu);have h2:=gd hb;have h3:=gd hb.sl;have hN:=gd hx;have ge:(0:Int)<=(k:Int):=om;have gf:(k:Int)<(l.length:Int):=om;have B5:∀z:Aft wr,z.w.cell? ⟨w.heap.size,0,none⟩=some (.slice (some ad) l.length xd):=Aft.cell h5;clear hE hu hs hb;obtain ⟨EP,EE,EF⟩:=E;obtain ⟨⟨EA,EN,EC,hi⟩,⟨EB,EM,ED,S⟩⟩:=h3.out;dsimp only at hi S;subst hi S;obtain ⟨k0,k1,k2,k3,k4,k5⟩:=hx;dsimp only at k0 k1 k2 k3 k4 k5;have A0:=λz:Aft wr=>Aft.cell k0 z;have A1:=λz:Aft wr=>Aft.cell k1 z;have A2:=λz:Aft wr=>Aft.cell k2 z;have A3:=λz:Aft wr=>Aft.cell k3 z;have A4:=λz:Aft wr=>Aft.cell k4 z;have A5:=λz:Aft wr=>Aft.cell k5 z;clear k0 k1 k2 k3 k4 k5;unfold cellsC fCells at A;dsimp only at A HE hN;cases hok:okF EF with
   |false=>
    have hR:=he.out (by
     rw[Yv];intro h;have h1:=((V.out).1 h).1;rw[HE.out,hok] at h1;cases h1)
    subst hR;rw[hok] at A;clear hok;simp only[YR,U4] at A;go_wp2;refine rA ?_
    repeat (first|go_big_quiet_step ((first|(go_at_call 40;with_reducible exact ZE (A.out _))))|quiet_step ((first|(go_at_call 40;with_reducible exact ZE (A.out _)))))
    refine Z9 ?_;rintro _ ⟨d1,rfl⟩;go_wp2;go_ret;exact ⟨rfl,J.out.trans (K.trans d1.ext)⟩
   |true=>
    have hP:=gd hok;rw[hok] at A;clear hok;simp only[Us] at A;rcases YL k with h0|hW
    ·subst h0;simp only[add_zero,Xj] at A0 A1 A2 A3 A4 A5;go_wp2;refine rA ?_
     repeat (first|go_big_quiet_step ((first|(go_at_call 40;with_reducible exact ZE (A.out _))))|quiet_step ((first|(go_at_call 40;with_reducible exact ZE (A.out _)))))
     refine Z9 ?_;rintro _ ⟨d1,rfl⟩;have Z:=K.trans d1.ext;go_wp2;go_loopw [4] (λi wr=>∃j:Nat,j<=0/\i=nI j/\Ext d1.w wr) (λi _=>0 - (intOf i).toNat)
     case atStart=>exact ⟨0,Zj _,rfl,Ext.refl _⟩
     case round=>
      obtain ⟨j,hj,rfl,U⟩:=hrel;have hS:=hh.out wr (Z.trans U);by_cases hI:j<0
      ·exact absurd hI (Nat.not_lt_zero _)
      ·have hH:j=0:=om;subst hH;have I:okAt okF ordF L 0=true:=(V.out).2 ⟨by rw[HE.out];exact hP.out,λh=>absurd h (Nat.lt_irrefl _),λt ht=>absurd ht (Nat.not_lt_zero _)⟩;have HG:=gd I;clear I;go_wp2;go_roundw
       case rel=>exact ⟨0+1,ha.out,by go_num,gd (λt ht=>by
        by_cases e:t=0
        ·rw[e];exact HG.out
        ·exact hl.out t om),Z.trans U⟩
       case measure=>simp[intOf];have:=ha.out;omega
    ·obtain ⟨q,hq⟩:∃q,k=q+1:=⟨k - 1,om⟩;have ho:q<l.length:=(by have:=ha.out;omega);have gl:q<L.length:=(by rw[hp.out];exact ho);have hX:RFcs wr (.slice (some ad) l.length xd) l:=hD.out.ext (J.out.trans K);obtain ⟨af,c3,e3,hF⟩:=hX.at ho;injection e3 with e3 e3' e3'';injection e3 with e3;subst e3;clear e3' e3'' hX;have hg:=(hQ.out _ (ZL ho)).ext (J.out.trans K);have hw:=hO.out _ (ZL ho);have hv:∀h:k - 1<L.length,L[k - 1]=l[q].f:=λh=>(by subst hq;exact hA.out q ho);obtain ⟨F,hF,hg,hw,hv⟩:∃F:Fc,AtFc wr (ad.add (q*6)) F/\RdC wr F/\fokS F.f/\(∀h:k - 1<L.length,L[k - 1]=F.f):=⟨_,hF,hg,hw,hv⟩;have hf:=gd hv;have Q:ordF.lt F.f EF=decide (feedCmp F.f EF<0):=rfl;have S:=h2.out.1;dsimp only at S;have Y:=gd (λz:Aft wr=>ZhE F.p (.slice EA EN EC) F.es (.slice EB EM ED) F.f EF z.w (hg.1.ext z.ext) (S.ext z.ext) (by have:=hw.1.2;omega));have gb:=hg.sl;obtain ⟨c,hc⟩:∃c,feedCmp F.f EF=c:=⟨_,rfl⟩;rw[hc] at Q;simp only[hc] at Y;clear hg hw hv hc S;obtain ⟨FP,FE,FF⟩:=F;obtain ⟨⟨FA,FN,FC,hi⟩,⟨FB,FM,FD,S⟩⟩:=gb;dsimp only at hi S;subst hi S;obtain ⟨k0,k1,k2,k3,k4,k5⟩:=hF;dsimp only at k0 k1 k2 k3 k4 k5 Y Q hf;have C0:=λz:Aft wr=>Aft.cell k0 z;have C1:=λz:Aft wr=>Aft.cell k1 z;have C2:=λz:Aft wr=>Aft.cell k2 z;have C3:=λz:Aft wr=>Aft.cell k3 z;have C4:=λz:Aft wr=>Aft.cell k4 z;have C5:=λz:Aft wr=>Aft.cell k5 z;clear k0 k1 k2 k3 k4 k5;have gg:(0:Int)<(k:Int):=om;have gi:wrap64 ((k:Int) - 1)=(q:Int):=(by rw[Q6 _ ⟨om,om⟩];omega);have gh:(k:Int) - 1=(q:Int):=om;have gj:(0:Int)<=(q:Int):=om;have gk:(q:Int)<(l.length:Int):=om;unfold fCells at Y;by_cases hz:c<0
     ·have hB:Hid (∀h:0<k,ordF.lt (L[k - 1]'(X5 (Jz _ _) X.out)) (L[k]'X.out)=true):=gd (λh=>by rw[hf.out (X5 (Jz _ _) X.out),HE.out,Q];exact YG hz);have h7:¬(0:Int)<=c:=om;clear Q hq hf;go_wp2;refine rA ?_
      repeat (first|go_big_quiet_step ((first|(go_at_call 40;with_reducible exact ZE (A.out _))|(go_at_call 41;with_reducible exact ZE (Y.out _))))|quiet_step ((first|(go_at_call 40;with_reducible exact ZE (A.out _))|(go_at_call 41;with_reducible exact ZE (Y.out _)))))
      refine Z9 ?_;rintro _ ⟨d1,rfl⟩;have Z:=K.trans d1.ext;go_wp2;go_loopw [4] (λi wr=>∃j:Nat,j<=k/\i=nI j/\Hid (∀t (h:t<L.length),t<j->L[t].id≠EF.id)/\Ext d1.w wr) (λi _=>k - (intOf i).toNat)
      case atStart=>exact ⟨0,Zj _,rfl,gd (λt _ h=>by omega),Ext.refl _⟩
      case round=>
       obtain ⟨j,hj,rfl,hK,U⟩:=hrel;have hS:=hh.out wr (Z.trans U);have hy:=ha.out;by_cases hI:j<k
       ·have hJ:j<l.length:=om;have h8:j<L.length:=(by rw[hp.out];exact hJ);have hX:RFcs wr (.slice (some ad) l.length xd) l:=hD.out.ext (J.out.trans (Z.trans U));obtain ⟨ae,c2,e2,hV⟩:=hX.at hJ;injection e2 with e2 e2' e2'';injection e2 with e2;subst e2;clear e2' e2'' hX;have hT:=hA.out j hJ;have H:L[j].id≠EF.id->∀t (h:t<L.length),t<j+1->L[t].id≠EF.id:=λga t h ht=>by
         by_cases e:t=j
         ·subst e;exact ga
         ·exact hK.out t h om
        have D:L[j].id=EF.id->R=22:=λe=>(by refine he.out ?_;rw[Yv];intro h;exact ((V.out).1 h).2.2 j hI (by rw[HE.out];exact e));rw[hT] at H D;have q0:=hV.c1;have p0:=(hN.out.ext (d1.ext.trans U)).c1;dsimp only at p0;obtain ⟨y,gc⟩:∃y,l[j].f.id=y:=⟨_,rfl⟩;rw[gc] at H D q0;obtain ⟨z,hM⟩:∃z,EF.id=z:=⟨_,rfl⟩;simp only[hM] at H D p0 hK|-;have HZ:=gd hM;clear hM hV hT h8;have B5:∀z:Aft wr,z.w.cell? ⟨w.heap.size,0,none⟩=some (.slice (some ad) l.length xd):=Aft.cell hS;have Q0:∀z:Aft wr,z.w.cell? ⟨(ad.add (j*6)).block,(ad.add (j*6)).off+1,none⟩=some (.string y):=Aft.cell q0;have P0:∀u:Aft wr,u.w.cell? ⟨(ad.add (k*6)).block,(ad.add (k*6)).off+1,none⟩=some (.string z):=Aft.cell p0;have j0:(0:Int)<=(j:Int):=om;have j1:(j:Int)<(l.length:Int):=om;have j2:(j:Int)<(k:Int):=om;clear q0 p0 hy;cases hyz:(y.toList==z.toList) with
        |true=>
         have hR:=D (toList_inj (by simpa using hyz));subst hR;clear D H;go_wp2;refine rA ?_
         repeat (first|go_big_quiet_step (fail)|quiet_step (fail))
         refine Z9 ?_;rintro _ ⟨d2,rfl⟩;go_wp2;go_ret;exact ⟨rfl,J.out.trans ((Z.trans U).trans d2.ext)⟩
        |false=>
         have h4:=gd (H (λe=>by rw[e] at hyz;simp at hyz));clear D H;go_wp2;refine rA ?_
         repeat (first|go_big_quiet_step (fail)|quiet_step (fail))
         refine Z9 ?_;rintro _ ⟨d2,rfl⟩;go_wp2;go_roundw
         case rel=>exact ⟨j+1,om,by go_num,h4,U.trans d2.ext⟩
         case measure=>simp[intOf];omega
       ·have hH:j=k:=om;subst hH;have I:okAt okF ordF L j=true:=(by refine (V.out).2 ⟨by rw[HE.out];exact hP.out,hB.out,λt ht=> ?_⟩;rw[HE.out];exact hK.out t (by have:=X.out;omega) ht);have HG:=gd I;clear I hy;go_wp2;go_roundw
        case rel=>exact ⟨j+1,ha.out,by go_num,gd (λt ht=>by
         by_cases e:t=j
         ·rw[e];exact HG.out
         ·exact hl.out t om),Z.trans U⟩
        case measure=>simp[intOf];have:=ha.out;omega
     ·have hR:=he.out (by
       rw[Yv];intro h;have h1:=((V.out).1 h).2.1 hW;rw[hf.out (X5 (Jz _ _) X.out),HE.out,Q] at h1;exact hz (YK h1))
      subst hR;have h7:(0:Int)<=c:=om;clear Q hq hf;go_wp2;refine rA ?_
      repeat (first|go_big_quiet_step ((first|(go_at_call 40;with_reducible exact ZE (A.out _))|(go_at_call 41;with_reducible exact ZE (Y.out _))))|quiet_step ((first|(go_at_call 40;with_reducible exact ZE (A.out _))|(go_at_call 41;with_reducible exact ZE (Y.out _)))))
      refine Z9 ?_;rintro _ ⟨d1,rfl⟩;go_wp2;go_ret;exact ⟨rfl,J.out.trans (K.trans d1.ext)⟩
  ·have h9:k=l.length:=om;subst h9;have h6:R=0:=(by rw[<-hC.out];unfold okA;rw[ZlB (λj hj=>hl.out j (by rw[<-hp.out];exact hj))];rfl);subst h6;go_wp2;go_ret;exact ⟨rfl,J.out.trans K⟩
end
end Go.Proofs.YtnlafkgkcnenfaaGreatDoor
