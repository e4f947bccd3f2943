/- Parts of the proof: contracts and plain laws. -/
import Derived.Test.YtmfinhgobjbecaaGreatDoorA17
namespace Go.Proofs.YtmfinhgobjbecaaGreatDoor
open Go Go.RowKit _root_.Go.Proofs.Tryz
set_option linter.unusedVariables false
set_option linter.unusedSimpArgs false
set_option maxRecDepth 100000
set_option maxHeartbeats 16000000
theorem ZiC (v:Value) (x:ByteArray) (l:List ByteArray) (w:Wq) (h:RStrs w v l) (hn:l.length<=16777216):
 Calls prog 115 #[v,.string x] w λe w'=>(∃i:Int,e= .returned (nI i)/\(((l.any λs=>decide (s=x))=true/\0<=i)\/((l.any λs=>decide (s=x))=false/\i<0)))/\w=w':=by
 obtain ⟨A,c,rfl, -, -⟩:=h.form;obtain ⟨R,V⟩:∃R,(l.any λs=>decide (s=x))=R:=⟨_,rfl⟩;rw[V];have HR:=gd V;have HH:=gd h;clear V h;go_enter func115,ntmps115;go_wp2;go_loopw [8] (λi wr=>∃k:Nat,k<=l.length/\i=nI k/\Hid (∀s∈l.take k,s≠x)/\w=wr) (λi _=>l.length - (intOf i).toNat)
 case atStart=>exact ⟨0,ZqO _,rfl,gd (by simp),rfl⟩
 case round=>
  obtain ⟨k,hk,rfl,F,rfl⟩:=hrel;by_cases D:k<l.length
  ·obtain ⟨ad,c1,e1,hc⟩:=(HH.out).at D;injection e1 with e1 e1' e1'';subst e1;clear e1' e1'';have H:l[k]∈l:=Zq2 D;have J:=ZqQ D;have C:l[k]=x->R=true:=λh=>(by rw[<-HR.out,Zsc];exact ⟨_,H,by simpa using h⟩);obtain ⟨p,Q⟩:∃p,l[k]=p:=⟨_,rfl⟩;rw[Q] at hc J C;have U:=gd J;have O:(0:Int)<=(k:Int):=om;have hb:(k:Int)<(l.length:Int):=om;clear Q H J;cases hyz:(x.toList==p.toList) with
   |true=>have Y:=C (toList_inj (by simpa using hyz)).symm;subst Y;clear C;go_wp2;go_ret;exact ⟨⟨_,rfl,O⟩,rfl⟩
   |false=>
    have S:=gd (show p≠x from λe=>by rw[e] at hyz;simp at hyz);clear C;go_wp2;go_roundw
    case rel=>exact ⟨k+1,D,by go_num,gd (λs I=>by
     rw[U.out] at I;rcases Zq0.1 I with I|I
     ·exact F.out s I
     ·rw[ZqU.1 I];exact S.out),(by first|trivial|rfl)⟩
    case measure=>simp[intOf];omega
  ·have ha:k=l.length:=om;subst ha;have Z:=F.out;rw[Zq4 (ZqE _)] at Z;have X:R=false:=(by rw[<-HR.out,List.any_eq_false];intro s I;simpa using Z s I);subst X;clear Z;go_wp2;go_ret;exact ⟨⟨_,rfl,om⟩,rfl⟩
theorem YO (v:Value) (x:ByteArray) (l:List ByteArray) (w:Wq) (h:RStrs w v l) (H:l.length<=16777216):
 Calls prog 67 #[v,.string x] w λe w'=>e= .returned (.bool (l.any λs=>decide (s=x)))/\w=w':=by
 have C:=gd (ZiC v x l w h H);obtain ⟨A,c,rfl, -, -⟩:=h.form;obtain ⟨R,D⟩:∃R,(l.any λs=>decide (s=x))=R:=⟨_,rfl⟩;simp only[D] at C|-;clear h D;go_enter func67,ntmps67
 go_wp2_with (first|(go_at_call 115;refine ZqD (C.out) ?_;rintro e I ⟨⟨i,rfl,F⟩,rfl⟩))
 go_ret;rcases F with ⟨rfl,h⟩|⟨rfl,h⟩
 ·exact ⟨by simp[h],rfl⟩
 ·exact ⟨by simp;omega,rfl⟩
theorem Zlo (x:Fc) (w:Wq) (Q:Env w) (S:RdC w x) (R:fokS x.f) (O:¬x.f.path.length<=64):
 Calls prog 37 #[.agg (cellsC x).toArray] w λe w'=>e= .returned (nI 22)/\Ext w w':=by
 obtain ⟨⟨z0,X⟩,z2,z3⟩:=R;have J:=gd (λw'=>Yv (false) w');obtain ⟨xp,U,⟨h,V,D,H,I,F⟩⟩:=x;obtain ⟨A,C⟩:=S;dsimp only at*;obtain ⟨xA,xc,rfl, -, -⟩:=A.form;obtain ⟨xB,xd,rfl, -, -⟩:=C.form;have Z:¬(h.length:Int)<=64:=om
 clear A C z0 X z2 z3 Q O;unfold cellsC fCells;dsimp only;go_enter func37,ntmps37
 go_wp2_with (first|(go_at_call 82;refine ZqD (J.out _) ?_;rintro Y w9 ⟨rfl,rfl⟩))
 all_goals go_ret
 all_goals exact ⟨rfl,(Ext.refl _).alloc _⟩
theorem Zlp (x:Fc) (w:Wq) (U:Env w) (O:RdC w x) (V:fokS x.f) (S:x.f.path.length<=64) (c0:(x.f.path.any λs=>decide (s=⟨#[]⟩))=true):
 Calls prog 37 #[.agg (cellsC x).toArray] w λe w'=>e= .returned (nI 22)/\Ext w w':=by
 obtain ⟨⟨z0,Z⟩,z2,z3⟩:=V;have C:=gd (λ(w':Wq) (h:Ext w w')=>YO x.p ⟨#[]⟩ x.f.path w' (O.1.ext h) om);rw[c0] at C;have R:=gd (λw'=>Yv (false) w');obtain ⟨xp,X,⟨A,Y,H,J,Q,I⟩⟩:=x;obtain ⟨D,F⟩:=O;dsimp only at*;obtain ⟨xA,xc,rfl, -, -⟩:=D.form;obtain ⟨xB,xd,rfl, -, -⟩:=F.form;have hb:(A.length:Int)<=64:=om
 clear D F z0 Z z2 z3 U S c0;unfold cellsC fCells;dsimp only;go_enter func37,ntmps37
 go_wp2_with (first|(go_at_call 67;refine ZqD (C.out _ ((Ext.refl w).alloc _)) ?_;rintro e3 w3 ⟨rfl,rfl⟩)|(go_at_call 82;refine ZqD (R.out _) ?_;rintro e9 w9 ⟨rfl,rfl⟩))
 all_goals go_ret
 all_goals exact ⟨rfl,(Ext.refl _).alloc _⟩
theorem Zlq (x:Fc) (w:Wq) (S:Env w) (O:RdC w x) (Y:fokS x.f) (X:x.f.path.length<=64) (c0:(x.f.path.any λs=>decide (s=⟨#[]⟩))=false) (v0:x.f.path.all validS=false):
 Calls prog 37 #[.agg (cellsC x).toArray] w λe w'=>e= .returned (nI 22)/\Ext w w':=by
 obtain ⟨⟨z0,z1⟩,z2,z3⟩:=Y;have D:=gd (λ(w':Wq) (h:Ext w w')=>YO x.p ⟨#[]⟩ x.f.path w' (O.1.ext h) om);rw[c0] at D;have F:=gd (λ(w':Wq) (h:Ext w w')=>Jj x.p x.f.path w' (S.ext h) (O.1.ext h) (λs Z=>by have:=Yd Z;omega) om);rw[v0] at F;have V:=gd (λw'=>Yv (false) w');obtain ⟨xp,ha,⟨C,hc,J,R,U,Q⟩⟩:=x;obtain ⟨H,I⟩:=O;dsimp only at*;obtain ⟨xA,xc,rfl, -, -⟩:=H.form;obtain ⟨xB,xd,rfl, -, -⟩:=I.form;have hb:(C.length:Int)<=64:=om
 clear H I z0 z1 z2 z3 S X c0 v0;unfold cellsC fCells;dsimp only;go_enter func37,ntmps37
 go_wp2_with (first|(go_at_call 67;refine ZqD (D.out _ ((Ext.refl w).alloc _)) ?_;rintro e3 w3 ⟨rfl,rfl⟩)|(go_at_call 80;refine ZqD (F.out _ ((Ext.refl w).alloc _)) ?_;rintro e4 w4 ⟨rfl,A⟩;have k1:=A.boxed 1 _ rfl;have k2:=A.boxed 2 _ rfl;have k3:=A.boxed 3 _ rfl;have k4:=A.boxed 4 _ rfl)|(go_at_call 82;refine ZqD (V.out _) ?_;rintro e9 w9 ⟨rfl,rfl⟩))
 all_goals go_ret
 all_goals exact ⟨rfl,((Ext.refl _).alloc _).trans A⟩
theorem Zlr (x:Fc) (w:Wq) (S:Env w) (O:RdC w x) (Y:fokS x.f) (X:x.f.path.length<=64) (c0:(x.f.path.any λs=>decide (s=⟨#[]⟩))=false) (v0:x.f.path.all validS=true) (i0:x.f.id.toList.isEmpty=true):
 Calls prog 37 #[.agg (cellsC x).toArray] w λe w'=>e= .returned (nI 22)/\Ext w w':=by
 obtain ⟨⟨z0,z1⟩,z2,z3⟩:=Y;have D:=gd (λ(w':Wq) (h:Ext w w')=>YO x.p ⟨#[]⟩ x.f.path w' (O.1.ext h) om);rw[c0] at D;have F:=gd (λ(w':Wq) (h:Ext w w')=>Jj x.p x.f.path w' (S.ext h) (O.1.ext h) (λs Z=>by have:=Yd Z;omega) om);rw[v0] at F;have V:=gd (λw'=>Yv (false) w');obtain ⟨xp,ha,⟨C,hc,J,R,U,Q⟩⟩:=x;obtain ⟨H,I⟩:=O;dsimp only at*;obtain ⟨xA,xc,rfl, -, -⟩:=H.form;obtain ⟨xB,xd,rfl, -, -⟩:=I.form;have hb:(C.length:Int)<=64:=om
 clear H I z0 z1 z2 z3 S X c0 v0;unfold cellsC fCells;dsimp only;go_enter func37,ntmps37
 go_wp2_with (first|(go_at_call 67;refine ZqD (D.out _ ((Ext.refl w).alloc _)) ?_;rintro e3 w3 ⟨rfl,rfl⟩)|(go_at_call 80;refine ZqD (F.out _ ((Ext.refl w).alloc _)) ?_;rintro e4 w4 ⟨rfl,A⟩;have k1:=A.boxed 1 _ rfl;have k2:=A.boxed 2 _ rfl;have k3:=A.boxed 3 _ rfl;have k4:=A.boxed 4 _ rfl)|(go_at_call 82;refine ZqD (V.out _) ?_;rintro e9 w9 ⟨rfl,rfl⟩))
 all_goals go_ret
 all_goals exact ⟨rfl,((Ext.refl _).alloc _).trans A⟩
theorem Zls (x:Fc) (w:Wq) (U:Env w) (Q:RdC w x) (Z:fokS x.f) (Y:x.f.path.length<=64) (c0:(x.f.path.any λs=>decide (s=⟨#[]⟩))=false) (v0:x.f.path.all validS=true) (i0:x.f.id.toList.isEmpty=false) (t0:inT x.f.upd=false):
 Calls prog 37 #[.agg (cellsC x).toArray] w λe w'=>e= .returned (nI 22)/\Ext w w':=by
 obtain ⟨⟨z0,z1⟩,z2,z3⟩:=Z;have D:=gd (λ(w':Wq) (h:Ext w w')=>YO x.p ⟨#[]⟩ x.f.path w' (Q.1.ext h) om);rw[c0] at D;have H:=gd (λ(w':Wq) (h:Ext w w')=>Jj x.p x.f.path w' (U.ext h) (Q.1.ext h) (λs hs=>by have:=Yd hs;omega) om);rw[v0] at H;have F:=gd (λw'=>Ue x.f.upd w');rw[t0] at F;have X:=gd (λw'=>Yv (false) w');obtain ⟨xp,ha,⟨C,hc,O,S,V,R⟩⟩:=x;obtain ⟨I,J⟩:=Q;dsimp only at*;obtain ⟨xA,xc,rfl, -, -⟩:=I.form;obtain ⟨xB,xd,rfl, -, -⟩:=J.form;have hb:(C.length:Int)<=64:=om
 clear I J z0 z1 z2 z3 U Y c0 v0 t0;unfold cellsC fCells;dsimp only;go_enter func37,ntmps37
 go_wp2_with (first|(go_at_call 67;refine ZqD (D.out _ ((Ext.refl w).alloc _)) ?_;rintro e3 w3 ⟨rfl,rfl⟩)|(go_at_call 80;refine ZqD (H.out _ ((Ext.refl w).alloc _)) ?_;rintro e4 w4 ⟨rfl,A⟩;have k1:=A.boxed 1 _ rfl;have k2:=A.boxed 2 _ rfl;have k3:=A.boxed 3 _ rfl;have k4:=A.boxed 4 _ rfl)|(go_at_call 83;refine ZqD (F.out _) ?_;rintro e5 w5 ⟨rfl,rfl⟩)|(go_at_call 82;refine ZqD (X.out _) ?_;rintro e9 w9 ⟨rfl,rfl⟩))
 all_goals go_ret
 all_goals exact ⟨rfl,((Ext.refl _).alloc _).trans A⟩
theorem Zlt (x:Fc) (w:Wq) (S:Env w) (U:RdC w x) (hk:fokS x.f) (h0:x.f.path.length<=64) (c0:(x.f.path.any λs=>decide (s=⟨#[]⟩))=false) (v0:x.f.path.all validS=true) (i0:x.f.id.toList.isEmpty=false) (t0:inT x.f.upd=true) (s0: [x.f.id,x.f.title,x.f.link].all validS=false):
 Calls prog 37 #[.agg (cellsC x).toArray] w λe w'=>e= .returned (nI 22)/\Ext w w':=by
 obtain ⟨⟨z0,z1⟩,z2,z3⟩:=hk;have H:=gd (λ(w':Wq) (h:Ext w w')=>YO x.p ⟨#[]⟩ x.f.path w' (U.1.ext h) om);rw[c0] at H;have J:=gd (λ(w':Wq) (h:Ext w w')=>Jj x.p x.f.path w' (S.ext h) (U.1.ext h) (λs hs=>by have:=Yd hs;omega) om);rw[v0] at J;have I:=gd (λw'=>Ue x.f.upd w');rw[t0] at I;have D:=gd (λ(w':Wq) (h:Ext w w')=>Jj _ [x.f.id,x.f.title,x.f.link] (w'.alloc (.cells ([x.f.id,x.f.title,x.f.link].map Value.string).toArray 9)) ((S.ext h).alloc _) (Zc5 w' [x.f.id,x.f.title,x.f.link] (by show 3<=maxLen;decide)) (λs h=>by simp only[Zq1,Zri,ZrD] at h;rcases h with rfl|rfl|rfl<;>omega) (by show 3<=16777216;decide));rw[s0] at D;simp only[Zq8,Zrz,ZqK,Zq5] at D;have HC:=gd (λw'=>Yv (false) w');obtain ⟨xp,hc,⟨F,hd,R,Y,ha,X⟩⟩:=x;obtain ⟨O,Q⟩:=U;dsimp only at*;obtain ⟨xA,xc,rfl, -, -⟩:=O.form;obtain ⟨xB,xd,rfl, -, -⟩:=Q.form;have hb:(F.length:Int)<=64:=om
 clear O Q z0 z1 z2 z3 S h0 c0 v0 t0 s0;unfold cellsC fCells;dsimp only;go_enter func37,ntmps37
 go_wp2_with (first|(go_at_call 67;refine ZqD (H.out _ ((Ext.refl w).alloc _)) ?_;rintro e3 w3 ⟨rfl,rfl⟩)|(go_at_call 80;(with_reducible refine ZqD (J.out _ ((Ext.refl w).alloc _)) ?_);rintro e4 w4 ⟨rfl,A⟩;have k1:=A.boxed 1 _ rfl;have k2:=A.boxed 2 _ rfl;have k3:=A.boxed 3 _ rfl;have k4:=A.boxed 4 _ rfl)|(go_at_call 83;refine ZqD (I.out _) ?_;rintro e5 w5 ⟨rfl,rfl⟩)|(go_at_call 80;have Z:=D.out _ (((Ext.refl w).alloc _).trans A);(with_reducible refine ZqD Z ?_);clear Z;rintro e7 w7 ⟨rfl,V⟩;have C:=A.trans (((Ext.refl _).alloc _).trans V);have k5:=C.boxed 5 _ rfl)|(go_at_call 82;refine ZqD (HC.out _) ?_;rintro e9 w9 ⟨rfl,rfl⟩))
 all_goals go_ret
 all_goals exact ⟨rfl,((Ext.refl _).alloc _).trans C⟩
theorem Zlu (x:Fc) (w:Wq) (S:Env w) (U:RdC w x) (hk:fokS x.f) (h0:x.f.path.length<=64) (c0:(x.f.path.any λs=>decide (s=⟨#[]⟩))=false) (v0:x.f.path.all validS=true) (i0:x.f.id.toList.isEmpty=false) (t0:inT x.f.upd=true) (s0: [x.f.id,x.f.title,x.f.link].all validS=true):
 Calls prog 37 #[.agg (cellsC x).toArray] w λe w'=>e= .returned (nI (if okL okE ordE x.f.ents=true then 0 else 22))/\Ext w w':=by
 obtain ⟨⟨z0,z1⟩,z2,z3⟩:=hk;have H:=gd (λ(w':Wq) (h:Ext w w')=>YO x.p ⟨#[]⟩ x.f.path w' (U.1.ext h) om);rw[c0] at H;have O:=gd (λ(w':Wq) (h:Ext w w')=>Jj x.p x.f.path w' (S.ext h) (U.1.ext h) (λs hs=>by have:=Yd hs;omega) om);rw[v0] at O;have I:=gd (λw'=>Ue x.f.upd w');rw[t0] at I;have D:=gd (λ(w':Wq) (h:Ext w w')=>Jj _ [x.f.id,x.f.title,x.f.link] (w'.alloc (.cells ([x.f.id,x.f.title,x.f.link].map Value.string).toArray 9)) ((S.ext h).alloc _) (Zc5 w' [x.f.id,x.f.title,x.f.link] (by show 3<=maxLen;decide)) (λs h=>by simp only[Zq1,Zri,ZrD] at h;rcases h with rfl|rfl|rfl<;>omega) (by show 3<=16777216;decide));rw[s0] at D;simp only[Zq8,Zrz,ZqK,Zq5] at D;have J:=gd (λ(w':Wq) (h:Ext w w')=>Zfo x.es x.f.ents w' (S.ext h) (U.2.ext h) (λe he=>by obtain ⟨_,h⟩:=z3 e he;exact ⟨om,om,om,om⟩) z2);have HC:=gd (λw'=>Yv (okL okE ordE x.f.ents) w');obtain ⟨b,X⟩:∃b,okL okE ordE x.f.ents=b:=⟨_,rfl⟩;simp only[X] at J HC|-;clear X;obtain ⟨xp,hf,⟨F,hg,V,hc,hd,ha⟩⟩:=x;obtain ⟨Q,R⟩:=U;dsimp only at*;obtain ⟨xA,xc,rfl, -, -⟩:=Q.form;obtain ⟨xB,xd,rfl, -, -⟩:=R.form;have X:(F.length:Int)<=64:=om
 clear Q R z0 z1 z2 z3 S h0 c0 v0 t0 s0;unfold cellsC fCells;dsimp only;go_enter func37,ntmps37
 go_wp2_with (first|(go_at_call 67;refine ZqD (H.out _ ((Ext.refl w).alloc _)) ?_;rintro e3 w3 ⟨rfl,rfl⟩)|(go_at_call 80;(with_reducible refine ZqD (O.out _ ((Ext.refl w).alloc _)) ?_);rintro e4 w4 ⟨rfl,A⟩;have k1:=A.boxed 1 _ rfl;have k2:=A.boxed 2 _ rfl;have k3:=A.boxed 3 _ rfl;have k4:=A.boxed 4 _ rfl)|(go_at_call 83;refine ZqD (I.out _) ?_;rintro e5 w5 ⟨rfl,rfl⟩)|(go_at_call 80;have hz:=D.out _ (((Ext.refl w).alloc _).trans A);(with_reducible refine ZqD hz ?_);clear hz;rintro e7 w7 ⟨rfl,Y⟩;have C:=A.trans (((Ext.refl _).alloc _).trans Y);have k5:=C.boxed 5 _ rfl)|(go_at_call 84;refine ZqD (J.out _ (((Ext.refl w).alloc _).trans C)) ?_;rintro e8 w8 ⟨rfl,Z⟩)|(go_at_call 82;refine ZqD (HC.out _) ?_;rintro e9 w9 ⟨rfl,rfl⟩))
 all_goals go_ret
 all_goals exact ⟨rfl,(((Ext.refl _).alloc _).trans C).trans Z⟩
theorem Zg2 (x:Fc) (w:Wq) (F:Env w) (I:RdC w x) (H:fokS x.f):
 Calls prog 37 #[.agg (cellsC x).toArray] w λe w'=>e= .returned (nI (if okF x.f=true then 0 else 22))/\Ext w w':=by
 by_cases D:x.f.path.length<=64
 case neg=>rw[ZqH (λA=>D (YF.1 (YE.1 A).1).1)];exact Zlo x w F I H D
 cases c0:(x.f.path.any λs=>decide (s=⟨#[]⟩)) with
 |true=>
  rw[ZqH (λA=>by
   obtain ⟨s,h,R⟩:=Zsc.1 c0;exact (YF.1 (YE.1 A).1).2.2.2.2 s h (Zro R))]
  exact Zlp x w F I H D c0
 |false=>
 cases v0:x.f.path.all validS with
 |false=>
  rw[ZqH (λA=>by
   have C:=(YF.1 (YE.1 A).1).2.1;rw[Zrm.2 (λs h=>C s (by unfold strsF;simp[h]))] at v0;cases v0)]
  exact Zlq x w F I H D c0 v0
 |true=>
 by_cases J:x.f.id=noS
 ·rw[ZqH (λA=>(YF.1 (YE.1 A).1).2.2.1 J)];exact Zlr x w F I H D c0 v0 (Zeo J)
 cases t0:inT x.f.upd with
 |false=>rw[ZqH (λA=>by have:=(YF.1 (YE.1 A).1).2.2.2.1;rw[t0] at this;cases this)];exact Zls x w F I H D c0 v0 (JQ J) t0
 |true=>
 cases s0: [x.f.id,x.f.title,x.f.link].all validS with
 |false=>
  rw[ZqH (λA=>by
   have C:=(YF.1 (YE.1 A).1).2.1;rw[Zrm.2 (λs h=>C s (by unfold strsF;simp only[Zq0];exact Or.inr h))] at s0;cases s0)]
  exact Zlt x w F I H D c0 v0 (JQ J) t0 s0
 |true=>
  have Q:okH x.f=true:=YF.2 ⟨D,λs h=>by
   unfold strsF at h;rcases Zq0.1 h with h|h
   ·exact Zrm.1 v0 s h
   ·exact Zrm.1 s0 s h,J,t0,λp S e=>by
   rw[List.any_eq_false] at c0;exact c0 p S (Zrj e)⟩
  have O:okF x.f=okL okE ordE x.f.ents:=by unfold okF;rw[Q];rfl
  rw[O];exact Zlu x w F I H D c0 v0 (JQ J) t0 s0
theorem Ziy {l:List Nc} {j:Nat} (h:j<l.length):flatN (l.take (j+1))=flatN (l.take j)++cellsN l[j]:=by
 rw[ZqQ h,Xm,Yq]
def EbX (w:Wq) (g:Nat) (nm:List UInt8) (u:Value):Prop:=w.heap[g]? =some (.cells #[nI 0,eS,.string (str nm),sN,u,eS,nI 0] 25 (0,0))
theorem EbX.cells {w:Wq} {g:Nat} {nm:List UInt8} {u:Value} (h:EbX w g nm u):w.cell? ⟨g,0,none⟩=some (nI 0)/\w.cell? ⟨g,1,none⟩=some eS/\w.cell? ⟨g,2,none⟩=some (.string (str nm))/\w.cell? ⟨g,3,none⟩=some sN/\
 w.cell? ⟨g,4,none⟩=some u/\w.cell? ⟨g,5,none⟩=some eS/\w.cell? ⟨g,6,none⟩=some (nI 0)/\w.frozen? ⟨g,4,none⟩=false:=by
 refine ⟨?_,?_,?_,?_,?_,?_,?_,Zrk h 4⟩<;>(rw[Zrc h];rfl)
theorem Zqn {n c m d a:Nat} {s nm t:List UInt8} {A B:Option Addr}:(#[Value.int .i64 0,.string (str s),.string (str nm),.slice A n c,.slice B m d,.string (str t),nI (a:Nat)]).all (λu=>u.oneCell')=true:=by simp[Value.oneCell']
theorem ZnN {nm:List UInt8} {A:Option Addr} {n c:Nat}:(#[nI 0,eS,.string (str nm),sN,(Value.slice A n c),eS,nI 0]).all (λu=>u.oneCell')=true:=by simp[Value.oneCell']
theorem IG (nm:List UInt8) (v:Value) (l:List Nc) (w:Wq) (hv:RNs w v l) (hk:∀y∈l,RdN w y/\y.kind=0) (hn:l.length<=16777216):
 Calls prog 39 #[.string (str nm),v] w λe w'=>∃ks,e= .returned (.agg (cellsN (.mk 0 [] nm sN [] ks l [] 0)).toArray)/\w'.ownsRow w.heap.size 25 7 ks l.length (flatN l)/\Ext w w':=by
 obtain ⟨i0,hr,hu,hw,hy⟩:=ZrE Xn;obtain ⟨A,c,hq, -, -⟩:=RNs.form hv;subst hq;have HV:=gd hv;have HK:=gd hk;have HN:=gd hn;clear hv hk hn;go_enter func39,ntmps39;go_wp2;go_loopw [12] (λv wr=>∃(j:Nat) (u:Value),j<=l.length/\v=nI j/\EbX wr (w.heap.size+1) nm u/\wr.heap[w.heap.size]? =some (.cells #[nI 0,eS,eS,sN,sN,eS,nI 0] 25 (0,0))/\wr.ownsRow (w.heap.size+2) 25 7 u j (flatN (l.take j))/\Ext w wr/\w.heap.size+2<=wr.heap.size) (λv _=>l.length - (intOf v).toNat)
 case atStart=>exact ⟨0,sN,ZqO _,rfl,ZI w _ _,(Zsz _ _ (by rw[Zd];omega)).trans (ZqJ w _),Zrt _ _ _ _,((Ext.refl w).alloc _).alloc _,(by rw[Zd,Zd];exact ZqE _)⟩
 case round=>
  obtain ⟨j,u,hj,rfl,S,X,C,hx,hws⟩:=hrel;obtain ⟨U,uc,rfl⟩:=Zp C;obtain ⟨d0,d1,d2,d3,d4,d5,d6,d7⟩:=S.cells;by_cases J:j<l.length
  ·obtain ⟨ad,c',hv,hc⟩:=(RNs.ext HV.out hx).at J;injection hv with hv1 hv2 hv3;subst hv1;clear hv2 hv3;have hD:=HN.out;have hB:(0:Int)<=(j:Int):=om;have hC:(j:Int)<(l.length:Int):=om;have Z:=Ziy J;obtain ⟨hi,ha⟩:=HK.out l[j] (Zq2 J);have hf:=RdN.sl hi;obtain ⟨y,hl⟩:∃y,l[j]=y:=⟨_,rfl⟩;rw[hl] at hc Z hf ha;obtain ⟨yk,ys,yn,hE,yl,hF,Q,yt,ya⟩:=y;obtain ⟨⟨YA,ym,yc,hg⟩,⟨YB,R,yd,hh⟩⟩:=hf;simp only[Nc.al,Nc.ks,Nc.kind] at hg hh ha;subst hg;subst hh;subst ha;obtain ⟨a0,a1,a2,a3,a4,a5,a6⟩:=hc;simp only[Nc.kind,Nc.space,Nc.name,Nc.al,Nc.ks,Nc.text,Nc.at_] at a0 a1 a2 a3 a4 a5 a6;rw[show ((0:Nat):Int)=0 from rfl] at a0;have he:=ZH (x:= .mk 0 ys yn (.slice YA ym yc) yl (.slice YB R yd) Q yt ya) ⟨⟨_,_,_,rfl⟩,⟨_,_,_,rfl⟩⟩;have hm:=gd Z;obtain ⟨HM,HB⟩:=Va (n:=j) om;have HM:=gd HM;have HB:=gd HB;obtain ⟨I,Y⟩:∃I,wr.alloc (.cells #[nI 0,.string (str ys),.string (str yn),.slice YA ym yc,.slice YB R yd,.string (str yt),nI (ya:Nat)] 25)=I:=⟨_,rfl⟩;have H:Ext wr I:=(by rw[<-Y];exact (Ext.refl wr).alloc _);have D:I.heap[wr.heap.size]? =some (.cells #[nI 0,.string (str ys),.string (str yn),.slice YA ym yc,.slice YB R yd,.string (str yt),nI (ya:Nat)] 25 (0,0)):=(by rw[<-Y];exact ZqJ wr _);have c0:I.cell? ⟨wr.heap.size,0,none⟩=some (nI 0):=(by rw[Zrc D];rfl);have c1:I.cell? ⟨wr.heap.size,1,none⟩=some (.string (str ys)):=(by rw[Zrc D];rfl);have c2:I.cell? ⟨wr.heap.size,2,none⟩=some (.string (str yn)):=(by rw[Zrc D];rfl);have c3:I.cell? ⟨wr.heap.size,3,none⟩=some (.slice YA ym yc):=(by rw[Zrc D];rfl);have c4:I.cell? ⟨wr.heap.size,4,none⟩=some (.slice YB R yd):=(by rw[Zrc D];rfl);have c5:I.cell? ⟨wr.heap.size,5,none⟩=some (.string (str yt)):=(by rw[Zrc D];rfl);have c6:I.cell? ⟨wr.heap.size,6,none⟩=some (nI (ya:Nat)):=(by rw[Zrc D];rfl);have hb:=gd (show EbX I (w.heap.size+1) nm (.slice U j uc) from H.heap S);have hp:=gd (H.heap X);have h:=gd (Zt C H);have ho:=gd (hx.trans H);have F:=gd (ZqM hws H.size);have f4:=(EbX.cells hb.out).2.2.2.2.1;clear Z hi hl hx C S X D H hws d0 d1 d2 d3 d4 d5 d6 d7
   go_wp2_with (first|(refine ZqF rfl 25 (.tmp 7) (.tmp 15) rfl wr.heap.size _ rfl rfl _ _ (ZqJ _ _) Ze rfl Zqn ?_;rw[Zh];rw[Y])|(at_builtin;refine Za _ rfl (.tmp 25) (.tmp 27) _ rfl (w.heap.size+2) 25 i0 _ 7 112 underlying23 hr hu hw hy rfl (by decide) _ _ _ rfl (h.out.alloc _) _ 1 (cellsN (.mk 0 ys yn (.slice YA ym yc) yl (.slice YB R yd) Q yt ya)) rfl (Zj rfl (by decide)) he HM.out HB.out ?_ ?_;(rw[Zd];have:=F.out;omega);intro v9 w9 O V hA;(have hd:EbX w9 (w.heap.size+1) nm (.slice U j uc):=(V.block _ (by rw[Zd];have:=F.out;omega) (λe=>by have:=(h.out.lt _ e.symm).1;omega)).trans ((Zsz _ _ (by have:=F.out;omega)).trans hb.out));(have hz:w9.heap[w.heap.size]? =some (.cells #[nI 0,eS,eS,sN,sN,eS,nI 0] 25 (0,0)):=(V.block _ (by rw[Zd];have:=F.out;omega) (λe=>by have:=(h.out.lt _ e.symm).1;omega)).trans ((Zsz _ _ (by have:=F.out;omega)).trans hp.out));obtain ⟨V9,c9,ht⟩:=Zp O;subst ht;obtain ⟨g0,g1,g2,g3,g4,g5,g6,g7⟩:=hd.cells))
   go_roundw
   case rel=>
    refine ⟨j+1,.slice V9 (j+1) c9,J,by go_num,Zrh w9 (w.heap.size+1) 4 _ _ _ hd,(ZrN w9 ⟨w.heap.size+1,4,none⟩ w.heap.size _ (by show w.heap.size≠w.heap.size+1;omega)).trans hz,?_,(Ext.app (ho.out.alloc _) V (h.out.alloc _) om).setCell (by show _<=w.heap.size+1;omega) _,?_⟩
    ·rw[hm.out];exact ZsM O (by show w.heap.size+1<_;omega) _
    ·have h1:=V.size;rw[Zd] at h1;have:=F.out;simp[World.setCell];omega
   case measure=>simp[intOf];omega
  ·have hs:j=l.length:=om;subst hs;rw[List.take_length] at C;clear J hj;have h:=gd C;have HX:=gd hx;clear C hx S
   go_wp2_with (first|(refine ZqF rfl 25 (.tmp 4) (.tmp 31) rfl w.heap.size _ rfl rfl _ _ X Ze rfl ZnN ?_))
   ((try simp only[Exit.inBlock,Exit.then]);refine ZqT (ZrO rfl _ _ _ _ _ _ _ rfl (ZqV _ _ _ _ _ _ X) underlying25 rfl Ze) rfl ?_);exact ⟨_,rfl,Xy (Yh h.out om _) om,HX.out.setRow (ZqE _) _⟩
section
set_option linter.unusedSimpArgs false
def keepC (y:Nc):Bool:= !(decide (y.kind=1) && y.text.isEmpty)
theorem ZkT {l:List Nc} {j:Nat} (h:j<l.length) (A:keepC l[j]=true):(l.take (j+1)).filter keepC=(l.take j).filter keepC++ [l[j]]:=by
 rw[ZqQ h,List.filter_append];simp[A]
theorem ZkS {l:List Nc} {j:Nat} (h:j<l.length) (A:keepC l[j]=false):(l.take (j+1)).filter keepC=(l.take j).filter keepC:=by
 rw[ZqQ h,List.filter_append];simp[A]
theorem ZnO {k n c m d a:Nat} {s nm t:List UInt8} {A B:Option Addr}:(#[Value.int .i64 (k:Nat),.string (str s),.string (str nm),.slice A n c,.slice B m d,.string (str t),.int .i64 (a:Nat)]).all (λu=>u.oneCell')=true:=by simp[Value.oneCell']
def txtC (s:List UInt8):Nc:= .mk 1 [] [] (.slice none 0 0) [] (.slice none 0 0) [] s 0
theorem rdT (s:List UInt8) (w:World):RdN w (txtC s):=by
 unfold txtC;rw[RdN];exact ⟨RAts.nil w,RNs.nil w,trivial⟩
theorem Zl7 (s:List UInt8) (w:World):
 Calls prog 87 #[.string (str s)] w λe w'=>e= .returned (.agg (cellsN (txtC s)).toArray)/\Ext w w':=by
 have h:(w.alloc (.cells #[.int .i64 0,.string ⟨#[]⟩,.string ⟨#[]⟩,.slice none 0 0,.slice none 0 0,.string ⟨#[]⟩,.int .i64 0] 25)).heap[w.heap.size]? =some (.cells #[.int .i64 0,.string ⟨#[]⟩,.string ⟨#[]⟩,.slice none 0 0,.slice none 0 0,.string ⟨#[]⟩,.int .i64 0] 25 (0,0)):=ZqJ w _;go_enter func87,ntmps87
 go_wp2_with (first|(refine ZqF rfl 25 (.tmp 2) (.tmp 4) rfl w.heap.size #[.int .i64 1,.string ⟨#[]⟩,.string ⟨#[]⟩,.slice none 0 0,.slice none 0 0,.string (str s),.int .i64 0] rfl rfl _ _ h Ze rfl rfl ?_))
 ((try simp only[Exit.inBlock,Exit.then]);refine ZqT (ZrO rfl _ _ _ _ #[.int .i64 1,.string ⟨#[]⟩,.string ⟨#[]⟩,.slice none 0 0,.slice none 0 0,.string (str s),.int .i64 0] _ _ rfl (ZqJ w _) underlying25 rfl Ze) rfl ?_);exact ⟨rfl,(Ext.refl w).alloc _⟩
theorem ZkK (nm:List UInt8) (v:Value) (l:List Nc) (w:World) (hv:RNs w v l) (hk:∀y∈l,RdN w y/\(y.kind=0\/y.kind=1)) (hn:l.length<=16777216):
 Calls prog 39 #[.string (str nm),v] w λe w'=>∃ks,e= .returned (.agg (cellsN (.mk 0 [] nm (.slice none 0 0) [] ks (l.filter keepC) [] 0)).toArray)/\w'.ownsRow w.heap.size 25 7 ks (l.filter keepC).length (flatN (l.filter keepC))/\Ext w w':=by
 obtain ⟨i0,hw,hD,hE,hF⟩:=ZrE Xn;obtain ⟨A,c,hH, -, -⟩:=RNs.form hv;subst hH;have HV:=gd hv;have HK:=gd hk;have HN:=gd hn;clear hv hk hn;go_enter func39,ntmps39;go_wp2;go_loopw [12] (λv wr=>∃(j:Nat) (u:Value),j<=l.length/\v= .int .i64 j/\EbX wr (w.heap.size+1) nm u/\wr.heap[w.heap.size]? =some (.cells #[.int .i64 0,.string ⟨#[]⟩,.string ⟨#[]⟩,.slice none 0 0,.slice none 0 0,.string ⟨#[]⟩,.int .i64 0] 25 (0,0))/\wr.ownsRow (w.heap.size+2) 25 7 u ((l.take j).filter keepC).length (flatN ((l.take j).filter keepC))/\Ext w wr/\w.heap.size+2<=wr.heap.size) (λv _=>l.length - (intOf v).toNat)
 case atStart=>exact ⟨0,.slice none 0 0,ZqO _,rfl,ZI w _ _,(Zsz _ _ (by rw[Zd];omega)).trans (ZqJ w _),Zrt _ _ _ _,((Ext.refl w).alloc _).alloc _,(by rw[Zd,Zd];exact ZqE _)⟩
 case round=>
  obtain ⟨j,u,hj,rfl,S,hg,D,hx,hws⟩:=hrel;obtain ⟨U,uc,rfl⟩:=Zp D;obtain ⟨d0,d1,d2,d3,d4,d5,d6,d7⟩:=S.cells;by_cases Q:j<l.length
  ·obtain ⟨ad,c',hv,hs⟩:=(RNs.ext HV.out hx).at Q;injection hv with hv1 hv2 hv3;subst hv1;clear hv2 hv3;have hM:=HN.out;have hJ:(0:Int)<=(j:Int):=om;have hL:(j:Int)<(l.length:Int):=om;have hf:=ZkT Q;have he:=ZkS Q;have hr:((l.take j).filter keepC).length<=j:=ZqM (List.length_filter_le _ _) (by rw[Zra];omega);obtain ⟨O,hO⟩:∃O,(l.take j).filter keepC=O:=⟨_,rfl⟩;rw[hO] at D hf he hr;simp only[hO] at d4 S;obtain ⟨hB,H⟩:=HK.out l[j] (Zq2 Q);have hy:=RdN.sl hB;obtain ⟨y,hC⟩:∃y,l[j]=y:=⟨_,rfl⟩;rw[hC] at hs hf he hy H;obtain ⟨yk,ys,yn,hN,yl,hP,I,yt,ya⟩:=y;obtain ⟨⟨YA,ym,yc,hz⟩,⟨YB,R,yd,hA⟩⟩:=hy;simp only[Nc.al,Nc.ks,Nc.kind] at hz hA H;subst hz;subst hA;obtain ⟨a0,a1,a2,a3,a4,a5,a6⟩:=hs;simp only[Nc.kind,Nc.space,Nc.name,Nc.al,Nc.ks,Nc.text,Nc.at_] at a0 a1 a2 a3 a4 a5 a6;have hh:=ZH (x:= .mk yk ys yn (.slice YA ym yc) yl (.slice YB R yd) I yt ya) ⟨⟨_,_,_,rfl⟩,⟨_,_,_,rfl⟩⟩;have hq:=gd hf;have hG:=gd he;obtain ⟨HM,HB⟩:=Va (n:=O.length) om;have HM:=gd HM;have HB:=gd HB;obtain ⟨W2,Y⟩:∃W2,wr.alloc (.cells #[.int .i64 (yk:Nat),.string (str ys),.string (str yn),.slice YA ym yc,.slice YB R yd,.string (str yt),.int .i64 (ya:Nat)] 25)=W2:=⟨_,rfl⟩;have V:Ext wr W2:=(by rw[<-Y];exact (Ext.refl wr).alloc _);have hu:BxN W2 wr.heap.size yk ys yn (.slice YA ym yc) (.slice YB R yd) yt ya:=(by rw[<-Y];exact ZqJ wr _);obtain ⟨c0,c1,c2,c3,c4,c5,c6⟩:=hu.cells;have hc:=gd (show EbX W2 (w.heap.size+1) nm (.slice U O.length uc) from V.heap S);have hm:=gd (V.heap hg);have h:=gd (Zt D V);have hi:=gd (hx.trans V);have C:=gd (ZqM hws V.size);have hK:=gd hO;have f4:=(EbX.cells hc.out).2.2.2.2.1;clear hf he hB hC hx D S hg hu V hws d0 d1 d2 d3 d4 d5 d6 d7 hO hr;rcases H with H|H
   ·have q1:((yk:Int)==1)=false:=(by rw[H];rfl);have hd:=gd H;clear H
    go_wp2_with (first|(refine ZqF rfl 25 (.tmp 7) (.tmp 15) rfl wr.heap.size _ rfl rfl _ _ (ZqJ _ _) Ze rfl ZnO ?_;rw[Zh];rw[Y])|(at_builtin;refine Za _ rfl (.tmp 25) (.tmp 27) _ rfl (w.heap.size+2) 25 i0 _ 7 112 underlying23 hw hD hE hF rfl (by decide) _ _ _ rfl (h.out.alloc _) _ 1 (cellsN (.mk yk ys yn (.slice YA ym yc) yl (.slice YB R yd) I yt ya)) rfl (Zj rfl (by decide)) hh HM.out HB.out ?_ ?_;(rw[Zd];have:=C.out;omega);intro v9 w9 F J ht;(have Z:EbX w9 (w.heap.size+1) nm (.slice U O.length uc):=(J.block _ (by rw[Zd];have:=C.out;omega) (λe=>by have:=(h.out.lt _ e.symm).1;omega)).trans ((Zsz _ _ (by have:=C.out;omega)).trans hc.out));(have hp:w9.heap[w.heap.size]? =some (.cells #[.int .i64 0,.string ⟨#[]⟩,.string ⟨#[]⟩,.slice none 0 0,.slice none 0 0,.string ⟨#[]⟩,.int .i64 0] 25 (0,0)):=(J.block _ (by rw[Zd];have:=C.out;omega) (λe=>by have:=(h.out.lt _ e.symm).1;omega)).trans ((Zsz _ _ (by have:=C.out;omega)).trans hm.out));obtain ⟨V9,c9,ho⟩:=Zp F;subst ho;obtain ⟨g0,g1,g2,g3,g4,g5,g6,g7⟩:=Z.cells))
    have ha:=hq.out (by unfold keepC;simp[Nc.kind,hd.out]);have hb:(O++ [Nc.mk yk ys yn (.slice YA ym yc) yl (.slice YB R yd) I yt ya]).length=O.length+1:=(by rw[ZqG];rfl);go_roundw
    case rel=>
     refine ⟨j+1,.slice V9 (O.length+1) c9,Q,by go_num,Zrh w9 (w.heap.size+1) 4 _ _ _ Z,(ZrN w9 ⟨w.heap.size+1,4,none⟩ w.heap.size _ (by show w.heap.size≠w.heap.size+1;omega)).trans hp,?_,(Ext.app (hi.out.alloc _) J (h.out.alloc _) om).setCell (by show _<=w.heap.size+1;omega) _,?_⟩
     ·rw[ha,hb,Xm,Yq];exact ZsM F (by show w.heap.size+1<_;omega) _
     ·have h1:=J.size;rw[Zd] at h1;have:=C.out;simp[World.setCell];omega
    case measure=>simp[intOf];omega
   ·have q1:((yk:Int)==1)=true:=(by rw[H];rfl);have hd:=gd H;clear H;by_cases X:yt= []
    ·have q2:(str yt).toList.isEmpty=true:=(by rw[X];exact Xh);have hl:=gd X;clear X
     go_wp2_with (first|(refine ZqF rfl 25 (.tmp 7) (.tmp 15) rfl wr.heap.size _ rfl rfl _ _ (ZqJ _ _) Ze rfl ZnO ?_;rw[Zh];rw[Y]))
     have ha:=hG.out (by unfold keepC;simp[Nc.kind,Nc.text,hd.out,hl.out]);go_roundw
     case rel=>refine ⟨j+1,.slice U O.length uc,Q,by go_num,hc.out,hm.out,?_,hi.out,C.out⟩;rw[ha];exact h.out
     case measure=>simp[intOf];omega
    ·have q2:=JX X;have hl:=gd X;clear X
     go_wp2_with (first|(refine ZqF rfl 25 (.tmp 7) (.tmp 15) rfl wr.heap.size _ rfl rfl _ _ (ZqJ _ _) Ze rfl ZnO ?_;rw[Zh];rw[Y])|(at_builtin;refine Za _ rfl (.tmp 25) (.tmp 27) _ rfl (w.heap.size+2) 25 i0 _ 7 112 underlying23 hw hD hE hF rfl (by decide) _ _ _ rfl (h.out.alloc _) _ 1 (cellsN (.mk yk ys yn (.slice YA ym yc) yl (.slice YB R yd) I yt ya)) rfl (Zj rfl (by decide)) hh HM.out HB.out ?_ ?_;(rw[Zd];have:=C.out;omega);intro v9 w9 F J ht;(have Z:EbX w9 (w.heap.size+1) nm (.slice U O.length uc):=(J.block _ (by rw[Zd];have:=C.out;omega) (λe=>by have:=(h.out.lt _ e.symm).1;omega)).trans ((Zsz _ _ (by have:=C.out;omega)).trans hc.out));(have hp:w9.heap[w.heap.size]? =some (.cells #[.int .i64 0,.string ⟨#[]⟩,.string ⟨#[]⟩,.slice none 0 0,.slice none 0 0,.string ⟨#[]⟩,.int .i64 0] 25 (0,0)):=(J.block _ (by rw[Zd];have:=C.out;omega) (λe=>by have:=(h.out.lt _ e.symm).1;omega)).trans ((Zsz _ _ (by have:=C.out;omega)).trans hm.out));obtain ⟨V9,c9,ho⟩:=Zp F;subst ho;obtain ⟨g0,g1,g2,g3,g4,g5,g6,g7⟩:=Z.cells))
     have ha:=hq.out (by unfold keepC;simp[Nc.kind,Nc.text,hd.out,hl.out]);have hb:(O++ [Nc.mk yk ys yn (.slice YA ym yc) yl (.slice YB R yd) I yt ya]).length=O.length+1:=(by rw[ZqG];rfl);go_roundw
     case rel=>
      refine ⟨j+1,.slice V9 (O.length+1) c9,Q,by go_num,Zrh w9 (w.heap.size+1) 4 _ _ _ Z,(ZrN w9 ⟨w.heap.size+1,4,none⟩ w.heap.size _ (by show w.heap.size≠w.heap.size+1;omega)).trans hp,?_,(Ext.app (hi.out.alloc _) J (h.out.alloc _) om).setCell (by show _<=w.heap.size+1;omega) _,?_⟩
      ·rw[ha,hb,Xm,Yq];exact ZsM F (by show w.heap.size+1<_;omega) _
      ·have h1:=J.size;rw[Zd] at h1;have:=C.out;simp[World.setCell];omega
     case measure=>simp[intOf];omega
  ·have hI:j=l.length:=om;subst hI;rw[List.take_length] at D;simp only[List.take_length] at S d4;clear Q hj;have h:=gd D;have HX:=gd hx;clear D hx S
   go_wp2_with (first|(refine ZqF rfl 25 (.tmp 4) (.tmp 31) rfl w.heap.size _ rfl rfl _ _ hg Ze rfl ZnN ?_))
   ((try simp only[Exit.inBlock,Exit.then]);refine ZqT (ZrO rfl _ _ _ _ _ _ _ rfl (ZqV _ _ _ _ _ _ hg) underlying25 rfl Ze) rfl ?_);exact ⟨_,rfl,Xy (Yh h.out om _) om,HX.out.setRow (ZqE _) _⟩
end
section
set_option linter.unusedSimpArgs false
structure NdOf (w:World) (y:Nc) (n:Nd):Prop where
 rd:RdN w y
 kind:y.kind=0
 nd:y.nd=n
theorem NdOf.ext {w w':World} {y:Nc} {n:Nd} (h:NdOf w y n) (A:Ext w w'):NdOf w' y n:=⟨RdN.ext A _ h.rd,h.kind,h.nd⟩
def txN (nm s:List UInt8) (ks:Value):Nc:= .mk 0 [] nm (.slice none 0 0) [] ks ([txtC s].filter keepC) [] 0
theorem Zp5 (nm s:List UInt8) (ks:Value):(txN nm s ks).nd=textN nm s:=by
 unfold txN textN elemN;rw[Nc.nd];cases s with
 |nil=>rfl
 |cons a l=>rfl
theorem Zp6 {nm s:List UInt8} {ks:Value} {w:World} (h:RNs w ks ([txtC s].filter keepC)):RdN w (txN nm s ks):=by
 unfold txN;rw[RdN];refine ⟨RAts.nil w,h,(ZD _).2 λy A=> ?_⟩;rw[ZqU.1 (ZrK.1 A).1];exact rdT s w
theorem Zn7 {nm s:List UInt8} {ks:Value} {r:Option Nat} (h:r≠ks.ownBlock):awayN r (txN nm s ks):=by
 unfold txN;rw[awayN];refine ⟨Or.inl rfl,Or.inr (λe=>h e.symm),(Zx _).2 λy A=> ?_⟩;rw[ZqU.1 (ZrK.1 A).1];unfold txtC;rw[awayN];exact ⟨Or.inl rfl,Or.inl rfl,by rw[awayNs];trivial⟩
theorem Zbc (nm s:List UInt8) (w:World):
 Calls prog 38 #[.string (str nm),.string (str s)] w λe w'=>∃y,e= .returned (.agg (cellsN y).toArray)/\NdOf w' y (textN nm s)/\(∀k,k<w.heap.size->awayN (some k) y)/\Ext w w':=by
 obtain ⟨W1,C⟩:∃W1,w.alloc (.cells #[.int .i64 0,.string ⟨#[]⟩,.string ⟨#[]⟩,.slice none 0 0,.slice none 0 0,.string ⟨#[]⟩,.int .i64 0] 25)=W1:=⟨_,rfl⟩;have J:Ext w W1:=by rw[<-C];exact (Ext.refl w).alloc _
 have Q:W1.heap[w.heap.size]? =some (.cells #[.int .i64 0,.string ⟨#[]⟩,.string ⟨#[]⟩,.slice none 0 0,.slice none 0 0,.string ⟨#[]⟩,.int .i64 0] 25 (0,0)):=by rw[<-C];exact ZqJ w _
 have I:w.heap.size<W1.heap.size:=by rw[<-C,Zd];omega
 have U:=gd J;have V:=gd Q;have H:=gd I;have S:=gd (λ(F:World)=>(show Calls prog 87 #[.string (str s)] F λe w'=>e= .returned (.agg #[.int .i64 1,.string ⟨#[]⟩,.string ⟨#[]⟩,.slice none 0 0,.slice none 0 0,.string (str s),.int .i64 0])/\Ext F w' from Zl7 s F));have R:=gd (λ(F:World)=>ZkK nm (.slice (some ⟨F.heap.size,0,none⟩) 1 1) [txtC s] (F.alloc (.cells #[.int .i64 1,.string ⟨#[]⟩,.string ⟨#[]⟩,.slice none 0 0,.slice none 0 0,.string (str s),.int .i64 0] 25)) (by show RSl _ 7 _ 1 (flatN [txtC s]);rw[Yq];exact Zj (n:=1) (cs:=cellsN (txtC s)) rfl (by decide)) (λy Y=>by rw[ZqU.1 Y];exact ⟨rdT s _,Or.inr rfl⟩) (by simp));clear J Q I;go_enter func38,ntmps38
 go_wp2_with (first|(go_at_call 39;(refine ZqD (R.out w2) ?_);rintro e w3 ⟨ks,rfl,D,X⟩;obtain ⟨KA,kc,rfl⟩:=Zp D;have A:=((Ext.refl w2).alloc (.cells #[.int .i64 1,.string ⟨#[]⟩,.string ⟨#[]⟩,.slice none 0 0,.slice none 0 0,.string (str s),.int .i64 0] 25)).trans X;have O:=(h.trans A).heap V.out)|(go_at_call 87;(refine ZqD (S.out W1) ?_);rintro e w2 ⟨rfl,h⟩)|(refine ZqF rfl 25 (.tmp 4) (.tmp 9) rfl w.heap.size _ rfl rfl _ _ O Ze rfl ZnN ?_))
 ((try simp only[Exit.inBlock,Exit.then]);refine ZqT (ZrO rfl _ _ _ _ _ _ _ rfl (ZqV _ _ _ _ _ _ O) underlying25 rfl Ze) rfl ?_);refine ⟨txN nm s _,rfl,⟨Zp6 (RSl.of_own (Yh D (by have:=H.out;have:=h.size;rw[Zd];omega) _)),rfl,Zp5 _ _ _⟩,λk hk=>Zn7 (λe=>by have Z:=(D.lt k e.symm).1;have q1:=H.out;have q2:=h.size;rw[Zd] at Z;omega),((U.out.trans h).trans A).setRow (ZqE _) _⟩
end
theorem Zbv {P:Program} (w:Wq) {ops:Array Oper} {rest:List Oper} {o:Oper} {a:Act} {Q:Exit->Act->Wq->Prop}
 (hg:o.guard=none) (l c:Operand) (t:TypeId) (H:o.op=Op.makeSlice t l c)
 (e:TypeId) (i:TypeInfo) (z:Value) (size:Nat) (R:P.underlying t=some (.slice e)) (S:P.info? e=some i) (U:i.zero=some z) (V:i.size=size)
 (O J:IntKind) (L C:Int) (n m:Nat) (hl:a.eval l= .int O L) (Z:a.eval c= .int J C) (Y:L=(n:Int)) (X:C=(m:Int)) (ha:n<=m) (b2:i.bytes*m<=281474976710656) (b3:m<=maxLen)
 (hK:wpList P ops Q rest (a.put o.dst (.slice (some ⟨w.heap.size,0,none⟩) n m)) (w.alloc (.cells (madeCells z.cells (m*size)) e))):
 wpList P ops Q (o::rest) a w:=by
 refine wpList_plain hg λK D=> ?_;have A:(m:Int)<=9223372036854775807:=by have h:=b3;simp[maxLen] at h;omega
 have F:(i.bytes:Int)*(m:Int)<=281474976710656:=by
  have h:((i.bytes*m:Nat):Int)<=281474976710656:=om
  rwa [Int.natCast_mul] at h
 have I:=run_make (P:=P) w t e i z R S U O J (n:Int) (m:Int) om om F A;simp only[Int.toNat_natCast,V] at I;subst Y;subst X;unfold Oper.wp;simp[execOp,H,hl,Z,I,Result.andThen];exact D _ _ hK
theorem ZdB {P:Program} (w:Wq) (U sT ty C:TypeId) (size g D I k:Nat) (sp:Option Addr) (H Q:Nat) (A:Array Value) (t:TypeId) (cs:List Value)
 (hu:P.underlying U=some (.slice C)) (Z:(P.info? C).map (·.size)=some size)
 (V:w.heap[g]? =some (.cells A t (0,0))) (X:k=Nat.min H D) (S:cs.length=k*size)
 (F:∀j v,cs[j]? =some v->∃a,sp=some a/\w.cell? (a.add j)=some v) (J:cs.length<=A.size) (h1:∀v∈cs,v.oneCell'=true):
 (Builtin.copy_ #[U,sT] ty #[.slice (some ⟨g,0,none⟩) D I,.slice sp H Q]).run P w=
  .ok (goInt k) (w.setRow g (cs++A.toList.drop cs.length).toArray):=by
 have O:=run_storeCells_at P g 0 t cs 0 A w V (by simpa using J) h1;simp only[ZrH,List.take_zero,Zrl] at O;cases hq:P.info? C with
 |none=>simp[hq] at Z
 |some i=>
  have hi:i.size=size:=by simpa [hq] using Z
  have hm:((size*k):Nat)=cs.length:=by rw[S,Zst]
  cases sp with
  |none=>
   have R:cs= []:=by
    cases cs with
    |nil=>rfl
    |cons x r=>obtain ⟨a,e,_⟩:=F 0 x rfl;cases e
   subst R;have ha:k*size=0:=(by rw[<-S];rfl);simp[Builtin.copy_,run_underlying hu,Builtin.lenOf,Builtin.firstCells,sizeOf,typeInfo,hq,<-X,storeCells,setRow_self w g A t (0,0) V]
  |some a=>have Y:=run_loadCells_list (P:=P) w a cs (λj v hv=>by obtain ⟨a',e,h⟩:=F j v hv;injection e with e;subst e;exact h);rw[S] at Y;simp[Builtin.copy_,run_underlying hu,Builtin.lenOf,Builtin.firstCells,sizeOf,typeInfo,hq,hi,<-X,Y,O]
theorem Zaz {P:Program} {w:Wq} {ops:Array Oper} {rest:List Oper} {o:Oper} {a:Act} {Q:Exit->Act->Wq->Prop} (U:o.guard=none) (d s:Operand) (S X:TypeId)
 (ho:o.op= .call {callee:= .builtin .copy,args:=#[d,s],argTypes:=#[S,X]}) (C:TypeId) (size:Nat) (hu:P.underlying S=some (.slice C)) (V:(P.info? C).map (·.size)=some size)
 (g A H k:Nat) (sp:Option Addr) (D I:Nat) (Z:a.eval d= .slice (some ⟨g,0,none⟩) A H) (hs:a.eval s= .slice sp D I)
 (F:Array Value) (t:TypeId) (hg:w.heap[g]? =some (.cells F t (0,0))) (cs:List Value) (hk:k=Nat.min D A) (hn:cs.length=k*size)
 (R:∀j v,cs[j]? =some v->∃a,sp=some a/\w.cell? (a.add j)=some v) (J:cs.length<=F.size) (Y:∀v∈cs,v.oneCell'=true)
 (h:wpList P ops Q rest (a.put o.dst (goInt k)) (w.setRow g (cs++F.toList.drop cs.length).toArray)):wpList P ops Q (o::rest) a w:=by
 refine wpList_plain U λK hK=> ?_;have O:=ZdB (P:=P) w S X o.type C size g A H k sp D I F t cs hu V hg hk hn R J Y;unfold Oper.wp;simp[execOp,ho,resolve,invoke,builtin,Z,hs,O,Result.andThen];exact hK _ _ h
theorem Zfp {w:Wq} {base size n c g:Nat} {e:TypeId} {xs rest:List Value} (F:w.heap[g]? =some (.cells (xs++rest).toArray e (0,0))) (C:base<=g) (A:xs.length=n*size) (h:n<=c) (D:c<=maxLen) (H:(xs++rest).length=c*size):
 w.ownsRow base e size (.slice (some ⟨g,0,none⟩) n c) n xs:=
 ⟨A,Or.inr ⟨g,c,_,rfl,C,F,h,D,by simpa using H,by rw[<-A];simp⟩⟩
theorem ZlT:prog.underlying 29=some (.slice (prog.elem 29)):=by kernel_rfl
theorem ZnY (w:Wq):(Go.sizeOf (prog.elem 29)).run prog w= .ok 1 w:=by kernel_rfl
theorem Zqj {w:Wq} {A:Option Addr} {c:Nat} {l:List ByteArray} (n:Nat) (h:RStrs w (.slice A l.length c) l) (Z:n<=l.length):
 ∃I c2,(∀D:Wq,(Instr.slice 29 (.slice A l.length c) (some (nI (n:Int))) none none).run prog D= .ok (.slice I (l.length - n) c2) D)/\RStrs w (.slice I (l.length - n) c2) (l.drop n):=by
 obtain ⟨V,S,U,e,X,J,O,Q⟩:=h;injection e with e1 e2 e3;subst e1 e3;clear e2;have C:(l.drop n).length=l.length - n:=ZqP;refine ⟨if c=n then A else A.map (·.add (n*1)),c - n,λD=> ?_,?_⟩
 ·rw[run_slice_l (P:=prog) (w:=D) 29 A l.length c ZlT .i64 (n:Int) om om,ZnY];rfl
 ·unfold RStrs;rw[C];refine ⟨by rw[Zq9,C,Nat.mul_one],_,_,rfl,om,ZqM (ZsV _ _) J,λe=> ?_,λj u H=> ?_⟩
  ·by_cases F:c=n
   ·omega
   ·rw[ZqH F] at e;have:=O (by cases A with|none=>rfl|some _=>cases e);omega
  ·rw[List.map_drop,List.getElem?_drop] at H;obtain ⟨ad,R,F⟩:=Q (n+j) u H;subst R;have Y:n+j<l.length:=(by have:=(Zrw.1 H).1;rwa [Zq9] at this);refine ⟨ad.add n,by rw[ZqH om,Nat.mul_one];rfl,?_⟩;rw[QJ];exact F
def pairS (ps:List (List UInt8×List UInt8)):List ByteArray:=(ps.map λp=> [str p.1,str p.2]).flatten
theorem Zew (ps:List (List UInt8×List UInt8)):(pairS ps).length=2*ps.length:=by
 induction ps with
 |nil=>rfl
 |cons p t ih=>have e:pairS (p::t)=str p.1::str p.2::pairS t:=rfl;rw[e,ZqK,ZqK,ZqK,ih];omega
theorem Zjj {ps:List (List UInt8×List UInt8)} {j:Nat} (h:j<ps.length):pairS (ps.drop j)=str ps[j].1::str ps[j].2::pairS (ps.drop (j+1)):=by
 rw[ZqR h];rfl
theorem QU (l:List AtP):(flatA l).length=l.length*4:=by
 induction l with
 |nil=>rfl
 |cons x t ih=>
  have e:flatA (x::t)=cellsA x++flatA t:=by unfold flatA;simp
  rw[e,ZqG,ih,ZqK];show 4+_=_;omega
def slLen:Value->Nat
 | .slice _ n _=>n
 |_=>0
theorem Zm3 (m:Nat):Int.tdiv ((2*m:Nat):Int) 2=(m:Int):=by
 rw[Int.tdiv_eq_ediv_of_nonneg om];omega
theorem Zh1 (k:Nat) (s n:List UInt8) (al ks:Value) (C:List AtP) (m2 d:Nat) (B0:Option Addr) (t:List UInt8) (a:Nat) (v:Value) (ps:List (List UInt8×List UInt8)) (w:Wq) (ha:RAts w al C) (gj:ks= .slice B0 m2 d) (hv:RStrs w v (pairS ps)) (hn:C.length+ps.length<=1000000):
 Calls prog 41 #[.agg #[nI (k:Nat),.string (str s),.string (str n),al,ks,.string (str t),nI (a:Nat)],v] w λe w'=>
  ∃al',e= .returned (.agg #[nI (k:Nat),.string (str s),.string (str n),al',ks,.string (str t),nI (a:Nat)])/\w'.ownsRow w.heap.size 53 4 al' (C.length+ps.length) (flatA (C++ps.map pairA))/\Ext w w':=by
 obtain ⟨i0,hO,hV,hW,hX⟩:=ZrE Zfd;obtain ⟨A,c,gh, -, -⟩:=ha.form;subst gh;subst gj;obtain ⟨D,dc,gp, -, -⟩:=RStrs.form hv;have hQ:=Zew ps;subst gp;obtain ⟨q,hq⟩:∃q,(pairS ps).length=q:=⟨_,rfl⟩;have gn:(prog.info? 53).map (λi=>i.size)=some 4:=by kernel_rfl
 obtain ⟨W1,hd⟩:∃W1,(w.alloc (.cells #[nI (k:Nat),.string (str s),.string (str n),.slice A C.length c,.slice B0 m2 d,.string (str t),nI (a:Nat)] 25)).alloc (.cells #[nI 0,eS,eS,sN,sN,eS,nI 0] 25)=W1:=⟨_,rfl⟩;have hT:Ext w W1:=by rw[<-hd];exact ((Ext.refl w).alloc _).alloc _
 have hw:BxN W1 w.heap.size k s n (.slice A C.length c) (.slice B0 m2 d) t a:=by rw[<-hd];exact (Zsz _ _ (by rw[Zd];omega)).trans (ZqJ w _)
 have hZ:W1.heap[w.heap.size+1]? =some (.cells #[nI 0,eS,eS,sN,sN,eS,nI 0] 25 (0,0)):=by rw[<-hd];exact ZI w _ _
 have hR:W1.heap.size=w.heap.size+2:=by rw[<-hd,Zd,Zd]
 obtain ⟨b0,b1,b2,b3,b4,b5,b6⟩:=hw.cells;have hs:=gd hT;have hF:=gd hw;have gg:=gd hZ;have hr:=gd hR;have HA:=gd ha;have HV:=gd hv;have HN:=gd hn;have hy:q=2*ps.length:=by rw[<-hq,hQ]
 have HQ:=gd hq;have gw:=gd hy;rw[hq];have gr:Int.tdiv ((q:Nat):Int) 2=(ps.length:Int):=by rw[hy];exact Zm3 _
 clear hT hw hZ hR ha hv hq hy hQ;go_enter func41,ntmps41;have hP:C.length+ps.length<=1000000:=HN.out
 go_wp2_with (first|(refine Zbv W1 rfl (.tmp 8) (.tmp 15) 22 rfl 53 i0 _ 4 underlying22 hO hV hW .i64 .i64 _ _ C.length (C.length+ps.length) rfl rfl rfl (Int.natCast_add _ _).symm (Nat.le_add_right _ _) (by rw[hX];omega) (by unfold maxLen;omega) ?_;obtain ⟨zc,hD⟩:∃zc,madeCells (Value.cells (.agg #[eS,eS,eS,nI 0])) ((C.length+ps.length)*4)=zc:=⟨_,rfl⟩;rw[hD];(have hE:zc.size=(C.length+ps.length)*4:=by rw[<-hD];exact size_madeCells _ _);obtain ⟨W2,he⟩:∃W2,W1.alloc (.cells zc 53)=W2:=⟨_,rfl⟩;rw[he];(have hl:Ext W1 W2:=by rw[<-he];exact (Ext.refl _).alloc _);(have Z:W2.heap[W1.heap.size]? =some (.cells zc 53 (0,0)):=by rw[<-he];exact ZqJ W1 _);obtain ⟨d0,d1,d2,d3,d4,d5,d6⟩:=(hF.out.ext hl).cells;clear b0 b1 b2 b3 b4 b5 b6 he hD)|(refine Zaz rfl (.tmp 17) (.tmp 19) _ _ rfl 53 4 underlying22 gn W1.heap.size C.length (C.length+ps.length) C.length A C.length c rfl rfl zc 53 Z (flatA C) (Nat.min_self _).symm (QU C) (λj u hu=>RSl.at1' (HA.out.ext (hs.out.trans hl)) j u hu) (by rw[QU,hE];omega) (Ziw C) ?_))
 have R:(W2.setRow W1.heap.size (flatA C++zc.toList.drop (flatA C).length).toArray).ownsRow W1.heap.size 53 4 (.slice (some ⟨W1.heap.size,0,none⟩) C.length (C.length+ps.length)) C.length (flatA C):=
  Zfp (ZqV _ _ _ _ _ _ Z) (ZqE _) (QU C) (Nat.le_add_right _ _) (by unfold maxLen;omega) (by have h1:zc.toList.length=zc.size:=rfl;rw[ZqG,ZqP,QU,h1,hE];omega)
 have hc:Ext W1 (W2.setRow W1.heap.size (flatA C++zc.toList.drop (flatA C).length).toArray):=hl.setRow (ZqE _) _;obtain ⟨W3,hJ⟩:∃W3,W2.setRow W1.heap.size (flatA C++zc.toList.drop (flatA C).length).toArray=W3:=⟨_,rfl⟩;rw[hJ] at R hc|-;clear hJ hl Z hE d0 d1 d2 d3 d4 d5 d6 hP;have h5:=gd R;have gb:=gd hc;clear R hc;go_wp2;go_simp;have gl:q=(pairS (ps.drop 0)).length:=HQ.out.symm;go_loopw [1,5] (λv u wr=>∃(j:Nat),j<=ps.length/\RStrs W1 v (pairS (ps.drop j))/\wr.ownsRow W1.heap.size 53 4 u (C.length+j) (flatA (C++(ps.take j).map pairA))/\Ext W1 wr) (λv _ _=>slLen v)
 case atStart=>exact ⟨0,ZqO _,(by have h:=HV.out.ext hs.out;rw[HQ.out] at h;exact h),(by rw[List.take_zero,Zrz,Zrb];exact h5.out),gb.out⟩
 case round=>
  obtain ⟨j,hj,U,F,hx⟩:=hrel;obtain ⟨D1,c1,rfl, -, -⟩:=RStrs.form U;obtain ⟨G,gc,rfl⟩:=Zp F;have J:=Zew (ps.drop j);rw[ZqP] at J;by_cases hi:j<ps.length
  ·obtain ⟨D2,c2,hA,X⟩:=Zqj 2 U om;have hk:=Zjj hi;obtain ⟨ad,hL,H⟩:=RSl.at1' U 0 (.string (str ps[j].1)) (by rw[hk];rfl);obtain ⟨gx,V,Q⟩:=RSl.at1' U 1 (.string (str ps[j].2)) (by rw[hk];rfl);rw[hL] at V;injection V with V;subst V;subst hL;rw[add_zero] at H;rw[show ad.add 1=⟨ad.block,ad.off+1,none⟩ from ZqH om] at Q;have h3:ad.block<W1.heap.size:=ZrL W1 _ H;have H:=hx.cell H;have Q:=hx.cell Q;have hdr:(pairS (ps.drop j)).drop 2=pairS (ps.drop (j+1)):=(by rw[hk];rfl);rw[hdr] at X;obtain ⟨rl,gm⟩:∃rl,(pairS (ps.drop j)).length=rl:=⟨_,rfl⟩;rw[gm] at hA X J|-;have gz:(1:Int)<(rl:Int):=om;have gy:(0:Int)<(rl:Int):=om;have gs:¬rl=0:=om;have gt:∀wx:Wq,(Instr.slice 29 (.slice (some ad) rl c1) (some (nI 2)) none none).run prog wx= .ok (.slice D2 (rl - 2) c2) wx:=hA;have hB:(ps.take (j+1)).map pairA=(ps.take j).map pairA++ [pairA ps[j]]:=(by rw[ZqQ hi,Zrf];rfl);obtain ⟨p,hp⟩:∃p,ps[j]=p:=⟨_,rfl⟩;rw[hp] at H Q hB;have h8:=gd J;clear J;have ga:=gd hB;have h9:=gd X;have hm:=gd F;have ht:=gd hx;have ho:Hid ((Value.slice G (C.length+j) gc).ownBlock≠some ad.block):=gd (λe=>by
    have h1:=(hm.out.lt _ e).1;omega)
   clear h3;have hP:C.length+ps.length<=1000000:=HN.out;clear U X hA hk hdr hB hp F hx gl;go_wp2;refine rN ?_;change wpAny _ _ _ _ _ _ _ (World.drew _);have hC:=(Ext.refl wr).drew;have I:wr.drew.cell? ad=some (.string (str p.1))/\wr.drew.cell? ⟨ad.block,ad.off+1,none⟩=some (.string (str p.2)):=⟨hC.cell H,hC.cell Q⟩;refine ZE (λw'=>w'.cell? ad=some (.string (str p.1))/\w'.cell? ⟨ad.block,ad.off+1,none⟩=some (.string (str p.2))) ?_;refine tG 0 (.slice G (C.length+j) gc) I ?_;refine tG 1 (.slice (some ad) rl c1) I ?_;refine tG 2 (.pointer (some ad)) I ?_;refine tS 3 (.string (str p.1)) rfl (λw' hS=>by have q1:=hS.1;go_simp) I ?_;refine tG 4 (.slice (some ad) rl c1) I ?_;refine tG 5 (.pointer (some (ad.add 1))) I ?_;refine tS 6 (.string (str p.2)) rfl (λw' hS=>by have q1:=hS.2;go_simp) I ?_;refine tG 7 (.agg #[eS,.string (str p.1),.string (str p.2),nI 0]) I ?_;go_simp;refine sS 8 λK hK=> ?_;go_simp;have O:=hC.alloc (.cells #[eS,.string (str p.1),.string (str p.2),nI 0] 53);refine hK _ _ ⟨O.cell H,O.cell Q⟩ ?_;clear hK K;have hG:Hid (RSl (wr.drew.alloc (.cells #[eS,.string (str p.1),.string (str p.2),nI 0] 53)) 4 (.slice (some ⟨wr.heap.size,0,none⟩) 1 1) 1 (cellsA (pairA p))):=gd (Zj (w:=wr.drew) (n:=1) (cs:=cellsA (pairA p)) rfl (by decide));have hH:=gd (Zt hm.out O);refine sS 9 λK hK=> ?_;refine Zk _ (by rfl) (.tmp 26) (.tmp 34) _ (by rfl) W1.heap.size 53 i0 _ 4 56 underlying22 hO hV hW hX rfl (by decide) _ (C.length+j) (flatA (C++(ps.take j).map pairA)) (by rfl) hH.out _ 1 (cellsA (pairA p)) (by rfl) hG.out (XM _) (by unfold maxLen;omega) om (ht.out.trans O).size ?_;intro v9 w9 S hh hM;have gq:Ext W1 w9:=Ext.app (ht.out.trans O) hh hH.out (ZqE _);have h4:=gd (ZrL wr _ H);have hI:w9.cell? ad=some (.string (str p.1))/\w9.cell? ⟨ad.block,ad.off+1,none⟩=some (.string (str p.2)):=(by have gk:(Value.slice G (C.length+j) gc).ownBlock≠some ad.block:=ho.out;have hb:w9.heap[ad.block]? =(wr.drew.alloc (.cells #[eS,.string (str p.1),.string (str p.2),nI 0] 53)).heap[ad.block]?:=hh.block _ (Zrx h4.out O.size) (λe=>gk e.symm);exact ⟨(Zrs hb).trans (O.cell H),(Zrs (a:=⟨ad.block,ad.off+1,none⟩) hb).trans (O.cell Q)⟩);obtain ⟨V9,c9,go⟩:=Zp S;subst go;have h7:Hid (w9.ownsRow W1.heap.size 53 4 (.slice V9 (C.length+j+1) c9) (C.length+(j+1)) (flatA (C++(ps.take (j+1)).map pairA))):=(by show w9.ownsRow _ _ _ _ _ _;rw[ga.out,<-ZqY,QT,QV];exact S);have gf:=gd gq;have gu:=gd hh;refine hK _ _ hI ?_;clear hK K S hh hM;refine sS 10 λK hK=> ?_;go_simp;refine hK _ _ hI ?_;clear hK K;refine sE ?_;go_wp2;go_roundw
   case rel=>exact ⟨j+1,hi,h9.out,h7.out,gf.out⟩
   case measure=>have:=h8.out;simp[slLen];omega
  ·have gi:j=ps.length:=om;subst gi;have h0:pairS (ps.drop ps.length)= []:=(by rw[List.drop_length];rfl);rw[h0] at U|-;rw[List.take_length] at F;have HO:=gd F;have ht:=gd hx;have hg:=hF.out.ext hx;have hz:W1.heap.size=w.heap.size+2:=hr.out;have h2:=hx.heap gg.out;obtain ⟨b0,b1,b2,b3,b4,b5,b6⟩:=hg.cells;obtain ⟨-, -,f3, -⟩:=hg.frozen;obtain ⟨W5,hf⟩:∃W5,wr.setCell ⟨w.heap.size,3,none⟩ (.slice G (C.length+ps.length) gc)=W5:=⟨_,rfl⟩;have hN:BxN W5 w.heap.size k s n (.slice G (C.length+ps.length) gc) (.slice B0 m2 d) t a:=(by rw[<-hf];exact hg.attrs _);have hY:W5.heap[w.heap.size+1]? =some (.cells #[nI 0,eS,eS,sN,sN,eS,nI 0] 25 (0,0)):=(by rw[<-hf];exact (ZrN wr ⟨w.heap.size,3,none⟩ (w.heap.size+1) _ (by show w.heap.size+1≠w.heap.size;omega)).trans h2);have Y:W5.ownsRow W1.heap.size 53 4 (.slice G (C.length+ps.length) gc) (C.length+ps.length) (flatA (C++ps.map pairA)):=(by rw[<-hf];exact ZsM F (by show w.heap.size<_;omega) _);have hU:Ext w W5:=(by rw[<-hf];exact (hs.out.trans hx).setCell (ZqE _) _);obtain ⟨e0,e1,e2,e3,e4,e5,e6⟩:=hN.cells;have h6:=gd Y;have ge:=gd hU;clear F hx hg h2 Y hU hN hz J U hi hj h0
   go_wp2_with (first|(refine ZqF rfl 25 (.tmp 4) (.tmp 38) rfl (w.heap.size+1) _ rfl rfl _ _ hY Ze rfl Zz ?_))
   ((try simp only[Exit.inBlock,Exit.then]);refine ZqT (ZrO rfl _ _ _ _ _ _ _ rfl (ZqV _ _ _ _ _ _ hY) underlying25 rfl Ze) rfl ?_);exact ⟨_,rfl,Xy (Yh h6.out (by rw[hr.out];omega) _) (by rw[hr.out];omega),ge.out.setRow (ZrF _) _⟩
section
set_option linter.unusedSimpArgs false
theorem Ym (b:World) (B:Nat) (F:b.heap.size<=B) (D:Env b) (v:Value) (l:List UInt8) (n:Nat) (w:World) (O:Ext b w) (C:B<=w.heap.size) (J:OB w B v l) (H:l.length<=1000) (I:n<100):
 Calls prog 131 #[v,.int .i64 (n:Nat),.int .i64 2] w λe w'=>∃A,e= .returned A/\OB w' B A (l++pad2 n)/\Ext b w':=by
 have h:=ZpT I;have:=Zka b B F D v l n 2 w O C J H om h.2 om
 rwa [h.1] at this
theorem ZcM (b:World) (B:Nat) (H:b.heap.size<=B) (F:Env b) (v:Value) (l:List UInt8) (n:Nat) (w:World) (O:Ext b w) (D:B<=w.heap.size) (J:OB w B v l) (I:l.length<=1000) (A:n<10000):
 Calls prog 131 #[v,.int .i64 (n:Nat),.int .i64 4] w λe w'=>∃C,e= .returned C/\OB w' B C (l++pad4 n)/\Ext b w':=by
 have h:=ZpU A;have:=Zka b B H F v l n 4 w O D J I A h.2 om
 rwa [h.1] at this
theorem ZlZ {t:Int} (A:inT t=true):(sinceN t:Int)=t+62135596800/\sinceN t / 86400<3652059:=by
 have h: -62135596800<=t/\t<=253402300799:=by simpa [inT] using A
 unfold sinceN;omega
theorem Ziz (t:Int) (w:World) (hE:Env w) (ht:inT t=true):
 Calls prog 88 #[.int .i64 t] w λe w'=>e= .returned (.tuple #[.string (str (fmtL t)),.int .i64 0])/\Ext w w':=by
 obtain ⟨i0,F,H,I,J⟩:=ZrE Ju;obtain ⟨hu,hn⟩:=ZlZ ht;have hd:=Zb3 (sinceN t / 86400);have D:=hd.top hn;have HD:=gd (λw' (h:w=w')=>Zoy (sinceN t / 86400) w' hn);have hR:fmtL t=fmtD (dateN (sinceN t / 86400)).1 (dateN (sinceN t / 86400)).2.1 (dateN (sinceN t / 86400)).2.2 (sinceN t % 86400):=rfl;obtain ⟨N,hN⟩:∃N,sinceN t / 86400=N:=⟨_,rfl⟩;obtain ⟨s,hs⟩:∃s,sinceN t % 86400=s:=⟨_,rfl⟩;have gi:t+62135596800=86400*(N:Int)+(s:Int)/\s<86400:=om
 rw[hN,hs] at hR;rw[hN] at hd D HD hn;obtain ⟨q,hq⟩:∃q,dateN N=q:=⟨_,rfl⟩;rw[hq] at hd D HD hR;obtain ⟨y,m,d⟩:=q;simp only at hd D HD hR;have hm:m<100:=by have:=hd.2.2.1;omega
 have ge:d<100:=by have:=hd.2.2.2.2.1;have:=(JK y m).2;omega
 have D:y<10000:=om
 obtain ⟨Y,h8⟩:∃x,s / 3600=x:=⟨_,rfl⟩;obtain ⟨S0,h7⟩:∃x,s / 60=x:=⟨_,rfl⟩;obtain ⟨S2,h9⟩:∃x,S0 % 60=x:=⟨_,rfl⟩;obtain ⟨S3,ga⟩:∃x,s % 60=x:=⟨_,rfl⟩;have h2:Hid (str (((((((((((pad4 y++ [45])++pad2 m)++ [45])++pad2 d)++ [84])++pad2 Y)++ [58])++pad2 S2)++ [58])++pad2 S3)++ [90])=str (fmtL t)):=by show _=_;rw[hR];unfold fmtD;rw[h7,h8,h9,ga];simp
 have Z:=gd hE;have h4:Hid (w=w):=rfl;obtain ⟨h1,gr⟩:=gi;clear hN hs hq hd hR hE ht hu;have gs:(s:Int)<=86399:=om
 have h3:((s:Int) / 3600)=(Y:Int):=om
 have gj:((s:Int) / 60)=(S0:Int):=om
 have gk:((S0:Int) % 60)=(S2:Int):=om
 have h6:((s:Int) % 60)=(S3:Int):=om
 have go:Y<100:=om
 have gp:S2<100:=om
 have gq:S3<100:=om
 have gn:(S0:Int)<=86399:=om
 clear h8 h7 h9 ga;rcases (by omega:0<=t\/t<0) with h0|h0
 ·obtain ⟨a,rfl⟩:=Int.eq_ofNat_of_zero_le h0;have gf:((a:Int) / 86400)=(N:Int) - 719162:=om
  have gg:((a:Int) % 86400)=(s:Int):=om
  have ha:(a:Int)<=253402300799:=om
  clear h1 h0;go_enter func88,ntmps88
  go_wp2_with (first|(go_at_call 130;have C:=HD.out _ h4.out;refine ZqD C ?_;clear C;rintro e w0 ⟨rfl,hJ⟩;have hT:OB w0 w.heap.size (.slice none 0 0) []:=Zrt _ _ _ _)|(go_at_call 131;(have C:=ZcM w w.heap.size (ZqE _) Z.out _ [] y w0 hJ hJ.size hT (by simp) D);(with_reducible refine ZqD C ?_);clear C;rintro e w1 ⟨v1,rfl,X,hK⟩;rw[Zrl] at X)|(at_builtin;refine Za _ rfl (.tmp 32) (.tmp 33) _ rfl w.heap.size 5 i0 _ 1 1 underlying145 F H I J rfl om _ _ _ rfl (X.ext ((Ext.refl w1).alloc _)) _ 1 _ rfl (Zj (cs:= [.int .u8 45]) (by simp) (by unfold maxLen;omega)) (by intro y D;simp at D;subst D;rfl) (by unfold maxLen;simp[pad2,pad4]) (by simp[pad2,pad4]) (ZqM hK.size ((Ext.refl w1).alloc _).size) ?_;intro u1 x1 hp hb hU;have O:Ext w x1:=(hK.alloc _).app hb (X.ext ((Ext.refl w1).alloc _)) (ZqE _);(have hC:OB x1 w.heap.size u1 (pad4 y++ [45]):=OB.of hp (by rw[Zf];rfl));clear hp hb hU)|(go_at_call 131;(have C:=Ym w w.heap.size (ZqE _) Z.out _ (pad4 y++ [45]) m x1 O O.size hC (by simp[pad2,pad4]) om);(with_reducible refine ZqD C ?_);clear C;rintro e w2 ⟨v2,rfl,hi,hL⟩)|(at_builtin;refine Za _ rfl (.tmp 37) (.tmp 38) _ rfl w.heap.size 5 i0 _ 1 1 underlying145 F H I J rfl om _ _ _ rfl (hi.ext ((Ext.refl w2).alloc _)) _ 1 _ rfl (Zj (cs:= [.int .u8 45]) (by simp) (by unfold maxLen;omega)) (by intro y D;simp at D;subst D;rfl) (by unfold maxLen;simp[pad2,pad4]) (by simp[pad2,pad4]) (ZqM hL.size ((Ext.refl w2).alloc _).size) ?_;intro u2 x2 hr hc hV;have Q:Ext w x2:=(hL.alloc _).app hc (hi.ext ((Ext.refl w2).alloc _)) (ZqE _);(have hD:OB x2 w.heap.size u2 (((pad4 y++ [45])++pad2 m)++ [45]):=OB.of hr (by rw[Zf];rfl));clear hr hc hV)|(go_at_call 131;(have C:=Ym w w.heap.size (ZqE _) Z.out _ (((pad4 y++ [45])++pad2 m)++ [45]) d x2 Q Q.size hD (by simp[pad2,pad4]) om);(with_reducible refine ZqD C ?_);clear C;rintro e w3 ⟨v3,rfl,hj,hM⟩)|(at_builtin;refine Za _ rfl (.tmp 42) (.tmp 43) _ rfl w.heap.size 5 i0 _ 1 1 underlying145 F H I J rfl om _ _ _ rfl (hj.ext ((Ext.refl w3).alloc _)) _ 1 _ rfl (Zj (cs:= [.int .u8 84]) (by simp) (by unfold maxLen;omega)) (by intro y D;simp at D;subst D;rfl) (by unfold maxLen;simp[pad2,pad4]) (by simp[pad2,pad4]) (ZqM hM.size ((Ext.refl w3).alloc _).size) ?_;intro u3 x3 hv he hW;have S:Ext w x3:=(hM.alloc _).app he (hj.ext ((Ext.refl w3).alloc _)) (ZqE _);(have hF:OB x3 w.heap.size u3 (((((pad4 y++ [45])++pad2 m)++ [45])++pad2 d)++ [84]):=OB.of hv (by rw[Zf];rfl));clear hv he hW)|(go_at_call 131;(have C:=Ym w w.heap.size (ZqE _) Z.out _ (((((pad4 y++ [45])++pad2 m)++ [45])++pad2 d)++ [84]) Y x3 S S.size hF (by simp[pad2,pad4]) om);(with_reducible refine ZqD C ?_);clear C;rintro e w4 ⟨v4,rfl,hk,hO⟩)|(at_builtin;refine Za _ rfl (.tmp 48) (.tmp 49) _ rfl w.heap.size 5 i0 _ 1 1 underlying145 F H I J rfl om _ _ _ rfl (hk.ext ((Ext.refl w4).alloc _)) _ 1 _ rfl (Zj (cs:= [.int .u8 58]) (by simp) (by unfold maxLen;omega)) (by intro y D;simp at D;subst D;rfl) (by unfold maxLen;simp[pad2,pad4]) (by simp[pad2,pad4]) (ZqM hO.size ((Ext.refl w4).alloc _).size) ?_;intro u4 x4 hw hf hX;have U:Ext w x4:=(hO.alloc _).app hf (hk.ext ((Ext.refl w4).alloc _)) (ZqE _);(have hG:OB x4 w.heap.size u4 (((((((pad4 y++ [45])++pad2 m)++ [45])++pad2 d)++ [84])++pad2 Y)++ [58]):=OB.of hw (by rw[Zf];rfl));clear hw hf hX)|(go_at_call 131;(have C:=Ym w w.heap.size (ZqE _) Z.out _ (((((((pad4 y++ [45])++pad2 m)++ [45])++pad2 d)++ [84])++pad2 Y)++ [58]) S2 x4 U U.size hG (by simp[pad2,pad4]) om);(with_reducible refine ZqD C ?_);clear C;rintro e w5 ⟨v5,rfl,hl,hP⟩)|(at_builtin;refine Za _ rfl (.tmp 55) (.tmp 56) _ rfl w.heap.size 5 i0 _ 1 1 underlying145 F H I J rfl om _ _ _ rfl (hl.ext ((Ext.refl w5).alloc _)) _ 1 _ rfl (Zj (cs:= [.int .u8 58]) (by simp) (by unfold maxLen;omega)) (by intro y D;simp at D;subst D;rfl) (by unfold maxLen;simp[pad2,pad4]) (by simp[pad2,pad4]) (ZqM hP.size ((Ext.refl w5).alloc _).size) ?_;intro u5 x5 hx hg hY;have V:Ext w x5:=(hP.alloc _).app hg (hl.ext ((Ext.refl w5).alloc _)) (ZqE _);(have hH:OB x5 w.heap.size u5 (((((((((pad4 y++ [45])++pad2 m)++ [45])++pad2 d)++ [84])++pad2 Y)++ [58])++pad2 S2)++ [58]):=OB.of hx (by rw[Zf];rfl));clear hx hg hY)|(go_at_call 131;(have C:=Ym w w.heap.size (ZqE _) Z.out _ (((((((((pad4 y++ [45])++pad2 m)++ [45])++pad2 d)++ [84])++pad2 Y)++ [58])++pad2 S2)++ [58]) S3 x5 V V.size hH (by simp[pad2,pad4]) om);(with_reducible refine ZqD C ?_);clear C;rintro e w6 ⟨v6,rfl,ho,hQ⟩)|(at_builtin;refine Za _ rfl (.tmp 61) (.tmp 62) _ rfl w.heap.size 5 i0 _ 1 1 underlying145 F H I J rfl om _ _ _ rfl (ho.ext ((Ext.refl w6).alloc _)) _ 1 _ rfl (Zj (cs:= [.int .u8 90]) (by simp) (by unfold maxLen;omega)) (by intro y D;simp at D;subst D;rfl) (by unfold maxLen;simp[pad2,pad4]) (by simp[pad2,pad4]) (ZqM hQ.size ((Ext.refl w6).alloc _).size) ?_;intro u6 x6 hB hh hZ;have hS:Ext w x6:=(hQ.alloc _).app hh (ho.ext ((Ext.refl w6).alloc _)) (ZqE _);(have hI:OB x6 w.heap.size u6 (((((((((((pad4 y++ [45])++pad2 m)++ [45])++pad2 d)++ [84])++pad2 Y)++ [58])++pad2 S2)++ [58])++pad2 S3)++ [90]):=OB.of hB (by rw[Zf];rfl));have gc:=U4 x6 _ _ _ hI;clear hB hh hZ))
  go_ret2
  exact ⟨by rw[<-h2.out];rfl,hS⟩
 ·obtain ⟨a,rfl⟩:∃a:Nat,t= -(a:Int):=⟨t.natAbs,om⟩;obtain ⟨A,hA⟩:∃A:Nat,a / 86400=A:=⟨_,rfl⟩;obtain ⟨R,hR⟩:∃R:Nat,a % 86400=R:=⟨_,rfl⟩;have gf:((a:Int) / 86400)=(A:Int):=om
  have gg:((a:Int) % 86400)=(R:Int):=om
  have ha:(a:Int)<=253402300799:=om
  have gl:(A:Int)<=3000000:=om
  have gm:(R:Int)<=86399:=om
  have gb:a=86400*A+R/\R<86400:=om
  by_cases h5:R=0
  ·have gh: -(R:Int)=(s:Int):=om;have ge: -(A:Int)=(N:Int) - 719162:=om;have b1:¬(s:Int)<0:=om;clear h1 h0 hA hR gb h5;go_enter func88,ntmps88
   go_wp2_with (first|(go_at_call 130;have C:=HD.out _ h4.out;refine ZqD C ?_;clear C;rintro e w0 ⟨rfl,hJ⟩;have hT:OB w0 w.heap.size (.slice none 0 0) []:=Zrt _ _ _ _)|(go_at_call 131;(have C:=ZcM w w.heap.size (ZqE _) Z.out _ [] y w0 hJ hJ.size hT (by simp) D);(with_reducible refine ZqD C ?_);clear C;rintro e w1 ⟨v1,rfl,X,hK⟩;rw[Zrl] at X)|(at_builtin;refine Za _ rfl (.tmp 32) (.tmp 33) _ rfl w.heap.size 5 i0 _ 1 1 underlying145 F H I J rfl om _ _ _ rfl (X.ext ((Ext.refl w1).alloc _)) _ 1 _ rfl (Zj (cs:= [.int .u8 45]) (by simp) (by unfold maxLen;omega)) (by intro y D;simp at D;subst D;rfl) (by unfold maxLen;simp[pad2,pad4]) (by simp[pad2,pad4]) (ZqM hK.size ((Ext.refl w1).alloc _).size) ?_;intro u1 x1 hp hb hU;have O:Ext w x1:=(hK.alloc _).app hb (X.ext ((Ext.refl w1).alloc _)) (ZqE _);(have hC:OB x1 w.heap.size u1 (pad4 y++ [45]):=OB.of hp (by rw[Zf];rfl));clear hp hb hU)|(go_at_call 131;(have C:=Ym w w.heap.size (ZqE _) Z.out _ (pad4 y++ [45]) m x1 O O.size hC (by simp[pad2,pad4]) om);(with_reducible refine ZqD C ?_);clear C;rintro e w2 ⟨v2,rfl,hi,hL⟩)|(at_builtin;refine Za _ rfl (.tmp 37) (.tmp 38) _ rfl w.heap.size 5 i0 _ 1 1 underlying145 F H I J rfl om _ _ _ rfl (hi.ext ((Ext.refl w2).alloc _)) _ 1 _ rfl (Zj (cs:= [.int .u8 45]) (by simp) (by unfold maxLen;omega)) (by intro y D;simp at D;subst D;rfl) (by unfold maxLen;simp[pad2,pad4]) (by simp[pad2,pad4]) (ZqM hL.size ((Ext.refl w2).alloc _).size) ?_;intro u2 x2 hr hc hV;have Q:Ext w x2:=(hL.alloc _).app hc (hi.ext ((Ext.refl w2).alloc _)) (ZqE _);(have hD:OB x2 w.heap.size u2 (((pad4 y++ [45])++pad2 m)++ [45]):=OB.of hr (by rw[Zf];rfl));clear hr hc hV)|(go_at_call 131;(have C:=Ym w w.heap.size (ZqE _) Z.out _ (((pad4 y++ [45])++pad2 m)++ [45]) d x2 Q Q.size hD (by simp[pad2,pad4]) om);(with_reducible refine ZqD C ?_);clear C;rintro e w3 ⟨v3,rfl,hj,hM⟩)|(at_builtin;refine Za _ rfl (.tmp 42) (.tmp 43) _ rfl w.heap.size 5 i0 _ 1 1 underlying145 F H I J rfl om _ _ _ rfl (hj.ext ((Ext.refl w3).alloc _)) _ 1 _ rfl (Zj (cs:= [.int .u8 84]) (by simp) (by unfold maxLen;omega)) (by intro y D;simp at D;subst D;rfl) (by unfold maxLen;simp[pad2,pad4]) (by simp[pad2,pad4]) (ZqM hM.size ((Ext.refl w3).alloc _).size) ?_;intro u3 x3 hv he hW;have S:Ext w x3:=(hM.alloc _).app he (hj.ext ((Ext.refl w3).alloc _)) (ZqE _);(have hF:OB x3 w.heap.size u3 (((((pad4 y++ [45])++pad2 m)++ [45])++pad2 d)++ [84]):=OB.of hv (by rw[Zf];rfl));clear hv he hW)|(go_at_call 131;(have C:=Ym w w.heap.size (ZqE _) Z.out _ (((((pad4 y++ [45])++pad2 m)++ [45])++pad2 d)++ [84]) Y x3 S S.size hF (by simp[pad2,pad4]) om);(with_reducible refine ZqD C ?_);clear C;rintro e w4 ⟨v4,rfl,hk,hO⟩)|(at_builtin;refine Za _ rfl (.tmp 48) (.tmp 49) _ rfl w.heap.size 5 i0 _ 1 1 underlying145 F H I J rfl om _ _ _ rfl (hk.ext ((Ext.refl w4).alloc _)) _ 1 _ rfl (Zj (cs:= [.int .u8 58]) (by simp) (by unfold maxLen;omega)) (by intro y D;simp at D;subst D;rfl) (by unfold maxLen;simp[pad2,pad4]) (by simp[pad2,pad4]) (ZqM hO.size ((Ext.refl w4).alloc _).size) ?_;intro u4 x4 hw hf hX;have U:Ext w x4:=(hO.alloc _).app hf (hk.ext ((Ext.refl w4).alloc _)) (ZqE _);(have hG:OB x4 w.heap.size u4 (((((((pad4 y++ [45])++pad2 m)++ [45])++pad2 d)++ [84])++pad2 Y)++ [58]):=OB.of hw (by rw[Zf];rfl));clear hw hf hX)|(go_at_call 131;(have C:=Ym w w.heap.size (ZqE _) Z.out _ (((((((pad4 y++ [45])++pad2 m)++ [45])++pad2 d)++ [84])++pad2 Y)++ [58]) S2 x4 U U.size hG (by simp[pad2,pad4]) om);(with_reducible refine ZqD C ?_);clear C;rintro e w5 ⟨v5,rfl,hl,hP⟩)|(at_builtin;refine Za _ rfl (.tmp 55) (.tmp 56) _ rfl w.heap.size 5 i0 _ 1 1 underlying145 F H I J rfl om _ _ _ rfl (hl.ext ((Ext.refl w5).alloc _)) _ 1 _ rfl (Zj (cs:= [.int .u8 58]) (by simp) (by unfold maxLen;omega)) (by intro y D;simp at D;subst D;rfl) (by unfold maxLen;simp[pad2,pad4]) (by simp[pad2,pad4]) (ZqM hP.size ((Ext.refl w5).alloc _).size) ?_;intro u5 x5 hx hg hY;have V:Ext w x5:=(hP.alloc _).app hg (hl.ext ((Ext.refl w5).alloc _)) (ZqE _);(have hH:OB x5 w.heap.size u5 (((((((((pad4 y++ [45])++pad2 m)++ [45])++pad2 d)++ [84])++pad2 Y)++ [58])++pad2 S2)++ [58]):=OB.of hx (by rw[Zf];rfl));clear hx hg hY)|(go_at_call 131;(have C:=Ym w w.heap.size (ZqE _) Z.out _ (((((((((pad4 y++ [45])++pad2 m)++ [45])++pad2 d)++ [84])++pad2 Y)++ [58])++pad2 S2)++ [58]) S3 x5 V V.size hH (by simp[pad2,pad4]) om);(with_reducible refine ZqD C ?_);clear C;rintro e w6 ⟨v6,rfl,ho,hQ⟩)|(at_builtin;refine Za _ rfl (.tmp 61) (.tmp 62) _ rfl w.heap.size 5 i0 _ 1 1 underlying145 F H I J rfl om _ _ _ rfl (ho.ext ((Ext.refl w6).alloc _)) _ 1 _ rfl (Zj (cs:= [.int .u8 90]) (by simp) (by unfold maxLen;omega)) (by intro y D;simp at D;subst D;rfl) (by unfold maxLen;simp[pad2,pad4]) (by simp[pad2,pad4]) (ZqM hQ.size ((Ext.refl w6).alloc _).size) ?_;intro u6 x6 hB hh hZ;have hS:Ext w x6:=(hQ.alloc _).app hh (ho.ext ((Ext.refl w6).alloc _)) (ZqE _);(have hI:OB x6 w.heap.size u6 (((((((((((pad4 y++ [45])++pad2 m)++ [45])++pad2 d)++ [84])++pad2 Y)++ [58])++pad2 S2)++ [58])++pad2 S3)++ [90]):=OB.of hB (by rw[Zf];rfl));have gc:=U4 x6 _ _ _ hI;clear hB hh hZ))
   go_ret2
   exact ⟨by rw[<-h2.out];rfl,hS⟩
  ·have b1: -(R:Int)<0:=om;have ge: -(A:Int) - 1=(N:Int) - 719162:=om;have gh: -(R:Int)+86400=(s:Int):=om;clear h1 h0 hA hR gb h5;go_enter func88,ntmps88
   go_wp2_with (first|(go_at_call 130;have C:=HD.out _ h4.out;refine ZqD C ?_;clear C;rintro e w0 ⟨rfl,hJ⟩;have hT:OB w0 w.heap.size (.slice none 0 0) []:=Zrt _ _ _ _)|(go_at_call 131;(have C:=ZcM w w.heap.size (ZqE _) Z.out _ [] y w0 hJ hJ.size hT (by simp) D);(with_reducible refine ZqD C ?_);clear C;rintro e w1 ⟨v1,rfl,X,hK⟩;rw[Zrl] at X)|(at_builtin;refine Za _ rfl (.tmp 32) (.tmp 33) _ rfl w.heap.size 5 i0 _ 1 1 underlying145 F H I J rfl om _ _ _ rfl (X.ext ((Ext.refl w1).alloc _)) _ 1 _ rfl (Zj (cs:= [.int .u8 45]) (by simp) (by unfold maxLen;omega)) (by intro y D;simp at D;subst D;rfl) (by unfold maxLen;simp[pad2,pad4]) (by simp[pad2,pad4]) (ZqM hK.size ((Ext.refl w1).alloc _).size) ?_;intro u1 x1 hp hb hU;have O:Ext w x1:=(hK.alloc _).app hb (X.ext ((Ext.refl w1).alloc _)) (ZqE _);(have hC:OB x1 w.heap.size u1 (pad4 y++ [45]):=OB.of hp (by rw[Zf];rfl));clear hp hb hU)|(go_at_call 131;(have C:=Ym w w.heap.size (ZqE _) Z.out _ (pad4 y++ [45]) m x1 O O.size hC (by simp[pad2,pad4]) om);(with_reducible refine ZqD C ?_);clear C;rintro e w2 ⟨v2,rfl,hi,hL⟩)|(at_builtin;refine Za _ rfl (.tmp 37) (.tmp 38) _ rfl w.heap.size 5 i0 _ 1 1 underlying145 F H I J rfl om _ _ _ rfl (hi.ext ((Ext.refl w2).alloc _)) _ 1 _ rfl (Zj (cs:= [.int .u8 45]) (by simp) (by unfold maxLen;omega)) (by intro y D;simp at D;subst D;rfl) (by unfold maxLen;simp[pad2,pad4]) (by simp[pad2,pad4]) (ZqM hL.size ((Ext.refl w2).alloc _).size) ?_;intro u2 x2 hr hc hV;have Q:Ext w x2:=(hL.alloc _).app hc (hi.ext ((Ext.refl w2).alloc _)) (ZqE _);(have hD:OB x2 w.heap.size u2 (((pad4 y++ [45])++pad2 m)++ [45]):=OB.of hr (by rw[Zf];rfl));clear hr hc hV)|(go_at_call 131;(have C:=Ym w w.heap.size (ZqE _) Z.out _ (((pad4 y++ [45])++pad2 m)++ [45]) d x2 Q Q.size hD (by simp[pad2,pad4]) om);(with_reducible refine ZqD C ?_);clear C;rintro e w3 ⟨v3,rfl,hj,hM⟩)|(at_builtin;refine Za _ rfl (.tmp 42) (.tmp 43) _ rfl w.heap.size 5 i0 _ 1 1 underlying145 F H I J rfl om _ _ _ rfl (hj.ext ((Ext.refl w3).alloc _)) _ 1 _ rfl (Zj (cs:= [.int .u8 84]) (by simp) (by unfold maxLen;omega)) (by intro y D;simp at D;subst D;rfl) (by unfold maxLen;simp[pad2,pad4]) (by simp[pad2,pad4]) (ZqM hM.size ((Ext.refl w3).alloc _).size) ?_;intro u3 x3 hv he hW;have S:Ext w x3:=(hM.alloc _).app he (hj.ext ((Ext.refl w3).alloc _)) (ZqE _);(have hF:OB x3 w.heap.size u3 (((((pad4 y++ [45])++pad2 m)++ [45])++pad2 d)++ [84]):=OB.of hv (by rw[Zf];rfl));clear hv he hW)|(go_at_call 131;(have C:=Ym w w.heap.size (ZqE _) Z.out _ (((((pad4 y++ [45])++pad2 m)++ [45])++pad2 d)++ [84]) Y x3 S S.size hF (by simp[pad2,pad4]) om);(with_reducible refine ZqD C ?_);clear C;rintro e w4 ⟨v4,rfl,hk,hO⟩)|(at_builtin;refine Za _ rfl (.tmp 48) (.tmp 49) _ rfl w.heap.size 5 i0 _ 1 1 underlying145 F H I J rfl om _ _ _ rfl (hk.ext ((Ext.refl w4).alloc _)) _ 1 _ rfl (Zj (cs:= [.int .u8 58]) (by simp) (by unfold maxLen;omega)) (by intro y D;simp at D;subst D;rfl) (by unfold maxLen;simp[pad2,pad4]) (by simp[pad2,pad4]) (ZqM hO.size ((Ext.refl w4).alloc _).size) ?_;intro u4 x4 hw hf hX;have U:Ext w x4:=(hO.alloc _).app hf (hk.ext ((Ext.refl w4).alloc _)) (ZqE _);(have hG:OB x4 w.heap.size u4 (((((((pad4 y++ [45])++pad2 m)++ [45])++pad2 d)++ [84])++pad2 Y)++ [58]):=OB.of hw (by rw[Zf];rfl));clear hw hf hX)|(go_at_call 131;(have C:=Ym w w.heap.size (ZqE _) Z.out _ (((((((pad4 y++ [45])++pad2 m)++ [45])++pad2 d)++ [84])++pad2 Y)++ [58]) S2 x4 U U.size hG (by simp[pad2,pad4]) om);(with_reducible refine ZqD C ?_);clear C;rintro e w5 ⟨v5,rfl,hl,hP⟩)|(at_builtin;refine Za _ rfl (.tmp 55) (.tmp 56) _ rfl w.heap.size 5 i0 _ 1 1 underlying145 F H I J rfl om _ _ _ rfl (hl.ext ((Ext.refl w5).alloc _)) _ 1 _ rfl (Zj (cs:= [.int .u8 58]) (by simp) (by unfold maxLen;omega)) (by intro y D;simp at D;subst D;rfl) (by unfold maxLen;simp[pad2,pad4]) (by simp[pad2,pad4]) (ZqM hP.size ((Ext.refl w5).alloc _).size) ?_;intro u5 x5 hx hg hY;have V:Ext w x5:=(hP.alloc _).app hg (hl.ext ((Ext.refl w5).alloc _)) (ZqE _);(have hH:OB x5 w.heap.size u5 (((((((((pad4 y++ [45])++pad2 m)++ [45])++pad2 d)++ [84])++pad2 Y)++ [58])++pad2 S2)++ [58]):=OB.of hx (by rw[Zf];rfl));clear hx hg hY)|(go_at_call 131;(have C:=Ym w w.heap.size (ZqE _) Z.out _ (((((((((pad4 y++ [45])++pad2 m)++ [45])++pad2 d)++ [84])++pad2 Y)++ [58])++pad2 S2)++ [58]) S3 x5 V V.size hH (by simp[pad2,pad4]) om);(with_reducible refine ZqD C ?_);clear C;rintro e w6 ⟨v6,rfl,ho,hQ⟩)|(at_builtin;refine Za _ rfl (.tmp 61) (.tmp 62) _ rfl w.heap.size 5 i0 _ 1 1 underlying145 F H I J rfl om _ _ _ rfl (ho.ext ((Ext.refl w6).alloc _)) _ 1 _ rfl (Zj (cs:= [.int .u8 90]) (by simp) (by unfold maxLen;omega)) (by intro y D;simp at D;subst D;rfl) (by unfold maxLen;simp[pad2,pad4]) (by simp[pad2,pad4]) (ZqM hQ.size ((Ext.refl w6).alloc _).size) ?_;intro u6 x6 hB hh hZ;have hS:Ext w x6:=(hQ.alloc _).app hh (ho.ext ((Ext.refl w6).alloc _)) (ZqE _);(have hI:OB x6 w.heap.size u6 (((((((((((pad4 y++ [45])++pad2 m)++ [45])++pad2 d)++ [84])++pad2 Y)++ [58])++pad2 S2)++ [58])++pad2 S3)++ [90]):=OB.of hB (by rw[Zf];rfl));have gc:=U4 x6 _ _ _ hI;clear hB hh hZ))
   go_ret2
   exact ⟨by rw[<-h2.out];rfl,hS⟩
end
end Go.Proofs.YtmfinhgobjbecaaGreatDoor
