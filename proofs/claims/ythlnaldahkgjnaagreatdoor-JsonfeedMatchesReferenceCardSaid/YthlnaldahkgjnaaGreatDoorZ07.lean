/- Parts of the proof: contracts and plain laws. -/
import Derived.Test.YthlnaldahkgjnaaGreatDoorZ06
namespace Go.Proofs.YthlnaldahkgjnaaGreatDoor
open Go Go.RowKit _root_.Go.Proofs.Tryz
set_option linter.unusedVariables false
set_option linter.unusedSimpArgs false
set_option maxRecDepth 100000
set_option maxHeartbeats 16000000
section
set_option linter.unusedSimpArgs false
theorem Zbs {y m d h mi s t:Int} (j:secsI y m d h mi s=some t): -62135596800<=t/\t<=253438000000:=by
 unfold secsI at j;split at j
 ·rename_i C;injection j with j;have F:=QO (y:=y) (m:=m) (by omega);obtain ⟨y,rfl⟩:=Int.eq_ofNat_of_zero_le (show 0<=y by omega);obtain ⟨m,rfl⟩:=Int.eq_ofNat_of_zero_le (show 0<=m by omega);obtain ⟨d,rfl⟩:=Int.eq_ofNat_of_zero_le (show 0<=d by omega);have A:1<=y/\y<=9999/\1<=m/\m<=12:=by omega
  have D:=Jg A;have:=ES (d:=d) A (by omega);simp only[Int.toNat_natCast] at j;omega
 ·cases j
theorem Zac {l:List UInt8} {a:Nat} {o:Int} (h:offP l a=some o): -86400<=o/\o<=86400:=by
 cases h0:sepP l a 90 122 with
 |true=>
  unfold offP at h;rw[h0,Zi rfl] at h;split at h
  ·injection h with h;omega
  ·cases h
 |false=>
  rw[Ka l a h0] at h;cases h1:numP l (a+1) 2 with
  |none=>rw[h1] at h;cases h
  |some x=>
   cases h2:numP l (a+4) 2 with
   |none=>rw[h1,h2] at h;cases h
   |some y=>
    rw[h1,h2] at h;simp only at h;split at h
    ·rename_i j;injection h with h;split at h<;>omega
    ·cases h
def sepsP (l:List UInt8):Bool:=sepP l 4 45 45 && sepP l 7 45 45 && sepP l 10 84 116 && sepP l 13 58 58 && sepP l 16 58 58
theorem GA (l:List UInt8):stampP l=if sepsP l=true then secsI (oi (numP l 0 4)) (oi (numP l 5 2)) (oi (numP l 8 2)) (oi (numP l 11 2)) (oi (numP l 14 2)) (oi (numP l 17 2)) else none:=by
 rw[Zbt];rfl
theorem UK {l:List UInt8} (h:stampP l=none):timeP l=none:=by unfold timeP;rw[h]
theorem GY {l:List UInt8} (h:fracP l 19=none):timeP l=none:=by unfold timeP;rw[h];cases stampP l<;>rfl
theorem Qx {l:List UInt8} {t:Int} {a:Nat} (h:stampP l=some t) (j:fracP l 19=some a):timeP l=match offP l a with|some o=>if inT (t - o) then some (t - o) else none|none=>none:=by unfold timeP;rw[h,j];rfl
def TimeR (l:List UInt8) (e:Ending):Prop:=match timeP l with
 |some t=>e= .returned (.tuple #[.int .i64 t,.int .i64 0])
 |none=>∃x:Int,x≠0/\e= .returned (.tuple #[.int .i64 0,.int .i64 x])
theorem Zbp (s:ByteArray) (w:World) (H:s.size<=16777216):
 Calls prog 82 #[.string s] w λe w'=>TimeR s.data.toList e/\w'=w:=by
 have I0:=gd (λw'=>XX s 4 45 45 w' H (by omega) (by omega) (by omega));have I1:=gd (λw'=>XX s 7 45 45 w' H (by omega) (by omega) (by omega));have I2:=gd (λw'=>XX s 10 84 116 w' H (by omega) (by omega) (by omega));have I3:=gd (λw'=>XX s 13 58 58 w' H (by omega) (by omega) (by omega));have I4:=gd (λw'=>XX s 16 58 58 w' H (by omega) (by omega) (by omega));cases hsep:sepsP s.data.toList with
 |false=>
  have G:timeP s.data.toList=none:=UK (by rw[GA,hsep];rfl);have F:Hid (∀e,TimeR s.data.toList e=∃x:Int,x≠0/\e= .returned (.tuple #[.int .i64 0,.int .i64 x])):=gd (λe=>by unfold TimeR;rw[G]);unfold sepsP at hsep;generalize sepP s.data.toList 4 45 45=p0 at*;generalize sepP s.data.toList 7 45 45=p1 at*;generalize sepP s.data.toList 10 84 116=p2 at*;generalize sepP s.data.toList 13 58 58=p3 at*;generalize sepP s.data.toList 16 58 58=p4 at*;have hc:p0=false\/(p0=true/\p1=false)\/(p0=true/\p1=true/\p2=false)\/(p0=true/\p1=true/\p2=true/\p3=false)\/(p0=true/\p1=true/\p2=true/\p3=true/\p4=false):=by revert hsep;cases p0<;>cases p1<;>cases p2<;>cases p3<;>cases p4<;>simp
  clear hsep G;go_enter func82,ntmps82;rcases hc with rfl|⟨rfl,rfl⟩|⟨rfl,rfl,rfl⟩|⟨rfl,rfl,rfl,rfl⟩|⟨rfl,rfl,rfl,rfl,rfl⟩
  all_goals go_wp2_with (first|(go_at_call 129;(have j:=I0.out w);(with_reducible refine Za j ?_);clear j;rintro e w0 ⟨rfl,rfl⟩)|(go_at_call 129;(have j:=I1.out w0);(with_reducible refine Za j ?_);clear j;rintro e w1 ⟨rfl,rfl⟩)|(go_at_call 129;(have j:=I2.out w1);(with_reducible refine Za j ?_);clear j;rintro e w2 ⟨rfl,rfl⟩)|(go_at_call 129;(have j:=I3.out w2);(with_reducible refine Za j ?_);clear j;rintro e K ⟨rfl,rfl⟩)|(go_at_call 129;(have j:=I4.out K);(with_reducible refine Za j ?_);clear j;rintro e O ⟨rfl,rfl⟩))
  all_goals go_ret2
  all_goals exact ⟨by rw[F.out];exact ⟨20,by decide,rfl⟩,rfl⟩
 |true=>
  have A:=GA s.data.toList;rw[hsep,Zi rfl] at A;unfold sepsP at hsep;simp only[ZU] at hsep;obtain ⟨⟨⟨⟨s0,s1⟩,s2⟩,s3⟩,s4⟩:=hsep;rw[s0] at I0;rw[s1] at I1;rw[s2] at I2;rw[s3] at I3;rw[s4] at I4;have N0:=gd (λw'=>YX s 0 4 w' H (by omega) (by omega) (by omega));have N1:=gd (λw'=>YX s 5 2 w' H (by omega) (by omega) (by omega));have N2:=gd (λw'=>YX s 8 2 w' H (by omega) (by omega) (by omega));have N3:=gd (λw'=>YX s 11 2 w' H (by omega) (by omega) (by omega));have N4:=gd (λw'=>YX s 14 2 w' H (by omega) (by omega) (by omega));have N5:=gd (λw'=>YX s 17 2 w' H (by omega) (by omega) (by omega));have I5:=gd (λw'=>XX s 19 46 46 w' H (by omega) (by omega) (by omega));generalize oi (numP s.data.toList 0 4)=Y0 at*;generalize oi (numP s.data.toList 5 2)=Y1 at*;generalize oi (numP s.data.toList 8 2)=Y2 at*;generalize oi (numP s.data.toList 11 2)=Y3 at*;generalize oi (numP s.data.toList 14 2)=Y4 at*;generalize oi (numP s.data.toList 17 2)=Y5 at*;have SE:=gd (λw'=>Ic Y0 Y1 Y2 Y3 Y4 Y5 w');clear s0 s1 s2 s3 s4;cases hsec:secsI Y0 Y1 Y2 Y3 Y4 Y5 with
  |none=>
   rw[hsec] at A SE;have C:=UK A;have F:Hid (∀e,TimeR s.data.toList e=∃x:Int,x≠0/\e= .returned (.tuple #[.int .i64 0,.int .i64 x])):=gd (λe=>by unfold TimeR;rw[C]);clear C A hsec;go_enter func82,ntmps82
   go_wp2_with (first|(go_at_call 129;(have j:=I0.out w);(with_reducible refine Za j ?_);clear j;rintro e w0 ⟨rfl,rfl⟩)|(go_at_call 129;(have j:=I1.out w0);(with_reducible refine Za j ?_);clear j;rintro e w1 ⟨rfl,rfl⟩)|(go_at_call 129;(have j:=I2.out w1);(with_reducible refine Za j ?_);clear j;rintro e w2 ⟨rfl,rfl⟩)|(go_at_call 129;(have j:=I3.out w2);(with_reducible refine Za j ?_);clear j;rintro e K ⟨rfl,rfl⟩)|(go_at_call 129;(have j:=I4.out K);(with_reducible refine Za j ?_);clear j;rintro e O ⟨rfl,rfl⟩)|(go_at_call 131;(have j:=N0.out O);(with_reducible refine Za j ?_);clear j;rintro e V ⟨rfl,rfl⟩)|(go_at_call 131;(have j:=N1.out V);(with_reducible refine Za j ?_);clear j;rintro e Y ⟨rfl,rfl⟩)|(go_at_call 131;(have j:=N2.out Y);(with_reducible refine Za j ?_);clear j;rintro e Z ⟨rfl,rfl⟩)|(go_at_call 131;(have j:=N3.out Z);(with_reducible refine Za j ?_);clear j;rintro e w8 ⟨rfl,rfl⟩)|(go_at_call 131;(have j:=N4.out w8);(with_reducible refine Za j ?_);clear j;rintro e w9 ⟨rfl,rfl⟩)|(go_at_call 131;(have j:=N5.out w9);(with_reducible refine Za j ?_);clear j;rintro e wa ⟨rfl,rfl⟩)|(go_at_call 130;(have j:=SE.out wa);(with_reducible refine Za j ?_);clear j;rintro e wb ⟨rfl,rfl⟩))
   go_ret2
   exact ⟨by rw[F.out];exact ⟨20,by decide,rfl⟩,rfl⟩
  |some t=>
   have R:=Zbs hsec;rw[hsec] at A SE;clear hsec;cases hf:sepP s.data.toList 19 46 46 with
   |false=>
    rw[hf] at I5;have hfr:fracP s.data.toList 19=some 19:=(by unfold fracP;rw[hf];rfl);clear hf;have C:=Qx A hfr;have Q:=gd (λw'=>V5 s 19 w' H (by omega));cases ho:offP s.data.toList 19 with
    |none=>
     rw[ho] at Q C;have F:Hid (∀e,TimeR s.data.toList e=∃x:Int,x≠0/\e= .returned (.tuple #[.int .i64 0,.int .i64 x])):=gd (λe=>by unfold TimeR;rw[C]);clear C ho A hfr;go_enter func82,ntmps82
     go_wp2_with (first|(go_at_call 129;(have j:=I0.out w);(with_reducible refine Za j ?_);clear j;rintro e w0 ⟨rfl,rfl⟩)|(go_at_call 129;(have j:=I1.out w0);(with_reducible refine Za j ?_);clear j;rintro e w1 ⟨rfl,rfl⟩)|(go_at_call 129;(have j:=I2.out w1);(with_reducible refine Za j ?_);clear j;rintro e w2 ⟨rfl,rfl⟩)|(go_at_call 129;(have j:=I3.out w2);(with_reducible refine Za j ?_);clear j;rintro e K ⟨rfl,rfl⟩)|(go_at_call 129;(have j:=I4.out K);(with_reducible refine Za j ?_);clear j;rintro e O ⟨rfl,rfl⟩)|(go_at_call 131;(have j:=N0.out O);(with_reducible refine Za j ?_);clear j;rintro e V ⟨rfl,rfl⟩)|(go_at_call 131;(have j:=N1.out V);(with_reducible refine Za j ?_);clear j;rintro e Y ⟨rfl,rfl⟩)|(go_at_call 131;(have j:=N2.out Y);(with_reducible refine Za j ?_);clear j;rintro e Z ⟨rfl,rfl⟩)|(go_at_call 131;(have j:=N3.out Z);(with_reducible refine Za j ?_);clear j;rintro e w8 ⟨rfl,rfl⟩)|(go_at_call 131;(have j:=N4.out w8);(with_reducible refine Za j ?_);clear j;rintro e w9 ⟨rfl,rfl⟩)|(go_at_call 131;(have j:=N5.out w9);(with_reducible refine Za j ?_);clear j;rintro e wa ⟨rfl,rfl⟩)|(go_at_call 130;(have j:=SE.out wa);(with_reducible refine Za j ?_);clear j;rintro e wb ⟨rfl,rfl⟩)|(go_at_call 129;(have j:=I5.out wb);(with_reducible refine Za j ?_);clear j;rintro e wc ⟨rfl,rfl⟩)|(go_at_call 132;(have j:=Q.out wc);(with_reducible refine Za j ?_);clear j;rintro e wd ⟨rfl,rfl⟩))
     go_ret2
     exact ⟨by rw[F.out];exact ⟨20,by decide,rfl⟩,rfl⟩
    |some o=>
     have S:=Zac ho;rw[ho] at Q C;simp only at C;cases G:inT (t - o) with
     |true=>
      rw[G,Zi rfl] at C;have F:Hid (∀e,TimeR s.data.toList e=(e= .returned (.tuple #[.int .i64 (t - o),.int .i64 0]))):=gd (λe=>by unfold TimeR;rw[C]);have U: -62135596800<=t - o/\t - o<=253402300799:=(by simpa [inT] using G);have hw:wrap64 (t - o)=t - o:=Xn _ ⟨by omega,by omega⟩;obtain ⟨X,hX⟩:∃X,t - o=X:=⟨_,rfl⟩;rw[hX] at U F hw;have q1:¬X< -62135596800:=(by omega);have q2:¬253402300799<X:=(by omega);clear C ho A hfr G U S R;go_enter func82,ntmps82
      go_wp2_with (first|(go_at_call 129;(have j:=I0.out w);(with_reducible refine Za j ?_);clear j;rintro e w0 ⟨rfl,rfl⟩)|(go_at_call 129;(have j:=I1.out w0);(with_reducible refine Za j ?_);clear j;rintro e w1 ⟨rfl,rfl⟩)|(go_at_call 129;(have j:=I2.out w1);(with_reducible refine Za j ?_);clear j;rintro e w2 ⟨rfl,rfl⟩)|(go_at_call 129;(have j:=I3.out w2);(with_reducible refine Za j ?_);clear j;rintro e K ⟨rfl,rfl⟩)|(go_at_call 129;(have j:=I4.out K);(with_reducible refine Za j ?_);clear j;rintro e O ⟨rfl,rfl⟩)|(go_at_call 131;(have j:=N0.out O);(with_reducible refine Za j ?_);clear j;rintro e V ⟨rfl,rfl⟩)|(go_at_call 131;(have j:=N1.out V);(with_reducible refine Za j ?_);clear j;rintro e Y ⟨rfl,rfl⟩)|(go_at_call 131;(have j:=N2.out Y);(with_reducible refine Za j ?_);clear j;rintro e Z ⟨rfl,rfl⟩)|(go_at_call 131;(have j:=N3.out Z);(with_reducible refine Za j ?_);clear j;rintro e w8 ⟨rfl,rfl⟩)|(go_at_call 131;(have j:=N4.out w8);(with_reducible refine Za j ?_);clear j;rintro e w9 ⟨rfl,rfl⟩)|(go_at_call 131;(have j:=N5.out w9);(with_reducible refine Za j ?_);clear j;rintro e wa ⟨rfl,rfl⟩)|(go_at_call 130;(have j:=SE.out wa);(with_reducible refine Za j ?_);clear j;rintro e wb ⟨rfl,rfl⟩)|(go_at_call 129;(have j:=I5.out wb);(with_reducible refine Za j ?_);clear j;rintro e wc ⟨rfl,rfl⟩)|(go_at_call 132;(have j:=Q.out wc);(with_reducible refine Za j ?_);clear j;rintro e wd ⟨rfl,rfl⟩))
      go_ret2
      exact ⟨by rw[F.out];rfl,rfl⟩
     |false=>
      rw[G,Zf (by decide)] at C;have F:Hid (∀e,TimeR s.data.toList e=∃x:Int,x≠0/\e= .returned (.tuple #[.int .i64 0,.int .i64 x])):=gd (λe=>by unfold TimeR;rw[C]);have U:t - o< -62135596800\/(¬t - o< -62135596800/\253402300799<t - o):=(by have:¬(-62135596800<=t - o/\t - o<=253402300799):=λh=>(by rw[show inT (t - o)=true by simpa [inT] using h] at G;cases G);omega);have hw:wrap64 (t - o)=t - o:=Xn _ ⟨by omega,by omega⟩;obtain ⟨X,hX⟩:∃X,t - o=X:=⟨_,rfl⟩;rw[hX] at U hw;clear C ho A hfr G S R;go_enter func82,ntmps82;rcases U with q1|⟨q1,q2⟩
      all_goals go_wp2_with (first|(go_at_call 129;(have j:=I0.out w);(with_reducible refine Za j ?_);clear j;rintro e w0 ⟨rfl,rfl⟩)|(go_at_call 129;(have j:=I1.out w0);(with_reducible refine Za j ?_);clear j;rintro e w1 ⟨rfl,rfl⟩)|(go_at_call 129;(have j:=I2.out w1);(with_reducible refine Za j ?_);clear j;rintro e w2 ⟨rfl,rfl⟩)|(go_at_call 129;(have j:=I3.out w2);(with_reducible refine Za j ?_);clear j;rintro e K ⟨rfl,rfl⟩)|(go_at_call 129;(have j:=I4.out K);(with_reducible refine Za j ?_);clear j;rintro e O ⟨rfl,rfl⟩)|(go_at_call 131;(have j:=N0.out O);(with_reducible refine Za j ?_);clear j;rintro e V ⟨rfl,rfl⟩)|(go_at_call 131;(have j:=N1.out V);(with_reducible refine Za j ?_);clear j;rintro e Y ⟨rfl,rfl⟩)|(go_at_call 131;(have j:=N2.out Y);(with_reducible refine Za j ?_);clear j;rintro e Z ⟨rfl,rfl⟩)|(go_at_call 131;(have j:=N3.out Z);(with_reducible refine Za j ?_);clear j;rintro e w8 ⟨rfl,rfl⟩)|(go_at_call 131;(have j:=N4.out w8);(with_reducible refine Za j ?_);clear j;rintro e w9 ⟨rfl,rfl⟩)|(go_at_call 131;(have j:=N5.out w9);(with_reducible refine Za j ?_);clear j;rintro e wa ⟨rfl,rfl⟩)|(go_at_call 130;(have j:=SE.out wa);(with_reducible refine Za j ?_);clear j;rintro e wb ⟨rfl,rfl⟩)|(go_at_call 129;(have j:=I5.out wb);(with_reducible refine Za j ?_);clear j;rintro e wc ⟨rfl,rfl⟩)|(go_at_call 132;(have j:=Q.out wc);(with_reducible refine Za j ?_);clear j;rintro e wd ⟨rfl,rfl⟩))
      all_goals go_ret2
      all_goals exact ⟨by rw[F.out];exact ⟨3,by decide,rfl⟩,rfl⟩
   |true=>
    rw[hf] at I5;have J:fracP s.data.toList 19=if digsP s.data.toList s.data.toList.length 20=0 then none else some (20+digsP s.data.toList s.data.toList.length 20):=(by unfold fracP;rw[hf];rfl)
    have I:=gd (λw'=>YX s 20 1 w' H (by omega) (by omega) (by omega));rw[Zba] at I;cases hd:digP s.data.toList 20 with
    |none=>
     rw[hd] at I;have C:=GY (J.trans (by rw[Uu (by rw[hd];rfl)];rfl));have F:Hid (∀e,TimeR s.data.toList e=∃x:Int,x≠0/\e= .returned (.tuple #[.int .i64 0,.int .i64 x])):=gd (λe=>by unfold TimeR;rw[C]);clear C A J hf hd R;simp only[oi] at I;go_enter func82,ntmps82
     go_wp2_with (first|(go_at_call 129;(have j:=I0.out w);(with_reducible refine Za j ?_);clear j;rintro e w0 ⟨rfl,rfl⟩)|(go_at_call 129;(have j:=I1.out w0);(with_reducible refine Za j ?_);clear j;rintro e w1 ⟨rfl,rfl⟩)|(go_at_call 129;(have j:=I2.out w1);(with_reducible refine Za j ?_);clear j;rintro e w2 ⟨rfl,rfl⟩)|(go_at_call 129;(have j:=I3.out w2);(with_reducible refine Za j ?_);clear j;rintro e K ⟨rfl,rfl⟩)|(go_at_call 129;(have j:=I4.out K);(with_reducible refine Za j ?_);clear j;rintro e O ⟨rfl,rfl⟩)|(go_at_call 131;(have j:=N0.out O);(with_reducible refine Za j ?_);clear j;rintro e V ⟨rfl,rfl⟩)|(go_at_call 131;(have j:=N1.out V);(with_reducible refine Za j ?_);clear j;rintro e Y ⟨rfl,rfl⟩)|(go_at_call 131;(have j:=N2.out Y);(with_reducible refine Za j ?_);clear j;rintro e Z ⟨rfl,rfl⟩)|(go_at_call 131;(have j:=N3.out Z);(with_reducible refine Za j ?_);clear j;rintro e w8 ⟨rfl,rfl⟩)|(go_at_call 131;(have j:=N4.out w8);(with_reducible refine Za j ?_);clear j;rintro e w9 ⟨rfl,rfl⟩)|(go_at_call 131;(have j:=N5.out w9);(with_reducible refine Za j ?_);clear j;rintro e wa ⟨rfl,rfl⟩)|(go_at_call 130;(have j:=SE.out wa);(with_reducible refine Za j ?_);clear j;rintro e wb ⟨rfl,rfl⟩)|(go_at_call 129;(have j:=I5.out wb);(with_reducible refine Za j ?_);clear j;rintro e wc ⟨rfl,rfl⟩)|(go_at_call 131;(have j:=I.out wc);(with_reducible refine Za j ?_);clear j;rintro e we ⟨rfl,rfl⟩))
     go_ret2
     exact ⟨by rw[F.out];exact ⟨20,by decide,rfl⟩,rfl⟩
    |some d=>
     rw[hd] at I;simp only[oi] at I;have hh:=ZcJ hd;have hg:20<s.data.toList.length:=by
      rcases YG 20 s.data.toList.length with h|h
      ·exact h
      ·rw[Ut h] at hd;cases hd
     obtain ⟨D,hD⟩:∃D,20+digsP s.data.toList s.data.toList.length 20=D:=⟨_,rfl⟩;have hfr:fracP s.data.toList 19=some D:=(by rw[J,Zf,hD];obtain ⟨k,hk⟩:∃k,s.data.toList.length=k+1:=⟨s.data.toList.length - 1,by omega⟩;rw[hk,Qm (by rw[hd];rfl)];omega);have hb:=gd hD;have hj:D<=s.size:=(by have:=QL (l:=s.data.toList) s.data.toList.length 20 (by omega);rw[Zn] at this hD;omega);have q0:¬(d:Int)<0:=(by omega);rw[Zn] at hg;clear hD J hf hd hh;go_enter func82,ntmps82
     go_wp2_with (first|(go_at_call 129;(have j:=I0.out w);(with_reducible refine Za j ?_);clear j;rintro e w0 ⟨rfl,rfl⟩)|(go_at_call 129;(have j:=I1.out w0);(with_reducible refine Za j ?_);clear j;rintro e w1 ⟨rfl,rfl⟩)|(go_at_call 129;(have j:=I2.out w1);(with_reducible refine Za j ?_);clear j;rintro e w2 ⟨rfl,rfl⟩)|(go_at_call 129;(have j:=I3.out w2);(with_reducible refine Za j ?_);clear j;rintro e K ⟨rfl,rfl⟩)|(go_at_call 129;(have j:=I4.out K);(with_reducible refine Za j ?_);clear j;rintro e O ⟨rfl,rfl⟩)|(go_at_call 131;(have j:=N0.out O);(with_reducible refine Za j ?_);clear j;rintro e V ⟨rfl,rfl⟩)|(go_at_call 131;(have j:=N1.out V);(with_reducible refine Za j ?_);clear j;rintro e Y ⟨rfl,rfl⟩)|(go_at_call 131;(have j:=N2.out Y);(with_reducible refine Za j ?_);clear j;rintro e Z ⟨rfl,rfl⟩)|(go_at_call 131;(have j:=N3.out Z);(with_reducible refine Za j ?_);clear j;rintro e w8 ⟨rfl,rfl⟩)|(go_at_call 131;(have j:=N4.out w8);(with_reducible refine Za j ?_);clear j;rintro e w9 ⟨rfl,rfl⟩)|(go_at_call 131;(have j:=N5.out w9);(with_reducible refine Za j ?_);clear j;rintro e wa ⟨rfl,rfl⟩)|(go_at_call 130;(have j:=SE.out wa);(with_reducible refine Za j ?_);clear j;rintro e wb ⟨rfl,rfl⟩)|(go_at_call 129;(have j:=I5.out wb);(with_reducible refine Za j ?_);clear j;rintro e wc ⟨rfl,rfl⟩)|(go_at_call 131;(have j:=I.out wc);(with_reducible refine Za j ?_);clear j;rintro e we ⟨rfl,rfl⟩))
     obtain ⟨wP,hi⟩:∃wP:World,wP=we:=⟨_,rfl⟩;subst hi;go_loopw [6] (λv wr=>∃a:Nat,20<=a/\a<=s.size/\v= .int .i64 (a:Nat)/\Hid (a+digsP s.data.toList s.data.toList.length a=D)/\wr=wP) (λv _=>s.size - (intOf v).toNat)
     case atStart=>exact ⟨20,by omega,by omega,rfl,hb,rfl⟩
     case round=>
      obtain ⟨a,hl,hm,rfl,ha,rfl⟩:=hrel;have NA:=gd (λw'=>YX s a 1 w' H (by omega) (by omega) (by omega));rw[Zba] at NA;cases hdg:digP s.data.toList a with
      |some d2=>
       rw[hdg] at NA;simp only[oi] at NA;have hn:a<s.size:=by
        rcases YG a s.data.toList.length with h|h
        ·rwa [Zn] at h
        ·rw[Ut h] at hdg;cases hdg
       have he:Hid (a+1+digsP s.data.toList s.data.toList.length (a+1)=D):=(by show _=_;rw[<-ha.out];obtain ⟨k,hk⟩:∃k,s.data.toList.length=k+1:=⟨s.data.toList.length - 1,by rw[Zn];omega⟩;have h2:=Qm (l:=s.data.toList) (k:=k) (i:=a) (by rw[hdg];rfl);have h3:=UZ (l:=s.data.toList) k s.data.toList.length (a+1) (by omega) (by omega);rw[hk] at h3|-;omega);have q2:(0:Int)<=(d2:Int):=(by omega);clear hdg ha
       go_wp2_with (first|(go_at_call 131;(have j:=NA.out wr);(with_reducible refine Za j ?_);clear j;rintro e wf ⟨rfl,rfl⟩))
       go_roundw
       case rel=>exact ⟨a+1,by omega,by omega,by go_num,he,trivial⟩
       case measure=>simp[intOf];omega
      |none=>
       rw[hdg] at NA;simp only[oi] at NA;obtain rfl:a=D:=(by have:=ha.out;rw[Uu (by rw[hdg];rfl)] at this;exact this);clear hdg ha hb;have C:=Qx A hfr;have Q:=gd (λw'=>V5 s a w' H (by omega));cases ho:offP s.data.toList a with
       |none=>
        rw[ho] at Q C;have F:Hid (∀e,TimeR s.data.toList e=∃x:Int,x≠0/\e= .returned (.tuple #[.int .i64 0,.int .i64 x])):=gd (λe=>by unfold TimeR;rw[C]);clear C ho A hfr
        go_wp2_with (first|(go_at_call 131;(have j:=NA.out wr);(with_reducible refine Za j ?_);clear j;rintro e wg ⟨rfl,rfl⟩)|(go_at_call 132;(have j:=Q.out wg);(with_reducible refine Za j ?_);clear j;rintro e wd ⟨rfl,rfl⟩))
        go_ret2
        exact ⟨by rw[F.out];exact ⟨20,by decide,rfl⟩,rfl⟩
       |some o=>
        have S:=Zac ho;rw[ho] at Q C;simp only at C;cases G:inT (t - o) with
        |true=>
         rw[G,Zi rfl] at C;have F:Hid (∀e,TimeR s.data.toList e=(e= .returned (.tuple #[.int .i64 (t - o),.int .i64 0]))):=gd (λe=>by unfold TimeR;rw[C]);have U: -62135596800<=t - o/\t - o<=253402300799:=(by simpa [inT] using G);have hw:wrap64 (t - o)=t - o:=Xn _ ⟨by omega,by omega⟩;obtain ⟨X,hX⟩:∃X,t - o=X:=⟨_,rfl⟩;rw[hX] at U F hw;have q1:¬X< -62135596800:=(by omega);have q2:¬253402300799<X:=(by omega);clear C ho A hfr G U S R
         go_wp2_with (first|(go_at_call 131;(have j:=NA.out wr);(with_reducible refine Za j ?_);clear j;rintro e wg ⟨rfl,rfl⟩)|(go_at_call 132;(have j:=Q.out wg);(with_reducible refine Za j ?_);clear j;rintro e wd ⟨rfl,rfl⟩))
         go_ret2
         exact ⟨by rw[F.out];rfl,rfl⟩
        |false=>
         rw[G,Zf (by decide)] at C;have F:Hid (∀e,TimeR s.data.toList e=∃x:Int,x≠0/\e= .returned (.tuple #[.int .i64 0,.int .i64 x])):=gd (λe=>by unfold TimeR;rw[C]);have U:t - o< -62135596800\/(¬t - o< -62135596800/\253402300799<t - o):=(by have:¬(-62135596800<=t - o/\t - o<=253402300799):=λh=>(by rw[show inT (t - o)=true by simpa [inT] using h] at G;cases G);omega);have hw:wrap64 (t - o)=t - o:=Xn _ ⟨by omega,by omega⟩;obtain ⟨X,hX⟩:∃X,t - o=X:=⟨_,rfl⟩;rw[hX] at U hw;clear C ho A hfr G S R;rcases U with q1|⟨q1,q2⟩
         all_goals go_wp2_with (first|(go_at_call 131;(have j:=NA.out wr);(with_reducible refine Za j ?_);clear j;rintro e wg ⟨rfl,rfl⟩)|(go_at_call 132;(have j:=Q.out wg);(with_reducible refine Za j ?_);clear j;rintro e wd ⟨rfl,rfl⟩))
         all_goals go_ret2
         all_goals exact ⟨by rw[F.out];exact ⟨3,by decide,rfl⟩,rfl⟩
end
theorem Ext.bytes {a w:World} (h:Ext a w) (e:TypeId) (s:ByteArray):Ext a (Lib.bytesWorld w e s):=by
 have A:=h.size;refine ⟨h.os,h.tape,h.output,?_,?_⟩
 ·rw[Lib.bytesWorld_size];omega
 ·intro k j;rw[Lib.bytesWorld_at_old w e s k (by omega)];exact h.block k j
structure BR (w:World) (g:Nat) (L:List UInt8):Prop where
 cell:∀j (hj:j<L.length),w.cell? ⟨g,j,none⟩=some (.int .u8 (L[j].toNat:Nat))
 froz:∀j,j<L.length->w.frozen? ⟨g,j,none⟩=false
theorem BR.bytes (w:World) (s:ByteArray):BR (Lib.bytesWorld w 5 s) w.heap.size s.data.toList:=by
 refine ⟨λj A=> ?_,λj A=> ?_⟩
 ·have h:j<s.size:=by rw[<-Zn];exact A
  rw[Lib.bytesWorld_cell w _ s j h,YA,Zc A];rfl
 ·have h:j<s.size:=by rw[<-Zn];exact A
  unfold World.frozen?;rw[show (Lib.bytesWorld w 5 s).heap[(⟨w.heap.size,j,none⟩:Addr).block]? =_ from Lib.bytesWorld_at_new w 5 s];have:s.size<=(Lib.bytesCells w 5 s).size:=by simp[Lib.bytesCells]
  simp;omega
section
set_option linter.unusedSimpArgs false
def sepB (l:List UInt8) (i:Nat) (c:Nat):Bool:=match l[i]? with
 |some x=>decide (x.toNat=c)||(decide (c=116) && decide (x.toNat=84))
 |none=>false
def grpG (l:List UInt8) (bt:List Nat):List Nat->Nat->Nat->Option (List Nat×Nat)
 | [],_,a=>some ([],a)
 |w::ws,0,a=>match numP l a w with
  |some n=>(grpG l bt ws 1 (a+w)).map λp=>(n::p.1,p.2)
  |none=>none
 |w::ws,i+1,a=>if sepB l a (bt.getD i 0) then match numP l (a+1) w with
  |some n=>(grpG l bt ws (i+2) (a+1+w)).map λp=>(n::p.1,p.2)
  |none=>none
  else none
def ints (l:List Nat):List Value:=l.map λn=> .int .i64 (n:Nat)
theorem ZeZ (l:List Nat):(ints l).length=l.length:=by simp[ints]
def OI (w:World) (B:Nat) (v:Value) (l:List Nat):Prop:=w.ownsRow B 3 1 v l.length (ints l)
theorem OI.of {w:World} {B n:Nat} {v:Value} {xs:List Value} {l:List Nat} (h:w.ownsRow B 3 1 v n xs) (j:xs=ints l):OI w B v l:=by
 subst j;have:=h.1;rw[ZeZ,Nat.mul_one] at this;subst this;exact h
theorem OI.ext {w w':World} {B:Nat} {v:Value} {l:List Nat} (h:OI w B v l) (j:Ext w w'):OI w' B v l:=Yw h j
theorem ZeW:(prog.info? 3).map (λi=>(i.zero,i.size,i.bytes))=some (some (.int .i64 0),1,8):=by kernel_rfl
theorem EZ (s:ByteArray) (k:Nat) (h:k<=s.size):s.extract k s.size=str (s.data.toList.drop k):=by
 refine Xi ?_;have:=XI s k (s.size - k);rw[show k+(s.size - k)=s.size by omega] at this;rw[this,Yz,ZC];rw[ZL,Zn];exact Zd _
theorem ZbL (s:ByteArray) (k:Nat):s.extract 0 k=str (s.data.toList.take k):=by
 refine Xi ?_;have:=XI s 0 k;rw[Yf] at this;rw[this,Yz,XQ]
theorem QX (s:ByteArray) (k:Nat) (h:k<=s.size) (j:World):
 (Instr.slice 9 (.string s) (some (.int .i64 (k:Nat))) none none).run prog j= .ok (.string (str (s.data.toList.drop k))) j:=by
 rw[run_slice_string_from_if (P:=prog) (w:=j) 9 s .i64 _ underlying9,Zi (by omega),Int.toNat_natCast,EZ s k h]
theorem Zhi (s:ByteArray) (k:Nat) (h:k<=s.size) (j:World):
 (Instr.slice 9 (.string s) none (some (.int .i64 (k:Nat))) none).run prog j= .ok (.string (str (s.data.toList.take k))) j:=by
 rw[run_slice_string_to_if (P:=prog) (w:=j) 9 s .i64 _ underlying9,Zi (by omega),Int.toNat_natCast,ZbL]
def GrpR (w0:World) (S:ByteArray) (o:Option (List Nat×Nat)) (e:Ending) (w':World):Prop:=match o with
 |some (ns,a)=>∃v,e= .returned (.tuple #[v,.string (str (S.data.toList.drop a)),.bool true])/\OI w' w0.heap.size v ns
 |none=>e= .returned (.tuple #[.slice none 0 0,.string ⟨#[]⟩,.bool false])
def grpA (acc:List Nat) (o:Option (List Nat×Nat)):Option (List Nat×Nat):=o.map λp=>(acc++p.1,p.2)
theorem Zdm (acc:List Nat) (n:Nat) (o:Option (List Nat×Nat)):grpA acc (o.map λp=>(n::p.1,p.2))=grpA (acc++ [n]) o:=by
 cases o<;>simp[grpA]
theorem KD (S bt:ByteArray) (ws:List Nat) (V:Value) (w:World) (hS:S.size<=16777216) (hV:RSl w 1 V ws.length (ints ws)) (hb:ws.length<=bt.size+1) (hw:∀x∈ws,0<x/\x<=4) (hn:ws.length<=10) (gR:bt.size<=10):
 Calls prog 117 #[.string S,.string bt,V] w λe w'=>GrpR w S (grpG S.data.toList (bt.data.toList.map UInt8.toNat) ws 0 0) e w'/\Ext w w':=by
 obtain ⟨i0,gA,gJ,gK,gL⟩:=Yr ZeW;obtain ⟨_,A,c,rfl,gD,gz,_,_⟩:=id hV;obtain ⟨R,hR⟩:∃R,grpG S.data.toList (bt.data.toList.map UInt8.toNat) ws 0 0=R:=⟨_,rfl⟩;rw[hR];have HV:=gd hV;have HW:=gd hw;have HR:Hid (grpA [] (grpG S.data.toList (bt.data.toList.map UInt8.toNat) ws 0 0)=R):=by show _=_;rw[hR];cases R<;>rfl
 clear hV hw hR gD gz;go_enter func117,ntmps117;go_wp2;go_loopw [0,9,18] (λt l i wr=>∃(k a:Nat) (acc:List Nat),k<=ws.length/\a<=S.size/\t= .string (str (S.data.toList.drop a))/\i= .int .i64 (k:Nat)/\OI wr w.heap.size l acc/\acc.length=k/\Hid (grpA acc (grpG S.data.toList (bt.data.toList.map UInt8.toNat) (ws.drop k) k a)=R)/\Ext w wr) (λ_ _ i _=>ws.length - (intOf i).toNat)
 case atStart=>exact ⟨0,0,[],by omega,by omega,by rw[XQ,GB],rfl,Yc _ _ _ _,rfl,HR,Ext.refl _⟩
 case round=>
  obtain ⟨k,a,acc,hk,ha,rfl,rfl,ho,hL,hg,hx⟩:=hrel;have gM:acc.length<=10:=by rw[hL];omega
  have hU:=gd hL;clear hL;obtain ⟨oA,oc,gE, -, -⟩:=(RSl.of_own ho).2;subst gE;have hE:(str (S.data.toList.drop a)).size=S.size - a:=by rw[Xg,ZL,Zn]
  have hh:(str (S.data.toList.drop a)).data.toList=S.data.toList.drop a:=Yz _;obtain ⟨T,hT⟩:∃T,str (S.data.toList.drop a)=T:=⟨_,rfl⟩;rw[hT] at hE hh;simp only[hT];by_cases gi:k<ws.length
  ·obtain ⟨ad,h6,H⟩:=(HV.out.ext hx).at1 k (.int .i64 (ws[k]:Nat)) (by rw[ints,ZT,Zc gi];rfl);subst h6;obtain ⟨gn,gH⟩:=HW.out ws[k] (ZO _);rw[Zx gi] at hg;obtain ⟨W,hW⟩:∃W,ws[k]=W:=⟨_,rfl⟩;rw[hW] at H gn gH hg;have key:(∃n,k=n+1/\sepB S.data.toList a ((bt.data.toList.map UInt8.toNat).getD n 0)=false)\/
    (∃K,K<=S.size/\(k=0/\K=a\/∃n,k=n+1/\K=a+1/\sepB S.data.toList a ((bt.data.toList.map UInt8.toNat).getD n 0)=true)/\grpA acc (match numP S.data.toList K W with
     |some n=>(grpG S.data.toList (bt.data.toList.map UInt8.toNat) (ws.drop (k+1)) (k+1) (K+W)).map λp=>(n::p.1,p.2)
     |none=>none)=R):=by
    cases k with
    |zero=>exact Or.inr ⟨a,ha,Or.inl ⟨rfl,rfl⟩,hg.out⟩
    |succ n=>
     cases D:sepB S.data.toList a ((bt.data.toList.map UInt8.toNat).getD n 0) with
     |false=>exact Or.inl ⟨n,rfl,D⟩
     |true=>
      have I:a<S.data.toList.length:=by
       rcases YG a S.data.toList.length with h|h
       ·exact h
       ·unfold sepB at D;rw[List.getElem?_eq_none h] at D;cases D
      rw[Zn] at I
      refine Or.inr ⟨a+1,I,Or.inr ⟨n,rfl,rfl,D⟩,?_⟩
      have O:=hg.out
      rw[grpG,Zi D] at O
      exact O
   have gP:=HV;have HX:=gd hx;have HO:=gd ho;have gS:((W:Nat):Int)<=4:=(by omega);rcases key with ⟨n,rfl,D⟩|⟨K,gy,hG,hv⟩
   ·have Q:Hid (R=none):=(by show _=_;rw[<-hg.out,grpG,D];rfl);have G:n<bt.size:=(by omega);have hD:((n+1:Nat):Int) - 1=(n:Int):=(by omega);have hB:(0:Int)<((n+1:Nat):Int):=(by omega);have h8:(0:Int)<=(n:Int):=(by omega);have h9:(n:Int)<(bt.size:Int):=(by omega);have ht:(bt.data.toList.map UInt8.toNat).getD n 0=(bt[n]'G).toNat:=(by rw[YA,ZT,Zc (by rw[Zn];exact G)];rfl);rw[ht] at D;obtain ⟨C,hC⟩:∃C,(bt[n]'G).toNat=C:=⟨_,rfl⟩;have h3:(((bt[n]'G).toNat:Nat):Int)=(C:Int):=(by rw[hC]);rw[hC] at D;by_cases I:a<S.size
    ·have F:0<T.size:=(by omega);have hQ:T.toList.isEmpty=false:=(by rw[<-Bool.not_eq_true,Zgx];intro h;have:=Zo List.length h;rw[show T.toList=T.data.toList from Yx _,Zn,ZF] at this;omega);have hF:(T[0]'F).toNat=(S.data.toList[a]'(by rw[Zn];exact I)).toNat:=(by have O:T.data.toList[0]? =S.data.toList[a]?:=(by rw[hh,List.getElem?_drop,Nat.add_zero]);rw[Zc (by rw[Zn];exact F),Zc (by rw[Zn];exact I)] at O;injection O with O;rw[<-O];rfl);unfold sepB at D;rw[Zc (by rw[Zn];exact I)] at D;simp only[<-hF] at D;obtain ⟨x,J⟩:∃x,(T[0]'F).toNat=x:=⟨_,rfl⟩;rw[J] at D;have gq:(((T[0]'F).toNat:Nat):Int)=(x:Int):=(by rw[J]);simp only[Bool.or_eq_false_iff,Bool.and_eq_false_iff,Gf] at D;obtain ⟨n1,n2⟩:=D;have m1:¬(x:Int)=(C:Int):=(by omega);have h4:(0:Int)<(T.size:Int):=(by omega);rw[show ((n+1:Nat):Int)=(n:Int)+1 by omega] at hD hB;simp only[show ((n+1:Nat):Int)=(n:Int)+1 by omega];rw[show ad.add (n+1)=⟨ad.block,ad.off+(n+1),none⟩ from Zf (by omega)] at H;have U:(n:Int)+1<(ws.length:Int):=(by omega);clear hg ho hx ht hE hh hF;have m1:((x:Int) !=(C:Int))=true:=(by rw[Yj];omega);by_cases gu:C=116
     ·have m2:((x:Int) !=84)=true:=(by rw[Yj];omega);subst gu;have m1:((x:Int) !=116)=true:=(by rw[Yj];omega);clear n1 n2;go_wp2
      go_ret3
      exact ⟨by rw[Q.out];rfl,HX.out⟩
     ·have m3:((C:Int) !=116)=true:=(by rw[Yj];omega);clear n1 n2;go_wp2
      go_ret3
      exact ⟨by rw[Q.out];rfl,HX.out⟩
    ·have hQ:T.toList.isEmpty=true:=(by rw[Zgx];refine ZI ?_;rw[show T.toList=T.data.toList from Yx _,Zn];omega);rw[show ((n+1:Nat):Int)=(n:Int)+1 by omega] at hD hB;simp only[show ((n+1:Nat):Int)=(n:Int)+1 by omega];rw[show ad.add (n+1)=⟨ad.block,ad.off+(n+1),none⟩ from Zf (by omega)] at H;have U:(n:Int)+1<(ws.length:Int):=(by omega);clear hg ho hx ht hE hh D;go_wp2
     go_ret3
     exact ⟨by rw[Q.out];rfl,HX.out⟩
   ·obtain ⟨X,hq⟩:∃X:ByteArray,str (S.data.toList.drop K)=X:=⟨_,rfl⟩;have hJ:X.data.toList=S.data.toList.drop K:=(by rw[<-hq];exact Yz _);have gF:X.size=S.size - K:=(by rw[<-hq,Xg,ZL,Zn]);have gN:(X.size:Int)<=16777216:=(by omega);have hH:(k=0/\T=X)\/(∃n,k=n+1/\∃(F:0<T.size) (G:n<bt.size),(∀Z,(Instr.slice 9 (.string T) (some (.int .i64 1)) none none).run prog Z= .ok (.string X) Z)/\
     ((T[0]'F).toNat=(bt[n]'G).toNat\/((bt[n]'G).toNat=116/\(T[0]'F).toNat=84))):=by
     rcases hG with ⟨rfl,rfl⟩|⟨n,rfl,rfl,D⟩
     ·exact Or.inl ⟨rfl,by rw[<-hT,<-hq]⟩
     ·have I:a<S.size:=gy
      have F:0<T.size:=(by omega)
      have G:n<bt.size:=(by omega)
      refine Or.inr ⟨n,rfl,F,G,λZ=> ?_,?_⟩
      ·have:=QX T 1 (by omega) Z
       rw[show ((1:Nat):Int)=1 from rfl,hh,List.drop_drop,hq] at this
       exact this
      ·have ht:(bt.data.toList.map UInt8.toNat).getD n 0=(bt[n]'G).toNat:=(by rw[YA,ZT,Zc (by rw[Zn];exact G)];rfl)
       have hF:(T[0]'F).toNat=(S.data.toList[a]'(by rw[Zn];exact I)).toNat:=by
        have O:T.data.toList[0]? =S.data.toList[a]?:=(by rw[hh,List.getElem?_drop,Nat.add_zero])
        rw[Zc (by rw[Zn];exact F),Zc (by rw[Zn];exact I)] at O
        injection O with O
        rw[<-O];rfl
       rw[ht] at D
       unfold sepB at D
       rw[Zc (by rw[Zn];exact I)] at D
       simp only[<-hF,Bool.or_eq_true,ZU,Z6] at D
       exact D
    obtain ⟨kv,hP⟩:∃kv,kv=k:=⟨k,rfl⟩;rw[<-hP] at hv hU;have hi:=gd hv;have hI:=gd hP;have gg:kv+1<=ws.length:=(by omega);clear hP;clear hG hv hg ho hx hq hE hh hT;by_cases gt:X.size<W
    ·have Q:Hid (R=none):=(by show _=_;rw[<-hi.out,U3 (by rw[Zn];omega) gn];rfl);have q1:(X.size:Int)<(W:Int):=(by omega);clear gF hJ;rcases hH with ⟨rfl,rfl⟩|⟨n,rfl,F,G,gG,hf⟩
     ·rw[add_zero] at H;rw[show ((0:Nat):Int)=0 from rfl];have U:(0:Int)<(ws.length:Int):=(by omega);go_wp2
      go_ret3
      exact ⟨by rw[Q.out];rfl,HX.out⟩
     ·have hD:(n:Int)+1 - 1=(n:Int):=(by omega);have hB:(0:Int)<(n:Int)+1:=(by omega);have h8:(0:Int)<=(n:Int):=(by omega);have h9:(n:Int)<(bt.size:Int):=(by omega);have h4:(0:Int)<(T.size:Int):=(by omega);have U:(n:Int)+1<(ws.length:Int):=(by omega);have hQ:T.toList.isEmpty=false:=(by rw[<-Bool.not_eq_true,Zgx];intro h;have:=Zo List.length h;rw[show T.toList=T.data.toList from Yx _,Zn,ZF] at this;omega);simp only[show ((n+1:Nat):Int)=(n:Int)+1 by omega];rw[show ad.add (n+1)=⟨ad.block,ad.off+(n+1),none⟩ from Zf (by omega)] at H;obtain ⟨C,hC⟩:∃C,(bt[n]'G).toNat=C:=⟨_,rfl⟩;obtain ⟨x,J⟩:∃x,(T[0]'F).toNat=x:=⟨_,rfl⟩;have h3:(((bt[n]'G).toNat:Nat):Int)=(C:Int):=(by rw[hC]);have gq:(((T[0]'F).toNat:Nat):Int)=(x:Int):=(by rw[J]);rw[hC,J] at hf;clear hC J;have hr:(((x:Int) !=(C:Int))=false/\x=C)\/(((x:Int) !=(C:Int))=true/\C=116/\x=84):=by
       rcases hf with h|⟨O,h2⟩
       ·exact Or.inl ⟨by simp[h],h⟩
       ·exact Or.inr ⟨by rw[Yj];omega,O,h2⟩
      clear hf;rcases hr with ⟨m1,rfl⟩|⟨m1,rfl,rfl⟩
      all_goals go_wp2
      all_goals go_ret3
      all_goals exact ⟨by rw[Q.out];rfl,HX.out⟩
    ·have q1:¬(X.size:Int)<(W:Int):=(by omega);have he:W<=X.size:=(by omega);obtain ⟨Y,hY⟩:∃Y,str (X.data.toList.take W)=Y:=⟨_,rfl⟩;have gw:Y.data.toList=(S.data.toList.drop K).take W:=(by rw[<-hY,Yz,hJ]);have gx:Y.size=W:=(by rw[<-hY,Xg,YR,Zn];omega);have gQ:(Y.size:Int)=(W:Int):=(by omega);obtain ⟨T2,hK⟩:∃T2,str (S.data.toList.drop (K+W))=T2:=⟨_,rfl⟩;have gm:∀Z,(Instr.slice 9 (.string X) none (some (.int .i64 (W:Nat))) none).run prog Z= .ok (.string Y) Z:=λZ=>(by rw[<-hY];exact Zhi X W he Z);have gO:∀Z,(Instr.slice 9 (.string X) (some (.int .i64 (W:Nat))) none none).run prog Z= .ok (.string T2) Z:=λZ=>(by have:=QX X W he Z;rw[hJ,List.drop_drop,hK] at this;exact this);have gb:=λZ=>Lib.run_convert_string_bytes (P:=prog) Z 9 115 5 Y (u:= .string) underlying9 underlying115 underlying5;rw[gx] at gb;have h0:=gd hK;clear hY hK;rcases hH with ⟨rfl,rfl⟩|⟨n,rfl,F,G,gG,hf⟩
     focus
      rw[add_zero] at H
      rw[show ((0:Nat):Int)=0 from rfl]
      have U:(0:Int)<(ws.length:Int):=by omega
     rotate_left
     have hD:(n:Int)+1 - 1=(n:Int):=(by omega);have hB:(0:Int)<(n:Int)+1:=(by omega);have h8:(0:Int)<=(n:Int):=(by omega);have h9:(n:Int)<(bt.size:Int):=(by omega);have h4:(0:Int)<(T.size:Int):=(by omega);have U:(n:Int)+1<(ws.length:Int):=(by omega);have hQ:T.toList.isEmpty=false:=(by rw[<-Bool.not_eq_true,Zgx];intro h;have:=Zo List.length h;rw[show T.toList=T.data.toList from Yx _,Zn,ZF] at this;omega);simp only[show ((n+1:Nat):Int)=(n:Int)+1 by omega];rw[show ad.add (n+1)=⟨ad.block,ad.off+(n+1),none⟩ from Zf (by omega)] at H;obtain ⟨C,hC⟩:∃C,(bt[n]'G).toNat=C:=⟨_,rfl⟩;obtain ⟨x,J⟩:∃x,(T[0]'F).toNat=x:=⟨_,rfl⟩;have h3:(((bt[n]'G).toNat:Nat):Int)=(C:Int):=(by rw[hC]);have gq:(((T[0]'F).toNat:Nat):Int)=(x:Int):=(by rw[J]);rw[hC,J] at hf;clear hC J;have hr:(((x:Int) !=(C:Int))=false/\x=C)\/(((x:Int) !=(C:Int))=true/\C=116/\x=84):=by
      rcases hf with h|⟨O,h2⟩
      ·exact Or.inl ⟨by simp[h],h⟩
      ·exact Or.inr ⟨by rw[Yj];omega,O,h2⟩
     clear hf;rcases hr with ⟨m1,rfl⟩|⟨m1,rfl,rfl⟩
     all_goals go_wp2
     all_goals
      obtain ⟨W1,he⟩:∃W1,W1=Lib.bytesWorld wr 5 Y:=⟨_,rfl⟩
      have gp:Ext wr W1:=(by rw[he];exact (Ext.refl wr).bytes _ _)
      have ga:BR W1 wr.heap.size Y.data.toList:=(by rw[he];exact BR.bytes wr Y)
      have hX:=gd ga
      have hA:=gd gp
      rw[<-he]
      generalize Go.grownCap wr W 0 5=cap
      obtain ⟨g,gf⟩:∃g,wr.heap.size=g:=⟨_,rfl⟩
      rw[gf] at hX|-
      obtain ⟨wP,gI⟩:∃wP:World,wP=wr:=⟨_,rfl⟩
      subst gI
      clear he gb gf gm ga gp
      go_loopw [13,57] (λn i wr=>∃j m:Nat,j<=W/\m<=9999/\n= .int .i64 (m:Nat)/\i= .int .i64 (j:Nat)/\Hid (numP S.data.toList K j=some m)/\wr=W1) (λ_ i _=>W - (intOf i).toNat)
      case atStart=>exact ⟨0,0,by omega,by omega,rfl,rfl,rfl,rfl⟩
      case round=>
       obtain ⟨j,m,hj,hm,rfl,rfl,hp,rfl⟩:=hrel
       by_cases hN:j<W
       ·have hO:j<Y.data.toList.length:=(by rw[Zn];omega)
        have hc:=hX.out.cell j hO
        have I:K+j<S.data.toList.length:=(by rw[Zn];omega)
        have gr:Y.data.toList[j]=S.data.toList[K+j]:=by
         have O:Y.data.toList[j]? =S.data.toList[K+j]?:=(by rw[gw,List.getElem?_take_of_lt hN,List.getElem?_drop])
         rw[Zc hO,Zc I] at O
         injection O
        have hd:=EU I
        rw[<-gr] at hd
        obtain ⟨y,hy⟩:∃y,Y.data.toList[j].toNat=y:=⟨_,rfl⟩
        rw[hy] at hc hd
        have gT:y<256:=(by rw[<-hy];exact UInt8.toNat_lt _)
        have hz:=gd hd
        have b1:(j:Int)<(W:Int):=(by omega)
        have b0:(0:Int)<=(j:Int):=(by omega)
        clear hd gr hy I hO
        by_cases hs:48<=y/\y<=57
        ·have hZ:Hid (numP S.data.toList K (j+1)=some (m*10+(y - 48))):=Ez hp.out (by rw[hz.out,Zi hs])
         have gC:m*10+(y - 48)<=9999:=by
          have O:=Jj hZ.out
          have h2:10 ^ (j+1)<=10 ^ 4:=Nat.pow_le_pow_right (by omega) (by omega)
          omega
         have c1:¬(y:Int)<48:=(by omega)
         have c2:¬57<(y:Int):=(by omega)
         clear hz hp
         go_wp2
         go_roundw
         case rel=>exact ⟨j+1,m*10+(y - 48),hN,gC,by refine Zo (Value.int .i64) ?_;omega,by go_num,hZ,trivial⟩
         case measure=>simp[intOf];omega
        ·have Q:Hid (R=none):=by
          show _=_
          rw[<-hi.out,VM (k:=j) (by rw[hz.out,Zf hs]) hN];rfl
         have hM:(y:Int)<48\/(¬(y:Int)<48/\57<(y:Int)):=(by omega)
         clear hz hp hs
         rcases hM with c1|⟨c1,c2⟩
         all_goals go_wp2
         all_goals go_ret3
         all_goals exact ⟨by rw[Q.out];rfl,HX.out.trans hA.out⟩
       ·obtain rfl:j=W:=(by omega)
        have gk:OI wr w.heap.size (.slice oA acc.length oc) acc:=Yw HO.out hA.out
        have hl:Hid (grpA (acc++ [m]) (grpG S.data.toList (bt.data.toList.map UInt8.toNat) (ws.drop (kv+1)) (kv+1) (K+j))=R):=by
         show _=_
         rw[<-hi.out,hp.out,<-Zdm]
        have b1:¬(j:Int)<(j:Int):=(by omega)
        clear hp
        go_wp2
        go_region_law (refine Z5 _ rfl (.tmp 74) (.tmp 76) _ rfl w.heap.size 3 i0 _ 1 8 underlying175 gA gJ gK gL rfl (by omega) _ _ _ rfl ((OI.ext gk ((Ext.refl wr).alloc _)).drew) _ 1 _ rfl (RSl.ext (ZY (cs:= [.int .i64 (m:Nat)]) (by simp) (by unfold maxLen;omega)) (Ext.refl _).drew) (by intro y hy;simp at hy;subst hy;rfl) (by unfold maxLen;omega) (by omega) (by simp;have:=(HX.out.trans hA.out).size;omega) ?_;intro v1 gs hu ge h7)
        all_goals have go:Ext w gs:=(((HX.out.trans hA.out).alloc _).drew).app ge (OI.ext gk ((Ext.refl wr).alloc _)).drew (Zd _)
        all_goals have gj:OI gs w.heap.size v1 (acc++ [m]):=OI.of hu (by simp[ints])
        all_goals have gh:(acc++ [m]).length=kv+1:=by rw[Zj,hU.out];rfl
        all_goals have h5:K+j<=S.size:=by omega
        all_goals clear ge h7 hu
        all_goals go_wp2
        all_goals go_roundw
        all_goals first|exact ⟨kv+1,K+j,acc++ [m],gg,h5,Zo Value.string h0.out.symm,by rw[hI.out];go_num,gj,gh,hl,go⟩|(simp[intOf];have:=hI.out;omega)|((repeat apply Ye);exact ⟨⟨kv+1,K+j,acc++ [m],gg,h5,Zo Value.string h0.out.symm,by rw[hI.out];go_num,gj,gh,hl,go⟩,rfl⟩)
  ·have gB:k=ws.length:=(by omega);have gc:Hid (R=some (acc,a)):=(by show _=_;rw[<-hg.out,ZB (by omega)];simp[grpG,grpA]);subst gB;have HO:=gd ho;have HX:=gd hx;clear hg ho hx hk;go_wp2
   go_ret3
   refine ⟨?_,HX.out⟩;rw[gc.out,<-hT];exact ⟨_,rfl,HO.out⟩
end
theorem Eh (l:List UInt8) (k i:Nat):digP (l.drop k) i=digP l (k+i):=by unfold digP;rw[List.getElem?_drop]
theorem VL (l:List UInt8) (k a:Nat):∀w,numP (l.drop k) a w=numP l (k+a) w
 |0=>rfl
 |w+1=>by unfold numP;rw[VL l k a w,Eh,Nat.add_assoc]
theorem Gz (l:List UInt8) (k i a b:Nat):sepP (l.drop k) i a b=sepP l (k+i) a b:=by unfold sepP;rw[List.getElem?_drop]
theorem Kq (l:List UInt8) (k:Nat):∀(f i:Nat),digsP (l.drop k) f i=digsP l f (k+i)
 |0,_=>rfl
 |f+1,i=>by unfold digsP;rw[Eh,Kq l k f (i+1),Nat.add_assoc]
theorem ZdE (l:List UInt8) (k a:Nat) (h:k<=l.length):offP (l.drop k) a=offP l (k+a):=by
 unfold offP;simp only[Gz,VL,ZL,<-Nat.add_assoc];have e1:(l.length - k=a+1)=(l.length=k+a+1):=propext (by omega);have e6:(l.length - k=a+6)=(l.length=k+a+6):=propext (by omega);simp only[e1,e6]
theorem Zan (l:List UInt8) (i c:Nat) (h:c≠116):sepB l i c=sepP l i c c:=by
 unfold sepB sepP;cases l[i]? with
 |none=>rfl
 |some x=>simp[h]
theorem ZgX (l:List UInt8) (i:Nat):sepB l i 116=sepP l i 84 116:=by
 unfold sepB sepP;cases l[i]? with
 |none=>rfl
 |some x=>simp[Bool.or_comm]
theorem Zhn (l:List UInt8):grpG l [58] [2,2] 0 0=match numP l 0 2,numP l 3 2 with
 |some h,some m=>if sepP l 2 58 58 then some ([h,m],5) else none
 |_,_=>none:=by
 simp only[grpG,Zan l 2 58 (by decide),Yf,List.getD_cons_zero,Nat.reduceAdd];cases numP l 0 2 with
 |none=>rfl
 |some h=>
  cases sepP l 2 58 58 with
  |false=>cases numP l 3 2<;>rfl
  |true=>cases numP l 3 2<;>rfl
theorem Zho (l:List UInt8):grpG l [45,45,116,58,58] [4,2,2,2,2,2] 0 0=if sepsP l then match numP l 0 4,numP l 5 2,numP l 8 2,numP l 11 2,numP l 14 2,numP l 17 2 with
 |some y,some m,some d,some h,some mi,some s=>some ([y,m,d,h,mi,s],19)
 |_,_,_,_,_,_=>none
 else none:=by
 unfold sepsP;simp only[grpG,Zan l _ 45 (by decide),Zan l _ 58 (by decide),ZgX,Yf,List.getD_cons_zero,List.getD_cons_succ,Nat.reduceAdd];cases numP l 0 4 with
 |none=>cases sepP l 4 45 45<;>cases sepP l 7 45 45<;>cases sepP l 10 84 116<;>cases sepP l 13 58 58<;>cases sepP l 16 58 58<;>rfl
 |some y=>
  cases sepP l 4 45 45 with
  |false=>rfl
  |true=>
   cases numP l 5 2 with
   |none=>cases sepP l 7 45 45<;>cases sepP l 10 84 116<;>cases sepP l 13 58 58<;>cases sepP l 16 58 58<;>rfl
   |some m=>
    cases sepP l 7 45 45 with
    |false=>rfl
    |true=>
     cases numP l 8 2 with
     |none=>cases sepP l 10 84 116<;>cases sepP l 13 58 58<;>cases sepP l 16 58 58<;>rfl
     |some d=>
      cases sepP l 10 84 116 with
      |false=>rfl
      |true=>
       cases numP l 11 2 with
       |none=>cases sepP l 13 58 58<;>cases sepP l 16 58 58<;>rfl
       |some h=>
        cases sepP l 13 58 58 with
        |false=>rfl
        |true=>
         cases numP l 14 2 with
         |none=>cases sepP l 16 58 58<;>rfl
         |some mi=>
          cases sepP l 16 58 58 with
          |false=>rfl
          |true=>cases numP l 17 2<;>rfl
section
set_option linter.unusedSimpArgs false
theorem Gm (T:ByteArray):T.toList.isEmpty=decide (T.size=0):=by
 rw[show T.toList=T.data.toList from Yx _,<-Zn,Xf,Zgx,Z6];exact ⟨λh=>by rw[h];rfl,ZI⟩
theorem EP {T:ByteArray} {i:Nat} (h:i<T.size):(T[i]'h).toNat=(T.data.toList[i]'(by rw[Zn];exact h)).toNat:=rfl
def fracE (l:List UInt8):Nat×Bool:=if sepP l 0 46 46 then (1+digsP l l.length 1,decide (0<digsP l l.length 1)) else (0,true)
theorem E1 (T:ByteArray) (w:World) (hs:T.size<=16777216):
 Calls prog 119 #[.string T] w λe w'=>e= .returned (.tuple #[.string (str (T.data.toList.drop (fracE T.data.toList).1)),.bool (fracE T.data.toList).2])/\w'=w:=by
 have Q:=Gm T;by_cases V:T.size=0
 ·have hl:T.data.toList= []:=ZI (by rw[Zn];exact V);have O:fracE T.data.toList=(0,true):=by rw[hl];rfl
  rw[O];simp only[XQ,GB];rw[Yg V] at Q;clear hl O V;go_enter func119,ntmps119;go_wp2
  go_ret2
  exact ⟨rfl,rfl⟩
 ·have F:0<T.size:=by omega
  rw[Ya V] at Q;have hc:(0:Int)<(T.size:Int):=by omega
  have j:=VP (l:=T.data.toList) (i:=0) 46 46 (by rw[Zn];exact F);rw[<-EP F] at j;obtain ⟨x,hx⟩:∃x,(T[0]'F).toNat=x:=⟨_,rfl⟩;rw[hx] at j;have hf:(((T[0]'F).toNat:Nat):Int)=(x:Int):=by rw[hx]
  by_cases K:x=46
  ·have O:fracE T.data.toList=(1+digsP T.data.toList T.data.toList.length 1,decide (0<digsP T.data.toList T.data.toList.length 1)):=(by unfold fracE;rw[j,K];rfl);have Z:=QL (l:=T.data.toList) T.data.toList.length 1 (by rw[Zn];exact F);rw[O];simp only;obtain ⟨D,hD⟩:∃D,digsP T.data.toList T.data.toList.length 1=D:=⟨_,rfl⟩;rw[hD] at Z|-;rw[Zn] at Z;have HD:=gd hD;subst K;clear O j V hx hD;go_enter func119,ntmps119;go_wp2;obtain ⟨wP,hb⟩:∃wP:World,wP=w:=⟨_,rfl⟩;subst hb;go_loopw [4] (λv wr=>∃k:Nat,1<=k/\k<=T.size/\v= .int .i64 (k:Nat)/\Hid (k+digsP T.data.toList T.data.toList.length k=1+D)/\wr=wP) (λv _=>T.size - (intOf v).toNat)
   case atStart=>exact ⟨1,by omega,by omega,rfl,by show _=_;rw[HD.out],rfl⟩
   case round=>
    obtain ⟨k,he,hk,rfl,G,rfl⟩:=hrel;have A:(digP T.data.toList k).isSome=false->k=1+D:=λh=>(by have:=G.out;rw[Uu h] at this;exact this);by_cases J:k<T.size
    ·have X:=EU (l:=T.data.toList) (i:=k) (by rw[Zn];exact J);rw[<-EP J] at X;obtain ⟨y,hy⟩:∃y,(T[k]'J).toNat=y:=⟨_,rfl⟩;rw[hy] at X;have hg:(((T[k]'J).toNat:Nat):Int)=(y:Int):=(by rw[hy]);have b0:(0:Int)<=(k:Int):=(by omega);have b1:(k:Int)<(T.size:Int):=(by omega);by_cases C:48<=y/\y<=57
     ·have Y:Hid (k+1+digsP T.data.toList T.data.toList.length (k+1)=1+D):=(by show _=_;rw[<-G.out];obtain ⟨q,hq⟩:∃q,T.data.toList.length=q+1:=⟨T.data.toList.length - 1,by rw[Zn];omega⟩;have h2:=Qm (l:=T.data.toList) (k:=q) (i:=k) (by rw[X,Zi C];rfl);have h3:=UZ (l:=T.data.toList) q T.data.toList.length (k+1) (by omega) (by omega);rw[hq] at h3|-;omega);have c1:(48:Int)<=(y:Int):=(by omega);have c2:(y:Int)<=57:=(by omega);clear X G A hy C;go_wp2;go_roundw
      case rel=>exact ⟨k+1,by omega,J,by go_num,Y,trivial⟩
      case measure=>simp[intOf];omega
     ·have H:=A (by rw[X,Zf C];rfl);have ha:=QX T k (by omega);have U:¬(48:Int)<=(y:Int)\/((48:Int)<=(y:Int)/\¬(y:Int)<=57):=(by omega);have I:decide ((1:Int)<(k:Int))=decide (0<D):=(by rw[Xf,Z6,Z6];omega);have R:=gd H;have S:=gd I;clear X G A hy C H I;rcases U with c1|⟨c1,c2⟩
      all_goals go_wp2
      all_goals go_ret2
      all_goals exact ⟨by rw[<-R.out,<-S.out];simp,rfl⟩
    ·obtain rfl:k=T.size:=(by omega);have H:=A (by rw[Ut (by rw[Zn];exact Zd _)];rfl);have ha:=QX T T.size (Zd _);have I:decide ((1:Int)<(T.size:Int))=decide (0<D):=(by rw[Xf,Z6,Z6];omega);have R:=gd H;have S:=gd I;clear G A H I;go_wp2
     go_ret2
     exact ⟨by rw[<-R.out,<-S.out];simp,rfl⟩
  ·have O:fracE T.data.toList=(0,true):=(by unfold fracE;rw[j];simp[K]);rw[O];simp only[XQ,GB];have q1:((x:Int) !=46)=true:=(by rw[Yj];omega);clear O j V hx K;go_enter func119,ntmps119;go_wp2
   go_ret2
   exact ⟨rfl,rfl⟩
end
section
set_option linter.unusedSimpArgs false
theorem OI.cell {w:World} {B:Nat} {v:Value} {l:List Nat} (h:OI w B v l) (F:0<l.length):∃g cap,v= .slice (some ⟨g,0,none⟩) l.length cap/\∀j (A:j<l.length),w.cell? ⟨g,j,none⟩=some (.int .i64 (l[j]:Nat)):=by
 rcases h.2 with ⟨rfl,D⟩|⟨g,cap,C,rfl,D,G,H,I,J,K⟩
 ·omega
 ·refine ⟨g,cap,rfl,λj A=> ?_⟩;have:=World.ownsRow.cells (g:=g) h rfl j (.int .i64 (l[j]:Nat)) (by rw[ints,ZT,Zc A];rfl)
  rwa [show (⟨g,0,none⟩:Addr).add j=⟨g,j,none⟩ from by unfold Addr.add;split<;>simp_all] at this
theorem OI.two {w:World} {B:Nat} {v:Value} {a b:Nat} (h:OI w B v [a,b]):∃g cap,v= .slice (some ⟨g,0,none⟩) 2 cap/\w.cell? ⟨g,0,none⟩=some (.int .i64 (a:Nat))/\w.cell? ⟨g,1,none⟩=some (.int .i64 (b:Nat)):=by
 obtain ⟨g,cap,rfl,j⟩:=h.cell (by simp);exact ⟨g,cap,rfl,j 0 (by simp),j 1 (by simp)⟩
theorem OI.six {w:World} {B:Nat} {v:Value} {a b c d e f:Nat} (h:OI w B v [a,b,c,d,e,f]):∃g cap,v= .slice (some ⟨g,0,none⟩) 6 cap/\w.cell? ⟨g,0,none⟩=some (.int .i64 (a:Nat))/\w.cell? ⟨g,1,none⟩=some (.int .i64 (b:Nat))/\
 w.cell? ⟨g,2,none⟩=some (.int .i64 (c:Nat))/\w.cell? ⟨g,3,none⟩=some (.int .i64 (d:Nat))/\w.cell? ⟨g,4,none⟩=some (.int .i64 (e:Nat))/\w.cell? ⟨g,5,none⟩=some (.int .i64 (f:Nat)):=by
 obtain ⟨g,cap,rfl,j⟩:=h.cell (by simp);exact ⟨g,cap,rfl,j 0 (by simp),j 1 (by simp),j 2 (by simp),j 3 (by simp),j 4 (by simp),j 5 (by simp)⟩
def OffR (l:List UInt8) (e:Ending):Prop:=e= .returned (match offP l 0 with|some x=> .tuple #[.int .i64 x,.bool true]|none=> .tuple #[.int .i64 0,.bool false])
theorem Zcf (T:ByteArray) (w:World) (hs:T.size<=16777216):
 Calls prog 120 #[.string T] w λe w'=>OffR T.data.toList e/\Ext w w':=by
 have U:=Gm T;by_cases h0:T.size=0
 ·have hl:T.data.toList= []:=ZI (by rw[Zn];exact h0);have C:offP T.data.toList 0=none:=by rw[hl];rfl
  rw[Yg h0] at U;have ht:T.toList= []:=by rw[show T.toList=T.data.toList from Yx _,hl]
  unfold OffR;rw[C];clear hl C h0;go_enter func120,ntmps120;go_wp2
  go_ret2
  exact ⟨rfl,Ext.refl _⟩
 ·have Y:0<T.size:=by omega
  rw[Ya h0] at U;have hv:(0:Int)<(T.size:Int):=by omega
  have J:0<T.data.toList.length:=by rw[Zn];exact Y
  have I:=VP (l:=T.data.toList) (i:=0) 90 122 J;have K:=VP (l:=T.data.toList) (i:=0) 43 45 J;have H:=VP (l:=T.data.toList) (i:=0) 45 45 J;rw[<-EP Y] at I K H;obtain ⟨x,hx⟩:∃x,(T[0]'Y).toNat=x:=⟨_,rfl⟩;rw[hx] at I K H;have hq:(((T[0]'Y).toNat:Nat):Int)=(x:Int):=by rw[hx]
  have j:∀c:UInt8,T.toList= [c]↔(T.size=1/\x=c.toNat):=by
   intro c;rw[show T.toList=T.data.toList from Yx _];have hb:T.data.toList[0]=T[0]'Y:=rfl;constructor
   ·intro h;have h1:=Zo List.length h;rw[Zn] at h1;have S:T.data.toList[0]? =some c:=(by rw[h];rfl);rw[Zc J,hb] at S;injection S with S;exact ⟨h1,by rw[<-hx,S]⟩
   ·rintro ⟨h1,S⟩;have h3:T.data.toList.length=1:=(by rw[Zn];exact h1);have h4:T[0]'Y=c:=UInt8.toNat_inj.1 (hx.trans S)
    match hl:T.data.toList,h3 with
    | [d],_=>rw[<-h4,<-hb];simp[hl]
  by_cases G:T.size=1/\(x=90\/x=122)
  ·have C:offP T.data.toList 0=some 0:=(by unfold offP;rw[I,Zi (by rcases G.2 with h|h<;>simp[h]),Zi (by rw[Zn];omega)]);unfold OffR;rw[C];rcases G with ⟨h1,S|S⟩
   ·have hz:T.toList= [90]:=(j 90).2 ⟨h1,S⟩;clear C I K H j hx hq h0 U J;go_enter func120,ntmps120;go_wp2
    go_ret2
    exact ⟨rfl,Ext.refl _⟩
   ·have hz:T.toList= [122]:=(j 122).2 ⟨h1,S⟩;clear C I K H j hx hq h0 U J;go_enter func120,ntmps120;go_wp2
    go_ret2
    exact ⟨rfl,Ext.refl _⟩
  ·have ht:(T.toList== [90])=false:=(by rw[ZV];exact λh=>G ⟨((j 90).1 h).1,Or.inl ((j 90).1 h).2⟩);have hw:(T.toList== [122])=false:=(by rw[ZV];exact λh=>G ⟨((j 122).1 h).1,Or.inr ((j 122).1 h).2⟩);by_cases A:x=43\/x=45
   ·have R:sepP T.data.toList 0 90 122=false:=(by rw[I];rcases A with h|h<;>rw[h]<;>rfl);have hc:sepP T.data.toList 0 43 45=true:=(by rw[K];rcases A with h|h<;>rw[h]<;>rfl);have C:=Ka T.data.toList 0 R;rw[hc,H] at C;have hp:=QX T 1 (by omega);rw[show ((1:Nat):Int)=1 from rfl] at hp;obtain ⟨M,hM⟩:∃M,str (T.data.toList.drop 1)=M:=⟨_,rfl⟩;rw[hM] at hp;have X:M.data.toList=T.data.toList.drop 1:=(by rw[<-hM,Yz]);have hd:M.size=T.size - 1:=(by rw[<-hM,Xg,ZL,Zn]);have hg:=Zhn M.data.toList;rw[X,VL,VL,Gz] at hg;have D:=gd (λw' (V:Value) (hV:RSl w' 1 V 2 (ints [2,2]))=>KD M ⟨#[58]⟩ [2,2] V w' (by omega) hV (by decide) (by decide) (by decide) (by decide));rw[show ((⟨#[58]⟩:ByteArray).data.toList.map UInt8.toNat)= [58] from rfl] at D;have ho:RSl (w.alloc (.cells #[.int .i64 2,.int .i64 2] 3)) 1 (.slice (some ⟨w.heap.size,0,none⟩) 2 2) 2 (ints [2,2]):=ZY (cs:= [.int .i64 2,.int .i64 2]) rfl (by decide)
    replace D:=gd (D.out _ _ ho)
    rw[X] at D;have q1:((x:Int) !=43 && (x:Int) !=45)=false:=(by rcases A with h|h<;>rw[h]<;>rfl);have he:(grpG (T.data.toList.drop 1) [58] [2,2] 0 0=none/\offP T.data.toList 0=none)\/(∃h m,h<100/\m<100/\6<=T.size/\grpG (T.data.toList.drop 1) [58] [2,2] 0 0=some ([h,m],5)/\
     offP T.data.toList 0=if h<=23/\m<=59/\T.data.toList.length=6 then some (if x=45 then -((h*3600+m*60:Nat):Int) else ((h*3600+m*60:Nat):Int)) else none):=by
     rw[hg,C]
     rw[show 0+1=1+0 from rfl,show 0+4=1+3 from rfl,show 0+3=1+2 from rfl]
     cases h1:numP T.data.toList (1+0) 2 with
     |none=>exact Or.inl ⟨rfl,rfl⟩
     |some h=>
      cases S:numP T.data.toList (1+3) 2 with
      |none=>exact Or.inl ⟨rfl,rfl⟩
      |some m=>
       cases h3:sepP T.data.toList (1+2) 58 58 with
       |false=>exact Or.inl ⟨rfl,by simp⟩
       |true=>
        refine Or.inr ⟨h,m,Jj h1,Jj S,?_,rfl,by simp⟩
        rcases YG T.data.toList.length 6 with h6|h6
        ·rw[U3 (by omega) (by omega)] at S;cases S
        ·rwa [Zn] at h6
    clear C I K H j hx h0 J G R hc hg hM;rcases he with ⟨hn,C⟩|⟨h,m,hh,hm,hu,hf,C⟩
    ·rw[hn] at D;unfold OffR;rw[C];simp only[GrpR] at D;clear C X hd hn;go_enter func120,ntmps120;rcases A with rfl|rfl
     all_goals go_wp2_with (first|(go_at_call 117;(have hz:=D.out);(with_reducible refine Za hz ?_);clear hz;rintro e w1 ⟨rfl,Z⟩))
     all_goals go_ret2
     all_goals exact ⟨rfl,((Ext.refl w).alloc _).trans Z⟩
    ·rw[hf] at D;obtain ⟨Q,hQ⟩:∃Q,str (M.data.toList.drop 5)=Q:=⟨_,rfl⟩;have hk:Q.size=T.size - 6:=(by rw[<-hQ,Xg,ZL,X,ZL,Zn];omega);have O:=Gm Q;simp only[GrpR,hQ] at D;rw[Zn] at C;by_cases F:h<=23/\m<=59/\T.size=6
     ·rw[Zi F] at C;unfold OffR;rw[C];obtain ⟨g1,g2,g3⟩:=F;rw[Yg (show Q.size=0 by omega)] at O;have c1:¬23<(h:Int):=(by omega);have c2:¬59<(m:Int):=(by omega);clear C X hf hQ hk hd;go_enter func120,ntmps120;rcases A with rfl|rfl
      all_goals go_wp2_with (first|(go_at_call 117;(have hz:=D.out);(with_reducible refine Za hz ?_);clear hz;rintro e w1 ⟨⟨v,rfl,ha⟩,Z⟩;(obtain ⟨g,cap,rfl,d0,d1⟩:=ha.two);clear ha))
      all_goals go_region
      all_goals go_wp2
      all_goals go_ret2
      ·exact ⟨by refine Zo (λt=>Ending.returned (.tuple #[.int .i64 t,.bool true])) ?_;first|rfl|omega,(((Ext.refl w).alloc _).trans Z).drew⟩
      ·exact ⟨by refine Zo (λt=>Ending.returned (.tuple #[.int .i64 t,.bool true])) ?_;first|rfl|omega,(((Ext.refl w).alloc _).trans Z).drew⟩
     ·rw[Zf F] at C;unfold OffR;rw[C];have hi:(Q.toList.isEmpty=false)\/(Q.toList.isEmpty=true/\23<(h:Int))\/(Q.toList.isEmpty=true/\¬23<(h:Int)/\59<(m:Int)):=by
       by_cases h0:Q.size=0
       ·rw[Yg h0] at O;by_cases hj:23<(h:Int)
        ·exact Or.inr (Or.inl ⟨O,hj⟩)
        ·refine Or.inr (Or.inr ⟨O,hj,?_⟩);by_cases hr:59<(m:Int)
         ·exact hr
         ·exact absurd ⟨by omega,by omega,by omega⟩ F
       ·rw[Ya h0] at O;exact Or.inl O
      clear C X hf hQ hk hd F O;go_enter func120,ntmps120;rcases A with rfl|rfl
      all_goals rcases hi with c0|⟨c0,c1⟩|⟨c0,c1,c2⟩
      all_goals go_wp2_with (first|(go_at_call 117;(have hz:=D.out);(with_reducible refine Za hz ?_);clear hz;rintro e w1 ⟨⟨v,rfl,ha⟩,Z⟩;(obtain ⟨g,cap,rfl,d0,d1⟩:=ha.two);clear ha))
      all_goals go_ret2
      all_goals exact ⟨rfl,((Ext.refl w).alloc _).trans Z⟩
   ·have C:offP T.data.toList 0=none:=by
     have hc:sepP T.data.toList 0 43 45=false:=(by rw[K];simp only[not_or] at A;simp[A]);cases R:sepP T.data.toList 0 90 122 with
     |true=>unfold offP;rw[R,Zi rfl,Zf];intro h;rw[Zn] at h;rw[I] at R;exact G ⟨h,by simpa using R⟩
     |false=>exact Zbd R (Or.inl hc)
    unfold OffR;rw[C];have q1:((x:Int) !=43)=true:=(by rw[Yj];omega);have q2:((x:Int) !=45)=true:=(by rw[Yj];omega);clear C I K H j hx h0 J G A;go_enter func120,ntmps120;go_wp2
    go_ret2
    exact ⟨rfl,Ext.refl _⟩
end
section
set_option linter.unusedSimpArgs false
theorem Zg2 (S:ByteArray) (a:Nat) (h:a<=S.size):(str (S.data.toList.drop a)).data.toList=S.data.toList.drop a/\(str (S.data.toList.drop a)).size=S.size - a:=⟨Yz _,by rw[Xg,ZL,Zn]⟩
theorem ZeL (l:List UInt8) (h:19<=l.length):fracP l 19=if (fracE (l.drop 19)).2 then some (19+(fracE (l.drop 19)).1) else none:=by
 unfold fracP fracE;rw[Gz,Kq];cases sepP l (19+0) 46 46 with
 |false=>rfl
 |true=>
  simp only[Eq];rw[show 19+1=20 from rfl];rw[UZ (l:=l) l.length (l.drop 19).length 20 (by omega) (by rw[ZL];omega)];generalize digsP l (l.drop 19).length 20=D;by_cases j:D=0
  ·subst j;rfl
  ·rw[Zf j,Yg (by omega)];simp;omega
theorem ZeM (l:List UInt8):(fracE l).1<=l.length:=by
 unfold fracE;cases h:sepP l 0 46 46 with
 |false=>exact Zt _
 |true=>
  rw[Zi rfl];have A:0<l.length:=by
   rcases YG 0 l.length with j|j
   ·exact j
   ·rw[Zbu 46 46 j] at h;cases h
  exact QL l.length 1 A
attribute [local go_sem] calm1
theorem ZfH (S:ByteArray) (w:World) (hs:S.size<=16777216):
 Calls prog 71 #[.string S] w λe w'=>TimeR S.data.toList e/\Ext w w':=by
 have hc:=GA S.data.toList;have hk:RSl (w.alloc (.cells #[.int .i64 4,.int .i64 2,.int .i64 2,.int .i64 2,.int .i64 2,.int .i64 2] 3)) 1 (.slice (some ⟨w.heap.size,0,none⟩) 6 6) 6 (ints [4,2,2,2,2,2]):=ZY (cs:= [.int .i64 4,.int .i64 2,.int .i64 2,.int .i64 2,.int .i64 2,.int .i64 2]) rfl (by decide);have J:=gd (KD S ⟨#[45,45,116,58,58]⟩ [4,2,2,2,2,2] _ _ hs hk (by decide) (by decide) (by decide) (by decide));rw[show ((⟨#[45,45,116,58,58]⟩:ByteArray).data.toList.map UInt8.toNat)= [45,45,116,58,58] from rfl] at J;have I:=Zho S.data.toList;cases hgr:grpG S.data.toList [45,45,116,58,58] [4,2,2,2,2,2] 0 0 with
 |none=>
  rw[hgr] at J I;simp only[GrpR] at J;have hl:stampP S.data.toList=none:=by
   rw[hc];cases hsp:sepsP S.data.toList with
   |false=>rfl
   |true=>
    rw[hsp,Zi rfl] at I;rw[Zi rfl,Zbt];cases h0:numP S.data.toList 0 4 with
    |none=>rfl
    |some y=>cases h1:numP S.data.toList 5 2 with
     |none=>rfl
     |some m=>cases h2:numP S.data.toList 8 2 with
      |none=>rfl
      |some d=>cases h3:numP S.data.toList 11 2 with
       |none=>rfl
       |some h=>cases h4:numP S.data.toList 14 2 with
        |none=>rfl
        |some mi=>cases h5:numP S.data.toList 17 2 with
         |none=>rfl
         |some s=>rw[h0,h1,h2,h3,h4,h5] at I;cases I
  have C:=UK hl;have HR:Hid (∀e,TimeR S.data.toList e=∃x:Int,x≠0/\e= .returned (.tuple #[.int .i64 0,.int .i64 x])):=gd (λe=>by unfold TimeR;rw[C]);clear hc I hgr hl C;go_enter func71,ntmps71
  go_wp2_with (first|(go_at_call 117;(have A:=J.out);(with_reducible refine Za A ?_);clear A;rintro e w1 ⟨rfl,K⟩))
  go_ret2
  exact ⟨by rw[HR.out];exact ⟨20,by decide,rfl⟩,((Ext.refl w).alloc _).trans K⟩
 |some p=>
  rw[hgr] at I J;have hi:∃y m d h mi s,p=([y,m,d,h,mi,s],19)/\y<10000/\m<100/\d<100/\h<100/\mi<100/\s<100/\19<=S.size/\stampP S.data.toList=secsI (y:Int) (m:Int) (d:Int) (h:Int) (mi:Int) (s:Int):=by
   cases hsp:sepsP S.data.toList with
   |false=>rw[hsp] at I;cases I
   |true=>
    rw[hsp,Zi rfl] at I;rw[hsp,Zi rfl] at hc;cases h0:numP S.data.toList 0 4 with
    |none=>rw[h0] at I;cases I
    |some y=>cases h1:numP S.data.toList 5 2 with
     |none=>rw[h0,h1] at I;cases I
     |some m=>cases h2:numP S.data.toList 8 2 with
      |none=>rw[h0,h1,h2] at I;cases I
      |some d=>cases h3:numP S.data.toList 11 2 with
       |none=>rw[h0,h1,h2,h3] at I;cases I
       |some h=>cases h4:numP S.data.toList 14 2 with
        |none=>rw[h0,h1,h2,h3,h4] at I;cases I
        |some mi=>cases h5:numP S.data.toList 17 2 with
         |none=>rw[h0,h1,h2,h3,h4,h5] at I;cases I
         |some s=>
          rw[h0,h1,h2,h3,h4,h5] at I hc;injection I with I;refine ⟨y,m,d,h,mi,s,I,Jj h0,Jj h1,Jj h2,Jj h3,Jj h4,Jj h5,?_,hc⟩;rcases YG S.data.toList.length 19 with h6|h6
          ·rw[U3 (by omega) (by omega)] at h5;cases h5
          ·rwa [Zn] at h6
  obtain ⟨y,m,d,h,mi,s,rfl,hy,hm,hd,hh,hB,hC,ho,j⟩:=hi;have hfr:=ZeL S.data.toList (by rw[Zn];exact ho);obtain ⟨he,hn⟩:=Zg2 S 19 ho;obtain ⟨Q,hQ⟩:∃Q,str (S.data.toList.drop 19)=Q:=⟨_,rfl⟩;rw[hQ] at he hn;have hu:=ZeM Q.data.toList;have ha:=gd (λw'=>E1 Q w' (by omega));rw[<-he] at hfr;obtain ⟨F,hF⟩:∃F,(fracE Q.data.toList).1=F:=⟨_,rfl⟩;obtain ⟨fb,ht⟩:∃b,(fracE Q.data.toList).2=b:=⟨_,rfl⟩;rw[hF,ht] at hfr ha;rw[hF,Zn,hn] at hu;obtain ⟨Z,hZ⟩:∃Z,str (Q.data.toList.drop F)=Z:=⟨_,rfl⟩;have hp:Z.data.toList=S.data.toList.drop (19+F):=by rw[<-hZ,Yz,he,List.drop_drop]
  have hq:Z.size<=16777216:=by rw[<-hZ,Xg,ZL,Zn];omega
  rw[hZ] at ha;have H:=gd (λw'=>Zcf Z w' hq);have hj:offP Z.data.toList 0=offP S.data.toList (19+F):=by rw[hp,ZdE _ _ _ (by rw[Zn];omega),Nat.add_zero]
  unfold OffR at H;rw[hj] at H;have hb:=gd (λw'=>Zbr (y:Int) (m:Int) (d:Int) (h:Int) (mi:Int) (s:Int) w');simp only[GrpR,hQ] at J;have hA:(y:Int)<=9999:=by omega
  clear I hgr hc hu he hn hF ht hZ hp hq hj hk hQ;have hO:∃(O:Int) (ob:Bool),Hid (∀w':World,Calls prog 120 #[.string Z] w' λe hx=>e= .returned (.tuple #[.int .i64 O,.bool ob])/\Ext w' hx)/\offP S.data.toList (19+F)=if ob then some O else none:=by
   cases hoo:offP S.data.toList (19+F) with
   |none=>rw[hoo] at H;exact ⟨0,false,H,rfl⟩
   |some x=>rw[hoo] at H;exact ⟨x,true,H,rfl⟩
  clear H;obtain ⟨O,ob,H,R⟩:=hO;cases hsec:secsI (y:Int) (m:Int) (d:Int) (h:Int) (mi:Int) (s:Int) with
  |none=>
   rw[hsec] at j hb;have C:=UK j;have HR:Hid (∀e,TimeR S.data.toList e=∃x:Int,x≠0/\e= .returned (.tuple #[.int .i64 0,.int .i64 x])):=gd (λe=>by unfold TimeR;rw[C]);clear C j hsec hfr R;go_enter func71,ntmps71
   go_wp2_with (first|(go_at_call 117;(have A:=J.out);(with_reducible refine Za A ?_);clear A;rintro e w1 ⟨⟨v,rfl,G⟩,K⟩;(obtain ⟨g,cap,rfl,d0,d1,d2,d3,d4,d5⟩:=G.six);clear G))
   have z0:∀D:Aft w1,D.w.cell? ⟨g,0,none⟩=some (.int .i64 (y:Nat)):=Aft.cell d0;have z1:∀D:Aft w1,D.w.cell? ⟨g,1,none⟩=some (.int .i64 (m:Nat)):=Aft.cell d1;have z2:∀D:Aft w1,D.w.cell? ⟨g,2,none⟩=some (.int .i64 (d:Nat)):=Aft.cell d2;have z3:∀D:Aft w1,D.w.cell? ⟨g,3,none⟩=some (.int .i64 (h:Nat)):=Aft.cell d3;have z4:∀D:Aft w1,D.w.cell? ⟨g,4,none⟩=some (.int .i64 (mi:Nat)):=Aft.cell d4;have z5:∀D:Aft w1,D.w.cell? ⟨g,5,none⟩=some (.int .i64 (s:Nat)):=Aft.cell d5;clear d0 d1 d2 d3 d4 d5;refine rA ?_
   repeat (quiet_step ((go_at_call 118;with_reducible exact YU (hb.out _))))
   refine YB ?_;rintro _ ⟨D,rfl⟩;have Y:=D.ext;clear z0 z1 z2 z3 z4 z5
   go_wp2_with (first|(go_at_call 119;(have A:=ha.out D.w);(with_reducible refine Za A ?_);clear A;rintro e w3 ⟨rfl,U⟩;subst U)|(go_at_call 120;(have A:=H.out D.w);(with_reducible refine Za A ?_);clear A;rintro e w4 ⟨rfl,V⟩))
   go_ret2
   exact ⟨by rw[HR.out];exact ⟨20,by decide,rfl⟩,((((Ext.refl w).alloc _).trans K).trans Y).trans V⟩
  |some t=>
   have hf:=Zbs hsec;rw[hsec] at j hb;clear hsec;cases fb with
   |false=>
    have C:=GY hfr;have HR:Hid (∀e,TimeR S.data.toList e=∃x:Int,x≠0/\e= .returned (.tuple #[.int .i64 0,.int .i64 x])):=gd (λe=>by unfold TimeR;rw[C]);clear C j hfr R hf;go_enter func71,ntmps71
    go_wp2_with (first|(go_at_call 117;(have A:=J.out);(with_reducible refine Za A ?_);clear A;rintro e w1 ⟨⟨v,rfl,G⟩,K⟩;(obtain ⟨g,cap,rfl,d0,d1,d2,d3,d4,d5⟩:=G.six);clear G))
    have z0:∀D:Aft w1,D.w.cell? ⟨g,0,none⟩=some (.int .i64 (y:Nat)):=Aft.cell d0;have z1:∀D:Aft w1,D.w.cell? ⟨g,1,none⟩=some (.int .i64 (m:Nat)):=Aft.cell d1;have z2:∀D:Aft w1,D.w.cell? ⟨g,2,none⟩=some (.int .i64 (d:Nat)):=Aft.cell d2;have z3:∀D:Aft w1,D.w.cell? ⟨g,3,none⟩=some (.int .i64 (h:Nat)):=Aft.cell d3;have z4:∀D:Aft w1,D.w.cell? ⟨g,4,none⟩=some (.int .i64 (mi:Nat)):=Aft.cell d4;have z5:∀D:Aft w1,D.w.cell? ⟨g,5,none⟩=some (.int .i64 (s:Nat)):=Aft.cell d5;clear d0 d1 d2 d3 d4 d5;refine rA ?_
    repeat (quiet_step ((go_at_call 118;with_reducible exact YU (hb.out _))))
    refine YB ?_;rintro _ ⟨D,rfl⟩;have Y:=D.ext;clear z0 z1 z2 z3 z4 z5
    go_wp2_with (first|(go_at_call 119;(have A:=ha.out D.w);(with_reducible refine Za A ?_);clear A;rintro e w3 ⟨rfl,U⟩;subst U)|(go_at_call 120;(have A:=H.out D.w);(with_reducible refine Za A ?_);clear A;rintro e w4 ⟨rfl,V⟩))
    go_ret2
    exact ⟨by rw[HR.out];exact ⟨20,by decide,rfl⟩,((((Ext.refl w).alloc _).trans K).trans Y).trans V⟩
   |true=>
    rw[Zi rfl] at hfr;have C:=Qx j hfr;cases ob with
    |false=>
     rw[Zf (by decide)] at R;rw[R] at C;have HR:Hid (∀e,TimeR S.data.toList e=∃x:Int,x≠0/\e= .returned (.tuple #[.int .i64 0,.int .i64 x])):=gd (λe=>by unfold TimeR;rw[C]);clear C j hfr R hf;go_enter func71,ntmps71
     go_wp2_with (first|(go_at_call 117;(have A:=J.out);(with_reducible refine Za A ?_);clear A;rintro e w1 ⟨⟨v,rfl,G⟩,K⟩;(obtain ⟨g,cap,rfl,d0,d1,d2,d3,d4,d5⟩:=G.six);clear G))
     have z0:∀D:Aft w1,D.w.cell? ⟨g,0,none⟩=some (.int .i64 (y:Nat)):=Aft.cell d0;have z1:∀D:Aft w1,D.w.cell? ⟨g,1,none⟩=some (.int .i64 (m:Nat)):=Aft.cell d1;have z2:∀D:Aft w1,D.w.cell? ⟨g,2,none⟩=some (.int .i64 (d:Nat)):=Aft.cell d2;have z3:∀D:Aft w1,D.w.cell? ⟨g,3,none⟩=some (.int .i64 (h:Nat)):=Aft.cell d3;have z4:∀D:Aft w1,D.w.cell? ⟨g,4,none⟩=some (.int .i64 (mi:Nat)):=Aft.cell d4;have z5:∀D:Aft w1,D.w.cell? ⟨g,5,none⟩=some (.int .i64 (s:Nat)):=Aft.cell d5;clear d0 d1 d2 d3 d4 d5;refine rA ?_
     repeat (quiet_step ((go_at_call 118;with_reducible exact YU (hb.out _))))
     refine YB ?_;rintro _ ⟨D,rfl⟩;have Y:=D.ext;clear z0 z1 z2 z3 z4 z5
     go_wp2_with (first|(go_at_call 119;(have A:=ha.out D.w);(with_reducible refine Za A ?_);clear A;rintro e w3 ⟨rfl,U⟩;subst U)|(go_at_call 120;(have A:=H.out D.w);(with_reducible refine Za A ?_);clear A;rintro e w4 ⟨rfl,V⟩))
     go_ret2
     exact ⟨by rw[HR.out];exact ⟨20,by decide,rfl⟩,((((Ext.refl w).alloc _).trans K).trans Y).trans V⟩
    |true=>
     rw[Zi rfl] at R;have hv:=Zac R;rw[R] at C;simp only at C;have hw:wrap64 (t - O)=t - O:=Xn _ ⟨by omega,by omega⟩;cases hT:inT (t - O) with
     |true=>
      rw[hT,Zi rfl] at C;have HR:Hid (∀e,TimeR S.data.toList e=(e= .returned (.tuple #[.int .i64 (t - O),.int .i64 0]))):=gd (λe=>by unfold TimeR;rw[C]);have hr: -62135596800<=t - O/\t - O<=253402300799:=(by simpa [inT] using hT);obtain ⟨X,hX⟩:∃X,t - O=X:=⟨_,rfl⟩;rw[hX] at hr HR hw;have q1:¬X< -62135596800:=(by omega);have q2:¬253402300799<X:=(by omega);clear C j hfr R hf hv hT hr;go_enter func71,ntmps71
      go_wp2_with (first|(go_at_call 117;(have A:=J.out);(with_reducible refine Za A ?_);clear A;rintro e w1 ⟨⟨v,rfl,G⟩,K⟩;(obtain ⟨g,cap,rfl,d0,d1,d2,d3,d4,d5⟩:=G.six);clear G))
      have z0:∀D:Aft w1,D.w.cell? ⟨g,0,none⟩=some (.int .i64 (y:Nat)):=Aft.cell d0;have z1:∀D:Aft w1,D.w.cell? ⟨g,1,none⟩=some (.int .i64 (m:Nat)):=Aft.cell d1;have z2:∀D:Aft w1,D.w.cell? ⟨g,2,none⟩=some (.int .i64 (d:Nat)):=Aft.cell d2;have z3:∀D:Aft w1,D.w.cell? ⟨g,3,none⟩=some (.int .i64 (h:Nat)):=Aft.cell d3;have z4:∀D:Aft w1,D.w.cell? ⟨g,4,none⟩=some (.int .i64 (mi:Nat)):=Aft.cell d4;have z5:∀D:Aft w1,D.w.cell? ⟨g,5,none⟩=some (.int .i64 (s:Nat)):=Aft.cell d5;clear d0 d1 d2 d3 d4 d5;refine rA ?_
      repeat (quiet_step ((go_at_call 118;with_reducible exact YU (hb.out _))))
      refine YB ?_;rintro _ ⟨D,rfl⟩;have Y:=D.ext;clear z0 z1 z2 z3 z4 z5
      go_wp2_with (first|(go_at_call 119;(have A:=ha.out D.w);(with_reducible refine Za A ?_);clear A;rintro e w3 ⟨rfl,U⟩;subst U)|(go_at_call 120;(have A:=H.out D.w);(with_reducible refine Za A ?_);clear A;rintro e w4 ⟨rfl,V⟩))
      go_ret2
      exact ⟨by rw[HR.out];rfl,((((Ext.refl w).alloc _).trans K).trans Y).trans V⟩
     |false=>
      rw[hT,Zf (by decide)] at C;have HR:Hid (∀e,TimeR S.data.toList e=∃x:Int,x≠0/\e= .returned (.tuple #[.int .i64 0,.int .i64 x])):=gd (λe=>by unfold TimeR;rw[C]);have hr:t - O< -62135596800\/(¬t - O< -62135596800/\253402300799<t - O):=(by have:¬(-62135596800<=t - O/\t - O<=253402300799):=λh=>(by rw[show inT (t - O)=true by simpa [inT] using h] at hT;cases hT);omega);obtain ⟨X,hX⟩:∃X,t - O=X:=⟨_,rfl⟩;rw[hX] at hr hw;clear C j hfr R hf hv hT;rcases hr with q1|⟨q1,q2⟩
      all_goals
       go_enter func71,ntmps71
       go_wp2_with (first|(go_at_call 117;(have A:=J.out);(with_reducible refine Za A ?_);clear A;rintro e w1 ⟨⟨v,rfl,G⟩,K⟩;(obtain ⟨g,cap,rfl,d0,d1,d2,d3,d4,d5⟩:=G.six);clear G))
       have z0:∀D:Aft w1,D.w.cell? ⟨g,0,none⟩=some (.int .i64 (y:Nat)):=Aft.cell d0
       have z1:∀D:Aft w1,D.w.cell? ⟨g,1,none⟩=some (.int .i64 (m:Nat)):=Aft.cell d1
       have z2:∀D:Aft w1,D.w.cell? ⟨g,2,none⟩=some (.int .i64 (d:Nat)):=Aft.cell d2
       have z3:∀D:Aft w1,D.w.cell? ⟨g,3,none⟩=some (.int .i64 (h:Nat)):=Aft.cell d3
       have z4:∀D:Aft w1,D.w.cell? ⟨g,4,none⟩=some (.int .i64 (mi:Nat)):=Aft.cell d4
       have z5:∀D:Aft w1,D.w.cell? ⟨g,5,none⟩=some (.int .i64 (s:Nat)):=Aft.cell d5
       clear d0 d1 d2 d3 d4 d5
       refine rA ?_
       repeat (quiet_step ((go_at_call 118;with_reducible exact YU (hb.out _))))
       refine YB ?_
       rintro _ ⟨D,rfl⟩
       have Y:=D.ext
       clear z0 z1 z2 z3 z4 z5
       go_wp2_with (first|(go_at_call 119;(have A:=ha.out D.w);(with_reducible refine Za A ?_);clear A;rintro e w3 ⟨rfl,U⟩;subst U)|(go_at_call 120;(have A:=H.out D.w);(with_reducible refine Za A ?_);clear A;rintro e w4 ⟨rfl,V⟩))
       go_ret2
       exact ⟨by rw[HR.out];exact ⟨3,by decide,rfl⟩,((((Ext.refl w).alloc _).trans K).trans Y).trans V⟩
end
end Go.Proofs.YthlnaldahkgjnaaGreatDoor
