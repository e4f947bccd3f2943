/- Parts of the proof: contracts and plain laws. -/
import Derived.Test.YtmfinhgobjbecaaGreatDoorA28
namespace Go.Proofs.YtmfinhgobjbecaaGreatDoor
open Go Go.RowKit _root_.Go.Proofs.Tryz
set_option linter.unusedVariables false
set_option linter.unusedSimpArgs false
set_option maxRecDepth 100000
set_option maxHeartbeats 16000000
section
set_option linter.unusedSimpArgs false
theorem Za3 (y:Nat) (w:World) (A:1<=y) (C:y<=9999):
 Calls prog 165 #[.int .i64 (y:Nat)] w λe w'=>e= .returned (.bool (leapN y))/\w'=w:=by
 have h:(1:Int)<=(y:Int):=om
 have a2:(y:Int)<=9999:=om
 go_enter func165,ntmps165;go_wp2
 all_goals go_ret
 all_goals exact ⟨ZqS (λb=>Ending.returned (Value.bool b)) (ZrG.2 (by rw[QX];simp;omega)),rfl⟩
theorem GO (y m:Int) (w:World):
 Calls prog 166 #[.int .i64 y,.int .i64 m] w λe w'=>e= .returned (.int .i64 (dimI y m:Nat))/\w'=w:=by
 by_cases h:1<=y/\y<=9999/\1<=m/\m<=12
 ·obtain ⟨y,rfl⟩:=Int.eq_ofNat_of_zero_le (show 0<=y by omega);obtain ⟨m,rfl⟩:=Int.eq_ofNat_of_zero_le (show 0<=m by omega);have R:1<=y/\y<=9999/\1<=m/\m<=12:=om
  have D:=gd (Xv R);obtain ⟨O,Q,S,U⟩:=R;have H:=gd (λw'=>Za3 y w' O Q);have Y:¬(y:Int)<1:=om
  have a2:¬9999<(y:Int):=om
  have a3:¬(m:Int)<1:=om
  have a4:¬12<(m:Int):=om
  by_cases F:m=2
  ·have A:Hid (dimN y m=if leapN y then 29 else 28):=(by show _=_;unfold dimN;rw[ZqN F]);subst F;cases hb:leapN y
   ·rw[hb] at H;clear h O Q S U;go_enter func166,ntmps166
    go_wp2_with (first|(go_at_call 165;refine ZqD (H.out _) ?_;rintro e w1 ⟨rfl,rfl⟩))
    go_ret;exact ⟨by rw[D.out,A.out,hb];rfl,rfl⟩
   ·rw[hb] at H;clear h O Q S U;go_enter func166,ntmps166
    go_wp2_with (first|(go_at_call 165;refine ZqD (H.out _) ?_;rintro e w1 ⟨rfl,rfl⟩))
    go_ret;exact ⟨by rw[D.out,A.out,hb];rfl,rfl⟩
  ·have a5:¬(m:Int)=2:=om;have A:Hid (dimN y m=if m=4\/m=6\/m=9\/m=11 then 30 else 31):=(by show _=_;unfold dimN;rw[ZqH F]);by_cases I:m=4\/m=6\/m=9\/m=11
   ·have J:Hid (dimN y m=30):=(by show _=_;rw[A.out,ZqN I]);clear h F A;rcases I with rfl|rfl|rfl|rfl
    all_goals go_enter func166,ntmps166
    all_goals go_wp2
    all_goals go_ret
    all_goals exact ⟨ZqS (λn:Nat=>Ending.returned (.int .i64 n)) (D.out.trans J.out).symm,rfl⟩
   ·have J:Hid (dimN y m=31):=(by show _=_;rw[A.out,ZqH I]);have C:m=1\/m=3\/m=5\/m=7\/m=8\/m=10\/m=12:=om;clear h F A I a5 a3 a4;rcases C with rfl|rfl|rfl|rfl|rfl|rfl|rfl
    all_goals go_enter func166,ntmps166
    all_goals go_wp2
    all_goals go_ret
    all_goals exact ⟨ZqS (λn:Nat=>Ending.returned (.int .i64 n)) (D.out.trans J.out).symm,rfl⟩
 ·have D:=gd (IE h);have C:y<1\/(¬y<1/\9999<y)\/(¬y<1/\¬9999<y/\m<1)\/(¬y<1/\¬9999<y/\¬m<1/\12<m):=om
  clear h;go_enter func166,ntmps166;rcases C with C|⟨C,V⟩|⟨C,V,X⟩|⟨C,V,X,Z⟩
  all_goals go_wp2
  all_goals go_ret
  all_goals exact ⟨by rw[D.out];rfl,rfl⟩
theorem Zdx (y:Nat) (w:World) (J:1<=y) (O:y<=9999):
 Calls prog 194 #[.int .i64 (y:Nat)] w λe w'=>e= .returned (.int .i64 (befN y:Nat))/\w'=w:=by
 go_enter func194,ntmps194;go_wp2;go_loopw [3,4] (λn i wr=>∃k:Nat,1<=k/\k<=y/\n= .int .i64 (befN k:Nat)/\i= .int .i64 (k:Nat)/\wr=w) (λ_ i _=>y - (intOf i).toNat)
 case atStart=>exact ⟨1,om,J,rfl,rfl,rfl⟩
 case round=>
  obtain ⟨k,C,Q,rfl,rfl,rfl⟩:=hrel;have I:=Zbw C (show k<=10000 by omega);by_cases D:k<y
  ·have F:=gd (λw'=>Za3 k w' C om);have h:=Jz k C;unfold lenN at h;obtain ⟨B,H⟩:∃B,befN k=B:=⟨_,rfl⟩;rw[H] at h I;simp only[H];clear H;have b1:(k:Int)<(y:Int):=om;cases hl:leapN k with
   |true=>
    rw[hl] at F h;simp only[Zsy] at h;have A:=gd h;clear h hl
    go_wp2_with (first|(go_at_call 165;refine ZqD (F.out _) ?_;rintro e w1 ⟨rfl,rfl⟩))
    go_roundw
    case rel=>exact ⟨k+1,om,D,by rw[A.out];refine ZqS (Value.int .i64) ?_;omega,by go_num,trivial⟩
    case measure=>simp[intOf];omega
   |false=>
    rw[hl] at F h;simp only[ZrW,ZsJ] at h;have A:=gd h;clear h hl
    go_wp2_with (first|(go_at_call 165;refine ZqD (F.out _) ?_;rintro e w1 ⟨rfl,rfl⟩))
    go_roundw
    case rel=>exact ⟨k+1,om,D,by rw[A.out];refine ZqS (Value.int .i64) ?_;omega,by go_num,trivial⟩
    case measure=>simp[intOf];omega
  ·obtain rfl:k=y:=om;go_wp2;go_ret;exact ⟨rfl,rfl⟩
theorem Zhn (y m d:Int) (w:World) (h:d<1\/(dimI y m:Int)<d):
 Calls prog 159 #[.int .i64 y,.int .i64 m,.int .i64 d] w λe w'=>e= .returned (.tuple #[.int .i64 0,.int .i64 3])/\w'=w:=by
 have C:=gd (λw'=>GO y m w');generalize dimI y m=D at*;have A:d<1\/(¬d<1/\(D:Int)<d):=om
 clear h;go_enter func159,ntmps159;rcases A with A|⟨A,F⟩
 ·go_wp2
  go_ret2
  exact ⟨rfl,rfl⟩
 ·go_wp2_with (first|(go_at_call 166;refine ZqD (C.out _) ?_;rintro e w1 ⟨rfl,rfl⟩))
  go_ret2
  exact ⟨rfl,rfl⟩
theorem Zjs (y m d:Nat) (w:World) (h:1<=y/\y<=9999/\1<=m/\m<=12) (hb:1<=d) (U:d<=dimN y m):
 Calls prog 159 #[.int .i64 (y:Nat),.int .i64 (m:Nat),.int .i64 (d:Nat)] w λe w'=>e= .returned (.tuple #[.int .i64 (dayN y m d),.int .i64 0])/\w'=w:=by
 have O:∀k:Nat,1<=k->k<=12->∀w',Calls prog 166 #[.int .i64 (y:Nat),.int .i64 (k:Nat)] w' λe ha=>e= .returned (.int .i64 (dimN y k:Nat))/\ha=w':=λk J h4 w'=>by
  have:=GO y k w'
  rwa [Xv ⟨h.1,h.2.1,J,h4⟩] at this
 have HL:=gd O;have Y:=(JK y m).2;have HB:=gd (λw'=>Zdx y w' h.1 h.2.1);have S:=Zbw h.1 om;obtain ⟨R,Q⟩:∃R,dayN y m d=R:=⟨_,rfl⟩;rw[Q];have HR:=gd Q;have HM:=gd (λk (hk:k<=12)=>Zfh y hk);obtain ⟨D,H⟩:∃D,dimN y m=D:=⟨_,rfl⟩;have F:=gd (O m h.2.2.1 h.2.2.2);rw[H] at U F Y;obtain ⟨B,hB⟩:∃B,befN y=B:=⟨_,rfl⟩;rw[hB] at S HB;clear O Q H;obtain ⟨h1,h2,J,h4⟩:=h;have a1:¬(d:Int)<1:=om
 have a2:¬(D:Int)<d:=om
 have a3:¬D<d:=om
 go_enter func159,ntmps159
 go_wp2_with (first|(go_at_call 166;refine ZqD (F.out _) ?_;rintro e w1 ⟨rfl,rfl⟩)|(go_at_call 194;refine ZqD (HB.out _) ?_;rintro e w1 ⟨rfl,rfl⟩))
 obtain ⟨wP,hd⟩:∃wP:World,wP=w1:=⟨_,rfl⟩;go_loopw [8,9] (λn i wr=>∃k:Nat,1<=k/\k<=m/\n= .int .i64 (((B+monN y (k - 1):Nat):Int) - 719162)/\i= .int .i64 (k:Nat)/\wr=w1) (λ_ i _=>m - (intOf i).toNat)
 case atStart=>exact ⟨1,om,J,rfl,rfl,rfl⟩
 case round=>
  obtain ⟨k,hc,hk,rfl,rfl,rfl⟩:=hrel;have I:=HM.out (k - 1) om;by_cases Z:k<m
  ·have b1:(k:Int)<(m:Int):=om;have HC:=gd (HL.out k om om);have V:=JK y k;have C:Hid (monN y (k+1 - 1)=monN y (k - 1)+dimN y k):=(by obtain ⟨j,rfl⟩:∃j,k=j+1:=⟨k - 1,om⟩;rfl);obtain ⟨E,hE⟩:∃E,dimN y k=E:=⟨_,rfl⟩;rw[hE] at HC V C;obtain ⟨M,A⟩:∃M,monN y (k - 1)=M:=⟨_,rfl⟩;rw[A] at C I;simp only[A];clear hE A
   go_wp2_with (first|(go_at_call 166;refine ZqD (HC.out _) ?_;rintro e w1 ⟨rfl,rfl⟩))
   go_roundw
   case rel=>exact ⟨k+1,om,Z,by rw[C.out];refine ZqS (Value.int .i64) ?_;omega,by go_num,trivial⟩
   case measure=>simp[intOf];omega
  ·obtain rfl:k=m:=om;have hF:Hid (((B+monN y (k - 1):Nat):Int) - 719162+((d:Int) - 1)=R):=(by show _=_;rw[<-HR.out,dayN,hB];generalize monN y (k - 1)=X;omega);obtain ⟨M,A⟩:∃M,monN y (k - 1)=M:=⟨_,rfl⟩;rw[A] at hF I;simp only[A];clear A;go_wp2
   go_ret2
   exact ⟨by rw[<-hF.out];rfl,rfl⟩
theorem ZcU (y m d h mi s:Int) (w:World):
 Calls prog 122 #[.int .i64 y,.int .i64 m,.int .i64 d,.int .i64 h,.int .i64 mi,.int .i64 s] w λe w'=>
  e= .returned (match secsI y m d h mi s with|some t=> .tuple #[.int .i64 t,.int .i64 0]|none=> .tuple #[.int .i64 0,.int .i64 3])/\w'=w:=by
 by_cases J:d<1\/(dimI y m:Int)<d
 ·have D:secsI y m d h mi s=none:=by unfold secsI;rw[ZqH om]
  rw[D];have I:=gd (λw'=>Zhn y m d w' J);clear J D;go_enter func122,ntmps122
  go_wp2_with (first|(go_at_call 159;refine ZqD (I.out _) ?_;rintro e w1 ⟨rfl,rfl⟩))
  go_ret2
  exact ⟨rfl,rfl⟩
 ·have Q:=IF (y:=y) (m:=m) om;obtain ⟨y,rfl⟩:=Int.eq_ofNat_of_zero_le (show 0<=y by omega);obtain ⟨m,rfl⟩:=Int.eq_ofNat_of_zero_le (show 0<=m by omega);obtain ⟨d,rfl⟩:=Int.eq_ofNat_of_zero_le (show 0<=d by omega);have A:1<=y/\y<=9999/\1<=m/\m<=12:=om
  have F:=Xv A;have I:=gd (λw'=>Zjs y m d w' A om om);have H:=ZeZ (d:=d) A om;by_cases R:0<=h/\h<=23/\0<=mi/\mi<=59/\0<=s/\s<=59
  ·have O:secsI y m d h mi s=some (dayN y m d*86400+(h*3600+mi*60+s)):=(by unfold secsI;rw[ZqN om];rfl);rw[O];generalize dayN y m d=X at*;obtain ⟨h,rfl⟩:=Int.eq_ofNat_of_zero_le (show 0<=h by omega);obtain ⟨mi,rfl⟩:=Int.eq_ofNat_of_zero_le (show 0<=mi by omega);obtain ⟨s,rfl⟩:=Int.eq_ofNat_of_zero_le (show 0<=s by omega);have b1:¬(h:Int)<0:=om;have b2:¬23<(h:Int):=om;have b3:¬(mi:Int)<0:=om;have b4:¬59<(mi:Int):=om;have b5:¬(s:Int)<0:=om;have V:¬59<(s:Int):=om;obtain ⟨S,U⟩:=H;clear O F Q A J R;go_enter func122,ntmps122
   go_wp2_with (first|(go_at_call 159;refine ZqD (I.out _) ?_;rintro e w1 ⟨rfl,rfl⟩))
   go_ret2
   exact ⟨by refine ZqS (λt=>Ending.returned (.tuple #[.int .i64 t,.int .i64 0])) ?_;rfl,rfl⟩
  ·have D:secsI y m d h mi s=none:=(by unfold secsI;rw[ZqH om]);rw[D];generalize dayN y m d=X at*;have C:h<0\/(¬h<0/\23<h)\/(¬h<0/\¬23<h/\mi<0)\/(¬h<0/\¬23<h/\¬mi<0/\59<mi)\/(¬h<0/\¬23<h/\¬mi<0/\¬59<mi/\s<0)\/(¬h<0/\¬23<h/\¬mi<0/\¬59<mi/\¬s<0/\59<s):=om;clear D F Q A J R H;go_enter func122,ntmps122;rcases C with C|⟨c1,C⟩|⟨c1,c2,C⟩|⟨c1,c2,c3,C⟩|⟨c1,c2,c3,c4,C⟩|⟨c1,c2,c3,c4,c5,C⟩
   all_goals go_wp2_with (first|(go_at_call 159;refine ZqD (I.out _) ?_;rintro e w1 ⟨rfl,rfl⟩))
   all_goals go_ret2
   all_goals exact ⟨rfl,rfl⟩
end
section
set_option linter.unusedSimpArgs false
theorem Xa (s:ByteArray) (i a b:Nat) (w:World) (O:s.size<=16777216) (J:i<=16777316) (H:a<256) (I:b<256):
 Calls prog 121 #[.string s,.int .i64 (i:Nat),.int .u8 (a:Nat),.int .u8 (b:Nat)] w λe w'=>e= .returned (.bool (sepP s.data.toList i a b))/\w'=w:=by
 by_cases h:i<s.size
 ·have D:i<s.data.toList.length:=by rw[Zb];exact h
  have A:=gd (Gb (l:=s.data.toList) a b D);have C:s.data.toList[i]=s[i]:=rfl;rw[C] at A;have F:(0:Int)<=(i:Int):=om
  have a2:(i:Int)<(s.size:Int):=om
  go_enter func121,ntmps121;go_wp2
  all_goals go_ret
  all_goals exact ⟨by rw[A.out];refine ZqS (λb=>Ending.returned (Value.bool b)) ?_;rw[ZrG];simp;omega,rfl⟩
 ·have A:=gd (ZhD (l:=s.data.toList) (i:=i) a b (by rw[Zb];omega));have a2:¬(i:Int)<(s.size:Int):=om
  go_enter func121,ntmps121;go_wp2;go_ret;exact ⟨by rw[A.out];rfl,rfl⟩
theorem ZV (s:ByteArray) (a width:Nat) (w:World) (hs:s.size<=16777216) (ha:a<=16777316) (hb:0<width) (hw:width<=4):
 Calls prog 123 #[.string s,.int .i64 (a:Nat),.int .i64 (width:Nat)] w λe w'=>e= .returned (.int .i64 (oi (numP s.data.toList a width)))/\w'=w:=by
 obtain ⟨R,I⟩:∃R,numP s.data.toList a width=R:=⟨_,rfl⟩;rw[I];by_cases h:a+width<=s.size
 ·have a1:¬(a:Int)<0:=om
  have a2:¬(s.size:Int) - (a:Int)<(width:Int):=om
  have HR:=gd I;clear I;go_enter func123,ntmps123;go_wp2;go_loopw [7,8] (λn i wr=>∃k m:Nat,k<=width/\m<=9999/\n= .int .i64 (m:Nat)/\i= .int .i64 (k:Nat)/\Hid (numP s.data.toList a k=some m)/\wr=w) (λ_ i _=>width - (intOf i).toNat)
  case atStart=>exact ⟨0,0,om,om,rfl,rfl,rfl,rfl⟩
  case round=>
   obtain ⟨k,m,hk,hm,rfl,rfl,X,rfl⟩:=hrel;by_cases Q:k<width
   ·have hl:a+k<s.data.toList.length:=(by rw[Zb];omega);have O:=Ze3 hl;have U:s.data.toList[a+k]=s[a+k]'(om):=rfl;rw[U] at O;have b1:(k:Int)<(width:Int):=om;obtain ⟨K,hK⟩:∃K,a+k=K:=⟨_,rfl⟩;have he:(a:Int)+(k:Int)=(K:Int):=om;have hf:K<s.size:=om;simp only[hK] at O;obtain ⟨c,Y⟩:∃c,s[K]=c:=⟨_,rfl⟩;rw[Y] at O;have J:=c.toNat_lt;have b2:(0:Int)<=(K:Int):=om;have b3:(K:Int)<(s.size:Int):=om;have C:Hid (digP s.data.toList (a+k)=if 48<=c.toNat/\c.toNat<=57 then some (c.toNat - 48) else none):=(by show _=_;rw[hK];exact O);clear O hl U;by_cases A:48<=c.toNat/\c.toNat<=57
    ·have D:Hid (numP s.data.toList a (k+1)=some (m*10+(c.toNat - 48))):=Zet X.out (by rw[C.out,ZqN A]);have S:m*10+(c.toNat - 48)<=9999:=(by have h1:=Xx D.out;have h2:10 ^ (k+1)<=10 ^ 4:=Nat.pow_le_pow_right om om;omega);obtain ⟨x,V⟩:∃x,c.toNat=x:=⟨_,rfl⟩;rw[V] at A D S;have c1:¬(x:Int)<48:=om;have c2:¬57<(x:Int):=om;have Z:(s[K].toNat:Int)=(x:Int):=(by rw[Y,V]);clear C X J hK;go_wp2;go_roundw
     case rel=>exact ⟨k+1,m*10+(x - 48),Q,S,by refine ZqS (Value.int .i64) ?_;omega,by go_num,D,trivial⟩
     case measure=>simp[intOf];omega
    ·have H:Hid (R=none):=(by show _=_;rw[<-HR.out];exact Q5 (k:=k) (by rw[C.out,ZqH A]) Q);obtain ⟨x,V⟩:∃x,c.toNat=x:=⟨_,rfl⟩;rw[V] at A;have Z:(s[K].toNat:Int)=(x:Int):=(by rw[Y,V]);have F:(x:Int)<48\/(¬(x:Int)<48/\57<(x:Int)):=om;clear C X J hK A;rcases F with c1|⟨c1,c2⟩
     ·go_wp2;go_ret;exact ⟨by rw[H.out];rfl,rfl⟩
     ·go_wp2;go_ret;exact ⟨by rw[H.out];rfl,rfl⟩
   ·obtain rfl:k=width:=om;have H:Hid (R=some m):=(by show _=_;rw[<-HR.out];exact X.out);go_wp2;go_ret;exact ⟨by rw[H.out];rfl,rfl⟩
 ·have H:R=none:=by rw[<-I];exact Vz (by rw[Zb];omega) hb
  subst H;have a1:¬(a:Int)<0:=om
  have a2:(s.size:Int) - (a:Int)<(width:Int):=om
  clear I;go_enter func123,ntmps123;go_wp2;go_ret;exact ⟨rfl,rfl⟩
end
section
set_option linter.unusedSimpArgs false
theorem GS (s:ByteArray) (a:Nat) (w:World) (hs:s.size<=16777216) (ha:a<=16777216):
 Calls prog 124 #[.string s,.int .i64 (a:Nat)] w λe w'=>e= .returned (match offP s.data.toList a with|some x=> .tuple #[.int .i64 x,.bool true]|none=> .tuple #[.int .i64 0,.bool false])/\w'=w:=by
 have R:=gd (λw'=>Xa s a 90 122 w' hs om om om);obtain ⟨U,I⟩:∃K,a+1=K:=⟨_,rfl⟩;obtain ⟨K3,J⟩:∃K,a+3=K:=⟨_,rfl⟩;obtain ⟨K4,O⟩:∃K,a+4=K:=⟨_,rfl⟩;obtain ⟨K6,S⟩:∃K,a+6=K:=⟨_,rfl⟩;have k1:(a:Int)+1=(U:Int):=om
 have k3:(a:Int)+3=(K3:Int):=om
 have k4:(a:Int)+4=(K4:Int):=om
 have k6:(a:Int)+6=(K6:Int):=om
 have hf:(a:Int)<=16777216:=om
 cases h0:sepP s.data.toList a 90 122 with
 |true=>
  rw[h0] at R;have D:offP s.data.toList a=if s.size=a+1 then some 0 else none:=by unfold offP;rw[h0,Zb];rfl
  by_cases hl:s.size=a+1
  ·rw[ZqN hl] at D;rw[D];have q1:(s.size:Int)=(U:Int):=om;clear D h0;go_enter func124,ntmps124
   go_wp2_with (first|(go_at_call 121;have A:=R.out w;refine ZqD A ?_;clear A;rintro e w1 ⟨rfl,rfl⟩))
   go_ret2
   exact ⟨by simp,rfl⟩
  ·rw[ZqH hl] at D;rw[D];have q1:¬(s.size:Int)=(U:Int):=om;clear D h0;go_enter func124,ntmps124
   go_wp2_with (first|(go_at_call 121;have A:=R.out w;refine ZqD A ?_;clear A;rintro e w1 ⟨rfl,rfl⟩))
   go_ret2
   exact ⟨by simp_all,rfl⟩
 |false=>
  rw[h0] at R;have H1:=gd (λw'=>Xa s a 43 45 w' hs om om om);have H3:=gd (λw'=>Xa s K3 58 58 w' hs om om om);have F:=gd (λw'=>ZV s U 2 w' hs om om om);have H:=gd (λw'=>ZV s K4 2 w' hs om om om);by_cases C:sepP s.data.toList a 43 45=false\/oi (numP s.data.toList (a+1) 2)<0\/23<oi (numP s.data.toList (a+1) 2)\/sepP s.data.toList (a+3) 58 58=false\/oi (numP s.data.toList (a+4) 2)<0\/59<oi (numP s.data.toList (a+4) 2)\/s.data.toList.length≠a+6
  ·rw[Zhc h0 C];rw[I,J,O,S,Zb] at C;generalize oi (numP s.data.toList U 2)=X at*;generalize oi (numP s.data.toList K4 2)=Y at*;generalize sepP s.data.toList a 43 45=p1 at*;generalize sepP s.data.toList K3 58 58=p3 at*;have hc:p1=false\/(p1=true/\X<0)\/(∃x:Nat,X=x/\p1=true/\23<(x:Int))\/(∃x:Nat,X=x/\p1=true/\¬23<(x:Int)/\p3=false)\/(∃x:Nat,X=x/\p1=true/\¬23<(x:Int)/\p3=true/\Y<0)\/(∃x y:Nat,X=x/\Y=y/\p1=true/\¬23<(x:Int)/\p3=true/\59<(y:Int))\/(∃x y:Nat,X=x/\Y=y/\p1=true/\¬23<(x:Int)/\p3=true/\¬59<(y:Int)/\((s.size:Int) !=(K6:Int))=true):=by
    cases p1 with
    |false=>exact Or.inl rfl
    |true=>
     refine Or.inr ?_;rcases (by omega:X<0\/0<=X) with h1|h1
     ·exact Or.inl ⟨rfl,h1⟩
     ·obtain ⟨x,rfl⟩:=Int.eq_ofNat_of_zero_le h1;refine Or.inr ?_;by_cases Z:23<(x:Int)
      ·exact Or.inl ⟨x,rfl,rfl,Z⟩
      ·cases p3 with
       |false=>exact Or.inr (Or.inl ⟨x,rfl,rfl,Z,rfl⟩)
       |true=>
        refine Or.inr (Or.inr ?_);rcases (by omega:Y<0\/0<=Y) with h3|h3
        ·exact Or.inl ⟨x,rfl,rfl,Z,rfl,h3⟩
        ·obtain ⟨y,rfl⟩:=Int.eq_ofNat_of_zero_le h3;by_cases h4:59<(y:Int)
         ·exact Or.inr (Or.inl ⟨x,y,rfl,rfl,rfl,Z,rfl,h4⟩)
         ·refine Or.inr (Or.inr ⟨x,y,rfl,rfl,rfl,Z,rfl,h4,?_⟩);simp at C|-;omega
   clear C h0 I J O S;go_enter func124,ntmps124;rcases hc with rfl|⟨rfl,c1⟩|⟨x,rfl,rfl,c2⟩|⟨x,rfl,rfl,c2,rfl⟩|⟨x,rfl,rfl,c2,rfl,c3⟩|⟨x,y,rfl,rfl,rfl,c2,rfl,c4⟩|⟨x,y,rfl,rfl,rfl,c2,rfl,c4,c5⟩
   all_goals go_wp2_with (first|(go_at_call 121;have A:=R.out w;(with_reducible refine ZqD A ?_);clear A;rintro e w1 ⟨rfl,rfl⟩)|(go_at_call 121;have A:=H1.out w3;(with_reducible refine ZqD A ?_);clear A;rintro e w4 ⟨rfl,rfl⟩)|(go_at_call 121;have A:=H3.out w4;(with_reducible refine ZqD A ?_);clear A;rintro e w5 ⟨rfl,rfl⟩)|(go_at_call 123;have A:=F.out w1;(with_reducible refine ZqD A ?_);clear A;rintro e w2 ⟨rfl,rfl⟩)|(go_at_call 123;have A:=H.out w2;(with_reducible refine ZqD A ?_);clear A;rintro e w3 ⟨rfl,rfl⟩))
   all_goals go_ret2
   all_goals exact ⟨rfl,rfl⟩
  ·obtain ⟨x,hx⟩:∃x,numP s.data.toList (a+1) 2=some x:=by
    cases h:numP s.data.toList (a+1) 2 with
    |none=>exact absurd (Or.inr (Or.inl (by rw[h];decide))) C
    |some x=>exact ⟨x,rfl⟩
   obtain ⟨y,hy⟩:∃y,numP s.data.toList (a+4) 2=some y:=by
    cases h:numP s.data.toList (a+4) 2 with
    |none=>exact absurd (Or.inr (Or.inr (Or.inr (Or.inr (Or.inl (by rw[h];decide)))))) C
    |some x=>exact ⟨x,rfl⟩
   rw[hx,hy] at C;simp only[oi,not_or] at C;obtain ⟨V,g2,g3,g4,g5,g6,g7⟩:=C;have V:sepP s.data.toList a 43 45=true:=(by simpa using V);have g4:sepP s.data.toList (a+3) 58 58=true:=(by simpa using g4);have g7:s.data.toList.length=a+6:=om;have Q:a<s.data.toList.length:=om;have D:=ZbC s.data.toList a h0;have hb:=Gb 45 45 Q;have hd:s.data.toList[a]=s[a]'(by rw[Zb] at Q;exact Q):=rfl;rw[hx,hy] at D;simp only[V,g4] at D;rw[ZqN ⟨rfl,om,om,g7⟩,hb,hd] at D;rw[D];rw[I] at hx;rw[O] at hy;rw[J] at g4;rw[hx] at F;rw[hy] at H;rw[V] at H1;rw[g4] at H3;simp only[oi] at F H;rw[Zb] at g7 Q;have q6:(s.size:Int)=(K6:Int):=om;have c1:¬(x:Int)<0:=om;have c2:¬23<(x:Int):=om;have c3:¬(y:Int)<0:=om;have c4:¬59<(y:Int):=om;have b2:(0:Int)<=(a:Int):=om;have b3:(a:Int)<(s.size:Int):=om;obtain ⟨c,hc⟩:∃c,s[a].toNat=c:=⟨_,rfl⟩;rw[hc];have hg:(s[a].toNat:Int)=(c:Int):=(by rw[hc]);clear D hb hd hx hy V g2 g3 g4 g5 g6 h0 I J O S;by_cases h5:c=45
   ·have e:(decide (c=45)||decide (c=45))=true:=(by simp[h5]);rw[e];subst h5;clear e;go_enter func124,ntmps124
    go_wp2_with (first|(go_at_call 121;have A:=R.out w;(with_reducible refine ZqD A ?_);clear A;rintro e w1 ⟨rfl,rfl⟩)|(go_at_call 121;have A:=H1.out w3;(with_reducible refine ZqD A ?_);clear A;rintro e w4 ⟨rfl,rfl⟩)|(go_at_call 121;have A:=H3.out w4;(with_reducible refine ZqD A ?_);clear A;rintro e w5 ⟨rfl,rfl⟩)|(go_at_call 123;have A:=F.out w1;(with_reducible refine ZqD A ?_);clear A;rintro e w2 ⟨rfl,rfl⟩)|(go_at_call 123;have A:=H.out w2;(with_reducible refine ZqD A ?_);clear A;rintro e w3 ⟨rfl,rfl⟩))
    go_ret2
    exact ⟨by refine ZqS (λt=>Ending.returned (.tuple #[.int .i64 t,.bool true])) ?_;show -((x:Int)*3600+(y:Int)*60)=_;first|rfl|omega,rfl⟩
   ·have e:(decide (c=45)||decide (c=45))=false:=(by simp[h5]);have he:¬(c:Int)=45:=om;rw[e];clear e;go_enter func124,ntmps124
    go_wp2_with (first|(go_at_call 121;have A:=R.out w;(with_reducible refine ZqD A ?_);clear A;rintro e w1 ⟨rfl,rfl⟩)|(go_at_call 121;have A:=H1.out w3;(with_reducible refine ZqD A ?_);clear A;rintro e w4 ⟨rfl,rfl⟩)|(go_at_call 121;have A:=H3.out w4;(with_reducible refine ZqD A ?_);clear A;rintro e w5 ⟨rfl,rfl⟩)|(go_at_call 123;have A:=F.out w1;(with_reducible refine ZqD A ?_);clear A;rintro e w2 ⟨rfl,rfl⟩)|(go_at_call 123;have A:=H.out w2;(with_reducible refine ZqD A ?_);clear A;rintro e w3 ⟨rfl,rfl⟩))
    go_ret2
    exact ⟨by refine ZqS (λt=>Ending.returned (.tuple #[.int .i64 t,.bool true])) ?_;show (x:Int)*3600+(y:Int)*60=_;first|rfl|omega,rfl⟩
end
section
set_option linter.unusedSimpArgs false
theorem Zhu (s:ByteArray) (w:World) (J:s.size<=16777216):
 Calls prog 73 #[.string s] w λe w'=>TimeR s.data.toList e/\w'=w:=by
 have I0:=gd (λw'=>Xa s 4 45 45 w' J om om om);have I1:=gd (λw'=>Xa s 7 45 45 w' J om om om);have I2:=gd (λw'=>Xa s 10 84 116 w' J om om om);have I3:=gd (λw'=>Xa s 13 58 58 w' J om om om);have I4:=gd (λw'=>Xa s 16 58 58 w' J om om om);cases hsep:sepsP s.data.toList with
 |false=>
  have I:timeP s.data.toList=none:=Ul (by rw[Zas,hsep];rfl);have H:Hid (∀e,TimeR s.data.toList e=∃x:Int,x≠0/\e= .returned (.tuple #[.int .i64 0,.int .i64 x])):=gd (λe=>by unfold TimeR;rw[I]);unfold sepsP at hsep;generalize sepP s.data.toList 4 45 45=p0 at*;generalize sepP s.data.toList 7 45 45=p1 at*;generalize sepP s.data.toList 10 84 116=p2 at*;generalize sepP s.data.toList 13 58 58=p3 at*;generalize sepP s.data.toList 16 58 58=p4 at*;have hc:p0=false\/(p0=true/\p1=false)\/(p0=true/\p1=true/\p2=false)\/(p0=true/\p1=true/\p2=true/\p3=false)\/(p0=true/\p1=true/\p2=true/\p3=true/\p4=false):=by revert hsep;cases p0<;>cases p1<;>cases p2<;>cases p3<;>cases p4<;>simp
  clear hsep I;go_enter func73,ntmps73;rcases hc with rfl|⟨rfl,rfl⟩|⟨rfl,rfl,rfl⟩|⟨rfl,rfl,rfl,rfl⟩|⟨rfl,rfl,rfl,rfl,rfl⟩
  all_goals go_wp2_with (first|(go_at_call 121;have A:=I0.out w;(with_reducible refine ZqD A ?_);clear A;rintro e w0 ⟨rfl,rfl⟩)|(go_at_call 121;have A:=I1.out w0;(with_reducible refine ZqD A ?_);clear A;rintro e w1 ⟨rfl,rfl⟩)|(go_at_call 121;have A:=I2.out w1;(with_reducible refine ZqD A ?_);clear A;rintro e w2 ⟨rfl,rfl⟩)|(go_at_call 121;have A:=I3.out w2;(with_reducible refine ZqD A ?_);clear A;rintro e R ⟨rfl,rfl⟩)|(go_at_call 121;have A:=I4.out R;(with_reducible refine ZqD A ?_);clear A;rintro e S ⟨rfl,rfl⟩))
  all_goals go_ret2
  all_goals exact ⟨by rw[H.out];exact ⟨20,by decide,rfl⟩,rfl⟩
 |true=>
  have C:=Zas s.data.toList;rw[hsep,ZqN rfl] at C;unfold sepsP at hsep;simp only[ZqZ] at hsep;obtain ⟨⟨⟨⟨s0,s1⟩,s2⟩,s3⟩,s4⟩:=hsep;rw[s0] at I0;rw[s1] at I1;rw[s2] at I2;rw[s3] at I3;rw[s4] at I4;have N0:=gd (λw'=>ZV s 0 4 w' J om om om);have N1:=gd (λw'=>ZV s 5 2 w' J om om om);have N2:=gd (λw'=>ZV s 8 2 w' J om om om);have N3:=gd (λw'=>ZV s 11 2 w' J om om om);have N4:=gd (λw'=>ZV s 14 2 w' J om om om);have N5:=gd (λw'=>ZV s 17 2 w' J om om om);have I5:=gd (λw'=>Xa s 19 46 46 w' J om om om);generalize oi (numP s.data.toList 0 4)=Y0 at*;generalize oi (numP s.data.toList 5 2)=Y1 at*;generalize oi (numP s.data.toList 8 2)=Y2 at*;generalize oi (numP s.data.toList 11 2)=Y3 at*;generalize oi (numP s.data.toList 14 2)=Y4 at*;generalize oi (numP s.data.toList 17 2)=Y5 at*;have SE:=gd (λw'=>ZcU Y0 Y1 Y2 Y3 Y4 Y5 w');clear s0 s1 s2 s3 s4;cases hsec:secsI Y0 Y1 Y2 Y3 Y4 Y5 with
  |none=>
   rw[hsec] at C SE;have F:=Ul C;have H:Hid (∀e,TimeR s.data.toList e=∃x:Int,x≠0/\e= .returned (.tuple #[.int .i64 0,.int .i64 x])):=gd (λe=>by unfold TimeR;rw[F]);clear F C hsec;go_enter func73,ntmps73
   go_wp2_with (first|(go_at_call 121;have A:=I0.out w;(with_reducible refine ZqD A ?_);clear A;rintro e w0 ⟨rfl,rfl⟩)|(go_at_call 121;have A:=I1.out w0;(with_reducible refine ZqD A ?_);clear A;rintro e w1 ⟨rfl,rfl⟩)|(go_at_call 121;have A:=I2.out w1;(with_reducible refine ZqD A ?_);clear A;rintro e w2 ⟨rfl,rfl⟩)|(go_at_call 121;have A:=I3.out w2;(with_reducible refine ZqD A ?_);clear A;rintro e R ⟨rfl,rfl⟩)|(go_at_call 121;have A:=I4.out R;(with_reducible refine ZqD A ?_);clear A;rintro e S ⟨rfl,rfl⟩)|(go_at_call 123;have A:=N0.out S;(with_reducible refine ZqD A ?_);clear A;rintro e w5 ⟨rfl,rfl⟩)|(go_at_call 123;have A:=N1.out w5;(with_reducible refine ZqD A ?_);clear A;rintro e w6 ⟨rfl,rfl⟩)|(go_at_call 123;have A:=N2.out w6;(with_reducible refine ZqD A ?_);clear A;rintro e w7 ⟨rfl,rfl⟩)|(go_at_call 123;have A:=N3.out w7;(with_reducible refine ZqD A ?_);clear A;rintro e w8 ⟨rfl,rfl⟩)|(go_at_call 123;have A:=N4.out w8;(with_reducible refine ZqD A ?_);clear A;rintro e w9 ⟨rfl,rfl⟩)|(go_at_call 123;have A:=N5.out w9;(with_reducible refine ZqD A ?_);clear A;rintro e wa ⟨rfl,rfl⟩)|(go_at_call 122;have A:=SE.out wa;refine ZqD A ?_;clear A;rintro e wb ⟨rfl,rfl⟩))
   go_ret2
   exact ⟨by rw[H.out];exact ⟨20,by decide,rfl⟩,rfl⟩
  |some t=>
   have V:=ZhA hsec;rw[hsec] at C SE;clear hsec;cases hf:sepP s.data.toList 19 46 46 with
   |false=>
    rw[hf] at I5;have hfr:fracP s.data.toList 19=some 19:=(by unfold fracP;rw[hf];rfl);clear hf;have F:=KM C hfr;have U:=gd (λw'=>GS s 19 w' J om);cases ho:offP s.data.toList 19 with
    |none=>
     rw[ho] at U F;have H:Hid (∀e,TimeR s.data.toList e=∃x:Int,x≠0/\e= .returned (.tuple #[.int .i64 0,.int .i64 x])):=gd (λe=>by unfold TimeR;rw[F]);clear F ho C hfr;go_enter func73,ntmps73
     go_wp2_with (first|(go_at_call 121;have A:=I0.out w;(with_reducible refine ZqD A ?_);clear A;rintro e w0 ⟨rfl,rfl⟩)|(go_at_call 121;have A:=I1.out w0;(with_reducible refine ZqD A ?_);clear A;rintro e w1 ⟨rfl,rfl⟩)|(go_at_call 121;have A:=I2.out w1;(with_reducible refine ZqD A ?_);clear A;rintro e w2 ⟨rfl,rfl⟩)|(go_at_call 121;have A:=I3.out w2;(with_reducible refine ZqD A ?_);clear A;rintro e R ⟨rfl,rfl⟩)|(go_at_call 121;have A:=I4.out R;(with_reducible refine ZqD A ?_);clear A;rintro e S ⟨rfl,rfl⟩)|(go_at_call 123;have A:=N0.out S;(with_reducible refine ZqD A ?_);clear A;rintro e w5 ⟨rfl,rfl⟩)|(go_at_call 123;have A:=N1.out w5;(with_reducible refine ZqD A ?_);clear A;rintro e w6 ⟨rfl,rfl⟩)|(go_at_call 123;have A:=N2.out w6;(with_reducible refine ZqD A ?_);clear A;rintro e w7 ⟨rfl,rfl⟩)|(go_at_call 123;have A:=N3.out w7;(with_reducible refine ZqD A ?_);clear A;rintro e w8 ⟨rfl,rfl⟩)|(go_at_call 123;have A:=N4.out w8;(with_reducible refine ZqD A ?_);clear A;rintro e w9 ⟨rfl,rfl⟩)|(go_at_call 123;have A:=N5.out w9;(with_reducible refine ZqD A ?_);clear A;rintro e wa ⟨rfl,rfl⟩)|(go_at_call 122;have A:=SE.out wa;refine ZqD A ?_;clear A;rintro e wb ⟨rfl,rfl⟩)|(go_at_call 121;have A:=I5.out wb;(with_reducible refine ZqD A ?_);clear A;rintro e wc ⟨rfl,rfl⟩)|(go_at_call 124;have A:=U.out wc;refine ZqD A ?_;clear A;rintro e wd ⟨rfl,rfl⟩))
     go_ret2
     exact ⟨by rw[H.out];exact ⟨20,by decide,rfl⟩,rfl⟩
    |some o=>
     have Y:=Zfl ho;rw[ho] at U F;simp only at F;cases I:inT (t - o) with
     |true=>
      rw[I,ZqN rfl] at F;have H:Hid (∀e,TimeR s.data.toList e=(e= .returned (.tuple #[.int .i64 (t - o),.int .i64 0]))):=gd (λe=>by unfold TimeR;rw[F]);have Z: -62135596800<=t - o/\t - o<=253402300799:=(by simpa [inT] using I);have hw:wrap64 (t - o)=t - o:=Z9 _ ⟨om,om⟩;obtain ⟨X,hX⟩:∃X,t - o=X:=⟨_,rfl⟩;rw[hX] at Z H hw;have q1:¬X< -62135596800:=om;have q2:¬253402300799<X:=om;clear F ho C hfr I Z Y V;go_enter func73,ntmps73
      go_wp2_with (first|(go_at_call 121;have A:=I0.out w;(with_reducible refine ZqD A ?_);clear A;rintro e w0 ⟨rfl,rfl⟩)|(go_at_call 121;have A:=I1.out w0;(with_reducible refine ZqD A ?_);clear A;rintro e w1 ⟨rfl,rfl⟩)|(go_at_call 121;have A:=I2.out w1;(with_reducible refine ZqD A ?_);clear A;rintro e w2 ⟨rfl,rfl⟩)|(go_at_call 121;have A:=I3.out w2;(with_reducible refine ZqD A ?_);clear A;rintro e R ⟨rfl,rfl⟩)|(go_at_call 121;have A:=I4.out R;(with_reducible refine ZqD A ?_);clear A;rintro e S ⟨rfl,rfl⟩)|(go_at_call 123;have A:=N0.out S;(with_reducible refine ZqD A ?_);clear A;rintro e w5 ⟨rfl,rfl⟩)|(go_at_call 123;have A:=N1.out w5;(with_reducible refine ZqD A ?_);clear A;rintro e w6 ⟨rfl,rfl⟩)|(go_at_call 123;have A:=N2.out w6;(with_reducible refine ZqD A ?_);clear A;rintro e w7 ⟨rfl,rfl⟩)|(go_at_call 123;have A:=N3.out w7;(with_reducible refine ZqD A ?_);clear A;rintro e w8 ⟨rfl,rfl⟩)|(go_at_call 123;have A:=N4.out w8;(with_reducible refine ZqD A ?_);clear A;rintro e w9 ⟨rfl,rfl⟩)|(go_at_call 123;have A:=N5.out w9;(with_reducible refine ZqD A ?_);clear A;rintro e wa ⟨rfl,rfl⟩)|(go_at_call 122;have A:=SE.out wa;refine ZqD A ?_;clear A;rintro e wb ⟨rfl,rfl⟩)|(go_at_call 121;have A:=I5.out wb;(with_reducible refine ZqD A ?_);clear A;rintro e wc ⟨rfl,rfl⟩)|(go_at_call 124;have A:=U.out wc;refine ZqD A ?_;clear A;rintro e wd ⟨rfl,rfl⟩))
      go_ret2
      exact ⟨by rw[H.out];rfl,rfl⟩
     |false=>
      rw[I,ZqH (by decide)] at F;have H:Hid (∀e,TimeR s.data.toList e=∃x:Int,x≠0/\e= .returned (.tuple #[.int .i64 0,.int .i64 x])):=gd (λe=>by unfold TimeR;rw[F]);have Z:t - o< -62135596800\/(¬t - o< -62135596800/\253402300799<t - o):=(by have:¬(-62135596800<=t - o/\t - o<=253402300799):=λh=>(by rw[show inT (t - o)=true by simpa [inT] using h] at I;cases I);omega);have hw:wrap64 (t - o)=t - o:=Z9 _ ⟨om,om⟩;obtain ⟨X,hX⟩:∃X,t - o=X:=⟨_,rfl⟩;rw[hX] at Z hw;clear F ho C hfr I Y V;go_enter func73,ntmps73;rcases Z with q1|⟨q1,q2⟩
      all_goals go_wp2_with (first|(go_at_call 121;have A:=I0.out w;(with_reducible refine ZqD A ?_);clear A;rintro e w0 ⟨rfl,rfl⟩)|(go_at_call 121;have A:=I1.out w0;(with_reducible refine ZqD A ?_);clear A;rintro e w1 ⟨rfl,rfl⟩)|(go_at_call 121;have A:=I2.out w1;(with_reducible refine ZqD A ?_);clear A;rintro e w2 ⟨rfl,rfl⟩)|(go_at_call 121;have A:=I3.out w2;(with_reducible refine ZqD A ?_);clear A;rintro e R ⟨rfl,rfl⟩)|(go_at_call 121;have A:=I4.out R;(with_reducible refine ZqD A ?_);clear A;rintro e S ⟨rfl,rfl⟩)|(go_at_call 123;have A:=N0.out S;(with_reducible refine ZqD A ?_);clear A;rintro e w5 ⟨rfl,rfl⟩)|(go_at_call 123;have A:=N1.out w5;(with_reducible refine ZqD A ?_);clear A;rintro e w6 ⟨rfl,rfl⟩)|(go_at_call 123;have A:=N2.out w6;(with_reducible refine ZqD A ?_);clear A;rintro e w7 ⟨rfl,rfl⟩)|(go_at_call 123;have A:=N3.out w7;(with_reducible refine ZqD A ?_);clear A;rintro e w8 ⟨rfl,rfl⟩)|(go_at_call 123;have A:=N4.out w8;(with_reducible refine ZqD A ?_);clear A;rintro e w9 ⟨rfl,rfl⟩)|(go_at_call 123;have A:=N5.out w9;(with_reducible refine ZqD A ?_);clear A;rintro e wa ⟨rfl,rfl⟩)|(go_at_call 122;have A:=SE.out wa;refine ZqD A ?_;clear A;rintro e wb ⟨rfl,rfl⟩)|(go_at_call 121;have A:=I5.out wb;(with_reducible refine ZqD A ?_);clear A;rintro e wc ⟨rfl,rfl⟩)|(go_at_call 124;have A:=U.out wc;refine ZqD A ?_;clear A;rintro e wd ⟨rfl,rfl⟩))
      all_goals go_ret2
      all_goals exact ⟨by rw[H.out];exact ⟨3,by decide,rfl⟩,rfl⟩
   |true=>
    rw[hf] at I5;have Q:fracP s.data.toList 19=if digsP s.data.toList s.data.toList.length 20=0 then none else some (20+digsP s.data.toList s.data.toList.length 20):=(by unfold fracP;rw[hf];rfl)
    have O:=gd (λw'=>ZV s 20 1 w' J om om om);rw[Zhb] at O;cases hd:digP s.data.toList 20 with
    |none=>
     rw[hd] at O;have F:=Zbd (Q.trans (by rw[JJ (by rw[hd];rfl)];rfl));have H:Hid (∀e,TimeR s.data.toList e=∃x:Int,x≠0/\e= .returned (.tuple #[.int .i64 0,.int .i64 x])):=gd (λe=>by unfold TimeR;rw[F]);clear F C Q hf hd V;simp only[oi] at O;go_enter func73,ntmps73
     go_wp2_with (first|(go_at_call 121;have A:=I0.out w;(with_reducible refine ZqD A ?_);clear A;rintro e w0 ⟨rfl,rfl⟩)|(go_at_call 121;have A:=I1.out w0;(with_reducible refine ZqD A ?_);clear A;rintro e w1 ⟨rfl,rfl⟩)|(go_at_call 121;have A:=I2.out w1;(with_reducible refine ZqD A ?_);clear A;rintro e w2 ⟨rfl,rfl⟩)|(go_at_call 121;have A:=I3.out w2;(with_reducible refine ZqD A ?_);clear A;rintro e R ⟨rfl,rfl⟩)|(go_at_call 121;have A:=I4.out R;(with_reducible refine ZqD A ?_);clear A;rintro e S ⟨rfl,rfl⟩)|(go_at_call 123;have A:=N0.out S;(with_reducible refine ZqD A ?_);clear A;rintro e w5 ⟨rfl,rfl⟩)|(go_at_call 123;have A:=N1.out w5;(with_reducible refine ZqD A ?_);clear A;rintro e w6 ⟨rfl,rfl⟩)|(go_at_call 123;have A:=N2.out w6;(with_reducible refine ZqD A ?_);clear A;rintro e w7 ⟨rfl,rfl⟩)|(go_at_call 123;have A:=N3.out w7;(with_reducible refine ZqD A ?_);clear A;rintro e w8 ⟨rfl,rfl⟩)|(go_at_call 123;have A:=N4.out w8;(with_reducible refine ZqD A ?_);clear A;rintro e w9 ⟨rfl,rfl⟩)|(go_at_call 123;have A:=N5.out w9;(with_reducible refine ZqD A ?_);clear A;rintro e wa ⟨rfl,rfl⟩)|(go_at_call 122;have A:=SE.out wa;refine ZqD A ?_;clear A;rintro e wb ⟨rfl,rfl⟩)|(go_at_call 121;have A:=I5.out wb;(with_reducible refine ZqD A ?_);clear A;rintro e wc ⟨rfl,rfl⟩)|(go_at_call 123;have A:=O.out wc;(with_reducible refine ZqD A ?_);clear A;rintro e we ⟨rfl,rfl⟩))
     go_ret2
     exact ⟨by rw[H.out];exact ⟨20,by decide,rfl⟩,rfl⟩
    |some d=>
     rw[hd] at O;simp only[oi] at O;have hh:=ZjT hd;have hg:20<s.data.toList.length:=by
      rcases ZrJ 20 s.data.toList.length with h|h
      ·exact h
      ·rw[JI h] at hd;cases hd
     obtain ⟨D,hD⟩:∃D,20+digsP s.data.toList s.data.toList.length 20=D:=⟨_,rfl⟩;have hfr:fracP s.data.toList 19=some D:=(by rw[Q,ZqH,hD];obtain ⟨k,hk⟩:∃k,s.data.toList.length=k+1:=⟨s.data.toList.length - 1,om⟩;rw[hk,Km (by rw[hd];rfl)];omega);have hb:=gd hD;have hj:D<=s.size:=(by have:=ID (l:=s.data.toList) s.data.toList.length 20 om;rw[Zb] at this hD;omega);have q0:¬(d:Int)<0:=om;rw[Zb] at hg;clear hD Q hf hd hh;go_enter func73,ntmps73
     go_wp2_with (first|(go_at_call 121;have A:=I0.out w;(with_reducible refine ZqD A ?_);clear A;rintro e w0 ⟨rfl,rfl⟩)|(go_at_call 121;have A:=I1.out w0;(with_reducible refine ZqD A ?_);clear A;rintro e w1 ⟨rfl,rfl⟩)|(go_at_call 121;have A:=I2.out w1;(with_reducible refine ZqD A ?_);clear A;rintro e w2 ⟨rfl,rfl⟩)|(go_at_call 121;have A:=I3.out w2;(with_reducible refine ZqD A ?_);clear A;rintro e R ⟨rfl,rfl⟩)|(go_at_call 121;have A:=I4.out R;(with_reducible refine ZqD A ?_);clear A;rintro e S ⟨rfl,rfl⟩)|(go_at_call 123;have A:=N0.out S;(with_reducible refine ZqD A ?_);clear A;rintro e w5 ⟨rfl,rfl⟩)|(go_at_call 123;have A:=N1.out w5;(with_reducible refine ZqD A ?_);clear A;rintro e w6 ⟨rfl,rfl⟩)|(go_at_call 123;have A:=N2.out w6;(with_reducible refine ZqD A ?_);clear A;rintro e w7 ⟨rfl,rfl⟩)|(go_at_call 123;have A:=N3.out w7;(with_reducible refine ZqD A ?_);clear A;rintro e w8 ⟨rfl,rfl⟩)|(go_at_call 123;have A:=N4.out w8;(with_reducible refine ZqD A ?_);clear A;rintro e w9 ⟨rfl,rfl⟩)|(go_at_call 123;have A:=N5.out w9;(with_reducible refine ZqD A ?_);clear A;rintro e wa ⟨rfl,rfl⟩)|(go_at_call 122;have A:=SE.out wa;refine ZqD A ?_;clear A;rintro e wb ⟨rfl,rfl⟩)|(go_at_call 121;have A:=I5.out wb;(with_reducible refine ZqD A ?_);clear A;rintro e wc ⟨rfl,rfl⟩)|(go_at_call 123;have A:=O.out wc;(with_reducible refine ZqD A ?_);clear A;rintro e we ⟨rfl,rfl⟩))
     obtain ⟨wP,hi⟩:∃wP:World,wP=we:=⟨_,rfl⟩;subst hi;go_loopw [6] (λv wr=>∃a:Nat,20<=a/\a<=s.size/\v= .int .i64 (a:Nat)/\Hid (a+digsP s.data.toList s.data.toList.length a=D)/\wr=wP) (λv _=>s.size - (intOf v).toNat)
     case atStart=>exact ⟨20,om,om,rfl,hb,rfl⟩
     case round=>
      obtain ⟨a,hl,hm,rfl,ha,rfl⟩:=hrel;have NA:=gd (λw'=>ZV s a 1 w' J om om om);rw[Zhb] at NA;cases hdg:digP s.data.toList a with
      |some d2=>
       rw[hdg] at NA;simp only[oi] at NA;have hn:a<s.size:=by
        rcases ZrJ a s.data.toList.length with h|h
        ·rwa [Zb] at h
        ·rw[JI h] at hdg;cases hdg
       have he:Hid (a+1+digsP s.data.toList s.data.toList.length (a+1)=D):=(by show _=_;rw[<-ha.out];obtain ⟨k,hk⟩:∃k,s.data.toList.length=k+1:=⟨s.data.toList.length - 1,by rw[Zb];omega⟩;have h2:=Km (l:=s.data.toList) (k:=k) (i:=a) (by rw[hdg];rfl);have h3:=Vr (l:=s.data.toList) k s.data.toList.length (a+1) om om;rw[hk] at h3|-;omega);have q2:(0:Int)<=(d2:Int):=om;clear hdg ha
       go_wp2_with (first|(go_at_call 123;have A:=NA.out wr;refine ZqD A ?_;clear A;rintro e wf ⟨rfl,rfl⟩))
       go_roundw
       case rel=>exact ⟨a+1,om,om,by go_num,he,trivial⟩
       case measure=>simp[intOf];omega
      |none=>
       rw[hdg] at NA;simp only[oi] at NA;obtain rfl:a=D:=(by have:=ha.out;rw[JJ (by rw[hdg];rfl)] at this;exact this);clear hdg ha hb;have F:=KM C hfr;have U:=gd (λw'=>GS s a w' J om);cases ho:offP s.data.toList a with
       |none=>
        rw[ho] at U F;have H:Hid (∀e,TimeR s.data.toList e=∃x:Int,x≠0/\e= .returned (.tuple #[.int .i64 0,.int .i64 x])):=gd (λe=>by unfold TimeR;rw[F]);clear F ho C hfr
        go_wp2_with (first|(go_at_call 123;have A:=NA.out wr;refine ZqD A ?_;clear A;rintro e wg ⟨rfl,rfl⟩)|(go_at_call 124;have A:=U.out wg;refine ZqD A ?_;clear A;rintro e wd ⟨rfl,rfl⟩))
        go_ret2
        exact ⟨by rw[H.out];exact ⟨20,by decide,rfl⟩,rfl⟩
       |some o=>
        have Y:=Zfl ho;rw[ho] at U F;simp only at F;cases I:inT (t - o) with
        |true=>
         rw[I,ZqN rfl] at F;have H:Hid (∀e,TimeR s.data.toList e=(e= .returned (.tuple #[.int .i64 (t - o),.int .i64 0]))):=gd (λe=>by unfold TimeR;rw[F]);have Z: -62135596800<=t - o/\t - o<=253402300799:=(by simpa [inT] using I);have hw:wrap64 (t - o)=t - o:=Z9 _ ⟨om,om⟩;obtain ⟨X,hX⟩:∃X,t - o=X:=⟨_,rfl⟩;rw[hX] at Z H hw;have q1:¬X< -62135596800:=om;have q2:¬253402300799<X:=om;clear F ho C hfr I Z Y V
         go_wp2_with (first|(go_at_call 123;have A:=NA.out wr;refine ZqD A ?_;clear A;rintro e wg ⟨rfl,rfl⟩)|(go_at_call 124;have A:=U.out wg;refine ZqD A ?_;clear A;rintro e wd ⟨rfl,rfl⟩))
         go_ret2
         exact ⟨by rw[H.out];rfl,rfl⟩
        |false=>
         rw[I,ZqH (by decide)] at F;have H:Hid (∀e,TimeR s.data.toList e=∃x:Int,x≠0/\e= .returned (.tuple #[.int .i64 0,.int .i64 x])):=gd (λe=>by unfold TimeR;rw[F]);have Z:t - o< -62135596800\/(¬t - o< -62135596800/\253402300799<t - o):=(by have:¬(-62135596800<=t - o/\t - o<=253402300799):=λh=>(by rw[show inT (t - o)=true by simpa [inT] using h] at I;cases I);omega);have hw:wrap64 (t - o)=t - o:=Z9 _ ⟨om,om⟩;obtain ⟨X,hX⟩:∃X,t - o=X:=⟨_,rfl⟩;rw[hX] at Z hw;clear F ho C hfr I Y V;rcases Z with q1|⟨q1,q2⟩
         all_goals go_wp2_with (first|(go_at_call 123;have A:=NA.out wr;refine ZqD A ?_;clear A;rintro e wg ⟨rfl,rfl⟩)|(go_at_call 124;have A:=U.out wg;refine ZqD A ?_;clear A;rintro e wd ⟨rfl,rfl⟩))
         all_goals go_ret2
         all_goals exact ⟨by rw[H.out];exact ⟨3,by decide,rfl⟩,rfl⟩
end
section
set_option linter.unusedSimpArgs false
def fdRA (r:Except PErr Fd):Fd:=match r with| .error _=>⟨[],⟨#[]⟩,⟨#[]⟩,⟨#[]⟩,0,[]⟩| .ok f=>normF f
def atRA (r:Except PErr Fd):Nat:=match r with| .error x=>x.1| .ok _=>0
def erRA (r:Except PErr Fd):Nat:=match r with| .error x=>x.2| .ok f=>errF f
theorem Zf5 {w:World} {r:Except PErr Fd} {e:Ending} (h:DecA w r e):∃A c B d,e= .returned (.tuple #[.agg (cellsC ⟨.slice A (fdRA r).path.length c,.slice B (fdRA r).ents.length d,fdRA r⟩).toArray,.int .i64 (atRA r:Nat),.int .i64 (erRA r:Nat)])/\RdC w ⟨.slice A (fdRA r).path.length c,.slice B (fdRA r).ents.length d,fdRA r⟩:=by
 cases r with
 |error f=>exact ⟨none,0,none,0,h,RSl.nil w 1,RSl.nil w 5⟩
 |ok f=>obtain ⟨y,rfl,F,H, -⟩:=h;obtain ⟨O,I,J⟩:=y;dsimp only at F;subst F;obtain ⟨C,D⟩:=H;dsimp only at C D;obtain ⟨A,c,rfl, -, -⟩:=C.form;obtain ⟨B,d,rfl, -, -⟩:=D.form;exact ⟨A,c,B,d,rfl,C,D⟩
end
section
set_option linter.unusedSimpArgs false
theorem Zl6 (a b:List UInt8):str a++str b=str (a++b):=by
 have h:(str a++str b).data=(str (a++b)).data:=by rw[ByteArray.data_append];apply Array.toList_inj.1;rw[Array.toList_append,Zg,Zg,Zg]
 cases hx:str a++str b;cases hy:str (a++b);rw[hx,hy] at h;simpa using h
theorem Za4 (N:Nat) (hN:N<=4000000):∀(h:Nat) (x:Nc) (w:World),x.nd.ht<=h->x.nd.fd N->RdN w x->x.nd.txt.length<=140737488355328->
 Calls prog 74 #[.agg (cellsN x).toArray] w λe w'=>e= .returned (.string (str x.nd.txt))/\Ext w w':=by
 intro h
 induction h with
 |zero=>intro x w Q;exact absurd (ZjZ x.nd) om
 |succ h ih=>
 intro x w Q D hr F;obtain ⟨k,s,n,al,l0,ks,kids,t,a⟩:=x;rw[RdN] at hr;obtain ⟨hg,hb,hk⟩:=hr;have X:=(ZD kids).1 hk;rw[Nc.nd] at Q D F|-;rw[Nd.ht] at Q;rw[Nd.fd] at D;have hi:=D.2.2.2.2.2.2.2.2;have hD:kids.length<=N:=by have:=D.2.2.2.2.2.1;rwa [Y8] at this
 obtain ⟨A,c,hA, -, -⟩:=hg.form;obtain ⟨B0,d,hE, -, -⟩:=RNs.form hb;subst hA;subst hE;obtain ⟨W0,hf⟩:∃W0,w.alloc (.cells #[.int .i64 (k:Nat),.string (str s),.string (str n),.slice A l0.length c,.slice B0 kids.length d,.string (str t),.int .i64 (a:Nat)] 25)=W0:=⟨_,rfl⟩;have hl:Ext w W0:=by rw[<-hf];exact (Ext.refl w).alloc _
 have ha:BxN W0 w.heap.size k s n (.slice A l0.length c) (.slice B0 kids.length d) t a:=by rw[<-hf];exact ZqJ w _
 obtain ⟨b0,b1,b2,b3,b4,b5,b6⟩:=ha.cells;have O:=gd hl;have hq:=gd ha;have hw:=gd (show RNs w (.slice B0 kids.length d) kids from hb);have HY:=gd (λy (hy:y∈kids)=>(⟨X y hy,(Nds.fd_iff _).1 hi y.nd (by rw[Yc];exact Zrv hy),(by
  have:=Zaf (x:=y.nd) (l:=Nc.nds kids) (by rw[Yc];exact Zrv hy);omega)⟩:RdN w y/\y.nd.fd N/\y.nd.ht<=h))
 have hs:=gd ih;have hu:Hid (kids.length<=16777216):=gd om;simp only[cellsN];clear ih hg hb hk X D Q hi hD hl ha;by_cases I:k=1
 ·rw[Nd.txt,ZqN I];have q1:((k:Int)==1)=true:=by rw[I];rfl
  clear I F;go_enter func74,ntmps74;go_wp2;go_ret;exact ⟨rfl,O.out⟩
 ·rw[Nd.txt,ZqH I] at F|-;have q1:((k:Int)==1)=false:=by rw[ZqW];omega
  have V:=gd F;clear I F;go_enter func74,ntmps74;go_wp2;clear b0 b1 b2 b3 b4 b5 b6;go_loopw [3,4] (λu v wr=>∃j:Nat,j<=kids.length/\v= .int .i64 j/\u= .string (str (Nds.txt ((Nc.nds kids).take j)))/\Ext W0 wr) (λ_ v _=>kids.length - (intOf v).toNat)
  case atStart=>exact ⟨0,ZqO _,rfl,rfl,Ext.refl _⟩
  case round=>
   obtain ⟨j,hj,rfl,rfl,J⟩:=hrel;obtain ⟨d0,d1,d2,d3,d4,d5,d6⟩:=(hq.out.ext J).cells;by_cases S:j<kids.length
   ·obtain ⟨ad,c',hv,hh⟩:=(RNs.ext hw.out (O.out.trans J)).at S;injection hv with hv1 hv2 hv3;subst hv1;clear hv2 hv3;have hC:=hu.out;have hI:(0:Int)<=(j:Int):=om;have hJ:(j:Int)<(kids.length:Int):=om;obtain ⟨U,hc,hd⟩:=HY.out kids[j] (Zq2 S);have C:=ZeM S;have R:=Zkk (Nc.nds kids) (j+1);rw[C,ZqG] at R;obtain ⟨y,hp⟩:∃y,kids[j]=y:=⟨_,rfl⟩;rw[hp] at hh U hc hd C R;have ho:y.nd.txt.length<=140737488355328:=(by have:=V.out;omega);have H:=gd (λ(w':World) (hz:Ext w w')=>hs.out y w' hd hc (RdN.ext hz _ U) ho);obtain ⟨TY,Z⟩:∃TY,y.nd.txt=TY:=⟨_,rfl⟩;obtain ⟨TJ,Y⟩:∃TJ,Nds.txt ((Nc.nds kids).take j)=TJ:=⟨_,rfl⟩;rw[Z,Y] at C R;rw[Z] at H;rw[Y];have hK:¬(9223372036854775807<(str TJ).size+(str TY).size):=(by rw[Zo,Zo];have:=V.out;omega);have hx:=gd C;have hG:=RdN.sl U;obtain ⟨yk,ys,yn,hL,yl,hM,hH,yt,ya⟩:=y;obtain ⟨⟨YA,ym,yc,hm⟩,⟨YB,hO,yd,hn⟩⟩:=hG;simp only[Nc.al,Nc.ks] at hm hn;subst hm;subst hn;simp only[cellsN] at H;obtain ⟨a0,a1,a2,a3,a4,a5,a6⟩:=hh;simp only[Nc.kind,Nc.space,Nc.name,Nc.al,Nc.ks,Nc.text,Nc.at_] at a0 a1 a2 a3 a4 a5 a6;have he:=gd J;clear U hc hd C R hp ho Z Y J
    go_wp2_with (first|(go_at_call 74;refine ZqD (H.out _ (O.out.trans he.out)) ?_;rintro e w3 ⟨rfl,hF⟩))
    go_roundw
    case rel=>exact ⟨j+1,S,by go_num,(by rw[hx.out,Zl6]),he.out.trans hF⟩
    case measure=>simp[intOf];omega
   ·have hB:j=kids.length:=om;subst hB;rw[Zq4 (by rw[Y8];exact ZqE _)];go_wp2;go_ret;exact ⟨rfl,O.out.trans J⟩
end
section
set_option linter.unusedSimpArgs false
theorem Zs4 {w:World} {g:Nat} {T:TypeId} {fr:Nat×Nat} {v0 v1 v2 v3 v4:Value} (h:w.heap[g]? =some (.cells #[v0,v1,v2,v3,v4] T fr)):w.cell? ⟨g,0,none⟩=some v0/\w.cell? ⟨g,1,none⟩=some v1/\w.cell? ⟨g,2,none⟩=some v2/\w.cell? ⟨g,3,none⟩=some v3/\w.cell? ⟨g,4,none⟩=some v4:=⟨ZqI _ _ 0 _ _ _ h,ZqI _ _ 1 _ _ _ h,ZqI _ _ 2 _ _ _ h,ZqI _ _ 3 _ _ _ h,ZqI _ _ 4 _ _ _ h⟩
theorem Zs5 {w:World} {g:Nat} {T:TypeId} {fr:Nat×Nat} {v0 v1 v2 v3 v4 v5:Value} (h:w.heap[g]? =some (.cells #[v0,v1,v2,v3,v4,v5] T fr)):w.cell? ⟨g,0,none⟩=some v0/\w.cell? ⟨g,1,none⟩=some v1/\w.cell? ⟨g,2,none⟩=some v2/\w.cell? ⟨g,3,none⟩=some v3/\w.cell? ⟨g,4,none⟩=some v4/\w.cell? ⟨g,5,none⟩=some v5:=⟨ZqI _ _ 0 _ _ _ h,ZqI _ _ 1 _ _ _ h,ZqI _ _ 2 _ _ _ h,ZqI _ _ 3 _ _ _ h,ZqI _ _ 4 _ _ _ h,ZqI _ _ 5 _ _ _ h⟩
theorem Zs3 {w:World} {g:Nat} {T:TypeId} {fr:Nat×Nat} {v0 v1 v2 v3 v4 v5 A:Value} (h:w.heap[g]? =some (.cells #[v0,v1,v2,v3,v4,v5,A] T fr)):w.cell? ⟨g,0,none⟩=some v0/\w.cell? ⟨g,1,none⟩=some v1/\w.cell? ⟨g,2,none⟩=some v2/\w.cell? ⟨g,3,none⟩=some v3/\w.cell? ⟨g,4,none⟩=some v4/\w.cell? ⟨g,5,none⟩=some v5/\w.cell? ⟨g,6,none⟩=some A:=⟨ZqI _ _ 0 _ _ _ h,ZqI _ _ 1 _ _ _ h,ZqI _ _ 2 _ _ _ h,ZqI _ _ 3 _ _ _ h,ZqI _ _ 4 _ _ _ h,ZqI _ _ 5 _ _ _ h,ZqI _ _ 6 _ _ _ h⟩
theorem I7 {N M:Nat} (F:N<=4000000) (x:Nc) (sp nm:List UInt8) (w:World) (h:NcOk w N M x):
 Calls prog 32 #[.agg (cellsN x).toArray,.string (str sp),.string (str nm)] w λe w'=>∃A c,e= .returned (.slice A (x.kids.filter (isKid sp nm)).length c)/\RNs w' (.slice A (x.kids.filter (isKid sp nm)).length c) (x.kids.filter (isKid sp nm))/\Ext w w':=by
 have H:=h.kids_len;refine ZqD (VP x sp nm w h.rd om) ?_;rintro e w' ⟨v,rfl,C,D⟩;obtain ⟨A,c,rfl, -, -⟩:=RNs.form C;exact ⟨A,c,rfl,C,D⟩
def FirstR (N M:Nat) (w':World) (l:List Nd) (e:Ending):Prop:=match l with
 | []=>e= .returned (.tuple #[.agg #[.int .i64 0,.string ⟨#[]⟩,.string ⟨#[]⟩,.slice none 0 0,.slice none 0 0,.string ⟨#[]⟩,.int .i64 0],.bool false])
 |k::_=>∃y:Nc,e= .returned (.tuple #[.agg (cellsN y).toArray,.bool true])/\y.nd=k/\NcOk w' N M y
theorem ZkU {N M:Nat} (hN:N<=4000000) (x:Nc) (sp nm:List UInt8) (w:World) (h:NcOk w N M x):
 Calls prog 75 #[.agg (cellsN x).toArray,.string (str sp),.string (str nm)] w λe w'=>FirstR N M w' (kidsE sp nm x.nd) e/\Ext w w':=by
 have C:=λ(w':World) (hx:Ext w w')=>I7 hN x sp nm w' (h.ext hx);have Q:Hid (∀y∈x.kids.filter (isKid sp nm),NcOk w N M y):=gd λy hy=>h.kid (ZrK.1 hy).1;rw[<-Qm];obtain ⟨A,n,c,B,m,d,Y, -, -⟩:=ZR x (RdN.sl h.rd);rw[Y] at C|-;obtain ⟨L,hL⟩:∃L,x.kids.filter (isKid sp nm)=L:=⟨_,rfl⟩;simp only[hL] at C Q|-;have O:=gd C;obtain ⟨W0,R⟩:∃W0,(w.alloc (.cells #[.int .i64 (x.kind:Nat),.string (str x.space),.string (str x.name),.slice A n c,.slice B m d,.string (str x.text),.int .i64 (x.at_:Nat)] 25)).alloc (.cells #[.int .i64 0,.string ⟨#[]⟩,.string ⟨#[]⟩,.slice none 0 0,.slice none 0 0,.string ⟨#[]⟩,.int .i64 0] 25)=W0:=⟨_,rfl⟩;have hb:Ext w W0:=by rw[<-R];exact ((Ext.refl w).alloc _).alloc _
 have Z:W0.heap[w.heap.size+1]? =some (.cells #[.int .i64 0,.string ⟨#[]⟩,.string ⟨#[]⟩,.slice none 0 0,.slice none 0 0,.string ⟨#[]⟩,.int .i64 0] 25 (0,0)):=by rw[<-R];exact ZI w _ _
 have X:W0.heap[w.heap.size]? =some (.cells #[.int .i64 (x.kind:Nat),.string (str x.space),.string (str x.name),.slice A n c,.slice B m d,.string (str x.text),.int .i64 (x.at_:Nat)] 25 (0,0)):=by rw[<-R];exact ((Ext.refl _).alloc _).heap (ZqJ w _)
 obtain ⟨b0,b1,b2,b3,b4,b5,b6⟩:=Zs3 X;have I:=gd hb;have V:=gd Z;clear hb Z X Y C h hL;cases L with
 |nil=>
  go_enter func75,ntmps75
  go_wp2_with (first|(refine ZqF rfl 25 (.tmp 6) (.tmp 16) rfl (w.heap.size+1) #[.int .i64 0,.string ⟨#[]⟩,.string ⟨#[]⟩,.slice none 0 0,.slice none 0 0,.string ⟨#[]⟩,.int .i64 0] rfl rfl _ _ D Ze rfl Zz ?_)|(go_at_call 32;refine ZqD (O.out _ I.out) ?_;rintro e w2 ⟨KA,kc,rfl,F,H⟩;have D:=H.heap V.out))
  ((try simp only[Exit.inBlock,Exit.then]);refine ZqT (Zl rfl _ _ _ _ _ _ _ rfl (ZqV _ _ _ _ _ _ D) underlying25 rfl Ze) rfl ?_);exact ⟨rfl,(I.out.trans H).setRow (ZrF _) _⟩
 |cons y l'=>
  have hy:=Q.out y Zq6;obtain ⟨YA,ym,yc,YB,J,yd,hf,hd,he⟩:=ZR y (RdN.sl hy.rd);have HY:=gd hy;have hg:=gd hf;have hi:0<(y::l').length:=by rw[ZqK];omega
  have U:=gd (λ(w2:World) (KA:Option Addr) (kc:Nat) (F:RNs w2 (.slice KA (y::l').length kc) (y::l'))=>(show ∃ad,KA=some ad/\w2.cell? ad=some (.int .i64 (y.kind:Nat))/\w2.cell? ⟨ad.block,ad.off+1,none⟩=some (.string (str y.space))/\w2.cell? ⟨ad.block,ad.off+2,none⟩=some (.string (str y.name))/\w2.cell? ⟨ad.block,ad.off+3,none⟩=some (.slice YA ym yc)/\w2.cell? ⟨ad.block,ad.off+4,none⟩=some (.slice YB J yd)/\w2.cell? ⟨ad.block,ad.off+5,none⟩=some (.string (str y.text))/\w2.cell? ⟨ad.block,ad.off+6,none⟩=some (.int .i64 (y.at_:Nat)) from by
   obtain ⟨ad,c',ha,hh⟩:=RNs.at F (k:=0) (Nat.zero_lt_succ _);injection ha with hv1 ha hv3;obtain ⟨a0,a1,a2,a3,a4,a5,a6⟩:=hh;simp only[Zsk,Zsl,add_zero] at a0 a1 a2 a3 a4 a5 a6;rw[hd] at a3;rw[he] at a4;exact ⟨ad,hv1,a0,a1,a2,a3,a4,a5,a6⟩))
  obtain ⟨ln,S⟩:∃ln,(y::l').length=ln:=⟨_,rfl⟩;rw[S] at hi;simp only[S] at O U;have hk:(0:Int)<(ln:Int):=om
  have hj:((ln:Int)==0)=false:=by rw[ZqW];omega
  clear hy hd he hf Q S;go_enter func75,ntmps75
  go_wp2_with (first|(refine ZqF rfl 25 (.tmp 6) (.tmp 19) rfl (w.heap.size+1) #[.int .i64 (y.kind:Nat),.string (str y.space),.string (str y.name),.slice YA ym yc,.slice YB J yd,.string (str y.text),.int .i64 (y.at_:Nat)] rfl rfl _ _ D Ze rfl Zz ?_)|(go_at_call 32;refine ZqD (O.out _ I.out) ?_;rintro e w2 ⟨KA,kc,rfl,F,H⟩;have D:=H.heap V.out;obtain ⟨ad,rfl,a0,a1,a2,a3,a4,a5,a6⟩:=U.out _ _ _ F;clear F))
  ((try simp only[Exit.inBlock,Exit.then]);refine ZqT (Zl rfl _ _ _ _ #[.int .i64 (y.kind:Nat),.string (str y.space),.string (str y.name),.slice YA ym yc,.slice YB J yd,.string (str y.text),.int .i64 (y.at_:Nat)] _ _ rfl (ZqV _ _ _ _ _ _ D) underlying25 rfl Ze) rfl ?_);have hc:=(I.out.trans H).setRow (ZrF w.heap.size) #[.int .i64 (y.kind:Nat),.string (str y.space),.string (str y.name),.slice YA ym yc,.slice YB J yd,.string (str y.text),.int .i64 (y.at_:Nat)];exact ⟨⟨y,(by rw[hg.out];rfl),rfl,HY.out.ext hc⟩,hc⟩
theorem GT {N M:Nat} (hN:N<=4000000) (hM:M<=1000000) (x:Nc) (sp nm:List UInt8) (w:World) (h:NcOk w N M x):
 Calls prog 33 #[.agg (cellsN x).toArray,.string (str sp),.string (str nm)] w λe w'=>e= .returned (.string (str ((firstT sp nm x.nd).getD [])))/\Ext w w':=by
 have C:=λ(w':World) (hx:Ext w w')=>ZkU hN x sp nm w' (h.ext hx);obtain ⟨A,n,c,B,m,d,Y, -, -⟩:=ZR x (RdN.sl h.rd);rw[Y] at C|-;unfold firstT;obtain ⟨L,hL⟩:∃L,kidsE sp nm x.nd=L:=⟨_,rfl⟩;simp only[hL] at C|-;obtain ⟨W0,U⟩:∃W0,w.alloc (.cells #[.int .i64 (x.kind:Nat),.string (str x.space),.string (str x.name),.slice A n c,.slice B m d,.string (str x.text),.int .i64 (x.at_:Nat)] 25)=W0:=⟨_,rfl⟩;have Z:Ext w W0:=by rw[<-U];exact (Ext.refl w).alloc _
 have V:W0.heap[w.heap.size]? =some (.cells #[.int .i64 (x.kind:Nat),.string (str x.space),.string (str x.name),.slice A n c,.slice B m d,.string (str x.text),.int .i64 (x.at_:Nat)] 25 (0,0)):=by rw[<-U];exact ZqJ w _
 obtain ⟨b0,b1,b2,b3,b4,b5,b6⟩:=Zs3 V;have D:=gd Z;have HF:=gd C;clear Z V Y C h hL;cases L with
 |nil=>
  go_enter func33,ntmps33
  go_wp2_with (first|(refine ZqF rfl 25 (.tmp 7) (.tmp 14) rfl w2.heap.size #[.int .i64 0,.string ⟨#[]⟩,.string ⟨#[]⟩,.slice none 0 0,.slice none 0 0,.string ⟨#[]⟩,.int .i64 0] rfl rfl _ _ (ZqJ w2 _) Ze rfl Zz ?_;rw[Zh])|(go_at_call 75;(refine ZqD (HF.out _ D.out) ?_);rintro e w2 ⟨hq,F⟩;have hd:e= .returned (.tuple #[.agg #[.int .i64 0,.string ⟨#[]⟩,.string ⟨#[]⟩,.slice none 0 0,.slice none 0 0,.string ⟨#[]⟩,.int .i64 0],.bool false]):=hq;subst hd;clear hq))
  go_ret;exact ⟨rfl,(D.out.trans F).alloc _⟩
 |cons k l'=>
  have ha:=gd (λ(y:Nc) (w':World) (O:NcOk w' N M y)=>Za4 N hN y.nd.ht y w' (ZqE _) O.fd O.rd (O.txt hN hM));go_enter func33,ntmps33
  go_wp2_with (first|(go_at_call 74;refine ZqD hb.out ?_;rintro e w4 ⟨rfl,he⟩)|(refine ZqF rfl 25 (.tmp 7) (.tmp 14) rfl w2.heap.size #[.int .i64 (y.kind:Nat),.string (str y.space),.string (str y.name),.slice YA ym yc,.slice YB R yd,.string (str y.text),.int .i64 (y.at_:Nat)] rfl rfl _ _ (ZqJ w2 _) Ze rfl Zz ?_;rw[Zh];rw[H])|(go_at_call 75;(refine ZqD (HF.out _ D.out) ?_);rintro e w2 ⟨⟨y,rfl,hf,O⟩,F⟩;subst hf;obtain ⟨YA,ym,yc,YB,R,yd,Q, -, -⟩:=ZR y (RdN.sl O.rd);obtain ⟨S,H⟩:∃S,w2.alloc (.cells #[.int .i64 (y.kind:Nat),.string (str y.space),.string (str y.name),.slice YA ym yc,.slice YB R yd,.string (str y.text),.int .i64 (y.at_:Nat)] 25)=S:=⟨_,rfl⟩;(have J:Ext w2 S:=by rw[<-H];exact (Ext.refl w2).alloc _);(have X:S.heap[w2.heap.size]? =some (.cells #[.int .i64 (y.kind:Nat),.string (str y.space),.string (str y.name),.slice YA ym yc,.slice YB R yd,.string (str y.text),.int .i64 (y.at_:Nat)] 25 (0,0)):=by rw[<-H];exact ZqJ w2 _);obtain ⟨c0,c1,c2,c3,c4,c5,c6⟩:=Zs3 X;have I:=ha.out y S (O.ext J);rw[Q] at I;rw[Q];have hb:=gd I;have hc:=gd (F.trans J);clear X J F I O Q))
  go_ret;exact ⟨rfl,(D.out.trans hc.out).trans he⟩
theorem Zht {N M:Nat} (hN:N<=4000000) (x:Nc) (w:World) (h:NcOk w N M x):
 Calls prog 71 #[.agg (cellsN x).toArray] w λe w'=>e= .returned (.string (str (linkN x.nd)))/\Ext w w':=by
 rw[Zj5];obtain ⟨R,hR⟩:∃R,linkF (kidsE atomL linkL x.nd)=R:=⟨_,rfl⟩;rw[hR];have hu:=gd hR;clear hR;have S:=λ(w':World) (Z:Ext w w')=>VE hN x atomL linkL w' (h.ext Z);simp only[Xo,Zc7] at S;obtain ⟨A,n,c,B,m,d,hg, -, -⟩:=ZR x (RdN.sl h.rd);rw[hg] at S|-;have hq:=gd S;have hk:=(Ext.refl w).alloc (.cells #[.int .i64 (x.kind:Nat),.string (str x.space),.string (str x.name),.slice A n c,.slice B m d,.string (str x.text),.int .i64 (x.at_:Nat)] 25);have he:=gd hk;have b0:=(Ext.refl (w.alloc (.cells #[.int .i64 (x.kind:Nat),.string (str x.space),.string (str x.name),.slice A n c,.slice B m d,.string (str x.text),.int .i64 (x.at_:Nat)] 25))).boxed 0 _ rfl;have b1:=(Ext.refl (w.alloc (.cells #[.int .i64 (x.kind:Nat),.string (str x.space),.string (str x.name),.slice A n c,.slice B m d,.string (str x.text),.int .i64 (x.at_:Nat)] 25))).boxed 1 _ rfl;have b2:=(Ext.refl (w.alloc (.cells #[.int .i64 (x.kind:Nat),.string (str x.space),.string (str x.name),.slice A n c,.slice B m d,.string (str x.text),.int .i64 (x.at_:Nat)] 25))).boxed 2 _ rfl;have b3:=(Ext.refl (w.alloc (.cells #[.int .i64 (x.kind:Nat),.string (str x.space),.string (str x.name),.slice A n c,.slice B m d,.string (str x.text),.int .i64 (x.at_:Nat)] 25))).boxed 3 _ rfl;have b4:=(Ext.refl (w.alloc (.cells #[.int .i64 (x.kind:Nat),.string (str x.space),.string (str x.name),.slice A n c,.slice B m d,.string (str x.text),.int .i64 (x.at_:Nat)] 25))).boxed 4 _ rfl;have b5:=(Ext.refl (w.alloc (.cells #[.int .i64 (x.kind:Nat),.string (str x.space),.string (str x.name),.slice A n c,.slice B m d,.string (str x.text),.int .i64 (x.at_:Nat)] 25))).boxed 5 _ rfl;have b6:=(Ext.refl (w.alloc (.cells #[.int .i64 (x.kind:Nat),.string (str x.space),.string (str x.name),.slice A n c,.slice B m d,.string (str x.text),.int .i64 (x.at_:Nat)] 25))).boxed 6 _ rfl;clear hg h S hk;go_enter func71,ntmps71
 go_wp2_with (first|(go_at_call 32;refine ZqD (hq.out _ he.out) ?_;rintro e w2 ⟨KA,kc,l,rfl,hB,hl⟩))
 obtain ⟨hi,hh,Y,ha⟩:=hB;have hw:=gd hi;have ht:=gd hh;have hC:=gd Y;have hb:=gd (he.out.trans hl);have hs:Hid (l.length<=4000000):=gd (ZqM ha hN);have hR:=hu.out;rw[<-Y] at hR;have HR:Hid (linkF ((l.map Nc.nd).drop 0)=R):=hR;clear hR hi hh Y hl ha b0 b1 b2 b3 b4 b5 b6;go_loopw [4] (λu wr=>∃j:Nat,j<=l.length/\u= .int .i64 j/\Hid (linkF ((l.map Nc.nd).drop j)=R)/\Ext w2 wr) (λu _=>l.length - (intOf u).toNat)
 case atStart=>exact ⟨0,ZqO _,rfl,HR,Ext.refl _⟩
 case round=>
  obtain ⟨j,hj,rfl,hr,Z⟩:=hrel;have hF:=hs.out;by_cases U:j<l.length
  ·obtain ⟨ad,c',hv,hf⟩:=(hw.out.ext Z).at U;injection hv with hv1 hv2 hv3;subst hv1;clear hv2 hv3;have hD:(0:Int)<=(j:Int):=om;have hE:(j:Int)<(l.length:Int):=om;have C:=hr.out;rw[ZcF U] at C;have hy:=(ht.out l[j] (Zq2 U)).ext Z;obtain ⟨y,hp⟩:∃y,l[j]=y:=⟨_,rfl⟩;rw[hp] at hf C hy;have hz:=hy.attrs_len;have hd:=RdN.sl hy.rd;obtain ⟨YA,ym,yc,YB,hG,yd,ho,hm,hn⟩:=ZR y hd;obtain ⟨a0,a1,a2,a3,a4,a5,a6⟩:=hf;rw[hm] at a3;rw[hn] at a4;have V:=λ(nm:List UInt8) (w':World) (O:Ext wr w')=>Zfs y [] nm w' ((hy.ext O).ats) hd.2 om;unfold linkOk at C;rw[In,In] at C;have F:=V hrefL;have H:=V relL;rw[ho] at F H;simp only[ZeI,ZeH,ZhP] at F H;have HC:=gd (λ(w':World) (O:Ext wr w')=>(⟨O.cell a0,O.cell a1,O.cell a2,O.cell a3,O.cell a4,O.cell a5,O.cell a6⟩:_/\_/\_/\_/\_/\_/\_));clear hp hm hn ho hy hz hd V hr;rcases h1:attrN y.attrs [] hrefL with _|hv<;>rcases h2:attrN y.attrs [] relL with _|rv
   ·rw[h1] at F C;rw[h2] at H C;unfold lookAns at F H;dsimp only at F H C;have I:=gd F;have J:=gd H;have HN:Hid (linkF ((l.map Nc.nd).drop (j+1))=R):=gd (by rw[<-C];rfl);clear C F H h1 h2
    go_wp2_with (first|(go_at_call 120;(with_reducible refine ZqD (I.out _ D) ?_);rintro e w5 ⟨rfl,Q⟩)|(go_at_call 120;(with_reducible refine ZqD (J.out _ (Ext.refl _)) ?_);rintro e w4 ⟨rfl,D⟩;obtain ⟨d0,d1,d2,d3,d4,d5,d6⟩:=HC.out _ D;clear a0 a1 a2 a3 a4 a5 a6))
    go_roundw
    case rel=>exact ⟨j+1,U,by go_num,HN,Z.trans (D.trans Q)⟩
    case measure=>simp[intOf];omega
   ·rw[h1] at F C;rw[h2] at H C;unfold lookAns at F H;dsimp only at F H C;have I:=gd F;have J:=gd H;have HN:Hid (linkF ((l.map Nc.nd).drop (j+1))=R):=gd (by rw[<-C];rfl);clear C F H h1 h2
    go_wp2_with (first|(go_at_call 120;(with_reducible refine ZqD (I.out _ D) ?_);rintro e w5 ⟨rfl,Q⟩)|(go_at_call 120;(with_reducible refine ZqD (J.out _ (Ext.refl _)) ?_);rintro e w4 ⟨rfl,D⟩;obtain ⟨d0,d1,d2,d3,d4,d5,d6⟩:=HC.out _ D;clear a0 a1 a2 a3 a4 a5 a6))
    go_roundw
    case rel=>exact ⟨j+1,U,by go_num,HN,Z.trans (D.trans Q)⟩
    case measure=>simp[intOf];omega
   ·rw[h1] at F C;rw[h2] at H C;unfold lookAns at F H;dsimp only at F H C;have I:=gd F;have J:=gd H;have hc:hv=R:=(by rw[<-C];rfl);clear C F H h1 h2;subst hc
    go_wp2_with (first|(go_at_call 120;(with_reducible refine ZqD (I.out _ D) ?_);rintro e w5 ⟨rfl,Q⟩)|(go_at_call 120;(with_reducible refine ZqD (J.out _ (Ext.refl _)) ?_);rintro e w4 ⟨rfl,D⟩;obtain ⟨d0,d1,d2,d3,d4,d5,d6⟩:=HC.out _ D;clear a0 a1 a2 a3 a4 a5 a6))
    go_ret;exact ⟨rfl,hb.out.trans (Z.trans (D.trans Q))⟩
   ·by_cases q2:rv=alternateL
    ·have q1:((str rv).toList==([97,108,116,101,114,110,97,116,101]:List UInt8))=true:=XF q2;rw[h1] at F C;rw[h2] at H C;unfold lookAns at F H;dsimp only at F H C;have I:=gd F;have J:=gd H;have hc:hv=R:=(by rw[<-C];rw[ZqN (by simpa using q2)];rfl);clear C F H h1 h2 q2;subst hc
     go_wp2_with (first|(go_at_call 120;(with_reducible refine ZqD (I.out _ D) ?_);rintro e w5 ⟨rfl,Q⟩)|(go_at_call 120;(with_reducible refine ZqD (J.out _ (Ext.refl _)) ?_);rintro e w4 ⟨rfl,D⟩;obtain ⟨d0,d1,d2,d3,d4,d5,d6⟩:=HC.out _ D;clear a0 a1 a2 a3 a4 a5 a6))
     go_ret;exact ⟨rfl,hb.out.trans (Z.trans (D.trans Q))⟩
    ·have q1:((str rv).toList==([97,108,116,101,114,110,97,116,101]:List UInt8))=false:=Yx q2;rw[h1] at F C;rw[h2] at H C;unfold lookAns at F H;dsimp only at F H C;have I:=gd F;have J:=gd H;have HN:Hid (linkF ((l.map Nc.nd).drop (j+1))=R):=gd (by rw[<-C];rw[ZqH (by simpa using q2)]);clear C F H h1 h2 q2
     go_wp2_with (first|(go_at_call 120;(with_reducible refine ZqD (I.out _ D) ?_);rintro e w5 ⟨rfl,Q⟩)|(go_at_call 120;(with_reducible refine ZqD (J.out _ (Ext.refl _)) ?_);rintro e w4 ⟨rfl,D⟩;obtain ⟨d0,d1,d2,d3,d4,d5,d6⟩:=HC.out _ D;clear a0 a1 a2 a3 a4 a5 a6))
     go_roundw
     case rel=>exact ⟨j+1,U,by go_num,HN,Z.trans (D.trans Q)⟩
     case measure=>simp[intOf];omega
  ·have hA:j=l.length:=om;have X:=hr.out;rw[Zq3 (by rw[Zq9];omega)] at X;unfold linkF at X;subst X;clear hr;subst hA;go_wp2;go_ret;exact ⟨rfl,hb.out.trans Z⟩
end
end Go.Proofs.YtmfinhgobjbecaaGreatDoor
