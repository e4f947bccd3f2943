/- Parts of the proof: contracts and plain laws. -/
import Derived.Test.YthlnaldahkgjnaaGreatDoorZ04
namespace Go.Proofs.YthlnaldahkgjnaaGreatDoor
open Go Go.RowKit _root_.Go.Proofs.Tryz
set_option linter.unusedVariables false
set_option linter.unusedSimpArgs false
set_option maxRecDepth 100000
set_option maxHeartbeats 16000000
section
set_option linter.unusedSimpArgs false
def dimI (y m:Int):Nat:=if 1<=y/\y<=9999/\1<=m/\m<=12 then dimN y.toNat m.toNat else 0
theorem Jg {y m:Nat} (h:1<=y/\y<=9999/\1<=m/\m<=12):dimI y m=dimN y m:=by
 unfold dimI;rw[Zi (by omega)];rfl
theorem QN {y m:Int} (h:¬(1<=y/\y<=9999/\1<=m/\m<=12)):dimI y m=0:=by
 unfold dimI;rw[Zf h]
theorem Zfi (y:Nat) (w:World) (j:1<=y) (A:y<=9999):
 Calls prog 174 #[.int .i64 (y:Nat)] w λe w'=>e= .returned (.bool (leapN y))/\w'=w:=by
 have h:(1:Int)<=(y:Int):=by omega
 have a2:(y:Int)<=9999:=by omega
 go_enter func174,ntmps174;go_wp2
 all_goals go_ret
 all_goals exact ⟨Zo (λb=>Ending.returned (Value.bool b)) (Xf.2 (by rw[VK];simp;omega)),rfl⟩
theorem Zeu {m:Nat} (j:1<=m) (A:m<=12) (h:m≠2) (y:Nat):30+((m:Int)+(m:Int) / 8) % 2=(dimN y m:Nat):=by
 unfold dimN;rw[Zf h];have:∀k:Fin 13,1<=k.1->k.1≠2->30+((k.1:Int)+(k.1:Int) / 8) % 2=((if k.1=4\/k.1=6\/k.1=9\/k.1=11 then 30 else 31:Nat):Int):=by decide
 exact this ⟨m,by omega⟩ j h
theorem Ql (y m:Int) (w:World):
 Calls prog 139 #[.int .i64 y,.int .i64 m] w λe w'=>e= .returned (.int .i64 (dimI y m:Nat))/\w'=w:=by
 by_cases h:1<=y/\y<=9999/\1<=m/\m<=12
 ·obtain ⟨y,rfl⟩:=Int.eq_ofNat_of_zero_le (show 0<=y by omega);obtain ⟨m,rfl⟩:=Int.eq_ofNat_of_zero_le (show 0<=m by omega);have K:1<=y/\y<=9999/\1<=m/\m<=12:=by omega
  have j:=gd (Jg K);obtain ⟨G,H,I,J⟩:=K;have D:=gd (λw'=>Zfi y w' G H);have R:¬(y:Int)<1:=by omega
  have a2:¬9999<(y:Int):=by omega
  have a3:¬(m:Int)<1:=by omega
  have a4:¬12<(m:Int):=by omega
  by_cases F:m=2
  ·have C:Hid (dimN y m=if leapN y then 29 else 28):=(by show _=_;unfold dimN;rw[Zi F]);subst F;cases hb:leapN y
   ·rw[hb] at D;clear h G H I J;go_enter func139,ntmps139
    go_wp2_with (first|(go_at_call 174;(with_reducible refine Za (D.out _) ?_);rintro e w1 ⟨rfl,rfl⟩))
    go_ret;exact ⟨by rw[j.out,C.out,hb];rfl,rfl⟩
   ·rw[hb] at D;clear h G H I J;go_enter func139,ntmps139
    go_wp2_with (first|(go_at_call 174;(with_reducible refine Za (D.out _) ?_);rintro e w1 ⟨rfl,rfl⟩))
    go_ret;exact ⟨by rw[j.out,C.out,hb];rfl,rfl⟩
  ·have C:=gd (Zeu I J F y);have a5:¬(m:Int)=2:=(by omega);clear h F;go_enter func139,ntmps139;go_wp2;go_ret;exact ⟨by rw[j.out,<-C.out];rfl,rfl⟩
 ·have j:=gd (QN h);have A:y<1\/(¬y<1/\9999<y)\/(¬y<1/\¬9999<y/\m<1)\/(¬y<1/\¬9999<y/\¬m<1/\12<m):=by omega
  clear h;go_enter func139,ntmps139;rcases A with A|⟨A,O⟩|⟨A,O,Q⟩|⟨A,O,Q,S⟩
  all_goals go_wp2
  all_goals go_ret
  all_goals exact ⟨by rw[j.out];rfl,rfl⟩
def dayN (y m d:Nat):Int:=((befN y+monN y (m - 1)+(d - 1):Nat):Int) - 719162
theorem G4 {y:Nat} (h:1<=y) (j:y<=10000):befN y<=3652059:=by
 have:=IV h j;have A:befN 10000=3652059:=by decide
 omega
theorem Zaa (y:Nat) {m:Nat} (h:m<=12):monN y m<=366:=by
 have:=Ev y h;have j:=G9 y;unfold lenN at j;split at j<;>omega
theorem Zek {y:Nat} (h:1<=y):365*((y:Int) - 1)+((y:Int) - 1) / 4 - ((y:Int) - 1) / 100+((y:Int) - 1) / 400=(befN y:Nat):=by
 obtain ⟨p,rfl⟩:∃p,y=p+1:=⟨y - 1,by omega⟩;have e:(((p+1:Nat):Int) - 1)=(p:Int):=by omega
 rw[e];unfold befN;rw[Nat.add_sub_cancel];have A:((p:Int) / 4)=((p / 4:Nat):Int):=by omega
 have e1:((p:Int) / 100)=((p / 100:Nat):Int):=by omega
 have j:((p:Int) / 400)=((p / 400:Nat):Int):=by omega
 rw[A,e1,j];have:p / 100<=365*p:=by omega
 generalize p / 4=a at*;generalize p / 100=b at*;generalize p / 400=c at*;omega
theorem Zc2 (y m d:Int) (w:World) (h:d<1\/(dimI y m:Int)<d):
 Calls prog 160 #[.int .i64 y,.int .i64 m,.int .i64 d] w λe w'=>e= .returned (.tuple #[.int .i64 0,.int .i64 3])/\w'=w:=by
 have A:=gd (λw'=>Ql y m w');generalize dimI y m=D at*;have j:d<1\/(¬d<1/\(D:Int)<d):=by omega
 clear h;go_enter func160,ntmps160;rcases j with j|⟨j,C⟩
 ·go_wp2
  go_ret2
  exact ⟨rfl,rfl⟩
 ·go_wp2_with (first|(go_at_call 139;(with_reducible refine Za (A.out _) ?_);rintro e w1 ⟨rfl,rfl⟩))
  go_ret2
  exact ⟨rfl,rfl⟩
theorem Zes (y m d:Nat) (w:World) (h:1<=y/\y<=9999/\1<=m/\m<=12) (ha:1<=d) (S:d<=dimN y m):
 Calls prog 160 #[.int .i64 (y:Nat),.int .i64 (m:Nat),.int .i64 (d:Nat)] w λe w'=>e= .returned (.tuple #[.int .i64 (dayN y m d),.int .i64 0])/\w'=w:=by
 have K:∀k:Nat,1<=k->k<=12->∀w',Calls prog 139 #[.int .i64 (y:Nat),.int .i64 (k:Nat)] w' λe Z=>e= .returned (.int .i64 (dimN y k:Nat))/\Z=w':=λk J h4 w'=>by
  have:=Ql y k w'
  rwa [Jg ⟨h.1,h.2.1,J,h4⟩] at this
 have HL:=gd K;have V:=(UP y m).2;have G:=gd (Zek h.1);have Q:=G4 h.1 (by omega);obtain ⟨R,O⟩:∃R,dayN y m d=R:=⟨_,rfl⟩;rw[O];have HR:=gd O;have HM:=gd (λk (hk:k<=12)=>Zaa y hk);obtain ⟨D,F⟩:∃D,dimN y m=D:=⟨_,rfl⟩;have C:=gd (K m h.2.2.1 h.2.2.2);rw[F] at S C V;obtain ⟨B,hB⟩:∃B,befN y=B:=⟨_,rfl⟩;rw[hB] at Q G;clear K O F;obtain ⟨h1,h2,J,h4⟩:=h;have a1:¬(d:Int)<1:=by omega
 have a2:¬(D:Int)<d:=by omega
 have a3:¬D<d:=by omega
 go_enter func160,ntmps160
 go_wp2_with (first|(go_at_call 139;(with_reducible refine Za (C.out _) ?_);rintro e w1 ⟨rfl,rfl⟩))
 go_loopw [9,38] (λn i wr=>∃k:Nat,k+1<=m/\n= .int .i64 ((B+monN y k+(d - 1):Nat):Int)/\i= .int .i64 (k:Nat)/\wr=w1) (λ_ i _=>m - (intOf i).toNat)
 case atStart=>exact ⟨0,J,by rw[G.out];refine Zo (Value.int .i64) ?_;show _=((B+0+(d - 1):Nat):Int);omega,rfl,rfl⟩
 case round=>
  obtain ⟨k,hk,rfl,rfl,rfl⟩:=hrel;have H:=HM.out k (by omega);by_cases Y:k+1<m
  ·have b1:(k:Int)<(m:Int) - 1:=(by omega);have I:=gd (HL.out (k+1) (by omega) (by omega));rw[show ((k+1:Nat):Int)=(k:Int)+1 by omega] at I;have U:=UP y (k+1);have A:Hid (monN y (k+1)=monN y k+dimN y (k+1)):=rfl;obtain ⟨E,hE⟩:∃E,dimN y (k+1)=E:=⟨_,rfl⟩;rw[hE] at I U A;obtain ⟨M,j⟩:∃M,monN y k=M:=⟨_,rfl⟩;rw[j] at A H;simp only[j];clear hE j
   go_wp2_with (first|(go_at_call 139;(with_reducible refine Za (I.out _) ?_);rintro e w1 ⟨rfl,rfl⟩))
   go_roundw
   case rel=>exact ⟨k+1,Y,by rw[A.out];refine Zo (Value.int .i64) ?_;omega,by go_num,trivial⟩
   case measure=>simp[intOf];omega
  ·have X:k=m - 1:=(by omega);have b1:¬(k:Int)<(m:Int) - 1:=(by omega);have hF:Hid (((B+monN y k+(d - 1):Nat):Int) - 719162=R):=(by show _=_;rw[<-HR.out,dayN,hB,X]);obtain ⟨M,j⟩:∃M,monN y k=M:=⟨_,rfl⟩;rw[j] at hF H;simp only[j];clear j;go_wp2
   go_ret2
   exact ⟨by rw[<-hF.out];rfl,rfl⟩
def secsI (y m d h mi s:Int):Option Int:=
 if 1<=d/\d<=dimI y m/\0<=h/\h<=23/\0<=mi/\mi<=59/\0<=s/\s<=59 then some (dayN y.toNat m.toNat d.toNat*86400+(h*3600+mi*60+s)) else none
theorem QO {y m:Int} (h:1<=dimI y m):1<=y/\y<=9999/\1<=m/\m<=12:=by
 by_cases j:1<=y/\y<=9999/\1<=m/\m<=12
 ·exact j
 ·rw[QN j] at h;omega
theorem Zd1 (y m d h mi s:Nat):secsI y m d h mi s=secsP y m d h mi s:=by
 unfold secsI secsP;by_cases j:1<=y/\y<=9999/\1<=m/\m<=12
 ·rw[Jg j];by_cases A:1<=d/\d<=dimN y m/\h<=23/\mi<=59/\s<=59
  ·rw[Zi (by omega),Zi (by omega)];simp only[Int.toNat_natCast,dayN]
   congr 1;omega
  ·rw[Zf (by omega),Zf (by omega)]
 ·rw[QN (by omega),Zf (by omega),Zf (by omega)]
theorem ES {y m d:Nat} (h:1<=y/\y<=9999/\1<=m/\m<=12) (j:d<=dimN y m): -719162<=dayN y m d/\dayN y m d<=2933300:=by
 have a:=G4 h.1 (show y<=10000 by omega);have b:=Zaa y (show m - 1<=12 by omega);have c:=(UP y m).2;unfold dayN;omega
theorem Zbr (y m d h mi s:Int) (w:World):
 Calls prog 118 #[.int .i64 y,.int .i64 m,.int .i64 d,.int .i64 h,.int .i64 mi,.int .i64 s] w λe w'=>
  e= .returned (match secsI y m d h mi s with|some t=> .tuple #[.int .i64 t,.int .i64 0]|none=> .tuple #[.int .i64 0,.int .i64 3])/\w'=w:=by
 by_cases H:d<1\/(dimI y m:Int)<d
 ·have C:secsI y m d h mi s=none:=by unfold secsI;rw[Zf (by omega)]
  rw[C];have G:=gd (λw'=>Zc2 y m d w' H);clear H C;go_enter func118,ntmps118
  go_wp2_with (first|(go_at_call 160;(with_reducible refine Za (G.out _) ?_);rintro e w1 ⟨rfl,rfl⟩))
  go_ret2
  exact ⟨rfl,rfl⟩
 ·have J:=QO (y:=y) (m:=m) (by omega);obtain ⟨y,rfl⟩:=Int.eq_ofNat_of_zero_le (show 0<=y by omega);obtain ⟨m,rfl⟩:=Int.eq_ofNat_of_zero_le (show 0<=m by omega);obtain ⟨d,rfl⟩:=Int.eq_ofNat_of_zero_le (show 0<=d by omega);have j:1<=y/\y<=9999/\1<=m/\m<=12:=by omega
  have D:=Jg j;have G:=gd (λw'=>Zes y m d w' j (by omega) (by omega));have F:=ES (d:=d) j (by omega);by_cases K:0<=h/\h<=23/\0<=mi/\mi<=59/\0<=s/\s<=59
  ·have I:secsI y m d h mi s=some (dayN y m d*86400+(h*3600+mi*60+s)):=(by unfold secsI;rw[Zi (by omega)];rfl);rw[I];generalize dayN y m d=X at*;obtain ⟨h,rfl⟩:=Int.eq_ofNat_of_zero_le (show 0<=h by omega);obtain ⟨mi,rfl⟩:=Int.eq_ofNat_of_zero_le (show 0<=mi by omega);obtain ⟨s,rfl⟩:=Int.eq_ofNat_of_zero_le (show 0<=s by omega);have R:¬(h:Int)<0:=(by omega);have S:¬23<(h:Int):=(by omega);have U:¬(mi:Int)<0:=(by omega);have V:¬59<(mi:Int):=(by omega);have Y:¬(s:Int)<0:=(by omega);have Z:¬59<(s:Int):=(by omega);obtain ⟨O,Q⟩:=F;clear I D J j H K;go_enter func118,ntmps118
   go_wp2_with (first|(go_at_call 160;(with_reducible refine Za (G.out _) ?_);rintro e w1 ⟨rfl,rfl⟩))
   go_ret2
   exact ⟨by refine Zo (λt=>Ending.returned (.tuple #[.int .i64 t,.int .i64 0])) ?_;show X*86400+(h:Int)*3600+(mi:Int)*60+(s:Int)=_;omega,rfl⟩
  ·have C:secsI y m d h mi s=none:=(by unfold secsI;rw[Zf (by omega)]);rw[C];generalize dayN y m d=X at*;have A:h<0\/(¬h<0/\23<h)\/(¬h<0/\¬23<h/\mi<0)\/(¬h<0/\¬23<h/\¬mi<0/\59<mi)\/(¬h<0/\¬23<h/\¬mi<0/\¬59<mi/\s<0)\/(¬h<0/\¬23<h/\¬mi<0/\¬59<mi/\¬s<0/\59<s):=(by omega);clear C D J j H K F;go_enter func118,ntmps118;rcases A with A|⟨c1,A⟩|⟨c1,c2,A⟩|⟨c1,c2,c3,A⟩|⟨c1,c2,c3,c4,A⟩|⟨c1,c2,c3,c4,c5,A⟩
   all_goals go_wp2_with (first|(go_at_call 160;(with_reducible refine Za (G.out _) ?_);rintro e w1 ⟨rfl,rfl⟩))
   all_goals go_ret2
   all_goals exact ⟨rfl,rfl⟩
end
def oi:Option Nat->Int
 |some n=>n
 |none=> -1
theorem VM {l:List UInt8} {a k:Nat} (h:digP l (a+k)=none):∀{w:Nat},k<w->numP l a w=none
 |0,hk=>by omega
 |w+1,hk=>by
  unfold numP
  rcases YG k w with j|j
  ·rw[VM h j]
  ·obtain rfl:k=w:=(by omega)
   rw[h]
   cases numP l a k<;>rfl
theorem Ut {l:List UInt8} {i:Nat} (h:l.length<=i):digP l i=none:=by
 unfold digP;rw[List.getElem?_eq_none h]
theorem U3 {l:List UInt8} {a w:Nat} (h:l.length<a+w) (j:0<w):numP l a w=none:=
 VM (k:=w - 1) (Ut (by omega)) (by omega)
theorem ZcJ {l:List UInt8} {i d:Nat} (h:digP l i=some d):d<10:=by
 unfold digP at h;cases hc:l[i]? with
 |none=>rw[hc] at h;cases h
 |some c=>
  rw[hc] at h;simp only at h;split at h
  ·injection h with h;omega
  ·cases h
theorem Jj {l:List UInt8} {a:Nat}:∀{w n:Nat},numP l a w=some n->n<10 ^ w
 |0,n,h=>by injection h with h;subst h;decide
 |w+1,n,h=>by
  unfold numP at h
  cases h1:numP l a w with
  |none=>rw[h1] at h;cases h
  |some m=>
   cases h2:digP l (a+w) with
   |none=>rw[h1,h2] at h;cases h
   |some d=>
    rw[h1,h2] at h
    injection h with h
    have:=Jj h1
    have:=ZcJ h2
    rw[Nat.pow_succ];omega
theorem Ez {l:List UInt8} {a w n d:Nat} (h:numP l a w=some n) (j:digP l (a+w)=some d):numP l a (w+1)=some (n*10+d):=by
 unfold numP;rw[h,j]
theorem Zba (l:List UInt8) (a:Nat):numP l a 1=digP l a:=by
 unfold numP numP;cases digP l (a+0)<;>simp_all
theorem EU {l:List UInt8} {i:Nat} (h:i<l.length):digP l i=if 48<=l[i].toNat/\l[i].toNat<=57 then some (l[i].toNat - 48) else none:=by
 unfold digP;rw[Zc h]
theorem VP {l:List UInt8} {i:Nat} (a b:Nat) (h:i<l.length):sepP l i a b=(decide (l[i].toNat=a)||decide (l[i].toNat=b)):=by
 unfold sepP;rw[Zc h]
theorem Zbu {l:List UInt8} {i:Nat} (a b:Nat) (h:l.length<=i):sepP l i a b=false:=by
 unfold sepP;rw[List.getElem?_eq_none h]
theorem Zbt (y m d h mi s:Option Nat):secsI (oi y) (oi m) (oi d) (oi h) (oi mi) (oi s)=match y,m,d,h,mi,s with
 |some y,some m,some d,some h,some mi,some s=>secsP y m d h mi s
 |_,_,_,_,_,_=>none:=by
 have bad:∀(y m d h mi s:Int),y= -1\/m= -1\/d= -1\/h= -1\/mi= -1\/s= -1->secsI y m d h mi s=none:=by intro y m d h mi s J;unfold secsI;rw[Zf];rintro ⟨j,A,C,D,F,G,H,I⟩;have:=QO (y:=y) (m:=m) (by omega);omega
 cases y with
 |none=>simp only;exact bad _ _ _ _ _ _ (Or.inl rfl)
 |some y=>cases m with
  |none=>simp only;exact bad _ _ _ _ _ _ (Or.inr (Or.inl rfl))
  |some m=>cases d with
   |none=>simp only;exact bad _ _ _ _ _ _ (Or.inr (Or.inr (Or.inl rfl)))
   |some d=>cases h with
    |none=>simp only;exact bad _ _ _ _ _ _ (Or.inr (Or.inr (Or.inr (Or.inl rfl))))
    |some h=>cases mi with
     |none=>simp only;exact bad _ _ _ _ _ _ (Or.inr (Or.inr (Or.inr (Or.inr (Or.inl rfl)))))
     |some mi=>cases s with
      |none=>simp only;exact bad _ _ _ _ _ _ (Or.inr (Or.inr (Or.inr (Or.inr (Or.inr rfl)))))
      |some s=>exact Zd1 y m d h mi s
theorem Qm {l:List UInt8} {k i:Nat} (h:(digP l i).isSome=true):digsP l (k+1) i=digsP l k (i+1)+1:=Zi h
theorem Uu {l:List UInt8} {k i:Nat} (h:(digP l i).isSome=false):digsP l k i=0:=by
 cases k with
 |zero=>rfl
 |succ k=>unfold digsP;rw[h];rfl
theorem QL {l:List UInt8}:∀(k i:Nat),i<=l.length->i+digsP l k i<=l.length
 |0,i,h=>h
 |k+1,i,h=>by
  unfold digsP
  split
  ·rename_i A
   have C:i<l.length:=by
    rcases YG i l.length with j|j
    ·exact j
    ·rw[Ut j] at A;cases A
   have:=QL (l:=l) k (i+1) C
   omega
  ·exact h
theorem UZ {l:List UInt8}:∀(k m i:Nat),l.length<=i+k->l.length<=i+m->digsP l k i=digsP l m i
 |0,m,i,h,_=>by rw[Uu (k:=m) (by rw[Ut (by omega)];rfl)];rfl
 |k+1,0,i,_,h=>by rw[Uu (k:=k+1) (by rw[Ut (by omega)];rfl)];rfl
 |k+1,m+1,i,h1,h2=>by
  unfold digsP
  rw[UZ k m (i+1) (by omega) (by omega)]
section
set_option linter.unusedSimpArgs false
def cycC:Nat->Nat
 |0=>146097
 |1=>36524
 |2=>1461
 |_=>365
def cycY:Nat->Nat
 |0=>400
 |1=>100
 |2=>4
 |_=>1
def cycT:Nat->Nat
 |0=>25
 |1=>3
 |2=>24
 |_=>3
def cyc (n:Nat):Nat->Nat×Nat
 |0=>(n,1)
 |i+1=>((cyc n i).1 - min ((cyc n i).1 / cycC i) (cycT i)*cycC i,(cyc n i).2+min ((cyc n i).1 / cycC i) (cycT i)*cycY i)
theorem Zg7 {n:Nat} (h:n<3652059):cyc n 4=(n - befN (yearN n),yearN n):=by
 have K:=Ix n;obtain ⟨a,F⟩:∃a,n / 146097=a:=⟨_,rfl⟩;have D:min (n / 146097) 25=a:=by omega
 have e1:n - a*146097=n % 146097:=by omega
 obtain ⟨r,C⟩:∃r,n % 146097=r:=⟨_,rfl⟩;obtain ⟨b,G⟩:∃b,min (r / 36524) 3=b:=⟨_,rfl⟩;obtain ⟨s,S⟩:∃s,r - b*36524=s:=⟨_,rfl⟩;obtain ⟨c,O⟩:∃c,min (s / 1461) 24=c:=⟨_,rfl⟩;obtain ⟨t,U⟩:∃t,s - c*1461=t:=⟨_,rfl⟩;obtain ⟨e,Q⟩:∃e,min (t / 365) 3=e:=⟨_,rfl⟩;have J:yearN n=1+400*a+100*b+4*c+e:=by unfold yearN;simp only[F,C,G,S,O,U,Q]
 have A:cyc n 4=(t - e*365,1+a*400+b*100+c*4+e*1):=by simp only[cyc,cycC,cycT,cycY,D,e1,C,G,S,O,U,Q]
 have j:=ZcC a b c e (by omega) (by omega) (by omega);have H:n=146097*a+r:=by omega
 have I:36524*b<=r:=by clear H K A j J h D e1 F C;omega
 have R:1461*c<=s:=by clear H K A j J h D e1 F C I G;omega
 have V:365*e<=t:=by clear H K A j J h D e1 F C I G R O;omega
 rw[A,J,j,H];clear K A j J h D e1 F C G O Q H;refine Prod.ext ?_ ?_
 ·show t - e*365=_;omega
 ·show 1+a*400+b*100+c*4+e*1=_;omega
theorem Zer (n:Nat):∀i,(cyc n i).1<=n/\(cyc n i).2<=1+10000*i
 |0=>⟨Zd _,Zd _⟩
 |i+1=>by
  have ih:=Zer n i
  refine ⟨Zl (Nat.sub_le _ _) ih.1,?_⟩
  show (cyc n i).2+min ((cyc n i).1 / cycC i) (cycT i)*cycY i<=_
  have h:min ((cyc n i).1 / cycC i) (cycT i)<=25:=by
   refine Zl (Nat.min_le_right _ _) ?_
   unfold cycT;split<;>omega
  have j:cycY i<=400:=by unfold cycY;split<;>omega
  have:=Nat.mul_le_mul h j
  omega
theorem Zal {A:Func} {t u v x:Tmp} (h:A.results=#[.tmp t,.tmp u,.tmp v,.tmp x]) (j:Array Value) (P:Program) (w:World):
 (results A j).run P w= .ok (.tuple #[j.getD t undef,j.getD u undef,j.getD v undef,j.getD x undef]) w:=by
 simp[results,h]
theorem ZfR (n:Nat) (w:World) (h:n<3652059):
 Calls prog 95 #[.int .i64 ((n:Int) - 719162)] w λe w'=>e= .returned (.tuple #[.int .i64 ((dateN n).1:Nat),.int .i64 ((dateN n).2.1:Nat),.int .i64 ((dateN n).2.2:Nat),.int .i64 0])/\Ext w w':=by
 have a1:¬(n:Int) - 719162< -719162:=by omega
 have a2:¬2932896<(n:Int) - 719162:=by omega
 have HF:=gd (Zg7 h);go_enter func95,ntmps95;obtain ⟨W1,hd⟩:∃W1,w.alloc (.cells #[.int .i64 146097,.int .i64 400,.int .i64 25,.int .i64 36524,.int .i64 100,.int .i64 3,.int .i64 1461,.int .i64 4,.int .i64 24,.int .i64 365,.int .i64 1,.int .i64 3] 196)=W1:=⟨_,rfl⟩;have hi:Ext w W1:=by rw[<-hd];exact (Ext.refl w).alloc _
 have S:=gd (λ(j:Nat) (u:Value) (h:#[Value.int .i64 146097,.int .i64 400,.int .i64 25,.int .i64 36524,.int .i64 100,.int .i64 3,.int .i64 1461,.int .i64 4,.int .i64 24,.int .i64 365,.int .i64 1,.int .i64 3][j]? =some u) wr (K:Ext W1 wr)=>Ext.boxed (w:=w) (by rw[hd];exact K) j u h);have HS:=gd hi;clear hi;obtain ⟨g,hg⟩:∃g,w.heap.size=g:=⟨_,rfl⟩;rw[hg] at S;go_wp2;go_loopw [6,7,26] (λl y i wr=>∃k:Nat,k<=4/\l= .int .i64 ((cyc n k).1:Nat)/\y= .int .i64 ((cyc n k).2:Nat)/\i= .int .i64 (k:Nat)/\Ext W1 wr) (λ_ _ i _=>4 - (intOf i).toNat)
 case atStart=>exact ⟨0,by omega,rfl,rfl,rfl,Ext.refl _⟩
 case round=>
  obtain ⟨k,Z,rfl,rfl,rfl,K⟩:=hrel;have C:=Zer n k;have H:Hid (cyc n (k+1)=((cyc n k).1 - min ((cyc n k).1 / cycC k) (cycT k)*cycC k,(cyc n k).2+min ((cyc n k).1 / cycC k) (cycT k)*cycY k)):=rfl;rcases (by omega:k=0\/k=1\/k=2\/k=3\/k=4) with rfl|rfl|rfl|rfl|rfl
  ·have c0:=S.out 0 _ rfl wr K;have c1:=S.out 1 _ rfl wr K;have c2:=S.out 2 _ rfl wr K;obtain ⟨P,J⟩:∃P,cyc n 0=P:=⟨_,rfl⟩;rw[J] at H C;simp only[J];clear J;obtain ⟨l,y⟩:=P;simp only at C|-;obtain ⟨hl,hy⟩:=C;obtain ⟨M,U⟩:∃M:Nat,min (l / 146097) 25=M:=⟨_,rfl⟩;have A:min ((l:Int) / 146097) 25=(M:Int):=(by omega);have Q:M*146097<=l:=(by clear A;omega);have hc:M<=25:=(by clear A Q;omega);have F:Hid (cyc n 1=(l - M*146097,y+M*400)):=(by show _=_;rw[H.out];show (l - min (l / 146097) 25*146097,y+min (l / 146097) 25*400)=_;rw[U]);have I:=gd A;clear H U A Z;rw[show ((0:Nat):Int)=0 from rfl];go_wp2
   go_region
   rw[I.out];clear I;go_wp2;go_roundw
   case rel=>exact ⟨1,by omega,by rw[F.out];refine Zo (Value.int .i64) ?_;show _=((l - M*146097:Nat):Int);omega,by rw[F.out];refine Zo (Value.int .i64) ?_;show _=((y+M*400:Nat):Int);omega,rfl,(K.alloc _).drew⟩
   case measure=>simp[intOf]
  ·have c0:=S.out 3 _ rfl wr K;have c1:=S.out 4 _ rfl wr K;have c2:=S.out 5 _ rfl wr K;obtain ⟨P,J⟩:∃P,cyc n 1=P:=⟨_,rfl⟩;rw[J] at H C;simp only[J];clear J;obtain ⟨l,y⟩:=P;simp only at C|-;obtain ⟨hl,hy⟩:=C;obtain ⟨M,U⟩:∃M:Nat,min (l / 36524) 3=M:=⟨_,rfl⟩;have A:min ((l:Int) / 36524) 3=(M:Int):=(by omega);have Q:M*36524<=l:=(by clear A;omega);have hc:M<=3:=(by clear A Q;omega);have F:Hid (cyc n 2=(l - M*36524,y+M*100)):=(by show _=_;rw[H.out];show (l - min (l / 36524) 3*36524,y+min (l / 36524) 3*100)=_;rw[U]);have I:=gd A;clear H U A Z;rw[show ((1:Nat):Int)=1 from rfl];go_wp2
   go_region
   rw[I.out];clear I;go_wp2;go_roundw
   case rel=>exact ⟨2,by omega,by rw[F.out];refine Zo (Value.int .i64) ?_;show _=((l - M*36524:Nat):Int);omega,by rw[F.out];refine Zo (Value.int .i64) ?_;show _=((y+M*100:Nat):Int);omega,rfl,(K.alloc _).drew⟩
   case measure=>simp[intOf]
  ·have c0:=S.out 6 _ rfl wr K;have c1:=S.out 7 _ rfl wr K;have c2:=S.out 8 _ rfl wr K;obtain ⟨P,J⟩:∃P,cyc n 2=P:=⟨_,rfl⟩;rw[J] at H C;simp only[J];clear J;obtain ⟨l,y⟩:=P;simp only at C|-;obtain ⟨hl,hy⟩:=C;obtain ⟨M,U⟩:∃M:Nat,min (l / 1461) 24=M:=⟨_,rfl⟩;have A:min ((l:Int) / 1461) 24=(M:Int):=(by omega);have Q:M*1461<=l:=(by clear A;omega);have hc:M<=24:=(by clear A Q;omega);have F:Hid (cyc n 3=(l - M*1461,y+M*4)):=(by show _=_;rw[H.out];show (l - min (l / 1461) 24*1461,y+min (l / 1461) 24*4)=_;rw[U]);have I:=gd A;clear H U A Z;rw[show ((2:Nat):Int)=2 from rfl];go_wp2
   go_region
   rw[I.out];clear I;go_wp2;go_roundw
   case rel=>exact ⟨3,by omega,by rw[F.out];refine Zo (Value.int .i64) ?_;show _=((l - M*1461:Nat):Int);omega,by rw[F.out];refine Zo (Value.int .i64) ?_;show _=((y+M*4:Nat):Int);omega,rfl,(K.alloc _).drew⟩
   case measure=>simp[intOf]
  ·have c0:=S.out 9 _ rfl wr K;have c1:=S.out 10 _ rfl wr K;have c2:=S.out 11 _ rfl wr K;obtain ⟨P,J⟩:∃P,cyc n 3=P:=⟨_,rfl⟩;rw[J] at H C;simp only[J];clear J;obtain ⟨l,y⟩:=P;simp only at C|-;obtain ⟨hl,hy⟩:=C;obtain ⟨M,U⟩:∃M:Nat,min (l / 365) 3=M:=⟨_,rfl⟩;have A:min ((l:Int) / 365) 3=(M:Int):=(by omega);have Q:M*365<=l:=(by clear A;omega);have hc:M<=3:=(by clear A Q;omega);have F:Hid (cyc n 4=(l - M*365,y+M*1)):=(by show _=_;rw[H.out];show (l - min (l / 365) 3*365,y+min (l / 365) 3*1)=_;rw[U]);have I:=gd A;clear H U A Z;rw[show ((3:Nat):Int)=3 from rfl];go_wp2
   go_region
   rw[I.out];clear I;go_wp2;go_roundw
   case rel=>exact ⟨4,by omega,by rw[F.out];refine Zo (Value.int .i64) ?_;show _=((l - M*365:Nat):Int);omega,by rw[F.out];refine Zo (Value.int .i64) ?_;show _=((y+M*1:Nat):Int);omega,rfl,(K.alloc _).drew⟩
   case measure=>simp[intOf]
  ·rw[HF.out] at C|-;simp only at C|-;rw[show ((4:Nat):Int)=4 from rfl];have hb:=Ix n;obtain ⟨Y,hY⟩:∃Y,yearN n=Y:=⟨_,rfl⟩;rw[hY] at C hb;simp only[hY];have hr:=Ur Y hb.2.2;have ho:Y<=9999:=(by have:=(Zaz n).top (by omega);rw[show (dateN n).1=yearN n from rfl,hY] at this;exact this);obtain ⟨P,J⟩:∃P,monthGo Y 11 1 (n - befN Y)=P:=⟨_,rfl⟩;have he:Hid (dateN n=(Y,P.1,P.2+1)):=(by show _=_;rw[<-J,<-hY];rfl);have hf:Hid (monN Y (1 - 1)+(n - befN Y)<lenN Y):=(by show 0+(n - befN Y)<lenN Y;omega);obtain ⟨L,hL⟩:∃L,n - befN Y=L:=⟨_,rfl⟩;rw[hL] at J hf;simp only[hL] at C|-;have hn:L<=3652059:=(by omega);have hm:=gd J;have HD:=gd (λ(m:Nat) (h3:1<=m) (h4:m<=12) w'=>by have:=Ql Y m w';rw[Jg ⟨hb.2.2,ho,h3,h4⟩] at this;exact this);have hj:=gd (HS.out.trans K);clear hr hb C J hL H Z HF HS K hY;obtain ⟨wP,hu⟩:∃wP:World,wP=wr:=⟨_,rfl⟩;subst hu;go_wp2;go_loopw [6,12] (λl m wr=>∃R G:Nat,1<=G/\G<=12/\R<=3652059/\l= .int .i64 (R:Nat)/\m= .int .i64 (G:Nat)/\Hid (monthGo Y (12 - G) G R=P)/\Hid (monN Y (G - 1)+R<lenN Y)/\wr=wP) (λ_ m _=>13 - (intOf m).toNat)
   case atStart=>exact ⟨L,1,by omega,by omega,hn,rfl,rfl,hm,hf,rfl⟩
   case round=>
    obtain ⟨R,G,hs,ht,hv,rfl,rfl,hp,hq,rfl⟩:=hrel;have V:=gd (HD.out G hs ht);by_cases X:dimN Y G<=R
    ·have hw:G<12:=by
      rcases YG G 12 with h|h
      ·exact h
      ·obtain rfl:G=12:=(by omega);have h1:=hq.out;have h2:monN Y 11+dimN Y 12=lenN Y:=G9 Y;have h3:monN Y (12 - 1)=monN Y 11:=rfl;omega
     have ha:Hid (monthGo Y (12 - (G+1)) (G+1) (R - dimN Y G)=P):=(by show _=_;have h1:=hp.out;obtain ⟨k,Z⟩:∃k,12 - G=k+1:=⟨11 - G,by omega⟩;rw[Z,monthGo,Zi X] at h1;rw[show 12 - (G+1)=k by omega];exact h1);have hh:Hid (monN Y (G+1 - 1)+(R - dimN Y G)<lenN Y):=(by show _<_;have h1:=hq.out;obtain ⟨j,rfl⟩:∃j,G=j+1:=⟨G - 1,by omega⟩;have h2:monN Y (j+1+1 - 1)=monN Y (j+1 - 1)+dimN Y (j+1):=rfl;omega);obtain ⟨D,hD⟩:∃D,dimN Y G=D:=⟨_,rfl⟩;rw[hD] at V X ha hh;have b1:(D:Int)<=(R:Int):=(by omega);clear hD hp hq
     go_wp2_with (first|(go_at_call 139;(with_reducible refine Za (V.out _) ?_);rintro e w1 ⟨rfl,rfl⟩))
     go_roundw
     case rel=>exact ⟨R - D,G+1,by omega,by omega,by omega,by refine Zo (Value.int .i64) ?_;omega,by go_num,ha,hh,trivial⟩
     case measure=>simp[intOf];omega
    ·have ha:Hid (dateN n=(Y,G,R+1)):=by
      show _=_;have h1:=hp.out;have h2:monthGo Y (12 - G) G R=(G,R):=by
       rcases YP (12 - G) with h|h
       ·rw[h];rfl
       ·obtain ⟨k,Z⟩:∃k,12 - G=k+1:=⟨11 - G,by omega⟩;rw[Z,monthGo,Zf X]
      rw[he.out,<-h1,h2]
     obtain ⟨D,hD⟩:∃D,dimN Y G=D:=⟨_,rfl⟩;rw[hD] at V X;have b1:¬(D:Int)<=(R:Int):=(by omega);clear hD hp hq
     go_wp2_with (first|(go_at_call 139;(with_reducible refine Za (V.out _) ?_);rintro e w1 ⟨rfl,rfl⟩))
     ((try simp only[Exit.inBlock,Exit.then]);refine Zm (Zal rfl _ _ _) rfl ?_);exact ⟨by rw[ha.out];rfl,hj.out⟩
end
section
set_option linter.unusedSimpArgs false
theorem GV (y:Nat) (w:World) (j:1<=y) (A:y<=9999):
 Calls prog 142 #[.int .i64 (y:Nat)] w λe w'=>e= .returned (.bool (leapN y))/\w'=w:=by
 have h:(1:Int)<=(y:Int):=by omega
 have a2:(y:Int)<=9999:=by omega
 go_enter func142,ntmps142;go_wp2
 all_goals go_ret
 all_goals exact ⟨Zo (λb=>Ending.returned (Value.bool b)) (Xf.2 (by rw[VK];simp;omega)),rfl⟩
theorem V1 (y m:Int) (w:World):
 Calls prog 143 #[.int .i64 y,.int .i64 m] w λe w'=>e= .returned (.int .i64 (dimI y m:Nat))/\w'=w:=by
 by_cases h:1<=y/\y<=9999/\1<=m/\m<=12
 ·obtain ⟨y,rfl⟩:=Int.eq_ofNat_of_zero_le (show 0<=y by omega);obtain ⟨m,rfl⟩:=Int.eq_ofNat_of_zero_le (show 0<=m by omega);have K:1<=y/\y<=9999/\1<=m/\m<=12:=by omega
  have C:=gd (Jg K);obtain ⟨I,J,O,Q⟩:=K;have F:=gd (λw'=>GV y w' I J);have U:¬(y:Int)<1:=by omega
  have a2:¬9999<(y:Int):=by omega
  have a3:¬(m:Int)<1:=by omega
  have a4:¬12<(m:Int):=by omega
  by_cases D:m=2
  ·have j:Hid (dimN y m=if leapN y then 29 else 28):=(by show _=_;unfold dimN;rw[Zi D]);subst D;cases hb:leapN y
   ·rw[hb] at F;clear h I J O Q;go_enter func143,ntmps143
    go_wp2_with (first|(go_at_call 142;(with_reducible refine Za (F.out _) ?_);rintro e w1 ⟨rfl,rfl⟩))
    go_ret;exact ⟨by rw[C.out,j.out,hb];rfl,rfl⟩
   ·rw[hb] at F;clear h I J O Q;go_enter func143,ntmps143
    go_wp2_with (first|(go_at_call 142;(with_reducible refine Za (F.out _) ?_);rintro e w1 ⟨rfl,rfl⟩))
    go_ret;exact ⟨by rw[C.out,j.out,hb];rfl,rfl⟩
  ·have a5:¬(m:Int)=2:=(by omega);have j:Hid (dimN y m=if m=4\/m=6\/m=9\/m=11 then 30 else 31):=(by show _=_;unfold dimN;rw[Zf D]);by_cases G:m=4\/m=6\/m=9\/m=11
   ·have H:Hid (dimN y m=30):=(by show _=_;rw[j.out,Zi G]);clear h D j;rcases G with rfl|rfl|rfl|rfl
    all_goals go_enter func143,ntmps143
    all_goals go_wp2
    all_goals go_ret
    all_goals exact ⟨Zo (λn:Nat=>Ending.returned (.int .i64 n)) (C.out.trans H.out).symm,rfl⟩
   ·have H:Hid (dimN y m=31):=(by show _=_;rw[j.out,Zf G]);have A:m=1\/m=3\/m=5\/m=7\/m=8\/m=10\/m=12:=(by omega);clear h D j G a5 a3 a4;rcases A with rfl|rfl|rfl|rfl|rfl|rfl|rfl
    all_goals go_enter func143,ntmps143
    all_goals go_wp2
    all_goals go_ret
    all_goals exact ⟨Zo (λn:Nat=>Ending.returned (.int .i64 n)) (C.out.trans H.out).symm,rfl⟩
 ·have C:=gd (QN h);have A:y<1\/(¬y<1/\9999<y)\/(¬y<1/\¬9999<y/\m<1)\/(¬y<1/\¬9999<y/\¬m<1/\12<m):=by omega
  clear h;go_enter func143,ntmps143;rcases A with A|⟨A,R⟩|⟨A,R,S⟩|⟨A,R,S,V⟩
  all_goals go_wp2
  all_goals go_ret
  all_goals exact ⟨by rw[C.out];rfl,rfl⟩
theorem IJ (y:Nat) (w:World) (H:1<=y) (K:y<=9999):
 Calls prog 201 #[.int .i64 (y:Nat)] w λe w'=>e= .returned (.int .i64 (befN y:Nat))/\w'=w:=by
 go_enter func201,ntmps201;go_wp2;go_loopw [3,4] (λn i I=>∃k:Nat,1<=k/\k<=y/\n= .int .i64 (befN k:Nat)/\i= .int .i64 (k:Nat)/\I=w) (λ_ i _=>y - (intOf i).toNat)
 case atStart=>exact ⟨1,by omega,H,rfl,rfl,rfl⟩
 case round=>
  obtain ⟨k,A,O,rfl,rfl,rfl⟩:=hrel;have G:=G4 A (show k<=10000 by omega);by_cases C:k<y
  ·have D:=gd (λw'=>GV k w' A (by omega));have h:=Ur k A;unfold lenN at h;obtain ⟨B,F⟩:∃B,befN k=B:=⟨_,rfl⟩;rw[F] at h G;simp only[F];clear F;have J:(k:Int)<(y:Int):=(by omega);cases hl:leapN k with
   |true=>
    rw[hl] at D h;simp only[Eq] at h;have j:=gd h;clear h hl
    go_wp2_with (first|(go_at_call 142;(with_reducible refine Za (D.out _) ?_);rintro e w1 ⟨rfl,rfl⟩))
    go_roundw
    case rel=>exact ⟨k+1,by omega,C,by rw[j.out];refine Zo (Value.int .i64) ?_;omega,by go_num,trivial⟩
    case measure=>simp[intOf];omega
   |false=>
    rw[hl] at D h;simp only[Ja,ZgK] at h;have j:=gd h;clear h hl
    go_wp2_with (first|(go_at_call 142;(with_reducible refine Za (D.out _) ?_);rintro e w1 ⟨rfl,rfl⟩))
    go_roundw
    case rel=>exact ⟨k+1,by omega,C,by rw[j.out];refine Zo (Value.int .i64) ?_;omega,by go_num,trivial⟩
    case measure=>simp[intOf];omega
  ·obtain rfl:k=y:=(by omega);go_wp2;go_ret;exact ⟨rfl,rfl⟩
theorem Zbm (y m d:Int) (w:World) (h:d<1\/(dimI y m:Int)<d):
 Calls prog 170 #[.int .i64 y,.int .i64 m,.int .i64 d] w λe w'=>e= .returned (.tuple #[.int .i64 0,.int .i64 3])/\w'=w:=by
 have A:=gd (λw'=>V1 y m w');generalize dimI y m=D at*;have j:d<1\/(¬d<1/\(D:Int)<d):=by omega
 clear h;go_enter func170,ntmps170;rcases j with j|⟨j,C⟩
 ·go_wp2
  go_ret2
  exact ⟨rfl,rfl⟩
 ·go_wp2_with (first|(go_at_call 143;(with_reducible refine Za (A.out _) ?_);rintro e w1 ⟨rfl,rfl⟩))
  go_ret2
  exact ⟨rfl,rfl⟩
theorem Zcl (y m d:Nat) (w:World) (h:1<=y/\y<=9999/\1<=m/\m<=12) (ha:1<=d) (Q:d<=dimN y m):
 Calls prog 170 #[.int .i64 (y:Nat),.int .i64 (m:Nat),.int .i64 (d:Nat)] w λe w'=>e= .returned (.tuple #[.int .i64 (dayN y m d),.int .i64 0])/\w'=w:=by
 have J:∀k:Nat,1<=k->k<=12->∀w',Calls prog 143 #[.int .i64 (y:Nat),.int .i64 (k:Nat)] w' λe Y=>e= .returned (.int .i64 (dimN y k:Nat))/\Y=w':=λk I h4 w'=>by
  have:=V1 y k w'
  rwa [Jg ⟨h.1,h.2.1,I,h4⟩] at this
 have HL:=gd J;have U:=(UP y m).2;have Z:=gd (λw'=>IJ y w' h.1 h.2.1);have O:=G4 h.1 (by omega);obtain ⟨R,K⟩:∃R,dayN y m d=R:=⟨_,rfl⟩;rw[K];have HR:=gd K;have HM:=gd (λk (hk:k<=12)=>Zaa y hk);obtain ⟨D,G⟩:∃D,dimN y m=D:=⟨_,rfl⟩;have F:=gd (J m h.2.2.1 h.2.2.2);rw[G] at Q F U;obtain ⟨B,hB⟩:∃B,befN y=B:=⟨_,rfl⟩;rw[hB] at O Z;clear J K G;obtain ⟨h1,h2,I,h4⟩:=h;have a1:¬(d:Int)<1:=by omega
 have a2:¬(D:Int)<d:=by omega
 have a3:¬D<d:=by omega
 go_enter func170,ntmps170
 go_wp2_with (first|(go_at_call 143;(with_reducible refine Za (F.out _) ?_);rintro e w1 ⟨rfl,rfl⟩)|(go_at_call 201;(with_reducible refine Za (Z.out _) ?_);rintro e w1 ⟨rfl,rfl⟩))
 obtain ⟨wP,hc⟩:∃wP:World,wP=w1:=⟨_,rfl⟩;go_loopw [8,9] (λn i wr=>∃k:Nat,1<=k/\k<=m/\n= .int .i64 (((B+monN y (k - 1):Nat):Int) - 719162)/\i= .int .i64 (k:Nat)/\wr=w1) (λ_ i _=>m - (intOf i).toNat)
 case atStart=>exact ⟨1,by omega,I,rfl,rfl,rfl⟩
 case round=>
  obtain ⟨k,hb,hk,rfl,rfl,rfl⟩:=hrel;have H:=HM.out (k - 1) (by omega);by_cases V:k<m
  ·have b1:(k:Int)<(m:Int):=(by omega);have HC:=gd (HL.out k (by omega) (by omega));have S:=UP y k;have C:Hid (monN y (k+1 - 1)=monN y (k - 1)+dimN y k):=(by obtain ⟨j,rfl⟩:∃j,k=j+1:=⟨k - 1,by omega⟩;rfl);obtain ⟨E,hE⟩:∃E,dimN y k=E:=⟨_,rfl⟩;rw[hE] at HC S C;obtain ⟨M,A⟩:∃M,monN y (k - 1)=M:=⟨_,rfl⟩;rw[A] at C H;simp only[A];clear hE A
   go_wp2_with (first|(go_at_call 143;(with_reducible refine Za (HC.out _) ?_);rintro e w1 ⟨rfl,rfl⟩))
   go_roundw
   case rel=>exact ⟨k+1,by omega,V,by rw[C.out];refine Zo (Value.int .i64) ?_;omega,by go_num,trivial⟩
   case measure=>simp[intOf];omega
  ·obtain rfl:k=m:=(by omega);have hF:Hid (((B+monN y (k - 1):Nat):Int) - 719162+((d:Int) - 1)=R):=(by show _=_;rw[<-HR.out,dayN,hB];generalize monN y (k - 1)=X;omega);obtain ⟨M,A⟩:∃M,monN y (k - 1)=M:=⟨_,rfl⟩;rw[A] at hF H;simp only[A];clear A;go_wp2
   go_ret2
   exact ⟨by rw[<-hF.out];rfl,rfl⟩
theorem Ic (y m d h mi s:Int) (w:World):
 Calls prog 130 #[.int .i64 y,.int .i64 m,.int .i64 d,.int .i64 h,.int .i64 mi,.int .i64 s] w λe w'=>
  e= .returned (match secsI y m d h mi s with|some t=> .tuple #[.int .i64 t,.int .i64 0]|none=> .tuple #[.int .i64 0,.int .i64 3])/\w'=w:=by
 by_cases H:d<1\/(dimI y m:Int)<d
 ·have C:secsI y m d h mi s=none:=by unfold secsI;rw[Zf (by omega)]
  rw[C];have G:=gd (λw'=>Zbm y m d w' H);clear H C;go_enter func130,ntmps130
  go_wp2_with (first|(go_at_call 170;(with_reducible refine Za (G.out _) ?_);rintro e w1 ⟨rfl,rfl⟩))
  go_ret2
  exact ⟨rfl,rfl⟩
 ·have J:=QO (y:=y) (m:=m) (by omega);obtain ⟨y,rfl⟩:=Int.eq_ofNat_of_zero_le (show 0<=y by omega);obtain ⟨m,rfl⟩:=Int.eq_ofNat_of_zero_le (show 0<=m by omega);obtain ⟨d,rfl⟩:=Int.eq_ofNat_of_zero_le (show 0<=d by omega);have j:1<=y/\y<=9999/\1<=m/\m<=12:=by omega
  have D:=Jg j;have G:=gd (λw'=>Zcl y m d w' j (by omega) (by omega));have F:=ES (d:=d) j (by omega);by_cases K:0<=h/\h<=23/\0<=mi/\mi<=59/\0<=s/\s<=59
  ·have I:secsI y m d h mi s=some (dayN y m d*86400+(h*3600+mi*60+s)):=(by unfold secsI;rw[Zi (by omega)];rfl);rw[I];generalize dayN y m d=X at*;obtain ⟨h,rfl⟩:=Int.eq_ofNat_of_zero_le (show 0<=h by omega);obtain ⟨mi,rfl⟩:=Int.eq_ofNat_of_zero_le (show 0<=mi by omega);obtain ⟨s,rfl⟩:=Int.eq_ofNat_of_zero_le (show 0<=s by omega);have R:¬(h:Int)<0:=(by omega);have S:¬23<(h:Int):=(by omega);have U:¬(mi:Int)<0:=(by omega);have V:¬59<(mi:Int):=(by omega);have Y:¬(s:Int)<0:=(by omega);have Z:¬59<(s:Int):=(by omega);obtain ⟨O,Q⟩:=F;clear I D J j H K;go_enter func130,ntmps130
   go_wp2_with (first|(go_at_call 170;(with_reducible refine Za (G.out _) ?_);rintro e w1 ⟨rfl,rfl⟩))
   go_ret2
   exact ⟨by refine Zo (λt=>Ending.returned (.tuple #[.int .i64 t,.int .i64 0])) ?_;rfl,rfl⟩
  ·have C:secsI y m d h mi s=none:=(by unfold secsI;rw[Zf (by omega)]);rw[C];generalize dayN y m d=X at*;have A:h<0\/(¬h<0/\23<h)\/(¬h<0/\¬23<h/\mi<0)\/(¬h<0/\¬23<h/\¬mi<0/\59<mi)\/(¬h<0/\¬23<h/\¬mi<0/\¬59<mi/\s<0)\/(¬h<0/\¬23<h/\¬mi<0/\¬59<mi/\¬s<0/\59<s):=(by omega);clear C D J j H K F;go_enter func130,ntmps130;rcases A with A|⟨c1,A⟩|⟨c1,c2,A⟩|⟨c1,c2,c3,A⟩|⟨c1,c2,c3,c4,A⟩|⟨c1,c2,c3,c4,c5,A⟩
   all_goals go_wp2_with (first|(go_at_call 170;(with_reducible refine Za (G.out _) ?_);rintro e w1 ⟨rfl,rfl⟩))
   all_goals go_ret2
   all_goals exact ⟨rfl,rfl⟩
end
section
set_option linter.unusedSimpArgs false
theorem XX (s:ByteArray) (i a b:Nat) (w:World) (I:s.size<=16777216) (H:i<=16777316) (F:a<256) (G:b<256):
 Calls prog 129 #[.string s,.int .i64 (i:Nat),.int .u8 (a:Nat),.int .u8 (b:Nat)] w λe w'=>e= .returned (.bool (sepP s.data.toList i a b))/\w'=w:=by
 by_cases h:i<s.size
 ·have C:i<s.data.toList.length:=by rw[Zn];exact h
  have j:=gd (VP (l:=s.data.toList) a b C);have A:s.data.toList[i]=s[i]:=rfl;rw[A] at j;have D:(0:Int)<=(i:Int):=by omega
  have a2:(i:Int)<(s.size:Int):=by omega
  go_enter func129,ntmps129;go_wp2
  all_goals go_ret
  all_goals exact ⟨by rw[j.out];refine Zo (λb=>Ending.returned (Value.bool b)) ?_;rw[Xf];simp;omega,rfl⟩
 ·have j:=gd (Zbu (l:=s.data.toList) (i:=i) a b (by rw[Zn];omega));have a2:¬(i:Int)<(s.size:Int):=by omega
  go_enter func129,ntmps129;go_wp2;go_ret;exact ⟨by rw[j.out];rfl,rfl⟩
theorem YX (s:ByteArray) (a width:Nat) (w:World) (hs:s.size<=16777216) (ha:a<=16777316) (Y:0<width) (hw:width<=4):
 Calls prog 131 #[.string s,.int .i64 (a:Nat),.int .i64 (width:Nat)] w λe w'=>e= .returned (.int .i64 (oi (numP s.data.toList a width)))/\w'=w:=by
 obtain ⟨R,G⟩:∃R,numP s.data.toList a width=R:=⟨_,rfl⟩;rw[G];by_cases h:a+width<=s.size
 ·have a1:¬(a:Int)<0:=by omega
  have a2:¬(s.size:Int) - (a:Int)<(width:Int):=by omega
  have Z:=gd G;clear G;go_enter func131,ntmps131;go_wp2;go_loopw [7,8] (λn i wr=>∃k m:Nat,k<=width/\m<=9999/\n= .int .i64 (m:Nat)/\i= .int .i64 (k:Nat)/\Hid (numP s.data.toList a k=some m)/\wr=w) (λ_ i _=>width - (intOf i).toNat)
  case atStart=>exact ⟨0,0,by omega,by omega,rfl,rfl,rfl,rfl⟩
  case round=>
   obtain ⟨k,m,hk,hm,rfl,rfl,U,rfl⟩:=hrel;by_cases J:k<width
   ·have hl:a+k<s.data.toList.length:=(by rw[Zn];omega);have I:=EU hl;have Q:s.data.toList[a+k]=s[a+k]'(by omega):=rfl;rw[Q] at I;have b1:(k:Int)<(width:Int):=(by omega);obtain ⟨K,hK⟩:∃K,a+k=K:=⟨_,rfl⟩;have hb:(a:Int)+(k:Int)=(K:Int):=(by omega);have he:K<s.size:=(by omega);simp only[hK] at I;obtain ⟨c,V⟩:∃c,s[K]=c:=⟨_,rfl⟩;rw[V] at I;have H:=c.toNat_lt;have b2:(0:Int)<=(K:Int):=(by omega);have b3:(K:Int)<(s.size:Int):=(by omega);have A:Hid (digP s.data.toList (a+k)=if 48<=c.toNat/\c.toNat<=57 then some (c.toNat - 48) else none):=(by show _=_;rw[hK];exact I);clear I hl Q;by_cases j:48<=c.toNat/\c.toNat<=57
    ·have C:Hid (numP s.data.toList a (k+1)=some (m*10+(c.toNat - 48))):=Ez U.out (by rw[A.out,Zi j]);have O:m*10+(c.toNat - 48)<=9999:=(by have h1:=Jj C.out;have h2:10 ^ (k+1)<=10 ^ 4:=Nat.pow_le_pow_right (by omega) (by omega);omega);obtain ⟨x,S⟩:∃x,c.toNat=x:=⟨_,rfl⟩;rw[S] at j C O;have c1:¬(x:Int)<48:=(by omega);have c2:¬57<(x:Int):=(by omega);have X:(s[K].toNat:Int)=(x:Int):=(by rw[V,S]);clear A U H hK;go_wp2;go_roundw
     case rel=>exact ⟨k+1,m*10+(x - 48),J,O,by refine Zo (Value.int .i64) ?_;omega,by go_num,C,trivial⟩
     case measure=>simp[intOf];omega
    ·have F:Hid (R=none):=(by show _=_;rw[<-Z.out];exact VM (k:=k) (by rw[A.out,Zf j]) J);obtain ⟨x,S⟩:∃x,c.toNat=x:=⟨_,rfl⟩;rw[S] at j;have X:(s[K].toNat:Int)=(x:Int):=(by rw[V,S]);have D:(x:Int)<48\/(¬(x:Int)<48/\57<(x:Int)):=(by omega);clear A U H hK j;rcases D with c1|⟨c1,c2⟩
     ·go_wp2;go_ret;exact ⟨by rw[F.out];rfl,rfl⟩
     ·go_wp2;go_ret;exact ⟨by rw[F.out];rfl,rfl⟩
   ·obtain rfl:k=width:=(by omega);have F:Hid (R=some m):=(by show _=_;rw[<-Z.out];exact U.out);go_wp2;go_ret;exact ⟨by rw[F.out];rfl,rfl⟩
 ·have F:R=none:=by rw[<-G];exact U3 (by rw[Zn];omega) Y
  subst F;have a1:¬(a:Int)<0:=by omega
  have a2:(s.size:Int) - (a:Int)<(width:Int):=by omega
  clear G;go_enter func131,ntmps131;go_wp2;go_ret;exact ⟨rfl,rfl⟩
end
section
set_option linter.unusedSimpArgs false
theorem Ka (l:List UInt8) (a:Nat) (j:sepP l a 90 122=false):offP l a=match numP l (a+1) 2,numP l (a+4) 2 with
 |some h,some m=>if (sepP l a 43 45 && sepP l (a+3) 58 58)=true/\h<=23/\m<=59/\l.length=a+6 then some (if sepP l a 45 45 then -((h*3600+m*60:Nat):Int) else ((h*3600+m*60:Nat):Int)) else none
 |_,_=>none:=by
 unfold offP;rw[j];rfl
theorem Zbd {l:List UInt8} {a:Nat} (A:sepP l a 90 122=false) (h:sepP l a 43 45=false\/oi (numP l (a+1) 2)<0\/23<oi (numP l (a+1) 2)\/sepP l (a+3) 58 58=false\/oi (numP l (a+4) 2)<0\/59<oi (numP l (a+4) 2)\/l.length≠a+6):offP l a=none:=by
 rw[Ka l a A];cases h1:numP l (a+1) 2 with
 |none=>rfl
 |some x=>
  cases h2:numP l (a+4) 2 with
  |none=>rfl
  |some m=>
   rw[h1,h2] at h;simp only[oi] at h;simp only;rw[Zf];rintro ⟨j,F,D,C⟩;rw[ZU] at j;rcases h with h|h|h|h|h|h|h
   ·rw[j.1] at h;cases h
   ·omega
   ·omega
   ·rw[j.2] at h;cases h
   ·omega
   ·omega
   ·exact h C
theorem V5 (s:ByteArray) (a:Nat) (w:World) (Z:s.size<=16777216) (ha:a<=16777216):
 Calls prog 132 #[.string s,.int .i64 (a:Nat)] w λe w'=>e= .returned (match offP s.data.toList a with|some x=> .tuple #[.int .i64 x,.bool true]|none=> .tuple #[.int .i64 0,.bool false])/\w'=w:=by
 have O:=gd (λw'=>XX s a 90 122 w' Z (by omega) (by omega) (by omega));obtain ⟨R,G⟩:∃K,a+1=K:=⟨_,rfl⟩;obtain ⟨K3,H⟩:∃K,a+3=K:=⟨_,rfl⟩;obtain ⟨K4,I⟩:∃K,a+4=K:=⟨_,rfl⟩;obtain ⟨K6,Q⟩:∃K,a+6=K:=⟨_,rfl⟩;have k1:(a:Int)+1=(R:Int):=by omega
 have k3:(a:Int)+3=(K3:Int):=by omega
 have k4:(a:Int)+4=(K4:Int):=by omega
 have k6:(a:Int)+6=(K6:Int):=by omega
 have he:(a:Int)<=16777216:=by omega
 cases h0:sepP s.data.toList a 90 122 with
 |true=>
  rw[h0] at O;have C:offP s.data.toList a=if s.size=a+1 then some 0 else none:=by unfold offP;rw[h0,Zn];rfl
  by_cases hl:s.size=a+1
  ·rw[Zi hl] at C;rw[C];have q1:(s.size:Int)=(R:Int):=(by omega);clear C h0;go_enter func132,ntmps132
   go_wp2_with (first|(go_at_call 129;(have j:=O.out w);(with_reducible refine Za j ?_);clear j;rintro e w1 ⟨rfl,rfl⟩))
   go_ret2
   exact ⟨by simp,rfl⟩
  ·rw[Zf hl] at C;rw[C];have q1:¬(s.size:Int)=(R:Int):=(by omega);clear C h0;go_enter func132,ntmps132
   go_wp2_with (first|(go_at_call 129;(have j:=O.out w);(with_reducible refine Za j ?_);clear j;rintro e w1 ⟨rfl,rfl⟩))
   go_ret2
   exact ⟨by simp_all,rfl⟩
 |false=>
  rw[h0] at O;have H1:=gd (λw'=>XX s a 43 45 w' Z (by omega) (by omega) (by omega));have H3:=gd (λw'=>XX s K3 58 58 w' Z (by omega) (by omega) (by omega));have D:=gd (λw'=>YX s R 2 w' Z (by omega) (by omega) (by omega));have F:=gd (λw'=>YX s K4 2 w' Z (by omega) (by omega) (by omega));by_cases A:sepP s.data.toList a 43 45=false\/oi (numP s.data.toList (a+1) 2)<0\/23<oi (numP s.data.toList (a+1) 2)\/sepP s.data.toList (a+3) 58 58=false\/oi (numP s.data.toList (a+4) 2)<0\/59<oi (numP s.data.toList (a+4) 2)\/s.data.toList.length≠a+6
  ·rw[Zbd h0 A];rw[G,H,I,Q,Zn] at A;generalize oi (numP s.data.toList R 2)=X at*;generalize oi (numP s.data.toList K4 2)=Y at*;generalize sepP s.data.toList a 43 45=p1 at*;generalize sepP s.data.toList K3 58 58=p3 at*;have hc:p1=false\/(p1=true/\X<0)\/(∃x:Nat,X=x/\p1=true/\23<(x:Int))\/(∃x:Nat,X=x/\p1=true/\¬23<(x:Int)/\p3=false)\/(∃x:Nat,X=x/\p1=true/\¬23<(x:Int)/\p3=true/\Y<0)\/(∃x y:Nat,X=x/\Y=y/\p1=true/\¬23<(x:Int)/\p3=true/\59<(y:Int))\/(∃x y:Nat,X=x/\Y=y/\p1=true/\¬23<(x:Int)/\p3=true/\¬59<(y:Int)/\((s.size:Int) !=(K6:Int))=true):=by
    cases p1 with
    |false=>exact Or.inl rfl
    |true=>
     refine Or.inr ?_;rcases (by omega:X<0\/0<=X) with h1|h1
     ·exact Or.inl ⟨rfl,h1⟩
     ·obtain ⟨x,rfl⟩:=Int.eq_ofNat_of_zero_le h1;refine Or.inr ?_;by_cases U:23<(x:Int)
      ·exact Or.inl ⟨x,rfl,rfl,U⟩
      ·cases p3 with
       |false=>exact Or.inr (Or.inl ⟨x,rfl,rfl,U,rfl⟩)
       |true=>
        refine Or.inr (Or.inr ?_);rcases (by omega:Y<0\/0<=Y) with h3|h3
        ·exact Or.inl ⟨x,rfl,rfl,U,rfl,h3⟩
        ·obtain ⟨y,rfl⟩:=Int.eq_ofNat_of_zero_le h3;by_cases h4:59<(y:Int)
         ·exact Or.inr (Or.inl ⟨x,y,rfl,rfl,rfl,U,rfl,h4⟩)
         ·refine Or.inr (Or.inr ⟨x,y,rfl,rfl,rfl,U,rfl,h4,?_⟩);simp at A|-;omega
   clear A h0 G H I Q;go_enter func132,ntmps132;rcases hc with rfl|⟨rfl,c1⟩|⟨x,rfl,rfl,c2⟩|⟨x,rfl,rfl,c2,rfl⟩|⟨x,rfl,rfl,c2,rfl,c3⟩|⟨x,y,rfl,rfl,rfl,c2,rfl,c4⟩|⟨x,y,rfl,rfl,rfl,c2,rfl,c4,c5⟩
   all_goals go_wp2_with (first|(go_at_call 129;(have j:=O.out w);(with_reducible refine Za j ?_);clear j;rintro e w1 ⟨rfl,rfl⟩)|(go_at_call 129;(have j:=H1.out w3);(with_reducible refine Za j ?_);clear j;rintro e w4 ⟨rfl,rfl⟩)|(go_at_call 129;(have j:=H3.out w4);(with_reducible refine Za j ?_);clear j;rintro e w5 ⟨rfl,rfl⟩)|(go_at_call 131;(have j:=D.out w1);(with_reducible refine Za j ?_);clear j;rintro e w2 ⟨rfl,rfl⟩)|(go_at_call 131;(have j:=F.out w2);(with_reducible refine Za j ?_);clear j;rintro e w3 ⟨rfl,rfl⟩))
   all_goals go_ret2
   all_goals exact ⟨rfl,rfl⟩
  ·obtain ⟨x,hx⟩:∃x,numP s.data.toList (a+1) 2=some x:=by
    cases h:numP s.data.toList (a+1) 2 with
    |none=>exact absurd (Or.inr (Or.inl (by rw[h];decide))) A
    |some x=>exact ⟨x,rfl⟩
   obtain ⟨y,hy⟩:∃y,numP s.data.toList (a+4) 2=some y:=by
    cases h:numP s.data.toList (a+4) 2 with
    |none=>exact absurd (Or.inr (Or.inr (Or.inr (Or.inr (Or.inl (by rw[h];decide)))))) A
    |some x=>exact ⟨x,rfl⟩
   rw[hx,hy] at A;simp only[oi,not_or] at A;obtain ⟨S,g2,g3,g4,g5,g6,g7⟩:=A;have S:sepP s.data.toList a 43 45=true:=(by simpa using S);have g4:sepP s.data.toList (a+3) 58 58=true:=(by simpa using g4);have g7:s.data.toList.length=a+6:=(by omega);have J:a<s.data.toList.length:=(by omega);have C:=Ka s.data.toList a h0;have V:=VP 45 45 J;have hb:s.data.toList[a]=s[a]'(by rw[Zn] at J;exact J):=rfl;rw[hx,hy] at C;simp only[S,g4] at C;rw[Zi ⟨rfl,by omega,by omega,g7⟩,V,hb] at C;rw[C];rw[G] at hx;rw[I] at hy;rw[H] at g4;rw[hx] at D;rw[hy] at F;rw[S] at H1;rw[g4] at H3;simp only[oi] at D F;rw[Zn] at g7 J;have q6:(s.size:Int)=(K6:Int):=(by omega);have c1:¬(x:Int)<0:=(by omega);have c2:¬23<(x:Int):=(by omega);have c3:¬(y:Int)<0:=(by omega);have c4:¬59<(y:Int):=(by omega);have b2:(0:Int)<=(a:Int):=(by omega);have b3:(a:Int)<(s.size:Int):=(by omega);obtain ⟨c,hc⟩:∃c,s[a].toNat=c:=⟨_,rfl⟩;rw[hc];have hf:(s[a].toNat:Int)=(c:Int):=(by rw[hc]);clear C V hb hx hy S g2 g3 g4 g5 g6 h0 G H I Q;by_cases h5:c=45
   ·have e:(decide (c=45)||decide (c=45))=true:=(by simp[h5]);rw[e];subst h5;clear e;go_enter func132,ntmps132
    go_wp2_with (first|(go_at_call 129;(have j:=O.out w);(with_reducible refine Za j ?_);clear j;rintro e w1 ⟨rfl,rfl⟩)|(go_at_call 129;(have j:=H1.out w3);(with_reducible refine Za j ?_);clear j;rintro e w4 ⟨rfl,rfl⟩)|(go_at_call 129;(have j:=H3.out w4);(with_reducible refine Za j ?_);clear j;rintro e w5 ⟨rfl,rfl⟩)|(go_at_call 131;(have j:=D.out w1);(with_reducible refine Za j ?_);clear j;rintro e w2 ⟨rfl,rfl⟩)|(go_at_call 131;(have j:=F.out w2);(with_reducible refine Za j ?_);clear j;rintro e w3 ⟨rfl,rfl⟩))
    go_ret2
    exact ⟨by refine Zo (λt=>Ending.returned (.tuple #[.int .i64 t,.bool true])) ?_;show -((x:Int)*3600+(y:Int)*60)=_;first|rfl|omega,rfl⟩
   ·have e:(decide (c=45)||decide (c=45))=false:=(by simp[h5]);have hd:¬(c:Int)=45:=(by omega);rw[e];clear e;go_enter func132,ntmps132
    go_wp2_with (first|(go_at_call 129;(have j:=O.out w);(with_reducible refine Za j ?_);clear j;rintro e w1 ⟨rfl,rfl⟩)|(go_at_call 129;(have j:=H1.out w3);(with_reducible refine Za j ?_);clear j;rintro e w4 ⟨rfl,rfl⟩)|(go_at_call 129;(have j:=H3.out w4);(with_reducible refine Za j ?_);clear j;rintro e w5 ⟨rfl,rfl⟩)|(go_at_call 131;(have j:=D.out w1);(with_reducible refine Za j ?_);clear j;rintro e w2 ⟨rfl,rfl⟩)|(go_at_call 131;(have j:=F.out w2);(with_reducible refine Za j ?_);clear j;rintro e w3 ⟨rfl,rfl⟩))
    go_ret2
    exact ⟨by refine Zo (λt=>Ending.returned (.tuple #[.int .i64 t,.bool true])) ?_;show (x:Int)*3600+(y:Int)*60=_;first|rfl|omega,rfl⟩
end
section
set_option linter.unusedSimpArgs false
theorem Ze0 (n:Int) (w:World) (j:Env w) (h:i64ok n):
 Calls prog 140 #[.int .i64 n] w λe w'=>e= .returned (.string (itoaS n))/\Ext w w':=by
 refine (strconv_Itoa n h.1 h.2 w j.pow).mono ?_;rintro e w' ⟨rfl,k,os,rfl⟩;exact ⟨rfl,Lib.below_grow _ w (Zd _) k os⟩
def padZ (width n:Nat):List UInt8:=List.replicate (width - (Lib.decDigits n).length) 48++Lib.decDigits n
theorem Zha {n:Nat} (h:n<10):UInt8.ofNat (48+n)=dg n:=by unfold dg;rw[Nat.mod_eq_of_lt h]
theorem ZgB {n:Nat} (h:n<10):Lib.decDigits n= [dg n]:=by rw[QK n h,Zha h]
theorem ZgC {n:Nat} (h:10<=n) (j:n<100):Lib.decDigits n= [dg (n / 10),dg n]:=by rw[UY n (by omega),ZgB (show n / 10<10 by omega)];rfl
theorem Zg8 {n:Nat} (h:100<=n) (j:n<1000):Lib.decDigits n= [dg (n / 100),dg (n / 10),dg n]:=by
 rw[UY n (by omega),ZgC (show 10<=n / 10 by omega) (by omega),Nat.div_div_eq_div_mul];rfl
theorem Zhl {n:Nat} (h:1000<=n) (j:n<10000):Lib.decDigits n= [dg (n / 1000),dg (n / 100),dg (n / 10),dg n]:=by
 rw[UY n (by omega),Zg8 (show 100<=n / 10 by omega) (by omega),Nat.div_div_eq_div_mul,Nat.div_div_eq_div_mul];rfl
theorem UX {n:Nat} (h:n=0):dg n=48:=by subst h;rfl
theorem ZgU {n:Nat} (h:n<100):padZ 2 n=pad2 n/\(Lib.decDigits n).length<=2:=by
 unfold padZ pad2;by_cases j:n<10
 ·rw[ZgB j,UX (show n / 10=0 by omega)];exact ⟨rfl,by simp⟩
 ·rw[ZgC (by omega) h];exact ⟨rfl,by simp⟩
theorem ZgV {n:Nat} (h:n<10000):padZ 4 n=pad4 n/\(Lib.decDigits n).length<=4:=by
 unfold padZ pad4;by_cases j:n<10
 ·rw[ZgB j,UX (show n / 10=0 by omega),UX (show n / 100=0 by omega),UX (show n / 1000=0 by omega)];exact ⟨rfl,by simp⟩
 ·by_cases A:n<100
  ·rw[ZgC (by omega) A,UX (show n / 100=0 by omega),UX (show n / 1000=0 by omega)];exact ⟨rfl,by simp⟩
  ·by_cases C:n<1000
   ·rw[Zg8 (by omega) C,UX (show n / 1000=0 by omega)];exact ⟨rfl,by simp⟩
   ·rw[Zhl (by omega) h];exact ⟨rfl,by simp⟩
def OB (w:World) (B:Nat) (v:Value) (l:List UInt8):Prop:=w.ownsRow B 5 1 v l.length (Lib.byteCells l)
theorem OB.of {w:World} {B n:Nat} {v:Value} {xs:List Value} {l:List UInt8} (h:w.ownsRow B 5 1 v n xs) (j:xs=Lib.byteCells l):OB w B v l:=by
 subst j;have:=h.1;rw[Yt,Nat.mul_one] at this;subst this;exact h
theorem OB.ext {w w':World} {B:Nat} {v:Value} {l:List UInt8} (h:OB w B v l) (j:Ext w w'):OB w' B v l:=Yw h j
theorem Ze1 (n:Nat):itoaS (n:Nat)=str (Lib.decDigits n):=by
 unfold itoaS Lib.itoa;rw[Zf (by omega)];rfl
theorem ZcS (b:World) (B:Nat) (hb:b.heap.size<=B) (hE:Env b) (v:Value) (l:List UInt8) (n width:Nat) (w:World) (hx:Ext b w) (hB:B<=w.heap.size) (ho:OB w B v l) (hl:l.length<=1000) (hn:n<10000) (hw:(Lib.decDigits n).length<=width) (hg:width<=4):
 Calls prog 96 #[v,.int .i64 (n:Nat),.int .i64 (width:Nat)] w λe w'=>∃v',e= .returned v'/\OB w' B v' (l++padZ width n)/\Ext b w':=by
 obtain ⟨i0,R,V,X,Y⟩:=Yr UI;have HI:=gd (λw' (h:Ext b w')=>Ze0 (n:Nat) w' (hE.ext h) ⟨by omega,by omega⟩);rw[Ze1] at HI;obtain ⟨D,hD⟩:∃D,Lib.decDigits n=D:=⟨_,rfl⟩;have S:Hid (padZ width n=List.replicate (width - D.length) 48++D):=by show _=_;unfold padZ;rw[hD]
 rw[hD] at HI hw;have I:(str D).size=D.length:=by simp[str,ByteArray.size]
 have hf:((str D).size:Int)=(D.length:Int):=by rw[I]
 obtain ⟨z,hz⟩:∃z,width - D.length=z:=⟨_,rfl⟩;have Z:(width:Int) - (D.length:Int)=(z:Int):=by omega
 rw[hz] at S;have hh:z<=4:=by omega
 have hd:D.length<=4:=by omega
 have Q:=gd Z;clear hD hz Z hw;go_enter func96,ntmps96
 go_wp2_with (first|(go_at_call 140;(with_reducible refine Za (HI.out _ hx) ?_);rintro e w1 ⟨rfl,J⟩))
 go_loopw [0,14] (λv i wr=>∃k:Nat,k<=z/\i= .int .i64 (k:Nat)/\OB wr B v (l++List.replicate k 48)/\B<=wr.heap.size/\Ext b wr) (λ_ i _=>z - (intOf i).toNat)
 case atStart=>exact ⟨0,by omega,rfl,by simpa using ho.ext J,Zl hB J.size,hx.trans J⟩
 case round=>
  obtain ⟨k,hk,rfl,C,G,U⟩:=hrel;have he:(l++List.replicate k 48).length<=1004:=by simp;omega
  by_cases hc:k<z
  ·have b1:(k:Int)<(width:Int) - (D.length:Int):=by have:=Q.out;omega
   go_wp2_with (at_builtin;refine Zq _ rfl (.tmp 16) (.tmp 17) _ rfl B 5 i0 _ 1 1 underlying115 R V X Y rfl (by omega) _ _ _ rfl (C.ext ((Ext.refl wr).alloc _)) _ 1 _ rfl (ZY (cs:= [.int .u8 48]) (by simp) (by unfold maxLen;omega)) (by intro y hy;simp at hy;subst hy;rfl) (by unfold maxLen;omega) (by omega) (Zl G ((Ext.refl wr).alloc _).size) ?_;intro v1 w2 j A F)
   have K:Ext b w2:=(U.alloc _).app A (C.ext ((Ext.refl wr).alloc _)) hb;have ha:B<=w2.heap.size:=Zl (Zl G ((Ext.refl wr).alloc (.cells #[.int .u8 48] 5)).size) A.size;have H:OB w2 B v1 (l++List.replicate (k+1) 48):=OB.of j (by rw[List.replicate_succ',<-Yl,ZJ (l++List.replicate k 48) [48]];rfl);clear j A F;go_roundw
   case rel=>exact ⟨k+1,hc,by go_num,H,ha,K⟩
   case measure=>simp[intOf];omega
  ·have b1:¬(k:Int)<(width:Int) - (D.length:Int):=(by have:=Q.out;omega);obtain rfl:k=z:=by omega
   go_wp2_with (at_builtin;refine Lib.wpList_append_own_string _ rfl (.tmp 20) (.tmp 21) _ _ rfl B 5 i0 underlying115 underlying9 R V X Y _ _ _ rfl C (str D) rfl (by rw[I];unfold maxLen;omega) (by rw[I];omega) G ?_;intro v1 w2 j A F)
   have K:Ext b w2:=U.app A C hb;have H:OB w2 B v1 (l++padZ width n):=OB.of j (by rw[S.out,<-Yl,ZJ];simp[Lib.strCells,Lib.byteCells,str]);go_ret;exact ⟨_,rfl,H,K⟩
end
end Go.Proofs.YthlnaldahkgjnaaGreatDoor
