/- Parts of the proof: contracts and plain laws. -/
import Derived.Test.YthlnaldahkgjnaaGreatDoorProg
import Derived.Test.YthlnaldahkgjnaaGreatDoorY02
namespace Go.Proofs.YthlnaldahkgjnaaGreatDoor
open Go Go.RowKit Go.Shelf
set_option linter.unusedVariables false
set_option linter.unusedSimpArgs false
set_option maxRecDepth 100000
set_option maxHeartbeats 16000000
theorem hexGo_step {l:List UInt8} {i k n:Nat} {c:UInt8} (h:hexGo l i k=some n) (hc:l[i+k]? =some c) (hv:hexV c<16):hexGo l i (k+1)=some (n*16+hexV c):=by
 have e:hexGo l i (k+1)=match hexGo l i k,l[i+k]? with
  |some n,some c=>if hexV c<16 then some (n*16+hexV c) else none
  |_,_=>none:=rfl
 rw[e,h,hc]
 exact if_pos hv
theorem hexGo_bad {l:List UInt8} {i k:Nat} {c:UInt8} (hc:l[i+k]? =some c) (hv:¬hexV c<16):hexGo l i (k+1)=none:=by
 have e:hexGo l i (k+1)=match hexGo l i k,l[i+k]? with
  |some n,some c=>if hexV c<16 then some (n*16+hexV c) else none
  |_,_=>none:=rfl
 rw[e,hc]
 cases hexGo l i k with
 |none=>rfl
 |some n=>exact if_neg hv
theorem hexGo_none {l:List UInt8} {i k:Nat} (h:hexGo l i k=none):∀d,hexGo l i (k+d)=none
 |0=>h
 |d+1=>by
  have e:hexGo l i (k+(d+1))=match hexGo l i (k+d),l[i+(k+d)]? with
   |some n,some c=>if hexV c<16 then some (n*16+hexV c) else none
   |_,_=>none:=rfl
  rw[e,hexGo_none h d]
theorem hexGo_fail {l:List UInt8} {i k m:Nat} (h:hexGo l i (k+1)=none) (hm:k<m):hexGo l i m=none:=by
 have:=hexGo_none h (m - (k+1))
 rwa [show k+1+(m - (k+1))=m by omega] at this
theorem hexV_d {c:UInt8} (h:48≤c.toNat∧c.toNat≤57):hexV c=c.toNat - 48:=by unfold hexV;rw[if_pos h]
theorem hexV_l {c:UInt8} (h:97≤c.toNat∧c.toNat≤102):hexV c=c.toNat - 97+10:=by unfold hexV;rw[if_neg (by omega),if_pos h]
theorem hexV_u {c:UInt8} (h:65≤c.toNat∧c.toNat≤70):hexV c=c.toNat - 65+10:=by unfold hexV;rw[if_neg (by omega),if_neg (by omega),if_pos h]
theorem hexV_no {c:UInt8} (h1:¬(48≤c.toNat∧c.toNat≤57)) (h2:¬(97≤c.toNat∧c.toNat≤102)) (h3:¬(65≤c.toNat∧c.toNat≤70)):¬hexV c<16:=by unfold hexV;rw[if_neg h1,if_neg h2,if_neg h3];omega
theorem unit_short {l:List UInt8} {i:Nat} (h:¬i+6≤l.length):unitP l i=none:=by
 cases hu:unitP l i with
 |none=>rfl
 |some n=>exact absurd (unit_lt hu).2 h
def escN (c:Nat):Option Nat:=if c=34∨c=92∨c=47 then some c else if c=98 then some 8 else if c=102 then some 12 else if c=110 then some 10 else if c=114 then some 13 else if c=116 then some 9 else none
theorem u8_iff {c:UInt8} {n:Nat} (hn:n<256):c=UInt8.ofNat n↔c.toNat=n:=by
 constructor
 ·rintro rfl;exact toNat_ofNat hn
 ·intro h;rw[←h];simp
theorem seqP_at {l:List UInt8} {i:Nat} {c:UInt8} (hc:l[i+1]? =some c):seqP l i=match escN c.toNat with
 |some r=>some (r,2)
 |none=>match unitP l i with
  |none=>none
  |some n=>if 55296≤n∧n≤56319 then (match unitP l (i+6) with
   |some m=>if 56320≤m∧m≤57343 then some (65536+(n - 55296)*1024+m - 56320,12) else none
   |none=>none)
   else if 56320≤n∧n≤57343 then none else some (n,6):=by
 have e:∀n:Nat,n<256→(c=UInt8.ofNat n↔c.toNat=n):=fun n hn=>u8_iff hn
 have h34:=e 34 (by decide)
 have h92:=e 92 (by decide)
 have h47:=e 47 (by decide)
 have h98:=e 98 (by decide)
 have h102:=e 102 (by decide)
 have h110:=e 110 (by decide)
 have h114:=e 114 (by decide)
 have h116:=e 116 (by decide)
 have g34:(UInt8.ofNat 34)=34:=rfl
 have g92:(UInt8.ofNat 92)=92:=rfl
 have g47:(UInt8.ofNat 47)=47:=rfl
 have g98:(UInt8.ofNat 98)=98:=rfl
 have g102:(UInt8.ofNat 102)=102:=rfl
 have g110:(UInt8.ofNat 110)=110:=rfl
 have g114:(UInt8.ofNat 114)=114:=rfl
 have g116:(UInt8.ofNat 116)=116:=rfl
 rw[g34] at h34
 rw[g92] at h92
 rw[g47] at h47
 rw[g98] at h98
 rw[g102] at h102
 rw[g110] at h110
 rw[g114] at h114
 rw[g116] at h116
 unfold seqP escN
 rw[hc]
 simp only[h34,h92,h47,h98,h102,h110,h114,h116]
 by_cases k1:c.toNat=34∨c.toNat=92∨c.toNat=47
 ·rw[if_pos k1,if_pos k1]
 ·rw[if_neg k1,if_neg k1]
  by_cases k2:c.toNat=98
  ·rw[if_pos k2,if_pos k2]
  ·rw[if_neg k2,if_neg k2]
   by_cases k3:c.toNat=102
   ·rw[if_pos k3,if_pos k3]
   ·rw[if_neg k3,if_neg k3]
    by_cases k4:c.toNat=110
    ·rw[if_pos k4,if_pos k4]
    ·rw[if_neg k4,if_neg k4]
     by_cases k5:c.toNat=114
     ·rw[if_pos k5,if_pos k5]
     ·rw[if_neg k5,if_neg k5]
      by_cases k6:c.toNat=116
      ·rw[if_pos k6,if_pos k6]
      ·rw[if_neg k6,if_neg k6]
       rfl
theorem seqP_end {l:List UInt8} {i:Nat} (h:l.length≤i+1):seqP l i=none:=by
 unfold seqP
 rw[List.getElem?_eq_none h]
inductive StrS where
 |bad
 |done (out:List UInt8) (to_:Nat)
 |next (i:Nat) (out:List UInt8)
def strS (l:List UInt8) (i:Nat) (out:List UInt8):StrS:=
 if (dec (l.drop i)).2=0 then .bad
 else if (dec (l.drop i)).1<32 then .bad
 else if (dec (l.drop i)).1=34 then .done out (i+1)
 else if (dec (l.drop i)).1=92 then (match seqP l i with
  |some (r,n)=> .next (i+n) (out++encN r)
  |none=> .bad)
 else .next (i+(dec (l.drop i)).2) (out++encN (dec (l.drop i)).1)
theorem strGo_bad {l:List UInt8} {k i:Nat} {out:List UInt8} (h:strS l i out= .bad):strGo l k i out=none:=by
 cases k with
 |zero=>rfl
 |succ k=>
  unfold strS at h
  unfold strGo
  split at h
  ·rename_i h1;rw[if_pos h1]
  ·rename_i h1
   rw[if_neg h1]
   split at h
   ·rename_i h2;rw[if_pos h2]
   ·rename_i h2
    rw[if_neg h2]
    split at h
    ·cases h
    ·rename_i h3
     rw[if_neg h3]
     split at h
     ·rename_i h4
      rw[if_pos h4]
      cases hs:seqP l i with
      |none=>rfl
      |some p=>rw[hs] at h;cases h
     ·cases h
theorem strGo_done {l:List UInt8} {k i to_:Nat} {out u:List UInt8} (h:strS l i out= .done u to_):strGo l (k+1) i out=some (u,to_):=by
 unfold strS at h
 unfold strGo
 split at h
 ·cases h
 ·rename_i h1
  rw[if_neg h1]
  split at h
  ·cases h
  ·rename_i h2
   rw[if_neg h2]
   split at h
   ·rename_i h3;rw[if_pos h3];injection h with a b;rw[a,b]
   ·split at h
    ·split at h<;>cases h
    ·cases h
theorem strGo_next {l:List UInt8} {k i j:Nat} {out u:List UInt8} (h:strS l i out= .next j u):strGo l (k+1) i out=strGo l k j u:=by
 unfold strS at h
 have e:strGo l (k+1) i out=if (dec (l.drop i)).2=0 then none
  else if (dec (l.drop i)).1<32 then none
  else if (dec (l.drop i)).1=34 then some (out,i+1)
  else if (dec (l.drop i)).1=92 then (match seqP l i with
   |some (r,n)=>strGo l k (i+n) (out++encN r)
   |none=>none)
  else strGo l k (i+(dec (l.drop i)).2) (out++encN (dec (l.drop i)).1):=rfl
 rw[e]
 split at h
 ·cases h
 ·rename_i h1
  rw[if_neg h1]
  split at h
  ·cases h
  ·rename_i h2
   rw[if_neg h2]
   split at h
   ·cases h
   ·rename_i h3
    rw[if_neg h3]
    split at h
    ·rename_i h4
     rw[if_pos h4]
     cases hs:seqP l i with
     |none=>rw[hs] at h;cases h
     |some p=>
      obtain ⟨r,n⟩:=p
      rw[hs] at h
      injection h with a b
      subst a b
      rfl
    ·rename_i h4
     injection h with a b
     rw[if_neg h4,a,b]
theorem strGo_end {l:List UInt8} {k i:Nat} {out:List UInt8} (h:l.length≤i):strGo l k i out=none:=by
 refine strGo_bad ?_
 unfold strS
 rw[List.drop_of_length_le h]
 rfl
theorem textIsSpace_any (c:Int) (w:World):Calls Tryz.prog 67 #[.int .u8 c] w fun e w'=>e= .returned (.bool (isSp c))∧w=w':=by
 unfold isSp
 go_enter Tryz.func67,Tryz.ntmps67
 go_wp2
 all_goals (go_ret;refine ⟨?_,rfl⟩)
 all_goals (refine congrArg (fun b=>Ending.returned (.bool b)) (Bool.eq_iff_iff.2 ?_);simp at* <;>omega)
theorem refIsSpace_any (c:Int) (w:World):Calls Tryz.prog 113 #[.int .u8 c] w fun e w'=>e= .returned (.bool (isSp c))∧w=w':=by
 unfold isSp
 go_enter Tryz.func113,Tryz.ntmps113
 go_wp2
 all_goals (go_ret;refine ⟨?_,rfl⟩)
 all_goals (refine congrArg (fun b=>Ending.returned (.bool b)) (Bool.eq_iff_iff.2 ?_);simp at* <;>omega)
theorem textIsChar_any (r:Int) (w:World):Calls Tryz.prog 115 #[.int .i32 r] w fun e w'=>e= .returned (.bool (isChar r))∧w=w':=by
 unfold isChar
 go_enter Tryz.func115,Tryz.ntmps115
 go_wp2
 all_goals (go_ret;refine ⟨?_,rfl⟩)
 all_goals (refine congrArg (fun b=>Ending.returned (.bool b)) (Bool.eq_iff_iff.2 ?_);simp at* <;>omega)
theorem refIsChar_any (r:Int) (w:World):Calls Tryz.prog 128 #[.int .i64 r] w fun e w'=>e= .returned (.bool (isChar r))∧w=w':=by
 unfold isChar
 go_enter Tryz.func128,Tryz.ntmps128
 go_wp2
 all_goals (go_ret;refine ⟨?_,rfl⟩)
 all_goals (refine congrArg (fun b=>Ending.returned (.bool b)) (Bool.eq_iff_iff.2 ?_);simp at* <;>omega)
def Tryz.lays103_ren:Go.Shelf.Ren:=⟨fun|103=>45|210=>86|206=>134|n=>n,fun|9=>9|4=>4|24=>38|3=>3|n=>n,fun|n=>n⟩
theorem Tryz.lays103:Go.Proofs.Lays.n103 Tryz.prog Tryz.lays103_ren:={
 mixed:=by kernel_rfl
 f103:=Tryz.func45.trans (congrArg some (by kernel_rfl))
 f206:=Tryz.func134.trans (congrArg some (by kernel_rfl))
 f210:=Tryz.func86.trans (congrArg some (by kernel_rfl))
 t3:=Tryz.underlying3
 a3:=Tryz.isAgg3
 z3:=Tryz.sizeOf3
 v3:=Tryz.zeroValue3
 t4:=Tryz.underlying4
 a4:=Tryz.isAgg4
 z4:=Tryz.sizeOf4
 v4:=Tryz.zeroValue4
 t9:=Tryz.underlying9
 a9:=Tryz.isAgg9
 z9:=Tryz.sizeOf9
 v9:=Tryz.zeroValue9
 t24:=Tryz.underlying38
 a24:=Tryz.isAgg38
 z24:=Tryz.sizeOf38
 v24:=Tryz.zeroValue38}
open Go.RowKit in
theorem Tryz.strings_CutPrefix (s p:ByteArray) (w:World):
 Calls Tryz.prog 45 #[.string s,.string p] w fun e w'=>e= .returned (.tuple #[.string ⟨(Lib.trimPrefix s.data.toList p.data.toList).toArray⟩,.bool (Lib.hasPrefix s.data.toList p.data.toList)])∧w'=w:=Any.strings_CutPrefix Tryz.lays103 s p w
def Tryz.lays104_ren:Go.Shelf.Ren:=⟨fun|104=>98|211=>141|207=>176|n=>n,fun|9=>9|4=>4|24=>38|3=>3|n=>n,fun|n=>n⟩
theorem Tryz.lays104:Go.Proofs.Lays.n104 Tryz.prog Tryz.lays104_ren:={
 mixed:=by kernel_rfl
 f104:=Tryz.func98.trans (congrArg some (by kernel_rfl))
 f207:=Tryz.func176.trans (congrArg some (by kernel_rfl))
 f211:=Tryz.func141.trans (congrArg some (by kernel_rfl))
 t3:=Tryz.underlying3
 a3:=Tryz.isAgg3
 z3:=Tryz.sizeOf3
 v3:=Tryz.zeroValue3
 t4:=Tryz.underlying4
 a4:=Tryz.isAgg4
 z4:=Tryz.sizeOf4
 v4:=Tryz.zeroValue4
 t9:=Tryz.underlying9
 a9:=Tryz.isAgg9
 z9:=Tryz.sizeOf9
 v9:=Tryz.zeroValue9
 t24:=Tryz.underlying38
 a24:=Tryz.isAgg38
 z24:=Tryz.sizeOf38
 v24:=Tryz.zeroValue38}
open Go.RowKit in
theorem Tryz.strings_CutSuffix (s p:ByteArray) (w:World) (hs:s.size≤9223372036854775807):
 Calls Tryz.prog 98 #[.string s,.string p] w fun e w'=>e= .returned (.tuple #[.string ⟨(Lib.trimSuffix s.data.toList p.data.toList).toArray⟩,.bool (Lib.hasSuffix s.data.toList p.data.toList)])∧w'=w:=Any.strings_CutSuffix Tryz.lays104 s p w hs
def Tryz.laysM171_ren:Go.Shelf.Ren:=⟨fun|171=>140|243=>175|246=>121|283=>161|284=>162|285=>163|286=>164|129=>186|317=>185|318=>187|319=>188|320=>189|337=>206|338=>207|n=>n,fun|3=>3|9=>9|2=>2|4=>4|171=>214|0=>0|53=>209|37=>115|5=>5|173=>217|212=>231|51=>232|20=>20|213=>233|46=>225|232=>260|233=>261|n=>n,fun|17=>0|18=>4|19=>5|n=>n⟩
theorem Tryz.laysM171:Go.Proofs.LaysM.n171 Tryz.prog Tryz.laysM171_ren:={
 mixed:=by kernel_rfl
 f129:=Tryz.func186.trans (congrArg some (by kernel_rfl))
 f171:=Tryz.func140.trans (congrArg some (by kernel_rfl))
 f243:=Tryz.func175.trans (congrArg some (by kernel_rfl))
 f246:=Tryz.func121.trans (congrArg some (by kernel_rfl))
 f283:=Tryz.func161.trans (congrArg some (by kernel_rfl))
 f284:=Tryz.func162.trans (congrArg some (by kernel_rfl))
 f285:=Tryz.func163.trans (congrArg some (by kernel_rfl))
 f286:=Tryz.func164.trans (congrArg some (by kernel_rfl))
 f317:=Tryz.func185.trans (congrArg some (by kernel_rfl))
 f318:=Tryz.func187.trans (congrArg some (by kernel_rfl))
 f319:=Tryz.func188.trans (congrArg some (by kernel_rfl))
 f320:=Tryz.func189.trans (congrArg some (by kernel_rfl))
 f337:=Tryz.func206.trans (congrArg some (by kernel_rfl))
 f338:=Tryz.func207.trans (congrArg some (by kernel_rfl))
 t0:=Tryz.underlying0
 a0:=Tryz.isAgg0
 z0:=Tryz.sizeOf0
 v0:=Tryz.zeroValue0
 t2:=Tryz.underlying2
 a2:=Tryz.isAgg2
 z2:=Tryz.sizeOf2
 v2:=Tryz.zeroValue2
 t3:=Tryz.underlying3
 a3:=Tryz.isAgg3
 z3:=Tryz.sizeOf3
 v3:=Tryz.zeroValue3
 t4:=Tryz.underlying4
 a4:=Tryz.isAgg4
 z4:=Tryz.sizeOf4
 v4:=Tryz.zeroValue4
 t5:=Tryz.underlying5
 a5:=Tryz.isAgg5
 z5:=Tryz.sizeOf5
 v5:=Tryz.zeroValue5
 t9:=Tryz.underlying9
 a9:=Tryz.isAgg9
 z9:=Tryz.sizeOf9
 v9:=Tryz.zeroValue9
 t20:=Tryz.underlying20
 a20:=Tryz.isAgg20
 z20:=Tryz.sizeOf20
 v20:=Tryz.zeroValue20
 t37:=Tryz.underlying115
 a37:=Tryz.isAgg115
 z37:=Tryz.sizeOf115
 v37:=Tryz.zeroValue115
 t46:=Tryz.underlying225
 a46:=Tryz.isAgg225
 z46:=Tryz.sizeOf225
 v46:=Tryz.zeroValue225
 t51:=Tryz.underlying232
 a51:=Tryz.isAgg232
 z51:=Tryz.sizeOf232
 v51:=Tryz.zeroValue232
 t53:=Tryz.underlying209
 a53:=Tryz.isAgg209
 z53:=Tryz.sizeOf209
 v53:=Tryz.zeroValue209
 t171:=Tryz.underlying214
 a171:=Tryz.isAgg214
 z171:=Tryz.sizeOf214
 v171:=Tryz.zeroValue214
 t173:=Tryz.underlying217
 a173:=Tryz.isAgg217
 z173:=Tryz.sizeOf217
 v173:=Tryz.zeroValue217
 t212:=Tryz.underlying231
 a212:=Tryz.isAgg231
 z212:=Tryz.sizeOf231
 v212:=Tryz.zeroValue231
 t213:=Tryz.underlying233
 a213:=Tryz.isAgg233
 z213:=Tryz.sizeOf233
 t232:=Tryz.underlying260
 a232:=Tryz.isAgg260
 z232:=Tryz.sizeOf260
 v232:=Tryz.zeroValue260
 t233:=Tryz.underlying261
 a233:=Tryz.isAgg261
 z233:=Tryz.sizeOf261
 v233:=Tryz.zeroValue261
 g17:=by kernel_rfl
 g18:=by kernel_rfl
 g19:=by kernel_rfl
 i0:=by kernel_rfl
 i2:=by kernel_rfl
 i3:=by kernel_rfl
 i4:=by kernel_rfl
 i5:=by kernel_rfl
 i9:=by kernel_rfl
 i20:=by kernel_rfl
 i37:=by kernel_rfl
 i46:=by kernel_rfl
 i51:=by kernel_rfl
 i53:=by kernel_rfl
 i171:=by kernel_rfl
 i173:=by kernel_rfl
 i212:=by kernel_rfl
 i232:=by kernel_rfl
 i233:=by kernel_rfl
 m17:=by kernel_rfl
 m18:=by kernel_rfl
 m19:=by kernel_rfl}
open Go.RowKit Go.Sort Go.Lib in
theorem Tryz.strconv_Itoa (n : Int) (h0 : -9223372036854775808 ≤ n) (h1 : n ≤ 9223372036854775807) (w : World) (htab : Lib.TabIs Tryz.prog w "internal/strconv.uint64pow10" .u64 Lib.pow10Tab) :
 Calls Tryz.prog 140 #[.int .i64 n] w fun e w'=>e= .returned (.string ⟨(Lib.itoa n).toArray⟩)∧∃k os,w'=grow (w.drewN k) os:=Any.strconv_Itoa Tryz.laysM171 n h0 h1 w htab
def Tryz.laysM173_ren:Go.Shelf.Ren:=⟨fun|173=>72|246=>121|283=>161|284=>162|285=>163|286=>164|129=>186|317=>185|318=>187|319=>188|320=>189|337=>206|338=>207|n=>n,fun|2=>2|3=>3|9=>9|4=>4|171=>214|0=>0|53=>209|37=>115|5=>5|173=>217|212=>231|51=>232|20=>20|213=>233|46=>225|232=>260|233=>261|n=>n,fun|17=>0|18=>4|19=>5|n=>n⟩
theorem Tryz.laysM173:Go.Proofs.LaysM.n173 Tryz.prog Tryz.laysM173_ren:={
 mixed:=by kernel_rfl
 f129:=Tryz.func186.trans (congrArg some (by kernel_rfl))
 f173:=Tryz.func72.trans (congrArg some (by kernel_rfl))
 f246:=Tryz.func121.trans (congrArg some (by kernel_rfl))
 f283:=Tryz.func161.trans (congrArg some (by kernel_rfl))
 f284:=Tryz.func162.trans (congrArg some (by kernel_rfl))
 f285:=Tryz.func163.trans (congrArg some (by kernel_rfl))
 f286:=Tryz.func164.trans (congrArg some (by kernel_rfl))
 f317:=Tryz.func185.trans (congrArg some (by kernel_rfl))
 f318:=Tryz.func187.trans (congrArg some (by kernel_rfl))
 f319:=Tryz.func188.trans (congrArg some (by kernel_rfl))
 f320:=Tryz.func189.trans (congrArg some (by kernel_rfl))
 f337:=Tryz.func206.trans (congrArg some (by kernel_rfl))
 f338:=Tryz.func207.trans (congrArg some (by kernel_rfl))
 t0:=Tryz.underlying0
 a0:=Tryz.isAgg0
 z0:=Tryz.sizeOf0
 v0:=Tryz.zeroValue0
 t2:=Tryz.underlying2
 a2:=Tryz.isAgg2
 z2:=Tryz.sizeOf2
 v2:=Tryz.zeroValue2
 t3:=Tryz.underlying3
 a3:=Tryz.isAgg3
 z3:=Tryz.sizeOf3
 v3:=Tryz.zeroValue3
 t4:=Tryz.underlying4
 a4:=Tryz.isAgg4
 z4:=Tryz.sizeOf4
 v4:=Tryz.zeroValue4
 t5:=Tryz.underlying5
 a5:=Tryz.isAgg5
 z5:=Tryz.sizeOf5
 v5:=Tryz.zeroValue5
 t9:=Tryz.underlying9
 a9:=Tryz.isAgg9
 z9:=Tryz.sizeOf9
 v9:=Tryz.zeroValue9
 t20:=Tryz.underlying20
 a20:=Tryz.isAgg20
 z20:=Tryz.sizeOf20
 v20:=Tryz.zeroValue20
 t37:=Tryz.underlying115
 a37:=Tryz.isAgg115
 z37:=Tryz.sizeOf115
 v37:=Tryz.zeroValue115
 t46:=Tryz.underlying225
 a46:=Tryz.isAgg225
 z46:=Tryz.sizeOf225
 v46:=Tryz.zeroValue225
 t51:=Tryz.underlying232
 a51:=Tryz.isAgg232
 z51:=Tryz.sizeOf232
 v51:=Tryz.zeroValue232
 t53:=Tryz.underlying209
 a53:=Tryz.isAgg209
 z53:=Tryz.sizeOf209
 v53:=Tryz.zeroValue209
 t171:=Tryz.underlying214
 a171:=Tryz.isAgg214
 z171:=Tryz.sizeOf214
 v171:=Tryz.zeroValue214
 t173:=Tryz.underlying217
 a173:=Tryz.isAgg217
 z173:=Tryz.sizeOf217
 v173:=Tryz.zeroValue217
 t212:=Tryz.underlying231
 a212:=Tryz.isAgg231
 z212:=Tryz.sizeOf231
 v212:=Tryz.zeroValue231
 t213:=Tryz.underlying233
 a213:=Tryz.isAgg233
 z213:=Tryz.sizeOf233
 t232:=Tryz.underlying260
 a232:=Tryz.isAgg260
 z232:=Tryz.sizeOf260
 v232:=Tryz.zeroValue260
 t233:=Tryz.underlying261
 a233:=Tryz.isAgg261
 z233:=Tryz.sizeOf261
 v233:=Tryz.zeroValue261
 g17:=by kernel_rfl
 g18:=by kernel_rfl
 g19:=by kernel_rfl
 i0:=by kernel_rfl
 i2:=by kernel_rfl
 i3:=by kernel_rfl
 i4:=by kernel_rfl
 i5:=by kernel_rfl
 i9:=by kernel_rfl
 i20:=by kernel_rfl
 i37:=by kernel_rfl
 i46:=by kernel_rfl
 i51:=by kernel_rfl
 i53:=by kernel_rfl
 i171:=by kernel_rfl
 i173:=by kernel_rfl
 i212:=by kernel_rfl
 i232:=by kernel_rfl
 i233:=by kernel_rfl
 m17:=by kernel_rfl
 m18:=by kernel_rfl
 m19:=by kernel_rfl}
open Go.RowKit Go.Sort Go.Lib in
theorem Tryz.strconv_FormatInt_10 (n : Int) (h0 : -9223372036854775808 ≤ n) (h1 : n ≤ 9223372036854775807) (w : World) (htab : Lib.TabIs Tryz.prog w "internal/strconv.uint64pow10" .u64 Lib.pow10Tab) :
 Calls Tryz.prog 72 #[.int .i64 n,.int .i64 10] w fun e w'=>e= .returned (.string ⟨(Lib.itoa n).toArray⟩)∧∃k os,w'=grow (w.drewN k) os:=Any.strconv_FormatInt_10 Tryz.laysM173 n h0 h1 w htab
def Tryz.lays197_ren:Go.Shelf.Ren:=⟨fun|197=>157|260=>184|n=>n,fun|9=>9|21=>21|3=>3|4=>4|5=>5|105=>171|119=>247|0=>0|46=>225|139=>250|138=>249|n=>n,fun|3=>1|4=>2|n=>n⟩
theorem Tryz.lays197:Go.Proofs.Lays.n197 Tryz.prog Tryz.lays197_ren:={
 mixed:=by kernel_rfl
 f197:=Tryz.func157.trans (congrArg some (by kernel_rfl))
 f260:=Tryz.func184.trans (congrArg some (by kernel_rfl))
 t0:=Tryz.underlying0
 a0:=Tryz.isAgg0
 z0:=Tryz.sizeOf0
 v0:=Tryz.zeroValue0
 t3:=Tryz.underlying3
 a3:=Tryz.isAgg3
 z3:=Tryz.sizeOf3
 v3:=Tryz.zeroValue3
 t4:=Tryz.underlying4
 a4:=Tryz.isAgg4
 z4:=Tryz.sizeOf4
 v4:=Tryz.zeroValue4
 t5:=Tryz.underlying5
 a5:=Tryz.isAgg5
 z5:=Tryz.sizeOf5
 v5:=Tryz.zeroValue5
 t9:=Tryz.underlying9
 a9:=Tryz.isAgg9
 z9:=Tryz.sizeOf9
 v9:=Tryz.zeroValue9
 t21:=Tryz.underlying21
 a21:=Tryz.isAgg21
 z21:=Tryz.sizeOf21
 v21:=Tryz.zeroValue21
 t46:=Tryz.underlying225
 a46:=Tryz.isAgg225
 z46:=Tryz.sizeOf225
 v46:=Tryz.zeroValue225
 t105:=Tryz.underlying171
 a105:=Tryz.isAgg171
 z105:=Tryz.sizeOf171
 v105:=Tryz.zeroValue171
 t119:=Tryz.underlying247
 a119:=Tryz.isAgg247
 z119:=Tryz.sizeOf247
 t138:=Tryz.underlying249
 a138:=Tryz.isAgg249
 z138:=Tryz.sizeOf249
 v138:=Tryz.zeroValue249
 t139:=Tryz.underlying250
 a139:=Tryz.isAgg250
 z139:=Tryz.sizeOf250
 v139:=Tryz.zeroValue250
 g3:=by kernel_rfl
 g4:=by kernel_rfl}
open Go.RowKit Go.Lib in
theorem Tryz.utf8_DecodeRuneInString (s:ByteArray) (w:World) (hT:Lib.Utf8Tabs 1 2 w):
 Calls Tryz.prog 157 #[.string s] w fun e w'=>e= .returned (.tuple #[.int .i32 (Lib.decodeGo s).1,.int .i64 (Lib.decodeGo s).2])∧Below w.heap.size w w':=Any.utf8_DecodeRuneInString Tryz.lays197 s w hT
def Tryz.lays110_ren:Go.Shelf.Ren:=⟨fun|110=>75|109=>122|n=>n,fun|31=>29|9=>9|4=>4|3=>3|0=>0|n=>n,fun|n=>n⟩
theorem Tryz.lays110:Go.Proofs.Lays.n110 Tryz.prog Tryz.lays110_ren:={
 mixed:=by kernel_rfl
 f109:=Tryz.func122.trans (congrArg some (by kernel_rfl))
 f110:=Tryz.func75.trans (congrArg some (by kernel_rfl))
 t0:=Tryz.underlying0
 a0:=Tryz.isAgg0
 z0:=Tryz.sizeOf0
 v0:=Tryz.zeroValue0
 t3:=Tryz.underlying3
 a3:=Tryz.isAgg3
 z3:=Tryz.sizeOf3
 v3:=Tryz.zeroValue3
 t4:=Tryz.underlying4
 a4:=Tryz.isAgg4
 z4:=Tryz.sizeOf4
 v4:=Tryz.zeroValue4
 t9:=Tryz.underlying9
 a9:=Tryz.isAgg9
 z9:=Tryz.sizeOf9
 v9:=Tryz.zeroValue9
 t31:=Tryz.underlying29
 a31:=Tryz.isAgg29
 z31:=Tryz.sizeOf29
 v31:=Tryz.zeroValue29}
open Go.Lib in
theorem Tryz.slices_Contains_string (b off n c:Nat) (zs:List ByteArray) (x:ByteArray) (w:World) (hz:n≤zs.length) (hbig:n≤9223372036854775807) (hc:∀j,j<zs.length→w.cell? ⟨b,off+j,none⟩=some (.string (zs.getD j ByteArray.empty))):
 Calls Tryz.prog 75 #[.slice (some ⟨b,off,none⟩) n c,.string x] w fun e w'=>e= .returned (.bool (Lib.containsS (zs.take n) x))∧w'=w:=Any.slices_Contains_string Tryz.lays110 b off n c zs x w hz hbig hc
open Go.Lib in
theorem Tryz.slices_Contains_string_empty (a:Option Addr) (c:Nat) (x:ByteArray) (w:World):
 Calls Tryz.prog 75 #[.slice a 0 c,.string x] w fun e w'=>e= .returned (.bool false)∧w'=w:=Any.slices_Contains_string_empty Tryz.lays110 a c x w
section
section
variable {P:Program} (w:World)
theorem run_append_nil (base:Nat) (t ty e:TypeId) (i:TypeInfo) (size:Nat) (ht:P.underlying t=some (.slice e)) (hi:P.info? e=some i)
 (v:Value) (n:Nat) (xs:List Value) (hown:w.ownsRow base e size v n xs) (c:Nat):(Builtin.append_ #[t,t] ty #[v,.slice none 0 c]).run P w= .ok v w:=by
 rcases hown.2 with ⟨rfl,rfl⟩|⟨g,cap,cur,rfl,_,_,hnc,_⟩
 ·simp[Builtin.append_,run_underlying ht,sizeOf,typeInfo,hi,Builtin.lenOf,Builtin.firstCells]
 ·simp[Builtin.append_,run_underlying ht,sizeOf,typeInfo,hi,Builtin.lenOf,Builtin.firstCells,hnc,storeCells]
theorem run_append_rsl (base:Nat) (t ty e:TypeId) (i:TypeInfo) (z:Value) (size bytes:Nat) (ht:P.underlying t=some (.slice e)) (hi:P.info? e=some i) (hz:i.zero=some z)
 (hsize:i.size=size) (hby:i.bytes=bytes) (hzs:z.cells.size=size) (hsz:0<size)
 (v:Value) (n:Nat) (xs:List Value) (hown:w.ownsRow base e size v n xs)
 (u:Value) (m:Nat) (news:List Value) (hr:RSl w size u m news) (h1:∀y∈news,y.oneCell'=true)
 (h63:n+m≤maxLen) (hbytes:(n+m)*bytes≤140737488355328) (hbase:base≤w.heap.size):
 ∃v' w',(Builtin.append_ #[t,t] ty #[v,u]).run P w= .ok v' w'∧w'.ownsRow base e size v' (n+m) (xs++news)∧w.grownBy w' v.ownBlock∧
  (v'.ownBlock=v.ownBlock∨v'.ownBlock=some w.heap.size):=by
 obtain ⟨hlen,A,c,rfl,hmc,hcm,hA,hcell⟩:=hr
 rcases Nat.eq_zero_or_pos m with h0|h0
 ·subst h0
  have hn:news= []:=List.eq_nil_of_length_eq_zero (by simpa using hlen)
  subst hn
  cases A with
  |none=>exact ⟨v,w,run_append_nil w base t ty e i size ht hi v n xs hown c,by simpa using hown,World.grownBy.refl w _,.inl rfl⟩
  |some ad=>
   obtain ⟨v',w',hrun,h2,h3,_,h5⟩:=run_append_own_at (P:=P) w base t ty e i z size bytes ht hi hz hsize hby hzs hsz v n xs hown ad 0 c [] (by simp) (fun j u hu=>by simp at hu) h1 h63 hbytes hbase
   exact ⟨v',w',hrun,h2,h3,h5⟩
 ·have hl:0<news.length:=by rw[hlen];exact Nat.mul_pos h0 hsz
  obtain ⟨ad,rfl,_⟩:=hcell 0 (news[0]) (List.getElem?_eq_getElem hl)
  have hcells:∀j u,news[j]? =some u→w.cell? (ad.add j)=some u:=by
   intro j u hu
   obtain ⟨ad',h,hc⟩:=hcell j u hu
   injection h with h
   subst h
   exact hc
  obtain ⟨v',w',hrun,h2,h3,_,h5⟩:=run_append_own_at (P:=P) w base t ty e i z size bytes ht hi hz hsize hby hzs hsz v n xs hown ad m c news hlen hcells h1 h63 hbytes hbase
  exact ⟨v',w',hrun,h2,h3,h5⟩
theorem wp_append_rsl {o:Oper} {a:Act} {K:Act→World→Prop} {Q:Exit→Act→World→Prop} (s x:Operand) (t:TypeId)
 (ho:o.op= .call {callee:= .builtin .append,args:=#[s,x],argTypes:=#[t,t]})
 (base:Nat) (e:TypeId) (i:TypeInfo) (z:Value) (size bytes:Nat) (ht:P.underlying t=some (.slice e)) (hi:P.info? e=some i) (hz:i.zero=some z)
 (hsize:i.size=size) (hby:i.bytes=bytes) (hzs:z.cells.size=size) (hsz:0<size)
 (v:Value) (n:Nat) (xs:List Value) (hs:a.eval s=v) (hown:w.ownsRow base e size v n xs)
 (u:Value) (m:Nat) (news:List Value) (hx:a.eval x=u) (hr:RSl w size u m news) (h1:∀y∈news,y.oneCell'=true)
 (h63:n+m≤maxLen) (hbytes:(n+m)*bytes≤140737488355328) (hbase:base≤w.heap.size)
 (h:∀v' w',w'.ownsRow base e size v' (n+m) (xs++news)→w.grownBy w' v.ownBlock→(v'.ownBlock=v.ownBlock∨v'.ownBlock=some w.heap.size)→K (a.put o.dst v') w'):o.wp P a w K Q:=by
 obtain ⟨v',w',hrun,h2,h3,h4⟩:=run_append_rsl (P:=P) w base t o.type e i z size bytes ht hi hz hsize hby hzs hsz v n xs hown u m news hr h1 h63 hbytes hbase
 unfold Oper.wp execOp
 simp only[ho,resolve,invoke,builtin,Sem.run_bind,Sem.run_pure,Result.andThen_ok,List.map_toArray,List.map_cons,List.map_nil,hs,hx,hrun]
 exact h v' w' h2 h3 h4
theorem wpList_append_rsl {ops:Array Oper} {rest:List Oper} {o:Oper} {a:Act} {Q:Exit→Act→World→Prop} (hgd:o.guard=none) (s x:Operand) (t:TypeId)
 (ho:o.op= .call {callee:= .builtin .append,args:=#[s,x],argTypes:=#[t,t]})
 (base:Nat) (e:TypeId) (i:TypeInfo) (z:Value) (size bytes:Nat) (ht:P.underlying t=some (.slice e)) (hi:P.info? e=some i) (hz:i.zero=some z)
 (hsize:i.size=size) (hby:i.bytes=bytes) (hzs:z.cells.size=size) (hsz:0<size)
 (v:Value) (n:Nat) (xs:List Value) (hs:a.eval s=v) (hown:w.ownsRow base e size v n xs)
 (u:Value) (m:Nat) (news:List Value) (hx:a.eval x=u) (hr:RSl w size u m news) (h1:∀y∈news,y.oneCell'=true)
 (h63:n+m≤maxLen) (hbytes:(n+m)*bytes≤140737488355328) (hbase:base≤w.heap.size)
 (h:∀v' w',w'.ownsRow base e size v' (n+m) (xs++news)→w.grownBy w' v.ownBlock→(v'.ownBlock=v.ownBlock∨v'.ownBlock=some w.heap.size)→wpList P ops Q rest (a.put o.dst v') w'):wpList P ops Q (o::rest) a w:=
 wpList_plain hgd fun _ hK=>wp_append_rsl w s x t ho base e i z size bytes ht hi hz hsize hby hzs hsz v n xs hs hown u m news hx hr h1 h63 hbytes hbase fun v' w' h2 h3 h4=>hK _ _ (h v' w' h2 h3 h4)
theorem step_append_rsl {ops:Array Oper} {o:Oper} {a:Act} {K:Act→World→Prop} {Q:Exit→Act→World→Prop} {E:Prop} (hgd:o.guard=none) (s x:Operand) (t:TypeId)
 (ho:o.op= .call {callee:= .builtin .append,args:=#[s,x],argTypes:=#[t,t]})
 (base:Nat) (e:TypeId) (i:TypeInfo) (z:Value) (size bytes:Nat) (ht:P.underlying t=some (.slice e)) (hi:P.info? e=some i) (hz:i.zero=some z)
 (hsize:i.size=size) (hby:i.bytes=bytes) (hzs:z.cells.size=size) (hsz:0<size)
 (v:Value) (n:Nat) (xs:List Value) (hs:a.eval s=v) (hown:w.ownsRow base e size v n xs)
 (u:Value) (m:Nat) (news:List Value) (hx:a.eval x=u) (hr:RSl w size u m news) (h1:∀y∈news,y.oneCell'=true)
 (h63:n+m≤maxLen) (hbytes:(n+m)*bytes≤140737488355328) (hbase:base≤w.heap.size)
 (h:∀v' w',w'.ownsRow base e size v' (n+m) (xs++news)→w.grownBy w' v.ownBlock→(v'.ownBlock=v.ownBlock∨v'.ownBlock=some w.heap.size)→K (a.put o.dst v') w'):
 if Region.wanted o (yielded ops a.tmps)=true then Oper.wp P o a w K Q else E:=by
 have hw:Region.wanted o (yielded ops a.tmps)=true:=by simp[Region.wanted,hgd]
 rw[if_pos hw]
 exact wp_append_rsl w s x t ho base e i z size bytes ht hi hz hsize hby hzs hsz v n xs hs hown u m news hx hr h1 h63 hbytes hbase h
end
theorem Ext.app {a b c:World} {base n size:Nat} {e:TypeId} {v:Value} {xs:List Value} (h:Ext a b) (hg:b.grownBy c v.ownBlock) (ho:b.ownsRow base e size v n xs) (hb:a.heap.size≤base):Ext a c:=
 Below.grown h hg h.size fun k hk=>Nat.le_trans hb (ho.lt k hk).1
theorem rsl_new {w:World} {size n:Nat} {cs:List Value} {e:TypeId} (h:cs.length=n*size) (hm:n≤maxLen):RSl (w.alloc (.cells cs.toArray e)) size (.slice (some ⟨w.heap.size,0,none⟩) n n) n cs:=by
 refine ⟨h,some ⟨w.heap.size,0,none⟩,n,rfl,Nat.le_refl _,hm,(fun h=>by cases h),fun j u hu=>⟨_,rfl,?_⟩⟩
 have hadd:(⟨w.heap.size,0,none⟩:Addr).add j=⟨w.heap.size,j,none⟩:=by unfold Addr.add;split<;>simp_all
 rw[hadd]
 rw[Lib.cell_of_heap (heap_alloc_new w _)]
 simpa using hu
theorem own_new {w:World} {base size n:Nat} {cs:List Value} {e:TypeId} (hb:base≤w.heap.size) (h:cs.length=n*size) (hm:n≤maxLen):(w.alloc (.cells cs.toArray e)).ownsRow base e size (.slice (some ⟨w.heap.size,0,none⟩) n n) n cs:=
 ⟨h,.inr ⟨w.heap.size,n,cs.toArray,rfl,hb,heap_alloc_new w _,Nat.le_refl _,hm,by simpa using h,by rw[←h];simp⟩⟩
theorem info_u8:(Tryz.prog.info? 5).map (fun i=>(i.zero,i.size,i.bytes))=some (some (.int .u8 0),1,1):=by kernel_rfl
end
theorem builder_size:(Tryz.prog.info? 117).map (fun i=>i.size)=some 2:=by kernel_rfl
theorem cells_u8:Tryz.prog.cellsOf 5=1:=by kernel_rfl
structure BT (T:TypeId):Prop where
 lies:liesAt Tryz.prog Tryz.prog.depth T (2 / Tryz.prog.cellsOf T) 0 117 1=true
 ne:T≠5
theorem bt_plain:BT 117:=⟨by kernel_rfl,by decide⟩
theorem bt_writer:BT 161:=⟨by kernel_rfl,by decide⟩
theorem Builder_copyCheck_used {T:TypeId} (hT:BT T) (b:Nat) (w:World) (h0:w.cell? ⟨b,0,none⟩=some (.pointer (some ⟨b,0,none⟩))):
 Calls Tryz.prog 116 #[.pointer (some ⟨b,0,none⟩)] w fun e w'=>e= .returned (.tuple #[])∧w'=w:=by
 obtain ⟨j,hj,_⟩:=Option.map_eq_some_iff.1 builder_size
 go_enter Tryz.func116,Tryz.ntmps116
 go_wp2
 rw[Lib.run_neq_ptr_same w _ Tryz.underlying114 hj]
 go_wp2
 go_end0
 exact ⟨rfl,rfl⟩
theorem Builder_copyCheck_fresh {T:TypeId} (hT:BT T) (b:Nat) (w:World) (h0:w.cell? ⟨b,0,none⟩=some (.pointer none)) (hsh:w.shape? b=some (T,2)) (hfz:w.frozen? ⟨b,0,none⟩=false):
 Calls Tryz.prog 116 #[.pointer (some ⟨b,0,none⟩)] w fun e w'=>e= .returned (.tuple #[])∧w'=w.setCell ⟨b,0,none⟩ (.pointer (some ⟨b,0,none⟩)):=by
 obtain ⟨j,hj,hjs⟩:=Option.map_eq_some_iff.1 builder_size
 go_enter Tryz.func116,Tryz.ntmps116
 go_wp2
 rw[Lib.run_to_unsafe w ⟨b,0,none⟩ Tryz.underlying114 Tryz.underlying211 hj (by rw[hjs];decide) hsh (Nat.zero_lt_succ 1)]
 simp only[Result.andThen]
 rw[Oper.upon_value]
 go_wp2
 rw[run_callFunc_extern Tryz.func159 (by kernel_rfl) (by kernel_rfl) (by kernel_rfl) (e:=Extern.AbiNoEscape.same) (by kernel_rfl)]
 rw[Lib.run_noEscape]
 simp only[Result.andThen]
 rw[Oper.upon_value]
 go_wp2
 rw[Lib.run_from_unsafe w ⟨b,0,none⟩ Tryz.underlying211 Tryz.underlying114 hj hsh hT.lies]
 simp only[Result.andThen]
 rw[Oper.upon_value]
 go_wp2
 go_end0
 exact ⟨rfl,rfl⟩
theorem Builder_copyCheck {T:TypeId} (hT:BT T) (B b:Nat) (bs:List Value) (w:World) (h:Lib.IsBuilder T 5 B b bs w):
 Calls Tryz.prog 116 #[.pointer (some ⟨b,0,none⟩)] w fun e w'=>e= .returned (.tuple #[])∧(Lib.BuilderAt T 5 B b (.pointer (some ⟨b,0,none⟩)) bs w'∧Below B w w'):=by
 rcases h with h|h
 ·refine (Builder_copyCheck_fresh hT b w h.cell0 h.shape h.frozen0).mono ?_
  rintro e w' ⟨rfl,rfl⟩
  exact ⟨rfl,h.used _,(Below.refl B w).setCell (p:=⟨b,0,none⟩) h.1 _⟩
 ·refine (Builder_copyCheck_used hT b w h.cell0).mono ?_
  rintro e w' ⟨rfl,rfl⟩
  exact ⟨rfl,h,Below.refl B _⟩
theorem Builder_Len {T:TypeId} (hT:BT T) (B b:Nat) (bs:List Value) (w:World) (h:Lib.IsBuilder T 5 B b bs w):
 Calls Tryz.prog 68 #[.pointer (some ⟨b,0,none⟩)] w fun e w'=>e= .returned (.int .i64 bs.length)∧w'=w:=by
 obtain ⟨p,hB,v,hbk,hown,hne⟩:∃p,Lib.BuilderAt T 5 B b p bs w:=by
  rcases h with h|h
  ·exact ⟨_,h⟩
  ·exact ⟨_,h⟩
 obtain ⟨ao,cap,rfl⟩:∃ao cap,v= .slice ao bs.length cap:=by
  rcases hown.2 with ⟨hv,h0⟩|⟨g,cap,cur,hv,_⟩
  ·exact ⟨none,0,by rw[hv,h0]⟩
  ·exact ⟨_,_,hv⟩
 have c1:w.cell? ⟨b,1,none⟩=some (.slice ao bs.length cap):=by rw[Lib.cell_of_heap hbk];rfl
 go_enter Tryz.func68,Tryz.ntmps68
 go_wp2
 go_ret
 exact ⟨rfl,rfl⟩
theorem Builder_WriteByte {T:TypeId} (hT:BT T) (B b:Nat) (bs:List Value) (c:Int) (w:World) (h:Lib.IsBuilder T 5 B b bs w) (hlen:bs.length+1≤140737488355328) (hBw:B≤w.heap.size):
 Calls Tryz.prog 69 #[.pointer (some ⟨b,0,none⟩),.int .u8 c] w fun e w'=>e= .returned .nilIface∧(Lib.BuilderAt T 5 B b (.pointer (some ⟨b,0,none⟩)) (bs++ [.int .u8 c]) w'∧Below B w w'):=by
 obtain ⟨i0,hi,hz0,hz1,hz2⟩:=info_parts info_u8
 go_enter Tryz.func69,Tryz.ntmps69
 go_wp2_with (go_at_call 116;refine (Builder_copyCheck hT B b bs _ h).mono ?_)
 rintro e w1 ⟨rfl,h1,hb1⟩
 obtain ⟨hB,v,hbk,hown,hne⟩:=h1
 have c0:w1.cell? ⟨b,0,none⟩=some (.pointer (some ⟨b,0,none⟩)):=by rw[Lib.cell_of_heap hbk];rfl
 have c1:w1.cell? ⟨b,1,none⟩=some v:=by rw[Lib.cell_of_heap hbk];rfl
 go_wp2_with (at_builtin;refine wpList_append_own _ rfl _ _ 115 rfl B 5 i0 (.int .u8 0) 1 1 Tryz.underlying115 hi hz0 hz1 hz2 rfl (by decide) _ _ _ rfl (hown.alloc _) ⟨w1.heap.size,0,none⟩ 1 1 [.int .u8 c] rfl rfl ?c1 ?c2 ?c3 ?c4 ?c5 ?_)
 case c1=>
  intro j u hj
  match j,hj with
  |0,hj=>simp at hj;subst hj;simp[Addr.add]
 case c2=>intro u hu;simp at hu;subst hu;rfl
 case c3=>unfold maxLen;omega
 case c4=>omega
 case c5=>have:=hb1.size;simp;omega
 intro v' w2 hown' hgrow _
 have hlt:b<w1.heap.size:=by
  rcases Nat.lt_or_ge b w1.heap.size with h'|h'
  ·exact h'
  ·simp[Array.getElem?_eq_none h'] at hbk
 have hb2:w2.heap[b]? =some (.cells #[.pointer (some ⟨b,0,none⟩),v] T (0,0)):=by
  rw[hgrow.block b (by simp;omega) (fun e=>hne e.symm),Lib.alloc_old w1 _ b hlt]
  exact hbk
 have d0:w2.cell? ⟨b,0,none⟩=some (.pointer (some ⟨b,0,none⟩)):=by rw[Lib.cell_of_heap hb2];rfl
 have d1:w2.cell? ⟨b,1,none⟩=some v:=by rw[Lib.cell_of_heap hb2];rfl
 have f1:w2.frozen? ⟨b,1,none⟩=false:=Lib.frozen_of_heap hb2 1
 obtain ⟨g,cap,rfl⟩:∃g cap,v'= .slice (some ⟨g,0,none⟩) (bs.length+1) cap:=by
  rcases hown'.2 with ⟨_,h0⟩|⟨g,cap,cur,hv,_⟩
  ·omega
  ·exact ⟨g,cap,hv⟩
 go_wp2
 go_ret
 refine ⟨rfl,?_,?_⟩
 ·exact Lib.BuilderAt.put (T:=T) (e:=5) hB hb2 (bs':=bs++ [.int .u8 c]) (by simpa using hown') hT.ne
 ·exact ((hb1.alloc (by have:=hb1.size;omega) _).grown hgrow (by have:=hb1.size;simp;omega) (fun k hk=>(hown.lt k hk).1)).setCell (p:=⟨b,1,none⟩) hB _
theorem Builder_WriteString {T:TypeId} (hT:BT T) (B b:Nat) (bs:List Value) (s:ByteArray) (w:World) (h:Lib.IsBuilder T 5 B b bs w) (hlen:bs.length+s.size≤140737488355328) (hBw:B≤w.heap.size):
 Calls Tryz.prog 145 #[.pointer (some ⟨b,0,none⟩),.string s] w fun e w'=>e= .returned (.tuple #[.int .i64 s.size,.nilIface])∧(Lib.BuilderAt T 5 B b (.pointer (some ⟨b,0,none⟩)) (bs++Lib.strCells s) w'∧Below B w w'):=by
 obtain ⟨i0,hi,hz0,hz1,hz2⟩:=info_parts info_u8
 go_enter Tryz.func145,Tryz.ntmps145
 go_wp2_with (go_at_call 116;refine (Builder_copyCheck hT B b bs _ h).mono ?_)
 rintro e w1 ⟨rfl,h1,hb1⟩
 obtain ⟨hB,v,hbk,hown,hne⟩:=h1
 have c0:w1.cell? ⟨b,0,none⟩=some (.pointer (some ⟨b,0,none⟩)):=by rw[Lib.cell_of_heap hbk];rfl
 have c1:w1.cell? ⟨b,1,none⟩=some v:=by rw[Lib.cell_of_heap hbk];rfl
 go_wp2_with (at_builtin;refine Lib.wpList_append_own_string _ rfl _ _ 115 9 rfl B 5 i0 Tryz.underlying115 Tryz.underlying9 hi hz0 hz1 hz2 _ _ _ rfl hown s rfl ?c3 ?c4 ?c5 ?_)
 case c3=>unfold maxLen;omega
 case c4=>omega
 case c5=>have:=hb1.size;omega
 intro v' w2 hown' hgrow _
 have hlt:b<w1.heap.size:=by
  rcases Nat.lt_or_ge b w1.heap.size with h'|h'
  ·exact h'
  ·simp[Array.getElem?_eq_none h'] at hbk
 have hb2:w2.heap[b]? =some (.cells #[.pointer (some ⟨b,0,none⟩),v] T (0,0)):=by
  rw[hgrow.block b hlt (fun e=>hne e.symm)]
  exact hbk
 have d0:w2.cell? ⟨b,0,none⟩=some (.pointer (some ⟨b,0,none⟩)):=by rw[Lib.cell_of_heap hb2];rfl
 have d1:w2.cell? ⟨b,1,none⟩=some v:=by rw[Lib.cell_of_heap hb2];rfl
 have f1:w2.frozen? ⟨b,1,none⟩=false:=Lib.frozen_of_heap hb2 1
 obtain ⟨ao,n',cap,rfl⟩:∃ao n' cap,v'= .slice ao n' cap:=by
  rcases hown'.2 with ⟨hv,_⟩|⟨g,cap,cur,hv,_⟩
  ·exact ⟨_,_,_,hv⟩
  ·exact ⟨_,_,_,hv⟩
 go_wp2
 go_ret2
 refine ⟨rfl,?_,?_⟩
 ·exact Lib.BuilderAt.put (T:=T) (e:=5) hB hb2 (bs':=bs++Lib.strCells s) (by simpa [Lib.strCells_length] using hown') hT.ne
 ·exact (hb1.grown hgrow (by have:=hb1.size;omega) (fun k hk=>(hown.lt k hk).1)).setCell (p:=⟨b,1,none⟩) hB _
theorem Builder_String {T:TypeId} (hT:BT T) (B b:Nat) (l:List UInt8) (w:World) (h:Lib.IsBuilder T 5 B b (Lib.byteCells l) w) (h0:l≠ []):
 Calls Tryz.prog 70 #[.pointer (some ⟨b,0,none⟩)] w fun e w'=>e= .returned (.string ⟨l.toArray⟩)∧Below B w w':=by
 obtain ⟨p,hB,v,hbk,hown,hne⟩:∃p,Lib.BuilderAt T 5 B b p (Lib.byteCells l) w:=by
  rcases h with h|h
  ·exact ⟨_,h⟩
  ·exact ⟨_,h⟩
 have hl0:l.length≠0:=by simpa using h0
 rw[Lib.byteCells_length] at hown
 obtain ⟨g,cap,cur,rfl,hbg,hg,hnc,hcm,hcs,htake⟩:∃g cap cur,v= .slice (some ⟨g,0,none⟩) l.length cap∧B≤g∧w.heap[g]? =some (.cells cur 5 (0,0))∧l.length≤cap∧cap≤maxLen∧cur.size=cap*1∧cur.toList.take (l.length*1)=Lib.byteCells l:=by
  rcases hown.2 with ⟨_,hz⟩|⟨g,cap,cur,hv,r⟩
  ·exact absurd hz hl0
  ·exact ⟨g,cap,cur,hv,r⟩
 have c1:w.drew.cell? ⟨b,1,none⟩=some (.slice (some ⟨g,0,none⟩) l.length cap):=by
  have:w.drew.heap[b]? =some (.cells #[p,.slice (some ⟨g,0,none⟩) l.length cap] T (0,0)):=hbk
  rw[Lib.cell_of_heap this];rfl
 have hSD:(Builtin.unsafeSliceData_ #[115] 174 #[.slice (some ⟨g,0,none⟩) l.length cap]).run Tryz.prog w.drew= .ok (.pointer (some ⟨g,0,none⟩)) w.drew:=
  Lib.run_unsafeSliceData_row _ _ _ _ _ _ (by omega)
 have hUS:(Builtin.unsafeString_ #[174,3] 9 #[.pointer (some ⟨g,0,none⟩),.int .i64 l.length]).run Tryz.prog w.drew= .ok (.string ⟨l.toArray⟩) (w.drew.freeze ⟨g,0,none⟩ l.length):=by
  refine Lib.run_unsafeString_row w.drew 174 3 9 5 Tryz.underlying174 cells_u8 g cur.size (by have hg':w.drew.heap[g]? =some (.cells cur 5 (0,0)):=hg;simp[World.shape?,hg']) l h0 (by omega) (by unfold maxLen at hcm;omega) ?_
  intro j x hx
  have:=hown.cells (g:=g) rfl j (.int .u8 x.toNat) (by simp[Lib.byteCells,hx])
  exact this
 go_enter Tryz.func70,Tryz.ntmps70
 go_wp2
 go_region
 all_goals (go_wp2;go_ret;exact ⟨rfl,Lib.below_freeze (Below.drew (Below.refl B w)) (p:=⟨g,0,none⟩) hbg _⟩)
theorem unsafeString_none {T:TypeId} (hT:BT T) (W:World) (q:Option Addr):(Builtin.unsafeString_ #[174,3] 9 #[.pointer q,.int .i64 0]).run Tryz.prog W= .ok (.string .empty) W:=
 Lib.run_unsafeString_none W _ _ _ q
theorem Builder_String_nil {T:TypeId} (hT:BT T) (B b:Nat) (p:Value) (w:World) (hbk:w.heap[b]? =some (.cells #[p,.slice none 0 0] T (0,0))):
 Calls Tryz.prog 70 #[.pointer (some ⟨b,0,none⟩)] w fun e w'=>e= .returned (.string ⟨#[]⟩)∧Below B w w':=by
 have hUS:=unsafeString_none hT
 have c1:w.drew.cell? ⟨b,1,none⟩=some (.slice none 0 0):=by
  have:w.drew.heap[b]? =some (.cells #[p,.slice none 0 0] T (0,0)):=hbk
  rw[Lib.cell_of_heap this];rfl
 have hSD:(Builtin.unsafeSliceData_ #[115] 174 #[.slice none 0 0]).run Tryz.prog w.drew= .ok (.pointer none) w.drew:=rfl
 go_enter Tryz.func70,Tryz.ntmps70
 go_wp2
 go_region
 all_goals (go_wp2;go_ret;exact ⟨rfl,Below.drew (Below.refl B w)⟩)
theorem Builder_String_noroom {T:TypeId} (hT:BT T) (B b g:Nat) (p:Value) (cur:Array Value) (w:World) (hBw:B≤w.heap.size) (hbk:w.heap[b]? =some (.cells #[p,.slice (some ⟨g,0,none⟩) 0 0] T (0,0))) (hg:w.heap[g]? =some (.cells cur 5 (0,0))):
 Calls Tryz.prog 70 #[.pointer (some ⟨b,0,none⟩)] w fun e w'=>e= .returned (.string ⟨#[]⟩)∧Below B w w':=by
 have hUS:=unsafeString_none hT
 have hlt:b<w.heap.size:=by
  rcases Nat.lt_or_ge b w.heap.size with h'|h'
  ·exact h'
  ·simp[Array.getElem?_eq_none h'] at hbk
 have c1:w.drew.cell? ⟨b,1,none⟩=some (.slice (some ⟨g,0,none⟩) 0 0):=by
  have:w.drew.heap[b]? =some (.cells #[p,.slice (some ⟨g,0,none⟩) 0 0] T (0,0)):=hbk
  rw[Lib.cell_of_heap this];rfl
 have hSD:(Builtin.unsafeSliceData_ #[115] 174 #[.slice (some ⟨g,0,none⟩) 0 0]).run Tryz.prog w.drew= .ok (.pointer (some ⟨w.drew.heap.size,0,none⟩)) (w.drew.alloc (.view ⟨g,0,none⟩ 5)):=
  Lib.run_unsafeSliceData_zero w.drew _ _ 5 Tryz.underlying174 ⟨g,0,none⟩ 0 (5,cur.size) (by have hg':w.drew.heap[g]? =some (.cells cur 5 (0,0)):=hg;simp[World.shape?,hg'])
 have c2:(w.drew.alloc (.view ⟨g,0,none⟩ 5)).cell? ⟨b,1,none⟩=some (.slice (some ⟨g,0,none⟩) 0 0):=by
  have:(w.drew.alloc (.view ⟨g,0,none⟩ 5)).heap[b]? =_:=(Lib.alloc_old w.drew _ b hlt).trans hbk
  rw[Lib.cell_of_heap this];rfl
 have c3:(w.alloc (.view ⟨g,0,none⟩ 5)).drew.cell? ⟨b,1,none⟩=some (.slice (some ⟨g,0,none⟩) 0 0):=c2
 have c0:w.cell? ⟨b,1,none⟩=some (.slice (some ⟨g,0,none⟩) 0 0):=c1
 go_enter Tryz.func70,Tryz.ntmps70
 go_wp2
 go_region
 all_goals (go_wp2;go_ret;exact ⟨rfl,(Below.drew (Below.refl B w)).alloc hBw _⟩)
theorem Builder_String_room {T:TypeId} (hT:BT T) (B b g cap:Nat) (p:Value) (w:World) (hc0:cap≠0) (hbk:w.heap[b]? =some (.cells #[p,.slice (some ⟨g,0,none⟩) 0 cap] T (0,0))):
 Calls Tryz.prog 70 #[.pointer (some ⟨b,0,none⟩)] w fun e w'=>e= .returned (.string ⟨#[]⟩)∧Below B w w':=by
 have hUS:=unsafeString_none hT
 have c1:w.drew.cell? ⟨b,1,none⟩=some (.slice (some ⟨g,0,none⟩) 0 cap):=by
  have:w.drew.heap[b]? =some (.cells #[p,.slice (some ⟨g,0,none⟩) 0 cap] T (0,0)):=hbk
  rw[Lib.cell_of_heap this];rfl
 have hSD:(Builtin.unsafeSliceData_ #[115] 174 #[.slice (some ⟨g,0,none⟩) 0 cap]).run Tryz.prog w.drew= .ok (.pointer (some ⟨g,0,none⟩)) w.drew:=
  Lib.run_unsafeSliceData_row _ _ _ _ _ _ hc0
 clear hc0
 go_enter Tryz.func70,Tryz.ntmps70
 go_wp2
 go_region
 all_goals (go_wp2;go_ret;exact ⟨rfl,Below.drew (Below.refl B w)⟩)
theorem Builder_String_empty {T:TypeId} (hT:BT T) (B b:Nat) (w:World) (h:Lib.IsBuilder T 5 B b [] w) (hBw:B≤w.heap.size):
 Calls Tryz.prog 70 #[.pointer (some ⟨b,0,none⟩)] w fun e w'=>e= .returned (.string ⟨#[]⟩)∧Below B w w':=by
 obtain ⟨p,hB,v,hbk,hown,hne⟩:∃p,Lib.BuilderAt T 5 B b p [] w:=by
  rcases h with h|h
  ·exact ⟨_,h⟩
  ·exact ⟨_,h⟩
 rcases hown.2 with ⟨rfl,_⟩|⟨g,cap,cur,rfl,hbg,hg,_,_,_,_⟩
 ·exact Builder_String_nil hT B b p w hbk
 ·by_cases hc0:cap=0
  ·subst hc0
   exact Builder_String_noroom hT B b g p cur w hBw hbk hg
  ·exact Builder_String_room hT B b g cap p w hc0 hbk
theorem Builder_String_any {T:TypeId} (hT:BT T) (B b:Nat) (l:List UInt8) (w:World) (h:Lib.IsBuilder T 5 B b (Lib.byteCells l) w) (hBw:B≤w.heap.size):
 Calls Tryz.prog 70 #[.pointer (some ⟨b,0,none⟩)] w fun e w'=>e= .returned (.string ⟨l.toArray⟩)∧Below B w w':=by
 cases l with
 |nil=>exact Builder_String_empty hT B b w h hBw
 |cons x r=>exact Builder_String hT B b (x::r) w h (by simp)
theorem decodeRune_any (s:ByteArray) (w:World) (hE:Env w):Calls Tryz.prog 157 #[.string s] w fun e w'=>e= .returned (.tuple #[.int .i32 (Lib.decodeGo s).1,.int .i64 (Lib.decodeGo s).2])∧Ext w w':=
 Tryz.utf8_DecodeRuneInString s w hE.utf8
theorem builderLen_t {T:TypeId} (hT:BT T) (B b:Nat) (bs:List Value) (w:World) (h:Lib.IsBuilder T 5 B b bs w):
 Calls Tryz.prog 68 #[.pointer (some ⟨b,0,none⟩)] w fun e w'=>e= .returned (.int .i64 bs.length)∧w'=w:=Builder_Len hT B b bs w h
theorem builderWriteByte_t {T:TypeId} (hT:BT T) (B b:Nat) (bs:List Value) (c:Int) (w:World) (h:Lib.IsBuilder T 5 B b bs w) (hlen:bs.length+1≤140737488355328) (hBw:B≤w.heap.size):
 Calls Tryz.prog 69 #[.pointer (some ⟨b,0,none⟩),.int .u8 c] w fun e w'=>e= .returned .nilIface∧(Lib.IsBuilder T 5 B b (bs++ [.int .u8 c]) w'∧Below B w w'):=
 (Builder_WriteByte hT B b bs c w h hlen hBw).mono fun _ _ ⟨h1,h2,h3⟩=>⟨h1,Or.inr h2,h3⟩
theorem builderWriteString_t {T:TypeId} (hT:BT T) (B b:Nat) (bs:List Value) (s:ByteArray) (w:World) (h:Lib.IsBuilder T 5 B b bs w) (hlen:bs.length+s.size≤140737488355328) (hBw:B≤w.heap.size):
 Calls Tryz.prog 145 #[.pointer (some ⟨b,0,none⟩),.string s] w fun e w'=>e= .returned (.tuple #[.int .i64 s.size,.nilIface])∧(Lib.IsBuilder T 5 B b (bs++Lib.byteCells s.data.toList) w'∧Below B w w'):=
 (Builder_WriteString hT B b bs s w h hlen hBw).mono fun _ _ ⟨h1,h2,h3⟩=>⟨h1,Or.inr h2,h3⟩
theorem builderString_t {T:TypeId} (hT:BT T) (B b:Nat) (l:List UInt8) (w:World) (h:Lib.IsBuilder T 5 B b (Lib.byteCells l) w) (hBw:B≤w.heap.size):
 Calls Tryz.prog 70 #[.pointer (some ⟨b,0,none⟩)] w fun e w'=>e= .returned (.string (str l))∧Below B w w':=Builder_String_any hT B b l w h hBw
theorem builderLen_any (B b:Nat) (bs:List Value) (w:World) (h:Lib.IsBuilder 117 5 B b bs w):
 Calls Tryz.prog 68 #[.pointer (some ⟨b,0,none⟩)] w fun e w'=>e= .returned (.int .i64 bs.length)∧w'=w:=builderLen_t bt_plain B b bs w h
theorem builderWriteByte_any (B b:Nat) (bs:List Value) (c:Int) (w:World) (h:Lib.IsBuilder 117 5 B b bs w) (hlen:bs.length+1≤140737488355328) (hBw:B≤w.heap.size):
 Calls Tryz.prog 69 #[.pointer (some ⟨b,0,none⟩),.int .u8 c] w fun e w'=>e= .returned .nilIface∧(Lib.IsBuilder 117 5 B b (bs++ [.int .u8 c]) w'∧Below B w w'):=builderWriteByte_t bt_plain B b bs c w h hlen hBw
theorem builderWriteString_any (B b:Nat) (bs:List Value) (s:ByteArray) (w:World) (h:Lib.IsBuilder 117 5 B b bs w) (hlen:bs.length+s.size≤140737488355328) (hBw:B≤w.heap.size):
 Calls Tryz.prog 145 #[.pointer (some ⟨b,0,none⟩),.string s] w fun e w'=>e= .returned (.tuple #[.int .i64 s.size,.nilIface])∧(Lib.IsBuilder 117 5 B b (bs++Lib.byteCells s.data.toList) w'∧Below B w w'):=builderWriteString_t bt_plain B b bs s w h hlen hBw
theorem builderString_any (B b:Nat) (l:List UInt8) (w:World) (h:Lib.IsBuilder 117 5 B b (Lib.byteCells l) w) (hBw:B≤w.heap.size):
 Calls Tryz.prog 70 #[.pointer (some ⟨b,0,none⟩)] w fun e w'=>e= .returned (.string (str l))∧Below B w w':=builderString_t bt_plain B b l w h hBw
theorem decodeGo_eq (s:ByteArray) (hs:s.data.toList≠ []):Lib.decodeGo s=Lib.decodeL s.data.toList:=by
 unfold Lib.decodeGo Lib.decodeL
 have h0:s.size≠0:=by
  intro h
  apply hs
  apply List.eq_nil_of_length_eq_zero
  simpa using h
 rw[if_neg h0]
theorem ext_list (t:ByteArray) (k:Nat):(t.extract k t.size).data.toList=t.data.toList.drop k:=by
 simp[List.take_of_length_le]
theorem dec_in (s:ByteArray) (k:Nat) (hk:k<s.size):Lib.decodeGo (s.extract k s.size)=Lib.decodeL (s.data.toList.drop k):=by
 rw[decodeGo_eq,ext_list]
 rw[ext_list]
 intro h
 have:=congrArg List.length h
 simp at this
 have:s.data.size=s.size:=rfl
 omega
def decVal (d:Nat×Nat):Value:= .tuple #[.int .i32 (d.1:Nat),.int .i64 (d.2:Nat)]
theorem textDecode_in (s:ByteArray) (k:Nat) (w:World) (hE:Env w) (hk:k<s.size) (hs:s.size≤maxLen):
 Calls Tryz.prog 114 #[.string s,.int .i64 (k:Nat)] w fun e w'=>e= .returned (decVal (dec (s.data.toList.drop k)))∧Ext w w':=by
 have hd:=dec_in s k hk
 have hne:s.data.toList.drop k≠ []:=by
  intro h
  have:=congrArg List.length h
  simp at this
  have:s.data.size=s.size:=rfl
  omega
 obtain ⟨R,hR⟩:∃R,(Lib.decodeL (s.data.toList.drop k)).1=R:=⟨_,rfl⟩
 obtain ⟨K,hK⟩:∃K,(Lib.decodeL (s.data.toList.drop k)).2=K:=⟨_,rfl⟩
 have hc:=decodeRune_any (s.extract k s.size) w hE
 rw[hd,hR,hK] at hc
 have hfin:dec (s.data.toList.drop k)=if R=65533∧K=1 then (0,0) else (R,K):=by
  unfold dec
  rw[if_neg hne,hR,hK,←hR,←hK]
 rw[hfin]
 clear hfin hK hR hne hd
 unfold maxLen at hs
 have HC:=gd hc
 clear hc
 by_cases h1:R=65533∧K=1
 obtain ⟨rfl,rfl⟩:=h1
 rotate_left
 by_cases h2:R=65533
 have h3:((K:Int)==1)=false:=by
  rw[beq_eq_false_iff_ne];omega
 have h4:((R:Int)==65533)=true:=by simp[h2]
 have hfin:(if R=65533∧K=1 then ((0,0):Nat×Nat) else (R,K))=(R,K):=if_neg h1
 rw[hfin]
 clear hfin h1 h2
 rotate_left
 have h4:((R:Int)==65533)=false:=by rw[beq_eq_false_iff_ne];omega
 have hfin:(if R=65533∧K=1 then ((0,0):Nat×Nat) else (R,K))=(R,K):=if_neg h1
 rw[hfin]
 clear hfin h1 h2
 all_goals
  go_enter Tryz.func114,Tryz.ntmps114
  go_wp2_with (go_at_call 157;refine (HC.out).mono ?_;rintro e w' ⟨rfl,hx⟩)
  all_goals go_ret2
  all_goals exact ⟨rfl,hx⟩
theorem data_len (s:ByteArray):s.data.toList.length=s.size:=rfl
theorem textCheck_any (s:ByteArray) (w:World) (hE:Env w) (hs:s.size≤maxLen):
 Calls Tryz.prog 66 #[.string s] w fun e w'=>e= .returned (.tuple #[.int .i64 ((checkS s).1:Nat),.int .i64 ((checkS s).2:Nat)])∧Ext w w':=by
 have hml:=hs
 unfold maxLen at hs
 go_enter Tryz.func66,Tryz.ntmps66
 go_wp2
 go_loopw [4,5,6] (fun v _ _ wr=>∃k:Nat,k≤s.size∧v= .int .i64 k∧Hid (checkS s=checkGo s.data.toList.length k (s.data.toList.drop k))∧Ext w wr) (fun v _ _ _=>s.size - (intOf v).toNat)
 case atStart=>exact ⟨0,Nat.zero_le _,rfl,rfl,Ext.refl _⟩
 case round=>
  obtain ⟨k,hk,rfl,hc,hx⟩:=hrel
  by_cases hlt:k<s.size
  ·have hst:=check_at s.data.toList k (by rw[data_len];exact hlt)
   have hle:=dec_le (s.data.toList.drop k)
   rw[List.length_drop,data_len] at hle
   have hcon:=textDecode_in s k wr (hE.ext hx) hlt hml
   unfold decVal at hcon
   have hc2:=hc.out.trans hst
   clear hc hst
   obtain ⟨R,hR⟩:∃R,(dec (s.data.toList.drop k)).1=R:=⟨_,rfl⟩
   obtain ⟨K,hK⟩:∃K,(dec (s.data.toList.drop k)).2=K:=⟨_,rfl⟩
   rw[hR,hK] at hcon hc2
   rw[hK] at hle
   clear hR hK
   have HC:=gd hcon
   have HS:=gd hc2
   clear hcon hc2
   by_cases h0:K=0
   ·subst h0
    have hfin:=HS.out
    rw[if_pos rfl] at hfin
    have HF:=gd hfin
    clear hfin HS
    go_wp2_with (first|(go_at_call 114;refine (HC.out).mono ?_;rintro e w' ⟨rfl,hx'⟩))
    go_ret2
    exact ⟨by rw[HF.out];rfl,hx.trans hx'⟩
   ·have hb:((K:Int)==0)=false:=by rw[beq_eq_false_iff_ne];omega
    by_cases hch:isChar R=false
    ·have hfin:=HS.out
     rw[if_neg h0,if_pos hch] at hfin
     have HF:=gd hfin
     clear hfin HS
     go_wp2_with (first|(go_at_call 114;refine (HC.out).mono ?_;rintro e w' ⟨rfl,hx'⟩)|(go_at_call 115;refine (textIsChar_any _ _).mono ?_;rintro e w' ⟨rfl,rfl⟩))
     go_ret2
     exact ⟨by rw[HF.out];rfl,hx.trans hx'⟩
    ·have hch':isChar R=true:=by simpa using hch
     have HS2:Hid (checkS s=checkGo s.data.toList.length (k+K) (s.data.toList.drop (k+K))):=by
      have h:=HS.out
      rw[if_neg h0,if_neg hch] at h
      exact h
     clear HS hch
     go_wp2_with (first|(go_at_call 114;refine (HC.out).mono ?_;rintro e w' ⟨rfl,hx'⟩)|(go_at_call 115;refine (textIsChar_any _ _).mono ?_;rintro e w' ⟨rfl,rfl⟩))
     go_roundw
     case rel=>exact ⟨k+K,by omega,by go_num,HS2,hx.trans hx'⟩
     case measure=>simp[intOf];omega
  ·have hke:k=s.size:=by omega
   have hfin:checkS s=(s.size,0):=by
    rw[hc.out,check_end _ _ (by rw[data_len];omega),hke]
   have HF:=gd hfin
   clear hfin hc hke
   go_wp2
   go_ret2
   exact ⟨by rw[HF.out];rfl,hx⟩
theorem coll_step (l out:List UInt8) (g:Bool) (k:Nat) (hk:k<l.length):collGo (l.drop k) out g=if isSp (l[k]).toNat then collGo (l.drop (k+1)) out (!out.isEmpty) else collGo (l.drop (k+1)) (out++(if g then [32] else [])++ [l[k]]) false:=by
 rw[List.drop_eq_getElem_cons hk];rfl
theorem byteCells_app (a b:List UInt8):Lib.byteCells (a++b)=Lib.byteCells a++Lib.byteCells b:=by simp[Lib.byteCells]
theorem byteCells_len (a:List UInt8):(Lib.byteCells a).length=a.length:=by simp[Lib.byteCells]
theorem coll_sp (s:ByteArray) (out:List UInt8) (g:Bool) (k:Nat) (hk:k<s.size) (h:isSp (s[k].toNat)=true):collGo (s.data.toList.drop k) out g=collGo (s.data.toList.drop (k+1)) out (!out.isEmpty):=by
 rw[coll_step _ _ _ k (by rw[data_len];exact hk)]
 exact if_pos h
theorem coll_ch (s:ByteArray) (out:List UInt8) (g:Bool) (k:Nat) (hk:k<s.size) (h:isSp (s[k].toNat)=false):collGo (s.data.toList.drop k) out g=collGo (s.data.toList.drop (k+1)) (out++(if g then [32] else [])++ [s[k]]) false:=by
 rw[coll_step _ _ _ k (by rw[data_len];exact hk)]
 exact if_neg (by rw[Bool.not_eq_true];exact h)
theorem collapse_any (s:ByteArray) (w:World) (hs:s.size≤140737488351232):
 Calls Tryz.prog 30 #[.string s] w fun e w'=>e= .returned (.string (collapse s))∧Ext w w':=by
 go_enter Tryz.func30,Tryz.ntmps30
 go_wp2
 go_loopw [4,5,8] (fun v _ i wr=>∃(k:Nat) (out:List UInt8) (g:Bool),k≤s.size∧i= .int .i64 k∧v= .bool g∧out.length+(if g then 1 else 0)≤k∧
  Lib.IsBuilder 117 5 w.heap.size w.heap.size (Lib.byteCells out) wr∧Hid (coll s.data.toList=collGo (s.data.toList.drop k) out g)∧Ext w wr) (fun _ _ i _=>s.size - (intOf i).toNat)
 case atStart=>exact ⟨0,[],false,Nat.zero_le _,rfl,rfl,by simp,Lib.fresh_isBuilder _ _ _,rfl,(Ext.refl _).alloc _⟩
 case round=>
  obtain ⟨k,out,g,hk,rfl,rfl,hlen,hB,hc,hx⟩:=hrel
  have hsz:=hx.size
  by_cases hlt:k<s.size
  ·by_cases hsp:isSp (s[k]).toNat=true
   ·have HC:=gd (hc.out.trans (coll_sp s out g k hlt hsp))
    have hlen':out.length≤k:=by split at hlen<;>omega
    have hg':decide (0<(Lib.byteCells out).length)= !out.isEmpty:=by
     rw[byteCells_len];cases out<;>simp
    have HG:=gd hg'
    clear hc hg' hlen
    go_wp2_with (first|(go_at_call 67;refine (textIsSpace_any _ _).mono ?_;rintro e w' ⟨rfl,rfl⟩)|(go_at_call 68;refine (builderLen_any _ _ _ _ hB).mono ?_;rintro e w' ⟨rfl,rfl⟩))
    go_roundw
    case rel=>exact ⟨k+1,out,!out.isEmpty,by omega,by go_num,by rw[HG.out],by split<;>omega,hB,HC,hx⟩
    case measure=>simp[intOf];omega
   ·have hsp':isSp (s[k]).toNat=false:=by simpa using hsp
    have HC:=gd (hc.out.trans (coll_ch s out g k hlt hsp'))
    clear hc hsp
    cases g
    ·have hlen':out.length≤k:=by simpa using hlen
     clear hlen
     go_wp2_with (first|(go_at_call 67;refine (textIsSpace_any _ _).mono ?_;rintro e w' ⟨rfl,rfl⟩)|(go_at_call 69;refine (builderWriteByte_any _ _ _ _ _ hB (by rw[byteCells_len];omega) hsz).mono ?_;rintro e w' ⟨rfl,hB',hx'⟩))
     go_roundw
     case rel=>exact ⟨k+1,out++ [s[k]],false,by omega,by go_num,rfl,by simp;omega,by rw[byteCells_app];exact hB',by simpa using HC,hx.then hx'⟩
     case measure=>simp[intOf];omega
    ·have hlen':out.length+1≤k:=by simpa using hlen
     clear hlen
     go_wp2_with fail
     refine (textIsSpace_any _ _).mono ?_
     rintro e w' ⟨rfl,rfl⟩
     go_wp2_with fail
     refine (builderWriteByte_any _ _ _ _ _ hB (by rw[byteCells_len];omega) hsz).mono ?_
     rintro e w1 ⟨rfl,hB1,hx1⟩
     have hsz1:=(hx.then hx1).size
     go_wp2_with fail
     refine (builderWriteByte_any _ _ _ _ _ hB1 (by simp[byteCells_len];omega) hsz1).mono ?_
     rintro e w2 ⟨rfl,hB2,hx2⟩
     go_wp2_with fail
     go_roundw
     case rel=>exact ⟨k+1,out++ [32]++ [s[k]],false,by omega,by go_num,rfl,by simp;omega,by rw[byteCells_app,byteCells_app];exact hB2,by simpa using HC,(hx.then hx1).then hx2⟩
     case measure=>simp[intOf];omega
  ·have hke:k=s.size:=by omega
   have hfin:coll s.data.toList=out:=by
    rw[hc.out,List.drop_of_length_le (by rw[data_len];omega)];rfl
   have HF:Hid (str out=collapse s):=by unfold collapse;rw[hfin];rfl
   clear hfin hc hke
   go_wp2_with (go_at_call 70;refine (builderString_any _ _ _ _ hB hsz).mono ?_;rintro e w' ⟨rfl,hx'⟩)
   go_ret
   exact ⟨by rw[←HF.out];rfl,hx.then hx'⟩
theorem textValid_any (s:ByteArray) (w:World) (hE:Env w) (hs:s.size≤140737488351232):
 Calls Tryz.prog 135 #[.string s] w fun e w'=>e= .returned (.bool (validS s))∧Ext w w':=by
 have hml:s.size≤maxLen:=by unfold maxLen;omega
 have hcon:=textCheck_any s w hE hml
 obtain ⟨K,hK⟩:∃K,(checkS s).2=K:=⟨_,rfl⟩
 obtain ⟨R,hR⟩:∃R,collapse s=R:=⟨_,rfl⟩
 have hfin:validS s=(decide (K=0) && (R.data.toList==s.data.toList)):=by unfold validS;rw[hK,hR]
 have hcol:=fun w'=>collapse_any s w' hs
 rw[hK] at hcon
 rw[hR] at hcol
 rw[hfin]
 clear hfin hK hR
 have HC:=gd hcon
 have HD:=gd hcol
 clear hcon hcol
 by_cases h0:K=0
 ·subst h0
  go_enter Tryz.func135,Tryz.ntmps135
  go_wp2_with (first|(go_at_call 66;refine (HC.out).mono ?_;rintro e w' ⟨rfl,hx⟩)|(go_at_call 30;refine (HD.out _).mono ?_;rintro e w' ⟨rfl,hx'⟩))
  go_ret
  exact ⟨by simp[toList_beq],hx.trans hx'⟩
 ·have hb:((K:Int)==0)=false:=by rw[beq_eq_false_iff_ne];omega
  have hk:decide (K=0)=false:=by simp[h0]
  rw[hk]
  clear hk h0
  go_enter Tryz.func135,Tryz.ntmps135
  go_wp2_with (first|(go_at_call 66;refine (HC.out).mono ?_;rintro e w' ⟨rfl,hx⟩)|(go_at_call 30;refine (HD.out _).mono ?_;rintro e w' ⟨rfl,hx'⟩))
  go_ret
  exact ⟨by simp,hx⟩
theorem conv_bytes (w:World) (xs:List Int) (n:Nat) (h:xs.length=n):
 (convert 115 9 (.slice (some ⟨w.heap.size,0,none⟩) n n)).run Tryz.prog (w.alloc (.cells (xs.map (Value.int .u8)).toArray 5))= .ok (.string (strOfNums xs)) (w.alloc (.cells (xs.map (Value.int .u8)).toArray 5)):=by
 refine run_convert_bytes_arg _ _ 5 Tryz.underlying115 Tryz.underlying5 _ 0 n n xs h (fun i hi=> ?_) _ Tryz.underlying9
 have:=heap_alloc_new w (.cells (xs.map (Value.int .u8)).toArray 5)
 rw[Nat.zero_add,Lib.cell_of_heap this]
 simp[List.getElem?_eq_getElem (show i<xs.length by omega),List.getD]
theorem conv1 (w:World) (a:Int):(convert 115 9 (.slice (some ⟨w.heap.size,0,none⟩) 1 1)).run Tryz.prog (w.alloc (.cells #[.int .u8 a] 5))= .ok (.string (strOfNums [a])) (w.alloc (.cells #[.int .u8 a] 5)):=conv_bytes w [a] 1 rfl
theorem conv2 (w:World) (a b:Int):(convert 115 9 (.slice (some ⟨w.heap.size,0,none⟩) 2 2)).run Tryz.prog (w.alloc (.cells #[.int .u8 a,.int .u8 b] 5))= .ok (.string (strOfNums [a,b])) (w.alloc (.cells #[.int .u8 a,.int .u8 b] 5)):=conv_bytes w [a,b] 2 rfl
theorem conv3 (w:World) (a b c:Int):(convert 115 9 (.slice (some ⟨w.heap.size,0,none⟩) 3 3)).run Tryz.prog (w.alloc (.cells #[.int .u8 a,.int .u8 b,.int .u8 c] 5))= .ok (.string (strOfNums [a,b,c])) (w.alloc (.cells #[.int .u8 a,.int .u8 b,.int .u8 c] 5)):=conv_bytes w [a,b,c] 3 rfl
theorem conv4 (w:World) (a b c d:Int):(convert 115 9 (.slice (some ⟨w.heap.size,0,none⟩) 4 4)).run Tryz.prog (w.alloc (.cells #[.int .u8 a,.int .u8 b,.int .u8 c,.int .u8 d] 5))= .ok (.string (strOfNums [a,b,c,d])) (w.alloc (.cells #[.int .u8 a,.int .u8 b,.int .u8 c,.int .u8 d] 5)):=conv_bytes w [a,b,c,d] 4 rfl
theorem str_nums (xs:List Int):strOfNums xs=str (xs.map fun n=>UInt8.ofNat n.toNat):=rfl
theorem slice_in (s:ByteArray) (k n:Nat) (m:Int) (hm:m=n) (h:k+n≤s.size) (wx:World):
 (Instr.slice 9 (.string s) (some (.int .i64 (k:Nat))) (some (.int .i64 ((k:Nat)+m))) none).run Tryz.prog wx= .ok (.string (s.extract k (k+n))) wx:=by
 subst hm
 rw[run_slice_string (P:=Tryz.prog) (w:=wx) 9 s .i64 .i64 _ _ Tryz.underlying9 (by omega) (by omega) (by omega)]
 rw[show ((k:Int)+(n:Int)).toNat=k+n by omega,show ((k:Nat):Int).toNat=k by omega]
theorem extract_take (s:ByteArray) (k n:Nat):(s.extract k (k+n)).data.toList=(s.data.toList.drop k).take n:=by
 simp[Nat.add_sub_cancel_left]
theorem str_beq (L:List UInt8) (t:ByteArray):((str L).toList==t.toList)=decide (L=t.data.toList):=by
 rw[toList_beq,str_list,Bool.eq_iff_iff]
 simp
section
attribute [local go_sem] conv1 conv2 conv3 conv4
theorem refEncode_any (r:Nat) (w:World) (hr:r<4294967296):
 Calls Tryz.prog 155 #[.int .i64 (r:Nat)] w fun e w'=>e= .returned (.string (str (encN r)))∧Ext w w':=by
 obtain ⟨L,hL⟩:∃L,encN r=L:=⟨_,rfl⟩
 rw[hL]
 obtain ⟨x,hx⟩:∃x:Int,(r:Int)=x:=⟨_,rfl⟩
 rw[hx]
 have x0:0≤x:=by omega
 have x1:x<4294967296:=by omega
 have HX:=gd hx
 have HR:=gd hr
 have HL:=gd hL
 clear hx hr hL
 go_enter Tryz.func155,Tryz.ntmps155
 go_wp2
 all_goals go_ret
 all_goals (refine ⟨congrArg (fun l=>Ending.returned (.string l)) ?_,by repeat (first|exact Ext.refl _|apply Ext.alloc)⟩)
 all_goals have hx:=HX.out
 all_goals (rw[←HL.out];unfold encN)
 all_goals first|(rw[if_pos (by omega)];rfl)|(rw[if_neg (by omega),if_neg (by omega),if_neg (by omega),if_pos (by omega)];simp only[str_nums,List.map_cons,List.map_nil,show (224+x / 4096).toNat=224+r / 4096 by omega,show (128+x / 64 % 64).toNat=128+r / 64 % 64 by omega,show (128+x % 64).toNat=128+r % 64 by omega])|(rw[if_neg (by omega),if_neg (by omega),if_neg (by omega),if_neg (by omega)];simp only[str_nums,List.map_cons,List.map_nil,show (240+x / 262144).toNat=240+r / 262144 by omega,show (128+x / 4096 % 64).toNat=128+r / 4096 % 64 by omega,show (128+x / 64 % 64).toNat=128+r / 64 % 64 by omega,show (128+x % 64).toNat=128+r % 64 by omega])|(rw[if_neg (by omega),if_pos (by omega)];simp only[str_nums,List.map_cons,List.map_nil,show x.toNat=r by omega])|(rw[if_neg (by omega),if_neg (by omega),if_pos (by omega)];simp only[str_nums,List.map_cons,List.map_nil,show (192+x / 64).toNat=192+r / 64 by omega,show (128+x % 64).toNat=128+r % 64 by omega])
theorem refEncode_int (x:Int) (w:World) (h0:0≤x) (h1:x<4294967296):
 Calls Tryz.prog 155 #[.int .i64 x] w fun e w'=>e= .returned (.string (str (encN x.toNat)))∧Ext w w':=by
 have h:=refEncode_any x.toNat w (by omega)
 rwa [Int.toNat_of_nonneg h0] at h
end
end Go.Proofs.YthlnaldahkgjnaaGreatDoor
