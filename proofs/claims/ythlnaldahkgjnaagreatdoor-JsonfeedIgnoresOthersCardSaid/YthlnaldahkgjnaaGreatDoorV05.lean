/- Parts of the proof: contracts and plain laws. -/
import Derived.Test.YthlnaldahkgjnaaGreatDoorProg
import Derived.Test.YthlnaldahkgjnaaGreatDoorV04
namespace Go.Proofs.YthlnaldahkgjnaaGreatDoor
open Go Go.RowKit Go.Shelf
set_option linter.unusedVariables false
set_option linter.unusedSimpArgs false
set_option maxRecDepth 100000
set_option maxHeartbeats 16000000
section
set_option linter.unusedSimpArgs false
theorem refHex_any (s:ByteArray) (a:Nat) (w:World) (hs:s.size≤80000000000) (ha:a+4≤s.size):
 Calls Tryz.prog 205 #[.string s,.int .i64 (a:Nat)] w fun e w'=>e= .returned (.int .i64 (oi (hexGo s.data.toList a 4)))∧w'=w:=by
 obtain ⟨R,hR⟩:∃R,hexGo s.data.toList a 4=R:=⟨_,rfl⟩
 rw[hR]
 have a2:¬(s.size:Int) - (a:Int)<4:=by omega
 have HR:=gd hR
 clear hR
 go_enter Tryz.func205,Tryz.ntmps205
 go_wp2
 go_loopw [5,6] (fun n i wr=>∃k m:Nat,k≤4∧m≤65535∧n= .int .i64 (m:Nat)∧i= .int .i64 (k:Nat)∧Hid (hexGo s.data.toList a k=some m)∧wr=w) (fun _ i _=>4 - (intOf i).toNat)
 case atStart=>exact ⟨0,0,by omega,by omega,rfl,rfl,rfl,rfl⟩
 case round=>
  obtain ⟨k,m,hk,hm,rfl,rfl,hp,rfl⟩:=hrel
  by_cases hlt:k<4
  ·have hl:a+k<s.data.toList.length:=by rw[data_len];omega
   have hcc:s.data.toList[a+k]? =some (s[a+k]'(by omega)):=List.getElem?_eq_getElem hl
   have b1:(k:Int)<4:=by omega
   obtain ⟨K,hK⟩:∃K,a+k=K:=⟨_,rfl⟩
   have hKi:(a:Int)+(k:Int)=(K:Int):=by omega
   have hKs:K<s.size:=by omega
   simp only[hK] at hcc
   obtain ⟨c,hc⟩:∃c,s[K]=c:=⟨_,rfl⟩
   rw[hc,←hK] at hcc
   have hcb:=c.toNat_lt
   have b2:(0:Int)≤(K:Int):=by omega
   have b3:(K:Int)<(s.size:Int):=by omega
   obtain ⟨x,hx⟩:∃x,c.toNat=x:=⟨_,rfl⟩
   have hcx:(s[K].toNat:Int)=(x:Int):=by rw[hc,hx]
   have hmk:m<16 ^ k:=(hexGo_lt hp.out).1
   have hpk:16 ^ (k+1)≤16 ^ 4:=Nat.pow_le_pow_right (by omega) (by omega)
   rw[Nat.pow_succ] at hpk
   have hm2:∀v,v<16→m*16+v≤65535:=fun v hv=>by omega
   have hway:(48≤x∧x≤57)∨(97≤x∧x≤102)∨(65≤x∧x≤70)∨¬hexV c<16:=by
    by_cases h1:48≤x∧x≤57
    ·exact Or.inl h1
    ·by_cases h2:97≤x∧x≤102
     ·exact Or.inr (Or.inl h2)
     ·by_cases h3:65≤x∧x≤70
      ·exact Or.inr (Or.inr (Or.inl h3))
      ·exact Or.inr (Or.inr (Or.inr (hexV_no (by rw[hx];exact h1) (by rw[hx];exact h2) (by rw[hx];exact h3))))
   rcases hway with h|h|h|h
   ·have hv:hexV c=x - 48:=by rw[←hx];exact hexV_d (by rw[hx];exact h)
    have HST:Hid (hexGo s.data.toList a (k+1)=some (m*16+(x - 48))):=by show _=_;rw[←hv];exact hexGo_step hp.out hcc (by omega)
    have hm3:=hm2 (x - 48) (by omega)
    have c1:¬(x:Int)<48:=by omega
    have c2:¬57<(x:Int):=by omega
    clear hp hcb hK hcc hv hm2 hpk hmk
    go_wp2
    go_roundw
    case rel=>exact ⟨k+1,m*16+(x - 48),hlt,hm3,by refine congrArg (Value.int .i64) ?_;omega,by go_num,HST,trivial⟩
    case measure=>simp[intOf];omega
   ·have hv:hexV c=x - 97+10:=by rw[←hx];exact hexV_l (by rw[hx];exact h)
    have HST:Hid (hexGo s.data.toList a (k+1)=some (m*16+(x - 97+10))):=by show _=_;rw[←hv];exact hexGo_step hp.out hcc (by omega)
    have hm3:=hm2 (x - 97+10) (by omega)
    have c0:¬(x:Int)<48:=by omega
    have c0':57<(x:Int):=by omega
    have c1:¬(x:Int)<97:=by omega
    have c2:¬102<(x:Int):=by omega
    clear hp hcb hK hcc hv hm2 hpk hmk
    go_wp2
    go_roundw
    case rel=>exact ⟨k+1,m*16+(x - 97+10),hlt,hm3,by refine congrArg (Value.int .i64) ?_;omega,by go_num,HST,trivial⟩
    case measure=>simp[intOf];omega
   ·have hv:hexV c=x - 65+10:=by rw[←hx];exact hexV_u (by rw[hx];exact h)
    have HST:Hid (hexGo s.data.toList a (k+1)=some (m*16+(x - 65+10))):=by show _=_;rw[←hv];exact hexGo_step hp.out hcc (by omega)
    have hm3:=hm2 (x - 65+10) (by omega)
    have c0:¬(x:Int)<48:=by omega
    have c0':57<(x:Int):=by omega
    have c1:(x:Int)<97:=by omega
    have c2:¬(x:Int)<65:=by omega
    have c3:¬70<(x:Int):=by omega
    clear hp hcb hK hcc hv hm2 hpk hmk
    go_wp2
    go_roundw
    case rel=>exact ⟨k+1,m*16+(x - 65+10),hlt,hm3,by refine congrArg (Value.int .i64) ?_;omega,by go_num,HST,trivial⟩
    case measure=>simp[intOf];omega
   ·have hn:Hid (R=none):=by
     show _=_
     rw[←HR.out]
     exact hexGo_fail (hexGo_bad hcc h) hlt
    have hxn:¬(48≤x∧x≤57)∧¬(97≤x∧x≤102)∧¬(65≤x∧x≤70):=by
     refine ⟨fun h1=>h ?_,fun h1=>h ?_,fun h1=>h ?_⟩
     ·rw[hexV_d (by rw[hx];exact h1)];omega
     ·rw[hexV_l (by rw[hx];exact h1)];omega
     ·rw[hexV_u (by rw[hx];exact h1)];omega
    have hcase:(x:Int)<48∧(x:Int)<97∧(x:Int)<65∨(¬(x:Int)<48∧57<(x:Int)∧(x:Int)<97∧(x:Int)<65)∨(¬(x:Int)<48∧57<(x:Int)∧(x:Int)<97∧¬(x:Int)<65∧70<(x:Int))∨(¬(x:Int)<48∧57<(x:Int)∧¬(x:Int)<97∧102<(x:Int)∧¬(x:Int)<65∧70<(x:Int)):=by omega
    clear hp hcb hK hcc hm2 hpk hmk hxn h
    rcases hcase with ⟨c1,c2,c3⟩|⟨c1,c2,c3,c4⟩|⟨c1,c2,c3,c4,c5⟩|⟨c1,c2,c3,c4,c5,c6⟩
    all_goals go_wp2
    all_goals go_ret
    all_goals exact ⟨by rw[hn.out];rfl,rfl⟩
  ·obtain rfl:k=4:=by omega
   have hn:Hid (R=some m):=by show _=_;rw[←HR.out];exact hp.out
   go_wp2
   go_ret
   exact ⟨by rw[hn.out];rfl,rfl⟩
theorem refUnit_any (s:ByteArray) (a:Nat) (w:World) (hs:s.size≤80000000000) (ha:a≤90000000000):
 Calls Tryz.prog 183 #[.string s,.int .i64 (a:Nat)] w fun e w'=>e= .returned (.int .i64 (oi (unitP s.data.toList a)))∧w'=w:=by
 by_cases h:a+6≤s.size
 ·have a2:¬(s.size:Int) - (a:Int)<6:=by omega
  obtain ⟨K1,hK1⟩:∃K,a+1=K:=⟨_,rfl⟩
  obtain ⟨K2,hK2⟩:∃K,a+2=K:=⟨_,rfl⟩
  have k1:(a:Int)+1=(K1:Int):=by omega
  have k2:(a:Int)+2=(K2:Int):=by omega
  have b1:a<s.size:=by omega
  have b2:K1<s.size:=by omega
  have i1:(0:Int)≤(a:Int):=by omega
  have i2:(a:Int)<(s.size:Int):=by omega
  have i3:(0:Int)≤(K1:Int):=by omega
  have i4:(K1:Int)<(s.size:Int):=by omega
  have g0:s.data.toList[a]? =some s[a]:=List.getElem?_eq_getElem (by rw[data_len];exact b1)
  have g1:s.data.toList[a+1]? =some s[K1]:=by rw[hK1];exact List.getElem?_eq_getElem (by rw[data_len];exact b2)
  have hU:unitP s.data.toList a=if s[a].toNat=92∧s[K1].toNat=117 then hexGo s.data.toList K2 4 else none:=by
   unfold unitP
   rw[g0,g1,hK2]
   have e1:(some s[a]=some (92:UInt8))↔s[a].toNat=92:=by rw[Option.some.injEq];exact u8_iff (n:=92) (by decide)
   have e2:(some s[K1]=some (117:UInt8))↔s[K1].toNat=117:=by rw[Option.some.injEq];exact u8_iff (n:=117) (by decide)
   simp only[e1,e2]
  obtain ⟨x,hx⟩:∃x,s[a].toNat=x:=⟨_,rfl⟩
  obtain ⟨y,hy⟩:∃y,s[K1].toNat=y:=⟨_,rfl⟩
  have hxi:(s[a].toNat:Int)=(x:Int):=by rw[hx]
  have hyi:(s[K1].toNat:Int)=(y:Int):=by rw[hy]
  rw[hx,hy] at hU
  have HH:=gd (fun w'=>refHex_any s K2 w' hs (by omega))
  clear g0 g1 hK1 hK2 h
  by_cases h1:x=92
  ·by_cases h2:y=117
   ·rw[if_pos ⟨h1,h2⟩] at hU
    rw[hU]
    obtain ⟨V,hV⟩:∃V,oi (hexGo s.data.toList K2 4)=V:=⟨_,rfl⟩
    rw[hV] at HH⊢
    subst h1 h2
    clear hU hV
    go_enter Tryz.func183,Tryz.ntmps183
    go_wp2_with (first|(go_at_call 205;(have hz:=HH.out w);(with_reducible refine Calls.mono hz ?_);clear hz;rintro e w1 ⟨rfl,rfl⟩))
    go_ret
    exact ⟨rfl,rfl⟩
   ·rw[if_neg (fun e=>h2 e.2)] at hU
    rw[hU]
    have c2:((y:Int) !=117)=true:=by simp;omega
    subst h1
    clear hU h2
    go_enter Tryz.func183,Tryz.ntmps183
    go_wp2
    go_ret
    exact ⟨rfl,rfl⟩
  ·rw[if_neg (fun e=>h1 e.1)] at hU
   rw[hU]
   have c2:((x:Int) !=92)=true:=by simp;omega
   clear hU h1
   go_enter Tryz.func183,Tryz.ntmps183
   go_wp2
   go_ret
   exact ⟨rfl,rfl⟩
 ·rw[unit_short (by rw[data_len];exact h)]
  have a2:(s.size:Int) - (a:Int)<6:=by omega
  go_enter Tryz.func183,Tryz.ntmps183
  go_wp2
  go_ret
  exact ⟨rfl,rfl⟩
end
section
set_option linter.unusedSimpArgs false
def seqV (o:Option (Nat×Nat)):Value:=match o with
 |some (r,n)=> .tuple #[.int .i64 (r:Nat),.int .i64 (n:Nat)]
 |none=> .tuple #[.int .i64 0,.int .i64 0]
theorem refSeq_any (s:ByteArray) (a:Nat) (w:World) (hs:s.size≤80000000000) (ha:a+1<s.size):
 Calls Tryz.prog 154 #[.string s,.int .i64 (a:Nat)] w fun e w'=>e= .returned (seqV (seqP s.data.toList a))∧w'=w:=by
 obtain ⟨K1,hK1⟩:∃K,a+1=K:=⟨_,rfl⟩
 obtain ⟨K6,hK6⟩:∃K,a+6=K:=⟨_,rfl⟩
 have k1:(a:Int)+1=(K1:Int):=by omega
 have k6:(a:Int)+6=(K6:Int):=by omega
 have b2:K1<s.size:=by omega
 have i3:(0:Int)≤(K1:Int):=by omega
 have i4:(K1:Int)<(s.size:Int):=by omega
 have g1:s.data.toList[a+1]? =some s[K1]:=by rw[hK1];exact List.getElem?_eq_getElem (by rw[data_len];exact b2)
 have hq:=seqP_at g1
 obtain ⟨x,hx⟩:∃x,s[K1].toNat=x:=⟨_,rfl⟩
 have hxi:(s[K1].toNat:Int)=(x:Int):=by rw[hx]
 rw[hx,hK6] at hq
 have HU1:=gd (fun w'=>refUnit_any s a w' hs (by omega))
 have HU2:=gd (fun w'=>refUnit_any s K6 w' hs (by omega))
 clear g1 hK1 hK6
 by_cases he:x=34∨x=92∨x=47∨x=98∨x=102∨x=110∨x=114∨x=116
 ·have hv:∃r,escN x=some r:=by
   unfold escN
   rcases he with rfl|rfl|rfl|rfl|rfl|rfl|rfl|rfl<;>exact ⟨_,rfl⟩
  obtain ⟨r,hr⟩:=hv
  rw[hr] at hq
  simp only at hq
  rw[hq]
  clear hq
  rcases he with rfl|rfl|rfl|rfl|rfl|rfl|rfl|rfl
  all_goals (obtain rfl:=Option.some.inj hr;clear hr)
  all_goals go_enter Tryz.func154,Tryz.ntmps154
  all_goals go_wp2
  all_goals go_ret2
  all_goals exact ⟨rfl,rfl⟩
 ·have hv:escN x=none:=by
   unfold escN
   rw[if_neg (by omega),if_neg (by omega),if_neg (by omega),if_neg (by omega),if_neg (by omega),if_neg (by omega)]
  rw[hv] at hq
  simp only at hq
  rw[hq]
  clear hq hv
  have n1:¬(x:Int)=34:=by omega
  have n2:¬(x:Int)=92:=by omega
  have n3:¬(x:Int)=47:=by omega
  have n4:¬(x:Int)=98:=by omega
  have n5:¬(x:Int)=102:=by omega
  have n6:¬(x:Int)=110:=by omega
  have n7:¬(x:Int)=114:=by omega
  have n8:¬(x:Int)=116:=by omega
  clear he
  cases hu:unitP s.data.toList a with
  |none=>
   rw[hu] at HU1
   simp only[oi] at HU1
   clear hu
   go_enter Tryz.func154,Tryz.ntmps154
   go_wp2_with (first|(go_at_call 183;(have hz:=HU1.out w);(with_reducible refine Calls.mono hz ?_);clear hz;rintro e w1 ⟨rfl,rfl⟩))
   go_ret2
   exact ⟨rfl,rfl⟩
  |some n=>
   rw[hu] at HU1
   simp only[oi] at HU1
   simp only
   clear hu
   obtain ⟨X,hX⟩:∃X:Int,(n:Int)=X:=⟨_,rfl⟩
   rw[hX] at HU1
   have HX:=gd hX
   by_cases h1:55296≤n∧n≤56319
   ·rw[if_pos h1]
    have m1:¬X<55296:=by omega
    have m2:¬56319<X:=by omega
    cases hu2:unitP s.data.toList K6 with
    |none=>
     rw[hu2] at HU2
     simp only[oi] at HU2
     clear hu2 h1 hX
     go_enter Tryz.func154,Tryz.ntmps154
     go_wp2_with (first|(go_at_call 183;(have hz:=HU1.out w);(with_reducible refine Calls.mono hz ?_);clear hz;rintro e w1 ⟨rfl,rfl⟩)|(go_at_call 183;(have hz:=HU2.out w1);(with_reducible refine Calls.mono hz ?_);clear hz;rintro e w2 ⟨rfl,rfl⟩))
     go_ret2
     exact ⟨rfl,rfl⟩
    |some m=>
     rw[hu2] at HU2
     simp only[oi] at HU2
     simp only
     clear hu2
     obtain ⟨Y,hY⟩:∃Y:Int,(m:Int)=Y:=⟨_,rfl⟩
     rw[hY] at HU2
     by_cases h2:56320≤m∧m≤57343
     ·rw[if_pos h2]
      obtain ⟨r,hr⟩:∃r,65536+(n - 55296)*1024+m - 56320=r:=⟨_,rfl⟩
      rw[hr]
      have HRR:Hid (65536+(X - 55296)*1024+Y - 56320=(r:Int)):=by show _=_;omega
      have m3:¬Y<56320:=by omega
      have m4:¬57343<Y:=by omega
      have p1:0≤X:=by omega
      have p2:X≤56319:=by omega
      have p3:0≤Y:=by omega
      have p4:Y≤57343:=by omega
      clear hr h1 h2 hX hY
      go_enter Tryz.func154,Tryz.ntmps154
      go_wp2_with (first|(go_at_call 183;(have hz:=HU1.out w);(with_reducible refine Calls.mono hz ?_);clear hz;rintro e w1 ⟨rfl,rfl⟩)|(go_at_call 183;(have hz:=HU2.out w1);(with_reducible refine Calls.mono hz ?_);clear hz;rintro e w2 ⟨rfl,rfl⟩))
      go_ret2
      exact ⟨by rw[show seqV (some (r,12))= .tuple #[.int .i64 (65536+(X - 55296)*1024+Y - 56320),.int .i64 12] by rw[HRR.out];rfl];rfl,rfl⟩
     ·rw[if_neg h2]
      have hc:Y<56320∨¬Y<56320∧57343<Y:=by omega
      clear h2 h1 hX hY
      rcases hc with c1|⟨c1,c2⟩
      all_goals go_enter Tryz.func154,Tryz.ntmps154
      all_goals go_wp2_with (first|(go_at_call 183;(have hz:=HU1.out w);(with_reducible refine Calls.mono hz ?_);clear hz;rintro e w1 ⟨rfl,rfl⟩)|(go_at_call 183;(have hz:=HU2.out w1);(with_reducible refine Calls.mono hz ?_);clear hz;rintro e w2 ⟨rfl,rfl⟩))
      all_goals go_ret2
      all_goals exact ⟨rfl,rfl⟩
   ·rw[if_neg h1]
    by_cases h2:56320≤n∧n≤57343
    ·rw[if_pos h2]
     have m1:¬X<55296:=by omega
     have m2:56319<X:=by omega
     have m0:¬X<0:=by omega
     have m3:¬X<56320:=by omega
     have m4:¬57343<X:=by omega
     clear h1 h2 hX
     go_enter Tryz.func154,Tryz.ntmps154
     go_wp2_with (first|(go_at_call 183;(have hz:=HU1.out w);(with_reducible refine Calls.mono hz ?_);clear hz;rintro e w1 ⟨rfl,rfl⟩))
     go_ret2
     exact ⟨rfl,rfl⟩
    ·rw[if_neg h2]
     have m0:¬X<0:=by omega
     have hc:X<55296∧X<56320∨(¬X<55296∧56319<X∧¬X<56320∧57343<X):=by omega
     clear h1 h2 hX
     rcases hc with ⟨c1,c2⟩|⟨c1,c2,c3,c4⟩
     all_goals go_enter Tryz.func154,Tryz.ntmps154
     all_goals go_wp2_with (first|(go_at_call 183;(have hz:=HU1.out w);(with_reducible refine Calls.mono hz ?_);clear hz;rintro e w1 ⟨rfl,rfl⟩))
     all_goals go_ret2
     all_goals exact ⟨by rw[show seqV (some (n,6))= .tuple #[.int .i64 X,.int .i64 6] by rw[←HX.out];rfl];rfl,rfl⟩
end
section
set_option linter.unusedSimpArgs false
def StrR (o:Option (List UInt8×Nat)) (e:Ending):Prop:=match o with
 |some (t,to_)=>e= .returned (.tuple #[.string (str t),.int .i64 (to_:Nat),.int .i64 0])
 |none=>∃a x:Nat,x≠0∧e= .returned (.tuple #[.string ⟨#[]⟩,.int .i64 (a:Nat),.int .i64 (x:Nat)])
theorem cat_list' (O:ByteArray) (L:List UInt8):(O++str L).data.toList=O.data.toList++L:=by simp[str]
theorem strS_n0 {l:List UInt8} {i:Nat} {o:List UInt8} (h:(dec (l.drop i)).2=0):strS l i o= .bad:=by unfold strS;rw[if_pos h]
theorem strS_lo {l:List UInt8} {i:Nat} {o:List UInt8} (h0:(dec (l.drop i)).2≠0) (h:(dec (l.drop i)).1<32):strS l i o= .bad:=by unfold strS;rw[if_neg h0,if_pos h]
theorem strS_q {l:List UInt8} {i:Nat} {o:List UInt8} (h0:(dec (l.drop i)).2≠0) (h:(dec (l.drop i)).1=34):strS l i o= .done o (i+1):=by unfold strS;rw[if_neg h0,if_neg (by omega),if_pos h]
theorem strS_b {l:List UInt8} {i:Nat} {o:List UInt8} (h0:(dec (l.drop i)).2≠0) (h:(dec (l.drop i)).1=92):strS l i o=match seqP l i with
 |some (r,n)=> .next (i+n) (o++encN r)
 |none=> .bad:=by unfold strS;rw[if_neg h0,if_neg (by omega),if_neg (by omega),if_pos h];rfl
theorem strS_c {l:List UInt8} {i:Nat} {o:List UInt8} (h0:(dec (l.drop i)).2≠0) (h1:¬(dec (l.drop i)).1<32) (h2:(dec (l.drop i)).1≠34) (h3:(dec (l.drop i)).1≠92):strS l i o= .next (i+(dec (l.drop i)).2) (o++encN (dec (l.drop i)).1):=by
 unfold strS;rw[if_neg h0,if_neg h1,if_neg h2,if_neg h3]
theorem refStrP_any (s:ByteArray) (a:Nat) (w:World) (hs:s.size≤80000000000) (ha:a<s.size) (h34:s.data.toList[a]? =some 34):
 Calls Tryz.prog 109 #[.string s,.int .i64 (a:Nat)] w fun e w'=>StrR (strP s.data.toList a) e∧Ext w w':=by
 have hml:s.size≤maxLen:=by unfold maxLen;omega
 have hsa:s[a].toNat=34:=by
  rw[List.getElem?_eq_getElem (by rw[data_len];exact ha)] at h34
  injection h34 with h34
  have h34:s[a]=34:=h34
  rw[h34];rfl
 have h34i:(s[a].toNat:Int)=34:=by rw[hsa];rfl
 have hR0:strP s.data.toList a=strGo s.data.toList (s.size+1) (a+1) []:=by unfold strP;rw[if_pos h34,data_len]
 rw[hR0]
 obtain ⟨R,hR⟩:∃R,strGo s.data.toList (s.size+1) (a+1) []=R:=⟨_,rfl⟩
 rw[hR]
 have i1:¬(a:Int)<0:=by omega
 have i1':(0:Int)≤(a:Int):=by omega
 have i2:(a:Int)<(s.size:Int):=by omega
 have i3:¬(s.size:Int)≤(a:Int):=by omega
 clear hR0 h34 hsa
 have HR:=gd hR
 clear hR
 go_enter Tryz.func109,Tryz.ntmps109
 go_wp2
 clear i1 i1' i2 i3 h34i
 go_loopw [7,8] (fun o v wr=>∃(i f:Nat) (O:ByteArray),a+1≤i∧i≤s.size∧s.size<f+i∧o= .string O∧v= .int .i64 (i:Nat)∧Hid (O.size≤i)∧Hid (strGo s.data.toList f i O.data.toList=R)∧Ext w wr) (fun _ v _=>s.size - (intOf v).toNat)
 case atStart=>exact ⟨a+1,s.size+1,noS,Nat.le_refl _,ha,by omega,rfl,by go_num,Nat.zero_le _,HR.out,Ext.refl _⟩
 case round=>
  obtain ⟨i,f,O,hai,his,hf,rfl,rfl,hO,hg,hx⟩:=hrel
  by_cases hlt:i<s.size
  ·obtain ⟨f,rfl⟩:∃g,f=g+1:=⟨f - 1,by omega⟩
   have hcon:=refDecode_in s i wr hlt hml
   have hle:=dec_le (s.data.toList.drop i)
   rw[List.length_drop,data_len] at hle
   have hbad:strS s.data.toList i O.data.toList= .bad→R=none:=fun h=>hg.out.symm.trans (strGo_bad h)
   have hn0:=strS_n0 (l:=s.data.toList) (i:=i) (o:=O.data.toList)
   have hlo:=strS_lo (l:=s.data.toList) (i:=i) (o:=O.data.toList)
   have hq:=strS_q (l:=s.data.toList) (i:=i) (o:=O.data.toList)
   have hb:=strS_b (l:=s.data.toList) (i:=i) (o:=O.data.toList)
   have hc:=strS_c (l:=s.data.toList) (i:=i) (o:=O.data.toList)
   have hsc:(dec (s.data.toList.drop i)).2≠0→scalar (dec (s.data.toList.drop i)).1∧(encN (dec (s.data.toList.drop i)).1).length=(dec (s.data.toList.drop i)).2:=fun h=>(dec_app [] h).2
   generalize (dec (s.data.toList.drop i)).1=r at*
   generalize (dec (s.data.toList.drop i)).2=n at*
   have HC:=gd hcon
   have hit:(i:Int)<(s.size:Int):=by omega
   clear hcon
   by_cases h0:n=0
   ·have hr:=hbad (hn0 h0)
    subst hr
    subst h0
    clear hn0 hlo hq hb hc hsc hbad hg hle HR
    go_wp2_with (first|(go_at_call 127;(with_reducible refine Calls.mono HC.out ?_);rintro e w2 ⟨rfl,hx2⟩))
    go_ret3
    exact ⟨⟨i,5,by decide,rfl⟩,hx.trans hx2⟩
   have n0:¬(n:Int)=0:=by omega
   by_cases h1:r<32
   ·have hr:=hbad (hlo h0 h1)
    subst hr
    have r1:(r:Int)<32:=by omega
    clear hn0 hlo hq hb hc hsc hbad hg hle h0 h1 HR
    go_wp2_with (first|(go_at_call 127;(with_reducible refine Calls.mono HC.out ?_);rintro e w2 ⟨rfl,hx2⟩))
    go_ret3
    exact ⟨⟨i,6,by decide,rfl⟩,hx.trans hx2⟩
   have r1:¬(r:Int)<32:=by omega
   by_cases h2:r=34
   ·have hr:=hg.out.symm.trans (strGo_done (hq h0 h2))
    subst hr
    subst h2
    clear hn0 hlo hq hb hc hsc hbad hg hle h0 h1 HR r1
    go_wp2_with (first|(go_at_call 127;(with_reducible refine Calls.mono HC.out ?_);rintro e w2 ⟨rfl,hx2⟩))
    go_ret3
    refine ⟨?_,hx.trans hx2⟩
    show _=_
    rw[str_of]
    first|rfl|(refine congrArg (fun t=>Ending.returned (.tuple #[.string O,.int .i64 t,.int .i64 0])) ?_;omega)
   have r2:¬(r:Int)=34:=by omega
   by_cases h3:r=92
   ·replace hb:=hb h0 h3
    subst h3
    by_cases h4:i+1<s.size
    ·have HQ:=gd (fun w'=>refSeq_any s i w' hs h4)
     have i9:¬(i:Int)+1=(s.size:Int):=by omega
     cases hsq:seqP s.data.toList i with
     |none=>
      rw[hsq] at hb HQ
      have hr:=hbad hb
      subst hr
      clear hn0 hlo hq hb hc hsc hbad hg hle h0 h1 h2 HR r1 r2 hsq
      go_wp2_with (first|(go_at_call 127;(with_reducible refine Calls.mono HC.out ?_);rintro e w2 ⟨rfl,hx2⟩)|(go_at_call 154;(with_reducible refine Calls.mono (HQ.out _) ?_);rintro e w3 ⟨rfl,rfl⟩;simp only[seqV]))
      go_ret3
      exact ⟨⟨i,16,by decide,rfl⟩,hx.trans hx2⟩
     |some p=>
      obtain ⟨q,m⟩:=p
      obtain ⟨hqs,hqe,hm1,hm2⟩:=seq_ok hsq
      rw[data_len] at hm2
      rw[hsq] at hb HQ
      have HN0:=gd ((strGo_next hb).symm.trans hg.out)
      have HE:=gd (fun w'=>refEncode_any q w' (by unfold scalar at hqs;omega))
      obtain ⟨L,hL⟩:∃L,encN q=L:=⟨_,rfl⟩
      rw[hL] at HE HN0 hqe
      have hsL:(str L).size=L.length:=by rw[←data_len,str_list]
      have hO2:=hO.out
      have m0:¬(m:Int)=0:=by omega
      have HN:Hid (strGo s.data.toList f (i+m) (O++str L).data.toList=R):=by
       show _=_
       rw[cat_list']
       exact HN0.out
      have HO2:Hid ((O++str L).size≤i+m):=by
       show _≤_
       rw[ByteArray.size_append,hsL]
       omega
      have g1:¬9223372036854775807<O.size+L.length:=by omega
      have g2:¬9223372036854775807<O.size+(str L).size:=by omega
      clear hn0 hlo hq hb hc hsc hbad hg hle h0 h1 h2 HR r1 r2 hsq hqs hqe HN0 hL
      go_wp2_with (first|(go_at_call 127;(with_reducible refine Calls.mono HC.out ?_);rintro e w2 ⟨rfl,hx2⟩)|(go_at_call 154;(with_reducible refine Calls.mono (HQ.out _) ?_);rintro e w3 ⟨rfl,rfl⟩;simp only[seqV])|(go_at_call 155;(with_reducible refine Calls.mono (HE.out _) ?_);rintro e w4 ⟨rfl,hx4⟩))
      go_roundw
      case rel=>exact ⟨i+m,f,O++str L,by omega,hm2,by omega,rfl,by go_num,HO2,HN,(hx.trans hx2).trans hx4⟩
      case measure=>simp[intOf];omega
    ·have hend:=seqP_end (l:=s.data.toList) (i:=i) (by rw[data_len];omega)
     rw[hend] at hb
     have hr:=hbad hb
     subst hr
     have i9:(i:Int)+1=(s.size:Int):=by omega
     clear hn0 hlo hq hb hc hsc hbad hg hle h0 h1 h2 HR r1 r2 hend
     go_wp2_with (first|(go_at_call 127;(with_reducible refine Calls.mono HC.out ?_);rintro e w2 ⟨rfl,hx2⟩))
     go_ret3
     exact ⟨⟨a,8,by decide,rfl⟩,hx.trans hx2⟩
   ·replace hc:=hc h0 h1 h2 h3
    obtain ⟨hqs,hqe⟩:=hsc h0
    have HN0:=gd ((strGo_next hc).symm.trans hg.out)
    have HE:=gd (fun w'=>refEncode_any r w' (by unfold scalar at hqs;omega))
    obtain ⟨L,hL⟩:∃L,encN r=L:=⟨_,rfl⟩
    rw[hL] at HE HN0 hqe
    have hsL:(str L).size=L.length:=by rw[←data_len,str_list]
    have hO2:=hO.out
    have r3:¬(r:Int)=92:=by omega
    have HN:Hid (strGo s.data.toList f (i+n) (O++str L).data.toList=R):=by
     show _=_
     rw[cat_list']
     exact HN0.out
    have HO2:Hid ((O++str L).size≤i+n):=by
     show _≤_
     rw[ByteArray.size_append,hsL]
     omega
    have g1:¬9223372036854775807<O.size+L.length:=by omega
    have g2:¬9223372036854775807<O.size+(str L).size:=by omega
    clear hn0 hlo hq hb hc hsc hbad hg h1 h2 h3 HR hqs hqe HN0 hL
    go_wp2_with (first|(go_at_call 127;(with_reducible refine Calls.mono HC.out ?_);rintro e w2 ⟨rfl,hx2⟩)|(go_at_call 155;(with_reducible refine Calls.mono (HE.out _) ?_);rintro e w4 ⟨rfl,hx4⟩))
    go_roundw
    case rel=>exact ⟨i+n,f,O++str L,by omega,by omega,by omega,rfl,by go_num,HO2,HN,(hx.trans hx2).trans hx4⟩
    case measure=>simp[intOf];omega
  ·have hr:=hg.out.symm.trans (strGo_end (by rw[data_len];omega))
   subst hr
   have hit:¬(i:Int)<(s.size:Int):=by omega
   clear hg HR
   go_wp2
   go_ret3
   exact ⟨⟨a,8,by decide,rfl⟩,hx⟩
end
def qPre (l:List UInt8) (k:Nat):List UInt8:=34::(l.take k).flatMap qB
theorem qPre_step (s:ByteArray) (k:Nat) (hk:k<s.size):qPre s.data.toList (k+1)=qPre s.data.toList k++qB s[k]:=by
 unfold qPre
 rw[List.take_succ_eq_append_getElem (by rw[data_len];exact hk)]
 simp
 rfl
theorem qPre_len (l:List UInt8) (k:Nat):(qPre l k).length≤1+6*k:=by
 unfold qPre
 have h:=flat_len (l.take k)
 have h2:(l.take k).length≤k:=List.length_take_le _ _
 simp only[List.length_cons]
 omega
theorem qPre_all (l:List UInt8):qPre l l.length++ [34]=quoteL l:=by
 unfold qPre quoteL
 simp
def Tryz.lays196_ren:Go.Shelf.Ren:=⟨fun|196=>178|259=>203|n=>n,fun|9=>9|4=>4|3=>3|5=>5|12=>12|119=>247|0=>0|46=>225|139=>250|138=>249|53=>209|n=>n,fun|3=>1|4=>2|n=>n⟩
theorem Tryz.lays196:Go.Proofs.Lays.n196 Tryz.prog Tryz.lays196_ren:={
 mixed:=by kernel_rfl
 f196:=Tryz.func178.trans (congrArg some (by kernel_rfl))
 f259:=Tryz.func203.trans (congrArg some (by kernel_rfl))
 t0:=Tryz.underlying0
 a0:=Tryz.isAgg0
 z0:=Tryz.sizeOf0
 v0:=Tryz.zeroValue0
 t3:=Tryz.underlying3
 a3:=Tryz.isAgg3
 z3:=Tryz.sizeOf3
 v3:=Tryz.zeroValue3
 t4:=Tryz.underlying4
 a4:=Tryz.isAgg4
 z4:=Tryz.sizeOf4
 v4:=Tryz.zeroValue4
 t5:=Tryz.underlying5
 a5:=Tryz.isAgg5
 z5:=Tryz.sizeOf5
 v5:=Tryz.zeroValue5
 t9:=Tryz.underlying9
 a9:=Tryz.isAgg9
 z9:=Tryz.sizeOf9
 v9:=Tryz.zeroValue9
 t12:=Tryz.underlying12
 a12:=Tryz.isAgg12
 z12:=Tryz.sizeOf12
 v12:=Tryz.zeroValue12
 t46:=Tryz.underlying225
 a46:=Tryz.isAgg225
 z46:=Tryz.sizeOf225
 v46:=Tryz.zeroValue225
 t53:=Tryz.underlying209
 a53:=Tryz.isAgg209
 z53:=Tryz.sizeOf209
 v53:=Tryz.zeroValue209
 t119:=Tryz.underlying247
 a119:=Tryz.isAgg247
 z119:=Tryz.sizeOf247
 t138:=Tryz.underlying249
 a138:=Tryz.isAgg249
 z138:=Tryz.sizeOf249
 v138:=Tryz.zeroValue249
 t139:=Tryz.underlying250
 a139:=Tryz.isAgg250
 z139:=Tryz.sizeOf250
 v139:=Tryz.zeroValue250
 g3:=by kernel_rfl
 g4:=by kernel_rfl}
open Go.RowKit in
theorem Tryz.utf8_ValidString (s:ByteArray) (w:World) (hs:s.size≤9223372036854775807) (hT:Lib.Utf8Tabs 1 2 w):
 Calls Tryz.prog 178 #[.string s] w fun e w'=>e= .returned (.bool (Lib.validD s.data.toList))∧Below w.heap.size w w':=Any.utf8_ValidString Tryz.lays196 s w hs hT
section
theorem validString_any (s:ByteArray) (w:World) (hE:Env w) (hs:s.size≤16777216):
 Calls Tryz.prog 178 #[.string s] w fun e w'=>e= .returned (.bool (Lib.validD s.data.toList))∧Ext w w':=
 Tryz.utf8_ValidString s w (by omega) hE.utf8
theorem letAt0 (w:World):(Instr.index 259 (.agg #[.int .u8 98,.int .u8 8,.int .u8 102,.int .u8 12,.int .u8 110,.int .u8 10,.int .u8 114,.int .u8 13,.int .u8 116,.int .u8 9]) (.int .i64 0)).run Tryz.prog w= .ok (.agg #[.int .u8 98,.int .u8 8]) w:=by kernel_rfl
theorem letAt1 (w:World):(Instr.index 259 (.agg #[.int .u8 98,.int .u8 8,.int .u8 102,.int .u8 12,.int .u8 110,.int .u8 10,.int .u8 114,.int .u8 13,.int .u8 116,.int .u8 9]) (.int .i64 1)).run Tryz.prog w= .ok (.agg #[.int .u8 102,.int .u8 12]) w:=by kernel_rfl
theorem letAt2 (w:World):(Instr.index 259 (.agg #[.int .u8 98,.int .u8 8,.int .u8 102,.int .u8 12,.int .u8 110,.int .u8 10,.int .u8 114,.int .u8 13,.int .u8 116,.int .u8 9]) (.int .i64 2)).run Tryz.prog w= .ok (.agg #[.int .u8 110,.int .u8 10]) w:=by kernel_rfl
theorem letAt3 (w:World):(Instr.index 259 (.agg #[.int .u8 98,.int .u8 8,.int .u8 102,.int .u8 12,.int .u8 110,.int .u8 10,.int .u8 114,.int .u8 13,.int .u8 116,.int .u8 9]) (.int .i64 3)).run Tryz.prog w= .ok (.agg #[.int .u8 114,.int .u8 13]) w:=by kernel_rfl
theorem letAt4 (w:World):(Instr.index 259 (.agg #[.int .u8 98,.int .u8 8,.int .u8 102,.int .u8 12,.int .u8 110,.int .u8 10,.int .u8 114,.int .u8 13,.int .u8 116,.int .u8 9]) (.int .i64 4)).run Tryz.prog w= .ok (.agg #[.int .u8 116,.int .u8 9]) w:=by kernel_rfl
theorem hexSl (n:Nat) (hn:n<16):({data:=#[48,49,50,51,52,53,54,55,56,57,97,98,99,100,101,102]}:ByteArray).extract ((n:Int)).toNat ((n:Int)+1).toNat=str [hexD n]:=by
 have hc:n=0∨n=1∨n=2∨n=3∨n=4∨n=5∨n=6∨n=7∨n=8∨n=9∨n=10∨n=11∨n=12∨n=13∨n=14∨n=15:=by omega
 rcases hc with rfl|rfl|rfl|rfl|rfl|rfl|rfl|rfl|rfl|rfl|rfl|rfl|rfl|rfl|rfl|rfl<;>exact bytes_inj (by decide)
theorem hexText (x:Int) (a b:Nat) (ha:a<16) (hb:b<16) (hxa:x / 16=(a:Int)) (hxb:x % 16=(b:Int)):
 ({data:=#[92,117,48,48]}:ByteArray)++({data:=#[48,49,50,51,52,53,54,55,56,57,97,98,99,100,101,102]}:ByteArray).extract (x / 16).toNat (x / 16+1).toNat++({data:=#[48,49,50,51,52,53,54,55,56,57,97,98,99,100,101,102]}:ByteArray).extract (x % 16).toNat (x % 16+1).toNat=str [92,117,48,48,hexD a,hexD b]:=by
 rw[hxa,hxb,hexSl a ha,hexSl b hb]
 rfl
theorem conv2n (w:World) (a b:Int) (n:Nat) (h:n=w.heap.size):(convert 115 9 (.slice (some ⟨n,0,none⟩) 2 2)).run Tryz.prog (w.alloc (.cells #[.int .u8 a,.int .u8 b] 5))= .ok (.string (strOfNums [a,b])) (w.alloc (.cells #[.int .u8 a,.int .u8 b] 5)):=by subst h;exact conv2 w a b
attribute [local go_sem] conv2n letAt0 letAt1 letAt2 letAt3 letAt4
theorem escape_any (c:UInt8) (w:World) (hE:Env w):
 Calls Tryz.prog 204 #[.int .u8 (c.toNat:Nat)] w fun e w'=>e= .returned (.string (str (escB c)))∧Ext w w':=by
 obtain ⟨L,hL⟩:∃L,escB c=L:=⟨_,rfl⟩
 rw[hL]
 have HL:=gd hL
 clear hL
 obtain ⟨x,hx⟩:∃x:Int,(c.toNat:Int)=x:=⟨_,rfl⟩
 have hx1:=byteInt c
 rw[hx] at hx1⊢
 have hx0:0≤x:=by omega
 have HX:=gd hx
 clear hx
 obtain ⟨t,fr,hlet⟩:=hE.letters
 by_cases hq:x=34∨x=92
 ·have hf:Hid (L= [92,UInt8.ofNat x.toNat]):=by
   show _=_
   have:=HX.out
   rw[←HL.out];unfold escB;rw[if_pos (by omega),show x.toNat=c.toNat by omega];simp
  clear HX HL
  rcases hq with rfl|rfl
  all_goals go_enter Tryz.func204,Tryz.ntmps204
  all_goals go_wp2
  all_goals go_ret
  all_goals exact ⟨by rw[hf.out];rfl,by repeat (first|exact Ext.refl _|apply Ext.drew|apply Ext.alloc|(refine Ext.setCell ?_ (by simp) _))⟩
 ·have hq1:(x==34)=false:=by rw[beq_eq_false_iff_ne];omega
  have hq2:(x==92)=false:=by rw[beq_eq_false_iff_ne];omega
  clear hq
  by_cases h32:32≤x
  ·have hf:Hid (L= []):=by
    show _=_
    have:=HX.out
    rw[beq_eq_false_iff_ne] at hq1 hq2
    rw[←HL.out];unfold escB;rw[if_neg (by omega),if_pos (by omega)]
   go_enter Tryz.func204,Tryz.ntmps204
   go_wp2
   all_goals go_ret
   all_goals exact ⟨by rw[hf.out];rfl,Ext.refl _⟩
  ·have h5:(x=8∨x=9∨x=10∨x=12∨x=13)∨(x≠8∧x≠9∧x≠10∧x≠12∧x≠13):=by omega
   rcases h5 with h5|h5
   ·have hf:Hid (L= [92,UInt8.ofNat (letterN x.toNat)]):=by
     show _=_
     have:=HX.out
     rw[←HL.out,escB_letter c (by rcases h5 with h|h|h|h|h<;>(rw[show c.toNat=x.toNat by omega,h];decide)),show c.toNat=x.toNat by omega]
    clear HX HL
    clear hq1 hq2
    rcases h5 with rfl|rfl|rfl|rfl|rfl
    all_goals go_enter Tryz.func204,Tryz.ntmps204
    all_goals go_wp2_with (refine wpList_load_row rfl 259 _ rfl 3 rfl t _ fr _ hlet Tryz.underlying259 rfl (by kernel_rfl) ?_)
    all_goals refine wp_loop_rounds 5 ?_
    all_goals rw[rounds_succ]
    all_goals go_wp2
    all_goals try rw[rounds_succ]
    all_goals try go_wp2
    all_goals try rw[rounds_succ]
    all_goals try go_wp2
    all_goals try rw[rounds_succ]
    all_goals try go_wp2
    all_goals try rw[rounds_succ]
    all_goals try go_wp2
    all_goals go_ret
    all_goals exact ⟨by rw[hf.out,str_nums];rfl,by repeat (first|exact Ext.refl _|apply Ext.drew|apply Ext.alloc|(refine Ext.setCell ?_ (by simp) _))⟩
   ·obtain ⟨n8,n9,n10,n12,n13⟩:=h5
    obtain ⟨a,ha⟩:∃a,c.toNat / 16=a:=⟨_,rfl⟩
    obtain ⟨b,hb⟩:∃b,c.toNat % 16=b:=⟨_,rfl⟩
    have hxc:=HX.out
    have hf:Hid (L= [92,117,48,48,hexD a,hexD b]):=by
     show _=_
     rw[beq_eq_false_iff_ne] at hq1 hq2
     rw[←HL.out,escB_hex c (by unfold letterN;(repeat' split)<;>omega) (by omega),ha,hb]
    have m8:((8:Int)==x)=false:=by rw[beq_eq_false_iff_ne];omega
    have m9:((9:Int)==x)=false:=by rw[beq_eq_false_iff_ne];omega
    have m10:((10:Int)==x)=false:=by rw[beq_eq_false_iff_ne];omega
    have m12:((12:Int)==x)=false:=by rw[beq_eq_false_iff_ne];omega
    have m13:((13:Int)==x)=false:=by rw[beq_eq_false_iff_ne];omega
    have hxa:Hid (x / 16=(a:Int)):=by show _=_;omega
    have hxb:Hid (x % 16=(b:Int)):=by show _=_;omega
    have ha16:(a:Int)<16:=by omega
    have hb16:(b:Int)<16:=by omega
    clear HX HL n8 n9 n10 n12 n13 ha hb hxc
    go_enter Tryz.func204,Tryz.ntmps204
    go_wp2_with (refine wpList_load_row rfl 259 _ rfl 3 rfl t _ fr _ hlet Tryz.underlying259 rfl (by kernel_rfl) ?_)
    refine wp_loop_rounds 6 ?_
    rw[rounds_succ]
    go_wp2
    rw[rounds_succ]
    go_wp2
    rw[rounds_succ]
    go_wp2
    rw[rounds_succ]
    go_wp2
    rw[rounds_succ]
    go_wp2
    rw[rounds_succ]
    go_wp2
    go_region
    have ht:=hexText x a b (by omega) (by omega) hxa.out hxb.out
    rw[ht,←hf.out]
    clear ht
    go_wp2
    go_ret
    exact ⟨rfl,by repeat (first|exact Ext.refl _|apply Ext.drew|apply Ext.alloc|(refine Ext.setCell ?_ (by simp) _))⟩
end
theorem isEmpty_str (l:List UInt8):(str l).toList.isEmpty=l.isEmpty:=by rw[toList_data,str_list]
theorem extract_list (s:ByteArray) (f k:Nat) (h:f≤k):(s.extract f k).data.toList=(s.data.toList.drop f).take (k - f):=by
 simp
theorem cat_list (a b:ByteArray):(a++b).data.toList=a.data.toList++b.data.toList:=by simp
theorem seg_step (s:ByteArray) (f k:Nat) (h:f≤k) (hk:k<s.size):(s.data.toList.drop f).take (k+1 - f)=(s.data.toList.drop f).take (k - f)++ [s[k]]:=by
 rw[show k+1 - f=(k - f)+1 by omega,List.take_succ_eq_append_getElem (by rw[List.length_drop,data_len];omega)]
 simp only[List.getElem_drop]
 congr 2
 have:f+(k - f)=k:=by omega
 simp only[this]
 rfl
theorem own_ext {w w':World} {base size n:Nat} {e:TypeId} {v:Value} {xs:List Value} (h:w.ownsRow base e size v n xs) (hx:Ext w w'):w'.ownsRow base e size v n xs:=
 h.kept (hx.grown none) (by cases v.ownBlock<;>simp)
theorem builder_ext {T e:TypeId} {B b:Nat} {bs:List Value} {w w':World} (h:Lib.IsBuilder T e B b bs w) (hx:Ext w w'):Lib.IsBuilder T e B b bs w':=by
 rcases h with ⟨hB,v,hb,hown,hne⟩|⟨hB,v,hb,hown,hne⟩
 ·exact Or.inl ⟨hB,v,hx.heap hb,own_ext hown hx,hne⟩
 ·exact Or.inr ⟨hB,v,hx.heap hb,own_ext hown hx,hne⟩
theorem quote_any (s:ByteArray) (w:World) (hE:Env w) (hs:s.size≤16777216):
 Calls Tryz.prog 180 #[.string s] w fun e w'=>e= .returned (.tuple #[.string (quoteS s).1,.int .i64 ((quoteS s).2:Nat)])∧Ext w w':=by
 have hval:=validString_any s w hE hs
 obtain ⟨V,hV⟩:∃V,Lib.validD s.data.toList=V:=⟨_,rfl⟩
 rw[hV] at hval
 have hq:quoteS s=if V then (str (quoteL s.data.toList),0) else (str [],5):=by unfold quoteS;rw[hV]
 rw[hq]
 clear hq hV
 have HVAL:=gd hval
 clear hval
 cases V
 ·go_enter Tryz.func180,Tryz.ntmps180
  go_wp2_with (go_at_call 178;refine (HVAL.out).mono ?_;rintro e w' ⟨rfl,hx⟩)
  go_ret2
  exact ⟨rfl,hx⟩
 ·obtain ⟨Q,hQ⟩:∃Q,quoteL s.data.toList=Q:=⟨_,rfl⟩
  rw[hQ]
  have HQ:=gd hQ
  clear hQ
  simp only[if_true]
  go_enter Tryz.func180,Tryz.ntmps180
  go_wp2_with (go_at_call 178;refine (HVAL.out).mono ?_;rintro e w1 ⟨rfl,hx⟩)
  refine (builderWriteByte_any w1.heap.size _ [] _ _ (Lib.fresh_isBuilder _ _ _) (by simp) (by simp)).mono ?_
  rintro e w2 ⟨rfl,hB2,hx2⟩
  have hxx:Ext w w2:=(hx.alloc _).then (Below.mono hx2 hx.size)
  have hbz:w1.heap.size≤w2.heap.size:=by have:=hx2.size;simp at this;omega
  have hwz:=hx.size
  go_wp2
  go_loopw [5,6,7,14] (fun fr _ _ i wr=>∃k f:Nat,k≤s.size∧f≤k∧i= .int .i64 k∧fr= .int .i64 f∧Lib.IsBuilder 117 5 w1.heap.size w1.heap.size (Lib.byteCells (qPre s.data.toList f)) wr∧
   Hid (qPre s.data.toList k=qPre s.data.toList f++(s.data.toList.drop f).take (k - f))∧Ext w wr∧w1.heap.size≤wr.heap.size) (fun _ _ _ i _=>s.size - (intOf i).toNat)
  case atStart=>exact ⟨0,0,Nat.zero_le _,Nat.zero_le _,rfl,rfl,hB2,by show _=_;simp,hxx,hbz⟩
  case round=>
   obtain ⟨k,f,hk,hf,rfl,rfl,hB,hq,hx3,hbz3⟩:=hrel
   have hle:=qPre_len s.data.toList f
   have hst:=hE.ext hx3
   by_cases hlt:k<s.size
   ·have hesc:=escape_any s[k] wr hst
    have hqs:=qPre_step s k hlt
    have hseg:=seg_step s f k hf hlt
    obtain ⟨E,hEq⟩:∃E,escB s[k]=E:=⟨_,rfl⟩
    have hlen:=escB_len s[k]
    unfold qB at hqs
    rw[hEq] at hesc hqs hlen
    have HESC:=gd hesc
    by_cases hE0:E= []
    ·subst hE0
     rw[if_pos rfl] at hqs
     have HQ3:Hid (qPre s.data.toList (k+1)=qPre s.data.toList f++(s.data.toList.drop f).take (k+1 - f)):=by
      show _=_
      rw[hqs,hq.out,hseg,List.append_assoc]
     have hem:(str ([]:List UInt8)).toList.isEmpty=true:=isEmpty_str []
     have HEM:=gd hem
     clear hesc hqs hseg hEq hq hem hlen
     go_wp2_with (go_at_call 204;refine (HESC.out).mono ?_;rintro e w' ⟨rfl,hx'⟩;have hem:=HEM.out)
     go_roundw
     case rel=>exact ⟨k+1,f,by omega,by omega,by go_num,rfl,builder_ext hB hx',HQ3,hx3.trans hx',Nat.le_trans hbz3 hx'.size⟩
     case measure=>simp[intOf];omega
    ·rw[if_neg hE0] at hqs
     have HQ3:Hid (Lib.byteCells (qPre s.data.toList (k+1))=Lib.byteCells (qPre s.data.toList f)++Lib.byteCells (s.extract f k++str E).data.toList):=by
      show _=_
      rw[hqs,hq.out,cat_list,extract_list s f k hf,str_list,List.append_assoc,byteCells_app]
     have hem:(str E).toList.isEmpty=false:=by rw[isEmpty_str];cases E<;>simp_all
     have HEM:=gd hem
     have hsz:(s.extract f k++str E).size≤16777216+6:=by
      have:(s.extract f k++str E).size=(s.extract f k++str E).data.toList.length:=rfl
      rw[this,cat_list,extract_list s f k hf,str_list,List.length_append,List.length_take,List.length_drop,data_len]
      omega
     have HSZ:=gd hsz
     clear hesc hqs hseg hEq hq hem hE0 hsz
     go_wp2_with (go_at_call 204;refine (HESC.out).mono ?_;rintro e w' ⟨rfl,hx'⟩;have hem:=HEM.out)
     have hB':=builder_ext hB hx'
     have hz3:=hx'.size
     refine (builderWriteString_any _ _ _ _ _ hB' (by rw[byteCells_len];have:=HSZ.out;omega) (by omega)).mono ?_
     rintro e w4 ⟨rfl,hB4,hx4⟩
     rw[←HQ3.out] at hB4
     go_wp2
     have hx5:Ext w w4:=(hx3.trans hx').then (Below.mono hx4 hwz)
     have hz5:=hx4.size
     go_roundw
     case rel=>exact ⟨k+1,k+1,by omega,by omega,by go_num,by go_num,hB4,by show _=_;simp,hx5,by omega⟩
     case measure=>simp[intOf];omega
   ·have hke:k=s.size:=by omega
    have hsz:(s.extract f s.size++str [34]).size≤16777216+6:=by
     have:(s.extract f s.size++str [34]).size=(s.extract f s.size++str [34]).data.toList.length:=rfl
     rw[this,cat_list,ext_list,str_list,List.length_append,List.length_drop,data_len]
     simp;omega
    have hfin:Lib.byteCells (qPre s.data.toList f)++Lib.byteCells (s.extract f s.size++str [34]).data.toList=Lib.byteCells Q:=by
     rw[←byteCells_app,cat_list,ext_list,str_list]
     congr 1
     have h:=hq.out
     rw[hke,List.take_of_length_le (by rw[List.length_drop,data_len];omega)] at h
     rw[←List.append_assoc,←h,←HQ.out,←qPre_all]
     rfl
    have HF:=gd hfin
    have HSZ:=gd hsz
    clear hfin hq hke hsz
    go_wp2_with (go_at_call 145;refine (builderWriteString_any _ _ _ (s.extract f s.size++str [34]) _ hB (by rw[byteCells_len];have:=HSZ.out;omega) hbz3).mono ?_;rintro e w4 ⟨rfl,hB4,hx4⟩)
    rw[HF.out] at hB4
    have hz5:=hx4.size
    have hx5:Ext w w4:=hx3.then (Below.mono hx4 hwz)
    go_wp2_with (go_at_call 70;refine (builderString_any _ _ _ _ hB4 (by omega)).mono ?_;rintro e w5 ⟨rfl,hx6⟩)
    go_ret2
    exact ⟨rfl,hx5.then (Below.mono hx6 hwz)⟩
section
attribute [local go_sem] conv1 strOfNums_size
def i64ok (n:Int):Prop:= -9223372036854775808≤n∧n≤9223372036854775807
def itoaS (n:Int):ByteArray:=str (Lib.itoa n)
theorem digits_small (u:Nat) (h:u<10):Lib.decDigits u= [UInt8.ofNat (48+u)]:=by rw[Lib.decDigits,dif_pos h]
theorem digits_big (u:Nat) (h:¬u<10):Lib.decDigits u=Lib.decDigits (u / 10)++ [UInt8.ofNat (48+u % 10)]:=by rw[Lib.decDigits,dif_neg h]
theorem wrap_ok (x:Int) (h:i64ok x):wrap64 x=x:=by unfold wrap64;have:=h.1;have:=h.2;omega
theorem formatInt_any (n:Int) (w:World) (hE:Env w) (hn:i64ok n):
 Calls Tryz.prog 72 #[.int .i64 n,.int .i64 10] w fun e w'=>e= .returned (.string (itoaS n))∧Ext w w':=by
 refine (Tryz.strconv_FormatInt_10 n hn.1 hn.2 w hE.pow).mono ?_
 rintro e w' ⟨rfl,k,os,rfl⟩
 exact ⟨rfl,Lib.below_grow _ w (Nat.le_refl _) k os⟩
end
def vcells (k:Int) (b:Bool) (n:Int) (s:ByteArray) (its:Value) (at_:Int):List Value:= [.int .i64 k,.bool b,.int .i64 n,.string s,its,.slice none 0 0,.int .i64 at_]
def ocells (ms:Value) (at_:Int):List Value:= [.int .i64 5,.bool false,.int .i64 0,.string ⟨#[]⟩,.slice none 0 0,ms,.int .i64 at_]
def mcell (m:ByteArray×List Value×Int):List Value:= .string m.1::(m.2.1++ [.int .i64 m.2.2])
def RVn:Nat→World→JV→List Value→Prop
 |0,_,_,_=>False
 |n+1,w,j,cs=>∃a:Int,match j with
  | .null=>cs=vcells 0 false 0 ⟨#[]⟩ (.slice none 0 0) a
  | .bool b=>cs=vcells 1 b 0 ⟨#[]⟩ (.slice none 0 0) a
  | .int x=>cs=vcells 2 false x ⟨#[]⟩ (.slice none 0 0) a
  | .str s=>cs=vcells 3 false 0 s (.slice none 0 0) a
  | .obj ks vs=>∃(v:Value) (ms:List (ByteArray×List Value×Int)),cs=ocells v a∧ms.map Prod.fst=ks∧ms.length=vs.length∧RSl w 9 v vs.length (ms.map mcell).flatten∧∀(i:Nat) (j:JV) (m:ByteArray×List Value×Int),vs[i]? =some j→ms[i]? =some m→RVn n w j m.2.1
  | .arr l=>∃(v:Value) (css:List (List Value)),cs=vcells 4 false 0 ⟨#[]⟩ v a∧css.length=l.length∧RSl w 7 v l.length css.flatten∧∀(i:Nat) (j:JV) (c:List Value),l[i]? =some j→css[i]? =some c→RVn n w j c
def RV (w:World) (j:JV) (cs:List Value):Prop:=∃n,RVn n w j cs
theorem RVn.ext {w w':World} (hx:Ext w w'):∀(n:Nat) (j:JV) (cs:List Value),RVn n w j cs→RVn n w' j cs
 |0,_,_,h=>h.elim
 |n+1,j,cs,⟨a,h⟩=>by
  refine ⟨a,?_⟩
  cases j with
  |arr l=>
   obtain ⟨v,css,h1,h2,h3,h4⟩:=h
   exact ⟨v,css,h1,h2,h3.ext hx,fun i j c hj hc=>RVn.ext hx n j c (h4 i j c hj hc)⟩
  |obj ks vs=>
   obtain ⟨v,ms,h1,h2,h3,h4,h5⟩:=h
   exact ⟨v,ms,h1,h2,h3,h4.ext hx,fun i j c hj hc=>RVn.ext hx n j c.2.1 (h5 i j c hj hc)⟩
  |_=>exact h
theorem RVn.more {w:World}:∀(n m:Nat) (j:JV) (cs:List Value),n≤m→RVn n w j cs→RVn m w j cs
 |0,_,_,_,_,h=>h.elim
 |n+1,0,_,_,h,_=>by omega
 |n+1,m+1,j,cs,hnm,⟨a,h⟩=>by
  refine ⟨a,?_⟩
  cases j with
  |arr l=>
   obtain ⟨v,css,h1,h2,h3,h4⟩:=h
   exact ⟨v,css,h1,h2,h3,fun i j c hj hc=>RVn.more n m j c (by omega) (h4 i j c hj hc)⟩
  |obj ks vs=>
   obtain ⟨v,ms,h1,h2,h3,h4,h5⟩:=h
   exact ⟨v,ms,h1,h2,h3,h4,fun i j c hj hc=>RVn.more n m j c.2.1 (by omega) (h5 i j c hj hc)⟩
  |_=>exact h
theorem RV.ext {w w':World} {j:JV} {cs:List Value} (h:RV w j cs) (hx:Ext w w'):RV w' j cs:=let ⟨n,h⟩:=h;⟨n,h.ext hx⟩
theorem RVn.len {w:World} {n:Nat} {j:JV} {cs:List Value} (h:RVn n w j cs):cs.length=7:=by
 cases n with
 |zero=>exact h.elim
 |succ n=>
  obtain ⟨a,h⟩:=h
  cases j with
  |arr l=>obtain ⟨v,css,rfl,_⟩:=h;rfl
  |obj ks vs=>obtain ⟨v,ms,rfl,_⟩:=h;rfl
  |_=>subst h;rfl
theorem unused_any (n:Nat) (j:JV) (cs:List Value) (w:World) (h:RVn n w j cs):
 Calls Tryz.prog 177 #[.agg cs.toArray] w fun e w'=>e= .returned (.bool true)∧Ext w w':=by
 cases n with
 |zero=>exact h.elim
 |succ n=>
  obtain ⟨a,h⟩:=h
  cases j with
  |arr l=>
   obtain ⟨v,css,rfl,hcl,hr,_⟩:=h
   obtain ⟨_,A,c,rfl,hmc,hcm,_,_⟩:=hr
   unfold vcells
   go_enter Tryz.func177,Tryz.ntmps177
   go_wp2
   all_goals go_ret
   all_goals exact ⟨by first|rfl|(refine congrArg (fun b=>Ending.returned (.bool b)) ?_;simp_all),by repeat (first|exact Ext.refl _|apply Ext.drew|apply Ext.alloc|(refine Ext.setCell ?_ (by simp) _))⟩
  |obj ks vs=>
   obtain ⟨v,ms,rfl, -, -,hr,_⟩:=h
   obtain ⟨_,A,c,rfl,hmc,hcm,_,_⟩:=hr
   unfold ocells
   go_enter Tryz.func177,Tryz.ntmps177
   go_wp2
   all_goals go_ret
   all_goals exact ⟨by first|rfl|(refine congrArg (fun b=>Ending.returned (.bool b)) ?_;simp_all),by repeat (first|exact Ext.refl _|apply Ext.drew|apply Ext.alloc|(refine Ext.setCell ?_ (by simp) _))⟩
  |null=>
   subst h
   unfold vcells
   go_enter Tryz.func177,Tryz.ntmps177
   go_wp2
   all_goals go_ret
   all_goals exact ⟨by first|rfl|(refine congrArg (fun b=>Ending.returned (.bool b)) ?_;simp_all),by repeat (first|exact Ext.refl _|apply Ext.drew|apply Ext.alloc|(refine Ext.setCell ?_ (by simp) _))⟩
  |bool b=>
   subst h
   unfold vcells
   go_enter Tryz.func177,Tryz.ntmps177
   go_wp2
   all_goals go_ret
   all_goals exact ⟨by first|rfl|(refine congrArg (fun b=>Ending.returned (.bool b)) ?_;simp_all),by repeat (first|exact Ext.refl _|apply Ext.drew|apply Ext.alloc|(refine Ext.setCell ?_ (by simp) _))⟩
  |int x=>
   subst h
   unfold vcells
   go_enter Tryz.func177,Tryz.ntmps177
   go_wp2
   all_goals go_ret
   all_goals exact ⟨by first|rfl|(refine congrArg (fun b=>Ending.returned (.bool b)) ?_;simp_all),by repeat (first|exact Ext.refl _|apply Ext.drew|apply Ext.alloc|(refine Ext.setCell ?_ (by simp) _))⟩
  |str t=>
   subst h
   unfold vcells
   go_enter Tryz.func177,Tryz.ntmps177
   go_wp2
   all_goals go_ret
   all_goals exact ⟨by first|rfl|(refine congrArg (fun b=>Ending.returned (.bool b)) ?_;simp_all),by repeat (first|exact Ext.refl _|apply Ext.drew|apply Ext.alloc|(refine Ext.setCell ?_ (by simp) _))⟩
def bJ:JO→Bool
 | .bool _ b=>b
 |_=>false
def nJ:JO→Int
 | .int _ n=>n
 |_=>0
def ksJ:JO→List (ByteArray×Nat)
 | .obj _ ks _=>ks
 |_=> []
def vsJ:JO→List JO
 | .obj _ _ vs=>vs
 |_=> []
def wcells (k:Int) (b:Bool) (n:Int) (s:ByteArray) (its ms:Value) (a:Int):List Value:= [.int .i64 k,.bool b,.int .i64 n,.string s,its,ms,.int .i64 a]
def RIts (w:World) (P:JO→List Value→Prop) (v:Value) (l:List JO):Prop:=∃css:List (List Value),css.length=l.length∧RSl w 7 v l.length css.flatten∧∀(i:Nat) (j:JO) (c:List Value),l[i]? =some j→css[i]? =some c→P j c
def RMems (w:World) (P:JO→List Value→Prop) (v:Value) (ks:List (ByteArray×Nat)) (vs:List JO):Prop:=
 ∃ms:List (ByteArray×List Value×Int),ms.map (fun m=>(m.1,m.2.2))=ks.map (fun k=>(k.1,(k.2:Int)))∧ms.length=vs.length∧RSl w 9 v vs.length (ms.map mcell).flatten∧∀(i:Nat) (j:JO) (m:ByteArray×List Value×Int),vs[i]? =some j→ms[i]? =some m→P j m.2.1
def RJn:Nat→World→JO→List Value→Prop
 |0,_,_,_=>False
 |n+1,w,j,cs=>∃its ms:Value,cs=wcells (kindJ j) (bJ j) (nJ j) (sJ j) its ms (atJ j)∧RIts w (RJn n w) its (itemsJ j)∧RMems w (RJn n w) ms (ksJ j) (vsJ j)∧
  (kindJ j≠4→its= .slice none 0 0)∧(kindJ j≠5→ms= .slice none 0 0)
def RJ (w:World) (j:JO) (cs:List Value):Prop:=∃n,RJn n w j cs
theorem RIts.mono {w w':World} {P Q:JO→List Value→Prop} {v:Value} {l:List JO} (h:RIts w P v l) (hx:Ext w w') (hpq:∀j c,P j c→Q j c):RIts w' Q v l:=by
 obtain ⟨css,h1,h2,h3⟩:=h
 exact ⟨css,h1,h2.ext hx,fun i j c hj hc=>hpq _ _ (h3 i j c hj hc)⟩
theorem RMems.mono {w w':World} {P Q:JO→List Value→Prop} {v:Value} {ks:List (ByteArray×Nat)} {vs:List JO} (h:RMems w P v ks vs) (hx:Ext w w') (hpq:∀j c,P j c→Q j c):RMems w' Q v ks vs:=by
 obtain ⟨css,h0,h1,h2,h3⟩:=h
 exact ⟨css,h0,h1,h2.ext hx,fun i j c hj hc=>hpq _ _ (h3 i j c hj hc)⟩
theorem RJn.ext {w w':World} (hx:Ext w w'):∀{n:Nat} {j:JO} {cs:List Value},RJn n w j cs→RJn n w' j cs
 |0,_,_,h=>h.elim
 |n+1,j,cs,⟨its,ms,h1,h2,h3,h4,h5⟩=>⟨its,ms,h1,h2.mono hx fun _ _ h=>h.ext hx,h3.mono hx fun _ _ h=>h.ext hx,h4,h5⟩
theorem RJn.more {w:World}:∀{n m:Nat} {j:JO} {cs:List Value},n≤m→RJn n w j cs→RJn m w j cs
 |0,_,_,_,_,h=>h.elim
 |n+1,0,_,_,h,_=>by omega
 |n+1,m+1,j,cs,hnm,⟨its,ms,h1,h2,h3,h4,h5⟩=>⟨its,ms,h1,h2.mono (Ext.refl w) fun _ _ h=>h.more (Nat.le_of_succ_le_succ hnm),h3.mono (Ext.refl w) fun _ _ h=>h.more (Nat.le_of_succ_le_succ hnm),h4,h5⟩
theorem RJ.ext {w w':World} {j:JO} {cs:List Value} (h:RJ w j cs) (hx:Ext w w'):RJ w' j cs:=let ⟨n,h⟩:=h;⟨n,h.ext hx⟩
theorem RJn.cells {w:World} {n:Nat} {j:JO} {cs:List Value} (h:RJn n w j cs):∃A p c B q d,cs=wcells (kindJ j) (bJ j) (nJ j) (sJ j) (.slice A p c) (.slice B q d) (atJ j):=by
 cases n with
 |zero=>exact h.elim
 |succ n=>
  obtain ⟨its,ms,rfl,⟨_,_,h2,_⟩,⟨_,_,_,h3,_⟩,_⟩:=h
  obtain ⟨_,A,c,rfl,_⟩:=h2
  obtain ⟨_,B,d,rfl,_⟩:=h3
  exact ⟨_,_,_,_,_,_,rfl⟩
theorem RJ.cells {w:World} {j:JO} {cs:List Value} (h:RJ w j cs):∃A p c B q d,cs=wcells (kindJ j) (bJ j) (nJ j) (sJ j) (.slice A p c) (.slice B q d) (atJ j):=let ⟨_,h⟩:=h;h.cells
theorem RJn.len {w:World} {n:Nat} {j:JO} {cs:List Value} (h:RJn n w j cs):cs.length=7:=by
 obtain ⟨_,_,_,_,_,_,rfl⟩:=h.cells;rfl
theorem wcells_one {k:Int} {b:Bool} {n:Int} {s:ByteArray} {A B:Option Addr} {p c q d:Nat} {a:Int}:∀u∈wcells k b n s (.slice A p c) (.slice B q d) a,u.oneCell'=true:=by
 intro u hu
 simp[wcells] at hu
 rcases hu with rfl|rfl|rfl|rfl|rfl|rfl|rfl<;>rfl
theorem RJn.leaf {w:World} {n:Nat} {j:JO} (hj:itemsJ j= []∧ksJ j= []∧vsJ j= []):RJn (n+1) w j (wcells (kindJ j) (bJ j) (nJ j) (sJ j) (.slice none 0 0) (.slice none 0 0) (atJ j)):=by
 refine ⟨_,_,rfl,?_,?_,fun _=>rfl,fun _=>rfl⟩
 ·rw[hj.1];exact ⟨[],rfl,RSl.nil w 7,fun i j c hj _=>by simp at hj⟩
 ·rw[hj.2.1,hj.2.2];exact ⟨[],rfl,rfl,RSl.nil w 9,fun i j c hj _=>by simp at hj⟩
theorem RJ.null (w:World):RJ w (.null 0) (wcells 0 false 0 ⟨#[]⟩ (.slice none 0 0) (.slice none 0 0) 0):=⟨1,RJn.leaf (j:= .null 0) ⟨rfl,rfl,rfl⟩⟩
theorem Ext.setBoth {B:Nat} {a b:World} (h:Below B a b) (p:Addr) (v:Value):Below B (a.setCell p v) (b.setCell p v):=by
 refine ⟨h.os,h.tape,h.output,?_,fun k hk=> ?_⟩
 ·simpa [World.setCell] using h.size
 ·simp only[World.setCell,Array.getElem?_modify,h.block k hk]
def setS (w:World):List (Addr×ByteArray)→World
 | []=>w
 |p::t=>setS (w.setCell p.1 (.string p.2)) t
theorem setS_snoc:∀(l:List (Addr×ByteArray)) (w:World) (p:Addr×ByteArray),setS w (l++ [p])=(setS w l).setCell p.1 (.string p.2)
 | [],_,_=>rfl
 |q::t,w,p=>setS_snoc t (w.setCell q.1 (.string q.2)) p
theorem setS_size:∀(l:List (Addr×ByteArray)) (w:World),(setS w l).heap.size=w.heap.size
 | [],_=>rfl
 |p::t,w=>by rw[setS,setS_size t];simp[World.setCell]
theorem setS_frozen:∀(l:List (Addr×ByteArray)) (w:World) (a:Addr),(setS w l).frozen? a=w.frozen? a
 | [],_,_=>rfl
 |p::t,w,a=>by rw[setS,setS_frozen t,World.frozen?_setCell]
theorem setS_other:∀(l:List (Addr×ByteArray)) (w:World) (a:Addr),(∀p∈l,p.1≠a)→(setS w l).cell? a=w.cell? a
 | [],_,_,_=>rfl
 |p::t,w,a,h=>by rw[setS,setS_other t _ a (fun q hq=>h q (by simp[hq])),World.cell?_setCell_other w p.1 a _ (h p (by simp))]
structure Ptrs (w:World) (v:Value) (ps:List (Addr×ByteArray)):Prop where
 row:RSl w 1 v ps.length (ps.map fun p=>Value.pointer (some p.1))
 cells:∀p∈ps,w.cell? p.1=some (.string p.2)∧w.frozen? p.1=false
 size:∀p∈ps,p.2.size≤16777216
 apart:ps.Pairwise fun p q=>p.1≠q.1
theorem below_cell {w:World} {B:Nat} {a:Addr} {v:Value} {w':World} (h:Below B w w') (hB:w.heap.size≤B) (hc:w.cell? a=some v):w'.cell? a=some v:=
 (Below.cell h (Nat.lt_of_lt_of_le (World.block_lt_of_cell? w a hc) hB)).trans hc
theorem collapseAll_any (v:Value) (ps:List (Addr×ByteArray)) (w:World) (hE:Env w) (h:Ptrs w v ps):
 Calls Tryz.prog 74 #[v] w fun e w'=>e= .returned (.int .i64 (firstErr (ps.map (·.2)):Nat))∧
  ((firstErr (ps.map (·.2))=0∧Below w.heap.size (setS w (ps.map fun p=>(p.1,collapse p.2))) w')∨(firstErr (ps.map (·.2))≠0∧Ext w w')):=by
 obtain ⟨hrow,hcells,hsz,hap⟩:=h
 obtain ⟨_,A,c,rfl,hmc,hcm,_,_⟩:=id hrow
 have hnm:ps.length≤9223372036854775807:=Nat.le_trans hmc hcm
 clear hmc hcm
 obtain ⟨E,hEr⟩:∃E,firstErr (ps.map (·.2))=E:=⟨_,rfl⟩
 rw[hEr]
 go_enter Tryz.func74,Tryz.ntmps74
 go_wp2
 go_loopw [11] (fun i wr=>∃k:Nat,k≤ps.length∧i= .int .i64 k∧Hid (E=firstErr ((ps.map (·.2)).drop k))∧Ext w wr) (fun i _=>ps.length - (intOf i).toNat)
 case atStart=>exact ⟨0,Nat.zero_le _,rfl,hEr.symm,Ext.refl _⟩
 case round=>
  obtain ⟨k,hk,rfl,hf,hx⟩:=hrel
  by_cases hlt:k<ps.length
  ·obtain ⟨ad,rfl,hcell⟩:=(hrow.ext hx).at1 k (.pointer (some ps[k].1)) (by rw[List.getElem?_map,List.getElem?_eq_getElem hlt];rfl)
   have hst:=hx.cell (hcells ps[k] (List.getElem_mem hlt)).1
   have hfd:=firstErr_drop (l:=ps.map (·.2)) (k:=k) (by rw[List.length_map];exact hlt)
   rw[List.getElem_map] at hfd
   have HC:=gd (textCheck_any ps[k].2 wr (hE.ext hx) (by have:=hsz ps[k] (List.getElem_mem hlt);unfold maxLen;omega))
   obtain ⟨O,hO⟩:∃O,(checkS ps[k].2).1=O:=⟨_,rfl⟩
   obtain ⟨K,hK⟩:∃K,(checkS ps[k].2).2=K:=⟨_,rfl⟩
   obtain ⟨S,hS⟩:∃S,ps[k].2=S:=⟨_,rfl⟩
   obtain ⟨a,ha⟩:∃a,ps[k].1=a:=⟨_,rfl⟩
   rw[hK] at hfd
   rw[hO,hK,hS] at HC
   rw[hS,ha] at hst
   rw[ha] at hcell
   have hff:=hf.out.trans hfd
   clear hfd hf hO hK hS ha hEr
   by_cases h0:K=0
   ·subst h0
    rw[if_pos rfl] at hff
    have HF:=gd hff
    clear hff
    go_wp2_with (first|(go_at_call 66;refine (HC.out).mono ?_;rintro e w' ⟨rfl,hx'⟩))
    go_roundw
    case rel=>exact ⟨k+1,hlt,by go_num,HF.out,hx.trans hx'⟩
    case measure=>simp[intOf];omega
   ·have hb:((K:Int) !=0)=true:=by simp;omega
    rw[if_neg h0] at hff
    subst hff
    have hfin:(E=0∧Below w.heap.size (setS w (ps.map fun p=>(p.1,collapse p.2))) w)∨E≠0:=Or.inr h0
    clear hfin
    have H0:=gd h0
    clear h0
    go_wp2_with (first|(go_at_call 66;refine (HC.out).mono ?_;rintro e w' ⟨rfl,hx'⟩))
    go_ret
    exact ⟨rfl,Or.inr ⟨H0.out,hx.trans hx'⟩⟩
  ·have hke:k=ps.length:=by omega
   have hff:=hf.out
   rw[List.drop_of_length_le (by rw[List.length_map];omega)] at hff
   have hff':E=0:=hff
   subst hff'
   subst hke
   clear hff hlt hf hEr hk
   obtain ⟨wo,rfl⟩:∃wo:World,wo=wr:=⟨_,rfl⟩
   go_wp2
   go_loopw [28] (fun i w2=>∃k:Nat,k≤ps.length∧i= .int .i64 k∧Below w.heap.size (setS w ((ps.take k).map fun p=>(p.1,collapse p.2))) w2∧w.heap.size≤w2.heap.size) (fun i _=>ps.length - (intOf i).toNat)
   case atStart=>exact ⟨0,Nat.zero_le _,rfl,hx,hx.size⟩
   case round=>
    obtain ⟨k,hk,rfl,hb,hz⟩:=hrel
    by_cases hlt:k<ps.length
    ·obtain ⟨wk,hwk⟩:∃wk,setS w ((ps.take k).map fun p=>(p.1,collapse p.2))=wk:=⟨_,rfl⟩
     have hzk:wk.heap.size=w.heap.size:=by rw[←hwk,setS_size]
     obtain ⟨ad,rfl,hc0⟩:=hrow.at1 k (.pointer (some ps[k].1)) (by rw[List.getElem?_map,List.getElem?_eq_getElem hlt];rfl)
     have hs0:=hcells ps[k] (List.getElem_mem hlt)
     have hs1:wk.cell? ps[k].1=some (.string ps[k].2):=by
      rw[←hwk,setS_other,hs0.1]
      intro p hp
      obtain ⟨q,hq,rfl⟩:=List.mem_map.1 hp
      obtain ⟨j,hj,rfl⟩:=List.mem_take_iff_getElem.1 hq
      exact List.pairwise_iff_getElem.1 hap j k (by omega) hlt (by omega)
     have hf1:wk.frozen? ps[k].1=false:=by rw[←hwk,setS_frozen];exact hs0.2
     have hc1:wk.cell? (ad.add k)=some (.pointer (some ps[k].1)):=by
      rw[←hwk,setS_other,hc0]
      intro p hp e
      obtain ⟨q,hq,rfl⟩:=List.mem_map.1 hp
      have:=(hcells q (List.mem_of_mem_take hq)).1
      simp only at e
      rw[e,hc0] at this
      cases this
     have hB:ps[k].1.block<w.heap.size:=by have:=World.block_lt_of_cell? wk _ hs1;omega
     rw[hwk] at hb
     have hcell:=below_cell hb (Nat.le_of_eq hzk) hc1
     have hst:=below_cell hb (Nat.le_of_eq hzk) hs1
     have hfz:wr.frozen? ps[k].1=false:=(Below.frozen hb hB).trans hf1
     have HT:Hid (setS w ((ps.take (k+1)).map fun p=>(p.1,collapse p.2))=wk.setCell ps[k].1 (.string (collapse ps[k].2))):=by
      show _=_
      rw[List.take_succ_eq_append_getElem hlt,List.map_append,List.map_cons,List.map_nil,setS_snoc,hwk]
     have HC:=gd (collapse_any ps[k].2 wr (by have:=hsz ps[k] (List.getElem_mem hlt);omega))
     have HZ:=gd hz
     have HZK:=gd hzk
     clear hz hzk hs0 hs1 hf1 hc1 hc0 hwk
     obtain ⟨a,ha⟩:∃a,ps[k].1=a:=⟨_,rfl⟩
     obtain ⟨S,hS⟩:∃S,ps[k].2=S:=⟨_,rfl⟩
     rw[ha] at hcell hst hfz HT hB
     rw[hS] at hst HT HC
     clear ha hS
     go_wp2_with (first|(go_at_call 30;refine (HC.out).mono ?_;rintro e w3 ⟨rfl,hx3⟩;(have hst3:=hx3.cell hst);(have hfz3:=(Below.frozen hx3 (Nat.lt_of_lt_of_le hB HZ.out)).trans hfz)))
     go_roundw
     case rel=>exact ⟨k+1,hlt,by go_num,by rw[HT.out];exact Ext.setBoth (hb.trans (Below.mono hx3 HZ.out)) _ _,by have:=hx3.size;have:=HZ.out;simp[World.setCell];omega⟩
     case measure=>simp[intOf];omega
    ·have hke:k=ps.length:=by omega
     subst hke
     rw[List.take_of_length_le (Nat.le_refl _)] at hb
     clear hlt hk
     go_wp2
     go_ret
     exact ⟨rfl,hb⟩
theorem refCompare_any (x y:ByteArray) (w:World):
 Calls Tryz.prog 87 #[.string x,.string y] w fun e w'=>e= .returned (.int .i64 (sCmp x y))∧w'=w:=by
 have hfin:sCmp x y=if Op.bytesLess x.toList y.toList=true then -1 else if (Op.bytesLess x.toList y.toList||x.toList==y.toList)=true then 0 else 1:=by
  unfold sCmp
  by_cases h:Op.bytesLess x.toList y.toList=true
  ·rw[if_pos h,if_pos h]
  ·rw[if_neg h,if_neg h]
   simp only[Bool.not_eq_true] at h
   simp[h]
 rw[hfin]
 clear hfin
 go_enter Tryz.func87,Tryz.ntmps87
 go_wp2
 all_goals go_ret
 all_goals exact ⟨by simp_all,rfl⟩
theorem inTime_any (t:Int) (w:World):
 Calls Tryz.prog 76 #[.int .i64 t] w fun e w'=>e= .returned (.bool (inT t))∧w=w':=by
 unfold inT
 go_enter Tryz.func76,Tryz.ntmps76
 go_wp2
 all_goals go_ret
 all_goals exact ⟨by simp_all<;>omega,rfl⟩
theorem refInTime_any (t:Int) (w:World):
 Calls Tryz.prog 59 #[.int .i64 t] w fun e w'=>e= .returned (.bool (inT t))∧w=w':=by
 unfold inT
 go_enter Tryz.func59,Tryz.ntmps59
 go_wp2
 all_goals go_ret
 all_goals exact ⟨by simp_all<;>omega,rfl⟩
theorem refCmpE_any (a b:Ent) (w:World):
 Calls Tryz.prog 61 #[.agg (eCells a).toArray,.agg (eCells b).toArray] w fun e w'=>e= .returned (.int .i64 (entCmp a b))∧Ext w w':=by
 have HC:=gd (fun w'=>refCompare_any a.id b.id w')
 have hfin:entCmp a b=if b.upd<a.upd then -1 else if a.upd<b.upd then 1 else sCmp a.id b.id:=by
  unfold entCmp iCmp
  by_cases h:b.upd<a.upd
  ·simp[h]
  ·by_cases k:a.upd<b.upd
   ·simp[h,k]
   ·simp[h,k]
 rw[hfin]
 clear hfin
 obtain ⟨aid,atitle,alink,acontent,aupd⟩:=a
 obtain ⟨bid,btitle,blink,bcontent,bupd⟩:=b
 unfold eCells
 go_enter Tryz.func61,Tryz.ntmps61
 go_wp2_with (go_at_call 87;refine (HC.out _).mono ?_;rintro e w1 ⟨rfl,rfl⟩)
 all_goals go_ret
 all_goals exact ⟨by simp_all,((Ext.refl _).alloc _).alloc _⟩
def eokS (e:Ent):Prop:=e.id.size≤16777216∧e.title.size≤16777216∧e.link.size≤16777216∧e.content.size≤16777216
theorem size_alloc (w:World) (o:Obj):(w.alloc o).heap.size=w.heap.size+1:=by show (w.heap.push o).size=_;simp
theorem Ext.boxedF {w w':World} {cs:Array Value} {t:TypeId} (h:Ext (w.alloc (.cells cs t)) w') (i:Nat):w'.frozen? ⟨w.heap.size,i,none⟩=false:=
 Lib.frozen_of_heap (h.heap (heap_alloc_new w _)) i
theorem setCell_alloc (w:World) (cs:Array Value) (t:TypeId) (fr:Nat×Nat) (i:Nat) (v:Value) (hi:i<cs.size):(w.alloc (.cells cs t fr)).setCell ⟨w.heap.size,i,none⟩ v=w.alloc (.cells (cs.setIfInBounds i v) t fr):=by
 simp only[World.setCell,World.alloc]
 congr 1
 apply Array.ext_getElem?
 intro k
 rw[Array.getElem?_modify]
 by_cases hk:w.heap.size=k
 ·subst hk;simp
 ·rw[if_neg hk]
  rcases Nat.lt_or_gt_of_ne hk with h|h
  ·rw[Array.getElem?_eq_none (by simp;omega),Array.getElem?_eq_none (by simp;omega)]
  ·rw[Array.getElem?_push_lt h,Array.getElem?_push_lt h]
theorem setCell_alloc3 (w:World) (cs:Array Value) (t:TypeId) (fr:Nat×Nat) (B C:Obj) (i:Nat) (v:Value) (hi:i<cs.size):
 (((w.alloc (.cells cs t fr)).alloc B).alloc C).setCell ⟨w.heap.size,i,none⟩ v=((w.alloc (.cells (cs.setIfInBounds i v) t fr)).alloc B).alloc C:=by
 have h1:∀(W:World) (O:Obj) (p:Addr) (u:Value),p.block<W.heap.size→(W.alloc O).setCell p u=(W.setCell p u).alloc O:=by
  intro W O p u hp
  simp only[World.setCell,World.alloc]
  congr 1
  apply Array.ext_getElem?
  intro k
  rw[Array.getElem?_modify]
  rcases Nat.lt_trichotomy k W.heap.size with h|h|h
  ·rw[Array.getElem?_push_lt h,Array.getElem?_push_lt (by simpa using h)]
   simp[Array.getElem_modify]
   split<;>simp
  ·subst h
   have:¬p.block=W.heap.size:=by omega
   have e1:(W.heap.push O)[W.heap.size]? =some O:=by simp
   have e2:∀f:Obj→Obj,((W.heap.modify p.block f).push O)[W.heap.size]? =some O:=by
    intro f
    have:=Array.getElem?_push_size (xs:=W.heap.modify p.block f) (x:=O)
    rwa [Array.size_modify] at this
   rw[if_neg this,e1,e2]
  ·rw[Array.getElem?_eq_none (by simp;omega),Array.getElem?_eq_none (by simp;omega)]
   split<;>rfl
 rw[h1 _ C _ _ (by simp;omega),h1 _ B _ _ (by simp),setCell_alloc _ _ _ _ _ _ hi]
theorem boxed3a {w:World} {A:Array Value} {t:TypeId} {fr:Nat×Nat} {B C:Obj} (d:Aft (((w.alloc (.cells A t fr)).alloc B).alloc C)) (i:Nat) (v:Value) (hv:A[i]? =some v):d.w.cell? ⟨w.heap.size,i,none⟩=some v:=
 Ext.boxed (((Ext.refl _).alloc B).alloc C|>.trans d.ext) i v hv
theorem boxed3b {w:World} {B:Array Value} {t:TypeId} {fr:Nat×Nat} {A C:Obj} (d:Aft (((w.alloc A).alloc (.cells B t fr)).alloc C)) (i:Nat) (v:Value) (hv:B[i]? =some v):d.w.cell? ⟨w.heap.size+1,i,none⟩=some v:=by
 have h:=Ext.boxed (w:=w.alloc A) (((Ext.refl _).alloc C).trans d.ext) i v hv
 rwa [size_alloc] at h
theorem setS_box4 (w:World) (a0 b0 c0 d0 a b c d:ByteArray) (x:Value) (t:TypeId) (fr:Nat×Nat) (B C:Obj):
 setS (((w.alloc (.cells #[.string a0,.string b0,.string c0,.string d0,x] t fr)).alloc B).alloc C) [(⟨w.heap.size,0,none⟩,a),(⟨w.heap.size,1,none⟩,b),(⟨w.heap.size,2,none⟩,c),(⟨w.heap.size,3,none⟩,d)]
  =((w.alloc (.cells #[.string a,.string b,.string c,.string d,x] t fr)).alloc B).alloc C:=by
 simp only[setS]
 rw[setCell_alloc3 _ _ _ _ _ _ _ _ (by simp),setCell_alloc3 _ _ _ _ _ _ _ _ (by simp),setCell_alloc3 _ _ _ _ _ _ _ _ (by simp),setCell_alloc3 _ _ _ _ _ _ _ _ (by simp)]
 rfl
theorem results_cell_row2 {P:Program} {fn:Func} {p u:Tmp} {ty:TypeId} (h:fn.results=#[.cell p ty,.tmp u]) (tmps:Array Value) (w:World) (g:Nat) (t:TypeId) (cs:Array Value) (fr:Nat×Nat) (d:TypeDesc)
 (hp:tmps.getD p undef= .pointer (some ⟨g,0,none⟩)) (hg:w.heap[g]? =some (.cells cs t fr))
 (hu:P.underlying ty=some d) (hd:(match d with| .struct _| .array _ _=>true|_=>false)=true) (hi:(P.info? ty).map (·.size)=some cs.size):
 (results fn tmps).run P w= .ok (.tuple #[.agg cs,tmps.getD u undef]) w:=by
 rw[results_cell_tmp h,hp]
 simp[asAddr,run_loadVar_row w g t ty cs fr d hg hu hd hi]
theorem oneA {cs:List Value} (h:∀u∈cs,u.oneCell'=true):cs.toArray.all (fun u=>u.oneCell')=true:=by simpa using h
theorem size_ent:(Tryz.prog.info? 64).map (fun i=>i.size)=some 5:=by kernel_rfl
theorem eCells_one (e:Ent):∀u∈eCells e,u.oneCell'=true:=by
 intro u hu
 simp[eCells] at hu
 rcases hu with rfl|rfl|rfl|rfl|rfl<;>rfl
theorem heap3b {w w1:World} {A B C:Obj} (hx:Ext (((w.alloc A).alloc B).alloc C) w1):w1.heap[w.heap.size+1]? =some B:=by
 have h0:(((w.alloc A).alloc B).alloc C).heap[w.heap.size+1]? =some B:=by
  rw[Below.heap_alloc _ _ _ (by simp)]
  have:=heap_alloc_new (w.alloc A) B
  rwa [size_alloc] at this
 exact hx.heap h0
abbrev entW (w:World) (e:Ent):World:=((w.alloc (.cells (eCells e).toArray 64)).alloc (.cells (eCells zeroE).toArray 64)).alloc (.cells #[.pointer (some ⟨w.heap.size,0,none⟩),.pointer (some ⟨w.heap.size,1,none⟩),.pointer (some ⟨w.heap.size,2,none⟩),.pointer (some ⟨w.heap.size,3,none⟩)] 129)
theorem entW_ptrs (w:World) (e:Ent) (hs:eokS e):Ptrs (entW w e) (.slice (some ⟨w.heap.size+1+1,0,none⟩) 4 4) [(⟨w.heap.size,0,none⟩,e.id),(⟨w.heap.size,1,none⟩,e.title),(⟨w.heap.size,2,none⟩,e.link),(⟨w.heap.size,3,none⟩,e.content)]:=by
 obtain ⟨s1,s2,s3,s4⟩:=hs
 refine ⟨rsl_block (e:=129) (fr:=(0,0)) (cs:= [_,_,_,_]) (heap_alloc3_new w _ _ _) rfl (by decide),?_,?_,?_⟩
 ·have hx:Ext (w.alloc (.cells (eCells e).toArray 64)) (entW w e):=((Ext.refl _).alloc _).alloc _
  intro p hp
  simp only[List.mem_cons,List.mem_nil_iff,or_false] at hp
  rcases hp with rfl|rfl|rfl|rfl
  ·exact ⟨hx.boxed 0 _ rfl,hx.boxedF 0⟩
  ·exact ⟨hx.boxed 1 _ rfl,hx.boxedF 1⟩
  ·exact ⟨hx.boxed 2 _ rfl,hx.boxedF 2⟩
  ·exact ⟨hx.boxed 3 _ rfl,hx.boxedF 3⟩
 ·intro p hp
  simp only[List.mem_cons,List.mem_nil_iff,or_false] at hp
  rcases hp with rfl|rfl|rfl|rfl<;>assumption
 ·simp
theorem entColl_bad (e:Ent) (w:World) (hE:Env w) (hs:eokS e) (h0:firstErr (strsE e)≠0):
 Calls Tryz.prog 74 #[.slice (some ⟨w.heap.size+1+1,0,none⟩) 4 4] (entW w e) fun x w'=>x= .returned (.int .i64 (firstErr (strsE e):Nat))∧Ext (entW w e) w':=by
 refine (collapseAll_any _ _ _ (((hE.alloc _).alloc _).alloc _) (entW_ptrs w e hs)).mono ?_
 rintro x w' ⟨h1,h2⟩
 refine ⟨h1,?_⟩
 rcases h2 with h2|h2
 ·exact absurd h2.1 h0
 ·exact h2.2
theorem entColl_ok (e:Ent) (w:World) (hE:Env w) (hs:eokS e) (h0:firstErr (strsE e)=0):
 Calls Tryz.prog 74 #[.slice (some ⟨w.heap.size+1+1,0,none⟩) 4 4] (entW w e) fun x w'=>x= .returned (.int .i64 0)∧Ext (entW w (collE e)) w':=by
 refine (collapseAll_any _ _ _ (((hE.alloc _).alloc _).alloc _) (entW_ptrs w e hs)).mono ?_
 rintro x w' ⟨h1,h2⟩
 have h0':firstErr (List.map (·.2) [((⟨w.heap.size,0,none⟩:Addr),e.id),(⟨w.heap.size,1,none⟩,e.title),(⟨w.heap.size,2,none⟩,e.link),(⟨w.heap.size,3,none⟩,e.content)])=0:=h0
 rw[h0'] at h1 h2
 refine ⟨h1,?_⟩
 rcases h2 with h2|h2
 ·have h3:=h2.2
  have e1:=setS_box4 w e.id e.title e.link e.content (collapse e.id) (collapse e.title) (collapse e.link) (collapse e.content) (.int .i64 e.upd) 64 (0,0) (.cells (eCells zeroE).toArray 64) (.cells #[.pointer (some ⟨w.heap.size,0,none⟩),.pointer (some ⟨w.heap.size,1,none⟩),.pointer (some ⟨w.heap.size,2,none⟩),.pointer (some ⟨w.heap.size,3,none⟩)] 129)
  have h4:Below (entW w e).heap.size (entW w (collE e)) w':=by
   have h5:=h3
   simp only[List.map_cons,List.map_nil] at h5
   rw[show setS (entW w e) _=entW w (collE e) from e1] at h5
   exact h5
  have e2:(entW w e).heap.size=(entW w (collE e)).heap.size:=by simp
  rw[e2] at h4
  exact h4
 ·exact absurd rfl h2.1
theorem ne_noS {s:ByteArray} (h:s≠noS):s.toList.isEmpty=false:=by
 rw[List.isEmpty_eq_false_iff]
 intro e
 exact h (toList_inj (e.trans (by rw[ByteArray.toList_eq];rfl)))
theorem normEntry_any (e:Ent) (w:World) (hE:Env w) (hs:eokS e):
 Calls Tryz.prog 77 #[.agg (eCells e).toArray] w fun x w'=>x= .returned (.tuple #[.agg (eCells (normE e)).toArray,.int .i64 (errE e:Nat)])∧Ext w w':=by
 have hw3:Ext w (entW w e):=(((Ext.refl w).alloc _).alloc _).alloc _
 have hw3':Ext w (entW w (collE e)):=(((Ext.refl w).alloc _).alloc _).alloc _
 by_cases h0:firstErr (strsE e)=0
 have HB:=gd (entColl_ok e w hE hs h0)
 have HT:=gd (fun w'=>inTime_any e.upd w')
 have hf0:=errE_zero (e:=e)
 by_cases h1:collapse e.id=noS
 focus
  have hf1:errE e=19:=by unfold errE;rw[if_neg (by simpa using h0),if_pos h1]
  have hf2:normE e=zeroE:=by unfold normE;rw[if_neg (by rw[hf1];decide)]
  rw[hf1,hf2]
  unfold collE at HB hw3'
  rw[h1] at HB hw3'
  clear hf1 hf2 h0 h1 hf0 HT
  obtain ⟨id,title,link,content,upd⟩:=e
  have HT:=gd (fun w'=>inTime_any upd w')
  generalize collapse title=ct at*
  generalize collapse link=cl at*
  generalize collapse content=cc at*
  unfold entW eCells zeroE noS at*
  go_enter Tryz.func77,Tryz.ntmps77
  go_wp2_with (first|(go_at_call 74;refine (HB.out).mono ?_;rintro e w1 ⟨rfl,hx1⟩;(have hk1:=heap3b hx1);(have c0:=boxed3a ⟨_,hx1⟩ 0 _ rfl);(have c1:=boxed3a ⟨_,hx1⟩ 1 _ rfl);(have c2:=boxed3a ⟨_,hx1⟩ 2 _ rfl);(have c3:=boxed3a ⟨_,hx1⟩ 3 _ rfl);(have c4:=boxed3a ⟨_,hx1⟩ 4 _ rfl);dsimp only at c0 c1 c2 c3 c4)|(go_at_call 76;refine (HT.out _).mono ?_;rintro e w2 ⟨rfl,rfl⟩)|(refine wpList_store_row rfl 64 (.tmp 2) (.tmp 20) rfl (w.heap.size+1) _ rfl rfl _ _ hk1 size_ent rfl (oneA (eCells_one zeroE)) ?_))
 rotate_left
 have hne:=ne_noS h1
 cases h2:inT e.upd
 focus
  have hf1:errE e=3:=by unfold errE;rw[if_neg (by simpa using h0),if_neg h1,h2];rfl
  have hf2:normE e=zeroE:=by unfold normE;rw[if_neg (by rw[hf1];decide)]
  rw[hf1,hf2]
  rw[h2] at HT
  unfold collE at HB hw3'
  clear hf1 hf2 h0 h1 hf0 h2
  obtain ⟨id,title,link,content,upd⟩:=e
  simp only at hne HB hw3' HT
  generalize collapse id=ci at*
  generalize collapse title=ct at*
  generalize collapse link=cl at*
  generalize collapse content=cc at*
  unfold entW eCells zeroE noS at*
  go_enter Tryz.func77,Tryz.ntmps77
  go_wp2_with (first|(go_at_call 74;refine (HB.out).mono ?_;rintro e w1 ⟨rfl,hx1⟩;(have hk1:=heap3b hx1);(have c0:=boxed3a ⟨_,hx1⟩ 0 _ rfl);(have c1:=boxed3a ⟨_,hx1⟩ 1 _ rfl);(have c2:=boxed3a ⟨_,hx1⟩ 2 _ rfl);(have c3:=boxed3a ⟨_,hx1⟩ 3 _ rfl);(have c4:=boxed3a ⟨_,hx1⟩ 4 _ rfl);dsimp only at c0 c1 c2 c3 c4)|(go_at_call 76;refine (HT.out _).mono ?_;rintro e w2 ⟨rfl,rfl⟩)|(refine wpList_store_row rfl 64 (.tmp 2) (.tmp 26) rfl (w.heap.size+1) _ rfl rfl _ _ hk1 size_ent rfl (oneA (eCells_one zeroE)) ?_))
 rotate_left
 focus
  have hf1:errE e=0:=hf0.2 ⟨h0,h1,h2⟩
  have hf2:normE e=collE e:=by unfold normE;rw[if_pos hf1]
  rw[hf1,hf2]
  rw[h2] at HT
  unfold collE at HB hw3'⊢
  clear hf1 hf2 h0 h1 hf0 h2
  obtain ⟨id,title,link,content,upd⟩:=e
  simp only at hne HB hw3' HT⊢
  generalize collapse id=ci at*
  generalize collapse title=ct at*
  generalize collapse link=cl at*
  generalize collapse content=cc at*
  unfold entW eCells zeroE noS at*
  go_enter Tryz.func77,Tryz.ntmps77
  go_wp2_with (first|(go_at_call 74;refine (HB.out).mono ?_;rintro e w1 ⟨rfl,hx1⟩;(have hk1:=heap3b hx1);(have c0:=boxed3a ⟨_,hx1⟩ 0 _ rfl);(have c1:=boxed3a ⟨_,hx1⟩ 1 _ rfl);(have c2:=boxed3a ⟨_,hx1⟩ 2 _ rfl);(have c3:=boxed3a ⟨_,hx1⟩ 3 _ rfl);(have c4:=boxed3a ⟨_,hx1⟩ 4 _ rfl);dsimp only at c0 c1 c2 c3 c4)|(go_at_call 76;refine (HT.out _).mono ?_;rintro e w2 ⟨rfl,rfl⟩)|(refine wpList_store_row rfl 64 (.tmp 2) (.tmp 27) rfl (w.heap.size+1) _ rfl rfl _ _ hk1 size_ent rfl (oneA (eCells_one ⟨ci,ct,cl,cc,upd⟩)) ?_))
 rotate_left
 ·have HA:=gd (entColl_bad e w hE hs h0)
  have hf1:errE e=firstErr (strsE e):=by unfold errE;rw[if_pos h0]
  have hf2:normE e=zeroE:=by unfold normE;rw[if_neg (by rw[hf1];exact h0)]
  rw[hf1,hf2]
  clear hf1 hf2
  obtain ⟨E,hEr⟩:∃E,firstErr (strsE e)=E:=⟨_,rfl⟩
  rw[hEr] at HA h0⊢
  have hb:((E:Int) !=0)=true:=by simp;omega
  clear hEr h0
  obtain ⟨id,title,link,content,upd⟩:=e
  unfold entW eCells zeroE noS at*
  go_enter Tryz.func77,Tryz.ntmps77
  go_wp2_with (first|(go_at_call 74;refine (HA.out).mono ?_;rintro e w1 ⟨rfl,hx1⟩;(have hk1:=heap3b hx1))|(refine wpList_store_row rfl 64 (.tmp 2) (.tmp 14) rfl (w.heap.size+1) _ rfl rfl _ _ hk1 size_ent rfl (oneA (eCells_one zeroE)) ?_))
  ((try simp only[Exit.inBlock,Exit.then]);refine bodyPost_ret (results_cell_row2 rfl _ _ _ _ _ _ _ rfl (setRow_heap _ _ _ _ _ _ hk1) Tryz.underlying64 rfl size_ent) rfl ?_)
  exact ⟨rfl,(hw3.trans hx1).setRow (by omega) _⟩
 all_goals
  ((try simp only[Exit.inBlock,Exit.then]);refine bodyPost_ret (results_cell_row2 rfl _ _ _ _ _ _ _ rfl (setRow_heap _ _ _ _ _ _ hk1) Tryz.underlying64 rfl size_ent) rfl ?_)
  exact ⟨rfl,(hw3'.trans hx1).setRow (by omega) _⟩
end Go.Proofs.YthlnaldahkgjnaaGreatDoor
