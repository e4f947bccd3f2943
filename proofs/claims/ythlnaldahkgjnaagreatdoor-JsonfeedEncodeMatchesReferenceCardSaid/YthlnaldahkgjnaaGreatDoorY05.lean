/- Parts of the proof: contracts and plain laws. -/
import Derived.Test.YthlnaldahkgjnaaGreatDoorProg
import Derived.Test.YthlnaldahkgjnaaGreatDoorY04
namespace Go.Proofs.YthlnaldahkgjnaaGreatDoor
open Go Go.RowKit Go.Shelf
set_option linter.unusedVariables false
set_option linter.unusedSimpArgs false
set_option maxRecDepth 100000
set_option maxHeartbeats 16000000
section
set_option linter.unusedSimpArgs false
theorem refHex_any (s:ByteArray) (a:Nat) (w:World) (hs:s.size≤80000000000) (ha:a+4≤s.size):
 Calls Tryz.prog 205 #[.string s,.int .i64 (a:Nat)] w fun e w'=>e= .returned (.int .i64 (oi (hexGo s.data.toList a 4)))∧w'=w:=by
 obtain ⟨R,hR⟩:∃R,hexGo s.data.toList a 4=R:=⟨_,rfl⟩
 rw[hR]
 have a2:¬(s.size:Int) - (a:Int)<4:=by omega
 have HR:=gd hR
 clear hR
 go_enter Tryz.func205,Tryz.ntmps205
 go_wp2
 go_loopw [5,6] (fun n i wr=>∃k m:Nat,k≤4∧m≤65535∧n= .int .i64 (m:Nat)∧i= .int .i64 (k:Nat)∧Hid (hexGo s.data.toList a k=some m)∧wr=w) (fun _ i _=>4 - (intOf i).toNat)
 case atStart=>exact ⟨0,0,by omega,by omega,rfl,rfl,rfl,rfl⟩
 case round=>
  obtain ⟨k,m,hk,hm,rfl,rfl,hp,rfl⟩:=hrel
  by_cases hlt:k<4
  ·have hl:a+k<s.data.toList.length:=by rw[data_len];omega
   have hcc:s.data.toList[a+k]? =some (s[a+k]'(by omega)):=List.getElem?_eq_getElem hl
   have b1:(k:Int)<4:=by omega
   obtain ⟨K,hK⟩:∃K,a+k=K:=⟨_,rfl⟩
   have hKi:(a:Int)+(k:Int)=(K:Int):=by omega
   have hKs:K<s.size:=by omega
   simp only[hK] at hcc
   obtain ⟨c,hc⟩:∃c,s[K]=c:=⟨_,rfl⟩
   rw[hc,←hK] at hcc
   have hcb:=c.toNat_lt
   have b2:(0:Int)≤(K:Int):=by omega
   have b3:(K:Int)<(s.size:Int):=by omega
   obtain ⟨x,hx⟩:∃x,c.toNat=x:=⟨_,rfl⟩
   have hcx:(s[K].toNat:Int)=(x:Int):=by rw[hc,hx]
   have hmk:m<16 ^ k:=(hexGo_lt hp.out).1
   have hpk:16 ^ (k+1)≤16 ^ 4:=Nat.pow_le_pow_right (by omega) (by omega)
   rw[Nat.pow_succ] at hpk
   have hm2:∀v,v<16→m*16+v≤65535:=fun v hv=>by omega
   have hway:(48≤x∧x≤57)∨(97≤x∧x≤102)∨(65≤x∧x≤70)∨¬hexV c<16:=by
    by_cases h1:48≤x∧x≤57
    ·exact Or.inl h1
    ·by_cases h2:97≤x∧x≤102
     ·exact Or.inr (Or.inl h2)
     ·by_cases h3:65≤x∧x≤70
      ·exact Or.inr (Or.inr (Or.inl h3))
      ·exact Or.inr (Or.inr (Or.inr (hexV_no (by rw[hx];exact h1) (by rw[hx];exact h2) (by rw[hx];exact h3))))
   rcases hway with h|h|h|h
   ·have hv:hexV c=x - 48:=by rw[←hx];exact hexV_d (by rw[hx];exact h)
    have HST:Hid (hexGo s.data.toList a (k+1)=some (m*16+(x - 48))):=by show _=_;rw[←hv];exact hexGo_step hp.out hcc (by omega)
    have hm3:=hm2 (x - 48) (by omega)
    have c1:¬(x:Int)<48:=by omega
    have c2:¬57<(x:Int):=by omega
    clear hp hcb hK hcc hv hm2 hpk hmk
    go_wp2
    go_roundw
    case rel=>exact ⟨k+1,m*16+(x - 48),hlt,hm3,by refine congrArg (Value.int .i64) ?_;omega,by go_num,HST,trivial⟩
    case measure=>simp[intOf];omega
   ·have hv:hexV c=x - 97+10:=by rw[←hx];exact hexV_l (by rw[hx];exact h)
    have HST:Hid (hexGo s.data.toList a (k+1)=some (m*16+(x - 97+10))):=by show _=_;rw[←hv];exact hexGo_step hp.out hcc (by omega)
    have hm3:=hm2 (x - 97+10) (by omega)
    have c0:¬(x:Int)<48:=by omega
    have c0':57<(x:Int):=by omega
    have c1:¬(x:Int)<97:=by omega
    have c2:¬102<(x:Int):=by omega
    clear hp hcb hK hcc hv hm2 hpk hmk
    go_wp2
    go_roundw
    case rel=>exact ⟨k+1,m*16+(x - 97+10),hlt,hm3,by refine congrArg (Value.int .i64) ?_;omega,by go_num,HST,trivial⟩
    case measure=>simp[intOf];omega
   ·have hv:hexV c=x - 65+10:=by rw[←hx];exact hexV_u (by rw[hx];exact h)
    have HST:Hid (hexGo s.data.toList a (k+1)=some (m*16+(x - 65+10))):=by show _=_;rw[←hv];exact hexGo_step hp.out hcc (by omega)
    have hm3:=hm2 (x - 65+10) (by omega)
    have c0:¬(x:Int)<48:=by omega
    have c0':57<(x:Int):=by omega
    have c1:(x:Int)<97:=by omega
    have c2:¬(x:Int)<65:=by omega
    have c3:¬70<(x:Int):=by omega
    clear hp hcb hK hcc hv hm2 hpk hmk
    go_wp2
    go_roundw
    case rel=>exact ⟨k+1,m*16+(x - 65+10),hlt,hm3,by refine congrArg (Value.int .i64) ?_;omega,by go_num,HST,trivial⟩
    case measure=>simp[intOf];omega
   ·have hn:Hid (R=none):=by
     show _=_
     rw[←HR.out]
     exact hexGo_fail (hexGo_bad hcc h) hlt
    have hxn:¬(48≤x∧x≤57)∧¬(97≤x∧x≤102)∧¬(65≤x∧x≤70):=by
     refine ⟨fun h1=>h ?_,fun h1=>h ?_,fun h1=>h ?_⟩
     ·rw[hexV_d (by rw[hx];exact h1)];omega
     ·rw[hexV_l (by rw[hx];exact h1)];omega
     ·rw[hexV_u (by rw[hx];exact h1)];omega
    have hcase:(x:Int)<48∧(x:Int)<97∧(x:Int)<65∨(¬(x:Int)<48∧57<(x:Int)∧(x:Int)<97∧(x:Int)<65)∨(¬(x:Int)<48∧57<(x:Int)∧(x:Int)<97∧¬(x:Int)<65∧70<(x:Int))∨(¬(x:Int)<48∧57<(x:Int)∧¬(x:Int)<97∧102<(x:Int)∧¬(x:Int)<65∧70<(x:Int)):=by omega
    clear hp hcb hK hcc hm2 hpk hmk hxn h
    rcases hcase with ⟨c1,c2,c3⟩|⟨c1,c2,c3,c4⟩|⟨c1,c2,c3,c4,c5⟩|⟨c1,c2,c3,c4,c5,c6⟩
    all_goals go_wp2
    all_goals go_ret
    all_goals exact ⟨by rw[hn.out];rfl,rfl⟩
  ·obtain rfl:k=4:=by omega
   have hn:Hid (R=some m):=by show _=_;rw[←HR.out];exact hp.out
   go_wp2
   go_ret
   exact ⟨by rw[hn.out];rfl,rfl⟩
theorem refUnit_any (s:ByteArray) (a:Nat) (w:World) (hs:s.size≤80000000000) (ha:a≤90000000000):
 Calls Tryz.prog 183 #[.string s,.int .i64 (a:Nat)] w fun e w'=>e= .returned (.int .i64 (oi (unitP s.data.toList a)))∧w'=w:=by
 by_cases h:a+6≤s.size
 ·have a2:¬(s.size:Int) - (a:Int)<6:=by omega
  obtain ⟨K1,hK1⟩:∃K,a+1=K:=⟨_,rfl⟩
  obtain ⟨K2,hK2⟩:∃K,a+2=K:=⟨_,rfl⟩
  have k1:(a:Int)+1=(K1:Int):=by omega
  have k2:(a:Int)+2=(K2:Int):=by omega
  have b1:a<s.size:=by omega
  have b2:K1<s.size:=by omega
  have i1:(0:Int)≤(a:Int):=by omega
  have i2:(a:Int)<(s.size:Int):=by omega
  have i3:(0:Int)≤(K1:Int):=by omega
  have i4:(K1:Int)<(s.size:Int):=by omega
  have g0:s.data.toList[a]? =some s[a]:=List.getElem?_eq_getElem (by rw[data_len];exact b1)
  have g1:s.data.toList[a+1]? =some s[K1]:=by rw[hK1];exact List.getElem?_eq_getElem (by rw[data_len];exact b2)
  have hU:unitP s.data.toList a=if s[a].toNat=92∧s[K1].toNat=117 then hexGo s.data.toList K2 4 else none:=by
   unfold unitP
   rw[g0,g1,hK2]
   have e1:(some s[a]=some (92:UInt8))↔s[a].toNat=92:=by rw[Option.some.injEq];exact u8_iff (n:=92) (by decide)
   have e2:(some s[K1]=some (117:UInt8))↔s[K1].toNat=117:=by rw[Option.some.injEq];exact u8_iff (n:=117) (by decide)
   simp only[e1,e2]
  obtain ⟨x,hx⟩:∃x,s[a].toNat=x:=⟨_,rfl⟩
  obtain ⟨y,hy⟩:∃y,s[K1].toNat=y:=⟨_,rfl⟩
  have hxi:(s[a].toNat:Int)=(x:Int):=by rw[hx]
  have hyi:(s[K1].toNat:Int)=(y:Int):=by rw[hy]
  rw[hx,hy] at hU
  have HH:=gd (fun w'=>refHex_any s K2 w' hs (by omega))
  clear g0 g1 hK1 hK2 h
  by_cases h1:x=92
  ·by_cases h2:y=117
   ·rw[if_pos ⟨h1,h2⟩] at hU
    rw[hU]
    obtain ⟨V,hV⟩:∃V,oi (hexGo s.data.toList K2 4)=V:=⟨_,rfl⟩
    rw[hV] at HH⊢
    subst h1 h2
    clear hU hV
    go_enter Tryz.func183,Tryz.ntmps183
    go_wp2_with (first|(go_at_call 205;(have hz:=HH.out w);(with_reducible refine Calls.mono hz ?_);clear hz;rintro e w1 ⟨rfl,rfl⟩))
    go_ret
    exact ⟨rfl,rfl⟩
   ·rw[if_neg (fun e=>h2 e.2)] at hU
    rw[hU]
    have c2:((y:Int) !=117)=true:=by simp;omega
    subst h1
    clear hU h2
    go_enter Tryz.func183,Tryz.ntmps183
    go_wp2
    go_ret
    exact ⟨rfl,rfl⟩
  ·rw[if_neg (fun e=>h1 e.1)] at hU
   rw[hU]
   have c2:((x:Int) !=92)=true:=by simp;omega
   clear hU h1
   go_enter Tryz.func183,Tryz.ntmps183
   go_wp2
   go_ret
   exact ⟨rfl,rfl⟩
 ·rw[unit_short (by rw[data_len];exact h)]
  have a2:(s.size:Int) - (a:Int)<6:=by omega
  go_enter Tryz.func183,Tryz.ntmps183
  go_wp2
  go_ret
  exact ⟨rfl,rfl⟩
end
section
set_option linter.unusedSimpArgs false
def seqV (o:Option (Nat×Nat)):Value:=match o with
 |some (r,n)=> .tuple #[.int .i64 (r:Nat),.int .i64 (n:Nat)]
 |none=> .tuple #[.int .i64 0,.int .i64 0]
theorem refSeq_any (s:ByteArray) (a:Nat) (w:World) (hs:s.size≤80000000000) (ha:a+1<s.size):
 Calls Tryz.prog 154 #[.string s,.int .i64 (a:Nat)] w fun e w'=>e= .returned (seqV (seqP s.data.toList a))∧w'=w:=by
 obtain ⟨K1,hK1⟩:∃K,a+1=K:=⟨_,rfl⟩
 obtain ⟨K6,hK6⟩:∃K,a+6=K:=⟨_,rfl⟩
 have k1:(a:Int)+1=(K1:Int):=by omega
 have k6:(a:Int)+6=(K6:Int):=by omega
 have b2:K1<s.size:=by omega
 have i3:(0:Int)≤(K1:Int):=by omega
 have i4:(K1:Int)<(s.size:Int):=by omega
 have g1:s.data.toList[a+1]? =some s[K1]:=by rw[hK1];exact List.getElem?_eq_getElem (by rw[data_len];exact b2)
 have hq:=seqP_at g1
 obtain ⟨x,hx⟩:∃x,s[K1].toNat=x:=⟨_,rfl⟩
 have hxi:(s[K1].toNat:Int)=(x:Int):=by rw[hx]
 rw[hx,hK6] at hq
 have HU1:=gd (fun w'=>refUnit_any s a w' hs (by omega))
 have HU2:=gd (fun w'=>refUnit_any s K6 w' hs (by omega))
 clear g1 hK1 hK6
 by_cases he:x=34∨x=92∨x=47∨x=98∨x=102∨x=110∨x=114∨x=116
 ·have hv:∃r,escN x=some r:=by
   unfold escN
   rcases he with rfl|rfl|rfl|rfl|rfl|rfl|rfl|rfl<;>exact ⟨_,rfl⟩
  obtain ⟨r,hr⟩:=hv
  rw[hr] at hq
  simp only at hq
  rw[hq]
  clear hq
  rcases he with rfl|rfl|rfl|rfl|rfl|rfl|rfl|rfl
  all_goals (obtain rfl:=Option.some.inj hr;clear hr)
  all_goals go_enter Tryz.func154,Tryz.ntmps154
  all_goals go_wp2
  all_goals go_ret2
  all_goals exact ⟨rfl,rfl⟩
 ·have hv:escN x=none:=by
   unfold escN
   rw[if_neg (by omega),if_neg (by omega),if_neg (by omega),if_neg (by omega),if_neg (by omega),if_neg (by omega)]
  rw[hv] at hq
  simp only at hq
  rw[hq]
  clear hq hv
  have n1:¬(x:Int)=34:=by omega
  have n2:¬(x:Int)=92:=by omega
  have n3:¬(x:Int)=47:=by omega
  have n4:¬(x:Int)=98:=by omega
  have n5:¬(x:Int)=102:=by omega
  have n6:¬(x:Int)=110:=by omega
  have n7:¬(x:Int)=114:=by omega
  have n8:¬(x:Int)=116:=by omega
  clear he
  cases hu:unitP s.data.toList a with
  |none=>
   rw[hu] at HU1
   simp only[oi] at HU1
   clear hu
   go_enter Tryz.func154,Tryz.ntmps154
   go_wp2_with (first|(go_at_call 183;(have hz:=HU1.out w);(with_reducible refine Calls.mono hz ?_);clear hz;rintro e w1 ⟨rfl,rfl⟩))
   go_ret2
   exact ⟨rfl,rfl⟩
  |some n=>
   rw[hu] at HU1
   simp only[oi] at HU1
   simp only
   clear hu
   obtain ⟨X,hX⟩:∃X:Int,(n:Int)=X:=⟨_,rfl⟩
   rw[hX] at HU1
   have HX:=gd hX
   by_cases h1:55296≤n∧n≤56319
   ·rw[if_pos h1]
    have m1:¬X<55296:=by omega
    have m2:¬56319<X:=by omega
    cases hu2:unitP s.data.toList K6 with
    |none=>
     rw[hu2] at HU2
     simp only[oi] at HU2
     clear hu2 h1 hX
     go_enter Tryz.func154,Tryz.ntmps154
     go_wp2_with (first|(go_at_call 183;(have hz:=HU1.out w);(with_reducible refine Calls.mono hz ?_);clear hz;rintro e w1 ⟨rfl,rfl⟩)|(go_at_call 183;(have hz:=HU2.out w1);(with_reducible refine Calls.mono hz ?_);clear hz;rintro e w2 ⟨rfl,rfl⟩))
     go_ret2
     exact ⟨rfl,rfl⟩
    |some m=>
     rw[hu2] at HU2
     simp only[oi] at HU2
     simp only
     clear hu2
     obtain ⟨Y,hY⟩:∃Y:Int,(m:Int)=Y:=⟨_,rfl⟩
     rw[hY] at HU2
     by_cases h2:56320≤m∧m≤57343
     ·rw[if_pos h2]
      obtain ⟨r,hr⟩:∃r,65536+(n - 55296)*1024+m - 56320=r:=⟨_,rfl⟩
      rw[hr]
      have HRR:Hid (65536+(X - 55296)*1024+Y - 56320=(r:Int)):=by show _=_;omega
      have m3:¬Y<56320:=by omega
      have m4:¬57343<Y:=by omega
      have p1:0≤X:=by omega
      have p2:X≤56319:=by omega
      have p3:0≤Y:=by omega
      have p4:Y≤57343:=by omega
      clear hr h1 h2 hX hY
      go_enter Tryz.func154,Tryz.ntmps154
      go_wp2_with (first|(go_at_call 183;(have hz:=HU1.out w);(with_reducible refine Calls.mono hz ?_);clear hz;rintro e w1 ⟨rfl,rfl⟩)|(go_at_call 183;(have hz:=HU2.out w1);(with_reducible refine Calls.mono hz ?_);clear hz;rintro e w2 ⟨rfl,rfl⟩))
      go_ret2
      exact ⟨by rw[show seqV (some (r,12))= .tuple #[.int .i64 (65536+(X - 55296)*1024+Y - 56320),.int .i64 12] by rw[HRR.out];rfl];rfl,rfl⟩
     ·rw[if_neg h2]
      have hc:Y<56320∨¬Y<56320∧57343<Y:=by omega
      clear h2 h1 hX hY
      rcases hc with c1|⟨c1,c2⟩
      all_goals go_enter Tryz.func154,Tryz.ntmps154
      all_goals go_wp2_with (first|(go_at_call 183;(have hz:=HU1.out w);(with_reducible refine Calls.mono hz ?_);clear hz;rintro e w1 ⟨rfl,rfl⟩)|(go_at_call 183;(have hz:=HU2.out w1);(with_reducible refine Calls.mono hz ?_);clear hz;rintro e w2 ⟨rfl,rfl⟩))
      all_goals go_ret2
      all_goals exact ⟨rfl,rfl⟩
   ·rw[if_neg h1]
    by_cases h2:56320≤n∧n≤57343
    ·rw[if_pos h2]
     have m1:¬X<55296:=by omega
     have m2:56319<X:=by omega
     have m0:¬X<0:=by omega
     have m3:¬X<56320:=by omega
     have m4:¬57343<X:=by omega
     clear h1 h2 hX
     go_enter Tryz.func154,Tryz.ntmps154
     go_wp2_with (first|(go_at_call 183;(have hz:=HU1.out w);(with_reducible refine Calls.mono hz ?_);clear hz;rintro e w1 ⟨rfl,rfl⟩))
     go_ret2
     exact ⟨rfl,rfl⟩
    ·rw[if_neg h2]
     have m0:¬X<0:=by omega
     have hc:X<55296∧X<56320∨(¬X<55296∧56319<X∧¬X<56320∧57343<X):=by omega
     clear h1 h2 hX
     rcases hc with ⟨c1,c2⟩|⟨c1,c2,c3,c4⟩
     all_goals go_enter Tryz.func154,Tryz.ntmps154
     all_goals go_wp2_with (first|(go_at_call 183;(have hz:=HU1.out w);(with_reducible refine Calls.mono hz ?_);clear hz;rintro e w1 ⟨rfl,rfl⟩))
     all_goals go_ret2
     all_goals exact ⟨by rw[show seqV (some (n,6))= .tuple #[.int .i64 X,.int .i64 6] by rw[←HX.out];rfl];rfl,rfl⟩
end
section
set_option linter.unusedSimpArgs false
def StrR (o:Option (List UInt8×Nat)) (e:Ending):Prop:=match o with
 |some (t,to_)=>e= .returned (.tuple #[.string (str t),.int .i64 (to_:Nat),.int .i64 0])
 |none=>∃a x:Nat,x≠0∧e= .returned (.tuple #[.string ⟨#[]⟩,.int .i64 (a:Nat),.int .i64 (x:Nat)])
theorem cat_list' (O:ByteArray) (L:List UInt8):(O++str L).data.toList=O.data.toList++L:=by simp[str]
theorem strS_n0 {l:List UInt8} {i:Nat} {o:List UInt8} (h:(dec (l.drop i)).2=0):strS l i o= .bad:=by unfold strS;rw[if_pos h]
theorem strS_lo {l:List UInt8} {i:Nat} {o:List UInt8} (h0:(dec (l.drop i)).2≠0) (h:(dec (l.drop i)).1<32):strS l i o= .bad:=by unfold strS;rw[if_neg h0,if_pos h]
theorem strS_q {l:List UInt8} {i:Nat} {o:List UInt8} (h0:(dec (l.drop i)).2≠0) (h:(dec (l.drop i)).1=34):strS l i o= .done o (i+1):=by unfold strS;rw[if_neg h0,if_neg (by omega),if_pos h]
theorem strS_b {l:List UInt8} {i:Nat} {o:List UInt8} (h0:(dec (l.drop i)).2≠0) (h:(dec (l.drop i)).1=92):strS l i o=match seqP l i with
 |some (r,n)=> .next (i+n) (o++encN r)
 |none=> .bad:=by unfold strS;rw[if_neg h0,if_neg (by omega),if_neg (by omega),if_pos h];rfl
theorem strS_c {l:List UInt8} {i:Nat} {o:List UInt8} (h0:(dec (l.drop i)).2≠0) (h1:¬(dec (l.drop i)).1<32) (h2:(dec (l.drop i)).1≠34) (h3:(dec (l.drop i)).1≠92):strS l i o= .next (i+(dec (l.drop i)).2) (o++encN (dec (l.drop i)).1):=by
 unfold strS;rw[if_neg h0,if_neg h1,if_neg h2,if_neg h3]
theorem refStrP_any (s:ByteArray) (a:Nat) (w:World) (hs:s.size≤80000000000) (ha:a<s.size) (h34:s.data.toList[a]? =some 34):
 Calls Tryz.prog 109 #[.string s,.int .i64 (a:Nat)] w fun e w'=>StrR (strP s.data.toList a) e∧Ext w w':=by
 have hml:s.size≤maxLen:=by unfold maxLen;omega
 have hsa:s[a].toNat=34:=by
  rw[List.getElem?_eq_getElem (by rw[data_len];exact ha)] at h34
  injection h34 with h34
  have h34:s[a]=34:=h34
  rw[h34];rfl
 have h34i:(s[a].toNat:Int)=34:=by rw[hsa];rfl
 have hR0:strP s.data.toList a=strGo s.data.toList (s.size+1) (a+1) []:=by unfold strP;rw[if_pos h34,data_len]
 rw[hR0]
 obtain ⟨R,hR⟩:∃R,strGo s.data.toList (s.size+1) (a+1) []=R:=⟨_,rfl⟩
 rw[hR]
 have i1:¬(a:Int)<0:=by omega
 have i1':(0:Int)≤(a:Int):=by omega
 have i2:(a:Int)<(s.size:Int):=by omega
 have i3:¬(s.size:Int)≤(a:Int):=by omega
 clear hR0 h34 hsa
 have HR:=gd hR
 clear hR
 go_enter Tryz.func109,Tryz.ntmps109
 go_wp2
 clear i1 i1' i2 i3 h34i
 go_loopw [7,8] (fun o v wr=>∃(i f:Nat) (O:ByteArray),a+1≤i∧i≤s.size∧s.size<f+i∧o= .string O∧v= .int .i64 (i:Nat)∧Hid (O.size≤i)∧Hid (strGo s.data.toList f i O.data.toList=R)∧Ext w wr) (fun _ v _=>s.size - (intOf v).toNat)
 case atStart=>exact ⟨a+1,s.size+1,noS,Nat.le_refl _,ha,by omega,rfl,by go_num,Nat.zero_le _,HR.out,Ext.refl _⟩
 case round=>
  obtain ⟨i,f,O,hai,his,hf,rfl,rfl,hO,hg,hx⟩:=hrel
  by_cases hlt:i<s.size
  ·obtain ⟨f,rfl⟩:∃g,f=g+1:=⟨f - 1,by omega⟩
   have hcon:=refDecode_in s i wr hlt hml
   have hle:=dec_le (s.data.toList.drop i)
   rw[List.length_drop,data_len] at hle
   have hbad:strS s.data.toList i O.data.toList= .bad→R=none:=fun h=>hg.out.symm.trans (strGo_bad h)
   have hn0:=strS_n0 (l:=s.data.toList) (i:=i) (o:=O.data.toList)
   have hlo:=strS_lo (l:=s.data.toList) (i:=i) (o:=O.data.toList)
   have hq:=strS_q (l:=s.data.toList) (i:=i) (o:=O.data.toList)
   have hb:=strS_b (l:=s.data.toList) (i:=i) (o:=O.data.toList)
   have hc:=strS_c (l:=s.data.toList) (i:=i) (o:=O.data.toList)
   have hsc:(dec (s.data.toList.drop i)).2≠0→scalar (dec (s.data.toList.drop i)).1∧(encN (dec (s.data.toList.drop i)).1).length=(dec (s.data.toList.drop i)).2:=fun h=>(dec_app [] h).2
   generalize (dec (s.data.toList.drop i)).1=r at*
   generalize (dec (s.data.toList.drop i)).2=n at*
   have HC:=gd hcon
   have hit:(i:Int)<(s.size:Int):=by omega
   clear hcon
   by_cases h0:n=0
   ·have hr:=hbad (hn0 h0)
    subst hr
    subst h0
    clear hn0 hlo hq hb hc hsc hbad hg hle HR
    go_wp2_with (first|(go_at_call 127;(with_reducible refine Calls.mono HC.out ?_);rintro e w2 ⟨rfl,hx2⟩))
    go_ret3
    exact ⟨⟨i,5,by decide,rfl⟩,hx.trans hx2⟩
   have n0:¬(n:Int)=0:=by omega
   by_cases h1:r<32
   ·have hr:=hbad (hlo h0 h1)
    subst hr
    have r1:(r:Int)<32:=by omega
    clear hn0 hlo hq hb hc hsc hbad hg hle h0 h1 HR
    go_wp2_with (first|(go_at_call 127;(with_reducible refine Calls.mono HC.out ?_);rintro e w2 ⟨rfl,hx2⟩))
    go_ret3
    exact ⟨⟨i,6,by decide,rfl⟩,hx.trans hx2⟩
   have r1:¬(r:Int)<32:=by omega
   by_cases h2:r=34
   ·have hr:=hg.out.symm.trans (strGo_done (hq h0 h2))
    subst hr
    subst h2
    clear hn0 hlo hq hb hc hsc hbad hg hle h0 h1 HR r1
    go_wp2_with (first|(go_at_call 127;(with_reducible refine Calls.mono HC.out ?_);rintro e w2 ⟨rfl,hx2⟩))
    go_ret3
    refine ⟨?_,hx.trans hx2⟩
    show _=_
    rw[str_of]
    first|rfl|(refine congrArg (fun t=>Ending.returned (.tuple #[.string O,.int .i64 t,.int .i64 0])) ?_;omega)
   have r2:¬(r:Int)=34:=by omega
   by_cases h3:r=92
   ·replace hb:=hb h0 h3
    subst h3
    by_cases h4:i+1<s.size
    ·have HQ:=gd (fun w'=>refSeq_any s i w' hs h4)
     have i9:¬(i:Int)+1=(s.size:Int):=by omega
     cases hsq:seqP s.data.toList i with
     |none=>
      rw[hsq] at hb HQ
      have hr:=hbad hb
      subst hr
      clear hn0 hlo hq hb hc hsc hbad hg hle h0 h1 h2 HR r1 r2 hsq
      go_wp2_with (first|(go_at_call 127;(with_reducible refine Calls.mono HC.out ?_);rintro e w2 ⟨rfl,hx2⟩)|(go_at_call 154;(with_reducible refine Calls.mono (HQ.out _) ?_);rintro e w3 ⟨rfl,rfl⟩;simp only[seqV]))
      go_ret3
      exact ⟨⟨i,16,by decide,rfl⟩,hx.trans hx2⟩
     |some p=>
      obtain ⟨q,m⟩:=p
      obtain ⟨hqs,hqe,hm1,hm2⟩:=seq_ok hsq
      rw[data_len] at hm2
      rw[hsq] at hb HQ
      have HN0:=gd ((strGo_next hb).symm.trans hg.out)
      have HE:=gd (fun w'=>refEncode_any q w' (by unfold scalar at hqs;omega))
      obtain ⟨L,hL⟩:∃L,encN q=L:=⟨_,rfl⟩
      rw[hL] at HE HN0 hqe
      have hsL:(str L).size=L.length:=by rw[←data_len,str_list]
      have hO2:=hO.out
      have m0:¬(m:Int)=0:=by omega
      have HN:Hid (strGo s.data.toList f (i+m) (O++str L).data.toList=R):=by
       show _=_
       rw[cat_list']
       exact HN0.out
      have HO2:Hid ((O++str L).size≤i+m):=by
       show _≤_
       rw[ByteArray.size_append,hsL]
       omega
      have g1:¬9223372036854775807<O.size+L.length:=by omega
      have g2:¬9223372036854775807<O.size+(str L).size:=by omega
      clear hn0 hlo hq hb hc hsc hbad hg hle h0 h1 h2 HR r1 r2 hsq hqs hqe HN0 hL
      go_wp2_with (first|(go_at_call 127;(with_reducible refine Calls.mono HC.out ?_);rintro e w2 ⟨rfl,hx2⟩)|(go_at_call 154;(with_reducible refine Calls.mono (HQ.out _) ?_);rintro e w3 ⟨rfl,rfl⟩;simp only[seqV])|(go_at_call 155;(with_reducible refine Calls.mono (HE.out _) ?_);rintro e w4 ⟨rfl,hx4⟩))
      go_roundw
      case rel=>exact ⟨i+m,f,O++str L,by omega,hm2,by omega,rfl,by go_num,HO2,HN,(hx.trans hx2).trans hx4⟩
      case measure=>simp[intOf];omega
    ·have hend:=seqP_end (l:=s.data.toList) (i:=i) (by rw[data_len];omega)
     rw[hend] at hb
     have hr:=hbad hb
     subst hr
     have i9:(i:Int)+1=(s.size:Int):=by omega
     clear hn0 hlo hq hb hc hsc hbad hg hle h0 h1 h2 HR r1 r2 hend
     go_wp2_with (first|(go_at_call 127;(with_reducible refine Calls.mono HC.out ?_);rintro e w2 ⟨rfl,hx2⟩))
     go_ret3
     exact ⟨⟨a,8,by decide,rfl⟩,hx.trans hx2⟩
   ·replace hc:=hc h0 h1 h2 h3
    obtain ⟨hqs,hqe⟩:=hsc h0
    have HN0:=gd ((strGo_next hc).symm.trans hg.out)
    have HE:=gd (fun w'=>refEncode_any r w' (by unfold scalar at hqs;omega))
    obtain ⟨L,hL⟩:∃L,encN r=L:=⟨_,rfl⟩
    rw[hL] at HE HN0 hqe
    have hsL:(str L).size=L.length:=by rw[←data_len,str_list]
    have hO2:=hO.out
    have r3:¬(r:Int)=92:=by omega
    have HN:Hid (strGo s.data.toList f (i+n) (O++str L).data.toList=R):=by
     show _=_
     rw[cat_list']
     exact HN0.out
    have HO2:Hid ((O++str L).size≤i+n):=by
     show _≤_
     rw[ByteArray.size_append,hsL]
     omega
    have g1:¬9223372036854775807<O.size+L.length:=by omega
    have g2:¬9223372036854775807<O.size+(str L).size:=by omega
    clear hn0 hlo hq hb hc hsc hbad hg h1 h2 h3 HR hqs hqe HN0 hL
    go_wp2_with (first|(go_at_call 127;(with_reducible refine Calls.mono HC.out ?_);rintro e w2 ⟨rfl,hx2⟩)|(go_at_call 155;(with_reducible refine Calls.mono (HE.out _) ?_);rintro e w4 ⟨rfl,hx4⟩))
    go_roundw
    case rel=>exact ⟨i+n,f,O++str L,by omega,by omega,by omega,rfl,by go_num,HO2,HN,(hx.trans hx2).trans hx4⟩
    case measure=>simp[intOf];omega
  ·have hr:=hg.out.symm.trans (strGo_end (by rw[data_len];omega))
   subst hr
   have hit:¬(i:Int)<(s.size:Int):=by omega
   clear hg HR
   go_wp2
   go_ret3
   exact ⟨⟨a,8,by decide,rfl⟩,hx⟩
end
theorem letter_any (n:Nat) (w:World):Calls Tryz.prog 182 #[.int .u8 (n:Nat)] w fun e w'=>e= .returned (.int .u8 (letterN n:Nat))∧w=w':=by
 obtain ⟨L,hL⟩:∃L,letterN n=L:=⟨_,rfl⟩
 rw[hL]
 have HL:=gd hL
 clear hL
 go_enter Tryz.func182,Tryz.ntmps182
 go_wp2
 all_goals (go_ret;refine ⟨ret_int ?_,rfl⟩)
 all_goals (rw[←HL.out];unfold letterN;simp at*;(repeat' split)<;>omega)
theorem ref10Valid_any (s:ByteArray) (w:World) (hs:s.size≤16777216):
 Calls Tryz.prog 181 #[.string s] w fun e w'=>e= .returned (.bool (Lib.validD s.data.toList))∧Ext w w':=by
 have hml:s.size≤maxLen:=by unfold maxLen;omega
 obtain ⟨V,hV⟩:∃V,Lib.validD s.data.toList=V:=⟨_,rfl⟩
 rw[hV]
 have HV:=gd hV
 clear hV
 go_enter Tryz.func181,Tryz.ntmps181
 go_wp2
 go_loopw [3,4,5] (fun v _ _ wr=>∃k:Nat,k≤s.size∧v= .int .i64 k∧Hid (V=Lib.validD (s.data.toList.drop k))∧Ext w wr) (fun v _ _ _=>s.size - (intOf v).toNat)
 case atStart=>exact ⟨0,Nat.zero_le _,rfl,HV.out.symm,Ext.refl _⟩
 case round=>
  obtain ⟨k,hk,rfl,hc,hx⟩:=hrel
  by_cases hlt:k<s.size
  ·have hst:=valid_at s.data.toList k (by rw[data_len];exact hlt)
   have hle:=dec_le (s.data.toList.drop k)
   rw[List.length_drop,data_len] at hle
   have hcon:=refDecode_in s k wr hlt hml
   have hc2:=hc.out.trans hst
   clear hc hst
   obtain ⟨R,hR⟩:∃R,(dec (s.data.toList.drop k)).1=R:=⟨_,rfl⟩
   obtain ⟨K,hK⟩:∃K,(dec (s.data.toList.drop k)).2=K:=⟨_,rfl⟩
   rw[hR,hK] at hcon
   rw[hK] at hle hc2
   clear hR hK
   have HC:=gd hcon
   have HS:=gd hc2
   clear hcon hc2
   by_cases h0:K=0
   ·subst h0
    have hfin:=HS.out
    rw[if_pos rfl] at hfin
    have HF:=gd hfin
    clear hfin HS
    go_wp2_with (first|(go_at_call 127;refine (HC.out).mono ?_;rintro e w' ⟨rfl,hx'⟩))
    go_ret
    exact ⟨by rw[HF.out];rfl,hx.trans hx'⟩
   ·have hb:((K:Int)==0)=false:=by rw[beq_eq_false_iff_ne];omega
    have HS2:Hid (V=Lib.validD (s.data.toList.drop (k+K))):=by
     have h:=HS.out
     rw[if_neg h0] at h
     exact h
    clear HS
    go_wp2_with (first|(go_at_call 127;refine (HC.out).mono ?_;rintro e w' ⟨rfl,hx'⟩))
    go_roundw
    case rel=>exact ⟨k+K,by omega,by go_num,HS2,hx.trans hx'⟩
    case measure=>simp[intOf];omega
  ·have hfin:V=true:=by rw[hc.out,valid_end _ _ (by rw[data_len];omega)]
   have HF:=gd hfin
   clear hfin hc
   go_wp2
   go_ret
   exact ⟨by rw[HF.out];rfl,hx⟩
def qPre (l:List UInt8) (k:Nat):List UInt8:=34::(l.take k).flatMap qB
theorem qPre_step (s:ByteArray) (k:Nat) (hk:k<s.size):qPre s.data.toList (k+1)=qPre s.data.toList k++qB s[k]:=by
 unfold qPre
 rw[List.take_succ_eq_append_getElem (by rw[data_len];exact hk)]
 simp
 rfl
theorem qPre_len (l:List UInt8) (k:Nat):(qPre l k).length≤1+6*k:=by
 unfold qPre
 have h:=flat_len (l.take k)
 have h2:(l.take k).length≤k:=List.length_take_le _ _
 simp only[List.length_cons]
 omega
theorem qPre_all (l:List UInt8):qPre l l.length++ [34]=quoteL l:=by
 unfold qPre quoteL
 simp
theorem hexGet (n:Nat) (hn:n<16) (h:n<({data:=#[48,49,50,51,52,53,54,55,56,57,97,98,99,100,101,102]}:ByteArray).size):({data:=#[48,49,50,51,52,53,54,55,56,57,97,98,99,100,101,102]}:ByteArray)[n]=hexD n:=by
 have hc:n=0∨n=1∨n=2∨n=3∨n=4∨n=5∨n=6∨n=7∨n=8∨n=9∨n=10∨n=11∨n=12∨n=13∨n=14∨n=15:=by omega
 rcases hc with rfl|rfl|rfl|rfl|rfl|rfl|rfl|rfl|rfl|rfl|rfl|rfl|rfl|rfl|rfl|rfl<;>rfl
theorem letterN_lt (n:Nat) (h:n<256):letterN n<256:=by
 unfold letterN
 repeat' split
 all_goals omega
theorem ref10Quote_any (s:ByteArray) (w:World) (hs:s.size≤16777216):
 Calls Tryz.prog 153 #[.string s] w fun e w'=>e= .returned (.tuple #[.string (quoteS s).1,.int .i64 ((quoteS s).2:Nat)])∧Ext w w':=by
 have hval:=ref10Valid_any s w hs
 obtain ⟨V,hV⟩:∃V,Lib.validD s.data.toList=V:=⟨_,rfl⟩
 rw[hV] at hval
 have hq:quoteS s=if V then (str (quoteL s.data.toList),0) else (str [],5):=by unfold quoteS;rw[hV]
 rw[hq]
 clear hq hV
 have HVAL:=gd hval
 clear hval
 obtain ⟨i0,hi0,hz0,hz1,hz2⟩:=info_parts info_u8
 cases V
 ·go_enter Tryz.func153,Tryz.ntmps153
  go_wp2_with (go_at_call 181;refine (HVAL.out).mono ?_;rintro e w' ⟨rfl,hx⟩)
  go_ret2
  exact ⟨rfl,hx⟩
 ·obtain ⟨Q,hQ⟩:∃Q,quoteL s.data.toList=Q:=⟨_,rfl⟩
  rw[hQ]
  have HQ:=gd hQ
  clear hQ
  simp only[if_true]
  go_enter Tryz.func153,Tryz.ntmps153
  go_wp2_with (go_at_call 181;refine (HVAL.out).mono ?_;rintro e w' ⟨rfl,hx⟩)
  have hwz:=hx.size
  go_loopw [4,5,6] (fun v i _ wr=>∃k:Nat,k≤s.size∧i= .int .i64 k∧wr.ownsRow w.heap.size 5 1 v (qPre s.data.toList k).length (Lib.byteCells (qPre s.data.toList k))∧Ext w wr) (fun _ i _ _=>s.size - (intOf i).toNat)
  case atStart=>exact ⟨0,Nat.zero_le _,rfl,own_new (cs:= [.int .u8 34]) hwz (by simp) (by unfold maxLen;omega),hx.alloc _⟩
  case round=>
   obtain ⟨k,hk,rfl,hown,hx2⟩:=hrel
   have hsz:=hx2.size
   have hle:=qPre_len s.data.toList k
   by_cases hlt:k<s.size
   ·have hst:=qPre_step s k hlt
    have HOWN:=hown
    obtain ⟨_,A,c,rfl,hmc,hcm,_,_⟩:=RSl.of_own hown
    have hlc:=letter_any s[k].toNat
    have hb8:=byteInt s[k]
    by_cases hl:letterN s[k].toNat=0
    ·rw[hl] at hlc
     have HLC:=gd hlc
     clear hlc
     by_cases h32:s[k].toNat<32
     ·rw[qB_hex _ hl h32] at hst
      replace hst:=gd hst
      have HL:=gd hl
      clear hl
      go_wp2_with (go_at_call 182;refine (HLC.out _).mono ?_;rintro e w' ⟨rfl,rfl⟩)
      obtain ⟨a,ha⟩:∃a,s[k].toNat / 16=a:=⟨_,rfl⟩
      obtain ⟨b,hb⟩:∃b,s[k].toNat % 16=b:=⟨_,rfl⟩
      rw[ha,hb] at hst
      have ha16:(a:Int)<16:=by omega
      have hb16:(b:Int)<16:=by omega
      have hw1:IntKind.u8.wrap ((s[k].toNat:Int) / 16)=(a:Int):=by rw[IntKind.wrap_u8];omega
      have hw2:((s[k].toNat:Int)).tmod 16=(b:Int):=by rw[Int.tmod_eq_emod_of_nonneg (by omega)];omega
      clear ha hb
      go_region_law (refine step_append_rsl _ rfl (.tmp 36) (.tmp 43) _ rfl w.heap.size 5 i0 _ 1 1 Tryz.underlying115 hi0 hz0 hz1 hz2 rfl (by omega) _ _ _ rfl ((HOWN.alloc _).drew) _ 6 _ rfl (RSl.ext (rsl_new (by simp) (by unfold maxLen;omega)) (Ext.refl _).drew) (by intro y hy;simp at hy;rcases hy with rfl|rfl|rfl|rfl|rfl<;>rfl) (by unfold maxLen;omega) (by omega) (by simp;omega) ?_;intro v1 wa1 hown1 hg1 hat1)
      all_goals have hx3:Ext w wa1:=((hx2.alloc _).drew).app hg1 (HOWN.alloc _).drew (Nat.le_refl _)
      all_goals rw[hexGet a (by omega),hexGet b (by omega)] at hown1
      all_goals have hown2:wa1.ownsRow w.heap.size 5 1 v1 (qPre s.data.toList (k+1)).length (Lib.byteCells (qPre s.data.toList (k+1))):=(by rw[hst.out,byteCells_app,List.length_append];exact hown1)
      all_goals clear hg1 hat1 hown1
      all_goals go_wp2
      all_goals go_roundw
      all_goals first|exact ⟨k+1,by omega,by go_num,hown2,hx3⟩|(simp[intOf];omega)|((repeat apply Exists.intro);exact ⟨⟨k+1,by omega,by go_num,hown2,hx3⟩,rfl⟩)
     ·rw[qB_none _ hl (by omega)] at hst
      replace hst:=gd hst
      have HL:=gd hl
      clear hl
      go_wp2_with (first|(go_at_call 182;refine (HLC.out _).mono ?_;rintro e w' ⟨rfl,rfl⟩)|(at_builtin;refine wpList_append_rsl _ rfl (.tmp 20) (.tmp 22) _ rfl w.heap.size 5 i0 _ 1 1 Tryz.underlying115 hi0 hz0 hz1 hz2 rfl (by omega) _ _ _ rfl (HOWN.alloc _) _ 1 _ rfl (rsl_new (cs:= [.int .u8 s[k].toNat]) (by simp) (by unfold maxLen;omega)) (by intro y hy;simp at hy;(first|(rcases hy with rfl|rfl<;>rfl)|(subst hy;rfl))) (by unfold maxLen;omega) (by omega) (by simp;omega) ?_;intro v1 wa1 hown1 hg1 hat1))
      have hx3:Ext w wa1:=(hx2.alloc _).app hg1 (HOWN.alloc _) (Nat.le_refl _)
      have hown2:wa1.ownsRow w.heap.size 5 1 v1 (qPre s.data.toList (k+1)).length (Lib.byteCells (qPre s.data.toList (k+1))):=by
       rw[hst.out,byteCells_app,List.length_append];exact hown1
      clear hg1 hat1 hown1
      go_wp2
      go_roundw
      case rel=>first|exact ⟨k+1,by omega,by go_num,hown2,hx3⟩|((repeat apply Exists.intro);exact ⟨⟨k+1,by omega,by go_num,hown2,hx3⟩,rfl⟩)
      case measure=>simp[intOf];omega
    ·rw[qB_letter _ hl] at hst
     replace hst:=gd hst
     have hlt8:=letterN_lt s[k].toNat (byte_lt _)
     obtain ⟨N,hN⟩:∃N,letterN s[k].toNat=N:=⟨_,rfl⟩
     rw[hN] at hlc hst hl hlt8
     have HLC:=gd hlc
     have hb:((N:Int) !=0)=true:=by rw[bne_iff_ne];omega
     clear hlc hN hl
     go_wp2_with (first|(go_at_call 182;refine (HLC.out _).mono ?_;rintro e w' ⟨rfl,rfl⟩)|(at_builtin;refine wpList_append_rsl _ rfl (.tmp 28) (.tmp 31) _ rfl w.heap.size 5 i0 _ 1 1 Tryz.underlying115 hi0 hz0 hz1 hz2 rfl (by omega) _ _ _ rfl (HOWN.alloc _) _ 2 _ rfl (rsl_new (cs:= [.int .u8 92,.int .u8 (N:Nat)]) (by simp) (by unfold maxLen;omega)) (by intro y hy;simp at hy;(first|(rcases hy with rfl|rfl<;>rfl)|(subst hy;rfl))) (by unfold maxLen;omega) (by omega) (by simp;omega) ?_;intro v1 wa1 hown1 hg1 hat1))
     have hx3:Ext w wa1:=(hx2.alloc _).app hg1 (HOWN.alloc _) (Nat.le_refl _)
     have hown2:wa1.ownsRow w.heap.size 5 1 v1 (qPre s.data.toList (k+1)).length (Lib.byteCells (qPre s.data.toList (k+1))):=by
      rw[hst.out,byteCells_app,List.length_append];rw[show Lib.byteCells [92,UInt8.ofNat N]= [Value.int .u8 92,Value.int .u8 (N:Nat)] from by simp[Lib.byteCells,Nat.mod_eq_of_lt hlt8]];exact hown1
     clear hg1 hat1 hown1
     go_wp2
     go_roundw
     case rel=>first|exact ⟨k+1,by omega,by go_num,hown2,hx3⟩|((repeat apply Exists.intro);exact ⟨⟨k+1,by omega,by go_num,hown2,hx3⟩,rfl⟩)
     case measure=>simp[intOf];omega
   ·have hke:k=s.size:=by omega
    subst hke
    have HQ2:Hid (str (qPre s.data.toList s.size++ [34])=str Q):=by
     show _=_
     rw[←HQ.out,←qPre_all];rfl
    have HOWN:=hown
    obtain ⟨_,A,c,rfl,hmc,hcm,_,_⟩:=RSl.of_own hown
    go_wp2_with (at_builtin;refine wpList_append_rsl _ rfl (.tmp 45) (.tmp 46) _ rfl w.heap.size 5 i0 _ 1 1 Tryz.underlying115 hi0 hz0 hz1 hz2 rfl (by omega) _ _ _ rfl (HOWN.alloc _) _ 1 _ rfl (rsl_new (cs:= [.int .u8 34]) (by simp) (by unfold maxLen;omega)) (by intro y hy;simp at hy;subst hy;rfl) (by unfold maxLen;omega) (by omega) (by simp;omega) ?_;intro v1 wa1 hown1 hg1 hat1;have hx3:Ext w wa1:=(hx2.alloc _).app hg1 (HOWN.alloc _) (Nat.le_refl _);have kc:=conv_own wa1 w.heap.size v1 (qPre s.data.toList s.size++ [34]) (by rw[byteCells_app,List.length_append];exact hown1);rw[HQ2.out] at kc;clear hg1 hat1 hown1)
    go_ret2
    exact ⟨rfl,hx3⟩
def Tryz.lays196_ren:Go.Shelf.Ren:=⟨fun|196=>178|259=>203|n=>n,fun|9=>9|4=>4|3=>3|5=>5|12=>12|119=>247|0=>0|46=>225|139=>250|138=>249|53=>209|n=>n,fun|3=>1|4=>2|n=>n⟩
theorem Tryz.lays196:Go.Proofs.Lays.n196 Tryz.prog Tryz.lays196_ren:={
 mixed:=by kernel_rfl
 f196:=Tryz.func178.trans (congrArg some (by kernel_rfl))
 f259:=Tryz.func203.trans (congrArg some (by kernel_rfl))
 t0:=Tryz.underlying0
 a0:=Tryz.isAgg0
 z0:=Tryz.sizeOf0
 v0:=Tryz.zeroValue0
 t3:=Tryz.underlying3
 a3:=Tryz.isAgg3
 z3:=Tryz.sizeOf3
 v3:=Tryz.zeroValue3
 t4:=Tryz.underlying4
 a4:=Tryz.isAgg4
 z4:=Tryz.sizeOf4
 v4:=Tryz.zeroValue4
 t5:=Tryz.underlying5
 a5:=Tryz.isAgg5
 z5:=Tryz.sizeOf5
 v5:=Tryz.zeroValue5
 t9:=Tryz.underlying9
 a9:=Tryz.isAgg9
 z9:=Tryz.sizeOf9
 v9:=Tryz.zeroValue9
 t12:=Tryz.underlying12
 a12:=Tryz.isAgg12
 z12:=Tryz.sizeOf12
 v12:=Tryz.zeroValue12
 t46:=Tryz.underlying225
 a46:=Tryz.isAgg225
 z46:=Tryz.sizeOf225
 v46:=Tryz.zeroValue225
 t53:=Tryz.underlying209
 a53:=Tryz.isAgg209
 z53:=Tryz.sizeOf209
 v53:=Tryz.zeroValue209
 t119:=Tryz.underlying247
 a119:=Tryz.isAgg247
 z119:=Tryz.sizeOf247
 t138:=Tryz.underlying249
 a138:=Tryz.isAgg249
 z138:=Tryz.sizeOf249
 v138:=Tryz.zeroValue249
 t139:=Tryz.underlying250
 a139:=Tryz.isAgg250
 z139:=Tryz.sizeOf250
 v139:=Tryz.zeroValue250
 g3:=by kernel_rfl
 g4:=by kernel_rfl}
open Go.RowKit in
theorem Tryz.utf8_ValidString (s:ByteArray) (w:World) (hs:s.size≤9223372036854775807) (hT:Lib.Utf8Tabs 1 2 w):
 Calls Tryz.prog 178 #[.string s] w fun e w'=>e= .returned (.bool (Lib.validD s.data.toList))∧Below w.heap.size w w':=Any.utf8_ValidString Tryz.lays196 s w hs hT
section
theorem validString_any (s:ByteArray) (w:World) (hE:Env w) (hs:s.size≤16777216):
 Calls Tryz.prog 178 #[.string s] w fun e w'=>e= .returned (.bool (Lib.validD s.data.toList))∧Ext w w':=
 Tryz.utf8_ValidString s w (by omega) hE.utf8
theorem letAt0 (w:World):(Instr.index 259 (.agg #[.int .u8 98,.int .u8 8,.int .u8 102,.int .u8 12,.int .u8 110,.int .u8 10,.int .u8 114,.int .u8 13,.int .u8 116,.int .u8 9]) (.int .i64 0)).run Tryz.prog w= .ok (.agg #[.int .u8 98,.int .u8 8]) w:=by kernel_rfl
theorem letAt1 (w:World):(Instr.index 259 (.agg #[.int .u8 98,.int .u8 8,.int .u8 102,.int .u8 12,.int .u8 110,.int .u8 10,.int .u8 114,.int .u8 13,.int .u8 116,.int .u8 9]) (.int .i64 1)).run Tryz.prog w= .ok (.agg #[.int .u8 102,.int .u8 12]) w:=by kernel_rfl
theorem letAt2 (w:World):(Instr.index 259 (.agg #[.int .u8 98,.int .u8 8,.int .u8 102,.int .u8 12,.int .u8 110,.int .u8 10,.int .u8 114,.int .u8 13,.int .u8 116,.int .u8 9]) (.int .i64 2)).run Tryz.prog w= .ok (.agg #[.int .u8 110,.int .u8 10]) w:=by kernel_rfl
theorem letAt3 (w:World):(Instr.index 259 (.agg #[.int .u8 98,.int .u8 8,.int .u8 102,.int .u8 12,.int .u8 110,.int .u8 10,.int .u8 114,.int .u8 13,.int .u8 116,.int .u8 9]) (.int .i64 3)).run Tryz.prog w= .ok (.agg #[.int .u8 114,.int .u8 13]) w:=by kernel_rfl
theorem letAt4 (w:World):(Instr.index 259 (.agg #[.int .u8 98,.int .u8 8,.int .u8 102,.int .u8 12,.int .u8 110,.int .u8 10,.int .u8 114,.int .u8 13,.int .u8 116,.int .u8 9]) (.int .i64 4)).run Tryz.prog w= .ok (.agg #[.int .u8 116,.int .u8 9]) w:=by kernel_rfl
theorem hexSl (n:Nat) (hn:n<16):({data:=#[48,49,50,51,52,53,54,55,56,57,97,98,99,100,101,102]}:ByteArray).extract ((n:Int)).toNat ((n:Int)+1).toNat=str [hexD n]:=by
 have hc:n=0∨n=1∨n=2∨n=3∨n=4∨n=5∨n=6∨n=7∨n=8∨n=9∨n=10∨n=11∨n=12∨n=13∨n=14∨n=15:=by omega
 rcases hc with rfl|rfl|rfl|rfl|rfl|rfl|rfl|rfl|rfl|rfl|rfl|rfl|rfl|rfl|rfl|rfl<;>exact bytes_inj (by decide)
theorem hexText (x:Int) (a b:Nat) (ha:a<16) (hb:b<16) (hxa:x / 16=(a:Int)) (hxb:x % 16=(b:Int)):
 ({data:=#[92,117,48,48]}:ByteArray)++({data:=#[48,49,50,51,52,53,54,55,56,57,97,98,99,100,101,102]}:ByteArray).extract (x / 16).toNat (x / 16+1).toNat++({data:=#[48,49,50,51,52,53,54,55,56,57,97,98,99,100,101,102]}:ByteArray).extract (x % 16).toNat (x % 16+1).toNat=str [92,117,48,48,hexD a,hexD b]:=by
 rw[hxa,hxb,hexSl a ha,hexSl b hb]
 rfl
theorem conv2n (w:World) (a b:Int) (n:Nat) (h:n=w.heap.size):(convert 115 9 (.slice (some ⟨n,0,none⟩) 2 2)).run Tryz.prog (w.alloc (.cells #[.int .u8 a,.int .u8 b] 5))= .ok (.string (strOfNums [a,b])) (w.alloc (.cells #[.int .u8 a,.int .u8 b] 5)):=by subst h;exact conv2 w a b
attribute [local go_sem] conv2n letAt0 letAt1 letAt2 letAt3 letAt4
theorem escape_any (c:UInt8) (w:World) (hE:Env w):
 Calls Tryz.prog 204 #[.int .u8 (c.toNat:Nat)] w fun e w'=>e= .returned (.string (str (escB c)))∧Ext w w':=by
 obtain ⟨L,hL⟩:∃L,escB c=L:=⟨_,rfl⟩
 rw[hL]
 have HL:=gd hL
 clear hL
 obtain ⟨x,hx⟩:∃x:Int,(c.toNat:Int)=x:=⟨_,rfl⟩
 have hx1:=byteInt c
 rw[hx] at hx1⊢
 have hx0:0≤x:=by omega
 have HX:=gd hx
 clear hx
 obtain ⟨t,fr,hlet⟩:=hE.letters
 by_cases hq:x=34∨x=92
 ·have hf:Hid (L= [92,UInt8.ofNat x.toNat]):=by
   show _=_
   have:=HX.out
   rw[←HL.out];unfold escB;rw[if_pos (by omega),show x.toNat=c.toNat by omega];simp
  clear HX HL
  rcases hq with rfl|rfl
  all_goals go_enter Tryz.func204,Tryz.ntmps204
  all_goals go_wp2
  all_goals go_ret
  all_goals exact ⟨by rw[hf.out];rfl,by repeat (first|exact Ext.refl _|apply Ext.drew|apply Ext.alloc|(refine Ext.setCell ?_ (by simp) _))⟩
 ·have hq1:(x==34)=false:=by rw[beq_eq_false_iff_ne];omega
  have hq2:(x==92)=false:=by rw[beq_eq_false_iff_ne];omega
  clear hq
  by_cases h32:32≤x
  ·have hf:Hid (L= []):=by
    show _=_
    have:=HX.out
    rw[beq_eq_false_iff_ne] at hq1 hq2
    rw[←HL.out];unfold escB;rw[if_neg (by omega),if_pos (by omega)]
   go_enter Tryz.func204,Tryz.ntmps204
   go_wp2
   all_goals go_ret
   all_goals exact ⟨by rw[hf.out];rfl,Ext.refl _⟩
  ·have h5:(x=8∨x=9∨x=10∨x=12∨x=13)∨(x≠8∧x≠9∧x≠10∧x≠12∧x≠13):=by omega
   rcases h5 with h5|h5
   ·have hf:Hid (L= [92,UInt8.ofNat (letterN x.toNat)]):=by
     show _=_
     have:=HX.out
     rw[←HL.out,escB_letter c (by rcases h5 with h|h|h|h|h<;>(rw[show c.toNat=x.toNat by omega,h];decide)),show c.toNat=x.toNat by omega]
    clear HX HL
    clear hq1 hq2
    rcases h5 with rfl|rfl|rfl|rfl|rfl
    all_goals go_enter Tryz.func204,Tryz.ntmps204
    all_goals go_wp2_with (refine wpList_load_row rfl 259 _ rfl 3 rfl t _ fr _ hlet Tryz.underlying259 rfl (by kernel_rfl) ?_)
    all_goals refine wp_loop_rounds 5 ?_
    all_goals rw[rounds_succ]
    all_goals go_wp2
    all_goals try rw[rounds_succ]
    all_goals try go_wp2
    all_goals try rw[rounds_succ]
    all_goals try go_wp2
    all_goals try rw[rounds_succ]
    all_goals try go_wp2
    all_goals try rw[rounds_succ]
    all_goals try go_wp2
    all_goals go_ret
    all_goals exact ⟨by rw[hf.out,str_nums];rfl,by repeat (first|exact Ext.refl _|apply Ext.drew|apply Ext.alloc|(refine Ext.setCell ?_ (by simp) _))⟩
   ·obtain ⟨n8,n9,n10,n12,n13⟩:=h5
    obtain ⟨a,ha⟩:∃a,c.toNat / 16=a:=⟨_,rfl⟩
    obtain ⟨b,hb⟩:∃b,c.toNat % 16=b:=⟨_,rfl⟩
    have hxc:=HX.out
    have hf:Hid (L= [92,117,48,48,hexD a,hexD b]):=by
     show _=_
     rw[beq_eq_false_iff_ne] at hq1 hq2
     rw[←HL.out,escB_hex c (by unfold letterN;(repeat' split)<;>omega) (by omega),ha,hb]
    have m8:((8:Int)==x)=false:=by rw[beq_eq_false_iff_ne];omega
    have m9:((9:Int)==x)=false:=by rw[beq_eq_false_iff_ne];omega
    have m10:((10:Int)==x)=false:=by rw[beq_eq_false_iff_ne];omega
    have m12:((12:Int)==x)=false:=by rw[beq_eq_false_iff_ne];omega
    have m13:((13:Int)==x)=false:=by rw[beq_eq_false_iff_ne];omega
    have hxa:Hid (x / 16=(a:Int)):=by show _=_;omega
    have hxb:Hid (x % 16=(b:Int)):=by show _=_;omega
    have ha16:(a:Int)<16:=by omega
    have hb16:(b:Int)<16:=by omega
    clear HX HL n8 n9 n10 n12 n13 ha hb hxc
    go_enter Tryz.func204,Tryz.ntmps204
    go_wp2_with (refine wpList_load_row rfl 259 _ rfl 3 rfl t _ fr _ hlet Tryz.underlying259 rfl (by kernel_rfl) ?_)
    refine wp_loop_rounds 6 ?_
    rw[rounds_succ]
    go_wp2
    rw[rounds_succ]
    go_wp2
    rw[rounds_succ]
    go_wp2
    rw[rounds_succ]
    go_wp2
    rw[rounds_succ]
    go_wp2
    rw[rounds_succ]
    go_wp2
    go_region
    have ht:=hexText x a b (by omega) (by omega) hxa.out hxb.out
    rw[ht,←hf.out]
    clear ht
    go_wp2
    go_ret
    exact ⟨rfl,by repeat (first|exact Ext.refl _|apply Ext.drew|apply Ext.alloc|(refine Ext.setCell ?_ (by simp) _))⟩
end
theorem isEmpty_str (l:List UInt8):(str l).toList.isEmpty=l.isEmpty:=by rw[toList_data,str_list]
theorem extract_list (s:ByteArray) (f k:Nat) (h:f≤k):(s.extract f k).data.toList=(s.data.toList.drop f).take (k - f):=by
 simp
theorem cat_list (a b:ByteArray):(a++b).data.toList=a.data.toList++b.data.toList:=by simp
theorem seg_step (s:ByteArray) (f k:Nat) (h:f≤k) (hk:k<s.size):(s.data.toList.drop f).take (k+1 - f)=(s.data.toList.drop f).take (k - f)++ [s[k]]:=by
 rw[show k+1 - f=(k - f)+1 by omega,List.take_succ_eq_append_getElem (by rw[List.length_drop,data_len];omega)]
 simp only[List.getElem_drop]
 congr 2
 have:f+(k - f)=k:=by omega
 simp only[this]
 rfl
theorem own_ext {w w':World} {base size n:Nat} {e:TypeId} {v:Value} {xs:List Value} (h:w.ownsRow base e size v n xs) (hx:Ext w w'):w'.ownsRow base e size v n xs:=
 h.kept (hx.grown none) (by cases v.ownBlock<;>simp)
theorem builder_ext {T e:TypeId} {B b:Nat} {bs:List Value} {w w':World} (h:Lib.IsBuilder T e B b bs w) (hx:Ext w w'):Lib.IsBuilder T e B b bs w':=by
 rcases h with ⟨hB,v,hb,hown,hne⟩|⟨hB,v,hb,hown,hne⟩
 ·exact Or.inl ⟨hB,v,hx.heap hb,own_ext hown hx,hne⟩
 ·exact Or.inr ⟨hB,v,hx.heap hb,own_ext hown hx,hne⟩
theorem quote_any (s:ByteArray) (w:World) (hE:Env w) (hs:s.size≤16777216):
 Calls Tryz.prog 180 #[.string s] w fun e w'=>e= .returned (.tuple #[.string (quoteS s).1,.int .i64 ((quoteS s).2:Nat)])∧Ext w w':=by
 have hval:=validString_any s w hE hs
 obtain ⟨V,hV⟩:∃V,Lib.validD s.data.toList=V:=⟨_,rfl⟩
 rw[hV] at hval
 have hq:quoteS s=if V then (str (quoteL s.data.toList),0) else (str [],5):=by unfold quoteS;rw[hV]
 rw[hq]
 clear hq hV
 have HVAL:=gd hval
 clear hval
 cases V
 ·go_enter Tryz.func180,Tryz.ntmps180
  go_wp2_with (go_at_call 178;refine (HVAL.out).mono ?_;rintro e w' ⟨rfl,hx⟩)
  go_ret2
  exact ⟨rfl,hx⟩
 ·obtain ⟨Q,hQ⟩:∃Q,quoteL s.data.toList=Q:=⟨_,rfl⟩
  rw[hQ]
  have HQ:=gd hQ
  clear hQ
  simp only[if_true]
  go_enter Tryz.func180,Tryz.ntmps180
  go_wp2_with (go_at_call 178;refine (HVAL.out).mono ?_;rintro e w1 ⟨rfl,hx⟩)
  refine (builderWriteByte_any w1.heap.size _ [] _ _ (Lib.fresh_isBuilder _ _ _) (by simp) (by simp)).mono ?_
  rintro e w2 ⟨rfl,hB2,hx2⟩
  have hxx:Ext w w2:=(hx.alloc _).then (Below.mono hx2 hx.size)
  have hbz:w1.heap.size≤w2.heap.size:=by have:=hx2.size;simp at this;omega
  have hwz:=hx.size
  go_wp2
  go_loopw [5,6,7,14] (fun fr _ _ i wr=>∃k f:Nat,k≤s.size∧f≤k∧i= .int .i64 k∧fr= .int .i64 f∧Lib.IsBuilder 117 5 w1.heap.size w1.heap.size (Lib.byteCells (qPre s.data.toList f)) wr∧
   Hid (qPre s.data.toList k=qPre s.data.toList f++(s.data.toList.drop f).take (k - f))∧Ext w wr∧w1.heap.size≤wr.heap.size) (fun _ _ _ i _=>s.size - (intOf i).toNat)
  case atStart=>exact ⟨0,0,Nat.zero_le _,Nat.zero_le _,rfl,rfl,hB2,by show _=_;simp,hxx,hbz⟩
  case round=>
   obtain ⟨k,f,hk,hf,rfl,rfl,hB,hq,hx3,hbz3⟩:=hrel
   have hle:=qPre_len s.data.toList f
   have hst:=hE.ext hx3
   by_cases hlt:k<s.size
   ·have hesc:=escape_any s[k] wr hst
    have hqs:=qPre_step s k hlt
    have hseg:=seg_step s f k hf hlt
    obtain ⟨E,hEq⟩:∃E,escB s[k]=E:=⟨_,rfl⟩
    have hlen:=escB_len s[k]
    unfold qB at hqs
    rw[hEq] at hesc hqs hlen
    have HESC:=gd hesc
    by_cases hE0:E= []
    ·subst hE0
     rw[if_pos rfl] at hqs
     have HQ3:Hid (qPre s.data.toList (k+1)=qPre s.data.toList f++(s.data.toList.drop f).take (k+1 - f)):=by
      show _=_
      rw[hqs,hq.out,hseg,List.append_assoc]
     have hem:(str ([]:List UInt8)).toList.isEmpty=true:=isEmpty_str []
     have HEM:=gd hem
     clear hesc hqs hseg hEq hq hem hlen
     go_wp2_with (go_at_call 204;refine (HESC.out).mono ?_;rintro e w' ⟨rfl,hx'⟩;have hem:=HEM.out)
     go_roundw
     case rel=>exact ⟨k+1,f,by omega,by omega,by go_num,rfl,builder_ext hB hx',HQ3,hx3.trans hx',Nat.le_trans hbz3 hx'.size⟩
     case measure=>simp[intOf];omega
    ·rw[if_neg hE0] at hqs
     have HQ3:Hid (Lib.byteCells (qPre s.data.toList (k+1))=Lib.byteCells (qPre s.data.toList f)++Lib.byteCells (s.extract f k++str E).data.toList):=by
      show _=_
      rw[hqs,hq.out,cat_list,extract_list s f k hf,str_list,List.append_assoc,byteCells_app]
     have hem:(str E).toList.isEmpty=false:=by rw[isEmpty_str];cases E<;>simp_all
     have HEM:=gd hem
     have hsz:(s.extract f k++str E).size≤16777216+6:=by
      have:(s.extract f k++str E).size=(s.extract f k++str E).data.toList.length:=rfl
      rw[this,cat_list,extract_list s f k hf,str_list,List.length_append,List.length_take,List.length_drop,data_len]
      omega
     have HSZ:=gd hsz
     clear hesc hqs hseg hEq hq hem hE0 hsz
     go_wp2_with (go_at_call 204;refine (HESC.out).mono ?_;rintro e w' ⟨rfl,hx'⟩;have hem:=HEM.out)
     have hB':=builder_ext hB hx'
     have hz3:=hx'.size
     refine (builderWriteString_any _ _ _ _ _ hB' (by rw[byteCells_len];have:=HSZ.out;omega) (by omega)).mono ?_
     rintro e w4 ⟨rfl,hB4,hx4⟩
     rw[←HQ3.out] at hB4
     go_wp2
     have hx5:Ext w w4:=(hx3.trans hx').then (Below.mono hx4 hwz)
     have hz5:=hx4.size
     go_roundw
     case rel=>exact ⟨k+1,k+1,by omega,by omega,by go_num,by go_num,hB4,by show _=_;simp,hx5,by omega⟩
     case measure=>simp[intOf];omega
   ·have hke:k=s.size:=by omega
    have hsz:(s.extract f s.size++str [34]).size≤16777216+6:=by
     have:(s.extract f s.size++str [34]).size=(s.extract f s.size++str [34]).data.toList.length:=rfl
     rw[this,cat_list,ext_list,str_list,List.length_append,List.length_drop,data_len]
     simp;omega
    have hfin:Lib.byteCells (qPre s.data.toList f)++Lib.byteCells (s.extract f s.size++str [34]).data.toList=Lib.byteCells Q:=by
     rw[←byteCells_app,cat_list,ext_list,str_list]
     congr 1
     have h:=hq.out
     rw[hke,List.take_of_length_le (by rw[List.length_drop,data_len];omega)] at h
     rw[←List.append_assoc,←h,←HQ.out,←qPre_all]
     rfl
    have HF:=gd hfin
    have HSZ:=gd hsz
    clear hfin hq hke hsz
    go_wp2_with (go_at_call 145;refine (builderWriteString_any _ _ _ (s.extract f s.size++str [34]) _ hB (by rw[byteCells_len];have:=HSZ.out;omega) hbz3).mono ?_;rintro e w4 ⟨rfl,hB4,hx4⟩)
    rw[HF.out] at hB4
    have hz5:=hx4.size
    have hx5:Ext w w4:=hx3.then (Below.mono hx4 hwz)
    go_wp2_with (go_at_call 70;refine (builderString_any _ _ _ _ hB4 (by omega)).mono ?_;rintro e w5 ⟨rfl,hx6⟩)
    go_ret2
    exact ⟨rfl,hx5.then (Below.mono hx6 hwz)⟩
section
attribute [local go_sem] conv1 strOfNums_size
def i64ok (n:Int):Prop:= -9223372036854775808≤n∧n≤9223372036854775807
def itoaS (n:Int):ByteArray:=str (Lib.itoa n)
theorem digits_small (u:Nat) (h:u<10):Lib.decDigits u= [UInt8.ofNat (48+u)]:=by rw[Lib.decDigits,dif_pos h]
theorem digits_big (u:Nat) (h:¬u<10):Lib.decDigits u=Lib.decDigits (u / 10)++ [UInt8.ofNat (48+u % 10)]:=by rw[Lib.decDigits,dif_neg h]
theorem cons_nums (x:Int) (d:Nat) (l:List UInt8) (h:x.toNat=d):strOfNums [x]++str l=str (UInt8.ofNat d::l):=by
 subst h;exact bytes_inj (by simp[str_nums])
theorem wrap_ok (x:Int) (h:i64ok x):wrap64 x=x:=by unfold wrap64;have:=h.1;have:=h.2;omega
theorem formatInt_any (n:Int) (w:World) (hE:Env w) (hn:i64ok n):
 Calls Tryz.prog 72 #[.int .i64 n,.int .i64 10] w fun e w'=>e= .returned (.string (itoaS n))∧Ext w w':=by
 refine (Tryz.strconv_FormatInt_10 n hn.1 hn.2 w hE.pow).mono ?_
 rintro e w' ⟨rfl,k,os,rfl⟩
 exact ⟨rfl,Lib.below_grow _ w (Nat.le_refl _) k os⟩
end
def vcells (k:Int) (b:Bool) (n:Int) (s:ByteArray) (its:Value) (at_:Int):List Value:= [.int .i64 k,.bool b,.int .i64 n,.string s,its,.slice none 0 0,.int .i64 at_]
def ocells (ms:Value) (at_:Int):List Value:= [.int .i64 5,.bool false,.int .i64 0,.string ⟨#[]⟩,.slice none 0 0,ms,.int .i64 at_]
def mcell (m:ByteArray×List Value×Int):List Value:= .string m.1::(m.2.1++ [.int .i64 m.2.2])
def RVn:Nat→World→JV→List Value→Prop
 |0,_,_,_=>False
 |n+1,w,j,cs=>∃a:Int,match j with
  | .null=>cs=vcells 0 false 0 ⟨#[]⟩ (.slice none 0 0) a
  | .bool b=>cs=vcells 1 b 0 ⟨#[]⟩ (.slice none 0 0) a
  | .int x=>cs=vcells 2 false x ⟨#[]⟩ (.slice none 0 0) a
  | .str s=>cs=vcells 3 false 0 s (.slice none 0 0) a
  | .obj ks vs=>∃(v:Value) (ms:List (ByteArray×List Value×Int)),cs=ocells v a∧ms.map Prod.fst=ks∧ms.length=vs.length∧RSl w 9 v vs.length (ms.map mcell).flatten∧∀(i:Nat) (j:JV) (m:ByteArray×List Value×Int),vs[i]? =some j→ms[i]? =some m→RVn n w j m.2.1
  | .arr l=>∃(v:Value) (css:List (List Value)),cs=vcells 4 false 0 ⟨#[]⟩ v a∧css.length=l.length∧RSl w 7 v l.length css.flatten∧∀(i:Nat) (j:JV) (c:List Value),l[i]? =some j→css[i]? =some c→RVn n w j c
def RV (w:World) (j:JV) (cs:List Value):Prop:=∃n,RVn n w j cs
theorem RVn.ext {w w':World} (hx:Ext w w'):∀(n:Nat) (j:JV) (cs:List Value),RVn n w j cs→RVn n w' j cs
 |0,_,_,h=>h.elim
 |n+1,j,cs,⟨a,h⟩=>by
  refine ⟨a,?_⟩
  cases j with
  |arr l=>
   obtain ⟨v,css,h1,h2,h3,h4⟩:=h
   exact ⟨v,css,h1,h2,h3.ext hx,fun i j c hj hc=>RVn.ext hx n j c (h4 i j c hj hc)⟩
  |obj ks vs=>
   obtain ⟨v,ms,h1,h2,h3,h4,h5⟩:=h
   exact ⟨v,ms,h1,h2,h3,h4.ext hx,fun i j c hj hc=>RVn.ext hx n j c.2.1 (h5 i j c hj hc)⟩
  |_=>exact h
theorem RVn.more {w:World}:∀(n m:Nat) (j:JV) (cs:List Value),n≤m→RVn n w j cs→RVn m w j cs
 |0,_,_,_,_,h=>h.elim
 |n+1,0,_,_,h,_=>by omega
 |n+1,m+1,j,cs,hnm,⟨a,h⟩=>by
  refine ⟨a,?_⟩
  cases j with
  |arr l=>
   obtain ⟨v,css,h1,h2,h3,h4⟩:=h
   exact ⟨v,css,h1,h2,h3,fun i j c hj hc=>RVn.more n m j c (by omega) (h4 i j c hj hc)⟩
  |obj ks vs=>
   obtain ⟨v,ms,h1,h2,h3,h4,h5⟩:=h
   exact ⟨v,ms,h1,h2,h3,h4,fun i j c hj hc=>RVn.more n m j c.2.1 (by omega) (h5 i j c hj hc)⟩
  |_=>exact h
theorem RV.ext {w w':World} {j:JV} {cs:List Value} (h:RV w j cs) (hx:Ext w w'):RV w' j cs:=let ⟨n,h⟩:=h;⟨n,h.ext hx⟩
theorem RVn.len {w:World} {n:Nat} {j:JV} {cs:List Value} (h:RVn n w j cs):cs.length=7:=by
 cases n with
 |zero=>exact h.elim
 |succ n=>
  obtain ⟨a,h⟩:=h
  cases j with
  |arr l=>obtain ⟨v,css,rfl,_⟩:=h;rfl
  |obj ks vs=>obtain ⟨v,ms,rfl,_⟩:=h;rfl
  |_=>subst h;rfl
theorem unused_any (n:Nat) (j:JV) (cs:List Value) (w:World) (h:RVn n w j cs):
 Calls Tryz.prog 177 #[.agg cs.toArray] w fun e w'=>e= .returned (.bool true)∧Ext w w':=by
 cases n with
 |zero=>exact h.elim
 |succ n=>
  obtain ⟨a,h⟩:=h
  cases j with
  |arr l=>
   obtain ⟨v,css,rfl,hcl,hr,_⟩:=h
   obtain ⟨_,A,c,rfl,hmc,hcm,_,_⟩:=hr
   unfold vcells
   go_enter Tryz.func177,Tryz.ntmps177
   go_wp2
   all_goals go_ret
   all_goals exact ⟨by first|rfl|(refine congrArg (fun b=>Ending.returned (.bool b)) ?_;simp_all),by repeat (first|exact Ext.refl _|apply Ext.drew|apply Ext.alloc|(refine Ext.setCell ?_ (by simp) _))⟩
  |obj ks vs=>
   obtain ⟨v,ms,rfl, -, -,hr,_⟩:=h
   obtain ⟨_,A,c,rfl,hmc,hcm,_,_⟩:=hr
   unfold ocells
   go_enter Tryz.func177,Tryz.ntmps177
   go_wp2
   all_goals go_ret
   all_goals exact ⟨by first|rfl|(refine congrArg (fun b=>Ending.returned (.bool b)) ?_;simp_all),by repeat (first|exact Ext.refl _|apply Ext.drew|apply Ext.alloc|(refine Ext.setCell ?_ (by simp) _))⟩
  |null=>
   subst h
   unfold vcells
   go_enter Tryz.func177,Tryz.ntmps177
   go_wp2
   all_goals go_ret
   all_goals exact ⟨by first|rfl|(refine congrArg (fun b=>Ending.returned (.bool b)) ?_;simp_all),by repeat (first|exact Ext.refl _|apply Ext.drew|apply Ext.alloc|(refine Ext.setCell ?_ (by simp) _))⟩
  |bool b=>
   subst h
   unfold vcells
   go_enter Tryz.func177,Tryz.ntmps177
   go_wp2
   all_goals go_ret
   all_goals exact ⟨by first|rfl|(refine congrArg (fun b=>Ending.returned (.bool b)) ?_;simp_all),by repeat (first|exact Ext.refl _|apply Ext.drew|apply Ext.alloc|(refine Ext.setCell ?_ (by simp) _))⟩
  |int x=>
   subst h
   unfold vcells
   go_enter Tryz.func177,Tryz.ntmps177
   go_wp2
   all_goals go_ret
   all_goals exact ⟨by first|rfl|(refine congrArg (fun b=>Ending.returned (.bool b)) ?_;simp_all),by repeat (first|exact Ext.refl _|apply Ext.drew|apply Ext.alloc|(refine Ext.setCell ?_ (by simp) _))⟩
  |str t=>
   subst h
   unfold vcells
   go_enter Tryz.func177,Tryz.ntmps177
   go_wp2
   all_goals go_ret
   all_goals exact ⟨by first|rfl|(refine congrArg (fun b=>Ending.returned (.bool b)) ?_;simp_all),by repeat (first|exact Ext.refl _|apply Ext.drew|apply Ext.alloc|(refine Ext.setCell ?_ (by simp) _))⟩
def bJ:JO→Bool
 | .bool _ b=>b
 |_=>false
def nJ:JO→Int
 | .int _ n=>n
 |_=>0
def ksJ:JO→List (ByteArray×Nat)
 | .obj _ ks _=>ks
 |_=> []
def vsJ:JO→List JO
 | .obj _ _ vs=>vs
 |_=> []
def wcells (k:Int) (b:Bool) (n:Int) (s:ByteArray) (its ms:Value) (a:Int):List Value:= [.int .i64 k,.bool b,.int .i64 n,.string s,its,ms,.int .i64 a]
def RIts (w:World) (P:JO→List Value→Prop) (v:Value) (l:List JO):Prop:=∃css:List (List Value),css.length=l.length∧RSl w 7 v l.length css.flatten∧∀(i:Nat) (j:JO) (c:List Value),l[i]? =some j→css[i]? =some c→P j c
def RMems (w:World) (P:JO→List Value→Prop) (v:Value) (ks:List (ByteArray×Nat)) (vs:List JO):Prop:=
 ∃ms:List (ByteArray×List Value×Int),ms.map (fun m=>(m.1,m.2.2))=ks.map (fun k=>(k.1,(k.2:Int)))∧ms.length=vs.length∧RSl w 9 v vs.length (ms.map mcell).flatten∧∀(i:Nat) (j:JO) (m:ByteArray×List Value×Int),vs[i]? =some j→ms[i]? =some m→P j m.2.1
def RJn:Nat→World→JO→List Value→Prop
 |0,_,_,_=>False
 |n+1,w,j,cs=>∃its ms:Value,cs=wcells (kindJ j) (bJ j) (nJ j) (sJ j) its ms (atJ j)∧RIts w (RJn n w) its (itemsJ j)∧RMems w (RJn n w) ms (ksJ j) (vsJ j)∧
  (kindJ j≠4→its= .slice none 0 0)∧(kindJ j≠5→ms= .slice none 0 0)
def RJ (w:World) (j:JO) (cs:List Value):Prop:=∃n,RJn n w j cs
theorem RIts.mono {w w':World} {P Q:JO→List Value→Prop} {v:Value} {l:List JO} (h:RIts w P v l) (hx:Ext w w') (hpq:∀j c,P j c→Q j c):RIts w' Q v l:=by
 obtain ⟨css,h1,h2,h3⟩:=h
 exact ⟨css,h1,h2.ext hx,fun i j c hj hc=>hpq _ _ (h3 i j c hj hc)⟩
theorem RMems.mono {w w':World} {P Q:JO→List Value→Prop} {v:Value} {ks:List (ByteArray×Nat)} {vs:List JO} (h:RMems w P v ks vs) (hx:Ext w w') (hpq:∀j c,P j c→Q j c):RMems w' Q v ks vs:=by
 obtain ⟨css,h0,h1,h2,h3⟩:=h
 exact ⟨css,h0,h1,h2.ext hx,fun i j c hj hc=>hpq _ _ (h3 i j c hj hc)⟩
theorem RJn.ext {w w':World} (hx:Ext w w'):∀{n:Nat} {j:JO} {cs:List Value},RJn n w j cs→RJn n w' j cs
 |0,_,_,h=>h.elim
 |n+1,j,cs,⟨its,ms,h1,h2,h3,h4,h5⟩=>⟨its,ms,h1,h2.mono hx fun _ _ h=>h.ext hx,h3.mono hx fun _ _ h=>h.ext hx,h4,h5⟩
theorem RJn.more {w:World}:∀{n m:Nat} {j:JO} {cs:List Value},n≤m→RJn n w j cs→RJn m w j cs
 |0,_,_,_,_,h=>h.elim
 |n+1,0,_,_,h,_=>by omega
 |n+1,m+1,j,cs,hnm,⟨its,ms,h1,h2,h3,h4,h5⟩=>⟨its,ms,h1,h2.mono (Ext.refl w) fun _ _ h=>h.more (Nat.le_of_succ_le_succ hnm),h3.mono (Ext.refl w) fun _ _ h=>h.more (Nat.le_of_succ_le_succ hnm),h4,h5⟩
theorem RJ.ext {w w':World} {j:JO} {cs:List Value} (h:RJ w j cs) (hx:Ext w w'):RJ w' j cs:=let ⟨n,h⟩:=h;⟨n,h.ext hx⟩
theorem RJn.cells {w:World} {n:Nat} {j:JO} {cs:List Value} (h:RJn n w j cs):∃A p c B q d,cs=wcells (kindJ j) (bJ j) (nJ j) (sJ j) (.slice A p c) (.slice B q d) (atJ j):=by
 cases n with
 |zero=>exact h.elim
 |succ n=>
  obtain ⟨its,ms,rfl,⟨_,_,h2,_⟩,⟨_,_,_,h3,_⟩,_⟩:=h
  obtain ⟨_,A,c,rfl,_⟩:=h2
  obtain ⟨_,B,d,rfl,_⟩:=h3
  exact ⟨_,_,_,_,_,_,rfl⟩
theorem RJ.cells {w:World} {j:JO} {cs:List Value} (h:RJ w j cs):∃A p c B q d,cs=wcells (kindJ j) (bJ j) (nJ j) (sJ j) (.slice A p c) (.slice B q d) (atJ j):=let ⟨_,h⟩:=h;h.cells
theorem RJn.len {w:World} {n:Nat} {j:JO} {cs:List Value} (h:RJn n w j cs):cs.length=7:=by
 obtain ⟨_,_,_,_,_,_,rfl⟩:=h.cells;rfl
theorem wcells_one {k:Int} {b:Bool} {n:Int} {s:ByteArray} {A B:Option Addr} {p c q d:Nat} {a:Int}:∀u∈wcells k b n s (.slice A p c) (.slice B q d) a,u.oneCell'=true:=by
 intro u hu
 simp[wcells] at hu
 rcases hu with rfl|rfl|rfl|rfl|rfl|rfl|rfl<;>rfl
theorem RJn.leaf {w:World} {n:Nat} {j:JO} (hj:itemsJ j= []∧ksJ j= []∧vsJ j= []):RJn (n+1) w j (wcells (kindJ j) (bJ j) (nJ j) (sJ j) (.slice none 0 0) (.slice none 0 0) (atJ j)):=by
 refine ⟨_,_,rfl,?_,?_,fun _=>rfl,fun _=>rfl⟩
 ·rw[hj.1];exact ⟨[],rfl,RSl.nil w 7,fun i j c hj _=>by simp at hj⟩
 ·rw[hj.2.1,hj.2.2];exact ⟨[],rfl,rfl,RSl.nil w 9,fun i j c hj _=>by simp at hj⟩
theorem RJ.null (w:World):RJ w (.null 0) (wcells 0 false 0 ⟨#[]⟩ (.slice none 0 0) (.slice none 0 0) 0):=⟨1,RJn.leaf (j:= .null 0) ⟨rfl,rfl,rfl⟩⟩
end Go.Proofs.YthlnaldahkgjnaaGreatDoor
