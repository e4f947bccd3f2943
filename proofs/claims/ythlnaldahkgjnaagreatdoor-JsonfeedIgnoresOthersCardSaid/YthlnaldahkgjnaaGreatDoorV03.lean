/- Parts of the proof: contracts and plain laws. -/
import Derived.Test.YthlnaldahkgjnaaGreatDoorProg
import Derived.Test.YthlnaldahkgjnaaGreatDoorV02
namespace Go.Proofs.YthlnaldahkgjnaaGreatDoor
open Go Go.RowKit Go.Shelf
set_option linter.unusedVariables false
set_option linter.unusedSimpArgs false
set_option maxRecDepth 100000
set_option maxHeartbeats 16000000
def isU (l:List UInt8):Prop:=∃rs:List Nat,(∀r∈rs,scalar r)∧l=rs.flatMap encN
theorem isU_nil:isU []:=⟨[],by simp,rfl⟩
theorem isU_app {l m:List UInt8} (h:isU l) (k:isU m):isU (l++m):=by
 obtain ⟨a,ha,rfl⟩:=h
 obtain ⟨b,hb,rfl⟩:=k
 exact ⟨a++b,fun r hr=>(List.mem_append.1 hr).elim (ha r) (hb r),by simp⟩
theorem isU_enc {r:Nat} (h:scalar r):isU (encN r):=⟨[r],by simpa using h,by simp⟩
theorem utf_valid {l:List UInt8} (h:isU l):Lib.validD l=true:=by
 obtain ⟨rs,h,rfl⟩:=h
 induction rs with
 |nil=>rfl
 |cons r rs ih=>
  have hr:=h r (by simp)
  have h1:=encN_len hr
  have hd:=dec_enc hr (rs.flatMap encN)
  rw[List.flatMap_cons]
  have hv:=valid_at (encN r++rs.flatMap encN) 0 (by rw[List.length_append];omega)
  rw[List.drop_zero,hd,if_neg (by simp only[];omega),Nat.zero_add,List.drop_left] at hv
  rw[hv]
  exact ih fun r hr=>h r (by simp[hr])
theorem hexGo_lt {l:List UInt8} {i:Nat}:∀{k n:Nat},hexGo l i k=some n→n<16 ^ k∧(0<k→i+k≤l.length)
 |0,n,h=>by cases h;exact ⟨by decide,fun h=>absurd h (Nat.lt_irrefl _)⟩
 |k+1,n,h=>by
  unfold hexGo at h
  cases h1:hexGo l i k with
  |none=>rw[h1] at h;cases h
  |some m=>
   cases h2:l[i+k]? with
   |none=>rw[h1,h2] at h;cases h
   |some c=>
    rw[h1,h2] at h
    simp only at h
    by_cases h3:hexV c<16
    ·rw[if_pos h3] at h
     injection h with h
     have:=(hexGo_lt h1).1
     have h4:=(List.getElem?_eq_some_iff.1 h2).1
     refine ⟨by rw[Nat.pow_succ];omega,fun _=>by omega⟩
    ·rw[if_neg h3] at h;cases h
theorem unit_lt {l:List UInt8} {i n:Nat} (h:unitP l i=some n):n<65536∧i+6≤l.length:=by
 unfold unitP at h
 by_cases hc:l[i]? =some 92∧l[i+1]? =some 117
 ·rw[if_pos hc] at h
  have:=hexGo_lt h
  exact ⟨this.1,by have:=this.2 (by omega);omega⟩
 ·rw[if_neg hc] at h;cases h
theorem seq_ok {l:List UInt8} {i r n:Nat} (h:seqP l i=some (r,n)):scalar r∧(encN r).length≤n∧1≤n∧i+n≤l.length:=by
 unfold seqP at h
 cases hc:l[i+1]? with
 |none=>rw[hc] at h;cases h
 |some c=>
  rw[hc] at h
  simp only at h
  have hi:=(List.getElem?_eq_some_iff.1 hc).1
  have lo:∀r,r<128→scalar r∧(encN r).length=1:=fun r hr=>⟨Or.inl (by omega),by rw[encN_ascii hr];rfl⟩
  by_cases h1:c=34∨c=92∨c=47
  ·rw[if_pos h1] at h
   simp only[Option.some.injEq,Prod.mk.injEq] at h
   obtain ⟨rfl,rfl⟩:=h
   have:c.toNat<128:=by rcases h1 with rfl|rfl|rfl<;>decide
   obtain ⟨a,b⟩:=lo _ this
   exact ⟨a,by omega,by omega,by omega⟩
  ·rw[if_neg h1] at h
   by_cases h2:c=98∨c=102∨c=110∨c=114∨c=116
   ·have:∃x,x<128∧r=x∧n=2:=by
     rcases h2 with rfl|rfl|rfl|rfl|rfl<;>simp at h<;>obtain ⟨rfl,rfl⟩:=h<;>exact ⟨_,by decide,rfl,rfl⟩
    obtain ⟨x,hx,rfl,rfl⟩:=this
    obtain ⟨a,b⟩:=lo _ hx
    exact ⟨a,by omega,by omega,by omega⟩
   ·simp only[not_or] at h2
    rw[if_neg h2.1,if_neg h2.2.1,if_neg h2.2.2.1,if_neg h2.2.2.2.1,if_neg h2.2.2.2.2] at h
    cases hu:unitP l i with
    |none=>rw[hu] at h;cases h
    |some m=>
     rw[hu] at h
     simp only at h
     have hm:=unit_lt hu
     have len:∀r,scalar r→r<65536→(encN r).length≤3:=by
      intro r hs hr
      unfold encN
      repeat' split
      all_goals simp
      all_goals omega
     by_cases h3:55296≤m∧m≤56319
     ·rw[if_pos h3] at h
      cases hv:unitP l (i+6) with
      |none=>rw[hv] at h;cases h
      |some m2=>
       rw[hv] at h
       simp only at h
       have hm2:=unit_lt hv
       by_cases h4:56320≤m2∧m2≤57343
       ·rw[if_pos h4] at h
        simp only[Option.some.injEq,Prod.mk.injEq] at h
        obtain ⟨rfl,rfl⟩:=h
        have hs:scalar (65536+(m - 55296)*1024+m2 - 56320):=Or.inr (by omega)
        refine ⟨hs,?_,by omega,by omega⟩
        rw[encN_4 hs (by omega)];simp
       ·rw[if_neg h4] at h;cases h
     ·rw[if_neg h3] at h
      by_cases h4:56320≤m∧m≤57343
      ·rw[if_pos h4] at h;cases h
      ·rw[if_neg h4] at h
       simp only[Option.some.injEq,Prod.mk.injEq] at h
       obtain ⟨rfl,rfl⟩:=h
       have hs:scalar m:=by unfold scalar;omega
       have:=len m hs hm.1
       exact ⟨hs,by omega,by omega,by omega⟩
theorem strGo_ok {l:List UInt8}:∀(k i:Nat) (out t:List UInt8) (to_:Nat),strGo l k i out=some (t,to_)→isU out→out.length≤i→i≤l.length→isU t∧t.length≤to_∧i<to_∧to_≤l.length
 |0,_,_,_,_,h,_,_,_=>by cases h
 |k+1,i,out,t,to_,h,hu,ho,hi=>by
  unfold strGo at h
  by_cases h0:(dec (l.drop i)).2=0
  ·rw[if_pos h0] at h;cases h
  rw[if_neg h0] at h
  obtain ⟨-,hsc,hlen⟩:=dec_app [] h0
  have hle:=dec_le (l.drop i)
  rw[List.length_drop] at hle
  by_cases h1:(dec (l.drop i)).1<32
  ·rw[if_pos h1] at h;cases h
  rw[if_neg h1] at h
  by_cases h2:(dec (l.drop i)).1=34
  ·rw[if_pos h2] at h
   simp only[Option.some.injEq,Prod.mk.injEq] at h
   obtain ⟨rfl,rfl⟩:=h
   exact ⟨hu,by omega,by omega,by omega⟩
  rw[if_neg h2] at h
  by_cases h3:(dec (l.drop i)).1=92
  ·rw[if_pos h3] at h
   cases hs:seqP l i with
   |none=>rw[hs] at h;cases h
   |some p=>
    obtain ⟨r,n⟩:=p
    rw[hs] at h
    obtain ⟨a,b,c,d⟩:=seq_ok hs
    obtain ⟨e1,e2,e3,e4⟩:=strGo_ok k _ _ _ _ h (isU_app hu (isU_enc a)) (by rw[List.length_append];omega) d
    exact ⟨e1,e2,by omega,e4⟩
  ·rw[if_neg h3] at h
   obtain ⟨e1,e2,e3,e4⟩:=strGo_ok k _ _ _ _ h (isU_app hu (isU_enc hsc)) (by rw[List.length_append];omega) (by omega)
   exact ⟨e1,e2,by omega,e4⟩
theorem strP_ok {l t:List UInt8} {i to_:Nat} (h:strP l i=some (t,to_)):Lib.validD t=true∧t.length≤l.length∧i<to_∧to_≤l.length:=by
 unfold strP at h
 by_cases hc:l[i]? =some 34
 ·rw[if_pos hc] at h
  have hi:=(List.getElem?_eq_some_iff.1 hc).1
  obtain ⟨a,b,c,d⟩:=strGo_ok _ _ _ _ _ h isU_nil (Nat.zero_le _) hi
  exact ⟨utf_valid a,by omega,by omega,d⟩
 ·rw[if_neg hc] at h;cases h
theorem numV_ok {s:List UInt8} {n:Int} (h:numV s=some n): -9223372036854775808≤n∧n≤9223372036854775807:=by
 unfold numV at h
 simp only at h
 generalize (if s.head? =some 45 then s.tail else s)=d at h
 by_cases h1:d= []∨19<d.length∨(1<d.length∧d.head? =some 48)
 ·rw[if_pos h1] at h;cases h
 ·rw[if_neg h1] at h
  cases hv:decV d 0 with
  |none=>rw[hv] at h;cases h
  |some u=>
   rw[hv] at h
   simp only at h
   split at h<;>split at h<;>simp at h<;>omega
def GoodV (l:List UInt8) (V:Nat→Option (JO×Nat)):Prop:=∀i o to_,V i=some (o,to_)→jgood l.length o∧i<to_∧to_≤l.length
theorem has_lt {l t:List UInt8} {i:Nat} (h:hasAt l i t=true) (ht:t≠ []):i+t.length≤l.length:=by
 have h1:t<+:l.drop i:=List.isPrefixOf_iff_prefix.1 h
 have h2:=h1.length_le
 rw[List.length_drop] at h2
 have:=List.length_pos_iff.2 ht
 omega
theorem itemsGo_ok {l:List UInt8} {V:Nat→Option (JO×Nat)} (hV:GoodV l V):∀(k i:Nat) (acc vs:List JO) (to_:Nat),itemsGo l V k i acc=some (vs,to_)→(∀o∈acc,jgood l.length o)→acc.length≤i→i≤l.length→
 (∀o∈vs,jgood l.length o)∧vs.length≤to_∧i<to_∧to_≤l.length
 |0,_,_,_,_,h,_,_,_=>by cases h
 |k+1,i,acc,vs,to_,h,ha,hl,hi=>by
  unfold itemsGo at h
  cases hv:V (spAt l i) with
  |none=>rw[hv] at h;cases h
  |some p=>
   obtain ⟨o,t⟩:=p
   rw[hv] at h
   simp only at h
   obtain ⟨g1,g2,g3⟩:=hV _ _ _ hv
   have s1:=spAt_ge l i
   have s2:=spAt_ge l t
   have ha':∀x∈acc++ [o],jgood l.length x:=fun x hx=>by
    rcases List.mem_append.1 hx with hx|hx
    ·exact ha x hx
    ·rw[List.mem_singleton.1 hx];exact g1
   by_cases h1:hasAt l (spAt l t) [93]=true
   ·rw[if_pos h1] at h
    simp only[Option.some.injEq,Prod.mk.injEq] at h
    obtain ⟨rfl,rfl⟩:=h
    have:=has_lt h1 (by simp)
    simp only[List.length_append,List.length_cons,List.length_nil] at this⊢
    exact ⟨ha',by omega,by omega,by omega⟩
   ·rw[if_neg h1] at h
    by_cases h2:hasAt l (spAt l t) [44]=true
    ·rw[if_pos h2] at h
     have:=has_lt h2 (by simp)
     simp only[List.length_cons,List.length_nil] at this
     obtain ⟨a,b,c,d⟩:=itemsGo_ok hV k _ _ _ _ h ha' (by simp;omega) (by omega)
     exact ⟨a,b,by omega,d⟩
    ·rw[if_neg h2] at h;cases h
theorem keyP_ok {l:List UInt8} {i to_:Nat} {k:ByteArray} {ks:List (ByteArray×Nat)} (h:keyP l i ks=some (k,to_)):Lib.validD k.data.toList=true∧k.size≤l.length∧i<to_∧to_≤l.length:=by
 unfold keyP at h
 cases hs:strP l i with
 |none=>rw[hs] at h;cases h
 |some p=>
  obtain ⟨t,to2⟩:=p
  rw[hs] at h
  simp only at h
  obtain ⟨a,b,c,d⟩:=strP_ok hs
  by_cases h1:(ks.any fun p=>decide (p.1=str t))=true
  ·rw[if_pos h1] at h;cases h
  ·rw[if_neg h1] at h
   by_cases h2:hasAt l (spAt l to2) [58]=true
   ·rw[if_pos h2] at h
    simp only[Option.some.injEq,Prod.mk.injEq] at h
    obtain ⟨rfl,rfl⟩:=h
    have s:=spAt_ge l to2
    have:=has_lt h2 (by simp)
    simp only[List.length_cons,List.length_nil] at this
    refine ⟨by simpa [str] using a,by simpa [str,ByteArray.size] using b,by omega,by omega⟩
   ·rw[if_neg h2] at h;cases h
theorem memsGo_ok {l:List UInt8} {V:Nat→Option (JO×Nat)} (hV:GoodV l V):∀(f i:Nat) (ak:List (ByteArray×Nat)) (av:List JO) (ks:List (ByteArray×Nat)) (vs:List JO) (to_:Nat),memsGo l V f i ak av=some ((ks,vs),to_)→
 (∀k∈ak,k.2<l.length∧k.1.size≤l.length∧Lib.validD k.1.data.toList=true)→(∀o∈av,jgood l.length o)→ak.length=av.length→av.length≤i→i≤l.length→
 (∀k∈ks,k.2<l.length∧k.1.size≤l.length∧Lib.validD k.1.data.toList=true)∧(∀o∈vs,jgood l.length o)∧ks.length=vs.length∧vs.length≤to_∧i<to_∧to_≤l.length
 |0,_,_,_,_,_,_,h,_,_,_,_,_=>by cases h
 |f+1,i,ak,av,ks,vs,to_,h,hak,hav,hln,hl,hi=>by
  unfold memsGo at h
  cases hk:keyP l (spAt l i) ak with
  |none=>rw[hk] at h;cases h
  |some p=>
   obtain ⟨key,t0⟩:=p
   rw[hk] at h
   simp only at h
   obtain ⟨k1,k2,k3,k4⟩:=keyP_ok hk
   cases hv:V t0 with
   |none=>rw[hv] at h;cases h
   |some p=>
    obtain ⟨o,t⟩:=p
    rw[hv] at h
    simp only at h
    obtain ⟨g1,g2,g3⟩:=hV _ _ _ hv
    have s1:=spAt_ge l i
    have s2:=spAt_ge l t
    have hav':∀x∈av++ [o],jgood l.length x:=fun x hx=>by
     rcases List.mem_append.1 hx with hx|hx
     ·exact hav x hx
     ·rw[List.mem_singleton.1 hx];exact g1
    have hak':∀k∈ak++ [(key,spAt l i)],k.2<l.length∧k.1.size≤l.length∧Lib.validD k.1.data.toList=true:=fun x hx=>by
     rcases List.mem_append.1 hx with hx|hx
     ·exact hak x hx
     ·rw[List.mem_singleton.1 hx];exact ⟨by show spAt l i<_;omega,k2,k1⟩
    by_cases h1:hasAt l (spAt l t) [125]=true
    ·rw[if_pos h1] at h
     simp only[Option.some.injEq,Prod.mk.injEq] at h
     obtain ⟨⟨rfl,rfl⟩,rfl⟩:=h
     have:=has_lt h1 (by simp)
     simp only[List.length_append,List.length_cons,List.length_nil] at this⊢
     exact ⟨hak',hav',by omega,by omega,by omega,by omega⟩
    ·rw[if_neg h1] at h
     by_cases h2:hasAt l (spAt l t) [44]=true
     ·rw[if_pos h2] at h
      have:=has_lt h2 (by simp)
      simp only[List.length_cons,List.length_nil] at this
      obtain ⟨a,b,c,d,e,e2⟩:=memsGo_ok hV f _ _ _ _ _ _ h hak' hav' (by simp[hln]) (by simp;omega) (by omega)
      exact ⟨a,b,c,d,by omega,e2⟩
     ·rw[if_neg h2] at h;cases h
theorem listP_ok {l:List UInt8} {V:Nat→Option (JO×Nat)} (hV:GoodV l V) {i to_:Nat} {b:Bool} {o:JO} (hi:i<l.length) (h:listP l V i b=some (o,to_)):jgood l.length o∧i<to_∧to_≤l.length:=by
 unfold listP at h
 have s1:=spAt_ge l (i+1)
 have s2:=spAt_le (s:=l) (k:=i+1) (by omega)
 cases b with
 |true=>
  rw[if_pos rfl] at h
  by_cases h1:hasAt l (spAt l (i+1)) [125]=true
  ·rw[if_pos h1] at h
   simp only[Option.some.injEq,Prod.mk.injEq] at h
   obtain ⟨rfl,rfl⟩:=h
   have:=has_lt h1 (by simp)
   simp only[List.length_cons,List.length_nil] at this
   exact ⟨by simp[jgood,hi],by omega,by omega⟩
  ·rw[if_neg h1] at h
   cases hm:memsGo l V (l.length+1) (spAt l (i+1)) [] [] with
   |none=>rw[hm] at h;cases h
   |some p=>
    obtain ⟨⟨ks,vs⟩,t⟩:=p
    rw[hm] at h
    simp only[Option.some.injEq,Prod.mk.injEq] at h
    obtain ⟨rfl,rfl⟩:=h
    obtain ⟨a,b,c,d,e,e2⟩:=memsGo_ok hV _ _ _ _ _ _ _ hm (by simp) (by simp) rfl (Nat.zero_le _) s2
    exact ⟨by rw[jgood];exact ⟨hi,c,by omega,a,b⟩,by omega,e2⟩
 |false=>
  rw[if_neg (by decide)] at h
  by_cases h1:hasAt l (spAt l (i+1)) [93]=true
  ·rw[if_pos h1] at h
   simp only[Option.some.injEq,Prod.mk.injEq] at h
   obtain ⟨rfl,rfl⟩:=h
   have:=has_lt h1 (by simp)
   simp only[List.length_cons,List.length_nil] at this
   exact ⟨by simp[jgood,hi],by omega,by omega⟩
  ·rw[if_neg h1] at h
   cases hm:itemsGo l V (l.length+1) (spAt l (i+1)) [] with
   |none=>rw[hm] at h;cases h
   |some p=>
    obtain ⟨vs,t⟩:=p
    rw[hm] at h
    simp only[Option.some.injEq,Prod.mk.injEq] at h
    obtain ⟨rfl,rfl⟩:=h
    obtain ⟨a,b,c,d⟩:=itemsGo_ok hV _ _ _ _ _ hm (by simp) (Nat.zero_le _) s2
    exact ⟨by rw[jgood];exact ⟨hi,by omega,a⟩,by omega,d⟩
theorem valG_ok {l:List UInt8} {L:Nat→Bool→Option (JO×Nat)} {i to_:Nat} {o:JO} (hL:∀b o to_,i<l.length→L i b=some (o,to_)→jgood l.length o∧i<to_∧to_≤l.length) (h:valG l L i=some (o,to_)):jgood l.length o∧i<to_∧to_≤l.length:=by
 unfold valG at h
 cases hc:l[i]? with
 |none=>rw[hc] at h;cases h
 |some c=>
  rw[hc] at h
  simp only at h
  have hi:=(List.getElem?_eq_some_iff.1 hc).1
  by_cases h1:c=110
  ·rw[if_pos h1] at h
   split at h
   ·rename_i h2
    have:=has_lt h2 (by simp)
    simp only[Option.some.injEq,Prod.mk.injEq,List.length_cons,List.length_nil] at h this
    obtain ⟨rfl,rfl⟩:=h
    exact ⟨by simpa [jgood] using hi,by omega,by omega⟩
   ·cases h
  rw[if_neg h1] at h
  by_cases h1:c=116
  ·rw[if_pos h1] at h
   split at h
   ·rename_i h2
    have:=has_lt h2 (by simp)
    simp only[Option.some.injEq,Prod.mk.injEq,List.length_cons,List.length_nil] at h this
    obtain ⟨rfl,rfl⟩:=h
    exact ⟨by simpa [jgood] using hi,by omega,by omega⟩
   ·cases h
  rw[if_neg h1] at h
  by_cases h1:c=102
  ·rw[if_pos h1] at h
   split at h
   ·rename_i h2
    have:=has_lt h2 (by simp)
    simp only[Option.some.injEq,Prod.mk.injEq,List.length_cons,List.length_nil] at h this
    obtain ⟨rfl,rfl⟩:=h
    exact ⟨by simpa [jgood] using hi,by omega,by omega⟩
   ·cases h
  rw[if_neg h1] at h
  by_cases h1:c=34
  ·rw[if_pos h1] at h
   cases hs:strP l i with
   |none=>rw[hs] at h;cases h
   |some p=>
    obtain ⟨t,to2⟩:=p
    rw[hs] at h
    simp only[Option.some.injEq,Prod.mk.injEq] at h
    obtain ⟨rfl,rfl⟩:=h
    obtain ⟨a,b,c,d⟩:=strP_ok hs
    exact ⟨by rw[jgood];exact ⟨hi,by simpa [str,ByteArray.size] using b,by simpa [str] using a⟩,c,d⟩
  rw[if_neg h1] at h
  by_cases h1:c=91
  ·rw[if_pos h1] at h;exact hL _ _ _ hi h
  rw[if_neg h1] at h
  by_cases h1:c=123
  ·rw[if_pos h1] at h;exact hL _ _ _ hi h
  rw[if_neg h1] at h
  by_cases h1:c=45∨isDg c=true
  ·rw[if_pos h1] at h
   cases hs:numV ((l.drop i).takeWhile numeric) with
   |none=>rw[hs] at h;cases h
   |some n=>
    rw[hs] at h
    simp only[Option.some.injEq,Prod.mk.injEq] at h
    obtain ⟨rfl,rfl⟩:=h
    have hn:numeric c=true:=by
     unfold numeric
     rcases h1 with rfl|h1
     ·rfl
     ·rw[h1];rfl
    have hlen:=(List.takeWhile_sublist numeric (l:=l.drop i)).length_le
    rw[List.length_drop] at hlen
    have hpos:0<((l.drop i).takeWhile numeric).length:=by
     rw[List.drop_eq_getElem_cons hi,List.takeWhile_cons]
     have:l[i]=c:=by have:=List.getElem?_eq_getElem hi;rw[hc] at this;injection this with this;exact this.symm
     rw[this,if_pos hn];simp
    unfold numAt
    exact ⟨by rw[jgood];exact ⟨hi,numV_ok hs⟩,by omega,by omega⟩
  rw[if_neg h1] at h;cases h
theorem valP_ok (l:List UInt8):∀(f i:Nat) (o:JO) (to_:Nat),valP l f i=some (o,to_)→jgood l.length o∧i<to_∧to_≤l.length:=by
 intro f
 induction f with
 |zero=>
  intro i o to_ h
  have:=valG_ok (L:=fun _ _=>none) (by intro _ _ _ _ h;cases h) h
  have s:=spAt_ge l i
  exact ⟨this.1,by omega,this.2.2⟩
 |succ f ih=>
  intro i o to_ h
  have:=valG_ok (L:=fun a o=>listP l (valP l f) a o) (fun b o to_ hi hh=>listP_ok (fun i o t h=>ih i o t h) hi hh) h
  have s:=spAt_ge l i
  exact ⟨this.1,by omega,this.2.2⟩
theorem jsonP_ok {l:List UInt8} {o:JO} (h:jsonP l=some o):jgood l.length o:=by
 unfold jsonP at h
 cases hv:valP l 100 (if hasAt l 0 [239,187,191] then 3 else 0) with
 |none=>rw[hv] at h;cases h
 |some p=>
  obtain ⟨v,t⟩:=p
  rw[hv] at h
  simp only at h
  by_cases h1:spAt l t<l.length
  ·rw[if_pos h1] at h;cases h
  ·rw[if_neg h1] at h
   injection h with h
   subst h
   exact (valP_ok l 100 _ _ _ hv).1
theorem hexGo_step {l:List UInt8} {i k n:Nat} {c:UInt8} (h:hexGo l i k=some n) (hc:l[i+k]? =some c) (hv:hexV c<16):hexGo l i (k+1)=some (n*16+hexV c):=by
 have e:hexGo l i (k+1)=match hexGo l i k,l[i+k]? with
  |some n,some c=>if hexV c<16 then some (n*16+hexV c) else none
  |_,_=>none:=rfl
 rw[e,h,hc]
 exact if_pos hv
theorem hexGo_bad {l:List UInt8} {i k:Nat} {c:UInt8} (hc:l[i+k]? =some c) (hv:¬hexV c<16):hexGo l i (k+1)=none:=by
 have e:hexGo l i (k+1)=match hexGo l i k,l[i+k]? with
  |some n,some c=>if hexV c<16 then some (n*16+hexV c) else none
  |_,_=>none:=rfl
 rw[e,hc]
 cases hexGo l i k with
 |none=>rfl
 |some n=>exact if_neg hv
theorem hexGo_none {l:List UInt8} {i k:Nat} (h:hexGo l i k=none):∀d,hexGo l i (k+d)=none
 |0=>h
 |d+1=>by
  have e:hexGo l i (k+(d+1))=match hexGo l i (k+d),l[i+(k+d)]? with
   |some n,some c=>if hexV c<16 then some (n*16+hexV c) else none
   |_,_=>none:=rfl
  rw[e,hexGo_none h d]
theorem hexGo_fail {l:List UInt8} {i k m:Nat} (h:hexGo l i (k+1)=none) (hm:k<m):hexGo l i m=none:=by
 have:=hexGo_none h (m - (k+1))
 rwa [show k+1+(m - (k+1))=m by omega] at this
theorem hexV_d {c:UInt8} (h:48≤c.toNat∧c.toNat≤57):hexV c=c.toNat - 48:=by unfold hexV;rw[if_pos h]
theorem hexV_l {c:UInt8} (h:97≤c.toNat∧c.toNat≤102):hexV c=c.toNat - 97+10:=by unfold hexV;rw[if_neg (by omega),if_pos h]
theorem hexV_u {c:UInt8} (h:65≤c.toNat∧c.toNat≤70):hexV c=c.toNat - 65+10:=by unfold hexV;rw[if_neg (by omega),if_neg (by omega),if_pos h]
theorem hexV_no {c:UInt8} (h1:¬(48≤c.toNat∧c.toNat≤57)) (h2:¬(97≤c.toNat∧c.toNat≤102)) (h3:¬(65≤c.toNat∧c.toNat≤70)):¬hexV c<16:=by unfold hexV;rw[if_neg h1,if_neg h2,if_neg h3];omega
theorem unit_short {l:List UInt8} {i:Nat} (h:¬i+6≤l.length):unitP l i=none:=by
 cases hu:unitP l i with
 |none=>rfl
 |some n=>exact absurd (unit_lt hu).2 h
def escN (c:Nat):Option Nat:=if c=34∨c=92∨c=47 then some c else if c=98 then some 8 else if c=102 then some 12 else if c=110 then some 10 else if c=114 then some 13 else if c=116 then some 9 else none
theorem u8_iff {c:UInt8} {n:Nat} (hn:n<256):c=UInt8.ofNat n↔c.toNat=n:=by
 constructor
 ·rintro rfl;exact toNat_ofNat hn
 ·intro h;rw[←h];simp
theorem seqP_at {l:List UInt8} {i:Nat} {c:UInt8} (hc:l[i+1]? =some c):seqP l i=match escN c.toNat with
 |some r=>some (r,2)
 |none=>match unitP l i with
  |none=>none
  |some n=>if 55296≤n∧n≤56319 then (match unitP l (i+6) with
   |some m=>if 56320≤m∧m≤57343 then some (65536+(n - 55296)*1024+m - 56320,12) else none
   |none=>none)
   else if 56320≤n∧n≤57343 then none else some (n,6):=by
 have e:∀n:Nat,n<256→(c=UInt8.ofNat n↔c.toNat=n):=fun n hn=>u8_iff hn
 have h34:=e 34 (by decide)
 have h92:=e 92 (by decide)
 have h47:=e 47 (by decide)
 have h98:=e 98 (by decide)
 have h102:=e 102 (by decide)
 have h110:=e 110 (by decide)
 have h114:=e 114 (by decide)
 have h116:=e 116 (by decide)
 have g34:(UInt8.ofNat 34)=34:=rfl
 have g92:(UInt8.ofNat 92)=92:=rfl
 have g47:(UInt8.ofNat 47)=47:=rfl
 have g98:(UInt8.ofNat 98)=98:=rfl
 have g102:(UInt8.ofNat 102)=102:=rfl
 have g110:(UInt8.ofNat 110)=110:=rfl
 have g114:(UInt8.ofNat 114)=114:=rfl
 have g116:(UInt8.ofNat 116)=116:=rfl
 rw[g34] at h34
 rw[g92] at h92
 rw[g47] at h47
 rw[g98] at h98
 rw[g102] at h102
 rw[g110] at h110
 rw[g114] at h114
 rw[g116] at h116
 unfold seqP escN
 rw[hc]
 simp only[h34,h92,h47,h98,h102,h110,h114,h116]
 by_cases k1:c.toNat=34∨c.toNat=92∨c.toNat=47
 ·rw[if_pos k1,if_pos k1]
 ·rw[if_neg k1,if_neg k1]
  by_cases k2:c.toNat=98
  ·rw[if_pos k2,if_pos k2]
  ·rw[if_neg k2,if_neg k2]
   by_cases k3:c.toNat=102
   ·rw[if_pos k3,if_pos k3]
   ·rw[if_neg k3,if_neg k3]
    by_cases k4:c.toNat=110
    ·rw[if_pos k4,if_pos k4]
    ·rw[if_neg k4,if_neg k4]
     by_cases k5:c.toNat=114
     ·rw[if_pos k5,if_pos k5]
     ·rw[if_neg k5,if_neg k5]
      by_cases k6:c.toNat=116
      ·rw[if_pos k6,if_pos k6]
      ·rw[if_neg k6,if_neg k6]
       rfl
theorem seqP_end {l:List UInt8} {i:Nat} (h:l.length≤i+1):seqP l i=none:=by
 unfold seqP
 rw[List.getElem?_eq_none h]
inductive StrS where
 |bad
 |done (out:List UInt8) (to_:Nat)
 |next (i:Nat) (out:List UInt8)
def strS (l:List UInt8) (i:Nat) (out:List UInt8):StrS:=
 if (dec (l.drop i)).2=0 then .bad
 else if (dec (l.drop i)).1<32 then .bad
 else if (dec (l.drop i)).1=34 then .done out (i+1)
 else if (dec (l.drop i)).1=92 then (match seqP l i with
  |some (r,n)=> .next (i+n) (out++encN r)
  |none=> .bad)
 else .next (i+(dec (l.drop i)).2) (out++encN (dec (l.drop i)).1)
theorem strGo_bad {l:List UInt8} {k i:Nat} {out:List UInt8} (h:strS l i out= .bad):strGo l k i out=none:=by
 cases k with
 |zero=>rfl
 |succ k=>
  unfold strS at h
  unfold strGo
  split at h
  ·rename_i h1;rw[if_pos h1]
  ·rename_i h1
   rw[if_neg h1]
   split at h
   ·rename_i h2;rw[if_pos h2]
   ·rename_i h2
    rw[if_neg h2]
    split at h
    ·cases h
    ·rename_i h3
     rw[if_neg h3]
     split at h
     ·rename_i h4
      rw[if_pos h4]
      cases hs:seqP l i with
      |none=>rfl
      |some p=>rw[hs] at h;cases h
     ·cases h
theorem strGo_done {l:List UInt8} {k i to_:Nat} {out u:List UInt8} (h:strS l i out= .done u to_):strGo l (k+1) i out=some (u,to_):=by
 unfold strS at h
 unfold strGo
 split at h
 ·cases h
 ·rename_i h1
  rw[if_neg h1]
  split at h
  ·cases h
  ·rename_i h2
   rw[if_neg h2]
   split at h
   ·rename_i h3;rw[if_pos h3];injection h with a b;rw[a,b]
   ·split at h
    ·split at h<;>cases h
    ·cases h
theorem strGo_next {l:List UInt8} {k i j:Nat} {out u:List UInt8} (h:strS l i out= .next j u):strGo l (k+1) i out=strGo l k j u:=by
 unfold strS at h
 have e:strGo l (k+1) i out=if (dec (l.drop i)).2=0 then none
  else if (dec (l.drop i)).1<32 then none
  else if (dec (l.drop i)).1=34 then some (out,i+1)
  else if (dec (l.drop i)).1=92 then (match seqP l i with
   |some (r,n)=>strGo l k (i+n) (out++encN r)
   |none=>none)
  else strGo l k (i+(dec (l.drop i)).2) (out++encN (dec (l.drop i)).1):=rfl
 rw[e]
 split at h
 ·cases h
 ·rename_i h1
  rw[if_neg h1]
  split at h
  ·cases h
  ·rename_i h2
   rw[if_neg h2]
   split at h
   ·cases h
   ·rename_i h3
    rw[if_neg h3]
    split at h
    ·rename_i h4
     rw[if_pos h4]
     cases hs:seqP l i with
     |none=>rw[hs] at h;cases h
     |some p=>
      obtain ⟨r,n⟩:=p
      rw[hs] at h
      injection h with a b
      subst a b
      rfl
    ·rename_i h4
     injection h with a b
     rw[if_neg h4,a,b]
theorem strGo_end {l:List UInt8} {k i:Nat} {out:List UInt8} (h:l.length≤i):strGo l k i out=none:=by
 refine strGo_bad ?_
 unfold strS
 rw[List.drop_of_length_le h]
 rfl
theorem textIsSpace_any (c:Int) (w:World):Calls Tryz.prog 67 #[.int .u8 c] w fun e w'=>e= .returned (.bool (isSp c))∧w=w':=by
 unfold isSp
 go_enter Tryz.func67,Tryz.ntmps67
 go_wp2
 all_goals (go_ret;refine ⟨?_,rfl⟩)
 all_goals (refine congrArg (fun b=>Ending.returned (.bool b)) (Bool.eq_iff_iff.2 ?_);simp at* <;>omega)
theorem refIsSpace_any (c:Int) (w:World):Calls Tryz.prog 113 #[.int .u8 c] w fun e w'=>e= .returned (.bool (isSp c))∧w=w':=by
 unfold isSp
 go_enter Tryz.func113,Tryz.ntmps113
 go_wp2
 all_goals (go_ret;refine ⟨?_,rfl⟩)
 all_goals (refine congrArg (fun b=>Ending.returned (.bool b)) (Bool.eq_iff_iff.2 ?_);simp at* <;>omega)
theorem textIsChar_any (r:Int) (w:World):Calls Tryz.prog 115 #[.int .i32 r] w fun e w'=>e= .returned (.bool (isChar r))∧w=w':=by
 unfold isChar
 go_enter Tryz.func115,Tryz.ntmps115
 go_wp2
 all_goals (go_ret;refine ⟨?_,rfl⟩)
 all_goals (refine congrArg (fun b=>Ending.returned (.bool b)) (Bool.eq_iff_iff.2 ?_);simp at* <;>omega)
theorem refIsChar_any (r:Int) (w:World):Calls Tryz.prog 128 #[.int .i64 r] w fun e w'=>e= .returned (.bool (isChar r))∧w=w':=by
 unfold isChar
 go_enter Tryz.func128,Tryz.ntmps128
 go_wp2
 all_goals (go_ret;refine ⟨?_,rfl⟩)
 all_goals (refine congrArg (fun b=>Ending.returned (.bool b)) (Bool.eq_iff_iff.2 ?_);simp at* <;>omega)
def Tryz.lays103_ren:Go.Shelf.Ren:=⟨fun|103=>45|210=>86|206=>134|n=>n,fun|9=>9|4=>4|24=>38|3=>3|n=>n,fun|n=>n⟩
theorem Tryz.lays103:Go.Proofs.Lays.n103 Tryz.prog Tryz.lays103_ren:={
 mixed:=by kernel_rfl
 f103:=Tryz.func45.trans (congrArg some (by kernel_rfl))
 f206:=Tryz.func134.trans (congrArg some (by kernel_rfl))
 f210:=Tryz.func86.trans (congrArg some (by kernel_rfl))
 t3:=Tryz.underlying3
 a3:=Tryz.isAgg3
 z3:=Tryz.sizeOf3
 v3:=Tryz.zeroValue3
 t4:=Tryz.underlying4
 a4:=Tryz.isAgg4
 z4:=Tryz.sizeOf4
 v4:=Tryz.zeroValue4
 t9:=Tryz.underlying9
 a9:=Tryz.isAgg9
 z9:=Tryz.sizeOf9
 v9:=Tryz.zeroValue9
 t24:=Tryz.underlying38
 a24:=Tryz.isAgg38
 z24:=Tryz.sizeOf38
 v24:=Tryz.zeroValue38}
open Go.RowKit in
theorem Tryz.strings_CutPrefix (s p:ByteArray) (w:World):
 Calls Tryz.prog 45 #[.string s,.string p] w fun e w'=>e= .returned (.tuple #[.string ⟨(Lib.trimPrefix s.data.toList p.data.toList).toArray⟩,.bool (Lib.hasPrefix s.data.toList p.data.toList)])∧w'=w:=Any.strings_CutPrefix Tryz.lays103 s p w
def Tryz.lays104_ren:Go.Shelf.Ren:=⟨fun|104=>98|211=>141|207=>176|n=>n,fun|9=>9|4=>4|24=>38|3=>3|n=>n,fun|n=>n⟩
theorem Tryz.lays104:Go.Proofs.Lays.n104 Tryz.prog Tryz.lays104_ren:={
 mixed:=by kernel_rfl
 f104:=Tryz.func98.trans (congrArg some (by kernel_rfl))
 f207:=Tryz.func176.trans (congrArg some (by kernel_rfl))
 f211:=Tryz.func141.trans (congrArg some (by kernel_rfl))
 t3:=Tryz.underlying3
 a3:=Tryz.isAgg3
 z3:=Tryz.sizeOf3
 v3:=Tryz.zeroValue3
 t4:=Tryz.underlying4
 a4:=Tryz.isAgg4
 z4:=Tryz.sizeOf4
 v4:=Tryz.zeroValue4
 t9:=Tryz.underlying9
 a9:=Tryz.isAgg9
 z9:=Tryz.sizeOf9
 v9:=Tryz.zeroValue9
 t24:=Tryz.underlying38
 a24:=Tryz.isAgg38
 z24:=Tryz.sizeOf38
 v24:=Tryz.zeroValue38}
open Go.RowKit in
theorem Tryz.strings_CutSuffix (s p:ByteArray) (w:World) (hs:s.size≤9223372036854775807):
 Calls Tryz.prog 98 #[.string s,.string p] w fun e w'=>e= .returned (.tuple #[.string ⟨(Lib.trimSuffix s.data.toList p.data.toList).toArray⟩,.bool (Lib.hasSuffix s.data.toList p.data.toList)])∧w'=w:=Any.strings_CutSuffix Tryz.lays104 s p w hs
def Tryz.laysM171_ren:Go.Shelf.Ren:=⟨fun|171=>140|243=>175|246=>121|283=>161|284=>162|285=>163|286=>164|129=>186|317=>185|318=>187|319=>188|320=>189|337=>206|338=>207|n=>n,fun|3=>3|9=>9|2=>2|4=>4|171=>214|0=>0|53=>209|37=>115|5=>5|173=>217|212=>231|51=>232|20=>20|213=>233|46=>225|232=>260|233=>261|n=>n,fun|17=>0|18=>4|19=>5|n=>n⟩
theorem Tryz.laysM171:Go.Proofs.LaysM.n171 Tryz.prog Tryz.laysM171_ren:={
 mixed:=by kernel_rfl
 f129:=Tryz.func186.trans (congrArg some (by kernel_rfl))
 f171:=Tryz.func140.trans (congrArg some (by kernel_rfl))
 f243:=Tryz.func175.trans (congrArg some (by kernel_rfl))
 f246:=Tryz.func121.trans (congrArg some (by kernel_rfl))
 f283:=Tryz.func161.trans (congrArg some (by kernel_rfl))
 f284:=Tryz.func162.trans (congrArg some (by kernel_rfl))
 f285:=Tryz.func163.trans (congrArg some (by kernel_rfl))
 f286:=Tryz.func164.trans (congrArg some (by kernel_rfl))
 f317:=Tryz.func185.trans (congrArg some (by kernel_rfl))
 f318:=Tryz.func187.trans (congrArg some (by kernel_rfl))
 f319:=Tryz.func188.trans (congrArg some (by kernel_rfl))
 f320:=Tryz.func189.trans (congrArg some (by kernel_rfl))
 f337:=Tryz.func206.trans (congrArg some (by kernel_rfl))
 f338:=Tryz.func207.trans (congrArg some (by kernel_rfl))
 t0:=Tryz.underlying0
 a0:=Tryz.isAgg0
 z0:=Tryz.sizeOf0
 v0:=Tryz.zeroValue0
 t2:=Tryz.underlying2
 a2:=Tryz.isAgg2
 z2:=Tryz.sizeOf2
 v2:=Tryz.zeroValue2
 t3:=Tryz.underlying3
 a3:=Tryz.isAgg3
 z3:=Tryz.sizeOf3
 v3:=Tryz.zeroValue3
 t4:=Tryz.underlying4
 a4:=Tryz.isAgg4
 z4:=Tryz.sizeOf4
 v4:=Tryz.zeroValue4
 t5:=Tryz.underlying5
 a5:=Tryz.isAgg5
 z5:=Tryz.sizeOf5
 v5:=Tryz.zeroValue5
 t9:=Tryz.underlying9
 a9:=Tryz.isAgg9
 z9:=Tryz.sizeOf9
 v9:=Tryz.zeroValue9
 t20:=Tryz.underlying20
 a20:=Tryz.isAgg20
 z20:=Tryz.sizeOf20
 v20:=Tryz.zeroValue20
 t37:=Tryz.underlying115
 a37:=Tryz.isAgg115
 z37:=Tryz.sizeOf115
 v37:=Tryz.zeroValue115
 t46:=Tryz.underlying225
 a46:=Tryz.isAgg225
 z46:=Tryz.sizeOf225
 v46:=Tryz.zeroValue225
 t51:=Tryz.underlying232
 a51:=Tryz.isAgg232
 z51:=Tryz.sizeOf232
 v51:=Tryz.zeroValue232
 t53:=Tryz.underlying209
 a53:=Tryz.isAgg209
 z53:=Tryz.sizeOf209
 v53:=Tryz.zeroValue209
 t171:=Tryz.underlying214
 a171:=Tryz.isAgg214
 z171:=Tryz.sizeOf214
 v171:=Tryz.zeroValue214
 t173:=Tryz.underlying217
 a173:=Tryz.isAgg217
 z173:=Tryz.sizeOf217
 v173:=Tryz.zeroValue217
 t212:=Tryz.underlying231
 a212:=Tryz.isAgg231
 z212:=Tryz.sizeOf231
 v212:=Tryz.zeroValue231
 t213:=Tryz.underlying233
 a213:=Tryz.isAgg233
 z213:=Tryz.sizeOf233
 t232:=Tryz.underlying260
 a232:=Tryz.isAgg260
 z232:=Tryz.sizeOf260
 v232:=Tryz.zeroValue260
 t233:=Tryz.underlying261
 a233:=Tryz.isAgg261
 z233:=Tryz.sizeOf261
 v233:=Tryz.zeroValue261
 g17:=by kernel_rfl
 g18:=by kernel_rfl
 g19:=by kernel_rfl
 i0:=by kernel_rfl
 i2:=by kernel_rfl
 i3:=by kernel_rfl
 i4:=by kernel_rfl
 i5:=by kernel_rfl
 i9:=by kernel_rfl
 i20:=by kernel_rfl
 i37:=by kernel_rfl
 i46:=by kernel_rfl
 i51:=by kernel_rfl
 i53:=by kernel_rfl
 i171:=by kernel_rfl
 i173:=by kernel_rfl
 i212:=by kernel_rfl
 i232:=by kernel_rfl
 i233:=by kernel_rfl
 m17:=by kernel_rfl
 m18:=by kernel_rfl
 m19:=by kernel_rfl}
open Go.RowKit Go.Sort Go.Lib in
theorem Tryz.strconv_Itoa (n : Int) (h0 : -9223372036854775808 ≤ n) (h1 : n ≤ 9223372036854775807) (w : World) (htab : Lib.TabIs Tryz.prog w "internal/strconv.uint64pow10" .u64 Lib.pow10Tab) :
 Calls Tryz.prog 140 #[.int .i64 n] w fun e w'=>e= .returned (.string ⟨(Lib.itoa n).toArray⟩)∧∃k os,w'=grow (w.drewN k) os:=Any.strconv_Itoa Tryz.laysM171 n h0 h1 w htab
def Tryz.laysM173_ren:Go.Shelf.Ren:=⟨fun|173=>72|246=>121|283=>161|284=>162|285=>163|286=>164|129=>186|317=>185|318=>187|319=>188|320=>189|337=>206|338=>207|n=>n,fun|2=>2|3=>3|9=>9|4=>4|171=>214|0=>0|53=>209|37=>115|5=>5|173=>217|212=>231|51=>232|20=>20|213=>233|46=>225|232=>260|233=>261|n=>n,fun|17=>0|18=>4|19=>5|n=>n⟩
theorem Tryz.laysM173:Go.Proofs.LaysM.n173 Tryz.prog Tryz.laysM173_ren:={
 mixed:=by kernel_rfl
 f129:=Tryz.func186.trans (congrArg some (by kernel_rfl))
 f173:=Tryz.func72.trans (congrArg some (by kernel_rfl))
 f246:=Tryz.func121.trans (congrArg some (by kernel_rfl))
 f283:=Tryz.func161.trans (congrArg some (by kernel_rfl))
 f284:=Tryz.func162.trans (congrArg some (by kernel_rfl))
 f285:=Tryz.func163.trans (congrArg some (by kernel_rfl))
 f286:=Tryz.func164.trans (congrArg some (by kernel_rfl))
 f317:=Tryz.func185.trans (congrArg some (by kernel_rfl))
 f318:=Tryz.func187.trans (congrArg some (by kernel_rfl))
 f319:=Tryz.func188.trans (congrArg some (by kernel_rfl))
 f320:=Tryz.func189.trans (congrArg some (by kernel_rfl))
 f337:=Tryz.func206.trans (congrArg some (by kernel_rfl))
 f338:=Tryz.func207.trans (congrArg some (by kernel_rfl))
 t0:=Tryz.underlying0
 a0:=Tryz.isAgg0
 z0:=Tryz.sizeOf0
 v0:=Tryz.zeroValue0
 t2:=Tryz.underlying2
 a2:=Tryz.isAgg2
 z2:=Tryz.sizeOf2
 v2:=Tryz.zeroValue2
 t3:=Tryz.underlying3
 a3:=Tryz.isAgg3
 z3:=Tryz.sizeOf3
 v3:=Tryz.zeroValue3
 t4:=Tryz.underlying4
 a4:=Tryz.isAgg4
 z4:=Tryz.sizeOf4
 v4:=Tryz.zeroValue4
 t5:=Tryz.underlying5
 a5:=Tryz.isAgg5
 z5:=Tryz.sizeOf5
 v5:=Tryz.zeroValue5
 t9:=Tryz.underlying9
 a9:=Tryz.isAgg9
 z9:=Tryz.sizeOf9
 v9:=Tryz.zeroValue9
 t20:=Tryz.underlying20
 a20:=Tryz.isAgg20
 z20:=Tryz.sizeOf20
 v20:=Tryz.zeroValue20
 t37:=Tryz.underlying115
 a37:=Tryz.isAgg115
 z37:=Tryz.sizeOf115
 v37:=Tryz.zeroValue115
 t46:=Tryz.underlying225
 a46:=Tryz.isAgg225
 z46:=Tryz.sizeOf225
 v46:=Tryz.zeroValue225
 t51:=Tryz.underlying232
 a51:=Tryz.isAgg232
 z51:=Tryz.sizeOf232
 v51:=Tryz.zeroValue232
 t53:=Tryz.underlying209
 a53:=Tryz.isAgg209
 z53:=Tryz.sizeOf209
 v53:=Tryz.zeroValue209
 t171:=Tryz.underlying214
 a171:=Tryz.isAgg214
 z171:=Tryz.sizeOf214
 v171:=Tryz.zeroValue214
 t173:=Tryz.underlying217
 a173:=Tryz.isAgg217
 z173:=Tryz.sizeOf217
 v173:=Tryz.zeroValue217
 t212:=Tryz.underlying231
 a212:=Tryz.isAgg231
 z212:=Tryz.sizeOf231
 v212:=Tryz.zeroValue231
 t213:=Tryz.underlying233
 a213:=Tryz.isAgg233
 z213:=Tryz.sizeOf233
 t232:=Tryz.underlying260
 a232:=Tryz.isAgg260
 z232:=Tryz.sizeOf260
 v232:=Tryz.zeroValue260
 t233:=Tryz.underlying261
 a233:=Tryz.isAgg261
 z233:=Tryz.sizeOf261
 v233:=Tryz.zeroValue261
 g17:=by kernel_rfl
 g18:=by kernel_rfl
 g19:=by kernel_rfl
 i0:=by kernel_rfl
 i2:=by kernel_rfl
 i3:=by kernel_rfl
 i4:=by kernel_rfl
 i5:=by kernel_rfl
 i9:=by kernel_rfl
 i20:=by kernel_rfl
 i37:=by kernel_rfl
 i46:=by kernel_rfl
 i51:=by kernel_rfl
 i53:=by kernel_rfl
 i171:=by kernel_rfl
 i173:=by kernel_rfl
 i212:=by kernel_rfl
 i232:=by kernel_rfl
 i233:=by kernel_rfl
 m17:=by kernel_rfl
 m18:=by kernel_rfl
 m19:=by kernel_rfl}
open Go.RowKit Go.Sort Go.Lib in
theorem Tryz.strconv_FormatInt_10 (n : Int) (h0 : -9223372036854775808 ≤ n) (h1 : n ≤ 9223372036854775807) (w : World) (htab : Lib.TabIs Tryz.prog w "internal/strconv.uint64pow10" .u64 Lib.pow10Tab) :
 Calls Tryz.prog 72 #[.int .i64 n,.int .i64 10] w fun e w'=>e= .returned (.string ⟨(Lib.itoa n).toArray⟩)∧∃k os,w'=grow (w.drewN k) os:=Any.strconv_FormatInt_10 Tryz.laysM173 n h0 h1 w htab
def Tryz.lays197_ren:Go.Shelf.Ren:=⟨fun|197=>157|260=>184|n=>n,fun|9=>9|21=>21|3=>3|4=>4|5=>5|105=>171|119=>247|0=>0|46=>225|139=>250|138=>249|n=>n,fun|3=>1|4=>2|n=>n⟩
theorem Tryz.lays197:Go.Proofs.Lays.n197 Tryz.prog Tryz.lays197_ren:={
 mixed:=by kernel_rfl
 f197:=Tryz.func157.trans (congrArg some (by kernel_rfl))
 f260:=Tryz.func184.trans (congrArg some (by kernel_rfl))
 t0:=Tryz.underlying0
 a0:=Tryz.isAgg0
 z0:=Tryz.sizeOf0
 v0:=Tryz.zeroValue0
 t3:=Tryz.underlying3
 a3:=Tryz.isAgg3
 z3:=Tryz.sizeOf3
 v3:=Tryz.zeroValue3
 t4:=Tryz.underlying4
 a4:=Tryz.isAgg4
 z4:=Tryz.sizeOf4
 v4:=Tryz.zeroValue4
 t5:=Tryz.underlying5
 a5:=Tryz.isAgg5
 z5:=Tryz.sizeOf5
 v5:=Tryz.zeroValue5
 t9:=Tryz.underlying9
 a9:=Tryz.isAgg9
 z9:=Tryz.sizeOf9
 v9:=Tryz.zeroValue9
 t21:=Tryz.underlying21
 a21:=Tryz.isAgg21
 z21:=Tryz.sizeOf21
 v21:=Tryz.zeroValue21
 t46:=Tryz.underlying225
 a46:=Tryz.isAgg225
 z46:=Tryz.sizeOf225
 v46:=Tryz.zeroValue225
 t105:=Tryz.underlying171
 a105:=Tryz.isAgg171
 z105:=Tryz.sizeOf171
 v105:=Tryz.zeroValue171
 t119:=Tryz.underlying247
 a119:=Tryz.isAgg247
 z119:=Tryz.sizeOf247
 t138:=Tryz.underlying249
 a138:=Tryz.isAgg249
 z138:=Tryz.sizeOf249
 v138:=Tryz.zeroValue249
 t139:=Tryz.underlying250
 a139:=Tryz.isAgg250
 z139:=Tryz.sizeOf250
 v139:=Tryz.zeroValue250
 g3:=by kernel_rfl
 g4:=by kernel_rfl}
open Go.RowKit Go.Lib in
theorem Tryz.utf8_DecodeRuneInString (s:ByteArray) (w:World) (hT:Lib.Utf8Tabs 1 2 w):
 Calls Tryz.prog 157 #[.string s] w fun e w'=>e= .returned (.tuple #[.int .i32 (Lib.decodeGo s).1,.int .i64 (Lib.decodeGo s).2])∧Below w.heap.size w w':=Any.utf8_DecodeRuneInString Tryz.lays197 s w hT
def Tryz.lays110_ren:Go.Shelf.Ren:=⟨fun|110=>75|109=>122|n=>n,fun|31=>29|9=>9|4=>4|3=>3|0=>0|n=>n,fun|n=>n⟩
theorem Tryz.lays110:Go.Proofs.Lays.n110 Tryz.prog Tryz.lays110_ren:={
 mixed:=by kernel_rfl
 f109:=Tryz.func122.trans (congrArg some (by kernel_rfl))
 f110:=Tryz.func75.trans (congrArg some (by kernel_rfl))
 t0:=Tryz.underlying0
 a0:=Tryz.isAgg0
 z0:=Tryz.sizeOf0
 v0:=Tryz.zeroValue0
 t3:=Tryz.underlying3
 a3:=Tryz.isAgg3
 z3:=Tryz.sizeOf3
 v3:=Tryz.zeroValue3
 t4:=Tryz.underlying4
 a4:=Tryz.isAgg4
 z4:=Tryz.sizeOf4
 v4:=Tryz.zeroValue4
 t9:=Tryz.underlying9
 a9:=Tryz.isAgg9
 z9:=Tryz.sizeOf9
 v9:=Tryz.zeroValue9
 t31:=Tryz.underlying29
 a31:=Tryz.isAgg29
 z31:=Tryz.sizeOf29
 v31:=Tryz.zeroValue29}
open Go.Lib in
theorem Tryz.slices_Contains_string (b off n c:Nat) (zs:List ByteArray) (x:ByteArray) (w:World) (hz:n≤zs.length) (hbig:n≤9223372036854775807) (hc:∀j,j<zs.length→w.cell? ⟨b,off+j,none⟩=some (.string (zs.getD j ByteArray.empty))):
 Calls Tryz.prog 75 #[.slice (some ⟨b,off,none⟩) n c,.string x] w fun e w'=>e= .returned (.bool (Lib.containsS (zs.take n) x))∧w'=w:=Any.slices_Contains_string Tryz.lays110 b off n c zs x w hz hbig hc
open Go.Lib in
theorem Tryz.slices_Contains_string_empty (a:Option Addr) (c:Nat) (x:ByteArray) (w:World):
 Calls Tryz.prog 75 #[.slice a 0 c,.string x] w fun e w'=>e= .returned (.bool false)∧w'=w:=Any.slices_Contains_string_empty Tryz.lays110 a c x w
section
section
variable {P:Program} (w:World)
theorem run_append_nil (base:Nat) (t ty e:TypeId) (i:TypeInfo) (size:Nat) (ht:P.underlying t=some (.slice e)) (hi:P.info? e=some i)
 (v:Value) (n:Nat) (xs:List Value) (hown:w.ownsRow base e size v n xs) (c:Nat):(Builtin.append_ #[t,t] ty #[v,.slice none 0 c]).run P w= .ok v w:=by
 rcases hown.2 with ⟨rfl,rfl⟩|⟨g,cap,cur,rfl,_,_,hnc,_⟩
 ·simp[Builtin.append_,run_underlying ht,sizeOf,typeInfo,hi,Builtin.lenOf,Builtin.firstCells]
 ·simp[Builtin.append_,run_underlying ht,sizeOf,typeInfo,hi,Builtin.lenOf,Builtin.firstCells,hnc,storeCells]
theorem run_append_rsl (base:Nat) (t ty e:TypeId) (i:TypeInfo) (z:Value) (size bytes:Nat) (ht:P.underlying t=some (.slice e)) (hi:P.info? e=some i) (hz:i.zero=some z)
 (hsize:i.size=size) (hby:i.bytes=bytes) (hzs:z.cells.size=size) (hsz:0<size)
 (v:Value) (n:Nat) (xs:List Value) (hown:w.ownsRow base e size v n xs)
 (u:Value) (m:Nat) (news:List Value) (hr:RSl w size u m news) (h1:∀y∈news,y.oneCell'=true)
 (h63:n+m≤maxLen) (hbytes:(n+m)*bytes≤140737488355328) (hbase:base≤w.heap.size):
 ∃v' w',(Builtin.append_ #[t,t] ty #[v,u]).run P w= .ok v' w'∧w'.ownsRow base e size v' (n+m) (xs++news)∧w.grownBy w' v.ownBlock∧
  (v'.ownBlock=v.ownBlock∨v'.ownBlock=some w.heap.size):=by
 obtain ⟨hlen,A,c,rfl,hmc,hcm,hA,hcell⟩:=hr
 rcases Nat.eq_zero_or_pos m with h0|h0
 ·subst h0
  have hn:news= []:=List.eq_nil_of_length_eq_zero (by simpa using hlen)
  subst hn
  cases A with
  |none=>exact ⟨v,w,run_append_nil w base t ty e i size ht hi v n xs hown c,by simpa using hown,World.grownBy.refl w _,.inl rfl⟩
  |some ad=>
   obtain ⟨v',w',hrun,h2,h3,_,h5⟩:=run_append_own_at (P:=P) w base t ty e i z size bytes ht hi hz hsize hby hzs hsz v n xs hown ad 0 c [] (by simp) (fun j u hu=>by simp at hu) h1 h63 hbytes hbase
   exact ⟨v',w',hrun,h2,h3,h5⟩
 ·have hl:0<news.length:=by rw[hlen];exact Nat.mul_pos h0 hsz
  obtain ⟨ad,rfl,_⟩:=hcell 0 (news[0]) (List.getElem?_eq_getElem hl)
  have hcells:∀j u,news[j]? =some u→w.cell? (ad.add j)=some u:=by
   intro j u hu
   obtain ⟨ad',h,hc⟩:=hcell j u hu
   injection h with h
   subst h
   exact hc
  obtain ⟨v',w',hrun,h2,h3,_,h5⟩:=run_append_own_at (P:=P) w base t ty e i z size bytes ht hi hz hsize hby hzs hsz v n xs hown ad m c news hlen hcells h1 h63 hbytes hbase
  exact ⟨v',w',hrun,h2,h3,h5⟩
theorem wp_append_rsl {o:Oper} {a:Act} {K:Act→World→Prop} {Q:Exit→Act→World→Prop} (s x:Operand) (t:TypeId)
 (ho:o.op= .call {callee:= .builtin .append,args:=#[s,x],argTypes:=#[t,t]})
 (base:Nat) (e:TypeId) (i:TypeInfo) (z:Value) (size bytes:Nat) (ht:P.underlying t=some (.slice e)) (hi:P.info? e=some i) (hz:i.zero=some z)
 (hsize:i.size=size) (hby:i.bytes=bytes) (hzs:z.cells.size=size) (hsz:0<size)
 (v:Value) (n:Nat) (xs:List Value) (hs:a.eval s=v) (hown:w.ownsRow base e size v n xs)
 (u:Value) (m:Nat) (news:List Value) (hx:a.eval x=u) (hr:RSl w size u m news) (h1:∀y∈news,y.oneCell'=true)
 (h63:n+m≤maxLen) (hbytes:(n+m)*bytes≤140737488355328) (hbase:base≤w.heap.size)
 (h:∀v' w',w'.ownsRow base e size v' (n+m) (xs++news)→w.grownBy w' v.ownBlock→(v'.ownBlock=v.ownBlock∨v'.ownBlock=some w.heap.size)→K (a.put o.dst v') w'):o.wp P a w K Q:=by
 obtain ⟨v',w',hrun,h2,h3,h4⟩:=run_append_rsl (P:=P) w base t o.type e i z size bytes ht hi hz hsize hby hzs hsz v n xs hown u m news hr h1 h63 hbytes hbase
 unfold Oper.wp execOp
 simp only[ho,resolve,invoke,builtin,Sem.run_bind,Sem.run_pure,Result.andThen_ok,List.map_toArray,List.map_cons,List.map_nil,hs,hx,hrun]
 exact h v' w' h2 h3 h4
theorem wpList_append_rsl {ops:Array Oper} {rest:List Oper} {o:Oper} {a:Act} {Q:Exit→Act→World→Prop} (hgd:o.guard=none) (s x:Operand) (t:TypeId)
 (ho:o.op= .call {callee:= .builtin .append,args:=#[s,x],argTypes:=#[t,t]})
 (base:Nat) (e:TypeId) (i:TypeInfo) (z:Value) (size bytes:Nat) (ht:P.underlying t=some (.slice e)) (hi:P.info? e=some i) (hz:i.zero=some z)
 (hsize:i.size=size) (hby:i.bytes=bytes) (hzs:z.cells.size=size) (hsz:0<size)
 (v:Value) (n:Nat) (xs:List Value) (hs:a.eval s=v) (hown:w.ownsRow base e size v n xs)
 (u:Value) (m:Nat) (news:List Value) (hx:a.eval x=u) (hr:RSl w size u m news) (h1:∀y∈news,y.oneCell'=true)
 (h63:n+m≤maxLen) (hbytes:(n+m)*bytes≤140737488355328) (hbase:base≤w.heap.size)
 (h:∀v' w',w'.ownsRow base e size v' (n+m) (xs++news)→w.grownBy w' v.ownBlock→(v'.ownBlock=v.ownBlock∨v'.ownBlock=some w.heap.size)→wpList P ops Q rest (a.put o.dst v') w'):wpList P ops Q (o::rest) a w:=
 wpList_plain hgd fun _ hK=>wp_append_rsl w s x t ho base e i z size bytes ht hi hz hsize hby hzs hsz v n xs hs hown u m news hx hr h1 h63 hbytes hbase fun v' w' h2 h3 h4=>hK _ _ (h v' w' h2 h3 h4)
theorem step_append_rsl {ops:Array Oper} {o:Oper} {a:Act} {K:Act→World→Prop} {Q:Exit→Act→World→Prop} {E:Prop} (hgd:o.guard=none) (s x:Operand) (t:TypeId)
 (ho:o.op= .call {callee:= .builtin .append,args:=#[s,x],argTypes:=#[t,t]})
 (base:Nat) (e:TypeId) (i:TypeInfo) (z:Value) (size bytes:Nat) (ht:P.underlying t=some (.slice e)) (hi:P.info? e=some i) (hz:i.zero=some z)
 (hsize:i.size=size) (hby:i.bytes=bytes) (hzs:z.cells.size=size) (hsz:0<size)
 (v:Value) (n:Nat) (xs:List Value) (hs:a.eval s=v) (hown:w.ownsRow base e size v n xs)
 (u:Value) (m:Nat) (news:List Value) (hx:a.eval x=u) (hr:RSl w size u m news) (h1:∀y∈news,y.oneCell'=true)
 (h63:n+m≤maxLen) (hbytes:(n+m)*bytes≤140737488355328) (hbase:base≤w.heap.size)
 (h:∀v' w',w'.ownsRow base e size v' (n+m) (xs++news)→w.grownBy w' v.ownBlock→(v'.ownBlock=v.ownBlock∨v'.ownBlock=some w.heap.size)→K (a.put o.dst v') w'):
 if Region.wanted o (yielded ops a.tmps)=true then Oper.wp P o a w K Q else E:=by
 have hw:Region.wanted o (yielded ops a.tmps)=true:=by simp[Region.wanted,hgd]
 rw[if_pos hw]
 exact wp_append_rsl w s x t ho base e i z size bytes ht hi hz hsize hby hzs hsz v n xs hs hown u m news hx hr h1 h63 hbytes hbase h
end
theorem Ext.app {a b c:World} {base n size:Nat} {e:TypeId} {v:Value} {xs:List Value} (h:Ext a b) (hg:b.grownBy c v.ownBlock) (ho:b.ownsRow base e size v n xs) (hb:a.heap.size≤base):Ext a c:=
 Below.grown h hg h.size fun k hk=>Nat.le_trans hb (ho.lt k hk).1
theorem rsl_new {w:World} {size n:Nat} {cs:List Value} {e:TypeId} (h:cs.length=n*size) (hm:n≤maxLen):RSl (w.alloc (.cells cs.toArray e)) size (.slice (some ⟨w.heap.size,0,none⟩) n n) n cs:=by
 refine ⟨h,some ⟨w.heap.size,0,none⟩,n,rfl,Nat.le_refl _,hm,(fun h=>by cases h),fun j u hu=>⟨_,rfl,?_⟩⟩
 have hadd:(⟨w.heap.size,0,none⟩:Addr).add j=⟨w.heap.size,j,none⟩:=by unfold Addr.add;split<;>simp_all
 rw[hadd]
 rw[Lib.cell_of_heap (heap_alloc_new w _)]
 simpa using hu
theorem own_new {w:World} {base size n:Nat} {cs:List Value} {e:TypeId} (hb:base≤w.heap.size) (h:cs.length=n*size) (hm:n≤maxLen):(w.alloc (.cells cs.toArray e)).ownsRow base e size (.slice (some ⟨w.heap.size,0,none⟩) n n) n cs:=
 ⟨h,.inr ⟨w.heap.size,n,cs.toArray,rfl,hb,heap_alloc_new w _,Nat.le_refl _,hm,by simpa using h,by rw[←h];simp⟩⟩
theorem info_u8:(Tryz.prog.info? 5).map (fun i=>(i.zero,i.size,i.bytes))=some (some (.int .u8 0),1,1):=by kernel_rfl
end
theorem builder_size:(Tryz.prog.info? 117).map (fun i=>i.size)=some 2:=by kernel_rfl
theorem cells_u8:Tryz.prog.cellsOf 5=1:=by kernel_rfl
structure BT (T:TypeId):Prop where
 lies:liesAt Tryz.prog Tryz.prog.depth T (2 / Tryz.prog.cellsOf T) 0 117 1=true
 ne:T≠5
theorem bt_plain:BT 117:=⟨by kernel_rfl,by decide⟩
theorem bt_writer:BT 161:=⟨by kernel_rfl,by decide⟩
theorem Builder_copyCheck_used {T:TypeId} (hT:BT T) (b:Nat) (w:World) (h0:w.cell? ⟨b,0,none⟩=some (.pointer (some ⟨b,0,none⟩))):
 Calls Tryz.prog 116 #[.pointer (some ⟨b,0,none⟩)] w fun e w'=>e= .returned (.tuple #[])∧w'=w:=by
 obtain ⟨j,hj,_⟩:=Option.map_eq_some_iff.1 builder_size
 go_enter Tryz.func116,Tryz.ntmps116
 go_wp2
 rw[Lib.run_neq_ptr_same w _ Tryz.underlying114 hj]
 go_wp2
 go_end0
 exact ⟨rfl,rfl⟩
theorem Builder_copyCheck_fresh {T:TypeId} (hT:BT T) (b:Nat) (w:World) (h0:w.cell? ⟨b,0,none⟩=some (.pointer none)) (hsh:w.shape? b=some (T,2)) (hfz:w.frozen? ⟨b,0,none⟩=false):
 Calls Tryz.prog 116 #[.pointer (some ⟨b,0,none⟩)] w fun e w'=>e= .returned (.tuple #[])∧w'=w.setCell ⟨b,0,none⟩ (.pointer (some ⟨b,0,none⟩)):=by
 obtain ⟨j,hj,hjs⟩:=Option.map_eq_some_iff.1 builder_size
 go_enter Tryz.func116,Tryz.ntmps116
 go_wp2
 rw[Lib.run_to_unsafe w ⟨b,0,none⟩ Tryz.underlying114 Tryz.underlying211 hj (by rw[hjs];decide) hsh (Nat.zero_lt_succ 1)]
 simp only[Result.andThen]
 rw[Oper.upon_value]
 go_wp2
 rw[run_callFunc_extern Tryz.func159 (by kernel_rfl) (by kernel_rfl) (by kernel_rfl) (e:=Extern.AbiNoEscape.same) (by kernel_rfl)]
 rw[Lib.run_noEscape]
 simp only[Result.andThen]
 rw[Oper.upon_value]
 go_wp2
 rw[Lib.run_from_unsafe w ⟨b,0,none⟩ Tryz.underlying211 Tryz.underlying114 hj hsh hT.lies]
 simp only[Result.andThen]
 rw[Oper.upon_value]
 go_wp2
 go_end0
 exact ⟨rfl,rfl⟩
theorem Builder_copyCheck {T:TypeId} (hT:BT T) (B b:Nat) (bs:List Value) (w:World) (h:Lib.IsBuilder T 5 B b bs w):
 Calls Tryz.prog 116 #[.pointer (some ⟨b,0,none⟩)] w fun e w'=>e= .returned (.tuple #[])∧(Lib.BuilderAt T 5 B b (.pointer (some ⟨b,0,none⟩)) bs w'∧Below B w w'):=by
 rcases h with h|h
 ·refine (Builder_copyCheck_fresh hT b w h.cell0 h.shape h.frozen0).mono ?_
  rintro e w' ⟨rfl,rfl⟩
  exact ⟨rfl,h.used _,(Below.refl B w).setCell (p:=⟨b,0,none⟩) h.1 _⟩
 ·refine (Builder_copyCheck_used hT b w h.cell0).mono ?_
  rintro e w' ⟨rfl,rfl⟩
  exact ⟨rfl,h,Below.refl B _⟩
theorem Builder_Len {T:TypeId} (hT:BT T) (B b:Nat) (bs:List Value) (w:World) (h:Lib.IsBuilder T 5 B b bs w):
 Calls Tryz.prog 68 #[.pointer (some ⟨b,0,none⟩)] w fun e w'=>e= .returned (.int .i64 bs.length)∧w'=w:=by
 obtain ⟨p,hB,v,hbk,hown,hne⟩:∃p,Lib.BuilderAt T 5 B b p bs w:=by
  rcases h with h|h
  ·exact ⟨_,h⟩
  ·exact ⟨_,h⟩
 obtain ⟨ao,cap,rfl⟩:∃ao cap,v= .slice ao bs.length cap:=by
  rcases hown.2 with ⟨hv,h0⟩|⟨g,cap,cur,hv,_⟩
  ·exact ⟨none,0,by rw[hv,h0]⟩
  ·exact ⟨_,_,hv⟩
 have c1:w.cell? ⟨b,1,none⟩=some (.slice ao bs.length cap):=by rw[Lib.cell_of_heap hbk];rfl
 go_enter Tryz.func68,Tryz.ntmps68
 go_wp2
 go_ret
 exact ⟨rfl,rfl⟩
theorem Builder_WriteByte {T:TypeId} (hT:BT T) (B b:Nat) (bs:List Value) (c:Int) (w:World) (h:Lib.IsBuilder T 5 B b bs w) (hlen:bs.length+1≤140737488355328) (hBw:B≤w.heap.size):
 Calls Tryz.prog 69 #[.pointer (some ⟨b,0,none⟩),.int .u8 c] w fun e w'=>e= .returned .nilIface∧(Lib.BuilderAt T 5 B b (.pointer (some ⟨b,0,none⟩)) (bs++ [.int .u8 c]) w'∧Below B w w'):=by
 obtain ⟨i0,hi,hz0,hz1,hz2⟩:=info_parts info_u8
 go_enter Tryz.func69,Tryz.ntmps69
 go_wp2_with (go_at_call 116;refine (Builder_copyCheck hT B b bs _ h).mono ?_)
 rintro e w1 ⟨rfl,h1,hb1⟩
 obtain ⟨hB,v,hbk,hown,hne⟩:=h1
 have c0:w1.cell? ⟨b,0,none⟩=some (.pointer (some ⟨b,0,none⟩)):=by rw[Lib.cell_of_heap hbk];rfl
 have c1:w1.cell? ⟨b,1,none⟩=some v:=by rw[Lib.cell_of_heap hbk];rfl
 go_wp2_with (at_builtin;refine wpList_append_own _ rfl _ _ 115 rfl B 5 i0 (.int .u8 0) 1 1 Tryz.underlying115 hi hz0 hz1 hz2 rfl (by decide) _ _ _ rfl (hown.alloc _) ⟨w1.heap.size,0,none⟩ 1 1 [.int .u8 c] rfl rfl ?c1 ?c2 ?c3 ?c4 ?c5 ?_)
 case c1=>
  intro j u hj
  match j,hj with
  |0,hj=>simp at hj;subst hj;simp[Addr.add]
 case c2=>intro u hu;simp at hu;subst hu;rfl
 case c3=>unfold maxLen;omega
 case c4=>omega
 case c5=>have:=hb1.size;simp;omega
 intro v' w2 hown' hgrow _
 have hlt:b<w1.heap.size:=by
  rcases Nat.lt_or_ge b w1.heap.size with h'|h'
  ·exact h'
  ·simp[Array.getElem?_eq_none h'] at hbk
 have hb2:w2.heap[b]? =some (.cells #[.pointer (some ⟨b,0,none⟩),v] T (0,0)):=by
  rw[hgrow.block b (by simp;omega) (fun e=>hne e.symm),Lib.alloc_old w1 _ b hlt]
  exact hbk
 have d0:w2.cell? ⟨b,0,none⟩=some (.pointer (some ⟨b,0,none⟩)):=by rw[Lib.cell_of_heap hb2];rfl
 have d1:w2.cell? ⟨b,1,none⟩=some v:=by rw[Lib.cell_of_heap hb2];rfl
 have f1:w2.frozen? ⟨b,1,none⟩=false:=Lib.frozen_of_heap hb2 1
 obtain ⟨g,cap,rfl⟩:∃g cap,v'= .slice (some ⟨g,0,none⟩) (bs.length+1) cap:=by
  rcases hown'.2 with ⟨_,h0⟩|⟨g,cap,cur,hv,_⟩
  ·omega
  ·exact ⟨g,cap,hv⟩
 go_wp2
 go_ret
 refine ⟨rfl,?_,?_⟩
 ·exact Lib.BuilderAt.put (T:=T) (e:=5) hB hb2 (bs':=bs++ [.int .u8 c]) (by simpa using hown') hT.ne
 ·exact ((hb1.alloc (by have:=hb1.size;omega) _).grown hgrow (by have:=hb1.size;simp;omega) (fun k hk=>(hown.lt k hk).1)).setCell (p:=⟨b,1,none⟩) hB _
theorem Builder_WriteString {T:TypeId} (hT:BT T) (B b:Nat) (bs:List Value) (s:ByteArray) (w:World) (h:Lib.IsBuilder T 5 B b bs w) (hlen:bs.length+s.size≤140737488355328) (hBw:B≤w.heap.size):
 Calls Tryz.prog 145 #[.pointer (some ⟨b,0,none⟩),.string s] w fun e w'=>e= .returned (.tuple #[.int .i64 s.size,.nilIface])∧(Lib.BuilderAt T 5 B b (.pointer (some ⟨b,0,none⟩)) (bs++Lib.strCells s) w'∧Below B w w'):=by
 obtain ⟨i0,hi,hz0,hz1,hz2⟩:=info_parts info_u8
 go_enter Tryz.func145,Tryz.ntmps145
 go_wp2_with (go_at_call 116;refine (Builder_copyCheck hT B b bs _ h).mono ?_)
 rintro e w1 ⟨rfl,h1,hb1⟩
 obtain ⟨hB,v,hbk,hown,hne⟩:=h1
 have c0:w1.cell? ⟨b,0,none⟩=some (.pointer (some ⟨b,0,none⟩)):=by rw[Lib.cell_of_heap hbk];rfl
 have c1:w1.cell? ⟨b,1,none⟩=some v:=by rw[Lib.cell_of_heap hbk];rfl
 go_wp2_with (at_builtin;refine Lib.wpList_append_own_string _ rfl _ _ 115 9 rfl B 5 i0 Tryz.underlying115 Tryz.underlying9 hi hz0 hz1 hz2 _ _ _ rfl hown s rfl ?c3 ?c4 ?c5 ?_)
 case c3=>unfold maxLen;omega
 case c4=>omega
 case c5=>have:=hb1.size;omega
 intro v' w2 hown' hgrow _
 have hlt:b<w1.heap.size:=by
  rcases Nat.lt_or_ge b w1.heap.size with h'|h'
  ·exact h'
  ·simp[Array.getElem?_eq_none h'] at hbk
 have hb2:w2.heap[b]? =some (.cells #[.pointer (some ⟨b,0,none⟩),v] T (0,0)):=by
  rw[hgrow.block b hlt (fun e=>hne e.symm)]
  exact hbk
 have d0:w2.cell? ⟨b,0,none⟩=some (.pointer (some ⟨b,0,none⟩)):=by rw[Lib.cell_of_heap hb2];rfl
 have d1:w2.cell? ⟨b,1,none⟩=some v:=by rw[Lib.cell_of_heap hb2];rfl
 have f1:w2.frozen? ⟨b,1,none⟩=false:=Lib.frozen_of_heap hb2 1
 obtain ⟨ao,n',cap,rfl⟩:∃ao n' cap,v'= .slice ao n' cap:=by
  rcases hown'.2 with ⟨hv,_⟩|⟨g,cap,cur,hv,_⟩
  ·exact ⟨_,_,_,hv⟩
  ·exact ⟨_,_,_,hv⟩
 go_wp2
 go_ret2
 refine ⟨rfl,?_,?_⟩
 ·exact Lib.BuilderAt.put (T:=T) (e:=5) hB hb2 (bs':=bs++Lib.strCells s) (by simpa [Lib.strCells_length] using hown') hT.ne
 ·exact (hb1.grown hgrow (by have:=hb1.size;omega) (fun k hk=>(hown.lt k hk).1)).setCell (p:=⟨b,1,none⟩) hB _
theorem Builder_String {T:TypeId} (hT:BT T) (B b:Nat) (l:List UInt8) (w:World) (h:Lib.IsBuilder T 5 B b (Lib.byteCells l) w) (h0:l≠ []):
 Calls Tryz.prog 70 #[.pointer (some ⟨b,0,none⟩)] w fun e w'=>e= .returned (.string ⟨l.toArray⟩)∧Below B w w':=by
 obtain ⟨p,hB,v,hbk,hown,hne⟩:∃p,Lib.BuilderAt T 5 B b p (Lib.byteCells l) w:=by
  rcases h with h|h
  ·exact ⟨_,h⟩
  ·exact ⟨_,h⟩
 have hl0:l.length≠0:=by simpa using h0
 rw[Lib.byteCells_length] at hown
 obtain ⟨g,cap,cur,rfl,hbg,hg,hnc,hcm,hcs,htake⟩:∃g cap cur,v= .slice (some ⟨g,0,none⟩) l.length cap∧B≤g∧w.heap[g]? =some (.cells cur 5 (0,0))∧l.length≤cap∧cap≤maxLen∧cur.size=cap*1∧cur.toList.take (l.length*1)=Lib.byteCells l:=by
  rcases hown.2 with ⟨_,hz⟩|⟨g,cap,cur,hv,r⟩
  ·exact absurd hz hl0
  ·exact ⟨g,cap,cur,hv,r⟩
 have c1:w.drew.cell? ⟨b,1,none⟩=some (.slice (some ⟨g,0,none⟩) l.length cap):=by
  have:w.drew.heap[b]? =some (.cells #[p,.slice (some ⟨g,0,none⟩) l.length cap] T (0,0)):=hbk
  rw[Lib.cell_of_heap this];rfl
 have hSD:(Builtin.unsafeSliceData_ #[115] 174 #[.slice (some ⟨g,0,none⟩) l.length cap]).run Tryz.prog w.drew= .ok (.pointer (some ⟨g,0,none⟩)) w.drew:=
  Lib.run_unsafeSliceData_row _ _ _ _ _ _ (by omega)
 have hUS:(Builtin.unsafeString_ #[174,3] 9 #[.pointer (some ⟨g,0,none⟩),.int .i64 l.length]).run Tryz.prog w.drew= .ok (.string ⟨l.toArray⟩) (w.drew.freeze ⟨g,0,none⟩ l.length):=by
  refine Lib.run_unsafeString_row w.drew 174 3 9 5 Tryz.underlying174 cells_u8 g cur.size (by have hg':w.drew.heap[g]? =some (.cells cur 5 (0,0)):=hg;simp[World.shape?,hg']) l h0 (by omega) (by unfold maxLen at hcm;omega) ?_
  intro j x hx
  have:=hown.cells (g:=g) rfl j (.int .u8 x.toNat) (by simp[Lib.byteCells,hx])
  exact this
 go_enter Tryz.func70,Tryz.ntmps70
 go_wp2
 go_region
 all_goals (go_wp2;go_ret;exact ⟨rfl,Lib.below_freeze (Below.drew (Below.refl B w)) (p:=⟨g,0,none⟩) hbg _⟩)
theorem unsafeString_none {T:TypeId} (hT:BT T) (W:World) (q:Option Addr):(Builtin.unsafeString_ #[174,3] 9 #[.pointer q,.int .i64 0]).run Tryz.prog W= .ok (.string .empty) W:=
 Lib.run_unsafeString_none W _ _ _ q
theorem Builder_String_nil {T:TypeId} (hT:BT T) (B b:Nat) (p:Value) (w:World) (hbk:w.heap[b]? =some (.cells #[p,.slice none 0 0] T (0,0))):
 Calls Tryz.prog 70 #[.pointer (some ⟨b,0,none⟩)] w fun e w'=>e= .returned (.string ⟨#[]⟩)∧Below B w w':=by
 have hUS:=unsafeString_none hT
 have c1:w.drew.cell? ⟨b,1,none⟩=some (.slice none 0 0):=by
  have:w.drew.heap[b]? =some (.cells #[p,.slice none 0 0] T (0,0)):=hbk
  rw[Lib.cell_of_heap this];rfl
 have hSD:(Builtin.unsafeSliceData_ #[115] 174 #[.slice none 0 0]).run Tryz.prog w.drew= .ok (.pointer none) w.drew:=rfl
 go_enter Tryz.func70,Tryz.ntmps70
 go_wp2
 go_region
 all_goals (go_wp2;go_ret;exact ⟨rfl,Below.drew (Below.refl B w)⟩)
theorem Builder_String_noroom {T:TypeId} (hT:BT T) (B b g:Nat) (p:Value) (cur:Array Value) (w:World) (hBw:B≤w.heap.size) (hbk:w.heap[b]? =some (.cells #[p,.slice (some ⟨g,0,none⟩) 0 0] T (0,0))) (hg:w.heap[g]? =some (.cells cur 5 (0,0))):
 Calls Tryz.prog 70 #[.pointer (some ⟨b,0,none⟩)] w fun e w'=>e= .returned (.string ⟨#[]⟩)∧Below B w w':=by
 have hUS:=unsafeString_none hT
 have hlt:b<w.heap.size:=by
  rcases Nat.lt_or_ge b w.heap.size with h'|h'
  ·exact h'
  ·simp[Array.getElem?_eq_none h'] at hbk
 have c1:w.drew.cell? ⟨b,1,none⟩=some (.slice (some ⟨g,0,none⟩) 0 0):=by
  have:w.drew.heap[b]? =some (.cells #[p,.slice (some ⟨g,0,none⟩) 0 0] T (0,0)):=hbk
  rw[Lib.cell_of_heap this];rfl
 have hSD:(Builtin.unsafeSliceData_ #[115] 174 #[.slice (some ⟨g,0,none⟩) 0 0]).run Tryz.prog w.drew= .ok (.pointer (some ⟨w.drew.heap.size,0,none⟩)) (w.drew.alloc (.view ⟨g,0,none⟩ 5)):=
  Lib.run_unsafeSliceData_zero w.drew _ _ 5 Tryz.underlying174 ⟨g,0,none⟩ 0 (5,cur.size) (by have hg':w.drew.heap[g]? =some (.cells cur 5 (0,0)):=hg;simp[World.shape?,hg'])
 have c2:(w.drew.alloc (.view ⟨g,0,none⟩ 5)).cell? ⟨b,1,none⟩=some (.slice (some ⟨g,0,none⟩) 0 0):=by
  have:(w.drew.alloc (.view ⟨g,0,none⟩ 5)).heap[b]? =_:=(Lib.alloc_old w.drew _ b hlt).trans hbk
  rw[Lib.cell_of_heap this];rfl
 have c3:(w.alloc (.view ⟨g,0,none⟩ 5)).drew.cell? ⟨b,1,none⟩=some (.slice (some ⟨g,0,none⟩) 0 0):=c2
 have c0:w.cell? ⟨b,1,none⟩=some (.slice (some ⟨g,0,none⟩) 0 0):=c1
 go_enter Tryz.func70,Tryz.ntmps70
 go_wp2
 go_region
 all_goals (go_wp2;go_ret;exact ⟨rfl,(Below.drew (Below.refl B w)).alloc hBw _⟩)
theorem Builder_String_room {T:TypeId} (hT:BT T) (B b g cap:Nat) (p:Value) (w:World) (hc0:cap≠0) (hbk:w.heap[b]? =some (.cells #[p,.slice (some ⟨g,0,none⟩) 0 cap] T (0,0))):
 Calls Tryz.prog 70 #[.pointer (some ⟨b,0,none⟩)] w fun e w'=>e= .returned (.string ⟨#[]⟩)∧Below B w w':=by
 have hUS:=unsafeString_none hT
 have c1:w.drew.cell? ⟨b,1,none⟩=some (.slice (some ⟨g,0,none⟩) 0 cap):=by
  have:w.drew.heap[b]? =some (.cells #[p,.slice (some ⟨g,0,none⟩) 0 cap] T (0,0)):=hbk
  rw[Lib.cell_of_heap this];rfl
 have hSD:(Builtin.unsafeSliceData_ #[115] 174 #[.slice (some ⟨g,0,none⟩) 0 cap]).run Tryz.prog w.drew= .ok (.pointer (some ⟨g,0,none⟩)) w.drew:=
  Lib.run_unsafeSliceData_row _ _ _ _ _ _ hc0
 clear hc0
 go_enter Tryz.func70,Tryz.ntmps70
 go_wp2
 go_region
 all_goals (go_wp2;go_ret;exact ⟨rfl,Below.drew (Below.refl B w)⟩)
theorem Builder_String_empty {T:TypeId} (hT:BT T) (B b:Nat) (w:World) (h:Lib.IsBuilder T 5 B b [] w) (hBw:B≤w.heap.size):
 Calls Tryz.prog 70 #[.pointer (some ⟨b,0,none⟩)] w fun e w'=>e= .returned (.string ⟨#[]⟩)∧Below B w w':=by
 obtain ⟨p,hB,v,hbk,hown,hne⟩:∃p,Lib.BuilderAt T 5 B b p [] w:=by
  rcases h with h|h
  ·exact ⟨_,h⟩
  ·exact ⟨_,h⟩
 rcases hown.2 with ⟨rfl,_⟩|⟨g,cap,cur,rfl,hbg,hg,_,_,_,_⟩
 ·exact Builder_String_nil hT B b p w hbk
 ·by_cases hc0:cap=0
  ·subst hc0
   exact Builder_String_noroom hT B b g p cur w hBw hbk hg
  ·exact Builder_String_room hT B b g cap p w hc0 hbk
theorem Builder_String_any {T:TypeId} (hT:BT T) (B b:Nat) (l:List UInt8) (w:World) (h:Lib.IsBuilder T 5 B b (Lib.byteCells l) w) (hBw:B≤w.heap.size):
 Calls Tryz.prog 70 #[.pointer (some ⟨b,0,none⟩)] w fun e w'=>e= .returned (.string ⟨l.toArray⟩)∧Below B w w':=by
 cases l with
 |nil=>exact Builder_String_empty hT B b w h hBw
 |cons x r=>exact Builder_String hT B b (x::r) w h (by simp)
theorem decodeRune_any (s:ByteArray) (w:World) (hE:Env w):Calls Tryz.prog 157 #[.string s] w fun e w'=>e= .returned (.tuple #[.int .i32 (Lib.decodeGo s).1,.int .i64 (Lib.decodeGo s).2])∧Ext w w':=
 Tryz.utf8_DecodeRuneInString s w hE.utf8
theorem builderLen_t {T:TypeId} (hT:BT T) (B b:Nat) (bs:List Value) (w:World) (h:Lib.IsBuilder T 5 B b bs w):
 Calls Tryz.prog 68 #[.pointer (some ⟨b,0,none⟩)] w fun e w'=>e= .returned (.int .i64 bs.length)∧w'=w:=Builder_Len hT B b bs w h
theorem builderWriteByte_t {T:TypeId} (hT:BT T) (B b:Nat) (bs:List Value) (c:Int) (w:World) (h:Lib.IsBuilder T 5 B b bs w) (hlen:bs.length+1≤140737488355328) (hBw:B≤w.heap.size):
 Calls Tryz.prog 69 #[.pointer (some ⟨b,0,none⟩),.int .u8 c] w fun e w'=>e= .returned .nilIface∧(Lib.IsBuilder T 5 B b (bs++ [.int .u8 c]) w'∧Below B w w'):=
 (Builder_WriteByte hT B b bs c w h hlen hBw).mono fun _ _ ⟨h1,h2,h3⟩=>⟨h1,Or.inr h2,h3⟩
theorem builderWriteString_t {T:TypeId} (hT:BT T) (B b:Nat) (bs:List Value) (s:ByteArray) (w:World) (h:Lib.IsBuilder T 5 B b bs w) (hlen:bs.length+s.size≤140737488355328) (hBw:B≤w.heap.size):
 Calls Tryz.prog 145 #[.pointer (some ⟨b,0,none⟩),.string s] w fun e w'=>e= .returned (.tuple #[.int .i64 s.size,.nilIface])∧(Lib.IsBuilder T 5 B b (bs++Lib.byteCells s.data.toList) w'∧Below B w w'):=
 (Builder_WriteString hT B b bs s w h hlen hBw).mono fun _ _ ⟨h1,h2,h3⟩=>⟨h1,Or.inr h2,h3⟩
theorem builderString_t {T:TypeId} (hT:BT T) (B b:Nat) (l:List UInt8) (w:World) (h:Lib.IsBuilder T 5 B b (Lib.byteCells l) w) (hBw:B≤w.heap.size):
 Calls Tryz.prog 70 #[.pointer (some ⟨b,0,none⟩)] w fun e w'=>e= .returned (.string (str l))∧Below B w w':=Builder_String_any hT B b l w h hBw
theorem builderLen_any (B b:Nat) (bs:List Value) (w:World) (h:Lib.IsBuilder 117 5 B b bs w):
 Calls Tryz.prog 68 #[.pointer (some ⟨b,0,none⟩)] w fun e w'=>e= .returned (.int .i64 bs.length)∧w'=w:=builderLen_t bt_plain B b bs w h
theorem builderWriteByte_any (B b:Nat) (bs:List Value) (c:Int) (w:World) (h:Lib.IsBuilder 117 5 B b bs w) (hlen:bs.length+1≤140737488355328) (hBw:B≤w.heap.size):
 Calls Tryz.prog 69 #[.pointer (some ⟨b,0,none⟩),.int .u8 c] w fun e w'=>e= .returned .nilIface∧(Lib.IsBuilder 117 5 B b (bs++ [.int .u8 c]) w'∧Below B w w'):=builderWriteByte_t bt_plain B b bs c w h hlen hBw
theorem builderWriteString_any (B b:Nat) (bs:List Value) (s:ByteArray) (w:World) (h:Lib.IsBuilder 117 5 B b bs w) (hlen:bs.length+s.size≤140737488355328) (hBw:B≤w.heap.size):
 Calls Tryz.prog 145 #[.pointer (some ⟨b,0,none⟩),.string s] w fun e w'=>e= .returned (.tuple #[.int .i64 s.size,.nilIface])∧(Lib.IsBuilder 117 5 B b (bs++Lib.byteCells s.data.toList) w'∧Below B w w'):=builderWriteString_t bt_plain B b bs s w h hlen hBw
theorem builderString_any (B b:Nat) (l:List UInt8) (w:World) (h:Lib.IsBuilder 117 5 B b (Lib.byteCells l) w) (hBw:B≤w.heap.size):
 Calls Tryz.prog 70 #[.pointer (some ⟨b,0,none⟩)] w fun e w'=>e= .returned (.string (str l))∧Below B w w':=builderString_t bt_plain B b l w h hBw
theorem decodeGo_eq (s:ByteArray) (hs:s.data.toList≠ []):Lib.decodeGo s=Lib.decodeL s.data.toList:=by
 unfold Lib.decodeGo Lib.decodeL
 have h0:s.size≠0:=by
  intro h
  apply hs
  apply List.eq_nil_of_length_eq_zero
  simpa using h
 rw[if_neg h0]
theorem ext_list (t:ByteArray) (k:Nat):(t.extract k t.size).data.toList=t.data.toList.drop k:=by
 simp[List.take_of_length_le]
theorem dec_in (s:ByteArray) (k:Nat) (hk:k<s.size):Lib.decodeGo (s.extract k s.size)=Lib.decodeL (s.data.toList.drop k):=by
 rw[decodeGo_eq,ext_list]
 rw[ext_list]
 intro h
 have:=congrArg List.length h
 simp at this
 have:s.data.size=s.size:=rfl
 omega
def decVal (d:Nat×Nat):Value:= .tuple #[.int .i32 (d.1:Nat),.int .i64 (d.2:Nat)]
theorem textDecode_in (s:ByteArray) (k:Nat) (w:World) (hE:Env w) (hk:k<s.size) (hs:s.size≤maxLen):
 Calls Tryz.prog 114 #[.string s,.int .i64 (k:Nat)] w fun e w'=>e= .returned (decVal (dec (s.data.toList.drop k)))∧Ext w w':=by
 have hd:=dec_in s k hk
 have hne:s.data.toList.drop k≠ []:=by
  intro h
  have:=congrArg List.length h
  simp at this
  have:s.data.size=s.size:=rfl
  omega
 obtain ⟨R,hR⟩:∃R,(Lib.decodeL (s.data.toList.drop k)).1=R:=⟨_,rfl⟩
 obtain ⟨K,hK⟩:∃K,(Lib.decodeL (s.data.toList.drop k)).2=K:=⟨_,rfl⟩
 have hc:=decodeRune_any (s.extract k s.size) w hE
 rw[hd,hR,hK] at hc
 have hfin:dec (s.data.toList.drop k)=if R=65533∧K=1 then (0,0) else (R,K):=by
  unfold dec
  rw[if_neg hne,hR,hK,←hR,←hK]
 rw[hfin]
 clear hfin hK hR hne hd
 unfold maxLen at hs
 have HC:=gd hc
 clear hc
 by_cases h1:R=65533∧K=1
 obtain ⟨rfl,rfl⟩:=h1
 rotate_left
 by_cases h2:R=65533
 have h3:((K:Int)==1)=false:=by
  rw[beq_eq_false_iff_ne];omega
 have h4:((R:Int)==65533)=true:=by simp[h2]
 have hfin:(if R=65533∧K=1 then ((0,0):Nat×Nat) else (R,K))=(R,K):=if_neg h1
 rw[hfin]
 clear hfin h1 h2
 rotate_left
 have h4:((R:Int)==65533)=false:=by rw[beq_eq_false_iff_ne];omega
 have hfin:(if R=65533∧K=1 then ((0,0):Nat×Nat) else (R,K))=(R,K):=if_neg h1
 rw[hfin]
 clear hfin h1 h2
 all_goals
  go_enter Tryz.func114,Tryz.ntmps114
  go_wp2_with (go_at_call 157;refine (HC.out).mono ?_;rintro e w' ⟨rfl,hx⟩)
  all_goals go_ret2
  all_goals exact ⟨rfl,hx⟩
theorem data_len (s:ByteArray):s.data.toList.length=s.size:=rfl
theorem textCheck_any (s:ByteArray) (w:World) (hE:Env w) (hs:s.size≤maxLen):
 Calls Tryz.prog 66 #[.string s] w fun e w'=>e= .returned (.tuple #[.int .i64 ((checkS s).1:Nat),.int .i64 ((checkS s).2:Nat)])∧Ext w w':=by
 have hml:=hs
 unfold maxLen at hs
 go_enter Tryz.func66,Tryz.ntmps66
 go_wp2
 go_loopw [4,5,6] (fun v _ _ wr=>∃k:Nat,k≤s.size∧v= .int .i64 k∧Hid (checkS s=checkGo s.data.toList.length k (s.data.toList.drop k))∧Ext w wr) (fun v _ _ _=>s.size - (intOf v).toNat)
 case atStart=>exact ⟨0,Nat.zero_le _,rfl,rfl,Ext.refl _⟩
 case round=>
  obtain ⟨k,hk,rfl,hc,hx⟩:=hrel
  by_cases hlt:k<s.size
  ·have hst:=check_at s.data.toList k (by rw[data_len];exact hlt)
   have hle:=dec_le (s.data.toList.drop k)
   rw[List.length_drop,data_len] at hle
   have hcon:=textDecode_in s k wr (hE.ext hx) hlt hml
   unfold decVal at hcon
   have hc2:=hc.out.trans hst
   clear hc hst
   obtain ⟨R,hR⟩:∃R,(dec (s.data.toList.drop k)).1=R:=⟨_,rfl⟩
   obtain ⟨K,hK⟩:∃K,(dec (s.data.toList.drop k)).2=K:=⟨_,rfl⟩
   rw[hR,hK] at hcon hc2
   rw[hK] at hle
   clear hR hK
   have HC:=gd hcon
   have HS:=gd hc2
   clear hcon hc2
   by_cases h0:K=0
   ·subst h0
    have hfin:=HS.out
    rw[if_pos rfl] at hfin
    have HF:=gd hfin
    clear hfin HS
    go_wp2_with (first|(go_at_call 114;refine (HC.out).mono ?_;rintro e w' ⟨rfl,hx'⟩))
    go_ret2
    exact ⟨by rw[HF.out];rfl,hx.trans hx'⟩
   ·have hb:((K:Int)==0)=false:=by rw[beq_eq_false_iff_ne];omega
    by_cases hch:isChar R=false
    ·have hfin:=HS.out
     rw[if_neg h0,if_pos hch] at hfin
     have HF:=gd hfin
     clear hfin HS
     go_wp2_with (first|(go_at_call 114;refine (HC.out).mono ?_;rintro e w' ⟨rfl,hx'⟩)|(go_at_call 115;refine (textIsChar_any _ _).mono ?_;rintro e w' ⟨rfl,rfl⟩))
     go_ret2
     exact ⟨by rw[HF.out];rfl,hx.trans hx'⟩
    ·have hch':isChar R=true:=by simpa using hch
     have HS2:Hid (checkS s=checkGo s.data.toList.length (k+K) (s.data.toList.drop (k+K))):=by
      have h:=HS.out
      rw[if_neg h0,if_neg hch] at h
      exact h
     clear HS hch
     go_wp2_with (first|(go_at_call 114;refine (HC.out).mono ?_;rintro e w' ⟨rfl,hx'⟩)|(go_at_call 115;refine (textIsChar_any _ _).mono ?_;rintro e w' ⟨rfl,rfl⟩))
     go_roundw
     case rel=>exact ⟨k+K,by omega,by go_num,HS2,hx.trans hx'⟩
     case measure=>simp[intOf];omega
  ·have hke:k=s.size:=by omega
   have hfin:checkS s=(s.size,0):=by
    rw[hc.out,check_end _ _ (by rw[data_len];omega),hke]
   have HF:=gd hfin
   clear hfin hc hke
   go_wp2
   go_ret2
   exact ⟨by rw[HF.out];rfl,hx⟩
end Go.Proofs.YthlnaldahkgjnaaGreatDoor
