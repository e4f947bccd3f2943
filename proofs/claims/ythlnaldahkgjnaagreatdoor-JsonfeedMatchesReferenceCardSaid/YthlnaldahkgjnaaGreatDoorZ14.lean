/- Parts of the proof: contracts and plain laws. -/
import Derived.Test.YthlnaldahkgjnaaGreatDoorZ13
namespace Go.Proofs.YthlnaldahkgjnaaGreatDoor
open Go Go.RowKit _root_.Go.Proofs.Tryz
set_option linter.unusedVariables false
set_option linter.unusedSimpArgs false
set_option maxRecDepth 100000
set_option maxHeartbeats 16000000
def isU (l:List UInt8):Prop:=∃rs:List Nat,(∀r∈rs,scalar r)/\l=rs.flatMap encN
theorem Zf3:isU []:=⟨[],by simp,rfl⟩
theorem ZcN {l m:List UInt8} (h:isU l) (k:isU m):isU (l++m):=by
 obtain ⟨a,j,rfl⟩:=h;obtain ⟨b,A,rfl⟩:=k;exact ⟨a++b,λr C=>(ZZ.1 C).elim (j r) (A r),by simp⟩
theorem ZcO {r:Nat} (h:scalar r):isU (encN r):=⟨[r],by simpa using h,by simp⟩
theorem Zec {l:List UInt8} (h:isU l):Lib.validD l=true:=by
 obtain ⟨rs,h,rfl⟩:=h
 induction rs with
 |nil=>rfl
 |cons r rs ih=>have j:=h r (by simp);have D:=Ks j;have C:=G5 j (rs.flatMap encN);rw[XU];have A:=Iq (encN r++rs.flatMap encN) 0 (by rw[Zj];omega);rw[XQ,C,Zf (by simp only[];omega),Yf,List.drop_left] at A;rw[A];exact ih λr j=>h r (by simp[j])
theorem KE {l:List UInt8} {i:Nat}:∀{k n:Nat},hexGo l i k=some n->n<16 ^ k/\(0<k->i+k<=l.length)
 |0,n,h=>by cases h;exact ⟨by decide,λh=>absurd h (Nat.lt_irrefl _)⟩
 |k+1,n,h=>by
  unfold hexGo at h
  cases h1:hexGo l i k with
  |none=>rw[h1] at h;cases h
  |some m=>
   cases h2:l[i+k]? with
   |none=>rw[h1,h2] at h;cases h
   |some c=>
    rw[h1,h2] at h
    simp only at h
    by_cases j:hexV c<16
    ·rw[Zi j] at h
     injection h with h
     have:=(KE h1).1
     have A:=(ZE.1 h2).1
     refine ⟨by rw[Nat.pow_succ];omega,λ_=>by omega⟩
    ·rw[Zf j] at h;cases h
theorem Zap {l:List UInt8} {i n:Nat} (h:unitP l i=some n):n<65536/\i+6<=l.length:=by
 unfold unitP at h;by_cases j:l[i]? =some 92/\l[i+1]? =some 117
 ·rw[Zi j] at h;have:=KE h;exact ⟨this.1,by have:=this.2 (by omega);omega⟩
 ·rw[Zf j] at h;cases h
theorem ZfC {l:List UInt8} {i r n:Nat} (h:seqP l i=some (r,n)):scalar r/\(encN r).length<=n/\1<=n/\i+n<=l.length:=by
 unfold seqP at h;cases hc:l[i+1]? with
 |none=>rw[hc] at h;cases h
 |some c=>
  rw[hc] at h;simp only at h;have O:=(ZE.1 hc).1;have H:∀r,r<128->scalar r/\(encN r).length=1:=λr G=>⟨Or.inl (by omega),by rw[Kr G];rfl⟩;by_cases D:c=34\/c=92\/c=47
  ·rw[Zi D] at h;simp only[ZQ,Prod.mk.injEq] at h;obtain ⟨rfl,rfl⟩:=h;have:c.toNat<128:=(by rcases D with rfl|rfl|rfl<;>decide);obtain ⟨a,b⟩:=H _ this;exact ⟨a,by omega,by omega,by omega⟩
  ·rw[Zf D] at h;by_cases j:c=98\/c=102\/c=110\/c=114\/c=116
   ·have:∃x,x<128/\r=x/\n=2:=(by rcases j with rfl|rfl|rfl|rfl|rfl<;>simp at h<;>obtain ⟨rfl,rfl⟩:=h<;>exact ⟨_,by decide,rfl,rfl⟩);obtain ⟨x,K,rfl,rfl⟩:=this;obtain ⟨a,b⟩:=H _ K;exact ⟨a,by omega,by omega,by omega⟩
   ·simp only[not_or] at j;rw[Zf j.1,Zf j.2.1,Zf j.2.2.1,Zf j.2.2.2.1,Zf j.2.2.2.2] at h;cases hu:unitP l i with
    |none=>rw[hu] at h;cases h
    |some m=>
     rw[hu] at h;simp only at h;have I:=Zap hu;have len:∀r,scalar r->r<65536->(encN r).length<=3:=by
      intro r A G;unfold encN
      repeat' split
      all_goals simp
      all_goals omega
     by_cases F:55296<=m/\m<=56319
     ·rw[Zi F] at h;cases hv:unitP l (i+6) with
      |none=>rw[hv] at h;cases h
      |some m2=>
       rw[hv] at h;simp only at h;have J:=Zap hv;by_cases C:56320<=m2/\m2<=57343
       ·rw[Zi C] at h;simp only[ZQ,Prod.mk.injEq] at h;obtain ⟨rfl,rfl⟩:=h;have A:scalar (65536+(m - 55296)*1024+m2 - 56320):=Or.inr (by omega);refine ⟨A,?_,by omega,by omega⟩;rw[Zex A (by omega)];simp
       ·rw[Zf C] at h;cases h
     ·rw[Zf F] at h;by_cases C:56320<=m/\m<=57343
      ·rw[Zi C] at h;cases h
      ·rw[Zf C] at h;simp only[ZQ,Prod.mk.injEq] at h;obtain ⟨rfl,rfl⟩:=h;have A:scalar m:=(by unfold scalar;omega);have:=len m A I.1;exact ⟨A,by omega,by omega,by omega⟩
theorem Ik {l:List UInt8}:∀(k i:Nat) (out t:List UInt8) (to_:Nat),strGo l k i out=some (t,to_)->isU out->out.length<=i->i<=l.length->isU t/\t.length<=to_/\i<to_/\to_<=l.length
 |0,_,_,_,_,h,_,_,_=>by cases h
 |k+1,i,out,t,to_,h,hu,ho,hi=>by
  unfold strGo at h
  by_cases A:(dec (l.drop i)).2=0
  ·rw[Zi A] at h;cases h
  rw[Zf A] at h
  obtain ⟨-,D,I⟩:=ZcI [] A
  have C:=Gk (l.drop i)
  rw[ZL] at C
  by_cases F:(dec (l.drop i)).1<32
  ·rw[Zi F] at h;cases h
  rw[Zf F] at h
  by_cases G:(dec (l.drop i)).1=34
  ·rw[Zi G] at h
   simp only[ZQ,Prod.mk.injEq] at h
   obtain ⟨rfl,rfl⟩:=h
   exact ⟨hu,by omega,by omega,by omega⟩
  rw[Zf G] at h
  by_cases H:(dec (l.drop i)).1=92
  ·rw[Zi H] at h
   cases hs:seqP l i with
   |none=>rw[hs] at h;cases h
   |some p=>
    obtain ⟨r,n⟩:=p
    rw[hs] at h
    obtain ⟨a,b,c,d⟩:=ZfC hs
    obtain ⟨e1,e2,e3,j⟩:=Ik k _ _ _ _ h (ZcN hu (ZcO a)) (by rw[Zj];omega) d
    exact ⟨e1,e2,by omega,j⟩
  ·rw[Zf H] at h
   obtain ⟨e1,e2,e3,j⟩:=Ik k _ _ _ _ h (ZcN hu (ZcO D)) (by rw[Zj];omega) (by omega)
   exact ⟨e1,e2,by omega,j⟩
theorem Zao {l t:List UInt8} {i to_:Nat} (h:strP l i=some (t,to_)):Lib.validD t=true/\t.length<=l.length/\i<to_/\to_<=l.length:=by
 unfold strP at h;by_cases j:l[i]? =some 34
 ·rw[Zi j] at h;have A:=(ZE.1 j).1;obtain ⟨a,b,c,d⟩:=Ik _ _ _ _ _ h Zf3 (Zt _) A;exact ⟨Zec a,by omega,by omega,d⟩
 ·rw[Zf j] at h;cases h
theorem Zgd {s:List UInt8} {n:Int} (h:numV s=some n): -9223372036854775808<=n/\n<=9223372036854775807:=by
 unfold numV at h;simp only at h;generalize (if s.head? =some 45 then s.tail else s)=d at h;by_cases j:d= []\/19<d.length\/(1<d.length/\d.head? =some 48)
 ·rw[Zi j] at h;cases h
 ·rw[Zf j] at h;cases hv:decV d 0 with
  |none=>rw[hv] at h;cases h
  |some u=>rw[hv] at h;simp only at h;split at h<;>split at h<;>simp at h<;>omega
def GoodV (l:List UInt8) (V:Nat->Option (JO×Nat)):Prop:=∀i o to_,V i=some (o,to_)->jgood l.length o/\i<to_/\to_<=l.length
theorem Jt {l t:List UInt8} {i:Nat} (h:hasAt l i t=true) (C:t≠ []):i+t.length<=l.length:=by
 have j:t<+:l.drop i:=List.isPrefixOf_iff_prefix.1 h;have A:=j.length_le;rw[ZL] at A;have:=ZbB.2 C;omega
theorem KL {l:List UInt8} {V:Nat->Option (JO×Nat)} (F:GoodV l V):∀(k i:Nat) (acc vs:List JO) (to_:Nat),itemsGo l V k i acc=some (vs,to_)->(∀o∈acc,jgood l.length o)->acc.length<=i->i<=l.length->
 (∀o∈vs,jgood l.length o)/\vs.length<=to_/\i<to_/\to_<=l.length
 |0,_,_,_,_,h,_,_,_=>by cases h
 |k+1,i,acc,vs,to_,h,ha,hl,hi=>by
  unfold itemsGo at h;cases hv:V (spAt l i) with
  |none=>rw[hv] at h;cases h
  |some p=>
   obtain ⟨o,t⟩:=p;rw[hv] at h;simp only at h;obtain ⟨G,H,g3⟩:=F _ _ _ hv;have I:=X5 l i;have J:=X5 l t;have j:∀x∈acc++ [o],jgood l.length x:=λx A=>by
    rcases ZZ.1 A with A|A
    ·exact ha x A
    ·rw[Z8.1 A];exact G
   by_cases C:hasAt l (spAt l t) [93]=true
   ·rw[Zi C] at h;simp only[ZQ,Prod.mk.injEq] at h;obtain ⟨rfl,rfl⟩:=h;have:=Jt C (by simp);simp only[Zj,Zr,ZF] at this|-;exact ⟨j,by omega,by omega,by omega⟩
   ·rw[Zf C] at h;by_cases D:hasAt l (spAt l t) [44]=true
    ·rw[Zi D] at h;have:=Jt D (by simp);simp only[Zr,ZF] at this;obtain ⟨a,b,c,d⟩:=KL F k _ _ _ _ h j (by simp;omega) (by omega);exact ⟨a,b,by omega,d⟩
    ·rw[Zf D] at h;cases h
theorem ZcP {l:List UInt8} {i to_:Nat} {k:ByteArray} {ks:List (ByteArray×Nat)} (h:keyP l i ks=some (k,to_)):Lib.validD k.data.toList=true/\k.size<=l.length/\i<to_/\to_<=l.length:=by
 unfold keyP at h;cases hs:strP l i with
 |none=>rw[hs] at h;cases h
 |some p=>
  obtain ⟨t,j⟩:=p;rw[hs] at h;simp only at h;obtain ⟨a,b,c,d⟩:=Zao hs;by_cases C:(ks.any λp=>decide (p.1=str t))=true
  ·rw[Zi C] at h;cases h
  ·rw[Zf C] at h;by_cases A:hasAt l (spAt l j) [58]=true
   ·rw[Zi A] at h;simp only[ZQ,Prod.mk.injEq] at h;obtain ⟨rfl,rfl⟩:=h;have s:=X5 l j;have:=Jt A (by simp);simp only[Zr,ZF] at this;refine ⟨by simpa [str] using a,by simpa [str,ByteArray.size] using b,by omega,by omega⟩
   ·rw[Zf A] at h;cases h
theorem Eu {l:List UInt8} {V:Nat->Option (JO×Nat)} (I:GoodV l V):∀(f i:Nat) (D:List (ByteArray×Nat)) (F:List JO) (ks:List (ByteArray×Nat)) (vs:List JO) (to_:Nat),memsGo l V f i D F=some ((ks,vs),to_)->
 (∀k∈D,k.2<l.length/\k.1.size<=l.length/\Lib.validD k.1.data.toList=true)->(∀o∈F,jgood l.length o)->D.length=F.length->F.length<=i->i<=l.length->
 (∀k∈ks,k.2<l.length/\k.1.size<=l.length/\Lib.validD k.1.data.toList=true)/\(∀o∈vs,jgood l.length o)/\ks.length=vs.length/\vs.length<=to_/\i<to_/\to_<=l.length
 |0,_,_,_,_,_,_,h,_,_,_,_,_=>by cases h
 |f+1,i,D,F,ks,vs,to_,h,hak,hav,hln,hl,hi=>by
  unfold memsGo at h;cases hk:keyP l (spAt l i) D with
  |none=>rw[hk] at h;cases h
  |some p=>
   obtain ⟨key,t0⟩:=p;rw[hk] at h;simp only at h;obtain ⟨K,O,R,S⟩:=ZcP hk;cases hv:V t0 with
   |none=>rw[hv] at h;cases h
   |some p=>
    obtain ⟨o,t⟩:=p;rw[hv] at h;simp only at h;obtain ⟨J,Q,g3⟩:=I _ _ _ hv;have U:=X5 l i;have X:=X5 l t;have C:∀x∈F++ [o],jgood l.length x:=λx j=>by
     rcases ZZ.1 j with j|j
     ·exact hav x j
     ·rw[Z8.1 j];exact J
    have A:∀k∈D++ [(key,spAt l i)],k.2<l.length/\k.1.size<=l.length/\Lib.validD k.1.data.toList=true:=λx j=>by
     rcases ZZ.1 j with j|j
     ·exact hak x j
     ·rw[Z8.1 j];exact ⟨by show spAt l i<_;omega,O,K⟩
    by_cases G:hasAt l (spAt l t) [125]=true
    ·rw[Zi G] at h;simp only[ZQ,Prod.mk.injEq] at h;obtain ⟨⟨rfl,rfl⟩,rfl⟩:=h;have:=Jt G (by simp);simp only[Zj,Zr,ZF] at this|-;exact ⟨A,C,by omega,by omega,by omega,by omega⟩
    ·rw[Zf G] at h;by_cases H:hasAt l (spAt l t) [44]=true
     ·rw[Zi H] at h;have:=Jt H (by simp);simp only[Zr,ZF] at this;obtain ⟨a,b,c,d,e,e2⟩:=Eu I f _ _ _ _ _ _ h A C (by simp[hln]) (by simp;omega) (by omega);exact ⟨a,b,c,d,by omega,e2⟩
     ·rw[Zf H] at h;cases h
theorem Zfk {l:List UInt8} {V:Nat->Option (JO×Nat)} (C:GoodV l V) {i to_:Nat} {b:Bool} {o:JO} (A:i<l.length) (h:listP l V i b=some (o,to_)):jgood l.length o/\i<to_/\to_<=l.length:=by
 unfold listP at h;have F:=X5 l (i+1);have D:=Up (s:=l) (k:=i+1) (by omega);cases b with
 |true=>
  rw[Zi rfl] at h;by_cases j:hasAt l (spAt l (i+1)) [125]=true
  ·rw[Zi j] at h;simp only[ZQ,Prod.mk.injEq] at h;obtain ⟨rfl,rfl⟩:=h;have:=Jt j (by simp);simp only[Zr,ZF] at this;exact ⟨by simp[jgood,A],by omega,by omega⟩
  ·rw[Zf j] at h;cases hm:memsGo l V (l.length+1) (spAt l (i+1)) [] [] with
   |none=>rw[hm] at h;cases h
   |some p=>obtain ⟨⟨ks,vs⟩,t⟩:=p;rw[hm] at h;simp only[ZQ,Prod.mk.injEq] at h;obtain ⟨rfl,rfl⟩:=h;obtain ⟨a,b,c,d,e,e2⟩:=Eu C _ _ _ _ _ _ _ hm (by simp) (by simp) rfl (Zt _) D;exact ⟨by rw[jgood];exact ⟨A,c,by omega,a,b⟩,by omega,e2⟩
 |false=>
  rw[Zf (by decide)] at h;by_cases j:hasAt l (spAt l (i+1)) [93]=true
  ·rw[Zi j] at h;simp only[ZQ,Prod.mk.injEq] at h;obtain ⟨rfl,rfl⟩:=h;have:=Jt j (by simp);simp only[Zr,ZF] at this;exact ⟨by simp[jgood,A],by omega,by omega⟩
  ·rw[Zf j] at h;cases hm:itemsGo l V (l.length+1) (spAt l (i+1)) [] with
   |none=>rw[hm] at h;cases h
   |some p=>obtain ⟨vs,t⟩:=p;rw[hm] at h;simp only[ZQ,Prod.mk.injEq] at h;obtain ⟨rfl,rfl⟩:=h;obtain ⟨a,b,c,d⟩:=KL C _ _ _ _ _ hm (by simp) (Zt _) D;exact ⟨by rw[jgood];exact ⟨A,by omega,a⟩,by omega,d⟩
theorem ZcX {l:List UInt8} {L:Nat->Bool->Option (JO×Nat)} {i to_:Nat} {o:JO} (F:∀b o to_,i<l.length->L i b=some (o,to_)->jgood l.length o/\i<to_/\to_<=l.length) (h:valG l L i=some (o,to_)):jgood l.length o/\i<to_/\to_<=l.length:=by
 unfold valG at h;cases hc:l[i]? with
 |none=>rw[hc] at h;cases h
 |some c=>
  rw[hc] at h;simp only at h;have A:=(ZE.1 hc).1;by_cases j:c=110
  ·rw[Zi j] at h;split at h
   ·rename_i C;have:=Jt C (by simp);simp only[ZQ,Prod.mk.injEq,Zr,ZF] at h this;obtain ⟨rfl,rfl⟩:=h;exact ⟨by simpa [jgood] using A,by omega,by omega⟩
   ·cases h
  rw[Zf j] at h;by_cases j:c=116
  ·rw[Zi j] at h;split at h
   ·rename_i C;have:=Jt C (by simp);simp only[ZQ,Prod.mk.injEq,Zr,ZF] at h this;obtain ⟨rfl,rfl⟩:=h;exact ⟨by simpa [jgood] using A,by omega,by omega⟩
   ·cases h
  rw[Zf j] at h;by_cases j:c=102
  ·rw[Zi j] at h;split at h
   ·rename_i C;have:=Jt C (by simp);simp only[ZQ,Prod.mk.injEq,Zr,ZF] at h this;obtain ⟨rfl,rfl⟩:=h;exact ⟨by simpa [jgood] using A,by omega,by omega⟩
   ·cases h
  rw[Zf j] at h;by_cases j:c=34
  ·rw[Zi j] at h;cases hs:strP l i with
   |none=>rw[hs] at h;cases h
   |some p=>obtain ⟨t,I⟩:=p;rw[hs] at h;simp only[ZQ,Prod.mk.injEq] at h;obtain ⟨rfl,rfl⟩:=h;obtain ⟨a,b,c,d⟩:=Zao hs;exact ⟨by rw[jgood];exact ⟨A,by simpa [str,ByteArray.size] using b,by simpa [str] using a⟩,c,d⟩
  rw[Zf j] at h;by_cases j:c=91
  ·rw[Zi j] at h;exact F _ _ _ A h
  rw[Zf j] at h;by_cases j:c=123
  ·rw[Zi j] at h;exact F _ _ _ A h
  rw[Zf j] at h;by_cases j:c=45\/isDg c=true
  ·rw[Zi j] at h;cases hs:numV ((l.drop i).takeWhile numeric) with
   |none=>rw[hs] at h;cases h
   |some n=>
    rw[hs] at h;simp only[ZQ,Prod.mk.injEq] at h;obtain ⟨rfl,rfl⟩:=h;have H:numeric c=true:=by
     unfold numeric;rcases j with rfl|j
     ·rfl
     ·rw[j];rfl
    have D:=(List.takeWhile_sublist numeric (l:=l.drop i)).length_le;rw[ZL] at D;have G:0<((l.drop i).takeWhile numeric).length:=(by rw[Zx A,ZbC];have:l[i]=c:=(by have:=Zc A;rw[hc] at this;injection this with this;exact this.symm);rw[this,Zi H];simp);unfold numAt;exact ⟨by rw[jgood];exact ⟨A,Zgd hs⟩,by omega,by omega⟩
  rw[Zf j] at h;cases h
theorem Zaq (l:List UInt8):∀(f i:Nat) (o:JO) (to_:Nat),valP l f i=some (o,to_)->jgood l.length o/\i<to_/\to_<=l.length:=by
 intro f
 induction f with
 |zero=>intro i o to_ h;have:=ZcX (L:=λ_ _=>none) (by intro _ _ _ _ h;cases h) h;have s:=X5 l i;exact ⟨this.1,by omega,this.2.2⟩
 |succ f ih=>intro i o to_ h;have:=ZcX (L:=λa o=>listP l (valP l f) a o) (λb o to_ A j=>Zfk (λi o t h=>ih i o t h) A j) h;have s:=X5 l i;exact ⟨this.1,by omega,this.2.2⟩
theorem KP {l:List UInt8} {o:JO} (h:jsonP l=some o):jgood l.length o:=by
 unfold jsonP at h;cases hv:valP l 100 (if hasAt l 0 [239,187,191] then 3 else 0) with
 |none=>rw[hv] at h;cases h
 |some p=>
  obtain ⟨v,t⟩:=p;rw[hv] at h;simp only at h;by_cases j:spAt l t<l.length
  ·rw[Zi j] at h;cases h
  ·rw[Zf j] at h;injection h with h;subst h;exact (Zaq l 100 _ _ _ hv).1
theorem Qq {l:List UInt8} {i k n:Nat} {c:UInt8} (h:hexGo l i k=some n) (j:l[i+k]? =some c) (A:hexV c<16):hexGo l i (k+1)=some (n*16+hexV c):=by
 have e:hexGo l i (k+1)=match hexGo l i k,l[i+k]? with
  |some n,some c=>if hexV c<16 then some (n*16+hexV c) else none
  |_,_=>none:=rfl
 rw[e,h,j];exact Zi A
theorem Zdo {l:List UInt8} {i k:Nat} {c:UInt8} (h:l[i+k]? =some c) (j:¬hexV c<16):hexGo l i (k+1)=none:=by
 have e:hexGo l i (k+1)=match hexGo l i k,l[i+k]? with
  |some n,some c=>if hexV c<16 then some (n*16+hexV c) else none
  |_,_=>none:=rfl
 rw[e,h];cases hexGo l i k with
 |none=>rfl
 |some n=>exact Zf j
theorem KG {l:List UInt8} {i k:Nat} (h:hexGo l i k=none):∀d,hexGo l i (k+d)=none
 |0=>h
 |d+1=>by
  have e:hexGo l i (k+(d+1))=match hexGo l i (k+d),l[i+(k+d)]? with
   |some n,some c=>if hexV c<16 then some (n*16+hexV c) else none
   |_,_=>none:=rfl
  rw[e,KG h d]
theorem ZbR {l:List UInt8} {i k m:Nat} (h:hexGo l i (k+1)=none) (j:k<m):hexGo l i m=none:=by
 have:=KG h (m - (k+1))
 rwa [show k+1+(m - (k+1))=m by omega] at this
theorem ZeR {c:UInt8} (h:48<=c.toNat/\c.toNat<=57):hexV c=c.toNat - 48:=by unfold hexV;rw[Zi h]
theorem ZeS {c:UInt8} (h:97<=c.toNat/\c.toNat<=102):hexV c=c.toNat - 97+10:=by unfold hexV;rw[Zf (by omega),Zi h]
theorem ZeT {c:UInt8} (h:65<=c.toNat/\c.toNat<=70):hexV c=c.toNat - 65+10:=by unfold hexV;rw[Zf (by omega),Zf (by omega),Zi h]
theorem Zf0 {c:UInt8} (h:¬(48<=c.toNat/\c.toNat<=57)) (j:¬(97<=c.toNat/\c.toNat<=102)) (A:¬(65<=c.toNat/\c.toNat<=70)):¬hexV c<16:=by unfold hexV;rw[Zf h,Zf j,Zf A];omega
theorem Zcy {l:List UInt8} {i:Nat} (h:¬i+6<=l.length):unitP l i=none:=by
 cases hu:unitP l i with
 |none=>rfl
 |some n=>exact absurd (Zap hu).2 h
def escN (c:Nat):Option Nat:=if c=34\/c=92\/c=47 then some c else if c=98 then some 8 else if c=102 then some 12 else if c=110 then some 10 else if c=114 then some 13 else if c=116 then some 9 else none
theorem XT {c:UInt8} {n:Nat} (j:n<256):c=UInt8.ofNat n↔c.toNat=n:=by
 constructor
 ·rintro rfl;exact YV j
 ·intro h;rw[<-h];simp
theorem Zgn {l:List UInt8} {i:Nat} {c:UInt8} (hc:l[i+1]? =some c):seqP l i=match escN c.toNat with
 |some r=>some (r,2)
 |none=>match unitP l i with
  |none=>none
  |some n=>if 55296<=n/\n<=56319 then (match unitP l (i+6) with
   |some m=>if 56320<=m/\m<=57343 then some (65536+(n - 55296)*1024+m - 56320,12) else none
   |none=>none)
   else if 56320<=n/\n<=57343 then none else some (n,6):=by
 have e:∀n:Nat,n<256->(c=UInt8.ofNat n↔c.toNat=n):=λn hn=>XT hn;have I:=e 34 (by decide);have K:=e 92 (by decide);have J:=e 47 (by decide);have O:=e 98 (by decide);have h:=e 102 (by decide);have j:=e 110 (by decide);have A:=e 114 (by decide);have C:=e 116 (by decide);have Y:(UInt8.ofNat 34)=34:=rfl;have ha:(UInt8.ofNat 92)=92:=rfl;have Z:(UInt8.ofNat 47)=47:=rfl;have hb:(UInt8.ofNat 98)=98:=rfl;have D:(UInt8.ofNat 102)=102:=rfl;have F:(UInt8.ofNat 110)=110:=rfl;have G:(UInt8.ofNat 114)=114:=rfl;have H:(UInt8.ofNat 116)=116:=rfl;rw[Y] at I;rw[ha] at K;rw[Z] at J;rw[hb] at O;rw[D] at h;rw[F] at j;rw[G] at A;rw[H] at C;unfold seqP escN;rw[hc];simp only[I,K,J,O,h,j,A,C];by_cases Q:c.toNat=34\/c.toNat=92\/c.toNat=47
 ·rw[Zi Q,Zi Q]
 ·rw[Zf Q,Zf Q];by_cases R:c.toNat=98
  ·rw[Zi R,Zi R]
  ·rw[Zf R,Zf R];by_cases S:c.toNat=102
   ·rw[Zi S,Zi S]
   ·rw[Zf S,Zf S];by_cases U:c.toNat=110
    ·rw[Zi U,Zi U]
    ·rw[Zf U,Zf U];by_cases V:c.toNat=114
     ·rw[Zi V,Zi V]
     ·rw[Zf V,Zf V];by_cases X:c.toNat=116
      ·rw[Zi X,Zi X]
      ·rw[Zf X,Zf X];rfl
theorem ZfB {l:List UInt8} {i:Nat} (h:l.length<=i+1):seqP l i=none:=by
 unfold seqP;rw[List.getElem?_eq_none h]
inductive StrS where
 |bad
 |done (out:List UInt8) (to_:Nat)
 |next (i:Nat) (out:List UInt8)
def strS (l:List UInt8) (i:Nat) (out:List UInt8):StrS:=
 if (dec (l.drop i)).2=0 then .bad
 else if (dec (l.drop i)).1<32 then .bad
 else if (dec (l.drop i)).1=34 then .done out (i+1)
 else if (dec (l.drop i)).1=92 then (match seqP l i with
  |some (r,n)=> .next (i+n) (out++encN r)
  |none=> .bad)
 else .next (i+(dec (l.drop i)).2) (out++encN (dec (l.drop i)).1)
theorem EL {l:List UInt8} {k i:Nat} {out:List UInt8} (h:strS l i out= .bad):strGo l k i out=none:=by
 cases k with
 |zero=>rfl
 |succ k=>
  unfold strS at h;unfold strGo;split at h
  ·rename_i j;rw[Zi j]
  ·rename_i j;rw[Zf j];split at h
   ·rename_i A;rw[Zi A]
   ·rename_i A;rw[Zf A];split at h
    ·cases h
    ·rename_i C;rw[Zf C];split at h
     ·rename_i D;rw[Zi D];cases hs:seqP l i with
      |none=>rfl
      |some p=>rw[hs] at h;cases h
     ·cases h
theorem Zcv {l:List UInt8} {k i to_:Nat} {out u:List UInt8} (h:strS l i out= .done u to_):strGo l (k+1) i out=some (u,to_):=by
 unfold strS at h;unfold strGo;split at h
 ·cases h
 ·rename_i j;rw[Zf j];split at h
  ·cases h
  ·rename_i A;rw[Zf A];split at h
   ·rename_i C;rw[Zi C];injection h with a b;rw[a,b]
   ·split at h
    ·split at h<;>cases h
    ·cases h
theorem Ij {l:List UInt8} {k i j:Nat} {out u:List UInt8} (h:strS l i out= .next j u):strGo l (k+1) i out=strGo l k j u:=by
 unfold strS at h;have e:strGo l (k+1) i out=if (dec (l.drop i)).2=0 then none
  else if (dec (l.drop i)).1<32 then none
  else if (dec (l.drop i)).1=34 then some (out,i+1)
  else if (dec (l.drop i)).1=92 then (match seqP l i with
   |some (r,n)=>strGo l k (i+n) (out++encN r)
   |none=>none)
  else strGo l k (i+(dec (l.drop i)).2) (out++encN (dec (l.drop i)).1):=rfl
 rw[e];split at h
 ·cases h
 ·rename_i C;rw[Zf C];split at h
  ·cases h
  ·rename_i D;rw[Zf D];split at h
   ·cases h
   ·rename_i F;rw[Zf F];split at h
    ·rename_i A;rw[Zi A];cases hs:seqP l i with
     |none=>rw[hs] at h;cases h
     |some p=>obtain ⟨r,n⟩:=p;rw[hs] at h;injection h with a b;subst a b;rfl
    ·rename_i A;injection h with a b;rw[Zf A,a,b]
theorem Zeb {l:List UInt8} {k i:Nat} {out:List UInt8} (h:l.length<=i):strGo l k i out=none:=by
 refine EL ?_;unfold strS;rw[ZB h];rfl
section
set_option linter.unusedSimpArgs false
theorem Zcs (s:ByteArray) (a:Nat) (w:World) (hs:s.size<=80000000000) (ha:a+4<=s.size):
 Calls prog 205 #[.string s,.int .i64 (a:Nat)] w λe w'=>e= .returned (.int .i64 (oi (hexGo s.data.toList a 4)))/\w'=w:=by
 obtain ⟨R,Y⟩:∃R,hexGo s.data.toList a 4=R:=⟨_,rfl⟩;rw[Y];have a2:¬(s.size:Int) - (a:Int)<4:=by omega
 have HR:=gd Y;clear Y;go_enter func205,ntmps205;go_wp2;go_loopw [5,6] (λn i wr=>∃k m:Nat,k<=4/\m<=65535/\n= .int .i64 (m:Nat)/\i= .int .i64 (k:Nat)/\Hid (hexGo s.data.toList a k=some m)/\wr=w) (λ_ i _=>4 - (intOf i).toNat)
 case atStart=>exact ⟨0,0,by omega,by omega,rfl,rfl,rfl,rfl⟩
 case round=>
  obtain ⟨k,m,hk,hm,rfl,rfl,O,rfl⟩:=hrel;by_cases I:k<4
  ·have hl:a+k<s.data.toList.length:=(by rw[Zn];omega);have j:s.data.toList[a+k]? =some (s[a+k]'(by omega)):=Zc hl;have b1:(k:Int)<4:=(by omega);obtain ⟨K,hK⟩:∃K,a+k=K:=⟨_,rfl⟩;have hd:(a:Int)+(k:Int)=(K:Int):=(by omega);have he:K<s.size:=(by omega);simp only[hK] at j;obtain ⟨c,hc⟩:∃c,s[K]=c:=⟨_,rfl⟩;rw[hc,<-hK] at j;have H:=c.toNat_lt;have b2:(0:Int)<=(K:Int):=(by omega);have b3:(K:Int)<(s.size:Int):=(by omega);obtain ⟨x,C⟩:∃x,c.toNat=x:=⟨_,rfl⟩;have hf:(s[K].toNat:Int)=(x:Int):=(by rw[hc,C]);have J:m<16 ^ k:=(KE O.out).1;have G:16 ^ (k+1)<=16 ^ 4:=Nat.pow_le_pow_right (by omega) (by omega);rw[Nat.pow_succ] at G;have A:∀v,v<16->m*16+v<=65535:=λv Q=>(by omega);have V:(48<=x/\x<=57)\/(97<=x/\x<=102)\/(65<=x/\x<=70)\/¬hexV c<16:=by
    by_cases S:48<=x/\x<=57
    ·exact Or.inl S
    ·by_cases h2:97<=x/\x<=102
     ·exact Or.inr (Or.inl h2)
     ·by_cases h3:65<=x/\x<=70
      ·exact Or.inr (Or.inr (Or.inl h3))
      ·exact Or.inr (Or.inr (Or.inr (Zf0 (by rw[C];exact S) (by rw[C];exact h2) (by rw[C];exact h3))))
   rcases V with h|h|h|h
   ·have Q:hexV c=x - 48:=(by rw[<-C];exact ZeR (by rw[C];exact h));have D:Hid (hexGo s.data.toList a (k+1)=some (m*16+(x - 48))):=(by show _=_;rw[<-Q];exact Qq O.out j (by omega));have F:=A (x - 48) (by omega);have c1:¬(x:Int)<48:=(by omega);have c2:¬57<(x:Int):=(by omega);clear O H hK j Q A G J;go_wp2;go_roundw
    case rel=>exact ⟨k+1,m*16+(x - 48),I,F,by refine Zo (Value.int .i64) ?_;omega,by go_num,D,trivial⟩
    case measure=>simp[intOf];omega
   ·have Q:hexV c=x - 97+10:=(by rw[<-C];exact ZeS (by rw[C];exact h));have D:Hid (hexGo s.data.toList a (k+1)=some (m*16+(x - 97+10))):=(by show _=_;rw[<-Q];exact Qq O.out j (by omega));have F:=A (x - 97+10) (by omega);have c0:¬(x:Int)<48:=(by omega);have X:57<(x:Int):=(by omega);have c1:¬(x:Int)<97:=(by omega);have c2:¬102<(x:Int):=(by omega);clear O H hK j Q A G J;go_wp2;go_roundw
    case rel=>exact ⟨k+1,m*16+(x - 97+10),I,F,by refine Zo (Value.int .i64) ?_;omega,by go_num,D,trivial⟩
    case measure=>simp[intOf];omega
   ·have Q:hexV c=x - 65+10:=(by rw[<-C];exact ZeT (by rw[C];exact h));have D:Hid (hexGo s.data.toList a (k+1)=some (m*16+(x - 65+10))):=(by show _=_;rw[<-Q];exact Qq O.out j (by omega));have F:=A (x - 65+10) (by omega);have c0:¬(x:Int)<48:=(by omega);have X:57<(x:Int):=(by omega);have c1:(x:Int)<97:=(by omega);have c2:¬(x:Int)<65:=(by omega);have c3:¬70<(x:Int):=(by omega);clear O H hK j Q A G J;go_wp2;go_roundw
    case rel=>exact ⟨k+1,m*16+(x - 65+10),I,F,by refine Zo (Value.int .i64) ?_;omega,by go_num,D,trivial⟩
    case measure=>simp[intOf];omega
   ·have Z:Hid (R=none):=(by show _=_;rw[<-HR.out];exact ZbR (Zdo j h) I);have hb:¬(48<=x/\x<=57)/\¬(97<=x/\x<=102)/\¬(65<=x/\x<=70):=by
     refine ⟨λS=>h ?_,λS=>h ?_,λS=>h ?_⟩
     ·rw[ZeR (by rw[C];exact S)];omega
     ·rw[ZeS (by rw[C];exact S)];omega
     ·rw[ZeT (by rw[C];exact S)];omega
    have U:(x:Int)<48/\(x:Int)<97/\(x:Int)<65\/(¬(x:Int)<48/\57<(x:Int)/\(x:Int)<97/\(x:Int)<65)\/(¬(x:Int)<48/\57<(x:Int)/\(x:Int)<97/\¬(x:Int)<65/\70<(x:Int))\/(¬(x:Int)<48/\57<(x:Int)/\¬(x:Int)<97/\102<(x:Int)/\¬(x:Int)<65/\70<(x:Int)):=(by omega);clear O H hK j A G J hb h;rcases U with ⟨c1,c2,c3⟩|⟨c1,c2,c3,c4⟩|⟨c1,c2,c3,c4,c5⟩|⟨c1,c2,c3,c4,c5,c6⟩
    all_goals go_wp2
    all_goals go_ret
    all_goals exact ⟨by rw[Z.out];rfl,rfl⟩
  ·obtain rfl:k=4:=(by omega);have Z:Hid (R=some m):=(by show _=_;rw[<-HR.out];exact O.out);go_wp2;go_ret;exact ⟨by rw[Z.out];rfl,rfl⟩
theorem GX (s:ByteArray) (a:Nat) (w:World) (Y:s.size<=80000000000) (ha:a<=90000000000):
 Calls prog 183 #[.string s,.int .i64 (a:Nat)] w λe w'=>e= .returned (.int .i64 (oi (unitP s.data.toList a)))/\w'=w:=by
 by_cases h:a+6<=s.size
 ·have a2:¬(s.size:Int) - (a:Int)<6:=by omega
  obtain ⟨j,D⟩:∃K,a+1=K:=⟨_,rfl⟩;obtain ⟨K2,F⟩:∃K,a+2=K:=⟨_,rfl⟩;have k1:(a:Int)+1=(j:Int):=by omega
  have k2:(a:Int)+2=(K2:Int):=by omega
  have U:a<s.size:=by omega
  have X:j<s.size:=by omega
  have i1:(0:Int)<=(a:Int):=by omega
  have i2:(a:Int)<(s.size:Int):=by omega
  have i3:(0:Int)<=(j:Int):=by omega
  have i4:(j:Int)<(s.size:Int):=by omega
  have I:s.data.toList[a]? =some s[a]:=Zc (by rw[Zn];exact U);have J:s.data.toList[a+1]? =some s[j]:=by rw[D];exact Zc (by rw[Zn];exact X)
  have A:unitP s.data.toList a=if s[a].toNat=92/\s[j].toNat=117 then hexGo s.data.toList K2 4 else none:=by unfold unitP;rw[I,J,F];have e1:(some s[a]=some (92:UInt8))↔s[a].toNat=92:=(by rw[ZQ];exact XT (n:=92) (by decide));have e2:(some s[j]=some (117:UInt8))↔s[j].toNat=117:=(by rw[ZQ];exact XT (n:=117) (by decide));simp only[e1,e2]
  obtain ⟨x,Q⟩:∃x,s[a].toNat=x:=⟨_,rfl⟩;obtain ⟨y,R⟩:∃y,s[j].toNat=y:=⟨_,rfl⟩;have Z:(s[a].toNat:Int)=(x:Int):=by rw[Q]
  have hb:(s[j].toNat:Int)=(y:Int):=by rw[R]
  rw[Q,R] at A;have H:=gd (λw'=>Zcs s K2 w' Y (by omega));clear I J D F h;by_cases C:x=92
  ·by_cases G:y=117
   ·rw[Zi ⟨C,G⟩] at A;rw[A];obtain ⟨V,O⟩:∃V,oi (hexGo s.data.toList K2 4)=V:=⟨_,rfl⟩;rw[O] at H|-;subst C G;clear A O;go_enter func183,ntmps183
    go_wp2_with (first|(go_at_call 205;(have S:=H.out w);(with_reducible refine Za S ?_);clear S;rintro e w1 ⟨rfl,rfl⟩))
    go_ret;exact ⟨rfl,rfl⟩
   ·rw[Zf (λe=>G e.2)] at A;rw[A];have c2:((y:Int) !=117)=true:=(by simp;omega);subst C;clear A G;go_enter func183,ntmps183;go_wp2;go_ret;exact ⟨rfl,rfl⟩
  ·rw[Zf (λe=>C e.1)] at A;rw[A];have c2:((x:Int) !=92)=true:=(by simp;omega);clear A C;go_enter func183,ntmps183;go_wp2;go_ret;exact ⟨rfl,rfl⟩
 ·rw[Zcy (by rw[Zn];exact h)];have a2:(s.size:Int) - (a:Int)<6:=by omega
  go_enter func183,ntmps183;go_wp2;go_ret;exact ⟨rfl,rfl⟩
end
section
set_option linter.unusedSimpArgs false
def seqV (o:Option (Nat×Nat)):Value:=match o with
 |some (r,n)=> .tuple #[.int .i64 (r:Nat),.int .i64 (n:Nat)]
 |none=> .tuple #[.int .i64 0,.int .i64 0]
theorem Zct (s:ByteArray) (a:Nat) (w:World) (hs:s.size<=80000000000) (ha:a+1<s.size):
 Calls prog 154 #[.string s,.int .i64 (a:Nat)] w λe w'=>e= .returned (seqV (seqP s.data.toList a))/\w'=w:=by
 obtain ⟨F,J⟩:∃K,a+1=K:=⟨_,rfl⟩;obtain ⟨S,O⟩:∃K,a+6=K:=⟨_,rfl⟩;have k1:(a:Int)+1=(F:Int):=by omega
 have k6:(a:Int)+6=(S:Int):=by omega
 have b2:F<s.size:=by omega
 have i3:(0:Int)<=(F:Int):=by omega
 have i4:(F:Int)<(s.size:Int):=by omega
 have g1:s.data.toList[a+1]? =some s[F]:=by rw[J];exact Zc (by rw[Zn];exact b2)
 have D:=Zgn g1;obtain ⟨x,hx⟩:∃x,s[F].toNat=x:=⟨_,rfl⟩;have hb:(s[F].toNat:Int)=(x:Int):=by rw[hx]
 rw[hx,O] at D;have j:=gd (λw'=>GX s a w' hs (by omega));have A:=gd (λw'=>GX s S w' hs (by omega));clear g1 J O;by_cases Z:x=34\/x=92\/x=47\/x=98\/x=102\/x=110\/x=114\/x=116
 ·have Q:∃r,escN x=some r:=by unfold escN;rcases Z with rfl|rfl|rfl|rfl|rfl|rfl|rfl|rfl<;>exact ⟨_,rfl⟩
  obtain ⟨r,I⟩:=Q;rw[I] at D;simp only at D;rw[D];clear D;rcases Z with rfl|rfl|rfl|rfl|rfl|rfl|rfl|rfl
  all_goals (obtain rfl:=Ys I;clear I)
  all_goals go_enter func154,ntmps154
  all_goals go_wp2
  all_goals go_ret2
  all_goals exact ⟨rfl,rfl⟩
 ·have Q:escN x=none:=by unfold escN;rw[Zf (by omega),Zf (by omega),Zf (by omega),Zf (by omega),Zf (by omega),Zf (by omega)]
  rw[Q] at D;simp only at D;rw[D];clear D Q;have n1:¬(x:Int)=34:=by omega
  have n2:¬(x:Int)=92:=by omega
  have n3:¬(x:Int)=47:=by omega
  have n4:¬(x:Int)=98:=by omega
  have n5:¬(x:Int)=102:=by omega
  have n6:¬(x:Int)=110:=by omega
  have n7:¬(x:Int)=114:=by omega
  have n8:¬(x:Int)=116:=by omega
  clear Z;cases hu:unitP s.data.toList a with
  |none=>
   rw[hu] at j;simp only[oi] at j;clear hu;go_enter func154,ntmps154
   go_wp2_with (first|(go_at_call 183;(have h:=j.out w);(with_reducible refine Za h ?_);clear h;rintro e w1 ⟨rfl,rfl⟩))
   go_ret2
   exact ⟨rfl,rfl⟩
  |some n=>
   rw[hu] at j;simp only[oi] at j;simp only;clear hu;obtain ⟨X,H⟩:∃X:Int,(n:Int)=X:=⟨_,rfl⟩;rw[H] at j;have HX:=gd H;by_cases G:55296<=n/\n<=56319
   ·rw[Zi G];have m1:¬X<55296:=(by omega);have m2:¬56319<X:=(by omega);cases hu2:unitP s.data.toList S with
    |none=>
     rw[hu2] at A;simp only[oi] at A;clear hu2 G H;go_enter func154,ntmps154
     go_wp2_with (first|(go_at_call 183;(have h:=j.out w);(with_reducible refine Za h ?_);clear h;rintro e w1 ⟨rfl,rfl⟩)|(go_at_call 183;(have h:=A.out w1);(with_reducible refine Za h ?_);clear h;rintro e w2 ⟨rfl,rfl⟩))
     go_ret2
     exact ⟨rfl,rfl⟩
    |some m=>
     rw[hu2] at A;simp only[oi] at A;simp only;clear hu2;obtain ⟨Y,U⟩:∃Y:Int,(m:Int)=Y:=⟨_,rfl⟩;rw[U] at A;by_cases C:56320<=m/\m<=57343
     ·rw[Zi C];obtain ⟨r,I⟩:∃r,65536+(n - 55296)*1024+m - 56320=r:=⟨_,rfl⟩;rw[I];have R:Hid (65536+(X - 55296)*1024+Y - 56320=(r:Int)):=(by show _=_;omega);have m3:¬Y<56320:=(by omega);have m4:¬57343<Y:=(by omega);have p1:0<=X:=(by omega);have p2:X<=56319:=(by omega);have p3:0<=Y:=(by omega);have p4:Y<=57343:=(by omega);clear I G C H U;go_enter func154,ntmps154
      go_wp2_with (first|(go_at_call 183;(have h:=j.out w);(with_reducible refine Za h ?_);clear h;rintro e w1 ⟨rfl,rfl⟩)|(go_at_call 183;(have h:=A.out w1);(with_reducible refine Za h ?_);clear h;rintro e w2 ⟨rfl,rfl⟩))
      go_ret2
      exact ⟨by rw[show seqV (some (r,12))= .tuple #[.int .i64 (65536+(X - 55296)*1024+Y - 56320),.int .i64 12] by rw[R.out];rfl];rfl,rfl⟩
     ·rw[Zf C];have V:Y<56320\/¬Y<56320/\57343<Y:=(by omega);clear C G H U;rcases V with c1|⟨c1,c2⟩
      all_goals go_enter func154,ntmps154
      all_goals go_wp2_with (first|(go_at_call 183;(have h:=j.out w);(with_reducible refine Za h ?_);clear h;rintro e w1 ⟨rfl,rfl⟩)|(go_at_call 183;(have h:=A.out w1);(with_reducible refine Za h ?_);clear h;rintro e w2 ⟨rfl,rfl⟩))
      all_goals go_ret2
      all_goals exact ⟨rfl,rfl⟩
   ·rw[Zf G];by_cases C:56320<=n/\n<=57343
    ·rw[Zi C];have m1:¬X<55296:=(by omega);have m2:56319<X:=(by omega);have m0:¬X<0:=(by omega);have m3:¬X<56320:=(by omega);have m4:¬57343<X:=(by omega);clear G C H;go_enter func154,ntmps154
     go_wp2_with (first|(go_at_call 183;(have h:=j.out w);(with_reducible refine Za h ?_);clear h;rintro e w1 ⟨rfl,rfl⟩))
     go_ret2
     exact ⟨rfl,rfl⟩
    ·rw[Zf C];have m0:¬X<0:=(by omega);have V:X<55296/\X<56320\/(¬X<55296/\56319<X/\¬X<56320/\57343<X):=(by omega);clear G C H;rcases V with ⟨c1,c2⟩|⟨c1,c2,c3,c4⟩
     all_goals go_enter func154,ntmps154
     all_goals go_wp2_with (first|(go_at_call 183;(have h:=j.out w);(with_reducible refine Za h ?_);clear h;rintro e w1 ⟨rfl,rfl⟩))
     all_goals go_ret2
     all_goals exact ⟨by rw[show seqV (some (n,6))= .tuple #[.int .i64 X,.int .i64 6] by rw[<-HX.out];rfl];rfl,rfl⟩
end
section
set_option linter.unusedSimpArgs false
def StrR (o:Option (List UInt8×Nat)) (e:Ending):Prop:=match o with
 |some (t,to_)=>e= .returned (.tuple #[.string (str t),.int .i64 (to_:Nat),.int .i64 0])
 |none=>∃a x:Nat,x≠0/\e= .returned (.tuple #[.string ⟨#[]⟩,.int .i64 (a:Nat),.int .i64 (x:Nat)])
theorem IX (O:ByteArray) (L:List UInt8):(O++str L).data.toList=O.data.toList++L:=by simp[str]
theorem Zgp {l:List UInt8} {i:Nat} {o:List UInt8} (h:(dec (l.drop i)).2=0):strS l i o= .bad:=by unfold strS;rw[Zi h]
theorem Zgo {l:List UInt8} {i:Nat} {o:List UInt8} (j:(dec (l.drop i)).2≠0) (h:(dec (l.drop i)).1<32):strS l i o= .bad:=by unfold strS;rw[Zf j,Zi h]
theorem Zg1 {l:List UInt8} {i:Nat} {o:List UInt8} (j:(dec (l.drop i)).2≠0) (h:(dec (l.drop i)).1=34):strS l i o= .done o (i+1):=by unfold strS;rw[Zf j,Zf (by omega),Zi h]
theorem ZgZ {l:List UInt8} {i:Nat} {o:List UInt8} (j:(dec (l.drop i)).2≠0) (h:(dec (l.drop i)).1=92):strS l i o=match seqP l i with
 |some (r,n)=> .next (i+n) (o++encN r)
 |none=> .bad:=by unfold strS;rw[Zf j,Zf (by omega),Zf (by omega),Zi h];all_goals rfl
theorem Zg0 {l:List UInt8} {i:Nat} {o:List UInt8} (h:(dec (l.drop i)).2≠0) (j:¬(dec (l.drop i)).1<32) (A:(dec (l.drop i)).1≠34) (C:(dec (l.drop i)).1≠92):strS l i o= .next (i+(dec (l.drop i)).2) (o++encN (dec (l.drop i)).1):=by
 unfold strS;rw[Zf h,Zf j,Zf A,Zf C]
theorem GW (s:ByteArray) (a:Nat) (w:World) (hs:s.size<=80000000000) (ha:a<s.size) (C:s.data.toList[a]? =some 34):
 Calls prog 109 #[.string s,.int .i64 (a:Nat)] w λe w'=>StrR (strP s.data.toList a) e/\Ext w w':=by
 have hu:s.size<=maxLen:=by unfold maxLen;omega
 have hn:s[a].toNat=34:=by rw[Zc (by rw[Zn];exact ha)] at C;injection C with C;have C:s[a]=34:=C;rw[C];rfl
 have hk:(s[a].toNat:Int)=34:=by rw[hn];rfl
 have hl:strP s.data.toList a=strGo s.data.toList (s.size+1) (a+1) []:=by unfold strP;rw[Zi C,Zn]
 rw[hl];obtain ⟨R,hR⟩:∃R,strGo s.data.toList (s.size+1) (a+1) []=R:=⟨_,rfl⟩;rw[hR];have i1:¬(a:Int)<0:=by omega
 have hv:(0:Int)<=(a:Int):=by omega
 have i2:(a:Int)<(s.size:Int):=by omega
 have i3:¬(s.size:Int)<=(a:Int):=by omega
 clear hl C hn;have Y:=gd hR;clear hR;go_enter func109,ntmps109;go_wp2;clear i1 hv i2 i3 hk;go_loopw [7,8] (λo v wr=>∃(i f:Nat) (O:ByteArray),a+1<=i/\i<=s.size/\s.size<f+i/\o= .string O/\v= .int .i64 (i:Nat)/\Hid (O.size<=i)/\Hid (strGo s.data.toList f i O.data.toList=R)/\Ext w wr) (λ_ v _=>s.size - (intOf v).toNat)
 case atStart=>exact ⟨a+1,s.size+1,noS,Zd _,ha,by omega,rfl,by go_num,Zt _,Y.out,Ext.refl _⟩
 case round=>
  obtain ⟨i,f,O,hw,hy,hf,rfl,rfl,hO,K,hx⟩:=hrel;by_cases ht:i<s.size
  ·obtain ⟨f,rfl⟩:∃g,f=g+1:=⟨f - 1,by omega⟩;have hd:=U7 s i wr ht hu;have J:=Gk (s.data.toList.drop i);rw[ZL,Zn] at J;have j:strS s.data.toList i O.data.toList= .bad->R=none:=λh=>K.out.symm.trans (EL h);have F:=Zgp (l:=s.data.toList) (i:=i) (o:=O.data.toList);have D:=Zgo (l:=s.data.toList) (i:=i) (o:=O.data.toList);have hq:=Zg1 (l:=s.data.toList) (i:=i) (o:=O.data.toList);have I:=ZgZ (l:=s.data.toList) (i:=i) (o:=O.data.toList);have X:=Zg0 (l:=s.data.toList) (i:=i) (o:=O.data.toList);have G:(dec (s.data.toList.drop i)).2≠0->scalar (dec (s.data.toList.drop i)).1/\(encN (dec (s.data.toList.drop i)).1).length=(dec (s.data.toList.drop i)).2:=λh=>(ZcI [] h).2;generalize (dec (s.data.toList.drop i)).1=r at*;generalize (dec (s.data.toList.drop i)).2=n at*;have HC:=gd hd;have hp:(i:Int)<(s.size:Int):=(by omega);clear hd;by_cases Q:n=0
   ·have V:=j (F Q);subst V;subst Q;clear F D hq I X G j K J Y
    go_wp2_with (first|(go_at_call 127;(with_reducible refine Za HC.out ?_);rintro e w2 ⟨rfl,A⟩))
    go_ret3
    exact ⟨⟨i,5,by decide,rfl⟩,hx.trans A⟩
   have n0:¬(n:Int)=0:=(by omega);by_cases Z:r<32
   ·have V:=j (D Q Z);subst V;have r1:(r:Int)<32:=(by omega);clear F D hq I X G j K J Q Z Y
    go_wp2_with (first|(go_at_call 127;(with_reducible refine Za HC.out ?_);rintro e w2 ⟨rfl,A⟩))
    go_ret3
    exact ⟨⟨i,6,by decide,rfl⟩,hx.trans A⟩
   have r1:¬(r:Int)<32:=(by omega);by_cases h2:r=34
   ·have V:=K.out.symm.trans (Zcv (hq Q h2));subst V;subst h2;clear F D hq I X G j K J Q Z Y r1
    go_wp2_with (first|(go_at_call 127;(with_reducible refine Za HC.out ?_);rintro e w2 ⟨rfl,A⟩))
    go_ret3
    refine ⟨?_,hx.trans A⟩;show _=_;rw[GB]
    first|rfl|(refine Zo (λt=>Ending.returned (.tuple #[.string O,.int .i64 t,.int .i64 0])) ?_;omega)
   have r2:¬(r:Int)=34:=(by omega);by_cases h3:r=92
   ·replace I:=I Q h3
    subst h3;by_cases h4:i+1<s.size
    ·have HQ:=gd (λw'=>Zct s i w' hs h4);have i9:¬(i:Int)+1=(s.size:Int):=(by omega);cases hsq:seqP s.data.toList i with
     |none=>
      rw[hsq] at I HQ;have V:=j I;subst V;clear F D hq I X G j K J Q Z h2 Y r1 r2 hsq
      go_wp2_with (first|(go_at_call 127;(with_reducible refine Za HC.out ?_);rintro e w2 ⟨rfl,A⟩)|(go_at_call 154;(with_reducible refine Za (HQ.out _) ?_);rintro e w3 ⟨rfl,rfl⟩;simp only[seqV]))
      go_ret3
      exact ⟨⟨i,16,by decide,rfl⟩,hx.trans A⟩
     |some p=>
      obtain ⟨q,m⟩:=p;obtain ⟨U,S,hz,hm⟩:=ZfC hsq;rw[Zn] at hm;rw[hsq] at I HQ;have H:=gd ((Ij I).symm.trans K.out);have HE:=gd (λw'=>UM q w' (by unfold scalar at U;omega));obtain ⟨L,hL⟩:∃L,encN q=L:=⟨_,rfl⟩;rw[hL] at HE H S;have hi:(str L).size=L.length:=(by rw[<-Zn,Yz]);have ho:=hO.out;have m0:¬(m:Int)=0:=(by omega);have HN:Hid (strGo s.data.toList f (i+m) (O++str L).data.toList=R):=(by show _=_;rw[IX];exact H.out);have hh:Hid ((O++str L).size<=i+m):=(by show _<=_;rw[ByteArray.size_append,hi];omega);have g1:¬9223372036854775807<O.size+L.length:=(by omega);have g2:¬9223372036854775807<O.size+(str L).size:=(by omega);clear F D hq I X G j K J Q Z h2 Y r1 r2 hsq U S H hL
      go_wp2_with (first|(go_at_call 127;(with_reducible refine Za HC.out ?_);rintro e w2 ⟨rfl,A⟩)|(go_at_call 154;(with_reducible refine Za (HQ.out _) ?_);rintro e w3 ⟨rfl,rfl⟩;simp only[seqV])|(go_at_call 155;(with_reducible refine Za (HE.out _) ?_);rintro e w4 ⟨rfl,hj⟩))
      go_roundw
      case rel=>exact ⟨i+m,f,O++str L,by omega,hm,by omega,rfl,by go_num,hh,HN,(hx.trans A).trans hj⟩
      case measure=>simp[intOf];omega
    ·have he:=ZfB (l:=s.data.toList) (i:=i) (by rw[Zn];omega);rw[he] at I;have V:=j I;subst V;have i9:(i:Int)+1=(s.size:Int):=(by omega);clear F D hq I X G j K J Q Z h2 Y r1 r2 he
     go_wp2_with (first|(go_at_call 127;(with_reducible refine Za HC.out ?_);rintro e w2 ⟨rfl,A⟩))
     go_ret3
     exact ⟨⟨a,8,by decide,rfl⟩,hx.trans A⟩
   ·replace X:=X Q Z h2 h3
    obtain ⟨U,S⟩:=G Q;have H:=gd ((Ij X).symm.trans K.out);have HE:=gd (λw'=>UM r w' (by unfold scalar at U;omega));obtain ⟨L,hL⟩:∃L,encN r=L:=⟨_,rfl⟩;rw[hL] at HE H S;have hi:(str L).size=L.length:=(by rw[<-Zn,Yz]);have ho:=hO.out;have r3:¬(r:Int)=92:=(by omega);have HN:Hid (strGo s.data.toList f (i+n) (O++str L).data.toList=R):=(by show _=_;rw[IX];exact H.out);have hh:Hid ((O++str L).size<=i+n):=(by show _<=_;rw[ByteArray.size_append,hi];omega);have g1:¬9223372036854775807<O.size+L.length:=(by omega);have g2:¬9223372036854775807<O.size+(str L).size:=(by omega);clear F D hq I X G j K Z h2 h3 Y U S H hL
    go_wp2_with (first|(go_at_call 127;(with_reducible refine Za HC.out ?_);rintro e w2 ⟨rfl,A⟩)|(go_at_call 155;(with_reducible refine Za (HE.out _) ?_);rintro e w4 ⟨rfl,hj⟩))
    go_roundw
    case rel=>exact ⟨i+n,f,O++str L,by omega,by omega,by omega,rfl,by go_num,hh,HN,(hx.trans A).trans hj⟩
    case measure=>simp[intOf];omega
  ·have V:=K.out.symm.trans (Zeb (by rw[Zn];omega));subst V;have hp:¬(i:Int)<(s.size:Int):=(by omega);clear K Y;go_wp2
   go_ret3
   exact ⟨⟨a,8,by decide,rfl⟩,hx⟩
end
section
set_option linter.unusedSimpArgs false
theorem Ji (s t:ByteArray) (k:Nat) (w:World) (D:s.size<=maxLen) (C:k<=maxLen) (G:t.size<=maxLen) (I:0<t.size):
 Calls prog 63 #[.string s,.int .i64 (k:Nat),.string t] w λe w'=>e= .returned (.bool (hasAt s.data.toList k t.data.toList))/\w'=w:=by
 unfold maxLen at D C G;by_cases h:k+t.size<=s.size
 ·have j:(t.size:Int)<=(s.size:Int) - (k:Int):=by omega
  have A:(0:Int)<=(k:Int):=by omega
  have F:=λH=>ZfE s k t.size (t.size:Int) rfl h H;go_enter func63,ntmps63;go_wp2;go_ret;refine ⟨?_,rfl⟩;rw[ZeO,<-Zn t,<-XI,Zn,<-UA];rfl
 ·have j:¬(t.size:Int)<=(s.size:Int) - (k:Int):=by omega
  have A:(0:Int)<=(k:Int):=by omega
  have e:hasAt s.data.toList k t.data.toList=false:=ZbP (by rw[Zn,Zn];omega) (λe=>by have:=Zo List.length e;rw[Zn,ZF] at this;omega);rw[e];go_enter func63,ntmps63;go_wp2;go_ret;exact ⟨rfl,rfl⟩
theorem XC (s:ByteArray) (k:Nat) (w:World) (U:s.size<=80000000000) (O:k<=s.size):
 Calls prog 65 #[.string s,.int .i64 (k:Nat)] w λe w'=>e= .returned (.int .i64 (spAt s.data.toList k:Nat))/\w'=w:=by
 obtain ⟨R,G⟩:∃R,spAt s.data.toList k=R:=⟨_,rfl⟩;rw[G];go_enter func65,ntmps65;go_wp2;go_loopw [1] (λv Q=>∃j:Nat,j<=s.size/\v= .int .i64 j/\Hid (spAt s.data.toList j=R)/\Q=w) (λv _=>s.size - (intOf v).toNat)
 case atStart=>exact ⟨k,O,rfl,gd G,rfl⟩
 case round=>
  obtain ⟨j,S,rfl,A,rfl⟩:=hrel;by_cases C:j<s.size
  ·have J:(0:Int)<=(j:Int):=(by omega);have K:(j:Int)<(s.size:Int):=(by omega);have H:j<s.data.toList.length:=(by rw[Zn];exact C);have D:s.data.toList[j]=s[j]:=(by rfl);cases hsp:isSp (s[j].toNat) with
   |true=>
    have I:=gd ((Zd9 H (by rw[D];exact hsp)).symm.trans A.out);clear A
    go_wp2_with (first|(go_at_call 113;(with_reducible refine Za (Xt _ _) ?_);rintro e w2 ⟨rfl,rfl⟩))
    go_roundw
    case rel=>exact ⟨j+1,C,by go_num,I,by trivial⟩
    case measure=>simp[intOf];omega
   |false=>
    have h:=(Zea H (by rw[D];exact hsp)).symm.trans A.out;subst h;clear A
    go_wp2_with (first|(go_at_call 113;(with_reducible refine Za (Xt _ _) ?_);rintro e w2 ⟨rfl,rfl⟩))
    go_ret;exact ⟨rfl,rfl⟩
  ·have F:j=s.size:=(by omega);have h:=(ZfF (s:=s.data.toList) (k:=j) (by rw[Zn];omega)).symm.trans A.out;subst h;clear A;subst F;go_wp2;go_ret;exact ⟨rfl,rfl⟩
def BadR (e:Ending):Prop:=∃a x:Nat,x≠0/\e= .returned (.agg #[.int .i64 0,.bool false,.int .i64 0,.string ⟨#[]⟩,.slice none 0 0,.slice none 0 0,.int .i64 0,.int .i64 (a:Nat),.int .i64 (x:Nat)])
theorem Z0:(prog.info? 109).map (λi=>i.size)=some 9:=by kernel_rfl
theorem Xq:(prog.info? 25).map (λi=>i.size)=some 7:=by kernel_rfl
theorem Ju (s:ByteArray) (a:Nat) (w:World):Calls prog 107 #[.string s,.int .i64 (a:Nat)] w λe w'=>BadR e/\Ext w w':=by
 by_cases h:s.size<=a
 ·have j:(s.size:Int)<=(a:Int):=by omega
  go_enter func107,ntmps107;go_wp2;((try simp only[Exit.inBlock,Exit.then]);refine Zm (Zz rfl _ _ _ _ _ _ _ rfl (Zh _ _) underlying109 rfl rfl) rfl ?_);exact ⟨⟨s.size,8,by decide,rfl⟩,(Ext.refl w).alloc _⟩
 ·have j:¬(s.size:Int)<=(a:Int):=by omega
  go_enter func107,ntmps107;go_wp2;((try simp only[Exit.inBlock,Exit.then]);refine Zm (Zz rfl _ _ _ _ _ _ _ rfl (Zh _ _) underlying109 rfl rfl) rfl ?_);exact ⟨⟨a,7,by decide,rfl⟩,(Ext.refl w).alloc _⟩
theorem Qp (w:World) (A B:Obj):((w.alloc A).alloc B).heap[w.heap.size+1]? =some B:=by
 have:=Zh (w.alloc A) B
 rwa [Zp] at this
theorem JF {K n a x y:Int} {k:Bool} {s:ByteArray} {A B:Option Addr} {p c q d:Nat}:(#[Value.int .i64 K,.bool k,.int .i64 n,.string s,.slice A p c,.slice B q d,.int .i64 a,.int .i64 x,.int .i64 y]).all (λu=>u.oneCell')=true:=by simp[Value.oneCell']
def WordR (h k:Bool) (K:Int) (a n:Nat) (e:Ending):Prop:=if h then e= .returned (.agg #[.int .i64 K,.bool k,.int .i64 0,.string ⟨#[]⟩,.slice none 0 0,.slice none 0 0,.int .i64 (a:Nat),.int .i64 (n:Nat),.int .i64 0]) else BadR e
theorem Gu (s t:ByteArray) (a:Nat) (K:Int) (k:Bool) (w:World) (O:s.size<=80000000000) (J:a<=s.size) (Q:t.size<=10) (H:0<t.size):
 Calls prog 108 #[.string s,.int .i64 (a:Nat),.string t,.agg #[.int .i64 K,.bool k,.int .i64 0,.string ⟨#[]⟩,.slice none 0 0,.slice none 0 0,.int .i64 0]] w λe w'=>WordR (hasAt s.data.toList a t.data.toList) k K a (a+t.size) e/\Ext w w':=by
 have D:=gd (λw'=>Ji s t a w' (by unfold maxLen;omega) (by unfold maxLen;omega) (by unfold maxLen;omega) H);obtain ⟨n,G⟩:∃n,a+t.size=n:=⟨_,rfl⟩;rw[G];have I:(a:Int)+(t.size:Int)=(n:Int):=by omega
 clear G;have h:=λA B=>Qp w A B;cases hh:hasAt s.data.toList a t.data.toList with
 |true=>
  rw[hh] at D;clear hh;go_enter func108,ntmps108
  go_wp2_with (first|(go_at_call 63;(with_reducible refine Za (D.out _) ?_);rintro e w2 ⟨rfl,rfl⟩))
  ((try simp only[Exit.inBlock,Exit.then]);refine Zm (Zz rfl _ _ _ _ _ _ _ rfl (h _ _) underlying109 rfl Z0) rfl ?_);exact ⟨rfl,((Ext.refl w).alloc _).alloc _⟩
 |false=>
  rw[hh] at D;clear hh;go_enter func108,ntmps108
  go_wp2_with (first|(go_at_call 63;(with_reducible refine Za (D.out _) ?_);rintro e w2 ⟨rfl,rfl⟩)|(refine Zg rfl 109 (.tmp 8) (.tmp 16) rfl (w.heap.size+1) _ rfl rfl _ _ j Z0 rfl JF ?_)|(go_at_call 107;(with_reducible refine Za (Ju _ _ _) ?_);rintro e R ⟨⟨b,x,F,rfl⟩,C⟩;have j:=C.heap (h _ _)))
  ((try simp only[Exit.inBlock,Exit.then]);refine Zm (Zz rfl _ _ _ _ _ _ _ rfl (Zk _ _ _ _ _ _ j) underlying109 rfl rfl) rfl ?_);exact ⟨⟨b,x,F,rfl⟩,((((Ext.refl w).alloc _).alloc _).trans C).setRow (ZM _) _⟩
theorem Zab (c:UInt8) (w:World):Calls prog 111 #[.int .u8 (c.toNat:Nat)] w λe w'=>e= .returned (.bool (numeric c))/\w'=w:=by
 have F:numeric c=(decide (48<=c.toNat/\c.toNat<=57)||decide (c.toNat=43)||decide (c.toNat=45)||decide (c.toNat=46)||decide (c.toNat=101)||decide (c.toNat=69)):=by
  unfold numeric isDg;have e:∀n:Nat,n<256->(c==UInt8.ofNat n)=decide (c.toNat=n):=λn F=>by rw[Xf,beq_iff_eq,decide_eq_true_iff];exact XT F
  rw[show (43:UInt8)=UInt8.ofNat 43 from rfl,show (45:UInt8)=UInt8.ofNat 45 from rfl,show (46:UInt8)=UInt8.ofNat 46 from rfl,show (101:UInt8)=UInt8.ofNat 101 from rfl,show (69:UInt8)=UInt8.ofNat 69 from rfl];rw[e 43 (by decide),e 45 (by decide),e 46 (by decide),e 101 (by decide),e 69 (by decide)]
 rw[F];obtain ⟨x,H⟩:∃x,c.toNat=x:=⟨_,rfl⟩;rw[H];clear F H;have I:(¬(x:Int)<48/\¬57<(x:Int))\/((x:Int)<48\/¬(x:Int)<48/\57<(x:Int)):=by omega
 by_cases j:x=43
 ·subst j;go_enter func111,ntmps111;go_wp2;go_ret;exact ⟨rfl,rfl⟩
 by_cases A:x=45
 ·subst A;go_enter func111,ntmps111;go_wp2;go_ret;exact ⟨rfl,rfl⟩
 by_cases C:x=46
 ·subst C;go_enter func111,ntmps111;go_wp2;go_ret;exact ⟨rfl,rfl⟩
 by_cases h:x=101
 ·subst h;go_enter func111,ntmps111;go_wp2;go_ret;exact ⟨rfl,rfl⟩
 by_cases D:x=69
 ·subst D;go_enter func111,ntmps111;go_wp2;go_ret;exact ⟨rfl,rfl⟩
 have J:((x:Int)==43)=false:=by rw[ZV];omega
 have K:((x:Int)==45)=false:=by rw[ZV];omega
 have O:((x:Int)==46)=false:=by rw[ZV];omega
 have Q:((x:Int)==101)=false:=by rw[ZV];omega
 have R:((x:Int)==69)=false:=by rw[ZV];omega
 have G:(decide (48<=x/\x<=57)||decide (x=43)||decide (x=45)||decide (x=46)||decide (x=101)||decide (x=69))=decide (48<=x/\x<=57):=by simp[j,A,C,h,D]
 rw[G];clear G;rcases I with ⟨c1,c2⟩|c1|⟨c1,c2⟩
 ·rw[Yg (show 48<=x/\x<=57 by omega)];clear j A C h D;go_enter func111,ntmps111;go_wp2;go_ret;exact ⟨by refine Zo (λb=>Ending.returned (Value.bool b)) ?_;first|rfl|(simp;omega),rfl⟩
 ·rw[Ya (show ¬(48<=x/\x<=57) by omega)];go_enter func111,ntmps111;go_wp2;go_ret;exact ⟨by refine Zo (λb=>Ending.returned (Value.bool b)) ?_;first|rfl|(simp;omega),rfl⟩
 ·rw[Ya (show ¬(48<=x/\x<=57) by omega)];go_enter func111,ntmps111;go_wp2;go_ret;exact ⟨by refine Zo (λb=>Ending.returned (Value.bool b)) ?_;first|rfl|(simp;omega),rfl⟩
end
section
set_option linter.unusedSimpArgs false
theorem Zd6 (s:ByteArray) (a b:Nat) (A B:Int) (C:A=a) (D:B=b) (h:a<=b) (F:b<=s.size) (j:World):
 (Instr.slice 9 (.string s) (some (.int .i64 A)) (some (.int .i64 B)) none).run prog j= .ok (.string (s.extract a b)) j:=by
 subst C D;rw[run_slice_string (P:=prog) (w:=j) 9 s .i64 .i64 _ _ underlying9 (by omega) (by omega) (by omega)];rw[show ((a:Nat):Int).toNat=a by omega,show ((b:Nat):Int).toNat=b by omega]
theorem Zbv (s:ByteArray) (a:Nat) (A:Int) (j:A=a) (C:a<=s.size) (h:World):
 (Instr.slice 9 (.string s) (some (.int .i64 A)) none none).run prog h= .ok (.string (s.extract a s.size)) h:=by
 subst j;rw[run_slice_string_l (P:=prog) (w:=h) 9 s underlying9 .i64 _ (by omega) (by omega)];rw[show ((a:Nat):Int).toNat=a by omega]
theorem ZaI (s:ByteArray) (a:Nat) (h:a<=s.size):(s.extract a s.size).data.toList=s.data.toList.drop a:=by
 have:=XI s a (s.size - a);rw[show a+(s.size - a)=s.size by omega] at this;rw[this,ZC (by rw[ZL,Zn];omega)]
theorem Ef (c:UInt8) (t:List UInt8) (u:Nat):decV (c::t) u=if isDg c then decV t (u*10+(c.toNat - 48)) else none:=rfl
def numD (neg:Bool) (D:List UInt8):Option Int:=
 if D= []\/19<D.length\/(1<D.length/\D.head? =some 48) then none
 else match decV D 0 with
  |none=>none
  |some u=>if neg then (if u<=9223372036854775808 then some (-(u:Int)) else none) else if u<9223372036854775808 then some (u:Int) else none
theorem Zfo {s:List UInt8} (h:¬s.head? =some 45):numV s=numD false s:=by
 unfold numV numD;simp only[Zf h];rfl
theorem Zfn {s:List UInt8} (h:s.head? =some 45):numV s=numD true s.tail:=by
 unfold numV numD;simp only[Zi h];rfl
theorem Vw {neg:Bool} {D:List UInt8} (h:D= []\/19<D.length\/(1<D.length/\D.head? =some 48)):numD neg D=none:=by unfold numD;rw[Zi h]
theorem Ey {neg:Bool} {D:List UInt8} (h:¬(D= []\/19<D.length\/(1<D.length/\D.head? =some 48))):numD neg D=match decV D 0 with
 |none=>none
 |some u=>if neg then (if u<=9223372036854775808 then some (-(u:Int)) else none) else if u<9223372036854775808 then some (u:Int) else none:=by unfold numD;rw[Zf h]
theorem Zfl {M:Int} (h:0<=M) (j:M<=9223372036854775808):wrap64 (IntKind.u64.wrap (-M))= -M:=by
 simp only[wrap64,IntKind.wrap,IntKind.bits,IntKind.signed];simp;omega
def NumR (o:Option Int) (e:Ending):Prop:=match o with
 |some n=>e= .returned (.tuple #[.int .i64 n,.bool true])
 |none=>∃x:Int,e= .returned (.tuple #[.int .i64 x,.bool false])
theorem QZ {s:ByteArray} (h:0<s.size):s.data.toList.head? =some s[0]:=by
 rw[List.head?_eq_getElem?];exact Zc (by rw[Zn];exact h)
theorem ZaV (s:ByteArray) (w:World) (hs:s.size<=80000000000) (h0:0<s.size) (K:¬s[0].toNat=45):
 Calls prog 112 #[.string s] w λe w'=>NumR (numD false s.data.toList) e/\w'=w:=by
 have ht:s.toList.isEmpty=false:=XS (λe=>by rw[e] at h0;exact absurd h0 (by decide));have i0:(0:Int)<(s.size:Int):=by omega
 obtain ⟨x,hx⟩:∃x,s[0].toNat=x:=⟨_,rfl⟩;have hv:(s[0].toNat:Int)=(x:Int):=by rw[hx]
 rw[hx] at K;have ho:¬(x:Int)=45:=by omega
 have I:=QZ h0;have C:¬s.data.toList= []:=λe=>by have:=Zo List.length e;rw[Zn,ZF] at this;omega
 by_cases F:19<s.size
 ·rw[Vw (Or.inr (Or.inl (by rw[Zn];exact F)))];have hj:(19:Int)<(s.size:Int):=by omega
  clear K I C F;go_enter func112,ntmps112;go_wp2
  go_ret2
  exact ⟨⟨_,rfl⟩,rfl⟩
 have hj:¬(19:Int)<(s.size:Int):=by omega
 by_cases G:1<s.size/\x=48
 ·have hb:s.data.toList.head? =some 48:=by rw[I];exact Zo some ((XT (n:=48) (by decide)).2 (by rw[hx];exact G.2))
  rw[Vw (Or.inr (Or.inr ⟨by rw[Zn];exact G.1,hb⟩))];have j1:(1:Int)<(s.size:Int):=by omega
  obtain ⟨-,rfl⟩:=G;clear K I C F hb;go_enter func112,ntmps112;go_wp2
  go_ret2
  exact ⟨⟨_,rfl⟩,rfl⟩
 have O:¬(s.data.toList= []\/19<s.data.toList.length\/(1<s.data.toList.length/\s.data.toList.head? =some 48)):=by
  rintro (h|h|⟨h1,h2⟩)
  ·exact C h
  ·rw[Zn] at h;exact F h
  ·rw[Zn] at h1;refine G ⟨h1,?_⟩;rw[I] at h2;injection h2 with h2;rw[<-hx,h2];rfl
 obtain ⟨V,hV⟩:∃V,numD false s.data.toList=V:=⟨_,rfl⟩;rw[hV];have HG:=gd (hV.symm.trans (Ey (neg:=false) O));clear hV;have hq:s.size<=19:=by omega
 have hg:¬(1:Int)<(s.size:Int)\/((1:Int)<(s.size:Int)/\¬(x:Int)=48):=by omega
 clear K I C F O G hs;obtain ⟨R,hR⟩:∃R,decV s.data.toList 0=R:=⟨_,rfl⟩;have U:=gd hR;clear hR;rcases hg with j1|⟨j1,hz⟩
 all_goals (
  go_enter func112,ntmps112
  go_wp2
  go_loopw [5,6] (λu i wr=>∃(k m:Nat) (M:Int),k<=s.size/\u= .int .u64 M/\i= .int .i64 (k:Nat)/\Hid ((m:Int)=M)/\Hid (m<10 ^ k)/\Hid (decV (s.data.toList.drop k) m=R)/\wr=w) (λ_ i _=>s.size - (intOf i).toNat)
  case atStart=>exact ⟨0,0,0,Zt _,rfl,rfl,rfl,Nat.one_pos,U.out,rfl⟩
  case round=>
   obtain ⟨k,m,M,hk,rfl,rfl,D,X,Z,rfl⟩:=hrel
   by_cases ha:k<s.size
   ·have hl:k<s.data.toList.length:=(by rw[Zn];exact ha)
    have A:decV (s.data.toList.drop k) m=if isDg s[k] then decV (s.data.toList.drop (k+1)) (m*10+(s[k].toNat - 48)) else none:=by
     rw[Zx hl,Ef]
     rfl
    rw[Z.out] at A
    have S:isDg s[k]=decide (48<=s[k].toNat/\s[k].toNat<=57):=rfl
    obtain ⟨y,hy⟩:∃y,s[k].toNat=y:=⟨_,rfl⟩
    have hw:(s[k].toNat:Int)=(y:Int):=(by rw[hy])
    rw[S,hy] at A
    have b1:(k:Int)<(s.size:Int):=(by omega)
    have b2:(0:Int)<=(k:Int):=(by omega)
    by_cases hd:48<=y/\y<=57
    ·rw[Yg hd,Zi rfl] at A
     have HN:Hid (decV (s.data.toList.drop (k+1)) (m*10+(y - 48))=R):=A.symm
     have hc:m*10+(y - 48)<10 ^ (k+1):=(by have:=X.out;rw[Nat.pow_succ];omega)
     have he:10 ^ (k+1)<=10 ^ 19:=Nat.pow_le_pow_right (by omega) (by omega)
     have J:(10:Nat) ^ 19=10000000000000000000:=(by decide)
     have j:=D.out
     have hh:=gd hc
     have c1:¬(y:Int)<48:=(by omega)
     have c2:¬57<(y:Int):=(by omega)
     have d1:0<=M:=(by omega)
     have d2:M*10<=9999999999999999999:=(by omega)
     have d3:M*10+((y:Int) - 48)<=9999999999999999999:=(by omega)
     have hi:Hid (((m*10+(y - 48):Nat):Int)=M*10+((y:Int) - 48)):=(by show _=_;omega)
     clear A S X Z D j he J hc hd
     go_wp2
     go_roundw
     case rel=>exact ⟨k+1,m*10+(y - 48),M*10+((y:Int) - 48),ha,by first|rfl|(refine Zo (Value.int .u64) ?_;omega),by go_num,hi,hh,HN,trivial⟩
     case measure=>simp[intOf];omega
    ·rw[Ya hd,Zf (by decide)] at A
     have Y:V=none:=(by rw[HG.out,U.out,A])
     subst Y
     have Q:(y:Int)<48\/(¬(y:Int)<48/\57<(y:Int)):=(by omega)
     clear A S X Z D hd HG U
     rcases Q with c1|⟨c1,c2⟩
     ·go_wp2
      go_ret2
      exact ⟨⟨_,rfl⟩,rfl⟩
     ·go_wp2
      go_ret2
      exact ⟨⟨_,rfl⟩,rfl⟩
   ·have hr:k=s.size:=(by omega)
    have b1:¬(k:Int)<(s.size:Int):=(by omega)
    have H:decV s.data.toList 0=some m:=by
     rw[U.out,<-Z.out,ZB (by rw[Zn];omega)]
     rfl
    have Y:V=if m<9223372036854775808 then some (m:Int) else none:=by
     rw[HG.out,H]
     rfl
    have j:=D.out
    have d1:0<=M:=(by omega)
    have hf:10 ^ k<=10 ^ 19:=Nat.pow_le_pow_right (by omega) (by omega)
    have J:(10:Nat) ^ 19=10000000000000000000:=(by decide)
    have d2:M<=9999999999999999999:=(by have:=X.out;omega)
    by_cases hu:m<9223372036854775808
    ·rw[Zi hu,j] at Y
     subst Y
     have c1:M<9223372036854775808:=(by omega)
     have c2:M<=9223372036854775807:=(by omega)
     clear X Z D j H hu HG U hf J
     go_wp2
     go_ret2
     exact ⟨by first|rfl|(show _=_;refine Zo (λt=>Ending.returned (.tuple #[.int .i64 t,.bool true])) ?_;omega),rfl⟩
    ·rw[Zf hu] at Y
     subst Y
     have c1:¬M<9223372036854775808:=(by omega)
     clear X Z D j H hu HG U hf J
     go_wp2
     go_ret2
     exact ⟨⟨_,rfl⟩,rfl⟩)
theorem ZaU (s:ByteArray) (w:World) (hs:s.size<=80000000000) (h0:0<s.size) (hq:s[0].toNat=45):
 Calls prog 112 #[.string s] w λe w'=>NumR (numD true s.data.toList.tail) e/\w'=w:=by
 have hC:s.toList.isEmpty=false:=XS (λe=>by rw[e] at h0;exact absurd h0 (by decide));have i0:(0:Int)<(s.size:Int):=by omega
 have hw:(s[0].toNat:Int)=45:=by omega
 have ht:=λwx=>Zbv s 1 1 rfl h0 wx;have O:=ZaI s 1 h0;obtain ⟨d,U⟩:∃d,s.extract 1 s.size=d:=⟨_,rfl⟩;rw[U] at O ht;have ha:d.size+1=s.size:=by have:=Zo List.length O;rw[Zn,ZL,Zn] at this;omega
 rw[show s.data.toList.tail=d.data.toList by rw[O];exact List.drop_one.symm];have hz:(d.size:Int)<(s.size:Int):=by omega
 clear U O hq hs;by_cases K:0<d.size
 case neg=>
  have X:d=noS:=Xi (ZI (by rw[Zn];omega));have hr:d.toList.isEmpty=true:=by rw[X];exact Xo []
  rw[Vw (Or.inl (by rw[X];rfl))];clear X K ha;go_enter func112,ntmps112;go_wp2
  go_ret2
  exact ⟨⟨_,rfl⟩,rfl⟩
 have hr:d.toList.isEmpty=false:=XS (λe=>by rw[e] at K;exact absurd K (by decide));have e0:(0:Int)<(d.size:Int):=by omega
 clear ha;obtain ⟨x,hx⟩:∃x,d[0].toNat=x:=⟨_,rfl⟩;have hD:(d[0].toNat:Int)=(x:Int):=by rw[hx]
 have I:=QZ K;have C:¬d.data.toList= []:=λe=>by have:=Zo List.length e;rw[Zn,ZF] at this;omega
 by_cases F:19<d.size
 ·rw[Vw (Or.inr (Or.inl (by rw[Zn];exact F)))];have hv:(19:Int)<(d.size:Int):=by omega
  clear I C F;go_enter func112,ntmps112;go_wp2
  go_ret2
  exact ⟨⟨_,rfl⟩,rfl⟩
 have hv:¬(19:Int)<(d.size:Int):=by omega
 by_cases G:1<d.size/\x=48
 ·have hb:d.data.toList.head? =some 48:=by rw[I];exact Zo some ((XT (n:=48) (by decide)).2 (by rw[hx];exact G.2))
  rw[Vw (Or.inr (Or.inr ⟨by rw[Zn];exact G.1,hb⟩))];have j1:(1:Int)<(d.size:Int):=by omega
  obtain ⟨-,rfl⟩:=G;clear I C F hb;go_enter func112,ntmps112;go_wp2
  go_ret2
  exact ⟨⟨_,rfl⟩,rfl⟩
 have Q:¬(d.data.toList= []\/19<d.data.toList.length\/(1<d.data.toList.length/\d.data.toList.head? =some 48)):=by
  rintro (h|h|⟨h1,h2⟩)
  ·exact C h
  ·rw[Zn] at h;exact F h
  ·rw[Zn] at h1;refine G ⟨h1,?_⟩;rw[I] at h2;injection h2 with h2;rw[<-hx,h2];rfl
 obtain ⟨V,hV⟩:∃V,numD true d.data.toList=V:=⟨_,rfl⟩;rw[hV];have HG:=gd (hV.symm.trans (Ey (neg:=true) Q));clear hV;have hA:d.size<=19:=by omega
 have hh:¬(1:Int)<(d.size:Int)\/((1:Int)<(d.size:Int)/\¬(x:Int)=48):=by omega
 clear I C F Q G;obtain ⟨R,hR⟩:∃R,decV d.data.toList 0=R:=⟨_,rfl⟩;have Z:=gd hR;clear hR;rcases hh with j1|⟨j1,hF⟩
 all_goals (
  go_enter func112,ntmps112
  go_wp2
  go_loopw [5,6] (λu i wr=>∃(k m:Nat) (M:Int),k<=d.size/\u= .int .u64 M/\i= .int .i64 (k:Nat)/\Hid ((m:Int)=M)/\Hid (m<10 ^ k)/\Hid (decV (d.data.toList.drop k) m=R)/\wr=w) (λ_ i _=>d.size - (intOf i).toNat)
  case atStart=>exact ⟨0,0,0,Zt _,rfl,rfl,rfl,Nat.one_pos,Z.out,rfl⟩
  case round=>
   obtain ⟨k,m,M,hk,rfl,rfl,D,hm,hp,rfl⟩:=hrel
   by_cases hc:k<d.size
   ·have hl:k<d.data.toList.length:=(by rw[Zn];exact hc)
    have A:decV (d.data.toList.drop k) m=if isDg d[k] then decV (d.data.toList.drop (k+1)) (m*10+(d[k].toNat - 48)) else none:=by
     rw[Zx hl,Ef]
     rfl
    rw[hp.out] at A
    have Y:isDg d[k]=decide (48<=d[k].toNat/\d[k].toNat<=57):=rfl
    obtain ⟨y,hy⟩:∃y,d[k].toNat=y:=⟨_,rfl⟩
    have hE:(d[k].toNat:Int)=(y:Int):=(by rw[hy])
    rw[Y,hy] at A
    have b1:(k:Int)<(d.size:Int):=(by omega)
    have b2:(0:Int)<=(k:Int):=(by omega)
    by_cases U:48<=y/\y<=57
    ·rw[Yg U,Zi rfl] at A
     have HN:Hid (decV (d.data.toList.drop (k+1)) (m*10+(y - 48))=R):=A.symm
     have he:m*10+(y - 48)<10 ^ (k+1):=(by have:=hm.out;rw[Nat.pow_succ];omega)
     have hf:10 ^ (k+1)<=10 ^ 19:=Nat.pow_le_pow_right (by omega) (by omega)
     have J:(10:Nat) ^ 19=10000000000000000000:=(by decide)
     have j:=D.out
     have hi:=gd he
     have c1:¬(y:Int)<48:=(by omega)
     have c2:¬57<(y:Int):=(by omega)
     have d1:0<=M:=(by omega)
     have d2:M*10<=9999999999999999999:=(by omega)
     have d3:M*10+((y:Int) - 48)<=9999999999999999999:=(by omega)
     have hj:Hid (((m*10+(y - 48):Nat):Int)=M*10+((y:Int) - 48)):=(by show _=_;omega)
     clear A Y hm hp D j hf J he U
     go_wp2
     go_roundw
     case rel=>exact ⟨k+1,m*10+(y - 48),M*10+((y:Int) - 48),hc,by first|rfl|(refine Zo (Value.int .u64) ?_;omega),by go_num,hj,hi,HN,trivial⟩
     case measure=>simp[intOf];omega
    ·rw[Ya U,Zf (by decide)] at A
     have hn:V=none:=(by rw[HG.out,Z.out,A])
     subst hn
     have S:(y:Int)<48\/(¬(y:Int)<48/\57<(y:Int)):=(by omega)
     clear A Y hm hp D U HG Z
     rcases S with c1|⟨c1,c2⟩
     ·go_wp2
      go_ret2
      exact ⟨⟨_,rfl⟩,rfl⟩
     ·go_wp2
      go_ret2
      exact ⟨⟨_,rfl⟩,rfl⟩
   ·have hB:k=d.size:=(by omega)
    have b1:¬(k:Int)<(d.size:Int):=(by omega)
    have H:decV d.data.toList 0=some m:=by
     rw[Z.out,<-hp.out,ZB (by rw[Zn];omega)]
     rfl
    have hn:V=if m<=9223372036854775808 then some (-(m:Int)) else none:=by
     rw[HG.out,H]
     rfl
    have j:=D.out
    have d1:0<=M:=(by omega)
    have hg:10 ^ k<=10 ^ 19:=Nat.pow_le_pow_right (by omega) (by omega)
    have J:(10:Nat) ^ 19=10000000000000000000:=(by decide)
    have d2:M<=9999999999999999999:=(by have:=hm.out;omega)
    by_cases hu:m<=9223372036854775808
    ·rw[Zi hu,j] at hn
     subst hn
     have c1:M<=9223372036854775808:=(by omega)
     have ho:¬9223372036854775808<M:=(by omega)
     clear hm hp D j H hu HG Z hg J
     go_wp2
     go_ret2
     exact ⟨by first|rfl|(show _=_;refine Zo (λt=>Ending.returned (.tuple #[.int .i64 t,.bool true])) ?_;exact Zfl (by omega) (by omega)),rfl⟩
    ·rw[Zf hu] at hn
     subst hn
     have c1:¬M<=9223372036854775808:=(by omega)
     have ho:9223372036854775808<M:=(by omega)
     clear hm hp D j H hu HG Z hg J
     go_wp2
     go_ret2
     exact ⟨⟨_,rfl⟩,rfl⟩)
theorem ZaT (s:ByteArray) (w:World) (C:s.size<=80000000000) (j:0<s.size):
 Calls prog 112 #[.string s] w λe w'=>NumR (numV s.data.toList) e/\w'=w:=by
 by_cases h:s[0].toNat=45
 ·have A:s.data.toList.head? =some 45:=by rw[QZ j];exact Zo some ((XT (n:=45) (by decide)).2 h)
  rw[Zfn A];exact ZaU s w C j h
 ·have A:¬s.data.toList.head? =some 45:=by rw[QZ j];intro e;injection e with e;exact h ((XT (n:=45) (by decide)).1 e)
  rw[Zfo A];exact ZaV s w C j h
end
section
set_option linter.unusedSimpArgs false
def KeyR (o:Option (ByteArray×Nat)) (e:Ending):Prop:=match o with
 |some (k,to_)=>e= .returned (.tuple #[.string k,.int .i64 (to_:Nat),.int .i64 0])
 |none=>∃a x:Nat,x≠0/\e= .returned (.tuple #[.string ⟨#[]⟩,.int .i64 (a:Nat),.int .i64 (x:Nat)])
theorem Zej {ks:List ByteArray} {k:Nat} {n:ByteArray} (h:k<ks.length):(ks.drop k).any (λp=>decide (p=n))=(decide (ks[k]=n)||(ks.drop (k+1)).any λp=>decide (p=n)):=by
 rw[Zx h,List.any_cons]
theorem Ze5 (s:ByteArray) (a fr:Nat) (ks:List (ByteArray×Nat)) (mv:Value) (ms:List (ByteArray×List Value×Int)) (w:World) (hs:s.size<=80000000000) (ha:a<=s.size)
 (J:ms.map Prod.fst=ks.map Prod.fst) (hr:RSl w 9 mv ms.length (ms.map mcell).flatten) (h7:∀m∈ms,m.2.1.length=7):
 Calls prog 156 #[.string s,.int .i64 (a:Nat),.agg (wcells 5 false 0 noS (.slice none 0 0) mv (fr:Nat)).toArray] w λe w'=>KeyR (keyP s.data.toList a ks) e/\Ext w w':=by
 obtain ⟨_,A,c,rfl,ho,hi,_,_⟩:=id hr;obtain ⟨V,H⟩:∃V,keyP s.data.toList a ks=V:=⟨_,rfl⟩;rw[H];unfold keyP at H;have i0:(0:Int)<=(a:Int):=by omega
 by_cases K:s.data.toList[a]? =some 34
 case neg=>
  have C:strP s.data.toList a=none:=by unfold strP;rw[Zf K]
  rw[C] at H;obtain rfl:V=none:=H.symm;clear H C;have hp:(s.size:Int)<=(a:Int)\/∃h:a<s.size,¬(s.size:Int)<=(a:Int)/\(a:Int)<(s.size:Int)/\((s[a].toNat:Int) !=34)=true:=by
   by_cases h:s.size<=a
   ·exact Or.inl (by omega)
   ·refine Or.inr ⟨by omega,by omega,by omega,?_⟩;rw[Yj];intro e;refine K ?_;rw[Zc (by rw[Zn];omega)];exact Zo some ((XT (n:=34) (by decide)).2 (by have:s[a].toNat=34:=(by omega);exact this))
  have HW:=gd (λw'=>Ju s a w');clear K J hr h7;unfold wcells noS;rcases hp with h1|⟨h0,h1,h2,h3⟩
  all_goals go_enter func156,ntmps156
  all_goals go_wp2_with (first|(go_at_call 107;(with_reducible refine Za (HW.out _) ?_);rintro e w3 ⟨⟨b,x,O,rfl⟩,G⟩))
  all_goals (
   have q7:∀d:Aft (w3.alloc (.cells #[.int .i64 0,.bool false,.int .i64 0,.string ⟨#[]⟩,.slice none 0 0,.slice none 0 0,.int .i64 0,.int .i64 (b:Nat),.int .i64 (x:Nat)] 109)),d.w.cell? ⟨w3.heap.size,7,none⟩=some (.int .i64 (b:Nat)):=Aft.cell ((Ext.refl _).boxed 7 _ rfl)
   have q8:∀d:Aft (w3.alloc (.cells #[.int .i64 0,.bool false,.int .i64 0,.string ⟨#[]⟩,.slice none 0 0,.slice none 0 0,.int .i64 0,.int .i64 (b:Nat),.int .i64 (x:Nat)] 109)),d.w.cell? ⟨w3.heap.size,8,none⟩=some (.int .i64 (x:Nat)):=Aft.cell ((Ext.refl _).boxed 8 _ rfl)
   refine rA ?_
   repeat (first|go_big_quiet_step (fail)|quiet_step (fail))
   refine YB ?_
   rintro _ ⟨d1,rfl⟩
   go_wp2
   go_ret3
   exact ⟨⟨b,x,O,rfl⟩,((((Ext.refl w).alloc _).trans G).alloc _).trans d1.ext⟩)
 have hg:a<s.size:=by
  have:=(ZE.1 K).1
  rwa [Zn] at this
 have hD:(s[a].toNat:Int)=34:=by rw[Zc (by rw[Zn];exact hg)] at K;injection K with K;have e:s[a].toNat=34:=(XT (n:=34) (by decide)).1 K;omega
 have h1:¬(s.size:Int)<=(a:Int):=by omega
 have h2:(a:Int)<(s.size:Int):=by omega
 have HS:=gd (λw'=>GW s a w' hs hg K);cases C:strP s.data.toList a with
 |none=>
  rw[C] at H HS;obtain rfl:V=none:=H.symm;clear H C K J hr h7;unfold wcells noS;go_enter func156,ntmps156
  go_wp2_with (first|(go_at_call 109;(with_reducible refine Za (HS.out _) ?_);rintro e w3 ⟨⟨b,x,O,rfl⟩,G⟩;(have hE:((x:Int) !=0)=true:=by rw[Yj];omega)))
  go_ret3
  exact ⟨⟨b,x,O,rfl⟩,((Ext.refl w).alloc _).trans G⟩
 |some p=>
  obtain ⟨t,z⟩:=p;obtain ⟨-, -,hI,hd⟩:=Zao C;rw[Zn] at hd;rw[C] at H HS;simp only at H;have HR:=gd hr;have H7:=gd h7;have hu:=gd J;have HV:=gd H;have hl:∀c∈ms.map mcell,c.length=9:=by intro c hc;obtain ⟨m,hm,rfl⟩:=Yq.1 hc;simp[mcell,h7 m hm]
  have hw:=gd hl;have hH:ks.length=ms.length:=by have:=Zo List.length J;rw[ZS,ZS] at this;exact this.symm
  have Q:∀w',Ext (w.alloc (.cells (wcells 5 false 0 noS (.slice none 0 0) (.slice A ms.length c) (fr:Nat)).toArray 25)) w'->w'.cell? ⟨w.heap.size,5,none⟩=some (.slice A ms.length c):=λw' hx=>hx.boxed 5 _ rfl;unfold wcells noS at*;have ht:Hid (ms.length<=maxLen):=Zl ho hi;clear H C K J hr h7 hl hi ho;go_enter func156,ntmps156
  go_wp2_with (first|(go_at_call 109;(with_reducible refine Za (HS.out _) ?_);rintro e w3 ⟨he,G⟩;(replace he:e= .returned (.tuple #[.string (str t),.int .i64 (z:Nat),.int .i64 0]):=he);subst he))
  go_loopw [13] (λi wr=>∃k:Nat,k<=ms.length/\i= .int .i64 (k:Nat)/\Hid ((ks.map Prod.fst).any (λp=>decide (p=str t))=((ks.map Prod.fst).drop k).any λp=>decide (p=str t))/\wr=w3) (λi _=>ms.length - (intOf i).toNat)
  case atStart=>exact ⟨0,Zt _,rfl,by rw[XQ];trivial,rfl⟩
  case round=>
   obtain ⟨k,hk,rfl,F,rfl⟩:=hrel;have q5:=Q wr G;by_cases R:k<ms.length
   ·have hj:k<(ks.map Prod.fst).length:=(by rw[ZS];omega);have C:=Zej (n:=str t) hj;obtain ⟨ad,cap,hA,D⟩:=RSl.elem (HR.out.ext (((Ext.refl w).alloc _).trans G)) (by omega) hw.out k (mcell ms[k]) (by rw[ZT,Zc R];rfl);injection hA with hA1 hA2 hA3;subst hA1;clear hA2 hA3;rw[Y7] at D;have S:(ks.map Prod.fst)[k]=ms[k].1:=(by have e1:(ks.map Prod.fst)[k]? =(ms.map Prod.fst)[k]?:=(by rw[hu.out]);rw[Zc hj,ZT,Zc R] at e1;simpa using e1);have Y:=H7.out ms[k] (ZO R);rw[S] at C;obtain ⟨M,hf⟩:∃M,ms[k]=M:=⟨_,rfl⟩;rw[hf] at D C Y;obtain ⟨key,cv,at_⟩:=M;obtain ⟨c0, -, -⟩:=Vv Y D;dsimp only at C;have hz:(k:Int)<(ms.length:Int):=(by omega);have hF:(0:Int)<=(k:Int):=(by omega);have hb:Hid (wrap64 ((k:Int)+1)=((k+1:Nat):Int)):=(by have h1:=ht.out;rw[maxLen] at h1;show _=_;rw[Xn _ ⟨by omega,by omega⟩];rfl);clear D S hf Y;by_cases hn:key=str t
    ·have j:=F.out.trans C;rw[Yg hn,Bool.true_or] at j;have U:V=none:=(by have:=HV.out;rw[List.any_map] at j;rw[show (ks.any λp=>decide (p.1=str t))=true from j,Zi rfl] at this;exact this.symm);subst U;have hy:(key.toList==(str t).toList)=true:=(by rw[hn];simp);clear C j F;go_wp2
     go_ret3
     exact ⟨⟨a,10,by decide,rfl⟩,((Ext.refl w).alloc _).trans G⟩
    ·have j:Hid _:=gd (F.out.trans C);rw[Ya hn,Bool.false_or] at j;have hy:(key.toList==(str t).toList)=false:=(by rw[UA];simp only[ZV];exact λe=>hn (Xi e));clear C F;go_wp2;go_roundw
     case rel=>exact ⟨k+1,R,Zo (Value.int .i64) hb.out,j,trivial⟩
     case measure=>rw[hb.out];clear hb;simp[intOf];omega
   ·have hG:k=ms.length:=(by omega);have hz:¬(k:Int)<(ms.length:Int):=(by omega);have j:=F.out;rw[ZB (by rw[ZS];omega),List.any_nil,List.any_map] at j;have U:=HV.out;rw[show (ks.any λp=>decide (p.1=str t))=false from j,Zf (by decide)] at U;have X:=gd (λw'=>XC s z w' hs hd);have hB:spAt s.data.toList z<=s.size:=(by have:=Up (s:=s.data.toList) (k:=z) (by rw[Zn];exact hd);rwa [Zn] at this);have I:=gd (λw'=>Ji s ⟨#[58]⟩ (spAt s.data.toList z) w' (by unfold maxLen;omega) (by unfold maxLen;omega) (by unfold maxLen;decide) (by decide));obtain ⟨Z,hZ⟩:∃Z,spAt s.data.toList z=Z:=⟨_,rfl⟩;rw[hZ] at X I U hB;have HW:=gd (λw'=>Ju s Z w');clear F j hZ;cases hh:hasAt s.data.toList Z (⟨#[58]⟩:ByteArray).data.toList with
    |true=>
     rw[Zi (show hasAt s.data.toList Z [58]=true from hh)] at U;rw[hh] at I;subst U;clear hh HV
     go_wp2_with (first|(go_at_call 65;(with_reducible refine Za (X.out _) ?_);rintro e w4 ⟨rfl,rfl⟩)|(go_at_call 63;(with_reducible refine Za (I.out _) ?_);rintro e w4 ⟨rfl,rfl⟩))
     go_ret3
     exact ⟨rfl,((Ext.refl w).alloc _).trans G⟩
    |false=>
     rw[Zf (show ¬hasAt s.data.toList Z [58]=true by rw[show hasAt s.data.toList Z [58]=false from hh];decide)] at U;rw[hh] at I;subst U;clear hh HV
     go_wp2_with (first|(go_at_call 65;(with_reducible refine Za (X.out _) ?_);rintro e w4 ⟨rfl,rfl⟩)|(go_at_call 63;(with_reducible refine Za (I.out _) ?_);rintro e w4 ⟨rfl,rfl⟩)|(go_at_call 107;(with_reducible refine Za (HW.out _) ?_);rintro e w5 ⟨⟨b,x,O,rfl⟩,hC⟩))
     have q7:∀d:Aft (w5.alloc (.cells #[.int .i64 0,.bool false,.int .i64 0,.string ⟨#[]⟩,.slice none 0 0,.slice none 0 0,.int .i64 0,.int .i64 (b:Nat),.int .i64 (x:Nat)] 109)),d.w.cell? ⟨w5.heap.size,7,none⟩=some (.int .i64 (b:Nat)):=Aft.cell ((Ext.refl _).boxed 7 _ rfl);have q8:∀d:Aft (w5.alloc (.cells #[.int .i64 0,.bool false,.int .i64 0,.string ⟨#[]⟩,.slice none 0 0,.slice none 0 0,.int .i64 0,.int .i64 (b:Nat),.int .i64 (x:Nat)] 109)),d.w.cell? ⟨w5.heap.size,8,none⟩=some (.int .i64 (x:Nat)):=Aft.cell ((Ext.refl _).boxed 8 _ rfl);refine rA ?_
     repeat (first|go_big_quiet_step (fail)|quiet_step (fail))
     refine YB ?_;rintro _ ⟨d1,rfl⟩;go_wp2
     go_ret3
     exact ⟨⟨b,x,O,rfl⟩,(((((Ext.refl w).alloc _).trans G).trans hC).alloc _).trans d1.ext⟩
end
end Go.Proofs.YthlnaldahkgjnaaGreatDoor
