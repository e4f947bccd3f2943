/- Parts of the proof: contracts and plain laws. -/
import Derived.Test.YtmfinhgobjbecaaGreatDoorA08
namespace Go.Proofs.YtmfinhgobjbecaaGreatDoor
open Go Go.RowKit _root_.Go.Proofs.Tryz
set_option linter.unusedVariables false
set_option linter.unusedSimpArgs false
set_option maxRecDepth 100000
set_option maxHeartbeats 16000000
theorem Zlc {l:List UInt8} {k:Nat} (h:NmPre false true l k) (F:k<l.length) (D:(dec (l.drop k)).2=0\/nmOk false (decide (k=0)) (dec (l.drop k)).1=false):isNm l=false:=by
 have A:=h.go.2;have e:=YH (c:=false) (f:=l.length) (first:=true && decide (k=0)) (l:=l.drop k) (Or.inr (by simpa using D));rw[e,Nat.add_zero] at A;have C:nmLen false l=k:=A;unfold isNm;rw[C];exact Zre om
theorem Zlb {l:List UInt8} (h:NmPre false true l l.length):isNm l=decide (0<l.length):=by
 have A:=h.go.2;rw[Zq3 (ZqE _),Jk] at A;unfold isNm nmLen;rw[A];simp
theorem ZbB (r:Nat) (first:Bool):nmOk false first r=if first then nmStart r else nmChar r:=by
 unfold nmOk;simp
theorem UO (s:ByteArray) (w:Wq) (hs:s.size<=80000000000):
 Calls prog 22 #[.string s] w λe w'=>e= .returned (.bool (isNm s.data.toList))/\Ext w w':=by
 have hg:s.size<=maxLen:=by unfold maxLen;omega
 have ha:=Zb s;obtain ⟨R0,S⟩:∃b,isNm s.data.toList=b:=⟨_,rfl⟩;rw[S];have Q:=gd S;clear S;go_enter func22,ntmps22;go_wp2;go_loopw [3,4,5] (λv _ _ wr=>∃k:Nat,k<=s.size/\v=nI k/\Hid (NmPre false true s.data.toList k)/\Ext w wr) (λv _ _ _=>s.size - (intOf v).toNat)
 case atStart=>exact ⟨0,ZqO _,rfl,gd (.zero _ _),Ext.refl _⟩
 case round=>
  obtain ⟨k,hk,rfl,hp,Y⟩:=hrel;by_cases hd:k<s.size
  ·have hc:=Xi (s.data.toList.drop k);rw[ZqP,Zb] at hc;have I:=XC s k wr hd hg;have X:((dec (s.data.toList.drop k)).2=0\/nmOk false (decide (k=0)) (dec (s.data.toList.drop k)).1=false)->R0=false:=λh=>Q.out.symm.trans (Zlc hp.out (by rw[Zb];exact hd) h);have V:(dec (s.data.toList.drop k)).2≠0->nmOk false (decide (k=0)) (dec (s.data.toList.drop k)).1=true->NmPre false true s.data.toList (k+(dec (s.data.toList.drop k)).2):=λh1 h2=>hp.out.snoc h1 (by simpa using h2);obtain ⟨R,hR⟩:∃R,(dec (s.data.toList.drop k)).1=R:=⟨_,rfl⟩;obtain ⟨K,hK⟩:∃K,(dec (s.data.toList.drop k)).2=K:=⟨_,rfl⟩;rw[hR,hK] at I X V;rw[hK] at hc;have Z:=gd I;have C:=gd X;have H:=gd V;have D:=gd (λw'=>VS R w');have F:=gd (λw'=>XU R w');clear I X V hR hK hp;by_cases h0:K=0
   ·subst h0;have hf:=C.out (Or.inl rfl);subst hf
    go_wp2_with (first|(go_at_call 52;refine ZqD Z.out ?_;rintro e w2 ⟨rfl,A⟩))
    go_ret;exact ⟨rfl,Y.trans A⟩
   ·have hb:((K:Int)==0)=false:=(by rw[ZqW];omega);cases hnc:nmChar R with
    |false=>
     have hf:=C.out (Or.inr (by rw[ZbB,hnc,IT hnc];simp));subst hf;rw[hnc] at D;clear C H F
     go_wp2_with (first|(go_at_call 52;refine ZqD Z.out ?_;rintro e w2 ⟨rfl,A⟩)|(go_at_call 53;refine ZqD (D.out _) ?_;rintro e w3 ⟨rfl,rfl⟩))
     go_ret;exact ⟨rfl,Y.trans A⟩
    |true=>
     rw[hnc] at D;by_cases hz:k=0
     ·subst hz;cases hns:nmStart R with
      |false=>
       have hf:=C.out (Or.inr (by rw[ZbB,hns];simp));subst hf;rw[hns] at F;clear C H
       go_wp2_with (first|(go_at_call 52;refine ZqD Z.out ?_;rintro e w2 ⟨rfl,A⟩)|(go_at_call 53;refine ZqD (D.out _) ?_;rintro e w3 ⟨rfl,rfl⟩)|(go_at_call 54;refine ZqD (F.out _) ?_;rintro e w3 ⟨rfl,rfl⟩))
       go_ret;exact ⟨rfl,Y.trans A⟩
      |true=>
       have O:=gd (H.out h0 (by rw[ZbB,hns];simp));rw[hns] at F;clear C H
       go_wp2_with (first|(go_at_call 52;refine ZqD Z.out ?_;rintro e w2 ⟨rfl,A⟩)|(go_at_call 53;refine ZqD (D.out _) ?_;rintro e w3 ⟨rfl,rfl⟩)|(go_at_call 54;refine ZqD (F.out _) ?_;rintro e w3 ⟨rfl,rfl⟩))
       go_roundw
       case rel=>exact ⟨0+K,om,by go_num,O,Y.trans A⟩
       case measure=>simp[intOf];omega
     ·have hh:((k:Int)==0)=false:=(by rw[ZqW];omega);have O:=gd (H.out h0 (by rw[ZbB,Zre hz,hnc];simp));clear C H F
      go_wp2_with (first|(go_at_call 52;refine ZqD Z.out ?_;rintro e w2 ⟨rfl,A⟩)|(go_at_call 53;refine ZqD (D.out _) ?_;rintro e w3 ⟨rfl,rfl⟩))
      go_roundw
      case rel=>exact ⟨k+K,om,by go_num,O,Y.trans A⟩
      case measure=>simp[intOf];omega
  ·have he:k=s.size:=om;subst he;have U:=hp.out;rw[<-ha] at U;have J:=Q.out.symm.trans (Zlb U);rw[ha] at J;clear hp U Q;subst J;go_wp2;go_ret;exact ⟨by simp,Y⟩
def splitAns:Option (List UInt8×List UInt8)->Value
 |some (p,q)=> .tuple #[.string (str p),.string (str q),.bool true]
 |none=> .tuple #[eS,eS,.bool false]
theorem Jx (s:ByteArray) (w:Wq) (hs:s.size<=80000000000):
 Calls prog 148 #[.string s] w λe w'=>e= .returned (splitAns (splitL s.data.toList))/\Ext w w':=by
 have Q:=Zb s;obtain ⟨R,F⟩:∃R,splitL s.data.toList=R:=⟨_,rfl⟩;rw[F];unfold splitL at F;dsimp only at F;obtain ⟨P,hP⟩:∃P,((s.data.toList.takeWhile λc=>c !=58)).length=P:=⟨_,rfl⟩;have X:(s.data.toList.takeWhile λc=>c !=58)=s.data.toList.take P:=by rw[<-hP];exact ZsG.1 (Zs1 _)
 rw[X,Zra] at F;have O:P<=s.size:=by rw[<-hP,<-Q];exact (Zr1 _).length_le
 rw[Q,Nat.min_eq_left O] at F;have HR:=gd F;have HP:=gd (show 0+((s.data.toList.drop 0).takeWhile λc=>c !=58).length=P by rw[Zsf,hP,ZrH]);clear F hP X O;go_enter func148,ntmps148;go_wp2;go_loopw [5] (λv wr=>∃j:Nat,j<=s.size/\v=nI j/\Hid (j+((s.data.toList.drop j).takeWhile λc=>c !=58).length=P)/\wr=w) (λv _=>s.size - (intOf v).toNat)
 case atStart=>exact ⟨0,ZqO _,rfl,HP,rfl⟩
 case round=>
  obtain ⟨j,hj,rfl,I,rfl⟩:=hrel;by_cases U:j<s.size
  ·have he:(0:Int)<=(j:Int):=om;have hf:(j:Int)<(s.size:Int):=om;have S:j<s.data.toList.length:=om;have hg:s.data.toList[j]=s[j]:=rfl;by_cases C:s[j]=58
   ·have hb:(((s[j]).toNat:Int)==58)=true:=(by rw[C];rfl);have hc:j=P:=(J4 (p:=λc=>c !=58) S (by show (s[j] !=58)=false;rw[C];rfl)).symm.trans I.out;subst hc;have h:=HR.out;rw[ZqN U] at h;have e1:s.extract 0 j=str (s.data.toList.take j):=Yj (by rw[Zg];simp);have e2:s.extract (j+1) s.size=str (s.data.toList.drop (j+1)):=Yj (by rw[Zg,Kq]);have s1:=ZhI s j om;have s2:=KJ s (j+1) ((j:Int)+1) om om;rw[e1] at s1;rw[e2] at s2;obtain ⟨p,hp⟩:∃p,s.data.toList.take j=p:=⟨_,rfl⟩;obtain ⟨q,hq⟩:∃q,s.data.toList.drop (j+1)=q:=⟨_,rfl⟩;have V:(str p).size<=80000000000:=(by rw[Zo,<-hp,Zra];omega);have Y:(str q).size<=80000000000:=(by rw[Zo,<-hq,ZqP];omega);rw[hp] at s1 h;rw[hq] at s2 h;have D:=gd (λw'=>UO (str p) w' V);have J:=gd (λw'=>UO (str q) w' Y);rw[Zg] at D J;clear C I HR e1 e2 hp hq V Y;cases h1:isNm p with
    |false=>
     rw[h1,ZqH (by simp)] at h;rw[h1] at D;subst h;clear h1
     go_wp2_with (first|(go_at_call 22;refine ZqD (D.out _) ?_;rintro e w3 ⟨rfl,A⟩))
     go_ret3
     exact ⟨rfl,A⟩
    |true=>
     rw[h1] at D;cases h2:isNm q with
     |false=>
      rw[h1,h2,ZqH (by simp)] at h;rw[h2] at J;subst h;clear h1 h2
      go_wp2_with (first|(go_at_call 22;(with_reducible refine ZqD (D.out _) ?_);rintro e w3 ⟨rfl,A⟩)|(go_at_call 22;(with_reducible refine ZqD (J.out _) ?_);rintro e w4 ⟨rfl,H⟩))
      go_ret3
      exact ⟨rfl,A.trans H⟩
     |true=>
      rw[h1,h2,ZqN (by simp)] at h;rw[h2] at J;subst h;clear h1 h2
      go_wp2_with (first|(go_at_call 22;(with_reducible refine ZqD (D.out _) ?_);rintro e w3 ⟨rfl,A⟩)|(go_at_call 22;(with_reducible refine ZqD (J.out _) ?_);rintro e w4 ⟨rfl,H⟩))
      refine rA ?_
      repeat (first|go_big_quiet_step (skip)|quiet_step (skip))
      refine Zru ?_;rintro _ ⟨d1,rfl⟩;go_wp2
      go_ret3
      exact ⟨rfl,(A.trans H).trans d1.ext⟩
   ·have hb:(((s[j]).toNat:Int)==58)=false:=(by rw[ZqW];intro e;exact C (ZrY.1 (by show _=58;omega)));have Z:=J3 (p:=λc=>c !=58) S (by show (s[j] !=58)=true;simpa using C);have HN:=gd (Z.symm.trans I.out);clear C Z I;go_wp2;go_roundw
    case rel=>exact ⟨j+1,U,by go_num,HN,by trivial⟩
    case measure=>simp[intOf];omega
  ·have hd:j=s.size:=om;subst hd;have ha:s.size=P:=(by have:=I.out;rw[Zq3 om] at this;simpa using this);have h:=HR.out;rw[ZqH om] at h;have D:=gd (λw'=>UO s w' hs);clear I HR ha HP;cases h1:isNm s.data.toList with
   |false=>
    rw[h1,ZqH (by simp)] at h;rw[h1] at D;subst h;clear h1
    go_wp2_with (first|(go_at_call 22;refine ZqD (D.out _) ?_;rintro e w3 ⟨rfl,A⟩))
    go_ret3
    exact ⟨rfl,A⟩
   |true=>
    rw[h1,ZqN rfl] at h;rw[h1] at D;subst h;clear h1
    go_wp2_with (first|(go_at_call 22;refine ZqD (D.out _) ?_;rintro e w3 ⟨rfl,A⟩))
    go_ret3
    exact ⟨(by show _=Ending.returned (.tuple #[.string (str []),.string (str s.data.toList),.bool true]);rw[VH];rfl),A⟩
theorem Zku {l:List UInt8} {k:Nat} (h:k<l.length):blankL (l.drop k)=(isSp (l[k].toNat) && blankL (l.drop (k+1))):=by
 unfold blankL;rw[ZqR h,ZsK]
theorem Zft (s:ByteArray) (w:Wq) (X:s.size<=140737488351232):
 Calls prog 58 #[.string s] w λe w'=>e= .returned (.bool (blankL s.data.toList))/\w'=w:=by
 have O:=Zb s;obtain ⟨R,F⟩:∃R,blankL s.data.toList=R:=⟨_,rfl⟩;rw[F];go_enter func58,ntmps58;go_wp2;go_loopw [3] (λv wr=>∃j:Nat,j<=s.size/\v=nI j/\Hid (blankL (s.data.toList.drop j)=R)/\wr=w) (λv _=>s.size - (intOf v).toNat)
 case atStart=>exact ⟨0,ZqO _,rfl,gd F,rfl⟩
 case round=>
  obtain ⟨j,V,rfl,D,rfl⟩:=hrel;clear F;by_cases C:j<s.size
  ·have Q:(0:Int)<=(j:Int):=om;have S:(j:Int)<(s.size:Int):=om;have U:j<s.data.toList.length:=(by rw[Zb];exact C);have I:s.data.toList[j]=s[j]:=(by rfl);have h:=D.out;rw[Zku U,I] at h;cases hsp:isSp (s[j].toNat) with
   |true=>
    rw[hsp,Zr2] at h;have J:=gd h;clear D h
    go_wp2_with (first|(go_at_call 103;refine ZqD (ZT _ _) ?_;rintro e w2 ⟨rfl,rfl⟩))
    go_roundw
    case rel=>exact ⟨j+1,C,by go_num,J,by trivial⟩
    case measure=>simp[intOf];omega
   |false=>
    rw[hsp,ZrA] at h;subst h;clear D
    go_wp2_with (first|(go_at_call 103;refine ZqD (ZT _ _) ?_;rintro e w2 ⟨rfl,rfl⟩))
    go_ret;exact ⟨rfl,rfl⟩
  ·have H:j=s.size:=om;have A:true=R:=(by have:=D.out;rw[Zq3 om] at this;exact this);subst A;clear D;subst H;go_wp2;go_ret;exact ⟨rfl,rfl⟩
theorem JX {a:List UInt8} (h:a≠ []):(str a).toList.isEmpty=false:=by
 rw[Zn,Zg];cases a with
 |nil=>exact absurd rfl h
 |cons x t=>rfl
theorem Xh:(str []).toList.isEmpty=true:=by rw[Zn,Zg];rfl
theorem XF {a b:List UInt8} (h:a=b):((str a).toList==b)=true:=by rw[Zn,Zg,h];simp
theorem Yx {a b:List UInt8} (h:a≠b):((str a).toList==b)=false:=by rw[Zn,Zg];simpa using h
theorem Z8 (a b:List UInt8):((str a).toList==(str b).toList)=(a==b):=by rw[Zn,Zn,Zg,Zg]
def DeclRet (v:Value):Option (List UInt8)->Prop
 |some d=>v= .tuple #[.string (str d),.bool true]
 |none=>∃d,v= .tuple #[.string (str d),.bool false]
theorem VQ (a:AtP) (w:Wq) (V:a.name.length<=80000000000):
 Calls prog 149 #[.agg #[.string (str a.space),.string (str a.name),.string (str a.value),nI (a.at_:Nat)]] w λe w'=>∃v,e= .returned v/\DeclRet v (declL a.name)/\Ext w w':=by
 obtain ⟨sp,nm,av,S⟩:=a;dsimp only at V|-;obtain ⟨R,C⟩:∃R,declL nm=R:=⟨_,rfl⟩;rw[C];unfold declL at C;have D:=λw'=>Jx (str nm) w' (by rw[Zo];exact V);rw[Zg] at D;have H:=(Ext.refl w).alloc (.cells #[.string (str sp),.string (str nm),.string (str av),nI (S:Nat)] 53);cases hsp:splitL nm with
 |none=>
  rw[hsp] at C D;dsimp only at C;subst C;have J:=gd D;have O:(str []).toList.isEmpty=true:=Xh;have U:((str []).toList== [120,109,108,110,115])=false:=Yx (by decide);clear hsp D;go_enter func149,ntmps149
  go_wp2_with (first|(go_at_call 148;refine ZqD (J.out _) ?_;rintro e w2 ⟨rfl,A⟩;simp only[splitAns]))
  go_ret2
  exact ⟨_,rfl,⟨[],rfl⟩,H.trans A⟩
 |some pq=>
  obtain ⟨p,q⟩:=pq;rw[hsp] at C D;dsimp only at C;have J:=gd D;clear hsp D;by_cases Q:p= []
  ·subst Q;have O:(str []).toList.isEmpty=true:=Xh;have U:((str []).toList== [120,109,108,110,115])=false:=Yx (by decide);by_cases F:q=xmlnsL
   ·rw[ZqN ⟨rfl,F⟩] at C;subst C;have I:((str q).toList== [120,109,108,110,115])=true:=XF F;clear F;go_enter func149,ntmps149
    go_wp2_with (first|(go_at_call 148;refine ZqD (J.out _) ?_;rintro e w2 ⟨rfl,A⟩;simp only[splitAns]))
    go_ret2
    exact ⟨_,rfl,rfl,H.trans A⟩
   ·rw[ZqH (λh=>F h.2),ZqH (by decide)] at C;subst C;have I:((str q).toList== [120,109,108,110,115])=false:=Yx F;clear F;go_enter func149,ntmps149
    go_wp2_with (first|(go_at_call 148;refine ZqD (J.out _) ?_;rintro e w2 ⟨rfl,A⟩;simp only[splitAns]))
    go_ret2
    exact ⟨_,rfl,⟨q,rfl⟩,H.trans A⟩
  ·have O:=JX Q;rw[ZqH (λh=>Q h.1)] at C;by_cases F:p=xmlnsL
   ·rw[ZqN F] at C;subst C;have I:((str p).toList== [120,109,108,110,115])=true:=XF F;clear F Q;go_enter func149,ntmps149
    go_wp2_with (first|(go_at_call 148;refine ZqD (J.out _) ?_;rintro e w2 ⟨rfl,A⟩;simp only[splitAns]))
    go_ret2
    exact ⟨_,rfl,rfl,H.trans A⟩
   ·rw[ZqH F] at C;subst C;have I:((str p).toList== [120,109,108,110,115])=false:=Yx F;clear F Q;go_enter func149,ntmps149
    go_wp2_with (first|(go_at_call 148;refine ZqD (J.out _) ?_;rintro e w2 ⟨rfl,A⟩;simp only[splitAns]))
    go_ret2
    exact ⟨_,rfl,⟨q,rfl⟩,H.trans A⟩
def cellsB (b:List UInt8×List UInt8):List Value:= [.string (str b.1),.string (str b.2)]
def flatB (l:Scope):List Value:=(l.map cellsB).flatten
def RSc (w:Wq) (v:Value) (l:Scope):Prop:=RSl w 2 v l.length (flatB l)
theorem RSc.ext {w w':Wq} {v:Value} {l:Scope} (h:RSc w v l) (A:Ext w w'):RSc w' v l:=RSl.ext h A
theorem RSc.form {w:Wq} {v:Value} {l:Scope} (h:RSc w v l):∃A c,v= .slice A l.length c/\l.length<=c/\c<=maxLen:=by
 obtain ⟨_,A,c,e,C,D,_⟩:=h;exact ⟨A,c,e,C,D⟩
theorem Zd7 (a b:Scope):flatB (a++b)=flatB a++flatB b:=by unfold flatB;rw[Zrf,ZsP]
theorem Zd8 (x:List UInt8×List UInt8):flatB [x]=cellsB x:=by unfold flatB;simp
theorem Kf (x:List UInt8×List UInt8):∀u∈cellsB x,u.oneCell'=true:=by
 intro u h;simp only[cellsB,Zq1,Zri,ZrD] at h;rcases h with rfl|rfl<;>rfl
theorem Zix (l:Scope):∀u∈flatB l,u.oneCell'=true:=by
 intro u h;obtain ⟨c,A,h⟩:=Zs0.1 h;obtain ⟨a,_,rfl⟩:=Zrr.1 A;exact Kf a u h
theorem RSc.at {w:Wq} {v:Value} {l:Scope} (h:RSc w v l) {k:Nat} (D:k<l.length):∃ad c,v= .slice (some ad) l.length c/\w.cell? (ad.add (k*2))=some (.string (str l[k].1))/\w.cell? ⟨(ad.add (k*2)).block,(ad.add (k*2)).off+1,none⟩=some (.string (str l[k].2)):=by
 obtain ⟨ad,c,e,C⟩:=RSl.elem (k:=2) (css:=l.map cellsB) h (by decide) (by intro c C;obtain ⟨x,_,rfl⟩:=Zrr.1 C;rfl) k (cellsB l[k]) (by rw[Zrq,ZqL D];rfl);rw[Zst] at C;have A:∀i,0<i->(ad.add (k*2)).add i=⟨(ad.add (k*2)).block,(ad.add (k*2)).off+i,none⟩:=λi F=>ZqH om;refine ⟨ad,c,e,?_,?_⟩
 ·have:=C 0 _ rfl;rwa [add_zero] at this
 ·have:=C 1 _ rfl;rwa [A _ (by decide)] at this
def lookAns:Option (List UInt8)->Value
 |some v=> .tuple #[.string (str v),.bool true]
 |none=> .tuple #[.string (str []),.bool false]
theorem GQ (v:Value) (sc:Scope) (p:List UInt8) (w:Wq) (h:RSc w v sc) (hn:sc.length<=140737488351232):
 Calls prog 150 #[v,.string (str p)] w λe w'=>e= .returned (lookAns (lookL sc p))/\w'=w:=by
 obtain ⟨A,c,rfl, -, -⟩:=h.form;by_cases Q:p=xmlL
 ·have hb:((str p).toList== [120,109,108])=true:=XF Q;have J:lookL sc p=some xmlSpaceL:=by unfold lookL;rw[ZqN Q]
  rw[J];clear Q J;go_enter func150,ntmps150;go_wp2
  go_ret2
  exact ⟨rfl,rfl⟩
 ·have hb:((str p).toList== [120,109,108])=false:=Yx Q;rw[ZnB Q];obtain ⟨R,J⟩:∃R,lookTo sc p sc.length=R:=⟨_,rfl⟩;rw[J];have Z:=gd J;clear Q J;go_enter func150,ntmps150;go_wp2;go_loopw [6] (λi wr=>∃k:Nat,k<=sc.length/\i=nI ((k:Int) - 1)/\Hid (lookTo sc p k=R)/\wr=w) (λi _=>(intOf i+1).toNat)
  case atStart=>exact ⟨sc.length,ZqE _,by go_num,Z,rfl⟩
  case round=>
   obtain ⟨k,hk,rfl,I,rfl⟩:=hrel;cases k with
   |zero=>
    have C:=I.out;rw[Zg0] at C;by_cases O:p= []
    ·rw[ZqN O] at C;have U:(str p).toList.isEmpty=true:=(by rw[O];exact Xh);subst C;clear I O;go_wp2
     go_ret2
     exact ⟨rfl,rfl⟩
    ·rw[ZqH O] at C;have U:=JX O;subst C;clear I O;go_wp2
     go_ret2
     exact ⟨rfl,rfl⟩
   |succ m=>
    have S:m<sc.length:=hk;obtain ⟨ad,c',hv,a0,X⟩:=h.at S;injection hv with hv1 hv2 hv3;subst hv1;clear hv2 hv3;have H:((m+1:Nat):Int) - 1=(m:Int):=om;rw[H];have ha:(0:Int)<=(m:Int):=om;have hc:(m:Int)<(sc.length:Int):=om;by_cases F:sc[m].1=p
    ·have C:=I.out;rw[Zi8 S F] at C;obtain ⟨x,D⟩:∃x,sc[m]=x:=⟨_,rfl⟩;rw[D] at a0 X F C;have V:((str x.1).toList==(str p).toList)=true:=(by rw[Z8,F];simp);subst C;clear I F D H;go_wp2
     go_ret2
     exact ⟨rfl,rfl⟩
    ·have C:=I.out;rw[ZgZ S F] at C;obtain ⟨x,D⟩:∃x,sc[m]=x:=⟨_,rfl⟩;rw[D] at a0 X F;have V:((str x.1).toList==(str p).toList)=false:=(by rw[Z8];simpa using F);have Y:=gd C;clear I F D H C;go_wp2;go_roundw
     case rel=>exact ⟨m,om,by go_num,Y,by trivial⟩
     case measure=>simp[intOf]
def attrN (al:List AtP) (sp nm:List UInt8):Option (List UInt8):=(al.find? λa=>a.space==sp && a.name==nm).map AtP.value
theorem ZdN {al:List AtP} {sp nm:List UInt8} {k:Nat} (A:k<al.length) (h:(al[k].space==sp && al[k].name==nm)=true):attrN (al.drop k) sp nm=some al[k].value:=by
 unfold attrN;rw[ZqR A,List.find?_cons_of_pos (by simpa using h)];rfl
theorem ZbK {al:List AtP} {sp nm:List UInt8} {k:Nat} (A:k<al.length) (h:(al[k].space==sp && al[k].name==nm)=false):attrN (al.drop k) sp nm=attrN (al.drop (k+1)) sp nm:=by
 unfold attrN;rw[ZqR A,List.find?_cons_of_neg (by simpa using h)]
theorem ZdM {al:List AtP} {sp nm:List UInt8} {k:Nat} (h:al.length<=k):attrN (al.drop k) sp nm=none:=by
 unfold attrN;rw[Zq3 h];rfl
def isKid (sp nm:List UInt8) (x:Nc):Bool:=x.kind==0 && x.space==sp && x.name==nm
theorem Xn:(prog.info? 25).map (λi=>(i.zero,i.size,i.bytes))=some (some (.agg #[nI 0,eS,eS,sN,sN,eS,nI 0]),7,112):=by kernel_rfl
theorem Zbb {l:List Nc} {f:Nc->Bool} {k:Nat} (h:k<l.length):(l.take (k+1)).filter f=(l.take k).filter f++(if f l[k] then [l[k]] else []):=by
 rw[ZqQ h,List.filter_append,List.filter_cons,List.filter_nil]
theorem Va {n:Nat} (h:n<=80000000000):n+1<=maxLen/\(n+1)*112<=140737488355328:=by unfold maxLen;omega
section
def BxN (w:Wq) (g:Nat) (k:Nat) (s n:List UInt8) (al ks:Value) (t:List UInt8) (a:Nat):Prop:=w.heap[g]? =some (.cells #[nI (k:Nat),.string (str s),.string (str n),al,ks,.string (str t),nI (a:Nat)] 25 (0,0))
section
variable {w w':World} {g k a:Nat} {s n t:List UInt8} {al ks:Value}
theorem BxN.ext (h:BxN w g k s n al ks t a) (A:Ext w w'):BxN w' g k s n al ks t a:=A.heap h
theorem BxN.grown {r:Option Nat} (h:BxN w g k s n al ks t a) (A:w.grownBy w' r) (C:r≠some g):BxN w' g k s n al ks t a:=
 (A.block g (Zrg.1 h).1 (λe=>C (by rw[<-e]))).trans h
theorem BxN.other {g' i:Nat} {v:Value} (h:BxN w g k s n al ks t a) (A:g≠g'):BxN (w.setCell ⟨g',i,none⟩ v) g k s n al ks t a:=(ZrN w ⟨g',i,none⟩ g v A).trans h
theorem BxN.cells (h:BxN w g k s n al ks t a):w.cell? ⟨g,0,none⟩=some (nI (k:Nat))/\w.cell? ⟨g,1,none⟩=some (.string (str s))/\w.cell? ⟨g,2,none⟩=some (.string (str n))/\w.cell? ⟨g,3,none⟩=some al/\
 w.cell? ⟨g,4,none⟩=some ks/\w.cell? ⟨g,5,none⟩=some (.string (str t))/\w.cell? ⟨g,6,none⟩=some (nI (a:Nat)):=by
 refine ⟨?_,?_,?_,?_,?_,?_,?_⟩<;>(rw[ZqI _ _ _ _ _ _ h];rfl)
theorem BxN.frozen (h:BxN w g k s n al ks t a):w.frozen? ⟨g,1,none⟩=false/\w.frozen? ⟨g,2,none⟩=false/\w.frozen? ⟨g,3,none⟩=false/\w.frozen? ⟨g,4,none⟩=false:=
 ⟨Zrk h 1,Zrk h 2,Zrk h 3,Zrk h 4⟩
theorem BxN.space (h:BxN w g k s n al ks t a) (u:List UInt8):BxN (w.setCell ⟨g,1,none⟩ (.string (str u))) g k u n al ks t a:=Zrh w g 1 _ _ _ h
theorem BxN.name (h:BxN w g k s n al ks t a) (u:List UInt8):BxN (w.setCell ⟨g,2,none⟩ (.string (str u))) g k s u al ks t a:=Zrh w g 2 _ _ _ h
theorem BxN.attrs (h:BxN w g k s n al ks t a) (u:Value):BxN (w.setCell ⟨g,3,none⟩ u) g k s n u ks t a:=Zrh w g 3 _ _ _ h
theorem BxN.kids (h:BxN w g k s n al ks t a) (u:Value):BxN (w.setCell ⟨g,4,none⟩ u) g k s n al u t a:=Zrh w g 4 _ _ _ h
end
theorem Ze:(prog.info? 25).map (λi=>i.size)=some 7:=by kernel_rfl
theorem Zz {k a n c m d:Nat} {s nm t:List UInt8} {A B:Option Addr}:(#[Value.int .i64 (k:Nat),.string (str s),.string (str nm),.slice A n c,.slice B m d,.string (str t),nI (a:Nat)]).all (λu=>u.oneCell')=true:=by simp[Value.oneCell']
theorem KI {P:Program} {A:Func} {p u x y:Tmp} {ty:TypeId} (h:A.results=#[.cell p ty,.tmp u,.tmp x,.tmp y]) (tmps:Array Value) (w:Wq):
 (results A tmps).run P w=
  ((asAddr (tmps.getD p undef)).run P w).andThen λa C=>((loadVar ty a).run P C).andThen λv D=> .ok (.tuple #[v,tmps.getD u undef,tmps.getD x undef,tmps.getD y undef]) D:=by
 simp only[results,h];simp[Sem.run_bind,Result.andThen]
theorem Z3 {P:Program} {A:Func} {p u x y:Tmp} {ty:TypeId} (h:A.results=#[.cell p ty,.tmp u,.tmp x,.tmp y]) (tmps:Array Value) (w:Wq) (g:Nat) (t:TypeId) (cs:Array Value) (fr:Nat×Nat) (d:TypeDesc)
 (H:tmps.getD p undef= .pointer (some ⟨g,0,none⟩)) (D:w.heap[g]? =some (.cells cs t fr))
 (I:P.underlying ty=some d) (C:(match d with| .struct _| .array _ _=>true|_=>false)=true) (F:(P.info? ty).map (·.size)=some cs.size):
 (results A tmps).run P w= .ok (.tuple #[.agg cs,tmps.getD u undef,tmps.getD x undef,tmps.getD y undef]) w:=by
 rw[KI h,H];simp[asAddr,run_loadVar_row w g t ty cs fr d D I C F]
def HeadRet (B:Nat) (w:Wq) (v:Value) (at_:Nat):Except PErr (List UInt8×List UInt8×List AtP×Scope)->Prop
 | .ok (sp,l,al,inner)=>∃av iv,v= .tuple #[.agg #[nI 0,.string (str sp),.string (str l),av,sN,.string (str []),nI (at_:Nat)],iv,nI 0,nI 0]/\RAts w av al/\RSc w iv inner/\∀g,av.ownBlock=some g->B<=g
 | .error (y,c)=>∃m:Nc,v= .tuple #[.agg (cellsN m).toArray,sN,nI (y:Nat),nI (c:Nat)]/\slN m
theorem Zk9:(prog.info? 211).map (λi=>(i.zero,i.size,i.bytes))=some (some (.agg #[eS,eS]),2,32):=by kernel_rfl
theorem ZdE (l:List UInt8):∃b,splitAns (splitL l)= .tuple #[.string (str ((splitL l).getD ([],[])).1),.string (str ((splitL l).getD ([],[])).2),.bool b]:=by
 cases h:splitL l with
 |none=>exact ⟨false,rfl⟩
 |some pq=>exact ⟨true,rfl⟩
theorem Zpa {a:List UInt8} (h:(str a).toList.isEmpty=true):(a== [])=true:=by
 rw[Zn,Zg] at h;rw[Zsi.1 h];rfl
theorem Zn3 {a:List UInt8} (h:(str a).toList.isEmpty=false):(a== [])=false:=by
 rw[Zn,Zg] at h;cases a with
 |nil=>cases h
 |cons x t=>rfl
theorem Zev {w w':Wq} {base A size C n Q:Nat} {e I:TypeId} {v H:Value} {xs F:List Value} (h:w.ownsRow base e size v n xs) (J:w.ownsRow A I C H Q F) (D:∀g,v.ownBlock=some g->g<A) (O:w.grownBy w' H.ownBlock):w'.ownsRow base e size v n xs:=by
 refine h.kept O ?_;cases hv:v.ownBlock with
 |none=>exact Or.inl rfl
 |some g=>refine Or.inr λe=> ?_;have R:=(J.lt g e.symm).1;have:=D g hv;omega
end
def resAt (sc:Scope) (done rest:List Nd):Except PErr (List Nd):=
 match resKids rest sc with
 | .error x=> .error x
 | .ok t=> .ok (done++t)
theorem Zhv (sc:Scope) (ks:List Nd):resAt sc [] ks=resKids ks sc:=by
 unfold resAt;cases resKids ks sc<;>rfl
theorem ZlR (sc:Scope) (done:List Nd):resAt sc done []= .ok done:=by
 unfold resAt;rw[resKids];dsimp only;rw[Zrb]
theorem Zjx {sc:Scope} {done t:List Nd} {k:Nd} (h:k.kind=0):resAt sc done (k::t)=match resP k sc with| .error x=> .error x| .ok k'=>resAt sc (done++ [k']) t:=by
 unfold resAt;rw[resKids,ZqN h];cases resP k sc with
 |error x=>rfl
 |ok k'=>
  dsimp only;cases resKids t sc with
  |error x=>rfl
  |ok t'=>simp
theorem Zjy {sc:Scope} {done t:List Nd} {k:Nd} (h:k.kind≠0):resAt sc done (k::t)=resAt sc (done++ [k]) t:=by
 unfold resAt;rw[resKids,ZqH h];dsimp only;cases resKids t sc with
 |error x=>rfl
 |ok t'=>simp
theorem Qb:∀(al:List AtP) (sc inner:Scope),declsGo al sc= .ok inner->inner.length<=sc.length+al.length
 | [],sc,inner,h=>by
  rw[declsGo] at h
  injection h with h
  rw[<-h]
  omega
 |a::t,sc,inner,h=>by
  rw[declsGo] at h
  rw[ZqK]
  split at h
  ·cases h
  ·split at h
   ·split at h
    ·cases h
    ·have:=Qb t _ inner h
     rw[ZqG] at this
     refine ZqM this ?_
     show _+1+_<=_
     omega
   ·have:=Qb t sc inner h
    omega
theorem Zk4 {n:Nd} {sc inner:Scope} {sp l:List UInt8} {al:List AtP} (h:headP n sc= .ok (sp,l,al,inner)):inner.length<=sc.length+n.attrs.length:=by
 unfold headP at h;split at h
 ·cases h
 ·split at h
  ·cases h
  ·split at h
   ·cases h
   ·rename_i C A;split at h
    ·cases h
    ·split at h
     ·cases h
     ·injection h with h;injection h with _ h;injection h with _ h;injection h with _ h;rw[<-h];exact Qb _ _ _ A
mutual
def Nd.ht:Nd->Nat
 | .mk _ _ _ _ ks _ _=>1+Nds.ht ks
def Nds.ht:List Nd->Nat
 | []=>0
 |x::t=>max x.ht (Nds.ht t)
end
theorem Nds.ht_le {n:Nat}:∀l:List Nd,Nds.ht l<=n↔∀x∈l,x.ht<=n
 | []=>by rw[Nds.ht];simp
 |x::t=>by rw[Nds.ht,Nat.max_le,Nds.ht_le t];simp
theorem Zaf {l:List Nd} {x:Nd} (h:x∈l):x.ht<=Nds.ht l:=(Nds.ht_le l).1 (ZqE _) x h
theorem Zh9 {n:Nat} {ks:List Nd} {t:List UInt8} {a:Nat} (H:1<=n) (F:Nds.ht ks<=n):Nds.ht (addText ks t a)<=n:=by
 have A:=(Nds.ht_le ks).1 F;unfold addText;split
 ·rename_i s nm al kk u b D;have C:Nd.mk 1 s nm al kk u b∈ks:=List.mem_of_getLast? D;refine (Nds.ht_le _).2 λx h=> ?_;rcases Zq0.1 h with h|h
  ·exact A x (List.dropLast_subset _ h)
  ·have:=A _ C;rw[ZqU.1 h,Nd.ht];rw[Nd.ht] at this;exact this
 ·refine (Nds.ht_le _).2 λx h=> ?_;rcases Zq0.1 h with h|h
  ·exact A x h
  ·rw[ZqU.1 h];unfold charD;rw[Nd.ht,Nds.ht];omega
theorem Zj0 (fin:Nat):∀f:Nat,(∀(d:Nat) (l:List Tok) (x:Nd) (r:List Tok),elemP fin f d l= .ok (x,r)->x.ht+d<=102)/\
 (∀(d:Nat) (t:Tok) (ks:List Nd) (l:List Tok) (x:Nd) (r:List Tok),kidsP fin f d t ks l= .ok (x,r)->d<=100->Nds.ht ks+d<=101->x.ht+d<=102)
 |0=>⟨λd l x r h=>(by rw[elemP] at h;cases h),λd t ks l x r h=>(by rw[kidsP] at h;cases h)⟩
 |f+1=>by
  obtain ⟨D,A⟩:=Zj0 fin f;refine ⟨λd l x r h=> ?_,λd t ks l x r h F J=> ?_⟩
  ·cases l with
   |nil=>rw[elemP] at h;cases h
   |cons t l=>
    rw[elemP] at h;split at h
    ·cases h
    ·split at h
     ·injection h with h;injection h with h1 h2;subst h1;rw[Nd.ht,Nds.ht];omega
     ·exact A d t [] l x r h om (by rw[Nds.ht];omega)
  ·cases l with
   |nil=>rw[kidsP] at h;cases h
   |cons u l=>
    rw[kidsP] at h;split at h
    ·split at h
     ·cases h
     ·injection h with h;injection h with h1 h2;subst h1;rw[Nd.ht];omega
    ·split at h
     ·split at h
      ·cases h
      ·rename_i k r' H;have I:=D _ _ _ _ H;refine A d t _ r' x r h F ?_;have:Nds.ht (ks++ [k])<=101 - d:=(Nds.ht_le _).2 λy C=>by
        rcases Zq0.1 C with C|C
        ·have:=Zaf C;omega
        ·rw[ZqU.1 C];omega
       omega
     ·refine A d t _ l x r h F ?_;have:=Zh9 (n:=101 - d) (ks:=ks) (t:=u.text) (a:=u.at_) om om;omega
theorem Zb7 {fin:Nat}:∀(f:Nat) (found:Option Nd) (l:List Tok) (x:Nd),docGo fin f found l= .ok x->(∀y,found=some y->y.ht<=101)->x.ht<=101
 |0,found,l,x,h,_=>by rw[docGo] at h;cases h
 |f+1,found,[],x,h,hf=>by
  rw[YP] at h
  cases found with
  |none=>cases h
  |some y=>
   injection h with h
   rw[<-h]
   exact hf y rfl
 |f+1,found,t::r,x,h,hf=>by
  rw[Yz] at h
  split at h
  ·cases h
  ·split at h
   ·cases h
   ·split at h
    ·split at h
     ·cases h
     ·exact Zb7 f found r x h hf
    ·split at h
     ·cases h
     ·rename_i y r' C
      have D:=(Zj0 fin _).1 _ _ _ _ C
      exact Zb7 f (some y) r' x h (by intro z A;injection A with A;rw[<-A];omega)
theorem ZjU {s:List UInt8} {x:Nd} (h:docP s= .ok x):x.ht<=101:=by
 rw[Js] at h;split at h
 ·cases h
 ·exact Zb7 _ none _ x h (by intro y e;cases e)
def titleL:List UInt8:= [116,105,116,108,101]
def attrIn (al:List AtP) (nm:List UInt8):Option (List UInt8):=(al.find? λa=>a.space== [] && a.name==nm).map AtP.value
def attrL (n:Nd) (nm:List UInt8):Option (List UInt8):=attrIn n.attrs nm
mutual
def Nd.cnt:Nd->Nat
 | .mk _ _ _ _ ks _ _=>1+Nds.cnt ks
def Nds.cnt:List Nd->Nat
 | []=>0
 |x::t=>x.cnt+Nds.cnt t
end
theorem Nds.cnt_app:∀a b:List Nd,Nds.cnt (a++b)=Nds.cnt a+Nds.cnt b
 | [],b=>by rw[Nds.cnt];simp
 |x::t,b=>by
  have h:=Nds.cnt_app t b
  show Nds.cnt (x::(t++b))=_
  rw[Nds.cnt,Nds.cnt,h]
  omega
theorem Zbx (x:Nd):Nds.cnt [x]=x.cnt:=by rw[Nds.cnt,Nds.cnt];omega
theorem Zox (x:Nd):1<=x.cnt:=by cases x;rw[Nd.cnt];omega
theorem ZfT (ks:List Nd) (t:List UInt8) (a:Nat):Nds.cnt (addText ks t a)<=Nds.cnt ks+1:=by
 unfold addText;split
 ·rename_i s nm al kk u b h;obtain ⟨ys,rfl⟩:=List.getLast?_eq_some_iff.1 h;rw[List.dropLast_concat,Nds.cnt_app,Nds.cnt_app,Zbx,Zbx,Nd.cnt,Nd.cnt];omega
 ·rw[Nds.cnt_app,Zbx];unfold charD;rw[Nd.cnt,Nds.cnt];omega
theorem Zmt (fin:Nat):∀f:Nat,(∀(d:Nat) (l:List Tok) (x:Nd) (r:List Tok),elemP fin f d l= .ok (x,r)->x.cnt+r.length<=l.length)/\
 (∀(d:Nat) (t:Tok) (ks:List Nd) (l:List Tok) (x:Nd) (r:List Tok),kidsP fin f d t ks l= .ok (x,r)->x.cnt+r.length<=1+Nds.cnt ks+l.length):=by
 intro f
 induction f with
 |zero=>exact ⟨λd l x r h=>(by rw[elemP] at h;cases h),λd t ks l x r h=>(by rw[kidsP] at h;cases h)⟩
 |succ f ih=>
  obtain ⟨F,A⟩:=ih;refine ⟨λd l x r h=> ?_,λd t ks l x r h=> ?_⟩
  ·cases l with
   |nil=>rw[elemP] at h;cases h
   |cons t l=>
    rw[elemP] at h;rw[ZqK];split at h
    ·cases h
    ·split at h
     ·injection h with h;injection h with D C;subst D;subst C;rw[Nd.cnt,Nds.cnt];omega
     ·have:=A d t [] l x r h;rw[Nds.cnt] at this;omega
  ·cases l with
   |nil=>rw[kidsP] at h;cases h
   |cons u l=>
    rw[kidsP] at h;rw[ZqK];split at h
    ·split at h
     ·cases h
     ·injection h with h;injection h with D C;subst D;subst C;rw[Nd.cnt];omega
    ·split at h
     ·split at h
      ·cases h
      ·rename_i k r' H;have D:=F _ _ _ _ H;have C:=A d t _ r' x r h;rw[Nds.cnt_app,Zbx] at C;rw[ZqK] at D;omega
     ·have C:=A d t _ l x r h;have:=ZfT ks u.text u.at_;omega
theorem ZkG {fin N:Nat}:∀(f:Nat) (found:Option Nd) (l:List Tok) (x:Nd),docGo fin f found l= .ok x->(∀y,found=some y->y.cnt+l.length<=N)->l.length<=N->x.cnt<=N:=by
 intro f
 induction f with
 |zero=>exact λfound l x h _ _=>by rw[docGo] at h;cases h
 |succ f ih=>
  intro found l x h A H;cases l with
  |nil=>
   rw[YP] at h;cases found with
   |none=>cases h
   |some y=>injection h with h;rw[<-h];have:=A y rfl;rw[Zq5] at this;omega
  |cons t r=>
   rw[ZqK] at H A;rw[Yz] at h;split at h
   ·cases h
   ·split at h
    ·cases h
    ·split at h
     ·split at h
      ·cases h
      ·exact ih found r x h (λy C=>by have:=A y C;omega) om
     ·split at h
      ·cases h
      ·rename_i y r' C;have D:=(Zmt fin _).1 _ _ _ _ C;rw[ZqK] at D;exact ih (some y) r' x h (by intro z F;injection F with F;rw[<-F];omega) om
theorem ZmD {s:List UInt8} {x:Nd} (h:docP s= .ok x):x.cnt<=s.length:=by
 rw[Js] at h;split at h
 ·cases h
 ·rename_i l A;have C:=(VJ A).len;have:=ZkG (N:=l.length) _ none l x h (by intro y e;cases e) (ZqE _);omega
mutual
theorem Zhw:∀(n m:Nd) (sc:Scope),resP n sc= .ok m->m.cnt=n.cnt
 | .mk k s n al ks t a,m,sc,h=>by
  rw[resP] at h
  split at h
  ·cases h
  ·split at h
   ·cases h
   ·rename_i ks' hk
    have h2:=Za5 ks ks' _ hk
    injection h with h
    subst h
    rw[Nd.cnt,Nd.cnt,h2]
theorem Za5:∀(ks r:List Nd) (sc:Scope),resKids ks sc= .ok r->Nds.cnt r=Nds.cnt ks
 | [],r,sc,h=>by
  rw[resKids] at h
  injection h with h
  subst h
  rfl
 |k::t,r,sc,h=>by
  rw[resKids] at h
  split at h
  ·cases h
  ·rename_i k' hk'
   split at h
   ·cases h
   ·rename_i t' ht'
    injection h with h
    subst h
    have h2:=Za5 t t' sc ht'
    have h1:k'.cnt=k.cnt:=by
     split at hk'
     ·exact Zhw k k' sc hk'
     ·injection hk' with hk';rw[hk']
    rw[Nds.cnt,Nds.cnt,h1,h2]
end
theorem AtP.fits_mono {a b:Nat} (h:a<=b) {x:AtP} (A:x.fits a):x.fits b:=by
 unfold AtP.fits at*;omega
mutual
theorem Nd.fits_mono {a b:Nat} (h:a<=b):∀n:Nd,n.fits a->n.fits b
 | .mk k s nm al ks t at_,hn=>by
  rw[Nd.fits] at hn|-
  obtain ⟨h1,h2,h3,h4,h5,h6,h7,h8,h9⟩:=hn
  exact ⟨h1,by omega,by omega,by omega,λx hx=>AtP.fits_mono h (h5 x hx),by omega,by omega,by omega,Nds.fits_mono h ks h9⟩
theorem Nds.fits_mono {a b:Nat} (h:a<=b):∀l:List Nd,Nds.fits a l->Nds.fits b l
 | [],_=>by rw[Nds.fits];trivial
 |x::t,hn=>by
  rw[Nds.fits] at hn|-
  exact ⟨Nd.fits_mono h x hn.1,Nds.fits_mono h t hn.2⟩
end
def AtP.fd (n:Nat) (a:AtP):Prop:=a.space.length<=2*n/\a.name.length<=n/\a.value.length<=2*n
mutual
def Nd.fd (n:Nat):Nd->Prop
 | .mk k s nm al ks t a=>k<=1/\s.length<=2*n/\nm.length<=n/\al.length<=n/\(∀b∈al,b.fd n)/\ks.length<=n/\t.length<=2*n/\True/\Nds.fd n ks
def Nds.fd (n:Nat):List Nd->Prop
 | []=>True
 |x::t=>x.fd n/\Nds.fd n t
end
theorem Nds.fd_iff {n:Nat}:∀l:List Nd,Nds.fd n l↔∀x∈l,x.fd n
 | []=>by rw[Nds.fd];simp
 |x::t=>by rw[Nds.fd,Nds.fd_iff t];simp
mutual
theorem Nd.fits_fd {N:Nat}:∀n:Nd,n.fits N->n.fd N
 | .mk k s nm al ks t at_,hn=>by
  rw[Nd.fits] at hn
  rw[Nd.fd]
  obtain ⟨h1,h2,h3,h4,h5,h6,h7,h8,h9⟩:=hn
  exact ⟨h1,h2,h3,h4,λx hx=>⟨(h5 x hx).1,(h5 x hx).2.1,(h5 x hx).2.2.1⟩,h6,h7,trivial,Nds.fits_fd ks h9⟩
theorem Nds.fits_fd {N:Nat}:∀l:List Nd,Nds.fits N l->Nds.fd N l
 | [],_=>by rw[Nds.fd];trivial
 |x::t,hn=>by
  rw[Nds.fits] at hn
  rw[Nds.fd]
  exact ⟨Nd.fits_fd x hn.1,Nds.fits_fd t hn.2⟩
end
theorem Zn6 {s:List UInt8} {m:Nd} (h:treeP s=some m):s.length<=5000/\m.fd 5000/\m.kind=0/\m.cnt<=5000:=by
 unfold treeP at h;split at h
 ·cases h
 ·rename_i O;split at h
  ·cases h
  ·rename_i n C;split at h
   ·cases h
   ·rename_i r D;injection h with h;subst h;have F:=QO C;have I:=ZmD C;have A:=ZeD (N:=5000) (by decide) n r [] D (Nd.fits_mono om n F.1) (by intro b H;cases H);have J:=Zhw n r [] D;exact ⟨om,Nd.fits_fd _ A.1,A.2,om⟩
theorem Zib {N:Nat} {al:List AtP} (h:∀b∈al,b.fd N) {nm v:List UInt8} (A:attrIn al nm=some v):v.length<=2*N:=by
 unfold attrIn at A;cases hf:al.find? (λa=>a.space== [] && a.name==nm) with
 |none=>rw[hf] at A;cases A
 |some a=>rw[hf] at A;injection A with A;rw[<-A];exact (h a (List.mem_of_find?_eq_some hf)).2.2
theorem Zkm {N:Nat} {n:Nd} (h:n.fd N) {nm v:List UInt8} (A:attrL n nm=some v):v.length<=2*N:=by
 obtain ⟨k,s,m,al,ks,t,a⟩:=n;rw[Nd.fd] at h;exact Zib h.2.2.2.2.1 A
theorem Zm1 {N:Nat} {n:Nd} (h:n.fd N) (nm:List UInt8):((attrL n nm).getD []).length<=2*N:=by
 cases hv:attrL n nm with
 |none=>exact ZqO _
 |some v=>exact Zkm h hv
def wescB (v:Bool) (c:UInt8):List UInt8:=
 if c=38 then [38,97,109,112,59] else if c=60 then [38,108,116,59] else if c=62 then [38,103,116,59] else if c=13 then [38,35,49,51,59]
 else if v=false then [] else if c=34 then [38,113,117,111,116,59] else if c=9 then [38,35,57,59] else if c=10 then [38,35,49,48,59] else []
def wescC (v:Bool) (c:UInt8):List UInt8:=if wescB v c= [] then [c] else wescB v c
def wescL (v:Bool):List UInt8->List UInt8
 | []=> []
 |c::t=>wescC v c++wescL v t
def attrW (a:AtP):List UInt8:= [32]++a.name++ [61,34]++wescL true a.value++ [34]
def attrsW:List AtP->List UInt8
 | []=> []
 |a::t=>attrW a++attrsW t
mutual
def nodeW:Nd->List UInt8
 | .mk k _ n al ks t _=>if k=1 then wescL false t else [60]++n++attrsW al++(if ks.isEmpty then [47,62] else [62]++nodesW ks++ [60,47]++n++ [62])
def nodesW:List Nd->List UInt8
 | []=> []
 |x::t=>nodeW x++nodesW t
end
def headW:List UInt8:= [60,63,120,109,108,32,118,101,114,115,105,111,110,61,34,49,46,48,34,32,101,110,99,111,100,105,110,103,61,34,85,84,70,45,56,34,63,62,10]
def charsOk (l:List UInt8):Bool:=decide ((check l).2=0)
def attrsOk:List AtP->List (List UInt8)->Bool
 | [],_=>true
 |a::t,seen=>a.space.isEmpty && !(seen.contains a.name) && isQ a.name && charsOk a.value && attrsOk t (seen++ [a.name])
mutual
def nodeOk:Nat->Nd->Bool
 |d,.mk k s n al ks t _=>decide (k=0) && decide (d<=100) && s.isEmpty && t.isEmpty && isQ n && attrsOk al [] && kidsOk d false ks
def kidsOk:Nat->Bool->List Nd->Bool
 |_,_,[]=>true
 |d,data,k::t=>(if k.kind=1 then !data && !k.text.isEmpty && charsOk k.text && k.space.isEmpty && k.name.isEmpty && k.attrs.isEmpty && k.kids.isEmpty else nodeOk (d+1) k) && kidsOk d (decide (k.kind=1)) t
end
def docW (n:Nd):List UInt8:=headW++nodeW n++ [10]
def pairA (p:List UInt8×List UInt8):AtP:=⟨[],p.1,p.2,0⟩
def withP:Nd->List (List UInt8×List UInt8)->Nd
 | .mk k s n al ks t a,ps=> .mk k s n (al++ps.map pairA) ks t a
def elemN (n:List UInt8) (ks:List Nd):Nd:= .mk 0 [] n [] (ks.filter λk=> !(decide (k.kind=1) && k.text.isEmpty)) [] 0
def lst (s:ByteArray):List UInt8:=s.data.toList
def leapN (y:Nat):Bool:=(y % 4==0 && y % 100 !=0)||y % 400==0
def dimN (y m:Nat):Nat:=if m=2 then (if leapN y then 29 else 28) else if m=4\/m=6\/m=9\/m=11 then 30 else 31
def befN (y:Nat):Nat:=365*(y - 1)+(y - 1) / 4 - (y - 1) / 100+(y - 1) / 400
def lenN (y:Nat):Nat:=if leapN y then 366 else 365
theorem QX (y:Nat):leapN y=true↔(y % 4=0/\y % 100≠0)\/y % 400=0:=by simp[leapN]
theorem Jz (y:Nat) (h:1<=y):befN (y+1)=befN y+lenN y:=by
 obtain ⟨p,rfl⟩:∃p,y=p+1:=⟨y - 1,om⟩;unfold befN lenN;simp only[Nat.add_sub_cancel];have A:=QX (p+1);have F:(p+1) / 4=p / 4+if (p+1) % 4=0 then 1 else 0:=by split<;>omega
 have D:(p+1) / 100=p / 100+if (p+1) % 100=0 then 1 else 0:=by split<;>omega
 have C:(p+1) / 400=p / 400+if (p+1) % 400=0 then 1 else 0:=by split<;>omega
 have I:(p+1) % 400=0->(p+1) % 100=0:=om
 have i2:(p+1) % 100=0->(p+1) % 4=0:=om
 have H:p / 100<=365*p:=om
 rw[F,D,C];generalize p / 4=a at*;generalize p / 100=b at*;generalize p / 400=c at*;generalize (p+1) % 4=x at*;generalize (p+1) % 100=u at*;generalize (p+1) % 400=v at*;cases hb:leapN (p+1) with
 |true=>rw[hb] at A;have A:=A.1 rfl;simp only[Zsy];split<;>split<;>split<;>omega
 |false=>
  rw[hb] at A;have A:¬((x=0/\u≠0)\/v=0):=λh=>by have:=A.2 h;cases this
  simp only[ZrW,ZsJ];split<;>split<;>split<;>omega
def monN (y:Nat):Nat->Nat
 |0=>0
 |m+1=>monN y m+dimN y (m+1)
theorem Zbz (y:Nat):monN y 12=lenN y:=by
 have:∀b:Bool,0+(if (1:Nat)=2 then (if b=true then 29 else 28) else if 1=4\/1=6\/1=9\/1=11 then 30 else 31)+(if b=true then 29 else 28)+31+30+31+30+31+31+30+31+30+31=if b=true then 366 else 365:=by decide
 exact this (leapN y)
theorem JK (y m:Nat):28<=dimN y m/\dimN y m<=31:=by
 unfold dimN
 repeat' split
 all_goals omega
theorem Zem (y:Nat) {a b:Nat} (h:a<=b):monN y a<=monN y b:=by
 induction h with
 |refl=>exact ZqE _
 |step _ ih=>exact ZqM ih (Nat.le_add_right _ _)
theorem ZdP {a b:Nat} (A:1<=a) (h:a<=b):befN a<=befN b:=by
 induction h with
 |refl=>exact ZqE _
 | @step m hm ih=>rw[Jz m (ZqM A hm)];omega
def IsDate (n y m d:Nat):Prop:=1<=y/\1<=m/\m<=12/\1<=d/\d<=dimN y m/\n=befN y+monN y (m - 1)+(d - 1)
theorem IsDate.year {n y m d:Nat} (h:IsDate n y m d):befN y<=n/\n<befN (y+1):=by
 obtain ⟨D,H,A,F,C,rfl⟩:=h;refine ⟨om,?_⟩;rw[Jz y D,<-Zbz y];obtain ⟨k,rfl⟩:∃k,m=k+1:=⟨m - 1,om⟩;have:=Zem y A;rw[monN] at this;rw[Nat.add_sub_cancel];omega
def yearN (n:Nat):Nat:=
 let a:=n / 146097;let r:=n % 146097
 let b:=min (r / 36524) 3;let s:=r - b*36524
 let c:=min (s / 1461) 24;let t:=s - c*1461
 1+400*a+100*b+4*c+min (t / 365) 3
theorem ZjN (a b c e:Nat) (D:b<=3) (F:c<=24) (H:e<=3):befN (1+400*a+100*b+4*c+e)=146097*a+36524*b+1461*c+365*e:=by
 unfold befN;have C:(1+400*a+100*b+4*c+e - 1) / 4=100*a+25*b+c:=om
 have A:(1+400*a+100*b+4*c+e - 1) / 100=4*a+b:=om
 have h:(1+400*a+100*b+4*c+e - 1) / 400=a:=om
 rw[C,A,h];omega
theorem Zdm (n:Nat):befN (yearN n)<=n/\n<befN (yearN n+1)/\1<=yearN n:=by
 obtain ⟨a,I⟩:∃a,n / 146097=a:=⟨_,rfl⟩;obtain ⟨r,O⟩:∃r,n % 146097=r:=⟨_,rfl⟩;have H:n=146097*a+r/\r<146097:=om
 obtain ⟨b,S⟩:∃b,min (r / 36524) 3=b:=⟨_,rfl⟩;have D:=H.2;have A:b<=3/\36524*b<=r/\(b<3->r - b*36524<36524)/\r - b*36524<=36524:=by clear H O I;omega
 obtain ⟨s,U⟩:∃s,r - b*36524=s:=⟨_,rfl⟩;rw[U] at A;have Q:r=36524*b+s:=by clear H O I S D;omega
 have hj:s<=36524:=A.2.2.2;have R:=A.2.2.1;obtain ⟨c,X⟩:∃c,min (s / 1461) 24=c:=⟨_,rfl⟩;have C:c<=24/\1461*c<=s/\s - c*1461<1461:=by clear H O I S D A Q U R;omega
 obtain ⟨t,Y⟩:∃t,s - c*1461=t:=⟨_,rfl⟩;rw[Y] at C;have Z:s=1461*c+t:=by clear H O I S D A Q U R X;omega
 have hk:=C.2.2;obtain ⟨e,he⟩:∃e,min (t / 365) 3=e:=⟨_,rfl⟩;have J:e<=3/\365*e<=t/\(t - 365*e<365\/(e=3/\t=1460)):=by clear H O I S D A Q U R X Z C Y;omega
 have hy:yearN n=1+400*a+100*b+4*c+e:=by unfold yearN;simp only[I,O,S,U,X,Y,he]
 have F:=ZjN a b c e A.1 C.1 J.1;have V:1<=yearN n:=by rw[hy];omega
 rw[Jz _ V,hy,F];have hl:365<=lenN (1+400*a+100*b+4*c+e):=by unfold lenN;split<;>omega
 have hf:=A.1;have hg:=C.1;have hh:=J.2.1;have hi:=H.1;clear O I S X he Y U F H;refine ⟨om,?_,om⟩;rcases J.2.2 with h|⟨h3,h4⟩
 ·omega
 ·have:lenN (1+400*a+100*b+4*c+e)=366:=by
   unfold lenN;rw[ZqN];rw[QX];by_cases hd:c=24
   ·have:b=3:=om;right;omega
   ·left;omega
  omega
def monthGo (y:Nat):Nat->Nat->Nat->Nat×Nat
 |0,m,left=>(m,left)
 |k+1,m,left=>if dimN y m<=left then monthGo y k (m+1) (left - dimN y m) else (m,left)
theorem ZcJ (y:Nat):∀(k m left:Nat),1<=m->m+k=12->monN y (m - 1)+left<lenN y->
 1<=(monthGo y k m left).1/\(monthGo y k m left).1<=12/\(monthGo y k m left).2<dimN y (monthGo y k m left).1/\monN y ((monthGo y k m left).1 - 1)+(monthGo y k m left).2=monN y (m - 1)+left
 |0,m,left,h1,h2,A=>by
  have:m=12:=om
  subst this;have C:monN y 11+dimN y 12=lenN y:=Zbz y;have A:monN y 11+left<lenN y:=A;exact ⟨Nat.le_add_left 1 11,ZqE 12,by show left<dimN y 12;omega,rfl⟩
 |k+1,m,left,h1,h2,A=>by
  unfold monthGo;by_cases h:dimN y m<=left
  ·rw[ZqN h];have D:monN y (m+1 - 1)=monN y (m - 1)+dimN y m:=(by obtain ⟨j,rfl⟩:∃j,m=j+1:=⟨m - 1,om⟩;rfl);have:=ZcJ y k (m+1) (left - dimN y m) om om om;rw[D] at this;refine ⟨this.1,this.2.1,this.2.2.1,?_⟩;rw[this.2.2.2];omega
  ·rw[ZqH h];exact ⟨h1,by show m<=12;omega,by show left<dimN y m;omega,rfl⟩
def dateN (n:Nat):Nat×Nat×Nat:=
 let y:=yearN n;let p:=monthGo y 11 1 (n - befN y)
 (y,p.1,p.2+1)
theorem Zb3 (n:Nat):IsDate n (dateN n).1 (dateN n).2.1 (dateN n).2.2:=by
 have h:=Zdm n;have C:=Jz (yearN n) h.2.2;have:=ZcJ (yearN n) 11 1 (n - befN (yearN n)) (ZqE 1) rfl (by show 0+(n - befN (yearN n))<lenN (yearN n);omega);refine ⟨h.2.2,this.1,this.2.1,Nat.le_add_left 1 _,this.2.2.1,?_⟩;show n=befN (yearN n)+monN (yearN n) ((monthGo (yearN n) 11 1 (n - befN (yearN n))).1 - 1)+((monthGo (yearN n) 11 1 (n - befN (yearN n))).2+1 - 1);have A:=this.2.2.2;rw[show monN (yearN n) (1 - 1)=0 from rfl] at A;omega
theorem IsDate.top {n y m d:Nat} (h:IsDate n y m d) (D:n<3652059):y<=9999:=by
 have:=h.year;have C:befN 10000=3652059:=by decide
 by_cases A:y<=9999
 ·exact A
 ·have:=ZdP (a:=10000) (b:=y) om om;omega
def secsP (y m d h mi s:Nat):Option Int:=
 if 1<=y/\y<=9999/\1<=m/\m<=12/\1<=d/\d<=dimN y m/\h<=23/\mi<=59/\s<=59 then
  some (((befN y+monN y (m - 1)+(d - 1):Nat):Int)*86400 - 62135596800+((h*3600+mi*60+s:Nat):Int))
 else none
def dg (n:Nat):UInt8:=UInt8.ofNat (48+n % 10)
def pad2 (n:Nat):List UInt8:= [dg (n / 10),dg n]
def pad4 (n:Nat):List UInt8:= [dg (n / 1000),dg (n / 100),dg (n / 10),dg n]
def fmtD (y m d s:Nat):List UInt8:=pad4 y++45::(pad2 m++45::(pad2 d++84::(pad2 (s / 3600)++58::(pad2 (s / 60 % 60)++58::(pad2 (s % 60)++ [90])))))
def sinceN (t:Int):Nat:=(t+62135596800).toNat
def fmtL (t:Int):List UInt8:=fmtD (dateN (sinceN t / 86400)).1 (dateN (sinceN t / 86400)).2.1 (dateN (sinceN t / 86400)).2.2 (sinceN t % 86400)
theorem Zgo (t:Int):(fmtL t).length=20:=by
 unfold fmtL fmtD;simp[pad2,pad4]
def digP (l:List UInt8) (i:Nat):Option Nat:=match l[i]? with
 |some c=>if 48<=c.toNat/\c.toNat<=57 then some (c.toNat - 48) else none
 |none=>none
def numP (l:List UInt8) (at_:Nat):Nat->Option Nat
 |0=>some 0
 |w+1=>match numP l at_ w,digP l (at_+w) with
  |some n,some d=>some (n*10+d)
  |_,_=>none
def sepP (l:List UInt8) (i a b:Nat):Bool:=match l[i]? with
 |some c=>decide (c.toNat=a)||decide (c.toNat=b)
 |none=>false
def digsP (l:List UInt8):Nat->Nat->Nat
 |0,_=>0
 |k+1,i=>if (digP l i).isSome then digsP l k (i+1)+1 else 0
def fracP (l:List UInt8) (at_:Nat):Option Nat:=
 if sepP l at_ 46 46 then (if digsP l l.length (at_+1)=0 then none else some (at_+1+digsP l l.length (at_+1))) else some at_
def offP (l:List UInt8) (at_:Nat):Option Int:=
 if sepP l at_ 90 122 then (if l.length=at_+1 then some 0 else none)
 else match numP l (at_+1) 2,numP l (at_+4) 2 with
  |some h,some m=>if (sepP l at_ 43 45 && sepP l (at_+3) 58 58)=true/\h<=23/\m<=59/\l.length=at_+6 then some (if sepP l at_ 45 45 then -((h*3600+m*60:Nat):Int) else ((h*3600+m*60:Nat):Int)) else none
  |_,_=>none
def stampP (l:List UInt8):Option Int:=
 if (sepP l 4 45 45 && sepP l 7 45 45 && sepP l 10 84 116 && sepP l 13 58 58 && sepP l 16 58 58)=true then
  match numP l 0 4,numP l 5 2,numP l 8 2,numP l 11 2,numP l 14 2,numP l 17 2 with
  |some y,some m,some d,some h,some mi,some s=>secsP y m d h mi s
  |_,_,_,_,_,_=>none
 else none
def timeP (l:List UInt8):Option Int:=match stampP l,fracP l 19 with
 |some t,some at_=>match offP l at_ with
  |some o=>if inT (t - o) then some (t - o) else none
  |none=>none
 |_,_=>none
theorem Zmz (n:Nat):(dg n).toNat=48+n % 10:=by unfold dg;rw[UInt8.toNat_ofNat'];omega
def atomL:List UInt8:= [104,116,116,112,58,47,47,119,119,119,46,119,51,46,111,114,103,47,50,48,48,53,47,65,116,111,109]
def feedL:List UInt8:= [102,101,101,100]
def entryL:List UInt8:= [101,110,116,114,121]
def idL:List UInt8:= [105,100]
def linkL:List UInt8:= [108,105,110,107]
def hrefL:List UInt8:= [104,114,101,102]
def relL:List UInt8:= [114,101,108]
def alternateL:List UInt8:= [97,108,116,101,114,110,97,116,101]
def updatedL:List UInt8:= [117,112,100,97,116,101,100]
def summaryL:List UInt8:= [115,117,109,109,97,114,121]
def contentL:List UInt8:= [99,111,110,116,101,110,116]
mutual
def Nd.txt:Nd->List UInt8
 | .mk k _ _ _ ks t _=>if k=1 then t else Nds.txt ks
def Nds.txt:List Nd->List UInt8
 | []=> []
 |x::t=>x.txt++Nds.txt t
end
def isE (sp nm:List UInt8) (n:Nd):Bool:=n.kind==0 && n.space==sp && n.name==nm
def kidsE (sp nm:List UInt8) (n:Nd):List Nd:=n.kids.filter (isE sp nm)
def firstT (sp nm:List UInt8) (n:Nd):Option (List UInt8):=(kidsE sp nm n).head?.map Nd.txt
def txtOf (nm:List UInt8) (n:Nd):List UInt8:=(firstT atomL nm n).getD []
def linkOk (k:Nd):Bool:=(attrL k hrefL).isSome && ((attrL k relL).isNone||attrL k relL==some alternateL)
def linkN (n:Nd):List UInt8:=match (kidsE atomL linkL n).find? linkOk with
 |some k=>(attrL k hrefL).getD []
 |none=> []
def contN (n:Nd):List UInt8:=(firstT atomL contentL n).getD (txtOf summaryL n)
def comA (n:Nd):Except PErr Int:=
 if coll (txtOf idL n)= [] then .error (n.at_,19) else match (kidsE atomL updatedL n).head? with
 |none=> .ok (-62135596800)
 |some k=>match timeP (coll k.txt) with
  |some t=> .ok t
  |none=> .error (k.at_,20)
def entA (n:Nd) (t:Int):Ent:=⟨str (txtOf idL n),str (txtOf titleL n),str (linkN n),str (contN n),t⟩
def entsA:List Nd->Except PErr (List Ent)
 | []=> .ok []
 |k::l=>match comA k with
  | .error x=> .error x
  | .ok t=>match entsA l with
   | .error x=> .error x
   | .ok m=> .ok (entA k t::m)
def fdA (n:Nd) (t:Int) (l:List Ent):Fd:=⟨[],str (txtOf idL n),str (txtOf titleL n),str (linkN n),t,l⟩
def decA (n:Nd):Except PErr Fd:=
 if n.kind≠0\/n.space≠atomL\/n.name≠feedL then .error (n.at_,18)
 else match comA n with
  | .error x=> .error x
  | .ok t=>match entsA (kidsE atomL entryL n) with
   | .error x=> .error x
   | .ok l=> .ok (fdA n t l)
def textN (nm s:List UInt8):Nd:=elemN nm [charD s 0]
def linkE (s:List UInt8):Nd:=withP (elemN linkL []) [(hrefL,s)]
def fieldsN (id title link:ByteArray) (t:Int) (more:List Nd):List Nd:=
 textN idL (lst id)::textN titleL (lst title)::((if link.size=0 then [] else [linkE (lst link)])++textN updatedL (fmtL t)::more)
def moreN (s:ByteArray):List Nd:=if s.size=0 then [] else [textN contentL (lst s)]
def entN (e:Ent):Nd:=elemN entryL (fieldsN e.id e.title e.link e.upd (moreN e.content))
def encA (f:Fd):Nd:=withP (elemN feedL (fieldsN f.id f.title f.link f.upd (f.ents.map entN))) [(xmlnsL,atomL)]
theorem Ze1 {l:List UInt8} (r:List UInt8) (h:(dec l).2≠0):dec (l++r)=dec l/\scalar (dec l).1/\(encN (dec l).1).length=(dec l).2:=by
 have F:=QM (l:=l) (r:=(dec l).1) (m:=(dec l).2) rfl h;have I:=Xi l;have A:(encN (dec l).1).length=(dec l).2:=by have:=ZqS List.length F;rw[ZqG,ZqP] at this;omega
 have C:scalar (dec l).1:=by
  unfold scalar;rcases ZrJ 1114111 (dec l).1 with D|D
  ·have:encN (dec l).1= []:=(by unfold encN;rw[ZqN (Or.inl D)]);rw[this] at A;exact absurd A.symm h
  ·by_cases H:55296<=(dec l).1/\(dec l).1<=57343
   ·have:encN (dec l).1= []:=(by unfold encN;rw[ZqN (Or.inr H)]);rw[this] at A;exact absurd A.symm h
   ·omega
 refine ⟨?_,C,A⟩
 calc dec (l++r)=dec (encN (dec l).1++(l.drop (dec l).2++r)):=by rw[<-ZqY,<-F]
  _=((dec l).1,(encN (dec l).1).length):=QL C _
  _=dec l:=by rw[A]
def reads (s:List UInt8) (k k':Nat) (L:List Tok):Prop:=∀l,toksAt s k l=toksAt s k' (l++L)
def plainAs (al:List AtP):Bool:=al.all λa=>isNm a.name && a.name !=xmlnsL
mutual
def Nd.plain:Nd->Bool
 | .mk k _ n al ks _ _=>k !=0||(isNm n && n !=xmlnsL && plainAs al && Nds.plain ks)
def Nds.plain:List Nd->Bool
 | []=>true
 |x::t=>x.plain && Nds.plain t
end
def elems (ks:List Nd):Prop:=∀k∈ks,k.kind=0
theorem II {ks:List Nd} (h:elems ks):ks.filter (λk=> !(decide (k.kind=1) && k.text.isEmpty))=ks:=by
 rw[List.filter_eq_self];intro k A;rw[h k A];rfl
theorem Je {s:ByteArray} (h:validS s=true):charsOk (lst s)=true:=by
 have A:=J7 h;unfold checkS at A;exact Zrj A
def okC (f:Fd):Prop:=charsOk (lst f.id)=true/\charsOk (lst f.title)=true/\charsOk (lst f.link)=true/\∀p∈f.path,charsOk (lst p)=true
theorem ZoV {f:Fd} (h:okH f=true):okC f:=by
 obtain ⟨D,A,F,H,I⟩:=YF.1 h;refine ⟨Je (A _ (by unfold strsF;simp)),Je (A _ (by unfold strsF;simp)),Je (A _ (by unfold strsF;simp)),λp C=>Je (A p (by unfold strsF;simp[C]))⟩
theorem Ug {d a:Nat} {n:List UInt8} {al:List AtP} {ks:List Nd} (A:d<=100) (D:isQ n=true) (h:attrsOk al []=true) (C:kidsOk d false ks=true):nodeOk d (.mk 0 [] n al ks [] a)=true:=by
 rw[nodeOk,D,h,C,Zrj A];rfl
theorem KF {a:Nat} {s n t:List UInt8} {al:List AtP} {ks:List Nd} (C:isNm n=true) (D:(n !=xmlnsL)=true) (h:plainAs al=true) (A:Nds.plain ks=true):(Nd.mk 0 s n al ks t a).plain=true:=by
 rw[Nd.plain,C,D,h,A];rfl
theorem KB {d:Nat}:∀(ks:List Nd) (data:Bool),elems ks->(∀k∈ks,nodeOk (d+1) k=true)->kidsOk d data ks=true
 | [],_,_,_=>rfl
 |x::xs,data,he,h=>by
  rw[kidsOk,ZqH (by rw[he x Zq6];decide),h x Zq6,Zr2]
  exact KB xs _ (λk A=>he k (Zq7 _ A)) λk A=>h k (Zq7 _ A)
theorem KG:∀ks:List Nd,(∀k∈ks,k.plain=true)->Nds.plain ks=true
 | [],_=>rfl
 |x::xs,h=>by
  rw[Nds.plain,h x Zq6,Zr2]
  exact KG xs λk A=>h k (Zq7 _ A)
def v1:ByteArray:=⟨#[49]⟩
section
set_option linter.unusedSimpArgs false
theorem ZaA:∀{l:List UInt8},(∀c∈l,32<=c.toNat/\c.toNat<128)->isText l
 | [],_=>Zy
 |c::t,h=>by
  obtain ⟨F,A⟩:=h c (Zq6 ..)
  have C:isChar c.toNat=true:=by simp only[isChar,Zrd];omega
  have:=Zs (Z1 C) (ZaA (l:=t) λd D=>h d (Zq7 _ D))
  rwa [(ZmH c).2 A] at this
theorem Zqh (n:Nat):32<(dg n).toNat/\(dg n).toNat<128:=by rw[Zmz];omega
theorem ZmW (t:Int):∀c∈fmtL t,32<c.toNat/\c.toNat<128:=by
 intro c h;unfold fmtL fmtD at h;simp only[pad2,pad4,Zq0,Zq1,List.not_mem_nil,ZrD] at h;have A:32<(45:UInt8).toNat/\(45:UInt8).toNat<128:=by decide
 have C:32<(84:UInt8).toNat/\(84:UInt8).toNat<128:=by decide
 have D:32<(58:UInt8).toNat/\(58:UInt8).toNat<128:=by decide
 have F:32<(90:UInt8).toNat/\(90:UInt8).toNat<128:=by decide
 rcases h with (h|h|h|h)|h|(h|h)|h|(h|h)|h|(h|h)|h|(h|h)|h|(h|h)|h<;>subst h<;>first|exact Zqh _|exact A|exact C|exact D|exact F
theorem Ej (l:List UInt8):(str l).data.toList=l:=by simp[str]
theorem ZkZ (t:Int):(checkS (str (fmtL t))).2=0:=by
 unfold checkS;rw[Ej];exact (XN _).2 (ZaA λc h=>by have:=ZmW t c h;omega)
theorem ZhU {l:List UInt8} {t:Int} (h:timeP l=some t):inT t=true:=by
 unfold timeP at h;cases h1:stampP l with
 |none=>rw[h1] at h;cases h
 |some u=>
  cases h2:fracP l 19 with
  |none=>rw[h1,h2] at h;cases h
  |some at_=>
   rw[h1,h2] at h;simp only at h;cases h3:offP l at_ with
   |none=>rw[h3] at h;cases h
   |some o=>
    rw[h3] at h;simp only at h;cases h4:inT (u - o) with
    |false=>rw[h4] at h;cases h
    |true=>rw[h4,ZqN rfl] at h;injection h with h;rw[<-h];exact h4
end
section
theorem JZ (nm s:List UInt8):textN nm s= .mk 0 [] nm [] (if s= [] then [] else [charD s 0]) [] 0:=by
 unfold textN elemN;cases s with
 |nil=>rfl
 |cons c t=>rfl
theorem ZgW (s:List UInt8):linkE s= .mk 0 [] linkL [⟨[],hrefL,s,0⟩] [] [] 0:=rfl
section
variable {id title link:ByteArray} {t:Int} {more:List Nd} {n:Nd}
end
theorem X4 (id title link:ByteArray) (t:Int) {more:List Nd} (h:elems more):elems (fieldsN id title link t more):=by
 intro k A;unfold fieldsN at A;simp only[Zq1,Zq0] at A;rcases A with rfl|rfl|A|rfl|A
 ·rw[JZ];rfl
 ·rw[JZ];rfl
 ·split at A
  ·cases A
  ·rw[ZqU.1 A];rfl
 ·rw[JZ];rfl
 ·exact h k A
theorem ZaY (s:ByteArray):elems (moreN s):=by
 intro k h;unfold moreN at h;split at h
 ·cases h
 ·rw[ZqU.1 h,JZ];rfl
theorem Zby (e:Ent):entN e= .mk 0 [] entryL [] (fieldsN e.id e.title e.link e.upd (moreN e.content)) [] 0:=by
 unfold entN elemN;rw[II (X4 _ _ _ _ (ZaY _))]
theorem Zb9 (l:List Ent):elems (l.map entN):=λk h=>by
 obtain ⟨e,_,rfl⟩:=Zrr.1 h;rw[Zby];rfl
theorem Vt (f:Fd):encA f= .mk 0 [] feedL [⟨[],xmlnsL,atomL,0⟩] (fieldsN f.id f.title f.link f.upd (f.ents.map entN)) [] 0:=by
 unfold encA elemN;rw[II (X4 _ _ _ _ (Zb9 _))];rfl
theorem ZpW:isQ feedL=true:=by decide+kernel
theorem ZoS:isNm entryL=true:=by decide+kernel
theorem Zo5:isQ entryL=true:=by decide+kernel
theorem ZqB:isNm idL=true:=by decide+kernel
theorem ZqC:isQ idL=true:=by decide+kernel
theorem ZoT:isNm titleL=true:=by decide+kernel
theorem Zo6:isQ titleL=true:=by decide+kernel
theorem ZpP:isNm linkL=true:=by decide+kernel
theorem ZpY:isQ linkL=true:=by decide+kernel
theorem ZpO:isNm hrefL=true:=by decide+kernel
theorem ZpX:isQ hrefL=true:=by decide+kernel
theorem Zlw:isNm updatedL=true:=by decide+kernel
theorem ZlM:isQ updatedL=true:=by decide+kernel
theorem Zlv:isNm contentL=true:=by decide+kernel
theorem ZlL:isQ contentL=true:=by decide+kernel
theorem Zo7:isQ xmlnsL=true:=by decide+kernel
theorem Zpt:charsOk atomL=true:=by decide+kernel
theorem Zp8 (t:Int):charsOk (fmtL t)=true:=by
 have h:=ZkZ t;unfold checkS at h;rw[Ej] at h;exact Zrj h
def okN (d:Nat) (n:Nd):Prop:=nodeOk d n=true/\n.plain=true
theorem El {d:Nat} {nm s:List UInt8} (h:d<=100) (C:isQ nm=true) (A:isNm nm=true) (F:(nm !=xmlnsL)=true) (D:charsOk s=true):okN d (textN nm s):=by
 rw[JZ];refine ⟨Ug h C rfl ?_,KF A F rfl ?_⟩
 ·cases s with
  |nil=>rfl
  |cons c t=>rw[ZqH (by simp)];unfold charD;rw[kidsOk,kidsOk,ZqN (by rfl)];simp only[Nd.text,Nd.space,Nd.name,Nd.attrs,Nd.kids,D];rfl
 ·cases s with
  |nil=>rfl
  |cons c t=>rfl
theorem Znx {d:Nat} {s:List UInt8} (h:d<=100) (A:charsOk s=true):okN d (linkE s):=by
 rw[ZgW];refine ⟨Ug h ZpY ?_ rfl,KF ZpP (by decide) ?_ rfl⟩
 ·simp only[attrsOk,ZpX,A];decide
 ·simp only[plainAs,ZsK,List.all_nil,ZpO];decide
theorem Zch {d:Nat} {id title link:ByteArray} {t:Int} {more:List Nd} (A:d<=100) (C:charsOk (lst id)=true) (D:charsOk (lst title)=true) (F:charsOk (lst link)=true) (H:∀k∈more,okN d k):
 ∀k∈fieldsN id title link t more,okN d k:=by
 intro k h;unfold fieldsN at h;simp only[Zq1,Zq0] at h;rcases h with rfl|rfl|h|rfl|h
 ·exact El A ZqC ZqB (by decide) C
 ·exact El A Zo6 ZoT (by decide) D
 ·split at h
  ·cases h
  ·rw[ZqU.1 h];exact Znx A F
 ·exact El A ZlM Zlw (by decide) (Zp8 t)
 ·exact H k h
theorem ZoG {d:Nat} {e:Ent} (D:d+1<=100) (h:okE e=true):okN d (entN e):=by
 obtain ⟨F,I,J⟩:=Q6.1 h;have C:∀s∈strsE e,charsOk (lst s)=true:=λs H=>Je (F s H);have A:=Zch (d:=d+1) (id:=e.id) (title:=e.title) (link:=e.link) (t:=e.upd) (more:=moreN e.content) D (C _ (by unfold strsE;simp)) (C _ (by unfold strsE;simp)) (C _ (by unfold strsE;simp)) (by
  intro k A;unfold moreN at A;split at A
  ·cases A
  ·rw[ZqU.1 A];exact El D ZlL Zlv (by decide) (C _ (by unfold strsE;simp)))
 rw[Zby];exact ⟨Ug om Zo5 rfl (KB _ false (X4 _ _ _ _ (ZaY _)) λk h=>(A k h).1),KF ZoS (by decide) rfl (KG _ λk h=>(A k h).2)⟩
theorem Ze5 {f:Fd} (h:okF f=true):nodeOk 1 (encA f)=true/\Nds.plain (fieldsN f.id f.title f.link f.upd (f.ents.map entN))=true:=by
 obtain ⟨c1,c2,c3,c4⟩:=ZoV (YE.1 h).1;have C:=(Q9.1 (YE.1 h).2).1;have A:=Zch (d:=2) (id:=f.id) (title:=f.title) (link:=f.link) (t:=f.upd) (more:=f.ents.map entN) (by decide) c1 c2 c3 (by
  intro k A;obtain ⟨e,D,rfl⟩:=Zrr.1 A;exact ZoG (by decide) (C e D))
 rw[Vt];refine ⟨Ug (by decide) ZpW ?_ (KB _ false (X4 _ _ _ _ (Zb9 _)) λk h=>(A k h).1),KG _ λk h=>(A k h).2⟩;simp only[attrsOk,Zo7,Zpt];decide
end
section
theorem J2:∀a b:List Nd,Nds.txt (a++b)=Nds.txt a++Nds.txt b
 | [],b=>by rw[Nds.txt];rfl
 |x::t,b=>by rw[Zrp,Nds.txt,Nds.txt,J2 t b,ZqY]
theorem Zkj {x:Nd}:∀{l:List Nd},x∈l->x.txt.length<=(Nds.txt l).length
 | [],h=>by cases h
 |y::t,h=>by
  rw[Nds.txt,ZqG]
  rcases Zq1.1 h with rfl|h
  ·omega
  ·have:=Zkj h
   omega
theorem ZfV (ks:List Nd) (t:List UInt8) (a:Nat):(Nds.txt (addText ks t a)).length=(Nds.txt ks).length+t.length:=by
 unfold addText;split
 ·rename_i s nm al kk u b h;obtain ⟨ys,rfl⟩:=List.getLast?_eq_some_iff.1 h;rw[List.dropLast_concat,J2,J2,ZqG,ZqG,Nds.txt,Nds.txt,Nd.txt,ZqN rfl,Zrb,Nds.txt,Nds.txt,Nd.txt,ZqN rfl,Zrb,ZqG];omega
 ·rw[J2,ZqG];unfold charD;rw[Nds.txt,Nds.txt,Nd.txt,ZqN rfl,Zrb]
theorem Zn8 (fin:Nat):∀f:Nat,(∀(d:Nat) (l:List Tok) (x:Nd) (r:List Tok),elemP fin f d l= .ok (x,r)->x.txt.length+txts r<=txts l)/\
 (∀(d:Nat) (t:Tok) (ks:List Nd) (l:List Tok) (x:Nd) (r:List Tok),kidsP fin f d t ks l= .ok (x,r)->x.txt.length+txts r<=(Nds.txt ks).length+txts l):=by
 intro f
 induction f with
 |zero=>exact ⟨λd l x r h=>(by rw[elemP] at h;cases h),λd t ks l x r h=>(by rw[kidsP] at h;cases h)⟩
 |succ f ih=>
  refine ⟨λd l x r h=> ?_,λd t ks l x r h=> ?_⟩
  ·cases l with
   |nil=>rw[elemP] at h;cases h
   |cons t l=>
    rw[elemP] at h;rw[Yg];split at h
    ·cases h
    ·split at h
     ·injection h with h;injection h with C A;subst C;subst A;rw[Nd.txt,ZqH (by decide),Nds.txt];simp
     ·have:=ih.2 d t [] l x r h;rw[Nds.txt] at this;simp only[Zq5] at this;omega
  ·cases l with
   |nil=>rw[kidsP] at h;cases h
   |cons u l=>
    rw[kidsP] at h;rw[Yg];split at h
    ·split at h
     ·cases h
     ·injection h with h;injection h with C A;subst C;subst A;rw[Nd.txt,ZqH (by decide)];omega
    ·split at h
     ·split at h
      ·cases h
      ·rename_i k r' D;have C:=ih.1 _ _ _ _ D;have A:=ih.2 _ _ _ _ _ _ h;rw[J2,ZqG,Nds.txt,Nds.txt,Zrb] at A;rw[Yg] at C;omega
     ·have A:=ih.2 _ _ _ _ _ _ h;rw[ZfV] at A;omega
theorem ZkH {fin N:Nat}:∀(f:Nat) (found:Option Nd) (l:List Tok) (x:Nd),docGo fin f found l= .ok x->(∀y,found=some y->y.txt.length<=N)->txts l<=N->x.txt.length<=N:=by
 intro f
 induction f with
 |zero=>exact λfound l x h _ _=>by rw[docGo] at h;cases h
 |succ f ih=>
  intro found l x h C F;cases l with
  |nil=>
   rw[YP] at h;cases found with
   |none=>cases h
   |some n=>injection h with h;subst h;exact C _ rfl
  |cons t r=>
   rw[Yz] at h;rw[Yg] at F;split at h
   ·cases h
   ·split at h
    ·cases h
    ·split at h
     ·split at h
      ·cases h
      ·exact ih _ _ _ h C om
     ·split at h
      ·cases h
      ·rename_i n r' H;have D:=(Zn8 fin _).1 _ _ _ _ H;rw[Yg] at D;exact ih _ _ _ h (λy A=>by injection A with A;subst A;omega) om
theorem ZmF {s:List UInt8} {x:Nd} (h:docP s= .ok x):x.txt.length<=2*s.length:=by
 rw[Js] at h;split at h
 ·cases h
 ·rename_i l A;have:=(VJ A).text;exact ZkH _ _ _ _ h (λy C=>by cases C) this
mutual
theorem Zhx:∀(n m:Nd) (sc:Scope),resP n sc= .ok m->n.kind=0->m.txt=n.txt
 | .mk k s n al ks t a,m,sc,h,hk=>by
  simp only[Nd.kind] at hk
  subst hk
  rw[resP] at h
  split at h
  ·cases h
  ·split at h
   ·cases h
   ·rename_i ks' hks
    injection h with h
    subst h
    rw[Nd.txt,Nd.txt,ZqH (by decide),ZqH (by decide)]
    exact Za7 ks ks' _ hks
theorem Za7:∀(ks r:List Nd) (sc:Scope),resKids ks sc= .ok r->Nds.txt r=Nds.txt ks
 | [],r,sc,h=>by
  rw[resKids] at h
  injection h with h
  subst h
  rfl
 |k::t,r,sc,h=>by
  rw[resKids] at h
  split at h
  ·cases h
  ·rename_i k' hk'
   split at h
   ·cases h
   ·rename_i t' ht'
    injection h with h
    subst h
    rw[Nds.txt,Nds.txt,Za7 t t' sc ht']
    split at hk'
    ·rename_i h0
     rw[Zhx k k' sc hk' h0]
    ·injection hk' with hk'
     rw[hk']
end
theorem Zma {s:List UInt8} {m:Nd} (h:treeP s=some m):m.txt.length<=10000:=by
 unfold treeP at h;split at h
 ·cases h
 ·split at h
  ·cases h
  ·rename_i n A;have F:=ZmF A;have C:=(QO A).2;split at h
   ·cases h
   ·rename_i r D;injection h with h;subst h;rw[Zhx n _ [] D C];omega
theorem ZjQ {n:Nd}:∀{l:List Nd},n∈l->n.cnt<=Nds.cnt l
 | [],h=>by cases h
 |x::t,h=>by
  rw[Nds.cnt]
  rcases Zq1.1 h with rfl|h
  ·omega
  ·have:=ZjQ h
   omega
theorem Ji {sp nm:List UInt8} {n k:Nd} (h:k∈kidsE sp nm n):k∈n.kids/\k.kind=0/\k.name=nm:=by
 unfold kidsE at h;obtain ⟨C,A⟩:=ZrK.1 h;unfold isE at A;simp only[ZqZ,ZsE] at A;exact ⟨C,A.1.1,A.2⟩
structure comOk (N M B:Nat) (n:Nd):Prop where
 fd:n.fd N
 cnt:n.cnt<=M
 kind:n.kind=0
 fl:∀k∈n.kids,k.kind=0->k.name≠entryL->k.txt.length<=B
structure amOk (N M B:Nat) (n:Nd):Prop where
 com:comOk N M B n
 en:∀k∈kidsE atomL entryL n,comOk N M B k
theorem Ze9 {N:Nat} {n k:Nd} (h:n.fd N) (A:k∈n.kids):k.fd N:=by
 obtain ⟨kk,s,m,al,ks,t,a⟩:=n;rw[Nd.fd] at h;exact (Nds.fd_iff _).1 h.2.2.2.2.2.2.2.2 k A
theorem Zii {M:Nat} {n k:Nd} (h:n.cnt<=M) (A:k∈n.kids):k.cnt<=M:=by
 obtain ⟨kk,s,m,al,ks,t,a⟩:=n;rw[Nd.cnt] at h;have:=ZjQ (n:=k) (l:=ks) A;omega
theorem ZjI {B:Nat} {n k:Nd} (A:n.kind=0) (h:n.txt.length<=B) (C:k∈n.kids):k.txt.length<=B:=by
 obtain ⟨kk,s,m,al,ks,t,a⟩:=n;simp only[Nd.kind] at A;subst A;rw[Nd.txt,ZqH (by decide)] at h;exact ZqM (Zkj (l:=ks) C) h
section
variable {N M B:Nat} {n:Nd}
theorem comOk.txtOf (h:comOk N M B n) {nm:List UInt8} (F:nm≠entryL):(txtOf nm n).length<=B:=by
 unfold Proofs.YtmfinhgobjbecaaGreatDoor.txtOf firstT;cases hk:(kidsE atomL nm n).head? with
 |none=>exact ZqO _
 |some k=>obtain ⟨A,C,D⟩:=Ji (List.mem_of_head? hk);exact h.fl k A C (by rw[D];exact F)
theorem comOk.cont (h:comOk N M B n):(contN n).length<=B:=by
 unfold contN firstT;cases hk:(kidsE atomL contentL n).head? with
 |none=>exact h.txtOf (by decide)
 |some k=>obtain ⟨A,C,D⟩:=Ji (List.mem_of_head? hk);exact h.fl k A C (by rw[D];decide)
theorem comOk.link (h:comOk N M B n):(linkN n).length<=2*N:=by
 unfold linkN;split
 ·rename_i k A;exact Zm1 (Ze9 h.fd (Ji (List.mem_of_find?_eq_some A)).1) hrefL
 ·exact ZqO _
end
theorem QD {s:List UInt8} {m:Nd} (h:treeP s=some m):amOk 5000 5000 10000 m:=by
 obtain ⟨Q,F,A,H⟩:=Zn6 h;have I:=Zma h;refine ⟨⟨F,H,A,λk C _ _=>ZjI A I C⟩,λk C=> ?_⟩;obtain ⟨D,J,R⟩:=Ji C;exact ⟨Ze9 F D,Zii H D,J,λj O _ _=>ZjI J (ZjI A I D) O⟩
end
end Go.Proofs.YtmfinhgobjbecaaGreatDoor
