/- Parts of the proof: contracts and plain laws. -/
import Derived.Test.YtnlafkgkcnenfaaGreatDoorR08
namespace Go.Proofs.YtnlafkgkcnenfaaGreatDoor
open Go Go.RowKit Tryz
set_option linter.unusedVariables false
set_option linter.unusedSimpArgs false
set_option maxRecDepth 100000
set_option maxHeartbeats 16000000
section
variable {k:Nat}
theorem Zhj {l:List UInt8} (h:NmPre false true l k) (H:k<l.length) (F:(dec (l.drop k)).2=0\/nmOk false (decide (k=0)) (dec (l.drop k)).1=false):isNm l=false:=by
 have A:=h.go.2;have e:=Vw (c:=false) (f:=l.length) (first:=true && decide (k=0)) (l:=l.drop k) (Or.inr (by simpa using F));rw[e,Nat.add_zero] at A;have D:nmLen false l=k:=A;unfold isNm;rw[D];exact Yf (by omega)
theorem Zhi {l:List UInt8} (h:NmPre false true l l.length):isNm l=decide (0<l.length):=by
 have A:=h.go.2;rw[Zw (Zb _),Uu] at A;unfold isNm nmLen;rw[A];simp
theorem Es (r:Nat) (first:Bool):nmOk false first r=if first then nmStart r else nmChar r:=by
 unfold nmOk;simp
theorem Vn (s:ByteArray) (w:Wq) (hs:s.size<=16777216):
 Calls prog 187 #[.string s] w λe w'=>e= .returned (.bool (isNm s.data.toList))/\Ext w w':=by
 have hg:s.size<=maxLen:=by unfold maxLen;omega
 have ha:=ZL s;obtain ⟨R0,U⟩:∃b,isNm s.data.toList=b:=⟨_,rfl⟩;rw[U];have S:=gd U;clear U;go_enter func187,ntmps187;go_wp2;go_loopw [3,4,5] (λv _ _ wr=>∃k:Nat,k<=s.size/\v=nI k/\Hid (NmPre false true s.data.toList k)/\Ext w wr) (λv _ _ _=>s.size - (intOf v).toNat)
 case atStart=>exact ⟨0,Zh _,rfl,gd (.zero _ _),Ext.refl _⟩
 case round=>
  obtain ⟨k,hk,rfl,hp,Z⟩:=hrel;by_cases hd:k<s.size
  ·have hc:=UT (s.data.toList.drop k);rw[Zm,ZL] at hc;have J:=UD s k wr hd hg;have Y:((dec (s.data.toList.drop k)).2=0\/nmOk false (decide (k=0)) (dec (s.data.toList.drop k)).1=false)->R0=false:=λh=>S.out.symm.trans (Zhj hp.out (by rw[ZL];exact hd) h);have X:(dec (s.data.toList.drop k)).2≠0->nmOk false (decide (k=0)) (dec (s.data.toList.drop k)).1=true->NmPre false true s.data.toList (k+(dec (s.data.toList.drop k)).2):=λh1 h2=>hp.out.snoc h1 (by simpa using h2);obtain ⟨R,hR⟩:∃R,(dec (s.data.toList.drop k)).1=R:=⟨_,rfl⟩;obtain ⟨K,hK⟩:∃K,(dec (s.data.toList.drop k)).2=K:=⟨_,rfl⟩;rw[hR,hK] at J Y X;rw[hK] at hc;have HC:=gd J;have D:=gd Y;have I:=gd X;have F:=gd (λw'=>Qk R w');have H:=gd (λw'=>Uc R w');clear J Y X hR hK hp;by_cases h0:K=0
   ·subst h0;have hf:=D.out (Or.inl rfl);subst hf
    go_wp2_with (first|(go_at_call 139;(with_reducible refine Za HC.out ?_);rintro e w2 ⟨rfl,A⟩))
    go_ret;exact ⟨rfl,Z.trans A⟩
   ·have hb:((K:Int)==0)=false:=(by rw[ZC];omega);cases hnc:nmChar R with
    |false=>
     have hf:=D.out (Or.inr (by rw[Es,hnc,Kn hnc];simp));subst hf;rw[hnc] at F;clear D I H
     go_wp2_with (first|(go_at_call 139;(with_reducible refine Za HC.out ?_);rintro e w2 ⟨rfl,A⟩)|(go_at_call 212;(with_reducible refine Za (F.out _) ?_);rintro e w3 ⟨rfl,rfl⟩))
     go_ret;exact ⟨rfl,Z.trans A⟩
    |true=>
     rw[hnc] at F;by_cases hz:k=0
     ·subst hz;cases hns:nmStart R with
      |false=>
       have hf:=D.out (Or.inr (by rw[Es,hns];simp));subst hf;rw[hns] at H;clear D I
       go_wp2_with (first|(go_at_call 139;(with_reducible refine Za HC.out ?_);rintro e w2 ⟨rfl,A⟩)|(go_at_call 212;(with_reducible refine Za (F.out _) ?_);rintro e w3 ⟨rfl,rfl⟩)|(go_at_call 213;(with_reducible refine Za (H.out _) ?_);rintro e w3 ⟨rfl,rfl⟩))
       go_ret;exact ⟨rfl,Z.trans A⟩
      |true=>
       have Q:=gd (I.out h0 (by rw[Es,hns];simp));rw[hns] at H;clear D I
       go_wp2_with (first|(go_at_call 139;(with_reducible refine Za HC.out ?_);rintro e w2 ⟨rfl,A⟩)|(go_at_call 212;(with_reducible refine Za (F.out _) ?_);rintro e w3 ⟨rfl,rfl⟩)|(go_at_call 213;(with_reducible refine Za (H.out _) ?_);rintro e w3 ⟨rfl,rfl⟩))
       go_roundw
       case rel=>exact ⟨0+K,by omega,by go_num,Q,Z.trans A⟩
       case measure=>simp[intOf];omega
     ·have hh:((k:Int)==0)=false:=(by rw[ZC];omega);have Q:=gd (I.out h0 (by rw[Es,Yf hz,hnc];simp));clear D I H
      go_wp2_with (first|(go_at_call 139;(with_reducible refine Za HC.out ?_);rintro e w2 ⟨rfl,A⟩)|(go_at_call 212;(with_reducible refine Za (F.out _) ?_);rintro e w3 ⟨rfl,rfl⟩))
      go_roundw
      case rel=>exact ⟨k+K,by omega,by go_num,Q,Z.trans A⟩
      case measure=>simp[intOf];omega
  ·have he:k=s.size:=(by omega);subst he;have V:=hp.out;rw[<-ha] at V;have M:=S.out.symm.trans (Zhi V);rw[ha] at M;clear hp V S;subst M;go_wp2;go_ret;exact ⟨by simp,Z⟩
def splitAns:Option (List UInt8×List UInt8)->Value
 |some (p,q)=> .tuple #[.string (str p),.string (str q),.bool true]
 |none=> .tuple #[eS,eS,.bool false]
theorem UE (s:ByteArray) (w:Wq) (hs:s.size<=16777216):
 Calls prog 147 #[.string s] w λe w'=>e= .returned (splitAns (splitL s.data.toList))/\Ext w w':=by
 have Q:=ZL s;obtain ⟨R,H⟩:∃R,splitL s.data.toList=R:=⟨_,rfl⟩;rw[H];unfold splitL at H;dsimp only at H;obtain ⟨P,hP⟩:∃P,((s.data.toList.takeWhile λc=>c !=58)).length=P:=⟨_,rfl⟩;have X:(s.data.toList.takeWhile λc=>c !=58)=s.data.toList.take P:=by rw[<-hP];exact Xn.1 (JQ _)
 rw[X,ZG] at H;have M:P<=s.size:=by rw[<-hP,<-Q];exact (YF _).length_le
 rw[Q,Nat.min_eq_left M] at H;have HR:=gd H;have HP:=gd (show 0+((s.data.toList.drop 0).takeWhile λc=>c !=58).length=P by rw[JN,hP,Yu]);clear H hP X M;go_enter func147,ntmps147;go_wp2;go_loopw [5] (λv wr=>∃j:Nat,j<=s.size/\v=nI j/\Hid (j+((s.data.toList.drop j).takeWhile λc=>c !=58).length=P)/\wr=w) (λv _=>s.size - (intOf v).toNat)
 case atStart=>exact ⟨0,Zh _,rfl,HP,rfl⟩
 case round=>
  obtain ⟨j,hj,rfl,J,rfl⟩:=hrel;by_cases U:j<s.size
  ·have he:(0:Int)<=(j:Int):=(by omega);have hf:(j:Int)<(s.size:Int):=(by omega);have S:j<s.data.toList.length:=(by omega);have hg:s.data.toList[j]=s[j]:=rfl;by_cases D:s[j]=58
   ·have hb:(((s[j]).toNat:Int)==58)=true:=(by rw[D];rfl);have hc:j=P:=(JI (p:=λc=>c !=58) S (by show (s[j] !=58)=false;rw[D];rfl)).symm.trans J.out;subst hc;have h:=HR.out;rw[Zl U] at h;have e1:s.extract 0 j=str (s.data.toList.take j):=Vu (by rw[Ya];simp);have e2:s.extract (j+1) s.size=str (s.data.toList.drop (j+1)):=Vu (by rw[Ya,GP]);have s1:=ZeH s j (by omega);have s2:=GW s (j+1) ((j:Int)+1) (by omega) (by omega);rw[e1] at s1;rw[e2] at s2;obtain ⟨p,hp⟩:∃p,s.data.toList.take j=p:=⟨_,rfl⟩;obtain ⟨q,hq⟩:∃q,s.data.toList.drop (j+1)=q:=⟨_,rfl⟩;have V:(str p).size<=16777216:=(by rw[YN,<-hp,ZG];omega);have Y:(str q).size<=16777216:=(by rw[YN,<-hq,Zm];omega);rw[hp] at s1 h;rw[hq] at s2 h;have F:=gd (λw'=>Vn (str p) w' V);have K:=gd (λw'=>Vn (str q) w' Y);rw[Ya] at F K;clear D J HR e1 e2 hp hq V Y;cases h1:isNm p with
    |false=>
     rw[h1,Zg (by simp)] at h;rw[h1] at F;subst h;clear h1
     go_wp2_with (first|(go_at_call 187;(with_reducible refine Za (F.out _) ?_);rintro e w3 ⟨rfl,A⟩))
     go_ret3
     exact ⟨rfl,A⟩
    |true=>
     rw[h1] at F;cases h2:isNm q with
     |false=>
      rw[h1,h2,Zg (by simp)] at h;rw[h2] at K;subst h;clear h1 h2
      go_wp2_with (first|(go_at_call 187;(with_reducible refine Za (F.out _) ?_);rintro e w3 ⟨rfl,A⟩)|(go_at_call 187;(with_reducible refine Za (K.out _) ?_);rintro e w4 ⟨rfl,I⟩))
      go_ret3
      exact ⟨rfl,A.trans I⟩
     |true=>
      rw[h1,h2,Zl (by simp)] at h;rw[h2] at K;subst h;clear h1 h2
      go_wp2_with (first|(go_at_call 187;(with_reducible refine Za (F.out _) ?_);rintro e w3 ⟨rfl,A⟩)|(go_at_call 187;(with_reducible refine Za (K.out _) ?_);rintro e w4 ⟨rfl,I⟩))
      refine rA ?_
      repeat (first|go_big_quiet_step (skip)|quiet_step (skip))
      refine Z5 ?_;rintro _ ⟨d1,rfl⟩;go_wp2
      go_ret3
      exact ⟨rfl,(A.trans I).trans d1.ext⟩
   ·have hb:(((s[j]).toNat:Int)==58)=false:=(by rw[ZC];intro e;exact D (YR.1 (by show _=58;omega)));have Z:=Ud (p:=λc=>c !=58) S (by show (s[j] !=58)=true;simpa using D);have HN:=gd (Z.symm.trans J.out);clear D Z J;go_wp2;go_roundw
    case rel=>exact ⟨j+1,U,by go_num,HN,by trivial⟩
    case measure=>simp[intOf];omega
  ·have hd:j=s.size:=(by omega);subst hd;have ha:s.size=P:=(by have:=J.out;rw[Zw (by omega)] at this;simpa using this);have h:=HR.out;rw[Zg (by omega)] at h;have F:=gd (λw'=>Vn s w' hs);clear J HR ha HP;cases h1:isNm s.data.toList with
   |false=>
    rw[h1,Zg (by simp)] at h;rw[h1] at F;subst h;clear h1
    go_wp2_with (first|(go_at_call 187;(with_reducible refine Za (F.out _) ?_);rintro e w3 ⟨rfl,A⟩))
    go_ret3
    exact ⟨rfl,A⟩
   |true=>
    rw[h1,Zl rfl] at h;rw[h1] at F;subst h;clear h1
    go_wp2_with (first|(go_at_call 187;(with_reducible refine Za (F.out _) ?_);rintro e w3 ⟨rfl,A⟩))
    go_ret3
    exact ⟨(by show _=Ending.returned (.tuple #[.string (str []),.string (str s.data.toList),.bool true]);rw[ZaI];rfl),A⟩
theorem ZgG {l:List UInt8} (h:k<l.length):blankL (l.drop k)=(isSp (l[k].toNat) && blankL (l.drop (k+1))):=by
 unfold blankL;rw[Zi h,List.all_cons]
theorem ZcE (s:ByteArray) (w:Wq) (X:s.size<=140737488351232):
 Calls prog 58 #[.string s] w λe w'=>e= .returned (.bool (blankL s.data.toList))/\w'=w:=by
 have M:=ZL s;obtain ⟨R,H⟩:∃R,blankL s.data.toList=R:=⟨_,rfl⟩;rw[H];go_enter func58,ntmps58;go_wp2;go_loopw [3] (λv wr=>∃j:Nat,j<=s.size/\v=nI j/\Hid (blankL (s.data.toList.drop j)=R)/\wr=w) (λv _=>s.size - (intOf v).toNat)
 case atStart=>exact ⟨0,Zh _,rfl,gd H,rfl⟩
 case round=>
  obtain ⟨j,V,rfl,F,rfl⟩:=hrel;clear H;by_cases D:j<s.size
  ·have Q:(0:Int)<=(j:Int):=(by omega);have S:(j:Int)<(s.size:Int):=(by omega);have U:j<s.data.toList.length:=(by rw[ZL];exact D);have J:s.data.toList[j]=s[j]:=(by rfl);have h:=F.out;rw[ZgG U,J] at h;cases hsp:isSp (s[j].toNat) with
   |true=>
    rw[hsp,XF] at h;have K:=gd h;clear F h
    go_wp2_with (first|(go_at_call 100;(with_reducible refine Za (YT _ _) ?_);rintro e w2 ⟨rfl,rfl⟩))
    go_roundw
    case rel=>exact ⟨j+1,D,by go_num,K,by trivial⟩
    case measure=>simp[intOf];omega
   |false=>
    rw[hsp,Yq] at h;subst h;clear F
    go_wp2_with (first|(go_at_call 100;(with_reducible refine Za (YT _ _) ?_);rintro e w2 ⟨rfl,rfl⟩))
    go_ret;exact ⟨rfl,rfl⟩
  ·have I:j=s.size:=(by omega);have A:true=R:=(by have:=F.out;rw[Zw (by omega)] at this;exact this);subst A;clear F;subst I;go_wp2;go_ret;exact ⟨rfl,rfl⟩
end
section
variable {k:Nat} {v:Value} {w w':World}
theorem Vp {a:List UInt8} (h:a≠ []):(str a).toList.isEmpty=false:=by
 rw[Z7,Ya];cases a with
 |nil=>exact absurd rfl h
 |cons x t=>rfl
theorem Un:(str []).toList.isEmpty=true:=by rw[Z7,Ya];rfl
theorem Qb {a b:List UInt8} (h:a=b):((str a).toList==b)=true:=by rw[Z7,Ya,h];simp
theorem JC {a b:List UInt8} (h:a≠b):((str a).toList==b)=false:=by rw[Z7,Ya];simpa using h
theorem X8 (a b:List UInt8):((str a).toList==(str b).toList)=(a==b):=by rw[Z7,Z7,Ya,Ya]
def DeclRet (v:Value):Option (List UInt8)->Prop
 |some d=>v= .tuple #[.string (str d),.bool true]
 |none=>∃d,v= .tuple #[.string (str d),.bool false]
theorem Qj (a:AtP) (w:Wq) (V:a.name.length<=16777216):
 Calls prog 148 #[.agg #[.string (str a.space),.string (str a.name),.string (str a.value),nI (a.at_:Nat)]] w λe w'=>∃v,e= .returned v/\DeclRet v (declL a.name)/\Ext w w':=by
 obtain ⟨sp,nm,av,S⟩:=a;dsimp only at V|-;obtain ⟨R,D⟩:∃R,declL nm=R:=⟨_,rfl⟩;rw[D];unfold declL at D;have F:=λw'=>UE (str nm) w' (by rw[YN];exact V);rw[Ya] at F;have I:=(Ext.refl w).alloc (.cells #[.string (str sp),.string (str nm),.string (str av),nI (S:Nat)] 88);cases hsp:splitL nm with
 |none=>
  rw[hsp] at D F;dsimp only at D;subst D;have K:=gd F;have M:(str []).toList.isEmpty=true:=Un;have U:((str []).toList== [120,109,108,110,115])=false:=JC (by decide);clear hsp F;go_enter func148,ntmps148
  go_wp2_with (first|(go_at_call 147;(with_reducible refine Za (K.out _) ?_);rintro e w2 ⟨rfl,A⟩;simp only[splitAns]))
  go_ret2
  exact ⟨_,rfl,⟨[],rfl⟩,I.trans A⟩
 |some pq=>
  obtain ⟨p,q⟩:=pq;rw[hsp] at D F;dsimp only at D;have K:=gd F;clear hsp F;by_cases Q:p= []
  ·subst Q;have M:(str []).toList.isEmpty=true:=Un;have U:((str []).toList== [120,109,108,110,115])=false:=JC (by decide);by_cases H:q=xmlnsL
   ·rw[Zl ⟨rfl,H⟩] at D;subst D;have J:((str q).toList== [120,109,108,110,115])=true:=Qb H;clear H;go_enter func148,ntmps148
    go_wp2_with (first|(go_at_call 147;(with_reducible refine Za (K.out _) ?_);rintro e w2 ⟨rfl,A⟩;simp only[splitAns]))
    go_ret2
    exact ⟨_,rfl,rfl,I.trans A⟩
   ·rw[Zg (λh=>H h.2),Zg (by decide)] at D;subst D;have J:((str q).toList== [120,109,108,110,115])=false:=JC H;clear H;go_enter func148,ntmps148
    go_wp2_with (first|(go_at_call 147;(with_reducible refine Za (K.out _) ?_);rintro e w2 ⟨rfl,A⟩;simp only[splitAns]))
    go_ret2
    exact ⟨_,rfl,⟨q,rfl⟩,I.trans A⟩
  ·have M:=Vp Q;rw[Zg (λh=>Q h.1)] at D;by_cases H:p=xmlnsL
   ·rw[Zl H] at D;subst D;have J:((str p).toList== [120,109,108,110,115])=true:=Qb H;clear H Q;go_enter func148,ntmps148
    go_wp2_with (first|(go_at_call 147;(with_reducible refine Za (K.out _) ?_);rintro e w2 ⟨rfl,A⟩;simp only[splitAns]))
    go_ret2
    exact ⟨_,rfl,rfl,I.trans A⟩
   ·rw[Zg H] at D;subst D;have J:((str p).toList== [120,109,108,110,115])=false:=JC H;clear H Q;go_enter func148,ntmps148
    go_wp2_with (first|(go_at_call 147;(with_reducible refine Za (K.out _) ?_);rintro e w2 ⟨rfl,A⟩;simp only[splitAns]))
    go_ret2
    exact ⟨_,rfl,⟨q,rfl⟩,I.trans A⟩
def cellsB (b:List UInt8×List UInt8):List Value:= [.string (str b.1),.string (str b.2)]
def flatB (l:Scope):List Value:=(l.map cellsB).flatten
def RSc (w:Wq) (v:Value) (l:Scope):Prop:=RSl w 2 v l.length (flatB l)
theorem RSc.ext {l:Scope} (h:RSc w v l) (A:Ext w w'):RSc w' v l:=RSl.ext h A
theorem RSc.form {l:Scope} (h:RSc w v l):∃A c,v= .slice A l.length c/\l.length<=c/\c<=maxLen:=by
 obtain ⟨_,A,c,e,D,F,_⟩:=h;exact ⟨A,c,e,D,F⟩
theorem Zbu (a b:Scope):flatB (a++b)=flatB a++flatB b:=by unfold flatB;rw[ZK,Gj]
theorem Zbv (x:List UInt8×List UInt8):flatB [x]=cellsB x:=by unfold flatB;simp
theorem GJ (x:List UInt8×List UInt8):∀u∈cellsB x,u.oneCell'=true:=by
 intro u h;simp only[cellsB,ZI,Yg,Xx] at h;rcases h with rfl|rfl<;>rfl
theorem Zfp (l:Scope):∀u∈flatB l,u.oneCell'=true:=by
 intro u h;obtain ⟨c,A,h⟩:=ZkW.1 h;obtain ⟨a,_,rfl⟩:=ZO.1 A;exact GJ a u h
theorem RSc.at {l:Scope} (h:RSc w v l) (F:k<l.length):∃ad c,v= .slice (some ad) l.length c/\w.cell? (ad.add (k*2))=some (.string (str l[k].1))/\w.cell? ⟨(ad.add (k*2)).block,(ad.add (k*2)).off+1,none⟩=some (.string (str l[k].2)):=by
 obtain ⟨ad,c,e,D⟩:=RSl.elem (k:=2) (css:=l.map cellsB) h (by decide) (by intro c D;obtain ⟨x,_,rfl⟩:=ZO.1 D;rfl) k (cellsB l[k]) (by rw[Ys,Zj F];rfl);rw[U5] at D;have A:∀i,0<i->(ad.add (k*2)).add i=⟨(ad.add (k*2)).block,(ad.add (k*2)).off+i,none⟩:=λi H=>Zg (by omega);refine ⟨ad,c,e,?_,?_⟩
 ·have:=D 0 _ rfl;rwa [add_zero] at this
 ·have:=D 1 _ rfl;rwa [A _ (by decide)] at this
def lookAns:Option (List UInt8)->Value
 |some v=> .tuple #[.string (str v),.bool true]
 |none=> .tuple #[.string (str []),.bool false]
theorem Gs (v:Value) (sc:Scope) (p:List UInt8) (w:Wq) (h:RSc w v sc) (hn:sc.length<=140737488351232):
 Calls prog 149 #[v,.string (str p)] w λe w'=>e= .returned (lookAns (lookL sc p))/\w'=w:=by
 obtain ⟨A,c,rfl, -, -⟩:=h.form;by_cases Q:p=xmlL
 ·have hb:((str p).toList== [120,109,108])=true:=Qb Q;have K:lookL sc p=some xmlSpaceL:=by unfold lookL;rw[Zl Q]
  rw[K];clear Q K;go_enter func149,ntmps149;go_wp2
  go_ret2
  exact ⟨rfl,rfl⟩
 ·have hb:((str p).toList== [120,109,108])=false:=JC Q;rw[Zi9 Q];obtain ⟨R,K⟩:∃R,lookTo sc p sc.length=R:=⟨_,rfl⟩;rw[K];have Z:=gd K;clear Q K;go_enter func149,ntmps149;go_wp2;go_loopw [6] (λi wr=>∃k:Nat,k<=sc.length/\i=nI ((k:Int) - 1)/\Hid (lookTo sc p k=R)/\wr=w) (λi _=>(intOf i+1).toNat)
  case atStart=>exact ⟨sc.length,Zb _,by go_num,Z,rfl⟩
  case round=>
   obtain ⟨k,hk,rfl,J,rfl⟩:=hrel;cases k with
   |zero=>
    have D:=J.out;rw[ZdW] at D;by_cases M:p= []
    ·rw[Zl M] at D;have U:(str p).toList.isEmpty=true:=(by rw[M];exact Un);subst D;clear J M;go_wp2
     go_ret2
     exact ⟨rfl,rfl⟩
    ·rw[Zg M] at D;have U:=Vp M;subst D;clear J M;go_wp2
     go_ret2
     exact ⟨rfl,rfl⟩
   |succ m=>
    have S:m<sc.length:=hk;obtain ⟨ad,c',hv,a0,X⟩:=h.at S;injection hv with hv1 hv2 hv3;subst hv1;clear hv2 hv3;have I:((m+1:Nat):Int) - 1=(m:Int):=(by omega);rw[I];have ha:(0:Int)<=(m:Int):=(by omega);have hc:(m:Int)<(sc.length:Int):=(by omega);by_cases H:sc[m].1=p
    ·have D:=J.out;rw[ZfF S H] at D;obtain ⟨x,F⟩:∃x,sc[m]=x:=⟨_,rfl⟩;rw[F] at a0 X H D;have V:((str x.1).toList==(str p).toList)=true:=(by rw[X8,H];simp);subst D;clear J H F I;go_wp2
     go_ret2
     exact ⟨rfl,rfl⟩
    ·have D:=J.out;rw[ZdV S H] at D;obtain ⟨x,F⟩:∃x,sc[m]=x:=⟨_,rfl⟩;rw[F] at a0 X H;have V:((str x.1).toList==(str p).toList)=false:=(by rw[X8];simpa using H);have Y:=gd D;clear J H F I D;go_wp2;go_roundw
     case rel=>exact ⟨m,by omega,by go_num,Y,by trivial⟩
     case measure=>simp[intOf]
end
section
variable {k n:Nat} {nm sp:List UInt8}
def attrN (al:List AtP) (sp nm:List UInt8):Option (List UInt8):=(al.find? λa=>a.space==sp && a.name==nm).map AtP.value
theorem ZgB {al:List AtP} (A:k<al.length) (h:(al[k].space==sp && al[k].name==nm)=true):attrN (al.drop k) sp nm=some al[k].value:=by
 unfold attrN;rw[Zi A,List.find?_cons_of_pos (by simpa using h)];rfl
theorem Ze1 {al:List AtP} (A:k<al.length) (h:(al[k].space==sp && al[k].name==nm)=false):attrN (al.drop k) sp nm=attrN (al.drop (k+1)) sp nm:=by
 unfold attrN;rw[Zi A,List.find?_cons_of_neg (by simpa using h)]
theorem ZgA {al:List AtP} (h:al.length<=k):attrN (al.drop k) sp nm=none:=by
 unfold attrN;rw[Zw h];rfl
def isKid (sp nm:List UInt8) (x:Nc):Bool:=x.kind==0 && x.space==sp && x.name==nm
theorem UL:(prog.info? 25).map (λi=>(i.zero,i.size,i.bytes))=some (some (.agg #[nI 0,eS,eS,sN,sN,eS,nI 0]),7,112):=by kernel_rfl
theorem ZeK {l:List Nc} {f:Nc->Bool} (h:k<l.length):(l.take (k+1)).filter f=(l.take k).filter f++(if f l[k] then [l[k]] else []):=by
 rw[Zq h,List.filter_append,List.filter_cons,List.filter_nil]
theorem UM (h:n<=16777216):n+1<=maxLen/\(n+1)*112<=140737488355328:=by unfold maxLen;omega
end
section
variable {P:Program} {base c d g' i k m n:Nat} {e ty:TypeId} {nm s t:List UInt8} {r:Option Nat} {v:Value} {w w':World} {xs:List Value}
def BxN (w:Wq) (g:Nat) (k:Nat) (s n:List UInt8) (al ks:Value) (t:List UInt8) (a:Nat):Prop:=w.heap[g]? =some (.cells #[nI (k:Nat),.string (str s),.string (str n),al,ks,.string (str t),nI (a:Nat)] 25 (0,0))
section
variable {w w':World} {g k a:Nat} {s n t:List UInt8} {al ks:Value}
theorem BxN.ext (h:BxN w g k s n al ks t a) (A:Ext w w'):BxN w' g k s n al ks t a:=A.heap h
theorem BxN.grown (h:BxN w g k s n al ks t a) (A:w.grownBy w' r) (D:r≠some g):BxN w' g k s n al ks t a:=
 (A.block g (Zx.1 h).1 (λe=>D (by rw[<-e]))).trans h
theorem BxN.other (h:BxN w g k s n al ks t a) (A:g≠g'):BxN (w.setCell ⟨g',i,none⟩ v) g k s n al ks t a:=(ZY w ⟨g',i,none⟩ g v A).trans h
theorem BxN.cells (h:BxN w g k s n al ks t a):w.cell? ⟨g,0,none⟩=some (nI (k:Nat))/\w.cell? ⟨g,1,none⟩=some (.string (str s))/\w.cell? ⟨g,2,none⟩=some (.string (str n))/\w.cell? ⟨g,3,none⟩=some al/\
 w.cell? ⟨g,4,none⟩=some ks/\w.cell? ⟨g,5,none⟩=some (.string (str t))/\w.cell? ⟨g,6,none⟩=some (nI (a:Nat)):=by
 refine ⟨?_,?_,?_,?_,?_,?_,?_⟩<;>(rw[Xj _ _ _ _ _ _ h];rfl)
theorem BxN.frozen (h:BxN w g k s n al ks t a):w.frozen? ⟨g,1,none⟩=false/\w.frozen? ⟨g,2,none⟩=false/\w.frozen? ⟨g,3,none⟩=false/\w.frozen? ⟨g,4,none⟩=false:=
 ⟨ZX h 1,ZX h 2,ZX h 3,ZX h 4⟩
theorem BxN.space (h:BxN w g k s n al ks t a) (u:List UInt8):BxN (w.setCell ⟨g,1,none⟩ (.string (str u))) g k u n al ks t a:=Yd w g 1 _ _ _ h
theorem BxN.name (h:BxN w g k s n al ks t a) (u:List UInt8):BxN (w.setCell ⟨g,2,none⟩ (.string (str u))) g k s u al ks t a:=Yd w g 2 _ _ _ h
theorem BxN.attrs (h:BxN w g k s n al ks t a) (u:Value):BxN (w.setCell ⟨g,3,none⟩ u) g k s n u ks t a:=Yd w g 3 _ _ _ h
theorem BxN.kids (h:BxN w g k s n al ks t a) (u:Value):BxN (w.setCell ⟨g,4,none⟩ u) g k s n al u t a:=Yd w g 4 _ _ _ h
end
theorem ZD:(prog.info? 25).map (λi=>i.size)=some 7:=by kernel_rfl
theorem YL {a:Nat} {A B:Option Addr}:(#[Value.int .i64 (k:Nat),.string (str s),.string (str nm),.slice A n c,.slice B m d,.string (str t),nI (a:Nat)]).all (λu=>u.oneCell')=true:=by simp[Value.oneCell']
theorem GU {A:Func} {p u x y:Tmp} (h:A.results=#[.cell p ty,.tmp u,.tmp x,.tmp y]) (tmps:Array Value) (w:Wq):
 (results A tmps).run P w=
  ((asAddr (tmps.getD p undef)).run P w).andThen λa D=>((loadVar ty a).run P D).andThen λv F=> .ok (.tuple #[v,tmps.getD u undef,tmps.getD x undef,tmps.getD y undef]) F:=by
 simp only[results,h];simp[Sem.run_bind,Result.andThen]
theorem YM {A:Func} {p u x y:Tmp} (h:A.results=#[.cell p ty,.tmp u,.tmp x,.tmp y]) (tmps:Array Value) (w:Wq) (g:Nat) (t:TypeId) (cs:Array Value) (fr:Nat×Nat) (d:TypeDesc)
 (I:tmps.getD p undef= .pointer (some ⟨g,0,none⟩)) (F:w.heap[g]? =some (.cells cs t fr))
 (J:P.underlying ty=some d) (D:(match d with| .struct _| .array _ _=>true|_=>false)=true) (H:(P.info? ty).map (·.size)=some cs.size):
 (results A tmps).run P w= .ok (.tuple #[.agg cs,tmps.getD u undef,tmps.getD x undef,tmps.getD y undef]) w:=by
 rw[GU h,I];simp[asAddr,run_loadVar_row w g t ty cs fr d F J D H]
def HeadRet (B:Nat) (w:Wq) (v:Value) (at_:Nat):Except PErr (List UInt8×List UInt8×List AtP×Scope)->Prop
 | .ok (sp,l,al,inner)=>∃av iv,v= .tuple #[.agg #[nI 0,.string (str sp),.string (str l),av,sN,.string (str []),nI (at_:Nat)],iv,nI 0,nI 0]/\RAts w av al/\RSc w iv inner/\∀g,av.ownBlock=some g->B<=g
 | .error (y,c)=>∃m:Nc,v= .tuple #[.agg (cellsN m).toArray,sN,nI (y:Nat),nI (c:Nat)]/\slN m
theorem Zhf:(prog.info? 203).map (λi=>(i.zero,i.size,i.bytes))=some (some (.agg #[eS,eS]),2,32):=by kernel_rfl
theorem Za8 (l:List UInt8):∃b,splitAns (splitL l)= .tuple #[.string (str ((splitL l).getD ([],[])).1),.string (str ((splitL l).getD ([],[])).2),.bool b]:=by
 cases h:splitL l with
 |none=>exact ⟨false,rfl⟩
 |some pq=>exact ⟨true,rfl⟩
theorem ZkF {a:List UInt8} (h:(str a).toList.isEmpty=true):(a== [])=true:=by
 rw[Z7,Ya] at h;rw[List.isEmpty_iff.1 h];rfl
theorem ZjI {a:List UInt8} (h:(str a).toList.isEmpty=false):(a== [])=false:=by
 rw[Z7,Ya] at h;cases a with
 |nil=>cases h
 |cons x t=>rfl
theorem ZbT {A size D K:Nat} {e':TypeId} {v':Value} {H:List Value} (h:w.ownsRow base e size v n xs) (I:w.ownsRow A e' D v' K H) (F:∀g,v.ownBlock=some g->g<A) (J:w.grownBy w' v'.ownBlock):w'.ownsRow base e size v n xs:=by
 refine h.kept J ?_;cases hv:v.ownBlock with
 |none=>exact Or.inl rfl
 |some g=>refine Or.inr λe=> ?_;have M:=(I.lt g e.symm).1;have:=F g hv;omega
end
end Go.Proofs.YtnlafkgkcnenfaaGreatDoor
