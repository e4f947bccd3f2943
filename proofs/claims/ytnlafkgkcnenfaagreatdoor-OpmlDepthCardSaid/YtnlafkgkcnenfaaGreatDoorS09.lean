/- Parts of the proof: contracts and plain laws. -/
import Derived.Test.YtnlafkgkcnenfaaGreatDoorS08
namespace Go.Proofs.YtnlafkgkcnenfaaGreatDoor
open Go Go.RowKit Tryz
set_option linter.unusedVariables false
set_option linter.unusedSimpArgs false
set_option maxRecDepth 100000
set_option maxHeartbeats 16000000
section
variable {k:Nat}
theorem Zg4 {l:List UInt8} (h:NmPre false true l k) (F:k<l.length) (D:(dec (l.drop k)).2=0\/nmOk false (decide (k=0)) (dec (l.drop k)).1=false):isNm l=false:=by
 have q:=h.go.2;have e:=Jl (c:=false) (f:=l.length) (first:=true && decide (k=0)) (l:=l.drop k) (Or.inr (by simpa using D));rw[e,Nat.add_zero] at q;have A:nmLen false l=k:=q;unfold isNm;rw[A];exact YG (by omega)
theorem Zg3 {l:List UInt8} (h:NmPre false true l l.length):isNm l=decide (0<l.length):=by
 have q:=h.go.2;rw[ZC (Zb _),Un] at q;unfold isNm nmLen;rw[q];simp
theorem IQ (r:Nat) (first:Bool):nmOk false first r=if first then nmStart r else nmChar r:=by
 unfold nmOk;simp
theorem Vc (s:ByteArray) (w:Wq) (hs:s.size<=16777216):
 Calls prog 187 #[.string s] w λe w'=>e= .returned (.bool (isNm s.data.toList))/\Ext w w':=by
 have hg:s.size<=maxLen:=by unfold maxLen;omega
 have ha:=ZI s;obtain ⟨R0,S⟩:∃b,isNm s.data.toList=b:=⟨_,rfl⟩;rw[S];have Q:=gd S;clear S;go_enter func187,ntmps187;go_wp2;go_loopw [3,4,5] (λv _ _ wr=>∃k:Nat,k<=s.size/\v=nI k/\Hid (NmPre false true s.data.toList k)/\Ext w wr) (λv _ _ _=>s.size - (intOf v).toNat)
 case atStart=>exact ⟨0,Zk _,rfl,gd (.zero _ _),Ext.refl _⟩
 case round=>
  obtain ⟨k,hk,rfl,hp,Y⟩:=hrel;by_cases hd:k<s.size
  ·have hc:=Up (s.data.toList.drop k);rw[Zj,ZI] at hc;have I:=Uv s k wr hd hg;have X:((dec (s.data.toList.drop k)).2=0\/nmOk false (decide (k=0)) (dec (s.data.toList.drop k)).1=false)->R0=false:=λh=>Q.out.symm.trans (Zg4 hp.out (by rw[ZI];exact hd) h);have V:(dec (s.data.toList.drop k)).2≠0->nmOk false (decide (k=0)) (dec (s.data.toList.drop k)).1=true->NmPre false true s.data.toList (k+(dec (s.data.toList.drop k)).2):=λh1 h2=>hp.out.snoc h1 (by simpa using h2);obtain ⟨R,hR⟩:∃R,(dec (s.data.toList.drop k)).1=R:=⟨_,rfl⟩;obtain ⟨K,hK⟩:∃K,(dec (s.data.toList.drop k)).2=K:=⟨_,rfl⟩;rw[hR,hK] at I X V;rw[hK] at hc;have Z:=gd I;have A:=gd X;have H:=gd V;have D:=gd (λw'=>Qe R w');have F:=gd (λw'=>J6 R w');clear I X V hR hK hp;by_cases h0:K=0
   ·subst h0;have hf:=A.out (Or.inl rfl);subst hf
    go_wp2_with (first|(go_at_call 139;(with_reducible refine Za Z.out ?_);rintro e w2 ⟨rfl,q⟩))
    go_ret;exact ⟨rfl,Y.trans q⟩
   ·have hb:((K:Int)==0)=false:=(by rw[Zy];omega);cases hnc:nmChar R with
    |false=>
     have hf:=A.out (Or.inr (by rw[IQ,hnc,Kg hnc];simp));subst hf;rw[hnc] at D;clear A H F
     go_wp2_with (first|(go_at_call 139;(with_reducible refine Za Z.out ?_);rintro e w2 ⟨rfl,q⟩)|(go_at_call 212;(with_reducible refine Za (D.out _) ?_);rintro e w3 ⟨rfl,rfl⟩))
     go_ret;exact ⟨rfl,Y.trans q⟩
    |true=>
     rw[hnc] at D;by_cases hz:k=0
     ·subst hz;cases hns:nmStart R with
      |false=>
       have hf:=A.out (Or.inr (by rw[IQ,hns];simp));subst hf;rw[hns] at F;clear A H
       go_wp2_with (first|(go_at_call 139;(with_reducible refine Za Z.out ?_);rintro e w2 ⟨rfl,q⟩)|(go_at_call 212;(with_reducible refine Za (D.out _) ?_);rintro e w3 ⟨rfl,rfl⟩)|(go_at_call 213;(with_reducible refine Za (F.out _) ?_);rintro e w3 ⟨rfl,rfl⟩))
       go_ret;exact ⟨rfl,Y.trans q⟩
      |true=>
       have M:=gd (H.out h0 (by rw[IQ,hns];simp));rw[hns] at F;clear A H
       go_wp2_with (first|(go_at_call 139;(with_reducible refine Za Z.out ?_);rintro e w2 ⟨rfl,q⟩)|(go_at_call 212;(with_reducible refine Za (D.out _) ?_);rintro e w3 ⟨rfl,rfl⟩)|(go_at_call 213;(with_reducible refine Za (F.out _) ?_);rintro e w3 ⟨rfl,rfl⟩))
       go_roundw
       case rel=>exact ⟨0+K,by omega,by go_num,M,Y.trans q⟩
       case measure=>simp[intOf];omega
     ·have hh:((k:Int)==0)=false:=(by rw[Zy];omega);have M:=gd (H.out h0 (by rw[IQ,YG hz,hnc];simp));clear A H F
      go_wp2_with (first|(go_at_call 139;(with_reducible refine Za Z.out ?_);rintro e w2 ⟨rfl,q⟩)|(go_at_call 212;(with_reducible refine Za (D.out _) ?_);rintro e w3 ⟨rfl,rfl⟩))
      go_roundw
      case rel=>exact ⟨k+K,by omega,by go_num,M,Y.trans q⟩
      case measure=>simp[intOf];omega
  ·have he:k=s.size:=(by omega);subst he;have U:=hp.out;rw[<-ha] at U;have J:=Q.out.symm.trans (Zg3 U);rw[ha] at J;clear hp U Q;subst J;go_wp2;go_ret;exact ⟨by simp,Y⟩
def splitAns:Option (List UInt8×List UInt8)->Value
 |some (p,q)=> .tuple #[.string (str p),.string (str q),.bool true]
 |none=> .tuple #[eS,eS,.bool false]
theorem Uw (s:ByteArray) (w:Wq) (hs:s.size<=16777216):
 Calls prog 147 #[.string s] w λe w'=>e= .returned (splitAns (splitL s.data.toList))/\Ext w w':=by
 have Q:=ZI s;obtain ⟨R,H⟩:∃R,splitL s.data.toList=R:=⟨_,rfl⟩;rw[H];unfold splitL at H;dsimp only at H;obtain ⟨P,hP⟩:∃P,((s.data.toList.takeWhile λc=>c !=58)).length=P:=⟨_,rfl⟩;have X:(s.data.toList.takeWhile λc=>c !=58)=s.data.toList.take P:=by rw[<-hP];exact Xh.1 (JK _)
 rw[X,ZD] at H;have M:P<=s.size:=by rw[<-hP,<-Q];exact (Yp _).length_le
 rw[Q,Nat.min_eq_left M] at H;have HR:=gd H;have HP:=gd (show 0+((s.data.toList.drop 0).takeWhile λc=>c !=58).length=P by rw[JH,hP,Ym]);clear H hP X M;go_enter func147,ntmps147;go_wp2;go_loopw [5] (λv wr=>∃j:Nat,j<=s.size/\v=nI j/\Hid (j+((s.data.toList.drop j).takeWhile λc=>c !=58).length=P)/\wr=w) (λv _=>s.size - (intOf v).toNat)
 case atStart=>exact ⟨0,Zk _,rfl,HP,rfl⟩
 case round=>
  obtain ⟨j,hj,rfl,J,rfl⟩:=hrel;by_cases U:j<s.size
  ·have he:(0:Int)<=(j:Int):=(by omega);have hf:(j:Int)<(s.size:Int):=(by omega);have S:j<s.data.toList.length:=(by omega);have hg:s.data.toList[j]=s[j]:=rfl;by_cases D:s[j]=58
   ·have hb:(((s[j]).toNat:Int)==58)=true:=(by rw[D];rfl);have hc:j=P:=(JC (p:=λc=>c !=58) S (by show (s[j] !=58)=false;rw[D];rfl)).symm.trans J.out;subst hc;have h:=HR.out;rw[Zh U] at h;have e1:s.extract 0 j=str (s.data.toList.take j):=Vl (by rw[Z5];simp);have e2:s.extract (j+1) s.size=str (s.data.toList.drop (j+1)):=Vl (by rw[Z5,GC]);have s1:=Zeu s j (by omega);have s2:=GJ s (j+1) ((j:Int)+1) (by omega) (by omega);rw[e1] at s1;rw[e2] at s2;obtain ⟨p,hp⟩:∃p,s.data.toList.take j=p:=⟨_,rfl⟩;obtain ⟨q,hq⟩:∃q,s.data.toList.drop (j+1)=q:=⟨_,rfl⟩;have V:(str p).size<=16777216:=(by rw[Yu,<-hp,ZD];omega);have Y:(str q).size<=16777216:=(by rw[Yu,<-hq,Zj];omega);rw[hp] at s1 h;rw[hq] at s2 h;have F:=gd (λw'=>Vc (str p) w' V);have K:=gd (λw'=>Vc (str q) w' Y);rw[Z5] at F K;clear D J HR e1 e2 hp hq V Y;cases h1:isNm p with
    |false=>
     rw[h1,Ze (by simp)] at h;rw[h1] at F;subst h;clear h1
     go_wp2_with (first|(go_at_call 187;(with_reducible refine Za (F.out _) ?_);rintro e w3 ⟨rfl,A⟩))
     go_ret3
     exact ⟨rfl,A⟩
    |true=>
     rw[h1] at F;cases h2:isNm q with
     |false=>
      rw[h1,h2,Ze (by simp)] at h;rw[h2] at K;subst h;clear h1 h2
      go_wp2_with (first|(go_at_call 187;(with_reducible refine Za (F.out _) ?_);rintro e w3 ⟨rfl,A⟩)|(go_at_call 187;(with_reducible refine Za (K.out _) ?_);rintro e w4 ⟨rfl,I⟩))
      go_ret3
      exact ⟨rfl,A.trans I⟩
     |true=>
      rw[h1,h2,Zh (by simp)] at h;rw[h2] at K;subst h;clear h1 h2
      go_wp2_with (first|(go_at_call 187;(with_reducible refine Za (F.out _) ?_);rintro e w3 ⟨rfl,A⟩)|(go_at_call 187;(with_reducible refine Za (K.out _) ?_);rintro e w4 ⟨rfl,I⟩))
      refine rA ?_
      repeat (first|go_big_quiet_step (skip)|quiet_step (skip))
      refine YH ?_;rintro _ ⟨d1,rfl⟩;go_wp2
      go_ret3
      exact ⟨rfl,(A.trans I).trans d1.ext⟩
   ·have hb:(((s[j]).toNat:Int)==58)=false:=(by rw[Zy];intro e;exact D (YF.1 (by show _=58;omega)));have Z:=J8 (p:=λc=>c !=58) S (by show (s[j] !=58)=true;simpa using D);have HN:=gd (Z.symm.trans J.out);clear D Z J;go_wp2;go_roundw
    case rel=>exact ⟨j+1,U,by go_num,HN,by trivial⟩
    case measure=>simp[intOf];omega
  ·have hd:j=s.size:=(by omega);subst hd;have ha:s.size=P:=(by have:=J.out;rw[ZC (by omega)] at this;simpa using this);have h:=HR.out;rw[Ze (by omega)] at h;have F:=gd (λw'=>Vc s w' hs);clear J HR ha HP;cases h1:isNm s.data.toList with
   |false=>
    rw[h1,Ze (by simp)] at h;rw[h1] at F;subst h;clear h1
    go_wp2_with (first|(go_at_call 187;(with_reducible refine Za (F.out _) ?_);rintro e w3 ⟨rfl,A⟩))
    go_ret3
    exact ⟨rfl,A⟩
   |true=>
    rw[h1,Zh rfl] at h;rw[h1] at F;subst h;clear h1
    go_wp2_with (first|(go_at_call 187;(with_reducible refine Za (F.out _) ?_);rintro e w3 ⟨rfl,A⟩))
    go_ret3
    exact ⟨(by show _=Ending.returned (.tuple #[.string (str []),.string (str s.data.toList),.bool true]);rw[Zad];rfl),A⟩
theorem Zgp {l:List UInt8} (h:k<l.length):blankL (l.drop k)=(isSp (l[k].toNat) && blankL (l.drop (k+1))):=by
 unfold blankL;rw[Zi h,List.all_cons]
theorem ZcG (s:ByteArray) (w:Wq) (V:s.size<=140737488351232):
 Calls prog 58 #[.string s] w λe w'=>e= .returned (.bool (blankL s.data.toList))/\w'=w:=by
 have K:=ZI s;obtain ⟨R,F⟩:∃R,blankL s.data.toList=R:=⟨_,rfl⟩;rw[F];go_enter func58,ntmps58;go_wp2;go_loopw [3] (λv wr=>∃j:Nat,j<=s.size/\v=nI j/\Hid (blankL (s.data.toList.drop j)=R)/\wr=w) (λv _=>s.size - (intOf v).toNat)
 case atStart=>exact ⟨0,Zk _,rfl,gd F,rfl⟩
 case round=>
  obtain ⟨j,U,rfl,D,rfl⟩:=hrel;clear F;by_cases A:j<s.size
  ·have M:(0:Int)<=(j:Int):=(by omega);have Q:(j:Int)<(s.size:Int):=(by omega);have S:j<s.data.toList.length:=(by rw[ZI];exact A);have I:s.data.toList[j]=s[j]:=(by rfl);have h:=D.out;rw[Zgp S,I] at h;cases hsp:isSp (s[j].toNat) with
   |true=>
    rw[hsp,XQ] at h;have J:=gd h;clear D h
    go_wp2_with (first|(go_at_call 100;(with_reducible refine Za (Xn _ _) ?_);rintro e w2 ⟨rfl,rfl⟩))
    go_roundw
    case rel=>exact ⟨j+1,A,by go_num,J,by trivial⟩
    case measure=>simp[intOf];omega
   |false=>
    rw[hsp,Yh] at h;subst h;clear D
    go_wp2_with (first|(go_at_call 100;(with_reducible refine Za (Xn _ _) ?_);rintro e w2 ⟨rfl,rfl⟩))
    go_ret;exact ⟨rfl,rfl⟩
  ·have H:j=s.size:=(by omega);have q:true=R:=(by have:=D.out;rw[ZC (by omega)] at this;exact this);subst q;clear D;subst H;go_wp2;go_ret;exact ⟨rfl,rfl⟩
end
section
variable {k:Nat} {v:Value} {w w':World}
theorem Ve {a:List UInt8} (h:a≠ []):(str a).toList.isEmpty=false:=by
 rw[Z2,Z5];cases a with
 |nil=>exact absurd rfl h
 |cons x t=>rfl
theorem Ui:(str []).toList.isEmpty=true:=by rw[Z2,Z5];rfl
theorem V6 {a b:List UInt8} (h:a=b):((str a).toList==b)=true:=by rw[Z2,Z5,h];simp
theorem Jq {a b:List UInt8} (h:a≠b):((str a).toList==b)=false:=by rw[Z2,Z5];simpa using h
theorem XW (a b:List UInt8):((str a).toList==(str b).toList)=(a==b):=by rw[Z2,Z2,Z5,Z5]
def DeclRet (v:Value):Option (List UInt8)->Prop
 |some d=>v= .tuple #[.string (str d),.bool true]
 |none=>∃d,v= .tuple #[.string (str d),.bool false]
theorem Qd (a:AtP) (w:Wq) (V:a.name.length<=16777216):
 Calls prog 148 #[.agg #[.string (str a.space),.string (str a.name),.string (str a.value),nI (a.at_:Nat)]] w λe w'=>∃v,e= .returned v/\DeclRet v (declL a.name)/\Ext w w':=by
 obtain ⟨sp,nm,av,S⟩:=a;dsimp only at V|-;obtain ⟨R,D⟩:∃R,declL nm=R:=⟨_,rfl⟩;rw[D];unfold declL at D;have F:=λw'=>Uw (str nm) w' (by rw[Yu];exact V);rw[Z5] at F;have I:=(Ext.refl w).alloc (.cells #[.string (str sp),.string (str nm),.string (str av),nI (S:Nat)] 88);cases hsp:splitL nm with
 |none=>
  rw[hsp] at D F;dsimp only at D;subst D;have K:=gd F;have M:(str []).toList.isEmpty=true:=Ui;have U:((str []).toList== [120,109,108,110,115])=false:=Jq (by decide);clear hsp F;go_enter func148,ntmps148
  go_wp2_with (first|(go_at_call 147;(with_reducible refine Za (K.out _) ?_);rintro e w2 ⟨rfl,A⟩;simp only[splitAns]))
  go_ret2
  exact ⟨_,rfl,⟨[],rfl⟩,I.trans A⟩
 |some pq=>
  obtain ⟨p,q⟩:=pq;rw[hsp] at D F;dsimp only at D;have K:=gd F;clear hsp F;by_cases Q:p= []
  ·subst Q;have M:(str []).toList.isEmpty=true:=Ui;have U:((str []).toList== [120,109,108,110,115])=false:=Jq (by decide);by_cases H:q=xmlnsL
   ·rw[Zh ⟨rfl,H⟩] at D;subst D;have J:((str q).toList== [120,109,108,110,115])=true:=V6 H;clear H;go_enter func148,ntmps148
    go_wp2_with (first|(go_at_call 147;(with_reducible refine Za (K.out _) ?_);rintro e w2 ⟨rfl,A⟩;simp only[splitAns]))
    go_ret2
    exact ⟨_,rfl,rfl,I.trans A⟩
   ·rw[Ze (λh=>H h.2),Ze (by decide)] at D;subst D;have J:((str q).toList== [120,109,108,110,115])=false:=Jq H;clear H;go_enter func148,ntmps148
    go_wp2_with (first|(go_at_call 147;(with_reducible refine Za (K.out _) ?_);rintro e w2 ⟨rfl,A⟩;simp only[splitAns]))
    go_ret2
    exact ⟨_,rfl,⟨q,rfl⟩,I.trans A⟩
  ·have M:=Ve Q;rw[Ze (λh=>Q h.1)] at D;by_cases H:p=xmlnsL
   ·rw[Zh H] at D;subst D;have J:((str p).toList== [120,109,108,110,115])=true:=V6 H;clear H Q;go_enter func148,ntmps148
    go_wp2_with (first|(go_at_call 147;(with_reducible refine Za (K.out _) ?_);rintro e w2 ⟨rfl,A⟩;simp only[splitAns]))
    go_ret2
    exact ⟨_,rfl,rfl,I.trans A⟩
   ·rw[Ze H] at D;subst D;have J:((str p).toList== [120,109,108,110,115])=false:=Jq H;clear H Q;go_enter func148,ntmps148
    go_wp2_with (first|(go_at_call 147;(with_reducible refine Za (K.out _) ?_);rintro e w2 ⟨rfl,A⟩;simp only[splitAns]))
    go_ret2
    exact ⟨_,rfl,⟨q,rfl⟩,I.trans A⟩
def cellsB (b:List UInt8×List UInt8):List Value:= [.string (str b.1),.string (str b.2)]
def flatB (l:Scope):List Value:=(l.map cellsB).flatten
def RSc (w:Wq) (v:Value) (l:Scope):Prop:=RSl w 2 v l.length (flatB l)
theorem RSc.ext {l:Scope} (h:RSc w v l) (q:Ext w w'):RSc w' v l:=RSl.ext h q
theorem RSc.form {l:Scope} (h:RSc w v l):∃A c,v= .slice A l.length c/\l.length<=c/\c<=maxLen:=by
 obtain ⟨_,A,c,e,q,D,_⟩:=h;exact ⟨A,c,e,q,D⟩
theorem Zbn (a b:Scope):flatB (a++b)=flatB a++flatB b:=by unfold flatB;rw[ZR,Q9]
theorem Zbo (x:List UInt8×List UInt8):flatB [x]=cellsB x:=by unfold flatB;simp
theorem Gx (x:List UInt8×List UInt8):∀u∈cellsB x,u.oneCell'=true:=by
 intro u h;simp only[cellsB,ZF,Ya,Xs] at h;rcases h with rfl|rfl<;>rfl
theorem Ze8 (l:Scope):∀u∈flatB l,u.oneCell'=true:=by
 intro u h;obtain ⟨c,q,h⟩:=Zkr.1 h;obtain ⟨a,_,rfl⟩:=Z3.1 q;exact Gx a u h
theorem RSc.at {l:Scope} (h:RSc w v l) (D:k<l.length):∃ad c,v= .slice (some ad) l.length c/\w.cell? (ad.add (k*2))=some (.string (str l[k].1))/\w.cell? ⟨(ad.add (k*2)).block,(ad.add (k*2)).off+1,none⟩=some (.string (str l[k].2)):=by
 obtain ⟨ad,c,e,A⟩:=RSl.elem (k:=2) (css:=l.map cellsB) h (by decide) (by intro c A;obtain ⟨x,_,rfl⟩:=Z3.1 A;rfl) k (cellsB l[k]) (by rw[YD,Zr D];rfl);rw[IG] at A;have q:∀i,0<i->(ad.add (k*2)).add i=⟨(ad.add (k*2)).block,(ad.add (k*2)).off+i,none⟩:=λi F=>Ze (by omega);refine ⟨ad,c,e,?_,?_⟩
 ·have:=A 0 _ rfl;rwa [add_zero] at this
 ·have:=A 1 _ rfl;rwa [q _ (by decide)] at this
def lookAns:Option (List UInt8)->Value
 |some v=> .tuple #[.string (str v),.bool true]
 |none=> .tuple #[.string (str []),.bool false]
theorem Gh (v:Value) (sc:Scope) (p:List UInt8) (w:Wq) (h:RSc w v sc) (hn:sc.length<=140737488351232):
 Calls prog 149 #[v,.string (str p)] w λe w'=>e= .returned (lookAns (lookL sc p))/\w'=w:=by
 obtain ⟨A,c,rfl, -, -⟩:=h.form;by_cases M:p=xmlL
 ·have Z:((str p).toList== [120,109,108])=true:=V6 M;have J:lookL sc p=some xmlSpaceL:=by unfold lookL;rw[Zh M]
  rw[J];clear M J;go_enter func149,ntmps149;go_wp2
  go_ret2
  exact ⟨rfl,rfl⟩
 ·have Z:((str p).toList== [120,109,108])=false:=Jq M;rw[ZiI M];obtain ⟨R,J⟩:∃R,lookTo sc p sc.length=R:=⟨_,rfl⟩;rw[J];have Y:=gd J;clear M J;go_enter func149,ntmps149;go_wp2;go_loopw [6] (λi wr=>∃k:Nat,k<=sc.length/\i=nI ((k:Int) - 1)/\Hid (lookTo sc p k=R)/\wr=w) (λi _=>(intOf i+1).toNat)
  case atStart=>exact ⟨sc.length,Zb _,by go_num,Y,rfl⟩
  case round=>
   obtain ⟨k,hk,rfl,I,rfl⟩:=hrel;cases k with
   |zero=>
    have q:=I.out;rw[ZdW] at q;by_cases K:p= []
    ·rw[Zh K] at q;have S:(str p).toList.isEmpty=true:=(by rw[K];exact Ui);subst q;clear I K;go_wp2
     go_ret2
     exact ⟨rfl,rfl⟩
    ·rw[Ze K] at q;have S:=Ve K;subst q;clear I K;go_wp2
     go_ret2
     exact ⟨rfl,rfl⟩
   |succ m=>
    have Q:m<sc.length:=hk;obtain ⟨ad,c',hv,a0,V⟩:=h.at Q;injection hv with hv1 hv2 hv3;subst hv1;clear hv2 hv3;have H:((m+1:Nat):Int) - 1=(m:Int):=(by omega);rw[H];have ha:(0:Int)<=(m:Int):=(by omega);have hc:(m:Int)<(sc.length:Int):=(by omega);by_cases F:sc[m].1=p
    ·have q:=I.out;rw[Zfm Q F] at q;obtain ⟨x,D⟩:∃x,sc[m]=x:=⟨_,rfl⟩;rw[D] at a0 V F q;have U:((str x.1).toList==(str p).toList)=true:=(by rw[XW,F];simp);subst q;clear I F D H;go_wp2
     go_ret2
     exact ⟨rfl,rfl⟩
    ·have q:=I.out;rw[ZdV Q F] at q;obtain ⟨x,D⟩:∃x,sc[m]=x:=⟨_,rfl⟩;rw[D] at a0 V F;have U:((str x.1).toList==(str p).toList)=false:=(by rw[XW];simpa using F);have X:=gd q;clear I F D H q;go_wp2;go_roundw
     case rel=>exact ⟨m,by omega,by go_num,X,by trivial⟩
     case measure=>simp[intOf]
end
section
variable {k n:Nat} {nm sp:List UInt8}
def attrN (al:List AtP) (sp nm:List UInt8):Option (List UInt8):=(al.find? λa=>a.space==sp && a.name==nm).map AtP.value
theorem Zgk {al:List AtP} (q:k<al.length) (h:(al[k].space==sp && al[k].name==nm)=true):attrN (al.drop k) sp nm=some al[k].value:=by
 unfold attrN;rw[Zi q,List.find?_cons_of_pos (by simpa using h)];rfl
theorem ZeQ {al:List AtP} (q:k<al.length) (h:(al[k].space==sp && al[k].name==nm)=false):attrN (al.drop k) sp nm=attrN (al.drop (k+1)) sp nm:=by
 unfold attrN;rw[Zi q,List.find?_cons_of_neg (by simpa using h)]
theorem Zgj {al:List AtP} (h:al.length<=k):attrN (al.drop k) sp nm=none:=by
 unfold attrN;rw[ZC h];rfl
def isKid (sp nm:List UInt8) (x:Nc):Bool:=x.kind==0 && x.space==sp && x.name==nm
theorem UF:(prog.info? 25).map (λi=>(i.zero,i.size,i.bytes))=some (some (.agg #[nI 0,eS,eS,sN,sN,eS,nI 0]),7,112):=by kernel_rfl
theorem Zey {l:List Nc} {f:Nc->Bool} (h:k<l.length):(l.take (k+1)).filter f=(l.take k).filter f++(if f l[k] then [l[k]] else []):=by
 rw[Zx h,List.filter_append,List.filter_cons,List.filter_nil]
theorem UG (h:n<=16777216):n+1<=maxLen/\(n+1)*112<=140737488355328:=by unfold maxLen;omega
end
section
variable {P:Program} {base c d g' i k m n:Nat} {e ty:TypeId} {nm s t:List UInt8} {v:Value} {w w':World} {xs:List Value}
def BxN (w:Wq) (g:Nat) (k:Nat) (s n:List UInt8) (al ks:Value) (t:List UInt8) (a:Nat):Prop:=w.heap[g]? =some (.cells #[nI (k:Nat),.string (str s),.string (str n),al,ks,.string (str t),nI (a:Nat)] 25 (0,0))
section
variable {w w':World} {g k a:Nat} {s n t:List UInt8} {al ks:Value}
theorem BxN.ext (h:BxN w g k s n al ks t a) (q:Ext w w'):BxN w' g k s n al ks t a:=q.heap h
theorem BxN.grown {r:Option Nat} (h:BxN w g k s n al ks t a) (q:w.grownBy w' r) (A:r≠some g):BxN w' g k s n al ks t a:=
 (q.block g (ZG.1 h).1 (λe=>A (by rw[<-e]))).trans h
theorem BxN.other (h:BxN w g k s n al ks t a) (q:g≠g'):BxN (w.setCell ⟨g',i,none⟩ v) g k s n al ks t a:=(Z4 w ⟨g',i,none⟩ g v q).trans h
theorem BxN.cells (h:BxN w g k s n al ks t a):w.cell? ⟨g,0,none⟩=some (nI (k:Nat))/\w.cell? ⟨g,1,none⟩=some (.string (str s))/\w.cell? ⟨g,2,none⟩=some (.string (str n))/\w.cell? ⟨g,3,none⟩=some al/\
 w.cell? ⟨g,4,none⟩=some ks/\w.cell? ⟨g,5,none⟩=some (.string (str t))/\w.cell? ⟨g,6,none⟩=some (nI (a:Nat)):=by
 refine ⟨?_,?_,?_,?_,?_,?_,?_⟩<;>(rw[Xc _ _ _ _ _ _ h];rfl)
theorem BxN.frozen (h:BxN w g k s n al ks t a):w.frozen? ⟨g,1,none⟩=false/\w.frozen? ⟨g,2,none⟩=false/\w.frozen? ⟨g,3,none⟩=false/\w.frozen? ⟨g,4,none⟩=false:=
 ⟨ZX h 1,ZX h 2,ZX h 3,ZX h 4⟩
theorem BxN.space (h:BxN w g k s n al ks t a) (u:List UInt8):BxN (w.setCell ⟨g,1,none⟩ (.string (str u))) g k u n al ks t a:=Z7 w g 1 _ _ _ h
theorem BxN.name (h:BxN w g k s n al ks t a) (u:List UInt8):BxN (w.setCell ⟨g,2,none⟩ (.string (str u))) g k s u al ks t a:=Z7 w g 2 _ _ _ h
theorem BxN.attrs (h:BxN w g k s n al ks t a) (u:Value):BxN (w.setCell ⟨g,3,none⟩ u) g k s n u ks t a:=Z7 w g 3 _ _ _ h
theorem BxN.kids (h:BxN w g k s n al ks t a) (u:Value):BxN (w.setCell ⟨g,4,none⟩ u) g k s n al u t a:=Z7 w g 4 _ _ _ h
end
theorem Zv:(prog.info? 25).map (λi=>i.size)=some 7:=by kernel_rfl
theorem Yx {a:Nat} {A B:Option Addr}:(#[Value.int .i64 (k:Nat),.string (str s),.string (str nm),.slice A n c,.slice B m d,.string (str t),nI (a:Nat)]).all (λu=>u.oneCell')=true:=by simp[Value.oneCell']
theorem GH {q:Func} {p u x y:Tmp} (h:q.results=#[.cell p ty,.tmp u,.tmp x,.tmp y]) (tmps:Array Value) (w:Wq):
 (results q tmps).run P w=
  ((asAddr (tmps.getD p undef)).run P w).andThen λa A=>((loadVar ty a).run P A).andThen λv D=> .ok (.tuple #[v,tmps.getD u undef,tmps.getD x undef,tmps.getD y undef]) D:=by
 simp only[results,h];simp[Sem.run_bind,Result.andThen]
theorem Yy {q:Func} {p u x y:Tmp} (h:q.results=#[.cell p ty,.tmp u,.tmp x,.tmp y]) (tmps:Array Value) (w:Wq) (g:Nat) (t:TypeId) (cs:Array Value) (fr:Nat×Nat) (d:TypeDesc)
 (H:tmps.getD p undef= .pointer (some ⟨g,0,none⟩)) (D:w.heap[g]? =some (.cells cs t fr))
 (I:P.underlying ty=some d) (A:(match d with| .struct _| .array _ _=>true|_=>false)=true) (F:(P.info? ty).map (·.size)=some cs.size):
 (results q tmps).run P w= .ok (.tuple #[.agg cs,tmps.getD u undef,tmps.getD x undef,tmps.getD y undef]) w:=by
 rw[GH h,H];simp[asAddr,run_loadVar_row w g t ty cs fr d D I A F]
def HeadRet (B:Nat) (w:Wq) (v:Value) (at_:Nat):Except PErr (List UInt8×List UInt8×List AtP×Scope)->Prop
 | .ok (sp,l,al,inner)=>∃av iv,v= .tuple #[.agg #[nI 0,.string (str sp),.string (str l),av,sN,.string (str []),nI (at_:Nat)],iv,nI 0,nI 0]/\RAts w av al/\RSc w iv inner/\∀g,av.ownBlock=some g->B<=g
 | .error (y,c)=>∃m:Nc,v= .tuple #[.agg (cellsN m).toArray,sN,nI (y:Nat),nI (c:Nat)]/\slN m
theorem ZgZ:(prog.info? 203).map (λi=>(i.zero,i.size,i.bytes))=some (some (.agg #[eS,eS]),2,32):=by kernel_rfl
theorem ZaY (l:List UInt8):∃b,splitAns (splitL l)= .tuple #[.string (str ((splitL l).getD ([],[])).1),.string (str ((splitL l).getD ([],[])).2),.bool b]:=by
 cases h:splitL l with
 |none=>exact ⟨false,rfl⟩
 |some pq=>exact ⟨true,rfl⟩
theorem Zkc {a:List UInt8} (h:(str a).toList.isEmpty=true):(a== [])=true:=by
 rw[Z2,Z5] at h;rw[List.isEmpty_iff.1 h];rfl
theorem Zjb {a:List UInt8} (h:(str a).toList.isEmpty=false):(a== [])=false:=by
 rw[Z2,Z5] at h;cases a with
 |nil=>cases h
 |cons x t=>rfl
theorem ZbL {q size A K:Nat} {H:TypeId} {v':Value} {F:List Value} (h:w.ownsRow base e size v n xs) (I:w.ownsRow q H A v' K F) (D:∀g,v.ownBlock=some g->g<q) (J:w.grownBy w' v'.ownBlock):w'.ownsRow base e size v n xs:=by
 refine h.kept J ?_;cases hv:v.ownBlock with
 |none=>exact Or.inl rfl
 |some g=>refine Or.inr λe=> ?_;have M:=(I.lt g e.symm).1;have:=D g hv;omega
end
end Go.Proofs.YtnlafkgkcnenfaaGreatDoor
