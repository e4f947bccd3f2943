/- Parts of the proof: contracts and plain laws. -/
import Derived.Test.YtnlafkgkcnenfaaGreatDoorR06
namespace Go.Proofs.YtnlafkgkcnenfaaGreatDoor
open Go Go.RowKit Tryz
set_option linter.unusedVariables false
set_option linter.unusedSimpArgs false
set_option maxRecDepth 100000
set_option maxHeartbeats 16000000
theorem UZ (s:ByteArray) (a z:Nat) (value:Bool) (w:Wq) (hs:s.size<=16777216) (ha:a<=z) (gq:z<=s.size):
 Calls prog 146 #[.string s,nI (a:Nat),nI (z:Nat),.bool value] w λe w'=>e= .returned (contAns z (contP value s.data.toList a z))/\Ext w w':=by
 have gu:=ZL s;rw[ZiD];obtain ⟨R,hR⟩:∃R,contAt value s.data.toList z a []=R:=⟨_,rfl⟩;rw[hR];have gc:=ZeH s z gq;have hy:(s.extract 0 z).data.toList=s.data.toList.take z:=by have:=Xq s 0 z;rw[Yu,JN] at this;exact this
 have hT:(s.extract 0 z).size=z:=by rw[<-ZL,hy,ZG];omega
 obtain ⟨S,hS⟩:∃S,s.extract 0 z=S:=⟨_,rfl⟩;rw[hS] at gc hy hT;have h5:=gd hT;have ge:=gd hy;clear hS hT hy;go_enter func146,ntmps146;go_wp2;go_loopw [11,12,13,14,15,16,17,18] (λo i _ _ _ _ _ _ wr=>∃(k:Nat) (O:ByteArray),a<=k/\k<=z/\o= .string O/\i=nI k/\Hid (O.size<=4*k)/\Hid (contAt value s.data.toList z k O.data.toList=R)/\Ext w wr) (λ_ i _ _ _ _ _ _ _=>z - (intOf i).toNat)
 case atStart=>exact ⟨a,⟨#[]⟩,Zb _,ha,rfl,rfl,Zh _,gd hR,Ext.refl _⟩
 case round=>
  obtain ⟨k,O,gs,hk,rfl,rfl,hO,hr,hx⟩:=hrel;by_cases hA:k<z
  ·have go:(k:Int)<(z:Int):=(by omega);have gz:k<s.size:=(by omega);have hl:k<s.data.toList.length:=(by omega);by_cases Z:s[k]=38
   ·have hb:(((s[k]).toNat:Int)==38)=true:=(by rw[Z];rfl);have hh:(s.data.toList.drop k).head? =some 38:=(by rw[Zi hl,J3];exact Zy some Z);have HC:=gd (λw'=>Iv S k w' (by have:=h5.out;omega) (by have:=h5.out;omega));rw[ge.out] at HC;cases hra:refAt (s.data.toList.take z) k with
    |none=>
     have H:=(Zfc (value:=value) (out:=O.data.toList) hA hh hra).symm.trans hr.out;subst H;rw[hra] at HC;clear Z hh hra hr
     go_wp2_with (first|(go_at_call 186;(with_reducible refine Za (HC.out _) ?_);rintro e w2 ⟨rfl,rfl⟩;simp only[refAns]))
     go_ret3
     exact ⟨rfl,hx⟩
    |some re=>
     obtain ⟨r,e⟩:=re;have gk:=Kt hra;have gt:=Zhh (Zf1 hra);rw[ZG] at gk;have J:=gd ((Zfe (value:=value) (out:=O.data.toList) (by omega) hA hh hra).symm.trans hr.out);rw[hra] at HC;have HE:=gd (λw'=>Gr r w' (by omega));have gi:=Zke r;obtain ⟨L,hL⟩:∃L,encN r=L:=⟨_,rfl⟩;rw[hL] at HE J gi;have gp:(str L).size=L.length:=(by rw[<-ZL,Ya]);have h7:=hO.out;have HN:Hid (contAt value s.data.toList z e (O++str L).data.toList=R):=(by show _=_;rw[UR,Ya];exact J.out);have hp:Hid ((O++str L).size<=4*e):=(by show _<=_;rw[Xl,gp];omega);clear Z hh hra hr J hL
     go_wp2_with (first|(go_at_call 186;(with_reducible refine Za (HC.out _) ?_);rintro e w2 ⟨rfl,rfl⟩;simp only[refAns])|(go_at_call 181;(with_reducible refine Za (HE.out _) ?_);rintro e w2 ⟨rfl,hm⟩))
     go_roundw
     case rel=>exact ⟨e,O++str L,by omega,by omega,rfl,rfl,hp,HN,hx.trans hm⟩
     case measure=>simp[intOf];omega
   ·have hb:(((s[k]).toNat:Int)==38)=false:=(by rw[ZC];intro e;exact Z (YR.1 (by simpa using (show (s[k]).toNat=38 by omega))));have hh:(s.data.toList.drop k).head?≠some 38:=(by rw[Zi hl,J3];intro e;injection e with e;exact Z e);have hv:=Vf (s:=s.data.toList) hA (by omega) hh;have hB:=Zcf (value:=value) (s:=s.data.toList) (out:=O.data.toList) (by omega) hA hh;have hG:k+(plainAt s.data.toList z k).length<=z:=(by have h1:=(YF (λc:UInt8=>c !=38) (l:=(s.data.toList.take z).drop k)).length_le;rw[Zm,ZG] at h1;unfold plainAt;omega);have hw:k+((((s.data.toList.take z).drop k).takeWhile λc=>c !=38)).length=k+(plainAt s.data.toList z k).length:=rfl;have ho:(s.extract k (k+(plainAt s.data.toList z k).length)).data.toList=plainAt s.data.toList z k:=by
     rw[Xq];have h1:(s.data.toList.drop k).take (z - k)=(s.data.toList.take z).drop k:=(by rw[List.drop_take]);have h2:plainAt s.data.toList z k=((s.data.toList.take z).drop k).take (plainAt s.data.toList z k).length:=Xn.1 (JQ _);rw[h2,ZG,<-h1,List.take_take]
     congr 1
     rw[ZG,Zm];omega
    obtain ⟨P,hP⟩:∃P,plainAt s.data.toList z k=P:=⟨_,rfl⟩;rw[hP] at hv hB hG hw ho;obtain ⟨E,hE⟩:∃E,k+P.length=E:=⟨_,rfl⟩;rw[hE] at hB hG hw ho;have hZ:=QN s k E (k:Nat) (E:Nat) rfl rfl (by omega) (by omega);obtain ⟨X,hX⟩:∃X,s.extract k E=X:=⟨_,rfl⟩;rw[hX] at hZ ho;have gf:X.size=P.length:=(by rw[<-ZL,ho]);have gb:=Kl P;have HL:=gd (λw'=>Kx X w' (by omega));rw[ho] at HL;obtain ⟨Y,hY⟩:∃Y,str (lns P)=Y:=⟨_,rfl⟩;have hK:Y.data.toList=lns P:=(by rw[<-hY,Ya]);have hN:Y.data.toList.length=Y.size:=ZL Y;have hF:Y.size<=P.length:=(by rw[<-hN,hK];exact gb);rw[hY] at HL;have J:=gd (hB.symm.trans hr.out);rw[<-hK] at J;have h6:=gd hN;have hn:=gd hF;have U:=gd hE;have hH:=gd hw;have hD:=gd hv;clear Z hh hr hB hv hw ho hX gf gb hY hK hN hF hP hE;go_wp2;obtain ⟨wP,gr⟩:∃wP:Wq,wP=wr:=⟨_,rfl⟩;subst gr;go_loopw [16] (λv wr=>∃j:Nat,k<=j/\j<=E/\v=nI j/\Hid (j+((((s.data.toList.take z).drop j).takeWhile λc=>c !=38)).length=E)/\wr=wP) (λv _=>z - (intOf v).toNat)
    case atStart=>exact ⟨k,Zb _,by have:=U.out;omega,rfl,hH,rfl⟩
    case round=>
     obtain ⟨j,gy,gw,rfl,hj,rfl⟩:=hrel;have hC:∀h:j<(s.data.toList.take z).length,∀h2:j<s.size,(s.data.toList.take z)[j]=s[j]:=λh h2=>(by rw[List.getElem_take];rfl);by_cases gx:j<z
     ·have gl:(j:Int)<(z:Int):=(by omega);have h9:j<s.size:=(by omega);have hz:j<(s.data.toList.take z).length:=(by rw[ZG];omega);by_cases I:s[j]=38
      ·have gg:(((s[j]).toNat:Int) !=38)=false:=(by rw[I];rfl);have hW:j=E:=(JI (p:=λc=>c !=38) hz (by rw[hC hz h9,I];rfl)).symm.trans hj.out;subst hW;clear I hC hj hH;have hQ:=λwx=>Lib.run_convert_string_bytes (P:=prog) wx 9 94 5 Y (u:= .string) underlying9 underlying94 underlying5
       go_wp2_with (first|(go_at_call 142;(with_reducible refine Za (HL.out _) ?_);rintro e w2 ⟨rfl,hm⟩))
       obtain ⟨W1,K⟩:∃W1,W1=Lib.bytesWorld w2 5 Y:=⟨_,rfl⟩;have h0:Ext w W1:=(by rw[K];exact (hx.trans hm).bytes _ _);have A:BR W1 w2.heap.size Y.data.toList:=(by rw[K];exact BR.bytes w2 Y);have hg:w.heap.size<=w2.heap.size:=(hx.trans hm).size;have hJ:Y.size<=16777216:=(by have h1:=hn.out;have h2:=U.out;omega);rw[<-K];generalize Go.grownCap w2 Y.size 0 5=cap;obtain ⟨g,hu⟩:∃g,w2.heap.size=g:=⟨_,rfl⟩;rw[hu] at A hg|-;clear K hQ hu hZ;go_loopw [18] (λv wr=>∃(i:Nat) (M:List UInt8),i<=Y.size/\v=nI i/\Hid (M.length=Y.size)/\BR wr g M/\Hid (M.take i++finC value (M.drop i)=finC value Y.data.toList)/\Ext w wr) (λv _=>Y.size - (intOf v).toNat)
       case atStart=>exact ⟨0,Y.data.toList,Zh _,rfl,h6,A,rfl,h0⟩
       case round=>
        obtain ⟨i,M,hi,rfl,hM,A,H,Q⟩:=hrel;have D:=hM.out;by_cases hd:i<Y.size
        ·have hV:(i:Int)<(Y.size:Int):=(by omega);have F:i<M.length:=(by omega);cases value with
         |false=>
          have HF:Hid (M.take (i+1)++finC false (M.drop (i+1))=finC false Y.data.toList):=(by show _=_;have:=H.out;rw[EZ,YZ] at this|-;exact this);clear H D;go_wp2;go_roundw
          case rel=>exact ⟨i+1,M,hd,by go_num,hM,A,HF,Q⟩
          case measure=>simp[intOf];omega
         |true=>
          have hc:=A.cell i F;have gj:=A.froz i F;cases hsp:isSp (M[i].toNat) with
          |false=>
           have HF:Hid (M.take (i+1)++finC true (M.drop (i+1))=finC true Y.data.toList):=I1 F hsp H.out;have V:=gd (λw'=>YT ((M[i].toNat:Nat):Int) w');rw[hsp] at V;obtain ⟨b,hb⟩:∃b,M[i]=b:=⟨_,rfl⟩;rw[hb] at V hc;clear H D hsp hb
           go_wp2_with (first|(go_at_call 100;(with_reducible refine Za (V.out _) ?_);rintro e w5 ⟨rfl,rfl⟩))
           go_roundw
           case rel=>exact ⟨i+1,M,hd,by go_num,hM,A,HF,Q⟩
           case measure=>simp[intOf];omega
          |true=>
           have HF:Hid ((M.set i 32).take (i+1)++finC true ((M.set i 32).drop (i+1))=finC true Y.data.toList):=ZaG F hsp H.out;have ht:=A.set F 32;have hI:Hid ((M.set i 32).length=Y.size):=(by show _=_;rw[XI];exact D);have h4:=Q.setCell (p:=⟨g,i,none⟩) hg (.int .u8 32);have V:=gd (λw'=>YT ((M[i].toNat:Nat):Int) w');rw[hsp] at V;obtain ⟨b,hb⟩:∃b,M[i]=b:=⟨_,rfl⟩;rw[hb] at V hc;clear H D hsp hb
           go_wp2_with (first|(go_at_call 100;(with_reducible refine Za (V.out _) ?_);rintro e w5 ⟨rfl,rfl⟩))
           go_roundw
           case rel=>exact ⟨i+1,M.set i 32,hd,by go_num,hI,ht,HF,h4⟩
           case measure=>simp[intOf];omega
        ·have hV:¬(i:Int)<(Y.size:Int):=(by omega);have hU:i=Y.size:=(by omega);subst hU;have hq:M=finC value Y.data.toList:=(by have:=H.out;rw[Zw (by omega),ZM (by omega)] at this;have e0:finC value ([]:List UInt8)= []:=(by unfold finC;split<;>rfl);rw[e0,Ye] at this;exact this);have gh:=A.conv (c:=cap) (hM.out.symm);have h7:=hO.out;have he:(str M).size=Y.size:=(by rw[<-ZL,Ya,hM.out]);have HN:Hid (contAt value s.data.toList z j (O++str M).data.toList=R):=(by show _=_;rw[UR,Ya,hq];exact J.out);have hp:Hid ((O++str M).size<=4*j):=(by show _<=_;have h1:=hn.out;have h2:=U.out;rw[Xl,he];omega);have gm:k<j:=(by have h2:=U.out;have h3:=hD.out;omega);have ga:(str M).size<=16777216:=(by rw[he];exact hJ);clear H D hq hM J hO he;go_wp2;go_roundw
         case rel=>exact ⟨j,O++str M,by omega,by omega,rfl,rfl,hp,HN,Q⟩
         case measure=>simp[intOf];omega
      ·have gg:(((s[j]).toNat:Int) !=38)=true:=(by rw[YU];intro e;exact I (YR.1 (by simpa using (show (s[j]).toNat=38 by omega))));have HN:=gd ((Ud (p:=λc=>c !=38) hz (by rw[hC hz h9];simpa using I)).symm.trans hj.out);clear hj I;have h8:j+1<=E:=(by have:=HN.out;omega);go_wp2;go_roundw
       case rel=>exact ⟨j+1,by omega,h8,by go_num,HN,by trivial⟩
       case measure=>simp[intOf];omega
     ·have gl:¬(j:Int)<(z:Int):=(by omega);have hW:j=E:=(Gf (p:=λc=>c !=38) (s:=s.data.toList.take z) (by rw[ZG];omega)).symm.trans hj.out;subst hW;clear hC hj hH;have hQ:=λwx=>Lib.run_convert_string_bytes (P:=prog) wx 9 94 5 Y (u:= .string) underlying9 underlying94 underlying5
      go_wp2_with (first|(go_at_call 142;(with_reducible refine Za (HL.out _) ?_);rintro e w2 ⟨rfl,hm⟩))
      obtain ⟨W1,K⟩:∃W1,W1=Lib.bytesWorld w2 5 Y:=⟨_,rfl⟩;have h0:Ext w W1:=(by rw[K];exact (hx.trans hm).bytes _ _);have A:BR W1 w2.heap.size Y.data.toList:=(by rw[K];exact BR.bytes w2 Y);have hg:w.heap.size<=w2.heap.size:=(hx.trans hm).size;have hJ:Y.size<=16777216:=(by have h1:=hn.out;have h2:=U.out;omega);rw[<-K];generalize Go.grownCap w2 Y.size 0 5=cap;obtain ⟨g,hu⟩:∃g,w2.heap.size=g:=⟨_,rfl⟩;rw[hu] at A hg|-;clear K hQ hu hZ;go_loopw [18] (λv wr=>∃(i:Nat) (M:List UInt8),i<=Y.size/\v=nI i/\Hid (M.length=Y.size)/\BR wr g M/\Hid (M.take i++finC value (M.drop i)=finC value Y.data.toList)/\Ext w wr) (λv _=>Y.size - (intOf v).toNat)
      case atStart=>exact ⟨0,Y.data.toList,Zh _,rfl,h6,A,rfl,h0⟩
      case round=>
       obtain ⟨i,M,hi,rfl,hM,A,H,Q⟩:=hrel;have D:=hM.out;by_cases hd:i<Y.size
       ·have hV:(i:Int)<(Y.size:Int):=(by omega);have F:i<M.length:=(by omega);cases value with
        |false=>
         have HF:Hid (M.take (i+1)++finC false (M.drop (i+1))=finC false Y.data.toList):=(by show _=_;have:=H.out;rw[EZ,YZ] at this|-;exact this);clear H D;go_wp2;go_roundw
         case rel=>exact ⟨i+1,M,hd,by go_num,hM,A,HF,Q⟩
         case measure=>simp[intOf];omega
        |true=>
         have hc:=A.cell i F;have gj:=A.froz i F;cases hsp:isSp (M[i].toNat) with
         |false=>
          have HF:Hid (M.take (i+1)++finC true (M.drop (i+1))=finC true Y.data.toList):=I1 F hsp H.out;have V:=gd (λw'=>YT ((M[i].toNat:Nat):Int) w');rw[hsp] at V;obtain ⟨b,hb⟩:∃b,M[i]=b:=⟨_,rfl⟩;rw[hb] at V hc;clear H D hsp hb
          go_wp2_with (first|(go_at_call 100;(with_reducible refine Za (V.out _) ?_);rintro e w5 ⟨rfl,rfl⟩))
          go_roundw
          case rel=>exact ⟨i+1,M,hd,by go_num,hM,A,HF,Q⟩
          case measure=>simp[intOf];omega
         |true=>
          have HF:Hid ((M.set i 32).take (i+1)++finC true ((M.set i 32).drop (i+1))=finC true Y.data.toList):=ZaG F hsp H.out;have ht:=A.set F 32;have hI:Hid ((M.set i 32).length=Y.size):=(by show _=_;rw[XI];exact D);have h4:=Q.setCell (p:=⟨g,i,none⟩) hg (.int .u8 32);have V:=gd (λw'=>YT ((M[i].toNat:Nat):Int) w');rw[hsp] at V;obtain ⟨b,hb⟩:∃b,M[i]=b:=⟨_,rfl⟩;rw[hb] at V hc;clear H D hsp hb
          go_wp2_with (first|(go_at_call 100;(with_reducible refine Za (V.out _) ?_);rintro e w5 ⟨rfl,rfl⟩))
          go_roundw
          case rel=>exact ⟨i+1,M.set i 32,hd,by go_num,hI,ht,HF,h4⟩
          case measure=>simp[intOf];omega
       ·have hV:¬(i:Int)<(Y.size:Int):=(by omega);have hU:i=Y.size:=(by omega);subst hU;have hq:M=finC value Y.data.toList:=(by have:=H.out;rw[Zw (by omega),ZM (by omega)] at this;have e0:finC value ([]:List UInt8)= []:=(by unfold finC;split<;>rfl);rw[e0,Ye] at this;exact this);have gh:=A.conv (c:=cap) (hM.out.symm);have h7:=hO.out;have he:(str M).size=Y.size:=(by rw[<-ZL,Ya,hM.out]);have HN:Hid (contAt value s.data.toList z j (O++str M).data.toList=R):=(by show _=_;rw[UR,Ya,hq];exact J.out);have hp:Hid ((O++str M).size<=4*j):=(by show _<=_;have h1:=hn.out;have h2:=U.out;rw[Xl,he];omega);have gm:k<j:=(by have h2:=U.out;have h3:=hD.out;omega);have ga:(str M).size<=16777216:=(by rw[he];exact hJ);clear H D hq hM J hO he;go_wp2;go_roundw
        case rel=>exact ⟨j,O++str M,by omega,by omega,rfl,rfl,hp,HN,Q⟩
        case measure=>simp[intOf];omega
  ·have go:¬(k:Int)<(z:Int):=(by omega);have gn:k=z:=(by omega);subst gn;have H:=(Zfd (Zb _)).symm.trans hr.out;subst H;clear hr;go_wp2
   go_ret3
   refine ⟨?_,hx⟩;rw[contAns,show str O.data.toList=O from Vu (Ya _)];rfl
section
variable {k:Nat} {v:Value} {w w':World}
def cellsA (a:AtP):List Value:= [.string (str a.space),.string (str a.name),.string (str a.value),nI (a.at_:Nat)]
def flatA (l:List AtP):List Value:=(l.map cellsA).flatten
theorem J7 (a:AtP):∀u∈cellsA a,u.oneCell'=true:=by
 intro u h;simp only[cellsA,ZI,Yg,Xx] at h;rcases h with rfl|rfl|rfl|rfl<;>rfl
theorem QZ (a b:List AtP):flatA (a++b)=flatA a++flatA b:=by unfold flatA;rw[ZK,Gj]
theorem Q7 (a:AtP):flatA [a]=cellsA a:=by unfold flatA;simp
theorem Zfo (l:List AtP):∀u∈flatA l,u.oneCell'=true:=by
 intro u h;obtain ⟨c,A,h⟩:=ZkW.1 h;obtain ⟨a,_,rfl⟩:=ZO.1 A;exact J7 a u h
def RAts (w:Wq) (v:Value) (l:List AtP):Prop:=RSl w 4 v l.length (flatA l)
theorem RAts.ext {l:List AtP} (h:RAts w v l) (A:Ext w w'):RAts w' v l:=RSl.ext h A
theorem RAts.nil (w:Wq):RAts w sN []:=RSl.nil w 4
theorem RAts.form {l:List AtP} (h:RAts w v l):∃A c,v= .slice A l.length c/\l.length<=c/\c<=maxLen:=by
 obtain ⟨_,A,c,e,D,F,_⟩:=h;exact ⟨A,c,e,D,F⟩
structure AtAt (w:Wq) (q:Addr) (a:AtP):Prop where
 c0:w.cell? q=some (.string (str a.space))
 c1:w.cell? ⟨q.block,q.off+1,none⟩=some (.string (str a.name))
 c2:w.cell? ⟨q.block,q.off+2,none⟩=some (.string (str a.value))
 c3:w.cell? ⟨q.block,q.off+3,none⟩=some (nI (a.at_:Nat))
theorem RAts.at {l:List AtP} (h:RAts w v l) (F:k<l.length):∃ad c,v= .slice (some ad) l.length c/\AtAt w (ad.add (k*4)) l[k]:=by
 obtain ⟨ad,c,e,D⟩:=RSl.elem (k:=4) (css:=l.map cellsA) h (by decide) (by intro c D;obtain ⟨x,_,rfl⟩:=ZO.1 D;rfl) k (cellsA l[k]) (by rw[Ys,Zj F];rfl);rw[U5] at D;have A:∀i,0<i->(ad.add (k*4)).add i=⟨(ad.add (k*4)).block,(ad.add (k*4)).off+i,none⟩:=λi H=>Zg (by omega);refine ⟨ad,c,e,?_,?_,?_,?_⟩
 ·have:=D 0 _ rfl;rwa [add_zero] at this
 ·have:=D 1 _ rfl;rwa [A _ (by decide)] at this
 ·have:=D 2 _ rfl;rwa [A _ (by decide)] at this
 ·have:=D 3 _ rfl;rwa [A _ (by decide)] at this
structure Tc where
 al:Value
 t:Tok
def cellsT (x:Tc):List Value:= [nI (x.t.kind:Nat),.string (str x.t.name),x.al,.bool x.t.empty,.string (str x.t.text),nI (x.t.at_:Nat)]
def flatT (l:List Tc):List Value:=(l.map cellsT).flatten
def RdT (w:Wq) (x:Tc):Prop:=RAts w x.al x.t.attrs
def RTs (w:Wq) (v:Value) (l:List Tc):Prop:=RSl w 6 v l.length (flatT l)
inductive Nc where
 |mk (kind:Nat) (space name:List UInt8) (al:Value) (attrs:List AtP) (ks:Value) (kids:List Nc) (text:List UInt8) (at_:Nat)
def Nc.kids:Nc->List Nc| .mk _ _ _ _ _ _ k _ _=>k
def Nc.ks:Nc->Value| .mk _ _ _ _ _ k _ _ _=>k
def Nc.al:Nc->Value| .mk _ _ _ a _ _ _ _ _=>a
def Nc.attrs:Nc->List AtP| .mk _ _ _ _ a _ _ _ _=>a
def cellsN:Nc->List Value
 | .mk k s n al _ ks _ t a=> [nI (k:Nat),.string (str s),.string (str n),al,ks,.string (str t),nI (a:Nat)]
def flatN (l:List Nc):List Value:=(l.map cellsN).flatten
mutual
def Nc.nd:Nc->Nd
 | .mk k s n _ l _ ks t a=> .mk k s n l (Nc.nds ks) t a
def Nc.nds:List Nc->List Nd
 | []=> []
 |x::t=>x.nd::Nc.nds t
end
mutual
def RdN (w:Wq):Nc->Prop
 | .mk _ _ _ al l ks kids _ _=>RAts w al l/\RSl w 7 ks kids.length (flatN kids)/\RdNs w kids
def RdNs (w:Wq):List Nc->Prop
 | []=>True
 |x::t=>RdN w x/\RdNs w t
end
end
section
variable {P:Program} {ty:TypeId}
theorem Y7 (s:ByteArray) (L:List UInt8) (k:Nat) (w:Wq) (F:s.size<=16777216) (D:k<=16777216+9) (A:L.length<=9) (h:0<L.length):
 Calls prog 98 #[.string s,nI (k:Nat),.string ⟨L.toArray⟩] w λe w'=>e= .returned (.bool (hasAt s.data.toList k L))/\w'=w:=
 Zas s ⟨L.toArray⟩ k w (by unfold maxLen;omega) (by unfold maxLen;omega) (by show L.length<=_;unfold maxLen;omega) (by show 0<L.length;exact h)
theorem Kv (s:ByteArray) (L:List UInt8) (k:Nat) (w:Wq) (D:s.size<=16777216) (A:k<=s.size) (F:L.length<=9) (h:0<L.length):
 Calls prog 145 #[.string s,nI (k:Nat),.string ⟨L.toArray⟩] w λe w'=>e= .returned (nI (match findAt s.data.toList k L with|some i=>(i:Int)|none=> -1))/\w'=w:=
 ZeA s ⟨L.toArray⟩ k w D A (by show L.length<=_;omega) (by show 0<L.length;exact h)
theorem QL (s:ByteArray) (a:Nat) (O L:List UInt8) (w:Wq) (X:s.size<=16777216) (S:a+O.length<=s.size) (R:L.length<=9) (Q:0<L.length):
 Calls prog 141 #[.string s,nI (a:Nat),.string ⟨O.toArray⟩,.string ⟨L.toArray⟩] w λe w'=>
  e= .returned (match skipP s.data.toList a O.length L with| .ok n=> .tuple #[nI (n:Nat),nI 0]| .error (x,c)=> .tuple #[nI (x:Nat),nI (c:Nat)])/\w'=w:=by
 have F:=gd (λw'=>Kv s L (a+O.length) w' X S R Q);have U:=ZL s;unfold skipP;have D:(⟨O.toArray⟩:ByteArray).size=O.length:=rfl;have A:(⟨L.toArray⟩:ByteArray).size=L.length:=rfl;obtain ⟨J,I⟩:∃J:ByteArray,⟨O.toArray⟩=J:=⟨_,rfl⟩;obtain ⟨M,H⟩:∃M:ByteArray,⟨L.toArray⟩=M:=⟨_,rfl⟩;rw[I] at D|-;rw[H] at A F|-;rw[<-D] at S F|-;rw[<-A] at R Q|-;have h:((a+J.size:Nat):Int)=(a:Int)+(J.size:Int):=by omega
 cases hf:findAt s.data.toList (a+J.size) L with
 |none=>
  rw[hf] at F;rw[h] at F;clear hf I H D A h;go_enter func141,ntmps141
  go_wp2_with (first|(go_at_call 145;(with_reducible refine Za (F.out _) ?_);rintro e w2 ⟨rfl,rfl⟩))
  go_ret2
  exact ⟨rfl,rfl⟩
 |some i=>
  rw[hf] at F;rw[h] at F;have K:=KS (by omega) hf;rw[<-A] at K;have V:¬(i:Int)<0:=by omega
  clear hf I H D A h;go_enter func141,ntmps141
  go_wp2_with (first|(go_at_call 145;(with_reducible refine Za (F.out _) ?_);rintro e w2 ⟨rfl,rfl⟩))
  go_ret2
  exact ⟨by simp,rfl⟩
theorem KC {A:Func} {p u x:Tmp} (h:A.results=#[.cell p ty,.tmp u,.tmp x]) (tmps:Array Value) (w:Wq):
 (results A tmps).run P w=
  ((asAddr (tmps.getD p undef)).run P w).andThen λa D=>((loadVar ty a).run P D).andThen λv F=> .ok (.tuple #[v,tmps.getD u undef,tmps.getD x undef]) F:=by
 simp only[results,h];simp[Sem.run_bind,Result.andThen]
theorem Zr {A:Func} {p u x:Tmp} (h:A.results=#[.cell p ty,.tmp u,.tmp x]) (tmps:Array Value) (w:Wq) (g:Nat) (t:TypeId) (cs:Array Value) (fr:Nat×Nat) (d:TypeDesc)
 (I:tmps.getD p undef= .pointer (some ⟨g,0,none⟩)) (F:w.heap[g]? =some (.cells cs t fr))
 (J:P.underlying ty=some d) (D:(match d with| .struct _| .array _ _=>true|_=>false)=true) (H:(P.info? ty).map (·.size)=some cs.size):
 (results A tmps).run P w= .ok (.tuple #[.agg cs,tmps.getD u undef,tmps.getD x undef]) w:=by
 rw[KC h,I];simp[asAddr,run_loadVar_row w g t ty cs fr d F J D H]
end
section
variable {g g' i:Nat} {v:Value} {w w':World}
def AttrRet (v:Value):Except PErr (AtP×Nat)->Prop
 | .ok (a,n)=>v= .tuple #[.agg (cellsA a).toArray,nI (n:Nat),nI 0]
 | .error (x,c)=>∃a,v= .tuple #[.agg (cellsA a).toArray,nI (x:Nat),nI (c:Nat)]
theorem YI:(prog.info? 88).map (λi=>i.size)=some 4:=by kernel_rfl
theorem Ju (a:AtP):(cellsA a).toArray.all (λu=>u.oneCell')=true:=Zcx (J7 a)
def BxA (w:Wq) (g:Nat) (a:AtP):Prop:=w.heap[g]? =some (.cells #[.string (str a.space),.string (str a.name),.string (str a.value),nI (a.at_:Nat)] 88 (0,0))
theorem BxA.ext {a:AtP} (h:BxA w g a) (A:Ext w w'):BxA w' g a:=A.heap h
theorem BxA.cells {a:AtP} (h:BxA w g a):w.cell? ⟨g,0,none⟩=some (.string (str a.space))/\w.cell? ⟨g,1,none⟩=some (.string (str a.name))/\w.cell? ⟨g,2,none⟩=some (.string (str a.value))/\w.cell? ⟨g,3,none⟩=some (nI (a.at_:Nat))/\
 w.frozen? ⟨g,1,none⟩=false/\w.frozen? ⟨g,2,none⟩=false:=by
 refine ⟨?_,?_,?_,?_,ZX h 1,ZX h 2⟩<;>(rw[Xj _ _ _ _ _ _ h];rfl)
theorem BxA.name {a:AtP} (h:BxA w g a) (n:List UInt8):BxA (w.setCell ⟨g,1,none⟩ (.string (str n))) g ⟨a.space,n,a.value,a.at_⟩:=Yd w g 1 _ _ _ h
theorem BxA.value {a:AtP} (h:BxA w g a) (n:List UInt8):BxA (w.setCell ⟨g,2,none⟩ (.string (str n))) g ⟨a.space,a.name,n,a.at_⟩:=Yd w g 2 _ _ _ h
theorem BxA.other {a:AtP} (h:BxA w g a) (A:g≠g'):BxA (w.setCell ⟨g',i,none⟩ v) g a:=(ZY w ⟨g',i,none⟩ g v A).trans h
theorem BxA.alloc1 (w:Wq) (a b:AtP):BxA ((w.alloc (.cells (cellsA a).toArray 88)).alloc (.cells (cellsA b).toArray 88)) w.heap.size a:=
 Ext.heap ((Ext.refl _).alloc _) (Zf w _)
theorem BxA.alloc2 (w:Wq) (a b:AtP):BxA ((w.alloc (.cells (cellsA a).toArray 88)).alloc (.cells (cellsA b).toArray 88)) (w.heap.size+1) b:=by
 have:=Zf (w.alloc (.cells (cellsA a).toArray 88)) (.cells (cellsA b).toArray 88)
 rwa [Zt] at this
theorem Zej (s:ByteArray) (f k:Nat) (w:Wq) (hs:s.size<=16777216) (hf:f<=s.size) (hk:k<=s.size):
 Calls prog 185 #[.string s,nI (f:Nat),nI (k:Nat)] w λe w'=>∃v,e= .returned v/\AttrRet v (attrP s.data.toList f k)/\Ext w w':=by
 have h2:s.size<=maxLen:=by unfold maxLen;omega
 have hS:=ZL s;obtain ⟨R,D⟩:∃R,attrP s.data.toList f k=R:=⟨_,rfl⟩;rw[D];unfold attrP at D;dsimp only at D;have HN:=gd (λw'=>QK s k w' hs hk);have hE:=Vd (s:=s.data.toList) (k:=k) (by omega);obtain ⟨E,h7⟩:∃E,nmAt s.data.toList k=E:=⟨_,rfl⟩;rw[h7] at HN D hE;rw[hS] at hE;clear h7;have hz:=gd (BxA.alloc2 w ⟨[],[],[],0⟩ ⟨[],[],[],k⟩);have hD:=gd (BxA.alloc1 w ⟨[],[],[],0⟩ ⟨[],[],[],k⟩);have hH:=gd (((Ext.refl w).alloc (.cells (cellsA ⟨[],[],[],0⟩).toArray 88)).alloc (.cells (cellsA ⟨[],[],[],k⟩).toArray 88));by_cases hQ:E=k
 ·rw[Zl hQ] at D;subst hQ;have hb:((E:Int)==(E:Int))=true:=by simp
  have HM:=gd (λw'=>Xs s f E w' h2);obtain ⟨x,c,hv⟩:∃x c,missP s.data.toList f E=(x,c):=⟨_,_,rfl⟩;rw[hv] at D HM;subst D;clear hv;go_enter func185,ntmps185
  go_wp2_with (first|(go_at_call 182;(with_reducible refine Za (HN.out _) ?_);rintro e w2 ⟨rfl,V⟩;(have X:=hz.out.ext V);(have hd:=hD.out.ext V);(obtain ⟨b0,b1,b2,b3,b4,b5⟩:=X.cells))|(go_at_call 184;(with_reducible refine Za (HM.out _) ?_);rintro e w3 ⟨rfl,rfl⟩)|(refine Zc rfl 88 (.tmp 6) (.tmp 35) rfl w.heap.size _ rfl rfl _ _ hd YI rfl (Ju ⟨[],[],[],E⟩) ?_))
  ((try simp only[Exit.inBlock,Exit.then]);refine Zn (Zr rfl _ _ _ _ _ _ _ rfl (Zp _ _ _ _ _ _ hd) underlying88 rfl YI) rfl ?_);exact ⟨_,rfl,⟨⟨[],[],[],E⟩,rfl⟩,((hH.out.trans V).setRow (Zb _) _)⟩
 ·rw[Zg hQ] at D;have hb:((E:Int)==(k:Int))=false:=by rw[ZC];omega
  have hT:=QN s k E (k:Nat) (E:Nat) rfl rfl hE.1 hE.2;obtain ⟨S,hX⟩:∃S,(s.data.toList.drop k).take (E - k)=S:=⟨_,rfl⟩;rw[hX] at D;have gf:∀wx,(Instr.slice 9 (.string s) (some (nI (k:Nat))) (some (nI (E:Nat))) none).run prog wx= .ok (.string (str S)) wx:=λwx=>by
   rw[hT wx]
   congr 2
   refine Vu ?_;rw[Ya,<-hX,<-Xq,show k+(E - k)=E by omega]
  have hF:=gd (λw'=>Um s E w' hs hE.2);have hA:=UF (s:=s.data.toList) (k:=E) (by omega);obtain ⟨A,h5⟩:∃A,spAt s.data.toList E=A:=⟨_,rfl⟩;rw[h5] at hF D hA;rw[hS] at hA;clear hQ hT hX h5;have HH:=gd (λw'=>Y7 s [61] A w' hs (by omega) (by decide) (by decide));cases hh:hasAt s.data.toList A [61] with
  |false=>
   rw[hh] at HH D;rw[Zl rfl] at D;clear hh;have HM:=gd (λw'=>Xs s f A w' h2);obtain ⟨x,c,hv⟩:∃x c,missP s.data.toList f A=(x,c):=⟨_,_,rfl⟩;rw[hv] at D HM;subst D;clear hv;go_enter func185,ntmps185
   go_wp2_with (first|(go_at_call 182;(with_reducible refine Za (HN.out _) ?_);rintro e w2 ⟨rfl,V⟩;(have X:=hz.out.ext V);(have hd:=hD.out.ext V);(obtain ⟨b0,b1,b2,b3,b4,b5⟩:=X.cells);(have F:=X.name S);(have H:BxA (w2.setCell ⟨w.heap.size+1,1,none⟩ (.string (str S))) w.heap.size _:=hd.other (by omega));(have hi:Ext w (w2.setCell ⟨w.heap.size+1,1,none⟩ (.string (str S))):=(hH.out.trans V).setCell (by show _<=w.heap.size+1;omega) _);(have I:=gd hi);clear hi;(obtain ⟨c0,c1,c2,c3,c4,c5⟩:=F.cells))|(go_at_call 183;(first|(with_reducible refine Za (hF.out _) ?_));rintro e w3 ⟨rfl,rfl⟩)|(go_at_call 98;(first|(with_reducible refine Za (HH.out _) ?_));rintro e w3 ⟨rfl,rfl⟩)|(go_at_call 184;(with_reducible refine Za (HM.out _) ?_);rintro e w3 ⟨rfl,rfl⟩)|(refine Zc rfl 88 (.tmp 6) (.tmp 57) rfl w.heap.size _ rfl rfl _ _ H YI rfl (Ju ⟨[],S,[],k⟩) ?_))
   ((try simp only[Exit.inBlock,Exit.then]);refine Zn (Zr rfl _ _ _ _ _ _ _ rfl (Zp _ _ _ _ _ _ H) underlying88 rfl YI) rfl ?_);exact ⟨_,rfl,⟨⟨[],S,[],k⟩,rfl⟩,(I.out.setRow (Zb _) _)⟩
  |true=>
   obtain ⟨h6,_⟩:=Ua hh;rw[hS] at h6;rw[hh] at HH D;rw[Zg (by simp)] at D;clear hh;have hG:=gd (λw'=>Um s (A+1) w' hs h6);have hq:=UF (s:=s.data.toList) (k:=A+1) (by omega);obtain ⟨q,gb⟩:∃q,spAt s.data.toList (A+1)=q:=⟨_,rfl⟩;rw[gb] at hG D hq;rw[hS] at hq;rw[show ((A+1:Nat):Int)=(A:Int)+1 by omega] at hG;have hx:=gd (λw'=>Y7 s [34] q w' hs (by omega) (by decide) (by decide));have hy:=gd (λw'=>Y7 s [39] q w' hs (by omega) (by decide) (by decide));clear gb;by_cases hu:hasAt s.data.toList q [34]=false/\hasAt s.data.toList q [39]=false
   ·rw[Zl hu] at D;rw[hu.1] at hx;rw[hu.2] at hy;clear hu;have HM:=gd (λw'=>Xs s f q w' h2);obtain ⟨x,c,hv⟩:∃x c,missP s.data.toList f q=(x,c):=⟨_,_,rfl⟩;rw[hv] at D HM;subst D;clear hv;go_enter func185,ntmps185
    go_wp2_with (first|(go_at_call 182;(with_reducible refine Za (HN.out _) ?_);rintro e w2 ⟨rfl,V⟩;(have X:=hz.out.ext V);(have hd:=hD.out.ext V);(obtain ⟨b0,b1,b2,b3,b4,b5⟩:=X.cells);(have F:=X.name S);(have H:BxA (w2.setCell ⟨w.heap.size+1,1,none⟩ (.string (str S))) w.heap.size _:=hd.other (by omega));(have hi:Ext w (w2.setCell ⟨w.heap.size+1,1,none⟩ (.string (str S))):=(hH.out.trans V).setCell (by show _<=w.heap.size+1;omega) _);(have I:=gd hi);clear hi;(obtain ⟨c0,c1,c2,c3,c4,c5⟩:=F.cells))|(go_at_call 183;(first|(with_reducible refine Za (hF.out _) ?_)|(with_reducible refine Za (hG.out _) ?_));rintro e w3 ⟨rfl,rfl⟩)|(go_at_call 98;(first|(with_reducible refine Za (HH.out _) ?_)|(with_reducible refine Za (hx.out _) ?_)|(with_reducible refine Za (hy.out _) ?_));rintro e w3 ⟨rfl,rfl⟩)|(go_at_call 184;(with_reducible refine Za (HM.out _) ?_);rintro e w3 ⟨rfl,rfl⟩)|(refine Zc rfl 88 (.tmp 6) (.tmp 81) rfl w.heap.size _ rfl rfl _ _ H YI rfl (Ju ⟨[],S,[],k⟩) ?_))
    ((try simp only[Exit.inBlock,Exit.then]);refine Zn (Zr rfl _ _ _ _ _ _ _ rfl (Zp _ _ _ _ _ _ H) underlying88 rfl YI) rfl ?_);exact ⟨_,rfl,⟨⟨[],S,[],k⟩,rfl⟩,(I.out.setRow (Zb _) _)⟩
   ·rw[Zg hu] at D;cases h34:hasAt s.data.toList q [34] with
    |true=>
     obtain ⟨h9,hP⟩:=Ua h34;have ga:q<s.size:=(by omega);have hl:s[q]≠60:=(by rw[show s[q]=34 from hP];decide);rw[h34] at hx;clear h34 hP;clear hu;have h4:q<s.data.toList.length:=(by omega);have hM:(s.data.toList.drop q).headD 0=s[q]:=(by rw[Zi h4];rfl);rw[hM] at D;clear hM;obtain ⟨c,hc⟩:∃c,s[q]=c:=⟨_,rfl⟩;rw[hc] at D hl;have hw:=gd hc;clear hc;have hI:q+1+((s.data.toList.drop (q+1)).takeWhile λd=>d !=c && d !=60).length<=s.size:=(by have h1:=(YF (λd:UInt8=>d !=c && d !=60) (l:=s.data.toList.drop (q+1))).length_le;rw[Zm] at h1;omega);obtain ⟨E2,hg⟩:∃E2,q+1+((s.data.toList.drop (q+1)).takeWhile λd=>d !=c && d !=60).length=E2:=⟨_,rfl⟩;rw[hg] at D hI;have h3:q+1<=E2:=(by omega);have he:=gd hg;have Q:=gd (λw'=>UZ s (q+1) E2 true w' hs h3 hI);rw[show ((q+1:Nat):Int)=(q:Int)+1 by omega] at Q;have HR:=gd D;clear D hg;go_enter func185,ntmps185
     go_wp2_with (first|(go_at_call 182;(with_reducible refine Za (HN.out _) ?_);rintro e w2 ⟨rfl,V⟩;(have X:=hz.out.ext V);(have hd:=hD.out.ext V);(obtain ⟨b0,b1,b2,b3,b4,b5⟩:=X.cells);(have F:=X.name S);(have H:BxA (w2.setCell ⟨w.heap.size+1,1,none⟩ (.string (str S))) w.heap.size _:=hd.other (by omega));(have hi:Ext w (w2.setCell ⟨w.heap.size+1,1,none⟩ (.string (str S))):=(hH.out.trans V).setCell (by show _<=w.heap.size+1;omega) _);(have I:=gd hi);clear hi;(obtain ⟨c0,c1,c2,c3,c4,c5⟩:=F.cells))|(go_at_call 183;(first|(with_reducible refine Za (hF.out _) ?_)|(with_reducible refine Za (hG.out _) ?_));rintro e w3 ⟨rfl,rfl⟩)|(go_at_call 98;(first|(with_reducible refine Za (HH.out _) ?_)|(with_reducible refine Za (hx.out _) ?_)|(with_reducible refine Za (hy.out _) ?_));rintro e w3 ⟨rfl,rfl⟩))
     go_loopw [10] (λv wr=>∃j:Nat,q+1<=j/\j<=s.size/\v=nI j/\Hid (j+((s.data.toList.drop j).takeWhile λd=>d !=c && d !=60).length=E2)/\Ext (w2.setCell ⟨w.heap.size+1,1,none⟩ (.string (str S))) wr) (λv _=>s.size - (intOf v).toNat)
     case atStart=>exact ⟨q+1,Zb _,by omega,by go_num,he,Ext.refl _⟩
     case round=>
      obtain ⟨j,ge,gc,rfl,hj,hr⟩:=hrel
      replace F:=F.ext hr
      replace H:=H.ext hr
      replace I:=gd (I.out.trans hr)
      clear b0 b1 b2 b3 b4 b5 c0 c1 c2 c3 c4 c5 X hd;by_cases h0:j<s.size
      ·have hZ:(j:Int)<(s.size:Int):=(by omega);have hp:j<s.data.toList.length:=(by omega);have ha:s.data.toList[j]=s[j]:=rfl;by_cases U:s[j]=c
       ·have ho:j=E2:=(JI (p:=λd=>d !=c && d !=60) hp (by rw[ha,U];simp)).symm.trans hj.out;subst ho;have hL:(((s[j]).toNat:Int) !=((s[q]).toNat:Int))=false:=(by rw[U,hw.out];simp);have hB:=gd U;clear hj he ha U;go_wp2;refine rA ?_
        repeat (first|go_big_quiet_step (skip)|quiet_step (skip))
        refine Z5 ?_;rintro _ ⟨Z,rfl⟩
        replace F:=F.ext Z.ext
        replace H:=H.ext Z.ext
        replace I:=gd (I.out.trans Z.ext)
        have D:=HR.out;obtain ⟨C,Y⟩:∃C,contP true s.data.toList (q+1) j=C:=⟨_,rfl⟩;rw[Y] at D Q;cases C with
        |error xc=>
         obtain ⟨x,cc⟩:=xc;have hm:=XZ _ _ _ _ _ _ _ _ Y;subst hm;dsimp only at D;subst D;clear Y HR
         go_wp2_with (first|(go_at_call 146;(with_reducible refine Za (Q.out _) ?_);rintro e w4 ⟨rfl,h⟩;simp only[contAns];(have K:=F.ext h);(have J:=H.ext h);(obtain ⟨d0,d1,d2,d3,d4,d5⟩:=K.cells))|(refine Zc rfl 88 (.tmp 6) (.tmp 118) rfl w.heap.size _ rfl rfl _ _ J YI rfl (Ju ⟨[],S,[],k⟩) ?_))
         ((try simp only[Exit.inBlock,Exit.then]);refine Zn (Zr rfl _ _ _ _ _ _ _ rfl (Zp _ _ _ _ _ _ J) underlying88 rfl YI) rfl ?_);exact ⟨_,rfl,⟨⟨[],S,[],k⟩,rfl⟩,((I.out.trans h).setRow (Zb _) _)⟩
        |ok v=>
         dsimp only at D;have hn:(s.data.toList.drop j).head?≠some 60:=(by rw[Zi hp,J3];intro e;injection e with e;exact hl (hB.out.symm.trans e));rw[Zg (by omega),Zg hn] at D;subst D;have hK:(((s[j]).toNat:Int)==60)=false:=(by rw[ZC];intro e;exact hl (hB.out.symm.trans (YR.1 (by simpa using (show (s[j]).toNat=60 by omega)))));have hO:((j:Int)==(s.size:Int))=false:=(by rw[ZC];omega);clear Y HR hn
         go_wp2_with (first|(go_at_call 146;(with_reducible refine Za (Q.out _) ?_);rintro e w4 ⟨rfl,h⟩;simp only[contAns];(have K:=F.ext h);(have J:=H.ext h);(obtain ⟨d0,d1,d2,d3,d4,d5⟩:=K.cells);(have hW:=K.value v);(have hJ:BxA (w4.setCell ⟨w.heap.size+1,2,none⟩ (.string (str v))) w.heap.size _:=J.other (by omega));(have hV:=gd ((I.out.trans h).setCell (p:=⟨w.heap.size+1,2,none⟩) (by show _<=w.heap.size+1;omega) (.string (str v))));(obtain ⟨e0,e1,e2,e3,e4,e5⟩:=hW.cells))|(refine Zc rfl 88 (.tmp 6) (.tmp 135) rfl w.heap.size _ rfl rfl _ _ hJ YI rfl (Ju ⟨[],S,v,k⟩) ?_))
         ((try simp only[Exit.inBlock,Exit.then]);refine Zn (Zr rfl _ _ _ _ _ _ _ rfl (Zp _ _ _ _ _ _ hJ) underlying88 rfl YI) rfl ?_);exact ⟨_,rfl,rfl,(hV.out.setRow (Zb _) _)⟩
       ·by_cases M:s[j]=60
        ·have ho:j=E2:=(JI (p:=λd=>d !=c && d !=60) hp (by rw[ha,M];simp)).symm.trans hj.out;subst ho;have hL:(((s[j]).toNat:Int) !=((s[q]).toNat:Int))=true:=(by rw[YU,hw.out];intro e;exact U (YR.1 (by omega)));have hY:(((s[j]).toNat:Int) !=60)=false:=(by rw[M];rfl);have ht:=gd M;clear hj he ha U M;go_wp2;refine rA ?_
         repeat (first|go_big_quiet_step (skip)|quiet_step (skip))
         refine Z5 ?_;rintro _ ⟨Z,rfl⟩
         replace F:=F.ext Z.ext
         replace H:=H.ext Z.ext
         replace I:=gd (I.out.trans Z.ext)
         have D:=HR.out;obtain ⟨C,Y⟩:∃C,contP true s.data.toList (q+1) j=C:=⟨_,rfl⟩;rw[Y] at D Q;cases C with
         |error xc=>
          obtain ⟨x,cc⟩:=xc;have hm:=XZ _ _ _ _ _ _ _ _ Y;subst hm;dsimp only at D;subst D;clear Y HR
          go_wp2_with (first|(go_at_call 146;(with_reducible refine Za (Q.out _) ?_);rintro e w4 ⟨rfl,h⟩;simp only[contAns];(have K:=F.ext h);(have J:=H.ext h);(obtain ⟨d0,d1,d2,d3,d4,d5⟩:=K.cells))|(refine Zc rfl 88 (.tmp 6) (.tmp 118) rfl w.heap.size _ rfl rfl _ _ J YI rfl (Ju ⟨[],S,[],k⟩) ?_))
          ((try simp only[Exit.inBlock,Exit.then]);refine Zn (Zr rfl _ _ _ _ _ _ _ rfl (Zp _ _ _ _ _ _ J) underlying88 rfl YI) rfl ?_);exact ⟨_,rfl,⟨⟨[],S,[],k⟩,rfl⟩,((I.out.trans h).setRow (Zb _) _)⟩
         |ok v=>
          dsimp only at D;have hn:(s.data.toList.drop j).head? =some 60:=(by rw[Zi hp,J3];exact Zy some ht.out);rw[Zg (by omega),Zl hn] at D;subst D;have hK:(((s[j]).toNat:Int)==60)=true:=(by rw[ht.out];rfl);have hO:((j:Int)==(s.size:Int))=false:=(by rw[ZC];omega);clear Y HR hn
          go_wp2_with (first|(go_at_call 146;(with_reducible refine Za (Q.out _) ?_);rintro e w4 ⟨rfl,h⟩;simp only[contAns];(have K:=F.ext h);(have J:=H.ext h);(obtain ⟨d0,d1,d2,d3,d4,d5⟩:=K.cells))|(refine Zc rfl 88 (.tmp 6) (.tmp 131) rfl w.heap.size _ rfl rfl _ _ J YI rfl (Ju ⟨[],S,[],k⟩) ?_))
          ((try simp only[Exit.inBlock,Exit.then]);refine Zn (Zr rfl _ _ _ _ _ _ _ rfl (Zp _ _ _ _ _ _ J) underlying88 rfl YI) rfl ?_);exact ⟨_,rfl,⟨⟨[],S,[],k⟩,rfl⟩,((I.out.trans h).setRow (Zb _) _)⟩
        ·have HJ:=gd ((Ud (p:=λd=>d !=c && d !=60) hp (by rw[ha];simp[U,M])).symm.trans hj.out);have hL:(((s[j]).toNat:Int) !=((s[q]).toNat:Int))=true:=(by rw[YU,hw.out];intro e;exact U (YR.1 (by omega)));have hY:(((s[j]).toNat:Int) !=60)=true:=(by rw[YU];intro e;exact M (YR.1 (by simpa using (show (s[j]).toNat=60 by omega))));clear hj he ha U M;go_wp2;refine rA ?_
         repeat (first|go_big_quiet_step (skip)|quiet_step (skip))
         refine Z5 ?_;rintro _ ⟨Z,rfl⟩;go_wp2;go_roundw
         case rel=>exact ⟨j+1,by omega,h0,by go_num,HJ,hr.trans Z.ext⟩
         case measure=>simp[intOf];omega
      ·have hZ:¬(j:Int)<(s.size:Int):=(by omega);have ho:j=E2:=(Gf (p:=λd=>d !=c && d !=60) (by omega)).symm.trans hj.out;subst ho;have hN:j=s.size:=(by omega);have h8:((j:Int)==(s.size:Int))=true:=(by rw[JO];omega);have hU:=gd hN;clear hN;clear hj he;go_wp2;refine rA ?_
       repeat (first|go_big_quiet_step (skip)|quiet_step (skip))
       refine Z5 ?_;rintro _ ⟨Z,rfl⟩
       replace F:=F.ext Z.ext
       replace H:=H.ext Z.ext
       replace I:=gd (I.out.trans Z.ext)
       have D:=HR.out;obtain ⟨C,Y⟩:∃C,contP true s.data.toList (q+1) j=C:=⟨_,rfl⟩;rw[Y] at D Q;cases C with
       |error xc=>
        obtain ⟨x,cc⟩:=xc;have hm:=XZ _ _ _ _ _ _ _ _ Y;subst hm;dsimp only at D;subst D;clear Y HR
        go_wp2_with (first|(go_at_call 146;(with_reducible refine Za (Q.out _) ?_);rintro e w4 ⟨rfl,h⟩;simp only[contAns];(have K:=F.ext h);(have J:=H.ext h);(obtain ⟨d0,d1,d2,d3,d4,d5⟩:=K.cells))|(refine Zc rfl 88 (.tmp 6) (.tmp 118) rfl w.heap.size _ rfl rfl _ _ J YI rfl (Ju ⟨[],S,[],k⟩) ?_))
        ((try simp only[Exit.inBlock,Exit.then]);refine Zn (Zr rfl _ _ _ _ _ _ _ rfl (Zp _ _ _ _ _ _ J) underlying88 rfl YI) rfl ?_);exact ⟨_,rfl,⟨⟨[],S,[],k⟩,rfl⟩,((I.out.trans h).setRow (Zb _) _)⟩
       |ok v=>
        dsimp only at D;rw[Zl (by have:=hU.out;omega)] at D;subst D;clear Y HR
        go_wp2_with (first|(go_at_call 146;(with_reducible refine Za (Q.out _) ?_);rintro e w4 ⟨rfl,h⟩;simp only[contAns];(have K:=F.ext h);(have J:=H.ext h);(obtain ⟨d0,d1,d2,d3,d4,d5⟩:=K.cells))|(refine Zc rfl 88 (.tmp 6) (.tmp 125) rfl w.heap.size _ rfl rfl _ _ J YI rfl (Ju ⟨[],S,[],k⟩) ?_))
        ((try simp only[Exit.inBlock,Exit.then]);refine Zn (Zr rfl _ _ _ _ _ _ _ rfl (Zp _ _ _ _ _ _ J) underlying88 rfl YI) rfl ?_);exact ⟨_,rfl,⟨⟨[],S,[],k⟩,rfl⟩,((I.out.trans h).setRow (Zb _) _)⟩
    |false=>
     cases h39:hasAt s.data.toList q [39] with
     |false=>exact absurd ⟨h34,h39⟩ hu
     |true=>
      obtain ⟨h9,hP⟩:=Ua h39;have ga:q<s.size:=(by omega);have hl:s[q]≠60:=(by rw[show s[q]=39 from hP];decide);rw[h34] at hx;rw[h39] at hy;clear h34 h39 hP;clear hu;have h4:q<s.data.toList.length:=(by omega);have hM:(s.data.toList.drop q).headD 0=s[q]:=(by rw[Zi h4];rfl);rw[hM] at D;clear hM;obtain ⟨c,hc⟩:∃c,s[q]=c:=⟨_,rfl⟩;rw[hc] at D hl;have hw:=gd hc;clear hc;have hI:q+1+((s.data.toList.drop (q+1)).takeWhile λd=>d !=c && d !=60).length<=s.size:=(by have h1:=(YF (λd:UInt8=>d !=c && d !=60) (l:=s.data.toList.drop (q+1))).length_le;rw[Zm] at h1;omega);obtain ⟨E2,hg⟩:∃E2,q+1+((s.data.toList.drop (q+1)).takeWhile λd=>d !=c && d !=60).length=E2:=⟨_,rfl⟩;rw[hg] at D hI;have h3:q+1<=E2:=(by omega);have he:=gd hg;have Q:=gd (λw'=>UZ s (q+1) E2 true w' hs h3 hI);rw[show ((q+1:Nat):Int)=(q:Int)+1 by omega] at Q;have HR:=gd D;clear D hg;go_enter func185,ntmps185
      go_wp2_with (first|(go_at_call 182;(with_reducible refine Za (HN.out _) ?_);rintro e w2 ⟨rfl,V⟩;(have X:=hz.out.ext V);(have hd:=hD.out.ext V);(obtain ⟨b0,b1,b2,b3,b4,b5⟩:=X.cells);(have F:=X.name S);(have H:BxA (w2.setCell ⟨w.heap.size+1,1,none⟩ (.string (str S))) w.heap.size _:=hd.other (by omega));(have hi:Ext w (w2.setCell ⟨w.heap.size+1,1,none⟩ (.string (str S))):=(hH.out.trans V).setCell (by show _<=w.heap.size+1;omega) _);(have I:=gd hi);clear hi;(obtain ⟨c0,c1,c2,c3,c4,c5⟩:=F.cells))|(go_at_call 183;(first|(with_reducible refine Za (hF.out _) ?_)|(with_reducible refine Za (hG.out _) ?_));rintro e w3 ⟨rfl,rfl⟩)|(go_at_call 98;(first|(with_reducible refine Za (HH.out _) ?_)|(with_reducible refine Za (hx.out _) ?_)|(with_reducible refine Za (hy.out _) ?_));rintro e w3 ⟨rfl,rfl⟩))
      go_loopw [10] (λv wr=>∃j:Nat,q+1<=j/\j<=s.size/\v=nI j/\Hid (j+((s.data.toList.drop j).takeWhile λd=>d !=c && d !=60).length=E2)/\Ext (w2.setCell ⟨w.heap.size+1,1,none⟩ (.string (str S))) wr) (λv _=>s.size - (intOf v).toNat)
      case atStart=>exact ⟨q+1,Zb _,by omega,by go_num,he,Ext.refl _⟩
      case round=>
       obtain ⟨j,ge,gc,rfl,hj,hr⟩:=hrel
       replace F:=F.ext hr
       replace H:=H.ext hr
       replace I:=gd (I.out.trans hr)
       clear b0 b1 b2 b3 b4 b5 c0 c1 c2 c3 c4 c5 X hd;by_cases h0:j<s.size
       ·have hZ:(j:Int)<(s.size:Int):=(by omega);have hp:j<s.data.toList.length:=(by omega);have ha:s.data.toList[j]=s[j]:=rfl;by_cases U:s[j]=c
        ·have ho:j=E2:=(JI (p:=λd=>d !=c && d !=60) hp (by rw[ha,U];simp)).symm.trans hj.out;subst ho;have hL:(((s[j]).toNat:Int) !=((s[q]).toNat:Int))=false:=(by rw[U,hw.out];simp);have hB:=gd U;clear hj he ha U;go_wp2;refine rA ?_
         repeat (first|go_big_quiet_step (skip)|quiet_step (skip))
         refine Z5 ?_;rintro _ ⟨Z,rfl⟩
         replace F:=F.ext Z.ext
         replace H:=H.ext Z.ext
         replace I:=gd (I.out.trans Z.ext)
         have D:=HR.out;obtain ⟨C,Y⟩:∃C,contP true s.data.toList (q+1) j=C:=⟨_,rfl⟩;rw[Y] at D Q;cases C with
         |error xc=>
          obtain ⟨x,cc⟩:=xc;have hm:=XZ _ _ _ _ _ _ _ _ Y;subst hm;dsimp only at D;subst D;clear Y HR
          go_wp2_with (first|(go_at_call 146;(with_reducible refine Za (Q.out _) ?_);rintro e w4 ⟨rfl,h⟩;simp only[contAns];(have K:=F.ext h);(have J:=H.ext h);(obtain ⟨d0,d1,d2,d3,d4,d5⟩:=K.cells))|(refine Zc rfl 88 (.tmp 6) (.tmp 118) rfl w.heap.size _ rfl rfl _ _ J YI rfl (Ju ⟨[],S,[],k⟩) ?_))
          ((try simp only[Exit.inBlock,Exit.then]);refine Zn (Zr rfl _ _ _ _ _ _ _ rfl (Zp _ _ _ _ _ _ J) underlying88 rfl YI) rfl ?_);exact ⟨_,rfl,⟨⟨[],S,[],k⟩,rfl⟩,((I.out.trans h).setRow (Zb _) _)⟩
         |ok v=>
          dsimp only at D;have hn:(s.data.toList.drop j).head?≠some 60:=(by rw[Zi hp,J3];intro e;injection e with e;exact hl (hB.out.symm.trans e));rw[Zg (by omega),Zg hn] at D;subst D;have hK:(((s[j]).toNat:Int)==60)=false:=(by rw[ZC];intro e;exact hl (hB.out.symm.trans (YR.1 (by simpa using (show (s[j]).toNat=60 by omega)))));have hO:((j:Int)==(s.size:Int))=false:=(by rw[ZC];omega);clear Y HR hn
          go_wp2_with (first|(go_at_call 146;(with_reducible refine Za (Q.out _) ?_);rintro e w4 ⟨rfl,h⟩;simp only[contAns];(have K:=F.ext h);(have J:=H.ext h);(obtain ⟨d0,d1,d2,d3,d4,d5⟩:=K.cells);(have hW:=K.value v);(have hJ:BxA (w4.setCell ⟨w.heap.size+1,2,none⟩ (.string (str v))) w.heap.size _:=J.other (by omega));(have hV:=gd ((I.out.trans h).setCell (p:=⟨w.heap.size+1,2,none⟩) (by show _<=w.heap.size+1;omega) (.string (str v))));(obtain ⟨e0,e1,e2,e3,e4,e5⟩:=hW.cells))|(refine Zc rfl 88 (.tmp 6) (.tmp 135) rfl w.heap.size _ rfl rfl _ _ hJ YI rfl (Ju ⟨[],S,v,k⟩) ?_))
          ((try simp only[Exit.inBlock,Exit.then]);refine Zn (Zr rfl _ _ _ _ _ _ _ rfl (Zp _ _ _ _ _ _ hJ) underlying88 rfl YI) rfl ?_);exact ⟨_,rfl,rfl,(hV.out.setRow (Zb _) _)⟩
        ·by_cases M:s[j]=60
         ·have ho:j=E2:=(JI (p:=λd=>d !=c && d !=60) hp (by rw[ha,M];simp)).symm.trans hj.out;subst ho;have hL:(((s[j]).toNat:Int) !=((s[q]).toNat:Int))=true:=(by rw[YU,hw.out];intro e;exact U (YR.1 (by omega)));have hY:(((s[j]).toNat:Int) !=60)=false:=(by rw[M];rfl);have ht:=gd M;clear hj he ha U M;go_wp2;refine rA ?_
          repeat (first|go_big_quiet_step (skip)|quiet_step (skip))
          refine Z5 ?_;rintro _ ⟨Z,rfl⟩
          replace F:=F.ext Z.ext
          replace H:=H.ext Z.ext
          replace I:=gd (I.out.trans Z.ext)
          have D:=HR.out;obtain ⟨C,Y⟩:∃C,contP true s.data.toList (q+1) j=C:=⟨_,rfl⟩;rw[Y] at D Q;cases C with
          |error xc=>
           obtain ⟨x,cc⟩:=xc;have hm:=XZ _ _ _ _ _ _ _ _ Y;subst hm;dsimp only at D;subst D;clear Y HR
           go_wp2_with (first|(go_at_call 146;(with_reducible refine Za (Q.out _) ?_);rintro e w4 ⟨rfl,h⟩;simp only[contAns];(have K:=F.ext h);(have J:=H.ext h);(obtain ⟨d0,d1,d2,d3,d4,d5⟩:=K.cells))|(refine Zc rfl 88 (.tmp 6) (.tmp 118) rfl w.heap.size _ rfl rfl _ _ J YI rfl (Ju ⟨[],S,[],k⟩) ?_))
           ((try simp only[Exit.inBlock,Exit.then]);refine Zn (Zr rfl _ _ _ _ _ _ _ rfl (Zp _ _ _ _ _ _ J) underlying88 rfl YI) rfl ?_);exact ⟨_,rfl,⟨⟨[],S,[],k⟩,rfl⟩,((I.out.trans h).setRow (Zb _) _)⟩
          |ok v=>
           dsimp only at D;have hn:(s.data.toList.drop j).head? =some 60:=(by rw[Zi hp,J3];exact Zy some ht.out);rw[Zg (by omega),Zl hn] at D;subst D;have hK:(((s[j]).toNat:Int)==60)=true:=(by rw[ht.out];rfl);have hO:((j:Int)==(s.size:Int))=false:=(by rw[ZC];omega);clear Y HR hn
           go_wp2_with (first|(go_at_call 146;(with_reducible refine Za (Q.out _) ?_);rintro e w4 ⟨rfl,h⟩;simp only[contAns];(have K:=F.ext h);(have J:=H.ext h);(obtain ⟨d0,d1,d2,d3,d4,d5⟩:=K.cells))|(refine Zc rfl 88 (.tmp 6) (.tmp 131) rfl w.heap.size _ rfl rfl _ _ J YI rfl (Ju ⟨[],S,[],k⟩) ?_))
           ((try simp only[Exit.inBlock,Exit.then]);refine Zn (Zr rfl _ _ _ _ _ _ _ rfl (Zp _ _ _ _ _ _ J) underlying88 rfl YI) rfl ?_);exact ⟨_,rfl,⟨⟨[],S,[],k⟩,rfl⟩,((I.out.trans h).setRow (Zb _) _)⟩
         ·have HJ:=gd ((Ud (p:=λd=>d !=c && d !=60) hp (by rw[ha];simp[U,M])).symm.trans hj.out);have hL:(((s[j]).toNat:Int) !=((s[q]).toNat:Int))=true:=(by rw[YU,hw.out];intro e;exact U (YR.1 (by omega)));have hY:(((s[j]).toNat:Int) !=60)=true:=(by rw[YU];intro e;exact M (YR.1 (by simpa using (show (s[j]).toNat=60 by omega))));clear hj he ha U M;go_wp2;refine rA ?_
          repeat (first|go_big_quiet_step (skip)|quiet_step (skip))
          refine Z5 ?_;rintro _ ⟨Z,rfl⟩;go_wp2;go_roundw
          case rel=>exact ⟨j+1,by omega,h0,by go_num,HJ,hr.trans Z.ext⟩
          case measure=>simp[intOf];omega
       ·have hZ:¬(j:Int)<(s.size:Int):=(by omega);have ho:j=E2:=(Gf (p:=λd=>d !=c && d !=60) (by omega)).symm.trans hj.out;subst ho;have hN:j=s.size:=(by omega);have h8:((j:Int)==(s.size:Int))=true:=(by rw[JO];omega);have hU:=gd hN;clear hN;clear hj he;go_wp2;refine rA ?_
        repeat (first|go_big_quiet_step (skip)|quiet_step (skip))
        refine Z5 ?_;rintro _ ⟨Z,rfl⟩
        replace F:=F.ext Z.ext
        replace H:=H.ext Z.ext
        replace I:=gd (I.out.trans Z.ext)
        have D:=HR.out;obtain ⟨C,Y⟩:∃C,contP true s.data.toList (q+1) j=C:=⟨_,rfl⟩;rw[Y] at D Q;cases C with
        |error xc=>
         obtain ⟨x,cc⟩:=xc;have hm:=XZ _ _ _ _ _ _ _ _ Y;subst hm;dsimp only at D;subst D;clear Y HR
         go_wp2_with (first|(go_at_call 146;(with_reducible refine Za (Q.out _) ?_);rintro e w4 ⟨rfl,h⟩;simp only[contAns];(have K:=F.ext h);(have J:=H.ext h);(obtain ⟨d0,d1,d2,d3,d4,d5⟩:=K.cells))|(refine Zc rfl 88 (.tmp 6) (.tmp 118) rfl w.heap.size _ rfl rfl _ _ J YI rfl (Ju ⟨[],S,[],k⟩) ?_))
         ((try simp only[Exit.inBlock,Exit.then]);refine Zn (Zr rfl _ _ _ _ _ _ _ rfl (Zp _ _ _ _ _ _ J) underlying88 rfl YI) rfl ?_);exact ⟨_,rfl,⟨⟨[],S,[],k⟩,rfl⟩,((I.out.trans h).setRow (Zb _) _)⟩
        |ok v=>
         dsimp only at D;rw[Zl (by have:=hU.out;omega)] at D;subst D;clear Y HR
         go_wp2_with (first|(go_at_call 146;(with_reducible refine Za (Q.out _) ?_);rintro e w4 ⟨rfl,h⟩;simp only[contAns];(have K:=F.ext h);(have J:=H.ext h);(obtain ⟨d0,d1,d2,d3,d4,d5⟩:=K.cells))|(refine Zc rfl 88 (.tmp 6) (.tmp 125) rfl w.heap.size _ rfl rfl _ _ J YI rfl (Ju ⟨[],S,[],k⟩) ?_))
         ((try simp only[Exit.inBlock,Exit.then]);refine Zn (Zr rfl _ _ _ _ _ _ _ rfl (Zp _ _ _ _ _ _ J) underlying88 rfl YI) rfl ?_);exact ⟨_,rfl,⟨⟨[],S,[],k⟩,rfl⟩,((I.out.trans h).setRow (Zb _) _)⟩
end
section
variable {base g g' i n:Nat} {e:TypeId} {v:Value} {w w':World} {xs:List Value}
def BxT (w:Wq) (g:Nat) (x:Tc):Prop:=w.heap[g]? =some (.cells #[nI (x.t.kind:Nat),.string (str x.t.name),x.al,.bool x.t.empty,.string (str x.t.text),nI (x.t.at_:Nat)] 111 (0,0))
theorem BxT.ext {x:Tc} (h:BxT w g x) (A:Ext w w'):BxT w' g x:=A.heap h
theorem BxT.cells {x:Tc} (h:BxT w g x):w.cell? ⟨g,0,none⟩=some (nI (x.t.kind:Nat))/\w.cell? ⟨g,1,none⟩=some (.string (str x.t.name))/\w.cell? ⟨g,2,none⟩=some x.al/\w.cell? ⟨g,3,none⟩=some (.bool x.t.empty)/\
 w.cell? ⟨g,4,none⟩=some (.string (str x.t.text))/\w.cell? ⟨g,5,none⟩=some (nI (x.t.at_:Nat))/\w.frozen? ⟨g,1,none⟩=false/\w.frozen? ⟨g,2,none⟩=false/\w.frozen? ⟨g,3,none⟩=false:=by
 refine ⟨?_,?_,?_,?_,?_,?_,ZX h 1,ZX h 2,ZX h 3⟩<;>(rw[Xj _ _ _ _ _ _ h];rfl)
theorem BxT.name {x:Tc} (h:BxT w g x) (n:List UInt8):BxT (w.setCell ⟨g,1,none⟩ (.string (str n))) g ⟨x.al,⟨x.t.kind,n,x.t.attrs,x.t.empty,x.t.text,x.t.at_⟩⟩:=Yd w g 1 _ _ _ h
theorem BxT.attrs {x:Tc} (h:BxT w g x) (al:Value) (l:List AtP):BxT (w.setCell ⟨g,2,none⟩ al) g ⟨al,⟨x.t.kind,x.t.name,l,x.t.empty,x.t.text,x.t.at_⟩⟩:=Yd w g 2 _ _ _ h
theorem BxT.empty {x:Tc} (h:BxT w g x) (b:Bool):BxT (w.setCell ⟨g,3,none⟩ (.bool b)) g ⟨x.al,⟨x.t.kind,x.t.name,x.t.attrs,b,x.t.text,x.t.at_⟩⟩:=Yd w g 3 _ _ _ h
theorem BxT.other {x:Tc} (h:BxT w g x) (A:g≠g'):BxT (w.setCell ⟨g',i,none⟩ v) g x:=(ZY w ⟨g',i,none⟩ g v A).trans h
def nilT (k f:Nat):Tc:=⟨sN,⟨k,[],[],false,[],f⟩⟩
theorem BxT.alloc1 (w:Wq) (x y:Tc):BxT ((w.alloc (.cells (cellsT x).toArray 111)).alloc (.cells (cellsT y).toArray 111)) w.heap.size x:=
 Ext.heap ((Ext.refl _).alloc _) (Zf w _)
theorem BxT.alloc2 (w:Wq) (x y:Tc):BxT ((w.alloc (.cells (cellsT x).toArray 111)).alloc (.cells (cellsT y).toArray 111)) (w.heap.size+1) y:=by
 have:=Zf (w.alloc (.cells (cellsT x).toArray 111)) (.cells (cellsT y).toArray 111)
 rwa [Zt] at this
theorem Z6:(prog.info? 111).map (λi=>i.size)=some 6:=by kernel_rfl
theorem Xg (x:Tc) (h:x.al.oneCell'=true):(cellsT x).toArray.all (λu=>u.oneCell')=true:=by
 refine Zcx ?_;intro u A;simp only[cellsT,ZI,Yg,Xx] at A;rcases A with rfl|rfl|rfl|rfl|rfl|rfl<;>first|rfl|exact h
def TokRet (B:Nat) (w:Wq) (v:Value):Except PErr (Tok×Nat)->Prop
 | .ok (t,n)=>∃al,v= .tuple #[.agg (cellsT ⟨al,t⟩).toArray,nI (n:Nat),nI 0]/\RAts w al t.attrs/\∀g,al.ownBlock=some g->B<=g
 | .error (y,c)=>∃x:Tc,v= .tuple #[.agg (cellsT x).toArray,nI (y:Nat),nI (c:Nat)]/\x.al.oneCell'=true
theorem XL {size:Nat} (h:w.ownsRow base e size v n xs):∀g,v.ownBlock=some g->base<=g:=λg A=>(h.lt g A).1
theorem IC (s:ByteArray) (a b:Nat) (A B:Int) (L:List UInt8) (H:A=a) (I:B=b) (h:a<=b) (F:b<=s.size) (J:(s.data.toList.drop a).take (b - a)=L):
 ∀D,(Instr.slice 9 (.string s) (some (nI A)) (some (nI B)) none).run prog D= .ok (.string (str L)) D:=λD=>by
 rw[QN s a b A B H I h F D]
 congr 2
 refine Vu ?_;rw[Ya,<-J,<-Xq,show a+(b - a)=b by omega]
theorem Zf2 (s:ByteArray) (f:Nat) (w:Wq) (hs:s.size<=16777216) (hf:f+2<=s.size):
 Calls prog 143 #[.string s,nI (f:Nat)] w λe w'=>∃v,e= .returned v/\TokRet w.heap.size w' v (endP s.data.toList f)/\Ext w w':=by
 have hg:s.size<=maxLen:=by unfold maxLen;omega
 have he:=ZL s;obtain ⟨R,F⟩:∃R,endP s.data.toList f=R:=⟨_,rfl⟩;rw[F];unfold endP at F;dsimp only at F;have HN:=gd (λw'=>QK s (f+2) w' hs hf);have hE:=Vd (s:=s.data.toList) (k:=f+2) (by omega);obtain ⟨E,hd⟩:∃E,nmAt s.data.toList (f+2)=E:=⟨_,rfl⟩;rw[hd] at HN F hE;rw[he] at hE;clear hd;rw[show ((f+2:Nat):Int)=(f:Int)+2 by omega] at HN;have Q:=gd (BxT.alloc2 w (nilT 0 0) (nilT 2 f));have S:=gd (BxT.alloc1 w (nilT 0 0) (nilT 2 f));have V:=gd (((Ext.refl w).alloc (.cells (cellsT (nilT 0 0)).toArray 111)).alloc (.cells (cellsT (nilT 2 f)).toArray 111));by_cases Z:f+2<E
 ·rw[Zl Z] at F;have hb:(f:Int)+2<(E:Int):=by omega
  obtain ⟨J,ha⟩:∃J,(s.data.toList.drop (f+2)).take (E - (f+2))=J:=⟨_,rfl⟩;have hi:=IC s (f+2) E ((f:Int)+2) (E:Nat) J (by omega) rfl hE.1 hE.2 ha;rw[ha] at F;have U:=gd (λw'=>Um s E w' hs hE.2);have hA:=UF (s:=s.data.toList) (k:=E) (by omega);obtain ⟨A,hc⟩:∃A,spAt s.data.toList E=A:=⟨_,rfl⟩;rw[hc] at U F hA;rw[he] at hA;clear Z ha hc;have HH:=gd (λw'=>Y7 s [62] A w' hs (by omega) (by decide) (by decide));cases hh:hasAt s.data.toList A [62] with
  |true=>
   rw[hh] at HH F;rw[Zl rfl] at F;subst F;clear hh;go_enter func143,ntmps143
   go_wp2_with (first|(go_at_call 182;(with_reducible refine Za (HN.out _) ?_);rintro e w2 ⟨rfl,D⟩;(have H:=Q.out.ext D);(have I:=S.out.ext D);(obtain ⟨b0,b1,b2,b3,b4,b5,b6,b7,b8⟩:=H.cells);(have Y:=H.name J);(have K:BxT (w2.setCell ⟨w.heap.size+1,1,none⟩ (.string (str J))) w.heap.size _:=I.other (by omega));(have X:=gd ((V.out.trans D).setCell (p:=⟨w.heap.size+1,1,none⟩) (by show _<=w.heap.size+1;omega) (.string (str J))));(obtain ⟨c0,c1,c2,c3,c4,c5,c6,c7,c8⟩:=Y.cells))|(go_at_call 183;(with_reducible refine Za (U.out _) ?_);rintro e w3 ⟨rfl,rfl⟩)|(go_at_call 98;(with_reducible refine Za (HH.out _) ?_);rintro e w3 ⟨rfl,rfl⟩)|(refine Zc rfl 111 (.tmp 4) (.tmp 33) rfl w.heap.size _ rfl rfl _ _ K Z6 rfl (Xg ⟨sN,⟨2,J,[],false,[],f⟩⟩ rfl) ?_))
   ((try simp only[Exit.inBlock,Exit.then]);refine Zn (Zr rfl _ _ _ _ _ _ _ rfl (Zp _ _ _ _ _ _ K) underlying111 rfl Z6) rfl ?_);exact ⟨_,rfl,⟨_,rfl,RAts.nil _,(by intro g h;cases h)⟩,X.out.setRow (Zb _) _⟩
  |false=>
   rw[hh] at HH F;rw[Zg (by simp)] at F;clear hh;have HM:=gd (λw'=>Xs s f A w' hg);obtain ⟨x,c,M⟩:∃x c,missP s.data.toList f A=(x,c):=⟨_,_,rfl⟩;rw[M] at F HM;subst F;clear M;go_enter func143,ntmps143
   go_wp2_with (first|(go_at_call 182;(with_reducible refine Za (HN.out _) ?_);rintro e w2 ⟨rfl,D⟩;(have H:=Q.out.ext D);(have I:=S.out.ext D);(obtain ⟨b0,b1,b2,b3,b4,b5,b6,b7,b8⟩:=H.cells);(have Y:=H.name J);(have K:BxT (w2.setCell ⟨w.heap.size+1,1,none⟩ (.string (str J))) w.heap.size _:=I.other (by omega));(have X:=gd ((V.out.trans D).setCell (p:=⟨w.heap.size+1,1,none⟩) (by show _<=w.heap.size+1;omega) (.string (str J))));(obtain ⟨c0,c1,c2,c3,c4,c5,c6,c7,c8⟩:=Y.cells))|(go_at_call 183;(with_reducible refine Za (U.out _) ?_);rintro e w3 ⟨rfl,rfl⟩)|(go_at_call 98;(with_reducible refine Za (HH.out _) ?_);rintro e w3 ⟨rfl,rfl⟩)|(go_at_call 184;(with_reducible refine Za (HM.out _) ?_);rintro e w3 ⟨rfl,rfl⟩)|(refine Zc rfl 111 (.tmp 4) (.tmp 43) rfl w.heap.size _ rfl rfl _ _ K Z6 rfl (Xg ⟨sN,⟨2,J,[],false,[],f⟩⟩ rfl) ?_))
   ((try simp only[Exit.inBlock,Exit.then]);refine Zn (Zr rfl _ _ _ _ _ _ _ rfl (Zp _ _ _ _ _ _ K) underlying111 rfl Z6) rfl ?_);exact ⟨_,rfl,⟨⟨sN,⟨2,J,[],false,[],f⟩⟩,rfl,rfl⟩,X.out.setRow (Zb _) _⟩
 ·rw[Zg Z] at F;have hb:¬(f:Int)+2<(E:Int):=by omega
  have HM:=gd (λw'=>Xs s f E w' hg);obtain ⟨x,c,M⟩:∃x c,missP s.data.toList f E=(x,c):=⟨_,_,rfl⟩;rw[M] at F HM;subst F;clear M;go_enter func143,ntmps143
  go_wp2_with (first|(go_at_call 182;(with_reducible refine Za (HN.out _) ?_);rintro e w2 ⟨rfl,D⟩;(have H:=Q.out.ext D);(have I:=S.out.ext D);(obtain ⟨b0,b1,b2,b3,b4,b5,b6,b7,b8⟩:=H.cells))|(go_at_call 184;(with_reducible refine Za (HM.out _) ?_);rintro e w3 ⟨rfl,rfl⟩)|(refine Zc rfl 111 (.tmp 4) (.tmp 43) rfl w.heap.size _ rfl rfl _ _ I Z6 rfl (Xg (nilT 2 f) rfl) ?_))
  ((try simp only[Exit.inBlock,Exit.then]);refine Zn (Zr rfl _ _ _ _ _ _ _ rfl (Zp _ _ _ _ _ _ I) underlying111 rfl Z6) rfl ?_);exact ⟨_,rfl,⟨nilT 2 f,rfl,rfl⟩,(V.out.trans D).setRow (Zb _) _⟩
end
end Go.Proofs.YtnlafkgkcnenfaaGreatDoor
