/- Parts of the proof: contracts and plain laws. -/
import Derived.Test.YtnlafkgkcnenfaaGreatDoorU06
namespace Go.Proofs.YtnlafkgkcnenfaaGreatDoor
open Go Go.RowKit _root_.Go.Proofs.Tryz
set_option linter.unusedVariables false
set_option linter.unusedSimpArgs false
set_option maxRecDepth 100000
set_option maxHeartbeats 16000000
theorem GF (s:ByteArray) (a z:Nat) (value:Bool) (w:Wq) (hs:s.size<=80000000000) (ha:a<=z) (gj:z<=s.size):
 Calls prog 146 #[.string s,nI (a:Nat),nI (z:Nat),.bool value] w λe w'=>e= .returned (contAns z (contP value s.data.toList a z))/\Ext w w':=by
 have gr:=ZN s;rw[Zf9];obtain ⟨R,hR⟩:∃R,contAt value s.data.toList z a []=R:=⟨_,rfl⟩;rw[hR];have hW:=ZhP s z gj;have he:(s.extract 0 z).data.toList=s.data.toList.take z:=by have:=XK s 0 z;rw[YI,Jm] at this;exact this
 have hB:(s.extract 0 z).size=z:=by rw[<-ZN,he,ZM];omega
 obtain ⟨S,hS⟩:∃S,s.extract 0 z=S:=⟨_,rfl⟩;rw[hS] at hW he hB;have hG:=gd hB;have hZ:=gd he;clear hS hB he;go_enter func146,ntmps146;go_wp2;go_loopw [11,12,13,14,15,16,17,18] (λo i _ _ _ _ _ _ wr=>∃(k:Nat) (O:ByteArray),a<=k/\k<=z/\o= .string O/\i=nI k/\Hid (O.size<=4*k)/\Hid (contAt value s.data.toList z k O.data.toList=R)/\Ext w wr) (λ_ i _ _ _ _ _ _ _=>z - (intOf i).toNat)
 case atStart=>exact ⟨a,⟨#[]⟩,Zc _,ha,rfl,rfl,Zj _,gd hR,Ext.refl _⟩
 case round=>
  obtain ⟨k,O,go,hk,rfl,rfl,hO,hr,hx⟩:=hrel;by_cases hn:k<z
  ·have gh:(k:Int)<(z:Int):=om;have gy:k<s.size:=om;have hl:k<s.data.toList.length:=om;by_cases H:s[k]=38
   ·have hb:(((s[k]).toNat:Int)==38)=true:=(by rw[H];rfl);have hh:(s.data.toList.drop k).head? =some 38:=(by rw[Zl hl,Il];exact Zz some H);have HC:=gd (λw'=>Zag S k w' (by have:=hG.out;omega) (by have:=hG.out;omega));rw[hZ.out] at HC;cases hra:refAt (s.data.toList.take z) k with
    |none=>
     have J:=(Zix (value:=value) (out:=O.data.toList) hn hh hra).symm.trans hr.out;subst J;rw[hra] at HC;clear H hh hra hr
     go_wp2_with (first|(go_at_call 186;refine Za (HC.out _) ?_;rintro e w2 ⟨rfl,rfl⟩;simp only[refAns]))
     go_ret3
     exact ⟨rfl,hx⟩
    |some re=>
     obtain ⟨r,e⟩:=re;have gb:=I1 hra;have gq:=Zk0 (Zjo hra);rw[ZM] at gb;have F:=gd ((ZbR (value:=value) (out:=O.data.toList) om hn hh hra).symm.trans hr.out);rw[hra] at HC;have HE:=gd (λw'=>Kr r w' om);have ga:=Zoo r;obtain ⟨L,hL⟩:∃L,encN r=L:=⟨_,rfl⟩;rw[hL] at HE F ga;have gi:(str L).size=L.length:=(by rw[<-ZN,Z3]);have h5:=hO.out;have HN:Hid (contAt value s.data.toList z e (O++str L).data.toList=R):=(by show _=_;rw[JS,Z3];exact F.out);have hy:Hid ((O++str L).size<=4*e):=(by show _<=_;rw[Zdf,gi];omega);clear H hh hra hr F hL
     go_wp2_with (first|(go_at_call 186;refine Za (HC.out _) ?_;rintro e w2 ⟨rfl,rfl⟩;simp only[refAns])|(go_at_call 181;refine Za (HE.out _) ?_;rintro e w2 ⟨rfl,hq⟩))
     go_roundw
     case rel=>exact ⟨e,O++str L,om,om,rfl,rfl,hy,HN,hx.trans hq⟩
     case measure=>simp[intOf];omega
   ·have hb:(((s[k]).toNat:Int)==38)=false:=(by rw[Zv];intro e;exact H (Xc.1 (by simpa using (show (s[k]).toNat=38 by omega))));have hh:(s.data.toList.drop k).head?≠some 38:=(by rw[Zl hl,Il];intro e;injection e with e;exact H e);have U:=VQ (s:=s.data.toList) hn om hh;have ho:=ID (value:=value) (s:=s.data.toList) (out:=O.data.toList) om hn hh;have hv:k+(plainAt s.data.toList z k).length<=z:=(by have h1:=(YE (λc:UInt8=>c !=38) (l:=(s.data.toList.take z).drop k)).length_le;rw[Zk,ZM] at h1;unfold plainAt;omega);have Z:k+((((s.data.toList.take z).drop k).takeWhile λc=>c !=38)).length=k+(plainAt s.data.toList z k).length:=rfl;have I:(s.extract k (k+(plainAt s.data.toList z k).length)).data.toList=plainAt s.data.toList z k:=by
     rw[XK];have h1:(s.data.toList.drop k).take (z - k)=(s.data.toList.take z).drop k:=(by rw[List.drop_take]);have h2:plainAt s.data.toList z k=((s.data.toList.take z).drop k).take (plainAt s.data.toList z k).length:=YQ.1 (Xx _);rw[h2,ZM,<-h1,List.take_take]
     congr 1
     rw[ZM,Zk];omega
    obtain ⟨P,hP⟩:∃P,plainAt s.data.toList z k=P:=⟨_,rfl⟩;rw[hP] at U ho hv Z I;obtain ⟨E,hE⟩:∃E,k+P.length=E:=⟨_,rfl⟩;rw[hE] at ho hv Z I;have hV:=GL s k E (k:Nat) (E:Nat) rfl rfl om om;obtain ⟨X,hX⟩:∃X,s.extract k E=X:=⟨_,rfl⟩;rw[hX] at hV I;have h6:X.size=P.length:=(by rw[<-ZN,I]);have hU:=IR P;have HL:=gd (λw'=>I5 X w' om);rw[I] at HL;obtain ⟨Y,hY⟩:∃Y,str (lns P)=Y:=⟨_,rfl⟩;have hz:Y.data.toList=lns P:=(by rw[<-hY,Z3]);have hA:Y.data.toList.length=Y.size:=ZN Y;have hu:Y.size<=P.length:=(by rw[<-hA,hz];exact hU);rw[hY] at HL;have F:=gd (ho.symm.trans hr.out);rw[<-hz] at F;have h0:=gd hA;have ht:=gd hu;have V:=gd hE;have hw:=gd Z;have hH:=gd U;clear H hh hr ho U Z I hX h6 hU hY hz hA hu hP hE;go_wp2;obtain ⟨wP,gk⟩:∃wP:Wq,wP=wr:=⟨_,rfl⟩;subst gk;go_loopw [16] (λv wr=>∃j:Nat,k<=j/\j<=E/\v=nI j/\Hid (j+((((s.data.toList.take z).drop j).takeWhile λc=>c !=38)).length=E)/\wr=wP) (λv _=>z - (intOf v).toNat)
    case atStart=>exact ⟨k,Zc _,by have:=V.out;omega,rfl,hw,rfl⟩
    case round=>
     obtain ⟨j,gx,gt,rfl,hj,rfl⟩:=hrel;have hp:∀h:j<(s.data.toList.take z).length,∀h2:j<s.size,(s.data.toList.take z)[j]=s[j]:=λh h2=>(by rw[List.getElem_take];rfl);by_cases gw:j<z;have gf:(j:Int)<(z:Int):=om;have hT:j<s.size:=om;have hm:j<(s.data.toList.take z).length:=(by rw[ZM];omega);by_cases A:s[j]=38;have h8:(((s[j]).toNat:Int) !=38)=false:=(by rw[A];rfl);have hC:j=E:=(VE (p:=λc=>c !=38) hm (by rw[hp hm hT,A];rfl)).symm.trans hj.out;subst hC;clear A hp hj hw
     rotate_left
     ·have h8:(((s[j]).toNat:Int) !=38)=true:=(by rw[Xk];intro e;exact A (Xc.1 (by simpa using (show (s[j]).toNat=38 by omega))));have HN:=gd ((VD (p:=λc=>c !=38) hm (by rw[hp hm hT];simpa using A)).symm.trans hj.out);clear hj A;have hQ:j+1<=E:=(by have:=HN.out;omega);go_wp2;go_roundw
      case rel=>exact ⟨j+1,om,hQ,by go_num,HN,by trivial⟩
      case measure=>simp[intOf];omega
     have gf:¬(j:Int)<(z:Int):=om;have hC:j=E:=(Zar (p:=λc=>c !=38) (s:=s.data.toList.take z) (by rw[ZM];omega)).symm.trans hj.out;subst hC;clear hp hj hw
     all_goals
      have h9:=λwx=>Lib.run_convert_string_bytes (P:=prog) wx 9 94 5 Y (u:= .string) underlying9 underlying94 underlying5
      go_wp2_with (first|(go_at_call 142;refine Za (HL.out _) ?_;rintro e w2 ⟨rfl,hq⟩))
      obtain ⟨W1,hd⟩:∃W1,W1=Lib.bytesWorld w2 5 Y:=⟨_,rfl⟩
      have gl:Ext w W1:=(by rw[hd];exact (hx.trans hq).bytes _ _)
      have D:BR W1 w2.heap.size Y.data.toList:=(by rw[hd];exact BR.bytes w2 Y)
      have hg:w.heap.size<=w2.heap.size:=(hx.trans hq).size
      have h7:Y.size<=80000000000:=(by have h1:=ht.out;have h2:=V.out;omega)
      rw[<-hd]
      generalize Go.grownCap w2 Y.size 0 5=cap
      obtain ⟨g,hK⟩:∃g,w2.heap.size=g:=⟨_,rfl⟩
      rw[hK] at D hg|-
      clear hd h9 hK hV
      go_loopw [18] (λv wr=>∃(i:Nat) (M:List UInt8),i<=Y.size/\v=nI i/\Hid (M.length=Y.size)/\BR wr g M/\Hid (M.take i++finC value (M.drop i)=finC value Y.data.toList)/\Ext w wr) (λv _=>Y.size - (intOf v).toNat)
      case atStart=>exact ⟨0,Y.data.toList,Zj _,rfl,h0,D,rfl,gl⟩
      case round=>
       obtain ⟨i,M,hi,rfl,hM,D,J,hF⟩:=hrel
       have K:=hM.out
       by_cases hN:i<Y.size
       have ge:(i:Int)<(Y.size:Int):=om
       have Q:i<M.length:=om
       cases value
       focus
        have HF:Hid (M.take (i+1)++finC false (M.drop (i+1))=finC false Y.data.toList):=by
         show _=_
         have:=J.out
         rw[ZiF,Yz] at this|-
         exact this
        clear J K
        go_wp2
       rotate_left
       have hc:=D.cell i Q
       have gs:=D.froz i Q
       cases hsp:isSp (M[i].toNat)
       focus
        have HF:Hid (M.take (i+1)++finC true (M.drop (i+1))=finC true Y.data.toList):=ZhQ Q hsp J.out
        have HS:=gd (λw'=>Y7 ((M[i].toNat:Nat):Int) w')
        rw[hsp] at HS
        obtain ⟨b,hb⟩:∃b,M[i]=b:=⟨_,rfl⟩
        rw[hb] at HS hc
        clear J K hsp hb
        go_wp2_with (first|(go_at_call 100;refine Za (HS.out _) ?_;rintro e w5 ⟨rfl,rfl⟩))
       rotate_left
       ·have HF:Hid ((M.set i 32).take (i+1)++finC true ((M.set i 32).drop (i+1))=finC true Y.data.toList):=Zjw Q hsp J.out
        have hJ:=D.set Q 32
        have h4:Hid ((M.set i 32).length=Y.size):=(by show _=_;rw[Jt];exact K)
        have gm:=hF.setCell (p:=⟨g,i,none⟩) hg (.int .u8 32)
        have HS:=gd (λw'=>Y7 ((M[i].toNat:Nat):Int) w')
        rw[hsp] at HS
        obtain ⟨b,hb⟩:∃b,M[i]=b:=⟨_,rfl⟩
        rw[hb] at HS hc
        clear J K hsp hb
        go_wp2_with (first|(go_at_call 100;refine Za (HS.out _) ?_;rintro e w5 ⟨rfl,rfl⟩))
        go_roundw
        case rel=>exact ⟨i+1,M.set i 32,hN,by go_num,h4,hJ,HF,gm⟩
        case measure=>simp[intOf];omega
       ·have ge:¬(i:Int)<(Y.size:Int):=om
        have gc:i=Y.size:=om
        subst gc
        have hI:M=finC value Y.data.toList:=by
         have:=J.out
         rw[ZC om,ZQ om] at this
         have e0:finC value ([]:List UInt8)= []:=(by unfold finC;split<;>rfl)
         rw[e0,ZV] at this
         exact this
        have gp:=D.conv (c:=cap) (hM.out.symm)
        have h5:=hO.out
        have hD:(str M).size=Y.size:=(by rw[<-ZN,Z3,hM.out])
        have HN:Hid (contAt value s.data.toList z j (O++str M).data.toList=R):=by
         show _=_
         rw[JS,Z3,hI]
         exact F.out
        have hy:Hid ((O++str M).size<=4*j):=by
         show _<=_
         have h1:=ht.out
         have h2:=V.out
         rw[Zdf,hD]
         omega
        have gu:k<j:=(by have h2:=V.out;have h3:=hH.out;omega)
        have gn:(str M).size<=80000000000:=(by rw[hD];exact h7)
        clear J K hI hM F hO hD
        go_wp2
        go_roundw
        case rel=>exact ⟨j,O++str M,om,om,rfl,rfl,hy,HN,hF⟩
        case measure=>simp[intOf];omega
       all_goals
        go_roundw
        case rel=>exact ⟨i+1,M,hN,by go_num,hM,D,HF,hF⟩
        case measure=>simp[intOf];omega
  ·have gh:¬(k:Int)<(z:Int):=om;have gg:k=z:=om;subst gg;have J:=(ZbQ (Zc _)).symm.trans hr.out;subst J;clear hr;go_wp2
   go_ret3
   refine ⟨?_,hx⟩;rw[contAns,show str O.data.toList=O from Vb (Z3 _)];rfl
def cellsA (a:AtP):List Value:= [.string (str a.space),.string (str a.name),.string (str a.value),nI (a.at_:Nat)]
def flatA (l:List AtP):List Value:=(l.map cellsA).flatten
theorem Uo (a:AtP):∀u∈cellsA a,u.oneCell'=true:=by
 intro u h;simp only[cellsA,ZH,ZY,Y1] at h;rcases h with rfl|rfl|rfl|rfl<;>rfl
theorem G5 (a b:List AtP):flatA (a++b)=flatA a++flatA b:=by unfold flatA;rw[ZS,UZ]
theorem G7 (a:AtP):flatA [a]=cellsA a:=by unfold flatA;simp
theorem ZiJ (l:List AtP):∀u∈flatA l,u.oneCell'=true:=by
 intro u h;obtain ⟨c,hc,h⟩:=Zdh.1 h;obtain ⟨a,_,rfl⟩:=ZU.1 hc;exact Uo a u h
def RAts (w:Wq) (v:Value) (l:List AtP):Prop:=RSl w 4 v l.length (flatA l)
theorem RAts.ext {w w':Wq} {v:Value} {l:List AtP} (h:RAts w v l) (A:Ext w w'):RAts w' v l:=RSl.ext h A
theorem RAts.nil (w:Wq):RAts w sN []:=RSl.nil w 4
theorem RAts.form {w:Wq} {v:Value} {l:List AtP} (h:RAts w v l):∃A c,v= .slice A l.length c/\l.length<=c/\c<=maxLen:=by
 obtain ⟨_,A,c,e,D,F,_⟩:=h;exact ⟨A,c,e,D,F⟩
structure AtAt (w:Wq) (q:Addr) (a:AtP):Prop where
 c0:w.cell? q=some (.string (str a.space))
 c1:w.cell? ⟨q.block,q.off+1,none⟩=some (.string (str a.name))
 c2:w.cell? ⟨q.block,q.off+2,none⟩=some (.string (str a.value))
 c3:w.cell? ⟨q.block,q.off+3,none⟩=some (nI (a.at_:Nat))
theorem RAts.at {w:Wq} {v:Value} {l:List AtP} (h:RAts w v l) {k:Nat} (D:k<l.length):∃ad c,v= .slice (some ad) l.length c/\AtAt w (ad.add (k*4)) l[k]:=by
 obtain ⟨ad,c,e,hc⟩:=RSl.elem (k:=4) (css:=l.map cellsA) h (by decide) (by intro c hc;obtain ⟨x,_,rfl⟩:=ZU.1 hc;rfl) k (cellsA l[k]) (by rw[Yp,Zh D];rfl);rw[VF] at hc;have A:∀i,0<i->(ad.add (k*4)).add i=⟨(ad.add (k*4)).block,(ad.add (k*4)).off+i,none⟩:=λi F=>Ze om;refine ⟨ad,c,e,?_,?_,?_,?_⟩
 ·have:=hc 0 _ rfl;rwa [add_zero] at this
 ·have:=hc 1 _ rfl;rwa [A _ (by decide)] at this
 ·have:=hc 2 _ rfl;rwa [A _ (by decide)] at this
 ·have:=hc 3 _ rfl;rwa [A _ (by decide)] at this
structure Tc where
 al:Value
 t:Tok
def cellsT (x:Tc):List Value:= [nI (x.t.kind:Nat),.string (str x.t.name),x.al,.bool x.t.empty,.string (str x.t.text),nI (x.t.at_:Nat)]
def flatT (l:List Tc):List Value:=(l.map cellsT).flatten
def RdT (w:Wq) (x:Tc):Prop:=RAts w x.al x.t.attrs
def RTs (w:Wq) (v:Value) (l:List Tc):Prop:=RSl w 6 v l.length (flatT l)
inductive Nc where
 |mk (kind:Nat) (space name:List UInt8) (al:Value) (attrs:List AtP) (ks:Value) (kids:List Nc) (text:List UInt8) (at_:Nat)
def Nc.kids:Nc->List Nc| .mk _ _ _ _ _ _ k _ _=>k
def Nc.ks:Nc->Value| .mk _ _ _ _ _ k _ _ _=>k
def Nc.al:Nc->Value| .mk _ _ _ a _ _ _ _ _=>a
def Nc.attrs:Nc->List AtP| .mk _ _ _ _ a _ _ _ _=>a
def cellsN:Nc->List Value
 | .mk k s n al _ ks _ t a=> [nI (k:Nat),.string (str s),.string (str n),al,ks,.string (str t),nI (a:Nat)]
def flatN (l:List Nc):List Value:=(l.map cellsN).flatten
mutual
def Nc.nd:Nc->Nd
 | .mk k s n _ l _ ks t a=> .mk k s n l (Nc.nds ks) t a
def Nc.nds:List Nc->List Nd
 | []=> []
 |x::t=>x.nd::Nc.nds t
end
mutual
def RdN (w:Wq):Nc->Prop
 | .mk _ _ _ al l ks kids _ _=>RAts w al l/\RSl w 7 ks kids.length (flatN kids)/\RdNs w kids
def RdNs (w:Wq):List Nc->Prop
 | []=>True
 |x::t=>RdN w x/\RdNs w t
end
section
variable {P:Program} {ty:TypeId}
theorem Y6 (s:ByteArray) (L:List UInt8) (k:Nat) (w:Wq) (F:s.size<=80000000000) (D:k<=80000000000+9) (A:L.length<=9) (h:0<L.length):
 Calls prog 98 #[.string s,nI (k:Nat),.string ⟨L.toArray⟩] w λe w'=>e= .returned (.bool (hasAt s.data.toList k L))/\w'=w:=
 ZcI s ⟨L.toArray⟩ k w (by unfold maxLen;omega) (by unfold maxLen;omega) (by show L.length<=_;unfold maxLen;omega) (by show 0<L.length;exact h)
theorem I3 (s:ByteArray) (L:List UInt8) (k:Nat) (w:Wq) (D:s.size<=80000000000) (A:k<=s.size) (F:L.length<=9) (h:0<L.length):
 Calls prog 145 #[.string s,nI (k:Nat),.string ⟨L.toArray⟩] w λe w'=>e= .returned (nI (match findAt s.data.toList k L with|some i=>(i:Int)|none=> -1))/\w'=w:=
 ZhF s ⟨L.toArray⟩ k w D A (by show L.length<=_;omega) (by show 0<L.length;exact h)
theorem GJ (s:ByteArray) (a:Nat) (O L:List UInt8) (w:Wq) (Y:s.size<=80000000000) (U:a+O.length<=s.size) (S:L.length<=9) (R:0<L.length):
 Calls prog 141 #[.string s,nI (a:Nat),.string ⟨O.toArray⟩,.string ⟨L.toArray⟩] w λe w'=>
  e= .returned (match skipP s.data.toList a O.length L with| .ok n=> .tuple #[nI (n:Nat),nI 0]| .error (x,c)=> .tuple #[nI (x:Nat),nI (c:Nat)])/\w'=w:=by
 have F:=gd (λw'=>I3 s L (a+O.length) w' Y U S R);have V:=ZN s;unfold skipP;have D:(⟨O.toArray⟩:ByteArray).size=O.length:=rfl;have A:(⟨L.toArray⟩:ByteArray).size=L.length:=rfl;obtain ⟨J,I⟩:∃J:ByteArray,⟨O.toArray⟩=J:=⟨_,rfl⟩;obtain ⟨Q,H⟩:∃Q:ByteArray,⟨L.toArray⟩=Q:=⟨_,rfl⟩;rw[I] at D|-;rw[H] at A F|-;rw[<-D] at U F|-;rw[<-A] at S R|-;have h:((a+J.size:Nat):Int)=(a:Int)+(J.size:Int):=om
 cases hf:findAt s.data.toList (a+J.size) L with
 |none=>
  rw[hf] at F;rw[h] at F;clear hf I H D A h;go_enter func141,ntmps141
  go_wp2_with (first|(go_at_call 145;refine Za (F.out _) ?_;rintro e w2 ⟨rfl,rfl⟩))
  go_ret2
  exact ⟨rfl,rfl⟩
 |some i=>
  rw[hf] at F;rw[h] at F;have K:=Ex om hf;rw[<-A] at K;have X:¬(i:Int)<0:=om
  clear hf I H D A h;go_enter func141,ntmps141
  go_wp2_with (first|(go_at_call 145;refine Za (F.out _) ?_;rintro e w2 ⟨rfl,rfl⟩))
  go_ret2
  exact ⟨by simp,rfl⟩
theorem I9 {A:Func} {p u x:Tmp} (h:A.results=#[.cell p ty,.tmp u,.tmp x]) (tmps:Array Value) (w:Wq):
 (results A tmps).run P w=
  ((asAddr (tmps.getD p undef)).run P w).andThen λa D=>((loadVar ty a).run P D).andThen λv F=> .ok (.tuple #[v,tmps.getD u undef,tmps.getD x undef]) F:=by
 simp only[results,h];simp[Sem.run_bind,Result.andThen]
theorem ZI {A:Func} {p u x:Tmp} (h:A.results=#[.cell p ty,.tmp u,.tmp x]) (tmps:Array Value) (w:Wq) (g:Nat) (t:TypeId) (cs:Array Value) (fr:Nat×Nat) (d:TypeDesc)
 (I:tmps.getD p undef= .pointer (some ⟨g,0,none⟩)) (F:w.heap[g]? =some (.cells cs t fr))
 (J:P.underlying ty=some d) (D:(match d with| .struct _| .array _ _=>true|_=>false)=true) (H:(P.info? ty).map (·.size)=some cs.size):
 (results A tmps).run P w= .ok (.tuple #[.agg cs,tmps.getD u undef,tmps.getD x undef]) w:=by
 rw[I9 h,I];simp[asAddr,run_loadVar_row w g t ty cs fr d F J D H]
end
def AttrRet (v:Value):Except PErr (AtP×Nat)->Prop
 | .ok (a,n)=>v= .tuple #[.agg (cellsA a).toArray,nI (n:Nat),nI 0]
 | .error (x,c)=>∃a,v= .tuple #[.agg (cellsA a).toArray,nI (x:Nat),nI (c:Nat)]
theorem Xz:(prog.info? 88).map (λi=>i.size)=some 4:=by kernel_rfl
theorem Vq (a:AtP):(cellsA a).toArray.all (λu=>u.oneCell')=true:=Zcz (Uo a)
def BxA (w:Wq) (g:Nat) (a:AtP):Prop:=w.heap[g]? =some (.cells #[.string (str a.space),.string (str a.name),.string (str a.value),nI (a.at_:Nat)] 88 (0,0))
theorem BxA.ext {w w':Wq} {g:Nat} {a:AtP} (h:BxA w g a) (A:Ext w w'):BxA w' g a:=A.heap h
theorem BxA.cells {w:Wq} {g:Nat} {a:AtP} (h:BxA w g a):w.cell? ⟨g,0,none⟩=some (.string (str a.space))/\w.cell? ⟨g,1,none⟩=some (.string (str a.name))/\w.cell? ⟨g,2,none⟩=some (.string (str a.value))/\w.cell? ⟨g,3,none⟩=some (nI (a.at_:Nat))/\
 w.frozen? ⟨g,1,none⟩=false/\w.frozen? ⟨g,2,none⟩=false:=by
 refine ⟨?_,?_,?_,?_,Z5 h 1,Z5 h 2⟩<;>(rw[YO _ _ _ _ _ _ h];rfl)
theorem BxA.name {w:Wq} {g:Nat} {a:AtP} (h:BxA w g a) (n:List UInt8):BxA (w.setCell ⟨g,1,none⟩ (.string (str n))) g ⟨a.space,n,a.value,a.at_⟩:=Yh w g 1 _ _ _ h
theorem BxA.value {w:Wq} {g:Nat} {a:AtP} (h:BxA w g a) (n:List UInt8):BxA (w.setCell ⟨g,2,none⟩ (.string (str n))) g ⟨a.space,a.name,n,a.at_⟩:=Yh w g 2 _ _ _ h
theorem BxA.other {w:Wq} {g g' i:Nat} {a:AtP} {v:Value} (h:BxA w g a) (A:g≠g'):BxA (w.setCell ⟨g',i,none⟩ v) g a:=(Z4 w ⟨g',i,none⟩ g v A).trans h
theorem BxA.alloc1 (w:Wq) (a b:AtP):BxA ((w.alloc (.cells (cellsA a).toArray 88)).alloc (.cells (cellsA b).toArray 88)) w.heap.size a:=
 Ext.heap ((Ext.refl _).alloc _) (Zg w _)
theorem BxA.alloc2 (w:Wq) (a b:AtP):BxA ((w.alloc (.cells (cellsA a).toArray 88)).alloc (.cells (cellsA b).toArray 88)) (w.heap.size+1) b:=by
 have:=Zg (w.alloc (.cells (cellsA a).toArray 88)) (.cells (cellsA b).toArray 88)
 rwa [Zu] at this
theorem ZhA (s:ByteArray) (f k:Nat) (w:Wq) (hs:s.size<=80000000000) (hf:f<=s.size) (hk:k<=s.size):
 Calls prog 185 #[.string s,nI (f:Nat),nI (k:Nat)] w λe w'=>∃v,e= .returned v/\AttrRet v (attrP s.data.toList f k)/\Ext w w':=by
 have hK:s.size<=maxLen:=by unfold maxLen;omega
 have hD:=ZN s;obtain ⟨R,h⟩:∃R,attrP s.data.toList f k=R:=⟨_,rfl⟩;rw[h];unfold attrP at h;dsimp only at h;have HN:=gd (λw'=>GH s k w' hs hk);have hE:=U5 (s:=s.data.toList) (k:=k) om;obtain ⟨E,hP⟩:∃E,nmAt s.data.toList k=E:=⟨_,rfl⟩;rw[hP] at HN h hE;rw[hD] at hE;clear hP;have hv:=gd (BxA.alloc2 w ⟨[],[],[],0⟩ ⟨[],[],[],k⟩);have hw:=gd (BxA.alloc1 w ⟨[],[],[],0⟩ ⟨[],[],[],k⟩);have hz:=gd (((Ext.refl w).alloc (.cells (cellsA ⟨[],[],[],0⟩).toArray 88)).alloc (.cells (cellsA ⟨[],[],[],k⟩).toArray 88));by_cases hB:E=k
 ·rw[Zi hB] at h;subst hB;have hb:((E:Int)==(E:Int))=true:=by simp
  have HM:=gd (λw'=>XP s f E w' hK);obtain ⟨x,c,hd⟩:∃x c,missP s.data.toList f E=(x,c):=⟨_,_,rfl⟩;rw[hd] at h HM;subst h;clear hd;go_enter func185,ntmps185
  go_wp2_with (first|(go_at_call 182;refine Za (HN.out _) ?_;rintro e w2 ⟨rfl,I⟩;have Q:=hv.out.ext I;have V:=hw.out.ext I;obtain ⟨b0,b1,b2,b3,b4,b5⟩:=Q.cells)|(go_at_call 184;refine Za (HM.out _) ?_;rintro e w3 ⟨rfl,rfl⟩)|(refine Zf rfl 88 (.tmp 6) (.tmp 35) rfl w.heap.size _ rfl rfl _ _ V Xz rfl (Vq ⟨[],[],[],E⟩) ?_))
  ((try simp only[Exit.inBlock,Exit.then]);refine ZD (ZI rfl _ _ _ _ _ _ _ rfl (ZF _ _ _ _ _ _ V) underlying88 rfl Xz) rfl ?_);exact ⟨_,rfl,⟨⟨[],[],[],E⟩,rfl⟩,((hz.out.trans I).setRow (Zc _) _)⟩
 rw[Ze hB] at h;have hb:((E:Int)==(k:Int))=false:=by rw[Zv];omega
 have hH:=GL s k E (k:Nat) (E:Nat) rfl rfl hE.1 hE.2;obtain ⟨K,hJ⟩:∃K,(s.data.toList.drop k).take (E - k)=K:=⟨_,rfl⟩;rw[hJ] at h;have ge:∀wx,(Instr.slice 9 (.string s) (some (nI (k:Nat))) (some (nI (E:Nat))) none).run prog wx= .ok (.string (str K)) wx:=λwx=>by
  rw[hH wx]
  congr 2
  refine Vb ?_;rw[Z3,<-hJ,<-XK,show k+(E - k)=E by omega]
 have hx:=gd (λw'=>UH s E w' hs hE.2);have hA:=UJ (s:=s.data.toList) (k:=E) om;obtain ⟨A,hM⟩:∃A,spAt s.data.toList E=A:=⟨_,rfl⟩;rw[hM] at hx h hA;rw[hD] at hA;clear hB hH hJ hM;have HH:=gd (λw'=>Y6 s [61] A w' hs om (by decide) (by decide));cases hh:hasAt s.data.toList A [61]
 ·rw[hh] at HH h;rw[Zi rfl] at h;clear hh;have HM:=gd (λw'=>XP s f A w' hK);obtain ⟨x,c,hd⟩:∃x c,missP s.data.toList f A=(x,c):=⟨_,_,rfl⟩;rw[hd] at h HM;subst h;clear hd;go_enter func185,ntmps185
  go_wp2_with (first|(go_at_call 182;refine Za (HN.out _) ?_;rintro e w2 ⟨rfl,I⟩;have Q:=hv.out.ext I;have V:=hw.out.ext I;obtain ⟨b0,b1,b2,b3,b4,b5⟩:=Q.cells;have F:=Q.name K;(have D:BxA (w2.setCell ⟨w.heap.size+1,1,none⟩ (.string (str K))) w.heap.size _:=V.other om);(have ha:Ext w (w2.setCell ⟨w.heap.size+1,1,none⟩ (.string (str K))):=(hz.out.trans I).setCell (by show _<=w.heap.size+1;omega) _);have H:=gd ha;clear ha;obtain ⟨c0,c1,c2,c3,c4,c5⟩:=F.cells)|(go_at_call 183;(first|(with_reducible refine Za (hx.out _) ?_));rintro e w3 ⟨rfl,rfl⟩)|(go_at_call 98;(first|(with_reducible refine Za (HH.out _) ?_));rintro e w3 ⟨rfl,rfl⟩)|(go_at_call 184;refine Za (HM.out _) ?_;rintro e w3 ⟨rfl,rfl⟩)|(refine Zf rfl 88 (.tmp 6) (.tmp 57) rfl w.heap.size _ rfl rfl _ _ D Xz rfl (Vq ⟨[],K,[],k⟩) ?_))
  ((try simp only[Exit.inBlock,Exit.then]);refine ZD (ZI rfl _ _ _ _ _ _ _ rfl (ZF _ _ _ _ _ _ D) underlying88 rfl Xz) rfl ?_);exact ⟨_,rfl,⟨⟨[],K,[],k⟩,rfl⟩,(H.out.setRow (Zc _) _)⟩
 obtain ⟨hN,_⟩:=JK hh;rw[hD] at hN;rw[hh] at HH h;rw[Ze (by simp)] at h;clear hh;have hy:=gd (λw'=>UH s (A+1) w' hs hN);have hq:=UJ (s:=s.data.toList) (k:=A+1) om;obtain ⟨q,hZ⟩:∃q,spAt s.data.toList (A+1)=q:=⟨_,rfl⟩;rw[hZ] at hy h hq;rw[hD] at hq;rw[show ((A+1:Nat):Int)=(A:Int)+1 by omega] at hy;have hl:=gd (λw'=>Y6 s [34] q w' hs om (by decide) (by decide));have hu:=gd (λw'=>Y6 s [39] q w' hs om (by decide) (by decide));clear hZ;by_cases he:hasAt s.data.toList q [34]=false/\hasAt s.data.toList q [39]=false
 ·rw[Zi he] at h;rw[he.1] at hl;rw[he.2] at hu;clear he;have HM:=gd (λw'=>XP s f q w' hK);obtain ⟨x,c,hd⟩:∃x c,missP s.data.toList f q=(x,c):=⟨_,_,rfl⟩;rw[hd] at h HM;subst h;clear hd;go_enter func185,ntmps185
  go_wp2_with (first|(go_at_call 182;refine Za (HN.out _) ?_;rintro e w2 ⟨rfl,I⟩;have Q:=hv.out.ext I;have V:=hw.out.ext I;obtain ⟨b0,b1,b2,b3,b4,b5⟩:=Q.cells;have F:=Q.name K;(have D:BxA (w2.setCell ⟨w.heap.size+1,1,none⟩ (.string (str K))) w.heap.size _:=V.other om);(have ha:Ext w (w2.setCell ⟨w.heap.size+1,1,none⟩ (.string (str K))):=(hz.out.trans I).setCell (by show _<=w.heap.size+1;omega) _);have H:=gd ha;clear ha;obtain ⟨c0,c1,c2,c3,c4,c5⟩:=F.cells)|(go_at_call 183;(first|(with_reducible refine Za (hx.out _) ?_)|(with_reducible refine Za (hy.out _) ?_));rintro e w3 ⟨rfl,rfl⟩)|(go_at_call 98;(first|(with_reducible refine Za (HH.out _) ?_)|(with_reducible refine Za (hl.out _) ?_)|(with_reducible refine Za (hu.out _) ?_));rintro e w3 ⟨rfl,rfl⟩)|(go_at_call 184;refine Za (HM.out _) ?_;rintro e w3 ⟨rfl,rfl⟩)|(refine Zf rfl 88 (.tmp 6) (.tmp 81) rfl w.heap.size _ rfl rfl _ _ D Xz rfl (Vq ⟨[],K,[],k⟩) ?_))
  ((try simp only[Exit.inBlock,Exit.then]);refine ZD (ZI rfl _ _ _ _ _ _ _ rfl (ZF _ _ _ _ _ _ D) underlying88 rfl Xz) rfl ?_);exact ⟨_,rfl,⟨⟨[],K,[],k⟩,rfl⟩,(H.out.setRow (Zc _) _)⟩
 rw[Ze he] at h;cases h34:hasAt s.data.toList q [34];cases h39:hasAt s.data.toList q [39]
 ·exact absurd ⟨h34,h39⟩ he
 obtain ⟨hX,ht⟩:=JK h39;have hY:q<s.size:=om
 have hg:s[q]≠60:=by rw[show s[q]=39 from ht];decide
 rw[h34] at hl;rw[h39] at hu;clear h34 h39 ht
 rotate_left
 obtain ⟨hX,ht⟩:=JK h34;have hY:q<s.size:=om
 have hg:s[q]≠60:=by rw[show s[q]=34 from ht];decide
 rw[h34] at hl;clear h34 ht
 all_goals
  clear he
  have h9:q<s.data.toList.length:=om
  have hU:(s.data.toList.drop q).headD 0=s[q]:=by rw[Zl h9];rfl
  rw[hU] at h
  clear hU
  obtain ⟨c,hc⟩:∃c,s[q]=c:=⟨_,rfl⟩
  rw[hc] at h hg
  have hI:=gd hc
  clear hc
  have hO:q+1+((s.data.toList.drop (q+1)).takeWhile λd=>d !=c && d !=60).length<=s.size:=by
   have h1:=(YE (λd:UInt8=>d !=c && d !=60) (l:=s.data.toList.drop (q+1))).length_le
   rw[Zk] at h1
   omega
  obtain ⟨E2,hn⟩:∃E2,q+1+((s.data.toList.drop (q+1)).takeWhile λd=>d !=c && d !=60).length=E2:=⟨_,rfl⟩
  rw[hn] at h hO
  have h8:q+1<=E2:=om
  have hm:=gd hn
  have Y:=gd (λw'=>GF s (q+1) E2 true w' hs h8 hO)
  rw[show ((q+1:Nat):Int)=(q:Int)+1 by omega] at Y
  have HR:=gd h
  clear h hn
  go_enter func185,ntmps185
  go_wp2_with (first|(go_at_call 182;refine Za (HN.out _) ?_;rintro e w2 ⟨rfl,I⟩;have Q:=hv.out.ext I;have V:=hw.out.ext I;obtain ⟨b0,b1,b2,b3,b4,b5⟩:=Q.cells;have F:=Q.name K;(have D:BxA (w2.setCell ⟨w.heap.size+1,1,none⟩ (.string (str K))) w.heap.size _:=V.other om);(have ha:Ext w (w2.setCell ⟨w.heap.size+1,1,none⟩ (.string (str K))):=(hz.out.trans I).setCell (by show _<=w.heap.size+1;omega) _);have H:=gd ha;clear ha;obtain ⟨c0,c1,c2,c3,c4,c5⟩:=F.cells)|(go_at_call 183;(first|(with_reducible refine Za (hx.out _) ?_)|(with_reducible refine Za (hy.out _) ?_));rintro e w3 ⟨rfl,rfl⟩)|(go_at_call 98;(first|(with_reducible refine Za (HH.out _) ?_)|(with_reducible refine Za (hl.out _) ?_)|(with_reducible refine Za (hu.out _) ?_));rintro e w3 ⟨rfl,rfl⟩))
  go_loopw [10] (λv wr=>∃j:Nat,q+1<=j/\j<=s.size/\v=nI j/\Hid (j+((s.data.toList.drop j).takeWhile λd=>d !=c && d !=60).length=E2)/\Ext (w2.setCell ⟨w.heap.size+1,1,none⟩ (.string (str K))) wr) (λv _=>s.size - (intOf v).toNat)
  case atStart=>exact ⟨q+1,Zc _,om,by go_num,hm,Ext.refl _⟩
  case round=>
   obtain ⟨j,gc,gb,rfl,hj,hF⟩:=hrel
   replace F:=F.ext hF
   replace D:=D.ext hF
   replace H:=gd (H.out.trans hF)
   clear b0 b1 b2 b3 b4 b5 c0 c1 c2 c3 c4 c5 Q V
   by_cases h7:j<s.size
   have h6:(j:Int)<(s.size:Int):=om
   have hr:j<s.data.toList.length:=om
   have hi:s.data.toList[j]=s[j]:=rfl
   by_cases X:s[j]=c
   focus
    have hp:j=E2:=(VE (p:=λd=>d !=c && d !=60) hr (by rw[hi,X];simp)).symm.trans hj.out
    subst hp
    have hT:(((s[j]).toNat:Int) !=((s[q]).toNat:Int))=false:=(by rw[X,hI.out];simp)
    have hL:=gd X
    clear hj hm hi X
    go_wp2
    refine rA ?_
    repeat (first|go_big_quiet_step (skip)|quiet_step (skip))
    refine Z9 ?_
    rintro _ ⟨dd,rfl⟩
    replace F:=F.ext dd.ext
    replace D:=D.ext dd.ext
    replace H:=gd (H.out.trans dd.ext)
    have h:=HR.out
    obtain ⟨C,hC⟩:∃C,contP true s.data.toList (q+1) j=C:=⟨_,rfl⟩
    rw[hC] at h Y
    cases C
   rename_i xc
   rotate_left
   ·rename_i v
    dsimp only at h
    have ho:(s.data.toList.drop j).head?≠some 60:=by
     rw[Zl hr,Il]
     intro e
     injection e with e
     exact hg (hL.out.symm.trans e)
    rw[Ze om,Ze ho] at h
    subst h
    have hS:(((s[j]).toNat:Int)==60)=false:=by
     rw[Zv]
     intro e
     exact hg (hL.out.symm.trans (Xc.1 (by simpa using (show (s[j]).toNat=60 by omega))))
    have hW:((j:Int)==(s.size:Int))=false:=(by rw[Zv];omega)
    clear hC HR ho
    go_wp2_with (first|(go_at_call 146;refine Za (Y.out _) ?_;rintro e w4 ⟨rfl,J⟩;simp only[contAns];have Z:=F.ext J;have U:=D.ext J;obtain ⟨d0,d1,d2,d3,d4,d5⟩:=Z.cells;have h3:=Z.value v;(have hQ:BxA (w4.setCell ⟨w.heap.size+1,2,none⟩ (.string (str v))) w.heap.size _:=U.other om);(have h2:=gd ((H.out.trans J).setCell (p:=⟨w.heap.size+1,2,none⟩) (by show _<=w.heap.size+1;omega) (.string (str v))));obtain ⟨e0,e1,e2,e3,e4,e5⟩:=h3.cells)|(refine Zf rfl 88 (.tmp 6) (.tmp 135) rfl w.heap.size _ rfl rfl _ _ hQ Xz rfl (Vq ⟨[],K,v,k⟩) ?_))
    ((try simp only[Exit.inBlock,Exit.then]);refine ZD (ZI rfl _ _ _ _ _ _ _ rfl (ZF _ _ _ _ _ _ hQ) underlying88 rfl Xz) rfl ?_)
    exact ⟨_,rfl,rfl,(h2.out.setRow (Zc _) _)⟩
   by_cases S:s[j]=60
   focus
    have hp:j=E2:=(VE (p:=λd=>d !=c && d !=60) hr (by rw[hi,S];simp)).symm.trans hj.out
    subst hp
    have hT:(((s[j]).toNat:Int) !=((s[q]).toNat:Int))=true:=by
     rw[Xk,hI.out]
     intro e
     exact X (Xc.1 om)
    have h4:(((s[j]).toNat:Int) !=60)=false:=(by rw[S];rfl)
    have hG:=gd S
    clear hj hm hi X S
    go_wp2
    refine rA ?_
    repeat (first|go_big_quiet_step (skip)|quiet_step (skip))
    refine Z9 ?_
    rintro _ ⟨dd,rfl⟩
    replace F:=F.ext dd.ext
    replace D:=D.ext dd.ext
    replace H:=gd (H.out.trans dd.ext)
    have h:=HR.out
    obtain ⟨C,hC⟩:∃C,contP true s.data.toList (q+1) j=C:=⟨_,rfl⟩
    rw[hC] at h Y
    cases C
   rename_i xc
   rotate_left
   ·rename_i v
    dsimp only at h
    have ho:(s.data.toList.drop j).head? =some 60:=(by rw[Zl hr,Il];exact Zz some hG.out)
    rw[Ze om,Zi ho] at h
    subst h
    have hS:(((s[j]).toNat:Int)==60)=true:=(by rw[hG.out];rfl)
    have hW:((j:Int)==(s.size:Int))=false:=(by rw[Zv];omega)
    clear hC HR ho
    go_wp2_with (first|(go_at_call 146;refine Za (Y.out _) ?_;rintro e w4 ⟨rfl,J⟩;simp only[contAns];have Z:=F.ext J;have U:=D.ext J;obtain ⟨d0,d1,d2,d3,d4,d5⟩:=Z.cells)|(refine Zf rfl 88 (.tmp 6) (.tmp 131) rfl w.heap.size _ rfl rfl _ _ U Xz rfl (Vq ⟨[],K,[],k⟩) ?_))
    ((try simp only[Exit.inBlock,Exit.then]);refine ZD (ZI rfl _ _ _ _ _ _ _ rfl (ZF _ _ _ _ _ _ U) underlying88 rfl Xz) rfl ?_)
    exact ⟨_,rfl,⟨⟨[],K,[],k⟩,rfl⟩,((H.out.trans J).setRow (Zc _) _)⟩
   ·have HJ:=gd ((VD (p:=λd=>d !=c && d !=60) hr (by rw[hi];simp[X,S])).symm.trans hj.out)
    have hT:(((s[j]).toNat:Int) !=((s[q]).toNat:Int))=true:=by
     rw[Xk,hI.out]
     intro e
     exact X (Xc.1 om)
    have h4:(((s[j]).toNat:Int) !=60)=true:=by
     rw[Xk]
     intro e
     exact S (Xc.1 (by simpa using (show (s[j]).toNat=60 by omega)))
    clear hj hm hi X S
    go_wp2
    refine rA ?_
    repeat (first|go_big_quiet_step (skip)|quiet_step (skip))
    refine Z9 ?_
    rintro _ ⟨dd,rfl⟩
    go_wp2
    go_roundw
    case rel=>exact ⟨j+1,om,h7,by go_num,HJ,hF.trans dd.ext⟩
    case measure=>simp[intOf];omega
   focus
    have h6:¬(j:Int)<(s.size:Int):=om
    have hp:j=E2:=(Zar (p:=λd=>d !=c && d !=60) om).symm.trans hj.out
    subst hp
    have hV:j=s.size:=om
    have ga:((j:Int)==(s.size:Int))=true:=(by rw[JI];omega)
    have h0:=gd hV
    clear hV
    clear hj hm
    go_wp2
    refine rA ?_
    repeat (first|go_big_quiet_step (skip)|quiet_step (skip))
    refine Z9 ?_
    rintro _ ⟨dd,rfl⟩
    replace F:=F.ext dd.ext
    replace D:=D.ext dd.ext
    replace H:=gd (H.out.trans dd.ext)
    have h:=HR.out
    obtain ⟨C,hC⟩:∃C,contP true s.data.toList (q+1) j=C:=⟨_,rfl⟩
    rw[hC] at h Y
    cases C
   rename_i xc
   rotate_left
   ·rename_i v
    dsimp only at h
    rw[Zi (by have:=h0.out;omega)] at h
    subst h
    clear hC HR
    go_wp2_with (first|(go_at_call 146;refine Za (Y.out _) ?_;rintro e w4 ⟨rfl,J⟩;simp only[contAns];have Z:=F.ext J;have U:=D.ext J;obtain ⟨d0,d1,d2,d3,d4,d5⟩:=Z.cells)|(refine Zf rfl 88 (.tmp 6) (.tmp 125) rfl w.heap.size _ rfl rfl _ _ U Xz rfl (Vq ⟨[],K,[],k⟩) ?_))
    ((try simp only[Exit.inBlock,Exit.then]);refine ZD (ZI rfl _ _ _ _ _ _ _ rfl (ZF _ _ _ _ _ _ U) underlying88 rfl Xz) rfl ?_)
    exact ⟨_,rfl,⟨⟨[],K,[],k⟩,rfl⟩,((H.out.trans J).setRow (Zc _) _)⟩
   all_goals
    obtain ⟨x,cc⟩:=xc
    have h5:=Vo _ _ _ _ _ _ _ _ hC
    subst h5
    dsimp only at h
    subst h
    clear hC HR
    go_wp2_with (first|(go_at_call 146;refine Za (Y.out _) ?_;rintro e w4 ⟨rfl,J⟩;simp only[contAns];have Z:=F.ext J;have U:=D.ext J;obtain ⟨d0,d1,d2,d3,d4,d5⟩:=Z.cells)|(refine Zf rfl 88 (.tmp 6) (.tmp 118) rfl w.heap.size _ rfl rfl _ _ U Xz rfl (Vq ⟨[],K,[],k⟩) ?_))
    ((try simp only[Exit.inBlock,Exit.then]);refine ZD (ZI rfl _ _ _ _ _ _ _ rfl (ZF _ _ _ _ _ _ U) underlying88 rfl Xz) rfl ?_)
    exact ⟨_,rfl,⟨⟨[],K,[],k⟩,rfl⟩,((H.out.trans J).setRow (Zc _) _)⟩
section
variable {base n:Nat} {e:TypeId} {v:Value} {w:World} {xs:List Value}
def BxT (w:Wq) (g:Nat) (x:Tc):Prop:=w.heap[g]? =some (.cells #[nI (x.t.kind:Nat),.string (str x.t.name),x.al,.bool x.t.empty,.string (str x.t.text),nI (x.t.at_:Nat)] 111 (0,0))
theorem BxT.ext {w w':Wq} {g:Nat} {x:Tc} (h:BxT w g x) (A:Ext w w'):BxT w' g x:=A.heap h
theorem BxT.cells {w:Wq} {g:Nat} {x:Tc} (h:BxT w g x):w.cell? ⟨g,0,none⟩=some (nI (x.t.kind:Nat))/\w.cell? ⟨g,1,none⟩=some (.string (str x.t.name))/\w.cell? ⟨g,2,none⟩=some x.al/\w.cell? ⟨g,3,none⟩=some (.bool x.t.empty)/\
 w.cell? ⟨g,4,none⟩=some (.string (str x.t.text))/\w.cell? ⟨g,5,none⟩=some (nI (x.t.at_:Nat))/\w.frozen? ⟨g,1,none⟩=false/\w.frozen? ⟨g,2,none⟩=false/\w.frozen? ⟨g,3,none⟩=false:=by
 refine ⟨?_,?_,?_,?_,?_,?_,Z5 h 1,Z5 h 2,Z5 h 3⟩<;>(rw[YO _ _ _ _ _ _ h];rfl)
theorem BxT.name {w:Wq} {g:Nat} {x:Tc} (h:BxT w g x) (n:List UInt8):BxT (w.setCell ⟨g,1,none⟩ (.string (str n))) g ⟨x.al,⟨x.t.kind,n,x.t.attrs,x.t.empty,x.t.text,x.t.at_⟩⟩:=Yh w g 1 _ _ _ h
theorem BxT.attrs {w:Wq} {g:Nat} {x:Tc} (h:BxT w g x) (al:Value) (l:List AtP):BxT (w.setCell ⟨g,2,none⟩ al) g ⟨al,⟨x.t.kind,x.t.name,l,x.t.empty,x.t.text,x.t.at_⟩⟩:=Yh w g 2 _ _ _ h
theorem BxT.empty {w:Wq} {g:Nat} {x:Tc} (h:BxT w g x) (b:Bool):BxT (w.setCell ⟨g,3,none⟩ (.bool b)) g ⟨x.al,⟨x.t.kind,x.t.name,x.t.attrs,b,x.t.text,x.t.at_⟩⟩:=Yh w g 3 _ _ _ h
theorem BxT.other {w:Wq} {g g' i:Nat} {x:Tc} {v:Value} (h:BxT w g x) (A:g≠g'):BxT (w.setCell ⟨g',i,none⟩ v) g x:=(Z4 w ⟨g',i,none⟩ g v A).trans h
def nilT (k f:Nat):Tc:=⟨sN,⟨k,[],[],false,[],f⟩⟩
theorem BxT.alloc1 (w:Wq) (x y:Tc):BxT ((w.alloc (.cells (cellsT x).toArray 111)).alloc (.cells (cellsT y).toArray 111)) w.heap.size x:=
 Ext.heap ((Ext.refl _).alloc _) (Zg w _)
theorem BxT.alloc2 (w:Wq) (x y:Tc):BxT ((w.alloc (.cells (cellsT x).toArray 111)).alloc (.cells (cellsT y).toArray 111)) (w.heap.size+1) y:=by
 have:=Zg (w.alloc (.cells (cellsT x).toArray 111)) (.cells (cellsT y).toArray 111)
 rwa [Zu] at this
theorem Ye:(prog.info? 111).map (λi=>i.size)=some 6:=by kernel_rfl
theorem XE (x:Tc) (h:x.al.oneCell'=true):(cellsT x).toArray.all (λu=>u.oneCell')=true:=by
 refine Zcz ?_;intro u A;simp only[cellsT,ZH,ZY,Y1] at A;rcases A with rfl|rfl|rfl|rfl|rfl|rfl<;>first|rfl|exact h
def TokRet (B:Nat) (w:Wq) (v:Value):Except PErr (Tok×Nat)->Prop
 | .ok (t,n)=>∃al,v= .tuple #[.agg (cellsT ⟨al,t⟩).toArray,nI (n:Nat),nI 0]/\RAts w al t.attrs/\∀g,al.ownBlock=some g->B<=g
 | .error (y,c)=>∃x:Tc,v= .tuple #[.agg (cellsT x).toArray,nI (y:Nat),nI (c:Nat)]/\x.al.oneCell'=true
theorem Jg {size:Nat} (h:w.ownsRow base e size v n xs):∀g,v.ownBlock=some g->base<=g:=λg A=>(h.lt g A).1
theorem Zam (s:ByteArray) (a b:Nat) (A B:Int) (L:List UInt8) (H:A=a) (I:B=b) (h:a<=b) (F:b<=s.size) (J:(s.data.toList.drop a).take (b - a)=L):
 ∀D,(Instr.slice 9 (.string s) (some (nI A)) (some (nI B)) none).run prog D= .ok (.string (str L)) D:=λD=>by
 rw[GL s a b A B H I h F D]
 congr 2
 refine Vb ?_;rw[Z3,<-J,<-XK,show a+(b - a)=b by omega]
theorem Zjp (s:ByteArray) (f:Nat) (w:Wq) (hs:s.size<=80000000000) (hf:f+2<=s.size):
 Calls prog 143 #[.string s,nI (f:Nat)] w λe w'=>∃v,e= .returned v/\TokRet w.heap.size w' v (endP s.data.toList f)/\Ext w w':=by
 have hi:s.size<=maxLen:=by unfold maxLen;omega
 have hg:=ZN s;obtain ⟨R,F⟩:∃R,endP s.data.toList f=R:=⟨_,rfl⟩;rw[F];unfold endP at F;dsimp only at F;have HN:=gd (λw'=>GH s (f+2) w' hs hf);have hE:=U5 (s:=s.data.toList) (k:=f+2) om;obtain ⟨E,he⟩:∃E,nmAt s.data.toList (f+2)=E:=⟨_,rfl⟩;rw[he] at HN F hE;rw[hg] at hE;clear he;rw[show ((f+2:Nat):Int)=(f:Int)+2 by omega] at HN;have S:=gd (BxT.alloc2 w (nilT 0 0) (nilT 2 f));have U:=gd (BxT.alloc1 w (nilT 0 0) (nilT 2 f));have X:=gd (((Ext.refl w).alloc (.cells (cellsT (nilT 0 0)).toArray 111)).alloc (.cells (cellsT (nilT 2 f)).toArray 111));by_cases ha:f+2<E
 ·rw[Zi ha] at F;have hb:(f:Int)+2<(E:Int):=om
  obtain ⟨J,hc⟩:∃J,(s.data.toList.drop (f+2)).take (E - (f+2))=J:=⟨_,rfl⟩;have hj:=Zam s (f+2) E ((f:Int)+2) (E:Nat) J om rfl hE.1 hE.2 hc;rw[hc] at F;have V:=gd (λw'=>UH s E w' hs hE.2);have hA:=UJ (s:=s.data.toList) (k:=E) om;obtain ⟨A,hd⟩:∃A,spAt s.data.toList E=A:=⟨_,rfl⟩;rw[hd] at V F hA;rw[hg] at hA;clear ha hc hd;have HH:=gd (λw'=>Y6 s [62] A w' hs om (by decide) (by decide));cases hh:hasAt s.data.toList A [62] with
  |true=>
   rw[hh] at HH F;rw[Zi rfl] at F;subst F;clear hh;go_enter func143,ntmps143
   go_wp2_with (first|(go_at_call 182;refine Za (HN.out _) ?_;rintro e w2 ⟨rfl,D⟩;have H:=S.out.ext D;have I:=U.out.ext D;obtain ⟨b0,b1,b2,b3,b4,b5,b6,b7,b8⟩:=H.cells;have Z:=H.name J;(have K:BxT (w2.setCell ⟨w.heap.size+1,1,none⟩ (.string (str J))) w.heap.size _:=I.other om);(have Y:=gd ((X.out.trans D).setCell (p:=⟨w.heap.size+1,1,none⟩) (by show _<=w.heap.size+1;omega) (.string (str J))));obtain ⟨c0,c1,c2,c3,c4,c5,c6,c7,c8⟩:=Z.cells)|(go_at_call 183;refine Za (V.out _) ?_;rintro e w3 ⟨rfl,rfl⟩)|(go_at_call 98;refine Za (HH.out _) ?_;rintro e w3 ⟨rfl,rfl⟩)|(refine Zf rfl 111 (.tmp 4) (.tmp 33) rfl w.heap.size _ rfl rfl _ _ K Ye rfl (XE ⟨sN,⟨2,J,[],false,[],f⟩⟩ rfl) ?_))
   ((try simp only[Exit.inBlock,Exit.then]);refine ZD (ZI rfl _ _ _ _ _ _ _ rfl (ZF _ _ _ _ _ _ K) underlying111 rfl Ye) rfl ?_);exact ⟨_,rfl,⟨_,rfl,RAts.nil _,(by intro g h;cases h)⟩,Y.out.setRow (Zc _) _⟩
  |false=>
   rw[hh] at HH F;rw[Ze (by simp)] at F;clear hh;have HM:=gd (λw'=>XP s f A w' hi);obtain ⟨x,c,Q⟩:∃x c,missP s.data.toList f A=(x,c):=⟨_,_,rfl⟩;rw[Q] at F HM;subst F;clear Q;go_enter func143,ntmps143
   go_wp2_with (first|(go_at_call 182;refine Za (HN.out _) ?_;rintro e w2 ⟨rfl,D⟩;have H:=S.out.ext D;have I:=U.out.ext D;obtain ⟨b0,b1,b2,b3,b4,b5,b6,b7,b8⟩:=H.cells;have Z:=H.name J;(have K:BxT (w2.setCell ⟨w.heap.size+1,1,none⟩ (.string (str J))) w.heap.size _:=I.other om);(have Y:=gd ((X.out.trans D).setCell (p:=⟨w.heap.size+1,1,none⟩) (by show _<=w.heap.size+1;omega) (.string (str J))));obtain ⟨c0,c1,c2,c3,c4,c5,c6,c7,c8⟩:=Z.cells)|(go_at_call 183;refine Za (V.out _) ?_;rintro e w3 ⟨rfl,rfl⟩)|(go_at_call 98;refine Za (HH.out _) ?_;rintro e w3 ⟨rfl,rfl⟩)|(go_at_call 184;refine Za (HM.out _) ?_;rintro e w3 ⟨rfl,rfl⟩)|(refine Zf rfl 111 (.tmp 4) (.tmp 43) rfl w.heap.size _ rfl rfl _ _ K Ye rfl (XE ⟨sN,⟨2,J,[],false,[],f⟩⟩ rfl) ?_))
   ((try simp only[Exit.inBlock,Exit.then]);refine ZD (ZI rfl _ _ _ _ _ _ _ rfl (ZF _ _ _ _ _ _ K) underlying111 rfl Ye) rfl ?_);exact ⟨_,rfl,⟨⟨sN,⟨2,J,[],false,[],f⟩⟩,rfl,rfl⟩,Y.out.setRow (Zc _) _⟩
 ·rw[Ze ha] at F;have hb:¬(f:Int)+2<(E:Int):=om
  have HM:=gd (λw'=>XP s f E w' hi);obtain ⟨x,c,Q⟩:∃x c,missP s.data.toList f E=(x,c):=⟨_,_,rfl⟩;rw[Q] at F HM;subst F;clear Q;go_enter func143,ntmps143
  go_wp2_with (first|(go_at_call 182;refine Za (HN.out _) ?_;rintro e w2 ⟨rfl,D⟩;have H:=S.out.ext D;have I:=U.out.ext D;obtain ⟨b0,b1,b2,b3,b4,b5,b6,b7,b8⟩:=H.cells)|(go_at_call 184;refine Za (HM.out _) ?_;rintro e w3 ⟨rfl,rfl⟩)|(refine Zf rfl 111 (.tmp 4) (.tmp 43) rfl w.heap.size _ rfl rfl _ _ I Ye rfl (XE (nilT 2 f) rfl) ?_))
  ((try simp only[Exit.inBlock,Exit.then]);refine ZD (ZI rfl _ _ _ _ _ _ _ rfl (ZF _ _ _ _ _ _ I) underlying111 rfl Ye) rfl ?_);exact ⟨_,rfl,⟨nilT 2 f,rfl,rfl⟩,(X.out.trans D).setRow (Zc _) _⟩
end
section
variable {base g n:Nat} {e:TypeId} {v:Value} {w:World} {xs:List Value}
attribute [local go_sem] calm1
theorem XN {size:Nat} (h:w.ownsRow base e size v n xs) (F:g<base) (i:Nat) (u:Value):(w.setCell ⟨g,i,none⟩ u).ownsRow base e size v n xs:=by
 refine h.kept (row:=some g) ⟨rfl,rfl,rfl,by simp[World.setCell],λk _ A=>Z4 w ⟨g,i,none⟩ k u (λe=>A (by rw[e]))⟩ (Or.inr λD=> ?_);have:=(h.lt g D).1;omega
theorem ZoL {size:Nat} (h:w.ownsRow base e size v n xs):v.oneCell'=true:=by
 rcases h.2 with ⟨rfl,_⟩|⟨g,cap,A,rfl,_⟩<;>rfl
theorem Ym {size:Nat} (h:w.ownsRow base e size v n xs):∃A c,v= .slice A n c:=by
 rcases h.2 with ⟨rfl,rfl⟩|⟨g,cap,D,rfl,_⟩
 ·exact ⟨none,0,rfl⟩
 ·exact ⟨_,cap,rfl⟩
theorem BxT.grown {a b:Wq} {g:Nat} {x:Tc} {r:Option Nat} (h:BxT a g x) (A:a.grownBy b r) (D:r≠some g):BxT b g x:=
 (A.block g (ZP.1 h).1 (λe=>D (by rw[<-e]))).trans h
theorem Zfl:(prog.info? 88).map (λi=>(i.zero,i.size,i.bytes))=some (some (.agg #[eS,eS,eS,nI 0]),4,56):=by kernel_rfl
theorem ZfH (s:ByteArray) (f:Nat) (w:Wq) (hs:s.size<=80000000000) (hf:f+1<=s.size):
 Calls prog 144 #[.string s,nI (f:Nat)] w λe w'=>∃v,e= .returned v/\TokRet w.heap.size w' v (startP s.data.toList f)/\Ext w w':=by
 have hX:s.size<=maxLen:=by unfold maxLen;omega
 obtain ⟨i0,gB,gN,gO,gP⟩:=YH Zfl;have hQ:=ZN s;obtain ⟨R,hR⟩:∃R,startP s.data.toList f=R:=⟨_,rfl⟩;rw[hR];rw[Qk s.data.toList f om] at hR;have HN:=gd (λw'=>GH s (f+1) w' hs hf);have hE:=U5 (s:=s.data.toList) (k:=f+1) om;obtain ⟨E,gb⟩:∃E,nmAt s.data.toList (f+1)=E:=⟨_,rfl⟩;rw[gb] at HN hR hE;rw[hQ] at hE;clear gb;rw[show ((f+1:Nat):Int)=(f:Int)+1 by omega] at HN;have hD:=gd (BxT.alloc2 w (nilT 0 0) (nilT 1 f));have hF:=gd (BxT.alloc1 w (nilT 0 0) (nilT 1 f));have hG:=gd (((Ext.refl w).alloc (.cells (cellsT (nilT 0 0)).toArray 111)).alloc (.cells (cellsT (nilT 1 f)).toArray 111));by_cases hu:E=f+1
 ·rw[Zi hu] at hR;have hb:((E:Int)==(f:Int)+1)=true:=by rw[JI];omega
  have HM:=gd (λw'=>XP s f E w' hX);obtain ⟨x,c,hc⟩:∃x c,missP s.data.toList f E=(x,c):=⟨_,_,rfl⟩;rw[hc] at hR HM;subst hR;clear hc hu;go_enter func144,ntmps144
  go_wp2_with (first|(go_at_call 182;refine Za (HN.out _) ?_;rintro e w2 ⟨rfl,S⟩;have hd:=hD.out.ext S;have Z:=hF.out.ext S;obtain ⟨b0,b1,b2,b3,b4,b5,b6,b7,b8⟩:=hd.cells)|(go_at_call 184;refine Za (HM.out _) ?_;rintro e w3 ⟨rfl,rfl⟩)|(refine Zf rfl 111 (.tmp 4) (.tmp 37) rfl w.heap.size _ rfl rfl _ _ Z Ye rfl (XE (nilT 1 f) rfl) ?_))
  ((try simp only[Exit.inBlock,Exit.then]);refine ZD (ZI rfl _ _ _ _ _ _ _ rfl (ZF _ _ _ _ _ _ Z) underlying111 rfl Ye) rfl ?_);exact ⟨_,rfl,⟨nilT 1 f,rfl,rfl⟩,(hG.out.trans S).setRow (Zc _) _⟩
 ·rw[Ze hu] at hR;have hb:((E:Int)==(f:Int)+1)=false:=by rw[Zv];omega
  obtain ⟨I,hM⟩:∃I,(s.data.toList.drop (f+1)).take (E - (f+1))=I:=⟨_,rfl⟩;have gH:=Zam s (f+1) E ((f:Int)+1) (E:Nat) I om rfl hE.1 hE.2 hM;rw[hM] at hR;have HR:=gd hR;clear hu hM hR;go_enter func144,ntmps144
  go_wp2_with (first|(go_at_call 182;refine Za (HN.out _) ?_;rintro e w2 ⟨rfl,S⟩;have hd:=hD.out.ext S;have Z:=hF.out.ext S;obtain ⟨b0,b1,b2,b3,b4,b5,b6,b7,b8⟩:=hd.cells))
  have h9:=hd.name I;have gf:BxT (w2.setCell ⟨w.heap.size+1,1,none⟩ (.string (str I))) w.heap.size _:=Z.other om;have gi:=(hG.out.trans S).setCell (p:=⟨w.heap.size+1,1,none⟩) (by show _<=w.heap.size+1;omega) (.string (str I));have gh:w.heap.size+2<=w2.heap.size:=by have h1:=S.size;rw[Zu,Zu] at h1;omega
  clear b0 b1 b2 b3 b4 b5 b6 b7 b8 hd Z hD hF hG gH hb;go_loopw [8] (λv wr=>∃(k:Nat) (l:List AtP) (al:Value),k<=s.size/\v=nI k/\Hid (startAt s.data.toList f I k l=R)/\BxT wr (w.heap.size+1) ⟨al,⟨1,I,l,false,[],f⟩⟩/\BxT wr w.heap.size (nilT 0 0)/\wr.ownsRow (w.heap.size+2) 88 4 al l.length (flatA l)/\Ext w wr/\w.heap.size+2<=wr.heap.size/\Hid (l.length<=k)) (λv _=>s.size - (intOf v).toNat)
  case atStart=>exact ⟨E,[],sN,hE.2,rfl,HR,h9,gf,YF _ _ _ _,gi,by simpa using gh,Zj _⟩
  case round=>
   clear h9 gf gi gh;obtain ⟨k,l,al,hk,rfl,hr,hB,J,H,hx,gX,hj⟩:=hrel;have D:=hr.out;rw[Uy s.data.toList f I k l om] at D;have Y:=gd (λw'=>UH s k w' hs hk);have hN:=UJ (s:=s.data.toList) (k:=k) om;have gD:=U9 s.data.toList k;obtain ⟨N,gc⟩:∃N,spAt s.data.toList k=N:=⟨_,rfl⟩;rw[gc] at Y D hN gD;rw[hQ] at hN;clear gc hr;have HA:=gd (λw'=>Y6 s [62] N w' hs om (by decide) (by decide));have V:=gd (λw'=>Y6 s [47,62] N w' hs om (by decide) (by decide));have HC:=gd (λw'=>Y6 s [47] N w' hs om (by decide) (by decide));obtain ⟨b0,b1,b2,b3,b4,b5,b6,b7,b8⟩:=hB.cells;have F:=ZoL H;dsimp only at b0 b1 b2 b3 b4 b5;cases h1:hasAt s.data.toList N [62] with
   |true=>
    rw[h1,Zi rfl] at D;rw[h1] at HA;subst D;clear h1
    go_wp2_with (first|(go_at_call 183;refine Za (Y.out _) ?_;rintro e w3 ⟨rfl,rfl⟩)|(go_at_call 98;(first|(with_reducible refine Za (HA.out _) ?_)|(with_reducible refine Za (V.out _) ?_)|(with_reducible refine Za (HC.out _) ?_));rintro e w3 ⟨rfl,rfl⟩)|(refine Zf rfl 111 (.tmp 4) (.tmp 53) rfl w.heap.size _ rfl rfl _ _ J Ye rfl (XE ⟨al,⟨1,I,l,false,[],f⟩⟩ F) ?_))
    ((try simp only[Exit.inBlock,Exit.then]);refine ZD (ZI rfl _ _ _ _ _ _ _ rfl (ZF _ _ _ _ _ _ J) underlying111 rfl Ye) rfl ?_);exact ⟨_,rfl,⟨al,rfl,RSl.of_own (Jk H om _),(λg hg=>by have:=Jg H g hg;omega)⟩,hx.setRow (Zc _) _⟩
   |false=>
    rw[h1,Ze (by simp)] at D;rw[h1] at HA;clear h1;cases h2:hasAt s.data.toList N [47,62] with
    |true=>
     rw[h2,Zi rfl] at D;rw[h2] at V;subst D;have hd:=hB.empty true;have Z:BxT (wr.setCell ⟨w.heap.size+1,3,none⟩ (.bool true)) w.heap.size _:=J.other om;have hZ:=XN H (g:=w.heap.size+1) om 3 (.bool true);have S:=hx.setCell (p:=⟨w.heap.size+1,3,none⟩) (by show _<=w.heap.size+1;omega) (.bool true);obtain ⟨c0,c1,c2,c3,c4,c5,c6,c7,c8⟩:=hd.cells;dsimp only at c0 c1 c2 c3 c4 c5;clear h2
     go_wp2_with (first|(go_at_call 183;refine Za (Y.out _) ?_;rintro e w3 ⟨rfl,rfl⟩)|(go_at_call 98;(first|(with_reducible refine Za (HA.out _) ?_)|(with_reducible refine Za (V.out _) ?_)|(with_reducible refine Za (HC.out _) ?_));rintro e w3 ⟨rfl,rfl⟩)|(refine Zf rfl 111 (.tmp 4) (.tmp 61) rfl w.heap.size _ rfl rfl _ _ Z Ye rfl (XE ⟨al,⟨1,I,l,true,[],f⟩⟩ F) ?_))
     ((try simp only[Exit.inBlock,Exit.then]);refine ZD (ZI rfl _ _ _ _ _ _ _ rfl (ZF _ _ _ _ _ _ Z) underlying111 rfl Ye) rfl ?_);exact ⟨_,rfl,⟨al,rfl,RSl.of_own (Jk hZ om _),(λg hg=>by have:=Jg H g hg;omega)⟩,S.setRow (Zc _) _⟩
    |false=>
     rw[h2,Ze (by simp)] at D;rw[h2] at V;clear h2;cases h3:hasAt s.data.toList N [47] with
     |true=>
      have gT:=XT h3;rw[h3,Zi rfl] at D;rw[h3] at HC;have HM:=gd (λw'=>XP s f (N+1) w' hX);rw[show ((N+1:Nat):Int)=(N:Int)+1 by omega] at HM;obtain ⟨x,c,hc⟩:∃x c,missP s.data.toList f (N+1)=(x,c):=⟨_,_,rfl⟩;rw[hc] at D HM;subst D;clear hc h3
      go_wp2_with (first|(go_at_call 183;refine Za (Y.out _) ?_;rintro e w3 ⟨rfl,rfl⟩)|(go_at_call 98;(first|(with_reducible refine Za (HA.out _) ?_)|(with_reducible refine Za (V.out _) ?_)|(with_reducible refine Za (HC.out _) ?_));rintro e w3 ⟨rfl,rfl⟩)|(go_at_call 184;refine Za (HM.out _) ?_;rintro e w3 ⟨rfl,rfl⟩)|(refine Zf rfl 111 (.tmp 4) (.tmp 76) rfl w.heap.size _ rfl rfl _ _ J Ye rfl (XE ⟨al,⟨1,I,l,false,[],f⟩⟩ F) ?_))
      ((try simp only[Exit.inBlock,Exit.then]);refine ZD (ZI rfl _ _ _ _ _ _ _ rfl (ZF _ _ _ _ _ _ J) underlying111 rfl Ye) rfl ?_);exact ⟨_,rfl,⟨⟨al,⟨1,I,l,false,[],f⟩⟩,rfl,F⟩,hx.setRow (Zc _) _⟩
     |false=>
      rw[h3,Ze (by simp)] at D;rw[h3] at HC;clear h3;by_cases hw:N=k
      ·rw[Zi hw] at D;have gk:((N:Int)==(k:Int))=true:=(by rw[JI];omega);have HM:=gd (λw'=>XP s f k w' hX);obtain ⟨x,c,hc⟩:∃x c,missP s.data.toList f k=(x,c):=⟨_,_,rfl⟩;rw[hc] at D HM;subst D;clear hc hw
       go_wp2_with (first|(go_at_call 183;refine Za (Y.out _) ?_;rintro e w3 ⟨rfl,rfl⟩)|(go_at_call 98;(first|(with_reducible refine Za (HA.out _) ?_)|(with_reducible refine Za (V.out _) ?_)|(with_reducible refine Za (HC.out _) ?_));rintro e w3 ⟨rfl,rfl⟩)|(go_at_call 184;refine Za (HM.out _) ?_;rintro e w3 ⟨rfl,rfl⟩)|(refine Zf rfl 111 (.tmp 4) (.tmp 90) rfl w.heap.size _ rfl rfl _ _ J Ye rfl (XE ⟨al,⟨1,I,l,false,[],f⟩⟩ F) ?_))
       ((try simp only[Exit.inBlock,Exit.then]);refine ZD (ZI rfl _ _ _ _ _ _ _ rfl (ZF _ _ _ _ _ _ J) underlying111 rfl Ye) rfl ?_);exact ⟨_,rfl,⟨⟨al,⟨1,I,l,false,[],f⟩⟩,rfl,F⟩,hx.setRow (Zc _) _⟩
      ·rw[Ze hw] at D;have gk:((N:Int)==(k:Int))=false:=(by rw[Zv];omega);clear hw;have he:=gd (λw'=>ZhA s f N w' hs om hN);cases Q:attrP s.data.toList f N with
       |error xc=>
        obtain ⟨x,c⟩:=xc;have gA:=ZdE Q;have gU:((c:Int) !=0)=true:=(by rw[Xk];omega);rw[Q] at D he;dsimp only at D;subst D;clear Q gA
        go_wp2_with (first|(go_at_call 183;refine Za (Y.out _) ?_;rintro e w3 ⟨rfl,rfl⟩)|(go_at_call 98;(first|(with_reducible refine Za (HA.out _) ?_)|(with_reducible refine Za (V.out _) ?_)|(with_reducible refine Za (HC.out _) ?_));rintro e w3 ⟨rfl,rfl⟩)|(go_at_call 185;refine Za (he.out _) ?_;rintro e w5 ⟨v5,rfl,⟨a5,rfl⟩,hm⟩;simp only[cellsA];have U:=hm.alloc (.cells #[.string (str a5.space),.string (str a5.name),.string (str a5.value),nI (a5.at_:Nat)] 88);have ho:=hB.ext U;have hh:=J.ext U;obtain ⟨c0,c1,c2,c3,c4,c5,c6,c7,c8⟩:=ho.cells)|(refine Zf rfl 111 (.tmp 4) (.tmp 103) rfl w.heap.size _ rfl rfl _ _ hh Ye rfl (XE ⟨al,⟨1,I,l,false,[],f⟩⟩ F) ?_))
        ((try simp only[Exit.inBlock,Exit.then]);refine ZD (ZI rfl _ _ _ _ _ _ _ rfl (ZF _ _ _ _ _ _ hh) underlying111 rfl Ye) rfl ?_);exact ⟨_,rfl,⟨⟨al,⟨1,I,l,false,[],f⟩⟩,rfl,F⟩,(hx.trans U).setRow (Zc _) _⟩
       |ok ae=>
   obtain ⟨⟨sp,an,av,gx⟩,e⟩:=ae;obtain ⟨gE,hU,hP,gn⟩:=Qc om Q;rw[hQ] at hU;dsimp only at hP gn;have gj:N=gx:=hP.symm;clear hP;subst gj;subst gn;rw[Q] at D he;dsimp only at D;obtain ⟨A,c,rfl⟩:=Ym H;have ge:k<e:=om;have HE:=gd (show e<=s.size/\k<e/\l.length+1<=e from ⟨hU,ge,by have:=hj.out;omega⟩);have hn:=gd D;clear Q gE hU D ge
   go_wp2_with (first|(go_at_call 183;refine Za (Y.out _) ?_;rintro e w3 ⟨rfl,h3⟩;have hI:=h3.symm;clear h3;subst hI)|(go_at_call 98;(first|(with_reducible refine Za (HA.out _) ?_)|(with_reducible refine Za (V.out _) ?_)|(with_reducible refine Za (HC.out _) ?_));rintro e w3 ⟨rfl,h3⟩;have hI:=h3.symm;clear h3;subst hI)|(go_at_call 185;refine Za (he.out _) ?_;rintro e5 w5 ⟨v5,rfl,hT,hm⟩;(replace hT:v5=_:=hT);subst hT;simp only[cellsA]))
   obtain ⟨wP,gK⟩:∃wP:Wq,wP=wr:=⟨_,rfl⟩;subst gK;obtain ⟨W,hW⟩:∃W,w5.alloc (.cells #[.string (str []),.string (str an),.string (str av),nI (N:Nat)] 88)=W:=⟨_,rfl⟩;have U:Ext wP W:=(by rw[<-hW];exact hm.alloc _);have hJ:BxA W w5.heap.size ⟨[],an,av,N⟩:=(by rw[<-hW];exact Zg _ _);rw[hW];have ho:=hB.ext U;have hh:=J.ext U;have h4:=Ya H U;have go:=hx.trans U;have gF:=U.size;obtain ⟨g5,gl⟩:∃g,w5.heap.size=g:=⟨_,rfl⟩;have gr:=gd (show w.heap.size+2<=g5 by have:=hm.size;omega);rw[gl] at hJ|-;clear hW gl hm U b0 b1 b2 b3 b4 b5 b6 b7 b8 hB J H hx Y HA V HC he gk;go_loopw [19] (λv w7=>∃i:Nat,i<=l.length/\v=nI i/\Hid (∀t,t<i->∀ht:t<l.length,l[t].name≠an)/\Ext W w7) (λv _=>l.length - (intOf v).toNat)
   case atStart=>exact ⟨0,Zj _,rfl,(by intro t ht;omega),Ext.refl _⟩
   case round=>
    obtain ⟨i,hi,rfl,hY,ha⟩:=hrel;have gW:l.length<=80000000000:=(by have:=hj.out;omega);have hp:=ho.ext ha;have hO:=hh.ext ha;have hL:=hJ.ext ha;have X:=Ya h4 ha;obtain ⟨b0,b1,b2,b3,b4,b5,b6,b7,b8⟩:=hp.cells;dsimp only at b0 b1 b2 b3 b4 b5;obtain ⟨a0,a1,a2,a3, -⟩:=hL.cells;dsimp only at a0 a1 a2 a3;by_cases hV:i<l.length
    ·obtain ⟨ad,c',hv,Q⟩:=RAts.at (RSl.of_own X) hV;injection hv with hv1 hv2 hv3;subst hv1;clear hv2 hv3;obtain ⟨x,h5⟩:∃x,l[i]=x:=⟨_,rfl⟩;rw[h5] at Q;have e1:=Q.c1;have gR:(0:Int)<=(i:Int):=om;have gV:(i:Int)<(l.length:Int):=om;have q2:∀d:Aft wr,d.w.cell? ⟨w.heap.size+1,2,none⟩=some (.slice (some ad) l.length c):=Aft.cell b2;have q1:∀d:Aft wr,d.w.cell? ⟨(ad.add (i*4)).block,(ad.add (i*4)).off+1,none⟩=some (.string (str x.name)):=Aft.cell e1;have qa:∀d:Aft wr,d.w.cell? ⟨g5,1,none⟩=some (.string (str an)):=Aft.cell a1;have hH:=gd h5;clear h5 Q e1;cases hid:((str x.name).toList==(str an).toList) with
     |true=>
      have gz:R= .error (N,10):=by
       have h0:=hn.out;rw[Zi ?_] at h0
       ·exact h0.symm
       ·rw[Xm];refine ⟨x,by rw[<-hH.out];exact ZL hV,?_⟩;have h1:str x.name=str an:=toList_inj (by simpa using hid);have h2:=Zz (λz:ByteArray=>z.data.toList) h1;simp only[Z3] at h2;simpa using h2
      subst gz;clear hn hH;go_wp2;refine rA ?_
      repeat (first|go_big_quiet_step (skip)|quiet_step (skip))
      refine Z9 ?_;rintro _ ⟨d1,rfl⟩;have gL:=ha.trans d1.ext;clear q1 q2 qa b0 b1 b2 b3 b4 b5 b6 b7 b8 a0 a1 a2 a3 hid hp hO hL;go_wp2;have hC:=gL.drew;have gg:=hh.ext hC;obtain ⟨p0,p1,p2,p3,p4,p5, -, -, -⟩:=(ho.ext hC).cells;dsimp only at p0 p1 p2 p3 p4 p5;have pa:d1.w.drew.cell? ⟨g5,3,none⟩=some (nI (N:Nat)):=(hJ.ext hC).cells.2.2.2.1;have hA:g5≠w.heap.size:=(by have:=gr.out;omega);have pb:=(Z8 (a:=⟨g5,3,none⟩) (Yf d1.w.drew w.heap.size g5 (cellsT ⟨.slice (some ad) l.length c,⟨1,I,l,false,[],f⟩⟩).toArray hA)).trans pa;refine rN ?_;change wpAny _ _ _ _ _ _ _ (World.drew _);refine tH 1 (.pointer (some ⟨g5,3,none⟩)) ?_;refine XS (i:=2) (v:=nI (N:Nat)) (λw'=>w'.cell? ⟨g5,3,none⟩=some (nI (N:Nat))) 4 rfl (by kernel_rfl) (λ_ _ _ h=>h) (Or.inl ⟨by rfl,λw' hS=>by have hq:w'.cell? ⟨g5,3,none⟩=some (nI (N:Nat)):=hS;go_simp⟩) pa ?_;go_simp;refine XQ 4 [5] (AtIx.cons rfl (AtIx.cons rfl AtIx.nil)) [0,3] (AtIx.cons rfl (AtIx.cons rfl AtIx.nil)) rfl (by kernel_rfl) ?_;refine (Yg ?_:wpListS _ _ _ _ _ (_::_) _ _);intro K hK;go_simp;refine hK _ _ pa ?_;clear hK K;refine (Yg ?_:wpListS _ _ _ _ _ (_::_) _ _);intro K hK;refine YJ rfl 111 (.tmp 4) (.tmp 122) rfl w.heap.size _ rfl rfl _ _ gg Ye rfl (XE ⟨.slice (some ad) l.length c,⟨1,I,l,false,[],f⟩⟩ rfl) ?_;refine hK _ _ pb ?_;clear hK K;refine X0 ?_;clear p0 p1 p2 p3 p4 p5 pa pb;go_wp2;((try simp only[Exit.inBlock,Exit.then]);refine ZD (ZI rfl _ _ _ _ _ _ _ rfl (ZF _ _ _ _ _ _ gg) underlying111 rfl Ye) rfl ?_);exact ⟨_,rfl,⟨⟨.slice (some ad) l.length c,⟨1,I,l,false,[],f⟩⟩,rfl,rfl⟩,(go.trans hC).setRow (Zc _) _⟩
     |false=>
      have hA:x.name≠an:=(by intro h;rw[h] at hid;simp at hid);have gt:=gd hA;clear hA;go_wp2;refine rA ?_
      repeat (first|go_big_quiet_step (skip)|quiet_step (skip))
      refine Z9 ?_;rintro _ ⟨d1,rfl⟩;clear q1 q2 qa;go_wp2;go_roundw
      case rel=>
       refine ⟨i+1,om,by go_num,?_,ha.trans d1.ext⟩;intro t ht gJ;by_cases gI:t<i
       ·exact hY.out t gI gJ
       ·have:t=i:=om;subst this;rw[hH.out];exact gt.out
      case measure=>simp[intOf];omega
    ·have gC:i=l.length:=om;subst gC;have gS:¬(l.length:Int)<(l.length:Int):=om;have gu:Hid (startAt s.data.toList f I e (l++ [⟨[],an,av,N⟩])=R):=by
      have h0:=hn.out;rw[Ze ?_] at h0
      ·exact h0
      ·intro h;obtain ⟨y,hy,gM⟩:=Xm.1 h;obtain ⟨t,ht,rfl⟩:=List.getElem_of_mem hy;exact hY.out t ht ht (by simpa using gM)
     have h6:=gd X;have gp:=gd hp;have gw:=gd hO;have gs:=gd (show l.length+1<=maxLen by have:=hj.out;unfold maxLen;omega);have gq:=gd (show (l.length+1)*56<=140737488355328 by have:=hj.out;omega);have gG:=ha.size;have h8:=gd (show w.heap.size+2<=wr.heap.size+1 by omega);have gm:=Jg X;clear hn hY X hp hO hL hj hi hV gF gG
     go_wp2_with (first|(at_builtin;refine ZO _ rfl (.tmp 126) (.tmp 128) _ rfl (w.heap.size+2) 88 i0 _ 4 56 underlying22 gB gN gO gP rfl (by decide) _ _ _ rfl (h6.out.alloc _) _ 1 (cellsA ⟨[],an,av,N⟩) rfl (Yo rfl (by decide)) (Uo _) gs.out gq.out ?_ ?_;(rw[Zu];exact h8.out);intro v9 w9 hl hz gQ;obtain ⟨A9,c9,rfl⟩:=Ym hl;(have ga:=(gp.out.ext ((Ext.refl _).alloc _)).grown hz (λe=>by have:=gm _ e;omega));(have gy:=(gw.out.ext ((Ext.refl _).alloc _)).grown hz (λe=>by have:=gm _ e;omega));obtain ⟨c0,c1,c2,c3,c4,c5,c6,c7,c8⟩:=ga.cells))
     go_roundw
     case rel=>
      have hE:=HE.out;refine ⟨e,l++ [⟨[],an,av,N⟩],_,hE.1,rfl,gu,ga.attrs _ _,gy.other om,?_,?_,?_,?_⟩
      ·rw[G5,G7,Zb];exact XN hl om _ _
      ·exact (Ext.app ((go.trans ha).alloc _) hz (h6.out.alloc _) om).setCell (by show _<=w.heap.size+1;omega) _
      ·have:=hz.size;rw[Zu] at this;have h7:=h8.out;show _<=(w9.setCell ⟨w.heap.size+1,2,none⟩ (.slice A9 (l.length+1) c9)).heap.size;rw[show (w9.setCell ⟨w.heap.size+1,2,none⟩ (.slice A9 (l.length+1) c9)).heap.size=w9.heap.size by simp[World.setCell]];omega
      ·rw[Zb];exact hE.2.2
     case measure=>have hE:=HE.out;simp[intOf];omega
end
end Go.Proofs.YtnlafkgkcnenfaaGreatDoor
