/- Parts of the proof: contracts and plain laws. -/
import Derived.Test.YtnlafkgkcnenfaaGreatDoorT14
import Derived.Test.YtnlafkgkcnenfaaGreatDoorT16
namespace Go.Proofs.YtnlafkgkcnenfaaGreatDoor
open Go Go.RowKit Go.Joins Tryz
set_option linter.unusedVariables false
set_option linter.unusedSimpArgs false
set_option linter.unusedSimpArgs false
set_option maxRecDepth 100000
set_option maxHeartbeats 16000000
section
variable {d:Nat}
theorem ZfA {data:Bool} {x:Nd} {t:List Nd} (h:x.kind=1):kidsOk d data (x::t)=(!data && !x.text.isEmpty && charsOk x.text && x.space.isEmpty && x.name.isEmpty && x.attrs.isEmpty && x.kids.isEmpty && kidsOk d true t):=by
 rw[kidsOk,Zi h,YE h]
theorem Zfz {data:Bool} {x:Nd} {t:List Nd} (h:x.kind≠1):kidsOk d data (x::t)=(nodeOk (d+1) x && kidsOk d false t):=by
 rw[kidsOk,Ze h,Ya h]
theorem Gj (l:List UInt8):(str l).toList.isEmpty=l.isEmpty:=QQ l
theorem ZiA {a b:List UInt8}:(str a++str b).toList.isEmpty=(a.isEmpty && b.isEmpty):=by
 have h:(str a++str b).toList=a++b:=by rw[Z5,VG,Yb,Yb]
 rw[h];cases a<;>cases b<;>rfl
theorem Zki (N:Nat) (hN:N<=4000000):∀(h:Nat) (x:Nc) (Z:Nat) (w:Wq),x.nd.ht<=h->x.nd.fits N->Z<=101->Env w->NmTabs w->RdN w x->
 Calls prog 125 #[.agg (cellsN x).toArray,nI (Z:Nat)] w λe w'=>e= .returned (.bool (nodeOk Z x.nd))/\Ext w w':=by
 intro h
 induction h with
 |zero=>intro x Z w hu;exact absurd (Zhb x.nd) (by omega)
 |succ h ih=>
 intro x Z w hu H gn hE hp hr;obtain ⟨k,s,n,al,l0,ks,kids,t,a⟩:=x;have gf:=hr;rw[RdN] at hr;obtain ⟨hG,hJ,hT⟩:=hr;have hA:=(Xo kids).1 hT;rw[Nc.nd] at hu H|-;rw[Nd.ht] at hu;rw[Nd.fits] at H;have hS:=H.2.2.2.2.2.2.2.2;have hQ:=H.2.2.2.2.1;have h7:kids.length<=N:=by have:=H.2.2.2.2.2.1;rwa [Je] at this
 have gb:l0.length<=N:=H.2.2.2.1;have gc:n.length<=N:=H.2.2.1;have hc:k<=1:=H.1;obtain ⟨A,c,h3, -, -⟩:=hG.form;obtain ⟨B,d,ga, -, -⟩:=RNs.form hJ;subst h3;subst ga;obtain ⟨W0,hO⟩:∃W0,w.alloc (.cells #[nI (k:Nat),.string (str s),.string (str n),.slice A l0.length c,.slice B kids.length d,.string (str t),nI (a:Nat)] 25)=W0:=⟨_,rfl⟩;have he:Ext w W0:=by rw[<-hO];exact (Ext.refl w).alloc _
 have hH:BxN W0 w.heap.size k s n (.slice A l0.length c) (.slice B kids.length d) t a:=by rw[<-hO];exact Zg w _
 obtain ⟨b0,b1,b2,b3,b4,b5,b6⟩:=hH.cells;have ho:=gd he;have hi:=gd hH;have hD:=gd (λw' (hx:Ext W0 w')=>EV (str n) w' (hE.ext (he.trans hx)) (hp.ext (he.trans hx)) (by rw[YH];omega));have hL:=gd (λw' (hx:Ext W0 w')=>ZgL (.slice A l0.length c) l0 w' (hE.ext (he.trans hx)) (hp.ext (he.trans hx)) (hG.ext (he.trans hx)) (λb hb=>by have:=hQ b hb;unfold AtP.fits at this;omega) (by omega));simp only[Yb] at hD;have hZ:=gd (show RNs w (.slice B kids.length d) kids from hJ);have HY:=gd (λy (hy:y∈kids)=>(⟨hA y hy,(Nds.fits_iff _).1 hS y.nd (by rw[XW];exact ZY hy),(by
  have:=Zbe (x:=y.nd) (l:=Nc.nds kids) (by rw[XW];exact ZY hy);omega)⟩:RdN w y/\y.nd.fits N/\y.nd.ht<=h))
 have hX:=gd ih;have hM:=gd hE;have h1:=gd hp;have hY:Hid (kids.length<=16777216):=gd (by omega);simp only[cellsN];rw[nodeOk];clear ih gf hG hJ hT hA H hu hS hQ h7 gb gc he hH hE hp;have e1:decide (k=0)=((k:Int)==0):=by
  by_cases h0:k=0
  ·rw[h0];rfl
  ·rw[Ya h0];symm;rw[ZG];omega
 by_cases V:k=0;have q1:((k:Int) !=0)=false:=by rw[V];rfl
 rw[YE V,Xv];by_cases hd:Z<=100;have q2:¬(100:Int)<(Z:Int):=by omega
 rw[YE hd,Xv];cases hs:s.isEmpty;have q3:(str s).toList.isEmpty=false:=by rw[Gj];exact hs
 rw[Yl,Yl,Yl,Yl];clear hs e1 V hc
 rotate_left
 have q3:(str s).toList.isEmpty=true:=by rw[Gj];exact hs
 rw[Xv];cases ht:t.isEmpty;have q4:(str t).toList.isEmpty=false:=by rw[Gj];exact ht
 rw[Yl,Yl,Yl];clear ht hs e1 V hc
 rotate_left
 ·have q4:(str t).toList.isEmpty=true:=by rw[Gj];exact ht
  rw[Xv];have HQ:=hD;clear hD;cases hq:isQ n with
  |true=>
   rw[hq] at HQ;rw[Xv];have HA:=hL;clear hL;cases ha:attrsOk l0 [] with
   |true=>
    rw[ha] at HA;rw[Xv];obtain ⟨R,hR⟩:∃R,kidsOk Z false (Nc.nds kids)=R:=⟨_,rfl⟩;rw[hR];have HR:Hid (kidsOk Z false ((Nc.nds kids).drop 0)=R):=hR;clear hR ha hq ht hs e1 V hc;go_enter func125,ntmps125
    go_wp2_with (first|(go_at_call 175;(with_reducible refine Za (HQ.out _ (Ext.refl _)) ?_);rintro e w3 ⟨rfl,J⟩;obtain ⟨d0,d1,d2,d3,d4,d5,d6⟩:=(hi.out.ext J).cells)|(go_at_call 176;(with_reducible refine Za (HA.out _ J) ?_);rintro e w4 ⟨rfl,hg⟩;obtain ⟨e0,e1,e2,e3,e4,e5,e6⟩:=(hi.out.ext (J.trans hg)).cells))
    have h2:=gd (ho.out.trans (J.trans hg));clear d0 d1 d2 d3 d4 d5 d6 e0 e1 e2 e3 e4 e5 e6 b0 b1 b2 b3 b4 b5 b6 J hg;go_loopw [5,40] (λu v wr=>∃j:Nat,j<=kids.length/\v=nI j/\(∃dt:Bool,u= .bool dt/\Hid (kidsOk Z dt ((Nc.nds kids).drop j)=R))/\Ext w wr) (λ_ v _=>kids.length - (intOf v).toNat)
    case atStart=>exact ⟨0,Zh _,rfl,⟨false,rfl,HR⟩,h2.out⟩
    case round=>
     obtain ⟨j,hj,rfl,⟨dt,rfl,hr⟩,hw⟩:=hrel;by_cases hl:j<kids.length;obtain ⟨ad,c',hv,ha⟩:=(RNs.ext hZ.out hw).at hl;injection hv with hv1 hv2 hv3;subst hv1;clear hv2 hv3;have h6:=hY.out;have gk:(0:Int)<=(j:Int):=(by omega);have go:(j:Int)<(kids.length:Int):=(by omega);obtain ⟨hh,U,hK⟩:=HY.out kids[j] (ZE hl);have F:=hr.out;rw[ZfR hl] at F;obtain ⟨y,hW⟩:∃y,kids[j]=y:=⟨_,rfl⟩;rw[hW] at ha hh U hK F;have Y:=gd (λw' (hx:Ext w w') (h4:Z+1<=101)=>hX.out y (Z+1) w' hK U h4 (hM.out.ext hx) (h1.out.ext hx) (RdN.ext hx _ hh));obtain ⟨yk,ys,yn,gp,yl,gq,D,yt,ya⟩:=y;rw[RdN] at hh;obtain ⟨YA,yc,gg, -, -⟩:=hh.1.form;obtain ⟨YB,yd,gh, -, -⟩:=RNs.form hh.2.1;subst gg;subst gh;rw[Nc.nd] at U F Y;rw[Nd.fits] at U;simp only[cellsN] at Y;obtain ⟨a0,a1,a2,a3,a4,a5,a6⟩:=ha;simp only[Nc.kind,Nc.space,Nc.name,Nc.al,Nc.ks,Nc.text,Nc.at_] at a0 a1 a2 a3 a4 a5 a6;have hB:yk<=1:=U.1;have hC:yt.length<=16777216:=(by have:=U.2.2.2.2.2.2.1;omega);have gj:¬9223372036854775807<ys.length+yn.length:=(by have:=U.2.1;have:=U.2.2.1;omega);have gm:yl.length<=16777216:=(by have:=U.2.2.2.1;omega);have gl:D.length<=16777216:=(by have:=U.2.2.2.2.2.1;rw[Je] at this;omega);have HC:=gd (λw' (hx:Ext w w')=>Zcy (str yt) w' (hM.out.ext hx) (by rw[YH];exact hC));simp only[Yb] at HC;obtain ⟨W2,hf⟩:∃W2,wr.alloc (.cells #[nI (yk:Nat),.string (str ys),.string (str yn),.slice YA yl.length yc,.slice YB D.length yd,.string (str yt),nI (ya:Nat)] 25)=W2:=⟨_,rfl⟩;have hV:Ext wr W2:=(by rw[<-hf];exact (Ext.refl wr).alloc _);have hI:BxN W2 wr.heap.size yk ys yn (.slice YA yl.length yc) (.slice YB D.length yd) yt ya:=(by rw[<-hf];exact Zg wr _);obtain ⟨c0,c1,c2,c3,c4,c5,c6⟩:=hI.cells;have K:=gd hV;have hk:=gd hI;have Q:=gd hw;have hF:(Nc.nds D).isEmpty=D.isEmpty:=(by cases D<;>(rw[Nc.nds];rfl));clear hh U hK hV hI hw hr hC hW;by_cases hm:yk=1;rw[ZfA (x:=Nd.mk yk ys yn yl (Nc.nds D) yt ya) hm] at F;simp only[Nd.text,Nd.space,Nd.name,Nd.attrs,Nd.kids] at F;rw[hF] at F;have gi:((yk:Int)==1)=true:=(by rw[hm];rfl);clear hm Y hB hF;cases dt;cases hte:yt.isEmpty;have q5:(str yt).toList.isEmpty=false:=(by rw[Gj];exact hte);rw[hte] at F;cases hch:charsOk yt;rw[hch] at F HC;have S:false=R:=(by rw[<-F];simp);subst S;clear F HR hte hch
     rotate_left
     rw[hch] at F HC;have hP:=ZiA (a:=ys) (b:=yn);cases hcb:(ys.isEmpty && yn.isEmpty);rw[hcb] at hP;have X:=F;simp only[Bool.not_false,Xv] at X;have S:false=R:=(by rw[<-X];revert hcb;cases ys.isEmpty<;>cases yn.isEmpty<;>simp);subst S;clear F X HR hte hch hcb
     rotate_left
     ·rw[hcb] at hP;have X:=F;simp only[Bool.not_false,Xv] at X;by_cases hz:yl.length+D.length=0
      ·have ge:¬(0:Int)<(yl.length:Int)+(D.length:Int):=(by omega);have h8:yl= []:=Zr (by omega);have h9:D= []:=Zr (by omega);have HN:Hid (kidsOk Z true ((Nc.nds kids).drop (j+1))=R):=gd (by
        rw[<-X,h8,h9];revert hcb;cases ys.isEmpty<;>cases yn.isEmpty<;>simp)
       clear F X hte hch hcb h8 h9 hz
       go_wp2_with (first|(refine Zf rfl 25 (.tmp 7) (.tmp 43) rfl wr.heap.size _ rfl rfl _ _ (Zg _ _) ZJ rfl YR ?_;rw[Z0];rw[hf])|(go_at_call 177;(with_reducible refine Za (HC.out _ (Q.out.trans K.out)) ?_);rintro e w6 ⟨rfl,I⟩;obtain ⟨f0,f1,f2,f3,f4,f5,f6⟩:=(hk.out.ext I).cells))
       go_roundw
       case rel=>exact ⟨j+1,hl,by go_num,⟨true,rfl,HN⟩,(Q.out.trans K.out).trans I⟩
       case measure=>simp[intOf];omega
      ·have ge:(0:Int)<(yl.length:Int)+(D.length:Int):=(by omega);have S:false=R:=by
        rw[<-X];have h8:(yl.isEmpty && D.isEmpty)=false:=by
         cases yl with
         |nil=>cases D with
          |nil=>exact absurd rfl hz
          |cons _ _=>rfl
         |cons _ _=>rfl
        revert hcb h8;cases ys.isEmpty<;>cases yn.isEmpty<;>cases yl.isEmpty<;>cases D.isEmpty<;>simp
       subst S;clear F X HR hte hch hcb hz
       go_wp2_with (first|(refine Zf rfl 25 (.tmp 7) (.tmp 43) rfl wr.heap.size _ rfl rfl _ _ (Zg _ _) ZJ rfl YR ?_;rw[Z0];rw[hf])|(go_at_call 177;(with_reducible refine Za (HC.out _ (Q.out.trans K.out)) ?_);rintro e w6 ⟨rfl,I⟩;obtain ⟨f0,f1,f2,f3,f4,f5,f6⟩:=(hk.out.ext I).cells))
       go_ret;exact ⟨rfl,(Q.out.trans K.out).trans I⟩
     ·have q5:(str yt).toList.isEmpty=true:=(by rw[Gj];exact hte);rw[hte] at F;have S:false=R:=(by rw[<-F];simp);subst S;clear F HR hte;go_wp2;go_ret;exact ⟨rfl,Q.out.trans K.out⟩
     ·have S:false=R:=(by rw[<-F];simp);subst S;clear F HR;go_wp2;go_ret;exact ⟨rfl,Q.out.trans K.out⟩
     ·rw[Zfz (x:=Nd.mk yk ys yn yl (Nc.nds D) yt ya) hm] at F;have gi:((yk:Int)==1)=false:=(by rw[ZG];omega);have hn:=gd (λw' (hx:Ext w w')=>Y.out w' hx (by omega));rw[Int.natCast_add] at hn;obtain ⟨vb,hU⟩:∃vb,nodeOk (Z+1) (Nd.mk yk ys yn yl (Nc.nds D) yt ya)=vb:=⟨_,rfl⟩;rw[hU] at hn F;clear hm Y hB hU HC hF;cases vb with
      |false=>
       have S:false=R:=(by rw[<-F];simp);subst S;clear F HR
       go_wp2_with (first|(refine Zf rfl 25 (.tmp 7) (.tmp 43) rfl wr.heap.size _ rfl rfl _ _ (Zg _ _) ZJ rfl YR ?_;rw[Z0];rw[hf])|(go_at_call 125;(have hz:=hn.out W2 (Q.out.trans K.out));(with_reducible refine Za hz ?_);clear hz;rintro e w6 ⟨rfl,I⟩;obtain ⟨f0,f1,f2,f3,f4,f5,f6⟩:=(hk.out.ext I).cells))
       go_ret;exact ⟨rfl,(Q.out.trans K.out).trans I⟩
      |true=>
       have HN:Hid (kidsOk Z false ((Nc.nds kids).drop (j+1))=R):=gd F;clear F
       go_wp2_with (first|(refine Zf rfl 25 (.tmp 7) (.tmp 43) rfl wr.heap.size _ rfl rfl _ _ (Zg _ _) ZJ rfl YR ?_;rw[Z0];rw[hf])|(go_at_call 125;(have hz:=hn.out W2 (Q.out.trans K.out));(with_reducible refine Za hz ?_);clear hz;rintro e w6 ⟨rfl,I⟩;obtain ⟨f0,f1,f2,f3,f4,f5,f6⟩:=(hk.out.ext I).cells))
       go_roundw
       case rel=>exact ⟨j+1,hl,by go_num,⟨false,rfl,HN⟩,(Q.out.trans K.out).trans I⟩
       case measure=>simp[intOf];omega
     ·have h5:j=kids.length:=(by omega);have F:=hr.out;rw[Zs (by rw[Je];omega),kidsOk] at F;subst F;subst h5;clear HR hr;go_wp2;go_ret;exact ⟨rfl,hw⟩
     all_goals
      go_wp2_with (first|(go_at_call 177;(with_reducible refine Za (HC.out _ (Q.out.trans K.out)) ?_);rintro e w6 ⟨rfl,I⟩;obtain ⟨f0,f1,f2,f3,f4,f5,f6⟩:=(hk.out.ext I).cells))
      go_ret
      exact ⟨rfl,(Q.out.trans K.out).trans I⟩
   |false=>
    rw[ha] at HA;rw[Yl];clear ha hq ht hs e1 V hc;go_enter func125,ntmps125
    go_wp2_with (first|(go_at_call 175;(with_reducible refine Za (HQ.out _ (Ext.refl _)) ?_);rintro e w3 ⟨rfl,J⟩;obtain ⟨d0,d1,d2,d3,d4,d5,d6⟩:=(hi.out.ext J).cells)|(go_at_call 176;(with_reducible refine Za (HA.out _ J) ?_);rintro e w4 ⟨rfl,hg⟩;obtain ⟨e0,e1,e2,e3,e4,e5,e6⟩:=(hi.out.ext (J.trans hg)).cells))
    go_ret;exact ⟨rfl,ho.out.trans (J.trans hg)⟩
  |false=>
   rw[hq] at HQ;rw[Yl,Yl];clear hq ht hs e1 V hc;go_enter func125,ntmps125
   go_wp2_with (first|(go_at_call 175;(with_reducible refine Za (HQ.out _ (Ext.refl _)) ?_);rintro e w3 ⟨rfl,J⟩;obtain ⟨d0,d1,d2,d3,d4,d5,d6⟩:=(hi.out.ext J).cells))
   go_ret;exact ⟨rfl,ho.out.trans J⟩
 have q2:(100:Int)<(Z:Int):=by omega
 rw[Ya hd];rw[Yl,Yl,Yl,Yl,Yl];clear e1 V hc hd
 rotate_left
 have q1:((k:Int) !=0)=true:=by rw[Xl];omega
 rw[Ya V];rw[Yl,Yl,Yl,Yl,Yl,Yl];clear e1 V hc
 all_goals
  go_enter func125,ntmps125
  go_wp2
  go_ret
  exact ⟨rfl,ho.out⟩
theorem ZeA (N:Nat) (X:N<=4000000) (x:Nc) (w:Wq) (U:x.nd.fits N) (V:Env w) (K:NmTabs w) (Q:RdN w x):
 Calls prog 81 #[.agg (cellsN x).toArray] w λe w'=>e= .returned (nI (if nodeOk 1 x.nd then 0 else 22))/\Ext w w':=by
 have J:=λw' (F:Ext w w')=>Zki N X x.nd.ht x 1 w' (Zb _) U (by omega) (V.ext F) (K.ext F) (RdN.ext F _ Q);have R:=RdN.sl Q;obtain ⟨b,S⟩:∃b,nodeOk 1 x.nd=b:=⟨_,rfl⟩;rw[S] at J|-;clear S U Q;obtain ⟨k,s,n,al,l0,ks,kids,t,a⟩:=x;obtain ⟨⟨A,Y,c,h⟩,⟨B,Z,d,D⟩⟩:=R;simp only[Nc.al,Nc.ks] at h D;subst h;subst D;simp only[cellsN] at J|-;have H:=gd J;clear J;have I:=(Ext.refl w).alloc (.cells #[nI (k:Nat),.string (str s),.string (str n),.slice A Y c,.slice B Z d,.string (str t),nI (a:Nat)] 25);cases b
 rotate_left
 all_goals
  go_enter func81,ntmps81
  go_wp2_with (first|(go_at_call 125;(with_reducible refine Za (H.out _ I) ?_);rintro e w' ⟨rfl,F⟩))
  go_ret
  exact ⟨rfl,I.trans F⟩
end
section
variable {T:TypeId}
theorem Qw (hT:BT T) (B b:Nat) (bs:List Value) (s:ByteArray) (w:Wq) (h:Lib.IsBuilder T 5 B b bs w) (he:bs.length+s.size<=140737488355328) (hg:B<=w.heap.size):
 Calls prog 54 #[.pointer (some ⟨b,0,none⟩),.string s] w λe w'=>e= .returned (.tuple #[nI s.size,.nilIface])/\(Lib.BuilderAt T 5 B b (.pointer (some ⟨b,0,none⟩)) (bs++Lib.strCells s) w'/\Below B w w'/\KeepsT T w w'):=by
 obtain ⟨i0,hi,hb,hc,hd⟩:=Yu Gq;go_enter func54,ntmps54
 go_wp2_with (go_at_call 95;refine (Uz hT B b bs _ h).mono ?_)
 rintro e w1 ⟨rfl,h1,K,V⟩;obtain ⟨hB,v,F,H,ha⟩:=h1;have c0:w1.cell? ⟨b,0,none⟩=some (.pointer (some ⟨b,0,none⟩)):=by rw[Zq F];rfl
 have c1:w1.cell? ⟨b,1,none⟩=some v:=by rw[Zq F];rfl
 go_wp2_with (at_builtin;refine Lib.wpList_append_own_string _ rfl _ _ 94 9 rfl B 5 i0 underlying94 underlying9 hi hb hc hd _ _ _ rfl H s rfl ?c3 ?c4 ?c5 ?_)
 case c3=>unfold maxLen;omega
 case c4=>omega
 case c5=>have:=K.size;omega
 intro v' w2 I A _;have Z:b<w1.heap.size:=by
  rcases Y6 b w1.heap.size with S|S
  ·exact S
  ·simp[Y1 S] at F
 have J:w2.heap[b]? =some (.cells #[.pointer (some ⟨b,0,none⟩),v] T (0,0)):=by rw[A.block b Z (λe=>ha e.symm)];exact F
 have d0:w2.cell? ⟨b,0,none⟩=some (.pointer (some ⟨b,0,none⟩)):=by rw[Zq J];rfl
 have d1:w2.cell? ⟨b,1,none⟩=some v:=by rw[Zq J];rfl
 have f1:w2.frozen? ⟨b,1,none⟩=false:=Z1 J 1;obtain ⟨ao,n',cap,rfl⟩:∃ao n' cap,v'= .slice ao n' cap:=by
  rcases I.2 with ⟨hv,_⟩|⟨g,cap,hf,hv,_⟩
  ·exact ⟨_,_,_,hv⟩
  ·exact ⟨_,_,_,hv⟩
 go_wp2
 go_ret2
 refine ⟨rfl,?_,?_,?_⟩
 ·exact Lib.BuilderAt.put (T:=T) (e:=5) hB J (bs':=bs++Lib.strCells s) (by simpa [Lib.strCells_length] using I) hT.ne
 ·exact (K.grown A (by have:=K.size;omega) (λk U=>(H.lt k U).1)).setCell (p:=⟨b,1,none⟩) hB _
 ·intro k cs t fr U Q R;have D:=V k cs t fr U Q R;have X:k≠b:=by rintro rfl;rw[F] at D;simp only[Y8,Obj.cells.injEq] at D;exact Q D.2.1.symm
  have Y:k<w1.heap.size:=(Zv.1 D).1;rw[Below.heap_setCell _ _ _ _ (λe=>X (by simpa using e))];rw[A.block k Y (λe=>Lib.ownBlock_ne H D R e.symm)];exact D
structure BKeep (B:Nat) (w w':Wq):Prop where
 below:Below B w w'
 keeps:KeepsT 96 w w'
theorem BKeep.trans {B:Nat} {a b c:Wq} (h:BKeep B a b) (A:BKeep B b c):BKeep B a c:=⟨h.below.trans A.below,λk cs t fr H D F=>A.keeps k cs t fr (h.keeps k cs t fr H D F) D F⟩
theorem BKeep.of_ext {B:Nat} {a b:Wq} (h:Ext a b) (A:B<=a.heap.size):BKeep B a b:=⟨Zio h.below A,λk cs t fr D _ _=>h.heap D⟩
theorem BKeep.then_ext {B:Nat} {a b c:Wq} (h:BKeep B a b) (A:Ext b c) (D:B<=a.heap.size):BKeep B a c:=h.trans (BKeep.of_ext A (Zt D h.below.size))
theorem BKeep.ext {B:Nat} {z a b:Wq} (h:Ext z a) (A:BKeep B a b) (D:z.heap.size<=B):Ext z b:=h.then (Zio A.below D)
theorem BKeep.size {B:Nat} {a b:Wq} (h:BKeep B a b) (A:B<=a.heap.size):B<=b.heap.size:=Zt A h.below.size
theorem bwS (B b:Nat) (l:List UInt8) (s:ByteArray) (w:Wq) (h:Lib.IsBuilder 96 5 B b (Lib.byteCells l) w) (A:l.length+s.size<=140737488355328) (D:B<=w.heap.size):
 Calls prog 54 #[.pointer (some ⟨b,0,none⟩),.string s] w λe w'=>e= .returned (.tuple #[nI s.size,.nilIface])/\Lib.IsBuilder 96 5 B b (Lib.byteCells (l++s.data.toList)) w'/\BKeep B w w':=
 (Qw VE B b _ s w h (by rw[Lib.byteCells_length];exact A) D).mono λ_ _ ⟨F,H,I,J⟩=>⟨F,(by rw[YM];exact Or.inr H),I,J⟩
theorem bwB (B b:Nat) (l:List UInt8) (c:UInt8) (w:Wq) (h:Lib.IsBuilder 96 5 B b (Lib.byteCells l) w) (A:l.length+1<=140737488355328) (D:B<=w.heap.size):
 Calls prog 62 #[.pointer (some ⟨b,0,none⟩),.int .u8 (c.toNat:Nat)] w λe w'=>e= .returned .nilIface/\Lib.IsBuilder 96 5 B b (Lib.byteCells (l++ [c])) w'/\BKeep B w w':=
 (Gy VE B b _ _ w h (by rw[Lib.byteCells_length];exact A) D).mono λ_ _ ⟨F,H,I,J⟩=>⟨F,(by rw[YM];exact Or.inr H),I,J⟩
end
section
variable {j:Nat}
theorem GW:∀a b:List AtP,attrsW (a++b)=attrsW a++attrsW b
 | [],b=>rfl
 |x::t,b=>by
  show attrW x++attrsW (t++b)=(attrW x++attrsW t)++attrsW b
  rw[GW t b,ZQ]
theorem ZeJ {l:List AtP} (h:j<l.length):attrsW (l.take (j+1))=attrsW (l.take j)++attrW l[j]:=by
 rw[Zn h,GW]
 congr 1
 show attrW _++ []=_;rw[ZX]
theorem Ziv (l:List AtP) (j:Nat):(attrsW (l.take j)).length<=(attrsW l).length:=by
 have h:attrsW l=attrsW (l.take j)++attrsW (l.drop j):=by rw[<-GW,Yy]
 rw[h,Zc];omega
theorem Kc:∀a b:List Nd,nodesW (a++b)=nodesW a++nodesW b
 | [],b=>by rw[Yt,nodesW,Yt]
 |x::t,b=>by rw[YD,nodesW,nodesW,Kc t b,ZQ]
theorem ZfU {l:List Nc} (h:j<l.length):nodesW ((Nc.nds l).take (j+1))=nodesW ((Nc.nds l).take j)++nodeW l[j].nd:=by
 have A:j<(Nc.nds l).length:=by rw[Je];exact h
 have e:(Nc.nds l)[j]=l[j].nd:=by simp only[XW,XD]
 rw[Zn A,Kc,e]
 congr 1
 rw[nodesW,nodesW,ZX]
theorem ZjJ (l:List Nd) (j:Nat):(nodesW (l.take j)).length<=(nodesW l).length:=by
 have h:nodesW l=nodesW (l.take j)++nodesW (l.drop j):=by rw[<-Kc,Yy]
 rw[h,Zc];omega
def AbX (w:Wq) (g:Nat) (x:AtP):Prop:=w.heap[g]? =some (.cells #[.string (str x.space),.string (str x.name),.string (str x.value),nI (x.at_:Nat)] 88 (0,0))
theorem AbX.ext {w w':Wq} {g:Nat} {x:AtP} (h:AbX w g x) (A:Ext w w'):AbX w' g x:=A.heap h
theorem AbX.cells {w:Wq} {g:Nat} {x:AtP} (h:AbX w g x):w.cell? ⟨g,0,none⟩=some (.string (str x.space))/\w.cell? ⟨g,1,none⟩=some (.string (str x.name))/\w.cell? ⟨g,2,none⟩=some (.string (str x.value))/\w.cell? ⟨g,3,none⟩=some (nI (x.at_:Nat)):=
 ⟨(Zq h _).trans rfl,(Zq h _).trans rfl,(Zq h _).trans rfl,(Zq h _).trans rfl⟩
def FnAt (w:Wq) (fb bb:Nat):Prop:=w.heap[fb]? =some (.cells #[.func (.func 82) #[] #[.pointer (some ⟨bb,0,none⟩),.pointer (some ⟨fb,0,none⟩)]] 133 (0,0))
theorem FnAt.cell {w:Wq} {fb bb:Nat} (h:FnAt w fb bb):w.cell? ⟨fb,0,none⟩=some (.func (.func 82) #[] #[.pointer (some ⟨bb,0,none⟩),.pointer (some ⟨fb,0,none⟩)]):=(Zq h _).trans rfl
section
variable {B:Nat} {w w':World}
theorem BKeep.fn {fb bb:Nat} (h:BKeep B w w') (A:FnAt w fb bb):FnAt w' fb bb:=h.keeps _ _ _ _ A (by decide) (by decide)
theorem BKeep.box {g k:Nat} {s n t:List UInt8} {al ks:Value} {a:Nat} (h:BKeep B w w') (A:BxN w g k s n al ks t a):BxN w' g k s n al ks t a:=h.keeps _ _ _ _ A (by decide) (by decide)
end
theorem Zkn (N:Nat) (hN:N<=4000000):∀(h:Nat) (x:Nc) (z w:Wq) (B bb fb:Nat) (l:List UInt8),x.nd.ht<=h->x.nd.fits N->RdN z x->Ext z w->z.heap.size<=B->B<=w.heap.size->FnAt w fb bb->
 Lib.IsBuilder 96 5 B bb (Lib.byteCells (l)) w->l.length+(nodeW x.nd).length<=140737488355328->
 Calls prog 82 #[.agg (cellsN x).toArray,.pointer (some ⟨bb,0,none⟩),.pointer (some ⟨fb,0,none⟩)] w λe w'=>e= .returned (.tuple #[])/\Lib.IsBuilder 96 5 B bb (Lib.byteCells (l++nodeW x.nd)) w'/\BKeep B w w':=by
 intro h
 induction h with
 |zero=>intro x z w B bb fb l hC;exact absurd (Zhb x.nd) (by omega)
 |succ h ih=>
 intro x z w B bb fb l hC I hr gu gt hg hB hb D;obtain ⟨k,s,n,al,l0,ks,kids,t,a⟩:=x;rw[RdN] at hr;obtain ⟨hX,h2,gk⟩:=hr;have hJ:=(Xo kids).1 gk;rw[Nc.nd] at hC I D|-;rw[Nd.ht] at hC;rw[Nd.fits] at I;have gi:=I.2.2.2.2.2.2.2.2;have gh:=I.2.2.2.2.1;have X:kids.length<=N:=by have:=I.2.2.2.2.2.1;rwa [Je] at this
 have g0:l0.length<=N:=I.2.2.2.1;have fa:n.length<=N:=I.2.2.1;have hh:k<=1:=I.1;have h3:t.length<=16777216:=by have:=I.2.2.2.2.2.2.1;omega
 obtain ⟨A,c,gS, -, -⟩:=hX.form;obtain ⟨B0,d,gY, -, -⟩:=RNs.form h2;subst gS;subst gY;obtain ⟨W0,gf⟩:∃W0,w.alloc (.cells #[nI (k:Nat),.string (str s),.string (str n),.slice A l0.length c,.slice B0 kids.length d,.string (str t),nI (a:Nat)] 25)=W0:=⟨_,rfl⟩;have he:Ext w W0:=by rw[<-gf];exact (Ext.refl w).alloc _
 have hY:BxN W0 w.heap.size k s n (.slice A l0.length c) (.slice B0 kids.length d) t a:=by rw[<-gf];exact Zg w _
 obtain ⟨b0,b1,b2,b3,b4,b5,b6⟩:=hY.cells;have g7:=gd he;have hs:=gd hY;have h6:=gd (Us hb he);have gG:=gd (show FnAt W0 fb bb from he.heap hB);have hl:=gd (gu.trans he);have hw:=gd gt;have S:=gd (Zt hg he.size);have gE:=gd hg;have hO:=gd (BKeep.of_ext he hg);have gy:=gd hX;have gN:=gd (show RNs z (.slice B0 kids.length d) kids from h2);have HY:=gd (λy (hy:y∈kids)=>(⟨hJ y hy,(Nds.fits_iff _).1 gi y.nd (by rw[XW];exact ZY hy),(by
  have:=Zbe (x:=y.nd) (l:=Nc.nds kids) (by rw[XW];exact ZY hy);omega)⟩:RdN z y/\y.nd.fits N/\y.nd.ht<=h))
 have gI:=gd ih;have gM:Hid (kids.length<=16777216):=gd (by omega);have gO:Hid (l0.length<=16777216):=gd (by omega);have gF:Hid (∀b∈l0,b.name.length<=16777216/\b.value.length<=16777216):=gd (λb hb=>by have:=gh b hb;unfold AtP.fits at this;omega);simp only[cellsN];clear ih hX h2 gk hJ I hC gi gh X g0 he hY gu gt hg hB hb;by_cases hp:k=1
 ·rw[nodeW,Zi hp] at D|-;have q1:((k:Int)==1)=true:=by rw[hp];rfl
  have HT:=gd (λw'=>ZgD (str t) w' (by rw[YH];exact h3));simp only[Yb] at HT;have hf:=gd D;clear hp hh D h3;go_enter func82,ntmps82
  go_wp2_with (first|(go_at_call 83;(with_reducible refine Za (HT.out _) ?_);rintro e w2 ⟨rfl,J⟩)|(go_at_call 54;refine Za (bwS B bb l _ _ (Us h6.out J) (by rw[YH];exact hf.out) (Zt S.out J.size)) ?_;rintro e w3 ⟨rfl,gc,gW⟩))
  refine Zy (results_none rfl _ _ _) rfl ?_;rw[Yb] at gc;exact ⟨rfl,gc,(hO.out.then_ext J gE.out).trans gW⟩
 ·rw[nodeW,Ze hp] at D|-;have q1:((k:Int)==1)=false:=by rw[ZG];omega
  obtain ⟨R,hR⟩:∃R,[60]++n++attrsW l0++(if (Nc.nds kids).isEmpty then [47,62] else [62]++nodesW (Nc.nds kids)++ [60,47]++n++ [62])=R:=⟨_,rfl⟩;rw[hR] at D|-;have ge:1+n.length+(attrsW l0).length<=R.length:=by rw[<-hR];simp only[Zc,Zd,ZM];omega
  have HR:=gd hR;have gP:=gd ge;have hf:=gd D;have g4:¬9223372036854775807<1+n.length:=by omega
  have g5:¬9223372036854775807<2+n.length:=by omega
  have g6:¬9223372036854775807<2+n.length+1:=by omega
  clear hp hh h3 hR;go_enter func82,ntmps82;have gl:l.length+((⟨#[60]⟩:ByteArray)++str n).size<=140737488355328:=by simp only[Zb7,YH];show l.length+(1+n.length)<=_;omega
  go_wp2_with (go_at_call 54;refine Za (bwS B bb l _ W0 h6.out gl S.out) ?_;rintro e w1 ⟨rfl,hU,hh⟩;obtain ⟨d0,d1,d2,d3,d4,d5,d6⟩:=(BKeep.box hh hs.out).cells)
  simp only[VG,Yb] at hU;have gA:=gd (show Lib.IsBuilder 96 5 B bb (Lib.byteCells (l++([60]++n))) w1 from hU);have gJ:=gd hh;clear hU hh D gl ge b0 b1 b2 b3 b4 b5 b6;go_loopw [22] (λv wr=>∃j:Nat,j<=l0.length/\v=nI j/\Lib.IsBuilder 96 5 B bb (Lib.byteCells (l++([60]++n)++attrsW (l0.take j))) wr/\BKeep B W0 wr) (λv _=>l0.length - (intOf v).toNat)
  case atStart=>exact ⟨0,Zh _,rfl,(by rw[List.take_zero];show Lib.IsBuilder 96 5 B bb (Lib.byteCells (l++([60]++n)++ [])) w1;rw[ZX];exact gA.out),gJ.out⟩
  case round=>
   obtain ⟨j,hj,rfl,Q,H⟩:=hrel;by_cases U:j<l0.length
   ·obtain ⟨ad,c',hv,hm⟩:=(RAts.ext gy.out (BKeep.ext hl.out H hw.out)).at U;injection hv with hv1 hv2 hv3;subst hv1;clear hv2 hv3;have D:=hf.out;have hd:=Ziv l0 (j+1);have F:=ZeJ U;rw[F,Zc] at hd;have V:=gF.out _ (ZE U);obtain ⟨x,gp⟩:∃x,l0[j]=x:=⟨_,rfl⟩;rw[gp] at hm hd F V;obtain ⟨a0,a1,a2,a3⟩:=hm;have ho:=BKeep.size H S.out;obtain ⟨W2,hc⟩:∃W2,wr.alloc (.cells #[.string (str x.space),.string (str x.name),.string (str x.value),nI (x.at_:Nat)] 88)=W2:=⟨_,rfl⟩;have J:Ext wr W2:=(by rw[<-hc];exact (Ext.refl wr).alloc _);have gR:AbX W2 wr.heap.size x:=(by rw[<-hc];exact Zg wr _);have gb:=gd J;have gx:=gd gR;have hT:=gd (λw'=>ZgC (str x.value) w' (by rw[YH];exact V.2));simp only[Yb] at hT;have go:=Et true x.value;have gT:(attrW x).length=1+x.name.length+2+(wescL true x.value).length+1:=(by unfold attrW;simp only[Zc,Zd,ZM]);have hQ:=gd F;have gD:=gd (Us Q J);have hk:=gd H;have gm:(l++([60]++n)++attrsW (l0.take j)).length+(1+x.name.length+2+(wescL true x.value).length+1)<=140737488355328:=(by have fc:=gP.out;simp only[Zc,Zd,ZM] at D|-;omega);have h9:=gd gm;obtain ⟨E,hE⟩:∃E,wescL true x.value=E:=⟨_,rfl⟩;have gg: [32]++x.name++ [61,34]++E++ [34]=attrW x:=(by rw[<-hE];rfl);have gz:=gd gg;rw[hE] at hT go h9;have o1:¬9223372036854775807<1+x.name.length:=(by have:=V.1;omega);have o2:¬9223372036854775807<1+x.name.length+2:=(by have:=V.1;omega);have o3:¬9223372036854775807<1+x.name.length+2+E.length:=(by have:=V.1;have:=V.2;omega);have o4:¬9223372036854775807<1+x.name.length+2+E.length+1:=(by have:=V.1;have:=V.2;omega);have hi:=gd ho;have gU:(0:Int)<=(j:Int):=(by omega);have gV:(j:Int)<(l0.length:Int):=(by omega);have g9:l0.length<=16777216:=gO.out;clear hd F V gp D gT go gg hE Q H ho gm
    go_wp2_with (first|(refine Zf rfl 88 (.tmp 5) (.tmp 25) rfl wr.heap.size _ rfl rfl _ _ (Zg _ _) size_attr rfl YR ?_;rw[Z0];rw[hc]))
    refine rN ?_;change wpAny _ _ _ _ _ _ _ (World.drew _);have hG:=(Ext.refl W2).drew;have Z:=gx.out.ext hG;refine Yx (λw'=>AbX w' wr.heap.size x) ?_;refine tG 0 (.pointer (some ⟨wr.heap.size,1,none⟩)) Z ?_;refine tS 1 (.string (str x.name)) rfl (λw' hS=>by obtain ⟨q0,q1,q2,q3⟩:=AbX.cells hS;go_simp) Z ?_;refine tG 2 (.string (⟨#[32]⟩++str x.name)) Z ?_;refine tG 3 (.string (⟨#[32]⟩++str x.name++⟨#[61,34]⟩)) Z ?_;refine tG 4 (.pointer (some ⟨wr.heap.size,2,none⟩)) Z ?_;refine tS 5 (.string (str x.value)) rfl (λw' hS=>by obtain ⟨q0,q1,q2,q3⟩:=AbX.cells hS;go_simp) Z ?_;go_simp;refine sS 6 λK hK=> ?_;go_simp;go_at_call 84;have hz:=hT.out W2.drew
    with_reducible refine Za hz ?_
    clear hz;rintro e w3 ⟨rfl,hF⟩;have hx:=Z.ext hF;refine hK _ _ hx ?_;clear hK K;refine sS 7 λK hK=> ?_;go_simp;refine hK _ _ hx ?_;clear hK K;refine sS 8 λK hK=> ?_;go_simp;refine hK _ _ hx ?_;clear hK K;refine sS 9 λK hK=> ?_;go_simp;go_at_call 54;refine Za (bwS B bb (l++([60]++n)++attrsW (l0.take j)) _ w3 (Us gD.out (hG.trans hF)) (by simp only[Zb7,YH];exact h9.out) (Zt hi.out (gb.out.trans (hG.trans hF)).size)) ?_;rintro e w4 ⟨rfl,hV,gj⟩;simp only[VG,Yb] at hV;have Y:Lib.IsBuilder 96 5 B bb (Lib.byteCells (l++([60]++n)++attrsW (l0.take (j+1)))) w4:=(by rw[hQ.out,<-gz.out,<-ZQ (l++([60]++n)) (attrsW (l0.take j))];exact hV);have hL:=gd Y;have hM:=gd (hk.out.trans ((BKeep.of_ext (gb.out.trans (hG.trans hF)) hi.out).trans gj));refine hK _ _ (gj.keeps _ _ _ _ hx (by decide) (by decide)) ?_;clear hK K hV Y;refine sE ?_;go_wp2;go_roundw
    case rel=>exact ⟨j+1,U,by go_num,hL.out,hM.out⟩
    case measure=>simp[intOf];omega
   ·have h0:j=l0.length:=(by omega);subst h0;rw[List.take_length] at Q;have hn:=BKeep.box H hs.out;obtain ⟨b0,b1,b2,b3,b4,b5,b6⟩:=hn.cells;have ho:=BKeep.size H S.out;have D:=hf.out;obtain ⟨wP,g1⟩:∃wP:Wq,wP=wr:=⟨_,rfl⟩;subst g1;have hk:=gd H;have hi:=gd ho;clear U hj H ho hn;cases hke:kids.isEmpty with
    |true=>
     have X:kids= []:=UC.1 hke;have ha:R= [60]++n++attrsW l0++ [47,62]:=(by rw[<-HR.out,X,Nc.nds];rfl);have q2:((kids.length:Int)==0)=true:=(by rw[X];rfl);have hD:(l++([60]++n)++attrsW l0).length+(⟨#[47,62]⟩:ByteArray).size<=140737488355328:=(by rw[ha] at D;show _+2<=_;simp only[Zc,Zd,ZM] at D|-;omega);have hP:=gd ha;clear hke X ha D
     go_wp2_with (go_at_call 54;refine Za (bwS B bb (l++([60]++n)++attrsW l0) _ wP Q hD hi.out) ?_;rintro e w5 ⟨rfl,Y,hq⟩)
     refine Zy (results_none rfl _ _ _) rfl ?_;refine ⟨rfl,?_,(hO.out.trans hk.out).trans hq⟩;rw[hP.out];simp only[ZQ] at Y|-;exact Y
    |false=>
     have X:kids≠ []:=λe=>(by rw[e] at hke;cases hke);have ha:R= [60]++n++attrsW l0++([62]++nodesW (Nc.nds kids)++ [60,47]++n++ [62]):=by
      rw[<-HR.out];cases kids with
      |nil=>exact absurd rfl X
      |cons y ys=>rw[Nc.nds];rfl
     have q2:((kids.length:Int)==0)=false:=(by rw[ZG];have:=XE.2 X;omega);have hu:Hid ((l++([60]++n)++attrsW l0).length+1+(nodesW (Nc.nds kids)).length+2+n.length+1<=140737488355328):=gd (by
      rw[ha] at D;simp only[Zc,Zd,ZM] at D|-;omega)
     have hP:=gd ha;obtain ⟨L1,hW⟩:∃L1,l++([60]++n)++attrsW l0=L1:=⟨_,rfl⟩;rw[hW] at Q hu;have ga:=gd hW;have hD:L1.length+1<=140737488355328:=(by have:=hu.out;omega);clear hke X ha D hW
     go_wp2_with (go_at_call 62;refine Za (bwB B bb L1 62 wP Q hD hi.out) ?_;rintro e w5 ⟨rfl,Y,hq⟩;obtain ⟨d0,d1,d2,d3,d4,d5,d6⟩:=(BKeep.box (hk.out.trans hq) hs.out).cells)
     have hM:=gd (hk.out.trans hq);have hL:=gd Y;clear b0 b1 b2 b3 b4 b5 b6 Y hq hD Q;go_loopw [46] (λv wr=>∃j:Nat,j<=kids.length/\v=nI j/\Lib.IsBuilder 96 5 B bb (Lib.byteCells (L1++ [62]++nodesW ((Nc.nds kids).take j))) wr/\BKeep B W0 wr) (λv _=>kids.length - (intOf v).toNat)
     case atStart=>exact ⟨0,Zh _,rfl,(by rw[List.take_zero,nodesW,ZX];exact hL.out),hM.out⟩
     case round=>
      obtain ⟨j,hj,rfl,Q,H⟩:=hrel;by_cases U:j<kids.length
      ·obtain ⟨ad,c',hv,hm⟩:=(RNs.ext gN.out (BKeep.ext hl.out H hw.out)).at U;injection hv with hv1 hv2 hv3;subst hv1;clear hv2 hv3;have gX:=gM.out;have gU:(0:Int)<=(j:Int):=(by omega);have gV:(j:Int)<(kids.length:Int):=(by omega);obtain ⟨hH,h4,h5⟩:=HY.out kids[j] (ZE U);have F:=ZfU U;have hd:=ZjJ (Nc.nds kids) (j+1);rw[F,Zc] at hd;obtain ⟨y,gs⟩:∃y,kids[j]=y:=⟨_,rfl⟩;rw[gs] at hm hH h4 h5 F hd;have gn:(L1++ [62]++nodesW ((Nc.nds kids).take j)).length+(nodeW y.nd).length<=140737488355328:=(by have:=hu.out;simp only[Zc,Zd,ZM];omega);have hI:=gd (λ(w':Wq) (hz:Ext z w') (hg:B<=w'.heap.size) (hB:FnAt w' fb bb) (hb:Lib.IsBuilder 96 5 B bb (Lib.byteCells (L1++ [62]++nodesW ((Nc.nds kids).take j))) w')=>gI.out y z w' B bb fb _ h5 h4 hH hz hw.out hg hB hb gn);have hQ:=gd F;have g2:=RdN.sl hH;obtain ⟨yk,ys,yn,fd,yl,fe,g3,yt,ya⟩:=y;obtain ⟨⟨YA,ym,yc,gq⟩,⟨YB,gw,yd,gr⟩⟩:=g2;simp only[Nc.al,Nc.ks] at gq gr;subst gq;subst gr;simp only[cellsN] at hI;obtain ⟨a0,a1,a2,a3,a4,a5,a6⟩:=hm;simp only[Nc.kind,Nc.space,Nc.name,Nc.al,Nc.ks,Nc.text,Nc.at_] at a0 a1 a2 a3 a4 a5 a6;obtain ⟨W2,hc⟩:∃W2,wr.alloc (.cells #[nI (yk:Nat),.string (str ys),.string (str yn),.slice YA ym yc,.slice YB gw yd,.string (str yt),nI (ya:Nat)] 25)=W2:=⟨_,rfl⟩;have J:Ext wr W2:=(by rw[<-hc];exact (Ext.refl wr).alloc _);have hn:BxN W2 wr.heap.size yk ys yn (.slice YA ym yc) (.slice YB gw yd) yt ya:=(by rw[<-hc];exact Zg wr _);obtain ⟨c0,c1,c2,c3,c4,c5,c6⟩:=hn.cells;have hZ:FnAt W2 fb bb:=J.heap (BKeep.fn H gG.out);have g8:=hZ.cell;have gH:=gd hZ;clear hZ;have h7:=gd (Zt (BKeep.size H S.out) J.size);have gC:=gd (Us Q J);have gQ:=gd ((BKeep.ext hl.out H hw.out).trans J);have gK:=gd (H.then_ext J S.out);clear hH h4 h5 F hd gs gn hn J Q H d0 d1 d2 d3 d4 d5 d6
       go_wp2_with (first|(refine Zf rfl 25 (.tmp 7) (.tmp 49) rfl wr.heap.size _ rfl rfl _ _ (Zg _ _) ZJ rfl YR ?_;rw[Z0];rw[hc])|(go_at_call 82;refine Za (hI.out W2 gQ.out h7.out gH.out gC.out) ?_;rintro e w6 ⟨rfl,hA,h1⟩))
       have gB:=gd (show Lib.IsBuilder 96 5 B bb (Lib.byteCells (L1++ [62]++nodesW ((Nc.nds kids).take (j+1)))) w6 by rw[hQ.out,<-ZQ (L1++ [62])];exact hA);have gL:=gd (gK.out.trans h1);go_roundw
       case rel=>exact ⟨j+1,U,by go_num,gB.out,gL.out⟩
       case measure=>simp[intOf];omega
      ·have h0:j=kids.length:=(by omega);subst h0;rw[ZR (by rw[Je];exact Zb _)] at Q;obtain ⟨b0,b1,b2,b3,b4,b5,b6⟩:=(BKeep.box H hs.out).cells;have gZ:(L1++ [62]++nodesW (Nc.nds kids)).length+((⟨#[60,47]⟩:ByteArray)++str n++(⟨#[62]⟩:ByteArray)).size<=140737488355328:=(by have:=hu.out;simp only[Zb7,YH,Zc,Zd,ZM] at this|-;show _+(2+n.length+1)<=_;omega);have h8:=gd (BKeep.size H S.out);clear U hj d0 d1 d2 d3 d4 d5 d6
       go_wp2_with (go_at_call 54;refine Za (bwS B bb (L1++ [62]++nodesW (Nc.nds kids)) _ wr Q gZ h8.out) ?_;rintro e w6 ⟨rfl,hA,h1⟩)
       go_end0;simp only[VG,Yb] at hA;refine ⟨rfl,?_,(hO.out.trans H).trans h1⟩;rw[hP.out];have e2:l++([60]++n++attrsW l0++([62]++nodesW (Nc.nds kids)++ [60,47]++n++ [62]))=L1++ [62]++nodesW (Nc.nds kids)++([60,47]++n++ [62]):=(by rw[<-ga.out];simp only[ZQ]);rw[e2];exact hA
end
theorem Zi6 (w1:Wq):Lib.IsBuilder 96 5 (w1.heap.size) (w1.heap.size) (Lib.byteCells ([])) (((w1.alloc (.cells #[.pointer none,sN] 96)).alloc (.cells #[.nilFunc] 133)).setCell ⟨w1.heap.size+1,0,none⟩ (.func (.func 82) #[] #[.pointer (some ⟨w1.heap.size,0,none⟩),.pointer (some ⟨w1.heap.size+1,0,none⟩)])):=
 Or.inl ⟨Zb _,sN,(ZZ _ ⟨w1.heap.size+1,0,none⟩ w1.heap.size _ (by show w1.heap.size≠w1.heap.size+1;omega)).trans ((JR _ _ (by rw[Zp];omega)).trans (Zg w1 _)),YL _ _ _ _,by simp[Value.ownBlock]⟩
theorem ZeB (N:Nat) (hN:N<=4000000) (x:Nc) (w:Wq) (hf:x.nd.fits N) (hE:Env w) (X:NmTabs w) (hr:RdN w x) (F:(docW x.nd).length<=140737488355328):
 Calls prog 42 #[.agg (cellsN x).toArray] w λe w'=>e= .returned (.tuple #[.string (str (if nodeOk 1 x.nd then docW x.nd else [])),nI (if nodeOk 1 x.nd then 0 else 22)])/\Ext w w':=by
 have h:=λw' (hx:Ext w w')=>ZeA N hN x w' hf (hE.ext hx) (X.ext hx) (RdN.ext hx _ hr);have hd:docW x.nd=headW++nodeW x.nd++ [10]:=rfl;have hg:headW.length=39:=rfl;have D:=λ(w':Wq) (z:Wq) (B bb fb:Nat) (l:List UInt8) (hx:Ext w z)=>Zkn N hN x.nd.ht x z w' B bb fb l (Zb _) hf (RdN.ext hx _ hr);obtain ⟨R,hR⟩:∃R,nodeW x.nd=R:=⟨_,rfl⟩;rw[hd] at F|-;rw[hR] at D F|-;have hA:R.length+40<=140737488355328:=by simp only[Zc,Zd,ZM] at F;omega
 have hw:=RdN.sl hr;obtain ⟨b,hb⟩:∃b,nodeOk 1 x.nd=b:=⟨_,rfl⟩;rw[hb] at h|-;clear hb hf hr hd hR F hE X;obtain ⟨k,s,n,al,l0,ks,kids,t,a⟩:=x;obtain ⟨⟨A,m1,c,Z⟩,⟨B0,m2,d,hh⟩⟩:=hw;simp only[Nc.al,Nc.ks] at Z hh;subst Z;subst hh;simp only[cellsN] at h D|-;have V:=gd h;have hl:=gd D;obtain ⟨W0,Y⟩:∃W0,w.alloc (.cells #[nI (k:Nat),.string (str s),.string (str n),.slice A m1 c,.slice B0 m2 d,.string (str t),nI (a:Nat)] 25)=W0:=⟨_,rfl⟩;have hi:Ext w W0:=by rw[<-Y];exact (Ext.refl w).alloc _
 have K:BxN W0 w.heap.size k s n (.slice A m1 c) (.slice B0 m2 d) t a:=by rw[<-Y];exact Zg w _
 obtain ⟨b0,b1,b2,b3,b4,b5,b6⟩:=K.cells;have I:=gd hi;have U:=gd K;clear h D hi K;cases b with
 |false=>
  go_enter func42,ntmps42
  go_wp2_with (first|(go_at_call 81;(with_reducible refine Za (V.out _ I.out) ?_);rintro e w1 ⟨rfl,H⟩))
  go_ret2
  exact ⟨rfl,I.out.trans H⟩
 |true=>
  go_enter func42,ntmps42
  go_wp2_with (first|(go_at_call 81;(with_reducible refine Za (V.out _ I.out) ?_);rintro e w1 ⟨rfl,H⟩;obtain ⟨d0,d1,d2,d3,d4,d5,d6⟩:=(U.out.ext H).cells;(have hs:((w1.alloc (.cells #[.pointer none,sN] 96)).alloc (.cells #[.nilFunc] 133)).cell? ⟨w1.heap.size+1,0,none⟩=some .nilFunc:=by rw[Jl (YI w1 _ _)];rfl);(have hq:((w1.alloc (.cells #[.pointer none,sN] 96)).alloc (.cells #[.nilFunc] 133)).frozen? ⟨w1.heap.size+1,0,none⟩=false:=YN (YI w1 _ _) 0);(have hc:=Zi6 w1);(have he:FnAt (((w1.alloc (.cells #[.pointer none,sN] 96)).alloc (.cells #[.nilFunc] 133)).setCell ⟨w1.heap.size+1,0,none⟩ (.func (.func 82) #[] #[.pointer (some ⟨w1.heap.size,0,none⟩),.pointer (some ⟨w1.heap.size+1,0,none⟩)])) (w1.heap.size+1) w1.heap.size:=block_setCell (YI w1 _ _) _);(have J:Ext w1 (((w1.alloc (.cells #[.pointer none,sN] 96)).alloc (.cells #[.nilFunc] 133)).setCell ⟨w1.heap.size+1,0,none⟩ (.func (.func 82) #[] #[.pointer (some ⟨w1.heap.size,0,none⟩),.pointer (some ⟨w1.heap.size+1,0,none⟩)])):=(((Ext.refl w1).alloc _).alloc _).setCell (Yj _) _);(obtain ⟨WB,hp⟩:∃WB,(w1.alloc (.cells #[.pointer none,sN] 96)).alloc (.cells #[.nilFunc] 133)=WB:=⟨_,rfl⟩);rw[hp] at hs hq hc he J)|(go_at_call 54;refine Za (bwS _ _ [] _ _ hc (by show 0+39<=_;omega) J.size) ?_;rintro e w2 ⟨rfl,hm,Q⟩;obtain ⟨e0,e1,e2,e3,e4,e5,e6⟩:=(Q.box ((U.out.ext H).ext J)).cells;(have ha:=Q.fn he);(have hz:=ha.cell);(have S:Ext w1 w2:=BKeep.ext J Q (Zb _)))|(go_at_call 82;refine Za (hl.out w2 w1 w1.heap.size w1.heap.size (w1.heap.size+1) headW (I.out.trans H) S (Zb _) S.size ha hm (by rw[hg];omega)) ?_;rintro e w3 ⟨rfl,hn,hu⟩;(have hj:Ext w1 w3:=S.then hu.below))|(go_at_call 62;refine Za (bwB _ _ _ 10 _ hn (by rw[Zc,hg];omega) hj.size) ?_;rintro e w4 ⟨rfl,ho,hv⟩;(have hk:Ext w1 w4:=hj.then hv.below))|(go_at_call 56;refine Za (JT _ _ _ _ ho hk.size) ?_;rintro e w5 ⟨rfl,hy⟩))
  go_ret2
  exact ⟨rfl,(I.out.trans H).trans (hk.then hy)⟩
section
variable {L:List Fd} {ac kc zt:Nat} {w:World}
theorem ZdX (nm:List UInt8) (v:Value) (l:List Nc) (w:Wq) (F:RNs w v l) (A:∀y∈l,RdN w y/\y.kind=0) (D:l.length<=16777216):Calls prog 44 #[.string (str nm),v] w λe w'=>
 ∃KB kc,e= .returned (.agg #[nI 0,eS,.string (str nm),sN,.slice KB l.length kc,eS,nI 0])/\w'.ownsRow w.heap.size 25 7 (.slice KB l.length kc) l.length (flatN l)/\Ext w w':=by
 refine Za (ZaU nm v l w F A D) ?_;rintro e w' ⟨ks,rfl,h,H⟩;obtain ⟨KB,kc,rfl⟩:=Yf h;exact ⟨KB,kc,rfl,h,H⟩
theorem ZiM (w:Wq):Calls prog 44 #[.string ⟨#[104,101,97,100]⟩,sN] w λe w'=>
 ∃D F,e= .returned (.agg #[nI 0,eS,.string ⟨#[104,101,97,100]⟩,sN,.slice D 0 F,eS,nI 0])/\RNs w' (.slice D 0 F) []/\Ext w w':=
 (ZdX headL sN [] w (RNs.nil w) (by intro y I;cases I) (by decide)).mono λe w' ⟨KB,kc,h,A,H⟩=>⟨KB,kc,h,RSl.of_own A,H⟩
theorem ZiL (v:Value) (kids:List Nc) (w:Wq) (D:RNs w v kids) (h:∀y∈kids,RdN w y/\y.kind=0) (A:kids.length<=16777216):Calls prog 44 #[.string ⟨#[98,111,100,121]⟩,v] w λe w'=>
 ∃KB kc,e= .returned (.agg #[nI 0,eS,.string ⟨#[98,111,100,121]⟩,sN,.slice KB kids.length kc,eS,nI 0])/\w'.ownsRow w.heap.size 25 7 (.slice KB kids.length kc) kids.length (flatN kids)/\Ext w w':=
 ZdX bodyL v kids w D h A
theorem ZiP (v:Value) (kids:List Nc) (w:Wq) (D:RNs w v kids) (h:∀y∈kids,RdN w y/\y.kind=0) (A:kids.length<=16777216):Calls prog 44 #[.string ⟨#[111,112,109,108]⟩,v] w λe w'=>
 ∃RB rc,e= .returned (.agg #[nI 0,eS,.string ⟨#[111,112,109,108]⟩,sN,.slice RB kids.length rc,eS,nI 0])/\w'.ownsRow w.heap.size 25 7 (.slice RB kids.length rc) kids.length (flatN kids)/\Ext w w':=
 ZdX opmlL v kids w D h A
theorem ZlO (w:Wq):RStrs (w.alloc (.cells #[.string ⟨#[118,101,114,115,105,111,110]⟩,.string ⟨#[50,46,48]⟩] 9)) (.slice (some ⟨w.heap.size,0,none⟩) 2 2) (pairS [(versionL,twoL)]):=U5 w (pairS [(versionL,twoL)]) (by show 2<=maxLen;unfold maxLen;omega)
theorem Zkm (RB:Option Addr) (n rc:Nat) (v:Value) (w:Wq) (A:RStrs w v (pairS [(versionL,twoL)])):
 Calls prog 46 #[.agg #[nI 0,eS,.string ⟨#[111,112,109,108]⟩,sN,.slice RB n rc,eS,nI 0],v] w λe w'=>
  ∃AB ac,e= .returned (.agg #[nI 0,eS,.string ⟨#[111,112,109,108]⟩,.slice AB 1 ac,.slice RB n rc,eS,nI 0])/\w'.ownsRow w.heap.size 88 4 (.slice AB 1 ac) 1 (flatA [pairA (versionL,twoL)])/\Ext w w':=by
 refine Za (Zgx 0 [] opmlL sN (.slice RB n rc) [] n rc RB [] 0 v [(versionL,twoL)] w (RAts.nil w) rfl A (by show 0+1<=1000000;omega)) ?_;rintro e w' ⟨al',rfl,h,D⟩;obtain ⟨AB,ac,rfl⟩:=Yf h;exact ⟨AB,ac,rfl,h,D⟩
theorem ZnD {KB:Option Addr} {kids:List Nc}:(#[nI 0,eS,.string ⟨#[98,111,100,121]⟩,sN,.slice KB kids.length kc,eS,nI 0]:Array Value).all (λu=>u.oneCell')=true:=by simp[Value.oneCell']
theorem ZnH {RB AB:Option Addr} {rc:Nat}:(#[nI 0,eS,.string ⟨#[111,112,109,108]⟩,.slice AB 1 ac,.slice RB 2 rc,eS,nI 0]:Array Value).all (λu=>u.oneCell')=true:=by simp[Value.oneCell']
theorem ZmP:(#[nI 0,eS,eS,sN,sN,eS,nI 0]:Array Value).all (λu=>u.oneCell')=true:=by simp[Value.oneCell']
theorem ZnQ {nb:Nat} {KB:Option Addr} {kids:List Nc} (h:w.heap[nb]? =some (.cells #[nI 0,eS,.string ⟨#[98,111,100,121]⟩,sN,.slice KB kids.length kc,eS,nI 0] 25 (0,0))):w.cell? ⟨nb,0,none⟩=some (nI 0)/\w.cell? ⟨nb,1,none⟩=some eS/\w.cell? ⟨nb,2,none⟩=some (.string ⟨#[98,111,100,121]⟩)/\w.cell? ⟨nb,3,none⟩=some sN/\w.cell? ⟨nb,4,none⟩=some (.slice KB kids.length kc)/\w.cell? ⟨nb,5,none⟩=some eS/\w.cell? ⟨nb,6,none⟩=some (nI 0):=by
 refine ⟨?_,?_,?_,?_,?_,?_,?_⟩<;>(rw[Zq h];rfl)
theorem ZmD {AB RB D KB:Option Addr} {rc H:Nat} {kids:List Nc} (I:Nc.nds kids=outsP 66 0 L):(Nc.mk 0 [] opmlL (.slice AB 1 ac) [pairA (versionL,twoL)] (.slice RB 2 rc) [(Nc.mk 0 [] headL sN [] (.slice D 0 H) [] [] 0),(Nc.mk 0 [] bodyL sN [] (.slice KB kids.length kc) kids [] 0)] [] 0).nd=encP L:=by
 have A:elems [elemN headL [],elemN bodyL (outsP 66 0 L)]:=λk h=>by
  rcases ZK.1 h with rfl|h
  ·rfl
  ·rw[Zo.1 h];rfl
 have F:elemN bodyL (outsP 66 0 L)= .mk 0 [] bodyL [] (outsP 66 0 L) [] 0:=by unfold elemN;rw[XT (JI 66 0 L)]
 unfold encP;rw[ZlK A,F,Nc.nd,Nc.nds,Nc.nds,Nc.nds,Nc.nd,Nc.nd,Nc.nds,I];rfl
def dstE:Nat->Nat|0=>16|2=>18|3=>19|4=>20|_=>21
def depE:Nat->List Nat|2=> [0]|3=> [2]|5=> [3,4]|_=> []
def FE (zt:Nat) (KB:Option Addr) (kc:Nat) (kids:List Nc):Nat->Value->Wq->Prop
 |0,v,w=>∃HB hc,v= .agg #[nI 0,eS,.string ⟨#[104,101,97,100]⟩,sN,.slice HB 0 hc,eS,nI 0]/\RNs w (.slice HB 0 hc) []
 |2,v,w=>∃HB hc,RNs w v [(Nc.mk 0 [] headL sN [] (.slice HB 0 hc) [] [] 0),(Nc.mk 0 [] bodyL sN [] (.slice KB kids.length kc) kids [] 0)]/\RNs w (.slice HB 0 hc) []
 |3,v,w=>∃HB hc RB rc ro,v= .agg #[nI 0,eS,.string ⟨#[111,112,109,108]⟩,sN,.slice RB 2 rc,eS,nI 0]/\w.ownsRow ro 25 7 (.slice RB 2 rc) 2 (flatN [(Nc.mk 0 [] headL sN [] (.slice HB 0 hc) [] [] 0),(Nc.mk 0 [] bodyL sN [] (.slice KB kids.length kc) kids [] 0)])/\zt<=ro/\RNs w (.slice HB 0 hc) []
 |4,v,w=>RStrs w v (pairS [(versionL,twoL)])
 |_,v,w=>∃HB hc RB rc ro AB ac ao,v= .agg #[nI 0,eS,.string ⟨#[111,112,109,108]⟩,.slice AB 1 ac,.slice RB 2 rc,eS,nI 0]/\w.ownsRow ro 25 7 (.slice RB 2 rc) 2 (flatN [(Nc.mk 0 [] headL sN [] (.slice HB 0 hc) [] [] 0),(Nc.mk 0 [] bodyL sN [] (.slice KB kids.length kc) kids [] 0)])/\zt<=ro/\RNs w (.slice HB 0 hc) []/\w.ownsRow ao 88 4 (.slice AB 1 ac) 1 (flatA [pairA (versionL,twoL)])/\zt<=ao
theorem ZmV {KB:Option Addr} {kids:List Nc}:∀(i:Nat) (v:Value) (w w':Wq),FE zt KB kc kids i v w->Ext w w'->FE zt KB kc kids i v w':=by
 intro i v w w' h A;unfold FE at*;split at h
 ·obtain ⟨D,I,F,H⟩:=h;exact ⟨D,I,F,H.ext A⟩
 ·obtain ⟨D,I,F,H⟩:=h;exact ⟨D,I,F.ext A,H.ext A⟩
 ·obtain ⟨D,I,RB,rc,ro,F,H,J,K⟩:=h;exact ⟨D,I,RB,rc,ro,F,Ye H A,J,K.ext A⟩
 ·exact h.ext A
 ·obtain ⟨D,I,RB,rc,ro,AB,ac,ao,F,H,J,K,Q,R⟩:=h;exact ⟨D,I,RB,rc,ro,AB,ac,ao,F,Ye H A,J,K.ext A,Ye Q A,R⟩
def EncRet (w':Wq) (v:Value) (L:List Fd):Prop:=
 if okA L=true then ∃x:Nc,v= .tuple #[.agg (cellsN x).toArray,nI 0]/\x.nd=encP L/\RdN w' x else v= .tuple #[.agg #[nI 0,eS,eS,sN,sN,eS,nI 0],nI 22]
theorem ZgY (v:Value) (l:List Fc) (w:Wq) (hE:Env w) (hr:RFcs w v l) (ht:∀x∈l,RdC w x) (hk:∀x∈l,fokS x.f) (hn:l.length<=1000000):
 Calls prog 20 #[.agg #[v]] w λe w'=>∃r,e= .returned r/\EncRet w' r (l.map Fc.f)/\Ext w w':=by
 obtain ⟨A,c,rfl, -, -⟩:=hr.form;obtain ⟨W0,he⟩:∃W0,(w.alloc (.cells #[.slice A l.length c] 31)).alloc (.cells #[nI 0,eS,eS,sN,sN,eS,nI 0] 25)=W0:=⟨_,rfl⟩;have hI:Ext w W0:=by rw[<-he];exact ((Ext.refl w).alloc _).alloc _
 have hB:W0.heap[w.heap.size]? =some (.cells #[.slice A l.length c] 31 (0,0)):=by rw[<-he];exact (JR _ _ (by rw[Zp];omega)).trans (Zg w _)
 have hJ:W0.heap[w.heap.size+1]? =some (.cells #[nI 0,eS,eS,sN,sN,eS,nI 0] 25 (0,0)):=by rw[<-he];exact YI w _ _
 have b0:W0.cell? ⟨w.heap.size,0,none⟩=some (.slice A l.length c):=(Zq hB 0).trans rfl;have hd:=gd hI;have hN:=gd hJ;have HN:=gd hn;have Y:=gd (λ(w':Wq) (h:Ext w w')=>ZfK (.slice A l.length c) l w' (hE.ext h) (hr.ext h) (λx S=>(ht x S).ext h) hk hn);have hb:=λ(ho:okA (l.map Fc.f)=true) (w':Wq) (h:Ext w w')=>Zlo 66 0 (.slice A l.length c) l w' (Zmx ho) (hr.ext h) (λx S=>(ht x S).ext h) hn (by decide);have hH:W0.heap.size=w.heap.size+2:=by rw[<-he,Zp,Zp]
 have hm:=gd hH;unfold EncRet;by_cases ho:okA (l.map Fc.f)=true
 ·have ga:=gd (hb ho);have ha:=Y;rw[Zi ho] at ha;simp only[Zi ho];clear ho hb Y hE hr ht hk hn hI hB hJ hH;go_enter func20,ntmps20
  go_wp2_with (first|(go_at_call 43;(with_reducible refine Za (ha.out _ hd.out) ?_);rintro e1 w1 ⟨rfl,R⟩;(have c0:=R.cell b0))|(go_at_call 45;refine Za (ga.out _ (hd.out.trans R)) ?_;rintro e2 w2 ⟨u,kids,rfl,hs,hD,hU,hV,hu⟩)|(go_at_call 44;refine Za (ZiL u kids w2 hs.reads (λy hy=>⟨(Xo kids).1 hs.rd y hy,hU y hy⟩) (by have h:=ZC List.length hD;rw[Je] at h;have h2:=Zf0 66 0 (l.map Fc.f);rw[Zm] at h2;have:=HN.out;omega)) ?_;rintro e3 w3 ⟨KB,kc,rfl,hF,hj⟩)|(refine Zf rfl 25 (.tmp 5) (.tmp 15) rfl w3.heap.size _ rfl rfl _ _ (Zg _ _) ZJ rfl ZnD ?_;rw[Z0]))
  have h8:=gd hD;obtain ⟨W4,hq⟩:∃q,w3.alloc (.cells #[nI 0,eS,.string ⟨#[98,111,100,121]⟩,sN,.slice KB kids.length kc,eS,nI 0] 25)=q:=⟨_,rfl⟩;have Z:Ext w3 W4:=by rw[<-hq];exact (Ext.refl w3).alloc _
  have hC:W4.heap[w3.heap.size]? =some (.cells #[nI 0,eS,.string ⟨#[98,111,100,121]⟩,sN,.slice KB kids.length kc,eS,nI 0] 25 (0,0)):=by rw[<-hq];exact Zg w3 _
  (try rw[hq]);obtain ⟨nb,hG⟩:∃q,w3.heap.size=q:=⟨_,rfl⟩;rw[hG] at hC;(try rw[hG]);have hw:RdN W4 (Nc.mk 0 [] bodyL sN [] (.slice KB kids.length kc) kids [] 0):=by rw[RdN];exact ⟨RAts.nil _,(RSl.of_own hF).ext Z,RdNs.ext (hj.trans Z) _ hs.rd⟩
  have gl:=R.size;have gm:=hu.size;have gn:=hj.size;have go:=Z.size;have h6:Hid (awayN (some (w.heap.size+1)) (Nc.mk 0 [] bodyL sN [] (.slice KB kids.length kc) kids [] 0)):=gd (by rw[awayN];exact ⟨Or.inl rfl,Or.inr (X5 hF (by have:=hm.out;omega)),hV _ (by have:=hm.out;omega)⟩);have h9:Hid (nb≠w.heap.size+1):=gd (by have:=hm.out;omega);have gb:Hid (w.heap.size+2<=W4.heap.size):=gd (by have:=hm.out;omega);have hZ:=((R.trans hu).trans (hj.trans Z)).heap hN.out;have H:=(Ext.refl W4).drew;refine rN ?_;change wpAny _ _ _ _ _ _ _ (World.drew _);obtain ⟨Wt,hQ⟩:∃q,World.drew W4=q:=⟨_,rfl⟩;rw[hQ] at H|-;obtain ⟨zt,hL⟩:∃zt,zt=Wt.heap.size:=⟨_,rfl⟩;have gf:=gd hL;have gc:Hid (w.heap.size+2<=zt):=gd (by rw[hL];exact Zt gb.out H.size);have hM:=gd (RdN.ext H _ hw);have hl:=gd (H.heap hC);have ge:=gd (H.heap hZ);have hp:=gd (((hd.out.trans (R.trans hu)).trans (hj.trans Z)).trans H);have gq:=gd (Ext.refl Wt);have gg:Ext w Wt/\Wt.heap[nb]? =some (.cells #[nI 0,eS,.string ⟨#[98,111,100,121]⟩,sN,.slice KB kids.length kc,eS,nI 0] 25 (0,0)):=⟨hp.out,hl.out⟩;clear Z hC hq hG hw hZ H hQ R hu hj hs hD hU hV hF c0 b0 he hL gl gm gn go;refine Yx (λw'=>Ext w w'/\w'.heap[nb]? =some (.cells #[nI 0,eS,.string ⟨#[98,111,100,121]⟩,sN,.slice KB kids.length kc,eS,nI 0] 25 (0,0))) ?_;refine tS 1 (.agg #[nI 0,eS,.string ⟨#[98,111,100,121]⟩,sN,.slice KB kids.length kc,eS,nI 0]) rfl (λw' hS=>by obtain ⟨q0,q1,q2,q3,q4,q5,q6⟩:=ZnQ hS.2;go_simp) gg ?_;go_simp;refine Zac (m:=2) (f:=5) rfl #[true,true,true,true,true,true,false,false] (λa0 a' w'=>∃(x1 x2 x3 x4:Value) (I RB AB:Option Addr) (J rc ac ro ao:Nat),a'=(((((a0.put (some 16) x1).put (some 18) x2).put (some 19) x3).put (some 20) x4).put (some 21) (.agg #[nI 0,eS,.string ⟨#[111,112,109,108]⟩,.slice AB 1 ac,.slice RB 2 rc,eS,nI 0]))/\
   Ext Wt w'/\RNs w' (.slice I 0 J) []/\w'.ownsRow ro 25 7 (.slice RB 2 rc) 2 (flatN [(Nc.mk 0 [] headL sN [] (.slice I 0 J) [] [] 0),(Nc.mk 0 [] bodyL sN [] (.slice KB kids.length kc) kids [] 0)])/\w'.ownsRow ao 88 4 (.slice AB 1 ac) 1 (flatA [pairA (versionL,twoL)])/\zt<=ro/\zt<=ao) ?_ ?_
  ·refine Qn [0,2,3,4,5] dstE depE (FE zt KB kc kids) rfl (by kernel_rfl) (by decide) (by decide) (by kernel_rfl) (by decide) (by kernel_rfl) (λi _=>ZmV i) (λw' S=>⟨hp.out.trans S,S.heap hl.out⟩) ?_ ?_
   ·intro i hi A w' vs S Q D;have hO:Hid (zt<=w'.heap.size):=gd (by rw[gf.out];exact S.size);have h7:=gd (RdN.ext S _ hM.out);simp only[ZK,Z2,Xc] at hi;rcases hi with rfl|rfl|rfl|rfl|rfl
    ·clear Q D S;refine Vl rfl rfl (λK hK=> ?_);go_simp;go_at_call 44;refine Za (ZiM w') ?_;rintro e V ⟨I,J,rfl,F,hv⟩;exact hK _ _ hv ⟨I,J,rfl,F⟩
    ·have e1:A.tmps[17]?.getD undef= .agg #[nI 0,eS,.string ⟨#[98,111,100,121]⟩,sN,.slice KB kids.length kc,eS,nI 0]:=JK ((Q 17 (by decide)).trans rfl);obtain ⟨e2,I,J,e0,F⟩:=D 0 (by simp[depE]);have e2:A.tmps[16]?.getD undef=vs 0:=JK e2;rw[e0] at e2;clear Q D S;refine Vl rfl rfl (λK hK=> ?_);go_simp;exact hK _ _ ((Ext.refl w').alloc _) ⟨I,J,Yq (w:=w') (n:=2) (cs:=flatN [(Nc.mk 0 [] headL sN [] (.slice I 0 J) [] [] 0),(Nc.mk 0 [] bodyL sN [] (.slice KB kids.length kc) kids [] 0)]) rfl (by decide),F.ext ((Ext.refl w').alloc _)⟩
    ·obtain ⟨e2,I,J,gk,F⟩:=D 2 (by simp[depE]);have e2:A.tmps[18]?.getD undef=vs 2:=JK e2;clear Q D S;refine Vl rfl rfl (λK hK=> ?_);go_simp;go_at_call 44;refine Za (ZiP (vs 2) [(Nc.mk 0 [] headL sN [] (.slice I 0 J) [] [] 0),(Nc.mk 0 [] bodyL sN [] (.slice KB kids.length kc) kids [] 0)] w' gk (λy hy=> ?_) (by show 2<=16777216;decide)) ?_
     ·rcases ZK.1 hy with rfl|hy
      ·exact ⟨by rw[RdN];exact ⟨RAts.nil _,F,by rw[RdNs];trivial⟩,rfl⟩
      ·rw[Zo.1 hy];exact ⟨h7.out,rfl⟩
     rintro e V ⟨RB,rc,rfl,U,hv⟩;exact hK _ _ hv ⟨I,J,RB,rc,_,rfl,U,hO.out,F.ext hv⟩
    ·clear Q D S;refine Vl rfl rfl (λK hK=> ?_);go_simp;exact hK _ _ ((Ext.refl w').alloc _) (ZlO w')
    ·obtain ⟨e1,I,J,RB,rc,ro,e3,U,gj,F⟩:=D 3 (by simp[depE]);obtain ⟨e2,gp⟩:=D 4 (by simp[depE]);have e1:A.tmps[19]?.getD undef=vs 3:=JK e1;have e2:A.tmps[20]?.getD undef=vs 4:=JK e2;rw[e3] at e1;clear Q D S;refine Vl rfl rfl (λK hK=> ?_);go_simp;go_at_call 46;refine Za (Zkm RB 2 rc (vs 4) w' gp) ?_;rintro e V ⟨AB,ac,rfl,hh,hv⟩;exact hK _ _ hv ⟨I,J,RB,rc,ro,AB,ac,_,rfl,Ye U hv,gj,F.ext hv,hh,hO.out⟩
   ·intro vs w' S hf;obtain ⟨I,J,RB,rc,ro,AB,ac,ao,e5,h1,h2,h3,h4,h5⟩:=hf 5 (by decide);exact ⟨by kernel_rfl,vs 0,vs 2,vs 3,vs 4,I,RB,AB,J,rc,ac,ro,ao,by rw[<-e5];kernel_rfl,S,h3,h1,h4,h2,h5⟩
  ·rintro a' W7 ⟨y1,y2,y3,y4,I,RB,AB,J,rc,ac,ro,ao,rfl,X,F,U,hh,hW,hR⟩;have hX:RdN W7 (Nc.mk 0 [] opmlL (.slice AB 1 ac) [pairA (versionL,twoL)] (.slice RB 2 rc) [(Nc.mk 0 [] headL sN [] (.slice I 0 J) [] [] 0),(Nc.mk 0 [] bodyL sN [] (.slice KB kids.length kc) kids [] 0)] [] 0):=(by rw[RdN,RdNs,RdNs,RdNs];exact ⟨RSl.of_own hh,RSl.of_own U,by rw[RdN];exact ⟨RAts.nil _,F,by rw[RdNs];trivial⟩,RdN.ext X _ hM.out,trivial⟩);have h0:=X.heap ge.out;have hT:awayN (some (w.heap.size+1)) (Nc.mk 0 [] opmlL (.slice AB 1 ac) [pairA (versionL,twoL)] (.slice RB 2 rc) [(Nc.mk 0 [] headL sN [] (.slice I 0 J) [] [] 0),(Nc.mk 0 [] bodyL sN [] (.slice KB kids.length kc) kids [] 0)] [] 0):=(by have h1:=gc.out;rw[awayN,awayNs,awayNs,awayNs];exact ⟨Or.inr (X5 hh (by omega)),Or.inr (X5 U (by omega)),by rw[awayN];exact ⟨Or.inl rfl,Or.inl rfl,by rw[awayNs];trivial⟩,h6.out,trivial⟩);obtain ⟨W8,hg⟩:∃q,W7.setRow (w.heap.size+1) #[nI 0,eS,.string ⟨#[111,112,109,108]⟩,.slice AB 1 ac,.slice RB 2 rc,eS,nI 0]=q:=⟨_,rfl⟩;have hz:RdN W8 (Nc.mk 0 [] opmlL (.slice AB 1 ac) [pairA (versionL,twoL)] (.slice RB 2 rc) [(Nc.mk 0 [] headL sN [] (.slice I 0 J) [] [] 0),(Nc.mk 0 [] bodyL sN [] (.slice KB kids.length kc) kids [] 0)] [] 0):=(by rw[<-hg];exact RdN.grown (Yo _ _ _) _ hX hT);have hY:Ext w W8:=(by rw[<-hg];exact (hp.out.trans X).setRow (Yj _) _);have gh:W8.heap[w.heap.size+1]? =some (.cells #[nI 0,eS,.string ⟨#[111,112,109,108]⟩,.slice AB 1 ac,.slice RB 2 rc,eS,nI 0] 25 (0,0)):=(by rw[<-hg];exact Zz _ _ _ _ _ _ h0);have gi:W8.heap[nb]? =some (.cells #[nI 0,eS,.string ⟨#[98,111,100,121]⟩,sN,.slice KB kids.length kc,eS,nI 0] 25 (0,0)):=(by rw[<-hg];exact (Z9 _ _ _ _ h9.out).trans (X.heap hl.out));have hA:=gd (show (Nc.mk 0 [] opmlL (.slice AB 1 ac) [pairA (versionL,twoL)] (.slice RB 2 rc) [(Nc.mk 0 [] headL sN [] (.slice I 0 J) [] [] 0),(Nc.mk 0 [] bodyL sN [] (.slice KB kids.length kc) kids [] 0)] [] 0).nd=encP (l.map Fc.f)/\RdN W8 (Nc.mk 0 [] opmlL (.slice AB 1 ac) [pairA (versionL,twoL)] (.slice RB 2 rc) [(Nc.mk 0 [] headL sN [] (.slice I 0 J) [] [] 0),(Nc.mk 0 [] bodyL sN [] (.slice KB kids.length kc) kids [] 0)] [] 0)/\Ext w W8 from ⟨ZmD h8.out,hz,hY⟩);have gr:Ext w W7/\W7.heap[nb]? =some (.cells #[nI 0,eS,.string ⟨#[98,111,100,121]⟩,sN,.slice KB kids.length kc,eS,nI 0] 25 (0,0)):=⟨hp.out.trans X,X.heap hl.out⟩;have hP:Ext w W8/\W8.heap[nb]? =some (.cells #[nI 0,eS,.string ⟨#[98,111,100,121]⟩,sN,.slice KB kids.length kc,eS,nI 0] 25 (0,0)):=⟨hY,gi⟩;clear hX hT hz U hh F hW hR X;go_simp;refine sS 6 λK hK=> ?_;refine YF rfl 25 (.tmp 2) (.tmp 21) rfl (w.heap.size+1) _ rfl rfl _ _ h0 ZJ rfl ZnH ?_;rw[hg];refine hK _ _ hP ?_;clear hK K;go_simp;refine sS 7 λK hK=> ?_;go_simp;refine hK _ _ hP ?_;clear hK K;refine sE ?_;go_wp2;((try simp only[Exit.inBlock,Exit.then]);refine Zy (Yp rfl _ _ _ _ _ _ _ rfl gh underlying25 rfl ZJ) rfl ?_);exact ⟨_,rfl,⟨(Nc.mk 0 [] opmlL (.slice AB 1 ac) [pairA (versionL,twoL)] (.slice RB 2 rc) [(Nc.mk 0 [] headL sN [] (.slice I 0 J) [] [] 0),(Nc.mk 0 [] bodyL sN [] (.slice KB kids.length kc) kids [] 0)] [] 0),rfl,hA.out.1,hA.out.2.1⟩,hA.out.2.2⟩
 ·have ha:=Y;rw[Ze ho] at ha;simp only[Ze ho];clear ho hb Y hE hr ht hk hn hI hB hJ hH;go_enter func20,ntmps20
  go_wp2_with (first|(go_at_call 43;(with_reducible refine Za (ha.out _ hd.out) ?_);rintro e1 w1 ⟨rfl,R⟩;(have z1:=R.heap hN.out))|(refine Zf rfl 25 (.tmp 2) (.tmp 10) rfl (w.heap.size+1) _ rfl rfl _ _ z1 ZJ rfl ZmP ?_))
  ((try simp only[Exit.inBlock,Exit.then]);refine Zy (Yp rfl _ _ _ _ _ _ _ rfl (Zz _ _ _ _ _ _ z1) underlying25 rfl ZJ) rfl ?_);exact ⟨_,rfl,rfl,(hd.out.trans R).setRow (Yj _) _⟩
end
def strsV (l:List (List UInt8)):List Value:=l.map λs=>Value.string (str s)
theorem IJ (x:Nc) (v:Value) (D:List (List UInt8)) (w:Wq) (h:RAts w x.al x.attrs) (U:isSl x.ks) (hn:x.attrs.length<=16777216) (hv:RSl w 1 v D.length (strsV D)) (hd:D.length<=1000):
 Calls prog 28 #[.agg (cellsN x).toArray,v] w λe w'=>e= .returned (.string (str (attrFst x.attrs D)))/\Ext w w':=by
 obtain ⟨k,s,n,al,l,ks,kids,t,a⟩:=x;simp only[Nc.al,Nc.attrs,Nc.ks] at h U hn;obtain ⟨A,c,rfl, -, -⟩:=h.form;obtain ⟨B,m,d,rfl⟩:=U;obtain ⟨_,VA,vc,rfl, -, -, -, -⟩:=id hv;simp only[cellsN,Nc.attrs];obtain ⟨R,Y⟩:∃R,attrFst l D=R:=⟨_,rfl⟩;rw[Y];have HR:Hid (attrFst l (D.drop 0)=R):=Y;clear Y;have Q:=(Ext.refl w).alloc (.cells #[nI (k:Nat),.string (str s),.string (str n),.slice A l.length c,.slice B m d,.string (str t),nI (a:Nat)] 25);go_enter func28,ntmps28;go_wp2;go_loopw [11] (λu wr=>∃j:Nat,j<=D.length/\u=nI j/\Hid (attrFst l (D.drop j)=R)/\Ext (w.alloc (.cells #[nI (k:Nat),.string (str s),.string (str n),.slice A l.length c,.slice B m d,.string (str t),nI (a:Nat)] 25)) wr) (λu _=>D.length - (intOf u).toNat)
 case atStart=>exact ⟨0,Zh _,rfl,HR,Ext.refl _⟩
 case round=>
  obtain ⟨j,hj,rfl,V,H⟩:=hrel;by_cases K:j<D.length
  ·obtain ⟨ad,rfl,Z⟩:=(RSl.ext hv (Q.trans H)).at1 j (.string (str D[j])) (by unfold strsV;rw[Yz,Zl K];rfl);have hb:(0:Int)<=(j:Int):=(by omega);have hc:(j:Int)<(D.length:Int):=(by omega);have J:=V.out;have b0:=H.boxed 0 _ rfl;have b1:=H.boxed 1 _ rfl;have b2:=H.boxed 2 _ rfl;have b3:=H.boxed 3 _ rfl;have b4:=H.boxed 4 _ rfl;have b5:=H.boxed 5 _ rfl;have b6:=H.boxed 6 _ rfl;have F:=ZeI (.mk k s n (.slice A l.length c) l (.slice B m d) kids t a) [] D[j] wr (RAts.ext h (Q.trans H)) ⟨_,_,_,rfl⟩ hn;simp only[cellsN,Nc.attrs,U6] at F;cases hq:attrN l [] D[j] with
   |some v=>
    rw[ZkE K hq] at J;subst J;rw[hq] at F;unfold lookAns at F;dsimp only at F;have X:=gd F;clear V hq F;generalize D[j]=nm at*
    go_wp2_with (first|(go_at_call 31;(with_reducible refine Za X.out ?_);rintro e w' ⟨rfl,S⟩))
    go_ret;exact ⟨rfl,(Q.trans H).trans S⟩
   |none=>
    rw[ZiK K hq] at J;rw[hq] at F;unfold lookAns at F;dsimp only at F;have X:=gd F;have HN:=gd J;clear V hq F J;generalize D[j]=nm at*
    go_wp2_with (first|(go_at_call 31;(with_reducible refine Za X.out ?_);rintro e w' ⟨rfl,S⟩))
    go_roundw
    case rel=>exact ⟨j+1,K,by go_num,HN,H.trans S⟩
    case measure=>simp[intOf];omega
  ·have ha:j=D.length:=(by omega);have I:=V.out;rw[Zs (by omega)] at I;unfold attrFst at I;subst I;clear V;subst ha;go_wp2;go_ret;exact ⟨rfl,Q.trans H⟩
end Go.Proofs.YtnlafkgkcnenfaaGreatDoor
