/- Parts of the proof: contracts and plain laws. -/
import Derived.Test.YtmfinhgobjbecaaGreatDoorA09
namespace Go.Proofs.YtmfinhgobjbecaaGreatDoor
open Go Go.RowKit _root_.Go.Proofs.Tryz
set_option linter.unusedVariables false
set_option linter.unusedSimpArgs false
set_option maxRecDepth 100000
set_option maxHeartbeats 16000000
theorem Zh (w:Wq) (zs cs:Array Value) (t:TypeId):(w.alloc (.cells zs t)).setRow w.heap.size cs=w.alloc (.cells cs t):=by
 have e:(w.heap.push (.cells zs t)).modify w.heap.size (fun| .cells _ C A=> .cells cs C A|o=>o)=w.heap.push (.cells cs t):=by
  apply Array.ext_getElem?;intro i;rw[Zr6,Array.getElem?_push,Array.getElem?_push];split
  ·rename_i h;rw[ZqN h.symm,ZqN h.symm];rfl
  ·rename_i h;rw[ZqH (λe=>h e.symm),ZqH (λe=>h e.symm)]
 show ({(w.alloc (.cells zs t)) with heap:=_}:Wq)=_;exact ZqS (λH=>({w with heap:=H}:Wq)) e
theorem Zmm (x:Nc) (sp nm:List UInt8) (w:Wq) (h:RAts w x.al x.attrs) (Q:isSl x.ks) (hn:x.attrs.length<=16777216):
 Calls prog 106 #[.agg (cellsN x).toArray,.string (str sp),.string (str nm)] w λe w'=>e= .returned (lookAns (attrN x.attrs sp nm))/\Ext w w':=by
 obtain ⟨k,s,n,al,l,ks,kids,t,a⟩:=x;simp only[Nc.al,Nc.attrs,Nc.ks] at h Q hn;obtain ⟨A,c,rfl, -, -⟩:=h.form;obtain ⟨B,m,d,rfl⟩:=Q;simp only[cellsN,Nc.attrs];obtain ⟨R,V⟩:∃R,attrN l sp nm=R:=⟨_,rfl⟩;rw[V];have Z:Hid (attrN (l.drop 0) sp nm=R):=V;clear V;have O:=(Ext.refl w).alloc (.cells #[nI (k:Nat),.string (str s),.string (str n),.slice A l.length c,.slice B m d,.string (str t),nI (a:Nat)] 25);go_enter func106,ntmps106;go_wp2;go_loopw [13] (λv wr=>∃j:Nat,j<=l.length/\v=nI j/\Hid (attrN (l.drop j) sp nm=R)/\Ext (w.alloc (.cells #[nI (k:Nat),.string (str s),.string (str n),.slice A l.length c,.slice B m d,.string (str t),nI (a:Nat)] 25)) wr) (λv _=>l.length - (intOf v).toNat)
 case atStart=>exact ⟨0,ZqO _,rfl,Z,Ext.refl _⟩
 case round=>
  obtain ⟨j,hj,rfl,S,U⟩:=hrel;by_cases D:j<l.length
  ·obtain ⟨ad,c',hv,H⟩:=(RAts.ext h (O.trans U)).at D;injection hv with hv1 hv2 hv3;subst hv1;clear hv2 hv3;have ha:(0:Int)<=(j:Int):=om;have hb:(j:Int)<(l.length:Int):=om;have C:=S.out;cases hq:(l[j].space==sp && l[j].name==nm) with
   |true=>
    rw[ZdN D hq] at C;obtain ⟨x,F⟩:∃x,l[j]=x:=⟨_,rfl⟩;rw[F] at H hq C;obtain ⟨a0,a1,a2,a3⟩:=H;rw[ZqZ] at hq;have q1:((str x.space).toList==(str sp).toList)=true:=(by rw[Z8];exact hq.1);have q2:((str x.name).toList==(str nm).toList)=true:=(by rw[Z8];exact hq.2);subst C;clear S hq F;have I:=(Ext.refl (wr.alloc (.cells #[.string (str x.space),.string (str x.name),.string (str x.value),nI (x.at_:Nat)] 53)));have c0:=I.boxed 0 _ rfl;have c1:=I.boxed 1 _ rfl;have c2:=I.boxed 2 _ rfl;clear I
    go_wp2_with (first|(refine ZqF rfl 53 (.tmp 9) (.tmp 16) rfl wr.heap.size #[.string (str x.space),.string (str x.name),.string (str x.value),nI (x.at_:Nat)] rfl rfl _ _ (ZqJ _ _) Z7 rfl (JS x) ?_;rw[Zh]))
    go_ret2
    exact ⟨rfl,(O.trans U).alloc _⟩
   |false=>
    rw[ZbK D hq] at C;obtain ⟨x,F⟩:∃x,l[j]=x:=⟨_,rfl⟩;rw[F] at H hq;obtain ⟨a0,a1,a2,a3⟩:=H;have Y:=gd C;clear S C F;have I:=(Ext.refl (wr.alloc (.cells #[.string (str x.space),.string (str x.name),.string (str x.value),nI (x.at_:Nat)] 53)));have c0:=I.boxed 0 _ rfl;have c1:=I.boxed 1 _ rfl;have c2:=I.boxed 2 _ rfl;clear I;cases q1:((str x.space).toList==(str sp).toList) with
    |false=>
     clear hq
     go_wp2_with (first|(refine ZqF rfl 53 (.tmp 9) (.tmp 16) rfl wr.heap.size #[.string (str x.space),.string (str x.name),.string (str x.value),nI (x.at_:Nat)] rfl rfl _ _ (ZqJ _ _) Z7 rfl (JS x) ?_;rw[Zh]))
     go_roundw
     case rel=>exact ⟨j+1,D,by go_num,Y,U.alloc _⟩
     case measure=>simp[intOf];omega
    |true=>
     have q2:((str x.name).toList==(str nm).toList)=false:=(by rw[Z8] at q1|-;rw[q1,Zr2] at hq;exact hq);clear hq
     go_wp2_with (first|(refine ZqF rfl 53 (.tmp 9) (.tmp 16) rfl wr.heap.size #[.string (str x.space),.string (str x.name),.string (str x.value),nI (x.at_:Nat)] rfl rfl _ _ (ZqJ _ _) Z7 rfl (JS x) ?_;rw[Zh]))
     go_roundw
     case rel=>exact ⟨j+1,D,by go_num,Y,U.alloc _⟩
     case measure=>simp[intOf];omega
  ·have X:j=l.length:=om;have J:=S.out;rw[ZdM om] at J;subst J;clear S;subst X;go_wp2
   go_ret2
   exact ⟨rfl,O.trans U⟩
theorem Iw (x:Nc) (sp nm:List UInt8) (w:Wq) (h:RdN w x) (hn:x.kids.length<=16777216):
 Calls prog 28 #[.agg (cellsN x).toArray,.string (str sp),.string (str nm)] w λe w'=>∃v,e= .returned v/\w'.ownsRow w.heap.size 25 7 v (x.kids.filter (isKid sp nm)).length (flatN (x.kids.filter (isKid sp nm)))/\Ext w w':=by
 obtain ⟨i0,hu,hy,hz,hA⟩:=ZrE Xn;obtain ⟨k,s,n,al,l,ks,kids,t,a⟩:=x;rw[RdN] at h;obtain ⟨ha,Z,hl⟩:=h;simp only[Nc.kids] at hn;obtain ⟨A,c,rfl, -, -⟩:=ha.form;obtain ⟨B,d,rfl, -, -⟩:=RNs.form Z;simp only[cellsN,Nc.kids];have hm:RNs w (.slice B kids.length d) kids:=Z;have hf:=gd ((ZD kids).1 hl);clear Z hl;have hp:=(Ext.refl w).alloc (.cells #[nI (k:Nat),.string (str s),.string (str n),.slice A l.length c,.slice B kids.length d,.string (str t),nI (a:Nat)] 25);go_enter func28,ntmps28;go_wp2;go_loopw [7,13] (λu v wr=>∃j:Nat,j<=kids.length/\v=nI j/\wr.ownsRow (w.heap.size+1) 25 7 u ((kids.take j).filter (isKid sp nm)).length (flatN ((kids.take j).filter (isKid sp nm)))/\Ext (w.alloc (.cells #[nI (k:Nat),.string (str s),.string (str n),.slice A l.length c,.slice B kids.length d,.string (str t),nI (a:Nat)] 25)) wr) (λ_ v _=>kids.length - (intOf v).toNat)
 case atStart=>exact ⟨0,ZqO _,rfl,Zrt _ _ _ _,Ext.refl _⟩
 case round=>
  obtain ⟨j,hj,rfl,C,hx⟩:=hrel;by_cases H:j<kids.length
  ·obtain ⟨ad,c',hv,hh⟩:=(RNs.ext hm (hp.trans hx)).at H;injection hv with hv1 hv2 hv3;subst hv1;clear hv2 hv3;have hC:(0:Int)<=(j:Int):=om;have hD:(j:Int)<(kids.length:Int):=om;have R:=Zbb (f:=isKid sp nm) H;have V:=ZH (RdN.sl (hf.out kids[j] (Zq2 H)));have ho:=RdN.sl (hf.out kids[j] (Zq2 H));obtain ⟨F,hF⟩:∃F,(kids.take j).filter (isKid sp nm)=F:=⟨_,rfl⟩;have hg:F.length<=16777216:=(by have:=(List.filter_sublist (p:=isKid sp nm) (l:=kids.take j)).length_le;rw[Zra] at this;rw[<-hF];omega);rw[hF] at R C;obtain ⟨x,hq⟩:∃x,kids[j]=x:=⟨_,rfl⟩;rw[hq] at hh R V ho;obtain ⟨xk,xs,xn,hG,xl,hH,hd,xt,xa⟩:=x;obtain ⟨⟨XA,xm,xc,X⟩,⟨XB,he,xd,Y⟩⟩:=ho;simp only[Nc.al,Nc.ks] at X Y;subst X;subst Y;obtain ⟨a0,a1,a2,a3,a4,a5,a6⟩:=hh;simp only[Nc.kind,Nc.space,Nc.name,Nc.al,Nc.ks,Nc.text,Nc.at_] at a0 a1 a2 a3 a4 a5 a6;have O:=gd R;obtain ⟨HM,HB⟩:=Va (ZqM hg (by decide));have HM:=gd HM;have HB:=gd HB;obtain ⟨U,uc,rfl⟩:=Zp C;have hws:w.heap.size+1<=wr.heap.size:=(by have:=hx.size;rwa [Zd] at this);obtain ⟨W2,I⟩:∃W2,wr.alloc (.cells #[nI (xk:Nat),.string (str xs),.string (str xn),.slice XA xm xc,.slice XB he xd,.string (str xt),nI (xa:Nat)] 25)=W2:=⟨_,rfl⟩;have S:Ext wr W2:=(by rw[<-I];exact (Ext.refl wr).alloc _);have hi:BxN W2 wr.heap.size xk xs xn (.slice XA xm xc) (.slice XB he xd) xt xa:=(by rw[<-I];exact ZqJ wr _);obtain ⟨c0,c1,c2,c3,c4,c5,c6⟩:=hi.cells;have hr:=hx.trans S;have hc:=Zt C S;have hs:Hid (w.heap.size+1<=W2.heap.size):=gd (ZqM hws S.size);have Q:=gd hr;have D:=gd hc;clear hi S hr C hx hws;clear R hq hF hg;by_cases hk:xk=0
   ·subst hk;rw[show ((0:Nat):Int)=0 from rfl] at c0 a0 I;cases q1:((str xs).toList==(str sp).toList) with
    |true=>
     cases q2:((str xn).toList==(str nm).toList) with
     |true=>
      go_wp2_with (first|(refine ZqF rfl 25 (.tmp 9) (.tmp 16) rfl wr.heap.size _ rfl rfl _ _ (ZqJ _ _) Ze rfl Zz ?_;rw[Zh];rw[I])|(at_builtin;refine Za _ rfl (.tmp 32) (.tmp 34) _ rfl (w.heap.size+1) 25 i0 _ 7 112 underlying23 hu hy hz hA rfl (by decide) _ _ _ rfl (D.out.alloc _) _ 1 (cellsN (.mk 0 xs xn (.slice XA xm xc) xl (.slice XB he xd) hd xt xa)) rfl (Zj rfl (by decide)) V HM.out HB.out ?_ ?_;(rw[Zd];have:=hs.out;omega);intro v9 w9 hb ht hB))
      go_roundw
      case rel=>refine ⟨j+1,H,by go_num,?_,Ext.app (Q.out.alloc _) ht (D.out.alloc _) (by rw[Zd];exact ZqE _)⟩;have J:=O.out;rw[ZqN (by unfold isKid;simp only[Nc.kind,Nc.space,Nc.name];rw[Z8] at q1 q2;rw[q1,q2];rfl)] at J;rw[J,Xm,Yq,ZqG];exact hb
      case measure=>simp[intOf];omega
     |false=>
      go_wp2_with (first|(refine ZqF rfl 25 (.tmp 9) (.tmp 16) rfl wr.heap.size _ rfl rfl _ _ (ZqJ _ _) Ze rfl Zz ?_;rw[Zh];rw[I]))
      go_roundw
      case rel=>refine ⟨j+1,H,by go_num,?_,Q.out⟩;have J:=O.out;rw[ZqH (by unfold isKid;simp only[Nc.kind,Nc.space,Nc.name];rw[Z8] at q2;rw[q2];simp)] at J;rw[J,Zrb];exact D.out
      case measure=>simp[intOf];omega
    |false=>
     go_wp2_with (first|(refine ZqF rfl 25 (.tmp 9) (.tmp 16) rfl wr.heap.size _ rfl rfl _ _ (ZqJ _ _) Ze rfl Zz ?_;rw[Zh];rw[I]))
     go_roundw
     case rel=>refine ⟨j+1,H,by go_num,?_,Q.out⟩;have J:=O.out;rw[ZqH (by unfold isKid;simp only[Nc.kind,Nc.space,Nc.name];rw[Z8] at q1;rw[q1];simp)] at J;rw[J,Zrb];exact D.out
     case measure=>simp[intOf];omega
   ·have hE:((xk:Int)==0)=false:=by rw[ZqW];omega
    go_wp2_with (first|(refine ZqF rfl 25 (.tmp 9) (.tmp 16) rfl wr.heap.size _ rfl rfl _ _ (ZqJ _ _) Ze rfl Zz ?_;rw[Zh];rw[I]))
    go_roundw
    case rel=>refine ⟨j+1,H,by go_num,?_,Q.out⟩;have J:=O.out;rw[ZqH (by unfold isKid;simp only[Nc.kind,Nc.space,Nc.name];simp[hk])] at J;rw[J,Zrb];exact D.out
    case measure=>simp[intOf];omega
  ·have hw:j=kids.length:=om;subst hw;rw[Zq4 (ZqE _)] at C;go_wp2;go_ret;exact ⟨_,rfl,Xy C (ZrF _),hp.trans hx⟩
section
set_option linter.unusedSimpArgs false
theorem ZjZ (n:Nd):1<=n.ht:=by cases n;rw[Nd.ht];omega
theorem ZeM {l:List Nc} {j:Nat} (h:j<l.length):Nds.txt ((Nc.nds l).take (j+1))=Nds.txt ((Nc.nds l).take j)++l[j].nd.txt:=by
 have A:j<(Nc.nds l).length:=by rw[Y8];exact h
 have e:(Nc.nds l)[j]=l[j].nd:=by simp only[Yc,ZsF]
 rw[ZqQ A,J2,e]
 congr 1
 rw[Nds.txt,Nds.txt,Zrb]
theorem Zkk (l:List Nd) (j:Nat):(Nds.txt (l.take j)).length<=(Nds.txt l).length:=by
 have h:Nds.txt l=Nds.txt (l.take j)++Nds.txt (l.drop j):=by rw[<-J2,ZrR]
 rw[h,ZqG];omega
theorem Zoi (N:Nat) (hN:N<=4000000):∀(h:Nat) (x:Nc) (z w:World) (B bb:Nat) (l:List UInt8),x.nd.ht<=h->x.nd.fd N->RdN z x->Ext z w->z.heap.size<=B->B<=w.heap.size->
 Lib.IsBuilder 147 5 B bb (Lib.byteCells l) w->l.length+x.nd.txt.length<=140737488355328->
 Calls prog 113 #[.pointer (some ⟨bb,0,none⟩),.agg (cellsN x).toArray] w λe w'=>e= .returned (.tuple #[])/\Lib.IsBuilder 147 5 B bb (Lib.byteCells (l++x.nd.txt)) w'/\BKeep B w w':=by
 intro h
 induction h with
 |zero=>intro x z w B bb l V;exact absurd (ZjZ x.nd) om
 |succ h ih=>
 intro x z w B bb l V D hr hG hF H hb C;obtain ⟨k,s,n,al,l0,ks,kids,t,a⟩:=x;rw[RdN] at hr;obtain ⟨hq,hg,hA⟩:=hr;have hc:=(ZD kids).1 hA;rw[Nc.nd] at V D C|-;rw[Nd.ht] at V;rw[Nd.fd] at D;have hw:=D.2.2.2.2.2.2.2.2;have hY:kids.length<=N:=by have:=D.2.2.2.2.2.1;rwa [Y8] at this
 have hx:k<=1:=D.1;obtain ⟨A,c,hT, -, -⟩:=hq.form;obtain ⟨B0,d,hZ, -, -⟩:=RNs.form hg;subst hT;subst hZ;obtain ⟨W0,hp⟩:∃W0,w.alloc (.cells #[.int .i64 (k:Nat),.string (str s),.string (str n),.slice A l0.length c,.slice B0 kids.length d,.string (str t),.int .i64 (a:Nat)] 25)=W0:=⟨_,rfl⟩;have J:Ext w W0:=by rw[<-hp];exact (Ext.refl w).alloc _
 have hf:BxN W0 w.heap.size k s n (.slice A l0.length c) (.slice B0 kids.length d) t a:=by rw[<-hp];exact ZqJ w _
 obtain ⟨b0,b1,b2,b3,b4,b5,b6⟩:=hf.cells;have h4:=gd J;have h2:=gd hf;have hl:=gd (ZF hb J);have ha:=gd (hG.trans J);have hd:=gd hF;have O:=gd (ZqM H J.size);have h3:=gd H;have hn:=gd (BKeep.of_ext J H);have hP:=gd (show RNs z (.slice B0 kids.length d) kids from hg);have HY:=gd (λy (hy:y∈kids)=>(⟨hc y hy,(Nds.fd_iff _).1 hw y.nd (by rw[Yc];exact Zrv hy),(by
  have:=Zaf (x:=y.nd) (l:=Nc.nds kids) (by rw[Yc];exact Zrv hy);omega)⟩:RdN z y/\y.nd.fd N/\y.nd.ht<=h))
 have hK:=gd ih;have hO:Hid (kids.length<=16777216):=gd om;simp only[cellsN];clear ih hq hg hA hc D V hw hY J hf hG hF H hb;by_cases R:k=1
 ·rw[Nd.txt,ZqN R] at C|-;have q1:((k:Int)==1)=true:=by rw[R];rfl
  have Q:=gd C;clear R hx C;go_enter func113,ntmps113
  go_wp2_with (go_at_call 92;refine ZqD (bwS B bb l _ W0 hl.out (by rw[Zo];exact Q.out) O.out) ?_;rintro e w3 ⟨rfl,ho,hV⟩)
  refine ZqT (results_none rfl _ _ _) rfl ?_;rw[Zg] at ho;exact ⟨rfl,ho,hn.out.trans hV⟩
 ·rw[Nd.txt,ZqH R] at C|-;have q1:((k:Int)==1)=false:=by rw[ZqW];omega
  have Q:=gd C;clear R hx C;go_enter func113,ntmps113;go_wp2;clear b0 b1 b2 b3 b4 b5 b6;go_loopw [16] (λv wr=>∃j:Nat,j<=kids.length/\v= .int .i64 j/\Lib.IsBuilder 147 5 B bb (Lib.byteCells (l++Nds.txt ((Nc.nds kids).take j))) wr/\BKeep B W0 wr) (λv _=>kids.length - (intOf v).toNat)
  case atStart=>exact ⟨0,ZqO _,rfl,(by rw[List.take_zero,Nds.txt,Zrb];exact hl.out),BKeep.refl _ _⟩
  case round=>
   obtain ⟨j,hj,rfl,U,I⟩:=hrel;by_cases X:j<kids.length
   ·obtain ⟨ad,c',hv,hs⟩:=(RNs.ext hP.out (BKeep.ext ha.out I hd.out)).at X;injection hv with hv1 hv2 hv3;subst hv1;clear hv2 hv3;have hX:=hO.out;have h5:(0:Int)<=(j:Int):=om;have h6:(j:Int)<(kids.length:Int):=om;obtain ⟨Y,hi,hk⟩:=HY.out kids[j] (Zq2 X);have F:=ZeM X;have hh:=Zkk (Nc.nds kids) (j+1);rw[F,ZqG] at hh;obtain ⟨y,hE⟩:∃y,kids[j]=y:=⟨_,rfl⟩;rw[hE] at hs Y hi hk F hh;have hB:(l++Nds.txt ((Nc.nds kids).take j)).length+y.nd.txt.length<=140737488355328:=(by have:=Q.out;rw[ZqG];omega);have Z:=gd (λ(w':World) (hz:Ext z w') (H:B<=w'.heap.size) (hb:Lib.IsBuilder 147 5 B bb (Lib.byteCells (l++Nds.txt ((Nc.nds kids).take j))) w')=>hK.out y z w' B bb _ hk hi Y hz hd.out H hb hB);have hQ:=gd F;have h0:=RdN.sl Y;obtain ⟨yk,ys,yn,h7,yl,h8,h1,yt,ya⟩:=y;obtain ⟨⟨YA,ym,yc,hC⟩,⟨YB,hH,yd,hD⟩⟩:=h0;simp only[Nc.al,Nc.ks] at hC hD;subst hC;subst hD;simp only[cellsN] at Z;obtain ⟨a0,a1,a2,a3,a4,a5,a6⟩:=hs;simp only[Nc.kind,Nc.space,Nc.name,Nc.al,Nc.ks,Nc.text,Nc.at_] at a0 a1 a2 a3 a4 a5 a6;obtain ⟨W2,he⟩:∃W2,wr.alloc (.cells #[.int .i64 (yk:Nat),.string (str ys),.string (str yn),.slice YA ym yc,.slice YB hH yd,.string (str yt),.int .i64 (ya:Nat)] 25)=W2:=⟨_,rfl⟩;have S:Ext wr W2:=(by rw[<-he];exact (Ext.refl wr).alloc _);have hu:BxN W2 wr.heap.size yk ys yn (.slice YA ym yc) (.slice YB hH yd) yt ya:=(by rw[<-he];exact ZqJ wr _);obtain ⟨c0,c1,c2,c3,c4,c5,c6⟩:=hu.cells;have hm:=gd (ZqM (BKeep.size I O.out) S.size);have hJ:=gd (ZF U S);have hR:=gd ((BKeep.ext ha.out I hd.out).trans S);have hL:=gd (I.then_ext S O.out);clear Y hi hk F hh hE hB hu S U I
    go_wp2_with (first|(refine ZqF rfl 25 (.tmp 5) (.tmp 19) rfl wr.heap.size _ rfl rfl _ _ (ZqJ _ _) Ze rfl Zz ?_;rw[Zh];rw[he])|(go_at_call 113;refine ZqD (Z.out W2 hR.out hm.out hJ.out) ?_;rintro e w6 ⟨rfl,hS,hW⟩))
    have hI:=gd (show Lib.IsBuilder 147 5 B bb (Lib.byteCells (l++Nds.txt ((Nc.nds kids).take (j+1)))) w6 by rw[hQ.out,<-ZqY];exact hS);have hM:=gd (hL.out.trans hW);go_roundw
    case rel=>exact ⟨j+1,X,by go_num,hI.out,hM.out⟩
    case measure=>simp[intOf];omega
   ·have hU:j=kids.length:=om;subst hU;rw[Zq4 (by rw[Y8];exact ZqE _)] at U;go_wp2;((try simp only[Exit.inBlock,Exit.then]);refine bodyPost_end (results_none rfl _ _ _) rfl ?_);exact ⟨rfl,U,hn.out.trans I⟩
theorem Zk0 (w1:World):Lib.IsBuilder 147 5 (w1.heap.size) (w1.heap.size) (Lib.byteCells ([])) (w1.alloc (.cells #[.pointer none,.slice none 0 0] 147)):=
 Or.inl ⟨ZqE _,.slice none 0 0,ZqJ w1 _,Zrt _ _ _ _,by simp[Value.ownBlock]⟩
theorem IU (N:Nat) (hN:N<=4000000) (x:Nc) (w:World) (hf:x.nd.fd N) (X:RdN w x) (h:x.nd.txt.length<=140737488355328):
 Calls prog 64 #[.agg (cellsN x).toArray] w λe w'=>e= .returned (.string (str x.nd.txt))/\Ext w w':=by
 have C:=λ(w':World) (z:World) (B bb:Nat) (hx:Ext w z)=>Zoi N hN x.nd.ht x z w' B bb [] (ZqE _) hf (RdN.ext hx _ X);obtain ⟨R,hR⟩:∃R,x.nd.txt=R:=⟨_,rfl⟩;rw[hR] at C h|-;have Y:=RdN.sl X;clear hf X hR;obtain ⟨k,s,n,al,l0,ks,kids,t,a⟩:=x;obtain ⟨⟨A,m1,c,O⟩,⟨B0,m2,d,U⟩⟩:=Y;simp only[Nc.al,Nc.ks] at O U;subst O;subst U;simp only[cellsN] at C|-;have HW:=gd C;have HL:Hid (([]:List UInt8).length+R.length<=140737488355328):=gd (by rw[Zq5,ZrH];exact h);obtain ⟨W0,J⟩:∃W0,w.alloc (.cells #[.int .i64 (k:Nat),.string (str s),.string (str n),.slice A m1 c,.slice B0 m2 d,.string (str t),.int .i64 (a:Nat)] 25)=W0:=⟨_,rfl⟩;have V:Ext w W0:=by rw[<-J];exact (Ext.refl w).alloc _
 have Q:BxN W0 w.heap.size k s n (.slice A m1 c) (.slice B0 m2 d) t a:=by rw[<-J];exact ZqJ w _
 have F:Ext W0 (W0.alloc (.cells #[.pointer none,.slice none 0 0] 147)):=(Ext.refl W0).alloc _;obtain ⟨b0,b1,b2,b3,b4,b5,b6⟩:=(Q.ext F).cells;have H:=gd V;have D:=gd F;clear C V Q F h;go_enter func64,ntmps64
 go_wp2_with (first|(go_at_call 96;refine ZqD (Ys _ _ _ _ I (ZqM D.out.size S.below.size)) ?_;rintro e w5 ⟨rfl,Z⟩)|(go_at_call 113;refine ZqD (HW.out _ W0 W0.heap.size W0.heap.size H.out D.out (ZqE _) D.out.size (Zk0 W0) HL.out) ?_;rintro e w3 ⟨rfl,I,S⟩;rw[Zrl] at I))
 go_ret;exact ⟨rfl,H.out.trans ((BKeep.ext D.out S (ZqE _)).then Z)⟩
end
section
set_option linter.unusedSimpArgs false
mutual
theorem Zki {N:Nat}:∀n:Nd,n.fd N->n.txt.length<=n.cnt*(2*N)
 | .mk k s nm al ks t a,h=>by
  rw[Nd.fd] at h
  obtain ⟨h1,h2,h3,h4,h5,h6,h7,h8,h9⟩:=h
  have ih:=ZhX ks h9
  rw[Nd.txt,Nd.cnt,Nat.add_mul]
  split<;>omega
theorem ZhX {N:Nat}:∀l:List Nd,Nds.fd N l->(Nds.txt l).length<=Nds.cnt l*(2*N)
 | [],_=>by rw[Nds.txt];exact ZqO _
 |x::t,h=>by
  rw[Nds.fd] at h
  have h1:=Zki x h.1
  have h2:=ZhX t h.2
  rw[Nds.txt,Nds.cnt,ZqG,Nat.add_mul]
  omega
end
structure NcOk (w:World) (N M:Nat) (x:Nc):Prop where
 rd:RdN w x
 fd:x.nd.fd N
 cnt:x.nd.cnt<=M
theorem NcOk.ext {w w':World} {N M:Nat} {x:Nc} (h:NcOk w N M x) (A:Ext w w'):NcOk w' N M x:=⟨RdN.ext A _ h.rd,h.fd,h.cnt⟩
theorem NcOk.kid {w:World} {N M:Nat} {x y:Nc} (h:NcOk w N M x) (H:y∈x.kids):NcOk w N M y:=by
 obtain ⟨A,C,D⟩:=h;obtain ⟨k,s,n,al,l,ks,kids,t,a⟩:=x;rw[RdN] at A;rw[Nc.nd] at C D;have F:y.nd∈Nc.nds kids:=by rw[Yc];exact Zrv H
 exact ⟨(ZD kids).1 A.2.2 y H,Ze9 (n:= .mk k s n l (Nc.nds kids) t a) C F,Zii (n:= .mk k s n l (Nc.nds kids) t a) D F⟩
theorem NcOk.txt {w:World} {N M:Nat} {x:Nc} (h:NcOk w N M x) (F:N<=4000000) (A:M<=1000000):x.nd.txt.length<=140737488355328:=by
 have C:=Zki _ h.fd;have D:x.nd.cnt*(2*N)<=1000000*8000000:=Nat.mul_le_mul (ZqM h.cnt A) om;omega
theorem NcOk.kids_len {w:World} {N M:Nat} {x:Nc} (h:NcOk w N M x):x.kids.length<=N:=by
 have A:=h.fd;obtain ⟨k,s,n,al,l,ks,kids,t,a⟩:=x;rw[Nc.nd,Nd.fd,Y8] at A;exact A.2.2.2.2.2.1
theorem NcOk.attrs_len {w:World} {N M:Nat} {x:Nc} (h:NcOk w N M x):x.attrs.length<=N:=by
 have A:=h.fd;obtain ⟨k,s,n,al,l,ks,kids,t,a⟩:=x;rw[Nc.nd,Nd.fd] at A;exact A.2.2.2.1
theorem NcOk.ats {w:World} {N M:Nat} {x:Nc} (h:NcOk w N M x):RAts w x.al x.attrs:=by
 have A:=h.rd;obtain ⟨k,s,n,al,l,ks,kids,t,a⟩:=x;rw[RdN] at A;exact A.1
theorem ZpH (sp nm:List UInt8) (x:Nc):isE sp nm x.nd=isKid sp nm x:=by cases x;rw[Nc.nd];rfl
theorem Qm (sp nm:List UInt8) (x:Nc):(x.kids.filter (isKid sp nm)).map Nc.nd=kidsE sp nm x.nd:=by
 obtain ⟨k,s,n,al,l,ks,kids,t,a⟩:=x;rw[Nc.nd];unfold kidsE;show (kids.filter _).map _=(Nc.nds kids).filter _;rw[Yc,List.filter_map]
 congr 1
 exact List.filter_congr λx _=>(ZpH sp nm x).symm
def KidsA (w:World) (N M:Nat) (sp nm:List UInt8) (x:Nc) (A:Option Addr) (c:Nat) (l:List Nc):Prop:=
 RNs w (.slice A l.length c) l/\(∀y∈l,NcOk w N M y)/\l.map Nc.nd=kidsE sp nm x.nd/\l.length<=N
theorem Zaj {N M:Nat} (H:N<=4000000) (x:Nc) (sp nm:List UInt8) (w:World) (h:NcOk w N M x):
 Calls prog 28 #[.agg (cellsN x).toArray,.string (str sp),.string (str nm)] w λe w'=>∃A c l,e= .returned (.slice A l.length c)/\KidsA w' N M sp nm x A c l/\Ext w w':=by
 have J:=h.kids_len;refine ZqD (Iw x sp nm w h.rd om) ?_;rintro e w' ⟨v,rfl,C,D⟩;have I:=(List.filter_sublist (p:=isKid sp nm) (l:=x.kids)).length_le;obtain ⟨A,c,rfl⟩:=Zp C;exact ⟨A,c,_,rfl,⟨RSl.of_own C,λy F=>(h.ext D).kid (ZrK.1 F).1,Qm sp nm x,om⟩,D⟩
theorem ZR (x:Nc) (h:slN x):∃A n c B m d,cellsN x= [.int .i64 (x.kind:Nat),.string (str x.space),.string (str x.name),.slice A n c,.slice B m d,.string (str x.text),.int .i64 (x.at_:Nat)]/\x.al= .slice A n c/\x.ks= .slice B m d:=by
 obtain ⟨⟨A,n,c,C⟩,⟨B,m,d,D⟩⟩:=h;exact ⟨A,n,c,B,m,d,by rw[QK,C,D],C,D⟩
theorem Xo:str atomL=⟨#[104,116,116,112,58,47,47,119,119,119,46,119,51,46,111,114,103,47,50,48,48,53,47,65,116,111,109]⟩:=rfl
theorem Zc7:str linkL=⟨#[108,105,110,107]⟩:=rfl
theorem ZeH:str hrefL=⟨#[104,114,101,102]⟩:=rfl
theorem ZhP:str relL=⟨#[114,101,108]⟩:=rfl
theorem Ek:str updatedL=⟨#[117,112,100,97,116,101,100]⟩:=rfl
theorem Zc6:str entryL=⟨#[101,110,116,114,121]⟩:=rfl
theorem ZeI:str ([]:List UInt8)=⟨#[]⟩:=rfl
end
section
set_option linter.unusedSimpArgs false
def contF (n:Nd):List (List UInt8)->List UInt8
 | []=> []
 |nm::t=>match kidsE atomL nm n with
  | []=>contF n t
  |k::_=>k.txt
theorem E1 (n:Nd) (nm:List UInt8):contF n [nm]=txtOf nm n:=by
 unfold contF txtOf firstT;cases kidsE atomL nm n<;>rfl
theorem Zik (n:Nd):contF n [contentL,summaryL]=contN n:=by
 unfold contN;rw[<-E1];unfold contF firstT;cases kidsE atomL contentL n<;>rfl
theorem ZkB {n:Nd} {l:List (List UInt8)} {j:Nat} {k:Nd} {t:List Nd} (A:j<l.length) (h:kidsE atomL l[j] n=k::t):contF n (l.drop j)=k.txt:=by
 rw[ZqR A,contF,h]
theorem Zil {n:Nd} {l:List (List UInt8)} {j:Nat} (A:j<l.length) (h:kidsE atomL l[j] n= []):contF n (l.drop j)=contF n (l.drop (j+1)):=by
 rw[ZqR A,contF,h]
def strsA (l:List (List UInt8)):List Value:=l.map λs=>Value.string (str s)
theorem ZaF {N M:Nat} (hN:N<=4000000) (hM:M<=1000000) (x:Nc) (v:Value) (C:List (List UInt8)) (w:World) (h:NcOk w N M x) (hv:RSl w 1 v C.length (strsA C)) (hI:C.length<=1000):
 Calls prog 29 #[.agg (cellsN x).toArray,v] w λe w'=>e= .returned (.string (str (contF x.nd C)))/\Ext w w':=by
 obtain ⟨_,VA,vc,rfl, -, -, -, -⟩:=id hv;obtain ⟨R,hR⟩:∃R,contF x.nd C=R:=⟨_,rfl⟩;rw[hR];have HR:Hid (contF x.nd (C.drop 0)=R):=hR;clear hR;have X:=gd (λ(nm:List UInt8) (w':World) (F:Ext w w')=>Zaj hN x atomL nm w' (h.ext F));simp only[Xo] at X;obtain ⟨A,n,c,B,m,d,hh, -, -⟩:=ZR x (RdN.sl h.rd);rw[hh] at X|-;have V:=(Ext.refl w).alloc (.cells #[.int .i64 (x.kind:Nat),.string (str x.space),.string (str x.name),.slice A n c,.slice B m d,.string (str x.text),.int .i64 (x.at_:Nat)] 25);have hp:=gd (λ(y:Nc) (w':World) (hy:NcOk w' N M y)=>IU N hN y w' hy.fd hy.rd (hy.txt hN hM));clear hh h;go_enter func29,ntmps29;go_wp2;go_loopw [11] (λu wr=>∃j:Nat,j<=C.length/\u= .int .i64 j/\Hid (contF x.nd (C.drop j)=R)/\Ext (w.alloc (.cells #[.int .i64 (x.kind:Nat),.string (str x.space),.string (str x.name),.slice A n c,.slice B m d,.string (str x.text),.int .i64 (x.at_:Nat)] 25)) wr) (λu _=>C.length - (intOf u).toNat)
 case atStart=>exact ⟨0,ZqO _,rfl,HR,Ext.refl _⟩
 case round=>
  obtain ⟨j,hj,rfl,hr,F⟩:=hrel;by_cases Q:j<C.length
  ·obtain ⟨ad,rfl,hw⟩:=(RSl.ext hv (V.trans F)).at1 j (.string (str C[j])) (by unfold strsA;rw[Zrq,ZqL Q];rfl);have hG:(0:Int)<=(j:Int):=om;have hH:(j:Int)<(C.length:Int):=om;have J:=hr.out;have b0:=F.boxed 0 _ rfl;have b1:=F.boxed 1 _ rfl;have b2:=F.boxed 2 _ rfl;have b3:=F.boxed 3 _ rfl;have b4:=F.boxed 4 _ rfl;have b5:=F.boxed 5 _ rfl;have b6:=F.boxed 6 _ rfl;have hf:=gd (X.out C[j] wr (V.trans F));obtain ⟨wP,hC⟩:∃wP:World,wP=wr:=⟨_,rfl⟩;subst hC;cases hq:kidsE atomL C[j] x.nd with
   |cons kd tl=>
    rw[ZkB Q hq] at J;subst J;have HQ:=gd hq;clear hr hq;generalize C[j]=nm at*
    go_wp2_with (first|(go_at_call 28;refine ZqD hf.out ?_;rintro e w2 ⟨KA,kc,l,rfl,ha,O⟩))
    obtain ⟨U,S,D,I⟩:=ha;rw[HQ.out] at D;cases l with
    |nil=>cases D
    |cons y l'=>
     rw[Zq8] at D;injection D with hmap1 hmap2;subst hmap1;have ho:=gd U;have hn:=gd S;have Y:=gd ((V.trans F).trans O);clear U S hmap2 I HQ O b0 b1 b2 b3 b4 b5 b6;go_loopw [19] (λu wr=>u= .int .i64 0/\wr=w2) (λu _=>0)
     case atStart=>exact ⟨rfl,rfl⟩
     case round=>
      obtain ⟨rfl,rfl⟩:=hrel;obtain ⟨hF,c',hd,hu⟩:=ho.out.at (k:=0) (Nat.zero_lt_succ _);injection hd with hv1 hd hv3;subst hv1;clear hd hv3;have hy:=hn.out y Zq6;have hB:0<(y::l').length:=(by rw[ZqK];omega);obtain ⟨ln,hb⟩:∃ln,(y::l').length=ln:=⟨_,rfl⟩;rw[hb] at hB;have hE:(0:Int)<(ln:Int):=om
      try rw[hb]
      obtain ⟨YA,ym,yc,YB,hm,yd,hl,hi,hk⟩:=ZR y (RdN.sl hy.rd);obtain ⟨a0,a1,a2,a3,a4,a5,a6⟩:=hu;simp only[Zsk,Zsl,add_zero] at a0 a1 a2 a3 a4 a5 a6;rw[hi] at a3;rw[hk] at a4;obtain ⟨W2,Z⟩:∃W2,wr.alloc (.cells #[.int .i64 (y.kind:Nat),.string (str y.space),.string (str y.name),.slice YA ym yc,.slice YB hm yd,.string (str y.text),.int .i64 (y.at_:Nat)] 25)=W2:=⟨_,rfl⟩;have he:Ext wr W2:=(by rw[<-Z];exact (Ext.refl wr).alloc _);have hg:BxN W2 wr.heap.size y.kind y.space y.name (.slice YA ym yc) (.slice YB hm yd) y.text y.at_:=(by rw[<-Z];exact ZqJ wr _);obtain ⟨c0,c1,c2,c3,c4,c5,c6⟩:=hg.cells;have hc:=hp.out y W2 (hy.ext he);rw[hl] at hc;have hs:=gd hc;have ht:=gd he;clear hg he hy hi hk hl hc hb
      go_wp2_with (first|(go_at_call 64;refine ZqD hs.out ?_;rintro e w4 ⟨rfl,hD⟩)|(refine ZqF rfl 25 (.tmp 8) (.tmp 22) rfl wr.heap.size _ rfl rfl _ _ (ZqJ _ _) Ze rfl Zz ?_;rw[Zh];rw[Z]))
      go_ret;exact ⟨rfl,(Y.out.trans ht.out).trans hD⟩
   |nil=>
    rw[Zil Q hq] at J;have HN:=gd J;have HQ:=gd hq;clear hr hq J;generalize C[j]=nm at*
    go_wp2_with (first|(go_at_call 28;refine ZqD hf.out ?_;rintro e w2 ⟨KA,kc,l,rfl,ha,O⟩))
    obtain ⟨U,S,D,I⟩:=ha;rw[HQ.out] at D;have hA:l= []:=List.map_eq_nil_iff.1 D;subst hA;have Y:=gd (F.trans O);clear U S D I HQ O b0 b1 b2 b3 b4 b5 b6;go_loopw [19] (λu wr=>u= .int .i64 0/\wr=w2) (λu _=>0)
    case atStart=>exact ⟨rfl,rfl⟩
    case round=>
     obtain ⟨rfl,rfl⟩:=hrel;go_wp2;go_roundw
     case rel=>exact ⟨j+1,Q,by go_num,HN,Y.out⟩
     case measure=>simp[intOf];omega
  ·have hz:j=C.length:=om;have H:=hr.out;rw[Zq3 om] at H;unfold contF at H;subst H;clear hr;subst hz;go_wp2;go_ret;exact ⟨rfl,V.trans F⟩
end
section
set_option linter.unusedSimpArgs false
def linkF:List Nd->List UInt8
 | []=> []
 |k::t=>if linkOk k then (attrL k hrefL).getD [] else linkF t
theorem Zei:∀l:List Nd,(match l.find? linkOk with|some k=>(attrL k hrefL).getD []|none=> [])=linkF l
 | []=>rfl
 |k::t=>by
  rw[linkF,List.find?_cons]
  cases linkOk k with
  |true=>rfl
  |false=>exact Zei t
theorem Zj5 (n:Nd):linkN n=linkF (kidsE atomL linkL n):=Zei _
theorem In (y:Nc) (nm:List UInt8):attrL y.nd nm=attrN y.attrs [] nm:=by cases y;rw[Nc.nd];rfl
theorem ZcF {l:List Nc} {j:Nat} (h:j<l.length):linkF ((l.map Nc.nd).drop j)=if linkOk l[j].nd then (attrL l[j].nd hrefL).getD [] else linkF ((l.map Nc.nd).drop (j+1)):=by
 rw[ZqR (by rw[Zq9];exact h),linkF,ZsF]
theorem Zny {N M:Nat} (hN:N<=4000000) (x:Nc) (w:World) (h:NcOk w N M x):
 Calls prog 61 #[.agg (cellsN x).toArray] w λe w'=>e= .returned (.string (str (linkN x.nd)))/\Ext w w':=by
 rw[Zj5];obtain ⟨R,hR⟩:∃R,linkF (kidsE atomL linkL x.nd)=R:=⟨_,rfl⟩;rw[hR];have hA:=gd hR;clear hR;have U:=λ(w':World) (hx:Ext w w')=>Zaj hN x atomL linkL w' (h.ext hx);simp only[Xo,Zc7] at U;obtain ⟨A,n,c,B,m,d,hk, -, -⟩:=ZR x (RdN.sl h.rd);rw[hk] at U|-;have hu:=gd U;have hn:=(Ext.refl w).alloc (.cells #[.int .i64 (x.kind:Nat),.string (str x.space),.string (str x.name),.slice A n c,.slice B m d,.string (str x.text),.int .i64 (x.at_:Nat)] 25);have hh:=gd hn;have b0:=(Ext.refl (w.alloc (.cells #[.int .i64 (x.kind:Nat),.string (str x.space),.string (str x.name),.slice A n c,.slice B m d,.string (str x.text),.int .i64 (x.at_:Nat)] 25))).boxed 0 _ rfl;have b1:=(Ext.refl (w.alloc (.cells #[.int .i64 (x.kind:Nat),.string (str x.space),.string (str x.name),.slice A n c,.slice B m d,.string (str x.text),.int .i64 (x.at_:Nat)] 25))).boxed 1 _ rfl;have b2:=(Ext.refl (w.alloc (.cells #[.int .i64 (x.kind:Nat),.string (str x.space),.string (str x.name),.slice A n c,.slice B m d,.string (str x.text),.int .i64 (x.at_:Nat)] 25))).boxed 2 _ rfl;have b3:=(Ext.refl (w.alloc (.cells #[.int .i64 (x.kind:Nat),.string (str x.space),.string (str x.name),.slice A n c,.slice B m d,.string (str x.text),.int .i64 (x.at_:Nat)] 25))).boxed 3 _ rfl;have b4:=(Ext.refl (w.alloc (.cells #[.int .i64 (x.kind:Nat),.string (str x.space),.string (str x.name),.slice A n c,.slice B m d,.string (str x.text),.int .i64 (x.at_:Nat)] 25))).boxed 4 _ rfl;have b5:=(Ext.refl (w.alloc (.cells #[.int .i64 (x.kind:Nat),.string (str x.space),.string (str x.name),.slice A n c,.slice B m d,.string (str x.text),.int .i64 (x.at_:Nat)] 25))).boxed 5 _ rfl;have b6:=(Ext.refl (w.alloc (.cells #[.int .i64 (x.kind:Nat),.string (str x.space),.string (str x.name),.slice A n c,.slice B m d,.string (str x.text),.int .i64 (x.at_:Nat)] 25))).boxed 6 _ rfl;clear hk h U hn;go_enter func61,ntmps61
 go_wp2_with (first|(go_at_call 28;refine ZqD (hu.out _ hh.out) ?_;rintro e w2 ⟨KA,kc,l,rfl,hE,hb⟩))
 obtain ⟨hm,hl,ha,hc⟩:=hE;have hB:=gd hm;have hz:=gd hl;have hG:=gd ha;have hd:=gd (hh.out.trans hb);have hw:Hid (l.length<=4000000):=gd (ZqM hc hN);have hR:=hA.out;rw[<-ha] at hR;have HR:Hid (linkF ((l.map Nc.nd).drop 0)=R):=hR;clear hR hm hl ha hb hc b0 b1 b2 b3 b4 b5 b6;go_loopw [12] (λu wr=>∃j:Nat,j<=l.length/\u= .int .i64 j/\Hid (linkF ((l.map Nc.nd).drop j)=R)/\Ext w2 wr) (λu _=>l.length - (intOf u).toNat)
 case atStart=>exact ⟨0,ZqO _,rfl,HR,Ext.refl _⟩
 case round=>
  obtain ⟨j,hj,rfl,hr,hx⟩:=hrel;have hJ:=hw.out;by_cases V:j<l.length
  ·obtain ⟨ad,c',hv,hi⟩:=(hB.out.ext hx).at V;injection hv with hv1 hv2 hv3;subst hv1;clear hv2 hv3;have hH:(0:Int)<=(j:Int):=om;have hI:(j:Int)<(l.length:Int):=om;have C:=hr.out;rw[ZcF V] at C;have hy:=(hz.out l[j] (Zq2 V)).ext hx;obtain ⟨y,hs⟩:∃y,l[j]=y:=⟨_,rfl⟩;rw[hs] at hi C hy;have hC:=hy.attrs_len;have hg:=RdN.sl hy.rd;obtain ⟨YA,ym,yc,YB,ht,yd,hq,ho,hp⟩:=ZR y hg;obtain ⟨a0,a1,a2,a3,a4,a5,a6⟩:=hi;rw[ho] at a3;rw[hp] at a4;have X:=λ(nm:List UInt8) (w':World) (hF:Ext wr w')=>Zmm y [] nm w' ((hy.ext hF).ats) hg.2 om;unfold linkOk at C;rw[In,In] at C;have H:=X hrefL;have I:=X relL;rw[hq] at H I;simp only[ZeI,ZeH,ZhP] at H I;obtain ⟨W2,S⟩:∃W2,wr.alloc (.cells #[.int .i64 (y.kind:Nat),.string (str y.space),.string (str y.name),.slice YA ym yc,.slice YB ht yd,.string (str y.text),.int .i64 (y.at_:Nat)] 25)=W2:=⟨_,rfl⟩;have hb:Ext wr W2:=(by rw[<-S];exact (Ext.refl wr).alloc _);have he:BxN W2 wr.heap.size y.kind y.space y.name (.slice YA ym yc) (.slice YB ht yd) y.text y.at_:=(by rw[<-S];exact ZqJ wr _);obtain ⟨c0,c1,c2,c3,c4,c5,c6⟩:=he.cells;have Y:=gd he;have F:=gd hb;clear he hb hs ho hp hq hy hC hg X hr;rcases h1:attrN y.attrs [] hrefL with _|hv<;>rcases h2:attrN y.attrs [] relL with _|rv
   ·rw[h1] at H C;rw[h2] at I C;unfold lookAns at H I;dsimp only at H I C;have J:=gd H;have O:=gd I;have HN:Hid (linkF ((l.map Nc.nd).drop (j+1))=R):=gd (by rw[<-C];rfl);clear C H I h1 h2
    go_wp2_with (first|(go_at_call 106;(with_reducible refine ZqD (O.out _ (F.out.trans D)) ?_);rintro e w5 ⟨rfl,Q⟩)|(go_at_call 106;(with_reducible refine ZqD (J.out _ F.out) ?_);rintro e w4 ⟨rfl,D⟩;obtain ⟨d0,d1,d2,d3,d4,d5,d6⟩:=(Y.out.ext D).cells;clear c0 c1 c2 c3 c4 c5 c6)|(refine ZqF rfl 25 (.tmp 4) (.tmp 15) rfl wr.heap.size _ rfl rfl _ _ (ZqJ _ _) Ze rfl Zz ?_;rw[Zh];rw[S]))
    go_roundw
    case rel=>exact ⟨j+1,V,by go_num,HN,hx.trans ((F.out.trans D).trans Q)⟩
    case measure=>simp[intOf];omega
   ·rw[h1] at H C;rw[h2] at I C;unfold lookAns at H I;dsimp only at H I C;have J:=gd H;have O:=gd I;have HN:Hid (linkF ((l.map Nc.nd).drop (j+1))=R):=gd (by rw[<-C];rfl);clear C H I h1 h2
    go_wp2_with (first|(go_at_call 106;(with_reducible refine ZqD (O.out _ (F.out.trans D)) ?_);rintro e w5 ⟨rfl,Q⟩)|(go_at_call 106;(with_reducible refine ZqD (J.out _ F.out) ?_);rintro e w4 ⟨rfl,D⟩;obtain ⟨d0,d1,d2,d3,d4,d5,d6⟩:=(Y.out.ext D).cells;clear c0 c1 c2 c3 c4 c5 c6)|(refine ZqF rfl 25 (.tmp 4) (.tmp 15) rfl wr.heap.size _ rfl rfl _ _ (ZqJ _ _) Ze rfl Zz ?_;rw[Zh];rw[S]))
    go_roundw
    case rel=>exact ⟨j+1,V,by go_num,HN,hx.trans ((F.out.trans D).trans Q)⟩
    case measure=>simp[intOf];omega
   ·rw[h1] at H C;rw[h2] at I C;unfold lookAns at H I;dsimp only at H I C;have J:=gd H;have O:=gd I;have hf:hv=R:=(by rw[<-C];rfl);clear C H I h1 h2;subst hf
    go_wp2_with (first|(go_at_call 106;(with_reducible refine ZqD (O.out _ (F.out.trans D)) ?_);rintro e w5 ⟨rfl,Q⟩)|(go_at_call 106;(with_reducible refine ZqD (J.out _ F.out) ?_);rintro e w4 ⟨rfl,D⟩;obtain ⟨d0,d1,d2,d3,d4,d5,d6⟩:=(Y.out.ext D).cells;clear c0 c1 c2 c3 c4 c5 c6)|(refine ZqF rfl 25 (.tmp 4) (.tmp 15) rfl wr.heap.size _ rfl rfl _ _ (ZqJ _ _) Ze rfl Zz ?_;rw[Zh];rw[S]))
    go_ret;exact ⟨rfl,hd.out.trans (hx.trans ((F.out.trans D).trans Q))⟩
   ·by_cases q2:rv=alternateL
    ·have q1:((str rv).toList==([97,108,116,101,114,110,97,116,101]:List UInt8))=true:=XF q2;rw[h1] at H C;rw[h2] at I C;unfold lookAns at H I;dsimp only at H I C;have J:=gd H;have O:=gd I;have hf:hv=R:=(by rw[<-C];rw[ZqN (by simpa using q2)];rfl);clear C H I h1 h2 q2;subst hf
     go_wp2_with (first|(go_at_call 106;(with_reducible refine ZqD (O.out _ (F.out.trans D)) ?_);rintro e w5 ⟨rfl,Q⟩)|(go_at_call 106;(with_reducible refine ZqD (J.out _ F.out) ?_);rintro e w4 ⟨rfl,D⟩;obtain ⟨d0,d1,d2,d3,d4,d5,d6⟩:=(Y.out.ext D).cells;clear c0 c1 c2 c3 c4 c5 c6)|(refine ZqF rfl 25 (.tmp 4) (.tmp 15) rfl wr.heap.size _ rfl rfl _ _ (ZqJ _ _) Ze rfl Zz ?_;rw[Zh];rw[S]))
     go_ret;exact ⟨rfl,hd.out.trans (hx.trans ((F.out.trans D).trans Q))⟩
    ·have q1:((str rv).toList==([97,108,116,101,114,110,97,116,101]:List UInt8))=false:=Yx q2;rw[h1] at H C;rw[h2] at I C;unfold lookAns at H I;dsimp only at H I C;have J:=gd H;have O:=gd I;have HN:Hid (linkF ((l.map Nc.nd).drop (j+1))=R):=gd (by rw[<-C];rw[ZqH (by simpa using q2)]);clear C H I h1 h2 q2
     go_wp2_with (first|(go_at_call 106;(with_reducible refine ZqD (O.out _ (F.out.trans D)) ?_);rintro e w5 ⟨rfl,Q⟩)|(go_at_call 106;(with_reducible refine ZqD (J.out _ F.out) ?_);rintro e w4 ⟨rfl,D⟩;obtain ⟨d0,d1,d2,d3,d4,d5,d6⟩:=(Y.out.ext D).cells;clear c0 c1 c2 c3 c4 c5 c6)|(refine ZqF rfl 25 (.tmp 4) (.tmp 15) rfl wr.heap.size _ rfl rfl _ _ (ZqJ _ _) Ze rfl Zz ?_;rw[Zh];rw[S]))
     go_roundw
     case rel=>exact ⟨j+1,V,by go_num,HN,hx.trans ((F.out.trans D).trans Q)⟩
     case measure=>simp[intOf];omega
  ·have hD:j=l.length:=om;have Z:=hr.out;rw[Zq3 (by rw[Zq9];omega)] at Z;unfold linkF at Z;subst Z;clear hr;subst hD;go_wp2;go_ret;exact ⟨rfl,hd.out.trans hx⟩
end
section
section
variable {P:Program} {md:Region.Mode} {ops:Array Oper} {Q:Exit→Act→World→Prop} {S:World→Prop} {T:Array Bool→Act→World→Prop} {t:Nat}
def wpAnyC (P:Program) (md:Region.Mode) (ops:Array Oper) (Q:Exit->Act->Wq->Prop) (S:Wq->Prop) (T:Array Bool->Act->Wq->Prop):Nat->Array Bool->Act->Wq->Prop
 |0,listed,a,w=>T listed a w
 |f+1,listed,a,w=>(Region.ready md ops listed= []->Q .normal a w)/\
  ∀i∈Region.ready md ops listed,wpOp P ops Q i (λa' w'=>S w'/\wpAnyC P md ops Q S T f (listed.setIfInBounds i true) a' w') a w
theorem Zdk {m:Nat} (C:∀L a w,T L a w->wpAnyT P md ops Q S t m L a w):∀(f k:Nat) (listed:Array Bool) (a:Act) (w:Wq),k=f+m->wpAnyC P md ops Q S T f listed a w->wpAnyT P md ops Q S t k listed a w
 |0,k,listed,a,w,hk,h=>by rw[hk,ZrH];exact C _ _ _ h
 |f+1,k,listed,a,w,hk,h=>by
  rw[hk,show f+1+m=(f+m)+1 by omega]
  exact ⟨h.1,λi D=>ZsH (λa' w' A=>⟨λ_=>A.1,Zdk C f (f+m) _ a' w' rfl A.2⟩) (h.2 i D)⟩
theorem QG {m f k:Nat} {l:List Oper} {listed:Array Bool} {a:Act} {w:Wq} (F:k=f+m) (A:Array Bool) (R:Act->Act->Wq->Prop)
 (C:wpAnyC P md l.toArray Q S (λL a' w'=>L=A/\R a a' w') f listed a w) (D:∀a' w',R a a' w'->wpAnyT P md l.toArray Q S t m A a' w'):wpAnyT P md l.toArray Q S t k listed a w:=
 Zdk (λL a w h=>by obtain ⟨rfl,h⟩:=h;exact D a w h) f k listed a w F C
section
variable {l:List Oper} {f:Nat} {listed:Array Bool} {a:Act} {w:World} {i j k:Nat} {oi oj ok:Oper}
end
end
section
variable {P:Program} {md:Region.Mode} {Q:Exit→Act→World→Prop} {S:World→Prop} {t:Nat} {l:List Oper} {f:Nat} {listed:Array Bool} {a:Act} {w:World} {i j:Nat} {oi oj:Oper}
theorem Xk (F:l[i]? =some oi) (J:Region.ready md l.toArray listed= [i])
 (C:∀K:Act->Wq->Prop,(∀a' w',((listed.setIfInBounds i true).getD t true=false->S w')->wpAnyT P md l.toArray Q S t f (listed.setIfInBounds i true) a' w'->K a' w')->if Region.wanted oi (yielded l.toArray a.tmps) then Oper.wp P oi a w K Q else K (a.put oi.dst undef) w):wpAnyT P md l.toArray Q S t (f+1) listed a w:=by
 refine ⟨λh=>(by rw[J] at h;cases h),λq I=> ?_⟩;rw[J] at I;rw[ZqU.1 I];have D:l.toArray[i]? =some oi:=by rw[ZrM];exact F
 have A:=C (λa' w'=>((listed.setIfInBounds i true).getD t true=false->S w')/\wpAnyT P md l.toArray Q S t f (listed.setIfInBounds i true) a' w') λ_ _ C O=>⟨C,O⟩;unfold wpOp;simp only[D];split
 ·rename_i H;rw[ZqN H] at A;exact Or.inl A
 ·rename_i H;rw[ZqH H] at A;exact A
theorem KP (A:Region.ready md l.toArray listed= []) (h:Q .normal a w):wpAnyT P md l.toArray Q S t 0 listed a w:=⟨A,h⟩
end
end
end Go.Proofs.YtmfinhgobjbecaaGreatDoor
