/- Parts of the proof: contracts and plain laws. -/
import Derived.Test.YtnlafkgkcnenfaaGreatDoorT13
import Derived.Test.YtnlafkgkcnenfaaGreatDoorT15
namespace Go.Proofs.YtnlafkgkcnenfaaGreatDoor
open Go Go.RowKit Go.WideMaps Go.Maps Go.Sort Go.Joins Tryz
set_option linter.unusedVariables false
set_option linter.unusedSimpArgs false
set_option linter.unusedSimpArgs false
set_option maxRecDepth 100000
set_option maxHeartbeats 16000000
theorem ZkM (w:Wq) (q:Nat) (os:Array Obj):Ext w (grow (w.drewN q) os):=
 ⟨rfl,rfl,rfl,by show w.heap.size<=(w.heap++os).size;simp,λk h=>by show (w.heap++os)[k]? =w.heap[k]?;rw[Array.getElem?_append_left h]⟩
theorem IQ (x y:Fc) (w:Wq) (A:isSl x.es) (D:isSl y.es) (I:RStrs w x.p x.f.path) (J:RStrs w y.p y.f.path) (H:x.f.path.length<=16777216):
 Calls prog 70 #[.agg (cellsC x).toArray,.agg (cellsC y).toArray] w λe w'=>e= .returned (nI (feedCmp x.f y.f))/\Ext w w':=
 (Vb x y w A D I J H).mono λe w' ⟨h,q,os,F⟩=>⟨h,by rw[F];exact ZkM w q os⟩
theorem Zeg (v:Value) (l:List Fc) (w:Wq) (hE:Env w) (hr:RFcs w v l) (gc:∀x∈l,RdC w x) (hk:∀x∈l,fokS x.f) (hn:l.length<=1000000):
 Calls prog 86 #[v,.func (.func 87) #[] #[],.func (.func 70) #[] #[],.func (.func 88) #[] #[]] w λe w'=>e= .returned (.bool (okL okF ordF (l.map Fc.f)))/\Ext w w':=by
 obtain ⟨A,c,rfl, -, -⟩:=hr.form;have gq:= @run_makeMap prog;obtain ⟨L,hL⟩:∃L,l.map Fc.f=L:=⟨_,rfl⟩;have h9:L.length=l.length:=by rw[<-hL,Zm]
 have h2:=gd h9;have hZ:Hid (∀(j:Nat) (h:j<l.length),L[j]'(by rw[h9];exact h)=l[j].f):=gd λj h=>by subst hL;rw[XD]
 rw[hL];obtain ⟨R,hR⟩:∃R,okL okF ordF L=R:=⟨_,rfl⟩;rw[hR];have HR:=gd hR;have h5:=gd gc;have HS:=gd hk;have HH:=gd hr;have gf:=gd hE;clear hR hk hr gc hE hL;go_enter func86,ntmps86;go_wp2;go_loopw [15] (λi wr=>∃(k:Nat) (D:DataW Unit),k<=l.length/\i=nI k/\wr.ownsMap prog 9 (plainElem prog 4) w.heap.size k D/\Hid (SeenMap D (λs=>(L.take k).any (λe=>decide (e.id=s))))/\Hid (∀j,j<k->okAt okF ordF L j=true)/\Ext w wr) (λi _=>l.length - (intOf i).toNat)
 case atStart=>exact ⟨0,.map [],Zh _,rfl,World.ownsMap_made _ _ _ _,gd SeenMap.nil,gd (λj h=>by omega),(Ext.refl _).alloc _⟩
 case round=>
  obtain ⟨k,D,hk,rfl,hM,hD,hw,K⟩:=hrel;by_cases hx:k<l.length
  ·obtain ⟨ad,c1,e1,hS⟩:=(RFcs.ext HH.out K).at hx;injection e1 with e1 e1' e1'';subst e1;clear e1' e1'';have hy:l[k]∈l:=ZE hx;have hA:=HS.out _ hy;have ho:=(h5.out _ hy).ext K;have hd:k<L.length:=(by rw[h2.out];exact hx);have hU:=Zn hd;have V:=JZ (ok:=okF) (O:=ordF) hd;have h8:=hZ.out k hx;have hb:∃b,(L.take k).any (λe=>decide (e.id=l[k].f.id))=b:=⟨_,rfl⟩;obtain ⟨b,hb⟩:=hb;rw[h8] at V hU;have hT:b=false->∀j (hj:j<k),ordF.id L[j]≠ordF.id l[k].f:=λe j hj=>QB (id:=Fd.id) (hb.trans e) j (by omega) hj;have ga:b=true->okAt okF ordF L k=false:=λe=>(by rw[Yv];intro h;obtain ⟨j,hj,gi,he⟩:=GC (id:=Fd.id) (hb.trans e);exact (V.1 h).2.2 j gi he);have Y:Hid (okAt okF ordF L k=false->R=false):=gd λh=>(by rw[<-HR.out];exact Zbt hd h);have ha:Hid (SeenMap (D.put (.string l[k].f.id.data.toList) (.lit (.bool true))) (λs=>(L.take (k+1)).any (λe=>decide (e.id=s)))):=gd (hD.out.put λt=>by rw[hU,List.any_append];simp);obtain ⟨E,h7⟩:∃E,l[k]=E:=⟨_,rfl⟩;rw[h7] at hS hA ho hb ha V hT;have Z:=gd V;have hW:=gd hT;have hX:=gd ga;have hI:E.f.id.size<=maxLen:=(by have:=hA.1.2;unfold maxLen;omega);have hi:=gd (keyOf_string_mk underlying9 hI);have HM:=gd hM;have hl:=gd hx;have h3:=gd hd;clear V hT ga hU hy h8 h7;obtain ⟨W1,hG⟩:∃W1,wr.alloc (.cells (cellsC E).toArray 55)=W1:=⟨_,rfl⟩;have hh:Ext wr W1:=(by rw[<-hG];exact (Ext.refl _).alloc _);have hB:=λz:Aft W1=>Eo (hM.kept ((hh.trans z.ext).grown none) (by simp)) hD.out hI;simp only[hb] at hB;have H:=gd (λz:Aft W1=>ZfM E z.w (gf.out.ext (K.trans (hh.trans z.ext))) (ho.ext (hh.trans z.ext)) hA);have I:=gd (λz:Wq=>ZjB E.p E.es E.f z);have hH:W1.heap[wr.heap.size]? =some (.cells (cellsC E).toArray 55):=(by rw[<-hG];exact Zg _ _);have U:=gd hh;have ge:=gd (ho.ext hh);have h6:=gd ho.sl;have gl:(0:Int)<=(k:Int):=(by omega);have gm:(k:Int)<(l.length:Int):=(by omega);have hY:Hid (k<maxLen):=gd (by unfold maxLen;omega);clear hh hM hb ho hA;obtain ⟨EP,EE,⟨path,id,title,link,upd,ents⟩⟩:=E;obtain ⟨⟨EA,EN,EC,hu⟩,⟨EB,EM,ED,hs⟩⟩:=h6.out;dsimp only at hu hs;subst hu hs;unfold cellsC fCells at hG hH H;unfold fCells at I;dsimp only at hG hH H I hS hB ha hi hI;obtain ⟨b0,b1,b2,b3,b4,b5⟩:=ZgP hH;obtain ⟨a0,a1,a2,a3,a4,a5⟩:=hS;have B0:=λz:Aft W1=>Aft.cell b0 z;have B1:=λz:Aft W1=>Aft.cell b1 z;have B2:=λz:Aft W1=>Aft.cell b2 z;have B3:=λz:Aft W1=>Aft.cell b3 z;have B4:=λz:Aft W1=>Aft.cell b4 z;have B5:=λz:Aft W1=>Aft.cell b5 z;clear b0 b1 b2 b3 b4 b5 hH hI;dsimp only at a0 a1 a2 a3 a4 a5;cases hok:okF ⟨path,id,title,link,upd,ents⟩ with
   |false=>
    have hR:=Y.out (by
     rw[Yv];intro h;have h1:=(Z.out.1 h).1;rw[hok] at h1;cases h1)
    subst hR;rw[hok] at H;clear hok;simp only[YV,Vq] at H;go_wp2;refine rA ?_
    repeat (first|go_big_quiet_step ((first|(go_at_call 87;with_reducible exact ZD (H.out _))|(go_at_call 88;with_reducible exact ZD (I.out _))))|quiet_step ((first|(go_at_call 87;with_reducible exact ZD (H.out _))|(go_at_call 88;with_reducible exact ZD (I.out _)))))
    refine Z8 ?_;rintro _ ⟨J,rfl⟩;go_wp2;go_ret;exact ⟨rfl,K.trans (U.out.trans J.ext)⟩
   |true=>
    have h4:=gd hok;rw[hok] at H;clear hok;simp only[J9] at H;rcases YO k with h0|gb
    ·cases b with
     |true=>
      have hR:=Y.out (hX.out rfl);subst hR;subst h0;simp only[Xa,add_zero] at a0 a1 a2 a3 a4 a5;go_wp2;refine rA ?_
      repeat (first|go_big_quiet_step ((first|(go_at_call 87;with_reducible exact ZD (H.out _))|(go_at_call 88;with_reducible exact ZD (I.out _))))|quiet_step ((first|(go_at_call 87;with_reducible exact ZD (H.out _))|(go_at_call 88;with_reducible exact ZD (I.out _)))))
      refine Z8 ?_;rintro _ ⟨J,rfl⟩;go_wp2;go_ret;exact ⟨rfl,K.trans (U.out.trans J.ext)⟩
     |false=>
      have X:=gd (Z.out.2 ⟨h4.out,λh=>absurd h (by omega),hW.out rfl⟩);subst h0;simp only[Xa,add_zero] at a0 a1 a2 a3 a4 a5;go_wp2;refine rA ?_
      repeat (first|go_big_quiet_step ((first|(go_at_call 87;with_reducible exact ZD (H.out _))|(go_at_call 88;with_reducible exact ZD (I.out _))))|quiet_step ((first|(go_at_call 87;with_reducible exact ZD (H.out _))|(go_at_call 88;with_reducible exact ZD (I.out _)))))
      refine Z8 ?_;rintro _ ⟨J,rfl⟩;have hN:=gd (HM.out.kept ((U.out.trans J.ext).grown none) (by simp));have hP:=gd (K.trans (U.out.trans J.ext));have D0:=B0 J;have D1:=B1 J;have D2:=B2 J;have D3:=B3 J;have D4:=B4 J;have D5:=B5 J;clear B0 B1 B2 B3 B4 B5 hB
      go_wp2_with (first|(go_at_call 88;(with_reducible refine Za (I.out _) ?_);rintro e w2 ⟨rfl,hz⟩)|(at_mapUpdate;(refine Uf _ rfl (.tmp 46) (.tmp 49) (.const (.bool true)) 183 rfl 9 4 Ux underlying183 _ w.heap.size 0 D rfl (hN.out.kept (hz.grown none) (by simp)) hY.out _ _ _ rfl rfl hi.out _ [] (plainElem_bool underlying4 true) ?_);intro w5 hp hv))
      have hV:Ext w w5:=Ext.grown' (B:=0) (hP.out.trans hz) hv (λb hb=>by cases hb;exact Zb _);have hO:=gd hp;clear hp hv;go_roundw
      case rel=>exact ⟨0+1,_,hl.out,by go_num,hO.out,ha,gd (λt ht=>by
       by_cases e:t=0
       ·rw[e];exact X.out
       ·exact hw.out t (by omega)),hV⟩
      case measure=>simp[intOf];have:=hl.out;omega
    ·obtain ⟨q,hq⟩:∃q,k=q+1:=⟨k - 1,by omega⟩;have hJ:q<l.length:=(by have:=hl.out;omega);obtain ⟨af,c3,e3,hQ⟩:=(RFcs.ext HH.out (K.trans U.out)).at hJ;injection e3 with e3 e3' e3'';injection e3 with e3;subst e3;clear e3' e3'';have hg:=(h5.out _ (ZE hJ)).ext (K.trans U.out);have hF:=HS.out _ (ZE hJ);have hC:∀h:k - 1<L.length,L[k - 1]=l[q].f:=λh=>(by subst hq;exact hZ.out q hJ);obtain ⟨F,hQ,hg,hF,hC⟩:∃F:Fc,AtFc W1 (ad.add (q*6)) F/\RdC W1 F/\fokS F.f/\(∀h:k - 1<L.length,L[k - 1]=F.f):=⟨_,hQ,hg,hF,hC⟩;have hf:=gd hC;have S:ordF.lt F.f ⟨path,id,title,link,upd,ents⟩=decide (feedCmp F.f ⟨path,id,title,link,upd,ents⟩<0):=rfl;have Q:=gd (λz:Aft W1=>IQ F ⟨.slice EA EN EC,.slice EB EM ED,⟨path,id,title,link,upd,ents⟩⟩ z.w hg.sl.2 h6.out.2 (hg.1.ext z.ext) (ge.out.1.ext z.ext) (by have:=hF.1.2;omega));have gk:=hg.sl;dsimp only at Q;obtain ⟨cc,hc⟩:∃cc,feedCmp F.f ⟨path,id,title,link,upd,ents⟩=cc:=⟨_,rfl⟩;rw[hc] at S;simp only[hc] at Q;clear hC hc hg hF;obtain ⟨FP,FE,FF⟩:=F;obtain ⟨⟨FA,FN,FC,hu⟩,⟨FB,FM,FD,hs⟩⟩:=gk;dsimp only at hu hs;subst hu hs;obtain ⟨k0,k1,k2,k3,k4,k5⟩:=hQ;dsimp only at k0 k1 k2 k3 k4 k5 Q S hf;have C0:=λz:Aft W1=>Aft.cell k0 z;have C1:=λz:Aft W1=>Aft.cell k1 z;have C2:=λz:Aft W1=>Aft.cell k2 z;have C3:=λz:Aft W1=>Aft.cell k3 z;have C4:=λz:Aft W1=>Aft.cell k4 z;have C5:=λz:Aft W1=>Aft.cell k5 z;clear k0 k1 k2 k3 k4 k5;have gn:(0:Int)<(k:Int):=(by omega);have gp:wrap64 ((k:Int) - 1)=(q:Int):=(by rw[Up _ ⟨by omega,by omega⟩];omega);have go:(k:Int) - 1=(q:Int):=(by omega);have gr:(0:Int)<=(q:Int):=(by omega);have gs:(q:Int)<(l.length:Int):=(by omega);unfold cellsC fCells at Q;dsimp only at Q;by_cases hK:cc<0
     ·have hm:Hid (∀h:0<k,ordF.lt (L[k - 1]'(XN (Jg _ _) h3.out)) ⟨path,id,title,link,upd,ents⟩=true):=gd (λh=>by rw[hf.out,S];exact YE hK);have gh:¬(0:Int)<=cc:=(by omega);cases b with
      |true=>
       have hR:=Y.out (hX.out rfl);subst hR;clear S hq hf;go_wp2;refine rA ?_
       repeat (first|go_big_quiet_step ((first|(go_at_call 87;with_reducible exact ZD (H.out _))|(go_at_call 70;with_reducible exact ZD (Q.out _))|(go_at_call 88;with_reducible exact ZD (I.out _))))|quiet_step ((first|(go_at_call 87;with_reducible exact ZD (H.out _))|(go_at_call 70;with_reducible exact ZD (Q.out _))|(go_at_call 88;with_reducible exact ZD (I.out _)))))
       refine Z8 ?_;rintro _ ⟨J,rfl⟩;go_wp2;go_ret;exact ⟨rfl,K.trans (U.out.trans J.ext)⟩
      |false=>
       have X:=gd (Z.out.2 ⟨h4.out,hm.out,hW.out rfl⟩);clear S hq hf hm;go_wp2;refine rA ?_
       repeat (first|go_big_quiet_step ((first|(go_at_call 87;with_reducible exact ZD (H.out _))|(go_at_call 70;with_reducible exact ZD (Q.out _))|(go_at_call 88;with_reducible exact ZD (I.out _))))|quiet_step ((first|(go_at_call 87;with_reducible exact ZD (H.out _))|(go_at_call 70;with_reducible exact ZD (Q.out _))|(go_at_call 88;with_reducible exact ZD (I.out _)))))
       refine Z8 ?_;rintro _ ⟨J,rfl⟩;have hN:=gd (HM.out.kept ((U.out.trans J.ext).grown none) (by simp));have hP:=gd (K.trans (U.out.trans J.ext));have D0:=B0 J;have D1:=B1 J;have D2:=B2 J;have D3:=B3 J;have D4:=B4 J;have D5:=B5 J;clear B0 B1 B2 B3 B4 B5 hB
       go_wp2_with (first|(go_at_call 88;(with_reducible refine Za (I.out _) ?_);rintro e w2 ⟨rfl,hz⟩)|(at_mapUpdate;(refine Uf _ rfl (.tmp 46) (.tmp 49) (.const (.bool true)) 183 rfl 9 4 Ux underlying183 _ w.heap.size k D rfl (hN.out.kept (hz.grown none) (by simp)) hY.out _ _ _ rfl rfl hi.out _ [] (plainElem_bool underlying4 true) ?_);intro w5 hp hv))
       have hV:Ext w w5:=Ext.grown' (B:=0) (hP.out.trans hz) hv (λb hb=>by cases hb;exact Zb _);have hO:=gd hp;clear hp hv;go_roundw
       case rel=>exact ⟨k+1,_,hl.out,by go_num,hO.out,ha,gd (λt ht=>by
        by_cases e:t=k
        ·rw[e];exact X.out
        ·exact hw.out t (by omega)),hV⟩
       case measure=>simp[intOf];have:=hl.out;omega
     ·have hR:=Y.out (by
       rw[Yv];intro h;have h1:=(Z.out.1 h).2.1 gb;rw[hf.out,S] at h1;exact hK (Yw h1))
      subst hR;have gh:(0:Int)<=cc:=(by omega);clear S hq hf;go_wp2;refine rA ?_
      repeat (first|go_big_quiet_step ((first|(go_at_call 87;with_reducible exact ZD (H.out _))|(go_at_call 70;with_reducible exact ZD (Q.out _))|(go_at_call 88;with_reducible exact ZD (I.out _))))|quiet_step ((first|(go_at_call 87;with_reducible exact ZD (H.out _))|(go_at_call 70;with_reducible exact ZD (Q.out _))|(go_at_call 88;with_reducible exact ZD (I.out _)))))
      refine Z8 ?_;rintro _ ⟨J,rfl⟩;go_wp2;go_ret;exact ⟨rfl,K.trans (U.out.trans J.ext)⟩
  ·have gj:k=l.length:=(by omega);subst gj;have gg:R=true:=(by rw[<-HR.out];exact Zdn (by rw[h2.out];exact hw.out));subst gg;go_wp2;go_ret;exact ⟨rfl,K⟩
theorem ZfK (v:Value) (l:List Fc) (w:Wq) (K:Env w) (F:RFcs w v l) (D:∀x∈l,RdC w x) (R:∀x∈l,fokS x.f) (S:l.length<=1000000):
 Calls prog 43 #[.agg #[v]] w λe w'=>e= .returned (nI (if okA (l.map Fc.f)=true then 0 else 22))/\Ext w w':=by
 have J:=gd (λ(w':Wq) (h:Ext w w')=>Zeg v l w' (K.ext h) (F.ext h) (λx U=>(D x U).ext h) R S);have I:=gd (λw'=>XJ (okL okF ordF (l.map Fc.f)) w');unfold okA;obtain ⟨b,Q⟩:∃b,okL okF ordF (l.map Fc.f)=b:=⟨_,rfl⟩;simp only[Q] at J I|-;obtain ⟨A,c,rfl, -, -⟩:=F.form;clear Q F D R K;go_enter func43,ntmps43
 go_wp2_with (first|(go_at_call 86;(with_reducible refine Za (J.out _ ((Ext.refl w).alloc _)) ?_);rintro e1 w1 ⟨rfl,H⟩)|(go_at_call 85;(with_reducible refine Za (I.out _) ?_);rintro e2 w2 ⟨rfl,rfl⟩))
 all_goals go_ret
 all_goals exact ⟨rfl,((Ext.refl _).alloc _).trans H⟩
section
variable {N:Nat} {nm:List UInt8}
mutual
def Nd.small (N:Nat):Nd->Prop
 | .mk k s n al ks t a=>k=0/\s= []/\n.length<=7/\al.length<=4/\(∀b∈al,b.space= []/\b.name.length<=7/\b.value.length<=N/\b.at_=0)/\ks.length<=N/\t= []/\a=0/\Nds.small N ks
def Nds.small (N:Nat):List Nd->Prop
 | []=>True
 |x::t=>x.small N/\Nds.small N t
end
theorem Qi {N:Nat}:∀l:List Nd,Nds.small N l↔∀x∈l,x.small N
 | []=>by rw[Nds.small];simp
 |x::t=>by rw[Nds.small,Qi t];simp
theorem ZbW (v:Bool):∀l:List UInt8,(wescL v l).length<=6*l.length
 | []=>Zb _
 |c::t=>by
  have ih:=ZbW v t
  have h:(wescC v c).length<=6:=by
   unfold wescC wescB
   repeat' split
   all_goals simp
  show (wescC v c++wescL v t).length<=_
  rw[Zc,Zd]
  omega
theorem Kw {N:Nat}:∀al:List AtP,(∀b∈al,b.space= []/\b.name.length<=7/\b.value.length<=N/\b.at_=0)->(attrsW al).length<=al.length*(6*N+11)
 | [],_=>Zh _
 |b::t,h=>by
  have ih:=Kw t λx A=>h x (Zu _ A)
  obtain ⟨_,F,H,_⟩:=h b ZF
  have I:=ZbW true b.value
  have D:(attrW b).length<=6*N+11:=by
   unfold attrW
   simp only[Zc,Zd,ZM]
   omega
  show (attrW b++attrsW t).length<=_
  rw[Zc,Zd,Nat.add_mul]
  omega
mutual
theorem ZdB {N:Nat}:∀n:Nd,n.small N->(nodeW n).length<=n.cnt*(24*N+100)
 | .mk k s n al ks t a,h=>by
  rw[Nd.small] at h
  obtain ⟨rfl,rfl,hn,ha,hb,hk,rfl,rfl,hs⟩:=h
  have ih:=ZbO ks hs
  have h1:=Kw al hb
  have h2:al.length*(6*N+11)<=4*(6*N+11):=Nat.mul_le_mul_right _ ha
  rw[nodeW,Ze (by decide),Nd.cnt,Nat.add_mul]
  split
  ·simp only[Zc,Zd,ZM]
   omega
  ·simp only[Zc,Zd,ZM]
   omega
theorem ZbO {N:Nat}:∀l:List Nd,Nds.small N l->(nodesW l).length<=Nds.cnt l*(24*N+100)
 | [],_=>by rw[nodesW];exact Zh _
 |x::t,h=>by
  rw[Nds.small] at h
  have h1:=ZdB x h.1
  have h2:=ZbO t h.2
  rw[nodesW,Zc,Nds.cnt,Nat.add_mul]
  omega
end
mutual
theorem ZbN {N:Nat} (hN:7<=N):∀n:Nd,n.small N->n.fits N
 | .mk k s n al ks t a,h=>by
  rw[Nd.small] at h
  obtain ⟨rfl,rfl,hn,ha,hb,hk,rfl,rfl,hs⟩:=h
  rw[Nd.fits]
  refine ⟨by decide,Zh _,by omega,by omega,λb hb'=> ?_,hk,Zh _,Zh _,E8 hN ks hs⟩
  obtain ⟨e1,e2,e3,e4⟩:=hb b hb'
  refine ⟨by rw[e1];exact Zh _,by omega,by omega,by omega⟩
theorem E8 {N:Nat} (hN:7<=N):∀l:List Nd,Nds.small N l->Nds.fits N l
 | [],_=>by rw[Nds.fits];trivial
 |x::t,h=>by
  rw[Nds.small] at h
  rw[Nds.fits]
  exact ⟨ZbN hN x h.1,E8 hN t h.2⟩
end
def smF (N:Nat) (f:Fd):Prop:=(∀p∈f.path,p.size<=N)/\f.id.size<=N/\f.title.size<=N/\f.link.size<=N
theorem Zfa {f:Fd} (J:3<=N) (h:smF N f):(feedN f).small N/\(feedN f).cnt=1:=by
 obtain ⟨_,F,H,I⟩:=h;have e:feedN f=if f.link.size=0 then .mk 0 [] outlineL ([(typeL,rssL),(textL,lst f.title),(xmlUrlL,lst f.id)].map pairA) [] [] 0 else .mk 0 [] outlineL ([(typeL,rssL),(textL,lst f.title),(xmlUrlL,lst f.id)].map pairA++ [(htmlUrlL,lst f.link)].map pairA) [] [] 0:=by unfold feedN;dsimp only;split<;>rfl
 have D:∀b∈([(typeL,rssL),(textL,lst f.title),(xmlUrlL,lst f.id),(htmlUrlL,lst f.link)]:List _).map pairA,b.space= []/\b.name.length<=7/\b.value.length<=N/\b.at_=0:=by
  intro b A;simp only[Zw,Yc,ZK,Z2,Xc] at A;rcases A with rfl|rfl|rfl|rfl
  ·exact ⟨rfl,by decide,J,rfl⟩
  ·exact ⟨rfl,by show 4<=7;decide,H,rfl⟩
  ·exact ⟨rfl,by show 6<=7;decide,F,rfl⟩
  ·exact ⟨rfl,by show 7<=7;decide,I,rfl⟩
 rw[e];split
 ·refine ⟨?_,by rw[Nd.cnt,Nds.cnt]⟩;rw[Nd.small];exact ⟨rfl,rfl,by decide,by show 3<=4;decide,λb A=>D b (by simp only[Zw,Yc,ZK,Z2,Xc] at A|-;rcases A with h|h|h<;>simp[h]),Zh _,rfl,rfl,by rw[Nds.small];trivial⟩
 ·refine ⟨?_,by rw[Nd.cnt,Nds.cnt]⟩;rw[Nd.small];exact ⟨rfl,rfl,by decide,by show 4<=4;decide,λb A=>D b A,Zh _,rfl,rfl,by rw[Nds.small];trivial⟩
theorem V4 {K:List Nd} {ps:List (List UInt8×List UInt8)} (H:nm.length<=7) (hK:elems K) (J:Nds.small N K) (F:K.length<=N) (I:ps.length<=4) (A:∀p∈ps,p.1.length<=7/\p.2.length<=N):
 (withP (elemN nm K) ps).small N/\(withP (elemN nm K) ps).cnt=1+Nds.cnt K:=by
 have e:withP (elemN nm K) ps= .mk 0 [] nm (ps.map pairA) K [] 0:=by unfold elemN;rw[XT hK];rfl
 rw[e];refine ⟨?_,by rw[Nd.cnt]⟩;rw[Nd.small];refine ⟨rfl,rfl,H,by rw[Zm];exact I,λb D=> ?_,F,rfl,rfl,J⟩;obtain ⟨p,h,rfl⟩:=ZS.1 D;exact ⟨rfl,(A p h).1,(A p h).2,rfl⟩
theorem EK {N:Nat} (A:3<=N):∀l:List Fd,(∀x∈l,smF N x)->Nds.small N (l.map feedN)/\Nds.cnt (l.map feedN)=l.length
 | [],_=>⟨by rw[Yc,Nds.small];trivial,by rw[Yc,Nds.cnt];rfl⟩
 |x::t,h=>by
  obtain ⟨D,F⟩:=Zfa A (h x ZF)
  obtain ⟨H,I⟩:=EK A t λy J=>h y (Zu _ J)
  rw[Zw,Nds.small,Nds.cnt,F,I,Zd]
  exact ⟨⟨D,H⟩,by omega⟩
theorem EU {N c:Nat} {rec_:List Fd->List Nd} {d:Nat} (S:3<=N) (A:∀g:List Fd,(∀x∈g,smF N x)->g.length<=N->elems (rec_ g)/\Nds.small N (rec_ g)/\(rec_ g).length<=g.length/\Nds.cnt (rec_ g)<=c*g.length):
 ∀(f:Nat) (l:List Fd),(∀x∈l,smF N x)->l.length<=N->Nds.small N (foldsP rec_ d f l)/\(foldsP rec_ d f l).length<=l.length/\Nds.cnt (foldsP rec_ d f l)<=(c+1)*l.length
 |0,l,_,_=>by rw[foldsP];exact ⟨by rw[Nds.small];trivial,Zh _,by rw[Nds.cnt];exact Zh _⟩
 |f+1,[],_,_=>by rw[foldsP];exact ⟨by rw[Nds.small];trivial,Zh _,by rw[Nds.cnt];exact Zh _⟩
 |f+1,x::t,h,hl=>by
  obtain ⟨n,H⟩:∃n,((x::t).takeWhile λy=>decide (pathAt y d=pathAt x d)).length=n:=⟨_,rfl⟩;have D:=KN x t d;have U:n<=(x::t).length:=by rw[<-H];exact (YG _).length_le
  rw[H] at D;rw[foldsP];(try dsimp only);rw[H];have I:(pathAt x d).size<=N:=by
   unfold pathAt;rw[ZW];cases hq:x.path[d]? with
   |none=>exact Zh _
   |some p=>exact (h x ZF).1 p (List.mem_of_getElem? hq)
  have J:((x::t).take n).length=n:=by rw[ZL];omega
  have F:((x::t).drop n).length=(x::t).length - n:=Zj;obtain ⟨r1,r2,r3,r4⟩:=A ((x::t).take n) (λy K=>h y (Y2 K)) (by omega);obtain ⟨Q,R⟩:=V4 (N:=N) (nm:=outlineL) (ps:= [(textL,lst (pathAt x d))]) (by decide) r1 r2 (by omega) (by show 1<=4;decide) (λp V=>by rw[Zo.1 V];exact ⟨by show 4<=7;decide,I⟩);obtain ⟨X,Y,Z⟩:=EU (d:=d) S A f ((x::t).drop n) (λy K=>h y (Yr K)) (by omega);rw[J] at r3 r4;rw[F] at Y Z;refine ⟨by rw[Nds.small];exact ⟨Q,X⟩,by rw[Zd];omega,?_⟩;rw[Nds.cnt,R];have e1:(c+1)*(x::t).length=(c+1)*n+(c+1)*((x::t).length - n):=by rw[<-Nat.mul_add];congr 1;omega
  have e2:(c+1)*n=c*n+n:=by rw[Nat.add_mul,Nat.one_mul]
  rw[e1,e2];omega
theorem Zbu {N:Nat} (F:3<=N):∀(f d:Nat) (l:List Fd),(∀x∈l,smF N x)->l.length<=N->Nds.small N (outsP f d l)/\(outsP f d l).length<=l.length/\Nds.cnt (outsP f d l)<=(f+1)*l.length
 |0,d,l,_,_=>by rw[outsP];exact ⟨by rw[Nds.small];trivial,Zh _,by rw[Nds.cnt];exact Zh _⟩
 |f+1,d,l,h,hl=>by
  obtain ⟨n,Q⟩:∃n,(l.takeWhile λx=>decide (x.path.length=d)).length=n:=⟨_,rfl⟩
  have J:l.takeWhile (λx=>decide (x.path.length=d))=l.take n:=by rw[<-Q];exact YX.1 (XG _)
  have U:n<=l.length:=by rw[<-Q];exact (YG _).length_le
  have A:(l.take n).length=n:=by rw[ZL];omega
  have H:(l.drop n).length=l.length - n:=Zj
  rw[outsP,J,A]
  obtain ⟨R,K⟩:=EK F (l.take n) λx D=>h x (Y2 D)
  obtain ⟨b1,b2,b3⟩:=EU (c:=f+1) (d:=d) (rec_:=outsP f (d+1)) F (λg S I=>by
   obtain ⟨r1,V,r3⟩:=Zbu F f (d+1) g S I
   exact ⟨JI _ _ _,r1,V,r3⟩) (l.length+1) (l.drop n) (λx D=>h x (Yr D)) (by omega)
  rw[H] at b2 b3
  rw[A] at K
  refine ⟨(Qi _).2 λx D=>(Zx.1 D).elim ((Qi _).1 R x) ((Qi _).1 b1 x),by rw[Zc,Zm,A];omega,?_⟩
  rw[Nds.cnt_app,K]
  have e1:(f+1+1)*l.length=(f+1+1)*n+(f+1+1)*(l.length - n):=by rw[<-Nat.mul_add];congr 1;omega
  have e2:n<=(f+1+1)*n:=Nat.le_mul_of_pos_left _ (by omega)
  rw[e1]
  omega
theorem ZiS {l:List Fd} (h:∀x∈l,smF 10000 x) (U:l.length<=10000):(encP l).small 10000/\(encP l).fits 10000/\(docW (encP l)).length<=140737488355328/\(encP l).cnt<=700000:=by
 obtain ⟨V,o2,o3⟩:=Zbu (N:=10000) (by decide) 66 0 l h U;have S:elemN headL []=withP (elemN headL []) []:=rfl;have R:elemN bodyL (outsP 66 0 l)=withP (elemN bodyL (outsP 66 0 l)) []:=by unfold elemN withP;simp
 obtain ⟨b1,b2⟩:=V4 (N:=10000) (nm:=bodyL) (ps:= []) (by decide) (JI 66 0 l) V (by omega) (by decide) (by intro p F;cases F);obtain ⟨c1,c2⟩:=V4 (N:=10000) (nm:=headL) (K:= []) (ps:= []) (by decide) (by intro k A;cases A) (by rw[Nds.small];trivial) (Zh _) (by decide) (by intro p F;cases F);rw[<-R] at b1 b2;rw[<-S] at c1 c2;have H:elems [elemN headL [],elemN bodyL (outsP 66 0 l)]:=λk A=>by
  rcases ZK.1 A with rfl|A
  ·rfl
  ·rw[Zo.1 A];rfl
 obtain ⟨I,X⟩:=V4 (N:=10000) (nm:=opmlL) (ps:= [(versionL,twoL)]) (by decide) H (by rw[Nds.small,Nds.small,Nds.small];exact ⟨c1,b1,trivial⟩) (by show 2<=10000;decide) (by show 1<=4;decide) (λp F=>by rw[Zo.1 F];exact ⟨by decide,by decide⟩);have D:=ZdB _ I;have J:(encP l).cnt<=700000:=by show (withP (elemN opmlL [elemN headL [],elemN bodyL (outsP 66 0 l)]) [(versionL,twoL)]).cnt<=_;rw[X,Nds.cnt,Nds.cnt,Nds.cnt,b2,c2,Nds.cnt];omega
 have Y:(encP l).cnt*(24*10000+100)<=700000*(24*10000+100):=Nat.mul_le_mul_right _ J;unfold docW;rw[Zc,Zc];have Q:headW.length=39:=rfl;have Z:(nodeW (encP l)).length<=(encP l).cnt*(24*10000+100):=D;rw[Q];refine ⟨I,ZbN (by decide) _ I,?_,J⟩;show 39+_+1<=_;omega
theorem ZcK {l:List Fd} (h:∀x∈l,smF 10000 x) (H:l.length<=10000):(encP l).small 10000/\(encP l).fits 10000/\(docW (encP l)).length<=140737488355328:=by
 obtain ⟨A,D,F, -⟩:=ZiS h H;exact ⟨A,D,F⟩
end
theorem ZlT (v:Bool) {c:UInt8} (h:c=38):wescB v c= [38,97,109,112,59]:=by subst h;rfl
theorem ZlU (v:Bool) {c:UInt8} (h:c=60):wescB v c= [38,108,116,59]:=by subst h;rfl
theorem ZlV (v:Bool) {c:UInt8} (h:c=62):wescB v c= [38,103,116,59]:=by subst h;rfl
theorem ZlR (v:Bool) {c:UInt8} (h:c=13):wescB v c= [38,35,49,51,59]:=by subst h;rfl
theorem ZlS {c:UInt8} (h:c=34):wescB true c= [38,113,117,111,116,59]:=by subst h;rfl
theorem ZmJ {c:UInt8} (h:c=9):wescB true c= [38,35,57,59]:=by subst h;rfl
theorem ZlQ {c:UInt8} (h:c=10):wescB true c= [38,35,49,48,59]:=by subst h;rfl
theorem ZmK {c:UInt8} (h:c≠38) (A:c≠60) (D:c≠62) (F:c≠13):wescB false c= []:=by unfold wescB;rw[Ze h,Ze A,Ze D,Ze F];rfl
theorem ZmL {c:UInt8} (h:c≠38) (A:c≠60) (D:c≠62) (F:c≠13) (H:c≠34) (I:c≠9) (J:c≠10):wescB true c= []:=by
 unfold wescB;rw[Ze h,Ze A,Ze D,Ze F,Ze (by decide),Ze H,Ze I,Ze J]
theorem VU {c d:UInt8} (h:c=d):((c.toNat:Int)==(d.toNat:Int))=true:=by rw[h];simp
theorem J3 {c d:UInt8} (h:c≠d):((c.toNat:Int)==(d.toNat:Int))=false:=by
 rw[ZG];intro e;exact h (Xb.1 (by omega))
theorem Zlw (v:Bool) (Z:Int) (hk:(Z==0)= !v) (c:UInt8) (w:Wq):
 Calls prog 127 #[nI Z,.int .u8 (c.toNat:Nat)] w λe w'=>e= .returned (.string (str (wescB v c)))/\w'=w:=by
 obtain ⟨L,J⟩:∃L,wescB v c=L:=⟨_,rfl⟩;rw[J];by_cases A:c=38;have V:((c.toNat:Int)==38)=true:=VU A;have K:L= [38,97,109,112,59]:=J.symm.trans (ZlT v A)
 rotate_left
 have V:((c.toNat:Int)==38)=false:=J3 A;by_cases D:c=60;have X:((c.toNat:Int)==60)=true:=VU D;have K:L= [38,108,116,59]:=J.symm.trans (ZlU v D)
 rotate_left
 have X:((c.toNat:Int)==60)=false:=J3 D;by_cases F:c=62;have Y:((c.toNat:Int)==62)=true:=VU F;have K:L= [38,103,116,59]:=J.symm.trans (ZlV v F)
 rotate_left
 have Y:((c.toNat:Int)==62)=false:=J3 F;by_cases h:c=13;have S:((c.toNat:Int)==13)=true:=VU h;have K:L= [38,35,49,51,59]:=J.symm.trans (ZlR v h)
 rotate_left
 have S:((c.toNat:Int)==13)=false:=J3 h;cases v;have K:L= []:=J.symm.trans (ZmK A D F h)
 rotate_left
 by_cases I:c=34;have U:((c.toNat:Int)==34)=true:=VU I;have K:L= [38,113,117,111,116,59]:=J.symm.trans (ZlS I)
 rotate_left
 have U:((c.toNat:Int)==34)=false:=J3 I;by_cases Q:c=9;have q9:((c.toNat:Int)==9)=true:=VU Q;have K:L= [38,35,57,59]:=J.symm.trans (ZmJ Q)
 rotate_left
 have q9:((c.toNat:Int)==9)=false:=J3 Q;by_cases H:c=10;have R:((c.toNat:Int)==10)=true:=VU H;have K:L= [38,35,49,48,59]:=J.symm.trans (ZlQ H)
 rotate_left
 have R:((c.toNat:Int)==10)=false:=J3 H;have K:L= []:=J.symm.trans (ZmL A D F h I Q H)
 all_goals
  subst K
  clear J
  (try clear A)
  (try clear D)
  (try clear F)
  (try clear h)
  (try clear I)
  (try clear Q)
  (try clear H)
  go_enter func127,ntmps127
  go_wp2
  go_ret
  exact ⟨rfl,rfl⟩
theorem ZdI (v:Bool) (c:UInt8):(wescB v c).length<=6:=by
 unfold wescB
 repeat' split
 all_goals decide
theorem Et (v:Bool):∀l:List UInt8,(wescL v l).length<=6*l.length
 | []=>Zb _
 |c::t=>by
  have h:=Et v t
  have A:=ZdI v c
  rw[wescL,Zc,Zd]
  unfold wescC
  split
  ·simp only[Zd,ZM];omega
  ·omega
theorem ZbU (v:Bool):∀a b:List UInt8,wescL v (a++b)=wescL v a++wescL v b
 | [],b=>rfl
 |c::t,b=>by
  show wescC v c++wescL v (t++b)=(wescC v c++wescL v t)++wescL v b
  rw[ZbU v t b,ZQ]
theorem ZhW (v:Bool) (s:ByteArray) (k:Nat) (h:k<s.size):wescL v (s.data.toList.take (k+1))=wescL v (s.data.toList.take k)++wescC v s[k]:=by
 rw[Zn (by rw[ZO];exact h),ZbU]
 congr 1
 show wescC v _++ []=_;rw[ZX];rfl
theorem Ze8 (v:Bool) (kv:Int) (hh:(kv==0)= !v) (s:ByteArray) (w:Wq) (hs:s.size<=16777216):
 Calls prog 126 #[nI kv,.func (.func 127) #[] #[],.string s] w λe w'=>e= .returned (.string (str (wescL v s.data.toList)))/\Ext w w':=by
 obtain ⟨Q,hQ⟩:∃Q,wescL v s.data.toList=Q:=⟨_,rfl⟩;rw[hQ];have HQ:=gd hQ;have hl:=gd hh;clear hQ hh;go_enter func126,ntmps126;go_wp2;go_loopw [8,9,10,13] (λfr _ _ i wr=>∃k f:Nat,k<=s.size/\f<=k/\i=nI k/\fr=nI f/\Lib.IsBuilder 96 5 w.heap.size w.heap.size (Lib.byteCells (wescL v (s.data.toList.take f))) wr/\
  Hid (wescL v (s.data.toList.take k)=wescL v (s.data.toList.take f)++(s.data.toList.drop f).take (k - f))/\Ext w wr/\w.heap.size<=wr.heap.size) (λ_ _ _ i _=>s.size - (intOf i).toNat)
 case atStart=>exact ⟨0,0,Zh _,Zh _,rfl,rfl,Lib.fresh_isBuilder _ _ _,(by show _=_;simp),(Ext.refl w).alloc _,(by rw[Zp];omega)⟩
 case round=>
  obtain ⟨k,f,hk,hf,rfl,rfl,hB,hq,ha,F⟩:=hrel;have hu:(wescL v (s.data.toList.take f)).length<=6*s.size:=by have h1:=Et v (s.data.toList.take f);have h2:(s.data.toList.take f).length<=s.size:=(by rw[ZL,ZO];omega);omega
  by_cases hi:k<s.size
  ·have K:=Zlw v kv hl.out s[k] wr;have A:=ZhW v s k hi;have H:=ZlA s f k hf hi;unfold wescC at A;have D:=ZdI v s[k];obtain ⟨E,Z⟩:∃E,wescB v s[k]=E:=⟨_,rfl⟩;rw[Z] at K A D;have hc:=gd K;by_cases Y:E= []
   ·subst Y;rw[Zi rfl] at A;have X:Hid (wescL v (s.data.toList.take (k+1))=wescL v (s.data.toList.take f)++(s.data.toList.drop f).take (k+1 - f)):=(by show _=_;rw[A,hq.out,H,ZQ]);have hp:(str ([]:List UInt8)).toList.isEmpty=true:=QQ [];clear K A H Z hq D
    go_wp2_with (first|(go_at_call 127;refine Za hc.out ?_;rintro e w' ⟨rfl,rfl⟩))
    go_roundw
    case rel=>exact ⟨k+1,f,by omega,by omega,by go_num,rfl,hB,X,ha,F⟩
    case measure=>simp[intOf];omega
   ·rw[Ze Y] at A;have X:Hid (Lib.byteCells (wescL v (s.data.toList.take (k+1)))=Lib.byteCells (wescL v (s.data.toList.take f))++Lib.byteCells (s.extract f k).data.toList++Lib.byteCells (str E).data.toList):=(by show _=_;rw[A,hq.out,KK s f k hf,Yb,YM,YM]);have hp:(str E).toList.isEmpty=false:=(by rw[QQ];cases E<;>simp_all);have U:(s.extract f k).size<=16777216:=(by rw[ByteArray.size_extract];omega);have V:(str E).size<=6:=(by rw[YH];exact D);have hd:=gd U;have hn:=gd V;clear K A H Z hq Y U V D
    go_wp2_with (first|(go_at_call 127;refine Za hc.out ?_;rintro e w' ⟨rfl,rfl⟩))
    refine (Jb _ _ _ _ _ hB (by rw[XI];have:=hd.out;omega) F).mono ?_;rintro e w4 ⟨rfl,J,I⟩
    go_wp2_with fail
    have hr:(Lib.byteCells (wescL v (s.data.toList.take f))++Lib.byteCells (s.extract f k).data.toList).length<=6*s.size+16777216:=(by rw[Zc,XI,XI];have h1:(s.extract f k).data.toList.length=(s.extract f k).size:=rfl;have h2:=hd.out;omega);have hm:=gd hr;have hv:=I.size;refine (Jb _ _ _ _ _ J (by have:=hm.out;have:=hn.out;omega) (by omega)).mono ?_;rintro e w5 ⟨rfl,he,R⟩;rw[<-X.out] at he;go_wp2;have hb:Ext w w5:=(ha.then (Zio I (Zb _))).then (Zio R (Zb _));have ht:=R.size;go_roundw
    case rel=>exact ⟨k+1,k+1,by omega,by omega,by go_num,by go_num,he,by show _=_;simp,hb,by omega⟩
    case measure=>simp[intOf];omega
  ·have hg:k=s.size:=(by omega);have hj:(s.extract f s.size).size<=16777216:=(by rw[ByteArray.size_extract];omega);have S:Lib.byteCells (wescL v (s.data.toList.take f))++Lib.byteCells (s.extract f s.size).data.toList=Lib.byteCells Q:=by
    rw[<-YM,ZaX]
    congr 1
    have h:=hq.out;have e1:s.data.toList.take s.size=s.data.toList:=ZR (by rw[ZO];exact Zb _);have e2:(s.data.toList.drop f).take (s.size - f)=s.data.toList.drop f:=ZR (by rw[Zj,ZO];exact Zb _);rw[hg,e1,e2,HQ.out] at h;exact h.symm
   have HF:=gd S;have ho:=gd hj;clear S hq hg hj
   go_wp2_with fail
   refine (Jb _ _ _ (s.extract f s.size) _ hB (by rw[XI];have:=ho.out;omega) F).mono ?_;rintro e w4 ⟨rfl,J,I⟩;rw[HF.out] at J;have ht:=I.size;have R:Ext w w4:=ha.then (Zio I (Zb _))
   go_wp2_with (go_at_call 56;refine (JT _ _ _ _ J (by omega)).mono ?_;rintro e w5 ⟨rfl,hb⟩)
   go_ret;exact ⟨rfl,R.then (Zio hb (Zb _))⟩
theorem ZgD (s:ByteArray) (w:Wq) (h:s.size<=16777216):
 Calls prog 83 #[.string s] w λe w'=>e= .returned (.string (str (wescL false s.data.toList)))/\Ext w w':=by
 have H:=gd (Ze8 false 0 rfl s w h);go_enter func83,ntmps83
 go_wp2_with (go_at_call 126;refine Za H.out ?_;rintro e w' ⟨rfl,A⟩)
 go_ret;exact ⟨rfl,A⟩
theorem ZgC (s:ByteArray) (w:Wq) (h:s.size<=16777216):
 Calls prog 84 #[.string s] w λe w'=>e= .returned (.string (str (wescL true s.data.toList)))/\Ext w w':=by
 have H:=gd (Ze8 true 1 rfl s w h);go_enter func84,ntmps84
 go_wp2_with (go_at_call 126;refine Za H.out ?_;rintro e w' ⟨rfl,A⟩)
 go_ret;exact ⟨rfl,A⟩
theorem Zcy (s:ByteArray) (w:Wq) (K:Env w) (R:s.size<=16777216):
 Calls prog 177 #[.string s] w λe w'=>e= .returned (.bool (charsOk s.data.toList))/\Ext w w':=by
 have A:=Vy s w K (by unfold maxLen;omega);have I:charsOk s.data.toList=decide ((checkS s).2=0):=rfl;obtain ⟨a,F⟩:∃a,(checkS s).1=a:=⟨_,rfl⟩;obtain ⟨b,D⟩:∃b,(checkS s).2=b:=⟨_,rfl⟩;rw[I];rw[F,D] at A;rw[D];have H:=gd A;clear A I F D;have J:((b:Int)==0)=decide (b=0):=by
  by_cases h:b=0
  ·rw[h];rfl
  ·rw[Ya h,ZG];omega
 rw[<-J];clear J;go_enter func177,ntmps177
 go_wp2_with (go_at_call 150;refine Za H.out ?_;rintro e w' ⟨rfl,Q⟩)
 go_ret;exact ⟨rfl,Q⟩
section
variable {j r:Nat}
def startL:List (Nat×Nat):= [(65,90),(95,95),(97,122),(192,214),(216,246),(248,767),(880,893),(895,8191),(8204,8205),(8304,8591),(11264,12271),(12289,55295),(63744,64975),(65008,65533),(65536,983039)]
def moreL:List (Nat×Nat):= [(45,46),(48,57),(183,183),(768,879),(8255,8256)]
def pairCells (l:List (Nat×Nat)):Array Value:=(l.flatMap λp=> [Value.int .i32 (p.1:Nat),Value.int .i32 (p.2:Nat)]).toArray
def inL (l:List (Nat×Nat)) (r:Nat):Bool:=l.any λp=>decide (p.1<=r) && decide (r<=p.2)
theorem Zic {l:List (Nat×Nat)} (D:j<l.length) (h:l[j].1<=r) (A:r<=l[j].2):inL (l.drop j) r=true:=by
 unfold inL;rw[Zk D,List.any_cons,YE h,YE A];rfl
theorem Zfq {l:List (Nat×Nat)} (A:j<l.length) (h:¬(l[j].1<=r/\r<=l[j].2)):inL (l.drop j) r=inL (l.drop (j+1)) r:=by
 unfold inL;rw[Zk A,List.any_cons];have:(decide (l[j].1<=r) && decide (r<=l[j].2))=false:=by rw[Bool.and_eq_false_iff,Jv,Jv];omega
 rw[this,Bool.false_or]
theorem Zi9 (r:Nat):inL startL r=nmStart r:=by
 unfold inL startL nmStart;simp only[List.any_cons,List.any_nil,Bool.or_false];rw[YZ];simp only[ZnP,ZH,ZU];omega
theorem ZkX (r:Nat):(inL moreL r||nmStart r)=nmChar r:=by
 unfold nmChar;rw[Bool.or_comm]
 congr 1
 unfold inL moreL;simp only[List.any_cons,List.any_nil,Bool.or_false];rw[YZ];simp only[ZnP,ZH,ZU];omega
structure NmTabs (w:Wq):Prop where
 start:∃t fr,w.heap[2]? =some (.cells (pairCells startL) t fr)
 more:∃t fr,w.heap[1]? =some (.cells (pairCells moreL) t fr)
theorem NmTabs.ext {w w':Wq} (h:NmTabs w) (D:Ext w w'):NmTabs w':=by
 obtain ⟨⟨t,fr,F⟩,⟨I,A,H⟩⟩:=h;exact ⟨⟨t,fr,D.heap F⟩,⟨I,A,D.heap H⟩⟩
theorem UR:(prog.info? 284).map (·.size)=some 2:=by kernel_rfl
theorem Zgn:∀(j:Nat) (h:j<startL.length) (w:Wq),(Instr.index 286 (.agg (pairCells startL)) (nI (j:Nat))).run prog w= .ok (.agg #[.int .i32 (startL[j].1:Nat),.int .i32 (startL[j].2:Nat)]) w
 |0,_,w=>by kernel_rfl
 |1,_,w=>by kernel_rfl
 |2,_,w=>by kernel_rfl
 |3,_,w=>by kernel_rfl
 |4,_,w=>by kernel_rfl
 |5,_,w=>by kernel_rfl
 |6,_,w=>by kernel_rfl
 |7,_,w=>by kernel_rfl
 |8,_,w=>by kernel_rfl
 |9,_,w=>by kernel_rfl
 |10,_,w=>by kernel_rfl
 |11,_,w=>by kernel_rfl
 |12,_,w=>by kernel_rfl
 |13,_,w=>by kernel_rfl
 |14,_,w=>by kernel_rfl
 |j+15,h,w=>absurd h (by show ¬j+15<15;omega)
theorem Zhq:∀(j:Nat) (h:j<moreL.length) (w:Wq),(Instr.index 285 (.agg (pairCells moreL)) (nI (j:Nat))).run prog w= .ok (.agg #[.int .i32 (moreL[j].1:Nat),.int .i32 (moreL[j].2:Nat)]) w
 |0,_,w=>by kernel_rfl
 |1,_,w=>by kernel_rfl
 |2,_,w=>by kernel_rfl
 |3,_,w=>by kernel_rfl
 |4,_,w=>by kernel_rfl
 |j+5,h,w=>absurd h (by show ¬j+5<5;omega)
theorem GE (r:Nat) (w:Wq) (hN:NmTabs w) (hr:r<=1114111):
 Calls prog 231 #[.int .i32 (r:Nat)] w λe w'=>e= .returned (.bool (nmStart r))/\Ext w w':=by
 obtain ⟨t,fr,hg⟩:=hN.start;have J:startL.length=15:=rfl;have Q:=gd Zgn;have D:(prog.info? 286).map (·.size)=some (pairCells startL).size:=by kernel_rfl
 rw[<-Zi9];obtain ⟨L,hL⟩:∃L,startL=L:=⟨_,rfl⟩;rw[hL] at hg J Q D|-;obtain ⟨CS,Y⟩:∃CS,pairCells L=CS:=⟨_,rfl⟩;rw[Y] at hg Q D;obtain ⟨R,h⟩:∃R,inL L r=R:=⟨_,rfl⟩;rw[h];have HR:Hid (inL (L.drop 0) r=R):=h;have X:=gd J;clear hL Y h J;go_enter func231,ntmps231
 go_wp2_with (refine wpList_load_row rfl 286 _ rfl 2 rfl t _ fr _ hg underlying286 rfl D ?_)
 go_loopw [6] (λv wr=>∃j:Nat,j<=15/\v=nI j/\Hid (inL (L.drop j) r=R)/\Ext w wr) (λv _=>15 - (intOf v).toNat)
 case atStart=>exact ⟨0,Zh _,rfl,HR,Ext.refl _⟩
 case round=>
  obtain ⟨j,hj,rfl,A,hx⟩:=hrel;by_cases U:j<15
  ·have S:j<L.length:=(by rw[X.out];exact U);have he:=Q.out j S;have hh:(j:Int)<15:=(by omega);have HH:=gd (Zic (r:=r) S);have HM:=gd (Zfq (r:=r) S);obtain ⟨F,ha⟩:∃F,L[j].1=F:=⟨_,rfl⟩;obtain ⟨H,Z⟩:∃H,L[j].2=H:=⟨_,rfl⟩;rw[ha,Z] at he HH HM;clear ha Z;obtain ⟨V,I⟩:∃V,wr.alloc (.cells #[.int .i32 (F:Nat),.int .i32 (H:Nat)] 284)=V:=⟨_,rfl⟩;have hb:V.heap[wr.heap.size]? =some (.cells #[.int .i32 (F:Nat),.int .i32 (H:Nat)] 284):=(by rw[<-I];exact Zg wr _);have hc:Ext wr V:=(by rw[<-I];exact (Ext.refl wr).alloc _);have c0:V.cell? ⟨wr.heap.size,0,none⟩=some (.int .i32 (F:Nat)):=(by rw[Xh _ _ _ _ _ _ hb];rfl);have c1:V.cell? ⟨wr.heap.size,1,none⟩=some (.int .i32 (H:Nat)):=(by rw[Xh _ _ _ _ _ _ hb];rfl);have HX:=gd (hx.trans hc);have K:(#[Value.int .i32 (F:Nat),.int .i32 (H:Nat)]).all (λu=>u.oneCell')=true:=(by simp[Value.oneCell']);clear hb hx hc;by_cases h1:F<=r
   ·by_cases h2:r<=H
    ·have h:=A.out;rw[HH.out h1 h2] at h;subst h;have q1:(F:Int)<=(r:Int):=(by omega);have q2:(r:Int)<=(H:Int):=(by omega);clear h1 h2 A HR
     go_wp2_with (refine Zf rfl 284 (.tmp 4) (.tmp 8) rfl wr.heap.size #[.int .i32 (F:Nat),.int .i32 (H:Nat)] rfl rfl _ _ (Zg _ _) UR rfl K ?_;rw[Z0];rw[I])
     go_ret;exact ⟨rfl,HX.out⟩
    ·have h:=A.out;rw[HM.out (by omega)] at h;have HN:=gd h;have q1:(F:Int)<=(r:Int):=(by omega);have q2:¬(r:Int)<=(H:Int):=(by omega);clear h1 h2 A h
     go_wp2_with (refine Zf rfl 284 (.tmp 4) (.tmp 8) rfl wr.heap.size #[.int .i32 (F:Nat),.int .i32 (H:Nat)] rfl rfl _ _ (Zg _ _) UR rfl K ?_;rw[Z0];rw[I])
     go_roundw
     case rel=>exact ⟨j+1,U,by go_num,HN,HX.out⟩
     case measure=>simp[intOf];omega
   ·have h:=A.out;rw[HM.out (by omega)] at h;have HN:=gd h;have q1:¬(F:Int)<=(r:Int):=(by omega);clear h1 A h
    go_wp2_with (refine Zf rfl 284 (.tmp 4) (.tmp 8) rfl wr.heap.size #[.int .i32 (F:Nat),.int .i32 (H:Nat)] rfl rfl _ _ (Zg _ _) UR rfl K ?_;rw[Z0];rw[I])
    go_roundw
    case rel=>exact ⟨j+1,U,by go_num,HN,HX.out⟩
    case measure=>simp[intOf];omega
  ·have hf:j=15:=(by omega);have h:=A.out;rw[Zs (by rw[X.out];omega)] at h;have hd:false=R:=h;subst hd;subst hf;clear A h HR;go_wp2;go_ret;exact ⟨rfl,hx⟩
theorem Zd9 (r:Nat) (w:Wq) (hN:NmTabs w) (hr:r<=1114111):
 Calls prog 230 #[.int .i32 (r:Nat)] w λe w'=>e= .returned (.bool (nmChar r))/\Ext w w':=by
 obtain ⟨t,fr,hg⟩:=hN.more;have J:moreL.length=5:=rfl;have Q:=gd Zhq;have D:(prog.info? 285).map (·.size)=some (pairCells moreL).size:=by kernel_rfl
 have Z:=gd (λw' (X:Ext w w')=>GE r w' (hN.ext X) hr);rw[<-ZkX];obtain ⟨L,hL⟩:∃L,moreL=L:=⟨_,rfl⟩;rw[hL] at hg J Q D|-;obtain ⟨NS,hf⟩:∃NS,nmStart r=NS:=⟨_,rfl⟩;rw[hf] at Z|-;obtain ⟨CS,ha⟩:∃CS,pairCells L=CS:=⟨_,rfl⟩;rw[ha] at hg Q D;obtain ⟨R,h⟩:∃R,inL L r=R:=⟨_,rfl⟩;rw[h];have HR:Hid (inL (L.drop 0) r=R):=h;have Y:=gd J;clear hL ha h J;go_enter func230,ntmps230
 go_wp2_with (refine wpList_load_row rfl 285 _ rfl 1 rfl t _ fr _ hg underlying285 rfl D ?_)
 go_loopw [6] (λv wr=>∃j:Nat,j<=5/\v=nI j/\Hid (inL (L.drop j) r=R)/\Ext w wr) (λv _=>5 - (intOf v).toNat)
 case atStart=>exact ⟨0,Zh _,rfl,HR,Ext.refl _⟩
 case round=>
  obtain ⟨j,hj,rfl,A,X⟩:=hrel;by_cases U:j<5
  ·have S:j<L.length:=(by rw[Y.out];exact U);have hk:=Q.out j S;have hn:(j:Int)<5:=(by omega);have HH:=gd (Zic (r:=r) S);have HM:=gd (Zfq (r:=r) S);obtain ⟨F,hd⟩:∃F,L[j].1=F:=⟨_,rfl⟩;obtain ⟨H,hc⟩:∃H,L[j].2=H:=⟨_,rfl⟩;rw[hd,hc] at hk HH HM;clear hd hc;obtain ⟨V,I⟩:∃V,wr.alloc (.cells #[.int .i32 (F:Nat),.int .i32 (H:Nat)] 284)=V:=⟨_,rfl⟩;have hb:V.heap[wr.heap.size]? =some (.cells #[.int .i32 (F:Nat),.int .i32 (H:Nat)] 284):=(by rw[<-I];exact Zg wr _);have he:Ext wr V:=(by rw[<-I];exact (Ext.refl wr).alloc _);have c0:V.cell? ⟨wr.heap.size,0,none⟩=some (.int .i32 (F:Nat)):=(by rw[Xh _ _ _ _ _ _ hb];rfl);have c1:V.cell? ⟨wr.heap.size,1,none⟩=some (.int .i32 (H:Nat)):=(by rw[Xh _ _ _ _ _ _ hb];rfl);have HX:=gd (X.trans he);have K:(#[Value.int .i32 (F:Nat),.int .i32 (H:Nat)]).all (λu=>u.oneCell')=true:=(by simp[Value.oneCell']);clear hb X he;by_cases h1:F<=r
   ·by_cases h2:r<=H
    ·have h:=A.out;rw[HH.out h1 h2] at h;subst h;have q1:(F:Int)<=(r:Int):=(by omega);have q2:(r:Int)<=(H:Int):=(by omega);clear h1 h2 A HR
     go_wp2_with (refine Zf rfl 284 (.tmp 4) (.tmp 8) rfl wr.heap.size #[.int .i32 (F:Nat),.int .i32 (H:Nat)] rfl rfl _ _ (Zg _ _) UR rfl K ?_;rw[Z0];rw[I])
     go_ret;exact ⟨rfl,HX.out⟩
    ·have h:=A.out;rw[HM.out (by omega)] at h;have HN:=gd h;have q1:(F:Int)<=(r:Int):=(by omega);have q2:¬(r:Int)<=(H:Int):=(by omega);clear h1 h2 A h
     go_wp2_with (refine Zf rfl 284 (.tmp 4) (.tmp 8) rfl wr.heap.size #[.int .i32 (F:Nat),.int .i32 (H:Nat)] rfl rfl _ _ (Zg _ _) UR rfl K ?_;rw[Z0];rw[I])
     go_roundw
     case rel=>exact ⟨j+1,U,by go_num,HN,HX.out⟩
     case measure=>simp[intOf];omega
   ·have h:=A.out;rw[HM.out (by omega)] at h;have HN:=gd h;have q1:¬(F:Int)<=(r:Int):=(by omega);clear h1 A h
    go_wp2_with (refine Zf rfl 284 (.tmp 4) (.tmp 8) rfl wr.heap.size #[.int .i32 (F:Nat),.int .i32 (H:Nat)] rfl rfl _ _ (Zg _ _) UR rfl K ?_;rw[Z0];rw[I])
    go_roundw
    case rel=>exact ⟨j+1,U,by go_num,HN,HX.out⟩
    case measure=>simp[intOf];omega
  ·have hl:j=5:=(by omega);have h:=A.out;rw[Zs (by rw[Y.out];omega)] at h;have hh:false=R:=h;subst hh;subst hl;clear A h HR
   go_wp2_with (first|(go_at_call 231;(with_reducible refine Za (Z.out _ X) ?_);rintro e w' ⟨rfl,hm⟩))
   go_ret;exact ⟨rfl,X.trans hm⟩
end
section
variable {r:Nat}
theorem ZlZ {a b:Nat} (h:a<=16777216) (A:b<=16777216):wrap64 ((a:Int)+(b:Int))=(a:Int)+(b:Int):=by unfold wrap64;omega
theorem ZeX {l:List UInt8} (h:(dec l).2=0):dec l=(0,0):=by
 unfold dec at h|-;split
 ·rfl
 ·rename_i A;rw[Ze A] at h;split
  ·rfl
  ·rename_i D;rw[Ze D] at h;have F:1<=l.length:=XE.2 A;rw[Vd] at h;have:=(EI l.length (l.getD 0 0).toNat (l.getD 1 0).toNat (l.getD 2 0).toNat (l.getD 3 0).toNat F).1;omega
theorem ZbQ (s:ByteArray) (k:Nat) (w:Wq) (D:s.size<=k):
 Calls prog 188 #[.string s,nI (k:Nat)] w λe w'=>e= .returned (decVal (0,0))/\Ext w w':=by
 have h:¬(k:Int)<0:=by omega
 have A:(s.size:Int)<=(k:Int):=by omega
 go_enter func188,ntmps188;go_wp2
 go_ret2
 exact ⟨rfl,Ext.refl _⟩
theorem Zcn (s:ByteArray) (k:Nat) (w:Wq) (A:Env w) (D:s.size<=maxLen):
 Calls prog 188 #[.string s,nI (k:Nat)] w λe w'=>e= .returned (.tuple #[.int .i32 ((dec (s.data.toList.drop k)).1:Nat),nI ((dec (s.data.toList.drop k)).2:Nat)])/\Ext w w':=by
 by_cases h:k<s.size
 ·exact GN s k w A h D
 ·have:=ZbQ s k w (by omega);rw[Zs (by rw[ZO];omega)];exact this
theorem ZeW {l:List UInt8}:(dec l).1<=1114111:=by
 by_cases h:(dec l).2=0
 ·rw[ZeX h];exact Zh _
 ·have:=(ZdU [] h).2.1;unfold scalar at this;omega
theorem Zmt (b:Bool):nmOk true b 58=true:=by cases b<;>rfl
theorem ZfS (h:(r==58)=false):nmOk true true r=nmStart r:=by unfold nmOk;rw[h];rfl
theorem Zht (h:(r==58)=false):nmOk true false r=nmChar r:=by unfold nmOk;rw[h];rfl
theorem ZhT (h:nmChar r=false):nmStart r=false:=by unfold nmChar at h;rw[Bool.or_eq_false_iff] at h;exact h.1
theorem ZjG (s:ByteArray) (b w:Wq) (g:Nat) (hE:Env b) (hN:NmTabs b) (hs:s.size<=16777216) (hJ:b.heap.size<=g) (hM:Ext b w) (hg:w.heap[g]? =some (.cells #[.string s,nI 0,nI 0,nI 0] 261)):
 Calls prog 211 #[.pointer (some ⟨g,0,none⟩)] w λe w'=>e= .returned (.string (s.extract 0 (nmLen true s.data.toList)))/\Ext b w':=by
 have hW:s.size<=maxLen:=by unfold maxLen;omega
 obtain ⟨l,hl⟩:∃l,s.data.toList=l:=⟨_,rfl⟩;have hL:l.length=s.size:=by rw[<-hl,ZO]
 rw[hl];obtain ⟨R0,hy⟩:∃n,nmLen true l=n:=⟨_,rfl⟩;rw[hy];have hT:=gd hy;have HL:=gd hl;have hQ:=gd hL;have c0:w.cell? ⟨g,0,none⟩=some (.string s):=by rw[Jl hg];rfl
 have c1:w.cell? ⟨g,1,none⟩=some (nI 0):=by rw[Jl hg];rfl
 have hP:=gd hg;have hw:=gd hJ;have hU:=gd hM;have HE:=gd hE;have hC:=gd hN;clear hy hl hL hg hJ hM hE hN;go_enter func211,ntmps211;go_wp2;go_loopw [4] (λv wr=>∃j:Nat,v=v/\j<=s.size/\wr.heap[g]? =some (.cells #[.string s,nI (j:Nat),nI 0,nI 0] 261)/\Hid (NmPre true true l j)/\Ext b wr) (λv wr=>s.size - (intOf ((wr.cell? ⟨g,1,none⟩).getD undef)).toNat)
 case atStart=>exact ⟨0,(by trivial),Zh _,hP.out,gd (.zero _ _),hU.out⟩
 case round=>
  obtain ⟨j, -,hj,hu,hp,hO⟩:=hrel;have c0:wr.cell? ⟨g,0,none⟩=some (.string s):=by rw[Jl hu];rfl
  have c1:wr.cell? ⟨g,1,none⟩=some (nI (j:Nat)):=by rw[Jl hu];rfl
  have hm:Hid ((intOf ((wr.cell? ⟨g,1,none⟩).getD undef)).toNat=j):=by show _=_;rw[c1];simp[intOf]
  have hD:=λw' (hx:Ext b w')=>Zcn s j w' (HE.out.ext hx) hW;have hA:=JW (l.drop j);rw[Zj,hQ.out] at hA;have ha:((dec (l.drop j)).2=0\/nmOk true (decide (j=0)) (dec (l.drop j)).1=false)->R0=j:=λh=>by
   rw[<-hT.out];by_cases hV:j<l.length
   ·exact (Zbh hp.out hV h).2
   ·have h1:=hp.out.go;unfold nmLen;rw[h1.2,Zs (by omega),Uu];rfl
  have Y:(dec (l.drop j)).2≠0->nmOk true (decide (j=0)) (dec (l.drop j)).1=true->NmPre true true l (j+(dec (l.drop j)).2):=λh1 h2=>hp.out.snoc h1 (by simpa using h2);have hc:(dec (l.drop j)).2=0->(dec (l.drop j)).1=0:=λh=>by rw[ZeX h]
  have hv:=ZeW (l:=l.drop j);rw[HL.out] at hD;obtain ⟨R,hR⟩:∃R,(dec (l.drop j)).1=R:=⟨_,rfl⟩;obtain ⟨n,hn⟩:∃n,(dec (l.drop j)).2=n:=⟨_,rfl⟩;rw[hR,hn] at hD ha Y;rw[hn] at hA hc;rw[hR] at hc hv;have HD:=gd hD;have HC:=gd (λw' (hx:Ext b w')=>Zd9 R w' (hC.out.ext hx) hv);have HS:=gd (λw' (hx:Ext b w')=>GE R w' (hC.out.ext hx) hv);have Z:=gd hO;have HG:=gd hu;have hh:Hid (j+n<=s.size):=gd (by omega);have hi:Hid (wrap64 ((j:Int)+(n:Int))=(j:Int)+(n:Int)):=gd (ZlZ (by omega) (by omega));have hF:=gd (λwx=>Q7 s 0 j 0 j rfl rfl (Zh _) hj wx);have hZ:(0:Int)<=(j:Int):=by omega
  clear hD hR hn hu hO hA hv;by_cases he:R=58
  ·have X:n≠0:=λe=>(by have:=hc e;omega);have ho:=gd (Y X (by rw[he];exact Zmt _));have hq:=gd X;have hY:((R:Int)==58)=true:=(by rw[JQ];omega);have qn:((n:Int)==0)=false:=(by rw[ZG];omega);clear he X hc ha Y hp;go_wp2;have H:=(Ext.refl wr).drew;have A:wr.drew.cell? ⟨g,0,none⟩=some (.string s)/\wr.drew.cell? ⟨g,1,none⟩=some (nI (j:Nat)):=⟨H.cell c0,H.cell c1⟩;refine rN ?_;change wpAny _ _ _ _ _ _ _ (World.drew _);refine Yx (λw'=>w'.cell? ⟨g,0,none⟩=some (.string s)/\w'.cell? ⟨g,1,none⟩=some (nI (j:Nat))) ?_;refine tG 0 (.pointer (some ⟨g,0,none⟩)) A ?_;refine tG 1 (.pointer (some ⟨g,0,none⟩)) A ?_;refine tG 2 (.pointer (some ⟨g,0,none⟩)) A ?_;refine tS 3 (.string s) rfl (λw' S=>by have q1:=S.1;have q2:=S.2;go_simp) A ?_;refine tG 4 (.pointer (some ⟨g,0,none⟩)) A ?_;refine tG 5 (.pointer (some ⟨g,0,none⟩)) A ?_;refine tG 6 (.pointer (some ⟨g,1,none⟩)) A ?_;refine tS 7 (nI (j:Nat)) rfl (λw' S=>by have q1:=S.1;have q2:=S.2;go_simp) A ?_;go_simp;refine sS 8 λK hK=> ?_;go_simp;go_at_call 188;have hz:=HD.out _ (Z.out.trans H)
   with_reducible refine Za hz ?_
   clear hz;rintro e w3 ⟨rfl,J⟩;have D:w3.cell? ⟨g,0,none⟩=some (.string s)/\w3.cell? ⟨g,1,none⟩=some (nI (j:Nat)):=⟨J.cell A.1,J.cell A.2⟩;refine hK _ _ D ?_;clear hK K;refine sS 9 λK hK=> ?_;go_simp;refine hK _ _ D ?_;clear hK K;refine tG 10 (.int .i32 (R:Nat)) D ?_;refine tG 11 (nI (n:Nat)) D ?_;go_simp;refine sS 12 λK hK=> ?_;go_simp;refine hK _ _ D ?_;clear hK K;refine sS 13 λK hK=> ?_;go_simp;refine hK _ _ D ?_;clear hK K;refine sE ?_;have I:=H.trans J;have V:=gd (Z.out.trans I);have U:=gd (I.heap HG.out);clear c0 c1 A H J HD;obtain ⟨d0,d1⟩:=D;have ht:w3.frozen? ⟨g,1,none⟩=false:=YN (I.heap HG.out) 1;have e0:=d0;have e1:=d1;have ef:=ht;have F:=Ext.refl w3;go_wp2;go_roundw
   case rel=>exact ⟨j+n,(by trivial),hh.out,by rw[Int.natCast_add,hi.out];exact Yd _ g 1 _ _ _ (F.heap U.out),ho.out,(V.out.trans F).setCell hw.out _⟩
   case measure=>have h8:=hm.out;have h9:(w3.setCell ⟨g,1,none⟩ (nI ((j:Int)+(n:Int)))).cell? ⟨g,1,none⟩=some (nI ((j:Int)+(n:Int))):=(by rw[Jl (Yd _ g 1 _ _ _ (F.heap U.out))];rfl);have hG:=hh.out;have hH:=hq.out;rw[h8,hi.out,h9];simp[intOf];omega
  have hd:(R==58)=false:=by simpa using he
  have hY:((R:Int)==58)=false:=by rw[ZG];omega
  by_cases hk:j=0
  ·have qj:¬(0:Int)<(j:Int):=(by omega);rw[YE hk,ZfS hd] at ha Y;cases hb:nmStart R
   focus
    have hr:=gd (ha (Or.inr hb))
    rw[hb] at HS
    clear he hd hc ha Y hp hk hb
    go_wp2
    have H:=(Ext.refl wr).drew
    have A:wr.drew.cell? ⟨g,0,none⟩=some (.string s)/\wr.drew.cell? ⟨g,1,none⟩=some (nI (j:Nat)):=⟨H.cell c0,H.cell c1⟩
    refine rN ?_
    change wpAny _ _ _ _ _ _ _ (World.drew _)
    refine Yx (λw'=>w'.cell? ⟨g,0,none⟩=some (.string s)/\w'.cell? ⟨g,1,none⟩=some (nI (j:Nat))) ?_
    refine tG 0 (.pointer (some ⟨g,0,none⟩)) A ?_
    refine tG 1 (.pointer (some ⟨g,0,none⟩)) A ?_
    refine tG 2 (.pointer (some ⟨g,0,none⟩)) A ?_
    refine tS 3 (.string s) rfl (λw' S=>by have q1:=S.1;have q2:=S.2;go_simp) A ?_
    refine tG 4 (.pointer (some ⟨g,0,none⟩)) A ?_
    refine tG 5 (.pointer (some ⟨g,0,none⟩)) A ?_
    refine tG 6 (.pointer (some ⟨g,1,none⟩)) A ?_
    refine tS 7 (nI (j:Nat)) rfl (λw' S=>by have q1:=S.1;have q2:=S.2;go_simp) A ?_
    go_simp
    refine sS 8 λK hK=> ?_
    go_simp
    go_at_call 188
    have hz:=HD.out _ (Z.out.trans H)
    with_reducible refine Za hz ?_
    clear hz
    rintro e w3 ⟨rfl,J⟩
    have D:w3.cell? ⟨g,0,none⟩=some (.string s)/\w3.cell? ⟨g,1,none⟩=some (nI (j:Nat)):=⟨J.cell A.1,J.cell A.2⟩
    refine hK _ _ D ?_
    clear hK K
    refine sS 9 λK hK=> ?_
    go_simp
    refine hK _ _ D ?_
    clear hK K
    refine tG 10 (.int .i32 (R:Nat)) D ?_
    refine tG 11 (nI (n:Nat)) D ?_
    go_simp
    refine sS 12 λK hK=> ?_
    go_simp
    refine hK _ _ D ?_
    clear hK K
    refine sS 13 λK hK=> ?_
    go_simp
    refine hK _ _ D ?_
    clear hK K
    refine sE ?_
    have I:=H.trans J
    have V:=gd (Z.out.trans I)
    have U:=gd (I.heap HG.out)
    clear c0 c1 A H J HD
    obtain ⟨d0,d1⟩:=D
    have ht:w3.frozen? ⟨g,1,none⟩=false:=YN (I.heap HG.out) 1
    cases hqn:((n:Int)==0)
   rotate_left
   rotate_left
   ·have X:n≠0:=λe=>(by rw[hc e] at hb;revert hb;decide);have ho:=gd (Y X hb);have hq:=gd X;have qn:((n:Int)==0)=false:=(by rw[ZG];omega);rw[hb] at HS;clear he hd X hc ha Y hp hk hb;go_wp2;have H:=(Ext.refl wr).drew;have A:wr.drew.cell? ⟨g,0,none⟩=some (.string s)/\wr.drew.cell? ⟨g,1,none⟩=some (nI (j:Nat)):=⟨H.cell c0,H.cell c1⟩;refine rN ?_;change wpAny _ _ _ _ _ _ _ (World.drew _);refine Yx (λw'=>w'.cell? ⟨g,0,none⟩=some (.string s)/\w'.cell? ⟨g,1,none⟩=some (nI (j:Nat))) ?_;refine tG 0 (.pointer (some ⟨g,0,none⟩)) A ?_;refine tG 1 (.pointer (some ⟨g,0,none⟩)) A ?_;refine tG 2 (.pointer (some ⟨g,0,none⟩)) A ?_;refine tS 3 (.string s) rfl (λw' S=>by have q1:=S.1;have q2:=S.2;go_simp) A ?_;refine tG 4 (.pointer (some ⟨g,0,none⟩)) A ?_;refine tG 5 (.pointer (some ⟨g,0,none⟩)) A ?_;refine tG 6 (.pointer (some ⟨g,1,none⟩)) A ?_;refine tS 7 (nI (j:Nat)) rfl (λw' S=>by have q1:=S.1;have q2:=S.2;go_simp) A ?_;go_simp;refine sS 8 λK hK=> ?_;go_simp;go_at_call 188;have hz:=HD.out _ (Z.out.trans H)
    with_reducible refine Za hz ?_
    clear hz;rintro e w3 ⟨rfl,J⟩;have D:w3.cell? ⟨g,0,none⟩=some (.string s)/\w3.cell? ⟨g,1,none⟩=some (nI (j:Nat)):=⟨J.cell A.1,J.cell A.2⟩;refine hK _ _ D ?_;clear hK K;refine sS 9 λK hK=> ?_;go_simp;refine hK _ _ D ?_;clear hK K;refine tG 10 (.int .i32 (R:Nat)) D ?_;refine tG 11 (nI (n:Nat)) D ?_;go_simp;refine sS 12 λK hK=> ?_;go_simp;refine hK _ _ D ?_;clear hK K;refine sS 13 λK hK=> ?_;go_simp;refine hK _ _ D ?_;clear hK K;refine sE ?_;have I:=H.trans J;have V:=gd (Z.out.trans I);have U:=gd (I.heap HG.out);clear c0 c1 A H J HD;obtain ⟨d0,d1⟩:=D;have ht:w3.frozen? ⟨g,1,none⟩=false:=YN (I.heap HG.out) 1
    go_wp2_with (first|(go_at_call 231;(with_reducible refine Za (HS.out _ V.out) ?_);rintro e w4 ⟨rfl,F⟩;(have e0:=F.cell d0);(have e1:=F.cell d1);(have ef:w4.frozen? ⟨g,1,none⟩=false:=YN (F.heap U.out) 1)))
    go_roundw
    case rel=>exact ⟨j+n,(by trivial),hh.out,by rw[Int.natCast_add,hi.out];exact Yd _ g 1 _ _ _ (F.heap U.out),ho.out,(V.out.trans F).setCell hw.out _⟩
    case measure=>have h8:=hm.out;have h9:(w4.setCell ⟨g,1,none⟩ (nI ((j:Int)+(n:Int)))).cell? ⟨g,1,none⟩=some (nI ((j:Int)+(n:Int))):=(by rw[Jl (Yd _ g 1 _ _ _ (F.heap U.out))];rfl);have hG:=hh.out;have hH:=hq.out;rw[h8,hi.out,h9];simp[intOf];omega
   all_goals
    go_wp2_with (first|(go_at_call 231;(with_reducible refine Za (HS.out _ V.out) ?_);rintro e w4 ⟨rfl,F⟩;(have e0:=F.cell d0);(have e1:=F.cell d1);(have ef:w4.frozen? ⟨g,1,none⟩=false:=YN (F.heap U.out) 1)))
    have hf:=(Ext.refl w4).drew
    have Q:w4.drew.cell? ⟨g,0,none⟩=some (.string s)/\w4.drew.cell? ⟨g,1,none⟩=some (nI (j:Nat)):=⟨hf.cell e0,hf.cell e1⟩
    have hX:=hF.out
    refine rN ?_
    change wpAny _ _ _ _ _ _ _ (World.drew _)
    refine Yx (λw'=>w'.cell? ⟨g,0,none⟩=some (.string s)/\w'.cell? ⟨g,1,none⟩=some (nI (j:Nat))) ?_
    refine tG 0 (.pointer (some ⟨g,0,none⟩)) Q ?_
    refine tG 1 (.pointer (some ⟨g,0,none⟩)) Q ?_
    refine tG 2 (.pointer (some ⟨g,0,none⟩)) Q ?_
    refine tS 3 (.string s) rfl (λw' S=>by have q1:=S.1;have q2:=S.2;go_simp) Q ?_
    refine tG 4 (nI 0) Q ?_
    refine tG 5 (.pointer (some ⟨g,0,none⟩)) Q ?_
    refine tG 6 (.pointer (some ⟨g,0,none⟩)) Q ?_
    refine tG 7 (.pointer (some ⟨g,1,none⟩)) Q ?_
    refine tS 8 (nI (j:Nat)) rfl (λw' S=>by have q1:=S.1;have q2:=S.2;go_simp) Q ?_
    go_simp
    refine sS 9 λK hK=> ?_
    go_simp
    refine hK _ _ Q ?_
    clear hK K
    refine sS 10 λK hK=> ?_
    go_simp
    refine hK _ _ Q ?_
    clear hK K
    refine sE ?_
    go_wp2
    go_ret
    exact ⟨by rw[hr.out];rfl,(V.out.trans F).trans hf⟩
  have qj:(0:Int)<(j:Int):=by omega
  rw[Ya hk,Zht hd] at ha Y;cases hb:nmChar R
  focus
   have hr:=gd (ha (Or.inr hb))
   have hI:=ZhT hb
   rw[hb] at HC
   rw[hI] at HS
   clear he hd hc ha Y hp hk hb hI
   go_wp2
   have H:=(Ext.refl wr).drew
   have A:wr.drew.cell? ⟨g,0,none⟩=some (.string s)/\wr.drew.cell? ⟨g,1,none⟩=some (nI (j:Nat)):=⟨H.cell c0,H.cell c1⟩
   refine rN ?_
   change wpAny _ _ _ _ _ _ _ (World.drew _)
   refine Yx (λw'=>w'.cell? ⟨g,0,none⟩=some (.string s)/\w'.cell? ⟨g,1,none⟩=some (nI (j:Nat))) ?_
   refine tG 0 (.pointer (some ⟨g,0,none⟩)) A ?_
   refine tG 1 (.pointer (some ⟨g,0,none⟩)) A ?_
   refine tG 2 (.pointer (some ⟨g,0,none⟩)) A ?_
   refine tS 3 (.string s) rfl (λw' S=>by have q1:=S.1;have q2:=S.2;go_simp) A ?_
   refine tG 4 (.pointer (some ⟨g,0,none⟩)) A ?_
   refine tG 5 (.pointer (some ⟨g,0,none⟩)) A ?_
   refine tG 6 (.pointer (some ⟨g,1,none⟩)) A ?_
   refine tS 7 (nI (j:Nat)) rfl (λw' S=>by have q1:=S.1;have q2:=S.2;go_simp) A ?_
   go_simp
   refine sS 8 λK hK=> ?_
   go_simp
   go_at_call 188
   have hz:=HD.out _ (Z.out.trans H)
   with_reducible refine Za hz ?_
   clear hz
   rintro e w3 ⟨rfl,J⟩
   have D:w3.cell? ⟨g,0,none⟩=some (.string s)/\w3.cell? ⟨g,1,none⟩=some (nI (j:Nat)):=⟨J.cell A.1,J.cell A.2⟩
   refine hK _ _ D ?_
   clear hK K
   refine sS 9 λK hK=> ?_
   go_simp
   refine hK _ _ D ?_
   clear hK K
   refine tG 10 (.int .i32 (R:Nat)) D ?_
   refine tG 11 (nI (n:Nat)) D ?_
   go_simp
   refine sS 12 λK hK=> ?_
   go_simp
   refine hK _ _ D ?_
   clear hK K
   refine sS 13 λK hK=> ?_
   go_simp
   refine hK _ _ D ?_
   clear hK K
   refine sE ?_
   have I:=H.trans J
   have V:=gd (Z.out.trans I)
   have U:=gd (I.heap HG.out)
   clear c0 c1 A H J HD
   obtain ⟨d0,d1⟩:=D
   have ht:w3.frozen? ⟨g,1,none⟩=false:=YN (I.heap HG.out) 1
   cases hqn:((n:Int)==0)
  rotate_left
  rotate_left
  ·have X:n≠0:=λe=>(by rw[hc e] at hb;revert hb;decide);have ho:=gd (Y X hb);have hq:=gd X;have qn:((n:Int)==0)=false:=(by rw[ZG];omega);rw[hb] at HC;clear he hd X hc ha Y hp hk hb;go_wp2;have H:=(Ext.refl wr).drew;have A:wr.drew.cell? ⟨g,0,none⟩=some (.string s)/\wr.drew.cell? ⟨g,1,none⟩=some (nI (j:Nat)):=⟨H.cell c0,H.cell c1⟩;refine rN ?_;change wpAny _ _ _ _ _ _ _ (World.drew _);refine Yx (λw'=>w'.cell? ⟨g,0,none⟩=some (.string s)/\w'.cell? ⟨g,1,none⟩=some (nI (j:Nat))) ?_;refine tG 0 (.pointer (some ⟨g,0,none⟩)) A ?_;refine tG 1 (.pointer (some ⟨g,0,none⟩)) A ?_;refine tG 2 (.pointer (some ⟨g,0,none⟩)) A ?_;refine tS 3 (.string s) rfl (λw' S=>by have q1:=S.1;have q2:=S.2;go_simp) A ?_;refine tG 4 (.pointer (some ⟨g,0,none⟩)) A ?_;refine tG 5 (.pointer (some ⟨g,0,none⟩)) A ?_;refine tG 6 (.pointer (some ⟨g,1,none⟩)) A ?_;refine tS 7 (nI (j:Nat)) rfl (λw' S=>by have q1:=S.1;have q2:=S.2;go_simp) A ?_;go_simp;refine sS 8 λK hK=> ?_;go_simp;go_at_call 188;have hz:=HD.out _ (Z.out.trans H)
   with_reducible refine Za hz ?_
   clear hz;rintro e w3 ⟨rfl,J⟩;have D:w3.cell? ⟨g,0,none⟩=some (.string s)/\w3.cell? ⟨g,1,none⟩=some (nI (j:Nat)):=⟨J.cell A.1,J.cell A.2⟩;refine hK _ _ D ?_;clear hK K;refine sS 9 λK hK=> ?_;go_simp;refine hK _ _ D ?_;clear hK K;refine tG 10 (.int .i32 (R:Nat)) D ?_;refine tG 11 (nI (n:Nat)) D ?_;go_simp;refine sS 12 λK hK=> ?_;go_simp;refine hK _ _ D ?_;clear hK K;refine sS 13 λK hK=> ?_;go_simp;refine hK _ _ D ?_;clear hK K;refine sE ?_;have I:=H.trans J;have V:=gd (Z.out.trans I);have U:=gd (I.heap HG.out);clear c0 c1 A H J HD;obtain ⟨d0,d1⟩:=D;have ht:w3.frozen? ⟨g,1,none⟩=false:=YN (I.heap HG.out) 1
   go_wp2_with (first|(go_at_call 230;(with_reducible refine Za (HC.out _ V.out) ?_);rintro e w4 ⟨rfl,F⟩;(have e0:=F.cell d0);(have e1:=F.cell d1);(have ef:w4.frozen? ⟨g,1,none⟩=false:=YN (F.heap U.out) 1)))
   go_roundw
   case rel=>exact ⟨j+n,(by trivial),hh.out,by rw[Int.natCast_add,hi.out];exact Yd _ g 1 _ _ _ (F.heap U.out),ho.out,(V.out.trans F).setCell hw.out _⟩
   case measure=>have h8:=hm.out;have h9:(w4.setCell ⟨g,1,none⟩ (nI ((j:Int)+(n:Int)))).cell? ⟨g,1,none⟩=some (nI ((j:Int)+(n:Int))):=(by rw[Jl (Yd _ g 1 _ _ _ (F.heap U.out))];rfl);have hG:=hh.out;have hH:=hq.out;rw[h8,hi.out,h9];simp[intOf];omega
  all_goals
   go_wp2_with (first|(go_at_call 230;(with_reducible refine Za (HC.out _ V.out) ?_);rintro e w4 ⟨rfl,F⟩;(have e0:=F.cell d0);(have e1:=F.cell d1);(have ef:w4.frozen? ⟨g,1,none⟩=false:=YN (F.heap U.out) 1))|(go_at_call 231;(with_reducible refine Za (HS.out _ (V.out.trans F)) ?_);rintro e w5 ⟨rfl,hB⟩;(have f0:=(F.trans hB).cell d0);(have f1:=(F.trans hB).cell d1)))
   have hf:=(Ext.refl w5).drew
   have Q:w5.drew.cell? ⟨g,0,none⟩=some (.string s)/\w5.drew.cell? ⟨g,1,none⟩=some (nI (j:Nat)):=⟨hf.cell f0,hf.cell f1⟩
   have hX:=hF.out
   refine rN ?_
   change wpAny _ _ _ _ _ _ _ (World.drew _)
   refine Yx (λw'=>w'.cell? ⟨g,0,none⟩=some (.string s)/\w'.cell? ⟨g,1,none⟩=some (nI (j:Nat))) ?_
   refine tG 0 (.pointer (some ⟨g,0,none⟩)) Q ?_
   refine tG 1 (.pointer (some ⟨g,0,none⟩)) Q ?_
   refine tG 2 (.pointer (some ⟨g,0,none⟩)) Q ?_
   refine tS 3 (.string s) rfl (λw' S=>by have q1:=S.1;have q2:=S.2;go_simp) Q ?_
   refine tG 4 (nI 0) Q ?_
   refine tG 5 (.pointer (some ⟨g,0,none⟩)) Q ?_
   refine tG 6 (.pointer (some ⟨g,0,none⟩)) Q ?_
   refine tG 7 (.pointer (some ⟨g,1,none⟩)) Q ?_
   refine tS 8 (nI (j:Nat)) rfl (λw' S=>by have q1:=S.1;have q2:=S.2;go_simp) Q ?_
   go_simp
   refine sS 9 λK hK=> ?_
   go_simp
   refine hK _ _ Q ?_
   clear hK K
   refine sS 10 λK hK=> ?_
   go_simp
   refine hK _ _ Q ?_
   clear hK K
   refine sE ?_
   go_wp2
   go_ret
   exact ⟨by rw[hr.out];rfl,(V.out.trans (F.trans hB)).trans hf⟩
theorem ZbK:(prog.info? 261).map (·.size)=some 4:=by kernel_rfl
theorem EV (s:ByteArray) (w:Wq) (hE:Env w) (hN:NmTabs w) (hs:s.size<=16777216):
 Calls prog 175 #[.string s] w λe w'=>e= .returned (.bool (isQ s.data.toList))/\Ext w w':=by
 obtain ⟨Q,A⟩:∃Q,w.alloc (.cells #[.string s,nI 0,nI 0,nI 0] 261)=Q:=⟨_,rfl⟩;have K:Ext w Q:=by rw[<-A];exact (Ext.refl w).alloc _
 have Y:Q.heap[w.heap.size]? =some (.cells #[.string s,nI 0,nI 0,nI 0] 261):=by rw[<-A];exact Zg w _
 have F:(#[Value.string s,nI 0,nI 0,nI 0]).all (λu=>u.oneCell')=true:=by simp[Value.oneCell']
 have H:=gd (ZjG s w Q w.heap.size hE hN hs (Zb _) K Y);have U:isQ s.data.toList=(decide (0<s.size) && decide (nmLen true s.data.toList=s.size)):=by unfold isQ;rw[ZO,Bool.decide_and]
 have I:nmLen true s.data.toList<=s.size:=by
  unfold nmLen;have:=Zeb true s.data.toList.length true s.data.toList
  rwa [ZO] at this
 rw[U];obtain ⟨m,Z⟩:∃m,nmLen true s.data.toList=m:=⟨_,rfl⟩;rw[Z] at H I|-;have D:(s.extract 0 m=s)↔m=s.size:=by
  constructor
  ·intro e;have h1:=ZC ByteArray.size e;rw[ByteArray.size_extract] at h1;omega
  ·intro e;rw[e];apply KI;rw[KK _ _ _ (Zh _),Jm,Nat.sub_zero,ZR (by rw[ZO];omega)]
 have V:=gd K;clear Z K Y U;by_cases R:s.size=0
 ·have hb:s.toList.isEmpty=true:=by rw[Z5,UC];exact Zr R
  have h:(decide (0<s.size) && decide (m=s.size))=false:=by rw[Ya (by omega)];rfl
  rw[h];clear h R I D;go_enter func175,ntmps175
  go_wp2_with (first|(refine Zf rfl 261 (.tmp 3) (.tmp 5) rfl w.heap.size #[.string s,nI 0,nI 0,nI 0] rfl rfl _ _ (Zg _ _) ZbK rfl F ?_;rw[Z0];rw[A]))
  go_ret;exact ⟨rfl,V.out⟩
 ·have hb:s.toList.isEmpty=false:=by
   rw[Z5];cases hl:s.data.toList with
   |nil=>exact absurd (by have:=ZC List.length hl;rw[ZO] at this;exact this) R
   |cons a t=>rfl
  cases hd:decide (m=s.size) with
  |true=>
   have X:=D.2 (Yw hd);have h:(decide (0<s.size) && true)=true:=(by rw[YE (by omega)];rfl);rw[h];rw[X] at H;clear h R I D hd X;go_enter func175,ntmps175
   go_wp2_with (first|(refine Zf rfl 261 (.tmp 3) (.tmp 5) rfl w.heap.size #[.string s,nI 0,nI 0,nI 0] rfl rfl _ _ (Zg _ _) ZbK rfl F ?_;rw[Z0];rw[A])|(go_at_call 211;(with_reducible refine Za H.out ?_);rintro e w' ⟨rfl,J⟩))
   go_ret;exact ⟨by simp,J⟩
  |false=>
   have S:s.extract 0 m≠s:=λe=>(by have:=D.1 e;rw[YE this] at hd;cases hd);have ha:((s.extract 0 m).toList==s.toList)=false:=(by rw[ZG];intro e;rw[Z5,Z5] at e;exact S (KI e));rw[Bool.and_false];clear R I D hd S;go_enter func175,ntmps175
   go_wp2_with (first|(refine Zf rfl 261 (.tmp 3) (.tmp 5) rfl w.heap.size #[.string s,nI 0,nI 0,nI 0] rfl rfl _ _ (Zg _ _) ZbK rfl F ?_;rw[Z0];rw[A])|(go_at_call 211;(with_reducible refine Za H.out ?_);rintro e w' ⟨rfl,J⟩))
   go_ret;exact ⟨rfl,J⟩
end
theorem ZhQ (l:List AtP) (nm:List UInt8):(l.map AtP.name).contains nm=l.any (λe=>decide (str e.name=str nm)):=by
 induction l with
 |nil=>rfl
 |cons a t ih=>
  rw[Zw,List.contains_cons,List.any_cons,ih]
  congr 1
  by_cases h:a.name=nm
  ·rw[h,YE rfl];simp
  ·rw[Ya (λe=>h (ZmH e))];simpa using λe=>h e.symm
theorem ZgL (v:Value) (l:List AtP) (w:Wq) (hE:Env w) (hN:NmTabs w) (h:RAts w v l) (hf:∀a∈l,a.name.length<=16777216/\a.value.length<=16777216) (hn:l.length<=16777216):
 Calls prog 176 #[v] w λe w'=>e= .returned (.bool (attrsOk l []))/\Ext w w':=by
 obtain ⟨A,c,rfl, -, -⟩:=h.form;have hH:= @run_makeMap prog;obtain ⟨R,hR⟩:∃R,attrsOk l []=R:=⟨_,rfl⟩;rw[hR];have HR:Hid (attrsOk (l.drop 0) ((l.take 0).map AtP.name)=R):=hR;have HF:=gd hf;have HH:=gd h;have hh:=gd hE;have hw:=gd hN;clear hR hf h hE hN;go_enter func176,ntmps176;go_wp2;go_loopw [9] (λi wr=>∃(k:Nat) (D:DataW Unit),k<=l.length/\i=nI k/\wr.ownsMap prog 9 (plainElem prog 4) w.heap.size k D/\Hid (SeenMap D (λs=>(l.take k).any (λe=>decide (str e.name=s))))/\Hid (attrsOk (l.drop k) ((l.take k).map AtP.name)=R)/\Ext w wr) (λi _=>l.length - (intOf i).toNat)
 case atStart=>exact ⟨0,.map [],Zh _,rfl,World.ownsMap_made _ _ _ _,gd SeenMap.nil,HR,(Ext.refl _).alloc _⟩
 case round=>
  obtain ⟨k,D,hk,rfl,hM,hD,S,hg⟩:=hrel;by_cases U:k<l.length
  ·obtain ⟨ad,c1,e1,hl⟩:=(RAts.ext HH.out hg).at U;injection e1 with e1 e1' e1'';subst e1;clear e1' e1'';have Y:=HF.out _ (ZE U);have he:=Zn U;have I:=S.out;rw[Zk U,attrsOk,ZhQ] at I;have hc:(l.take (k+1)).map AtP.name=(l.take k).map AtP.name++ [l[k].name]:=(by rw[he,ZN];rfl);rw[<-hc] at I;have ha:Hid (SeenMap (D.put (.string (str l[k].name).data.toList) (.lit (.bool true))) (λs=>(l.take (k+1)).any (λe=>decide (str e.name=s)))):=gd (hD.out.put λt=>by rw[he,List.any_append];simp);obtain ⟨b,hb⟩:∃b,(l.take k).any (λe=>decide (str e.name=str l[k].name))=b:=⟨_,rfl⟩;rw[hb] at I;obtain ⟨x,hp⟩:∃x,l[k]=x:=⟨_,rfl⟩;rw[hp] at hl Y I ha hb;have hd:(str x.name).size<=maxLen:=(by rw[YH];unfold maxLen;omega);have hi:=gd (show keyOf prog 9 (.string (str x.name))=some (.string (str x.name).data.toList) from keyOf_string_mk underlying9 hd);have HM:=gd hM;have ht:Hid (k<maxLen):=gd (by unfold maxLen;omega);obtain ⟨W2,K⟩:∃W2,wr.alloc (.cells #[.string (str x.space),.string (str x.name),.string (str x.value),nI (x.at_:Nat)] 88)=W2:=⟨_,rfl⟩;have Z:Ext wr W2:=(by rw[<-K];exact (Ext.refl _).alloc _);have X:W2.heap[wr.heap.size]? =some (.cells #[.string (str x.space),.string (str x.name),.string (str x.value),nI (x.at_:Nat)] 88):=(by rw[<-K];exact Zg _ _);have hA:=Eo (hM.kept (Z.grown none) (by simp)) hD.out hd;simp only[hb] at hA;have c0:W2.cell? ⟨wr.heap.size,0,none⟩=some (.string (str x.space)):=(by rw[Xh _ _ _ _ _ _ X];rfl);have c1:W2.cell? ⟨wr.heap.size,1,none⟩=some (.string (str x.name)):=(by rw[Xh _ _ _ _ _ _ X];rfl);have c2:W2.cell? ⟨wr.heap.size,2,none⟩=some (.string (str x.value)):=(by rw[Xh _ _ _ _ _ _ X];rfl);have hy:=gd Z;have H:=gd (hg.trans Z);have HQ:=gd (λw' (hx:Ext w w')=>EV (str x.name) w' (hh.out.ext hx) (hw.out.ext hx) (by rw[YH];exact Y.1));have HC:=gd (λw' (hx:Ext w w')=>Zcy (str x.value) w' (hh.out.ext hx) (by rw[YH];exact Y.2));simp only[Yb] at HQ HC;have hF:(0:Int)<=(k:Int):=(by omega);have hG:(k:Int)<(l.length:Int):=(by omega);obtain ⟨q,hq⟩:∃q,isQ x.name=q:=⟨_,rfl⟩;obtain ⟨ch,hm⟩:∃ch,charsOk x.value=ch:=⟨_,rfl⟩;rw[hq] at HQ I;rw[hm] at HC I;obtain ⟨a0,a1,a2,a3⟩:=hl;clear Z X hM hb hq hm he hc Y hp hd;by_cases hs:x.space= []
   ·have hB:(str x.space).toList.isEmpty=true:=(by rw[hs];exact Uo);have V:x.space.isEmpty=true:=(by rw[hs];rfl);rw[V,Xv] at I;clear hs V;cases b with
    |true=>
     have Q:false=R:=I;subst Q;clear I HR
     skip
     go_wp2_with (first|(refine Zf rfl 88 (.tmp 5) (.tmp 12) rfl wr.heap.size #[.string (str x.space),.string (str x.name),.string (str x.value),nI (x.at_:Nat)] rfl rfl _ _ (Zg _ _) Xn rfl (UY x) ?_;rw[Z0];rw[K]))
     go_ret;exact ⟨rfl,H.out⟩
    |false=>
     cases q with
     |false=>
      have Q:false=R:=I;subst Q;clear I HR
      skip
      go_wp2_with (first|(refine Zf rfl 88 (.tmp 5) (.tmp 12) rfl wr.heap.size #[.string (str x.space),.string (str x.name),.string (str x.value),nI (x.at_:Nat)] rfl rfl _ _ (Zg _ _) Xn rfl (UY x) ?_;rw[Z0];rw[K])|(go_at_call 175;(with_reducible refine Za (HQ.out _ H.out) ?_);rintro e w3 ⟨rfl,F⟩;(have d0:=F.cell c0);(have d1:=F.cell c1);(have d2:=F.cell c2)))
      go_ret;exact ⟨rfl,H.out.trans F⟩
     |true=>
      cases ch with
      |false=>
       have Q:false=R:=I;subst Q;clear I HR
       skip
       go_wp2_with (first|(refine Zf rfl 88 (.tmp 5) (.tmp 12) rfl wr.heap.size #[.string (str x.space),.string (str x.name),.string (str x.value),nI (x.at_:Nat)] rfl rfl _ _ (Zg _ _) Xn rfl (UY x) ?_;rw[Z0];rw[K])|(go_at_call 175;(with_reducible refine Za (HQ.out _ H.out) ?_);rintro e w3 ⟨rfl,F⟩;(have d0:=F.cell c0);(have d1:=F.cell c1);(have d2:=F.cell c2))|(go_at_call 177;(with_reducible refine Za (HC.out _ (H.out.trans F)) ?_);rintro e w4 ⟨rfl,J⟩;(have e0:=J.cell d0);(have e1:=J.cell d1);(have e2:=J.cell d2)))
       go_ret;exact ⟨rfl,(H.out.trans F).trans J⟩
      |true=>
       have hv:Hid (attrsOk (l.drop (k+1)) ((l.take (k+1)).map AtP.name)=R):=gd I;clear I
       go_wp2_with (first|(refine Zf rfl 88 (.tmp 5) (.tmp 12) rfl wr.heap.size #[.string (str x.space),.string (str x.name),.string (str x.value),nI (x.at_:Nat)] rfl rfl _ _ (Zg _ _) Xn rfl (UY x) ?_;rw[Z0];rw[K])|(go_at_call 175;(with_reducible refine Za (HQ.out _ H.out) ?_);rintro e w3 ⟨rfl,F⟩;(have d0:=F.cell c0);(have d1:=F.cell c1);(have d2:=F.cell c2))|(go_at_call 177;(with_reducible refine Za (HC.out _ (H.out.trans F)) ?_);rintro e w4 ⟨rfl,J⟩;(have e0:=J.cell d0);(have e1:=J.cell d1);(have e2:=J.cell d2))|(at_mapUpdate;(refine Uf _ rfl (.tmp 34) (.tmp 36) (.const (.bool true)) 183 rfl 9 4 Ux underlying183 _ w.heap.size k D rfl (HM.out.kept (((hy.out.trans F).trans J).grown none) (by simp)) ht.out _ _ _ rfl rfl hi.out _ [] (plainElem_bool underlying4 true) ?_);intro w5 hj ho))
       have hC:Ext w w5:=Ext.grown' (B:=0) ((H.out.trans F).trans J) ho (λb hb=>by cases hb;exact Zb _);have hu:=gd hj;clear hj ho;go_roundw
       case rel=>exact ⟨k+1,_,U,by go_num,hu.out,ha,hv,hC⟩
       case measure=>simp[intOf];omega
   ·have hB:(str x.space).toList.isEmpty=false:=Vx hs;have V:x.space.isEmpty=false:=by cases hx:x.space with
     |nil=>exact absurd hx hs
     |cons a t=>rfl
    rw[V] at I;have Q:false=R:=I;subst Q;clear I HR hs V
    skip
    go_wp2_with (first|(refine Zf rfl 88 (.tmp 5) (.tmp 12) rfl wr.heap.size #[.string (str x.space),.string (str x.name),.string (str x.value),nI (x.at_:Nat)] rfl rfl _ _ (Zg _ _) Xn rfl (UY x) ?_;rw[Z0];rw[K]))
    go_ret;exact ⟨rfl,H.out⟩
  ·have hz:k=l.length:=(by omega);have I:=S.out;rw[Zs (by omega),attrsOk] at I;subst I;subst hz;clear HR S;go_wp2;go_ret;exact ⟨rfl,hg⟩
end Go.Proofs.YtnlafkgkcnenfaaGreatDoor
