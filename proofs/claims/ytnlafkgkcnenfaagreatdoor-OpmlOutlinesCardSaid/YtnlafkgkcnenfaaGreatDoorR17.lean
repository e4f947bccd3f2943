/- Parts of the proof: contracts and plain laws. -/
import Derived.Test.YtnlafkgkcnenfaaGreatDoorR16
namespace Go.Proofs.YtnlafkgkcnenfaaGreatDoor
open Go Go.RowKit Go.WideMaps Go.Maps Go.Sort Go.Joins Tryz
set_option linter.unusedVariables false
set_option linter.unusedSimpArgs false
set_option maxRecDepth 100000
set_option maxHeartbeats 16000000
theorem ZiN (w:Wq) (q:Nat) (os:Array Obj):Ext w (grow (w.drewN q) os):=
 ⟨rfl,rfl,rfl,by show w.heap.size<=(w.heap++os).size;simp,λk h=>by show (w.heap++os)[k]? =w.heap[k]?;rw[Array.getElem?_append_left h]⟩
theorem KO (x y:Fc) (w:Wq) (A:isSl x.es) (D:isSl y.es) (I:RStrs w x.p x.f.path) (J:RStrs w y.p y.f.path) (H:x.f.path.length<=16777216):
 Calls prog 70 #[.agg (cellsC x).toArray,.agg (cellsC y).toArray] w λe w'=>e= .returned (nI (feedCmp x.f y.f))/\Ext w w':=
 (U9 x y w A D I J H).mono λe w' ⟨h,q,os,F⟩=>⟨h,by rw[F];exact ZiN w q os⟩
theorem ZcB (v:Value) (l:List Fc) (w:Wq) (hE:Env w) (hr:RFcs w v l) (ga:∀x∈l,RdC w x) (hk:∀x∈l,fokS x.f) (hn:l.length<=1000000):
 Calls prog 86 #[v,.func (.func 87) #[] #[],.func (.func 70) #[] #[],.func (.func 88) #[] #[]] w λe w'=>e= .returned (.bool (okL okF ordF (l.map Fc.f)))/\Ext w w':=by
 obtain ⟨A,c,rfl, -, -⟩:=hr.form;have go:= @run_makeMap prog;obtain ⟨L,hL⟩:∃L,l.map Fc.f=L:=⟨_,rfl⟩;have h7:L.length=l.length:=by rw[<-hL,Zk]
 have hY:=gd h7;have hX:Hid (∀(j:Nat) (h:j<l.length),L[j]'(by rw[h7];exact h)=l[j].f):=gd λj h=>by subst hL;rw[Xv]
 rw[hL];obtain ⟨R,hR⟩:∃R,okL okF ordF L=R:=⟨_,rfl⟩;rw[hR];have HR:=gd hR;have h3:=gd ga;have HS:=gd hk;have HH:=gd hr;have gc:=gd hE;clear hR hk hr ga hE hL;go_enter func86,ntmps86;go_wp2;go_loopw [15] (λi wr=>∃(k:Nat) (D:DataW Unit),k<=l.length/\i=nI k/\wr.ownsMap prog 9 (plainElem prog 4) w.heap.size k D/\Hid (SeenMap D (λs=>(L.take k).any (λe=>decide (e.id=s))))/\Hid (∀j,j<k->okAt okF ordF L j=true)/\Ext w wr) (λi _=>l.length - (intOf i).toNat)
 case atStart=>exact ⟨0,.map [],Zh _,rfl,World.ownsMap_made _ _ _ _,gd SeenMap.nil,gd (λj h=>by omega),(Ext.refl _).alloc _⟩
 case round=>
  obtain ⟨k,D,hk,rfl,hM,hD,hu,J⟩:=hrel;by_cases hv:k<l.length
  ·obtain ⟨ad,c1,e1,hP⟩:=(RFcs.ext HH.out J).at hv;injection e1 with e1 e1' e1'';subst e1;clear e1' e1'';have hw:l[k]∈l:=Zz hv;have hy:=HS.out _ hw;have hl:=(h3.out _ hw).ext J;have Z:k<L.length:=(by rw[hY.out];exact hv);have hS:=Zq Z;have S:=JZ (ok:=okF) (O:=ordF) Z;have h6:=hX.out k hv;have hb:∃b,(L.take k).any (λe=>decide (e.id=l[k].f.id))=b:=⟨_,rfl⟩;obtain ⟨b,hb⟩:=hb;rw[h6] at S hS;have hQ:b=false->∀j (hj:j<k),ordF.id L[j]≠ordF.id l[k].f:=λe j hj=>Qq (id:=Fd.id) (hb.trans e) j (by omega) hj;have h8:b=true->okAt okF ordF L k=false:=λe=>(by rw[Yx];intro h;obtain ⟨j,hj,gg,he⟩:=Gm (id:=Fd.id) (hb.trans e);exact (S.1 h).2.2 j gg he);have V:Hid (okAt okF ordF L k=false->R=false):=gd λh=>(by rw[<-HR.out];exact Zaj Z h);have Y:Hid (SeenMap (D.put (.string l[k].f.id.data.toList) (.lit (.bool true))) (λs=>(L.take (k+1)).any (λe=>decide (e.id=s)))):=gd (hD.out.put λt=>by rw[hS,List.any_append];simp);obtain ⟨E,h5⟩:∃E,l[k]=E:=⟨_,rfl⟩;rw[h5] at hP hy hl hb Y S hQ;have X:=gd S;have hU:=gd hQ;have hV:=gd h8;have hG:E.f.id.size<=maxLen:=(by have:=hy.1.2;unfold maxLen;omega);have hg:=gd (keyOf_string_mk underlying9 hG);have HM:=gd hM;have hh:=gd hv;have hZ:=gd Z;clear S hQ h8 hS hw h6 h5;obtain ⟨W1,hC⟩:∃W1,wr.alloc (.cells (cellsC E).toArray 55)=W1:=⟨_,rfl⟩;have hf:Ext wr W1:=(by rw[<-hC];exact (Ext.refl _).alloc _);have hz:=λz:Aft W1=>Iz (hM.kept ((hf.trans z.ext).grown none) (by simp)) hD.out hG;simp only[hb] at hz;have H:=gd (λz:Aft W1=>ZdZ E z.w (gc.out.ext (J.trans (hf.trans z.ext))) (hl.ext (hf.trans z.ext)) hy);have I:=gd (λz:Wq=>ZhD E.p E.es E.f z);have hF:W1.heap[wr.heap.size]? =some (.cells (cellsC E).toArray 55):=(by rw[<-hC];exact Zf _ _);have Q:=gd hf;have gb:=gd (hl.ext hf);have h4:=gd hl.sl;have gj:(0:Int)<=(k:Int):=(by omega);have gk:(k:Int)<(l.length:Int):=(by omega);have hW:Hid (k<maxLen):=gd (by unfold maxLen;omega);clear hf hM hb hl hy;obtain ⟨EP,EE,⟨path,id,title,link,upd,ents⟩⟩:=E;obtain ⟨⟨EA,EN,EC,hp⟩,⟨EB,EM,ED,ho⟩⟩:=h4.out;dsimp only at hp ho;subst hp ho;unfold cellsC fCells at hC hF H;unfold fCells at I;dsimp only at hC hF H I hP hz Y hg hG;obtain ⟨b0,b1,b2,b3,b4,b5⟩:=Ze7 hF;obtain ⟨a0,a1,a2,a3,a4,a5⟩:=hP;have B0:=λz:Aft W1=>Aft.cell b0 z;have B1:=λz:Aft W1=>Aft.cell b1 z;have B2:=λz:Aft W1=>Aft.cell b2 z;have B3:=λz:Aft W1=>Aft.cell b3 z;have B4:=λz:Aft W1=>Aft.cell b4 z;have B5:=λz:Aft W1=>Aft.cell b5 z;clear b0 b1 b2 b3 b4 b5 hF hG;dsimp only at a0 a1 a2 a3 a4 a5;cases hok:okF ⟨path,id,title,link,upd,ents⟩ with
   |false=>
    have hR:=V.out (by
     rw[Yx];intro h;have h1:=(X.out.1 h).1;rw[hok] at h1;cases h1)
    subst hR;rw[hok] at H;clear hok;simp only[XN,Zco] at H;go_wp2;refine rA ?_
    repeat (first|go_big_quiet_step ((first|(go_at_call 87;with_reducible exact ZE (H.out _))|(go_at_call 88;with_reducible exact ZE (I.out _))))|quiet_step ((first|(go_at_call 87;with_reducible exact ZE (H.out _))|(go_at_call 88;with_reducible exact ZE (I.out _)))))
    refine Z5 ?_;rintro _ ⟨d1,rfl⟩;go_wp2;go_ret;exact ⟨rfl,J.trans (Q.out.trans d1.ext)⟩
   |true=>
    have h2:=gd hok;rw[hok] at H;clear hok;simp only[QE] at H;rcases YP k with h0|h9
    ·cases b with
     |true=>
      have hR:=V.out (hV.out rfl);subst hR;subst h0;simp only[Xf,add_zero] at a0 a1 a2 a3 a4 a5;go_wp2;refine rA ?_
      repeat (first|go_big_quiet_step ((first|(go_at_call 87;with_reducible exact ZE (H.out _))|(go_at_call 88;with_reducible exact ZE (I.out _))))|quiet_step ((first|(go_at_call 87;with_reducible exact ZE (H.out _))|(go_at_call 88;with_reducible exact ZE (I.out _)))))
      refine Z5 ?_
      rintro _ ⟨d1,rfl⟩
      go_wp2
      go_ret
      exact ⟨rfl,J.trans (Q.out.trans d1.ext)⟩
     |false=>
      have U:=gd (X.out.2 ⟨h2.out,λh=>absurd h (by omega),hU.out rfl⟩)
      subst h0
      simp only[Xf,add_zero] at a0 a1 a2 a3 a4 a5
      go_wp2
      refine rA ?_
      repeat (first|go_big_quiet_step ((first|(go_at_call 87;with_reducible exact ZE (H.out _))|(go_at_call 88;with_reducible exact ZE (I.out _))))|quiet_step ((first|(go_at_call 87;with_reducible exact ZE (H.out _))|(go_at_call 88;with_reducible exact ZE (I.out _)))))
      refine Z5 ?_
      rintro _ ⟨d1,rfl⟩
      have hJ:=gd (HM.out.kept ((Q.out.trans d1.ext).grown none) (by simp))
      have hN:=gd (J.trans (Q.out.trans d1.ext))
      have D0:=B0 d1
      have D1:=B1 d1
      have D2:=B2 d1
      have D3:=B3 d1
      have D4:=B4 d1
      have D5:=B5 d1
      clear B0 B1 B2 B3 B4 B5 hz
      go_wp2_with (first|(go_at_call 88;(with_reducible refine Za (I.out _) ?_);rintro e w2 ⟨rfl,hx⟩)|(at_mapUpdate;(refine Uf _ rfl (.tmp 46) (.tmp 49) (.const (.bool true)) 183 rfl 9 4 Uv underlying183 _ w.heap.size 0 D rfl (hJ.out.kept (hx.grown none) (by simp)) hW.out _ _ _ rfl rfl hg.out _ [] (plainElem_bool underlying4 true) ?_);intro w5 hm hs))
      have hT:Ext w w5:=Ext.grown' (B:=0) (hN.out.trans hx) hs (λb hb=>by cases hb;exact Zb _)
      have hK:=gd hm
      clear hm hs
      go_roundw
      case rel=>exact ⟨0+1,_,hh.out,by go_num,hK.out,Y,gd (λt ht=>by
       by_cases e:t=0
       ·rw[e];exact U.out
       ·exact hu.out t (by omega)),hT⟩
      case measure=>simp[intOf];have:=hh.out;omega
    ·obtain ⟨q,hq⟩:∃q,k=q+1:=⟨k - 1,by omega⟩;have hH:q<l.length:=(by have:=hh.out;omega);obtain ⟨af,c3,e3,hO⟩:=(RFcs.ext HH.out (J.trans Q.out)).at hH;injection e3 with e3 e3' e3'';injection e3 with e3;subst e3;clear e3' e3'';have hd:=(h3.out _ (Zz hH)).ext (J.trans Q.out);have hB:=HS.out _ (Zz hH);have hA:∀h:k - 1<L.length,L[k - 1]=l[q].f:=λh=>(by subst hq;exact hX.out q hH);obtain ⟨F,hO,hd,hB,hA⟩:∃F:Fc,AtFc W1 (ad.add (q*6)) F/\RdC W1 F/\fokS F.f/\(∀h:k - 1<L.length,L[k - 1]=F.f):=⟨_,hO,hd,hB,hA⟩;have ha:=gd hA;have M:ordF.lt F.f ⟨path,id,title,link,upd,ents⟩=decide (feedCmp F.f ⟨path,id,title,link,upd,ents⟩<0):=rfl;have K:=gd (λz:Aft W1=>KO F ⟨.slice EA EN EC,.slice EB EM ED,⟨path,id,title,link,upd,ents⟩⟩ z.w hd.sl.2 h4.out.2 (hd.1.ext z.ext) (gb.out.1.ext z.ext) (by have:=hB.1.2;omega));have gi:=hd.sl;dsimp only at K;obtain ⟨cc,hc⟩:∃cc,feedCmp F.f ⟨path,id,title,link,upd,ents⟩=cc:=⟨_,rfl⟩;rw[hc] at M;simp only[hc] at K;clear hA hc hd hB;obtain ⟨FP,FE,FF⟩:=F;obtain ⟨⟨FA,FN,FC,hp⟩,⟨FB,FM,FD,ho⟩⟩:=gi;dsimp only at hp ho;subst hp ho;obtain ⟨k0,k1,k2,k3,k4,k5⟩:=hO;dsimp only at k0 k1 k2 k3 k4 k5 K M ha;have C0:=λz:Aft W1=>Aft.cell k0 z;have C1:=λz:Aft W1=>Aft.cell k1 z;have C2:=λz:Aft W1=>Aft.cell k2 z;have C3:=λz:Aft W1=>Aft.cell k3 z;have C4:=λz:Aft W1=>Aft.cell k4 z;have C5:=λz:Aft W1=>Aft.cell k5 z;clear k0 k1 k2 k3 k4 k5;have gl:(0:Int)<(k:Int):=(by omega);have gn:wrap64 ((k:Int) - 1)=(q:Int):=(by rw[Uo _ ⟨by omega,by omega⟩];omega);have gm:(k:Int) - 1=(q:Int):=(by omega);have gp:(0:Int)<=(q:Int):=(by omega);have gq:(q:Int)<(l.length:Int):=(by omega);unfold cellsC fCells at K;dsimp only at K;by_cases hI:cc<0
     ·have hi:Hid (∀h:0<k,ordF.lt (L[k - 1]'(XP (Jk _ _) hZ.out)) ⟨path,id,title,link,upd,ents⟩=true):=gd (λh=>by rw[ha.out,M];exact YJ hI);have gf:¬(0:Int)<=cc:=(by omega);cases b with
      |true=>
       have hR:=V.out (hV.out rfl);subst hR;clear M hq ha;go_wp2;refine rA ?_
       repeat (first|go_big_quiet_step ((first|(go_at_call 87;with_reducible exact ZE (H.out _))|(go_at_call 70;with_reducible exact ZE (K.out _))|(go_at_call 88;with_reducible exact ZE (I.out _))))|quiet_step ((first|(go_at_call 87;with_reducible exact ZE (H.out _))|(go_at_call 70;with_reducible exact ZE (K.out _))|(go_at_call 88;with_reducible exact ZE (I.out _)))))
       refine Z5 ?_
       rintro _ ⟨d1,rfl⟩
       go_wp2
       go_ret
       exact ⟨rfl,J.trans (Q.out.trans d1.ext)⟩
      |false=>
       have U:=gd (X.out.2 ⟨h2.out,hi.out,hU.out rfl⟩)
       clear M hq ha hi
       go_wp2
       refine rA ?_
       repeat (first|go_big_quiet_step ((first|(go_at_call 87;with_reducible exact ZE (H.out _))|(go_at_call 70;with_reducible exact ZE (K.out _))|(go_at_call 88;with_reducible exact ZE (I.out _))))|quiet_step ((first|(go_at_call 87;with_reducible exact ZE (H.out _))|(go_at_call 70;with_reducible exact ZE (K.out _))|(go_at_call 88;with_reducible exact ZE (I.out _)))))
       refine Z5 ?_
       rintro _ ⟨d1,rfl⟩
       have hJ:=gd (HM.out.kept ((Q.out.trans d1.ext).grown none) (by simp))
       have hN:=gd (J.trans (Q.out.trans d1.ext))
       have D0:=B0 d1
       have D1:=B1 d1
       have D2:=B2 d1
       have D3:=B3 d1
       have D4:=B4 d1
       have D5:=B5 d1
       clear B0 B1 B2 B3 B4 B5 hz
       go_wp2_with (first|(go_at_call 88;(with_reducible refine Za (I.out _) ?_);rintro e w2 ⟨rfl,hx⟩)|(at_mapUpdate;(refine Uf _ rfl (.tmp 46) (.tmp 49) (.const (.bool true)) 183 rfl 9 4 Uv underlying183 _ w.heap.size k D rfl (hJ.out.kept (hx.grown none) (by simp)) hW.out _ _ _ rfl rfl hg.out _ [] (plainElem_bool underlying4 true) ?_);intro w5 hm hs))
       have hT:Ext w w5:=Ext.grown' (B:=0) (hN.out.trans hx) hs (λb hb=>by cases hb;exact Zb _)
       have hK:=gd hm
       clear hm hs
       go_roundw
       case rel=>exact ⟨k+1,_,hh.out,by go_num,hK.out,Y,gd (λt ht=>by
        by_cases e:t=k
        ·rw[e];exact U.out
        ·exact hu.out t (by omega)),hT⟩
       case measure=>simp[intOf];have:=hh.out;omega
     ·have hR:=V.out (by
       rw[Yx]
       intro h
       have h1:=(X.out.1 h).2.1 h9
       rw[ha.out,M] at h1
       exact hI (YG h1))
      subst hR
      have gf:(0:Int)<=cc:=(by omega)
      clear M hq ha
      go_wp2
      refine rA ?_
      repeat (first|go_big_quiet_step ((first|(go_at_call 87;with_reducible exact ZE (H.out _))|(go_at_call 70;with_reducible exact ZE (K.out _))|(go_at_call 88;with_reducible exact ZE (I.out _))))|quiet_step ((first|(go_at_call 87;with_reducible exact ZE (H.out _))|(go_at_call 70;with_reducible exact ZE (K.out _))|(go_at_call 88;with_reducible exact ZE (I.out _)))))
      refine Z5 ?_
      rintro _ ⟨d1,rfl⟩
      go_wp2
      go_ret
      exact ⟨rfl,J.trans (Q.out.trans d1.ext)⟩
  ·have gh:k=l.length:=(by omega);subst gh;have ge:R=true:=(by rw[<-HR.out];exact ZbP (by rw[hY.out];exact hu.out));subst ge;go_wp2;go_ret;exact ⟨rfl,J⟩
theorem ZdX (v:Value) (l:List Fc) (w:Wq) (K:Env w) (F:RFcs w v l) (D:∀x∈l,RdC w x) (Q:∀x∈l,fokS x.f) (R:l.length<=1000000):
 Calls prog 43 #[.agg #[v]] w λe w'=>e= .returned (nI (if okA (l.map Fc.f)=true then 0 else 22))/\Ext w w':=by
 have J:=gd (λ(w':Wq) (h:Ext w w')=>ZcB v l w' (K.ext h) (F.ext h) (λx S=>(D x S).ext h) Q R);have I:=gd (λw'=>XC (okL okF ordF (l.map Fc.f)) w');unfold okA;obtain ⟨b,M⟩:∃b,okL okF ordF (l.map Fc.f)=b:=⟨_,rfl⟩;simp only[M] at J I|-;obtain ⟨A,c,rfl, -, -⟩:=F.form;clear M F D Q K;go_enter func43,ntmps43
 go_wp2_with (first|(go_at_call 86;(with_reducible refine Za (J.out _ ((Ext.refl w).alloc _)) ?_);rintro e1 w1 ⟨rfl,H⟩)|(go_at_call 85;(with_reducible refine Za (I.out _) ?_);rintro e2 w2 ⟨rfl,rfl⟩))
 all_goals go_ret
 all_goals exact ⟨rfl,((Ext.refl _).alloc _).trans H⟩
section
variable {N c d:Nat} {f:Fd} {nm:List UInt8}
mutual
def Nd.small (N:Nat):Nd->Prop
 | .mk k s n al ks t a=>k=0/\s= []/\n.length<=7/\al.length<=4/\(∀b∈al,b.space= []/\b.name.length<=7/\b.value.length<=N/\b.at_=0)/\ks.length<=N/\t= []/\a=0/\Nds.small N ks
def Nds.small (N:Nat):List Nd->Prop
 | []=>True
 |x::t=>x.small N/\Nds.small N t
end
theorem V8:∀l:List Nd,Nds.small N l↔∀x∈l,x.small N
 | []=>by rw[Nds.small];simp
 |x::t=>by rw[Nds.small,V8 t];simp
theorem ZeO (v:Bool):∀l:List UInt8,(wescL v l).length<=6*l.length
 | []=>Zb _
 |c::t=>by
  have ih:=ZeO v t
  have h:(wescC v c).length<=6:=by
   unfold wescC wescB
   repeat' split
   all_goals simp
  show (wescC v c++wescL v t).length<=_
  rw[Zd,Ze]
  omega
theorem G4:∀al:List AtP,(∀b∈al,b.space= []/\b.name.length<=7/\b.value.length<=N/\b.at_=0)->(attrsW al).length<=al.length*(6*N+11)
 | [],_=>Zh _
 |b::t,h=>by
  have ih:=G4 t λx A=>h x (ZJ _ A)
  obtain ⟨_,F,H,_⟩:=h b ZS
  have I:=ZeO true b.value
  have D:(attrW b).length<=6*N+11:=by
   unfold attrW
   simp only[Zd,Ze,ZT]
   omega
  show (attrW b++attrsW t).length<=_
  rw[Zd,Ze,Nat.add_mul]
  omega
mutual
theorem ZbZ {N:Nat}:∀n:Nd,n.small N->(nodeW n).length<=n.cnt*(24*N+100)
 | .mk k s n al ks t a,h=>by
  rw[Nd.small] at h
  obtain ⟨rfl,rfl,hn,ha,hb,hk,rfl,rfl,hs⟩:=h
  have ih:=ZaF ks hs
  have h1:=G4 al hb
  have h2:al.length*(6*N+11)<=4*(6*N+11):=Nat.mul_le_mul_right _ ha
  rw[nodeW,Zg (by decide),Nd.cnt,Nat.add_mul]
  split
  ·simp only[Zd,Ze,ZT]
   omega
  ·simp only[Zd,Ze,ZT]
   omega
theorem ZaF {N:Nat}:∀l:List Nd,Nds.small N l->(nodesW l).length<=Nds.cnt l*(24*N+100)
 | [],_=>by rw[nodesW];exact Zh _
 |x::t,h=>by
  rw[Nds.small] at h
  have h1:=ZbZ x h.1
  have h2:=ZaF t h.2
  rw[nodesW,Zd,Nds.cnt,Nat.add_mul]
  omega
end
mutual
theorem ZaE {N:Nat} (hN:7<=N):∀n:Nd,n.small N->n.fits N
 | .mk k s n al ks t a,h=>by
  rw[Nd.small] at h
  obtain ⟨rfl,rfl,hn,ha,hb,hk,rfl,rfl,hs⟩:=h
  rw[Nd.fits]
  refine ⟨by decide,Zh _,by omega,by omega,λb hb'=> ?_,hk,Zh _,Zh _,IZ hN ks hs⟩
  obtain ⟨e1,e2,e3,e4⟩:=hb b hb'
  refine ⟨by rw[e1];exact Zh _,by omega,by omega,by omega⟩
theorem IZ {N:Nat} (hN:7<=N):∀l:List Nd,Nds.small N l->Nds.fits N l
 | [],_=>by rw[Nds.fits];trivial
 |x::t,h=>by
  rw[Nds.small] at h
  rw[Nds.fits]
  exact ⟨ZaE hN x h.1,IZ hN t h.2⟩
end
def smF (N:Nat) (f:Fd):Prop:=(∀p∈f.path,p.size<=N)/\f.id.size<=N/\f.title.size<=N/\f.link.size<=N
theorem Zdr (J:3<=N) (h:smF N f):(feedN f).small N/\(feedN f).cnt=1:=by
 obtain ⟨_,F,H,I⟩:=h;have e:feedN f=if f.link.size=0 then .mk 0 [] outlineL ([(typeL,rssL),(textL,lst f.title),(xmlUrlL,lst f.id)].map pairA) [] [] 0 else .mk 0 [] outlineL ([(typeL,rssL),(textL,lst f.title),(xmlUrlL,lst f.id)].map pairA++ [(htmlUrlL,lst f.link)].map pairA) [] [] 0:=by unfold feedN;dsimp only;split<;>rfl
 have D:∀b∈([(typeL,rssL),(textL,lst f.title),(xmlUrlL,lst f.id),(htmlUrlL,lst f.link)]:List _).map pairA,b.space= []/\b.name.length<=7/\b.value.length<=N/\b.at_=0:=by
  intro b A;simp only[ZP,Yt,ZI,Yg,Xx] at A;rcases A with rfl|rfl|rfl|rfl
  ·exact ⟨rfl,by decide,J,rfl⟩
  ·exact ⟨rfl,by show 4<=7;decide,H,rfl⟩
  ·exact ⟨rfl,by show 6<=7;decide,F,rfl⟩
  ·exact ⟨rfl,by show 7<=7;decide,I,rfl⟩
 rw[e];split
 ·refine ⟨?_,by rw[Nd.cnt,Nds.cnt]⟩;rw[Nd.small];exact ⟨rfl,rfl,by decide,by show 3<=4;decide,λb A=>D b (by simp only[ZP,Yt,ZI,Yg,Xx] at A|-;rcases A with h|h|h<;>simp[h]),Zh _,rfl,rfl,by rw[Nds.small];trivial⟩
 ·refine ⟨?_,by rw[Nd.cnt,Nds.cnt]⟩;rw[Nd.small];exact ⟨rfl,rfl,by decide,by show 4<=4;decide,λb A=>D b A,Zh _,rfl,rfl,by rw[Nds.small];trivial⟩
theorem VQ {K:List Nd} {ps:List (List UInt8×List UInt8)} (H:nm.length<=7) (hK:elems K) (J:Nds.small N K) (F:K.length<=N) (I:ps.length<=4) (A:∀p∈ps,p.1.length<=7/\p.2.length<=N):
 (withP (elemN nm K) ps).small N/\(withP (elemN nm K) ps).cnt=1+Nds.cnt K:=by
 have e:withP (elemN nm K) ps= .mk 0 [] nm (ps.map pairA) K [] 0:=by unfold elemN;rw[Jz hK];rfl
 rw[e];refine ⟨?_,by rw[Nd.cnt]⟩;rw[Nd.small];refine ⟨rfl,rfl,H,by rw[Zk];exact I,λb D=> ?_,F,rfl,rfl,J⟩;obtain ⟨p,h,rfl⟩:=ZO.1 D;exact ⟨rfl,(A p h).1,(A p h).2,rfl⟩
theorem IJ (A:3<=N):∀l:List Fd,(∀x∈l,smF N x)->Nds.small N (l.map feedN)/\Nds.cnt (l.map feedN)=l.length
 | [],_=>⟨by rw[Yt,Nds.small];trivial,by rw[Yt,Nds.cnt];rfl⟩
 |x::t,h=>by
  obtain ⟨D,F⟩:=Zdr A (h x ZS)
  obtain ⟨H,I⟩:=IJ A t λy J=>h y (ZJ _ J)
  rw[ZP,Nds.small,Nds.cnt,F,I,Ze]
  exact ⟨⟨D,H⟩,by omega⟩
theorem IR {rec_:List Fd->List Nd} (R:3<=N) (A:∀g:List Fd,(∀x∈g,smF N x)->g.length<=N->elems (rec_ g)/\Nds.small N (rec_ g)/\(rec_ g).length<=g.length/\Nds.cnt (rec_ g)<=c*g.length):
 ∀(f:Nat) (l:List Fd),(∀x∈l,smF N x)->l.length<=N->Nds.small N (foldsP rec_ d f l)/\(foldsP rec_ d f l).length<=l.length/\Nds.cnt (foldsP rec_ d f l)<=(c+1)*l.length
 |0,l,_,_=>by rw[foldsP];exact ⟨by rw[Nds.small];trivial,Zh _,by rw[Nds.cnt];exact Zh _⟩
 |f+1,[],_,_=>by rw[foldsP];exact ⟨by rw[Nds.small];trivial,Zh _,by rw[Nds.cnt];exact Zh _⟩
 |f+1,x::t,h,hl=>by
  obtain ⟨n,H⟩:∃n,((x::t).takeWhile λy=>decide (pathAt y d=pathAt x d)).length=n:=⟨_,rfl⟩;have D:=Zcl x t d;have S:n<=(x::t).length:=by rw[<-H];exact (YF _).length_le
  rw[H] at D;rw[foldsP];(try dsimp only);rw[H];have I:(pathAt x d).size<=N:=by
   unfold pathAt;rw[Z0];cases hq:x.path[d]? with
   |none=>exact Zh _
   |some p=>exact (h x ZS).1 p (List.mem_of_getElem? hq)
  have J:((x::t).take n).length=n:=by rw[ZG];omega
  have F:((x::t).drop n).length=(x::t).length - n:=Zm;obtain ⟨Z,r2,r3,r4⟩:=A ((x::t).take n) (λy K=>h y (Jr K)) (by omega);obtain ⟨M,Q⟩:=VQ (N:=N) (nm:=outlineL) (ps:= [(textL,lst (pathAt x d))]) (by decide) Z r2 (by omega) (by show 1<=4;decide) (λp U=>by rw[Zo.1 U];exact ⟨by show 4<=7;decide,I⟩);obtain ⟨V,X,Y⟩:=IR R A f ((x::t).drop n) (λy K=>h y (YV K)) (by omega);rw[J] at r3 r4;rw[F] at X Y;refine ⟨by rw[Nds.small];exact ⟨M,V⟩,by rw[Ze];omega,?_⟩;rw[Nds.cnt,Q];have e1:(c+1)*(x::t).length=(c+1)*n+(c+1)*((x::t).length - n):=by rw[<-Nat.mul_add];congr 1;omega
  have e2:(c+1)*n=c*n+n:=by rw[Nat.add_mul,Nat.one_mul]
  rw[e1,e2];omega
theorem Zal (F:3<=N):∀(f d:Nat) (l:List Fd),(∀x∈l,smF N x)->l.length<=N->Nds.small N (outsP f d l)/\(outsP f d l).length<=l.length/\Nds.cnt (outsP f d l)<=(f+1)*l.length
 |0,d,l,_,_=>by rw[outsP];exact ⟨by rw[Nds.small];trivial,Zh _,by rw[Nds.cnt];exact Zh _⟩
 |f+1,d,l,h,hl=>by
  obtain ⟨n,M⟩:∃n,(l.takeWhile λx=>decide (x.path.length=d)).length=n:=⟨_,rfl⟩
  have J:l.takeWhile (λx=>decide (x.path.length=d))=l.take n:=by rw[<-M];exact Xn.1 (JQ _)
  have X:n<=l.length:=by rw[<-M];exact (YF _).length_le
  have A:(l.take n).length=n:=by rw[ZG];omega
  have H:(l.drop n).length=l.length - n:=Zm
  rw[outsP,J,A]
  obtain ⟨Q,K⟩:=IJ F (l.take n) λx D=>h x (Jr D)
  obtain ⟨R,S,U⟩:=IR (c:=f+1) (d:=d) (rec_:=outsP f (d+1)) F (λg V I=>by
   obtain ⟨Y,Z,r3⟩:=Zal F f (d+1) g V I
   exact ⟨UU _ _ _,Y,Z,r3⟩) (l.length+1) (l.drop n) (λx D=>h x (YV D)) (by omega)
  rw[H] at S U
  rw[A] at K
  refine ⟨(V8 _).2 λx D=>(Zu.1 D).elim ((V8 _).1 Q x) ((V8 _).1 R x),by rw[Zd,Zk,A];omega,?_⟩
  rw[Nds.cnt_app,K]
  have e1:(f+1+1)*l.length=(f+1+1)*n+(f+1+1)*(l.length - n):=by rw[<-Nat.mul_add];congr 1;omega
  have e2:n<=(f+1+1)*n:=Nat.le_mul_of_pos_left _ (by omega)
  rw[e1]
  omega
theorem ZgX {l:List Fd} (h:∀x∈l,smF 10000 x) (V:l.length<=10000):(encP l).small 10000/\(encP l).fits 10000/\(docW (encP l)).length<=140737488355328:=by
 obtain ⟨X,o2,o3⟩:=Zal (N:=10000) (by decide) 66 0 l h V;have U:elemN headL []=withP (elemN headL []) []:=rfl;have R:elemN bodyL (outsP 66 0 l)=withP (elemN bodyL (outsP 66 0 l)) []:=by unfold elemN withP;simp
 obtain ⟨J,M⟩:=VQ (N:=10000) (nm:=bodyL) (ps:= []) (by decide) (UU 66 0 l) X (by omega) (by decide) (by intro p F;cases F);obtain ⟨c1,c2⟩:=VQ (N:=10000) (nm:=headL) (K:= []) (ps:= []) (by decide) (by intro k A;cases A) (by rw[Nds.small];trivial) (Zh _) (by decide) (by intro p F;cases F);rw[<-R] at J M;rw[<-U] at c1 c2;have H:elems [elemN headL [],elemN bodyL (outsP 66 0 l)]:=λk A=>by
  rcases ZI.1 A with rfl|A
  ·rfl
  ·rw[Zo.1 A];rfl
 obtain ⟨I,Y⟩:=VQ (N:=10000) (nm:=opmlL) (ps:= [(versionL,twoL)]) (by decide) H (by rw[Nds.small,Nds.small,Nds.small];exact ⟨c1,J,trivial⟩) (by show 2<=10000;decide) (by show 1<=4;decide) (λp F=>by rw[Zo.1 F];exact ⟨by decide,by decide⟩);refine ⟨I,ZaE (by decide) _ I,?_⟩;have D:=ZbZ _ I;have S:(encP l).cnt<=700000:=by show (withP (elemN opmlL [elemN headL [],elemN bodyL (outsP 66 0 l)]) [(versionL,twoL)]).cnt<=_;rw[Y,Nds.cnt,Nds.cnt,Nds.cnt,M,c2,Nds.cnt];omega
 have Z:(encP l).cnt*(24*10000+100)<=700000*(24*10000+100):=Nat.mul_le_mul_right _ S;unfold docW;rw[Zd,Zd];have Q:headW.length=39:=rfl;have h4:(nodeW (encP l)).length<=(encP l).cnt*(24*10000+100):=D;rw[Q];show 39+_+1<=_;omega
end
theorem ZjQ (v:Bool) {c:UInt8} (h:c=38):wescB v c= [38,97,109,112,59]:=by subst h;rfl
theorem ZjR (v:Bool) {c:UInt8} (h:c=60):wescB v c= [38,108,116,59]:=by subst h;rfl
theorem ZjS (v:Bool) {c:UInt8} (h:c=62):wescB v c= [38,103,116,59]:=by subst h;rfl
theorem ZjO (v:Bool) {c:UInt8} (h:c=13):wescB v c= [38,35,49,51,59]:=by subst h;rfl
theorem ZjP {c:UInt8} (h:c=34):wescB true c= [38,113,117,111,116,59]:=by subst h;rfl
theorem ZkI {c:UInt8} (h:c=9):wescB true c= [38,35,57,59]:=by subst h;rfl
theorem ZjN {c:UInt8} (h:c=10):wescB true c= [38,35,49,48,59]:=by subst h;rfl
theorem ZkJ {c:UInt8} (h:c≠38) (A:c≠60) (D:c≠62) (F:c≠13):wescB false c= []:=by unfold wescB;rw[Zg h,Zg A,Zg D,Zg F];rfl
theorem ZkK {c:UInt8} (h:c≠38) (A:c≠60) (D:c≠62) (F:c≠13) (H:c≠34) (I:c≠9) (J:c≠10):wescB true c= []:=by
 unfold wescB;rw[Zg h,Zg A,Zg D,Zg F,Zg (by decide),Zg H,Zg I,Zg J]
theorem VJ {c d:UInt8} (h:c=d):((c.toNat:Int)==(d.toNat:Int))=true:=by rw[h];simp
theorem J5 {c d:UInt8} (h:c≠d):((c.toNat:Int)==(d.toNat:Int))=false:=by
 rw[ZC];intro e;exact h (YR.1 (by omega))
theorem Zjw (v:Bool) (K:Int) (X:(K==0)= !v) (c:UInt8) (w:Wq):
 Calls prog 127 #[nI K,.int .u8 (c.toNat:Nat)] w λe w'=>e= .returned (.string (str (wescB v c)))/\w'=w:=by
 by_cases A:c=38
 ·rw[ZjQ v A];have S:((c.toNat:Int)==38)=true:=VJ A;clear A;go_enter func127,ntmps127;go_wp2;go_ret;exact ⟨rfl,rfl⟩
 have S:((c.toNat:Int)==38)=false:=J5 A;by_cases D:c=60
 ·rw[ZjR v D];have U:((c.toNat:Int)==60)=true:=VJ D;clear D;go_enter func127,ntmps127;go_wp2;go_ret;exact ⟨rfl,rfl⟩
 have U:((c.toNat:Int)==60)=false:=J5 D;by_cases F:c=62
 ·rw[ZjS v F];have V:((c.toNat:Int)==62)=true:=VJ F;clear F;go_enter func127,ntmps127;go_wp2;go_ret;exact ⟨rfl,rfl⟩
 have V:((c.toNat:Int)==62)=false:=J5 F;by_cases h:c=13
 ·rw[ZjO v h];have Q:((c.toNat:Int)==13)=true:=VJ h;clear h;go_enter func127,ntmps127;go_wp2;go_ret;exact ⟨rfl,rfl⟩
 have Q:((c.toNat:Int)==13)=false:=J5 h;cases v with
 |false=>rw[ZkJ A D F h];clear A D F h;go_enter func127,ntmps127;go_wp2;go_ret;exact ⟨rfl,rfl⟩
 |true=>
  have Y:(K==0)=false:=X;by_cases I:c=34
  ·rw[ZjP I];have R:((c.toNat:Int)==34)=true:=VJ I;clear I A D F h;go_enter func127,ntmps127;go_wp2;go_ret;exact ⟨rfl,rfl⟩
  have R:((c.toNat:Int)==34)=false:=J5 I;by_cases J:c=9
  ·rw[ZkI J];have Z:((c.toNat:Int)==9)=true:=VJ J;clear J A D F h;go_enter func127,ntmps127;go_wp2;go_ret;exact ⟨rfl,rfl⟩
  have Z:((c.toNat:Int)==9)=false:=J5 J;by_cases H:c=10
  ·rw[ZjN H];have M:((c.toNat:Int)==10)=true:=VJ H;clear H A D F h;go_enter func127,ntmps127;go_wp2;go_ret;exact ⟨rfl,rfl⟩
  have M:((c.toNat:Int)==10)=false:=J5 H;rw[ZkK A D F h I J H];clear A D F h I J H;go_enter func127,ntmps127;go_wp2;go_ret;exact ⟨rfl,rfl⟩
theorem Zb5 (v:Bool) (c:UInt8):(wescB v c).length<=6:=by
 unfold wescB
 repeat' split
 all_goals decide
theorem ID (v:Bool):∀l:List UInt8,(wescL v l).length<=6*l.length
 | []=>Zb _
 |c::t=>by
  have h:=ID v t
  have A:=Zb5 v c
  rw[wescL,Zd,Ze]
  unfold wescC
  split
  ·simp only[Ze,ZT];omega
  ·omega
theorem ZaN (v:Bool):∀a b:List UInt8,wescL v (a++b)=wescL v a++wescL v b
 | [],b=>rfl
 |c::t,b=>by
  show wescC v c++wescL v (t++b)=(wescC v c++wescL v t)++wescL v b
  rw[ZaN v t b,Ym]
theorem Zga (v:Bool) (s:ByteArray) (k:Nat) (h:k<s.size):wescL v (s.data.toList.take (k+1))=wescL v (s.data.toList.take k)++wescC v s[k]:=by
 rw[Zq (by rw[ZL];exact h),ZaN]
 congr 1
 show wescC v _++ []=_;rw[Ye];rfl
theorem Zdq (v:Bool) (kv:Int) (hg:(kv==0)= !v) (s:ByteArray) (w:Wq) (hs:s.size<=16777216):
 Calls prog 126 #[nI kv,.func (.func 127) #[] #[],.string s] w λe w'=>e= .returned (.string (str (wescL v s.data.toList)))/\Ext w w':=by
 obtain ⟨Q,hQ⟩:∃Q,wescL v s.data.toList=Q:=⟨_,rfl⟩;rw[hQ];have HQ:=gd hQ;have hj:=gd hg;clear hQ hg;go_enter func126,ntmps126;go_wp2;go_loopw [8,9,10,13] (λfr _ _ i wr=>∃k f:Nat,k<=s.size/\f<=k/\i=nI k/\fr=nI f/\Lib.IsBuilder 96 5 w.heap.size w.heap.size (Lib.byteCells (wescL v (s.data.toList.take f))) wr/\
  Hid (wescL v (s.data.toList.take k)=wescL v (s.data.toList.take f)++(s.data.toList.drop f).take (k - f))/\Ext w wr/\w.heap.size<=wr.heap.size) (λ_ _ _ i _=>s.size - (intOf i).toNat)
 case atStart=>exact ⟨0,0,Zh _,Zh _,rfl,rfl,Lib.fresh_isBuilder _ _ _,(by show _=_;simp),(Ext.refl w).alloc _,(by rw[Zt];omega)⟩
 case round=>
  obtain ⟨k,f,hk,hf,rfl,rfl,hB,hq,Z,F⟩:=hrel;have ht:(wescL v (s.data.toList.take f)).length<=6*s.size:=by have h1:=ID v (s.data.toList.take f);have h2:(s.data.toList.take f).length<=s.size:=(by rw[ZG,ZL];omega);omega
  by_cases hh:k<s.size
  ·have K:=Zjw v kv hj.out s[k] wr;have A:=Zga v s k hh;have H:=ZjB s f k hf hh;unfold wescC at A;have D:=Zb5 v s[k];obtain ⟨E,Y⟩:∃E,wescB v s[k]=E:=⟨_,rfl⟩;rw[Y] at K A D;have hb:=gd K;by_cases X:E= []
   ·subst X;rw[Zl rfl] at A;have V:Hid (wescL v (s.data.toList.take (k+1))=wescL v (s.data.toList.take f)++(s.data.toList.drop f).take (k+1 - f)):=(by show _=_;rw[A,hq.out,H,Ym]);have ho:(str ([]:List UInt8)).toList.isEmpty=true:=QF [];clear K A H Y hq D
    go_wp2_with (first|(go_at_call 127;refine Za hb.out ?_;rintro e w' ⟨rfl,rfl⟩))
    go_roundw
    case rel=>exact ⟨k+1,f,by omega,by omega,by go_num,rfl,hB,V,Z,F⟩
    case measure=>simp[intOf];omega
   ·rw[Zg X] at A;have V:Hid (Lib.byteCells (wescL v (s.data.toList.take (k+1)))=Lib.byteCells (wescL v (s.data.toList.take f))++Lib.byteCells (s.extract f k).data.toList++Lib.byteCells (str E).data.toList):=(by show _=_;rw[A,hq.out,Ke s f k hf,Ya,YK,YK]);have ho:(str E).toList.isEmpty=false:=(by rw[QF];cases E<;>simp_all);have S:(s.extract f k).size<=16777216:=(by rw[ByteArray.size_extract];omega);have U:(str E).size<=6:=(by rw[YN];exact D);have hc:=gd S;have hm:=gd U;clear K A H Y hq X S U D
    go_wp2_with (first|(go_at_call 127;refine Za hb.out ?_;rintro e w' ⟨rfl,rfl⟩))
    refine (Jd _ _ _ _ _ hB (by rw[Xz];have:=hc.out;omega) F).mono ?_;rintro e w4 ⟨rfl,J,I⟩
    go_wp2_with fail
    have hp:(Lib.byteCells (wescL v (s.data.toList.take f))++Lib.byteCells (s.extract f k).data.toList).length<=6*s.size+16777216:=(by rw[Zd,Xz,Xz];have h1:(s.extract f k).data.toList.length=(s.extract f k).size:=rfl;have h2:=hc.out;omega);have hl:=gd hp;have hu:=I.size;refine (Jd _ _ _ _ _ J (by have:=hl.out;have:=hm.out;omega) (by omega)).mono ?_;rintro e w5 ⟨rfl,hd,M⟩;rw[<-V.out] at hd;go_wp2;have ha:Ext w w5:=(Z.then (Zgz I (Zb _))).then (Zgz M (Zb _));have hr:=M.size;go_roundw
    case rel=>exact ⟨k+1,k+1,by omega,by omega,by go_num,by go_num,hd,by show _=_;simp,ha,by omega⟩
    case measure=>simp[intOf];omega
  ·have he:k=s.size:=(by omega);have hi:(s.extract f s.size).size<=16777216:=(by rw[ByteArray.size_extract];omega);have R:Lib.byteCells (wescL v (s.data.toList.take f))++Lib.byteCells (s.extract f s.size).data.toList=Lib.byteCells Q:=by
    rw[<-YK,EX]
    congr 1
    have h:=hq.out;have e1:s.data.toList.take s.size=s.data.toList:=ZM (by rw[ZL];exact Zb _);have e2:(s.data.toList.drop f).take (s.size - f)=s.data.toList.drop f:=ZM (by rw[Zm,ZL];exact Zb _);rw[he,e1,e2,HQ.out] at h;exact h.symm
   have HF:=gd R;have hn:=gd hi;clear R hq he hi
   go_wp2_with fail
   refine (Jd _ _ _ (s.extract f s.size) _ hB (by rw[Xz];have:=hn.out;omega) F).mono ?_;rintro e w4 ⟨rfl,J,I⟩;rw[HF.out] at J;have hr:=I.size;have M:Ext w w4:=Z.then (Zgz I (Zb _))
   go_wp2_with (go_at_call 56;refine (JS _ _ _ _ J (by omega)).mono ?_;rintro e w5 ⟨rfl,ha⟩)
   go_ret;exact ⟨rfl,M.then (Zgz ha (Zb _))⟩
theorem ZeV (s:ByteArray) (w:Wq) (h:s.size<=16777216):
 Calls prog 83 #[.string s] w λe w'=>e= .returned (.string (str (wescL false s.data.toList)))/\Ext w w':=by
 have H:=gd (Zdq false 0 rfl s w h);go_enter func83,ntmps83
 go_wp2_with (go_at_call 126;refine Za H.out ?_;rintro e w' ⟨rfl,A⟩)
 go_ret;exact ⟨rfl,A⟩
theorem ZeU (s:ByteArray) (w:Wq) (h:s.size<=16777216):
 Calls prog 84 #[.string s] w λe w'=>e= .returned (.string (str (wescL true s.data.toList)))/\Ext w w':=by
 have H:=gd (Zdq true 1 rfl s w h);go_enter func84,ntmps84
 go_wp2_with (go_at_call 126;refine Za H.out ?_;rintro e w' ⟨rfl,A⟩)
 go_ret;exact ⟨rfl,A⟩
theorem Zbi (s:ByteArray) (w:Wq) (K:Env w) (Q:s.size<=16777216):
 Calls prog 177 #[.string s] w λe w'=>e= .returned (.bool (charsOk s.data.toList))/\Ext w w':=by
 have A:=Vq s w K (by unfold maxLen;omega);have I:charsOk s.data.toList=decide ((checkS s).2=0):=rfl;obtain ⟨a,F⟩:∃a,(checkS s).1=a:=⟨_,rfl⟩;obtain ⟨b,D⟩:∃b,(checkS s).2=b:=⟨_,rfl⟩;rw[I];rw[F,D] at A;rw[D];have H:=gd A;clear A I F D;have J:((b:Int)==0)=decide (b=0):=by
  by_cases h:b=0
  ·rw[h];rfl
  ·rw[Yf h,ZC];omega
 rw[<-J];clear J;go_enter func177,ntmps177
 go_wp2_with (go_at_call 150;refine Za H.out ?_;rintro e w' ⟨rfl,M⟩)
 go_ret;exact ⟨rfl,M⟩
section
variable {j:Nat} {w w':World}
def startL:List (Nat×Nat):= [(65,90),(95,95),(97,122),(192,214),(216,246),(248,767),(880,893),(895,8191),(8204,8205),(8304,8591),(11264,12271),(12289,55295),(63744,64975),(65008,65533),(65536,983039)]
def moreL:List (Nat×Nat):= [(45,46),(48,57),(183,183),(768,879),(8255,8256)]
def pairCells (l:List (Nat×Nat)):Array Value:=(l.flatMap λp=> [Value.int .i32 (p.1:Nat),Value.int .i32 (p.2:Nat)]).toArray
def inL (l:List (Nat×Nat)) (r:Nat):Bool:=l.any λp=>decide (p.1<=r) && decide (r<=p.2)
theorem Zgr {l:List (Nat×Nat)} {r:Nat} (D:j<l.length) (h:l[j].1<=r) (A:r<=l[j].2):inL (l.drop j) r=true:=by
 unfold inL;rw[Zi D,List.any_cons,YJ h,YJ A];rfl
theorem ZdH {l:List (Nat×Nat)} {r:Nat} (A:j<l.length) (h:¬(l[j].1<=r/\r<=l[j].2)):inL (l.drop j) r=inL (l.drop (j+1)) r:=by
 unfold inL;rw[Zi A,List.any_cons];have:(decide (l[j].1<=r) && decide (r<=l[j].2))=false:=by rw[Bool.and_eq_false_iff,UC,UC];omega
 rw[this,Bool.false_or]
theorem Zhe (r:Nat):inL startL r=nmStart r:=by
 unfold inL startL nmStart;simp only[List.any_cons,List.any_nil,Bool.or_false];rw[Y4];simp only[Bool.or_eq_true,Z2,Yn];omega
theorem ZiX (r:Nat):(inL moreL r||nmStart r)=nmChar r:=by
 unfold nmChar;rw[Bool.or_comm]
 congr 1
 unfold inL moreL;simp only[List.any_cons,List.any_nil,Bool.or_false];rw[Y4];simp only[Bool.or_eq_true,Z2,Yn];omega
structure NmTabs (w:Wq):Prop where
 start:∃t fr,w.heap[2]? =some (.cells (pairCells startL) t fr)
 more:∃t fr,w.heap[1]? =some (.cells (pairCells moreL) t fr)
theorem NmTabs.ext (h:NmTabs w) (D:Ext w w'):NmTabs w':=by
 obtain ⟨⟨t,fr,F⟩,⟨I,A,H⟩⟩:=h;exact ⟨⟨t,fr,D.heap F⟩,⟨I,A,D.heap H⟩⟩
theorem UN:(prog.info? 284).map (·.size)=some 2:=by kernel_rfl
theorem ZeI:∀(j:Nat) (h:j<startL.length) (w:Wq),(Instr.index 286 (.agg (pairCells startL)) (nI (j:Nat))).run prog w= .ok (.agg #[.int .i32 (startL[j].1:Nat),.int .i32 (startL[j].2:Nat)]) w
 |0,_,w=>by kernel_rfl
 |1,_,w=>by kernel_rfl
 |2,_,w=>by kernel_rfl
 |3,_,w=>by kernel_rfl
 |4,_,w=>by kernel_rfl
 |5,_,w=>by kernel_rfl
 |6,_,w=>by kernel_rfl
 |7,_,w=>by kernel_rfl
 |8,_,w=>by kernel_rfl
 |9,_,w=>by kernel_rfl
 |10,_,w=>by kernel_rfl
 |11,_,w=>by kernel_rfl
 |12,_,w=>by kernel_rfl
 |13,_,w=>by kernel_rfl
 |14,_,w=>by kernel_rfl
 |j+15,h,w=>absurd h (by show ¬j+15<15;omega)
theorem ZfL:∀(j:Nat) (h:j<moreL.length) (w:Wq),(Instr.index 285 (.agg (pairCells moreL)) (nI (j:Nat))).run prog w= .ok (.agg #[.int .i32 (moreL[j].1:Nat),.int .i32 (moreL[j].2:Nat)]) w
 |0,_,w=>by kernel_rfl
 |1,_,w=>by kernel_rfl
 |2,_,w=>by kernel_rfl
 |3,_,w=>by kernel_rfl
 |4,_,w=>by kernel_rfl
 |j+5,h,w=>absurd h (by show ¬j+5<5;omega)
theorem Gp (r:Nat) (w:Wq) (hN:NmTabs w) (hr:r<=1114111):
 Calls prog 231 #[.int .i32 (r:Nat)] w λe w'=>e= .returned (.bool (nmStart r))/\Ext w w':=by
 obtain ⟨t,fr,hg⟩:=hN.start;have J:startL.length=15:=rfl;have M:=gd ZeI;have D:(prog.info? 286).map (·.size)=some (pairCells startL).size:=by kernel_rfl
 rw[<-Zhe];obtain ⟨L,hL⟩:∃L,startL=L:=⟨_,rfl⟩;rw[hL] at hg J M D|-;obtain ⟨CS,X⟩:∃CS,pairCells L=CS:=⟨_,rfl⟩;rw[X] at hg M D;obtain ⟨R,h⟩:∃R,inL L r=R:=⟨_,rfl⟩;rw[h];have HR:Hid (inL (L.drop 0) r=R):=h;have V:=gd J;clear hL X h J;go_enter func231,ntmps231
 go_wp2_with (refine wpList_load_row rfl 286 _ rfl 2 rfl t _ fr _ hg underlying286 rfl D ?_)
 go_loopw [6] (λv wr=>∃j:Nat,j<=15/\v=nI j/\Hid (inL (L.drop j) r=R)/\Ext w wr) (λv _=>15 - (intOf v).toNat)
 case atStart=>exact ⟨0,Zh _,rfl,HR,Ext.refl _⟩
 case round=>
  obtain ⟨j,hj,rfl,A,hx⟩:=hrel;by_cases S:j<15
  ·have Q:j<L.length:=(by rw[V.out];exact S);have hd:=M.out j Q;have hf:(j:Int)<15:=(by omega);have HH:=gd (Zgr (r:=r) Q);have HM:=gd (ZdH (r:=r) Q);obtain ⟨F,Z⟩:∃F,L[j].1=F:=⟨_,rfl⟩;obtain ⟨H,Y⟩:∃H,L[j].2=H:=⟨_,rfl⟩;rw[Z,Y] at hd HH HM;clear Z Y;obtain ⟨U,I⟩:∃U,wr.alloc (.cells #[.int .i32 (F:Nat),.int .i32 (H:Nat)] 284)=U:=⟨_,rfl⟩;have hb:U.heap[wr.heap.size]? =some (.cells #[.int .i32 (F:Nat),.int .i32 (H:Nat)] 284):=(by rw[<-I];exact Zf wr _);have ha:Ext wr U:=(by rw[<-I];exact (Ext.refl wr).alloc _);have c0:U.cell? ⟨wr.heap.size,0,none⟩=some (.int .i32 (F:Nat)):=(by rw[Xj _ _ _ _ _ _ hb];rfl);have c1:U.cell? ⟨wr.heap.size,1,none⟩=some (.int .i32 (H:Nat)):=(by rw[Xj _ _ _ _ _ _ hb];rfl);have HX:=gd (hx.trans ha);have K:(#[Value.int .i32 (F:Nat),.int .i32 (H:Nat)]).all (λu=>u.oneCell')=true:=(by simp[Value.oneCell']);clear hb hx ha;by_cases h1:F<=r
   ·by_cases h2:r<=H
    ·have h:=A.out;rw[HH.out h1 h2] at h;subst h;have q1:(F:Int)<=(r:Int):=(by omega);have q2:(r:Int)<=(H:Int):=(by omega);clear h1 h2 A HR
     go_wp2_with (refine Zc rfl 284 (.tmp 4) (.tmp 8) rfl wr.heap.size #[.int .i32 (F:Nat),.int .i32 (H:Nat)] rfl rfl _ _ (Zf _ _) UN rfl K ?_;rw[Z4];rw[I])
     go_ret;exact ⟨rfl,HX.out⟩
    ·have h:=A.out;rw[HM.out (by omega)] at h;have HN:=gd h;have q1:(F:Int)<=(r:Int):=(by omega);have q2:¬(r:Int)<=(H:Int):=(by omega);clear h1 h2 A h
     go_wp2_with (refine Zc rfl 284 (.tmp 4) (.tmp 8) rfl wr.heap.size #[.int .i32 (F:Nat),.int .i32 (H:Nat)] rfl rfl _ _ (Zf _ _) UN rfl K ?_;rw[Z4];rw[I])
     go_roundw
     case rel=>exact ⟨j+1,S,by go_num,HN,HX.out⟩
     case measure=>simp[intOf];omega
   ·have h:=A.out;rw[HM.out (by omega)] at h;have HN:=gd h;have q1:¬(F:Int)<=(r:Int):=(by omega);clear h1 A h
    go_wp2_with (refine Zc rfl 284 (.tmp 4) (.tmp 8) rfl wr.heap.size #[.int .i32 (F:Nat),.int .i32 (H:Nat)] rfl rfl _ _ (Zf _ _) UN rfl K ?_;rw[Z4];rw[I])
    go_roundw
    case rel=>exact ⟨j+1,S,by go_num,HN,HX.out⟩
    case measure=>simp[intOf];omega
  ·have he:j=15:=(by omega);have h:=A.out;rw[Zw (by rw[V.out];omega)] at h;have hc:false=R:=h;subst hc;subst he;clear A h HR;go_wp2;go_ret;exact ⟨rfl,hx⟩
theorem Zct (r:Nat) (w:Wq) (hN:NmTabs w) (hr:r<=1114111):
 Calls prog 230 #[.int .i32 (r:Nat)] w λe w'=>e= .returned (.bool (nmChar r))/\Ext w w':=by
 obtain ⟨t,fr,hg⟩:=hN.more;have J:moreL.length=5:=rfl;have M:=gd ZfL;have D:(prog.info? 285).map (·.size)=some (pairCells moreL).size:=by kernel_rfl
 have Y:=gd (λw' (V:Ext w w')=>Gp r w' (hN.ext V) hr);rw[<-ZiX];obtain ⟨L,hL⟩:∃L,moreL=L:=⟨_,rfl⟩;rw[hL] at hg J M D|-;obtain ⟨NS,he⟩:∃NS,nmStart r=NS:=⟨_,rfl⟩;rw[he] at Y|-;obtain ⟨CS,Z⟩:∃CS,pairCells L=CS:=⟨_,rfl⟩;rw[Z] at hg M D;obtain ⟨R,h⟩:∃R,inL L r=R:=⟨_,rfl⟩;rw[h];have HR:Hid (inL (L.drop 0) r=R):=h;have X:=gd J;clear hL Z h J;go_enter func230,ntmps230
 go_wp2_with (refine wpList_load_row rfl 285 _ rfl 1 rfl t _ fr _ hg underlying285 rfl D ?_)
 go_loopw [6] (λv wr=>∃j:Nat,j<=5/\v=nI j/\Hid (inL (L.drop j) r=R)/\Ext w wr) (λv _=>5 - (intOf v).toNat)
 case atStart=>exact ⟨0,Zh _,rfl,HR,Ext.refl _⟩
 case round=>
  obtain ⟨j,hj,rfl,A,V⟩:=hrel;by_cases S:j<5
  ·have Q:j<L.length:=(by rw[X.out];exact S);have hh:=M.out j Q;have hm:(j:Int)<5:=(by omega);have HH:=gd (Zgr (r:=r) Q);have HM:=gd (ZdH (r:=r) Q);obtain ⟨F,hc⟩:∃F,L[j].1=F:=⟨_,rfl⟩;obtain ⟨H,ha⟩:∃H,L[j].2=H:=⟨_,rfl⟩;rw[hc,ha] at hh HH HM;clear hc ha;obtain ⟨U,I⟩:∃U,wr.alloc (.cells #[.int .i32 (F:Nat),.int .i32 (H:Nat)] 284)=U:=⟨_,rfl⟩;have hb:U.heap[wr.heap.size]? =some (.cells #[.int .i32 (F:Nat),.int .i32 (H:Nat)] 284):=(by rw[<-I];exact Zf wr _);have hd:Ext wr U:=(by rw[<-I];exact (Ext.refl wr).alloc _);have c0:U.cell? ⟨wr.heap.size,0,none⟩=some (.int .i32 (F:Nat)):=(by rw[Xj _ _ _ _ _ _ hb];rfl);have c1:U.cell? ⟨wr.heap.size,1,none⟩=some (.int .i32 (H:Nat)):=(by rw[Xj _ _ _ _ _ _ hb];rfl);have HX:=gd (V.trans hd);have K:(#[Value.int .i32 (F:Nat),.int .i32 (H:Nat)]).all (λu=>u.oneCell')=true:=(by simp[Value.oneCell']);clear hb V hd;by_cases h1:F<=r
   ·by_cases h2:r<=H
    ·have h:=A.out;rw[HH.out h1 h2] at h;subst h;have q1:(F:Int)<=(r:Int):=(by omega);have q2:(r:Int)<=(H:Int):=(by omega);clear h1 h2 A HR
     go_wp2_with (refine Zc rfl 284 (.tmp 4) (.tmp 8) rfl wr.heap.size #[.int .i32 (F:Nat),.int .i32 (H:Nat)] rfl rfl _ _ (Zf _ _) UN rfl K ?_;rw[Z4];rw[I])
     go_ret;exact ⟨rfl,HX.out⟩
    ·have h:=A.out;rw[HM.out (by omega)] at h;have HN:=gd h;have q1:(F:Int)<=(r:Int):=(by omega);have q2:¬(r:Int)<=(H:Int):=(by omega);clear h1 h2 A h
     go_wp2_with (refine Zc rfl 284 (.tmp 4) (.tmp 8) rfl wr.heap.size #[.int .i32 (F:Nat),.int .i32 (H:Nat)] rfl rfl _ _ (Zf _ _) UN rfl K ?_;rw[Z4];rw[I])
     go_roundw
     case rel=>exact ⟨j+1,S,by go_num,HN,HX.out⟩
     case measure=>simp[intOf];omega
   ·have h:=A.out;rw[HM.out (by omega)] at h;have HN:=gd h;have q1:¬(F:Int)<=(r:Int):=(by omega);clear h1 A h
    go_wp2_with (refine Zc rfl 284 (.tmp 4) (.tmp 8) rfl wr.heap.size #[.int .i32 (F:Nat),.int .i32 (H:Nat)] rfl rfl _ _ (Zf _ _) UN rfl K ?_;rw[Z4];rw[I])
    go_roundw
    case rel=>exact ⟨j+1,S,by go_num,HN,HX.out⟩
    case measure=>simp[intOf];omega
  ·have hk:j=5:=(by omega);have h:=A.out;rw[Zw (by rw[X.out];omega)] at h;have hf:false=R:=h;subst hf;subst hk;clear A h HR
   go_wp2_with (first|(go_at_call 231;(with_reducible refine Za (Y.out _ V) ?_);rintro e w' ⟨rfl,hl⟩))
   go_ret;exact ⟨rfl,V.trans hl⟩
end
theorem ZjW {a b:Nat} (h:a<=16777216) (A:b<=16777216):wrap64 ((a:Int)+(b:Int))=(a:Int)+(b:Int):=by unfold wrap64;omega
theorem Zdf {l:List UInt8} (h:(dec l).2=0):dec l=(0,0):=by
 unfold dec at h|-;split
 ·rfl
 ·rename_i A;rw[Zg A] at h;split
  ·rfl
  ·rename_i D;rw[Zg D] at h;have F:1<=l.length:=Gk.2 A;rw[Vb] at h;have:=(IH l.length (l.getD 0 0).toNat (l.getD 1 0).toNat (l.getD 2 0).toNat (l.getD 3 0).toNat F).1;omega
theorem ZaJ (s:ByteArray) (k:Nat) (w:Wq) (D:s.size<=k):
 Calls prog 188 #[.string s,nI (k:Nat)] w λe w'=>e= .returned (decVal (0,0))/\Ext w w':=by
 have h:¬(k:Int)<0:=by omega
 have A:(s.size:Int)<=(k:Int):=by omega
 go_enter func188,ntmps188;go_wp2
 go_ret2
 exact ⟨rfl,Ext.refl _⟩
theorem Za9 (s:ByteArray) (k:Nat) (w:Wq) (A:Env w) (D:s.size<=maxLen):
 Calls prog 188 #[.string s,nI (k:Nat)] w λe w'=>e= .returned (.tuple #[.int .i32 ((dec (s.data.toList.drop k)).1:Nat),nI ((dec (s.data.toList.drop k)).2:Nat)])/\Ext w w':=by
 by_cases h:k<s.size
 ·exact Gw s k w A h D
 ·have:=ZaJ s k w (by omega);rw[Zw (by rw[ZL];omega)];exact this
theorem Zde {l:List UInt8}:(dec l).1<=1114111:=by
 by_cases h:(dec l).2=0
 ·rw[Zdf h];exact Zh _
 ·have:=(Zj8 [] h).2.1;unfold scalar at this;omega
theorem Zks (b:Bool):nmOk true b 58=true:=by cases b<;>rfl
theorem Zd6 {r:Nat} (h:(r==58)=false):nmOk true true r=nmStart r:=by unfold nmOk;rw[h];rfl
theorem ZfO {r:Nat} (h:(r==58)=false):nmOk true false r=nmChar r:=by unfold nmOk;rw[h];rfl
theorem Zf8 {r:Nat} (h:nmChar r=false):nmStart r=false:=by unfold nmChar at h;rw[Bool.or_eq_false_iff] at h;exact h.1
theorem ZhJ (s:ByteArray) (b w:Wq) (g:Nat) (hE:Env b) (hN:NmTabs b) (hs:s.size<=16777216) (hJ:b.heap.size<=g) (hM:Ext b w) (hg:w.heap[g]? =some (.cells #[.string s,nI 0,nI 0,nI 0] 261)):
 Calls prog 211 #[.pointer (some ⟨g,0,none⟩)] w λe w'=>e= .returned (.string (s.extract 0 (nmLen true s.data.toList)))/\Ext b w':=by
 have hW:s.size<=maxLen:=by unfold maxLen;omega
 obtain ⟨l,hl⟩:∃l,s.data.toList=l:=⟨_,rfl⟩;have hL:l.length=s.size:=by rw[<-hl,ZL]
 rw[hl];obtain ⟨R0,hA⟩:∃n,nmLen true l=n:=⟨_,rfl⟩;rw[hA];have hT:=gd hA;have HL:=gd hl;have hQ:=gd hL;have c0:w.cell? ⟨g,0,none⟩=some (.string s):=by rw[Jp hg];rfl
 have c1:w.cell? ⟨g,1,none⟩=some (nI 0):=by rw[Jp hg];rfl
 have hP:=gd hg;have hy:=gd hJ;have hU:=gd hM;have HE:=gd hE;have hF:=gd hN;clear hA hl hL hg hJ hM hE hN;go_enter func211,ntmps211;go_wp2;go_loopw [4] (λv wr=>∃j:Nat,v=v/\j<=s.size/\wr.heap[g]? =some (.cells #[.string s,nI (j:Nat),nI 0,nI 0] 261)/\Hid (NmPre true true l j)/\Ext b wr) (λv wr=>s.size - (intOf ((wr.cell? ⟨g,1,none⟩).getD undef)).toNat)
 case atStart=>exact ⟨0,(by trivial),Zh _,hP.out,gd (.zero _ _),hU.out⟩
 case round=>
  obtain ⟨j, -,hj,hv,hp,hO⟩:=hrel;have c0:wr.cell? ⟨g,0,none⟩=some (.string s):=by rw[Jp hv];rfl
  have c1:wr.cell? ⟨g,1,none⟩=some (nI (j:Nat)):=by rw[Jp hv];rfl
  have ho:Hid ((intOf ((wr.cell? ⟨g,1,none⟩).getD undef)).toNat=j):=by show _=_;rw[c1];simp[intOf]
  have hD:=λw' (hx:Ext b w')=>Za9 s j w' (HE.out.ext hx) hW;have hB:=UT (l.drop j);rw[Zm,hQ.out] at hB;have ha:((dec (l.drop j)).2=0\/nmOk true (decide (j=0)) (dec (l.drop j)).1=false)->R0=j:=λh=>by
   rw[<-hT.out];by_cases hV:j<l.length
   ·exact (Zae hp.out hV h).2
   ·have h1:=hp.out.go;unfold nmLen;rw[h1.2,Zw (by omega),Uu];rfl
  have Y:(dec (l.drop j)).2≠0->nmOk true (decide (j=0)) (dec (l.drop j)).1=true->NmPre true true l (j+(dec (l.drop j)).2):=λh1 h2=>hp.out.snoc h1 (by simpa using h2);have hc:(dec (l.drop j)).2=0->(dec (l.drop j)).1=0:=λh=>by rw[Zdf h]
  have hw:=Zde (l:=l.drop j);rw[HL.out] at hD;obtain ⟨R,hR⟩:∃R,(dec (l.drop j)).1=R:=⟨_,rfl⟩;obtain ⟨n,hn⟩:∃n,(dec (l.drop j)).2=n:=⟨_,rfl⟩;rw[hR,hn] at hD ha Y;rw[hn] at hB hc;rw[hR] at hc hw;have HD:=gd hD;have HC:=gd (λw' (hx:Ext b w')=>Zct R w' (hF.out.ext hx) hw);have HS:=gd (λw' (hx:Ext b w')=>Gp R w' (hF.out.ext hx) hw);have Z:=gd hO;have HG:=gd hv;have hi:Hid (j+n<=s.size):=gd (by omega);have hk:Hid (wrap64 ((j:Int)+(n:Int))=(j:Int)+(n:Int)):=gd (ZjW (by omega) (by omega));have hu:=gd (λwx=>QN s 0 j 0 j rfl rfl (Zh _) hj wx);have hY:(0:Int)<=(j:Int):=by omega
  clear hD hR hn hv hO hB hw;by_cases hf:R=58
  ·have X:n≠0:=λe=>(by have:=hc e;omega);have hq:=gd (Y X (by rw[hf];exact Zks _));have hr:=gd X;have hX:((R:Int)==58)=true:=(by rw[JO];omega);have qn:((n:Int)==0)=false:=(by rw[ZC];omega);clear hf X hc ha Y hp;go_wp2;have I:=(Ext.refl wr).drew;have A:wr.drew.cell? ⟨g,0,none⟩=some (.string s)/\wr.drew.cell? ⟨g,1,none⟩=some (nI (j:Nat)):=⟨I.cell c0,I.cell c1⟩;refine rN ?_;change wpAny _ _ _ _ _ _ _ (World.drew _);refine Yi (λw'=>w'.cell? ⟨g,0,none⟩=some (.string s)/\w'.cell? ⟨g,1,none⟩=some (nI (j:Nat))) ?_;refine tG 0 (.pointer (some ⟨g,0,none⟩)) A ?_;refine tG 1 (.pointer (some ⟨g,0,none⟩)) A ?_;refine tG 2 (.pointer (some ⟨g,0,none⟩)) A ?_;refine tS 3 (.string s) rfl (λw' M=>by have q1:=M.1;have q2:=M.2;go_simp) A ?_;refine tG 4 (.pointer (some ⟨g,0,none⟩)) A ?_;refine tG 5 (.pointer (some ⟨g,0,none⟩)) A ?_;refine tG 6 (.pointer (some ⟨g,1,none⟩)) A ?_;refine tS 7 (nI (j:Nat)) rfl (λw' M=>by have q1:=M.1;have q2:=M.2;go_simp) A ?_;go_simp;refine sS 8 λK hK=> ?_;go_simp;go_at_call 188;have hz:=HD.out _ (Z.out.trans I)
   with_reducible refine Za hz ?_
   clear hz;rintro e w3 ⟨rfl,Q⟩;have H:w3.cell? ⟨g,0,none⟩=some (.string s)/\w3.cell? ⟨g,1,none⟩=some (nI (j:Nat)):=⟨Q.cell A.1,Q.cell A.2⟩;refine hK _ _ H ?_;clear hK K;refine sS 9 λK hK=> ?_;go_simp;refine hK _ _ H ?_;clear hK K;refine tG 10 (.int .i32 (R:Nat)) H ?_;refine tG 11 (nI (n:Nat)) H ?_;go_simp;refine sS 12 λK hK=> ?_;go_simp;refine hK _ _ H ?_;clear hK K;refine sS 13 λK hK=> ?_;go_simp;refine hK _ _ H ?_;clear hK K;refine sE ?_;have J:=I.trans Q;have S:=gd (Z.out.trans J);have U:=gd (J.heap HG.out);clear c0 c1 A I Q HD;obtain ⟨d0,d1⟩:=H;have ht:w3.frozen? ⟨g,1,none⟩=false:=YH (J.heap HG.out) 1;have e0:=d0;have e1:=d1;have ef:=ht;have F:=Ext.refl w3;go_wp2;go_roundw
   case rel=>exact ⟨j+n,(by trivial),hi.out,by rw[Int.natCast_add,hk.out];exact Yd _ g 1 _ _ _ (F.heap U.out),hq.out,(S.out.trans F).setCell hy.out _⟩
   case measure=>have h8:=ho.out;have h9:(w3.setCell ⟨g,1,none⟩ (nI ((j:Int)+(n:Int)))).cell? ⟨g,1,none⟩=some (nI ((j:Int)+(n:Int))):=(by rw[Jp (Yd _ g 1 _ _ _ (F.heap U.out))];rfl);have hG:=hi.out;have hH:=hr.out;rw[h8,hk.out,h9];simp[intOf];omega
  ·have hd:(R==58)=false:=(by simpa using hf);have hX:((R:Int)==58)=false:=(by rw[ZC];omega);by_cases hm:j=0
   ·have qj:¬(0:Int)<(j:Int):=(by omega);rw[YJ hm,Zd6 hd] at ha Y;cases hb:nmStart R with
    |true=>
     have X:n≠0:=λe=>(by rw[hc e] at hb;revert hb;decide);have hq:=gd (Y X hb);have hr:=gd X;have qn:((n:Int)==0)=false:=(by rw[ZC];omega);rw[hb] at HS;clear hf hd X hc ha Y hp hm hb;go_wp2;have I:=(Ext.refl wr).drew;have A:wr.drew.cell? ⟨g,0,none⟩=some (.string s)/\wr.drew.cell? ⟨g,1,none⟩=some (nI (j:Nat)):=⟨I.cell c0,I.cell c1⟩;refine rN ?_;change wpAny _ _ _ _ _ _ _ (World.drew _);refine Yi (λw'=>w'.cell? ⟨g,0,none⟩=some (.string s)/\w'.cell? ⟨g,1,none⟩=some (nI (j:Nat))) ?_;refine tG 0 (.pointer (some ⟨g,0,none⟩)) A ?_;refine tG 1 (.pointer (some ⟨g,0,none⟩)) A ?_;refine tG 2 (.pointer (some ⟨g,0,none⟩)) A ?_;refine tS 3 (.string s) rfl (λw' M=>by have q1:=M.1;have q2:=M.2;go_simp) A ?_;refine tG 4 (.pointer (some ⟨g,0,none⟩)) A ?_;refine tG 5 (.pointer (some ⟨g,0,none⟩)) A ?_;refine tG 6 (.pointer (some ⟨g,1,none⟩)) A ?_;refine tS 7 (nI (j:Nat)) rfl (λw' M=>by have q1:=M.1;have q2:=M.2;go_simp) A ?_;go_simp;refine sS 8 λK hK=> ?_;go_simp;go_at_call 188;have hz:=HD.out _ (Z.out.trans I)
     with_reducible refine Za hz ?_
     clear hz;rintro e w3 ⟨rfl,Q⟩;have H:w3.cell? ⟨g,0,none⟩=some (.string s)/\w3.cell? ⟨g,1,none⟩=some (nI (j:Nat)):=⟨Q.cell A.1,Q.cell A.2⟩;refine hK _ _ H ?_;clear hK K;refine sS 9 λK hK=> ?_;go_simp;refine hK _ _ H ?_;clear hK K;refine tG 10 (.int .i32 (R:Nat)) H ?_;refine tG 11 (nI (n:Nat)) H ?_;go_simp;refine sS 12 λK hK=> ?_;go_simp;refine hK _ _ H ?_;clear hK K;refine sS 13 λK hK=> ?_;go_simp;refine hK _ _ H ?_;clear hK K;refine sE ?_;have J:=I.trans Q;have S:=gd (Z.out.trans J);have U:=gd (J.heap HG.out);clear c0 c1 A I Q HD;obtain ⟨d0,d1⟩:=H;have ht:w3.frozen? ⟨g,1,none⟩=false:=YH (J.heap HG.out) 1
     go_wp2_with (first|(go_at_call 231;(with_reducible refine Za (HS.out _ S.out) ?_);rintro e w4 ⟨rfl,F⟩;(have e0:=F.cell d0);(have e1:=F.cell d1);(have ef:w4.frozen? ⟨g,1,none⟩=false:=YH (F.heap U.out) 1)))
     go_roundw
     case rel=>exact ⟨j+n,(by trivial),hi.out,by rw[Int.natCast_add,hk.out];exact Yd _ g 1 _ _ _ (F.heap U.out),hq.out,(S.out.trans F).setCell hy.out _⟩
     case measure=>have h8:=ho.out;have h9:(w4.setCell ⟨g,1,none⟩ (nI ((j:Int)+(n:Int)))).cell? ⟨g,1,none⟩=some (nI ((j:Int)+(n:Int))):=(by rw[Jp (Yd _ g 1 _ _ _ (F.heap U.out))];rfl);have hG:=hi.out;have hH:=hr.out;rw[h8,hk.out,h9];simp[intOf];omega
    |false=>
     have he:=gd (ha (Or.inr hb));rw[hb] at HS;clear hf hd hc ha Y hp hm hb;go_wp2;have I:=(Ext.refl wr).drew;have A:wr.drew.cell? ⟨g,0,none⟩=some (.string s)/\wr.drew.cell? ⟨g,1,none⟩=some (nI (j:Nat)):=⟨I.cell c0,I.cell c1⟩;refine rN ?_;change wpAny _ _ _ _ _ _ _ (World.drew _);refine Yi (λw'=>w'.cell? ⟨g,0,none⟩=some (.string s)/\w'.cell? ⟨g,1,none⟩=some (nI (j:Nat))) ?_;refine tG 0 (.pointer (some ⟨g,0,none⟩)) A ?_;refine tG 1 (.pointer (some ⟨g,0,none⟩)) A ?_;refine tG 2 (.pointer (some ⟨g,0,none⟩)) A ?_;refine tS 3 (.string s) rfl (λw' M=>by have q1:=M.1;have q2:=M.2;go_simp) A ?_;refine tG 4 (.pointer (some ⟨g,0,none⟩)) A ?_;refine tG 5 (.pointer (some ⟨g,0,none⟩)) A ?_;refine tG 6 (.pointer (some ⟨g,1,none⟩)) A ?_;refine tS 7 (nI (j:Nat)) rfl (λw' M=>by have q1:=M.1;have q2:=M.2;go_simp) A ?_;go_simp;refine sS 8 λK hK=> ?_;go_simp;go_at_call 188;have hz:=HD.out _ (Z.out.trans I)
     with_reducible refine Za hz ?_
     clear hz;rintro e w3 ⟨rfl,Q⟩;have H:w3.cell? ⟨g,0,none⟩=some (.string s)/\w3.cell? ⟨g,1,none⟩=some (nI (j:Nat)):=⟨Q.cell A.1,Q.cell A.2⟩;refine hK _ _ H ?_;clear hK K;refine sS 9 λK hK=> ?_;go_simp;refine hK _ _ H ?_;clear hK K;refine tG 10 (.int .i32 (R:Nat)) H ?_;refine tG 11 (nI (n:Nat)) H ?_;go_simp;refine sS 12 λK hK=> ?_;go_simp;refine hK _ _ H ?_;clear hK K;refine sS 13 λK hK=> ?_;go_simp;refine hK _ _ H ?_;clear hK K;refine sE ?_;have J:=I.trans Q;have S:=gd (Z.out.trans J);have U:=gd (J.heap HG.out);clear c0 c1 A I Q HD;obtain ⟨d0,d1⟩:=H;have ht:w3.frozen? ⟨g,1,none⟩=false:=YH (J.heap HG.out) 1;cases hqn:((n:Int)==0) with
     |true=>
      go_wp2_with (first|(go_at_call 231;(with_reducible refine Za (HS.out _ S.out) ?_);rintro e w4 ⟨rfl,F⟩;(have e0:=F.cell d0);(have e1:=F.cell d1);(have ef:w4.frozen? ⟨g,1,none⟩=false:=YH (F.heap U.out) 1)))
      have V:=(Ext.refl w4).drew;have D:w4.drew.cell? ⟨g,0,none⟩=some (.string s)/\w4.drew.cell? ⟨g,1,none⟩=some (nI (j:Nat)):=⟨V.cell e0,V.cell e1⟩;have hC:=hu.out;refine rN ?_;change wpAny _ _ _ _ _ _ _ (World.drew _);refine Yi (λw'=>w'.cell? ⟨g,0,none⟩=some (.string s)/\w'.cell? ⟨g,1,none⟩=some (nI (j:Nat))) ?_;refine tG 0 (.pointer (some ⟨g,0,none⟩)) D ?_;refine tG 1 (.pointer (some ⟨g,0,none⟩)) D ?_;refine tG 2 (.pointer (some ⟨g,0,none⟩)) D ?_;refine tS 3 (.string s) rfl (λw' M=>by have q1:=M.1;have q2:=M.2;go_simp) D ?_;refine tG 4 (nI 0) D ?_;refine tG 5 (.pointer (some ⟨g,0,none⟩)) D ?_;refine tG 6 (.pointer (some ⟨g,0,none⟩)) D ?_;refine tG 7 (.pointer (some ⟨g,1,none⟩)) D ?_;refine tS 8 (nI (j:Nat)) rfl (λw' M=>by have q1:=M.1;have q2:=M.2;go_simp) D ?_;go_simp;refine sS 9 λK hK=> ?_;go_simp;refine hK _ _ D ?_;clear hK K;refine sS 10 λK hK=> ?_;go_simp;refine hK _ _ D ?_;clear hK K;refine sE ?_;go_wp2;go_ret;exact ⟨by rw[he.out];rfl,(S.out.trans F).trans V⟩
     |false=>
      go_wp2_with (first|(go_at_call 231;(with_reducible refine Za (HS.out _ S.out) ?_);rintro e w4 ⟨rfl,F⟩;(have e0:=F.cell d0);(have e1:=F.cell d1);(have ef:w4.frozen? ⟨g,1,none⟩=false:=YH (F.heap U.out) 1)))
      have V:=(Ext.refl w4).drew;have D:w4.drew.cell? ⟨g,0,none⟩=some (.string s)/\w4.drew.cell? ⟨g,1,none⟩=some (nI (j:Nat)):=⟨V.cell e0,V.cell e1⟩;have hC:=hu.out;refine rN ?_;change wpAny _ _ _ _ _ _ _ (World.drew _);refine Yi (λw'=>w'.cell? ⟨g,0,none⟩=some (.string s)/\w'.cell? ⟨g,1,none⟩=some (nI (j:Nat))) ?_;refine tG 0 (.pointer (some ⟨g,0,none⟩)) D ?_;refine tG 1 (.pointer (some ⟨g,0,none⟩)) D ?_;refine tG 2 (.pointer (some ⟨g,0,none⟩)) D ?_;refine tS 3 (.string s) rfl (λw' M=>by have q1:=M.1;have q2:=M.2;go_simp) D ?_;refine tG 4 (nI 0) D ?_;refine tG 5 (.pointer (some ⟨g,0,none⟩)) D ?_;refine tG 6 (.pointer (some ⟨g,0,none⟩)) D ?_;refine tG 7 (.pointer (some ⟨g,1,none⟩)) D ?_;refine tS 8 (nI (j:Nat)) rfl (λw' M=>by have q1:=M.1;have q2:=M.2;go_simp) D ?_;go_simp;refine sS 9 λK hK=> ?_;go_simp;refine hK _ _ D ?_;clear hK K;refine sS 10 λK hK=> ?_;go_simp;refine hK _ _ D ?_;clear hK K;refine sE ?_;go_wp2;go_ret;exact ⟨by rw[he.out];rfl,(S.out.trans F).trans V⟩
   ·have qj:(0:Int)<(j:Int):=(by omega);rw[Yf hm,ZfO hd] at ha Y;cases hb:nmChar R with
    |true=>
     have X:n≠0:=λe=>(by rw[hc e] at hb;revert hb;decide);have hq:=gd (Y X hb);have hr:=gd X;have qn:((n:Int)==0)=false:=(by rw[ZC];omega);rw[hb] at HC;clear hf hd X hc ha Y hp hm hb;go_wp2;have I:=(Ext.refl wr).drew;have A:wr.drew.cell? ⟨g,0,none⟩=some (.string s)/\wr.drew.cell? ⟨g,1,none⟩=some (nI (j:Nat)):=⟨I.cell c0,I.cell c1⟩;refine rN ?_;change wpAny _ _ _ _ _ _ _ (World.drew _);refine Yi (λw'=>w'.cell? ⟨g,0,none⟩=some (.string s)/\w'.cell? ⟨g,1,none⟩=some (nI (j:Nat))) ?_;refine tG 0 (.pointer (some ⟨g,0,none⟩)) A ?_;refine tG 1 (.pointer (some ⟨g,0,none⟩)) A ?_;refine tG 2 (.pointer (some ⟨g,0,none⟩)) A ?_;refine tS 3 (.string s) rfl (λw' M=>by have q1:=M.1;have q2:=M.2;go_simp) A ?_;refine tG 4 (.pointer (some ⟨g,0,none⟩)) A ?_;refine tG 5 (.pointer (some ⟨g,0,none⟩)) A ?_;refine tG 6 (.pointer (some ⟨g,1,none⟩)) A ?_;refine tS 7 (nI (j:Nat)) rfl (λw' M=>by have q1:=M.1;have q2:=M.2;go_simp) A ?_;go_simp;refine sS 8 λK hK=> ?_;go_simp;go_at_call 188;have hz:=HD.out _ (Z.out.trans I)
     with_reducible refine Za hz ?_
     clear hz;rintro e w3 ⟨rfl,Q⟩;have H:w3.cell? ⟨g,0,none⟩=some (.string s)/\w3.cell? ⟨g,1,none⟩=some (nI (j:Nat)):=⟨Q.cell A.1,Q.cell A.2⟩;refine hK _ _ H ?_;clear hK K;refine sS 9 λK hK=> ?_;go_simp;refine hK _ _ H ?_;clear hK K;refine tG 10 (.int .i32 (R:Nat)) H ?_;refine tG 11 (nI (n:Nat)) H ?_;go_simp;refine sS 12 λK hK=> ?_;go_simp;refine hK _ _ H ?_;clear hK K;refine sS 13 λK hK=> ?_;go_simp;refine hK _ _ H ?_;clear hK K;refine sE ?_;have J:=I.trans Q;have S:=gd (Z.out.trans J);have U:=gd (J.heap HG.out);clear c0 c1 A I Q HD;obtain ⟨d0,d1⟩:=H;have ht:w3.frozen? ⟨g,1,none⟩=false:=YH (J.heap HG.out) 1
     go_wp2_with (first|(go_at_call 230;(with_reducible refine Za (HC.out _ S.out) ?_);rintro e w4 ⟨rfl,F⟩;(have e0:=F.cell d0);(have e1:=F.cell d1);(have ef:w4.frozen? ⟨g,1,none⟩=false:=YH (F.heap U.out) 1)))
     go_roundw
     case rel=>exact ⟨j+n,(by trivial),hi.out,by rw[Int.natCast_add,hk.out];exact Yd _ g 1 _ _ _ (F.heap U.out),hq.out,(S.out.trans F).setCell hy.out _⟩
     case measure=>have h8:=ho.out;have h9:(w4.setCell ⟨g,1,none⟩ (nI ((j:Int)+(n:Int)))).cell? ⟨g,1,none⟩=some (nI ((j:Int)+(n:Int))):=(by rw[Jp (Yd _ g 1 _ _ _ (F.heap U.out))];rfl);have hG:=hi.out;have hH:=hr.out;rw[h8,hk.out,h9];simp[intOf];omega
    |false=>
     have he:=gd (ha (Or.inr hb));have hI:=Zf8 hb;rw[hb] at HC;rw[hI] at HS;clear hf hd hc ha Y hp hm hb hI;go_wp2;have I:=(Ext.refl wr).drew;have A:wr.drew.cell? ⟨g,0,none⟩=some (.string s)/\wr.drew.cell? ⟨g,1,none⟩=some (nI (j:Nat)):=⟨I.cell c0,I.cell c1⟩;refine rN ?_;change wpAny _ _ _ _ _ _ _ (World.drew _);refine Yi (λw'=>w'.cell? ⟨g,0,none⟩=some (.string s)/\w'.cell? ⟨g,1,none⟩=some (nI (j:Nat))) ?_;refine tG 0 (.pointer (some ⟨g,0,none⟩)) A ?_;refine tG 1 (.pointer (some ⟨g,0,none⟩)) A ?_;refine tG 2 (.pointer (some ⟨g,0,none⟩)) A ?_;refine tS 3 (.string s) rfl (λw' M=>by have q1:=M.1;have q2:=M.2;go_simp) A ?_;refine tG 4 (.pointer (some ⟨g,0,none⟩)) A ?_;refine tG 5 (.pointer (some ⟨g,0,none⟩)) A ?_;refine tG 6 (.pointer (some ⟨g,1,none⟩)) A ?_;refine tS 7 (nI (j:Nat)) rfl (λw' M=>by have q1:=M.1;have q2:=M.2;go_simp) A ?_;go_simp;refine sS 8 λK hK=> ?_;go_simp;go_at_call 188;have hz:=HD.out _ (Z.out.trans I)
     with_reducible refine Za hz ?_
     clear hz;rintro e w3 ⟨rfl,Q⟩;have H:w3.cell? ⟨g,0,none⟩=some (.string s)/\w3.cell? ⟨g,1,none⟩=some (nI (j:Nat)):=⟨Q.cell A.1,Q.cell A.2⟩;refine hK _ _ H ?_;clear hK K;refine sS 9 λK hK=> ?_;go_simp;refine hK _ _ H ?_;clear hK K;refine tG 10 (.int .i32 (R:Nat)) H ?_;refine tG 11 (nI (n:Nat)) H ?_;go_simp;refine sS 12 λK hK=> ?_;go_simp;refine hK _ _ H ?_;clear hK K;refine sS 13 λK hK=> ?_;go_simp;refine hK _ _ H ?_;clear hK K;refine sE ?_;have J:=I.trans Q;have S:=gd (Z.out.trans J);have U:=gd (J.heap HG.out);clear c0 c1 A I Q HD;obtain ⟨d0,d1⟩:=H;have ht:w3.frozen? ⟨g,1,none⟩=false:=YH (J.heap HG.out) 1;cases hqn:((n:Int)==0) with
     |true=>
      go_wp2_with (first|(go_at_call 230;(with_reducible refine Za (HC.out _ S.out) ?_);rintro e w4 ⟨rfl,F⟩;(have e0:=F.cell d0);(have e1:=F.cell d1);(have ef:w4.frozen? ⟨g,1,none⟩=false:=YH (F.heap U.out) 1))|(go_at_call 231;(with_reducible refine Za (HS.out _ (S.out.trans F)) ?_);rintro e w5 ⟨rfl,hh⟩;(have f0:=(F.trans hh).cell d0);(have f1:=(F.trans hh).cell d1)))
      have V:=(Ext.refl w5).drew;have D:w5.drew.cell? ⟨g,0,none⟩=some (.string s)/\w5.drew.cell? ⟨g,1,none⟩=some (nI (j:Nat)):=⟨V.cell f0,V.cell f1⟩;have hC:=hu.out;refine rN ?_;change wpAny _ _ _ _ _ _ _ (World.drew _);refine Yi (λw'=>w'.cell? ⟨g,0,none⟩=some (.string s)/\w'.cell? ⟨g,1,none⟩=some (nI (j:Nat))) ?_;refine tG 0 (.pointer (some ⟨g,0,none⟩)) D ?_;refine tG 1 (.pointer (some ⟨g,0,none⟩)) D ?_;refine tG 2 (.pointer (some ⟨g,0,none⟩)) D ?_;refine tS 3 (.string s) rfl (λw' M=>by have q1:=M.1;have q2:=M.2;go_simp) D ?_;refine tG 4 (nI 0) D ?_;refine tG 5 (.pointer (some ⟨g,0,none⟩)) D ?_;refine tG 6 (.pointer (some ⟨g,0,none⟩)) D ?_;refine tG 7 (.pointer (some ⟨g,1,none⟩)) D ?_;refine tS 8 (nI (j:Nat)) rfl (λw' M=>by have q1:=M.1;have q2:=M.2;go_simp) D ?_;go_simp;refine sS 9 λK hK=> ?_;go_simp;refine hK _ _ D ?_;clear hK K;refine sS 10 λK hK=> ?_;go_simp;refine hK _ _ D ?_;clear hK K;refine sE ?_;go_wp2;go_ret;exact ⟨by rw[he.out];rfl,(S.out.trans (F.trans hh)).trans V⟩
     |false=>
      go_wp2_with (first|(go_at_call 230;(with_reducible refine Za (HC.out _ S.out) ?_);rintro e w4 ⟨rfl,F⟩;(have e0:=F.cell d0);(have e1:=F.cell d1);(have ef:w4.frozen? ⟨g,1,none⟩=false:=YH (F.heap U.out) 1))|(go_at_call 231;(with_reducible refine Za (HS.out _ (S.out.trans F)) ?_);rintro e w5 ⟨rfl,hh⟩;(have f0:=(F.trans hh).cell d0);(have f1:=(F.trans hh).cell d1)))
      have V:=(Ext.refl w5).drew;have D:w5.drew.cell? ⟨g,0,none⟩=some (.string s)/\w5.drew.cell? ⟨g,1,none⟩=some (nI (j:Nat)):=⟨V.cell f0,V.cell f1⟩;have hC:=hu.out;refine rN ?_;change wpAny _ _ _ _ _ _ _ (World.drew _);refine Yi (λw'=>w'.cell? ⟨g,0,none⟩=some (.string s)/\w'.cell? ⟨g,1,none⟩=some (nI (j:Nat))) ?_;refine tG 0 (.pointer (some ⟨g,0,none⟩)) D ?_;refine tG 1 (.pointer (some ⟨g,0,none⟩)) D ?_;refine tG 2 (.pointer (some ⟨g,0,none⟩)) D ?_;refine tS 3 (.string s) rfl (λw' M=>by have q1:=M.1;have q2:=M.2;go_simp) D ?_;refine tG 4 (nI 0) D ?_;refine tG 5 (.pointer (some ⟨g,0,none⟩)) D ?_;refine tG 6 (.pointer (some ⟨g,0,none⟩)) D ?_;refine tG 7 (.pointer (some ⟨g,1,none⟩)) D ?_;refine tS 8 (nI (j:Nat)) rfl (λw' M=>by have q1:=M.1;have q2:=M.2;go_simp) D ?_;go_simp;refine sS 9 λK hK=> ?_;go_simp;refine hK _ _ D ?_;clear hK K;refine sS 10 λK hK=> ?_;go_simp;refine hK _ _ D ?_;clear hK K;refine sE ?_;go_wp2;go_ret;exact ⟨by rw[he.out];rfl,(S.out.trans (F.trans hh)).trans V⟩
theorem ZaC:(prog.info? 261).map (·.size)=some 4:=by kernel_rfl
theorem IS (s:ByteArray) (w:Wq) (hE:Env w) (hN:NmTabs w) (hs:s.size<=16777216):
 Calls prog 175 #[.string s] w λe w'=>e= .returned (.bool (isQ s.data.toList))/\Ext w w':=by
 obtain ⟨M,A⟩:∃M,w.alloc (.cells #[.string s,nI 0,nI 0,nI 0] 261)=M:=⟨_,rfl⟩;have K:Ext w M:=by rw[<-A];exact (Ext.refl w).alloc _
 have X:M.heap[w.heap.size]? =some (.cells #[.string s,nI 0,nI 0,nI 0] 261):=by rw[<-A];exact Zf w _
 have F:(#[Value.string s,nI 0,nI 0,nI 0]).all (λu=>u.oneCell')=true:=by simp[Value.oneCell']
 have H:=gd (ZhJ s w M w.heap.size hE hN hs (Zb _) K X);have S:isQ s.data.toList=(decide (0<s.size) && decide (nmLen true s.data.toList=s.size)):=by unfold isQ;rw[ZL,Bool.decide_and]
 have I:nmLen true s.data.toList<=s.size:=by
  unfold nmLen;have:=Zcv true s.data.toList.length true s.data.toList
  rwa [ZL] at this
 rw[S];obtain ⟨m,Y⟩:∃m,nmLen true s.data.toList=m:=⟨_,rfl⟩;rw[Y] at H I|-;have D:(s.extract 0 m=s)↔m=s.size:=by
  constructor
  ·intro e;have Z:=Zy ByteArray.size e;rw[ByteArray.size_extract] at Z;omega
  ·intro e;rw[e];apply Kb;rw[Ke _ _ _ (Zh _),JN,Nat.sub_zero,ZM (by rw[ZL];omega)]
 have U:=gd K;clear Y K X S;by_cases Q:s.size=0
 ·have hb:s.toList.isEmpty=true:=by rw[Z7,List.isEmpty_iff];exact ZF Q
  have h:(decide (0<s.size) && decide (m=s.size))=false:=by rw[Yf (by omega)];rfl
  rw[h];clear h Q I D;go_enter func175,ntmps175
  go_wp2_with (first|(refine Zc rfl 261 (.tmp 3) (.tmp 5) rfl w.heap.size #[.string s,nI 0,nI 0,nI 0] rfl rfl _ _ (Zf _ _) ZaC rfl F ?_;rw[Z4];rw[A]))
  go_ret;exact ⟨rfl,U.out⟩
 ·have hb:s.toList.isEmpty=false:=by
   rw[Z7];cases hl:s.data.toList with
   |nil=>exact absurd (by have:=Zy List.length hl;rw[ZL] at this;exact this) Q
   |cons a t=>rfl
  cases hd:decide (m=s.size) with
  |true=>
   have V:=D.2 (YG hd);have h:(decide (0<s.size) && true)=true:=(by rw[YJ (by omega)];rfl);rw[h];rw[V] at H;clear h Q I D hd V;go_enter func175,ntmps175
   go_wp2_with (first|(refine Zc rfl 261 (.tmp 3) (.tmp 5) rfl w.heap.size #[.string s,nI 0,nI 0,nI 0] rfl rfl _ _ (Zf _ _) ZaC rfl F ?_;rw[Z4];rw[A])|(go_at_call 211;(with_reducible refine Za H.out ?_);rintro e w' ⟨rfl,J⟩))
   go_ret;exact ⟨by simp,J⟩
  |false=>
   have R:s.extract 0 m≠s:=λe=>(by have:=D.1 e;rw[YJ this] at hd;cases hd);have ha:((s.extract 0 m).toList==s.toList)=false:=(by rw[ZC];intro e;rw[Z7,Z7] at e;exact R (Kb e));rw[Bool.and_false];clear Q I D hd R;go_enter func175,ntmps175
   go_wp2_with (first|(refine Zc rfl 261 (.tmp 3) (.tmp 5) rfl w.heap.size #[.string s,nI 0,nI 0,nI 0] rfl rfl _ _ (Zf _ _) ZaC rfl F ?_;rw[Z4];rw[A])|(go_at_call 211;(with_reducible refine Za H.out ?_);rintro e w' ⟨rfl,J⟩))
   go_ret;exact ⟨rfl,J⟩
end Go.Proofs.YtnlafkgkcnenfaaGreatDoor
