/- Parts of the proof: contracts and plain laws. -/
import Derived.Test.YtnlafkgkcnenfaaGreatDoorR15
import Derived.Test.YtnlafkgkcnenfaaGreatDoorR17
namespace Go.Proofs.YtnlafkgkcnenfaaGreatDoor
open Go Go.RowKit Go.WideMaps Go.Maps Go.Joins Tryz
set_option linter.unusedVariables false
set_option linter.unusedSimpArgs false
set_option maxRecDepth 100000
set_option maxHeartbeats 16000000
theorem Zf6 (l:List AtP) (nm:List UInt8):(l.map AtP.name).contains nm=l.any (λe=>decide (str e.name=str nm)):=by
 induction l with
 |nil=>rfl
 |cons a t ih=>
  rw[ZP,List.contains_cons,List.any_cons,ih]
  congr 1
  by_cases h:a.name=nm
  ·rw[h,YJ rfl];simp
  ·rw[Yf (λe=>h (ZkG e))];simpa using λe=>h e.symm
theorem Ze3 (v:Value) (l:List AtP) (w:Wq) (hE:Env w) (hN:NmTabs w) (h:RAts w v l) (hf:∀a∈l,a.name.length<=16777216/\a.value.length<=16777216) (hn:l.length<=16777216):
 Calls prog 176 #[v] w λe w'=>e= .returned (.bool (attrsOk l []))/\Ext w w':=by
 obtain ⟨A,c,rfl, -, -⟩:=h.form;have hG:= @run_makeMap prog;obtain ⟨R,hR⟩:∃R,attrsOk l []=R:=⟨_,rfl⟩;rw[hR];have HR:Hid (attrsOk (l.drop 0) ((l.take 0).map AtP.name)=R):=hR;have HF:=gd hf;have HH:=gd h;have hg:=gd hE;have hv:=gd hN;clear hR hf h hE hN;go_enter func176,ntmps176;go_wp2;go_loopw [9] (λi wr=>∃(k:Nat) (D:DataW Unit),k<=l.length/\i=nI k/\wr.ownsMap prog 9 (plainElem prog 4) w.heap.size k D/\Hid (SeenMap D (λs=>(l.take k).any (λe=>decide (str e.name=s))))/\Hid (attrsOk (l.drop k) ((l.take k).map AtP.name)=R)/\Ext w wr) (λi _=>l.length - (intOf i).toNat)
 case atStart=>exact ⟨0,.map [],Zh _,rfl,World.ownsMap_made _ _ _ _,gd SeenMap.nil,HR,(Ext.refl _).alloc _⟩
 case round=>
  obtain ⟨k,D,hk,rfl,hM,hD,Q,he⟩:=hrel;by_cases S:k<l.length
  ·obtain ⟨ad,c1,e1,hj⟩:=(RAts.ext HH.out he).at S;injection e1 with e1 e1' e1'';subst e1;clear e1' e1'';have X:=HF.out _ (Zz S);have hd:=Zq S;have I:=Q.out;rw[Zi S,attrsOk,Zf6] at I;have ha:(l.take (k+1)).map AtP.name=(l.take k).map AtP.name++ [l[k].name]:=(by rw[hd,ZK];rfl);rw[<-ha] at I;have Z:Hid (SeenMap (D.put (.string (str l[k].name).data.toList) (.lit (.bool true))) (λs=>(l.take (k+1)).any (λe=>decide (str e.name=s)))):=gd (hD.out.put λt=>by rw[hd,List.any_append];simp);obtain ⟨b,hb⟩:∃b,(l.take k).any (λe=>decide (str e.name=str l[k].name))=b:=⟨_,rfl⟩;rw[hb] at I;obtain ⟨x,ho⟩:∃x,l[k]=x:=⟨_,rfl⟩;rw[ho] at hj X I Z hb;have hc:(str x.name).size<=maxLen:=(by rw[YN];unfold maxLen;omega);have hh:=gd (show keyOf prog 9 (.string (str x.name))=some (.string (str x.name).data.toList) from keyOf_string_mk underlying9 hc);have HM:=gd hM;have hp:Hid (k<maxLen):=gd (by unfold maxLen;omega);obtain ⟨W2,K⟩:∃W2,wr.alloc (.cells #[.string (str x.space),.string (str x.name),.string (str x.value),nI (x.at_:Nat)] 88)=W2:=⟨_,rfl⟩;have Y:Ext wr W2:=(by rw[<-K];exact (Ext.refl _).alloc _);have V:W2.heap[wr.heap.size]? =some (.cells #[.string (str x.space),.string (str x.name),.string (str x.value),nI (x.at_:Nat)] 88):=(by rw[<-K];exact Zf _ _);have hz:=Iz (hM.kept (Y.grown none) (by simp)) hD.out hc;simp only[hb] at hz;have c0:W2.cell? ⟨wr.heap.size,0,none⟩=some (.string (str x.space)):=(by rw[Xj _ _ _ _ _ _ V];rfl);have c1:W2.cell? ⟨wr.heap.size,1,none⟩=some (.string (str x.name)):=(by rw[Xj _ _ _ _ _ _ V];rfl);have c2:W2.cell? ⟨wr.heap.size,2,none⟩=some (.string (str x.value)):=(by rw[Xj _ _ _ _ _ _ V];rfl);have hw:=gd Y;have H:=gd (he.trans Y);have HQ:=gd (λw' (hx:Ext w w')=>IS (str x.name) w' (hg.out.ext hx) (hv.out.ext hx) (by rw[YN];exact X.1));have HC:=gd (λw' (hx:Ext w w')=>Zbi (str x.value) w' (hg.out.ext hx) (by rw[YN];exact X.2));simp only[Ya] at HQ HC;have hC:(0:Int)<=(k:Int):=(by omega);have hF:(k:Int)<(l.length:Int):=(by omega);obtain ⟨q,hq⟩:∃q,isQ x.name=q:=⟨_,rfl⟩;obtain ⟨ch,hl⟩:∃ch,charsOk x.value=ch:=⟨_,rfl⟩;rw[hq] at HQ I;rw[hl] at HC I;obtain ⟨a0,a1,a2,a3⟩:=hj;clear Y V hM hb hq hl hd ha X ho hc;by_cases hs:x.space= []
   ·have hA:(str x.space).toList.isEmpty=true:=(by rw[hs];exact Un);have U:x.space.isEmpty=true:=(by rw[hs];rfl);rw[U,XF] at I;clear hs U;cases b with
    |true=>
     have M:false=R:=I;subst M;clear I HR
     skip
     go_wp2_with (first|(refine Zc rfl 88 (.tmp 5) (.tmp 12) rfl wr.heap.size #[.string (str x.space),.string (str x.name),.string (str x.value),nI (x.at_:Nat)] rfl rfl _ _ (Zf _ _) YI rfl (Ju x) ?_;rw[Z4];rw[K]))
     go_ret;exact ⟨rfl,H.out⟩
    |false=>
     cases q with
     |false=>
      have M:false=R:=I;subst M;clear I HR
      skip
      go_wp2_with (first|(refine Zc rfl 88 (.tmp 5) (.tmp 12) rfl wr.heap.size #[.string (str x.space),.string (str x.name),.string (str x.value),nI (x.at_:Nat)] rfl rfl _ _ (Zf _ _) YI rfl (Ju x) ?_;rw[Z4];rw[K])|(go_at_call 175;(with_reducible refine Za (HQ.out _ H.out) ?_);rintro e w3 ⟨rfl,F⟩;(have d0:=F.cell c0);(have d1:=F.cell c1);(have d2:=F.cell c2)))
      go_ret;exact ⟨rfl,H.out.trans F⟩
     |true=>
      cases ch with
      |false=>
       have M:false=R:=I;subst M;clear I HR
       skip
       go_wp2_with (first|(refine Zc rfl 88 (.tmp 5) (.tmp 12) rfl wr.heap.size #[.string (str x.space),.string (str x.name),.string (str x.value),nI (x.at_:Nat)] rfl rfl _ _ (Zf _ _) YI rfl (Ju x) ?_;rw[Z4];rw[K])|(go_at_call 175;(with_reducible refine Za (HQ.out _ H.out) ?_);rintro e w3 ⟨rfl,F⟩;(have d0:=F.cell c0);(have d1:=F.cell c1);(have d2:=F.cell c2))|(go_at_call 177;(with_reducible refine Za (HC.out _ (H.out.trans F)) ?_);rintro e w4 ⟨rfl,J⟩;(have e0:=J.cell d0);(have e1:=J.cell d1);(have e2:=J.cell d2)))
       go_ret;exact ⟨rfl,(H.out.trans F).trans J⟩
      |true=>
       have hu:Hid (attrsOk (l.drop (k+1)) ((l.take (k+1)).map AtP.name)=R):=gd I;clear I
       go_wp2_with (first|(refine Zc rfl 88 (.tmp 5) (.tmp 12) rfl wr.heap.size #[.string (str x.space),.string (str x.name),.string (str x.value),nI (x.at_:Nat)] rfl rfl _ _ (Zf _ _) YI rfl (Ju x) ?_;rw[Z4];rw[K])|(go_at_call 175;(with_reducible refine Za (HQ.out _ H.out) ?_);rintro e w3 ⟨rfl,F⟩;(have d0:=F.cell c0);(have d1:=F.cell c1);(have d2:=F.cell c2))|(go_at_call 177;(with_reducible refine Za (HC.out _ (H.out.trans F)) ?_);rintro e w4 ⟨rfl,J⟩;(have e0:=J.cell d0);(have e1:=J.cell d1);(have e2:=J.cell d2))|(at_mapUpdate;(refine Uf _ rfl (.tmp 34) (.tmp 36) (.const (.bool true)) 183 rfl 9 4 Uv underlying183 _ w.heap.size k D rfl (HM.out.kept (((hw.out.trans F).trans J).grown none) (by simp)) hp.out _ _ _ rfl rfl hh.out _ [] (plainElem_bool underlying4 true) ?_);intro w5 hi hm))
       have hB:Ext w w5:=Ext.grown' (B:=0) ((H.out.trans F).trans J) hm (λb hb=>by cases hb;exact Zb _);have ht:=gd hi;clear hi hm;go_roundw
       case rel=>exact ⟨k+1,_,S,by go_num,ht.out,Z,hu,hB⟩
       case measure=>simp[intOf];omega
   ·have hA:(str x.space).toList.isEmpty=false:=Vp hs;have U:x.space.isEmpty=false:=by cases hx:x.space with
     |nil=>exact absurd hx hs
     |cons a t=>rfl
    rw[U] at I;have M:false=R:=I;subst M;clear I HR hs U
    skip
    go_wp2_with (first|(refine Zc rfl 88 (.tmp 5) (.tmp 12) rfl wr.heap.size #[.string (str x.space),.string (str x.name),.string (str x.value),nI (x.at_:Nat)] rfl rfl _ _ (Zf _ _) YI rfl (Ju x) ?_;rw[Z4];rw[K]))
    go_ret;exact ⟨rfl,H.out⟩
  ·have hy:k=l.length:=(by omega);have I:=Q.out;rw[Zw (by omega),attrsOk] at I;subst I;subst hy;clear HR Q;go_wp2;go_ret;exact ⟨rfl,he⟩
section
variable {d:Nat}
theorem ZdO {data:Bool} {x:Nd} {t:List Nd} (h:x.kind=1):kidsOk d data (x::t)=(!data && !x.text.isEmpty && charsOk x.text && x.space.isEmpty && x.name.isEmpty && x.attrs.isEmpty && x.kids.isEmpty && kidsOk d true t):=by
 rw[kidsOk,Zl h,YJ h]
theorem ZdN {data:Bool} {x:Nd} {t:List Nd} (h:x.kind≠1):kidsOk d data (x::t)=(nodeOk (d+1) x && kidsOk d false t):=by
 rw[kidsOk,Zg h,Yf h]
theorem QX (l:List UInt8):(str l).toList.isEmpty=l.isEmpty:=QF l
theorem ZgH {a b:List UInt8}:(str a++str b).toList.isEmpty=(a.isEmpty && b.isEmpty):=by
 have h:(str a++str b).toList=a++b:=by rw[Z7,UR,Ya,Ya]
 rw[h];cases a<;>cases b<;>rfl
theorem Zim (N:Nat) (hN:N<=4000000):∀(h:Nat) (x:Nc) (Y:Nat) (w:Wq),x.nd.ht<=h->x.nd.fits N->Y<=101->Env w->NmTabs w->RdN w x->
 Calls prog 125 #[.agg (cellsN x).toArray,nI (Y:Nat)] w λe w'=>e= .returned (.bool (nodeOk Y x.nd))/\Ext w w':=by
 intro h
 induction h with
 |zero=>intro x Y w hp;exact absurd (Zft x.nd) (by omega)
 |succ h ih=>
 intro x Y w hp K gm hE ho hr;obtain ⟨k,s,n,al,l0,ks,kids,t,a⟩:=x;have ge:=hr;rw[RdN] at hr;obtain ⟨hF,hI,hS⟩:=hr;have hw:=(Xm kids).1 hS;rw[Nc.nd] at hp K|-;rw[Nd.ht] at hp;rw[Nd.fits] at K;have hQ:=K.2.2.2.2.2.2.2.2;have hP:=K.2.2.2.2.1;have h6:kids.length<=N:=by have:=K.2.2.2.2.2.1;rwa [Jh] at this
 have ga:l0.length<=N:=K.2.2.2.1;have gb:n.length<=N:=K.2.2.1;have hc:k<=1:=K.1;obtain ⟨A,c,h2, -, -⟩:=hF.form;obtain ⟨B,d,h7, -, -⟩:=RNs.form hI;subst h2;subst h7;obtain ⟨W0,hM⟩:∃W0,w.alloc (.cells #[nI (k:Nat),.string (str s),.string (str n),.slice A l0.length c,.slice B kids.length d,.string (str t),nI (a:Nat)] 25)=W0:=⟨_,rfl⟩;have he:Ext w W0:=by rw[<-hM];exact (Ext.refl w).alloc _
 have hG:BxN W0 w.heap.size k s n (.slice A l0.length c) (.slice B kids.length d) t a:=by rw[<-hM];exact Zf w _
 obtain ⟨b0,b1,b2,b3,b4,b5,b6⟩:=hG.cells;have Z:=gd he;have hk:=gd hG;have hC:=gd (λw' (hx:Ext W0 w')=>IS (str n) w' (hE.ext (he.trans hx)) (ho.ext (he.trans hx)) (by rw[YN];omega));have hK:=gd (λw' (hx:Ext W0 w')=>Ze3 (.slice A l0.length c) l0 w' (hE.ext (he.trans hx)) (ho.ext (he.trans hx)) (hF.ext (he.trans hx)) (λb hb=>by have:=hP b hb;unfold AtP.fits at this;omega) (by omega));simp only[Ya] at hC;have hY:=gd (show RNs w (.slice B kids.length d) kids from hI);have HY:=gd (λy (hy:y∈kids)=>(⟨hw y hy,(Nds.fits_iff _).1 hQ y.nd (by rw[XX];exact Z9 hy),(by
  have:=Zab (x:=y.nd) (l:=Nc.nds kids) (by rw[XX];exact Z9 hy);omega)⟩:RdN w y/\y.nd.fits N/\y.nd.ht<=h))
 have hW:=gd ih;have hL:=gd hE;have hZ:=gd ho;have hX:Hid (kids.length<=16777216):=gd (by omega);simp only[cellsN];rw[nodeOk];clear ih ge hF hI hS hw K hp hQ hP h6 ga gb he hG hE ho;have e1:decide (k=0)=((k:Int)==0):=by
  by_cases h0:k=0
  ·rw[h0];rfl
  ·rw[Yf h0];symm;rw[ZC];omega
 by_cases U:k=0
 ·have q1:((k:Int) !=0)=false:=by rw[U];rfl
  rw[YJ U,XF];by_cases hd:Y<=100
  ·have q2:¬(100:Int)<(Y:Int):=(by omega);rw[YJ hd,XF];cases hs:s.isEmpty with
   |true=>
    have q3:(str s).toList.isEmpty=true:=(by rw[QX];exact hs);rw[XF];cases ht:t.isEmpty with
    |true=>
     have q4:(str t).toList.isEmpty=true:=(by rw[QX];exact ht);rw[XF];have HQ:=hC;clear hC;cases hq:isQ n with
     |true=>
      rw[hq] at HQ;rw[XF];have HA:=hK;clear hK;cases ha:attrsOk l0 [] with
      |true=>
       rw[ha] at HA;rw[XF];obtain ⟨R,hR⟩:∃R,kidsOk Y false (Nc.nds kids)=R:=⟨_,rfl⟩;rw[hR];have HR:Hid (kidsOk Y false ((Nc.nds kids).drop 0)=R):=hR;clear hR ha hq ht hs e1 U hc;go_enter func125,ntmps125
       go_wp2_with (first|(go_at_call 175;(with_reducible refine Za (HQ.out _ (Ext.refl _)) ?_);rintro e w3 ⟨rfl,M⟩;obtain ⟨d0,d1,d2,d3,d4,d5,d6⟩:=(hk.out.ext M).cells)|(go_at_call 176;(with_reducible refine Za (HA.out _ M) ?_);rintro e w4 ⟨rfl,hh⟩;obtain ⟨e0,e1,e2,e3,e4,e5,e6⟩:=(hk.out.ext (M.trans hh)).cells))
       have h1:=gd (Z.out.trans (M.trans hh));clear d0 d1 d2 d3 d4 d5 d6 e0 e1 e2 e3 e4 e5 e6 b0 b1 b2 b3 b4 b5 b6 M hh;go_loopw [5,40] (λu v wr=>∃j:Nat,j<=kids.length/\v=nI j/\(∃dt:Bool,u= .bool dt/\Hid (kidsOk Y dt ((Nc.nds kids).drop j)=R))/\Ext w wr) (λ_ v _=>kids.length - (intOf v).toNat)
       case atStart=>exact ⟨0,Zh _,rfl,⟨false,rfl,HR⟩,h1.out⟩
       case round=>
        obtain ⟨j,hj,rfl,⟨dt,rfl,hr⟩,hu⟩:=hrel;by_cases hl:j<kids.length
        ·obtain ⟨ad,c',hv,ha⟩:=(RNs.ext hY.out hu).at hl;injection hv with hv1 hv2 hv3;subst hv1;clear hv2 hv3;have h5:=hX.out;have gj:(0:Int)<=(j:Int):=(by omega);have gn:(j:Int)<(kids.length:Int):=(by omega);obtain ⟨hi,S,hJ⟩:=HY.out kids[j] (Zz hl);have F:=hr.out;rw[Zd5 hl] at F;obtain ⟨y,hV⟩:∃y,kids[j]=y:=⟨_,rfl⟩;rw[hV] at ha hi S hJ F;have X:=gd (λw' (hx:Ext w w') (h3:Y+1<=101)=>hW.out y (Y+1) w' hJ S h3 (hL.out.ext hx) (hZ.out.ext hx) (RdN.ext hx _ hi));obtain ⟨yk,ys,yn,go,yl,gp,D,yt,ya⟩:=y;rw[RdN] at hi;obtain ⟨YA,yc,gf, -, -⟩:=hi.1.form;obtain ⟨YB,yd,gg, -, -⟩:=RNs.form hi.2.1;subst gf;subst gg;rw[Nc.nd] at S F X;rw[Nd.fits] at S;simp only[cellsN] at X;obtain ⟨a0,a1,a2,a3,a4,a5,a6⟩:=ha;simp only[Nc.kind,Nc.space,Nc.name,Nc.al,Nc.ks,Nc.text,Nc.at_] at a0 a1 a2 a3 a4 a5 a6;have hA:yk<=1:=S.1;have hB:yt.length<=16777216:=(by have:=S.2.2.2.2.2.2.1;omega);have gi:¬9223372036854775807<ys.length+yn.length:=(by have:=S.2.1;have:=S.2.2.1;omega);have gl:yl.length<=16777216:=(by have:=S.2.2.2.1;omega);have gk:D.length<=16777216:=(by have:=S.2.2.2.2.2.1;rw[Jh] at this;omega);have HC:=gd (λw' (hx:Ext w w')=>Zbi (str yt) w' (hL.out.ext hx) (by rw[YN];exact hB));simp only[Ya] at HC;obtain ⟨W2,hg⟩:∃W2,wr.alloc (.cells #[nI (yk:Nat),.string (str ys),.string (str yn),.slice YA yl.length yc,.slice YB D.length yd,.string (str yt),nI (ya:Nat)] 25)=W2:=⟨_,rfl⟩;have hU:Ext wr W2:=(by rw[<-hg];exact (Ext.refl wr).alloc _);have hH:BxN W2 wr.heap.size yk ys yn (.slice YA yl.length yc) (.slice YB D.length yd) yt ya:=(by rw[<-hg];exact Zf wr _);obtain ⟨c0,c1,c2,c3,c4,c5,c6⟩:=hH.cells;have I:=gd hU;have hf:=gd hH;have J:=gd hu;have hD:(Nc.nds D).isEmpty=D.isEmpty:=(by cases D<;>(rw[Nc.nds];rfl));clear hi S hJ hU hH hu hr hB hV;by_cases hm:yk=1
         ·rw[ZdO (x:=Nd.mk yk ys yn yl (Nc.nds D) yt ya) hm] at F;simp only[Nd.text,Nd.space,Nd.name,Nd.attrs,Nd.kids] at F;rw[hD] at F;have gh:((yk:Int)==1)=true:=(by rw[hm];rfl);clear hm X hA hD;cases dt with
          |true=>have Q:false=R:=(by rw[<-F];simp);subst Q;clear F HR;go_wp2;go_ret;exact ⟨rfl,J.out.trans I.out⟩
          |false=>
           cases hte:yt.isEmpty with
           |true=>have q5:(str yt).toList.isEmpty=true:=(by rw[QX];exact hte);rw[hte] at F;have Q:false=R:=(by rw[<-F];simp);subst Q;clear F HR hte;go_wp2;go_ret;exact ⟨rfl,J.out.trans I.out⟩
           |false=>
            have q5:(str yt).toList.isEmpty=false:=(by rw[QX];exact hte);rw[hte] at F;cases hch:charsOk yt with
            |false=>
             rw[hch] at F HC;have Q:false=R:=(by rw[<-F];simp);subst Q;clear F HR hte hch
             go_wp2_with (first|(go_at_call 177;(with_reducible refine Za (HC.out _ (J.out.trans I.out)) ?_);rintro e w6 ⟨rfl,H⟩;obtain ⟨f0,f1,f2,f3,f4,f5,f6⟩:=(hf.out.ext H).cells))
             go_ret;exact ⟨rfl,(J.out.trans I.out).trans H⟩
            |true=>
             rw[hch] at F HC;have hO:=ZgH (a:=ys) (b:=yn);cases hcb:(ys.isEmpty && yn.isEmpty) with
             |false=>
              rw[hcb] at hO;have V:=F;simp only[Bool.not_false,XF] at V;have Q:false=R:=(by rw[<-V];revert hcb;cases ys.isEmpty<;>cases yn.isEmpty<;>simp);subst Q;clear F V HR hte hch hcb
              go_wp2_with (first|(go_at_call 177;(with_reducible refine Za (HC.out _ (J.out.trans I.out)) ?_);rintro e w6 ⟨rfl,H⟩;obtain ⟨f0,f1,f2,f3,f4,f5,f6⟩:=(hf.out.ext H).cells))
              go_ret;exact ⟨rfl,(J.out.trans I.out).trans H⟩
             |true=>
              rw[hcb] at hO;have V:=F;simp only[Bool.not_false,XF] at V;by_cases hz:yl.length+D.length=0
              ·have gc:¬(0:Int)<(yl.length:Int)+(D.length:Int):=(by omega);have h8:yl= []:=ZF (by omega);have h9:D= []:=ZF (by omega);have HN:Hid (kidsOk Y true ((Nc.nds kids).drop (j+1))=R):=gd (by
                rw[<-V,h8,h9];revert hcb;cases ys.isEmpty<;>cases yn.isEmpty<;>simp)
               clear F V hte hch hcb h8 h9 hz
               go_wp2_with (first|(refine Zc rfl 25 (.tmp 7) (.tmp 43) rfl wr.heap.size _ rfl rfl _ _ (Zf _ _) ZD rfl YL ?_;rw[Z4];rw[hg])|(go_at_call 177;(with_reducible refine Za (HC.out _ (J.out.trans I.out)) ?_);rintro e w6 ⟨rfl,H⟩;obtain ⟨f0,f1,f2,f3,f4,f5,f6⟩:=(hf.out.ext H).cells))
               go_roundw
               case rel=>exact ⟨j+1,hl,by go_num,⟨true,rfl,HN⟩,(J.out.trans I.out).trans H⟩
               case measure=>simp[intOf];omega
              ·have gc:(0:Int)<(yl.length:Int)+(D.length:Int):=(by omega);have Q:false=R:=by
                rw[<-V];have h8:(yl.isEmpty && D.isEmpty)=false:=by
                 cases yl with
                 |nil=>cases D with
                  |nil=>exact absurd rfl hz
                  |cons _ _=>rfl
                 |cons _ _=>rfl
                revert hcb h8;cases ys.isEmpty<;>cases yn.isEmpty<;>cases yl.isEmpty<;>cases D.isEmpty<;>simp
               subst Q;clear F V HR hte hch hcb hz
               go_wp2_with (first|(refine Zc rfl 25 (.tmp 7) (.tmp 43) rfl wr.heap.size _ rfl rfl _ _ (Zf _ _) ZD rfl YL ?_;rw[Z4];rw[hg])|(go_at_call 177;(with_reducible refine Za (HC.out _ (J.out.trans I.out)) ?_);rintro e w6 ⟨rfl,H⟩;obtain ⟨f0,f1,f2,f3,f4,f5,f6⟩:=(hf.out.ext H).cells))
               go_ret;exact ⟨rfl,(J.out.trans I.out).trans H⟩
         ·rw[ZdN (x:=Nd.mk yk ys yn yl (Nc.nds D) yt ya) hm] at F;have gh:((yk:Int)==1)=false:=(by rw[ZC];omega);have hn:=gd (λw' (hx:Ext w w')=>X.out w' hx (by omega));rw[Int.natCast_add] at hn;obtain ⟨vb,hT⟩:∃vb,nodeOk (Y+1) (Nd.mk yk ys yn yl (Nc.nds D) yt ya)=vb:=⟨_,rfl⟩;rw[hT] at hn F;clear hm X hA hT HC hD;cases vb with
          |false=>
           have Q:false=R:=(by rw[<-F];simp);subst Q;clear F HR
           go_wp2_with (first|(refine Zc rfl 25 (.tmp 7) (.tmp 43) rfl wr.heap.size _ rfl rfl _ _ (Zf _ _) ZD rfl YL ?_;rw[Z4];rw[hg])|(go_at_call 125;(have hz:=hn.out W2 (J.out.trans I.out));(with_reducible refine Za hz ?_);clear hz;rintro e w6 ⟨rfl,H⟩;obtain ⟨f0,f1,f2,f3,f4,f5,f6⟩:=(hf.out.ext H).cells))
           go_ret;exact ⟨rfl,(J.out.trans I.out).trans H⟩
          |true=>
           have HN:Hid (kidsOk Y false ((Nc.nds kids).drop (j+1))=R):=gd F;clear F
           go_wp2_with (first|(refine Zc rfl 25 (.tmp 7) (.tmp 43) rfl wr.heap.size _ rfl rfl _ _ (Zf _ _) ZD rfl YL ?_;rw[Z4];rw[hg])|(go_at_call 125;(have hz:=hn.out W2 (J.out.trans I.out));(with_reducible refine Za hz ?_);clear hz;rintro e w6 ⟨rfl,H⟩;obtain ⟨f0,f1,f2,f3,f4,f5,f6⟩:=(hf.out.ext H).cells))
           go_roundw
           case rel=>exact ⟨j+1,hl,by go_num,⟨false,rfl,HN⟩,(J.out.trans I.out).trans H⟩
           case measure=>simp[intOf];omega
        ·have h4:j=kids.length:=(by omega);have F:=hr.out;rw[Zw (by rw[Jh];omega),kidsOk] at F;subst F;subst h4;clear HR hr;go_wp2;go_ret;exact ⟨rfl,hu⟩
      |false=>
       rw[ha] at HA;rw[Yq];clear ha hq ht hs e1 U hc;go_enter func125,ntmps125
       go_wp2_with (first|(go_at_call 175;(with_reducible refine Za (HQ.out _ (Ext.refl _)) ?_);rintro e w3 ⟨rfl,M⟩;obtain ⟨d0,d1,d2,d3,d4,d5,d6⟩:=(hk.out.ext M).cells)|(go_at_call 176;(with_reducible refine Za (HA.out _ M) ?_);rintro e w4 ⟨rfl,hh⟩;obtain ⟨e0,e1,e2,e3,e4,e5,e6⟩:=(hk.out.ext (M.trans hh)).cells))
       go_ret;exact ⟨rfl,Z.out.trans (M.trans hh)⟩
     |false=>
      rw[hq] at HQ;rw[Yq,Yq];clear hq ht hs e1 U hc;go_enter func125,ntmps125
      go_wp2_with (first|(go_at_call 175;(with_reducible refine Za (HQ.out _ (Ext.refl _)) ?_);rintro e w3 ⟨rfl,M⟩;obtain ⟨d0,d1,d2,d3,d4,d5,d6⟩:=(hk.out.ext M).cells))
      go_ret;exact ⟨rfl,Z.out.trans M⟩
    |false=>have q4:(str t).toList.isEmpty=false:=(by rw[QX];exact ht);rw[Yq,Yq,Yq];clear ht hs e1 U hc;go_enter func125,ntmps125;go_wp2;go_ret;exact ⟨rfl,Z.out⟩
   |false=>have q3:(str s).toList.isEmpty=false:=(by rw[QX];exact hs);rw[Yq,Yq,Yq,Yq];clear hs e1 U hc;go_enter func125,ntmps125;go_wp2;go_ret;exact ⟨rfl,Z.out⟩
  ·have q2:(100:Int)<(Y:Int):=(by omega);rw[Yf hd];rw[Yq,Yq,Yq,Yq,Yq];clear e1 U hc hd;go_enter func125,ntmps125;go_wp2;go_ret;exact ⟨rfl,Z.out⟩
 ·have q1:((k:Int) !=0)=true:=by rw[YU];omega
  rw[Yf U];rw[Yq,Yq,Yq,Yq,Yq,Yq];clear e1 U hc;go_enter func125,ntmps125;go_wp2;go_ret;exact ⟨rfl,Z.out⟩
theorem ZcV (N:Nat) (V:N<=4000000) (x:Nc) (w:Wq) (S:x.nd.fits N) (U:Env w) (K:NmTabs w) (M:RdN w x):
 Calls prog 81 #[.agg (cellsN x).toArray] w λe w'=>e= .returned (nI (if nodeOk 1 x.nd then 0 else 22))/\Ext w w':=by
 have J:=λw' (D:Ext w w')=>Zim N V x.nd.ht x 1 w' (Zb _) S (by omega) (U.ext D) (K.ext D) (RdN.ext D _ M);have Q:=RdN.sl M;obtain ⟨b,R⟩:∃b,nodeOk 1 x.nd=b:=⟨_,rfl⟩;rw[R] at J|-;clear R S M;obtain ⟨k,s,n,al,l0,ks,kids,t,a⟩:=x;obtain ⟨⟨A,X,c,F⟩,⟨B,Y,d,I⟩⟩:=Q;simp only[Nc.al,Nc.ks] at F I;subst F;subst I;simp only[cellsN] at J|-;have H:=gd J;clear J;have gzz:=(Ext.refl w).alloc (.cells #[nI (k:Nat),.string (str s),.string (str n),.slice A X c,.slice B Y d,.string (str t),nI (a:Nat)] 25);cases b with
 |true=>
  go_enter func81,ntmps81
  go_wp2_with (first|(go_at_call 125;(with_reducible refine Za (H.out _ gzz) ?_);rintro e w' ⟨rfl,D⟩))
  go_ret;exact ⟨rfl,gzz.trans D⟩
 |false=>
  go_enter func81,ntmps81
  go_wp2_with (first|(go_at_call 125;(with_reducible refine Za (H.out _ gzz) ?_);rintro e w' ⟨rfl,D⟩))
  go_ret;exact ⟨rfl,gzz.trans D⟩
end
section
variable {B:Nat} {T:TypeId} {b:World}
theorem Qn (hT:BT T) (B b:Nat) (bs:List Value) (s:ByteArray) (w:Wq) (h:Lib.IsBuilder T 5 B b bs w) (hd:bs.length+s.size<=140737488355328) (hf:B<=w.heap.size):
 Calls prog 54 #[.pointer (some ⟨b,0,none⟩),.string s] w λe w'=>e= .returned (.tuple #[nI s.size,.nilIface])/\(Lib.BuilderAt T 5 B b (.pointer (some ⟨b,0,none⟩)) (bs++Lib.strCells s) w'/\Below B w w'/\KeepsT T w w'):=by
 obtain ⟨i0,hi,ha,hb,hc⟩:=Yw Q9;go_enter func54,ntmps54
 go_wp2_with (go_at_call 95;refine (Uy hT B b bs _ h).mono ?_)
 rintro e w1 ⟨rfl,h1,K,U⟩;obtain ⟨hB,v,F,H,Z⟩:=h1;have c0:w1.cell? ⟨b,0,none⟩=some (.pointer (some ⟨b,0,none⟩)):=by rw[Zs F];rfl
 have c1:w1.cell? ⟨b,1,none⟩=some v:=by rw[Zs F];rfl
 go_wp2_with (at_builtin;refine Lib.wpList_append_own_string _ rfl _ _ 94 9 rfl B 5 i0 underlying94 underlying9 hi ha hb hc _ _ _ rfl H s rfl ?c3 ?c4 ?c5 ?_)
 case c3=>unfold maxLen;omega
 case c4=>omega
 case c5=>have:=K.size;omega
 intro v' w2 I A _;have Y:b<w1.heap.size:=by
  rcases XJ b w1.heap.size with R|R
  ·exact R
  ·simp[Y5 R] at F
 have J:w2.heap[b]? =some (.cells #[.pointer (some ⟨b,0,none⟩),v] T (0,0)):=by rw[A.block b Y (λe=>Z e.symm)];exact F
 have d0:w2.cell? ⟨b,0,none⟩=some (.pointer (some ⟨b,0,none⟩)):=by rw[Zs J];rfl
 have d1:w2.cell? ⟨b,1,none⟩=some v:=by rw[Zs J];rfl
 have f1:w2.frozen? ⟨b,1,none⟩=false:=ZX J 1;obtain ⟨ao,n',cap,rfl⟩:∃ao n' cap,v'= .slice ao n' cap:=by
  rcases I.2 with ⟨hv,_⟩|⟨g,cap,he,hv,_⟩
  ·exact ⟨_,_,_,hv⟩
  ·exact ⟨_,_,_,hv⟩
 go_wp2
 go_ret2
 refine ⟨rfl,?_,?_,?_⟩
 ·exact Lib.BuilderAt.put (T:=T) (e:=5) hB J (bs':=bs++Lib.strCells s) (by simpa [Lib.strCells_length] using I) hT.ne
 ·exact (K.grown A (by have:=K.size;omega) (λk S=>(H.lt k S).1)).setCell (p:=⟨b,1,none⟩) hB _
 ·intro k cs t fr S M Q;have D:=U k cs t fr S M Q;have V:k≠b:=by rintro rfl;rw[F] at D;simp only[Xc,Obj.cells.injEq] at D;exact M D.2.1.symm
  have X:k<w1.heap.size:=(Zx.1 D).1;rw[Below.heap_setCell _ _ _ _ (λe=>V (by simpa using e))];rw[A.block k X (λe=>Lib.ownBlock_ne H D Q e.symm)];exact D
structure BKeep (B:Nat) (w w':Wq):Prop where
 below:Below B w w'
 keeps:KeepsT 96 w w'
theorem BKeep.trans {a c:Wq} (h:BKeep B a b) (A:BKeep B b c):BKeep B a c:=⟨h.below.trans A.below,λk cs t fr H D F=>A.keeps k cs t fr (h.keeps k cs t fr H D F) D F⟩
theorem BKeep.of_ext {a:Wq} (h:Ext a b) (A:B<=a.heap.size):BKeep B a b:=⟨Zgz h.below A,λk cs t fr D _ _=>h.heap D⟩
theorem BKeep.then_ext {a c:Wq} (h:BKeep B a b) (A:Ext b c) (D:B<=a.heap.size):BKeep B a c:=h.trans (BKeep.of_ext A (Zv D h.below.size))
theorem BKeep.ext {z a:Wq} (h:Ext z a) (A:BKeep B a b) (D:z.heap.size<=B):Ext z b:=h.then (Zgz A.below D)
theorem BKeep.size {a:Wq} (h:BKeep B a b) (A:B<=a.heap.size):B<=b.heap.size:=Zv A h.below.size
theorem bwS (B b:Nat) (l:List UInt8) (s:ByteArray) (w:Wq) (h:Lib.IsBuilder 96 5 B b (Lib.byteCells l) w) (A:l.length+s.size<=140737488355328) (D:B<=w.heap.size):
 Calls prog 54 #[.pointer (some ⟨b,0,none⟩),.string s] w λe w'=>e= .returned (.tuple #[nI s.size,.nilIface])/\Lib.IsBuilder 96 5 B b (Lib.byteCells (l++s.data.toList)) w'/\BKeep B w w':=
 (Qn Vt B b _ s w h (by rw[Lib.byteCells_length];exact A) D).mono λ_ _ ⟨F,H,I,J⟩=>⟨F,(by rw[YK];exact Or.inr H),I,J⟩
theorem bwB (B b:Nat) (l:List UInt8) (c:UInt8) (w:Wq) (h:Lib.IsBuilder 96 5 B b (Lib.byteCells l) w) (A:l.length+1<=140737488355328) (D:B<=w.heap.size):
 Calls prog 62 #[.pointer (some ⟨b,0,none⟩),.int .u8 (c.toNat:Nat)] w λe w'=>e= .returned .nilIface/\Lib.IsBuilder 96 5 B b (Lib.byteCells (l++ [c])) w'/\BKeep B w w':=
 (Gh Vt B b _ _ w h (by rw[Lib.byteCells_length];exact A) D).mono λ_ _ ⟨F,H,I,J⟩=>⟨F,(by rw[YK];exact Or.inr H),I,J⟩
end
section
variable {g j k:Nat} {s t:List UInt8} {w w':World}
theorem GE:∀a b:List AtP,attrsW (a++b)=attrsW a++attrsW b
 | [],b=>rfl
 |x::t,b=>by
  show attrW x++attrsW (t++b)=(attrW x++attrsW t)++attrsW b
  rw[GE t b,Ym]
theorem Zc3 {l:List AtP} (h:j<l.length):attrsW (l.take (j+1))=attrsW (l.take j)++attrW l[j]:=by
 rw[Zq h,GE]
 congr 1
 show attrW _++ []=_;rw[Ye]
theorem ZgC (l:List AtP) (j:Nat):(attrsW (l.take j)).length<=(attrsW l).length:=by
 have h:attrsW l=attrsW (l.take j)++attrsW (l.drop j):=by rw[<-GE,YZ]
 rw[h,Zd];omega
theorem GS:∀a b:List Nd,nodesW (a++b)=nodesW a++nodesW b
 | [],b=>by rw[Jy,nodesW,Jy]
 |x::t,b=>by rw[List.cons_append,nodesW,nodesW,GS t b,Ym]
theorem Zd7 {l:List Nc} (h:j<l.length):nodesW ((Nc.nds l).take (j+1))=nodesW ((Nc.nds l).take j)++nodeW l[j].nd:=by
 have A:j<(Nc.nds l).length:=by rw[Jh];exact h
 have e:(Nc.nds l)[j]=l[j].nd:=by simp only[XX,Xv]
 rw[Zq A,GS,e]
 congr 1
 rw[nodesW,nodesW,Ye]
theorem ZhK (l:List Nd) (j:Nat):(nodesW (l.take j)).length<=(nodesW l).length:=by
 have h:nodesW l=nodesW (l.take j)++nodesW (l.drop j):=by rw[<-GS,YZ]
 rw[h,Zd];omega
def AbX (w:Wq) (g:Nat) (x:AtP):Prop:=w.heap[g]? =some (.cells #[.string (str x.space),.string (str x.name),.string (str x.value),nI (x.at_:Nat)] 88 (0,0))
theorem AbX.ext {x:AtP} (h:AbX w g x) (A:Ext w w'):AbX w' g x:=A.heap h
theorem AbX.cells {x:AtP} (h:AbX w g x):w.cell? ⟨g,0,none⟩=some (.string (str x.space))/\w.cell? ⟨g,1,none⟩=some (.string (str x.name))/\w.cell? ⟨g,2,none⟩=some (.string (str x.value))/\w.cell? ⟨g,3,none⟩=some (nI (x.at_:Nat)):=
 ⟨(Zs h _).trans rfl,(Zs h _).trans rfl,(Zs h _).trans rfl,(Zs h _).trans rfl⟩
def FnAt (w:Wq) (fb bb:Nat):Prop:=w.heap[fb]? =some (.cells #[.func (.func 82) #[] #[.pointer (some ⟨bb,0,none⟩),.pointer (some ⟨fb,0,none⟩)]] 133 (0,0))
theorem FnAt.cell {fb bb:Nat} (h:FnAt w fb bb):w.cell? ⟨fb,0,none⟩=some (.func (.func 82) #[] #[.pointer (some ⟨bb,0,none⟩),.pointer (some ⟨fb,0,none⟩)]):=(Zs h _).trans rfl
section
variable {B:Nat} {w w':World}
theorem BKeep.fn {fb bb:Nat} (h:BKeep B w w') (A:FnAt w fb bb):FnAt w' fb bb:=h.keeps _ _ _ _ A (by decide) (by decide)
theorem BKeep.box {n:List UInt8} {al ks:Value} {a:Nat} (h:BKeep B w w') (A:BxN w g k s n al ks t a):BxN w' g k s n al ks t a:=h.keeps _ _ _ _ A (by decide) (by decide)
end
theorem Zir (N:Nat) (hN:N<=4000000):∀(h:Nat) (x:Nc) (z w:Wq) (B bb fb:Nat) (l:List UInt8),x.nd.ht<=h->x.nd.fits N->RdN z x->Ext z w->z.heap.size<=B->B<=w.heap.size->FnAt w fb bb->
 Lib.IsBuilder 96 5 B bb (Lib.byteCells (l)) w->l.length+(nodeW x.nd).length<=140737488355328->
 Calls prog 82 #[.agg (cellsN x).toArray,.pointer (some ⟨bb,0,none⟩),.pointer (some ⟨fb,0,none⟩)] w λe w'=>e= .returned (.tuple #[])/\Lib.IsBuilder 96 5 B bb (Lib.byteCells (l++nodeW x.nd)) w'/\BKeep B w w':=by
 intro h
 induction h with
 |zero=>intro x z w B bb fb l hB;exact absurd (Zft x.nd) (by omega)
 |succ h ih=>
 intro x z w B bb fb l hB I hr gt gs hf hA hb D;obtain ⟨k,s,n,al,l0,ks,kids,t,a⟩:=x;rw[RdN] at hr;obtain ⟨hW,h1,gj⟩:=hr;have hI:=(Xm kids).1 gj;rw[Nc.nd] at hB I D|-;rw[Nd.ht] at hB;rw[Nd.fits] at I;have gh:=I.2.2.2.2.2.2.2.2;have gg:=I.2.2.2.2.1;have V:kids.length<=N:=by have:=I.2.2.2.2.2.1;rwa [Jh] at this
 have gZ:l0.length<=N:=I.2.2.2.1;have g9:n.length<=N:=I.2.2.1;have hg:k<=1:=I.1;have h2:t.length<=16777216:=by have:=I.2.2.2.2.2.2.1;omega
 obtain ⟨A,c,gR, -, -⟩:=hW.form;obtain ⟨B0,d,gX, -, -⟩:=RNs.form h1;subst gR;subst gX;obtain ⟨W0,ge⟩:∃W0,w.alloc (.cells #[nI (k:Nat),.string (str s),.string (str n),.slice A l0.length c,.slice B0 kids.length d,.string (str t),nI (a:Nat)] 25)=W0:=⟨_,rfl⟩;have hd:Ext w W0:=by rw[<-ge];exact (Ext.refl w).alloc _
 have hX:BxN W0 w.heap.size k s n (.slice A l0.length c) (.slice B0 kids.length d) t a:=by rw[<-ge];exact Zf w _
 obtain ⟨b0,b1,b2,b3,b4,b5,b6⟩:=hX.cells;have g6:=gd hd;have hq:=gd hX;have h5:=gd (Us hb hd);have gF:=gd (show FnAt W0 fb bb from hd.heap hA);have hk:=gd (gt.trans hd);have hu:=gd gs;have Q:=gd (Zv hf hd.size);have gD:=gd hf;have hM:=gd (BKeep.of_ext hd hf);have gx:=gd hW;have gM:=gd (show RNs z (.slice B0 kids.length d) kids from h1);have HY:=gd (λy (hy:y∈kids)=>(⟨hI y hy,(Nds.fits_iff _).1 gh y.nd (by rw[XX];exact Z9 hy),(by
  have:=Zab (x:=y.nd) (l:=Nc.nds kids) (by rw[XX];exact Z9 hy);omega)⟩:RdN z y/\y.nd.fits N/\y.nd.ht<=h))
 have gH:=gd ih;have gL:Hid (kids.length<=16777216):=gd (by omega);have gN:Hid (l0.length<=16777216):=gd (by omega);have gE:Hid (∀b∈l0,b.name.length<=16777216/\b.value.length<=16777216):=gd (λb hb=>by have:=gg b hb;unfold AtP.fits at this;omega);simp only[cellsN];clear ih hW h1 gj hI I hB gh gg V gZ hd hX gt gs hf hA hb;by_cases ho:k=1
 ·rw[nodeW,Zl ho] at D|-;have q1:((k:Int)==1)=true:=by rw[ho];rfl
  have HT:=gd (λw'=>ZeV (str t) w' (by rw[YN];exact h2));simp only[Ya] at HT;have he:=gd D;clear ho hg D h2;go_enter func82,ntmps82
  go_wp2_with (first|(go_at_call 83;(with_reducible refine Za (HT.out _) ?_);rintro e w2 ⟨rfl,J⟩)|(go_at_call 54;refine Za (bwS B bb l _ _ (Us h5.out J) (by rw[YN];exact he.out) (Zv Q.out J.size)) ?_;rintro e w3 ⟨rfl,gb,gV⟩))
  refine Zn (results_none rfl _ _ _) rfl ?_;rw[Ya] at gb;exact ⟨rfl,gb,(hM.out.then_ext J gD.out).trans gV⟩
 ·rw[nodeW,Zg ho] at D|-;have q1:((k:Int)==1)=false:=by rw[ZC];omega
  obtain ⟨R,hR⟩:∃R,[60]++n++attrsW l0++(if (Nc.nds kids).isEmpty then [47,62] else [62]++nodesW (Nc.nds kids)++ [60,47]++n++ [62])=R:=⟨_,rfl⟩;rw[hR] at D|-;have gc:1+n.length+(attrsW l0).length<=R.length:=by rw[<-hR];simp only[Zd,Ze,ZT];omega
  have HR:=gd hR;have gO:=gd gc;have he:=gd D;have g3:¬9223372036854775807<1+n.length:=by omega
  have g4:¬9223372036854775807<2+n.length:=by omega
  have g5:¬9223372036854775807<2+n.length+1:=by omega
  clear ho hg h2 hR;go_enter func82,ntmps82;have gk:l.length+((⟨#[60]⟩:ByteArray)++str n).size<=140737488355328:=by simp only[Xl,YN];show l.length+(1+n.length)<=_;omega
  go_wp2_with (go_at_call 54;refine Za (bwS B bb l _ W0 h5.out gk Q.out) ?_;rintro e w1 ⟨rfl,hT,hg⟩;obtain ⟨d0,d1,d2,d3,d4,d5,d6⟩:=(BKeep.box hg hq.out).cells)
  simp only[UR,Ya] at hT;have gz:=gd (show Lib.IsBuilder 96 5 B bb (Lib.byteCells (l++([60]++n))) w1 from hT);have gI:=gd hg;clear hT hg D gk gc b0 b1 b2 b3 b4 b5 b6;go_loopw [22] (λv wr=>∃j:Nat,j<=l0.length/\v=nI j/\Lib.IsBuilder 96 5 B bb (Lib.byteCells (l++([60]++n)++attrsW (l0.take j))) wr/\BKeep B W0 wr) (λv _=>l0.length - (intOf v).toNat)
  case atStart=>exact ⟨0,Zh _,rfl,(by rw[List.take_zero];show Lib.IsBuilder 96 5 B bb (Lib.byteCells (l++([60]++n)++ [])) w1;rw[Ye];exact gz.out),gI.out⟩
  case round=>
   obtain ⟨j,hj,rfl,M,H⟩:=hrel;by_cases S:j<l0.length
   ·obtain ⟨ad,c',hv,hl⟩:=(RAts.ext gx.out (BKeep.ext hk.out H hu.out)).at S;injection hv with hv1 hv2 hv3;subst hv1;clear hv2 hv3;have D:=he.out;have hc:=ZgC l0 (j+1);have F:=Zc3 S;rw[F,Zd] at hc;have U:=gE.out _ (Zz S);obtain ⟨x,go⟩:∃x,l0[j]=x:=⟨_,rfl⟩;rw[go] at hl hc F U;obtain ⟨a0,a1,a2,a3⟩:=hl;have hn:=BKeep.size H Q.out;obtain ⟨W2,ha⟩:∃W2,wr.alloc (.cells #[.string (str x.space),.string (str x.name),.string (str x.value),nI (x.at_:Nat)] 88)=W2:=⟨_,rfl⟩;have J:Ext wr W2:=(by rw[<-ha];exact (Ext.refl wr).alloc _);have gQ:AbX W2 wr.heap.size x:=(by rw[<-ha];exact Zf wr _);have ga:=gd J;have gw:=gd gQ;have hQ:=gd (λw'=>ZeU (str x.value) w' (by rw[YN];exact U.2));simp only[Ya] at hQ;have gn:=ID true x.value;have gS:(attrW x).length=1+x.name.length+2+(wescL true x.value).length+1:=(by unfold attrW;simp only[Zd,Ze,ZT]);have hP:=gd F;have gC:=gd (Us M J);have hi:=gd H;have gl:(l++([60]++n)++attrsW (l0.take j)).length+(1+x.name.length+2+(wescL true x.value).length+1)<=140737488355328:=(by have fa:=gO.out;simp only[Zd,Ze,ZT] at D|-;omega);have h8:=gd gl;obtain ⟨E,hE⟩:∃E,wescL true x.value=E:=⟨_,rfl⟩;have gf: [32]++x.name++ [61,34]++E++ [34]=attrW x:=(by rw[<-hE];rfl);have gy:=gd gf;rw[hE] at hQ gn h8;have o1:¬9223372036854775807<1+x.name.length:=(by have:=U.1;omega);have o2:¬9223372036854775807<1+x.name.length+2:=(by have:=U.1;omega);have o3:¬9223372036854775807<1+x.name.length+2+E.length:=(by have:=U.1;have:=U.2;omega);have o4:¬9223372036854775807<1+x.name.length+2+E.length+1:=(by have:=U.1;have:=U.2;omega);have hh:=gd hn;have gT:(0:Int)<=(j:Int):=(by omega);have gU:(j:Int)<(l0.length:Int):=(by omega);have g8:l0.length<=16777216:=gN.out;clear hc F U go D gS gn gf hE M H hn gl
    go_wp2_with (first|(refine Zc rfl 88 (.tmp 5) (.tmp 25) rfl wr.heap.size _ rfl rfl _ _ (Zf _ _) size_attr rfl YL ?_;rw[Z4];rw[ha]))
    refine rN ?_;change wpAny _ _ _ _ _ _ _ (World.drew _);have hF:=(Ext.refl W2).drew;have Y:=gw.out.ext hF;refine Yi (λw'=>AbX w' wr.heap.size x) ?_;refine tG 0 (.pointer (some ⟨wr.heap.size,1,none⟩)) Y ?_;refine tS 1 (.string (str x.name)) rfl (λw' hS=>by obtain ⟨q0,q1,q2,q3⟩:=AbX.cells hS;go_simp) Y ?_;refine tG 2 (.string (⟨#[32]⟩++str x.name)) Y ?_;refine tG 3 (.string (⟨#[32]⟩++str x.name++⟨#[61,34]⟩)) Y ?_;refine tG 4 (.pointer (some ⟨wr.heap.size,2,none⟩)) Y ?_;refine tS 5 (.string (str x.value)) rfl (λw' hS=>by obtain ⟨q0,q1,q2,q3⟩:=AbX.cells hS;go_simp) Y ?_;go_simp;refine sS 6 λK hK=> ?_;go_simp;go_at_call 84;have hz:=hQ.out W2.drew
    with_reducible refine Za hz ?_
    clear hz;rintro e w3 ⟨rfl,hD⟩;have hw:=Y.ext hD;refine hK _ _ hw ?_;clear hK K;refine sS 7 λK hK=> ?_;go_simp;refine hK _ _ hw ?_;clear hK K;refine sS 8 λK hK=> ?_;go_simp;refine hK _ _ hw ?_;clear hK K;refine sS 9 λK hK=> ?_;go_simp;go_at_call 54;refine Za (bwS B bb (l++([60]++n)++attrsW (l0.take j)) _ w3 (Us gC.out (hF.trans hD)) (by simp only[Xl,YN];exact h8.out) (Zv hh.out (ga.out.trans (hF.trans hD)).size)) ?_;rintro e w4 ⟨rfl,hU,gi⟩;simp only[UR,Ya] at hU;have X:Lib.IsBuilder 96 5 B bb (Lib.byteCells (l++([60]++n)++attrsW (l0.take (j+1)))) w4:=(by rw[hP.out,<-gy.out,<-Ym (l++([60]++n)) (attrsW (l0.take j))];exact hU);have hJ:=gd X;have hL:=gd (hi.out.trans ((BKeep.of_ext (ga.out.trans (hF.trans hD)) hh.out).trans gi));refine hK _ _ (gi.keeps _ _ _ _ hw (by decide) (by decide)) ?_;clear hK K hU X;refine sE ?_;go_wp2;go_roundw
    case rel=>exact ⟨j+1,S,by go_num,hJ.out,hL.out⟩
    case measure=>simp[intOf];omega
   ·have hZ:j=l0.length:=(by omega);subst hZ;rw[List.take_length] at M;have hm:=BKeep.box H hq.out;obtain ⟨b0,b1,b2,b3,b4,b5,b6⟩:=hm.cells;have hn:=BKeep.size H Q.out;have D:=he.out;obtain ⟨wP,g0⟩:∃wP:Wq,wP=wr:=⟨_,rfl⟩;subst g0;have hi:=gd H;have hh:=gd hn;clear S hj H hn hm;cases hke:kids.isEmpty with
    |true=>
     have V:kids= []:=List.isEmpty_iff.1 hke;have Z:R= [60]++n++attrsW l0++ [47,62]:=(by rw[<-HR.out,V,Nc.nds];rfl);have q2:((kids.length:Int)==0)=true:=(by rw[V];rfl);have hC:(l++([60]++n)++attrsW l0).length+(⟨#[47,62]⟩:ByteArray).size<=140737488355328:=(by rw[Z] at D;show _+2<=_;simp only[Zd,Ze,ZT] at D|-;omega);have hO:=gd Z;clear hke V Z D
     go_wp2_with (go_at_call 54;refine Za (bwS B bb (l++([60]++n)++attrsW l0) _ wP M hC hh.out) ?_;rintro e w5 ⟨rfl,X,hp⟩)
     refine Zn (results_none rfl _ _ _) rfl ?_;refine ⟨rfl,?_,(hM.out.trans hi.out).trans hp⟩;rw[hO.out];simp only[Ym] at X|-;exact X
    |false=>
     have V:kids≠ []:=λe=>(by rw[e] at hke;cases hke);have Z:R= [60]++n++attrsW l0++([62]++nodesW (Nc.nds kids)++ [60,47]++n++ [62]):=by
      rw[<-HR.out];cases kids with
      |nil=>exact absurd rfl V
      |cons y ys=>rw[Nc.nds];rfl
     have q2:((kids.length:Int)==0)=false:=(by rw[ZC];have:=Gk.2 V;omega);have hs:Hid ((l++([60]++n)++attrsW l0).length+1+(nodesW (Nc.nds kids)).length+2+n.length+1<=140737488355328):=gd (by
      rw[Z] at D;simp only[Zd,Ze,ZT] at D|-;omega)
     have hO:=gd Z;obtain ⟨L1,hV⟩:∃L1,l++([60]++n)++attrsW l0=L1:=⟨_,rfl⟩;rw[hV] at M hs;have h9:=gd hV;have hC:L1.length+1<=140737488355328:=(by have:=hs.out;omega);clear hke V Z D hV
     go_wp2_with (go_at_call 62;refine Za (bwB B bb L1 62 wP M hC hh.out) ?_;rintro e w5 ⟨rfl,X,hp⟩;obtain ⟨d0,d1,d2,d3,d4,d5,d6⟩:=(BKeep.box (hi.out.trans hp) hq.out).cells)
     have hL:=gd (hi.out.trans hp);have hJ:=gd X;clear b0 b1 b2 b3 b4 b5 b6 X hp hC M;go_loopw [46] (λv wr=>∃j:Nat,j<=kids.length/\v=nI j/\Lib.IsBuilder 96 5 B bb (Lib.byteCells (L1++ [62]++nodesW ((Nc.nds kids).take j))) wr/\BKeep B W0 wr) (λv _=>kids.length - (intOf v).toNat)
     case atStart=>exact ⟨0,Zh _,rfl,(by rw[List.take_zero,nodesW,Ye];exact hJ.out),hL.out⟩
     case round=>
      obtain ⟨j,hj,rfl,M,H⟩:=hrel;by_cases S:j<kids.length
      ·obtain ⟨ad,c',hv,hl⟩:=(RNs.ext gM.out (BKeep.ext hk.out H hu.out)).at S;injection hv with hv1 hv2 hv3;subst hv1;clear hv2 hv3;have gW:=gL.out;have gT:(0:Int)<=(j:Int):=(by omega);have gU:(j:Int)<(kids.length:Int):=(by omega);obtain ⟨hG,h3,h4⟩:=HY.out kids[j] (Zz S);have F:=Zd7 S;have hc:=ZhK (Nc.nds kids) (j+1);rw[F,Zd] at hc;obtain ⟨y,gr⟩:∃y,kids[j]=y:=⟨_,rfl⟩;rw[gr] at hl hG h3 h4 F hc;have gm:(L1++ [62]++nodesW ((Nc.nds kids).take j)).length+(nodeW y.nd).length<=140737488355328:=(by have:=hs.out;simp only[Zd,Ze,ZT];omega);have hH:=gd (λ(w':Wq) (hz:Ext z w') (hf:B<=w'.heap.size) (hA:FnAt w' fb bb) (hb:Lib.IsBuilder 96 5 B bb (Lib.byteCells (L1++ [62]++nodesW ((Nc.nds kids).take j))) w')=>gH.out y z w' B bb fb _ h4 h3 hG hz hu.out hf hA hb gm);have hP:=gd F;have g1:=RdN.sl hG;obtain ⟨yk,ys,yn,fc,yl,fd,g2,yt,ya⟩:=y;obtain ⟨⟨YA,ym,yc,gp⟩,⟨YB,gu,yd,gq⟩⟩:=g1;simp only[Nc.al,Nc.ks] at gp gq;subst gp;subst gq;simp only[cellsN] at hH;obtain ⟨a0,a1,a2,a3,a4,a5,a6⟩:=hl;simp only[Nc.kind,Nc.space,Nc.name,Nc.al,Nc.ks,Nc.text,Nc.at_] at a0 a1 a2 a3 a4 a5 a6;obtain ⟨W2,ha⟩:∃W2,wr.alloc (.cells #[nI (yk:Nat),.string (str ys),.string (str yn),.slice YA ym yc,.slice YB gu yd,.string (str yt),nI (ya:Nat)] 25)=W2:=⟨_,rfl⟩;have J:Ext wr W2:=(by rw[<-ha];exact (Ext.refl wr).alloc _);have hm:BxN W2 wr.heap.size yk ys yn (.slice YA ym yc) (.slice YB gu yd) yt ya:=(by rw[<-ha];exact Zf wr _);obtain ⟨c0,c1,c2,c3,c4,c5,c6⟩:=hm.cells;have hY:FnAt W2 fb bb:=J.heap (BKeep.fn H gF.out);have g7:=hY.cell;have gG:=gd hY;clear hY;have h6:=gd (Zv (BKeep.size H Q.out) J.size);have gB:=gd (Us M J);have gP:=gd ((BKeep.ext hk.out H hu.out).trans J);have gJ:=gd (H.then_ext J Q.out);clear hG h3 h4 F hc gr gm hm J M H d0 d1 d2 d3 d4 d5 d6
       go_wp2_with (first|(refine Zc rfl 25 (.tmp 7) (.tmp 49) rfl wr.heap.size _ rfl rfl _ _ (Zf _ _) ZD rfl YL ?_;rw[Z4];rw[ha])|(go_at_call 82;refine Za (hH.out W2 gP.out h6.out gG.out gB.out) ?_;rintro e w6 ⟨rfl,hx,h0⟩))
       have gA:=gd (show Lib.IsBuilder 96 5 B bb (Lib.byteCells (L1++ [62]++nodesW ((Nc.nds kids).take (j+1)))) w6 by rw[hP.out,<-Ym (L1++ [62])];exact hx);have gK:=gd (gJ.out.trans h0);go_roundw
       case rel=>exact ⟨j+1,S,by go_num,gA.out,gK.out⟩
       case measure=>simp[intOf];omega
      ·have hZ:j=kids.length:=(by omega);subst hZ;rw[ZM (by rw[Jh];exact Zb _)] at M;obtain ⟨b0,b1,b2,b3,b4,b5,b6⟩:=(BKeep.box H hq.out).cells;have gY:(L1++ [62]++nodesW (Nc.nds kids)).length+((⟨#[60,47]⟩:ByteArray)++str n++(⟨#[62]⟩:ByteArray)).size<=140737488355328:=(by have:=hs.out;simp only[Xl,YN,Zd,Ze,ZT] at this|-;show _+(2+n.length+1)<=_;omega);have h7:=gd (BKeep.size H Q.out);clear S hj d0 d1 d2 d3 d4 d5 d6
       go_wp2_with (go_at_call 54;refine Za (bwS B bb (L1++ [62]++nodesW (Nc.nds kids)) _ wr M gY h7.out) ?_;rintro e w6 ⟨rfl,hx,h0⟩)
       go_end0;simp only[UR,Ya] at hx;refine ⟨rfl,?_,(hM.out.trans H).trans h0⟩;rw[hO.out];have e2:l++([60]++n++attrsW l0++([62]++nodesW (Nc.nds kids)++ [60,47]++n++ [62]))=L1++ [62]++nodesW (Nc.nds kids)++([60,47]++n++ [62]):=(by rw[<-h9.out];simp only[Ym]);rw[e2];exact hx
end
theorem Zhb (w1:Wq):Lib.IsBuilder 96 5 (w1.heap.size) (w1.heap.size) (Lib.byteCells ([])) (((w1.alloc (.cells #[.pointer none,sN] 96)).alloc (.cells #[.nilFunc] 133)).setCell ⟨w1.heap.size+1,0,none⟩ (.func (.func 82) #[] #[.pointer (some ⟨w1.heap.size,0,none⟩),.pointer (some ⟨w1.heap.size+1,0,none⟩)])):=
 Or.inl ⟨Zb _,sN,(ZY _ ⟨w1.heap.size+1,0,none⟩ w1.heap.size _ (by show w1.heap.size≠w1.heap.size+1;omega)).trans ((JP _ _ (by rw[Zt];omega)).trans (Zf w1 _)),YO _ _ _ _,by simp[Value.ownBlock]⟩
theorem ZcW (N:Nat) (hN:N<=4000000) (x:Nc) (w:Wq) (hf:x.nd.fits N) (hE:Env w) (V:NmTabs w) (hr:RdN w x) (F:(docW x.nd).length<=140737488355328):
 Calls prog 42 #[.agg (cellsN x).toArray] w λe w'=>e= .returned (.tuple #[.string (str (if nodeOk 1 x.nd then docW x.nd else [])),nI (if nodeOk 1 x.nd then 0 else 22)])/\Ext w w':=by
 have h:=λw' (hx:Ext w w')=>ZcV N hN x w' hf (hE.ext hx) (V.ext hx) (RdN.ext hx _ hr);have hd:docW x.nd=headW++nodeW x.nd++ [10]:=rfl;have he:headW.length=39:=rfl;have D:=λ(w':Wq) (z:Wq) (B bb fb:Nat) (l:List UInt8) (hx:Ext w z)=>Zir N hN x.nd.ht x z w' B bb fb l (Zb _) hf (RdN.ext hx _ hr);obtain ⟨R,hR⟩:∃R,nodeW x.nd=R:=⟨_,rfl⟩;rw[hd] at F|-;rw[hR] at D F|-;have hz:R.length+40<=140737488355328:=by simp only[Zd,Ze,ZT] at F;omega
 have hv:=RdN.sl hr;obtain ⟨b,hb⟩:∃b,nodeOk 1 x.nd=b:=⟨_,rfl⟩;rw[hb] at h|-;clear hb hf hr hd hR F hE V;obtain ⟨k,s,n,al,l0,ks,kids,t,a⟩:=x;obtain ⟨⟨A,m1,c,Y⟩,⟨B0,m2,d,hg⟩⟩:=hv;simp only[Nc.al,Nc.ks] at Y hg;subst Y;subst hg;simp only[cellsN] at h D|-;have U:=gd h;have hk:=gd D;obtain ⟨W0,X⟩:∃W0,w.alloc (.cells #[nI (k:Nat),.string (str s),.string (str n),.slice A m1 c,.slice B0 m2 d,.string (str t),nI (a:Nat)] 25)=W0:=⟨_,rfl⟩;have hh:Ext w W0:=by rw[<-X];exact (Ext.refl w).alloc _
 have K:BxN W0 w.heap.size k s n (.slice A m1 c) (.slice B0 m2 d) t a:=by rw[<-X];exact Zf w _
 obtain ⟨b0,b1,b2,b3,b4,b5,b6⟩:=K.cells;have I:=gd hh;have S:=gd K;clear h D hh K;cases b with
 |false=>
  go_enter func42,ntmps42
  go_wp2_with (first|(go_at_call 81;(with_reducible refine Za (U.out _ I.out) ?_);rintro e w1 ⟨rfl,H⟩))
  go_ret2
  exact ⟨rfl,I.out.trans H⟩
 |true=>
  go_enter func42,ntmps42
  go_wp2_with (first|(go_at_call 81;(with_reducible refine Za (U.out _ I.out) ?_);rintro e w1 ⟨rfl,H⟩;obtain ⟨d0,d1,d2,d3,d4,d5,d6⟩:=(S.out.ext H).cells;(have hq:((w1.alloc (.cells #[.pointer none,sN] 96)).alloc (.cells #[.nilFunc] 133)).cell? ⟨w1.heap.size+1,0,none⟩=some .nilFunc:=by rw[Jp (YD w1 _ _)];rfl);(have hp:((w1.alloc (.cells #[.pointer none,sN] 96)).alloc (.cells #[.nilFunc] 133)).frozen? ⟨w1.heap.size+1,0,none⟩=false:=YH (YD w1 _ _) 0);(have ha:=Zhb w1);(have hc:FnAt (((w1.alloc (.cells #[.pointer none,sN] 96)).alloc (.cells #[.nilFunc] 133)).setCell ⟨w1.heap.size+1,0,none⟩ (.func (.func 82) #[] #[.pointer (some ⟨w1.heap.size,0,none⟩),.pointer (some ⟨w1.heap.size+1,0,none⟩)])) (w1.heap.size+1) w1.heap.size:=block_setCell (YD w1 _ _) _);(have J:Ext w1 (((w1.alloc (.cells #[.pointer none,sN] 96)).alloc (.cells #[.nilFunc] 133)).setCell ⟨w1.heap.size+1,0,none⟩ (.func (.func 82) #[] #[.pointer (some ⟨w1.heap.size,0,none⟩),.pointer (some ⟨w1.heap.size+1,0,none⟩)])):=(((Ext.refl w1).alloc _).alloc _).setCell (Yc _) _);(obtain ⟨WB,ho⟩:∃WB,(w1.alloc (.cells #[.pointer none,sN] 96)).alloc (.cells #[.nilFunc] 133)=WB:=⟨_,rfl⟩);rw[ho] at hq hp ha hc J)|(go_at_call 54;refine Za (bwS _ _ [] _ _ ha (by show 0+39<=_;omega) J.size) ?_;rintro e w2 ⟨rfl,hl,M⟩;obtain ⟨e0,e1,e2,e3,e4,e5,e6⟩:=(M.box ((S.out.ext H).ext J)).cells;(have Z:=M.fn hc);(have hy:=Z.cell);(have Q:Ext w1 w2:=BKeep.ext J M (Zb _)))|(go_at_call 82;refine Za (hk.out w2 w1 w1.heap.size w1.heap.size (w1.heap.size+1) headW (I.out.trans H) Q (Zb _) Q.size Z hl (by rw[he];omega)) ?_;rintro e w3 ⟨rfl,hm,hs⟩;(have hi:Ext w1 w3:=Q.then hs.below))|(go_at_call 62;refine Za (bwB _ _ _ 10 _ hm (by rw[Zd,he];omega) hi.size) ?_;rintro e w4 ⟨rfl,hn,hu⟩;(have hj:Ext w1 w4:=hi.then hu.below))|(go_at_call 56;refine Za (JS _ _ _ _ hn hj.size) ?_;rintro e w5 ⟨rfl,hw⟩))
  go_ret2
  exact ⟨rfl,(I.out.trans H).trans (hj.then hw)⟩
section
variable {L:List Fd} {ac kc zt:Nat} {w:World}
theorem Zch (nm:List UInt8) (v:Value) (l:List Nc) (w:Wq) (F:RNs w v l) (A:∀y∈l,RdN w y/\y.kind=0) (D:l.length<=16777216):Calls prog 44 #[.string (str nm),v] w λe w'=>
 ∃KB kc,e= .returned (.agg #[nI 0,eS,.string (str nm),sN,.slice KB l.length kc,eS,nI 0])/\w'.ownsRow w.heap.size 25 7 (.slice KB l.length kc) l.length (flatN l)/\Ext w w':=by
 refine Za (EU nm v l w F A D) ?_;rintro e w' ⟨ks,rfl,h,H⟩;obtain ⟨KB,kc,rfl⟩:=Z8 h;exact ⟨KB,kc,rfl,h,H⟩
theorem ZgS (w:Wq):Calls prog 44 #[.string ⟨#[104,101,97,100]⟩,sN] w λe w'=>
 ∃D F,e= .returned (.agg #[nI 0,eS,.string ⟨#[104,101,97,100]⟩,sN,.slice D 0 F,eS,nI 0])/\RNs w' (.slice D 0 F) []/\Ext w w':=
 (Zch headL sN [] w (RNs.nil w) (by intro y I;cases I) (by decide)).mono λe w' ⟨KB,kc,h,A,H⟩=>⟨KB,kc,h,RSl.of_own A,H⟩
theorem ZgR (v:Value) (kids:List Nc) (w:Wq) (D:RNs w v kids) (h:∀y∈kids,RdN w y/\y.kind=0) (A:kids.length<=16777216):Calls prog 44 #[.string ⟨#[98,111,100,121]⟩,v] w λe w'=>
 ∃KB kc,e= .returned (.agg #[nI 0,eS,.string ⟨#[98,111,100,121]⟩,sN,.slice KB kids.length kc,eS,nI 0])/\w'.ownsRow w.heap.size 25 7 (.slice KB kids.length kc) kids.length (flatN kids)/\Ext w w':=
 Zch bodyL v kids w D h A
theorem ZgV (v:Value) (kids:List Nc) (w:Wq) (D:RNs w v kids) (h:∀y∈kids,RdN w y/\y.kind=0) (A:kids.length<=16777216):Calls prog 44 #[.string ⟨#[111,112,109,108]⟩,v] w λe w'=>
 ∃RB rc,e= .returned (.agg #[nI 0,eS,.string ⟨#[111,112,109,108]⟩,sN,.slice RB kids.length rc,eS,nI 0])/\w'.ownsRow w.heap.size 25 7 (.slice RB kids.length rc) kids.length (flatN kids)/\Ext w w':=
 Zch opmlL v kids w D h A
theorem ZjM (w:Wq):RStrs (w.alloc (.cells #[.string ⟨#[118,101,114,115,105,111,110]⟩,.string ⟨#[50,46,48]⟩] 9)) (.slice (some ⟨w.heap.size,0,none⟩) 2 2) (pairS [(versionL,twoL)]):=U2 w (pairS [(versionL,twoL)]) (by show 2<=maxLen;unfold maxLen;omega)
theorem Ziq (RB:Option Addr) (n rc:Nat) (v:Value) (w:Wq) (A:RStrs w v (pairS [(versionL,twoL)])):
 Calls prog 46 #[.agg #[nI 0,eS,.string ⟨#[111,112,109,108]⟩,sN,.slice RB n rc,eS,nI 0],v] w λe w'=>
  ∃AB ac,e= .returned (.agg #[nI 0,eS,.string ⟨#[111,112,109,108]⟩,.slice AB 1 ac,.slice RB n rc,eS,nI 0])/\w'.ownsRow w.heap.size 88 4 (.slice AB 1 ac) 1 (flatA [pairA (versionL,twoL)])/\Ext w w':=by
 refine Za (ZeP 0 [] opmlL sN (.slice RB n rc) [] n rc RB [] 0 v [(versionL,twoL)] w (RAts.nil w) rfl A (by show 0+1<=1000000;omega)) ?_;rintro e w' ⟨al',rfl,h,D⟩;obtain ⟨AB,ac,rfl⟩:=Z8 h;exact ⟨AB,ac,rfl,h,D⟩
theorem Zly {KB:Option Addr} {kids:List Nc}:(#[nI 0,eS,.string ⟨#[98,111,100,121]⟩,sN,.slice KB kids.length kc,eS,nI 0]:Array Value).all (λu=>u.oneCell')=true:=by simp[Value.oneCell']
theorem ZlC {RB AB:Option Addr} {rc:Nat}:(#[nI 0,eS,.string ⟨#[111,112,109,108]⟩,.slice AB 1 ac,.slice RB 2 rc,eS,nI 0]:Array Value).all (λu=>u.oneCell')=true:=by simp[Value.oneCell']
theorem ZkP:(#[nI 0,eS,eS,sN,sN,eS,nI 0]:Array Value).all (λu=>u.oneCell')=true:=by simp[Value.oneCell']
theorem ZlK {nb:Nat} {KB:Option Addr} {kids:List Nc} (h:w.heap[nb]? =some (.cells #[nI 0,eS,.string ⟨#[98,111,100,121]⟩,sN,.slice KB kids.length kc,eS,nI 0] 25 (0,0))):w.cell? ⟨nb,0,none⟩=some (nI 0)/\w.cell? ⟨nb,1,none⟩=some eS/\w.cell? ⟨nb,2,none⟩=some (.string ⟨#[98,111,100,121]⟩)/\w.cell? ⟨nb,3,none⟩=some sN/\w.cell? ⟨nb,4,none⟩=some (.slice KB kids.length kc)/\w.cell? ⟨nb,5,none⟩=some eS/\w.cell? ⟨nb,6,none⟩=some (nI 0):=by
 refine ⟨?_,?_,?_,?_,?_,?_,?_⟩<;>(rw[Zs h];rfl)
theorem ZkC {AB RB D KB:Option Addr} {rc H:Nat} {kids:List Nc} (I:Nc.nds kids=outsP 66 0 L):(Nc.mk 0 [] opmlL (.slice AB 1 ac) [pairA (versionL,twoL)] (.slice RB 2 rc) [(Nc.mk 0 [] headL sN [] (.slice D 0 H) [] [] 0),(Nc.mk 0 [] bodyL sN [] (.slice KB kids.length kc) kids [] 0)] [] 0).nd=encP L:=by
 have A:elems [elemN headL [],elemN bodyL (outsP 66 0 L)]:=λk h=>by
  rcases ZI.1 h with rfl|h
  ·rfl
  ·rw[Zo.1 h];rfl
 have F:elemN bodyL (outsP 66 0 L)= .mk 0 [] bodyL [] (outsP 66 0 L) [] 0:=by unfold elemN;rw[Jz (UU 66 0 L)]
 unfold encP;rw[ZjK A,F,Nc.nd,Nc.nds,Nc.nds,Nc.nds,Nc.nd,Nc.nd,Nc.nds,I];rfl
def dstE:Nat->Nat|0=>16|2=>18|3=>19|4=>20|_=>21
def depE:Nat->List Nat|2=> [0]|3=> [2]|5=> [3,4]|_=> []
def FE (zt:Nat) (KB:Option Addr) (kc:Nat) (kids:List Nc):Nat->Value->Wq->Prop
 |0,v,w=>∃HB hc,v= .agg #[nI 0,eS,.string ⟨#[104,101,97,100]⟩,sN,.slice HB 0 hc,eS,nI 0]/\RNs w (.slice HB 0 hc) []
 |2,v,w=>∃HB hc,RNs w v [(Nc.mk 0 [] headL sN [] (.slice HB 0 hc) [] [] 0),(Nc.mk 0 [] bodyL sN [] (.slice KB kids.length kc) kids [] 0)]/\RNs w (.slice HB 0 hc) []
 |3,v,w=>∃HB hc RB rc ro,v= .agg #[nI 0,eS,.string ⟨#[111,112,109,108]⟩,sN,.slice RB 2 rc,eS,nI 0]/\w.ownsRow ro 25 7 (.slice RB 2 rc) 2 (flatN [(Nc.mk 0 [] headL sN [] (.slice HB 0 hc) [] [] 0),(Nc.mk 0 [] bodyL sN [] (.slice KB kids.length kc) kids [] 0)])/\zt<=ro/\RNs w (.slice HB 0 hc) []
 |4,v,w=>RStrs w v (pairS [(versionL,twoL)])
 |_,v,w=>∃HB hc RB rc ro AB ac ao,v= .agg #[nI 0,eS,.string ⟨#[111,112,109,108]⟩,.slice AB 1 ac,.slice RB 2 rc,eS,nI 0]/\w.ownsRow ro 25 7 (.slice RB 2 rc) 2 (flatN [(Nc.mk 0 [] headL sN [] (.slice HB 0 hc) [] [] 0),(Nc.mk 0 [] bodyL sN [] (.slice KB kids.length kc) kids [] 0)])/\zt<=ro/\RNs w (.slice HB 0 hc) []/\w.ownsRow ao 88 4 (.slice AB 1 ac) 1 (flatA [pairA (versionL,twoL)])/\zt<=ao
theorem ZkV {KB:Option Addr} {kids:List Nc}:∀(i:Nat) (v:Value) (w w':Wq),FE zt KB kc kids i v w->Ext w w'->FE zt KB kc kids i v w':=by
 intro i v w w' h A;unfold FE at*;split at h
 ·obtain ⟨D,I,F,H⟩:=h;exact ⟨D,I,F,H.ext A⟩
 ·obtain ⟨D,I,F,H⟩:=h;exact ⟨D,I,F.ext A,H.ext A⟩
 ·obtain ⟨D,I,RB,rc,ro,F,H,J,K⟩:=h;exact ⟨D,I,RB,rc,ro,F,Yh H A,J,K.ext A⟩
 ·exact h.ext A
 ·obtain ⟨D,I,RB,rc,ro,AB,ac,ao,F,H,J,K,M,Q⟩:=h;exact ⟨D,I,RB,rc,ro,AB,ac,ao,F,Yh H A,J,K.ext A,Yh M A,Q⟩
def EncRet (w':Wq) (v:Value) (L:List Fd):Prop:=
 if okA L=true then ∃x:Nc,v= .tuple #[.agg (cellsN x).toArray,nI 0]/\x.nd=encP L/\RdN w' x else v= .tuple #[.agg #[nI 0,eS,eS,sN,sN,eS,nI 0],nI 22]
theorem Zfi (v:Value) (l:List Fc) (w:Wq) (hE:Env w) (hr:RFcs w v l) (hs:∀x∈l,RdC w x) (hk:∀x∈l,fokS x.f) (hn:l.length<=1000000):
 Calls prog 20 #[.agg #[v]] w λe w'=>∃r,e= .returned r/\EncRet w' r (l.map Fc.f)/\Ext w w':=by
 obtain ⟨A,c,rfl, -, -⟩:=hr.form;obtain ⟨W0,hd⟩:∃W0,(w.alloc (.cells #[.slice A l.length c] 31)).alloc (.cells #[nI 0,eS,eS,sN,sN,eS,nI 0] 25)=W0:=⟨_,rfl⟩;have hH:Ext w W0:=by rw[<-hd];exact ((Ext.refl w).alloc _).alloc _
 have hA:W0.heap[w.heap.size]? =some (.cells #[.slice A l.length c] 31 (0,0)):=by rw[<-hd];exact (JP _ _ (by rw[Zt];omega)).trans (Zf w _)
 have hI:W0.heap[w.heap.size+1]? =some (.cells #[nI 0,eS,eS,sN,sN,eS,nI 0] 25 (0,0)):=by rw[<-hd];exact YD w _ _
 have b0:W0.cell? ⟨w.heap.size,0,none⟩=some (.slice A l.length c):=(Zs hA 0).trans rfl;have hb:=gd hH;have hM:=gd hI;have HN:=gd hn;have X:=gd (λ(w':Wq) (h:Ext w w')=>ZdX (.slice A l.length c) l w' (hE.ext h) (hr.ext h) (λx R=>(hs x R).ext h) hk hn);have ha:=λ(ho:okA (l.map Fc.f)=true) (w':Wq) (h:Ext w w')=>Zjo 66 0 (.slice A l.length c) l w' (Zkx ho) (hr.ext h) (λx R=>(hs x R).ext h) hn (by decide);have hG:W0.heap.size=w.heap.size+2:=by rw[<-hd,Zt,Zt]
 have hl:=gd hG;unfold EncRet;by_cases ho:okA (l.map Fc.f)=true
 ·have h9:=gd (ha ho);have Z:=X;rw[Zl ho] at Z;simp only[Zl ho];clear ho ha X hE hr hs hk hn hH hA hI hG;go_enter func20,ntmps20
  go_wp2_with (first|(go_at_call 43;(with_reducible refine Za (Z.out _ hb.out) ?_);rintro e1 w1 ⟨rfl,Q⟩;(have c0:=Q.cell b0))|(go_at_call 45;refine Za (h9.out _ (hb.out.trans Q)) ?_;rintro e2 w2 ⟨u,kids,rfl,hq,hC,hT,hU,ht⟩)|(go_at_call 44;refine Za (ZgR u kids w2 hq.reads (λy hy=>⟨(Xm kids).1 hq.rd y hy,hT y hy⟩) (by have h:=Zy List.length hC;rw[Jh] at h;have h2:=Zeb 66 0 (l.map Fc.f);rw[Zk] at h2;have:=HN.out;omega)) ?_;rintro e3 w3 ⟨KB,kc,rfl,hD,hh⟩)|(refine Zc rfl 25 (.tmp 5) (.tmp 15) rfl w3.heap.size _ rfl rfl _ _ (Zf _ _) ZD rfl Zly ?_;rw[Z4]))
  have h7:=gd hC;obtain ⟨W4,hp⟩:∃q,w3.alloc (.cells #[nI 0,eS,.string ⟨#[98,111,100,121]⟩,sN,.slice KB kids.length kc,eS,nI 0] 25)=q:=⟨_,rfl⟩;have Y:Ext w3 W4:=by rw[<-hp];exact (Ext.refl w3).alloc _
  have hB:W4.heap[w3.heap.size]? =some (.cells #[nI 0,eS,.string ⟨#[98,111,100,121]⟩,sN,.slice KB kids.length kc,eS,nI 0] 25 (0,0)):=by rw[<-hp];exact Zf w3 _
  (try rw[hp]);obtain ⟨nb,hF⟩:∃q,w3.heap.size=q:=⟨_,rfl⟩;rw[hF] at hB;(try rw[hF]);have hu:RdN W4 (Nc.mk 0 [] bodyL sN [] (.slice KB kids.length kc) kids [] 0):=by rw[RdN];exact ⟨RAts.nil _,(RSl.of_own hD).ext Y,RdNs.ext (hh.trans Y) _ hq.rd⟩
  have gk:=Q.size;have gl:=ht.size;have gm:=hh.size;have gn:=Y.size;have h0:Hid (awayN (some (w.heap.size+1)) (Nc.mk 0 [] bodyL sN [] (.slice KB kids.length kc) kids [] 0)):=gd (by rw[awayN];exact ⟨Or.inl rfl,Or.inr (X7 hD (by have:=hl.out;omega)),hU _ (by have:=hl.out;omega)⟩);have h8:Hid (nb≠w.heap.size+1):=gd (by have:=hl.out;omega);have ga:Hid (w.heap.size+2<=W4.heap.size):=gd (by have:=hl.out;omega);have hY:=((Q.trans ht).trans (hh.trans Y)).heap hM.out;have H:=(Ext.refl W4).drew;refine rN ?_;change wpAny _ _ _ _ _ _ _ (World.drew _);obtain ⟨Wt,hP⟩:∃q,World.drew W4=q:=⟨_,rfl⟩;rw[hP] at H|-;obtain ⟨zt,hJ⟩:∃zt,zt=Wt.heap.size:=⟨_,rfl⟩;have ge:=gd hJ;have gb:Hid (w.heap.size+2<=zt):=gd (by rw[hJ];exact Zv ga.out H.size);have hL:=gd (RdN.ext H _ hu);have hj:=gd (H.heap hB);have gc:=gd (H.heap hY);have hm:=gd (((hb.out.trans (Q.trans ht)).trans (hh.trans Y)).trans H);have gp:=gd (Ext.refl Wt);have gf:Ext w Wt/\Wt.heap[nb]? =some (.cells #[nI 0,eS,.string ⟨#[98,111,100,121]⟩,sN,.slice KB kids.length kc,eS,nI 0] 25 (0,0)):=⟨hm.out,hj.out⟩;clear Y hB hp hF hu hY H hP Q ht hh hq hC hT hU hD c0 b0 hd hJ gk gl gm gn;refine Yi (λw'=>Ext w w'/\w'.heap[nb]? =some (.cells #[nI 0,eS,.string ⟨#[98,111,100,121]⟩,sN,.slice KB kids.length kc,eS,nI 0] 25 (0,0))) ?_;refine tS 1 (.agg #[nI 0,eS,.string ⟨#[98,111,100,121]⟩,sN,.slice KB kids.length kc,eS,nI 0]) rfl (λw' hS=>by obtain ⟨q0,q1,q2,q3,q4,q5,q6⟩:=ZlK hS.2;go_simp) gf ?_;go_simp;refine I4 (m:=2) (f:=5) rfl #[true,true,true,true,true,true,false,false] (λa0 a' w'=>∃(x1 x2 x3 x4:Value) (I RB AB:Option Addr) (J rc ac ro ao:Nat),a'=(((((a0.put (some 16) x1).put (some 18) x2).put (some 19) x3).put (some 20) x4).put (some 21) (.agg #[nI 0,eS,.string ⟨#[111,112,109,108]⟩,.slice AB 1 ac,.slice RB 2 rc,eS,nI 0]))/\
   Ext Wt w'/\RNs w' (.slice I 0 J) []/\w'.ownsRow ro 25 7 (.slice RB 2 rc) 2 (flatN [(Nc.mk 0 [] headL sN [] (.slice I 0 J) [] [] 0),(Nc.mk 0 [] bodyL sN [] (.slice KB kids.length kc) kids [] 0)])/\w'.ownsRow ao 88 4 (.slice AB 1 ac) 1 (flatA [pairA (versionL,twoL)])/\zt<=ro/\zt<=ao) ?_ ?_
  ·refine Qf [0,2,3,4,5] dstE depE (FE zt KB kc kids) rfl (by kernel_rfl) (by decide) (by decide) (by kernel_rfl) (by decide) (by kernel_rfl) (λi _=>ZkV i) (λw' R=>⟨hm.out.trans R,R.heap hj.out⟩) ?_ ?_
   ·intro i hi A w' vs R M D;have hN:Hid (zt<=w'.heap.size):=gd (by rw[ge.out];exact R.size);have h6:=gd (RdN.ext R _ hL.out);simp only[ZI,Yg,Xx] at hi;rcases hi with rfl|rfl|rfl|rfl|rfl
    ·clear M D R;refine Vg rfl rfl (λK hK=> ?_);go_simp;go_at_call 44;refine Za (ZgS w') ?_;rintro e V ⟨I,J,rfl,F,hv⟩;exact hK _ _ hv ⟨I,J,rfl,F⟩
    ·have e1:A.tmps[17]?.getD undef= .agg #[nI 0,eS,.string ⟨#[98,111,100,121]⟩,sN,.slice KB kids.length kc,eS,nI 0]:=JH ((M 17 (by decide)).trans rfl);obtain ⟨e2,I,J,e0,F⟩:=D 0 (by simp[depE]);have e2:A.tmps[16]?.getD undef=vs 0:=JH e2;rw[e0] at e2;clear M D R;refine Vg rfl rfl (λK hK=> ?_);go_simp;exact hK _ _ ((Ext.refl w').alloc _) ⟨I,J,Yp (w:=w') (n:=2) (cs:=flatN [(Nc.mk 0 [] headL sN [] (.slice I 0 J) [] [] 0),(Nc.mk 0 [] bodyL sN [] (.slice KB kids.length kc) kids [] 0)]) rfl (by decide),F.ext ((Ext.refl w').alloc _)⟩
    ·obtain ⟨e2,I,J,gj,F⟩:=D 2 (by simp[depE]);have e2:A.tmps[18]?.getD undef=vs 2:=JH e2;clear M D R;refine Vg rfl rfl (λK hK=> ?_);go_simp;go_at_call 44;refine Za (ZgV (vs 2) [(Nc.mk 0 [] headL sN [] (.slice I 0 J) [] [] 0),(Nc.mk 0 [] bodyL sN [] (.slice KB kids.length kc) kids [] 0)] w' gj (λy hy=> ?_) (by show 2<=16777216;decide)) ?_
     ·rcases ZI.1 hy with rfl|hy
      ·exact ⟨by rw[RdN];exact ⟨RAts.nil _,F,by rw[RdNs];trivial⟩,rfl⟩
      ·rw[Zo.1 hy];exact ⟨h6.out,rfl⟩
     rintro e V ⟨RB,rc,rfl,S,hv⟩;exact hK _ _ hv ⟨I,J,RB,rc,_,rfl,S,hN.out,F.ext hv⟩
    ·clear M D R;refine Vg rfl rfl (λK hK=> ?_);go_simp;exact hK _ _ ((Ext.refl w').alloc _) (ZjM w')
    ·obtain ⟨e1,I,J,RB,rc,ro,e3,S,gi,F⟩:=D 3 (by simp[depE]);obtain ⟨e2,go⟩:=D 4 (by simp[depE]);have e1:A.tmps[19]?.getD undef=vs 3:=JH e1;have e2:A.tmps[20]?.getD undef=vs 4:=JH e2;rw[e3] at e1;clear M D R;refine Vg rfl rfl (λK hK=> ?_);go_simp;go_at_call 46;refine Za (Ziq RB 2 rc (vs 4) w' go) ?_;rintro e V ⟨AB,ac,rfl,hg,hv⟩;exact hK _ _ hv ⟨I,J,RB,rc,ro,AB,ac,_,rfl,Yh S hv,gi,F.ext hv,hg,hN.out⟩
   ·intro vs w' R hf;obtain ⟨I,J,RB,rc,ro,AB,ac,ao,e5,h1,h2,h3,h4,h5⟩:=hf 5 (by decide);exact ⟨by kernel_rfl,vs 0,vs 2,vs 3,vs 4,I,RB,AB,J,rc,ac,ro,ao,by rw[<-e5];kernel_rfl,R,h3,h1,h4,h2,h5⟩
  ·rintro a' W7 ⟨y1,y2,y3,y4,I,RB,AB,J,rc,ac,ro,ao,rfl,U,F,S,hg,hV,hQ⟩;have hW:RdN W7 (Nc.mk 0 [] opmlL (.slice AB 1 ac) [pairA (versionL,twoL)] (.slice RB 2 rc) [(Nc.mk 0 [] headL sN [] (.slice I 0 J) [] [] 0),(Nc.mk 0 [] bodyL sN [] (.slice KB kids.length kc) kids [] 0)] [] 0):=(by rw[RdN,RdNs,RdNs,RdNs];exact ⟨RSl.of_own hg,RSl.of_own S,by rw[RdN];exact ⟨RAts.nil _,F,by rw[RdNs];trivial⟩,RdN.ext U _ hL.out,trivial⟩);have hZ:=U.heap gc.out;have hR:awayN (some (w.heap.size+1)) (Nc.mk 0 [] opmlL (.slice AB 1 ac) [pairA (versionL,twoL)] (.slice RB 2 rc) [(Nc.mk 0 [] headL sN [] (.slice I 0 J) [] [] 0),(Nc.mk 0 [] bodyL sN [] (.slice KB kids.length kc) kids [] 0)] [] 0):=(by have h1:=gb.out;rw[awayN,awayNs,awayNs,awayNs];exact ⟨Or.inr (X7 hg (by omega)),Or.inr (X7 S (by omega)),by rw[awayN];exact ⟨Or.inl rfl,Or.inl rfl,by rw[awayNs];trivial⟩,h0.out,trivial⟩);obtain ⟨W8,he⟩:∃q,W7.setRow (w.heap.size+1) #[nI 0,eS,.string ⟨#[111,112,109,108]⟩,.slice AB 1 ac,.slice RB 2 rc,eS,nI 0]=q:=⟨_,rfl⟩;have hw:RdN W8 (Nc.mk 0 [] opmlL (.slice AB 1 ac) [pairA (versionL,twoL)] (.slice RB 2 rc) [(Nc.mk 0 [] headL sN [] (.slice I 0 J) [] [] 0),(Nc.mk 0 [] bodyL sN [] (.slice KB kids.length kc) kids [] 0)] [] 0):=(by rw[<-he];exact RdN.grown (Yv _ _ _) _ hW hR);have hX:Ext w W8:=(by rw[<-he];exact (hm.out.trans U).setRow (Yc _) _);have gg:W8.heap[w.heap.size+1]? =some (.cells #[nI 0,eS,.string ⟨#[111,112,109,108]⟩,.slice AB 1 ac,.slice RB 2 rc,eS,nI 0] 25 (0,0)):=(by rw[<-he];exact Zp _ _ _ _ _ _ hZ);have gh:W8.heap[nb]? =some (.cells #[nI 0,eS,.string ⟨#[98,111,100,121]⟩,sN,.slice KB kids.length kc,eS,nI 0] 25 (0,0)):=(by rw[<-he];exact (Z1 _ _ _ _ h8.out).trans (U.heap hj.out));have hz:=gd (show (Nc.mk 0 [] opmlL (.slice AB 1 ac) [pairA (versionL,twoL)] (.slice RB 2 rc) [(Nc.mk 0 [] headL sN [] (.slice I 0 J) [] [] 0),(Nc.mk 0 [] bodyL sN [] (.slice KB kids.length kc) kids [] 0)] [] 0).nd=encP (l.map Fc.f)/\RdN W8 (Nc.mk 0 [] opmlL (.slice AB 1 ac) [pairA (versionL,twoL)] (.slice RB 2 rc) [(Nc.mk 0 [] headL sN [] (.slice I 0 J) [] [] 0),(Nc.mk 0 [] bodyL sN [] (.slice KB kids.length kc) kids [] 0)] [] 0)/\Ext w W8 from ⟨ZkC h7.out,hw,hX⟩);have gq:Ext w W7/\W7.heap[nb]? =some (.cells #[nI 0,eS,.string ⟨#[98,111,100,121]⟩,sN,.slice KB kids.length kc,eS,nI 0] 25 (0,0)):=⟨hm.out.trans U,U.heap hj.out⟩;have hO:Ext w W8/\W8.heap[nb]? =some (.cells #[nI 0,eS,.string ⟨#[98,111,100,121]⟩,sN,.slice KB kids.length kc,eS,nI 0] 25 (0,0)):=⟨hX,gh⟩;clear hW hR hw S hg F hV hQ U;go_simp;refine sS 6 λK hK=> ?_;refine Yj rfl 25 (.tmp 2) (.tmp 21) rfl (w.heap.size+1) _ rfl rfl _ _ hZ ZD rfl ZlC ?_;rw[he];refine hK _ _ hO ?_;clear hK K;go_simp;refine sS 7 λK hK=> ?_;go_simp;refine hK _ _ hO ?_;clear hK K;refine sE ?_;go_wp2;((try simp only[Exit.inBlock,Exit.then]);refine Zn (Yb rfl _ _ _ _ _ _ _ rfl gg underlying25 rfl ZD) rfl ?_);exact ⟨_,rfl,⟨(Nc.mk 0 [] opmlL (.slice AB 1 ac) [pairA (versionL,twoL)] (.slice RB 2 rc) [(Nc.mk 0 [] headL sN [] (.slice I 0 J) [] [] 0),(Nc.mk 0 [] bodyL sN [] (.slice KB kids.length kc) kids [] 0)] [] 0),rfl,hz.out.1,hz.out.2.1⟩,hz.out.2.2⟩
 ·have Z:=X;rw[Zg ho] at Z;simp only[Zg ho];clear ho ha X hE hr hs hk hn hH hA hI hG;go_enter func20,ntmps20
  go_wp2_with (first|(go_at_call 43;(with_reducible refine Za (Z.out _ hb.out) ?_);rintro e1 w1 ⟨rfl,Q⟩;(have z1:=Q.heap hM.out))|(refine Zc rfl 25 (.tmp 2) (.tmp 10) rfl (w.heap.size+1) _ rfl rfl _ _ z1 ZD rfl ZkP ?_))
  ((try simp only[Exit.inBlock,Exit.then]);refine Zn (Yb rfl _ _ _ _ _ _ _ rfl (Zp _ _ _ _ _ _ z1) underlying25 rfl ZD) rfl ?_);exact ⟨_,rfl,rfl,(hb.out.trans Q).setRow (Yc _) _⟩
end
def strsV (l:List (List UInt8)):List Value:=l.map λs=>Value.string (str s)
theorem KJ (x:Nc) (v:Value) (D:List (List UInt8)) (w:Wq) (h:RAts w x.al x.attrs) (S:isSl x.ks) (hn:x.attrs.length<=16777216) (hv:RSl w 1 v D.length (strsV D)) (hc:D.length<=1000):
 Calls prog 28 #[.agg (cellsN x).toArray,v] w λe w'=>e= .returned (.string (str (attrFst x.attrs D)))/\Ext w w':=by
 obtain ⟨k,s,n,al,l,ks,kids,t,a⟩:=x;simp only[Nc.al,Nc.attrs,Nc.ks] at h S hn;obtain ⟨A,c,rfl, -, -⟩:=h.form;obtain ⟨B,m,d,rfl⟩:=S;obtain ⟨_,VA,vc,rfl, -, -, -, -⟩:=id hv;simp only[cellsN,Nc.attrs];obtain ⟨R,X⟩:∃R,attrFst l D=R:=⟨_,rfl⟩;rw[X];have HR:Hid (attrFst l (D.drop 0)=R):=X;clear X;have M:=(Ext.refl w).alloc (.cells #[nI (k:Nat),.string (str s),.string (str n),.slice A l.length c,.slice B m d,.string (str t),nI (a:Nat)] 25);go_enter func28,ntmps28;go_wp2;go_loopw [11] (λu wr=>∃j:Nat,j<=D.length/\u=nI j/\Hid (attrFst l (D.drop j)=R)/\Ext (w.alloc (.cells #[nI (k:Nat),.string (str s),.string (str n),.slice A l.length c,.slice B m d,.string (str t),nI (a:Nat)] 25)) wr) (λu _=>D.length - (intOf u).toNat)
 case atStart=>exact ⟨0,Zh _,rfl,HR,Ext.refl _⟩
 case round=>
  obtain ⟨j,hj,rfl,U,H⟩:=hrel;by_cases K:j<D.length
  ·obtain ⟨ad,rfl,Y⟩:=(RSl.ext hv (M.trans H)).at1 j (.string (str D[j])) (by unfold strsV;rw[Ys,Zj K];rfl);have ha:(0:Int)<=(j:Int):=(by omega);have hb:(j:Int)<(D.length:Int):=(by omega);have J:=U.out;have b0:=H.boxed 0 _ rfl;have b1:=H.boxed 1 _ rfl;have b2:=H.boxed 2 _ rfl;have b3:=H.boxed 3 _ rfl;have b4:=H.boxed 4 _ rfl;have b5:=H.boxed 5 _ rfl;have b6:=H.boxed 6 _ rfl;have F:=Zc2 (.mk k s n (.slice A l.length c) l (.slice B m d) kids t a) [] D[j] wr (RAts.ext h (M.trans H)) ⟨_,_,_,rfl⟩ hn;simp only[cellsN,Nc.attrs,U3] at F;cases hq:attrN l [] D[j] with
   |some v=>
    rw[ZiH K hq] at J;subst J;rw[hq] at F;unfold lookAns at F;dsimp only at F;have V:=gd F;clear U hq F;generalize D[j]=nm at*
    go_wp2_with (first|(go_at_call 31;(with_reducible refine Za V.out ?_);rintro e w' ⟨rfl,Q⟩))
    go_ret;exact ⟨rfl,(M.trans H).trans Q⟩
   |none=>
    rw[ZgP K hq] at J;rw[hq] at F;unfold lookAns at F;dsimp only at F;have V:=gd F;have HN:=gd J;clear U hq F J;generalize D[j]=nm at*
    go_wp2_with (first|(go_at_call 31;(with_reducible refine Za V.out ?_);rintro e w' ⟨rfl,Q⟩))
    go_roundw
    case rel=>exact ⟨j+1,K,by go_num,HN,H.trans Q⟩
    case measure=>simp[intOf];omega
  ·have Z:j=D.length:=(by omega);have I:=U.out;rw[Zw (by omega)] at I;unfold attrFst at I;subst I;clear U;subst Z;go_wp2;go_ret;exact ⟨rfl,M.trans H⟩
end Go.Proofs.YtnlafkgkcnenfaaGreatDoor
