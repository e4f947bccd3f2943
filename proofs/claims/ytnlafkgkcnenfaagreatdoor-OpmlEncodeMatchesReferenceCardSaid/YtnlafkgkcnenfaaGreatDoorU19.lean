/- Parts of the proof: contracts and plain laws. -/
import Derived.Test.YtnlafkgkcnenfaaGreatDoorU18
namespace Go.Proofs.YtnlafkgkcnenfaaGreatDoor
open Go Go.RowKit _root_.Go.Proofs.Tryz
set_option linter.unusedVariables false
set_option linter.unusedSimpArgs false
set_option maxRecDepth 100000
set_option maxHeartbeats 16000000
theorem WcF.setCell {w:Wq} {B:Nat} {y:Fc} (h:WcF w B y) (p:Addr) (x:Value):WcF (w.setCell p x) B y:=⟨h.1.setCell p x,h.2.setCell p x⟩
def LatF:Prop:=∀(a b:Fc) (w:Wq),Env w->fok a.f->fok b.f->RStrs w a.p a.f.path->RStrs w b.p b.f.path->isSl a.es->isSl b.es->Calls prog 67 #[.agg (cellsC a).toArray,.agg (cellsC b).toArray] w
 λx w'=>∃p',x= .returned (.agg (fCells p' sN (laterF a.f b.f)).toArray)/\w'.ownsRow w.heap.size 9 1 p' (laterF a.f b.f).path.length ((laterF a.f b.f).path.map Value.string)/\Ext w w'
def distF (l:List Fd):Prop:=(l.map λf=>(collF f).id).Pairwise (· ≠ ·)
theorem Zkq:∀{l:List Fd},l.length<=1->distF l
 | [],_=>List.Pairwise.nil
 | [_],_=>List.pairwise_singleton _ _
 |_::_::_,h=>by simp at h
theorem ZmO (l:List Fc) (s:ByteArray) (h:(l.map λy=>y.f.id).Pairwise (· ≠ ·)):(grpC l s).length<=1:=by
 have D:(grpC l s).Pairwise λa b=>a.f.id≠b.f.id:=(List.pairwise_map.1 h).filter _;have A:∀y∈grpC l s,y.f.id=s:=λy F=>YK (YW.1 F).2
 match grpC l s,D,A with
 | [],_,_=>exact Zj _
 | [_],_,_=>exact Zc _
 |a::b::t,D,A=>exact absurd ((A a (by simp)).trans (A b (by simp)).symm) ((XH.1 D).1 b (by simp))
theorem ZdU:∀{l:List Fc} {x:Fc},x∈l->x.f.ents.length<=allE l
 |y::t,x,h=>by
  have e:allE (y::t)=y.f.ents.length+allE t:=by unfold allE;rw[Zw,YM]
  rw[e]
  rcases ZH.1 h with rfl|h
  ·omega
  ·have:=ZdU h
   omega
theorem Ze1 (v:Value) (l:List Fc) (w:Wq) (hE:Env w) (hr:RFcs w v l) (dC:∀x∈l,RdC w x) (hk:∀x∈l,fokS x.f) (hn:l.length<=1000000) (bp:allE l<=1000000) (di:allE l<=1\/LatE) (hQ:distF (l.map Fc.f)\/LatF):
 Calls prog 34 #[v] w λe w'=>∃(v':Value) (lc:List Fc),e= .returned (.tuple #[.agg #[v'],nI (errFs (l.map Fc.f):Nat)])/\lc.map Fc.f=normA (l.map Fc.f)/\HFs w' w.heap.size v' lc/\(∀y∈lc,WcF w' w.heap.size y)/\Ext w w':=by
 obtain ⟨i0,dt,fa,dS,dT⟩:=YH Zeh;obtain ⟨i1,br,bJ,bK,bL⟩:=YH IN;obtain ⟨A,c,rfl,bs,bo⟩:=hr.form;have d7:=gd dC;have HK:=gd hk;have f9:=gd di;have gE:=gd hQ;obtain ⟨EF,fF⟩:∃n,errFs (l.map Fc.f)=n:=⟨_,rfl⟩;obtain ⟨NF,fI⟩:∃n,normA (l.map Fc.f)=n:=⟨_,rfl⟩;simp only[fF,fI];have f4:=gd fF;have fe:=gd fI;clear bs bo dC hk fF fI di hQ;go_enter func34,ntmps34;go_wp2;go_loopw [4,18] (λo i wr=>∃(k:Nat) (lc:List Fc),k<=l.length/\i=nI k/\HFs wr (w.heap.size+1) o lc/\Hid (lc.map Fc.f=(l.take k).map λx=>collF x.f)/\Hid (∀x∈l.take k,errF x.f=0)/\Hid (∀y∈lc,awayC y (some w.heap.size)/\WcF wr w.heap.size y)/\Ext (w.alloc (.cells #[sN] 31)) wr) (λ_ i _=>l.length - (intOf i).toNat)
 case atStart=>exact ⟨0,[],Zj _,rfl,HFs.nil _ _,gd rfl,gd (by simp),gd (by simp),Ext.refl _⟩
 case round=>
  obtain ⟨k,lc,hk,rfl,hH,ht,hW,gm,hx⟩:=hrel;have g9:Ext w wr:=((Ext.refl w).alloc _).trans hx;by_cases hw:k<l.length
  ·obtain ⟨ad,c',hv,hD⟩:=(hr.ext g9).at hw;injection hv with gT hv2 hv3;subst gT;clear hv2 hv3;have ha:l[k]∈l:=ZL hw;have hA:=d7.out _ ha;have fP:=HK.out _ ha;have fM:l[k].f.ents.length<=1\/LatE:=f9.out.imp (Zp (ZdU ha)) id;have hg:=Zr hw;have go:=Zgn (l.map Fc.f) k (by rw[Zq];exact hw) (λf hf=>by
    rw[<-List.map_take] at hf;obtain ⟨y,K,rfl⟩:=ZU.1 hf;exact hW.out y K)
   rw[Xn] at go;obtain ⟨x,dK⟩:∃x,l[k]=x:=⟨_,rfl⟩;rw[dK] at hD hA fP hg go fM;have gu:=gd (λ(w':Wq) (h:Ext w w')=>Zdo x w' (hE.ext h) fP (hA.ext h) fM);clear fM;have bC:=hA.sl;have fk:lc.length=k:=(by have:=Zz List.length ht.out;rw[Zq,Zq,ZM] at this;omega);have du:(0:Int)<=(k:Int):=om;have dv:(k:Int)<(l.length:Int):=om;have g0:=gd hg;have fc:=gd go;have HH:=gd hH;have HX:=gd hx;have hc:=gd g9;have gs:Hid ((lc.length+1)*104<=140737488355328):=gd om;have gt:Hid (lc.length+1<=maxLen):=gd (by unfold maxLen;omega);have hws:=g9.size;have dJ:=hx.size;rw[Zu] at dJ;clear dK hg go hA fP ha hH;obtain ⟨E,fH⟩:∃E,errF x.f=E:=⟨_,rfl⟩;rw[fH] at gu fc;have f6:=gd fH;obtain ⟨N,hN⟩:∃N,normF x.f=N:=⟨_,rfl⟩;rw[hN] at gu;have HN:=gd hN;clear hN fH;obtain ⟨xp,bP,⟨hO,gh,I,Q,ho,V⟩⟩:=x;obtain ⟨⟨xA,xn,xc,gV⟩,⟨xB,xm,xd,g8⟩⟩:=bC;simp only at gV g8;subst gV g8;obtain ⟨a0,a1,a2,a3,a4,a5⟩:=hD;simp only at a0 a1 a2 a3 a4 a5;unfold cellsC fCells at gu;dsimp only at gu;by_cases h0:E=0
   ·subst h0
    go_wp2_with (first|(go_at_call 63;have D:=gu.out _ (hc.out.trans ((Ext.refl wr).alloc (.cells #[.slice xA xn xc,.string gh,.string I,.string Q,nI ho,.slice xB xm xd] 55)));refine Za D ?_;clear D;rintro e w2 ⟨y,rfl,gX,gC,fX,dP,fW⟩;have h8:=gC.sl;obtain ⟨yp,dU,yf⟩:=y;obtain ⟨⟨yA,yn,yc,h7⟩,⟨yB,ym,yd,h6⟩⟩:=h8;simp only at h7 h6;subst h7 h6;have gY:yf=N:=gX;clear gX;subst gY;have hh:=((Ext.refl wr).alloc (.cells #[.slice xA xn xc,.string gh,.string I,.string Q,nI ho,.slice xB xm xd] 55)).trans fW;have fw:=gd (HH.out.ext hh);have b3:=hh.size)|(at_builtin;refine ZO _ rfl (.tmp 31) (.tmp 33) _ rfl (w.heap.size+1) 55 i0 _ 6 104 underlying29 dt fa dS dT rfl (by decide) _ lc.length (flatC lc) rfl ((Ya fw.out.row ((Ext.refl _).alloc _)).alloc _) _ 1 (cellsC ⟨.slice yA yn yc,.slice yB ym yd,yf⟩) rfl (Jb (e:=55) (fr:=(0,0)) (cs:=cellsC ⟨.slice yA yn yc,.slice yB ym yd,yf⟩) (YS _ _ _) rfl (by decide)) (Jv gC.sl) gt.out gs.out ?_ ?_;(simp;omega);intro v3 w3 hF g3 dn))
    go_roundw
    case rel=>
     have dL:yf=collF ⟨hO,gh,I,Q,ho,V⟩:=(by rw[<-HN.out];unfold normF;rw[Zi f6.out]);have hT:=g0.out;have gc:awayC ⟨.slice yA yn yc,.slice yB ym yd,yf⟩ _:=ZdF gC λq hq=>fX q (by have:=(HH.out.row.lt q hq).2;simp;omega);refine ⟨k+1,lc++ [⟨.slice yA yn yc,.slice yB ym yd,yf⟩],hw,by go_num,HFs.snoc (fw.out.ext (((Ext.refl _).alloc _).alloc _)) ((gC.ext ((Ext.refl _).alloc _)).ext ((Ext.refl _).alloc _)) gc hF g3 dn,gd ?_,gd λz D=> ?_,gd λz D=> ?_,?_⟩
     ·rw[hT,ZS,ZS,ht.out,Zw,Z2,Zw,Z2];exact Zz (λf=>_++ [f]) dL
     ·rw[hT] at D;rcases Zs.1 D with D|D
      ·exact hW.out z D
      ·rw[Zo.1 D];exact f6.out
     ·rcases Zs.1 D with D|D
      ·exact ⟨(gm.out z D).1,((gm.out z D).2.ext ((hh.alloc _).alloc _)).grown g3 (HH.out.away z D)⟩
      ·rw[Zo.1 D];exact ⟨fX _ (by rw[Zu];omega),((dP.ext (((Ext.refl _).alloc _).alloc _)).grown g3 gc).mono (by rw[Zu];omega)⟩
     ·exact Ext.app (((HX.out.trans hh).alloc _).alloc _) g3 ((fw.out.row.ext ((Ext.refl _).alloc _)).ext ((Ext.refl _).alloc _)) (by rw[Zu];exact Zc _)
    case measure=>simp[intOf];omega
   ·have hb:((E:Int) !=0)=true:=(by simp;omega);have he:=fc.out h0;have dZ:=gd h0;have fL:=f4.out.symm.trans he;subst fL;have d0:=gd he;clear he h0
    go_wp2_with (first|(go_at_call 63;have D:=gu.out _ (hc.out.trans ((Ext.refl wr).alloc (.cells #[.slice xA xn xc,.string gh,.string I,.string Q,nI ho,.slice xB xm xd] 55)));refine Za D ?_;clear D;rintro e w2 ⟨y,rfl,gX,gC,fX,dP,fW⟩;have h8:=gC.sl;obtain ⟨yp,dU,yf⟩:=y;obtain ⟨⟨yA,yn,yc,h7⟩,⟨yB,ym,yd,h6⟩⟩:=h8;simp only at h7 h6;subst h7 h6;have gY:yf=N:=gX;clear gX;subst gY;have hh:=((Ext.refl wr).alloc (.cells #[.slice xA xn xc,.string gh,.string I,.string Q,nI ho,.slice xB xm xd] 55)).trans fW;have fq:=((HX.out.trans hh).alloc (.cells (cellsC ⟨.slice yA yn yc,.slice yB ym yd,yf⟩).toArray 55)).heap (Zg w _))|(refine Zf rfl 31 (.tmp 2) (.tmp 29) rfl w.heap.size _ rfl rfl _ _ fq Xl rfl GB ?_))
    ((try simp only[Exit.inBlock,Exit.then]);refine ZD (Yn rfl _ _ _ _ _ _ _ rfl (ZF _ _ _ _ _ _ fq) underlying31 rfl Xl) rfl ?_);refine ⟨sN,[],rfl,?_,HFs.nil _ _,by simp,((hc.out.trans hh).alloc _).setRow (Zc _) _⟩;rw[<-fe.out];unfold normA;rw[d0.out,Ze dZ.out];rfl
  ·have fO:k=l.length:=om;subst fO;rw[ZQ (Zc _)] at ht hW;have gK:errFs (l.map Fc.f)=0:=QD.2 λf hf=>(by obtain ⟨y,K,rfl⟩:=ZU.1 hf;exact hW.out y K);have ge:normA (l.map Fc.f)=ordF.canon (lc.map Fc.f):=(by unfold normA;rw[Zi gK,ht.out,JR];rfl);have fL:=f4.out.symm.trans gK;have bw:=fe.out.symm.trans ge;subst fL bw;have ha:∀y∈lc,∃x∈l,y.f=collF x.f:=(by intro y K;have:y.f∈lc.map Fc.f:=ZU.2 ⟨y,K,rfl⟩;rw[ht.out] at this;obtain ⟨x,hx,e⟩:=ZU.1 this;exact ⟨x,hx,e.symm⟩);have hB:Hid (∀y∈lc,fokS y.f):=gd λy K=>(by obtain ⟨x,hx,e⟩:=ha y K;rw[e];exact Zd5 (HK.out x hx));have dX:Hid (∀y∈lc,ordE.canon y.f.ents=y.f.ents):=gd λy K=>(by obtain ⟨x,hx,e⟩:=ha y K;rw[e];exact ordE.canon_canon _);have gb:allE lc<=allE l:=(by rw[Zmi lc _ ht.out];exact Ei l);have hU:allE lc<=1000000:=Zp gb bp;have f1:=gd hU;have ft:=gd gb;have d5:Hid (lc.length<=l.length):=gd (by
    have:=Zz List.length ht.out;rw[Zq,Zq] at this;omega)
   have dY:Hid ((lc.map λy=>y.f.id).Pairwise (· ≠ ·)\/LatF):=gd (gE.out.imp (λh=>by
    unfold distF at h;have e:(lc.map λy=>y.f.id)=(l.map Fc.f).map λf=>(collF f).id:=(by have:=Zz (List.map Fd.id) ht.out;rw[JR,JR] at this;rw[JR];exact this);rw[e];exact h) id)
   clear gb;have fk:lc.length<=1000000:=(by have:=Zz List.length ht.out;rw[Zq,Zq] at this;omega);clear gK ge ha ht hW hU;obtain ⟨U,bH⟩:∃U:Wq,U=wr:=⟨_,rfl⟩;subst bH;have f8:=gd (ZgF _ lc (U.alloc (.cells #[sN] 31)) (hH.row.reads.ext ((Ext.refl _).alloc _)) (λy K=>(hH.rd y K).sl) (λy K=>by have:=(hB.out y K).1.2;omega) fk);have gk:=gd hH.rd;have HX:=gd hx;have hc:=gd g9;have dr:=ZaJ lc;have d2:=gd dr;clear hH dr
   go_wp2_with (go_at_call 64;have D:=f8.out;refine Za D ?_;clear D;rintro e w1 ⟨v1,gv,rfl,hG,gU⟩;obtain ⟨A1,c1,gT⟩:=hG.form;subst gT)
   have ds:=hG.len;have b2:gv.length<=1000000:=(by have:=d2.out;omega);have dl:U.heap.size<w1.heap.size:=(by have:=gU.size;rw[Zu] at this;omega);have c0:=gU.boxed 0 sN rfl;have f0:=gU.boxedF 0;have HG:=gd hG;have fv:=gd ds;have fB:=gd gU;have f3:=gd c0;have d1:=gd f0;have fA:Hid (∀o:Value,(w1.setCell ⟨U.heap.size,0,none⟩ o).heap.size=w1.heap.size):=gd λo=>(by simp[World.setCell]);have h9:Hid (∀(o:Value) (wr:Wq),Ext (w1.setCell ⟨U.heap.size,0,none⟩ o) wr->wr.cell? ⟨U.heap.size,0,none⟩=some o/\wr.frozen? ⟨U.heap.size,0,none⟩=false):=gd λo wr h=>
    ⟨h.cell (KJ _ _ _ f3.out),(JP h (by rw[fA.out];exact dl)).trans (by rw[XX];exact d1.out)⟩
   have ff:Hid (∀(o:Value) (wr:Wq),Ext (w1.setCell ⟨U.heap.size,0,none⟩ o) wr->∀y∈lc,RdC wr y):=gd λo wr h y K=>
    (((gk.out y K).ext (((Ext.refl _).alloc _).trans fB.out)).grown (Yw _ _ _) (GX (gk.out y K) (Zc _))).ext h
   have d9:Hid (∀(o:Value) (wr:Wq),Ext (w1.setCell ⟨U.heap.size,0,none⟩ o) wr->∀y∈lc,WcF wr w.heap.size y):=gd λo wr h y K=>
    (((gm.out y K).2.ext (((Ext.refl _).alloc _).trans fB.out)).grown (Yw _ _ _) (GX (gk.out y K) (Zc _))).ext h
   have d3:Hid (∀(o:Value) (wr:Wq),Ext (w1.setCell ⟨U.heap.size,0,none⟩ o) wr->GrpsC wr (U.alloc (.cells #[sN] 31)).heap.size (.slice A1 gv.length c1) lc (firstsC lc) gv):=gd λo wr h=>
    (HG.out.kept (Yw _ _ _) (by rw[Zu];exact Yy _)).ext h
   have gG:Hid (∀(o:Value) (wr:Wq),Ext (w1.setCell ⟨U.heap.size,0,none⟩ o) wr->Ext U wr):=gd λo wr h=>
    ((((Ext.refl U).alloc _).trans fB.out).setCell (Zc _) _).trans h
   clear hG ds gU c0 f0;go_loopw [39] (λi wr=>∃(k:Nat) (o:Value) (rs:List Fc),k<=gv.length/\i=nI k/\HFs wr w1.heap.size o rs/\Hid (rs.map Fc.f=((firstsC lc).take k).map (jF (lc.map Fc.f)))/\Hid (∀y∈rs,awayC y (some U.heap.size)/\awayC y (some w.heap.size)/\fok y.f)/\Hid (∀y∈rs,WcF wr w.heap.size y)/\Ext (w1.setCell ⟨U.heap.size,0,none⟩ o) wr) (λi _=>gv.length - (intOf i).toNat)
   case atStart=>exact ⟨0,sN,[],Zj _,rfl,HFs.nil _ _,gd rfl,gd (by simp),gd (by simp),by rw[ZfM _ _ _ _ f3.out];exact Ext.refl _⟩
   case round=>
    obtain ⟨k,o,rs,hk,rfl,hH,gQ,gc,dG,hx⟩:=hrel;by_cases hw:k<gv.length
    ·have gH:=d3.out o wr hx;have g5:k<(firstsC lc).length:=(by rw[<-fv.out];exact hw);obtain ⟨g,cap,hv,_,_⟩:=gH.row.form om;injection hv with gT hv2 hv3;subst gT;have bq:wr.cell? ⟨g,k,none⟩=some gv[k]:=(by rw[hv3] at gH;rw[gH.row.cellAt k om];exact Zh hw);have gA:=gH.each k (firstsC lc)[k] gv[k] (Zh g5) (Zh hw);obtain ⟨x,t,Z⟩:=ZkT (ZL g5);rw[Z] at gA;have h5:∀y∈x::t,y∈lc:=λy K=>(by rw[<-Z] at K;exact (YW.1 K).1);have dw:=Zph Z (dX.out x (h5 x (by simp)));have hg:((firstsC lc).take (k+1)).map (jF (lc.map Fc.f))=((firstsC lc).take k).map (jF (lc.map Fc.f))++ [jF (lc.map Fc.f) (firstsC lc)[k]]:=(by rw[Zr g5,ZS];rfl);rw[dw] at hg;have hV:(enF x t).length<=1000000:=(by rw[IF,<-Z];exact Zp (Gg _ lc) f1.out);have gL:Hid ((enF x t).length<=1\/LatE):=gd (f9.out.imp (Zp (by
      rw[IF,<-Z];exact Zp (Gg _ lc) ft.out)) id)
     have fo:t.length+1<=lc.length:=(by have:=ZgG lc (firstsC lc)[k];rw[Z] at this;simpa using this);have b4:t.length+1<=1000000:=om;have df:Hid (t.length=0\/LatF):=gd (dY.out.imp (λh=>by
      have:=ZmO lc (firstsC lc)[k] h;rw[Z] at this;simpa using this) id)
     have bS:=gd fo;clear fo;have g0:=gd hg;have J:=gd h5;obtain ⟨u,hu⟩:∃u,gv[k]=u:=⟨_,rfl⟩;rw[hu] at gA bq;obtain ⟨A2,c2,bD,_,_⟩:=gA.reads.form;subst bD;have fm:RFcs wr (.slice A2 (t.length+1) c2) (x::t):=gA.reads;obtain ⟨v2,bV,fJ⟩:=ZpV fm;obtain ⟨ad,c3,bE,hD⟩:=gA.reads.at (k:=0) (by simp);injection bE with hv5 hv6 fS;subst hv5;rw[Xj] at hD;have gJ:ad.add 0=ad:=add_zero ad;rw[gJ] at hD;obtain ⟨a0,a1,a2,a3,a4,a5⟩:=hD;simp only[JQ] at a0 a1 a2 a3 a4 a5;obtain ⟨A3,c4,bF,_,_⟩:=fJ.form;subst bF;have hA:=ff.out o wr hx x (h5 x (by simp));have bx:=hA.1.form;have bz:=hA.2.form;have fx:=gd hA;have d6:=gd fJ;have HH:=gd hH;have hC:=gd hx;have bX:=gd hu;have bI:=hx.size;rw[fA.out] at bI;have g8:x.f.ents.length<=1000000:=(by have:=(hB.out x (h5 x (by simp))).2.1;exact this);have fu:=gd (λ(w':Wq) (h:Ext wr w')=>Zf5 x.es x.f.ents.length (flatE x.f.ents) w' (hA.2.ext h) (Zb3 _) om);clear gH hv2 hv3 hv6 fS Z dw hg gA fm h5 fJ hu gJ g5 hA hH hx;obtain ⟨X,hX⟩:∃X,X=x:=⟨_,rfl⟩;rw[<-hX] at g0 J fx fu hV gL g8;obtain ⟨xp,bP,⟨hO,gh,I,Q,ho,V⟩⟩:=x;obtain ⟨xA,xc,gV,_,_⟩:=bx;obtain ⟨xB,xd,fp,_,_⟩:=bz;simp only at gV fp a0 a1 a2 a3 a4 a5;subst gV fp;obtain ⟨S,dI⟩:∃S:Wq,S=wr:=⟨_,rfl⟩;subst dI;have bb:=gd hX;have dj:X.es= .slice xB V.length xd:=(by rw[hX]);have bl:X.f.ents.length=V.length:=(by rw[hX]);rw[dj] at fu;clear hX dj bl
     go_wp2_with (go_at_call 66;have D:=fu.out _ ((Ext.refl S).alloc (.cells #[.slice xA hO.length xc,.string gh,.string I,.string Q,nI ho,.slice xB V.length xd] 55));refine Za D ?_;clear D;rintro e w3 ⟨v3,rfl,hF,gB⟩;have gF:=gd hF;have ba:=gd gB;clear hF gB)
     go_loopw [13,52] (λev i wr=>∃(m:Nat) (pz ez:Value),m<=t.length/\i=nI m/\Ext (S.alloc (.cells (fCells pz ez (hdF X (t.take m))).toArray 55)) wr/\wr.ownsRow (S.heap.size+1) 76 5 ev (enF X (t.take m)).length (flatE (enF X (t.take m)))/\RStrs wr pz (hdF X (t.take m)).path/\isSl ez/\Hid ((hdF X (t.take m)).path= []\/pz.ownBlock≠ev.ownBlock)/\Hid ((hdF X (t.take m)).path= []\/∀q,pz.ownBlock=some q->(q<U.heap.size/\q≠w.heap.size)\/S.heap.size<q)/\Hid (WrV wr w.heap.size pz (hdF X (t.take m)).path.length)) (λ_ i _=>t.length - (intOf i).toNat)
     case atStart=>
      have gB:=ba.out;have gI:=bb.out;have dA:=gk.out X (J.out X (by simp));refine ⟨0,.slice xA hO.length xc,.slice xB V.length xd,Zj _,rfl,?_,?_,?_,⟨_,_,_,rfl⟩,gd ?_,gd ?_,gd ?_⟩
      ·rw[gI];exact gB
      ·have:=X4 gF.out (B':=S.heap.size+1) (by rw[Zu];exact Zc _);simpa [enF] using this
      ·have:=fx.out.1.ext (((Ext.refl _).alloc _).trans gB);rw[gI] at this|-;exact this
      ·have:=(ZdG fx.out (r:=v3.ownBlock) (λq hq=>by have:=(gF.out.lt q hq).1;rw[Zu] at this;omega)).1;rw[gI] at this|-;exact this
      ·cases hp:X.f.path with
       |nil=>exact Or.inl hp
       |cons s r=>
        refine Or.inr λq hq=>Or.inl ?_;obtain ⟨q',h1,h2⟩:=RSl.old dA.1 (by rw[hp];simp);have h3:=(gm.out X (J.out X (by simp))).1.1;rw[hp] at h3;rw[h1] at h3;rw[gI] at h1;rw[h1] at hq;injection hq with hq;subst hq;refine ⟨h2,λe=> ?_⟩;rcases h3 with h3|h3
        ·cases h3
        ·exact h3 (by rw[e])
      ·have:=((d9.out o S hC.out X (J.out X (by simp))).1).ext (((Ext.refl _).alloc _).trans gB);rw[gI] at this|-;exact this
     case round=>
      obtain ⟨m,pz,ez,hm,rfl,hL,hd,hI,fN,gn,g2,fV⟩:=hrel;have hl:Ext S wr:=((Ext.refl S).alloc _).trans hL;have fU:=hL.size;rw[Zu] at fU;by_cases g6:m<t.length
      ·obtain ⟨bZ,c5,fT,hD⟩:=(d6.out.ext hl).at g6;injection fT with fT hv10 hv11;subst fT;clear hv10 hv11;have dF:=Zr g6;have hM:t[m]∈lc:=J.out _ (Zn _ (ZL g6));have gz:=ZmR X (t.take m) t[m];have gx:=Zmx X (t.take m) t[m];rw[<-dF] at gz gx;have ga:fok (hdF X (t.take m)):=ZjR X _ (hB.out X (J.out X (by simp))).1 λy K=>(hB.out y (J.out y (Zn _ (Y4 K)))).1;have fl:(enF X (t.take (m+1))).length<=1000000:=(by refine Zp ?_ hV;rw[IF,IF];unfold allE;simp only[Zw,YM];have:=Yz (m+1) t;have h2:(t.map λx=>x.f.ents.length).sum=((t.take (m+1)).map λx=>x.f.ents.length).sum+((t.drop (m+1)).map λx=>x.f.ents.length).sum:=(by rw[<-ZpW,<-ZS,this]);omega);obtain ⟨y,dR⟩:∃y,t[m]=y:=⟨_,rfl⟩;rw[dR] at hD hM gz gx;obtain ⟨H,hH⟩:∃H,hdF X (t.take m)=H:=⟨_,rfl⟩;obtain ⟨E,gw⟩:∃E,enF X (t.take m)=E:=⟨_,rfl⟩;rw[hH] at gz ga hL hI gn;rw[hH] at g2;rw[gw] at gx hd;rw[gx,Zb] at fl;have dM:=(hB.out y hM).1;have gS:=ff.out o S hC.out y hM;have gR:=gS.ext hl;have h8:=gR.sl;have hQ:=λ(w':Wq) (fE:Env w') (hp:RStrs w' pz H.path) (K:RStrs w' y.p y.f.path)=>(df.out.resolve_left om) ⟨pz,ez,H⟩ y w' fE ga dM hp K fN h8.2;obtain ⟨R,hR⟩:∃R,laterF H y.f=R:=⟨_,rfl⟩;dsimp only at hQ;simp only[hR] at hQ;rw[hR] at gz;have gD:=gd gz;have fd:=gd gx;have HR:=gd hR;have gj:=gd hd;have fC:=gd hL;have fz:=gd hI;have fy:=gd gR;have fg:=gd gS;have gl:=gd hl;have dN:=gR.1.form;have dO:=gR.2.form;have dq:=fN;have dB:=hI.form;have bj:Env S:=hE.ext (hc.out.trans (gG.out o S hC.out));have bn:S.heap.size+1<=wr.heap.size:=fU;have gs:Hid ((E.length+y.f.ents.length)*72<=140737488355328):=gd om;have gt:Hid (E.length+y.f.ents.length<=maxLen):=gd (by unfold maxLen;omega);clear gz gx hR hd hL hI gR gS ga dM fl dR hM hH gw dF hl fU;obtain ⟨Y,hY⟩:∃Y,Y=y:=⟨_,rfl⟩;rw[<-hY] at fd HR fy fg hQ gs gt;obtain ⟨yp,dU,⟨gi,bQ,fb,fZ,dV,hP⟩⟩:=y;obtain ⟨yA,yc,h7,_,_⟩:=dN;obtain ⟨yB,yd,h6,_,_⟩:=dO;obtain ⟨zA,zc,fR,_,_⟩:=dB;obtain ⟨eA,en,ec,gM⟩:=dq;obtain ⟨bc,bd,be,bf,bg,bh⟩:=hD;simp only at h7 h6 bc bd be bf bg bh;subst h7 h6 fR gM;have du:(0:Int)<=(m:Int):=om;have dv:(m:Int)<(t.length:Int):=om;have g1:Y.f.ents=hP:=(by rw[hY]);have fi:Y.es= .slice yB hP.length yd:=(by rw[hY]);have dk:Y.p= .slice yA gi.length yc:=(by rw[hY]);have fj:Y.f.path=gi:=(by rw[hY]);have fn:RSl wr 5 (.slice yB hP.length yd) Y.f.ents.length (flatE Y.f.ents):=(by have:=fy.out.2;rwa [fi] at this);have dc:=gd fn;have bY:=gd (V7 dk fj);have gE:=gd (λw' fE hp K=>by
        have:=hQ w' fE hp K;rw[hY] at this;exact this)
       clear fn fi g1 dk fj hQ hY;unfold cellsC fCells at gE;dsimp only at gE
       go_wp2_with (first|(at_builtin;refine ZO _ rfl (.tmp 56) (.tmp 58) _ rfl (S.heap.size+1) 76 i1 _ 5 72 underlying53 br bJ bK bL rfl (by decide) _ _ (flatE E) rfl (gj.out.alloc _) _ Y.f.ents.length (flatE Y.f.ents) rfl (dc.out.ext ((Ext.refl _).alloc _)) (Zb3 _) gt.out gs.out ?_ ?_;(simp;omega);intro v4 w4 gO gN bT;(have hJ:=Ext.app (fC.out.alloc _) gN (gj.out.alloc _) (by rw[Zu];exact Zc _));have e0:=hJ.boxed 0 (.slice zA H.path.length zc) rfl;have e1:=hJ.boxed 1 (.string H.id) rfl;have e2:=hJ.boxed 2 (.string H.title) rfl;have e3:=hJ.boxed 3 (.string H.link) rfl;have e4:=hJ.boxed 4 (nI H.upd) rfl;have e5:=hJ.boxed 5 (.slice eA en ec) rfl;have yk:∀(i:Nat) (v:Value),(#[.slice yA gi.length yc,.string bQ,.string fb,.string fZ,nI dV,.slice yB hP.length yd]:Array Value)[i]? =some v->w4.cell? ⟨wr.heap.size,i,none⟩=some v:=λi v hv=>gN.cell (Ext.boxed (t:=55) (fr:=(0,0)) (Ext.refl _) i v hv) (λe=>absurd (gj.out.lt _ e.symm).2 (Nat.lt_irrefl _));have y0:=yk 0 _ rfl;have y1:=yk 1 _ rfl;have y2:=yk 2 _ rfl;have y3:=yk 3 _ rfl;have y4:=yk 4 _ rfl;have y5:=yk 5 _ rfl;(clear yk))|(refine Zf rfl 55 (.tmp 12) (.tmp 62) rfl S.heap.size _ rfl rfl _ _ bm Jh rfl Zfv ?_)|(go_at_call 67;(have bM:RdC w4 Y:=(fy.out.ext ((Ext.refl _).alloc _)).grown gN (ZdG fg.out λq hq=>by have:=(gj.out.lt q hq).1;omega));(have bN:RStrs w4 (.slice zA H.path.length zc) H.path:=RSl.grown (fz.out.ext ((Ext.refl _).alloc _)) gN (gn.out.imp (λe=>by rw[e];rfl) λe=>e));have D:=gE.out w4 (bj.ext (((Ext.refl _).alloc _).trans hJ)) bN bM.1;refine Za D ?_;clear D;rintro e w5 ⟨p5,rfl,F,hK⟩;(obtain ⟨A5,fD,bA⟩:∃A c,p5= .slice A R.path.length c:=(by obtain ⟨A,c,e,_⟩:=(RSl.of_own F).2;exact ⟨A,c,e⟩));subst bA;have bm:=(hJ.trans hK).heap (Zg S _)))
       go_roundw
       case rel=>
        have fK:=F.lt;have bB:=gN.size;rw[Zu] at bB;refine ⟨m+1,.slice A5 R.path.length fD,sN,g6,by go_num,?_,?_,?_,⟨_,_,_,rfl⟩,gd ?_,gd ?_,gd ?_⟩
        ·rw[gD.out];exact ZbX (hJ.trans hK)
        ·rw[fd.out,Zb,Zd3];exact Jk (Ya gO hK) (Yy _) _
        ·rw[gD.out];exact RSl.grown (RSl.of_own F) (Yx _ _ _) (Or.inr λe=>by have:=(fK _ e).1;omega)
        ·rw[gD.out];rcases F.2 with ⟨h1,h2⟩|⟨q,cap,b0,h1,h2,_⟩
         ·exact Or.inl (Zm h2)
         ·refine Or.inr λe=> ?_;have e2:(Value.slice A5 R.path.length fD).ownBlock=some q:=(by rw[h1];rfl);rw[e2] at e;have:=(gO.lt q e.symm).2;omega
        ·rw[gD.out];refine Or.inr λq hq=>Or.inr ?_;have:=(fK q hq).1;omega
        ·rw[gD.out];have bv:w.heap.size<=w4.heap.size:=(by have h1:=hc.out.size;have h2:=(gG.out o S hC.out).size;omega);have D:WrV w5 w.heap.size (.slice A5 R.path.length fD) R.path.length:=(by have h:=WrV.own F;rw[Nat.mul_one] at h;exact h.mono bv);exact D.grown (Yx _ _ _) (Or.inr λe=>by have:=(fK _ e).1;omega)
       case measure=>simp[intOf];omega
      ·have bu:m=t.length:=om;subst bu;rw[ZQ (Zc _)] at hL hd hI gn g2 fV;have ga:fok (hdF X t):=ZjR X _ (hB.out X (J.out X (by simp))).1 λy K=>(hB.out y (J.out y (Zn _ K))).1;have fG:∀e∈enF X t,eok e:=Zom (hB.out X (J.out X (by simp))).2.2 λy K=>(hB.out y (J.out y (Zn _ K))).2.2;have hg:=g0.out;obtain ⟨H,hH⟩:∃H,hdF X t=H:=⟨_,rfl⟩;obtain ⟨E,gw⟩:∃E,enF X t=E:=⟨_,rfl⟩;rw[hH] at hL hI gn g2 ga fV;rw[gw] at hd fG hV gL;rw[hH,gw] at hg;have de:=gd hg;clear hg hH gw;obtain ⟨zA,zc,fR,_,_⟩:=hI.form;obtain ⟨eA,en,ec,gM⟩:=fN;subst fR gM;have dW:=gd (IB _ E wr (hE.ext (hc.out.trans ((gG.out o S hC.out).trans hl))) (RSl.of_own hd) fG hV gL.out);have hZ:rs.length=k:=(by have:=Zz List.length gQ.out;rw[Zq,Zq,ZM] at this;have:=fv.out;omega);have gs:Hid ((rs.length+1)*104<=140737488355328):=gd om;have gt:Hid (rs.length+1<=maxLen):=gd (by unfold maxLen;omega);have bR:=gd hZ;clear hZ;have fC:=gd hL;have gl:=gd hl;have fz:=gd hI;have dm:U.heap.size<S.heap.size:=om;obtain ⟨oA,oc,fQ,_,_⟩:=HH.out.row.reads.form;subst fQ;have d4:=gd ga;clear hL hl hI fG hV hd ga;have bU:U.heap.size≠S.heap.size:=om
       go_wp2_with (first|(go_at_call 68;have D:=dW.out;refine Za D ?_;clear D;rintro e w5 ⟨b1,rfl,F,hK⟩;obtain ⟨gf,gg,bO,_,_⟩:=F.reads.form;subst bO;have hi:=fC.out.trans hK;have e0:=hi.boxed 0 (.slice zA H.path.length zc) rfl;have e1:=hi.boxed 1 (.string H.id) rfl;have e2:=hi.boxed 2 (.string H.title) rfl;have e3:=hi.boxed 3 (.string H.link) rfl;have e4:=hi.boxed 4 (nI H.upd) rfl;have e5:=hi.boxed 5 (.slice eA en ec) rfl;have f5:=hi.boxedF 5;have ca:=h9.out _ w5 (hC.out.trans (gl.out.trans hK));obtain ⟨dh,bi⟩:=ca;have hj:Ext S (w5.setCell ⟨S.heap.size,5,none⟩ (.slice gf (ordE.canon E).length gg)):=Ext.setCell (gl.out.trans hK) (Zc _) _;have dD:=hj.size)|(at_builtin;refine ZO _ rfl (.tmp 68) (.tmp 70) _ rfl w1.heap.size 55 i0 _ 6 104 underlying29 dt fa dS dT rfl (by decide) _ rs.length (flatC rs) rfl ((Ya HH.out.row hj).alloc _) _ 1 (cellsC ⟨.slice zA H.path.length zc,.slice gf (ordE.canon E).length gg,withE H (ordE.canon E)⟩) rfl (Jb (e:=55) (fr:=(0,0)) (cs:=cellsC ⟨.slice zA H.path.length zc,.slice gf (ordE.canon E).length gg,withE H (ordE.canon E)⟩) (Zfj _ _ _ _) rfl (by decide)) (Jv ⟨⟨_,_,_,rfl⟩,⟨_,_,_,rfl⟩⟩) gt.out gs.out ?_ ?_;(simp[World.setCell] at dD|-;omega);intro v7 w7 gP gy dp;obtain ⟨g7,fh,fS,_⟩:=X6 gP (Zig _);subst fS;have c6:=h9.out _ _ (hC.out.trans (hj.alloc (.cells (cellsC ⟨.slice zA H.path.length zc,.slice gf (ordE.canon E).length gg,withE H (ordE.canon E)⟩).toArray 55)));(have ge:some U.heap.size≠(Value.slice oA rs.length oc).ownBlock:=λe=>by have:=(HH.out.row.lt _ e.symm).1;omega);have c7:=gy.cell c6.1 ge;(have f7:=(World.frozen?_of_block (a:=⟨U.heap.size,0,none⟩) (gy.block U.heap.size (by have:=dm;simp[World.setCell] at dD|-;omega) ge)).trans c6.2)))
       go_roundw
       case rel=>
        have dE:RStrs w5 (.slice zA H.path.length zc) H.path:=fz.out.ext hK;obtain ⟨Y,hY⟩:∃Y:Fc,Y=⟨.slice zA H.path.length zc,.slice gf (ordE.canon E).length gg,withE H (ordE.canon E)⟩:=⟨_,rfl⟩;have gZ:RdC w5 Y:=(by rw[hY];exact ⟨dE,F.reads⟩);have dy:=F.lt;have bG:=hc.out.size;have gr:∀q,(q=w.heap.size\/U.heap.size<=q)->q<=S.heap.size->awayC Y (some q):=by
         intro q h1 h2;rw[hY];refine ⟨?_,Or.inr λe=> ?_⟩
         ·rcases g2.out with h|h
          ·exact Or.inl h
          ·refine Or.inr λe=> ?_;rcases h q e with ⟨h3,h4⟩|h3
           ·rcases h1 with h1|h1
            ·exact h4 h1
            ·omega
           ·omega
         ·have:=(dy q e).1;omega
        have fY:=gZ.grown (Yw w5 ⟨S.heap.size,5,none⟩ (.slice gf (ordE.canon E).length gg)) (gr S.heap.size (Or.inr om) (Zc _));have gW:awayC Y (Value.slice oA rs.length oc).ownBlock:=ZdF gZ λq hq=>gr q (Or.inr (by have:=(HH.out.row.lt q hq).1;omega)) (by have:=(HH.out.row.lt q hq).2;omega);have hS:=HFs.snoc (x:=Y) (HH.out.ext (hj.alloc _)) (fY.ext ((Ext.refl _).alloc _)) gW (by rw[hY];exact gP) gy dp;have hU:∀z∈rs++ [Y],awayC z (some U.heap.size)/\awayC z (some w.heap.size)/\fok z.f:=by
         intro z D;rcases Zs.1 D with D|D
         ·exact gc.out z D
         ·rw[Zo.1 D];exact ⟨gr _ (Or.inr (Zc _)) om,gr _ (Or.inl rfl) om,by rw[hY];exact d4.out⟩
        have dQ:WcF w5 w.heap.size Y:=(by rw[hY];refine ⟨fV.out.ext hK,(WrV.own F).mono ?_⟩;have h1:=hc.out.size;have h2:=(gG.out _ S hC.out).size;have h3:=gl.out.size;omega);have dH:∀z∈rs++ [Y],WcF (w7.setCell ⟨U.heap.size,0,none⟩ (.slice (some ⟨g7,0,none⟩) (rs.length+1) fh)) w.heap.size z:=by
         intro z D;rcases Zs.1 D with D|D
         ·exact (((dG.out z D).ext (hj.alloc _)).grown gy (HH.out.away z D)).setCell _ _
         ·rw[Zo.1 D];exact (((dQ.setCell ⟨S.heap.size,5,none⟩ (.slice gf (ordE.canon E).length gg)).ext ((Ext.refl _).alloc _)).grown gy gW).setCell _ _
        refine ⟨k+1,.slice (some ⟨g7,0,none⟩) (rs.length+1) fh,rs++ [Y],hw,by go_num,HFs.setCell hS dl (λz D=>(hU z D).1),gd ?_,gd hU,gd dH,Zfd (Ext.app (hC.out.trans (hj.alloc _)) gy (Ya HH.out.row (hj.alloc _)) (by rw[fA.out];exact Zc _))⟩;rw[de.out,ZS,gQ.out,Zw,Z2,hY]
       case measure=>simp[intOf];omega
    ·have fO:k=gv.length:=om;subst fO;have dx:((firstsC lc).take gv.length).map (jF (lc.map Fc.f))=ordF.joined (lc.map Fc.f):=(by rw[ZQ (by rw[fv.out];exact Zc _),ZgW];rfl);have hZ:rs.length<=1000000:=(by have:=Zz List.length gQ.out;rw[Zq,Zq,ZM] at this;omega);have dd:=gd (gQ.out.trans dx);have d8:=gd (Zl1 o rs wr w1.heap.size hH (λy K=>by have:=(gc.out y K).2.2.2;omega) hZ);obtain ⟨oA,oc,fQ,_,_⟩:=hH.row.reads.form;subst fQ;obtain ⟨dh,bi⟩:=h9.out _ wr hx;have gq:=gG.out _ wr hx;have fa:=(HX.out.trans gq).heap (Zg w _);have bG:=hc.out.size;have gp:=hH.row.lt;have ge:some U.heap.size≠(Value.slice oA rs.length oc).ownBlock:=λe=>(by have:=(gp _ e.symm).1;omega);have dz:some w.heap.size≠(Value.slice oA rs.length oc).ownBlock:=λe=>(by have:=(gp _ e.symm).1;omega);have bW:=gq.size;have da:=gd gp;have f2:=gd hH.away;have dg:=gd gq;have bt:w.heap.size<wr.heap.size:=(by have:=HX.out.size;rw[Zu] at this;omega);clear dx hZ gQ hH hx gq gp
     go_wp2_with (first|(go_at_call 69;have D:=d8.out;refine Za D ?_;clear D;rintro e w9 ⟨rfl,l',hp,hs,bk,g4⟩;have c9:=g4.cell dh ge;have z9:=(g4.block w.heap.size bt dz).trans fa)|(refine Zf rfl 31 (.tmp 2) (.tmp 77) rfl w.heap.size _ rfl rfl _ _ z9 Xl rfl GB ?_))
     ((try simp only[Exit.inBlock,Exit.then]);refine ZD (Yn rfl _ _ _ _ #[.slice oA rs.length oc] _ _ rfl (ZF _ _ _ #[.slice oA rs.length oc] _ _ z9) underlying31 rfl Xl) rfl ?_);refine ⟨.slice oA rs.length oc,l',rfl,?_,HFs.setRow bk om om (λz D=>(gc.out z (hp.mem_iff.1 D)).2.1) _,λz D=>((dG.out z (hp.mem_iff.1 D)).grown g4 (f2.out z (hp.mem_iff.1 D))).grown (Yx _ _ _) (gc.out z (hp.mem_iff.1 D)).2.1,?_⟩
     ·exact ordF.sorted_joined (lc.map Fc.f) (l'.map Fc.f) (by rw[<-dd.out];exact hp.map _) (List.pairwise_map.2 hs)
     ·exact (Ext.grown' (B:=0) (hc.out.trans dg.out) g4 λq hq=>by have:=(da.out q hq).1;omega).setRow (Zc _) _
end Go.Proofs.YtnlafkgkcnenfaaGreatDoor
