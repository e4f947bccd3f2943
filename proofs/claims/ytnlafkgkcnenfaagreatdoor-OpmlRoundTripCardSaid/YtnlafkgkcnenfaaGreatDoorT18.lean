/- Parts of the proof: contracts and plain laws. -/
import Derived.Test.YtnlafkgkcnenfaaGreatDoorT17
namespace Go.Proofs.YtnlafkgkcnenfaaGreatDoor
open Go Go.RowKit Go.Joins Tryz
set_option linter.unusedVariables false
set_option linter.unusedSimpArgs false
set_option linter.unusedSimpArgs false
set_option maxRecDepth 100000
set_option maxHeartbeats 16000000
section
variable {path:List ByteArray}
structure VisS (w:Wq) (fb vb:Nat) (u:Value) (O:List Fc):Prop where
 fbk:w.heap[fb]? =some (.cells #[u] 29)
 vbk:w.heap[vb]? =some (.cells #[.func (.func 30) #[] #[.pointer (some ⟨fb,0,none⟩),.pointer (some ⟨vb,0,none⟩)]] 63)
 hf:HFs w (vb+1) u O
 lt:fb<vb
 far:∀x∈O,awayC x (some fb)
section
variable {w w' w5:World} {fb vb:Nat} {u u':Value} {O O':List Fc}
theorem VisS.ext (h:VisS w fb vb u O) (A:Ext w w'):VisS w' fb vb u O:=⟨A.heap h.fbk,A.heap h.vbk,h.hf.ext A,h.lt,h.far⟩
theorem VisS.row_ne (h:VisS w fb vb u O) {k:Nat} (A:k<=vb):u.ownBlock≠some k:=λe=>by
 have:=(h.hf.row.lt k e).1;omega
theorem VisS.cell (h:VisS w fb vb u O):w.cell? ⟨fb,0,none⟩=some u/\w.frozen? ⟨fb,0,none⟩=false/\w.cell? ⟨vb,0,none⟩=some (.func (.func 30) #[] #[.pointer (some ⟨fb,0,none⟩),.pointer (some ⟨vb,0,none⟩)]):=by
 refine ⟨?_,YN h.fbk 0,?_⟩
 ·rw[Jl h.fbk];rfl
 ·rw[Jl h.vbk];rfl
theorem VisS.store (h:VisS w fb vb u O) (F:w.grownBy w5 u.ownBlock) (D:HFs w5 (vb+1) u' O') (A:∀x∈O',awayC x (some fb)):VisS (w5.setCell ⟨fb,0,none⟩ u') fb vb u' O':=by
 have I:w5.heap[fb]? =w.heap[fb]?:=F.block fb (Zv.1 h.fbk).1 (λe=>h.row_ne (Nat.le_of_lt h.lt) e.symm);have J:w5.heap[vb]? =w.heap[vb]?:=F.block vb (Zv.1 h.vbk).1 (λe=>h.row_ne (Zb _) e.symm);have K:=Yi w5 ⟨fb,0,none⟩ u';refine ⟨block_setCell (I.trans h.fbk) _,?_,⟨ZnU D.row (a:=⟨fb,0,none⟩) (by have:=h.lt;show fb<vb+1;omega) _,λx H=>(D.rd x H).grown K (A x H),D.away⟩,h.lt,A⟩;exact (ZZ w5 ⟨fb,0,none⟩ vb u' (by have:=h.lt;show vb≠fb;omega)).trans (J.trans h.vbk)
end
def newRow (w:Wq) (u u':Value):Prop:=u'.ownBlock=u.ownBlock\/∀g,u'.ownBlock=some g->w.heap.size<=g
theorem newRow.refl (w:Wq) (u:Value):newRow w u u:=Or.inl rfl
theorem newRow.hr {a b:Wq} {u u':Value} (h:newRow a u u') (A:a.heap.size<=b.heap.size):∀k,u'.ownBlock=some k->u.ownBlock=some k\/a.heap.size<=k:=λk e=>by
 rcases h with h|h
 ·exact Or.inl (by rw[<-h];exact e)
 ·exact Or.inr (h k e)
theorem newRow.mono {a b:Wq} {u v:Value} (h:newRow b u v) (D:a.heap.size<=b.heap.size):newRow a u v:=h.imp (λe=>e) λe g A=>Zt D (e g A)
theorem newRow.trans {a b:Wq} {u v x:Value} (h:newRow a u v) (A:newRow b v x) (F:a.heap.size<=b.heap.size):newRow a u x:=by
 rcases A with A|A
 ·rcases h with h|h
  ·exact Or.inl (A.trans h)
  ·exact Or.inr (by rw[A];exact h)
 ·exact Or.inr λg D=>Zt F (A g D)
theorem newRow.away {w:Wq} {u u':Value} (h:newRow w u u') {x:Nc} (D:RdN w x) (A:awayN u.ownBlock x):awayN u'.ownBlock x:=by
 rcases h with h|h
 ·rw[h];exact A
 ·exact Kx h x D
theorem newRow.awayS {w:Wq} {u u' D:Value} {path:List ByteArray} (h:newRow w u u') (J:RStrs w D path) (A:path= []\/D.ownBlock≠u.ownBlock):path= []\/D.ownBlock≠u'.ownBlock:=by
 rcases h with h|h
 ·rw[h];exact A
 ·rcases A with A|A
  ·exact Or.inl A
  ·by_cases F:path= []
   ·exact Or.inl F
   ·obtain ⟨g,H,I⟩:=RSl.old J (by simpa using F);refine Or.inr ?_;rw[H];intro e;have:=h g e.symm;omega
def VisRet (w w':Wq) (fb vb:Nat) (u:Value) (O:List Fc) (e:Ending):Except PErr (List Fd)->Prop
 | .ok l=>e= .returned (.tuple #[nI 0,nI 0])/\∃u' O',VisS w' fb vb u' O'/\O'.map Fc.f=O.map Fc.f++l/\newRow w u u'
 | .error (y,c)=>e= .returned (.tuple #[nI (y:Nat),nI (c:Nat)])
structure VisInv (M:Nat) (W1 wr:Wq) (fb vb:Nat) (path:List ByteArray) (R:Except PErr (List Fd)) (O0:List Fd) (L:List Nc) (u:Value) (j:Nat) (v:Value) (O:List Fc):Prop where
 vis:VisS wr fb vb v O
 cnt:O.length+Nds.cnt ((Nc.nds L).drop j)<=M
 left:∃q,O.map Fc.f=O0++q/\moreF q (visKs ((Nc.nds L).drop j) path)=R
 row:newRow W1 u v
 keep:Keep W1 wr fb u.ownBlock
theorem Zcv {A:Value} {w:Wq} {r:Option Nat} (h:path= []\/A.ownBlock≠r):path.map Value.string= []\/A.ownBlock≠r:=h.imp (λe=>by rw[e];rfl) λe=>e
theorem Zkj (N M:Nat) (hN:N<=10000) (hM:M<=1000000):∀(h:Nat) (x:Nc) (pv:Value) (path:List ByteArray) (w:Wq) (fb vb:Nat) (u:Value) (O:List Fc),x.nd.ht<=h->x.nd.fd N->O.length+x.nd.cnt<=M->RdN w x->RStrs w pv path->path.length<=64->
 VisS w fb vb u O->awayN (some fb) x->awayN u.ownBlock x->(path= []\/pv.ownBlock≠some fb)->(path= []\/pv.ownBlock≠u.ownBlock)->
 Calls prog 30 #[.agg (cellsN x).toArray,pv,.pointer (some ⟨fb,0,none⟩),.pointer (some ⟨vb,0,none⟩)] w λe w'=>VisRet w w' fb vb u O e (visP x.nd path)/\Keep w w' fb u.ownBlock:=by
 intro h
 induction h with
 |zero=>intro x pv path w fb vb u O gL;exact absurd (Zhb x.nd) (by omega)
 |succ h ih=>
 intro x pv path w fb vb u O gL hU go hr hp f4 hv fh fi fY fZ;obtain ⟨i0,dA,dF,gC,dG⟩:=Yu Zbg;obtain ⟨s0,dH,dI,dJ,dK⟩:=Yu I1;obtain ⟨k,s,n,al,l0,ks,kids,t,a⟩:=x;have f5:=hr;rw[RdN] at hr;rw[awayN] at fh fi;obtain ⟨fS,gq,fW⟩:=hr;have gT:=(Xo kids).1 fW;have gR:=(Ys kids).1 fh.2.2;have gS:=(Ys kids).1 fi.2.2;rw[Nc.nd] at gL hU go|-;rw[Nd.ht] at gL;rw[Nd.fd] at hU;rw[Nd.cnt] at go;rw[visP,IG,<-Qa];have fV:=hU.2.2.2.2.2.2.2.2;have dC:kids.length<=N:=by have:=hU.2.2.2.2.2.1;rwa [Je] at this
 obtain ⟨A,c,dx, -, -⟩:=fS.form;obtain ⟨B,d,dD, -, -⟩:=RNs.form gq;obtain ⟨PA,pc,rfl, -, -⟩:=hp.form;have g8:=gd (λw' (hx:Ext w w')=>KF (.mk k s n al l0 ks kids t a) [] outlineL w' (RdN.ext hx _ f5) (by show kids.length<=_;omega));simp only[cellsN,Nc.kids,U6,UJ] at g8|-;obtain ⟨L,hL⟩:∃L,kids.filter (isKid [] outlineL)=L:=⟨_,rfl⟩;have ga:∀y∈L,y∈kids/\isEl outlineL y.nd=true:=λy hy=>by rw[<-hL,Y0] at hy;exact ⟨hy.1,by rw[<-Zft];exact hy.2⟩
 have HY:=gd (λy (hy:y∈L)=>(⟨gT y (ga y hy).1,(Nds.fd_iff _).1 fV y.nd (by rw[XW];exact ZY (ga y hy).1),(by
  have:=Zbe (x:=y.nd) (l:=Nc.nds kids) (by rw[XW];exact ZY (ga y hy).1);omega),(ga y hy).2,gR y (ga y hy).1,gS y (ga y hy).1⟩:RdN w y/\y.nd.fd N/\y.nd.ht<=h/\isEl outlineL y.nd=true/\awayN (some fb) y/\awayN u.ownBlock y))
 have dj:Hid (O.length+Nds.cnt (Nc.nds L)<=M):=gd (by
  have h1:=ZaL (isEl outlineL) (Nc.nds kids);rw[<-Qa,hL] at h1;omega)
 have dk:Hid (L.length<=N):=gd (by
  have:=(List.filter_sublist (p:=isKid [] outlineL) (l:=kids)).length_le;rw[hL] at this;omega)
 rw[hL] at g8|-;have dg:=gd ih;have HP:=gd hp;have fA:=gd fY;have fB:=gd fZ;have HV:=gd hv;have fa:=gd hv.lt;subst dx;subst dD;have gI:=gd f4;obtain ⟨R,hR⟩:∃R,visKs (Nc.nds L) path=R:=⟨_,rfl⟩;rw[hR];have HR:=gd hR;have f6:=(Ext.refl w).alloc (.cells #[nI (k:Nat),.string (str s),.string (str n),.slice A l0.length c,.slice B kids.length d,.string (str t),nI (a:Nat)] 25);have fE:=gd f6;have fv:Hid (fb<w.heap.size):=gd (Zv.1 hv.fbk).1;clear ih hp hL ga gT fW gq fS f5 fV hU go gL hR dC f4 f6 fh fi gR gS fY fZ hv;go_enter func30,ntmps30
 go_wp2_with (first|(go_at_call 29;(with_reducible refine Za (g8.out _ fE.out) ?_);rintro e W1 ⟨kv,rfl,hk,f7⟩;(obtain ⟨U,uc,fX⟩:=Yf hk);subst fX))
 have h9:=gd (fE.out.trans f7);have dh:=gd hk;have fx:Hid (L= []\/((Value.slice U L.length uc).ownBlock≠some fb/\(Value.slice U L.length uc).ownBlock≠u.ownBlock)):=gd (by
  by_cases hl:L= []
  ·exact Or.inl hl
  ·right;obtain ⟨g,hg, -⟩:=RSl.old (RSl.of_own hk) (Za5 hl);have h1:=(hk.lt g hg).1;rw[Zp] at h1;rw[hg];refine ⟨λe=>by injection e with e;have:=fv.out;omega,λe=> ?_⟩;have:=(HV.out.hf.row.lt g e.symm).2;omega)
 clear hk f7;go_loopw [18] (λv wr=>∃(j:Nat) (uj:Value) (Oj:List Fc),j<=L.length/\v=nI j/\VisInv M W1 wr fb vb path R (O.map Fc.f) L u j uj Oj) (λv _=>L.length - (intOf v).toNat)
 case atStart=>exact ⟨0,u,O,Zh _,rfl,HV.out.ext h9.out,(by rw[Jm];exact dj.out),⟨[],(ZX _).symm,(by rw[Jm];exact (Vg _).trans HR.out)⟩,newRow.refl _ _,Keep.refl _ _ _⟩
 case round=>
  obtain ⟨j,uj,Oj,hj,rfl,X⟩:=hrel;have dQ:=dk.out;have gk:Keep w wr fb u.ownBlock:=Keep.ext_left h9.out X.keep;by_cases gr:j<L.length;have gq:RNs wr (.slice U L.length uc) L:=RSl.keep (RSl.of_own dh.out) X.keep (fx.out.elim (λe=>Or.inl (by rw[e];rfl)) λe=>Or.inr e.1) (fx.out.elim (λe=>Or.inl (by rw[e];rfl)) λe=>Or.inr e.2);obtain ⟨ad,c',hv,fT⟩:=gq.at gr;injection hv with hv1 hv2 hv3;subst hv1;clear hv2 hv3 gq;have dN:(0:Int)<=(j:Int):=by omega
  have dS:(j:Int)<(L.length:Int):=by omega
  obtain ⟨gB,gl,fq,fp,gh,gz⟩:=HY.out L[j] (ZE gr);have ge:=ZfR gr;have fk:Oj.length+(L[j].nd.cnt+Nds.cnt ((Nc.nds L).drop (j+1)))<=M:=by have:=X.cnt;rw[ge,Nds.cnt] at this;exact this
  obtain ⟨q0,gt,hH⟩:=X.left;rw[ge] at hH;have da:=Zg4 gl;have hV:=RdN.sl gB;have fo:=ZdT L[j].nd;have gA:=X.row.away (RdN.ext h9.out _ gB) gz;have gi:RdN wr L[j]:=RdN.keep gB gk gh gz;obtain ⟨y,dc⟩:∃y,L[j]=y:=⟨_,rfl⟩;rw[dc] at fT gB gl fq fp fk hH da hV fo gh gA gi;have hE:attrL y.nd xmlUrlL=attrN y.attrs [] xmlUrlL:=ZeH y _;have fK:(attrL y.nd htmlUrlL).getD []=(attrN y.attrs [] htmlUrlL).getD []:=by rw[ZeH]
  have fN:=Zlb y;have gK:=Znv y;have gX:(str (nameL y.nd)).size<=140737488351232:=by have:=I5 gl;rw[YH];omega
  have gW:∀v,attrN y.attrs [] xmlUrlL=some v->(str v).size<=140737488351232:=λv hv=>by have:=Gd gl (hE.trans hv);rw[YH];omega
  have fI:=gd gX;have ha:=gd (λw' (hx:RAts w' y.al y.attrs)=>ZeI y [] xmlUrlL w' hx hV.2 (by omega));have ho:=gd (λw' (v:Value) (hx:RAts w' y.al y.attrs) (hv:RSl w' 1 v 2 (strsV [textL,titleL]))=>IJ y v [textL,titleL] w' hx hV.2 (by omega) hv (by decide));have gD:=gd (λw' (v:Value) (hx:RAts w' y.al y.attrs) (hv:RSl w' 1 v 1 (strsV [htmlUrlL]))=>IJ y v [htmlUrlL] w' hx hV.2 (by omega) hv (by decide));have fc:Hid (∀(pv:Value) (path:List ByteArray) (w':Wq) (u':Value) (O':List Fc),Oj.length<=O'.length->O'.length<=Oj.length->RdN w' y->RStrs w' pv path->path.length<=64->VisS w' fb vb u' O'->awayN (some fb) y->awayN u'.ownBlock y->(path= []\/pv.ownBlock≠some fb)->(path= []\/pv.ownBlock≠u'.ownBlock)->
   Calls prog 30 #[.agg (cellsN y).toArray,pv,.pointer (some ⟨fb,0,none⟩),.pointer (some ⟨vb,0,none⟩)] w' λe w2=>VisRet w' w2 fb vb u' O' e (visP y.nd path)/\Keep w' w2 fb u'.ownBlock):=
   gd (λpv path w' u' O' dT dU h1 h2 h3 h4 h5 h6 h7 h8=>dg.out y pv path w' fb vb u' O' fq gl (by omega) h1 h2 h3 h4 h5 h6 h7 h8)
  rw[<-fN] at ho;rw[QC,<-Ku] at gD;have dw:=gd gi;have fH:=gd gi.ats;have fF:=gd gh;have fG:=gd gA;have I:=gd hH;have gJ:=gd gt;have gj:=gd fp;have HE:=gd hE;have g9:=gd fK;have hY:=gd gW;have J:=gd X;have ff:=gd fo;have gE:=gd fk;have hX:=gd gk;have h0:=gd X.vis;have fC:Hid (RStrs wr (.slice PA path.length pc) path):=gd (RSl.keep HP.out gk (Zcv (w:=w) fA.out) (Zcv (w:=w) fB.out));have dm:Hid (path= []\/(Value.slice PA path.length pc).ownBlock≠uj.ownBlock):=gd (X.row.awayS (HP.out.ext h9.out) fB.out);clear ge hH dc gl fq fp da hE fK fN gX gW X gB fo fk gh gz gA gi gk gt;obtain ⟨⟨YA,ym,yc,f8⟩,⟨YB,hJ,yd,f9⟩⟩:=hV;obtain ⟨K9,hK⟩:∃K9,y.nd=K9:=⟨_,rfl⟩;obtain ⟨NM,gf⟩:∃NM,nameL y.nd=NM:=⟨_,rfl⟩;obtain ⟨XU,fR⟩:∃XU,attrN y.attrs [] xmlUrlL=XU:=⟨_,rfl⟩;obtain ⟨HU,fL⟩:∃HU,(attrN y.attrs [] htmlUrlL).getD []=HU:=⟨_,rfl⟩;rw[gf] at fI ho;rw[fR] at ha HE hY;rw[fL] at gD g9;rw[hK] at fc I gj HE g9 ff gE gK gf;have hP:=gd gf;have ft:=gd (λw'=>UE (str NM) w' fI.out);obtain ⟨yk,ys,yn,dV,yl,dW,dL,yt,ya⟩:=y;simp only[Nc.al,Nc.ks] at f8 f9;subst f8;subst f9;obtain ⟨a0,a1,a2,a3,a4,a5,a6⟩:=fT;simp only[Nc.kind,Nc.space,Nc.name,Nc.al,Nc.ks,Nc.text,Nc.at_,Nc.attrs,cellsN] at a0 a1 a2 a3 a4 a5 a6 ha gD ho fc gK fH;have g7:=gd gK;simp only[U6,Zgo] at ha;clear gK hK gf fR fL;obtain ⟨W2,hu⟩:∃W2,wr.alloc (.cells #[nI (yk:Nat),.string (str ys),.string (str yn),.slice YA ym yc,.slice YB hJ yd,.string (str yt),nI (ya:Nat)] 25)=W2:=⟨_,rfl⟩;have fn:Ext wr W2:=by rw[<-hu];exact (Ext.refl wr).alloc _
  have fj:BxN W2 wr.heap.size yk ys yn (.slice YA ym yc) (.slice YB hJ yd) yt ya:=by rw[<-hu];exact Zg wr _
  have gV:W2.heap.size=wr.heap.size+1:=by rw[<-hu,Zp]
  have dO:=gd gV;have hs:=gd fn;have Y:=gd fj;have hW:Hid (RAts W2 (.slice YA ym yc) yl):=gd (fH.out.ext fn);have gm:Hid (RAts (W2.alloc (.cells #[.string ⟨#[116,101,120,116]⟩,.string ⟨#[116,105,116,108,101]⟩] 9)) (.slice YA ym yc) yl):=gd (hW.out.ext ((Ext.refl W2).alloc _));have gn:Hid (∀W:Wq,RSl (W.alloc (.cells #[.string ⟨#[116,101,120,116]⟩,.string ⟨#[116,105,116,108,101]⟩] 9)) 1 (.slice (some ⟨W.heap.size,0,none⟩) 2 2) 2 (strsV [textL,titleL])):=gd (λW=>Yq (cs:=strsV [textL,titleL]) rfl (by decide));obtain ⟨c0,c1,c2,c3,c4,c5,c6⟩:=fj.cells;clear fn fj gV;cases XU;have gC:attrL K9 xmlUrlL=none:=HE.out;unfold lookAns at ha;dsimp only at ha;have hb:=ft;unfold collapse at hb;rw[Yb] at hb;simp only[U6] at ha;by_cases hc:coll NM= []
  ·rw[hc,U6] at hb;have gb:R= .error (ya,19):=(by have h1:=I.out;rw[ZfP gj.out HE.out (by rw[hP.out];exact hc),g7.out] at h1;exact h1.symm);clear hY I hc gC;subst gb
   go_wp2_with (first|(refine Zf rfl 25 (.tmp 9) (.tmp 21) rfl wr.heap.size _ rfl rfl _ _ (Zg _ _) ZJ rfl YR ?_;rw[Z0];rw[hu])|(go_at_call 28;(with_reducible refine Za (ho.out _ _ gm.out (gn.out _)) ?_);rintro e W3 ⟨rfl,H⟩;obtain ⟨d0,d1,d2,d3,d4,d5,d6⟩:=(Y.out.ext (((Ext.refl W2).alloc _).trans H)).cells;have D:=((Ext.refl W2).alloc (.cells #[.string ⟨#[116,101,120,116]⟩,.string ⟨#[116,105,116,108,101]⟩] 9)).trans H)|(go_at_call 31;(with_reducible refine Za (ha.out _ (hW.out.ext D)) ?_);rintro e W4 ⟨rfl,Q⟩;obtain ⟨e0,e1,e2,e3,e4,e5,e6⟩:=(Y.out.ext (D.trans Q)).cells)|(go_at_call 32;(with_reducible refine Za (hb.out _) ?_);rintro e W5 ⟨rfl,Z⟩;obtain ⟨g0,g1,g2,g3,g4,g5,g6⟩:=(Y.out.ext ((D.trans Q).trans Z)).cells))
   go_ret2
   exact ⟨rfl,hX.out.ext (((hs.out.trans D).trans Q).trans Z)⟩
  by_cases fg:path.length=64
  ·have fU:((path.length:Int)==64)=true:=(by rw[JQ];omega);have gP:64<=path.length:=(by omega);have gM:=Vx hc;have gb:R= .error (ya,9):=(by have h1:=I.out;rw[Zho gj.out HE.out (by rw[hP.out];exact hc) gP,g7.out] at h1;exact h1.symm);clear hY I hc gC fg gP;subst gb
   go_wp2_with (first|(refine Zf rfl 25 (.tmp 9) (.tmp 21) rfl wr.heap.size _ rfl rfl _ _ (Zg _ _) ZJ rfl YR ?_;rw[Z0];rw[hu])|(go_at_call 28;(with_reducible refine Za (ho.out _ _ gm.out (gn.out _)) ?_);rintro e W3 ⟨rfl,H⟩;obtain ⟨d0,d1,d2,d3,d4,d5,d6⟩:=(Y.out.ext (((Ext.refl W2).alloc _).trans H)).cells;have D:=((Ext.refl W2).alloc (.cells #[.string ⟨#[116,101,120,116]⟩,.string ⟨#[116,105,116,108,101]⟩] 9)).trans H)|(go_at_call 31;(with_reducible refine Za (ha.out _ (hW.out.ext D)) ?_);rintro e W4 ⟨rfl,Q⟩;obtain ⟨e0,e1,e2,e3,e4,e5,e6⟩:=(Y.out.ext (D.trans Q)).cells)|(go_at_call 32;(with_reducible refine Za (hb.out _) ?_);rintro e W5 ⟨rfl,Z⟩;obtain ⟨g0,g1,g2,g3,g4,g5,g6⟩:=(Y.out.ext ((D.trans Q).trans Z)).cells))
   go_ret2
   exact ⟨rfl,hX.out.ext (((hs.out.trans D).trans Q).trans Z)⟩
  focus
   have fU:((path.length:Int)==64)=false:=(by rw[ZG];omega)
   have gM:=Vx hc
   have gc:=I.out
   rw[Zdf gj.out HE.out (by rw[hP.out];exact hc) (by have:=gI.out;omega),hP.out] at gc
   have HN:=gd gc
   have dd:=gd fg
   clear hY I gc hc fg gC
   obtain ⟨OA,oc,fl⟩:=Yf h0.out.hf.row
   subst fl
   go_wp2_with (first|(refine Zf rfl 25 (.tmp 9) (.tmp 21) rfl wr.heap.size _ rfl rfl _ _ (Zg _ _) ZJ rfl YR ?_;rw[Z0];rw[hu])|(go_at_call 28;(with_reducible refine Za (ho.out _ _ gm.out (gn.out _)) ?_);rintro e W3 ⟨rfl,H⟩;obtain ⟨d0,d1,d2,d3,d4,d5,d6⟩:=(Y.out.ext (((Ext.refl W2).alloc _).trans H)).cells;have D:=((Ext.refl W2).alloc (.cells #[.string ⟨#[116,101,120,116]⟩,.string ⟨#[116,105,116,108,101]⟩] 9)).trans H)|(go_at_call 31;(with_reducible refine Za (ha.out _ (hW.out.ext D)) ?_);rintro e W4 ⟨rfl,Q⟩;obtain ⟨e0,e1,e2,e3,e4,e5,e6⟩:=(Y.out.ext (D.trans Q)).cells)|(go_at_call 32;(with_reducible refine Za (hb.out _) ?_);rintro e W5 ⟨rfl,Z⟩;obtain ⟨g0,g1,g2,g3,g4,g5,g6⟩:=(Y.out.ext ((D.trans Q).trans Z)).cells))
   have S:=(D.trans Q).trans Z
   have hC:=gd (hs.out.trans S)
   have gO:Hid (w.heap.size<=wr.heap.size/\wr.heap.size<=W5.heap.size):=gd ⟨hX.out.size,(hs.out.trans S).size⟩
   have hh:=gd (Y.out.ext S)
   have hZ:=gd (h0.out.ext (hs.out.trans S))
   have gH:=gd (fC.out.ext (hs.out.trans S))
   have gN:=gd ((Er (n:=path.length) (m:=0) (by have:=gI.out;omega)).2)
   clear a0 a1 a2 a3 a4 a5 a6 c0 c1 c2 c3 c4 c5 c6 d0 d1 d2 d3 d4 d5 d6 e0 e1 e2 e3 e4 e5 e6 g0 g1 g2 g3 g4 g5 g6 H D Q Z S hu gM ho ha hb ft fU
   obtain ⟨f0,f1,f2⟩:=hZ.out.cell
   refine rN ?_
   change wpAny _ _ _ _ _ _ _ (World.drew _)
   have hB:=(Ext.refl W5).drew
   have hQ:W5.drew.cell? ⟨vb,0,none⟩=some (.func (.func 30) #[] #[.pointer (some ⟨fb,0,none⟩),.pointer (some ⟨vb,0,none⟩)])/\BxN W5.drew wr.heap.size yk ys yn (.slice YA ym yc) (.slice YB hJ yd) yt ya:=⟨hB.cell f2,hh.out.ext hB⟩
   refine Yx (λw'=>w'.cell? ⟨vb,0,none⟩=some (.func (.func 30) #[] #[.pointer (some ⟨fb,0,none⟩),.pointer (some ⟨vb,0,none⟩)])/\BxN w' wr.heap.size yk ys yn (.slice YA ym yc) (.slice YB hJ yd) yt ya) ?_
   refine tS 0 (.func (.func 30) #[] #[.pointer (some ⟨fb,0,none⟩),.pointer (some ⟨vb,0,none⟩)]) rfl (λw' hS=>by have hq:=hS.1;go_simp) hQ ?_
   refine tS 1 (.agg #[nI (yk:Nat),.string (str ys),.string (str yn),.slice YA ym yc,.slice YB hJ yd,.string (str yt),nI (ya:Nat)]) rfl (λw' hS=>by obtain ⟨q0,q1,q2,q3,q4,q5,q6⟩:=BxN.cells hS.2;go_simp) hQ ?_
   refine tG 2 (.slice PA path.length pc) hQ ?_
   refine tG 4 (.string (str NM)) hQ ?_
   go_simp
   refine Zh0 (i:=3) (j:=5) rfl rfl (by kernel_rfl) (λK hK=> ?_) (λK hK=> ?_)
  focus
   skip
   go_simp
   go_at_call 33
   have hz:=Gg (.slice PA path.length pc) path.length (path.map Value.string) W5.drew (gH.out.ext hB) (VL _) gN.out
   with_reducible refine Za hz ?_
   clear hz
   rintro e w3 ⟨v3,rfl,hm,H⟩
   obtain ⟨PB,pb,fm⟩:=Yf hm
   subst fm
   have gx:=hB.trans H
   refine hK _ _ ⟨gx.cell f2,hh.out.ext gx⟩ ?_
   clear hK K
   refine sS 5 λK hK=> ?_
   go_simp
   have hA:=gx.alloc (.cells #[.string (str NM)] 9)
   have gG:Hid ((w3.alloc (.cells #[.string (str NM)] 9)).ownsRow W5.heap.size 9 1 (.slice PB path.length pb) path.length (path.map Value.string)):=gd (Ye hm ((Ext.refl w3).alloc _))
   have hO:Hid (RSl (w3.alloc (.cells #[.string (str NM)] 9)) 1 (.slice (some ⟨w3.heap.size,0,none⟩) 1 1) 1 ([str NM].map Value.string)):=gd (Yq rfl (by decide))
  rotate_left
  focus
   skip
   go_simp
   have H:=(((Ext.refl W5).alloc (.cells #[.string (str NM)] 9)).drew)
   have dl:Hid (RSl (W5.alloc (.cells #[.string (str NM)] 9)).drew 1 (.slice (some ⟨W5.heap.size,0,none⟩) 1 1) 1 ([str NM].map Value.string)):=gd (RSl.ext (Yq (w:=W5) (cs:= [str NM].map Value.string) rfl (by decide)) (Ext.refl _).drew)
   refine hK _ _ ⟨H.cell f2,hh.out.ext H⟩ ?_
   clear hK K
   refine sS 3 λK hK=> ?_
   go_simp
   go_at_call 33
   have hz:=Gg (.slice PA path.length pc) path.length (path.map Value.string) (W5.alloc (.cells #[.string (str NM)] 9)).drew (gH.out.ext H) (VL _) gN.out
   with_reducible refine Za hz ?_
   clear hz
   rintro e w6 ⟨v3,rfl,hm,gZ⟩
   obtain ⟨PB,pb,fm⟩:=Yf hm
   subst fm
   have hA:=H.trans gZ
   have gG:Hid (w6.ownsRow W5.heap.size 9 1 (.slice PB path.length pb) path.length (path.map Value.string)):=gd (XM hm H.size)
   have hO:Hid (RSl w6 1 (.slice (some ⟨W5.heap.size,0,none⟩) 1 1) 1 ([str NM].map Value.string)):=gd (RSl.ext dl.out gZ)
  rotate_left
  ·rename_i id;unfold lookAns at ha;dsimp only at ha;have gQ:=hY.out id rfl;have hb:=gd (λw'=>UE (str id) w' gQ);unfold collapse at hb;rw[Yb] at hb;clear gQ;by_cases hc:coll id= []
   ·rw[hc,U6] at hb;have gb:R= .error (ya,19):=(by have h1:=I.out;rw[ZjC gj.out HE.out hc,g7.out] at h1;exact h1.symm);clear hY I hc;subst gb
    go_wp2_with (first|(refine Zf rfl 25 (.tmp 9) (.tmp 21) rfl wr.heap.size _ rfl rfl _ _ (Zg _ _) ZJ rfl YR ?_;rw[Z0];rw[hu])|(go_at_call 28;(with_reducible refine Za (ho.out _ _ gm.out (gn.out _)) ?_);rintro e W3 ⟨rfl,H⟩;obtain ⟨d0,d1,d2,d3,d4,d5,d6⟩:=(Y.out.ext (((Ext.refl W2).alloc _).trans H)).cells;have D:=((Ext.refl W2).alloc (.cells #[.string ⟨#[116,101,120,116]⟩,.string ⟨#[116,105,116,108,101]⟩] 9)).trans H)|(go_at_call 31;(with_reducible refine Za (ha.out _ (hW.out.ext D)) ?_);rintro e W4 ⟨rfl,Q⟩;obtain ⟨e0,e1,e2,e3,e4,e5,e6⟩:=(Y.out.ext (D.trans Q)).cells)|(go_at_call 32;(with_reducible refine Za (hb.out _) ?_);rintro e W5 ⟨rfl,Z⟩;obtain ⟨g0,g1,g2,g3,g4,g5,g6⟩:=(Y.out.ext ((D.trans Q).trans Z)).cells))
    go_ret2
    exact ⟨rfl,hX.out.ext (((hs.out.trans D).trans Q).trans Z)⟩
   ·skip
    have gc:=I.out;rw[Zbo gj.out HE.out hc] at gc;have gM:=Vx hc;have HN:=gd gc;clear hY I gc hc;obtain ⟨OA,oc,fl⟩:=Yf h0.out.hf.row;subst fl
    go_wp2_with (first|(refine Zf rfl 25 (.tmp 9) (.tmp 21) rfl wr.heap.size _ rfl rfl _ _ (Zg _ _) ZJ rfl YR ?_;rw[Z0];rw[hu])|(go_at_call 28;(with_reducible refine Za (ho.out _ _ gm.out (gn.out _)) ?_);rintro e W3 ⟨rfl,H⟩;obtain ⟨d0,d1,d2,d3,d4,d5,d6⟩:=(Y.out.ext (((Ext.refl W2).alloc _).trans H)).cells;have D:=((Ext.refl W2).alloc (.cells #[.string ⟨#[116,101,120,116]⟩,.string ⟨#[116,105,116,108,101]⟩] 9)).trans H)|(go_at_call 31;(with_reducible refine Za (ha.out _ (hW.out.ext D)) ?_);rintro e W4 ⟨rfl,Q⟩;obtain ⟨e0,e1,e2,e3,e4,e5,e6⟩:=(Y.out.ext (D.trans Q)).cells)|(go_at_call 32;(with_reducible refine Za (hb.out _) ?_);rintro e W5 ⟨rfl,Z⟩;obtain ⟨g0,g1,g2,g3,g4,g5,g6⟩:=(Y.out.ext ((D.trans Q).trans Z)).cells))
    have S:=(D.trans Q).trans Z;have hC:=gd (hs.out.trans S);have hh:=gd (Y.out.ext S);have hZ:=gd (h0.out.ext (hs.out.trans S));have dv:=gd (hW.out.ext S);have gH:=gd (fC.out.ext (hs.out.trans S));clear a0 a1 a2 a3 a4 a5 a6 c0 c1 c2 c3 c4 c5 c6 d0 d1 d2 d3 d4 d5 d6 e0 e1 e2 e3 e4 e5 e6 g0 g1 g2 g3 g4 g5 g6 H D Q Z S hu gM ho ha hb;obtain ⟨f0,f1,f2⟩:=hZ.out.cell;refine rN ?_;change wpAny _ _ _ _ _ _ _ (World.drew _);have hB:=(Ext.refl W5).drew;have hQ:W5.drew.cell? ⟨fb,0,none⟩=some (.slice OA Oj.length oc)/\BxN W5.drew wr.heap.size yk ys yn (.slice YA ym yc) (.slice YB hJ yd) yt ya:=⟨hB.cell f0,hh.out.ext hB⟩;refine tH 1 (.slice PA path.length pc) ?_;refine tH 2 (.string (str id)) ?_;refine tH 3 (.string (str NM)) ?_;refine Xq (i:=0) (v:= .slice OA Oj.length oc) (λw'=>w'.cell? ⟨fb,0,none⟩=some (.slice OA Oj.length oc)/\BxN w' wr.heap.size yk ys yn (.slice YA ym yc) (.slice YB hJ yd) yt ya) 10 rfl (by kernel_rfl) (λ_ _ _ h=>h) (Or.inl ⟨by rfl,λw' hS=>by have hq:=hS.1;go_simp⟩) hQ ?_;refine tT 4 (.agg #[nI (yk:Nat),.string (str ys),.string (str yn),.slice YA ym yc,.slice YB hJ yd,.string (str yt),nI (ya:Nat)]) rfl (λw' hS=>by obtain ⟨q0,q1,q2,q3,q4,q5,q6⟩:=BxN.cells hS.2;go_simp) hQ ?_;go_simp;refine JP (i:=5) rfl (by kernel_rfl) (λK hK=> ?_);go_simp;have gy:=((Ext.refl W5).alloc (.cells #[.string ⟨#[104,116,109,108,85,114,108]⟩] 9)).drew;have dr:Hid (RSl (W5.alloc (.cells #[.string ⟨#[104,116,109,108,85,114,108]⟩] 9)).drew 1 (.slice (some ⟨W5.heap.size,0,none⟩) 1 1) 1 (strsV [htmlUrlL])):=gd (RSl.ext (Yq (w:=W5) (cs:=strsV [htmlUrlL]) rfl (by decide)) (Ext.refl _).drew);refine hK _ _ ⟨gy.cell f0,hh.out.ext gy⟩ ?_;clear hK K;refine JP (i:=6) rfl (by kernel_rfl) (λK hK=> ?_);go_simp;go_at_call 28;have hz:=gD.out _ _ (dv.out.ext gy) dr.out
    with_reducible refine Za hz ?_
    clear hz;rintro e w6 ⟨rfl,hA⟩;have hD:=gy.trans hA;refine hK _ _ ⟨hD.cell f0,hh.out.ext hD⟩ ?_;clear hK K;refine JP (i:=7) rfl (by kernel_rfl) (λK hK=> ?_);go_simp;refine hK _ _ ⟨hD.cell f0,hh.out.ext hD⟩ ?_;clear hK K;refine Xm 10 [] (AtIx.cons rfl AtIx.nil) [8,9] (AtIx.cons rfl (AtIx.cons rfl AtIx.nil)) rfl (by kernel_rfl) ?_;refine Z6 (λK hK=> ?_);go_simp;have hI:=hD.alloc (.cells #[.slice PA path.length pc,.string (str id),.string (str NM),.string (str HU),nI (-62135596800),sN] 55);refine hK _ _ ⟨hI.cell f0,hh.out.ext hI⟩ ?_;clear hK K;have HF:Hid (opFd path K9 id=⟨path,str id,str NM,str HU, -62135596800,[]⟩):=gd (by unfold opFd;rw[hP.out,g9.out]);obtain ⟨F,hF⟩:∃F:Fc,F=⟨.slice PA path.length pc,sN,⟨path,str id,str NM,str HU, -62135596800,[]⟩⟩:=⟨_,rfl⟩;have df:=gd hF;have fz:Hid (∀u∈cellsC F,u.oneCell'=true):=gd (by rw[hF];exact Jd ⟨⟨_,_,_,rfl⟩,⟨_,_,_,rfl⟩⟩);have hO:Hid (RSl (w6.alloc (.cells #[.slice PA path.length pc,.string (str id),.string (str NM),.string (str HU),nI (-62135596800),sN] 55)) 6 (.slice (some ⟨w6.heap.size,0,none⟩) 1 1) 1 (cellsC F)):=gd (by rw[hF];exact Yq rfl (by decide));have fw:=gd (IW (n:=Oj.length) (m:=1) (by have:=gE.out;have:=ff.out;omega));have hG:=gd (hZ.out.ext hI);have dp:Hid (RdC (w6.alloc (.cells #[.slice PA path.length pc,.string (str id),.string (str NM),.string (str HU),nI (-62135596800),sN] 55)) F):=gd (by rw[hF];exact ⟨gH.out.ext hI,RSl.nil _ 5⟩);have de:Hid (awayC F (Value.slice OA Oj.length oc).ownBlock):=gd (by rw[hF];exact ⟨dm.out,Or.inl rfl⟩);have fu:Hid (awayC F (some fb)):=gd (by rw[hF];exact ⟨fA.out,Or.inl rfl⟩);clear hF;refine Z6 (λK hK=> ?_);refine Z4 _ (by rfl) (.tmp 36) (.tmp 44) _ (by rfl) (vb+1) 55 i0 _ 6 104 underlying29 dA dF gC dG rfl (by decide) _ Oj.length (flatC Oj) (by rfl) hG.out.hf.row _ 1 (cellsC F) (by rfl) hO.out fz.out fw.out.1 fw.out.2 (by have:=(Zv.1 hG.out.vbk).1;simp only[nI,sN] at this⊢;omega) ?_;intro v8 w8 V hw hT;have fM:=HFs.snoc hG.out.hf dp.out de.out V hw hT;have fJ:=(hh.out.ext hI).grown hw (λe=>by have h1:=(h0.out.hf.row.lt _ e).2;omega);have gg:=hw.cell (hI.cell f0) (λe=>hG.out.row_ne (Nat.le_of_lt fa.out) e.symm);obtain ⟨OB,ob,dE⟩:=Yf V;subst dE;have ds:=gd (hG.out.store hw fM (λx hx=>(Zx.1 hx).elim (hG.out.far x) λh=>by rw[Zo.1 h];exact fu.out));have dM:w8.frozen? ⟨fb,0,none⟩=false:=(World.frozen?_of_block (a:=⟨fb,0,none⟩) (hw.block fb (by have:=(Zv.1 hG.out.fbk).1;omega) (λe=>hG.out.row_ne (Nat.le_of_lt fa.out) e.symm))).trans hG.out.cell.2.1;have gF:=gd (((Keep.of_ext fb (Value.slice OA Oj.length oc).ownBlock (hC.out.trans hI)).trans (Keep.of_grown fb hw) (λk e=>Or.inl e)).cell_ 0 (.slice OB (Oj.length+1) ob));have fD:Hid (newRow wr (Value.slice OA Oj.length oc) (Value.slice OB (Oj.length+1) ob)):=gd (hT.imp (λe=>e) λe g hg=>by
     rw[e] at hg;injection hg with hg;have h1:=(hC.out.trans hI).size;simp only[nI,sN] at hg h1⊢;omega)
    refine hK _ _ ⟨gg,fJ⟩ ?_;clear hK K V hw hT fM fJ;refine Xz ?_;clear hI hD gy hA hB hQ f0 f1 f2;go_wp2;go_roundw
    case rel=>exact ⟨j+1,_,Oj++ [F],gr,by go_num,ds.out,(by rw[Zc,VB];have:=gE.out;have:=ff.out;omega),⟨q0++ [opFd path K9 id],(by rw[ZN,List.map_singleton,df.out,HF.out,gJ.out,ZQ]),HN.out⟩,(J.out.row.trans fD.out J.out.keep.size),J.out.keep.trans gF.out (J.out.row.hr J.out.keep.size)⟩
    case measure=>simp[intOf];omega
  ·have dB:j=L.length:=(by omega);subst dB;obtain ⟨q0,gt,fP⟩:=X.left;rw[Zs (by rw[Je];omega),ZjD] at fP;subst fP;have J:=gd X;have hX:=gd gk;have gJ:=gd gt;clear X gk HR gt;go_wp2
   go_ret2
   exact ⟨⟨rfl,uj,Oj,J.out.vis,gJ.out,J.out.row.mono h9.out.size⟩,hX.out⟩
  all_goals
   refine hK _ _ ⟨hA.cell f2,hh.out.ext hA⟩ ?_
   clear hK K
   have fe:=gd (Er (n:=path.length) (m:=1) (by have:=gI.out;omega))
   refine sS 6 λK hK=> ?_
   refine Z4 _ (by rfl) (.tmp 62) (.tmp 64) _ (by rfl) W5.heap.size 9 s0 _ 1 16 underlying52 dH dI dJ dK rfl (by decide) _ path.length (path.map Value.string) (by rfl) gG.out _ 1 ([str NM].map Value.string) (by rfl) hO.out (VL _) fe.out.1 fe.out.2 hA.size ?_
   intro v8 w8 V hw hT
   have hn:Ext W5 w8:=Ext.app hA hw gG.out (Zb _)
   obtain ⟨PC,fr,f3⟩:=Yf V
   subst f3
   have fQ:RStrs w8 (.slice PC (path.length+1) fr) (path++ [str NM]):=by
    unfold RStrs
    rw[ZN,Zc]
    exact RSl.of_own V
   have gs:path.map Value.string++ [str NM].map Value.string≠ []:=(by simp)
   have gg:(Value.slice PC (path.length+1) fr).ownBlock≠some fb:=ZcO V gs (YW fv.out (Zt gO.out.1 gO.out.2))
   have gY:(Value.slice PC (path.length+1) fr).ownBlock≠(Value.slice OA Oj.length oc).ownBlock:=ZaB hZ.out.hf.row V gs
   have dq:=gd fQ
   have dP:=gd hn
   clear V hw hT gG hO fe fQ gs
   refine hK _ _ ⟨hn.cell f2,hh.out.ext hn⟩ ?_
   clear hK K
   refine sS 7 λK hK=> ?_
   go_simp
   go_at_call 30
   have hz:=fc.out _ _ w8 _ Oj (Zb _) (Zb _) (RdN.ext (hC.out.trans hn) _ dw.out) dq.out (by rw[Zc];have:=dd.out;have:=gI.out;simp only[Zd,ZM];omega) (hZ.out.ext hn) fF.out fG.out (Or.inr gg) (Or.inr gY)
   with_reducible refine Za hz ?_
   clear hz gg gY
   rintro e w9 ⟨hi,gp⟩
   have hd:BxN w9 wr.heap.size yk ys yn (.slice YA ym yc) (.slice YB hJ yd) yt ya:=gp.heap (hh.out.ext hn) (by have:=(Zv.1 h0.out.fbk).1;omega) (λe=>by have:=(h0.out.hf.row.lt _ e.symm).2;omega)
   have he:=gp.cell (hn.cell f2) (by have:=fa.out;show vb≠fb;omega) (λe=>hZ.out.row_ne (Zb _) e.symm)
   have gF:=gd (Keep.ext_left (hC.out.trans hn) gp)
   have du:=gd (hC.out.trans hn).size
   cases hv:visP K9 (path++ [str NM]) with
   |error yc9=>
    obtain ⟨y9,c9⟩:=yc9
    have dy:=ZbT K9 _ hv
    have dR:((c9:Int) !=0)=true:=(by rw[Xl];omega)
    have gb:R= .error (y9,c9):=by
     have h1:=HN.out
     rw[hv] at h1
     exact h1.symm
    rw[hv] at hi
    unfold VisRet at hi
    dsimp only at hi
    subst hi
    subst gb
    clear hv dy HN
    refine hK _ _ ⟨he,hd⟩ ?_
    clear hK K
    refine sS 8 λK hK=> ?_
    go_simp
    refine hK _ _ ⟨he,hd⟩ ?_
    clear hK K
    refine tG 9 (nI (y9:Nat)) ⟨he,hd⟩ ?_
    refine tG 10 (nI (c9:Nat)) ⟨he,hd⟩ ?_
    go_simp
    refine sS 11 λK hK=> ?_
    go_simp
    refine hK _ _ ⟨he,hd⟩ ?_
    clear hK K
    refine sS 12 λK hK=> ?_
    go_simp
    refine hK _ _ ⟨he,hd⟩ ?_
    clear hK K
    refine sE ?_
    clear he hd gp hn hA hB f0 f1 f2
    go_wp2
    go_ret2
    exact ⟨rfl,hX.out.trans gF.out ((J.out.row.mono h9.out.size).hr h9.out.size)⟩
   |ok l9=>
    have gU:=Zgt K9 _ _ hv
    rw[hv] at hi HN
    unfold VisRet at hi
    dsimp only at hi
    obtain ⟨dz,u9,O9,gw,fO,gu⟩:=hi
    subst dz
    have dt:=gd gw
    have fy:=gd fO
    have dn:=gd gu
    have di:=gd gU
    clear hv gw fO gu gU
    refine hK _ _ ⟨he,hd⟩ ?_
    clear hK K
    refine sS 8 λK hK=> ?_
    go_simp
    refine hK _ _ ⟨he,hd⟩ ?_
    clear hK K
    refine tG 9 (nI 0) ⟨he,hd⟩ ?_
    refine tG 10 (nI 0) ⟨he,hd⟩ ?_
    go_simp
    refine sS 11 λK hK=> ?_
    go_simp
    refine hK _ _ ⟨he,hd⟩ ?_
    clear hK K
    refine sS 12 λK hK=> ?_
    go_simp
    refine hK _ _ ⟨he,hd⟩ ?_
    clear hK K
    refine sE ?_
    clear he hd gp hn hA hB f0 f1 f2
    go_wp2
    go_roundw
    case rel=>exact ⟨j+1,u9,O9,gr,by go_num,dt.out,(by
     have h1:=ZC List.length fy.out
     rw[Zc,Zm,Zm] at h1
     have:=gE.out
     have:=di.out
     omega),⟨q0++l9,(by rw[fy.out,gJ.out,ZQ]),HN.out⟩,(J.out.row.trans (dn.out.mono du.out) J.out.keep.size),J.out.keep.trans gF.out (J.out.row.hr J.out.keep.size)⟩
    case measure=>simp[intOf];omega
end
end Go.Proofs.YtnlafkgkcnenfaaGreatDoor
