/- Parts of the proof: contracts and plain laws. -/
import Derived.Test.YthlnaldahkgjnaaGreatDoorZ16
namespace Go.Proofs.YthlnaldahkgjnaaGreatDoor
open Go Go.RowKit _root_.Go.Proofs.Tryz
set_option linter.unusedVariables false
set_option linter.unusedSimpArgs false
set_option maxRecDepth 100000
set_option maxHeartbeats 16000000
section
set_option linter.unusedSimpArgs false
theorem Zf7 (N:Nat) (j:JO) (cs:List Value) (w:World) (h:RJ w j cs) (hg:jsz N j) (hN:N<=16777216) (hE:Env w) (hv:versJ j≠none) (hk:∀f,decJ j= .ok f->fokS f) (fE:(itsW j).length<=1000000) (hB:(collapse (firstJ j [nFeedUrl])).toList.isEmpty=true) (hI:(memJ j nItems).isSome=true) (fD:∀x,memJ j nItems=some x->(((kindJ x:Nat):Int) !=4)=false):
 Calls prog 12 #[.agg cs.toArray] w λe w'=>DecR w' (decJ j) e/\Ext w w':=by
 obtain ⟨bt,gS⟩:=Option.ne_none_iff_exists'.1 hv;have gX:=gd (λw' (hx:Ext w w')=>Xm j cs w w' h hx);rw[gS] at gX;have du:=gd (λ(b:Nat) (hb:w.heap.size<=b)=>(⟨h,hg,hN,hE,hb⟩:DC w N b j cs));have Z:=gd h;have gG:=gd (λf hf=>XN (f:=f) hv hf);have dH:=gd (λ(t:Int) (E:List Ent) h1 h2 h3 h4=>XV (t:=t) (E:=E) hv h1 h2 h3 h4);have dw:=gd hk;have fl:=gd hE;have HG:=gd hg;obtain ⟨i0,dV,d5,d6,d7⟩:=Yr XB;obtain ⟨A,p,c,B,q,d,hc⟩:=h.cells;obtain ⟨K,hK⟩:∃a,kindJ j=a:=⟨_,rfl⟩;obtain ⟨Bb,fy⟩:∃a,bJ j=a:=⟨_,rfl⟩;obtain ⟨Nn,fF⟩:∃a,nJ j=a:=⟨_,rfl⟩;obtain ⟨Ss,fH⟩:∃a,sJ j=a:=⟨_,rfl⟩;obtain ⟨At,fx⟩:∃a,atJ j=a:=⟨_,rfl⟩;rw[hK,fy,fF,fH,fx] at hc;unfold wcells at hc;have fj:=gd hc;rw[hc] at gX;obtain ⟨W1,gy⟩:∃W1,(w.alloc (.cells #[.int .i64 K,.bool Bb,.int .i64 Nn,.string Ss,.slice A p c,.slice B q d,.int .i64 At] 25)).alloc (.cells #[.slice none 0 0,.string ⟨#[]⟩,.string ⟨#[]⟩,.string ⟨#[]⟩,.int .i64 0,.slice none 0 0] 32)=W1:=⟨_,rfl⟩;have dh:Ext w W1:=by rw[<-gy];exact ((Ext.refl w).alloc _).alloc _
 have hT:W1.heap[w.heap.size]? =some (.cells #[.int .i64 K,.bool Bb,.int .i64 Nn,.string Ss,.slice A p c,.slice B q d,.int .i64 At] 25 (0,0)):=by rw[<-gy];exact ((Ext.refl _).alloc _).heap (Zh w _)
 have f1:W1.heap[w.heap.size+1]? =some (.cells (cellsC zeroC).toArray 32 (0,0)):=by rw[<-gy];exact YN w _ _
 have de:W1.heap.size=w.heap.size+2:=by rw[<-gy,Zp,Zp]
 have c0:=Zb _ _ 0 _ _ _ hT;have c1:=Zb _ _ 1 _ _ _ hT;have c2:=Zb _ _ 2 _ _ _ hT;have c3:=Zb _ _ 3 _ _ _ hT;have c4:=Zb _ _ 4 _ _ _ hT;have c5:=Zb _ _ 5 _ _ _ hT;have c6:=Zb _ _ 6 _ _ _ hT;have gY:=gd dh;have dI:=gd f1;have gx:=gd de;have bi:Hid (idW j=if collapse (firstJ j [nFeedUrl])=noS then firstJ j [nHome] else firstJ j [nFeedUrl]):=rfl;have gE:∀n,(firstJ j [n]).size<=16777216:=λn=>by
  rw[Xk];cases hm:memJ j n with
  |none=>exact Zt _
  |some y=>exact Zl (Jk (YM hg hm)) hN
 have gR:(idW j).size<=16777216:=by unfold idW;split<;>exact gE _
 have bl:=gd gE;have dL:=gd gR;obtain ⟨R,hR⟩:∃R,decJ j=R:=⟨_,rfl⟩;rw[hR];have gW:=gd hR;obtain ⟨L,hL⟩:∃L,itsW j=L:=⟨_,rfl⟩;have fB:headWJ j=orF (orF (orF (chkJ j false [nFeedUrl,nHome,nTitle,nUpdated]) (reqF j (idW j))) (faultD (dateJ j [nUpdated]))) (itemK j):=rfl;have gO:=λw'=>Xc (firstJ j [nFeedUrl]) w' (by have:=gE nFeedUrl;omega);have gA:(collapse (firstJ j [nFeedUrl])).toList.isEmpty=true/\Hid ((cellsC (F0 j)).toArray.setIfInBounds 1 (.string (firstJ j [nHome]))=(cellsC (FE j 0 [] (.slice none 0 0))).toArray)\/
  (collapse (firstJ j [nFeedUrl])).toList.isEmpty=false/\Hid (F0 j=FE j 0 [] (.slice none 0 0)):=by
  by_cases hb:collapse (firstJ j [nFeedUrl])=noS
  ·refine Or.inl ⟨by rw[hb];exact Xo [],?_⟩
   show _=_
   unfold FE idW
   rw[Zi hb]
   rfl
  ·refine Or.inr ⟨XS hb,?_⟩
   show _=_
   unfold F0 FE idW
   rw[Zf hb]
 have g9:((memJ j nItems).isSome=false/\Hid (memJ j nItems=none/\itemK j=none/\L= []))\/∃x,(memJ j nItems).isSome=true/\Hid (memJ j nItems=some x/\L=itemsJ x)/\(((((kindJ x:Nat):Int) !=4)=false/\Hid (itemK j=none))\/((((kindJ x:Nat):Int) !=4)=true/\Hid (itemK j=some (atJ x,21)))):=by
  cases hm:memJ j nItems with
  |none=>exact Or.inl ⟨rfl,rfl,by unfold itemK;rw[hm],by rw[<-hL];unfold itsW;rw[hm]⟩
  |some x=>
   refine Or.inr ⟨x,rfl,⟨rfl,by rw[<-hL];unfold itsW;rw[hm]⟩,?_⟩;by_cases h4:kindJ x=4
   ·exact Or.inl ⟨by rw[h4];rfl,by show _=_;unfold itemK;rw[hm];exact Zf (by simpa using h4)⟩
   ·exact Or.inr ⟨by rw[Yj];omega,by show _=_;unfold itemK;rw[hm];exact Zi h4⟩
 have fi:=gd gO;have dB:Hid (L.length<=1000000):=by show _<=_;rw[<-hL];exact fE
 have HL:=gd hL;have dA:=gd fB;clear h hg hE hv gS hk hc dh hT f1 de gE gR hR hL fB gO fE hK fy fF fH fx;rw[fj.out];rcases gA with ⟨fO,dS⟩|⟨fO,dT⟩
 rotate_left
 ·rw[fO] at hB;cases hB
 rcases g9 with ⟨fW,hm⟩|⟨x,fW,hm,⟨fX,hk⟩|⟨fX,hk⟩⟩
 ·rw[fW] at hI;cases hI
 rotate_left
 ·have h9:=fD x hm.out.1;rw[fX] at h9;cases h9
 clear hB hI fD
 all_goals (
  go_enter func12,ntmps12
  go_wp2_with (first|(go_at_call 34;(refine Za (UL j cs w2.heap.size _ (atJ y) 21 w _ Z.out h5.rd (by decide)) ?_);rintro e bw ⟨rfl,f4,gN⟩;(have be:=h5.turn J gN f4);(have i4:=Zb _ _ 4 _ _ _ (gN.heap gn (by have:=dC.out;omega))))|(go_at_call 33;(refine Za (UN j cs w2.heap.size _ nItems w _ Z.out ge.ext ge.rd) ?_);rintro e fg ⟨⟨y,cy,rfl,d0,dZ⟩,di⟩;(obtain ⟨A1,fv,B1,q2,d2,n1,css,fR,fQ,dd,fS⟩:=U9 d0);(unfold wcells at fR);subst fR;(try (obtain rfl:y=x:=(Ys (hm.out.1.symm.trans (dZ.elim id λe=>absurd (hm.out.1.symm.trans e.1) (by simp)))).symm));(have gH:=ge.next di);(have gn:=Zh fg (.cells #[.int .i64 (kindJ y:Nat),.bool (bJ y),.int .i64 (nJ y),.string (sJ y),.slice A1 (itemsJ y).length fv,.slice B1 q2 d2,.int .i64 (atJ y:Nat)] 25));(have h5:=gH.next ((Ext.refl fg).alloc (.cells #[.int .i64 (kindJ y:Nat),.bool (bJ y),.int .i64 (nJ y),.string (sJ y),.slice A1 (itemsJ y).length fv,.slice B1 q2 d2,.int .i64 (atJ y:Nat)] 25)));(have dC:Hid (w2.heap.size<fg.heap.size):=(Ze.1 gH.rd.1).1);(have i0:=Zb _ _ 0 _ _ _ gn);(have i4:=Zb _ _ 4 _ _ _ gn);(have i6:=Zb _ _ 6 _ _ _ gn))|(go_at_call 32;(refine Za (Gj h6 gb.ext gb.rd [nUpdated] (by decide) _ (by first|rfl|exact (Zp _ _).symm|(simp;done))) ?_);rintro e bv ⟨t,rfl,ht,f3,fL⟩;(have HT:=gd ht);clear ht;(have gc:=gb.turn J fL f3);(have g4:=(gc.cell 4 (v:= .int .i64 0) rfl).1);(have bo:=(gc.cell 4 rfl).2);(have ge:=gc.set J 4 (.int .i64 t) (F':=FE j t [] (.slice none 0 0)) rfl))|(go_at_call 31;(refine Za (XJ j cs w2.heap.size _ (idW j) w _ Z.out hn.ext hn.rd dL.out) ?_);rintro e bu ⟨rfl,f2,fK⟩;(have gb:=hn.turn J fK f2))|(go_at_call 30;(refine Za (fi.out _) ?_);rintro e w9 ⟨rfl,d3⟩;(have gf:=gu.next d3);(have g1:=(gf.cell 1 (v:= .string (firstJ j [nFeedUrl])) rfl).1);(have bn:=(gf.cell 1 rfl).2);(have g3:=(gf.cell 3 (v:= .string (firstJ j [nHome])) rfl).1);(first|(have hn:=gf.set J 1 (.string (firstJ j [nHome])) (F':=FE j 0 [] (.slice none 0 0)) dS.out;(have e1:=(hn.cell 1 (v:= .string (idW j)) rfl).1))|(have hn:DF w w2.heap.size U.heap.size (w.heap.size+1) cs _ (FE j 0 [] (.slice none 0 0)) w9:=(by rw[<-dT.out];exact gf);(have e1:=(hn.cell 1 (v:= .string (idW j)) rfl).1);clear g1)))|(go_at_call 29;(refine Za (Xu h6 dl hP [nHome] (by decide) _ (by first|rfl|exact (Zp _ _).symm|(simp;done))) ?_);rintro e U ⟨rfl,dm⟩;(have gw:=Zh U (.cells #[.slice none 0 0,.string (firstJ j [nFeedUrl]),.string (firstJ j [nTitle]),.string (firstJ j [nHome]),.int .i64 0,.slice none 0 0] 32));(have fd:=dm.alloc (.cells #[.slice none 0 0,.string (firstJ j [nFeedUrl]),.string (firstJ j [nTitle]),.string (firstJ j [nHome]),.int .i64 0,.slice none 0 0] 32));(have bh:w2.heap.size<U.heap.size:=Z3 (Ze.1 hP.1).1 dm.size);(have J:DK w w2.heap.size U.heap.size (w.heap.size+1):=(by have q1:=gx.out;have q2:=S.size;exact ⟨by omega,by omega,by omega,by omega,by omega,by omega⟩));(have gu:DF w w2.heap.size U.heap.size (w.heap.size+1) cs _ (F0 j) _:=⟨hP.ext fd,gw,fd.heap da,dl.trans fd⟩);(have g0:=(gu.cell 1 (v:= .string (firstJ j [nFeedUrl])) rfl).1))|(go_at_call 29;(refine Za (Xu h6 gr ga [nTitle] (by decide) _ (by first|rfl|exact (Zp _ _).symm|(simp;done))) ?_);rintro e w6 ⟨rfl,gs⟩;(have dl:=gr.trans gs);(have hP:=ga.ext gs);(have da:=gs.heap f9))|(go_at_call 29;(refine Za (Xu h6 dk h8 [nFeedUrl] (by decide) _ (by first|rfl|exact (Zp _ _).symm|(simp;done))) ?_);rintro e w5 ⟨rfl,gq⟩;(have gr:=dk.trans gq);(have ga:=h8.ext gq);(have f9:=gq.heap f8))|(go_at_call 28;(refine Za (VE h6 dj gD [nFeedUrl,nHome,nTitle,nUpdated] (by decide) _ (by first|rfl|exact (Zp _ _).symm|(simp;done))) ?_);rintro e w4 ⟨rfl,h8,fN⟩;(have dk:=Bar.ext dj fN h6.hb);(have f8:=fN.heap f7 (by have q1:=gx.out;have q2:=S.size;omega)))|(go_at_call 14;(have hz:=gX.out W1 gY.out);(refine Za hz ?_);clear hz;rintro e w2 ⟨rfl,S⟩;(have q0:=Ext.cell S c0);(have q1:=Ext.cell S c1);(have q2:=Ext.cell S c2);(have q3:=Ext.cell S c3);(have q4:=Ext.cell S c4);(have q5:=Ext.cell S c5);(have q6:=Ext.cell S c6);(have h6:=du.out w2.heap.size (Zl gY.out.size S.size));(have gT:=(Ext.refl w2).alloc (.cells #[.int .i64 K,.bool Bb,.int .i64 Nn,.string Ss,.slice A p c,.slice B q d,.int .i64 At,.int .i64 0,.int .i64 0] 67));(have dj:=(gY.out.trans S).trans gT);(have f7:=(S.trans gT).heap dI.out);(have gD:RdAt w2.heap.size cs none (w2.alloc (.cells #[.int .i64 K,.bool Bb,.int .i64 Nn,.string Ss,.slice A p c,.slice B q d,.int .i64 At,.int .i64 0,.int .i64 0] 67)):=⟨(by rw[fj.out];exact Zh w2 _),λe he=>(by cases he)⟩))))
 focus
  have dQ:itemsJ y=L:=hm.out.2.symm
  subst dQ
  have fo:=h5.fault (o':=headWJ j) (by rw[dA.out,hk.out,Y9];rfl)
  have dz:Hid (itemsJ y≠ []->jsz N y):=λ_=>YM HG.out hm.out.1
  clear h5
 all_goals (
  have bg:(itemsJ y).length<=1000000:=dB.out
  have dK:=gd dd
  have fk:=gd fS
  have fh:=gd fQ
  have fp:=gd fo
  clear dd fS fQ fo i0 i4 i6 gn
  go_loopw [74] (λi wr=>∃(k:Nat) (E:List Ent) (eA:Option Addr) (ec:Nat) (O:Option (Nat×Nat)),k<=(itemsJ y).length/\i= .int .i64 (k:Nat)/\Hid (E.length=k)/\Hid (DF w w2.heap.size U.heap.size (w.heap.size+1) cs O (FE j t E (.slice eA E.length ec)) wr)/\Hid (OEnts wr w.heap.size (.slice eA E.length ec) E)/\Hid (∀(i:Nat) (e:Ent) (x:JO),E[i]? =some e->(itemsJ y)[i]? =some x->EntR x e)/\Hid (O=orF (headWJ j) (firstFs ((itemsJ y).take k)))) (λi _=>(itemsJ y).length - (intOf i).toNat)
  case atStart=>exact ⟨0,[],none,0,headWJ j,Zt _,rfl,rfl,fp.out,OEnts.nil _ _,(λi e x he _=>by simp at he),(by rw[List.take_zero];exact (Y9 _).symm)⟩
  case round=>
   obtain ⟨k,E,eA,ec,O,hk,rfl,hV,V,HO,fm,hO⟩:=hrel
   by_cases hD:k<(itemsJ y).length
   ·have dX:(k:Int)<((itemsJ y).length:Int):=(by omega)
    have bp:(0:Int)<=(k:Int):=(by omega)
    have fP:k<css.length:=(by rw[fh.out];exact hD)
    have gj:=fk.out k (itemsJ y)[k] css[k] (Zc hD) (Zc fP)
    have fZ:∀c∈css,c.length=7:=by
     intro c hc
     obtain ⟨i,hi,rfl⟩:=List.mem_iff_getElem.1 hc
     exact (fk.out i ((itemsJ y)[i]'(by rw[<-fh.out];exact hi)) css[i] (Zc _) (Zc hi)).len
    obtain ⟨ad,cap,hA,G⟩:=RSl.elem (dK.out.ext V.out.ext) (by omega) fZ k css[k] (Zc fP)
    injection hA with hA1 hA2 hA3
    subst hA1
    clear hA2 hA3 fZ
    rw[Y7] at G
    obtain ⟨C,hC⟩:∃C,css[k]=C:=⟨_,rfl⟩
    rw[hC] at gj G
    obtain ⟨X,hX⟩:∃X,(itemsJ y)[k]=X:=⟨_,rfl⟩
    rw[hX] at gj
    obtain ⟨A4,p4,hw,B4,hF,d4,gm⟩:=gj.cells
    obtain ⟨K4,fC⟩:∃a,kindJ X=a:=⟨_,rfl⟩
    obtain ⟨hp,gJ⟩:∃a,bJ X=a:=⟨_,rfl⟩
    obtain ⟨hs,gK⟩:∃a,nJ X=a:=⟨_,rfl⟩
    obtain ⟨hu,gL⟩:∃a,sJ X=a:=⟨_,rfl⟩
    obtain ⟨ho,gI⟩:∃a,atJ X=a:=⟨_,rfl⟩
    rw[fC,gJ,gK,gL,gI] at gm
    unfold wcells at gm
    have dt:=gd gm
    have ft:Hid (RJ w X C):=⟨_,gj⟩
    rw[gm] at G
    have u0:=G 0 _ rfl
    have u1:=G 1 _ rfl
    have u2:=G 2 _ rfl
    have u3:=G 3 _ rfl
    have u4:=G 4 _ rfl
    have u5:=G 5 _ rfl
    have u6:=G 6 _ rfl
    rw[add_zero] at u0
    have gM:∀i,0<i->(ad.add (k*7)).add i=⟨(ad.add (k*7)).block,(ad.add (k*7)).off+i,none⟩:=λi hi=>Zf (by omega)
    rw[gM _ (by omega)] at u1 u2 u3 u4 u5 u6
    have gZ:=gd hX
    have bd:=gd hC
    clear gM G gj hX hC fC gJ gK gL gI gm
    cases O with
    |none=>
     have hj:cs.length=7:=(by obtain ⟨_,_,_,_,_,_,e⟩:=Z.out.cells;rw[e];rfl)
     obtain ⟨r7,r8, -⟩:=Yu V.out.rd hj
     simp only[faultA,faultE] at r7 r8
     have bs:w2.heap.size<wr.heap.size:=(Ze.1 V.out.rd.1).1
     have fY:U.heap.size<wr.heap.size:=(Ze.1 V.out.fb).1
     have f0:w.heap.size+1<wr.heap.size:=(Ze.1 V.out.rb).1
     obtain ⟨WB,gz⟩:∃WB,(wr.alloc (.cells #[.int .i64 (K4:Nat),.bool hp,.int .i64 hs,.string hu,.slice A4 p4 hw,.slice B4 hF d4,.int .i64 (ho:Nat)] 25)).alloc (.cells #[.int .i64 (K4:Nat),.bool hp,.int .i64 hs,.string hu,.slice A4 p4 hw,.slice B4 hF d4,.int .i64 (ho:Nat),.int .i64 0,.int .i64 0] 67)=WB:=⟨_,rfl⟩
     have gF:Ext wr WB:=(by rw[<-gz];exact ((Ext.refl wr).alloc _).alloc _)
     have f6:WB.heap[wr.heap.size+1]? =some (.cells #[.int .i64 (K4:Nat),.bool hp,.int .i64 hs,.string hu,.slice A4 p4 hw,.slice B4 hF d4,.int .i64 (ho:Nat),.int .i64 0,.int .i64 0] 67 (0,0)):=(by rw[<-gz];exact YN wr _ _)
     have dR:Hid (RdAt (wr.heap.size+1) C none WB):=⟨by rw[dt.out];exact f6,λe he=>by cases he⟩
     have gw:=gd (V.out.next gF)
     have bj:=gd (OEnts.ext HO.out gF)
     have df:WB.heap.size=wr.heap.size+2:=(by rw[<-gz,Zp,Zp])
     have bk:=gd df
     have f5:=(gw.out.cell 5 (v:= .slice eA E.length ec) rfl).1
     have dM:=gd gF
     have dy:Hid (jsz N X):=by
      have h4:∃a l,y= .arr a l:=by
       cases y with
       |arr a l=>exact ⟨a,l,rfl⟩
       |_=>exact absurd hD (Nat.not_lt_zero _)
      obtain ⟨a4,l4,e4⟩:=h4
      have g8:jsz N y:=dz.out (λe=>by rw[e4] at hD e;exact absurd hD (by rw[e];exact Nat.not_lt_zero _))
      have dn:X∈itemsJ y:=(by rw[<-gZ.out];exact ZO hD)
      rw[e4] at g8 dn
      rw[jsz] at g8
      exact g8 X dn
     clear df gF f6 hj
     go_wp2
     refine rN ?_
     change wpAny _ _ _ _ _ _ _ (World.drew _)
     have hl:=(Ext.refl WB).drew
     have gB:WB.drew.cell? ⟨U.heap.size,5,none⟩=some (.slice eA E.length ec):=f5
     refine X8 (i:=0) (v:= .pointer (some ⟨U.heap.size,5,none⟩)) (λw'=>w'.cell? ⟨U.heap.size,5,none⟩=some (.slice eA E.length ec)) 7 rfl (by kernel_rfl) (λ_ _ _ h=>h) (Or.inl ⟨by rfl,λw' hS=>by go_simp⟩) gB ?_
     refine tT 1 (.slice eA E.length ec) rfl (λw' hS=>by have hq:w'.cell? ⟨U.heap.size,5,none⟩=some (.slice eA E.length ec):=hS;go_simp) gB ?_
     refine tT 2 (.pointer (some ⟨wr.heap.size+1,0,none⟩)) rfl (λw' hS=>by go_simp) gB ?_
     go_simp
     refine Yo (i:=3) rfl (by kernel_rfl) (λK2 D=> ?_)
     go_simp
     go_at_call 35
     refine Za (U0 N X C (wr.heap.size+1) none w WB.drew ft.out dy.out hN fl.out (gw.out.ext.trans hl) (by have:=V.out.ext.size;omega) (dR.out.ext hl)) ?_
     rintro e9 w3 ⟨Ex,rfl,fA,gD,fM⟩
     have hW:Ext wr w3:=Bar.ext (dM.out.trans hl) fM (ZM _)
     have gU:=V.out.next hW
     have fq:=OEnts.ext HO.out hW
     have g5:=(gU.cell 5 (v:= .slice eA E.length ec) rfl).1
     refine D _ _ (λ_=>g5) ?_
     clear D K2
     have hG:=gU.next ((Ext.refl w3).alloc (.cells (eCells Ex).toArray 64))
     have hU:=OEnts.ext fq ((Ext.refl w3).alloc (.cells (eCells Ex).toArray 64))
     have h8:=gD.ext ((Ext.refl w3).alloc (.cells (eCells Ex).toArray 64))
     have g6:=(hG.cell 5 (v:= .slice eA E.length ec) rfl).1
     have gP:RSl (w3.alloc (.cells (eCells Ex).toArray 64)) 5 (.slice (some ⟨w3.heap.size,0,none⟩) 1 1) 1 (eCells Ex):=ZY (w:=w3) (n:=1) (cs:=eCells Ex) rfl (by decide)
     refine Yo (i:=4) rfl (by kernel_rfl) (λK2 D=> ?_)
     go_simp
     refine D _ _ (λ_=>g6) ?_
     clear D K2
     refine Yo (i:=5) rfl (by kernel_rfl) (λK2 D=> ?_)
     refine Z5 _ (by rfl) (.tmp 87) (.tmp 90) _ (by rfl) w.heap.size 64 i0 _ 5 72 underlying30 dV d5 d6 d7 rfl (by decide) _ E.length (flatE E) (by rfl) hU _ 1 (eCells Ex) (by rfl) gP (Z1 Ex) (by have:=hV.out;unfold maxLen;omega) (by have:=hV.out;omega) hG.ext.size ?_
     intro v5 gt hY h7 fJ
     obtain ⟨A5,hH,d1⟩:∃A c,v5= .slice A (E.length+1) c:=by
      rcases hY.2 with ⟨h1,h2⟩|⟨g,cap,bm,h1,_⟩
      ·exact ⟨none,0,by rw[h1,h2]⟩
      ·exact ⟨_,cap,h1⟩
     subst d1
     have gr:Ext w gt:=Ext.app hG.ext h7 hU (Zd _)
     have gh:DF w w2.heap.size U.heap.size (w.heap.size+1) cs none (FE j t E (.slice eA E.length ec)) gt:=⟨⟨J9 hU h7 hG.rd.1 (by decide),hG.rd.2⟩,J9 hU h7 hG.fb (by decide),J9 hU h7 hG.rb (by decide),gr⟩
     have ga:RdAt (wr.heap.size+1) C (entF X) gt:=⟨J9 hU h7 h8.1 (by decide),h8.2⟩
     have g7:=(gh.cell 5 (v:= .slice eA E.length ec) rfl).1
     have dP:=(gh.cell 5 (v:= .slice eA E.length ec) rfl).2
     refine D _ _ (λ_=>g7) ?_
     clear D K2
     refine Yo (i:=6) rfl (by kernel_rfl) (λK2 D=> ?_)
     go_simp
     refine D _ _ (λ_=>g7) ?_
     clear D K2
     refine Yo (i:=7) rfl (by kernel_rfl) (λK2 D=> ?_)
     go_simp
     refine D _ _ (λh=>absurd (show true=false from h) (by decide)) ?_
     clear D K2
     refine Jy (by kernel_rfl) ?_
     have gi:=gh.set J 5 (.slice A5 (E.length+1) hH) (F':=FE j t (E++ [Ex]) (.slice A5 (E++ [Ex]).length hH)) (by rw[Zj,Yb];rfl)
     have g2:=XK (p:=⟨U.heap.size,5,none⟩) hY gh.fb (by decide) (.slice A5 (E.length+1) hH)
     have hP:RdAt (wr.heap.size+1) C (entF X) (gt.setCell ⟨U.heap.size,5,none⟩ (.slice A5 (E.length+1) hH)):=⟨by rw[Zs _ _ _ _ (by show wr.heap.size+1≠U.heap.size;omega)];exact ga.1,ga.2⟩
     obtain ⟨W6,fI⟩:∃W6,gt.setCell ⟨U.heap.size,5,none⟩ (.slice A5 (E.length+1) hH)=W6:=⟨_,rfl⟩
     rw[fI] at gi g2 hP|-
     have dY:C.length=7:=(by obtain ⟨_,_,_,_,_,_,e⟩:=ft.out.cells;rw[e];rfl)
     obtain ⟨s7,s8, -⟩:=Yu hP dY
     obtain ⟨-, -,z0⟩:=Yu gi.rd (by obtain ⟨_,_,_,_,_,_,e⟩:=Z.out.cells;rw[e];rfl)
     obtain ⟨y7,y8, -⟩:=Yu gi.rd (by obtain ⟨_,_,_,_,_,_,e⟩:=Z.out.cells;rw[e];rfl)
     have z7:=z0 7
     have z8:=z0 8
     have gV:=gd gi
     have dE:=gd g2
     have dJ:=gd hP
     have dv:=gd fA
     clear fI gh gi g2 hP ga h8 gD gU hG fq hU g5 g6 g7 dP hY h7 fJ gP gr fA hW fM gB f5 gz hl z0
     go_wp2
     have F:W6.drew.cell? ⟨wr.heap.size+1,7,none⟩=some (.int .i64 (faultA (entF X):Nat))/\W6.drew.cell? ⟨wr.heap.size+1,8,none⟩=some (.int .i64 (faultE (entF X):Nat)):=⟨s7,s8⟩
     have d8:W6.drew.cell? ⟨w2.heap.size,7,none⟩=some (.int .i64 0):=y7
     have ba:W6.drew.cell? ⟨w2.heap.size,8,none⟩=some (.int .i64 0):=y8
     have bb:W6.drew.frozen? ⟨w2.heap.size,7,none⟩=false:=z7
     have bc:W6.drew.frozen? ⟨w2.heap.size,8,none⟩=false:=z8
     refine rN ?_
     change wpAny _ _ _ _ _ _ _ (World.drew _)
     refine Yi (λw'=>w'.cell? ⟨wr.heap.size+1,7,none⟩=some (.int .i64 (faultA (entF X):Nat))/\w'.cell? ⟨wr.heap.size+1,8,none⟩=some (.int .i64 (faultE (entF X):Nat))) ?_
     refine tG 0 (.pointer (some ⟨w2.heap.size,0,none⟩)) F ?_
     refine tG 1 (.pointer (some ⟨w2.heap.size,0,none⟩)) F ?_
     refine tG 2 (.pointer (some ⟨wr.heap.size+1,0,none⟩)) F ?_
     refine tG 3 (.pointer (some ⟨wr.heap.size+1,0,none⟩)) F ?_
     go_simp
     refine tG 4 (.pointer (some ⟨wr.heap.size+1,7,none⟩)) F ?_
     refine tS 5 (.int .i64 (faultA (entF X):Nat)) rfl (λw' hS=>by have hq:=hS.1;go_simp) F ?_
     refine tG 6 (.pointer (some ⟨wr.heap.size+1,0,none⟩)) F ?_
     go_simp
     refine tG 7 (.pointer (some ⟨wr.heap.size+1,0,none⟩)) F ?_
     refine tG 8 (.pointer (some ⟨wr.heap.size+1,8,none⟩)) F ?_
     refine tS 9 (.int .i64 (faultE (entF X):Nat)) rfl (λw' hS=>by have hq:=hS.2;go_simp) F ?_
     go_simp
     refine tG 10 (.pointer (some ⟨w2.heap.size,0,none⟩)) F ?_
     refine tG 11 (.pointer (some ⟨w2.heap.size,7,none⟩)) F ?_
     go_simp
     refine Zv (i:=12) rfl (by kernel_rfl) (λK2 D=> ?_)
     go_simp
     have gC:wr.heap.size+1≠w2.heap.size:=(by omega)
     obtain ⟨W7,gk⟩:∃W7,(W6.setCell ⟨w2.heap.size,7,none⟩ (.int .i64 (faultA (entF X):Nat))).drew=W7:=⟨_,rfl⟩
     rw[gk]
     have hy:W6.drew.setCell ⟨w2.heap.size,7,none⟩ (.int .i64 (faultA (entF X):Nat))=W7:=gk
     have Q:W7.cell? ⟨wr.heap.size+1,7,none⟩=some (.int .i64 (faultA (entF X):Nat))/\W7.cell? ⟨wr.heap.size+1,8,none⟩=some (.int .i64 (faultE (entF X):Nat)):=by
      rw[<-hy]
      exact ⟨(Zu (a:=⟨wr.heap.size+1,7,none⟩) (Zs _ _ _ _ gC)).trans s7,(Zu (a:=⟨wr.heap.size+1,8,none⟩) (Zs _ _ _ _ gC)).trans s8⟩
     obtain ⟨m8,ds⟩:=Zaf (gV.out.rd.ext (Ext.refl W6).drew) (by obtain ⟨_,_,_,_,_,_,e⟩:=Z.out.cells;rw[e];rfl) (.int .i64 (faultA (entF X):Nat))
     simp only[faultE] at m8
     rw[hy] at m8 ds
     refine D _ _ Q ?_
     clear D K2
     refine tG 13 (.pointer (some ⟨w2.heap.size,0,none⟩)) Q ?_
     refine tG 14 (.pointer (some ⟨w2.heap.size,8,none⟩)) Q ?_
     go_simp
     refine Zv (i:=15) rfl (by kernel_rfl) (λK2 D=> ?_)
     go_simp
     obtain ⟨W8,hJ⟩:∃W8,W7.setCell ⟨w2.heap.size,8,none⟩ (.int .i64 (faultE (entF X):Nat))=W8:=⟨_,rfl⟩
     rw[hJ]
     have fG:W8.cell? ⟨wr.heap.size+1,7,none⟩=some (.int .i64 (faultA (entF X):Nat))/\W8.cell? ⟨wr.heap.size+1,8,none⟩=some (.int .i64 (faultE (entF X):Nat)):=by
      rw[<-hJ]
      exact ⟨(Zu (a:=⟨wr.heap.size+1,7,none⟩) (Zs _ _ _ _ gC)).trans Q.1,(Zu (a:=⟨wr.heap.size+1,8,none⟩) (Zs _ _ _ _ gC)).trans Q.2⟩
     refine D _ _ fG ?_
     clear D K2
     refine sE ?_
     have gu:Hid (DF w w2.heap.size U.heap.size (w.heap.size+1) cs (entF X) (FE j t (E++ [Ex]) (.slice A5 (E++ [Ex]).length hH)) W8):=by
      have hd:=gV.out.next (Ext.refl W6).drew
      have dc:=Zag hd.rd (by obtain ⟨_,_,_,_,_,_,e⟩:=Z.out.cells;rw[e];rfl) dJ.out.2
      rw[hy,hJ] at dc
      refine ⟨dc,?_,?_,?_⟩
      ·rw[<-hJ,<-hy,Zs _ _ _ _ J.bf.symm,Zs _ _ _ _ J.bf.symm];exact hd.fb
      ·rw[<-hJ,<-hy,Zs _ _ _ _ J.br.symm,Zs _ _ _ _ J.br.symm];exact hd.rb
      ·rw[<-hJ,<-hy]
       exact (hd.ext.setCell (p:=⟨w2.heap.size,7,none⟩) J.kb _).setCell (p:=⟨w2.heap.size,8,none⟩) J.kb _
     have dF:Hid (OEnts W8 w.heap.size (.slice A5 (E++ [Ex]).length hH) (E++ [Ex])):=by
      have hd:=gV.out.next (Ext.refl W6).drew
      have h0:=Yw dE.out (Ext.refl W6).drew
      have h1:=XK (p:=⟨w2.heap.size,7,none⟩) h0 hd.rd.1 (by decide) (.int .i64 (faultA (entF X):Nat))
      rw[hy] at h1
      have hh:=ZR W6.drew w2.heap.size 7 _ _ (.int .i64 (faultA (entF X):Nat)) hd.rd.1
      rw[hy] at hh
      have h2:=XK (p:=⟨w2.heap.size,8,none⟩) h1 hh (by decide) (.int .i64 (faultE (entF X):Nat))
      rw[hJ] at h2
      show OEnts W8 _ _ _
      rw[Zj,Yb]
      exact OEnts.snoc h2
     have fn:Hid (∀(i:Nat) (e:Ent) (x:JO),(E++ [Ex])[i]? =some e->(itemsJ y)[i]? =some x->EntR x e):=λi e x he hx=>by
      by_cases hi:i<E.length
      ·rw[Z2 hi] at he
       exact fm.out i e x he hx
      ·have dW:i=k:=by
        have:=(ZE.1 he).1
        have hE:=hV.out
        simp at this
        omega
       subst dW
       rw[ZK (by rw[hV.out];exact Zd _),hV.out,Nat.sub_self] at he
       rw[Zc hD,gZ.out] at hx
       simp at he hx
       subst he hx
       exact dv.out
     have dG:Hid (entF X=orF (headWJ j) (firstFs ((itemsJ y).take (k+1)))):=by
      show _=_
      rw[Ua hD,<-Xw,<-hO.out,gZ.out]
      rfl
     clear hy gk hJ F Q fG s7 s8 y7 y8 d8 ba z7 z8 bb bc m8 ds
     go_wp2
     go_roundw
     case rel=>exact ⟨k+1,E++ [Ex],A5,hH,entF X,hD,by go_num,(by have:=hV.out;rw[Zj,this];rfl),gu,dF,fn,dG⟩
     case measure=>simp[intOf];omega
    |some f=>
     have hr:=V.out.next ((Ext.refl wr).alloc (.cells #[.int .i64 (K4:Nat),.bool hp,.int .i64 hs,.string hu,.slice A4 p4 hw,.slice B4 hF d4,.int .i64 (ho:Nat)] 25))
     have hj:cs.length=7:=(by obtain ⟨_,_,_,_,_,_,e⟩:=Z.out.cells;rw[e];rfl)
     have fV:f.2≠0:=hr.rd.2 f rfl
     obtain ⟨r7,r8, -⟩:=Yu hr.rd hj
     have dU:(((f.2:Nat):Int) !=0)=true:=(by rw[Yj];omega)
     have fT:¬((f.2:Nat):Int)=0:=(by omega)
     have gg:=gd hr
     have hQ:R= .error f:=(by rw[<-gW.out];exact gG.out f (by rw[HL.out];exact Xd (k:=k) hO.out.symm))
     subst hQ
     obtain ⟨fa,fe⟩:=f
     simp only[faultA,faultE] at r7 r8
     clear hr hj
     go_wp2
     have hl:=(Ext.refl (wr.alloc (.cells #[.int .i64 (K4:Nat),.bool hp,.int .i64 hs,.string hu,.slice A4 p4 hw,.slice B4 hF d4,.int .i64 (ho:Nat)] 25))).drew
     have F:(wr.alloc (.cells #[.int .i64 (K4:Nat),.bool hp,.int .i64 hs,.string hu,.slice A4 p4 hw,.slice B4 hF d4,.int .i64 (ho:Nat)] 25)).drew.cell? ⟨w2.heap.size,7,none⟩=some (.int .i64 (fa:Nat))/\(wr.alloc (.cells #[.int .i64 (K4:Nat),.bool hp,.int .i64 hs,.string hu,.slice A4 p4 hw,.slice B4 hF d4,.int .i64 (ho:Nat)] 25)).drew.cell? ⟨w2.heap.size,8,none⟩=some (.int .i64 (fe:Nat)):=⟨r7,r8⟩
     have go:=hl.heap gg.out.rb
     refine rN ?_
     change wpAny _ _ _ _ _ _ _ (World.drew _)
     refine Yi (λw'=>w'.cell? ⟨w2.heap.size,7,none⟩=some (.int .i64 (fa:Nat))/\w'.cell? ⟨w2.heap.size,8,none⟩=some (.int .i64 (fe:Nat))) ?_
     refine tS 0 (.agg (cellsC zeroC).toArray) rfl (λw' hS=>by go_simp;rfl) F ?_
     refine tG 1 (.pointer (some ⟨w2.heap.size,0,none⟩)) F ?_
     refine tG 2 (.pointer (some ⟨w2.heap.size,0,none⟩)) F ?_
     refine tG 3 (.pointer (some ⟨w2.heap.size,7,none⟩)) F ?_
     go_simp
     refine tS 4 (.int .i64 (fa:Nat)) rfl (λw' hS=>by have hq:=hS.1;go_simp) F ?_
     refine tG 5 (.pointer (some ⟨w2.heap.size,0,none⟩)) F ?_
     refine tG 6 (.pointer (some ⟨w2.heap.size,0,none⟩)) F ?_
     go_simp
     refine tG 7 (.pointer (some ⟨w2.heap.size,8,none⟩)) F ?_
     refine tS 8 (.int .i64 (fe:Nat)) rfl (λw' hS=>by have hq:=hS.2;go_simp) F ?_
     go_simp
     refine Zv (i:=9) rfl (by kernel_rfl) (λK2 D=> ?_)
     refine Z4 rfl 32 (.tmp 2) (.tmp 113) rfl (w.heap.size+1) (cellsC zeroC).toArray rfl rfl _ _ go ZA rfl YQ ?_
     have hM:w.heap.size+1<w2.heap.size:=(by have q1:=gx.out;have q2:=S.size;omega)
     have Q:=Z9 ((Zu (a:=⟨w2.heap.size,7,none⟩) (ZD (wr.alloc (.cells #[.int .i64 (K4:Nat),.bool hp,.int .i64 hs,.string hu,.slice A4 p4 hw,.slice B4 hF d4,.int .i64 (ho:Nat)] 25)).drew (w.heap.size+1) w2.heap.size (cellsC zeroC).toArray (Nat.ne_of_gt hM))).trans F.1) ((Zu (a:=⟨w2.heap.size,8,none⟩) (ZD (wr.alloc (.cells #[.int .i64 (K4:Nat),.bool hp,.int .i64 hs,.string hu,.slice A4 p4 hw,.slice B4 hF d4,.int .i64 (ho:Nat)] 25)).drew (w.heap.size+1) w2.heap.size (cellsC zeroC).toArray (Nat.ne_of_gt hM))).trans F.2)
     refine D _ _ Q ?_
     clear D K2
     refine Zv (i:=10) rfl (by kernel_rfl) (λK2 D=> ?_)
     go_simp
     refine D _ _ Q ?_
     clear D K2
     refine Zv (i:=11) rfl (by kernel_rfl) (λK2 D=> ?_)
     go_simp
     refine D _ _ Q ?_
     clear D K2
     refine sE ?_
     go_wp2
     ((try simp only[Exit.inBlock,Exit.then]);refine Zm (Zw rfl _ _ _ _ _ _ _ rfl (Zk _ _ _ _ _ _ go) underlying32 rfl ZA) rfl ?_)
     exact ⟨rfl,(gg.out.ext.trans hl).setRow (ZM _) _⟩
   ·have bq:k=(itemsJ y).length:=(by omega)
    have dX:¬(k:Int)<((itemsJ y).length:Int):=(by omega)
    cases O with
    |none=>
     have hj:cs.length=7:=(by obtain ⟨_,_,_,_,_,_,e⟩:=Z.out.cells;rw[e];rfl)
     obtain ⟨r7,r8, -⟩:=Yu V.out.rd hj
     simp only[faultA,faultE] at r7 r8
     have fz:=hV.out
     have fc:=dH.out t E (by rw[HL.out,hO.out,ZC (by omega)]) HT.out (by rw[HL.out];omega) (by rw[HL.out];exact fm.out)
     have fU:=dw.out _ fc
     have hQ:R= .ok ⟨[],idW j,firstJ j [nTitle],firstJ j [nHome],t,E⟩:=(by rw[<-gW.out];exact fc)
     subst hQ
     have db:RdC wr (FE j t E (.slice eA E.length ec)):=⟨RSl.nil wr 1,OEnts.reads HO.out⟩
     have dD:=gd (XW (FE j t E (.slice eA E.length ec)) wr (fl.out.ext V.out.ext) fU db)
     have e0:=(V.out.cell 0 (v:= .slice none 0 0) rfl).1
     have e1:=(V.out.cell 1 (v:= .string (idW j)) rfl).1
     have e2:=(V.out.cell 2 (v:= .string (firstJ j [nTitle])) rfl).1
     have e3:=(V.out.cell 3 (v:= .string (firstJ j [nHome])) rfl).1
     have e4:=(V.out.cell 4 (v:= .int .i64 t) rfl).1
     have e5:=(V.out.cell 5 (v:= .slice eA E.length ec) rfl).1
     have fY:U.heap.size<wr.heap.size:=(Ze.1 V.out.fb).1
     have f0:w.heap.size+1<wr.heap.size:=(Ze.1 V.out.rb).1
     have dx:=J.fr
     clear fc fU db hj fz
     go_wp2_with (first|(refine Zg rfl 32 (.tmp 2) (.tmp 127) rfl (w.heap.size+1) #[.slice A9 m9 c9,.string I.id,.string I.title,.string I.link,.int .i64 I.upd,.slice B9 o9 d9] rfl rfl _ _ gQ ZA rfl YQ ?_)|(refine Zg rfl 32 (.tmp 8) (.tmp 125) rfl U.heap.size #[.slice A9 m9 c9,.string I.id,.string I.title,.string I.link,.int .i64 I.upd,.slice B9 o9 d9] rfl rfl _ _ ha ZA rfl YQ ?_;(have n0:=Zb _ _ 0 _ _ _ (Zk hZ U.heap.size _ #[.slice A9 m9 c9,.string I.id,.string I.title,.string I.link,.int .i64 I.upd,.slice B9 o9 d9] _ _ ha));(have n1:=Zb _ _ 1 _ _ _ (Zk hZ U.heap.size _ #[.slice A9 m9 c9,.string I.id,.string I.title,.string I.link,.int .i64 I.upd,.slice B9 o9 d9] _ _ ha));(have n2:=Zb _ _ 2 _ _ _ (Zk hZ U.heap.size _ #[.slice A9 m9 c9,.string I.id,.string I.title,.string I.link,.int .i64 I.upd,.slice B9 o9 d9] _ _ ha));(have n3:=Zb _ _ 3 _ _ _ (Zk hZ U.heap.size _ #[.slice A9 m9 c9,.string I.id,.string I.title,.string I.link,.int .i64 I.upd,.slice B9 o9 d9] _ _ ha));(have n4:=Zb _ _ 4 _ _ _ (Zk hZ U.heap.size _ #[.slice A9 m9 c9,.string I.id,.string I.title,.string I.link,.int .i64 I.upd,.slice B9 o9 d9] _ _ ha));(have n5:=Zb _ _ 5 _ _ _ (Zk hZ U.heap.size _ #[.slice A9 m9 c9,.string I.id,.string I.title,.string I.link,.int .i64 I.upd,.slice B9 o9 d9] _ _ ha)))|(go_at_call 36;(have hz:=dD.out);(refine Za hz ?_);clear hz;rintro e hZ ⟨Y,rfl,dq,ff,dp,gp⟩;(have dr:=ff.sl);(obtain ⟨yp,bx,I⟩:=Y);(obtain ⟨⟨A9,m9,c9,h9⟩,⟨B9,o9,d9,fw⟩⟩:=dr);(dsimp only at h9 fw);(subst h9);(subst fw);(have dN:=gd dq);(have dO:=gd ff);(have fu:=gd dp);clear dq ff dp;(unfold cellsC fCells);(dsimp only);(have ha:=gp.heap V.out.fb);(have gQ:=(ZD hZ U.heap.size (w.heap.size+1) #[.slice A9 m9 c9,.string I.id,.string I.title,.string I.link,.int .i64 I.upd,.slice B9 o9 d9] dx.symm).trans (gp.heap V.out.rb))))
     ((try simp only[Exit.inBlock,Exit.then]);refine Zm (Zw rfl _ _ _ _ #[.slice A9 m9 c9,.string I.id,.string I.title,.string I.link,.int .i64 I.upd,.slice B9 o9 d9] _ _ rfl (Zk _ _ _ _ _ _ gQ) underlying32 rfl ZA) rfl ?_)
     refine ⟨⟨⟨.slice A9 m9 c9,.slice B9 o9 d9,I⟩,rfl,dN.out,?_,⟨⟨_,_,_,rfl⟩,⟨_,_,_,rfl⟩⟩⟩,((V.out.ext.trans gp).setRow J.kf _).setRow J.kr _⟩
     exact (dO.out.grown (Yh _ _ _) (fu.out _ fY)).grown (Yh _ _ _) (fu.out _ f0)
    |some f=>
     have hr:=V.out
     have hj:cs.length=7:=(by obtain ⟨_,_,_,_,_,_,e⟩:=Z.out.cells;rw[e];rfl)
     have fV:f.2≠0:=hr.rd.2 f rfl
     obtain ⟨r7,r8, -⟩:=Yu hr.rd hj
     have dU:(((f.2:Nat):Int) !=0)=true:=(by rw[Yj];omega)
     have fT:¬((f.2:Nat):Int)=0:=(by omega)
     have gg:=gd hr
     have hQ:R= .error f:=(by rw[<-gW.out];exact gG.out f (by rw[HL.out];exact Xd (k:=k) hO.out.symm))
     subst hQ
     obtain ⟨fa,fe⟩:=f
     simp only[faultA,faultE] at r7 r8
     clear hr hj
     go_wp2
     have hl:=(Ext.refl wr).drew
     have F:(wr).drew.cell? ⟨w2.heap.size,7,none⟩=some (.int .i64 (fa:Nat))/\(wr).drew.cell? ⟨w2.heap.size,8,none⟩=some (.int .i64 (fe:Nat)):=⟨r7,r8⟩
     have go:=hl.heap gg.out.rb
     refine rN ?_
     change wpAny _ _ _ _ _ _ _ (World.drew _)
     refine Yi (λw'=>w'.cell? ⟨w2.heap.size,7,none⟩=some (.int .i64 (fa:Nat))/\w'.cell? ⟨w2.heap.size,8,none⟩=some (.int .i64 (fe:Nat))) ?_
     refine tS 0 (.agg (cellsC zeroC).toArray) rfl (λw' hS=>by go_simp;rfl) F ?_
     refine tG 1 (.pointer (some ⟨w2.heap.size,0,none⟩)) F ?_
     refine tG 2 (.pointer (some ⟨w2.heap.size,0,none⟩)) F ?_
     refine tG 3 (.pointer (some ⟨w2.heap.size,7,none⟩)) F ?_
     go_simp
     refine tS 4 (.int .i64 (fa:Nat)) rfl (λw' hS=>by have hq:=hS.1;go_simp) F ?_
     refine tG 5 (.pointer (some ⟨w2.heap.size,0,none⟩)) F ?_
     refine tG 6 (.pointer (some ⟨w2.heap.size,0,none⟩)) F ?_
     go_simp
     refine tG 7 (.pointer (some ⟨w2.heap.size,8,none⟩)) F ?_
     refine tS 8 (.int .i64 (fe:Nat)) rfl (λw' hS=>by have hq:=hS.2;go_simp) F ?_
     go_simp
     refine Zv (i:=9) rfl (by kernel_rfl) (λK2 D=> ?_)
     refine Z4 rfl 32 (.tmp 2) (.tmp 113) rfl (w.heap.size+1) (cellsC zeroC).toArray rfl rfl _ _ go ZA rfl YQ ?_
     have hM:w.heap.size+1<w2.heap.size:=(by have q1:=gx.out;have q2:=S.size;omega)
     have Q:=Z9 ((Zu (a:=⟨w2.heap.size,7,none⟩) (ZD (wr).drew (w.heap.size+1) w2.heap.size (cellsC zeroC).toArray (Nat.ne_of_gt hM))).trans F.1) ((Zu (a:=⟨w2.heap.size,8,none⟩) (ZD (wr).drew (w.heap.size+1) w2.heap.size (cellsC zeroC).toArray (Nat.ne_of_gt hM))).trans F.2)
     refine D _ _ Q ?_
     clear D K2
     refine Zv (i:=10) rfl (by kernel_rfl) (λK2 D=> ?_)
     go_simp
     refine D _ _ Q ?_
     clear D K2
     refine Zv (i:=11) rfl (by kernel_rfl) (λK2 D=> ?_)
     go_simp
     refine D _ _ Q ?_
     clear D K2
     refine sE ?_
     go_wp2
     ((try simp only[Exit.inBlock,Exit.then]);refine Zm (Zw rfl _ _ _ _ _ _ _ rfl (Zk _ _ _ _ _ _ go) underlying32 rfl ZA) rfl ?_)
     exact ⟨rfl,(gg.out.ext.trans hl).setRow (ZM _) _⟩
 )
end
section
set_option linter.unusedSimpArgs false
theorem Zf8 (N:Nat) (j:JO) (cs:List Value) (w:World) (h:RJ w j cs) (hg:jsz N j) (hN:N<=16777216) (hE:Env w) (hv:versJ j≠none) (hk:∀f,decJ j= .ok f->fokS f) (fF:(itsW j).length<=1000000) (hB:(collapse (firstJ j [nFeedUrl])).toList.isEmpty=true) (hI:(memJ j nItems).isSome=true) (fE:∀x,memJ j nItems=some x->(((kindJ x:Nat):Int) !=4)=true):
 Calls prog 12 #[.agg cs.toArray] w λe w'=>DecR w' (decJ j) e/\Ext w w':=by
 obtain ⟨bt,gT⟩:=Option.ne_none_iff_exists'.1 hv;have gY:=gd (λw' (hx:Ext w w')=>Xm j cs w w' h hx);rw[gT] at gY;have dv:=gd (λ(b:Nat) (hb:w.heap.size<=b)=>(⟨h,hg,hN,hE,hb⟩:DC w N b j cs));have Z:=gd h;have gG:=gd (λf hf=>XN (f:=f) hv hf);have dI:=gd (λ(t:Int) (E:List Ent) h1 h2 h3 h4=>XV (t:=t) (E:=E) hv h1 h2 h3 h4);have dx:=gd hk;have fm:=gd hE;have HG:=gd hg;obtain ⟨i0,dW,d6,d7,d8⟩:=Yr XB;obtain ⟨A,p,c,B,q,d,hc⟩:=h.cells;obtain ⟨K,hK⟩:∃a,kindJ j=a:=⟨_,rfl⟩;obtain ⟨Bb,fz⟩:∃a,bJ j=a:=⟨_,rfl⟩;obtain ⟨Nn,fG⟩:∃a,nJ j=a:=⟨_,rfl⟩;obtain ⟨Ss,fI⟩:∃a,sJ j=a:=⟨_,rfl⟩;obtain ⟨At,fy⟩:∃a,atJ j=a:=⟨_,rfl⟩;rw[hK,fz,fG,fI,fy] at hc;unfold wcells at hc;have fk:=gd hc;rw[hc] at gY;obtain ⟨W1,gy⟩:∃W1,(w.alloc (.cells #[.int .i64 K,.bool Bb,.int .i64 Nn,.string Ss,.slice A p c,.slice B q d,.int .i64 At] 25)).alloc (.cells #[.slice none 0 0,.string ⟨#[]⟩,.string ⟨#[]⟩,.string ⟨#[]⟩,.int .i64 0,.slice none 0 0] 32)=W1:=⟨_,rfl⟩;have di:Ext w W1:=by rw[<-gy];exact ((Ext.refl w).alloc _).alloc _
 have hT:W1.heap[w.heap.size]? =some (.cells #[.int .i64 K,.bool Bb,.int .i64 Nn,.string Ss,.slice A p c,.slice B q d,.int .i64 At] 25 (0,0)):=by rw[<-gy];exact ((Ext.refl _).alloc _).heap (Zh w _)
 have f2:W1.heap[w.heap.size+1]? =some (.cells (cellsC zeroC).toArray 32 (0,0)):=by rw[<-gy];exact YN w _ _
 have df:W1.heap.size=w.heap.size+2:=by rw[<-gy,Zp,Zp]
 have c0:=Zb _ _ 0 _ _ _ hT;have c1:=Zb _ _ 1 _ _ _ hT;have c2:=Zb _ _ 2 _ _ _ hT;have c3:=Zb _ _ 3 _ _ _ hT;have c4:=Zb _ _ 4 _ _ _ hT;have c5:=Zb _ _ 5 _ _ _ hT;have c6:=Zb _ _ 6 _ _ _ hT;have gZ:=gd di;have dJ:=gd f2;have gx:=gd df;have bi:Hid (idW j=if collapse (firstJ j [nFeedUrl])=noS then firstJ j [nHome] else firstJ j [nFeedUrl]):=rfl;have gE:∀n,(firstJ j [n]).size<=16777216:=λn=>by
  rw[Xk];cases hm:memJ j n with
  |none=>exact Zt _
  |some y=>exact Zl (Jk (YM hg hm)) hN
 have gS:(idW j).size<=16777216:=by unfold idW;split<;>exact gE _
 have bl:=gd gE;have dM:=gd gS;obtain ⟨R,hR⟩:∃R,decJ j=R:=⟨_,rfl⟩;rw[hR];have gX:=gd hR;obtain ⟨L,hL⟩:∃L,itsW j=L:=⟨_,rfl⟩;have fC:headWJ j=orF (orF (orF (chkJ j false [nFeedUrl,nHome,nTitle,nUpdated]) (reqF j (idW j))) (faultD (dateJ j [nUpdated]))) (itemK j):=rfl;have gP:=λw'=>Xc (firstJ j [nFeedUrl]) w' (by have:=gE nFeedUrl;omega);have gA:(collapse (firstJ j [nFeedUrl])).toList.isEmpty=true/\Hid ((cellsC (F0 j)).toArray.setIfInBounds 1 (.string (firstJ j [nHome]))=(cellsC (FE j 0 [] (.slice none 0 0))).toArray)\/
  (collapse (firstJ j [nFeedUrl])).toList.isEmpty=false/\Hid (F0 j=FE j 0 [] (.slice none 0 0)):=by
  by_cases hb:collapse (firstJ j [nFeedUrl])=noS
  ·refine Or.inl ⟨by rw[hb];exact Xo [],?_⟩
   show _=_
   unfold FE idW
   rw[Zi hb]
   rfl
  ·refine Or.inr ⟨XS hb,?_⟩
   show _=_
   unfold F0 FE idW
   rw[Zf hb]
 have fc:((memJ j nItems).isSome=false/\Hid (memJ j nItems=none/\itemK j=none/\L= []))\/∃x,(memJ j nItems).isSome=true/\Hid (memJ j nItems=some x/\L=itemsJ x)/\(((((kindJ x:Nat):Int) !=4)=false/\Hid (itemK j=none))\/((((kindJ x:Nat):Int) !=4)=true/\Hid (itemK j=some (atJ x,21)))):=by
  cases hm:memJ j nItems with
  |none=>exact Or.inl ⟨rfl,rfl,by unfold itemK;rw[hm],by rw[<-hL];unfold itsW;rw[hm]⟩
  |some x=>
   refine Or.inr ⟨x,rfl,⟨rfl,by rw[<-hL];unfold itsW;rw[hm]⟩,?_⟩;by_cases h4:kindJ x=4
   ·exact Or.inl ⟨by rw[h4];rfl,by show _=_;unfold itemK;rw[hm];exact Zf (by simpa using h4)⟩
   ·exact Or.inr ⟨by rw[Yj];omega,by show _=_;unfold itemK;rw[hm];exact Zi h4⟩
 have fj:=gd gP;have dC:Hid (L.length<=1000000):=by show _<=_;rw[<-hL];exact fF
 have HL:=gd hL;have dB:=gd fC;clear h hg hE hv gT hk hc di hT f2 df gE gS hR hL fC gP fF hK fz fG fI fy;rw[fk.out];rcases gA with ⟨fP,dT⟩|⟨fP,dU⟩
 rotate_left
 ·rw[fP] at hB;cases hB
 rcases fc with ⟨fX,hm⟩|⟨x,fX,hm,⟨fY,hk⟩|⟨fY,hk⟩⟩
 ·rw[fX] at hI;cases hI
 ·have h9:=fE x hm.out.1;rw[fY] at h9;cases h9
 clear hB hI fE
 all_goals (
  go_enter func12,ntmps12
  go_wp2_with (first|(go_at_call 34;(refine Za (UL j cs w2.heap.size _ (atJ y) 21 w _ Z.out ge.rd (by decide)) ?_);rintro e bw ⟨rfl,f6,gO⟩;(have gI:=ge.turn J gO f6);(have i4:=Zb _ _ 4 _ _ _ (gO.heap gn (by have:=dD.out;omega))))|(go_at_call 33;(refine Za (UN j cs w2.heap.size _ nItems w _ Z.out gc.ext gc.rd) ?_);rintro e fh ⟨⟨y,cy,rfl,d1,d0⟩,dj⟩;(obtain ⟨A1,fw,B1,q2,d2,n1,css,fS,fR,de,fT⟩:=U9 d1);(unfold wcells at fS);subst fS;(try (obtain rfl:y=x:=(Ys (hm.out.1.symm.trans (d0.elim id λe=>absurd (hm.out.1.symm.trans e.1) (by simp)))).symm));(have gH:=gc.next dj);(have gn:=Zh fh (.cells #[.int .i64 (kindJ y:Nat),.bool (bJ y),.int .i64 (nJ y),.string (sJ y),.slice A1 (itemsJ y).length fw,.slice B1 q2 d2,.int .i64 (atJ y:Nat)] 25));(have ge:=gH.next ((Ext.refl fh).alloc (.cells #[.int .i64 (kindJ y:Nat),.bool (bJ y),.int .i64 (nJ y),.string (sJ y),.slice A1 (itemsJ y).length fw,.slice B1 q2 d2,.int .i64 (atJ y:Nat)] 25)));(have dD:Hid (w2.heap.size<fh.heap.size):=(Ze.1 gH.rd.1).1);(have i0:=Zb _ _ 0 _ _ _ gn);(have i4:=Zb _ _ 4 _ _ _ gn);(have i6:=Zb _ _ 6 _ _ _ gn))|(go_at_call 32;(refine Za (Gj h5 ga.ext ga.rd [nUpdated] (by decide) _ (by first|rfl|exact (Zp _ _).symm|(simp;done))) ?_);rintro e bv ⟨t,rfl,ht,f4,fM⟩;(have HT:=gd ht);clear ht;(have gb:=ga.turn J fM f4);(have g4:=(gb.cell 4 (v:= .int .i64 0) rfl).1);(have bo:=(gb.cell 4 rfl).2);(have gc:=gb.set J 4 (.int .i64 t) (F':=FE j t [] (.slice none 0 0)) rfl))|(go_at_call 31;(refine Za (XJ j cs w2.heap.size _ (idW j) w _ Z.out hn.ext hn.rd dM.out) ?_);rintro e bu ⟨rfl,f3,fL⟩;(have ga:=hn.turn J fL f3))|(go_at_call 30;(refine Za (fj.out _) ?_);rintro e w9 ⟨rfl,d5⟩;(have gf:=gu.next d5);(have g1:=(gf.cell 1 (v:= .string (firstJ j [nFeedUrl])) rfl).1);(have bn:=(gf.cell 1 rfl).2);(have g3:=(gf.cell 3 (v:= .string (firstJ j [nHome])) rfl).1);(first|(have hn:=gf.set J 1 (.string (firstJ j [nHome])) (F':=FE j 0 [] (.slice none 0 0)) dT.out;(have e1:=(hn.cell 1 (v:= .string (idW j)) rfl).1))|(have hn:DF w w2.heap.size U.heap.size (w.heap.size+1) cs _ (FE j 0 [] (.slice none 0 0)) w9:=(by rw[<-dU.out];exact gf);(have e1:=(hn.cell 1 (v:= .string (idW j)) rfl).1);clear g1)))|(go_at_call 29;(refine Za (Xu h5 dm hP [nHome] (by decide) _ (by first|rfl|exact (Zp _ _).symm|(simp;done))) ?_);rintro e U ⟨rfl,dn⟩;(have gw:=Zh U (.cells #[.slice none 0 0,.string (firstJ j [nFeedUrl]),.string (firstJ j [nTitle]),.string (firstJ j [nHome]),.int .i64 0,.slice none 0 0] 32));(have ff:=dn.alloc (.cells #[.slice none 0 0,.string (firstJ j [nFeedUrl]),.string (firstJ j [nTitle]),.string (firstJ j [nHome]),.int .i64 0,.slice none 0 0] 32));(have bh:w2.heap.size<U.heap.size:=Z3 (Ze.1 hP.1).1 dn.size);(have J:DK w w2.heap.size U.heap.size (w.heap.size+1):=(by have q1:=gx.out;have q2:=S.size;exact ⟨by omega,by omega,by omega,by omega,by omega,by omega⟩));(have gu:DF w w2.heap.size U.heap.size (w.heap.size+1) cs _ (F0 j) _:=⟨hP.ext ff,gw,ff.heap db,dm.trans ff⟩);(have g0:=(gu.cell 1 (v:= .string (firstJ j [nFeedUrl])) rfl).1))|(go_at_call 29;(refine Za (Xu h5 gr h8 [nTitle] (by decide) _ (by first|rfl|exact (Zp _ _).symm|(simp;done))) ?_);rintro e w6 ⟨rfl,gs⟩;(have dm:=gr.trans gs);(have hP:=h8.ext gs);(have db:=gs.heap da))|(go_at_call 29;(refine Za (Xu h5 dl h7 [nFeedUrl] (by decide) _ (by first|rfl|exact (Zp _ _).symm|(simp;done))) ?_);rintro e w5 ⟨rfl,gq⟩;(have gr:=dl.trans gq);(have h8:=h7.ext gq);(have da:=gq.heap f9))|(go_at_call 28;(refine Za (VE h5 dk gD [nFeedUrl,nHome,nTitle,nUpdated] (by decide) _ (by first|rfl|exact (Zp _ _).symm|(simp;done))) ?_);rintro e w4 ⟨rfl,h7,fO⟩;(have dl:=Bar.ext dk fO h5.hb);(have f9:=fO.heap f8 (by have q1:=gx.out;have q2:=S.size;omega)))|(go_at_call 14;(have hz:=gY.out W1 gZ.out);(refine Za hz ?_);clear hz;rintro e w2 ⟨rfl,S⟩;(have q0:=Ext.cell S c0);(have q1:=Ext.cell S c1);(have q2:=Ext.cell S c2);(have q3:=Ext.cell S c3);(have q4:=Ext.cell S c4);(have q5:=Ext.cell S c5);(have q6:=Ext.cell S c6);(have h5:=dv.out w2.heap.size (Zl gZ.out.size S.size));(have gU:=(Ext.refl w2).alloc (.cells #[.int .i64 K,.bool Bb,.int .i64 Nn,.string Ss,.slice A p c,.slice B q d,.int .i64 At,.int .i64 0,.int .i64 0] 67));(have dk:=(gZ.out.trans S).trans gU);(have f8:=(S.trans gU).heap dJ.out);(have gD:RdAt w2.heap.size cs none (w2.alloc (.cells #[.int .i64 K,.bool Bb,.int .i64 Nn,.string Ss,.slice A p c,.slice B q d,.int .i64 At,.int .i64 0,.int .i64 0] 67)):=⟨(by rw[fk.out];exact Zh w2 _),λe he=>(by cases he)⟩))))
 focus
  have dR:itemsJ y=L:=hm.out.2.symm
  subst dR
  have fp:=gI.fault (o':=headWJ j) (by rw[dB.out,hk.out];rfl)
  have dA:Hid (itemsJ y≠ []->jsz N y):=λ_=>YM HG.out hm.out.1
  clear ge gI
 all_goals (
  have bg:(itemsJ y).length<=1000000:=dC.out
  have dL:=gd de
  have fl:=gd fT
  have fi:=gd fR
  have fq:=gd fp
  clear de fT fR fp i0 i4 i6 gn
  go_loopw [74] (λi wr=>∃(k:Nat) (E:List Ent) (eA:Option Addr) (ec:Nat) (O:Option (Nat×Nat)),k<=(itemsJ y).length/\i= .int .i64 (k:Nat)/\Hid (E.length=k)/\Hid (DF w w2.heap.size U.heap.size (w.heap.size+1) cs O (FE j t E (.slice eA E.length ec)) wr)/\Hid (OEnts wr w.heap.size (.slice eA E.length ec) E)/\Hid (∀(i:Nat) (e:Ent) (x:JO),E[i]? =some e->(itemsJ y)[i]? =some x->EntR x e)/\Hid (O=orF (headWJ j) (firstFs ((itemsJ y).take k)))) (λi _=>(itemsJ y).length - (intOf i).toNat)
  case atStart=>exact ⟨0,[],none,0,headWJ j,Zt _,rfl,rfl,fq.out,OEnts.nil _ _,(λi e x he _=>by simp at he),(by rw[List.take_zero];exact (Y9 _).symm)⟩
  case round=>
   obtain ⟨k,E,eA,ec,O,hk,rfl,hV,V,HO,fn,hO⟩:=hrel
   by_cases hD:k<(itemsJ y).length
   ·have dY:(k:Int)<((itemsJ y).length:Int):=(by omega)
    have bp:(0:Int)<=(k:Int):=(by omega)
    have fQ:k<css.length:=(by rw[fi.out];exact hD)
    have gj:=fl.out k (itemsJ y)[k] css[k] (Zc hD) (Zc fQ)
    have f0:∀c∈css,c.length=7:=by
     intro c hc
     obtain ⟨i,hi,rfl⟩:=List.mem_iff_getElem.1 hc
     exact (fl.out i ((itemsJ y)[i]'(by rw[<-fi.out];exact hi)) css[i] (Zc _) (Zc hi)).len
    obtain ⟨ad,cap,hA,G⟩:=RSl.elem (dL.out.ext V.out.ext) (by omega) f0 k css[k] (Zc fQ)
    injection hA with hA1 hA2 hA3
    subst hA1
    clear hA2 hA3 f0
    rw[Y7] at G
    obtain ⟨C,hC⟩:∃C,css[k]=C:=⟨_,rfl⟩
    rw[hC] at gj G
    obtain ⟨X,hX⟩:∃X,(itemsJ y)[k]=X:=⟨_,rfl⟩
    rw[hX] at gj
    obtain ⟨A4,p4,hw,B4,hF,d4,gm⟩:=gj.cells
    obtain ⟨K4,fD⟩:∃a,kindJ X=a:=⟨_,rfl⟩
    obtain ⟨hp,gK⟩:∃a,bJ X=a:=⟨_,rfl⟩
    obtain ⟨hs,gL⟩:∃a,nJ X=a:=⟨_,rfl⟩
    obtain ⟨hu,gM⟩:∃a,sJ X=a:=⟨_,rfl⟩
    obtain ⟨ho,gJ⟩:∃a,atJ X=a:=⟨_,rfl⟩
    rw[fD,gK,gL,gM,gJ] at gm
    unfold wcells at gm
    have du:=gd gm
    have fu:Hid (RJ w X C):=⟨_,gj⟩
    rw[gm] at G
    have u0:=G 0 _ rfl
    have u1:=G 1 _ rfl
    have u2:=G 2 _ rfl
    have u3:=G 3 _ rfl
    have u4:=G 4 _ rfl
    have u5:=G 5 _ rfl
    have u6:=G 6 _ rfl
    rw[add_zero] at u0
    have gN:∀i,0<i->(ad.add (k*7)).add i=⟨(ad.add (k*7)).block,(ad.add (k*7)).off+i,none⟩:=λi hi=>Zf (by omega)
    rw[gN _ (by omega)] at u1 u2 u3 u4 u5 u6
    have g2:=gd hX
    have be:=gd hC
    clear gN G gj hX hC fD gK gL gM gJ gm
    cases O with
    |none=>
     have hj:cs.length=7:=(by obtain ⟨_,_,_,_,_,_,e⟩:=Z.out.cells;rw[e];rfl)
     obtain ⟨r7,r8, -⟩:=Yu V.out.rd hj
     simp only[faultA,faultE] at r7 r8
     have bs:w2.heap.size<wr.heap.size:=(Ze.1 V.out.rd.1).1
     have fZ:U.heap.size<wr.heap.size:=(Ze.1 V.out.fb).1
     have f1:w.heap.size+1<wr.heap.size:=(Ze.1 V.out.rb).1
     obtain ⟨WB,gz⟩:∃WB,(wr.alloc (.cells #[.int .i64 (K4:Nat),.bool hp,.int .i64 hs,.string hu,.slice A4 p4 hw,.slice B4 hF d4,.int .i64 (ho:Nat)] 25)).alloc (.cells #[.int .i64 (K4:Nat),.bool hp,.int .i64 hs,.string hu,.slice A4 p4 hw,.slice B4 hF d4,.int .i64 (ho:Nat),.int .i64 0,.int .i64 0] 67)=WB:=⟨_,rfl⟩
     have gF:Ext wr WB:=(by rw[<-gz];exact ((Ext.refl wr).alloc _).alloc _)
     have f7:WB.heap[wr.heap.size+1]? =some (.cells #[.int .i64 (K4:Nat),.bool hp,.int .i64 hs,.string hu,.slice A4 p4 hw,.slice B4 hF d4,.int .i64 (ho:Nat),.int .i64 0,.int .i64 0] 67 (0,0)):=(by rw[<-gz];exact YN wr _ _)
     have dS:Hid (RdAt (wr.heap.size+1) C none WB):=⟨by rw[du.out];exact f7,λe he=>by cases he⟩
     have gw:=gd (V.out.next gF)
     have bj:=gd (OEnts.ext HO.out gF)
     have dh:WB.heap.size=wr.heap.size+2:=(by rw[<-gz,Zp,Zp])
     have bk:=gd dh
     have f5:=(gw.out.cell 5 (v:= .slice eA E.length ec) rfl).1
     have dN:=gd gF
     have dz:Hid (jsz N X):=by
      have h4:∃a l,y= .arr a l:=by
       cases y with
       |arr a l=>exact ⟨a,l,rfl⟩
       |_=>exact absurd hD (Nat.not_lt_zero _)
      obtain ⟨a4,l4,e4⟩:=h4
      have g9:jsz N y:=dA.out (λe=>by rw[e4] at hD e;exact absurd hD (by rw[e];exact Nat.not_lt_zero _))
      have dp:X∈itemsJ y:=(by rw[<-g2.out];exact ZO hD)
      rw[e4] at g9 dp
      rw[jsz] at g9
      exact g9 X dp
     clear dh gF f7 hj
     go_wp2
     refine rN ?_
     change wpAny _ _ _ _ _ _ _ (World.drew _)
     have hl:=(Ext.refl WB).drew
     have gB:WB.drew.cell? ⟨U.heap.size,5,none⟩=some (.slice eA E.length ec):=f5
     refine X8 (i:=0) (v:= .pointer (some ⟨U.heap.size,5,none⟩)) (λw'=>w'.cell? ⟨U.heap.size,5,none⟩=some (.slice eA E.length ec)) 7 rfl (by kernel_rfl) (λ_ _ _ h=>h) (Or.inl ⟨by rfl,λw' hS=>by go_simp⟩) gB ?_
     refine tT 1 (.slice eA E.length ec) rfl (λw' hS=>by have hq:w'.cell? ⟨U.heap.size,5,none⟩=some (.slice eA E.length ec):=hS;go_simp) gB ?_
     refine tT 2 (.pointer (some ⟨wr.heap.size+1,0,none⟩)) rfl (λw' hS=>by go_simp) gB ?_
     go_simp
     refine Yo (i:=3) rfl (by kernel_rfl) (λK2 D=> ?_)
     go_simp
     go_at_call 35
     refine Za (U0 N X C (wr.heap.size+1) none w WB.drew fu.out dz.out hN fm.out (gw.out.ext.trans hl) (by have:=V.out.ext.size;omega) (dS.out.ext hl)) ?_
     rintro e9 w3 ⟨Ex,rfl,fB,gD,fN⟩
     have hW:Ext wr w3:=Bar.ext (dN.out.trans hl) fN (ZM _)
     have gV:=V.out.next hW
     have ft:=OEnts.ext HO.out hW
     have g5:=(gV.cell 5 (v:= .slice eA E.length ec) rfl).1
     refine D _ _ (λ_=>g5) ?_
     clear D K2
     have hG:=gV.next ((Ext.refl w3).alloc (.cells (eCells Ex).toArray 64))
     have hU:=OEnts.ext ft ((Ext.refl w3).alloc (.cells (eCells Ex).toArray 64))
     have h7:=gD.ext ((Ext.refl w3).alloc (.cells (eCells Ex).toArray 64))
     have g6:=(hG.cell 5 (v:= .slice eA E.length ec) rfl).1
     have gQ:RSl (w3.alloc (.cells (eCells Ex).toArray 64)) 5 (.slice (some ⟨w3.heap.size,0,none⟩) 1 1) 1 (eCells Ex):=ZY (w:=w3) (n:=1) (cs:=eCells Ex) rfl (by decide)
     refine Yo (i:=4) rfl (by kernel_rfl) (λK2 D=> ?_)
     go_simp
     refine D _ _ (λ_=>g6) ?_
     clear D K2
     refine Yo (i:=5) rfl (by kernel_rfl) (λK2 D=> ?_)
     refine Z5 _ (by rfl) (.tmp 87) (.tmp 90) _ (by rfl) w.heap.size 64 i0 _ 5 72 underlying30 dW d6 d7 d8 rfl (by decide) _ E.length (flatE E) (by rfl) hU _ 1 (eCells Ex) (by rfl) gQ (Z1 Ex) (by have:=hV.out;unfold maxLen;omega) (by have:=hV.out;omega) hG.ext.size ?_
     intro v5 gt hY h6 fK
     obtain ⟨A5,hH,d3⟩:∃A c,v5= .slice A (E.length+1) c:=by
      rcases hY.2 with ⟨h1,h2⟩|⟨g,cap,bm,h1,_⟩
      ·exact ⟨none,0,by rw[h1,h2]⟩
      ·exact ⟨_,cap,h1⟩
     subst d3
     have gr:Ext w gt:=Ext.app hG.ext h6 hU (Zd _)
     have gh:DF w w2.heap.size U.heap.size (w.heap.size+1) cs none (FE j t E (.slice eA E.length ec)) gt:=⟨⟨J9 hU h6 hG.rd.1 (by decide),hG.rd.2⟩,J9 hU h6 hG.fb (by decide),J9 hU h6 hG.rb (by decide),gr⟩
     have h8:RdAt (wr.heap.size+1) C (entF X) gt:=⟨J9 hU h6 h7.1 (by decide),h7.2⟩
     have g7:=(gh.cell 5 (v:= .slice eA E.length ec) rfl).1
     have dQ:=(gh.cell 5 (v:= .slice eA E.length ec) rfl).2
     refine D _ _ (λ_=>g7) ?_
     clear D K2
     refine Yo (i:=6) rfl (by kernel_rfl) (λK2 D=> ?_)
     go_simp
     refine D _ _ (λ_=>g7) ?_
     clear D K2
     refine Yo (i:=7) rfl (by kernel_rfl) (λK2 D=> ?_)
     go_simp
     refine D _ _ (λh=>absurd (show true=false from h) (by decide)) ?_
     clear D K2
     refine Jy (by kernel_rfl) ?_
     have gi:=gh.set J 5 (.slice A5 (E.length+1) hH) (F':=FE j t (E++ [Ex]) (.slice A5 (E++ [Ex]).length hH)) (by rw[Zj,Yb];rfl)
     have g8:=XK (p:=⟨U.heap.size,5,none⟩) hY gh.fb (by decide) (.slice A5 (E.length+1) hH)
     have hP:RdAt (wr.heap.size+1) C (entF X) (gt.setCell ⟨U.heap.size,5,none⟩ (.slice A5 (E.length+1) hH)):=⟨by rw[Zs _ _ _ _ (by show wr.heap.size+1≠U.heap.size;omega)];exact h8.1,h8.2⟩
     obtain ⟨W6,fJ⟩:∃W6,gt.setCell ⟨U.heap.size,5,none⟩ (.slice A5 (E.length+1) hH)=W6:=⟨_,rfl⟩
     rw[fJ] at gi g8 hP|-
     have dZ:C.length=7:=(by obtain ⟨_,_,_,_,_,_,e⟩:=fu.out.cells;rw[e];rfl)
     obtain ⟨s7,s8, -⟩:=Yu hP dZ
     obtain ⟨-, -,z0⟩:=Yu gi.rd (by obtain ⟨_,_,_,_,_,_,e⟩:=Z.out.cells;rw[e];rfl)
     obtain ⟨y7,y8, -⟩:=Yu gi.rd (by obtain ⟨_,_,_,_,_,_,e⟩:=Z.out.cells;rw[e];rfl)
     have z7:=z0 7
     have z8:=z0 8
     have gW:=gd gi
     have dF:=gd g8
     have dK:=gd hP
     have dw:=gd fB
     clear fJ gh gi g8 hP h8 h7 gD gV hG ft hU g5 g6 g7 dQ hY h6 fK gQ gr fB hW fN gB f5 gz hl z0
     go_wp2
     have F:W6.drew.cell? ⟨wr.heap.size+1,7,none⟩=some (.int .i64 (faultA (entF X):Nat))/\W6.drew.cell? ⟨wr.heap.size+1,8,none⟩=some (.int .i64 (faultE (entF X):Nat)):=⟨s7,s8⟩
     have ba:W6.drew.cell? ⟨w2.heap.size,7,none⟩=some (.int .i64 0):=y7
     have bb:W6.drew.cell? ⟨w2.heap.size,8,none⟩=some (.int .i64 0):=y8
     have bc:W6.drew.frozen? ⟨w2.heap.size,7,none⟩=false:=z7
     have bd:W6.drew.frozen? ⟨w2.heap.size,8,none⟩=false:=z8
     refine rN ?_
     change wpAny _ _ _ _ _ _ _ (World.drew _)
     refine Yi (λw'=>w'.cell? ⟨wr.heap.size+1,7,none⟩=some (.int .i64 (faultA (entF X):Nat))/\w'.cell? ⟨wr.heap.size+1,8,none⟩=some (.int .i64 (faultE (entF X):Nat))) ?_
     refine tG 0 (.pointer (some ⟨w2.heap.size,0,none⟩)) F ?_
     refine tG 1 (.pointer (some ⟨w2.heap.size,0,none⟩)) F ?_
     refine tG 2 (.pointer (some ⟨wr.heap.size+1,0,none⟩)) F ?_
     refine tG 3 (.pointer (some ⟨wr.heap.size+1,0,none⟩)) F ?_
     go_simp
     refine tG 4 (.pointer (some ⟨wr.heap.size+1,7,none⟩)) F ?_
     refine tS 5 (.int .i64 (faultA (entF X):Nat)) rfl (λw' hS=>by have hq:=hS.1;go_simp) F ?_
     refine tG 6 (.pointer (some ⟨wr.heap.size+1,0,none⟩)) F ?_
     go_simp
     refine tG 7 (.pointer (some ⟨wr.heap.size+1,0,none⟩)) F ?_
     refine tG 8 (.pointer (some ⟨wr.heap.size+1,8,none⟩)) F ?_
     refine tS 9 (.int .i64 (faultE (entF X):Nat)) rfl (λw' hS=>by have hq:=hS.2;go_simp) F ?_
     go_simp
     refine tG 10 (.pointer (some ⟨w2.heap.size,0,none⟩)) F ?_
     refine tG 11 (.pointer (some ⟨w2.heap.size,7,none⟩)) F ?_
     go_simp
     refine Zv (i:=12) rfl (by kernel_rfl) (λK2 D=> ?_)
     go_simp
     have gC:wr.heap.size+1≠w2.heap.size:=(by omega)
     obtain ⟨W7,gk⟩:∃W7,(W6.setCell ⟨w2.heap.size,7,none⟩ (.int .i64 (faultA (entF X):Nat))).drew=W7:=⟨_,rfl⟩
     rw[gk]
     have hy:W6.drew.setCell ⟨w2.heap.size,7,none⟩ (.int .i64 (faultA (entF X):Nat))=W7:=gk
     have Q:W7.cell? ⟨wr.heap.size+1,7,none⟩=some (.int .i64 (faultA (entF X):Nat))/\W7.cell? ⟨wr.heap.size+1,8,none⟩=some (.int .i64 (faultE (entF X):Nat)):=by
      rw[<-hy]
      exact ⟨(Zu (a:=⟨wr.heap.size+1,7,none⟩) (Zs _ _ _ _ gC)).trans s7,(Zu (a:=⟨wr.heap.size+1,8,none⟩) (Zs _ _ _ _ gC)).trans s8⟩
     obtain ⟨m8,dt⟩:=Zaf (gW.out.rd.ext (Ext.refl W6).drew) (by obtain ⟨_,_,_,_,_,_,e⟩:=Z.out.cells;rw[e];rfl) (.int .i64 (faultA (entF X):Nat))
     simp only[faultE] at m8
     rw[hy] at m8 dt
     refine D _ _ Q ?_
     clear D K2
     refine tG 13 (.pointer (some ⟨w2.heap.size,0,none⟩)) Q ?_
     refine tG 14 (.pointer (some ⟨w2.heap.size,8,none⟩)) Q ?_
     go_simp
     refine Zv (i:=15) rfl (by kernel_rfl) (λK2 D=> ?_)
     go_simp
     obtain ⟨W8,hJ⟩:∃W8,W7.setCell ⟨w2.heap.size,8,none⟩ (.int .i64 (faultE (entF X):Nat))=W8:=⟨_,rfl⟩
     rw[hJ]
     have fH:W8.cell? ⟨wr.heap.size+1,7,none⟩=some (.int .i64 (faultA (entF X):Nat))/\W8.cell? ⟨wr.heap.size+1,8,none⟩=some (.int .i64 (faultE (entF X):Nat)):=by
      rw[<-hJ]
      exact ⟨(Zu (a:=⟨wr.heap.size+1,7,none⟩) (Zs _ _ _ _ gC)).trans Q.1,(Zu (a:=⟨wr.heap.size+1,8,none⟩) (Zs _ _ _ _ gC)).trans Q.2⟩
     refine D _ _ fH ?_
     clear D K2
     refine sE ?_
     have gu:Hid (DF w w2.heap.size U.heap.size (w.heap.size+1) cs (entF X) (FE j t (E++ [Ex]) (.slice A5 (E++ [Ex]).length hH)) W8):=by
      have hd:=gW.out.next (Ext.refl W6).drew
      have dd:=Zag hd.rd (by obtain ⟨_,_,_,_,_,_,e⟩:=Z.out.cells;rw[e];rfl) dK.out.2
      rw[hy,hJ] at dd
      refine ⟨dd,?_,?_,?_⟩
      ·rw[<-hJ,<-hy,Zs _ _ _ _ J.bf.symm,Zs _ _ _ _ J.bf.symm];exact hd.fb
      ·rw[<-hJ,<-hy,Zs _ _ _ _ J.br.symm,Zs _ _ _ _ J.br.symm];exact hd.rb
      ·rw[<-hJ,<-hy]
       exact (hd.ext.setCell (p:=⟨w2.heap.size,7,none⟩) J.kb _).setCell (p:=⟨w2.heap.size,8,none⟩) J.kb _
     have dG:Hid (OEnts W8 w.heap.size (.slice A5 (E++ [Ex]).length hH) (E++ [Ex])):=by
      have hd:=gW.out.next (Ext.refl W6).drew
      have h0:=Yw dF.out (Ext.refl W6).drew
      have h1:=XK (p:=⟨w2.heap.size,7,none⟩) h0 hd.rd.1 (by decide) (.int .i64 (faultA (entF X):Nat))
      rw[hy] at h1
      have hh:=ZR W6.drew w2.heap.size 7 _ _ (.int .i64 (faultA (entF X):Nat)) hd.rd.1
      rw[hy] at hh
      have h2:=XK (p:=⟨w2.heap.size,8,none⟩) h1 hh (by decide) (.int .i64 (faultE (entF X):Nat))
      rw[hJ] at h2
      show OEnts W8 _ _ _
      rw[Zj,Yb]
      exact OEnts.snoc h2
     have fo:Hid (∀(i:Nat) (e:Ent) (x:JO),(E++ [Ex])[i]? =some e->(itemsJ y)[i]? =some x->EntR x e):=λi e x he hx=>by
      by_cases hi:i<E.length
      ·rw[Z2 hi] at he
       exact fn.out i e x he hx
      ·have dX:i=k:=by
        have:=(ZE.1 he).1
        have hE:=hV.out
        simp at this
        omega
       subst dX
       rw[ZK (by rw[hV.out];exact Zd _),hV.out,Nat.sub_self] at he
       rw[Zc hD,g2.out] at hx
       simp at he hx
       subst he hx
       exact dw.out
     have dH:Hid (entF X=orF (headWJ j) (firstFs ((itemsJ y).take (k+1)))):=by
      show _=_
      rw[Ua hD,<-Xw,<-hO.out,g2.out]
      rfl
     clear hy gk hJ F Q fH s7 s8 y7 y8 ba bb z7 z8 bc bd m8 dt
     go_wp2
     go_roundw
     case rel=>exact ⟨k+1,E++ [Ex],A5,hH,entF X,hD,by go_num,(by have:=hV.out;rw[Zj,this];rfl),gu,dG,fo,dH⟩
     case measure=>simp[intOf];omega
    |some f=>
     have hr:=V.out.next ((Ext.refl wr).alloc (.cells #[.int .i64 (K4:Nat),.bool hp,.int .i64 hs,.string hu,.slice A4 p4 hw,.slice B4 hF d4,.int .i64 (ho:Nat)] 25))
     have hj:cs.length=7:=(by obtain ⟨_,_,_,_,_,_,e⟩:=Z.out.cells;rw[e];rfl)
     have fW:f.2≠0:=hr.rd.2 f rfl
     obtain ⟨r7,r8, -⟩:=Yu hr.rd hj
     have dV:(((f.2:Nat):Int) !=0)=true:=(by rw[Yj];omega)
     have fU:¬((f.2:Nat):Int)=0:=(by omega)
     have gg:=gd hr
     have hQ:R= .error f:=(by rw[<-gX.out];exact gG.out f (by rw[HL.out];exact Xd (k:=k) hO.out.symm))
     subst hQ
     obtain ⟨fa,fe⟩:=f
     simp only[faultA,faultE] at r7 r8
     clear hr hj
     go_wp2
     have hl:=(Ext.refl (wr.alloc (.cells #[.int .i64 (K4:Nat),.bool hp,.int .i64 hs,.string hu,.slice A4 p4 hw,.slice B4 hF d4,.int .i64 (ho:Nat)] 25))).drew
     have F:(wr.alloc (.cells #[.int .i64 (K4:Nat),.bool hp,.int .i64 hs,.string hu,.slice A4 p4 hw,.slice B4 hF d4,.int .i64 (ho:Nat)] 25)).drew.cell? ⟨w2.heap.size,7,none⟩=some (.int .i64 (fa:Nat))/\(wr.alloc (.cells #[.int .i64 (K4:Nat),.bool hp,.int .i64 hs,.string hu,.slice A4 p4 hw,.slice B4 hF d4,.int .i64 (ho:Nat)] 25)).drew.cell? ⟨w2.heap.size,8,none⟩=some (.int .i64 (fe:Nat)):=⟨r7,r8⟩
     have go:=hl.heap gg.out.rb
     refine rN ?_
     change wpAny _ _ _ _ _ _ _ (World.drew _)
     refine Yi (λw'=>w'.cell? ⟨w2.heap.size,7,none⟩=some (.int .i64 (fa:Nat))/\w'.cell? ⟨w2.heap.size,8,none⟩=some (.int .i64 (fe:Nat))) ?_
     refine tS 0 (.agg (cellsC zeroC).toArray) rfl (λw' hS=>by go_simp;rfl) F ?_
     refine tG 1 (.pointer (some ⟨w2.heap.size,0,none⟩)) F ?_
     refine tG 2 (.pointer (some ⟨w2.heap.size,0,none⟩)) F ?_
     refine tG 3 (.pointer (some ⟨w2.heap.size,7,none⟩)) F ?_
     go_simp
     refine tS 4 (.int .i64 (fa:Nat)) rfl (λw' hS=>by have hq:=hS.1;go_simp) F ?_
     refine tG 5 (.pointer (some ⟨w2.heap.size,0,none⟩)) F ?_
     refine tG 6 (.pointer (some ⟨w2.heap.size,0,none⟩)) F ?_
     go_simp
     refine tG 7 (.pointer (some ⟨w2.heap.size,8,none⟩)) F ?_
     refine tS 8 (.int .i64 (fe:Nat)) rfl (λw' hS=>by have hq:=hS.2;go_simp) F ?_
     go_simp
     refine Zv (i:=9) rfl (by kernel_rfl) (λK2 D=> ?_)
     refine Z4 rfl 32 (.tmp 2) (.tmp 113) rfl (w.heap.size+1) (cellsC zeroC).toArray rfl rfl _ _ go ZA rfl YQ ?_
     have hM:w.heap.size+1<w2.heap.size:=(by have q1:=gx.out;have q2:=S.size;omega)
     have Q:=Z9 ((Zu (a:=⟨w2.heap.size,7,none⟩) (ZD (wr.alloc (.cells #[.int .i64 (K4:Nat),.bool hp,.int .i64 hs,.string hu,.slice A4 p4 hw,.slice B4 hF d4,.int .i64 (ho:Nat)] 25)).drew (w.heap.size+1) w2.heap.size (cellsC zeroC).toArray (Nat.ne_of_gt hM))).trans F.1) ((Zu (a:=⟨w2.heap.size,8,none⟩) (ZD (wr.alloc (.cells #[.int .i64 (K4:Nat),.bool hp,.int .i64 hs,.string hu,.slice A4 p4 hw,.slice B4 hF d4,.int .i64 (ho:Nat)] 25)).drew (w.heap.size+1) w2.heap.size (cellsC zeroC).toArray (Nat.ne_of_gt hM))).trans F.2)
     refine D _ _ Q ?_
     clear D K2
     refine Zv (i:=10) rfl (by kernel_rfl) (λK2 D=> ?_)
     go_simp
     refine D _ _ Q ?_
     clear D K2
     refine Zv (i:=11) rfl (by kernel_rfl) (λK2 D=> ?_)
     go_simp
     refine D _ _ Q ?_
     clear D K2
     refine sE ?_
     go_wp2
     ((try simp only[Exit.inBlock,Exit.then]);refine Zm (Zw rfl _ _ _ _ _ _ _ rfl (Zk _ _ _ _ _ _ go) underlying32 rfl ZA) rfl ?_)
     exact ⟨rfl,(gg.out.ext.trans hl).setRow (ZM _) _⟩
   ·have bq:k=(itemsJ y).length:=(by omega)
    have dY:¬(k:Int)<((itemsJ y).length:Int):=(by omega)
    cases O with
    |none=>
     have hj:cs.length=7:=(by obtain ⟨_,_,_,_,_,_,e⟩:=Z.out.cells;rw[e];rfl)
     obtain ⟨r7,r8, -⟩:=Yu V.out.rd hj
     simp only[faultA,faultE] at r7 r8
     have fA:=hV.out
     have fd:=dI.out t E (by rw[HL.out,hO.out,ZC (by omega)]) HT.out (by rw[HL.out];omega) (by rw[HL.out];exact fn.out)
     have fV:=dx.out _ fd
     have hQ:R= .ok ⟨[],idW j,firstJ j [nTitle],firstJ j [nHome],t,E⟩:=(by rw[<-gX.out];exact fd)
     subst hQ
     have dc:RdC wr (FE j t E (.slice eA E.length ec)):=⟨RSl.nil wr 1,OEnts.reads HO.out⟩
     have dE:=gd (XW (FE j t E (.slice eA E.length ec)) wr (fm.out.ext V.out.ext) fV dc)
     have e0:=(V.out.cell 0 (v:= .slice none 0 0) rfl).1
     have e1:=(V.out.cell 1 (v:= .string (idW j)) rfl).1
     have e2:=(V.out.cell 2 (v:= .string (firstJ j [nTitle])) rfl).1
     have e3:=(V.out.cell 3 (v:= .string (firstJ j [nHome])) rfl).1
     have e4:=(V.out.cell 4 (v:= .int .i64 t) rfl).1
     have e5:=(V.out.cell 5 (v:= .slice eA E.length ec) rfl).1
     have fZ:U.heap.size<wr.heap.size:=(Ze.1 V.out.fb).1
     have f1:w.heap.size+1<wr.heap.size:=(Ze.1 V.out.rb).1
     have dy:=J.fr
     clear fd fV dc hj fA
     go_wp2_with (first|(refine Zg rfl 32 (.tmp 2) (.tmp 127) rfl (w.heap.size+1) #[.slice A9 m9 c9,.string I.id,.string I.title,.string I.link,.int .i64 I.upd,.slice B9 o9 d9] rfl rfl _ _ gR ZA rfl YQ ?_)|(refine Zg rfl 32 (.tmp 8) (.tmp 125) rfl U.heap.size #[.slice A9 m9 c9,.string I.id,.string I.title,.string I.link,.int .i64 I.upd,.slice B9 o9 d9] rfl rfl _ _ ha ZA rfl YQ ?_;(have n0:=Zb _ _ 0 _ _ _ (Zk hZ U.heap.size _ #[.slice A9 m9 c9,.string I.id,.string I.title,.string I.link,.int .i64 I.upd,.slice B9 o9 d9] _ _ ha));(have n1:=Zb _ _ 1 _ _ _ (Zk hZ U.heap.size _ #[.slice A9 m9 c9,.string I.id,.string I.title,.string I.link,.int .i64 I.upd,.slice B9 o9 d9] _ _ ha));(have n2:=Zb _ _ 2 _ _ _ (Zk hZ U.heap.size _ #[.slice A9 m9 c9,.string I.id,.string I.title,.string I.link,.int .i64 I.upd,.slice B9 o9 d9] _ _ ha));(have n3:=Zb _ _ 3 _ _ _ (Zk hZ U.heap.size _ #[.slice A9 m9 c9,.string I.id,.string I.title,.string I.link,.int .i64 I.upd,.slice B9 o9 d9] _ _ ha));(have n4:=Zb _ _ 4 _ _ _ (Zk hZ U.heap.size _ #[.slice A9 m9 c9,.string I.id,.string I.title,.string I.link,.int .i64 I.upd,.slice B9 o9 d9] _ _ ha));(have n5:=Zb _ _ 5 _ _ _ (Zk hZ U.heap.size _ #[.slice A9 m9 c9,.string I.id,.string I.title,.string I.link,.int .i64 I.upd,.slice B9 o9 d9] _ _ ha)))|(go_at_call 36;(have hz:=dE.out);(refine Za hz ?_);clear hz;rintro e hZ ⟨Y,rfl,dr,fg,dq,gp⟩;(have ds:=fg.sl);(obtain ⟨yp,bx,I⟩:=Y);(obtain ⟨⟨A9,m9,c9,h9⟩,⟨B9,o9,d9,fx⟩⟩:=ds);(dsimp only at h9 fx);(subst h9);(subst fx);(have dO:=gd dr);(have dP:=gd fg);(have fv:=gd dq);clear dr fg dq;(unfold cellsC fCells);(dsimp only);(have ha:=gp.heap V.out.fb);(have gR:=(ZD hZ U.heap.size (w.heap.size+1) #[.slice A9 m9 c9,.string I.id,.string I.title,.string I.link,.int .i64 I.upd,.slice B9 o9 d9] dy.symm).trans (gp.heap V.out.rb))))
     ((try simp only[Exit.inBlock,Exit.then]);refine Zm (Zw rfl _ _ _ _ #[.slice A9 m9 c9,.string I.id,.string I.title,.string I.link,.int .i64 I.upd,.slice B9 o9 d9] _ _ rfl (Zk _ _ _ _ _ _ gR) underlying32 rfl ZA) rfl ?_)
     refine ⟨⟨⟨.slice A9 m9 c9,.slice B9 o9 d9,I⟩,rfl,dO.out,?_,⟨⟨_,_,_,rfl⟩,⟨_,_,_,rfl⟩⟩⟩,((V.out.ext.trans gp).setRow J.kf _).setRow J.kr _⟩
     exact (dP.out.grown (Yh _ _ _) (fv.out _ fZ)).grown (Yh _ _ _) (fv.out _ f1)
    |some f=>
     have hr:=V.out
     have hj:cs.length=7:=(by obtain ⟨_,_,_,_,_,_,e⟩:=Z.out.cells;rw[e];rfl)
     have fW:f.2≠0:=hr.rd.2 f rfl
     obtain ⟨r7,r8, -⟩:=Yu hr.rd hj
     have dV:(((f.2:Nat):Int) !=0)=true:=(by rw[Yj];omega)
     have fU:¬((f.2:Nat):Int)=0:=(by omega)
     have gg:=gd hr
     have hQ:R= .error f:=(by rw[<-gX.out];exact gG.out f (by rw[HL.out];exact Xd (k:=k) hO.out.symm))
     subst hQ
     obtain ⟨fa,fe⟩:=f
     simp only[faultA,faultE] at r7 r8
     clear hr hj
     go_wp2
     have hl:=(Ext.refl wr).drew
     have F:(wr).drew.cell? ⟨w2.heap.size,7,none⟩=some (.int .i64 (fa:Nat))/\(wr).drew.cell? ⟨w2.heap.size,8,none⟩=some (.int .i64 (fe:Nat)):=⟨r7,r8⟩
     have go:=hl.heap gg.out.rb
     refine rN ?_
     change wpAny _ _ _ _ _ _ _ (World.drew _)
     refine Yi (λw'=>w'.cell? ⟨w2.heap.size,7,none⟩=some (.int .i64 (fa:Nat))/\w'.cell? ⟨w2.heap.size,8,none⟩=some (.int .i64 (fe:Nat))) ?_
     refine tS 0 (.agg (cellsC zeroC).toArray) rfl (λw' hS=>by go_simp;rfl) F ?_
     refine tG 1 (.pointer (some ⟨w2.heap.size,0,none⟩)) F ?_
     refine tG 2 (.pointer (some ⟨w2.heap.size,0,none⟩)) F ?_
     refine tG 3 (.pointer (some ⟨w2.heap.size,7,none⟩)) F ?_
     go_simp
     refine tS 4 (.int .i64 (fa:Nat)) rfl (λw' hS=>by have hq:=hS.1;go_simp) F ?_
     refine tG 5 (.pointer (some ⟨w2.heap.size,0,none⟩)) F ?_
     refine tG 6 (.pointer (some ⟨w2.heap.size,0,none⟩)) F ?_
     go_simp
     refine tG 7 (.pointer (some ⟨w2.heap.size,8,none⟩)) F ?_
     refine tS 8 (.int .i64 (fe:Nat)) rfl (λw' hS=>by have hq:=hS.2;go_simp) F ?_
     go_simp
     refine Zv (i:=9) rfl (by kernel_rfl) (λK2 D=> ?_)
     refine Z4 rfl 32 (.tmp 2) (.tmp 113) rfl (w.heap.size+1) (cellsC zeroC).toArray rfl rfl _ _ go ZA rfl YQ ?_
     have hM:w.heap.size+1<w2.heap.size:=(by have q1:=gx.out;have q2:=S.size;omega)
     have Q:=Z9 ((Zu (a:=⟨w2.heap.size,7,none⟩) (ZD (wr).drew (w.heap.size+1) w2.heap.size (cellsC zeroC).toArray (Nat.ne_of_gt hM))).trans F.1) ((Zu (a:=⟨w2.heap.size,8,none⟩) (ZD (wr).drew (w.heap.size+1) w2.heap.size (cellsC zeroC).toArray (Nat.ne_of_gt hM))).trans F.2)
     refine D _ _ Q ?_
     clear D K2
     refine Zv (i:=10) rfl (by kernel_rfl) (λK2 D=> ?_)
     go_simp
     refine D _ _ Q ?_
     clear D K2
     refine Zv (i:=11) rfl (by kernel_rfl) (λK2 D=> ?_)
     go_simp
     refine D _ _ Q ?_
     clear D K2
     refine sE ?_
     go_wp2
     ((try simp only[Exit.inBlock,Exit.then]);refine Zm (Zw rfl _ _ _ _ _ _ _ rfl (Zk _ _ _ _ _ _ go) underlying32 rfl ZA) rfl ?_)
     exact ⟨rfl,(gg.out.ext.trans hl).setRow (ZM _) _⟩
 )
end
end Go.Proofs.YthlnaldahkgjnaaGreatDoor
