/- Parts of the proof: contracts and plain laws. -/
import Derived.Test.YthlnaldahkgjnaaGreatDoorZ17
import Derived.Test.YthlnaldahkgjnaaGreatDoorZ18
namespace Go.Proofs.YthlnaldahkgjnaaGreatDoor
open Go Go.RowKit _root_.Go.Proofs.Tryz
set_option linter.unusedVariables false
set_option linter.unusedSimpArgs false
set_option maxRecDepth 100000
set_option maxHeartbeats 16000000
section
set_option linter.unusedSimpArgs false
theorem Zgb (N:Nat) (j:JO) (cs:List Value) (w:World) (h:RJ w j cs) (hg:jsz N j) (hN:N<=16777216) (hE:Env w) (hv:versJ j≠none) (hk:∀f,decJ j= .ok f->fokS f) (fF:(itsW j).length<=1000000) (hB:(collapse (firstJ j [nFeedUrl])).toList.isEmpty=false) (hI:(memJ j nItems).isSome=true) (fE:∀x,memJ j nItems=some x->(((kindJ x:Nat):Int) !=4)=true):
 Calls prog 12 #[.agg cs.toArray] w λe w'=>DecR w' (decJ j) e/\Ext w w':=by
 obtain ⟨bt,gT⟩:=Option.ne_none_iff_exists'.1 hv;have gY:=gd (λw' (hx:Ext w w')=>Xm j cs w w' h hx);rw[gT] at gY;have dv:=gd (λ(b:Nat) (hb:w.heap.size<=b)=>(⟨h,hg,hN,hE,hb⟩:DC w N b j cs));have Z:=gd h;have gG:=gd (λf hf=>XN (f:=f) hv hf);have dI:=gd (λ(t:Int) (E:List Ent) h1 h2 h3 h4=>XV (t:=t) (E:=E) hv h1 h2 h3 h4);have dx:=gd hk;have fm:=gd hE;have HG:=gd hg;obtain ⟨i0,dW,d6,d7,d8⟩:=Yr XB;obtain ⟨A,p,c,B,q,d,hc⟩:=h.cells;obtain ⟨K,hK⟩:∃a,kindJ j=a:=⟨_,rfl⟩;obtain ⟨Bb,fz⟩:∃a,bJ j=a:=⟨_,rfl⟩;obtain ⟨Nn,fG⟩:∃a,nJ j=a:=⟨_,rfl⟩;obtain ⟨Ss,fI⟩:∃a,sJ j=a:=⟨_,rfl⟩;obtain ⟨At,fy⟩:∃a,atJ j=a:=⟨_,rfl⟩;rw[hK,fz,fG,fI,fy] at hc;unfold wcells at hc;have fk:=gd hc;rw[hc] at gY;obtain ⟨W1,gy⟩:∃W1,(w.alloc (.cells #[.int .i64 K,.bool Bb,.int .i64 Nn,.string Ss,.slice A p c,.slice B q d,.int .i64 At] 25)).alloc (.cells #[.slice none 0 0,.string ⟨#[]⟩,.string ⟨#[]⟩,.string ⟨#[]⟩,.int .i64 0,.slice none 0 0] 32)=W1:=⟨_,rfl⟩;have di:Ext w W1:=by rw[<-gy];exact ((Ext.refl w).alloc _).alloc _
 have hT:W1.heap[w.heap.size]? =some (.cells #[.int .i64 K,.bool Bb,.int .i64 Nn,.string Ss,.slice A p c,.slice B q d,.int .i64 At] 25 (0,0)):=by rw[<-gy];exact ((Ext.refl _).alloc _).heap (Zh w _)
 have f2:W1.heap[w.heap.size+1]? =some (.cells (cellsC zeroC).toArray 32 (0,0)):=by rw[<-gy];exact YN w _ _
 have df:W1.heap.size=w.heap.size+2:=by rw[<-gy,Zp,Zp]
 have c0:=Zb _ _ 0 _ _ _ hT;have c1:=Zb _ _ 1 _ _ _ hT;have c2:=Zb _ _ 2 _ _ _ hT;have c3:=Zb _ _ 3 _ _ _ hT;have c4:=Zb _ _ 4 _ _ _ hT;have c5:=Zb _ _ 5 _ _ _ hT;have c6:=Zb _ _ 6 _ _ _ hT;have gZ:=gd di;have dJ:=gd f2;have gx:=gd df;have bi:Hid (idW j=if collapse (firstJ j [nFeedUrl])=noS then firstJ j [nHome] else firstJ j [nFeedUrl]):=rfl;have gE:∀n,(firstJ j [n]).size<=16777216:=λn=>by
  rw[Xk];cases hm:memJ j n with
  |none=>exact Zt _
  |some y=>exact Zl (Jk (YM hg hm)) hN
 have gS:(idW j).size<=16777216:=by unfold idW;split<;>exact gE _
 have bl:=gd gE;have dM:=gd gS;obtain ⟨R,hR⟩:∃R,decJ j=R:=⟨_,rfl⟩;rw[hR];have gX:=gd hR;obtain ⟨L,hL⟩:∃L,itsW j=L:=⟨_,rfl⟩;have fC:headWJ j=orF (orF (orF (chkJ j false [nFeedUrl,nHome,nTitle,nUpdated]) (reqF j (idW j))) (faultD (dateJ j [nUpdated]))) (itemK j):=rfl;have gP:=λw'=>Xc (firstJ j [nFeedUrl]) w' (by have:=gE nFeedUrl;omega);have gA:(collapse (firstJ j [nFeedUrl])).toList.isEmpty=true/\Hid ((cellsC (F0 j)).toArray.setIfInBounds 1 (.string (firstJ j [nHome]))=(cellsC (FE j 0 [] (.slice none 0 0))).toArray)\/
  (collapse (firstJ j [nFeedUrl])).toList.isEmpty=false/\Hid (F0 j=FE j 0 [] (.slice none 0 0)):=by
  by_cases hb:collapse (firstJ j [nFeedUrl])=noS
  ·refine Or.inl ⟨by rw[hb];exact Xo [],?_⟩
   show _=_
   unfold FE idW
   rw[Zi hb]
   rfl
  ·refine Or.inr ⟨XS hb,?_⟩
   show _=_
   unfold F0 FE idW
   rw[Zf hb]
 have fc:((memJ j nItems).isSome=false/\Hid (memJ j nItems=none/\itemK j=none/\L= []))\/∃x,(memJ j nItems).isSome=true/\Hid (memJ j nItems=some x/\L=itemsJ x)/\(((((kindJ x:Nat):Int) !=4)=false/\Hid (itemK j=none))\/((((kindJ x:Nat):Int) !=4)=true/\Hid (itemK j=some (atJ x,21)))):=by
  cases hm:memJ j nItems with
  |none=>exact Or.inl ⟨rfl,rfl,by unfold itemK;rw[hm],by rw[<-hL];unfold itsW;rw[hm]⟩
  |some x=>
   refine Or.inr ⟨x,rfl,⟨rfl,by rw[<-hL];unfold itsW;rw[hm]⟩,?_⟩;by_cases h4:kindJ x=4
   ·exact Or.inl ⟨by rw[h4];rfl,by show _=_;unfold itemK;rw[hm];exact Zf (by simpa using h4)⟩
   ·exact Or.inr ⟨by rw[Yj];omega,by show _=_;unfold itemK;rw[hm];exact Zi h4⟩
 have fj:=gd gP;have dC:Hid (L.length<=1000000):=by show _<=_;rw[<-hL];exact fF
 have HL:=gd hL;have dB:=gd fC;clear h hg hE hv gT hk hc di hT f2 df gE gS hR hL fC gP fF hK fz fG fI fy;rw[fk.out];rcases gA with ⟨fP,dT⟩|⟨fP,dU⟩
 ·rw[fP] at hB;cases hB
 rcases fc with ⟨fX,hm⟩|⟨x,fX,hm,⟨fY,hk⟩|⟨fY,hk⟩⟩
 ·rw[fX] at hI;cases hI
 ·have h9:=fE x hm.out.1;rw[fY] at h9;cases h9
 clear hB hI fE
 all_goals (
  go_enter func12,ntmps12
  go_wp2_with (first|(go_at_call 34;(refine Za (UL j cs w2.heap.size _ (atJ y) 21 w _ Z.out ge.rd (by decide)) ?_);rintro e bw ⟨rfl,f6,gO⟩;(have gI:=ge.turn J gO f6);(have i4:=Zb _ _ 4 _ _ _ (gO.heap gn (by have:=dD.out;omega))))|(go_at_call 33;(refine Za (UN j cs w2.heap.size _ nItems w _ Z.out gc.ext gc.rd) ?_);rintro e fh ⟨⟨y,cy,rfl,d1,d0⟩,dj⟩;(obtain ⟨A1,fw,B1,q2,d2,n1,css,fS,fR,de,fT⟩:=U9 d1);(unfold wcells at fS);subst fS;(try (obtain rfl:y=x:=(Ys (hm.out.1.symm.trans (d0.elim id λe=>absurd (hm.out.1.symm.trans e.1) (by simp)))).symm));(have gH:=gc.next dj);(have gn:=Zh fh (.cells #[.int .i64 (kindJ y:Nat),.bool (bJ y),.int .i64 (nJ y),.string (sJ y),.slice A1 (itemsJ y).length fw,.slice B1 q2 d2,.int .i64 (atJ y:Nat)] 25));(have ge:=gH.next ((Ext.refl fh).alloc (.cells #[.int .i64 (kindJ y:Nat),.bool (bJ y),.int .i64 (nJ y),.string (sJ y),.slice A1 (itemsJ y).length fw,.slice B1 q2 d2,.int .i64 (atJ y:Nat)] 25)));(have dD:Hid (w2.heap.size<fh.heap.size):=(Ze.1 gH.rd.1).1);(have i0:=Zb _ _ 0 _ _ _ gn);(have i4:=Zb _ _ 4 _ _ _ gn);(have i6:=Zb _ _ 6 _ _ _ gn))|(go_at_call 32;(refine Za (Gj h5 ga.ext ga.rd [nUpdated] (by decide) _ (by first|rfl|exact (Zp _ _).symm|(simp;done))) ?_);rintro e bv ⟨t,rfl,ht,f4,fM⟩;(have HT:=gd ht);clear ht;(have gb:=ga.turn J fM f4);(have g4:=(gb.cell 4 (v:= .int .i64 0) rfl).1);(have bo:=(gb.cell 4 rfl).2);(have gc:=gb.set J 4 (.int .i64 t) (F':=FE j t [] (.slice none 0 0)) rfl))|(go_at_call 31;(refine Za (XJ j cs w2.heap.size _ (idW j) w _ Z.out hn.ext hn.rd dM.out) ?_);rintro e bu ⟨rfl,f3,fL⟩;(have ga:=hn.turn J fL f3))|(go_at_call 30;(refine Za (fj.out _) ?_);rintro e w9 ⟨rfl,d5⟩;(have gf:=gu.next d5);(have g1:=(gf.cell 1 (v:= .string (firstJ j [nFeedUrl])) rfl).1);(have bn:=(gf.cell 1 rfl).2);(have g3:=(gf.cell 3 (v:= .string (firstJ j [nHome])) rfl).1);(first|(have hn:=gf.set J 1 (.string (firstJ j [nHome])) (F':=FE j 0 [] (.slice none 0 0)) dT.out;(have e1:=(hn.cell 1 (v:= .string (idW j)) rfl).1))|(have hn:DF w w2.heap.size U.heap.size (w.heap.size+1) cs _ (FE j 0 [] (.slice none 0 0)) w9:=(by rw[<-dU.out];exact gf);(have e1:=(hn.cell 1 (v:= .string (idW j)) rfl).1);clear g1)))|(go_at_call 29;(refine Za (Xu h5 dm hP [nHome] (by decide) _ (by first|rfl|exact (Zp _ _).symm|(simp;done))) ?_);rintro e U ⟨rfl,dn⟩;(have gw:=Zh U (.cells #[.slice none 0 0,.string (firstJ j [nFeedUrl]),.string (firstJ j [nTitle]),.string (firstJ j [nHome]),.int .i64 0,.slice none 0 0] 32));(have ff:=dn.alloc (.cells #[.slice none 0 0,.string (firstJ j [nFeedUrl]),.string (firstJ j [nTitle]),.string (firstJ j [nHome]),.int .i64 0,.slice none 0 0] 32));(have bh:w2.heap.size<U.heap.size:=Z3 (Ze.1 hP.1).1 dn.size);(have J:DK w w2.heap.size U.heap.size (w.heap.size+1):=(by have q1:=gx.out;have q2:=S.size;exact ⟨by omega,by omega,by omega,by omega,by omega,by omega⟩));(have gu:DF w w2.heap.size U.heap.size (w.heap.size+1) cs _ (F0 j) _:=⟨hP.ext ff,gw,ff.heap db,dm.trans ff⟩);(have g0:=(gu.cell 1 (v:= .string (firstJ j [nFeedUrl])) rfl).1))|(go_at_call 29;(refine Za (Xu h5 gr h8 [nTitle] (by decide) _ (by first|rfl|exact (Zp _ _).symm|(simp;done))) ?_);rintro e w6 ⟨rfl,gs⟩;(have dm:=gr.trans gs);(have hP:=h8.ext gs);(have db:=gs.heap da))|(go_at_call 29;(refine Za (Xu h5 dl h7 [nFeedUrl] (by decide) _ (by first|rfl|exact (Zp _ _).symm|(simp;done))) ?_);rintro e w5 ⟨rfl,gq⟩;(have gr:=dl.trans gq);(have h8:=h7.ext gq);(have da:=gq.heap f9))|(go_at_call 28;(refine Za (VE h5 dk gD [nFeedUrl,nHome,nTitle,nUpdated] (by decide) _ (by first|rfl|exact (Zp _ _).symm|(simp;done))) ?_);rintro e w4 ⟨rfl,h7,fO⟩;(have dl:=Bar.ext dk fO h5.hb);(have f9:=fO.heap f8 (by have q1:=gx.out;have q2:=S.size;omega)))|(go_at_call 14;(have hz:=gY.out W1 gZ.out);(refine Za hz ?_);clear hz;rintro e w2 ⟨rfl,S⟩;(have q0:=Ext.cell S c0);(have q1:=Ext.cell S c1);(have q2:=Ext.cell S c2);(have q3:=Ext.cell S c3);(have q4:=Ext.cell S c4);(have q5:=Ext.cell S c5);(have q6:=Ext.cell S c6);(have h5:=dv.out w2.heap.size (Zl gZ.out.size S.size));(have gU:=(Ext.refl w2).alloc (.cells #[.int .i64 K,.bool Bb,.int .i64 Nn,.string Ss,.slice A p c,.slice B q d,.int .i64 At,.int .i64 0,.int .i64 0] 67));(have dk:=(gZ.out.trans S).trans gU);(have f8:=(S.trans gU).heap dJ.out);(have gD:RdAt w2.heap.size cs none (w2.alloc (.cells #[.int .i64 K,.bool Bb,.int .i64 Nn,.string Ss,.slice A p c,.slice B q d,.int .i64 At,.int .i64 0,.int .i64 0] 67)):=⟨(by rw[fk.out];exact Zh w2 _),λe he=>(by cases he)⟩))))
 focus
  have dR:itemsJ y=L:=hm.out.2.symm
  subst dR
  have fp:=gI.fault (o':=headWJ j) (by rw[dB.out,hk.out];rfl)
  have dA:Hid (itemsJ y≠ []->jsz N y):=λ_=>YM HG.out hm.out.1
  clear ge gI
 all_goals (
  have bg:(itemsJ y).length<=1000000:=dC.out
  have dL:=gd de
  have fl:=gd fT
  have fi:=gd fR
  have fq:=gd fp
  clear de fT fR fp i0 i4 i6 gn
  go_loopw [74] (λi wr=>∃(k:Nat) (E:List Ent) (eA:Option Addr) (ec:Nat) (O:Option (Nat×Nat)),k<=(itemsJ y).length/\i= .int .i64 (k:Nat)/\Hid (E.length=k)/\Hid (DF w w2.heap.size U.heap.size (w.heap.size+1) cs O (FE j t E (.slice eA E.length ec)) wr)/\Hid (OEnts wr w.heap.size (.slice eA E.length ec) E)/\Hid (∀(i:Nat) (e:Ent) (x:JO),E[i]? =some e->(itemsJ y)[i]? =some x->EntR x e)/\Hid (O=orF (headWJ j) (firstFs ((itemsJ y).take k)))) (λi _=>(itemsJ y).length - (intOf i).toNat)
  case atStart=>exact ⟨0,[],none,0,headWJ j,Zt _,rfl,rfl,fq.out,OEnts.nil _ _,(λi e x he _=>by simp at he),(by rw[List.take_zero];exact (Y9 _).symm)⟩
  case round=>
   obtain ⟨k,E,eA,ec,O,hk,rfl,hV,V,HO,fn,hO⟩:=hrel
   by_cases hD:k<(itemsJ y).length
   ·have dY:(k:Int)<((itemsJ y).length:Int):=(by omega)
    have bp:(0:Int)<=(k:Int):=(by omega)
    have fQ:k<css.length:=(by rw[fi.out];exact hD)
    have gj:=fl.out k (itemsJ y)[k] css[k] (Zc hD) (Zc fQ)
    have f0:∀c∈css,c.length=7:=by
     intro c hc
     obtain ⟨i,hi,rfl⟩:=List.mem_iff_getElem.1 hc
     exact (fl.out i ((itemsJ y)[i]'(by rw[<-fi.out];exact hi)) css[i] (Zc _) (Zc hi)).len
    obtain ⟨ad,cap,hA,G⟩:=RSl.elem (dL.out.ext V.out.ext) (by omega) f0 k css[k] (Zc fQ)
    injection hA with hA1 hA2 hA3
    subst hA1
    clear hA2 hA3 f0
    rw[Y7] at G
    obtain ⟨C,hC⟩:∃C,css[k]=C:=⟨_,rfl⟩
    rw[hC] at gj G
    obtain ⟨X,hX⟩:∃X,(itemsJ y)[k]=X:=⟨_,rfl⟩
    rw[hX] at gj
    obtain ⟨A4,p4,hw,B4,hF,d4,gm⟩:=gj.cells
    obtain ⟨K4,fD⟩:∃a,kindJ X=a:=⟨_,rfl⟩
    obtain ⟨hp,gK⟩:∃a,bJ X=a:=⟨_,rfl⟩
    obtain ⟨hs,gL⟩:∃a,nJ X=a:=⟨_,rfl⟩
    obtain ⟨hu,gM⟩:∃a,sJ X=a:=⟨_,rfl⟩
    obtain ⟨ho,gJ⟩:∃a,atJ X=a:=⟨_,rfl⟩
    rw[fD,gK,gL,gM,gJ] at gm
    unfold wcells at gm
    have du:=gd gm
    have fu:Hid (RJ w X C):=⟨_,gj⟩
    rw[gm] at G
    have u0:=G 0 _ rfl
    have u1:=G 1 _ rfl
    have u2:=G 2 _ rfl
    have u3:=G 3 _ rfl
    have u4:=G 4 _ rfl
    have u5:=G 5 _ rfl
    have u6:=G 6 _ rfl
    rw[add_zero] at u0
    have gN:∀i,0<i->(ad.add (k*7)).add i=⟨(ad.add (k*7)).block,(ad.add (k*7)).off+i,none⟩:=λi hi=>Zf (by omega)
    rw[gN _ (by omega)] at u1 u2 u3 u4 u5 u6
    have g2:=gd hX
    have be:=gd hC
    clear gN G gj hX hC fD gK gL gM gJ gm
    cases O with
    |none=>
     have hj:cs.length=7:=(by obtain ⟨_,_,_,_,_,_,e⟩:=Z.out.cells;rw[e];rfl)
     obtain ⟨r7,r8, -⟩:=Yu V.out.rd hj
     simp only[faultA,faultE] at r7 r8
     have bs:w2.heap.size<wr.heap.size:=(Ze.1 V.out.rd.1).1
     have fZ:U.heap.size<wr.heap.size:=(Ze.1 V.out.fb).1
     have f1:w.heap.size+1<wr.heap.size:=(Ze.1 V.out.rb).1
     obtain ⟨WB,gz⟩:∃WB,(wr.alloc (.cells #[.int .i64 (K4:Nat),.bool hp,.int .i64 hs,.string hu,.slice A4 p4 hw,.slice B4 hF d4,.int .i64 (ho:Nat)] 25)).alloc (.cells #[.int .i64 (K4:Nat),.bool hp,.int .i64 hs,.string hu,.slice A4 p4 hw,.slice B4 hF d4,.int .i64 (ho:Nat),.int .i64 0,.int .i64 0] 67)=WB:=⟨_,rfl⟩
     have gF:Ext wr WB:=(by rw[<-gz];exact ((Ext.refl wr).alloc _).alloc _)
     have f7:WB.heap[wr.heap.size+1]? =some (.cells #[.int .i64 (K4:Nat),.bool hp,.int .i64 hs,.string hu,.slice A4 p4 hw,.slice B4 hF d4,.int .i64 (ho:Nat),.int .i64 0,.int .i64 0] 67 (0,0)):=(by rw[<-gz];exact YN wr _ _)
     have dS:Hid (RdAt (wr.heap.size+1) C none WB):=⟨by rw[du.out];exact f7,λe he=>by cases he⟩
     have gw:=gd (V.out.next gF)
     have bj:=gd (OEnts.ext HO.out gF)
     have dh:WB.heap.size=wr.heap.size+2:=(by rw[<-gz,Zp,Zp])
     have bk:=gd dh
     have f5:=(gw.out.cell 5 (v:= .slice eA E.length ec) rfl).1
     have dN:=gd gF
     have dz:Hid (jsz N X):=by
      have h4:∃a l,y= .arr a l:=by
       cases y with
       |arr a l=>exact ⟨a,l,rfl⟩
       |_=>exact absurd hD (Nat.not_lt_zero _)
      obtain ⟨a4,l4,e4⟩:=h4
      have g9:jsz N y:=dA.out (λe=>by rw[e4] at hD e;exact absurd hD (by rw[e];exact Nat.not_lt_zero _))
      have dp:X∈itemsJ y:=(by rw[<-g2.out];exact ZO hD)
      rw[e4] at g9 dp
      rw[jsz] at g9
      exact g9 X dp
     clear dh gF f7 hj
     go_wp2
     refine rN ?_
     change wpAny _ _ _ _ _ _ _ (World.drew _)
     have hl:=(Ext.refl WB).drew
     have gB:WB.drew.cell? ⟨U.heap.size,5,none⟩=some (.slice eA E.length ec):=f5
     refine X8 (i:=0) (v:= .pointer (some ⟨U.heap.size,5,none⟩)) (λw'=>w'.cell? ⟨U.heap.size,5,none⟩=some (.slice eA E.length ec)) 7 rfl (by kernel_rfl) (λ_ _ _ h=>h) (Or.inl ⟨by rfl,λw' hS=>by go_simp⟩) gB ?_
     refine tT 1 (.slice eA E.length ec) rfl (λw' hS=>by have hq:w'.cell? ⟨U.heap.size,5,none⟩=some (.slice eA E.length ec):=hS;go_simp) gB ?_
     refine tT 2 (.pointer (some ⟨wr.heap.size+1,0,none⟩)) rfl (λw' hS=>by go_simp) gB ?_
     go_simp
     refine Yo (i:=3) rfl (by kernel_rfl) (λK2 D=> ?_)
     go_simp
     go_at_call 35
     refine Za (U0 N X C (wr.heap.size+1) none w WB.drew fu.out dz.out hN fm.out (gw.out.ext.trans hl) (by have:=V.out.ext.size;omega) (dS.out.ext hl)) ?_
     rintro e9 w3 ⟨Ex,rfl,fB,gD,fN⟩
     have hW:Ext wr w3:=Bar.ext (dN.out.trans hl) fN (ZM _)
     have gV:=V.out.next hW
     have ft:=OEnts.ext HO.out hW
     have g5:=(gV.cell 5 (v:= .slice eA E.length ec) rfl).1
     refine D _ _ (λ_=>g5) ?_
     clear D K2
     have hG:=gV.next ((Ext.refl w3).alloc (.cells (eCells Ex).toArray 64))
     have hU:=OEnts.ext ft ((Ext.refl w3).alloc (.cells (eCells Ex).toArray 64))
     have h7:=gD.ext ((Ext.refl w3).alloc (.cells (eCells Ex).toArray 64))
     have g6:=(hG.cell 5 (v:= .slice eA E.length ec) rfl).1
     have gQ:RSl (w3.alloc (.cells (eCells Ex).toArray 64)) 5 (.slice (some ⟨w3.heap.size,0,none⟩) 1 1) 1 (eCells Ex):=ZY (w:=w3) (n:=1) (cs:=eCells Ex) rfl (by decide)
     refine Yo (i:=4) rfl (by kernel_rfl) (λK2 D=> ?_)
     go_simp
     refine D _ _ (λ_=>g6) ?_
     clear D K2
     refine Yo (i:=5) rfl (by kernel_rfl) (λK2 D=> ?_)
     refine Z5 _ (by rfl) (.tmp 87) (.tmp 90) _ (by rfl) w.heap.size 64 i0 _ 5 72 underlying30 dW d6 d7 d8 rfl (by decide) _ E.length (flatE E) (by rfl) hU _ 1 (eCells Ex) (by rfl) gQ (Z1 Ex) (by have:=hV.out;unfold maxLen;omega) (by have:=hV.out;omega) hG.ext.size ?_
     intro v5 gt hY h6 fK
     obtain ⟨A5,hH,d3⟩:∃A c,v5= .slice A (E.length+1) c:=by
      rcases hY.2 with ⟨h1,h2⟩|⟨g,cap,bm,h1,_⟩
      ·exact ⟨none,0,by rw[h1,h2]⟩
      ·exact ⟨_,cap,h1⟩
     subst d3
     have gr:Ext w gt:=Ext.app hG.ext h6 hU (Zd _)
     have gh:DF w w2.heap.size U.heap.size (w.heap.size+1) cs none (FE j t E (.slice eA E.length ec)) gt:=⟨⟨J9 hU h6 hG.rd.1 (by decide),hG.rd.2⟩,J9 hU h6 hG.fb (by decide),J9 hU h6 hG.rb (by decide),gr⟩
     have h8:RdAt (wr.heap.size+1) C (entF X) gt:=⟨J9 hU h6 h7.1 (by decide),h7.2⟩
     have g7:=(gh.cell 5 (v:= .slice eA E.length ec) rfl).1
     have dQ:=(gh.cell 5 (v:= .slice eA E.length ec) rfl).2
     refine D _ _ (λ_=>g7) ?_
     clear D K2
     refine Yo (i:=6) rfl (by kernel_rfl) (λK2 D=> ?_)
     go_simp
     refine D _ _ (λ_=>g7) ?_
     clear D K2
     refine Yo (i:=7) rfl (by kernel_rfl) (λK2 D=> ?_)
     go_simp
     refine D _ _ (λh=>absurd (show true=false from h) (by decide)) ?_
     clear D K2
     refine Jy (by kernel_rfl) ?_
     have gi:=gh.set J 5 (.slice A5 (E.length+1) hH) (F':=FE j t (E++ [Ex]) (.slice A5 (E++ [Ex]).length hH)) (by rw[Zj,Yb];rfl)
     have g8:=XK (p:=⟨U.heap.size,5,none⟩) hY gh.fb (by decide) (.slice A5 (E.length+1) hH)
     have hP:RdAt (wr.heap.size+1) C (entF X) (gt.setCell ⟨U.heap.size,5,none⟩ (.slice A5 (E.length+1) hH)):=⟨by rw[Zs _ _ _ _ (by show wr.heap.size+1≠U.heap.size;omega)];exact h8.1,h8.2⟩
     obtain ⟨W6,fJ⟩:∃W6,gt.setCell ⟨U.heap.size,5,none⟩ (.slice A5 (E.length+1) hH)=W6:=⟨_,rfl⟩
     rw[fJ] at gi g8 hP|-
     have dZ:C.length=7:=(by obtain ⟨_,_,_,_,_,_,e⟩:=fu.out.cells;rw[e];rfl)
     obtain ⟨s7,s8, -⟩:=Yu hP dZ
     obtain ⟨-, -,z0⟩:=Yu gi.rd (by obtain ⟨_,_,_,_,_,_,e⟩:=Z.out.cells;rw[e];rfl)
     obtain ⟨y7,y8, -⟩:=Yu gi.rd (by obtain ⟨_,_,_,_,_,_,e⟩:=Z.out.cells;rw[e];rfl)
     have z7:=z0 7
     have z8:=z0 8
     have gW:=gd gi
     have dF:=gd g8
     have dK:=gd hP
     have dw:=gd fB
     clear fJ gh gi g8 hP h8 h7 gD gV hG ft hU g5 g6 g7 dQ hY h6 fK gQ gr fB hW fN gB f5 gz hl z0
     go_wp2
     have F:W6.drew.cell? ⟨wr.heap.size+1,7,none⟩=some (.int .i64 (faultA (entF X):Nat))/\W6.drew.cell? ⟨wr.heap.size+1,8,none⟩=some (.int .i64 (faultE (entF X):Nat)):=⟨s7,s8⟩
     have ba:W6.drew.cell? ⟨w2.heap.size,7,none⟩=some (.int .i64 0):=y7
     have bb:W6.drew.cell? ⟨w2.heap.size,8,none⟩=some (.int .i64 0):=y8
     have bc:W6.drew.frozen? ⟨w2.heap.size,7,none⟩=false:=z7
     have bd:W6.drew.frozen? ⟨w2.heap.size,8,none⟩=false:=z8
     refine rN ?_
     change wpAny _ _ _ _ _ _ _ (World.drew _)
     refine Yi (λw'=>w'.cell? ⟨wr.heap.size+1,7,none⟩=some (.int .i64 (faultA (entF X):Nat))/\w'.cell? ⟨wr.heap.size+1,8,none⟩=some (.int .i64 (faultE (entF X):Nat))) ?_
     refine tG 0 (.pointer (some ⟨w2.heap.size,0,none⟩)) F ?_
     refine tG 1 (.pointer (some ⟨w2.heap.size,0,none⟩)) F ?_
     refine tG 2 (.pointer (some ⟨wr.heap.size+1,0,none⟩)) F ?_
     refine tG 3 (.pointer (some ⟨wr.heap.size+1,0,none⟩)) F ?_
     go_simp
     refine tG 4 (.pointer (some ⟨wr.heap.size+1,7,none⟩)) F ?_
     refine tS 5 (.int .i64 (faultA (entF X):Nat)) rfl (λw' hS=>by have hq:=hS.1;go_simp) F ?_
     refine tG 6 (.pointer (some ⟨wr.heap.size+1,0,none⟩)) F ?_
     go_simp
     refine tG 7 (.pointer (some ⟨wr.heap.size+1,0,none⟩)) F ?_
     refine tG 8 (.pointer (some ⟨wr.heap.size+1,8,none⟩)) F ?_
     refine tS 9 (.int .i64 (faultE (entF X):Nat)) rfl (λw' hS=>by have hq:=hS.2;go_simp) F ?_
     go_simp
     refine tG 10 (.pointer (some ⟨w2.heap.size,0,none⟩)) F ?_
     refine tG 11 (.pointer (some ⟨w2.heap.size,7,none⟩)) F ?_
     go_simp
     refine Zv (i:=12) rfl (by kernel_rfl) (λK2 D=> ?_)
     go_simp
     have gC:wr.heap.size+1≠w2.heap.size:=(by omega)
     obtain ⟨W7,gk⟩:∃W7,(W6.setCell ⟨w2.heap.size,7,none⟩ (.int .i64 (faultA (entF X):Nat))).drew=W7:=⟨_,rfl⟩
     rw[gk]
     have hy:W6.drew.setCell ⟨w2.heap.size,7,none⟩ (.int .i64 (faultA (entF X):Nat))=W7:=gk
     have Q:W7.cell? ⟨wr.heap.size+1,7,none⟩=some (.int .i64 (faultA (entF X):Nat))/\W7.cell? ⟨wr.heap.size+1,8,none⟩=some (.int .i64 (faultE (entF X):Nat)):=by
      rw[<-hy]
      exact ⟨(Zu (a:=⟨wr.heap.size+1,7,none⟩) (Zs _ _ _ _ gC)).trans s7,(Zu (a:=⟨wr.heap.size+1,8,none⟩) (Zs _ _ _ _ gC)).trans s8⟩
     obtain ⟨m8,dt⟩:=Zaf (gW.out.rd.ext (Ext.refl W6).drew) (by obtain ⟨_,_,_,_,_,_,e⟩:=Z.out.cells;rw[e];rfl) (.int .i64 (faultA (entF X):Nat))
     simp only[faultE] at m8
     rw[hy] at m8 dt
     refine D _ _ Q ?_
     clear D K2
     refine tG 13 (.pointer (some ⟨w2.heap.size,0,none⟩)) Q ?_
     refine tG 14 (.pointer (some ⟨w2.heap.size,8,none⟩)) Q ?_
     go_simp
     refine Zv (i:=15) rfl (by kernel_rfl) (λK2 D=> ?_)
     go_simp
     obtain ⟨W8,hJ⟩:∃W8,W7.setCell ⟨w2.heap.size,8,none⟩ (.int .i64 (faultE (entF X):Nat))=W8:=⟨_,rfl⟩
     rw[hJ]
     have fH:W8.cell? ⟨wr.heap.size+1,7,none⟩=some (.int .i64 (faultA (entF X):Nat))/\W8.cell? ⟨wr.heap.size+1,8,none⟩=some (.int .i64 (faultE (entF X):Nat)):=by
      rw[<-hJ]
      exact ⟨(Zu (a:=⟨wr.heap.size+1,7,none⟩) (Zs _ _ _ _ gC)).trans Q.1,(Zu (a:=⟨wr.heap.size+1,8,none⟩) (Zs _ _ _ _ gC)).trans Q.2⟩
     refine D _ _ fH ?_
     clear D K2
     refine sE ?_
     have gu:Hid (DF w w2.heap.size U.heap.size (w.heap.size+1) cs (entF X) (FE j t (E++ [Ex]) (.slice A5 (E++ [Ex]).length hH)) W8):=by
      have hd:=gW.out.next (Ext.refl W6).drew
      have dd:=Zag hd.rd (by obtain ⟨_,_,_,_,_,_,e⟩:=Z.out.cells;rw[e];rfl) dK.out.2
      rw[hy,hJ] at dd
      refine ⟨dd,?_,?_,?_⟩
      ·rw[<-hJ,<-hy,Zs _ _ _ _ J.bf.symm,Zs _ _ _ _ J.bf.symm];exact hd.fb
      ·rw[<-hJ,<-hy,Zs _ _ _ _ J.br.symm,Zs _ _ _ _ J.br.symm];exact hd.rb
      ·rw[<-hJ,<-hy]
       exact (hd.ext.setCell (p:=⟨w2.heap.size,7,none⟩) J.kb _).setCell (p:=⟨w2.heap.size,8,none⟩) J.kb _
     have dG:Hid (OEnts W8 w.heap.size (.slice A5 (E++ [Ex]).length hH) (E++ [Ex])):=by
      have hd:=gW.out.next (Ext.refl W6).drew
      have h0:=Yw dF.out (Ext.refl W6).drew
      have h1:=XK (p:=⟨w2.heap.size,7,none⟩) h0 hd.rd.1 (by decide) (.int .i64 (faultA (entF X):Nat))
      rw[hy] at h1
      have hh:=ZR W6.drew w2.heap.size 7 _ _ (.int .i64 (faultA (entF X):Nat)) hd.rd.1
      rw[hy] at hh
      have h2:=XK (p:=⟨w2.heap.size,8,none⟩) h1 hh (by decide) (.int .i64 (faultE (entF X):Nat))
      rw[hJ] at h2
      show OEnts W8 _ _ _
      rw[Zj,Yb]
      exact OEnts.snoc h2
     have fo:Hid (∀(i:Nat) (e:Ent) (x:JO),(E++ [Ex])[i]? =some e->(itemsJ y)[i]? =some x->EntR x e):=λi e x he hx=>by
      by_cases hi:i<E.length
      ·rw[Z2 hi] at he
       exact fn.out i e x he hx
      ·have dX:i=k:=by
        have:=(ZE.1 he).1
        have hE:=hV.out
        simp at this
        omega
       subst dX
       rw[ZK (by rw[hV.out];exact Zd _),hV.out,Nat.sub_self] at he
       rw[Zc hD,g2.out] at hx
       simp at he hx
       subst he hx
       exact dw.out
     have dH:Hid (entF X=orF (headWJ j) (firstFs ((itemsJ y).take (k+1)))):=by
      show _=_
      rw[Ua hD,<-Xw,<-hO.out,g2.out]
      rfl
     clear hy gk hJ F Q fH s7 s8 y7 y8 ba bb z7 z8 bc bd m8 dt
     go_wp2
     go_roundw
     case rel=>exact ⟨k+1,E++ [Ex],A5,hH,entF X,hD,by go_num,(by have:=hV.out;rw[Zj,this];rfl),gu,dG,fo,dH⟩
     case measure=>simp[intOf];omega
    |some f=>
     have hr:=V.out.next ((Ext.refl wr).alloc (.cells #[.int .i64 (K4:Nat),.bool hp,.int .i64 hs,.string hu,.slice A4 p4 hw,.slice B4 hF d4,.int .i64 (ho:Nat)] 25))
     have hj:cs.length=7:=(by obtain ⟨_,_,_,_,_,_,e⟩:=Z.out.cells;rw[e];rfl)
     have fW:f.2≠0:=hr.rd.2 f rfl
     obtain ⟨r7,r8, -⟩:=Yu hr.rd hj
     have dV:(((f.2:Nat):Int) !=0)=true:=(by rw[Yj];omega)
     have fU:¬((f.2:Nat):Int)=0:=(by omega)
     have gg:=gd hr
     have hQ:R= .error f:=(by rw[<-gX.out];exact gG.out f (by rw[HL.out];exact Xd (k:=k) hO.out.symm))
     subst hQ
     obtain ⟨fa,fe⟩:=f
     simp only[faultA,faultE] at r7 r8
     clear hr hj
     go_wp2
     have hl:=(Ext.refl (wr.alloc (.cells #[.int .i64 (K4:Nat),.bool hp,.int .i64 hs,.string hu,.slice A4 p4 hw,.slice B4 hF d4,.int .i64 (ho:Nat)] 25))).drew
     have F:(wr.alloc (.cells #[.int .i64 (K4:Nat),.bool hp,.int .i64 hs,.string hu,.slice A4 p4 hw,.slice B4 hF d4,.int .i64 (ho:Nat)] 25)).drew.cell? ⟨w2.heap.size,7,none⟩=some (.int .i64 (fa:Nat))/\(wr.alloc (.cells #[.int .i64 (K4:Nat),.bool hp,.int .i64 hs,.string hu,.slice A4 p4 hw,.slice B4 hF d4,.int .i64 (ho:Nat)] 25)).drew.cell? ⟨w2.heap.size,8,none⟩=some (.int .i64 (fe:Nat)):=⟨r7,r8⟩
     have go:=hl.heap gg.out.rb
     refine rN ?_
     change wpAny _ _ _ _ _ _ _ (World.drew _)
     refine Yi (λw'=>w'.cell? ⟨w2.heap.size,7,none⟩=some (.int .i64 (fa:Nat))/\w'.cell? ⟨w2.heap.size,8,none⟩=some (.int .i64 (fe:Nat))) ?_
     refine tS 0 (.agg (cellsC zeroC).toArray) rfl (λw' hS=>by go_simp;rfl) F ?_
     refine tG 1 (.pointer (some ⟨w2.heap.size,0,none⟩)) F ?_
     refine tG 2 (.pointer (some ⟨w2.heap.size,0,none⟩)) F ?_
     refine tG 3 (.pointer (some ⟨w2.heap.size,7,none⟩)) F ?_
     go_simp
     refine tS 4 (.int .i64 (fa:Nat)) rfl (λw' hS=>by have hq:=hS.1;go_simp) F ?_
     refine tG 5 (.pointer (some ⟨w2.heap.size,0,none⟩)) F ?_
     refine tG 6 (.pointer (some ⟨w2.heap.size,0,none⟩)) F ?_
     go_simp
     refine tG 7 (.pointer (some ⟨w2.heap.size,8,none⟩)) F ?_
     refine tS 8 (.int .i64 (fe:Nat)) rfl (λw' hS=>by have hq:=hS.2;go_simp) F ?_
     go_simp
     refine Zv (i:=9) rfl (by kernel_rfl) (λK2 D=> ?_)
     refine Z4 rfl 32 (.tmp 2) (.tmp 113) rfl (w.heap.size+1) (cellsC zeroC).toArray rfl rfl _ _ go ZA rfl YQ ?_
     have hM:w.heap.size+1<w2.heap.size:=(by have q1:=gx.out;have q2:=S.size;omega)
     have Q:=Z9 ((Zu (a:=⟨w2.heap.size,7,none⟩) (ZD (wr.alloc (.cells #[.int .i64 (K4:Nat),.bool hp,.int .i64 hs,.string hu,.slice A4 p4 hw,.slice B4 hF d4,.int .i64 (ho:Nat)] 25)).drew (w.heap.size+1) w2.heap.size (cellsC zeroC).toArray (Nat.ne_of_gt hM))).trans F.1) ((Zu (a:=⟨w2.heap.size,8,none⟩) (ZD (wr.alloc (.cells #[.int .i64 (K4:Nat),.bool hp,.int .i64 hs,.string hu,.slice A4 p4 hw,.slice B4 hF d4,.int .i64 (ho:Nat)] 25)).drew (w.heap.size+1) w2.heap.size (cellsC zeroC).toArray (Nat.ne_of_gt hM))).trans F.2)
     refine D _ _ Q ?_
     clear D K2
     refine Zv (i:=10) rfl (by kernel_rfl) (λK2 D=> ?_)
     go_simp
     refine D _ _ Q ?_
     clear D K2
     refine Zv (i:=11) rfl (by kernel_rfl) (λK2 D=> ?_)
     go_simp
     refine D _ _ Q ?_
     clear D K2
     refine sE ?_
     go_wp2
     ((try simp only[Exit.inBlock,Exit.then]);refine Zm (Zw rfl _ _ _ _ _ _ _ rfl (Zk _ _ _ _ _ _ go) underlying32 rfl ZA) rfl ?_)
     exact ⟨rfl,(gg.out.ext.trans hl).setRow (ZM _) _⟩
   ·have bq:k=(itemsJ y).length:=(by omega)
    have dY:¬(k:Int)<((itemsJ y).length:Int):=(by omega)
    cases O with
    |none=>
     have hj:cs.length=7:=(by obtain ⟨_,_,_,_,_,_,e⟩:=Z.out.cells;rw[e];rfl)
     obtain ⟨r7,r8, -⟩:=Yu V.out.rd hj
     simp only[faultA,faultE] at r7 r8
     have fA:=hV.out
     have fd:=dI.out t E (by rw[HL.out,hO.out,ZC (by omega)]) HT.out (by rw[HL.out];omega) (by rw[HL.out];exact fn.out)
     have fV:=dx.out _ fd
     have hQ:R= .ok ⟨[],idW j,firstJ j [nTitle],firstJ j [nHome],t,E⟩:=(by rw[<-gX.out];exact fd)
     subst hQ
     have dc:RdC wr (FE j t E (.slice eA E.length ec)):=⟨RSl.nil wr 1,OEnts.reads HO.out⟩
     have dE:=gd (XW (FE j t E (.slice eA E.length ec)) wr (fm.out.ext V.out.ext) fV dc)
     have e0:=(V.out.cell 0 (v:= .slice none 0 0) rfl).1
     have e1:=(V.out.cell 1 (v:= .string (idW j)) rfl).1
     have e2:=(V.out.cell 2 (v:= .string (firstJ j [nTitle])) rfl).1
     have e3:=(V.out.cell 3 (v:= .string (firstJ j [nHome])) rfl).1
     have e4:=(V.out.cell 4 (v:= .int .i64 t) rfl).1
     have e5:=(V.out.cell 5 (v:= .slice eA E.length ec) rfl).1
     have fZ:U.heap.size<wr.heap.size:=(Ze.1 V.out.fb).1
     have f1:w.heap.size+1<wr.heap.size:=(Ze.1 V.out.rb).1
     have dy:=J.fr
     clear fd fV dc hj fA
     go_wp2_with (first|(refine Zg rfl 32 (.tmp 2) (.tmp 127) rfl (w.heap.size+1) #[.slice A9 m9 c9,.string I.id,.string I.title,.string I.link,.int .i64 I.upd,.slice B9 o9 d9] rfl rfl _ _ gR ZA rfl YQ ?_)|(refine Zg rfl 32 (.tmp 8) (.tmp 125) rfl U.heap.size #[.slice A9 m9 c9,.string I.id,.string I.title,.string I.link,.int .i64 I.upd,.slice B9 o9 d9] rfl rfl _ _ ha ZA rfl YQ ?_;(have n0:=Zb _ _ 0 _ _ _ (Zk hZ U.heap.size _ #[.slice A9 m9 c9,.string I.id,.string I.title,.string I.link,.int .i64 I.upd,.slice B9 o9 d9] _ _ ha));(have n1:=Zb _ _ 1 _ _ _ (Zk hZ U.heap.size _ #[.slice A9 m9 c9,.string I.id,.string I.title,.string I.link,.int .i64 I.upd,.slice B9 o9 d9] _ _ ha));(have n2:=Zb _ _ 2 _ _ _ (Zk hZ U.heap.size _ #[.slice A9 m9 c9,.string I.id,.string I.title,.string I.link,.int .i64 I.upd,.slice B9 o9 d9] _ _ ha));(have n3:=Zb _ _ 3 _ _ _ (Zk hZ U.heap.size _ #[.slice A9 m9 c9,.string I.id,.string I.title,.string I.link,.int .i64 I.upd,.slice B9 o9 d9] _ _ ha));(have n4:=Zb _ _ 4 _ _ _ (Zk hZ U.heap.size _ #[.slice A9 m9 c9,.string I.id,.string I.title,.string I.link,.int .i64 I.upd,.slice B9 o9 d9] _ _ ha));(have n5:=Zb _ _ 5 _ _ _ (Zk hZ U.heap.size _ #[.slice A9 m9 c9,.string I.id,.string I.title,.string I.link,.int .i64 I.upd,.slice B9 o9 d9] _ _ ha)))|(go_at_call 36;(have hz:=dE.out);(refine Za hz ?_);clear hz;rintro e hZ ⟨Y,rfl,dr,fg,dq,gp⟩;(have ds:=fg.sl);(obtain ⟨yp,bx,I⟩:=Y);(obtain ⟨⟨A9,m9,c9,h9⟩,⟨B9,o9,d9,fx⟩⟩:=ds);(dsimp only at h9 fx);(subst h9);(subst fx);(have dO:=gd dr);(have dP:=gd fg);(have fv:=gd dq);clear dr fg dq;(unfold cellsC fCells);(dsimp only);(have ha:=gp.heap V.out.fb);(have gR:=(ZD hZ U.heap.size (w.heap.size+1) #[.slice A9 m9 c9,.string I.id,.string I.title,.string I.link,.int .i64 I.upd,.slice B9 o9 d9] dy.symm).trans (gp.heap V.out.rb))))
     ((try simp only[Exit.inBlock,Exit.then]);refine Zm (Zw rfl _ _ _ _ #[.slice A9 m9 c9,.string I.id,.string I.title,.string I.link,.int .i64 I.upd,.slice B9 o9 d9] _ _ rfl (Zk _ _ _ _ _ _ gR) underlying32 rfl ZA) rfl ?_)
     refine ⟨⟨⟨.slice A9 m9 c9,.slice B9 o9 d9,I⟩,rfl,dO.out,?_,⟨⟨_,_,_,rfl⟩,⟨_,_,_,rfl⟩⟩⟩,((V.out.ext.trans gp).setRow J.kf _).setRow J.kr _⟩
     exact (dP.out.grown (Yh _ _ _) (fv.out _ fZ)).grown (Yh _ _ _) (fv.out _ f1)
    |some f=>
     have hr:=V.out
     have hj:cs.length=7:=(by obtain ⟨_,_,_,_,_,_,e⟩:=Z.out.cells;rw[e];rfl)
     have fW:f.2≠0:=hr.rd.2 f rfl
     obtain ⟨r7,r8, -⟩:=Yu hr.rd hj
     have dV:(((f.2:Nat):Int) !=0)=true:=(by rw[Yj];omega)
     have fU:¬((f.2:Nat):Int)=0:=(by omega)
     have gg:=gd hr
     have hQ:R= .error f:=(by rw[<-gX.out];exact gG.out f (by rw[HL.out];exact Xd (k:=k) hO.out.symm))
     subst hQ
     obtain ⟨fa,fe⟩:=f
     simp only[faultA,faultE] at r7 r8
     clear hr hj
     go_wp2
     have hl:=(Ext.refl wr).drew
     have F:(wr).drew.cell? ⟨w2.heap.size,7,none⟩=some (.int .i64 (fa:Nat))/\(wr).drew.cell? ⟨w2.heap.size,8,none⟩=some (.int .i64 (fe:Nat)):=⟨r7,r8⟩
     have go:=hl.heap gg.out.rb
     refine rN ?_
     change wpAny _ _ _ _ _ _ _ (World.drew _)
     refine Yi (λw'=>w'.cell? ⟨w2.heap.size,7,none⟩=some (.int .i64 (fa:Nat))/\w'.cell? ⟨w2.heap.size,8,none⟩=some (.int .i64 (fe:Nat))) ?_
     refine tS 0 (.agg (cellsC zeroC).toArray) rfl (λw' hS=>by go_simp;rfl) F ?_
     refine tG 1 (.pointer (some ⟨w2.heap.size,0,none⟩)) F ?_
     refine tG 2 (.pointer (some ⟨w2.heap.size,0,none⟩)) F ?_
     refine tG 3 (.pointer (some ⟨w2.heap.size,7,none⟩)) F ?_
     go_simp
     refine tS 4 (.int .i64 (fa:Nat)) rfl (λw' hS=>by have hq:=hS.1;go_simp) F ?_
     refine tG 5 (.pointer (some ⟨w2.heap.size,0,none⟩)) F ?_
     refine tG 6 (.pointer (some ⟨w2.heap.size,0,none⟩)) F ?_
     go_simp
     refine tG 7 (.pointer (some ⟨w2.heap.size,8,none⟩)) F ?_
     refine tS 8 (.int .i64 (fe:Nat)) rfl (λw' hS=>by have hq:=hS.2;go_simp) F ?_
     go_simp
     refine Zv (i:=9) rfl (by kernel_rfl) (λK2 D=> ?_)
     refine Z4 rfl 32 (.tmp 2) (.tmp 113) rfl (w.heap.size+1) (cellsC zeroC).toArray rfl rfl _ _ go ZA rfl YQ ?_
     have hM:w.heap.size+1<w2.heap.size:=(by have q1:=gx.out;have q2:=S.size;omega)
     have Q:=Z9 ((Zu (a:=⟨w2.heap.size,7,none⟩) (ZD (wr).drew (w.heap.size+1) w2.heap.size (cellsC zeroC).toArray (Nat.ne_of_gt hM))).trans F.1) ((Zu (a:=⟨w2.heap.size,8,none⟩) (ZD (wr).drew (w.heap.size+1) w2.heap.size (cellsC zeroC).toArray (Nat.ne_of_gt hM))).trans F.2)
     refine D _ _ Q ?_
     clear D K2
     refine Zv (i:=10) rfl (by kernel_rfl) (λK2 D=> ?_)
     go_simp
     refine D _ _ Q ?_
     clear D K2
     refine Zv (i:=11) rfl (by kernel_rfl) (λK2 D=> ?_)
     go_simp
     refine D _ _ Q ?_
     clear D K2
     refine sE ?_
     go_wp2
     ((try simp only[Exit.inBlock,Exit.then]);refine Zm (Zw rfl _ _ _ _ _ _ _ rfl (Zk _ _ _ _ _ _ go) underlying32 rfl ZA) rfl ?_)
     exact ⟨rfl,(gg.out.ext.trans hl).setRow (ZM _) _⟩
 )
end
theorem Ze7 (N:Nat) (j:JO) (cs:List Value) (w:World) (h:RJ w j cs) (G:jsz N j) (F:N<=16777216) (D:Env w) (I:versJ j≠none) (H:∀f,decJ j= .ok f->fokS f) (C:(itsW j).length<=1000000):
 Calls prog 12 #[.agg cs.toArray] w λe w'=>DecR w' (decJ j) e/\Ext w w':=by
 cases hB:(collapse (firstJ j [nFeedUrl])).toList.isEmpty with
 |true=>
  cases hm:memJ j nItems with
  |none=>exact Zf6 N j cs w h G F D I H C hB (by rw[hm];rfl)
  |some x=>
   cases hk4:(((kindJ x:Nat):Int) !=4) with
   |false=>exact Zf7 N j cs w h G F D I H C hB (by rw[hm];rfl) (λy A=>by rw[hm] at A;injection A with A;rw[<-A];exact hk4)
   |true=>exact Zf8 N j cs w h G F D I H C hB (by rw[hm];rfl) (λy A=>by rw[hm] at A;injection A with A;rw[<-A];exact hk4)
 |false=>
  cases hm:memJ j nItems with
  |none=>exact Zf9 N j cs w h G F D I H C hB (by rw[hm];rfl)
  |some x=>
   cases hk4:(((kindJ x:Nat):Int) !=4) with
   |false=>exact Zga N j cs w h G F D I H C hB (by rw[hm];rfl) (λy A=>by rw[hm] at A;injection A with A;rw[<-A];exact hk4)
   |true=>exact Zgb N j cs w h G F D I H C hB (by rw[hm];rfl) (λy A=>by rw[hm] at A;injection A with A;rw[<-A];exact hk4)
section
set_option linter.unusedSimpArgs false
theorem Qf:∀{l:List UInt8},(∀c∈l,32<=c.toNat/\c.toNat<128)->isText l
 | [],_=>Qs
 |c::t,h=>by
  obtain ⟨D,j⟩:=h c (ZcZ ..)
  have A:isChar c.toNat=true:=by simp only[isChar,Z6];omega
  have:=KJ (KK A) (Qf (l:=t) λd C=>h d (EN _ C))
  rwa [(Zev c).2 j] at this
theorem Zg9 (n:Nat):32<(dg n).toNat/\(dg n).toNat<128:=by rw[ZgE];omega
theorem ZgI (t:Int):∀c∈fmtL t,32<c.toNat/\c.toNat<128:=by
 intro c h;unfold fmtL fmtD at h;simp only[pad2,pad4,ZZ,ZG,List.not_mem_nil,YK] at h;have j:32<(45:UInt8).toNat/\(45:UInt8).toNat<128:=by decide
 have A:32<(84:UInt8).toNat/\(84:UInt8).toNat<128:=by decide
 have C:32<(58:UInt8).toNat/\(58:UInt8).toNat<128:=by decide
 have D:32<(90:UInt8).toNat/\(90:UInt8).toNat<128:=by decide
 rcases h with (h|h|h|h)|h|(h|h)|h|(h|h)|h|(h|h)|h|(h|h)|h|(h|h)|h<;>subst h<;>first|exact Zg9 _|exact j|exact A|exact C|exact D
theorem ZcW (l:List UInt8):(str l).data.toList=l:=by simp[str]
theorem Zdi (t:Int):(checkS (str (fmtL t))).2=0:=by
 unfold checkS;rw[ZcW];exact (Gh _).2 (Qf λc h=>by have:=ZgI t c h;omega)
theorem Gi {o:JO}:∀{l:List ByteArray} {b:Bool},chkJ o b l=none->∀n∈l,∀x,memJ o n=some x->(checkS (sJ x)).2=0/\(kindJ x=3\/(b=true/\kindJ x=2/\l.head? =some n))
 | [],_,_,n,j,_,_=>by cases j
 |m::t,b,h,n,j,x,hx=>by
  unfold chkJ at h
  have D:chkJ o false t=none->n∈t->(checkS (sJ x)).2=0/\(kindJ x=3\/(b=true/\kindJ x=2/\(m::t).head? =some n)):=λA C=>by
   obtain ⟨a,c⟩:=Gi A n C x hx
   exact ⟨a,Or.inl (c.resolve_right (by simp))⟩
  rcases ZG.1 j with rfl|j
  ·rw[hx] at h
   simp only at h
   by_cases A:b=true/\kindJ x=2
   ·refine ⟨?_,Or.inr ⟨A.1,A.2,rfl⟩⟩
    cases x<;>simp[kindJ] at A
    show (checkS noS).2=0
    rfl
   ·rw[Zf A] at h
    by_cases C:kindJ x=3
    ·rw[Zf (by simpa using C)] at h
     by_cases F:(checkS (sJ x)).2=0
     ·exact ⟨F,Or.inl C⟩
     ·rw[Zi F] at h;cases h
    ·rw[Zi C] at h;cases h
  ·cases hm:memJ o m with
   |none=>rw[hm] at h;exact D h j
   |some y=>
    rw[hm] at h
    simp only at h
    split at h
    ·exact D h j
    ·split at h
     ·cases h
     ·split at h
      ·cases h
      ·exact D h j
theorem ZbU (n:Int):(checkS (str (Lib.itoa n))).2=0:=by
 unfold checkS;rw[ZcW];refine (Gh _).2 (Qf λc j=> ?_);have A:∀u:Nat,∀c∈Lib.decDigits u,32<=c.toNat/\c.toNat<128:=by
  intro u
  induction u using Nat.strongRecOn with
  |_ u ih=>
   intro c j;rw[Lib.decDigits] at j;split at j
   ·rw[Z8.1 j,YV (by omega)];omega
   ·rename_i h;rcases ZZ.1 j with j|j
    ·exact ih _ (by omega) c j
    ·rw[Z8.1 j,YV (by omega)];omega
 unfold Lib.itoa at j;split at j
 ·rcases ZG.1 j with rfl|j
  ·decide
  ·exact A _ c j
 ·exact A _ c j
theorem Io {o:JO} {n:ByteArray} (h:∀x,memJ o n=some x->(checkS (sJ x)).2=0):(checkS (textJ o n)).2=0:=by
 unfold textJ;cases hm:memJ o n with
 |none=>exact rfl
 |some x=>
  cases x with
  |int a n=>exact ZbU n
  |_=>exact h _ hm
theorem ZfG {l:List UInt8} {t:Int} (h:timeP l=some t):inT t=true:=by
 unfold timeP at h;cases h1:stampP l with
 |none=>rw[h1] at h;cases h
 |some u=>
  cases h2:fracP l 19 with
  |none=>rw[h1,h2] at h;cases h
  |some at_=>
   rw[h1,h2] at h;simp only at h;cases h3:offP l at_ with
   |none=>rw[h3] at h;cases h
   |some o=>
    rw[h3] at h;simp only at h;cases h4:inT (u - o) with
    |false=>rw[h4] at h;cases h
    |true=>rw[h4,Zi rfl] at h;injection h with h;rw[<-h];exact h4
theorem Ko {o:JO}:∀{l:List ByteArray} {t:Int},dateJ o l= .ok t->inT t=true
 | [],t,h=>by injection h with h;subst h;decide
 |n::l,t,h=>by
  unfold dateJ at h
  cases hm:memJ o n with
  |none=>rw[hm] at h;exact Ko h
  |some x=>
   rw[hm] at h
   simp only at h
   cases ht:timeP (collapse (sJ x)).data.toList with
   |none=>rw[ht] at h;cases h
   |some u=>rw[ht] at h;injection h with h;subst h;exact ZfG ht
theorem Zc9 {o:JO} {e:Ent} (h:entryJ o= .ok e):errE e=0:=by
 unfold entryJ at h;by_cases C:kindJ o≠5
 ·rw[Zi C] at h;cases h
 rw[Zf C] at h;cases hc:chkJ o true [nId,nTitle,nUrl,nText,nHtml,nMod,nPub] with
 |some e=>rw[hc] at h;cases h
 |none=>
  rw[hc] at h;simp only at h;by_cases A:collapse (textJ o nId)=noS
  ·rw[Zi A] at h;cases h
  rw[Zf A] at h;cases hd:dateJ o [nMod,nPub] with
  |error e=>rw[hd] at h;cases h
  |ok t=>
   rw[hd] at h;injection h with h;subst h;have j:∀n∈ [nId,nTitle,nUrl,nText,nHtml,nMod,nPub],(checkS (textJ o n)).2=0:=λn F=>Io λx G=>(Gi hc n F x G).1;refine Gn.2 ⟨VW.2 ?_,A,Ko hd⟩;intro s D;simp only[strsE,entJO,ZG,List.not_mem_nil,YK] at D;rcases D with rfl|rfl|rfl|rfl
   ·exact j _ (by simp)
   ·exact j _ (by simp)
   ·exact j _ (by simp)
   ·split
    ·exact j _ (by simp)
    ·exact j _ (by simp)
theorem Ku:∀{l:List JO} {es:List Ent},entsJ l= .ok es->(∀e∈es,errE e=0)/\es.length=l.length
 | [],es,h=>by injection h with h;subst h;exact ⟨by simp,rfl⟩
 |j::t,es,h=>by
  unfold entsJ at h
  cases h1:entryJ j with
  |error e=>rw[h1] at h;cases h
  |ok x=>
   rw[h1] at h
   simp only at h
   cases h2:entsJ t with
   |error e=>rw[h2] at h;cases h
   |ok l=>
    rw[h2] at h
    injection h with h
    subst h
    obtain ⟨a,b⟩:=Ku h2
    exact ⟨λe A=>(ZG.1 A).elim (λh=>h▸Zc9 h1) (a e),by simp[b]⟩
theorem ZfS {o:JO} {f:Fd} (h:decJ o= .ok f):f.path= []/\errF f=0:=by
 unfold decJ at h;by_cases F:versJ o=none
 ·rw[Zi F] at h;cases h
 rw[Zf F] at h;cases hc:chkJ o false [nFeedUrl,nHome,nTitle,nUpdated] with
 |some e=>rw[hc] at h;cases h
 |none=>
  rw[hc] at h;simp only at h;by_cases A:collapse (feedId o)=noS
  ·rw[Zi A] at h;cases h
  rw[Zf A] at h;have j:∀n∈ [nFeedUrl,nHome,nTitle,nUpdated],(checkS (textJ o n)).2=0:=λn H=>Io λx I=>(Gi hc n H x I).1;cases hd:dateJ o [nUpdated] with
  |error e=>rw[hd] at h;cases h
  |ok t=>
   rw[hd] at h;simp only at h;have key:∀es:List Ent,(∀e∈es,errE e=0)->errF ⟨[],feedId o,textJ o nTitle,textJ o nHome,t,es⟩=0:=by
    intro es C;refine Em.2 ⟨ZbQ.2 ⟨VW.2 ?_,A,by simp,by simp,Ko hd⟩,Qn.2 C⟩;intro s G;simp only[strsF,YF,ZG,List.not_mem_nil,YK] at G;rcases G with rfl|rfl|rfl
    ·unfold feedId;split
     ·exact j _ (by simp)
     ·exact j _ (by simp)
    ·exact j _ (by simp)
    ·exact j _ (by simp)
   cases hm:memJ o nItems with
   |none=>rw[hm] at h;injection h with h;subst h;exact ⟨rfl,key [] (by simp)⟩
   |some x=>
    rw[hm] at h;simp only at h;by_cases D:kindJ x≠4
    ·rw[Zi D] at h;cases h
    rw[Zf D] at h;cases he:entsJ (itemsJ x) with
    |error e=>rw[he] at h;cases h
    |ok l=>rw[he] at h;injection h with h;subst h;exact ⟨rfl,key l (Ku he).1⟩
end
section
set_option linter.unusedSimpArgs false
theorem Vt (N:Nat) (j:JO) (cs:List Value) (w:World) (h:RJ w j cs) (H:jsz N j) (F:N<=16777216) (D:Env w) (I:∀f,decJ j= .ok f->fokS f) (A:(itsW j).length<=1000000):
 Calls prog 12 #[.agg cs.toArray] w λe w'=>DecR w' (decJ j) e/\Ext w w':=by
 by_cases C:versJ j=none
 ·have G:decJ j= .error (atJ j,18):=by unfold decJ;rw[Zi C]
  rw[G];exact Zf5 j cs w h C
 ·exact Ze7 N j cs w h H F D C I A
theorem ZgT {A B:Option Addr} {n m c d:Nat} {a b e:ByteArray} {u:Int}:(#[Value.slice A n c,.string a,.string b,.string e,.int .i64 u,.slice B m d]).all (λu=>u.oneCell')=true:=by simp[Value.oneCell']
theorem Zd5:(prog.info? 32).map (λi=>i.size)=some 6:=by kernel_rfl
end
section
set_option linter.unusedSimpArgs false
theorem Vu {N M:Nat} (h:N<=M):∀j:JO,jgood N j->jsz M j
 | .null _,_=>by simp[jsz]
 | .bool _ _,_=>by simp[jsz]
 | .int _ _,hg=>by rw[jgood] at hg;rw[jsz];exact hg.2
 | .str _ s,hg=>by rw[jgood] at hg;rw[jsz];omega
 | .arr _ l,hg=>by rw[jgood] at hg;rw[jsz];exact λj A=>Vu h j (hg.2.2 j A)
 | .obj _ ks vs,hg=>by rw[jgood] at hg;rw[jsz];exact λj A=>Vu h j (hg.2.2.2.2 j A)
def gl (M:Nat) (l:List (ByteArray×ByteArray)):Prop:=(l.map Prod.fst).Nodup/\∀p∈l,(p.1.size<=20/\Lib.validD p.1.data.toList=true)/\p.2.size<=M/\Lib.validD p.2.data.toList=true
theorem UV {B:Nat}:∀{L:List (List UInt8)},(∀t∈L,t.length<=B)->(commas L).length<=L.length*(B+1)
 | [],_=>Zt _
 | [t],h=>by have:=h t (ZcZ ..);simp only[commas,Zr,ZF];omega
 |t::u::r,h=>by
  have A:=h t (ZcZ ..)
  have ih:=UV (L:=u::r) λx j=>h x (EN _ j)
  simp only[commas,Zj,Zr] at ih|-
  rw[Nat.add_mul (r.length+1) 1 (B+1)]
  omega
theorem Iz:∀l:List (ByteArray×ByteArray),List.zipWith keyed (l.map Prod.fst) ((l.map λp=>JV.str p.2).map jtext)=l.map λp=>keyed p.1 (quoteL p.2.data.toList)
 | []=>rfl
 |p::t=>by
  simp only[Ym,List.zipWith_cons_cons]
  rw[Iz t,jtext]
theorem Zb1 (k s:ByteArray):(keyed k (quoteL s.data.toList)).length<=6*k.size+6*s.size+5:=by
 have h:=XD k.data.toList;have j:=XD s.data.toList;rw[show k.data.toList.length=k.size from rfl] at h;rw[show s.data.toList.length=s.size from rfl] at j;unfold keyed;simp only[Zj,Zr];omega
theorem Il {M:Nat} {l:List (ByteArray×ByteArray)} (h:gl M l):∀t∈l.map λp=>keyed p.1 (quoteL p.2.data.toList),t.length<=6*M+125:=by
 intro t A;obtain ⟨p,j,rfl⟩:=Yq.1 A;have C:=Zb1 p.1 p.2;have D:=(h.2 p j).1.1;have F:=(h.2 p j).2.1;omega
theorem Zfp {M:Nat} {l:List (ByteArray×ByteArray)} (h:gl M l):(jtext (objS l)).length<=l.length*(6*M+126)+2:=by
 unfold objS;rw[VJ,Iz];have:=UV (Il h);rw[ZS,show 6*M+125+1=6*M+126 from rfl] at this;simp only[Zr,Zj,ZF];omega
theorem Zge {M:Nat} {l:List (ByteArray×ByteArray)} (h:gl M l) (F:M<=16777216):jok (objS l):=by
 unfold objS;rw[G8];refine ⟨by rw[ZS,ZS],h.1,λk D=> ?_,λj C=> ?_⟩
 ·obtain ⟨p,A,rfl⟩:=Yq.1 D;exact ⟨by have:=(h.2 p A).1.1;omega,(h.2 p A).1.2⟩
 ·obtain ⟨p,A,rfl⟩:=Yq.1 C;rw[jok];have:=(h.2 p A).2.1;omega
theorem Zce {M d:Nat} {l:List (ByteArray×ByteArray)} (h:gl M l) (D:d<=99):jvalid (objS l) d=true:=by
 unfold objS;rw[U1,ZU];refine ⟨Yg (by omega),Yn.2 λj A=> ?_⟩;obtain ⟨p,C,rfl⟩:=Yq.1 A;rw[jvalid,ZU];exact ⟨Yg (by omega),(h.2 p C).2.2⟩
theorem KZ (k s:ByteArray):((optM k s).map Prod.fst).Sublist [k]:=by
 unfold optM;split
 ·exact List.nil_sublist _
 ·exact List.Sublist.refl _
theorem ZaD (e:Ent):((entM e).map Prod.fst).Sublist [nId,nUrl,nTitle,nText,nMod]:=by
 unfold entM;simp only[Ym,Yp,Y6];exact List.Sublist.cons_cons _ (List.Sublist.append (KZ nUrl e.link) (List.Sublist.cons_cons _ (List.Sublist.append (KZ nText e.content) (List.Sublist.refl _))))
theorem Gp (f:Fd):((feedM f).map Prod.fst).Sublist [nVersion,nTitle,nHome,nFeedUrl,nUpdated]:=by
 unfold feedM;simp only[Ym,Yp,Y6];exact List.Sublist.cons_cons _ (List.Sublist.cons_cons _ (List.Sublist.append (KZ nHome f.link) (List.Sublist.refl _)))
theorem KW:∀n∈ [nVersion,nTitle,nHome,nFeedUrl,nUpdated,nId,nUrl,nText,nMod,nItems],n.size<=20/\Lib.validD n.data.toList=true:=by
 decide+kernel
def wrE (M:Nat) (e:Ent):Prop:=∀s∈strsE e,s.size<=M/\Lib.validD s.data.toList=true
def wrF (M:Nat) (f:Fd):Prop:=(∀s∈ [f.id,f.title,f.link],s.size<=M/\Lib.validD s.data.toList=true)/\∀e∈f.ents,wrE M e
theorem ZeJ {M:Nat} (h:38<=M) (t:Int):(str (fmtL t)).size<=M/\Lib.validD (str (fmtL t)).data.toList=true:=by
 refine ⟨?_,V7 (Zdi t)⟩;rw[Xg];have:(fmtL t).length=20:=ZeI t;omega
theorem KY {k s:ByteArray} {p:ByteArray×ByteArray} (h:p∈optM k s):p=(k,s):=by
 unfold optM at h;split at h
 ·cases h
 ·exact Z8.1 h
theorem EW {M:Nat} (F:38<=M) {e:Ent} (h:wrE M e):gl M (entM e):=by
 have A:=ZaD e;refine ⟨List.Nodup.sublist A (by decide+kernel),λp j=>⟨?_,?_⟩⟩
 ·have D:=A.subset (List.mem_map_of_mem (f:=Prod.fst) j);refine KW p.1 ?_;simp only[ZG,List.not_mem_nil,YK] at D|-;rcases D with h|h|h|h|h<;>simp[h]
 ·have C:=h;unfold wrE strsE at C;unfold entM at j;simp only[ZG,ZZ,List.not_mem_nil,YK] at j;rcases j with rfl|j|rfl|j|rfl
  ·exact C _ (by simp)
  ·rw[KY j];exact C _ (by simp)
  ·exact C _ (by simp)
  ·rw[KY j];exact C _ (by simp)
  ·exact ZeJ F _
theorem Ky {M:Nat} (D:38<=M) {f:Fd} (h:wrF M f):gl M (feedM f):=by
 have j:=Gp f;refine ⟨List.Nodup.sublist j (by decide+kernel),λp A=>⟨?_,?_⟩⟩
 ·have F:=j.subset (List.mem_map_of_mem (f:=Prod.fst) A);refine KW p.1 ?_;simp only[ZG,List.not_mem_nil,YK] at F|-;rcases F with h|h|h|h|h<;>simp[h]
 ·have C:=h.1;unfold feedM at A;simp only[ZG,ZZ,List.not_mem_nil,YK] at A;rcases A with rfl|rfl|A|rfl|rfl
  ·refine ⟨Zl ?_ D,?_⟩
   ·rw[Xg];decide
   ·rw[Yz];decide+kernel
  ·exact C _ (by simp)
  ·rw[KY A];exact C _ (by simp)
  ·exact C _ (by simp)
  ·exact ZeJ D _
theorem Ei {f:Fd}:((feedM f).map Prod.fst++ [nItems]).Nodup/\∀k∈(feedM f).map Prod.fst++ [nItems],k.size<=20/\Lib.validD k.data.toList=true:=by
 have j:((feedM f).map Prod.fst++ [nItems]).Sublist [nVersion,nTitle,nHome,nFeedUrl,nUpdated,nItems]:=List.Sublist.append (Gp f) (List.Sublist.refl [nItems]);refine ⟨List.Nodup.sublist j (by decide+kernel),λk C=>KW k ?_⟩;have A:=j.subset C;simp only[ZG,List.not_mem_nil,YK] at A|-;rcases A with h|h|h|h|h|h<;>simp[h]
theorem Ej {f:Fd} {j:JV} (h:j∈(feedM f).map (λp:ByteArray×ByteArray=>JV.str p.2)++ [.arr (f.ents.map λe=>objS (entM e))]):(∃p∈feedM f,j= .str p.2)\/j= .arr (f.ents.map λe=>objS (entM e)):=by
 rcases ZZ.1 h with h|h
 ·obtain ⟨p,A,rfl⟩:=Yq.1 h;exact Or.inl ⟨p,A,rfl⟩
 ·exact Or.inr (Z8.1 h)
theorem ZfU {M:Nat} (D:38<=M) (A:M<=16777216) {f:Fd} (h:wrF M f):jok (encJ f):=by
 unfold encJ;rw[G8];have G:=Ky D h;refine ⟨by simp,Ei.1,λk H=> ?_,λj C=> ?_⟩
 ·obtain ⟨a,b⟩:=Ei.2 k H;exact ⟨by omega,b⟩
 ·rcases Ej C with ⟨p,I,rfl⟩|rfl
  ·rw[jok];have:=(G.2 p I).2.1;omega
  ·rw[G7];intro j C;obtain ⟨e,F,rfl⟩:=Yq.1 C;exact Zge (EW D (h.2 e F)) A
theorem ZbH {M:Nat} (C:38<=M) {f:Fd} (h:wrF M f):jvalid (encJ f) 1=true:=by
 unfold encJ;rw[U1,ZU];have F:=Ky C h;refine ⟨by decide,Yn.2 λj A=> ?_⟩;rcases Ej A with ⟨p,G,rfl⟩|rfl
 ·rw[jvalid,ZU];exact ⟨by decide,(F.2 p G).2.2⟩
 ·rw[Uw,ZU];refine ⟨by decide,Yn.2 λj A=> ?_⟩;obtain ⟨e,D,rfl⟩:=Yq.1 A;exact Zce (EW C (h.2 e D)) (by decide)
theorem Zc8 (e:Ent):(entM e).length<=5:=by
 have:=(ZaD e).length_le;rw[ZS] at this;exact this
theorem Zdg (f:Fd):(feedM f).length<=5:=by
 have:=(Gp f).length_le;rw[ZS] at this;exact this
theorem Zew {M:Nat} (G:38<=M) {f:Fd} (h:wrF M f):(jtext (encJ f)).length<=(f.ents.length+2)*(30*M+640)+200:=by
 have H:=Ky G h;have J:=Zdg f;have Q:List.zipWith keyed ((feedM f).map Prod.fst++ [nItems]) (((feedM f).map (λp:ByteArray×ByteArray=>JV.str p.2)++ [JV.arr (f.ents.map λe=>objS (entM e))]).map jtext)=
  ((feedM f).map λp:ByteArray×ByteArray=>keyed p.1 (quoteL p.2.data.toList))++ [keyed nItems (jtext (.arr (f.ents.map λe=>objS (entM e))))]:=by
  rw[Yp,List.zipWith_append (by simp),Iz]
  rfl
 have D:(jtext (.arr (f.ents.map λe=>objS (entM e)))).length<=f.ents.length*(30*M+633)+2:=by
  rw[UR];have F:∀t∈(f.ents.map λe=>objS (entM e)).map jtext,t.length<=30*M+632:=by intro t j;rw[Vo] at j;obtain ⟨e,O,rfl⟩:=Yq.1 j;have A:=Zfp (EW G (h.2 e O));have C:=Zc8 e;have I:(entM e).length*(6*M+126)<=5*(6*M+126):=Nat.mul_le_mul_right _ C;simp only[Function.comp];omega
  have:=UV F;rw[ZS,ZS,show 30*M+632+1=30*M+633 from rfl] at this;simp only[Zr,Zj,ZF];omega
 unfold encJ;rw[VJ,Q];have F:∀t∈((feedM f).map λp:ByteArray×ByteArray=>keyed p.1 (quoteL p.2.data.toList))++ [keyed nItems (jtext (.arr (f.ents.map λe=>objS (entM e))))],t.length<=6*M+125+(f.ents.length*(30*M+633)+2+35):=by
  intro t j;rcases ZZ.1 j with j|j
  ·have:=Il H t j;omega
  ·rw[Z8.1 j];unfold keyed;have A:=XD nItems.data.toList;have C:nItems.data.toList.length=5:=rfl;simp only[Zj,Zr];omega
 have K:(commas (((feedM f).map λp:ByteArray×ByteArray=>keyed p.1 (quoteL p.2.data.toList))++ [keyed nItems (jtext (.arr (f.ents.map λe=>objS (entM e))))])).length<=5*(6*M+126)+(f.ents.length*(30*M+633)+2+35):=by
  rw[UG];have A:=UV (Il H);rw[ZS] at A;have C:(feedM f).length*(6*M+125+1)<=5*(6*M+125+1):=Nat.mul_le_mul_right _ J;have I:=F _ (List.mem_append_right _ (List.mem_singleton_self _));have R:(keyed nItems (jtext (.arr (f.ents.map λe=>objS (entM e))))).length<=f.ents.length*(30*M+633)+2+33:=by unfold keyed;have A:=XD nItems.data.toList;have C:nItems.data.toList.length=5:=rfl;simp only[Zj,Zr];omega
  split
  ·omega
  ·simp only[Zj,Zr];omega
 have S:(f.ents.length+2)*(30*M+640)=f.ents.length*(30*M+633)+f.ents.length*7+2*(30*M+640):=by rw[Nat.add_mul,show 30*M+640=(30*M+633)+7 by omega,Nat.mul_add]
 simp only[Zr,Zj,ZF];omega
theorem ZgS {M:Nat} {f:Fd} (G:okF f=true) (H:∀s∈ [f.id,f.title,f.link],s.size<=M) (F:∀e∈f.ents,∀s∈strsE e,s.size<=M):wrF M f:=by
 obtain ⟨C,D⟩:=Ul.1 G;have I:=(Um.1 C).2.1;refine ⟨λs h=>⟨H s h,ZfJ (I s (List.mem_append_right _ h))⟩,λe A s h=>⟨F e A s h,?_⟩⟩;have j:=(ZcR.1 D).1 e A;exact ZfJ ((ZcQ.1 j).1 s h)
end
section
set_option linter.unusedSimpArgs false
theorem E8 {N:Nat} {j x:JO} {n:ByteArray} (h:jgood N j) (A:memJ j n=some x):jgood N x:=by
 unfold memJ at A;cases hg:getJ j n with
 |none=>rw[hg] at A;cases A
 |some y=>
  rw[hg] at A;simp only at A;split at A
  ·cases A
  ·injection A with A;subst A;cases j with
   |obj a ks vs=>rw[jgood] at h;exact h.2.2.2.2 y (Gv ks vs n y hg)
   |_=>simp[getJ] at hg
theorem In {N M:Nat} (D:N<=M) (C:21<=M) {j:JO} (h:jgood N j) (n:ByteArray):(textJ j n).size<=M:=by
 unfold textJ;cases hm:memJ j n with
 |none=>exact Zt _
 |some x=>
  have A:=E8 h hm;cases x with
  |int a v=>rw[jgood] at A;show (str (Lib.itoa v)).size<=M;rw[Xg];have:=Lib.itoa_length_le v A.2.1 A.2.2;omega
  |str a s=>rw[jgood] at A;show s.size<=M;omega
  |_=>exact Zt _
def szE (M:Nat) (e:Ent):Prop:=∀s∈strsE e,s.size<=M
def szF (M K:Nat) (f:Fd):Prop:=(∀s∈ [f.id,f.title,f.link],s.size<=M)/\(∀e∈f.ents,szE M e)/\f.ents.length<=K
theorem ZaE {N M:Nat} (G:N<=M) (F:21<=M) {j:JO} (h:jgood N j) {e:Ent} (A:entryJ j= .ok e):szE M e:=by
 unfold entryJ at A;split at A
 ·cases A
 ·split at A
  ·cases A
  ·split at A
   ·cases A
   ·split at A
    ·cases A
    ·injection A with A;subst A;have C:=In G F h;intro s D;simp only[strsE,entJO,ZG,List.not_mem_nil,YK] at D;rcases D with rfl|rfl|rfl|rfl
     ·exact C _
     ·exact C _
     ·exact C _
     ·split<;>exact C _
theorem Kv {N M:Nat} (D:N<=M) (C:21<=M):∀{l:List JO} {es:List Ent},(∀j∈l,jgood N j)->entsJ l= .ok es->∀e∈es,szE M e
 | [],es,_,h=>by injection h with h;subst h;simp
 |j::t,es,hg,h=>by
  unfold entsJ at h
  split at h
  ·cases h
  ·rename_i x G
   split at h
   ·cases h
   ·rename_i l F
    injection h with h
    subst h
    intro e A
    rcases ZG.1 A with rfl|A
    ·exact ZaE D C (hg j (ZcZ ..)) G
    ·exact Kv D C (λy H=>hg y (EN _ H)) F e A
theorem Zc3 {N M:Nat} (J:N<=M) (I:21<=M) {j:JO} (h:jgood N j) {f:Fd} (A:decJ j= .ok f):szF M N f:=by
 have G:=In J I h;have F:(feedId j).size<=M:=by unfold feedId;split<;>exact G _
 have H:∀s∈ [feedId j,textJ j nTitle,textJ j nHome],s.size<=M:=by
  intro s O;simp only[ZG,List.not_mem_nil,YK] at O;rcases O with rfl|rfl|rfl
  ·exact F
  ·exact G _
  ·exact G _
 unfold decJ at A;split at A
 ·cases A
 ·split at A
  ·cases A
  ·split at A
   ·cases A
   ·split at A
    ·cases A
    ·split at A
     ·injection A with A;subst A;exact ⟨H,by simp,Zt _⟩
     ·rename_i x Q;have D:=E8 h Q;split at A
      ·cases A
      ·split at A
       ·cases A
       ·rename_i l K;injection A with A;subst A;have C:(∀y∈itemsJ x,jgood N y)/\(itemsJ x).length<=N:=by
         cases x with
         |arr a l=>rw[jgood] at D;exact ⟨D.2.2,D.2.1⟩
         |_=>exact ⟨by simp[itemsJ],Zt _⟩
        exact ⟨H,Kv J I C.1 K,by have:=(Ku K).2;show l.length<=N;omega⟩
end
section
set_option linter.unusedSimpArgs false
structure QM where
 k:ByteArray
 n:ByteArray
 o:Bool
 v:ByteArray
def outQ (q:QM):List (ByteArray×ByteArray):=if (!q.o|| !decide (q.v=noS))=true then [(q.n,q.v)] else []
def outM (l:List QM):List (ByteArray×ByteArray):=l.flatMap outQ
def rowM (l:List QM):List ByteArray:=l.flatMap λq=> [q.k,q.v]
def cellM (p:ByteArray×ByteArray):List Value:=mcell (p.1,strCells p.2,0)
theorem ZcU:∀(l:List QM) (k:Nat) (h:k<l.length),(rowM l)[2*k]? =some l[k].k/\(rowM l)[2*k+1]? =some l[k].v
 |q::t,0,_=>⟨rfl,rfl⟩
 |q::t,k+1,h=>by
  have ih:=ZcU t k (by simpa using h)
  unfold rowM at ih|-
  rw[XU]
  simp only[X6,YF]
  rw[show 2*(k+1)=2*k+1+1 by omega]
  simp only[List.getElem?_cons_succ,List.getElem_cons_succ]
  exact ih
theorem ZdG {l:List QM} {k:Nat} (h:k<l.length):outM (l.take (k+1))=outM (l.take k)++outQ l[k]:=by
 unfold outM;rw[Zy h,List.flatMap_append];simp
theorem Q5:∀l:List QM,(outM l).length<=l.length
 | []=>Zd _
 |q::t=>by
  have ih:=Q5 t
  unfold outM at ih|-
  rw[XU,Zj,Zr]
  have:(outQ q).length<=1:=by unfold outQ;split<;>simp
  omega
theorem Gg (p:ByteArray×ByteArray):∀u∈cellM p,u.oneCell'=true:=by
 intro u h;rcases ZG.1 h with rfl|h
 ·rfl
 ·rcases ZZ.1 h with h|h
  ·exact Vc u h
  ·rcases Z8.1 h with rfl;rfl
theorem GL:∃i0,prog.info? 56=some i0/\i0.zero=some (.agg #[.string ⟨#[]⟩,.int .i64 0,.bool false,.int .i64 0,.string ⟨#[]⟩,.slice none 0 0,.slice none 0 0,.int .i64 0,.int .i64 0])/\i0.size=9/\i0.bytes=120:=Yr KH
theorem E7 (j h:ByteArray) (w:World):Calls prog 52 #[.string j,.agg (strCells h).toArray] w λe w'=>e= .returned (.agg #[.string j,.int .i64 3,.bool false,.int .i64 0,.string h,.slice none 0 0,.slice none 0 0,.int .i64 0,.int .i64 0])/\Ext w w':=GN j 1 (.str h) (strCells h) w (Jm w h)
theorem Zeq (s:ByteArray) (w:World) (h:s.size<=1000000):Calls prog 98 #[.string s,.string ⟨#[63]⟩] w λe w'=>e= .returned (.tuple #[.string (str (Lib.trimSuffix s.data.toList [63])),.bool (Lib.hasSuffix s.data.toList [63])])/\w'=w:=strings_CutSuffix s ⟨#[63]⟩ w (by omega)
theorem GQ (l:List QM) (sb:Nat) (w:World) (hs:w.heap[sb]? =some (.cells ((rowM l).map Value.string).toArray 9 (0,0)))
 (hc:∀q∈l,Lib.hasSuffix q.k.data.toList [63]=q.o/\str (Lib.trimSuffix q.k.data.toList [63])=q.n/\q.k.size<=1000) (hn:l.length<=1000):
 Calls prog 51 #[.slice (some ⟨sb,0,none⟩) (2*l.length) (2*l.length)] w λe w'=>∃v',e= .returned v'/\w'.ownsRow w.heap.size 56 9 v' (outM l).length ((outM l).map cellM).flatten/\Ext w w':=by
 obtain ⟨i0,hy,hE,hF,hG⟩:=GL;obtain ⟨n,hg⟩:∃n,2*l.length=n:=⟨_,rfl⟩;rw[hg];have HN:=gd hg;have HC:=gd hc;clear hc hg;go_enter func51,ntmps51;go_wp2;go_loopw [3,4] (λv i wr=>∃(k t:Nat),k<=l.length/\i= .int .i64 (t:Nat)/\Hid (t=2*k)/\wr.ownsRow w.heap.size 56 9 v (outM (l.take k)).length ((outM (l.take k)).map cellM).flatten/\Ext w wr) (λ_ i _=>n - (intOf i).toNat)
 case atStart=>exact ⟨0,0,Zt _,rfl,rfl,Yc _ _ _ _,Ext.refl _⟩
 case round=>
  obtain ⟨k,t,hk,rfl,ht,A,hx⟩:=hrel;have O:=ht.out;have X:=HN.out;by_cases G:k<l.length
  ·obtain ⟨e1,e2⟩:=ZcU l k G;have hj:=hx.heap hs;have hS:∀i s,(rowM l)[i]? =some s->wr.cell? ⟨sb,i,none⟩=some (.string s):=λi s h=>(by obtain ⟨hi,rfl⟩:=ZE.1 h;exact Jv hj hi);have q0:=hS _ _ e1;have q1:=hS _ _ e2;rw[<-O] at q0 q1;obtain ⟨c1,c2,c3⟩:=HC.out l[k] (ZO G);have D:=ZdG G;obtain ⟨Q,hQ⟩:∃Q,l[k]=Q:=⟨_,rfl⟩;rw[hQ] at q0 q1 c1 c2 c3 D;obtain ⟨qk,U,qo,H⟩:=Q;dsimp only at q0 q1 c1 c2 c3;have hh:=Q5 (l.take k);rw[YR] at hh;have F:=Zeq qk wr (by omega);rw[c1,c2] at F;have ha:=gd F;have g0:(0:Int)<=(t:Int):=(by omega);have g1:(t:Int)<(n:Int):=(by omega);have g2:(t:Int)+1<(n:Int):=(by omega);have g3:(0:Int)<=(t:Int)+1:=(by omega);have hH:(⟨sb,0,none⟩:Addr).add t=⟨sb,t,none⟩:=(by unfold Addr.add;split<;>simp_all);have hv:(⟨sb,0,none⟩:Addr).add (t+1)=⟨sb,t+1,none⟩:=(by unfold Addr.add;split<;>simp_all);have hB:t<=2000:=(by omega);have HT:=gd O;have hJ:=gd X;have he:Hid (Value.int .i64 ((t:Int)+2)= .int .i64 ((t+2:Nat):Int)):=gd (by rw[Int.natCast_add];rfl);have hd:Hid (n - (intOf (Value.int .i64 ((t:Int)+2))).toNat<n - (intOf (Value.int .i64 (t:Int))).toNat):=gd (by simp only[intOf];omega);have I:Hid (t+2=2*(k+1)):=gd (by omega);by_cases C:(!qo|| !decide (H=noS))=true
   ·have J:outQ ⟨qk,U,qo,H⟩= [(U,H)]:=Zi C;rw[J] at D;have j:∀(v:Value) (w':World),w'.ownsRow w.heap.size 56 9 v ((outM (l.take k)).length+1) (((outM (l.take k)).map cellM).flatten++cellM (U,H))->w'.ownsRow w.heap.size 56 9 v (outM (l.take (k+1))).length ((outM (l.take (k+1))).map cellM).flatten:=λv w' h=>(by rw[D,Zj,Yp,J8];simpa using h);have V:=gd j;have hf:qo=false\/qo=true/\H.toList.isEmpty=false:=by
     cases qo with
     |false=>exact Or.inl rfl
     |true=>exact Or.inr ⟨rfl,XS (by simpa using C)⟩
    have hb:=gd A;have HX:=gd hx;have ho:(outM (l.take k)).length+1<=maxLen:=(by unfold maxLen;omega);have hl:((outM (l.take k)).length+1)*120<=140737488355328:=(by omega);have hu:=gd ho;have hr:=gd hl;clear D J C e1 e2 hS hQ c1 c2 c3 F j hj O X A hx hh ho hl;rcases hf with rfl|⟨rfl,hK⟩
    all_goals go_wp2_with (first|(at_builtin;refine Zq _ rfl (.tmp 32) (.tmp 41) _ rfl w.heap.size 56 i0 _ 9 120 underlying23 hy hE hF hG rfl (by decide) _ (outM (l.take k)).length ((outM (l.take k)).map cellM).flatten rfl Y _ 1 (cellM (U,H)) rfl hp (Gg _) hu.out hr.out (HX.out.trans Z).size ?_;intro v9 w9 K hw hI)|(go_at_call 52;(refine Za (E7 U H w7) ?_);rintro e w8 ⟨rfl,hD⟩;(have Z:=(hC.trans hD).alloc (.cells #[.string U,.int .i64 3,.bool false,.int .i64 0,.string H,.slice none 0 0,.slice none 0 0,.int .i64 0,.int .i64 0] 56));(have hp:RSl (w8.alloc (.cells #[.string U,.int .i64 3,.bool false,.int .i64 0,.string H,.slice none 0 0,.slice none 0 0,.int .i64 0,.int .i64 0] 56)) 9 (.slice (some ⟨w8.heap.size,0,none⟩) 1 1) 1 (cellM (U,H)):=ZY (w:=w8) (n:=1) (cs:= [.string U,.int .i64 3,.bool false,.int .i64 0,.string H,.slice none 0 0,.slice none 0 0,.int .i64 0,.int .i64 0]) rfl (by decide));(have Y:=Yw hb.out Z))|(go_at_call 99;(refine Za (GO H wr) ?_);rintro e w7 ⟨rfl,hC⟩)|(go_at_call 98;(have hz:=ha.out);(with_reducible refine Za hz ?_);clear hz;rintro e w6 ⟨rfl,R⟩;(have S:=R.symm);clear R;subst S))
    all_goals go_roundw
    all_goals have hq:Ext w w9:=(HX.out.trans Z).app hw (Yw hb.out Z) (Zd _)
    case rel=>exact ⟨k+1,t+2,G,he.out,I.out,V.out _ _ K,hq⟩
    case measure=>exact hd.out
    case rel=>exact ⟨k+1,t+2,G,he.out,I.out,V.out _ _ K,hq⟩
    case measure=>exact hd.out
   ·have hm:qo=true/\H=noS:=(by rw[Bool.not_eq_true,Bool.or_eq_false_iff] at C;exact ⟨by simpa using C.1,by simpa using C.2⟩);obtain ⟨rfl,rfl⟩:=hm;have J:outQ ⟨qk,U,true,noS⟩= []:=rfl;rw[J,Zhj] at D;have j:=A;rw[<-D] at j;have V:=gd j;have HX:=gd hx;clear D J C e1 e2 hS hQ c1 c2 c3 F j hj O X A hx hh;have hL:wr.cell? ⟨sb,t+1,none⟩=some (.string ⟨#[]⟩):=q1;clear q1
    go_wp2_with (go_at_call 98;(have hz:=ha.out);(with_reducible refine Za hz ?_);clear hz;rintro e w6 ⟨rfl,R⟩;(have S:=R.symm);clear R;subst S)
    go_roundw
    case rel=>exact ⟨k+1,t+2,G,he.out,I.out,V.out,HX.out⟩
    case measure=>exact hd.out
  ·have hA:k=l.length:=(by omega);have g2:¬(t:Int)+1<(n:Int):=(by omega);have hB:t<=2000:=(by omega);subst hA;rw[List.take_length] at A;clear O X;go_wp2;go_ret;exact ⟨_,rfl,A,hx⟩
end
theorem UJ (t:Int) (w:World):
 Calls prog 91 #[.int .i64 t] w λe w'=>e= .returned (.bool (inT t))/\w=w':=by
 unfold inT;go_enter func91,ntmps91;go_wp2
 all_goals go_ret
 all_goals exact ⟨by simp_all<;>omega,rfl⟩
theorem XA (b:Bool) (w:World):
 Calls prog 90 #[.bool b] w λe w'=>e= .returned (.int .i64 (if b=true then 0 else 22))/\w=w':=by
 cases b with
 |true=>go_enter func90,ntmps90;go_wp2;go_ret;exact ⟨rfl,rfl⟩
 |false=>go_enter func90,ntmps90;go_wp2;go_ret;exact ⟨rfl,rfl⟩
theorem Zcb (e:Ent) (w:World):Calls prog 89 #[.agg (eCells e).toArray] w λx w'=>x= .returned (.string e.id)/\Ext w w':=by
 unfold eCells;go_enter func89,ntmps89;go_wp2;go_ret;exact ⟨rfl,(Ext.refl _).alloc _⟩
theorem JE (v:Value) (l:List ByteArray) (w:World) (hE:Env w) (h:RStrs w v l) (G:∀s∈l,s.size<=16777216) (hn:l.length<=16777216):
 Calls prog 88 #[v] w λe w'=>e= .returned (.bool (l.all validS))/\Ext w w':=by
 obtain ⟨A,c,rfl, -, -⟩:=h.form;obtain ⟨R,V⟩:∃R,l.all validS=R:=⟨_,rfl⟩;rw[V];have HR:=gd V;have HS:=gd G;have HH:=gd h;have Q:=gd hE;clear V G h hE;go_enter func88,ntmps88;go_wp2;go_loopw [7] (λi wr=>∃k:Nat,k<=l.length/\i= .int .i64 k/\Hid (∀s∈l.take k,validS s=true)/\Ext w wr) (λi _=>l.length - (intOf i).toNat)
 case atStart=>exact ⟨0,Zt _,rfl,gd (by simp),Ext.refl _⟩
 case round=>
  obtain ⟨k,hk,rfl,H,D⟩:=hrel;by_cases F:k<l.length
  ·obtain ⟨ad,c1,e1,hc⟩:=(RStrs.ext HH.out D).at F;injection e1 with e1 e1' e1'';subst e1;clear e1' e1'';have C:l[k]∈l:=ZO F;have I:=Zy F;have K:=gd (IQ l[k] wr (Q.out.ext D) (by have:=HS.out _ C;omega));have j:validS l[k]=false->R=false:=λh=>(by rw[<-HR.out,Jq];intro h2;have:=Yn.1 h2 _ C;rw[h] at this;cases this);obtain ⟨p,O⟩:∃p,l[k]=p:=⟨_,rfl⟩;rw[O] at hc I K j;have U:=gd I;have hb:(0:Int)<=(k:Int):=(by omega);have hd:(k:Int)<(l.length:Int):=(by omega);clear O C I;cases hv:validS p with
   |false=>
    have X:=j hv;subst X;rw[hv] at K;clear j hv
    go_wp2_with (first|(go_at_call 135;(with_reducible refine Za (K.out) ?_);rintro e w6 ⟨rfl,J⟩))
    go_ret;exact ⟨rfl,D.trans J⟩
   |true=>
    have S:=gd hv;rw[hv] at K;clear j hv
    go_wp2_with (first|(go_at_call 135;(with_reducible refine Za (K.out) ?_);rintro e w6 ⟨rfl,J⟩))
    go_roundw
    case rel=>exact ⟨k+1,F,by go_num,gd (λs G=>by
     rw[U.out] at G;rcases ZZ.1 G with G|G
     ·exact H.out s G
     ·rw[Z8.1 G];exact S.out),D.trans J⟩
    case measure=>simp[intOf];omega
  ·have ha:k=l.length:=(by omega);subst ha;have Z:=H.out;rw[ZC (Zd _)] at Z;have Y:R=true:=(by rw[<-HR.out];exact Yn.2 Z);subst Y;clear Z;go_wp2;go_ret;exact ⟨rfl,D⟩
theorem Ew {s:ByteArray} (h:s=noS):s.toList.isEmpty=true:=by rw[h,Yx];rfl
theorem Im (w:World) (l:List ByteArray) (h:l.length<=maxLen):RStrs (w.alloc (.cells (l.map Value.string).toArray 9)) (.slice (some ⟨w.heap.size,0,none⟩) l.length l.length) l:=
 ZY (by rw[ZS,Nat.mul_one]) h
theorem Za2 (e:Ent) (w:World) (Q:Env w) (R:eokS e):
 Calls prog 93 #[.agg (eCells e).toArray] w λx w'=>x= .returned (.int .i64 (if okE e=true then 0 else 22))/\Ext w w':=by
 have F:okE e=((strsE e).all validS && !decide (e.id=noS) && inT e.upd):=rfl;have A:=gd (λw'=>XA false w');have G:=gd (λw'=>UJ e.upd w');have D:=gd (λ(w':World) (h:Ext w w')=>JE _ (strsE e) (w'.alloc (.cells ((strsE e).map Value.string).toArray 9)) ((Q.ext h).alloc _) (Im w' (strsE e) (by show 4<=maxLen;decide)) (λs h=>by
  obtain ⟨Y,Z,h3,h4⟩:=R;unfold strsE at h;simp only[ZG,YD,YK] at h;rcases h with rfl|rfl|rfl|rfl<;>omega) (by show 4<=16777216;decide))
 by_cases C:e.id=noS
 ·have j:okE e=false:=by rw[F,C];simp
  rw[Zf (by rw[j];simp)];have H:=Ew C;clear F C j G D;unfold eCells;go_enter func93,ntmps93
  go_wp2_with (first|(go_at_call 90;(with_reducible refine Za (A.out _) ?_);rintro e U ⟨rfl,rfl⟩))
  go_ret;exact ⟨rfl,(Ext.refl _).alloc _⟩
 ·have H:=XS C;cases hti:inT e.upd with
  |false=>
   have j:okE e=false:=(by rw[F,hti,Bool.and_false]);rw[Zf (by rw[j];simp)];rw[hti] at G;clear F C j D hti;unfold eCells;go_enter func93,ntmps93
   go_wp2_with (first|(go_at_call 91;(with_reducible refine Za (G.out _) ?_);rintro e S ⟨rfl,rfl⟩)|(go_at_call 90;(with_reducible refine Za (A.out _) ?_);rintro e U ⟨rfl,rfl⟩))
   go_ret;exact ⟨rfl,(Ext.refl _).alloc _⟩
  |true=>
   have j:okE e=(strsE e).all validS:=(by rw[F,hti,Ya C];simp);rw[j];rw[hti] at G;have K:=gd (λw'=>XA ((strsE e).all validS) w');obtain ⟨b,O⟩:∃b,(strsE e).all validS=b:=⟨_,rfl⟩;simp only[O] at D K|-;unfold strsE at D;simp only[Ym,Y6,Zr,ZF] at D;clear F C j A hti O;unfold eCells;go_enter func93,ntmps93
   go_wp2_with (first|(go_at_call 91;(with_reducible refine Za (G.out _) ?_);rintro e S ⟨rfl,rfl⟩)|(go_at_call 88;(have J:=D.out _ ((Ext.refl w).alloc (.cells #[.string e.id,.string e.title,.string e.link,.string e.content,.int .i64 e.upd] 64)));(simp only[Zp] at J);(with_reducible refine Za J ?_);clear J;rintro V w7 ⟨rfl,I⟩)|(go_at_call 90;(with_reducible refine Za (K.out _) ?_);rintro X w8 ⟨rfl,rfl⟩))
   all_goals go_ret
   all_goals exact ⟨rfl,(((Ext.refl _).alloc _).alloc _).trans I⟩
end Go.Proofs.YthlnaldahkgjnaaGreatDoor
