/- Parts of the proof: contracts and plain laws. -/
import Derived.Test.YtnlafkgkcnenfaaGreatDoorU08
namespace Go.Proofs.YtnlafkgkcnenfaaGreatDoor
open Go Go.RowKit _root_.Go.Proofs.Tryz
set_option linter.unusedVariables false
set_option linter.unusedSimpArgs false
set_option maxRecDepth 100000
set_option maxHeartbeats 16000000
section
attribute [local go_sem] calm1
theorem ZhG (x:Nc) (fu:Value) (sc:Scope) (w:Wq) (h:RAts w x.al x.attrs) (fg:isSl x.ks) (fm:RSc w fu sc) (N:Nat) (hN:N<=80000000000) (fE:x.name.length<=N) (fD:x.attrs.length<=N) (gs:∀a∈x.attrs,a.name.length<=N) (fJ:sc.length<=4100000000000):
 Calls prog 102 #[.agg (cellsN x).toArray,fu] w λe w'=>∃v,e= .returned v/\HeadRet w.heap.size w' v x.at_ (headP x.nd sc)/\Ext w w':=by
 obtain ⟨i0,fd,fq,fr,ft⟩:=YH Zfl;obtain ⟨i1,gM,gQ,gR,gS⟩:=YH ZkX;obtain ⟨k,s,nm,al,l,ks,kids,t,at_⟩:=x;simp only[Nc.al,Nc.attrs,Nc.ks,Nc.name] at h fg fE fD gs;obtain ⟨A,c,rfl, -, -⟩:=h.form;obtain ⟨B,m,d,rfl⟩:=fg;obtain ⟨SA,fK,rfl, -, -⟩:=fm.form;simp only[cellsN,Nc.at_];rw[Nc.nd];obtain ⟨R,hz⟩:∃R,headP (.mk k s nm l (Nc.nds kids) t at_) sc=R:=⟨_,rfl⟩;rw[hz];unfold headP at hz;simp only[Nd.name,Nd.attrs,Nd.at_] at hz;have gz:=(((Ext.refl w).alloc (.cells #[nI (k:Nat),.string (str s),.string (str nm),.slice A l.length c,.slice B m d,.string (str t),nI (at_:Nat)] 25)).alloc (.cells #[nI 0,eS,eS,sN,sN,eS,nI 0] 25)).alloc (.cells #[nI 0,eS,eS,sN,sN,eS,nI (at_:Nat)] 25);obtain ⟨W0,h3⟩:∃W0,((w.alloc (.cells #[nI (k:Nat),.string (str s),.string (str nm),.slice A l.length c,.slice B m d,.string (str t),nI (at_:Nat)] 25)).alloc (.cells #[nI 0,eS,eS,sN,sN,eS,nI 0] 25)).alloc (.cells #[nI 0,eS,eS,sN,sN,eS,nI (at_:Nat)] 25)=W0:=⟨_,rfl⟩;have gq:BxN W0 w.heap.size k s nm (.slice A l.length c) (.slice B m d) t at_:=by rw[<-h3];exact (((Ext.refl _).alloc _).alloc _).heap (Zg w _)
 have gh:BxN W0 (w.heap.size+1) 0 [] [] sN sN [] 0:=by rw[<-h3];exact ((Ext.refl _).alloc _).heap (YS w _ _)
 have gy:BxN W0 (w.heap.size+1+1) 0 [] [] sN sN [] at_:=by rw[<-h3];exact XR w _ _ _
 have g8:w.heap.size+3<=W0.heap.size:=by rw[<-h3,Zu,Zu,Zu];omega
 have q2:W0.cell? ⟨w.heap.size,2,none⟩=some (.string (str nm)):=gq.cells.2.2.1;rw[h3] at gz;have hX:=λw'=>U8 (str nm) w' (by rw[YN];omega);rw[Z3] at hX;cases hsp:splitL nm;rw[hsp] at hz hX;dsimp only at hz;subst hz;have HS:=gd hX;clear hsp hX
 rotate_left
 rename_i pq;obtain ⟨p,ln⟩:=pq;have fp:=Ie hsp;rw[hsp] at hz hX;dsimp only at hz;have HS:=gd hX;clear hsp hX;by_cases gk:p=xmlnsL;rw[Zi gk] at hz;subst hz;have fk:((str p).toList== [120,109,108,110,115])=true:=QS gk;clear gk fp
 rotate_left
 ·rw[Ze gk] at hz;have fk:((str p).toList== [120,109,108,110,115])=false:=JU gk;clear gk;have gZ:=gd gz;have gF:=gd g8;have fx:=gd (λw' (hx:Ext w w')=>RSc.ext fm hx);go_enter func102,ntmps102
  go_wp2_with (first|(go_at_call 147;refine Za (HS.out _) ?_;rintro e w2 ⟨rfl,hC⟩;simp only[splitAns];have hP:=gq.ext hC;have Y:=gh.ext hC;have X:=gy.ext hC;obtain ⟨b0,b1,b2,b3,b4,b5,b6⟩:=hP.cells)|(at_builtin;(have gm:=gd (Jx (w:=w2) (base:=w2.heap.size) (e:=203) (size:=2) (n:=0) (cs:= []) (Zc _) rfl (by decide)));refine ZO _ rfl (.tmp 48) (.tmp 49) _ rfl w2.heap.size 203 i1 _ 2 32 underlying153 gM gQ gR gS rfl (by decide) _ 0 [] rfl gm.out _ sc.length (flatB sc) rfl (fx.out _ ((gZ.out.trans hC).alloc _)) (ZiK sc) (by unfold maxLen;omega) om ?_ ?_;(rw[Zu];omega);intro v5 w5 h8 fc fa;obtain ⟨IA,ic,rfl⟩:=Ym h8))
  clear h3 q2;have gl:Ext W0 w5:=Ext.app (hC.alloc _) fc gm.out hC.size;have gC:=gZ.out.trans gl;have g6:=gq.ext gl;have g7:=gh.ext gl;have g5:=gy.ext gl;have g9:w.heap.size+3<=w5.heap.size:=Zp gF.out gl.size;have h9:=X4 h8 (show w.heap.size+3<=w2.heap.size from Zp gF.out hC.size);rw[Z7] at h9;obtain ⟨D,hD⟩:∃D,declsGo l sc=D:=⟨_,rfl⟩;rw[hD] at hz;have hI:=gd hz;have gT:Hid (declsGo (l.drop 0) sc=D):=hD;clear hz hD hC hP Y X b0 b1 b2 b3 b4 b5 b6 fc fa gm h8 HS gq gh gy g8 gz fk gl;go_loopw [12,13] (λiv i wr=>∃(j:Nat) (Q:Scope),j<=l.length/\i=nI j/\wr.ownsRow (w.heap.size+3) 203 2 iv Q.length (flatB Q)/\BxN wr w.heap.size k s nm (.slice A l.length c) (.slice B m d) t at_/\BxN wr (w.heap.size+1) 0 [] [] sN sN [] 0/\BxN wr (w.heap.size+1+1) 0 [] [] sN sN [] at_/\Ext w wr/\w.heap.size+3<=wr.heap.size/\Hid (declsGo (l.drop j) Q=D)/\Hid (Q.length<=sc.length+j)) (λ_ i _=>l.length - (intOf i).toNat)
  case atStart=>exact ⟨0,sc,Zj _,rfl,by simpa using h9,g6,g7,g5,gC,g9,gT,Zc _⟩
  case round=>
   clear g6 g7 g5 gC g9 gT h9;obtain ⟨j,Q,hj,rfl,S,hP,Y,X,hx,hU,hd,ho⟩:=hrel;obtain ⟨b0,b1,b2,b3,b4,b5,b6⟩:=hP.cells;obtain ⟨IA,ic,rfl⟩:=Ym S;obtain ⟨ga,hn⟩:∃g,wr.heap.size=g:=⟨_,rfl⟩;have fn:w.heap.size+3<=ga:=(by rw[<-hn];exact hU);by_cases hp:j<l.length;obtain ⟨ad,c',hv,hE⟩:=(h.ext hx).at hp;injection hv with hv1 hv2 J;subst hv1;clear hv2 J;have h7:=gs l[j] (ZL hp);have H:=hd.out;rw[Zl hp,declsGo] at H;obtain ⟨x,gw⟩:∃x,l[j]=x:=⟨_,rfl⟩;rw[gw] at hE h7 H;obtain ⟨a0,a1,a2,a3⟩:=hE;have fe:(0:Int)<=(j:Int):=om;have fA:(j:Int)<(l.length:Int):=om;have hA:=λw'=>U8 (str x.name) w' (by rw[YN];omega);rw[Z3] at hA;have hm:=λw'=>Q9 x w' om;have fv:=gd h7;clear hd gw h7;cases hs1:splitL x.name
   focus
    rw[hs1,Zi (show (none:Option (List UInt8×List UInt8)).isNone=true from rfl)] at H
    have fb:declL x.name=none:=(by unfold declL;rw[hs1])
    rw[hs1] at hA
    rw[fb] at hm
    subst H
    have hf:=hI.out
    dsimp only at hf
    subst hf
    have HS:=gd hA
    have HD:=gd hm
    clear hs1 fb hA hm hI
    go_wp2_with (first|(go_at_call 147;refine Za (HS.out _) ?_;rintro e2 w2 ⟨rfl,U⟩;simp only[splitAns];(have he:BxA w2 ga x:=BxA.ext (by rw[<-hn];exact Zg wr _) U);obtain ⟨c0,c1,c2,c3, -⟩:=he.cells)|(go_at_call 148;refine Za (HD.out _) ?_;rintro e3 w3 ⟨v3,rfl,J,I⟩;obtain ⟨d3,rfl⟩:=J;have F:Ext wr w3:=(((Ext.refl wr).alloc _).trans U).trans I;have hb:=he.ext I;(replace hP:=hP.ext F);(replace Y:=Y.ext F);(replace X:=X.ext F);obtain ⟨e0,e1,e2,e3, -⟩:=hb.cells))
   rotate_left
   rename_i fI;obtain ⟨p1,q1⟩:=fI;rw[hs1,Ze (by simp)] at H;rw[hs1] at hA;have HS:=gd hA;clear hs1 hA;cases hdl1:declL x.name
   ·rw[hdl1] at H hm;dsimp only at H;have HN:=gd H;have HD:=gd hm;clear hdl1 hm H
    go_wp2_with (first|(go_at_call 147;refine Za (HS.out _) ?_;rintro e2 w2 ⟨rfl,U⟩;simp only[splitAns];(have he:BxA w2 ga x:=BxA.ext (by rw[<-hn];exact Zg wr _) U);obtain ⟨c0,c1,c2,c3, -⟩:=he.cells)|(go_at_call 148;refine Za (HD.out _) ?_;rintro e3 w3 ⟨v3,rfl,J,I⟩;obtain ⟨d3,rfl⟩:=J;have F:Ext wr w3:=(((Ext.refl wr).alloc _).trans U).trans I;have hb:=he.ext I;(replace hP:=hP.ext F);(replace Y:=Y.ext F);(replace X:=X.ext F);obtain ⟨e0,e1,e2,e3, -⟩:=hb.cells))
    go_roundw
    case rel=>exact ⟨j+1,Q,hp,by go_num,Ya S F,hP,Y,X,hx.trans F,Zp hU F.size,HN,(by have:=ho.out;show Q.length<=sc.length+(j+1);omega)⟩
    case measure=>simp[intOf];omega
   rename_i d1;rw[hdl1] at H hm;dsimp only at H;have HD:=gd hm;clear hdl1 hm;by_cases hJ:d1=xmlL
   focus
    rw[Zi (Or.inl hJ)] at H
    have g1:((str d1).toList== [120,109,108])=true:=QS hJ
    subst H
    (try clear hQ)
    (try clear hO)
    (try clear hB)
    (try clear hJ)
    have hf:=hI.out
    dsimp only at hf
    subst hf
    clear hI
    go_wp2_with (first|(go_at_call 147;refine Za (HS.out _) ?_;rintro e2 w2 ⟨rfl,U⟩;simp only[splitAns];(have he:BxA w2 ga x:=BxA.ext (by rw[<-hn];exact Zg wr _) U);obtain ⟨c0,c1,c2,c3, -⟩:=he.cells)|(go_at_call 148;refine Za (HD.out _) ?_;rintro e3 w3 ⟨v3,rfl,J,I⟩;(replace J:v3=_:=J);subst J;have F:Ext wr w3:=(((Ext.refl wr).alloc _).trans U).trans I;have hb:=he.ext I;(replace hP:=hP.ext F);(replace Y:=Y.ext F);(replace X:=X.ext F);obtain ⟨e0,e1,e2,e3, -⟩:=hb.cells))
   rotate_left
   have g1:((str d1).toList== [120,109,108])=false:=JU hJ;by_cases hB:d1=xmlnsL
   focus
    rw[Zi (Or.inr (Or.inl hB))] at H
    have g2:((str d1).toList== [120,109,108,110,115])=true:=QS hB
    subst H
    (try clear hQ)
    (try clear hO)
    (try clear hB)
    (try clear hJ)
    have hf:=hI.out
    dsimp only at hf
    subst hf
    clear hI
    go_wp2_with (first|(go_at_call 147;refine Za (HS.out _) ?_;rintro e2 w2 ⟨rfl,U⟩;simp only[splitAns];(have he:BxA w2 ga x:=BxA.ext (by rw[<-hn];exact Zg wr _) U);obtain ⟨c0,c1,c2,c3, -⟩:=he.cells)|(go_at_call 148;refine Za (HD.out _) ?_;rintro e3 w3 ⟨v3,rfl,J,I⟩;(replace J:v3=_:=J);subst J;have F:Ext wr w3:=(((Ext.refl wr).alloc _).trans U).trans I;have hb:=he.ext I;(replace hP:=hP.ext F);(replace Y:=Y.ext F);(replace X:=X.ext F);obtain ⟨e0,e1,e2,e3, -⟩:=hb.cells))
   rotate_left
   have g2:((str d1).toList== [120,109,108,110,115])=false:=JU hB;by_cases hO:d1= []
   ·rw[Ze (by rintro (h1|h1|h1);exact hJ h1;exact hB h1;exact h1.1 hO)] at H;have g3:(str d1).toList.isEmpty=true:=(by rw[hO];exact UK);have HN:=gd H;(try clear hQ);(try clear hO);(try clear hB);(try clear hJ);have hW:=gd (show Q.length+1<=maxLen by have:=ho.out;unfold maxLen;omega);have hV:=gd (show (Q.length+1)*32<=140737488355328 by have:=ho.out;omega);clear H
    go_wp2_with (first|(go_at_call 147;refine Za (HS.out _) ?_;rintro e2 w2 ⟨rfl,U⟩;simp only[splitAns];(have he:BxA w2 ga x:=BxA.ext (by rw[<-hn];exact Zg wr _) U);obtain ⟨c0,c1,c2,c3, -⟩:=he.cells)|(go_at_call 148;refine Za (HD.out _) ?_;rintro e3 w3 ⟨v3,rfl,J,I⟩;(replace J:v3=_:=J);subst J;have F:Ext wr w3:=(((Ext.refl wr).alloc _).trans U).trans I;have hb:=he.ext I;(replace hP:=hP.ext F);(replace Y:=Y.ext F);(replace X:=X.ext F);obtain ⟨e0,e1,e2,e3, -⟩:=hb.cells)|(at_builtin;refine ZO _ rfl (.tmp 101) (.tmp 106) _ rfl (w.heap.size+3) 203 i1 _ 2 32 underlying153 gM gQ gR gS rfl (by decide) _ _ _ rfl ((Ya S F).alloc _) _ 1 (cellsB (d1,x.value)) rfl (Yo rfl (by decide)) (KM _) hW.out hV.out ?_ ?_;(rw[Zu];have:=F.size;omega);intro v9 w9 hh ha gr))
    go_roundw
    case rel=>
     have hs:=Jg (Ya S F);have hk:=(Ext.refl w3).alloc (.cells (cellsB (d1,x.value)).toArray 203);refine ⟨j+1,Q++ [(d1,x.value)],hp,by go_num,?_,(hP.ext hk).grown ha (λe=>by have:=hs _ e;omega),(Y.ext hk).grown ha (λe=>by have:=hs _ e;omega),(X.ext hk).grown ha (λe=>by have:=hs _ e;omega),Ext.app ((hx.trans F).trans hk) ha ((Ya S F).alloc _) om,?_,HN,?_⟩
     ·rw[ZdZ,Zd0,Zb];exact hh
     ·have h1:=ha.size;have h2:=F.size;rw[Zu] at h1;omega
     ·rw[Zb];have:=ho.out;show _+1<=_;omega
    case measure=>simp[intOf];omega
   have g3:=V4 hO;by_cases hQ:x.value= []
   focus
    rw[Zi (Or.inr (Or.inr ⟨hO,hQ⟩))] at H
    have g4:(str x.value).toList.isEmpty=true:=(by rw[hQ];exact UK)
    subst H
    (try clear hQ)
    (try clear hO)
    (try clear hB)
    (try clear hJ)
    have hf:=hI.out
    dsimp only at hf
    subst hf
    clear hI
    go_wp2_with (first|(go_at_call 147;refine Za (HS.out _) ?_;rintro e2 w2 ⟨rfl,U⟩;simp only[splitAns];(have he:BxA w2 ga x:=BxA.ext (by rw[<-hn];exact Zg wr _) U);obtain ⟨c0,c1,c2,c3, -⟩:=he.cells)|(go_at_call 148;refine Za (HD.out _) ?_;rintro e3 w3 ⟨v3,rfl,J,I⟩;(replace J:v3=_:=J);subst J;have F:Ext wr w3:=(((Ext.refl wr).alloc _).trans U).trans I;have hb:=he.ext I;(replace hP:=hP.ext F);(replace Y:=Y.ext F);(replace X:=X.ext F);obtain ⟨e0,e1,e2,e3, -⟩:=hb.cells))
   rotate_left
   ·rw[Ze (by rintro (h1|h1|h1);exact hJ h1;exact hB h1;exact hQ h1.2)] at H;have g4:=V4 hQ;have HN:=gd H;(try clear hQ);(try clear hO);(try clear hB);(try clear hJ);have hW:=gd (show Q.length+1<=maxLen by have:=ho.out;unfold maxLen;omega);have hV:=gd (show (Q.length+1)*32<=140737488355328 by have:=ho.out;omega);clear H
    go_wp2_with (first|(go_at_call 147;refine Za (HS.out _) ?_;rintro e2 w2 ⟨rfl,U⟩;simp only[splitAns];(have he:BxA w2 ga x:=BxA.ext (by rw[<-hn];exact Zg wr _) U);obtain ⟨c0,c1,c2,c3, -⟩:=he.cells)|(go_at_call 148;refine Za (HD.out _) ?_;rintro e3 w3 ⟨v3,rfl,J,I⟩;(replace J:v3=_:=J);subst J;have F:Ext wr w3:=(((Ext.refl wr).alloc _).trans U).trans I;have hb:=he.ext I;(replace hP:=hP.ext F);(replace Y:=Y.ext F);(replace X:=X.ext F);obtain ⟨e0,e1,e2,e3, -⟩:=hb.cells)|(at_builtin;refine ZO _ rfl (.tmp 101) (.tmp 106) _ rfl (w.heap.size+3) 203 i1 _ 2 32 underlying153 gM gQ gR gS rfl (by decide) _ _ _ rfl ((Ya S F).alloc _) _ 1 (cellsB (d1,x.value)) rfl (Yo rfl (by decide)) (KM _) hW.out hV.out ?_ ?_;(rw[Zu];have:=F.size;omega);intro v9 w9 hh ha gr))
    go_roundw
    case rel=>
     have hs:=Jg (Ya S F);have hk:=(Ext.refl w3).alloc (.cells (cellsB (d1,x.value)).toArray 203);refine ⟨j+1,Q++ [(d1,x.value)],hp,by go_num,?_,(hP.ext hk).grown ha (λe=>by have:=hs _ e;omega),(Y.ext hk).grown ha (λe=>by have:=hs _ e;omega),(X.ext hk).grown ha (λe=>by have:=hs _ e;omega),Ext.app ((hx.trans F).trans hk) ha ((Ya S F).alloc _) om,?_,HN,?_⟩
     ·rw[ZdZ,Zd0,Zb];exact hh
     ·have h1:=ha.size;have h2:=F.size;rw[Zu] at h1;omega
     ·rw[Zb];have:=ho.out;show _+1<=_;omega
    case measure=>simp[intOf];omega
   ·have gN:j=l.length:=om;subst gN;have H:=hd.out;rw[ZC (Zc _),declsGo] at H;subst H;have hf:=hI.out;dsimp only at hf;have ff:=ho.out;have gi:=λw' (hr:RSc w' (.slice IA Q.length ic) Q)=>Ks (.slice IA Q.length ic) Q p w' hr om;have gp:=X.name ln;have gJ:BxN (wr.setCell ⟨w.heap.size+1+1,2,none⟩ (.string (str ln))) (w.heap.size+1) 0 [] [] sN sN [] 0:=Y.other om;have gI:BxN (wr.setCell ⟨w.heap.size+1+1,2,none⟩ (.string (str ln))) w.heap.size k s nm (.slice A l.length c) (.slice B m d) t at_:=hP.other om;have gb:=XN S (g:=w.heap.size+1+1) om 2 (.string (str ln));have gP:Ext w (wr.setCell ⟨w.heap.size+1+1,2,none⟩ (.string (str ln))):=hx.setCell (by show _<=w.heap.size+1+1;omega) _;have fo:(wr.setCell ⟨w.heap.size+1+1,2,none⟩ (.string (str ln))).heap.size=wr.heap.size:=(by simp[World.setCell]);obtain ⟨m0,m1,m2,m3,m4,m5,m6⟩:=X.cells;obtain ⟨f1,f2,f3,f4⟩:=X.frozen;obtain ⟨n0,n1,n2,n3,n4,n5,n6⟩:=gp.cells;obtain ⟨z1,z2,z3,z4⟩:=gp.frozen;have gW:=gd ho;have fy:=gd fo;have gA:=gd gb;have gE:Hid (RSc (wr.setCell ⟨w.heap.size+1+1,2,none⟩ (.string (str ln))) (.slice IA Q.length ic) Q):=RSl.of_own gb;clear hd ff ho hI hn fo gb S Y hP hx hp;cases hlk:lookL Q p with
    |none=>
     rw[hlk] at hf gi;dsimp only at hf;subst hf;have HL:=gd gi;clear gi hlk
     go_wp2_with (first|(go_at_call 149;refine Za (HL.out _ gE.out) ?_;rintro e4 w4 ⟨rfl,h4⟩;simp only[lookAns];have hY:=h4.symm;clear h4;subst hY))
     have X:=gp.space [];have Y:BxN ((wr.setCell ⟨w.heap.size+1+1,2,none⟩ (.string (str ln))).setCell ⟨w.heap.size+1+1,1,none⟩ (.string (str []))) (w.heap.size+1) 0 [] [] sN sN [] 0:=gJ.other om;have hP:BxN ((wr.setCell ⟨w.heap.size+1+1,2,none⟩ (.string (str ln))).setCell ⟨w.heap.size+1+1,1,none⟩ (.string (str []))) w.heap.size k s nm (.slice A l.length c) (.slice B m d) t at_:=gI.other om;have hx:Ext w ((wr.setCell ⟨w.heap.size+1+1,2,none⟩ (.string (str ln))).setCell ⟨w.heap.size+1+1,1,none⟩ (.string (str []))):=gP.setCell (by show _<=w.heap.size+1+1;omega) _;obtain ⟨W9,h6⟩:∃W9,(wr.setCell ⟨w.heap.size+1+1,2,none⟩ (.string (str ln))).setCell ⟨w.heap.size+1+1,1,none⟩ (.string (str []))=W9:=⟨_,rfl⟩;rw[h6] at X Y hP hx;(try rw[h6]);have y6:=hP.cells.2.2.2.2.2.2;clear h6 m0 m1 m2 m3 m4 m5 m6 n0 n1 n2 n3 n4 n5 n6 f1 f2 f3 f4 z1 z2 z3 z4;have V:=(Ext.refl W9).drew;have hl:=BxN.ext Y V;obtain ⟨p0,p1,p2,p3,p4,p5,p6⟩:=(BxN.ext X V).cells;have pa:=V.cell y6;have hH:w.heap.size≠w.heap.size+1:=om;have pb:=(Z8 (a:=⟨w.heap.size,6,none⟩) (Yf W9.drew (w.heap.size+1) (w.heap.size) #[nI ((0:Nat):Int),.string (str []),.string (str ln),sN,sN,.string (str []),nI (at_:Nat)] hH)).trans pa;refine rN ?_;change wpAny _ _ _ _ _ _ _ (World.drew _);refine tH 1 (.pointer (some ⟨w.heap.size,6,none⟩)) ?_;refine XS (i:=2) (v:=nI (at_:Nat)) (λw'=>w'.cell? ⟨w.heap.size,6,none⟩=some (nI (at_:Nat))) 5 rfl (by kernel_rfl) (λ_ _ _ h=>h) (Or.inl ⟨by rfl,λw' hS=>by have hq:w'.cell? ⟨w.heap.size,6,none⟩=some (nI (at_:Nat)):=hS;go_simp⟩) pa ?_;go_simp;refine XQ 5 [6] (AtIx.cons rfl (AtIx.cons rfl AtIx.nil)) [0,3,4] (AtIx.cons rfl (AtIx.cons rfl (AtIx.cons rfl AtIx.nil))) rfl (by kernel_rfl) ?_;refine (Yg ?_:wpListS _ _ _ _ _ (_::_) _ _);intro K hK;go_simp;refine hK _ _ pa ?_;clear hK K;refine (Yg ?_:wpListS _ _ _ _ _ (_::_) _ _);intro K hK;refine YJ rfl 25 (.tmp 4) (.tmp 119) rfl (w.heap.size+1) _ rfl rfl _ _ hl ZJ rfl YU ?_;refine hK _ _ pb ?_;clear hK K;refine (Yg ?_:wpListS _ _ _ _ _ (_::_) _ _);intro K hK;go_simp;refine hK _ _ pb ?_;clear hK K;refine X0 ?_;clear p0 p1 p2 p3 p4 p5 p6 pa pb;go_wp2;((try simp only[Exit.inBlock,Exit.then]);refine ZD (Xs rfl _ _ _ _ _ _ _ rfl (ZF _ _ _ _ _ _ hl) underlying25 rfl ZJ) rfl ?_);exact ⟨_,rfl,⟨.mk 0 [] ln sN [] sN [] [] at_,rfl,⟨⟨_,_,_,rfl⟩,⟨_,_,_,rfl⟩⟩⟩,((hx).trans V).setRow om _⟩
    |some sp=>
     rw[hlk] at hf gi;dsimp only at hf;have gY:=gd hf;have HL:=gd gi;have fw:=gd (λw' q (hr:RSc w' (.slice IA Q.length ic) Q)=>Ks (.slice IA Q.length ic) Q q w' hr (by have:=gW.out.out;omega));clear gi hlk hf
     go_wp2_with (first|(go_at_call 149;refine Za (HL.out _ gE.out) ?_;rintro e4 w4 ⟨rfl,h4⟩;simp only[lookAns];have hY:=h4.symm;clear h4;subst hY))
     have X:=gp.space sp;have Y:BxN ((wr.setCell ⟨w.heap.size+1+1,2,none⟩ (.string (str ln))).setCell ⟨w.heap.size+1+1,1,none⟩ (.string (str sp))) (w.heap.size+1) 0 [] [] sN sN [] 0:=gJ.other om;have hP:BxN ((wr.setCell ⟨w.heap.size+1+1,2,none⟩ (.string (str ln))).setCell ⟨w.heap.size+1+1,1,none⟩ (.string (str sp))) w.heap.size k s nm (.slice A l.length c) (.slice B m d) t at_:=gI.other om;have hx:Ext w ((wr.setCell ⟨w.heap.size+1+1,2,none⟩ (.string (str ln))).setCell ⟨w.heap.size+1+1,1,none⟩ (.string (str sp))):=gP.setCell (by show _<=w.heap.size+1+1;omega) _;have S:=XN gA.out (g:=w.heap.size+1+1) om 1 (.string (str sp));have fl:w.heap.size+3<=((wr.setCell ⟨w.heap.size+1+1,2,none⟩ (.string (str ln))).setCell ⟨w.heap.size+1+1,1,none⟩ (.string (str sp))).heap.size:=(by simpa [World.setCell] using hU);obtain ⟨W9,h6⟩:∃W9,(wr.setCell ⟨w.heap.size+1+1,2,none⟩ (.string (str ln))).setCell ⟨w.heap.size+1+1,1,none⟩ (.string (str sp))=W9:=⟨_,rfl⟩;rw[h6] at X Y hP hx S fl;(try rw[h6]);clear h6 m0 m1 m2 m3 m4 m5 m6 n0 n1 n2 n3 n4 n5 n6 f1 f2 f3 f4 z1 z2 z3 z4 b0 b1 b2 b3 b4 b5 b6 gp gJ gI gP HL;obtain ⟨G,hG⟩:∃G,attrsGo Q l []=G:=⟨_,rfl⟩;have hu:=gY.out;rw[hG] at hu;have HG:=gd hu;have gU:Hid (attrsGo Q (l.drop 0) []=G):=hG;have gK:∀g,(Value.slice IA Q.length ic).ownBlock=some g->g<W9.heap.size:=λg hg=>(S.lt g hg).2;obtain ⟨B2,g0⟩:∃B2,W9.heap.size=B2:=⟨_,rfl⟩;rw[g0] at gK fl;have gV:=gd gK;have hB:B2<=W9.heap.size:=om;clear hu hG gY gK g0 gE gA fy fn ga hU gF gW;go_loopw [20] (λi wr=>∃(j:Nat) (out:List AtP) (av:Value),j<=l.length/\i=nI j/\wr.ownsRow B2 88 4 av out.length (flatA out)/\wr.ownsRow (w.heap.size+3) 203 2 (.slice IA Q.length ic) Q.length (flatB Q)/\BxN wr w.heap.size k s nm (.slice A l.length c) (.slice B m d) t at_/\BxN wr (w.heap.size+1) 0 [] [] sN sN [] 0/\BxN wr (w.heap.size+1+1) 0 sp ln av sN [] at_/\Ext w wr/\B2<=wr.heap.size/\Hid (attrsGo Q (l.drop j) out=G)/\Hid (out.length<=j)) (λi _=>l.length - (intOf i).toNat)
     case atStart=>exact ⟨0,[],sN,Zj _,rfl,YF _ _ _ _,S,hP,Y,X,hx,hB,gU,Zj _⟩
     case round=>
      clear hP Y X hx S gU hB;obtain ⟨j,out,av,hj,rfl,S,gt,hP,Y,X,hx,hU,hd,ho⟩:=hrel;obtain ⟨b0,b1,b2,b3,b4,b5,b6⟩:=hP.cells;obtain ⟨QA,qc,rfl⟩:=Ym S;obtain ⟨ga,hn⟩:∃g,wr.heap.size=g:=⟨_,rfl⟩;have fn:w.heap.size+3<=ga:=(by rw[<-hn];omega);by_cases hp:j<l.length
      ·obtain ⟨ad,c',hv,hE⟩:=(h.ext hx).at hp;injection hv with hv1 hv2 J;subst hv1;clear hv2 J;have h7:=gs l[j] (ZL hp);have H:=hd.out;rw[Zl hp,attrsGo] at H;obtain ⟨x,gw⟩:∃x,l[j]=x:=⟨_,rfl⟩;rw[gw] at hE h7 H;obtain ⟨a0,a1,a2,a3⟩:=hE;have fe:(0:Int)<=(j:Int):=om;have fA:(j:Int)<(l.length:Int):=om;have fj:out.length<=80000000000:=(by have:=ho.out;omega);have gX:=gd fj;have hA:=λw'=>U8 (str x.name) w' (by rw[YN];omega);rw[Z3] at hA;have hm:=λw'=>Q9 x w' om;have fv:=gd h7;have gB:Hid (∀w',Ext wr w'->RSc w' (.slice IA Q.length ic) Q):=λw' fH=>RSc.ext (RSl.of_own gt) fH;clear hd gw h7 fj;cases hdl1:declL x.name with
       |some d1=>
        rw[hdl1,Zi (show (some d1).isSome=true from rfl)] at H;rw[hdl1] at hm;have HN:=gd H;have HD:=gd hm;clear hdl1 hm H hA
        go_wp2_with (first|(go_at_call 148;refine Za (HD.out _) ?_;rintro e3 w3 ⟨v3,rfl,J,I⟩;(replace J:v3=_:=J);subst J;have F:Ext wr w3:=((Ext.refl wr).alloc _).trans I;(have hb:BxA w3 ga x:=BxA.ext (by rw[<-hn];exact Zg wr _) I);(replace hP:=hP.ext F);(replace Y:=Y.ext F);(replace X:=X.ext F);obtain ⟨e0,e1,e2,e3, -⟩:=hb.cells))
        go_roundw
        case rel=>exact ⟨j+1,out,_,hp,by go_num,Ya S F,Ya gt F,hP,Y,X,hx.trans F,Zp hU F.size,HN,(by have:=ho.out;show out.length<=j+1;omega)⟩
        case measure=>simp[intOf];omega
       |none=>
        rw[hdl1,Ze (by simp)] at H;rw[hdl1] at hm;have HD:=gd hm;dsimp only at H;obtain ⟨bq,gO⟩:=Zdy x.name;obtain ⟨q,hq⟩:∃q,((splitL x.name).getD ([],[])).1=q:=⟨_,rfl⟩;obtain ⟨lc,fh⟩:∃lc,((splitL x.name).getD ([],[])).2=lc:=⟨_,rfl⟩;rw[hq,fh] at H gO;rw[gO] at hA;have HS:=gd hA;clear hq fh gO hA hm hdl1;by_cases gc:q= []
        ·rw[Zi gc] at H;dsimp only at H;have g1:(str q).toList.isEmpty=true:=(by rw[gc];exact UK);have HQ:=gd H;clear H gc
         go_wp2_with (first|(go_at_call 148;refine Za (HD.out _) ?_;rintro e3 w3 ⟨v3,rfl,J,I⟩;obtain ⟨d3,rfl⟩:=J;have F:Ext wr w3:=((Ext.refl wr).alloc _).trans I;(have hb:BxA w3 ga x:=BxA.ext (by rw[<-hn];exact Zg wr _) I);(replace hP:=hP.ext F);(replace Y:=Y.ext F);(replace X:=X.ext F);obtain ⟨e0,e1,e2,e3, -⟩:=hb.cells)|(go_at_call 147;refine Za (HS.out _) ?_;rintro e4 w4 ⟨rfl,Z⟩;have hw:Ext wr w4:=F.trans Z;have go:=hb.ext Z;(replace hP:=hP.ext Z);(replace Y:=Y.ext Z);(replace X:=X.ext Z);obtain ⟨k0,k1,k2,k3, -⟩:=go.cells))
         have hc:=Ya S hw;have gu:=Ya gt hw;have fG:B2<=w4.heap.size:=Zp hU hw.size;go_loopw [28] (λv wr=>∃i:Nat,i<=out.length/\v=nI i/\Hid (∀t,t<i->∀ht:t<out.length,(out[t].space== [] && out[t].name==lc)=false)/\wr=w4) (λv _=>out.length - (intOf v).toNat)
         case atStart=>exact ⟨0,Zj _,rfl,(by intro t ht;omega),rfl⟩
         case round=>
          obtain ⟨i,hi,rfl,hT,h4⟩:=hrel;have hY:=h4.symm;clear h4;subst hY;have fF:=gX.out;obtain ⟨m0,m1,m2,m3,m4,m5,m6⟩:=X.cells;clear a0 a1 a2 a3 b0 b1 b2 b3 b4 b5 b6;by_cases hF:i<out.length
          ·obtain ⟨gn,fz,hv,hE⟩:=RAts.at (RSl.of_own hc) hF;injection hv with hv1 hv2 J;subst hv1;clear hv2 J;have fB:(0:Int)<=(i:Int):=om;have fC:(i:Int)<(out.length:Int):=om;obtain ⟨y,gg⟩:∃y,out[i]=y:=⟨_,rfl⟩;rw[gg] at hE;obtain ⟨y0,y1, -, -⟩:=hE;have hL:=gd gg;clear gg;cases q1:(str y.space).toList.isEmpty with
           |true=>
            cases q2:((str y.name).toList==(str lc).toList) with
            |true=>
             have gH:G= .error (x.at_,10):=by
              have h0:=HQ.out;rw[Zi ?_] at h0
              ·exact h0.symm
              ·rw[Xm];refine ⟨y,by rw[<-hL.out];exact ZL hF,?_⟩;rw[Jr] at q2;rw[ZoS q1,q2];rfl
             subst gH;have hu:=HG.out;dsimp only at hu;subst hu;clear HG HQ hL;go_wp2;have V:=(Ext.refl w4).drew;have hl:=BxN.ext Y V;obtain ⟨p0,p1,p2,p3,p4,p5,p6⟩:=(BxN.ext X V).cells;have pa:=V.cell k3;have hH:ga≠w.heap.size+1:=om;have pb:=(Z8 (a:=⟨ga,3,none⟩) (Yf w4.drew (w.heap.size+1) (ga) #[nI ((0:Nat):Int),.string (str sp),.string (str ln),.slice (some gn) out.length qc,sN,.string (str []),nI (at_:Nat)] hH)).trans pa;refine rN ?_;change wpAny _ _ _ _ _ _ _ (World.drew _);refine tH 1 (.pointer (some ⟨ga,3,none⟩)) ?_;refine XS (i:=2) (v:=nI (x.at_:Nat)) (λw'=>w'.cell? ⟨ga,3,none⟩=some (nI (x.at_:Nat))) 5 rfl (by kernel_rfl) (λ_ _ _ h=>h) (Or.inl ⟨by rfl,λw' hS=>by have hq:w'.cell? ⟨ga,3,none⟩=some (nI (x.at_:Nat)):=hS;go_simp⟩) pa ?_;go_simp;refine XQ 5 [6] (AtIx.cons rfl (AtIx.cons rfl AtIx.nil)) [0,3,4] (AtIx.cons rfl (AtIx.cons rfl (AtIx.cons rfl AtIx.nil))) rfl (by kernel_rfl) ?_;refine (Yg ?_:wpListS _ _ _ _ _ (_::_) _ _);intro K hK;go_simp;refine hK _ _ pa ?_;clear hK K;refine (Yg ?_:wpListS _ _ _ _ _ (_::_) _ _);intro K hK;refine YJ rfl 25 (.tmp 4) (.tmp 185) rfl (w.heap.size+1) _ rfl rfl _ _ hl ZJ rfl YU ?_;refine hK _ _ pb ?_;clear hK K;refine (Yg ?_:wpListS _ _ _ _ _ (_::_) _ _);intro K hK;go_simp;refine hK _ _ pb ?_;clear hK K;refine X0 ?_;clear p0 p1 p2 p3 p4 p5 p6 pa pb;go_wp2;((try simp only[Exit.inBlock,Exit.then]);refine ZD (Xs rfl _ _ _ _ _ _ _ rfl (ZF _ _ _ _ _ _ hl) underlying25 rfl ZJ) rfl ?_);exact ⟨_,rfl,⟨.mk 0 sp ln (.slice (some gn) out.length qc) [] sN [] [] at_,rfl,⟨⟨_,_,_,rfl⟩,⟨_,_,_,rfl⟩⟩⟩,((hx.trans hw).trans V).setRow om _⟩
            |false=>
             go_wp2;go_roundw
             case rel=>
              refine ⟨i+1,om,by go_num,?_,by trivial⟩;intro t ht gf;by_cases ge:t<i
              ·exact hT.out t ge gf
              ·have:t=i:=om;subst this;rw[Jr] at q2;rw[hL.out,q2,Bool.and_false]
             case measure=>simp[intOf];omega
           |false=>
            go_wp2;go_roundw
            case rel=>
             refine ⟨i+1,om,by go_num,?_,by trivial⟩;intro t ht gf;by_cases ge:t<i
             ·exact hT.out t ge gf
             ·have:t=i:=om;subst this;rw[hL.out,ZnP q1,Yk]
            case measure=>simp[intOf];omega
          ·have gL:i=out.length:=om;have fi:¬(i:Int)<(out.length:Int):=om;have HN:Hid (attrsGo Q (l.drop (j+1)) (out++ [⟨[],lc,x.value,x.at_⟩])=G):=by
            have h0:=HQ.out;rw[Ze ?_] at h0
            ·exact h0
            ·intro h;obtain ⟨y,hy,gx⟩:=Xm.1 h;obtain ⟨t,ht,rfl⟩:=List.getElem_of_mem hy;rw[hT.out t om ht] at gx;cases gx
           have hW:=gd (show out.length+1<=maxLen by unfold maxLen;omega);have hV:=gd (show (out.length+1)*56<=140737488355328 by omega);have hs:=Jg hc;have hk:=(Ext.refl w4).alloc (.cells (cellsA ⟨[],lc,x.value,x.at_⟩).toArray 88);subst gL;clear HQ hT hF hi
           go_wp2_with (first|(at_builtin;refine ZO _ rfl (.tmp 189) (.tmp 197) _ rfl B2 88 i0 _ 4 56 underlying22 fd fq fr ft rfl (by decide) _ _ _ rfl (hc.alloc _) _ 1 (cellsA ⟨[],lc,x.value,x.at_⟩) rfl (Yo rfl (by decide)) (Uo _) hW.out hV.out ?_ ?_;(rw[Zu];omega);intro v9 w9 hh ha gr;obtain ⟨A9,c9,rfl⟩:=Ym hh;(have hZ:=(X.ext hk).grown ha (λe=>by have:=hs _ e;omega));obtain ⟨n0,n1,n2,n3,n4,n5,n6⟩:=hZ.cells;obtain ⟨z1,z2,z3,z4⟩:=hZ.frozen))
           go_roundw
           case rel=>
            refine ⟨j+1,out++ [⟨[],lc,x.value,x.at_⟩],_,hp,by go_num,?_,XN (ZeD (gu.alloc _) (hc.alloc _) gV.out ha) om _ _,((hP.ext hk).grown ha (λe=>by have:=hs _ e;omega)).other om,((Y.ext hk).grown ha (λe=>by have:=hs _ e;omega)).other om,hZ.attrs _,(Ext.app ((hx.trans hw).trans hk) ha (hc.alloc _) om).setCell (by show _<=w.heap.size+1+1;omega) _,?_,HN,?_⟩
            ·rw[G5,G7,Zb];exact XN hh om _ _
            ·have h1:=ha.size;rw[Zu] at h1;show _<=(w9.setCell ⟨w.heap.size+1+1,3,none⟩ (.slice A9 (out.length+1) c9)).heap.size;rw[show (w9.setCell ⟨w.heap.size+1+1,3,none⟩ (.slice A9 (out.length+1) c9)).heap.size=w9.heap.size by simp[World.setCell]];omega
            ·rw[Zb];have:=ho.out;show _+1<=_;omega
           case measure=>simp[intOf];omega
        ·rw[Ze gc] at H;have g1:=V4 gc;have gj:=λw' hr=>fw.out w' q hr;cases hlk:lookL Q q with
         |none=>
          rw[hlk] at H gj;dsimp only at H;subst H;have hu:=HG.out;dsimp only at hu;subst hu;have gD:=gd gj;clear gj hlk gc HG
          go_wp2_with (first|(go_at_call 148;refine Za (HD.out _) ?_;rintro e3 w3 ⟨v3,rfl,J,I⟩;obtain ⟨d3,rfl⟩:=J;have F:Ext wr w3:=((Ext.refl wr).alloc _).trans I;(have hb:BxA w3 ga x:=BxA.ext (by rw[<-hn];exact Zg wr _) I);(replace hP:=hP.ext F);(replace Y:=Y.ext F);(replace X:=X.ext F);obtain ⟨e0,e1,e2,e3, -⟩:=hb.cells)|(go_at_call 147;refine Za (HS.out _) ?_;rintro e4 w4 ⟨rfl,Z⟩;have hw:Ext wr w4:=F.trans Z;have go:=hb.ext Z;(replace hP:=hP.ext Z);(replace Y:=Y.ext Z);(replace X:=X.ext Z);obtain ⟨k0,k1,k2,k3, -⟩:=go.cells)|(go_at_call 149;refine Za (gD.out _ (gB.out _ hw)) ?_;rintro e5 w5 ⟨rfl,h5⟩;simp only[lookAns];have gG:=h5.symm;clear h5;subst gG))
          have V:=(Ext.refl w4).drew;have hl:=BxN.ext Y V;obtain ⟨p0,p1,p2,p3,p4,p5,p6⟩:=(BxN.ext X V).cells;have pa:=V.cell k3;have hH:ga≠w.heap.size+1:=om;have pb:=(Z8 (a:=⟨ga,3,none⟩) (Yf w4.drew (w.heap.size+1) (ga) #[nI ((0:Nat):Int),.string (str sp),.string (str ln),.slice QA out.length qc,sN,.string (str []),nI (at_:Nat)] hH)).trans pa;refine rN ?_;change wpAny _ _ _ _ _ _ _ (World.drew _);refine tH 1 (.pointer (some ⟨ga,3,none⟩)) ?_;refine XS (i:=2) (v:=nI (x.at_:Nat)) (λw'=>w'.cell? ⟨ga,3,none⟩=some (nI (x.at_:Nat))) 5 rfl (by kernel_rfl) (λ_ _ _ h=>h) (Or.inl ⟨by rfl,λw' hS=>by have hq:w'.cell? ⟨ga,3,none⟩=some (nI (x.at_:Nat)):=hS;go_simp⟩) pa ?_;go_simp;refine XQ 5 [6] (AtIx.cons rfl (AtIx.cons rfl AtIx.nil)) [0,3,4] (AtIx.cons rfl (AtIx.cons rfl (AtIx.cons rfl AtIx.nil))) rfl (by kernel_rfl) ?_;refine (Yg ?_:wpListS _ _ _ _ _ (_::_) _ _);intro K hK;go_simp;refine hK _ _ pa ?_;clear hK K;refine (Yg ?_:wpListS _ _ _ _ _ (_::_) _ _);intro K hK;refine YJ rfl 25 (.tmp 4) (.tmp 157) rfl (w.heap.size+1) _ rfl rfl _ _ hl ZJ rfl YU ?_;refine hK _ _ pb ?_;clear hK K;refine (Yg ?_:wpListS _ _ _ _ _ (_::_) _ _);intro K hK;go_simp;refine hK _ _ pb ?_;clear hK K;refine X0 ?_;clear p0 p1 p2 p3 p4 p5 p6 pa pb;go_wp2;((try simp only[Exit.inBlock,Exit.then]);refine ZD (Xs rfl _ _ _ _ _ _ _ rfl (ZF _ _ _ _ _ _ hl) underlying25 rfl ZJ) rfl ?_);exact ⟨_,rfl,⟨.mk 0 sp ln (.slice QA out.length qc) [] sN [] [] at_,rfl,⟨⟨_,_,_,rfl⟩,⟨_,_,_,rfl⟩⟩⟩,((hx.trans hw).trans V).setRow om _⟩
         |some spc=>
          rw[hlk] at H gj;dsimp only at H;have gD:=gd gj;have HQ:=gd H;clear gj hlk gc H
          go_wp2_with (first|(go_at_call 148;refine Za (HD.out _) ?_;rintro e3 w3 ⟨v3,rfl,J,I⟩;obtain ⟨d3,rfl⟩:=J;have F:Ext wr w3:=((Ext.refl wr).alloc _).trans I;(have hb:BxA w3 ga x:=BxA.ext (by rw[<-hn];exact Zg wr _) I);(replace hP:=hP.ext F);(replace Y:=Y.ext F);(replace X:=X.ext F);obtain ⟨e0,e1,e2,e3, -⟩:=hb.cells)|(go_at_call 147;refine Za (HS.out _) ?_;rintro e4 w4 ⟨rfl,Z⟩;have hw:Ext wr w4:=F.trans Z;have go:=hb.ext Z;(replace hP:=hP.ext Z);(replace Y:=Y.ext Z);(replace X:=X.ext Z);obtain ⟨k0,k1,k2,k3, -⟩:=go.cells)|(go_at_call 149;refine Za (gD.out _ (gB.out _ hw)) ?_;rintro e5 w5 ⟨rfl,h5⟩;simp only[lookAns];have gG:=h5.symm;clear h5;subst gG))
          have hc:=Ya S hw;have gu:=Ya gt hw;have fG:B2<=w4.heap.size:=Zp hU hw.size;go_loopw [28] (λv wr=>∃i:Nat,i<=out.length/\v=nI i/\Hid (∀t,t<i->∀ht:t<out.length,(out[t].space==spc && out[t].name==lc)=false)/\wr=w4) (λv _=>out.length - (intOf v).toNat)
          case atStart=>exact ⟨0,Zj _,rfl,(by intro t ht;omega),rfl⟩
          case round=>
           obtain ⟨i,hi,rfl,hT,h4⟩:=hrel;have hY:=h4.symm;clear h4;subst hY;have fF:=gX.out;obtain ⟨m0,m1,m2,m3,m4,m5,m6⟩:=X.cells;clear a0 a1 a2 a3 b0 b1 b2 b3 b4 b5 b6;by_cases hF:i<out.length
           ·obtain ⟨gn,fz,hv,hE⟩:=RAts.at (RSl.of_own hc) hF;injection hv with hv1 hv2 J;subst hv1;clear hv2 J;have fB:(0:Int)<=(i:Int):=om;have fC:(i:Int)<(out.length:Int):=om;obtain ⟨y,gg⟩:∃y,out[i]=y:=⟨_,rfl⟩;rw[gg] at hE;obtain ⟨y0,y1, -, -⟩:=hE;have hL:=gd gg;clear gg;cases q1:((str y.space).toList==(str spc).toList) with
            |true=>
             cases q2:((str y.name).toList==(str lc).toList) with
             |true=>
              have gH:G= .error (x.at_,10):=by
               have h0:=HQ.out;rw[Zi ?_] at h0
               ·exact h0.symm
               ·rw[Xm];refine ⟨y,by rw[<-hL.out];exact ZL hF,?_⟩;rw[Jr] at q2;rw[(Jr y.space spc).symm.trans q1,q2];rfl
              subst gH;have hu:=HG.out;dsimp only at hu;subst hu;clear HG HQ hL;go_wp2;have V:=(Ext.refl w4).drew;have hl:=BxN.ext Y V;obtain ⟨p0,p1,p2,p3,p4,p5,p6⟩:=(BxN.ext X V).cells;have pa:=V.cell k3;have hH:ga≠w.heap.size+1:=om;have pb:=(Z8 (a:=⟨ga,3,none⟩) (Yf w4.drew (w.heap.size+1) (ga) #[nI ((0:Nat):Int),.string (str sp),.string (str ln),.slice (some gn) out.length qc,sN,.string (str []),nI (at_:Nat)] hH)).trans pa;refine rN ?_;change wpAny _ _ _ _ _ _ _ (World.drew _);refine tH 1 (.pointer (some ⟨ga,3,none⟩)) ?_;refine XS (i:=2) (v:=nI (x.at_:Nat)) (λw'=>w'.cell? ⟨ga,3,none⟩=some (nI (x.at_:Nat))) 5 rfl (by kernel_rfl) (λ_ _ _ h=>h) (Or.inl ⟨by rfl,λw' hS=>by have hq:w'.cell? ⟨ga,3,none⟩=some (nI (x.at_:Nat)):=hS;go_simp⟩) pa ?_;go_simp;refine XQ 5 [6] (AtIx.cons rfl (AtIx.cons rfl AtIx.nil)) [0,3,4] (AtIx.cons rfl (AtIx.cons rfl (AtIx.cons rfl AtIx.nil))) rfl (by kernel_rfl) ?_;refine (Yg ?_:wpListS _ _ _ _ _ (_::_) _ _);intro K hK;go_simp;refine hK _ _ pa ?_;clear hK K;refine (Yg ?_:wpListS _ _ _ _ _ (_::_) _ _);intro K hK;refine YJ rfl 25 (.tmp 4) (.tmp 185) rfl (w.heap.size+1) _ rfl rfl _ _ hl ZJ rfl YU ?_;refine hK _ _ pb ?_;clear hK K;refine (Yg ?_:wpListS _ _ _ _ _ (_::_) _ _);intro K hK;go_simp;refine hK _ _ pb ?_;clear hK K;refine X0 ?_;clear p0 p1 p2 p3 p4 p5 p6 pa pb;go_wp2;((try simp only[Exit.inBlock,Exit.then]);refine ZD (Xs rfl _ _ _ _ _ _ _ rfl (ZF _ _ _ _ _ _ hl) underlying25 rfl ZJ) rfl ?_);exact ⟨_,rfl,⟨.mk 0 sp ln (.slice (some gn) out.length qc) [] sN [] [] at_,rfl,⟨⟨_,_,_,rfl⟩,⟨_,_,_,rfl⟩⟩⟩,((hx.trans hw).trans V).setRow om _⟩
             |false=>
              go_wp2;go_roundw
              case rel=>
               refine ⟨i+1,om,by go_num,?_,by trivial⟩;intro t ht gf;by_cases ge:t<i
               ·exact hT.out t ge gf
               ·have:t=i:=om;subst this;rw[Jr] at q2;rw[hL.out,q2,Bool.and_false]
              case measure=>simp[intOf];omega
            |false=>
             go_wp2;go_roundw
             case rel=>
              refine ⟨i+1,om,by go_num,?_,by trivial⟩;intro t ht gf;by_cases ge:t<i
              ·exact hT.out t ge gf
              ·have:t=i:=om;subst this;rw[hL.out,(Jr y.space spc).symm.trans q1,Yk]
             case measure=>simp[intOf];omega
           ·have gL:i=out.length:=om;have fi:¬(i:Int)<(out.length:Int):=om;have HN:Hid (attrsGo Q (l.drop (j+1)) (out++ [⟨spc,lc,x.value,x.at_⟩])=G):=by
             have h0:=HQ.out;rw[Ze ?_] at h0
             ·exact h0
             ·intro h;obtain ⟨y,hy,gx⟩:=Xm.1 h;obtain ⟨t,ht,rfl⟩:=List.getElem_of_mem hy;rw[hT.out t om ht] at gx;cases gx
            have hW:=gd (show out.length+1<=maxLen by unfold maxLen;omega);have hV:=gd (show (out.length+1)*56<=140737488355328 by omega);have hs:=Jg hc;have hk:=(Ext.refl w4).alloc (.cells (cellsA ⟨spc,lc,x.value,x.at_⟩).toArray 88);subst gL;clear HQ hT hF hi
            go_wp2_with (first|(at_builtin;refine ZO _ rfl (.tmp 189) (.tmp 197) _ rfl B2 88 i0 _ 4 56 underlying22 fd fq fr ft rfl (by decide) _ _ _ rfl (hc.alloc _) _ 1 (cellsA ⟨spc,lc,x.value,x.at_⟩) rfl (Yo rfl (by decide)) (Uo _) hW.out hV.out ?_ ?_;(rw[Zu];omega);intro v9 w9 hh ha gr;obtain ⟨A9,c9,rfl⟩:=Ym hh;(have hZ:=(X.ext hk).grown ha (λe=>by have:=hs _ e;omega));obtain ⟨n0,n1,n2,n3,n4,n5,n6⟩:=hZ.cells;obtain ⟨z1,z2,z3,z4⟩:=hZ.frozen))
            go_roundw
            case rel=>
             refine ⟨j+1,out++ [⟨spc,lc,x.value,x.at_⟩],_,hp,by go_num,?_,XN (ZeD (gu.alloc _) (hc.alloc _) gV.out ha) om _ _,((hP.ext hk).grown ha (λe=>by have:=hs _ e;omega)).other om,((Y.ext hk).grown ha (λe=>by have:=hs _ e;omega)).other om,hZ.attrs _,(Ext.app ((hx.trans hw).trans hk) ha (hc.alloc _) om).setCell (by show _<=w.heap.size+1+1;omega) _,?_,HN,?_⟩
             ·rw[G5,G7,Zb];exact XN hh om _ _
             ·have h1:=ha.size;rw[Zu] at h1;show _<=(w9.setCell ⟨w.heap.size+1+1,3,none⟩ (.slice A9 (out.length+1) c9)).heap.size;rw[show (w9.setCell ⟨w.heap.size+1+1,3,none⟩ (.slice A9 (out.length+1) c9)).heap.size=w9.heap.size by simp[World.setCell]];omega
             ·rw[Zb];have:=ho.out;show _+1<=_;omega
            case measure=>simp[intOf];omega
      ·have gN:j=l.length:=om;subst gN;have H:=hd.out;rw[ZC (Zc _),attrsGo] at H;subst H;have hu:=HG.out;dsimp only at hu;subst hu;obtain ⟨m0,m1,m2,m3,m4,m5,m6⟩:=X.cells;clear hd HG hp hn
       go_wp2_with (first|(refine Zf rfl 25 (.tmp 4) (.tmp 200) rfl (w.heap.size+1) _ rfl rfl _ _ Y ZJ rfl YU ?_))
       ((try simp only[Exit.inBlock,Exit.then]);refine ZD (Xs rfl _ _ _ _ _ _ _ rfl (ZF _ _ _ _ _ _ Y) underlying25 rfl ZJ) rfl ?_);exact ⟨_,rfl,⟨_,_,rfl,RSl.of_own (Jk S om _),RSl.of_own (Jk gt om _),(λg hg=>by have:=Jg S g hg;omega)⟩,hx.setRow om _⟩
   all_goals
    have V:=(Ext.refl w3).drew
    have hl:=BxN.ext Y V
    obtain ⟨p0,p1,p2,p3,p4,p5,p6⟩:=(BxN.ext X V).cells
    have pa:=V.cell e3
    have hH:ga≠w.heap.size+1:=om
    have pb:=(Z8 (a:=⟨ga,3,none⟩) (Yf w3.drew (w.heap.size+1) (ga) #[nI ((0:Nat):Int),.string (str []),.string (str []),sN,sN,.string (str []),nI (at_:Nat)] hH)).trans pa
    refine rN ?_
    change wpAny _ _ _ _ _ _ _ (World.drew _)
    refine tH 1 (.pointer (some ⟨ga,3,none⟩)) ?_
    refine XS (i:=2) (v:=nI (x.at_:Nat)) (λw'=>w'.cell? ⟨ga,3,none⟩=some (nI (x.at_:Nat))) 5 rfl (by kernel_rfl) (λ_ _ _ h=>h) (Or.inl ⟨by rfl,λw' hS=>by have hq:w'.cell? ⟨ga,3,none⟩=some (nI (x.at_:Nat)):=hS;go_simp⟩) pa ?_
    go_simp
    refine XQ 5 [6] (AtIx.cons rfl (AtIx.cons rfl AtIx.nil)) [0,3,4] (AtIx.cons rfl (AtIx.cons rfl (AtIx.cons rfl AtIx.nil))) rfl (by kernel_rfl) ?_
    refine (Yg ?_:wpListS _ _ _ _ _ (_::_) _ _)
    intro K hK
    go_simp
    refine hK _ _ pa ?_
    clear hK K
    refine (Yg ?_:wpListS _ _ _ _ _ (_::_) _ _)
    intro K hK
    refine YJ rfl 25 (.tmp 4) (.tmp 97) rfl (w.heap.size+1) _ rfl rfl _ _ hl ZJ rfl YU ?_
    refine hK _ _ pb ?_
    clear hK K
    refine (Yg ?_:wpListS _ _ _ _ _ (_::_) _ _)
    intro K hK
    go_simp
    refine hK _ _ pb ?_
    clear hK K
    refine X0 ?_
    clear p0 p1 p2 p3 p4 p5 p6 pa pb
    go_wp2
    ((try simp only[Exit.inBlock,Exit.then]);refine ZD (Xs rfl _ _ _ _ _ _ _ rfl (ZF _ _ _ _ _ _ hl) underlying25 rfl ZJ) rfl ?_)
    exact ⟨_,rfl,⟨.mk 0 [] [] sN [] sN [] [] at_,rfl,⟨⟨_,_,_,rfl⟩,⟨_,_,_,rfl⟩⟩⟩,((hx.trans F).trans V).setRow om _⟩
 all_goals
  go_enter func102,ntmps102
  go_wp2_with (first|(go_at_call 147;refine Za (HS.out _) ?_;rintro e w2 ⟨rfl,hC⟩;simp only[splitAns];have hP:=gq.ext hC;have Y:=gh.ext hC;have X:=gy.ext hC;obtain ⟨b0,b1,b2,b3,b4,b5,b6⟩:=hP.cells))
  clear h3
  have V:=(Ext.refl w2).drew
  have hl:=BxN.ext Y V
  obtain ⟨p0,p1,p2,p3,p4,p5,p6⟩:=(BxN.ext X V).cells
  have pa:=V.cell b6
  have hH:w.heap.size≠w.heap.size+1:=om
  have pb:=(Z8 (a:=⟨w.heap.size,6,none⟩) (Yf w2.drew (w.heap.size+1) (w.heap.size) #[nI ((0:Nat):Int),.string (str []),.string (str []),sN,sN,.string (str []),nI (at_:Nat)] hH)).trans pa
  refine rN ?_
  change wpAny _ _ _ _ _ _ _ (World.drew _)
  refine tH 1 (.pointer (some ⟨w.heap.size,6,none⟩)) ?_
  refine XS (i:=2) (v:=nI (at_:Nat)) (λw'=>w'.cell? ⟨w.heap.size,6,none⟩=some (nI (at_:Nat))) 5 rfl (by kernel_rfl) (λ_ _ _ h=>h) (Or.inl ⟨by rfl,λw' hS=>by have hq:w'.cell? ⟨w.heap.size,6,none⟩=some (nI (at_:Nat)):=hS;go_simp⟩) pa ?_
  go_simp
  refine XQ 5 [6] (AtIx.cons rfl (AtIx.cons rfl AtIx.nil)) [0,3,4] (AtIx.cons rfl (AtIx.cons rfl (AtIx.cons rfl AtIx.nil))) rfl (by kernel_rfl) ?_
  refine (Yg ?_:wpListS _ _ _ _ _ (_::_) _ _)
  intro K hK
  go_simp
  refine hK _ _ pa ?_
  clear hK K
  refine (Yg ?_:wpListS _ _ _ _ _ (_::_) _ _)
  intro K hK
  refine YJ rfl 25 (.tmp 4) (.tmp 45) rfl (w.heap.size+1) _ rfl rfl _ _ hl ZJ rfl YU ?_
  refine hK _ _ pb ?_
  clear hK K
  refine (Yg ?_:wpListS _ _ _ _ _ (_::_) _ _)
  intro K hK
  go_simp
  refine hK _ _ pb ?_
  clear hK K
  refine X0 ?_
  clear p0 p1 p2 p3 p4 p5 p6 pa pb
  go_wp2
  ((try simp only[Exit.inBlock,Exit.then]);refine ZD (Xs rfl _ _ _ _ _ _ _ rfl (ZF _ _ _ _ _ _ hl) underlying25 rfl ZJ) rfl ?_)
  exact ⟨_,rfl,⟨.mk 0 [] [] sN [] sN [] [] at_,rfl,⟨⟨_,_,_,rfl⟩,⟨_,_,_,rfl⟩⟩⟩,((gz.trans hC).trans V).setRow om _⟩
end
end Go.Proofs.YtnlafkgkcnenfaaGreatDoor
