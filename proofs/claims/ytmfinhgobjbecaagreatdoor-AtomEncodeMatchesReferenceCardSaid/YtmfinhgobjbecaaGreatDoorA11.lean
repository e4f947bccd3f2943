/- Parts of the proof: contracts and plain laws. -/
import Derived.Test.YtmfinhgobjbecaaGreatDoorA09
namespace Go.Proofs.YtmfinhgobjbecaaGreatDoor
open Go Go.RowKit _root_.Go.Proofs.Tryz
set_option linter.unusedVariables false
set_option linter.unusedSimpArgs false
set_option maxRecDepth 100000
set_option maxHeartbeats 16000000
section
attribute [local go_sem] calm1
theorem Zhs (x:Nc) (ft:Value) (sc:Scope) (w:Wq) (h:RAts w x.al x.attrs) (ff:isSl x.ks) (fl:RSc w ft sc) (N:Nat) (hN:N<=80000000000) (fD:x.name.length<=N) (fC:x.attrs.length<=N) (gr:∀a∈x.attrs,a.name.length<=N) (fI:sc.length<=4100000000000):
 Calls prog 105 #[.agg (cellsN x).toArray,ft] w λe w'=>∃v,e= .returned v/\HeadRet w.heap.size w' v x.at_ (headP x.nd sc)/\Ext w w':=by
 obtain ⟨i0,fc,fp,fq,fr⟩:=ZrE Zfd;obtain ⟨i1,gL,gP,gQ,gR⟩:=ZrE Zk9;obtain ⟨k,s,nm,al,l,ks,kids,t,at_⟩:=x;simp only[Nc.al,Nc.attrs,Nc.ks,Nc.name] at h ff fD fC gr;obtain ⟨A,c,rfl, -, -⟩:=h.form;obtain ⟨B,m,d,rfl⟩:=ff;obtain ⟨SA,fJ,rfl, -, -⟩:=fl.form;simp only[cellsN,Nc.at_];rw[Nc.nd];obtain ⟨R,hw⟩:∃R,headP (.mk k s nm l (Nc.nds kids) t at_) sc=R:=⟨_,rfl⟩;rw[hw];unfold headP at hw;simp only[Nd.name,Nd.attrs,Nd.at_] at hw;have gy:=(((Ext.refl w).alloc (.cells #[nI (k:Nat),.string (str s),.string (str nm),.slice A l.length c,.slice B m d,.string (str t),nI (at_:Nat)] 25)).alloc (.cells #[nI 0,eS,eS,sN,sN,eS,nI 0] 25)).alloc (.cells #[nI 0,eS,eS,sN,sN,eS,nI (at_:Nat)] 25);obtain ⟨W0,hZ⟩:∃W0,((w.alloc (.cells #[nI (k:Nat),.string (str s),.string (str nm),.slice A l.length c,.slice B m d,.string (str t),nI (at_:Nat)] 25)).alloc (.cells #[nI 0,eS,eS,sN,sN,eS,nI 0] 25)).alloc (.cells #[nI 0,eS,eS,sN,sN,eS,nI (at_:Nat)] 25)=W0:=⟨_,rfl⟩;have gp:BxN W0 w.heap.size k s nm (.slice A l.length c) (.slice B m d) t at_:=by rw[<-hZ];exact (((Ext.refl _).alloc _).alloc _).heap (ZqJ w _)
 have gg:BxN W0 (w.heap.size+1) 0 [] [] sN sN [] 0:=by rw[<-hZ];exact ((Ext.refl _).alloc _).heap (ZI w _ _)
 have gx:BxN W0 (w.heap.size+1+1) 0 [] [] sN sN [] at_:=by rw[<-hZ];exact Z5 w _ _ _
 have g7:w.heap.size+3<=W0.heap.size:=by rw[<-hZ,Zd,Zd,Zd];omega
 have q2:W0.cell? ⟨w.heap.size,2,none⟩=some (.string (str nm)):=gp.cells.2.2.1;rw[hZ] at gy;have hW:=λw'=>Jx (str nm) w' (by rw[Zo];omega);rw[Zg] at hW;cases hsp:splitL nm;rw[hsp] at hw hW;dsimp only at hw;subst hw;have HS:=gd hW;clear hsp hW
 rotate_left
 rename_i pq;obtain ⟨p,ln⟩:=pq;have fo:=KK hsp;rw[hsp] at hw hW;dsimp only at hw;have HS:=gd hW;clear hsp hW;by_cases gj:p=xmlnsL;rw[ZqN gj] at hw;subst hw;have fj:((str p).toList== [120,109,108,110,115])=true:=XF gj;clear gj fo
 rotate_left
 ·rw[ZqH gj] at hw;have fj:((str p).toList== [120,109,108,110,115])=false:=Yx gj;clear gj;have gY:=gd gy;have gE:=gd g7;have fw:=gd (λw' (hx:Ext w w')=>RSc.ext fl hx);go_enter func105,ntmps105
  go_wp2_with (first|(go_at_call 148;refine ZqD (HS.out _) ?_;rintro e w2 ⟨rfl,hB⟩;simp only[splitAns];have Y:=gp.ext hB;have V:=gg.ext hB;have U:=gx.ext hB;obtain ⟨b0,b1,b2,b3,b4,b5,b6⟩:=Y.cells)|(at_builtin;(have gl:=gd (Y9 (w:=w2) (base:=w2.heap.size) (e:=211) (size:=2) (n:=0) (cs:= []) (ZqE _) rfl (by decide)));refine Za _ rfl (.tmp 48) (.tmp 49) _ rfl w2.heap.size 211 i1 _ 2 32 underlying162 gL gP gQ gR rfl (by decide) _ 0 [] rfl gl.out _ sc.length (flatB sc) rfl (fw.out _ ((gY.out.trans hB).alloc _)) (Zix sc) (by unfold maxLen;omega) om ?_ ?_;(rw[Zd];omega);intro v5 w5 h7 fb g9;obtain ⟨IA,ic,rfl⟩:=Zp h7))
  clear hZ q2;have gk:Ext W0 w5:=Ext.app (hB.alloc _) fb gl.out hB.size;have gB:=gY.out.trans gk;have g5:=gp.ext gk;have g6:=gg.ext gk;have g0:=gx.ext gk;have g8:w.heap.size+3<=w5.heap.size:=ZqM gE.out gk.size;have h8:=Xy h7 (show w.heap.size+3<=w2.heap.size from ZqM gE.out hB.size);rw[Zrl] at h8;obtain ⟨D,hD⟩:∃D,declsGo l sc=D:=⟨_,rfl⟩;rw[hD] at hw;have hH:=gd hw;have gS:Hid (declsGo (l.drop 0) sc=D):=hD;clear hw hD hB Y V U b0 b1 b2 b3 b4 b5 b6 fb g9 gl h7 HS gp gg gx g7 gy fj gk;go_loopw [12,13] (λiv i wr=>∃(j:Nat) (J:Scope),j<=l.length/\i=nI j/\wr.ownsRow (w.heap.size+3) 211 2 iv J.length (flatB J)/\BxN wr w.heap.size k s nm (.slice A l.length c) (.slice B m d) t at_/\BxN wr (w.heap.size+1) 0 [] [] sN sN [] 0/\BxN wr (w.heap.size+1+1) 0 [] [] sN sN [] at_/\Ext w wr/\w.heap.size+3<=wr.heap.size/\Hid (declsGo (l.drop j) J=D)/\Hid (J.length<=sc.length+j)) (λ_ i _=>l.length - (intOf i).toNat)
  case atStart=>exact ⟨0,sc,ZqO _,rfl,by simpa using h8,g5,g6,g0,gB,g8,gS,ZqE _⟩
  case round=>
   clear g5 g6 g0 gB g8 gS h8;obtain ⟨j,J,hj,rfl,O,Y,V,U,hx,hT,hd,hn⟩:=hrel;obtain ⟨b0,b1,b2,b3,b4,b5,b6⟩:=Y.cells;obtain ⟨IA,ic,rfl⟩:=Zp O;obtain ⟨ga,hm⟩:∃g,wr.heap.size=g:=⟨_,rfl⟩;have fm:w.heap.size+3<=ga:=(by rw[<-hm];exact hT);by_cases ho:j<l.length;obtain ⟨ad,c',hv,hC⟩:=(h.ext hx).at ho;injection hv with hv1 hv2 I;subst hv1;clear hv2 I;have h6:=gr l[j] (Zq2 ho);have F:=hd.out;rw[ZqR ho,declsGo] at F;obtain ⟨x,gu⟩:∃x,l[j]=x:=⟨_,rfl⟩;rw[gu] at hC h6 F;obtain ⟨a0,a1,a2,a3⟩:=hC;have fd:(0:Int)<=(j:Int):=om;have fz:(j:Int)<(l.length:Int):=om;have hz:=λw'=>Jx (str x.name) w' (by rw[Zo];omega);rw[Zg] at hz;have hl:=λw'=>VQ x w' om;have fu:=gd h6;clear hd gu h6;cases hs1:splitL x.name
   focus
    rw[hs1,ZqN (show (none:Option (List UInt8×List UInt8)).isNone=true from rfl)] at F
    have fa:declL x.name=none:=(by unfold declL;rw[hs1])
    rw[hs1] at hz
    rw[fa] at hl
    subst F
    have he:=hH.out
    dsimp only at he
    subst he
    have HS:=gd hz
    have HD:=gd hl
    clear hs1 fa hz hl hH
    go_wp2_with (first|(go_at_call 148;refine ZqD (HS.out _) ?_;rintro e2 w2 ⟨rfl,Q⟩;simp only[splitAns];(have hc:BxA w2 ga x:=BxA.ext (by rw[<-hm];exact ZqJ wr _) Q);obtain ⟨c0,c1,c2,c3, -⟩:=hc.cells)|(go_at_call 149;refine ZqD (HD.out _) ?_;rintro e3 w3 ⟨v3,rfl,I,H⟩;obtain ⟨d3,rfl⟩:=I;have C:Ext wr w3:=(((Ext.refl wr).alloc _).trans Q).trans H;have ha:=hc.ext H;(replace Y:=Y.ext C);(replace V:=V.ext C);(replace U:=U.ext C);obtain ⟨e0,e1,e2,e3, -⟩:=ha.cells))
   rotate_left
   rename_i fH;obtain ⟨p1,q1⟩:=fH;rw[hs1,ZqH (by simp)] at F;rw[hs1] at hz;have HS:=gd hz;clear hs1 hz;cases hdl1:declL x.name
   ·rw[hdl1] at F hl;dsimp only at F;have HN:=gd F;have HD:=gd hl;clear hdl1 hl F
    go_wp2_with (first|(go_at_call 148;refine ZqD (HS.out _) ?_;rintro e2 w2 ⟨rfl,Q⟩;simp only[splitAns];(have hc:BxA w2 ga x:=BxA.ext (by rw[<-hm];exact ZqJ wr _) Q);obtain ⟨c0,c1,c2,c3, -⟩:=hc.cells)|(go_at_call 149;refine ZqD (HD.out _) ?_;rintro e3 w3 ⟨v3,rfl,I,H⟩;obtain ⟨d3,rfl⟩:=I;have C:Ext wr w3:=(((Ext.refl wr).alloc _).trans Q).trans H;have ha:=hc.ext H;(replace Y:=Y.ext C);(replace V:=V.ext C);(replace U:=U.ext C);obtain ⟨e0,e1,e2,e3, -⟩:=ha.cells))
    go_roundw
    case rel=>exact ⟨j+1,J,ho,by go_num,Zt O C,Y,V,U,hx.trans C,ZqM hT C.size,HN,(by have:=hn.out;show J.length<=sc.length+(j+1);omega)⟩
    case measure=>simp[intOf];omega
   rename_i d1;rw[hdl1] at F hl;dsimp only at F;have HD:=gd hl;clear hdl1 hl;by_cases hI:d1=xmlL
   focus
    rw[ZqN (Or.inl hI)] at F
    have g1:((str d1).toList== [120,109,108])=true:=XF hI
    subst F
    (try clear hO)
    (try clear hL)
    (try clear hA)
    (try clear hI)
    have he:=hH.out
    dsimp only at he
    subst he
    clear hH
    go_wp2_with (first|(go_at_call 148;refine ZqD (HS.out _) ?_;rintro e2 w2 ⟨rfl,Q⟩;simp only[splitAns];(have hc:BxA w2 ga x:=BxA.ext (by rw[<-hm];exact ZqJ wr _) Q);obtain ⟨c0,c1,c2,c3, -⟩:=hc.cells)|(go_at_call 149;refine ZqD (HD.out _) ?_;rintro e3 w3 ⟨v3,rfl,I,H⟩;(replace I:v3=_:=I);subst I;have C:Ext wr w3:=(((Ext.refl wr).alloc _).trans Q).trans H;have ha:=hc.ext H;(replace Y:=Y.ext C);(replace V:=V.ext C);(replace U:=U.ext C);obtain ⟨e0,e1,e2,e3, -⟩:=ha.cells))
   rotate_left
   have g1:((str d1).toList== [120,109,108])=false:=Yx hI;by_cases hA:d1=xmlnsL
   focus
    rw[ZqN (Or.inr (Or.inl hA))] at F
    have g2:((str d1).toList== [120,109,108,110,115])=true:=XF hA
    subst F
    (try clear hO)
    (try clear hL)
    (try clear hA)
    (try clear hI)
    have he:=hH.out
    dsimp only at he
    subst he
    clear hH
    go_wp2_with (first|(go_at_call 148;refine ZqD (HS.out _) ?_;rintro e2 w2 ⟨rfl,Q⟩;simp only[splitAns];(have hc:BxA w2 ga x:=BxA.ext (by rw[<-hm];exact ZqJ wr _) Q);obtain ⟨c0,c1,c2,c3, -⟩:=hc.cells)|(go_at_call 149;refine ZqD (HD.out _) ?_;rintro e3 w3 ⟨v3,rfl,I,H⟩;(replace I:v3=_:=I);subst I;have C:Ext wr w3:=(((Ext.refl wr).alloc _).trans Q).trans H;have ha:=hc.ext H;(replace Y:=Y.ext C);(replace V:=V.ext C);(replace U:=U.ext C);obtain ⟨e0,e1,e2,e3, -⟩:=ha.cells))
   rotate_left
   have g2:((str d1).toList== [120,109,108,110,115])=false:=Yx hA;by_cases hL:d1= []
   ·rw[ZqH (by rintro (h1|h1|h1);exact hI h1;exact hA h1;exact h1.1 hL)] at F;have g3:(str d1).toList.isEmpty=true:=(by rw[hL];exact Xh);have HN:=gd F;(try clear hO);(try clear hL);(try clear hA);(try clear hI);have hV:=gd (show J.length+1<=maxLen by have:=hn.out;unfold maxLen;omega);have hU:=gd (show (J.length+1)*32<=140737488355328 by have:=hn.out;omega);clear F
    go_wp2_with (first|(go_at_call 148;refine ZqD (HS.out _) ?_;rintro e2 w2 ⟨rfl,Q⟩;simp only[splitAns];(have hc:BxA w2 ga x:=BxA.ext (by rw[<-hm];exact ZqJ wr _) Q);obtain ⟨c0,c1,c2,c3, -⟩:=hc.cells)|(go_at_call 149;refine ZqD (HD.out _) ?_;rintro e3 w3 ⟨v3,rfl,I,H⟩;(replace I:v3=_:=I);subst I;have C:Ext wr w3:=(((Ext.refl wr).alloc _).trans Q).trans H;have ha:=hc.ext H;(replace Y:=Y.ext C);(replace V:=V.ext C);(replace U:=U.ext C);obtain ⟨e0,e1,e2,e3, -⟩:=ha.cells)|(at_builtin;refine Za _ rfl (.tmp 101) (.tmp 106) _ rfl (w.heap.size+3) 211 i1 _ 2 32 underlying162 gL gP gQ gR rfl (by decide) _ _ _ rfl ((Zt O C).alloc _) _ 1 (cellsB (d1,x.value)) rfl (Zj rfl (by decide)) (Kf _) hV.out hU.out ?_ ?_;(rw[Zd];have:=C.size;omega);intro v9 w9 hf Z gq))
    go_roundw
    case rel=>
     have hp:=Yw (Zt O C);have hh:=(Ext.refl w3).alloc (.cells (cellsB (d1,x.value)).toArray 211);refine ⟨j+1,J++ [(d1,x.value)],ho,by go_num,?_,(Y.ext hh).grown Z (λe=>by have:=hp _ e;omega),(V.ext hh).grown Z (λe=>by have:=hp _ e;omega),(U.ext hh).grown Z (λe=>by have:=hp _ e;omega),Ext.app ((hx.trans C).trans hh) Z ((Zt O C).alloc _) om,?_,HN,?_⟩
     ·rw[Zd7,Zd8,ZqG];exact hf
     ·have h1:=Z.size;have h2:=C.size;rw[Zd] at h1;omega
     ·rw[ZqG];have:=hn.out;show _+1<=_;omega
    case measure=>simp[intOf];omega
   have g3:=JX hL;by_cases hO:x.value= []
   focus
    rw[ZqN (Or.inr (Or.inr ⟨hL,hO⟩))] at F
    have g4:(str x.value).toList.isEmpty=true:=(by rw[hO];exact Xh)
    subst F
    (try clear hO)
    (try clear hL)
    (try clear hA)
    (try clear hI)
    have he:=hH.out
    dsimp only at he
    subst he
    clear hH
    go_wp2_with (first|(go_at_call 148;refine ZqD (HS.out _) ?_;rintro e2 w2 ⟨rfl,Q⟩;simp only[splitAns];(have hc:BxA w2 ga x:=BxA.ext (by rw[<-hm];exact ZqJ wr _) Q);obtain ⟨c0,c1,c2,c3, -⟩:=hc.cells)|(go_at_call 149;refine ZqD (HD.out _) ?_;rintro e3 w3 ⟨v3,rfl,I,H⟩;(replace I:v3=_:=I);subst I;have C:Ext wr w3:=(((Ext.refl wr).alloc _).trans Q).trans H;have ha:=hc.ext H;(replace Y:=Y.ext C);(replace V:=V.ext C);(replace U:=U.ext C);obtain ⟨e0,e1,e2,e3, -⟩:=ha.cells))
   rotate_left
   ·rw[ZqH (by rintro (h1|h1|h1);exact hI h1;exact hA h1;exact hO h1.2)] at F;have g4:=JX hO;have HN:=gd F;(try clear hO);(try clear hL);(try clear hA);(try clear hI);have hV:=gd (show J.length+1<=maxLen by have:=hn.out;unfold maxLen;omega);have hU:=gd (show (J.length+1)*32<=140737488355328 by have:=hn.out;omega);clear F
    go_wp2_with (first|(go_at_call 148;refine ZqD (HS.out _) ?_;rintro e2 w2 ⟨rfl,Q⟩;simp only[splitAns];(have hc:BxA w2 ga x:=BxA.ext (by rw[<-hm];exact ZqJ wr _) Q);obtain ⟨c0,c1,c2,c3, -⟩:=hc.cells)|(go_at_call 149;refine ZqD (HD.out _) ?_;rintro e3 w3 ⟨v3,rfl,I,H⟩;(replace I:v3=_:=I);subst I;have C:Ext wr w3:=(((Ext.refl wr).alloc _).trans Q).trans H;have ha:=hc.ext H;(replace Y:=Y.ext C);(replace V:=V.ext C);(replace U:=U.ext C);obtain ⟨e0,e1,e2,e3, -⟩:=ha.cells)|(at_builtin;refine Za _ rfl (.tmp 101) (.tmp 106) _ rfl (w.heap.size+3) 211 i1 _ 2 32 underlying162 gL gP gQ gR rfl (by decide) _ _ _ rfl ((Zt O C).alloc _) _ 1 (cellsB (d1,x.value)) rfl (Zj rfl (by decide)) (Kf _) hV.out hU.out ?_ ?_;(rw[Zd];have:=C.size;omega);intro v9 w9 hf Z gq))
    go_roundw
    case rel=>
     have hp:=Yw (Zt O C);have hh:=(Ext.refl w3).alloc (.cells (cellsB (d1,x.value)).toArray 211);refine ⟨j+1,J++ [(d1,x.value)],ho,by go_num,?_,(Y.ext hh).grown Z (λe=>by have:=hp _ e;omega),(V.ext hh).grown Z (λe=>by have:=hp _ e;omega),(U.ext hh).grown Z (λe=>by have:=hp _ e;omega),Ext.app ((hx.trans C).trans hh) Z ((Zt O C).alloc _) om,?_,HN,?_⟩
     ·rw[Zd7,Zd8,ZqG];exact hf
     ·have h1:=Z.size;have h2:=C.size;rw[Zd] at h1;omega
     ·rw[ZqG];have:=hn.out;show _+1<=_;omega
    case measure=>simp[intOf];omega
   ·have gM:j=l.length:=om;subst gM;have F:=hd.out;rw[Zq3 (ZqE _),declsGo] at F;subst F;have he:=hH.out;dsimp only at he;have fe:=hn.out;have gh:=λw' (hr:RSc w' (.slice IA J.length ic) J)=>GQ (.slice IA J.length ic) J p w' hr om;have go:=U.name ln;have gI:BxN (wr.setCell ⟨w.heap.size+1+1,2,none⟩ (.string (str ln))) (w.heap.size+1) 0 [] [] sN sN [] 0:=V.other om;have gH:BxN (wr.setCell ⟨w.heap.size+1+1,2,none⟩ (.string (str ln))) w.heap.size k s nm (.slice A l.length c) (.slice B m d) t at_:=Y.other om;have h9:=Ye O (g:=w.heap.size+1+1) om 2 (.string (str ln));have gO:Ext w (wr.setCell ⟨w.heap.size+1+1,2,none⟩ (.string (str ln))):=hx.setCell (by show _<=w.heap.size+1+1;omega) _;have fn:(wr.setCell ⟨w.heap.size+1+1,2,none⟩ (.string (str ln))).heap.size=wr.heap.size:=(by simp[World.setCell]);obtain ⟨m0,m1,m2,m3,m4,m5,m6⟩:=U.cells;obtain ⟨f1,f2,f3,f4⟩:=U.frozen;obtain ⟨n0,n1,n2,n3,n4,n5,n6⟩:=go.cells;obtain ⟨z1,z2,z3,z4⟩:=go.frozen;have gV:=gd hn;have fx:=gd fn;have gz:=gd h9;have gD:Hid (RSc (wr.setCell ⟨w.heap.size+1+1,2,none⟩ (.string (str ln))) (.slice IA J.length ic) J):=RSl.of_own h9;clear hd fe hn hH hm fn h9 O V Y hx ho;cases hlk:lookL J p with
    |none=>
     rw[hlk] at he gh;dsimp only at he;subst he;have HL:=gd gh;clear gh hlk
     go_wp2_with (first|(go_at_call 150;refine ZqD (HL.out _ gD.out) ?_;rintro e4 w4 ⟨rfl,h4⟩;simp only[lookAns];have hX:=h4.symm;clear h4;subst hX))
     have U:=go.space [];have V:BxN ((wr.setCell ⟨w.heap.size+1+1,2,none⟩ (.string (str ln))).setCell ⟨w.heap.size+1+1,1,none⟩ (.string (str []))) (w.heap.size+1) 0 [] [] sN sN [] 0:=gI.other om;have Y:BxN ((wr.setCell ⟨w.heap.size+1+1,2,none⟩ (.string (str ln))).setCell ⟨w.heap.size+1+1,1,none⟩ (.string (str []))) w.heap.size k s nm (.slice A l.length c) (.slice B m d) t at_:=gH.other om;have hx:Ext w ((wr.setCell ⟨w.heap.size+1+1,2,none⟩ (.string (str ln))).setCell ⟨w.heap.size+1+1,1,none⟩ (.string (str []))):=gO.setCell (by show _<=w.heap.size+1+1;omega) _;obtain ⟨W9,h3⟩:∃W9,(wr.setCell ⟨w.heap.size+1+1,2,none⟩ (.string (str ln))).setCell ⟨w.heap.size+1+1,1,none⟩ (.string (str []))=W9:=⟨_,rfl⟩;rw[h3] at U V Y hx;(try rw[h3]);have y6:=Y.cells.2.2.2.2.2.2;clear h3 m0 m1 m2 m3 m4 m5 m6 n0 n1 n2 n3 n4 n5 n6 f1 f2 f3 f4 z1 z2 z3 z4;have S:=(Ext.refl W9).drew;have hk:=BxN.ext V S;obtain ⟨p0,p1,p2,p3,p4,p5,p6⟩:=(BxN.ext U S).cells;have pa:=S.cell y6;have hF:w.heap.size≠w.heap.size+1:=om;have pb:=(Zrs (a:=⟨w.heap.size,6,none⟩) (Zrn W9.drew (w.heap.size+1) (w.heap.size) #[nI ((0:Nat):Int),.string (str []),.string (str ln),sN,sN,.string (str []),nI (at_:Nat)] hF)).trans pa;refine rN ?_;change wpAny _ _ _ _ _ _ _ (World.drew _);refine tH 1 (.pointer (some ⟨w.heap.size,6,none⟩)) ?_;refine Yn (i:=2) (v:=nI (at_:Nat)) (λw'=>w'.cell? ⟨w.heap.size,6,none⟩=some (nI (at_:Nat))) 5 rfl (by kernel_rfl) (λ_ _ _ h=>h) (Or.inl ⟨by rfl,λw' hS=>by have hq:w'.cell? ⟨w.heap.size,6,none⟩=some (nI (at_:Nat)):=hS;go_simp⟩) pa ?_;go_simp;refine YZ 5 [6] (AtIx.cons rfl (AtIx.cons rfl AtIx.nil)) [0,3,4] (AtIx.cons rfl (AtIx.cons rfl (AtIx.cons rfl AtIx.nil))) rfl (by kernel_rfl) ?_;refine (Zq ?_:wpListS _ _ _ _ _ (_::_) _ _);intro K hK;go_simp;refine hK _ _ pa ?_;clear hK K;refine (Zq ?_:wpListS _ _ _ _ _ (_::_) _ _);intro K hK;refine Zu rfl 25 (.tmp 4) (.tmp 119) rfl (w.heap.size+1) _ rfl rfl _ _ hk Ze rfl Zz ?_;refine hK _ _ pb ?_;clear hK K;refine (Zq ?_:wpListS _ _ _ _ _ (_::_) _ _);intro K hK;go_simp;refine hK _ _ pb ?_;clear hK K;refine YJ ?_;clear p0 p1 p2 p3 p4 p5 p6 pa pb;go_wp2;((try simp only[Exit.inBlock,Exit.then]);refine ZqT (Z3 rfl _ _ _ _ _ _ _ rfl (ZqV _ _ _ _ _ _ hk) underlying25 rfl Ze) rfl ?_);exact ⟨_,rfl,⟨.mk 0 [] ln sN [] sN [] [] at_,rfl,⟨⟨_,_,_,rfl⟩,⟨_,_,_,rfl⟩⟩⟩,((hx).trans S).setRow om _⟩
    |some sp=>
     rw[hlk] at he gh;dsimp only at he;have gX:=gd he;have HL:=gd gh;have fv:=gd (λw' q (hr:RSc w' (.slice IA J.length ic) J)=>GQ (.slice IA J.length ic) J q w' hr (by have:=gV.out.out;omega));clear gh hlk he
     go_wp2_with (first|(go_at_call 150;refine ZqD (HL.out _ gD.out) ?_;rintro e4 w4 ⟨rfl,h4⟩;simp only[lookAns];have hX:=h4.symm;clear h4;subst hX))
     have U:=go.space sp;have V:BxN ((wr.setCell ⟨w.heap.size+1+1,2,none⟩ (.string (str ln))).setCell ⟨w.heap.size+1+1,1,none⟩ (.string (str sp))) (w.heap.size+1) 0 [] [] sN sN [] 0:=gI.other om;have Y:BxN ((wr.setCell ⟨w.heap.size+1+1,2,none⟩ (.string (str ln))).setCell ⟨w.heap.size+1+1,1,none⟩ (.string (str sp))) w.heap.size k s nm (.slice A l.length c) (.slice B m d) t at_:=gH.other om;have hx:Ext w ((wr.setCell ⟨w.heap.size+1+1,2,none⟩ (.string (str ln))).setCell ⟨w.heap.size+1+1,1,none⟩ (.string (str sp))):=gO.setCell (by show _<=w.heap.size+1+1;omega) _;have O:=Ye gz.out (g:=w.heap.size+1+1) om 1 (.string (str sp));have fk:w.heap.size+3<=((wr.setCell ⟨w.heap.size+1+1,2,none⟩ (.string (str ln))).setCell ⟨w.heap.size+1+1,1,none⟩ (.string (str sp))).heap.size:=(by simpa [World.setCell] using hT);obtain ⟨W9,h3⟩:∃W9,(wr.setCell ⟨w.heap.size+1+1,2,none⟩ (.string (str ln))).setCell ⟨w.heap.size+1+1,1,none⟩ (.string (str sp))=W9:=⟨_,rfl⟩;rw[h3] at U V Y hx O fk;(try rw[h3]);clear h3 m0 m1 m2 m3 m4 m5 m6 n0 n1 n2 n3 n4 n5 n6 f1 f2 f3 f4 z1 z2 z3 z4 b0 b1 b2 b3 b4 b5 b6 go gI gH gO HL;obtain ⟨G,hG⟩:∃G,attrsGo J l []=G:=⟨_,rfl⟩;have hs:=gX.out;rw[hG] at hs;have HG:=gd hs;have gT:Hid (attrsGo J (l.drop 0) []=G):=hG;have gJ:∀g,(Value.slice IA J.length ic).ownBlock=some g->g<W9.heap.size:=λg hg=>(O.lt g hg).2;obtain ⟨B2,gZ⟩:∃B2,W9.heap.size=B2:=⟨_,rfl⟩;rw[gZ] at gJ fk;have gU:=gd gJ;have hA:B2<=W9.heap.size:=om;clear hs hG gX gJ gZ gD gz fx fm ga hT gE gV;go_loopw [20] (λi wr=>∃(j:Nat) (out:List AtP) (av:Value),j<=l.length/\i=nI j/\wr.ownsRow B2 53 4 av out.length (flatA out)/\wr.ownsRow (w.heap.size+3) 211 2 (.slice IA J.length ic) J.length (flatB J)/\BxN wr w.heap.size k s nm (.slice A l.length c) (.slice B m d) t at_/\BxN wr (w.heap.size+1) 0 [] [] sN sN [] 0/\BxN wr (w.heap.size+1+1) 0 sp ln av sN [] at_/\Ext w wr/\B2<=wr.heap.size/\Hid (attrsGo J (l.drop j) out=G)/\Hid (out.length<=j)) (λi _=>l.length - (intOf i).toNat)
     case atStart=>exact ⟨0,[],sN,ZqO _,rfl,Zrt _ _ _ _,O,Y,V,U,hx,hA,gT,ZqO _⟩
     case round=>
      clear Y V U hx O gT hA;obtain ⟨j,out,av,hj,rfl,O,gs,Y,V,U,hx,hT,hd,hn⟩:=hrel;obtain ⟨b0,b1,b2,b3,b4,b5,b6⟩:=Y.cells;obtain ⟨QA,qc,rfl⟩:=Zp O;obtain ⟨ga,hm⟩:∃g,wr.heap.size=g:=⟨_,rfl⟩;have fm:w.heap.size+3<=ga:=(by rw[<-hm];omega);by_cases ho:j<l.length
      ·obtain ⟨ad,c',hv,hC⟩:=(h.ext hx).at ho;injection hv with hv1 hv2 I;subst hv1;clear hv2 I;have h6:=gr l[j] (Zq2 ho);have F:=hd.out;rw[ZqR ho,attrsGo] at F;obtain ⟨x,gu⟩:∃x,l[j]=x:=⟨_,rfl⟩;rw[gu] at hC h6 F;obtain ⟨a0,a1,a2,a3⟩:=hC;have fd:(0:Int)<=(j:Int):=om;have fz:(j:Int)<(l.length:Int):=om;have fi:out.length<=80000000000:=(by have:=hn.out;omega);have gW:=gd fi;have hz:=λw'=>Jx (str x.name) w' (by rw[Zo];omega);rw[Zg] at hz;have hl:=λw'=>VQ x w' om;have fu:=gd h6;have gA:Hid (∀w',Ext wr w'->RSc w' (.slice IA J.length ic) J):=λw' fG=>RSc.ext (RSl.of_own gs) fG;clear hd gu h6 fi;cases hdl1:declL x.name with
       |some d1=>
        rw[hdl1,ZqN (show (some d1).isSome=true from rfl)] at F;rw[hdl1] at hl;have HN:=gd F;have HD:=gd hl;clear hdl1 hl F hz
        go_wp2_with (first|(go_at_call 149;refine ZqD (HD.out _) ?_;rintro e3 w3 ⟨v3,rfl,I,H⟩;(replace I:v3=_:=I);subst I;have C:Ext wr w3:=((Ext.refl wr).alloc _).trans H;(have ha:BxA w3 ga x:=BxA.ext (by rw[<-hm];exact ZqJ wr _) H);(replace Y:=Y.ext C);(replace V:=V.ext C);(replace U:=U.ext C);obtain ⟨e0,e1,e2,e3, -⟩:=ha.cells))
        go_roundw
        case rel=>exact ⟨j+1,out,_,ho,by go_num,Zt O C,Zt gs C,Y,V,U,hx.trans C,ZqM hT C.size,HN,(by have:=hn.out;show out.length<=j+1;omega)⟩
        case measure=>simp[intOf];omega
       |none=>
        rw[hdl1,ZqH (by simp)] at F;rw[hdl1] at hl;have HD:=gd hl;dsimp only at F;obtain ⟨bq,gN⟩:=ZdE x.name;obtain ⟨q,hq⟩:∃q,((splitL x.name).getD ([],[])).1=q:=⟨_,rfl⟩;obtain ⟨lc,fg⟩:∃lc,((splitL x.name).getD ([],[])).2=lc:=⟨_,rfl⟩;rw[hq,fg] at F gN;rw[gN] at hz;have HS:=gd hz;clear hq fg gN hz hl hdl1;by_cases gb:q= []
        ·rw[ZqN gb] at F;dsimp only at F;have g1:(str q).toList.isEmpty=true:=(by rw[gb];exact Xh);have HQ:=gd F;clear F gb
         go_wp2_with (first|(go_at_call 149;refine ZqD (HD.out _) ?_;rintro e3 w3 ⟨v3,rfl,I,H⟩;obtain ⟨d3,rfl⟩:=I;have C:Ext wr w3:=((Ext.refl wr).alloc _).trans H;(have ha:BxA w3 ga x:=BxA.ext (by rw[<-hm];exact ZqJ wr _) H);(replace Y:=Y.ext C);(replace V:=V.ext C);(replace U:=U.ext C);obtain ⟨e0,e1,e2,e3, -⟩:=ha.cells)|(go_at_call 148;refine ZqD (HS.out _) ?_;rintro e4 w4 ⟨rfl,X⟩;have hu:Ext wr w4:=C.trans X;have gn:=ha.ext X;(replace Y:=Y.ext X);(replace V:=V.ext X);(replace U:=U.ext X);obtain ⟨k0,k1,k2,k3, -⟩:=gn.cells))
         have hb:=Zt O hu;have gt:=Zt gs hu;have fF:B2<=w4.heap.size:=ZqM hT hu.size;go_loopw [28] (λv wr=>∃i:Nat,i<=out.length/\v=nI i/\Hid (∀t,t<i->∀ht:t<out.length,(out[t].space== [] && out[t].name==lc)=false)/\wr=w4) (λv _=>out.length - (intOf v).toNat)
         case atStart=>exact ⟨0,ZqO _,rfl,(by intro t ht;omega),rfl⟩
         case round=>
          obtain ⟨i,hi,rfl,hQ,h4⟩:=hrel;have hX:=h4.symm;clear h4;subst hX;have fE:=gW.out;obtain ⟨m0,m1,m2,m3,m4,m5,m6⟩:=U.cells;clear a0 a1 a2 a3 b0 b1 b2 b3 b4 b5 b6;by_cases hE:i<out.length
          ·obtain ⟨gm,fy,hv,hC⟩:=RAts.at (RSl.of_own hb) hE;injection hv with hv1 hv2 I;subst hv1;clear hv2 I;have fA:(0:Int)<=(i:Int):=om;have fB:(i:Int)<(out.length:Int):=om;obtain ⟨y,gf⟩:∃y,out[i]=y:=⟨_,rfl⟩;rw[gf] at hC;obtain ⟨y0,y1, -, -⟩:=hC;have hJ:=gd gf;clear gf;cases q1:(str y.space).toList.isEmpty with
           |true=>
            cases q2:((str y.name).toList==(str lc).toList) with
            |true=>
             have gG:G= .error (x.at_,10):=by
              have h0:=HQ.out;rw[ZqN ?_] at h0
              ·exact h0.symm
              ·rw[Zsc];refine ⟨y,by rw[<-hJ.out];exact Zq2 hE,?_⟩;rw[Z8] at q2;rw[Zpa q1,q2];rfl
             subst gG;have hs:=HG.out;dsimp only at hs;subst hs;clear HG HQ hJ;go_wp2;have S:=(Ext.refl w4).drew;have hk:=BxN.ext V S;obtain ⟨p0,p1,p2,p3,p4,p5,p6⟩:=(BxN.ext U S).cells;have pa:=S.cell k3;have hF:ga≠w.heap.size+1:=om;have pb:=(Zrs (a:=⟨ga,3,none⟩) (Zrn w4.drew (w.heap.size+1) (ga) #[nI ((0:Nat):Int),.string (str sp),.string (str ln),.slice (some gm) out.length qc,sN,.string (str []),nI (at_:Nat)] hF)).trans pa;refine rN ?_;change wpAny _ _ _ _ _ _ _ (World.drew _);refine tH 1 (.pointer (some ⟨ga,3,none⟩)) ?_;refine Yn (i:=2) (v:=nI (x.at_:Nat)) (λw'=>w'.cell? ⟨ga,3,none⟩=some (nI (x.at_:Nat))) 5 rfl (by kernel_rfl) (λ_ _ _ h=>h) (Or.inl ⟨by rfl,λw' hS=>by have hq:w'.cell? ⟨ga,3,none⟩=some (nI (x.at_:Nat)):=hS;go_simp⟩) pa ?_;go_simp;refine YZ 5 [6] (AtIx.cons rfl (AtIx.cons rfl AtIx.nil)) [0,3,4] (AtIx.cons rfl (AtIx.cons rfl (AtIx.cons rfl AtIx.nil))) rfl (by kernel_rfl) ?_;refine (Zq ?_:wpListS _ _ _ _ _ (_::_) _ _);intro K hK;go_simp;refine hK _ _ pa ?_;clear hK K;refine (Zq ?_:wpListS _ _ _ _ _ (_::_) _ _);intro K hK;refine Zu rfl 25 (.tmp 4) (.tmp 185) rfl (w.heap.size+1) _ rfl rfl _ _ hk Ze rfl Zz ?_;refine hK _ _ pb ?_;clear hK K;refine (Zq ?_:wpListS _ _ _ _ _ (_::_) _ _);intro K hK;go_simp;refine hK _ _ pb ?_;clear hK K;refine YJ ?_;clear p0 p1 p2 p3 p4 p5 p6 pa pb;go_wp2;((try simp only[Exit.inBlock,Exit.then]);refine ZqT (Z3 rfl _ _ _ _ _ _ _ rfl (ZqV _ _ _ _ _ _ hk) underlying25 rfl Ze) rfl ?_);exact ⟨_,rfl,⟨.mk 0 sp ln (.slice (some gm) out.length qc) [] sN [] [] at_,rfl,⟨⟨_,_,_,rfl⟩,⟨_,_,_,rfl⟩⟩⟩,((hx.trans hu).trans S).setRow om _⟩
            |false=>
             go_wp2;go_roundw
             case rel=>
              refine ⟨i+1,om,by go_num,?_,by trivial⟩;intro t ht ge;by_cases gc:t<i
              ·exact hQ.out t gc ge
              ·have:t=i:=om;subst this;rw[Z8] at q2;rw[hJ.out,q2,Bool.and_false]
             case measure=>simp[intOf];omega
           |false=>
            go_wp2;go_roundw
            case rel=>
             refine ⟨i+1,om,by go_num,?_,by trivial⟩;intro t ht ge;by_cases gc:t<i
             ·exact hQ.out t gc ge
             ·have:t=i:=om;subst this;rw[hJ.out,Zn3 q1,ZrA]
            case measure=>simp[intOf];omega
          ·have gK:i=out.length:=om;have fh:¬(i:Int)<(out.length:Int):=om;have HN:Hid (attrsGo J (l.drop (j+1)) (out++ [⟨[],lc,x.value,x.at_⟩])=G):=by
            have h0:=HQ.out;rw[ZqH ?_] at h0
            ·exact h0
            ·intro h;obtain ⟨y,hy,gw⟩:=Zsc.1 h;obtain ⟨t,ht,rfl⟩:=List.getElem_of_mem hy;rw[hQ.out t om ht] at gw;cases gw
           have hV:=gd (show out.length+1<=maxLen by unfold maxLen;omega);have hU:=gd (show (out.length+1)*56<=140737488355328 by omega);have hp:=Yw hb;have hh:=(Ext.refl w4).alloc (.cells (cellsA ⟨[],lc,x.value,x.at_⟩).toArray 53);subst gK;clear HQ hQ hE hi
           go_wp2_with (first|(at_builtin;refine Za _ rfl (.tmp 189) (.tmp 197) _ rfl B2 53 i0 _ 4 56 underlying22 fc fp fq fr rfl (by decide) _ _ _ rfl (hb.alloc _) _ 1 (cellsA ⟨[],lc,x.value,x.at_⟩) rfl (Zj rfl (by decide)) (XM _) hV.out hU.out ?_ ?_;(rw[Zd];omega);intro v9 w9 hf Z gq;obtain ⟨A9,c9,rfl⟩:=Zp hf;(have hY:=(U.ext hh).grown Z (λe=>by have:=hp _ e;omega));obtain ⟨n0,n1,n2,n3,n4,n5,n6⟩:=hY.cells;obtain ⟨z1,z2,z3,z4⟩:=hY.frozen))
           go_roundw
           case rel=>
            refine ⟨j+1,out++ [⟨[],lc,x.value,x.at_⟩],_,ho,by go_num,?_,Ye (Zev (gt.alloc _) (hb.alloc _) gU.out Z) om _ _,((Y.ext hh).grown Z (λe=>by have:=hp _ e;omega)).other om,((V.ext hh).grown Z (λe=>by have:=hp _ e;omega)).other om,hY.attrs _,(Ext.app ((hx.trans hu).trans hh) Z (hb.alloc _) om).setCell (by show _<=w.heap.size+1+1;omega) _,?_,HN,?_⟩
            ·rw[QT,QV,ZqG];exact Ye hf om _ _
            ·have h1:=Z.size;rw[Zd] at h1;show _<=(w9.setCell ⟨w.heap.size+1+1,3,none⟩ (.slice A9 (out.length+1) c9)).heap.size;rw[show (w9.setCell ⟨w.heap.size+1+1,3,none⟩ (.slice A9 (out.length+1) c9)).heap.size=w9.heap.size by simp[World.setCell]];omega
            ·rw[ZqG];have:=hn.out;show _+1<=_;omega
           case measure=>simp[intOf];omega
        ·rw[ZqH gb] at F;have g1:=JX gb;have gi:=λw' hr=>fv.out w' q hr;cases hlk:lookL J q with
         |none=>
          rw[hlk] at F gi;dsimp only at F;subst F;have hs:=HG.out;dsimp only at hs;subst hs;have gC:=gd gi;clear gi hlk gb HG
          go_wp2_with (first|(go_at_call 149;refine ZqD (HD.out _) ?_;rintro e3 w3 ⟨v3,rfl,I,H⟩;obtain ⟨d3,rfl⟩:=I;have C:Ext wr w3:=((Ext.refl wr).alloc _).trans H;(have ha:BxA w3 ga x:=BxA.ext (by rw[<-hm];exact ZqJ wr _) H);(replace Y:=Y.ext C);(replace V:=V.ext C);(replace U:=U.ext C);obtain ⟨e0,e1,e2,e3, -⟩:=ha.cells)|(go_at_call 148;refine ZqD (HS.out _) ?_;rintro e4 w4 ⟨rfl,X⟩;have hu:Ext wr w4:=C.trans X;have gn:=ha.ext X;(replace Y:=Y.ext X);(replace V:=V.ext X);(replace U:=U.ext X);obtain ⟨k0,k1,k2,k3, -⟩:=gn.cells)|(go_at_call 150;refine ZqD (gC.out _ (gA.out _ hu)) ?_;rintro e5 w5 ⟨rfl,h5⟩;simp only[lookAns];have gF:=h5.symm;clear h5;subst gF))
          have S:=(Ext.refl w4).drew;have hk:=BxN.ext V S;obtain ⟨p0,p1,p2,p3,p4,p5,p6⟩:=(BxN.ext U S).cells;have pa:=S.cell k3;have hF:ga≠w.heap.size+1:=om;have pb:=(Zrs (a:=⟨ga,3,none⟩) (Zrn w4.drew (w.heap.size+1) (ga) #[nI ((0:Nat):Int),.string (str sp),.string (str ln),.slice QA out.length qc,sN,.string (str []),nI (at_:Nat)] hF)).trans pa;refine rN ?_;change wpAny _ _ _ _ _ _ _ (World.drew _);refine tH 1 (.pointer (some ⟨ga,3,none⟩)) ?_;refine Yn (i:=2) (v:=nI (x.at_:Nat)) (λw'=>w'.cell? ⟨ga,3,none⟩=some (nI (x.at_:Nat))) 5 rfl (by kernel_rfl) (λ_ _ _ h=>h) (Or.inl ⟨by rfl,λw' hS=>by have hq:w'.cell? ⟨ga,3,none⟩=some (nI (x.at_:Nat)):=hS;go_simp⟩) pa ?_;go_simp;refine YZ 5 [6] (AtIx.cons rfl (AtIx.cons rfl AtIx.nil)) [0,3,4] (AtIx.cons rfl (AtIx.cons rfl (AtIx.cons rfl AtIx.nil))) rfl (by kernel_rfl) ?_;refine (Zq ?_:wpListS _ _ _ _ _ (_::_) _ _);intro K hK;go_simp;refine hK _ _ pa ?_;clear hK K;refine (Zq ?_:wpListS _ _ _ _ _ (_::_) _ _);intro K hK;refine Zu rfl 25 (.tmp 4) (.tmp 157) rfl (w.heap.size+1) _ rfl rfl _ _ hk Ze rfl Zz ?_;refine hK _ _ pb ?_;clear hK K;refine (Zq ?_:wpListS _ _ _ _ _ (_::_) _ _);intro K hK;go_simp;refine hK _ _ pb ?_;clear hK K;refine YJ ?_;clear p0 p1 p2 p3 p4 p5 p6 pa pb;go_wp2;((try simp only[Exit.inBlock,Exit.then]);refine ZqT (Z3 rfl _ _ _ _ _ _ _ rfl (ZqV _ _ _ _ _ _ hk) underlying25 rfl Ze) rfl ?_);exact ⟨_,rfl,⟨.mk 0 sp ln (.slice QA out.length qc) [] sN [] [] at_,rfl,⟨⟨_,_,_,rfl⟩,⟨_,_,_,rfl⟩⟩⟩,((hx.trans hu).trans S).setRow om _⟩
         |some spc=>
          rw[hlk] at F gi;dsimp only at F;have gC:=gd gi;have HQ:=gd F;clear gi hlk gb F
          go_wp2_with (first|(go_at_call 149;refine ZqD (HD.out _) ?_;rintro e3 w3 ⟨v3,rfl,I,H⟩;obtain ⟨d3,rfl⟩:=I;have C:Ext wr w3:=((Ext.refl wr).alloc _).trans H;(have ha:BxA w3 ga x:=BxA.ext (by rw[<-hm];exact ZqJ wr _) H);(replace Y:=Y.ext C);(replace V:=V.ext C);(replace U:=U.ext C);obtain ⟨e0,e1,e2,e3, -⟩:=ha.cells)|(go_at_call 148;refine ZqD (HS.out _) ?_;rintro e4 w4 ⟨rfl,X⟩;have hu:Ext wr w4:=C.trans X;have gn:=ha.ext X;(replace Y:=Y.ext X);(replace V:=V.ext X);(replace U:=U.ext X);obtain ⟨k0,k1,k2,k3, -⟩:=gn.cells)|(go_at_call 150;refine ZqD (gC.out _ (gA.out _ hu)) ?_;rintro e5 w5 ⟨rfl,h5⟩;simp only[lookAns];have gF:=h5.symm;clear h5;subst gF))
          have hb:=Zt O hu;have gt:=Zt gs hu;have fF:B2<=w4.heap.size:=ZqM hT hu.size;go_loopw [28] (λv wr=>∃i:Nat,i<=out.length/\v=nI i/\Hid (∀t,t<i->∀ht:t<out.length,(out[t].space==spc && out[t].name==lc)=false)/\wr=w4) (λv _=>out.length - (intOf v).toNat)
          case atStart=>exact ⟨0,ZqO _,rfl,(by intro t ht;omega),rfl⟩
          case round=>
           obtain ⟨i,hi,rfl,hQ,h4⟩:=hrel;have hX:=h4.symm;clear h4;subst hX;have fE:=gW.out;obtain ⟨m0,m1,m2,m3,m4,m5,m6⟩:=U.cells;clear a0 a1 a2 a3 b0 b1 b2 b3 b4 b5 b6;by_cases hE:i<out.length
           ·obtain ⟨gm,fy,hv,hC⟩:=RAts.at (RSl.of_own hb) hE;injection hv with hv1 hv2 I;subst hv1;clear hv2 I;have fA:(0:Int)<=(i:Int):=om;have fB:(i:Int)<(out.length:Int):=om;obtain ⟨y,gf⟩:∃y,out[i]=y:=⟨_,rfl⟩;rw[gf] at hC;obtain ⟨y0,y1, -, -⟩:=hC;have hJ:=gd gf;clear gf;cases q1:((str y.space).toList==(str spc).toList) with
            |true=>
             cases q2:((str y.name).toList==(str lc).toList) with
             |true=>
              have gG:G= .error (x.at_,10):=by
               have h0:=HQ.out;rw[ZqN ?_] at h0
               ·exact h0.symm
               ·rw[Zsc];refine ⟨y,by rw[<-hJ.out];exact Zq2 hE,?_⟩;rw[Z8] at q2;rw[(Z8 y.space spc).symm.trans q1,q2];rfl
              subst gG;have hs:=HG.out;dsimp only at hs;subst hs;clear HG HQ hJ;go_wp2;have S:=(Ext.refl w4).drew;have hk:=BxN.ext V S;obtain ⟨p0,p1,p2,p3,p4,p5,p6⟩:=(BxN.ext U S).cells;have pa:=S.cell k3;have hF:ga≠w.heap.size+1:=om;have pb:=(Zrs (a:=⟨ga,3,none⟩) (Zrn w4.drew (w.heap.size+1) (ga) #[nI ((0:Nat):Int),.string (str sp),.string (str ln),.slice (some gm) out.length qc,sN,.string (str []),nI (at_:Nat)] hF)).trans pa;refine rN ?_;change wpAny _ _ _ _ _ _ _ (World.drew _);refine tH 1 (.pointer (some ⟨ga,3,none⟩)) ?_;refine Yn (i:=2) (v:=nI (x.at_:Nat)) (λw'=>w'.cell? ⟨ga,3,none⟩=some (nI (x.at_:Nat))) 5 rfl (by kernel_rfl) (λ_ _ _ h=>h) (Or.inl ⟨by rfl,λw' hS=>by have hq:w'.cell? ⟨ga,3,none⟩=some (nI (x.at_:Nat)):=hS;go_simp⟩) pa ?_;go_simp;refine YZ 5 [6] (AtIx.cons rfl (AtIx.cons rfl AtIx.nil)) [0,3,4] (AtIx.cons rfl (AtIx.cons rfl (AtIx.cons rfl AtIx.nil))) rfl (by kernel_rfl) ?_;refine (Zq ?_:wpListS _ _ _ _ _ (_::_) _ _);intro K hK;go_simp;refine hK _ _ pa ?_;clear hK K;refine (Zq ?_:wpListS _ _ _ _ _ (_::_) _ _);intro K hK;refine Zu rfl 25 (.tmp 4) (.tmp 185) rfl (w.heap.size+1) _ rfl rfl _ _ hk Ze rfl Zz ?_;refine hK _ _ pb ?_;clear hK K;refine (Zq ?_:wpListS _ _ _ _ _ (_::_) _ _);intro K hK;go_simp;refine hK _ _ pb ?_;clear hK K;refine YJ ?_;clear p0 p1 p2 p3 p4 p5 p6 pa pb;go_wp2;((try simp only[Exit.inBlock,Exit.then]);refine ZqT (Z3 rfl _ _ _ _ _ _ _ rfl (ZqV _ _ _ _ _ _ hk) underlying25 rfl Ze) rfl ?_);exact ⟨_,rfl,⟨.mk 0 sp ln (.slice (some gm) out.length qc) [] sN [] [] at_,rfl,⟨⟨_,_,_,rfl⟩,⟨_,_,_,rfl⟩⟩⟩,((hx.trans hu).trans S).setRow om _⟩
             |false=>
              go_wp2;go_roundw
              case rel=>
               refine ⟨i+1,om,by go_num,?_,by trivial⟩;intro t ht ge;by_cases gc:t<i
               ·exact hQ.out t gc ge
               ·have:t=i:=om;subst this;rw[Z8] at q2;rw[hJ.out,q2,Bool.and_false]
              case measure=>simp[intOf];omega
            |false=>
             go_wp2;go_roundw
             case rel=>
              refine ⟨i+1,om,by go_num,?_,by trivial⟩;intro t ht ge;by_cases gc:t<i
              ·exact hQ.out t gc ge
              ·have:t=i:=om;subst this;rw[hJ.out,(Z8 y.space spc).symm.trans q1,ZrA]
             case measure=>simp[intOf];omega
           ·have gK:i=out.length:=om;have fh:¬(i:Int)<(out.length:Int):=om;have HN:Hid (attrsGo J (l.drop (j+1)) (out++ [⟨spc,lc,x.value,x.at_⟩])=G):=by
             have h0:=HQ.out;rw[ZqH ?_] at h0
             ·exact h0
             ·intro h;obtain ⟨y,hy,gw⟩:=Zsc.1 h;obtain ⟨t,ht,rfl⟩:=List.getElem_of_mem hy;rw[hQ.out t om ht] at gw;cases gw
            have hV:=gd (show out.length+1<=maxLen by unfold maxLen;omega);have hU:=gd (show (out.length+1)*56<=140737488355328 by omega);have hp:=Yw hb;have hh:=(Ext.refl w4).alloc (.cells (cellsA ⟨spc,lc,x.value,x.at_⟩).toArray 53);subst gK;clear HQ hQ hE hi
            go_wp2_with (first|(at_builtin;refine Za _ rfl (.tmp 189) (.tmp 197) _ rfl B2 53 i0 _ 4 56 underlying22 fc fp fq fr rfl (by decide) _ _ _ rfl (hb.alloc _) _ 1 (cellsA ⟨spc,lc,x.value,x.at_⟩) rfl (Zj rfl (by decide)) (XM _) hV.out hU.out ?_ ?_;(rw[Zd];omega);intro v9 w9 hf Z gq;obtain ⟨A9,c9,rfl⟩:=Zp hf;(have hY:=(U.ext hh).grown Z (λe=>by have:=hp _ e;omega));obtain ⟨n0,n1,n2,n3,n4,n5,n6⟩:=hY.cells;obtain ⟨z1,z2,z3,z4⟩:=hY.frozen))
            go_roundw
            case rel=>
             refine ⟨j+1,out++ [⟨spc,lc,x.value,x.at_⟩],_,ho,by go_num,?_,Ye (Zev (gt.alloc _) (hb.alloc _) gU.out Z) om _ _,((Y.ext hh).grown Z (λe=>by have:=hp _ e;omega)).other om,((V.ext hh).grown Z (λe=>by have:=hp _ e;omega)).other om,hY.attrs _,(Ext.app ((hx.trans hu).trans hh) Z (hb.alloc _) om).setCell (by show _<=w.heap.size+1+1;omega) _,?_,HN,?_⟩
             ·rw[QT,QV,ZqG];exact Ye hf om _ _
             ·have h1:=Z.size;rw[Zd] at h1;show _<=(w9.setCell ⟨w.heap.size+1+1,3,none⟩ (.slice A9 (out.length+1) c9)).heap.size;rw[show (w9.setCell ⟨w.heap.size+1+1,3,none⟩ (.slice A9 (out.length+1) c9)).heap.size=w9.heap.size by simp[World.setCell]];omega
             ·rw[ZqG];have:=hn.out;show _+1<=_;omega
            case measure=>simp[intOf];omega
      ·have gM:j=l.length:=om;subst gM;have F:=hd.out;rw[Zq3 (ZqE _),attrsGo] at F;subst F;have hs:=HG.out;dsimp only at hs;subst hs;obtain ⟨m0,m1,m2,m3,m4,m5,m6⟩:=U.cells;clear hd HG ho hm
       go_wp2_with (first|(refine ZqF rfl 25 (.tmp 4) (.tmp 200) rfl (w.heap.size+1) _ rfl rfl _ _ V Ze rfl Zz ?_))
       ((try simp only[Exit.inBlock,Exit.then]);refine ZqT (Z3 rfl _ _ _ _ _ _ _ rfl (ZqV _ _ _ _ _ _ V) underlying25 rfl Ze) rfl ?_);exact ⟨_,rfl,⟨_,_,rfl,RSl.of_own (Yh O om _),RSl.of_own (Yh gs om _),(λg hg=>by have:=Yw O g hg;omega)⟩,hx.setRow om _⟩
   all_goals
    have S:=(Ext.refl w3).drew
    have hk:=BxN.ext V S
    obtain ⟨p0,p1,p2,p3,p4,p5,p6⟩:=(BxN.ext U S).cells
    have pa:=S.cell e3
    have hF:ga≠w.heap.size+1:=om
    have pb:=(Zrs (a:=⟨ga,3,none⟩) (Zrn w3.drew (w.heap.size+1) (ga) #[nI ((0:Nat):Int),.string (str []),.string (str []),sN,sN,.string (str []),nI (at_:Nat)] hF)).trans pa
    refine rN ?_
    change wpAny _ _ _ _ _ _ _ (World.drew _)
    refine tH 1 (.pointer (some ⟨ga,3,none⟩)) ?_
    refine Yn (i:=2) (v:=nI (x.at_:Nat)) (λw'=>w'.cell? ⟨ga,3,none⟩=some (nI (x.at_:Nat))) 5 rfl (by kernel_rfl) (λ_ _ _ h=>h) (Or.inl ⟨by rfl,λw' hS=>by have hq:w'.cell? ⟨ga,3,none⟩=some (nI (x.at_:Nat)):=hS;go_simp⟩) pa ?_
    go_simp
    refine YZ 5 [6] (AtIx.cons rfl (AtIx.cons rfl AtIx.nil)) [0,3,4] (AtIx.cons rfl (AtIx.cons rfl (AtIx.cons rfl AtIx.nil))) rfl (by kernel_rfl) ?_
    refine (Zq ?_:wpListS _ _ _ _ _ (_::_) _ _)
    intro K hK
    go_simp
    refine hK _ _ pa ?_
    clear hK K
    refine (Zq ?_:wpListS _ _ _ _ _ (_::_) _ _)
    intro K hK
    refine Zu rfl 25 (.tmp 4) (.tmp 97) rfl (w.heap.size+1) _ rfl rfl _ _ hk Ze rfl Zz ?_
    refine hK _ _ pb ?_
    clear hK K
    refine (Zq ?_:wpListS _ _ _ _ _ (_::_) _ _)
    intro K hK
    go_simp
    refine hK _ _ pb ?_
    clear hK K
    refine YJ ?_
    clear p0 p1 p2 p3 p4 p5 p6 pa pb
    go_wp2
    ((try simp only[Exit.inBlock,Exit.then]);refine ZqT (Z3 rfl _ _ _ _ _ _ _ rfl (ZqV _ _ _ _ _ _ hk) underlying25 rfl Ze) rfl ?_)
    exact ⟨_,rfl,⟨.mk 0 [] [] sN [] sN [] [] at_,rfl,⟨⟨_,_,_,rfl⟩,⟨_,_,_,rfl⟩⟩⟩,((hx.trans C).trans S).setRow om _⟩
 all_goals
  go_enter func105,ntmps105
  go_wp2_with (first|(go_at_call 148;refine ZqD (HS.out _) ?_;rintro e w2 ⟨rfl,hB⟩;simp only[splitAns];have Y:=gp.ext hB;have V:=gg.ext hB;have U:=gx.ext hB;obtain ⟨b0,b1,b2,b3,b4,b5,b6⟩:=Y.cells))
  clear hZ
  have S:=(Ext.refl w2).drew
  have hk:=BxN.ext V S
  obtain ⟨p0,p1,p2,p3,p4,p5,p6⟩:=(BxN.ext U S).cells
  have pa:=S.cell b6
  have hF:w.heap.size≠w.heap.size+1:=om
  have pb:=(Zrs (a:=⟨w.heap.size,6,none⟩) (Zrn w2.drew (w.heap.size+1) (w.heap.size) #[nI ((0:Nat):Int),.string (str []),.string (str []),sN,sN,.string (str []),nI (at_:Nat)] hF)).trans pa
  refine rN ?_
  change wpAny _ _ _ _ _ _ _ (World.drew _)
  refine tH 1 (.pointer (some ⟨w.heap.size,6,none⟩)) ?_
  refine Yn (i:=2) (v:=nI (at_:Nat)) (λw'=>w'.cell? ⟨w.heap.size,6,none⟩=some (nI (at_:Nat))) 5 rfl (by kernel_rfl) (λ_ _ _ h=>h) (Or.inl ⟨by rfl,λw' hS=>by have hq:w'.cell? ⟨w.heap.size,6,none⟩=some (nI (at_:Nat)):=hS;go_simp⟩) pa ?_
  go_simp
  refine YZ 5 [6] (AtIx.cons rfl (AtIx.cons rfl AtIx.nil)) [0,3,4] (AtIx.cons rfl (AtIx.cons rfl (AtIx.cons rfl AtIx.nil))) rfl (by kernel_rfl) ?_
  refine (Zq ?_:wpListS _ _ _ _ _ (_::_) _ _)
  intro K hK
  go_simp
  refine hK _ _ pa ?_
  clear hK K
  refine (Zq ?_:wpListS _ _ _ _ _ (_::_) _ _)
  intro K hK
  refine Zu rfl 25 (.tmp 4) (.tmp 45) rfl (w.heap.size+1) _ rfl rfl _ _ hk Ze rfl Zz ?_
  refine hK _ _ pb ?_
  clear hK K
  refine (Zq ?_:wpListS _ _ _ _ _ (_::_) _ _)
  intro K hK
  go_simp
  refine hK _ _ pb ?_
  clear hK K
  refine YJ ?_
  clear p0 p1 p2 p3 p4 p5 p6 pa pb
  go_wp2
  ((try simp only[Exit.inBlock,Exit.then]);refine ZqT (Z3 rfl _ _ _ _ _ _ _ rfl (ZqV _ _ _ _ _ _ hk) underlying25 rfl Ze) rfl ?_)
  exact ⟨_,rfl,⟨.mk 0 [] [] sN [] sN [] [] at_,rfl,⟨⟨_,_,_,rfl⟩,⟨_,_,_,rfl⟩⟩⟩,((gy.trans hB).trans S).setRow om _⟩
end
end Go.Proofs.YtmfinhgobjbecaaGreatDoor
