/- Parts of the proof: contracts and plain laws. -/
import Derived.Test.YtnlafkgkcnenfaaGreatDoorS15
import Derived.Test.YtnlafkgkcnenfaaGreatDoorS17
namespace Go.Proofs.YtnlafkgkcnenfaaGreatDoor
open Go Go.RowKit Go.Joins Tryz
set_option linter.unusedVariables false
set_option linter.unusedSimpArgs false
set_option maxRecDepth 100000
set_option maxHeartbeats 16000000
section
variable {g j k:Nat} {s t:List UInt8} {w w':World}
theorem Gu:∀a b:List AtP,attrsW (a++b)=attrsW a++attrsW b
 | [],b=>rfl
 |x::t,b=>by
  show attrW x++attrsW (t++b)=(attrW x++attrsW t)++attrsW b
  rw[Gu t b,ZN]
theorem Zc5 {l:List AtP} (h:j<l.length):attrsW (l.take (j+1))=attrsW (l.take j)++attrW l[j]:=by
 rw[Zx h,Gu]
 congr 1
 show attrW _++ []=_;rw[Yi]
theorem Zgo (l:List AtP) (j:Nat):(attrsW (l.take j)).length<=(attrsW l).length:=by
 have h:attrsW l=attrsW (l.take j)++attrsW (l.drop j):=by rw[<-Gu,Xe]
 rw[h,Zc];omega
theorem GF:∀a b:List Nd,nodesW (a++b)=nodesW a++nodesW b
 | [],b=>by rw[Xl,nodesW,Xl]
 |x::t,b=>by rw[X5,nodesW,nodesW,GF t b,ZN]
theorem Zd8 {l:List Nc} (h:j<l.length):nodesW ((Nc.nds l).take (j+1))=nodesW ((Nc.nds l).take j)++nodeW l[j].nd:=by
 have q:j<(Nc.nds l).length:=by rw[X2];exact h
 have e:(Nc.nds l)[j]=l[j].nd:=by simp only[XL,Ju]
 rw[Zx q,GF,e]
 congr 1
 rw[nodesW,nodesW,Yi]
theorem Zhv (l:List Nd) (j:Nat):(nodesW (l.take j)).length<=(nodesW l).length:=by
 have h:nodesW l=nodesW (l.take j)++nodesW (l.drop j):=by rw[<-GF,Xe]
 rw[h,Zc];omega
def AbX (w:Wq) (g:Nat) (x:AtP):Prop:=w.heap[g]? =some (.cells #[.string (str x.space),.string (str x.name),.string (str x.value),nI (x.at_:Nat)] 88 (0,0))
theorem AbX.ext {x:AtP} (h:AbX w g x) (q:Ext w w'):AbX w' g x:=q.heap h
theorem AbX.cells {x:AtP} (h:AbX w g x):w.cell? ⟨g,0,none⟩=some (.string (str x.space))/\w.cell? ⟨g,1,none⟩=some (.string (str x.name))/\w.cell? ⟨g,2,none⟩=some (.string (str x.value))/\w.cell? ⟨g,3,none⟩=some (nI (x.at_:Nat)):=
 ⟨(Zp h _).trans rfl,(Zp h _).trans rfl,(Zp h _).trans rfl,(Zp h _).trans rfl⟩
def FnAt (w:Wq) (fb bb:Nat):Prop:=w.heap[fb]? =some (.cells #[.func (.func 82) #[] #[.pointer (some ⟨bb,0,none⟩),.pointer (some ⟨fb,0,none⟩)]] 133 (0,0))
theorem FnAt.cell {fb bb:Nat} (h:FnAt w fb bb):w.cell? ⟨fb,0,none⟩=some (.func (.func 82) #[] #[.pointer (some ⟨bb,0,none⟩),.pointer (some ⟨fb,0,none⟩)]):=(Zp h _).trans rfl
section
variable {B:Nat} {w w':World}
theorem BKeep.fn {fb bb:Nat} (h:BKeep B w w') (q:FnAt w fb bb):FnAt w' fb bb:=h.keeps _ _ _ _ q (by decide) (by decide)
theorem BKeep.box {n:List UInt8} {al ks:Value} {a:Nat} (h:BKeep B w w') (q:BxN w g k s n al ks t a):BxN w' g k s n al ks t a:=h.keeps _ _ _ _ q (by decide) (by decide)
end
theorem ZhW (N:Nat) (hN:N<=4000000):∀(h:Nat) (x:Nc) (z w:Wq) (B bb fb:Nat) (l:List UInt8),x.nd.ht<=h->x.nd.fits N->RdN z x->Ext z w->z.heap.size<=B->B<=w.heap.size->FnAt w fb bb->
 Lib.IsBuilder 96 5 B bb (Lib.byteCells (l)) w->l.length+(nodeW x.nd).length<=140737488355328->
 Calls prog 82 #[.agg (cellsN x).toArray,.pointer (some ⟨bb,0,none⟩),.pointer (some ⟨fb,0,none⟩)] w λe w'=>e= .returned (.tuple #[])/\Lib.IsBuilder 96 5 B bb (Lib.byteCells (l++nodeW x.nd)) w'/\BKeep B w w':=by
 intro h
 induction h with
 |zero=>intro x z w B bb fb l hA;exact absurd (Zfc x.nd) (by omega)
 |succ h ih=>
 intro x z w B bb fb l hA H hr gs gr he hx hb q;obtain ⟨k,s,n,al,l0,ks,kids,t,a⟩:=x;rw[RdN] at hr;obtain ⟨hV,h0,gi⟩:=hr;have hH:=(Xg kids).1 gi;rw[Nc.nd] at hA H q|-;rw[Nd.ht] at hA;rw[Nd.fits] at H;have gg:=H.2.2.2.2.2.2.2.2;have gf:=H.2.2.2.2.1;have U:kids.length<=N:=by have:=H.2.2.2.2.2.1;rwa [X2] at this
 have gY:l0.length<=N:=H.2.2.2.1;have g8:n.length<=N:=H.2.2.1;have hf:k<=1:=H.1;have h1:t.length<=16777216:=by have:=H.2.2.2.2.2.2.1;omega
 obtain ⟨A,c,gQ, -, -⟩:=hV.form;obtain ⟨B0,d,gW, -, -⟩:=RNs.form h0;subst gQ;subst gW;obtain ⟨W0,gc⟩:∃W0,w.alloc (.cells #[nI (k:Nat),.string (str s),.string (str n),.slice A l0.length c,.slice B0 kids.length d,.string (str t),nI (a:Nat)] 25)=W0:=⟨_,rfl⟩;have hc:Ext w W0:=by rw[<-gc];exact (Ext.refl w).alloc _
 have hW:BxN W0 w.heap.size k s n (.slice A l0.length c) (.slice B0 kids.length d) t a:=by rw[<-gc];exact Zg w _
 obtain ⟨b0,b1,b2,b3,b4,b5,b6⟩:=hW.cells;have g5:=gd hc;have hp:=gd hW;have h4:=gd (Ul hb hc);have gE:=gd (show FnAt W0 fb bb from hc.heap hx);have hi:=gd (gs.trans hc);have hs:=gd gr;have M:=gd (Zu he hc.size);have gC:=gd he;have hL:=gd (BKeep.of_ext hc he);have gw:=gd hV;have gL:=gd (show RNs z (.slice B0 kids.length d) kids from h0);have HY:=gd (λy (hy:y∈kids)=>(⟨hH y hy,(Nds.fits_iff _).1 gg y.nd (by rw[XL];exact Yg hy),(by
  have:=Ew (x:=y.nd) (l:=Nc.nds kids) (by rw[XL];exact Yg hy);omega)⟩:RdN z y/\y.nd.fits N/\y.nd.ht<=h))
 have gG:=gd ih;have gK:Hid (kids.length<=16777216):=gd (by omega);have gM:Hid (l0.length<=16777216):=gd (by omega);have gD:Hid (∀b∈l0,b.name.length<=16777216/\b.value.length<=16777216):=gd (λb hb=>by have:=gf b hb;unfold AtP.fits at this;omega);simp only[cellsN];clear ih hV h0 gi hH H hA gg gf U gY hc hW gs gr he hx hb;by_cases hn:k=1
 ·rw[nodeW,Zh hn] at q|-;have q1:((k:Int)==1)=true:=by rw[hn];rfl
  have HT:=gd (λw'=>ZeJ (str t) w' (by rw[Yu];exact h1));simp only[Z5] at HT;have hd:=gd q;clear hn hf q h1;go_enter func82,ntmps82
  go_wp2_with (first|(go_at_call 83;(with_reducible refine Za (HT.out _) ?_);rintro e w2 ⟨rfl,I⟩)|(go_at_call 54;refine Za (bwS B bb l _ _ (Ul h4.out I) (by rw[Yu];exact hd.out) (Zu M.out I.size)) ?_;rintro e w3 ⟨rfl,ga,gU⟩))
  refine Zl (results_none rfl _ _ _) rfl ?_;rw[Z5] at ga;exact ⟨rfl,ga,(hL.out.then_ext I gC.out).trans gU⟩
 ·rw[nodeW,Ze hn] at q|-;have q1:((k:Int)==1)=false:=by rw[Zy];omega
  obtain ⟨R,hR⟩:∃R,[60]++n++attrsW l0++(if (Nc.nds kids).isEmpty then [47,62] else [62]++nodesW (Nc.nds kids)++ [60,47]++n++ [62])=R:=⟨_,rfl⟩;rw[hR] at q|-;have gb:1+n.length+(attrsW l0).length<=R.length:=by rw[<-hR];simp only[Zc,Zf,ZK];omega
  have HR:=gd hR;have gN:=gd gb;have hd:=gd q;have g2:¬9223372036854775807<1+n.length:=by omega
  have g3:¬9223372036854775807<2+n.length:=by omega
  have g4:¬9223372036854775807<2+n.length+1:=by omega
  clear hn hf h1 hR;go_enter func82,ntmps82;have gj:l.length+((⟨#[60]⟩:ByteArray)++str n).size<=140737488355328:=by simp only[Vh,Yu];show l.length+(1+n.length)<=_;omega
  go_wp2_with (go_at_call 54;refine Za (bwS B bb l _ W0 h4.out gj M.out) ?_;rintro e w1 ⟨rfl,hQ,hf⟩;obtain ⟨d0,d1,d2,d3,d4,d5,d6⟩:=(BKeep.box hf hp.out).cells)
  simp only[UL,Z5] at hQ;have gy:=gd (show Lib.IsBuilder 96 5 B bb (Lib.byteCells (l++([60]++n))) w1 from hQ);have gH:=gd hf;clear hQ hf q gj gb b0 b1 b2 b3 b4 b5 b6;go_loopw [22] (λv wr=>∃j:Nat,j<=l0.length/\v=nI j/\Lib.IsBuilder 96 5 B bb (Lib.byteCells (l++([60]++n)++attrsW (l0.take j))) wr/\BKeep B W0 wr) (λv _=>l0.length - (intOf v).toNat)
  case atStart=>exact ⟨0,Zk _,rfl,(by rw[List.take_zero];show Lib.IsBuilder 96 5 B bb (Lib.byteCells (l++([60]++n)++ [])) w1;rw[Yi];exact gy.out),gH.out⟩
  case round=>
   obtain ⟨j,hj,rfl,J,F⟩:=hrel;by_cases Q:j<l0.length
   ·obtain ⟨ad,c',hv,hk⟩:=(RAts.ext gw.out (BKeep.ext hi.out F hs.out)).at Q;injection hv with hv1 hv2 hv3;subst hv1;clear hv2 hv3;have q:=hd.out;have ha:=Zgo l0 (j+1);have D:=Zc5 Q;rw[D,Zc] at ha;have S:=gD.out _ (ZL Q);obtain ⟨x,gn⟩:∃x,l0[j]=x:=⟨_,rfl⟩;rw[gn] at hk ha D S;obtain ⟨a0,a1,a2,a3⟩:=hk;have hm:=BKeep.size F M.out;obtain ⟨W2,Z⟩:∃W2,wr.alloc (.cells #[.string (str x.space),.string (str x.name),.string (str x.value),nI (x.at_:Nat)] 88)=W2:=⟨_,rfl⟩;have I:Ext wr W2:=(by rw[<-Z];exact (Ext.refl wr).alloc _);have gP:AbX W2 wr.heap.size x:=(by rw[<-Z];exact Zg wr _);have h9:=gd I;have gu:=gd gP;have hP:=gd (λw'=>ZeI (str x.value) w' (by rw[Yu];exact S.2));simp only[Z5] at hP;have gm:=Ib true x.value;have gR:(attrW x).length=1+x.name.length+2+(wescL true x.value).length+1:=(by unfold attrW;simp only[Zc,Zf,ZK]);have hO:=gd D;have gB:=gd (Ul J I);have hh:=gd F;have gk:(l++([60]++n)++attrsW (l0.take j)).length+(1+x.name.length+2+(wescL true x.value).length+1)<=140737488355328:=(by have g9:=gN.out;simp only[Zc,Zf,ZK] at q|-;omega);have h7:=gd gk;obtain ⟨E,hE⟩:∃E,wescL true x.value=E:=⟨_,rfl⟩;have ge: [32]++x.name++ [61,34]++E++ [34]=attrW x:=(by rw[<-hE];rfl);have gx:=gd ge;rw[hE] at hP gm h7;have o1:¬9223372036854775807<1+x.name.length:=(by have:=S.1;omega);have o2:¬9223372036854775807<1+x.name.length+2:=(by have:=S.1;omega);have o3:¬9223372036854775807<1+x.name.length+2+E.length:=(by have:=S.1;have:=S.2;omega);have o4:¬9223372036854775807<1+x.name.length+2+E.length+1:=(by have:=S.1;have:=S.2;omega);have hg:=gd hm;have gS:(0:Int)<=(j:Int):=(by omega);have gT:(j:Int)<(l0.length:Int):=(by omega);have g7:l0.length<=16777216:=gM.out;clear ha D S gn q gR gm ge hE J F hm gk
    go_wp2_with (first|(refine Zd rfl 88 (.tmp 5) (.tmp 25) rfl wr.heap.size _ rfl rfl _ _ (Zg _ _) size_attr rfl Yx ?_;rw[ZW];rw[Z]))
    refine rN ?_;change wpAny _ _ _ _ _ _ _ (World.drew _);have hD:=(Ext.refl W2).drew;have X:=gu.out.ext hD;refine Yj (λw'=>AbX w' wr.heap.size x) ?_;refine tG 0 (.pointer (some ⟨wr.heap.size,1,none⟩)) X ?_;refine tS 1 (.string (str x.name)) rfl (λw' hS=>by obtain ⟨q0,q1,q2,q3⟩:=AbX.cells hS;go_simp) X ?_;refine tG 2 (.string (⟨#[32]⟩++str x.name)) X ?_;refine tG 3 (.string (⟨#[32]⟩++str x.name++⟨#[61,34]⟩)) X ?_;refine tG 4 (.pointer (some ⟨wr.heap.size,2,none⟩)) X ?_;refine tS 5 (.string (str x.value)) rfl (λw' hS=>by obtain ⟨q0,q1,q2,q3⟩:=AbX.cells hS;go_simp) X ?_;go_simp;refine sS 6 λK hK=> ?_;go_simp;go_at_call 84;have hz:=hP.out W2.drew
    with_reducible refine Za hz ?_
    clear hz;rintro e w3 ⟨rfl,hC⟩;have hu:=X.ext hC;refine hK _ _ hu ?_;clear hK K;refine sS 7 λK hK=> ?_;go_simp;refine hK _ _ hu ?_;clear hK K;refine sS 8 λK hK=> ?_;go_simp;refine hK _ _ hu ?_;clear hK K;refine sS 9 λK hK=> ?_;go_simp;go_at_call 54;refine Za (bwS B bb (l++([60]++n)++attrsW (l0.take j)) _ w3 (Ul gB.out (hD.trans hC)) (by simp only[Vh,Yu];exact h7.out) (Zu hg.out (h9.out.trans (hD.trans hC)).size)) ?_;rintro e w4 ⟨rfl,hT,gh⟩;simp only[UL,Z5] at hT;have V:Lib.IsBuilder 96 5 B bb (Lib.byteCells (l++([60]++n)++attrsW (l0.take (j+1)))) w4:=(by rw[hO.out,<-gx.out,<-ZN (l++([60]++n)) (attrsW (l0.take j))];exact hT);have hI:=gd V;have hJ:=gd (hh.out.trans ((BKeep.of_ext (h9.out.trans (hD.trans hC)) hg.out).trans gh));refine hK _ _ (gh.keeps _ _ _ _ hu (by decide) (by decide)) ?_;clear hK K hT V;refine sE ?_;go_wp2;go_roundw
    case rel=>exact ⟨j+1,Q,by go_num,hI.out,hJ.out⟩
    case measure=>simp[intOf];omega
   ·have hY:j=l0.length:=(by omega);subst hY;rw[List.take_length] at J;have hl:=BKeep.box F hp.out;obtain ⟨b0,b1,b2,b3,b4,b5,b6⟩:=hl.cells;have hm:=BKeep.size F M.out;have q:=hd.out;obtain ⟨wP,gZ⟩:∃wP:Wq,wP=wr:=⟨_,rfl⟩;subst gZ;have hh:=gd F;have hg:=gd hm;clear Q hj F hm hl;cases hke:kids.isEmpty with
    |true=>
     have U:kids= []:=List.isEmpty_iff.1 hke;have Y:R= [60]++n++attrsW l0++ [47,62]:=(by rw[<-HR.out,U,Nc.nds];rfl);have q2:((kids.length:Int)==0)=true:=(by rw[U];rfl);have hB:(l++([60]++n)++attrsW l0).length+(⟨#[47,62]⟩:ByteArray).size<=140737488355328:=(by rw[Y] at q;show _+2<=_;simp only[Zc,Zf,ZK] at q|-;omega);have hM:=gd Y;clear hke U Y q
     go_wp2_with (go_at_call 54;refine Za (bwS B bb (l++([60]++n)++attrsW l0) _ wP J hB hg.out) ?_;rintro e w5 ⟨rfl,V,ho⟩)
     refine Zl (results_none rfl _ _ _) rfl ?_;refine ⟨rfl,?_,(hL.out.trans hh.out).trans ho⟩;rw[hM.out];simp only[ZN] at V|-;exact V
    |false=>
     have U:kids≠ []:=λe=>(by rw[e] at hke;cases hke);have Y:R= [60]++n++attrsW l0++([62]++nodesW (Nc.nds kids)++ [60,47]++n++ [62]):=by
      rw[<-HR.out];cases kids with
      |nil=>exact absurd rfl U
      |cons y ys=>rw[Nc.nds];rfl
     have q2:((kids.length:Int)==0)=false:=(by rw[Zy];have:=Jm.2 U;omega);have hq:Hid ((l++([60]++n)++attrsW l0).length+1+(nodesW (Nc.nds kids)).length+2+n.length+1<=140737488355328):=gd (by
      rw[Y] at q;simp only[Zc,Zf,ZK] at q|-;omega)
     have hM:=gd Y;obtain ⟨L1,hU⟩:∃L1,l++([60]++n)++attrsW l0=L1:=⟨_,rfl⟩;rw[hU] at J hq;have h8:=gd hU;have hB:L1.length+1<=140737488355328:=(by have:=hq.out;omega);clear hke U Y q hU
     go_wp2_with (go_at_call 62;refine Za (bwB B bb L1 62 wP J hB hg.out) ?_;rintro e w5 ⟨rfl,V,ho⟩;obtain ⟨d0,d1,d2,d3,d4,d5,d6⟩:=(BKeep.box (hh.out.trans ho) hp.out).cells)
     have hJ:=gd (hh.out.trans ho);have hI:=gd V;clear b0 b1 b2 b3 b4 b5 b6 V ho hB J;go_loopw [46] (λv wr=>∃j:Nat,j<=kids.length/\v=nI j/\Lib.IsBuilder 96 5 B bb (Lib.byteCells (L1++ [62]++nodesW ((Nc.nds kids).take j))) wr/\BKeep B W0 wr) (λv _=>kids.length - (intOf v).toNat)
     case atStart=>exact ⟨0,Zk _,rfl,(by rw[List.take_zero,nodesW,Yi];exact hI.out),hJ.out⟩
     case round=>
      obtain ⟨j,hj,rfl,J,F⟩:=hrel;by_cases Q:j<kids.length
      ·obtain ⟨ad,c',hv,hk⟩:=(RNs.ext gL.out (BKeep.ext hi.out F hs.out)).at Q;injection hv with hv1 hv2 hv3;subst hv1;clear hv2 hv3;have gV:=gK.out;have gS:(0:Int)<=(j:Int):=(by omega);have gT:(j:Int)<(kids.length:Int):=(by omega);obtain ⟨hF,h2,h3⟩:=HY.out kids[j] (ZL Q);have D:=Zd8 Q;have ha:=Zhv (Nc.nds kids) (j+1);rw[D,Zc] at ha;obtain ⟨y,gq⟩:∃y,kids[j]=y:=⟨_,rfl⟩;rw[gq] at hk hF h2 h3 D ha;have gl:(L1++ [62]++nodesW ((Nc.nds kids).take j)).length+(nodeW y.nd).length<=140737488355328:=(by have:=hq.out;simp only[Zc,Zf,ZK];omega);have hG:=gd (λ(w':Wq) (hz:Ext z w') (he:B<=w'.heap.size) (hx:FnAt w' fb bb) (hb:Lib.IsBuilder 96 5 B bb (Lib.byteCells (L1++ [62]++nodesW ((Nc.nds kids).take j))) w')=>gG.out y z w' B bb fb _ h3 h2 hF hz hs.out he hx hb gl);have hO:=gd D;have g0:=RdN.sl hF;obtain ⟨yk,ys,yn,fa,yl,fc,g1,yt,ya⟩:=y;obtain ⟨⟨YA,ym,yc,go⟩,⟨YB,gt,yd,gp⟩⟩:=g0;simp only[Nc.al,Nc.ks] at go gp;subst go;subst gp;simp only[cellsN] at hG;obtain ⟨a0,a1,a2,a3,a4,a5,a6⟩:=hk;simp only[Nc.kind,Nc.space,Nc.name,Nc.al,Nc.ks,Nc.text,Nc.at_] at a0 a1 a2 a3 a4 a5 a6;obtain ⟨W2,Z⟩:∃W2,wr.alloc (.cells #[nI (yk:Nat),.string (str ys),.string (str yn),.slice YA ym yc,.slice YB gt yd,.string (str yt),nI (ya:Nat)] 25)=W2:=⟨_,rfl⟩;have I:Ext wr W2:=(by rw[<-Z];exact (Ext.refl wr).alloc _);have hl:BxN W2 wr.heap.size yk ys yn (.slice YA ym yc) (.slice YB gt yd) yt ya:=(by rw[<-Z];exact Zg wr _);obtain ⟨c0,c1,c2,c3,c4,c5,c6⟩:=hl.cells;have hX:FnAt W2 fb bb:=I.heap (BKeep.fn F gE.out);have g6:=hX.cell;have gF:=gd hX;clear hX;have h5:=gd (Zu (BKeep.size F M.out) I.size);have gA:=gd (Ul J I);have gO:=gd ((BKeep.ext hi.out F hs.out).trans I);have gI:=gd (F.then_ext I M.out);clear hF h2 h3 D ha gq gl hl I J F d0 d1 d2 d3 d4 d5 d6
       go_wp2_with (first|(refine Zd rfl 25 (.tmp 7) (.tmp 49) rfl wr.heap.size _ rfl rfl _ _ (Zg _ _) Zv rfl Yx ?_;rw[ZW];rw[Z])|(go_at_call 82;refine Za (hG.out W2 gO.out h5.out gF.out gA.out) ?_;rintro e w6 ⟨rfl,hw,hZ⟩))
       have gz:=gd (show Lib.IsBuilder 96 5 B bb (Lib.byteCells (L1++ [62]++nodesW ((Nc.nds kids).take (j+1)))) w6 by rw[hO.out,<-ZN (L1++ [62])];exact hw);have gJ:=gd (gI.out.trans hZ);go_roundw
       case rel=>exact ⟨j+1,Q,by go_num,gz.out,gJ.out⟩
       case measure=>simp[intOf];omega
      ·have hY:j=kids.length:=(by omega);subst hY;rw[ZT (by rw[X2];exact Zb _)] at J;obtain ⟨b0,b1,b2,b3,b4,b5,b6⟩:=(BKeep.box F hp.out).cells;have gX:(L1++ [62]++nodesW (Nc.nds kids)).length+((⟨#[60,47]⟩:ByteArray)++str n++(⟨#[62]⟩:ByteArray)).size<=140737488355328:=(by have:=hq.out;simp only[Vh,Yu,Zc,Zf,ZK] at this|-;show _+(2+n.length+1)<=_;omega);have h6:=gd (BKeep.size F M.out);clear Q hj d0 d1 d2 d3 d4 d5 d6
       go_wp2_with (go_at_call 54;refine Za (bwS B bb (L1++ [62]++nodesW (Nc.nds kids)) _ wr J gX h6.out) ?_;rintro e w6 ⟨rfl,hw,hZ⟩)
       go_end0;simp only[UL,Z5] at hw;refine ⟨rfl,?_,(hL.out.trans F).trans hZ⟩;rw[hM.out];have e2:l++([60]++n++attrsW l0++([62]++nodesW (Nc.nds kids)++ [60,47]++n++ [62]))=L1++ [62]++nodesW (Nc.nds kids)++([60,47]++n++ [62]):=(by rw[<-h8.out];simp only[ZN]);rw[e2];exact hw
end
theorem ZgV (w1:Wq):Lib.IsBuilder 96 5 (w1.heap.size) (w1.heap.size) (Lib.byteCells ([])) (((w1.alloc (.cells #[.pointer none,sN] 96)).alloc (.cells #[.nilFunc] 133)).setCell ⟨w1.heap.size+1,0,none⟩ (.func (.func 82) #[] #[.pointer (some ⟨w1.heap.size,0,none⟩),.pointer (some ⟨w1.heap.size+1,0,none⟩)])):=
 Or.inl ⟨Zb _,sN,(Z4 _ ⟨w1.heap.size+1,0,none⟩ w1.heap.size _ (by show w1.heap.size≠w1.heap.size+1;omega)).trans ((JJ _ _ (by rw[Zq];omega)).trans (Zg w1 _)),YL _ _ _ _,by simp[Value.ownBlock]⟩
theorem ZcX (N:Nat) (hN:N<=4000000) (x:Nc) (w:Wq) (hf:x.nd.fits N) (hE:Env w) (U:NmTabs w) (hr:RdN w x) (D:(docW x.nd).length<=140737488355328):
 Calls prog 42 #[.agg (cellsN x).toArray] w λe w'=>e= .returned (.tuple #[.string (str (if nodeOk 1 x.nd then docW x.nd else [])),nI (if nodeOk 1 x.nd then 0 else 22)])/\Ext w w':=by
 have h:=λw' (hx:Ext w w')=>ZcW N hN x w' hf (hE.ext hx) (U.ext hx) (RdN.ext hx _ hr);have hd:docW x.nd=headW++nodeW x.nd++ [10]:=rfl;have hc:headW.length=39:=rfl;have q:=λ(w':Wq) (z:Wq) (B bb fb:Nat) (l:List UInt8) (hx:Ext w z)=>ZhW N hN x.nd.ht x z w' B bb fb l (Zb _) hf (RdN.ext hx _ hr);obtain ⟨R,hR⟩:∃R,nodeW x.nd=R:=⟨_,rfl⟩;rw[hd] at D|-;rw[hR] at q D|-;have hy:R.length+40<=140737488355328:=by simp only[Zc,Zf,ZK] at D;omega
 have hu:=RdN.sl hr;obtain ⟨b,hb⟩:∃b,nodeOk 1 x.nd=b:=⟨_,rfl⟩;rw[hb] at h|-;clear hb hf hr hd hR D hE U;obtain ⟨k,s,n,al,l0,ks,kids,t,a⟩:=x;obtain ⟨⟨A,m1,c,X⟩,⟨B0,m2,d,he⟩⟩:=hu;simp only[Nc.al,Nc.ks] at X he;subst X;subst he;simp only[cellsN] at h q|-;have S:=gd h;have hj:=gd q;obtain ⟨W0,V⟩:∃W0,w.alloc (.cells #[nI (k:Nat),.string (str s),.string (str n),.slice A m1 c,.slice B0 m2 d,.string (str t),nI (a:Nat)] 25)=W0:=⟨_,rfl⟩;have hg:Ext w W0:=by rw[<-V];exact (Ext.refl w).alloc _
 have J:BxN W0 w.heap.size k s n (.slice A m1 c) (.slice B0 m2 d) t a:=by rw[<-V];exact Zg w _
 obtain ⟨b0,b1,b2,b3,b4,b5,b6⟩:=J.cells;have H:=gd hg;have Q:=gd J;clear h q hg J;cases b with
 |false=>
  go_enter func42,ntmps42
  go_wp2_with (first|(go_at_call 81;(with_reducible refine Za (S.out _ H.out) ?_);rintro e w1 ⟨rfl,F⟩))
  go_ret2
  exact ⟨rfl,H.out.trans F⟩
 |true=>
  go_enter func42,ntmps42
  go_wp2_with (first|(go_at_call 81;(with_reducible refine Za (S.out _ H.out) ?_);rintro e w1 ⟨rfl,F⟩;obtain ⟨d0,d1,d2,d3,d4,d5,d6⟩:=(Q.out.ext F).cells;(have hp:((w1.alloc (.cells #[.pointer none,sN] 96)).alloc (.cells #[.nilFunc] 133)).cell? ⟨w1.heap.size+1,0,none⟩=some .nilFunc:=by rw[Jr (Ys w1 _ _)];rfl);(have ho:((w1.alloc (.cells #[.pointer none,sN] 96)).alloc (.cells #[.nilFunc] 133)).frozen? ⟨w1.heap.size+1,0,none⟩=false:=YR (Ys w1 _ _) 0);(have Z:=ZgV w1);(have ha:FnAt (((w1.alloc (.cells #[.pointer none,sN] 96)).alloc (.cells #[.nilFunc] 133)).setCell ⟨w1.heap.size+1,0,none⟩ (.func (.func 82) #[] #[.pointer (some ⟨w1.heap.size,0,none⟩),.pointer (some ⟨w1.heap.size+1,0,none⟩)])) (w1.heap.size+1) w1.heap.size:=block_setCell (Ys w1 _ _) _);(have I:Ext w1 (((w1.alloc (.cells #[.pointer none,sN] 96)).alloc (.cells #[.nilFunc] 133)).setCell ⟨w1.heap.size+1,0,none⟩ (.func (.func 82) #[] #[.pointer (some ⟨w1.heap.size,0,none⟩),.pointer (some ⟨w1.heap.size+1,0,none⟩)])):=(((Ext.refl w1).alloc _).alloc _).setCell (Yf _) _);(obtain ⟨WB,hn⟩:∃WB,(w1.alloc (.cells #[.pointer none,sN] 96)).alloc (.cells #[.nilFunc] 133)=WB:=⟨_,rfl⟩);rw[hn] at hp ho Z ha I)|(go_at_call 54;refine Za (bwS _ _ [] _ _ Z (by show 0+39<=_;omega) I.size) ?_;rintro e w2 ⟨rfl,hk,K⟩;obtain ⟨e0,e1,e2,e3,e4,e5,e6⟩:=(K.box ((Q.out.ext F).ext I)).cells;(have Y:=K.fn ha);(have hw:=Y.cell);(have M:Ext w1 w2:=BKeep.ext I K (Zb _)))|(go_at_call 82;refine Za (hj.out w2 w1 w1.heap.size w1.heap.size (w1.heap.size+1) headW (H.out.trans F) M (Zb _) M.size Y hk (by rw[hc];omega)) ?_;rintro e w3 ⟨rfl,hl,hq⟩;(have hh:Ext w1 w3:=M.then hq.below))|(go_at_call 62;refine Za (bwB _ _ _ 10 _ hl (by rw[Zc,hc];omega) hh.size) ?_;rintro e w4 ⟨rfl,hm,hs⟩;(have hi:Ext w1 w4:=hh.then hs.below))|(go_at_call 56;refine Za (JM _ _ _ _ hm hi.size) ?_;rintro e w5 ⟨rfl,hv⟩))
  go_ret2
  exact ⟨rfl,(H.out.trans F).trans (hi.then hv)⟩
section
variable {ac kc zt:Nat} {w:World}
theorem Zca (nm:List UInt8) (v:Value) (l:List Nc) (w:Wq) (D:RNs w v l) (q:∀y∈l,RdN w y/\y.kind=0) (A:l.length<=16777216):Calls prog 44 #[.string (str nm),v] w λe w'=>
 ∃KB kc,e= .returned (.agg #[nI 0,eS,.string (str nm),sN,.slice KB l.length kc,eS,nI 0])/\w'.ownsRow w.heap.size 25 7 (.slice KB l.length kc) l.length (flatN l)/\Ext w w':=by
 refine Za (Eg nm v l w D q A) ?_;rintro e w' ⟨ks,rfl,h,F⟩;obtain ⟨KB,kc,rfl⟩:=Z8 h;exact ⟨KB,kc,rfl,h,F⟩
theorem ZgB (w:Wq):Calls prog 44 #[.string ⟨#[104,101,97,100]⟩,sN] w λe w'=>
 ∃A D,e= .returned (.agg #[nI 0,eS,.string ⟨#[104,101,97,100]⟩,sN,.slice A 0 D,eS,nI 0])/\RNs w' (.slice A 0 D) []/\Ext w w':=
 (Zca headL sN [] w (RNs.nil w) (by intro y H;cases H) (by decide)).mono λe w' ⟨KB,kc,h,q,F⟩=>⟨KB,kc,h,RSl.of_own q,F⟩
theorem ZgA (v:Value) (kids:List Nc) (w:Wq) (A:RNs w v kids) (h:∀y∈kids,RdN w y/\y.kind=0) (q:kids.length<=16777216):Calls prog 44 #[.string ⟨#[98,111,100,121]⟩,v] w λe w'=>
 ∃KB kc,e= .returned (.agg #[nI 0,eS,.string ⟨#[98,111,100,121]⟩,sN,.slice KB kids.length kc,eS,nI 0])/\w'.ownsRow w.heap.size 25 7 (.slice KB kids.length kc) kids.length (flatN kids)/\Ext w w':=
 Zca bodyL v kids w A h q
theorem ZgE (v:Value) (kids:List Nc) (w:Wq) (A:RNs w v kids) (h:∀y∈kids,RdN w y/\y.kind=0) (q:kids.length<=16777216):Calls prog 44 #[.string ⟨#[111,112,109,108]⟩,v] w λe w'=>
 ∃RB rc,e= .returned (.agg #[nI 0,eS,.string ⟨#[111,112,109,108]⟩,sN,.slice RB kids.length rc,eS,nI 0])/\w'.ownsRow w.heap.size 25 7 (.slice RB kids.length rc) kids.length (flatN kids)/\Ext w w':=
 Zca opmlL v kids w A h q
theorem Zjh (w:Wq):RStrs (w.alloc (.cells #[.string ⟨#[118,101,114,115,105,111,110]⟩,.string ⟨#[50,46,48]⟩] 9)) (.slice (some ⟨w.heap.size,0,none⟩) 2 2) (pairS [(versionL,twoL)]):=UU w (pairS [(versionL,twoL)]) (by show 2<=maxLen;unfold maxLen;omega)
theorem ZhV (RB:Option Addr) (n rc:Nat) (v:Value) (w:Wq) (q:RStrs w v (pairS [(versionL,twoL)])):
 Calls prog 46 #[.agg #[nI 0,eS,.string ⟨#[111,112,109,108]⟩,sN,.slice RB n rc,eS,nI 0],v] w λe w'=>
  ∃AB ac,e= .returned (.agg #[nI 0,eS,.string ⟨#[111,112,109,108]⟩,.slice AB 1 ac,.slice RB n rc,eS,nI 0])/\w'.ownsRow w.heap.size 88 4 (.slice AB 1 ac) 1 (flatA [pairA (versionL,twoL)])/\Ext w w':=by
 refine Za (ZeD 0 [] opmlL sN (.slice RB n rc) [] n rc RB [] 0 v [(versionL,twoL)] w (RAts.nil w) rfl q (by show 0+1<=1000000;omega)) ?_;rintro e w' ⟨al',rfl,h,A⟩;obtain ⟨AB,ac,rfl⟩:=Z8 h;exact ⟨AB,ac,rfl,h,A⟩
theorem Zk5 {KB:Option Addr} {kids:List Nc}:(#[nI 0,eS,.string ⟨#[98,111,100,121]⟩,sN,.slice KB kids.length kc,eS,nI 0]:Array Value).all (λu=>u.oneCell')=true:=by simp[Value.oneCell']
theorem Zk9 {RB AB:Option Addr} {rc:Nat}:(#[nI 0,eS,.string ⟨#[111,112,109,108]⟩,.slice AB 1 ac,.slice RB 2 rc,eS,nI 0]:Array Value).all (λu=>u.oneCell')=true:=by simp[Value.oneCell']
theorem Zkm:(#[nI 0,eS,eS,sN,sN,eS,nI 0]:Array Value).all (λu=>u.oneCell')=true:=by simp[Value.oneCell']
theorem Zlf {nb:Nat} {KB:Option Addr} {kids:List Nc} (h:w.heap[nb]? =some (.cells #[nI 0,eS,.string ⟨#[98,111,100,121]⟩,sN,.slice KB kids.length kc,eS,nI 0] 25 (0,0))):w.cell? ⟨nb,0,none⟩=some (nI 0)/\w.cell? ⟨nb,1,none⟩=some eS/\w.cell? ⟨nb,2,none⟩=some (.string ⟨#[98,111,100,121]⟩)/\w.cell? ⟨nb,3,none⟩=some sN/\w.cell? ⟨nb,4,none⟩=some (.slice KB kids.length kc)/\w.cell? ⟨nb,5,none⟩=some eS/\w.cell? ⟨nb,6,none⟩=some (nI 0):=by
 refine ⟨?_,?_,?_,?_,?_,?_,?_⟩<;>(rw[Zp h];rfl)
theorem Zj9 {AB RB A KB:Option Addr} {rc F:Nat} {kids:List Nc} {L:List Fd} (H:Nc.nds kids=outsP 66 0 L):(Nc.mk 0 [] opmlL (.slice AB 1 ac) [pairA (versionL,twoL)] (.slice RB 2 rc) [(Nc.mk 0 [] headL sN [] (.slice A 0 F) [] [] 0),(Nc.mk 0 [] bodyL sN [] (.slice KB kids.length kc) kids [] 0)] [] 0).nd=encP L:=by
 have q:elems [elemN headL [],elemN bodyL (outsP 66 0 L)]:=λk h=>by
  rcases ZF.1 h with rfl|h
  ·rfl
  ·rw[Zo.1 h];rfl
 have D:elemN bodyL (outsP 66 0 L)= .mk 0 [] bodyL [] (outsP 66 0 L) [] 0:=by unfold elemN;rw[Jk (UO 66 0 L)]
 unfold encP;rw[Zje q,D,Nc.nd,Nc.nds,Nc.nds,Nc.nds,Nc.nd,Nc.nd,Nc.nds,H];rfl
def dstE:Nat->Nat|0=>16|2=>18|3=>19|4=>20|_=>21
def depE:Nat->List Nat|2=> [0]|3=> [2]|5=> [3,4]|_=> []
def FE (zt:Nat) (KB:Option Addr) (kc:Nat) (kids:List Nc):Nat->Value->Wq->Prop
 |0,v,w=>∃HB hc,v= .agg #[nI 0,eS,.string ⟨#[104,101,97,100]⟩,sN,.slice HB 0 hc,eS,nI 0]/\RNs w (.slice HB 0 hc) []
 |2,v,w=>∃HB hc,RNs w v [(Nc.mk 0 [] headL sN [] (.slice HB 0 hc) [] [] 0),(Nc.mk 0 [] bodyL sN [] (.slice KB kids.length kc) kids [] 0)]/\RNs w (.slice HB 0 hc) []
 |3,v,w=>∃HB hc RB rc ro,v= .agg #[nI 0,eS,.string ⟨#[111,112,109,108]⟩,sN,.slice RB 2 rc,eS,nI 0]/\w.ownsRow ro 25 7 (.slice RB 2 rc) 2 (flatN [(Nc.mk 0 [] headL sN [] (.slice HB 0 hc) [] [] 0),(Nc.mk 0 [] bodyL sN [] (.slice KB kids.length kc) kids [] 0)])/\zt<=ro/\RNs w (.slice HB 0 hc) []
 |4,v,w=>RStrs w v (pairS [(versionL,twoL)])
 |_,v,w=>∃HB hc RB rc ro AB ac ao,v= .agg #[nI 0,eS,.string ⟨#[111,112,109,108]⟩,.slice AB 1 ac,.slice RB 2 rc,eS,nI 0]/\w.ownsRow ro 25 7 (.slice RB 2 rc) 2 (flatN [(Nc.mk 0 [] headL sN [] (.slice HB 0 hc) [] [] 0),(Nc.mk 0 [] bodyL sN [] (.slice KB kids.length kc) kids [] 0)])/\zt<=ro/\RNs w (.slice HB 0 hc) []/\w.ownsRow ao 88 4 (.slice AB 1 ac) 1 (flatA [pairA (versionL,twoL)])/\zt<=ao
theorem Zkq {KB:Option Addr} {kids:List Nc}:∀(i:Nat) (v:Value) (w w':Wq),FE zt KB kc kids i v w->Ext w w'->FE zt KB kc kids i v w':=by
 intro i v w w' h q;unfold FE at*;split at h
 ·obtain ⟨A,H,D,F⟩:=h;exact ⟨A,H,D,F.ext q⟩
 ·obtain ⟨A,H,D,F⟩:=h;exact ⟨A,H,D.ext q,F.ext q⟩
 ·obtain ⟨A,H,RB,rc,ro,D,F,I,J⟩:=h;exact ⟨A,H,RB,rc,ro,D,Ye F q,I,J.ext q⟩
 ·exact h.ext q
 ·obtain ⟨A,H,RB,rc,ro,AB,ac,ao,D,F,I,J,K,M⟩:=h;exact ⟨A,H,RB,rc,ro,AB,ac,ao,D,Ye F q,I,J.ext q,Ye K q,M⟩
def EncRet (w':Wq) (v:Value) (L:List Fd):Prop:=
 if okA L=true then ∃x:Nc,v= .tuple #[.agg (cellsN x).toArray,nI 0]/\x.nd=encP L/\RdN w' x else v= .tuple #[.agg #[nI 0,eS,eS,sN,sN,eS,nI 0],nI 22]
theorem Ze1 (v:Value) (l:List Fc) (w:Wq) (hE:Env w) (hr:RFcs w v l) (hs:∀x∈l,RdC w x) (hk:∀x∈l,fokS x.f) (hn:l.length<=1000000):
 Calls prog 20 #[.agg #[v]] w λe w'=>∃r,e= .returned r/\EncRet w' r (l.map Fc.f)/\Ext w w':=by
 obtain ⟨A,c,rfl, -, -⟩:=hr.form;obtain ⟨W0,hd⟩:∃W0,(w.alloc (.cells #[.slice A l.length c] 31)).alloc (.cells #[nI 0,eS,eS,sN,sN,eS,nI 0] 25)=W0:=⟨_,rfl⟩;have hH:Ext w W0:=by rw[<-hd];exact ((Ext.refl w).alloc _).alloc _
 have hA:W0.heap[w.heap.size]? =some (.cells #[.slice A l.length c] 31 (0,0)):=by rw[<-hd];exact (JJ _ _ (by rw[Zq];omega)).trans (Zg w _)
 have hI:W0.heap[w.heap.size+1]? =some (.cells #[nI 0,eS,eS,sN,sN,eS,nI 0] 25 (0,0)):=by rw[<-hd];exact Ys w _ _
 have b0:W0.cell? ⟨w.heap.size,0,none⟩=some (.slice A l.length c):=(Zp hA 0).trans rfl;have hb:=gd hH;have hM:=gd hI;have HN:=gd hn;have X:=gd (λ(w':Wq) (h:Ext w w')=>ZdX (.slice A l.length c) l w' (hE.ext h) (hr.ext h) (λx R=>(hs x R).ext h) hk hn);have ha:=λ(ho:okA (l.map Fc.f)=true) (w':Wq) (h:Ext w w')=>ZiP 66 0 (.slice A l.length c) l w' (Zj5 ho) (hr.ext h) (λx R=>(hs x R).ext h) hn (by decide);have hG:W0.heap.size=w.heap.size+2:=by rw[<-hd,Zq,Zq]
 have hl:=gd hG;unfold EncRet;by_cases ho:okA (l.map Fc.f)=true
 ·have h9:=gd (ha ho);have Z:=X;rw[Zh ho] at Z;simp only[Zh ho];clear ho ha X hE hr hs hk hn hH hA hI hG;go_enter func20,ntmps20
  go_wp2_with (first|(go_at_call 43;(with_reducible refine Za (Z.out _ hb.out) ?_);rintro e1 w1 ⟨rfl,Q⟩;(have c0:=Q.cell b0))|(go_at_call 45;refine Za (h9.out _ (hb.out.trans Q)) ?_;rintro e2 w2 ⟨u,kids,rfl,hq,hC,hT,hU,ht⟩)|(go_at_call 44;refine Za (ZgA u kids w2 hq.reads (λy hy=>⟨(Xg kids).1 hq.rd y hy,hT y hy⟩) (by have h:=Zz List.length hC;rw[X2] at h;have h2:=Zec 66 0 (l.map Fc.f);rw[Zs] at h2;have:=HN.out;omega)) ?_;rintro e3 w3 ⟨KB,kc,rfl,hD,hh⟩)|(refine Zd rfl 25 (.tmp 5) (.tmp 15) rfl w3.heap.size _ rfl rfl _ _ (Zg _ _) Zv rfl Zk5 ?_;rw[ZW]))
  have h7:=gd hC;obtain ⟨W4,hp⟩:∃q,w3.alloc (.cells #[nI 0,eS,.string ⟨#[98,111,100,121]⟩,sN,.slice KB kids.length kc,eS,nI 0] 25)=q:=⟨_,rfl⟩;have Y:Ext w3 W4:=by rw[<-hp];exact (Ext.refl w3).alloc _
  have hB:W4.heap[w3.heap.size]? =some (.cells #[nI 0,eS,.string ⟨#[98,111,100,121]⟩,sN,.slice KB kids.length kc,eS,nI 0] 25 (0,0)):=by rw[<-hp];exact Zg w3 _
  (try rw[hp]);obtain ⟨nb,hF⟩:∃q,w3.heap.size=q:=⟨_,rfl⟩;rw[hF] at hB;(try rw[hF]);have hu:RdN W4 (Nc.mk 0 [] bodyL sN [] (.slice KB kids.length kc) kids [] 0):=by rw[RdN];exact ⟨RAts.nil _,(RSl.of_own hD).ext Y,RdNs.ext (hh.trans Y) _ hq.rd⟩
  have gk:=Q.size;have gl:=ht.size;have gm:=hh.size;have gn:=Y.size;have h0:Hid (awayN (some (w.heap.size+1)) (Nc.mk 0 [] bodyL sN [] (.slice KB kids.length kc) kids [] 0)):=gd (by rw[awayN];exact ⟨Or.inl rfl,Or.inr (XT hD (by have:=hl.out;omega)),hU _ (by have:=hl.out;omega)⟩);have h8:Hid (nb≠w.heap.size+1):=gd (by have:=hl.out;omega);have ga:Hid (w.heap.size+2<=W4.heap.size):=gd (by have:=hl.out;omega);have hY:=((Q.trans ht).trans (hh.trans Y)).heap hM.out;have H:=(Ext.refl W4).drew;refine rN ?_;change wpAny _ _ _ _ _ _ _ (World.drew _);obtain ⟨Wt,hP⟩:∃q,World.drew W4=q:=⟨_,rfl⟩;rw[hP] at H|-;obtain ⟨zt,hJ⟩:∃zt,zt=Wt.heap.size:=⟨_,rfl⟩;have ge:=gd hJ;have gb:Hid (w.heap.size+2<=zt):=gd (by rw[hJ];exact Zu ga.out H.size);have hL:=gd (RdN.ext H _ hu);have hj:=gd (H.heap hB);have gc:=gd (H.heap hY);have hm:=gd (((hb.out.trans (Q.trans ht)).trans (hh.trans Y)).trans H);have gp:=gd (Ext.refl Wt);have gf:Ext w Wt/\Wt.heap[nb]? =some (.cells #[nI 0,eS,.string ⟨#[98,111,100,121]⟩,sN,.slice KB kids.length kc,eS,nI 0] 25 (0,0)):=⟨hm.out,hj.out⟩;clear Y hB hp hF hu hY H hP Q ht hh hq hC hT hU hD c0 b0 hd hJ gk gl gm gn;refine Yj (λw'=>Ext w w'/\w'.heap[nb]? =some (.cells #[nI 0,eS,.string ⟨#[98,111,100,121]⟩,sN,.slice KB kids.length kc,eS,nI 0] 25 (0,0))) ?_;refine tS 1 (.agg #[nI 0,eS,.string ⟨#[98,111,100,121]⟩,sN,.slice KB kids.length kc,eS,nI 0]) rfl (λw' hS=>by obtain ⟨q0,q1,q2,q3,q4,q5,q6⟩:=Zlf hS.2;go_simp) gf ?_;go_simp;refine ID (m:=2) (f:=5) rfl #[true,true,true,true,true,true,false,false] (λa0 a' w'=>∃(x1 x2 x3 x4:Value) (I RB AB:Option Addr) (J rc ac ro ao:Nat),a'=(((((a0.put (some 16) x1).put (some 18) x2).put (some 19) x3).put (some 20) x4).put (some 21) (.agg #[nI 0,eS,.string ⟨#[111,112,109,108]⟩,.slice AB 1 ac,.slice RB 2 rc,eS,nI 0]))/\
   Ext Wt w'/\RNs w' (.slice I 0 J) []/\w'.ownsRow ro 25 7 (.slice RB 2 rc) 2 (flatN [(Nc.mk 0 [] headL sN [] (.slice I 0 J) [] [] 0),(Nc.mk 0 [] bodyL sN [] (.slice KB kids.length kc) kids [] 0)])/\w'.ownsRow ao 88 4 (.slice AB 1 ac) 1 (flatA [pairA (versionL,twoL)])/\zt<=ro/\zt<=ao) ?_ ?_
  ·refine V8 [0,2,3,4,5] dstE depE (FE zt KB kc kids) rfl (by kernel_rfl) (by decide) (by decide) (by kernel_rfl) (by decide) (by kernel_rfl) (λi _=>Zkq i) (λw' R=>⟨hm.out.trans R,R.heap hj.out⟩) ?_ ?_
   ·intro i hi A w' vs R M D;have hN:Hid (zt<=w'.heap.size):=gd (by rw[ge.out];exact R.size);have h6:=gd (RdN.ext R _ hL.out);simp only[ZF,Ya,Xs] at hi;rcases hi with rfl|rfl|rfl|rfl|rfl
    ·clear M D R;refine U7 rfl rfl (λK hK=> ?_);go_simp;go_at_call 44;refine Za (ZgB w') ?_;rintro e V ⟨I,J,rfl,F,hv⟩;exact hK _ _ hv ⟨I,J,rfl,F⟩
    ·have e1:A.tmps[17]?.getD undef= .agg #[nI 0,eS,.string ⟨#[98,111,100,121]⟩,sN,.slice KB kids.length kc,eS,nI 0]:=Jy ((M 17 (by decide)).trans rfl);obtain ⟨e2,I,J,e0,F⟩:=D 0 (by simp[depE]);have e2:A.tmps[16]?.getD undef=vs 0:=Jy e2;rw[e0] at e2;clear M D R;refine U7 rfl rfl (λK hK=> ?_);go_simp;exact hK _ _ ((Ext.refl w').alloc _) ⟨I,J,Yn (w:=w') (n:=2) (cs:=flatN [(Nc.mk 0 [] headL sN [] (.slice I 0 J) [] [] 0),(Nc.mk 0 [] bodyL sN [] (.slice KB kids.length kc) kids [] 0)]) rfl (by decide),F.ext ((Ext.refl w').alloc _)⟩
    ·obtain ⟨e2,I,J,gj,F⟩:=D 2 (by simp[depE]);have e2:A.tmps[18]?.getD undef=vs 2:=Jy e2;clear M D R;refine U7 rfl rfl (λK hK=> ?_);go_simp;go_at_call 44;refine Za (ZgE (vs 2) [(Nc.mk 0 [] headL sN [] (.slice I 0 J) [] [] 0),(Nc.mk 0 [] bodyL sN [] (.slice KB kids.length kc) kids [] 0)] w' gj (λy hy=> ?_) (by show 2<=16777216;decide)) ?_
     ·rcases ZF.1 hy with rfl|hy
      ·exact ⟨by rw[RdN];exact ⟨RAts.nil _,F,by rw[RdNs];trivial⟩,rfl⟩
      ·rw[Zo.1 hy];exact ⟨h6.out,rfl⟩
     rintro e V ⟨RB,rc,rfl,S,hv⟩;exact hK _ _ hv ⟨I,J,RB,rc,_,rfl,S,hN.out,F.ext hv⟩
    ·clear M D R;refine U7 rfl rfl (λK hK=> ?_);go_simp;exact hK _ _ ((Ext.refl w').alloc _) (Zjh w')
    ·obtain ⟨e1,I,J,RB,rc,ro,e3,S,gi,F⟩:=D 3 (by simp[depE]);obtain ⟨e2,go⟩:=D 4 (by simp[depE]);have e1:A.tmps[19]?.getD undef=vs 3:=Jy e1;have e2:A.tmps[20]?.getD undef=vs 4:=Jy e2;rw[e3] at e1;clear M D R;refine U7 rfl rfl (λK hK=> ?_);go_simp;go_at_call 46;refine Za (ZhV RB 2 rc (vs 4) w' go) ?_;rintro e V ⟨AB,ac,rfl,hg,hv⟩;exact hK _ _ hv ⟨I,J,RB,rc,ro,AB,ac,_,rfl,Ye S hv,gi,F.ext hv,hg,hN.out⟩
   ·intro vs w' R hf;obtain ⟨I,J,RB,rc,ro,AB,ac,ao,e5,h1,h2,h3,h4,h5⟩:=hf 5 (by decide);exact ⟨by kernel_rfl,vs 0,vs 2,vs 3,vs 4,I,RB,AB,J,rc,ac,ro,ao,by rw[<-e5];kernel_rfl,R,h3,h1,h4,h2,h5⟩
  ·rintro a' W7 ⟨y1,y2,y3,y4,I,RB,AB,J,rc,ac,ro,ao,rfl,U,F,S,hg,hV,hQ⟩;have hW:RdN W7 (Nc.mk 0 [] opmlL (.slice AB 1 ac) [pairA (versionL,twoL)] (.slice RB 2 rc) [(Nc.mk 0 [] headL sN [] (.slice I 0 J) [] [] 0),(Nc.mk 0 [] bodyL sN [] (.slice KB kids.length kc) kids [] 0)] [] 0):=(by rw[RdN,RdNs,RdNs,RdNs];exact ⟨RSl.of_own hg,RSl.of_own S,by rw[RdN];exact ⟨RAts.nil _,F,by rw[RdNs];trivial⟩,RdN.ext U _ hL.out,trivial⟩);have hZ:=U.heap gc.out;have hR:awayN (some (w.heap.size+1)) (Nc.mk 0 [] opmlL (.slice AB 1 ac) [pairA (versionL,twoL)] (.slice RB 2 rc) [(Nc.mk 0 [] headL sN [] (.slice I 0 J) [] [] 0),(Nc.mk 0 [] bodyL sN [] (.slice KB kids.length kc) kids [] 0)] [] 0):=(by have h1:=gb.out;rw[awayN,awayNs,awayNs,awayNs];exact ⟨Or.inr (XT hg (by omega)),Or.inr (XT S (by omega)),by rw[awayN];exact ⟨Or.inl rfl,Or.inl rfl,by rw[awayNs];trivial⟩,h0.out,trivial⟩);obtain ⟨W8,he⟩:∃q,W7.setRow (w.heap.size+1) #[nI 0,eS,.string ⟨#[111,112,109,108]⟩,.slice AB 1 ac,.slice RB 2 rc,eS,nI 0]=q:=⟨_,rfl⟩;have hw:RdN W8 (Nc.mk 0 [] opmlL (.slice AB 1 ac) [pairA (versionL,twoL)] (.slice RB 2 rc) [(Nc.mk 0 [] headL sN [] (.slice I 0 J) [] [] 0),(Nc.mk 0 [] bodyL sN [] (.slice KB kids.length kc) kids [] 0)] [] 0):=(by rw[<-he];exact RdN.grown (Yr _ _ _) _ hW hR);have hX:Ext w W8:=(by rw[<-he];exact (hm.out.trans U).setRow (Yf _) _);have gg:W8.heap[w.heap.size+1]? =some (.cells #[nI 0,eS,.string ⟨#[111,112,109,108]⟩,.slice AB 1 ac,.slice RB 2 rc,eS,nI 0] 25 (0,0)):=(by rw[<-he];exact Zm _ _ _ _ _ _ hZ);have gh:W8.heap[nb]? =some (.cells #[nI 0,eS,.string ⟨#[98,111,100,121]⟩,sN,.slice KB kids.length kc,eS,nI 0] 25 (0,0)):=(by rw[<-he];exact (ZY _ _ _ _ h8.out).trans (U.heap hj.out));have hz:=gd (show (Nc.mk 0 [] opmlL (.slice AB 1 ac) [pairA (versionL,twoL)] (.slice RB 2 rc) [(Nc.mk 0 [] headL sN [] (.slice I 0 J) [] [] 0),(Nc.mk 0 [] bodyL sN [] (.slice KB kids.length kc) kids [] 0)] [] 0).nd=encP (l.map Fc.f)/\RdN W8 (Nc.mk 0 [] opmlL (.slice AB 1 ac) [pairA (versionL,twoL)] (.slice RB 2 rc) [(Nc.mk 0 [] headL sN [] (.slice I 0 J) [] [] 0),(Nc.mk 0 [] bodyL sN [] (.slice KB kids.length kc) kids [] 0)] [] 0)/\Ext w W8 from ⟨Zj9 h7.out,hw,hX⟩);have gq:Ext w W7/\W7.heap[nb]? =some (.cells #[nI 0,eS,.string ⟨#[98,111,100,121]⟩,sN,.slice KB kids.length kc,eS,nI 0] 25 (0,0)):=⟨hm.out.trans U,U.heap hj.out⟩;have hO:Ext w W8/\W8.heap[nb]? =some (.cells #[nI 0,eS,.string ⟨#[98,111,100,121]⟩,sN,.slice KB kids.length kc,eS,nI 0] 25 (0,0)):=⟨hX,gh⟩;clear hW hR hw S hg F hV hQ U;go_simp;refine sS 6 λK hK=> ?_;refine Yc rfl 25 (.tmp 2) (.tmp 21) rfl (w.heap.size+1) _ rfl rfl _ _ hZ Zv rfl Zk9 ?_;rw[he];refine hK _ _ hO ?_;clear hK K;go_simp;refine sS 7 λK hK=> ?_;go_simp;refine hK _ _ hO ?_;clear hK K;refine sE ?_;go_wp2;((try simp only[Exit.inBlock,Exit.then]);refine Zl (Z6 rfl _ _ _ _ _ _ _ rfl gg underlying25 rfl Zv) rfl ?_);exact ⟨_,rfl,⟨(Nc.mk 0 [] opmlL (.slice AB 1 ac) [pairA (versionL,twoL)] (.slice RB 2 rc) [(Nc.mk 0 [] headL sN [] (.slice I 0 J) [] [] 0),(Nc.mk 0 [] bodyL sN [] (.slice KB kids.length kc) kids [] 0)] [] 0),rfl,hz.out.1,hz.out.2.1⟩,hz.out.2.2⟩
 ·have Z:=X;rw[Ze ho] at Z;simp only[Ze ho];clear ho ha X hE hr hs hk hn hH hA hI hG;go_enter func20,ntmps20
  go_wp2_with (first|(go_at_call 43;(with_reducible refine Za (Z.out _ hb.out) ?_);rintro e1 w1 ⟨rfl,Q⟩;(have z1:=Q.heap hM.out))|(refine Zd rfl 25 (.tmp 2) (.tmp 10) rfl (w.heap.size+1) _ rfl rfl _ _ z1 Zv rfl Zkm ?_))
  ((try simp only[Exit.inBlock,Exit.then]);refine Zl (Z6 rfl _ _ _ _ _ _ _ rfl (Zm _ _ _ _ _ _ z1) underlying25 rfl Zv) rfl ?_);exact ⟨_,rfl,rfl,(hb.out.trans Q).setRow (Yf _) _⟩
end
def strsV (l:List (List UInt8)):List Value:=l.map λs=>Value.string (str s)
theorem KD (x:Nc) (v:Value) (q:List (List UInt8)) (w:Wq) (h:RAts w x.al x.attrs) (Q:isSl x.ks) (Z:x.attrs.length<=16777216) (hv:RSl w 1 v q.length (strsV q)) (hc:q.length<=1000):
 Calls prog 28 #[.agg (cellsN x).toArray,v] w λe w'=>e= .returned (.string (str (attrFst x.attrs q)))/\Ext w w':=by
 obtain ⟨k,s,n,al,l,ks,kids,t,a⟩:=x;simp only[Nc.al,Nc.attrs,Nc.ks] at h Q Z;obtain ⟨A,c,rfl, -, -⟩:=h.form;obtain ⟨B,m,d,rfl⟩:=Q;obtain ⟨_,VA,vc,rfl, -, -, -, -⟩:=id hv;simp only[cellsN,Nc.attrs];obtain ⟨R,V⟩:∃R,attrFst l q=R:=⟨_,rfl⟩;rw[V];have HR:Hid (attrFst l (q.drop 0)=R):=V;clear V;have K:=(Ext.refl w).alloc (.cells #[nI (k:Nat),.string (str s),.string (str n),.slice A l.length c,.slice B m d,.string (str t),nI (a:Nat)] 25);go_enter func28,ntmps28;go_wp2;go_loopw [11] (λu wr=>∃j:Nat,j<=q.length/\u=nI j/\Hid (attrFst l (q.drop j)=R)/\Ext (w.alloc (.cells #[nI (k:Nat),.string (str s),.string (str n),.slice A l.length c,.slice B m d,.string (str t),nI (a:Nat)] 25)) wr) (λu _=>q.length - (intOf u).toNat)
 case atStart=>exact ⟨0,Zk _,rfl,HR,Ext.refl _⟩
 case round=>
  obtain ⟨j,hj,rfl,S,F⟩:=hrel;by_cases J:j<q.length
  ·obtain ⟨ad,rfl,X⟩:=(RSl.ext hv (K.trans F)).at1 j (.string (str q[j])) (by unfold strsV;rw[YD,Zr J];rfl);have ha:(0:Int)<=(j:Int):=(by omega);have hb:(j:Int)<(q.length:Int):=(by omega);have I:=S.out;have b0:=F.boxed 0 _ rfl;have b1:=F.boxed 1 _ rfl;have b2:=F.boxed 2 _ rfl;have b3:=F.boxed 3 _ rfl;have b4:=F.boxed 4 _ rfl;have b5:=F.boxed 5 _ rfl;have b6:=F.boxed 6 _ rfl;have D:=Zc4 (.mk k s n (.slice A l.length c) l (.slice B m d) kids t a) [] q[j] wr (RAts.ext h (K.trans F)) ⟨_,_,_,rfl⟩ Z;simp only[cellsN,Nc.attrs,UW] at D;cases hq:attrN l [] q[j] with
   |some v=>
    rw[Zie J hq] at I;subst I;rw[hq] at D;unfold lookAns at D;dsimp only at D;have U:=gd D;clear S hq D;generalize q[j]=nm at*
    go_wp2_with (first|(go_at_call 31;(with_reducible refine Za U.out ?_);rintro e w' ⟨rfl,M⟩))
    go_ret;exact ⟨rfl,(K.trans F).trans M⟩
   |none=>
    rw[Zgz J hq] at I;rw[hq] at D;unfold lookAns at D;dsimp only at D;have U:=gd D;have HN:=gd I;clear S hq D I;generalize q[j]=nm at*
    go_wp2_with (first|(go_at_call 31;(with_reducible refine Za U.out ?_);rintro e w' ⟨rfl,M⟩))
    go_roundw
    case rel=>exact ⟨j+1,J,by go_num,HN,F.trans M⟩
    case measure=>simp[intOf];omega
  ·have Y:j=q.length:=(by omega);have H:=S.out;rw[ZC (by omega)] at H;unfold attrFst at H;subst H;clear S;subst Y;go_wp2;go_ret;exact ⟨rfl,K.trans F⟩
end Go.Proofs.YtnlafkgkcnenfaaGreatDoor
