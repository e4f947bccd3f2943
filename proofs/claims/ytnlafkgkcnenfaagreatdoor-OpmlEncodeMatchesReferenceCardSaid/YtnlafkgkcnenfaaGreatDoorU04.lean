/- Parts of the proof: contracts and plain laws. -/
import Derived.Test.YtnlafkgkcnenfaaGreatDoorU03
namespace Go.Proofs.YtnlafkgkcnenfaaGreatDoor
open Go Go.RowKit Go.WideMaps Go.Maps _root_.Go.Proofs.Tryz
set_option linter.unusedVariables false
set_option linter.unusedSimpArgs false
set_option maxRecDepth 100000
set_option maxHeartbeats 16000000
section
variable {B B' n:Nat} {e:TypeId} {v:Value} {w:World} {xs:List Value}
theorem ZkE (e:Ent) (w:Wq):Calls prog 111 #[.agg (eCells e).toArray] w λx w'=>x= .returned (.string e.id)/\Ext w w':=by
 unfold eCells;go_enter func111,ntmps111;go_wp2;go_ret;exact ⟨rfl,(Ext.refl _).alloc _⟩
theorem UT:Keyed prog 9:=string_keyed underlying9
theorem Zbz (w:Wq):(zeroValue 3).run prog w= .ok (nI 0) w:=by kernel_rfl
theorem ZmU:(prog.info? 53).map (λi=>(i.zero,i.size,i.bytes))=some (some sN,1,24):=by kernel_rfl
theorem Zb1 (l:List Ent):(ordE.firsts l).length<=l.length:=by
 suffices h:∀(n:Nat) (l:List Ent),l.length=n->(ordE.firsts l).length<=l.length from h _ l rfl
 intro n
 induction n with
 |zero=>intro l A;rw[Zm A];exact Zc _
 |succ n ih=>
  intro l A;obtain ⟨l',e,rfl⟩:∃l' e,l=l'++ [e]:=by
   rcases List.eq_nil_or_concat l with h|⟨l',e,h⟩
   ·subst h;simp at A
   ·exact ⟨l',e,by simpa using h⟩
  have:=ih l' (by simpa using A);rw[ordE.firsts_snoc];split<;>simp<;>omega
theorem ZjQ (l:List Ent) (s:ByteArray):(grp l s).length<=l.length:=List.length_filter_le _ _
theorem X4 {size:Nat} (h:w.ownsRow B e size v n xs) (I:B'<=B):w.ownsRow B' e size v n xs:=by
 refine ⟨h.1,?_⟩;rcases h.2 with D|⟨g,cap,A,F,D,H⟩
 ·exact Or.inl D
 ·exact Or.inr ⟨g,cap,A,F,Zp I D,H⟩
theorem Grps.grow' {w0 w1 w w2:Wq} {B g cap:Nat} {l:List Ent} {fs:List ByteArray} {gv:List Value} {x:Ent} {i:Nat} {u u':Value} {s:ByteArray}
 (h:Grps w1 B (.slice (some ⟨g,0,none⟩) gv.length cap) l fs gv) (_hx0:Ext w0 w1) (V:Ext w1 w) (I:fs.Pairwise (· ≠ ·)) (S:fs[i]? =some s) (J:gv[i]? =some u) (K:ordE.id x=s)
 (F:w2.ownsRow B 76 5 u' ((grp l s).length+1) (flatE (grp l s)++eCells x)) (Q:w.grownBy w2 u.ownBlock) (H:u'.ownBlock=u.ownBlock\/u'.ownBlock=some w.heap.size) (D:u.ownBlock≠some g):
 w2.cell? ⟨g,i,none⟩=some u/\w2.frozen? ⟨g,i,none⟩=false/\Grps (w2.setCell ⟨g,i,none⟩ u') B (.slice (some ⟨g,0,none⟩) gv.length cap) (l++ [x]) fs (gv.set i u'):=by
 have R:=h.ext V;have A:=R.row.kept Q (Or.inr λe=>D e.symm);have U:i<gv.length:=(ZR.1 J).1;refine ⟨by rw[A.cellAt i om];exact J,A.frozenAt i,R.grow I S J K F Q ?_ D⟩;rcases H with e|e
 ·exact Or.inl e
 ·exact Or.inr ⟨_,Zc _,e⟩
theorem ZgE (v:Value) (l:List Ent) (w:Wq) (h:REnts w v l) (gT:∀x∈l,x.id.size<=16777216) (hn:l.length<=1000000):
 Calls prog 110 #[v,.func (.func 111) #[] #[]] w λx w'=>∃v' gv,x= .returned v'/\Grps w' w.heap.size v' l (ordE.firsts l) gv/\Ext w w':=by
 obtain ⟨i0,gO,gY,gZ,g0⟩:=YH IN;obtain ⟨i1,fc,fh,fi,fj⟩:=YH ZmU;obtain ⟨A,c,rfl,fe,fb⟩:=h.form;have ft:= @run_makeMap prog;have g6:=gd gT;clear fe fb gT;go_enter func110,ntmps110;go_wp2;go_loopw [6,14] (λo i wr=>∃(k:Nat) (gv:List Value) (D:DataW Unit),k<=l.length/\i=nI k/\Grps wr (w.heap.size+1) o (l.take k) (ordE.firsts (l.take k)) gv/\wr.ownsMap prog 9 (plainElem prog 3) w.heap.size k D/\Hid (IdxMap D (ordE.firsts (l.take k)))/\Ext w wr/\w.heap.size+1<=wr.heap.size) (λ_ i _=>l.length - (intOf i).toNat)
 case atStart=>exact ⟨0,[],.map [],Zj _,rfl,Grps.nil _ _,World.ownsMap_made _ _ _ _,IdxMap.nil,(Ext.refl _).alloc _,by simp⟩
 case round=>
  obtain ⟨k,gv,D,hk,rfl,hG,hM,hD,hx,hws⟩:=hrel;by_cases hw:k<l.length
  ·obtain ⟨ad,c',hv,hp⟩:=(h.ext hx).at hw;injection hv with hv1 hv2 hc;subst hv1;clear hv2 hc;have fg:=g6.out l[k] (ZL hw);have hV:=Zr hw;have hT:=ordE.firsts_snoc (l.take k) l[k];rw[<-hV] at hT;have gn:=Zb1 (l.take k);rw[ZM] at gn;have ht:=hG.len;have hU:=ordE.firsts_nodup (l.take k);obtain ⟨x,gX⟩:∃x,l[k]=x:=⟨_,rfl⟩;rw[gX] at hp fg hV hT;have gz:=gd hV;have gt:=gd hT;clear hV hT gX;have hL:=ZjQ (l.take k) x.id;rw[ZM] at hL;have U:keyOf prog 9 (.string x.id)=some (.string x.id.data.toList):=keyOf_string_mk underlying9 (by unfold maxLen;omega);have hm:=gd (λw'=>ZkE x w');have fm:(0:Int)<=(k:Int):=om;have fr:(k:Int)<(l.length:Int):=om;have hC:=hD.out.2 x.id;obtain ⟨a0,a1,a2,a3,a4⟩:=hp;by_cases K:x.id∈ordE.firsts (l.take k)
   ·have hh:Maps.has D (.string x.id.data.toList)=true:=hC.1.2 K;obtain ⟨j,hj⟩:=List.mem_iff_getElem?.1 K;have gQ:=hC.2 j hj;have gR:j<gv.length:=(by rw[ht];exact (ZR.1 hj).1);have g2:=gd gQ;have hz:=gd hh;have hr:=gd K;obtain ⟨g,cap,ho,hX⟩:∃g cap,(_:Value)= .slice (some ⟨g,0,none⟩) gv.length cap/\gv.length<=maxLen:=by
     rcases hG.row.2 with ⟨h1,h2⟩|⟨g,cap,fq,h1,_,_,h4,h5,_⟩
     ·omega
     ·exact ⟨g,cap,h1,Zp h4 h5⟩
    subst ho;obtain ⟨u,hu⟩:∃u,gv[j]? =some u:=⟨_,Zh gR⟩;have hq:=hG.each j x.id u hj hu;have gK:wr.cell? ⟨g,j,none⟩=some u:=(by rw[hG.row.cellAt j om];exact hu);have gL:=hG.row.frozenAt j;have gJ:=hG.row.lt g rfl;have h0:u.ownBlock≠some g:=by
     intro e;rcases hq.2 with ⟨rfl,_⟩|⟨b',c',fl,rfl,_,g9,_⟩
     ·cases e
     ·rcases hG.row.2 with ⟨h2,_⟩|⟨g',fp,g8,h2,_,gI,_⟩
      ·cases h2
      ·cases h2;cases e;rw[g9] at gI;simp at gI
    have gU:u.ownBlock≠some w.heap.size:=(by intro e;have:=(hq.lt _ e).1;omega);have g5:=gd hq;have h9:=gd hu;have h8:=gd hj;have ge:=gd h0;have gc:=gd gU;have hs:=gd gJ;have gS:(j:Int)<(gv.length:Int):=om;have gP:(0:Int)<=(j:Int):=om;have hl:Hid (((grp (l.take k) x.id).length+1)*72<=140737488355328):=gd om;have ga:Hid ((grp (l.take k) x.id).length+1<=maxLen):=gd (by unfold maxLen;omega);have gM:gv.length<=9223372036854775807:=om;have gu:=gd ht;have fk:=gd hX;clear gQ hh K hC hq hu hj h0 gU gJ ht hX gR hL gn;obtain ⟨F,Q,X,I,hi⟩:=x;simp only at a0 a1 a2 a3 a4 U;unfold eCells at hm;dsimp only at hm
    go_wp2_with (first|(go_at_call 111;refine (hm.out _).mono ?_;rintro e w2 ⟨rfl,R⟩;have e0:=R.boxed 0 _ rfl;have e1:=R.boxed 1 _ rfl;have e2:=R.boxed 2 _ rfl;have e3:=R.boxed 3 _ rfl;have e4:=R.boxed 4 _ rfl;have S:=(((Ext.refl wr).alloc _).trans R);have hf:=S.cell gK;have hJ:=(JP S hs.out.2).trans gL)|(at_lookup;refine wpList_lookup_own_ok_int _ rfl (.tmp 19) (.tmp 22) _ rfl 9 3 .i64 UT underlying162 underlying3 (Zbz _) w.heap.size k D rfl ((hM.kept (((Ext.refl wr).alloc _).grown none) (by simp)).kept (R.grown none) (by simp)) _ _ rfl U ?_;intro c hp gp;(have gH:c=(j:Int):=by (have e:=g2.out.symm.trans hp;injection e with e;injection e with _ e;exact e.symm));rw[hz.out,gH];clear hp gp gH c))
    have fo:=gd S;have h6:=gd (hG.ext S);have hS:=gd (hM.kept (S.grown none) (by simp));have hd:=gd (OEnts.ext g5.out S);have gh:=gd (hx.trans S);have gf:=gd (Zp hws S.size);have gb:=gd hU;clear hG hM U a0 a1 a2 a3 a4 gK gL R hU;have gN:g<w2.heap.size:=ZW w2 _ hf;have gG:wr.heap.size<w2.heap.size:=ZW w2 _ e0
    go_region_law (first|(refine Z1 _ (by rfl) (.tmp 43) (.tmp 45) _ (by rfl) (w.heap.size+1) 76 i0 _ 5 72 underlying53 gO gY gZ g0 rfl (by decide) u (grp (l.take k) F).length (flatE (grp (l.take k) F)) (by rfl) (Ya hd.out (by repeat (first|exact Ext.refl _|apply Ext.drew|apply Ext.alloc))) _ 1 (eCells ⟨F,Q,X,I,hi⟩) (by rfl) (RSl.ext (Yo rfl (by decide)) (by repeat (first|exact Ext.refl _|apply Ext.drew))) (X1 _) ga.out hl.out (Zp gf.out (by simp)) ?_;intro v3 w3 J Y he;(obtain ⟨g3,H,hc,fa⟩:∃g3 H,v3= .slice (some ⟨g3,0,none⟩) ((grp (l.take k) F).length+1) H/\True:=by (obtain ⟨g3,H,hc,_⟩:=J.form om;exact ⟨g3,H,hc,trivial⟩));subst hc;(have Z:=Grps.grow' h6.out (Ext.refl _) (by repeat (first|exact Ext.refl _|apply Ext.drew|apply Ext.alloc)) gb.out h8.out h9.out rfl J Y he ge.out);(have hI:=Z.1);(have hK:=Z.2.1);(have hO:=(hS.out.kept ((show Ext w2 _ from by repeat (first|exact Ext.refl _|apply Ext.drew|apply Ext.alloc)).grown none) (by simp)).kept Y (λe=>gc.out e.symm));(have hQ:Ext w w3:=Ext.grown' (B:=0) (Ext.trans gh.out (by repeat (first|exact Ext.refl _|apply Ext.drew|apply Ext.alloc))) Y (λb hb=>Zp (Yu _) (hd.out.lt b hb).1))))
    all_goals
     have hg:=Z.2.2
     have h7:=gd hg
     have hA:=gd (hO.setCell (a:=⟨g,j,none⟩) (show w.heap.size≠g by have:=hs.out.1;omega) (.slice (some ⟨g3,0,none⟩) ((grp (l.take k) F).length+1) H))
     have gg:=gd (hQ.setCell (p:=⟨g,j,none⟩) (show w.heap.size<=g by have:=hs.out.1;omega) (.slice (some ⟨g3,0,none⟩) ((grp (l.take k) F).length+1) H))
     clear Z hg hO hQ J Y he hI hK e0 e1 e2 e3 e4 hf hJ S
     go_wp2
     go_roundw
     case rel=>
      have hE:ordE.firsts (l.take (k+1))=ordE.firsts (l.take k):=gt.out.trans (Zi hr.out)
      exact ⟨k+1,gv.set j _,D,hw,by go_num,by rw[hE,gz.out];exact h7.out,hA.out.mono (Yu _),by rw[hE];exact hD,gg.out,hA.out.lt⟩
     case measure=>simp[intOf];omega
   ·have hh:Maps.has D (.string x.id.data.toList)=false:=by
     cases hb:Maps.has D (.string x.id.data.toList) with
     |false=>rfl
     |true=>exact absurd (hC.1.1 hb) K
    have hP:=hD.out.put (s:=x.id) K;rw[<-ht] at hP;have gy:=gd hP;have hz:=gd hh;have hr:=gd K;have hB:=gd (Zhc K);have gu:=gd ht;have gV:(Lit.int .i64 (gv.length:Nat)).wf=true:=(by simp only[Lit.wf,IntKind.min,IntKind.max,ZG];simp[IntKind.signed,IntKind.bits];omega);have g7:=gd gV;have hW:=Zg wr (.cells (eCells x).toArray 76);have h3:=gd hW;have gs:Hid ((gv.length+1)*24<=140737488355328):=gd om;have gx:Hid (gv.length+1<=maxLen):=gd (by unfold maxLen;omega);have g4:Hid (k<maxLen):=gd (by unfold maxLen;omega);have gM:gv.length<=9223372036854775806:=om;clear hh K hP gV hW hC gn hL ht;obtain ⟨F,Q,X,I,hi⟩:=x;simp only at a0 a1 a2 a3 a4 U;unfold eCells at hm h3;dsimp only at hm h3;obtain ⟨gA,gC,ho⟩:=hG.form;subst ho;have g1:True:=trivial
    go_wp2_with (first|(clear g1;go_at_call 111;refine (hm.out _).mono ?_;rintro e w2 ⟨rfl,R⟩;have gk:=R.heap h3.out;obtain ⟨e0,e1,e2,e3,e4⟩:=Zo4 gk;have S:=(((Ext.refl wr).alloc _).trans R))|(at_lookup;refine wpList_lookup_own_ok_int _ rfl (.tmp 19) (.tmp 22) _ rfl 9 3 .i64 UT underlying162 underlying3 (Zbz _) w.heap.size k D rfl ((hM.kept (((Ext.refl wr).alloc _).grown none) (by simp)).kept (R.grown none) (by simp)) _ _ rfl U ?_;intro c hp gp;rw[hz.out];clear hp gp)|(go_at_call 111;refine (hm.out _).mono ?_;rintro e w4 ⟨rfl,gq⟩;have gl:=gq.heap gk;have hR:=S.trans gq)|(at_mapUpdate;refine UC _ rfl (.tmp 30) (.tmp 33) (.tmp 34) 162 rfl 9 3 UT underlying162 _ w.heap.size k D rfl (hM.kept (hR.grown none) (by simp)) g4.out _ _ _ rfl rfl U _ [] (plainElem_int underlying3 g7.out) ?_;intro w5 gj hF)|(at_builtin;refine ZO _ rfl (.tmp 35) (.tmp 36) _ rfl (w.heap.size+1) 53 i1 _ 1 24 underlying166 fc fh fi fj rfl (by decide) _ gv.length gv rfl ((((hG.ext hR).kept hF (Yy _)).row).alloc _) _ 1 [sN] rfl (Yo rfl (by decide)) (by intro y hy;simp at hy;subst hy;rfl) gx.out gs.out ?_ ?_;(have:=gj.lt;simp;omega);intro v6 w6 V hH gE))
    obtain ⟨g,cap,ff,hY,hZ⟩:=V.form (Zig _);subst ff;have gW:Ext w w5:=Ext.grown' (B:=0) (hx.trans hR) hF (λb hb=>by cases hb;exact Zc _);have gB:=(hG.ext hR).kept hF (Yy _);have hN:gv.length+1=(gv++ [Value.slice none 0 0]).length:=(by simp);have gi:=Grps.more (gB.ext ((Ext.refl _).alloc _)) hB.out V hH;rw[hN] at gi;have h6:=gd gi;have go:∀b,(Value.slice gA gv.length gC).ownBlock=some b->w.heap.size+1<=b:=λb hb=>(hG.row.lt b hb).1;have hS:=gd ((gj.alloc _).kept hH (λe=>by have:=go _ e.symm;omega));have gh:=gd (Ext.grown' (B:=0) (gW.alloc _) hH (λb hb=>Zp (Yu _) (go b hb)));have hq:OEnts w6 (w.heap.size+1) sN (grp (l.take k) F):=(by rw[hB.out];exact OEnts.nil _ _);have hd:=gd hq;have gD:w.heap.size+1<=w6.heap.size:=hS.out.lt;have gf:=gd gD;have gm:w5.heap[wr.heap.size]? =some (.cells #[.string F,.string Q,.string X,.string I,nI hi] 76):=(by rw[hF.block wr.heap.size (ZW w4 ⟨wr.heap.size,0,none⟩ (by rw[YO _ _ _ _ _ _ gl];rfl)) (by simp;omega)];exact gl);have gF:w6.heap[wr.heap.size]? =some (.cells #[.string F,.string Q,.string X,.string I,nI hi] 76):=(by rw[hH.block wr.heap.size (by have:wr.heap.size<w5.heap.size:=ZW w5 ⟨wr.heap.size,0,none⟩ (by rw[YO _ _ _ _ _ _ gm];rfl);simp;omega) (λe=>by have:=(hG.row.lt _ e.symm).2;omega)];exact ((Ext.refl w5).alloc _).heap gm);have gb:Hid ((ordE.firsts (l.take k)++ [F]).Pairwise (· ≠ ·)):=gd (by
     rw[List.pairwise_append];exact ⟨hU,by simp,λa ha b hb=>by simp at hb;subst hb;rintro rfl;exact hr.out ha⟩)
    have h8:Hid ((ordE.firsts (l.take k)++ [F])[gv.length]? =some F):=gd (by rw[gu.out];simp);have h9:Hid ((gv++ [Value.slice none 0 0])[gv.length]? =some sN):=gd (by simp);have ge:Hid ((Value.slice none 0 0).ownBlock≠some g):=gd (by intro e;cases e);have gc:Hid ((Value.slice none 0 0).ownBlock≠some w.heap.size):=gd (by intro e;cases e);have hs:=gd (V7 hY hZ);have hf:w6.cell? ⟨g,gv.length,none⟩=some sN:=(by rw[V.cellAt gv.length om];simp);have hJ:w6.frozen? ⟨g,gv.length,none⟩=false:=V.frozenAt gv.length;have gS:(gv.length:Int)<((gv.length:Nat):Int)+1:=om;have fn:gv.length<gv.length+1:=om;have gP:(0:Int)<=(gv.length:Int):=om;have hl:Hid ((grp (l.take k) F).length+1<=1/\True):=gd ⟨by rw[hB.out];simp,trivial⟩;have ga:Hid ((grp (l.take k) F).length+1<=maxLen):=gd (Zp hl.out.1 (by decide));have gr:Hid (((grp (l.take k) F).length+1)*72<=140737488355328):=gd (by have:=hl.out.1;omega);clear hl;have hl:=gr;have gw:=gd hN;clear e0 e1 e2 e3 e4;obtain ⟨e0,e1,e2,e3,e4⟩:=Zo4 gF;clear hG gB gi hM gj U a0 a1 a2 a3 a4 R gq S hR gk gl gm gF hF hH gE V gW go hq gD hN hY hZ hU;have gN:g<w6.heap.size:=ZW w6 _ hf;have gG:wr.heap.size<w6.heap.size:=ZW w6 _ e0
    go_region_law (first|(refine Z1 _ (by rfl) (.tmp 43) (.tmp 45) _ (by rfl) (w.heap.size+1) 76 i0 _ 5 72 underlying53 gO gY gZ g0 rfl (by decide) sN (grp (l.take k) F).length (flatE (grp (l.take k) F)) (by rfl) (Ya hd.out (by repeat (first|exact Ext.refl _|apply Ext.drew|apply Ext.alloc))) _ 1 (eCells ⟨F,Q,X,I,hi⟩) (by rfl) (RSl.ext (Yo rfl (by decide)) (by repeat (first|exact Ext.refl _|apply Ext.drew))) (X1 _) ga.out hl.out (Zp gf.out (by simp)) ?_;intro v3 w3 J Y he;(obtain ⟨g3,H,hc,fa⟩:∃g3 H,v3= .slice (some ⟨g3,0,none⟩) ((grp (l.take k) F).length+1) H/\True:=by (obtain ⟨g3,H,hc,_⟩:=J.form om;exact ⟨g3,H,hc,trivial⟩));subst hc;(have Z:=Grps.grow' h6.out (Ext.refl _) (by repeat (first|exact Ext.refl _|apply Ext.drew|apply Ext.alloc)) gb.out h8.out h9.out rfl J Y he ge.out);(have hI:=Z.1);(have hK:=Z.2.1);(have hO:=(hS.out.kept ((show Ext w6 _ from by repeat (first|exact Ext.refl _|apply Ext.drew|apply Ext.alloc)).grown none) (by simp)).kept Y (λe=>gc.out e.symm));(have hQ:Ext w w3:=Ext.grown' (B:=0) (Ext.trans gh.out (by repeat (first|exact Ext.refl _|apply Ext.drew|apply Ext.alloc))) Y (λb hb=>Zp (Yu _) (hd.out.lt b hb).1))))
    all_goals
     have hg:=Z.2.2
     have h7:=gd hg
     have hA:=gd (hO.setCell (a:=⟨g,gv.length,none⟩) (show w.heap.size≠g by have:=hs.out.1;omega) (.slice (some ⟨g3,0,none⟩) ((grp (l.take k) F).length+1) H))
     have gg:=gd (hQ.setCell (p:=⟨g,gv.length,none⟩) (show w.heap.size<=g by have:=hs.out.1;omega) (.slice (some ⟨g3,0,none⟩) ((grp (l.take k) F).length+1) H))
     clear Z hg hO hQ J Y he hI hK e0 e1 e2 e3 e4 hf hJ
     go_wp2
     go_roundw
     case rel=>
      have hE:ordE.firsts (l.take (k+1))=ordE.firsts (l.take k)++ [F]:=gt.out.trans (Ze hr.out)
      exact ⟨k+1,(gv++ [Value.slice none 0 0]).set gv.length _,D.put (.string F.data.toList) (.lit (.int .i64 (gv.length:Nat))),hw,by go_num,by rw[hE,gz.out,gw.out];exact h7.out,hA.out,by rw[hE];exact gy.out,gg.out,hA.out.lt⟩
     case measure=>simp[intOf];omega
  ·have fd:k=l.length:=om;subst fd;rw[ZQ (Zc _)] at hG hD;have HG:=gd hG;clear hG hD hM hk hw;go_wp2;go_ret;refine ⟨_,gv,rfl,?_,hx⟩;have h1:=HG.out;exact ⟨h1.len,X4 h1.row (Yu _),λj s u hj hu=>(h1.each j s u hj hu).mono (Yu _),h1.apart⟩
end
def RStrs (w:Wq) (v:Value) (l:List ByteArray):Prop:=RSl w 1 v l.length (l.map Value.string)
theorem RStrs.ext {w w':Wq} {v:Value} {l:List ByteArray} (h:RStrs w v l) (A:Ext w w'):RStrs w' v l:=RSl.ext h A
theorem RStrs.form {w:Wq} {v:Value} {l:List ByteArray} (h:RStrs w v l):∃A c,v= .slice A l.length c/\l.length<=c/\c<=maxLen:=by
 obtain ⟨_,A,c,e,D,F,_⟩:=h;exact ⟨A,c,e,D,F⟩
def fCells (p es:Value) (f:Fd):List Value:= [p,.string f.id,.string f.title,.string f.link,nI f.upd,es]
theorem Jh:(prog.info? 55).map (λi=>i.size)=some 6:=by kernel_rfl
def sizes (l:List ByteArray):Nat:=(l.map ByteArray.size).sum
def fok (f:Fd):Prop:=i64ok f.upd/\f.path.length+sizes f.path+f.id.size+f.title.size+f.link.size<=16777216
theorem XZ {l:List ByteArray} {s:ByteArray} (h:s∈l):s.size<=sizes l:=by
 induction l with
 |nil=>simp at h
 |cons x t ih=>
  have e:sizes (x::t)=x.size+sizes t:=by unfold sizes;simp
  rcases ZH.1 h with rfl|h
  ·omega
  ·have:=ih h;omega
theorem ZmF (p es:Value) (f:Fd) (w:Wq):Calls prog 65 #[.agg (fCells p es f).toArray] w λx w'=>x= .returned (.string f.id)/\Ext w w':=by
 unfold fCells;go_enter func65,ntmps65;go_wp2;go_ret;exact ⟨rfl,(Ext.refl _).alloc _⟩
section
variable {c d g m n:Nat} {w:World}
theorem YS (w:Wq) (A B:Obj):((w.alloc A).alloc B).heap[w.heap.size+1]? =some B:=by
 have:=Zg (w.alloc A) B
 rwa [Zu] at this
structure Fc where
 p:Value
 es:Value
 f:Fd
def cellsC (x:Fc):List Value:=fCells x.p x.es x.f
def isSl (v:Value):Prop:=∃A n c,v= .slice A n c
def slC (x:Fc):Prop:=isSl x.p/\isSl x.es
theorem Jv {x:Fc} (h:slC x):∀u∈cellsC x,u.oneCell'=true:=by
 obtain ⟨p,es,f⟩:=x;obtain ⟨⟨A,n,c,D⟩,⟨B,m,d,F⟩⟩:=h;simp only at D F;subst D F;intro u H;simp only[cellsC,fCells,ZH,ZY,Y1] at H;rcases H with rfl|rfl|rfl|rfl|rfl|rfl<;>rfl
theorem Ziv (x:Fc):(cellsC x).length=6:=rfl
def RdC (w:Wq) (x:Fc):Prop:=RStrs w x.p x.f.path/\REnts w x.es x.f.ents
theorem RdC.ext {w w':Wq} {x:Fc} (h:RdC w x) (A:Ext w w'):RdC w' x:=⟨h.1.ext A,h.2.ext A⟩
theorem RdC.sl {w:Wq} {x:Fc} (h:RdC w x):slC x:=by
 obtain ⟨A,c,e,_⟩:=h.1.form;obtain ⟨B,d,D,_⟩:=h.2.form;exact ⟨⟨A,_,c,e⟩,⟨B,_,d,D⟩⟩
def flatC (l:List Fc):List Value:=(l.map cellsC).flatten
theorem Zd1 (a b:List Fc):flatC (a++b)=flatC a++flatC b:=by unfold flatC;rw[ZS,UZ]
theorem ZkK (x:Fc):flatC [x]=cellsC x:=by unfold flatC;simp
def RFcs (w:Wq) (v:Value) (l:List Fc):Prop:=RSl w 6 v l.length (flatC l)
def OFcs (w:Wq) (B:Nat) (v:Value) (l:List Fc):Prop:=w.ownsRow B 55 6 v l.length (flatC l)
theorem OFcs.reads {w:Wq} {B:Nat} {v:Value} {l:List Fc} (h:OFcs w B v l):RFcs w v l:=RSl.of_own h
theorem RFcs.ext {w w':Wq} {v:Value} {l:List Fc} (h:RFcs w v l) (A:Ext w w'):RFcs w' v l:=RSl.ext h A
theorem OFcs.ext {w w':Wq} {B:Nat} {v:Value} {l:List Fc} (h:OFcs w B v l) (A:Ext w w'):OFcs w' B v l:=Ya h A
theorem RFcs.form {w:Wq} {v:Value} {l:List Fc} (h:RFcs w v l):∃A c,v= .slice A l.length c/\l.length<=c/\c<=maxLen:=by
 obtain ⟨_,A,c,e,D,F,_⟩:=h;exact ⟨A,c,e,D,F⟩
theorem OFcs.nil (w:Wq) (B:Nat):OFcs w B sN []:=YF _ _ _ _
theorem OFcs.snoc {w:Wq} {B:Nat} {v:Value} {l:List Fc} {x:Fc} (h:w.ownsRow B 55 6 v (l.length+1) (flatC l++cellsC x)):OFcs w B v (l++ [x]):=by
 unfold OFcs;rw[Zd1,ZkK,Zb];exact h
theorem OFcs.mono {w:Wq} {B B':Nat} {v:Value} {l:List Fc} (h:OFcs w B v l) (A:B'<=B):OFcs w B' v l:=X4 h A
structure AtFc (w:Wq) (q:Addr) (x:Fc):Prop where
 c0:w.cell? q=some x.p
 c1:w.cell? ⟨q.block,q.off+1,none⟩=some (.string x.f.id)
 c2:w.cell? ⟨q.block,q.off+2,none⟩=some (.string x.f.title)
 c3:w.cell? ⟨q.block,q.off+3,none⟩=some (.string x.f.link)
 c4:w.cell? ⟨q.block,q.off+4,none⟩=some (nI x.f.upd)
 c5:w.cell? ⟨q.block,q.off+5,none⟩=some x.es
theorem RFcs.at {w:Wq} {v:Value} {l:List Fc} (h:RFcs w v l) {k:Nat} (D:k<l.length):∃ad c,v= .slice (some ad) l.length c/\AtFc w (ad.add (k*6)) l[k]:=by
 obtain ⟨ad,c,e,hc⟩:=RSl.elem (k:=6) (css:=l.map cellsC) h (by decide) (by intro c hc;obtain ⟨x,_,rfl⟩:=ZU.1 hc;rfl) k (cellsC l[k]) (by rw[Yp,Zh D];rfl);rw[VF] at hc;have A:∀i,0<i->(ad.add (k*6)).add i=⟨(ad.add (k*6)).block,(ad.add (k*6)).off+i,none⟩:=λi F=>Ze om;refine ⟨ad,c,e,?_,?_,?_,?_,?_,?_⟩
 ·have:=hc 0 _ rfl;rwa [add_zero] at this
 ·have:=hc 1 _ rfl;rwa [A _ (by decide)] at this
 ·have:=hc 2 _ rfl;rwa [A _ (by decide)] at this
 ·have:=hc 3 _ rfl;rwa [A _ (by decide)] at this
 ·have:=hc 4 _ rfl;rwa [A _ (by decide)] at this
 ·have:=hc 5 _ rfl;rwa [A _ (by decide)] at this
theorem Zfv {A:Option Addr} {B:Option Addr} {i t l:ByteArray} {u:Int}:(#[Value.slice A n c,.string i,.string t,.string l,nI u,.slice B m d]).all (λu=>u.oneCell')=true:=
 Zcz (Jv (x:=⟨.slice A n c,.slice B m d,⟨[],i,t,l,u,[]⟩⟩) ⟨⟨_,_,_,rfl⟩,⟨_,_,_,rfl⟩⟩)
theorem GB {A:Option Addr}:(#[Value.slice A n c]).all (λu=>u.oneCell')=true:=Zcz (cs:= [Value.slice A n c]) (by intro u h;rw[Zo.1 h];rfl)
theorem RSl.grown {w w':Wq} {size n:Nat} {v:Value} {xs:List Value} {r:Option Nat} (h:RSl w size v n xs) (R:w.grownBy w' r) (D:xs= []\/v.ownBlock≠r):RSl w' size v n xs:=by
 obtain ⟨H,A,c,rfl,I,J,K,Q⟩:=h;refine ⟨H,A,c,rfl,I,J,K,λj u F=> ?_⟩;obtain ⟨ad,rfl,hc⟩:=Q j u F;refine ⟨ad,rfl,R.cell hc ?_⟩;rw[U1];rcases D with D|D
 ·subst D;simp at F
 ·exact D
theorem RSl.old {w:Wq} {size n:Nat} {v:Value} {xs:List Value} (h:RSl w size v n xs) (D:xs≠ []):∃g,v.ownBlock=some g/\g<w.heap.size:=by
 obtain ⟨H,A,c,rfl,I,J,K,F⟩:=h;cases xs with
 |nil=>exact absurd rfl D
 |cons u t=>
  obtain ⟨ad,rfl,hc⟩:=F 0 u rfl;refine ⟨ad.block,rfl,?_⟩;have:=ZW w _ hc
  rwa [U1] at this
def awayC (x:Fc) (r:Option Nat):Prop:=(x.f.path= []\/x.p.ownBlock≠r)/\(x.f.ents= []\/x.es.ownBlock≠r)
theorem ZbG {x:Fc} (h:RdC w x):awayC x none:=by
 refine ⟨?_,?_⟩
 ·cases hp:x.f.path with
  |nil=>exact Or.inl rfl
  |cons s t=>obtain ⟨g,A,_⟩:=RSl.old h.1 (by rw[hp];simp);exact Or.inr (by rw[A];simp)
 ·cases hp:x.f.ents with
  |nil=>exact Or.inl rfl
  |cons s t=>obtain ⟨g,A,_⟩:=RSl.old h.2 (by rw[hp];unfold flatE;simp[eCells]);exact Or.inr (by rw[A];simp)
theorem GX {x:Fc} (h:RdC w x) (F:w.heap.size<=g):awayC x (some g):=by
 refine ⟨?_,?_⟩
 ·cases hp:x.f.path with
  |nil=>exact Or.inl rfl
  |cons s t=>obtain ⟨k,A,D⟩:=RSl.old h.1 (by rw[hp];simp);exact Or.inr (by rw[A];intro e;injection e with e;omega)
 ·cases hp:x.f.ents with
  |nil=>exact Or.inl rfl
  |cons s t=>obtain ⟨k,A,D⟩:=RSl.old h.2 (by rw[hp];unfold flatE;simp[eCells]);exact Or.inr (by rw[A];intro e;injection e with e;omega)
theorem RdC.grown {w w':Wq} {x:Fc} {r:Option Nat} (h:RdC w x) (D:w.grownBy w' r) (A:awayC x r):RdC w' x:=
 ⟨RSl.grown h.1 D (A.1.imp (λe=>by rw[e];rfl) λe=>e),RSl.grown h.2 D (A.2.imp (λe=>by rw[e];rfl) λe=>e)⟩
structure HFs (w:Wq) (B:Nat) (v:Value) (l:List Fc):Prop where
 row:OFcs w B v l
 rd:∀x∈l,RdC w x
 away:∀x∈l,awayC x v.ownBlock
theorem HFs.nil (w:Wq) (B:Nat):HFs w B sN []:=⟨OFcs.nil _ _,by simp,by simp⟩
theorem HFs.ext {w w':Wq} {B:Nat} {v:Value} {l:List Fc} (h:HFs w B v l) (D:Ext w w'):HFs w' B v l:=⟨h.row.ext D,λx A=>(h.rd x A).ext D,h.away⟩
theorem HFs.snoc {w w3:Wq} {B:Nat} {v v3:Value} {l:List Fc} {x:Fc} (h:HFs w B v l) (K:RdC w x) (I:awayC x v.ownBlock)
 (F:w3.ownsRow B 55 6 v3 (l.length+1) (flatC l++cellsC x)) (J:w.grownBy w3 v.ownBlock) (H:v3.ownBlock=v.ownBlock\/v3.ownBlock=some w.heap.size):HFs w3 B v3 (l++ [x]):=by
 have D:∀y∈l++ [x],RdC w y/\awayC y v.ownBlock:=by
  intro y A;rcases Zs.1 A with A|A
  ·exact ⟨h.rd y A,h.away y A⟩
  ·rw[Zo.1 A];exact ⟨K,I⟩
 refine ⟨OFcs.snoc F,λy A=>(D y A).1.grown J (D y A).2,λy A=> ?_⟩;rcases H with e|e
 ·rw[e];exact (D y A).2
 ·rw[e];exact GX (D y A).1 (Zc _)
end
def firstsC (l:List Fc):List ByteArray:=ordF.firsts (l.map Fc.f)
open Classical in
theorem IH (l:List Fc) (e:Fc):firstsC (l++ [e])=if e.f.id∈firstsC l then firstsC l else firstsC l++ [e.f.id]:=by
 have h:=ordF.firsts_snoc (l.map Fc.f) e.f;unfold firstsC;rw[ZS,Zw,Z2];by_cases A:e.f.id∈ordF.firsts (l.map Fc.f)
 ·rw[Zi A];exact h.trans (Zi A)
 ·rw[Ze A];exact h.trans (Ze A)
theorem Zdj (l:List Fc):(firstsC l).Pairwise (· ≠ ·):=ordF.firsts_nodup _
theorem ZaT (l:List Fc) (k:ByteArray):k∈firstsC l↔∃x∈l,x.f.id=k:=by
 unfold firstsC;rw[ordF.mem_firsts];constructor
 ·rintro ⟨f,A,e⟩;obtain ⟨x,h,rfl⟩:=ZU.1 A;exact ⟨x,h,e⟩
 ·rintro ⟨x,h,e⟩;exact ⟨x.f,ZU.2 ⟨x,h,rfl⟩,e⟩
def grpC (l:List Fc) (s:ByteArray):List Fc:=l.filter λx=>decide (x.f.id=s)
structure GrpsC (w:Wq) (B:Nat) (v:Value) (l:List Fc) (fs:List ByteArray) (gv:List Value):Prop where
 len:gv.length=fs.length
 row:w.ownsRow B 29 1 v gv.length gv
 each:∀(j:Nat) (s:ByteArray) (u:Value),fs[j]? =some s->gv[j]? =some u->OFcs w B u (grpC l s)
 apart:∀(i j:Nat) (u u':Value),gv[i]? =some u->gv[j]? =some u'->i≠j->∀g,u.ownBlock=some g->u'.ownBlock≠some g
theorem GrpsC.ext {w w':Wq} {B:Nat} {v:Value} {l:List Fc} {fs:List ByteArray} {gv:List Value} (h:GrpsC w B v l fs gv) (A:Ext w w'):GrpsC w' B v l fs gv:=
 ⟨h.len,Ya h.row A,λj s u D F=>(h.each j s u D F).ext A,h.apart⟩
theorem GrpsC.nil (w:Wq) (B:Nat):GrpsC w B sN [] [] []:=⟨rfl,YF _ _ _ _,by simp,by simp⟩
theorem Zed (l:List Fc) (x:Fc) (s:ByteArray):grpC (l++ [x]) s=if x.f.id=s then grpC l s++ [x] else grpC l s:=by
 unfold grpC;rw[List.filter_append];by_cases h:x.f.id=s
 ·rw[Zi h];simp[h]
 ·rw[Ze h];simp[h]
theorem Zfp {l:List Fc} {s:ByteArray} (h:s ∉ firstsC l):grpC l s= []:=by
 unfold grpC;rw[List.filter_eq_nil_iff];intro x A;simp only[ZT];intro e;exact h ((ZaT l s).2 ⟨x,A,e⟩)
theorem GrpsC.grow {w w2:Wq} {B g cap:Nat} {l:List Fc} {fs:List ByteArray} {gv:List Value} {x:Fc} {i:Nat} {u u':Value} {s:ByteArray}
 (h:GrpsC w B (.slice (some ⟨g,0,none⟩) gv.length cap) l fs gv) (hl:fs.Pairwise (· ≠ ·)) (hi:fs[i]? =some s) (hu:gv[i]? =some u) (hx:x.f.id=s)
 (hc:w2.ownsRow B 55 6 u' ((grpC l s).length+1) (flatC (grpC l s)++cellsC x)) (hg:w.grownBy w2 u.ownBlock) (V:u'.ownBlock=u.ownBlock\/(∃W:Nat,w.heap.size<=W/\u'.ownBlock=some W)) (Z:u.ownBlock≠some g):
 GrpsC (w2.setCell ⟨g,i,none⟩ u') B (.slice (some ⟨g,0,none⟩) gv.length cap) (l++ [x]) fs (gv.set i u'):=by
 have Y:=h.len;have hs:=h.row.lt g rfl;have hd:u'.ownBlock≠some g:=by
  rcases V with e|⟨W,hW,e⟩
  ·rw[e];exact Z
  ·rw[e];intro S;injection S with S;omega
 have hk:∀(j:Nat) (v:Value),gv[j]? =some v->j≠i->v.ownBlock=none\/v.ownBlock≠u.ownBlock:=by
  intro j v D H;cases A:v.ownBlock with
  |none=>exact Or.inl rfl
  |some b=>exact Or.inr λe=>h.apart j i v u D hu H b A e.symm
 have R:=(h.row.kept hg (Or.inr λe=>Z e.symm));refine ⟨by rw[Jt];exact Y,?_,?_,?_⟩
 ·rw[Jt];exact (R.stored i u').1
 ·intro j t v H D;have ho:∀(m:Nat) (q:Value),gv[m]? =some q->(∃t,fs[m]? =some t)->q.ownBlock=none\/q.ownBlock≠some g:=by
   intro m q hq ⟨t',hn⟩;cases F:q.ownBlock with
   |none=>exact Or.inl rfl
   |some b=>
    refine Or.inr λe=> ?_;injection e with e;subst e;have h1:=(h.each m t' q hn hq).2;have U:=h.row.2;rcases h1 with ⟨rfl,_⟩|⟨b',c',hp,rfl,_,hh,_⟩
    ·cases F
    ·rcases U with ⟨U,_⟩|⟨g',hr,hf,U,_,X,_⟩
     ·cases U
     ·cases U;cases F;rw[hh] at X;simp at X
  by_cases I:j=i
  ·subst I;rw[hi] at H;injection H with H;subst H;have A:v=u':=(by rw[List.getElem?_set] at D;have:j<gv.length:=(ZR.1 hu).1;simp[this] at D;exact D.symm);subst A;rw[Zed,Zi hx];exact OFcs.snoc (Jy hc (a:=⟨g,j,none⟩) hd v)
  ·rw[List.getElem?_set_ne (λe=>I e.symm)] at D;have ht:t≠s:=by
    intro e;subst e;have h1:=Xh.1 hl;obtain ⟨p1,q1⟩:=ZR.1 hi;obtain ⟨p2,q2⟩:=ZR.1 H;rcases Nat.lt_or_gt_of_ne I with h3|h3
    ·exact h1 j i p2 p1 h3 (q2.trans q1.symm)
    ·exact h1 i j p1 p2 h3 (q1.trans q2.symm)
   rw[Zed,Ze (by rw[hx];exact λe=>ht e.symm)];have h4:=(h.each j t v H D).kept hg (hk j v D I);refine Jy h4 (a:=⟨g,i,none⟩) ?_ u';rcases ho j v D ⟨t,H⟩ with e|e
   ·rw[e];simp
   ·exact e
 ·intro a b v v' D A K q hq;rw[List.getElem?_set] at D A;have he:∀(m:Nat) (q':Value),gv[m]? =some q'->m≠i->∀b,u'.ownBlock=some b->q'.ownBlock≠some b:=by
   intro m q' F hm b J e;rcases V with S|⟨W,hW,S⟩
   ·rw[S] at J;exact h.apart i m u q' hu F (λe=>hm e.symm) b J e
   ·rw[S] at J;injection J with J;obtain ⟨pm,_⟩:=ZR.1 F;have h5:=h.each m (fs[m]'(om)) q' (Zh om) F;have:=(h5.lt b e).2;omega
  by_cases ha:i=a
  ·subst ha;have Q:i<gv.length:=(ZR.1 hu).1;simp only[Us,Zi Q,Y5] at D;subst D;rw[Ze K] at A;exact he b v' A (λe=>K e.symm) q hq
  ·rw[Ze ha] at D;by_cases J:i=b
   ·subst J;have Q:i<gv.length:=(ZR.1 hu).1;simp only[Us,Zi Q,Y5] at A;subst A;intro e;exact he a v D (λe=>ha e.symm) q e hq
   ·rw[Ze J] at A;exact h.apart a b v v' D A K q hq
theorem GrpsC.form {w:Wq} {B:Nat} {v:Value} {l:List Fc} {fs:List ByteArray} {gv:List Value} (h:GrpsC w B v l fs gv):∃A c,v= .slice A gv.length c:=by
 rcases h.row.2 with ⟨D,H⟩|⟨g,cap,F,D,_⟩
 ·exact ⟨none,0,by rw[D,H]⟩
 ·exact ⟨_,_,D⟩
theorem GrpsC.kept {w w2:Wq} {B m:Nat} {v:Value} {l:List Fc} {fs:List ByteArray} {gv:List Value} (h:GrpsC w B v l fs gv) (H:w.grownBy w2 (some m)) (J:m<B):GrpsC w2 B v l fs gv:=by
 have A:∀{e:TypeId} {n size:Nat} {u:Value} {xs:List Value},w.ownsRow B e size u n xs->u.ownBlock=none\/u.ownBlock≠some m:=by
  intro e n size u xs I;cases hb:u.ownBlock with
  |none=>exact Or.inl rfl
  |some b=>refine Or.inr λe=> ?_;injection e with e;have:=(I.lt b hb).1;omega
 exact ⟨h.len,h.row.kept H (A h.row),λj s u D F=>(h.each j s u D F).kept H (A (h.each j s u D F)),h.apart⟩
theorem GrpsC.more {w w2:Wq} {B:Nat} {v v':Value} {l:List Fc} {fs:List ByteArray} {gv:List Value} {s:ByteArray}
 (h:GrpsC w B v l fs gv) (hs:grpC l s= []) (J:w2.ownsRow B 29 1 v' (gv.length+1) (gv++ [sN])) (hg:w.grownBy w2 v.ownBlock):
 GrpsC w2 B v' l (fs++ [s]) (gv++ [sN]):=by
 have I:=h.len;refine ⟨by simp[I],by simpa using J,?_,?_⟩
 ·intro j t u F D;rcases Y9 j gv.length with A|A
  ·rw[Xg A] at D;rw[Xg om] at F;have Y:=h.each j t u F D;refine Y.kept hg ?_;cases hu':u.ownBlock with
   |none=>exact Or.inl rfl
   |some b=>
    refine Or.inr λe=> ?_;rcases Y.2 with ⟨rfl,_⟩|⟨b',c',X,rfl,_,S,_⟩
    ·cases hu'
    ·rcases h.row.2 with ⟨rfl,_⟩|⟨g',ha,Q,rfl,_,H,_⟩
     ·cases e
     ·cases hu';cases e;rw[S] at H;simp at H
  ·rw[Yt A] at D;rw[Yt om] at F;have U:j - gv.length=0:=by
    rcases YL (j - gv.length) with Z|Z
    ·exact Z
    ·rw[List.getElem?_eq_none (by simp;omega)] at D;cases D
   rw[U] at D;rw[show j - fs.length=0 by omega] at F;simp at D F;subst D F;rw[hs];exact OFcs.nil _ _
 ·intro a b q q' hq V R m K;have last:∀(n:Nat) (u:Value),(gv++ [Value.slice none 0 0])[n]? =some u->∀m,u.ownBlock=some m->gv[n]? =some u:=by
   intro n u D m K;rcases Y9 n gv.length with A|A
   ·rwa [Xg A] at D
   ·rw[Yt A] at D;have:=List.mem_of_getElem? D;simp at this;subst this;cases K
  intro e;exact h.apart a b q q' (last a q hq m K) (last b q' V m e) R m K e
theorem ZkY:(prog.info? 29).map (λi=>(i.zero,i.size,i.bytes))=some (some sN,1,24):=by kernel_rfl
theorem ZaJ (l:List Fc):(firstsC l).length<=l.length:=by
 suffices h:∀(n:Nat) (l:List Fc),l.length=n->(firstsC l).length<=l.length from h _ l rfl
 intro n
 induction n with
 |zero=>intro l A;rw[Zm A];exact Zc _
 |succ n ih=>
  intro l A;obtain ⟨l',e,rfl⟩:∃l' e,l=l'++ [e]:=by
   rcases List.eq_nil_or_concat l with h|⟨l',e,h⟩
   ·subst h;simp at A
   ·exact ⟨l',e,by simpa using h⟩
  have:=ih l' (by simpa using A);rw[IH];split<;>simp<;>omega
theorem ZgG (l:List Fc) (s:ByteArray):(grpC l s).length<=l.length:=List.length_filter_le _ _
theorem GrpsC.grow' {w0 w1 w w2:Wq} {B g cap:Nat} {l:List Fc} {fs:List ByteArray} {gv:List Value} {x:Fc} {i:Nat} {u u':Value} {s:ByteArray}
 (h:GrpsC w1 B (.slice (some ⟨g,0,none⟩) gv.length cap) l fs gv) (_hx0:Ext w0 w1) (V:Ext w1 w) (I:fs.Pairwise (· ≠ ·)) (S:fs[i]? =some s) (J:gv[i]? =some u) (K:x.f.id=s)
 (F:w2.ownsRow B 55 6 u' ((grpC l s).length+1) (flatC (grpC l s)++cellsC x)) (Q:w.grownBy w2 u.ownBlock) (H:u'.ownBlock=u.ownBlock\/u'.ownBlock=some w.heap.size) (D:u.ownBlock≠some g):
 w2.cell? ⟨g,i,none⟩=some u/\w2.frozen? ⟨g,i,none⟩=false/\GrpsC (w2.setCell ⟨g,i,none⟩ u') B (.slice (some ⟨g,0,none⟩) gv.length cap) (l++ [x]) fs (gv.set i u'):=by
 have R:=h.ext V;have A:=R.row.kept Q (Or.inr λe=>D e.symm);have U:i<gv.length:=(ZR.1 J).1;refine ⟨by rw[A.cellAt i om];exact J,A.frozenAt i,R.grow I S J K F Q ?_ D⟩;rcases H with e|e
 ·exact Or.inl e
 ·exact Or.inr ⟨_,Zc _,e⟩
theorem ZgF (v:Value) (l:List Fc) (w:Wq) (h:RFcs w v l) (hr:∀x∈l,slC x) (gZ:∀x∈l,x.f.id.size<=16777216) (hn:l.length<=1000000):
 Calls prog 64 #[v,.func (.func 65) #[] #[]] w λx w'=>∃v' gv,x= .returned v'/\GrpsC w' w.heap.size v' l (firstsC l) gv/\Ext w w':=by
 obtain ⟨i0,gU,g5,g6,g7⟩:=YH Zeh;obtain ⟨i1,fi,fn,fo,fp⟩:=YH ZkY;obtain ⟨A,c,rfl,fk,fh⟩:=h.form;have fA:= @run_makeMap prog;have fc:=gd gZ;have gG:=gd hr;clear fk fh gZ hr;go_enter func64,ntmps64;go_wp2;go_loopw [6,14] (λo i wr=>∃(k:Nat) (gv:List Value) (D:DataW Unit),k<=l.length/\i=nI k/\GrpsC wr (w.heap.size+1) o (l.take k) (firstsC (l.take k)) gv/\wr.ownsMap prog 9 (plainElem prog 3) w.heap.size k D/\Hid (IdxMap D (firstsC (l.take k)))/\Ext w wr/\w.heap.size+1<=wr.heap.size) (λ_ i _=>l.length - (intOf i).toNat)
 case atStart=>exact ⟨0,[],.map [],Zj _,rfl,GrpsC.nil _ _,World.ownsMap_made _ _ _ _,IdxMap.nil,(Ext.refl _).alloc _,by simp⟩
 case round=>
  obtain ⟨k,gv,D,hk,rfl,hG,hM,hD,hx,hws⟩:=hrel;by_cases hp:k<l.length
  ·obtain ⟨ad,c',hv,hm⟩:=(h.ext hx).at hp;injection hv with hv1 hv2 Z;subst hv1;clear hv2 Z;have fm:=fc.out l[k] (ZL hp);have hr:=gG.out l[k] (ZL hp);have h0:=Zr hp;have hY:=IH (l.take k) l[k];rw[<-h0] at hY;have gr:=ZaJ (l.take k);rw[ZM] at gr;have hA:=hG.len;have hZ:=Zdj (l.take k);obtain ⟨x,g4⟩:∃x,l[k]=x:=⟨_,rfl⟩;rw[g4] at hm fm hr h0 hY;have gF:=gd hr;have gH:=gd h0;have gy:=gd hY;clear h0 hY g4;have hO:=ZgG (l.take k) x.f.id;rw[ZM] at hO;have S:keyOf prog 9 (.string x.f.id)=some (.string x.f.id.data.toList):=keyOf_string_mk underlying9 (by unfold maxLen;omega);have hl:=gd (λw'=>ZmF x.p x.es x.f w');have fu:(0:Int)<=(k:Int):=om;have fz:(k:Int)<(l.length:Int):=om;have hF:=hD.out.2 x.f.id;obtain ⟨a0,a1,a2,a3,a4,a5⟩:=hm;by_cases J:x.f.id∈firstsC (l.take k)
   ·have hg:Maps.has D (.string x.f.id.data.toList)=true:=hF.1.2 J;obtain ⟨j,hj⟩:=List.mem_iff_getElem?.1 J;have gW:=hF.2 j hj;have gX:j<gv.length:=(by rw[hA];exact (ZR.1 hj).1);have g9:=gd gW;have hB:=gd hg;have hw:=gd J;obtain ⟨g,cap,ho,h6⟩:∃g cap,(_:Value)= .slice (some ⟨g,0,none⟩) gv.length cap/\gv.length<=maxLen:=by
     rcases hG.row.2 with ⟨h1,h2⟩|⟨g,cap,fy,h1,_,_,h4,h5,_⟩
     ·omega
     ·exact ⟨g,cap,h1,Zp h4 h5⟩
    subst ho;obtain ⟨u,hu⟩:∃u,gv[j]? =some u:=⟨_,Zh gX⟩;have hq:=hG.each j x.f.id u hj hu;have gQ:wr.cell? ⟨g,j,none⟩=some u:=(by rw[hG.row.cellAt j om];exact hu);have gR:=hG.row.frozenAt j;have gP:=hG.row.lt g rfl;have h9:u.ownBlock≠some g:=by
     intro e;rcases hq.2 with ⟨rfl,_⟩|⟨b',c',ft,rfl,_,ff,_⟩
     ·cases e
     ·rcases hG.row.2 with ⟨h2,_⟩|⟨g',fx,fe,h2,_,gO,_⟩
      ·cases h2
      ·cases h2;cases e;rw[ff] at gO;simp at gO
    have g0:u.ownBlock≠some w.heap.size:=(by intro e;have:=(hq.lt _ e).1;omega);have fb:=gd hq;have ge:=gd hu;have gc:=gd hj;have gi:=gd h9;have gh:=gd g0;have hz:=gd gP;have gY:(j:Int)<(gv.length:Int):=om;have gV:(0:Int)<=(j:Int):=om;have hi:Hid (((grpC (l.take k) x.f.id).length+1)*104<=140737488355328):=gd om;have gf:Hid ((grpC (l.take k) x.f.id).length+1<=maxLen):=gd (by unfold maxLen;omega);have gS:gv.length<=9223372036854775807:=om;have gz:=gd hA;have fr:=gd h6;clear gW hg J hF hq hu hj h9 g0 gP hA h6 gX hO gr;obtain ⟨xp,fq,⟨ht,F,Q,V,hh,hs⟩⟩:=x;obtain ⟨⟨xA,xn,xc,hV⟩,⟨xB,xm,xd,hU⟩⟩:=hr;simp only at hV hU;subst hV hU;simp only at a0 a1 a2 a3 a4 a5 S;unfold fCells at hl;dsimp only at hl
    go_wp2_with (first|(go_at_call 65;refine (hl.out _).mono ?_;rintro e w2 ⟨rfl,K⟩;have e0:=K.boxed 0 _ rfl;have e1:=K.boxed 1 _ rfl;have e2:=K.boxed 2 _ rfl;have e3:=K.boxed 3 _ rfl;have e4:=K.boxed 4 _ rfl;have e5:=K.boxed 5 _ rfl;have R:=(((Ext.refl wr).alloc _).trans K);have he:=R.cell gQ;have hL:=(JP R hz.out.2).trans gR)|(at_lookup;refine wpList_lookup_own_ok_int _ rfl (.tmp 19) (.tmp 22) _ rfl 9 3 .i64 UT underlying162 underlying3 (Zbz _) w.heap.size k D rfl ((hM.kept (((Ext.refl wr).alloc _).grown none) (by simp)).kept (K.grown none) (by simp)) _ _ rfl S ?_;intro c hm gt;(have gN:c=(j:Int):=by (have e:=g9.out.symm.trans hm;injection e with e;injection e with _ e;exact e.symm));rw[hB.out,gN];clear hm gt gN c))
    have fw:=gd R;have ga:=gd (hG.ext R);have hX:=gd (hM.kept (R.grown none) (by simp));have hc:=gd (OFcs.ext fb.out R);have gl:=gd (hx.trans R);have gj:=gd (Zp hws R.size);have gg:=gd hZ;clear hG hM S a0 a1 a2 a3 a4 a5 gQ gR K hZ;have gT:g<w2.heap.size:=ZW w2 _ he;have gM:wr.heap.size<w2.heap.size:=ZW w2 _ e0
    go_region_law (first|(refine Z1 _ (by rfl) (.tmp 43) (.tmp 45) _ (by rfl) (w.heap.size+1) 55 i0 _ 6 104 underlying29 gU g5 g6 g7 rfl (by decide) u (grpC (l.take k) F).length (flatC (grpC (l.take k) F)) (by rfl) (Ya hc.out (by repeat (first|exact Ext.refl _|apply Ext.drew|apply Ext.alloc))) _ 1 (cellsC ⟨.slice xA xn xc,.slice xB xm xd,⟨ht,F,Q,V,hh,hs⟩⟩) (by rfl) (RSl.ext (Yo rfl (by decide)) (by repeat (first|exact Ext.refl _|apply Ext.drew))) (Jv gF.out) gf.out hi.out (Zp gj.out (by simp)) ?_;intro v3 w3 I X hd;(obtain ⟨g3,H,Z,fg⟩:∃g3 H,v3= .slice (some ⟨g3,0,none⟩) ((grpC (l.take k) F).length+1) H/\True:=by (obtain ⟨g3,H,Z,_⟩:=I.form om;exact ⟨g3,H,Z,trivial⟩));subst Z;(have Y:=GrpsC.grow' ga.out (Ext.refl _) (by repeat (first|exact Ext.refl _|apply Ext.drew|apply Ext.alloc)) gg.out gc.out ge.out rfl I X hd gi.out);(have hK:=Y.1);(have hN:=Y.2.1);(have hQ:=(hX.out.kept ((show Ext w2 _ from by repeat (first|exact Ext.refl _|apply Ext.drew|apply Ext.alloc)).grown none) (by simp)).kept X (λe=>gh.out e.symm));(have hS:Ext w w3:=Ext.grown' (B:=0) (Ext.trans gl.out (by repeat (first|exact Ext.refl _|apply Ext.drew|apply Ext.alloc))) X (λb hb=>Zp (Yu _) (hc.out.lt b hb).1))))
    all_goals
     have hf:=Y.2.2
     have gb:=gd hf
     have hC:=gd (hQ.setCell (a:=⟨g,j,none⟩) (show w.heap.size≠g by have:=hz.out.1;omega) (.slice (some ⟨g3,0,none⟩) ((grpC (l.take k) F).length+1) H))
     have gk:=gd (hS.setCell (p:=⟨g,j,none⟩) (show w.heap.size<=g by have:=hz.out.1;omega) (.slice (some ⟨g3,0,none⟩) ((grpC (l.take k) F).length+1) H))
     clear Y hf hQ hS I X hd hK hN e0 e1 e2 e3 e4 e5 he hL R
     go_wp2
     go_roundw
     case rel=>
      have hH:firstsC (l.take (k+1))=firstsC (l.take k):=gy.out.trans (Zi hw.out)
      exact ⟨k+1,gv.set j _,D,hp,by go_num,by rw[hH,gH.out];exact gb.out,hC.out.mono (Yu _),by rw[hH];exact hD,gk.out,hC.out.lt⟩
     case measure=>simp[intOf];omega
   ·have hg:Maps.has D (.string x.f.id.data.toList)=false:=by
     cases hb:Maps.has D (.string x.f.id.data.toList) with
     |false=>rfl
     |true=>exact absurd (hF.1.1 hb) J
    have hR:=hD.out.put (s:=x.f.id) J;rw[<-hA] at hR;have gE:=gd hR;have hB:=gd hg;have hw:=gd J;have hE:=gd (Zfp J);have gz:=gd hA;have g1:(Lit.int .i64 (gv.length:Nat)).wf=true:=(by simp only[Lit.wf,IntKind.min,IntKind.max,ZG];simp[IntKind.signed,IntKind.bits];omega);have fd:=gd g1;have h3:=Zg wr (.cells (cellsC x).toArray 55);have hW:=gd h3;have gx:Hid ((gv.length+1)*24<=140737488355328):=gd om;have gD:Hid (gv.length+1<=maxLen):=gd (by unfold maxLen;omega);have fa:Hid (k<maxLen):=gd (by unfold maxLen;omega);have gS:gv.length<=9223372036854775806:=om;clear hg J hR g1 h3 hF gr hO hA;obtain ⟨xp,fq,⟨ht,F,Q,V,hh,hs⟩⟩:=x;obtain ⟨⟨xA,xn,xc,hV⟩,⟨xB,xm,xd,hU⟩⟩:=hr;simp only at hV hU;subst hV hU;simp only at a0 a1 a2 a3 a4 a5 S;unfold cellsC at hW;unfold fCells at hl hW;dsimp only at hl hW;obtain ⟨gA,gC,ho⟩:=hG.form;subst ho;have g8:True:=trivial
    go_wp2_with (first|(clear g8;go_at_call 65;refine (hl.out _).mono ?_;rintro e w2 ⟨rfl,K⟩;have go:=K.heap hW.out;obtain ⟨e0,e1,e2,e3,e4,e5⟩:=Zo5 go;have R:=(((Ext.refl wr).alloc _).trans K))|(at_lookup;refine wpList_lookup_own_ok_int _ rfl (.tmp 19) (.tmp 22) _ rfl 9 3 .i64 UT underlying162 underlying3 (Zbz _) w.heap.size k D rfl ((hM.kept (((Ext.refl wr).alloc _).grown none) (by simp)).kept (K.grown none) (by simp)) _ _ rfl S ?_;intro c hm gt;rw[hB.out];clear hm gt)|(go_at_call 65;refine (hl.out _).mono ?_;rintro e w4 ⟨rfl,gu⟩;have gp:=gu.heap go;have hT:=R.trans gu)|(at_mapUpdate;refine UC _ rfl (.tmp 30) (.tmp 33) (.tmp 34) 162 rfl 9 3 UT underlying162 _ w.heap.size k D rfl (hM.kept (hT.grown none) (by simp)) fa.out _ _ _ rfl rfl S _ [] (plainElem_int underlying3 fd.out) ?_;intro w5 gn hI)|(at_builtin;refine ZO _ rfl (.tmp 35) (.tmp 36) _ rfl (w.heap.size+1) 29 i1 _ 1 24 underlying117 fi fn fo fp rfl (by decide) _ gv.length gv rfl ((((hG.ext hT).kept hI (Yy _)).row).alloc _) _ 1 [sN] rfl (Yo rfl (by decide)) (by intro y hy;simp at hy;subst hy;rfl) gD.out gx.out ?_ ?_;(have:=gn.lt;simp;omega);intro v6 w6 U hJ gK))
    obtain ⟨g,cap,fl,h7,h8⟩:=U.form (Zig _);subst fl;have g2:Ext w w5:=Ext.grown' (B:=0) (hx.trans hT) hI (λb hb=>by cases hb;exact Zc _);have gI:=(hG.ext hT).kept hI (Yy _);have hP:gv.length+1=(gv++ [Value.slice none 0 0]).length:=(by simp);have gm:=GrpsC.more (gI.ext ((Ext.refl _).alloc _)) hE.out U hJ;rw[hP] at gm;have ga:=gd gm;have gs:∀b,(Value.slice gA gv.length gC).ownBlock=some b->w.heap.size+1<=b:=λb hb=>(hG.row.lt b hb).1;have hX:=gd ((gn.alloc _).kept hJ (λe=>by have:=gs _ e.symm;omega));have gl:=gd (Ext.grown' (B:=0) (g2.alloc _) hJ (λb hb=>Zp (Yu _) (gs b hb)));have hq:OFcs w6 (w.heap.size+1) sN (grpC (l.take k) F):=(by rw[hE.out];exact OFcs.nil _ _);have hc:=gd hq;have gJ:w.heap.size+1<=w6.heap.size:=hX.out.lt;have gj:=gd gJ;have gq:w5.heap[wr.heap.size]? =some (.cells #[.slice xA xn xc,.string F,.string Q,.string V,nI hh,.slice xB xm xd] 55):=(by rw[hI.block wr.heap.size (ZW w4 ⟨wr.heap.size,0,none⟩ (by rw[YO _ _ _ _ _ _ gp];rfl)) (by simp;omega)];exact gp);have gL:w6.heap[wr.heap.size]? =some (.cells #[.slice xA xn xc,.string F,.string Q,.string V,nI hh,.slice xB xm xd] 55):=(by rw[hJ.block wr.heap.size (by have:wr.heap.size<w5.heap.size:=ZW w5 ⟨wr.heap.size,0,none⟩ (by rw[YO _ _ _ _ _ _ gq];rfl);simp;omega) (λe=>by have:=(hG.row.lt _ e.symm).2;omega)];exact ((Ext.refl w5).alloc _).heap gq);have gg:Hid ((firstsC (l.take k)++ [F]).Pairwise (· ≠ ·)):=gd (by
     rw[List.pairwise_append];exact ⟨hZ,by simp,λa ha b hb=>by simp at hb;subst hb;rintro rfl;exact hw.out ha⟩)
    have gc:Hid ((firstsC (l.take k)++ [F])[gv.length]? =some F):=gd (by rw[gz.out];simp);have ge:Hid ((gv++ [Value.slice none 0 0])[gv.length]? =some sN):=gd (by simp);have gi:Hid ((Value.slice none 0 0).ownBlock≠some g):=gd (by intro e;cases e);have gh:Hid ((Value.slice none 0 0).ownBlock≠some w.heap.size):=gd (by intro e;cases e);have hz:=gd (V7 h7 h8);have he:w6.cell? ⟨g,gv.length,none⟩=some sN:=(by rw[U.cellAt gv.length om];simp);have hL:w6.frozen? ⟨g,gv.length,none⟩=false:=U.frozenAt gv.length;have gY:(gv.length:Int)<((gv.length:Nat):Int)+1:=om;have fv:gv.length<gv.length+1:=om;have gV:(0:Int)<=(gv.length:Int):=om;have hi:Hid ((grpC (l.take k) F).length+1<=1/\True):=gd ⟨by rw[hE.out];simp,trivial⟩;have gf:Hid ((grpC (l.take k) F).length+1<=maxLen):=gd (Zp hi.out.1 (by decide));have gw:Hid (((grpC (l.take k) F).length+1)*104<=140737488355328):=gd (by have:=hi.out.1;omega);clear hi;have hi:=gw;have gB:=gd hP;clear e0 e1 e2 e3 e4 e5;obtain ⟨e0,e1,e2,e3,e4,e5⟩:=Zo5 gL;clear hG gI gm hM gn S a0 a1 a2 a3 a4 a5 K gu R hT go gp gq gL hI hJ gK U g2 gs hq gJ hP h7 h8 hZ;have gT:g<w6.heap.size:=ZW w6 _ he;have gM:wr.heap.size<w6.heap.size:=ZW w6 _ e0
    go_region_law (first|(refine Z1 _ (by rfl) (.tmp 43) (.tmp 45) _ (by rfl) (w.heap.size+1) 55 i0 _ 6 104 underlying29 gU g5 g6 g7 rfl (by decide) sN (grpC (l.take k) F).length (flatC (grpC (l.take k) F)) (by rfl) (Ya hc.out (by repeat (first|exact Ext.refl _|apply Ext.drew|apply Ext.alloc))) _ 1 (cellsC ⟨.slice xA xn xc,.slice xB xm xd,⟨ht,F,Q,V,hh,hs⟩⟩) (by rfl) (RSl.ext (Yo rfl (by decide)) (by repeat (first|exact Ext.refl _|apply Ext.drew))) (Jv gF.out) gf.out hi.out (Zp gj.out (by simp)) ?_;intro v3 w3 I X hd;(obtain ⟨g3,H,Z,fg⟩:∃g3 H,v3= .slice (some ⟨g3,0,none⟩) ((grpC (l.take k) F).length+1) H/\True:=by (obtain ⟨g3,H,Z,_⟩:=I.form om;exact ⟨g3,H,Z,trivial⟩));subst Z;(have Y:=GrpsC.grow' ga.out (Ext.refl _) (by repeat (first|exact Ext.refl _|apply Ext.drew|apply Ext.alloc)) gg.out gc.out ge.out rfl I X hd gi.out);(have hK:=Y.1);(have hN:=Y.2.1);(have hQ:=(hX.out.kept ((show Ext w6 _ from by repeat (first|exact Ext.refl _|apply Ext.drew|apply Ext.alloc)).grown none) (by simp)).kept X (λe=>gh.out e.symm));(have hS:Ext w w3:=Ext.grown' (B:=0) (Ext.trans gl.out (by repeat (first|exact Ext.refl _|apply Ext.drew|apply Ext.alloc))) X (λb hb=>Zp (Yu _) (hc.out.lt b hb).1))))
    all_goals
     have hf:=Y.2.2
     have gb:=gd hf
     have hC:=gd (hQ.setCell (a:=⟨g,gv.length,none⟩) (show w.heap.size≠g by have:=hz.out.1;omega) (.slice (some ⟨g3,0,none⟩) ((grpC (l.take k) F).length+1) H))
     have gk:=gd (hS.setCell (p:=⟨g,gv.length,none⟩) (show w.heap.size<=g by have:=hz.out.1;omega) (.slice (some ⟨g3,0,none⟩) ((grpC (l.take k) F).length+1) H))
     clear Y hf hQ hS I X hd hK hN e0 e1 e2 e3 e4 e5 he hL
     go_wp2
     go_roundw
     case rel=>
      have hH:firstsC (l.take (k+1))=firstsC (l.take k)++ [F]:=gy.out.trans (Ze hw.out)
      exact ⟨k+1,(gv++ [Value.slice none 0 0]).set gv.length _,D.put (.string F.data.toList) (.lit (.int .i64 (gv.length:Nat))),hp,by go_num,by rw[hH,gH.out,gB.out];exact gb.out,hC.out,by rw[hH];exact gE.out,gk.out,hC.out.lt⟩
     case measure=>simp[intOf];omega
  ·have fj:k=l.length:=om;subst fj;rw[ZQ (Zc _)] at hG hD;have HG:=gd hG;clear hG hD hM hk hp;go_wp2;go_ret;refine ⟨_,gv,rfl,?_,hx⟩;have h1:=HG.out;exact ⟨h1.len,X4 h1.row (Yu _),λj s u hj hu=>(h1.each j s u hj hu).mono (Yu _),h1.apart⟩
def withE (f:Fd) (l:List Ent):Fd:={f with ents:=l}
theorem Zfn (a b:Fd) (x y:List Ent):laterF (withE a x) (withE b y)=laterF a b:=by
 unfold laterF;rw[show feedKey (withE a x)=feedKey a from rfl,show feedKey (withE b y)=feedKey b from rfl];rw[show (withE a x).upd=a.upd from rfl,show (withE b y).upd=b.upd from rfl];cases laterB (iCmp a.upd b.upd) (feedKey a) (feedKey b)<;>rfl
theorem Zfo (a b:Fd) (x:List Ent):laterF (withE a x) b=laterF a b:=Zfn a b x b.ents
theorem II:∀(t:List Fd) (a:Fd) (x z:List Ent),withE (t.foldl laterF (withE a x)) z=withE (t.foldl laterF a) z
 | [],_,_,_=>rfl
 |h::t,a,x,z=>by rw[List.foldl_cons,List.foldl_cons,Zfo]
theorem Zci:∀(t:List Fd) (g:Fd),ordE.canon g.ents=g.ents->t.foldl joinF g=withE (t.foldl laterF g) (ordE.canon (g.ents++(t.map Fd.ents).flatten))
 | [],g,h=>by
  rw[Z2,List.flatten_nil,ZV,h]
  rfl
 |x::t,g,h=>by
  have A:joinF g x=withE (laterF g x) (ordE.canon (g.ents++x.ents)):=by
   rw[ordE.canon_append,h]
   rfl
  rw[List.foldl_cons,Zci t (joinF g x) (by rw[A];exact ordE.canon_canon _),A,II,List.foldl_cons]
  refine Zz (withE _) ?_
  show ordE.canon (ordE.canon (g.ents++x.ents)++(t.map Fd.ents).flatten)=_
  rw[ordE.canon_append,ordE.canon_canon,<-ordE.canon_append,Zt,Zw,Um]
def jF (l:List Fd) (s:ByteArray):Fd:=(ordF.got l s).getD zeroF
theorem ZgW (l:List Fd):ordF.joined l=(ordF.firsts l).map (jF l):=by
 have D:∀fs:List ByteArray,(∀s∈fs,s∈ordF.firsts l)->fs.filterMap (ordF.got l)=fs.map (jF l):=by
  intro fs
  induction fs with
  |nil=>intro _;rfl
  |cons s t ih=>intro h;obtain ⟨x,F⟩:=(Ord.got_isSome_iff (O:=ordF) l s).2 ((ordF.mem_firsts l s).1 (h s (by simp)));rw[List.filterMap_cons_some F,Zw,ih λs A=>h s (by simp[A])];unfold jF;rw[F];rfl
 exact D _ λs A=>A
theorem Zoy {l:List Fd} {s:ByteArray} {x:Fd} {t:List Fd} (h:(l.filter λx=>decide (x.id=s))=x::t) (D:ordE.canon x.ents=x.ents):
 jF l s=withE (t.foldl laterF x) (ordE.canon (x.ents++(t.map Fd.ents).flatten)):=by
 rw[<-Zci t x D];unfold jF Ord.got;have A:(l.filter λx=>decide (ordF.id x=s))=x::t:=h;rw[A];rfl
section
variable {f:Fd}
theorem Gk:∀(l out:List UInt8) (g:Bool),(collGo l out g).length<=out.length+l.length+(if g=true then 1 else 0)
 | [],out,g=>by simp only[collGo,ZK];omega
 |c::t,out,g=>by
  simp only[collGo]
  by_cases h:isSp c.toNat=true
  ·rw[Zi h]
   have:=Gk t out (!out.isEmpty)
   rw[Zd]
   split at this<;>omega
  ·rw[Ze h]
   have:=Gk t (out++(if g=true then [32] else [])++ [c]) false
   simp only[YR,U4,Zb,Zd,ZK] at this
   rw[Zd]
   cases g
   ·simp only[YR,U4,ZK] at this|-;omega
   ·simp only[Us,Zd,ZK] at this|-;omega
theorem Y8 (s:ByteArray):(collapse s).size<=s.size:=by
 unfold collapse coll;rw[YN];have:=Gk s.data.toList [] false;simp only[YR,U4,ZK] at this;rw[ZN] at this;omega
theorem Zgl {e:Ent} (h:eok e):eok (collE e):=by
 obtain ⟨A,D⟩:=h;refine ⟨A,?_⟩;have a:=Y8 e.id;have b:=Y8 e.title;have c:=Y8 e.link;have d:=Y8 e.content;show (collapse e.id).size+(collapse e.title).size+(collapse e.link).size+(collapse e.content).size<=16777216;omega
theorem ZcT:∀l:List ByteArray,sizes (l.map collapse)<=sizes l
 | []=>Zc _
 |s::t=>by
  have h:=ZcT t
  have a:=Y8 s
  unfold sizes at*
  simp only[Zw,YM] at h|-
  omega
theorem ZmJ (h:fok f):fok (collF f):=by
 obtain ⟨A,D⟩:=h;refine ⟨A,?_⟩;have a:=Y8 f.id;have b:=Y8 f.title;have c:=Y8 f.link;have d:=ZcT f.path;show (f.path.map collapse).length+sizes (f.path.map collapse)+(collapse f.id).size+(collapse f.title).size+(collapse f.link).size<=16777216;rw[Zq];omega
theorem Zea:∀(t:List Ent) (x:Ent),t.foldl laterE x∈x::t
 | [],x=>by simp
 |y::t,x=>by
  have h:=Zea t (laterE x y)
  rw[List.foldl_cons]
  rcases ZH.1 h with h|h
  ·rw[h]
   unfold laterE
   split<;>simp
  ·simp[h]
theorem Zis {l:List Ent} {x:Ent} (h:x∈ordE.canon l):x∈l:=by
 have A:=((ordE.canon_is l).2 x).1 h;unfold Ord.got at A;cases hf:l.filter λy=>decide (ordE.id y=ordE.id x) with
 |nil=>rw[hf] at A;cases A
 |cons y t=>
  rw[hf] at A;have F:t.foldl laterE y=x:=by unfold Ord.fold1 at A;injection A
  have D:=Zea t y;rw[F,<-hf] at D;exact (YW.1 D).1
section
variable {α κ:Type} (O:Ord α κ)
theorem ZjU:∀(l:List α) (e:α),(O.ins l e).length=l.length+1
 | [],_=>rfl
 |x::t,e=>by
  unfold Ord.ins
  split
  ·rfl
  ·rw[Zd,ZjU t e,Zd]
end
section
variable {α κ:Type} [DecidableEq κ] (O:Ord α κ)
theorem ZoN (l:List α) (e:α):(O.put l e).length<=l.length+1:=by
 unfold Ord.put;rw[ZjU,O.scan_fst];have:=List.length_filter_le (λx=> !decide (O.id x=O.id e)) l;omega
theorem QF:∀(l s:List α),(l.foldl O.put s).length<=s.length+l.length
 | [],s=>by simp
 |x::t,s=>by
  have h:=QF t (O.put s x)
  have:=ZoN O s x
  rw[List.foldl_cons,Zd]
  omega
theorem Em (l:List α):(O.canon l).length<=l.length:=by
 have:=QF O l [];unfold Ord.canon;simpa using this
end
theorem Zcs {a b:Fd} (h:fok a) (A:fok b):fok (laterF a b):=by
 unfold laterF;cases laterB (iCmp a.upd b.upd) (feedKey a) (feedKey b)
 ·exact h
 ·exact A
theorem Zd7:∀(t:List Fd) (x:Fd),fok x->(∀y∈t,fok y)->fok (t.foldl laterF x)
 | [],_,h,_=>h
 |y::t,x,h,ht=>Zd7 t _ (Zcs h (ht y (by simp))) λz A=>ht z (by simp[A])
def fokS (f:Fd):Prop:=fok f/\f.ents.length<=1000000/\∀e∈f.ents,eok e
theorem Zd5 (h:fokS f):fokS (collF f):=by
 refine ⟨ZmJ h.1,?_,λe A=> ?_⟩
 ·show (ordE.canon (f.ents.map collE)).length<=1000000;have:=Em ordE (f.ents.map collE);rw[Zq] at this;have:=h.2.1;omega
 ·obtain ⟨x,D,rfl⟩:=ZU.1 (Zis (show e∈ordE.canon (f.ents.map collE) from A));exact Zgl (h.2.2 x D)
end
section
variable {B c cap g i n:Nat} {W w w1:World} {v:Value} {z:ByteArray}
theorem ZeK:∀(l:List (Addr×ByteArray)) (w:Wq) (p:Addr×ByteArray) (u:Value),p∈l->(l.Pairwise λp q=>p.1≠q.1)->w.cell? p.1=some u->(setS w l).cell? p.1=some (.string p.2)
 | [],_,_,_,h,_,_=>by simp at h
 |q::t,w,p,u,h,hap,hu=>by
  have A:=XH.1 hap
  rcases ZH.1 h with h|h
  ·subst h
   rw[setS,Vv t _ _ λr F=>(A.1 r F).symm]
   exact KJ _ _ _ hu
  ·have D:q.1≠p.1:=A.1 p h
   rw[setS]
   exact ZeK t _ p u h A.2 (by rw[Xi w q.1 p.1 _ D];exact hu)
theorem Ext.setS {a:Wq}:∀(l:List (Addr×ByteArray)) {b:Wq},Ext a b->(∀p∈l,a.heap.size<=p.1.block)->Ext a (setS b l)
 | [],_,h,_=>h
 |p::t,b,h,hl=>Ext.setS t (h.setCell (hl p (by simp)) _) λq A=>hl q (by simp[A])
def ptrsAt (g:Nat):Nat->List ByteArray->List (Addr×ByteArray)
 |_,[]=> []
 |i,s::t=>(⟨g,i,none⟩,s)::ptrsAt g (i+1) t
theorem QN (g:Nat):∀(l:List ByteArray) (i:Nat),(ptrsAt g i l).length=l.length
 | [],_=>rfl
 |s::t,i=>by rw[ptrsAt,Zd,QN g t,Zd]
theorem QM (g:Nat):∀(l:List ByteArray) (i k:Nat),(ptrsAt g i l)[k]? =l[k]?.map λs=>(⟨g,i+k,none⟩,s)
 | [],_,_=>by simp[ptrsAt]
 |s::t,i,0=>by simp[ptrsAt]
 |s::t,i,k+1=>by
  rw[ptrsAt,List.getElem?_cons_succ,QM g t,List.getElem?_cons_succ]
  rw[show i+1+k=i+(k+1) by omega]
theorem Vr {l:List ByteArray} {p:Addr×ByteArray} (h:p∈ptrsAt g i l):∃k s,l[k]? =some s/\p=(⟨g,i+k,none⟩,s):=by
 obtain ⟨k,A⟩:=List.mem_iff_getElem?.1 h;rw[QM] at A;cases hl:l[k]? with
 |none=>rw[hl] at A;cases A
 |some s=>rw[hl] at A;injection A with A;exact ⟨k,s,hl,A.symm⟩
theorem ZcG (g:Nat):∀(l:List ByteArray) (i:Nat),(ptrsAt g i l).map (·.2)=l
 | [],_=>rfl
 |s::t,i=>by rw[ptrsAt,Zw,ZcG g t]
theorem ZcF (g:Nat) (h:ByteArray->ByteArray):∀(l:List ByteArray) (i:Nat),(ptrsAt g i l).map (λp=>(p.1,h p.2))=ptrsAt g i (l.map h)
 | [],_=>rfl
 |s::t,i=>by rw[ptrsAt,Zw,ZcF g h t,Zw,ptrsAt]
theorem IZ (g:Nat):∀(l:List ByteArray) (i:Nat),(ptrsAt g i l).Pairwise λp q=>p.1≠q.1
 | [],_=>List.Pairwise.nil
 |s::t,i=>by
  rw[ptrsAt,XH]
  refine ⟨λp A=> ?_,IZ g t _⟩
  obtain ⟨k,s,_,rfl⟩:=Vr A
  intro e
  have h:=Zz Addr.off e
  simp only at h
  omega
def ptrsF (g b:Nat) (l:List ByteArray) (x y z:ByteArray):List (Addr×ByteArray):=ptrsAt g 0 l++ [(⟨b,1,none⟩,x),(⟨b,2,none⟩,y),(⟨b,3,none⟩,z)]
theorem ZlK (g b:Nat) (l:List ByteArray) (x y z:ByteArray):(ptrsF g b l x y z).length=l.length+3:=by unfold ptrsF;rw[Zb,QN];rfl
theorem Zad (g b:Nat) (l:List ByteArray) (x y z:ByteArray):(ptrsF g b l x y z).map (·.2)=l++ [x,y,z]:=by unfold ptrsF;rw[ZS,ZcG];rfl
theorem ZlL (g b:Nat) (h:ByteArray->ByteArray) (l:List ByteArray) (x y z:ByteArray):(ptrsF g b l x y z).map (λp=>(p.1,h p.2))=ptrsF g b (l.map h) (h x) (h y) (h z):=by unfold ptrsF;rw[ZS,ZcF];rfl
theorem ZaV {b:Nat} (h:g≠b) (l:List ByteArray) (x y z:ByteArray):(ptrsF g b l x y z).Pairwise λp q=>p.1≠q.1:=by
 unfold ptrsF;rw[List.pairwise_append];refine ⟨IZ g l 0,by simp,λp F q A=> ?_⟩;obtain ⟨k,s,_,rfl⟩:=Vr F;simp only[ZH,ZY,Y1] at A;intro e;have D:=Zz Addr.block e;rcases A with rfl|rfl|rfl<;>exact h D
theorem ZeG {b:Nat} {l:List ByteArray} {x y:ByteArray} {p:Addr×ByteArray} (h:p∈ptrsF g b l x y z):p.1.block=g\/p.1.block=b:=by
 unfold ptrsF at h;rcases Zs.1 h with h|h
 ·obtain ⟨k,s,_,rfl⟩:=Vr h;exact Or.inl rfl
 ·simp only[ZH,ZY,Y1] at h;rcases h with rfl|rfl|rfl<;>exact Or.inr rfl
theorem ZlM {b:Nat} {A:Option Addr} {l:List ByteArray} {x y x0 y0 z0:ByteArray} {p e t:Value} {ll:List ByteArray} (H:g≠b) (hl:ll.length=l.length)
 (hA:0<l.length->A=some ⟨g,0,none⟩) (hr:RStrs w (.slice A l.length cap) ll)
 (X:w.cell? ⟨b,0,none⟩=some p) (Y:w.cell? ⟨b,1,none⟩=some (.string x0)) (Z:w.cell? ⟨b,2,none⟩=some (.string y0)) (h3:w.cell? ⟨b,3,none⟩=some (.string z0)) (h4:w.cell? ⟨b,4,none⟩=some t) (h5:w.cell? ⟨b,5,none⟩=some e)
 (U:Ext (setS w (ptrsF g b l x y z)) w1):
 RStrs w1 (.slice A l.length cap) l/\w1.cell? ⟨b,0,none⟩=some p/\w1.cell? ⟨b,1,none⟩=some (.string x)/\w1.cell? ⟨b,2,none⟩=some (.string y)/\w1.cell? ⟨b,3,none⟩=some (.string z)/\w1.cell? ⟨b,4,none⟩=some t/\w1.cell? ⟨b,5,none⟩=some e:=by
 have S:=ZaV H l x y z;have F:∀(i:Nat) (u:Value),(i=0\/i=4\/i=5)->w.cell? ⟨b,i,none⟩=some u->w1.cell? ⟨b,i,none⟩=some u:=by
  intro i u hi h;refine U.cell ?_;rw[Vv _ _ _ λq D=> ?_]
  ·exact h
  ·unfold ptrsF at D;rcases Zs.1 D with D|D
   ·obtain ⟨k,s,_,rfl⟩:=Vr D;intro e;exact H (Zz Addr.block e)
   ·simp only[ZH,ZY,Y1] at D;intro e;have V:=Zz Addr.off e;rcases D with rfl|rfl|rfl<;>simp only at V<;>omega
 have J:∀(q:Addr×ByteArray) (u:Value),q∈ptrsF g b l x y z->w.cell? q.1=some u->w1.cell? q.1=some (.string q.2):=λq u D h=>U.cell (ZeK _ _ q u D S h);refine ⟨?_,F 0 p (Or.inl rfl) X,J (⟨b,1,none⟩,x) _ (by simp[ptrsF]) Y,J (⟨b,2,none⟩,y) _ (by simp[ptrsF]) Z,J (⟨b,3,none⟩,z) _ (by simp[ptrsF]) h3,F 4 t (Or.inr (Or.inl rfl)) h4,F 5 e (Or.inr (Or.inr rfl)) h5⟩;obtain ⟨q1,A',c',e1,q2,q3,q4,q5⟩:=hr;injection e1 with e1 e2 e3;subst e1 e3;refine ⟨by simp,A,cap,rfl,om,q3,q4,λj u h=> ?_⟩;rw[Yp] at h;cases hlj:l[j]? with
 |none=>rw[hlj] at h;cases h
 |some s=>
  rw[hlj] at h;injection h with h;subst h;have hb:j<l.length:=(ZR.1 hlj).1;have K:=hA om;subst K;refine ⟨_,rfl,?_⟩;have I:j<ll.length:=om
  obtain ⟨ad,Q,hc⟩:=q5 j (.string ll[j]) (by rw[Yp,Zh I];rfl);injection Q with Q;subst Q;have R:(⟨g,0,none⟩:Addr).add j=⟨g,j,none⟩:=by unfold Addr.add;split<;>simp_all
  rw[R] at hc|-;refine J (⟨g,j,none⟩,s) _ ?_ hc;unfold ptrsF;refine ZeY _ (List.mem_iff_getElem?.2 ⟨j,?_⟩);rw[QM,hlj];simp
theorem Gb:∀(l:List (Addr×ByteArray)) (w:Wq) (k:Nat),(∀p∈l,p.1.block≠k)->(setS w l).heap[k]? =w.heap[k]?
 | [],_,_,_=>rfl
 |p::t,w,k,h=>by
  rw[setS,Gb t _ k λq A=>h q (by simp[A])]
  simp only[World.setCell,Xv]
  rw[Ze (h p (by simp))]
theorem Yw (w:Wq) (a:Addr) (v:Value):w.grownBy (w.setCell a v) (some a.block):=
 ⟨rfl,rfl,rfl,by simp[World.setCell],λk _ h=>Z4 w a k v λe=>h (by rw[e])⟩
theorem Yx (w:Wq) (g:Nat) (cs:Array Value):w.grownBy (w.setRow g cs) (some g):=
 ⟨rfl,rfl,rfl,by simp[World.setRow],λk _ h=>Yf w g k cs λe=>h (by rw[e])⟩
theorem ZmH {b:Nat} {A:Option Addr} {l:List ByteArray} {x y:ByteArray} (I:g≠b) (X:0<l.length->A=some ⟨g,0,none⟩)
 (D:W.ownsRow B 9 1 (.slice A l.length cap) l.length (l.map Value.string))
 (S:W.cell? ⟨b,1,none⟩=some (.string x)) (U:W.cell? ⟨b,2,none⟩=some (.string y)) (V:W.cell? ⟨b,3,none⟩=some (.string z)) (K:W.frozen? ⟨b,1,none⟩=false) (Q:W.frozen? ⟨b,2,none⟩=false) (R:W.frozen? ⟨b,3,none⟩=false)
 (Z:∀s∈l++ [x,y,z],s.size<=16777216) (F:RSl W 1 v (l.length+3) ((ptrsF g b l x y z).map λp=>Value.pointer (some p.1))):Ptrs W v (ptrsF g b l x y z):=by
 refine ⟨by rw[ZlK];exact F,λp h=> ?_,λp h=> ?_,ZaV I l x y z⟩
 ·unfold ptrsF at h;rcases Zs.1 h with h|h
  ·obtain ⟨k,s,J,rfl⟩:=Vr h;have Y:k<l.length:=(ZR.1 J).1;have H:=X om;subst H;have hz:0+k=k:=om;simp only[hz];refine ⟨?_,D.frozenAt k⟩;rw[D.cellAt k om,Yp,J];rfl
  ·simp only[ZH,ZY,Y1] at h;rcases h with rfl|rfl|rfl
   ·exact ⟨S,K⟩
   ·exact ⟨U,Q⟩
   ·exact ⟨V,R⟩
 ·refine Z _ ?_;have:p.2∈(ptrsF g b l x y z).map (·.2):=ZU.2 ⟨p,h,rfl⟩
  rwa [Zad] at this
theorem Zhx (g:Nat) (l:List ByteArray) (k:Nat) (A:k<l.length):((ptrsAt g 0 l).take (k+1)).map (λp=>Value.pointer (some p.1))=((ptrsAt g 0 l).take k).map (λp=>Value.pointer (some p.1))++ [.pointer (some ⟨g,k,none⟩)]:=by
 have h:k<(ptrsAt g 0 l).length:=by rw[QN];exact A
 rw[Zr h,ZS];have e:=QM g l 0 k;rw[Zh h,Zh A] at e;injection e with e;rw[e];simp
theorem Zgm:∀(l:List Ent) (k:Nat) (A:k<l.length),(∀e∈l.take k,errE e=0)->errE l[k]≠0->errEs l=errE l[k]
 | [],k,A,_,_=>by simp at A
 |e::t,0,_,_,h=>by simp only[errEs];rw[Ze (by simpa using h)];rfl
 |e::t,k+1,A,h,h2=>by
  simp only[errEs]
  rw[Zi (h e (by simp)),Zgm t k (by simpa using A) (λx D=>h x (by simp[D])) (by simpa using h2)]
  rfl
theorem Uf {A:Option Addr} {l:List ByteArray} (x:ByteArray) (V:n=l.length) (R:0<l.length->A=some ⟨g,0,none⟩) (h:RStrs w (.slice A n c) l) (S:l.length<=9223372036854775807):
 Calls prog 104 #[.slice A n c,.string x] w λe w'=>e= .returned (.bool (l.any λs=>decide (s=x)))/\w'=w:=by
 subst V;rcases YL l.length with F|F
 ·have U:=Zm F;subst U;exact slices_Contains_string_empty A c x w
 ·have H:=R F;subst H;have hc:∀j,j<l.length->w.cell? ⟨g,0+j,none⟩=some (.string (l.getD j ByteArray.empty)):=by intro j K;obtain ⟨_,Y,Z,e,_,_,_,q⟩:=h;injection e with e1 e2 e3;subst e1;obtain ⟨ad,I,D⟩:=q j (.string l[j]) (by rw[Yp,Zh K];rfl);injection I with I;subst I;have J:(⟨g,0,none⟩:Addr).add j=⟨g,0+j,none⟩:=(by unfold Addr.add;split<;>simp_all);rw[J] at D;rw[D,ZZ,Zh K];rfl
  refine (slices_Contains_string g 0 l.length c l x w (Zc _) S hc).mono ?_;rintro e w' ⟨rfl,rfl⟩;refine ⟨?_,rfl⟩;rw[ZQ (Zc _)];refine Zz (λb=>Ending.returned (.bool b)) ?_;rw[Y2,Lib.containsS_iff,Xm];constructor
  ·intro h;exact ⟨x,h,by simp⟩
  ·rintro ⟨s,X,e⟩;have Q:s=x:=(by simpa using e);rw[<-Q];exact X
end
section
variable {b w:World} {c g i:Nat} {u v:Value} {x:Fc}
theorem Zah:prog.underlying 29=some (.slice (prog.elem 29)):=by kernel_rfl
theorem ZcL (w:Wq):(Go.sizeOf (prog.elem 29)).run prog w= .ok 6 w:=by kernel_rfl
theorem Zb2 (x:Fc) (t:List Fc):flatC (x::t)=cellsC x++flatC t:=by unfold flatC;simp
theorem Ve:∀l:List Fc,(flatC l).length=l.length*6
 | []=>rfl
 |x::t=>by rw[Zb2,Zb,Ve t,Ziv,Zd];omega
theorem ZpV {A:Option Addr} {t:List Fc} (h:RFcs w (.slice A (t.length+1) c) (x::t)):
 ∃v',(∀H:Wq,(Instr.slice 29 (.slice A (t.length+1) c) (some (nI 1)) none none).run prog H= .ok v' H)/\RFcs w v' t:=by
 refine ⟨sliced A 1 (t.length+1) c 6,λH=> ?_,?_⟩
 ·rw[run_slice_l (P:=prog) (w:=H) 29 A (t.length+1) c Zah .i64 1 om om];rw[ZcL];rfl
 ·obtain ⟨Y,V,X,e,Q,J,R,S⟩:=h;injection e with e1 e2 e3;subst e1 e3;clear e2;have D:∀j u,(flatC t)[j]? =some u->∃ad,A=some ad/\w.cell? (ad.add (6+j))=some u:=by intro j u F;refine S (6+j) u ?_;rw[Zb2,Yt (by show 6<=6+j;omega)];simpa [cellsC,fCells] using F
  unfold sliced;have Z:t.length+1<=c:=by simpa using Q
  refine ⟨Ve t,?_⟩;by_cases hc:c=1
  ·have U:t= []:=Zm om;subst U;exact ⟨_,_,rfl,by simp,Zp (Jz _ _) J,λ_=>by omega,λj u F=>by simp[flatC] at F⟩
  ·cases A with
   |none=>have:=R rfl;omega
   |some ad=>refine ⟨some (ad.add 6),c - 1,by rw[Ze hc];rfl,om,Zp (Jz _ _) J,(λe=>by cases e),λj u F=>⟨_,rfl,?_⟩⟩;obtain ⟨K,e,I⟩:=D j u F;injection e with e;subst e;rw[Qa];exact I
theorem ZmN (l:List Fc) (s:ByteArray):(grpC l s).map Fc.f=(l.map Fc.f).filter λf=>decide (f.id=s):=by
 unfold grpC;rw[List.filter_map];rfl
theorem ZkT {l:List Fc} {s:ByteArray} (h:s∈firstsC l):∃x t,grpC l s=x::t:=by
 obtain ⟨x,A,e⟩:=(ZaT l s).1 h;have:x∈grpC l s:=by unfold grpC;exact YW.2 ⟨A,by simpa using e⟩
 cases hg:grpC l s with
 |nil=>rw[hg] at this;simp at this
 |cons y t=>exact ⟨y,t,rfl⟩
def hdF (x:Fc) (t:List Fc):Fd:=(t.map Fc.f).foldl laterF x.f
def enF (x:Fc) (t:List Fc):List Ent:=x.f.ents++((t.map Fc.f).map Fd.ents).flatten
theorem ZmR (x:Fc) (t:List Fc) (y:Fc):hdF x (t++ [y])=laterF (hdF x t) y.f:=by unfold hdF;rw[ZS,List.foldl_append];rfl
theorem Zmx (x:Fc) (t:List Fc) (y:Fc):enF x (t++ [y])=enF x t++y.f.ents:=by unfold enF;simp
theorem Zph {l:List Fc} {s:ByteArray} {t:List Fc} (h:grpC l s=x::t) (A:ordE.canon x.f.ents=x.f.ents):jF (l.map Fc.f) s=withE (hdF x t) (ordE.canon (enF x t)):=by
 refine Zoy (l:=l.map Fc.f) (x:=x.f) (t:=t.map Fc.f) ?_ A;rw[<-ZmN,h];rfl
theorem ZjR (x:Fc) (t:List Fc) (A:fok x.f) (h:∀y∈t,fok y.f):fok (hdF x t):=Zd7 _ _ A λy D=>by
 obtain ⟨z,F,rfl⟩:=ZU.1 D;exact h z F
theorem Zom {t:List Fc} (H:∀e∈x.f.ents,eok e) (F:∀y∈t,∀e∈y.f.ents,eok e):∀e∈enF x t,eok e:=by
 intro e h;unfold enF at h;rcases Zs.1 h with h|h
 ·exact H e h
 ·obtain ⟨l,D,h⟩:=Zdh.1 h;obtain ⟨f,A,rfl⟩:=ZU.1 D;obtain ⟨y,I,rfl⟩:=ZU.1 A;exact F y I e h
def allE (l:List Fc):Nat:=(l.map λx=>x.f.ents.length).sum
theorem IF:∀(t:List Fc) (x:Fc),(enF x t).length=allE (x::t)
 | [],x=>by unfold enF allE;simp
 |y::t,x=>by
  have h:=IF t x
  unfold enF allE at*
  simp only[Zw,Um,Zb,YM] at h|-
  omega
theorem Gg (p:Fc->Bool):∀l:List Fc,allE (l.filter p)<=allE l
 | []=>Zc _
 |x::t=>by
  have h:=Gg p t
  unfold allE at*
  by_cases A:p x=true
  ·rw[List.filter_cons_of_pos A];simp only[Zw,YM];omega
  ·rw[List.filter_cons_of_neg A];simp only[Zw,YM];omega
theorem ZdG (h:RdC w x) {r:Option Nat} (A:∀q,r=some q->w.heap.size<=q):awayC x r:=by
 cases r with
 |none=>exact ZbG h
 |some q=>exact GX h (A q rfl)
theorem Zdw (w:Wq) (g i:Nat) (u v:Value):(w.setCell ⟨g,i,none⟩ u).setCell ⟨g,i,none⟩ v=w.setCell ⟨g,i,none⟩ v:=by
 unfold World.setCell
 congr 1
 apply Array.ext_getElem?;intro k;simp only[Xv];by_cases h:g=k
 ·rw[Zi h,Zi h,Zi h,Option.map_map]
  congr 1
  funext o;cases o<;>simp
 ·rw[Ze h,Ze h,Ze h]
theorem ZfM (w:Wq) (g i:Nat) (v:Value) (h:w.cell? ⟨g,i,none⟩=some v):w.setCell ⟨g,i,none⟩ v=w:=by
 have F:(w.setCell ⟨g,i,none⟩ v).heap=w.heap:=by
  apply Array.ext_getElem?;intro k;by_cases D:k=g
  ·subst D;cases ho:w.heap[k]? with
   |none=>simp[World.setCell,Xv,ho]
   |some o=>
    cases o with
    |cells c e fr=>
     have hc:c[i]? =some v:=(by rw[YO _ _ _ _ _ _ ho] at h;exact h);have e1:c.setIfInBounds i v=c:=by
      apply Array.ext_getElem?;intro j;rw[Array.getElem?_setIfInBounds];by_cases A:i=j
      ·subst A;rw[Zi rfl,Zi (ZP.1 hc).1,hc]
      ·rw[Ze A]
     rw[setCell_eq_setRow w k i c e fr v ho,ZF w k c _ e fr ho,e1]
    |_=>simp[World.setCell,Xv,ho]
  ·exact Z4 w ⟨g,i,none⟩ k v D
 have e2:w.setCell ⟨g,i,none⟩ v={w with heap:=(w.setCell ⟨g,i,none⟩ v).heap}:=rfl;rw[e2,F]
theorem HFs.setCell {w:Wq} {B g i:Nat} {v u:Value} {l:List Fc} (h:HFs w B v l) (F:g<B) (D:∀x∈l,awayC x (some g)):HFs (w.setCell ⟨g,i,none⟩ u) B v l:=
 ⟨Jy h.row (a:=⟨g,i,none⟩) (λe=>absurd (h.row.lt _ e).1 (show ¬B<=g by omega)) u,λx A=>(h.rd x A).grown (Yw w ⟨g,i,none⟩ u) (D x A),h.away⟩
theorem HFs.setRow {w:Wq} {B B' g:Nat} {v:Value} {l:List Fc} (h:HFs w B v l) (H:g<B) (D:B'<=B) (F:∀x∈l,awayC x (some g)) (cs:Array Value):HFs (w.setRow g cs) B' v l:=
 ⟨X4 (Jk h.row H cs) D,λx A=>(h.rd x A).grown (Yx w g cs) (F x A),h.away⟩
theorem Zfj (w:Wq) (p:Addr) (v:Value) (O:Obj):((w.setCell p v).alloc O).heap[w.heap.size]? =some O:=by
 have:=Zg (w.setCell p v) O
 rwa [show (w.setCell p v).heap.size=w.heap.size by simp[World.setCell]] at this
theorem ZdF (h:RdC w x) {r:Option Nat} (A:∀q,r=some q->awayC x (some q)):awayC x r:=by
 cases r with
 |none=>exact ZbG h
 |some q=>exact A q rfl
theorem Zfd {a:Wq} (h:Ext (a.setCell ⟨g,i,none⟩ u) b):Ext (a.setCell ⟨g,i,none⟩ v) (b.setCell ⟨g,i,none⟩ v):=by
 have D:Below a.heap.size (a.setCell ⟨g,i,none⟩ u) b:=by
  have e:(a.setCell ⟨g,i,none⟩ u).heap.size=a.heap.size:=by simp[World.setCell]
  unfold Ext at h
  rwa [e] at h
 have A:=Ext.setBoth D ⟨g,i,none⟩ v;rw[Zdw] at A;have e2:(a.setCell ⟨g,i,none⟩ v).heap.size=a.heap.size:=by simp[World.setCell]
 unfold Ext;rw[e2];exact A
end
end Go.Proofs.YtnlafkgkcnenfaaGreatDoor
