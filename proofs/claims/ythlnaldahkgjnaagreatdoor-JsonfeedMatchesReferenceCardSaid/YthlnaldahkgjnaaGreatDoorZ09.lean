/- Parts of the proof: contracts and plain laws. -/
import Derived.Test.YthlnaldahkgjnaaGreatDoorZ07
import Derived.Test.YthlnaldahkgjnaaGreatDoorZ08
namespace Go.Proofs.YthlnaldahkgjnaaGreatDoor
open Go Go.RowKit Go.WideMaps Go.Maps _root_.Go.Proofs.Tryz
set_option linter.unusedVariables false
set_option linter.unusedSimpArgs false
set_option maxRecDepth 100000
set_option maxHeartbeats 16000000
theorem Zc7 (e:Ent) (w:World):Calls prog 124 #[.agg (eCells e).toArray] w λx w'=>x= .returned (.string e.id)/\Ext w w':=by
 unfold eCells;go_enter func124,ntmps124;go_wp2;go_ret;exact ⟨rfl,(Ext.refl _).alloc _⟩
theorem ZcY (w:World):(zeroValue 3).run prog w= .ok (.int .i64 0) w:=by kernel_rfl
theorem ZeX:(prog.info? 30).map (λi=>(i.zero,i.size,i.bytes))=some (some (.slice none 0 0),1,24):=by kernel_rfl
theorem Kz (l:List Ent):(ordE.firsts l).length<=l.length:=by
 suffices h:∀(n:Nat) (l:List Ent),l.length=n->(ordE.firsts l).length<=l.length from h _ l rfl
 intro n
 induction n with
 |zero=>intro l A;rw[ZI A];exact Zd _
 |succ n ih=>
  intro l A;obtain ⟨j,e,rfl⟩:∃j e,l=j++ [e]:=by
   rcases List.eq_nil_or_concat l with h|⟨j,e,h⟩
   ·subst h;simp at A
   ·exact ⟨j,e,by simpa using h⟩
  have:=ih j (by simpa using A);rw[ordE.firsts_snoc];split<;>simp<;>omega
theorem ZcL (l:List Ent) (s:ByteArray):(grp l s).length<=l.length:=List.length_filter_le _ _
theorem Q6 {w:World} {B B':Nat} {e:TypeId} {size n:Nat} {v:Value} {xs:List Value} (h:w.ownsRow B e size v n xs) (F:B'<=B):w.ownsRow B' e size v n xs:=by
 refine ⟨h.1,?_⟩;rcases h.2 with A|⟨g,cap,j,C,A,D⟩
 ·exact Or.inl A
 ·exact Or.inr ⟨g,cap,j,C,Zl F A,D⟩
theorem Grps.grow' {w0 w1 w w2:World} {B g cap:Nat} {l:List Ent} {fs:List ByteArray} {gv:List Value} {x:Ent} {i:Nat} {u u':Value} {s:ByteArray}
 (h:Grps w1 B (.slice (some ⟨g,0,none⟩) gv.length cap) l fs gv) (_hx0:Ext w0 w1) (Q:Ext w1 w) (F:fs.Pairwise (· ≠ ·)) (K:fs[i]? =some s) (G:gv[i]? =some u) (H:ordE.id x=s)
 (C:w2.ownsRow B 64 5 u' ((grp l s).length+1) (flatE (grp l s)++eCells x)) (I:w.grownBy w2 u.ownBlock) (D:u'.ownBlock=u.ownBlock\/u'.ownBlock=some w.heap.size) (A:u.ownBlock≠some g):
 w2.cell? ⟨g,i,none⟩=some u/\w2.frozen? ⟨g,i,none⟩=false/\Grps (w2.setCell ⟨g,i,none⟩ u') B (.slice (some ⟨g,0,none⟩) gv.length cap) (l++ [x]) fs (gv.set i u'):=by
 have J:=h.ext Q;have j:=J.row.kept I (Or.inr λe=>A e.symm);have O:i<gv.length:=(ZE.1 G).1;refine ⟨by rw[j.cellAt i (by omega)];exact G,j.frozenAt i,J.grow F K G H C I ?_ A⟩;rcases D with e|e
 ·exact Or.inl e
 ·exact Or.inr ⟨_,Zd _,e⟩
theorem ZaN (v:Value) (l:List Ent) (w:World) (h:REnts w v l) (gT:∀x∈l,x.id.size<=16777216) (hn:l.length<=1000000):
 Calls prog 123 #[v,.func (.func 124) #[] #[]] w λx w'=>∃v' gv,x= .returned v'/\Grps w' w.heap.size v' l (ordE.firsts l) gv/\Ext w w':=by
 obtain ⟨i0,gO,gY,gZ,g0⟩:=Yr XB;obtain ⟨i1,fc,fh,fi,fj⟩:=Yr ZeX;obtain ⟨A,c,rfl,fe,fb⟩:=h.form;have ft:= @run_makeMap prog;have g6:=gd gT;clear fe fb gT;go_enter func123,ntmps123;go_wp2;go_loopw [6,14] (λo i wr=>∃(k:Nat) (gv:List Value) (D:DataW Unit),k<=l.length/\i= .int .i64 k/\Grps wr (w.heap.size+1) o (l.take k) (ordE.firsts (l.take k)) gv/\wr.ownsMap prog 9 (plainElem prog 3) w.heap.size k D/\Hid (IdxMap D (ordE.firsts (l.take k)))/\Ext w wr/\w.heap.size+1<=wr.heap.size) (λ_ i _=>l.length - (intOf i).toNat)
 case atStart=>exact ⟨0,[],.map [],Zt _,rfl,Grps.nil _ _,World.ownsMap_made _ _ _ _,IdxMap.nil,(Ext.refl _).alloc _,by simp⟩
 case round=>
  obtain ⟨k,gv,D,hk,rfl,Z,hM,hD,hx,hws⟩:=hrel;by_cases ht:k<l.length
  ·obtain ⟨ad,c',hv,hm⟩:=(h.ext hx).at ht;injection hv with hv1 hv2 X;subst hv1;clear hv2 X;have fg:=g6.out l[k] (ZO ht);have hU:=Zy ht;have hS:=ordE.firsts_snoc (l.take k) l[k];rw[<-hU] at hS;have gn:=Kz (l.take k);rw[YR] at gn;have hs:=Z.len;have hT:=ordE.firsts_nodup (l.take k);obtain ⟨x,gX⟩:∃x,l[k]=x:=⟨_,rfl⟩;rw[gX] at hm fg hU hS;have gz:=gd hU;have gt:=gd hS;clear hU hS gX;have hK:=ZcL (l.take k) x.id;rw[YR] at hK;have Q:keyOf prog 9 (.string x.id)=some (.string x.id.data.toList):=keyOf_string_mk underlying9 (by unfold maxLen;omega);have hl:=gd (λw'=>Zc7 x w');have fm:(0:Int)<=(k:Int):=(by omega);have fr:(k:Int)<(l.length:Int):=(by omega);have hB:=hD.out.2 x.id;obtain ⟨a0,a1,a2,a3,a4⟩:=hm;by_cases I:x.id∈ordE.firsts (l.take k)
   ·have hg:Maps.has D (.string x.id.data.toList)=true:=hB.1.2 I;obtain ⟨j,hj⟩:=List.mem_iff_getElem?.1 I;have gQ:=hB.2 j hj;have gR:j<gv.length:=(by rw[hs];exact (ZE.1 hj).1);have g2:=gd gQ;have hw:=gd hg;have hq:=gd I;obtain ⟨g,cap,ho,hW⟩:∃g cap,(_:Value)= .slice (some ⟨g,0,none⟩) gv.length cap/\gv.length<=maxLen:=by
     rcases Z.row.2 with ⟨h1,h2⟩|⟨g,cap,fq,h1,_,_,h4,h5,_⟩
     ·omega
     ·exact ⟨g,cap,h1,Zl h4 h5⟩
    subst ho;obtain ⟨u,hu⟩:∃u,gv[j]? =some u:=⟨_,Zc gR⟩;have hp:=Z.each j x.id u hj hu;have gK:wr.cell? ⟨g,j,none⟩=some u:=(by rw[Z.row.cellAt j (by omega)];exact hu);have gL:=Z.row.frozenAt j;have gJ:=Z.row.lt g rfl;have hZ:u.ownBlock≠some g:=by
     intro e;rcases hp.2 with ⟨rfl,_⟩|⟨b',c',fl,rfl,_,g9,_⟩
     ·cases e
     ·rcases Z.row.2 with ⟨h2,_⟩|⟨g',fp,g8,h2,_,gI,_⟩
      ·cases h2
      ·cases h2;cases e;rw[g9] at gI;simp at gI
    have gU:u.ownBlock≠some w.heap.size:=(by intro e;have:=(hp.lt _ e).1;omega);have g5:=gd hp;have h8:=gd hu;have h7:=gd hj;have gc:=gd hZ;have gb:=gd gU;have hr:=gd gJ;have gS:(j:Int)<(gv.length:Int):=(by omega);have gP:(0:Int)<=(j:Int):=(by omega);have hi:Hid (((grp (l.take k) x.id).length+1)*72<=140737488355328):=gd (by omega);have h9:Hid ((grp (l.take k) x.id).length+1<=maxLen):=gd (by unfold maxLen;omega);have gM:gv.length<=9223372036854775807:=(by omega);have gu:=gd hs;have fk:=gd hW;clear gQ hg I hB hp hu hj hZ gU gJ hs hW gR hK gn;obtain ⟨C,J,S,G,hh⟩:=x;simp only at a0 a1 a2 a3 a4 Q;unfold eCells at hl;dsimp only at hl
    go_wp2_with (first|(go_at_call 124;refine (hl.out _).mono ?_;rintro e w2 ⟨rfl,K⟩;(have e0:=K.boxed 0 _ rfl);(have e1:=K.boxed 1 _ rfl);(have e2:=K.boxed 2 _ rfl);(have e3:=K.boxed 3 _ rfl);(have e4:=K.boxed 4 _ rfl);(have O:=(((Ext.refl wr).alloc _).trans K));(have he:=O.cell gK);(have hI:=(XP O hr.out.2).trans gL))|(at_lookup;refine wpList_lookup_own_ok_int _ rfl (.tmp 19) (.tmp 22) _ rfl 9 3 .i64 Qt underlying219 underlying3 (ZcY _) w.heap.size k D rfl ((hM.kept (((Ext.refl wr).alloc _).grown none) (by simp)).kept (K.grown none) (by simp)) _ _ rfl Q ?_;intro c hm gp;(have gH:c=(j:Int):=by (have e:=g2.out.symm.trans hm;injection e with e;injection e with _ e;exact e.symm));rw[hw.out,gH];clear hm gp gH c))
    have fo:=gd O;have h3:=gd (Z.ext O);have hR:=gd (hM.kept (O.grown none) (by simp));have hc:=gd (OEnts.ext g5.out O);have gg:=gd (hx.trans O);have ge:=gd (Zl hws O.size);have ga:=gd hT;clear Z hM Q a0 a1 a2 a3 a4 gK gL K hT;have gN:g<w2.heap.size:=YS w2 _ he;have gG:wr.heap.size<w2.heap.size:=YS w2 _ e0
    go_region_law (first|(refine Z5 _ (by rfl) (.tmp 43) (.tmp 45) _ (by rfl) (w.heap.size+1) 64 i0 _ 5 72 underlying30 gO gY gZ g0 rfl (by decide) u (grp (l.take k) C).length (flatE (grp (l.take k) C)) (by rfl) (Yw hc.out (by repeat (first|exact Ext.refl _|apply Ext.drew|apply Ext.alloc))) _ 1 (eCells ⟨C,J,S,G,hh⟩) (by rfl) (RSl.ext (ZY rfl (by decide)) (by repeat (first|exact Ext.refl _|apply Ext.drew))) (Z1 _) h9.out hi.out (Zl ge.out (by simp)) ?_;intro v3 w3 H U hd;(obtain ⟨g3,F,X,fa⟩:∃g3 F,v3= .slice (some ⟨g3,0,none⟩) ((grp (l.take k) C).length+1) F/\True:=by (obtain ⟨g3,F,X,_⟩:=H.form (by omega);exact ⟨g3,F,X,trivial⟩));subst X;(have V:=Grps.grow' h3.out (Ext.refl _) (by repeat (first|exact Ext.refl _|apply Ext.drew|apply Ext.alloc)) ga.out h7.out h8.out rfl H U hd gc.out);(have hH:=V.1);(have hJ:=V.2.1);(have hN:=(hR.out.kept ((show Ext w2 _ from by repeat (first|exact Ext.refl _|apply Ext.drew|apply Ext.alloc)).grown none) (by simp)).kept U (λe=>gb.out e.symm));(have hP:Ext w w3:=Ext.grown' (B:=0) (Ext.trans gg.out (by repeat (first|exact Ext.refl _|apply Ext.drew|apply Ext.alloc))) U (λb hb=>Zl (ZM _) (hc.out.lt b hb).1))))
    all_goals
     have hf:=V.2.2
     have h6:=gd hf
     have hz:=gd (hN.setCell (a:=⟨g,j,none⟩) (show w.heap.size≠g by have:=hr.out.1;omega) (.slice (some ⟨g3,0,none⟩) ((grp (l.take k) C).length+1) F))
     have gf:=gd (hP.setCell (p:=⟨g,j,none⟩) (show w.heap.size<=g by have:=hr.out.1;omega) (.slice (some ⟨g3,0,none⟩) ((grp (l.take k) C).length+1) F))
     clear V hf hN hP H U hd hH hJ e0 e1 e2 e3 e4 he hI O
     go_wp2
     go_roundw
     case rel=>
      have hC:ordE.firsts (l.take (k+1))=ordE.firsts (l.take k):=gt.out.trans (Zi hq.out)
      exact ⟨k+1,gv.set j _,D,ht,by go_num,by rw[hC,gz.out];exact h6.out,hz.out.mono (ZM _),by rw[hC];exact hD,gf.out,hz.out.lt⟩
     case measure=>simp[intOf];omega
   ·have hg:Maps.has D (.string x.id.data.toList)=false:=by
     cases hb:Maps.has D (.string x.id.data.toList) with
     |false=>rfl
     |true=>exact absurd (hB.1.1 hb) I
    have hO:=hD.out.put (s:=x.id) I;rw[<-hs] at hO;have gy:=gd hO;have hw:=gd hg;have hq:=gd I;have hA:=gd (Za5 I);have gu:=gd hs;have gV:(Lit.int .i64 (gv.length:Nat)).wf=true:=(by simp only[Lit.wf,IntKind.min,IntKind.max,ZU];simp[IntKind.signed,IntKind.bits];omega);have g7:=gd gV;have hV:=Zh wr (.cells (eCells x).toArray 64);have h0:=gd hV;have gs:Hid ((gv.length+1)*24<=140737488355328):=gd (by omega);have gx:Hid (gv.length+1<=maxLen):=gd (by unfold maxLen;omega);have g4:Hid (k<maxLen):=gd (by unfold maxLen;omega);have gM:gv.length<=9223372036854775806:=(by omega);clear hg I hO gV hV hB gn hK hs;obtain ⟨C,J,S,G,hh⟩:=x;simp only at a0 a1 a2 a3 a4 Q;unfold eCells at hl h0;dsimp only at hl h0;obtain ⟨gA,gC,ho⟩:=Z.form;subst ho;have g1:True:=trivial
    go_wp2_with (first|(clear g1;go_at_call 124;refine (hl.out _).mono ?_;rintro e w2 ⟨rfl,K⟩;(have gj:=K.heap h0.out);(obtain ⟨e0,e1,e2,e3,e4⟩:=UC gj);(have O:=(((Ext.refl wr).alloc _).trans K)))|(at_lookup;refine wpList_lookup_own_ok_int _ rfl (.tmp 19) (.tmp 22) _ rfl 9 3 .i64 Qt underlying219 underlying3 (ZcY _) w.heap.size k D rfl ((hM.kept (((Ext.refl wr).alloc _).grown none) (by simp)).kept (K.grown none) (by simp)) _ _ rfl Q ?_;intro c hm gp;rw[hw.out];clear hm gp)|(go_at_call 124;refine (hl.out _).mono ?_;rintro e w4 ⟨rfl,gq⟩;(have gk:=gq.heap gj);(have hQ:=O.trans gq))|(at_mapUpdate;refine Zhs _ rfl (.tmp 30) (.tmp 33) (.tmp 34) 219 rfl 9 3 Qt underlying219 _ w.heap.size k D rfl (hM.kept (hQ.grown none) (by simp)) g4.out _ _ _ rfl rfl Q _ [] (plainElem_int underlying3 g7.out) ?_;intro w5 gi hE)|(at_builtin;refine Zq _ rfl (.tmp 35) (.tmp 36) _ rfl (w.heap.size+1) 30 i1 _ 1 24 underlying181 fc fh fi fj rfl (by decide) _ gv.length gv rfl ((((Z.ext hQ).kept hE (YY _)).row).alloc _) _ 1 [.slice none 0 0] rfl (ZY rfl (by decide)) (by intro y hy;simp at hy;subst hy;rfl) gx.out gs.out ?_ ?_;(have:=gi.lt;simp;omega);intro v6 w6 R hF gE))
    obtain ⟨g,cap,ff,hX,hY⟩:=R.form (Nat.succ_pos _);subst ff;have gW:Ext w w5:=Ext.grown' (B:=0) (hx.trans hQ) hE (λb hb=>by cases hb;exact Zd _);have gB:=(Z.ext hQ).kept hE (YY _);have hL:gv.length+1=(gv++ [Value.slice none 0 0]).length:=(by simp);have gh:=Grps.more (gB.ext ((Ext.refl _).alloc _)) hA.out R hF;rw[hL] at gh;have h3:=gd gh;have go:∀b,(Value.slice gA gv.length gC).ownBlock=some b->w.heap.size+1<=b:=λb hb=>(Z.row.lt b hb).1;have hR:=gd ((gi.alloc _).kept hF (λe=>by have:=go _ e.symm;omega));have gg:=gd (Ext.grown' (B:=0) (gW.alloc _) hF (λb hb=>Zl (ZM _) (go b hb)));have hp:OEnts w6 (w.heap.size+1) (.slice none 0 0) (grp (l.take k) C):=(by rw[hA.out];exact OEnts.nil _ _);have hc:=gd hp;have gD:w.heap.size+1<=w6.heap.size:=hR.out.lt;have ge:=gd gD;have gm:w5.heap[wr.heap.size]? =some (.cells #[.string C,.string J,.string S,.string G,.int .i64 hh] 64):=(by rw[hE.block wr.heap.size (YS w4 ⟨wr.heap.size,0,none⟩ (by rw[Zb _ _ _ _ _ _ gk];rfl)) (by simp;omega)];exact gk);have gF:w6.heap[wr.heap.size]? =some (.cells #[.string C,.string J,.string S,.string G,.int .i64 hh] 64):=(by rw[hF.block wr.heap.size (by have:wr.heap.size<w5.heap.size:=YS w5 ⟨wr.heap.size,0,none⟩ (by rw[Zb _ _ _ _ _ _ gm];rfl);simp;omega) (λe=>by have:=(Z.row.lt _ e.symm).2;omega)];exact ((Ext.refl w5).alloc _).heap gm);have ga:Hid ((ordE.firsts (l.take k)++ [C]).Pairwise (· ≠ ·)):=gd (by
     rw[List.pairwise_append];exact ⟨hT,by simp,λa ha b hb=>by simp at hb;subst hb;rintro rfl;exact hq.out ha⟩)
    have h7:Hid ((ordE.firsts (l.take k)++ [C])[gv.length]? =some C):=gd (by rw[gu.out];simp);have h8:Hid ((gv++ [Value.slice none 0 0])[gv.length]? =some (.slice none 0 0)):=gd (by simp);have gc:Hid ((Value.slice none 0 0).ownBlock≠some g):=gd (by intro e;cases e);have gb:Hid ((Value.slice none 0 0).ownBlock≠some w.heap.size):=gd (by intro e;cases e);have hr:=gd (Z9 hX hY);have he:w6.cell? ⟨g,gv.length,none⟩=some (.slice none 0 0):=(by rw[R.cellAt gv.length (by omega)];simp);have hI:w6.frozen? ⟨g,gv.length,none⟩=false:=R.frozenAt gv.length;have gS:(gv.length:Int)<((gv.length:Nat):Int)+1:=(by omega);have fn:gv.length<gv.length+1:=(by omega);have gP:(0:Int)<=(gv.length:Int):=(by omega);have hi:Hid ((grp (l.take k) C).length+1<=1/\True):=gd ⟨by rw[hA.out];simp,trivial⟩;have h9:Hid ((grp (l.take k) C).length+1<=maxLen):=gd (Zl hi.out.1 (by decide));have gr:Hid (((grp (l.take k) C).length+1)*72<=140737488355328):=gd (by have:=hi.out.1;omega);clear hi;have hi:=gr;have gw:=gd hL;clear e0 e1 e2 e3 e4;obtain ⟨e0,e1,e2,e3,e4⟩:=UC gF;clear Z gB gh hM gi Q a0 a1 a2 a3 a4 K gq O hQ gj gk gm gF hE hF gE R gW go hp gD hL hX hY hT;have gN:g<w6.heap.size:=YS w6 _ he;have gG:wr.heap.size<w6.heap.size:=YS w6 _ e0
    go_region_law (first|(refine Z5 _ (by rfl) (.tmp 43) (.tmp 45) _ (by rfl) (w.heap.size+1) 64 i0 _ 5 72 underlying30 gO gY gZ g0 rfl (by decide) (.slice none 0 0) (grp (l.take k) C).length (flatE (grp (l.take k) C)) (by rfl) (Yw hc.out (by repeat (first|exact Ext.refl _|apply Ext.drew|apply Ext.alloc))) _ 1 (eCells ⟨C,J,S,G,hh⟩) (by rfl) (RSl.ext (ZY rfl (by decide)) (by repeat (first|exact Ext.refl _|apply Ext.drew))) (Z1 _) h9.out hi.out (Zl ge.out (by simp)) ?_;intro v3 w3 H U hd;(obtain ⟨g3,F,X,fa⟩:∃g3 F,v3= .slice (some ⟨g3,0,none⟩) ((grp (l.take k) C).length+1) F/\True:=by (obtain ⟨g3,F,X,_⟩:=H.form (by omega);exact ⟨g3,F,X,trivial⟩));subst X;(have V:=Grps.grow' h3.out (Ext.refl _) (by repeat (first|exact Ext.refl _|apply Ext.drew|apply Ext.alloc)) ga.out h7.out h8.out rfl H U hd gc.out);(have hH:=V.1);(have hJ:=V.2.1);(have hN:=(hR.out.kept ((show Ext w6 _ from by repeat (first|exact Ext.refl _|apply Ext.drew|apply Ext.alloc)).grown none) (by simp)).kept U (λe=>gb.out e.symm));(have hP:Ext w w3:=Ext.grown' (B:=0) (Ext.trans gg.out (by repeat (first|exact Ext.refl _|apply Ext.drew|apply Ext.alloc))) U (λb hb=>Zl (ZM _) (hc.out.lt b hb).1))))
    all_goals
     have hf:=V.2.2
     have h6:=gd hf
     have hz:=gd (hN.setCell (a:=⟨g,gv.length,none⟩) (show w.heap.size≠g by have:=hr.out.1;omega) (.slice (some ⟨g3,0,none⟩) ((grp (l.take k) C).length+1) F))
     have gf:=gd (hP.setCell (p:=⟨g,gv.length,none⟩) (show w.heap.size<=g by have:=hr.out.1;omega) (.slice (some ⟨g3,0,none⟩) ((grp (l.take k) C).length+1) F))
     clear V hf hN hP H U hd hH hJ e0 e1 e2 e3 e4 he hI
     go_wp2
     go_roundw
     case rel=>
      have hC:ordE.firsts (l.take (k+1))=ordE.firsts (l.take k)++ [C]:=gt.out.trans (Zf hq.out)
      exact ⟨k+1,(gv++ [Value.slice none 0 0]).set gv.length _,D.put (.string C.data.toList) (.lit (.int .i64 (gv.length:Nat))),ht,by go_num,by rw[hC,gz.out,gw.out];exact h6.out,hz.out,by rw[hC];exact gy.out,gf.out,hz.out.lt⟩
     case measure=>simp[intOf];omega
  ·have fd:k=l.length:=(by omega);subst fd;rw[ZC (Zd _)] at Z hD;have HG:=gd Z;clear Z hD hM hk ht;go_wp2;go_ret;refine ⟨_,gv,rfl,?_,hx⟩;have h1:=HG.out;exact ⟨h1.len,Q6 h1.row (ZM _),λj s u hj hu=>(h1.each j s u hj hu).mono (ZM _),h1.apart⟩
def RStrs (w:World) (v:Value) (l:List ByteArray):Prop:=RSl w 1 v l.length (l.map Value.string)
theorem RStrs.ext {w w':World} {v:Value} {l:List ByteArray} (h:RStrs w v l) (j:Ext w w'):RStrs w' v l:=RSl.ext h j
theorem RStrs.form {w:World} {v:Value} {l:List ByteArray} (h:RStrs w v l):∃A c,v= .slice A l.length c/\l.length<=c/\c<=maxLen:=by
 obtain ⟨_,A,c,e,j,C,_⟩:=h;exact ⟨A,c,e,j,C⟩
def fCells (p es:Value) (f:Fd):List Value:= [p,.string f.id,.string f.title,.string f.link,.int .i64 f.upd,es]
theorem ZA:(prog.info? 32).map (λi=>i.size)=some 6:=by kernel_rfl
def sizes (l:List ByteArray):Nat:=(l.map ByteArray.size).sum
def fok (f:Fd):Prop:=i64ok f.upd/\f.path.length+sizes f.path+f.id.size+f.title.size+f.link.size<=16777216
theorem Xp {l:List ByteArray} {s:ByteArray} (h:s∈l):s.size<=sizes l:=by
 induction l with
 |nil=>simp at h
 |cons x t ih=>
  have e:sizes (x::t)=x.size+sizes t:=by unfold sizes;simp
  rcases ZG.1 h with rfl|h
  ·omega
  ·have:=ih h;omega
theorem Ep (w:World) (A B:Obj):((w.alloc A).alloc B).heap[w.heap.size+1]? =some B:=by
 have:=Zh (w.alloc A) B
 rwa [Zp] at this
structure Fc where
 p:Value
 es:Value
 f:Fd
def cellsC (x:Fc):List Value:=fCells x.p x.es x.f
def isSl (v:Value):Prop:=∃A n c,v= .slice A n c
def slC (x:Fc):Prop:=isSl x.p/\isSl x.es
theorem ZbF {x:Fc} (h:slC x):∀u∈cellsC x,u.oneCell'=true:=by
 obtain ⟨p,es,f⟩:=x;obtain ⟨⟨A,n,c,j⟩,⟨B,m,d,C⟩⟩:=h;simp only at j C;subst j C;intro u D;simp only[cellsC,fCells,ZG,YD,YK] at D;rcases D with rfl|rfl|rfl|rfl|rfl|rfl<;>rfl
def RdC (w:World) (x:Fc):Prop:=RStrs w x.p x.f.path/\REnts w x.es x.f.ents
theorem RdC.ext {w w':World} {x:Fc} (h:RdC w x) (j:Ext w w'):RdC w' x:=⟨h.1.ext j,h.2.ext j⟩
theorem RdC.sl {w:World} {x:Fc} (h:RdC w x):slC x:=by
 obtain ⟨A,c,e,_⟩:=h.1.form;obtain ⟨B,d,j,_⟩:=h.2.form;exact ⟨⟨A,_,c,e⟩,⟨B,_,d,j⟩⟩
theorem YQ {A:Option Addr} {n c:Nat} {B:Option Addr} {m d:Nat} {i t l:ByteArray} {u:Int}:(#[Value.slice A n c,.string i,.string t,.string l,.int .i64 u,.slice B m d]).all (λu=>u.oneCell')=true:=
 UD (ZbF (x:=⟨.slice A n c,.slice B m d,⟨[],i,t,l,u,[]⟩⟩) ⟨⟨_,_,_,rfl⟩,⟨_,_,_,rfl⟩⟩)
theorem RSl.grown {w w':World} {size n:Nat} {v:Value} {xs:List Value} {r:Option Nat} (h:RSl w size v n xs) (O:w.grownBy w' r) (C:xs= []\/v.ownBlock≠r):RSl w' size v n xs:=by
 obtain ⟨F,A,c,rfl,G,H,I,J⟩:=h;refine ⟨F,A,c,rfl,G,H,I,λj u D=> ?_⟩;obtain ⟨ad,rfl,K⟩:=J j u D;refine ⟨ad,rfl,O.cell K ?_⟩;rw[QC];rcases C with C|C
 ·subst C;simp at D
 ·exact C
def awayC (x:Fc) (r:Option Nat):Prop:=(x.f.path= []\/x.p.ownBlock≠r)/\(x.f.ents= []\/x.es.ownBlock≠r)
theorem RdC.grown {w w':World} {x:Fc} {r:Option Nat} (h:RdC w x) (A:w.grownBy w' r) (j:awayC x r):RdC w' x:=
 ⟨RSl.grown h.1 A (j.1.imp (λe=>by rw[e];rfl) λe=>e),RSl.grown h.2 A (j.2.imp (λe=>by rw[e];rfl) λe=>e)⟩
section
theorem Vp:∀(l out:List UInt8) (g:Bool),(collGo l out g).length<=out.length+l.length+(if g=true then 1 else 0)
 | [],out,g=>by simp only[collGo,ZF];omega
 |c::t,out,g=>by
  simp only[collGo]
  by_cases h:isSp c.toNat=true
  ·rw[Zi h]
   have:=Vp t out (!out.isEmpty)
   rw[Zr]
   split at this<;>omega
  ·rw[Zf h]
   have:=Vp t (out++(if g=true then [32] else [])++ [c]) false
   simp only[Ja,ZgK,Zj,Zr,ZF] at this
   rw[Zr]
   cases g
   ·simp only[Ja,ZgK,ZF] at this|-;omega
   ·simp only[Eq,Zr,ZF] at this|-;omega
theorem YW (s:ByteArray):(collapse s).size<=s.size:=by
 unfold collapse coll;rw[Xg];have:=Vp s.data.toList [] false;simp only[Ja,ZgK,ZF] at this;rw[Zn] at this;omega
theorem QR {e:Ent} (h:eok e):eok (collE e):=by
 obtain ⟨j,A⟩:=h;refine ⟨j,?_⟩;have a:=YW e.id;have b:=YW e.title;have c:=YW e.link;have d:=YW e.content;show (collapse e.id).size+(collapse e.title).size+(collapse e.link).size+(collapse e.content).size<=16777216;omega
theorem Ii:∀l:List ByteArray,sizes (l.map collapse)<=sizes l
 | []=>Zd _
 |s::t=>by
  have h:=Ii t
  have a:=YW s
  unfold sizes at*
  simp only[Ym,List.sum_cons] at h|-
  omega
theorem ZeK {f:Fd} (h:fok f):fok (collF f):=by
 obtain ⟨j,A⟩:=h;refine ⟨j,?_⟩;have a:=YW f.id;have b:=YW f.title;have c:=YW f.link;have d:=Ii f.path;show (f.path.map collapse).length+sizes (f.path.map collapse)+(collapse f.id).size+(collapse f.title).size+(collapse f.link).size<=16777216;rw[ZS];omega
theorem Eo:∀(t:List Ent) (x:Ent),t.foldl laterE x∈x::t
 | [],x=>by simp
 |y::t,x=>by
  have h:=Eo t (laterE x y)
  rw[List.foldl_cons]
  rcases ZG.1 h with h|h
  ·rw[h]
   unfold laterE
   split<;>simp
  ·simp[h]
theorem Kk {l:List Ent} {x:Ent} (h:x∈ordE.canon l):x∈l:=by
 have j:=((ordE.canon_is l).2 x).1 h;unfold Ord.got at j;cases hf:l.filter λy=>decide (ordE.id y=ordE.id x) with
 |nil=>rw[hf] at j;cases j
 |cons y t=>
  rw[hf] at j;have C:t.foldl laterE y=x:=by unfold Ord.fold1 at j;injection j
  have A:=Eo t y;rw[C,<-hf] at A;exact (Jp.1 A).1
section
variable {α κ:Type} (O:Ord α κ)
theorem ZcM:∀(l:List α) (e:α),(O.ins l e).length=l.length+1
 | [],_=>rfl
 |x::t,e=>by
  unfold Ord.ins
  split
  ·rfl
  ·rw[Zr,ZcM t e,Zr]
end
section
variable {α κ:Type} [DecidableEq κ] (O:Ord α κ)
theorem Zgh (l:List α) (e:α):(O.put l e).length<=l.length+1:=by
 unfold Ord.put;rw[ZcM,O.scan_fst];have:=List.length_filter_le (λx=> !decide (O.id x=O.id e)) l;omega
theorem QW:∀(l s:List α),(l.foldl O.put s).length<=s.length+l.length
 | [],s=>by simp
 |x::t,s=>by
  have h:=QW t (O.put s x)
  have:=Zgh O s x
  rw[List.foldl_cons,Zr]
  omega
theorem IW (l:List α):(O.canon l).length<=l.length:=by
 have:=QW O l [];unfold Ord.canon;simpa using this
end
def fokS (f:Fd):Prop:=fok f/\f.ents.length<=1000000/\∀e∈f.ents,eok e
theorem Zdj {f:Fd} (h:fokS f):fokS (collF f):=by
 refine ⟨ZeK h.1,?_,λe j=> ?_⟩
 ·show (ordE.canon (f.ents.map collE)).length<=1000000;have:=IW ordE (f.ents.map collE);rw[ZS] at this;have:=h.2.1;omega
 ·obtain ⟨x,A,rfl⟩:=Yq.1 (Kk (show e∈ordE.canon (f.ents.map collE) from j));exact QR (h.2.2 x A)
end
theorem En (j:JO) (cs:List Value) (b sb:Nat) (o:Option (Nat×Nat)) (A:List ByteArray) (w0 w:World) (h:RJ w0 j cs) (hd:Ext w0 w) (hr:RdAt b cs o w)
 (hs:w.heap[sb]? =some (.cells (A.map Value.string).toArray 9 (0,0))) (hn:A.length<=1000):
 Calls prog 29 #[.pointer (some ⟨b,0,none⟩),.slice (some ⟨sb,0,none⟩) A.length A.length] w λe w'=>e= .returned (.string (firstJ j A))/\Ext w w':=by
 have S:=gd (λw' name o' (I:Ext w0 w') (ha:RdAt b cs o' w')=>UN j cs b o' name w0 w' h I ha);go_enter func29,ntmps29;go_wp2;go_loopw [11] (λi wr=>∃k:Nat,k<=A.length/\i= .int .i64 k/\Hid (firstJ j A=firstJ j (A.drop k))/\Ext w wr) (λi _=>A.length - (intOf i).toNat)
 case atStart=>exact ⟨0,Zt _,rfl,rfl,Ext.refl _⟩
 case round=>
  obtain ⟨k,hk,rfl,V,I⟩:=hrel;have hb:=I.heap hs;by_cases O:k<A.length
  ·have J:=Jv hb O;have C:firstJ j A=match memJ j A[k] with|some x=>sJ x|none=>firstJ j (A.drop (k+1)):=(by rw[V.out,Zx O];rfl)
   obtain ⟨NM,U⟩:∃n,A[k]=n:=⟨_,rfl⟩;rw[U] at J C;have D:=S.out wr NM o (hd.trans I) (hr.ext I);clear V U;cases hm:memJ j NM with
   |none=>
    rw[hm] at D C;have G:=gd C;have Y:=gd D;clear D C
    go_wp2_with (go_at_call 33;(have X:=Y.out);(with_reducible refine Za X ?_);clear X;rintro e w1 ⟨⟨x,cx,rfl,Q,F⟩,R⟩;(obtain ⟨A1,p1,q1,B1,p2,q2,H⟩:=Q.cells);(generalize kindJ _=K,bJ _=Bb,nJ _=Nn,sJ _=Ss,atJ _=At at H);unfold wcells at H;subst H)
    go_roundw
    case rel=>exact ⟨k+1,O,rfl,G,I.trans (R.alloc _)⟩
    case measure=>simp[intOf];omega
   |some x=>
    rw[hm] at D C;have G:=gd C;have Y:=gd D;clear D C
    go_wp2_with (go_at_call 33;(have X:=Y.out);(with_reducible refine Za X ?_);clear X;rintro e w1 ⟨⟨y,cx,rfl,Q,F⟩,R⟩;(obtain rfl:x=y:=by rcases F with F|F;(injection F);(cases F.1));(obtain ⟨A1,p1,q1,B1,p2,q2,H⟩:=Q.cells);(unfold wcells at H);(generalize kindJ x=K,bJ x=Bb,nJ x=Nn,atJ x=At at H);(generalize hS:sJ x=Ss at H);subst H)
    go_ret;exact ⟨by rw[G.out,hS];rfl,I.trans (R.alloc _)⟩
  ·have Z:A.drop k= []:=ZB (by omega);rw[Z] at V;have G:=gd V.out;clear V;go_wp2;go_ret;exact ⟨by rw[G.out];rfl,I⟩
theorem XJ (j:JO) (cs:List Value) (b:Nat) (o:Option (Nat×Nat)) (s:ByteArray) (w0 w:World) (h:RJ w0 j cs) (ha:Ext w0 w) (Q:RdAt b cs o w) (hs:s.size<=16777216):
 Calls prog 31 #[.pointer (some ⟨b,0,none⟩),.string s] w λe w'=>e= .returned (.tuple #[])/\RdAt b cs (orF o (if collapse s=noS then some (atJ j,19) else none)) w'/\Bar b w w':=by
 have G:=gd (λw' at_ e o' (R:RdAt b cs o' w') (Y:e≠0)=>UL j cs b o' at_ e w0 w' h R Y);have F:=gd (Xc s w (by omega));obtain ⟨A,p,c,B,q,d,X⟩:=h.cells;obtain ⟨C,U⟩:∃C,collapse s=C:=⟨_,rfl⟩;rw[U] at F|-;have V:=Q.1;rw[X] at V;have O:∀w',Ext w w'->w'.cell? ⟨b,6,none⟩=some (.int .i64 (atJ j:Nat)):=λw' hx=>Zb _ _ 6 _ _ _ (hx.heap V);clear U hs;by_cases H:C=noS
 ·rw[Zi H];have K:C.toList.isEmpty=true:=by rw[H];exact Xo []
  clear H;go_enter func31,ntmps31
  go_wp2_with (first|(go_at_call 30;(have I:=F.out);(with_reducible refine Za I ?_);clear I;rintro e w1 ⟨rfl,D⟩;(have Z:=O w1 D))|(go_at_call 34;(with_reducible refine Za (G.out w1 (atJ j) 19 o (Q.ext D) (by decide)) ?_);rintro e w3 ⟨rfl,S,J⟩))
  all_goals ((try simp only[Exit.inBlock,Exit.then]);refine bodyPost_end (results_none rfl _ _ _) rfl ?_)
  all_goals exact ⟨rfl,S,(Bar.of D).trans J⟩
 ·rw[Zf H,Y9];have K:C.toList.isEmpty=false:=by
   rw[XE];cases hl:C.data.toList with
   |nil=>exact absurd (Xi hl) H
   |cons a t=>rfl
  go_enter func31,ntmps31
  go_wp2_with (go_at_call 30;(have I:=F.out);(with_reducible refine Za I ?_);clear I;rintro e w1 ⟨rfl,D⟩)
  all_goals ((try simp only[Exit.inBlock,Exit.then]);refine bodyPost_end (results_none rfl _ _ _) rfl ?_)
  all_goals exact ⟨rfl,Q.ext D,Bar.of D⟩
def faultD (x:Except (Nat×Nat) Int):Option (Nat×Nat):=match x with
 | .ok _=>none
 | .error e=>some e
theorem Qk (j:JO) (n:ByteArray) (t:List ByteArray):dateJ j (n::t)=match memJ j n with
 |none=>dateJ j t
 |some x=>match timeP (collapse (sJ x)).data.toList with
  |some t=> .ok t
  |none=> .error (atJ x,20):=rfl
theorem ZaA (N:Nat) (j:JO) (cs:List Value) (b sb:Nat) (o:Option (Nat×Nat)) (A:List ByteArray) (w0 w:World) (h:RJ w0 j cs) (hg:jsz N j) (hN:N<=16777216) (hE:Ext w0 w) (hr:RdAt b cs o w)
 (hs:w.heap[sb]? =some (.cells (A.map Value.string).toArray 9 (0,0))) (hI:sb≠b) (hn:A.length<=1000):
 Calls prog 32 #[.pointer (some ⟨b,0,none⟩),.slice (some ⟨sb,0,none⟩) A.length A.length] w λe w'=>(∃t:Int,e= .returned (.int .i64 t)/\∀v,dateJ j A= .ok v->t=v)/\RdAt b cs (orF o (faultD (dateJ j A))) w'/\Bar b w w':=by
 have ho:=gd (λw' name o' (I:Ext w0 w') (hl:RdAt b cs o' w')=>UN j cs b o' name w0 w' h I hl);have hb:=gd (λw' at_ e o' (hl:RdAt b cs o' w') (he:e≠0)=>UL j cs b o' at_ e w0 w' h hl he);go_enter func32,ntmps32;go_wp2;go_loopw [13] (λi wr=>∃k:Nat,k<=A.length/\i= .int .i64 k/\Hid (dateJ j A=dateJ j (A.drop k))/\Ext w wr) (λi _=>A.length - (intOf i).toNat)
 case atStart=>exact ⟨0,Zt _,rfl,rfl,Ext.refl _⟩
 case round=>
  obtain ⟨k,hk,rfl,hf,I⟩:=hrel;have hC:=I.heap hs;by_cases hj:k<A.length
  ·have hh:=Jv hC hj;have D:dateJ j A=match memJ j A[k] with
    |none=>dateJ j (A.drop (k+1))
    |some x=>match timeP (collapse (sJ x)).data.toList with
     |some t=> .ok t
     |none=> .error (atJ x,20):=by
    rw[hf.out,Zx hj,Qk]
   obtain ⟨NM,hp⟩:∃n,A[k]=n:=⟨_,rfl⟩;rw[hp] at hh D;have H:=ho.out wr NM o (hE.trans I) (hr.ext I);clear hf hp;cases hm:memJ j NM with
   |none=>
    rw[hm] at H D;have G:=gd D;have HG:=gd H;clear H D
    go_wp2_with (go_at_call 33;(have Z:=HG.out);(with_reducible refine Za Z ?_);clear Z;rintro e w1 ⟨⟨x,cx,rfl,Q,F⟩,J⟩;(obtain ⟨A1,p1,q1,B1,p2,q2,O⟩:=Q.cells);(generalize kindJ _=K,bJ _=Bb,nJ _=Nn,sJ _=Ss,atJ _=At at O);unfold wcells at O;subst O)
    go_roundw
    case rel=>exact ⟨k+1,hj,rfl,G,I.trans (J.alloc _)⟩
    case measure=>simp[intOf];omega
   |some x=>
    rw[hm] at H D;simp only at D;have hu:=YM hg hm;have hD:=Jk hu;have hq:=YW (sJ x);have hi:=λw'=>Xc (sJ x) w' (by omega);have R:=λw'=>ZfH (collapse (sJ x)) w' (by omega);generalize collapse (sJ x)=C at hi R D hq;have HG:=gd H;have ha:=gd hi;have hF:b<wr.heap.size:=(Ze.1 (hr.ext I).1).1;clear H hi hD hq hu;cases ht:timeP C.data.toList with
    |some t=>
     rw[ht] at D;have hd:Hid (∀w':World,Calls prog 71 #[.string C] w' λe V=>e= .returned (.tuple #[.int .i64 t,.int .i64 0])/\Ext w' V):=gd λw'=>(R w').mono λe V ⟨h1,h2⟩=>⟨by unfold TimeR at h1;rw[ht] at h1;exact h1,h2⟩;have G:=gd D;clear D R
     go_wp2_with (first|(go_at_call 33;(have Z:=HG.out);(with_reducible refine Za Z ?_);clear Z;rintro e w1 ⟨⟨y,cx,rfl,Q,F⟩,J⟩;(obtain rfl:x=y:=by rcases F with F|F;(injection F);(cases F.1));(obtain ⟨A1,p1,q1,B1,p2,q2,O⟩:=Q.cells);(unfold wcells at O);(generalize kindJ x=K,bJ x=Bb,nJ x=Nn,sJ x=Ss,atJ x=At at*);subst O)|(go_at_call 30;(with_reducible refine Za (ha.out _) ?_);rintro e w2 ⟨rfl,S⟩)|(go_at_call 71;(with_reducible refine Za (hd.out _) ?_);rintro e w3 ⟨rfl,U⟩))
     go_ret;have X:=I.trans (((J.alloc _).trans S).trans U);exact ⟨⟨t,rfl,λv Y=>by rw[G.out] at Y;injection Y⟩,by rw[G.out];exact (by rw[show faultD (Except.ok t)=none from rfl,Y9];exact hr.ext X),Bar.of X⟩
    |none=>
     rw[ht] at D;have hd:Hid (∀w':World,Calls prog 71 #[.string C] w' λe V=>∃x:Int,x≠0/\e= .returned (.tuple #[.int .i64 0,.int .i64 x])/\Ext w' V):=gd λw'=>(R w').mono λe V ⟨h1,h2⟩=>(by unfold TimeR at h1;rw[ht] at h1;obtain ⟨x,I,rfl⟩:=h1;exact ⟨x,I,rfl,h2⟩);have G:=gd D;clear D R
     go_wp2_with (first|(go_at_call 33;(have Z:=HG.out);(with_reducible refine Za Z ?_);clear Z;rintro e w1 ⟨⟨y,cx,rfl,Q,F⟩,J⟩;(obtain rfl:x=y:=by rcases F with F|F;(injection F);(cases F.1));(obtain ⟨A1,p1,q1,B1,p2,q2,O⟩:=Q.cells);(unfold wcells at O);(generalize kindJ x=K,bJ x=Bb,nJ x=Nn,sJ x=Ss at O ha);(generalize hw:atJ x=At at O);subst O)|(go_at_call 30;(with_reducible refine Za (ha.out _) ?_);rintro e w2 ⟨rfl,S⟩)|(go_at_call 71;(with_reducible refine Za (hd.out _) ?_);rintro e w3 ⟨er,hG,rfl,U⟩;(have hH:=(S.trans U).boxed 6 _ rfl))|(go_at_call 34;(with_reducible refine Za (hb.out w3 At 20 o (hr.ext (I.trans (((J.alloc _).trans S).trans U))) (by decide)) ?_);rintro e w4 ⟨rfl,hB,hy⟩))
     go_ret;have X:=I.trans (((J.alloc _).trans S).trans U);exact ⟨⟨0,rfl,λv Y=>by rw[G.out] at Y;cases Y⟩,by rw[G.out,hw];exact hB,(Bar.of X).trans hy⟩
  ·have hA:A.drop k= []:=ZB (by omega);rw[hA] at hf;have G:=gd hf.out;clear hf;go_wp2;go_ret;exact ⟨⟨_,rfl,λv Y=>by rw[G.out] at Y;injection Y⟩,by rw[G.out];exact (by rw[show faultD (dateJ j [])=none from rfl,Y9];exact hr.ext I),Bar.of I⟩
def verS (s:ByteArray):Option ByteArray:=if s=str (base1++ [49]) then some v1 else if s=str (base1++ [49,46,49]) then some v11 else none
theorem GD (j:JO):versJ j=match getJ j nVersion with
 |some x=>verS (sJ x)
 |none=>none:=rfl
theorem Zar {s:ByteArray} (h:Lib.hasPrefix s.data.toList base1=false):verS s=none:=by
 unfold verS;rw[Zf,Zf]
 ·rintro rfl;rw[Yz] at h;revert h;decide
 ·rintro rfl;rw[Yz] at h;revert h;decide
theorem ZfI {s:ByteArray} {t:List UInt8} (h:Lib.hasPrefix s.data.toList base1=true) (D:Lib.trimPrefix s.data.toList base1=t):verS s=if t= [49] then some v1 else if t= [49,46,49] then some v11 else none:=by
 have j:s.data.toList=base1++t:=by subst D;unfold Lib.trimPrefix;rw[h];unfold Lib.hasPrefix at h;obtain ⟨r,C⟩:=List.isPrefixOf_iff_prefix.1 h;rw[<-C];simp
 have e:∀u:List UInt8,s=str (base1++u)↔t=u:=by
  intro u;constructor
  ·intro A;rw[A,Yz] at j;exact (List.append_cancel_left j).symm
  ·rintro rfl;exact Xi (by rw[j,Yz])
 unfold verS;simp only[e]
theorem ZfQ (s p:ByteArray) (w:World):Calls prog 45 #[.string s,.string p] w λe w'=>e= .returned (.tuple #[.string (str (Lib.trimPrefix s.data.toList p.data.toList)),.bool (Lib.hasPrefix s.data.toList p.data.toList)])/\w'=w:=strings_CutPrefix s p w
def baseS:ByteArray:=⟨#[104,116,116,112,115,58,47,47,106,115,111,110,102,101,101,100,46,111,114,103,47,118,101,114,115,105,111,110,47]⟩
theorem Xm (j:JO) (cs:List Value) (w0 w:World) (h:RJ w0 j cs) (ha:Ext w0 w):
 Calls prog 14 #[.agg cs.toArray] w λe w'=>e= .returned (.tuple #[.string ((versJ j).getD noS),.bool (versJ j).isSome])/\Ext w w':=by
 have J:=gd (λw' (hx:Ext w w')=>ZaW j cs nVersion w0 w' h (ha.trans hx));have hv:∃S:ByteArray,(∀e,GotJ w0 (getJ j nVersion) e->∃k bb n O p1 Z Q p2 q2 a F,e= .returned (.tuple #[.agg #[.int .i64 k,.bool bb,.int .i64 n,.string S,.slice O p1 Z,.slice Q p2 q2,.int .i64 a],.bool F]))/\versJ j=verS S:=by
  cases hj:getJ j nVersion with
  |none=>refine ⟨noS,?_,by rw[GD,hj];rw[Zar (by decide)]⟩;rintro e ⟨cv,rfl,hr⟩;obtain ⟨O,p1,Z,Q,p2,q2,hc⟩:=hr.cells;subst hc;exact ⟨_,_,_,_,_,_,_,_,_,_,_,rfl⟩
  |some x=>refine ⟨sJ x,?_,by rw[GD,hj]⟩;rintro e ⟨cv,rfl,hr⟩;obtain ⟨O,p1,Z,Q,p2,q2,hc⟩:=hr.cells;subst hc;exact ⟨_,_,_,_,_,_,_,_,_,_,_,rfl⟩
 obtain ⟨S,hS,G⟩:=hv;have K:=gd hS;have C:=λw'=>ZfQ S baseS w';obtain ⟨A,p,c,B,q,d,hc⟩:=h.cells;subst hc;unfold wcells at*;rw[G];cases hf:Lib.hasPrefix S.data.toList baseS.data.toList with
 |false=>
  rw[hf] at C;rw[Zar hf];generalize str (Lib.trimPrefix S.data.toList baseS.data.toList)=T at C;have H:=gd C;clear C hf G h hS;unfold nVersion at J K;unfold baseS at H;go_enter func14,ntmps14
  go_wp2_with (first|(go_at_call 44;(with_reducible refine Za (J.out _ ((Ext.refl w).alloc _)) ?_);rintro e w1 ⟨V,D⟩;(obtain ⟨k,bb,n,O,p1,Z,Q,p2,q2,a,F,rfl⟩:=K.out e V))|(go_at_call 45;(with_reducible refine Za (H.out _) ?_);rintro e w2 ⟨rfl,rfl⟩))
  go_ret2
  exact ⟨rfl,((Ext.refl w).alloc _).trans (D.alloc _)⟩
 |true=>
  rw[hf] at C;obtain ⟨t,ht⟩:∃t,Lib.trimPrefix S.data.toList baseS.data.toList=t:=⟨_,rfl⟩;rw[ht] at C;rw[ZfI hf ht];obtain ⟨T,U⟩:∃T,str t=T:=⟨_,rfl⟩;have X:T.toList=t:=by rw[<-U,XE,Yz]
  rw[U] at C;have H:=gd C;clear C hf G h hS ht;by_cases I:t= [49]
  ·rw[Zi I];have e1:T.toList= [49]:=X.trans I;have Y:=gd (show T=v1 by rw[<-U,I];rfl);clear X I U;unfold nVersion at J K;unfold baseS at H;go_enter func14,ntmps14
   go_wp2_with (first|(go_at_call 44;(with_reducible refine Za (J.out _ ((Ext.refl w).alloc _)) ?_);rintro e w1 ⟨V,D⟩;(obtain ⟨k,bb,n,O,p1,Z,Q,p2,q2,a,F,rfl⟩:=K.out e V))|(go_at_call 45;(with_reducible refine Za (H.out _) ?_);rintro e w2 ⟨rfl,rfl⟩))
   go_ret2
   exact ⟨by rw[Y.out];rfl,((Ext.refl w).alloc _).trans (D.alloc _)⟩
  by_cases R:t= [49,46,49]
  ·rw[Zf I,Zi R];have e1:T.toList= [49,46,49]:=X.trans R;have Y:=gd (show T=v11 by rw[<-U,R];rfl);clear X I R U;unfold nVersion at J K;unfold baseS at H;go_enter func14,ntmps14
   go_wp2_with (first|(go_at_call 44;(with_reducible refine Za (J.out _ ((Ext.refl w).alloc _)) ?_);rintro e w1 ⟨V,D⟩;(obtain ⟨k,bb,n,O,p1,Z,Q,p2,q2,a,F,rfl⟩:=K.out e V))|(go_at_call 45;(with_reducible refine Za (H.out _) ?_);rintro e w2 ⟨rfl,rfl⟩))
   go_ret2
   exact ⟨by rw[Y.out];rfl,((Ext.refl w).alloc _).trans (D.alloc _)⟩
  ·rw[Zf I,Zf R];have e1:(T.toList== [49])=false:=(by rw[X];simpa using I);have e2:(T.toList== [49,46,49])=false:=(by rw[X];simpa using R);clear X I R U;unfold nVersion at J K;unfold baseS at H;go_enter func14,ntmps14
   go_wp2_with (first|(go_at_call 44;(with_reducible refine Za (J.out _ ((Ext.refl w).alloc _)) ?_);rintro e w1 ⟨V,D⟩;(obtain ⟨k,bb,n,O,p1,Z,Q,p2,q2,a,F,rfl⟩:=K.out e V))|(go_at_call 45;(with_reducible refine Za (H.out _) ?_);rintro e w2 ⟨rfl,rfl⟩))
   all_goals go_ret2
   all_goals exact ⟨rfl,((Ext.refl w).alloc _).trans (D.alloc _)⟩
theorem Q9 (s:ByteArray) (w:World) (F:s.size<=16777216):
 Calls prog 39 #[.string s] w λe w'=>e= .returned (.bool (decide (collapse s=noS)))/\Ext w w':=by
 have h:=gd (Vi s w (by omega));have j:(collapse s).toList.isEmpty=decide (collapse s=noS):=by
  rw[XE];cases hl:(collapse s).data.toList with
  |nil=>rw[show collapse s=noS from Xi hl];rfl
  |cons a t=>have:¬collapse s=noS:=λe=>(by rw[e] at hl;cases hl);simp[this]
 rw[<-j];generalize collapse s=C at h;clear j;go_enter func39,ntmps39
 go_wp2_with (go_at_call 81;(have D:=h.out);(with_reducible refine Za D ?_);clear D;rintro e w1 ⟨rfl,A⟩)
 all_goals go_ret
 all_goals exact ⟨by first|rfl|simp_all,A⟩
theorem Zei (j:JO):versJ j=match memJ j nVersion with
 |some x=>if kindJ x=3 then verS (sJ x) else none
 |none=>none:=by
 have A:∀x,kindJ x≠3->verS (sJ x)=none:=λx h=>by rw[Zfz h];exact Zar (by decide)
 rw[GD];unfold memJ;cases getJ j nVersion with
 |none=>rfl
 |some x=>
  simp only;by_cases D:kindJ x=0
  ·rw[Zi D];exact A x (by omega)
  ·rw[Zf D];simp only;by_cases C:kindJ x=3
   ·rw[Zi C]
   ·rw[Zf C];exact A x C
theorem EY {s:ByteArray} {l:List UInt8}:s=str l↔s.toList=l:=by
 rw[XE];exact ⟨λh=>by rw[h,Yz],λh=>Xi (by rw[h,Yz])⟩
theorem Vz (j:JO) (cs:List Value) (w0 w:World) (h:RJ w0 j cs) (ha:Ext w0 w):
 Calls prog 15 #[.agg cs.toArray] w λe w'=>e= .returned (.tuple #[.string ((versJ j).getD noS),.bool (versJ j).isSome])/\Ext w w':=by
 have O:=gd (λw' (hx:Ext w w')=>V4 j cs nVersion w0 w' h (ha.trans hx));rw[Zei];obtain ⟨A,p,c,B,q,d,D⟩:=h.cells;subst D;unfold wcells at*;clear h;cases hm:memJ j nVersion with
 |none=>
  rw[hm] at O;unfold nVersion at O;clear hm;go_enter func15,ntmps15
  go_wp2_with (go_at_call 41;(refine Za (O.out _ ((Ext.refl w).alloc _)) ?_);rintro e w1 ⟨⟨y,V,rfl,F,C⟩,G⟩;(obtain ⟨S,p1,Y,U,p2,Z,D⟩:=F.cells);(generalize kindJ y=K,bJ y=Bb,nJ y=Nn,sJ y=Ss,atJ y=At at D);(unfold wcells at D);subst D)
  all_goals go_ret2
  all_goals exact ⟨rfl,((Ext.refl w).alloc _).trans (G.alloc _)⟩
 |some x=>
  rw[hm] at O;unfold nVersion at O;clear hm;simp only;by_cases X:kindJ x=3
  ·rw[Zi X];unfold verS;have I:((kindJ x:Nat):Int)=3:=(by omega);clear X;by_cases Q:sJ x=str (base1++ [49])
   ·rw[Zi Q];have J:(sJ x).toList= [104,116,116,112,115,58,47,47,106,115,111,110,102,101,101,100,46,111,114,103,47,118,101,114,115,105,111,110,47,49]:=EY.1 Q;have H:True:=trivial;clear Q;go_enter func15,ntmps15
    go_wp2_with (go_at_call 41;(refine Za (O.out _ ((Ext.refl w).alloc _)) ?_);rintro e w1 ⟨⟨y,V,rfl,F,C⟩,G⟩;(obtain rfl:x=y:=by rcases C with C|C;(injection C);(cases C.1));(obtain ⟨S,p1,Y,U,p2,Z,D⟩:=F.cells);(unfold wcells at D);(generalize kindJ x=K at D I);(generalize bJ x=Bb,nJ x=Nn,atJ x=At at D);(generalize sJ x=Ss at D J H);subst D)
    all_goals go_ret2
    all_goals exact ⟨rfl,((Ext.refl w).alloc _).trans (G.alloc _)⟩
   ·rw[Zf Q];have J:((sJ x).toList== [104,116,116,112,115,58,47,47,106,115,111,110,102,101,101,100,46,111,114,103,47,118,101,114,115,105,111,110,47,49])=false:=(by rw[ZV];exact λe=>Q (EY.2 e));clear Q;by_cases R:sJ x=str (base1++ [49,46,49])
    ·rw[Zi R];have H:(sJ x).toList= [104,116,116,112,115,58,47,47,106,115,111,110,102,101,101,100,46,111,114,103,47,118,101,114,115,105,111,110,47,49,46,49]:=EY.1 R;clear R;go_enter func15,ntmps15
     go_wp2_with (go_at_call 41;(refine Za (O.out _ ((Ext.refl w).alloc _)) ?_);rintro e w1 ⟨⟨y,V,rfl,F,C⟩,G⟩;(obtain rfl:x=y:=by rcases C with C|C;(injection C);(cases C.1));(obtain ⟨S,p1,Y,U,p2,Z,D⟩:=F.cells);(unfold wcells at D);(generalize kindJ x=K at D I);(generalize bJ x=Bb,nJ x=Nn,atJ x=At at D);(generalize sJ x=Ss at D J H);subst D)
     all_goals go_ret2
     all_goals exact ⟨rfl,((Ext.refl w).alloc _).trans (G.alloc _)⟩
    ·rw[Zf R];have H:((sJ x).toList== [104,116,116,112,115,58,47,47,106,115,111,110,102,101,101,100,46,111,114,103,47,118,101,114,115,105,111,110,47,49,46,49])=false:=(by rw[ZV];exact λe=>R (EY.2 e));clear R;go_enter func15,ntmps15
     go_wp2_with (go_at_call 41;(refine Za (O.out _ ((Ext.refl w).alloc _)) ?_);rintro e w1 ⟨⟨y,V,rfl,F,C⟩,G⟩;(obtain rfl:x=y:=by rcases C with C|C;(injection C);(cases C.1));(obtain ⟨S,p1,Y,U,p2,Z,D⟩:=F.cells);(unfold wcells at D);(generalize kindJ x=K at D I);(generalize bJ x=Bb,nJ x=Nn,atJ x=At at D);(generalize sJ x=Ss at D J H);subst D)
     all_goals go_ret2
     all_goals exact ⟨rfl,((Ext.refl w).alloc _).trans (G.alloc _)⟩
  ·rw[Zf X];have I:¬((kindJ x:Nat):Int)=3:=(by omega);have J:True:=trivial;have H:True:=trivial;clear X;go_enter func15,ntmps15
   go_wp2_with (go_at_call 41;(refine Za (O.out _ ((Ext.refl w).alloc _)) ?_);rintro e w1 ⟨⟨y,V,rfl,F,C⟩,G⟩;(obtain rfl:x=y:=by rcases C with C|C;(injection C);(cases C.1));(obtain ⟨S,p1,Y,U,p2,Z,D⟩:=F.cells);(unfold wcells at D);(generalize kindJ x=K at D I);(generalize bJ x=Bb,nJ x=Nn,atJ x=At at D);(generalize sJ x=Ss at D);subst D)
   all_goals go_ret2
   all_goals exact ⟨rfl,((Ext.refl w).alloc _).trans (G.alloc _)⟩
theorem Zgm {y:JO} (h:kindJ y=0):sJ y=noS:=Zfz (by omega)
theorem Id (N:Nat) (j:JO) (cs:List Value) (name:ByteArray) (w0 w:World) (h:RJ w0 j cs) (hg:jsz N j) (hE:Env w0) (Z:Ext w0 w):
 Calls prog 38 #[.agg cs.toArray,.string name] w λe w'=>e= .returned (.string (textJ j name))/\Ext w w':=by
 have J:=gd (λw' (hx:Ext w w')=>V4 j cs name w0 w' h (Z.trans hx));obtain ⟨A,p,c,B,q,d,D⟩:=h.cells;subst D;unfold wcells at*;clear h;cases hm:memJ j name with
 |none=>
  have Q:textJ j name=noS:=by unfold textJ;rw[hm]
  rw[hm] at J;rw[Q];clear hm Q;go_enter func38,ntmps38
  go_wp2_with (go_at_call 41;(refine Za (J.out _ ((Ext.refl w).alloc _)) ?_);rintro e w1 ⟨⟨y,U,rfl,F,C⟩,G⟩;(have O:kindJ y=0:=by rcases C with C|C;(cases C);(exact C.2));(obtain ⟨R,p1,V,S,p2,X,D⟩:=F.cells);(rw[Zgm O,O] at D);(generalize bJ y=Bb,nJ y=Nn,atJ y=At at D);(replace D:U= [.int .i64 0,.bool Bb,.int .i64 Nn,.string noS,.slice R p1 V,.slice S p2 X,.int .i64 (At:Nat)]:=D);subst D)
  all_goals go_ret
  all_goals exact ⟨rfl,((Ext.refl w).alloc _).trans (G.alloc _)⟩
 |some x=>
  have I:=YM hg hm;rw[hm] at J;by_cases H:kindJ x=2
  ·cases x with
   |int a n=>
    rw[jsz] at I;have Q:textJ j name=itoaS n:=(by unfold textJ;rw[hm];rfl);rw[Q];clear hm Q;have HD:=gd (λw'=>GF n w' I);go_enter func38,ntmps38
    go_wp2_with (first|(go_at_call 80;(refine Za (HD.out _) ?_);rintro e w2 ⟨rfl,ha⟩)|(go_at_call 41;(refine Za (J.out _ ((Ext.refl w).alloc _)) ?_);rintro e w1 ⟨⟨y,U,rfl,F,C⟩,G⟩;(obtain rfl:JO.int a n=y:=by rcases C with C|C;(injection C);(cases C.1));(obtain ⟨R,p1,V,S,p2,X,D⟩:=F.cells);(replace D:U= [.int .i64 2,.bool false,.int .i64 n,.string noS,.slice R p1 V,.slice S p2 X,.int .i64 (a:Nat)]:=D);subst D))
    all_goals go_ret
    all_goals exact ⟨rfl,(((Ext.refl w).alloc _).trans (G.alloc _)).trans ha⟩
   |null a=>exact absurd H (show (0:Nat)≠2 by decide)
   |bool a v=>exact absurd H (show (1:Nat)≠2 by decide)
   |str a s=>exact absurd H (show (3:Nat)≠2 by decide)
   |arr a l=>exact absurd H (show (4:Nat)≠2 by decide)
   |obj a k v=>exact absurd H (show (5:Nat)≠2 by decide)
  ·have hr:textJ j name=sJ x:=(by unfold textJ;rw[hm];cases x<;>first|rfl|exact absurd rfl H);rw[hr];have Y:¬((kindJ x:Nat):Int)=2:=(by omega);clear H hr I hm;go_enter func38,ntmps38
   go_wp2_with (go_at_call 41;(refine Za (J.out _ ((Ext.refl w).alloc _)) ?_);rintro e w1 ⟨⟨y,U,rfl,F,C⟩,G⟩;(obtain rfl:x=y:=by rcases C with C|C;(injection C);(cases C.1));(obtain ⟨R,p1,V,S,p2,X,D⟩:=F.cells);(unfold wcells at D);(generalize kindJ x=K at D Y);(generalize bJ x=Bb,nJ x=Nn,atJ x=At at D);subst D)
   all_goals go_ret
   all_goals exact ⟨rfl,((Ext.refl w).alloc _).trans (G.alloc _)⟩
section
section
variable {P:Program} {md:Region.Mode} {Q:Exit→Act→World→Prop} {S:World→Prop}
theorem It {l:List Oper} {i j fuel:Nat} {oi oj:Oper} {listed:Array Bool} {a:Act} {w:World} (O:l[i]? =some oi) (R:l[j]? =some oj) (U:Region.ready md l.toArray listed= [i,j])
 (G:∀K:Act->World->Prop,(∀a' w',S w'->wpAnyS P md l.toArray Q S fuel (listed.setIfInBounds i true) a' w'->K a' w')->if Region.wanted oi (yielded l.toArray a.tmps) then Oper.wp P oi a w K Q else K (a.put oi.dst undef) w)
 (H:∀K:Act->World->Prop,(∀a' w',S w'->wpAnyS P md l.toArray Q S fuel (listed.setIfInBounds j true) a' w'->K a' w')->if Region.wanted oj (yielded l.toArray a.tmps) then Oper.wp P oj a w K Q else K (a.put oj.dst undef) w):wpAnyS P md l.toArray Q S (fuel+1) listed a w:=by
 have I:l.toArray[i]? =some oi:=by rw[YE];exact O
 have J:l.toArray[j]? =some oj:=by rw[YE];exact R
 have A:=G (λa' w'=>S w'/\wpAnyS P md l.toArray Q S fuel (listed.setIfInBounds i true) a' w') λ_ _ G H=>⟨G,H⟩;have C:=H (λa' w'=>S w'/\wpAnyS P md l.toArray Q S fuel (listed.setIfInBounds j true) a' w') λ_ _ G H=>⟨G,H⟩;refine ⟨λh=>(by rw[U] at h;cases h),λk D=> ?_⟩;rw[U] at D;simp only[ZG,YD,YK] at D;rcases D with D|D
 ·rw[D];unfold wpOp;simp only[I];split
  ·rename_i F;rw[Zi F] at A;exact Or.inl A
  ·rename_i F;rw[Zf F] at A;exact A
 ·rw[D];unfold wpOp;simp only[J];split
  ·rename_i F;rw[Zi F] at C;exact Or.inl C
  ·rename_i F;rw[Zf F] at C;exact C
end
end
section
set_option linter.unusedSimpArgs false
attribute [local go_sem] calm1
def DateX (r:Except (Nat×Nat) Int) (e:Ending):Prop:=match r with
 | .ok t=>e= .returned (.tuple #[.int .i64 t,.int .i64 0,.int .i64 0])
 | .error x=>e= .returned (.tuple #[.int .i64 0,.int .i64 (x.1:Nat),.int .i64 (x.2:Nat)])
theorem DateX.of {r j:Except (Nat×Nat) Int} {e:Ending} (h:r=j) (k:DateX j e):DateX r e:=h▸k
theorem GT (N:Nat) (j:JO) (cs:List Value) (sb:Nat) (D:List ByteArray) (w0 w:World) (h:RJ w0 j cs) (hP:jsz N j) (hN:N<=16777216) (hT:Ext w0 w)
 (hs:w.heap[sb]? =some (.cells (D.map Value.string).toArray 9 (0,0))) (hn:D.length<=1000):
 Calls prog 40 #[.agg cs.toArray,.slice (some ⟨sb,0,none⟩) D.length D.length] w λe w'=>DateX (dateJ j D) e/\Ext w w':=by
 have HM:=gd (λname=>XZ j cs name w0 h);obtain ⟨A,p,c,B,q,d,hc⟩:=h.cells;subst hc;unfold wcells at*;clear h;go_enter func40,ntmps40;go_wp2;go_loopw [7] (λi wr=>∃k:Nat,k<=D.length/\i= .int .i64 k/\Hid (dateJ j D=dateJ j (D.drop k))/\Ext (w.alloc (.cells #[.int .i64 (kindJ j:Nat),.bool (bJ j),.int .i64 (nJ j),.string (sJ j),.slice A p c,.slice B q d,.int .i64 (atJ j:Nat)] 25)) wr) (λi _=>D.length - (intOf i).toNat)
 case atStart=>exact ⟨0,Zt _,rfl,rfl,Ext.refl _⟩
 case round=>
  obtain ⟨k,hk,rfl,hf,hx⟩:=hrel;have hw:Ext w wr:=((Ext.refl w).alloc _).trans hx;have hM:=hw.heap hs;by_cases hr:k<D.length
  focus
   have U:=Jv hM hr
   have hq:∀i v,(#[Value.int .i64 (kindJ j:Nat),.bool (bJ j),.int .i64 (nJ j),.string (sJ j),.slice A p c,.slice B q d,.int .i64 (atJ j:Nat)]:Array Value)[i]? =some v->wr.cell? ⟨w.heap.size,i,none⟩=some v:=λi v hv=>Ext.boxed hx i v hv
   have q0:=hq 0 _ rfl
   have q1:=hq 1 _ rfl
   have q2:=hq 2 _ rfl
   have q3:=hq 3 _ rfl
   have q4:=hq 4 _ rfl
   have q5:=hq 5 _ rfl
   have q6:=hq 6 _ rfl
   clear hq
   have V:dateJ j D=match memJ j D[k] with
    |none=>dateJ j (D.drop (k+1))
    |some x=>match timeP (collapse (sJ x)).data.toList with
     |some t=> .ok t
     |none=> .error (atJ x,20):=by
    rw[hf.out,Zx hr,Qk]
    all_goals rfl
   obtain ⟨NM,hC⟩:∃n,D[k]=n:=⟨_,rfl⟩
   rw[hC] at U V
   obtain ⟨cy,hL,hu⟩:=HM.out NM
   have hB:=gd (hT.trans hw)
   have ho:=gd hx
   have hA:=gd V
   obtain ⟨A1,p1,J,B1,p2,O,hF⟩:=hL.cells
   obtain ⟨K,Bb,Nn,Ss,At,OK,hi,hJ,hI⟩:∃(K:Nat) (Bb:Bool) (Nn:Int) (Ss:ByteArray) (At:Nat) (OK:Bool),cy=wcells K Bb Nn Ss (.slice A1 p1 J) (.slice B1 p2 O) At/\(memJ j NM).isSome=OK/\(memJ j NM=none/\OK=false\/∃x,memJ j NM=some x/\OK=true/\kindJ x=K/\sJ x=Ss/\atJ x=At):=by
    refine ⟨_,_,_,_,_,_,hF,rfl,?_⟩
    cases memJ j NM with
    |none=>exact Or.inl ⟨rfl,rfl⟩
    |some x=>exact Or.inr ⟨x,rfl,rfl,rfl,rfl,rfl⟩
   unfold wcells at hi
   subst hi
   rw[hJ] at hu
   have hy:Hid (∀w',Ext w0 w'->Calls prog 41 #[.agg #[.int .i64 (kindJ j:Nat),.bool (bJ j),.int .i64 (nJ j),.string (sJ j),.slice A p c,.slice B q d,.int .i64 (atJ j:Nat)],.string NM] w' λe w2=>e= .returned (.tuple #[.agg #[.int .i64 (K:Nat),.bool Bb,.int .i64 Nn,.string Ss,.slice A1 p1 J,.slice B1 p2 O,.int .i64 (At:Nat)],.bool OK])/\Ext w' w2):=gd hu
   have hO:=gd hI
   clear hf hC hL hw hM hu V hI hJ hF hx
   go_wp2_with fail
   have R:=(Ext.refl wr).drew
   refine rN ?_
   change wpAny _ _ _ _ _ _ _ (World.drew _)
   refine Yi (λw'=>Ext wr w') ?_
   refine tS 0 (.agg #[.int .i64 (kindJ j:Nat),.bool (bJ j),.int .i64 (nJ j),.string (sJ j),.slice A p c,.slice B q d,.int .i64 (atJ j:Nat)]) rfl (λw2 Q=>by have e0:=Ext.cell Q q0;have e1:=Ext.cell Q q1;have e2:=Ext.cell Q q2;have e3:=Ext.cell Q q3;have e4:=Ext.cell Q q4;have e5:=Ext.cell Q q5;have e6:=Ext.cell Q q6;go_simp) R ?_
   refine tS 1 (.slice (some ⟨sb,0,none⟩) D.length D.length) rfl (λw2 Q=>by go_simp) R ?_
   refine tS 2 (.int .i64 (k:Nat)) rfl (λw2 Q=>by go_simp) R ?_
   refine tS 3 (.pointer (some ⟨sb,k,none⟩)) rfl (λw2 Q=>by go_simp) R ?_
   refine tS 4 (.string NM) rfl (λw2 Q=>by have e7:=Ext.cell Q U;go_simp) R ?_
   go_simp
   refine It (i:=5) (j:=9) rfl rfl (by kernel_rfl) (λKc hK=> ?_) (λKc hK=> ?_)
   focus
    skip
    go_simp
    go_at_call 41
    have hz:=hy.out _ (hB.out.trans R)
    with_reducible refine Za hz ?_
    clear hz
    rintro e w1 ⟨rfl,Z⟩
    have I:=R.trans Z
    refine hK _ _ I ?_
    clear hK Kc
    refine tS 6 (.tuple #[.agg #[.int .i64 (K:Nat),.bool Bb,.int .i64 Nn,.string Ss,.slice A1 p1 J,.slice B1 p2 O,.int .i64 (At:Nat)],.bool OK]) rfl (λw2 Q=>by go_simp) I ?_
    refine tS 7 (.agg #[.int .i64 (K:Nat),.bool Bb,.int .i64 Nn,.string Ss,.slice A1 p1 J,.slice B1 p2 O,.int .i64 (At:Nat)]) rfl (λw2 Q=>by go_simp) I ?_
    refine tS 8 (.bool OK) rfl (λw2 Q=>by go_simp) I ?_
    go_simp
    refine Zv (i:=9) rfl (by kernel_rfl) (λKc hK=> ?_)
    go_simp
    refine hK _ _ (I.alloc _) ?_
    clear hK Kc
    have F:=Zh w1 (.cells #[.int .i64 0,.bool false,.int .i64 0,.string ⟨#[]⟩,.slice none 0 0,.slice none 0 0,.int .i64 0] 25)
    have H:=I.alloc (.cells #[.int .i64 0,.bool false,.int .i64 0,.string ⟨#[]⟩,.slice none 0 0,.slice none 0 0,.int .i64 0] 25)
    have hg:wr.heap.size<=w1.heap.size:=I.size
    obtain ⟨W2,hD⟩:∃W2,w1.alloc (.cells #[.int .i64 0,.bool false,.int .i64 0,.string ⟨#[]⟩,.slice none 0 0,.slice none 0 0,.int .i64 0] 25)=W2:=⟨_,rfl⟩
    rw[hD] at F H|-
    obtain ⟨g,Y⟩:∃g,w1.heap.size=g:=⟨_,rfl⟩
    rw[Y] at F hg|-
    clear hD Y Z I
   rotate_left
   focus
    skip
    go_simp
    have hh:=((Ext.refl wr).alloc (.cells #[.int .i64 0,.bool false,.int .i64 0,.string ⟨#[]⟩,.slice none 0 0,.slice none 0 0,.int .i64 0] 25)).drew
    have hE:=(Ext.refl (wr.alloc (.cells #[.int .i64 0,.bool false,.int .i64 0,.string ⟨#[]⟩,.slice none 0 0,.slice none 0 0,.int .i64 0] 25))).drew.heap (Zh wr (.cells #[.int .i64 0,.bool false,.int .i64 0,.string ⟨#[]⟩,.slice none 0 0,.slice none 0 0,.int .i64 0] 25))
    refine hK _ _ hh ?_
    clear hK Kc
    refine Zv (i:=5) rfl (by kernel_rfl) (λKc hK=> ?_)
    go_simp
    go_at_call 41
    have hz:=hy.out _ (hB.out.trans hh)
    with_reducible refine Za hz ?_
    clear hz
    rintro e W2 ⟨rfl,Z⟩
    have H:=hh.trans Z
    have F:=Z.heap hE
    refine hK _ _ H ?_
    clear hK Kc
    refine tS 6 (.tuple #[.agg #[.int .i64 (K:Nat),.bool Bb,.int .i64 Nn,.string Ss,.slice A1 p1 J,.slice B1 p2 O,.int .i64 (At:Nat)],.bool OK]) rfl (λw2 Q=>by go_simp) H ?_
    refine tS 7 (.agg #[.int .i64 (K:Nat),.bool Bb,.int .i64 Nn,.string Ss,.slice A1 p1 J,.slice B1 p2 O,.int .i64 (At:Nat)]) rfl (λw2 Q=>by go_simp) H ?_
    refine tS 8 (.bool OK) rfl (λw2 Q=>by go_simp) H ?_
    go_simp
    obtain ⟨g,Y⟩:∃g,wr.heap.size=g:=⟨_,rfl⟩
    replace F:W2.heap[wr.heap.size]? =some (.cells #[.int .i64 0,.bool false,.int .i64 0,.string ⟨#[]⟩,.slice none 0 0,.slice none 0 0,.int .i64 0] 25 (0,0)):=F
    replace hg:wr.heap.size<=wr.heap.size:=Zd _
    rw[Y] at F|-
    replace hg:wr.heap.size<=g:=Nat.le_of_eq Y
    clear Y Z hh hE
   all_goals refine Zv (i:=10) rfl (by kernel_rfl) (λKc hK=> ?_)
   all_goals refine Z4 rfl 25 (.tmp 8) (.tmp 25) rfl g #[.int .i64 (K:Nat),.bool Bb,.int .i64 Nn,.string Ss,.slice A1 p1 J,.slice B1 p2 O,.int .i64 (At:Nat)] rfl rfl _ _ F Yv rfl (G3 (k:=K) (b:=Bb) (n:=Nn) (s:=Ss) (A:=A1) (B:=B1) (p:=p1) (c:=J) (q:=p2) (d:=O) (a:=At)) ?_
   all_goals have ha:=H.setRow hg #[Value.int .i64 (K:Nat),.bool Bb,.int .i64 Nn,.string Ss,.slice A1 p1 J,.slice B1 p2 O,.int .i64 (At:Nat)]
   all_goals have hb:=Zk _ _ _ #[Value.int .i64 (K:Nat),.bool Bb,.int .i64 Nn,.string Ss,.slice A1 p1 J,.slice B1 p2 O,.int .i64 (At:Nat)] _ _ F
   all_goals refine hK _ _ ha ?_
   all_goals clear hK Kc
   all_goals obtain ⟨W3,hW⟩:∃W3,W2.setRow g #[Value.int .i64 (K:Nat),.bool Bb,.int .i64 Nn,.string Ss,.slice A1 p1 J,.slice B1 p2 O,.int .i64 (At:Nat)]=W3:=⟨_,rfl⟩
   all_goals rw[hW] at ha hb|-
   all_goals clear hW F H hg R q0 q1 q2 q3 q4 q5 q6 U
   all_goals refine Zv (i:=11) rfl (by kernel_rfl) (λKc hK=> ?_)
   all_goals go_simp
   all_goals refine hK _ _ ha ?_
   all_goals clear hK Kc
   all_goals refine sE ?_
   all_goals rcases hO.out with ⟨hm,rfl⟩|⟨x,hm,rfl,rfl,rfl,rfl⟩
   iterate 2
    focus
     skip
     have G:=hA.out
     rw[hm] at G
     have S:=gd G
     clear hm G hb
     go_wp2
     go_roundw
     case rel=>exact ⟨k+1,hr,rfl,S,ho.out.trans ha⟩
     case measure=>simp[intOf];omega
    focus
     skip
     have G:=hA.out
     rw[hm] at G
     simp only at G
     have hH:=YM hP hm
     have hR:=Jk hH
     have hG:=YW (sJ x)
     have hp:=λw'=>U6 (sJ x) w' (by omega)
     have hd:=λw'=>Zbp (collapse (sJ x)) w' (by omega)
     generalize collapse (sJ x)=C at hp hd G hG
     have hj:=gd hp
     have e3:W3.cell? ⟨g,3,none⟩=some (.string (sJ x)):=(by rw[ZN hb];rfl)
     have e6:W3.cell? ⟨g,6,none⟩=some (.int .i64 (atJ x:Nat)):=(by rw[ZN hb];rfl)
     generalize sJ x=Ss at hj e3
     generalize atJ x=At at e6 G
     clear hp hR hG hH hm hb
     cases ht:timeP C.data.toList with
     |some t=>
      rw[ht] at G
      have hl:Hid (∀w':World,Calls prog 82 #[.string C] w' λe he=>e= .returned (.tuple #[.int .i64 t,.int .i64 0])/\w'=he):=gd λw'=>(hd w').mono λe he ⟨h1,h2⟩=>⟨by unfold TimeR at h1;rw[ht] at h1;exact h1,h2.symm⟩
      have S:=gd G
      clear G hd
      go_wp2_with (first|(go_at_call 81;(with_reducible refine Za (hj.out _) ?_);rintro e w2 ⟨rfl,H⟩)|(go_at_call 82;(with_reducible refine Za (hl.out _) ?_);rintro e w3 ⟨rfl,rfl⟩))
      go_ret3
      exact ⟨DateX.of S.out rfl,(((Ext.refl w).alloc _).trans (ho.out.trans ha)).trans H⟩
     |none=>
      rw[ht] at G
      have hl:Hid (∀w':World,Calls prog 82 #[.string C] w' λe he=>∃x:Int,(x !=0)=true/\e= .returned (.tuple #[.int .i64 0,.int .i64 x])/\w'=he):=gd λw'=>(hd w').mono λe he ⟨h1,h2⟩=>(by unfold TimeR at h1;rw[ht] at h1;obtain ⟨x,hx,rfl⟩:=h1;exact ⟨x,by simpa using hx,rfl,h2.symm⟩)
      have S:=gd G
      clear G hd
      go_wp2_with (first|(go_at_call 81;(with_reducible refine Za (hj.out _) ?_);rintro e w2 ⟨rfl,H⟩;(have f6:=H.cell e6);clear e6 e3)|(go_at_call 82;(with_reducible refine Za (hl.out _) ?_);rintro e w3 ⟨er,hU,rfl,rfl⟩))
      go_quiet (fail)
      go_wp2
      go_ret3
      exact ⟨DateX.of S.out rfl,((((Ext.refl w).alloc _).trans (ho.out.trans ha)).trans H).drewN _⟩
  focus
   have hQ:D.drop k= []:=ZB (by omega)
   rw[hQ] at hf
   have S:=gd hf.out
   clear hf
   go_wp2
   go_ret3
   exact ⟨DateX.of S.out rfl,((Ext.refl w).alloc _).trans hx⟩
end
section
set_option linter.unusedSimpArgs false
attribute [local go_sem] calm1
def ChkX (r:Option (Nat×Nat)) (e:Ending):Prop:=match r with
 |none=>e= .returned (.tuple #[.int .i64 0,.int .i64 0])
 |some x=>e= .returned (.tuple #[.int .i64 (x.1:Nat),.int .i64 (x.2:Nat)])
theorem ChkX.of {r j:Option (Nat×Nat)} {e:Ending} (h:r=j) (k:ChkX j e):ChkX r e:=h▸k
theorem I8 (j:JO) (num:Bool) (n:ByteArray) (t:List ByteArray):chkJ j num (n::t)=match memJ j n with
 |none=>chkJ j false t
 |some x=>if num=true/\kindJ x=2 then chkJ j false t else if kindJ x≠3 then some (atJ x,21) else if (checkS (sJ x)).2≠0 then some (atJ x,(checkS (sJ x)).2) else chkJ j false t:=rfl
theorem V0 (N:Nat) (j:JO) (cs:List Value) (sb:Nat) (C:List ByteArray) (num:Bool) (w0 w:World) (h:RJ w0 j cs) (hP:jsz N j) (hN:N<=16777216) (hT:Ext w0 w)
 (hs:w.heap[sb]? =some (.cells (C.map Value.string).toArray 9 (0,0))) (hn:C.length<=1000):
 Calls prog 37 #[.agg cs.toArray,.slice (some ⟨sb,0,none⟩) C.length C.length,.bool num] w λe w'=>ChkX (chkJ j num C) e/\Ext w w':=by
 have HM:=gd (λname=>XZ j cs name w0 h);obtain ⟨A,p,c,B,q,d,hc⟩:=h.cells;subst hc;unfold wcells at*;clear h;go_enter func37,ntmps37;go_wp2;go_loopw [8] (λi wr=>∃k:Nat,k<=C.length/\i= .int .i64 k/\Hid (chkJ j num C=chkJ j (num && decide (k=0)) (C.drop k))/\Ext (w.alloc (.cells #[.int .i64 (kindJ j:Nat),.bool (bJ j),.int .i64 (nJ j),.string (sJ j),.slice A p c,.slice B q d,.int .i64 (atJ j:Nat)] 25)) wr) (λi _=>C.length - (intOf i).toNat)
 case atStart=>exact ⟨0,Zt _,rfl,gd (by simp),Ext.refl _⟩
 case round=>
  obtain ⟨k,hk,rfl,hf,hx⟩:=hrel;have ht:Ext w wr:=((Ext.refl w).alloc _).trans hx;have hM:=ht.heap hs;by_cases hi:k<C.length
  focus
   have Y:=Jv hM hi
   have hq:∀i v,(#[Value.int .i64 (kindJ j:Nat),.bool (bJ j),.int .i64 (nJ j),.string (sJ j),.slice A p c,.slice B q d,.int .i64 (atJ j:Nat)]:Array Value)[i]? =some v->wr.cell? ⟨w.heap.size,i,none⟩=some v:=λi v hv=>Ext.boxed hx i v hv
   have q0:=hq 0 _ rfl
   have q1:=hq 1 _ rfl
   have q2:=hq 2 _ rfl
   have q3:=hq 3 _ rfl
   have q4:=hq 4 _ rfl
   have q5:=hq 5 _ rfl
   have q6:=hq 6 _ rfl
   clear hq
   have Q:=hf.out
   rw[Zx hi,I8] at Q
   have X:Hid ((num && decide (k+1=0))=false):=gd (by simp)
   obtain ⟨NM,hB⟩:∃n,C[k]=n:=⟨_,rfl⟩
   rw[hB] at Y Q
   obtain ⟨cy,hL,hr⟩:=HM.out NM
   have hA:=gd (hT.trans ht)
   have he:=gd hx
   have hy:=gd Q
   obtain ⟨A1,p1,J,B1,p2,O,hF⟩:=hL.cells
   obtain ⟨K,Bb,Nn,Ss,At,OK,ho,hJ,hI⟩:∃(K:Nat) (Bb:Bool) (Nn:Int) (Ss:ByteArray) (At:Nat) (OK:Bool),cy=wcells K Bb Nn Ss (.slice A1 p1 J) (.slice B1 p2 O) At/\(memJ j NM).isSome=OK/\(memJ j NM=none/\OK=false\/∃x,memJ j NM=some x/\OK=true/\kindJ x=K/\sJ x=Ss/\atJ x=At):=by
    refine ⟨_,_,_,_,_,_,hF,rfl,?_⟩
    cases memJ j NM with
    |none=>exact Or.inl ⟨rfl,rfl⟩
    |some x=>exact Or.inr ⟨x,rfl,rfl,rfl,rfl,rfl⟩
   unfold wcells at ho
   subst ho
   rw[hJ] at hr
   have hw:Hid (∀w',Ext w0 w'->Calls prog 41 #[.agg #[.int .i64 (kindJ j:Nat),.bool (bJ j),.int .i64 (nJ j),.string (sJ j),.slice A p c,.slice B q d,.int .i64 (atJ j:Nat)],.string NM] w' λe w2=>e= .returned (.tuple #[.agg #[.int .i64 (K:Nat),.bool Bb,.int .i64 Nn,.string Ss,.slice A1 p1 J,.slice B1 p2 O,.int .i64 (At:Nat)],.bool OK])/\Ext w' w2):=gd hr
   have hO:=gd hI
   clear hf hB hL ht hM hr Q hI hJ hF hx
   go_wp2_with fail
   have V:=(Ext.refl wr).drew
   refine rN ?_
   change wpAny _ _ _ _ _ _ _ (World.drew _)
   refine Yi (λw'=>Ext wr w') ?_
   refine tS 0 (.agg #[.int .i64 (kindJ j:Nat),.bool (bJ j),.int .i64 (nJ j),.string (sJ j),.slice A p c,.slice B q d,.int .i64 (atJ j:Nat)]) rfl (λw2 R=>by have e0:=Ext.cell R q0;have e1:=Ext.cell R q1;have e2:=Ext.cell R q2;have e3:=Ext.cell R q3;have e4:=Ext.cell R q4;have e5:=Ext.cell R q5;have e6:=Ext.cell R q6;go_simp) V ?_
   refine tS 1 (.slice (some ⟨sb,0,none⟩) C.length C.length) rfl (λw2 R=>by go_simp) V ?_
   refine tS 2 (.int .i64 (k:Nat)) rfl (λw2 R=>by go_simp) V ?_
   refine tS 3 (.pointer (some ⟨sb,k,none⟩)) rfl (λw2 R=>by go_simp) V ?_
   refine tS 4 (.string NM) rfl (λw2 R=>by have e7:=Ext.cell R Y;go_simp) V ?_
   go_simp
   refine It (i:=5) (j:=9) rfl rfl (by kernel_rfl) (λKc hK=> ?_) (λKc hK=> ?_)
   focus
    skip
    go_simp
    go_at_call 41
    have hz:=hw.out _ (hA.out.trans V)
    with_reducible refine Za hz ?_
    clear hz
    rintro e w1 ⟨rfl,hd⟩
    have H:=V.trans hd
    refine hK _ _ H ?_
    clear hK Kc
    refine tS 6 (.tuple #[.agg #[.int .i64 (K:Nat),.bool Bb,.int .i64 Nn,.string Ss,.slice A1 p1 J,.slice B1 p2 O,.int .i64 (At:Nat)],.bool OK]) rfl (λw2 R=>by go_simp) H ?_
    refine tS 7 (.agg #[.int .i64 (K:Nat),.bool Bb,.int .i64 Nn,.string Ss,.slice A1 p1 J,.slice B1 p2 O,.int .i64 (At:Nat)]) rfl (λw2 R=>by go_simp) H ?_
    refine tS 8 (.bool OK) rfl (λw2 R=>by go_simp) H ?_
    go_simp
    refine Zv (i:=9) rfl (by kernel_rfl) (λKc hK=> ?_)
    go_simp
    refine hK _ _ (H.alloc _) ?_
    clear hK Kc
    have F:=Zh w1 (.cells #[.int .i64 0,.bool false,.int .i64 0,.string ⟨#[]⟩,.slice none 0 0,.slice none 0 0,.int .i64 0] 25)
    have G:=H.alloc (.cells #[.int .i64 0,.bool false,.int .i64 0,.string ⟨#[]⟩,.slice none 0 0,.slice none 0 0,.int .i64 0] 25)
    have hg:wr.heap.size<=w1.heap.size:=H.size
    obtain ⟨W2,hC⟩:∃W2,w1.alloc (.cells #[.int .i64 0,.bool false,.int .i64 0,.string ⟨#[]⟩,.slice none 0 0,.slice none 0 0,.int .i64 0] 25)=W2:=⟨_,rfl⟩
    rw[hC] at F G|-
    obtain ⟨g,hb⟩:∃g,w1.heap.size=g:=⟨_,rfl⟩
    rw[hb] at F hg|-
    clear hC hb hd H
   rotate_left
   focus
    skip
    go_simp
    have hl:=((Ext.refl wr).alloc (.cells #[.int .i64 0,.bool false,.int .i64 0,.string ⟨#[]⟩,.slice none 0 0,.slice none 0 0,.int .i64 0] 25)).drew
    have hD:=(Ext.refl (wr.alloc (.cells #[.int .i64 0,.bool false,.int .i64 0,.string ⟨#[]⟩,.slice none 0 0,.slice none 0 0,.int .i64 0] 25))).drew.heap (Zh wr (.cells #[.int .i64 0,.bool false,.int .i64 0,.string ⟨#[]⟩,.slice none 0 0,.slice none 0 0,.int .i64 0] 25))
    refine hK _ _ hl ?_
    clear hK Kc
    refine Zv (i:=5) rfl (by kernel_rfl) (λKc hK=> ?_)
    go_simp
    go_at_call 41
    have hz:=hw.out _ (hA.out.trans hl)
    with_reducible refine Za hz ?_
    clear hz
    rintro e W2 ⟨rfl,hd⟩
    have G:=hl.trans hd
    have F:=hd.heap hD
    refine hK _ _ G ?_
    clear hK Kc
    refine tS 6 (.tuple #[.agg #[.int .i64 (K:Nat),.bool Bb,.int .i64 Nn,.string Ss,.slice A1 p1 J,.slice B1 p2 O,.int .i64 (At:Nat)],.bool OK]) rfl (λw2 R=>by go_simp) G ?_
    refine tS 7 (.agg #[.int .i64 (K:Nat),.bool Bb,.int .i64 Nn,.string Ss,.slice A1 p1 J,.slice B1 p2 O,.int .i64 (At:Nat)]) rfl (λw2 R=>by go_simp) G ?_
    refine tS 8 (.bool OK) rfl (λw2 R=>by go_simp) G ?_
    go_simp
    obtain ⟨g,hb⟩:∃g,wr.heap.size=g:=⟨_,rfl⟩
    replace F:W2.heap[wr.heap.size]? =some (.cells #[.int .i64 0,.bool false,.int .i64 0,.string ⟨#[]⟩,.slice none 0 0,.slice none 0 0,.int .i64 0] 25 (0,0)):=F
    replace hg:wr.heap.size<=wr.heap.size:=Zd _
    rw[hb] at F|-
    replace hg:wr.heap.size<=g:=Nat.le_of_eq hb
    clear hb hd hl hD
   all_goals refine Zv (i:=10) rfl (by kernel_rfl) (λKc hK=> ?_)
   all_goals refine Z4 rfl 25 (.tmp 9) (.tmp 26) rfl g #[.int .i64 (K:Nat),.bool Bb,.int .i64 Nn,.string Ss,.slice A1 p1 J,.slice B1 p2 O,.int .i64 (At:Nat)] rfl rfl _ _ F Yv rfl (G3 (k:=K) (b:=Bb) (n:=Nn) (s:=Ss) (A:=A1) (B:=B1) (p:=p1) (c:=J) (q:=p2) (d:=O) (a:=At)) ?_
   all_goals have U:=G.setRow hg #[Value.int .i64 (K:Nat),.bool Bb,.int .i64 Nn,.string Ss,.slice A1 p1 J,.slice B1 p2 O,.int .i64 (At:Nat)]
   all_goals have ha:=Zk _ _ _ #[Value.int .i64 (K:Nat),.bool Bb,.int .i64 Nn,.string Ss,.slice A1 p1 J,.slice B1 p2 O,.int .i64 (At:Nat)] _ _ F
   all_goals refine hK _ _ U ?_
   all_goals clear hK Kc
   all_goals obtain ⟨W3,hW⟩:∃W3,W2.setRow g #[Value.int .i64 (K:Nat),.bool Bb,.int .i64 Nn,.string Ss,.slice A1 p1 J,.slice B1 p2 O,.int .i64 (At:Nat)]=W3:=⟨_,rfl⟩
   all_goals rw[hW] at U ha|-
   all_goals clear hW F G hg V q0 q1 q2 q3 q4 q5 q6 Y
   all_goals refine Zv (i:=11) rfl (by kernel_rfl) (λKc hK=> ?_)
   all_goals go_simp
   all_goals refine hK _ _ U ?_
   all_goals clear hK Kc
   all_goals refine sE ?_
   all_goals rcases hO.out with ⟨hm,rfl⟩|⟨x,hm,rfl,rfl,rfl,rfl⟩
   iterate 2
    focus
     skip
     have D:=hy.out
     rw[hm] at D
     have I:Hid (chkJ j num C=chkJ j (num && decide (k+1=0)) (C.drop (k+1))):=(by rw[X.out];exact D)
     clear hm D ha
     go_wp2
     go_roundw
     case rel=>exact ⟨k+1,hi,rfl,I,he.out.trans U⟩
     case measure=>simp[intOf];omega
    focus
     skip
     have D:=hy.out
     rw[hm] at D
     simp only at D
     have hG:=YM hP hm
     have hR:=Jk hG
     have hh:=λw'=>Ga (sJ x) w' (by unfold maxLen;omega)
     generalize checkS (sJ x)=CK at hh D
     obtain ⟨hU,E⟩:=CK
     dsimp only at hh D
     have e0:W3.cell? ⟨g,0,none⟩=some (.int .i64 (kindJ x:Nat)):=(by rw[ZN ha];rfl)
     have e3:W3.cell? ⟨g,3,none⟩=some (.string (sJ x)):=(by rw[ZN ha];rfl)
     have e6:W3.cell? ⟨g,6,none⟩=some (.int .i64 (atJ x:Nat)):=(by rw[ZN ha];rfl)
     generalize sJ x=Ss at hh e3
     generalize atJ x=At at e6 D
     generalize kindJ x=K at e0 D
     have hu:=gd hh
     clear hh hR hG hm ha
     by_cases hc:(num && decide (k=0))=true/\K=2
     ·rw[Zi hc] at D
      have I:Hid (chkJ j num C=chkJ j (num && decide (k+1=0)) (C.drop (k+1))):=(by rw[X.out];exact D)
      obtain ⟨hE,rfl⟩:=hc
      rw[ZU] at hE
      obtain ⟨rfl,S⟩:=hE
      obtain rfl:=Yd S
      clear D S X
      go_wp2
      go_roundw
      case rel=>exact ⟨1,hi,rfl,I,he.out.trans U⟩
      case measure=>simp[intOf];omega
     ·rw[Zf hc] at D
      have hp:num=false\/num=true/\((k:Int)==0)=false/\0<k\/num=true/\k=0/\((K:Int)==2)=false:=by
       cases num with
       |false=>exact Or.inl rfl
       |true=>
        by_cases S:k=0
        ·refine Or.inr (Or.inr ⟨rfl,S,?_⟩)
         have:¬K=2:=λe=>hc ⟨by simp[S],e⟩
         simp;omega
        ·exact Or.inr (Or.inl ⟨rfl,by simp;omega,by omega⟩)
      clear hc
      by_cases h3:K=3
      ·rw[Zf (λh=>h h3)] at D
       subst h3
       by_cases hj:E=0
       ·rw[Zf (λh=>h hj)] at D
        have I:Hid (chkJ j num C=chkJ j (num && decide (k+1=0)) (C.drop (k+1))):=(by rw[X.out];exact D)
        subst hj
        clear D X
        rcases hp with rfl|⟨rfl,S,hH⟩|⟨rfl,rfl,h2⟩
        all_goals go_wp2_with (go_at_call 79;(with_reducible refine Za (hu.out _) ?_);rintro e w2 ⟨rfl,G⟩)
        all_goals go_roundw
        all_goals first|exact ⟨_,hi,rfl,I,(he.out.trans U).trans G⟩|(simp[intOf];omega)
       ·rw[Zi hj] at D
        have I:=gd D
        have hX:((E:Int) !=0)=true:=(by simp;omega)
        clear D X hj
        rcases hp with rfl|⟨rfl,S,hH⟩|⟨rfl,rfl,h2⟩
        all_goals go_wp2_with (go_at_call 79;(with_reducible refine Za (hu.out _) ?_);rintro e w2 ⟨rfl,G⟩;(have f6:=G.cell e6);clear e0 e3 e6)
        all_goals go_ret2
        all_goals exact ⟨ChkX.of I.out rfl,(((Ext.refl w).alloc _).trans (he.out.trans U)).trans G⟩
      ·rw[Zi h3] at D
       have I:=gd D
       have hV:((K:Int) !=3)=true:=(by simp;omega)
       clear D X h3
       rcases hp with rfl|⟨rfl,S,hH⟩|⟨rfl,rfl,h2⟩
       all_goals go_wp2
       all_goals go_ret2
       all_goals exact ⟨ChkX.of I.out rfl,((Ext.refl w).alloc _).trans (he.out.trans U)⟩
  focus
   have hQ:C.drop k= []:=ZB (by omega)
   rw[hQ] at hf
   have I:=gd hf.out
   clear hf
   go_wp2
   go_ret2
   exact ⟨ChkX.of I.out rfl,((Ext.refl w).alloc _).trans hx⟩
end
theorem Gb {P:Program} {A:Func} {p u x:Tmp} {C:TypeId} (h:A.results=#[.cell p C,.tmp u,.tmp x]) (j:Array Value) (w:World):
 (results A j).run P w=
  ((asAddr (j.getD p undef)).run P w).andThen λa D=>((loadVar C a).run P D).andThen λv F=> .ok (.tuple #[v,j.getD u undef,j.getD x undef]) F:=by
 simp only[results,h];simp[Sem.run_bind,Result.andThen]
theorem Zw {P:Program} {C:Func} {p u x:Tmp} {A:TypeId} (h:C.results=#[.cell p A,.tmp u,.tmp x]) (j:Array Value) (w:World) (g:Nat) (t:TypeId) (cs:Array Value) (fr:Nat×Nat) (d:TypeDesc)
 (H:j.getD p undef= .pointer (some ⟨g,0,none⟩)) (F:w.heap[g]? =some (.cells cs t fr))
 (I:P.underlying A=some d) (D:(match d with| .struct _| .array _ _=>true|_=>false)=true) (G:(P.info? A).map (·.size)=some cs.size):
 (results C j).run P w= .ok (.tuple #[.agg cs,j.getD u undef,j.getD x undef]) w:=by
 rw[Gb h,H];simp[asAddr,run_loadVar_row w g t A cs fr d F I D G]
end Go.Proofs.YthlnaldahkgjnaaGreatDoor
