/- Parts of the proof: contracts and plain laws. -/
import Derived.Test.YtnlafkgkcnenfaaGreatDoorR03
namespace Go.Proofs.YtnlafkgkcnenfaaGreatDoor
open Go Go.RowKit Go.WideMaps Go.Maps Tryz
set_option linter.unusedVariables false
set_option linter.unusedSimpArgs false
set_option maxRecDepth 100000
set_option maxHeartbeats 16000000
section
variable {B B' cap g i n:Nat} {e:TypeId} {fs:List ByteArray} {gv xs:List Value} {u u' v:Value} {w w1 w2:World}
theorem ZgZ (e:Ent) (w:Wq):Calls prog 111 #[.agg (eCells e).toArray] w λx w'=>x= .returned (.string e.id)/\Ext w w':=by
 unfold eCells;go_enter func111,ntmps111;go_wp2;go_ret;exact ⟨rfl,(Ext.refl _).alloc _⟩
theorem Uv:Keyed prog 9:=string_keyed underlying9
theorem Ew (w:Wq):(zeroValue 3).run prog w= .ok (nI 0) w:=by kernel_rfl
theorem ZiY:(prog.info? 53).map (λi=>(i.zero,i.size,i.bytes))=some (some sN,1,24):=by kernel_rfl
theorem E1 (l:List Ent):(ordE.firsts l).length<=l.length:=by
 suffices h:∀(n:Nat) (l:List Ent),l.length=n->(ordE.firsts l).length<=l.length from h _ l rfl
 intro n
 induction n with
 |zero=>intro l A;rw[ZF A];exact Zb _
 |succ n ih=>
  intro l A;obtain ⟨l',e,rfl⟩:∃l' e,l=l'++ [e]:=by
   rcases List.eq_nil_or_concat l with h|⟨l',e,h⟩
   ·subst h;simp at A
   ·exact ⟨l',e,by simpa using h⟩
  have:=ih l' (by simpa using A);rw[ordE.firsts_snoc];split<;>simp<;>omega
theorem Zgo (l:List Ent) (s:ByteArray):(grp l s).length<=l.length:=List.length_filter_le _ _
theorem XM {size:Nat} (h:w.ownsRow B e size v n xs) (I:B'<=B):w.ownsRow B' e size v n xs:=by
 refine ⟨h.1,?_⟩;rcases h.2 with D|⟨g,cap,A,F,D,H⟩
 ·exact Or.inl D
 ·exact Or.inr ⟨g,cap,A,F,Zv I D,H⟩
theorem Grps.grow' {V:Wq} {l:List Ent} {x:Ent} {s:ByteArray}
 (h:Grps w1 B (.slice (some ⟨g,0,none⟩) gv.length cap) l fs gv) (_hx0:Ext V w1) (U:Ext w1 w) (I:fs.Pairwise (· ≠ ·)) (R:fs[i]? =some s) (J:gv[i]? =some u) (K:ordE.id x=s)
 (F:w2.ownsRow B 76 5 u' ((grp l s).length+1) (flatE (grp l s)++eCells x)) (M:w.grownBy w2 u.ownBlock) (H:u'.ownBlock=u.ownBlock\/u'.ownBlock=some w.heap.size) (D:u.ownBlock≠some g):
 w2.cell? ⟨g,i,none⟩=some u/\w2.frozen? ⟨g,i,none⟩=false/\Grps (w2.setCell ⟨g,i,none⟩ u') B (.slice (some ⟨g,0,none⟩) gv.length cap) (l++ [x]) fs (gv.set i u'):=by
 have Q:=h.ext U;have A:=Q.row.kept M (Or.inr λe=>D e.symm);have S:i<gv.length:=(ZN.1 J).1;refine ⟨by rw[A.cellAt i (by omega)];exact J,A.frozenAt i,Q.grow I R J K F M ?_ D⟩;rcases H with e|e
 ·exact Or.inl e
 ·exact Or.inr ⟨_,Zb _,e⟩
theorem ZdA (v:Value) (l:List Ent) (w:Wq) (h:REnts w v l) (gS:∀x∈l,x.id.size<=16777216) (hn:l.length<=1000000):
 Calls prog 110 #[v,.func (.func 111) #[] #[]] w λx w'=>∃v' gv,x= .returned v'/\Grps w' w.heap.size v' l (ordE.firsts l) gv/\Ext w w':=by
 obtain ⟨i0,gN,gX,gY,gZ⟩:=Yw Kj;obtain ⟨i1,fb,fg,fh,fi⟩:=Yw ZiY;obtain ⟨A,c,rfl,fd,fa⟩:=h.form;have fr:= @run_makeMap prog;have g5:=gd gS;clear fd fa gS;go_enter func110,ntmps110;go_wp2;go_loopw [6,14] (λo i wr=>∃(k:Nat) (gv:List Value) (D:DataW Unit),k<=l.length/\i=nI k/\Grps wr (w.heap.size+1) o (l.take k) (ordE.firsts (l.take k)) gv/\wr.ownsMap prog 9 (plainElem prog 3) w.heap.size k D/\Hid (IdxMap D (ordE.firsts (l.take k)))/\Ext w wr/\w.heap.size+1<=wr.heap.size) (λ_ i _=>l.length - (intOf i).toNat)
 case atStart=>exact ⟨0,[],.map [],Zh _,rfl,Grps.nil _ _,World.ownsMap_made _ _ _ _,IdxMap.nil,(Ext.refl _).alloc _,by simp⟩
 case round=>
  obtain ⟨k,gv,D,hk,rfl,hG,hM,hD,hx,hws⟩:=hrel;by_cases ht:k<l.length
  ·obtain ⟨ad,c',hv,hm⟩:=(h.ext hx).at ht;injection hv with hv1 hv2 Z;subst hv1;clear hv2 Z;have ff:=g5.out l[k] (Zz ht);have hU:=Zq ht;have hS:=ordE.firsts_snoc (l.take k) l[k];rw[<-hU] at hS;have gm:=E1 (l.take k);rw[ZG] at gm;have hs:=hG.len;have hT:=ordE.firsts_nodup (l.take k);obtain ⟨x,gW⟩:∃x,l[k]=x:=⟨_,rfl⟩;rw[gW] at hm ff hU hS;have gy:=gd hU;have gs:=gd hS;clear hU hS gW;have hK:=Zgo (l.take k) x.id;rw[ZG] at hK;have S:keyOf prog 9 (.string x.id)=some (.string x.id.data.toList):=keyOf_string_mk underlying9 (by unfold maxLen;omega);have hl:=gd (λw'=>ZgZ x w');have fl:(0:Int)<=(k:Int):=(by omega);have fq:(k:Int)<(l.length:Int):=(by omega);have hB:=hD.out.2 x.id;obtain ⟨a0,a1,a2,a3,a4⟩:=hm;by_cases K:x.id∈ordE.firsts (l.take k)
   ·have hg:Maps.has D (.string x.id.data.toList)=true:=hB.1.2 K;obtain ⟨j,hj⟩:=List.mem_iff_getElem?.1 K;have gP:=hB.2 j hj;have gQ:j<gv.length:=(by rw[hs];exact (ZN.1 hj).1);have g1:=gd gP;have hw:=gd hg;have hq:=gd K;obtain ⟨g,cap,ho,hW⟩:∃g cap,(_:Value)= .slice (some ⟨g,0,none⟩) gv.length cap/\gv.length<=maxLen:=by
     rcases hG.row.2 with ⟨h1,h2⟩|⟨g,cap,fp,h1,_,_,h4,h5,_⟩
     ·omega
     ·exact ⟨g,cap,h1,Zv h4 h5⟩
    subst ho;obtain ⟨u,hu⟩:∃u,gv[j]? =some u:=⟨_,Zj gQ⟩;have hp:=hG.each j x.id u hj hu;have gJ:wr.cell? ⟨g,j,none⟩=some u:=(by rw[hG.row.cellAt j (by omega)];exact hu);have gK:=hG.row.frozenAt j;have gI:=hG.row.lt g rfl;have hZ:u.ownBlock≠some g:=by
     intro e;rcases hp.2 with ⟨rfl,_⟩|⟨b',c',fk,rfl,_,g8,_⟩
     ·cases e
     ·rcases hG.row.2 with ⟨h2,_⟩|⟨g',fo,g7,h2,_,gH,_⟩
      ·cases h2
      ·cases h2;cases e;rw[g8] at gH;simp at gH
    have gT:u.ownBlock≠some w.heap.size:=(by intro e;have:=(hp.lt _ e).1;omega);have g4:=gd hp;have h8:=gd hu;have h7:=gd hj;have gc:=gd hZ;have gb:=gd gT;have hr:=gd gI;have gR:(j:Int)<(gv.length:Int):=(by omega);have gO:(0:Int)<=(j:Int):=(by omega);have hi:Hid (((grp (l.take k) x.id).length+1)*72<=140737488355328):=gd (by omega);have h9:Hid ((grp (l.take k) x.id).length+1<=maxLen):=gd (by unfold maxLen;omega);have gL:gv.length<=9223372036854775807:=(by omega);have gt:=gd hs;have fj:=gd hW;clear gP hg K hB hp hu hj hZ gT gI hs hW gQ hK gm;obtain ⟨F,M,V,I,hh⟩:=x;simp only at a0 a1 a2 a3 a4 S;unfold eCells at hl;dsimp only at hl
    go_wp2_with (first|(go_at_call 111;refine (hl.out _).mono ?_;rintro e w2 ⟨rfl,Q⟩;(have e0:=Q.boxed 0 _ rfl);(have e1:=Q.boxed 1 _ rfl);(have e2:=Q.boxed 2 _ rfl);(have e3:=Q.boxed 3 _ rfl);(have e4:=Q.boxed 4 _ rfl);(have R:=(((Ext.refl wr).alloc _).trans Q));(have he:=R.cell gJ);(have hI:=(Xt R hr.out.2).trans gK))|(at_lookup;refine wpList_lookup_own_ok_int _ rfl (.tmp 19) (.tmp 22) _ rfl 9 3 .i64 Uv underlying162 underlying3 (Ew _) w.heap.size k D rfl ((hM.kept (((Ext.refl wr).alloc _).grown none) (by simp)).kept (Q.grown none) (by simp)) _ _ rfl S ?_;intro c hm go;(have gG:c=(j:Int):=by (have e:=g1.out.symm.trans hm;injection e with e;injection e with _ e;exact e.symm));rw[hw.out,gG];clear hm go gG c))
    have fn:=gd R;have h3:=gd (hG.ext R);have hR:=gd (hM.kept (R.grown none) (by simp));have hc:=gd (OEnts.ext g4.out R);have gg:=gd (hx.trans R);have ge:=gd (Zv hws R.size);have ga:=gd hT;clear hG hM S a0 a1 a2 a3 a4 gJ gK Q hT;have gM:g<w2.heap.size:=ZQ w2 _ he;have gF:wr.heap.size<w2.heap.size:=ZQ w2 _ e0
    go_region_law (first|(refine ZU _ (by rfl) (.tmp 43) (.tmp 45) _ (by rfl) (w.heap.size+1) 76 i0 _ 5 72 underlying53 gN gX gY gZ rfl (by decide) u (grp (l.take k) F).length (flatE (grp (l.take k) F)) (by rfl) (Yh hc.out (by repeat (first|exact Ext.refl _|apply Ext.drew|apply Ext.alloc))) _ 1 (eCells ⟨F,M,V,I,hh⟩) (by rfl) (RSl.ext (Yp rfl (by decide)) (by repeat (first|exact Ext.refl _|apply Ext.drew))) (XK _) h9.out hi.out (Zv ge.out (by simp)) ?_;intro v3 w3 J X hd;(obtain ⟨g3,H,Z,g9⟩:∃g3 H,v3= .slice (some ⟨g3,0,none⟩) ((grp (l.take k) F).length+1) H/\True:=by (obtain ⟨g3,H,Z,_⟩:=J.form (by omega);exact ⟨g3,H,Z,trivial⟩));subst Z;(have Y:=Grps.grow' h3.out (Ext.refl _) (by repeat (first|exact Ext.refl _|apply Ext.drew|apply Ext.alloc)) ga.out h7.out h8.out rfl J X hd gc.out);(have hH:=Y.1);(have hJ:=Y.2.1);(have hN:=(hR.out.kept ((show Ext w2 _ from by repeat (first|exact Ext.refl _|apply Ext.drew|apply Ext.alloc)).grown none) (by simp)).kept X (λe=>gb.out e.symm));(have hP:Ext w w3:=Ext.grown' (B:=0) (Ext.trans gg.out (by repeat (first|exact Ext.refl _|apply Ext.drew|apply Ext.alloc))) X (λb hb=>Zv (Yc _) (hc.out.lt b hb).1))))
    all_goals
     have hf:=Y.2.2
     have h6:=gd hf
     have hz:=gd (hN.setCell (a:=⟨g,j,none⟩) (show w.heap.size≠g by have:=hr.out.1;omega) (.slice (some ⟨g3,0,none⟩) ((grp (l.take k) F).length+1) H))
     have gf:=gd (hP.setCell (p:=⟨g,j,none⟩) (show w.heap.size<=g by have:=hr.out.1;omega) (.slice (some ⟨g3,0,none⟩) ((grp (l.take k) F).length+1) H))
     clear Y hf hN hP J X hd hH hJ e0 e1 e2 e3 e4 he hI R
     go_wp2
     go_roundw
     case rel=>
      have hC:ordE.firsts (l.take (k+1))=ordE.firsts (l.take k):=gs.out.trans (Zl hq.out)
      exact ⟨k+1,gv.set j _,D,ht,by go_num,by rw[hC,gy.out];exact h6.out,hz.out.mono (Yc _),by rw[hC];exact hD,gf.out,hz.out.lt⟩
     case measure=>simp[intOf];omega
   ·have hg:Maps.has D (.string x.id.data.toList)=false:=by
     cases hb:Maps.has D (.string x.id.data.toList) with
     |false=>rfl
     |true=>exact absurd (hB.1.1 hb) K
    have hO:=hD.out.put (s:=x.id) K;rw[<-hs] at hO;have gx:=gd hO;have hw:=gd hg;have hq:=gd K;have hA:=gd (Zd0 K);have gt:=gd hs;have gU:(Lit.int .i64 (gv.length:Nat)).wf=true:=(by simp only[Lit.wf,IntKind.min,IntKind.max,Z2];simp[IntKind.signed,IntKind.bits];omega);have g6:=gd gU;have hV:=Zf wr (.cells (eCells x).toArray 76);have h0:=gd hV;have gr:Hid ((gv.length+1)*24<=140737488355328):=gd (by omega);have gw:Hid (gv.length+1<=maxLen):=gd (by unfold maxLen;omega);have g2:Hid (k<maxLen):=gd (by unfold maxLen;omega);have gL:gv.length<=9223372036854775806:=(by omega);clear hg K hO gU hV hB gm hK hs;obtain ⟨F,M,V,I,hh⟩:=x;simp only at a0 a1 a2 a3 a4 S;unfold eCells at hl h0;dsimp only at hl h0;obtain ⟨gA,gC,ho⟩:=hG.form;subst ho;have g0:True:=trivial
    go_wp2_with (first|(clear g0;go_at_call 111;refine (hl.out _).mono ?_;rintro e w2 ⟨rfl,Q⟩;(have gj:=Q.heap h0.out);(obtain ⟨e0,e1,e2,e3,e4⟩:=Zk0 gj);(have R:=(((Ext.refl wr).alloc _).trans Q)))|(at_lookup;refine wpList_lookup_own_ok_int _ rfl (.tmp 19) (.tmp 22) _ rfl 9 3 .i64 Uv underlying162 underlying3 (Ew _) w.heap.size k D rfl ((hM.kept (((Ext.refl wr).alloc _).grown none) (by simp)).kept (Q.grown none) (by simp)) _ _ rfl S ?_;intro c hm go;rw[hw.out];clear hm go)|(go_at_call 111;refine (hl.out _).mono ?_;rintro e w4 ⟨rfl,gp⟩;(have gk:=gp.heap gj);(have hQ:=R.trans gp))|(at_mapUpdate;refine Uf _ rfl (.tmp 30) (.tmp 33) (.tmp 34) 162 rfl 9 3 Uv underlying162 _ w.heap.size k D rfl (hM.kept (hQ.grown none) (by simp)) g2.out _ _ _ rfl rfl S _ [] (plainElem_int underlying3 g6.out) ?_;intro w5 gi hE)|(at_builtin;refine ZH _ rfl (.tmp 35) (.tmp 36) _ rfl (w.heap.size+1) 53 i1 _ 1 24 underlying166 fb fg fh fi rfl (by decide) _ gv.length gv rfl ((((hG.ext hQ).kept hE (YW _)).row).alloc _) _ 1 [sN] rfl (Yp rfl (by decide)) (by intro y hy;simp at hy;subst hy;rfl) gw.out gr.out ?_ ?_;(have:=gi.lt;simp;omega);intro v6 w6 U hF gD))
    obtain ⟨g,cap,fe,hX,hY⟩:=U.form (ZeX _);subst fe;have gV:Ext w w5:=Ext.grown' (B:=0) (hx.trans hQ) hE (λb hb=>by cases hb;exact Zb _);have gz:=(hG.ext hQ).kept hE (YW _);have hL:gv.length+1=(gv++ [Value.slice none 0 0]).length:=(by simp);have gh:=Grps.more (gz.ext ((Ext.refl _).alloc _)) hA.out U hF;rw[hL] at gh;have h3:=gd gh;have gn:∀b,(Value.slice gA gv.length gC).ownBlock=some b->w.heap.size+1<=b:=λb hb=>(hG.row.lt b hb).1;have hR:=gd ((gi.alloc _).kept hF (λe=>by have:=gn _ e.symm;omega));have gg:=gd (Ext.grown' (B:=0) (gV.alloc _) hF (λb hb=>Zv (Yc _) (gn b hb)));have hp:OEnts w6 (w.heap.size+1) sN (grp (l.take k) F):=(by rw[hA.out];exact OEnts.nil _ _);have hc:=gd hp;have gB:w.heap.size+1<=w6.heap.size:=hR.out.lt;have ge:=gd gB;have gl:w5.heap[wr.heap.size]? =some (.cells #[.string F,.string M,.string V,.string I,nI hh] 76):=(by rw[hE.block wr.heap.size (ZQ w4 ⟨wr.heap.size,0,none⟩ (by rw[Xj _ _ _ _ _ _ gk];rfl)) (by simp;omega)];exact gk);have gE:w6.heap[wr.heap.size]? =some (.cells #[.string F,.string M,.string V,.string I,nI hh] 76):=(by rw[hF.block wr.heap.size (by have:wr.heap.size<w5.heap.size:=ZQ w5 ⟨wr.heap.size,0,none⟩ (by rw[Xj _ _ _ _ _ _ gl];rfl);simp;omega) (λe=>by have:=(hG.row.lt _ e.symm).2;omega)];exact ((Ext.refl w5).alloc _).heap gl);have ga:Hid ((ordE.firsts (l.take k)++ [F]).Pairwise (· ≠ ·)):=gd (by
     rw[List.pairwise_append];exact ⟨hT,by simp,λa ha b hb=>by simp at hb;subst hb;rintro rfl;exact hq.out ha⟩)
    have h7:Hid ((ordE.firsts (l.take k)++ [F])[gv.length]? =some F):=gd (by rw[gt.out];simp);have h8:Hid ((gv++ [Value.slice none 0 0])[gv.length]? =some sN):=gd (by simp);have gc:Hid ((Value.slice none 0 0).ownBlock≠some g):=gd (by intro e;cases e);have gb:Hid ((Value.slice none 0 0).ownBlock≠some w.heap.size):=gd (by intro e;cases e);have hr:=gd (Vr hX hY);have he:w6.cell? ⟨g,gv.length,none⟩=some sN:=(by rw[U.cellAt gv.length (by omega)];simp);have hI:w6.frozen? ⟨g,gv.length,none⟩=false:=U.frozenAt gv.length;have gR:(gv.length:Int)<((gv.length:Nat):Int)+1:=(by omega);have fm:gv.length<gv.length+1:=(by omega);have gO:(0:Int)<=(gv.length:Int):=(by omega);have hi:Hid ((grp (l.take k) F).length+1<=1/\True):=gd ⟨by rw[hA.out];simp,trivial⟩;have h9:Hid ((grp (l.take k) F).length+1<=maxLen):=gd (Zv hi.out.1 (by decide));have gq:Hid (((grp (l.take k) F).length+1)*72<=140737488355328):=gd (by have:=hi.out.1;omega);clear hi;have hi:=gq;have gu:=gd hL;clear e0 e1 e2 e3 e4;obtain ⟨e0,e1,e2,e3,e4⟩:=Zk0 gE;clear hG gz gh hM gi S a0 a1 a2 a3 a4 Q gp R hQ gj gk gl gE hE hF gD U gV gn hp gB hL hX hY hT;have gM:g<w6.heap.size:=ZQ w6 _ he;have gF:wr.heap.size<w6.heap.size:=ZQ w6 _ e0
    go_region_law (first|(refine ZU _ (by rfl) (.tmp 43) (.tmp 45) _ (by rfl) (w.heap.size+1) 76 i0 _ 5 72 underlying53 gN gX gY gZ rfl (by decide) sN (grp (l.take k) F).length (flatE (grp (l.take k) F)) (by rfl) (Yh hc.out (by repeat (first|exact Ext.refl _|apply Ext.drew|apply Ext.alloc))) _ 1 (eCells ⟨F,M,V,I,hh⟩) (by rfl) (RSl.ext (Yp rfl (by decide)) (by repeat (first|exact Ext.refl _|apply Ext.drew))) (XK _) h9.out hi.out (Zv ge.out (by simp)) ?_;intro v3 w3 J X hd;(obtain ⟨g3,H,Z,g9⟩:∃g3 H,v3= .slice (some ⟨g3,0,none⟩) ((grp (l.take k) F).length+1) H/\True:=by (obtain ⟨g3,H,Z,_⟩:=J.form (by omega);exact ⟨g3,H,Z,trivial⟩));subst Z;(have Y:=Grps.grow' h3.out (Ext.refl _) (by repeat (first|exact Ext.refl _|apply Ext.drew|apply Ext.alloc)) ga.out h7.out h8.out rfl J X hd gc.out);(have hH:=Y.1);(have hJ:=Y.2.1);(have hN:=(hR.out.kept ((show Ext w6 _ from by repeat (first|exact Ext.refl _|apply Ext.drew|apply Ext.alloc)).grown none) (by simp)).kept X (λe=>gb.out e.symm));(have hP:Ext w w3:=Ext.grown' (B:=0) (Ext.trans gg.out (by repeat (first|exact Ext.refl _|apply Ext.drew|apply Ext.alloc))) X (λb hb=>Zv (Yc _) (hc.out.lt b hb).1))))
    all_goals
     have hf:=Y.2.2
     have h6:=gd hf
     have hz:=gd (hN.setCell (a:=⟨g,gv.length,none⟩) (show w.heap.size≠g by have:=hr.out.1;omega) (.slice (some ⟨g3,0,none⟩) ((grp (l.take k) F).length+1) H))
     have gf:=gd (hP.setCell (p:=⟨g,gv.length,none⟩) (show w.heap.size<=g by have:=hr.out.1;omega) (.slice (some ⟨g3,0,none⟩) ((grp (l.take k) F).length+1) H))
     clear Y hf hN hP J X hd hH hJ e0 e1 e2 e3 e4 he hI
     go_wp2
     go_roundw
     case rel=>
      have hC:ordE.firsts (l.take (k+1))=ordE.firsts (l.take k)++ [F]:=gs.out.trans (Zg hq.out)
      exact ⟨k+1,(gv++ [Value.slice none 0 0]).set gv.length _,D.put (.string F.data.toList) (.lit (.int .i64 (gv.length:Nat))),ht,by go_num,by rw[hC,gy.out,gu.out];exact h6.out,hz.out,by rw[hC];exact gx.out,gf.out,hz.out.lt⟩
     case measure=>simp[intOf];omega
  ·have fc:k=l.length:=(by omega);subst fc;rw[ZM (Zb _)] at hG hD;have HG:=gd hG;clear hG hD hM hk ht;go_wp2;go_ret;refine ⟨_,gv,rfl,?_,hx⟩;have h1:=HG.out;exact ⟨h1.len,XM h1.row (Yc _),λj s u hj hu=>(h1.each j s u hj hu).mono (Yc _),h1.apart⟩
end
section
variable {v:Value} {w w':World}
def RStrs (w:Wq) (v:Value) (l:List ByteArray):Prop:=RSl w 1 v l.length (l.map Value.string)
theorem RStrs.ext {l:List ByteArray} (h:RStrs w v l) (A:Ext w w'):RStrs w' v l:=RSl.ext h A
theorem RStrs.form {l:List ByteArray} (h:RStrs w v l):∃A c,v= .slice A l.length c/\l.length<=c/\c<=maxLen:=by
 obtain ⟨_,A,c,e,D,F,_⟩:=h;exact ⟨A,c,e,D,F⟩
def fCells (p es:Value) (f:Fd):List Value:= [p,.string f.id,.string f.title,.string f.link,nI f.upd,es]
theorem Ji:(prog.info? 55).map (λi=>i.size)=some 6:=by kernel_rfl
end
def sizes (l:List ByteArray):Nat:=(l.map ByteArray.size).sum
def fok (f:Fd):Prop:=i64ok f.upd/\f.path.length+sizes f.path+f.id.size+f.title.size+f.link.size<=16777216
theorem X1 {l:List ByteArray} {s:ByteArray} (h:s∈l):s.size<=sizes l:=by
 induction l with
 |nil=>simp at h
 |cons x t ih=>
  have e:sizes (x::t)=x.size+sizes t:=by unfold sizes;simp
  rcases ZI.1 h with rfl|h
  ·omega
  ·have:=ih h;omega
theorem ZiO (p es:Value) (f:Fd) (w:Wq):Calls prog 65 #[.agg (fCells p es f).toArray] w λx w'=>x= .returned (.string f.id)/\Ext w w':=by
 unfold fCells;go_enter func65,ntmps65;go_wp2;go_ret;exact ⟨rfl,(Ext.refl _).alloc _⟩
section
variable {B B' c d g k m n:Nat} {r:Option Nat} {v:Value} {w w' w3:World} {xs:List Value}
theorem YD (w:Wq) (A B:Obj):((w.alloc A).alloc B).heap[w.heap.size+1]? =some B:=by
 have:=Zf (w.alloc A) B
 rwa [Zt] at this
structure Fc where
 p:Value
 es:Value
 f:Fd
def cellsC (x:Fc):List Value:=fCells x.p x.es x.f
def isSl (v:Value):Prop:=∃A n c,v= .slice A n c
def slC (x:Fc):Prop:=isSl x.p/\isSl x.es
theorem Jf {x:Fc} (h:slC x):∀u∈cellsC x,u.oneCell'=true:=by
 obtain ⟨p,es,f⟩:=x;obtain ⟨⟨A,n,c,D⟩,⟨B,m,d,F⟩⟩:=h;simp only at D F;subst D F;intro u H;simp only[cellsC,fCells,ZI,Yg,Xx] at H;rcases H with rfl|rfl|rfl|rfl|rfl|rfl<;>rfl
theorem Zfb (x:Fc):(cellsC x).length=6:=rfl
def RdC (w:Wq) (x:Fc):Prop:=RStrs w x.p x.f.path/\REnts w x.es x.f.ents
theorem RdC.ext {x:Fc} (h:RdC w x) (A:Ext w w'):RdC w' x:=⟨h.1.ext A,h.2.ext A⟩
theorem RdC.sl {x:Fc} (h:RdC w x):slC x:=by
 obtain ⟨A,c,e,_⟩:=h.1.form;obtain ⟨B,d,e',_⟩:=h.2.form;exact ⟨⟨A,_,c,e⟩,⟨B,_,d,e'⟩⟩
def flatC (l:List Fc):List Value:=(l.map cellsC).flatten
theorem Zbw (a b:List Fc):flatC (a++b)=flatC a++flatC b:=by unfold flatC;rw[ZK,Gj]
theorem Zg3 (x:Fc):flatC [x]=cellsC x:=by unfold flatC;simp
def RFcs (w:Wq) (v:Value) (l:List Fc):Prop:=RSl w 6 v l.length (flatC l)
def OFcs (w:Wq) (B:Nat) (v:Value) (l:List Fc):Prop:=w.ownsRow B 55 6 v l.length (flatC l)
theorem OFcs.reads {l:List Fc} (h:OFcs w B v l):RFcs w v l:=RSl.of_own h
theorem RFcs.ext {l:List Fc} (h:RFcs w v l) (A:Ext w w'):RFcs w' v l:=RSl.ext h A
theorem OFcs.ext {l:List Fc} (h:OFcs w B v l) (A:Ext w w'):OFcs w' B v l:=Yh h A
theorem RFcs.form {l:List Fc} (h:RFcs w v l):∃A c,v= .slice A l.length c/\l.length<=c/\c<=maxLen:=by
 obtain ⟨_,A,c,e,D,F,_⟩:=h;exact ⟨A,c,e,D,F⟩
theorem OFcs.nil (w:Wq) (B:Nat):OFcs w B sN []:=YO _ _ _ _
theorem OFcs.snoc {l:List Fc} {x:Fc} (h:w.ownsRow B 55 6 v (l.length+1) (flatC l++cellsC x)):OFcs w B v (l++ [x]):=by
 unfold OFcs;rw[Zbw,Zg3,Zd];exact h
theorem OFcs.mono {l:List Fc} (h:OFcs w B v l) (A:B'<=B):OFcs w B' v l:=XM h A
structure AtFc (w:Wq) (q:Addr) (x:Fc):Prop where
 c0:w.cell? q=some x.p
 c1:w.cell? ⟨q.block,q.off+1,none⟩=some (.string x.f.id)
 c2:w.cell? ⟨q.block,q.off+2,none⟩=some (.string x.f.title)
 c3:w.cell? ⟨q.block,q.off+3,none⟩=some (.string x.f.link)
 c4:w.cell? ⟨q.block,q.off+4,none⟩=some (nI x.f.upd)
 c5:w.cell? ⟨q.block,q.off+5,none⟩=some x.es
theorem AtFc.ext {q:Addr} {x:Fc} (h:AtFc w q x) (A:Ext w w'):AtFc w' q x:=⟨A.cell h.c0,A.cell h.c1,A.cell h.c2,A.cell h.c3,A.cell h.c4,A.cell h.c5⟩
theorem RFcs.at {l:List Fc} (h:RFcs w v l) (F:k<l.length):∃ad c,v= .slice (some ad) l.length c/\AtFc w (ad.add (k*6)) l[k]:=by
 obtain ⟨ad,c,e,D⟩:=RSl.elem (k:=6) (css:=l.map cellsC) h (by decide) (by intro c D;obtain ⟨x,_,rfl⟩:=ZO.1 D;rfl) k (cellsC l[k]) (by rw[Ys,Zj F];rfl);rw[U5] at D;have A:∀i,0<i->(ad.add (k*6)).add i=⟨(ad.add (k*6)).block,(ad.add (k*6)).off+i,none⟩:=λi H=>Zg (by omega);refine ⟨ad,c,e,?_,?_,?_,?_,?_,?_⟩
 ·have:=D 0 _ rfl;rwa [add_zero] at this
 ·have:=D 1 _ rfl;rwa [A _ (by decide)] at this
 ·have:=D 2 _ rfl;rwa [A _ (by decide)] at this
 ·have:=D 3 _ rfl;rwa [A _ (by decide)] at this
 ·have:=D 4 _ rfl;rwa [A _ (by decide)] at this
 ·have:=D 5 _ rfl;rwa [A _ (by decide)] at this
theorem Zd8 {A:Option Addr} {B:Option Addr} {i t l:ByteArray} {u:Int}:(#[Value.slice A n c,.string i,.string t,.string l,nI u,.slice B m d]).all (λu=>u.oneCell')=true:=
 Zcx (Jf (x:=⟨.slice A n c,.slice B m d,⟨[],i,t,l,u,[]⟩⟩) ⟨⟨_,_,_,rfl⟩,⟨_,_,_,rfl⟩⟩)
theorem Uw {A:Option Addr}:(#[Value.slice A n c]).all (λu=>u.oneCell')=true:=Zcx (cs:= [Value.slice A n c]) (by intro u h;rw[Zo.1 h];rfl)
theorem RSl.grown {size:Nat} (h:RSl w size v n xs) (R:w.grownBy w' r) (D:xs= []\/v.ownBlock≠r):RSl w' size v n xs:=by
 obtain ⟨H,A,c,rfl,I,J,K,M⟩:=h;refine ⟨H,A,c,rfl,I,J,K,λj u F=> ?_⟩;obtain ⟨ad,rfl,Q⟩:=M j u F;refine ⟨ad,rfl,R.cell Q ?_⟩;rw[VI];rcases D with D|D
 ·subst D;simp at F
 ·exact D
theorem RSl.old {size:Nat} (h:RSl w size v n xs) (D:xs≠ []):∃g,v.ownBlock=some g/\g<w.heap.size:=by
 obtain ⟨I,A,c,rfl,J,K,M,F⟩:=h;cases xs with
 |nil=>exact absurd rfl D
 |cons u t=>
  obtain ⟨ad,rfl,H⟩:=F 0 u rfl;refine ⟨ad.block,rfl,?_⟩;have:=ZQ w _ H
  rwa [VI] at this
def awayC (x:Fc) (r:Option Nat):Prop:=(x.f.path= []\/x.p.ownBlock≠r)/\(x.f.ents= []\/x.es.ownBlock≠r)
theorem GF {x:Fc} (h:RdC w x):awayC x none:=by
 refine ⟨?_,?_⟩
 ·cases hp:x.f.path with
  |nil=>exact Or.inl rfl
  |cons s t=>obtain ⟨g,A,_⟩:=RSl.old h.1 (by rw[hp];simp);exact Or.inr (by rw[A];simp)
 ·cases hp:x.f.ents with
  |nil=>exact Or.inl rfl
  |cons s t=>obtain ⟨g,A,_⟩:=RSl.old h.2 (by rw[hp];unfold flatE;simp[eCells]);exact Or.inr (by rw[A];simp)
theorem QU {x:Fc} (h:RdC w x) (F:w.heap.size<=g):awayC x (some g):=by
 refine ⟨?_,?_⟩
 ·cases hp:x.f.path with
  |nil=>exact Or.inl rfl
  |cons s t=>obtain ⟨k,A,D⟩:=RSl.old h.1 (by rw[hp];simp);exact Or.inr (by rw[A];intro e;injection e with e;omega)
 ·cases hp:x.f.ents with
  |nil=>exact Or.inl rfl
  |cons s t=>obtain ⟨k,A,D⟩:=RSl.old h.2 (by rw[hp];unfold flatE;simp[eCells]);exact Or.inr (by rw[A];intro e;injection e with e;omega)
theorem RdC.grown {x:Fc} (h:RdC w x) (D:w.grownBy w' r) (A:awayC x r):RdC w' x:=
 ⟨RSl.grown h.1 D (A.1.imp (λe=>by rw[e];rfl) λe=>e),RSl.grown h.2 D (A.2.imp (λe=>by rw[e];rfl) λe=>e)⟩
structure HFs (w:Wq) (B:Nat) (v:Value) (l:List Fc):Prop where
 row:OFcs w B v l
 rd:∀x∈l,RdC w x
 away:∀x∈l,awayC x v.ownBlock
theorem HFs.nil (w:Wq) (B:Nat):HFs w B sN []:=⟨OFcs.nil _ _,by simp,by simp⟩
theorem HFs.ext {l:List Fc} (h:HFs w B v l) (D:Ext w w'):HFs w' B v l:=⟨h.row.ext D,λx A=>(h.rd x A).ext D,h.away⟩
theorem HFs.snoc {v3:Value} {l:List Fc} {x:Fc} (h:HFs w B v l) (K:RdC w x) (I:awayC x v.ownBlock)
 (F:w3.ownsRow B 55 6 v3 (l.length+1) (flatC l++cellsC x)) (J:w.grownBy w3 v.ownBlock) (H:v3.ownBlock=v.ownBlock\/v3.ownBlock=some w.heap.size):HFs w3 B v3 (l++ [x]):=by
 have D:∀y∈l++ [x],RdC w y/\awayC y v.ownBlock:=by
  intro y A;rcases Zu.1 A with A|A
  ·exact ⟨h.rd y A,h.away y A⟩
  ·rw[Zo.1 A];exact ⟨K,I⟩
 refine ⟨OFcs.snoc F,λy A=>(D y A).1.grown J (D y A).2,λy A=> ?_⟩;rcases H with e|e
 ·rw[e];exact (D y A).2
 ·rw[e];exact QU (D y A).1 (Zb _)
end
section
variable {B cap g i m:Nat} {fs:List ByteArray} {gv:List Value} {l:List Fc} {u u' v:Value} {w w' w2:World} {x:Fc}
def firstsC (l:List Fc):List ByteArray:=ordF.firsts (l.map Fc.f)
open Classical in
theorem Kf (l:List Fc) (e:Fc):firstsC (l++ [e])=if e.f.id∈firstsC l then firstsC l else firstsC l++ [e.f.id]:=by
 have h:=ordF.firsts_snoc (l.map Fc.f) e.f;unfold firstsC;rw[ZK,ZP,Yt];by_cases A:e.f.id∈ordF.firsts (l.map Fc.f)
 ·rw[Zl A];exact h.trans (Zl A)
 ·rw[Zg A];exact h.trans (Zg A)
theorem ZaW (l:List Fc):(firstsC l).Pairwise (· ≠ ·):=ordF.firsts_nodup _
theorem IU (l:List Fc) (k:ByteArray):k∈firstsC l↔∃x∈l,x.f.id=k:=by
 unfold firstsC;rw[ordF.mem_firsts];constructor
 ·rintro ⟨f,A,e⟩;obtain ⟨x,h,rfl⟩:=ZO.1 A;exact ⟨x,h,e⟩
 ·rintro ⟨x,h,e⟩;exact ⟨x.f,ZO.2 ⟨x,h,rfl⟩,e⟩
def grpC (l:List Fc) (s:ByteArray):List Fc:=l.filter λx=>decide (x.f.id=s)
structure GrpsC (w:Wq) (B:Nat) (v:Value) (l:List Fc) (fs:List ByteArray) (gv:List Value):Prop where
 len:gv.length=fs.length
 row:w.ownsRow B 29 1 v gv.length gv
 each:∀(j:Nat) (s:ByteArray) (u:Value),fs[j]? =some s->gv[j]? =some u->OFcs w B u (grpC l s)
 apart:∀(i j:Nat) (u u':Value),gv[i]? =some u->gv[j]? =some u'->i≠j->∀g,u.ownBlock=some g->u'.ownBlock≠some g
theorem GrpsC.ext (h:GrpsC w B v l fs gv) (A:Ext w w'):GrpsC w' B v l fs gv:=
 ⟨h.len,Yh h.row A,λj s u D F=>(h.each j s u D F).ext A,h.apart⟩
theorem GrpsC.nil (w:Wq) (B:Nat):GrpsC w B sN [] [] []:=⟨rfl,YO _ _ _ _,by simp,by simp⟩
theorem ZbH (l:List Fc) (x:Fc) (s:ByteArray):grpC (l++ [x]) s=if x.f.id=s then grpC l s++ [x] else grpC l s:=by
 unfold grpC;rw[List.filter_append];by_cases h:x.f.id=s
 ·rw[Zl h];simp[h]
 ·rw[Zg h];simp[h]
theorem Zcs {s:ByteArray} (h:s ∉ firstsC l):grpC l s= []:=by
 unfold grpC;rw[List.filter_eq_nil_iff];intro x A;simp only[Yn];intro e;exact h ((IU l s).2 ⟨x,A,e⟩)
theorem GrpsC.grow {s:ByteArray}
 (h:GrpsC w B (.slice (some ⟨g,0,none⟩) gv.length cap) l fs gv) (hk:fs.Pairwise (· ≠ ·)) (hi:fs[i]? =some s) (hu:gv[i]? =some u) (hx:x.f.id=s)
 (Y:w2.ownsRow B 55 6 u' ((grpC l s).length+1) (flatC (grpC l s)++cellsC x)) (hg:w.grownBy w2 u.ownBlock) (S:u'.ownBlock=u.ownBlock\/(∃W:Nat,w.heap.size<=W/\u'.ownBlock=some W)) (X:u.ownBlock≠some g):
 GrpsC (w2.setCell ⟨g,i,none⟩ u') B (.slice (some ⟨g,0,none⟩) gv.length cap) (l++ [x]) fs (gv.set i u'):=by
 have V:=h.len;have hr:=h.row.lt g rfl;have hc:u'.ownBlock≠some g:=by
  rcases S with e|⟨W,hW,e⟩
  ·rw[e];exact X
  ·rw[e];intro e';injection e' with e';omega
 have hh:∀(j:Nat) (v:Value),gv[j]? =some v->j≠i->v.ownBlock=none\/v.ownBlock≠u.ownBlock:=by
  intro j v D H;cases A:v.ownBlock with
  |none=>exact Or.inl rfl
  |some b=>exact Or.inr λe=>h.apart j i v u D hu H b A e.symm
 have Q:=(h.row.kept hg (Or.inr λe=>X e.symm));refine ⟨by rw[XI];exact V,?_,?_,?_⟩
 ·rw[XI];exact (Q.stored i u').1
 ·intro j t v H D;have hn:∀(m:Nat) (q:Value),gv[m]? =some q->(∃t,fs[m]? =some t)->q.ownBlock=none\/q.ownBlock≠some g:=by
   intro m q Z ⟨t',hl⟩;cases F:q.ownBlock with
   |none=>exact Or.inl rfl
   |some b=>
    refine Or.inr λe=> ?_;injection e with e;subst e;have h1:=(h.each m t' q hl Z).2;have R:=h.row.2;rcases h1 with ⟨rfl,_⟩|⟨b',c',ho,rfl,_,hf,_⟩
    ·cases F
    ·rcases R with ⟨R,_⟩|⟨g',hp,he,R,_,U,_⟩
     ·cases R
     ·cases R;cases F;rw[hf] at U;simp at U
  by_cases I:j=i
  ·subst I;rw[hi] at H;injection H with H;subst H;have A:v=u':=(by rw[List.getElem?_set] at D;have:j<gv.length:=(ZN.1 hu).1;simp[this] at D;exact D.symm);subst A;rw[ZbH,Zl hx];exact OFcs.snoc (Vx Y (a:=⟨g,j,none⟩) hc v)
  ·rw[List.getElem?_set_ne (λe=>I e.symm)] at D;have ht:t≠s:=by
    intro e;subst e;have h1:=Xe.1 hk;obtain ⟨p1,q1⟩:=ZN.1 hi;obtain ⟨p2,q2⟩:=ZN.1 H;rcases Nat.lt_or_gt_of_ne I with h3|h3
    ·exact h1 j i p2 p1 h3 (q2.trans q1.symm)
    ·exact h1 i j p1 p2 h3 (q1.trans q2.symm)
   rw[ZbH,Zg (by rw[hx];exact λe=>ht e.symm)];have h4:=(h.each j t v H D).kept hg (hh j v D I);refine Vx h4 (a:=⟨g,i,none⟩) ?_ u';rcases hn j v D ⟨t,H⟩ with e|e
   ·rw[e];simp
   ·exact e
 ·intro a b v v' D A K q Z;rw[List.getElem?_set] at D A;have hd:∀(m:Nat) (q':Value),gv[m]? =some q'->m≠i->∀b,u'.ownBlock=some b->q'.ownBlock≠some b:=by
   intro m q' F hm b J e;rcases S with e'|⟨W,hW,e'⟩
   ·rw[e'] at J;exact h.apart i m u q' hu F (λe=>hm e.symm) b J e
   ·rw[e'] at J;injection J with J;obtain ⟨pm,_⟩:=ZN.1 F;have h5:=h.each m (fs[m]'(by omega)) q' (Zj (by omega)) F;have:=(h5.lt b e).2;omega
  by_cases ha:i=a
  ·subst ha;have M:i<gv.length:=(ZN.1 hu).1;simp only[QE,Zl M,Xc] at D;subst D;rw[Zg K] at A;exact hd b v' A (λe=>K e.symm) q Z
  ·rw[Zg ha] at D;by_cases J:i=b
   ·subst J;have M:i<gv.length:=(ZN.1 hu).1;simp only[QE,Zl M,Xc] at A;subst A;intro e;exact hd a v D (λe=>ha e.symm) q e Z
   ·rw[Zg J] at A;exact h.apart a b v v' D A K q Z
theorem GrpsC.form (h:GrpsC w B v l fs gv):∃A c,v= .slice A gv.length c:=by
 rcases h.row.2 with ⟨D,H⟩|⟨g,cap,F,D,_⟩
 ·exact ⟨none,0,by rw[D,H]⟩
 ·exact ⟨_,_,D⟩
theorem GrpsC.kept (h:GrpsC w B v l fs gv) (H:w.grownBy w2 (some m)) (J:m<B):GrpsC w2 B v l fs gv:=by
 have A:∀{e:TypeId} {n size:Nat} {u:Value} {xs:List Value},w.ownsRow B e size u n xs->u.ownBlock=none\/u.ownBlock≠some m:=by
  intro e n size u xs I;cases hb:u.ownBlock with
  |none=>exact Or.inl rfl
  |some b=>refine Or.inr λe=> ?_;injection e with e;have:=(I.lt b hb).1;omega
 exact ⟨h.len,h.row.kept H (A h.row),λj s u D F=>(h.each j s u D F).kept H (A (h.each j s u D F)),h.apart⟩
theorem GrpsC.more {v':Value} {s:ByteArray}
 (h:GrpsC w B v l fs gv) (hs:grpC l s= []) (J:w2.ownsRow B 29 1 v' (gv.length+1) (gv++ [sN])) (hg:w.grownBy w2 v.ownBlock):
 GrpsC w2 B v' l (fs++ [s]) (gv++ [sN]):=by
 have I:=h.len;refine ⟨by simp[I],by simpa using J,?_,?_⟩
 ·intro j t u F D;rcases XJ j gv.length with A|A
  ·rw[Y3 A] at D;rw[Y3 (by omega)] at F;have X:=h.each j t u F D;refine X.kept hg ?_;cases hu':u.ownBlock with
   |none=>exact Or.inl rfl
   |some b=>
    refine Or.inr λe=> ?_;rcases X.2 with ⟨rfl,_⟩|⟨b',c',V,rfl,_,R,_⟩
    ·cases hu'
    ·rcases h.row.2 with ⟨rfl,_⟩|⟨g',ha,M,rfl,_,H,_⟩
     ·cases e
     ·cases hu';cases e;rw[R] at H;simp at H
  ·rw[Yr A] at D;rw[Yr (by omega)] at F;have S:j - gv.length=0:=by
    rcases YP (j - gv.length) with Y|Y
    ·exact Y
    ·rw[List.getElem?_eq_none (by simp;omega)] at D;cases D
   rw[S] at D;rw[show j - fs.length=0 by omega] at F;simp at D F;subst D F;rw[hs];exact OFcs.nil _ _
 ·intro a b q Z hq U Q m K;have last:∀(n:Nat) (u:Value),(gv++ [Value.slice none 0 0])[n]? =some u->∀m,u.ownBlock=some m->gv[n]? =some u:=by
   intro n u D m K;rcases XJ n gv.length with A|A
   ·rwa [Y3 A] at D
   ·rw[Yr A] at D;have:=List.mem_of_getElem? D;simp at this;subst this;cases K
  intro e;exact h.apart a b q Z (last a q hq m K) (last b Z U m e) Q m K e
end
section
variable {B cap g i:Nat} {fs:List ByteArray} {gv:List Value} {l:List Fc} {u u':Value} {w w1 w2:World} {x:Fc}
theorem Zhg:(prog.info? 29).map (λi=>(i.zero,i.size,i.bytes))=some (some sN,1,24):=by kernel_rfl
theorem IP (l:List Fc):(firstsC l).length<=l.length:=by
 suffices h:∀(n:Nat) (l:List Fc),l.length=n->(firstsC l).length<=l.length from h _ l rfl
 intro n
 induction n with
 |zero=>intro l A;rw[ZF A];exact Zb _
 |succ n ih=>
  intro l A;obtain ⟨l',e,rfl⟩:∃l' e,l=l'++ [e]:=by
   rcases List.eq_nil_or_concat l with h|⟨l',e,h⟩
   ·subst h;simp at A
   ·exact ⟨l',e,by simpa using h⟩
  have:=ih l' (by simpa using A);rw[Kf];split<;>simp<;>omega
theorem ZdC (l:List Fc) (s:ByteArray):(grpC l s).length<=l.length:=List.length_filter_le _ _
theorem GrpsC.grow' {V:Wq} {s:ByteArray}
 (h:GrpsC w1 B (.slice (some ⟨g,0,none⟩) gv.length cap) l fs gv) (_hx0:Ext V w1) (U:Ext w1 w) (I:fs.Pairwise (· ≠ ·)) (R:fs[i]? =some s) (J:gv[i]? =some u) (K:x.f.id=s)
 (F:w2.ownsRow B 55 6 u' ((grpC l s).length+1) (flatC (grpC l s)++cellsC x)) (M:w.grownBy w2 u.ownBlock) (H:u'.ownBlock=u.ownBlock\/u'.ownBlock=some w.heap.size) (D:u.ownBlock≠some g):
 w2.cell? ⟨g,i,none⟩=some u/\w2.frozen? ⟨g,i,none⟩=false/\GrpsC (w2.setCell ⟨g,i,none⟩ u') B (.slice (some ⟨g,0,none⟩) gv.length cap) (l++ [x]) fs (gv.set i u'):=by
 have Q:=h.ext U;have A:=Q.row.kept M (Or.inr λe=>D e.symm);have S:i<gv.length:=(ZN.1 J).1;refine ⟨by rw[A.cellAt i (by omega)];exact J,A.frozenAt i,Q.grow I R J K F M ?_ D⟩;rcases H with e|e
 ·exact Or.inl e
 ·exact Or.inr ⟨_,Zb _,e⟩
theorem ZdB (v:Value) (l:List Fc) (w:Wq) (h:RFcs w v l) (hr:∀x∈l,slC x) (gZ:∀x∈l,x.f.id.size<=16777216) (hn:l.length<=1000000):
 Calls prog 64 #[v,.func (.func 65) #[] #[]] w λx w'=>∃v' gv,x= .returned v'/\GrpsC w' w.heap.size v' l (firstsC l) gv/\Ext w w':=by
 obtain ⟨i0,gU,g5,g6,g7⟩:=Yw ZbJ;obtain ⟨i1,fi,fn,fo,fp⟩:=Yw Zhg;obtain ⟨A,c,rfl,fk,fh⟩:=h.form;have fA:= @run_makeMap prog;have fc:=gd gZ;have gG:=gd hr;clear fk fh gZ hr;go_enter func64,ntmps64;go_wp2;go_loopw [6,14] (λo i wr=>∃(k:Nat) (gv:List Value) (D:DataW Unit),k<=l.length/\i=nI k/\GrpsC wr (w.heap.size+1) o (l.take k) (firstsC (l.take k)) gv/\wr.ownsMap prog 9 (plainElem prog 3) w.heap.size k D/\Hid (IdxMap D (firstsC (l.take k)))/\Ext w wr/\w.heap.size+1<=wr.heap.size) (λ_ i _=>l.length - (intOf i).toNat)
 case atStart=>exact ⟨0,[],.map [],Zh _,rfl,GrpsC.nil _ _,World.ownsMap_made _ _ _ _,IdxMap.nil,(Ext.refl _).alloc _,by simp⟩
 case round=>
  obtain ⟨k,gv,D,hk,rfl,Z,hM,hD,hx,hws⟩:=hrel;by_cases hp:k<l.length
  ·obtain ⟨ad,c',hv,hm⟩:=(h.ext hx).at hp;injection hv with hv1 hv2 Y;subst hv1;clear hv2 Y;have fm:=fc.out l[k] (Zz hp);have hr:=gG.out l[k] (Zz hp);have h0:=Zq hp;have hY:=Kf (l.take k) l[k];rw[<-h0] at hY;have gr:=IP (l.take k);rw[ZG] at gr;have hA:=Z.len;have hZ:=ZaW (l.take k);obtain ⟨x,g4⟩:∃x,l[k]=x:=⟨_,rfl⟩;rw[g4] at hm fm hr h0 hY;have gF:=gd hr;have gH:=gd h0;have gy:=gd hY;clear h0 hY g4;have hO:=ZdC (l.take k) x.f.id;rw[ZG] at hO;have R:keyOf prog 9 (.string x.f.id)=some (.string x.f.id.data.toList):=keyOf_string_mk underlying9 (by unfold maxLen;omega);have hl:=gd (λw'=>ZiO x.p x.es x.f w');have fu:(0:Int)<=(k:Int):=(by omega);have fz:(k:Int)<(l.length:Int):=(by omega);have hF:=hD.out.2 x.f.id;obtain ⟨a0,a1,a2,a3,a4,a5⟩:=hm;by_cases J:x.f.id∈firstsC (l.take k)
   ·have hg:Maps.has D (.string x.f.id.data.toList)=true:=hF.1.2 J;obtain ⟨j,hj⟩:=List.mem_iff_getElem?.1 J;have gW:=hF.2 j hj;have gX:j<gv.length:=(by rw[hA];exact (ZN.1 hj).1);have g9:=gd gW;have hB:=gd hg;have hw:=gd J;obtain ⟨g,cap,ho,h6⟩:∃g cap,(_:Value)= .slice (some ⟨g,0,none⟩) gv.length cap/\gv.length<=maxLen:=by
     rcases Z.row.2 with ⟨h1,h2⟩|⟨g,cap,fy,h1,_,_,h4,h5,_⟩
     ·omega
     ·exact ⟨g,cap,h1,Zv h4 h5⟩
    subst ho;obtain ⟨u,hu⟩:∃u,gv[j]? =some u:=⟨_,Zj gX⟩;have hq:=Z.each j x.f.id u hj hu;have gQ:wr.cell? ⟨g,j,none⟩=some u:=(by rw[Z.row.cellAt j (by omega)];exact hu);have gR:=Z.row.frozenAt j;have gP:=Z.row.lt g rfl;have h9:u.ownBlock≠some g:=by
     intro e;rcases hq.2 with ⟨rfl,_⟩|⟨b',c',ft,rfl,_,ff,_⟩
     ·cases e
     ·rcases Z.row.2 with ⟨h2,_⟩|⟨g',fx,fe,h2,_,gO,_⟩
      ·cases h2
      ·cases h2;cases e;rw[ff] at gO;simp at gO
    have g0:u.ownBlock≠some w.heap.size:=(by intro e;have:=(hq.lt _ e).1;omega);have fb:=gd hq;have ge:=gd hu;have gc:=gd hj;have gi:=gd h9;have gh:=gd g0;have hz:=gd gP;have gY:(j:Int)<(gv.length:Int):=(by omega);have gV:(0:Int)<=(j:Int):=(by omega);have hi:Hid (((grpC (l.take k) x.f.id).length+1)*104<=140737488355328):=gd (by omega);have gf:Hid ((grpC (l.take k) x.f.id).length+1<=maxLen):=gd (by unfold maxLen;omega);have gS:gv.length<=9223372036854775807:=(by omega);have gz:=gd hA;have fr:=gd h6;clear gW hg J hF hq hu hj h9 g0 gP hA h6 gX hO gr;obtain ⟨xp,fq,⟨ht,F,M,U,hh,hs⟩⟩:=x;obtain ⟨⟨xA,xn,xc,hV⟩,⟨xB,xm,xd,hU⟩⟩:=hr;simp only at hV hU;subst hV hU;simp only at a0 a1 a2 a3 a4 a5 R;unfold fCells at hl;dsimp only at hl
    go_wp2_with (first|(go_at_call 65;refine (hl.out _).mono ?_;rintro e w2 ⟨rfl,K⟩;(have e0:=K.boxed 0 _ rfl);(have e1:=K.boxed 1 _ rfl);(have e2:=K.boxed 2 _ rfl);(have e3:=K.boxed 3 _ rfl);(have e4:=K.boxed 4 _ rfl);(have e5:=K.boxed 5 _ rfl);(have Q:=(((Ext.refl wr).alloc _).trans K));(have he:=Q.cell gQ);(have hL:=(Xt Q hz.out.2).trans gR))|(at_lookup;refine wpList_lookup_own_ok_int _ rfl (.tmp 19) (.tmp 22) _ rfl 9 3 .i64 Uv underlying162 underlying3 (Ew _) w.heap.size k D rfl ((hM.kept (((Ext.refl wr).alloc _).grown none) (by simp)).kept (K.grown none) (by simp)) _ _ rfl R ?_;intro c hm gt;(have gN:c=(j:Int):=by (have e:=g9.out.symm.trans hm;injection e with e;injection e with _ e;exact e.symm));rw[hB.out,gN];clear hm gt gN c))
    have fw:=gd Q;have ga:=gd (Z.ext Q);have hX:=gd (hM.kept (Q.grown none) (by simp));have hc:=gd (OFcs.ext fb.out Q);have gl:=gd (hx.trans Q);have gj:=gd (Zv hws Q.size);have gg:=gd hZ;clear Z hM R a0 a1 a2 a3 a4 a5 gQ gR K hZ;have gT:g<w2.heap.size:=ZQ w2 _ he;have gM:wr.heap.size<w2.heap.size:=ZQ w2 _ e0
    go_region_law (first|(refine ZU _ (by rfl) (.tmp 43) (.tmp 45) _ (by rfl) (w.heap.size+1) 55 i0 _ 6 104 underlying29 gU g5 g6 g7 rfl (by decide) u (grpC (l.take k) F).length (flatC (grpC (l.take k) F)) (by rfl) (Yh hc.out (by repeat (first|exact Ext.refl _|apply Ext.drew|apply Ext.alloc))) _ 1 (cellsC ⟨.slice xA xn xc,.slice xB xm xd,⟨ht,F,M,U,hh,hs⟩⟩) (by rfl) (RSl.ext (Yp rfl (by decide)) (by repeat (first|exact Ext.refl _|apply Ext.drew))) (Jf gF.out) gf.out hi.out (Zv gj.out (by simp)) ?_;intro v3 w3 I V hd;(obtain ⟨g3,H,Y,fg⟩:∃g3 H,v3= .slice (some ⟨g3,0,none⟩) ((grpC (l.take k) F).length+1) H/\True:=by (obtain ⟨g3,H,Y,_⟩:=I.form (by omega);exact ⟨g3,H,Y,trivial⟩));subst Y;(have X:=GrpsC.grow' ga.out (Ext.refl _) (by repeat (first|exact Ext.refl _|apply Ext.drew|apply Ext.alloc)) gg.out gc.out ge.out rfl I V hd gi.out);(have hK:=X.1);(have hN:=X.2.1);(have hQ:=(hX.out.kept ((show Ext w2 _ from by repeat (first|exact Ext.refl _|apply Ext.drew|apply Ext.alloc)).grown none) (by simp)).kept V (λe=>gh.out e.symm));(have hS:Ext w w3:=Ext.grown' (B:=0) (Ext.trans gl.out (by repeat (first|exact Ext.refl _|apply Ext.drew|apply Ext.alloc))) V (λb hb=>Zv (Yc _) (hc.out.lt b hb).1))))
    all_goals
     have hf:=X.2.2
     have gb:=gd hf
     have hC:=gd (hQ.setCell (a:=⟨g,j,none⟩) (show w.heap.size≠g by have:=hz.out.1;omega) (.slice (some ⟨g3,0,none⟩) ((grpC (l.take k) F).length+1) H))
     have gk:=gd (hS.setCell (p:=⟨g,j,none⟩) (show w.heap.size<=g by have:=hz.out.1;omega) (.slice (some ⟨g3,0,none⟩) ((grpC (l.take k) F).length+1) H))
     clear X hf hQ hS I V hd hK hN e0 e1 e2 e3 e4 e5 he hL Q
     go_wp2
     go_roundw
     case rel=>
      have hH:firstsC (l.take (k+1))=firstsC (l.take k):=gy.out.trans (Zl hw.out)
      exact ⟨k+1,gv.set j _,D,hp,by go_num,by rw[hH,gH.out];exact gb.out,hC.out.mono (Yc _),by rw[hH];exact hD,gk.out,hC.out.lt⟩
     case measure=>simp[intOf];omega
   ·have hg:Maps.has D (.string x.f.id.data.toList)=false:=by
     cases hb:Maps.has D (.string x.f.id.data.toList) with
     |false=>rfl
     |true=>exact absurd (hF.1.1 hb) J
    have hR:=hD.out.put (s:=x.f.id) J;rw[<-hA] at hR;have gE:=gd hR;have hB:=gd hg;have hw:=gd J;have hE:=gd (Zcs J);have gz:=gd hA;have g1:(Lit.int .i64 (gv.length:Nat)).wf=true:=(by simp only[Lit.wf,IntKind.min,IntKind.max,Z2];simp[IntKind.signed,IntKind.bits];omega);have fd:=gd g1;have h3:=Zf wr (.cells (cellsC x).toArray 55);have hW:=gd h3;have gx:Hid ((gv.length+1)*24<=140737488355328):=gd (by omega);have gD:Hid (gv.length+1<=maxLen):=gd (by unfold maxLen;omega);have fa:Hid (k<maxLen):=gd (by unfold maxLen;omega);have gS:gv.length<=9223372036854775806:=(by omega);clear hg J hR g1 h3 hF gr hO hA;obtain ⟨xp,fq,⟨ht,F,M,U,hh,hs⟩⟩:=x;obtain ⟨⟨xA,xn,xc,hV⟩,⟨xB,xm,xd,hU⟩⟩:=hr;simp only at hV hU;subst hV hU;simp only at a0 a1 a2 a3 a4 a5 R;unfold cellsC at hW;unfold fCells at hl hW;dsimp only at hl hW;obtain ⟨gA,gC,ho⟩:=Z.form;subst ho;have g8:True:=trivial
    go_wp2_with (first|(clear g8;go_at_call 65;refine (hl.out _).mono ?_;rintro e w2 ⟨rfl,K⟩;(have go:=K.heap hW.out);(obtain ⟨e0,e1,e2,e3,e4,e5⟩:=Ze7 go);(have Q:=(((Ext.refl wr).alloc _).trans K)))|(at_lookup;refine wpList_lookup_own_ok_int _ rfl (.tmp 19) (.tmp 22) _ rfl 9 3 .i64 Uv underlying162 underlying3 (Ew _) w.heap.size k D rfl ((hM.kept (((Ext.refl wr).alloc _).grown none) (by simp)).kept (K.grown none) (by simp)) _ _ rfl R ?_;intro c hm gt;rw[hB.out];clear hm gt)|(go_at_call 65;refine (hl.out _).mono ?_;rintro e w4 ⟨rfl,gu⟩;(have gp:=gu.heap go);(have hT:=Q.trans gu))|(at_mapUpdate;refine Uf _ rfl (.tmp 30) (.tmp 33) (.tmp 34) 162 rfl 9 3 Uv underlying162 _ w.heap.size k D rfl (hM.kept (hT.grown none) (by simp)) fa.out _ _ _ rfl rfl R _ [] (plainElem_int underlying3 fd.out) ?_;intro w5 gn hI)|(at_builtin;refine ZH _ rfl (.tmp 35) (.tmp 36) _ rfl (w.heap.size+1) 29 i1 _ 1 24 underlying117 fi fn fo fp rfl (by decide) _ gv.length gv rfl ((((Z.ext hT).kept hI (YW _)).row).alloc _) _ 1 [sN] rfl (Yp rfl (by decide)) (by intro y hy;simp at hy;subst hy;rfl) gD.out gx.out ?_ ?_;(have:=gn.lt;simp;omega);intro v6 w6 S hJ gK))
    obtain ⟨g,cap,fl,h7,h8⟩:=S.form (ZeX _);subst fl;have g2:Ext w w5:=Ext.grown' (B:=0) (hx.trans hT) hI (λb hb=>by cases hb;exact Zb _);have gI:=(Z.ext hT).kept hI (YW _);have hP:gv.length+1=(gv++ [Value.slice none 0 0]).length:=(by simp);have gm:=GrpsC.more (gI.ext ((Ext.refl _).alloc _)) hE.out S hJ;rw[hP] at gm;have ga:=gd gm;have gs:∀b,(Value.slice gA gv.length gC).ownBlock=some b->w.heap.size+1<=b:=λb hb=>(Z.row.lt b hb).1;have hX:=gd ((gn.alloc _).kept hJ (λe=>by have:=gs _ e.symm;omega));have gl:=gd (Ext.grown' (B:=0) (g2.alloc _) hJ (λb hb=>Zv (Yc _) (gs b hb)));have hq:OFcs w6 (w.heap.size+1) sN (grpC (l.take k) F):=(by rw[hE.out];exact OFcs.nil _ _);have hc:=gd hq;have gJ:w.heap.size+1<=w6.heap.size:=hX.out.lt;have gj:=gd gJ;have gq:w5.heap[wr.heap.size]? =some (.cells #[.slice xA xn xc,.string F,.string M,.string U,nI hh,.slice xB xm xd] 55):=(by rw[hI.block wr.heap.size (ZQ w4 ⟨wr.heap.size,0,none⟩ (by rw[Xj _ _ _ _ _ _ gp];rfl)) (by simp;omega)];exact gp);have gL:w6.heap[wr.heap.size]? =some (.cells #[.slice xA xn xc,.string F,.string M,.string U,nI hh,.slice xB xm xd] 55):=(by rw[hJ.block wr.heap.size (by have:wr.heap.size<w5.heap.size:=ZQ w5 ⟨wr.heap.size,0,none⟩ (by rw[Xj _ _ _ _ _ _ gq];rfl);simp;omega) (λe=>by have:=(Z.row.lt _ e.symm).2;omega)];exact ((Ext.refl w5).alloc _).heap gq);have gg:Hid ((firstsC (l.take k)++ [F]).Pairwise (· ≠ ·)):=gd (by
     rw[List.pairwise_append];exact ⟨hZ,by simp,λa ha b hb=>by simp at hb;subst hb;rintro rfl;exact hw.out ha⟩)
    have gc:Hid ((firstsC (l.take k)++ [F])[gv.length]? =some F):=gd (by rw[gz.out];simp);have ge:Hid ((gv++ [Value.slice none 0 0])[gv.length]? =some sN):=gd (by simp);have gi:Hid ((Value.slice none 0 0).ownBlock≠some g):=gd (by intro e;cases e);have gh:Hid ((Value.slice none 0 0).ownBlock≠some w.heap.size):=gd (by intro e;cases e);have hz:=gd (Vr h7 h8);have he:w6.cell? ⟨g,gv.length,none⟩=some sN:=(by rw[S.cellAt gv.length (by omega)];simp);have hL:w6.frozen? ⟨g,gv.length,none⟩=false:=S.frozenAt gv.length;have gY:(gv.length:Int)<((gv.length:Nat):Int)+1:=(by omega);have fv:gv.length<gv.length+1:=(by omega);have gV:(0:Int)<=(gv.length:Int):=(by omega);have hi:Hid ((grpC (l.take k) F).length+1<=1/\True):=gd ⟨by rw[hE.out];simp,trivial⟩;have gf:Hid ((grpC (l.take k) F).length+1<=maxLen):=gd (Zv hi.out.1 (by decide));have gw:Hid (((grpC (l.take k) F).length+1)*104<=140737488355328):=gd (by have:=hi.out.1;omega);clear hi;have hi:=gw;have gB:=gd hP;clear e0 e1 e2 e3 e4 e5;obtain ⟨e0,e1,e2,e3,e4,e5⟩:=Ze7 gL;clear Z gI gm hM gn R a0 a1 a2 a3 a4 a5 K gu Q hT go gp gq gL hI hJ gK S g2 gs hq gJ hP h7 h8 hZ;have gT:g<w6.heap.size:=ZQ w6 _ he;have gM:wr.heap.size<w6.heap.size:=ZQ w6 _ e0
    go_region_law (first|(refine ZU _ (by rfl) (.tmp 43) (.tmp 45) _ (by rfl) (w.heap.size+1) 55 i0 _ 6 104 underlying29 gU g5 g6 g7 rfl (by decide) sN (grpC (l.take k) F).length (flatC (grpC (l.take k) F)) (by rfl) (Yh hc.out (by repeat (first|exact Ext.refl _|apply Ext.drew|apply Ext.alloc))) _ 1 (cellsC ⟨.slice xA xn xc,.slice xB xm xd,⟨ht,F,M,U,hh,hs⟩⟩) (by rfl) (RSl.ext (Yp rfl (by decide)) (by repeat (first|exact Ext.refl _|apply Ext.drew))) (Jf gF.out) gf.out hi.out (Zv gj.out (by simp)) ?_;intro v3 w3 I V hd;(obtain ⟨g3,H,Y,fg⟩:∃g3 H,v3= .slice (some ⟨g3,0,none⟩) ((grpC (l.take k) F).length+1) H/\True:=by (obtain ⟨g3,H,Y,_⟩:=I.form (by omega);exact ⟨g3,H,Y,trivial⟩));subst Y;(have X:=GrpsC.grow' ga.out (Ext.refl _) (by repeat (first|exact Ext.refl _|apply Ext.drew|apply Ext.alloc)) gg.out gc.out ge.out rfl I V hd gi.out);(have hK:=X.1);(have hN:=X.2.1);(have hQ:=(hX.out.kept ((show Ext w6 _ from by repeat (first|exact Ext.refl _|apply Ext.drew|apply Ext.alloc)).grown none) (by simp)).kept V (λe=>gh.out e.symm));(have hS:Ext w w3:=Ext.grown' (B:=0) (Ext.trans gl.out (by repeat (first|exact Ext.refl _|apply Ext.drew|apply Ext.alloc))) V (λb hb=>Zv (Yc _) (hc.out.lt b hb).1))))
    all_goals
     have hf:=X.2.2
     have gb:=gd hf
     have hC:=gd (hQ.setCell (a:=⟨g,gv.length,none⟩) (show w.heap.size≠g by have:=hz.out.1;omega) (.slice (some ⟨g3,0,none⟩) ((grpC (l.take k) F).length+1) H))
     have gk:=gd (hS.setCell (p:=⟨g,gv.length,none⟩) (show w.heap.size<=g by have:=hz.out.1;omega) (.slice (some ⟨g3,0,none⟩) ((grpC (l.take k) F).length+1) H))
     clear X hf hQ hS I V hd hK hN e0 e1 e2 e3 e4 e5 he hL
     go_wp2
     go_roundw
     case rel=>
      have hH:firstsC (l.take (k+1))=firstsC (l.take k)++ [F]:=gy.out.trans (Zg hw.out)
      exact ⟨k+1,(gv++ [Value.slice none 0 0]).set gv.length _,D.put (.string F.data.toList) (.lit (.int .i64 (gv.length:Nat))),hp,by go_num,by rw[hH,gH.out,gB.out];exact gb.out,hC.out,by rw[hH];exact gE.out,gk.out,hC.out.lt⟩
     case measure=>simp[intOf];omega
  ·have fj:k=l.length:=(by omega);subst fj;rw[ZM (Zb _)] at Z hD;have HG:=gd Z;clear Z hD hM hk hp;go_wp2;go_ret;refine ⟨_,gv,rfl,?_,hx⟩;have h1:=HG.out;exact ⟨h1.len,XM h1.row (Yc _),λj s u hj hu=>(h1.each j s u hj hu).mono (Yc _),h1.apart⟩
end
def withE (f:Fd) (l:List Ent):Fd:={f with ents:=l}
theorem Zcq (a b:Fd) (x y:List Ent):laterF (withE a x) (withE b y)=laterF a b:=by
 unfold laterF;rw[show feedKey (withE a x)=feedKey a from rfl,show feedKey (withE b y)=feedKey b from rfl];rw[show (withE a x).upd=a.upd from rfl,show (withE b y).upd=b.upd from rfl];cases laterB (iCmp a.upd b.upd) (feedKey a) (feedKey b)<;>rfl
theorem Zcr (a b:Fd) (x:List Ent):laterF (withE a x) b=laterF a b:=Zcq a b x b.ents
theorem Kg:∀(t:List Fd) (a:Fd) (x z:List Ent),withE (t.foldl laterF (withE a x)) z=withE (t.foldl laterF a) z
 | [],_,_,_=>rfl
 |h::t,a,x,z=>by rw[List.foldl_cons,List.foldl_cons,Zcr]
theorem Zaf:∀(t:List Fd) (g:Fd),ordE.canon g.ents=g.ents->t.foldl joinF g=withE (t.foldl laterF g) (ordE.canon (g.ents++(t.map Fd.ents).flatten))
 | [],g,h=>by
  rw[Yt,List.flatten_nil,Ye,h]
  rfl
 |x::t,g,h=>by
  have A:joinF g x=withE (laterF g x) (ordE.canon (g.ents++x.ents)):=by
   rw[ordE.canon_append,h]
   rfl
  rw[List.foldl_cons,Zaf t (joinF g x) (by rw[A];exact ordE.canon_canon _),A,Kg,List.foldl_cons]
  refine Zy (withE _) ?_
  show ordE.canon (ordE.canon (g.ents++x.ents)++(t.map Fd.ents).flatten)=_
  rw[ordE.canon_append,ordE.canon_canon,<-ordE.canon_append,Ym,ZP,X2]
def jF (l:List Fd) (s:ByteArray):Fd:=(ordF.got l s).getD zeroF
theorem ZdL (l:List Fd):ordF.joined l=(ordF.firsts l).map (jF l):=by
 have D:∀fs:List ByteArray,(∀s∈fs,s∈ordF.firsts l)->fs.filterMap (ordF.got l)=fs.map (jF l):=by
  intro fs
  induction fs with
  |nil=>intro _;rfl
  |cons s t ih=>intro h;obtain ⟨x,F⟩:=(Ord.got_isSome_iff (O:=ordF) l s).2 ((ordF.mem_firsts l s).1 (h s (by simp)));rw[List.filterMap_cons_some F,ZP,ih λs A=>h s (by simp[A])];unfold jF;rw[F];rfl
 exact D _ λs A=>A
theorem Zko {l:List Fd} {s:ByteArray} {x:Fd} {t:List Fd} (h:(l.filter λx=>decide (x.id=s))=x::t) (D:ordE.canon x.ents=x.ents):
 jF l s=withE (t.foldl laterF x) (ordE.canon (x.ents++(t.map Fd.ents).flatten)):=by
 rw[<-Zaf t x D];unfold jF Ord.got;have A:(l.filter λx=>decide (ordF.id x=s))=x::t:=h;rw[A];rfl
section
variable {f:Fd}
theorem Qw:∀(l out:List UInt8) (g:Bool),(collGo l out g).length<=out.length+l.length+(if g=true then 1 else 0)
 | [],out,g=>by simp only[collGo,ZT];omega
 |c::t,out,g=>by
  simp only[collGo]
  by_cases h:isSp c.toNat=true
  ·rw[Zl h]
   have:=Qw t out (!out.isEmpty)
   rw[Ze]
   split at this<;>omega
  ·rw[Zg h]
   have:=Qw t (out++(if g=true then [32] else [])++ [c]) false
   simp only[XN,Zco,Zd,Ze,ZT] at this
   rw[Ze]
   cases g
   ·simp only[XN,Zco,ZT] at this|-;omega
   ·simp only[QE,Ze,ZT] at this|-;omega
theorem Y9 (s:ByteArray):(collapse s).size<=s.size:=by
 unfold collapse coll;rw[YN];have:=Qw s.data.toList [] false;simp only[XN,Zco,ZT] at this;rw[ZL] at this;omega
theorem Zdm {e:Ent} (h:eok e):eok (collE e):=by
 obtain ⟨A,D⟩:=h;refine ⟨A,?_⟩;have a:=Y9 e.id;have b:=Y9 e.title;have c:=Y9 e.link;have d:=Y9 e.content;show (collapse e.id).size+(collapse e.title).size+(collapse e.link).size+(collapse e.content).size<=16777216;omega
theorem ZaD:∀l:List ByteArray,sizes (l.map collapse)<=sizes l
 | []=>Zb _
 |s::t=>by
  have h:=ZaD t
  have a:=Y9 s
  unfold sizes at*
  simp only[ZP,XH] at h|-
  omega
theorem ZiQ (h:fok f):fok (collF f):=by
 obtain ⟨A,D⟩:=h;refine ⟨A,?_⟩;have a:=Y9 f.id;have b:=Y9 f.title;have c:=Y9 f.link;have d:=ZaD f.path;show (f.path.map collapse).length+sizes (f.path.map collapse)+(collapse f.id).size+(collapse f.title).size+(collapse f.link).size<=16777216;rw[Zk];omega
theorem ZbG:∀(t:List Ent) (x:Ent),t.foldl laterE x∈x::t
 | [],x=>by simp
 |y::t,x=>by
  have h:=ZbG t (laterE x y)
  rw[List.foldl_cons]
  rcases ZI.1 h with h|h
  ·rw[h]
   unfold laterE
   split<;>simp
  ·simp[h]
theorem Ze8 {l:List Ent} {x:Ent} (h:x∈ordE.canon l):x∈l:=by
 have A:=((ordE.canon_is l).2 x).1 h;unfold Ord.got at A;cases hf:l.filter λy=>decide (ordE.id y=ordE.id x) with
 |nil=>rw[hf] at A;cases A
 |cons y t=>
  rw[hf] at A;have F:t.foldl laterE y=x:=by unfold Ord.fold1 at A;injection A
  have D:=ZbG t y;rw[F,<-hf] at D;exact (Xb.1 D).1
section
variable {α κ:Type} (O:Ord α κ)
theorem Zgs:∀(l:List α) (e:α),(O.ins l e).length=l.length+1
 | [],_=>rfl
 |x::t,e=>by
  unfold Ord.ins
  split
  ·rfl
  ·rw[Ze,Zgs t e,Ze]
end
section
variable {α κ:Type} [DecidableEq κ] (O:Ord α κ)
theorem ZkB (l:List α) (e:α):(O.put l e).length<=l.length+1:=by
 unfold Ord.put;rw[Zgs,O.scan_fst];have:=List.length_filter_le (λx=> !decide (O.id x=O.id e)) l;omega
theorem VU:∀(l s:List α),(l.foldl O.put s).length<=s.length+l.length
 | [],s=>by simp
 |x::t,s=>by
  have h:=VU t (O.put s x)
  have:=ZkB O s x
  rw[List.foldl_cons,Ze]
  omega
theorem KL (l:List α):(O.canon l).length<=l.length:=by
 have:=VU O l [];unfold Ord.canon;simpa using this
end
theorem Zai {a b:Fd} (h:fok a) (A:fok b):fok (laterF a b):=by
 unfold laterF;cases laterB (iCmp a.upd b.upd) (feedKey a) (feedKey b)
 ·exact h
 ·exact A
theorem ZbD:∀(t:List Fd) (x:Fd),fok x->(∀y∈t,fok y)->fok (t.foldl laterF x)
 | [],_,h,_=>h
 |y::t,x,h,ht=>ZbD t _ (Zai h (ht y (by simp))) λz A=>ht z (by simp[A])
def fokS (f:Fd):Prop:=fok f/\f.ents.length<=1000000/\∀e∈f.ents,eok e
theorem ZbB (h:fokS f):fokS (collF f):=by
 refine ⟨ZiQ h.1,?_,λe A=> ?_⟩
 ·show (ordE.canon (f.ents.map collE)).length<=1000000;have:=KL ordE (f.ents.map collE);rw[Zk] at this;have:=h.2.1;omega
 ·obtain ⟨x,D,rfl⟩:=ZO.1 (Ze8 (show e∈ordE.canon (f.ents.map collE) from A));exact Zdm (h.2.2 x D)
end
section
variable {B c cap g i n:Nat} {W w w1:World} {v:Value} {z:ByteArray}
theorem ZbX:∀(l:List (Addr×ByteArray)) (w:Wq) (p:Addr×ByteArray) (u:Value),p∈l->(l.Pairwise λp q=>p.1≠q.1)->w.cell? p.1=some u->(setS w l).cell? p.1=some (.string p.2)
 | [],_,_,_,h,_,_=>by simp at h
 |q::t,w,p,u,h,hap,hu=>by
  have A:=XO.1 hap
  rcases ZI.1 h with h|h
  ·subst h
   rw[setS,U1 t _ _ λr F=>(A.1 r F).symm]
   exact Jo _ _ _ hu
  ·have D:q.1≠p.1:=A.1 p h
   rw[setS]
   exact ZbX t _ p u h A.2 (by rw[ZZ w q.1 p.1 _ D];exact hu)
theorem Ext.setS {a:Wq}:∀(l:List (Addr×ByteArray)) {b:Wq},Ext a b->(∀p∈l,a.heap.size<=p.1.block)->Ext a (setS b l)
 | [],_,h,_=>h
 |p::t,b,h,hl=>Ext.setS t (h.setCell (hl p (by simp)) _) λq A=>hl q (by simp[A])
def ptrsAt (g:Nat):Nat->List ByteArray->List (Addr×ByteArray)
 |_,[]=> []
 |i,s::t=>(⟨g,i,none⟩,s)::ptrsAt g (i+1) t
theorem V4 (g:Nat):∀(l:List ByteArray) (i:Nat),(ptrsAt g i l).length=l.length
 | [],_=>rfl
 |s::t,i=>by rw[ptrsAt,Ze,V4 g t,Ze]
theorem VZ (g:Nat):∀(l:List ByteArray) (i k:Nat),(ptrsAt g i l)[k]? =l[k]?.map λs=>(⟨g,i+k,none⟩,s)
 | [],_,_=>by simp[ptrsAt]
 |s::t,i,0=>by simp[ptrsAt]
 |s::t,i,k+1=>by
  rw[ptrsAt,List.getElem?_cons_succ,VZ g t,List.getElem?_cons_succ]
  rw[show i+1+k=i+(k+1) by omega]
theorem UX {l:List ByteArray} {p:Addr×ByteArray} (h:p∈ptrsAt g i l):∃k s,l[k]? =some s/\p=(⟨g,i+k,none⟩,s):=by
 obtain ⟨k,A⟩:=List.mem_iff_getElem?.1 h;rw[VZ] at A;cases hl:l[k]? with
 |none=>rw[hl] at A;cases A
 |some s=>rw[hl] at A;injection A with A;exact ⟨k,s,hl,A.symm⟩
theorem Zaq (g:Nat):∀(l:List ByteArray) (i:Nat),(ptrsAt g i l).map (·.2)=l
 | [],_=>rfl
 |s::t,i=>by rw[ptrsAt,ZP,Zaq g t]
theorem Zap (g:Nat) (h:ByteArray->ByteArray):∀(l:List ByteArray) (i:Nat),(ptrsAt g i l).map (λp=>(p.1,h p.2))=ptrsAt g i (l.map h)
 | [],_=>rfl
 |s::t,i=>by rw[ptrsAt,ZP,Zap g h t,ZP,ptrsAt]
theorem Ks (g:Nat):∀(l:List ByteArray) (i:Nat),(ptrsAt g i l).Pairwise λp q=>p.1≠q.1
 | [],_=>List.Pairwise.nil
 |s::t,i=>by
  rw[ptrsAt,XO]
  refine ⟨λp h=> ?_,Ks g t _⟩
  obtain ⟨k,s,_,rfl⟩:=UX h
  intro e
  have e':=Zy Addr.off e
  simp only at e'
  omega
def ptrsF (g b:Nat) (l:List ByteArray) (x y z:ByteArray):List (Addr×ByteArray):=ptrsAt g 0 l++ [(⟨b,1,none⟩,x),(⟨b,2,none⟩,y),(⟨b,3,none⟩,z)]
theorem ZhT (g b:Nat) (l:List ByteArray) (x y z:ByteArray):(ptrsF g b l x y z).length=l.length+3:=by unfold ptrsF;rw[Zd,V4];rfl
theorem It (g b:Nat) (l:List ByteArray) (x y z:ByteArray):(ptrsF g b l x y z).map (·.2)=l++ [x,y,z]:=by unfold ptrsF;rw[ZK,Zaq];rfl
theorem ZhU (g b:Nat) (h:ByteArray->ByteArray) (l:List ByteArray) (x y z:ByteArray):(ptrsF g b l x y z).map (λp=>(p.1,h p.2))=ptrsF g b (l.map h) (h x) (h y) (h z):=by unfold ptrsF;rw[ZK,Zap];rfl
theorem IV {b:Nat} (h:g≠b) (l:List ByteArray) (x y z:ByteArray):(ptrsF g b l x y z).Pairwise λp q=>p.1≠q.1:=by
 unfold ptrsF;rw[List.pairwise_append];refine ⟨Ks g l 0,by simp,λp D q A=> ?_⟩;obtain ⟨k,s,_,rfl⟩:=UX D;simp only[ZI,Yg,Xx] at A;intro e;have e':=Zy Addr.block e;rcases A with rfl|rfl|rfl<;>exact h e'
theorem ZbV {b:Nat} {l:List ByteArray} {x y:ByteArray} {p:Addr×ByteArray} (h:p∈ptrsF g b l x y z):p.1.block=g\/p.1.block=b:=by
 unfold ptrsF at h;rcases Zu.1 h with h|h
 ·obtain ⟨k,s,_,rfl⟩:=UX h;exact Or.inl rfl
 ·simp only[ZI,Yg,Xx] at h;rcases h with rfl|rfl|rfl<;>exact Or.inr rfl
theorem ZhV {b:Nat} {A:Option Addr} {l:List ByteArray} {x y x0 y0 z0:ByteArray} {p e t:Value} {ll:List ByteArray} (H:g≠b) (hl:ll.length=l.length)
 (hA:0<l.length->A=some ⟨g,0,none⟩) (hr:RStrs w (.slice A l.length cap) ll)
 (V:w.cell? ⟨b,0,none⟩=some p) (X:w.cell? ⟨b,1,none⟩=some (.string x0)) (Y:w.cell? ⟨b,2,none⟩=some (.string y0)) (Z:w.cell? ⟨b,3,none⟩=some (.string z0)) (h4:w.cell? ⟨b,4,none⟩=some t) (h5:w.cell? ⟨b,5,none⟩=some e)
 (U:Ext (setS w (ptrsF g b l x y z)) w1):
 RStrs w1 (.slice A l.length cap) l/\w1.cell? ⟨b,0,none⟩=some p/\w1.cell? ⟨b,1,none⟩=some (.string x)/\w1.cell? ⟨b,2,none⟩=some (.string y)/\w1.cell? ⟨b,3,none⟩=some (.string z)/\w1.cell? ⟨b,4,none⟩=some t/\w1.cell? ⟨b,5,none⟩=some e:=by
 have R:=IV H l x y z;have F:∀(i:Nat) (u:Value),(i=0\/i=4\/i=5)->w.cell? ⟨b,i,none⟩=some u->w1.cell? ⟨b,i,none⟩=some u:=by
  intro i u hi h;refine U.cell ?_;rw[U1 _ _ _ λq D=> ?_]
  ·exact h
  ·unfold ptrsF at D;rcases Zu.1 D with D|D
   ·obtain ⟨k,s,_,rfl⟩:=UX D;intro e;exact H (Zy Addr.block e)
   ·simp only[ZI,Yg,Xx] at D;intro e;have e':=Zy Addr.off e;rcases D with rfl|rfl|rfl<;>simp only at e'<;>omega
 have J:∀(q:Addr×ByteArray) (u:Value),q∈ptrsF g b l x y z->w.cell? q.1=some u->w1.cell? q.1=some (.string q.2):=λq u D h=>U.cell (ZbX _ _ q u D R h);refine ⟨?_,F 0 p (Or.inl rfl) V,J (⟨b,1,none⟩,x) _ (by simp[ptrsF]) X,J (⟨b,2,none⟩,y) _ (by simp[ptrsF]) Y,J (⟨b,3,none⟩,z) _ (by simp[ptrsF]) Z,F 4 t (Or.inr (Or.inl rfl)) h4,F 5 e (Or.inr (Or.inr rfl)) h5⟩;obtain ⟨q1,A',c',e1,q2,q3,q4,q5⟩:=hr;injection e1 with e1 e2 e3;subst e1 e3;refine ⟨by simp,A,cap,rfl,by omega,q3,q4,λj u h=> ?_⟩;rw[Ys] at h;cases hlj:l[j]? with
 |none=>rw[hlj] at h;cases h
 |some s=>
  rw[hlj] at h;injection h with h;subst h;have hb:j<l.length:=(ZN.1 hlj).1;have K:=hA (by omega);subst K;refine ⟨_,rfl,?_⟩;have I:j<ll.length:=by omega
  obtain ⟨ad,M,S⟩:=q5 j (.string ll[j]) (by rw[Ys,Zj I];rfl);injection M with M;subst M;have Q:(⟨g,0,none⟩:Addr).add j=⟨g,j,none⟩:=by unfold Addr.add;split<;>simp_all
  rw[Q] at S|-;refine J (⟨g,j,none⟩,s) _ ?_ S;unfold ptrsF;refine XR _ (List.mem_iff_getElem?.2 ⟨j,?_⟩);rw[VZ,hlj];simp
theorem Ql:∀(l:List (Addr×ByteArray)) (w:Wq) (k:Nat),(∀p∈l,p.1.block≠k)->(setS w l).heap[k]? =w.heap[k]?
 | [],_,_,_=>rfl
 |p::t,w,k,h=>by
  rw[setS,Ql t _ k λq A=>h q (by simp[A])]
  simp only[World.setCell,Xk]
  rw[Zg (h p (by simp))]
theorem Yo (w:Wq) (a:Addr) (v:Value):w.grownBy (w.setCell a v) (some a.block):=
 ⟨rfl,rfl,rfl,by simp[World.setCell],λk _ h=>ZY w a k v λe=>h (by rw[e])⟩
theorem Yv (w:Wq) (g:Nat) (cs:Array Value):w.grownBy (w.setRow g cs) (some g):=
 ⟨rfl,rfl,rfl,by simp[World.setRow],λk _ h=>Z1 w g k cs λe=>h (by rw[e])⟩
theorem ZiP {b:Nat} {A:Option Addr} {l:List ByteArray} {x y:ByteArray} (I:g≠b) (V:0<l.length->A=some ⟨g,0,none⟩)
 (D:W.ownsRow B 9 1 (.slice A l.length cap) l.length (l.map Value.string))
 (R:W.cell? ⟨b,1,none⟩=some (.string x)) (S:W.cell? ⟨b,2,none⟩=some (.string y)) (U:W.cell? ⟨b,3,none⟩=some (.string z)) (K:W.frozen? ⟨b,1,none⟩=false) (M:W.frozen? ⟨b,2,none⟩=false) (Q:W.frozen? ⟨b,3,none⟩=false)
 (Y:∀s∈l++ [x,y,z],s.size<=16777216) (F:RSl W 1 v (l.length+3) ((ptrsF g b l x y z).map λp=>Value.pointer (some p.1))):Ptrs W v (ptrsF g b l x y z):=by
 refine ⟨by rw[ZhT];exact F,λp h=> ?_,λp h=> ?_,IV I l x y z⟩
 ·unfold ptrsF at h;rcases Zu.1 h with h|h
  ·obtain ⟨k,s,J,rfl⟩:=UX h;have X:k<l.length:=(ZN.1 J).1;have H:=V (by omega);subst H;have Z:0+k=k:=(by omega);simp only[Z];refine ⟨?_,D.frozenAt k⟩;rw[D.cellAt k (by omega),Ys,J];rfl
  ·simp only[ZI,Yg,Xx] at h;rcases h with rfl|rfl|rfl
   ·exact ⟨R,K⟩
   ·exact ⟨S,M⟩
   ·exact ⟨U,Q⟩
 ·refine Y _ ?_;have:p.2∈(ptrsF g b l x y z).map (·.2):=ZO.2 ⟨p,h,rfl⟩
  rwa [It] at this
theorem Zeh (g:Nat) (l:List ByteArray) (k:Nat) (A:k<l.length):((ptrsAt g 0 l).take (k+1)).map (λp=>Value.pointer (some p.1))=((ptrsAt g 0 l).take k).map (λp=>Value.pointer (some p.1))++ [.pointer (some ⟨g,k,none⟩)]:=by
 have h:k<(ptrsAt g 0 l).length:=by rw[V4];exact A
 rw[Zq h,ZK];have e:=VZ g l 0 k;rw[Zj h,Zj A] at e;injection e with e;rw[e];simp
theorem Zdn:∀(l:List Ent) (k:Nat) (A:k<l.length),(∀e∈l.take k,errE e=0)->errE l[k]≠0->errEs l=errE l[k]
 | [],k,A,_,_=>by simp at A
 |e::t,0,_,_,h=>by simp only[errEs];rw[Zg (by simpa using h)];rfl
 |e::t,k+1,A,h,h2=>by
  simp only[errEs]
  rw[Zl (h e (by simp)),Zdn t k (by simpa using A) (λx D=>h x (by simp[D])) (by simpa using h2)]
  rfl
theorem JT {A:Option Addr} {l:List ByteArray} (x:ByteArray) (U:n=l.length) (M:0<l.length->A=some ⟨g,0,none⟩) (h:RStrs w (.slice A n c) l) (Q:l.length<=9223372036854775807):
 Calls prog 104 #[.slice A n c,.string x] w λe w'=>e= .returned (.bool (l.any λs=>decide (s=x)))/\w'=w:=by
 subst U;rcases YP l.length with F|F
 ·have S:=ZF F;subst S;exact slices_Contains_string_empty A c x w
 ·have H:=M F;subst H;have R:∀j,j<l.length->w.cell? ⟨g,0+j,none⟩=some (.string (l.getD j ByteArray.empty)):=by intro j K;obtain ⟨_,X,Y,e,_,_,_,q⟩:=h;injection e with e1 e2 e3;subst e1;obtain ⟨ad,I,D⟩:=q j (.string l[j]) (by rw[Ys,Zj K];rfl);injection I with I;subst I;have J:(⟨g,0,none⟩:Addr).add j=⟨g,0+j,none⟩:=(by unfold Addr.add;split<;>simp_all);rw[J] at D;rw[D,Z0,Zj K];rfl
  refine (slices_Contains_string g 0 l.length c l x w (Zb _) Q R).mono ?_;rintro e w' ⟨rfl,rfl⟩;refine ⟨?_,rfl⟩;rw[ZM (Zb _)];refine Zy (λb=>Ending.returned (.bool b)) ?_;rw[Y4,Lib.containsS_iff,Xu];constructor
  ·intro h;exact ⟨x,h,by simp⟩
  ·rintro ⟨s,V,e⟩;have e':s=x:=(by simpa using e);rw[<-e'];exact V
end
section
variable {B B' c g i:Nat} {b w:World} {l:List Fc} {r:Option Nat} {u v:Value} {x:Fc}
theorem Iw:prog.underlying 29=some (.slice (prog.elem 29)):=by kernel_rfl
theorem Zaw (w:Wq):(Go.sizeOf (prog.elem 29)).run prog w= .ok 6 w:=by kernel_rfl
theorem E3 (x:Fc) (t:List Fc):flatC (x::t)=cellsC x++flatC t:=by unfold flatC;simp
theorem UI:∀l:List Fc,(flatC l).length=l.length*6
 | []=>rfl
 |x::t=>by rw[E3,Zd,UI t,Zfb,Ze];omega
theorem ZlG {A:Option Addr} {t:List Fc} (h:RFcs w (.slice A (t.length+1) c) (x::t)):
 ∃v',(∀H:Wq,(Instr.slice 29 (.slice A (t.length+1) c) (some (nI 1)) none none).run prog H= .ok v' H)/\RFcs w v' t:=by
 refine ⟨sliced A 1 (t.length+1) c 6,λH=> ?_,?_⟩
 ·rw[run_slice_l (P:=prog) (w:=H) 29 A (t.length+1) c Iw .i64 1 (by omega) (by omega)];rw[Zaw];rfl
 ·obtain ⟨Y,V,X,e,M,J,Q,R⟩:=h;injection e with e1 e2 e3;subst e1 e3;clear e2;have D:∀j u,(flatC t)[j]? =some u->∃ad,A=some ad/\w.cell? (ad.add (6+j))=some u:=by intro j u F;refine R (6+j) u ?_;rw[E3,Yr (by show 6<=6+j;omega)];simpa [cellsC,fCells] using F
  unfold sliced;have Z:t.length+1<=c:=by simpa using M
  refine ⟨UI t,?_⟩;by_cases S:c=1
  ·have U:t= []:=ZF (by omega);subst U;exact ⟨_,_,rfl,by simp,Zv (Jk _ _) J,λ_=>by omega,λj u F=>by simp[flatC] at F⟩
  ·cases A with
   |none=>have:=Q rfl;omega
   |some ad=>refine ⟨some (ad.add 6),c - 1,by rw[Zg S];rfl,by omega,Zv (Jk _ _) J,(λe=>by cases e),λj u F=>⟨_,rfl,?_⟩⟩;obtain ⟨K,e,I⟩:=D j u F;injection e with e;subst e;rw[UH];exact I
theorem ZiT (l:List Fc) (s:ByteArray):(grpC l s).map Fc.f=(l.map Fc.f).filter λf=>decide (f.id=s):=by
 unfold grpC;rw[List.filter_map];rfl
theorem Zhc {s:ByteArray} (h:s∈firstsC l):∃x t,grpC l s=x::t:=by
 obtain ⟨x,A,e⟩:=(IU l s).1 h;have:x∈grpC l s:=by unfold grpC;exact Xb.2 ⟨A,by simpa using e⟩
 cases hg:grpC l s with
 |nil=>rw[hg] at this;simp at this
 |cons y t=>exact ⟨y,t,rfl⟩
def hdF (x:Fc) (t:List Fc):Fd:=(t.map Fc.f).foldl laterF x.f
def enF (x:Fc) (t:List Fc):List Ent:=x.f.ents++((t.map Fc.f).map Fd.ents).flatten
theorem ZiW (x:Fc) (t:List Fc) (y:Fc):hdF x (t++ [y])=laterF (hdF x t) y.f:=by unfold hdF;rw[ZK,List.foldl_append];rfl
theorem ZiI (x:Fc) (t:List Fc) (y:Fc):enF x (t++ [y])=enF x t++y.f.ents:=by unfold enF;simp
theorem Zlb {s:ByteArray} {t:List Fc} (h:grpC l s=x::t) (A:ordE.canon x.f.ents=x.f.ents):jF (l.map Fc.f) s=withE (hdF x t) (ordE.canon (enF x t)):=by
 refine Zko (l:=l.map Fc.f) (x:=x.f) (t:=t.map Fc.f) ?_ A;rw[<-ZiT,h];rfl
theorem Zgp (x:Fc) (t:List Fc) (A:fok x.f) (h:∀y∈t,fok y.f):fok (hdF x t):=ZbD _ _ A λy D=>by
 obtain ⟨z,F,rfl⟩:=ZO.1 D;exact h z F
theorem Zkc {t:List Fc} (H:∀e∈x.f.ents,eok e) (F:∀y∈t,∀e∈y.f.ents,eok e):∀e∈enF x t,eok e:=by
 intro e h;unfold enF at h;rcases Zu.1 h with h|h
 ·exact H e h
 ·obtain ⟨l,D,h⟩:=ZkW.1 h;obtain ⟨f,A,rfl⟩:=ZO.1 D;obtain ⟨y,I,rfl⟩:=ZO.1 A;exact F y I e h
def allE (l:List Fc):Nat:=(l.map λx=>x.f.ents.length).sum
theorem Kd:∀(t:List Fc) (x:Fc),(enF x t).length=allE (x::t)
 | [],x=>by unfold enF allE;simp
 |y::t,x=>by
  have h:=Kd t x
  unfold enF allE at*
  simp only[ZP,X2,Zd,XH] at h|-
  omega
theorem Qp (p:Fc->Bool):∀l:List Fc,allE (l.filter p)<=allE l
 | []=>Zb _
 |x::t=>by
  have h:=Qp p t
  unfold allE at*
  by_cases A:p x=true
  ·rw[List.filter_cons_of_pos A];simp only[ZP,XH];omega
  ·rw[List.filter_cons_of_neg A];simp only[ZP,XH];omega
theorem Zbf (h:RdC w x) (A:∀q,r=some q->w.heap.size<=q):awayC x r:=by
 cases r with
 |none=>exact GF h
 |some q=>exact QU h (A q rfl)
theorem Za6 (w:Wq) (g i:Nat) (u v:Value):(w.setCell ⟨g,i,none⟩ u).setCell ⟨g,i,none⟩ v=w.setCell ⟨g,i,none⟩ v:=by
 unfold World.setCell
 congr 1
 apply Array.ext_getElem?;intro k;simp only[Xk];by_cases h:g=k
 ·rw[Zl h,Zl h,Zl h,Option.map_map]
  congr 1
  funext o;cases o<;>simp
 ·rw[Zg h,Zg h,Zg h]
theorem ZcQ (w:Wq) (g i:Nat) (v:Value) (h:w.cell? ⟨g,i,none⟩=some v):w.setCell ⟨g,i,none⟩ v=w:=by
 have H:(w.setCell ⟨g,i,none⟩ v).heap=w.heap:=by
  apply Array.ext_getElem?;intro k;by_cases F:k=g
  ·subst F;cases ho:w.heap[k]? with
   |none=>simp[World.setCell,Xk,ho]
   |some o=>
    cases o with
    |cells c e fr=>
     have A:c[i]? =some v:=(by rw[Xj _ _ _ _ _ _ ho] at h;exact h);have e1:c.setIfInBounds i v=c:=by
      apply Array.ext_getElem?;intro j;rw[Array.getElem?_setIfInBounds];by_cases D:i=j
      ·subst D;rw[Zl rfl,Zl (Zx.1 A).1,A]
      ·rw[Zg D]
     rw[setCell_eq_setRow w k i c e fr v ho,Zp w k c _ e fr ho,e1]
    |_=>simp[World.setCell,Xk,ho]
  ·exact ZY w ⟨g,i,none⟩ k v F
 have e2:w.setCell ⟨g,i,none⟩ v={w with heap:=(w.setCell ⟨g,i,none⟩ v).heap}:=rfl;rw[e2,H]
theorem HFs.setCell (h:HFs w B v l) (F:g<B) (D:∀x∈l,awayC x (some g)):HFs (w.setCell ⟨g,i,none⟩ u) B v l:=
 ⟨Vx h.row (a:=⟨g,i,none⟩) (λe=>absurd (h.row.lt _ e).1 (show ¬B<=g by omega)) u,λx A=>(h.rd x A).grown (Yo w ⟨g,i,none⟩ u) (D x A),h.away⟩
theorem HFs.setRow (h:HFs w B v l) (H:g<B) (D:B'<=B) (F:∀x∈l,awayC x (some g)) (cs:Array Value):HFs (w.setRow g cs) B' v l:=
 ⟨XM (Jv h.row H cs) D,λx A=>(h.rd x A).grown (Yv w g cs) (F x A),h.away⟩
theorem Zcn (w:Wq) (p:Addr) (v:Value) (O:Obj):((w.setCell p v).alloc O).heap[w.heap.size]? =some O:=by
 have:=Zf (w.setCell p v) O
 rwa [show (w.setCell p v).heap.size=w.heap.size by simp[World.setCell]] at this
theorem Zbe (h:RdC w x) (A:∀q,r=some q->awayC x (some q)):awayC x r:=by
 cases r with
 |none=>exact GF h
 |some q=>exact A q rfl
theorem Zci {a:Wq} (h:Ext (a.setCell ⟨g,i,none⟩ u) b):Ext (a.setCell ⟨g,i,none⟩ v) (b.setCell ⟨g,i,none⟩ v):=by
 have D:Below a.heap.size (a.setCell ⟨g,i,none⟩ u) b:=by
  have e:(a.setCell ⟨g,i,none⟩ u).heap.size=a.heap.size:=by simp[World.setCell]
  unfold Ext at h
  rwa [e] at h
 have A:=Ext.setBoth D ⟨g,i,none⟩ v;rw[Za6] at A;have e2:(a.setCell ⟨g,i,none⟩ v).heap.size=a.heap.size:=by simp[World.setCell]
 unfold Ext;rw[e2];exact A
end
end Go.Proofs.YtnlafkgkcnenfaaGreatDoor
