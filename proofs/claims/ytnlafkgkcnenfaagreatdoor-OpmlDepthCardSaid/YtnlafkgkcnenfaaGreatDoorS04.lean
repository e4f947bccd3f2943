/- Parts of the proof: contracts and plain laws. -/
import Derived.Test.YtnlafkgkcnenfaaGreatDoorS03
namespace Go.Proofs.YtnlafkgkcnenfaaGreatDoor
open Go Go.RowKit Go.WideMaps Go.Maps Tryz
set_option linter.unusedVariables false
set_option linter.unusedSimpArgs false
set_option maxRecDepth 100000
set_option maxHeartbeats 16000000
section
variable {B B' cap g i n:Nat} {e:TypeId} {fs:List ByteArray} {gv xs:List Value} {u u' v:Value} {w w1 w2:World}
theorem ZgI (e:Ent) (w:Wq):Calls prog 111 #[.agg (eCells e).toArray] w λx w'=>x= .returned (.string e.id)/\Ext w w':=by
 unfold eCells;go_enter func111,ntmps111;go_wp2;go_ret;exact ⟨rfl,(Ext.refl _).alloc _⟩
theorem Ur:Keyed prog 9:=string_keyed underlying9
theorem IU (w:Wq):(zeroValue 3).run prog w= .ok (nI 0) w:=by kernel_rfl
theorem Zix:(prog.info? 53).map (λi=>(i.zero,i.size,i.bytes))=some (some sN,1,24):=by kernel_rfl
theorem Eo (l:List Ent):(ordE.firsts l).length<=l.length:=by
 suffices h:∀(n:Nat) (l:List Ent),l.length=n->(ordE.firsts l).length<=l.length from h _ l rfl
 intro n
 induction n with
 |zero=>intro l q;rw[Zw q];exact Zb _
 |succ n ih=>
  intro l q;obtain ⟨l',e,rfl⟩:∃l' e,l=l'++ [e]:=by
   rcases List.eq_nil_or_concat l with h|⟨l',e,h⟩
   ·subst h;simp at q
   ·exact ⟨l',e,by simpa using h⟩
  have:=ih l' (by simpa using q);rw[ordE.firsts_snoc];split<;>simp<;>omega
theorem Zf1 (l:List Ent) (s:ByteArray):(grp l s).length<=l.length:=List.length_filter_le _ _
theorem XM {size:Nat} (h:w.ownsRow B e size v n xs) (H:B'<=B):w.ownsRow B' e size v n xs:=by
 refine ⟨h.1,?_⟩;rcases h.2 with A|⟨g,cap,q,D,A,F⟩
 ·exact Or.inl A
 ·exact Or.inr ⟨g,cap,q,D,Zu H A,F⟩
theorem Grps.grow' {U:Wq} {l:List Ent} {x:Ent} {s:ByteArray}
 (h:Grps w1 B (.slice (some ⟨g,0,none⟩) gv.length cap) l fs gv) (_hx0:Ext U w1) (S:Ext w1 w) (H:fs.Pairwise (· ≠ ·)) (Q:fs[i]? =some s) (I:gv[i]? =some u) (J:ordE.id x=s)
 (D:w2.ownsRow B 76 5 u' ((grp l s).length+1) (flatE (grp l s)++eCells x)) (K:w.grownBy w2 u.ownBlock) (F:u'.ownBlock=u.ownBlock\/u'.ownBlock=some w.heap.size) (A:u.ownBlock≠some g):
 w2.cell? ⟨g,i,none⟩=some u/\w2.frozen? ⟨g,i,none⟩=false/\Grps (w2.setCell ⟨g,i,none⟩ u') B (.slice (some ⟨g,0,none⟩) gv.length cap) (l++ [x]) fs (gv.set i u'):=by
 have M:=h.ext S;have q:=M.row.kept K (Or.inr λe=>A e.symm);have R:i<gv.length:=(ZM.1 I).1;refine ⟨by rw[q.cellAt i (by omega)];exact I,q.frozenAt i,M.grow H Q I J D K ?_ A⟩;rcases F with e|e
 ·exact Or.inl e
 ·exact Or.inr ⟨_,Zb _,e⟩
theorem ZdA (v:Value) (l:List Ent) (w:Wq) (h:REnts w v l) (gS:∀x∈l,x.id.size<=16777216) (hn:l.length<=1000000):
 Calls prog 110 #[v,.func (.func 111) #[] #[]] w λx w'=>∃v' gv,x= .returned v'/\Grps w' w.heap.size v' l (ordE.firsts l) gv/\Ext w w':=by
 obtain ⟨i0,gN,gX,gY,gZ⟩:=Yw G9;obtain ⟨i1,fb,fg,fh,fi⟩:=Yw Zix;obtain ⟨A,c,rfl,fd,fa⟩:=h.form;have fr:= @run_makeMap prog;have g5:=gd gS;clear fd fa gS;go_enter func110,ntmps110;go_wp2;go_loopw [6,14] (λo i wr=>∃(k:Nat) (gv:List Value) (D:DataW Unit),k<=l.length/\i=nI k/\Grps wr (w.heap.size+1) o (l.take k) (ordE.firsts (l.take k)) gv/\wr.ownsMap prog 9 (plainElem prog 3) w.heap.size k D/\Hid (IdxMap D (ordE.firsts (l.take k)))/\Ext w wr/\w.heap.size+1<=wr.heap.size) (λ_ i _=>l.length - (intOf i).toNat)
 case atStart=>exact ⟨0,[],.map [],Zk _,rfl,Grps.nil _ _,World.ownsMap_made _ _ _ _,IdxMap.nil,(Ext.refl _).alloc _,by simp⟩
 case round=>
  obtain ⟨k,gv,D,hk,rfl,Z,hM,hD,hx,hws⟩:=hrel;by_cases ht:k<l.length
  ·obtain ⟨ad,c',hv,hm⟩:=(h.ext hx).at ht;injection hv with hv1 hv2 Y;subst hv1;clear hv2 Y;have ff:=g5.out l[k] (ZL ht);have hU:=Zx ht;have hS:=ordE.firsts_snoc (l.take k) l[k];rw[<-hU] at hS;have gm:=Eo (l.take k);rw[ZD] at gm;have hs:=Z.len;have hT:=ordE.firsts_nodup (l.take k);obtain ⟨x,gW⟩:∃x,l[k]=x:=⟨_,rfl⟩;rw[gW] at hm ff hU hS;have gy:=gd hU;have gs:=gd hS;clear hU hS gW;have hK:=Zf1 (l.take k) x.id;rw[ZD] at hK;have R:keyOf prog 9 (.string x.id)=some (.string x.id.data.toList):=keyOf_string_mk underlying9 (by unfold maxLen;omega);have hl:=gd (λw'=>ZgI x w');have fl:(0:Int)<=(k:Int):=(by omega);have fq:(k:Int)<(l.length:Int):=(by omega);have hB:=hD.out.2 x.id;obtain ⟨a0,a1,a2,a3,a4⟩:=hm;by_cases J:x.id∈ordE.firsts (l.take k)
   ·have hg:Maps.has D (.string x.id.data.toList)=true:=hB.1.2 J;obtain ⟨j,hj⟩:=List.mem_iff_getElem?.1 J;have gP:=hB.2 j hj;have gQ:j<gv.length:=(by rw[hs];exact (ZM.1 hj).1);have g1:=gd gP;have hw:=gd hg;have hq:=gd J;obtain ⟨g,cap,ho,hW⟩:∃g cap,(_:Value)= .slice (some ⟨g,0,none⟩) gv.length cap/\gv.length<=maxLen:=by
     rcases Z.row.2 with ⟨h1,h2⟩|⟨g,cap,fp,h1,_,_,h4,h5,_⟩
     ·omega
     ·exact ⟨g,cap,h1,Zu h4 h5⟩
    subst ho;obtain ⟨u,hu⟩:∃u,gv[j]? =some u:=⟨_,Zr gQ⟩;have hp:=Z.each j x.id u hj hu;have gJ:wr.cell? ⟨g,j,none⟩=some u:=(by rw[Z.row.cellAt j (by omega)];exact hu);have gK:=Z.row.frozenAt j;have gI:=Z.row.lt g rfl;have hZ:u.ownBlock≠some g:=by
     intro e;rcases hp.2 with ⟨rfl,_⟩|⟨b',c',fk,rfl,_,g8,_⟩
     ·cases e
     ·rcases Z.row.2 with ⟨h2,_⟩|⟨g',fo,g7,h2,_,gH,_⟩
      ·cases h2
      ·cases h2;cases e;rw[g8] at gH;simp at gH
    have gT:u.ownBlock≠some w.heap.size:=(by intro e;have:=(hp.lt _ e).1;omega);have g4:=gd hp;have h8:=gd hu;have h7:=gd hj;have gc:=gd hZ;have gb:=gd gT;have hr:=gd gI;have gR:(j:Int)<(gv.length:Int):=(by omega);have gO:(0:Int)<=(j:Int):=(by omega);have hi:Hid (((grp (l.take k) x.id).length+1)*72<=140737488355328):=gd (by omega);have h9:Hid ((grp (l.take k) x.id).length+1<=maxLen):=gd (by unfold maxLen;omega);have gL:gv.length<=9223372036854775807:=(by omega);have gt:=gd hs;have fj:=gd hW;clear gP hg J hB hp hu hj hZ gT gI hs hW gQ hK gm;obtain ⟨q,K,U,H,hh⟩:=x;simp only at a0 a1 a2 a3 a4 R;unfold eCells at hl;dsimp only at hl
    go_wp2_with (first|(go_at_call 111;refine (hl.out _).mono ?_;rintro e w2 ⟨rfl,M⟩;(have e0:=M.boxed 0 _ rfl);(have e1:=M.boxed 1 _ rfl);(have e2:=M.boxed 2 _ rfl);(have e3:=M.boxed 3 _ rfl);(have e4:=M.boxed 4 _ rfl);(have Q:=(((Ext.refl wr).alloc _).trans M));(have he:=Q.cell gJ);(have hI:=(Jo Q hr.out.2).trans gK))|(at_lookup;refine wpList_lookup_own_ok_int _ rfl (.tmp 19) (.tmp 22) _ rfl 9 3 .i64 Ur underlying162 underlying3 (IU _) w.heap.size k D rfl ((hM.kept (((Ext.refl wr).alloc _).grown none) (by simp)).kept (M.grown none) (by simp)) _ _ rfl R ?_;intro c hm go;(have gG:c=(j:Int):=by (have e:=g1.out.symm.trans hm;injection e with e;injection e with _ e;exact e.symm));rw[hw.out,gG];clear hm go gG c))
    have fn:=gd Q;have h3:=gd (Z.ext Q);have hR:=gd (hM.kept (Q.grown none) (by simp));have hc:=gd (OEnts.ext g4.out Q);have gg:=gd (hx.trans Q);have ge:=gd (Zu hws Q.size);have ga:=gd hT;clear Z hM R a0 a1 a2 a3 a4 gJ gK M hT;have gM:g<w2.heap.size:=ZS w2 _ he;have gF:wr.heap.size<w2.heap.size:=ZS w2 _ e0
    go_region_law (first|(refine ZV _ (by rfl) (.tmp 43) (.tmp 45) _ (by rfl) (w.heap.size+1) 76 i0 _ 5 72 underlying53 gN gX gY gZ rfl (by decide) u (grp (l.take k) q).length (flatE (grp (l.take k) q)) (by rfl) (Ye hc.out (by repeat (first|exact Ext.refl _|apply Ext.drew|apply Ext.alloc))) _ 1 (eCells ⟨q,K,U,H,hh⟩) (by rfl) (RSl.ext (Yn rfl (by decide)) (by repeat (first|exact Ext.refl _|apply Ext.drew))) (XE _) h9.out hi.out (Zu ge.out (by simp)) ?_;intro v3 w3 I V hd;(obtain ⟨g3,F,Y,g9⟩:∃g3 F,v3= .slice (some ⟨g3,0,none⟩) ((grp (l.take k) q).length+1) F/\True:=by (obtain ⟨g3,F,Y,_⟩:=I.form (by omega);exact ⟨g3,F,Y,trivial⟩));subst Y;(have X:=Grps.grow' h3.out (Ext.refl _) (by repeat (first|exact Ext.refl _|apply Ext.drew|apply Ext.alloc)) ga.out h7.out h8.out rfl I V hd gc.out);(have hH:=X.1);(have hJ:=X.2.1);(have hN:=(hR.out.kept ((show Ext w2 _ from by repeat (first|exact Ext.refl _|apply Ext.drew|apply Ext.alloc)).grown none) (by simp)).kept V (λe=>gb.out e.symm));(have hP:Ext w w3:=Ext.grown' (B:=0) (Ext.trans gg.out (by repeat (first|exact Ext.refl _|apply Ext.drew|apply Ext.alloc))) V (λb hb=>Zu (Yf _) (hc.out.lt b hb).1))))
    all_goals
     have hf:=X.2.2
     have h6:=gd hf
     have hz:=gd (hN.setCell (a:=⟨g,j,none⟩) (show w.heap.size≠g by have:=hr.out.1;omega) (.slice (some ⟨g3,0,none⟩) ((grp (l.take k) q).length+1) F))
     have gf:=gd (hP.setCell (p:=⟨g,j,none⟩) (show w.heap.size<=g by have:=hr.out.1;omega) (.slice (some ⟨g3,0,none⟩) ((grp (l.take k) q).length+1) F))
     clear X hf hN hP I V hd hH hJ e0 e1 e2 e3 e4 he hI Q
     go_wp2
     go_roundw
     case rel=>
      have hC:ordE.firsts (l.take (k+1))=ordE.firsts (l.take k):=gs.out.trans (Zh hq.out)
      exact ⟨k+1,gv.set j _,D,ht,by go_num,by rw[hC,gy.out];exact h6.out,hz.out.mono (Yf _),by rw[hC];exact hD,gf.out,hz.out.lt⟩
     case measure=>simp[intOf];omega
   ·have hg:Maps.has D (.string x.id.data.toList)=false:=by
     cases hb:Maps.has D (.string x.id.data.toList) with
     |false=>rfl
     |true=>exact absurd (hB.1.1 hb) J
    have hO:=hD.out.put (s:=x.id) J;rw[<-hs] at hO;have gx:=gd hO;have hw:=gd hg;have hq:=gd J;have hA:=gd (Zd0 J);have gt:=gd hs;have gU:(Lit.int .i64 (gv.length:Nat)).wf=true:=(by simp only[Lit.wf,IntKind.min,IntKind.max,ZZ];simp[IntKind.signed,IntKind.bits];omega);have g6:=gd gU;have hV:=Zg wr (.cells (eCells x).toArray 76);have h0:=gd hV;have gr:Hid ((gv.length+1)*24<=140737488355328):=gd (by omega);have gw:Hid (gv.length+1<=maxLen):=gd (by unfold maxLen;omega);have g2:Hid (k<maxLen):=gd (by unfold maxLen;omega);have gL:gv.length<=9223372036854775806:=(by omega);clear hg J hO gU hV hB gm hK hs;obtain ⟨q,K,U,H,hh⟩:=x;simp only at a0 a1 a2 a3 a4 R;unfold eCells at hl h0;dsimp only at hl h0;obtain ⟨gA,gC,ho⟩:=Z.form;subst ho;have g0:True:=trivial
    go_wp2_with (first|(clear g0;go_at_call 111;refine (hl.out _).mono ?_;rintro e w2 ⟨rfl,M⟩;(have gj:=M.heap h0.out);(obtain ⟨e0,e1,e2,e3,e4⟩:=Zkt gj);(have Q:=(((Ext.refl wr).alloc _).trans M)))|(at_lookup;refine wpList_lookup_own_ok_int _ rfl (.tmp 19) (.tmp 22) _ rfl 9 3 .i64 Ur underlying162 underlying3 (IU _) w.heap.size k D rfl ((hM.kept (((Ext.refl wr).alloc _).grown none) (by simp)).kept (M.grown none) (by simp)) _ _ rfl R ?_;intro c hm go;rw[hw.out];clear hm go)|(go_at_call 111;refine (hl.out _).mono ?_;rintro e w4 ⟨rfl,gp⟩;(have gk:=gp.heap gj);(have hQ:=Q.trans gp))|(at_mapUpdate;refine Ua _ rfl (.tmp 30) (.tmp 33) (.tmp 34) 162 rfl 9 3 Ur underlying162 _ w.heap.size k D rfl (hM.kept (hQ.grown none) (by simp)) g2.out _ _ _ rfl rfl R _ [] (plainElem_int underlying3 g6.out) ?_;intro w5 gi hE)|(at_builtin;refine ZJ _ rfl (.tmp 35) (.tmp 36) _ rfl (w.heap.size+1) 53 i1 _ 1 24 underlying166 fb fg fh fi rfl (by decide) _ gv.length gv rfl ((((Z.ext hQ).kept hE (YK _)).row).alloc _) _ 1 [sN] rfl (Yn rfl (by decide)) (by intro y hy;simp at hy;subst hy;rfl) gw.out gr.out ?_ ?_;(have:=gi.lt;simp;omega);intro v6 w6 S hF gD))
    obtain ⟨g,cap,fe,hX,hY⟩:=S.form (ZeM _);subst fe;have gV:Ext w w5:=Ext.grown' (B:=0) (hx.trans hQ) hE (λb hb=>by cases hb;exact Zb _);have gz:=(Z.ext hQ).kept hE (YK _);have hL:gv.length+1=(gv++ [Value.slice none 0 0]).length:=(by simp);have gh:=Grps.more (gz.ext ((Ext.refl _).alloc _)) hA.out S hF;rw[hL] at gh;have h3:=gd gh;have gn:∀b,(Value.slice gA gv.length gC).ownBlock=some b->w.heap.size+1<=b:=λb hb=>(Z.row.lt b hb).1;have hR:=gd ((gi.alloc _).kept hF (λe=>by have:=gn _ e.symm;omega));have gg:=gd (Ext.grown' (B:=0) (gV.alloc _) hF (λb hb=>Zu (Yf _) (gn b hb)));have hp:OEnts w6 (w.heap.size+1) sN (grp (l.take k) q):=(by rw[hA.out];exact OEnts.nil _ _);have hc:=gd hp;have gB:w.heap.size+1<=w6.heap.size:=hR.out.lt;have ge:=gd gB;have gl:w5.heap[wr.heap.size]? =some (.cells #[.string q,.string K,.string U,.string H,nI hh] 76):=(by rw[hE.block wr.heap.size (ZS w4 ⟨wr.heap.size,0,none⟩ (by rw[Xc _ _ _ _ _ _ gk];rfl)) (by simp;omega)];exact gk);have gE:w6.heap[wr.heap.size]? =some (.cells #[.string q,.string K,.string U,.string H,nI hh] 76):=(by rw[hF.block wr.heap.size (by have:wr.heap.size<w5.heap.size:=ZS w5 ⟨wr.heap.size,0,none⟩ (by rw[Xc _ _ _ _ _ _ gl];rfl);simp;omega) (λe=>by have:=(Z.row.lt _ e.symm).2;omega)];exact ((Ext.refl w5).alloc _).heap gl);have ga:Hid ((ordE.firsts (l.take k)++ [q]).Pairwise (· ≠ ·)):=gd (by
     rw[List.pairwise_append];exact ⟨hT,by simp,λa ha b hb=>by simp at hb;subst hb;rintro rfl;exact hq.out ha⟩)
    have h7:Hid ((ordE.firsts (l.take k)++ [q])[gv.length]? =some q):=gd (by rw[gt.out];simp);have h8:Hid ((gv++ [Value.slice none 0 0])[gv.length]? =some sN):=gd (by simp);have gc:Hid ((Value.slice none 0 0).ownBlock≠some g):=gd (by intro e;cases e);have gb:Hid ((Value.slice none 0 0).ownBlock≠some w.heap.size):=gd (by intro e;cases e);have hr:=gd (Vg hX hY);have he:w6.cell? ⟨g,gv.length,none⟩=some sN:=(by rw[S.cellAt gv.length (by omega)];simp);have hI:w6.frozen? ⟨g,gv.length,none⟩=false:=S.frozenAt gv.length;have gR:(gv.length:Int)<((gv.length:Nat):Int)+1:=(by omega);have fm:gv.length<gv.length+1:=(by omega);have gO:(0:Int)<=(gv.length:Int):=(by omega);have hi:Hid ((grp (l.take k) q).length+1<=1/\True):=gd ⟨by rw[hA.out];simp,trivial⟩;have h9:Hid ((grp (l.take k) q).length+1<=maxLen):=gd (Zu hi.out.1 (by decide));have gq:Hid (((grp (l.take k) q).length+1)*72<=140737488355328):=gd (by have:=hi.out.1;omega);clear hi;have hi:=gq;have gu:=gd hL;clear e0 e1 e2 e3 e4;obtain ⟨e0,e1,e2,e3,e4⟩:=Zkt gE;clear Z gz gh hM gi R a0 a1 a2 a3 a4 M gp Q hQ gj gk gl gE hE hF gD S gV gn hp gB hL hX hY hT;have gM:g<w6.heap.size:=ZS w6 _ he;have gF:wr.heap.size<w6.heap.size:=ZS w6 _ e0
    go_region_law (first|(refine ZV _ (by rfl) (.tmp 43) (.tmp 45) _ (by rfl) (w.heap.size+1) 76 i0 _ 5 72 underlying53 gN gX gY gZ rfl (by decide) sN (grp (l.take k) q).length (flatE (grp (l.take k) q)) (by rfl) (Ye hc.out (by repeat (first|exact Ext.refl _|apply Ext.drew|apply Ext.alloc))) _ 1 (eCells ⟨q,K,U,H,hh⟩) (by rfl) (RSl.ext (Yn rfl (by decide)) (by repeat (first|exact Ext.refl _|apply Ext.drew))) (XE _) h9.out hi.out (Zu ge.out (by simp)) ?_;intro v3 w3 I V hd;(obtain ⟨g3,F,Y,g9⟩:∃g3 F,v3= .slice (some ⟨g3,0,none⟩) ((grp (l.take k) q).length+1) F/\True:=by (obtain ⟨g3,F,Y,_⟩:=I.form (by omega);exact ⟨g3,F,Y,trivial⟩));subst Y;(have X:=Grps.grow' h3.out (Ext.refl _) (by repeat (first|exact Ext.refl _|apply Ext.drew|apply Ext.alloc)) ga.out h7.out h8.out rfl I V hd gc.out);(have hH:=X.1);(have hJ:=X.2.1);(have hN:=(hR.out.kept ((show Ext w6 _ from by repeat (first|exact Ext.refl _|apply Ext.drew|apply Ext.alloc)).grown none) (by simp)).kept V (λe=>gb.out e.symm));(have hP:Ext w w3:=Ext.grown' (B:=0) (Ext.trans gg.out (by repeat (first|exact Ext.refl _|apply Ext.drew|apply Ext.alloc))) V (λb hb=>Zu (Yf _) (hc.out.lt b hb).1))))
    all_goals
     have hf:=X.2.2
     have h6:=gd hf
     have hz:=gd (hN.setCell (a:=⟨g,gv.length,none⟩) (show w.heap.size≠g by have:=hr.out.1;omega) (.slice (some ⟨g3,0,none⟩) ((grp (l.take k) q).length+1) F))
     have gf:=gd (hP.setCell (p:=⟨g,gv.length,none⟩) (show w.heap.size<=g by have:=hr.out.1;omega) (.slice (some ⟨g3,0,none⟩) ((grp (l.take k) q).length+1) F))
     clear X hf hN hP I V hd hH hJ e0 e1 e2 e3 e4 he hI
     go_wp2
     go_roundw
     case rel=>
      have hC:ordE.firsts (l.take (k+1))=ordE.firsts (l.take k)++ [q]:=gs.out.trans (Ze hq.out)
      exact ⟨k+1,(gv++ [Value.slice none 0 0]).set gv.length _,D.put (.string q.data.toList) (.lit (.int .i64 (gv.length:Nat))),ht,by go_num,by rw[hC,gy.out,gu.out];exact h6.out,hz.out,by rw[hC];exact gx.out,gf.out,hz.out.lt⟩
     case measure=>simp[intOf];omega
  ·have fc:k=l.length:=(by omega);subst fc;rw[ZT (Zb _)] at Z hD;have HG:=gd Z;clear Z hD hM hk ht;go_wp2;go_ret;refine ⟨_,gv,rfl,?_,hx⟩;have h1:=HG.out;exact ⟨h1.len,XM h1.row (Yf _),λj s u hj hu=>(h1.each j s u hj hu).mono (Yf _),h1.apart⟩
end
section
variable {v:Value} {w w':World}
def RStrs (w:Wq) (v:Value) (l:List ByteArray):Prop:=RSl w 1 v l.length (l.map Value.string)
theorem RStrs.ext {l:List ByteArray} (h:RStrs w v l) (q:Ext w w'):RStrs w' v l:=RSl.ext h q
theorem RStrs.form {l:List ByteArray} (h:RStrs w v l):∃A c,v= .slice A l.length c/\l.length<=c/\c<=maxLen:=by
 obtain ⟨_,A,c,e,q,D,_⟩:=h;exact ⟨A,c,e,q,D⟩
def fCells (p es:Value) (f:Fd):List Value:= [p,.string f.id,.string f.title,.string f.link,nI f.upd,es]
theorem X3:(prog.info? 55).map (λi=>i.size)=some 6:=by kernel_rfl
end
def sizes (l:List ByteArray):Nat:=(l.map ByteArray.size).sum
def fok (f:Fd):Prop:=i64ok f.upd/\f.path.length+sizes f.path+f.id.size+f.title.size+f.link.size<=16777216
theorem X9 {l:List ByteArray} {s:ByteArray} (h:s∈l):s.size<=sizes l:=by
 induction l with
 |nil=>simp at h
 |cons x t ih=>
  have e:sizes (x::t)=x.size+sizes t:=by unfold sizes;simp
  rcases ZF.1 h with rfl|h
  ·omega
  ·have:=ih h;omega
theorem Zim (p es:Value) (f:Fd) (w:Wq):Calls prog 65 #[.agg (fCells p es f).toArray] w λx w'=>x= .returned (.string f.id)/\Ext w w':=by
 unfold fCells;go_enter func65,ntmps65;go_wp2;go_ret;exact ⟨rfl,(Ext.refl _).alloc _⟩
section
variable {B B' c d g k m n:Nat} {v:Value} {w w':World} {xs:List Value}
theorem Ys (w:Wq) (A B:Obj):((w.alloc A).alloc B).heap[w.heap.size+1]? =some B:=by
 have:=Zg (w.alloc A) B
 rwa [Zq] at this
structure Fc where
 p:Value
 es:Value
 f:Fd
def cellsC (x:Fc):List Value:=fCells x.p x.es x.f
def isSl (v:Value):Prop:=∃A n c,v= .slice A n c
def slC (x:Fc):Prop:=isSl x.p/\isSl x.es
theorem Jv {x:Fc} (h:slC x):∀u∈cellsC x,u.oneCell'=true:=by
 obtain ⟨p,es,f⟩:=x;obtain ⟨⟨A,n,c,q⟩,⟨B,m,d,D⟩⟩:=h;simp only at q D;subst q D;intro u F;simp only[cellsC,fCells,ZF,Ya,Xs] at F;rcases F with rfl|rfl|rfl|rfl|rfl|rfl<;>rfl
theorem ZeY (x:Fc):(cellsC x).length=6:=rfl
def RdC (w:Wq) (x:Fc):Prop:=RStrs w x.p x.f.path/\REnts w x.es x.f.ents
theorem RdC.ext {x:Fc} (h:RdC w x) (q:Ext w w'):RdC w' x:=⟨h.1.ext q,h.2.ext q⟩
theorem RdC.sl {x:Fc} (h:RdC w x):slC x:=by
 obtain ⟨A,c,e,_⟩:=h.1.form;obtain ⟨B,d,q,_⟩:=h.2.form;exact ⟨⟨A,_,c,e⟩,⟨B,_,d,q⟩⟩
def flatC (l:List Fc):List Value:=(l.map cellsC).flatten
theorem Zbp (a b:List Fc):flatC (a++b)=flatC a++flatC b:=by unfold flatC;rw[ZR,Q9]
theorem ZgN (x:Fc):flatC [x]=cellsC x:=by unfold flatC;simp
def RFcs (w:Wq) (v:Value) (l:List Fc):Prop:=RSl w 6 v l.length (flatC l)
def OFcs (w:Wq) (B:Nat) (v:Value) (l:List Fc):Prop:=w.ownsRow B 55 6 v l.length (flatC l)
theorem OFcs.reads {l:List Fc} (h:OFcs w B v l):RFcs w v l:=RSl.of_own h
theorem RFcs.ext {l:List Fc} (h:RFcs w v l) (q:Ext w w'):RFcs w' v l:=RSl.ext h q
theorem OFcs.ext {l:List Fc} (h:OFcs w B v l) (q:Ext w w'):OFcs w' B v l:=Ye h q
theorem RFcs.form {l:List Fc} (h:RFcs w v l):∃A c,v= .slice A l.length c/\l.length<=c/\c<=maxLen:=by
 obtain ⟨_,A,c,e,q,D,_⟩:=h;exact ⟨A,c,e,q,D⟩
theorem OFcs.nil (w:Wq) (B:Nat):OFcs w B sN []:=YL _ _ _ _
theorem OFcs.snoc {l:List Fc} {x:Fc} (h:w.ownsRow B 55 6 v (l.length+1) (flatC l++cellsC x)):OFcs w B v (l++ [x]):=by
 unfold OFcs;rw[Zbp,ZgN,Zc];exact h
theorem OFcs.mono {l:List Fc} (h:OFcs w B v l) (q:B'<=B):OFcs w B' v l:=XM h q
structure AtFc (w:Wq) (q:Addr) (x:Fc):Prop where
 c0:w.cell? q=some x.p
 c1:w.cell? ⟨q.block,q.off+1,none⟩=some (.string x.f.id)
 c2:w.cell? ⟨q.block,q.off+2,none⟩=some (.string x.f.title)
 c3:w.cell? ⟨q.block,q.off+3,none⟩=some (.string x.f.link)
 c4:w.cell? ⟨q.block,q.off+4,none⟩=some (nI x.f.upd)
 c5:w.cell? ⟨q.block,q.off+5,none⟩=some x.es
theorem RFcs.at {l:List Fc} (h:RFcs w v l) (D:k<l.length):∃ad c,v= .slice (some ad) l.length c/\AtFc w (ad.add (k*6)) l[k]:=by
 obtain ⟨ad,c,e,A⟩:=RSl.elem (k:=6) (css:=l.map cellsC) h (by decide) (by intro c A;obtain ⟨x,_,rfl⟩:=Z3.1 A;rfl) k (cellsC l[k]) (by rw[YD,Zr D];rfl);rw[IG] at A;have q:∀i,0<i->(ad.add (k*6)).add i=⟨(ad.add (k*6)).block,(ad.add (k*6)).off+i,none⟩:=λi F=>Ze (by omega);refine ⟨ad,c,e,?_,?_,?_,?_,?_,?_⟩
 ·have:=A 0 _ rfl;rwa [add_zero] at this
 ·have:=A 1 _ rfl;rwa [q _ (by decide)] at this
 ·have:=A 2 _ rfl;rwa [q _ (by decide)] at this
 ·have:=A 3 _ rfl;rwa [q _ (by decide)] at this
 ·have:=A 4 _ rfl;rwa [q _ (by decide)] at this
 ·have:=A 5 _ rfl;rwa [q _ (by decide)] at this
theorem Zea {A:Option Addr} {B:Option Addr} {i t l:ByteArray} {u:Int}:(#[Value.slice A n c,.string i,.string t,.string l,nI u,.slice B m d]).all (λu=>u.oneCell')=true:=
 Zcp (Jv (x:=⟨.slice A n c,.slice B m d,⟨[],i,t,l,u,[]⟩⟩) ⟨⟨_,_,_,rfl⟩,⟨_,_,_,rfl⟩⟩)
theorem Va {A:Option Addr}:(#[Value.slice A n c]).all (λu=>u.oneCell')=true:=Zcp (cs:= [Value.slice A n c]) (by intro u h;rw[Zo.1 h];rfl)
theorem RSl.grown {size:Nat} {r:Option Nat} (h:RSl w size v n xs) (Q:w.grownBy w' r) (q:xs= []\/v.ownBlock≠r):RSl w' size v n xs:=by
 obtain ⟨F,A,c,rfl,H,I,J,K⟩:=h;refine ⟨F,A,c,rfl,H,I,J,λj u D=> ?_⟩;obtain ⟨ad,rfl,M⟩:=K j u D;refine ⟨ad,rfl,Q.cell M ?_⟩;rw[VD];rcases q with q|q
 ·subst q;simp at D
 ·exact q
theorem RSl.old {size:Nat} (h:RSl w size v n xs) (q:xs≠ []):∃g,v.ownBlock=some g/\g<w.heap.size:=by
 obtain ⟨H,A,c,rfl,I,J,K,D⟩:=h;cases xs with
 |nil=>exact absurd rfl q
 |cons u t=>
  obtain ⟨ad,rfl,F⟩:=D 0 u rfl;refine ⟨ad.block,rfl,?_⟩;have:=ZS w _ F
  rwa [VD] at this
def awayC (x:Fc) (r:Option Nat):Prop:=(x.f.path= []\/x.p.ownBlock≠r)/\(x.f.ents= []\/x.es.ownBlock≠r)
theorem I0 {x:Fc} (h:RdC w x):awayC x none:=by
 refine ⟨?_,?_⟩
 ·cases hp:x.f.path with
  |nil=>exact Or.inl rfl
  |cons s t=>obtain ⟨g,q,_⟩:=RSl.old h.1 (by rw[hp];simp);exact Or.inr (by rw[q];simp)
 ·cases hp:x.f.ents with
  |nil=>exact Or.inl rfl
  |cons s t=>obtain ⟨g,q,_⟩:=RSl.old h.2 (by rw[hp];unfold flatE;simp[eCells]);exact Or.inr (by rw[q];simp)
theorem QR {x:Fc} (h:RdC w x) (D:w.heap.size<=g):awayC x (some g):=by
 refine ⟨?_,?_⟩
 ·cases hp:x.f.path with
  |nil=>exact Or.inl rfl
  |cons s t=>obtain ⟨k,q,A⟩:=RSl.old h.1 (by rw[hp];simp);exact Or.inr (by rw[q];intro e;injection e with e;omega)
 ·cases hp:x.f.ents with
  |nil=>exact Or.inl rfl
  |cons s t=>obtain ⟨k,q,A⟩:=RSl.old h.2 (by rw[hp];unfold flatE;simp[eCells]);exact Or.inr (by rw[q];intro e;injection e with e;omega)
theorem RdC.grown {x:Fc} {r:Option Nat} (h:RdC w x) (A:w.grownBy w' r) (q:awayC x r):RdC w' x:=
 ⟨RSl.grown h.1 A (q.1.imp (λe=>by rw[e];rfl) λe=>e),RSl.grown h.2 A (q.2.imp (λe=>by rw[e];rfl) λe=>e)⟩
structure HFs (w:Wq) (B:Nat) (v:Value) (l:List Fc):Prop where
 row:OFcs w B v l
 rd:∀x∈l,RdC w x
 away:∀x∈l,awayC x v.ownBlock
theorem HFs.nil (w:Wq) (B:Nat):HFs w B sN []:=⟨OFcs.nil _ _,by simp,by simp⟩
theorem HFs.ext {l:List Fc} (h:HFs w B v l) (A:Ext w w'):HFs w' B v l:=⟨h.row.ext A,λx q=>(h.rd x q).ext A,h.away⟩
theorem HFs.snoc {H:Wq} {v3:Value} {l:List Fc} {x:Fc} (h:HFs w B v l) (K:RdC w x) (I:awayC x v.ownBlock)
 (D:H.ownsRow B 55 6 v3 (l.length+1) (flatC l++cellsC x)) (J:w.grownBy H v.ownBlock) (F:v3.ownBlock=v.ownBlock\/v3.ownBlock=some w.heap.size):HFs H B v3 (l++ [x]):=by
 have A:∀y∈l++ [x],RdC w y/\awayC y v.ownBlock:=by
  intro y q;rcases Zt.1 q with q|q
  ·exact ⟨h.rd y q,h.away y q⟩
  ·rw[Zo.1 q];exact ⟨K,I⟩
 refine ⟨OFcs.snoc D,λy q=>(A y q).1.grown J (A y q).2,λy q=> ?_⟩;rcases F with e|e
 ·rw[e];exact (A y q).2
 ·rw[e];exact QR (A y q).1 (Zb _)
end
section
variable {B cap g i m:Nat} {fs:List ByteArray} {gv:List Value} {l:List Fc} {u u' v:Value} {w w' w2:World} {x:Fc}
def firstsC (l:List Fc):List ByteArray:=ordF.firsts (l.map Fc.f)
open Classical in
theorem G5 (l:List Fc) (e:Fc):firstsC (l++ [e])=if e.f.id∈firstsC l then firstsC l else firstsC l++ [e.f.id]:=by
 have h:=ordF.firsts_snoc (l.map Fc.f) e.f;unfold firstsC;rw[ZR,ZP,Yv];by_cases q:e.f.id∈ordF.firsts (l.map Fc.f)
 ·rw[Zh q];exact h.trans (Zh q)
 ·rw[Ze q];exact h.trans (Ze q)
theorem Zat (l:List Fc):(firstsC l).Pairwise (· ≠ ·):=ordF.firsts_nodup _
theorem Is (l:List Fc) (k:ByteArray):k∈firstsC l↔∃x∈l,x.f.id=k:=by
 unfold firstsC;rw[ordF.mem_firsts];constructor
 ·rintro ⟨f,q,e⟩;obtain ⟨x,h,rfl⟩:=Z3.1 q;exact ⟨x,h,e⟩
 ·rintro ⟨x,h,e⟩;exact ⟨x.f,Z3.2 ⟨x,h,rfl⟩,e⟩
def grpC (l:List Fc) (s:ByteArray):List Fc:=l.filter λx=>decide (x.f.id=s)
structure GrpsC (w:Wq) (B:Nat) (v:Value) (l:List Fc) (fs:List ByteArray) (gv:List Value):Prop where
 len:gv.length=fs.length
 row:w.ownsRow B 29 1 v gv.length gv
 each:∀(j:Nat) (s:ByteArray) (u:Value),fs[j]? =some s->gv[j]? =some u->OFcs w B u (grpC l s)
 apart:∀(i j:Nat) (u u':Value),gv[i]? =some u->gv[j]? =some u'->i≠j->∀g,u.ownBlock=some g->u'.ownBlock≠some g
theorem GrpsC.ext (h:GrpsC w B v l fs gv) (q:Ext w w'):GrpsC w' B v l fs gv:=
 ⟨h.len,Ye h.row q,λj s u A D=>(h.each j s u A D).ext q,h.apart⟩
theorem GrpsC.nil (w:Wq) (B:Nat):GrpsC w B sN [] [] []:=⟨rfl,YL _ _ _ _,by simp,by simp⟩
theorem Zbz (l:List Fc) (x:Fc) (s:ByteArray):grpC (l++ [x]) s=if x.f.id=s then grpC l s++ [x] else grpC l s:=by
 unfold grpC;rw[List.filter_append];by_cases h:x.f.id=s
 ·rw[Zh h];simp[h]
 ·rw[Ze h];simp[h]
theorem Zck {s:ByteArray} (h:s ∉ firstsC l):grpC l s= []:=by
 unfold grpC;rw[List.filter_eq_nil_iff];intro x q;simp only[Yb];intro e;exact h ((Is l s).2 ⟨x,q,e⟩)
theorem GrpsC.grow {s:ByteArray}
 (h:GrpsC w B (.slice (some ⟨g,0,none⟩) gv.length cap) l fs gv) (hk:fs.Pairwise (· ≠ ·)) (hi:fs[i]? =some s) (hu:gv[i]? =some u) (hx:x.f.id=s)
 (Z:w2.ownsRow B 55 6 u' ((grpC l s).length+1) (flatC (grpC l s)++cellsC x)) (hg:w.grownBy w2 u.ownBlock) (U:u'.ownBlock=u.ownBlock\/(∃W:Nat,w.heap.size<=W/\u'.ownBlock=some W)) (Y:u.ownBlock≠some g):
 GrpsC (w2.setCell ⟨g,i,none⟩ u') B (.slice (some ⟨g,0,none⟩) gv.length cap) (l++ [x]) fs (gv.set i u'):=by
 have X:=h.len;have hr:=h.row.lt g rfl;have hc:u'.ownBlock≠some g:=by
  rcases U with e|⟨W,hW,e⟩
  ·rw[e];exact Y
  ·rw[e];intro R;injection R with R;omega
 have hh:∀(j:Nat) (v:Value),gv[j]? =some v->j≠i->v.ownBlock=none\/v.ownBlock≠u.ownBlock:=by
  intro j v D H;cases A:v.ownBlock with
  |none=>exact Or.inl rfl
  |some b=>exact Or.inr λe=>h.apart j i v u D hu H b A e.symm
 have Q:=(h.row.kept hg (Or.inr λe=>Y e.symm));refine ⟨by rw[XD];exact X,?_,?_,?_⟩
 ·rw[XD];exact (Q.stored i u').1
 ·intro j t v H D;have hn:∀(m:Nat) (q:Value),gv[m]? =some q->(∃t,fs[m]? =some t)->q.ownBlock=none\/q.ownBlock≠some g:=by
   intro m q hq ⟨t',hl⟩;cases F:q.ownBlock with
   |none=>exact Or.inl rfl
   |some b=>
    refine Or.inr λe=> ?_;injection e with e;subst e;have h1:=(h.each m t' q hl hq).2;have S:=h.row.2;rcases h1 with ⟨rfl,_⟩|⟨b',c',ho,rfl,_,hf,_⟩
    ·cases F
    ·rcases S with ⟨S,_⟩|⟨g',hp,he,S,_,V,_⟩
     ·cases S
     ·cases S;cases F;rw[hf] at V;simp at V
  by_cases I:j=i
  ·subst I;rw[hi] at H;injection H with H;subst H;have A:v=u':=(by rw[List.getElem?_set] at D;have:j<gv.length:=(ZM.1 hu).1;simp[this] at D;exact D.symm);subst A;rw[Zbz,Zh hx];exact OFcs.snoc (Vq Z (a:=⟨g,j,none⟩) hc v)
  ·rw[List.getElem?_set_ne (λe=>I e.symm)] at D;have ht:t≠s:=by
    intro e;subst e;have h1:=Y7.1 hk;obtain ⟨p1,q1⟩:=ZM.1 hi;obtain ⟨p2,q2⟩:=ZM.1 H;rcases Nat.lt_or_gt_of_ne I with h3|h3
    ·exact h1 j i p2 p1 h3 (q2.trans q1.symm)
    ·exact h1 i j p1 p2 h3 (q1.trans q2.symm)
   rw[Zbz,Ze (by rw[hx];exact λe=>ht e.symm)];have h4:=(h.each j t v H D).kept hg (hh j v D I);refine Vq h4 (a:=⟨g,i,none⟩) ?_ u';rcases hn j v D ⟨t,H⟩ with e|e
   ·rw[e];simp
   ·exact e
 ·intro a b v v' D A K q hq;rw[List.getElem?_set] at D A;have hd:∀(m:Nat) (q':Value),gv[m]? =some q'->m≠i->∀b,u'.ownBlock=some b->q'.ownBlock≠some b:=by
   intro m q' F hm b J e;rcases U with R|⟨W,hW,R⟩
   ·rw[R] at J;exact h.apart i m u q' hu F (λe=>hm e.symm) b J e
   ·rw[R] at J;injection J with J;obtain ⟨pm,_⟩:=ZM.1 F;have h5:=h.each m (fs[m]'(by omega)) q' (Zr (by omega)) F;have:=(h5.lt b e).2;omega
  by_cases ha:i=a
  ·subst ha;have M:i<gv.length:=(ZM.1 hu).1;simp only[Zjw,Zh M,Y3] at D;subst D;rw[Ze K] at A;exact hd b v' A (λe=>K e.symm) q hq
  ·rw[Ze ha] at D;by_cases J:i=b
   ·subst J;have M:i<gv.length:=(ZM.1 hu).1;simp only[Zjw,Zh M,Y3] at A;subst A;intro e;exact hd a v D (λe=>ha e.symm) q e hq
   ·rw[Ze J] at A;exact h.apart a b v v' D A K q hq
theorem GrpsC.form (h:GrpsC w B v l fs gv):∃A c,v= .slice A gv.length c:=by
 rcases h.row.2 with ⟨q,F⟩|⟨g,cap,D,q,_⟩
 ·exact ⟨none,0,by rw[q,F]⟩
 ·exact ⟨_,_,q⟩
theorem GrpsC.kept (h:GrpsC w B v l fs gv) (F:w.grownBy w2 (some m)) (I:m<B):GrpsC w2 B v l fs gv:=by
 have q:∀{e:TypeId} {n size:Nat} {u:Value} {xs:List Value},w.ownsRow B e size u n xs->u.ownBlock=none\/u.ownBlock≠some m:=by
  intro e n size u xs H;cases hb:u.ownBlock with
  |none=>exact Or.inl rfl
  |some b=>refine Or.inr λe=> ?_;injection e with e;have:=(H.lt b hb).1;omega
 exact ⟨h.len,h.row.kept F (q h.row),λj s u A D=>(h.each j s u A D).kept F (q (h.each j s u A D)),h.apart⟩
theorem GrpsC.more {v':Value} {s:ByteArray}
 (h:GrpsC w B v l fs gv) (hs:grpC l s= []) (J:w2.ownsRow B 29 1 v' (gv.length+1) (gv++ [sN])) (hg:w.grownBy w2 v.ownBlock):
 GrpsC w2 B v' l (fs++ [s]) (gv++ [sN]):=by
 have I:=h.len;refine ⟨by simp[I],by simpa using J,?_,?_⟩
 ·intro j t u F D;rcases Xq j gv.length with A|A
  ·rw[Y6 A] at D;rw[Y6 (by omega)] at F;have X:=h.each j t u F D;refine X.kept hg ?_;cases hu':u.ownBlock with
   |none=>exact Or.inl rfl
   |some b=>
    refine Or.inr λe=> ?_;rcases X.2 with ⟨rfl,_⟩|⟨b',c',V,rfl,_,R,_⟩
    ·cases hu'
    ·rcases h.row.2 with ⟨rfl,_⟩|⟨g',ha,M,rfl,_,H,_⟩
     ·cases e
     ·cases hu';cases e;rw[R] at H;simp at H
  ·rw[Yl A] at D;rw[Yl (by omega)] at F;have S:j - gv.length=0:=by
    rcases YY (j - gv.length) with Y|Y
    ·exact Y
    ·rw[List.getElem?_eq_none (by simp;omega)] at D;cases D
   rw[S] at D;rw[show j - fs.length=0 by omega] at F;simp at D F;subst D F;rw[hs];exact OFcs.nil _ _
 ·intro a b q Z hq U Q m K;have last:∀(n:Nat) (u:Value),(gv++ [Value.slice none 0 0])[n]? =some u->∀m,u.ownBlock=some m->gv[n]? =some u:=by
   intro n u D m K;rcases Xq n gv.length with A|A
   ·rwa [Y6 A] at D
   ·rw[Yl A] at D;have:=List.mem_of_getElem? D;simp at this;subst this;cases K
  intro e;exact h.apart a b q Z (last a q hq m K) (last b Z U m e) Q m K e
end
section
variable {B cap g i:Nat} {fs:List ByteArray} {gv:List Value} {l:List Fc} {u u':Value} {w w1 w2:World} {x:Fc}
theorem Zg0:(prog.info? 29).map (λi=>(i.zero,i.size,i.bytes))=some (some sN,1,24):=by kernel_rfl
theorem In (l:List Fc):(firstsC l).length<=l.length:=by
 suffices h:∀(n:Nat) (l:List Fc),l.length=n->(firstsC l).length<=l.length from h _ l rfl
 intro n
 induction n with
 |zero=>intro l q;rw[Zw q];exact Zb _
 |succ n ih=>
  intro l q;obtain ⟨l',e,rfl⟩:∃l' e,l=l'++ [e]:=by
   rcases List.eq_nil_or_concat l with h|⟨l',e,h⟩
   ·subst h;simp at q
   ·exact ⟨l',e,by simpa using h⟩
  have:=ih l' (by simpa using q);rw[G5];split<;>simp<;>omega
theorem ZdC (l:List Fc) (s:ByteArray):(grpC l s).length<=l.length:=List.length_filter_le _ _
theorem GrpsC.grow' {U:Wq} {s:ByteArray}
 (h:GrpsC w1 B (.slice (some ⟨g,0,none⟩) gv.length cap) l fs gv) (_hx0:Ext U w1) (S:Ext w1 w) (H:fs.Pairwise (· ≠ ·)) (Q:fs[i]? =some s) (I:gv[i]? =some u) (J:x.f.id=s)
 (D:w2.ownsRow B 55 6 u' ((grpC l s).length+1) (flatC (grpC l s)++cellsC x)) (K:w.grownBy w2 u.ownBlock) (F:u'.ownBlock=u.ownBlock\/u'.ownBlock=some w.heap.size) (A:u.ownBlock≠some g):
 w2.cell? ⟨g,i,none⟩=some u/\w2.frozen? ⟨g,i,none⟩=false/\GrpsC (w2.setCell ⟨g,i,none⟩ u') B (.slice (some ⟨g,0,none⟩) gv.length cap) (l++ [x]) fs (gv.set i u'):=by
 have M:=h.ext S;have q:=M.row.kept K (Or.inr λe=>A e.symm);have R:i<gv.length:=(ZM.1 I).1;refine ⟨by rw[q.cellAt i (by omega)];exact I,q.frozenAt i,M.grow H Q I J D K ?_ A⟩;rcases F with e|e
 ·exact Or.inl e
 ·exact Or.inr ⟨_,Zb _,e⟩
theorem ZdB (v:Value) (l:List Fc) (w:Wq) (h:RFcs w v l) (hq:∀x∈l,slC x) (gY:∀x∈l,x.f.id.size<=16777216) (hn:l.length<=1000000):
 Calls prog 64 #[v,.func (.func 65) #[] #[]] w λx w'=>∃v' gv,x= .returned v'/\GrpsC w' w.heap.size v' l (firstsC l) gv/\Ext w w':=by
 obtain ⟨i0,gT,g4,g5,g6⟩:=Yw ZbB;obtain ⟨i1,fh,fm,fn,fo⟩:=Yw Zg0;obtain ⟨A,c,rfl,fj,fg⟩:=h.form;have fz:= @run_makeMap prog;have fb:=gd gY;have gF:=gd hq;clear fj fg gY hq;go_enter func64,ntmps64;go_wp2;go_loopw [6,14] (λo i wr=>∃(k:Nat) (gv:List Value) (D:DataW Unit),k<=l.length/\i=nI k/\GrpsC wr (w.heap.size+1) o (l.take k) (firstsC (l.take k)) gv/\wr.ownsMap prog 9 (plainElem prog 3) w.heap.size k D/\Hid (IdxMap D (firstsC (l.take k)))/\Ext w wr/\w.heap.size+1<=wr.heap.size) (λ_ i _=>l.length - (intOf i).toNat)
 case atStart=>exact ⟨0,[],.map [],Zk _,rfl,GrpsC.nil _ _,World.ownsMap_made _ _ _ _,IdxMap.nil,(Ext.refl _).alloc _,by simp⟩
 case round=>
  obtain ⟨k,gv,D,hk,rfl,Y,hM,hD,hx,hws⟩:=hrel;by_cases hm:k<l.length
  ·obtain ⟨ad,c',hv,hl⟩:=(h.ext hx).at hm;injection hv with hv1 hv2 X;subst hv1;clear hv2 X;have fl:=fb.out l[k] (ZL hm);have hq:=gF.out l[k] (ZL hm);have hZ:=Zx hm;have hX:=G5 (l.take k) l[k];rw[<-hZ] at hX;have gq:=In (l.take k);rw[ZD] at gq;have hz:=Y.len;have hY:=Zat (l.take k);obtain ⟨x,g2⟩:∃x,l[k]=x:=⟨_,rfl⟩;rw[g2] at hl fl hq hZ hX;have gE:=gd hq;have gG:=gd hZ;have gx:=gd hX;clear hZ hX g2;have hN:=ZdC (l.take k) x.f.id;rw[ZD] at hN;have Q:keyOf prog 9 (.string x.f.id)=some (.string x.f.id.data.toList):=keyOf_string_mk underlying9 (by unfold maxLen;omega);have hi:=gd (λw'=>Zim x.p x.es x.f w');have ft:(0:Int)<=(k:Int):=(by omega);have fy:(k:Int)<(l.length:Int):=(by omega);have hE:=hD.out.2 x.f.id;obtain ⟨a0,a1,a2,a3,a4,a5⟩:=hl;by_cases I:x.f.id∈firstsC (l.take k)
   ·have hf:Maps.has D (.string x.f.id.data.toList)=true:=hE.1.2 I;obtain ⟨j,hj⟩:=List.mem_iff_getElem?.1 I;have gV:=hE.2 j hj;have gW:j<gv.length:=(by rw[hz];exact (ZM.1 hj).1);have g8:=gd gV;have hA:=gd hf;have ht:=gd I;obtain ⟨g,cap,ho,h3⟩:∃g cap,(_:Value)= .slice (some ⟨g,0,none⟩) gv.length cap/\gv.length<=maxLen:=by
     rcases Y.row.2 with ⟨h1,h2⟩|⟨g,cap,fx,h1,_,_,h4,h5,_⟩
     ·omega
     ·exact ⟨g,cap,h1,Zu h4 h5⟩
    subst ho;obtain ⟨u,hu⟩:∃u,gv[j]? =some u:=⟨_,Zr gW⟩;have hp:=Y.each j x.f.id u hj hu;have gP:wr.cell? ⟨g,j,none⟩=some u:=(by rw[Y.row.cellAt j (by omega)];exact hu);have gQ:=Y.row.frozenAt j;have gO:=Y.row.lt g rfl;have h8:u.ownBlock≠some g:=by
     intro e;rcases hp.2 with ⟨rfl,_⟩|⟨b',c',fr,rfl,_,fe,_⟩
     ·cases e
     ·rcases Y.row.2 with ⟨h2,_⟩|⟨g',fw,fd,h2,_,gN,_⟩
      ·cases h2
      ·cases h2;cases e;rw[fe] at gN;simp at gN
    have gZ:u.ownBlock≠some w.heap.size:=(by intro e;have:=(hp.lt _ e).1;omega);have fa:=gd hp;have gc:=gd hu;have gb:=gd hj;have gh:=gd h8;have gg:=gd gZ;have hw:=gd gO;have gX:(j:Int)<(gv.length:Int):=(by omega);have gU:(0:Int)<=(j:Int):=(by omega);have hh:Hid (((grpC (l.take k) x.f.id).length+1)*104<=140737488355328):=gd (by omega);have ge:Hid ((grpC (l.take k) x.f.id).length+1<=maxLen):=gd (by unfold maxLen;omega);have gR:gv.length<=9223372036854775807:=(by omega);have gy:=gd hz;have fq:=gd h3;clear gV hf I hE hp hu hj h8 gZ gO hz h3 gW hN gq;obtain ⟨xp,fp,⟨hs,q,K,S,hg,hr⟩⟩:=x;obtain ⟨⟨xA,xn,xc,hU⟩,⟨xB,xm,xd,hT⟩⟩:=hq;simp only at hU hT;subst hU hT;simp only at a0 a1 a2 a3 a4 a5 Q;unfold fCells at hi;dsimp only at hi
    go_wp2_with (first|(go_at_call 65;refine (hi.out _).mono ?_;rintro e w2 ⟨rfl,J⟩;(have e0:=J.boxed 0 _ rfl);(have e1:=J.boxed 1 _ rfl);(have e2:=J.boxed 2 _ rfl);(have e3:=J.boxed 3 _ rfl);(have e4:=J.boxed 4 _ rfl);(have e5:=J.boxed 5 _ rfl);(have M:=(((Ext.refl wr).alloc _).trans J));(have hd:=M.cell gP);(have hK:=(Jo M hw.out.2).trans gQ))|(at_lookup;refine wpList_lookup_own_ok_int _ rfl (.tmp 19) (.tmp 22) _ rfl 9 3 .i64 Ur underlying162 underlying3 (IU _) w.heap.size k D rfl ((hM.kept (((Ext.refl wr).alloc _).grown none) (by simp)).kept (J.grown none) (by simp)) _ _ rfl Q ?_;intro c hl gs;(have gM:c=(j:Int):=by (have e:=g8.out.symm.trans hl;injection e with e;injection e with _ e;exact e.symm));rw[hA.out,gM];clear hl gs gM c))
    have fv:=gd M;have h9:=gd (Y.ext M);have hW:=gd (hM.kept (M.grown none) (by simp));have Z:=gd (OFcs.ext fa.out M);have gk:=gd (hx.trans M);have gi:=gd (Zu hws M.size);have gf:=gd hY;clear Y hM Q a0 a1 a2 a3 a4 a5 gP gQ J hY;have gS:g<w2.heap.size:=ZS w2 _ hd;have gL:wr.heap.size<w2.heap.size:=ZS w2 _ e0
    go_region_law (first|(refine ZV _ (by rfl) (.tmp 43) (.tmp 45) _ (by rfl) (w.heap.size+1) 55 i0 _ 6 104 underlying29 gT g4 g5 g6 rfl (by decide) u (grpC (l.take k) q).length (flatC (grpC (l.take k) q)) (by rfl) (Ye Z.out (by repeat (first|exact Ext.refl _|apply Ext.drew|apply Ext.alloc))) _ 1 (cellsC ⟨.slice xA xn xc,.slice xB xm xd,⟨hs,q,K,S,hg,hr⟩⟩) (by rfl) (RSl.ext (Yn rfl (by decide)) (by repeat (first|exact Ext.refl _|apply Ext.drew))) (Jv gE.out) ge.out hh.out (Zu gi.out (by simp)) ?_;intro v3 w3 H U hc;(obtain ⟨g3,F,X,ff⟩:∃g3 F,v3= .slice (some ⟨g3,0,none⟩) ((grpC (l.take k) q).length+1) F/\True:=by (obtain ⟨g3,F,X,_⟩:=H.form (by omega);exact ⟨g3,F,X,trivial⟩));subst X;(have V:=GrpsC.grow' h9.out (Ext.refl _) (by repeat (first|exact Ext.refl _|apply Ext.drew|apply Ext.alloc)) gf.out gb.out gc.out rfl H U hc gh.out);(have hJ:=V.1);(have hL:=V.2.1);(have hP:=(hW.out.kept ((show Ext w2 _ from by repeat (first|exact Ext.refl _|apply Ext.drew|apply Ext.alloc)).grown none) (by simp)).kept U (λe=>gg.out e.symm));(have hR:Ext w w3:=Ext.grown' (B:=0) (Ext.trans gk.out (by repeat (first|exact Ext.refl _|apply Ext.drew|apply Ext.alloc))) U (λb hb=>Zu (Yf _) (Z.out.lt b hb).1))))
    all_goals
     have he:=V.2.2
     have ga:=gd he
     have hB:=gd (hP.setCell (a:=⟨g,j,none⟩) (show w.heap.size≠g by have:=hw.out.1;omega) (.slice (some ⟨g3,0,none⟩) ((grpC (l.take k) q).length+1) F))
     have gj:=gd (hR.setCell (p:=⟨g,j,none⟩) (show w.heap.size<=g by have:=hw.out.1;omega) (.slice (some ⟨g3,0,none⟩) ((grpC (l.take k) q).length+1) F))
     clear V he hP hR H U hc hJ hL e0 e1 e2 e3 e4 e5 hd hK M
     go_wp2
     go_roundw
     case rel=>
      have hF:firstsC (l.take (k+1))=firstsC (l.take k):=gx.out.trans (Zh ht.out)
      exact ⟨k+1,gv.set j _,D,hm,by go_num,by rw[hF,gG.out];exact ga.out,hB.out.mono (Yf _),by rw[hF];exact hD,gj.out,hB.out.lt⟩
     case measure=>simp[intOf];omega
   ·have hf:Maps.has D (.string x.f.id.data.toList)=false:=by
     cases hb:Maps.has D (.string x.f.id.data.toList) with
     |false=>rfl
     |true=>exact absurd (hE.1.1 hb) I
    have hQ:=hD.out.put (s:=x.f.id) I;rw[<-hz] at hQ;have gD:=gd hQ;have hA:=gd hf;have ht:=gd I;have hC:=gd (Zck I);have gy:=gd hz;have g0:(Lit.int .i64 (gv.length:Nat)).wf=true:=(by simp only[Lit.wf,IntKind.min,IntKind.max,ZZ];simp[IntKind.signed,IntKind.bits];omega);have fc:=gd g0;have h0:=Zg wr (.cells (cellsC x).toArray 55);have hV:=gd h0;have gw:Hid ((gv.length+1)*24<=140737488355328):=gd (by omega);have gB:Hid (gv.length+1<=maxLen):=gd (by unfold maxLen;omega);have g9:Hid (k<maxLen):=gd (by unfold maxLen;omega);have gR:gv.length<=9223372036854775806:=(by omega);clear hf I hQ g0 h0 hE gq hN hz;obtain ⟨xp,fp,⟨hs,q,K,S,hg,hr⟩⟩:=x;obtain ⟨⟨xA,xn,xc,hU⟩,⟨xB,xm,xd,hT⟩⟩:=hq;simp only at hU hT;subst hU hT;simp only at a0 a1 a2 a3 a4 a5 Q;unfold cellsC at hV;unfold fCells at hi hV;dsimp only at hi hV;obtain ⟨gA,gC,ho⟩:=Y.form;subst ho;have g7:True:=trivial
    go_wp2_with (first|(clear g7;go_at_call 65;refine (hi.out _).mono ?_;rintro e w2 ⟨rfl,J⟩;(have gn:=J.heap hV.out);(obtain ⟨e0,e1,e2,e3,e4,e5⟩:=Zku gn);(have M:=(((Ext.refl wr).alloc _).trans J)))|(at_lookup;refine wpList_lookup_own_ok_int _ rfl (.tmp 19) (.tmp 22) _ rfl 9 3 .i64 Ur underlying162 underlying3 (IU _) w.heap.size k D rfl ((hM.kept (((Ext.refl wr).alloc _).grown none) (by simp)).kept (J.grown none) (by simp)) _ _ rfl Q ?_;intro c hl gs;rw[hA.out];clear hl gs)|(go_at_call 65;refine (hi.out _).mono ?_;rintro e w4 ⟨rfl,gt⟩;(have go:=gt.heap gn);(have hS:=M.trans gt))|(at_mapUpdate;refine Ua _ rfl (.tmp 30) (.tmp 33) (.tmp 34) 162 rfl 9 3 Ur underlying162 _ w.heap.size k D rfl (hM.kept (hS.grown none) (by simp)) g9.out _ _ _ rfl rfl Q _ [] (plainElem_int underlying3 fc.out) ?_;intro w5 gm hH)|(at_builtin;refine ZJ _ rfl (.tmp 35) (.tmp 36) _ rfl (w.heap.size+1) 29 i1 _ 1 24 underlying117 fh fm fn fo rfl (by decide) _ gv.length gv rfl ((((Y.ext hS).kept hH (YK _)).row).alloc _) _ 1 [sN] rfl (Yn rfl (by decide)) (by intro y hy;simp at hy;subst hy;rfl) gB.out gw.out ?_ ?_;(have:=gm.lt;simp;omega);intro v6 w6 R hI gJ))
    obtain ⟨g,cap,fk,h6,h7⟩:=R.form (ZeM _);subst fk;have g1:Ext w w5:=Ext.grown' (B:=0) (hx.trans hS) hH (λb hb=>by cases hb;exact Zb _);have gH:=(Y.ext hS).kept hH (YK _);have hO:gv.length+1=(gv++ [Value.slice none 0 0]).length:=(by simp);have gl:=GrpsC.more (gH.ext ((Ext.refl _).alloc _)) hC.out R hI;rw[hO] at gl;have h9:=gd gl;have gr:∀b,(Value.slice gA gv.length gC).ownBlock=some b->w.heap.size+1<=b:=λb hb=>(Y.row.lt b hb).1;have hW:=gd ((gm.alloc _).kept hI (λe=>by have:=gr _ e.symm;omega));have gk:=gd (Ext.grown' (B:=0) (g1.alloc _) hI (λb hb=>Zu (Yf _) (gr b hb)));have hp:OFcs w6 (w.heap.size+1) sN (grpC (l.take k) q):=(by rw[hC.out];exact OFcs.nil _ _);have Z:=gd hp;have gI:w.heap.size+1<=w6.heap.size:=hW.out.lt;have gi:=gd gI;have gp:w5.heap[wr.heap.size]? =some (.cells #[.slice xA xn xc,.string q,.string K,.string S,nI hg,.slice xB xm xd] 55):=(by rw[hH.block wr.heap.size (ZS w4 ⟨wr.heap.size,0,none⟩ (by rw[Xc _ _ _ _ _ _ go];rfl)) (by simp;omega)];exact go);have gK:w6.heap[wr.heap.size]? =some (.cells #[.slice xA xn xc,.string q,.string K,.string S,nI hg,.slice xB xm xd] 55):=(by rw[hI.block wr.heap.size (by have:wr.heap.size<w5.heap.size:=ZS w5 ⟨wr.heap.size,0,none⟩ (by rw[Xc _ _ _ _ _ _ gp];rfl);simp;omega) (λe=>by have:=(Y.row.lt _ e.symm).2;omega)];exact ((Ext.refl w5).alloc _).heap gp);have gf:Hid ((firstsC (l.take k)++ [q]).Pairwise (· ≠ ·)):=gd (by
     rw[List.pairwise_append];exact ⟨hY,by simp,λa ha b hb=>by simp at hb;subst hb;rintro rfl;exact ht.out ha⟩)
    have gb:Hid ((firstsC (l.take k)++ [q])[gv.length]? =some q):=gd (by rw[gy.out];simp);have gc:Hid ((gv++ [Value.slice none 0 0])[gv.length]? =some sN):=gd (by simp);have gh:Hid ((Value.slice none 0 0).ownBlock≠some g):=gd (by intro e;cases e);have gg:Hid ((Value.slice none 0 0).ownBlock≠some w.heap.size):=gd (by intro e;cases e);have hw:=gd (Vg h6 h7);have hd:w6.cell? ⟨g,gv.length,none⟩=some sN:=(by rw[R.cellAt gv.length (by omega)];simp);have hK:w6.frozen? ⟨g,gv.length,none⟩=false:=R.frozenAt gv.length;have gX:(gv.length:Int)<((gv.length:Nat):Int)+1:=(by omega);have fu:gv.length<gv.length+1:=(by omega);have gU:(0:Int)<=(gv.length:Int):=(by omega);have hh:Hid ((grpC (l.take k) q).length+1<=1/\True):=gd ⟨by rw[hC.out];simp,trivial⟩;have ge:Hid ((grpC (l.take k) q).length+1<=maxLen):=gd (Zu hh.out.1 (by decide));have gu:Hid (((grpC (l.take k) q).length+1)*104<=140737488355328):=gd (by have:=hh.out.1;omega);clear hh;have hh:=gu;have gz:=gd hO;clear e0 e1 e2 e3 e4 e5;obtain ⟨e0,e1,e2,e3,e4,e5⟩:=Zku gK;clear Y gH gl hM gm Q a0 a1 a2 a3 a4 a5 J gt M hS gn go gp gK hH hI gJ R g1 gr hp gI hO h6 h7 hY;have gS:g<w6.heap.size:=ZS w6 _ hd;have gL:wr.heap.size<w6.heap.size:=ZS w6 _ e0
    go_region_law (first|(refine ZV _ (by rfl) (.tmp 43) (.tmp 45) _ (by rfl) (w.heap.size+1) 55 i0 _ 6 104 underlying29 gT g4 g5 g6 rfl (by decide) sN (grpC (l.take k) q).length (flatC (grpC (l.take k) q)) (by rfl) (Ye Z.out (by repeat (first|exact Ext.refl _|apply Ext.drew|apply Ext.alloc))) _ 1 (cellsC ⟨.slice xA xn xc,.slice xB xm xd,⟨hs,q,K,S,hg,hr⟩⟩) (by rfl) (RSl.ext (Yn rfl (by decide)) (by repeat (first|exact Ext.refl _|apply Ext.drew))) (Jv gE.out) ge.out hh.out (Zu gi.out (by simp)) ?_;intro v3 w3 H U hc;(obtain ⟨g3,F,X,ff⟩:∃g3 F,v3= .slice (some ⟨g3,0,none⟩) ((grpC (l.take k) q).length+1) F/\True:=by (obtain ⟨g3,F,X,_⟩:=H.form (by omega);exact ⟨g3,F,X,trivial⟩));subst X;(have V:=GrpsC.grow' h9.out (Ext.refl _) (by repeat (first|exact Ext.refl _|apply Ext.drew|apply Ext.alloc)) gf.out gb.out gc.out rfl H U hc gh.out);(have hJ:=V.1);(have hL:=V.2.1);(have hP:=(hW.out.kept ((show Ext w6 _ from by repeat (first|exact Ext.refl _|apply Ext.drew|apply Ext.alloc)).grown none) (by simp)).kept U (λe=>gg.out e.symm));(have hR:Ext w w3:=Ext.grown' (B:=0) (Ext.trans gk.out (by repeat (first|exact Ext.refl _|apply Ext.drew|apply Ext.alloc))) U (λb hb=>Zu (Yf _) (Z.out.lt b hb).1))))
    all_goals
     have he:=V.2.2
     have ga:=gd he
     have hB:=gd (hP.setCell (a:=⟨g,gv.length,none⟩) (show w.heap.size≠g by have:=hw.out.1;omega) (.slice (some ⟨g3,0,none⟩) ((grpC (l.take k) q).length+1) F))
     have gj:=gd (hR.setCell (p:=⟨g,gv.length,none⟩) (show w.heap.size<=g by have:=hw.out.1;omega) (.slice (some ⟨g3,0,none⟩) ((grpC (l.take k) q).length+1) F))
     clear V he hP hR H U hc hJ hL e0 e1 e2 e3 e4 e5 hd hK
     go_wp2
     go_roundw
     case rel=>
      have hF:firstsC (l.take (k+1))=firstsC (l.take k)++ [q]:=gx.out.trans (Ze ht.out)
      exact ⟨k+1,(gv++ [Value.slice none 0 0]).set gv.length _,D.put (.string q.data.toList) (.lit (.int .i64 (gv.length:Nat))),hm,by go_num,by rw[hF,gG.out,gz.out];exact ga.out,hB.out,by rw[hF];exact gD.out,gj.out,hB.out.lt⟩
     case measure=>simp[intOf];omega
  ·have fi:k=l.length:=(by omega);subst fi;rw[ZT (Zb _)] at Y hD;have HG:=gd Y;clear Y hD hM hk hm;go_wp2;go_ret;refine ⟨_,gv,rfl,?_,hx⟩;have h1:=HG.out;exact ⟨h1.len,XM h1.row (Yf _),λj s u hj hu=>(h1.each j s u hj hu).mono (Yf _),h1.apart⟩
end
def withE (f:Fd) (l:List Ent):Fd:={f with ents:=l}
theorem Zci (a b:Fd) (x y:List Ent):laterF (withE a x) (withE b y)=laterF a b:=by
 unfold laterF;rw[show feedKey (withE a x)=feedKey a from rfl,show feedKey (withE b y)=feedKey b from rfl];rw[show (withE a x).upd=a.upd from rfl,show (withE b y).upd=b.upd from rfl];cases laterB (iCmp a.upd b.upd) (feedKey a) (feedKey b)<;>rfl
theorem Zcj (a b:Fd) (x:List Ent):laterF (withE a x) b=laterF a b:=Zci a b x b.ents
theorem G6:∀(t:List Fd) (a:Fd) (x z:List Ent),withE (t.foldl laterF (withE a x)) z=withE (t.foldl laterF a) z
 | [],_,_,_=>rfl
 |h::t,a,x,z=>by rw[List.foldl_cons,List.foldl_cons,Zcj]
theorem EG:∀(t:List Fd) (g:Fd),ordE.canon g.ents=g.ents->t.foldl joinF g=withE (t.foldl laterF g) (ordE.canon (g.ents++(t.map Fd.ents).flatten))
 | [],g,h=>by
  rw[Yv,List.flatten_nil,Yi,h]
  rfl
 |x::t,g,h=>by
  have q:joinF g x=withE (laterF g x) (ordE.canon (g.ents++x.ents)):=by
   rw[ordE.canon_append,h]
   rfl
  rw[List.foldl_cons,EG t (joinF g x) (by rw[q];exact ordE.canon_canon _),q,G6,List.foldl_cons]
  refine Zz (withE _) ?_
  show ordE.canon (ordE.canon (g.ents++x.ents)++(t.map Fd.ents).flatten)=_
  rw[ordE.canon_append,ordE.canon_canon,<-ordE.canon_append,ZN,ZP,Jh]
def jF (l:List Fd) (s:ByteArray):Fd:=(ordF.got l s).getD zeroF
theorem ZdL (l:List Fd):ordF.joined l=(ordF.firsts l).map (jF l):=by
 have A:∀fs:List ByteArray,(∀s∈fs,s∈ordF.firsts l)->fs.filterMap (ordF.got l)=fs.map (jF l):=by
  intro fs
  induction fs with
  |nil=>intro _;rfl
  |cons s t ih=>intro h;obtain ⟨x,D⟩:=(Ord.got_isSome_iff (O:=ordF) l s).2 ((ordF.mem_firsts l s).1 (h s (by simp)));rw[List.filterMap_cons_some D,ZP,ih λs q=>h s (by simp[q])];unfold jF;rw[D];rfl
 exact A _ λs q=>q
theorem ZjV {l:List Fd} {s:ByteArray} {x:Fd} {t:List Fd} (h:(l.filter λx=>decide (x.id=s))=x::t) (A:ordE.canon x.ents=x.ents):
 jF l s=withE (t.foldl laterF x) (ordE.canon (x.ents++(t.map Fd.ents).flatten)):=by
 rw[<-EG t x A];unfold jF Ord.got;have q:(l.filter λx=>decide (ordF.id x=s))=x::t:=h;rw[q];rfl
section
theorem Qr:∀(l out:List UInt8) (g:Bool),(collGo l out g).length<=out.length+l.length+(if g=true then 1 else 0)
 | [],out,g=>by simp only[collGo,ZK];omega
 |c::t,out,g=>by
  simp only[collGo]
  by_cases h:isSp c.toNat=true
  ·rw[Zh h]
   have:=Qr t out (!out.isEmpty)
   rw[Zf]
   split at this<;>omega
  ·rw[Ze h]
   have:=Qr t (out++(if g=true then [32] else [])++ [c]) false
   simp only[JG,ZkC,Zc,Zf,ZK] at this
   rw[Zf]
   cases g
   ·simp only[JG,ZkC,ZK] at this|-;omega
   ·simp only[Zjw,Zf,ZK] at this|-;omega
theorem YX (s:ByteArray):(collapse s).size<=s.size:=by
 unfold collapse coll;rw[Yu];have:=Qr s.data.toList [] false;simp only[JG,ZkC,ZK] at this;rw[ZI] at this;omega
theorem Zdl {e:Ent} (h:eok e):eok (collE e):=by
 obtain ⟨q,A⟩:=h;refine ⟨q,?_⟩;have a:=YX e.id;have b:=YX e.title;have c:=YX e.link;have d:=YX e.content;show (collapse e.id).size+(collapse e.title).size+(collapse e.link).size+(collapse e.content).size<=16777216;omega
theorem E8:∀l:List ByteArray,sizes (l.map collapse)<=sizes l
 | []=>Zb _
 |s::t=>by
  have h:=E8 t
  have a:=YX s
  unfold sizes at*
  simp only[ZP,Uk] at h|-
  omega
theorem Zio {f:Fd} (h:fok f):fok (collF f):=by
 obtain ⟨q,A⟩:=h;refine ⟨q,?_⟩;have a:=YX f.id;have b:=YX f.title;have c:=YX f.link;have d:=E8 f.path;show (f.path.map collapse).length+sizes (f.path.map collapse)+(collapse f.id).size+(collapse f.title).size+(collapse f.link).size<=16777216;rw[Zs];omega
theorem Zby:∀(t:List Ent) (x:Ent),t.foldl laterE x∈x::t
 | [],x=>by simp
 |y::t,x=>by
  have h:=Zby t (laterE x y)
  rw[List.foldl_cons]
  rcases ZF.1 h with h|h
  ·rw[h]
   unfold laterE
   split<;>simp
  ·simp[h]
theorem ZeV {l:List Ent} {x:Ent} (h:x∈ordE.canon l):x∈l:=by
 have q:=((ordE.canon_is l).2 x).1 h;unfold Ord.got at q;cases hf:l.filter λy=>decide (ordE.id y=ordE.id x) with
 |nil=>rw[hf] at q;cases q
 |cons y t=>
  rw[hf] at q;have D:t.foldl laterE y=x:=by unfold Ord.fold1 at q;injection q
  have A:=Zby t y;rw[D,<-hf] at A;exact (Y1.1 A).1
section
variable {α κ:Type} (O:Ord α κ)
theorem Zf5:∀(l:List α) (e:α),(O.ins l e).length=l.length+1
 | [],_=>rfl
 |x::t,e=>by
  unfold Ord.ins
  split
  ·rfl
  ·rw[Zf,Zf5 t e,Zf]
end
section
variable {α κ:Type} [DecidableEq κ] (O:Ord α κ)
theorem Zj8 (l:List α) (e:α):(O.put l e).length<=l.length+1:=by
 unfold Ord.put;rw[Zf5,O.scan_fst];have:=List.length_filter_le (λx=> !decide (O.id x=O.id e)) l;omega
theorem VO:∀(l s:List α),(l.foldl O.put s).length<=s.length+l.length
 | [],s=>by simp
 |x::t,s=>by
  have h:=VO t (O.put s x)
  have:=Zj8 O s x
  rw[List.foldl_cons,Zf]
  omega
theorem KG (l:List α):(O.canon l).length<=l.length:=by
 have:=VO O l [];unfold Ord.canon;simpa using this
end
theorem EJ {a b:Fd} (h:fok a) (q:fok b):fok (laterF a b):=by
 unfold laterF;cases laterB (iCmp a.upd b.upd) (feedKey a) (feedKey b)
 ·exact h
 ·exact q
theorem Zbv:∀(t:List Fd) (x:Fd),fok x->(∀y∈t,fok y)->fok (t.foldl laterF x)
 | [],_,h,_=>h
 |y::t,x,h,ht=>Zbv t _ (EJ h (ht y (by simp))) λz q=>ht z (by simp[q])
def fokS (f:Fd):Prop:=fok f/\f.ents.length<=1000000/\∀e∈f.ents,eok e
theorem Zbt {f:Fd} (h:fokS f):fokS (collF f):=by
 refine ⟨Zio h.1,?_,λe q=> ?_⟩
 ·show (ordE.canon (f.ents.map collE)).length<=1000000;have:=KG ordE (f.ents.map collE);rw[Zs] at this;have:=h.2.1;omega
 ·obtain ⟨x,A,rfl⟩:=Z3.1 (ZeV (show e∈ordE.canon (f.ents.map collE) from q));exact Zdl (h.2.2 x A)
end
section
variable {B c cap g i n:Nat} {W w w1:World} {v:Value} {z:ByteArray}
theorem ZbP:∀(l:List (Addr×ByteArray)) (w:Wq) (p:Addr×ByteArray) (u:Value),p∈l->(l.Pairwise λp q=>p.1≠q.1)->w.cell? p.1=some u->(setS w l).cell? p.1=some (.string p.2)
 | [],_,_,_,h,_,_=>by simp at h
 |q::t,w,p,u,h,hap,hu=>by
  have A:=XG.1 hap
  rcases ZF.1 h with h|h
  ·subst h
   rw[setS,UT t _ _ λr F=>(A.1 r F).symm]
   exact Gt _ _ _ hu
  ·have D:q.1≠p.1:=A.1 p h
   rw[setS]
   exact ZbP t _ p u h A.2 (by rw[Y8 w q.1 p.1 _ D];exact hu)
theorem Ext.setS {a:Wq}:∀(l:List (Addr×ByteArray)) {b:Wq},Ext a b->(∀p∈l,a.heap.size<=p.1.block)->Ext a (setS b l)
 | [],_,h,_=>h
 |p::t,b,h,hl=>Ext.setS t (h.setCell (hl p (by simp)) _) λq A=>hl q (by simp[A])
def ptrsAt (g:Nat):Nat->List ByteArray->List (Addr×ByteArray)
 |_,[]=> []
 |i,s::t=>(⟨g,i,none⟩,s)::ptrsAt g (i+1) t
theorem V0 (g:Nat):∀(l:List ByteArray) (i:Nat),(ptrsAt g i l).length=l.length
 | [],_=>rfl
 |s::t,i=>by rw[ptrsAt,Zf,V0 g t,Zf]
theorem VZ (g:Nat):∀(l:List ByteArray) (i k:Nat),(ptrsAt g i l)[k]? =l[k]?.map λs=>(⟨g,i+k,none⟩,s)
 | [],_,_=>by simp[ptrsAt]
 |s::t,i,0=>by simp[ptrsAt]
 |s::t,i,k+1=>by
  rw[ptrsAt,List.getElem?_cons_succ,VZ g t,List.getElem?_cons_succ]
  rw[show i+1+k=i+(k+1) by omega]
theorem UQ {l:List ByteArray} {p:Addr×ByteArray} (h:p∈ptrsAt g i l):∃k s,l[k]? =some s/\p=(⟨g,i+k,none⟩,s):=by
 obtain ⟨k,q⟩:=List.mem_iff_getElem?.1 h;rw[VZ] at q;cases hl:l[k]? with
 |none=>rw[hl] at q;cases q
 |some s=>rw[hl] at q;injection q with q;exact ⟨k,s,hl,q.symm⟩
theorem EU (g:Nat):∀(l:List ByteArray) (i:Nat),(ptrsAt g i l).map (·.2)=l
 | [],_=>rfl
 |s::t,i=>by rw[ptrsAt,ZP,EU g t]
theorem ET (g:Nat) (h:ByteArray->ByteArray):∀(l:List ByteArray) (i:Nat),(ptrsAt g i l).map (λp=>(p.1,h p.2))=ptrsAt g i (l.map h)
 | [],_=>rfl
 |s::t,i=>by rw[ptrsAt,ZP,ET g h t,ZP,ptrsAt]
theorem Kj (g:Nat):∀(l:List ByteArray) (i:Nat),(ptrsAt g i l).Pairwise λp q=>p.1≠q.1
 | [],_=>List.Pairwise.nil
 |s::t,i=>by
  rw[ptrsAt,XG]
  refine ⟨λp A=> ?_,Kj g t _⟩
  obtain ⟨k,s,_,rfl⟩:=UQ A
  intro e
  have h:=Zz Addr.off e
  simp only at h
  omega
def ptrsF (g b:Nat) (l:List ByteArray) (x y z:ByteArray):List (Addr×ByteArray):=ptrsAt g 0 l++ [(⟨b,1,none⟩,x),(⟨b,2,none⟩,y),(⟨b,3,none⟩,z)]
theorem ZhA (g b:Nat) (l:List ByteArray) (x y z:ByteArray):(ptrsF g b l x y z).length=l.length+3:=by unfold ptrsF;rw[Zc,V0];rfl
theorem KW (g b:Nat) (l:List ByteArray) (x y z:ByteArray):(ptrsF g b l x y z).map (·.2)=l++ [x,y,z]:=by unfold ptrsF;rw[ZR,EU];rfl
theorem ZhB (g b:Nat) (h:ByteArray->ByteArray) (l:List ByteArray) (x y z:ByteArray):(ptrsF g b l x y z).map (λp=>(p.1,h p.2))=ptrsF g b (l.map h) (h x) (h y) (h z):=by unfold ptrsF;rw[ZR,ET];rfl
theorem It {b:Nat} (h:g≠b) (l:List ByteArray) (x y z:ByteArray):(ptrsF g b l x y z).Pairwise λp q=>p.1≠q.1:=by
 unfold ptrsF;rw[List.pairwise_append];refine ⟨Kj g l 0,by simp,λp F q A=> ?_⟩;obtain ⟨k,s,_,rfl⟩:=UQ F;simp only[ZF,Ya,Xs] at A;intro e;have D:=Zz Addr.block e;rcases A with rfl|rfl|rfl<;>exact h D
theorem ZbN {b:Nat} {l:List ByteArray} {x y:ByteArray} {p:Addr×ByteArray} (h:p∈ptrsF g b l x y z):p.1.block=g\/p.1.block=b:=by
 unfold ptrsF at h;rcases Zt.1 h with h|h
 ·obtain ⟨k,s,_,rfl⟩:=UQ h;exact Or.inl rfl
 ·simp only[ZF,Ya,Xs] at h;rcases h with rfl|rfl|rfl<;>exact Or.inr rfl
theorem ZhC {b:Nat} {A:Option Addr} {l:List ByteArray} {x y x0 y0 z0:ByteArray} {p e t:Value} {ll:List ByteArray} (H:g≠b) (hl:ll.length=l.length)
 (hA:0<l.length->A=some ⟨g,0,none⟩) (hr:RStrs w (.slice A l.length cap) ll)
 (X:w.cell? ⟨b,0,none⟩=some p) (Y:w.cell? ⟨b,1,none⟩=some (.string x0)) (Z:w.cell? ⟨b,2,none⟩=some (.string y0)) (h3:w.cell? ⟨b,3,none⟩=some (.string z0)) (h4:w.cell? ⟨b,4,none⟩=some t) (h5:w.cell? ⟨b,5,none⟩=some e)
 (U:Ext (setS w (ptrsF g b l x y z)) w1):
 RStrs w1 (.slice A l.length cap) l/\w1.cell? ⟨b,0,none⟩=some p/\w1.cell? ⟨b,1,none⟩=some (.string x)/\w1.cell? ⟨b,2,none⟩=some (.string y)/\w1.cell? ⟨b,3,none⟩=some (.string z)/\w1.cell? ⟨b,4,none⟩=some t/\w1.cell? ⟨b,5,none⟩=some e:=by
 have R:=It H l x y z;have F:∀(i:Nat) (u:Value),(i=0\/i=4\/i=5)->w.cell? ⟨b,i,none⟩=some u->w1.cell? ⟨b,i,none⟩=some u:=by
  intro i u hi h;refine U.cell ?_;rw[UT _ _ _ λq D=> ?_]
  ·exact h
  ·unfold ptrsF at D;rcases Zt.1 D with D|D
   ·obtain ⟨k,s,_,rfl⟩:=UQ D;intro e;exact H (Zz Addr.block e)
   ·simp only[ZF,Ya,Xs] at D;intro e;have V:=Zz Addr.off e;rcases D with rfl|rfl|rfl<;>simp only at V<;>omega
 have J:∀(q:Addr×ByteArray) (u:Value),q∈ptrsF g b l x y z->w.cell? q.1=some u->w1.cell? q.1=some (.string q.2):=λq u D h=>U.cell (ZbP _ _ q u D R h);refine ⟨?_,F 0 p (Or.inl rfl) X,J (⟨b,1,none⟩,x) _ (by simp[ptrsF]) Y,J (⟨b,2,none⟩,y) _ (by simp[ptrsF]) Z,J (⟨b,3,none⟩,z) _ (by simp[ptrsF]) h3,F 4 t (Or.inr (Or.inl rfl)) h4,F 5 e (Or.inr (Or.inr rfl)) h5⟩;obtain ⟨q1,A',c',e1,q2,q3,q4,q5⟩:=hr;injection e1 with e1 e2 e3;subst e1 e3;refine ⟨by simp,A,cap,rfl,by omega,q3,q4,λj u h=> ?_⟩;rw[YD] at h;cases hlj:l[j]? with
 |none=>rw[hlj] at h;cases h
 |some s=>
  rw[hlj] at h;injection h with h;subst h;have hb:j<l.length:=(ZM.1 hlj).1;have K:=hA (by omega);subst K;refine ⟨_,rfl,?_⟩;have I:j<ll.length:=by omega
  obtain ⟨ad,M,S⟩:=q5 j (.string ll[j]) (by rw[YD,Zr I];rfl);injection M with M;subst M;have Q:(⟨g,0,none⟩:Addr).add j=⟨g,j,none⟩:=by unfold Addr.add;split<;>simp_all
  rw[Q] at S|-;refine J (⟨g,j,none⟩,s) _ ?_ S;unfold ptrsF;refine Zll _ (List.mem_iff_getElem?.2 ⟨j,?_⟩);rw[VZ,hlj];simp
theorem Qf:∀(l:List (Addr×ByteArray)) (w:Wq) (k:Nat),(∀p∈l,p.1.block≠k)->(setS w l).heap[k]? =w.heap[k]?
 | [],_,_,_=>rfl
 |p::t,w,k,h=>by
  rw[setS,Qf t _ k λq A=>h q (by simp[A])]
  simp only[World.setCell,Xd]
  rw[Ze (h p (by simp))]
theorem Yo (w:Wq) (a:Addr) (v:Value):w.grownBy (w.setCell a v) (some a.block):=
 ⟨rfl,rfl,rfl,by simp[World.setCell],λk _ h=>Z4 w a k v λe=>h (by rw[e])⟩
theorem Yr (w:Wq) (g:Nat) (cs:Array Value):w.grownBy (w.setRow g cs) (some g):=
 ⟨rfl,rfl,rfl,by simp[World.setRow],λk _ h=>ZY w g k cs λe=>h (by rw[e])⟩
theorem Zin {b:Nat} {A:Option Addr} {l:List ByteArray} {x y:ByteArray} (H:g≠b) (U:0<l.length->A=some ⟨g,0,none⟩)
 (q:W.ownsRow B 9 1 (.slice A l.length cap) l.length (l.map Value.string))
 (Q:W.cell? ⟨b,1,none⟩=some (.string x)) (R:W.cell? ⟨b,2,none⟩=some (.string y)) (S:W.cell? ⟨b,3,none⟩=some (.string z)) (J:W.frozen? ⟨b,1,none⟩=false) (K:W.frozen? ⟨b,2,none⟩=false) (M:W.frozen? ⟨b,3,none⟩=false)
 (X:∀s∈l++ [x,y,z],s.size<=16777216) (D:RSl W 1 v (l.length+3) ((ptrsF g b l x y z).map λp=>Value.pointer (some p.1))):Ptrs W v (ptrsF g b l x y z):=by
 refine ⟨by rw[ZhA];exact D,λp h=> ?_,λp h=> ?_,It H l x y z⟩
 ·unfold ptrsF at h;rcases Zt.1 h with h|h
  ·obtain ⟨k,s,I,rfl⟩:=UQ h;have V:k<l.length:=(ZM.1 I).1;have F:=U (by omega);subst F;have Y:0+k=k:=(by omega);simp only[Y];refine ⟨?_,q.frozenAt k⟩;rw[q.cellAt k (by omega),YD,I];rfl
  ·simp only[ZF,Ya,Xs] at h;rcases h with rfl|rfl|rfl
   ·exact ⟨Q,J⟩
   ·exact ⟨R,K⟩
   ·exact ⟨S,M⟩
 ·refine X _ ?_;have:p.2∈(ptrsF g b l x y z).map (·.2):=Z3.2 ⟨p,h,rfl⟩
  rwa [KW] at this
theorem Zei (g:Nat) (l:List ByteArray) (k:Nat) (q:k<l.length):((ptrsAt g 0 l).take (k+1)).map (λp=>Value.pointer (some p.1))=((ptrsAt g 0 l).take k).map (λp=>Value.pointer (some p.1))++ [.pointer (some ⟨g,k,none⟩)]:=by
 have h:k<(ptrsAt g 0 l).length:=by rw[V0];exact q
 rw[Zx h,ZR];have e:=VZ g l 0 k;rw[Zr h,Zr q] at e;injection e with e;rw[e];simp
theorem Zdm:∀(l:List Ent) (k:Nat) (q:k<l.length),(∀e∈l.take k,errE e=0)->errE l[k]≠0->errEs l=errE l[k]
 | [],k,q,_,_=>by simp at q
 |e::t,0,_,_,h=>by simp only[errEs];rw[Ze (by simpa using h)];rfl
 |e::t,k+1,q,h,h2=>by
  simp only[errEs]
  rw[Zh (h e (by simp)),Zdm t k (by simpa using q) (λx A=>h x (by simp[A])) (by simpa using h2)]
  rfl
theorem JN {A:Option Addr} {l:List ByteArray} (x:ByteArray) (V:n=l.length) (Q:0<l.length->A=some ⟨g,0,none⟩) (h:RStrs w (.slice A n c) l) (R:l.length<=9223372036854775807):
 Calls prog 104 #[.slice A n c,.string x] w λe w'=>e= .returned (.bool (l.any λs=>decide (s=x)))/\w'=w:=by
 subst V;rcases YY l.length with F|F
 ·have U:=Zw F;subst U;exact slices_Contains_string_empty A c x w
 ·have H:=Q F;subst H;have S:∀j,j<l.length->w.cell? ⟨g,0+j,none⟩=some (.string (l.getD j ByteArray.empty)):=by intro j K;obtain ⟨_,Y,Z,e,_,_,_,q⟩:=h;injection e with e1 e2 e3;subst e1;obtain ⟨ad,I,D⟩:=q j (.string l[j]) (by rw[YD,Zr K];rfl);injection I with I;subst I;have J:(⟨g,0,none⟩:Addr).add j=⟨g,0+j,none⟩:=(by unfold Addr.add;split<;>simp_all);rw[J] at D;rw[D,Yk,Zr K];rfl
  refine (slices_Contains_string g 0 l.length c l x w (Zb _) R S).mono ?_;rintro e w' ⟨rfl,rfl⟩;refine ⟨?_,rfl⟩;rw[ZT (Zb _)];refine Zz (λb=>Ending.returned (.bool b)) ?_;rw[Y0,Lib.containsS_iff,Xp];constructor
  ·intro h;exact ⟨x,h,by simp⟩
  ·rintro ⟨s,X,e⟩;have M:s=x:=(by simpa using e);rw[<-M];exact X
end
section
variable {B B' c g i:Nat} {b w:World} {l:List Fc} {u v:Value} {x:Fc}
theorem KZ:prog.underlying 29=some (.slice (prog.elem 29)):=by kernel_rfl
theorem E0 (w:Wq):(Go.sizeOf (prog.elem 29)).run prog w= .ok 6 w:=by kernel_rfl
theorem Ep (x:Fc) (t:List Fc):flatC (x::t)=cellsC x++flatC t:=by unfold flatC;simp
theorem UC:∀l:List Fc,(flatC l).length=l.length*6
 | []=>rfl
 |x::t=>by rw[Ep,Zc,UC t,ZeY,Zf];omega
theorem Zle {A:Option Addr} {t:List Fc} (h:RFcs w (.slice A (t.length+1) c) (x::t)):
 ∃v',(∀F:Wq,(Instr.slice 29 (.slice A (t.length+1) c) (some (nI 1)) none none).run prog F= .ok v' F)/\RFcs w v' t:=by
 refine ⟨sliced A 1 (t.length+1) c 6,λF=> ?_,?_⟩
 ·rw[run_slice_l (P:=prog) (w:=F) 29 A (t.length+1) c KZ .i64 1 (by omega) (by omega)];rw[E0];rfl
 ·obtain ⟨X,U,V,e,K,I,M,Q⟩:=h;injection e with e1 e2 e3;subst e1 e3;clear e2;have q:∀j u,(flatC t)[j]? =some u->∃ad,A=some ad/\w.cell? (ad.add (6+j))=some u:=by intro j u D;refine Q (6+j) u ?_;rw[Ep,Yl (by show 6<=6+j;omega)];simpa [cellsC,fCells] using D
  unfold sliced;have Y:t.length+1<=c:=by simpa using K
  refine ⟨UC t,?_⟩;by_cases R:c=1
  ·have S:t= []:=Zw (by omega);subst S;exact ⟨_,_,rfl,by simp,Zu (GQ _ _) I,λ_=>by omega,λj u D=>by simp[flatC] at D⟩
  ·cases A with
   |none=>have:=M rfl;omega
   |some ad=>refine ⟨some (ad.add 6),c - 1,by rw[Ze R];rfl,by omega,Zu (GQ _ _) I,(λe=>by cases e),λj u D=>⟨_,rfl,?_⟩⟩;obtain ⟨J,e,H⟩:=q j u D;injection e with e;subst e;rw[Vi];exact H
theorem Zir (l:List Fc) (s:ByteArray):(grpC l s).map Fc.f=(l.map Fc.f).filter λf=>decide (f.id=s):=by
 unfold grpC;rw[List.filter_map];rfl
theorem ZgW {s:ByteArray} (h:s∈firstsC l):∃x t,grpC l s=x::t:=by
 obtain ⟨x,q,e⟩:=(Is l s).1 h;have:x∈grpC l s:=by unfold grpC;exact Y1.2 ⟨q,by simpa using e⟩
 cases hg:grpC l s with
 |nil=>rw[hg] at this;simp at this
 |cons y t=>exact ⟨y,t,rfl⟩
def hdF (x:Fc) (t:List Fc):Fd:=(t.map Fc.f).foldl laterF x.f
def enF (x:Fc) (t:List Fc):List Ent:=x.f.ents++((t.map Fc.f).map Fd.ents).flatten
theorem Ziu (x:Fc) (t:List Fc) (y:Fc):hdF x (t++ [y])=laterF (hdF x t) y.f:=by unfold hdF;rw[ZR,List.foldl_append];rfl
theorem Zif (x:Fc) (t:List Fc) (y:Fc):enF x (t++ [y])=enF x t++y.f.ents:=by unfold enF;simp
theorem ZkF {s:ByteArray} {t:List Fc} (h:grpC l s=x::t) (q:ordE.canon x.f.ents=x.f.ents):jF (l.map Fc.f) s=withE (hdF x t) (ordE.canon (enF x t)):=by
 refine ZjV (l:=l.map Fc.f) (x:=x.f) (t:=t.map Fc.f) ?_ q;rw[<-Zir,h];rfl
theorem Zf2 (x:Fc) (t:List Fc) (q:fok x.f) (h:∀y∈t,fok y.f):fok (hdF x t):=Zbv _ _ q λy A=>by
 obtain ⟨z,D,rfl⟩:=Z3.1 A;exact h z D
theorem ZjJ {t:List Fc} (F:∀e∈x.f.ents,eok e) (D:∀y∈t,∀e∈y.f.ents,eok e):∀e∈enF x t,eok e:=by
 intro e h;unfold enF at h;rcases Zt.1 h with h|h
 ·exact F e h
 ·obtain ⟨l,A,h⟩:=Zkr.1 h;obtain ⟨f,q,rfl⟩:=Z3.1 A;obtain ⟨y,H,rfl⟩:=Z3.1 q;exact D y H e h
def allE (l:List Fc):Nat:=(l.map λx=>x.f.ents.length).sum
theorem G3:∀(t:List Fc) (x:Fc),(enF x t).length=allE (x::t)
 | [],x=>by unfold enF allE;simp
 |y::t,x=>by
  have h:=G3 t x
  unfold enF allE at*
  simp only[ZP,Jh,Zc,Uk] at h|-
  omega
theorem Qk (p:Fc->Bool):∀l:List Fc,allE (l.filter p)<=allE l
 | []=>Zb _
 |x::t=>by
  have h:=Qk p t
  unfold allE at*
  by_cases q:p x=true
  ·rw[List.filter_cons_of_pos q];simp only[ZP,Uk];omega
  ·rw[List.filter_cons_of_neg q];simp only[ZP,Uk];omega
theorem Za5 (h:RdC w x) {r:Option Nat} (A:∀q,r=some q->w.heap.size<=q):awayC x r:=by
 cases r with
 |none=>exact I0 h
 |some q=>exact QR h (A q rfl)
theorem ZaW (w:Wq) (g i:Nat) (u v:Value):(w.setCell ⟨g,i,none⟩ u).setCell ⟨g,i,none⟩ v=w.setCell ⟨g,i,none⟩ v:=by
 unfold World.setCell
 congr 1
 apply Array.ext_getElem?;intro k;simp only[Xd];by_cases h:g=k
 ·rw[Zh h,Zh h,Zh h,Option.map_map]
  congr 1
  funext o;cases o<;>simp
 ·rw[Ze h,Ze h,Ze h]
theorem ZcS (w:Wq) (g i:Nat) (v:Value) (h:w.cell? ⟨g,i,none⟩=some v):w.setCell ⟨g,i,none⟩ v=w:=by
 have F:(w.setCell ⟨g,i,none⟩ v).heap=w.heap:=by
  apply Array.ext_getElem?;intro k;by_cases D:k=g
  ·subst D;cases ho:w.heap[k]? with
   |none=>simp[World.setCell,Xd,ho]
   |some o=>
    cases o with
    |cells c e fr=>
     have q:c[i]? =some v:=(by rw[Xc _ _ _ _ _ _ ho] at h;exact h);have e1:c.setIfInBounds i v=c:=by
      apply Array.ext_getElem?;intro j;rw[Array.getElem?_setIfInBounds];by_cases A:i=j
      ·subst A;rw[Zh rfl,Zh (ZG.1 q).1,q]
      ·rw[Ze A]
     rw[setCell_eq_setRow w k i c e fr v ho,Zm w k c _ e fr ho,e1]
    |_=>simp[World.setCell,Xd,ho]
  ·exact Z4 w ⟨g,i,none⟩ k v D
 have e2:w.setCell ⟨g,i,none⟩ v={w with heap:=(w.setCell ⟨g,i,none⟩ v).heap}:=rfl;rw[e2,F]
theorem HFs.setCell (h:HFs w B v l) (D:g<B) (A:∀x∈l,awayC x (some g)):HFs (w.setCell ⟨g,i,none⟩ u) B v l:=
 ⟨Vq h.row (a:=⟨g,i,none⟩) (λe=>absurd (h.row.lt _ e).1 (show ¬B<=g by omega)) u,λx q=>(h.rd x q).grown (Yo w ⟨g,i,none⟩ u) (A x q),h.away⟩
theorem HFs.setRow (h:HFs w B v l) (F:g<B) (A:B'<=B) (D:∀x∈l,awayC x (some g)) (cs:Array Value):HFs (w.setRow g cs) B' v l:=
 ⟨XM (Jf h.row F cs) A,λx q=>(h.rd x q).grown (Yr w g cs) (D x q),h.away⟩
theorem Zcg (w:Wq) (p:Addr) (v:Value) (O:Obj):((w.setCell p v).alloc O).heap[w.heap.size]? =some O:=by
 have:=Zg (w.setCell p v) O
 rwa [show (w.setCell p v).heap.size=w.heap.size by simp[World.setCell]] at this
theorem Za4 (h:RdC w x) {r:Option Nat} (A:∀q,r=some q->awayC x (some q)):awayC x r:=by
 cases r with
 |none=>exact I0 h
 |some q=>exact A q rfl
theorem Zcb {a:Wq} (h:Ext (a.setCell ⟨g,i,none⟩ u) b):Ext (a.setCell ⟨g,i,none⟩ v) (b.setCell ⟨g,i,none⟩ v):=by
 have A:Below a.heap.size (a.setCell ⟨g,i,none⟩ u) b:=by
  have e:(a.setCell ⟨g,i,none⟩ u).heap.size=a.heap.size:=by simp[World.setCell]
  unfold Ext at h
  rwa [e] at h
 have q:=Ext.setBoth A ⟨g,i,none⟩ v;rw[ZaW] at q;have e2:(a.setCell ⟨g,i,none⟩ v).heap.size=a.heap.size:=by simp[World.setCell]
 unfold Ext;rw[e2];exact q
end
end Go.Proofs.YtnlafkgkcnenfaaGreatDoor
