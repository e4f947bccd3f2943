/- Parts of the proof: contracts and plain laws. -/
import Derived.Test.YtmfinhgobjbecaaGreatDoorA14
namespace Go.Proofs.YtmfinhgobjbecaaGreatDoor
open Go Go.RowKit _root_.Go.Proofs.Tryz
set_option linter.unusedVariables false
set_option linter.unusedSimpArgs false
set_option maxRecDepth 100000
set_option maxHeartbeats 16000000
theorem ZoK:(prog.info? 120).map (λi=>(i.zero,i.size,i.bytes))=some (some (.pointer none),1,8):=by kernel_rfl
theorem Zpb (l:List ByteArray):∀u∈l.map Value.string,u.oneCell'=true:=by
 intro u h;obtain ⟨s,_,rfl⟩:=Zrr.1 h;rfl
def zeroC:Fc:=⟨.slice none 0 0,.slice none 0 0,zeroF⟩
theorem Zdn (w:World):RdC w zeroC:=⟨RSl.nil w 1,RSl.nil w 5⟩
theorem KR (g:Option Nat):awayC zeroC g:=⟨Or.inl rfl,Or.inl rfl⟩
theorem Zfa {W:World} {v:Value} {g b:Nat} {l:List ByteArray} {x y z:ByteArray} (F:Env W) (H:Ptrs W v (ptrsF g b l x y z)) (D:firstErr (l++ [x,y,z])≠0):
 Calls prog 66 #[v] W λe w'=>e= .returned (.int .i64 (firstErr (l++ [x,y,z]):Nat))/\Ext W w':=by
 refine (Xe v _ W F H).mono ?_;rintro e w' ⟨A,C⟩;rw[Zam] at A C;exact ⟨A,C.elim (λh=>absurd h.1 D) λh=>h.2⟩
theorem Zgj {W:World} {v:Value} {g b cap:Nat} {A:Option Addr} {l:List ByteArray} {x y z:ByteArray} {p e t:Value} (hE:Env W) (hP:Ptrs W v (ptrsF g b l x y z)) (F:g≠b)
 (Z:0<l.length->A=some ⟨g,0,none⟩) (hr:RStrs W (.slice A l.length cap) l)
 (O:W.cell? ⟨b,0,none⟩=some p) (S:W.cell? ⟨b,1,none⟩=some (.string x)) (U:W.cell? ⟨b,2,none⟩=some (.string y)) (V:W.cell? ⟨b,3,none⟩=some (.string z)) (X:W.cell? ⟨b,4,none⟩=some t) (Y:W.cell? ⟨b,5,none⟩=some e) (R:W.frozen? ⟨b,5,none⟩=false)
 (hz:firstErr (l++ [x,y,z])=0):
 Calls prog 66 #[v] W λu w'=>u= .returned (.int .i64 0)/\RStrs w' (.slice A l.length cap) (l.map collapse)/\
  (w'.cell? ⟨b,0,none⟩=some p/\w'.cell? ⟨b,1,none⟩=some (.string (collapse x))/\w'.cell? ⟨b,2,none⟩=some (.string (collapse y))/\w'.cell? ⟨b,3,none⟩=some (.string (collapse z))/\w'.cell? ⟨b,4,none⟩=some t/\w'.cell? ⟨b,5,none⟩=some e)/\
  w'.frozen? ⟨b,5,none⟩=false/\(∀a:World,Ext a W->a.heap.size<=g->a.heap.size<=b->Ext a w')/\(∀k o,k≠g->k≠b->W.heap[k]? =some o->w'.heap[k]? =some o):=by
 refine (Xe v _ W hE hP).mono ?_;rintro u w' ⟨q1,q2⟩;rw[Zam,hz] at q1 q2;rw[ZlH] at q2;rcases q2 with ⟨_,q2⟩|⟨q2,_⟩
 ·have C:Ext (setS W (ptrsF g b (l.map collapse) (collapse x) (collapse y) (collapse z))) w':=by unfold Ext;rw[Gc];exact q2
  have h:l.length=(l.map collapse).length:=by simp
  have Q:=ZlI (l:=l.map collapse) (x:=collapse x) (y:=collapse y) (z:=collapse z) (A:=A) (cap:=cap) (ll:=l) F h (by rw[<-h];exact Z) (by rw[<-h];exact hr) O S U V X Y C;rw[<-h] at Q;obtain ⟨s0,s1⟩:=Q;have D:b<W.heap.size:=ZrL W _ O;refine ⟨q1,s0,s1,?_,λa ha hc hb=> ?_,λk o H I ho=> ?_⟩
  ·rw[Zss C (by rw[Gc];exact D),Qy];exact R
  ·refine Ext.trans (Ext.setS _ ha λq J=> ?_) C;rcases Zey J with e|e<;>rw[e]<;>assumption
  ·refine C.heap ?_;rw[VU _ _ _ λq J=> ?_]
   ·exact ho
   ·rcases Zey J with e|e<;>rw[e]
    ·exact λe=>H e.symm
    ·exact λe=>I e.symm
 ·exact absurd rfl q2
theorem Zfk (x:Fc) (w:World) (hE:Env w) (hk:fokS x.f) (hr:RdC w x):
 Calls prog 30 #[.agg (cellsC x).toArray] w λe w'=>∃y:Fc,e= .returned (.tuple #[.agg (cellsC y).toArray,.int .i64 (errF x.f:Nat)])/\y.f=normF x.f/\RdC w' y/\(∀g,g<w.heap.size->awayC y (some g))/\Ext w w':=by
 obtain ⟨i0,hM,hS,ht,hU⟩:=ZrE ZoK;obtain ⟨i1,fE,fJ,fK,fL⟩:=ZrE U8;obtain ⟨p,es,f⟩:=x;obtain ⟨F,hF⟩:∃F,f=F:=⟨_,rfl⟩;obtain ⟨EF,gp⟩:∃n,errF F=n:=⟨_,rfl⟩;obtain ⟨NF,gq⟩:∃n,normF F=n:=⟨_,rfl⟩;have e1:errF f=EF:=by rw[hF];exact gp
 have e2:normF f=NF:=by rw[hF];exact gq
 simp only[e1,e2];have hY:=gd gp;have hV:=gd gq;clear e1 e2 gp gq;have hw:Hid (∀n,errF F=n->n≠0->normF F=zeroF):=gd λn h h'=>by unfold normF;rw[h,ZqH h']
 obtain ⟨path,id,title,link,upd,ents⟩:=f;obtain ⟨gg,gf⟩:=hr;obtain ⟨⟨fI,fc⟩,gY,gx⟩:=hk;simp only at gg gf fc gY gx;have fQ:path.length<=16777216:=om
 have fv:Hid (∀s∈path++ [id,title,link],s.size<=16777216):=gd (by
  intro s hs;rcases Zq0.1 hs with hs|hs
  ·have:=Yd hs;omega
  ·simp only[Zq1,Zri,ZrD] at hs;rcases hs with rfl|rfl|rfl<;>omega)
 have gJ:=gd gx;have gG:=gd (λ(w':World) (h:Ext w w')=>Zkx p path.length (path.map Value.string) w' (gg.ext h) (Zpb path) om);have fq:=gd gf;have HF:=gd hF;obtain ⟨pA,pc,gz,_,_⟩:=gg.form;obtain ⟨eA,ec,fC,_,_⟩:=gf.form;subst gz fC;clear gg gf gx fc fI hF;unfold cellsC fCells;dsimp only;go_enter func30,ntmps30
 go_wp2_with (go_at_call 65;refine (gG.out _ (((Ext.refl w).alloc _).alloc _)).mono ?_;rintro e w1 ⟨p1,rfl,hQ,ga⟩;(obtain ⟨A1,Y,gz⟩:∃A c,p1= .slice A path.length c:=(by obtain ⟨A,c,e,_⟩:=(RSl.of_own hQ).2;exact ⟨A,c,e⟩));subst gz;have hi:=((Ext.refl _).alloc _).trans ga;have c0:=hi.boxed 0 _ rfl;have c1:=hi.boxed 1 _ rfl;have c2:=hi.boxed 2 _ rfl;have c3:=hi.boxed 3 _ rfl;have c4:=hi.boxed 4 _ rfl;have c5:=hi.boxed 5 _ rfl;have f0:=hi.boxedF 0;have f1:=hi.boxedF 1;have f2:=hi.boxedF 2;have f3:=hi.boxedF 3;have f5:=hi.boxedF 5)
 obtain ⟨W1,U⟩:∃W,W=w1.setCell ⟨w.heap.size,0,none⟩ (.slice A1 path.length Y):=⟨_,rfl⟩;rw[<-U];have hC:w1.ownsRow (w.heap.size+2) 9 1 (.slice A1 path.length Y) path.length (path.map Value.string):=Xy hQ (by rw[Zd,Zd];exact ZqE _);have b0:W1.cell? ⟨w.heap.size,0,none⟩=some (.slice A1 path.length Y):=by rw[U];exact ZsD _ _ _ c0
 have b1:W1.cell? ⟨w.heap.size,1,none⟩=some (.string id):=by rw[U,ZrS _ _ _ _ (by simp)];exact c1
 have b2:W1.cell? ⟨w.heap.size,2,none⟩=some (.string title):=by rw[U,ZrS _ _ _ _ (by simp)];exact c2
 have b3:W1.cell? ⟨w.heap.size,3,none⟩=some (.string link):=by rw[U,ZrS _ _ _ _ (by simp)];exact c3
 have b4:W1.cell? ⟨w.heap.size,4,none⟩=some (.int .i64 upd):=by rw[U,ZrS _ _ _ _ (by simp)];exact c4
 have b5:W1.cell? ⟨w.heap.size,5,none⟩=some (.slice eA ents.length ec):=by rw[U,ZrS _ _ _ _ (by simp)];exact c5
 have g1:W1.frozen? ⟨w.heap.size,1,none⟩=false:=by rw[U,Zse];exact f1
 have g2:W1.frozen? ⟨w.heap.size,2,none⟩=false:=by rw[U,Zse];exact f2
 have g3:W1.frozen? ⟨w.heap.size,3,none⟩=false:=by rw[U,Zse];exact f3
 have g5:W1.frozen? ⟨w.heap.size,5,none⟩=false:=by rw[U,Zse];exact f5
 have H:W1.ownsRow (w.heap.size+2) 9 1 (.slice A1 path.length Y) path.length (path.map Value.string):=by rw[U];exact ownsRow_setCell_other hC (a:=⟨w.heap.size,0,none⟩) (λe=>absurd (hC.lt _ e).1 (show ¬(w.heap.size+2<=w.heap.size) by omega)) _
 have fe:W1.heap[w.heap.size+1]? =some (.cells #[.slice none 0 0,.string ⟨#[]⟩,.string ⟨#[]⟩,.string ⟨#[]⟩,.int .i64 0,.slice none 0 0] 32):=by
  rw[U,ZrN _ _ _ _ (by simp)];refine ga.heap ?_;have:=ZqJ (w.alloc (.cells #[.slice pA path.length pc,.string id,.string title,.string link,.int .i64 upd,.slice eA ents.length ec] 32)) (.cells #[.slice none 0 0,.string ⟨#[]⟩,.string ⟨#[]⟩,.string ⟨#[]⟩,.int .i64 0,.slice none 0 0] 32)
  rwa [Zd] at this
 have gE:Ext w W1:=by rw[U];exact Ext.setCell ((((Ext.refl w).alloc _).alloc _).trans ga) (ZqE _) _
 have gS:=hE.ext gE;have fT:w.heap.size+2<=W1.heap.size:=by rw[U];have:=ga.size;rw[Zd,Zd] at this;show w.heap.size+2<=(w1.heap.modify _ _).size;rw[Array.size_modify];exact this
 obtain ⟨g,gZ,fP⟩:∃g,(0<path.length->A1=some ⟨g,0,none⟩)/\w.heap.size+2<=g:=by
  rcases ZrX path.length with h0|h0
  ·exact ⟨w.heap.size+2,λh=>by omega,ZqE _⟩
  ·obtain ⟨g,cap,e,hb,_⟩:=World.ownsRow.form H h0;injection e with e1 e2 e3;exact ⟨g,λ_=>e1,hb⟩
 have gi:=gd H;have hB:=gd gZ;have hu:=gd gE;have gL:=gd gS;clear U hQ hC H c0 c1 c2 c3 c4 c5 f0 f1 f2 f3 f5 hi ga gE gS gZ gG;go_loopw [4,19] (λo i wr=>∃k:Nat,k<=path.length/\i= .int .i64 k/\wr.ownsRow W1.heap.size 120 1 o k (((ptrsAt g 0 path).take k).map λq=>Value.pointer (some q.1))/\Ext W1 wr) (λ_ i _=>path.length - (intOf i).toNat)
 case atStart=>exact ⟨0,ZqO _,rfl,Zrt _ _ _ _,Ext.refl _⟩
 case round=>
  obtain ⟨k,hk,rfl,H,hx⟩:=hrel;by_cases hJ:k<path.length
  ·have gn:=hB.out om;subst gn;have d0:=hx.cell b0;have g4:(0:Int)<=(k:Int):=om;have g6:(k:Int)<(path.length:Int):=om;have gA:=Zhg g path k hJ;obtain ⟨X,hX⟩:∃X,((ptrsAt g 0 path).take k).map (λq=>Value.pointer (some q.1))=X:=⟨_,rfl⟩;rw[hX] at H gA;have ft:=gd gA;have hj:Hid ((k+1)*8<=140737488355328):=gd om;have hl:Hid (k+1<=maxLen):=gd (by unfold maxLen;omega);have Q:=gd H;have hg:=gd hx;have hws:=hx.size;clear gA hX H
   go_wp2_with (first|(at_builtin;refine Za _ rfl (.tmp 22) (.tmp 27) _ rfl W1.heap.size 120 i0 _ 1 8 underlying119 hM hS ht hU rfl (by decide) _ k X rfl (Q.out.alloc _) _ 1 [.pointer (some ⟨g,k,none⟩)] rfl (Zj rfl (by decide)) (by intro y hy;simp at hy;subst hy;rfl) hl.out hj.out ?_ ?_;(simp;omega);intro v3 w3 C hc ho;have D:Ext W1 w3:=Ext.app (hg.out.alloc _) hc (Q.out.alloc _) (ZqE _)))
   go_roundw
   case rel=>exact ⟨k+1,hJ,by go_num,by rw[ft.out];exact C,D⟩
   case measure=>simp[intOf];omega
  have gy:k=path.length:=om
  subst gy;rw[Zq4 (by rw[VC];exact ZqE _)] at H;have d0:=hx.cell b0;have d1:=hx.cell b1;have d2:=hx.cell b2;have d3:=hx.cell b3;have d4:=hx.cell b4;have d5:=hx.cell b5;obtain ⟨X,hX⟩:∃X,(ptrsAt g 0 path).map (λq=>Value.pointer (some q.1))=X:=⟨_,rfl⟩;rw[hX] at H;have g9:(ptrsF g w.heap.size path id title link).map (λq=>Value.pointer (some q.1))=X++ [.pointer (some ⟨w.heap.size,1,none⟩),.pointer (some ⟨w.heap.size,2,none⟩),.pointer (some ⟨w.heap.size,3,none⟩)]:=by unfold ptrsF;rw[Zrf,hX];rfl
  have fp:=gd g9;have Q:=gd H;have hg:=gd hx;have hws:=hx.size;have hj:Hid ((path.length+3)*8<=140737488355328):=gd om;have hl:Hid (path.length+3<=maxLen):=gd (by unfold maxLen;omega);have gj:g≠w.heap.size:=om
  have hP:∀(w4:World) (v4:Value),Ext W1 w4->w4.ownsRow W1.heap.size 120 1 v4 (path.length+3) (X++ [.pointer (some ⟨w.heap.size,1,none⟩),.pointer (some ⟨w.heap.size,2,none⟩),.pointer (some ⟨w.heap.size,3,none⟩)])->Ptrs w4 v4 (ptrsF g w.heap.size path id title link):=by intro w4 v4 R hR;have gs:w.heap.size<W1.heap.size:=om;refine ZmR (A:=A1) (cap:=Y) gj hB.out (Zt gi.out R) (R.cell b1) (R.cell b2) (R.cell b3) ((Zss R gs).trans g1) ((Zss R gs).trans g2) ((Zss R gs).trans g3) fv.out ?_;rw[fp.out];exact RSl.of_own hR
  have HP:=gd hP;have gk:RStrs W1 (.slice A1 path.length Y) path:=RSl.of_own gi.out;have fu:=gd gk;have HB:=gd (Zr9 b0 (Zr9 b1 (Zr9 b2 (Zr9 b3 (Zr9 b4 b5)))));have fm:=gd g5;have h2:=gd fe;clear hX g9 H hP gk b0 b1 b2 b3 b4 b5 g1 g2 g3 g5 fe hx;by_cases h0:firstErr (path++ [id,title,link])=0;have g0:errF F=if collapse id=noS\/(path.any λp=>decide (collapse p=noS))=true then 19 else if 64<path.length then 9 else if inT upd=true then errEs ents else 3:=by
   rw[<-HF.out];unfold errF headF strsF;simp only[h0,ne_eq,not_true_eq_false,ZsJ];split
   ·rfl
   ·split
    ·rfl
    ·split<;>rfl
  have hZ:=gd g0;have h6:((path.map collapse).any λs=>decide (s=⟨#[]⟩))=path.any λp=>decide (collapse p=noS):=by rw[List.any_map];rfl
  obtain ⟨Bp,go⟩:∃B,(path.any λp=>decide (collapse p=noS))=B:=⟨_,rfl⟩;rw[go] at h6;have hG:=gd h6;have gF:=gd go;have HT:=gd (λw'=>Kv upd w');have hL:=gd (λ(w4:World) (v4:Value) (R:Ext W1 w4) hR=>Zgj (W:=w4) (v:=v4) (g:=g) (b:=w.heap.size) (cap:=Y) (A:=A1) (l:=path) (x:=id) (y:=title) (z:=link) (gL.out.ext R) (HP.out w4 v4 R hR) gj hB.out (fu.out.ext R) (R.cell HB.out.1) (R.cell HB.out.2.1) (R.cell HB.out.2.2.1) (R.cell HB.out.2.2.2.1) (R.cell HB.out.2.2.2.2.1) (R.cell HB.out.2.2.2.2.2) ((Zss R (show w.heap.size<W1.heap.size by omega)).trans fm.out) h0);clear g0 h6 go h0;obtain ⟨ci,gc⟩:∃c,collapse id=c:=⟨_,rfl⟩;obtain ⟨ct,gu⟩:∃c,collapse title=c:=⟨_,rfl⟩;obtain ⟨cl,gt⟩:∃c,collapse link=c:=⟨_,rfl⟩;rw[gc,gu,gt] at hL;rw[gc] at hZ;have fh:=gd gc;have fi:=gd gu;have gH:=gd gt;clear gc gu gt;by_cases hW:ci=noS
  focus
   subst hW
   have fG:noS.toList= []:=(by rw[ZrC];rfl)
   unfold noS at hL
   have he:errF F=19:=by
    rw[hZ.out]
    rw[ZqN (Or.inl rfl)]
   have HN:=gd (hw.out _ he (by decide))
   have hh:=hY.out.symm.trans he
   subst hh
   clear he
   go_wp2_with (first|(at_builtin;refine Za _ rfl (.tmp 30) (.tmp 34) _ rfl W1.heap.size 120 i0 _ 1 8 underlying119 hM hS ht hU rfl (by decide) _ path.length X rfl (Q.out.alloc _) _ 3 [.pointer (some ⟨w.heap.size,1,none⟩),.pointer (some ⟨w.heap.size,2,none⟩),.pointer (some ⟨w.heap.size,3,none⟩)] rfl (Zj rfl (by decide)) (by intro y hy;simp at hy;rcases hy with rfl|rfl|rfl<;>rfl) hl.out hj.out ?_ ?_;(simp;omega);intro v3 w3 C hc ho;have D:Ext W1 w3:=Ext.app (hg.out.alloc _) hc (Q.out.alloc _) (ZqE _))|(go_at_call 66;have J:=hL.out _ _ D C;refine ZqD J ?_;clear J;rintro e w5 ⟨rfl,S,⟨q0,q1,q2,q3,q4,q5⟩,f5,hf,hd⟩;(have hp:Ext w w5:=hf w (hu.out.trans D) om (ZqE _));(have Z:=hd (w.heap.size+1) _ om om (D.heap h2.out));(have HC:=gd (Xu (w:=w5) (g:=g) (n:=path.length) (c:=Y) (A:=A1) (l:=path.map collapse) ⟨#[]⟩ (by simp) (by simpa using hB.out) S (by simp;omega)));rw[hG.out] at HC;clear hf hd)|(refine ZqF rfl 32 (.tmp 2) (.tmp 51) rfl (w.heap.size+1) _ rfl rfl _ _ Z Z4 rfl KD ?_))
  rotate_left
  have fG:=JQ hW;have gM:=gd hW;clear hW;cases Bp;have gU:¬(ci=noS\/(path.any λp=>decide (collapse p=noS))=true):=by
   rintro (h|h)
   ·exact gM.out h
   ·rw[gF.out] at h;cases h
  have gm:=gd gU;clear gU;by_cases ge:64<path.length
  focus
   have gW:(64:Int)<(path.length:Int):=om
   have he:errF F=9:=by
    rw[hZ.out]
    rw[ZqH gm.out,ZqN ge]
   have HN:=gd (hw.out _ he (by decide))
   have hh:=hY.out.symm.trans he
   subst hh
   clear he
   go_wp2_with (first|(at_builtin;refine Za _ rfl (.tmp 30) (.tmp 34) _ rfl W1.heap.size 120 i0 _ 1 8 underlying119 hM hS ht hU rfl (by decide) _ path.length X rfl (Q.out.alloc _) _ 3 [.pointer (some ⟨w.heap.size,1,none⟩),.pointer (some ⟨w.heap.size,2,none⟩),.pointer (some ⟨w.heap.size,3,none⟩)] rfl (Zj rfl (by decide)) (by intro y hy;simp at hy;rcases hy with rfl|rfl|rfl<;>rfl) hl.out hj.out ?_ ?_;(simp;omega);intro v3 w3 C hc ho;have D:Ext W1 w3:=Ext.app (hg.out.alloc _) hc (Q.out.alloc _) (ZqE _))|(go_at_call 66;have J:=hL.out _ _ D C;refine ZqD J ?_;clear J;rintro e w5 ⟨rfl,S,⟨q0,q1,q2,q3,q4,q5⟩,f5,hf,hd⟩;(have hp:Ext w w5:=hf w (hu.out.trans D) om (ZqE _));(have Z:=hd (w.heap.size+1) _ om om (D.heap h2.out));(have HC:=gd (Xu (w:=w5) (g:=g) (n:=path.length) (c:=Y) (A:=A1) (l:=path.map collapse) ⟨#[]⟩ (by simp) (by simpa using hB.out) S (by simp;omega)));rw[hG.out] at HC;clear hf hd)|(go_at_call 67;have J:=HC.out;refine ZqD J ?_;clear J;rintro e w6 ⟨rfl,rfl⟩)|(refine ZqF rfl 32 (.tmp 2) (.tmp 57) rfl (w.heap.size+1) _ rfl rfl _ _ Z Z4 rfl KD ?_))
  rotate_left
  have gW:¬(64:Int)<(path.length:Int):=om
  cases hti:inT upd
  focus
   rw[hti] at HT
   have he:errF F=3:=by
    rw[hZ.out]
    rw[ZqH gm.out,ZqH ge,hti];rfl
   have HN:=gd (hw.out _ he (by decide))
   have hh:=hY.out.symm.trans he
   subst hh
   clear he
   go_wp2_with (first|(at_builtin;refine Za _ rfl (.tmp 30) (.tmp 34) _ rfl W1.heap.size 120 i0 _ 1 8 underlying119 hM hS ht hU rfl (by decide) _ path.length X rfl (Q.out.alloc _) _ 3 [.pointer (some ⟨w.heap.size,1,none⟩),.pointer (some ⟨w.heap.size,2,none⟩),.pointer (some ⟨w.heap.size,3,none⟩)] rfl (Zj rfl (by decide)) (by intro y hy;simp at hy;rcases hy with rfl|rfl|rfl<;>rfl) hl.out hj.out ?_ ?_;(simp;omega);intro v3 w3 C hc ho;have D:Ext W1 w3:=Ext.app (hg.out.alloc _) hc (Q.out.alloc _) (ZqE _))|(go_at_call 66;have J:=hL.out _ _ D C;refine ZqD J ?_;clear J;rintro e w5 ⟨rfl,S,⟨q0,q1,q2,q3,q4,q5⟩,f5,hf,hd⟩;(have hp:Ext w w5:=hf w (hu.out.trans D) om (ZqE _));(have Z:=hd (w.heap.size+1) _ om om (D.heap h2.out));(have HC:=gd (Xu (w:=w5) (g:=g) (n:=path.length) (c:=Y) (A:=A1) (l:=path.map collapse) ⟨#[]⟩ (by simp) (by simpa using hB.out) S (by simp;omega)));rw[hG.out] at HC;clear hf hd)|(go_at_call 67;have J:=HC.out;refine ZqD J ?_;clear J;rintro e w6 ⟨rfl,rfl⟩)|(go_at_call 68;refine (HT.out _).mono ?_;rintro e w6 ⟨rfl,rfl⟩)|(refine ZqF rfl 32 (.tmp 2) (.tmp 63) rfl (w.heap.size+1) _ rfl rfl _ _ Z Z4 rfl KD ?_))
  rotate_left
  ·rw[hti] at HT;have he:errF F=errEs ents:=(by rw[hZ.out,ZqH gm.out,ZqH ge,hti,ZqN rfl]);have hh:=hY.out.symm.trans he;subst hh;have gI:=gd he;clear he hti ge
   go_wp2_with (first|(at_builtin;refine Za _ rfl (.tmp 30) (.tmp 34) _ rfl W1.heap.size 120 i0 _ 1 8 underlying119 hM hS ht hU rfl (by decide) _ path.length X rfl (Q.out.alloc _) _ 3 [.pointer (some ⟨w.heap.size,1,none⟩),.pointer (some ⟨w.heap.size,2,none⟩),.pointer (some ⟨w.heap.size,3,none⟩)] rfl (Zj rfl (by decide)) (by intro y hy;simp at hy;rcases hy with rfl|rfl|rfl<;>rfl) hl.out hj.out ?_ ?_;(simp;omega);intro v3 w3 C hc ho;have D:Ext W1 w3:=Ext.app (hg.out.alloc _) hc (Q.out.alloc _) (ZqE _))|(go_at_call 66;have J:=hL.out _ _ D C;refine ZqD J ?_;clear J;rintro e w5 ⟨rfl,S,⟨q0,q1,q2,q3,q4,q5⟩,f5,hf,hd⟩;(have hp:Ext w w5:=hf w (hu.out.trans D) om (ZqE _));(have Z:=hd (w.heap.size+1) _ om om (D.heap h2.out));(have HC:=gd (Xu (w:=w5) (g:=g) (n:=path.length) (c:=Y) (A:=A1) (l:=path.map collapse) ⟨#[]⟩ (by simp) (by simpa using hB.out) S (by simp;omega)));rw[hG.out] at HC;clear hf hd)|(go_at_call 67;have J:=HC.out;refine ZqD J ?_;clear J;rintro e w6 ⟨rfl,rfl⟩)|(go_at_call 68;refine (HT.out _).mono ?_;rintro e w6 ⟨rfl,rfl⟩))
   have gQ:=gd hp;have gP:=gd S;have fj:=gd (hE.ext hp);have HC:=();have hK:=gd (Zr9 q0 (Zr9 q1 (Zr9 q2 (Zr9 q3 (Zr9 q4 q5)))));have fl:=gd f5;have gR:=gd Z;have fR:w.heap.size+2<=w6.heap.size:=(by have:=(Zrg.1 Z).1;omega);clear D C hc ho S q0 q1 q2 q3 q4 q5 f5 Z hp;go_loopw [7,67] (λo i wr=>∃k:Nat,k<=ents.length/\i= .int .i64 k/\OEnts wr w6.heap.size o ((ents.take k).map collE)/\Hid (∀e∈ents.take k,errE e=0)/\Ext w6 wr) (λ_ i _=>ents.length - (intOf i).toNat)
   case atStart=>exact ⟨0,ZqO _,rfl,OEnts.nil _ _,gd (by simp),Ext.refl _⟩
   case round=>
    obtain ⟨k,hk,rfl,H,hI,hx⟩:=hrel;have fd:Ext w wr:=gQ.out.trans hx;by_cases hJ:k<ents.length
    ·obtain ⟨ad,c',hv,gT⟩:=(fq.out.ext fd).at hJ;injection hv with hv1 hv2 hv3;subst hv1;clear hv2 hv3;have gB:=ZqQ hJ;have h7:=Zce ents k hJ hI.out;have gw:=gJ.out _ (Zq2 hJ);obtain ⟨e,gX⟩:∃e,ents[k]=e:=⟨_,rfl⟩;rw[gX] at gT gB h7 gw;have g7:eokS e:=(by obtain ⟨_,h⟩:=gw;exact ⟨om,om,om,om⟩);have h1:=gd (λ(w':World) (h:Ext w w')=>Zdv e w' (hE.ext h) g7);have fw:=gd gB;have gl:=gd h7;have hu:=gd fd;have hg:=gd hx;have Q:=gd H;have h9:((ents.take k).map collE).length=k:=(by rw[Zq9,Zra];omega);have hj:Hid ((((ents.take k).map collE).length+1)*72<=140737488355328):=gd (by rw[h9];omega);have hl:Hid (((ents.take k).map collE).length+1<=maxLen):=gd (by rw[h9];unfold maxLen;omega);have g4:(0:Int)<=(k:Int):=om;have g6:(k:Int)<(ents.length:Int):=om;have hws:=hx.size;clear gB h7 gw g7 gX H h9;obtain ⟨a0,a1,a2,a3,a4⟩:=gT;obtain ⟨E,h3⟩:∃E,errE e=E:=⟨_,rfl⟩;rw[h3] at h1 gl;have gh:=gd h3;obtain ⟨N,hN⟩:∃N,normE e=N:=⟨_,rfl⟩;rw[hN] at h1;have fo:=gd hN;clear hN h3;obtain ⟨O,hO⟩:∃O,(ents.take k).map collE=O:=⟨_,rfl⟩;rw[hO] at Q hj hl;have HO:=gd hO;clear hO;obtain ⟨h4,ha,hm,I,hH⟩:=e;simp only at a0 a1 a2 a3 a4;unfold eCells at h1;dsimp only at h1;by_cases h5:E=0
     ·subst h5
      go_wp2_with (first|(go_at_call 69;have J:=h1.out _ (hu.out.trans ((Ext.refl wr).alloc (.cells #[.string h4,.string ha,.string hm,.string I,.int .i64 hH] 61)));refine ZqD J ?_;clear J;rintro e w8 ⟨rfl,gC⟩;have hA:=((Ext.refl wr).alloc (.cells #[.string h4,.string ha,.string hm,.string I,.int .i64 hH] 61)).trans gC;have gN:=gd (OEnts.ext Q.out hA);have fx:=gd (hg.out.trans hA);have fS:=hA.size)|(at_builtin;refine Za _ rfl (.tmp 80) (.tmp 82) _ rfl w6.heap.size 61 i1 _ 5 72 underlying30 fE fJ fK fL rfl (by decide) _ _ (flatE O) rfl ((Zt gN.out ((Ext.refl _).alloc _)).alloc _) _ 1 (eCells N) rfl (Yr (e:=61) (fr:=(0,0)) (cs:=eCells N) (ZI _ _ _) rfl (by decide)) (Zr _) hl.out hj.out ?_ ?_;(simp;omega);intro v9 w9 hD fD fN;have gD:Ext w6 w9:=Ext.app ((fx.out.alloc _).alloc _) fD ((Zt gN.out ((Ext.refl _).alloc _)).alloc _) (ZqE _)))
      go_roundw
      case rel=>
       have fz:N=collE ⟨h4,ha,hm,I,hH⟩:=(by rw[<-fo.out];unfold normE;rw[ZqN gh.out]);have hT:=fw.out;have hO:=HO.out;refine ⟨k+1,hJ,by go_num,?_,gd λx hx=> ?_,gD⟩
       ·rw[hT,Zrf,hO,Zq8,Zrz,<-fz];exact OEnts.snoc hD
       ·rw[hT] at hx;rcases Zq0.1 hx with hx|hx
        ·exact hI.out x hx
        ·rw[ZqU.1 hx];exact gh.out
      case measure=>simp[intOf];omega
     ·have hb:((E:Int) !=0)=true:=(by simp;omega);have he:errF F=E:=gI.out.trans (gl.out h5);have HN:=gd (hw.out _ he h5);have fk:=gd (gl.out h5);clear he h5
      go_wp2_with (first|(go_at_call 69;have J:=h1.out _ (hu.out.trans ((Ext.refl wr).alloc (.cells #[.string h4,.string ha,.string hm,.string I,.int .i64 hH] 61)));refine ZqD J ?_;clear J;rintro e w8 ⟨rfl,gC⟩;have hA:=((Ext.refl wr).alloc (.cells #[.string h4,.string ha,.string hm,.string I,.int .i64 hH] 61)).trans gC;have ff:=(((hg.out.trans hA).alloc (.cells (eCells N).toArray 61))).heap gR.out)|(refine ZqF rfl 32 (.tmp 2) (.tmp 78) rfl (w.heap.size+1) _ rfl rfl _ _ ff Z4 rfl KD ?_))
      ((try simp only[Exit.inBlock,Exit.then]);refine ZqT (Zl rfl _ _ _ _ _ _ _ rfl (ZqV _ _ _ _ _ _ ff) underlying32 rfl Z4) rfl ?_);exact ⟨zeroC,by rw[fk.out];rfl,HN.out.symm.trans hV.out,Zdn _,λ_ _=>KR _,((hu.out.trans hA).alloc _).setRow om _⟩
    ·have gy:k=ents.length:=om;subst gy;rw[Zq4 (ZqE _)] at H hI;have h8:errEs ents=0:=JM.2 hI.out;have g8:normF F=collF F:=(by unfold normF;rw[ZqN (gI.out.trans h8)]);have gV:collF F=⟨path.map collapse,ci,ct,cl,upd,ordE.canon (ents.map collE)⟩:=(by rw[<-HF.out,<-fh.out,<-fi.out,<-gH.out];rfl);have fn:=gd (g8.trans gV);have gb:=gd (Zf3 _ (ents.map collE) wr (fj.out.ext hx) H.reads (λx hx=>by
      obtain ⟨e,he,rfl⟩:=Zrr.1 hx;exact Zcd (gJ.out e he)) (by rw[Zq9];exact gY))
     have q0:=hx.cell hK.out.1;have gK:=gd h8;have hg:=gd hx;have hws:=hx.size;have fB:w.heap.size<w6.heap.size:=om;clear g8 gV h8 H hI
     go_wp2_with (first|(go_at_call 70;have J:=gb.out;refine ZqD J ?_;clear J;rintro e w9 ⟨fO,rfl,hD,gD⟩;obtain ⟨zA,zc,fM,_,_⟩:=hD.reads.form;subst fM;have V:=hg.out.trans gD;have r0:=V.cell hK.out.1;have r1:=V.cell hK.out.2.1;have r2:=V.cell hK.out.2.2.1;have r3:=V.cell hK.out.2.2.2.1;have r4:=V.cell hK.out.2.2.2.2.1;have r5:=V.cell hK.out.2.2.2.2.2;have s5:=(Zss V fB).trans fl.out;have fg:=V.heap gR.out;have gO:=gd hD)|(refine ZqF rfl 32 (.tmp 2) (.tmp 88) rfl (w.heap.size+1) _ rfl rfl _ _ ((ZrN _ _ _ _ (by simp)).trans fg) Z4 rfl KD ?_))
     ((try simp only[Exit.inBlock,Exit.then]);refine ZqT (Zl rfl _ _ _ _ _ _ _ rfl (ZqV _ _ _ _ _ _ ((ZrN _ _ _ _ (by simp)).trans fg)) underlying32 rfl Z4) rfl ?_);have fb:=gP.out.ext V;have fa:=gO.out.reads;have fF:=gO.out.lt;have gr:∀q,q<w.heap.size+2->awayC ⟨.slice A1 path.length Y,.slice zA (ordE.canon (ents.map collE)).length zc,⟨path.map collapse,ci,ct,cl,upd,ordE.canon (ents.map collE)⟩⟩ (some q):=by
      intro q hq;refine ⟨?_,Or.inr λe=> ?_⟩
      ·rcases ZrX path.length with h|h
       ·exact Or.inl (by rw[ZqX h];rfl)
       ·refine Or.inr λe=> ?_;have gn:=hB.out h;subst gn;injection e with e;simp only at e;omega
      ·have:=(fF q e).1;omega
     have fH:RdC w9 ⟨.slice A1 path.length Y,.slice zA (ordE.canon (ents.map collE)).length zc,⟨path.map collapse,ci,ct,cl,upd,ordE.canon (ents.map collE)⟩⟩:=⟨fb,fa⟩;refine ⟨⟨.slice A1 path.length Y,.slice zA (ordE.canon (ents.map collE)).length zc,⟨path.map collapse,ci,ct,cl,upd,ordE.canon (ents.map collE)⟩⟩,by rw[gK.out];rfl,fn.out.symm.trans hV.out,(fH.grown (ZY _ _ _) (gr _ (by simp))).grown (ZG _ _ _) (gr _ (by simp)),λq hq=>gr q om,?_⟩;exact (Ext.setCell (gQ.out.trans V) (ZqE _) _).setRow om _
  focus
   have he:errF F=19:=by
    rw[hZ.out]
    rw[ZqN (Or.inr gF.out)]
   have HN:=gd (hw.out _ he (by decide))
   have hh:=hY.out.symm.trans he
   subst hh
   clear he
   go_wp2_with (first|(at_builtin;refine Za _ rfl (.tmp 30) (.tmp 34) _ rfl W1.heap.size 120 i0 _ 1 8 underlying119 hM hS ht hU rfl (by decide) _ path.length X rfl (Q.out.alloc _) _ 3 [.pointer (some ⟨w.heap.size,1,none⟩),.pointer (some ⟨w.heap.size,2,none⟩),.pointer (some ⟨w.heap.size,3,none⟩)] rfl (Zj rfl (by decide)) (by intro y hy;simp at hy;rcases hy with rfl|rfl|rfl<;>rfl) hl.out hj.out ?_ ?_;(simp;omega);intro v3 w3 C hc ho;have D:Ext W1 w3:=Ext.app (hg.out.alloc _) hc (Q.out.alloc _) (ZqE _))|(go_at_call 66;have J:=hL.out _ _ D C;refine ZqD J ?_;clear J;rintro e w5 ⟨rfl,S,⟨q0,q1,q2,q3,q4,q5⟩,f5,hf,hd⟩;(have hp:Ext w w5:=hf w (hu.out.trans D) om (ZqE _));(have Z:=hd (w.heap.size+1) _ om om (D.heap h2.out));(have HC:=gd (Xu (w:=w5) (g:=g) (n:=path.length) (c:=Y) (A:=A1) (l:=path.map collapse) ⟨#[]⟩ (by simp) (by simpa using hB.out) S (by simp;omega)));rw[hG.out] at HC;clear hf hd)|(go_at_call 67;have J:=HC.out;refine ZqD J ?_;clear J;rintro e w6 ⟨rfl,rfl⟩)|(refine ZqF rfl 32 (.tmp 2) (.tmp 51) rfl (w.heap.size+1) _ rfl rfl _ _ Z Z4 rfl KD ?_))
  rotate_left
  ·have hb:((firstErr (path++ [id,title,link]):Int) !=0)=true:=(by simp;omega);have he:errF F=firstErr (path++ [id,title,link]):=(by rw[<-HF.out];unfold errF headF strsF;rw[ZqN h0,ZqH h0]);have hn:=hw.out _ he h0;have hh:=hY.out.symm.trans he;obtain ⟨E,h3⟩:∃E,firstErr (path++ [id,title,link])=E:=⟨_,rfl⟩;have gb:=gd (λ(w4:World) (v4:Value) fy fA=>Zfa (W:=w4) (v:=v4) (g:=g) (b:=w.heap.size) fy fA h0);rw[h3] at gb hb h0 hh;have HN:=gd hn;clear h3 he hn h0;subst hh
   go_wp2_with (first|(at_builtin;refine Za _ rfl (.tmp 30) (.tmp 34) _ rfl W1.heap.size 120 i0 _ 1 8 underlying119 hM hS ht hU rfl (by decide) _ path.length X rfl (Q.out.alloc _) _ 3 [.pointer (some ⟨w.heap.size,1,none⟩),.pointer (some ⟨w.heap.size,2,none⟩),.pointer (some ⟨w.heap.size,3,none⟩)] rfl (Zj rfl (by decide)) (by intro y hy;simp at hy;rcases hy with rfl|rfl|rfl<;>rfl) hl.out hj.out ?_ ?_;(simp;omega);intro v3 w3 C hc ho;have D:Ext W1 w3:=Ext.app (hg.out.alloc _) hc (Q.out.alloc _) (ZqE _))|(go_at_call 66;have J:=gb.out _ _ (gL.out.ext D) (HP.out _ _ D C);refine ZqD J ?_;clear J;rintro e w5 ⟨rfl,hp⟩;have Z:=(D.trans hp).heap h2.out)|(refine ZqF rfl 32 (.tmp 2) (.tmp 40) rfl (w.heap.size+1) _ rfl rfl _ _ Z Z4 rfl KD ?_))
   ((try simp only[Exit.inBlock,Exit.then]);refine ZqT (Zl rfl _ _ _ _ _ _ _ rfl (ZqV _ _ _ _ _ _ Z) underlying32 rfl Z4) rfl ?_);exact ⟨zeroC,rfl,HN.out.symm.trans hV.out,Zdn _,λ_ _=>KR _,((hu.out.trans D).trans hp).setRow om _⟩
  all_goals
   ((try simp only[Exit.inBlock,Exit.then]);refine ZqT (Zl rfl _ _ _ _ _ _ _ rfl (ZqV _ _ _ _ _ _ Z) underlying32 rfl Z4) rfl ?_)
   exact ⟨zeroC,rfl,HN.out.symm.trans hV.out,Zdn _,λ_ _=>KR _,hp.setRow om _⟩
section
set_option linter.unusedSimpArgs false
def zeroFA:Fc:=⟨.slice none 0 0,.slice none 0 0,⟨[],⟨#[]⟩,⟨#[]⟩,⟨#[]⟩,0,[]⟩⟩
def DecA (w':World) (r:Except PErr Fd) (e:Ending):Prop:=match r with
 | .error f=>e= .returned (.tuple #[.agg (cellsC zeroFA).toArray,.int .i64 (f.1:Nat),.int .i64 (f.2:Nat)])
 | .ok f=>∃y:Fc,e= .returned (.tuple #[.agg (cellsC y).toArray,.int .i64 0,.int .i64 (errF f:Nat)])/\y.f=normF f/\RdC w' y/\slC y
theorem YG (x:Nc):x.nd.kind=x.kind/\x.nd.space=x.space/\x.nd.name=x.name/\x.nd.at_=x.at_:=by cases x;rw[Nc.nd];exact ⟨rfl,rfl,rfl,rfl⟩
theorem JL {l2:List Nd} {k:Nd}:∀{A:List Nd} {es:List Ent},entsA A= .ok es->entsA (A++k::l2)=(match comA k with
 | .error p=> .error p
 | .ok t=>match entsA l2 with
  | .error p=> .error p
  | .ok m=> .ok (es++entA k t::m))
 | [],es,h=>by
  injection h with h;subst h;rw[Zrl,entsA];cases comA k with
  |error p=>rfl
  |ok t=>cases entsA l2<;>rfl
 |a::A,es,h=>by
  rw[entsA] at h;rw[Zrp,entsA];cases ha:comA a with
  |error p=>rw[ha] at h;cases h
  |ok t=>
   rw[ha] at h;dsimp only at h|-;cases hl:entsA A with
   |error p=>rw[hl] at h;cases h
   |ok m=>
    rw[hl] at h;injection h with h;subst h;rw[JL hl];cases comA k with
    |error p=>rfl
    |ok t=>cases entsA l2<;>rfl
theorem Iy {n:Nd} {p:PErr} (h:comA n= .error p):p.2=19\/p.2=20:=by
 unfold comA at h;split at h
 ·injection h with h;rw[<-h];exact Or.inl rfl
 ·split at h
  ·cases h
  ·split at h
   ·cases h
   ·injection h with h;rw[<-h];exact Or.inr rfl
theorem ZC:(prog.info? 32).map (λi=>i.size)=some 6:=by kernel_rfl
theorem Jp {A B:Option Addr} {n m c d:Nat} {a b e:ByteArray} {u:Int}:(#[Value.slice A n c,.string a,.string b,.string e,.int .i64 u,.slice B m d]).all (λu=>u.oneCell')=true:=by simp[Value.oneCell']
theorem Zeu:((cellsC zeroFA).toArray).all (λu=>u.oneCell')=true:=Jp (A:=none) (B:=none) (n:=0) (m:=0) (c:=0) (d:=0) (a:=⟨#[]⟩) (b:=⟨#[]⟩) (e:=⟨#[]⟩) (u:=0)
theorem Zor (x:Nc) (w:World) (h:RdN w x) (V:x.kind≠0\/x.space≠atomL\/x.name≠feedL):
 Calls prog 11 #[.agg (cellsN x).toArray] w λe w'=>DecA w' (.error (x.at_,18)) e/\Ext w w':=by
 obtain ⟨A,n,c,B,m,d,S, -, -⟩:=ZR x (RdN.sl h);rw[S];have hw:x.kind≠0\/(x.kind=0/\x.space≠atomL)\/(x.kind=0/\x.space=atomL/\x.name≠feedL):=by
  by_cases D:x.kind=0
  ·by_cases F:x.space=atomL
   ·exact Or.inr (Or.inr ⟨D,F,(V.resolve_left (λe=>e D)).resolve_left (λe=>e F)⟩)
   ·exact Or.inr (Or.inl ⟨D,F⟩)
  ·exact Or.inl D
 obtain ⟨W1,J⟩:∃W1,(w.alloc (.cells #[.int .i64 (x.kind:Nat),.string (str x.space),.string (str x.name),.slice A n c,.slice B m d,.string (str x.text),.int .i64 (x.at_:Nat)] 25)).alloc (.cells #[.slice none 0 0,.string ⟨#[]⟩,.string ⟨#[]⟩,.string ⟨#[]⟩,.int .i64 0,.slice none 0 0] 32)=W1:=⟨_,rfl⟩;have Y:Ext w W1:=by rw[<-J];exact ((Ext.refl w).alloc _).alloc _
 have R:BxN W1 w.heap.size x.kind x.space x.name (.slice A n c) (.slice B m d) x.text x.at_:=by rw[<-J];exact ((Ext.refl _).alloc _).heap (ZqJ w _)
 have X:W1.heap[w.heap.size+1]? =some (.cells #[.slice none 0 0,.string ⟨#[]⟩,.string ⟨#[]⟩,.string ⟨#[]⟩,.int .i64 0,.slice none 0 0] 32 (0,0)):=by rw[<-J];exact ZI w _ _
 obtain ⟨b0,b1,b2,b3,b4,b5,b6⟩:=R.cells;have ha:=gd Y;have O:=gd X;clear h V S Y R X;rcases hw with D|⟨D,F⟩|⟨D,F,h3⟩
 focus ((have q1:((x.kind:Int) !=0)=true:=by simpa using D);clear D)
 rotate_left
 focus ((have q1:((x.kind:Int) !=0)=false:=by rw[D];rfl);(have q2:((str x.space).toList==([104,116,116,112,58,47,47,119,119,119,46,119,51,46,111,114,103,47,50,48,48,53,47,65,116,111,109]:List UInt8))=false:=Yx F);clear D F)
 rotate_left
 focus ((have q1:((x.kind:Int) !=0)=false:=by rw[D];rfl);(have q2:((str x.space).toList==([104,116,116,112,58,47,47,119,119,119,46,119,51,46,111,114,103,47,50,48,48,53,47,65,116,111,109]:List UInt8))=true:=XF F);(have q3:((str x.name).toList==([102,101,101,100]:List UInt8))=false:=Yx h3);clear D F h3)
 all_goals go_enter func11,ntmps11
 all_goals go_wp2_with (first|(refine ZqF rfl 32 (.tmp 2) (.tmp 28) rfl (w.heap.size+1) #[.slice none 0 0,.string ⟨#[]⟩,.string ⟨#[]⟩,.string ⟨#[]⟩,.int .i64 0,.slice none 0 0] rfl rfl _ _ O.out ZC rfl Jp ?_))
 all_goals have H:W1.drew.cell? ⟨w.heap.size,6,none⟩=some (.int .i64 (x.at_:Nat)):=b6
 all_goals have Z:Ext W1 W1.drew:=(Ext.refl _).drew
 all_goals have U:=Z.heap O.out
 all_goals refine rN ?_
 all_goals change wpAny _ _ _ _ _ _ _ (World.drew _)
 all_goals refine ZE (λw'=>w'.cell? ⟨w.heap.size,6,none⟩=some (.int .i64 (x.at_:Nat))) ?_
 all_goals refine tS 0 (.agg (cellsC zeroFA).toArray) rfl (λw' hS=>by go_simp;rfl) H ?_
 all_goals refine tG 1 (.pointer (some ⟨w.heap.size,6,none⟩)) H ?_
 all_goals refine tS 2 (.int .i64 (x.at_:Nat)) rfl (λw' hS=>by have hq:w'.cell? ⟨w.heap.size,6,none⟩=some (.int .i64 (x.at_:Nat)):=hS;go_simp) H ?_
 all_goals go_simp
 all_goals refine Zv (i:=3) rfl (by kernel_rfl) (λQ C=> ?_)
 all_goals refine Zu rfl 32 (.tmp 2) (.tmp 28) rfl (w.heap.size+1) (cellsC zeroFA).toArray rfl rfl _ _ U ZC rfl Zeu ?_
 all_goals have I:(W1.drew.setRow (w.heap.size+1) (cellsC zeroFA).toArray).cell? ⟨w.heap.size,6,none⟩=some (.int .i64 (x.at_:Nat)):=by rw[Zrs (a:=⟨w.heap.size,6,none⟩) (Zrn _ _ _ _ (Nat.ne_of_lt (ZrB w.heap.size)))];exact H
 all_goals refine C _ _ I ?_
 all_goals clear C Q
 all_goals refine Zv (i:=4) rfl (by kernel_rfl) (λQ C=> ?_)
 all_goals go_simp
 all_goals refine C _ _ I ?_
 all_goals clear C Q
 all_goals refine Zv (i:=5) rfl (by kernel_rfl) (λQ C=> ?_)
 all_goals go_simp
 all_goals refine C _ _ I ?_
 all_goals clear C Q
 all_goals refine sE ?_
 all_goals go_wp2
 all_goals ((try simp only[Exit.inBlock,Exit.then]);refine ZqT (Zc rfl _ _ _ _ _ _ _ rfl (ZqV _ _ _ _ _ _ U) underlying32 rfl ZC) rfl ?_)
 all_goals exact ⟨rfl,(ha.out.trans Z).setRow (ZrF _) _⟩
end
section
set_option linter.unusedSimpArgs false
theorem KU {w w':World} {B size n b:Nat} {e T:TypeId} {v:Value} {xs:List Value} {cs:Array Value} {fr:Nat×Nat} (A:w.ownsRow B e size v n xs) (J:w.grownBy w' v.ownBlock) (h:w.heap[b]? =some (.cells cs T fr)) (I:e≠T):w'.heap[b]? =some (.cells cs T fr):=by
 refine (J.block b (Zrg.1 h).1 ?_).trans h;rcases A.2 with ⟨rfl,_⟩|⟨g',cap,H,rfl,_,D,_⟩
 ·intro C;cases C
 ·intro C;have F:g'=b:=by simp[Value.ownBlock] at C;omega
  subst F;rw[D] at h;injection h with h;injection h with _ h;exact I h
theorem ZeU {u w w':World} {B size n b:Nat} {e:TypeId} {v:Value} {xs:List Value} (h:Bar b u w) (C:w.ownsRow B e size v n xs) (A:w.grownBy w' v.ownBlock) (H:u.heap.size<=B):Bar b u w':=
 ⟨A.os.trans h.os,A.tape.trans h.tape,A.output.trans h.output,ZqM h.size A.size,λi D F=>(A.block i (Zrx D h.size) (λe=>absurd (C.lt i e.symm).1 om)).trans (h.block i D F)⟩
theorem ZkC (n:Nd):contF n [contentL,summaryL]=contN n:=Zik n
theorem QR:∀{l:List Nd} {m:List Ent},entsA l= .ok m->m.length=l.length
 | [],m,h=>by injection h with h;subst h;rfl
 |k::l,m,h=>by
  rw[entsA] at h
  cases hc:comA k with
  |error p=>rw[hc] at h;cases h
  |ok t=>
   rw[hc] at h
   cases hl:entsA l with
   |error p=>rw[hl] at h;cases h
   |ok q=>
    rw[hl] at h
    injection h with h
    subst h
    rw[ZqK,ZqK,QR hl]
theorem Gd:(prog.info? 71).map (λi=>i.size)=some 5:=by kernel_rfl
theorem Zj9 {a b c e:ByteArray} {t:Int}:(#[Value.string a,.string b,.string c,.int .i64 t,.string e]).all (λu=>u.oneCell')=true:=by simp[Value.oneCell']
theorem Zmk {N M Bd:Nat} (hN:N<=4000000) (hM:M<=1000000) (fc:Bd<=16777216) (x:Nc) (w:World) (hE:Env w) (h:NcOk w N M x) (gR:amOk N M Bd x.nd) (C:¬(x.nd.kind≠0\/x.nd.space≠atomL\/x.nd.name≠feedL)) (fi:∀f,decA x.nd= .ok f->fokS f):
 Calls prog 11 #[.agg (cellsN x).toArray] w λe w'=>DecA w' (decA x.nd) e/\Ext w w':=by
 obtain ⟨i1,fG,fH,fI,fJ⟩:=ZrE U8;have h4:decA x.nd=(match comA x.nd with
  | .error p=> .error p
  | .ok t=>match entsA (kidsE atomL entryL x.nd) with
   | .error p=> .error p
   | .ok l=> .ok (fdA x.nd t l)):=by
  unfold decA;rw[ZqH C];cases comA x.nd with
  |error p=>rfl
  |ok t=>dsimp only;cases entsA (kidsE atomL entryL x.nd)<;>rfl
 obtain ⟨f1,f2,f3,f4⟩:=YG x;rw[f1,f2,f3] at C;have h1:x.kind=0:=Zsp λe=>C (Or.inl e);have h2:x.space=atomL:=Zsp λe=>C (Or.inr (Or.inl e));have h3:x.name=feedL:=Zsp λe=>C (Or.inr (Or.inr e));have q1:((x.kind:Int) !=0)=false:=by rw[h1];rfl
 have q2:((str x.space).toList==([104,116,116,112,58,47,47,119,119,119,46,119,51,46,111,114,103,47,50,48,48,53,47,65,116,111,109]:List UInt8))=true:=XF h2;have q3:((str x.name).toList==([102,101,101,100]:List UInt8))=true:=XF h3;have Z:=λ(w':World) (hx:Ext w w')=>Iw x atomL entryL w' (RdN.ext hx _ h.rd) (ZqM h.kids_len om);simp only[Xo,Zc6] at Z;obtain ⟨l,hl⟩:∃l,x.kids.filter (isKid atomL entryL)=l:=⟨_,rfl⟩;have hC:l.map Nc.nd=kidsE atomL entryL x.nd:=by rw[<-hl];exact Qm atomL entryL x
 have gP:l.length<=N:=by rw[<-hl];exact ZqM (List.length_filter_le _ _) h.kids_len
 have gf:=gd (λ(y:Nc) (hy:y∈l)=>(show NcOk w N M y/\comOk N M Bd y.nd from ⟨h.kid (by rw[<-hl] at hy;exact (ZrK.1 hy).1),gR.en y.nd (by rw[<-hC];exact Zrv hy)⟩));rw[hl] at Z;rw[<-hC] at h4;have hH:=λ(b:Nat) (v0 v1 v2 v3 u:Value) (w':World) (hx:Ext w w') (hb:w.heap.size<=b) (hh:w'.heap[b]? =some (.cells #[v0,v1,v2,v3,u] 65 (0,0)))=>ZaE hN hM fc x b 65 v0 v1 v2 v3 u w w' hx hb h gR.com hh;have gJ:=gd (λ(y:Nc) (hy:y∈l) (b:Nat) (v0 v1 v2 v3 u:Value) (w':World) (hx:Ext w w') (hb:w.heap.size<=b) (hh:w'.heap[b]? =some (.cells #[v0,v1,v2,v3,u] 71 (0,0)))=>ZaE hN hM fc y b 71 v0 v1 v2 v3 u w w' hx hb (gf.out y hy).1 (gf.out y hy).2 hh);have gE:=gd (λ(y:Nc) (v:Value) (w':World) (hy:NcOk w' N M y) (hv:RSl w' 1 v 2 (strsA [contentL,summaryL]))=>(show Calls prog 29 #[.agg (cellsN y).toArray,v] w' λe w2=>e= .returned (.string (str (contN y.nd)))/\Ext w' w2 from by
  have:=ZaF hN hM y v [contentL,summaryL] w' hy hv (by decide);rw[ZkC] at this;exact this))
 obtain ⟨A,n,c,B,m,d,fh, -, -⟩:=ZR x (RdN.sl h.rd);rw[fh] at Z hH|-;have g5:=gd Z;have gb:=gd hH;obtain ⟨W1,hV⟩:∃W1,(w.alloc (.cells #[.int .i64 (x.kind:Nat),.string (str x.space),.string (str x.name),.slice A n c,.slice B m d,.string (str x.text),.int .i64 (x.at_:Nat)] 25)).alloc (.cells #[.slice none 0 0,.string ⟨#[]⟩,.string ⟨#[]⟩,.string ⟨#[]⟩,.int .i64 0,.slice none 0 0] 32)=W1:=⟨_,rfl⟩;have gj:Ext w W1:=by rw[<-hV];exact ((Ext.refl w).alloc _).alloc _
 have fo:w.heap.size+2=W1.heap.size:=by rw[<-hV];simp
 have F:BxN W1 w.heap.size x.kind x.space x.name (.slice A n c) (.slice B m d) x.text x.at_:=by rw[<-hV];exact ((Ext.refl _).alloc _).heap (ZqJ w _)
 have fn:W1.heap[w.heap.size+1]? =some (.cells #[.slice none 0 0,.string ⟨#[]⟩,.string ⟨#[]⟩,.string ⟨#[]⟩,.int .i64 0,.slice none 0 0] 32 (0,0)):=by rw[<-hV];exact ZI w _ _
 obtain ⟨W2,hX⟩:∃W2,W1.alloc (.cells #[.string ⟨#[]⟩,.string ⟨#[]⟩,.string ⟨#[]⟩,.int .i64 0,.slice none 0 0] 65)=W2:=⟨_,rfl⟩;have gk:Ext W1 W2:=by rw[<-hX];exact (Ext.refl W1).alloc _
 have fe:W2.heap[W1.heap.size]? =some (.cells #[.string ⟨#[]⟩,.string ⟨#[]⟩,.string ⟨#[]⟩,.int .i64 0,.slice none 0 0] 65 (0,0)):=by rw[<-hX];exact ZqJ W1 _
 obtain ⟨b0,b1,b2,b3,b4,b5,b6⟩:=F.cells;have hZ:BxN W2 w.heap.size x.kind x.space x.name (.slice A n c) (.slice B m d) x.text x.at_:=F.ext gk;obtain ⟨k0,k1,k2,k3,k4,k5,k6⟩:=hZ.cells;have fN:=gd gj;have hO:=gd (gj.trans gk);have fM:=gd fo;have gI:=gd (gk.heap fn);have fu:=gd hZ;have gW:=gd fe;have gc:=gd h4;have fL:=gd hC;have hK:=gd gP;have HE:=gd hE;have gZ:=gd fi;have fd:w.heap.size<=W1.heap.size:=gj.size;have X:=gd fd;have fl:w.heap.size≠W1.heap.size:=om
 have fm:w.heap.size+1≠W1.heap.size:=om
 have fw:=gd fl;have hL:=gd fm;clear hl fh h gR C f1 f2 f3 f4 h1 h2 h3 Z hH gj gk fo F hZ fn fe h4 hC gP hE fi fd fl fm;cases hc:comA x.nd with
 |error p=>
  obtain ⟨pa,pc⟩:=p;have hp:pc≠0:=by have:=Iy hc;rcases this with e|e<;>(simp at e;omega)
  have q4:((pc:Int) !=0)=true:=by simpa using hp
  have D:decA x.nd= .error (pa,pc):=by rw[gc.out,hc]
  have ge:=gd D;have h0:=ZqD (gb.out W1.heap.size _ _ _ _ _ W2 hO.out X.out gW.out) (λe w' (hh:ComR x.nd W1.heap.size _ _ e w'/\Bar W1.heap.size W2 w')=>(show e= .returned (.tuple #[.int .i64 (pa:Nat),.int .i64 (pc:Nat)])/\Bar W1.heap.size W2 w' from ⟨by have h1:=hh.1;unfold ComR at h1;rw[hc] at h1;exact h1,hh.2⟩));have gD:=gd h0;clear hc hp D h0 gc gJ gE g5 gb gZ HE;go_enter func11,ntmps11
  go_wp2_with (first|(go_at_call 27;(first|rw[hX]|skip);(refine ZqD gD.out ?_);rintro e w3 ⟨rfl,hd⟩;have gw:=hd.heap gI.out hL.out)|(refine ZqF rfl 32 (.tmp 2) (.tmp 39) rfl (w.heap.size+1) #[.slice none 0 0,.string ⟨#[]⟩,.string ⟨#[]⟩,.string ⟨#[]⟩,.int .i64 0,.slice none 0 0] rfl rfl _ _ gw ZC rfl Jp ?_))
  ((try simp only[Exit.inBlock,Exit.then]);refine ZqT (Zc rfl _ _ _ _ _ _ _ rfl (ZqV _ _ _ _ _ _ gw) underlying32 rfl ZC) rfl ?_);rw[ge.out];exact ⟨rfl,(Bar.ext hO.out hd X.out).setRow (ZrF _) _⟩
 |ok t=>
  have D:decA x.nd=(match entsA (l.map Nc.nd) with
   | .error p=> .error p
   | .ok es=> .ok (fdA x.nd t es)):=by
   rw[gc.out,hc]
  have ge:=gd D;have h0:=ZqD (gb.out W1.heap.size _ _ _ _ _ W2 hO.out X.out gW.out) (λe w' (hh:ComR x.nd W1.heap.size _ _ e w'/\Bar W1.heap.size W2 w')=>(show (e= .returned (.tuple #[.int .i64 0,.int .i64 0])/\w'.heap[W1.heap.size]? =some (.cells #[.string (str (txtOf idL x.nd)),.string (str (txtOf titleL x.nd)),.string (str (linkN x.nd)),.int .i64 t,.slice none 0 0] 65 (0,0)))/\Bar W1.heap.size W2 w' from ⟨by have h1:=hh.1;unfold ComR at h1;rw[hc] at h1;exact h1,hh.2⟩));have gD:=gd h0;clear hc D h0 gc gb;go_enter func11,ntmps11
  go_wp2_with (first|(go_at_call 28;have hz:=g5.out w3 (Bar.ext hO.out hd X.out);(refine ZqD hz ?_);clear hz;rintro e w4 ⟨v4,rfl,gQ,gl⟩;obtain ⟨LA,lc,rfl⟩:=Zp gQ)|(go_at_call 27;(first|rw[hX]|skip);(refine ZqD gD.out ?_);rintro e w3 ⟨⟨rfl,fg⟩,hd⟩;have gq:=Bar.heap hd fu.out fw.out;obtain ⟨d0,d1,d2,d3,d4,d5,d6⟩:=BxN.cells gq))
  have g7:=gd gQ;have gC:=gd (gl.heap fg);have gX:=gd (hd.trans (Bar.of gl));have hQ:=gd (Bar.ext hO.out (hd.trans (Bar.of gl)) X.out);clear gQ fg gl hd gq d0 d1 d2 d3 d4 d5 d6 k0 k1 k2 k3 k4 k5 k6 b0 b1 b2 b3 b4 b5 b6 hV hX q1 q2 q3;go_loopw [45] (λu wr=>∃(j:Nat) (es:List Ent) (RA:Option Addr) (rc:Nat),j<=l.length/\u= .int .i64 j/\Hid (entsA ((l.take j).map Nc.nd)= .ok es)/\Hid (OEnts wr w4.heap.size (.slice RA es.length rc) es)/\Hid (wr.heap[W1.heap.size]? =some (.cells #[.string (str (txtOf idL x.nd)),.string (str (txtOf titleL x.nd)),.string (str (linkN x.nd)),.int .i64 t,.slice RA es.length rc] 65 (0,0)))/\Hid (Bar W1.heap.size w4 wr)) (λu _=>l.length - (intOf u).toNat)
  case atStart=>exact ⟨0,[],none,0,ZqO _,rfl,gd rfl,gd (OEnts.nil _ _),gC,gd (Bar.refl _ _)⟩
  case round=>
   obtain ⟨j,es,RA,rc,hj,rfl,hJ,g8,hi,J⟩:=hrel;by_cases hr:j<l.length
   ·cases hcy:comA l[j].nd with
    |error p=>
     obtain ⟨pa,pc⟩:=p;have hp:pc≠0:=(by have:=Iy hcy;rcases this with e|e<;>(simp at e;omega));have q4:((pc:Int) !=0)=true:=(by simpa using hp);have D:decA x.nd= .error (pa,pc):=(by have h1:=JL (k:=l[j].nd) (l2:=(l.drop (j+1)).map Nc.nd) hJ.out;rw[hcy] at h1;have h2:(l.take j).map Nc.nd++l[j].nd::(l.drop (j+1)).map Nc.nd=l.map Nc.nd:=(by rw[<-Zq8,List.getElem_cons_drop,<-Zrf,ZrR]);rw[h2] at h1;rw[ge.out,h1]);have gG:=gd D;have hI:=gd hcy;have gx:=gX.out.heap gI.out hL.out;have Q:=J.out.heap gx hL.out;have gK:=gd Q;clear hp D hcy gx Q;have hw:l[j]∈l:=Zq2 hr;obtain ⟨ad,c',hv,hY⟩:=RNs.at (RSl.of_own (IV g7.out J.out gC.out (by decide))) hr;injection hv with hv1 hv2 hv3;subst hv1;clear hv2 hv3;have fE:(0:Int)<=(j:Int):=om;have fF:(j:Int)<(l.length:Int):=om;have hs:=ZqQ hr;have I:Ext w wr:=Bar.ext hQ.out J.out X.out;have R:=gJ.out l[j] hw;have U:=(gf.out l[j] hw).1;obtain ⟨y,hA⟩:∃y,l[j]=y:=⟨_,rfl⟩;rw[hA] at hY hs R U;have hq:es.length=j:=(by rw[QR hJ.out,Zq9,Zra];omega);have gY:Hid ((es.length+1)*72<=140737488355328):=gd (by rw[hq];have:=hK.out;omega);have g6:Hid (es.length+1<=maxLen):=gd (by rw[hq];have:=hK.out;unfold maxLen;omega);have hws:=J.out.size;obtain ⟨YA,ym,yc,YB,ga,yd,hu,hg,h7⟩:=ZR y (RdN.sl U.rd);obtain ⟨a0,a1,a2,a3,a4,a5,a6⟩:=hY;rw[hg] at a3;rw[h7] at a4;obtain ⟨W5,hm⟩:∃W5,wr.alloc (.cells #[.int .i64 (y.kind:Nat),.string (str y.space),.string (str y.name),.slice YA ym yc,.slice YB ga yd,.string (str y.text),.int .i64 (y.at_:Nat)] 25)=W5:=⟨_,rfl⟩;have ht:Ext wr W5:=(by rw[<-hm];exact (Ext.refl wr).alloc _);have F:BxN W5 wr.heap.size y.kind y.space y.name (.slice YA ym yc) (.slice YB ga yd) y.text y.at_:=(by rw[<-hm];exact ZqJ wr _);obtain ⟨c0,c1,c2,c3,c4,c5,c6⟩:=F.cells;obtain ⟨CN,hk⟩:∃CN,contN y.nd=CN:=⟨_,rfl⟩;have ho:=gE.out y (.slice (some ⟨W5.heap.size,0,none⟩) 2 2) (W5.alloc (.cells (strsA [contentL,summaryL]).toArray 9)) ((U.ext (I.trans ht)).ext ((Ext.refl W5).alloc _)) (Zj (n:=2) (cs:=strsA [contentL,summaryL]) rfl (by decide));rw[hk,hu] at ho;rw[hu] at R;have gL:=gd R;have gF:=gd ho;have hG:=gd F;have g9:=gd hs;have ha:=gd I;have hP:=gd ht;have fa:=gd hws;have gm:=gd hk;have hR:=gd hA;clear hs I R U hA hq hws hu hg h7 ht F ho hk hw;have hB:Hid (comA y.nd= .error (pa,pc)):=gd (by rw[<-hR.out];exact hI.out);clear hI hR
     go_wp2_with (first|(go_at_call 27;(refine ZqD gS ?_);rintro e w9 ⟨S,gN⟩;unfold ComR at S;rw[hB.out] at S;dsimp only at S;subst S;have hf:=Bar.ext h6 gN h8;have gy:=hf.heap gK.out)|(go_at_call 29;(refine ZqD gF.out ?_);rintro e V ⟨rfl,gT⟩;have H:=((Ext.refl W5).alloc (.cells (strsA [contentL,summaryL]).toArray 9)).trans gT;obtain ⟨W8,hn⟩:∃W8,V.alloc (.cells #[.string ⟨#[]⟩,.string ⟨#[]⟩,.string ⟨#[]⟩,.int .i64 0,.string (str CN)] 71)=W8:=⟨_,rfl⟩;(have he:Ext V W8:=by rw[<-hn];exact (Ext.refl V).alloc _);(have gM:W8.heap[V.heap.size]? =some (.cells #[.string ⟨#[]⟩,.string ⟨#[]⟩,.string ⟨#[]⟩,.int .i64 0,.string (str CN)] 71 (0,0)):=by rw[<-hn];exact ZqJ V _);obtain ⟨e0,e1,e2,e3,e4,e5,e6⟩:=BxN.cells (hG.out.ext (H.trans he));have h6:=hP.out.trans (H.trans he);have h8:wr.heap.size<=V.heap.size:=(hP.out.trans H).size;have gV:w.heap.size<=V.heap.size:=ZqM ha.out.size h8;have gS:=gL.out V.heap.size _ _ _ _ _ W8 (ha.out.trans h6) gV gM)|(refine ZqF rfl 25 (.tmp 9) (.tmp 48) rfl wr.heap.size _ rfl rfl _ _ (ZqJ _ _) Ze rfl Zz ?_;rw[Zh];rw[hm])|(refine ZqF rfl 71 (.tmp 10) (.tmp 52) rfl V.heap.size _ rfl rfl _ _ (ZqJ _ _) Gd rfl Zj9 ?_;rw[Zh];rw[hn])|(refine ZqF rfl 32 (.tmp 2) (.tmp 61) rfl (w.heap.size+1) #[.slice none 0 0,.string ⟨#[]⟩,.string ⟨#[]⟩,.string ⟨#[]⟩,.int .i64 0,.slice none 0 0] rfl rfl _ _ gy ZC rfl Jp ?_))
     ((try simp only[Exit.inBlock,Exit.then]);refine ZqT (Zc rfl _ _ _ _ _ _ _ rfl (ZqV _ _ _ _ _ _ gy) underlying32 rfl ZC) rfl ?_);rw[gG.out];exact ⟨rfl,(ha.out.trans hf).setRow (ZrF _) _⟩
    |ok ty=>
     have hI:=gd hcy;clear hcy;have hw:l[j]∈l:=Zq2 hr;obtain ⟨ad,c',hv,hY⟩:=RNs.at (RSl.of_own (IV g7.out J.out gC.out (by decide))) hr;injection hv with hv1 hv2 hv3;subst hv1;clear hv2 hv3;have fE:(0:Int)<=(j:Int):=om;have fF:(j:Int)<(l.length:Int):=om;have hs:=ZqQ hr;have I:Ext w wr:=Bar.ext hQ.out J.out X.out;have R:=gJ.out l[j] hw;have U:=(gf.out l[j] hw).1;obtain ⟨y,hA⟩:∃y,l[j]=y:=⟨_,rfl⟩;rw[hA] at hY hs R U;have hq:es.length=j:=(by rw[QR hJ.out,Zq9,Zra];omega);have gY:Hid ((es.length+1)*72<=140737488355328):=gd (by rw[hq];have:=hK.out;omega);have g6:Hid (es.length+1<=maxLen):=gd (by rw[hq];have:=hK.out;unfold maxLen;omega);have hws:=J.out.size;obtain ⟨YA,ym,yc,YB,ga,yd,hu,hg,h7⟩:=ZR y (RdN.sl U.rd);obtain ⟨a0,a1,a2,a3,a4,a5,a6⟩:=hY;rw[hg] at a3;rw[h7] at a4;obtain ⟨W5,hm⟩:∃W5,wr.alloc (.cells #[.int .i64 (y.kind:Nat),.string (str y.space),.string (str y.name),.slice YA ym yc,.slice YB ga yd,.string (str y.text),.int .i64 (y.at_:Nat)] 25)=W5:=⟨_,rfl⟩;have ht:Ext wr W5:=(by rw[<-hm];exact (Ext.refl wr).alloc _);have F:BxN W5 wr.heap.size y.kind y.space y.name (.slice YA ym yc) (.slice YB ga yd) y.text y.at_:=(by rw[<-hm];exact ZqJ wr _);obtain ⟨c0,c1,c2,c3,c4,c5,c6⟩:=F.cells;obtain ⟨CN,hk⟩:∃CN,contN y.nd=CN:=⟨_,rfl⟩;have ho:=gE.out y (.slice (some ⟨W5.heap.size,0,none⟩) 2 2) (W5.alloc (.cells (strsA [contentL,summaryL]).toArray 9)) ((U.ext (I.trans ht)).ext ((Ext.refl W5).alloc _)) (Zj (n:=2) (cs:=strsA [contentL,summaryL]) rfl (by decide));rw[hk,hu] at ho;rw[hu] at R;have gL:=gd R;have gF:=gd ho;have hG:=gd F;have g9:=gd hs;have ha:=gd I;have hP:=gd ht;have fa:=gd hws;have gm:=gd hk;have hR:=gd hA;clear hs I R U hA hq hws hu hg h7 ht F ho hk hw;have hB:Hid (comA y.nd= .ok ty):=gd (by rw[<-hR.out];exact hI.out);clear hI hR;obtain ⟨hS,gs⟩:∃z,txtOf idL y.nd=z:=⟨_,rfl⟩;obtain ⟨hU,gA⟩:∃z,txtOf titleL y.nd=z:=⟨_,rfl⟩;obtain ⟨hT,gu⟩:∃z,linkN y.nd=z:=⟨_,rfl⟩;have gn:=gd gs;have gp:=gd gA;have go:=gd gu;clear gs gA gu;have gP:l.length<=4000000:=ZqM hK.out hN
     go_wp2_with (first|(go_at_call 27;(refine ZqD gS ?_);rintro e w9 ⟨S,gN⟩;unfold ComR at S;rw[hB.out,gn.out,gp.out,go.out] at S;dsimp only at S;obtain ⟨rfl,h9⟩:=S;have hf:=Bar.ext h6 gN h8;have g4:=ZqI _ _ 4 _ _ _ (hf.heap hi.out);have n0:=ZqI _ _ 0 _ _ _ h9;have n1:=ZqI _ _ 1 _ _ _ h9;have n2:=ZqI _ _ 2 _ _ _ h9;have n3:=ZqI _ _ 3 _ _ _ h9;have n4:=ZqI _ _ 4 _ _ _ h9;have gH:=gd (OEnts.ext g8.out hf))|(at_builtin;refine Za _ rfl (.tmp 65) (.tmp 81) _ rfl w4.heap.size 61 i1 _ 5 72 underlying30 fG fH fI fJ rfl (by decide) _ _ (flatE es) rfl (Zt gH.out ((Ext.refl _).alloc _)) _ 1 (eCells ⟨str hS,str hU,str hT,str CN,ty⟩) rfl (Yr (e:=61) (fr:=(0,0)) (cs:=eCells ⟨str hS,str hU,str hT,str CN,ty⟩) (ZqJ _ _) rfl (by decide)) (Zr _) g6.out gY.out ?_ ?_;((have q1:=fa.out);have q2:=hf.size;simp;omega);intro fQ fR hD gr fC;obtain ⟨fB,fK,fp⟩:=Zp hD;(subst fp);(have gh:=KU (Zt gH.out ((Ext.refl _).alloc _)) gr (((Ext.refl _).alloc _).heap (hf.heap hi.out)) (by decide));have fP:=ZqI _ _ 4 _ _ _ gh;have fT:=Zrk gh 4;have ff:=ZeU (J.out.trans (Bar.of (hf.trans ((Ext.refl _).alloc _)))) (Zt gH.out ((Ext.refl _).alloc _)) gr (ZqE _))|(go_at_call 29;(refine ZqD gF.out ?_);rintro e V ⟨rfl,gT⟩;have H:=((Ext.refl W5).alloc (.cells (strsA [contentL,summaryL]).toArray 9)).trans gT;obtain ⟨W8,hn⟩:∃W8,V.alloc (.cells #[.string ⟨#[]⟩,.string ⟨#[]⟩,.string ⟨#[]⟩,.int .i64 0,.string (str CN)] 71)=W8:=⟨_,rfl⟩;(have he:Ext V W8:=by rw[<-hn];exact (Ext.refl V).alloc _);(have gM:W8.heap[V.heap.size]? =some (.cells #[.string ⟨#[]⟩,.string ⟨#[]⟩,.string ⟨#[]⟩,.int .i64 0,.string (str CN)] 71 (0,0)):=by rw[<-hn];exact ZqJ V _);obtain ⟨e0,e1,e2,e3,e4,e5,e6⟩:=BxN.cells (hG.out.ext (H.trans he));have h6:=hP.out.trans (H.trans he);have h8:wr.heap.size<=V.heap.size:=(hP.out.trans H).size;have gV:w.heap.size<=V.heap.size:=ZqM ha.out.size h8;have gS:=gL.out V.heap.size _ _ _ _ _ W8 (ha.out.trans h6) gV gM)|(refine ZqF rfl 25 (.tmp 9) (.tmp 48) rfl wr.heap.size _ rfl rfl _ _ (ZqJ _ _) Ze rfl Zz ?_;rw[Zh];rw[hm])|(refine ZqF rfl 71 (.tmp 10) (.tmp 52) rfl V.heap.size _ rfl rfl _ _ (ZqJ _ _) Gd rfl Zj9 ?_;rw[Zh];rw[hn]))
     have fD:entA y.nd ty=⟨str hS,str hU,str hT,str CN,ty⟩:=(by unfold entA;rw[gn.out,gp.out,go.out,gm.out]);have gi:=JL (k:=y.nd) (l2:= []) hJ.out;rw[hB.out] at gi;dsimp only[entsA] at gi;rw[fD] at gi;have gt:(es++ [(⟨str hS,str hU,str hT,str CN,ty⟩:Ent)]).length=es.length+1:=(by rw[ZqG];rfl);go_roundw
     case rel=>
      refine ⟨j+1,es++ [⟨str hS,str hU,str hT,str CN,ty⟩],fB,fK,hr,by go_num,gd ?_,gd ?_,gd ?_,gd ?_⟩
      ·rw[g9.out,Zrf,Zq8,Zrz];exact gi
      ·rw[gt];exact IV (OEnts.snoc hD) (Bar.setCell _ ⟨W1.heap.size,4,none⟩ _) gh (by decide)
      ·rw[gt];exact Zrh _ _ _ _ _ _ gh
      ·exact ff.trans (Bar.setCell _ ⟨W1.heap.size,4,none⟩ _)
     case measure=>simp[intOf];omega
   ·have fj:j=l.length:=om;have gO:=hJ.out;rw[fj,Zq4 (ZqE _)] at gO;have fO:¬(j:Int)<(l.length:Int):=om;have D:decA x.nd= .ok (fdA x.nd t es):=(by rw[ge.out,gO]);have I:Ext w wr:=Bar.ext hQ.out J.out X.out;have fx:=gd (Zfk ⟨.slice none 0 0,.slice RA es.length rc,fdA x.nd t es⟩ wr (HE.out.ext I) (gZ.out _ D) ⟨RSl.nil wr 1,OEnts.reads g8.out⟩);have g0:=ZqI _ _ 0 _ _ _ hi.out;have g1:=ZqI _ _ 1 _ _ _ hi.out;have g2:=ZqI _ _ 2 _ _ _ hi.out;have g3:=ZqI _ _ 3 _ _ _ hi.out;have g4:=ZqI _ _ 4 _ _ _ hi.out;have Q:=J.out.heap (gX.out.heap gI.out hL.out) hL.out;have gK:=gd Q;have fk:w.heap.size+1<wr.heap.size:=(Zrg.1 Q).1;have fv:=gd fk;have ha:=gd I;have gG:=gd D;clear fj gO D I Q fk
    go_wp2_with (first|(refine ZqF rfl 32 (.tmp 2) (.tmp 104) rfl (w.heap.size+1) #[.slice A9 m9 c9,.string yf.id,.string yf.title,.string yf.link,.int .i64 yf.upd,.slice B9 o9 d9] rfl rfl _ _ gz ZC rfl Jp ?_)|(refine ZqF rfl 32 (.tmp 13) (.tmp 102) rfl hF.heap.size _ rfl rfl _ _ (ZqJ _ _) ZC rfl Jp ?_;rw[Zh];rw[hW])|(go_at_call 30;have hz:=fx.out;(refine ZqD hz ?_);clear hz;rintro e hF ⟨Y,rfl,fq,gU,hg,gB⟩;have ft:=gU.sl;obtain ⟨yp,fS,yf⟩:=Y;obtain ⟨⟨A9,m9,c9,h9⟩,⟨B9,o9,d9,fb⟩⟩:=ft;(dsimp only at h9 fb);(subst h9);(subst fb);have fz:=gd fq;have fA:=gd gU;have fy:=gd hg;clear fq gU hg;(unfold cellsC fCells);(dsimp only);obtain ⟨gg,hW⟩:∃gg,hF.alloc (.cells #[.slice A9 m9 c9,.string yf.id,.string yf.title,.string yf.link,.int .i64 yf.upd,.slice B9 o9 d9] 32)=gg:=⟨_,rfl⟩;(have h5:Ext hF gg:=by rw[<-hW];exact (Ext.refl hF).alloc _);(have O:gg.heap[hF.heap.size]? =some (.cells #[.slice A9 m9 c9,.string yf.id,.string yf.title,.string yf.link,.int .i64 yf.upd,.slice B9 o9 d9] 32 (0,0)):=by rw[<-hW];exact ZqJ hF _);have r0:=ZqI _ _ 0 _ _ _ O;have r1:=ZqI _ _ 1 _ _ _ O;have r2:=ZqI _ _ 2 _ _ _ O;have r3:=ZqI _ _ 3 _ _ _ O;have r4:=ZqI _ _ 4 _ _ _ O;have r5:=ZqI _ _ 5 _ _ _ O;have gz:=(gB.trans h5).heap gK.out))
    ((try simp only[Exit.inBlock,Exit.then]);refine ZqT (Zc rfl _ _ _ _ #[.slice A9 m9 c9,.string yf.id,.string yf.title,.string yf.link,.int .i64 yf.upd,.slice B9 o9 d9] _ _ rfl (ZqV _ _ _ _ _ _ gz) underlying32 rfl ZC) rfl ?_);rw[gG.out];refine ⟨⟨⟨.slice A9 m9 c9,.slice B9 o9 d9,yf⟩,rfl,fz.out,?_,⟨⟨_,_,_,rfl⟩,⟨_,_,_,rfl⟩⟩⟩,((ha.out.trans gB).trans h5).setRow (ZrF _) _⟩;exact (fA.out.ext h5).grown (ZG _ _ _) (fy.out _ fv.out)
end
theorem Zfq {a b:List ByteArray} {k:Nat} (h:k<a.length) (A:k<b.length):pathCmp (a.drop k) (b.drop k)=if sCmp a[k] b[k]=0 then pathCmp (a.drop (k+1)) (b.drop (k+1)) else sCmp a[k] b[k]:=by
 rw[ZqR h,ZqR A];rfl
theorem RStrs.at {w:Wq} {v:Value} {l:List ByteArray} (h:RStrs w v l) {k:Nat} (F:k<l.length):∃ad c,v= .slice (some ad) l.length c/\w.cell? (ad.add k)=some (.string l[k]):=by
 obtain ⟨_,A,c,e,_,_,_,C⟩:=h;obtain ⟨ad,rfl,D⟩:=C k (.string l[k]) (by rw[Zrq,ZqL F];rfl);exact ⟨ad,c,e,D⟩
theorem ZlU (a:ByteArray):sCmp a a=0:=VF.self a
theorem Za1 (u v:Value) (a b:List ByteArray) (w:Wq) (ha:RStrs w u a) (hb:RStrs w v b) (hn:a.length<=16777216):
 Calls prog 35 #[u,v] w λe w'=>e= .returned (nI (pathCmp a b))/\Ext w w':=by
 obtain ⟨A,c,rfl,hd,hg⟩:=ha.form;obtain ⟨B,d,rfl,hf,hh⟩:=hb.form;have HA:Hid (a.length<=maxLen):=gd om;have HB:Hid (b.length<=maxLen):=gd om;clear hd hg hf hh;go_enter func35,ntmps35;go_wp2;go_loopw [5] (λi wr=>∃k:Nat,k<=a.length/\k<=b.length/\i=nI k/\Hid (pathCmp a b=pathCmp (a.drop k) (b.drop k))/\Ext w wr) (λi _=>a.length - (intOf i).toNat)
 case atStart=>exact ⟨0,ZqO _,ZqO _,rfl,gd rfl,Ext.refl _⟩
 case round=>
  obtain ⟨k,hl,hm,rfl,C,V⟩:=hrel;by_cases S:k<a.length
  ·by_cases F:k<b.length
   ·have U:=Zfq S F;obtain ⟨ad,c1,e1,J⟩:=(ha.ext V).at S;injection e1 with e1 e2 e3;subst e1;obtain ⟨bd,H,e4,O⟩:=(hb.ext V).at F;injection e4 with e4 e5 e6;subst e4;clear e2 e3 e5 e6;obtain ⟨x,Y⟩:∃x,a[k]=x:=⟨_,rfl⟩;obtain ⟨y,Z⟩:∃y,b[k]=y:=⟨_,rfl⟩;rw[Y,Z] at U;rw[Y] at J;rw[Z] at O;have hc:=gd U;have HC:=gd (λw'=>Qr x y w');clear U Y Z;have hk:(0:Int)<=(k:Int):=om;have hi:(k:Int)<(a.length:Int):=om;have Q:(k:Int)<(b.length:Int):=om;have f0:∀d:Aft wr,d.w.cell? (ad.add k)=some (.string x):=Aft.cell J;have f1:∀d:Aft wr,d.w.cell? (bd.add k)=some (.string y):=Aft.cell O;cases hxy:(x.toList==y.toList) with
    |true=>
     have D:x=y:=toList_inj (by simpa using hxy);have I:=gd D;clear D;go_wp2;refine rA ?_
     repeat (first|go_big_quiet_step (fail)|quiet_step (fail))
     refine Zru ?_;rintro _ ⟨H,rfl⟩;have X:=V.trans H.ext;clear f0 f1;go_wp2;go_roundw
     case rel=>refine ⟨k+1,om,om,by go_num,gd ?_,X⟩;rw[C.out,hc.out,I.out,ZqN (ZlU _)]
     case measure=>simp[intOf];omega
    |false=>
     have D:¬sCmp x y=0:=(by intro e;have:=ZbF e;rw[this] at hxy;simp at hxy);have I:=gd D;clear D;go_wp2;refine rA ?_
     repeat (first|go_big_quiet_step (fail)|quiet_step (fail))
     refine Zru ?_;rintro _ ⟨H,rfl⟩;have X:=V.trans H.ext;have g0:∀d:Aft H.w,d.w.cell? (ad.add k)=some (.string x):=λd=>(H.ext.trans d.ext).cell J;have g1:∀d:Aft H.w,d.w.cell? (bd.add k)=some (.string y):=λd=>(H.ext.trans d.ext).cell O;clear f0 f1;go_wp2;refine rA ?_
     repeat (first|go_big_quiet_step ((go_at_call 79;with_reducible exact ZX (HC.out _)))|quiet_step ((go_at_call 79;with_reducible exact ZX (HC.out _))))
     refine Zru ?_;rintro _ ⟨d2,rfl⟩;have hj:=X.trans d2.ext;clear g0 g1;go_wp2;go_ret;have h:pathCmp a b=sCmp x y:=(by rw[C.out,hc.out,ZqH I.out]);exact ⟨by rw[h];rfl,hj⟩
   ·have R:k=b.length:=om;subst R;have h:pathCmp a b=1:=(by rw[C.out,Zq3 (ZqE _),ZqR S];rfl);have HF:=gd h;clear h C;have Q:¬(b.length:Int)<(b.length:Int):=om;have hi:(b.length:Int)<(a.length:Int):=om;have he:¬(a.length:Int)<(b.length:Int):=om;go_wp2;go_ret;exact ⟨by rw[HF.out];rfl,V⟩
  ·have R:k=a.length:=om;subst R;by_cases F:a.length<b.length
   ·have h:pathCmp a b= -1:=(by rw[C.out,Zq3 (ZqE a.length),ZqR F];rfl);have HF:=gd h;clear h C;have Q:(a.length:Int)<(b.length:Int):=om;go_wp2;go_ret;exact ⟨by rw[HF.out];rfl,V⟩
   ·have ho:b.length=a.length:=om;have h:pathCmp a b=0:=(by rw[C.out,Zq3 (ZqE a.length),Zq3 om];rfl);have HF:=gd h;clear h C;have Q:¬(a.length:Int)<(b.length:Int):=om;have he:¬(b.length:Int)<(a.length:Int):=om;go_wp2;go_ret;exact ⟨by rw[HF.out];rfl,V⟩
end Go.Proofs.YtmfinhgobjbecaaGreatDoor
