/- Parts of the proof: contracts and plain laws. -/
import Derived.Test.YtmfinhgobjbecaaGreatDoorA18
namespace Go.Proofs.YtmfinhgobjbecaaGreatDoor
open Go Go.RowKit _root_.Go.Proofs.Tryz
set_option linter.unusedVariables false
set_option linter.unusedSimpArgs false
set_option maxRecDepth 100000
set_option maxHeartbeats 16000000
section
set_option linter.unusedSimpArgs false
def fieldsL (id title link:List UInt8) (t:Int) (more:List Nd):List Nd:=
 textN idL id::textN titleL title::((if link= [] then [] else [linkE link])++textN updatedL (fmtL t)::more)
def NK (B:Nat) (y:Nc) (n:Nd):Prop:=y.kind=0/\y.nd=n/\∀k,k<B->awayN (some k) y
theorem HNs.appA {w H:World} {B:Nat} {v v3:Value} {l m:List Nc} (h:HNs w B v l) (O:RdNs w m) (I:awayNs v.ownBlock m)
 (D:H.ownsRow B 25 7 v3 (l.length+m.length) (flatN l++flatN m)) (J:w.grownBy H v.ownBlock) (F:v3.ownBlock=v.ownBlock\/v3.ownBlock=some w.heap.size):HNs H B v3 (l++m):=by
 have C:∀y∈l++m,RdN w y/\awayN v.ownBlock y:=by
  intro y A;rcases Zq0.1 A with A|A
  ·exact ⟨(ZD l).1 h.rd y A,(Zx l).1 h.away y A⟩
  ·exact ⟨(ZD m).1 O y A,(Zx m).1 I y A⟩
 refine ⟨?_,(ZD _).2 λy A=>RdN.grown J y (C y A).1 (C y A).2,(Zx _).2 λy A=> ?_⟩
 ·rw[Xm,ZqG];exact D
 ·rcases F with e|e
  ·rw[e];exact (C y A).2
  ·rw[e];exact Yo (C y A).1 (ZqE _)
theorem ZaP {w:World} {l:List Nc} (h:RdNs w l):∀u∈flatN l,u.oneCell'=true:=by
 intro u A;unfold flatN at A;obtain ⟨c,C,A⟩:=Zs0.1 A;obtain ⟨x,D,rfl⟩:=Zrr.1 C;exact ZH (RdN.sl ((ZD l).1 h x D)) u A
theorem U1 {w:World} {y:Nc} {r:Option Nat} {D:Nat} (h:∀k,k<D->awayN (some k) y) (C:RdN w y) (A:∀k,r=some k->k<D):awayN r y:=by
 cases r with
 |none=>exact ZbN C
 |some k=>exact h k (A k rfl)
def dst1:Nat->Nat|2=>10|5=>13|_=>14
def dep1:Nat->List Nat|6=> [2,5]|_=> []
def FE1 (id title:List UInt8) (B:Nat) (i:Nat) (v:Value) (w:World):Prop:=match i with
 |2=>∃y,v= .agg (cellsN y).toArray/\NdOf w y (textN idL id)/\NK B y (textN idL id)
 |5=>∃y,v= .agg (cellsN y).toArray/\NdOf w y (textN titleL title)/\NK B y (textN titleL title)
 |_=>∃zb y1 y2,v= .slice (some ⟨zb,0,none⟩) 2 2/\HNs w B v [y1,y2]/\NK B y1 (textN idL id)/\NK B y2 (textN titleL title)
theorem Zol {id title:List UInt8} {B:Nat}:∀(i:Nat) (v:Value) (w w':World),FE1 id title B i v w->Ext w w'->FE1 id title B i v w':=by
 intro i v w w' h F;unfold FE1 at*;split at h
 ·obtain ⟨y,A,C,D⟩:=h;exact ⟨y,A,C.ext F,D⟩
 ·obtain ⟨y,A,C,D⟩:=h;exact ⟨y,A,C.ext F,D⟩
 ·obtain ⟨zb,y1,y2,A,C,D,H⟩:=h;exact ⟨zb,y1,y2,A,HNs.ext C F,D,H⟩
def dst3:Nat->Nat|1=>19|_=>22
def dep3:Nat->List Nat|_=> []
def FE3 (link:List UInt8) (i:Nat) (v:Value) (w:World):Prop:=match i with
 |1=>∃(A:Option Addr) (c:Nat),v= .agg (cellsN (.mk 0 [] linkL (.slice none 0 0) [] (.slice A 0 c) [] [] 0)).toArray/\RNs w (.slice A 0 c) []
 |_=>∃zb,v= .slice (some ⟨zb,0,none⟩) 2 2/\RStrs w v (pairS [(hrefL,link)])
theorem Zom {link:List UInt8}:∀(i:Nat) (v:Value) (w w':World),FE3 link i v w->Ext w w'->FE3 link i v w':=by
 intro i v w w' h F;unfold FE3 at*;split at h
 ·obtain ⟨A,c,C,D⟩:=h;exact ⟨A,c,C,RNs.ext D F⟩
 ·obtain ⟨zb,C,D⟩:=h;exact ⟨zb,C,RSl.ext D F⟩
theorem IH (id title link:List UInt8) (t:Int) (mA:Option Addr) (mc:Nat) (more:List Nc) (w:World) (hE:Env w) (ht:inT t=true) (hm:RNs w (.slice mA more.length mc) more) (gr:∀y∈more,RdN w y/\y.kind=0) (gq:more.length<=1000000):
 Calls prog 40 #[.agg #[.string (str id),.string (str title),.string (str link),.int .i64 t],.slice mA more.length mc] w λe w'=>∃A c l,e= .returned (.slice A l.length c)/\RNs w' (.slice A l.length c) l/\(∀y∈l,RdN w' y/\y.kind=0)/\l.map Nc.nd=fieldsL id title link t (more.map Nc.nd)/\(∀y∈l,y∈more\/∀k,k<w.heap.size->awayN (some k) y)/\Ext w w':=by
 obtain ⟨i0,hI,hT,hU,hV⟩:=ZrE Xn;obtain ⟨W0,gc⟩:∃W0,w.alloc (.cells #[.string (str id),.string (str title),.string (str link),.int .i64 t] 63)=W0:=⟨_,rfl⟩;have gt:Ext w W0:=by rw[<-gc];exact (Ext.refl w).alloc _
 have gn:W0.heap[w.heap.size]? =some (.cells #[.string (str id),.string (str title),.string (str link),.int .i64 t] 63 (0,0)):=by rw[<-gc];exact ZqJ w _
 have F:=gd gt;have J:=gd gn;have hX:=gd Zbc;have gi:=gd (λ(w':World) (hx:Ext w w')=>Ziz t w' (hE.ext hx) ht);have HM:=gd hm;have he:=gd gr;have hW:=gd gq;clear gt gn hE ht hm gr gq;go_enter func40,ntmps40;go_wp2;refine rN ?_;change wpAny _ _ _ _ _ _ _ (World.drew _);have U:=(Ext.refl W0).drew;refine Yn (i:=0) (v:= .pointer (some ⟨w.heap.size,0,none⟩)) (λw'=>Ext W0 w') 7 rfl (by kernel_rfl) (λ_ _ _ h=>h) (Or.inl ⟨by rfl,λw' hS=>by go_simp⟩) U ?_;refine tT 1 (.string (str id)) rfl (λw' hS=>by have q0:=ZqI _ _ 0 _ _ _ (Ext.heap hS J.out);have q1:=ZqI _ _ 1 _ _ _ (Ext.heap hS J.out);have q2:=ZqI _ _ 2 _ _ _ (Ext.heap hS J.out);go_simp) U ?_;refine tT 3 (.pointer (some ⟨w.heap.size,1,none⟩)) rfl (λw' hS=>by go_simp) U ?_;refine tT 4 (.string (str title)) rfl (λw' hS=>by have q0:=ZqI _ _ 0 _ _ _ (Ext.heap hS J.out);have q1:=ZqI _ _ 1 _ _ _ (Ext.heap hS J.out);have q2:=ZqI _ _ 2 _ _ _ (Ext.heap hS J.out);go_simp) U ?_;go_simp;refine QG (m:=1) (f:=3) rfl #[true,true,true,true,true,true,true,false] (λa0 a' w'=>∃(x1 x2:Value) (zb:Nat) (y1 y2:Nc),a'=(((a0.put (some 10) x1).put (some 13) x2).put (some 14) (.slice (some ⟨zb,0,none⟩) 2 2))/\Ext W0 w'/\HNs w' W0.heap.size (.slice (some ⟨zb,0,none⟩) 2 2) [y1,y2]/\NK W0.heap.size y1 (textN idL id)/\NK W0.heap.size y2 (textN titleL title)) ?_ ?_
 ·refine Jy [2,5,6] dst1 dep1 (FE1 id title W0.heap.size) rfl (by kernel_rfl) (by decide) (by decide) (by kernel_rfl) (by decide) (by kernel_rfl) (λi _=>Zol i) (λw' hx=>U.trans hx) ?_ ?_
  ·intro i hi A1 w' vs hx H S;have h9:=gd (U.trans hx).size;simp only[Zq1,Zri,ZrD] at hi;rcases hi with rfl|rfl|rfl
   ·have e1:A1.tmps[9]?.getD undef= .string (str id):=YM ((H 9 (by decide)).trans rfl);clear H S hx;refine Jq rfl rfl (λK hK=> ?_);go_simp;go_at_call 38;refine ZqD (hX.out idL id w') ?_;rintro e V ⟨y,rfl,C,ge,hv⟩;exact hK _ _ hv ⟨y,rfl,C,C.kind,C.nd,λk hk=>ge k (Zrx hk h9.out)⟩
   ·have e1:A1.tmps[12]?.getD undef= .string (str title):=YM ((H 12 (by decide)).trans rfl);clear H S hx;refine Jq rfl rfl (λK hK=> ?_);go_simp;go_at_call 38;refine ZqD (hX.out titleL title w') ?_;rintro e V ⟨y,rfl,C,ge,hv⟩;exact hK _ _ hv ⟨y,rfl,C,C.kind,C.nd,λk hk=>ge k (Zrx hk h9.out)⟩
   ·obtain ⟨e1,y1,e1',f1,g1⟩:=S 2 (by simp[dep1]);obtain ⟨e2,y2,e2',f2,g2⟩:=S 5 (by simp[dep1]);have e1:A1.tmps[10]?.getD undef=vs 2:=YM e1;have e2:A1.tmps[13]?.getD undef=vs 5:=YM e2;obtain ⟨P,p,r,Q,q,s,hB, -, -⟩:=ZR y1 (RdN.sl f1.rd);obtain ⟨P2,p2,r2,Q2,q2,s2,gu, -, -⟩:=ZR y2 (RdN.sl f2.rd);rw[e1',hB] at e1;rw[e2',gu] at e2;clear H S hx e1' e2';refine Jq rfl rfl (λK hK=> ?_);go_simp;refine hK _ _ ((Ext.refl w').alloc _) ⟨_,y1,y2,rfl,⟨?_,?_,?_⟩,g1,g2⟩
    ·have gy:flatN [y1,y2]=cellsN y1++cellsN y2:=(by unfold flatN;simp);rw[gy,hB,gu];exact World.ownsRow_lit w' _ 2 h9.out (by decide) rfl
    ·exact (ZD _).2 λy C=>RdN.ext ((Ext.refl w').alloc _) _ (by rcases Zq1.1 C with rfl|C;exact f1.rd;rw[ZqU.1 C];exact f2.rd)
    ·exact (Zx _).2 λy C=>Yo (by rcases Zq1.1 C with rfl|C;exact f1.rd;rw[ZqU.1 C];exact f2.rd) (ZqE _)
  ·intro vs w' hx hf;obtain ⟨zb,y1,y2,h1,h2,h3,h4⟩:=hf 6 (by decide);exact ⟨by kernel_rfl,vs 2,vs 5,zb,y1,y2,by rw[<-h1];kernel_rfl,U.trans hx,by rw[<-h1];exact h2,h3,h4⟩
 rintro a' w2 ⟨x1,x2,zb,y1,y2,rfl,hA,gg,hw,hz⟩;refine Xk (i:=7) rfl (by kernel_rfl) (λK hK=> ?_);go_simp;refine hK _ _ (λ_=>hA) ?_;clear hK K;refine KP (by kernel_rfl) ?_;clear U
 try rw[gc]
 by_cases hu:link= []
 ·have q4:(str link).toList.isEmpty=true:=by rw[hu];exact Xh
  have h8:=gd hu;clear hu;have k2:=ZqI _ _ 2 _ _ _ (Ext.heap hA J.out);have hC:=gd gg;have hc:=gd hA;have hr:=Ext.heap hc.out J.out;have k3:=ZqI _ _ 3 _ _ _ hr;have gx:=gd hr;clear hr
  go_wp2_with (first|(go_at_call 38;(refine ZqD (hX.out updatedL (fmtL t) w7) ?_);rintro e w8 ⟨X,rfl,O,hG,gh⟩;obtain ⟨P8,p8,r8,Q8,q8,s8,hR, -, -⟩:=ZR X (RdN.sl O.rd);rw[hR];have hl:=hQ.trans gh;have hn:=hc.out.trans hl;have hL:=HNs.ext hC.out (hl.trans ((Ext.refl w8).alloc (.cells #[.int .i64 (X.kind:Nat),.string (str X.space),.string (str X.name),.slice P8 p8 r8,.slice Q8 q8 s8,.string (str X.text),.int .i64 (X.at_:Nat)] 25)));have hp:=gd hL;have hM:=hQ.size;have hD:=gd hM;clear hL hM)|(go_at_call 88;(refine ZqD (gi.out _ (F.out.trans hc.out)) ?_);rintro e w7 ⟨rfl,hQ⟩)|(at_builtin;refine Za _ rfl (.tmp 32) (.tmp 35) _ rfl W0.heap.size 25 i0 _ 7 112 underlying23 hI hT hU hV rfl (by decide) _ 2 (flatN [y1,y2]) rfl hp.out.row _ 1 (cellsN X) rfl (by rw[hR];exact Zj rfl (by decide)) (ZH (RdN.sl O.rd)) (by decide) (by decide) ?_ ?_;((have q1:=hn.size);simp;omega);intro v9 w9 D Y ha;have hH:=HNs.snoc (x:=X) hp.out (RdN.ext ((Ext.refl w8).alloc _) _ O.rd) (U1 hG O.rd (λk e=>Zrx (hC.out.row.lt k e).2 hD.out)) D Y ha;obtain ⟨A9,c9,hO⟩:=Zp D;subst hO;have R:=Ext.app (hn.alloc _) Y hp.out.row (ZqE _);have hb:=gd hH)|(at_builtin;refine Za _ rfl (.tmp 36) (.tmp 37) _ rfl W0.heap.size 25 i0 _ 7 112 underlying23 hI hT hU hV rfl (by decide) _ 3 (flatN ([y1,y2]++ [X])) rfl hb.out.row _ more.length (flatN more) rfl (RNs.ext HM.out (F.out.trans R)) (ZaP ((ZD _).2 λy C=>RdN.ext (F.out.trans R) _ (he.out y C).1)) (by have:=hW.out;unfold maxLen;omega) (by have:=hW.out;omega) R.size ?_;intro gz gA I hg hq;have hh:=HNs.appA (m:=more) hb.out ((ZD _).2 λy C=>RdN.ext (F.out.trans R) _ (he.out y C).1) ((Zx _).2 λy C=>VZ (λg e=>ZqM F.out.size (hb.out.row.lt g e).1) y (he.out y C).1) I hg hq;obtain ⟨h7,ga,hN⟩:=Zp I;subst hN;have hP:=Ext.app R hg hb.out.row (ZqE _)))
  go_ret;have hj:([y1,y2]++ [X]++more).length=3+more.length:=by simp;omega
  refine ⟨h7,ga,[y1,y2]++ [X]++more,(by rw[hj];rfl),?_,?_,?_,?_,F.out.trans hP⟩
  ·rw[hj];exact HNs.reads hh
  ·intro y C;refine ⟨(ZD _).1 hh.rd y C,?_⟩;simp only[Zq0,Zq1,Zri,ZrD] at C;rcases C with ((rfl|rfl)|rfl)|C
   ·exact hw.1
   ·exact hz.1
   ·exact O.kind
   ·exact (he.out y C).2
  ·unfold fieldsL;rw[ZqN h8.out];simp[hw.2.1,hz.2.1,O.nd]
  ·intro y C;simp only[Zq0,Zq1,Zri,ZrD] at C;rcases C with ((rfl|rfl)|rfl)|C
   ·exact Or.inr λk hk=>hw.2.2 k (Zrx hk F.out.size)
   ·exact Or.inr λk hk=>hz.2.2 k (Zrx hk F.out.size)
   ·exact Or.inr λk hk=>hG k (Zrx hk (ZqM F.out.size (ZqM hc.out.size hD.out)))
   ·exact Or.inl C
 ·have q4:=JX hu;have h8:=gd hu;clear hu;have k2:=ZqI _ _ 2 _ _ _ (Ext.heap hA J.out);have hs:=gd hA;have gj:=gd gg;go_wp2;refine rN ?_;change wpAny _ _ _ _ _ _ _ (World.drew _);have U:=(Ext.refl w2).drew;have hF:w2.drew.heap[w.heap.size]? =some (.cells #[.string (str id),.string (str title),.string (str link),.int .i64 t] 63 (0,0)):=(hs.out.trans U).heap J.out;refine Yn (i:=0) (v:= .slice (some ⟨zb,0,none⟩) 2 2) (λw'=>w'.heap[w.heap.size]? =some (.cells #[.string (str id),.string (str title),.string (str link),.int .i64 t] 63 (0,0))) 8 rfl (by kernel_rfl) (λ_ _ _ h=>h) (Or.inl ⟨by rfl,λw' hS=>by go_simp⟩) hF ?_;refine tT 2 (.pointer (some ⟨w.heap.size,2,none⟩)) rfl (λw' hS=>by go_simp) hF ?_;refine tT 3 (.string (str link)) rfl (λw' hS=>by have q2:=ZqI _ _ 2 _ _ _ hS;go_simp) hF ?_;go_simp;refine QG (m:=4) (f:=2) rfl #[true,true,true,true,true,false,false,false,false] (λa0 a' w'=>∃(KA:Option Addr) (kc zq:Nat),a'=((a0.put (some 19) (.agg (cellsN (.mk 0 [] linkL (.slice none 0 0) [] (.slice KA 0 kc) [] [] 0)).toArray)).put (some 22) (.slice (some ⟨zq,0,none⟩) 2 2))/\Ext w2 w'/\RNs w' (.slice KA 0 kc) []/\RStrs w' (.slice (some ⟨zq,0,none⟩) 2 2) (pairS [(hrefL,link)])) ?_ ?_
  ·refine Jy [1,4] dst3 dep3 (FE3 link) rfl (by kernel_rfl) (by decide) (by decide) (by kernel_rfl) (by decide) (by kernel_rfl) (λi _=>Zom i) (λw' hx=>hx.heap hF) ?_ ?_
   ·intro i hi A1 w' vs hx H S;simp only[Zq1,Zri,ZrD] at hi;rcases hi with rfl|rfl
    ·clear H S hx;refine Jq rfl rfl (λK hK=> ?_);go_simp;go_at_call 39;refine ZqD (IG linkL (.slice none 0 0) [] w' (RNs.nil w') (by intro y C;cases C) (by decide)) ?_;rintro e V ⟨ks,rfl,ho,hv⟩;obtain ⟨KA,kc,rfl⟩:=Zp ho;exact hK _ _ hv ⟨KA,kc,rfl,RSl.of_own ho⟩
    ·have e1:A1.tmps[21]?.getD undef= .string (str link):=YM ((H 21 (by decide)).trans rfl);clear H S hx;refine Jq rfl rfl (λK hK=> ?_);go_simp;exact hK _ _ ((Ext.refl w').alloc _) ⟨_,rfl,Zj (w:=w') (n:=2) (cs:= [.string (str hrefL),.string (str link)]) rfl (by decide)⟩
   ·intro vs w' hx hf;obtain ⟨KA,kc,h1,h2⟩:=hf 1 (by decide);obtain ⟨zq,h3,h4⟩:=hf 4 (by decide);exact ⟨by kernel_rfl,KA,kc,zq,by rw[<-h1,<-h3];kernel_rfl,U.trans hx,h2,by rw[<-h3];exact h4⟩
  rintro a' w3 ⟨KA,kc,zq,rfl,Z,go,gp⟩;have gk:=(hs.out.trans Z).heap J.out;refine Xk (i:=5) rfl (by kernel_rfl) (λK hK=> ?_);go_simp;go_at_call 41;refine ZqD (Zh1 0 [] linkL (.slice none 0 0) (.slice KA 0 kc) [] 0 kc KA [] 0 _ [(hrefL,link)] w3 (RAts.nil w3) rfl gp (by show 0+1<=1000000;omega)) ?_;rintro e w4 ⟨al,rfl,ho,hZ⟩;obtain ⟨LA,lc,rfl⟩:=Zp ho;have gb:=hZ.heap gk;refine hK _ _ (λ_=>gb) ?_;clear hK K;have hB:cellsN (.mk 0 [] linkL (.slice LA (0+1) lc) [pairA (hrefL,link)] (.slice KA 0 kc) [] [] 0)= [.int .i64 0,.string ⟨#[]⟩,.string ⟨#[108,105,110,107]⟩,.slice LA 1 lc,.slice KA 0 kc,.string ⟨#[]⟩,.int .i64 0]:=rfl;have hd:NdOf w4 (.mk 0 [] linkL (.slice LA (0+1) lc) [pairA (hrefL,link)] (.slice KA 0 kc) [] [] 0) (linkE link):=⟨by rw[RdN];exact ⟨RSl.of_own ho,RNs.ext go hZ,by rw[RdNs];trivial⟩,rfl,by rw[Nc.nd];rfl⟩;have hY:∀k,k<w2.heap.size->awayN (some k) (.mk 0 [] linkL (.slice LA (0+1) lc) [pairA (hrefL,link)] (.slice KA 0 kc) [] [] 0):=λk hk=>by rw[awayN];exact ⟨Or.inr (λe=>by have q0:=(ho.lt k e).1;have q1:=Z.size;omega),Or.inl rfl,by rw[awayNs];trivial⟩
  obtain ⟨yl,gw⟩:∃yl,Nc.mk 0 [] linkL (.slice LA (0+1) lc) [pairA (hrefL,link)] (.slice KA 0 kc) [] [] 0=yl:=⟨_,rfl⟩;rw[gw] at hB hd hY;refine Xk (i:=6) rfl (by kernel_rfl) (λK hK=> ?_);go_simp;have gs:RNs (w4.alloc (.cells #[.int .i64 0,.string ⟨#[]⟩,.string ⟨#[108,105,110,107]⟩,.slice LA 1 lc,.slice KA 0 kc,.string ⟨#[]⟩,.int .i64 0] 25)) (.slice (some ⟨w4.heap.size,0,none⟩) 1 1) [yl]:=by unfold RNs;rw[Yq,hB];exact Zj (n:=1) rfl (by decide)
  have h0:Ext w4 (w4.alloc (.cells #[.int .i64 0,.string ⟨#[]⟩,.string ⟨#[108,105,110,107]⟩,.slice LA 1 lc,.slice KA 0 kc,.string ⟨#[]⟩,.int .i64 0] 25)):=(Ext.refl w4).alloc _;have gl:=h0.heap gb;refine hK _ _ (λ_=>gl) ?_;clear hK K;have h6:=Z.trans (hZ.trans h0);have h5:=NdOf.ext hd h0;clear Z hd hZ h0 gk gb gl hB ho go gp gw;have Z:=h6;have hd:=h5;refine Xk (i:=7) rfl (by kernel_rfl) (λK hK=> ?_);have hJ:=HNs.ext gj.out Z;refine Zk _ rfl (.tmp 18) (.tmp 24) _ rfl W0.heap.size 25 i0 _ 7 112 underlying23 hI hT hU hV rfl (by decide) _ 2 (flatN [y1,y2]) rfl hJ.row _ 1 (flatN [yl]) rfl gs (by rw[Yq];exact ZH (RdN.sl hd.rd)) (by decide) (by decide) (hs.out.trans Z).size ?_;intro v9 w9 D Y ha;rw[Yq] at D;have hH:=HNs.snoc (x:=yl) hJ hd.rd (U1 hY hd.rd (λk e=>(gj.out.row.lt k e).2)) D Y ha;have R:=Ext.app (hs.out.trans Z) Y hJ.row (ZqE _);obtain ⟨A9,c9,hO⟩:=Zp D;subst hO;have gm:=KU hJ.row Y ((hs.out.trans Z).heap J.out) (by decide);refine hK _ _ (λ_=>gm) ?_;clear hK K;refine Xk (i:=8) rfl (by kernel_rfl) (λK hK=> ?_);go_simp;refine hK _ _ (λh=>absurd (show true=false from h) (by decide)) ?_;clear hK K;refine KP (by kernel_rfl) ?_;have gf:NK w2.heap.size yl (linkE link):=⟨hd.kind,hd.nd,hY⟩;clear U hF gm k2 hA gg Z h6 h5 gs D Y ha hJ hY;have hC:=gd (show HNs w9 W0.heap.size (.slice A9 3 c9) [y1,y2,yl] from hH);have hc:=gd R;have hr:=Ext.heap hc.out J.out;have k3:=ZqI _ _ 3 _ _ _ hr;have gx:=gd hr;clear hr
  go_wp2_with (first|(go_at_call 38;(refine ZqD (hX.out updatedL (fmtL t) w7) ?_);rintro e w8 ⟨X,rfl,O,hG,gh⟩;obtain ⟨P8,p8,r8,Q8,q8,s8,hR, -, -⟩:=ZR X (RdN.sl O.rd);rw[hR];have hl:=hQ.trans gh;have hn:=hc.out.trans hl;have hL:=HNs.ext hC.out (hl.trans ((Ext.refl w8).alloc (.cells #[.int .i64 (X.kind:Nat),.string (str X.space),.string (str X.name),.slice P8 p8 r8,.slice Q8 q8 s8,.string (str X.text),.int .i64 (X.at_:Nat)] 25)));have hp:=gd hL;have hM:=hQ.size;have hD:=gd hM;clear hL hM)|(go_at_call 88;(refine ZqD (gi.out _ (F.out.trans hc.out)) ?_);rintro e w7 ⟨rfl,hQ⟩)|(at_builtin;refine Za _ rfl (.tmp 32) (.tmp 35) _ rfl W0.heap.size 25 i0 _ 7 112 underlying23 hI hT hU hV rfl (by decide) _ 3 (flatN [y1,y2,yl]) rfl hp.out.row _ 1 (cellsN X) rfl (by rw[hR];exact Zj rfl (by decide)) (ZH (RdN.sl O.rd)) (by decide) (by decide) ?_ ?_;((have q1:=hn.size);simp;omega);intro v9 w9 D Y ha;have hH:=HNs.snoc (x:=X) hp.out (RdN.ext ((Ext.refl w8).alloc _) _ O.rd) (U1 hG O.rd (λk e=>Zrx (hC.out.row.lt k e).2 hD.out)) D Y ha;obtain ⟨A9,c9,hO⟩:=Zp D;subst hO;have R:=Ext.app (hn.alloc _) Y hp.out.row (ZqE _);have hb:=gd hH)|(at_builtin;refine Za _ rfl (.tmp 36) (.tmp 37) _ rfl W0.heap.size 25 i0 _ 7 112 underlying23 hI hT hU hV rfl (by decide) _ 4 (flatN ([y1,y2,yl]++ [X])) rfl hb.out.row _ more.length (flatN more) rfl (RNs.ext HM.out (F.out.trans R)) (ZaP ((ZD _).2 λy C=>RdN.ext (F.out.trans R) _ (he.out y C).1)) (by have:=hW.out;unfold maxLen;omega) (by have:=hW.out;omega) R.size ?_;intro gz gA I hg hq;have hh:=HNs.appA (m:=more) hb.out ((ZD _).2 λy C=>RdN.ext (F.out.trans R) _ (he.out y C).1) ((Zx _).2 λy C=>VZ (λg e=>ZqM F.out.size (hb.out.row.lt g e).1) y (he.out y C).1) I hg hq;obtain ⟨h7,ga,hN⟩:=Zp I;subst hN;have hP:=Ext.app R hg hb.out.row (ZqE _)))
  go_ret;have hj:([y1,y2,yl]++ [X]++more).length=4+more.length:=by simp;omega
  refine ⟨h7,ga,[y1,y2,yl]++ [X]++more,(by rw[hj];rfl),?_,?_,?_,?_,F.out.trans hP⟩
  ·rw[hj];exact HNs.reads hh
  ·intro y C;refine ⟨(ZD _).1 hh.rd y C,?_⟩;simp only[Zq0,Zq1,Zri,ZrD] at C;rcases C with ((rfl|rfl|rfl)|rfl)|C
   ·exact hw.1
   ·exact hz.1
   ·exact gf.1
   ·exact O.kind
   ·exact (he.out y C).2
  ·unfold fieldsL;rw[ZqH h8.out];simp[hw.2.1,hz.2.1,gf.2.1,O.nd]
  ·intro y C;simp only[Zq0,Zq1,Zri,ZrD] at C;rcases C with ((rfl|rfl|rfl)|rfl)|C
   ·exact Or.inr λk hk=>hw.2.2 k (Zrx hk F.out.size)
   ·exact Or.inr λk hk=>hz.2.2 k (Zrx hk F.out.size)
   ·exact Or.inr λk hk=>gf.2.2 k (Zrx hk (F.out.trans hs.out).size)
   ·exact Or.inr λk hk=>hG k (Zrx hk (ZqM F.out.size (ZqM hc.out.size hD.out)))
   ·exact Or.inl C
end
section
set_option linter.unusedSimpArgs false
theorem KL (b:ByteArray):∃l,b=str l:=⟨b.data.toList,by apply Yj;rw[Zg]⟩
theorem Zaa (a b c:List UInt8) (t:Int) (m:List Nd):fieldsN (str a) (str b) (str c) t m=fieldsL a b c t m:=by
 unfold fieldsN fieldsL lst;rw[Zg,Zg,Zg,Zo];by_cases h:c= []
 ·rw[ZqN h,ZqN (by rw[h];rfl)]
 ·rw[ZqH h,ZqH (λe=>h (List.length_eq_zero_iff.1 e))]
theorem Zj6 (c:List UInt8):moreN (str c)=if c= [] then [] else [textN contentL c]:=by
 unfold moreN lst;rw[Zg,Zo];by_cases h:c= []
 ·rw[ZqN h,ZqN (by rw[h];rfl)]
 ·rw[ZqH h,ZqH (λe=>h (List.length_eq_zero_iff.1 e))]
theorem Ze4 {nm:List UInt8} {ks:Value} {l:List Nc} (h:∀y∈l,y.kind=0):(Nc.mk 0 [] nm (.slice none 0 0) [] ks l [] 0).nd=elemN nm (l.map Nc.nd):=by
 rw[Nc.nd,Yc];unfold elemN;rw[List.filter_eq_self.2];intro k A;obtain ⟨y,C,rfl⟩:=Zrr.1 A;have:=h y C;rw[(YG y).1,this];rfl
theorem Zkf:(prog.info? 61).map (λi=>i.size)=some 5:=by kernel_rfl
theorem Zpk {a b c e:ByteArray} {t:Int}:(#[Value.string a,.string b,.string c,.string e,.int .i64 t]).all (λu=>u.oneCell')=true:=by simp[Value.oneCell']
theorem Zml (x:Fc) (w:World) (hE:Env w) (hr:RdC w x) (hk:fokS x.f) (gy:okF x.f=true) (hp:x.f.path= []) (hu:inT x.f.upd=true) (gA:∀e∈x.f.ents,inT e.upd=true) (gt:x.f.ents.length<=1000000):
 Calls prog 15 #[.agg (cellsC x).toArray] w λe w'=>∃y,e= .returned (.tuple #[.agg (cellsN y).toArray,.int .i64 0])/\NdOf w' y (encA x.f)/\Ext w w':=by
 obtain ⟨i0,gc,gi,gj,gk⟩:=ZrE Xn;have h6:=gd (λ(w':World) (h:Ext w w')=>(show Calls prog 37 #[.agg (cellsC x).toArray] w' λe w2=>e= .returned (.int .i64 0)/\Ext w' w2 from by
  have:=Zg2 x w' (hE.ext h) (hr.ext h) hk;rw[ZqN gy] at this;exact this))
 obtain ⟨xp,g7,⟨gV,gl,hb,hD,hn,C⟩⟩:=x;obtain ⟨gB,gg⟩:=hr;dsimp only at*;subst hp;obtain ⟨xA,xc,rfl, -, -⟩:=gB.form;obtain ⟨xB,xd,rfl, -, -⟩:=gg.form;clear hk gy;unfold cellsC fCells at h6|-;dsimp only[List.length_nil] at h6|-;obtain ⟨W0,h9⟩:∃W0,(w.alloc (.cells #[.slice xA 0 xc,.string gl,.string hb,.string hD,.int .i64 hn,.slice xB C.length xd] 32)).alloc (.cells #[.int .i64 0,.string ⟨#[]⟩,.string ⟨#[]⟩,.slice none 0 0,.slice none 0 0,.string ⟨#[]⟩,.int .i64 0] 25)=W0:=⟨_,rfl⟩;have h4:Ext w W0:=by rw[<-h9];exact ((Ext.refl w).alloc _).alloc _
 have gz:W0.heap[w.heap.size+1]? =some (.cells #[.int .i64 0,.string ⟨#[]⟩,.string ⟨#[]⟩,.slice none 0 0,.slice none 0 0,.string ⟨#[]⟩,.int .i64 0] 25 (0,0)):=by rw[<-h9];exact ZI w _ _
 have he:W0.heap[w.heap.size]? =some (.cells #[.slice xA 0 xc,.string gl,.string hb,.string hD,.int .i64 hn,.slice xB C.length xd] 32 (0,0)):=by rw[<-h9];exact ((Ext.refl _).alloc _).heap (ZqJ w _)
 have c0:=ZqI _ _ 0 _ _ _ he;have c1:=ZqI _ _ 1 _ _ _ he;have c2:=ZqI _ _ 2 _ _ _ he;have c3:=ZqI _ _ 3 _ _ _ he;have c4:=ZqI _ _ 4 _ _ _ he;have c5:=ZqI _ _ 5 _ _ _ he;have hL:=gd h4;have go:=gd gz;have gm:=gd he;have gI:=gd gg;have gK:=gd gA;have HU:=gd hu;have HE:=gd hE;have gn:=gd gt;clear h4 gz he gB gg hE hu gA gt;go_enter func15,ntmps15
 go_wp2_with (first|(go_at_call 37;have hz:=h6.out W0 hL.out;refine ZqD hz ?_;clear hz;rintro e w2 ⟨rfl,gh⟩;have ga:=gh.heap gm.out;have d0:=ZqI _ _ 0 _ _ _ ga;have d5:=ZqI _ _ 5 _ _ _ ga))
 have h1:=gd gh;clear c0 c1 c2 c3 c4 c5 d0 d5 ga gh;go_loopw [4,23] (λr u wr=>∃(j:Nat) (A:Option Addr) (c:Nat) (L:List Nc),j<=C.length/\r= .slice A L.length c/\u= .int .i64 j/\Hid (HNs wr w2.heap.size (.slice A L.length c) L)/\Hid (L.map Nc.nd=(C.take j).map entN)/\Hid (∀y∈L,y.kind=0/\∀k,k<w2.heap.size->awayN (some k) y)/\Hid (Ext w2 wr)) (λ_ u _=>C.length - (intOf u).toNat)
 case atStart=>exact ⟨0,none,0,[],ZqO _,rfl,rfl,gd (HNs.nil _ _),gd rfl,gd (by intro y D;cases D),gd (Ext.refl _)⟩
 case round=>
  obtain ⟨j,A,c,L,hj,rfl,rfl,hK,h0,hZ,hs⟩:=hrel;by_cases hU:j<C.length
  ·obtain ⟨ad,c',hv,gr⟩:=(REnts.ext gI.out (hL.out.trans (h1.out.trans hs.out))).at hU;injection hv with hv1 hv2 hv3;subst hv1;clear hv2 hv3;have g1:=gn.out;have gX:(0:Int)<=(j:Int):=om;have gZ:(j:Int)<(C.length:Int):=om;have ge:=ZqQ hU;have h3:=gK.out _ (Zq2 hU);obtain ⟨e,gs⟩:∃e,C[j]=e:=⟨_,rfl⟩;rw[gs] at gr ge h3;obtain ⟨gM,gO,gN,gL,hc⟩:=e;obtain ⟨H,rfl⟩:=KL gM;obtain ⟨J,rfl⟩:=KL gO;obtain ⟨I,rfl⟩:=KL gN;obtain ⟨ha,rfl⟩:=KL gL;obtain ⟨a0,a1,a2,a3,a4⟩:=gr;simp only at a0 a1 a2 a3 a4 h3;have gp:=gd ge;have hT:L.length<=1000000:=(by have q0:=ZqS List.length h0.out;rw[Zq9,Zq9,Zra] at q0;omega);have hq:=gd hT;clear hT;obtain ⟨W5,hd⟩:∃W5,wr.alloc (.cells #[.string (str H),.string (str J),.string (str I),.string (str ha),.int .i64 hc] 61)=W5:=⟨_,rfl⟩;have hh:Ext wr W5:=(by rw[<-hd];exact (Ext.refl wr).alloc _);have O:W5.heap[wr.heap.size]? =some (.cells #[.string (str H),.string (str J),.string (str I),.string (str ha),.int .i64 hc] 61 (0,0)):=(by rw[<-hd];exact ZqJ wr _);obtain ⟨W6,h2⟩:∃W6,W5.alloc (.cells #[.string (str H),.string (str J),.string (str I),.int .i64 hc,.string (str ha)] 71)=W6:=⟨_,rfl⟩;have gC:Ext W5 W6:=(by rw[<-h2];exact (Ext.refl W5).alloc _);have ht:W6.heap[W5.heap.size]? =some (.cells #[.string (str H),.string (str J),.string (str I),.int .i64 hc,.string (str ha)] 71 (0,0)):=(by rw[<-h2];exact ZqJ W5 _);have u0:=ZqI _ _ 0 _ _ _ O;have u1:=ZqI _ _ 1 _ _ _ O;have u2:=ZqI _ _ 2 _ _ _ O;have u3:=ZqI _ _ 3 _ _ _ O;have u4:=ZqI _ _ 4 _ _ _ O;have v0:=ZqI _ _ 0 _ _ _ ht;have v1:=ZqI _ _ 1 _ _ _ ht;have v2:=ZqI _ _ 2 _ _ _ ht;have v3:=ZqI _ _ 3 _ _ _ ht;have v4:=ZqI _ _ 4 _ _ _ ht;have R:=gd (hh.trans gC);have hJ:=gd ht;have gq:=λ(w':World) (hx:Ext wr w') (mA:Option Addr) (mc:Nat) (more:List Nc) (hm:RNs w' (.slice mA more.length mc) more) (gS:∀y∈more,RdN w' y/\y.kind=0) (hI:more.length<=1000000)=>IH H J I hc mA mc more w' (HE.out.ext ((hL.out.trans (h1.out.trans hs.out)).trans hx)) h3 hm gS hI;have hY:=gd gq;clear ge h3 gs hh O gC ht gq;by_cases hH:ha= []
   ·have q4:(str ha).toList.isEmpty=true:=(by rw[hH];exact Xh);have h7:=gd hH;clear hH;have gG:=gd (show Calls prog 40 #[.agg #[.string (str H),.string (str J),.string (str I),.int .i64 hc],.slice none 0 0] W6 _ from hY.out W6 R.out none 0 [] (RNs.nil _) (by intro y D;cases D) (by decide))
    go_wp2_with (first|(go_at_call 39;(refine ZqD (IG entryL _ l w7 hW S (by have q0:=ZqS List.length hg;rw[Zq9] at q0;rw[q0];unfold fieldsL;split<;>simp)) ?_);rintro e w8 ⟨ks,rfl,X,Q⟩;obtain ⟨Y,Z,rfl⟩:=Zp X;(have F:NdOf w8 (Nc.mk 0 [] entryL (.slice none 0 0) [] (.slice Y l.length Z) l [] 0) (entN ⟨str H,str J,str I,str ha,hc⟩):=⟨(by rw[RdN];exact ⟨RAts.nil _,RSl.of_own X,(ZD _).2 λy D=>RdN.ext Q _ (S y D).1⟩),rfl,(Ze4 λy D=>(S y D).2).trans (by rw[hg];unfold entN;rw[Zaa,Zj6];rw[ZqN h7.out];rfl)⟩);(have hw:∀k,k<wr.heap.size->awayN (some k) (Nc.mk 0 [] entryL (.slice none 0 0) [] (.slice Y l.length Z) l [] 0):=λk hk=>(by rw[awayN];exact ⟨Or.inl rfl,Or.inr (λe=>by have q0:=(X.lt k e).1;have q1:=V.size;omega),(Zx _).2 λy D=>((hR y D).elim (λh=>by cases h) (λh=>h k (Zrx hk R.out.size)))⟩));obtain ⟨y8,hC⟩:∃y8,(Nc.mk 0 [] entryL (.slice none 0 0) [] (.slice Y l.length Z) l [] 0)=y8:=⟨_,rfl⟩;(have hQ:cellsN y8= [.int .i64 0,.string ⟨#[]⟩,.string (str entryL),.slice none 0 0,.slice Y l.length Z,.string ⟨#[]⟩,.int .i64 0]:=by rw[<-hC];rfl);rw[hC] at F hw|-;(rw[hQ]);have hB:=hs.out.trans (V.trans (Q.trans ((Ext.refl w8).alloc (.cells #[.int .i64 0,.string ⟨#[]⟩,.string (str entryL),.slice none 0 0,.slice Y l.length Z,.string ⟨#[]⟩,.int .i64 0] 25))));(have ho:=gd (HNs.ext hK.out (V.trans (Q.trans ((Ext.refl w8).alloc (.cells #[.int .i64 0,.string ⟨#[]⟩,.string (str entryL),.slice none 0 0,.slice Y l.length Z,.string ⟨#[]⟩,.int .i64 0] 25))))));have hM:=gd hB;clear hB hC)|(go_at_call 40;(refine ZqD gG.out ?_);rintro e w7 ⟨EA,ec,l,rfl,hW,S,hg,hR,hi⟩;have V:Ext wr w7:=R.out.trans hi)|(refine ZqF rfl 61 (.tmp 6) (.tmp 26) rfl wr.heap.size _ rfl rfl _ _ (ZqJ _ _) Zkf rfl Zpk ?_;rw[Zh];rw[hd])|(refine ZqF rfl 71 (.tmp 7) (.tmp 38) rfl W5.heap.size _ rfl rfl _ _ (ZqJ _ _) Gd rfl Zj9 ?_;rw[Zh];rw[h2])|(at_builtin;refine Za _ rfl (.tmp 48) (.tmp 54) _ rfl w2.heap.size 25 i0 _ 7 112 underlying23 gc gi gj gk rfl (by decide) _ L.length (flatN L) rfl ho.out.row _ 1 (cellsN y8) rfl (by rw[hQ];exact Zj rfl (by decide)) (ZH (RdN.sl F.rd)) (by have q0:=hq.out;unfold maxLen;omega) (by have q0:=hq.out;omega) hM.out.size ?_;intro v9 w9 U hS hO;have gb:=HNs.snoc (x:=y8) ho.out (RdN.ext ((Ext.refl w8).alloc _) _ F.rd) (U1 hw F.rd (λk e=>(hK.out.row.lt k e).2)) U hS hO;obtain ⟨A9,c9,gf⟩:=Zp U;subst gf;have hX:=Ext.app hM.out hS ho.out.row (ZqE _)))
    have hf:(L++ [y8]).length=L.length+1:=(by rw[ZqG];rfl);go_roundw
    case rel=>
     refine ⟨j+1,A9,c9,L++ [y8],hU,by rw[hf],by go_num,gd (by rw[hf];exact gb),gd ?_,gd ?_,gd hX⟩
     ·rw[gp.out,Zrf,Zrf,h0.out,Zq8,Zrz,Zq8,Zrz,F.nd]
     ·intro y D;rcases Zq0.1 D with D|D
      ·exact hZ.out y D
      ·rw[ZqU.1 D];exact ⟨F.kind,λk hk=>hw k (Zrx hk hs.out.size)⟩
    case measure=>simp[intOf];omega
   ·have q4:=JX hH;have h7:=gd hH;clear hH
    go_wp2_with (first|(go_at_call 39;(refine ZqD (IG entryL _ l w7 hW S (by have q0:=ZqS List.length hg;rw[Zq9] at q0;rw[q0];unfold fieldsL;split<;>simp)) ?_);rintro e w8 ⟨ks,rfl,X,Q⟩;obtain ⟨Y,Z,rfl⟩:=Zp X;(have F:NdOf w8 (Nc.mk 0 [] entryL (.slice none 0 0) [] (.slice Y l.length Z) l [] 0) (entN ⟨str H,str J,str I,str ha,hc⟩):=⟨(by rw[RdN];exact ⟨RAts.nil _,RSl.of_own X,(ZD _).2 λy D=>RdN.ext Q _ (S y D).1⟩),rfl,(Ze4 λy D=>(S y D).2).trans (by rw[hg];unfold entN;rw[Zaa,Zj6];rw[ZqH h7.out,Zq8,Zrz,hV.nd])⟩);(have hw:∀k,k<wr.heap.size->awayN (some k) (Nc.mk 0 [] entryL (.slice none 0 0) [] (.slice Y l.length Z) l [] 0):=λk hk=>(by rw[awayN];exact ⟨Or.inl rfl,Or.inr (λe=>by have q0:=(X.lt k e).1;have q1:=V.size;omega),(Zx _).2 λy D=>((hR y D).elim (λh=>by rw[ZqU.1 h];exact gu k (Zrx hk R.out.size)) (λh=>h k (Zrx hk (R.out.trans hl).size)))⟩));obtain ⟨y8,hC⟩:∃y8,(Nc.mk 0 [] entryL (.slice none 0 0) [] (.slice Y l.length Z) l [] 0)=y8:=⟨_,rfl⟩;(have hQ:cellsN y8= [.int .i64 0,.string ⟨#[]⟩,.string (str entryL),.slice none 0 0,.slice Y l.length Z,.string ⟨#[]⟩,.int .i64 0]:=by rw[<-hC];rfl);rw[hC] at F hw|-;(rw[hQ]);have hB:=hs.out.trans (V.trans (Q.trans ((Ext.refl w8).alloc (.cells #[.int .i64 0,.string ⟨#[]⟩,.string (str entryL),.slice none 0 0,.slice Y l.length Z,.string ⟨#[]⟩,.int .i64 0] 25))));(have ho:=gd (HNs.ext hK.out (V.trans (Q.trans ((Ext.refl w8).alloc (.cells #[.int .i64 0,.string ⟨#[]⟩,.string (str entryL),.slice none 0 0,.slice Y l.length Z,.string ⟨#[]⟩,.int .i64 0] 25))))));have hM:=gd hB;clear hB hC)|(go_at_call 40;(refine ZqD (hY.out wb (R.out.trans hl) TA tc [y7] gR gQ (by show 1<=1000000;omega)) ?_);rintro e w7 ⟨EA,ec,l,rfl,hW,S,hg,hR,hi⟩;have V:Ext wr w7:=R.out.trans (hl.trans hi))|(go_at_call 38;(refine ZqD (Zbc contentL ha W6) ?_);rintro e wa ⟨y7,rfl,hV,gu,gD⟩;obtain ⟨P7,p7,r7,Q7,q7,s7,gE, -, -⟩:=ZR y7 (RdN.sl hV.rd);(rw[gE]))|(at_builtin;refine Za _ rfl (.tmp 42) (.tmp 46) _ rfl W6.heap.size 25 i0 _ 7 112 underlying23 gc gi gj gk rfl (by decide) _ 0 [] rfl (Zrt _ _ _ _) _ 1 (cellsN y7) rfl (by rw[gE];exact Zj rfl (by decide)) (ZH (RdN.sl hV.rd)) (by decide) (by decide) (gD.trans ((Ext.refl wa).alloc _)).size ?_;intro vb wb hA gP gW;(rw[Zrl] at hA);have h5:Ext wa wb:=Ext.app ((Ext.refl wa).alloc _) gP (Zrt _ wa.heap.size 25 7) (ZqE _);have hl:=gD.trans h5;obtain ⟨TA,tc,gU⟩:=Zp hA;subst gU;(have gR:RNs wb (.slice TA [y7].length tc) [y7]:=by unfold RNs;rw[Yq];exact RSl.of_own hA);(have gQ:∀y∈ [y7],RdN wb y/\y.kind=0:=λy D=>by rw[ZqU.1 D];exact ⟨RdN.ext h5 _ hV.rd,hV.kind⟩);have g2:=ZqI _ _ 0 _ _ _ (hl.heap hJ.out);have g3:=ZqI _ _ 1 _ _ _ (hl.heap hJ.out);have g4:=ZqI _ _ 2 _ _ _ (hl.heap hJ.out);have g5:=ZqI _ _ 3 _ _ _ (hl.heap hJ.out);have g6:=ZqI _ _ 4 _ _ _ (hl.heap hJ.out))|(refine ZqF rfl 61 (.tmp 6) (.tmp 26) rfl wr.heap.size _ rfl rfl _ _ (ZqJ _ _) Zkf rfl Zpk ?_;rw[Zh];rw[hd])|(refine ZqF rfl 71 (.tmp 7) (.tmp 38) rfl W5.heap.size _ rfl rfl _ _ (ZqJ _ _) Gd rfl Zj9 ?_;rw[Zh];rw[h2])|(at_builtin;refine Za _ rfl (.tmp 48) (.tmp 54) _ rfl w2.heap.size 25 i0 _ 7 112 underlying23 gc gi gj gk rfl (by decide) _ L.length (flatN L) rfl ho.out.row _ 1 (cellsN y8) rfl (by rw[hQ];exact Zj rfl (by decide)) (ZH (RdN.sl F.rd)) (by have q0:=hq.out;unfold maxLen;omega) (by have q0:=hq.out;omega) hM.out.size ?_;intro v9 w9 U hS hO;have gb:=HNs.snoc (x:=y8) ho.out (RdN.ext ((Ext.refl w8).alloc _) _ F.rd) (U1 hw F.rd (λk e=>(hK.out.row.lt k e).2)) U hS hO;obtain ⟨A9,c9,gf⟩:=Zp U;subst gf;have hX:=Ext.app hM.out hS ho.out.row (ZqE _)))
    have hf:(L++ [y8]).length=L.length+1:=(by rw[ZqG];rfl);go_roundw
    case rel=>
     refine ⟨j+1,A9,c9,L++ [y8],hU,by rw[hf],by go_num,gd (by rw[hf];exact gb),gd ?_,gd ?_,gd hX⟩
     ·rw[gp.out,Zrf,Zrf,h0.out,Zq8,Zrz,Zq8,Zrz,F.nd]
     ·intro y D;rcases Zq0.1 D with D|D
      ·exact hZ.out y D
      ·rw[ZqU.1 D];exact ⟨F.kind,λk hk=>hw k (Zrx hk hs.out.size)⟩
    case measure=>simp[intOf];omega
  ·have gw:j=C.length:=om;have hI:=h0.out;rw[gw,Zq4 (ZqE _)] at hI;have g0:¬(j:Int)<(C.length:Int):=om;have hT:L.length<=1000000:=(by have q0:=ZqS List.length hI;rw[Zq9,Zq9] at q0;have:=gn.out;omega);have hq:=gd hT;have gH:=gd hI;clear gw hI hT;obtain ⟨H,rfl⟩:=KL gl;obtain ⟨J,rfl⟩:=KL hb;obtain ⟨I,rfl⟩:=KL hD;have hG:=h1.out.trans hs.out;have hP:=hG.heap gm.out;have d1:=ZqI _ _ 1 _ _ _ hP;have d2:=ZqI _ _ 2 _ _ _ hP;have d3:=ZqI _ _ 3 _ _ _ hP;have d4:=ZqI _ _ 4 _ _ _ hP;obtain ⟨W5,hd⟩:∃W5,wr.alloc (.cells #[.string (str H),.string (str J),.string (str I),.int .i64 hn] 63)=W5:=⟨_,rfl⟩;have hh:Ext wr W5:=(by rw[<-hd];exact (Ext.refl wr).alloc _);have O:W5.heap[wr.heap.size]? =some (.cells #[.string (str H),.string (str J),.string (str I),.int .i64 hn] 63 (0,0)):=(by rw[<-hd];exact ZqJ wr _);have v0:=ZqI _ _ 0 _ _ _ O;have v1:=ZqI _ _ 1 _ _ _ O;have v2:=ZqI _ _ 2 _ _ _ O;have v3:=ZqI _ _ 3 _ _ _ O;have h8:=HNs.ext hK.out hh;have hY:=gd (IH H J I hn A c L W5 (HE.out.ext (hL.out.trans (hG.trans hh))) HU.out (HNs.reads h8) (λy D=>⟨(ZD _).1 h8.rd y D,(hZ.out y D).1⟩) hq.out);have gY:=gd hh;have hN:=gd (hG.trans hh);have gJ:=gd ((Zrg.1 go.out).1);clear hG hP hh O h8
   go_wp2_with (first|(go_at_call 41;(refine ZqD (Zh1 0 [] feedL (.slice none 0 0) (.slice Y l.length Z) [] l.length Z Y [] 0 _ [(xmlnsL,atomL)] (w8.alloc (.cells #[.string (str xmlnsL),.string (str atomL)] 9)) (RAts.nil _) rfl (Zj (n:=2) (cs:= [.string (str xmlnsL),.string (str atomL)]) rfl (by decide)) (by show 0+1<=1000000;omega)) ?_);rintro e w9 ⟨al,rfl,gx,hB⟩;obtain ⟨LA,lc,rfl⟩:=Zp gx;have hF:=((Ext.refl w8).alloc (.cells #[.string (str xmlnsL),.string (str atomL)] 9)).trans hB;have gF:=(hN.out.trans (hi.trans (Q.trans hF))).heap go.out)|(go_at_call 39;(refine ZqD (IG feedL _ l w7 hW S (by have q0:=ZqS List.length hg;rw[Zq9] at q0;rw[q0];have:=hq.out;unfold fieldsL;split<;>simp<;>omega)) ?_);rintro e w8 ⟨ks,rfl,X,Q⟩;obtain ⟨Y,Z,rfl⟩:=Zp X;(rw[show cellsN (Nc.mk 0 [] feedL (.slice none 0 0) [] (.slice Y l.length Z) l [] 0)= [.int .i64 0,.string (str []),.string (str feedL),.slice none 0 0,.slice Y l.length Z,.string (str []),.int .i64 0] from rfl]))|(go_at_call 40;(refine ZqD hY.out ?_);rintro e w7 ⟨EA,ec,l,rfl,hW,S,hg,hR,hi⟩)|(refine ZqF rfl 63 (.tmp 9) (.tmp 65) rfl wr.heap.size _ rfl rfl _ _ (ZqJ _ _) ZhF rfl ZnM ?_;rw[Zh];rw[hd])|(refine ZqF rfl 25 (.tmp 2) (.tmp 71) rfl (w.heap.size+1) _ rfl rfl _ _ gF Ze rfl Zz ?_))
   ((try simp only[Exit.inBlock,Exit.then]);refine ZqT (Zl rfl _ _ _ _ _ _ _ rfl (ZqV _ _ _ _ _ _ gF) underlying25 rfl Ze) rfl ?_);have gT:(Nc.mk 0 [] feedL (.slice none 0 0) [] (.slice Y l.length Z) l [] 0).nd=elemN feedL (l.map Nc.nd):=Ze4 λy D=>(S y D).2;have s0:=gJ.out;have s2:=h1.out.size;have s7:=(hN.out.trans hi).size;have s8:=(hN.out.trans (hi.trans Q)).size;have s5:=hN.out.size;refine ⟨.mk 0 [] feedL (.slice LA (0+1) lc) [pairA (xmlnsL,atomL)] (.slice Y l.length Z) l [] 0,rfl,⟨?_,rfl,?_⟩,(hL.out.trans (hN.out.trans (hi.trans (Q.trans hF)))).setRow (ZrF _) _⟩
   ·rw[RdN];refine ⟨RSl.of_own (Yh gx (by rw[Zd];omega) _),RSl.of_own (Yh (Zt X hF) om _),(ZD _).2 λy D=>RdN.grown (ZG _ _ _) y (RdN.ext (Q.trans hF) _ (S y D).1) ?_⟩;exact (hR y D).elim (λh=>(hZ.out y h).2 _ om) (λh=>h _ om)
   ·unfold encA;dsimp only;rw[Zaa,<-gH.out,<-hg,<-gT,Nc.nd,Nc.nd];rfl
end
theorem Zoc (v:Bool) {c:UInt8} (h:c=38):wescB v c= [38,97,109,112,59]:=by subst h;rfl
theorem Zod (v:Bool) {c:UInt8} (h:c=60):wescB v c= [38,108,116,59]:=by subst h;rfl
theorem Zoe (v:Bool) {c:UInt8} (h:c=62):wescB v c= [38,103,116,59]:=by subst h;rfl
theorem Zoa (v:Bool) {c:UInt8} (h:c=13):wescB v c= [38,35,49,51,59]:=by subst h;rfl
theorem Zob {c:UInt8} (h:c=34):wescB true c= [38,113,117,111,116,59]:=by subst h;rfl
theorem Zpd {c:UInt8} (h:c=9):wescB true c= [38,35,57,59]:=by subst h;rfl
theorem Zn9 {c:UInt8} (h:c=10):wescB true c= [38,35,49,48,59]:=by subst h;rfl
theorem Zpe {c:UInt8} (h:c≠38) (A:c≠60) (C:c≠62) (D:c≠13):wescB false c= []:=by unfold wescB;rw[ZqH h,ZqH A,ZqH C,ZqH D];rfl
theorem Zpf {c:UInt8} (h:c≠38) (A:c≠60) (C:c≠62) (D:c≠13) (F:c≠34) (H:c≠9) (I:c≠10):wescB true c= []:=by
 unfold wescB;rw[ZqH h,ZqH A,ZqH C,ZqH D,ZqH (by decide),ZqH F,ZqH H,ZqH I]
theorem Vk {c d:UInt8} (h:c=d):((c.toNat:Int)==(d.toNat:Int))=true:=by rw[h];simp
theorem XL {c d:UInt8} (h:c≠d):((c.toNat:Int)==(d.toNat:Int))=false:=by
 rw[ZqW];intro e;exact h (ZrY.1 om)
theorem ZnW (v:Bool) (Y:Int) (hk:(Y==0)= !v) (c:UInt8) (w:Wq):
 Calls prog 137 #[nI Y,.int .u8 (c.toNat:Nat)] w λe w'=>e= .returned (.string (str (wescB v c)))/\w'=w:=by
 obtain ⟨L,I⟩:∃L,wescB v c=L:=⟨_,rfl⟩;rw[I];by_cases A:c=38;have U:((c.toNat:Int)==38)=true:=Vk A;have J:L= [38,97,109,112,59]:=I.symm.trans (Zoc v A)
 rotate_left
 have U:((c.toNat:Int)==38)=false:=XL A;by_cases C:c=60;have V:((c.toNat:Int)==60)=true:=Vk C;have J:L= [38,108,116,59]:=I.symm.trans (Zod v C)
 rotate_left
 have V:((c.toNat:Int)==60)=false:=XL C;by_cases D:c=62;have X:((c.toNat:Int)==62)=true:=Vk D;have J:L= [38,103,116,59]:=I.symm.trans (Zoe v D)
 rotate_left
 have X:((c.toNat:Int)==62)=false:=XL D;by_cases h:c=13;have R:((c.toNat:Int)==13)=true:=Vk h;have J:L= [38,35,49,51,59]:=I.symm.trans (Zoa v h)
 rotate_left
 have R:((c.toNat:Int)==13)=false:=XL h;cases v;have J:L= []:=I.symm.trans (Zpe A C D h)
 rotate_left
 by_cases H:c=34;have S:((c.toNat:Int)==34)=true:=Vk H;have J:L= [38,113,117,111,116,59]:=I.symm.trans (Zob H)
 rotate_left
 have S:((c.toNat:Int)==34)=false:=XL H;by_cases O:c=9;have Z:((c.toNat:Int)==9)=true:=Vk O;have J:L= [38,35,57,59]:=I.symm.trans (Zpd O)
 rotate_left
 have Z:((c.toNat:Int)==9)=false:=XL O;by_cases F:c=10;have Q:((c.toNat:Int)==10)=true:=Vk F;have J:L= [38,35,49,48,59]:=I.symm.trans (Zn9 F)
 rotate_left
 have Q:((c.toNat:Int)==10)=false:=XL F;have J:L= []:=I.symm.trans (Zpf A C D h H O F)
 all_goals
  subst J
  clear I
  (try clear A)
  (try clear C)
  (try clear D)
  (try clear h)
  (try clear H)
  (try clear O)
  (try clear F)
  go_enter func137,ntmps137
  go_wp2
  go_ret
  exact ⟨rfl,rfl⟩
theorem ZeO (v:Bool) (c:UInt8):(wescB v c).length<=6:=by
 unfold wescB
 repeat' split
 all_goals decide
theorem Zaw (v:Bool):∀l:List UInt8,(wescL v l).length<=6*l.length
 | []=>ZqE _
 |c::t=>by
  have h:=Zaw v t
  have A:=ZeO v c
  rw[wescL,ZqG,ZqK]
  unfold wescC
  split
  ·simp only[ZqK,Zq5];omega
  ·omega
theorem Zde (v:Bool):∀a b:List UInt8,wescL v (a++b)=wescL v a++wescL v b
 | [],b=>rfl
 |c::t,b=>by
  show wescC v c++wescL v (t++b)=(wescC v c++wescL v t)++wescL v b
  rw[Zde v t b,ZqY]
theorem ZjK (v:Bool) (s:ByteArray) (k:Nat) (h:k<s.size):wescL v (s.data.toList.take (k+1))=wescL v (s.data.toList.take k)++wescC v s[k]:=by
 rw[ZqQ (by rw[Zb];exact h),Zde]
 congr 1
 show wescC v _++ []=_;rw[Zrb];rfl
theorem Zgi (v:Bool) (kv:Int) (hg:(kv==0)= !v) (s:ByteArray) (w:Wq) (hs:s.size<=16777216):
 Calls prog 136 #[nI kv,.func (.func 137) #[] #[],.string s] w λe w'=>e= .returned (.string (str (wescL v s.data.toList)))/\Ext w w':=by
 obtain ⟨Q,hQ⟩:∃Q,wescL v s.data.toList=Q:=⟨_,rfl⟩;rw[hQ];have HQ:=gd hQ;have hj:=gd hg;clear hQ hg;go_enter func136,ntmps136;go_wp2;go_loopw [8,9,10,13] (λfr _ _ i wr=>∃k f:Nat,k<=s.size/\f<=k/\i=nI k/\fr=nI f/\Lib.IsBuilder 147 5 w.heap.size w.heap.size (Lib.byteCells (wescL v (s.data.toList.take f))) wr/\
  Hid (wescL v (s.data.toList.take k)=wescL v (s.data.toList.take f)++(s.data.toList.drop f).take (k - f))/\Ext w wr/\w.heap.size<=wr.heap.size) (λ_ _ _ i _=>s.size - (intOf i).toNat)
 case atStart=>exact ⟨0,0,ZqO _,ZqO _,rfl,rfl,Lib.fresh_isBuilder _ _ _,(by show _=_;simp),(Ext.refl w).alloc _,(by rw[Zd];omega)⟩
 case round=>
  obtain ⟨k,f,hk,hf,rfl,rfl,hB,hq,Z,D⟩:=hrel;have ht:(wescL v (s.data.toList.take f)).length<=6*s.size:=by have h1:=Zaw v (s.data.toList.take f);have h2:(s.data.toList.take f).length<=s.size:=(by rw[Zra,Zb];omega);omega
  by_cases hh:k<s.size
  ·have J:=ZnW v kv hj.out s[k] wr;have A:=ZjK v s k hh;have F:=ZhC s f k hf hh;unfold wescC at A;have C:=ZeO v s[k];obtain ⟨E,Y⟩:∃E,wescB v s[k]=E:=⟨_,rfl⟩;rw[Y] at J A C;have hb:=gd J;by_cases X:E= []
   ·subst X;rw[ZqN rfl] at A;have V:Hid (wescL v (s.data.toList.take (k+1))=wescL v (s.data.toList.take f)++(s.data.toList.drop f).take (k+1 - f)):=(by show _=_;rw[A,hq.out,F,ZqY]);have ho:(str ([]:List UInt8)).toList.isEmpty=true:=Jh [];clear J A F Y hq C
    go_wp2_with (first|(go_at_call 137;refine ZqD hb.out ?_;rintro e w' ⟨rfl,rfl⟩))
    go_roundw
    case rel=>exact ⟨k+1,f,om,om,by go_num,rfl,hB,V,Z,D⟩
    case measure=>simp[intOf];omega
   ·rw[ZqH X] at A;have V:Hid (Lib.byteCells (wescL v (s.data.toList.take (k+1)))=Lib.byteCells (wescL v (s.data.toList.take f))++Lib.byteCells (s.extract f k).data.toList++Lib.byteCells (str E).data.toList):=(by show _=_;rw[A,hq.out,Jt s f k hf,Zg,Zf,Zf]);have ho:(str E).toList.isEmpty=false:=(by rw[Jh];cases E<;>simp_all);have S:(s.extract f k).size<=16777216:=(by rw[ByteArray.size_extract];omega);have U:(str E).size<=6:=(by rw[Zo];exact C);have hc:=gd S;have hm:=gd U;clear J A F Y hq X S U C
    go_wp2_with (first|(go_at_call 137;refine ZqD hb.out ?_;rintro e w' ⟨rfl,rfl⟩))
    refine (ZZ _ _ _ _ _ hB (by rw[Zw];have:=hc.out;omega) D).mono ?_;rintro e w4 ⟨rfl,I,H⟩
    go_wp2_with fail
    have hp:(Lib.byteCells (wescL v (s.data.toList.take f))++Lib.byteCells (s.extract f k).data.toList).length<=6*s.size+16777216:=(by rw[ZqG,Zw,Zw];have h1:(s.extract f k).data.toList.length=(s.extract f k).size:=rfl;have h2:=hc.out;omega);have hl:=gd hp;have hu:=H.size;refine (ZZ _ _ _ _ _ I (by have:=hl.out;have:=hm.out;omega) om).mono ?_;rintro e w5 ⟨rfl,hd,O⟩;rw[<-V.out] at hd;go_wp2;have ha:Ext w w5:=(Z.then (ZrV H (ZqE _))).then (ZrV O (ZqE _));have hr:=O.size;go_roundw
    case rel=>exact ⟨k+1,k+1,om,om,by go_num,by go_num,hd,by show _=_;simp,ha,om⟩
    case measure=>simp[intOf];omega
  ·have he:k=s.size:=om;have hi:(s.extract f s.size).size<=16777216:=(by rw[ByteArray.size_extract];omega);have R:Lib.byteCells (wescL v (s.data.toList.take f))++Lib.byteCells (s.extract f s.size).data.toList=Lib.byteCells Q:=by
    rw[<-Zf,Qi]
    congr 1
    have h:=hq.out;have e1:s.data.toList.take s.size=s.data.toList:=Zq4 (by rw[Zb];exact ZqE _);have e2:(s.data.toList.drop f).take (s.size - f)=s.data.toList.drop f:=Zq4 (by rw[ZqP,Zb];exact ZqE _);rw[he,e1,e2,HQ.out] at h;exact h.symm
   have HF:=gd R;have hn:=gd hi;clear R hq he hi
   go_wp2_with fail
   refine (ZZ _ _ _ (s.extract f s.size) _ hB (by rw[Zw];have:=hn.out;omega) D).mono ?_;rintro e w4 ⟨rfl,I,H⟩;rw[HF.out] at I;have hr:=H.size;have O:Ext w w4:=Z.then (ZrV H (ZqE _))
   go_wp2_with (go_at_call 96;refine (Ys _ _ _ _ I om).mono ?_;rintro e w5 ⟨rfl,ha⟩)
   go_ret;exact ⟨rfl,O.then (ZrV ha (ZqE _))⟩
theorem Zh6 (s:ByteArray) (w:Wq) (h:s.size<=16777216):
 Calls prog 93 #[.string s] w λe w'=>e= .returned (.string (str (wescL false s.data.toList)))/\Ext w w':=by
 have H:=gd (Zgi false 0 rfl s w h);go_enter func93,ntmps93
 go_wp2_with (go_at_call 136;refine ZqD H.out ?_;rintro e w' ⟨rfl,A⟩)
 go_ret;exact ⟨rfl,A⟩
theorem Zh5 (s:ByteArray) (w:Wq) (h:s.size<=16777216):
 Calls prog 94 #[.string s] w λe w'=>e= .returned (.string (str (wescL true s.data.toList)))/\Ext w w':=by
 have H:=gd (Zgi true 1 rfl s w h);go_enter func94,ntmps94
 go_wp2_with (go_at_call 136;refine ZqD H.out ?_;rintro e w' ⟨rfl,A⟩)
 go_ret;exact ⟨rfl,A⟩
theorem ZdR (s:ByteArray) (w:Wq) (J:Env w) (Q:s.size<=16777216):
 Calls prog 169 #[.string s] w λe w'=>e= .returned (.bool (charsOk s.data.toList))/\Ext w w':=by
 have A:=UQ s w J (by unfold maxLen;omega);have F:charsOk s.data.toList=decide ((checkS s).2=0):=rfl;obtain ⟨a,D⟩:∃a,(checkS s).1=a:=⟨_,rfl⟩;obtain ⟨b,C⟩:∃b,(checkS s).2=b:=⟨_,rfl⟩;rw[F];rw[D,C] at A;rw[C];have H:=gd A;clear A F D C;have I:((b:Int)==0)=decide (b=0):=by
  by_cases h:b=0
  ·rw[h];rfl
  ·rw[Zre h,ZqW];omega
 rw[<-I];clear I;go_enter func169,ntmps169
 go_wp2_with (go_at_call 114;refine ZqD H.out ?_;rintro e w' ⟨rfl,O⟩)
 go_ret;exact ⟨rfl,O⟩
def startL:List (Nat×Nat):= [(65,90),(95,95),(97,122),(192,214),(216,246),(248,767),(880,893),(895,8191),(8204,8205),(8304,8591),(11264,12271),(12289,55295),(63744,64975),(65008,65533),(65536,983039)]
def moreL:List (Nat×Nat):= [(45,46),(48,57),(183,183),(768,879),(8255,8256)]
def pairCells (l:List (Nat×Nat)):Array Value:=(l.flatMap λp=> [Value.int .i32 (p.1:Nat),Value.int .i32 (p.2:Nat)]).toArray
def inL (l:List (Nat×Nat)) (r:Nat):Bool:=l.any λp=>decide (p.1<=r) && decide (r<=p.2)
theorem Zj2 {l:List (Nat×Nat)} {r j:Nat} (C:j<l.length) (h:l[j].1<=r) (A:r<=l[j].2):inL (l.drop j) r=true:=by
 unfold inL;rw[ZqR C,List.any_cons,Zrj h,Zrj A];rfl
theorem Zgv {l:List (Nat×Nat)} {r j:Nat} (A:j<l.length) (h:¬(l[j].1<=r/\r<=l[j].2)):inL (l.drop j) r=inL (l.drop (j+1)) r:=by
 unfold inL;rw[ZqR A,List.any_cons];have:(decide (l[j].1<=r) && decide (r<=l[j].2))=false:=by rw[Bool.and_eq_false_iff,Zr0,Zr0];omega
 rw[this,Bool.false_or]
theorem Zk7 (r:Nat):inL startL r=nmStart r:=by
 unfold inL startL nmStart;simp only[List.any_cons,List.any_nil,Bool.or_false];rw[ZrG];simp only[ZsI,ZqZ,Zrd];omega
theorem Zm6 (r:Nat):(inL moreL r||nmStart r)=nmChar r:=by
 unfold nmChar;rw[Bool.or_comm]
 congr 1
 unfold inL moreL;simp only[List.any_cons,List.any_nil,Bool.or_false];rw[ZrG];simp only[ZsI,ZqZ,Zrd];omega
structure NmTabs (w:Wq):Prop where
 start:∃t fr,w.heap[3]? =some (.cells (pairCells startL) t fr)
 more:∃t fr,w.heap[2]? =some (.cells (pairCells moreL) t fr)
theorem NmTabs.ext {w w':Wq} (h:NmTabs w) (C:Ext w w'):NmTabs w':=by
 obtain ⟨⟨t,fr,D⟩,⟨t2,A,F⟩⟩:=h;exact ⟨⟨t,fr,C.heap D⟩,⟨t2,A,C.heap F⟩⟩
theorem JC:(prog.info? 299).map (·.size)=some 2:=by kernel_rfl
theorem ZhO:∀(j:Nat) (h:j<startL.length) (w:Wq),(Instr.index 301 (.agg (pairCells startL)) (nI (j:Nat))).run prog w= .ok (.agg #[.int .i32 (startL[j].1:Nat),.int .i32 (startL[j].2:Nat)]) w
 |0,_,w=>by kernel_rfl
 |1,_,w=>by kernel_rfl
 |2,_,w=>by kernel_rfl
 |3,_,w=>by kernel_rfl
 |4,_,w=>by kernel_rfl
 |5,_,w=>by kernel_rfl
 |6,_,w=>by kernel_rfl
 |7,_,w=>by kernel_rfl
 |8,_,w=>by kernel_rfl
 |9,_,w=>by kernel_rfl
 |10,_,w=>by kernel_rfl
 |11,_,w=>by kernel_rfl
 |12,_,w=>by kernel_rfl
 |13,_,w=>by kernel_rfl
 |14,_,w=>by kernel_rfl
 |j+15,h,w=>absurd h (by show ¬j+15<15;omega)
theorem Zjb:∀(j:Nat) (h:j<moreL.length) (w:Wq),(Instr.index 300 (.agg (pairCells moreL)) (nI (j:Nat))).run prog w= .ok (.agg #[.int .i32 (moreL[j].1:Nat),.int .i32 (moreL[j].2:Nat)]) w
 |0,_,w=>by kernel_rfl
 |1,_,w=>by kernel_rfl
 |2,_,w=>by kernel_rfl
 |3,_,w=>by kernel_rfl
 |4,_,w=>by kernel_rfl
 |j+5,h,w=>absurd h (by show ¬j+5<5;omega)
theorem GL (r:Nat) (w:Wq) (hN:NmTabs w) (hr:r<=1114111):
 Calls prog 215 #[.int .i32 (r:Nat)] w λe w'=>e= .returned (.bool (nmStart r))/\Ext w w':=by
 obtain ⟨t,fr,hg⟩:=hN.start;have I:startL.length=15:=rfl;have O:=gd ZhO;have C:(prog.info? 301).map (·.size)=some (pairCells startL).size:=by kernel_rfl
 rw[<-Zk7];obtain ⟨L,hL⟩:∃L,startL=L:=⟨_,rfl⟩;rw[hL] at hg I O C|-;obtain ⟨CS,X⟩:∃CS,pairCells L=CS:=⟨_,rfl⟩;rw[X] at hg O C;obtain ⟨R,h⟩:∃R,inL L r=R:=⟨_,rfl⟩;rw[h];have HR:Hid (inL (L.drop 0) r=R):=h;have V:=gd I;clear hL X h I;go_enter func215,ntmps215
 go_wp2_with (refine wpList_load_row rfl 301 _ rfl 3 rfl t _ fr _ hg underlying301 rfl C ?_)
 go_loopw [6] (λv wr=>∃j:Nat,j<=15/\v=nI j/\Hid (inL (L.drop j) r=R)/\Ext w wr) (λv _=>15 - (intOf v).toNat)
 case atStart=>exact ⟨0,ZqO _,rfl,HR,Ext.refl _⟩
 case round=>
  obtain ⟨j,hj,rfl,A,hx⟩:=hrel;by_cases S:j<15
  ·have Q:j<L.length:=(by rw[V.out];exact S);have hd:=O.out j Q;have hf:(j:Int)<15:=om;have HH:=gd (Zj2 (r:=r) Q);have HM:=gd (Zgv (r:=r) Q);obtain ⟨D,Z⟩:∃D,L[j].1=D:=⟨_,rfl⟩;obtain ⟨F,Y⟩:∃F,L[j].2=F:=⟨_,rfl⟩;rw[Z,Y] at hd HH HM;clear Z Y;obtain ⟨U,H⟩:∃U,wr.alloc (.cells #[.int .i32 (D:Nat),.int .i32 (F:Nat)] 299)=U:=⟨_,rfl⟩;have hb:U.heap[wr.heap.size]? =some (.cells #[.int .i32 (D:Nat),.int .i32 (F:Nat)] 299):=(by rw[<-H];exact ZqJ wr _);have ha:Ext wr U:=(by rw[<-H];exact (Ext.refl wr).alloc _);have c0:U.cell? ⟨wr.heap.size,0,none⟩=some (.int .i32 (D:Nat)):=(by rw[ZqI _ _ _ _ _ _ hb];rfl);have c1:U.cell? ⟨wr.heap.size,1,none⟩=some (.int .i32 (F:Nat)):=(by rw[ZqI _ _ _ _ _ _ hb];rfl);have HX:=gd (hx.trans ha);have J:(#[Value.int .i32 (D:Nat),.int .i32 (F:Nat)]).all (λu=>u.oneCell')=true:=(by simp[Value.oneCell']);clear hb hx ha;by_cases h1:D<=r
   ·by_cases h2:r<=F
    ·have h:=A.out;rw[HH.out h1 h2] at h;subst h;have q1:(D:Int)<=(r:Int):=om;have q2:(r:Int)<=(F:Int):=om;clear h1 h2 A HR
     go_wp2_with (refine ZqF rfl 299 (.tmp 4) (.tmp 8) rfl wr.heap.size #[.int .i32 (D:Nat),.int .i32 (F:Nat)] rfl rfl _ _ (ZqJ _ _) JC rfl J ?_;rw[Zh];rw[H])
     go_ret;exact ⟨rfl,HX.out⟩
    ·have h:=A.out;rw[HM.out om] at h;have HN:=gd h;have q1:(D:Int)<=(r:Int):=om;have q2:¬(r:Int)<=(F:Int):=om;clear h1 h2 A h
     go_wp2_with (refine ZqF rfl 299 (.tmp 4) (.tmp 8) rfl wr.heap.size #[.int .i32 (D:Nat),.int .i32 (F:Nat)] rfl rfl _ _ (ZqJ _ _) JC rfl J ?_;rw[Zh];rw[H])
     go_roundw
     case rel=>exact ⟨j+1,S,by go_num,HN,HX.out⟩
     case measure=>simp[intOf];omega
   ·have h:=A.out;rw[HM.out om] at h;have HN:=gd h;have q1:¬(D:Int)<=(r:Int):=om;clear h1 A h
    go_wp2_with (refine ZqF rfl 299 (.tmp 4) (.tmp 8) rfl wr.heap.size #[.int .i32 (D:Nat),.int .i32 (F:Nat)] rfl rfl _ _ (ZqJ _ _) JC rfl J ?_;rw[Zh];rw[H])
    go_roundw
    case rel=>exact ⟨j+1,S,by go_num,HN,HX.out⟩
    case measure=>simp[intOf];omega
  ·have he:j=15:=om;have h:=A.out;rw[Zq3 (by rw[V.out];omega)] at h;have hc:false=R:=h;subst hc;subst he;clear A h HR;go_wp2;go_ret;exact ⟨rfl,hx⟩
theorem Zfi (r:Nat) (w:Wq) (hN:NmTabs w) (hr:r<=1114111):
 Calls prog 214 #[.int .i32 (r:Nat)] w λe w'=>e= .returned (.bool (nmChar r))/\Ext w w':=by
 obtain ⟨t,fr,hg⟩:=hN.more;have I:moreL.length=5:=rfl;have O:=gd Zjb;have C:(prog.info? 300).map (·.size)=some (pairCells moreL).size:=by kernel_rfl
 have Y:=gd (λw' (V:Ext w w')=>GL r w' (hN.ext V) hr);rw[<-Zm6];obtain ⟨L,hL⟩:∃L,moreL=L:=⟨_,rfl⟩;rw[hL] at hg I O C|-;obtain ⟨NS,he⟩:∃NS,nmStart r=NS:=⟨_,rfl⟩;rw[he] at Y|-;obtain ⟨CS,Z⟩:∃CS,pairCells L=CS:=⟨_,rfl⟩;rw[Z] at hg O C;obtain ⟨R,h⟩:∃R,inL L r=R:=⟨_,rfl⟩;rw[h];have HR:Hid (inL (L.drop 0) r=R):=h;have X:=gd I;clear hL Z h I;go_enter func214,ntmps214
 go_wp2_with (refine wpList_load_row rfl 300 _ rfl 2 rfl t _ fr _ hg underlying300 rfl C ?_)
 go_loopw [6] (λv wr=>∃j:Nat,j<=5/\v=nI j/\Hid (inL (L.drop j) r=R)/\Ext w wr) (λv _=>5 - (intOf v).toNat)
 case atStart=>exact ⟨0,ZqO _,rfl,HR,Ext.refl _⟩
 case round=>
  obtain ⟨j,hj,rfl,A,V⟩:=hrel;by_cases S:j<5
  ·have Q:j<L.length:=(by rw[X.out];exact S);have hh:=O.out j Q;have hm:(j:Int)<5:=om;have HH:=gd (Zj2 (r:=r) Q);have HM:=gd (Zgv (r:=r) Q);obtain ⟨D,hc⟩:∃D,L[j].1=D:=⟨_,rfl⟩;obtain ⟨F,ha⟩:∃F,L[j].2=F:=⟨_,rfl⟩;rw[hc,ha] at hh HH HM;clear hc ha;obtain ⟨U,H⟩:∃U,wr.alloc (.cells #[.int .i32 (D:Nat),.int .i32 (F:Nat)] 299)=U:=⟨_,rfl⟩;have hb:U.heap[wr.heap.size]? =some (.cells #[.int .i32 (D:Nat),.int .i32 (F:Nat)] 299):=(by rw[<-H];exact ZqJ wr _);have hd:Ext wr U:=(by rw[<-H];exact (Ext.refl wr).alloc _);have c0:U.cell? ⟨wr.heap.size,0,none⟩=some (.int .i32 (D:Nat)):=(by rw[ZqI _ _ _ _ _ _ hb];rfl);have c1:U.cell? ⟨wr.heap.size,1,none⟩=some (.int .i32 (F:Nat)):=(by rw[ZqI _ _ _ _ _ _ hb];rfl);have HX:=gd (V.trans hd);have J:(#[Value.int .i32 (D:Nat),.int .i32 (F:Nat)]).all (λu=>u.oneCell')=true:=(by simp[Value.oneCell']);clear hb V hd;by_cases h1:D<=r
   ·by_cases h2:r<=F
    ·have h:=A.out;rw[HH.out h1 h2] at h;subst h;have q1:(D:Int)<=(r:Int):=om;have q2:(r:Int)<=(F:Int):=om;clear h1 h2 A HR
     go_wp2_with (refine ZqF rfl 299 (.tmp 4) (.tmp 8) rfl wr.heap.size #[.int .i32 (D:Nat),.int .i32 (F:Nat)] rfl rfl _ _ (ZqJ _ _) JC rfl J ?_;rw[Zh];rw[H])
     go_ret;exact ⟨rfl,HX.out⟩
    ·have h:=A.out;rw[HM.out om] at h;have HN:=gd h;have q1:(D:Int)<=(r:Int):=om;have q2:¬(r:Int)<=(F:Int):=om;clear h1 h2 A h
     go_wp2_with (refine ZqF rfl 299 (.tmp 4) (.tmp 8) rfl wr.heap.size #[.int .i32 (D:Nat),.int .i32 (F:Nat)] rfl rfl _ _ (ZqJ _ _) JC rfl J ?_;rw[Zh];rw[H])
     go_roundw
     case rel=>exact ⟨j+1,S,by go_num,HN,HX.out⟩
     case measure=>simp[intOf];omega
   ·have h:=A.out;rw[HM.out om] at h;have HN:=gd h;have q1:¬(D:Int)<=(r:Int):=om;clear h1 A h
    go_wp2_with (refine ZqF rfl 299 (.tmp 4) (.tmp 8) rfl wr.heap.size #[.int .i32 (D:Nat),.int .i32 (F:Nat)] rfl rfl _ _ (ZqJ _ _) JC rfl J ?_;rw[Zh];rw[H])
    go_roundw
    case rel=>exact ⟨j+1,S,by go_num,HN,HX.out⟩
    case measure=>simp[intOf];omega
  ·have hk:j=5:=om;have h:=A.out;rw[Zq3 (by rw[X.out];omega)] at h;have hf:false=R:=h;subst hf;subst hk;clear A h HR
   go_wp2_with (first|(go_at_call 215;refine ZqD (Y.out _ V) ?_;rintro e w' ⟨rfl,hl⟩))
   go_ret;exact ⟨rfl,V.trans hl⟩
end Go.Proofs.YtmfinhgobjbecaaGreatDoor
