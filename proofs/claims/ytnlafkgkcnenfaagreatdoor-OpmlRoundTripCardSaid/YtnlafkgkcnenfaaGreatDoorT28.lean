/- Parts of the proof: contracts and plain laws. -/
import Derived.Test.YtnlafkgkcnenfaaGreatDoorT27
namespace Go.Proofs.YtnlafkgkcnenfaaGreatDoor
open Go Go.RowKit Tryz
set_option linter.unusedVariables false
set_option linter.unusedSimpArgs false
set_option linter.unusedSimpArgs false
set_option maxRecDepth 100000
set_option maxHeartbeats 16000000
section
variable {c n:Nat} {w:World}
theorem Zks {A:Option Addr} (h:ArcG w A n c [feedA]):n=1/\∃ad H K,A=some ad/\w.cell? ad=some (.slice (some H) 1 K)/\w.cell? ⟨ad.block,ad.off+1,none⟩=some (.string ⟨#[70]⟩)/\w.cell? ⟨ad.block,ad.off+2,none⟩=some (.string ⟨#[84]⟩)/\w.cell? H=some (.string ⟨#[97]⟩):=by
 obtain ⟨lc,U,Q,V,X⟩:=h;have Y:lc.length=1:=by have:=ZC List.length Q;rwa [Zm] at this
 obtain ⟨y,rfl⟩:∃y,lc= [y]:=by
  match lc,Y with
  | [y],_=>exact ⟨y,rfl⟩
 have S:y.f=feedA:=by simpa using Q
 obtain ⟨ad,Z,e,D⟩:=RFcs.at V (k:=0) (by show 0<1;decide);rw[Xa,add_zero] at D;have D:AtFc w ad y:=D;injection e with e1 e2 e3;have J:=X y ZF;have F:=J.1;rw[S] at F;obtain ⟨H,K,I,R⟩:=RStrs.at F (k:=0) (by show 0<1;decide);have b0:=D.c0;have b1:=D.c1;have b2:=D.c2;rw[I] at b0;rw[S] at b1 b2;rw[add_zero] at R;exact ⟨U,ad,H,K,e1,b0,b1,b2,R⟩
theorem ZeG (w:Wq) (hE:Env w) (hn:NmTabs w):Calls prog 11 #[] w λe w'=>e= .returned (.bool true)/\Ext w w':=by
 obtain ⟨mA,S,I⟩:=ZiF;obtain ⟨mM,V,J⟩:=ZiH;obtain ⟨-,fA, -,cA⟩:=Zgr S;obtain ⟨-,fM, -,cM⟩:=Zgr V;have hv:=gd (λ(s:ByteArray) (w':Wq) (h:s.data.toList=docA)=>ZdE (s:=s) (m:=mA) (by rw[h];exact S) w' (by rw[<-ZO s,h];unfold maxLen;decide));have hw:=gd (λ(s:ByteArray) (w':Wq) (h:s.data.toList=docM)=>ZdE (s:=s) (m:=mM) (by rw[h];exact V) w' (by rw[<-ZO s,h];unfold maxLen;decide));have U:decL mA= [feedA]:=by unfold decL;rw[I];exact ZcH.2
 have ho:decAt mA=0:=by unfold decAt;rw[I]
 have hj:decE mA=0:=by unfold decE;rw[I];exact ZcH.1
 have hm:decL mM= []:=by unfold decL;rw[J]
 have hp:decAt mM=26:=by unfold decAt;rw[J]
 have hk:decE mM=19:=by unfold decE;rw[J]
 have hf:=gd (λ(w':Wq) (hx:Ext w w') (k p c q d a:Nat) (s n t:List UInt8) (A B:Option Addr) (h:NodeG w' k s n (.slice A p c) (.slice B q d) t a mA)=>ZaS w' (hE.ext hx) h fA cA (λl hl=>Or.inl (ZiE (by rw[I] at hl;injection hl with hl;rw[<-hl];decide))));have hh:=gd (λ(w':Wq) (hx:Ext w w') (k p c q d a:Nat) (s n t:List UInt8) (A B:Option Addr) (h:NodeG w' k s n (.slice A p c) (.slice B q d) t a mM)=>ZaS w' (hE.ext hx) h fM cM (λl hl=>by rw[J] at hl;cases hl));have ha:=Zmb fA cA;rw[U,ho,hj] at hf;rw[hm,hp,hk] at hh;rw[U] at ha;have hi:=gd (λ(w':Wq) (hx:Ext w w') (A:Option Addr) (n c:Nat) (h:ArcG w' A n c [feedA])=>Zez w' (hE.ext hx) (hn.ext hx) h ha);simp only[Zi Zh6,ZkA] at hi;clear S I V J fA cA fM cM U ho hj hm hp hk ha hE hn;go_enter func11,ntmps11
 go_wp2_with (first|(go_at_call 10;refine Za (hv.out _ _ (by exact rfl)) ?_;rintro e w1 ⟨k,s,n,A,p,c,B,q,d,t,a,rfl,hg,hq⟩;(obtain ⟨W2,X⟩:∃W2,w1.alloc (.cells #[nI (k:Nat),.string (str s),.string (str n),.slice A p c,.slice B q d,.string (str t),nI (a:Nat)] 25)=W2:=⟨_,rfl⟩);(have hc:Ext w1 W2:=by rw[<-X];exact (Ext.refl w1).alloc _);(have hb:BxN W2 w1.heap.size k s n (.slice A p c) (.slice B q d) t a:=by rw[<-X];exact Zg w1 _);(have HG:=gd (hg.ext hc));(have HB:=gd hb);(have Q:=gd (hq.trans hc));clear hg hb hq hc)|(refine Zf rfl 25 (.tmp 1) (.tmp 15) rfl w1.heap.size _ rfl rfl _ _ (Zg _ _) ZJ rfl Zlj ?_;rw[Z0];rw[X])|(go_at_call 10;refine Za (hw.out _ _ (by exact rfl)) ?_;rintro e w3 ⟨k2,s2,n2,A2,p2,c2,B2,q2,d2,t2,a2,rfl,hg,hr⟩;(obtain ⟨W4,Y⟩:∃W4,w3.alloc (.cells #[nI (k2:Nat),.string (str s2),.string (str n2),.slice A2 p2 c2,.slice B2 q2 d2,.string (str t2),nI (a2:Nat)] 25)=W4:=⟨_,rfl⟩);(have hd:Ext w3 W4:=by rw[<-Y];exact (Ext.refl w3).alloc _);(have hb:BxN W4 w3.heap.size k2 s2 n2 (.slice A2 p2 c2) (.slice B2 q2 d2) t2 a2:=by rw[<-Y];exact Zg w3 _);(have hu:=gd (hg.ext hd));(have ht:=gd hb);(have F:=gd (hr.trans hd));(obtain ⟨z0,z1,z2,z3,z4,z5,z6⟩:=(HB.out.ext F.out).cells);clear hg hb hr hd)|(refine Zf rfl 25 (.tmp 3) (.tmp 19) rfl w3.heap.size _ rfl rfl _ _ (Zg _ _) ZJ rfl Zlj ?_;rw[Z0];rw[Y])|(go_at_call 12;(have R:=hf.out _ (Q.out.trans F.out) _ _ _ _ _ _ _ _ _ _ _ (HG.out.ext F.out));(with_reducible refine Za R ?_);clear R;rintro e w5 ⟨A5,n5,d5,rfl,Z,hC⟩;(obtain ⟨hB,ad,pa,pc,hA,g0,g1,g2,g3⟩:=Zks Z);subst hB;subst hA;(have K:=hC.alloc (.cells #[.slice (some ad) 1 d5] 31));(have hs:=gd Z);clear Z z0 z1 z2 z3 z4 z5 z6;(obtain ⟨y0,y1,y2,y3,y4,y5,y6⟩:=(ht.out.ext K).cells))|(refine Zf rfl 31 (.tmp 5) (.tmp 24) rfl w5.heap.size _ rfl rfl _ _ (Zg _ _) Xy rfl Zig ?_;rw[Z0])|(go_at_call 12;(have R:=hh.out _ ((Q.out.trans F.out).trans K) _ _ _ _ _ _ _ _ _ _ _ (hu.out.ext K));(with_reducible refine Za R ?_);clear R;rintro e w7 ⟨A7,n7,d7,rfl,hy,hD⟩;(have H:=hD.alloc (.cells #[.slice A7 n7 d7] 31));(have n0:=H.boxed 0 _ rfl);clear hy y0 y1 y2 y3 y4 y5 y6)|(refine Zf rfl 31 (.tmp 8) (.tmp 30) rfl w7.heap.size _ rfl rfl _ _ (Zg _ _) Xy rfl Zig ?_;rw[Z0])|(go_at_call 17;(have R:=hi.out _ (((Q.out.trans F.out).trans K).trans H) _ _ _ (hs.out.ext (((Ext.refl _).alloc _).trans H)));(with_reducible refine Za R ?_);clear R;rintro e w9 ⟨rfl,he⟩;(have m0:=(H.trans he).boxed 0 _ rfl);(have D:Ext w5 w9:=(((Ext.refl _).alloc _).trans H).trans he);(have m1:=D.cell g0);(have m2:=D.cell g1);(have m3:=D.cell g2);(have m4:=D.cell g3);clear n0 g0 g1 g2 g3))
 go_ret;refine ⟨?_,(((Q.out.trans F.out).trans K).trans H).trans he⟩;have hO:(str docO).toList=docO:=by rw[Z5,Yb]
 show Ending.returned (.bool ((str docO).toList==_))=_;rw[hO];rfl
end
end Go.Proofs.YtnlafkgkcnenfaaGreatDoor
