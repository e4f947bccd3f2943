/- Parts of the proof: contracts and plain laws. -/
import Derived.Test.YtnlafkgkcnenfaaGreatDoorT11
namespace Go.Proofs.YtnlafkgkcnenfaaGreatDoor
open Go Go.RowKit Tryz
set_option linter.unusedVariables false
set_option linter.unusedSimpArgs false
set_option linter.unusedSimpArgs false
set_option maxRecDepth 100000
set_option maxHeartbeats 16000000
section
variable {c j:Nat} {w:World}
theorem Zj3:prog.underlying 52=some (.slice (prog.elem 52)):=by kernel_rfl
theorem Zlx (w:Wq):(Go.sizeOf (prog.elem 52)).run prog w= .ok 1 w:=by kernel_rfl
theorem Znz {A:Option Addr} {l:List ByteArray} (n:Nat) (h:RStrs w (.slice A l.length c) l) (hn:n<=l.length):
 ∃J c2,(∀F:Wq,(Instr.slice 52 (.slice A l.length c) (some (nI (n:Int))) none none).run prog F= .ok (.slice J (l.length - n) c2) F)/\RStrs w (.slice J (l.length - n) c2) (l.drop n):=by
 obtain ⟨X,U,V,e,Y,K,Q,R⟩:=h;injection e with e1 e2 e3;subst e1 e3;clear e2;have D:(l.drop n).length=l.length - n:=Zj;refine ⟨if c=n then A else A.map (·.add (n*1)),c - n,λF=> ?_,?_⟩
 ·rw[run_slice_l (P:=prog) (w:=F) 52 A l.length c Zj3 .i64 (n:Int) (by omega) (by omega),Zlx];rfl
 ·unfold RStrs;rw[D];refine ⟨by rw[Zm,D,Nat.mul_one],_,_,rfl,by omega,Zt (Jg _ _) K,λe=> ?_,λj u I=> ?_⟩
  ·by_cases H:c=n
   ·omega
   ·rw[Ze H] at e;have:=Q (by cases A with|none=>rfl|some _=>cases e);omega
  ·rw[List.map_drop,List.getElem?_drop] at I;obtain ⟨ad,S,H⟩:=R (n+j) u I;subst S;have Z:n+j<l.length:=(by have:=(ZT.1 I).1;rwa [Zm] at this);refine ⟨ad.add n,by rw[Ze (by omega),Nat.mul_one];rfl,?_⟩;rw[UK];exact H
def pairS (ps:List (List UInt8×List UInt8)):List ByteArray:=(ps.map λp=> [str p.1,str p.2]).flatten
theorem Zdv (ps:List (List UInt8×List UInt8)):(pairS ps).length=2*ps.length:=by
 induction ps with
 |nil=>rfl
 |cons p t ih=>have e:pairS (p::t)=str p.1::str p.2::pairS t:=rfl;rw[e,Zd,Zd,Zd,ih];omega
theorem ZhE {ps:List (List UInt8×List UInt8)} (h:j<ps.length):pairS (ps.drop j)=str ps[j].1::str ps[j].2::pairS (ps.drop (j+1)):=by
 rw[Zk h];rfl
theorem Gm (l:List AtP):(flatA l).length=l.length*4:=by
 induction l with
 |nil=>rfl
 |cons x t ih=>
  have e:flatA (x::t)=cellsA x++flatA t:=by unfold flatA;simp
  rw[e,Zc,ih,Zd];show 4+_=_;omega
def slLen:Value->Nat
 | .slice _ n _=>n
 |_=>0
theorem ZkV (m:Nat):Int.tdiv ((2*m:Nat):Int) 2=(m:Int):=by
 rw[Int.tdiv_eq_ediv_of_nonneg (by omega)];omega
theorem Zgx (k:Nat) (s n:List UInt8) (al ks:Value) (l0:List AtP) (m2 d:Nat) (B0:Option Addr) (t:List UInt8) (a:Nat) (v:Value) (ps:List (List UInt8×List UInt8)) (w:Wq) (ha:RAts w al l0) (gk:ks= .slice B0 m2 d) (hv:RStrs w v (pairS ps)) (hn:l0.length+ps.length<=1000000):
 Calls prog 46 #[.agg #[nI (k:Nat),.string (str s),.string (str n),al,ks,.string (str t),nI (a:Nat)],v] w λe w'=>
  ∃al',e= .returned (.agg #[nI (k:Nat),.string (str s),.string (str n),al',ks,.string (str t),nI (a:Nat)])/\w'.ownsRow w.heap.size 88 4 al' (l0.length+ps.length) (flatA (l0++ps.map pairA))/\Ext w w':=by
 obtain ⟨i0,hP,hW,hX,hY⟩:=Yu Zd4;obtain ⟨A,c,gi, -, -⟩:=ha.form;subst gi;subst gk;obtain ⟨D,dc,gq, -, -⟩:=RStrs.form hv;have hR:=Zdv ps;subst gq;obtain ⟨q,hq⟩:∃q,(pairS ps).length=q:=⟨_,rfl⟩;have go:(prog.info? 88).map (λi=>i.size)=some 4:=by kernel_rfl
 obtain ⟨W1,he⟩:∃W1,(w.alloc (.cells #[nI (k:Nat),.string (str s),.string (str n),.slice A l0.length c,.slice B0 m2 d,.string (str t),nI (a:Nat)] 25)).alloc (.cells #[nI 0,eS,eS,sN,sN,eS,nI 0] 25)=W1:=⟨_,rfl⟩;have hU:Ext w W1:=by rw[<-he];exact ((Ext.refl w).alloc _).alloc _
 have hy:BxN W1 w.heap.size k s n (.slice A l0.length c) (.slice B0 m2 d) t a:=by rw[<-he];exact (JR _ _ (by rw[Zp];omega)).trans (Zg w _)
 have h2:W1.heap[w.heap.size+1]? =some (.cells #[nI 0,eS,eS,sN,sN,eS,nI 0] 25 (0,0)):=by rw[<-he];exact YI w _ _
 have hT:W1.heap.size=w.heap.size+2:=by rw[<-he,Zp,Zp]
 obtain ⟨b0,b1,b2,b3,b4,b5,b6⟩:=hy.cells;have ht:=gd hU;have hG:=gd hy;have gh:=gd h2;have hs:=gd hT;have HA:=gd ha;have HV:=gd hv;have HN:=gd hn;have hA:q=2*ps.length:=by rw[<-hq,hR]
 have HQ:=gd hq;have gx:=gd hA;rw[hq];have gs:Int.tdiv ((q:Nat):Int) 2=(ps.length:Int):=by rw[hA];exact ZkV _
 clear hU hy h2 hT ha hv hq hA hR;go_enter func46,ntmps46;have hQ:l0.length+ps.length<=1000000:=HN.out
 go_wp2_with (first|(refine Zaj W1 rfl (.tmp 8) (.tmp 15) 22 rfl 88 i0 _ 4 underlying22 hP hW hX .i64 .i64 _ _ l0.length (l0.length+ps.length) rfl rfl rfl (Int.natCast_add _ _).symm (Nat.le_add_right _ _) (by rw[hY];omega) (by unfold maxLen;omega) ?_;(obtain ⟨zc,hE⟩:∃zc,madeCells (Value.cells (.agg #[eS,eS,eS,nI 0])) ((l0.length+ps.length)*4)=zc:=⟨_,rfl⟩);rw[hE];(have hF:zc.size=(l0.length+ps.length)*4:=by rw[<-hE];exact size_madeCells _ _);(obtain ⟨W2,hf⟩:∃W2,W1.alloc (.cells zc 88)=W2:=⟨_,rfl⟩);rw[hf];(have hm:Ext W1 W2:=by rw[<-hf];exact (Ext.refl _).alloc _);(have hc:W2.heap[W1.heap.size]? =some (.cells zc 88 (0,0)):=by rw[<-hf];exact Zg W1 _);obtain ⟨d0,d1,d2,d3,d4,d5,d6⟩:=(hG.out.ext hm).cells;clear b0 b1 b2 b3 b4 b5 b6 hf hE)|(refine Ex rfl (.tmp 17) (.tmp 19) _ _ rfl 88 4 underlying22 go W1.heap.size l0.length (l0.length+ps.length) l0.length A l0.length c rfl rfl zc 88 hc (flatA l0) (Nat.min_self _).symm (Gm l0) (λj u hu=>RSl.at1' (HA.out.ext (ht.out.trans hm)) j u hu) (by rw[Gm,hF];omega) (Zg5 l0) ?_))
 have S:(W2.setRow W1.heap.size (flatA l0++zc.toList.drop (flatA l0).length).toArray).ownsRow W1.heap.size 88 4 (.slice (some ⟨W1.heap.size,0,none⟩) l0.length (l0.length+ps.length)) l0.length (flatA l0):=
  Zeh (Zz _ _ _ _ _ _ hc) (Zb _) (Gm l0) (Nat.le_add_right _ _) (by unfold maxLen;omega) (by have h1:zc.toList.length=zc.size:=rfl;rw[Zc,Zj,Gm,h1,hF];omega)
 have hd:Ext W1 (W2.setRow W1.heap.size (flatA l0++zc.toList.drop (flatA l0).length).toArray):=hm.setRow (Zb _) _;obtain ⟨W3,hL⟩:∃W3,W2.setRow W1.heap.size (flatA l0++zc.toList.drop (flatA l0).length).toArray=W3:=⟨_,rfl⟩;rw[hL] at S hd|-;clear hL hm hc hF d0 d1 d2 d3 d4 d5 d6 hQ;have h6:=gd S;have ge:=gd hd;clear S hd;go_wp2;go_simp;have gm:q=(pairS (ps.drop 0)).length:=HQ.out.symm;go_loopw [1,5] (λv u wr=>∃(j:Nat),j<=ps.length/\RStrs W1 v (pairS (ps.drop j))/\wr.ownsRow W1.heap.size 88 4 u (l0.length+j) (flatA (l0++(ps.take j).map pairA))/\Ext W1 wr) (λv _ _=>slLen v)
 case atStart=>exact ⟨0,Zh _,(by have h:=HV.out.ext ht.out;rw[HQ.out] at h;exact h),(by rw[List.take_zero,Yc,ZX];exact h6.out),ge.out⟩
 case round=>
  obtain ⟨j,hj,V,F,hx⟩:=hrel;obtain ⟨D1,c1,rfl, -, -⟩:=RStrs.form V;obtain ⟨G,gc,rfl⟩:=Yf F;have J:=Zdv (ps.drop j);rw[Zj] at J;by_cases hk:j<ps.length
  ·obtain ⟨D2,c2,hB,Y⟩:=Znz 2 V (by omega);have hl:=ZhE hk;obtain ⟨ad,hM,H⟩:=RSl.at1' V 0 (.string (str ps[j].1)) (by rw[hl];rfl);obtain ⟨gy,X,R⟩:=RSl.at1' V 1 (.string (str ps[j].2)) (by rw[hl];rfl);rw[hM] at X;injection X with X;subst X;subst hM;rw[add_zero] at H;rw[show ad.add 1=⟨ad.block,ad.off+1,none⟩ from Ze (by omega)] at R;have h4:ad.block<W1.heap.size:=ZV W1 _ H;have H:=hx.cell H;have R:=hx.cell R;have hdr:(pairS (ps.drop j)).drop 2=pairS (ps.drop (j+1)):=(by rw[hl];rfl);rw[hdr] at Y;obtain ⟨rl,gn⟩:∃rl,(pairS (ps.drop j)).length=rl:=⟨_,rfl⟩;rw[gn] at hB Y J|-;have gA:(1:Int)<(rl:Int):=(by omega);have gz:(0:Int)<(rl:Int):=(by omega);have gt:¬rl=0:=(by omega);have gu:∀wx:Wq,(Instr.slice 52 (.slice (some ad) rl c1) (some (nI 2)) none none).run prog wx= .ok (.slice D2 (rl - 2) c2) wx:=hB;have hC:(ps.take (j+1)).map pairA=(ps.take j).map pairA++ [pairA ps[j]]:=(by rw[Zn hk,ZN];rfl);obtain ⟨p,hp⟩:∃p,ps[j]=p:=⟨_,rfl⟩;rw[hp] at H R hC;have h9:=gd J;clear J;have gb:=gd hC;have ga:=gd Y;have ho:=gd F;have hw:=gd hx;have hr:Hid ((Value.slice G (l0.length+j) gc).ownBlock≠some ad.block):=gd (λe=>by
    have h1:=(ho.out.lt _ e).1;omega)
   clear h4;have hQ:l0.length+ps.length<=1000000:=HN.out;clear V Y hB hl hdr hC hp F hx gm;go_wp2;refine rN ?_;change wpAny _ _ _ _ _ _ _ (World.drew _);have hD:=(Ext.refl wr).drew;have I:wr.drew.cell? ad=some (.string (str p.1))/\wr.drew.cell? ⟨ad.block,ad.off+1,none⟩=some (.string (str p.2)):=⟨hD.cell H,hD.cell R⟩;refine Yx (λw'=>w'.cell? ad=some (.string (str p.1))/\w'.cell? ⟨ad.block,ad.off+1,none⟩=some (.string (str p.2))) ?_;refine tG 0 (.slice G (l0.length+j) gc) I ?_;refine tG 1 (.slice (some ad) rl c1) I ?_;refine tG 2 (.pointer (some ad)) I ?_;refine tS 3 (.string (str p.1)) rfl (λw' hS=>by have q1:=hS.1;go_simp) I ?_;refine tG 4 (.slice (some ad) rl c1) I ?_;refine tG 5 (.pointer (some (ad.add 1))) I ?_;refine tS 6 (.string (str p.2)) rfl (λw' hS=>by have q1:=hS.2;go_simp) I ?_;refine tG 7 (.agg #[eS,.string (str p.1),.string (str p.2),nI 0]) I ?_;go_simp;refine sS 8 λK hK=> ?_;go_simp;have Q:=hD.alloc (.cells #[eS,.string (str p.1),.string (str p.2),nI 0] 88);refine hK _ _ ⟨Q.cell H,Q.cell R⟩ ?_;clear hK K;have hH:Hid (RSl (wr.drew.alloc (.cells #[eS,.string (str p.1),.string (str p.2),nI 0] 88)) 4 (.slice (some ⟨wr.heap.size,0,none⟩) 1 1) 1 (cellsA (pairA p))):=gd (Yq (w:=wr.drew) (n:=1) (cs:=cellsA (pairA p)) rfl (by decide));have hI:=gd (Ye ho.out Q);refine sS 9 λK hK=> ?_;refine Z4 _ (by rfl) (.tmp 26) (.tmp 34) _ (by rfl) W1.heap.size 88 i0 _ 4 56 underlying22 hP hW hX hY rfl (by decide) _ (l0.length+j) (flatA (l0++(ps.take j).map pairA)) (by rfl) hI.out _ 1 (cellsA (pairA p)) (by rfl) hH.out (J4 _) (by unfold maxLen;omega) (by omega) (hw.out.trans Q).size ?_;intro v9 w9 U hi hN;have gr:Ext W1 w9:=Ext.app (hw.out.trans Q) hi hI.out (Zb _);have h5:=gd (ZV wr _ H);have hJ:w9.cell? ad=some (.string (str p.1))/\w9.cell? ⟨ad.block,ad.off+1,none⟩=some (.string (str p.2)):=(by have gl:(Value.slice G (l0.length+j) gc).ownBlock≠some ad.block:=hr.out;have hb:w9.heap[ad.block]? =(wr.drew.alloc (.cells #[eS,.string (str p.1),.string (str p.2),nI 0] 88)).heap[ad.block]?:=hi.block _ (YW h5.out Q.size) (λe=>gl e.symm);exact ⟨(Z3 hb).trans (Q.cell H),(Z3 (a:=⟨ad.block,ad.off+1,none⟩) hb).trans (Q.cell R)⟩);obtain ⟨V9,c9,gp⟩:=Yf U;subst gp;have h8:Hid (w9.ownsRow W1.heap.size 88 4 (.slice V9 (l0.length+j+1) c9) (l0.length+(j+1)) (flatA (l0++(ps.take (j+1)).map pairA))):=(by show w9.ownsRow _ _ _ _ _ _;rw[gb.out,<-ZQ,Gl,Gn];exact U);have gg:=gd gr;have gw:=gd hi;refine hK _ _ hJ ?_;clear hK K U hi hN;refine sS 10 λK hK=> ?_;go_simp;refine hK _ _ hJ ?_;clear hK K;refine sE ?_;go_wp2;go_roundw
   case rel=>exact ⟨j+1,hk,ga.out,h8.out,gg.out⟩
   case measure=>have:=h9.out;simp[slLen];omega
  ·have gj:j=ps.length:=(by omega);subst gj;have h0:pairS (ps.drop ps.length)= []:=(by rw[List.drop_length];rfl);rw[h0] at V|-;rw[List.take_length] at F;have HO:=gd F;have hw:=gd hx;have hh:=hG.out.ext hx;have hz:W1.heap.size=w.heap.size+2:=hs.out;have h3:=hx.heap gh.out;obtain ⟨b0,b1,b2,b3,b4,b5,b6⟩:=hh.cells;obtain ⟨-, -,f3, -⟩:=hh.frozen;obtain ⟨W5,hg⟩:∃W5,wr.setCell ⟨w.heap.size,3,none⟩ (.slice G (l0.length+ps.length) gc)=W5:=⟨_,rfl⟩;have hO:BxN W5 w.heap.size k s n (.slice G (l0.length+ps.length) gc) (.slice B0 m2 d) t a:=(by rw[<-hg];exact hh.attrs _);have hZ:W5.heap[w.heap.size+1]? =some (.cells #[nI 0,eS,eS,sN,sN,eS,nI 0] 25 (0,0)):=(by rw[<-hg];exact (ZZ wr ⟨w.heap.size,3,none⟩ (w.heap.size+1) _ (by show w.heap.size+1≠w.heap.size;omega)).trans h3);have Z:W5.ownsRow W1.heap.size 88 4 (.slice G (l0.length+ps.length) gc) (l0.length+ps.length) (flatA (l0++ps.map pairA)):=(by rw[<-hg];exact ZnU F (by show w.heap.size<_;omega) _);have hV:Ext w W5:=(by rw[<-hg];exact (ht.out.trans hx).setCell (Zb _) _);obtain ⟨e0,e1,e2,e3,e4,e5,e6⟩:=hO.cells;have h7:=gd Z;have gf:=gd hV;clear F hx hh h3 Z hV hO hz J V hk hj h0
   go_wp2_with (first|(refine Zf rfl 25 (.tmp 4) (.tmp 38) rfl (w.heap.size+1) _ rfl rfl _ _ hZ ZJ rfl YR ?_))
   ((try simp only[Exit.inBlock,Exit.then]);refine Zy (XR rfl _ _ _ _ _ _ _ rfl (Zz _ _ _ _ _ _ hZ) underlying25 rfl ZJ) rfl ?_);exact ⟨_,rfl,XM (Jr h7.out (by rw[hs.out];omega) _) (by rw[hs.out];omega),gf.out.setRow (Yj _) _⟩
end
theorem Zcf (e:Ent) (w:Wq) (Z:eokS e):
 Calls prog 78 #[.agg (eCells e).toArray] w λx w'=>x= .returned (nI (if okE e=true then 0 else 22))/\Ext w w':=by
 obtain ⟨R,I⟩:∃R:Int,(if (validS e.id && (validS e.title && (validS e.link && (validS e.content && true))) && !decide (e.id=noS) && inT e.upd)=true then 0 else 22)=R:=⟨_,rfl⟩;rw[show (if okE e=true then (0:Int) else 22)=R from I];obtain ⟨s0,s1,s2,s3⟩:=Z;have S:=gd (λw'=>Xf e.id w' (by omega));have U:=gd (λw'=>Xf e.title w' (by omega));have V:=gd (λw'=>Xf e.link w' (by omega));have X:=gd (λw'=>Xf e.content w' (by omega));have Y:=gd (λw'=>Vu e.upd w');have h4:e.id.toList.isEmpty=decide (e.id=noS):=by
  by_cases h:e.id=noS
  ·rw[h,X3];rfl
  ·rw[Vs h,Ya h]
 clear s0 s1 s2 s3;obtain ⟨id,title,link,content,upd⟩:=e;unfold eCells;dsimp only at*;generalize validS id=b0 at*;generalize validS title=b1 at*;generalize validS link=b2 at*;generalize validS content=b3 at*;generalize decide (id=noS)=b4 at*;generalize inT upd=b5 at*;cases b0;rotate_left;cases b1;rotate_left;cases b2;rotate_left;cases b3;rotate_left;cases b4;cases b5
 all_goals
  simp at I
  subst I
  go_enter func78,ntmps78
  go_wp2_with (first|(go_at_call 76;(with_reducible refine Za (S.out _) ?_);rintro e w1 ⟨rfl,A⟩;(have k1:=A.boxed 1 _ rfl))|(go_at_call 76;(with_reducible refine Za (U.out _) ?_);rintro e w2 ⟨rfl,J⟩;(have D:=A.trans J);(have k2:=D.boxed 2 _ rfl))|(go_at_call 76;(with_reducible refine Za (V.out _) ?_);rintro e w3 ⟨rfl,K⟩;(have F:=D.trans K);(have k3:=F.boxed 3 _ rfl))|(go_at_call 76;(with_reducible refine Za (X.out _) ?_);rintro e w4 ⟨rfl,Q⟩;(have H:=F.trans Q);(have k4:=H.boxed 0 _ rfl);(have k5:=H.boxed 4 _ rfl))|(go_at_call 77;(with_reducible refine Za (Y.out _) ?_);rintro e w5 ⟨rfl,rfl⟩))
  go_ret
  exact ⟨rfl,((Ext.refl _).alloc _).trans (by assumption)⟩
theorem Vf (t:Int) (w:Wq):
 Calls prog 130 #[nI t] w λe w'=>e= .returned (.bool (inT t))/\w=w':=by
 unfold inT;go_enter func130,ntmps130;go_wp2
 all_goals go_ret
 all_goals exact ⟨by simp_all<;>omega,rfl⟩
theorem XJ (b:Bool) (w:Wq):
 Calls prog 85 #[.bool b] w λe w'=>e= .returned (nI (if b=true then 0 else 22))/\w=w':=by
 cases b with
 |true=>go_enter func85,ntmps85;go_wp2;go_ret;exact ⟨rfl,rfl⟩
 |false=>go_enter func85,ntmps85;go_wp2;go_ret;exact ⟨rfl,rfl⟩
theorem Zhm (e:Ent) (w:Wq):Calls prog 129 #[.agg (eCells e).toArray] w λx w'=>x= .returned (.string e.id)/\Ext w w':=by
 unfold eCells;go_enter func129,ntmps129;go_wp2;go_ret;exact ⟨rfl,(Ext.refl _).alloc _⟩
theorem ZjB (p es:Value) (f:Fd) (w:Wq):Calls prog 88 #[.agg (fCells p es f).toArray] w λx w'=>x= .returned (.string f.id)/\Ext w w':=by
 unfold fCells;go_enter func88,ntmps88;go_wp2;go_ret;exact ⟨rfl,(Ext.refl _).alloc _⟩
theorem Ut (v:Value) (l:List ByteArray) (w:Wq) (hE:Env w) (h:RStrs w v l) (J:∀s∈l,s.size<=16777216) (hn:l.length<=16777216):
 Calls prog 128 #[v] w λe w'=>e= .returned (.bool (l.all validS))/\Ext w w':=by
 obtain ⟨A,c,rfl, -, -⟩:=h.form;obtain ⟨R,hR⟩:∃R,l.all validS=R:=⟨_,rfl⟩;rw[hR];have HR:=gd hR;have HS:=gd J;have HH:=gd h;have X:=gd hE;clear hR J h hE;go_enter func128,ntmps128;go_wp2;go_loopw [7] (λi wr=>∃k:Nat,k<=l.length/\i=nI k/\Hid (∀s∈l.take k,validS s=true)/\Ext w wr) (λi _=>l.length - (intOf i).toNat)
 case atStart=>exact ⟨0,Zh _,rfl,gd (by simp),Ext.refl _⟩
 case round=>
  obtain ⟨k,hk,rfl,K,H⟩:=hrel;by_cases I:k<l.length
  ·obtain ⟨ad,c1,e1,hc⟩:=(RStrs.ext HH.out H).at I;injection e1 with e1 e1' e1'';subst e1;clear e1' e1'';have F:l[k]∈l:=ZE I;have Q:=Zn I;have U:=gd (Zco l[k] wr (X.out.ext H) (by have:=HS.out _ F;omega));have D:validS l[k]=false->R=false:=λh=>(by rw[<-HR.out,Yv];intro h2;have:=Yg.1 h2 _ F;rw[h] at this;cases this);obtain ⟨p,V⟩:∃p,l[k]=p:=⟨_,rfl⟩;rw[V] at hc Q U D;have Z:=gd Q;have he:(0:Int)<=(k:Int):=(by omega);have hf:(k:Int)<(l.length:Int):=(by omega);clear V F Q;cases hv:validS p with
   |false=>
    have ha:=D hv;subst ha;rw[hv] at U;clear D hv
    go_wp2_with (first|(go_at_call 178;(with_reducible refine Za (U.out) ?_);rintro e w6 ⟨rfl,S⟩))
    go_ret;exact ⟨rfl,H.trans S⟩
   |true=>
    have Y:=gd hv;rw[hv] at U;clear D hv
    go_wp2_with (first|(go_at_call 178;(with_reducible refine Za (U.out) ?_);rintro e w6 ⟨rfl,S⟩))
    go_roundw
    case rel=>exact ⟨k+1,I,by go_num,gd (λs J=>by
     rw[Z.out] at J;rcases Zx.1 J with J|J
     ·exact K.out s J
     ·rw[Zo.1 J];exact Y.out),H.trans S⟩
    case measure=>simp[intOf];omega
  ·have hd:k=l.length:=(by omega);subst hd;have hi:=K.out;rw[ZR (Zb _)] at hi;have hb:R=true:=(by rw[<-HR.out];exact Yg.2 hi);subst hb;clear hi;go_wp2;go_ret;exact ⟨rfl,H⟩
theorem Zdi {s:ByteArray} (h:s=noS):s.toList.isEmpty=true:=by rw[h,X3];rfl
theorem U5 (w:Wq) (l:List ByteArray) (h:l.length<=maxLen):RStrs (w.alloc (.cells (l.map Value.string).toArray 9)) (.slice (some ⟨w.heap.size,0,none⟩) l.length l.length) l:=
 Yq (by rw[Zm,Nat.mul_one]) h
theorem ZfL (e:Ent) (w:Wq) (V:Env w) (X:eokS e):
 Calls prog 132 #[.agg (eCells e).toArray] w λx w'=>x= .returned (nI (if okE e=true then 0 else 22))/\Ext w w':=by
 have I:okE e=((strsE e).all validS && !decide (e.id=noS) && inT e.upd):=rfl;have D:=gd (λw'=>XJ false w');have J:=gd (λw'=>Vf e.upd w');have H:=gd (λ(w':Wq) (h:Ext w w')=>Ut _ (strsE e) (w'.alloc (.cells ((strsE e).map Value.string).toArray 9)) ((V.ext h).alloc _) (U5 w' (strsE e) (by show 4<=maxLen;decide)) (λs h=>by
  obtain ⟨h1,h2,h3,h4⟩:=X;unfold strsE at h;simp only[ZK,Z2,Xc] at h;rcases h with rfl|rfl|rfl|rfl<;>omega) (by show 4<=16777216;decide))
 by_cases F:e.id=noS
 ·have A:okE e=false:=by rw[I,F];simp
  rw[Ze (by rw[A];simp)];have K:=Zdi F;clear I F A J H;unfold eCells;go_enter func132,ntmps132
  go_wp2_with (first|(go_at_call 85;(with_reducible refine Za (D.out _) ?_);rintro e Y ⟨rfl,rfl⟩))
  go_ret;exact ⟨rfl,(Ext.refl _).alloc _⟩
 ·have K:=Vs F;cases hti:inT e.upd with
  |false=>
   have A:okE e=false:=(by rw[I,hti,Bool.and_false]);rw[Ze (by rw[A];simp)];rw[hti] at J;clear I F A H hti;unfold eCells;go_enter func132,ntmps132
   go_wp2_with (first|(go_at_call 130;(with_reducible refine Za (J.out _) ?_);rintro e w5 ⟨rfl,rfl⟩)|(go_at_call 85;(with_reducible refine Za (D.out _) ?_);rintro e Y ⟨rfl,rfl⟩))
   go_ret;exact ⟨rfl,(Ext.refl _).alloc _⟩
  |true=>
   have A:okE e=(strsE e).all validS:=(by rw[I,hti,Ya F];simp);rw[A];rw[hti] at J;have S:=gd (λw'=>XJ ((strsE e).all validS) w');obtain ⟨b,U⟩:∃b,(strsE e).all validS=b:=⟨_,rfl⟩;simp only[U] at H S|-;unfold strsE at H;simp only[Zw,Yc,Zd,ZM] at H;clear I F A D hti U;unfold eCells;go_enter func132,ntmps132
   go_wp2_with (first|(go_at_call 130;(with_reducible refine Za (J.out _) ?_);rintro e w5 ⟨rfl,rfl⟩)|(go_at_call 128;(have R:=H.out _ ((Ext.refl w).alloc (.cells #[.string e.id,.string e.title,.string e.link,.string e.content,nI e.upd] 76)));(simp only[Zp] at R);(with_reducible refine Za R ?_);clear R;rintro Z w7 ⟨rfl,Q⟩)|(go_at_call 85;(with_reducible refine Za (S.out _) ?_);rintro e8 w8 ⟨rfl,rfl⟩))
   all_goals go_ret
   all_goals exact ⟨rfl,(((Ext.refl _).alloc _).alloc _).trans Q⟩
theorem ZiO (w:Wq):Calls prog 44 #[.string ⟨#[111,117,116,108,105,110,101]⟩,sN] w λe w'=>
 ∃KB kc,e= .returned (.agg #[nI 0,eS,.string ⟨#[111,117,116,108,105,110,101]⟩,sN,.slice KB 0 kc,eS,nI 0])/\RNs w' (.slice KB 0 kc) []/\Ext w w':=by
 have h:=ZaU outlineL sN [] w (RNs.nil w) (by intro y F;cases F) (by decide);rw[UJ] at h;refine Za h ?_;rintro e w' ⟨ks,rfl,A,D⟩;obtain ⟨KB,kc,rfl⟩:=Yf A;exact ⟨KB,kc,rfl,RSl.of_own A,D⟩
theorem ZiN (v:Value) (l:List Nc) (w:Wq) (H:RNs w v l) (D:∀y∈l,RdN w y/\y.kind=0) (F:l.length<=16777216):Calls prog 44 #[.string ⟨#[111,117,116,108,105,110,101]⟩,v] w λe w'=>
 ∃KB kc,e= .returned (.agg #[nI 0,eS,.string ⟨#[111,117,116,108,105,110,101]⟩,sN,.slice KB l.length kc,eS,nI 0])/\w'.ownsRow w.heap.size 25 7 (.slice KB l.length kc) l.length (flatN l)/\Ext w w':=by
 have h:=ZaU outlineL v l w H D F;rw[UJ] at h;refine Za h ?_;rintro e w' ⟨ks,rfl,A,I⟩;obtain ⟨KB,kc,rfl⟩:=Yf A;exact ⟨KB,kc,rfl,A,I⟩
theorem Ev (al:Value) (l0:List AtP) (KB:Option Addr) (n kc:Nat) (v:Value) (ps:List (List UInt8×List UInt8)) (w:Wq) (D:RAts w al l0) (H:RStrs w v (pairS ps)) (F:l0.length+ps.length<=1000000):
 Calls prog 46 #[.agg #[nI 0,eS,.string ⟨#[111,117,116,108,105,110,101]⟩,al,.slice KB n kc,eS,nI 0],v] w λe w'=>
  ∃AB ac,e= .returned (.agg #[nI 0,eS,.string ⟨#[111,117,116,108,105,110,101]⟩,.slice AB (l0.length+ps.length) ac,.slice KB n kc,eS,nI 0])/\w'.ownsRow w.heap.size 88 4 (.slice AB (l0.length+ps.length) ac) (l0.length+ps.length) (flatA (l0++ps.map pairA))/\Ext w w':=by
 have h:=Zgx 0 [] outlineL al (.slice KB n kc) l0 n kc KB [] 0 v ps w D rfl H F;rw[UJ] at h;refine Za h ?_;rintro e w' ⟨al',rfl,A,I⟩;obtain ⟨AB,ac,rfl⟩:=Yf A;exact ⟨AB,ac,rfl,A,I⟩
theorem Zkl (KB:Option Addr) (kc:Nat) (v:Value) (title id:ByteArray) (w:Wq) (h:RStrs w v (pairS [(typeL,rssL),(textL,lst title),(xmlUrlL,lst id)])):
 Calls prog 46 #[.agg #[nI 0,eS,.string ⟨#[111,117,116,108,105,110,101]⟩,sN,.slice KB 0 kc,eS,nI 0],v] w λe w'=>
  ∃AB ac,e= .returned (.agg #[nI 0,eS,.string ⟨#[111,117,116,108,105,110,101]⟩,.slice AB 3 ac,.slice KB 0 kc,eS,nI 0])/\w'.ownsRow w.heap.size 88 4 (.slice AB 3 ac) 3 (flatA ([(typeL,rssL),(textL,lst title),(xmlUrlL,lst id)].map pairA))/\Ext w w':=
 Ev sN [] KB 0 kc v [(typeL,rssL),(textL,lst title),(xmlUrlL,lst id)] w (RAts.nil w) h (by show 0+3<=1000000;omega)
theorem Zjp (w:Wq) (title id:ByteArray):RStrs (w.alloc (.cells #[.string ⟨#[116,121,112,101]⟩,.string ⟨#[114,115,115]⟩,.string ⟨#[116,101,120,116]⟩,.string title,.string ⟨#[120,109,108,85,114,108]⟩,.string id] 9)) (.slice (some ⟨w.heap.size,0,none⟩) 6 6) (pairS [(typeL,rssL),(textL,lst title),(xmlUrlL,lst id)]):=by
 have e:∀s:ByteArray,str (lst s)=s:=λs=>rfl;have h:=U5 w (pairS [(typeL,rssL),(textL,lst title),(xmlUrlL,lst id)]) (by show 6<=maxLen;unfold maxLen;omega);exact h
theorem Zjs (w:Wq) (link:ByteArray):RStrs (w.alloc (.cells #[.string ⟨#[104,116,109,108,85,114,108]⟩,.string link] 9)) (.slice (some ⟨w.heap.size,0,none⟩) 2 2) (pairS [(htmlUrlL,lst link)]):=U5 w (pairS [(htmlUrlL,lst link)]) (by show 2<=maxLen;unfold maxLen;omega)
theorem Zi5 (w:Wq) (name:ByteArray):RStrs (w.alloc (.cells #[.string ⟨#[116,101,120,116]⟩,.string name] 9)) (.slice (some ⟨w.heap.size,0,none⟩) 2 2) (pairS [(textL,lst name)]):=U5 w (pairS [(textL,lst name)]) (by show 2<=maxLen;unfold maxLen;omega)
section
section
variable {P:Program} {md:Region.Mode} {Q:Exit→Act→World→Prop} {S:World→Prop}
end
end
section
variable {B g kc n:Nat} {T e:TypeId} {v:Value} {w w':World} {xs:List Value}
theorem Zf2 {size:Nat} {cs:Array Value} {fr:Nat×Nat} (A:w.ownsRow B e size v n xs) (D:w.heap[g]? =some (.cells cs T fr)) (H:T≠e):v.ownBlock≠some g:=by
 rcases A.2 with ⟨rfl,_⟩|⟨q,cap,F,rfl,_,I,_⟩
 ·simp[Value.ownBlock]
 ·intro h;simp only[Value.ownBlock,Y8] at h;subst h;rw[I] at D;simp only[Y8,Obj.cells.injEq] at D;exact H D.2.1.symm
theorem Qr {size:Nat} {cs A:Array Value} {fr:Nat×Nat} (h:w.ownsRow B e size v n xs) (F:w.heap[g]? =some (.cells cs T fr)) (D:T≠e):(w.setRow g A).ownsRow B e size v n xs:=
 h.kept (row:=some g) ⟨rfl,rfl,rfl,by simp[World.setRow],λk _ H=>Z9 w g k A (λe=>H (by rw[e]))⟩ (Or.inr (Zf2 h F D))
theorem Vm (h:RNs w v []):RNs w' v []:=by
 obtain ⟨D,A,c,e,F,H,I,K⟩:=h;exact ⟨D,A,c,e,F,H,I,λj u J=>by simp[Zi0] at J⟩
def leafC (KB:Option Addr) (kc:Nat) (al:Value) (f:Fd):Nc:= .mk 0 [] outlineL al ([(typeL,rssL),(textL,lst f.title),(xmlUrlL,lst f.id)].map pairA) (.slice KB 0 kc) [] [] 0
def leafC2 (KB:Option Addr) (kc:Nat) (al:Value) (f:Fd):Nc:= .mk 0 [] outlineL al ([(typeL,rssL),(textL,lst f.title),(xmlUrlL,lst f.id)].map pairA++ [(htmlUrlL,lst f.link)].map pairA) (.slice KB 0 kc) [] [] 0
theorem Zk5 {KB:Option Addr} {al:Value} {f:Fd} (h:f.link.size=0):(leafC KB kc al f).nd=feedN f:=by
 unfold feedN leafC;rw[Zi h];rw[Nc.nd,Nc.nds];rfl
theorem Zjn {KB:Option Addr} {al:Value} {f:Fd} (h:f.link.size≠0):(leafC2 KB kc al f).nd=feedN f:=by
 unfold feedN leafC2;rw[Ze h];rw[Nc.nd,Nc.nds];rfl
theorem Zk6 {KB:Option Addr} {al:Value} {f:Fd} (h:w.ownsRow B 88 4 al 3 (flatA ([(typeL,rssL),(textL,lst f.title),(xmlUrlL,lst f.id)].map pairA))) (A:RNs w (.slice KB 0 kc) []):RdN w (leafC KB kc al f):=by
 unfold leafC;rw[RdN];exact ⟨RSl.of_own h,A,by rw[RdNs];trivial⟩
theorem Zjo {KB:Option Addr} {al:Value} {f:Fd} (h:w.ownsRow B 88 4 al 4 (flatA ([(typeL,rssL),(textL,lst f.title),(xmlUrlL,lst f.id)].map pairA++ [(htmlUrlL,lst f.link)].map pairA))) (A:RNs w (.slice KB 0 kc) []):RdN w (leafC2 KB kc al f):=by
 unfold leafC2;rw[RdN];exact ⟨RSl.of_own h,A,by rw[RdNs];trivial⟩
theorem Zdt {I J X Y U V:Nat} {e1 e2:TypeId} {v1 v2:Value} {h H:List Value} (D:w.ownsRow I e1 X v1 U h) (Q:w.ownsRow J e2 Y v2 V H) (F:e1≠e2) (S:h≠ []):v1.ownBlock≠v2.ownBlock:=by
 rcases Q.2 with ⟨rfl,_⟩|⟨q,cap,A,rfl,_,R,_⟩
 ·rcases D.2 with ⟨rfl,K⟩|⟨q,cap,A,rfl,_⟩
  ·exact absurd (Zr (by rw[D.1,K,Xa])) S
  ·simp[Value.ownBlock]
 ·exact Zf2 D R (λe=>F e.symm)
end
section
variable {f i k n r:Nat} {s t:List UInt8}
theorem Js {x r:List UInt8} (h:s.drop k=x++r):s.drop (k+x.length)=r:=by
 rw[<-List.drop_drop,h,List.drop_left]
theorem UF {r:List UInt8} {c:UInt8} (h:s.drop k=c::r):s.drop (k+1)=r:=Js (x:= [c]) h
theorem QT {r:List UInt8} {c:UInt8} (h:s.drop k=c::r):k<s.length:=by
 rcases Y6 k s.length with A|A
 ·exact A
 ·rw[Zs A] at h;cases h
theorem ZhF {x:List UInt8} (h:s.drop k=x) (A:k<=s.length):k+x.length=s.length:=by
 have:=ZC List.length h;rw[Zj] at this;omega
theorem Zij {x r:List UInt8} (h:s.drop k=x++r) (A:k<=s.length):k+x.length<=s.length:=by
 have:=ZhF h A;rw[Zc] at this;omega
theorem Ve {r:List UInt8} (h:s.drop k=t++r):hasAt s k t=true:=by
 unfold hasAt;rw[h,List.isPrefixOf_iff_prefix];exact List.prefix_append _ _
theorem Uw {r:List UInt8} {c d:UInt8} (h:s.drop k=c::r) (A:d≠c):hasAt s k (d::t)=false:=by
 unfold hasAt;rw[h];have:(d==c)=false:=by simpa using A
 simp[List.isPrefixOf,this]
theorem JX {r:List UInt8} {c c2 d A:UInt8} (h:s.drop k=c::c2::r) (D:A≠c2):hasAt s k (d::A::t)=false:=by
 unfold hasAt;rw[h];have:(A==c2)=false:=by simpa using D
 simp[List.isPrefixOf,this]
theorem ID {r:List UInt8} {c:UInt8} (h:s.drop k=c::r) (A:isSp c.toNat=false):spAt s k=k:=by
 unfold spAt;rw[h,Yk,Ze (by rw[A];simp)];rfl
theorem Znu {r:List UInt8} {c:UInt8} (h:s.drop k=32::c::r) (A:isSp c.toNat=false):spAt s k=k+1:=by
 unfold spAt;rw[h,Yk,Zi (by decide),Yk,Ze (by rw[A];simp)];rfl
theorem ZdU {l:List UInt8} (r:List UInt8) (h:(dec l).2≠0):dec (l++r)=dec l/\scalar (dec l).1/\(encN (dec l).1).length=(dec l).2:=by
 have H:=Gh (l:=l) (r:=(dec l).1) (m:=(dec l).2) rfl h;have J:=JW l;have A:(encN (dec l).1).length=(dec l).2:=by have:=ZC List.length H;rw[Zc,Zj] at this;omega
 have D:scalar (dec l).1:=by
  unfold scalar;rcases Y6 1114111 (dec l).1 with F|F
  ·have:encN (dec l).1= []:=(by unfold encN;rw[Zi (Or.inl F)]);rw[this] at A;exact absurd A.symm h
  ·by_cases I:55296<=(dec l).1/\(dec l).1<=57343
   ·have:encN (dec l).1= []:=(by unfold encN;rw[Zi (Or.inr I)]);rw[this] at A;exact absurd A.symm h
   ·omega
 refine ⟨?_,D,A⟩
 calc dec (l++r)=dec (encN (dec l).1++(l.drop (dec l).2++r)):=by rw[<-ZQ,<-H]
  _=((dec l).1,(encN (dec l).1).length):=ZdV D _
  _=dec l:=by rw[A]
theorem KC (c:UInt8):UInt8.ofNat c.toNat=c:=by simp
theorem IS {c:UInt8} (t:List UInt8) (h:c.toNat<128):dec (c::t)=(c.toNat,1):=by
 have A:=ZdV (r:=c.toNat) (Or.inl (by omega)) t;rw[JJ h,KC] at A;exact A
theorem Zbq {b:Bool} (h:nmOk true false r=false):nmOk true b r=false:=by
 cases b with
 |false=>exact h
 |true=>unfold nmOk nmChar at h;unfold nmOk;simp only[Bool.or_eq_false_iff,YV,Vq] at h;simp only[J9,Bool.or_eq_false_iff];exact ⟨h.1,h.2.1⟩
def ends (c:UInt8):Prop:=c.toNat<128/\nmOk true false c.toNat=false
theorem Zlc {c:UInt8} (D:ends c) (r:List UInt8):∀(f:Nat) (first:Bool) (l:List UInt8),nmGo true f first l=l.length->l.length<=f->∀g,l.length<g->nmGo true g first (l++c::r)=l.length
 |0,first,l,_,hl,g,hg=>by
  have:l= []:=Zr (by omega)
  subst this
  refine X7 (Or.inr (Or.inr ?_))
  rw[Yt,IS r D.1]
  exact Zbq D.2
 |f+1,first,l,h,hl,g,hg=>by
  by_cases J:l= []
  ·subst J
   refine X7 (Or.inr (Or.inr ?_))
   rw[Yt,IS r D.1]
   exact Zbq D.2
  ·have K:0<l.length:=XE.2 J
   have A:(dec l).2≠0/\nmOk true first (dec l).1=true:=by
    by_cases I:l= []\/(dec l).2=0\/nmOk true first (dec l).1=false
    ·rw[X7 I] at h
     omega
    ·refine ⟨λe=>I (Or.inr (Or.inl e)),?_⟩
     cases hk:nmOk true first (dec l).1 with
     |true=>rfl
     |false=>exact absurd (Or.inr (Or.inr hk)) I
   have F:=(ZdU (c::r) A.1).1
   have H:=JW l
   rw[Ua A.1 A.2] at h
   obtain ⟨g,rfl⟩:∃m,g=m+1:=⟨g - 1,by omega⟩
   rw[Ua (by rw[F];exact A.1) (by rw[F];exact A.2),F,List.drop_append_of_le_length H]
   have Q:=Zlc D r f false (l.drop (dec l).2) (by rw[Zj];omega) (by rw[Zj];omega) g (by rw[Zj];omega)
   rw[Q,Zj]
   omega
theorem G9 {l:List UInt8} (h:isQ l=true):0<l.length/\nmGo true l.length true l=l.length:=by
 unfold isQ nmLen at h;simpa using h
theorem Zld {n r:List UInt8} {c:UInt8} (D:isQ n=true) (A:ends c) (h:s.drop k=n++c::r):nmAt s k=k+n.length:=by
 unfold nmAt nmLen;rw[h,Zlc A r n.length true n (G9 D).2 (Zb _) _ (by rw[Zc,Zd];omega)]
theorem Zfw {c:UInt8} (h:isQ (c::t)=true):c≠63/\c≠33/\c≠47/\isSp c.toNat=false/\c≠62:=by
 have I:=(G9 h).2;have A:∀d:UInt8,d.toNat<128->nmOk true true d.toNat=false->c≠d:=λd J K e=>by subst e;rw[X7 (Or.inr (Or.inr (by rw[IS t J];exact K))),Zd] at I;omega
 refine ⟨A 63 (by decide) (by decide),A 33 (by decide) (by decide),A 47 (by decide) (by decide),?_,A 62 (by decide) (by decide)⟩;have F:=A 32 (by decide) (by decide);have H:=A 9 (by decide) (by decide);have a3:=A 10 (by decide) (by decide);have a4:=A 13 (by decide) (by decide);unfold isSp;rw[Jv];intro e;have D:∀n:Nat,n<256->(c.toNat:Int)=n->c=UInt8.ofNat n:=λn Q e=>by
  have:c.toNat=n:=by omega
  rw[<-this,KC]
 rcases e with e|e|e|e
 ·exact F (D 32 (by decide) e)
 ·exact H (D 9 (by decide) e)
 ·exact a3 (D 10 (by decide) e)
 ·exact a4 (D 13 (by decide) e)
theorem Zfu {l:List UInt8} (h:isQ l=true):∃c t,l=c::t:=by
 cases l with
 |nil=>exact absurd (G9 h).1 (by simp)
 |cons c t=>exact ⟨c,t,rfl⟩
theorem ZdJ (v:Bool) (c:UInt8) (h:wescB v c≠ []):∃x:List UInt8,wescB v c=38::(x++ [59])/\(∀d∈x,(d !=59)=true)/\refRune x=some c.toNat/\isChar (c.toNat:Int)=true/\c.toNat<128:=by
 unfold wescB at h|-;by_cases A:c=38
 ·subst A;exact ⟨[97,109,112],rfl,by decide,by decide,by decide,by decide⟩
 rw[Ze A] at h|-;by_cases D:c=60
 ·subst D;exact ⟨[108,116],rfl,by decide,by decide,by decide,by decide⟩
 rw[Ze D] at h|-;by_cases F:c=62
 ·subst F;exact ⟨[103,116],rfl,by decide,by decide,by decide,by decide⟩
 rw[Ze F] at h|-;by_cases H:c=13
 ·subst H;exact ⟨[35,49,51],rfl,by decide,by decide,by decide,by decide⟩
 rw[Ze H] at h|-;by_cases I:v=false
 ·rw[Zi I] at h;exact absurd rfl h
 rw[Ze I] at h|-;by_cases J:c=34
 ·subst J;exact ⟨[113,117,111,116],rfl,by decide,by decide,by decide,by decide⟩
 rw[Ze J] at h|-;by_cases K:c=9
 ·subst K;exact ⟨[35,57],rfl,by decide,by decide,by decide,by decide⟩
 rw[Ze K] at h|-;by_cases Q:c=10
 ·subst Q;exact ⟨[35,49,48],rfl,by decide,by decide,by decide,by decide⟩
 rw[Ze Q] at h;exact absurd rfl h
theorem Ue {v:Bool} {c:UInt8} (h:wescB v c= []):c≠38/\c≠60/\c≠62/\c≠13/\(v=true->c≠34/\c≠9/\c≠10):=by
 unfold wescB at h;by_cases A:c=38
 ·rw[Zi A] at h;cases h
 rw[Ze A] at h;by_cases D:c=60
 ·rw[Zi D] at h;cases h
 rw[Ze D] at h;by_cases F:c=62
 ·rw[Zi F] at h;cases h
 rw[Ze F] at h;by_cases H:c=13
 ·rw[Zi H] at h;cases h
 rw[Ze H] at h;refine ⟨A,D,F,H,λQ=> ?_⟩;rw[Ze (by rw[Q];simp)] at h;by_cases I:c=34
 ·rw[Zi I] at h;cases h
 rw[Ze I] at h;by_cases J:c=9
 ·rw[Zi J] at h;cases h
 rw[Ze J] at h;by_cases K:c=10
 ·rw[Zi K] at h;cases h
 exact ⟨I,J,K⟩
theorem ZbV (v:Bool):∀a b:List UInt8,wescL v (a++b)=wescL v a++wescL v b
 | [],b=>rfl
 |c::t,b=>by
  show wescC v c++wescL v (t++b)=(wescC v c++wescL v t)++wescL v b
  rw[ZbV v t b,ZQ]
theorem Kl {v:Bool}:∀{l:List UInt8},(∀c∈l,wescB v c= [])->wescL v l=l
 | [],_=>rfl
 |c::t,h=>by
  show wescC v c++wescL v t=c::t
  unfold wescC
  rw[Zi (h c ZF),Kl λd A=>h d (Zu _ A)]
  rfl
theorem ZbX {v:Bool}:∀{l:List UInt8},∀d∈wescL v l,d≠60/\d≠62/\(v=true->d≠34)
 | [],d,h=>by cases h
 |c::t,d,h=>by
  have H:d∈wescC v c++wescL v t:=h
  rcases Zx.1 H with A|A
  ·unfold wescC at A
   by_cases F:wescB v c= []
   ·rw[Zi F,Zo] at A
    subst A
    have:=Ue F
    exact ⟨this.2.1,this.2.2.1,λI=>(this.2.2.2.2 I).1⟩
   ·rw[Ze F] at A
    have D:∀e∈wescB v c,e≠60/\e≠62/\e≠34:=by
     unfold wescB
     repeat' split
     all_goals decide
    have:=D d A
    exact ⟨this.1,this.2.1,λ_=>this.2.2⟩
  ·exact ZbX d A
theorem Zgw {v:Bool} {l:List UInt8} (h:wescL v l= []):l= []:=by
 cases l with
 |nil=>rfl
 |cons c t=>
  have A:wescC v c++wescL v t= []:=h;unfold wescC at A;by_cases D:wescB v c= []
  ·rw[Zi D] at A;cases A
  ·rw[Ze D] at A;exact absurd (List.append_eq_nil_iff.1 A).1 D
theorem VO {p:UInt8->Bool}:∀{x r:List UInt8},(∀d∈x,p d=true)->(∀c t,r=c::t->p c=false)->(x++r).takeWhile p=x
 | [],r,_,hr=>by
  cases r with
  |nil=>rfl
  |cons c t=>rw[Yt,Yk,Ze (by rw[hr c t rfl];simp)]
 |d::x,r,h,hr=>by rw[YD,Yk,Zi (h d ZF),VO (λe A=>h e (Zu _ A)) hr]
theorem Zns {z x r:List UInt8} (h:z.drop i=38::(x++ [59])++r) (H:∀d∈x,(d !=59)=true) (D:refRune x=some n) (A:isChar (n:Int)=true):refAt z i=some (n,i+x.length+2):=by
 unfold refAt;dsimp only;rw[h];have F:((38::(x++ [59])++r:List UInt8).tail.takeWhile λc=>c !=59)=x:=by show ((x++ [59]++r).takeWhile λc=>c !=59)=x;rw[ZQ];exact VO H λc t e=>by injection e with e _;subst e;rfl
 rw[F,Zi (show (38::(x++ [59])++r:List UInt8).head? =some 38 from rfl),Zi (by simp only[YD,Zd,Zc,ZM];omega),D];dsimp only;rw[Zi A]
theorem Zdc:∀{l:List UInt8},(∀c∈l,c≠13)->lns l=l
 | [],_=>rfl
 | [c],h=>by rw[lns,Ze (h c ZF)]
 |c::d::r,h=>by
  have A:=h c ZF
  rw[lns,Ze (λe=>A e.1),Ze A,Zdc λe D=>h e (Zu _ D)]
theorem IE:∀{l:List UInt8},(∀c∈l,c≠13/\c≠9/\c≠10)->spaced l=l
 | [],_=>rfl
 |c::t,h=>by
  unfold spaced at*
  have D:=h c ZF
  have ih:=IE (l:=t) λe H=>h e (Zu _ H)
  unfold spaced at ih
  rw[Zw,ih]
  split
  ·rename_i F
   unfold isSp at F
   rw[ZU] at F
   have A:∀n:Nat,n<256->(c.toNat:Int)=n->c=UInt8.ofNat n:=λn I e=>by
    have:c.toNat=n:=(by omega)
    rw[<-this,KC]
   rcases F with e|e|e|e
   ·rw[A 32 (by decide) e];rfl
   ·exact absurd (A 9 (by decide) e) D.2.1
   ·exact absurd (A 10 (by decide) e) D.2.2
   ·exact absurd (A 13 (by decide) e) D.1
  ·rfl
theorem Zgm (p:UInt8->Bool) (l:List UInt8):∃a b,l=a++b/\(∀c∈a,p c=true)/\(b= []\/∃c t,b=c::t/\p c=false):=by
 induction l with
 |nil=>exact ⟨[],[],rfl,(by intro c h;cases h),Or.inl rfl⟩
 |cons c t ih=>
  cases hp:p c with
  |false=>exact ⟨[],c::t,rfl,(by intro c h;cases h),Or.inr ⟨c,t,rfl,hp⟩⟩
  |true=>
   obtain ⟨a,b,D,F,H⟩:=ih;refine ⟨c::a,b,by rw[D];rfl,λd A=> ?_,H⟩;rcases ZK.1 A with A|A
   ·rw[A];exact hp
   ·exact F d A
theorem IR (v:Bool) (s:List UInt8):∀(n:Nat) (t:List UInt8),t.length<n->∀(i K:Nat) (r out:List UInt8),s.drop i=wescL v t++r->K=i+(wescL v t).length->K<=s.length->contAt v s K i out= .ok (out++t)
 |0,t,h,_,_,_,_,_,_,_=>by omega
 |n+1,t,h,i,K,r,out,hd,hto,hle=>by
  obtain ⟨a,b,rfl,ha,hb⟩:=Zgm (λc=>decide (wescB v c= [])) t
  have D:∀c∈a,wescB v c= []:=λc F=>by simpa using ha c F
  rw[Zc] at h
  rw[ZbV,Kl D] at hd hto
  rw[Zc] at hto
  have A:(s.take K).drop i=a++wescL v b:=by rw[List.drop_take,hd,show K - i=(a++wescL v b).length by rw[Zc];omega,List.take_left]
  by_cases I:a= []
  ·subst I
   rcases hb with rfl|⟨c,t',rfl,F⟩
   ·rw[ZaN (by rw[hto];simp[wescL])]
    simp
   ·have H:wescB v c≠ []:=(by simpa using F)
    obtain ⟨x,J,X,Y,Z,he⟩:=ZdJ v c H
    have V:wescL v (c::t')=38::(x++ [59])++wescL v t':=by
     show wescC v c++wescL v t'=_
     unfold wescC
     rw[Ze H,J]
    rw[Yt] at A hd|-
    rw[V] at hd A hto
    have hl:(38::(x++ [59])++wescL v t':List UInt8).length=x.length+2+(wescL v t').length:=(by simp only[YD,Zd,Zc,ZM];omega)
    rw[hl] at hto
    rw[ZM] at hto h
    rw[Zd] at h
    rw[ZaO hle (by omega) (by rw[hd];rfl) (Zns A X Y Z)]
    have S:s.drop (i+x.length+2)=wescL v t'++r:=by
     have:=Js (x:=38::(x++ [59])) (by rw[hd,ZQ])
     rw[<-this]
     congr 1
     simp only[Zd,Zc,ZM];omega
    rw[IR v s n t' (by omega) _ _ r _ S (by omega) hle,JJ he,KC]
    simp
  ·have hf:0<a.length:=XE.2 I
   have hh:(s.drop i).head?≠some 38:=by
    rw[hd]
    cases a with
    |nil=>exact absurd rfl I
    |cons c a=>
     intro e
     have R:some c=some 38:=e
     injection R with R
     exact (Ue (D c ZF)).1 R
   have hp:plainAt s K i=a:=by
    unfold plainAt
    rw[A]
    refine VO (λc F=>by have:=(Ue (D c F)).1;simpa using this) λc t0 e=> ?_
    rcases hb with rfl|⟨Q,t',rfl,F⟩
    ·cases e
    ·have H:wescB v Q≠ []:=(by simpa using F)
     obtain ⟨x,J, -⟩:=ZdJ v Q H
     have V:wescL v (Q::t')=38::(x++ [59])++wescL v t':=by
      show wescC v Q++wescL v t'=_
      unfold wescC
      rw[Ze H,J]
     rw[V] at e
     injection e with e _
     subst e
     rfl
   rw[KH hle (by omega) hh,hp,Zdc λc F=>(Ue (D c F)).2.2.2.1]
   have U:(if v=true then spaced a else a)=a:=by
    split
    ·rename_i hv
     exact IE λc F=>⟨(Ue (D c F)).2.2.2.1,((Ue (D c F)).2.2.2.2 hv).2⟩
    ·rfl
   rw[U,IR v s n b (by omega) _ _ r _ (Js (by rw[hd,ZQ])) (by omega) hle,ZQ]
theorem ZaP {v:Bool} {r:List UInt8} (h:s.drop i=wescL v t++r) (A:i<=s.length):contP v s i (i+(wescL v t).length)= .ok t:=by
 rw[ZeT];exact IR v s _ t (YK _) i _ r [] h rfl (Zij h A)
theorem Zit {r:List UInt8} {a:AtP} (K:isQ a.name=true) (h:s.drop k=a.name++([61,34]++(wescL true a.value++(34::r)))) (V:k<=s.length):
 attrP s f k= .ok (⟨[],a.name,a.value,k⟩,k+a.name.length+2+(wescL true a.value).length+1):=by
 have H:=Zld K (c:=61) ⟨by decide,by decide⟩ h;have J:=(G9 K).1;have D:=Js (x:=a.name) h;have A:=UF D;have F:=UF A;have I:=Js (x:=wescL true a.value) F;have l1:=QT D;have l2:=QT A;have X:=QT I;have U:((s.drop (k+a.name.length+1+1)).takeWhile λd=>d !=34 && d !=60)=wescL true a.value:=by
  rw[F];refine VO (x:=wescL true a.value) (r:=34::r) (λd R=> ?_) λc t e=> ?_
  ·have:=ZbX d R;simp[this.1,this.2.2 rfl]
  ·injection e with e _;subst e;rfl
 have Q:=ZaP (v:=true) F (by omega);unfold attrP;dsimp only;rw[H,Ze (by omega),ID D (by decide),Ze (by rw[Ve (t:= [61]) D];simp),ID A (by decide),Ze (by rw[Ve (t:= [34]) A];simp)];have S:(s.drop (k+a.name.length+1)).headD 0=34:=by rw[A];rfl
 rw[S,U,Q];dsimp only;rw[Ze (by omega),Ze (by rw[I];simp),h,Nat.add_sub_cancel_left,List.take_left]
end
section
variable {d k r:Nat} {s t:List UInt8}
def attrAts:List AtP->Nat->List AtP
 | [],_=> []
 |a::t,k=>⟨[],a.name,a.value,k+1⟩::attrAts t (k+(attrW a).length)
theorem Zis (a:AtP):(attrW a).length=1+a.name.length+2+(wescL true a.value).length+1:=by
 unfold attrW;simp only[Zc,Zd,ZM]
theorem Zaz {s:List UInt8} {f:Nat} {nm A:List UInt8}:∀(al done:List AtP) (k:Nat),attrsOk al (done.map AtP.name)=true->s.drop k=attrsW al++A->k<=s.length->
 startAt s f nm k done=startAt s f nm (k+(attrsW al).length) (done++attrAts al k)
 | [],done,k,_,_,_=>by show _=startAt s f nm (k+0) (done++ []);rw[ZX];rfl
 |a::t,done,k,ho,h,hk=>by
  rw[attrsOk] at ho;simp only[ZH,Jt] at ho;obtain ⟨⟨⟨⟨h1,U⟩,I⟩,h4⟩,Y⟩:=ho;obtain ⟨c,n',V⟩:=Zfu I;have X:=I;rw[V] at X;obtain ⟨e1,e2,e3,e4,e5⟩:=Zfw X;have J:s.drop k=32::(a.name++([61,34]++(wescL true a.value++(34::(attrsW t++A))))):=by rw[h];show (attrW a++attrsW t)++A=_;unfold attrW;simp only[ZQ,YD,Yt]
  have H:s.drop k=32::c::(n'++([61,34]++(wescL true a.value++(34::(attrsW t++A))))):=by rw[J,V];rfl
  have K:=UF J;have D:=UF H;have S:=Znu H e4;have hc:=QT J;have Z:=Zit (f:=f) I K (by omega);have F:(done.any λb=>b.name==a.name)=false:=by rw[List.any_eq_false];intro b hb e;have he:b.name=a.name:=(by simpa using e);have:(done.map AtP.name).contains a.name=true:=(by rw[Xk,<-he];exact ZY hb);rw[this] at U;cases U
  rw[U4 s f nm k done hk,S,Ze (by rw[Uw D (Ne.symm e5)];simp),Ze (by rw[Uw D (Ne.symm e3)];simp),Ze (by rw[Uw D (Ne.symm e3)];simp),Ze (by omega),Z];dsimp only;rw[F,Ze (by simp)];have R:k+1+a.name.length+2+(wescL true a.value).length+1=k+(attrW a).length:=by rw[Zis];omega
  have Q:s.drop (k+(attrW a).length)=attrsW t++A:=by refine Js ?_;rw[h];show (attrW a++attrsW t)++A=_;rw[ZQ]
  rw[R,Zaz t _ _ (by rw[ZN];exact Y) Q (Zij (r:=attrsW t++A) (by rw[h];show (attrW a++attrsW t)++A=_;rw[ZQ]) hk)];show _=startAt s f nm (k+(attrW a++attrsW t).length) (done++(⟨[],a.name,a.value,k+1⟩::attrAts t (k+(attrW a).length)));rw[Zc,ZQ,Nat.add_assoc];rfl
theorem Ez:∀(al:List AtP) (c:UInt8) (r:List UInt8),ends c->∃d r',attrsW al++c::r=d::r'/\ends d
 | [],c,r,h=>⟨c,r,rfl,h⟩
 |a::t,c,r,_=>by
  refine ⟨32,_,rfl,?_⟩
  exact ⟨by decide,by decide⟩
theorem Ziu {A:List UInt8} {al:List AtP} (h:s.drop k=attrsW al++A) (D:k<=s.length):k+(attrsW al).length<=s.length:=Zij h D
theorem Zgp {n r:List UInt8} {al:List AtP} (e:Bool) (Q:isQ n=true) (ha:attrsOk al []=true) (h:s.drop k=60::(n++(attrsW al++((if e then [47,62] else [62])++r)))):
 constructP s k= .ok (⟨1,n,attrAts al (k+1+n.length),e,[],k⟩,k+1+n.length+(attrsW al).length+(if e then 2 else 1)):=by
 obtain ⟨c,n',K⟩:=Zfu Q;have Z:=Q;rw[K] at Z;obtain ⟨e1,e2,e3,e4,e5⟩:=Zfw Z;have Y:=(G9 Q).1;have A:s.drop k=60::c::(n'++(attrsW al++((if e then [47,62] else [62])++r))):=by rw[h,K];rfl
 have hk:=QT h;have ht:∃d r',attrsW al++((if e then [47,62] else [62])++r)=d::r'/\ends d:=by
  cases e with
  |true=>exact Ez al 47 _ ⟨by decide,by decide⟩
  |false=>exact Ez al 62 _ ⟨by decide,by decide⟩
 obtain ⟨d,r',hdr,S⟩:=ht;have F:=UF h;have R:=Js (x:=n) F;rw[hdr] at F;have U:=Zld Q S F;have I:k+1+n.length<=s.length:=Zij F (by omega);have V:=Zaz (f:=k) (nm:=n) al [] (k+1+n.length) ha R I;have X:=Js (x:=attrsW al) R;have J:=Ziu R I;have H:startAt s k n (k+1+n.length+(attrsW al).length) (attrAts al (k+1+n.length))= .ok (⟨1,n,attrAts al (k+1+n.length),e,[],k⟩,k+1+n.length+(attrsW al).length+(if e then 2 else 1)):=by
  rw[U4 s k n _ _ J];cases e with
  |true=>have D:s.drop (k+1+n.length+(attrsW al).length)=47::62::r:=X;rw[ID D (by decide),Ze (by rw[Uw D (by decide)];simp),Zi (Ve (t:= [47,62]) D)];rfl
  |false=>have D:s.drop (k+1+n.length+(attrsW al).length)=62::r:=X;rw[ID D (by decide),Zi (Ve (t:= [62]) D)];rfl
 unfold constructP;rw[Ze (by rw[JX A (Ne.symm e1)];simp),Ze (by rw[JX A (Ne.symm e2)];simp),Ze (by rw[JX A (Ne.symm e2)];simp),Ze (by rw[JX A (Ne.symm e2)];simp),Ze (by rw[JX A (Ne.symm e2)];simp),Ze (by rw[JX A (Ne.symm e3)];simp),Zi (Ve (t:= [60]) h)];rw[Gv s k (by omega),U,Ze (by omega),F,Nat.add_sub_cancel_left,List.take_left,V];exact H
theorem ZkJ {n r:List UInt8} (H:isQ n=true) (h:s.drop k=60::47::(n++62::r)):constructP s k= .ok (⟨2,n,[],false,[],k⟩,k+2+n.length+1):=by
 have I:=(G9 H).1;have A:=UF (UF h);have D:=Zld H (c:=62) ⟨by decide,by decide⟩ A;have F:=Js (x:=n) A;unfold constructP;rw[Ze (by rw[JX h (by decide)];simp),Ze (by rw[JX h (by decide)];simp),Ze (by rw[JX h (by decide)];simp),Ze (by rw[JX h (by decide)];simp),Ze (by rw[JX h (by decide)];simp),Zi (Ve (t:= [60,47]) h)];unfold endP;dsimp only;rw[show k+2=k+1+1 from rfl,D,Zi (by omega),ID F (by decide),Zi (Ve (t:= [62]) F),A,Nat.add_sub_cancel_left,List.take_left]
theorem Za0:∀(x r:List UInt8) (k:Nat),(∀d∈x,d≠60)->findIn [60] (x++60::r) k=some (k+x.length)
 | [],r,k,_=>by
  rw[Yt,findIn,Zi (by simp[List.isPrefixOf])]
  rfl
 |c::x,r,k,h=>by
  have D:=h c ZF
  have A:((60:UInt8)==c)=false:=by simpa using Ne.symm D
  rw[YD,findIn,Ze (by simp[List.isPrefixOf,A]),Za0 x r (k+1) λd F=>h d (Zu _ F),Zd]
  congr 1
  omega
theorem Za1:∀(x:List UInt8) (k:Nat),(∀d∈x,d≠60)->findIn [60] x k=none
 | [],k,_=>by rw[findIn,Ze (by simp)]
 |c::x,k,h=>by
  have D:=h c ZF
  have A:((60:UInt8)==c)=false:=by simpa using Ne.symm D
  rw[findIn,Ze (by simp[List.isPrefixOf,A]),Za1 x (k+1) λd F=>h d (Zu _ F)]
theorem Es {r:List UInt8} (S:t≠ []) (h:s.drop k=wescL false t++r) (R:r= []\/∃r',r=60::r') (J:k<=s.length):constructP s k= .ok (dataT t k,k+(wescL false t).length):=by
 have I:∀d∈wescL false t,d≠60:=λd Q=>(ZbX d Q).1;have F:(findAt s k [60]).getD s.length=k+(wescL false t).length:=by
  unfold findAt;rw[h];rcases R with rfl|⟨r',rfl⟩
  ·rw[ZX,Za1 _ _ I];exact (ZhF (by rw[h,ZX]) J).symm
  ·rw[Za0 _ _ _ I];rfl
 have K:=ZaP h J;obtain ⟨c,w,H⟩:∃c w,wescL false t=c::w:=by
  cases hx:wescL false t with
  |nil=>exact absurd (Zgw hx) S
  |cons c w=>exact ⟨c,w,rfl⟩
 have A:(60:UInt8)≠c:=λe=>I c (by rw[H];exact ZF) e.symm;have D:s.drop k=c::(w++r):=by rw[h,H];rfl
 unfold constructP;rw[Ze (by rw[Uw D A];simp),Ze (by rw[Uw D A];simp),Ze (by rw[Uw D A];simp),Ze (by rw[Uw D A];simp),Ze (by rw[Uw D A];simp),Ze (by rw[Uw D A];simp),Ze (by rw[Uw D A];simp)];dsimp only;rw[F,K]
def AtP.bare (a:AtP):AtP:=⟨a.space,a.name,a.value,0⟩
mutual
def Nd.bare:Nd->Nd
 | .mk k s n al ks t _=> .mk k s n (al.map AtP.bare) (Nds.bare ks) t 0
def Nds.bare:List Nd->List Nd
 | []=> []
 |x::t=>x.bare::Nds.bare t
end
theorem IL (n:Nd):n.bare.kind=n.kind:=by cases n;rw[Nd.bare];rfl
theorem Kt:∀(al:List AtP) (seen:List (List UInt8)) (k:Nat),attrsOk al seen=true->(attrAts al k).map AtP.bare=al.map AtP.bare
 | [],_,_,_=>rfl
 |a::t,seen,k,h=>by
  rw[attrsOk] at h
  simp only[ZH] at h
  have A:a.space= []:=by simpa using h.1.1.1.1
  rw[attrAts,Zw,Zw,Kt t _ _ h.2]
  unfold AtP.bare
  rw[A]
def reads (s:List UInt8) (k k':Nat) (L:List Tok):Prop:=∀l,toksAt s k l=toksAt s k' (l++L)
theorem reads.nil (s:List UInt8) (k:Nat):reads s k k []:=λl=>by rw[ZX]
theorem reads.trans {s:List UInt8} {a b c:Nat} {L M:List Tok} (h:reads s a b L) (A:reads s b c M):reads s a c (L++M):=λl=>by rw[h,A,ZQ]
theorem reads.one {s:List UInt8} {k e:Nat} {t:Tok} (A:k<s.length) (h:constructP s k= .ok (t,e)) (D:keeps t):reads s k e [t]:=λl=>by rw[Uv A h,Zi D]
theorem I2 {t:Tok} (h:t.kind≠3):keeps t:=Or.inl h
theorem Ka (h:t≠ []):keeps (dataT t k):=Or.inr h
theorem ZeF {done:List Nd} {a:Nat} (h:∀x,done.getLast? =some x->x.kind≠1):addText done t a=done++ [charD t a]:=by
 unfold addText;split
 ·rename_i s n al kk u b A;exact absurd rfl (h _ A)
 ·rfl
theorem Zbr {n:Nd} (h:nodeOk d n=true):∃r,nodeW n=60::r:=by
 obtain ⟨k,s,nm,al,ks,t,a⟩:=n;rw[nodeOk] at h;simp only[ZH,ZU] at h;rw[nodeW,Ze (by omega)];exact ⟨_,rfl⟩
mutual
theorem Zdk (s:List UInt8):∀(n:Nd) (d k:Nat) (r:List UInt8),nodeOk d n=true->s.drop k=nodeW n++r->
 ∃t L m,reads s k (k+(nodeW n).length) (t::L)/\t.kind=1/\m.bare=n.bare/\∀fin rest,elemAt fin d ((t::L)++rest)= .ok (m,rest)
 | .mk kd sp nm al ks tx at_,d,k,r,ho,h=>by
  rw[nodeOk] at ho
  simp only[ZH,ZU,UC] at ho
  obtain ⟨⟨⟨⟨⟨⟨rfl,hd⟩,rfl⟩,rfl⟩,hq⟩,ha⟩,hks⟩:=ho
  have hbare:=Kt al [] (k+1+nm.length) ha
  rw[nodeW,Ze (by decide)] at h|-
  cases ks with
  |nil=>
   have h':s.drop k=60::(nm++(attrsW al++((if true then [47,62] else [62])++r))):=by
    rw[h]
    simp only[List.isEmpty_nil,J9,ZQ,YD,Yt]
   have hc:=Zgp true hq ha h'
   refine ⟨⟨1,nm,attrAts al (k+1+nm.length),true,[],k⟩,[],.mk 0 [] nm (attrAts al (k+1+nm.length)) [] [] k,?_,rfl,?_,λfin rest=> ?_⟩
   ·have hr:=reads.one (QT h') hc (I2 (by simp))
    have hlen:k+1+nm.length+(attrsW al).length+(if true=true then 2 else 1)=k+([60]++nm++attrsW al++(if ([]:List Nd).isEmpty=true then [47,62] else [62]++nodesW []++ [60,47]++nm++ [62])).length:=by
     simp only[List.isEmpty_nil,J9,Zc,Zd,ZM]
     omega
    rw[hlen] at hr
    exact hr
   ·rw[Nd.bare,Nd.bare,hbare]
   ·rw[YD,IV,Ze (by omega),Zi rfl]
    rfl
  |cons x xs=>
   have h':s.drop k=60::(nm++(attrsW al++((if false then [47,62] else [62])++(nodesW (x::xs)++(60::47::(nm++62::r)))))):=by
    rw[h]
    simp only[List.isEmpty_cons,YV,Vq,ZQ,YD,Yt]
   have hc:=Zgp false hq ha h'
   have h1:s.drop (k+1+nm.length+(attrsW al).length+1)=nodesW (x::xs)++(60::47::(nm++62::r)):=Js (x:= [62]) (Js (x:=attrsW al) (Js (x:=nm) (UF h')))
   obtain ⟨L,ms,hL,hms,hk⟩:=Zda s (x::xs) d false _ _ hks h1
   have h2:=Js (x:=nodesW (x::xs)) h1
   have hce:=ZkJ hq h2
   have r1:=reads.one (QT h') hc (I2 (by simp))
   have r3:=reads.one (QT h2) hce (I2 (by simp))
   refine ⟨⟨1,nm,attrAts al (k+1+nm.length),false,[],k⟩,L++ [⟨2,nm,[],false,[],k+1+nm.length+(attrsW al).length+1+(nodesW (x::xs)).length⟩],.mk 0 [] nm (attrAts al (k+1+nm.length)) ms [] k,?_,rfl,?_,λfin rest=> ?_⟩
   ·have hr:=(r1.trans hL).trans r3
    have hlen:k+1+nm.length+(attrsW al).length+1+(nodesW (x::xs)).length+2+nm.length+1=k+([60]++nm++attrsW al++(if (x::xs).isEmpty=true then [47,62] else [62]++nodesW (x::xs)++ [60,47]++nm++ [62])).length:=by
     simp only[List.isEmpty_cons,YV,Vq,Zc,Zd,ZM]
     omega
    rw[hlen] at hr
    exact hr
   ·rw[Nd.bare,Nd.bare,hbare,hms]
   ·rw[YD,IV,Ze (by omega),Ze (by simp),ZQ,hk fin _ [] _ (λ_ x hx=>by cases hx),Yt,YD,Zbk _ _ _ _ _ _ rfl,Ze (by simp)]
    rfl
theorem Zda (s:List UInt8):∀(ks:List Nd) (d:Nat) (data:Bool) (k:Nat) (r:List UInt8),kidsOk d data ks=true->s.drop k=nodesW ks++60::r->
 ∃L ms,reads s k (k+(nodesW ks).length) L/\Nds.bare ms=Nds.bare ks/\∀fin tok done rest,(data=false->∀x,done.getLast? =some x->x.kind≠1)->kidsAt fin d tok done (L++rest)=kidsAt fin d tok (done++ms) rest
 | [],d,data,k,r,_,_=>⟨[],[],(by rw[nodesW];exact reads.nil s k),rfl,λfin tok done rest _=>by rw[Yt,ZX]⟩
 |x::xs,d,data,k,r,ho,h=>by
  rw[kidsOk,ZH] at ho
  obtain ⟨ho,hxs⟩:=ho
  have h1:s.drop k=nodeW x++(nodesW xs++60::r):=by rw[h,nodesW,ZQ]
  have h2:=Js (x:=nodeW x) h1
  obtain ⟨L2,ms2,hL2,hms2,hk2⟩:=Zda s xs d _ _ _ hxs h2
  have hlen:k+(nodeW x).length+(nodesW xs).length=k+(nodesW (x::xs)).length:=by rw[nodesW,Zc];omega
  rw[hlen] at hL2
  by_cases hx:x.kind=1
  ·rw[Zi hx] at ho
   obtain ⟨kd,sp,nm,al,ks,tx,at_⟩:=x
   simp only[Nd.kind] at hx
   subst hx
   simp only[Nd.space,Nd.name,Nd.attrs,Nd.kids,Nd.text,ZH,Jt,UC,List.isEmpty_eq_false_iff] at ho
   obtain ⟨⟨⟨⟨⟨⟨hdata,htx⟩,hch⟩,rfl⟩,rfl⟩,rfl⟩,rfl⟩:=ho
   rw[nodeW,Zi rfl] at h1 hL2
   have hkl:k<=s.length:=by
    rcases Y6 k s.length with hh|hh
    ·omega
    ·rw[Zs hh] at h
     have:=ZC List.length h
     rw[Zc,Zd,ZM] at this
     omega
   have hne:∃r',nodesW xs++60::r=60::r':=by
    cases xs with
    |nil=>exact ⟨r,by rw[nodesW];rfl⟩
    |cons y ys=>
     rw[kidsOk,ZH] at hxs
     have hy:=hxs.1
     by_cases hyk:y.kind=1
     ·rw[Zi hyk] at hy
      simp[Nd.kind] at hy
     ·rw[Ze hyk] at hy
      obtain ⟨r',hr'⟩:=Zbr hy
      rw[nodesW,hr']
      exact ⟨_,rfl⟩
   have hc:=Es htx h1 (Or.inr hne) hkl
   have hkl2:k<s.length:=by
    cases hw:wescL false tx with
    |nil=>exact absurd (Zgw hw) htx
    |cons c w=>rw[hw] at h1;exact QT h1
   have r1:=reads.one hkl2 hc (Ka htx)
   refine ⟨[dataT tx k]++L2,charD tx k::ms2,r1.trans hL2,?_,λfin tok done rest hdone=> ?_⟩
   ·rw[Nds.bare,Nds.bare,hms2]
    unfold charD
    rw[Nd.bare,Nd.bare]
   ·rw[ZQ,YD,Yt,EW _ _ _ _ _ _ rfl]
    have ha:=ZeF (t:=tx) (a:=k) (hdone hdata)
    show kidsAt fin d tok (addText done tx k) _=_
    rw[ha,hk2 fin tok _ rest (λe=>absurd e (by simp[Nd.kind])),ZQ]
    rfl
  ·rw[Ze hx] at ho
   have hdx:decide (x.kind=1)=false:=by simpa using hx
   obtain ⟨t,L,m,hL,ht,hm,he⟩:=Zdk s x (d+1) k _ ho h1
   refine ⟨(t::L)++L2,m::ms2,hL.trans hL2,?_,λfin tok done rest hdone=> ?_⟩
   ·rw[Nds.bare,Nds.bare,hms2,hm]
   ·rw[ZQ,YD,Zbl _ _ _ _ _ _ ht,<-YD,he]
    dsimp only
    rw[hk2 fin tok _ rest (λ_ y hy=> ?_),ZQ]
    ·rfl
    ·rw[Xr] at hy
     simp only[XO,Option.or] at hy
     injection hy with hy
     rw[<-hy,<-IL,hm,IL]
     exact hx
end
theorem ZjI {b:Bool} (h:nmOk true b r=true):isChar (r:Int)=true:=by
 unfold nmOk nmChar nmStart at h;unfold isChar;rw[ZU];cases b<;>simp only[Xv,ZnP,ZU,JQ,J9,YV,Vq] at h<;>omega
theorem Zie:∀(f:Nat) (first:Bool) (l:List UInt8),nmGo true f first l=l.length->isText l
 |0,first,l,h=>by
  have:l= []:=Zr (by rw[<-h];rfl)
  rw[this];exact Jq
 |f+1,first,l,h=>by
  by_cases F:l= []
  ·rw[F];exact Jq
  ·have H:0<l.length:=XE.2 F
   have A:(dec l).2≠0/\nmOk true first (dec l).1=true:=by
    by_cases D:l= []\/(dec l).2=0\/nmOk true first (dec l).1=false
    ·rw[X7 D] at h
     omega
    ·refine ⟨λe=>D (Or.inr (Or.inl e)),?_⟩
     cases hk:nmOk true first (dec l).1 with
     |true=>rfl
     |false=>exact absurd (Or.inr (Or.inr hk)) D
   have I:=JW l
   rw[Ua A.1 A.2] at h
   have D:=Gh (l:=l) (r:=(dec l).1) (m:=(dec l).2) rfl A.1
   rw[D]
   exact YU (UX (ZjI A.2)) (Zie f false _ (by rw[Zj];omega))
theorem Zfx {l:List UInt8} (h:isQ l=true):isText l:=Zie _ _ _ (G9 h).2
theorem XY:∀l:List UInt8,(∀c∈l,c.toNat<128/\isChar (c.toNat:Int)=true)->isText l
 | [],_=>Jq
 |c::t,h=>by
  have D:=h c ZF
  have A:=UX D.2
  rw[JJ D.1,KC] at A
  exact YU (l:= [c]) A (XY t λd F=>h d (Zu _ F))
theorem ZhV (v:Bool) (c:UInt8):isText (wescB v c):=by
 unfold wescB
 repeat' split
 all_goals exact XY _ (by decide)
theorem ZdK (v:Bool) {l:List UInt8} (h:isText l):isText (wescL v l):=by
 obtain ⟨rs,H,rfl⟩:=h
 induction rs with
 |nil=>exact Jq
 |cons r rs ih=>
  have F:=H r ZF;rw[List.flatMap_cons,ZbV];refine YU ?_ (ih λx K=>H x (Zu _ K));have J:=Vr F;rcases Y6 r 128 with D|D
  ·rw[JJ D];show isText (wescC v (UInt8.ofNat r)++ []);rw[ZX];unfold wescC;split
   ·rw[<-JJ D];exact UX F
   ·exact ZhV v _
  ·rw[Kl λc I=> ?_]
   ·exact UX F
   ·have Q:=ZcJ J D c I;have A:∀d:UInt8,d.toNat<128->c≠d:=λd R e=>(by subst e;omega);unfold wescB;rw[Ze (A 38 (by decide)),Ze (A 60 (by decide)),Ze (A 62 (by decide)),Ze (A 13 (by decide)),Ze (A 34 (by decide)),Ze (A 9 (by decide)),Ze (A 10 (by decide))];split<;>rfl
theorem KD {l:List UInt8} (h:charsOk l=true):isText l:=(ZcA l).1 (by unfold charsOk at h;simpa using h)
theorem ZaA:∀(al:List AtP) (seen:List (List UInt8)),attrsOk al seen=true->isText (attrsW al)
 | [],_,_=>Jq
 |a::t,seen,h=>by
  rw[attrsOk] at h
  simp only[ZH] at h
  rw[attrsW]
  unfold attrW
  refine YU (YU (YU (YU (YU ?_ (Zfx h.1.1.2)) ?_) (ZdK true (KD h.1.2))) ?_) (ZaA t _ h.2)
  all_goals exact XY _ (by decide)
mutual
theorem Zdl:∀(n:Nd) (d:Nat),nodeOk d n=true->isText (nodeW n)
 | .mk kd sp nm al ks tx at_,d,h=>by
  rw[nodeOk] at h
  simp only[ZH,ZU] at h
  have ha:=ZaA al [] h.1.2
  have hq:=Zfx h.1.1.2
  have hk:=Zdb ks d false h.2
  rw[nodeW,Ze (by omega)]
  refine YU (YU (YU (XY _ (by decide)) hq) ha) ?_
  split
  ·exact XY _ (by decide)
  ·exact YU (YU (YU (YU (XY _ (by decide)) hk) (XY _ (by decide))) hq) (XY _ (by decide))
theorem Zdb:∀(ks:List Nd) (d:Nat) (data:Bool),kidsOk d data ks=true->isText (nodesW ks)
 | [],_,_,_=>Jq
 |x::xs,d,data,h=>by
  rw[kidsOk,ZH] at h
  have h2:=Zdb xs d _ h.2
  rw[nodesW]
  refine YU ?_ h2
  have h1:=h.1
  by_cases hx:x.kind=1
  ·rw[Zi hx] at h1
   simp only[ZH] at h1
   have hc:=h1.1.1.1.1.2
   obtain ⟨kd,sp,nm,al,ks,tx,at_⟩:=x
   simp only[Nd.kind] at hx
   rw[nodeW,Zi hx]
   exact ZdK false (KD hc)
  ·rw[Ze hx] at h1
   exact Zdl x _ h1
end
theorem ZiI (n:Nd) (h:nodeOk 1 n=true):∃m,docP (docW n)= .ok m/\m.bare=n.bare:=by
 obtain ⟨s,X⟩:∃s,docW n=s:=⟨_,rfl⟩;have Q:isText s:=by rw[<-X];unfold docW;exact YU (YU (XY _ (by decide)) (Zdl n 1 h)) (XY _ (by decide))
 obtain ⟨nr,V⟩:=Zbr h;have F:s.drop 0=headW++(nodeW n++ [10]):=by rw[<-X];unfold docW;rw[ZQ];rfl
 have A:s.drop 38=10::(nodeW n++ [10]):=Js (x:=headW.take 38) F;have H:=UF A;have I:=Js (x:=nodeW n) H;have U:=QT (r:= []) I;have K:=ZhF (x:= [10]) I (by omega);have R:=QT A;have c0:constructP s 0= .ok (dataT [] 0,38):=by
  have Y:skipP s 0 2 [63,62]= .ok 38:=by unfold skipP findAt;have S:s.drop (0+2)=headW.drop 2++(nodeW n++ [10]):=Js (x:=headW.take 2) F;rw[S];rfl
  unfold constructP;rw[Zi (Ve (t:= [60,63]) F),Y]
 have c1:constructP s 38= .ok (dataT [10] 38,39):=Es (t:= [10]) (by simp) A (Or.inr ⟨nr++ [10],by rw[V];rfl⟩) (by omega);obtain ⟨t,L,m,Z,ht,hm,he⟩:=Zdk s n 1 39 [10] h H;have c3:constructP s (39+(nodeW n).length)= .ok (dataT [10] (39+(nodeW n).length),39+(nodeW n).length+1):=Es (t:= [10]) (r:= []) (by simp) I (Or.inl rfl) (by omega);have J:toksP s= .ok (dataT [10] 38::((t::L)++ [dataT [10] (39+(nodeW n).length)])):=by
  rw[IF,Ze (by rw[(ZcA s).2 Q];simp),Uw (c:=60) (d:=239) F (by decide),Ze (by simp),Uv (by omega) c0,Ze (by unfold keeps dataT;simp),
   (reads.one R c1 (Ka (by simp))) [],Z,(reads.one U c3 (Ka (by simp))),Qm (by rw[VB] at K;omega)]
  simp
 refine ⟨m,?_,hm⟩;rw[X,Gi,J];dsimp only;have hb:blankL [10]=true:=by decide
 have D:∀(fin k:Nat) (found:Option Nd) (r:List Tok),docAt fin found (dataT [10] k::r)=docAt fin found r:=λfin k found r=>by rw[G3,Ze (by unfold dataT;simp),Ze (by unfold dataT;simp),Zi (show (dataT [10] k).kind=3 from rfl),Ze (by show ¬blankL [10]=false;rw[hb];simp)]
 rw[D,YD,G3,Ze (by simp),Ze (by omega),Ze (by omega),<-YD,he];dsimp only;rw[D,ZcI]
end
section
variable {sc:Scope}
theorem ZfT:∀(f:Nat) (first:Bool) (l:List UInt8),nmGo false f first l=l.length->∀c∈l,c≠58
 |0,first,l,h,c,hc=>by
  have:l= []:=Zr (by rw[<-h];rfl)
  rw[this] at hc;cases hc
 |f+1,first,l,h,c,hc=>by
  have S:l≠ []:=λe=>by rw[e] at hc;cases hc
  have K:0<l.length:=XE.2 S
  have A:(dec l).2≠0/\nmOk false first (dec l).1=true:=by
   by_cases F:l= []\/(dec l).2=0\/nmOk false first (dec l).1=false
   ·rw[X7 F] at h
    omega
   ·refine ⟨λe=>F (Or.inr (Or.inl e)),?_⟩
    cases hk:nmOk false first (dec l).1 with
    |true=>rfl
    |false=>exact absurd (Or.inr (Or.inr hk)) F
  have R:=JW l
  rw[Ua A.1 A.2] at h
  have F:=Gh (l:=l) (r:=(dec l).1) (m:=(dec l).2) rfl A.1
  have I:=(ZdU [] A.1).2.1
  rw[F] at hc
  rcases Zx.1 hc with D|D
  ·rcases Y6 (dec l).1 128 with H|H
   ·rw[JJ H,Zo] at D
    intro e
    rw[D] at e
    have Q:(dec l).1=58:=by
     have:=ZC UInt8.toNat e
     rw[Y7 (by omega)] at this
     exact this
    have J:=A.2
    rw[Q] at J
    cases first<;>revert J<;>decide
   ·have:=ZcJ I H c D
    intro e
    rw[e] at this
    exact absurd this (by decide)
  ·exact ZfT f false _ (by rw[Zj];omega) c D
theorem Vp {l:List UInt8} (h:isNm l=true):splitL l=some ([],l):=by
 have A:0<l.length/\nmLen false l=l.length:=by unfold isNm at h;simpa using h
 have D:=ZfT _ _ _ A.2;have H:(l.takeWhile λc=>c !=58)=l:=by
  have:=VO (p:=λc=>c !=58) (x:=l) (r:= []) (λd F=>by have:=D d F;simpa using this) (λc t e=>by cases e)
  rwa [ZX] at this
 unfold splitL;dsimp only;rw[H,Ze (by omega),h];rfl
theorem ZaQ {l:List UInt8} (h:isNm l=true) (A:l≠xmlnsL):declL l=none:=by
 unfold declL;rw[Vp h];dsimp only;rw[Ze (λe=>A e.2),Ze (by decide)]
def plainAs (al:List AtP):Bool:=al.all λa=>isNm a.name && a.name !=xmlnsL
mutual
def Nd.plain:Nd->Bool
 | .mk k _ n al ks _ _=>k !=0||(isNm n && n !=xmlnsL && plainAs al && Nds.plain ks)
def Nds.plain:List Nd->Bool
 | []=>true
 |x::t=>x.plain && Nds.plain t
end
mutual
def Nd.inNs (ns:List UInt8):Nd->Nd
 | .mk k s n al ks t a=>if k=0 then .mk 0 ns n al (Nds.inNs ns ks) [] a else .mk k s n al ks t a
def Nds.inNs (ns:List UInt8):List Nd->List Nd
 | []=> []
 |x::t=>x.inNs ns::Nds.inNs ns t
end
theorem EH (sc:Scope):∀al:List AtP,plainAs al=true->declsGo al sc= .ok sc
 | [],_=>rfl
 |a::t,h=>by
  unfold plainAs at h
  rw[Zcr,ZH,ZH] at h
  obtain ⟨⟨D,F⟩,H⟩:=h
  have A:a.name≠xmlnsL:=by simpa using F
  rw[declsGo,Vp D,Ze (by simp),ZaQ D A]
  exact EH sc t H
def AtP.noSp (a:AtP):AtP:=⟨[],a.name,a.value,a.at_⟩
theorem EG (sc:Scope):∀(al out:List AtP),plainAs al=true->attrsOk al (out.map AtP.name)=true->attrsGo sc al out= .ok (out++al.map AtP.noSp)
 | [],out,_,_=>by rw[attrsGo,Yc,ZX]
 |a::t,out,h,ho=>by
  unfold plainAs at h
  rw[Zcr,ZH,ZH] at h
  obtain ⟨⟨F,H⟩,I⟩:=h
  have D:a.name≠xmlnsL:=by simpa using H
  rw[attrsOk] at ho
  simp only[ZH,Jt] at ho
  have A:(out.any λb=>b.space== [] && b.name==a.name)=false:=by
   rw[List.any_eq_false]
   intro b J e
   have K:b.name=a.name:=by
    rw[ZH] at e
    simpa using e.2
   have:(out.map AtP.name).contains a.name=true:=by
    rw[Xk,<-K]
    exact ZY J
   rw[this] at ho
   cases ho.1.1.1.2
  have ih:=EG sc t (out++ [a.noSp]) I (by rw[ZN];exact ho.2)
  rw[attrsGo,ZaQ F D,Ze (by simp),Vp F]
  dsimp only[Option.getD]
  rw[Zi rfl]
  dsimp only
  rw[A,Ze (by simp)]
  show attrsGo sc t (out++ [a.noSp])=_
  rw[ih,Zw,ZQ]
  rfl
theorem Zdj:∀(al:List AtP) (seen:List (List UInt8)),attrsOk al seen=true->(al.map AtP.noSp).map AtP.bare=al.map AtP.bare
 | [],_,_=>rfl
 |a::t,seen,h=>by
  rw[attrsOk] at h
  simp only[ZH] at h
  have A:a.space= []:=by simpa using h.1.1.1.1
  rw[Zw,Zw,Zw,Zdj t _ h.2]
  unfold AtP.noSp AtP.bare
  rw[A]
theorem Zha {n:Nd} {ns:List UInt8} (A:lookL sc []=some ns) (D:isNm n.name=true) (H:n.name≠xmlnsL) (h:plainAs n.attrs=true) (F:attrsOk n.attrs []=true):
 headP n sc= .ok (ns,n.name,n.attrs.map AtP.noSp,sc):=by
 unfold headP;rw[Vp D];dsimp only;rw[Ze (by decide),EH sc _ h];dsimp only;rw[A];dsimp only;rw[EG sc _ [] h F];rfl
mutual
theorem Zdy {sc:Scope} {ns:List UInt8} (hl:lookL sc []=some ns):∀(n:Nd) (d:Nat),nodeOk d n=true->n.plain=true->∃m,resP n sc= .ok m/\m.bare=n.bare.inNs ns
 | .mk k s nm al ks t a,d,ho,hp=>by
  rw[nodeOk] at ho
  simp only[ZH,ZU,UC] at ho
  obtain ⟨⟨⟨⟨⟨⟨rfl,hd⟩,rfl⟩,rfl⟩,hq⟩,ha⟩,hks⟩:=ho
  rw[Nd.plain] at hp
  simp only[bne_self_eq_false,Bool.false_or,ZH] at hp
  obtain ⟨⟨⟨hn,hx⟩,hal⟩,hkp⟩:=hp
  obtain ⟨ms,h1,h2⟩:=GJ hl ks d false hks hkp
  have hh:=Zha (n:= .mk 0 [] nm al ks [] a) hl hn (by simpa [Nd.name] using hx) hal ha
  refine ⟨.mk 0 ns nm (al.map AtP.noSp) ms [] a,?_,?_⟩
  ·rw[resP,hh]
   dsimp only
   rw[h1]
   rfl
  ·rw[Nd.bare,Nd.bare,Nd.inNs,Zi rfl,h2,Zdj al [] ha]
theorem GJ {sc:Scope} {ns:List UInt8} (hl:lookL sc []=some ns):∀(ks:List Nd) (d:Nat) (data:Bool),kidsOk d data ks=true->Nds.plain ks=true->∃ms,resKids ks sc= .ok ms/\Nds.bare ms=Nds.inNs ns (Nds.bare ks)
 | [],d,data,_,_=>⟨[],rfl,rfl⟩
 |x::xs,d,data,ho,hp=>by
  rw[kidsOk,ZH] at ho
  rw[Nds.plain,ZH] at hp
  obtain ⟨ms,h1,h2⟩:=GJ hl xs d _ ho.2 hp.2
  by_cases hx:x.kind=1
  ·refine ⟨x::ms,?_,?_⟩
   ·rw[resKids,Ze (by omega)]
    dsimp only
    rw[h1]
   ·rw[Nds.bare,Nds.bare,Nds.inNs,h2]
    obtain ⟨k,s,n,al,ks,t,a⟩:=x
    simp only[Nd.kind] at hx
    subst hx
    rw[Nd.bare,Nd.inNs,Ze (by decide)]
  ·have ho1:=ho.1
   rw[Ze hx] at ho1
   obtain ⟨m,h3,h4⟩:=Zdy hl x (d+1) ho1 hp.1
   have hk:x.kind=0:=by
    obtain ⟨k,s,n,al,ks,t,a⟩:=x
    rw[nodeOk] at ho1
    simp only[ZH,ZU] at ho1
    exact ho1.1.1.1.1.1.1
   refine ⟨m::ms,?_,?_⟩
   ·rw[resKids,Zi hk,h3]
    dsimp only
    rw[h1]
   ·rw[Nds.bare,Nds.bare,Nds.inNs,h2,h4]
end
theorem Kv:∀(al:List AtP) (seen:List (List UInt8)),attrsOk (al.map AtP.bare) seen=attrsOk al seen
 | [],_=>rfl
 |a::t,seen=>by
  rw[Zw,attrsOk,attrsOk,Kv t]
  rfl
theorem Zei (al:List AtP):plainAs (al.map AtP.bare)=plainAs al:=by
 unfold plainAs;rw[List.all_map];rfl
mutual
theorem Vj:∀(n:Nd) (d:Nat),nodeOk d n.bare=nodeOk d n
 | .mk k s nm al ks t a,d=>by rw[Nd.bare,nodeOk,nodeOk,Kv,EX ks]
theorem EX:∀(ks:List Nd) (d:Nat) (data:Bool),kidsOk d data (Nds.bare ks)=kidsOk d data ks
 | [],d,data=>by rw[Nds.bare]
 |x::xs,d,data=>by
  rw[Nds.bare,kidsOk,kidsOk,EX xs,IL,Vj x]
  obtain ⟨k,s,nm,al,ks,t,a⟩:=x
  rw[Nd.bare]
  have h1:(al.map AtP.bare).isEmpty=al.isEmpty:=by cases al<;>rfl
  have h2:(Nds.bare ks).isEmpty=ks.isEmpty:=by cases ks<;>simp[Nds.bare]
  simp only[Nd.kind,Nd.text,Nd.space,Nd.name,Nd.attrs,Nd.kids,h1,h2]
  rfl
end
mutual
theorem Ke:∀n:Nd,n.bare.plain=n.plain
 | .mk k s nm al ks t a=>by rw[Nd.bare,Nd.plain,Nd.plain,Zei,E1 ks]
theorem E1:∀ks:List Nd,Nds.plain (Nds.bare ks)=Nds.plain ks
 | []=>by rw[Nds.bare]
 |x::xs=>by rw[Nds.bare,Nds.plain,Nds.plain,Ke x,E1 xs]
end
mutual
theorem Zfr:∀(n:Nd) (d:Nat),nodeOk d n=true->n.inNs []=n
 | .mk k s nm al ks t a,d,h=>by
  rw[nodeOk] at h
  simp only[ZH,ZU,UC] at h
  obtain ⟨⟨⟨⟨⟨⟨rfl,hd⟩,rfl⟩,rfl⟩,hq⟩,ha⟩,hks⟩:=h
  rw[Nd.inNs,Zi rfl,Zc7 ks d false hks]
theorem Zc7:∀(ks:List Nd) (d:Nat) (data:Bool),kidsOk d data ks=true->Nds.inNs [] ks=ks
 | [],d,data,_=>by rw[Nds.inNs]
 |x::xs,d,data,h=>by
  rw[kidsOk,ZH] at h
  rw[Nds.inNs,Zc7 xs d _ h.2]
  by_cases hx:x.kind=1
  ·obtain ⟨k,s,nm,al,ks,t,a⟩:=x
   simp only[Nd.kind] at hx
   subst hx
   rw[Nd.inNs,Ze (by decide)]
  ·have h1:=h.1
   rw[Ze hx] at h1
   rw[Zfr x _ h1]
end
theorem ZeZ (n:Nd) (h:nodeOk 1 n=true) (K:n.plain=true):∃m r,docP (docW n)= .ok m/\resP m []= .ok r/\r.bare=n.bare:=by
 obtain ⟨m,F,A⟩:=ZiI n h;have J:nodeOk 1 m=true:=by rw[<-Vj,A,Vj];exact h
 have D:m.plain=true:=by rw[<-Ke,A,Ke];exact K
 obtain ⟨r,H,I⟩:=Zdy (sc:= []) (ns:= []) (by decide) m 1 J D;refine ⟨m,r,F,H,?_⟩;rw[I,A,Zfr n.bare 1 (by rw[Vj];exact h)]
end
end Go.Proofs.YtnlafkgkcnenfaaGreatDoor
