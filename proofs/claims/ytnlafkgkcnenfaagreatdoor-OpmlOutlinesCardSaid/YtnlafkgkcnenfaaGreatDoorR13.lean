/- Parts of the proof: contracts and plain laws. -/
import Derived.Test.YtnlafkgkcnenfaaGreatDoorR12
namespace Go.Proofs.YtnlafkgkcnenfaaGreatDoor
open Go Go.RowKit Tryz
set_option linter.unusedVariables false
set_option linter.unusedSimpArgs false
set_option maxRecDepth 100000
set_option maxHeartbeats 16000000
section
variable {c j:Nat} {w:World}
theorem Zh7:prog.underlying 52=some (.slice (prog.elem 52)):=by kernel_rfl
theorem Zjx (w:Wq):(Go.sizeOf (prog.elem 52)).run prog w= .ok 1 w:=by kernel_rfl
theorem Zlu {A:Option Addr} {l:List ByteArray} (n:Nat) (h:RStrs w (.slice A l.length c) l) (Z:n<=l.length):
 ∃J c2,(∀F:Wq,(Instr.slice 52 (.slice A l.length c) (some (nI (n:Int))) none none).run prog F= .ok (.slice J (l.length - n) c2) F)/\RStrs w (.slice J (l.length - n) c2) (l.drop n):=by
 obtain ⟨V,S,U,e,X,K,M,Q⟩:=h;injection e with e1 e2 e3;subst e1 e3;clear e2;have D:(l.drop n).length=l.length - n:=Zm;refine ⟨if c=n then A else A.map (·.add (n*1)),c - n,λF=> ?_,?_⟩
 ·rw[run_slice_l (P:=prog) (w:=F) 52 A l.length c Zh7 .i64 (n:Int) (by omega) (by omega),Zjx];rfl
 ·unfold RStrs;rw[D];refine ⟨by rw[Zk,D,Nat.mul_one],_,_,rfl,by omega,Zv (Jk _ _) K,λe=> ?_,λj u I=> ?_⟩
  ·by_cases H:c=n
   ·omega
   ·rw[Zg H] at e;have:=M (by cases A with|none=>rfl|some _=>cases e);omega
  ·rw[List.map_drop,List.getElem?_drop] at I;obtain ⟨ad,R,H⟩:=Q (n+j) u I;subst R;have Y:n+j<l.length:=(by have:=(ZN.1 I).1;rwa [Zk] at this);refine ⟨ad.add n,by rw[Zg (by omega),Nat.mul_one];rfl,?_⟩;rw[UH];exact H
def pairS (ps:List (List UInt8×List UInt8)):List ByteArray:=(ps.map λp=> [str p.1,str p.2]).flatten
theorem ZbU (ps:List (List UInt8×List UInt8)):(pairS ps).length=2*ps.length:=by
 induction ps with
 |nil=>rfl
 |cons p t ih=>have e:pairS (p::t)=str p.1::str p.2::pairS t:=rfl;rw[e,Ze,Ze,Ze,ih];omega
theorem ZfY {ps:List (List UInt8×List UInt8)} (h:j<ps.length):pairS (ps.drop j)=str ps[j].1::str ps[j].2::pairS (ps.drop (j+1)):=by
 rw[Zi h];rfl
theorem Q6 (l:List AtP):(flatA l).length=l.length*4:=by
 induction l with
 |nil=>rfl
 |cons x t ih=>
  have e:flatA (x::t)=cellsA x++flatA t:=by unfold flatA;simp
  rw[e,Zd,ih,Ze];show 4+_=_;omega
def slLen:Value->Nat
 | .slice _ n _=>n
 |_=>0
theorem ZiV (m:Nat):Int.tdiv ((2*m:Nat):Int) 2=(m:Int):=by
 rw[Int.tdiv_eq_ediv_of_nonneg (by omega)];omega
theorem ZeP (k:Nat) (s n:List UInt8) (al ks:Value) (l0:List AtP) (m2 d:Nat) (B0:Option Addr) (t:List UInt8) (a:Nat) (v:Value) (ps:List (List UInt8×List UInt8)) (w:Wq) (ha:RAts w al l0) (gj:ks= .slice B0 m2 d) (hv:RStrs w v (pairS ps)) (hn:l0.length+ps.length<=1000000):
 Calls prog 46 #[.agg #[nI (k:Nat),.string (str s),.string (str n),al,ks,.string (str t),nI (a:Nat)],v] w λe w'=>
  ∃al',e= .returned (.agg #[nI (k:Nat),.string (str s),.string (str n),al',ks,.string (str t),nI (a:Nat)])/\w'.ownsRow w.heap.size 88 4 al' (l0.length+ps.length) (flatA (l0++ps.map pairA))/\Ext w w':=by
 obtain ⟨i0,hO,hV,hW,hX⟩:=Yw Zcp;obtain ⟨A,c,gh, -, -⟩:=ha.form;subst gh;subst gj;obtain ⟨D,dc,gp, -, -⟩:=RStrs.form hv;have hQ:=ZbU ps;subst gp;obtain ⟨q,hq⟩:∃q,(pairS ps).length=q:=⟨_,rfl⟩;have gn:(prog.info? 88).map (λi=>i.size)=some 4:=by kernel_rfl
 obtain ⟨W1,hd⟩:∃W1,(w.alloc (.cells #[nI (k:Nat),.string (str s),.string (str n),.slice A l0.length c,.slice B0 m2 d,.string (str t),nI (a:Nat)] 25)).alloc (.cells #[nI 0,eS,eS,sN,sN,eS,nI 0] 25)=W1:=⟨_,rfl⟩;have hT:Ext w W1:=by rw[<-hd];exact ((Ext.refl w).alloc _).alloc _
 have hw:BxN W1 w.heap.size k s n (.slice A l0.length c) (.slice B0 m2 d) t a:=by rw[<-hd];exact (JP _ _ (by rw[Zt];omega)).trans (Zf w _)
 have hZ:W1.heap[w.heap.size+1]? =some (.cells #[nI 0,eS,eS,sN,sN,eS,nI 0] 25 (0,0)):=by rw[<-hd];exact YD w _ _
 have hR:W1.heap.size=w.heap.size+2:=by rw[<-hd,Zt,Zt]
 obtain ⟨b0,b1,b2,b3,b4,b5,b6⟩:=hw.cells;have hs:=gd hT;have hF:=gd hw;have gg:=gd hZ;have hr:=gd hR;have HA:=gd ha;have HV:=gd hv;have HN:=gd hn;have hy:q=2*ps.length:=by rw[<-hq,hQ]
 have HQ:=gd hq;have gw:=gd hy;rw[hq];have gr:Int.tdiv ((q:Nat):Int) 2=(ps.length:Int):=by rw[hy];exact ZiV _
 clear hT hw hZ hR ha hv hq hy hQ;go_enter func46,ntmps46;have hP:l0.length+ps.length<=1000000:=HN.out
 go_wp2_with (first|(refine Em W1 rfl (.tmp 8) (.tmp 15) 22 rfl 88 i0 _ 4 underlying22 hO hV hW .i64 .i64 _ _ l0.length (l0.length+ps.length) rfl rfl rfl (Int.natCast_add _ _).symm (Nat.le_add_right _ _) (by rw[hX];omega) (by unfold maxLen;omega) ?_;(obtain ⟨zc,hD⟩:∃zc,madeCells (Value.cells (.agg #[eS,eS,eS,nI 0])) ((l0.length+ps.length)*4)=zc:=⟨_,rfl⟩);rw[hD];(have hE:zc.size=(l0.length+ps.length)*4:=by rw[<-hD];exact size_madeCells _ _);(obtain ⟨W2,he⟩:∃W2,W1.alloc (.cells zc 88)=W2:=⟨_,rfl⟩);rw[he];(have hl:Ext W1 W2:=by rw[<-he];exact (Ext.refl _).alloc _);(have Z:W2.heap[W1.heap.size]? =some (.cells zc 88 (0,0)):=by rw[<-he];exact Zf W1 _);obtain ⟨d0,d1,d2,d3,d4,d5,d6⟩:=(hF.out.ext hl).cells;clear b0 b1 b2 b3 b4 b5 b6 he hD)|(refine IG rfl (.tmp 17) (.tmp 19) _ _ rfl 88 4 underlying22 gn W1.heap.size l0.length (l0.length+ps.length) l0.length A l0.length c rfl rfl zc 88 Z (flatA l0) (Nat.min_self _).symm (Q6 l0) (λj u hu=>RSl.at1' (HA.out.ext (hs.out.trans hl)) j u hu) (by rw[Q6,hE];omega) (Zfo l0) ?_))
 have R:(W2.setRow W1.heap.size (flatA l0++zc.toList.drop (flatA l0).length).toArray).ownsRow W1.heap.size 88 4 (.slice (some ⟨W1.heap.size,0,none⟩) l0.length (l0.length+ps.length)) l0.length (flatA l0):=
  ZcC (Zp _ _ _ _ _ _ Z) (Zb _) (Q6 l0) (Nat.le_add_right _ _) (by unfold maxLen;omega) (by have h1:zc.toList.length=zc.size:=rfl;rw[Zd,Zm,Q6,h1,hE];omega)
 have hc:Ext W1 (W2.setRow W1.heap.size (flatA l0++zc.toList.drop (flatA l0).length).toArray):=hl.setRow (Zb _) _;obtain ⟨W3,hJ⟩:∃W3,W2.setRow W1.heap.size (flatA l0++zc.toList.drop (flatA l0).length).toArray=W3:=⟨_,rfl⟩;rw[hJ] at R hc|-;clear hJ hl Z hE d0 d1 d2 d3 d4 d5 d6 hP;have h5:=gd R;have gb:=gd hc;clear R hc;go_wp2;go_simp;have gl:q=(pairS (ps.drop 0)).length:=HQ.out.symm;go_loopw [1,5] (λv u wr=>∃(j:Nat),j<=ps.length/\RStrs W1 v (pairS (ps.drop j))/\wr.ownsRow W1.heap.size 88 4 u (l0.length+j) (flatA (l0++(ps.take j).map pairA))/\Ext W1 wr) (λv _ _=>slLen v)
 case atStart=>exact ⟨0,Zh _,(by have h:=HV.out.ext hs.out;rw[HQ.out] at h;exact h),(by rw[List.take_zero,Yt,Ye];exact h5.out),gb.out⟩
 case round=>
  obtain ⟨j,hj,U,F,hx⟩:=hrel;obtain ⟨D1,c1,rfl, -, -⟩:=RStrs.form U;obtain ⟨G,gc,rfl⟩:=Z8 F;have J:=ZbU (ps.drop j);rw[Zm] at J;by_cases hi:j<ps.length
  ·obtain ⟨D2,c2,hA,X⟩:=Zlu 2 U (by omega);have hk:=ZfY hi;obtain ⟨ad,hL,H⟩:=RSl.at1' U 0 (.string (str ps[j].1)) (by rw[hk];rfl);obtain ⟨gx,V,Q⟩:=RSl.at1' U 1 (.string (str ps[j].2)) (by rw[hk];rfl);rw[hL] at V;injection V with V;subst V;subst hL;rw[add_zero] at H;rw[show ad.add 1=⟨ad.block,ad.off+1,none⟩ from Zg (by omega)] at Q;have h3:ad.block<W1.heap.size:=ZQ W1 _ H;have H:=hx.cell H;have Q:=hx.cell Q;have hdr:(pairS (ps.drop j)).drop 2=pairS (ps.drop (j+1)):=(by rw[hk];rfl);rw[hdr] at X;obtain ⟨rl,gm⟩:∃rl,(pairS (ps.drop j)).length=rl:=⟨_,rfl⟩;rw[gm] at hA X J|-;have gz:(1:Int)<(rl:Int):=(by omega);have gy:(0:Int)<(rl:Int):=(by omega);have gs:¬rl=0:=(by omega);have gt:∀wx:Wq,(Instr.slice 52 (.slice (some ad) rl c1) (some (nI 2)) none none).run prog wx= .ok (.slice D2 (rl - 2) c2) wx:=hA;have hB:(ps.take (j+1)).map pairA=(ps.take j).map pairA++ [pairA ps[j]]:=(by rw[Zq hi,ZK];rfl);obtain ⟨p,hp⟩:∃p,ps[j]=p:=⟨_,rfl⟩;rw[hp] at H Q hB;have h8:=gd J;clear J;have ga:=gd hB;have h9:=gd X;have hm:=gd F;have ht:=gd hx;have ho:Hid ((Value.slice G (l0.length+j) gc).ownBlock≠some ad.block):=gd (λe=>by
    have h1:=(hm.out.lt _ e).1;omega)
   clear h3;have hP:l0.length+ps.length<=1000000:=HN.out;clear U X hA hk hdr hB hp F hx gl;go_wp2;refine rN ?_;change wpAny _ _ _ _ _ _ _ (World.drew _);have hC:=(Ext.refl wr).drew;have I:wr.drew.cell? ad=some (.string (str p.1))/\wr.drew.cell? ⟨ad.block,ad.off+1,none⟩=some (.string (str p.2)):=⟨hC.cell H,hC.cell Q⟩;refine Yi (λw'=>w'.cell? ad=some (.string (str p.1))/\w'.cell? ⟨ad.block,ad.off+1,none⟩=some (.string (str p.2))) ?_;refine tG 0 (.slice G (l0.length+j) gc) I ?_;refine tG 1 (.slice (some ad) rl c1) I ?_;refine tG 2 (.pointer (some ad)) I ?_;refine tS 3 (.string (str p.1)) rfl (λw' hS=>by have q1:=hS.1;go_simp) I ?_;refine tG 4 (.slice (some ad) rl c1) I ?_;refine tG 5 (.pointer (some (ad.add 1))) I ?_;refine tS 6 (.string (str p.2)) rfl (λw' hS=>by have q1:=hS.2;go_simp) I ?_;refine tG 7 (.agg #[eS,.string (str p.1),.string (str p.2),nI 0]) I ?_;go_simp;refine sS 8 λK hK=> ?_;go_simp;have M:=hC.alloc (.cells #[eS,.string (str p.1),.string (str p.2),nI 0] 88);refine hK _ _ ⟨M.cell H,M.cell Q⟩ ?_;clear hK K;have hG:Hid (RSl (wr.drew.alloc (.cells #[eS,.string (str p.1),.string (str p.2),nI 0] 88)) 4 (.slice (some ⟨wr.heap.size,0,none⟩) 1 1) 1 (cellsA (pairA p))):=gd (Yp (w:=wr.drew) (n:=1) (cs:=cellsA (pairA p)) rfl (by decide));have hH:=gd (Yh hm.out M);refine sS 9 λK hK=> ?_;refine ZU _ (by rfl) (.tmp 26) (.tmp 34) _ (by rfl) W1.heap.size 88 i0 _ 4 56 underlying22 hO hV hW hX rfl (by decide) _ (l0.length+j) (flatA (l0++(ps.take j).map pairA)) (by rfl) hH.out _ 1 (cellsA (pairA p)) (by rfl) hG.out (J7 _) (by unfold maxLen;omega) (by omega) (ht.out.trans M).size ?_;intro v9 w9 S hh hM;have gq:Ext W1 w9:=Ext.app (ht.out.trans M) hh hH.out (Zb _);have h4:=gd (ZQ wr _ H);have hI:w9.cell? ad=some (.string (str p.1))/\w9.cell? ⟨ad.block,ad.off+1,none⟩=some (.string (str p.2)):=(by have gk:(Value.slice G (l0.length+j) gc).ownBlock≠some ad.block:=ho.out;have hb:w9.heap[ad.block]? =(wr.drew.alloc (.cells #[eS,.string (str p.1),.string (str p.2),nI 0] 88)).heap[ad.block]?:=hh.block _ (YQ h4.out M.size) (λe=>gk e.symm);exact ⟨(ZV hb).trans (M.cell H),(ZV (a:=⟨ad.block,ad.off+1,none⟩) hb).trans (M.cell Q)⟩);obtain ⟨V9,c9,go⟩:=Z8 S;subst go;have h7:Hid (w9.ownsRow W1.heap.size 88 4 (.slice V9 (l0.length+j+1) c9) (l0.length+(j+1)) (flatA (l0++(ps.take (j+1)).map pairA))):=(by show w9.ownsRow _ _ _ _ _ _;rw[ga.out,<-Ym,QZ,Q7];exact S);have gf:=gd gq;have gu:=gd hh;refine hK _ _ hI ?_;clear hK K S hh hM;refine sS 10 λK hK=> ?_;go_simp;refine hK _ _ hI ?_;clear hK K;refine sE ?_;go_wp2;go_roundw
   case rel=>exact ⟨j+1,hi,h9.out,h7.out,gf.out⟩
   case measure=>have:=h8.out;simp[slLen];omega
  ·have gi:j=ps.length:=(by omega);subst gi;have h0:pairS (ps.drop ps.length)= []:=(by rw[List.drop_length];rfl);rw[h0] at U|-;rw[List.take_length] at F;have HO:=gd F;have ht:=gd hx;have hg:=hF.out.ext hx;have hz:W1.heap.size=w.heap.size+2:=hr.out;have h2:=hx.heap gg.out;obtain ⟨b0,b1,b2,b3,b4,b5,b6⟩:=hg.cells;obtain ⟨-, -,f3, -⟩:=hg.frozen;obtain ⟨W5,hf⟩:∃W5,wr.setCell ⟨w.heap.size,3,none⟩ (.slice G (l0.length+ps.length) gc)=W5:=⟨_,rfl⟩;have hN:BxN W5 w.heap.size k s n (.slice G (l0.length+ps.length) gc) (.slice B0 m2 d) t a:=(by rw[<-hf];exact hg.attrs _);have hY:W5.heap[w.heap.size+1]? =some (.cells #[nI 0,eS,eS,sN,sN,eS,nI 0] 25 (0,0)):=(by rw[<-hf];exact (ZY wr ⟨w.heap.size,3,none⟩ (w.heap.size+1) _ (by show w.heap.size+1≠w.heap.size;omega)).trans h2);have Y:W5.ownsRow W1.heap.size 88 4 (.slice G (l0.length+ps.length) gc) (l0.length+ps.length) (flatA (l0++ps.map pairA)):=(by rw[<-hf];exact ZlO F (by show w.heap.size<_;omega) _);have hU:Ext w W5:=(by rw[<-hf];exact (hs.out.trans hx).setCell (Zb _) _);obtain ⟨e0,e1,e2,e3,e4,e5,e6⟩:=hN.cells;have h6:=gd Y;have ge:=gd hU;clear F hx hg h2 Y hU hN hz J U hi hj h0
   go_wp2_with (first|(refine Zc rfl 25 (.tmp 4) (.tmp 38) rfl (w.heap.size+1) _ rfl rfl _ _ hY ZD rfl YL ?_))
   ((try simp only[Exit.inBlock,Exit.then]);refine Zn (XT rfl _ _ _ _ _ _ _ rfl (Zp _ _ _ _ _ _ hY) underlying25 rfl ZD) rfl ?_);exact ⟨_,rfl,XM (Jv h6.out (by rw[hr.out];omega) _) (by rw[hr.out];omega),ge.out.setRow (Yc _) _⟩
end
theorem Zek (e:Ent) (w:Wq) (F:eokS e) (D:validS e.id=false):
 Calls prog 78 #[.agg (eCells e).toArray] w λx w'=>x= .returned (nI 22)/\Ext w w':=by
 obtain ⟨s0,H,I,J⟩:=F;have A:=gd (λw'=>ZW e.id w' (by omega));rw[D] at A;clear s0 H I J D;obtain ⟨id,title,link,content,upd⟩:=e;unfold eCells;dsimp only at*;go_enter func78,ntmps78
 go_wp2_with (first|(go_at_call 76;(with_reducible refine Za (A.out _) ?_);rintro e w1 ⟨rfl,h⟩;(have K:=h.boxed 1 _ rfl)))
 go_ret;exact ⟨rfl,((Ext.refl _).alloc _).trans h⟩
theorem Zel (e:Ent) (w:Wq) (K:eokS e) (I:validS e.id=true) (J:validS e.title=false):
 Calls prog 78 #[.agg (eCells e).toArray] w λx w'=>x= .returned (nI 22)/\Ext w w':=by
 obtain ⟨s0,M,Q,R⟩:=K;have F:=gd (λw'=>ZW e.id w' (by omega));rw[I] at F;have H:=gd (λw'=>ZW e.title w' (by omega));rw[J] at H;clear s0 M Q R I J;obtain ⟨id,title,link,content,upd⟩:=e;unfold eCells;dsimp only at*;go_enter func78,ntmps78
 go_wp2_with (first|(go_at_call 76;(with_reducible refine Za (F.out _) ?_);rintro e w1 ⟨rfl,h⟩;(have S:=h.boxed 1 _ rfl))|(go_at_call 76;(with_reducible refine Za (H.out _) ?_);rintro e w2 ⟨rfl,D⟩;(have A:=h.trans D);(have U:=A.boxed 2 _ rfl)))
 go_ret;exact ⟨rfl,((Ext.refl _).alloc _).trans A⟩
theorem Zem (e:Ent) (w:Wq) (S:eokS e) (M:validS e.id=true) (Q:validS e.title=true) (R:validS e.link=false):
 Calls prog 78 #[.agg (eCells e).toArray] w λx w'=>x= .returned (nI 22)/\Ext w w':=by
 obtain ⟨s0,U,V,X⟩:=S;have I:=gd (λw'=>ZW e.id w' (by omega));rw[M] at I;have J:=gd (λw'=>ZW e.title w' (by omega));rw[Q] at J;have K:=gd (λw'=>ZW e.link w' (by omega));rw[R] at K;clear s0 U V X M Q R;obtain ⟨id,title,link,content,upd⟩:=e;unfold eCells;dsimp only at*;go_enter func78,ntmps78
 go_wp2_with (first|(go_at_call 76;(with_reducible refine Za (I.out _) ?_);rintro e w1 ⟨rfl,h⟩;(have Y:=h.boxed 1 _ rfl))|(go_at_call 76;(with_reducible refine Za (J.out _) ?_);rintro e w2 ⟨rfl,F⟩;(have A:=h.trans F);(have Z:=A.boxed 2 _ rfl))|(go_at_call 76;(with_reducible refine Za (K.out _) ?_);rintro e w3 ⟨rfl,H⟩;(have D:=A.trans H);(have k3:=D.boxed 3 _ rfl)))
 go_ret;exact ⟨rfl,((Ext.refl _).alloc _).trans D⟩
theorem Zen (e:Ent) (w:Wq) (Y:eokS e) (S:validS e.id=true) (U:validS e.title=true) (V:validS e.link=true) (X:validS e.content=false):
 Calls prog 78 #[.agg (eCells e).toArray] w λx w'=>x= .returned (nI 22)/\Ext w w':=by
 obtain ⟨s0,Z,s2,s3⟩:=Y;have K:=gd (λw'=>ZW e.id w' (by omega));rw[S] at K;have M:=gd (λw'=>ZW e.title w' (by omega));rw[U] at M;have Q:=gd (λw'=>ZW e.link w' (by omega));rw[V] at Q;have R:=gd (λw'=>ZW e.content w' (by omega));rw[X] at R;clear s0 Z s2 s3 S U V X;obtain ⟨id,title,link,content,upd⟩:=e;unfold eCells;dsimp only at*;go_enter func78,ntmps78
 go_wp2_with (first|(go_at_call 76;(with_reducible refine Za (K.out _) ?_);rintro e w1 ⟨rfl,A⟩;(have k1:=A.boxed 1 _ rfl))|(go_at_call 76;(with_reducible refine Za (M.out _) ?_);rintro e w2 ⟨rfl,H⟩;(have D:=A.trans H);(have k2:=D.boxed 2 _ rfl))|(go_at_call 76;(with_reducible refine Za (Q.out _) ?_);rintro e w3 ⟨rfl,I⟩;(have F:=D.trans I);(have k3:=F.boxed 3 _ rfl))|(go_at_call 76;(with_reducible refine Za (R.out _) ?_);rintro e w4 ⟨rfl,J⟩;(have h:=F.trans J);(have k4:=h.boxed 0 _ rfl);(have k5:=h.boxed 4 _ rfl)))
 go_ret;exact ⟨rfl,((Ext.refl _).alloc _).trans h⟩
theorem Zeo (e:Ent) (w:Wq) (Z:eokS e) (S:validS e.id=true) (U:validS e.title=true) (V:validS e.link=true) (X:validS e.content=true) (Y:e.id.toList.isEmpty=true):
 Calls prog 78 #[.agg (eCells e).toArray] w λx w'=>x= .returned (nI 22)/\Ext w w':=by
 obtain ⟨s0,s1,s2,s3⟩:=Z;have K:=gd (λw'=>ZW e.id w' (by omega));rw[S] at K;have M:=gd (λw'=>ZW e.title w' (by omega));rw[U] at M;have Q:=gd (λw'=>ZW e.link w' (by omega));rw[V] at Q;have R:=gd (λw'=>ZW e.content w' (by omega));rw[X] at R;clear s0 s1 s2 s3 S U V X;obtain ⟨id,title,link,content,upd⟩:=e;simp only at Y;unfold eCells;dsimp only at*;go_enter func78,ntmps78
 go_wp2_with (first|(go_at_call 76;(with_reducible refine Za (K.out _) ?_);rintro e w1 ⟨rfl,A⟩;(have k1:=A.boxed 1 _ rfl))|(go_at_call 76;(with_reducible refine Za (M.out _) ?_);rintro e w2 ⟨rfl,H⟩;(have D:=A.trans H);(have k2:=D.boxed 2 _ rfl))|(go_at_call 76;(with_reducible refine Za (Q.out _) ?_);rintro e w3 ⟨rfl,I⟩;(have F:=D.trans I);(have k3:=F.boxed 3 _ rfl))|(go_at_call 76;(with_reducible refine Za (R.out _) ?_);rintro e w4 ⟨rfl,J⟩;(have h:=F.trans J);(have k4:=h.boxed 0 _ rfl);(have k5:=h.boxed 4 _ rfl)))
 go_ret;exact ⟨rfl,((Ext.refl _).alloc _).trans h⟩
theorem Zep (e:Ent) (w:Wq) (hs:eokS e) (U:validS e.id=true) (V:validS e.title=true) (X:validS e.link=true) (Y:validS e.content=true) (h4:e.id.toList.isEmpty=false) (Z:inT e.upd=false):
 Calls prog 78 #[.agg (eCells e).toArray] w λx w'=>x= .returned (nI 22)/\Ext w w':=by
 obtain ⟨s0,s1,s2,s3⟩:=hs;have K:=gd (λw'=>ZW e.id w' (by omega));rw[U] at K;have M:=gd (λw'=>ZW e.title w' (by omega));rw[V] at M;have Q:=gd (λw'=>ZW e.link w' (by omega));rw[X] at Q;have R:=gd (λw'=>ZW e.content w' (by omega));rw[Y] at R;have S:=gd (λw'=>Ul e.upd w');rw[Z] at S;clear s0 s1 s2 s3 U V X Y Z;obtain ⟨id,title,link,content,upd⟩:=e;simp only at h4;unfold eCells;dsimp only at*;go_enter func78,ntmps78
 go_wp2_with (first|(go_at_call 76;(with_reducible refine Za (K.out _) ?_);rintro e w1 ⟨rfl,A⟩;(have k1:=A.boxed 1 _ rfl))|(go_at_call 76;(with_reducible refine Za (M.out _) ?_);rintro e w2 ⟨rfl,H⟩;(have D:=A.trans H);(have k2:=D.boxed 2 _ rfl))|(go_at_call 76;(with_reducible refine Za (Q.out _) ?_);rintro e w3 ⟨rfl,I⟩;(have F:=D.trans I);(have k3:=F.boxed 3 _ rfl))|(go_at_call 76;(with_reducible refine Za (R.out _) ?_);rintro e w4 ⟨rfl,J⟩;(have h:=F.trans J);(have k4:=h.boxed 0 _ rfl);(have k5:=h.boxed 4 _ rfl))|(go_at_call 77;(with_reducible refine Za (S.out _) ?_);rintro e w5 ⟨rfl,rfl⟩))
 go_ret;exact ⟨rfl,((Ext.refl _).alloc _).trans h⟩
theorem Zeq (e:Ent) (w:Wq) (hs:eokS e) (U:validS e.id=true) (V:validS e.title=true) (X:validS e.link=true) (Y:validS e.content=true) (h4:e.id.toList.isEmpty=false) (Z:inT e.upd=true):
 Calls prog 78 #[.agg (eCells e).toArray] w λx w'=>x= .returned (nI 0)/\Ext w w':=by
 obtain ⟨s0,s1,s2,s3⟩:=hs;have K:=gd (λw'=>ZW e.id w' (by omega));rw[U] at K;have M:=gd (λw'=>ZW e.title w' (by omega));rw[V] at M;have Q:=gd (λw'=>ZW e.link w' (by omega));rw[X] at Q;have R:=gd (λw'=>ZW e.content w' (by omega));rw[Y] at R;have S:=gd (λw'=>Ul e.upd w');rw[Z] at S;clear s0 s1 s2 s3 U V X Y Z;obtain ⟨id,title,link,content,upd⟩:=e;simp only at h4;unfold eCells;dsimp only at*;go_enter func78,ntmps78
 go_wp2_with (first|(go_at_call 76;(with_reducible refine Za (K.out _) ?_);rintro e w1 ⟨rfl,A⟩;(have k1:=A.boxed 1 _ rfl))|(go_at_call 76;(with_reducible refine Za (M.out _) ?_);rintro e w2 ⟨rfl,H⟩;(have D:=A.trans H);(have k2:=D.boxed 2 _ rfl))|(go_at_call 76;(with_reducible refine Za (Q.out _) ?_);rintro e w3 ⟨rfl,I⟩;(have F:=D.trans I);(have k3:=F.boxed 3 _ rfl))|(go_at_call 76;(with_reducible refine Za (R.out _) ?_);rintro e w4 ⟨rfl,J⟩;(have h:=F.trans J);(have k4:=h.boxed 0 _ rfl);(have k5:=h.boxed 4 _ rfl))|(go_at_call 77;(with_reducible refine Za (S.out _) ?_);rintro e w5 ⟨rfl,rfl⟩))
 go_ret;exact ⟨rfl,((Ext.refl _).alloc _).trans h⟩
theorem Za1 (e:Ent) (w:Wq) (A:eokS e):
 Calls prog 78 #[.agg (eCells e).toArray] w λx w'=>x= .returned (nI (if okE e=true then 0 else 22))/\Ext w w':=by
 have h:okE e=(validS e.id && (validS e.title && (validS e.link && (validS e.content && true))) && !decide (e.id=noS) && inT e.upd):=rfl;cases h0:validS e.id
 ·rw[Zg (by rw[h,h0];simp)];exact Zek e w A h0
 cases h1:validS e.title
 ·rw[Zg (by rw[h,h1];simp)];exact Zel e w A h0 h1
 cases h2:validS e.link
 ·rw[Zg (by rw[h,h2];simp)];exact Zem e w A h0 h1 h2
 cases h3:validS e.content
 ·rw[Zg (by rw[h,h3];simp)];exact Zen e w A h0 h1 h2 h3
 by_cases D:e.id=noS
 ·rw[Zg (by rw[h];simp[D])];exact Zeo e w A h0 h1 h2 h3 (by rw[D,X4];rfl)
 cases h5:inT e.upd
 ·rw[Zg (by rw[h,h5];simp)];exact Zep e w A h0 h1 h2 h3 (UW D) h5
 ·rw[Zl (by rw[h,h0,h1,h2,h3,h5];simp[D])];exact Zeq e w A h0 h1 h2 h3 (UW D) h5
theorem Vc (t:Int) (w:Wq):
 Calls prog 130 #[nI t] w λe w'=>e= .returned (.bool (inT t))/\w=w':=by
 unfold inT;go_enter func130,ntmps130;go_wp2
 all_goals go_ret
 all_goals exact ⟨by simp_all<;>omega,rfl⟩
theorem XC (b:Bool) (w:Wq):
 Calls prog 85 #[.bool b] w λe w'=>e= .returned (nI (if b=true then 0 else 22))/\w=w':=by
 cases b with
 |true=>go_enter func85,ntmps85;go_wp2;go_ret;exact ⟨rfl,rfl⟩
 |false=>go_enter func85,ntmps85;go_wp2;go_ret;exact ⟨rfl,rfl⟩
theorem ZfG (e:Ent) (w:Wq):Calls prog 129 #[.agg (eCells e).toArray] w λx w'=>x= .returned (.string e.id)/\Ext w w':=by
 unfold eCells;go_enter func129,ntmps129;go_wp2;go_ret;exact ⟨rfl,(Ext.refl _).alloc _⟩
theorem ZhD (p es:Value) (f:Fd) (w:Wq):Calls prog 88 #[.agg (fCells p es f).toArray] w λx w'=>x= .returned (.string f.id)/\Ext w w':=by
 unfold fCells;go_enter func88,ntmps88;go_wp2;go_ret;exact ⟨rfl,(Ext.refl _).alloc _⟩
theorem Ut (v:Value) (l:List ByteArray) (w:Wq) (hE:Env w) (h:RStrs w v l) (J:∀s∈l,s.size<=16777216) (hn:l.length<=16777216):
 Calls prog 128 #[v] w λe w'=>e= .returned (.bool (l.all validS))/\Ext w w':=by
 obtain ⟨A,c,rfl, -, -⟩:=h.form;obtain ⟨R,Z⟩:∃R,l.all validS=R:=⟨_,rfl⟩;rw[Z];have HR:=gd Z;have HS:=gd J;have HH:=gd h;have V:=gd hE;clear Z J h hE;go_enter func128,ntmps128;go_wp2;go_loopw [7] (λi wr=>∃k:Nat,k<=l.length/\i=nI k/\Hid (∀s∈l.take k,validS s=true)/\Ext w wr) (λi _=>l.length - (intOf i).toNat)
 case atStart=>exact ⟨0,Zh _,rfl,gd (by simp),Ext.refl _⟩
 case round=>
  obtain ⟨k,hk,rfl,K,H⟩:=hrel;by_cases I:k<l.length
  ·obtain ⟨ad,c1,e1,hc⟩:=(RStrs.ext HH.out H).at I;injection e1 with e1 e1' e1'';subst e1;clear e1' e1'';have F:l[k]∈l:=Zz I;have M:=Zq I;have S:=gd (Zba l[k] wr (V.out.ext H) (by have:=HS.out _ F;omega));have D:validS l[k]=false->R=false:=λh=>(by rw[<-HR.out,Yx];intro h2;have:=Yk.1 h2 _ F;rw[h] at this;cases this);obtain ⟨p,U⟩:∃p,l[k]=p:=⟨_,rfl⟩;rw[U] at hc M S D;have Y:=gd M;have he:(0:Int)<=(k:Int):=(by omega);have hf:(k:Int)<(l.length:Int):=(by omega);clear U F M;cases hv:validS p with
   |false=>
    have ha:=D hv;subst ha;rw[hv] at S;clear D hv
    go_wp2_with (first|(go_at_call 178;(with_reducible refine Za (S.out) ?_);rintro e w6 ⟨rfl,Q⟩))
    go_ret;exact ⟨rfl,H.trans Q⟩
   |true=>
    have X:=gd hv;rw[hv] at S;clear D hv
    go_wp2_with (first|(go_at_call 178;(with_reducible refine Za (S.out) ?_);rintro e w6 ⟨rfl,Q⟩))
    go_roundw
    case rel=>exact ⟨k+1,I,by go_num,gd (λs J=>by
     rw[Y.out] at J;rcases Zu.1 J with J|J
     ·exact K.out s J
     ·rw[Zo.1 J];exact X.out),H.trans Q⟩
    case measure=>simp[intOf];omega
  ·have hd:k=l.length:=(by omega);subst hd;have hi:=K.out;rw[ZM (Zb _)] at hi;have hb:R=true:=(by rw[<-HR.out];exact Yk.2 hi);subst hb;clear hi;go_wp2;go_ret;exact ⟨rfl,H⟩
theorem ZbN {s:ByteArray} (h:s=noS):s.toList.isEmpty=true:=by rw[h,X4];rfl
theorem U2 (w:Wq) (l:List ByteArray) (h:l.length<=maxLen):RStrs (w.alloc (.cells (l.map Value.string).toArray 9)) (.slice (some ⟨w.heap.size,0,none⟩) l.length l.length) l:=
 Yp (by rw[Zk,Nat.mul_one]) h
theorem ZdY (e:Ent) (w:Wq) (U:Env w) (V:eokS e):
 Calls prog 132 #[.agg (eCells e).toArray] w λx w'=>x= .returned (nI (if okE e=true then 0 else 22))/\Ext w w':=by
 have I:okE e=((strsE e).all validS && !decide (e.id=noS) && inT e.upd):=rfl;have D:=gd (λw'=>XC false w');have J:=gd (λw'=>Vc e.upd w');have H:=gd (λ(w':Wq) (h:Ext w w')=>Ut _ (strsE e) (w'.alloc (.cells ((strsE e).map Value.string).toArray 9)) ((U.ext h).alloc _) (U2 w' (strsE e) (by show 4<=maxLen;decide)) (λs h=>by
  obtain ⟨h1,h2,h3,h4⟩:=V;unfold strsE at h;simp only[ZI,Yg,Xx] at h;rcases h with rfl|rfl|rfl|rfl<;>omega) (by show 4<=16777216;decide))
 by_cases F:e.id=noS
 ·have A:okE e=false:=by rw[I,F];simp
  rw[Zg (by rw[A];simp)];have K:=ZbN F;clear I F A J H;unfold eCells;go_enter func132,ntmps132
  go_wp2_with (first|(go_at_call 85;(with_reducible refine Za (D.out _) ?_);rintro e X ⟨rfl,rfl⟩))
  go_ret;exact ⟨rfl,(Ext.refl _).alloc _⟩
 ·have K:=UW F;cases hti:inT e.upd with
  |false=>
   have A:okE e=false:=(by rw[I,hti,Bool.and_false]);rw[Zg (by rw[A];simp)];rw[hti] at J;clear I F A H hti;unfold eCells;go_enter func132,ntmps132
   go_wp2_with (first|(go_at_call 130;(with_reducible refine Za (J.out _) ?_);rintro e w5 ⟨rfl,rfl⟩)|(go_at_call 85;(with_reducible refine Za (D.out _) ?_);rintro e X ⟨rfl,rfl⟩))
   go_ret;exact ⟨rfl,(Ext.refl _).alloc _⟩
  |true=>
   have A:okE e=(strsE e).all validS:=(by rw[I,hti,Yf F];simp);rw[A];rw[hti] at J;have R:=gd (λw'=>XC ((strsE e).all validS) w');obtain ⟨b,S⟩:∃b,(strsE e).all validS=b:=⟨_,rfl⟩;simp only[S] at H R|-;unfold strsE at H;simp only[ZP,Yt,Ze,ZT] at H;clear I F A D hti S;unfold eCells;go_enter func132,ntmps132
   go_wp2_with (first|(go_at_call 130;(with_reducible refine Za (J.out _) ?_);rintro e w5 ⟨rfl,rfl⟩)|(go_at_call 128;(have Q:=H.out _ ((Ext.refl w).alloc (.cells #[.string e.id,.string e.title,.string e.link,.string e.content,nI e.upd] 76)));(simp only[Zt] at Q);(with_reducible refine Za Q ?_);clear Q;rintro Y w7 ⟨rfl,M⟩)|(go_at_call 85;(with_reducible refine Za (R.out _) ?_);rintro Z w8 ⟨rfl,rfl⟩))
   all_goals go_ret
   all_goals exact ⟨rfl,(((Ext.refl _).alloc _).alloc _).trans M⟩
theorem ZgU (w:Wq):Calls prog 44 #[.string ⟨#[111,117,116,108,105,110,101]⟩,sN] w λe w'=>
 ∃KB kc,e= .returned (.agg #[nI 0,eS,.string ⟨#[111,117,116,108,105,110,101]⟩,sN,.slice KB 0 kc,eS,nI 0])/\RNs w' (.slice KB 0 kc) []/\Ext w w':=by
 have h:=EU outlineL sN [] w (RNs.nil w) (by intro y F;cases F) (by decide);rw[UG] at h;refine Za h ?_;rintro e w' ⟨ks,rfl,A,D⟩;obtain ⟨KB,kc,rfl⟩:=Z8 A;exact ⟨KB,kc,rfl,RSl.of_own A,D⟩
theorem ZgT (v:Value) (l:List Nc) (w:Wq) (H:RNs w v l) (D:∀y∈l,RdN w y/\y.kind=0) (F:l.length<=16777216):Calls prog 44 #[.string ⟨#[111,117,116,108,105,110,101]⟩,v] w λe w'=>
 ∃KB kc,e= .returned (.agg #[nI 0,eS,.string ⟨#[111,117,116,108,105,110,101]⟩,sN,.slice KB l.length kc,eS,nI 0])/\w'.ownsRow w.heap.size 25 7 (.slice KB l.length kc) l.length (flatN l)/\Ext w w':=by
 have h:=EU outlineL v l w H D F;rw[UG] at h;refine Za h ?_;rintro e w' ⟨ks,rfl,A,I⟩;obtain ⟨KB,kc,rfl⟩:=Z8 A;exact ⟨KB,kc,rfl,A,I⟩
theorem IE (al:Value) (l0:List AtP) (KB:Option Addr) (n kc:Nat) (v:Value) (ps:List (List UInt8×List UInt8)) (w:Wq) (D:RAts w al l0) (H:RStrs w v (pairS ps)) (F:l0.length+ps.length<=1000000):
 Calls prog 46 #[.agg #[nI 0,eS,.string ⟨#[111,117,116,108,105,110,101]⟩,al,.slice KB n kc,eS,nI 0],v] w λe w'=>
  ∃AB ac,e= .returned (.agg #[nI 0,eS,.string ⟨#[111,117,116,108,105,110,101]⟩,.slice AB (l0.length+ps.length) ac,.slice KB n kc,eS,nI 0])/\w'.ownsRow w.heap.size 88 4 (.slice AB (l0.length+ps.length) ac) (l0.length+ps.length) (flatA (l0++ps.map pairA))/\Ext w w':=by
 have h:=ZeP 0 [] outlineL al (.slice KB n kc) l0 n kc KB [] 0 v ps w D rfl H F;rw[UG] at h;refine Za h ?_;rintro e w' ⟨al',rfl,A,I⟩;obtain ⟨AB,ac,rfl⟩:=Z8 A;exact ⟨AB,ac,rfl,A,I⟩
theorem Zip (KB:Option Addr) (kc:Nat) (v:Value) (title id:ByteArray) (w:Wq) (h:RStrs w v (pairS [(typeL,rssL),(textL,lst title),(xmlUrlL,lst id)])):
 Calls prog 46 #[.agg #[nI 0,eS,.string ⟨#[111,117,116,108,105,110,101]⟩,sN,.slice KB 0 kc,eS,nI 0],v] w λe w'=>
  ∃AB ac,e= .returned (.agg #[nI 0,eS,.string ⟨#[111,117,116,108,105,110,101]⟩,.slice AB 3 ac,.slice KB 0 kc,eS,nI 0])/\w'.ownsRow w.heap.size 88 4 (.slice AB 3 ac) 3 (flatA ([(typeL,rssL),(textL,lst title),(xmlUrlL,lst id)].map pairA))/\Ext w w':=
 IE sN [] KB 0 kc v [(typeL,rssL),(textL,lst title),(xmlUrlL,lst id)] w (RAts.nil w) h (by show 0+3<=1000000;omega)
theorem Zhs (w:Wq) (title id:ByteArray):RStrs (w.alloc (.cells #[.string ⟨#[116,121,112,101]⟩,.string ⟨#[114,115,115]⟩,.string ⟨#[116,101,120,116]⟩,.string title,.string ⟨#[120,109,108,85,114,108]⟩,.string id] 9)) (.slice (some ⟨w.heap.size,0,none⟩) 6 6) (pairS [(typeL,rssL),(textL,lst title),(xmlUrlL,lst id)]):=by
 have e:∀s:ByteArray,str (lst s)=s:=λs=>rfl;have h:=U2 w (pairS [(typeL,rssL),(textL,lst title),(xmlUrlL,lst id)]) (by show 6<=maxLen;unfold maxLen;omega);exact h
theorem Zhu (w:Wq) (link:ByteArray):RStrs (w.alloc (.cells #[.string ⟨#[104,116,109,108,85,114,108]⟩,.string link] 9)) (.slice (some ⟨w.heap.size,0,none⟩) 2 2) (pairS [(htmlUrlL,lst link)]):=U2 w (pairS [(htmlUrlL,lst link)]) (by show 2<=maxLen;unfold maxLen;omega)
theorem Zha (w:Wq) (name:ByteArray):RStrs (w.alloc (.cells #[.string ⟨#[116,101,120,116]⟩,.string name] 9)) (.slice (some ⟨w.heap.size,0,none⟩) 2 2) (pairS [(textL,lst name)]):=U2 w (pairS [(textL,lst name)]) (by show 2<=maxLen;unfold maxLen;omega)
section
section
variable {P:Program} {md:Region.Mode} {Q:Exit→Act→World→Prop} {S:World→Prop}
end
end
section
variable {B g kc n:Nat} {T e:TypeId} {f:Fd} {v:Value} {w w':World} {xs:List Value}
theorem Zed {size:Nat} {cs:Array Value} {fr:Nat×Nat} (A:w.ownsRow B e size v n xs) (D:w.heap[g]? =some (.cells cs T fr)) (H:T≠e):v.ownBlock≠some g:=by
 rcases A.2 with ⟨rfl,_⟩|⟨q,cap,F,rfl,_,I,_⟩
 ·simp[Value.ownBlock]
 ·intro h;simp only[Value.ownBlock,Xc] at h;subst h;rw[I] at D;simp only[Xc,Obj.cells.injEq] at D;exact H D.2.1.symm
theorem Qi {size:Nat} {cs A:Array Value} {fr:Nat×Nat} (h:w.ownsRow B e size v n xs) (F:w.heap[g]? =some (.cells cs T fr)) (D:T≠e):(w.setRow g A).ownsRow B e size v n xs:=
 h.kept (row:=some g) ⟨rfl,rfl,rfl,by simp[World.setRow],λk _ H=>Z1 w g k A (λe=>H (by rw[e]))⟩ (Or.inr (Zed h F D))
theorem Vh (h:RNs w v []):RNs w' v []:=by
 obtain ⟨D,A,c,e,F,H,I,K⟩:=h;exact ⟨D,A,c,e,F,H,I,λj u J=>by simp[Zg5] at J⟩
def leafC (KB:Option Addr) (kc:Nat) (al:Value) (f:Fd):Nc:= .mk 0 [] outlineL al ([(typeL,rssL),(textL,lst f.title),(xmlUrlL,lst f.id)].map pairA) (.slice KB 0 kc) [] [] 0
def leafC2 (KB:Option Addr) (kc:Nat) (al:Value) (f:Fd):Nc:= .mk 0 [] outlineL al ([(typeL,rssL),(textL,lst f.title),(xmlUrlL,lst f.id)].map pairA++ [(htmlUrlL,lst f.link)].map pairA) (.slice KB 0 kc) [] [] 0
theorem Zi5 {KB:Option Addr} {al:Value} (h:f.link.size=0):(leafC KB kc al f).nd=feedN f:=by
 unfold feedN leafC;rw[Zl h];rw[Nc.nd,Nc.nds];rfl
theorem Zhq {KB:Option Addr} {al:Value} (h:f.link.size≠0):(leafC2 KB kc al f).nd=feedN f:=by
 unfold feedN leafC2;rw[Zg h];rw[Nc.nd,Nc.nds];rfl
theorem Zi6 {KB:Option Addr} {al:Value} (h:w.ownsRow B 88 4 al 3 (flatA ([(typeL,rssL),(textL,lst f.title),(xmlUrlL,lst f.id)].map pairA))) (A:RNs w (.slice KB 0 kc) []):RdN w (leafC KB kc al f):=by
 unfold leafC;rw[RdN];exact ⟨RSl.of_own h,A,by rw[RdNs];trivial⟩
theorem Zhr {KB:Option Addr} {al:Value} (h:w.ownsRow B 88 4 al 4 (flatA ([(typeL,rssL),(textL,lst f.title),(xmlUrlL,lst f.id)].map pairA++ [(htmlUrlL,lst f.link)].map pairA))) (A:RNs w (.slice KB 0 kc) []):RdN w (leafC2 KB kc al f):=by
 unfold leafC2;rw[RdN];exact ⟨RSl.of_own h,A,by rw[RdNs];trivial⟩
theorem ZbS {I J V X S U:Nat} {e1 e2:TypeId} {v1 v2:Value} {h H:List Value} (D:w.ownsRow I e1 V v1 S h) (M:w.ownsRow J e2 X v2 U H) (F:e1≠e2) (R:h≠ []):v1.ownBlock≠v2.ownBlock:=by
 rcases M.2 with ⟨rfl,_⟩|⟨q,cap,A,rfl,_,Q,_⟩
 ·rcases D.2 with ⟨rfl,K⟩|⟨q,cap,A,rfl,_⟩
  ·exact absurd (ZF (by rw[D.1,K,Xf])) R
  ·simp[Value.ownBlock]
 ·exact Zed D Q (λe=>F e.symm)
end
theorem Zj8 {l:List UInt8} (r:List UInt8) (h:(dec l).2≠0):dec (l++r)=dec l/\scalar (dec l).1/\(encN (dec l).1).length=(dec l).2:=by
 have H:=ZgK (l:=l) (r:=(dec l).1) (m:=(dec l).2) rfl h;have J:=UT l;have A:(encN (dec l).1).length=(dec l).2:=by have:=Zy List.length H;rw[Zd,Zm] at this;omega
 have D:scalar (dec l).1:=by
  unfold scalar;rcases XJ 1114111 (dec l).1 with F|F
  ·have:encN (dec l).1= []:=(by unfold encN;rw[Zl (Or.inl F)]);rw[this] at A;exact absurd A.symm h
  ·by_cases I:55296<=(dec l).1/\(dec l).1<=57343
   ·have:encN (dec l).1= []:=(by unfold encN;rw[Zl (Or.inr I)]);rw[this] at A;exact absurd A.symm h
   ·omega
 refine ⟨?_,D,A⟩
 calc dec (l++r)=dec (encN (dec l).1++(l.drop (dec l).2++r)):=by rw[<-Ym,<-H]
  _=((dec l).1,(encN (dec l).1).length):=Zj9 D _
  _=dec l:=by rw[A]
def reads (s:List UInt8) (k k':Nat) (L:List Tok):Prop:=∀l,toksAt s k l=toksAt s k' (l++L)
def plainAs (al:List AtP):Bool:=al.all λa=>isNm a.name && a.name !=xmlnsL
mutual
def Nd.plain:Nd->Bool
 | .mk k _ n al ks _ _=>k !=0||(isNm n && n !=xmlnsL && plainAs al && Nds.plain ks)
def Nds.plain:List Nd->Bool
 | []=>true
 |x::t=>x.plain && Nds.plain t
end
section
variable {d:Nat} {f:Fd} {s t:List UInt8}
def outl (f:Fd):Fd:=⟨f.path,f.id,f.title,f.link, -62135596800,[]⟩
theorem Zda {s:ByteArray} (h:validS s=true) (D:s≠noS):coll (lst s)≠ []:=by
 intro e;have A:=Xh h;unfold collapse at A;have e':coll s.data.toList= []:=e;rw[e'] at A;exact D A.symm
def Pref (path:List ByteArray) (f:Fd):Prop:=∃r,f.path=path++r
theorem Pref.len {path:List ByteArray} (h:Pref path f):path.length<=f.path.length:=by
 obtain ⟨r,A⟩:=h;rw[A,Zd];omega
theorem Pref.eq {path:List ByteArray} (h:Pref path f) (D:f.path.length=path.length):f.path=path:=by
 obtain ⟨r,A⟩:=h;have:r= []:=ZF (by rw[A,Zd] at D;omega);rw[A,this,Ye]
theorem Pref.next {path:List ByteArray} (D:path.length=d) (h:Pref path f) (F:d<f.path.length):Pref (path++ [pathAt f d]) f:=by
 obtain ⟨r,A⟩:=h;cases r with
 |nil=>rw[A,Ye] at F;omega
 |cons c t=>
  refine ⟨t,?_⟩;have:pathAt f d=c:=by unfold pathAt;rw[A,<-D,Z0,Yr (Zb _),Nat.sub_self];rfl
  rw[this,A,Ym];rfl
theorem Zeg (path:List ByteArray) (a b:List ByteArray):pathCmp (path++a) (path++b)=pathCmp a b:=by
 induction path with
 |nil=>rfl
 |cons c t ih=>show pathCmp (c::(t++a)) (c::(t++b))=_;rw[pathCmp,Zl (Vi.self c)];exact ih
def asc (l:List Fd):Prop:=l.Pairwise λa b=>pathCmp a.path b.path<=0
theorem KI {path:List ByteArray} (Q:path.length=d):∀{l:List Fd},asc l->(∀x∈l,Pref path x)->
 (∀x∈l.takeWhile (λx=>decide (x.path.length=d)),x.path=path)/\(∀x∈l.drop (l.takeWhile λx=>decide (x.path.length=d)).length,d<x.path.length)
 | [],_,_=>⟨(by intro x h;cases h),(by intro x h;simp at h)⟩
 |a::t,hs,hp=>by
  have H:=hp a ZS;have D:=hs;unfold asc at D;rw[XO] at D;have ih:=KI Q (l:=t) D.2 λx A=>hp x (ZJ _ A);by_cases J:a.path.length=d
  ·rw[YS,Zl (by simpa using J)];refine ⟨λx A=> ?_,λx A=> ?_⟩
   ·rcases ZI.1 A with rfl|A
    ·exact H.eq (by omega)
    ·exact ih.1 x A
   ·rw[Ze,List.drop_succ_cons] at A;exact ih.2 x A
  ·rw[YS,Zg (by simpa using J)];refine ⟨(by intro x h;cases h),λx A=> ?_⟩;have F:d<a.path.length:=(by have:=H.len;omega);rw[ZT,JN] at A;rcases ZI.1 A with rfl|A
   ·exact F
   ·obtain ⟨r,M⟩:=hp x (ZJ _ A);obtain ⟨q,K⟩:=H;have I:=D.1 x A;rw[K,M,Zeg] at I;cases r with
    |nil=>
     cases q with
     |nil=>rw[K,Ye] at F;omega
     |cons c q=>rw[pathCmp] at I;omega
    |cons c r=>rw[M,Zd,Ze];omega
def okX (f:Fd):Prop:=coll (lst f.id)≠ []/\(∀p∈f.path,coll (lst p)≠ [])/\f.path.length<=64
theorem Zkv (h:okH f=true):okX f:=by
 obtain ⟨F,A,H,J,I⟩:=X6.1 h;refine ⟨Zda (A _ (by unfold strsF;simp)) H,λp D=>Zda (A p (by unfold strsF;simp[D])) (I p D),F⟩
def foldN (s:ByteArray) (ks:List Nd):Nd:=withP (elemN outlineL ks) [(textL,lst s)]
def elems (ks:List Nd):Prop:=∀k∈ks,k.kind=0
theorem Jz {ks:List Nd} (h:elems ks):ks.filter (λk=> !(decide (k.kind=1) && k.text.isEmpty))=ks:=by
 rw[List.filter_eq_self];intro k A;rw[h k A];rfl
theorem Zdj (l:List Fd):elems (l.map feedN):=λk h=>by
 obtain ⟨f,_,rfl⟩:=ZO.1 h;unfold feedN;dsimp only;split<;>rfl
theorem ZgW {a b:List Nd} (h:elems a) (A:elems b):elems (a++b):=λk D=>(Zu.1 D).elim (h k) (A k)
theorem II (rec_:List Fd->List Nd) (d:Nat):∀(f:Nat) (l:List Fd),elems (foldsP rec_ d f l)
 |0,l=>(by rw[foldsP];intro k h;cases h)
 |f+1,[]=>(by rw[foldsP];intro k h;cases h)
 |f+1,x::t=>by
  rw[foldsP]
  intro k h
  rcases ZI.1 h with rfl|h
  ·rfl
  ·exact II rec_ d f _ k h
theorem UU:∀(f d:Nat) (l:List Fd),elems (outsP f d l)
 |0,d,l=>(by rw[outsP];intro k h;cases h)
 |f+1,d,l=>by
  rw[outsP]
  exact ZgW (Zdj _) (II _ _ _ _)
theorem Zcl (x:Fd) (t:List Fd) (d:Nat):0<((x::t).takeWhile λy=>decide (pathAt y d=pathAt x d)).length:=by
 rw[YS,Zl (by simp)];simp
theorem Zgn (x:Fd) (t:List Fd) (d:Nat):∀y∈(x::t).take ((x::t).takeWhile λy=>decide (pathAt y d=pathAt x d)).length,pathAt y d=pathAt x d:=by
 intro y h;rw[show (x::t).take ((x::t).takeWhile λy=>decide (pathAt y d=pathAt x d)).length=(x::t).takeWhile λy=>decide (pathAt y d=pathAt x d) from (Xn.1 (JQ _)).symm] at h;have:=List.all_takeWhile (p:=λy=>decide (pathAt y d=pathAt x d)) (l:=x::t);rw[Yk] at this;simpa using this y h
theorem Eo {a b:List Fd} (h:a.Sublist b) (A:asc b):asc a:=List.Pairwise.sublist h A
theorem Zgf {l:List Fd} (h:okA l=true):asc l:=by
 have H:=(Ve.1 h).2.1;refine List.Pairwise.imp ?_ H;intro a b A;have D:feedCmp a b<0:=by have F:ltF a b=true:=A;simpa [ltF] using F
 unfold feedCmp at D;split at D<;>omega
theorem Zje {l:List Fd} (h:okA l=true):okA (l.map outl)=true:=by
 obtain ⟨F,H,I⟩:=Ve.1 h;refine Ve.2 ⟨λx K=> ?_,?_,?_⟩
 ·obtain ⟨f,J,rfl⟩:=ZO.1 K;have D:=X6.1 (Jq.1 (F f J)).1;exact Jq.2 ⟨X6.2 ⟨D.1,D.2.1,D.2.2.1,(by show inT (-62135596800)=true;decide),D.2.2.2.2⟩,rfl⟩
 ·exact List.Pairwise.map _ (λa b A=>A) H
 ·exact List.Pairwise.map _ (λa b A=>A) I
theorem U8 {s:ByteArray} (h:validS s=true):charsOk (lst s)=true:=by
 have A:=Qv h;unfold checkS at A;exact YJ A
def okC (f:Fd):Prop:=charsOk (lst f.id)=true/\charsOk (lst f.title)=true/\charsOk (lst f.link)=true/\∀p∈f.path,charsOk (lst p)=true
theorem Zku (h:okH f=true):okC f:=by
 obtain ⟨F,A,H,I,J⟩:=X6.1 h;refine ⟨U8 (A _ (by unfold strsF;simp)),U8 (A _ (by unfold strsF;simp)),U8 (A _ (by unfold strsF;simp)),λp D=>U8 (A p (by unfold strsF;simp[D]))⟩
theorem Iu:isQ outlineL=true:=by decide+kernel
theorem Zjt:isQ typeL=true:=by decide+kernel
theorem ZfZ:isQ textL=true:=by decide+kernel
theorem Zei:isQ xmlUrlL=true:=by decide+kernel
theorem ZhW:isQ htmlUrlL=true:=by decide+kernel
theorem Zlp:isQ opmlL=true:=by decide+kernel
theorem Zlo:isQ headL=true:=by decide+kernel
theorem Zln:isQ bodyL=true:=by decide+kernel
theorem ZhX:isQ versionL=true:=by decide+kernel
theorem KZ:isNm outlineL=true:=by decide+kernel
theorem Zja:isNm typeL=true:=by decide+kernel
theorem ZfM:isNm textL=true:=by decide+kernel
theorem Zd4:isNm xmlUrlL=true:=by decide+kernel
theorem ZhH:isNm htmlUrlL=true:=by decide+kernel
theorem Zlk:isNm opmlL=true:=by decide+kernel
theorem Zlj:isNm headL=true:=by decide+kernel
theorem Zli:isNm bodyL=true:=by decide+kernel
theorem ZhI:isNm versionL=true:=by decide+kernel
theorem ZkM:charsOk rssL=true:=by decide+kernel
theorem Zlr:charsOk twoL=true:=by decide+kernel
theorem JL {a:Nat} {n:List UInt8} {al:List AtP} {ks:List Nd} (A:d<=100) (F:isQ n=true) (h:attrsOk al []=true) (D:kidsOk d false ks=true):nodeOk d (.mk 0 [] n al ks [] a)=true:=by
 rw[nodeOk,F,h,D,YJ A];rfl
theorem Ub {a:Nat} {n:List UInt8} {al:List AtP} {ks:List Nd} (D:isNm n=true) (F:(n !=xmlnsL)=true) (h:plainAs al=true) (A:Nds.plain ks=true):(Nd.mk 0 s n al ks t a).plain=true:=by
 rw[Nd.plain,D,F,h,A];rfl
theorem Zkg (h:okC f) (F:d<=100):nodeOk d (feedN f)=true/\(feedN f).plain=true:=by
 obtain ⟨A,D,H,I⟩:=h;unfold feedN;dsimp only;split
 ·refine ⟨JL F Iu ?_ rfl,Ub KZ (by decide) ?_ rfl⟩
  ·show attrsOk [⟨[],typeL,rssL,0⟩,⟨[],textL,lst f.title,0⟩,⟨[],xmlUrlL,lst f.id,0⟩] []=true;simp only[attrsOk,Zjt,ZfZ,Zei,ZkM,A,D];decide
  ·show plainAs [⟨[],typeL,rssL,0⟩,⟨[],textL,lst f.title,0⟩,⟨[],xmlUrlL,lst f.id,0⟩]=true;simp only[plainAs,List.all_cons,List.all_nil,Zja,ZfM,Zd4];decide
 ·refine ⟨JL F Iu ?_ rfl,Ub KZ (by decide) ?_ rfl⟩
  ·show attrsOk [⟨[],typeL,rssL,0⟩,⟨[],textL,lst f.title,0⟩,⟨[],xmlUrlL,lst f.id,0⟩,⟨[],htmlUrlL,lst f.link,0⟩] []=true;simp only[attrsOk,Zjt,ZfZ,Zei,ZhW,ZkM,A,D,H];decide
  ·show plainAs [⟨[],typeL,rssL,0⟩,⟨[],textL,lst f.title,0⟩,⟨[],xmlUrlL,lst f.id,0⟩,⟨[],htmlUrlL,lst f.link,0⟩]=true;simp only[plainAs,List.all_cons,List.all_nil,Zja,ZfM,Zd4,ZhH];decide
theorem VV:∀(ks:List Nd) (data:Bool),elems ks->(∀k∈ks,nodeOk (d+1) k=true)->kidsOk d data ks=true
 | [],_,_,_=>rfl
 |x::xs,data,he,h=>by
  rw[kidsOk,Zg (by rw[he x ZS];decide),h x ZS,XF]
  exact VV xs _ (λk A=>he k (ZJ _ A)) λk A=>h k (ZJ _ A)
theorem VY:∀ks:List Nd,(∀k∈ks,k.plain=true)->Nds.plain ks=true
 | [],_=>rfl
 |x::xs,h=>by
  rw[Nds.plain,h x ZS,XF]
  exact VY xs λk A=>h k (ZJ _ A)
theorem Zkh {s:ByteArray} {ks:List Nd} (H:charsOk (lst s)=true) (F:d<=100) (D:elems ks) (h:∀k∈ks,nodeOk (d+1) k=true/\k.plain=true):nodeOk d (foldN s ks)=true/\(foldN s ks).plain=true:=by
 have e1:foldN s ks= .mk 0 [] outlineL [⟨[],textL,lst s,0⟩] ks [] 0:=by unfold foldN elemN withP;rw[Jz D];rfl
 rw[e1];refine ⟨JL F Iu ?_ (VV ks false D λk A=>(h k A).1),Ub KZ (by decide) ?_ (VY ks λk A=>(h k A).2)⟩
 ·simp only[attrsOk,ZfZ,H];decide
 ·simp only[plainAs,List.all_cons,List.all_nil,ZfM];decide
theorem Zdy {rec_:List Fd->List Nd} {path:List ByteArray} {e:Nat} (J:path.length=d) (K:e<=100)
 (h:∀(s:ByteArray) (g:List Fd),asc g->(∀x∈g,Pref (path++ [s]) x/\okC x)->elems (rec_ g)/\∀k∈rec_ g,nodeOk (e+1) k=true/\k.plain=true):
 ∀(f:Nat) (l:List Fd),asc l->(∀x∈l,Pref path x/\okC x/\d<x.path.length)->∀k∈foldsP rec_ d f l,nodeOk e k=true/\k.plain=true
 |0,l,_,_=>(by rw[foldsP];intro k A;cases A)
 |f+1,[],_,_=>(by rw[foldsP];intro k A;cases A)
 |f+1,x::t,hs,hl=>by
  rw[foldsP];intro k A;rcases ZI.1 A with rfl|A
  ·have H:=Zgn x t d;have M:=h (pathAt x d) ((x::t).take ((x::t).takeWhile λy=>decide (pathAt y d=pathAt x d)).length) (Eo (List.take_sublist _ _) hs) λy I=>(by have F:=hl y (Jr I);refine ⟨?_,F.2.1⟩;rw[<-H y I];exact F.1.next J F.2.2);have Q:=hl x ZS;have D:pathAt x d∈x.path:=(by unfold pathAt;rw[Z0,Zj Q.2.2];exact Zz _);exact Zkh (Q.2.1.2.2.2 _ D) K M.1 M.2
  ·exact Zdy J K h f _ (Eo (List.drop_sublist _ _) hs) (λy I=>hl y (YV I)) k A
theorem Zgt:∀(f d e:Nat) (path:List ByteArray) (l:List Fd),path.length=d->f+e<=90->asc l->(∀x∈l,Pref path x/\okC x)->∀k∈outsP f d l,nodeOk e k=true/\k.plain=true
 |0,d,e,path,l,_,_,_,_=>(by rw[outsP];intro k h;cases h)
 |f+1,d,e,path,l,hd,hf,hs,hl=>by
  obtain ⟨n,H⟩:∃n,(l.takeWhile λx=>decide (x.path.length=d)).length=n:=⟨_,rfl⟩
  have I:=KI hd hs λx A=>(hl x A).1
  have D:l.takeWhile (λx=>decide (x.path.length=d))=l.take n:=by rw[<-H];exact Xn.1 (JQ _)
  rw[H] at I
  rw[outsP,D,show (l.take n).length=n by rw[<-D,H]]
  intro k h
  rcases Zu.1 h with h|h
  ·obtain ⟨x,A,rfl⟩:=ZO.1 h
   exact Zkg (hl x (Jr A)).2 (by omega)
  ·exact Zdy hd (by omega) (λs g J F=>⟨UU _ _ _,Zgt f (d+1) (e+1) (path++ [s]) g (by rw[Zd,hd];rfl) (by omega) J F⟩) (l.length+1) (l.drop n) (Eo (List.drop_sublist _ _) hs) (λx A=>⟨(hl x (YV A)).1,(hl x (YV A)).2,I.2 x A⟩) k h
theorem ZjK {K:List Nd} (h:elems K):withP (elemN opmlL K) [(versionL,twoL)]= .mk 0 [] opmlL [⟨[],versionL,twoL,0⟩] K [] 0:=by
 unfold elemN;rw[Jz h];rfl
theorem Zk7 {l:List Fd} (h:okA l=true):nodeOk 1 (encP l)=true/\(encP l).plain=true:=by
 have J:=Zgt 66 0 3 [] l rfl (by omega) (Zgf h) λx M=>⟨⟨x.path,rfl⟩,Zku (Jq.1 ((Ve.1 h).1 x M)).1⟩;have K:=UU 66 0 l;have e1:elemN bodyL (outsP 66 0 l)= .mk 0 [] bodyL [] (outsP 66 0 l) [] 0:=by unfold elemN;rw[Jz K]
 have F:nodeOk 2 (elemN bodyL (outsP 66 0 l))=true/\(elemN bodyL (outsP 66 0 l)).plain=true:=by rw[e1];exact ⟨JL (by omega) Zln rfl (VV _ false K λk A=>(J k A).1),Ub Zli (by decide) rfl (VY _ λk A=>(J k A).2)⟩
 have H:nodeOk 2 (elemN headL [])=true/\(elemN headL []).plain=true:=⟨JL (by omega) Zlo rfl rfl,Ub Zlj (by decide) rfl rfl⟩;have I:elems [elemN headL [],elemN bodyL (outsP 66 0 l)]:=λk A=>by
  rcases ZI.1 A with rfl|A
  ·rfl
  ·rw[Zo.1 A];rfl
 have D:∀k∈ [elemN headL [],elemN bodyL (outsP 66 0 l)],nodeOk 2 k=true/\k.plain=true:=λk A=>by
  rcases ZI.1 A with rfl|A
  ·exact H
  ·rw[Zo.1 A];exact F
 unfold encP;rw[ZjK I];refine ⟨JL (by omega) Zlp ?_ (VV _ false I λk A=>(D k A).1),Ub Zlk (by decide) ?_ (VY _ λk A=>(D k A).2)⟩
 ·rw[attrsOk,ZhX,Zlr];rfl
 ·show plainAs [⟨[],versionL,twoL,0⟩]=true;unfold plainAs;rw[List.all_cons,ZhI];rfl
end
section
variable {B c g k m n:Nat} {P:Program} {a:Act} {e:TypeId} {o:Oper} {ops:Array Oper} {w:World}
section
variable {P:Program} {md:Region.Mode} {ops:Array Oper} {Q:Exit→Act→World→Prop} {S:World→Prop} {T:Array Bool→Act→World→Prop} {t:Nat}
def wpAnyC (P:Program) (md:Region.Mode) (ops:Array Oper) (Q:Exit->Act->Wq->Prop) (S:Wq->Prop) (T:Array Bool->Act->Wq->Prop):Nat->Array Bool->Act->Wq->Prop
 |0,listed,a,w=>T listed a w
 |f+1,listed,a,w=>(Region.ready md ops listed= []->Q .normal a w)/\
  ∀i∈Region.ready md ops listed,wpOp P ops Q i (λa' w'=>S w'/\wpAnyC P md ops Q S T f (listed.setIfInBounds i true) a' w') a w
theorem ZaP (D:∀L a w,T L a w->wpAnyT P md ops Q S t m L a w):∀(f k:Nat) (listed:Array Bool) (a:Act) (w:Wq),k=f+m->wpAnyC P md ops Q S T f listed a w->wpAnyT P md ops Q S t k listed a w
 |0,k,listed,a,w,hk,h=>by rw[hk,Yu];exact D _ _ _ h
 |f+1,k,listed,a,w,hk,h=>by
  rw[hk,show f+1+m=(f+m)+1 by omega]
  exact ⟨h.1,λi F=>JJ (λa' w' A=>⟨λ_=>A.1,ZaP D f (f+m) _ a' w' rfl A.2⟩) (h.2 i F)⟩
theorem ZeT {f:Nat} {l:List Oper} {listed:Array Bool} (H:k=f+m) (A:Array Bool) (R:Act->Act->Wq->Prop)
 (D:wpAnyC P md l.toArray Q S (λL a' w'=>L=A/\R a a' w') f listed a w) (F:∀a' w',R a a' w'->wpAnyT P md l.toArray Q S t m A a' w'):wpAnyT P md l.toArray Q S t k listed a w:=
 ZaP (λL a w h=>by obtain ⟨rfl,h⟩:=h;exact F a w h) f k listed a w H D
theorem ZaO (D:∀L a w,T L a w->wpAnyS P md ops Q S m L a w):∀(f k:Nat) (listed:Array Bool) (a:Act) (w:Wq),k=f+m->wpAnyC P md ops Q S T f listed a w->wpAnyS P md ops Q S k listed a w
 |0,k,listed,a,w,hk,h=>by rw[hk,Yu];exact D _ _ _ h
 |f+1,k,listed,a,w,hk,h=>by
  rw[hk,show f+1+m=(f+m)+1 by omega]
  exact ⟨h.1,λi F=>JJ (λa' w' A=>⟨A.1,ZaO D f (f+m) _ a' w' rfl A.2⟩) (h.2 i F)⟩
theorem I4 {f:Nat} {l:List Oper} {listed:Array Bool} (H:k=f+m) (A:Array Bool) (R:Act->Act->Wq->Prop)
 (D:wpAnyC P md l.toArray Q S (λL a' w'=>L=A/\R a a' w') f listed a w) (F:∀a' w',R a a' w'->wpAnyS P md l.toArray Q S m A a' w'):wpAnyS P md l.toArray Q S k listed a w:=
 ZaO (λL a w h=>by obtain ⟨rfl,h⟩:=h;exact F a w h) f k listed a w H D
section
variable {l:List Oper} {f:Nat} {listed:Array Bool} {a:Act} {w:World} {i j k:Nat} {oi oj ok:Oper}
end
end
section
variable {P:Program} {md:Region.Mode} {Q:Exit→Act→World→Prop} {S:World→Prop} {t:Nat} {l:List Oper} {f:Nat} {listed:Array Bool} {a:Act} {w:World} {i j:Nat} {oi oj:Oper}
theorem ZaQ (M:l[i]? =some oi) (R:l[j]? =some oj) (V:Region.ready md l.toArray listed= [i,j])
 (H:∀K:Act->Wq->Prop,(∀a' w',((listed.setIfInBounds i true).getD t true=false->S w')->wpAnyT P md l.toArray Q S t f (listed.setIfInBounds i true) a' w'->K a' w')->if Region.wanted oi (yielded l.toArray a.tmps) then Oper.wp P oi a w K Q else K (a.put oi.dst undef) w)
 (I:∀K:Act->Wq->Prop,(∀a' w',((listed.setIfInBounds j true).getD t true=false->S w')->wpAnyT P md l.toArray Q S t f (listed.setIfInBounds j true) a' w'->K a' w')->if Region.wanted oj (yielded l.toArray a.tmps) then Oper.wp P oj a w K Q else K (a.put oj.dst undef) w):wpAnyT P md l.toArray Q S t (f+1) listed a w:=by
 refine ⟨λh=>(by rw[V] at h;cases h),λq A=> ?_⟩;have D:∀(q:Nat) (o:Oper),l[q]? =some o->(∀K:Act->Wq->Prop,(∀a' w',((listed.setIfInBounds q true).getD t true=false->S w')->wpAnyT P md l.toArray Q S t f (listed.setIfInBounds q true) a' w'->K a' w')->if Region.wanted o (yielded l.toArray a.tmps) then Oper.wp P o a w K Q else K (a.put o.dst undef) w)->
  wpOp P l.toArray Q q (λa' w'=>((listed.setIfInBounds q true).getD t true=false->S w')/\wpAnyT P md l.toArray Q S t f (listed.setIfInBounds q true) a' w') a w:=by
  intro q o X h
  have J:l.toArray[q]? =some o:=by rw[Yl];exact X
  have F:=h (λa' w'=>((listed.setIfInBounds q true).getD t true=false->S w')/\wpAnyT P md l.toArray Q S t f (listed.setIfInBounds q true) a' w') λ_ _ H I=>⟨H,I⟩
  unfold wpOp
  simp only[J]
  split
  ·rename_i U;rw[Zl U] at F;exact Or.inl F
  ·rename_i U;rw[Zg U] at F;exact F
 rw[V] at A;simp only[ZI,Yg,Xx] at A;rcases A with A|A
 ·rw[A];exact D i oi M H
 ·rw[A];exact D j oj R I
theorem U4 (H:l[i]? =some oi) (M:Region.ready md l.toArray listed= [i])
 (D:∀K:Act->Wq->Prop,(∀a' w',((listed.setIfInBounds i true).getD t true=false->S w')->wpAnyT P md l.toArray Q S t f (listed.setIfInBounds i true) a' w'->K a' w')->if Region.wanted oi (yielded l.toArray a.tmps) then Oper.wp P oi a w K Q else K (a.put oi.dst undef) w):wpAnyT P md l.toArray Q S t (f+1) listed a w:=by
 refine ⟨λh=>(by rw[M] at h;cases h),λq J=> ?_⟩;rw[M] at J;rw[Zo.1 J];have F:l.toArray[i]? =some oi:=by rw[Yl];exact H
 have A:=D (λa' w'=>((listed.setIfInBounds i true).getD t true=false->S w')/\wpAnyT P md l.toArray Q S t f (listed.setIfInBounds i true) a' w') λ_ _ D R=>⟨D,R⟩;unfold wpOp;simp only[F];split
 ·rename_i I;rw[Zl I] at A;exact Or.inl A
 ·rename_i I;rw[Zg I] at A;exact A
theorem G0 (A:Region.ready md l.toArray listed= []) (h:Q .normal a w):wpAnyT P md l.toArray Q S t 0 listed a w:=⟨A,h⟩
end
theorem Zec {size:Nat}:∀(vs:List Value) (j:Nat) (w:Wq) (xs:List Value),w.ownsRow B e size (.slice (some ⟨g,0,none⟩) n c) n xs->j+vs.length<=n*size->
 (w.setCells g j vs).ownsRow B e size (.slice (some ⟨g,0,none⟩) n c) n (xs.take j++vs++xs.drop (j+vs.length))
 | [],j,w,xs,h,_=>by rw[Ye,ZT,Nat.add_zero,YZ];exact h
 |v::r,j,w,xs,h,hl=>by
  have A:=h.1;rw[Ze] at hl;have ih:=Zec r (j+1) _ _ (Zgu h (j:=j) (by omega) v) (by omega);have e1:(xs.set j v).take (j+1)=xs.take j++ [v]:=by rw[List.take_set,Zq (show j<xs.length by omega)];rw[List.set_append_right _ _ (by rw[ZG];omega)];rw[ZG,show j - min j xs.length=0 by omega];rfl
  have e2:(xs.set j v).drop (j+1+r.length)=xs.drop (j+(v::r).length):=by rw[Ze,show j+(r.length+1)=j+1+r.length by omega,List.drop_set_of_lt (by omega)]
  rw[e1,e2,Ym (xs.take j)] at ih;exact ih
theorem V6 (g:Nat):∀(vs:List Value) (j:Nat) (w:Wq),w.grownBy (w.setCells g j vs) (some g)
 | [],j,w=>(Ext.refl w).grown (some g)
 |v::r,j,w=>(Yo w ⟨g,j,none⟩ v).trans (V6 g r (j+1) _)
theorem Vo {K:Act->Wq->Prop} {Q:Exit->Act->Wq->Prop} {E:Prop} (H:o.guard=none) (ty:TypeId) (x y:Operand) (S:o.op= .store ty x y)
 (g A:Nat) (cells:Array Value) (Y:a.eval x= .pointer (some ⟨g,A,none⟩)) (Z:a.eval y= .agg cells)
 (I:(P.info? ty).map (·.size)=some cells.size) (M:∀j,j<cells.size->(w.cell? ⟨g,A+j,none⟩).isSome=true) (R:∀j,w.frozen? ⟨g,j,none⟩=false) (J:cells.all (·.oneCell')=true)
 (h:K (a.put o.dst undef) (w.setCells g A cells.toList)):if Region.wanted o (yielded ops a.tmps)=true then Oper.wp P o a w K Q else E:=by
 have X:Region.wanted o (yielded ops a.tmps)=true:=by simp[Region.wanted,H]
 rw[Zl X];have F:=run_storeCells_cells (P:=P) g A cells.toList 0 w (by simpa using M) (λj _=>R _) (λv V=>(Array.all_eq_true_iff_forall_mem.1 J) v (by simpa using V));have D:(storeVar ty ⟨g,A,none⟩ (.agg cells)).run P w= .ok () (w.setCells g A cells.toList):=by
  cases hq:P.info? ty with
  |none=>simp[hq] at I
  |some i=>have U:cells.size=i.size:=(by simp[hq] at I;omega);simp only[Nat.add_zero] at F;simp[storeVar,sizeOf,typeInfo,hq,Value.cells,U,F]
 unfold Oper.wp execOp;simp only[S,Y,Z,Instr.storeAt,Instr.sureAddr,Sem.run_bind,Sem.run_pure,Result.andThen_ok,D];exact h
end
end Go.Proofs.YtnlafkgkcnenfaaGreatDoor
