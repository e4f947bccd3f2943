/- Parts of the proof: contracts and plain laws. -/
import Derived.Test.YtnlafkgkcnenfaaGreatDoorP12
namespace Go.Proofs.YtnlafkgkcnenfaaGreatDoor
open Go Go.RowKit Tryz
set_option linter.unusedVariables false
set_option linter.unusedSimpArgs false
set_option maxRecDepth 100000
set_option maxHeartbeats 16000000
section
variable {c j:Nat} {w:World}
theorem ZjT:prog.underlying 52=some (.slice (prog.elem 52)):=by kernel_rfl
theorem Zlm (w:Wq):(Go.sizeOf (prog.elem 52)).run prog w= .ok 1 w:=by kernel_rfl
theorem Znm {A:Option Addr} {l:List ByteArray} (n:Nat) (h:RStrs w (.slice A l.length c) l) (Z:n<=l.length):
 ∃J c2,(∀F:Wq,(Instr.slice 52 (.slice A l.length c) (some (nI (n:Int))) none none).run prog F= .ok (.slice J (l.length - n) c2) F)/\RStrs w (.slice J (l.length - n) c2) (l.drop n):=by
 obtain ⟨V,S,U,e,X,K,M,Q⟩:=h;injection e with e1 e2 e3;subst e1 e3;clear e2;have D:(l.drop n).length=l.length - n:=Zk;refine ⟨if c=n then A else A.map (·.add (n*1)),c - n,λF=> ?_,?_⟩
 ·rw[run_slice_l (P:=prog) (w:=F) 52 A l.length c ZjT .i64 (n:Int) (by omega) (by omega),Zlm];rfl
 ·unfold RStrs;rw[D];refine ⟨by rw[Zl,D,Nat.mul_one],_,_,rfl,by omega,Zx (Jp _ _) K,λe=> ?_,λj u I=> ?_⟩
  ·by_cases H:c=n
   ·omega
   ·rw[Zf H] at e;have:=M (by cases A with|none=>rfl|some _=>cases e);omega
  ·rw[List.map_drop,List.getElem?_drop] at I;obtain ⟨ad,R,H⟩:=Q (n+j) u I;subst R;have Y:n+j<l.length:=(by have:=(ZS.1 I).1;rwa [Zl] at this);refine ⟨ad.add n,by rw[Zf (by omega),Nat.mul_one];rfl,?_⟩;rw[UX];exact H
def pairS (ps:List (List UInt8×List UInt8)):List ByteArray:=(ps.map λp=> [str p.1,str p.2]).flatten
theorem Zdk (ps:List (List UInt8×List UInt8)):(pairS ps).length=2*ps.length:=by
 induction ps with
 |nil=>rfl
 |cons p t ih=>have e:pairS (p::t)=str p.1::str p.2::pairS t:=rfl;rw[e,Ze,Ze,Ze,ih];omega
theorem Zhz {ps:List (List UInt8×List UInt8)} (h:j<ps.length):pairS (ps.drop j)=str ps[j].1::str ps[j].2::pairS (ps.drop (j+1)):=by
 rw[Zj h];rfl
theorem Gz (l:List AtP):(flatA l).length=l.length*4:=by
 induction l with
 |nil=>rfl
 |cons x t ih=>
  have e:flatA (x::t)=cellsA x++flatA t:=by unfold flatA;simp
  rw[e,Zc,ih,Ze];show 4+_=_;omega
def slLen:Value->Nat
 | .slice _ n _=>n
 |_=>0
theorem ZkL (m:Nat):Int.tdiv ((2*m:Nat):Int) 2=(m:Int):=by
 rw[Int.tdiv_eq_ediv_of_nonneg (by omega)];omega
theorem Zgy (k:Nat) (s n:List UInt8) (al ks:Value) (l0:List AtP) (m2 d:Nat) (B0:Option Addr) (t:List UInt8) (a:Nat) (v:Value) (ps:List (List UInt8×List UInt8)) (w:Wq) (ha:RAts w al l0) (gj:ks= .slice B0 m2 d) (hv:RStrs w v (pairS ps)) (hn:l0.length+ps.length<=1000000):
 Calls prog 46 #[.agg #[nI (k:Nat),.string (str s),.string (str n),al,ks,.string (str t),nI (a:Nat)],v] w λe w'=>
  ∃al',e= .returned (.agg #[nI (k:Nat),.string (str s),.string (str n),al',ks,.string (str t),nI (a:Nat)])/\w'.ownsRow w.heap.size 88 4 al' (l0.length+ps.length) (flatA (l0++ps.map pairA))/\Ext w w':=by
 obtain ⟨i0,hO,hV,hW,hX⟩:=YG ZdW;obtain ⟨A,c,gh, -, -⟩:=ha.form;subst gh;subst gj;obtain ⟨D,dc,gp, -, -⟩:=RStrs.form hv;have hQ:=Zdk ps;subst gp;obtain ⟨q,hq⟩:∃q,(pairS ps).length=q:=⟨_,rfl⟩;have gn:(prog.info? 88).map (λi=>i.size)=some 4:=by kernel_rfl
 obtain ⟨W1,hd⟩:∃W1,(w.alloc (.cells #[nI (k:Nat),.string (str s),.string (str n),.slice A l0.length c,.slice B0 m2 d,.string (str t),nI (a:Nat)] 25)).alloc (.cells #[nI 0,eS,eS,sN,sN,eS,nI 0] 25)=W1:=⟨_,rfl⟩;have hT:Ext w W1:=by rw[<-hd];exact ((Ext.refl w).alloc _).alloc _
 have hw:BxN W1 w.heap.size k s n (.slice A l0.length c) (.slice B0 m2 d) t a:=by rw[<-hd];exact (J1 _ _ (by rw[Zs];omega)).trans (Zg w _)
 have hZ:W1.heap[w.heap.size+1]? =some (.cells #[nI 0,eS,eS,sN,sN,eS,nI 0] 25 (0,0)):=by rw[<-hd];exact YI w _ _
 have hR:W1.heap.size=w.heap.size+2:=by rw[<-hd,Zs,Zs]
 obtain ⟨b0,b1,b2,b3,b4,b5,b6⟩:=hw.cells;have hs:=gd hT;have hF:=gd hw;have gg:=gd hZ;have hr:=gd hR;have HA:=gd ha;have HV:=gd hv;have HN:=gd hn;have hy:q=2*ps.length:=by rw[<-hq,hQ]
 have HQ:=gd hq;have gw:=gd hy;rw[hq];have gr:Int.tdiv ((q:Nat):Int) 2=(ps.length:Int):=by rw[hy];exact ZkL _
 clear hT hw hZ hR ha hv hq hy hQ;go_enter func46,ntmps46;have hP:l0.length+ps.length<=1000000:=HN.out
 go_wp2_with (first|(refine Zaj W1 rfl (.tmp 8) (.tmp 15) 22 rfl 88 i0 _ 4 underlying22 hO hV hW .i64 .i64 _ _ l0.length (l0.length+ps.length) rfl rfl rfl (Int.natCast_add _ _).symm (Nat.le_add_right _ _) (by rw[hX];omega) (by unfold maxLen;omega) ?_;(obtain ⟨zc,hD⟩:∃zc,madeCells (Value.cells (.agg #[eS,eS,eS,nI 0])) ((l0.length+ps.length)*4)=zc:=⟨_,rfl⟩);rw[hD];(have hE:zc.size=(l0.length+ps.length)*4:=by rw[<-hD];exact size_madeCells _ _);(obtain ⟨W2,he⟩:∃W2,W1.alloc (.cells zc 88)=W2:=⟨_,rfl⟩);rw[he];(have hl:Ext W1 W2:=by rw[<-he];exact (Ext.refl _).alloc _);(have Z:W2.heap[W1.heap.size]? =some (.cells zc 88 (0,0)):=by rw[<-he];exact Zg W1 _);obtain ⟨d0,d1,d2,d3,d4,d5,d6⟩:=(hF.out.ext hl).cells;clear b0 b1 b2 b3 b4 b5 b6 he hD)|(refine Ey rfl (.tmp 17) (.tmp 19) _ _ rfl 88 4 underlying22 gn W1.heap.size l0.length (l0.length+ps.length) l0.length A l0.length c rfl rfl zc 88 Z (flatA l0) (Nat.min_self _).symm (Gz l0) (λj u hu=>RSl.at1' (HA.out.ext (hs.out.trans hl)) j u hu) (by rw[Gz,hE];omega) (Zg2 l0) ?_))
 have R:(W2.setRow W1.heap.size (flatA l0++zc.toList.drop (flatA l0).length).toArray).ownsRow W1.heap.size 88 4 (.slice (some ⟨W1.heap.size,0,none⟩) l0.length (l0.length+ps.length)) l0.length (flatA l0):=
  Zd8 (Zp _ _ _ _ _ _ Z) (Zb _) (Gz l0) (Nat.le_add_right _ _) (by unfold maxLen;omega) (by have h1:zc.toList.length=zc.size:=rfl;rw[Zc,Zk,Gz,h1,hE];omega)
 have hc:Ext W1 (W2.setRow W1.heap.size (flatA l0++zc.toList.drop (flatA l0).length).toArray):=hl.setRow (Zb _) _;obtain ⟨W3,hJ⟩:∃W3,W2.setRow W1.heap.size (flatA l0++zc.toList.drop (flatA l0).length).toArray=W3:=⟨_,rfl⟩;rw[hJ] at R hc|-;clear hJ hl Z hE d0 d1 d2 d3 d4 d5 d6 hP;have h5:=gd R;have gb:=gd hc;clear R hc;go_wp2;go_simp;have gl:q=(pairS (ps.drop 0)).length:=HQ.out.symm;go_loopw [1,5] (λv u wr=>∃(j:Nat),j<=ps.length/\RStrs W1 v (pairS (ps.drop j))/\wr.ownsRow W1.heap.size 88 4 u (l0.length+j) (flatA (l0++(ps.take j).map pairA))/\Ext W1 wr) (λv _ _=>slLen v)
 case atStart=>exact ⟨0,Zh _,(by have h:=HV.out.ext hs.out;rw[HQ.out] at h;exact h),(by rw[List.take_zero,Yr,ZX];exact h5.out),gb.out⟩
 case round=>
  obtain ⟨j,hj,U,F,hx⟩:=hrel;obtain ⟨D1,c1,rfl, -, -⟩:=RStrs.form U;obtain ⟨G,gc,rfl⟩:=Ye F;have J:=Zdk (ps.drop j);rw[Zk] at J;by_cases hi:j<ps.length
  ·obtain ⟨D2,c2,hA,X⟩:=Znm 2 U (by omega);have hk:=Zhz hi;obtain ⟨ad,hL,H⟩:=RSl.at1' U 0 (.string (str ps[j].1)) (by rw[hk];rfl);obtain ⟨gx,V,Q⟩:=RSl.at1' U 1 (.string (str ps[j].2)) (by rw[hk];rfl);rw[hL] at V;injection V with V;subst V;subst hL;rw[add_zero] at H;rw[show ad.add 1=⟨ad.block,ad.off+1,none⟩ from Zf (by omega)] at Q;have h3:ad.block<W1.heap.size:=ZY W1 _ H;have H:=hx.cell H;have Q:=hx.cell Q;have hdr:(pairS (ps.drop j)).drop 2=pairS (ps.drop (j+1)):=(by rw[hk];rfl);rw[hdr] at X;obtain ⟨rl,gm⟩:∃rl,(pairS (ps.drop j)).length=rl:=⟨_,rfl⟩;rw[gm] at hA X J|-;have gz:(1:Int)<(rl:Int):=(by omega);have gy:(0:Int)<(rl:Int):=(by omega);have gs:¬rl=0:=(by omega);have gt:∀wx:Wq,(Instr.slice 52 (.slice (some ad) rl c1) (some (nI 2)) none none).run prog wx= .ok (.slice D2 (rl - 2) c2) wx:=hA;have hB:(ps.take (j+1)).map pairA=(ps.take j).map pairA++ [pairA ps[j]]:=(by rw[Zr hi,ZO];rfl);obtain ⟨p,hp⟩:∃p,ps[j]=p:=⟨_,rfl⟩;rw[hp] at H Q hB;have h8:=gd J;clear J;have ga:=gd hB;have h9:=gd X;have hm:=gd F;have ht:=gd hx;have ho:Hid ((Value.slice G (l0.length+j) gc).ownBlock≠some ad.block):=gd (λe=>by
    have h1:=(hm.out.lt _ e).1;omega)
   clear h3;have hP:l0.length+ps.length<=1000000:=HN.out;clear U X hA hk hdr hB hp F hx gl;go_wp2;refine rN ?_;change wpAny _ _ _ _ _ _ _ (World.drew _);have hC:=(Ext.refl wr).drew;have I:wr.drew.cell? ad=some (.string (str p.1))/\wr.drew.cell? ⟨ad.block,ad.off+1,none⟩=some (.string (str p.2)):=⟨hC.cell H,hC.cell Q⟩;refine Ym (λw'=>w'.cell? ad=some (.string (str p.1))/\w'.cell? ⟨ad.block,ad.off+1,none⟩=some (.string (str p.2))) ?_;refine tG 0 (.slice G (l0.length+j) gc) I ?_;refine tG 1 (.slice (some ad) rl c1) I ?_;refine tG 2 (.pointer (some ad)) I ?_;refine tS 3 (.string (str p.1)) rfl (λw' hS=>by have q1:=hS.1;go_simp) I ?_;refine tG 4 (.slice (some ad) rl c1) I ?_;refine tG 5 (.pointer (some (ad.add 1))) I ?_;refine tS 6 (.string (str p.2)) rfl (λw' hS=>by have q1:=hS.2;go_simp) I ?_;refine tG 7 (.agg #[eS,.string (str p.1),.string (str p.2),nI 0]) I ?_;go_simp;refine sS 8 λK hK=> ?_;go_simp;have M:=hC.alloc (.cells #[eS,.string (str p.1),.string (str p.2),nI 0] 88);refine hK _ _ ⟨M.cell H,M.cell Q⟩ ?_;clear hK K;have hG:Hid (RSl (wr.drew.alloc (.cells #[eS,.string (str p.1),.string (str p.2),nI 0] 88)) 4 (.slice (some ⟨wr.heap.size,0,none⟩) 1 1) 1 (cellsA (pairA p))):=gd (Yq (w:=wr.drew) (n:=1) (cs:=cellsA (pairA p)) rfl (by decide));have hH:=gd (Yl hm.out M);refine sS 9 λK hK=> ?_;refine ZW _ (by rfl) (.tmp 26) (.tmp 34) _ (by rfl) W1.heap.size 88 i0 _ 4 56 underlying22 hO hV hW hX rfl (by decide) _ (l0.length+j) (flatA (l0++(ps.take j).map pairA)) (by rfl) hH.out _ 1 (cellsA (pairA p)) (by rfl) hG.out (Uj _) (by unfold maxLen;omega) (by omega) (ht.out.trans M).size ?_;intro v9 w9 S hh hM;have gq:Ext W1 w9:=Ext.app (ht.out.trans M) hh hH.out (Zb _);have h4:=gd (ZY wr _ H);have hI:w9.cell? ad=some (.string (str p.1))/\w9.cell? ⟨ad.block,ad.off+1,none⟩=some (.string (str p.2)):=(by have gk:(Value.slice G (l0.length+j) gc).ownBlock≠some ad.block:=ho.out;have hb:w9.heap[ad.block]? =(wr.drew.alloc (.cells #[eS,.string (str p.1),.string (str p.2),nI 0] 88)).heap[ad.block]?:=hh.block _ (YT h4.out M.size) (λe=>gk e.symm);exact ⟨(ZZ hb).trans (M.cell H),(ZZ (a:=⟨ad.block,ad.off+1,none⟩) hb).trans (M.cell Q)⟩);obtain ⟨V9,c9,go⟩:=Ye S;subst go;have h7:Hid (w9.ownsRow W1.heap.size 88 4 (.slice V9 (l0.length+j+1) c9) (l0.length+(j+1)) (flatA (l0++(ps.take (j+1)).map pairA))):=(by show w9.ownsRow _ _ _ _ _ _;rw[ga.out,<-ZN,Gy,GA];exact S);have gf:=gd gq;have gu:=gd hh;refine hK _ _ hI ?_;clear hK K S hh hM;refine sS 10 λK hK=> ?_;go_simp;refine hK _ _ hI ?_;clear hK K;refine sE ?_;go_wp2;go_roundw
   case rel=>exact ⟨j+1,hi,h9.out,h7.out,gf.out⟩
   case measure=>have:=h8.out;simp[slLen];omega
  ·have gi:j=ps.length:=(by omega);subst gi;have h0:pairS (ps.drop ps.length)= []:=(by rw[List.drop_length];rfl);rw[h0] at U|-;rw[List.take_length] at F;have HO:=gd F;have ht:=gd hx;have hg:=hF.out.ext hx;have hz:W1.heap.size=w.heap.size+2:=hr.out;have h2:=hx.heap gg.out;obtain ⟨b0,b1,b2,b3,b4,b5,b6⟩:=hg.cells;obtain ⟨-, -,f3, -⟩:=hg.frozen;obtain ⟨W5,hf⟩:∃W5,wr.setCell ⟨w.heap.size,3,none⟩ (.slice G (l0.length+ps.length) gc)=W5:=⟨_,rfl⟩;have hN:BxN W5 w.heap.size k s n (.slice G (l0.length+ps.length) gc) (.slice B0 m2 d) t a:=(by rw[<-hf];exact hg.attrs _);have hY:W5.heap[w.heap.size+1]? =some (.cells #[nI 0,eS,eS,sN,sN,eS,nI 0] 25 (0,0)):=(by rw[<-hf];exact (Z3 wr ⟨w.heap.size,3,none⟩ (w.heap.size+1) _ (by show w.heap.size+1≠w.heap.size;omega)).trans h2);have Y:W5.ownsRow W1.heap.size 88 4 (.slice G (l0.length+ps.length) gc) (l0.length+ps.length) (flatA (l0++ps.map pairA)):=(by rw[<-hf];exact ZnH F (by show w.heap.size<_;omega) _);have hU:Ext w W5:=(by rw[<-hf];exact (hs.out.trans hx).setCell (Zb _) _);obtain ⟨e0,e1,e2,e3,e4,e5,e6⟩:=hN.cells;have h6:=gd Y;have ge:=gd hU;clear F hx hg h2 Y hU hN hz J U hi hj h0
   go_wp2_with (first|(refine Zd rfl 25 (.tmp 4) (.tmp 38) rfl (w.heap.size+1) _ rfl rfl _ _ hY ZC rfl YM ?_))
   ((try simp only[Exit.inBlock,Exit.then]);refine Zn (Jr rfl _ _ _ _ _ _ _ rfl (Zp _ _ _ _ _ _ hY) underlying25 rfl ZC) rfl ?_);exact ⟨_,rfl,X2 (JB h6.out (by rw[hr.out];omega) _) (by rw[hr.out];omega),ge.out.setRow (Yh _) _⟩
end
theorem ZfZ (e:Ent) (w:Wq) (F:eokS e) (D:validS e.id=false):
 Calls prog 78 #[.agg (eCells e).toArray] w λx w'=>x= .returned (nI 22)/\Ext w w':=by
 obtain ⟨s0,H,I,J⟩:=F;have A:=gd (λw'=>Z0 e.id w' (by omega));rw[D] at A;clear s0 H I J D;obtain ⟨id,title,link,content,upd⟩:=e;unfold eCells;dsimp only at*;go_enter func78,ntmps78
 go_wp2_with (first|(go_at_call 76;(with_reducible refine Za (A.out _) ?_);rintro e w1 ⟨rfl,h⟩;(have K:=h.boxed 1 _ rfl)))
 go_ret;exact ⟨rfl,((Ext.refl _).alloc _).trans h⟩
theorem Zf0 (e:Ent) (w:Wq) (K:eokS e) (I:validS e.id=true) (J:validS e.title=false):
 Calls prog 78 #[.agg (eCells e).toArray] w λx w'=>x= .returned (nI 22)/\Ext w w':=by
 obtain ⟨s0,M,Q,R⟩:=K;have F:=gd (λw'=>Z0 e.id w' (by omega));rw[I] at F;have H:=gd (λw'=>Z0 e.title w' (by omega));rw[J] at H;clear s0 M Q R I J;obtain ⟨id,title,link,content,upd⟩:=e;unfold eCells;dsimp only at*;go_enter func78,ntmps78
 go_wp2_with (first|(go_at_call 76;(with_reducible refine Za (F.out _) ?_);rintro e w1 ⟨rfl,h⟩;(have S:=h.boxed 1 _ rfl))|(go_at_call 76;(with_reducible refine Za (H.out _) ?_);rintro e w2 ⟨rfl,D⟩;(have A:=h.trans D);(have U:=A.boxed 2 _ rfl)))
 go_ret;exact ⟨rfl,((Ext.refl _).alloc _).trans A⟩
theorem Zf1 (e:Ent) (w:Wq) (S:eokS e) (M:validS e.id=true) (Q:validS e.title=true) (R:validS e.link=false):
 Calls prog 78 #[.agg (eCells e).toArray] w λx w'=>x= .returned (nI 22)/\Ext w w':=by
 obtain ⟨s0,U,V,X⟩:=S;have I:=gd (λw'=>Z0 e.id w' (by omega));rw[M] at I;have J:=gd (λw'=>Z0 e.title w' (by omega));rw[Q] at J;have K:=gd (λw'=>Z0 e.link w' (by omega));rw[R] at K;clear s0 U V X M Q R;obtain ⟨id,title,link,content,upd⟩:=e;unfold eCells;dsimp only at*;go_enter func78,ntmps78
 go_wp2_with (first|(go_at_call 76;(with_reducible refine Za (I.out _) ?_);rintro e w1 ⟨rfl,h⟩;(have Y:=h.boxed 1 _ rfl))|(go_at_call 76;(with_reducible refine Za (J.out _) ?_);rintro e w2 ⟨rfl,F⟩;(have A:=h.trans F);(have Z:=A.boxed 2 _ rfl))|(go_at_call 76;(with_reducible refine Za (K.out _) ?_);rintro e w3 ⟨rfl,H⟩;(have D:=A.trans H);(have k3:=D.boxed 3 _ rfl)))
 go_ret;exact ⟨rfl,((Ext.refl _).alloc _).trans D⟩
theorem Zf2 (e:Ent) (w:Wq) (Y:eokS e) (S:validS e.id=true) (U:validS e.title=true) (V:validS e.link=true) (X:validS e.content=false):
 Calls prog 78 #[.agg (eCells e).toArray] w λx w'=>x= .returned (nI 22)/\Ext w w':=by
 obtain ⟨s0,Z,s2,s3⟩:=Y;have K:=gd (λw'=>Z0 e.id w' (by omega));rw[S] at K;have M:=gd (λw'=>Z0 e.title w' (by omega));rw[U] at M;have Q:=gd (λw'=>Z0 e.link w' (by omega));rw[V] at Q;have R:=gd (λw'=>Z0 e.content w' (by omega));rw[X] at R;clear s0 Z s2 s3 S U V X;obtain ⟨id,title,link,content,upd⟩:=e;unfold eCells;dsimp only at*;go_enter func78,ntmps78
 go_wp2_with (first|(go_at_call 76;(with_reducible refine Za (K.out _) ?_);rintro e w1 ⟨rfl,A⟩;(have k1:=A.boxed 1 _ rfl))|(go_at_call 76;(with_reducible refine Za (M.out _) ?_);rintro e w2 ⟨rfl,H⟩;(have D:=A.trans H);(have k2:=D.boxed 2 _ rfl))|(go_at_call 76;(with_reducible refine Za (Q.out _) ?_);rintro e w3 ⟨rfl,I⟩;(have F:=D.trans I);(have k3:=F.boxed 3 _ rfl))|(go_at_call 76;(with_reducible refine Za (R.out _) ?_);rintro e w4 ⟨rfl,J⟩;(have h:=F.trans J);(have k4:=h.boxed 0 _ rfl);(have k5:=h.boxed 4 _ rfl)))
 go_ret;exact ⟨rfl,((Ext.refl _).alloc _).trans h⟩
theorem Zf3 (e:Ent) (w:Wq) (Z:eokS e) (S:validS e.id=true) (U:validS e.title=true) (V:validS e.link=true) (X:validS e.content=true) (Y:e.id.toList.isEmpty=true):
 Calls prog 78 #[.agg (eCells e).toArray] w λx w'=>x= .returned (nI 22)/\Ext w w':=by
 obtain ⟨s0,s1,s2,s3⟩:=Z;have K:=gd (λw'=>Z0 e.id w' (by omega));rw[S] at K;have M:=gd (λw'=>Z0 e.title w' (by omega));rw[U] at M;have Q:=gd (λw'=>Z0 e.link w' (by omega));rw[V] at Q;have R:=gd (λw'=>Z0 e.content w' (by omega));rw[X] at R;clear s0 s1 s2 s3 S U V X;obtain ⟨id,title,link,content,upd⟩:=e;simp only at Y;unfold eCells;dsimp only at*;go_enter func78,ntmps78
 go_wp2_with (first|(go_at_call 76;(with_reducible refine Za (K.out _) ?_);rintro e w1 ⟨rfl,A⟩;(have k1:=A.boxed 1 _ rfl))|(go_at_call 76;(with_reducible refine Za (M.out _) ?_);rintro e w2 ⟨rfl,H⟩;(have D:=A.trans H);(have k2:=D.boxed 2 _ rfl))|(go_at_call 76;(with_reducible refine Za (Q.out _) ?_);rintro e w3 ⟨rfl,I⟩;(have F:=D.trans I);(have k3:=F.boxed 3 _ rfl))|(go_at_call 76;(with_reducible refine Za (R.out _) ?_);rintro e w4 ⟨rfl,J⟩;(have h:=F.trans J);(have k4:=h.boxed 0 _ rfl);(have k5:=h.boxed 4 _ rfl)))
 go_ret;exact ⟨rfl,((Ext.refl _).alloc _).trans h⟩
theorem Zf4 (e:Ent) (w:Wq) (hs:eokS e) (U:validS e.id=true) (V:validS e.title=true) (X:validS e.link=true) (Y:validS e.content=true) (h4:e.id.toList.isEmpty=false) (Z:inT e.upd=false):
 Calls prog 78 #[.agg (eCells e).toArray] w λx w'=>x= .returned (nI 22)/\Ext w w':=by
 obtain ⟨s0,s1,s2,s3⟩:=hs;have K:=gd (λw'=>Z0 e.id w' (by omega));rw[U] at K;have M:=gd (λw'=>Z0 e.title w' (by omega));rw[V] at M;have Q:=gd (λw'=>Z0 e.link w' (by omega));rw[X] at Q;have R:=gd (λw'=>Z0 e.content w' (by omega));rw[Y] at R;have S:=gd (λw'=>UD e.upd w');rw[Z] at S;clear s0 s1 s2 s3 U V X Y Z;obtain ⟨id,title,link,content,upd⟩:=e;simp only at h4;unfold eCells;dsimp only at*;go_enter func78,ntmps78
 go_wp2_with (first|(go_at_call 76;(with_reducible refine Za (K.out _) ?_);rintro e w1 ⟨rfl,A⟩;(have k1:=A.boxed 1 _ rfl))|(go_at_call 76;(with_reducible refine Za (M.out _) ?_);rintro e w2 ⟨rfl,H⟩;(have D:=A.trans H);(have k2:=D.boxed 2 _ rfl))|(go_at_call 76;(with_reducible refine Za (Q.out _) ?_);rintro e w3 ⟨rfl,I⟩;(have F:=D.trans I);(have k3:=F.boxed 3 _ rfl))|(go_at_call 76;(with_reducible refine Za (R.out _) ?_);rintro e w4 ⟨rfl,J⟩;(have h:=F.trans J);(have k4:=h.boxed 0 _ rfl);(have k5:=h.boxed 4 _ rfl))|(go_at_call 77;(with_reducible refine Za (S.out _) ?_);rintro e w5 ⟨rfl,rfl⟩))
 go_ret;exact ⟨rfl,((Ext.refl _).alloc _).trans h⟩
theorem Zf5 (e:Ent) (w:Wq) (hs:eokS e) (U:validS e.id=true) (V:validS e.title=true) (X:validS e.link=true) (Y:validS e.content=true) (h4:e.id.toList.isEmpty=false) (Z:inT e.upd=true):
 Calls prog 78 #[.agg (eCells e).toArray] w λx w'=>x= .returned (nI 0)/\Ext w w':=by
 obtain ⟨s0,s1,s2,s3⟩:=hs;have K:=gd (λw'=>Z0 e.id w' (by omega));rw[U] at K;have M:=gd (λw'=>Z0 e.title w' (by omega));rw[V] at M;have Q:=gd (λw'=>Z0 e.link w' (by omega));rw[X] at Q;have R:=gd (λw'=>Z0 e.content w' (by omega));rw[Y] at R;have S:=gd (λw'=>UD e.upd w');rw[Z] at S;clear s0 s1 s2 s3 U V X Y Z;obtain ⟨id,title,link,content,upd⟩:=e;simp only at h4;unfold eCells;dsimp only at*;go_enter func78,ntmps78
 go_wp2_with (first|(go_at_call 76;(with_reducible refine Za (K.out _) ?_);rintro e w1 ⟨rfl,A⟩;(have k1:=A.boxed 1 _ rfl))|(go_at_call 76;(with_reducible refine Za (M.out _) ?_);rintro e w2 ⟨rfl,H⟩;(have D:=A.trans H);(have k2:=D.boxed 2 _ rfl))|(go_at_call 76;(with_reducible refine Za (Q.out _) ?_);rintro e w3 ⟨rfl,I⟩;(have F:=D.trans I);(have k3:=F.boxed 3 _ rfl))|(go_at_call 76;(with_reducible refine Za (R.out _) ?_);rintro e w4 ⟨rfl,J⟩;(have h:=F.trans J);(have k4:=h.boxed 0 _ rfl);(have k5:=h.boxed 4 _ rfl))|(go_at_call 77;(with_reducible refine Za (S.out _) ?_);rintro e w5 ⟨rfl,rfl⟩))
 go_ret;exact ⟨rfl,((Ext.refl _).alloc _).trans h⟩
theorem Zb5 (e:Ent) (w:Wq) (A:eokS e):
 Calls prog 78 #[.agg (eCells e).toArray] w λx w'=>x= .returned (nI (if okE e=true then 0 else 22))/\Ext w w':=by
 have h:okE e=(validS e.id && (validS e.title && (validS e.link && (validS e.content && true))) && !decide (e.id=noS) && inT e.upd):=rfl;cases h0:validS e.id
 ·rw[Zf (by rw[h,h0];simp)];exact ZfZ e w A h0
 cases h1:validS e.title
 ·rw[Zf (by rw[h,h1];simp)];exact Zf0 e w A h0 h1
 cases h2:validS e.link
 ·rw[Zf (by rw[h,h2];simp)];exact Zf1 e w A h0 h1 h2
 cases h3:validS e.content
 ·rw[Zf (by rw[h,h3];simp)];exact Zf2 e w A h0 h1 h2 h3
 by_cases D:e.id=noS
 ·rw[Zf (by rw[h];simp[D])];exact Zf3 e w A h0 h1 h2 h3 (by rw[D,Ja];rfl)
 cases h5:inT e.upd
 ·rw[Zf (by rw[h,h5];simp)];exact Zf4 e w A h0 h1 h2 h3 (Vb D) h5
 ·rw[Zi (by rw[h,h0,h1,h2,h3,h5];simp[D])];exact Zf5 e w A h0 h1 h2 h3 (Vb D) h5
theorem Vt (t:Int) (w:Wq):
 Calls prog 130 #[nI t] w λe w'=>e= .returned (.bool (inT t))/\w=w':=by
 unfold inT;go_enter func130,ntmps130;go_wp2
 all_goals go_ret
 all_goals exact ⟨by simp_all<;>omega,rfl⟩
theorem XM (b:Bool) (w:Wq):
 Calls prog 85 #[.bool b] w λe w'=>e= .returned (nI (if b=true then 0 else 22))/\w=w':=by
 cases b with
 |true=>go_enter func85,ntmps85;go_wp2;go_ret;exact ⟨rfl,rfl⟩
 |false=>go_enter func85,ntmps85;go_wp2;go_ret;exact ⟨rfl,rfl⟩
theorem Zhj (e:Ent) (w:Wq):Calls prog 129 #[.agg (eCells e).toArray] w λx w'=>x= .returned (.string e.id)/\Ext w w':=by
 unfold eCells;go_enter func129,ntmps129;go_wp2;go_ret;exact ⟨rfl,(Ext.refl _).alloc _⟩
theorem Zjl (p es:Value) (f:Fd) (w:Wq):Calls prog 88 #[.agg (fCells p es f).toArray] w λx w'=>x= .returned (.string f.id)/\Ext w w':=by
 unfold fCells;go_enter func88,ntmps88;go_wp2;go_ret;exact ⟨rfl,(Ext.refl _).alloc _⟩
theorem UJ (v:Value) (l:List ByteArray) (w:Wq) (hE:Env w) (h:RStrs w v l) (J:∀s∈l,s.size<=16777216) (hn:l.length<=16777216):
 Calls prog 128 #[v] w λe w'=>e= .returned (.bool (l.all validS))/\Ext w w':=by
 obtain ⟨A,c,rfl, -, -⟩:=h.form;obtain ⟨R,Z⟩:∃R,l.all validS=R:=⟨_,rfl⟩;rw[Z];have HR:=gd Z;have HS:=gd J;have HH:=gd h;have V:=gd hE;clear Z J h hE;go_enter func128,ntmps128;go_wp2;go_loopw [7] (λi wr=>∃k:Nat,k<=l.length/\i=nI k/\Hid (∀s∈l.take k,validS s=true)/\Ext w wr) (λi _=>l.length - (intOf i).toNat)
 case atStart=>exact ⟨0,Zh _,rfl,gd (by simp),Ext.refl _⟩
 case round=>
  obtain ⟨k,hk,rfl,K,H⟩:=hrel;by_cases I:k<l.length
  ·obtain ⟨ad,c1,e1,hc⟩:=(RStrs.ext HH.out H).at I;injection e1 with e1 e1' e1'';subst e1;clear e1' e1'';have F:l[k]∈l:=ZG I;have M:=Zr I;have S:=gd (Zce l[k] wr (V.out.ext H) (by have:=HS.out _ F;omega));have D:validS l[k]=false->R=false:=λh=>(by rw[<-HR.out,Yv];intro h2;have:=Yj.1 h2 _ F;rw[h] at this;cases this);obtain ⟨p,U⟩:∃p,l[k]=p:=⟨_,rfl⟩;rw[U] at hc M S D;have Y:=gd M;have he:(0:Int)<=(k:Int):=(by omega);have hf:(k:Int)<(l.length:Int):=(by omega);clear U F M;cases hv:validS p with
   |false=>
    have ha:=D hv;subst ha;rw[hv] at S;clear D hv
    go_wp2_with (first|(go_at_call 178;(with_reducible refine Za (S.out) ?_);rintro e w6 ⟨rfl,Q⟩))
    go_ret;exact ⟨rfl,H.trans Q⟩
   |true=>
    have X:=gd hv;rw[hv] at S;clear D hv
    go_wp2_with (first|(go_at_call 178;(with_reducible refine Za (S.out) ?_);rintro e w6 ⟨rfl,Q⟩))
    go_roundw
    case rel=>exact ⟨k+1,I,by go_num,gd (λs J=>by
     rw[Y.out] at J;rcases Zu.1 J with J|J
     ·exact K.out s J
     ·rw[Zo.1 J];exact X.out),H.trans Q⟩
    case measure=>simp[intOf];omega
  ·have hd:k=l.length:=(by omega);subst hd;have hi:=K.out;rw[ZR (Zb _)] at hi;have hb:R=true:=(by rw[<-HR.out];exact Yj.2 hi);subst hb;clear hi;go_wp2;go_ret;exact ⟨rfl,H⟩
theorem Zc7 {s:ByteArray} (h:s=noS):s.toList.isEmpty=true:=by rw[h,Ja];rfl
theorem Vj (w:Wq) (l:List ByteArray) (h:l.length<=maxLen):RStrs (w.alloc (.cells (l.map Value.string).toArray 9)) (.slice (some ⟨w.heap.size,0,none⟩) l.length l.length) l:=
 Yq (by rw[Zl,Nat.mul_one]) h
theorem ZfD (e:Ent) (w:Wq) (U:Env w) (V:eokS e):
 Calls prog 132 #[.agg (eCells e).toArray] w λx w'=>x= .returned (nI (if okE e=true then 0 else 22))/\Ext w w':=by
 have I:okE e=((strsE e).all validS && !decide (e.id=noS) && inT e.upd):=rfl;have D:=gd (λw'=>XM false w');have J:=gd (λw'=>Vt e.upd w');have H:=gd (λ(w':Wq) (h:Ext w w')=>UJ _ (strsE e) (w'.alloc (.cells ((strsE e).map Value.string).toArray 9)) ((U.ext h).alloc _) (Vj w' (strsE e) (by show 4<=maxLen;decide)) (λs h=>by
  obtain ⟨h1,h2,h3,h4⟩:=V;unfold strsE at h;simp only[ZJ,Ya,Xn] at h;rcases h with rfl|rfl|rfl|rfl<;>omega) (by show 4<=16777216;decide))
 by_cases F:e.id=noS
 ·have A:okE e=false:=by rw[I,F];simp
  rw[Zf (by rw[A];simp)];have K:=Zc7 F;clear I F A J H;unfold eCells;go_enter func132,ntmps132
  go_wp2_with (first|(go_at_call 85;(with_reducible refine Za (D.out _) ?_);rintro e X ⟨rfl,rfl⟩))
  go_ret;exact ⟨rfl,(Ext.refl _).alloc _⟩
 ·have K:=Vb F;cases hti:inT e.upd with
  |false=>
   have A:okE e=false:=(by rw[I,hti,Bool.and_false]);rw[Zf (by rw[A];simp)];rw[hti] at J;clear I F A H hti;unfold eCells;go_enter func132,ntmps132
   go_wp2_with (first|(go_at_call 130;(with_reducible refine Za (J.out _) ?_);rintro e w5 ⟨rfl,rfl⟩)|(go_at_call 85;(with_reducible refine Za (D.out _) ?_);rintro e X ⟨rfl,rfl⟩))
   go_ret;exact ⟨rfl,(Ext.refl _).alloc _⟩
  |true=>
   have A:okE e=(strsE e).all validS:=(by rw[I,hti,Yd F];simp);rw[A];rw[hti] at J;have R:=gd (λw'=>XM ((strsE e).all validS) w');obtain ⟨b,S⟩:∃b,(strsE e).all validS=b:=⟨_,rfl⟩;simp only[S] at H R|-;unfold strsE at H;simp only[ZL,Yr,Ze,ZP] at H;clear I F A D hti S;unfold eCells;go_enter func132,ntmps132
   go_wp2_with (first|(go_at_call 130;(with_reducible refine Za (J.out _) ?_);rintro e w5 ⟨rfl,rfl⟩)|(go_at_call 128;(have Q:=H.out _ ((Ext.refl w).alloc (.cells #[.string e.id,.string e.title,.string e.link,.string e.content,nI e.upd] 76)));(simp only[Zs] at Q);(with_reducible refine Za Q ?_);clear Q;rintro Y w7 ⟨rfl,M⟩)|(go_at_call 85;(with_reducible refine Za (R.out _) ?_);rintro Z w8 ⟨rfl,rfl⟩))
   all_goals go_ret
   all_goals exact ⟨rfl,(((Ext.refl _).alloc _).alloc _).trans M⟩
theorem Ziz (w:Wq):Calls prog 44 #[.string ⟨#[111,117,116,108,105,110,101]⟩,sN] w λe w'=>
 ∃KB kc,e= .returned (.agg #[nI 0,eS,.string ⟨#[111,117,116,108,105,110,101]⟩,sN,.slice KB 0 kc,eS,nI 0])/\RNs w' (.slice KB 0 kc) []/\Ext w w':=by
 have h:=ZaQ outlineL sN [] w (RNs.nil w) (by intro y F;cases F) (by decide);rw[UW] at h;refine Za h ?_;rintro e w' ⟨ks,rfl,A,D⟩;obtain ⟨KB,kc,rfl⟩:=Ye A;exact ⟨KB,kc,rfl,RSl.of_own A,D⟩
theorem Ziy (v:Value) (l:List Nc) (w:Wq) (H:RNs w v l) (D:∀y∈l,RdN w y/\y.kind=0) (F:l.length<=16777216):Calls prog 44 #[.string ⟨#[111,117,116,108,105,110,101]⟩,v] w λe w'=>
 ∃KB kc,e= .returned (.agg #[nI 0,eS,.string ⟨#[111,117,116,108,105,110,101]⟩,sN,.slice KB l.length kc,eS,nI 0])/\w'.ownsRow w.heap.size 25 7 (.slice KB l.length kc) l.length (flatN l)/\Ext w w':=by
 have h:=ZaQ outlineL v l w H D F;rw[UW] at h;refine Za h ?_;rintro e w' ⟨ks,rfl,A,I⟩;obtain ⟨KB,kc,rfl⟩:=Ye A;exact ⟨KB,kc,rfl,A,I⟩
theorem Ew (al:Value) (l0:List AtP) (KB:Option Addr) (n kc:Nat) (v:Value) (ps:List (List UInt8×List UInt8)) (w:Wq) (D:RAts w al l0) (H:RStrs w v (pairS ps)) (F:l0.length+ps.length<=1000000):
 Calls prog 46 #[.agg #[nI 0,eS,.string ⟨#[111,117,116,108,105,110,101]⟩,al,.slice KB n kc,eS,nI 0],v] w λe w'=>
  ∃AB ac,e= .returned (.agg #[nI 0,eS,.string ⟨#[111,117,116,108,105,110,101]⟩,.slice AB (l0.length+ps.length) ac,.slice KB n kc,eS,nI 0])/\w'.ownsRow w.heap.size 88 4 (.slice AB (l0.length+ps.length) ac) (l0.length+ps.length) (flatA (l0++ps.map pairA))/\Ext w w':=by
 have h:=Zgy 0 [] outlineL al (.slice KB n kc) l0 n kc KB [] 0 v ps w D rfl H F;rw[UW] at h;refine Za h ?_;rintro e w' ⟨al',rfl,A,I⟩;obtain ⟨AB,ac,rfl⟩:=Ye A;exact ⟨AB,ac,rfl,A,I⟩
theorem Zka (KB:Option Addr) (kc:Nat) (v:Value) (title id:ByteArray) (w:Wq) (h:RStrs w v (pairS [(typeL,rssL),(textL,lst title),(xmlUrlL,lst id)])):
 Calls prog 46 #[.agg #[nI 0,eS,.string ⟨#[111,117,116,108,105,110,101]⟩,sN,.slice KB 0 kc,eS,nI 0],v] w λe w'=>
  ∃AB ac,e= .returned (.agg #[nI 0,eS,.string ⟨#[111,117,116,108,105,110,101]⟩,.slice AB 3 ac,.slice KB 0 kc,eS,nI 0])/\w'.ownsRow w.heap.size 88 4 (.slice AB 3 ac) 3 (flatA ([(typeL,rssL),(textL,lst title),(xmlUrlL,lst id)].map pairA))/\Ext w w':=
 Ew sN [] KB 0 kc v [(typeL,rssL),(textL,lst title),(xmlUrlL,lst id)] w (RAts.nil w) h (by show 0+3<=1000000;omega)
theorem Zi9 (w:Wq) (title id:ByteArray):RStrs (w.alloc (.cells #[.string ⟨#[116,121,112,101]⟩,.string ⟨#[114,115,115]⟩,.string ⟨#[116,101,120,116]⟩,.string title,.string ⟨#[120,109,108,85,114,108]⟩,.string id] 9)) (.slice (some ⟨w.heap.size,0,none⟩) 6 6) (pairS [(typeL,rssL),(textL,lst title),(xmlUrlL,lst id)]):=by
 have e:∀s:ByteArray,str (lst s)=s:=λs=>rfl;have h:=Vj w (pairS [(typeL,rssL),(textL,lst title),(xmlUrlL,lst id)]) (by show 6<=maxLen;unfold maxLen;omega);exact h
theorem Zjc (w:Wq) (link:ByteArray):RStrs (w.alloc (.cells #[.string ⟨#[104,116,109,108,85,114,108]⟩,.string link] 9)) (.slice (some ⟨w.heap.size,0,none⟩) 2 2) (pairS [(htmlUrlL,lst link)]):=Vj w (pairS [(htmlUrlL,lst link)]) (by show 2<=maxLen;unfold maxLen;omega)
theorem ZiP (w:Wq) (name:ByteArray):RStrs (w.alloc (.cells #[.string ⟨#[116,101,120,116]⟩,.string name] 9)) (.slice (some ⟨w.heap.size,0,none⟩) 2 2) (pairS [(textL,lst name)]):=Vj w (pairS [(textL,lst name)]) (by show 2<=maxLen;unfold maxLen;omega)
section
section
variable {P:Program} {md:Region.Mode} {Q:Exit→Act→World→Prop} {S:World→Prop}
end
end
section
variable {B g kc n:Nat} {T e:TypeId} {v:Value} {w w':World} {xs:List Value}
theorem ZfS {size:Nat} {cs:Array Value} {fr:Nat×Nat} (A:w.ownsRow B e size v n xs) (D:w.heap[g]? =some (.cells cs T fr)) (H:T≠e):v.ownBlock≠some g:=by
 rcases A.2 with ⟨rfl,_⟩|⟨q,cap,F,rfl,_,I,_⟩
 ·simp[Value.ownBlock]
 ·intro h;simp only[Value.ownBlock,Xi] at h;subst h;rw[I] at D;simp only[Xi,Obj.cells.injEq] at D;exact H D.2.1.symm
theorem QI {size:Nat} {cs A:Array Value} {fr:Nat×Nat} (h:w.ownsRow B e size v n xs) (F:w.heap[g]? =some (.cells cs T fr)) (D:T≠e):(w.setRow g A).ownsRow B e size v n xs:=
 h.kept (row:=some g) ⟨rfl,rfl,rfl,by simp[World.setRow],λk _ H=>Z4 w g k A (λe=>H (by rw[e]))⟩ (Or.inr (ZfS h F D))
theorem Vz (h:RNs w v []):RNs w' v []:=by
 obtain ⟨D,A,c,e,F,H,I,K⟩:=h;exact ⟨D,A,c,e,F,H,I,λj u J=>by simp[ZiK] at J⟩
def leafC (KB:Option Addr) (kc:Nat) (al:Value) (f:Fd):Nc:= .mk 0 [] outlineL al ([(typeL,rssL),(textL,lst f.title),(xmlUrlL,lst f.id)].map pairA) (.slice KB 0 kc) [] [] 0
def leafC2 (KB:Option Addr) (kc:Nat) (al:Value) (f:Fd):Nc:= .mk 0 [] outlineL al ([(typeL,rssL),(textL,lst f.title),(xmlUrlL,lst f.id)].map pairA++ [(htmlUrlL,lst f.link)].map pairA) (.slice KB 0 kc) [] [] 0
theorem ZkU {KB:Option Addr} {al:Value} {f:Fd} (h:f.link.size=0):(leafC KB kc al f).nd=feedN f:=by
 unfold feedN leafC;rw[Zi h];rw[Nc.nd,Nc.nds];rfl
theorem Zi7 {KB:Option Addr} {al:Value} {f:Fd} (h:f.link.size≠0):(leafC2 KB kc al f).nd=feedN f:=by
 unfold feedN leafC2;rw[Zf h];rw[Nc.nd,Nc.nds];rfl
theorem ZkV {KB:Option Addr} {al:Value} {f:Fd} (h:w.ownsRow B 88 4 al 3 (flatA ([(typeL,rssL),(textL,lst f.title),(xmlUrlL,lst f.id)].map pairA))) (A:RNs w (.slice KB 0 kc) []):RdN w (leafC KB kc al f):=by
 unfold leafC;rw[RdN];exact ⟨RSl.of_own h,A,by rw[RdNs];trivial⟩
theorem Zi8 {KB:Option Addr} {al:Value} {f:Fd} (h:w.ownsRow B 88 4 al 4 (flatA ([(typeL,rssL),(textL,lst f.title),(xmlUrlL,lst f.id)].map pairA++ [(htmlUrlL,lst f.link)].map pairA))) (A:RNs w (.slice KB 0 kc) []):RdN w (leafC2 KB kc al f):=by
 unfold leafC2;rw[RdN];exact ⟨RSl.of_own h,A,by rw[RdNs];trivial⟩
theorem Zdi {I J V X S U:Nat} {e1 e2:TypeId} {v1 v2:Value} {h H:List Value} (D:w.ownsRow I e1 V v1 S h) (M:w.ownsRow J e2 X v2 U H) (F:e1≠e2) (R:h≠ []):v1.ownBlock≠v2.ownBlock:=by
 rcases M.2 with ⟨rfl,_⟩|⟨q,cap,A,rfl,_,Q,_⟩
 ·rcases D.2 with ⟨rfl,K⟩|⟨q,cap,A,rfl,_⟩
  ·exact absurd (Zv (by rw[D.1,K,Xl])) R
  ·simp[Value.ownBlock]
 ·exact ZfS D Q (λe=>F e.symm)
end
section
variable {f i k n r:Nat} {s t:List UInt8}
theorem JC {x r:List UInt8} (h:s.drop k=x++r):s.drop (k+x.length)=r:=by
 rw[<-List.drop_drop,h,List.drop_left]
theorem UR {r:List UInt8} {c:UInt8} (h:s.drop k=c::r):s.drop (k+1)=r:=JC (x:= [c]) h
theorem Gd {r:List UInt8} {c:UInt8} (h:s.drop k=c::r):k<s.length:=by
 rcases Xd k s.length with A|A
 ·exact A
 ·rw[Zw A] at h;cases h
theorem ZhA {x:List UInt8} (h:s.drop k=x) (A:k<=s.length):k+x.length=s.length:=by
 have:=Zz List.length h;rw[Zk] at this;omega
theorem Zh9 {x r:List UInt8} (h:s.drop k=x++r) (A:k<=s.length):k+x.length<=s.length:=by
 have:=ZhA h A;rw[Zc] at this;omega
theorem Vs {r:List UInt8} (h:s.drop k=t++r):hasAt s k t=true:=by
 unfold hasAt;rw[h,List.isPrefixOf_iff_prefix];exact List.prefix_append _ _
theorem UL {r:List UInt8} {c d:UInt8} (h:s.drop k=c::r) (A:d≠c):hasAt s k (d::t)=false:=by
 unfold hasAt;rw[h];have:(d==c)=false:=by simpa using A
 simp[List.isPrefixOf,this]
theorem J7 {r:List UInt8} {c c2 d A:UInt8} (h:s.drop k=c::c2::r) (D:A≠c2):hasAt s k (d::A::t)=false:=by
 unfold hasAt;rw[h];have:(A==c2)=false:=by simpa using D
 simp[List.isPrefixOf,this]
theorem IR {r:List UInt8} {c:UInt8} (h:s.drop k=c::r) (A:isSp c.toNat=false):spAt s k=k:=by
 unfold spAt;rw[h,Yn,Zf (by rw[A];simp)];rfl
theorem Znh {r:List UInt8} {c:UInt8} (h:s.drop k=32::c::r) (A:isSp c.toNat=false):spAt s k=k+1:=by
 unfold spAt;rw[h,Yn,Zi (by decide),Yn,Zf (by rw[A];simp)];rfl
theorem ZdM {l:List UInt8} (r:List UInt8) (h:(dec l).2≠0):dec (l++r)=dec l/\scalar (dec l).1/\(encN (dec l).1).length=(dec l).2:=by
 have H:=Gu (l:=l) (r:=(dec l).1) (m:=(dec l).2) rfl h;have J:=J5 l;have A:(encN (dec l).1).length=(dec l).2:=by have:=Zz List.length H;rw[Zc,Zk] at this;omega
 have D:scalar (dec l).1:=by
  unfold scalar;rcases Xd 1114111 (dec l).1 with F|F
  ·have:encN (dec l).1= []:=(by unfold encN;rw[Zi (Or.inl F)]);rw[this] at A;exact absurd A.symm h
  ·by_cases I:55296<=(dec l).1/\(dec l).1<=57343
   ·have:encN (dec l).1= []:=(by unfold encN;rw[Zi (Or.inr I)]);rw[this] at A;exact absurd A.symm h
   ·omega
 refine ⟨?_,D,A⟩
 calc dec (l++r)=dec (encN (dec l).1++(l.drop (dec l).2++r)):=by rw[<-ZN,<-H]
  _=((dec l).1,(encN (dec l).1).length):=ZdN D _
  _=dec l:=by rw[A]
theorem Ij (c:UInt8):UInt8.ofNat c.toNat=c:=by simp
theorem I8 {c:UInt8} (t:List UInt8) (h:c.toNat<128):dec (c::t)=(c.toNat,1):=by
 have A:=ZdN (r:=c.toNat) (Or.inl (by omega)) t;rw[JR h,Ij] at A;exact A
theorem Zbl {b:Bool} (h:nmOk true false r=false):nmOk true b r=false:=by
 cases b with
 |false=>exact h
 |true=>unfold nmOk nmChar at h;unfold nmOk;simp only[Bool.or_eq_false_iff,Y1,VF] at h;simp only[Un,Bool.or_eq_false_iff];exact ⟨h.1,h.2.1⟩
def ends (c:UInt8):Prop:=c.toNat<128/\nmOk true false c.toNat=false
theorem Zk1 {c:UInt8} (D:ends c) (r:List UInt8):∀(f:Nat) (first:Bool) (l:List UInt8),nmGo true f first l=l.length->l.length<=f->∀g,l.length<g->nmGo true g first (l++c::r)=l.length
 |0,first,l,_,hl,g,hg=>by
  have:l= []:=Zv (by omega)
  subst this
  refine Je (Or.inr (Or.inr ?_))
  rw[Yu,I8 r D.1]
  exact Zbl D.2
 |f+1,first,l,h,hl,g,hg=>by
  by_cases J:l= []
  ·subst J
   refine Je (Or.inr (Or.inr ?_))
   rw[Yu,I8 r D.1]
   exact Zbl D.2
  ·have K:0<l.length:=XI.2 J
   have A:(dec l).2≠0/\nmOk true first (dec l).1=true:=by
    by_cases I:l= []\/(dec l).2=0\/nmOk true first (dec l).1=false
    ·rw[Je I] at h
     omega
    ·refine ⟨λe=>I (Or.inr (Or.inl e)),?_⟩
     cases hk:nmOk true first (dec l).1 with
     |true=>rfl
     |false=>exact absurd (Or.inr (Or.inr hk)) I
   have F:=(ZdM (c::r) A.1).1
   have H:=J5 l
   rw[Uo A.1 A.2] at h
   obtain ⟨g,rfl⟩:∃m,g=m+1:=⟨g - 1,by omega⟩
   rw[Uo (by rw[F];exact A.1) (by rw[F];exact A.2),F,List.drop_append_of_le_length H]
   have M:=Zk1 D r f false (l.drop (dec l).2) (by rw[Zk];omega) (by rw[Zk];omega) g (by rw[Zk];omega)
   rw[M,Zk]
   omega
theorem KI {l:List UInt8} (h:isQ l=true):0<l.length/\nmGo true l.length true l=l.length:=by
 unfold isQ nmLen at h;simpa using h
theorem Zk2 {n r:List UInt8} {c:UInt8} (D:isQ n=true) (A:ends c) (h:s.drop k=n++c::r):nmAt s k=k+n.length:=by
 unfold nmAt nmLen;rw[h,Zk1 A r n.length true n (KI D).2 (Zb _) _ (by rw[Zc,Ze];omega)]
theorem Zfo {c:UInt8} (h:isQ (c::t)=true):c≠63/\c≠33/\c≠47/\isSp c.toNat=false/\c≠62:=by
 have I:=(KI h).2;have A:∀d:UInt8,d.toNat<128->nmOk true true d.toNat=false->c≠d:=λd J K e=>by subst e;rw[Je (Or.inr (Or.inr (by rw[I8 t J];exact K))),Ze] at I;omega
 refine ⟨A 63 (by decide) (by decide),A 33 (by decide) (by decide),A 47 (by decide) (by decide),?_,A 62 (by decide) (by decide)⟩;have F:=A 32 (by decide) (by decide);have H:=A 9 (by decide) (by decide);have a3:=A 10 (by decide) (by decide);have a4:=A 13 (by decide) (by decide);unfold isSp;rw[JF];intro e;have D:∀n:Nat,n<256->(c.toNat:Int)=n->c=UInt8.ofNat n:=λn M e=>by
  have:c.toNat=n:=by omega
  rw[<-this,Ij]
 rcases e with e|e|e|e
 ·exact F (D 32 (by decide) e)
 ·exact H (D 9 (by decide) e)
 ·exact a3 (D 10 (by decide) e)
 ·exact a4 (D 13 (by decide) e)
theorem Zfm {l:List UInt8} (h:isQ l=true):∃c t,l=c::t:=by
 cases l with
 |nil=>exact absurd (KI h).1 (by simp)
 |cons c t=>exact ⟨c,t,rfl⟩
theorem ZdA (v:Bool) (c:UInt8) (h:wescB v c≠ []):∃x:List UInt8,wescB v c=38::(x++ [59])/\(∀d∈x,(d !=59)=true)/\refRune x=some c.toNat/\isChar (c.toNat:Int)=true/\c.toNat<128:=by
 unfold wescB at h|-;by_cases A:c=38
 ·subst A;exact ⟨[97,109,112],rfl,by decide,by decide,by decide,by decide⟩
 rw[Zf A] at h|-;by_cases D:c=60
 ·subst D;exact ⟨[108,116],rfl,by decide,by decide,by decide,by decide⟩
 rw[Zf D] at h|-;by_cases F:c=62
 ·subst F;exact ⟨[103,116],rfl,by decide,by decide,by decide,by decide⟩
 rw[Zf F] at h|-;by_cases H:c=13
 ·subst H;exact ⟨[35,49,51],rfl,by decide,by decide,by decide,by decide⟩
 rw[Zf H] at h|-;by_cases I:v=false
 ·rw[Zi I] at h;exact absurd rfl h
 rw[Zf I] at h|-;by_cases J:c=34
 ·subst J;exact ⟨[113,117,111,116],rfl,by decide,by decide,by decide,by decide⟩
 rw[Zf J] at h|-;by_cases K:c=9
 ·subst K;exact ⟨[35,57],rfl,by decide,by decide,by decide,by decide⟩
 rw[Zf K] at h|-;by_cases M:c=10
 ·subst M;exact ⟨[35,49,48],rfl,by decide,by decide,by decide,by decide⟩
 rw[Zf M] at h;exact absurd rfl h
theorem Us {v:Bool} {c:UInt8} (h:wescB v c= []):c≠38/\c≠60/\c≠62/\c≠13/\(v=true->c≠34/\c≠9/\c≠10):=by
 unfold wescB at h;by_cases A:c=38
 ·rw[Zi A] at h;cases h
 rw[Zf A] at h;by_cases D:c=60
 ·rw[Zi D] at h;cases h
 rw[Zf D] at h;by_cases F:c=62
 ·rw[Zi F] at h;cases h
 rw[Zf F] at h;by_cases H:c=13
 ·rw[Zi H] at h;cases h
 rw[Zf H] at h;refine ⟨A,D,F,H,λM=> ?_⟩;rw[Zf (by rw[M];simp)] at h;by_cases I:c=34
 ·rw[Zi I] at h;cases h
 rw[Zf I] at h;by_cases J:c=9
 ·rw[Zi J] at h;cases h
 rw[Zf J] at h;by_cases K:c=10
 ·rw[Zi K] at h;cases h
 exact ⟨I,J,K⟩
theorem ZbR (v:Bool):∀a b:List UInt8,wescL v (a++b)=wescL v a++wescL v b
 | [],b=>rfl
 |c::t,b=>by
  show wescC v c++wescL v (t++b)=(wescC v c++wescL v t)++wescL v b
  rw[ZbR v t b,ZN]
theorem K6 {v:Bool}:∀{l:List UInt8},(∀c∈l,wescB v c= [])->wescL v l=l
 | [],_=>rfl
 |c::t,h=>by
  show wescC v c++wescL v t=c::t
  unfold wescC
  rw[Zi (h c ZH),K6 λd A=>h d (ZD _ A)]
  rfl
theorem ZbS {v:Bool}:∀{l:List UInt8},∀d∈wescL v l,d≠60/\d≠62/\(v=true->d≠34)
 | [],d,h=>by cases h
 |c::t,d,h=>by
  have H:d∈wescC v c++wescL v t:=h
  rcases Zu.1 H with A|A
  ·unfold wescC at A
   by_cases F:wescB v c= []
   ·rw[Zi F,Zo] at A
    subst A
    have:=Us F
    exact ⟨this.2.1,this.2.2.1,λI=>(this.2.2.2.2 I).1⟩
   ·rw[Zf F] at A
    have D:∀e∈wescB v c,e≠60/\e≠62/\e≠34:=by
     unfold wescB
     repeat' split
     all_goals decide
    have:=D d A
    exact ⟨this.1,this.2.1,λ_=>this.2.2⟩
  ·exact ZbS d A
theorem Zgx {v:Bool} {l:List UInt8} (h:wescL v l= []):l= []:=by
 cases l with
 |nil=>rfl
 |cons c t=>
  have A:wescC v c++wescL v t= []:=h;unfold wescC at A;by_cases D:wescB v c= []
  ·rw[Zi D] at A;cases A
  ·rw[Zf D] at A;exact absurd (List.append_eq_nil_iff.1 A).1 D
theorem V6 {p:UInt8->Bool}:∀{x r:List UInt8},(∀d∈x,p d=true)->(∀c t,r=c::t->p c=false)->(x++r).takeWhile p=x
 | [],r,_,hr=>by
  cases r with
  |nil=>rfl
  |cons c t=>rw[Yu,Yn,Zf (by rw[hr c t rfl];simp)]
 |d::x,r,h,hr=>by rw[YH,Yn,Zi (h d ZH),V6 (λe A=>h e (ZD _ A)) hr]
theorem Zng {z x r:List UInt8} (h:z.drop i=38::(x++ [59])++r) (H:∀d∈x,(d !=59)=true) (D:refRune x=some n) (A:isChar (n:Int)=true):refAt z i=some (n,i+x.length+2):=by
 unfold refAt;dsimp only;rw[h];have F:((38::(x++ [59])++r:List UInt8).tail.takeWhile λc=>c !=59)=x:=by show ((x++ [59]++r).takeWhile λc=>c !=59)=x;rw[ZN];exact V6 H λc t e=>by injection e with e _;subst e;rfl
 rw[F,Zi (show (38::(x++ [59])++r:List UInt8).head? =some 38 from rfl),Zi (by simp only[YH,Ze,Zc,ZP];omega),D];dsimp only;rw[Zi A]
theorem Zc1:∀{l:List UInt8},(∀c∈l,c≠13)->lns l=l
 | [],_=>rfl
 | [c],h=>by rw[lns,Zf (h c ZH)]
 |c::d::r,h=>by
  have A:=h c ZH
  rw[lns,Zf (λe=>A e.1),Zf A,Zc1 λe D=>h e (ZD _ D)]
theorem IS:∀{l:List UInt8},(∀c∈l,c≠13/\c≠9/\c≠10)->spaced l=l
 | [],_=>rfl
 |c::t,h=>by
  unfold spaced at*
  have D:=h c ZH
  have ih:=IS (l:=t) λe H=>h e (ZD _ H)
  unfold spaced at ih
  rw[ZL,ih]
  split
  ·rename_i F
   unfold isSp at F
   rw[ZV] at F
   have A:∀n:Nat,n<256->(c.toNat:Int)=n->c=UInt8.ofNat n:=λn I e=>by
    have:c.toNat=n:=(by omega)
    rw[<-this,Ij]
   rcases F with e|e|e|e
   ·rw[A 32 (by decide) e];rfl
   ·exact absurd (A 9 (by decide) e) D.2.1
   ·exact absurd (A 10 (by decide) e) D.2.2
   ·exact absurd (A 13 (by decide) e) D.1
  ·rfl
theorem Zgn (p:UInt8->Bool) (l:List UInt8):∃a b,l=a++b/\(∀c∈a,p c=true)/\(b= []\/∃c t,b=c::t/\p c=false):=by
 induction l with
 |nil=>exact ⟨[],[],rfl,(by intro c h;cases h),Or.inl rfl⟩
 |cons c t ih=>
  cases hp:p c with
  |false=>exact ⟨[],c::t,rfl,(by intro c h;cases h),Or.inr ⟨c,t,rfl,hp⟩⟩
  |true=>
   obtain ⟨a,b,D,F,H⟩:=ih;refine ⟨c::a,b,by rw[D];rfl,λd A=> ?_,H⟩;rcases ZJ.1 A with A|A
   ·rw[A];exact hp
   ·exact F d A
theorem I7 (v:Bool) (s:List UInt8):∀(n:Nat) (t:List UInt8),t.length<n->∀(i K:Nat) (r out:List UInt8),s.drop i=wescL v t++r->K=i+(wescL v t).length->K<=s.length->contAt v s K i out= .ok (out++t)
 |0,t,h,_,_,_,_,_,_,_=>by omega
 |n+1,t,h,i,K,r,out,hd,hto,hle=>by
  obtain ⟨a,b,rfl,ha,hb⟩:=Zgn (λc=>decide (wescB v c= [])) t
  have D:∀c∈a,wescB v c= []:=λc F=>by simpa using ha c F
  rw[Zc] at h
  rw[ZbR,K6 D] at hd hto
  rw[Zc] at hto
  have A:(s.take K).drop i=a++wescL v b:=by rw[List.drop_take,hd,show K - i=(a++wescL v b).length by rw[Zc];omega,List.take_left]
  by_cases I:a= []
  ·subst I
   rcases hb with rfl|⟨c,t',rfl,F⟩
   ·rw[ZaK (by rw[hto];simp[wescL])]
    simp
   ·have H:wescB v c≠ []:=(by simpa using F)
    obtain ⟨x,J,V,X,Y,Z⟩:=ZdA v c H
    have U:wescL v (c::t')=38::(x++ [59])++wescL v t':=by
     show wescC v c++wescL v t'=_
     unfold wescC
     rw[Zf H,J]
    rw[Yu] at A hd|-
    rw[U] at hd A hto
    have hl:(38::(x++ [59])++wescL v t':List UInt8).length=x.length+2+(wescL v t').length:=(by simp only[YH,Ze,Zc,ZP];omega)
    rw[hl] at hto
    rw[ZP] at hto h
    rw[Ze] at h
    rw[ZaL hle (by omega) (by rw[hd];rfl) (Zng A V X Y)]
    have R:s.drop (i+x.length+2)=wescL v t'++r:=by
     have:=JC (x:=38::(x++ [59])) (by rw[hd,ZN])
     rw[<-this]
     congr 1
     simp only[Ze,Zc,ZP];omega
    rw[I7 v s n t' (by omega) _ _ r _ R (by omega) hle,JR Z,Ij]
    simp
  ·have he:0<a.length:=XI.2 I
   have hh:(s.drop i).head?≠some 38:=by
    rw[hd]
    cases a with
    |nil=>exact absurd rfl I
    |cons c a=>
     intro e
     have Q:some c=some 38:=e
     injection Q with Q
     exact (Us (D c ZH)).1 Q
   have hp:plainAt s K i=a:=by
    unfold plainAt
    rw[A]
    refine V6 (λc F=>by have:=(Us (D c F)).1;simpa using this) λc t0 e=> ?_
    rcases hb with rfl|⟨M,t',rfl,F⟩
    ·cases e
    ·have H:wescB v M≠ []:=(by simpa using F)
     obtain ⟨x,J, -⟩:=ZdA v M H
     have U:wescL v (M::t')=38::(x++ [59])++wescL v t':=by
      show wescC v M++wescL v t'=_
      unfold wescC
      rw[Zf H,J]
     rw[U] at e
     injection e with e _
     subst e
     rfl
   rw[Io hle (by omega) hh,hp,Zc1 λc F=>(Us (D c F)).2.2.2.1]
   have S:(if v=true then spaced a else a)=a:=by
    split
    ·rename_i hv
     exact IS λc F=>⟨(Us (D c F)).2.2.2.1,((Us (D c F)).2.2.2.2 hv).2⟩
    ·rfl
   rw[S,I7 v s n b (by omega) _ _ r _ (JC (by rw[hd,ZN])) (by omega) hle,ZN]
theorem ZaM {v:Bool} {r:List UInt8} (h:s.drop i=wescL v t++r) (A:i<=s.length):contP v s i (i+(wescL v t).length)= .ok t:=by
 rw[ZeM];exact I7 v s _ t (YQ _) i _ r [] h rfl (Zh9 h A)
theorem Zii {r:List UInt8} {a:AtP} (K:isQ a.name=true) (h:s.drop k=a.name++([61,34]++(wescL true a.value++(34::r)))) (U:k<=s.length):
 attrP s f k= .ok (⟨[],a.name,a.value,k⟩,k+a.name.length+2+(wescL true a.value).length+1):=by
 have H:=Zk2 K (c:=61) ⟨by decide,by decide⟩ h;have J:=(KI K).1;have D:=JC (x:=a.name) h;have A:=UR D;have F:=UR A;have I:=JC (x:=wescL true a.value) F;have l1:=Gd D;have l2:=Gd A;have V:=Gd I;have S:((s.drop (k+a.name.length+1+1)).takeWhile λd=>d !=34 && d !=60)=wescL true a.value:=by
  rw[F];refine V6 (x:=wescL true a.value) (r:=34::r) (λd Q=> ?_) λc t e=> ?_
  ·have:=ZbS d Q;simp[this.1,this.2.2 rfl]
  ·injection e with e _;subst e;rfl
 have M:=ZaM (v:=true) F (by omega);unfold attrP;dsimp only;rw[H,Zf (by omega),IR D (by decide),Zf (by rw[Vs (t:= [61]) D];simp),IR A (by decide),Zf (by rw[Vs (t:= [34]) A];simp)];have R:(s.drop (k+a.name.length+1)).headD 0=34:=by rw[A];rfl
 rw[R,S,M];dsimp only;rw[Zf (by omega),Zf (by rw[I];simp),h,Nat.add_sub_cancel_left,List.take_left]
end
section
variable {c d f k r:Nat} {nm s t:List UInt8}
def attrAts:List AtP->Nat->List AtP
 | [],_=> []
 |a::t,k=>⟨[],a.name,a.value,k+1⟩::attrAts t (k+(attrW a).length)
theorem Zih (a:AtP):(attrW a).length=1+a.name.length+2+(wescL true a.value).length+1:=by
 unfold attrW;simp only[Zc,Ze,ZP]
theorem Zay {A:List UInt8}:∀(al done:List AtP) (k:Nat),attrsOk al (done.map AtP.name)=true->s.drop k=attrsW al++A->k<=s.length->
 startAt s f nm k done=startAt s f nm (k+(attrsW al).length) (done++attrAts al k)
 | [],done,k,_,_,_=>by show _=startAt s f nm (k+0) (done++ []);rw[ZX];rfl
 |a::t,done,k,ho,h,hk=>by
  rw[attrsOk] at ho;simp only[ZF,JD] at ho;obtain ⟨⟨⟨⟨h1,S⟩,I⟩,h4⟩,X⟩:=ho;obtain ⟨c,n',U⟩:=Zfm I;have V:=I;rw[U] at V;obtain ⟨e1,e2,e3,e4,e5⟩:=Zfo V;have J:s.drop k=32::(a.name++([61,34]++(wescL true a.value++(34::(attrsW t++A))))):=by rw[h];show (attrW a++attrsW t)++A=_;unfold attrW;simp only[ZN,YH,Yu]
  have H:s.drop k=32::c::(n'++([61,34]++(wescL true a.value++(34::(attrsW t++A))))):=by rw[J,U];rfl
  have K:=UR J;have D:=UR H;have R:=Znh H e4;have hc:=Gd J;have Y:=Zii (f:=f) I K (by omega);have F:(done.any λb=>b.name==a.name)=false:=by rw[List.any_eq_false];intro b Z e;have he:b.name=a.name:=(by simpa using e);have:(done.map AtP.name).contains a.name=true:=(by rw[Xs,<-he];exact Yc Z);rw[this] at S;cases S
  rw[Vi s f nm k done hk,R,Zf (by rw[UL D (Ne.symm e5)];simp),Zf (by rw[UL D (Ne.symm e3)];simp),Zf (by rw[UL D (Ne.symm e3)];simp),Zf (by omega),Y];dsimp only;rw[F,Zf (by simp)];have Q:k+1+a.name.length+2+(wescL true a.value).length+1=k+(attrW a).length:=by rw[Zih];omega
  have M:s.drop (k+(attrW a).length)=attrsW t++A:=by refine JC ?_;rw[h];show (attrW a++attrsW t)++A=_;rw[ZN]
  rw[Q,Zay t _ _ (by rw[ZO];exact X) M (Zh9 (r:=attrsW t++A) (by rw[h];show (attrW a++attrsW t)++A=_;rw[ZN]) hk)];show _=startAt s f nm (k+(attrW a++attrsW t).length) (done++(⟨[],a.name,a.value,k+1⟩::attrAts t (k+(attrW a).length)));rw[Zc,ZN,Nat.add_assoc];rfl
theorem Ez:∀(al:List AtP) (c:UInt8) (r:List UInt8),ends c->∃d r',attrsW al++c::r=d::r'/\ends d
 | [],c,r,h=>⟨c,r,rfl,h⟩
 |a::t,c,r,_=>by
  refine ⟨32,_,rfl,?_⟩
  exact ⟨by decide,by decide⟩
theorem Zij {A:List UInt8} {al:List AtP} (h:s.drop k=attrsW al++A) (D:k<=s.length):k+(attrsW al).length<=s.length:=Zh9 h D
theorem Zgq {n r:List UInt8} {al:List AtP} (e:Bool) (M:isQ n=true) (Z:attrsOk al []=true) (h:s.drop k=60::(n++(attrsW al++((if e then [47,62] else [62])++r)))):
 constructP s k= .ok (⟨1,n,attrAts al (k+1+n.length),e,[],k⟩,k+1+n.length+(attrsW al).length+(if e then 2 else 1)):=by
 obtain ⟨c,n',K⟩:=Zfm M;have Y:=M;rw[K] at Y;obtain ⟨e1,e2,e3,e4,e5⟩:=Zfo Y;have X:=(KI M).1;have A:s.drop k=60::c::(n'++(attrsW al++((if e then [47,62] else [62])++r))):=by rw[h,K];rfl
 have hk:=Gd h;have ht:∃d r',attrsW al++((if e then [47,62] else [62])++r)=d::r'/\ends d:=by
  cases e with
  |true=>exact Ez al 47 _ ⟨by decide,by decide⟩
  |false=>exact Ez al 62 _ ⟨by decide,by decide⟩
 obtain ⟨d,r',hdr,R⟩:=ht;have F:=UR h;have Q:=JC (x:=n) F;rw[hdr] at F;have S:=Zk2 M R F;have I:k+1+n.length<=s.length:=Zh9 F (by omega);have U:=Zay (f:=k) (nm:=n) al [] (k+1+n.length) Z Q I;have V:=JC (x:=attrsW al) Q;have J:=Zij Q I;have H:startAt s k n (k+1+n.length+(attrsW al).length) (attrAts al (k+1+n.length))= .ok (⟨1,n,attrAts al (k+1+n.length),e,[],k⟩,k+1+n.length+(attrsW al).length+(if e then 2 else 1)):=by
  rw[Vi s k n _ _ J];cases e with
  |true=>have D:s.drop (k+1+n.length+(attrsW al).length)=47::62::r:=V;rw[IR D (by decide),Zf (by rw[UL D (by decide)];simp),Zi (Vs (t:= [47,62]) D)];rfl
  |false=>have D:s.drop (k+1+n.length+(attrsW al).length)=62::r:=V;rw[IR D (by decide),Zi (Vs (t:= [62]) D)];rfl
 unfold constructP;rw[Zf (by rw[J7 A (Ne.symm e1)];simp),Zf (by rw[J7 A (Ne.symm e2)];simp),Zf (by rw[J7 A (Ne.symm e2)];simp),Zf (by rw[J7 A (Ne.symm e2)];simp),Zf (by rw[J7 A (Ne.symm e2)];simp),Zf (by rw[J7 A (Ne.symm e3)];simp),Zi (Vs (t:= [60]) h)];rw[GG s k (by omega),S,Zf (by omega),F,Nat.add_sub_cancel_left,List.take_left,U];exact H
theorem ZkA {n r:List UInt8} (H:isQ n=true) (h:s.drop k=60::47::(n++62::r)):constructP s k= .ok (⟨2,n,[],false,[],k⟩,k+2+n.length+1):=by
 have I:=(KI H).1;have A:=UR (UR h);have D:=Zk2 H (c:=62) ⟨by decide,by decide⟩ A;have F:=JC (x:=n) A;unfold constructP;rw[Zf (by rw[J7 h (by decide)];simp),Zf (by rw[J7 h (by decide)];simp),Zf (by rw[J7 h (by decide)];simp),Zf (by rw[J7 h (by decide)];simp),Zf (by rw[J7 h (by decide)];simp),Zi (Vs (t:= [60,47]) h)];unfold endP;dsimp only;rw[show k+2=k+1+1 from rfl,D,Zi (by omega),IR F (by decide),Zi (Vs (t:= [62]) F),A,Nat.add_sub_cancel_left,List.take_left]
theorem ZaX:∀(x r:List UInt8) (k:Nat),(∀d∈x,d≠60)->findIn [60] (x++60::r) k=some (k+x.length)
 | [],r,k,_=>by
  rw[Yu,findIn,Zi (by simp[List.isPrefixOf])]
  rfl
 |c::x,r,k,h=>by
  have D:=h c ZH
  have A:((60:UInt8)==c)=false:=by simpa using Ne.symm D
  rw[YH,findIn,Zf (by simp[List.isPrefixOf,A]),ZaX x r (k+1) λd F=>h d (ZD _ F),Ze]
  congr 1
  omega
theorem ZaY:∀(x:List UInt8) (k:Nat),(∀d∈x,d≠60)->findIn [60] x k=none
 | [],k,_=>by rw[findIn,Zf (by simp)]
 |c::x,k,h=>by
  have D:=h c ZH
  have A:((60:UInt8)==c)=false:=by simpa using Ne.symm D
  rw[findIn,Zf (by simp[List.isPrefixOf,A]),ZaY x (k+1) λd F=>h d (ZD _ F)]
theorem Eu {r:List UInt8} (R:t≠ []) (h:s.drop k=wescL false t++r) (Q:r= []\/∃r',r=60::r') (J:k<=s.length):constructP s k= .ok (dataT t k,k+(wescL false t).length):=by
 have I:∀d∈wescL false t,d≠60:=λd M=>(ZbS d M).1;have F:(findAt s k [60]).getD s.length=k+(wescL false t).length:=by
  unfold findAt;rw[h];rcases Q with rfl|⟨r',rfl⟩
  ·rw[ZX,ZaY _ _ I];exact (ZhA (by rw[h,ZX]) J).symm
  ·rw[ZaX _ _ _ I];rfl
 have K:=ZaM h J;obtain ⟨c,w,H⟩:∃c w,wescL false t=c::w:=by
  cases hx:wescL false t with
  |nil=>exact absurd (Zgx hx) R
  |cons c w=>exact ⟨c,w,rfl⟩
 have A:(60:UInt8)≠c:=λe=>I c (by rw[H];exact ZH) e.symm;have D:s.drop k=c::(w++r):=by rw[h,H];rfl
 unfold constructP;rw[Zf (by rw[UL D A];simp),Zf (by rw[UL D A];simp),Zf (by rw[UL D A];simp),Zf (by rw[UL D A];simp),Zf (by rw[UL D A];simp),Zf (by rw[UL D A];simp),Zf (by rw[UL D A];simp)];dsimp only;rw[F,K]
def AtP.bare (a:AtP):AtP:=⟨a.space,a.name,a.value,0⟩
mutual
def Nd.bare:Nd->Nd
 | .mk k s n al ks t _=> .mk k s n (al.map AtP.bare) (Nds.bare ks) t 0
def Nds.bare:List Nd->List Nd
 | []=> []
 |x::t=>x.bare::Nds.bare t
end
theorem I1 (n:Nd):n.bare.kind=n.kind:=by cases n;rw[Nd.bare];rfl
theorem Ic:∀(al:List AtP) (seen:List (List UInt8)) (k:Nat),attrsOk al seen=true->(attrAts al k).map AtP.bare=al.map AtP.bare
 | [],_,_,_=>rfl
 |a::t,seen,k,h=>by
  rw[attrsOk] at h
  simp only[ZF] at h
  have A:a.space= []:=by simpa using h.1.1.1.1
  rw[attrAts,ZL,ZL,Ic t _ _ h.2]
  unfold AtP.bare
  rw[A]
def reads (s:List UInt8) (k k':Nat) (L:List Tok):Prop:=∀l,toksAt s k l=toksAt s k' (l++L)
theorem reads.nil (s:List UInt8) (k:Nat):reads s k k []:=λl=>by rw[ZX]
theorem reads.trans {a b:Nat} {L M:List Tok} (h:reads s a b L) (A:reads s b c M):reads s a c (L++M):=λl=>by rw[h,A,ZN]
theorem reads.one {e:Nat} {t:Tok} (A:k<s.length) (h:constructP s k= .ok (t,e)) (D:keeps t):reads s k e [t]:=λl=>by rw[JY A h,Zi D]
theorem Eg {t:Tok} (h:t.kind≠3):keeps t:=Or.inl h
theorem KJ (h:t≠ []):keeps (dataT t k):=Or.inr h
theorem Zey {done:List Nd} {a:Nat} (h:∀x,done.getLast? =some x->x.kind≠1):addText done t a=done++ [charD t a]:=by
 unfold addText;split
 ·rename_i s n al kk u b A;exact absurd rfl (h _ A)
 ·rfl
theorem Zbm {n:Nd} (h:nodeOk d n=true):∃r,nodeW n=60::r:=by
 obtain ⟨k,s,nm,al,ks,t,a⟩:=n;rw[nodeOk] at h;simp only[ZF,ZV] at h;rw[nodeW,Zf (by omega)];exact ⟨_,rfl⟩
mutual
theorem Zc9 (s:List UInt8):∀(n:Nd) (d k:Nat) (r:List UInt8),nodeOk d n=true->s.drop k=nodeW n++r->
 ∃t L m,reads s k (k+(nodeW n).length) (t::L)/\t.kind=1/\m.bare=n.bare/\∀fin rest,elemAt fin d ((t::L)++rest)= .ok (m,rest)
 | .mk kd sp nm al ks tx at_,d,k,r,ho,h=>by
  rw[nodeOk] at ho
  simp only[ZF,ZV,UP] at ho
  obtain ⟨⟨⟨⟨⟨⟨rfl,hd⟩,rfl⟩,rfl⟩,hq⟩,ha⟩,hks⟩:=ho
  have hbare:=Ic al [] (k+1+nm.length) ha
  rw[nodeW,Zf (by decide)] at h|-
  cases ks with
  |nil=>
   have h':s.drop k=60::(nm++(attrsW al++((if true then [47,62] else [62])++r))):=by
    rw[h]
    simp only[List.isEmpty_nil,Un,ZN,YH,Yu]
   have hc:=Zgq true hq ha h'
   refine ⟨⟨1,nm,attrAts al (k+1+nm.length),true,[],k⟩,[],.mk 0 [] nm (attrAts al (k+1+nm.length)) [] [] k,?_,rfl,?_,λfin rest=> ?_⟩
   ·have hr:=reads.one (Gd h') hc (Eg (by simp))
    have hlen:k+1+nm.length+(attrsW al).length+(if true=true then 2 else 1)=k+([60]++nm++attrsW al++(if ([]:List Nd).isEmpty=true then [47,62] else [62]++nodesW []++ [60,47]++nm++ [62])).length:=by
     simp only[List.isEmpty_nil,Un,Zc,Ze,ZP]
     omega
    rw[hlen] at hr
    exact hr
   ·rw[Nd.bare,Nd.bare,hbare]
   ·rw[YH,Ea,Zf (by omega),Zi rfl]
    rfl
  |cons x xs=>
   have h':s.drop k=60::(nm++(attrsW al++((if false then [47,62] else [62])++(nodesW (x::xs)++(60::47::(nm++62::r)))))):=by
    rw[h]
    simp only[List.isEmpty_cons,Y1,VF,ZN,YH,Yu]
   have hc:=Zgq false hq ha h'
   have h1:s.drop (k+1+nm.length+(attrsW al).length+1)=nodesW (x::xs)++(60::47::(nm++62::r)):=JC (x:= [62]) (JC (x:=attrsW al) (JC (x:=nm) (UR h')))
   obtain ⟨L,ms,hL,hms,hk⟩:=ZcZ s (x::xs) d false _ _ hks h1
   have h2:=JC (x:=nodesW (x::xs)) h1
   have hce:=ZkA hq h2
   have r1:=reads.one (Gd h') hc (Eg (by simp))
   have r3:=reads.one (Gd h2) hce (Eg (by simp))
   refine ⟨⟨1,nm,attrAts al (k+1+nm.length),false,[],k⟩,L++ [⟨2,nm,[],false,[],k+1+nm.length+(attrsW al).length+1+(nodesW (x::xs)).length⟩],.mk 0 [] nm (attrAts al (k+1+nm.length)) ms [] k,?_,rfl,?_,λfin rest=> ?_⟩
   ·have hr:=(r1.trans hL).trans r3
    have hlen:k+1+nm.length+(attrsW al).length+1+(nodesW (x::xs)).length+2+nm.length+1=k+([60]++nm++attrsW al++(if (x::xs).isEmpty=true then [47,62] else [62]++nodesW (x::xs)++ [60,47]++nm++ [62])).length:=by
     simp only[List.isEmpty_cons,Y1,VF,Zc,Ze,ZP]
     omega
    rw[hlen] at hr
    exact hr
   ·rw[Nd.bare,Nd.bare,hbare,hms]
   ·rw[YH,Ea,Zf (by omega),Zf (by simp),ZN,hk fin _ [] _ (λ_ x hx=>by cases hx),Yu,YH,Zbf _ _ _ _ _ _ rfl,Zf (by simp)]
    rfl
theorem ZcZ (s:List UInt8):∀(ks:List Nd) (d:Nat) (data:Bool) (k:Nat) (r:List UInt8),kidsOk d data ks=true->s.drop k=nodesW ks++60::r->
 ∃L ms,reads s k (k+(nodesW ks).length) L/\Nds.bare ms=Nds.bare ks/\∀fin tok done rest,(data=false->∀x,done.getLast? =some x->x.kind≠1)->kidsAt fin d tok done (L++rest)=kidsAt fin d tok (done++ms) rest
 | [],d,data,k,r,_,_=>⟨[],[],(by rw[nodesW];exact reads.nil s k),rfl,λfin tok done rest _=>by rw[Yu,ZX]⟩
 |x::xs,d,data,k,r,ho,h=>by
  rw[kidsOk,ZF] at ho
  obtain ⟨ho,hxs⟩:=ho
  have h1:s.drop k=nodeW x++(nodesW xs++60::r):=by rw[h,nodesW,ZN]
  have h2:=JC (x:=nodeW x) h1
  obtain ⟨L2,ms2,hL2,hms2,hk2⟩:=ZcZ s xs d _ _ _ hxs h2
  have hlen:k+(nodeW x).length+(nodesW xs).length=k+(nodesW (x::xs)).length:=by rw[nodesW,Zc];omega
  rw[hlen] at hL2
  by_cases hx:x.kind=1
  ·rw[Zi hx] at ho
   obtain ⟨kd,sp,nm,al,ks,tx,at_⟩:=x
   simp only[Nd.kind] at hx
   subst hx
   simp only[Nd.space,Nd.name,Nd.attrs,Nd.kids,Nd.text,ZF,JD,UP,List.isEmpty_eq_false_iff] at ho
   obtain ⟨⟨⟨⟨⟨⟨hdata,htx⟩,hch⟩,rfl⟩,rfl⟩,rfl⟩,rfl⟩:=ho
   rw[nodeW,Zi rfl] at h1 hL2
   have hkl:k<=s.length:=by
    rcases Xd k s.length with hh|hh
    ·omega
    ·rw[Zw hh] at h
     have:=Zz List.length h
     rw[Zc,Ze,ZP] at this
     omega
   have hne:∃r',nodesW xs++60::r=60::r':=by
    cases xs with
    |nil=>exact ⟨r,by rw[nodesW];rfl⟩
    |cons y ys=>
     rw[kidsOk,ZF] at hxs
     have hy:=hxs.1
     by_cases hyk:y.kind=1
     ·rw[Zi hyk] at hy
      simp[Nd.kind] at hy
     ·rw[Zf hyk] at hy
      obtain ⟨r',hr'⟩:=Zbm hy
      rw[nodesW,hr']
      exact ⟨_,rfl⟩
   have hc:=Eu htx h1 (Or.inr hne) hkl
   have hkl2:k<s.length:=by
    cases hw:wescL false tx with
    |nil=>exact absurd (Zgx hw) htx
    |cons c w=>rw[hw] at h1;exact Gd h1
   have r1:=reads.one hkl2 hc (KJ htx)
   refine ⟨[dataT tx k]++L2,charD tx k::ms2,r1.trans hL2,?_,λfin tok done rest hdone=> ?_⟩
   ·rw[Nds.bare,Nds.bare,hms2]
    unfold charD
    rw[Nd.bare,Nd.bare]
   ·rw[ZN,YH,Yu,EW _ _ _ _ _ _ rfl]
    have ha:=Zey (t:=tx) (a:=k) (hdone hdata)
    show kidsAt fin d tok (addText done tx k) _=_
    rw[ha,hk2 fin tok _ rest (λe=>absurd e (by simp[Nd.kind])),ZN]
    rfl
  ·rw[Zf hx] at ho
   have hdx:decide (x.kind=1)=false:=by simpa using hx
   obtain ⟨t,L,m,hL,ht,hm,he⟩:=Zc9 s x (d+1) k _ ho h1
   refine ⟨(t::L)++L2,m::ms2,hL.trans hL2,?_,λfin tok done rest hdone=> ?_⟩
   ·rw[Nds.bare,Nds.bare,hms2,hm]
   ·rw[ZN,YH,Zbg _ _ _ _ _ _ ht,<-YH,he]
    dsimp only
    rw[hk2 fin tok _ rest (λ_ y hy=> ?_),ZN]
    ·rfl
    ·rw[Xv] at hy
     simp only[XX,Option.or] at hy
     injection hy with hy
     rw[<-hy,<-I1,hm,I1]
     exact hx
end
theorem Zjs {b:Bool} (h:nmOk true b r=true):isChar (r:Int)=true:=by
 unfold nmOk nmChar nmStart at h;unfold isChar;rw[ZV];cases b<;>simp only[XC,ZnC,ZV,JG,Un,Y1,VF] at h<;>omega
theorem Zh4:∀(f:Nat) (first:Bool) (l:List UInt8),nmGo true f first l=l.length->isText l
 |0,first,l,h=>by
  have:l= []:=Zv (by rw[<-h];rfl)
  rw[this];exact Jz
 |f+1,first,l,h=>by
  by_cases F:l= []
  ·rw[F];exact Jz
  ·have H:0<l.length:=XI.2 F
   have A:(dec l).2≠0/\nmOk true first (dec l).1=true:=by
    by_cases D:l= []\/(dec l).2=0\/nmOk true first (dec l).1=false
    ·rw[Je D] at h
     omega
    ·refine ⟨λe=>D (Or.inr (Or.inl e)),?_⟩
     cases hk:nmOk true first (dec l).1 with
     |true=>rfl
     |false=>exact absurd (Or.inr (Or.inr hk)) D
   have I:=J5 l
   rw[Uo A.1 A.2] at h
   have D:=Gu (l:=l) (r:=(dec l).1) (m:=(dec l).2) rfl A.1
   rw[D]
   exact Y0 (Va (Zjs A.2)) (Zh4 f false _ (by rw[Zk];omega))
theorem Zfp {l:List UInt8} (h:isQ l=true):isText l:=Zh4 _ _ _ (KI h).2
theorem X3:∀l:List UInt8,(∀c∈l,c.toNat<128/\isChar (c.toNat:Int)=true)->isText l
 | [],_=>Jz
 |c::t,h=>by
  have D:=h c ZH
  have A:=Va D.2
  rw[JR D.1,Ij] at A
  exact Y0 (l:= [c]) A (X3 t λd F=>h d (ZD _ F))
theorem ZhM (v:Bool) (c:UInt8):isText (wescB v c):=by
 unfold wescB
 repeat' split
 all_goals exact X3 _ (by decide)
theorem ZdB (v:Bool) {l:List UInt8} (h:isText l):isText (wescL v l):=by
 obtain ⟨rs,H,rfl⟩:=h
 induction rs with
 |nil=>exact Jz
 |cons r rs ih=>
  have F:=H r ZH;rw[List.flatMap_cons,ZbR];refine Y0 ?_ (ih λx K=>H x (ZD _ K));have J:=VG F;rcases Xd r 128 with D|D
  ·rw[JR D];show isText (wescC v (UInt8.ofNat r)++ []);rw[ZX];unfold wescC;split
   ·rw[<-JR D];exact Va F
   ·exact ZhM v _
  ·rw[K6 λc I=> ?_]
   ·exact Va F
   ·have M:=Zcx J D c I;have A:∀d:UInt8,d.toNat<128->c≠d:=λd Q e=>(by subst e;omega);unfold wescB;rw[Zf (A 38 (by decide)),Zf (A 60 (by decide)),Zf (A 62 (by decide)),Zf (A 13 (by decide)),Zf (A 34 (by decide)),Zf (A 9 (by decide)),Zf (A 10 (by decide))];split<;>rfl
theorem Ik {l:List UInt8} (h:charsOk l=true):isText l:=(Zcp l).1 (by unfold charsOk at h;simpa using h)
theorem Zaz:∀(al:List AtP) (seen:List (List UInt8)),attrsOk al seen=true->isText (attrsW al)
 | [],_,_=>Jz
 |a::t,seen,h=>by
  rw[attrsOk] at h
  simp only[ZF] at h
  rw[attrsW]
  unfold attrW
  refine Y0 (Y0 (Y0 (Y0 (Y0 ?_ (Zfp h.1.1.2)) ?_) (ZdB true (Ik h.1.2))) ?_) (Zaz t _ h.2)
  all_goals exact X3 _ (by decide)
mutual
theorem Zda:∀(n:Nd) (d:Nat),nodeOk d n=true->isText (nodeW n)
 | .mk kd sp nm al ks tx at_,d,h=>by
  rw[nodeOk] at h
  simp only[ZF,ZV] at h
  have ha:=Zaz al [] h.1.2
  have hq:=Zfp h.1.1.2
  have hk:=Zc0 ks d false h.2
  rw[nodeW,Zf (by omega)]
  refine Y0 (Y0 (Y0 (X3 _ (by decide)) hq) ha) ?_
  split
  ·exact X3 _ (by decide)
  ·exact Y0 (Y0 (Y0 (Y0 (X3 _ (by decide)) hk) (X3 _ (by decide))) hq) (X3 _ (by decide))
theorem Zc0:∀(ks:List Nd) (d:Nat) (data:Bool),kidsOk d data ks=true->isText (nodesW ks)
 | [],_,_,_=>Jz
 |x::xs,d,data,h=>by
  rw[kidsOk,ZF] at h
  have h2:=Zc0 xs d _ h.2
  rw[nodesW]
  refine Y0 ?_ h2
  have h1:=h.1
  by_cases hx:x.kind=1
  ·rw[Zi hx] at h1
   simp only[ZF] at h1
   have hc:=h1.1.1.1.1.2
   obtain ⟨kd,sp,nm,al,ks,tx,at_⟩:=x
   simp only[Nd.kind] at hx
   rw[nodeW,Zi hx]
   exact ZdB false (Ik hc)
  ·rw[Zf hx] at h1
   exact Zda x _ h1
end
theorem Ziu (n:Nd) (h:nodeOk 1 n=true):∃m,docP (docW n)= .ok m/\m.bare=n.bare:=by
 obtain ⟨s,V⟩:∃s,docW n=s:=⟨_,rfl⟩;have M:isText s:=by rw[<-V];unfold docW;exact Y0 (Y0 (X3 _ (by decide)) (Zda n 1 h)) (X3 _ (by decide))
 obtain ⟨nr,U⟩:=Zbm h;have F:s.drop 0=headW++(nodeW n++ [10]):=by rw[<-V];unfold docW;rw[ZN];rfl
 have A:s.drop 38=10::(nodeW n++ [10]):=JC (x:=headW.take 38) F;have H:=UR A;have I:=JC (x:=nodeW n) H;have S:=Gd (r:= []) I;have K:=ZhA (x:= [10]) I (by omega);have Q:=Gd A;have c0:constructP s 0= .ok (dataT [] 0,38):=by
  have X:skipP s 0 2 [63,62]= .ok 38:=by unfold skipP findAt;have R:s.drop (0+2)=headW.drop 2++(nodeW n++ [10]):=JC (x:=headW.take 2) F;rw[R];rfl
  unfold constructP;rw[Zi (Vs (t:= [60,63]) F),X]
 have c1:constructP s 38= .ok (dataT [10] 38,39):=Eu (t:= [10]) (by simp) A (Or.inr ⟨nr++ [10],by rw[U];rfl⟩) (by omega);obtain ⟨t,L,m,Y,ht,hm,he⟩:=Zc9 s n 1 39 [10] h H;have c3:constructP s (39+(nodeW n).length)= .ok (dataT [10] (39+(nodeW n).length),39+(nodeW n).length+1):=Eu (t:= [10]) (r:= []) (by simp) I (Or.inl rfl) (by omega);have J:toksP s= .ok (dataT [10] 38::((t::L)++ [dataT [10] (39+(nodeW n).length)])):=by
  rw[IT,Zf (by rw[(Zcp s).2 M];simp),UL (c:=60) (d:=239) F (by decide),Zf (by simp),JY (by omega) c0,Zf (by unfold keeps dataT;simp),
   (reads.one Q c1 (KJ (by simp))) [],Y,(reads.one S c3 (KJ (by simp))),Vl (by rw[VO] at K;omega)]
  simp
 refine ⟨m,?_,hm⟩;rw[V,Gv,J];dsimp only;have Z:blankL [10]=true:=by decide
 have D:∀(fin k:Nat) (found:Option Nd) (r:List Tok),docAt fin found (dataT [10] k::r)=docAt fin found r:=λfin k found r=>by rw[KD,Zf (by unfold dataT;simp),Zf (by unfold dataT;simp),Zi (show (dataT [10] k).kind=3 from rfl),Zf (by show ¬blankL [10]=false;rw[Z];simp)]
 rw[D,YH,KD,Zf (by simp),Zf (by omega),Zf (by omega),<-YH,he];dsimp only;rw[D,Zcv]
end
end Go.Proofs.YtnlafkgkcnenfaaGreatDoor
