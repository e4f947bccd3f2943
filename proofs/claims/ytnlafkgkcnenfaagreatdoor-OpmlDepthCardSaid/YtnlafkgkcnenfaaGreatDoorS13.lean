/- Parts of the proof: contracts and plain laws. -/
import Derived.Test.YtnlafkgkcnenfaaGreatDoorS12
namespace Go.Proofs.YtnlafkgkcnenfaaGreatDoor
open Go Go.RowKit Tryz
set_option linter.unusedVariables false
set_option linter.unusedSimpArgs false
set_option maxRecDepth 100000
set_option maxHeartbeats 16000000
section
variable {c j:Nat} {w:World}
theorem ZhH:prog.underlying 52=some (.slice (prog.elem 52)):=by kernel_rfl
theorem Zi1 (w:Wq):(Go.sizeOf (prog.elem 52)).run prog w= .ok 1 w:=by kernel_rfl
theorem Zk1 {A:Option Addr} {l:List ByteArray} (n:Nat) (h:RStrs w (.slice A l.length c) l) (Y:n<=l.length):
 ∃I c2,(∀D:Wq,(Instr.slice 52 (.slice A l.length c) (some (nI (n:Int))) none none).run prog D= .ok (.slice I (l.length - n) c2) D)/\RStrs w (.slice I (l.length - n) c2) (l.drop n):=by
 obtain ⟨U,R,S,e,V,J,K,M⟩:=h;injection e with e1 e2 e3;subst e1 e3;clear e2;have q:(l.drop n).length=l.length - n:=Zj;refine ⟨if c=n then A else A.map (·.add (n*1)),c - n,λD=> ?_,?_⟩
 ·rw[run_slice_l (P:=prog) (w:=D) 52 A l.length c ZhH .i64 (n:Int) (by omega) (by omega),Zi1];rfl
 ·unfold RStrs;rw[q];refine ⟨by rw[Zs,q,Nat.mul_one],_,_,rfl,by omega,Zu (GQ _ _) J,λe=> ?_,λj u H=> ?_⟩
  ·by_cases F:c=n
   ·omega
   ·rw[Ze F] at e;have:=K (by cases A with|none=>rfl|some _=>cases e);omega
  ·rw[List.map_drop,List.getElem?_drop] at H;obtain ⟨ad,Q,F⟩:=M (n+j) u H;subst Q;have X:n+j<l.length:=(by have:=(ZM.1 H).1;rwa [Zs] at this);refine ⟨ad.add n,by rw[Ze (by omega),Nat.mul_one];rfl,?_⟩;rw[Vi];exact F
def pairS (ps:List (List UInt8×List UInt8)):List ByteArray:=(ps.map λp=> [str p.1,str p.2]).flatten
theorem ZbM (ps:List (List UInt8×List UInt8)):(pairS ps).length=2*ps.length:=by
 induction ps with
 |nil=>rfl
 |cons p t ih=>have e:pairS (p::t)=str p.1::str p.2::pairS t:=rfl;rw[e,Zf,Zf,Zf,ih];omega
theorem ZfC {ps:List (List UInt8×List UInt8)} (h:j<ps.length):pairS (ps.drop j)=str ps[j].1::str ps[j].2::pairS (ps.drop (j+1)):=by
 rw[Zi h];rfl
theorem QX (l:List AtP):(flatA l).length=l.length*4:=by
 induction l with
 |nil=>rfl
 |cons x t ih=>
  have e:flatA (x::t)=cellsA x++flatA t:=by unfold flatA;simp
  rw[e,Zc,ih,Zf];show 4+_=_;omega
def slLen:Value->Nat
 | .slice _ n _=>n
 |_=>0
theorem Zit (m:Nat):Int.tdiv ((2*m:Nat):Int) 2=(m:Int):=by
 rw[Int.tdiv_eq_ediv_of_nonneg (by omega)];omega
theorem ZeD (k:Nat) (s n:List UInt8) (al ks:Value) (l0:List AtP) (m2 d:Nat) (B0:Option Addr) (t:List UInt8) (a:Nat) (v:Value) (ps:List (List UInt8×List UInt8)) (w:Wq) (ha:RAts w al l0) (gj:ks= .slice B0 m2 d) (hv:RStrs w v (pairS ps)) (hn:l0.length+ps.length<=1000000):
 Calls prog 46 #[.agg #[nI (k:Nat),.string (str s),.string (str n),al,ks,.string (str t),nI (a:Nat)],v] w λe w'=>
  ∃al',e= .returned (.agg #[nI (k:Nat),.string (str s),.string (str n),al',ks,.string (str t),nI (a:Nat)])/\w'.ownsRow w.heap.size 88 4 al' (l0.length+ps.length) (flatA (l0++ps.map pairA))/\Ext w w':=by
 obtain ⟨i0,hO,hV,hW,hX⟩:=Yw Zch;obtain ⟨A,c,gh, -, -⟩:=ha.form;subst gh;subst gj;obtain ⟨D,dc,gp, -, -⟩:=RStrs.form hv;have hQ:=ZbM ps;subst gp;obtain ⟨q,hq⟩:∃q,(pairS ps).length=q:=⟨_,rfl⟩;have gn:(prog.info? 88).map (λi=>i.size)=some 4:=by kernel_rfl
 obtain ⟨W1,hd⟩:∃W1,(w.alloc (.cells #[nI (k:Nat),.string (str s),.string (str n),.slice A l0.length c,.slice B0 m2 d,.string (str t),nI (a:Nat)] 25)).alloc (.cells #[nI 0,eS,eS,sN,sN,eS,nI 0] 25)=W1:=⟨_,rfl⟩;have hT:Ext w W1:=by rw[<-hd];exact ((Ext.refl w).alloc _).alloc _
 have hw:BxN W1 w.heap.size k s n (.slice A l0.length c) (.slice B0 m2 d) t a:=by rw[<-hd];exact (JJ _ _ (by rw[Zq];omega)).trans (Zg w _)
 have hZ:W1.heap[w.heap.size+1]? =some (.cells #[nI 0,eS,eS,sN,sN,eS,nI 0] 25 (0,0)):=by rw[<-hd];exact Ys w _ _
 have hR:W1.heap.size=w.heap.size+2:=by rw[<-hd,Zq,Zq]
 obtain ⟨b0,b1,b2,b3,b4,b5,b6⟩:=hw.cells;have hs:=gd hT;have hF:=gd hw;have gg:=gd hZ;have hr:=gd hR;have HA:=gd ha;have HV:=gd hv;have HN:=gd hn;have hy:q=2*ps.length:=by rw[<-hq,hQ]
 have HQ:=gd hq;have gw:=gd hy;rw[hq];have gr:Int.tdiv ((q:Nat):Int) 2=(ps.length:Int):=by rw[hy];exact Zit _
 clear hT hw hZ hR ha hv hq hy hQ;go_enter func46,ntmps46;have hP:l0.length+ps.length<=1000000:=HN.out
 go_wp2_with (first|(refine IJ W1 rfl (.tmp 8) (.tmp 15) 22 rfl 88 i0 _ 4 underlying22 hO hV hW .i64 .i64 _ _ l0.length (l0.length+ps.length) rfl rfl rfl (Int.natCast_add _ _).symm (Nat.le_add_right _ _) (by rw[hX];omega) (by unfold maxLen;omega) ?_;(obtain ⟨zc,hD⟩:∃zc,madeCells (Value.cells (.agg #[eS,eS,eS,nI 0])) ((l0.length+ps.length)*4)=zc:=⟨_,rfl⟩);rw[hD];(have hE:zc.size=(l0.length+ps.length)*4:=by rw[<-hD];exact size_madeCells _ _);(obtain ⟨W2,he⟩:∃W2,W1.alloc (.cells zc 88)=W2:=⟨_,rfl⟩);rw[he];(have hl:Ext W1 W2:=by rw[<-he];exact (Ext.refl _).alloc _);(have Z:W2.heap[W1.heap.size]? =some (.cells zc 88 (0,0)):=by rw[<-he];exact Zg W1 _);obtain ⟨d0,d1,d2,d3,d4,d5,d6⟩:=(hF.out.ext hl).cells;clear b0 b1 b2 b3 b4 b5 b6 he hD)|(refine Ie rfl (.tmp 17) (.tmp 19) _ _ rfl 88 4 underlying22 gn W1.heap.size l0.length (l0.length+ps.length) l0.length A l0.length c rfl rfl zc 88 Z (flatA l0) (Nat.min_self _).symm (QX l0) (λj u hu=>RSl.at1' (HA.out.ext (hs.out.trans hl)) j u hu) (by rw[QX,hE];omega) (Ze7 l0) ?_))
 have R:(W2.setRow W1.heap.size (flatA l0++zc.toList.drop (flatA l0).length).toArray).ownsRow W1.heap.size 88 4 (.slice (some ⟨W1.heap.size,0,none⟩) l0.length (l0.length+ps.length)) l0.length (flatA l0):=
  ZcD (Zm _ _ _ _ _ _ Z) (Zb _) (QX l0) (Nat.le_add_right _ _) (by unfold maxLen;omega) (by have h1:zc.toList.length=zc.size:=rfl;rw[Zc,Zj,QX,h1,hE];omega)
 have hc:Ext W1 (W2.setRow W1.heap.size (flatA l0++zc.toList.drop (flatA l0).length).toArray):=hl.setRow (Zb _) _;obtain ⟨W3,hJ⟩:∃W3,W2.setRow W1.heap.size (flatA l0++zc.toList.drop (flatA l0).length).toArray=W3:=⟨_,rfl⟩;rw[hJ] at R hc|-;clear hJ hl Z hE d0 d1 d2 d3 d4 d5 d6 hP;have h5:=gd R;have gb:=gd hc;clear R hc;go_wp2;go_simp;have gl:q=(pairS (ps.drop 0)).length:=HQ.out.symm;go_loopw [1,5] (λv u wr=>∃(j:Nat),j<=ps.length/\RStrs W1 v (pairS (ps.drop j))/\wr.ownsRow W1.heap.size 88 4 u (l0.length+j) (flatA (l0++(ps.take j).map pairA))/\Ext W1 wr) (λv _ _=>slLen v)
 case atStart=>exact ⟨0,Zk _,(by have h:=HV.out.ext hs.out;rw[HQ.out] at h;exact h),(by rw[List.take_zero,Yv,Yi];exact h5.out),gb.out⟩
 case round=>
  obtain ⟨j,hj,U,F,hx⟩:=hrel;obtain ⟨D1,c1,rfl, -, -⟩:=RStrs.form U;obtain ⟨G,gc,rfl⟩:=Z8 F;have J:=ZbM (ps.drop j);rw[Zj] at J;by_cases hi:j<ps.length
  ·obtain ⟨D2,c2,hA,X⟩:=Zk1 2 U (by omega);have hk:=ZfC hi;obtain ⟨ad,hL,H⟩:=RSl.at1' U 0 (.string (str ps[j].1)) (by rw[hk];rfl);obtain ⟨gx,V,Q⟩:=RSl.at1' U 1 (.string (str ps[j].2)) (by rw[hk];rfl);rw[hL] at V;injection V with V;subst V;subst hL;rw[add_zero] at H;rw[show ad.add 1=⟨ad.block,ad.off+1,none⟩ from Ze (by omega)] at Q;have h3:ad.block<W1.heap.size:=ZS W1 _ H;have H:=hx.cell H;have Q:=hx.cell Q;have hdr:(pairS (ps.drop j)).drop 2=pairS (ps.drop (j+1)):=(by rw[hk];rfl);rw[hdr] at X;obtain ⟨rl,gm⟩:∃rl,(pairS (ps.drop j)).length=rl:=⟨_,rfl⟩;rw[gm] at hA X J|-;have gz:(1:Int)<(rl:Int):=(by omega);have gy:(0:Int)<(rl:Int):=(by omega);have gs:¬rl=0:=(by omega);have gt:∀wx:Wq,(Instr.slice 52 (.slice (some ad) rl c1) (some (nI 2)) none none).run prog wx= .ok (.slice D2 (rl - 2) c2) wx:=hA;have hB:(ps.take (j+1)).map pairA=(ps.take j).map pairA++ [pairA ps[j]]:=(by rw[Zx hi,ZR];rfl);obtain ⟨p,hp⟩:∃p,ps[j]=p:=⟨_,rfl⟩;rw[hp] at H Q hB;have h8:=gd J;clear J;have ga:=gd hB;have h9:=gd X;have hm:=gd F;have ht:=gd hx;have ho:Hid ((Value.slice G (l0.length+j) gc).ownBlock≠some ad.block):=gd (λe=>by
    have h1:=(hm.out.lt _ e).1;omega)
   clear h3;have hP:l0.length+ps.length<=1000000:=HN.out;clear U X hA hk hdr hB hp F hx gl;go_wp2;refine rN ?_;change wpAny _ _ _ _ _ _ _ (World.drew _);have hC:=(Ext.refl wr).drew;have I:wr.drew.cell? ad=some (.string (str p.1))/\wr.drew.cell? ⟨ad.block,ad.off+1,none⟩=some (.string (str p.2)):=⟨hC.cell H,hC.cell Q⟩;refine Yj (λw'=>w'.cell? ad=some (.string (str p.1))/\w'.cell? ⟨ad.block,ad.off+1,none⟩=some (.string (str p.2))) ?_;refine tG 0 (.slice G (l0.length+j) gc) I ?_;refine tG 1 (.slice (some ad) rl c1) I ?_;refine tG 2 (.pointer (some ad)) I ?_;refine tS 3 (.string (str p.1)) rfl (λw' hS=>by have q1:=hS.1;go_simp) I ?_;refine tG 4 (.slice (some ad) rl c1) I ?_;refine tG 5 (.pointer (some (ad.add 1))) I ?_;refine tS 6 (.string (str p.2)) rfl (λw' hS=>by have q1:=hS.2;go_simp) I ?_;refine tG 7 (.agg #[eS,.string (str p.1),.string (str p.2),nI 0]) I ?_;go_simp;refine sS 8 λK hK=> ?_;go_simp;have M:=hC.alloc (.cells #[eS,.string (str p.1),.string (str p.2),nI 0] 88);refine hK _ _ ⟨M.cell H,M.cell Q⟩ ?_;clear hK K;have hG:Hid (RSl (wr.drew.alloc (.cells #[eS,.string (str p.1),.string (str p.2),nI 0] 88)) 4 (.slice (some ⟨wr.heap.size,0,none⟩) 1 1) 1 (cellsA (pairA p))):=gd (Yn (w:=wr.drew) (n:=1) (cs:=cellsA (pairA p)) rfl (by decide));have hH:=gd (Ye hm.out M);refine sS 9 λK hK=> ?_;refine ZV _ (by rfl) (.tmp 26) (.tmp 34) _ (by rfl) W1.heap.size 88 i0 _ 4 56 underlying22 hO hV hW hX rfl (by decide) _ (l0.length+j) (flatA (l0++(ps.take j).map pairA)) (by rfl) hH.out _ 1 (cellsA (pairA p)) (by rfl) hG.out (J0 _) (by unfold maxLen;omega) (by omega) (ht.out.trans M).size ?_;intro v9 w9 S hh hM;have gq:Ext W1 w9:=Ext.app (ht.out.trans M) hh hH.out (Zb _);have h4:=gd (ZS wr _ H);have hI:w9.cell? ad=some (.string (str p.1))/\w9.cell? ⟨ad.block,ad.off+1,none⟩=some (.string (str p.2)):=(by have gk:(Value.slice G (l0.length+j) gc).ownBlock≠some ad.block:=ho.out;have hb:w9.heap[ad.block]? =(wr.drew.alloc (.cells #[eS,.string (str p.1),.string (str p.2),nI 0] 88)).heap[ad.block]?:=hh.block _ (YE h4.out M.size) (λe=>gk e.symm);exact ⟨(ZU hb).trans (M.cell H),(ZU (a:=⟨ad.block,ad.off+1,none⟩) hb).trans (M.cell Q)⟩);obtain ⟨V9,c9,go⟩:=Z8 S;subst go;have h7:Hid (w9.ownsRow W1.heap.size 88 4 (.slice V9 (l0.length+j+1) c9) (l0.length+(j+1)) (flatA (l0++(ps.take (j+1)).map pairA))):=(by show w9.ownsRow _ _ _ _ _ _;rw[ga.out,<-ZN,QW,QY];exact S);have gf:=gd gq;have gu:=gd hh;refine hK _ _ hI ?_;clear hK K S hh hM;refine sS 10 λK hK=> ?_;go_simp;refine hK _ _ hI ?_;clear hK K;refine sE ?_;go_wp2;go_roundw
   case rel=>exact ⟨j+1,hi,h9.out,h7.out,gf.out⟩
   case measure=>have:=h8.out;simp[slLen];omega
  ·have gi:j=ps.length:=(by omega);subst gi;have h0:pairS (ps.drop ps.length)= []:=(by rw[List.drop_length];rfl);rw[h0] at U|-;rw[List.take_length] at F;have HO:=gd F;have ht:=gd hx;have hg:=hF.out.ext hx;have hz:W1.heap.size=w.heap.size+2:=hr.out;have h2:=hx.heap gg.out;obtain ⟨b0,b1,b2,b3,b4,b5,b6⟩:=hg.cells;obtain ⟨-, -,f3, -⟩:=hg.frozen;obtain ⟨W5,hf⟩:∃W5,wr.setCell ⟨w.heap.size,3,none⟩ (.slice G (l0.length+ps.length) gc)=W5:=⟨_,rfl⟩;have hN:BxN W5 w.heap.size k s n (.slice G (l0.length+ps.length) gc) (.slice B0 m2 d) t a:=(by rw[<-hf];exact hg.attrs _);have hY:W5.heap[w.heap.size+1]? =some (.cells #[nI 0,eS,eS,sN,sN,eS,nI 0] 25 (0,0)):=(by rw[<-hf];exact (Z4 wr ⟨w.heap.size,3,none⟩ (w.heap.size+1) _ (by show w.heap.size+1≠w.heap.size;omega)).trans h2);have Y:W5.ownsRow W1.heap.size 88 4 (.slice G (l0.length+ps.length) gc) (l0.length+ps.length) (flatA (l0++ps.map pairA)):=(by rw[<-hf];exact Zli F (by show w.heap.size<_;omega) _);have hU:Ext w W5:=(by rw[<-hf];exact (hs.out.trans hx).setCell (Zb _) _);obtain ⟨e0,e1,e2,e3,e4,e5,e6⟩:=hN.cells;have h6:=gd Y;have ge:=gd hU;clear F hx hg h2 Y hU hN hz J U hi hj h0
   go_wp2_with (first|(refine Zd rfl 25 (.tmp 4) (.tmp 38) rfl (w.heap.size+1) _ rfl rfl _ _ hY Zv rfl Yx ?_))
   ((try simp only[Exit.inBlock,Exit.then]);refine Zl (JA rfl _ _ _ _ _ _ _ rfl (Zm _ _ _ _ _ _ hY) underlying25 rfl Zv) rfl ?_);exact ⟨_,rfl,XM (Jf h6.out (by rw[hr.out];omega) _) (by rw[hr.out];omega),ge.out.setRow (Yf _) _⟩
end
theorem U4 (t:Int) (w:Wq):
 Calls prog 130 #[nI t] w λe w'=>e= .returned (.bool (inT t))/\w=w':=by
 unfold inT;go_enter func130,ntmps130;go_wp2
 all_goals go_ret
 all_goals exact ⟨by simp_all<;>omega,rfl⟩
theorem Xy (b:Bool) (w:Wq):
 Calls prog 85 #[.bool b] w λe w'=>e= .returned (nI (if b=true then 0 else 22))/\w=w':=by
 cases b with
 |true=>go_enter func85,ntmps85;go_wp2;go_ret;exact ⟨rfl,rfl⟩
 |false=>go_enter func85,ntmps85;go_wp2;go_ret;exact ⟨rfl,rfl⟩
theorem Zfn (e:Ent) (w:Wq):Calls prog 129 #[.agg (eCells e).toArray] w λx w'=>x= .returned (.string e.id)/\Ext w w':=by
 unfold eCells;go_enter func129,ntmps129;go_wp2;go_ret;exact ⟨rfl,(Ext.refl _).alloc _⟩
theorem Zho (p es:Value) (f:Fd) (w:Wq):Calls prog 88 #[.agg (fCells p es f).toArray] w λx w'=>x= .returned (.string f.id)/\Ext w w':=by
 unfold fCells;go_enter func88,ntmps88;go_wp2;go_ret;exact ⟨rfl,(Ext.refl _).alloc _⟩
theorem Um (v:Value) (l:List ByteArray) (w:Wq) (hE:Env w) (h:RStrs w v l) (I:∀s∈l,s.size<=16777216) (hn:l.length<=16777216):
 Calls prog 128 #[v] w λe w'=>e= .returned (.bool (l.all validS))/\Ext w w':=by
 obtain ⟨A,c,rfl, -, -⟩:=h.form;obtain ⟨R,Y⟩:∃R,l.all validS=R:=⟨_,rfl⟩;rw[Y];have HR:=gd Y;have HS:=gd I;have HH:=gd h;have U:=gd hE;clear Y I h hE;go_enter func128,ntmps128;go_wp2;go_loopw [7] (λi wr=>∃k:Nat,k<=l.length/\i=nI k/\Hid (∀s∈l.take k,validS s=true)/\Ext w wr) (λi _=>l.length - (intOf i).toNat)
 case atStart=>exact ⟨0,Zk _,rfl,gd (by simp),Ext.refl _⟩
 case round=>
  obtain ⟨k,hk,rfl,J,F⟩:=hrel;by_cases H:k<l.length
  ·obtain ⟨ad,c1,e1,hc⟩:=(RStrs.ext HH.out F).at H;injection e1 with e1 e1' e1'';subst e1;clear e1' e1'';have D:l[k]∈l:=ZL H;have K:=Zx H;have Q:=gd (Za0 l[k] wr (U.out.ext F) (by have:=HS.out _ D;omega));have q:validS l[k]=false->R=false:=λh=>(by rw[<-HR.out,Xu];intro h2;have:=Yq.1 h2 _ D;rw[h] at this;cases this);obtain ⟨p,S⟩:∃p,l[k]=p:=⟨_,rfl⟩;rw[S] at hc K Q q;have X:=gd K;have hd:(0:Int)<=(k:Int):=(by omega);have he:(k:Int)<(l.length:Int):=(by omega);clear S D K;cases hv:validS p with
   |false=>
    have Z:=q hv;subst Z;rw[hv] at Q;clear q hv
    go_wp2_with (first|(go_at_call 178;(with_reducible refine Za (Q.out) ?_);rintro e w6 ⟨rfl,M⟩))
    go_ret;exact ⟨rfl,F.trans M⟩
   |true=>
    have V:=gd hv;rw[hv] at Q;clear q hv
    go_wp2_with (first|(go_at_call 178;(with_reducible refine Za (Q.out) ?_);rintro e w6 ⟨rfl,M⟩))
    go_roundw
    case rel=>exact ⟨k+1,H,by go_num,gd (λs I=>by
     rw[X.out] at I;rcases Zt.1 I with I|I
     ·exact J.out s I
     ·rw[Zo.1 I];exact V.out),F.trans M⟩
    case measure=>simp[intOf];omega
  ·have hb:k=l.length:=(by omega);subst hb;have hi:=J.out;rw[ZT (Zb _)] at hi;have ha:R=true:=(by rw[<-HR.out];exact Yq.2 hi);subst ha;clear hi;go_wp2;go_ret;exact ⟨rfl,F⟩
theorem ZbG {s:ByteArray} (h:s=noS):s.toList.isEmpty=true:=by rw[h,Q8];rfl
theorem UU (w:Wq) (l:List ByteArray) (h:l.length<=maxLen):RStrs (w.alloc (.cells (l.map Value.string).toArray 9)) (.slice (some ⟨w.heap.size,0,none⟩) l.length l.length) l:=
 Yn (by rw[Zs,Nat.mul_one]) h
theorem ZdY (e:Ent) (w:Wq) (S:Env w) (U:eokS e):
 Calls prog 132 #[.agg (eCells e).toArray] w λx w'=>x= .returned (nI (if okE e=true then 0 else 22))/\Ext w w':=by
 have H:okE e=((strsE e).all validS && !decide (e.id=noS) && inT e.upd):=rfl;have A:=gd (λw'=>Xy false w');have I:=gd (λw'=>U4 e.upd w');have F:=gd (λ(w':Wq) (h:Ext w w')=>Um _ (strsE e) (w'.alloc (.cells ((strsE e).map Value.string).toArray 9)) ((S.ext h).alloc _) (UU w' (strsE e) (by show 4<=maxLen;decide)) (λs h=>by
  obtain ⟨Z,h2,h3,h4⟩:=U;unfold strsE at h;simp only[ZF,Ya,Xs] at h;rcases h with rfl|rfl|rfl|rfl<;>omega) (by show 4<=16777216;decide))
 by_cases D:e.id=noS
 ·have q:okE e=false:=by rw[H,D];simp
  rw[Ze (by rw[q];simp)];have J:=ZbG D;clear H D q I F;unfold eCells;go_enter func132,ntmps132
  go_wp2_with (first|(go_at_call 85;(with_reducible refine Za (A.out _) ?_);rintro e V ⟨rfl,rfl⟩))
  go_ret;exact ⟨rfl,(Ext.refl _).alloc _⟩
 ·have J:=KU D;cases hti:inT e.upd with
  |false=>
   have q:okE e=false:=(by rw[H,hti,Bool.and_false]);rw[Ze (by rw[q];simp)];rw[hti] at I;clear H D q F hti;unfold eCells;go_enter func132,ntmps132
   go_wp2_with (first|(go_at_call 130;(with_reducible refine Za (I.out _) ?_);rintro e w5 ⟨rfl,rfl⟩)|(go_at_call 85;(with_reducible refine Za (A.out _) ?_);rintro e V ⟨rfl,rfl⟩))
   go_ret;exact ⟨rfl,(Ext.refl _).alloc _⟩
  |true=>
   have q:okE e=(strsE e).all validS:=(by rw[H,hti,YG D];simp);rw[q];rw[hti] at I;have Q:=gd (λw'=>Xy ((strsE e).all validS) w');obtain ⟨b,R⟩:∃b,(strsE e).all validS=b:=⟨_,rfl⟩;simp only[R] at F Q|-;unfold strsE at F;simp only[ZP,Yv,Zf,ZK] at F;clear H D q A hti R;unfold eCells;go_enter func132,ntmps132
   go_wp2_with (first|(go_at_call 130;(with_reducible refine Za (I.out _) ?_);rintro e w5 ⟨rfl,rfl⟩)|(go_at_call 128;(have M:=F.out _ ((Ext.refl w).alloc (.cells #[.string e.id,.string e.title,.string e.link,.string e.content,nI e.upd] 76)));(simp only[Zq] at M);(with_reducible refine Za M ?_);clear M;rintro X w7 ⟨rfl,K⟩)|(go_at_call 85;(with_reducible refine Za (Q.out _) ?_);rintro Y w8 ⟨rfl,rfl⟩))
   all_goals go_ret
   all_goals exact ⟨rfl,(((Ext.refl _).alloc _).alloc _).trans K⟩
theorem ZgD (w:Wq):Calls prog 44 #[.string ⟨#[111,117,116,108,105,110,101]⟩,sN] w λe w'=>
 ∃KB kc,e= .returned (.agg #[nI 0,eS,.string ⟨#[111,117,116,108,105,110,101]⟩,sN,.slice KB 0 kc,eS,nI 0])/\RNs w' (.slice KB 0 kc) []/\Ext w w':=by
 have h:=Eg outlineL sN [] w (RNs.nil w) (by intro y D;cases D) (by decide);rw[Uz] at h;refine Za h ?_;rintro e w' ⟨ks,rfl,q,A⟩;obtain ⟨KB,kc,rfl⟩:=Z8 q;exact ⟨KB,kc,rfl,RSl.of_own q,A⟩
theorem ZgC (v:Value) (l:List Nc) (w:Wq) (F:RNs w v l) (A:∀y∈l,RdN w y/\y.kind=0) (D:l.length<=16777216):Calls prog 44 #[.string ⟨#[111,117,116,108,105,110,101]⟩,v] w λe w'=>
 ∃KB kc,e= .returned (.agg #[nI 0,eS,.string ⟨#[111,117,116,108,105,110,101]⟩,sN,.slice KB l.length kc,eS,nI 0])/\w'.ownsRow w.heap.size 25 7 (.slice KB l.length kc) l.length (flatN l)/\Ext w w':=by
 have h:=Eg outlineL v l w F A D;rw[Uz] at h;refine Za h ?_;rintro e w' ⟨ks,rfl,q,H⟩;obtain ⟨KB,kc,rfl⟩:=Z8 q;exact ⟨KB,kc,rfl,q,H⟩
theorem Ic (al:Value) (l0:List AtP) (KB:Option Addr) (n kc:Nat) (v:Value) (ps:List (List UInt8×List UInt8)) (w:Wq) (A:RAts w al l0) (F:RStrs w v (pairS ps)) (D:l0.length+ps.length<=1000000):
 Calls prog 46 #[.agg #[nI 0,eS,.string ⟨#[111,117,116,108,105,110,101]⟩,al,.slice KB n kc,eS,nI 0],v] w λe w'=>
  ∃AB ac,e= .returned (.agg #[nI 0,eS,.string ⟨#[111,117,116,108,105,110,101]⟩,.slice AB (l0.length+ps.length) ac,.slice KB n kc,eS,nI 0])/\w'.ownsRow w.heap.size 88 4 (.slice AB (l0.length+ps.length) ac) (l0.length+ps.length) (flatA (l0++ps.map pairA))/\Ext w w':=by
 have h:=ZeD 0 [] outlineL al (.slice KB n kc) l0 n kc KB [] 0 v ps w A rfl F D;rw[Uz] at h;refine Za h ?_;rintro e w' ⟨al',rfl,q,H⟩;obtain ⟨AB,ac,rfl⟩:=Z8 q;exact ⟨AB,ac,rfl,q,H⟩
theorem ZhU (KB:Option Addr) (kc:Nat) (v:Value) (title id:ByteArray) (w:Wq) (h:RStrs w v (pairS [(typeL,rssL),(textL,lst title),(xmlUrlL,lst id)])):
 Calls prog 46 #[.agg #[nI 0,eS,.string ⟨#[111,117,116,108,105,110,101]⟩,sN,.slice KB 0 kc,eS,nI 0],v] w λe w'=>
  ∃AB ac,e= .returned (.agg #[nI 0,eS,.string ⟨#[111,117,116,108,105,110,101]⟩,.slice AB 3 ac,.slice KB 0 kc,eS,nI 0])/\w'.ownsRow w.heap.size 88 4 (.slice AB 3 ac) 3 (flatA ([(typeL,rssL),(textL,lst title),(xmlUrlL,lst id)].map pairA))/\Ext w w':=
 Ic sN [] KB 0 kc v [(typeL,rssL),(textL,lst title),(xmlUrlL,lst id)] w (RAts.nil w) h (by show 0+3<=1000000;omega)
theorem Zhd (w:Wq) (title id:ByteArray):RStrs (w.alloc (.cells #[.string ⟨#[116,121,112,101]⟩,.string ⟨#[114,115,115]⟩,.string ⟨#[116,101,120,116]⟩,.string title,.string ⟨#[120,109,108,85,114,108]⟩,.string id] 9)) (.slice (some ⟨w.heap.size,0,none⟩) 6 6) (pairS [(typeL,rssL),(textL,lst title),(xmlUrlL,lst id)]):=by
 have e:∀s:ByteArray,str (lst s)=s:=λs=>rfl;have h:=UU w (pairS [(typeL,rssL),(textL,lst title),(xmlUrlL,lst id)]) (by show 6<=maxLen;unfold maxLen;omega);exact h
theorem Zhf (w:Wq) (link:ByteArray):RStrs (w.alloc (.cells #[.string ⟨#[104,116,109,108,85,114,108]⟩,.string link] 9)) (.slice (some ⟨w.heap.size,0,none⟩) 2 2) (pairS [(htmlUrlL,lst link)]):=UU w (pairS [(htmlUrlL,lst link)]) (by show 2<=maxLen;unfold maxLen;omega)
theorem ZgU (w:Wq) (name:ByteArray):RStrs (w.alloc (.cells #[.string ⟨#[116,101,120,116]⟩,.string name] 9)) (.slice (some ⟨w.heap.size,0,none⟩) 2 2) (pairS [(textL,lst name)]):=UU w (pairS [(textL,lst name)]) (by show 2<=maxLen;unfold maxLen;omega)
section
section
variable {P:Program} {md:Region.Mode} {Q:Exit→Act→World→Prop} {S:World→Prop}
end
end
section
variable {B g kc n:Nat} {T e:TypeId} {cs:Array Value} {v:Value} {w w':World} {xs:List Value}
theorem Zee {size:Nat} {fr:Nat×Nat} (A:w.ownsRow B e size v n xs) (D:w.heap[g]? =some (.cells cs T fr)) (H:T≠e):v.ownBlock≠some g:=by
 rcases A.2 with ⟨rfl,_⟩|⟨q,cap,F,rfl,_,I,_⟩
 ·simp[Value.ownBlock]
 ·intro h;simp only[Value.ownBlock,Y3] at h;subst h;rw[I] at D;simp only[Y3,Obj.cells.injEq] at D;exact H D.2.1.symm
theorem Qc {size:Nat} {q:Array Value} {fr:Nat×Nat} (h:w.ownsRow B e size v n xs) (D:w.heap[g]? =some (.cells cs T fr)) (A:T≠e):(w.setRow g q).ownsRow B e size v n xs:=
 h.kept (row:=some g) ⟨rfl,rfl,rfl,by simp[World.setRow],λk _ F=>ZY w g k q (λe=>F (by rw[e]))⟩ (Or.inr (Zee h D A))
theorem U8 (h:RNs w v []):RNs w' v []:=by
 obtain ⟨q,A,c,e,D,F,H,J⟩:=h;exact ⟨q,A,c,e,D,F,H,λj u I=>by simp[ZgP] at I⟩
def leafC (KB:Option Addr) (kc:Nat) (al:Value) (f:Fd):Nc:= .mk 0 [] outlineL al ([(typeL,rssL),(textL,lst f.title),(xmlUrlL,lst f.id)].map pairA) (.slice KB 0 kc) [] [] 0
def leafC2 (KB:Option Addr) (kc:Nat) (al:Value) (f:Fd):Nc:= .mk 0 [] outlineL al ([(typeL,rssL),(textL,lst f.title),(xmlUrlL,lst f.id)].map pairA++ [(htmlUrlL,lst f.link)].map pairA) (.slice KB 0 kc) [] [] 0
theorem ZiE {KB:Option Addr} {al:Value} {f:Fd} (h:f.link.size=0):(leafC KB kc al f).nd=feedN f:=by
 unfold feedN leafC;rw[Zh h];rw[Nc.nd,Nc.nds];rfl
theorem Zhb {KB:Option Addr} {al:Value} {f:Fd} (h:f.link.size≠0):(leafC2 KB kc al f).nd=feedN f:=by
 unfold feedN leafC2;rw[Ze h];rw[Nc.nd,Nc.nds];rfl
theorem ZiF {KB:Option Addr} {al:Value} {f:Fd} (h:w.ownsRow B 88 4 al 3 (flatA ([(typeL,rssL),(textL,lst f.title),(xmlUrlL,lst f.id)].map pairA))) (q:RNs w (.slice KB 0 kc) []):RdN w (leafC KB kc al f):=by
 unfold leafC;rw[RdN];exact ⟨RSl.of_own h,q,by rw[RdNs];trivial⟩
theorem Zhc {KB:Option Addr} {al:Value} {f:Fd} (h:w.ownsRow B 88 4 al 4 (flatA ([(typeL,rssL),(textL,lst f.title),(xmlUrlL,lst f.id)].map pairA++ [(htmlUrlL,lst f.link)].map pairA))) (q:RNs w (.slice KB 0 kc) []):RdN w (leafC2 KB kc al f):=by
 unfold leafC2;rw[RdN];exact ⟨RSl.of_own h,q,by rw[RdNs];trivial⟩
theorem ZbK {K M Y Z V X:Nat} {e1 e2:TypeId} {I J:Value} {h H:List Value} (D:w.ownsRow K e1 Y I V h) (R:w.ownsRow M e2 Z J X H) (F:e1≠e2) (U:h≠ []):I.ownBlock≠J.ownBlock:=by
 rcases R.2 with ⟨rfl,_⟩|⟨q,cap,A,rfl,_,S,_⟩
 ·rcases D.2 with ⟨rfl,Q⟩|⟨q,cap,A,rfl,_⟩
  ·exact absurd (Zw (by rw[D.1,Q,Xf])) U
  ·simp[Value.ownBlock]
 ·exact Zee D S (λe=>F e.symm)
end
section
variable {f i k n r:Nat} {s t:List UInt8}
theorem Jg {x r:List UInt8} (h:s.drop k=x++r):s.drop (k+x.length)=r:=by
 rw[<-List.drop_drop,h,List.drop_left]
theorem Ja {r:List UInt8} {c:UInt8} (h:s.drop k=c::r):s.drop (k+1)=r:=Jg (x:= [c]) h
theorem QD {r:List UInt8} {c:UInt8} (h:s.drop k=c::r):k<s.length:=by
 rcases Xq k s.length with q|q
 ·exact q
 ·rw[ZC q] at h;cases h
theorem ZkR {x:List UInt8} (h:s.drop k=x) (q:k<=s.length):k+x.length=s.length:=by
 have:=Zz List.length h;rw[Zj] at this;omega
theorem Zf8 {x r:List UInt8} (h:s.drop k=x++r) (q:k<=s.length):k+x.length<=s.length:=by
 have:=ZkR h q;rw[Zc] at this;omega
theorem Jt {r:List UInt8} (h:s.drop k=t++r):hasAt s k t=true:=by
 unfold hasAt;rw[h,List.isPrefixOf_iff_prefix];exact List.prefix_append _ _
theorem VP {r:List UInt8} {c d:UInt8} (h:s.drop k=c::r) (q:d≠c):hasAt s k (d::t)=false:=by
 unfold hasAt;rw[h];have:(d==c)=false:=by simpa using q
 simp[List.isPrefixOf,this]
theorem XK {r:List UInt8} {c c2 d q:UInt8} (h:s.drop k=c::c2::r) (A:q≠c2):hasAt s k (d::q::t)=false:=by
 unfold hasAt;rw[h];have:(q==c2)=false:=by simpa using A
 simp[List.isPrefixOf,this]
theorem Uy {r:List UInt8} {c:UInt8} (h:s.drop k=c::r) (q:isSp c.toNat=false):spAt s k=k:=by
 unfold spAt;rw[h,Z9,Ze (by rw[q];simp)];rfl
theorem ZkW {r:List UInt8} {c:UInt8} (h:s.drop k=32::c::r) (q:isSp c.toNat=false):spAt s k=k+1:=by
 unfold spAt;rw[h,Z9,Zh (by decide),Z9,Ze (by rw[q];simp)];rfl
theorem ZfW {l:List UInt8} (r:List UInt8) (h:(dec l).2≠0):dec (l++r)=dec l/\scalar (dec l).1/\(encN (dec l).1).length=(dec l).2:=by
 have F:=Zbd (l:=l) (r:=(dec l).1) (m:=(dec l).2) rfl h;have I:=Up l;have q:(encN (dec l).1).length=(dec l).2:=by have:=Zz List.length F;rw[Zc,Zj] at this;omega
 have A:scalar (dec l).1:=by
  unfold scalar;rcases Xq 1114111 (dec l).1 with D|D
  ·have:encN (dec l).1= []:=(by unfold encN;rw[Zh (Or.inl D)]);rw[this] at q;exact absurd q.symm h
  ·by_cases H:55296<=(dec l).1/\(dec l).1<=57343
   ·have:encN (dec l).1= []:=(by unfold encN;rw[Zh (Or.inr H)]);rw[this] at q;exact absurd q.symm h
   ·omega
 refine ⟨?_,A,q⟩
 calc dec (l++r)=dec (encN (dec l).1++(l.drop (dec l).2++r)):=by rw[<-ZN,<-F]
  _=((dec l).1,(encN (dec l).1).length):=Zb8 A _
  _=dec l:=by rw[q]
theorem GW (c:UInt8):UInt8.ofNat c.toNat=c:=by simp
theorem KM {c:UInt8} (t:List UInt8) (h:c.toNat<128):dec (c::t)=(c.toNat,1):=by
 have q:=Zb8 (r:=c.toNat) (Or.inl (by omega)) t;rw[VM h,GW] at q;exact q
theorem EK {b:Bool} (h:nmOk true false r=false):nmOk true b r=false:=by
 cases b with
 |false=>exact h
 |true=>unfold nmOk nmChar at h;unfold nmOk;simp only[Bool.or_eq_false_iff,JG,ZkC] at h;simp only[Zjw,Bool.or_eq_false_iff];exact ⟨h.1,h.2.1⟩
def ends (c:UInt8):Prop:=c.toNat<128/\nmOk true false c.toNat=false
theorem ZiL {c:UInt8} (A:ends c) (r:List UInt8):∀(f:Nat) (first:Bool) (l:List UInt8),nmGo true f first l=l.length->l.length<=f->∀g,l.length<g->nmGo true g first (l++c::r)=l.length
 |0,first,l,_,hl,g,hg=>by
  have:l= []:=Zw (by omega)
  subst this
  refine Jl (Or.inr (Or.inr ?_))
  rw[Xl,KM r A.1]
  exact EK A.2
 |f+1,first,l,h,hl,g,hg=>by
  by_cases I:l= []
  ·subst I
   refine Jl (Or.inr (Or.inr ?_))
   rw[Xl,KM r A.1]
   exact EK A.2
  ·have J:0<l.length:=Jm.2 I
   have q:(dec l).2≠0/\nmOk true first (dec l).1=true:=by
    by_cases H:l= []\/(dec l).2=0\/nmOk true first (dec l).1=false
    ·rw[Jl H] at h
     omega
    ·refine ⟨λe=>H (Or.inr (Or.inl e)),?_⟩
     cases hk:nmOk true first (dec l).1 with
     |true=>rfl
     |false=>exact absurd (Or.inr (Or.inr hk)) H
   have D:=(ZfW (c::r) q.1).1
   have F:=Up l
   rw[Vp q.1 q.2] at h
   obtain ⟨g,rfl⟩:∃m,g=m+1:=⟨g - 1,by omega⟩
   rw[Vp (by rw[D];exact q.1) (by rw[D];exact q.2),D,List.drop_append_of_le_length F]
   have K:=ZiL A r f false (l.drop (dec l).2) (by rw[Zj];omega) (by rw[Zj];omega) g (by rw[Zj];omega)
   rw[K,Zj]
   omega
theorem Qz {l:List UInt8} (h:isQ l=true):0<l.length/\nmGo true l.length true l=l.length:=by
 unfold isQ nmLen at h;simpa using h
theorem Zd7 {n r:List UInt8} {c:UInt8} (A:isQ n=true) (q:ends c) (h:s.drop k=n++c::r):nmAt s k=k+n.length:=by
 unfold nmAt nmLen;rw[h,ZiL q r n.length true n (Qz A).2 (Zb _) _ (by rw[Zc,Zf];omega)]
theorem Kc {c:UInt8} (h:isQ (c::t)=true):c≠63/\c≠33/\c≠47/\isSp c.toNat=false/\c≠62:=by
 have H:=(Qz h).2;have q:∀d:UInt8,d.toNat<128->nmOk true true d.toNat=false->c≠d:=λd I J e=>by subst e;rw[Jl (Or.inr (Or.inr (by rw[KM t I];exact J))),Zf] at H;omega
 refine ⟨q 63 (by decide) (by decide),q 33 (by decide) (by decide),q 47 (by decide) (by decide),?_,q 62 (by decide) (by decide)⟩;have D:=q 32 (by decide) (by decide);have F:=q 9 (by decide) (by decide);have a3:=q 10 (by decide) (by decide);have a4:=q 13 (by decide) (by decide);unfold isSp;rw[Jj];intro e;have A:∀n:Nat,n<256->(c.toNat:Int)=n->c=UInt8.ofNat n:=λn K e=>by
  have:c.toNat=n:=by omega
  rw[<-this,GW]
 rcases e with e|e|e|e
 ·exact D (A 32 (by decide) e)
 ·exact F (A 9 (by decide) e)
 ·exact a3 (A 10 (by decide) e)
 ·exact a4 (A 13 (by decide) e)
theorem Kb {l:List UInt8} (h:isQ l=true):∃c t,l=c::t:=by
 cases l with
 |nil=>exact absurd (Qz h).1 (by simp)
 |cons c t=>exact ⟨c,t,rfl⟩
theorem ZbX (v:Bool) (c:UInt8) (h:wescB v c≠ []):∃x:List UInt8,wescB v c=38::(x++ [59])/\(∀d∈x,(d !=59)=true)/\refRune x=some c.toNat/\isChar (c.toNat:Int)=true/\c.toNat<128:=by
 unfold wescB at h|-;by_cases q:c=38
 ·subst q;exact ⟨[97,109,112],rfl,by decide,by decide,by decide,by decide⟩
 rw[Ze q] at h|-;by_cases A:c=60
 ·subst A;exact ⟨[108,116],rfl,by decide,by decide,by decide,by decide⟩
 rw[Ze A] at h|-;by_cases D:c=62
 ·subst D;exact ⟨[103,116],rfl,by decide,by decide,by decide,by decide⟩
 rw[Ze D] at h|-;by_cases F:c=13
 ·subst F;exact ⟨[35,49,51],rfl,by decide,by decide,by decide,by decide⟩
 rw[Ze F] at h|-;by_cases H:v=false
 ·rw[Zh H] at h;exact absurd rfl h
 rw[Ze H] at h|-;by_cases I:c=34
 ·subst I;exact ⟨[113,117,111,116],rfl,by decide,by decide,by decide,by decide⟩
 rw[Ze I] at h|-;by_cases J:c=9
 ·subst J;exact ⟨[35,57],rfl,by decide,by decide,by decide,by decide⟩
 rw[Ze J] at h|-;by_cases K:c=10
 ·subst K;exact ⟨[35,49,48],rfl,by decide,by decide,by decide,by decide⟩
 rw[Ze K] at h;exact absurd rfl h
theorem J7 {v:Bool} {c:UInt8} (h:wescB v c= []):c≠38/\c≠60/\c≠62/\c≠13/\(v=true->c≠34/\c≠9/\c≠10):=by
 unfold wescB at h;by_cases q:c=38
 ·rw[Zh q] at h;cases h
 rw[Ze q] at h;by_cases A:c=60
 ·rw[Zh A] at h;cases h
 rw[Ze A] at h;by_cases D:c=62
 ·rw[Zh D] at h;cases h
 rw[Ze D] at h;by_cases F:c=13
 ·rw[Zh F] at h;cases h
 rw[Ze F] at h;refine ⟨q,A,D,F,λK=> ?_⟩;rw[Ze (by rw[K];simp)] at h;by_cases H:c=34
 ·rw[Zh H] at h;cases h
 rw[Ze H] at h;by_cases I:c=9
 ·rw[Zh I] at h;cases h
 rw[Ze I] at h;by_cases J:c=10
 ·rw[Zh J] at h;cases h
 exact ⟨H,I,J⟩
theorem ZeB (v:Bool):∀a b:List UInt8,wescL v (a++b)=wescL v a++wescL v b
 | [],b=>rfl
 |c::t,b=>by
  show wescC v c++wescL v (t++b)=(wescC v c++wescL v t)++wescL v b
  rw[ZeB v t b,ZN]
theorem Zak {v:Bool}:∀{l:List UInt8},(∀c∈l,wescB v c= [])->wescL v l=l
 | [],_=>rfl
 |c::t,h=>by
  show wescC v c++wescL v t=c::t
  unfold wescC
  rw[Zh (h c ZH),Zak λd q=>h d (ZE _ q)]
  rfl
theorem Zaj {v:Bool}:∀{l:List UInt8},∀d∈wescL v l,d≠60/\d≠62/\(v=true->d≠34)
 | [],d,h=>by cases h
 |c::t,d,h=>by
  have F:d∈wescC v c++wescL v t:=h
  rcases Zt.1 F with q|q
  ·unfold wescC at q
   by_cases D:wescB v c= []
   ·rw[Zh D,Zo] at q
    subst q
    have:=J7 D
    exact ⟨this.2.1,this.2.2.1,λH=>(this.2.2.2.2 H).1⟩
   ·rw[Ze D] at q
    have A:∀e∈wescB v c,e≠60/\e≠62/\e≠34:=by
     unfold wescB
     repeat' split
     all_goals decide
    have:=A d q
    exact ⟨this.1,this.2.1,λ_=>this.2.2⟩
  ·exact Zaj d q
theorem Vw {p:UInt8->Bool}:∀{x r:List UInt8},(∀d∈x,p d=true)->(∀c t,r=c::t->p c=false)->(x++r).takeWhile p=x
 | [],r,_,hr=>by
  cases r with
  |nil=>rfl
  |cons c t=>rw[Xl,Z9,Ze (by rw[hr c t rfl];simp)]
 |d::x,r,h,hr=>by rw[X5,Z9,Zh (h d ZH),Vw (λe q=>h e (ZE _ q)) hr]
theorem ZkV {z x r:List UInt8} (h:z.drop i=38::(x++ [59])++r) (F:∀d∈x,(d !=59)=true) (A:refRune x=some n) (q:isChar (n:Int)=true):refAt z i=some (n,i+x.length+2):=by
 unfold refAt;dsimp only;rw[h];have D:((38::(x++ [59])++r:List UInt8).tail.takeWhile λc=>c !=59)=x:=by show ((x++ [59]++r).takeWhile λc=>c !=59)=x;rw[ZN];exact Vw F λc t e=>by injection e with e _;subst e;rfl
 rw[D,Zh (show (38::(x++ [59])++r:List UInt8).head? =some 38 from rfl),Zh (by simp only[X5,Zf,Zc,ZK];omega),A];dsimp only;rw[Zh q]
theorem ZbC:∀{l:List UInt8},(∀c∈l,c≠13)->lns l=l
 | [],_=>rfl
 | [c],h=>by rw[lns,Ze (h c ZH)]
 |c::d::r,h=>by
  have q:=h c ZH
  rw[lns,Ze (λe=>q e.1),Ze q,ZbC λe A=>h e (ZE _ A)]
theorem Ku:∀{l:List UInt8},(∀c∈l,c≠13/\c≠9/\c≠10)->spaced l=l
 | [],_=>rfl
 |c::t,h=>by
  unfold spaced at*
  have A:=h c ZH
  have ih:=Ku (l:=t) λe F=>h e (ZE _ F)
  unfold spaced at ih
  rw[ZP,ih]
  split
  ·rename_i D
   unfold isSp at D
   rw[Yb] at D
   have q:∀n:Nat,n<256->(c.toNat:Int)=n->c=UInt8.ofNat n:=λn H e=>by
    have:c.toNat=n:=(by omega)
    rw[<-this,GW]
   rcases D with e|e|e|e
   ·rw[q 32 (by decide) e];rfl
   ·exact absurd (q 9 (by decide) e) A.2.1
   ·exact absurd (q 10 (by decide) e) A.2.2
   ·exact absurd (q 13 (by decide) e) A.1
  ·rfl
theorem Zev (p:UInt8->Bool) (l:List UInt8):∃a b,l=a++b/\(∀c∈a,p c=true)/\(b= []\/∃c t,b=c::t/\p c=false):=by
 induction l with
 |nil=>exact ⟨[],[],rfl,(by intro c h;cases h),Or.inl rfl⟩
 |cons c t ih=>
  cases hp:p c with
  |false=>exact ⟨[],c::t,rfl,(by intro c h;cases h),Or.inr ⟨c,t,rfl,hp⟩⟩
  |true=>
   obtain ⟨a,b,A,D,F⟩:=ih;refine ⟨c::a,b,by rw[A];rfl,λd q=> ?_,F⟩;rcases ZF.1 q with q|q
   ·rw[q];exact hp
   ·exact D d q
theorem KL (v:Bool) (s:List UInt8):∀(n:Nat) (t:List UInt8),t.length<n->∀(i J:Nat) (r out:List UInt8),s.drop i=wescL v t++r->J=i+(wescL v t).length->J<=s.length->contAt v s J i out= .ok (out++t)
 |0,t,h,_,_,_,_,_,_,_=>by omega
 |n+1,t,h,i,J,r,out,hd,hto,hle=>by
  obtain ⟨a,b,rfl,ha,Z⟩:=Zev (λc=>decide (wescB v c= [])) t
  have A:∀c∈a,wescB v c= []:=λc D=>by simpa using ha c D
  rw[Zc] at h
  rw[ZeB,Zak A] at hd hto
  rw[Zc] at hto
  have q:(s.take J).drop i=a++wescL v b:=by rw[List.drop_take,hd,show J - i=(a++wescL v b).length by rw[Zc];omega,List.take_left]
  by_cases H:a= []
  ·subst H
   rcases Z with rfl|⟨c,t',rfl,D⟩
   ·rw[I9 (by rw[hto];simp[wescL])]
    simp
   ·have F:wescB v c≠ []:=(by simpa using D)
    obtain ⟨x,I,U,V,X,Y⟩:=ZbX v c F
    have S:wescL v (c::t')=38::(x++ [59])++wescL v t':=by
     show wescC v c++wescL v t'=_
     unfold wescC
     rw[Ze F,I]
    rw[Xl] at q hd|-
    rw[S] at hd q hto
    have hl:(38::(x++ [59])++wescL v t':List UInt8).length=x.length+2+(wescL v t').length:=(by simp only[X5,Zf,Zc,ZK];omega)
    rw[hl] at hto
    rw[ZK] at hto h
    rw[Zf] at h
    rw[Ea hle (by omega) (by rw[hd];rfl) (ZkV q U V X)]
    have Q:s.drop (i+x.length+2)=wescL v t'++r:=by
     have:=Jg (x:=38::(x++ [59])) (by rw[hd,ZN])
     rw[<-this]
     congr 1
     simp only[Zf,Zc,ZK];omega
    rw[KL v s n t' (by omega) _ _ r _ Q (by omega) hle,VM Y,GW]
    simp
  ·have he:0<a.length:=Jm.2 H
   have hh:(s.drop i).head?≠some 38:=by
    rw[hd]
    cases a with
    |nil=>exact absurd rfl H
    |cons c a=>
     intro e
     have M:some c=some 38:=e
     injection M with M
     exact (J7 (A c ZH)).1 M
   have hp:plainAt s J i=a:=by
    unfold plainAt
    rw[q]
    refine Vw (λc D=>by have:=(J7 (A c D)).1;simpa using this) λc t0 e=> ?_
    rcases Z with rfl|⟨K,t',rfl,D⟩
    ·cases e
    ·have F:wescB v K≠ []:=(by simpa using D)
     obtain ⟨x,I, -⟩:=ZbX v K F
     have S:wescL v (K::t')=38::(x++ [59])++wescL v t':=by
      show wescC v K++wescL v t'=_
      unfold wescC
      rw[Ze F,I]
     rw[S] at e
     injection e with e _
     subst e
     rfl
   rw[G0 hle (by omega) hh,hp,ZbC λc D=>(J7 (A c D)).2.2.2.1]
   have R:(if v=true then spaced a else a)=a:=by
    split
    ·rename_i hv
     exact Ku λc D=>⟨(J7 (A c D)).2.2.2.1,((J7 (A c D)).2.2.2.2 hv).2⟩
    ·rfl
   rw[R,KL v s n b (by omega) _ _ r _ (Jg (by rw[hd,ZN])) (by omega) hle,ZN]
theorem Eb {v:Bool} {r:List UInt8} (h:s.drop i=wescL v t++r) (q:i<=s.length):contP v s i (i+(wescL v t).length)= .ok t:=by
 rw[Zdd];exact KL v s _ t (YK _) i _ r [] h rfl (Zf8 h q)
theorem Zgm {r:List UInt8} {a:AtP} (J:isQ a.name=true) (h:s.drop k=a.name++([61,34]++(wescL true a.value++(34::r)))) (S:k<=s.length):
 attrP s f k= .ok (⟨[],a.name,a.value,k⟩,k+a.name.length+2+(wescL true a.value).length+1):=by
 have F:=Zd7 J (c:=61) ⟨by decide,by decide⟩ h;have I:=(Qz J).1;have A:=Jg (x:=a.name) h;have q:=Ja A;have D:=Ja q;have H:=Jg (x:=wescL true a.value) D;have l1:=QD A;have l2:=QD q;have U:=QD H;have R:((s.drop (k+a.name.length+1+1)).takeWhile λd=>d !=34 && d !=60)=wescL true a.value:=by
  rw[D];refine Vw (x:=wescL true a.value) (r:=34::r) (λd M=> ?_) λc t e=> ?_
  ·have:=Zaj d M;simp[this.1,this.2.2 rfl]
  ·injection e with e _;subst e;rfl
 have K:=Eb (v:=true) D (by omega);unfold attrP;dsimp only;rw[F,Ze (by omega),Uy A (by decide),Ze (by rw[Jt (t:= [61]) A];simp),Uy q (by decide),Ze (by rw[Jt (t:= [34]) q];simp)];have Q:(s.drop (k+a.name.length+1)).headD 0=34:=by rw[q];rfl
 rw[Q,R,K];dsimp only;rw[Ze (by omega),Ze (by rw[H];simp),h,Nat.add_sub_cancel_left,List.take_left]
end
section
variable {c f k:Nat} {nm s:List UInt8}
def attrAts:List AtP->Nat->List AtP
 | [],_=> []
 |a::t,k=>⟨[],a.name,a.value,k+1⟩::attrAts t (k+(attrW a).length)
theorem Zgl (a:AtP):(attrW a).length=1+a.name.length+2+(wescL true a.value).length+1:=by
 unfold attrW;simp only[Zc,Zf,ZK]
theorem IZ {q:List UInt8}:∀(al done:List AtP) (k:Nat),attrsOk al (done.map AtP.name)=true->s.drop k=attrsW al++q->k<=s.length->
 startAt s f nm k done=startAt s f nm (k+(attrsW al).length) (done++attrAts al k)
 | [],done,k,_,_,_=>by show _=startAt s f nm (k+0) (done++ []);rw[Yi];rfl
 |a::t,done,k,ho,h,hk=>by
  rw[attrsOk] at ho;simp only[ZZ,Vz] at ho;obtain ⟨⟨⟨⟨h1,R⟩,H⟩,h4⟩,V⟩:=ho;obtain ⟨c,n',S⟩:=Kb H;have U:=H;rw[S] at U;obtain ⟨e1,e2,e3,e4,e5⟩:=Kc U;have I:s.drop k=32::(a.name++([61,34]++(wescL true a.value++(34::(attrsW t++q))))):=by rw[h];show (attrW a++attrsW t)++q=_;unfold attrW;simp only[ZN,X5,Xl]
  have F:s.drop k=32::c::(n'++([61,34]++(wescL true a.value++(34::(attrsW t++q))))):=by rw[I,S];rfl
  have J:=Ja I;have A:=Ja F;have Q:=ZkW F e4;have hc:=QD I;have X:=Zgm (f:=f) H J (by omega);have D:(done.any λb=>b.name==a.name)=false:=by rw[List.any_eq_false];intro b Y e;have Z:b.name=a.name:=(by simpa using e);have:(done.map AtP.name).contains a.name=true:=(by rw[Xv,<-Z];exact Yg Y);rw[this] at R;cases R
  rw[JB s f nm k done hk,Q,Ze (by rw[VP A (Ne.symm e5)];simp),Ze (by rw[VP A (Ne.symm e3)];simp),Ze (by rw[VP A (Ne.symm e3)];simp),Ze (by omega),X];dsimp only;rw[D,Ze (by simp)];have M:k+1+a.name.length+2+(wescL true a.value).length+1=k+(attrW a).length:=by rw[Zgl];omega
  have K:s.drop (k+(attrW a).length)=attrsW t++q:=by refine Jg ?_;rw[h];show (attrW a++attrsW t)++q=_;rw[ZN]
  rw[M,IZ t _ _ (by rw[ZR];exact V) K (Zf8 (r:=attrsW t++q) (by rw[h];show (attrW a++attrsW t)++q=_;rw[ZN]) hk)];show _=startAt s f nm (k+(attrW a++attrsW t).length) (done++(⟨[],a.name,a.value,k+1⟩::attrAts t (k+(attrW a).length)));rw[Zc,ZN,Nat.add_assoc];rfl
theorem If:∀(al:List AtP) (c:UInt8) (r:List UInt8),ends c->∃d r',attrsW al++c::r=d::r'/\ends d
 | [],c,r,h=>⟨c,r,rfl,h⟩
 |a::t,c,r,_=>by
  refine ⟨32,_,rfl,?_⟩
  exact ⟨by decide,by decide⟩
theorem Zgn {q:List UInt8} {al:List AtP} (h:s.drop k=attrsW al++q) (A:k<=s.length):k+(attrsW al).length<=s.length:=Zf8 h A
theorem Zjd {n r:List UInt8} {al:List AtP} (e:Bool) (K:isQ n=true) (Y:attrsOk al []=true) (h:s.drop k=60::(n++(attrsW al++((if e then [47,62] else [62])++r)))):
 constructP s k= .ok (⟨1,n,attrAts al (k+1+n.length),e,[],k⟩,k+1+n.length+(attrsW al).length+(if e then 2 else 1)):=by
 obtain ⟨c,n',J⟩:=Kb K;have X:=K;rw[J] at X;obtain ⟨e1,e2,e3,e4,e5⟩:=Kc X;have V:=(Qz K).1;have q:s.drop k=60::c::(n'++(attrsW al++((if e then [47,62] else [62])++r))):=by rw[h,J];rfl
 have hk:=QD h;have Z:∃d r',attrsW al++((if e then [47,62] else [62])++r)=d::r'/\ends d:=by
  cases e with
  |true=>exact If al 47 _ ⟨by decide,by decide⟩
  |false=>exact If al 62 _ ⟨by decide,by decide⟩
 obtain ⟨d,r',hdr,Q⟩:=Z;have D:=Ja h;have M:=Jg (x:=n) D;rw[hdr] at D;have R:=Zd7 K Q D;have H:k+1+n.length<=s.length:=Zf8 D (by omega);have S:=IZ (f:=k) (nm:=n) al [] (k+1+n.length) Y M H;have U:=Jg (x:=attrsW al) M;have I:=Zgn M H;have F:startAt s k n (k+1+n.length+(attrsW al).length) (attrAts al (k+1+n.length))= .ok (⟨1,n,attrAts al (k+1+n.length),e,[],k⟩,k+1+n.length+(attrsW al).length+(if e then 2 else 1)):=by
  rw[JB s k n _ _ I];cases e with
  |true=>have A:s.drop (k+1+n.length+(attrsW al).length)=47::62::r:=U;rw[Uy A (by decide),Ze (by rw[VP A (by decide)];simp),Zh (Jt (t:= [47,62]) A)];rfl
  |false=>have A:s.drop (k+1+n.length+(attrsW al).length)=62::r:=U;rw[Uy A (by decide),Zh (Jt (t:= [62]) A)];rfl
 unfold constructP;rw[Ze (by rw[XK q (Ne.symm e1)];simp),Ze (by rw[XK q (Ne.symm e2)];simp),Ze (by rw[XK q (Ne.symm e2)];simp),Ze (by rw[XK q (Ne.symm e2)];simp),Ze (by rw[XK q (Ne.symm e2)];simp),Ze (by rw[XK q (Ne.symm e3)];simp),Zh (Jt (t:= [60]) h)];rw[Vt s k (by omega),R,Ze (by omega),D,Nat.add_sub_cancel_left,List.take_left,S];exact F
theorem Eh {n r:List UInt8} (F:isQ n=true) (h:s.drop k=60::47::(n++62::r)):constructP s k= .ok (⟨2,n,[],false,[],k⟩,k+2+n.length+1):=by
 have H:=(Qz F).1;have q:=Ja (Ja h);have A:=Zd7 F (c:=62) ⟨by decide,by decide⟩ q;have D:=Jg (x:=n) q;unfold constructP;rw[Ze (by rw[XK h (by decide)];simp),Ze (by rw[XK h (by decide)];simp),Ze (by rw[XK h (by decide)];simp),Ze (by rw[XK h (by decide)];simp),Ze (by rw[XK h (by decide)];simp),Zh (Jt (t:= [60,47]) h)];unfold endP;dsimp only;rw[show k+2=k+1+1 from rfl,A,Zh (by omega),Uy D (by decide),Zh (Jt (t:= [62]) D),q,Nat.add_sub_cancel_left,List.take_left]
def reads (s:List UInt8) (k k':Nat) (L:List Tok):Prop:=∀l,toksAt s k l=toksAt s k' (l++L)
theorem reads.trans {a b:Nat} {L M:List Tok} (h:reads s a b L) (q:reads s b c M):reads s a c (L++M):=λl=>by rw[h,q,ZN]
theorem reads.one {e:Nat} {t:Tok} (q:k<s.length) (h:constructP s k= .ok (t,e)) (A:keeps t):reads s k e [t]:=λl=>by rw[Uo q h,Zh A]
theorem J4 {t:Tok} (h:t.kind≠3):keeps t:=Or.inl h
theorem JY:∀l:List UInt8,(∀c∈l,c.toNat<128/\isChar (c.toNat:Int)=true)->isText l
 | [],_=>VQ
 |c::t,h=>by
  have A:=h c ZH
  have q:=Ez A.2
  rw[VM A.1,GW] at q
  exact Jz (l:= [c]) q (JY t λd D=>h d (ZE _ D))
end
def plainAs (al:List AtP):Bool:=al.all λa=>isNm a.name && a.name !=xmlnsL
mutual
def Nd.plain:Nd->Bool
 | .mk k _ n al ks _ _=>k !=0||(isNm n && n !=xmlnsL && plainAs al && Nds.plain ks)
def Nds.plain:List Nd->Bool
 | []=>true
 |x::t=>x.plain && Nds.plain t
end
section
variable {d:Nat} {path:List ByteArray} {s t:List UInt8}
theorem Zda {s:ByteArray} (h:validS s=true) (D:s≠noS):coll (lst s)≠ []:=by
 intro e;have q:=Xa h;unfold collapse at q;have A:coll s.data.toList= []:=e;rw[A] at q;exact D q.symm
def Pref (path:List ByteArray) (f:Fd):Prop:=∃r,f.path=path++r
theorem Pref.len {f:Fd} (h:Pref path f):path.length<=f.path.length:=by
 obtain ⟨r,q⟩:=h;rw[q,Zc];omega
theorem Pref.eq {f:Fd} (h:Pref path f) (A:f.path.length=path.length):f.path=path:=by
 obtain ⟨r,q⟩:=h;have:r= []:=Zw (by rw[q,Zc] at A;omega);rw[q,this,Yi]
theorem Pref.next {f:Fd} (A:path.length=d) (h:Pref path f) (D:d<f.path.length):Pref (path++ [pathAt f d]) f:=by
 obtain ⟨r,q⟩:=h;cases r with
 |nil=>rw[q,Yi] at D;omega
 |cons c t=>
  refine ⟨t,?_⟩;have:pathAt f d=c:=by unfold pathAt;rw[q,<-A,Yk,Yl (Zb _),Nat.sub_self];rfl
  rw[this,q,ZN];rfl
theorem Zeh (path:List ByteArray) (a b:List ByteArray):pathCmp (path++a) (path++b)=pathCmp a b:=by
 induction path with
 |nil=>rfl
 |cons c t ih=>show pathCmp (c::(t++a)) (c::(t++b))=_;rw[pathCmp,Zh (V2.self c)];exact ih
def asc (l:List Fd):Prop:=l.Pairwise λa b=>pathCmp a.path b.path<=0
theorem KC (Q:path.length=d):∀{l:List Fd},asc l->(∀x∈l,Pref path x)->
 (∀x∈l.takeWhile (λx=>decide (x.path.length=d)),x.path=path)/\(∀x∈l.drop (l.takeWhile λx=>decide (x.path.length=d)).length,d<x.path.length)
 | [],_,_=>⟨(by intro x h;cases h),(by intro x h;simp at h)⟩
 |a::t,hs,hp=>by
  have H:=hp a ZH;have D:=hs;unfold asc at D;rw[XG] at D;have ih:=KC Q (l:=t) D.2 λx A=>hp x (ZE _ A);by_cases J:a.path.length=d
  ·rw[Z9,Zh (by simpa using J)];refine ⟨λx A=> ?_,λx A=> ?_⟩
   ·rcases ZF.1 A with rfl|A
    ·exact H.eq (by omega)
    ·exact ih.1 x A
   ·rw[Zf,List.drop_succ_cons] at A;exact ih.2 x A
  ·rw[Z9,Ze (by simpa using J)];refine ⟨(by intro x h;cases h),λx A=> ?_⟩;have F:d<a.path.length:=(by have:=H.len;omega);rw[ZK,JH] at A;rcases ZF.1 A with rfl|A
   ·exact F
   ·obtain ⟨r,M⟩:=hp x (ZE _ A);obtain ⟨q,K⟩:=H;have I:=D.1 x A;rw[K,M,Zeh] at I;cases r with
    |nil=>
     cases q with
     |nil=>rw[K,Yi] at F;omega
     |cons c q=>rw[pathCmp] at I;omega
    |cons c r=>rw[M,Zc,Zf];omega
def okX (f:Fd):Prop:=coll (lst f.id)≠ []/\(∀p∈f.path,coll (lst p)≠ [])/\f.path.length<=64
theorem Zj3 {f:Fd} (h:okH f=true):okX f:=by
 obtain ⟨D,q,F,I,H⟩:=JR.1 h;refine ⟨Zda (q _ (by unfold strsF;simp)) F,λp A=>Zda (q p (by unfold strsF;simp[A])) (H p A),D⟩
def foldN (s:ByteArray) (ks:List Nd):Nd:=withP (elemN outlineL ks) [(textL,lst s)]
def elems (ks:List Nd):Prop:=∀k∈ks,k.kind=0
theorem Jk {ks:List Nd} (h:elems ks):ks.filter (λk=> !(decide (k.kind=1) && k.text.isEmpty))=ks:=by
 rw[List.filter_eq_self];intro k q;rw[h k q];rfl
theorem Zdi (l:List Fd):elems (l.map feedN):=λk h=>by
 obtain ⟨f,_,rfl⟩:=Z3.1 h;unfold feedN;dsimp only;split<;>rfl
theorem ZgF {a b:List Nd} (h:elems a) (q:elems b):elems (a++b):=λk A=>(Zt.1 A).elim (h k) (q k)
theorem Ih (rec_:List Fd->List Nd) (d:Nat):∀(f:Nat) (l:List Fd),elems (foldsP rec_ d f l)
 |0,l=>(by rw[foldsP];intro k h;cases h)
 |f+1,[]=>(by rw[foldsP];intro k h;cases h)
 |f+1,x::t=>by
  rw[foldsP]
  intro k h
  rcases ZF.1 h with rfl|h
  ·rfl
  ·exact Ih rec_ d f _ k h
theorem UO:∀(f d:Nat) (l:List Fd),elems (outsP f d l)
 |0,d,l=>(by rw[outsP];intro k h;cases h)
 |f+1,d,l=>by
  rw[outsP]
  exact ZgF (Zdi _) (Ih _ _ _ _)
theorem Zce (x:Fd) (t:List Fd) (d:Nat):0<((x::t).takeWhile λy=>decide (pathAt y d=pathAt x d)).length:=by
 rw[Z9,Zh (by simp)];simp
theorem Zf0 (x:Fd) (t:List Fd) (d:Nat):∀y∈(x::t).take ((x::t).takeWhile λy=>decide (pathAt y d=pathAt x d)).length,pathAt y d=pathAt x d:=by
 intro y h;rw[show (x::t).take ((x::t).takeWhile λy=>decide (pathAt y d=pathAt x d)).length=(x::t).takeWhile λy=>decide (pathAt y d=pathAt x d) from (Xh.1 (JK _)).symm] at h;have:=List.all_takeWhile (p:=λy=>decide (pathAt y d=pathAt x d)) (l:=x::t);rw[Yq] at this;simpa using this y h
theorem IL {a b:List Fd} (h:a.Sublist b) (q:asc b):asc a:=List.Pairwise.sublist h q
theorem ZfU {l:List Fd} (h:okA l=true):asc l:=by
 have F:=(VX.1 h).2.1;refine List.Pairwise.imp ?_ F;intro a b q;have A:feedCmp a b<0:=by have D:ltF a b=true:=q;simpa [ltF] using D
 unfold feedCmp at A;split at A<;>omega
theorem U0 {s:ByteArray} (h:validS s=true):charsOk (lst s)=true:=by
 have q:=Qq h;unfold checkS at q;exact YQ q
def okC (f:Fd):Prop:=charsOk (lst f.id)=true/\charsOk (lst f.title)=true/\charsOk (lst f.link)=true/\∀p∈f.path,charsOk (lst p)=true
theorem Zj2 {f:Fd} (h:okH f=true):okC f:=by
 obtain ⟨D,q,F,H,I⟩:=JR.1 h;refine ⟨U0 (q _ (by unfold strsF;simp)),U0 (q _ (by unfold strsF;simp)),U0 (q _ (by unfold strsF;simp)),λp A=>U0 (q p (by unfold strsF;simp[A]))⟩
theorem UH:isQ outlineL=true:=by decide+kernel
theorem ZiU:isQ typeL=true:=by decide+kernel
theorem ZfE:isQ textL=true:=by decide+kernel
theorem Zej:isQ xmlUrlL=true:=by decide+kernel
theorem ZhD:isQ htmlUrlL=true:=by decide+kernel
theorem ZkU:isQ opmlL=true:=by decide+kernel
theorem ZkT:isQ headL=true:=by decide+kernel
theorem ZkS:isQ bodyL=true:=by decide+kernel
theorem ZhE:isQ versionL=true:=by decide+kernel
theorem KS:isNm outlineL=true:=by decide+kernel
theorem ZiJ:isNm typeL=true:=by decide+kernel
theorem Zft:isNm textL=true:=by decide+kernel
theorem Zd4:isNm xmlUrlL=true:=by decide+kernel
theorem Zhs:isNm htmlUrlL=true:=by decide+kernel
theorem ZkO:isNm opmlL=true:=by decide+kernel
theorem ZkN:isNm headL=true:=by decide+kernel
theorem ZkM:isNm bodyL=true:=by decide+kernel
theorem Zht:isNm versionL=true:=by decide+kernel
theorem Zkj:charsOk rssL=true:=by decide+kernel
theorem ZkY:charsOk twoL=true:=by decide+kernel
theorem JF {a:Nat} {n:List UInt8} {al:List AtP} {ks:List Nd} (q:d<=100) (D:isQ n=true) (h:attrsOk al []=true) (A:kidsOk d false ks=true):nodeOk d (.mk 0 [] n al ks [] a)=true:=by
 rw[nodeOk,D,h,A,YQ q];rfl
theorem J5 {a:Nat} {n:List UInt8} {al:List AtP} {ks:List Nd} (A:isNm n=true) (D:(n !=xmlnsL)=true) (h:plainAs al=true) (q:Nds.plain ks=true):(Nd.mk 0 s n al ks t a).plain=true:=by
 rw[Nd.plain,A,D,h,q];rfl
theorem ZjN {f:Fd} (h:okC f) (D:d<=100):nodeOk d (feedN f)=true/\(feedN f).plain=true:=by
 obtain ⟨q,A,F,H⟩:=h;unfold feedN;dsimp only;split
 ·refine ⟨JF D UH ?_ rfl,J5 KS (by decide) ?_ rfl⟩
  ·show attrsOk [⟨[],typeL,rssL,0⟩,⟨[],textL,lst f.title,0⟩,⟨[],xmlUrlL,lst f.id,0⟩] []=true;simp only[attrsOk,ZiU,ZfE,Zej,Zkj,q,A];decide
  ·show plainAs [⟨[],typeL,rssL,0⟩,⟨[],textL,lst f.title,0⟩,⟨[],xmlUrlL,lst f.id,0⟩]=true;simp only[plainAs,List.all_cons,List.all_nil,ZiJ,Zft,Zd4];decide
 ·refine ⟨JF D UH ?_ rfl,J5 KS (by decide) ?_ rfl⟩
  ·show attrsOk [⟨[],typeL,rssL,0⟩,⟨[],textL,lst f.title,0⟩,⟨[],xmlUrlL,lst f.id,0⟩,⟨[],htmlUrlL,lst f.link,0⟩] []=true;simp only[attrsOk,ZiU,ZfE,Zej,ZhD,Zkj,q,A,F];decide
  ·show plainAs [⟨[],typeL,rssL,0⟩,⟨[],textL,lst f.title,0⟩,⟨[],xmlUrlL,lst f.id,0⟩,⟨[],htmlUrlL,lst f.link,0⟩]=true;simp only[plainAs,List.all_cons,List.all_nil,ZiJ,Zft,Zd4,Zhs];decide
theorem VU:∀(ks:List Nd) (data:Bool),elems ks->(∀k∈ks,nodeOk (d+1) k=true)->kidsOk d data ks=true
 | [],_,_,_=>rfl
 |x::xs,data,he,h=>by
  rw[kidsOk,Ze (by rw[he x ZH];decide),h x ZH,XQ]
  exact VU xs _ (λk q=>he k (ZE _ q)) λk q=>h k (ZE _ q)
theorem VY:∀ks:List Nd,(∀k∈ks,k.plain=true)->Nds.plain ks=true
 | [],_=>rfl
 |x::xs,h=>by
  rw[Nds.plain,h x ZH,XQ]
  exact VY xs λk q=>h k (ZE _ q)
theorem ZjO {s:ByteArray} {ks:List Nd} (F:charsOk (lst s)=true) (D:d<=100) (A:elems ks) (h:∀k∈ks,nodeOk (d+1) k=true/\k.plain=true):nodeOk d (foldN s ks)=true/\(foldN s ks).plain=true:=by
 have e1:foldN s ks= .mk 0 [] outlineL [⟨[],textL,lst s,0⟩] ks [] 0:=by unfold foldN elemN withP;rw[Jk A];rfl
 rw[e1];refine ⟨JF D UH ?_ (VU ks false A λk q=>(h k q).1),J5 KS (by decide) ?_ (VY ks λk q=>(h k q).2)⟩
 ·simp only[attrsOk,ZfE,F];decide
 ·simp only[plainAs,List.all_cons,List.all_nil,Zft];decide
theorem Zdy {rec_:List Fd->List Nd} {e:Nat} (I:path.length=d) (J:e<=100)
 (h:∀(s:ByteArray) (g:List Fd),asc g->(∀x∈g,Pref (path++ [s]) x/\okC x)->elems (rec_ g)/\∀k∈rec_ g,nodeOk (e+1) k=true/\k.plain=true):
 ∀(f:Nat) (l:List Fd),asc l->(∀x∈l,Pref path x/\okC x/\d<x.path.length)->∀k∈foldsP rec_ d f l,nodeOk e k=true/\k.plain=true
 |0,l,_,_=>(by rw[foldsP];intro k q;cases q)
 |f+1,[],_,_=>(by rw[foldsP];intro k q;cases q)
 |f+1,x::t,hs,hl=>by
  rw[foldsP];intro k q;rcases ZF.1 q with rfl|q
  ·have F:=Zf0 x t d;have K:=h (pathAt x d) ((x::t).take ((x::t).takeWhile λy=>decide (pathAt y d=pathAt x d)).length) (IL (List.take_sublist _ _) hs) λy H=>(by have D:=hl y (Jb H);refine ⟨?_,D.2.1⟩;rw[<-F y H];exact D.1.next I D.2.2);have M:=hl x ZH;have A:pathAt x d∈x.path:=(by unfold pathAt;rw[Yk,Zr M.2.2];exact ZL _);exact ZjO (M.2.1.2.2.2 _ A) J K.1 K.2
  ·exact Zdy I J h f _ (IL (List.drop_sublist _ _) hs) (λy H=>hl y (YJ H)) k q
theorem Zf6:∀(f d e:Nat) (path:List ByteArray) (l:List Fd),path.length=d->f+e<=90->asc l->(∀x∈l,Pref path x/\okC x)->∀k∈outsP f d l,nodeOk e k=true/\k.plain=true
 |0,d,e,path,l,_,_,_,_=>(by rw[outsP];intro k h;cases h)
 |f+1,d,e,path,l,hd,hf,hs,hl=>by
  obtain ⟨n,F⟩:∃n,(l.takeWhile λx=>decide (x.path.length=d)).length=n:=⟨_,rfl⟩
  have H:=KC hd hs λx q=>(hl x q).1
  have A:l.takeWhile (λx=>decide (x.path.length=d))=l.take n:=by rw[<-F];exact Xh.1 (JK _)
  rw[F] at H
  rw[outsP,A,show (l.take n).length=n by rw[<-A,F]]
  intro k h
  rcases Zt.1 h with h|h
  ·obtain ⟨x,q,rfl⟩:=Z3.1 h
   exact ZjN (hl x (Jb q)).2 (by omega)
  ·exact Zdy hd (by omega) (λs g I D=>⟨UO _ _ _,Zf6 f (d+1) (e+1) (path++ [s]) g (by rw[Zc,hd];rfl) (by omega) I D⟩) (l.length+1) (l.drop n) (IL (List.drop_sublist _ _) hs) (λx q=>⟨(hl x (YJ q)).1,(hl x (YJ q)).2,H.2 x q⟩) k h
theorem Zje {K:List Nd} (h:elems K):withP (elemN opmlL K) [(versionL,twoL)]= .mk 0 [] opmlL [⟨[],versionL,twoL,0⟩] K [] 0:=by
 unfold elemN;rw[Jk h];rfl
theorem ZkB {l:List Fd} (h:okA l=true):nodeOk 1 (encP l)=true/\(encP l).plain=true:=by
 have I:=Zf6 66 0 3 [] l rfl (by omega) (ZfU h) λx K=>⟨⟨x.path,rfl⟩,Zj2 (Ue.1 ((VX.1 h).1 x K)).1⟩;have J:=UO 66 0 l;have e1:elemN bodyL (outsP 66 0 l)= .mk 0 [] bodyL [] (outsP 66 0 l) [] 0:=by unfold elemN;rw[Jk J]
 have D:nodeOk 2 (elemN bodyL (outsP 66 0 l))=true/\(elemN bodyL (outsP 66 0 l)).plain=true:=by rw[e1];exact ⟨JF (by omega) ZkS rfl (VU _ false J λk q=>(I k q).1),J5 ZkM (by decide) rfl (VY _ λk q=>(I k q).2)⟩
 have F:nodeOk 2 (elemN headL [])=true/\(elemN headL []).plain=true:=⟨JF (by omega) ZkT rfl rfl,J5 ZkN (by decide) rfl rfl⟩;have H:elems [elemN headL [],elemN bodyL (outsP 66 0 l)]:=λk q=>by
  rcases ZF.1 q with rfl|q
  ·rfl
  ·rw[Zo.1 q];rfl
 have A:∀k∈ [elemN headL [],elemN bodyL (outsP 66 0 l)],nodeOk 2 k=true/\k.plain=true:=λk q=>by
  rcases ZF.1 q with rfl|q
  ·exact F
  ·rw[Zo.1 q];exact D
 unfold encP;rw[Zje H];refine ⟨JF (by omega) ZkU ?_ (VU _ false H λk q=>(A k q).1),J5 ZkO (by decide) ?_ (VY _ λk q=>(A k q).2)⟩
 ·rw[attrsOk,ZhE,ZkY];rfl
 ·show plainAs [⟨[],versionL,twoL,0⟩]=true;unfold plainAs;rw[List.all_cons,Zht];rfl
end
section
variable {B c f g k m n:Nat} {P:Program} {a:Act} {e:TypeId} {o:Oper} {ops:Array Oper} {w:World}
section
variable {P:Program} {md:Region.Mode} {ops:Array Oper} {Q:Exit→Act→World→Prop} {S:World→Prop} {T:Array Bool→Act→World→Prop} {t:Nat}
def wpAnyC (P:Program) (md:Region.Mode) (ops:Array Oper) (Q:Exit->Act->Wq->Prop) (S:Wq->Prop) (T:Array Bool->Act->Wq->Prop):Nat->Array Bool->Act->Wq->Prop
 |0,listed,a,w=>T listed a w
 |f+1,listed,a,w=>(Region.ready md ops listed= []->Q .normal a w)/\
  ∀i∈Region.ready md ops listed,wpOp P ops Q i (λa' w'=>S w'/\wpAnyC P md ops Q S T f (listed.setIfInBounds i true) a' w') a w
theorem Zam (A:∀L a w,T L a w->wpAnyT P md ops Q S t m L a w):∀(f k:Nat) (listed:Array Bool) (a:Act) (w:Wq),k=f+m->wpAnyC P md ops Q S T f listed a w->wpAnyT P md ops Q S t k listed a w
 |0,k,listed,a,w,hk,h=>by rw[hk,Ym];exact A _ _ _ h
 |f+1,k,listed,a,w,hk,h=>by
  rw[hk,show f+1+m=(f+m)+1 by omega]
  exact ⟨h.1,λi D=>JD (λa' w' q=>⟨λ_=>q.1,Zam A f (f+m) _ a' w' rfl q.2⟩) (h.2 i D)⟩
theorem ZeH {l:List Oper} {listed:Array Bool} (F:k=f+m) (q:Array Bool) (R:Act->Act->Wq->Prop)
 (A:wpAnyC P md l.toArray Q S (λL a' w'=>L=q/\R a a' w') f listed a w) (D:∀a' w',R a a' w'->wpAnyT P md l.toArray Q S t m q a' w'):wpAnyT P md l.toArray Q S t k listed a w:=
 Zam (λL a w h=>by obtain ⟨rfl,h⟩:=h;exact D a w h) f k listed a w F A
theorem Zal (A:∀L a w,T L a w->wpAnyS P md ops Q S m L a w):∀(f k:Nat) (listed:Array Bool) (a:Act) (w:Wq),k=f+m->wpAnyC P md ops Q S T f listed a w->wpAnyS P md ops Q S k listed a w
 |0,k,listed,a,w,hk,h=>by rw[hk,Ym];exact A _ _ _ h
 |f+1,k,listed,a,w,hk,h=>by
  rw[hk,show f+1+m=(f+m)+1 by omega]
  exact ⟨h.1,λi D=>JD (λa' w' q=>⟨q.1,Zal A f (f+m) _ a' w' rfl q.2⟩) (h.2 i D)⟩
theorem ID {l:List Oper} {listed:Array Bool} (F:k=f+m) (q:Array Bool) (R:Act->Act->Wq->Prop)
 (A:wpAnyC P md l.toArray Q S (λL a' w'=>L=q/\R a a' w') f listed a w) (D:∀a' w',R a a' w'->wpAnyS P md l.toArray Q S m q a' w'):wpAnyS P md l.toArray Q S k listed a w:=
 Zal (λL a w h=>by obtain ⟨rfl,h⟩:=h;exact D a w h) f k listed a w F A
section
variable {l:List Oper} {f:Nat} {listed:Array Bool} {a:Act} {w:World} {i j k:Nat} {oi oj ok:Oper}
end
end
section
variable {P:Program} {md:Region.Mode} {Q:Exit→Act→World→Prop} {S:World→Prop} {t:Nat} {l:List Oper} {f:Nat} {listed:Array Bool} {a:Act} {w:World} {i j:Nat} {oi oj:Oper}
theorem Zan (M:l[i]? =some oi) (R:l[j]? =some oj) (V:Region.ready md l.toArray listed= [i,j])
 (H:∀K:Act->Wq->Prop,(∀a' w',((listed.setIfInBounds i true).getD t true=false->S w')->wpAnyT P md l.toArray Q S t f (listed.setIfInBounds i true) a' w'->K a' w')->if Region.wanted oi (yielded l.toArray a.tmps) then Oper.wp P oi a w K Q else K (a.put oi.dst undef) w)
 (I:∀K:Act->Wq->Prop,(∀a' w',((listed.setIfInBounds j true).getD t true=false->S w')->wpAnyT P md l.toArray Q S t f (listed.setIfInBounds j true) a' w'->K a' w')->if Region.wanted oj (yielded l.toArray a.tmps) then Oper.wp P oj a w K Q else K (a.put oj.dst undef) w):wpAnyT P md l.toArray Q S t (f+1) listed a w:=by
 refine ⟨λh=>(by rw[V] at h;cases h),λq A=> ?_⟩;have D:∀(q:Nat) (o:Oper),l[q]? =some o->(∀K:Act->Wq->Prop,(∀a' w',((listed.setIfInBounds q true).getD t true=false->S w')->wpAnyT P md l.toArray Q S t f (listed.setIfInBounds q true) a' w'->K a' w')->if Region.wanted o (yielded l.toArray a.tmps) then Oper.wp P o a w K Q else K (a.put o.dst undef) w)->
  wpOp P l.toArray Q q (λa' w'=>((listed.setIfInBounds q true).getD t true=false->S w')/\wpAnyT P md l.toArray Q S t f (listed.setIfInBounds q true) a' w') a w:=by
  intro q o X h
  have J:l.toArray[q]? =some o:=by rw[Yd];exact X
  have F:=h (λa' w'=>((listed.setIfInBounds q true).getD t true=false->S w')/\wpAnyT P md l.toArray Q S t f (listed.setIfInBounds q true) a' w') λ_ _ H I=>⟨H,I⟩
  unfold wpOp
  simp only[J]
  split
  ·rename_i U;rw[Zh U] at F;exact Or.inl F
  ·rename_i U;rw[Ze U] at F;exact F
 rw[V] at A;simp only[ZF,Ya,Xs] at A;rcases A with A|A
 ·rw[A];exact D i oi M H
 ·rw[A];exact D j oj R I
theorem UY (H:l[i]? =some oi) (M:Region.ready md l.toArray listed= [i])
 (D:∀K:Act->Wq->Prop,(∀a' w',((listed.setIfInBounds i true).getD t true=false->S w')->wpAnyT P md l.toArray Q S t f (listed.setIfInBounds i true) a' w'->K a' w')->if Region.wanted oi (yielded l.toArray a.tmps) then Oper.wp P oi a w K Q else K (a.put oi.dst undef) w):wpAnyT P md l.toArray Q S t (f+1) listed a w:=by
 refine ⟨λh=>(by rw[M] at h;cases h),λq J=> ?_⟩;rw[M] at J;rw[Zo.1 J];have F:l.toArray[i]? =some oi:=by rw[Yd];exact H
 have A:=D (λa' w'=>((listed.setIfInBounds i true).getD t true=false->S w')/\wpAnyT P md l.toArray Q S t f (listed.setIfInBounds i true) a' w') λ_ _ D R=>⟨D,R⟩;unfold wpOp;simp only[F];split
 ·rename_i I;rw[Zh I] at A;exact Or.inl A
 ·rename_i I;rw[Ze I] at A;exact A
theorem GN (q:Region.ready md l.toArray listed= []) (h:Q .normal a w):wpAnyT P md l.toArray Q S t 0 listed a w:=⟨q,h⟩
end
theorem Zed {size:Nat}:∀(vs:List Value) (j:Nat) (w:Wq) (xs:List Value),w.ownsRow B e size (.slice (some ⟨g,0,none⟩) n c) n xs->j+vs.length<=n*size->
 (w.setCells g j vs).ownsRow B e size (.slice (some ⟨g,0,none⟩) n c) n (xs.take j++vs++xs.drop (j+vs.length))
 | [],j,w,xs,h,_=>by rw[Yi,ZK,Nat.add_zero,Xe];exact h
 |v::r,j,w,xs,h,hl=>by
  have q:=h.1;rw[Zf] at hl;have ih:=Zed r (j+1) _ _ (Zf7 h (j:=j) (by omega) v) (by omega);have e1:(xs.set j v).take (j+1)=xs.take j++ [v]:=by rw[List.take_set,Zx (show j<xs.length by omega)];rw[List.set_append_right _ _ (by rw[ZD];omega)];rw[ZD,show j - min j xs.length=0 by omega];rfl
  have e2:(xs.set j v).drop (j+1+r.length)=xs.drop (j+(v::r).length):=by rw[Zf,show j+(r.length+1)=j+1+r.length by omega,List.drop_set_of_lt (by omega)]
  rw[e1,e2,ZN (xs.take j)] at ih;exact ih
theorem V1 (g:Nat):∀(vs:List Value) (j:Nat) (w:Wq),w.grownBy (w.setCells g j vs) (some g)
 | [],j,w=>(Ext.refl w).grown (some g)
 |v::r,j,w=>(Yo w ⟨g,j,none⟩ v).trans (V1 g r (j+1) _)
theorem Vd {K:Act->Wq->Prop} {Q:Exit->Act->Wq->Prop} {E:Prop} (F:o.guard=none) (ty:TypeId) (x y:Operand) (R:o.op= .store ty x y)
 (g q:Nat) (cells:Array Value) (X:a.eval x= .pointer (some ⟨g,q,none⟩)) (Y:a.eval y= .agg cells)
 (H:(P.info? ty).map (·.size)=some cells.size) (J:∀j,j<cells.size->(w.cell? ⟨g,q+j,none⟩).isSome=true) (M:∀j,w.frozen? ⟨g,j,none⟩=false) (I:cells.all (·.oneCell')=true)
 (h:K (a.put o.dst undef) (w.setCells g q cells.toList)):if Region.wanted o (yielded ops a.tmps)=true then Oper.wp P o a w K Q else E:=by
 have V:Region.wanted o (yielded ops a.tmps)=true:=by simp[Region.wanted,F]
 rw[Zh V];have D:=run_storeCells_cells (P:=P) g q cells.toList 0 w (by simpa using J) (λj _=>M _) (λv U=>(Array.all_eq_true_iff_forall_mem.1 I) v (by simpa using U));have A:(storeVar ty ⟨g,q,none⟩ (.agg cells)).run P w= .ok () (w.setCells g q cells.toList):=by
  cases hq:P.info? ty with
  |none=>simp[hq] at H
  |some i=>have S:cells.size=i.size:=(by simp[hq] at H;omega);simp only[Nat.add_zero] at D;simp[storeVar,sizeOf,typeInfo,hq,Value.cells,S,D]
 unfold Oper.wp execOp;simp only[R,X,Y,Instr.storeAt,Instr.sureAddr,Sem.run_bind,Sem.run_pure,Result.andThen_ok,A];exact h
end
end Go.Proofs.YtnlafkgkcnenfaaGreatDoor
