/- Parts of the proof: contracts and plain laws. -/
import Derived.Test.YtnlafkgkcnenfaaGreatDoorU11
namespace Go.Proofs.YtnlafkgkcnenfaaGreatDoor
open Go Go.RowKit _root_.Go.Proofs.Tryz
set_option linter.unusedVariables false
set_option linter.unusedSimpArgs false
set_option maxRecDepth 100000
set_option maxHeartbeats 16000000
section
variable {c j:Nat} {w:World}
theorem ZlW:prog.underlying 52=some (.slice (prog.elem 52)):=by kernel_rfl
theorem ZnG (w:Wq):(Go.sizeOf (prog.elem 52)).run prog w= .ok 1 w:=by kernel_rfl
theorem ZpJ {A:Option Addr} {l:List ByteArray} (n:Nat) (h:RStrs w (.slice A l.length c) l) (Z:n<=l.length):
 ∃I c2,(∀F:Wq,(Instr.slice 52 (.slice A l.length c) (some (nI (n:Int))) none none).run prog F= .ok (.slice I (l.length - n) c2) F)/\RStrs w (.slice I (l.length - n) c2) (l.drop n):=by
 obtain ⟨V,S,U,e,X,J,K,Q⟩:=h;injection e with e1 e2 e3;subst e1 e3;clear e2;have D:(l.drop n).length=l.length - n:=Zk;refine ⟨if c=n then A else A.map (·.add (n*1)),c - n,λF=> ?_,?_⟩
 ·rw[run_slice_l (P:=prog) (w:=F) 52 A l.length c ZlW .i64 (n:Int) om om,ZnG];rfl
 ·unfold RStrs;rw[D];refine ⟨by rw[Zq,D,Nat.mul_one],_,_,rfl,om,Zp (Jz _ _) J,λe=> ?_,λj u H=> ?_⟩
  ·by_cases hc:c=n
   ·omega
   ·rw[Ze hc] at e;have:=K (by cases A with|none=>rfl|some _=>cases e);omega
  ·rw[List.map_drop,List.getElem?_drop] at H;obtain ⟨ad,R,hc⟩:=Q (n+j) u H;subst R;have Y:n+j<l.length:=(by have:=(ZR.1 H).1;rwa [Zq] at this);refine ⟨ad.add n,by rw[Ze om,Nat.mul_one];rfl,?_⟩;rw[Qa];exact hc
def pairS (ps:List (List UInt8×List UInt8)):List ByteArray:=(ps.map λp=> [str p.1,str p.2]).flatten
theorem ZeE (ps:List (List UInt8×List UInt8)):(pairS ps).length=2*ps.length:=by
 induction ps with
 |nil=>rfl
 |cons p t ih=>have e:pairS (p::t)=str p.1::str p.2::pairS t:=rfl;rw[e,Zd,Zd,Zd,ih];omega
theorem Zjk {ps:List (List UInt8×List UInt8)} (h:j<ps.length):pairS (ps.drop j)=str ps[j].1::str ps[j].2::pairS (ps.drop (j+1)):=by
 rw[Zl h];rfl
theorem G6 (l:List AtP):(flatA l).length=l.length*4:=by
 induction l with
 |nil=>rfl
 |cons x t ih=>
  have e:flatA (x::t)=cellsA x++flatA t:=by unfold flatA;simp
  rw[e,Zb,ih,Zd];show 4+_=_;omega
def slLen:Value->Nat
 | .slice _ n _=>n
 |_=>0
theorem ZmQ (m:Nat):Int.tdiv ((2*m:Nat):Int) 2=(m:Int):=by
 rw[Int.tdiv_eq_ediv_of_nonneg om];omega
theorem Zh8 (k:Nat) (s n:List UInt8) (al ks:Value) (l0:List AtP) (m2 d:Nat) (B0:Option Addr) (t:List UInt8) (a:Nat) (v:Value) (ps:List (List UInt8×List UInt8)) (w:Wq) (ha:RAts w al l0) (gk:ks= .slice B0 m2 d) (hv:RStrs w v (pairS ps)) (hn:l0.length+ps.length<=1000000):
 Calls prog 46 #[.agg #[nI (k:Nat),.string (str s),.string (str n),al,ks,.string (str t),nI (a:Nat)],v] w λe w'=>
  ∃al',e= .returned (.agg #[nI (k:Nat),.string (str s),.string (str n),al',ks,.string (str t),nI (a:Nat)])/\w'.ownsRow w.heap.size 88 4 al' (l0.length+ps.length) (flatA (l0++ps.map pairA))/\Ext w w':=by
 obtain ⟨i0,hP,hW,hX,hY⟩:=YH Zfl;obtain ⟨A,c,gi, -, -⟩:=ha.form;subst gi;subst gk;obtain ⟨D,dc,gq, -, -⟩:=RStrs.form hv;have hR:=ZeE ps;subst gq;obtain ⟨q,hq⟩:∃q,(pairS ps).length=q:=⟨_,rfl⟩;have go:(prog.info? 88).map (λi=>i.size)=some 4:=by kernel_rfl
 obtain ⟨W1,he⟩:∃W1,(w.alloc (.cells #[nI (k:Nat),.string (str s),.string (str n),.slice A l0.length c,.slice B0 m2 d,.string (str t),nI (a:Nat)] 25)).alloc (.cells #[nI 0,eS,eS,sN,sN,eS,nI 0] 25)=W1:=⟨_,rfl⟩;have hU:Ext w W1:=by rw[<-he];exact ((Ext.refl w).alloc _).alloc _
 have hy:BxN W1 w.heap.size k s n (.slice A l0.length c) (.slice B0 m2 d) t a:=by rw[<-he];exact (Uc _ _ (by rw[Zu];omega)).trans (Zg w _)
 have h2:W1.heap[w.heap.size+1]? =some (.cells #[nI 0,eS,eS,sN,sN,eS,nI 0] 25 (0,0)):=by rw[<-he];exact YS w _ _
 have hT:W1.heap.size=w.heap.size+2:=by rw[<-he,Zu,Zu]
 obtain ⟨b0,b1,b2,b3,b4,b5,b6⟩:=hy.cells;have ht:=gd hU;have hG:=gd hy;have gh:=gd h2;have hs:=gd hT;have HA:=gd ha;have HV:=gd hv;have HN:=gd hn;have hA:q=2*ps.length:=by rw[<-hq,hR]
 have HQ:=gd hq;have gx:=gd hA;rw[hq];have gs:Int.tdiv ((q:Nat):Int) 2=(ps.length:Int):=by rw[hA];exact ZmQ _
 clear hU hy h2 hT ha hv hq hA hR;go_enter func46,ntmps46;have hQ:l0.length+ps.length<=1000000:=HN.out
 go_wp2_with (first|(refine Zbn W1 rfl (.tmp 8) (.tmp 15) 22 rfl 88 i0 _ 4 underlying22 hP hW hX .i64 .i64 _ _ l0.length (l0.length+ps.length) rfl rfl rfl (Int.natCast_add _ _).symm (Nat.le_add_right _ _) (by rw[hY];omega) (by unfold maxLen;omega) ?_;obtain ⟨zc,hE⟩:∃zc,madeCells (Value.cells (.agg #[eS,eS,eS,nI 0])) ((l0.length+ps.length)*4)=zc:=⟨_,rfl⟩;rw[hE];(have hF:zc.size=(l0.length+ps.length)*4:=by rw[<-hE];exact size_madeCells _ _);obtain ⟨W2,hf⟩:∃W2,W1.alloc (.cells zc 88)=W2:=⟨_,rfl⟩;rw[hf];(have hm:Ext W1 W2:=by rw[<-hf];exact (Ext.refl _).alloc _);(have hc:W2.heap[W1.heap.size]? =some (.cells zc 88 (0,0)):=by rw[<-hf];exact Zg W1 _);obtain ⟨d0,d1,d2,d3,d4,d5,d6⟩:=(hG.out.ext hm).cells;clear b0 b1 b2 b3 b4 b5 b6 hf hE)|(refine Zau rfl (.tmp 17) (.tmp 19) _ _ rfl 88 4 underlying22 go W1.heap.size l0.length (l0.length+ps.length) l0.length A l0.length c rfl rfl zc 88 hc (flatA l0) (Nat.min_self _).symm (G6 l0) (λj u hu=>RSl.at1' (HA.out.ext (ht.out.trans hm)) j u hu) (by rw[G6,hF];omega) (ZiJ l0) ?_))
 have S:(W2.setRow W1.heap.size (flatA l0++zc.toList.drop (flatA l0).length).toArray).ownsRow W1.heap.size 88 4 (.slice (some ⟨W1.heap.size,0,none⟩) l0.length (l0.length+ps.length)) l0.length (flatA l0):=
  Zfz (ZF _ _ _ _ _ _ hc) (Zc _) (G6 l0) (Nat.le_add_right _ _) (by unfold maxLen;omega) (by have h1:zc.toList.length=zc.size:=rfl;rw[Zb,Zk,G6,h1,hF];omega)
 have hd:Ext W1 (W2.setRow W1.heap.size (flatA l0++zc.toList.drop (flatA l0).length).toArray):=hm.setRow (Zc _) _;obtain ⟨W3,hL⟩:∃W3,W2.setRow W1.heap.size (flatA l0++zc.toList.drop (flatA l0).length).toArray=W3:=⟨_,rfl⟩;rw[hL] at S hd|-;clear hL hm hc hF d0 d1 d2 d3 d4 d5 d6 hQ;have h6:=gd S;have ge:=gd hd;clear S hd;go_wp2;go_simp;have gm:q=(pairS (ps.drop 0)).length:=HQ.out.symm;go_loopw [1,5] (λv u wr=>∃(j:Nat),j<=ps.length/\RStrs W1 v (pairS (ps.drop j))/\wr.ownsRow W1.heap.size 88 4 u (l0.length+j) (flatA (l0++(ps.take j).map pairA))/\Ext W1 wr) (λv _ _=>slLen v)
 case atStart=>exact ⟨0,Zj _,(by have h:=HV.out.ext ht.out;rw[HQ.out] at h;exact h),(by rw[List.take_zero,Z2,ZV];exact h6.out),ge.out⟩
 case round=>
  obtain ⟨j,hj,V,F,hx⟩:=hrel;obtain ⟨D1,c1,rfl, -, -⟩:=RStrs.form V;obtain ⟨G,gc,rfl⟩:=Ym F;have J:=ZeE (ps.drop j);rw[Zk] at J;by_cases hk:j<ps.length
  ·obtain ⟨D2,c2,hB,Y⟩:=ZpJ 2 V om;have hl:=Zjk hk;obtain ⟨ad,hM,H⟩:=RSl.at1' V 0 (.string (str ps[j].1)) (by rw[hl];rfl);obtain ⟨gy,X,R⟩:=RSl.at1' V 1 (.string (str ps[j].2)) (by rw[hl];rfl);rw[hM] at X;injection X with X;subst X;subst hM;rw[add_zero] at H;rw[show ad.add 1=⟨ad.block,ad.off+1,none⟩ from Ze om] at R;have h4:ad.block<W1.heap.size:=ZW W1 _ H;have H:=hx.cell H;have R:=hx.cell R;have hdr:(pairS (ps.drop j)).drop 2=pairS (ps.drop (j+1)):=(by rw[hl];rfl);rw[hdr] at Y;obtain ⟨rl,gn⟩:∃rl,(pairS (ps.drop j)).length=rl:=⟨_,rfl⟩;rw[gn] at hB Y J|-;have gA:(1:Int)<(rl:Int):=om;have gz:(0:Int)<(rl:Int):=om;have gt:¬rl=0:=om;have gu:∀wx:Wq,(Instr.slice 52 (.slice (some ad) rl c1) (some (nI 2)) none none).run prog wx= .ok (.slice D2 (rl - 2) c2) wx:=hB;have hC:(ps.take (j+1)).map pairA=(ps.take j).map pairA++ [pairA ps[j]]:=(by rw[Zr hk,ZS];rfl);obtain ⟨p,hp⟩:∃p,ps[j]=p:=⟨_,rfl⟩;rw[hp] at H R hC;have h9:=gd J;clear J;have gb:=gd hC;have ga:=gd Y;have ho:=gd F;have hw:=gd hx;have hr:Hid ((Value.slice G (l0.length+j) gc).ownBlock≠some ad.block):=gd (λe=>by
    have h1:=(ho.out.lt _ e).1;omega)
   clear h4;have hQ:l0.length+ps.length<=1000000:=HN.out;clear V Y hB hl hdr hC hp F hx gm;go_wp2;refine rN ?_;change wpAny _ _ _ _ _ _ _ (World.drew _);have hD:=(Ext.refl wr).drew;have I:wr.drew.cell? ad=some (.string (str p.1))/\wr.drew.cell? ⟨ad.block,ad.off+1,none⟩=some (.string (str p.2)):=⟨hD.cell H,hD.cell R⟩;refine YD (λw'=>w'.cell? ad=some (.string (str p.1))/\w'.cell? ⟨ad.block,ad.off+1,none⟩=some (.string (str p.2))) ?_;refine tG 0 (.slice G (l0.length+j) gc) I ?_;refine tG 1 (.slice (some ad) rl c1) I ?_;refine tG 2 (.pointer (some ad)) I ?_;refine tS 3 (.string (str p.1)) rfl (λw' hS=>by have q1:=hS.1;go_simp) I ?_;refine tG 4 (.slice (some ad) rl c1) I ?_;refine tG 5 (.pointer (some (ad.add 1))) I ?_;refine tS 6 (.string (str p.2)) rfl (λw' hS=>by have q1:=hS.2;go_simp) I ?_;refine tG 7 (.agg #[eS,.string (str p.1),.string (str p.2),nI 0]) I ?_;go_simp;refine sS 8 λK hK=> ?_;go_simp;have Q:=hD.alloc (.cells #[eS,.string (str p.1),.string (str p.2),nI 0] 88);refine hK _ _ ⟨Q.cell H,Q.cell R⟩ ?_;clear hK K;have hH:Hid (RSl (wr.drew.alloc (.cells #[eS,.string (str p.1),.string (str p.2),nI 0] 88)) 4 (.slice (some ⟨wr.heap.size,0,none⟩) 1 1) 1 (cellsA (pairA p))):=gd (Yo (w:=wr.drew) (n:=1) (cs:=cellsA (pairA p)) rfl (by decide));have hI:=gd (Ya ho.out Q);refine sS 9 λK hK=> ?_;refine Z1 _ (by rfl) (.tmp 26) (.tmp 34) _ (by rfl) W1.heap.size 88 i0 _ 4 56 underlying22 hP hW hX hY rfl (by decide) _ (l0.length+j) (flatA (l0++(ps.take j).map pairA)) (by rfl) hI.out _ 1 (cellsA (pairA p)) (by rfl) hH.out (Uo _) (by unfold maxLen;omega) om (hw.out.trans Q).size ?_;intro v9 w9 U hi hN;have gr:Ext W1 w9:=Ext.app (hw.out.trans Q) hi hI.out (Zc _);have h5:=gd (ZW wr _ H);have hJ:w9.cell? ad=some (.string (str p.1))/\w9.cell? ⟨ad.block,ad.off+1,none⟩=some (.string (str p.2)):=(by have gl:(Value.slice G (l0.length+j) gc).ownBlock≠some ad.block:=hr.out;have hb:w9.heap[ad.block]? =(wr.drew.alloc (.cells #[eS,.string (str p.1),.string (str p.2),nI 0] 88)).heap[ad.block]?:=hi.block _ (YZ h5.out Q.size) (λe=>gl e.symm);exact ⟨(Z8 hb).trans (Q.cell H),(Z8 (a:=⟨ad.block,ad.off+1,none⟩) hb).trans (Q.cell R)⟩);obtain ⟨V9,c9,gp⟩:=Ym U;subst gp;have h8:Hid (w9.ownsRow W1.heap.size 88 4 (.slice V9 (l0.length+j+1) c9) (l0.length+(j+1)) (flatA (l0++(ps.take (j+1)).map pairA))):=(by show w9.ownsRow _ _ _ _ _ _;rw[gb.out,<-Zt,G5,G7];exact U);have gg:=gd gr;have gw:=gd hi;refine hK _ _ hJ ?_;clear hK K U hi hN;refine sS 10 λK hK=> ?_;go_simp;refine hK _ _ hJ ?_;clear hK K;refine sE ?_;go_wp2;go_roundw
   case rel=>exact ⟨j+1,hk,ga.out,h8.out,gg.out⟩
   case measure=>have:=h9.out;simp[slLen];omega
  ·have gj:j=ps.length:=om;subst gj;have h0:pairS (ps.drop ps.length)= []:=(by rw[List.drop_length];rfl);rw[h0] at V|-;rw[List.take_length] at F;have HO:=gd F;have hw:=gd hx;have hh:=hG.out.ext hx;have hz:W1.heap.size=w.heap.size+2:=hs.out;have h3:=hx.heap gh.out;obtain ⟨b0,b1,b2,b3,b4,b5,b6⟩:=hh.cells;obtain ⟨-, -,f3, -⟩:=hh.frozen;obtain ⟨W5,hg⟩:∃W5,wr.setCell ⟨w.heap.size,3,none⟩ (.slice G (l0.length+ps.length) gc)=W5:=⟨_,rfl⟩;have hO:BxN W5 w.heap.size k s n (.slice G (l0.length+ps.length) gc) (.slice B0 m2 d) t a:=(by rw[<-hg];exact hh.attrs _);have hZ:W5.heap[w.heap.size+1]? =some (.cells #[nI 0,eS,eS,sN,sN,eS,nI 0] 25 (0,0)):=(by rw[<-hg];exact (Z4 wr ⟨w.heap.size,3,none⟩ (w.heap.size+1) _ (by show w.heap.size+1≠w.heap.size;omega)).trans h3);have Z:W5.ownsRow W1.heap.size 88 4 (.slice G (l0.length+ps.length) gc) (l0.length+ps.length) (flatA (l0++ps.map pairA)):=(by rw[<-hg];exact Zp2 F (by show w.heap.size<_;omega) _);have hV:Ext w W5:=(by rw[<-hg];exact (ht.out.trans hx).setCell (Zc _) _);obtain ⟨e0,e1,e2,e3,e4,e5,e6⟩:=hO.cells;have h7:=gd Z;have gf:=gd hV;clear F hx hh h3 Z hV hO hz J V hk hj h0
   go_wp2_with (first|(refine Zf rfl 25 (.tmp 4) (.tmp 38) rfl (w.heap.size+1) _ rfl rfl _ _ hZ ZJ rfl YU ?_))
   ((try simp only[Exit.inBlock,Exit.then]);refine ZD (Xe rfl _ _ _ _ _ _ _ rfl (ZF _ _ _ _ _ _ hZ) underlying25 rfl ZJ) rfl ?_);exact ⟨_,rfl,X4 (Jk h7.out (by rw[hs.out];omega) _) (by rw[hs.out];omega),gf.out.setRow (Yu _) _⟩
end
theorem VM (t:Int) (w:Wq):
 Calls prog 130 #[nI t] w λe w'=>e= .returned (.bool (inT t))/\w=w':=by
 unfold inT;go_enter func130,ntmps130;go_wp2
 all_goals go_ret
 all_goals exact ⟨by simp_all<;>omega,rfl⟩
theorem XY (b:Bool) (w:Wq):
 Calls prog 85 #[.bool b] w λe w'=>e= .returned (nI (if b=true then 0 else 22))/\w=w':=by
 cases b with
 |true=>go_enter func85,ntmps85;go_wp2;go_ret;exact ⟨rfl,rfl⟩
 |false=>go_enter func85,ntmps85;go_wp2;go_ret;exact ⟨rfl,rfl⟩
theorem Zi4 (e:Ent) (w:Wq):Calls prog 129 #[.agg (eCells e).toArray] w λx w'=>x= .returned (.string e.id)/\Ext w w':=by
 unfold eCells;go_enter func129,ntmps129;go_wp2;go_ret;exact ⟨rfl,(Ext.refl _).alloc _⟩
theorem Zlr (p es:Value) (f:Fd) (w:Wq):Calls prog 88 #[.agg (fCells p es f).toArray] w λx w'=>x= .returned (.string f.id)/\Ext w w':=by
 unfold fCells;go_enter func88,ntmps88;go_wp2;go_ret;exact ⟨rfl,(Ext.refl _).alloc _⟩
theorem UO (v:Value) (l:List ByteArray) (w:Wq) (hE:Env w) (h:RStrs w v l) (J:∀s∈l,s.size<=16777216) (hn:l.length<=16777216):
 Calls prog 128 #[v] w λe w'=>e= .returned (.bool (l.all validS))/\Ext w w':=by
 obtain ⟨A,c,rfl, -, -⟩:=h.form;obtain ⟨R,hR⟩:∃R,l.all validS=R:=⟨_,rfl⟩;rw[hR];have HR:=gd hR;have HS:=gd J;have HH:=gd h;have X:=gd hE;clear hR J h hE;go_enter func128,ntmps128;go_wp2;go_loopw [7] (λi wr=>∃k:Nat,k<=l.length/\i=nI k/\Hid (∀s∈l.take k,validS s=true)/\Ext w wr) (λi _=>l.length - (intOf i).toNat)
 case atStart=>exact ⟨0,Zj _,rfl,gd (by simp),Ext.refl _⟩
 case round=>
  obtain ⟨k,hk,rfl,K,H⟩:=hrel;by_cases I:k<l.length
  ·obtain ⟨ad,c1,e1,hc⟩:=(RStrs.ext HH.out H).at I;injection e1 with e1 e1' e1'';subst e1;clear e1' e1'';have F:l[k]∈l:=ZL I;have Q:=Zr I;have U:=gd (ZdA l[k] wr (X.out.ext H) (by have:=HS.out _ F;omega));have D:validS l[k]=false->R=false:=λh=>(by rw[<-HR.out,Yv];intro h2;have:=Z6.1 h2 _ F;rw[h] at this;cases this);obtain ⟨p,V⟩:∃p,l[k]=p:=⟨_,rfl⟩;rw[V] at hc Q U D;have Z:=gd Q;have he:(0:Int)<=(k:Int):=om;have hf:(k:Int)<(l.length:Int):=om;clear V F Q;cases hv:validS p with
   |false=>
    have ha:=D hv;subst ha;rw[hv] at U;clear D hv
    go_wp2_with (first|(go_at_call 178;refine Za (U.out) ?_;rintro e w6 ⟨rfl,S⟩))
    go_ret;exact ⟨rfl,H.trans S⟩
   |true=>
    have Y:=gd hv;rw[hv] at U;clear D hv
    go_wp2_with (first|(go_at_call 178;refine Za (U.out) ?_;rintro e w6 ⟨rfl,S⟩))
    go_roundw
    case rel=>exact ⟨k+1,I,by go_num,gd (λs J=>by
     rw[Z.out] at J;rcases Zs.1 J with J|J
     ·exact K.out s J
     ·rw[Zo.1 J];exact Y.out),H.trans S⟩
    case measure=>simp[intOf];omega
  ·have hd:k=l.length:=om;subst hd;have hi:=K.out;rw[ZQ (Zc _)] at hi;have hb:R=true:=(by rw[<-HR.out];exact Z6.2 hi);subst hb;clear hi;go_wp2;go_ret;exact ⟨rfl,H⟩
theorem Zes {s:ByteArray} (h:s=noS):s.toList.isEmpty=true:=by rw[h,Jp];rfl
theorem Vx (w:Wq) (l:List ByteArray) (h:l.length<=maxLen):RStrs (w.alloc (.cells (l.map Value.string).toArray 9)) (.slice (some ⟨w.heap.size,0,none⟩) l.length l.length) l:=
 Yo (by rw[Zq,Nat.mul_one]) h
theorem Zha (e:Ent) (w:Wq) (V:Env w) (X:eokS e):
 Calls prog 132 #[.agg (eCells e).toArray] w λx w'=>x= .returned (nI (if okE e=true then 0 else 22))/\Ext w w':=by
 have I:okE e=((strsE e).all validS && !decide (e.id=noS) && inT e.upd):=rfl;have D:=gd (λw'=>XY false w');have J:=gd (λw'=>VM e.upd w');have H:=gd (λ(w':Wq) (h:Ext w w')=>UO _ (strsE e) (w'.alloc (.cells ((strsE e).map Value.string).toArray 9)) ((V.ext h).alloc _) (Vx w' (strsE e) (by show 4<=maxLen;decide)) (λs h=>by
  obtain ⟨h1,h2,h3,h4⟩:=X;unfold strsE at h;simp only[ZH,ZY,Y1] at h;rcases h with rfl|rfl|rfl|rfl<;>omega) (by show 4<=16777216;decide))
 by_cases F:e.id=noS
 ·have A:okE e=false:=by rw[I,F];simp
  rw[Ze (by rw[A];simp)];have K:=Zes F;clear I F A J H;unfold eCells;go_enter func132,ntmps132
  go_wp2_with (first|(go_at_call 85;refine Za (D.out _) ?_;rintro e Y ⟨rfl,rfl⟩))
  go_ret;exact ⟨rfl,(Ext.refl _).alloc _⟩
 ·have K:=VW F;cases hti:inT e.upd with
  |false=>
   have A:okE e=false:=(by rw[I,hti,Bool.and_false]);rw[Ze (by rw[A];simp)];rw[hti] at J;clear I F A H hti;unfold eCells;go_enter func132,ntmps132
   go_wp2_with (first|(go_at_call 130;refine Za (J.out _) ?_;rintro e w5 ⟨rfl,rfl⟩)|(go_at_call 85;refine Za (D.out _) ?_;rintro e Y ⟨rfl,rfl⟩))
   go_ret;exact ⟨rfl,(Ext.refl _).alloc _⟩
  |true=>
   have A:okE e=(strsE e).all validS:=(by rw[I,hti,Yd F];simp);rw[A];rw[hti] at J;have S:=gd (λw'=>XY ((strsE e).all validS) w');obtain ⟨b,U⟩:∃b,(strsE e).all validS=b:=⟨_,rfl⟩;simp only[U] at H S|-;unfold strsE at H;simp only[Zw,Z2,Zd,ZK] at H;clear I F A D hti U;unfold eCells;go_enter func132,ntmps132
   go_wp2_with (first|(go_at_call 130;refine Za (J.out _) ?_;rintro e w5 ⟨rfl,rfl⟩)|(go_at_call 128;have R:=H.out _ ((Ext.refl w).alloc (.cells #[.string e.id,.string e.title,.string e.link,.string e.content,nI e.upd] 76));(simp only[Zu] at R);refine Za R ?_;clear R;rintro Z w7 ⟨rfl,Q⟩)|(go_at_call 85;refine Za (S.out _) ?_;rintro e8 w8 ⟨rfl,rfl⟩))
   all_goals go_ret
   all_goals exact ⟨rfl,(((Ext.refl _).alloc _).alloc _).trans Q⟩
theorem Zkz (w:Wq):Calls prog 44 #[.string ⟨#[111,117,116,108,105,110,101]⟩,sN] w λe w'=>
 ∃KB kc,e= .returned (.agg #[nI 0,eS,.string ⟨#[111,117,116,108,105,110,101]⟩,sN,.slice KB 0 kc,eS,nI 0])/\RNs w' (.slice KB 0 kc) []/\Ext w w':=by
 have h:=ZbW outlineL sN [] w (RNs.nil w) (by intro y F;cases F) (by decide);rw[Va] at h;refine Za h ?_;rintro e w' ⟨ks,rfl,A,D⟩;obtain ⟨KB,kc,rfl⟩:=Ym A;exact ⟨KB,kc,rfl,RSl.of_own A,D⟩
theorem Zky (v:Value) (l:List Nc) (w:Wq) (H:RNs w v l) (D:∀y∈l,RdN w y/\y.kind=0) (F:l.length<=16777216):Calls prog 44 #[.string ⟨#[111,117,116,108,105,110,101]⟩,v] w λe w'=>
 ∃KB kc,e= .returned (.agg #[nI 0,eS,.string ⟨#[111,117,116,108,105,110,101]⟩,sN,.slice KB l.length kc,eS,nI 0])/\w'.ownsRow w.heap.size 25 7 (.slice KB l.length kc) l.length (flatN l)/\Ext w w':=by
 have h:=ZbW outlineL v l w H D F;rw[Va] at h;refine Za h ?_;rintro e w' ⟨ks,rfl,A,I⟩;obtain ⟨KB,kc,rfl⟩:=Ym A;exact ⟨KB,kc,rfl,A,I⟩
theorem Zas (al:Value) (l0:List AtP) (KB:Option Addr) (n kc:Nat) (v:Value) (ps:List (List UInt8×List UInt8)) (w:Wq) (D:RAts w al l0) (H:RStrs w v (pairS ps)) (F:l0.length+ps.length<=1000000):
 Calls prog 46 #[.agg #[nI 0,eS,.string ⟨#[111,117,116,108,105,110,101]⟩,al,.slice KB n kc,eS,nI 0],v] w λe w'=>
  ∃AB ac,e= .returned (.agg #[nI 0,eS,.string ⟨#[111,117,116,108,105,110,101]⟩,.slice AB (l0.length+ps.length) ac,.slice KB n kc,eS,nI 0])/\w'.ownsRow w.heap.size 88 4 (.slice AB (l0.length+ps.length) ac) (l0.length+ps.length) (flatA (l0++ps.map pairA))/\Ext w w':=by
 have h:=Zh8 0 [] outlineL al (.slice KB n kc) l0 n kc KB [] 0 v ps w D rfl H F;rw[Va] at h;refine Za h ?_;rintro e w' ⟨al',rfl,A,I⟩;obtain ⟨AB,ac,rfl⟩:=Ym A;exact ⟨AB,ac,rfl,A,I⟩
theorem Zmd (KB:Option Addr) (kc:Nat) (v:Value) (title id:ByteArray) (w:Wq) (h:RStrs w v (pairS [(typeL,rssL),(textL,lst title),(xmlUrlL,lst id)])):
 Calls prog 46 #[.agg #[nI 0,eS,.string ⟨#[111,117,116,108,105,110,101]⟩,sN,.slice KB 0 kc,eS,nI 0],v] w λe w'=>
  ∃AB ac,e= .returned (.agg #[nI 0,eS,.string ⟨#[111,117,116,108,105,110,101]⟩,.slice AB 3 ac,.slice KB 0 kc,eS,nI 0])/\w'.ownsRow w.heap.size 88 4 (.slice AB 3 ac) 3 (flatA ([(typeL,rssL),(textL,lst title),(xmlUrlL,lst id)].map pairA))/\Ext w w':=
 Zas sN [] KB 0 kc v [(typeL,rssL),(textL,lst title),(xmlUrlL,lst id)] w (RAts.nil w) h (by show 0+3<=1000000;omega)
theorem Zlf (w:Wq) (title id:ByteArray):RStrs (w.alloc (.cells #[.string ⟨#[116,121,112,101]⟩,.string ⟨#[114,115,115]⟩,.string ⟨#[116,101,120,116]⟩,.string title,.string ⟨#[120,109,108,85,114,108]⟩,.string id] 9)) (.slice (some ⟨w.heap.size,0,none⟩) 6 6) (pairS [(typeL,rssL),(textL,lst title),(xmlUrlL,lst id)]):=by
 have e:∀s:ByteArray,str (lst s)=s:=λs=>rfl;have h:=Vx w (pairS [(typeL,rssL),(textL,lst title),(xmlUrlL,lst id)]) (by show 6<=maxLen;unfold maxLen;omega);exact h
theorem Zli (w:Wq) (link:ByteArray):RStrs (w.alloc (.cells #[.string ⟨#[104,116,109,108,85,114,108]⟩,.string link] 9)) (.slice (some ⟨w.heap.size,0,none⟩) 2 2) (pairS [(htmlUrlL,lst link)]):=Vx w (pairS [(htmlUrlL,lst link)]) (by show 2<=maxLen;unfold maxLen;omega)
theorem ZkR (w:Wq) (name:ByteArray):RStrs (w.alloc (.cells #[.string ⟨#[116,101,120,116]⟩,.string name] 9)) (.slice (some ⟨w.heap.size,0,none⟩) 2 2) (pairS [(textL,lst name)]):=Vx w (pairS [(textL,lst name)]) (by show 2<=maxLen;unfold maxLen;omega)
section
variable {B g kc n:Nat} {T e:TypeId} {f:Fd} {v:Value} {w w':World} {xs:List Value}
theorem Zhs {size:Nat} {cs:Array Value} {fr:Nat×Nat} (A:w.ownsRow B e size v n xs) (D:w.heap[g]? =some (.cells cs T fr)) (H:T≠e):v.ownBlock≠some g:=by
 rcases A.2 with ⟨rfl,_⟩|⟨q,cap,F,rfl,_,I,_⟩
 ·simp[Value.ownBlock]
 ·intro h;simp only[Value.ownBlock,Y5] at h;subst h;rw[I] at D;simp only[Y5,Obj.cells.injEq] at D;exact H D.2.1.symm
theorem Q8 {size:Nat} {cs A:Array Value} {fr:Nat×Nat} (h:w.ownsRow B e size v n xs) (F:w.heap[g]? =some (.cells cs T fr)) (D:T≠e):(w.setRow g A).ownsRow B e size v n xs:=
 h.kept (row:=some g) ⟨rfl,rfl,rfl,by simp[World.setRow],λk _ H=>Yf w g k A (λe=>H (by rw[e]))⟩ (Or.inr (Zhs h F D))
theorem VU (h:RNs w v []):RNs w' v []:=by
 obtain ⟨D,A,c,e,F,H,I,K⟩:=h;exact ⟨D,A,c,e,F,H,I,λj u J=>by simp[ZkM] at J⟩
def leafC (KB:Option Addr) (kc:Nat) (al:Value) (f:Fd):Nc:= .mk 0 [] outlineL al ([(typeL,rssL),(textL,lst f.title),(xmlUrlL,lst f.id)].map pairA) (.slice KB 0 kc) [] [] 0
def leafC2 (KB:Option Addr) (kc:Nat) (al:Value) (f:Fd):Nc:= .mk 0 [] outlineL al ([(typeL,rssL),(textL,lst f.title),(xmlUrlL,lst f.id)].map pairA++ [(htmlUrlL,lst f.link)].map pairA) (.slice KB 0 kc) [] [] 0
theorem Zm4 {KB:Option Addr} {al:Value} (h:f.link.size=0):(leafC KB kc al f).nd=feedN f:=by
 unfold feedN leafC;rw[Zi h];rw[Nc.nd,Nc.nds];rfl
theorem Zld {KB:Option Addr} {al:Value} (h:f.link.size≠0):(leafC2 KB kc al f).nd=feedN f:=by
 unfold feedN leafC2;rw[Ze h];rw[Nc.nd,Nc.nds];rfl
theorem Zm5 {KB:Option Addr} {al:Value} (h:w.ownsRow B 88 4 al 3 (flatA ([(typeL,rssL),(textL,lst f.title),(xmlUrlL,lst f.id)].map pairA))) (A:RNs w (.slice KB 0 kc) []):RdN w (leafC KB kc al f):=by
 unfold leafC;rw[RdN];exact ⟨RSl.of_own h,A,by rw[RdNs];trivial⟩
theorem Zle {KB:Option Addr} {al:Value} (h:w.ownsRow B 88 4 al 4 (flatA ([(typeL,rssL),(textL,lst f.title),(xmlUrlL,lst f.id)].map pairA++ [(htmlUrlL,lst f.link)].map pairA))) (A:RNs w (.slice KB 0 kc) []):RdN w (leafC2 KB kc al f):=by
 unfold leafC2;rw[RdN];exact ⟨RSl.of_own h,A,by rw[RdNs];trivial⟩
theorem ZeC {I J X Y U V:Nat} {e1 e2:TypeId} {v1 v2:Value} {h H:List Value} (D:w.ownsRow I e1 X v1 U h) (Q:w.ownsRow J e2 Y v2 V H) (F:e1≠e2) (S:h≠ []):v1.ownBlock≠v2.ownBlock:=by
 rcases Q.2 with ⟨rfl,_⟩|⟨q,cap,A,rfl,_,R,_⟩
 ·rcases D.2 with ⟨rfl,K⟩|⟨q,cap,A,rfl,_⟩
  ·exact absurd (Zm (by rw[D.1,K,Xj])) S
  ·simp[Value.ownBlock]
 ·exact Zhs D R (λe=>F e.symm)
end
section
variable {l:List UInt8}
theorem Ze9 (r:List UInt8) (h:(dec l).2≠0):dec (l++r)=dec l/\scalar (dec l).1/\(encN (dec l).1).length=(dec l).2:=by
 have H:=G2 (l:=l) (r:=(dec l).1) (m:=(dec l).2) rfl h;have J:=Ug l;have A:(encN (dec l).1).length=(dec l).2:=by have:=Zz List.length H;rw[Zb,Zk] at this;omega
 have D:scalar (dec l).1:=by
  unfold scalar;rcases Y9 1114111 (dec l).1 with F|F
  ·have:encN (dec l).1= []:=(by unfold encN;rw[Zi (Or.inl F)]);rw[this] at A;exact absurd A.symm h
  ·by_cases I:55296<=(dec l).1/\(dec l).1<=57343
   ·have:encN (dec l).1= []:=(by unfold encN;rw[Zi (Or.inr I)]);rw[this] at A;exact absurd A.symm h
   ·omega
 refine ⟨?_,D,A⟩
 calc dec (l++r)=dec (encN (dec l).1++(l.drop (dec l).2++r)):=by rw[<-Zt,<-H]
  _=((dec l).1,(encN (dec l).1).length):=ZrC D _
  _=dec l:=by rw[A]
end
def reads (s:List UInt8) (k k':Nat) (L:List Tok):Prop:=∀l,toksAt s k l=toksAt s k' (l++L)
def plainAs (al:List AtP):Bool:=al.all λa=>isNm a.name && a.name !=xmlnsL
mutual
def Nd.plain:Nd->Bool
 | .mk k _ n al ks _ _=>k !=0||(isNm n && n !=xmlnsL && plainAs al && Nds.plain ks)
def Nds.plain:List Nd->Bool
 | []=>true
 |x::t=>x.plain && Nds.plain t
end
section
variable {d:Nat} {f:Fd} {s t:List UInt8}
theorem Zf6 {s:ByteArray} (h:validS s=true) (F:s≠noS):coll (lst s)≠ []:=by
 intro e;have A:=Xq h;unfold collapse at A;have D:coll s.data.toList= []:=e;rw[D] at A;exact F A.symm
def Pref (path:List ByteArray) (f:Fd):Prop:=∃r,f.path=path++r
theorem Pref.len {path:List ByteArray} {f:Fd} (h:Pref path f):path.length<=f.path.length:=by
 obtain ⟨r,A⟩:=h;rw[A,Zb];omega
theorem Pref.eq {path:List ByteArray} {f:Fd} (h:Pref path f) (D:f.path.length=path.length):f.path=path:=by
 obtain ⟨r,A⟩:=h;have:r= []:=Zm (by rw[A,Zb] at D;omega);rw[A,this,ZV]
theorem Pref.next {path:List ByteArray} {f:Fd} {d:Nat} (D:path.length=d) (h:Pref path f) (F:d<f.path.length):Pref (path++ [pathAt f d]) f:=by
 obtain ⟨r,A⟩:=h;cases r with
 |nil=>rw[A,ZV] at F;omega
 |cons c t=>
  refine ⟨t,?_⟩;have:pathAt f d=c:=by unfold pathAt;rw[A,<-D,ZZ,Yt (Zc _),Nat.sub_self];rfl
  rw[this,A,Zt];rfl
theorem Zhv (path:List ByteArray) (a b:List ByteArray):pathCmp (path++a) (path++b)=pathCmp a b:=by
 induction path with
 |nil=>rfl
 |cons c t ih=>show pathCmp (c::(t++a)) (c::(t++b))=_;rw[pathCmp,Zi (UI.self c)];exact ih
def asc (l:List Fd):Prop:=l.Pairwise λa b=>pathCmp a.path b.path<=0
theorem Qb {path:List ByteArray} {d:Nat} (R:path.length=d):∀{l:List Fd},asc l->(∀x∈l,Pref path x)->
 (∀x∈l.takeWhile (λx=>decide (x.path.length=d)),x.path=path)/\(∀x∈l.drop (l.takeWhile λx=>decide (x.path.length=d)).length,d<x.path.length)
 | [],_,_=>⟨(by intro x h;cases h),(by intro x h;simp at h)⟩
 |a::t,hs,hp=>by
  have H:=hp a Zx;have D:=hs;unfold asc at D;rw[XH] at D;have ih:=Qb R (l:=t) D.2 λx A=>hp x (Zn _ A);by_cases J:a.path.length=d
  ·rw[Yi,Zi (by simpa using J)];refine ⟨λx A=> ?_,λx A=> ?_⟩
   ·rcases ZH.1 A with rfl|A
    ·exact H.eq om
    ·exact ih.1 x A
   ·rw[Zd,List.drop_succ_cons] at A;exact ih.2 x A
  ·rw[Yi,Ze (by simpa using J)];refine ⟨(by intro x h;cases h),λx A=> ?_⟩;have F:d<a.path.length:=(by have:=H.len;omega);rw[ZK,Jm] at A;rcases ZH.1 A with rfl|A
   ·exact F
   ·obtain ⟨r,Q⟩:=hp x (Zn _ A);obtain ⟨q,K⟩:=H;have I:=D.1 x A;rw[K,Q,Zhv] at I;cases r with
    |nil=>
     cases q with
     |nil=>rw[K,ZV] at F;omega
     |cons c q=>rw[pathCmp] at I;omega
    |cons c r=>rw[Q,Zb,Zd];omega
def okX (f:Fd):Prop:=coll (lst f.id)≠ []/\(∀p∈f.path,coll (lst p)≠ [])/\f.path.length<=64
theorem ZjX (h:okH f=true):okX f:=by
 obtain ⟨F,A,H,J,I⟩:=Jf.1 h;refine ⟨Zf6 (A _ (by unfold strsF;simp)) H,λp D=>Zf6 (A p (by unfold strsF;simp[D])) (I p D),F⟩
def foldN (s:ByteArray) (ks:List Nd):Nd:=withP (elemN outlineL ks) [(textL,lst s)]
def elems (ks:List Nd):Prop:=∀k∈ks,k.kind=0
theorem Jd {ks:List Nd} (h:elems ks):ks.filter (λk=> !(decide (k.kind=1) && k.text.isEmpty))=ks:=by
 rw[List.filter_eq_self];intro k A;rw[h k A];rfl
theorem Zgh (l:List Fd):elems (l.map feedN):=λk h=>by
 obtain ⟨f,_,rfl⟩:=ZU.1 h;unfold feedN;dsimp only;split<;>rfl
theorem ZkB {a b:List Nd} (h:elems a) (A:elems b):elems (a++b):=λk D=>(Zs.1 D).elim (h k) (A k)
theorem ZaC (rec_:List Fd->List Nd) (d:Nat):∀(f:Nat) (l:List Fd),elems (foldsP rec_ d f l)
 |0,l=>(by rw[foldsP];intro k h;cases h)
 |f+1,[]=>(by rw[foldsP];intro k h;cases h)
 |f+1,x::t=>by
  rw[foldsP]
  intro k h
  rcases ZH.1 h with rfl|h
  ·rfl
  ·exact ZaC rec_ d f _ k h
theorem J1:∀(f d:Nat) (l:List Fd),elems (outsP f d l)
 |0,d,l=>(by rw[outsP];intro k h;cases h)
 |f+1,d,l=>by
  rw[outsP]
  exact ZkB (Zgh _) (ZaC _ _ _ _)
theorem IJ (x:Fd) (t:List Fd) (d:Nat):0<((x::t).takeWhile λy=>decide (pathAt y d=pathAt x d)).length:=by
 rw[Yi,Zi (by simp)];simp
theorem Zbs (x:Fd) (t:List Fd) (d:Nat):∀y∈(x::t).take ((x::t).takeWhile λy=>decide (pathAt y d=pathAt x d)).length,pathAt y d=pathAt x d:=by
 intro y h;rw[show (x::t).take ((x::t).takeWhile λy=>decide (pathAt y d=pathAt x d)).length=(x::t).takeWhile λy=>decide (pathAt y d=pathAt x d) from (YQ.1 (Xx _)).symm] at h;have:=List.all_takeWhile (p:=λy=>decide (pathAt y d=pathAt x d)) (l:=x::t);rw[Z6] at this;simpa using this y h
theorem UD {a b:List Fd} (h:a.Sublist b) (A:asc b):asc a:=List.Pairwise.sublist h A
theorem Zbo {l:List Fd} (h:okA l=true):asc l:=by
 have H:=(JM.1 h).2.1;refine List.Pairwise.imp ?_ H;intro a b A;have D:feedCmp a b<0:=by have F:ltF a b=true:=A;simpa [ltF] using F
 unfold feedCmp at D;split at D<;>omega
theorem VH {s:ByteArray} (h:validS s=true):charsOk (lst s)=true:=by
 have A:=VI h;unfold checkS at A;exact YG A
def okC (f:Fd):Prop:=charsOk (lst f.id)=true/\charsOk (lst f.title)=true/\charsOk (lst f.link)=true/\∀p∈f.path,charsOk (lst p)=true
theorem ZoG (h:okH f=true):okC f:=by
 obtain ⟨F,A,H,I,J⟩:=Jf.1 h;refine ⟨VH (A _ (by unfold strsF;simp)),VH (A _ (by unfold strsF;simp)),VH (A _ (by unfold strsF;simp)),λp D=>VH (A p (by unfold strsF;simp[D]))⟩
theorem Zae:isQ outlineL=true:=by decide+kernel
theorem ZnC:isQ typeL=true:=by decide+kernel
theorem Zjm:isQ textL=true:=by decide+kernel
theorem Zhz:isQ xmlUrlL=true:=by decide+kernel
theorem ZlO:isQ htmlUrlL=true:=by decide+kernel
theorem Zpw:isQ opmlL=true:=by decide+kernel
theorem Zpv:isQ headL=true:=by decide+kernel
theorem Zpu:isQ bodyL=true:=by decide+kernel
theorem ZlP:isQ versionL=true:=by decide+kernel
theorem EJ:isNm outlineL=true:=by decide+kernel
theorem Zna:isNm typeL=true:=by decide+kernel
theorem Zi9:isNm textL=true:=by decide+kernel
theorem Zhf:isNm xmlUrlL=true:=by decide+kernel
theorem Zlu:isNm htmlUrlL=true:=by decide+kernel
theorem Zpq:isNm opmlL=true:=by decide+kernel
theorem Zpp:isNm headL=true:=by decide+kernel
theorem Zpo:isNm bodyL=true:=by decide+kernel
theorem Zlv:isNm versionL=true:=by decide+kernel
theorem ZoX:charsOk rssL=true:=by decide+kernel
theorem ZpF:charsOk twoL=true:=by decide+kernel
theorem J8 {a:Nat} {n:List UInt8} {al:List AtP} {ks:List Nd} (A:d<=100) (F:isQ n=true) (h:attrsOk al []=true) (D:kidsOk d false ks=true):nodeOk d (.mk 0 [] n al ks [] a)=true:=by
 rw[nodeOk,F,h,D,YG A];rfl
theorem Uu {a:Nat} {n:List UInt8} {al:List AtP} {ks:List Nd} (D:isNm n=true) (F:(n !=xmlnsL)=true) (h:plainAs al=true) (A:Nds.plain ks=true):(Nd.mk 0 s n al ks t a).plain=true:=by
 rw[Nd.plain,D,F,h,A];rfl
theorem Zoq (h:okC f) (F:d<=100):nodeOk d (feedN f)=true/\(feedN f).plain=true:=by
 obtain ⟨A,D,H,I⟩:=h;unfold feedN;dsimp only;split
 ·refine ⟨J8 F Zae ?_ rfl,Uu EJ (by decide) ?_ rfl⟩
  ·show attrsOk [⟨[],typeL,rssL,0⟩,⟨[],textL,lst f.title,0⟩,⟨[],xmlUrlL,lst f.id,0⟩] []=true;simp only[attrsOk,ZnC,Zjm,Zhz,ZoX,A,D];decide
  ·show plainAs [⟨[],typeL,rssL,0⟩,⟨[],textL,lst f.title,0⟩,⟨[],xmlUrlL,lst f.id,0⟩]=true;simp only[plainAs,KI,List.all_nil,Zna,Zi9,Zhf];decide
 ·refine ⟨J8 F Zae ?_ rfl,Uu EJ (by decide) ?_ rfl⟩
  ·show attrsOk [⟨[],typeL,rssL,0⟩,⟨[],textL,lst f.title,0⟩,⟨[],xmlUrlL,lst f.id,0⟩,⟨[],htmlUrlL,lst f.link,0⟩] []=true;simp only[attrsOk,ZnC,Zjm,Zhz,ZlO,ZoX,A,D,H];decide
  ·show plainAs [⟨[],typeL,rssL,0⟩,⟨[],textL,lst f.title,0⟩,⟨[],xmlUrlL,lst f.id,0⟩,⟨[],htmlUrlL,lst f.link,0⟩]=true;simp only[plainAs,KI,List.all_nil,Zna,Zi9,Zhf,Zlu];decide
theorem QH {d:Nat}:∀(ks:List Nd) (data:Bool),elems ks->(∀k∈ks,nodeOk (d+1) k=true)->kidsOk d data ks=true
 | [],_,_,_=>rfl
 |x::xs,data,he,h=>by
  rw[kidsOk,Ze (by rw[he x Zx];decide),h x Zx,XL]
  exact QH xs _ (λk A=>he k (Zn _ A)) λk A=>h k (Zn _ A)
theorem QL:∀ks:List Nd,(∀k∈ks,k.plain=true)->Nds.plain ks=true
 | [],_=>rfl
 |x::xs,h=>by
  rw[Nds.plain,h x Zx,XL]
  exact QL xs λk A=>h k (Zn _ A)
theorem Zor {s:ByteArray} {ks:List Nd} (H:charsOk (lst s)=true) (F:d<=100) (D:elems ks) (h:∀k∈ks,nodeOk (d+1) k=true/\k.plain=true):nodeOk d (foldN s ks)=true/\(foldN s ks).plain=true:=by
 have e1:foldN s ks= .mk 0 [] outlineL [⟨[],textL,lst s,0⟩] ks [] 0:=by unfold foldN elemN withP;rw[Jd D];rfl
 rw[e1];refine ⟨J8 F Zae ?_ (QH ks false D λk A=>(h k A).1),Uu EJ (by decide) ?_ (QL ks λk A=>(h k A).2)⟩
 ·simp only[attrsOk,Zjm,H];decide
 ·simp only[plainAs,KI,List.all_nil,Zi9];decide
theorem ZgC {rec_:List Fd->List Nd} {path:List ByteArray} {d e:Nat} (J:path.length=d) (K:e<=100)
 (h:∀(s:ByteArray) (g:List Fd),asc g->(∀x∈g,Pref (path++ [s]) x/\okC x)->elems (rec_ g)/\∀k∈rec_ g,nodeOk (e+1) k=true/\k.plain=true):
 ∀(f:Nat) (l:List Fd),asc l->(∀x∈l,Pref path x/\okC x/\d<x.path.length)->∀k∈foldsP rec_ d f l,nodeOk e k=true/\k.plain=true
 |0,l,_,_=>(by rw[foldsP];intro k A;cases A)
 |f+1,[],_,_=>(by rw[foldsP];intro k A;cases A)
 |f+1,x::t,hs,hl=>by
  rw[foldsP];intro k A;rcases ZH.1 A with rfl|A
  ·have H:=Zbs x t d;have Q:=h (pathAt x d) ((x::t).take ((x::t).takeWhile λy=>decide (pathAt y d=pathAt x d)).length) (UD (List.take_sublist _ _) hs) λy I=>(by have F:=hl y (Y4 I);refine ⟨?_,F.2.1⟩;rw[<-H y I];exact F.1.next J F.2.2);have R:=hl x Zx;have D:pathAt x d∈x.path:=(by unfold pathAt;rw[ZZ,Zh R.2.2];exact ZL _);exact Zor (R.2.1.2.2.2 _ D) K Q.1 Q.2
  ·exact ZgC J K h f _ (UD (List.drop_sublist _ _) hs) (λy I=>hl y (Yq I)) k A
theorem ZjY:∀(f d e:Nat) (path:List ByteArray) (l:List Fd),path.length=d->f+e<=90->asc l->(∀x∈l,Pref path x/\okC x)->∀k∈outsP f d l,nodeOk e k=true/\k.plain=true
 |0,d,e,path,l,_,_,_,_=>(by rw[outsP];intro k h;cases h)
 |f+1,d,e,path,l,hd,hf,hs,hl=>by
  obtain ⟨n,H⟩:∃n,(l.takeWhile λx=>decide (x.path.length=d)).length=n:=⟨_,rfl⟩
  have I:=Qb hd hs λx A=>(hl x A).1
  have D:l.takeWhile (λx=>decide (x.path.length=d))=l.take n:=by rw[<-H];exact YQ.1 (Xx _)
  rw[H] at I
  rw[outsP,D,show (l.take n).length=n by rw[<-D,H]]
  intro k h
  rcases Zs.1 h with h|h
  ·obtain ⟨x,A,rfl⟩:=ZU.1 h
   exact Zoq (hl x (Y4 A)).2 om
  ·exact ZgC hd om (λs g J F=>⟨J1 _ _ _,ZjY f (d+1) (e+1) (path++ [s]) g (by rw[Zb,hd];rfl) om J F⟩) (l.length+1) (l.drop n) (UD (List.drop_sublist _ _) hs) (λx A=>⟨(hl x (Yq A)).1,(hl x (Yq A)).2,I.2 x A⟩) k h
theorem ZnS {K:List Nd} (h:elems K):withP (elemN opmlL K) [(versionL,twoL)]= .mk 0 [] opmlL [⟨[],versionL,twoL,0⟩] K [] 0:=by
 unfold elemN;rw[Jd h];rfl
theorem Ziz {l:List Fd} (h:okA l=true):nodeOk 1 (encP l)=true/\(encP l).plain=true:=by
 have J:=ZjY 66 0 3 [] l rfl om (Zbo h) λx Q=>⟨⟨x.path,rfl⟩,ZoG (XW.1 ((JM.1 h).1 x Q)).1⟩;have K:=J1 66 0 l;have e1:elemN bodyL (outsP 66 0 l)= .mk 0 [] bodyL [] (outsP 66 0 l) [] 0:=by unfold elemN;rw[Jd K]
 have F:nodeOk 2 (elemN bodyL (outsP 66 0 l))=true/\(elemN bodyL (outsP 66 0 l)).plain=true:=by rw[e1];exact ⟨J8 om Zpu rfl (QH _ false K λk A=>(J k A).1),Uu Zpo (by decide) rfl (QL _ λk A=>(J k A).2)⟩
 have H:nodeOk 2 (elemN headL [])=true/\(elemN headL []).plain=true:=⟨J8 om Zpv rfl rfl,Uu Zpp (by decide) rfl rfl⟩;have I:elems [elemN headL [],elemN bodyL (outsP 66 0 l)]:=λk A=>by
  rcases ZH.1 A with rfl|A
  ·rfl
  ·rw[Zo.1 A];rfl
 have D:∀k∈ [elemN headL [],elemN bodyL (outsP 66 0 l)],nodeOk 2 k=true/\k.plain=true:=λk A=>by
  rcases ZH.1 A with rfl|A
  ·exact H
  ·rw[Zo.1 A];exact F
 unfold encP;rw[ZnS I];refine ⟨J8 om Zpw ?_ (QH _ false I λk A=>(D k A).1),Uu Zpq (by decide) ?_ (QL _ λk A=>(D k A).2)⟩
 ·rw[attrsOk,ZlP,ZpF];rfl
 ·show plainAs [⟨[],versionL,twoL,0⟩]=true;unfold plainAs;rw[KI,Zlv];rfl
end
section
variable {P:Program} {a:Act} {k m:Nat} {o:Oper} {ops:Array Oper} {w:World}
section
variable {P:Program} {md:Region.Mode} {ops:Array Oper} {Q:Exit→Act→World→Prop} {S:World→Prop} {T:Array Bool→Act→World→Prop} {t:Nat}
def wpAnyC (P:Program) (md:Region.Mode) (ops:Array Oper) (Q:Exit->Act->Wq->Prop) (S:Wq->Prop) (T:Array Bool->Act->Wq->Prop):Nat->Array Bool->Act->Wq->Prop
 |0,listed,a,w=>T listed a w
 |f+1,listed,a,w=>(Region.ready md ops listed= []->Q .normal a w)/\
  ∀i∈Region.ready md ops listed,wpOp P ops Q i (λa' w'=>S w'/\wpAnyC P md ops Q S T f (listed.setIfInBounds i true) a' w') a w
theorem Zc8 {m:Nat} (D:∀L a w,T L a w->wpAnyT P md ops Q S t m L a w):∀(f k:Nat) (listed:Array Bool) (a:Act) (w:Wq),k=f+m->wpAnyC P md ops Q S T f listed a w->wpAnyT P md ops Q S t k listed a w
 |0,k,listed,a,w,hk,h=>by rw[hk,YI];exact D _ _ _ h
 |f+1,k,listed,a,w,hk,h=>by
  rw[hk,show f+1+m=(f+m)+1 by omega]
  exact ⟨h.1,λi F=>J3 (λa' w' A=>⟨λ_=>A.1,Zc8 D f (f+m) _ a' w' rfl A.2⟩) (h.2 i F)⟩
theorem Zic {f:Nat} {l:List Oper} {listed:Array Bool} (H:k=f+m) (A:Array Bool) (R:Act->Act->Wq->Prop)
 (D:wpAnyC P md l.toArray Q S (λL a' w'=>L=A/\R a a' w') f listed a w) (F:∀a' w',R a a' w'->wpAnyT P md l.toArray Q S t m A a' w'):wpAnyT P md l.toArray Q S t k listed a w:=
 Zc8 (λL a w h=>by obtain ⟨rfl,h⟩:=h;exact F a w h) f k listed a w H D
theorem Zc7 {m:Nat} (D:∀L a w,T L a w->wpAnyS P md ops Q S m L a w):∀(f k:Nat) (listed:Array Bool) (a:Act) (w:Wq),k=f+m->wpAnyC P md ops Q S T f listed a w->wpAnyS P md ops Q S k listed a w
 |0,k,listed,a,w,hk,h=>by rw[hk,YI];exact D _ _ _ h
 |f+1,k,listed,a,w,hk,h=>by
  rw[hk,show f+1+m=(f+m)+1 by omega]
  exact ⟨h.1,λi F=>J3 (λa' w' A=>⟨A.1,Zc7 D f (f+m) _ a' w' rfl A.2⟩) (h.2 i F)⟩
theorem Za5 {f:Nat} {l:List Oper} {listed:Array Bool} (H:k=f+m) (A:Array Bool) (R:Act->Act->Wq->Prop)
 (D:wpAnyC P md l.toArray Q S (λL a' w'=>L=A/\R a a' w') f listed a w) (F:∀a' w',R a a' w'->wpAnyS P md l.toArray Q S m A a' w'):wpAnyS P md l.toArray Q S k listed a w:=
 Zc7 (λL a w h=>by obtain ⟨rfl,h⟩:=h;exact F a w h) f k listed a w H D
section
variable {l:List Oper} {f:Nat} {listed:Array Bool} {a:Act} {w:World} {i j k:Nat} {oi oj ok:Oper}
end
end
section
variable {P:Program} {md:Region.Mode} {Q:Exit→Act→World→Prop} {S:World→Prop} {t:Nat} {l:List Oper} {f:Nat} {listed:Array Bool} {a:Act} {w:World} {i j:Nat} {oi oj:Oper}
theorem Zda (R:l[i]? =some oi) (U:l[j]? =some oj) (X:Region.ready md l.toArray listed= [i,j])
 (H:∀K:Act->Wq->Prop,(∀a' w',((listed.setIfInBounds i true).getD t true=false->S w')->wpAnyT P md l.toArray Q S t f (listed.setIfInBounds i true) a' w'->K a' w')->if Region.wanted oi (yielded l.toArray a.tmps) then Oper.wp P oi a w K Q else K (a.put oi.dst undef) w)
 (I:∀K:Act->Wq->Prop,(∀a' w',((listed.setIfInBounds j true).getD t true=false->S w')->wpAnyT P md l.toArray Q S t f (listed.setIfInBounds j true) a' w'->K a' w')->if Region.wanted oj (yielded l.toArray a.tmps) then Oper.wp P oj a w K Q else K (a.put oj.dst undef) w):wpAnyT P md l.toArray Q S t (f+1) listed a w:=by
 refine ⟨λh=>(by rw[X] at h;cases h),λq A=> ?_⟩;have D:∀(q:Nat) (o:Oper),l[q]? =some o->(∀K:Act->Wq->Prop,(∀a' w',((listed.setIfInBounds q true).getD t true=false->S w')->wpAnyT P md l.toArray Q S t f (listed.setIfInBounds q true) a' w'->K a' w')->if Region.wanted o (yielded l.toArray a.tmps) then Oper.wp P o a w K Q else K (a.put o.dst undef) w)->
  wpOp P l.toArray Q q (λa' w'=>((listed.setIfInBounds q true).getD t true=false->S w')/\wpAnyT P md l.toArray Q S t f (listed.setIfInBounds q true) a' w') a w:=by
  intro q o Y h
  have J:l.toArray[q]? =some o:=by rw[Yj];exact Y
  have F:=h (λa' w'=>((listed.setIfInBounds q true).getD t true=false->S w')/\wpAnyT P md l.toArray Q S t f (listed.setIfInBounds q true) a' w') λ_ _ H I=>⟨H,I⟩
  unfold wpOp
  simp only[J]
  split
  ·rename_i V;rw[Zi V] at F;exact Or.inl F
  ·rename_i V;rw[Ze V] at F;exact F
 rw[X] at A;simp only[ZH,ZY,Y1] at A;rcases A with A|A
 ·rw[A];exact D i oi R H
 ·rw[A];exact D j oj U I
theorem QZ (H:l[i]? =some oi) (R:Region.ready md l.toArray listed= [i])
 (D:∀K:Act->Wq->Prop,(∀a' w',((listed.setIfInBounds i true).getD t true=false->S w')->wpAnyT P md l.toArray Q S t f (listed.setIfInBounds i true) a' w'->K a' w')->if Region.wanted oi (yielded l.toArray a.tmps) then Oper.wp P oi a w K Q else K (a.put oi.dst undef) w):wpAnyT P md l.toArray Q S t (f+1) listed a w:=by
 refine ⟨λh=>(by rw[R] at h;cases h),λq J=> ?_⟩;rw[R] at J;rw[Zo.1 J];have F:l.toArray[i]? =some oi:=by rw[Yj];exact H
 have A:=D (λa' w'=>((listed.setIfInBounds i true).getD t true=false->S w')/\wpAnyT P md l.toArray Q S t f (listed.setIfInBounds i true) a' w') λ_ _ D U=>⟨D,U⟩;unfold wpOp;simp only[F];split
 ·rename_i I;rw[Zi I] at A;exact Or.inl A
 ·rename_i I;rw[Ze I] at A;exact A
theorem Zc9 (A:Region.ready md l.toArray listed= []) (h:Q .normal a w):wpAnyT P md l.toArray Q S t 0 listed a w:=⟨A,h⟩
end
theorem Zhr {B size n g c:Nat} {e:TypeId}:∀(vs:List Value) (j:Nat) (w:Wq) (xs:List Value),w.ownsRow B e size (.slice (some ⟨g,0,none⟩) n c) n xs->j+vs.length<=n*size->
 (w.setCells g j vs).ownsRow B e size (.slice (some ⟨g,0,none⟩) n c) n (xs.take j++vs++xs.drop (j+vs.length))
 | [],j,w,xs,h,_=>by rw[ZV,ZK,Nat.add_zero,Yz];exact h
 |v::r,j,w,xs,h,hl=>by
  have A:=h.1;rw[Zd] at hl;have ih:=Zhr r (j+1) _ _ (ZjZ h (j:=j) om v) om;have e1:(xs.set j v).take (j+1)=xs.take j++ [v]:=by rw[List.take_set,Zr (show j<xs.length by omega)];rw[List.set_append_right _ _ (by rw[ZM];omega)];rw[ZM,show j - min j xs.length=0 by omega];rfl
  have e2:(xs.set j v).drop (j+1+r.length)=xs.drop (j+(v::r).length):=by rw[Zd,show j+(r.length+1)=j+1+r.length by omega,List.drop_set_of_lt om]
  rw[e1,e2,Zt (xs.take j)] at ih;exact ih
theorem QO (g:Nat):∀(vs:List Value) (j:Nat) (w:Wq),w.grownBy (w.setCells g j vs) (some g)
 | [],j,w=>(Ext.refl w).grown (some g)
 |v::r,j,w=>(Yw w ⟨g,j,none⟩ v).trans (QO g r (j+1) _)
theorem Kw {K:Act->Wq->Prop} {Q:Exit->Act->Wq->Prop} {E:Prop} (H:o.guard=none) (ty:TypeId) (x y:Operand) (S:o.op= .store ty x y)
 (g A:Nat) (cells:Array Value) (Y:a.eval x= .pointer (some ⟨g,A,none⟩)) (Z:a.eval y= .agg cells)
 (I:(P.info? ty).map (·.size)=some cells.size) (hc:∀j,j<cells.size->(w.cell? ⟨g,A+j,none⟩).isSome=true) (R:∀j,w.frozen? ⟨g,j,none⟩=false) (J:cells.all (·.oneCell')=true)
 (h:K (a.put o.dst undef) (w.setCells g A cells.toList)):if Region.wanted o (yielded ops a.tmps)=true then Oper.wp P o a w K Q else E:=by
 have X:Region.wanted o (yielded ops a.tmps)=true:=by simp[Region.wanted,H]
 rw[Zi X];have F:=run_storeCells_cells (P:=P) g A cells.toList 0 w (by simpa using hc) (λj _=>R _) (λv V=>(Array.all_eq_true_iff_forall_mem.1 J) v (by simpa using V));have D:(storeVar ty ⟨g,A,none⟩ (.agg cells)).run P w= .ok () (w.setCells g A cells.toList):=by
  cases hq:P.info? ty with
  |none=>simp[hq] at I
  |some i=>have U:cells.size=i.size:=(by simp[hq] at I;omega);simp only[Nat.add_zero] at F;simp[storeVar,sizeOf,typeInfo,hq,Value.cells,U,F]
 unfold Oper.wp execOp;simp only[S,Y,Z,Instr.storeAt,Instr.sureAddr,Sem.run_bind,Sem.run_pure,Result.andThen_ok,D];exact h
end
section
variable {B C c g j k kc m n:Nat} {e:TypeId} {f:Fd} {u v:Value} {w w':World} {xs:List Value} {y:Nc}
theorem Jq {s:Nat} (h:w.ownsRow B e s v n xs) (A:k<B):v.ownBlock≠some k:=λe=>by have:=(h.lt k e).1;omega
theorem HNs.grown {w w':Wq} {B:Nat} {v:Value} {l:List Nc} {r:Option Nat} (h:HNs w B v l) (A:w.grownBy w' r) (F:v.ownBlock≠r) (D:awayNs r l):HNs w' B v l:=
 ⟨h.row.kept A (Or.inr F),RdNs.grown A l h.rd D,h.away⟩
theorem HNs.cell {w:Wq} {B g i:Nat} {v u:Value} {l:List Nc} (h:HNs w B v l) (D:v.ownBlock≠some g) (A:awayNs (some g) l):HNs (w.setCell ⟨g,i,none⟩ u) B v l:=
 h.grown (Yw w ⟨g,i,none⟩ u) D A
theorem ZfB (w:Wq) (l:Nat) (o:Obj):w.grownBy (w.putObj l o) (some l):=
 ⟨rfl,rfl,rfl,by rw[World.putObj_size];exact Zc _,λk _ h=>X8 (λe=>h (by rw[e]))⟩
theorem Zog {a:Addr} (h:w.cell? a=some u):∃cs T fr,w.heap[a.block]? =some (.cells cs T fr):=by
 unfold World.cell? at h;split at h
 ·rename_i A;exact ⟨_,_,_,A⟩
 ·cases h
theorem RSl.notObj {w:Wq} {size n l:Nat} {v:Value} {xs:List Value} {o:Obj} (h:RSl w size v n xs) (I:w.heap[l]? =some o) (J:o.isCells=false):xs= []\/v.ownBlock≠some l:=by
 cases xs with
 |nil=>exact Or.inl rfl
 |cons u t=>
  right;obtain ⟨_,A,c,rfl,_,_,_,F⟩:=h;obtain ⟨ad,rfl,hc⟩:=F 0 u rfl;obtain ⟨cs,T,fr,D⟩:=Zog hc;intro e;have H:(ad.add 0).block=ad.block:=by rw[add_zero]
  rw[H] at D;simp only[Value.ownBlock,Y5] at e;rw[e,I] at D;cases D;cases J
mutual
theorem RdN.notObj {w:Wq} {l:Nat} {o:Obj} (hl:w.heap[l]? =some o) (ho:o.isCells=false):∀x:Nc,RdN w x->awayN (some l) x
 | .mk k s n al l0 ks kids t a,h=>by
  rw[RdN] at h
  rw[awayN]
  refine ⟨?_,?_,RdNs.notObj hl ho kids h.2.2⟩
  ·by_cases h0:l0= []
   ·exact Or.inl (by rw[h0];rfl)
   ·exact Or.inr ((RSl.notObj h.1 hl ho).resolve_left (Qg h0))
  ·by_cases h0:kids= []
   ·exact Or.inl (by rw[h0];rfl)
   ·exact Or.inr ((RSl.notObj h.2.1 hl ho).resolve_left (Zb4 h0))
theorem RdNs.notObj {w:Wq} {l:Nat} {o:Obj} (hl:w.heap[l]? =some o) (ho:o.isCells=false):∀x:List Nc,RdNs w x->awayNs (some l) x
 | [],_=>by rw[awayNs];trivial
 |x::t,h=>by
  rw[RdNs] at h
  rw[awayNs]
  exact ⟨RdN.notObj hl ho x h.1,RdNs.notObj hl ho t h.2⟩
end
theorem ZcC {s l:Nat} {o:Obj} (h:w.ownsRow B e s v n xs) (D:w.heap[l]? =some o) (I:o.isCells=false):v.ownBlock≠some l:=by
 rcases h.2 with ⟨rfl,_⟩|⟨q,cap,F,rfl,_,H,_⟩
 ·simp[Value.ownBlock]
 ·intro A;simp only[Value.ownBlock,Y5] at A;subst A;rw[H] at D;cases D;cases I
theorem HNs.obj {w:Wq} {B l:Nat} {v:Value} {x:List Nc} {o o':Obj} (h:HNs w B v x) (A:w.heap[l]? =some o) (D:o.isCells=false):HNs (w.putObj l o') B v x:=
 h.grown (ZfB w l o') (ZcC h.row A D) (RdNs.notObj A D x h.rd)
def newNs (B:Nat) (l:List Nc):Prop:=∀k,k<B->awayNs (some k) l
theorem newNs.nil (B:Nat):newNs B []:=λk _=>by rw[awayNs];trivial
theorem newNs.snoc {B:Nat} {l:List Nc} {x:Nc} (h:newNs B l) (F:∀k,k<B->awayN (some k) x):newNs B (l++ [x]):=λk D=>(Yr _).2 λy A=>by
 rcases Zs.1 A with A|A
 ·exact (Yr l).1 (h k D) y A
 ·rw[Zo.1 A];exact F k D
theorem newNs.mono {B C:Nat} {l:List Nc} (h:newNs B l) (hc:C<=B):newNs C l:=λk A=>h k (YZ A hc)
theorem Zg5 {KB:Option Addr} {al:Value} (h:w.ownsRow C 88 4 al n xs) (D:B<=C):(∀k,k<B->awayN (some k) (leafC KB kc al f))/\(∀k,k<B->awayN (some k) (leafC2 KB kc al f)):=by
 refine ⟨λk A=> ?_,λk A=> ?_⟩
 ·unfold leafC;rw[awayN];exact ⟨Or.inr (Jq h om),Or.inl rfl,by rw[awayNs];trivial⟩
 ·unfold leafC2;rw[awayN];exact ⟨Or.inr (Jq h om),Or.inl rfl,by rw[awayNs];trivial⟩
def foldC (al ks:Value) (kids:List Nc) (s:ByteArray):Nc:= .mk 0 [] outlineL al [pairA (textL,lst s)] ks kids [] 0
theorem ZmK {al ks:Value} {kids:List Nc} {s:ByteArray} (D:∀y∈kids,y.kind=0):(foldC al ks kids s).nd=withP (elemN outlineL (Nc.nds kids)) [(textL,lst s)]:=by
 have A:elems (Nc.nds kids):=λy h=>by rw[Je] at h;obtain ⟨z,F,rfl⟩:=ZU.1 h;rw[Zfr];exact D z F
 unfold elemN foldC;rw[Jd A,Nc.nd];rfl
theorem ZmL {al ks:Value} {kids:List Nc} {s:ByteArray} (h:w.ownsRow B 88 4 al 1 (flatA [pairA (textL,lst s)])) (A:w.ownsRow C 25 7 ks kids.length (flatN kids)) (D:RdNs w kids):RdN w (foldC al ks kids s):=by
 unfold foldC;rw[RdN];exact ⟨RSl.of_own h,RSl.of_own A,D⟩
theorem ZkQ {D:Nat} {al ks:Value} {kids:List Nc} {s:ByteArray} {ys:List Value} (h:w.ownsRow B 88 4 al n xs) (I:D<=B) (F:w'.ownsRow C 25 7 ks m ys) (J:D<=C) (H:newNs D kids):∀k,k<D->awayN (some k) (foldC al ks kids s):=λk A=>by
 unfold foldC;rw[awayN];exact ⟨Or.inr (Jq h om),Or.inr (Jq F om),H k A⟩
theorem Zlj {s:ByteArray} (h:s.toList.isEmpty=true):s.size=0:=by
 rw[Yb] at h;rw[U0] at h;show s.data.size=0;rw[<-Array.length_toList,h];rfl
theorem Zlh {s:ByteArray} (h:s.toList.isEmpty=false):s.size≠0:=by
 rw[Yb] at h;intro e;have e:s.data.size=0:=e;rw[<-Array.length_toList] at e;rw[Zm e] at h;cases h
theorem ZjE (AB:Option Addr) (ac:Nat) (KB:Option Addr) (kc:Nat) (v:Value) (title id link:ByteArray) (w:Wq) (D:RAts w (.slice AB 3 ac) ([(typeL,rssL),(textL,lst title),(xmlUrlL,lst id)].map pairA)) (F:RStrs w v (pairS [(htmlUrlL,lst link)])):
 Calls prog 46 #[.agg #[nI 0,eS,.string ⟨#[111,117,116,108,105,110,101]⟩,.slice AB 3 ac,.slice KB 0 kc,eS,nI 0],v] w λe w'=>
  ∃A h,e= .returned (.agg #[nI 0,eS,.string ⟨#[111,117,116,108,105,110,101]⟩,.slice A 4 h,.slice KB 0 kc,eS,nI 0])/\w'.ownsRow w.heap.size 88 4 (.slice A 4 h) 4 (flatA ([(typeL,rssL),(textL,lst title),(xmlUrlL,lst id)].map pairA++ [(htmlUrlL,lst link)].map pairA))/\Ext w w':=
 Zas (.slice AB 3 ac) ([(typeL,rssL),(textL,lst title),(xmlUrlL,lst id)].map pairA) KB 0 kc v [(htmlUrlL,lst link)] w D F (by show 3+1<=1000000;omega)
theorem Zmc (KB:Option Addr) (n kc:Nat) (v:Value) (name:ByteArray) (w:Wq) (h:RStrs w v (pairS [(textL,lst name)])):
 Calls prog 46 #[.agg #[nI 0,eS,.string ⟨#[111,117,116,108,105,110,101]⟩,sN,.slice KB n kc,eS,nI 0],v] w λe w'=>
  ∃AB ac,e= .returned (.agg #[nI 0,eS,.string ⟨#[111,117,116,108,105,110,101]⟩,.slice AB 1 ac,.slice KB n kc,eS,nI 0])/\w'.ownsRow w.heap.size 88 4 (.slice AB 1 ac) 1 (flatA [pairA (textL,lst name)])/\Ext w w':=
 Zas sN [] KB n kc v [(textL,lst name)] w (RAts.nil w) h (by show 0+1<=1000000;omega)
def ownN (d:Nat) (l:List Fd):Nat:=(l.takeWhile λx=>decide (x.path.length=d)).length
def okT:Nat->Nat->List Fd->Prop
 |0,_,_=>False
 |f+1,d,l=>(∀x∈l.drop (ownN d l),d<x.path.length)/\∀(v:Value) (L:List Fc),L.map Fc.f=l.drop (ownN d l)->∀g∈grps d (L.length+1) v L,okT f (d+1) (g.l.map Fc.f)
theorem IK (d:Nat):∀(f:Nat) (v:Value) (l:List Fc),∀g∈grps d f v l,(∀y∈g.l,pathAt y.f d=g.name)/\g.l.Sublist l/\g.l≠ []
 |0,_,_,g,A=>by cases A
 |_+1,_,[],g,A=>by cases A
 |f+1,v,x::t,g,A=>by
  have F:0<runN d ((x::t).map Fc.f):=ZcM d x.f (t.map Fc.f)
  rw[grps] at A
  rcases ZH.1 A with rfl|A
  ·refine ⟨λy J=> ?_,List.take_sublist _ _,?_⟩
   ·have h:=Zbs x.f (t.map Fc.f) d y.f
    refine h ?_
    have D:y.f∈((x::t).take (runN d ((x::t).map Fc.f))).map Fc.f:=Yc J
    rw[List.map_take] at D
    exact D
   ·intro e
    have:=Zz List.length e
    rw[ZM] at this
    simp only[Zd,ZK] at this
    omega
  ·obtain ⟨H,D,I⟩:=IK d f _ _ g A
   exact ⟨H,D.trans (List.drop_sublist _ _),I⟩
theorem Znn:∀(f d:Nat) (path:List ByteArray) (l:List Fd),path.length=d->65<=f+d->(f=0->l≠ [])->asc l->(∀x∈l,Pref path x/\x.path.length<=64)->okT f d l
 |0,d,path,l,hd,hf,hn,hs,hl=>by
  cases l with
  |nil=>exact absurd rfl (hn rfl)
  |cons x t=>
   have F:=(hl x Zx).1.len
   have H:=(hl x Zx).2
   omega
 |f+1,d,path,l,hd,hf,hn,hs,hl=>by
  have J:=Qb hd hs λx D=>(hl x D).1
  rw[okT]
  refine ⟨J.2,λv L Q g R=> ?_⟩
  obtain ⟨F,H,K⟩:=IK d _ v L g R
  have I:(g.l.map Fc.f).Sublist (l.drop (ownN d l)):=by rw[<-Q];exact H.map _
  refine Znn f (d+1) (path++ [g.name]) _ (by rw[Zb,hd];rfl) om (λ_=>by simpa using K) (UD (I.trans (List.drop_sublist _ _)) hs) λx D=> ?_
  have h:=I.subset D
  have A:=Yq h
  refine ⟨?_,(hl x A).2⟩
  obtain ⟨y,S,rfl⟩:=ZU.1 D
  rw[<-F y S]
  exact (hl y.f A).1.next hd (J.2 _ h)
theorem ZoI {l:List Fd} (h:okA l=true):okT 66 0 l:=
 Znn 66 0 [] l rfl om (λe=>by cases e) (Zbo h) λx A=>⟨⟨x.path,rfl⟩,(ZjX (XW.1 ((JM.1 h).1 x A)).1).2.2⟩
structure OutI (d:Nat) (l:List Fc) (w:Wq) (v0:Value) (j:Nat) (u:Value) (O:List Nc) (wr:Wq):Prop where
 left:RFcs w v0 (l.drop j)
 le:j<=l.length
 dcell:wr.heap[w.heap.size]? =some (.cells #[nI (d:Nat)] 3 (0,0))
 ucell:wr.heap[w.heap.size+1]? =some (.cells #[u] 23 (0,0))
 nodes:HNs wr (w.heap.size+2) u O
 nds:Nc.nds O=((l.take j).map Fc.f).map feedN
 kinds:∀y∈O,y.kind=0
 ext:Ext w wr
 size:w.heap.size+2<=wr.heap.size
 own:ownN d (l.map Fc.f)=j+(((l.map Fc.f).drop j).takeWhile λx=>decide (x.path.length=d)).length
 new:newNs (w.heap.size+2) O
theorem OutI.next {d j:Nat} {l:List Fc} {w D:Wq} {v0 I u u8:Value} {O:List Nc} {wr:Wq} {x:Fc} {y:Nc} (h:OutI d l w v0 j u O wr) (F:j<l.length) (U:l[j]=x) (X:RFcs w I (l.drop (j+1)))
 (J:D.heap[w.heap.size]? =some (.cells #[nI (d:Nat)] 3 (0,0))) (Q:D.heap[w.heap.size+1]? =some (.cells #[u] 23 (0,0))) (S:HNs D (w.heap.size+2) u8 (O++ [y])) (hy:y.nd=feedN x.f) (V:y.kind=0) (R:Ext w D)
 (Z:w.heap.size+2<=D.heap.size) (Y:x.f.path.length=d) (K:∀k,k<w.heap.size+2->awayN (some k) y):OutI d l w I (j+1) u8 (O++ [y]) (D.setCell ⟨w.heap.size+1,0,none⟩ u8):=by
 have A:=h.new.snoc K;refine ⟨X,F,(Z4 D ⟨w.heap.size+1,0,none⟩ w.heap.size _ (by show w.heap.size≠w.heap.size+1;omega)).trans J,Yh D (w.heap.size+1) 0 _ _ _ Q,S.cell (Jq S.row om) (A _ om),?_,?_,R.setCell (by show w.heap.size<=w.heap.size+1;omega) _,by simpa [World.setCell] using Z,?_,A⟩
 ·rw[JY,h.nds,Zr F,ZS,ZS,U]
  congr 1
  rw[Nc.nds,Nc.nds,hy];rfl
 ·intro z H;rcases Zs.1 H with H|H
  ·exact h.kinds z H
  ·rw[Zo.1 H];exact V
 ·rw[h.own];refine Zj7 (by rw[Zq];exact F) ?_;rw[Xn,U];simpa using Y
theorem OutI.ext_ {d j:Nat} {l:List Fc} {w:Wq} {v0 u:Value} {O:List Nc} {wr w':Wq} (h:OutI d l w v0 j u O wr) (A:Ext wr w'):OutI d l w v0 j u O w':=
 ⟨h.left,h.le,A.heap h.dcell,A.heap h.ucell,h.nodes.ext A,h.nds,h.kinds,h.ext.trans A,Zp h.size A.size,h.own,h.new⟩
theorem OutI.stop {d j:Nat} {l:List Fc} {w:Wq} {v0 u:Value} {O:List Nc} {wr:Wq} {x:Fc} (h:OutI d l w v0 j u O wr) (A:j<l.length) (F:l[j]=x) (D:x.f.path.length≠d):ownN d (l.map Fc.f)=j:=by
 rw[h.own];refine Zj8 (by rw[Zq];exact A) ?_;rw[Xn,F];simpa using D
theorem OutI.full {d j:Nat} {l:List Fc} {w:Wq} {v0 u:Value} {O:List Nc} {wr:Wq} (h:OutI d l w v0 j u O wr) (A:l.length<=j):ownN d (l.map Fc.f)=j:=by
 rw[h.own];exact Zn5 (by rw[Zq];exact A)
structure FolI (f d:Nat) (own:List Nd) (w:Wq) (cb db:Nat) (s:List Grp) (u:Value) (O:List Nc) (wr:Wq):Prop where
 ucell:wr.heap[w.heap.size+1]? =some (.cells #[u] 23 (0,0))
 dcell:wr.heap[w.heap.size]? =some (.cells #[nI (d:Nat)] 3 (0,0))
 nodes:HNs wr (w.heap.size+2) u O
 nds:Nc.nds O=own++s.map λg=>withP (elemN outlineL (outsP f (d+1) (g.l.map Fc.f))) [(textL,lst g.name)]
 kinds:∀y∈O,y.kind=0
 ext:Ext w wr
 size:w.heap.size+2<=wr.heap.size
 new:newNs (w.heap.size+2) O
 cb_:u.ownBlock≠some cb
 db_:u.ownBlock≠some db
 cbs:awayNs (some cb) O
 lts:w.heap.size+2<=cb/\w.heap.size+2<=db/\cb<wr.heap.size/\db<wr.heap.size
section
variable {f d cb db:Nat} {own:List Nd} {w wr:World} {s:List Grp} {u:Value} {O:List Nc}
theorem FolI.ext_ {w':Wq} (h:FolI f d own w cb db s u O wr) (A:Ext wr w'):FolI f d own w cb db s u O w':=
 ⟨A.heap h.ucell,A.heap h.dcell,h.nodes.ext A,h.nds,h.kinds,h.ext.trans A,Zp h.size A.size,h.new,h.cb_,h.db_,h.cbs,h.lts.1,h.lts.2.1,YZ h.lts.2.2.1 A.size,YZ h.lts.2.2.2 A.size⟩
theorem FolI.cell (h:FolI f d own w cb db s u O wr) (v:Value):FolI f d own w cb db s u O (wr.setCell ⟨cb,0,none⟩ v):=by
 have A:=h.lts;refine ⟨(Z4 wr ⟨cb,0,none⟩ (w.heap.size+1) _ (by show w.heap.size+1≠cb;omega)).trans h.ucell,(Z4 wr ⟨cb,0,none⟩ w.heap.size _ (by show w.heap.size≠cb;omega)).trans h.dcell,h.nodes.cell h.cb_ h.cbs,h.nds,h.kinds,h.ext.setCell (by show w.heap.size<=cb;omega) _,by simpa [World.setCell] using h.size,h.new,h.cb_,h.db_,h.cbs,by simpa [World.setCell] using A⟩
theorem Ext.putObj {a b:Wq} (h:Ext a b) {l:Nat} {o:Obj} (D:a.heap.size<=l):Ext a (b.putObj l o):=
 h.then ⟨rfl,rfl,rfl,by rw[World.putObj_size];exact Zc _,λk A=>X8 om⟩
theorem FolI.obj {l:Nat} {o o':Obj} (h:FolI f d own w cb db s u O wr) (A:wr.heap[l]? =some o) (F:o.isCells=false) (D:w.heap.size+2<=l):FolI f d own w cb db s u O (wr.putObj l o'):=
 ⟨(X8 om).trans h.ucell,(X8 om).trans h.dcell,h.nodes.obj A F,h.nds,h.kinds,h.ext.putObj om,by rw[World.putObj_size];exact h.size,h.new,h.cb_,h.db_,h.cbs,by rw[World.putObj_size];exact h.lts⟩
theorem FolI.next {D:Wq} {u8:Value} {g:Grp} {y:Nc} (h:FolI f d own w cb db s u O wr) (X:Ext w D) (R:D.heap[w.heap.size]? =some (.cells #[nI (d:Nat)] 3 (0,0))) (V:D.heap[w.heap.size+1]? =some (.cells #[u] 23 (0,0))) (Y:HNs D (w.heap.size+2) u8 (O++ [y]))
 (hy:y.nd=withP (elemN outlineL (outsP f (d+1) (g.l.map Fc.f))) [(textL,lst g.name)]) (S:y.kind=0) (hs:wr.heap.size<=D.heap.size) (J:∀k,k<wr.heap.size->awayN (some k) y) (Q:u8.ownBlock=u.ownBlock\/∀k,u8.ownBlock=some k->wr.heap.size<=k):
 FolI f d own w cb db (s++ [g]) u8 (O++ [y]) (D.setCell ⟨w.heap.size+1,0,none⟩ u8):=by
 have I:=h.lts;have Z:=h.size;have H:=h.new.snoc λk S=>J k om;have F:∀k,k<wr.heap.size->u.ownBlock≠some k->u8.ownBlock≠some k:=λk S U e=>by
  rcases Q with K|K
  ·exact U (by rw[<-K];exact e)
  ·have:=K k e;omega
 refine ⟨Yh D (w.heap.size+1) 0 _ _ _ V,(Z4 D ⟨w.heap.size+1,0,none⟩ w.heap.size _ (by show w.heap.size≠w.heap.size+1;omega)).trans R,Y.cell (Jq Y.row om) (H _ om),?_,?_,X.setCell (by show w.heap.size<=w.heap.size+1;omega) _,?_,H,F cb I.2.2.1 h.cb_,F db I.2.2.2 h.db_,?_,I.1,I.2.1,?_,?_⟩
 ·rw[JY,h.nds,ZS,Zt]
  congr 2
  rw[Nc.nds,Nc.nds,hy];rfl
 ·intro z A;rcases Zs.1 A with A|A
  ·exact h.kinds z A
  ·rw[Zo.1 A];exact S
 ·show _<=(D.setCell _ _).heap.size;simp[World.setCell];omega
 ·refine (Yr _).2 λz A=> ?_;rcases Zs.1 A with A|A
  ·exact (Yr O).1 h.cbs z A
  ·rw[Zo.1 A];exact J cb I.2.2.1
 ·simp[World.setCell];omega
 ·simp[World.setCell];omega
end
theorem FolI.start {f d j:Nat} {l:List Fc} {w W F:Wq} {v0 u:Value} {O:List Nc} (h:OutI d l w v0 j u O W) (D:Ext W F) (J:F.heap.size=W.heap.size+2):FolI f d (((l.take j).map Fc.f).map feedN) w W.heap.size (W.heap.size+1) [] u O F:=by
 have H:=h.size;have A:∀k,W.heap.size<=k->u.ownBlock≠some k:=λk I e=>by have:=(h.nodes.row.lt _ e).2;omega
 exact ⟨D.heap h.ucell,D.heap h.dcell,h.nodes.ext D,by rw[Z2,ZV];exact h.nds,h.kinds,h.ext.trans D,om,h.new,A _ (Zc _),A _ (Yu _),GY (w:=W) (λg e=>by injection e with e;omega) O h.nodes.rd,H,om,om,om⟩
theorem FolI.kp {f d cb db B:Nat} {own:List Nd} {w W W':Wq} {s:List Grp} {u:Value} {O:List Nc} (h:FolI f d own w cb db s u O W) (D:Keep W W' (w.heap.size+1) u.ownBlock):Stays B W W'/\KpF w.heap.size cb db W W':=by
 have K:=h.lts;have J:=h.size;refine ⟨λk o _ H hc=> ?_,D.os,D.tape,D.output,D.size,λk A=> ?_⟩
 ·have I:=ZcC h.nodes.row H hc;refine D.heap H (λe=> ?_) (λe=>I e.symm);subst e;rw[h.ucell] at H;cases H;cases hc
 ·have F:u.ownBlock≠some k:=by
   rcases A with A|A|A
   ·exact Jq h.nodes.row om
   ·rw[A];exact h.cb_
   ·rw[A];exact h.db_
  exact D.block k om om (λe=>F e.symm)
theorem ZaK (rec_:List Fd->List Nd) (d:Nat):∀(f g:Nat) (l:List Fd),l.length<f->l.length<g->foldsP rec_ d f l=foldsP rec_ d g l
 |0,_,l,h,_=>by omega
 |_,0,l,_,h=>by omega
 |f+1,g+1,[],_,_=>by rw[foldsP,foldsP]
 |f+1,g+1,x::t,hf,hg=>by
  have A:=IJ x t d
  rw[foldsP,foldsP]
  (try dsimp only)
  rw[ZaK rec_ d f g _ (by rw[Zk];rw[Zd] at hf|-;omega) (by rw[Zk];rw[Zd] at hg|-;omega)]
theorem FolI.done {f d j cb db:Nat} {l:List Fc} {w W:Wq} {v0 u:Value} {O:List Nc} (h:FolI f d (((l.take j).map Fc.f).map feedN) w cb db (grps d ((l.drop j).length+1) v0 (l.drop j)) u O W) (F:ownN d (l.map Fc.f)=j):Nc.nds O=outsP (f+1) d (l.map Fc.f):=by
 have D:(l.map Fc.f).takeWhile (λx=>decide (x.path.length=d))=(l.map Fc.f).take j:=by rw[<-F];exact YQ.1 (Xx _)
 have A:((l.map Fc.f).takeWhile λx=>decide (x.path.length=d)).length=j:=F;rw[h.nds,outsP,A,D,List.map_take]
 congr 1
 rw[<-List.map_drop,ZaK _ d _ ((l.drop j).length+1) _ (by rw[Zq,Zk,Zq];omega) (by rw[Zq];omega),Zcc _ d _ v0]
def zeroNc:Nc:= .mk 0 [] [] sN [] sN [] [] 0
theorem Zmh (w:Wq):RdN w zeroNc:=by
 unfold zeroNc;rw[RdN];exact ⟨RAts.nil w,RNs.nil w,by rw[RdNs];trivial⟩
theorem Zif (r:Option Nat):awayN r zeroNc:=by
 unfold zeroNc;rw[awayN];exact ⟨Or.inl rfl,Or.inl rfl,by rw[awayNs];trivial⟩
theorem Zd4:∀l:List Nc,(flatN l).length=l.length*7
 | []=>rfl
 |x::t=>by
  have e:flatN (x::t)=cellsN x++flatN t:=by unfold flatN;simp
  rw[e,Zb,J0,Zd4 t,Zd]
  omega
theorem HNs.put_last {w:Wq} {B g c:Nat} {O:List Nc} {y z:Nc} (h:HNs w B (.slice (some ⟨g,0,none⟩) (O.length+1) c) (O++ [z])) (Q:RdN w y) (J:awayN (some g) y):
 HNs (w.setCells g (O.length*7) (cellsN y)) B (.slice (some ⟨g,0,none⟩) (O.length+1) c) (O++ [y]):=by
 have F:=h.row;rw[Zb,V8,Vf,Vg] at F;have H:=Zhr (cellsN y) (O.length*7) w _ F (by rw[J0];omega);have I:=Zd4 O;rw[List.take_left' I,J0,ZC (by rw[Zb,I,J0];exact Zc _),ZV] at H;have K:=QO g (cellsN y) (O.length*7) w;have A:∀x∈O++ [y],RdN w x/\awayN (some g) x:=λx D=>by
  rcases Zs.1 D with D|D
  ·exact ⟨(XC _).1 h.rd x (ZeY _ D),(Yr _).1 h.away x (ZeY _ D)⟩
  ·rw[Zo.1 D];exact ⟨Q,J⟩
 refine ⟨?_,(XC _).2 λx D=>RdN.grown K x (A x D).1 (A x D).2,(Yr _).2 λx D=>(A x D).2⟩;rw[Zb,V8,Vf,Vg];exact H
theorem Ext.puts {a:Wq} {g:Nat} (A:a.heap.size<=g):∀(vs:List Value) (o:Nat) (b:Wq),Ext a b->Ext a (b.setCells g o vs)
 | [],_,_,h=>h
 |v::r,o,b,h=>Ext.puts A r (o+1) _ (h.setCell (by show a.heap.size<=g;exact A) v)
theorem Zmk {r:Option Nat} {D:Nat} (h:∀k,k<D->awayN (some k) y) (F:RdN w y) (A:∀k,r=some k->k<D):awayN r y:=by
 cases r with
 |none=>exact KL F
 |some k=>exact h k (A k rfl)
theorem FolI.leaf {f d cb db B A J:Nat} {own:List Nd} {w W R D:Wq} {s:List Grp} {u:Value} {O:List Nc} {G:Grp} {y:Nc} (h:FolI f d own w cb db s u O W) (X:Ext W R)
 (Q:D.ownsRow (w.heap.size+2) 25 7 (.slice (some ⟨A,0,none⟩) (O.length+1) J) (O.length+1) (flatN O++cellsN zeroNc)) (S:R.grownBy D u.ownBlock) (H:(Value.slice (some ⟨A,0,none⟩) (O.length+1) J).ownBlock=u.ownBlock\/(Value.slice (some ⟨A,0,none⟩) (O.length+1) J).ownBlock=some R.heap.size)
 (hy:RdN R y) (K:∀k,k<W.heap.size->awayN (some k) y) (hh:y.nd=withP (elemN outlineL (outsP f (d+1) (G.l.map Fc.f))) [(textL,lst G.name)]) (Z:y.kind=0):
 Stays B W ((D.setCells A (O.length*7) (cellsN y)).setCell ⟨w.heap.size+1,0,none⟩ (.slice (some ⟨A,0,none⟩) (O.length+1) J))/\KpF w.heap.size cb db W ((D.setCells A (O.length*7) (cellsN y)).setCell ⟨w.heap.size+1,0,none⟩ (.slice (some ⟨A,0,none⟩) (O.length+1) J))/\
  FolI f d own w cb db (s++ [G]) (.slice (some ⟨A,0,none⟩) (O.length+1) J) (O++ [y]) ((D.setCells A (O.length*7) (cellsN y)).setCell ⟨w.heap.size+1,0,none⟩ (.slice (some ⟨A,0,none⟩) (O.length+1) J)):=by
 have hr:=h.size;have hs:=X.size;have F:∀k,u.ownBlock=some k->w.heap.size+2<=k/\k<W.heap.size:=λk e=>h.nodes.row.lt k e;have ho:w.heap.size+2<=A:=(Q.lt A rfl).1;have ha:=h.nodes.ext X;have Y:awayN u.ownBlock y:=Zmk K hy λk e=>(F k e).2;have hb:=HNs.snoc ha (Zmh R) (Zif _) Q S H;have hn:RdN D y:=RdN.grown S y hy Y;have hd:awayN (some A) y:=by
  rcases H with e|e
  ·have V:some A=u.ownBlock:=e;rw[V];exact Y
  ·have V:some A=some R.heap.size:=e;rw[V];exact Ja hy (Zc _)
 have hc:=hb.put_last hn hd;have I:=QO A (cellsN y) (O.length*7) D;have hl:Ext w D:=Ext.app (h.ext.trans X) S ha.row om;have hm:=Ext.puts (a:=w) (g:=A) om (cellsN y) (O.length*7) D hl;have hp:=S.size;have hq:=I.size;have hi:D.heap[w.heap.size+1]? =some (.cells #[u] 23 (0,0)):=(S.block _ om (λe=>by have:=(F _ e.symm).1;omega)).trans (X.heap h.ucell);have he:D.heap[w.heap.size]? =some (.cells #[nI (d:Nat)] 3 (0,0)):=(S.block _ om (λe=>by have:=(F _ e.symm).1;omega)).trans (X.heap h.dcell);have hj:=(I.block (w.heap.size+1) om (λe=>by injection e with e;omega)).trans hi;have hf:=(I.block w.heap.size om (λe=>by injection e with e;omega)).trans he;have U:Keep W ((D.setCells A (O.length*7) (cellsN y)).setCell ⟨w.heap.size+1,0,none⟩ (.slice (some ⟨A,0,none⟩) (O.length+1) J)) (w.heap.size+1) u.ownBlock:=by
  refine ((((Keep.of_ext (w.heap.size+1) u.ownBlock X).trans (Keep.of_grown _ S) λk e=>Or.inl e).trans (Keep.of_grown _ I) λk e=> ?_).cell_ 0 _);injection e with e;subst e;rcases H with e|e
  ·exact Or.inl e.symm
  ·have V:some A=some R.heap.size:=e;injection V with V;exact Or.inr om
 obtain ⟨k1,k2⟩:=h.kp (B:=B) U;refine ⟨k1,k2,h.next hm hf hj hc hh Z om K ?_⟩;rcases H with e|e
 ·exact Or.inl e
 ·refine Or.inr λk Z=> ?_;rw[e] at Z;injection Z with Z;omega
theorem ZfL (w:Wq) (a b:Addr) (u v:Value) (h:a.block≠b.block):(w.setCell a u).setCell b v=(w.setCell b v).setCell a u:=by
 unfold World.setCell
 congr 1
 apply Array.ext
 ·simp
 ·intro k F H;simp only[Array.getElem_modify];by_cases D:b.block=k
  ·by_cases A:a.block=k
   ·omega
   ·simp[D,A]
  ·by_cases A:a.block=k
   ·simp[D,A]
   ·simp[D,A]
theorem Kv (g:Nat) (a:Addr) (u:Value) (h:a.block≠g):∀(vs:List Value) (o:Nat) (w:Wq),(w.setCell a u).setCells g o vs=(w.setCells g o vs).setCell a u
 | [],_,_=>rfl
 |v::r,o,w=>by
  show ((w.setCell a u).setCell ⟨g,o,none⟩ v).setCells g (o+1) r=_
  rw[ZfL w a ⟨g,o,none⟩ u v h,Kv g a u h r]
  rfl
theorem Znu {s:Nat} (h:w.ownsRow B e s v n xs) (F:0<n):∃g c,v= .slice (some ⟨g,0,none⟩) n c:=by
 rcases h.2 with ⟨rfl,D⟩|⟨g,cap,A,rfl,_⟩
 ·omega
 ·exact ⟨g,cap,rfl⟩
theorem FolI.len_ {f d cb db:Nat} {own:List Nd} {w wr:Wq} {s:List Grp} {u:Value} {O:List Nc} (h:FolI f d own w cb db s u O wr):O.length=own.length+s.length:=by
 have A:=Zz List.length h.nds;rw[Jw,Zb,Zq] at A;exact A
theorem Zb7 (rec_:List Fd->List Nd) (d:Nat):∀(f:Nat) (l:List Fd),(foldsP rec_ d f l).length<=l.length
 |0,l=>by rw[foldsP];exact Zj _
 |f+1,[]=>by rw[foldsP];exact Zc _
 |f+1,x::t=>by
  have h:=IJ x t d
  rw[foldsP]
  (try dsimp only)
  have ih:=Zb7 rec_ d f ((x::t).drop ((x::t).takeWhile λy=>decide (pathAt y d=pathAt x d)).length)
  rw[Zk] at ih
  rw[Zd] at ih|-
  rw[Zd] at*
  omega
theorem Zhp:∀(f d:Nat) (l:List Fd),(outsP f d l).length<=l.length
 |0,d,l=>by rw[outsP];exact Zj _
 |f+1,d,l=>by
  have h:=Zb7 (outsP f (d+1)) d (l.length+1) (l.drop (l.takeWhile λx=>decide (x.path.length=d)).length)
  have A:=(YE (λx:Fd=>decide (x.path.length=d)) (l:=l)).length_le
  rw[Zk] at h
  rw[outsP,Zb,Zq]
  omega
theorem ZgI (d:Nat):∀(f:Nat) (v:Value) (l:List Fc),(grps d f v l).length<=l.length
 |0,v,l=>by rw[grps];exact Zj _
 |f+1,v,[]=>by rw[grps];exact Zc _
 |f+1,v,x::t=>by
  have h:0<runN d ((x::t).map Fc.f):=ZcM d x.f (t.map Fc.f)
  rw[grps,Zd]
  have ih:=ZgI d f (loV (runN d ((x::t).map Fc.f)) v) ((x::t).drop (runN d ((x::t).map Fc.f)))
  rw[Zk] at ih
  rw[Zd] at ih|-
  omega
theorem ZlJ {s:Nat} (h:w.ownsRow B e s (.slice (some ⟨g,0,none⟩) n c) n xs) (J:j<n*s):(w.cell? ⟨g,j,none⟩).isSome=true/\w.frozen? ⟨g,j,none⟩=false:=by
 obtain ⟨g',D,A,I,F⟩:=Zjj h;injection A with A;subst A;refine ⟨?_,Z5 F j⟩;have K:=h.1;obtain ⟨u,H⟩:∃u,xs[j]? =some u:=⟨xs[j]'(om),Zh _⟩;have hc:=h.cells (g:=g) rfl j u H;rw[ZbB] at hc;rw[hc];rfl
end
end Go.Proofs.YtnlafkgkcnenfaaGreatDoor
