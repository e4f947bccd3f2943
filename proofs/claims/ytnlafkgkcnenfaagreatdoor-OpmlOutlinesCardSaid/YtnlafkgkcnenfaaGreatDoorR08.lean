/- Parts of the proof: contracts and plain laws. -/
import Derived.Test.YtnlafkgkcnenfaaGreatDoorR07
namespace Go.Proofs.YtnlafkgkcnenfaaGreatDoor
open Go Go.RowKit Tryz
set_option linter.unusedVariables false
set_option linter.unusedSimpArgs false
set_option maxRecDepth 100000
set_option maxHeartbeats 16000000
section
variable {b w:World} {base g n:Nat} {e:TypeId} {r:Option Nat} {v:Value} {xs:List Value}
attribute [local go_sem] calm1
theorem Xr {size:Nat} (h:w.ownsRow base e size v n xs) (F:g<base) (i:Nat) (u:Value):(w.setCell ⟨g,i,none⟩ u).ownsRow base e size v n xs:=by
 refine h.kept (row:=some g) ⟨rfl,rfl,rfl,by simp[World.setCell],λk _ A=>ZY w ⟨g,i,none⟩ k u (λe=>A (by rw[e]))⟩ (Or.inr λD=> ?_);have:=(h.lt g D).1;omega
theorem ZkA {size:Nat} (h:w.ownsRow base e size v n xs):v.oneCell'=true:=by
 rcases h.2 with ⟨rfl,_⟩|⟨g,cap,A,rfl,_⟩<;>rfl
theorem Z8 {size:Nat} (h:w.ownsRow base e size v n xs):∃A c,v= .slice A n c:=by
 rcases h.2 with ⟨rfl,rfl⟩|⟨g,cap,D,rfl,_⟩
 ·exact ⟨none,0,rfl⟩
 ·exact ⟨_,cap,rfl⟩
theorem BxT.grown {a:Wq} {x:Tc} (h:BxT a g x) (A:a.grownBy b r) (D:r≠some g):BxT b g x:=
 (A.block g (Zx.1 h).1 (λe=>D (by rw[<-e]))).trans h
theorem Zcp:(prog.info? 88).map (λi=>(i.zero,i.size,i.bytes))=some (some (.agg #[eS,eS,eS,nI 0]),4,56):=by kernel_rfl
theorem ZcK (s:ByteArray) (f:Nat) (w:Wq) (hs:s.size<=16777216) (hf:f+1<=s.size):
 Calls prog 144 #[.string s,nI (f:Nat)] w λe w'=>∃v,e= .returned v/\TokRet w.heap.size w' v (startP s.data.toList f)/\Ext w w':=by
 have hV:s.size<=maxLen:=by unfold maxLen;omega
 obtain ⟨i0,gA,gM,gN,gO⟩:=Yw Zcp;have hP:=ZL s;obtain ⟨R,hR⟩:∃R,startP s.data.toList f=R:=⟨_,rfl⟩;rw[hR];rw[IB s.data.toList f (by omega)] at hR;have HN:=gd (λw'=>QK s (f+1) w' hs hf);have hE:=Vd (s:=s.data.toList) (k:=f+1) (by omega);obtain ⟨E,ga⟩:∃E,nmAt s.data.toList (f+1)=E:=⟨_,rfl⟩;rw[ga] at HN hR hE;rw[hP] at hE;clear ga;rw[show ((f+1:Nat):Int)=(f:Int)+1 by omega] at HN;have hC:=gd (BxT.alloc2 w (nilT 0 0) (nilT 1 f));have hD:=gd (BxT.alloc1 w (nilT 0 0) (nilT 1 f));have hF:=gd (((Ext.refl w).alloc (.cells (cellsT (nilT 0 0)).toArray 111)).alloc (.cells (cellsT (nilT 1 f)).toArray 111));by_cases hp:E=f+1
 ·rw[Zl hp] at hR;have hb:((E:Int)==(f:Int)+1)=true:=by rw[JO];omega
  have HM:=gd (λw'=>Xs s f E w' hV);obtain ⟨x,c,ha⟩:∃x c,missP s.data.toList f E=(x,c):=⟨_,_,rfl⟩;rw[ha] at hR HM;subst hR;clear ha hp;go_enter func144,ntmps144
  go_wp2_with (first|(go_at_call 182;(with_reducible refine Za (HN.out _) ?_);rintro e w2 ⟨rfl,Q⟩;(have hc:=hC.out.ext Q);(have Y:=hD.out.ext Q);(obtain ⟨b0,b1,b2,b3,b4,b5,b6,b7,b8⟩:=hc.cells))|(go_at_call 184;(with_reducible refine Za (HM.out _) ?_);rintro e w3 ⟨rfl,rfl⟩)|(refine Zc rfl 111 (.tmp 4) (.tmp 37) rfl w.heap.size _ rfl rfl _ _ Y Z6 rfl (Xg (nilT 1 f) rfl) ?_))
  ((try simp only[Exit.inBlock,Exit.then]);refine Zn (Zr rfl _ _ _ _ _ _ _ rfl (Zp _ _ _ _ _ _ Y) underlying111 rfl Z6) rfl ?_);exact ⟨_,rfl,⟨nilT 1 f,rfl,rfl⟩,(hF.out.trans Q).setRow (Zb _) _⟩
 ·rw[Zg hp] at hR;have hb:((E:Int)==(f:Int)+1)=false:=by rw[ZC];omega
  obtain ⟨I,hL⟩:∃I,(s.data.toList.drop (f+1)).take (E - (f+1))=I:=⟨_,rfl⟩;have gG:=IC s (f+1) E ((f:Int)+1) (E:Nat) I (by omega) rfl hE.1 hE.2 hL;rw[hL] at hR;have HR:=gd hR;clear hp hL hR;go_enter func144,ntmps144
  go_wp2_with (first|(go_at_call 182;(with_reducible refine Za (HN.out _) ?_);rintro e w2 ⟨rfl,Q⟩;(have hc:=hC.out.ext Q);(have Y:=hD.out.ext Q);(obtain ⟨b0,b1,b2,b3,b4,b5,b6,b7,b8⟩:=hc.cells)))
  have h8:=hc.name I;have ge:BxT (w2.setCell ⟨w.heap.size+1,1,none⟩ (.string (str I))) w.heap.size _:=Y.other (by omega);have gh:=(hF.out.trans Q).setCell (p:=⟨w.heap.size+1,1,none⟩) (by show _<=w.heap.size+1;omega) (.string (str I));have gg:w.heap.size+2<=w2.heap.size:=by have h1:=Q.size;rw[Zt,Zt] at h1;omega
  clear b0 b1 b2 b3 b4 b5 b6 b7 b8 hc Y hC hD hF gG hb;go_loopw [8] (λv wr=>∃(k:Nat) (l:List AtP) (al:Value),k<=s.size/\v=nI k/\Hid (startAt s.data.toList f I k l=R)/\BxT wr (w.heap.size+1) ⟨al,⟨1,I,l,false,[],f⟩⟩/\BxT wr w.heap.size (nilT 0 0)/\wr.ownsRow (w.heap.size+2) 88 4 al l.length (flatA l)/\Ext w wr/\w.heap.size+2<=wr.heap.size/\Hid (l.length<=k)) (λv _=>s.size - (intOf v).toNat)
  case atStart=>exact ⟨E,[],sN,hE.2,rfl,HR,h8,ge,YO _ _ _ _,gh,by simpa using gg,Zh _⟩
  case round=>
   clear h8 ge gh gg;obtain ⟨k,l,al,hk,rfl,hr,hB,J,H,hx,gW,hh⟩:=hrel;have D:=hr.out;rw[GY s.data.toList f I k l (by omega)] at D;have X:=gd (λw'=>Um s k w' hs hk);have hN:=UF (s:=s.data.toList) (k:=k) (by omega);have gC:=Vj s.data.toList k;obtain ⟨N,gb⟩:∃N,spAt s.data.toList k=N:=⟨_,rfl⟩;rw[gb] at X D hN gC;rw[hP] at hN;clear gb hr;have HA:=gd (λw'=>Y7 s [62] N w' hs (by omega) (by decide) (by decide));have U:=gd (λw'=>Y7 s [47,62] N w' hs (by omega) (by decide) (by decide));have HC:=gd (λw'=>Y7 s [47] N w' hs (by omega) (by decide) (by decide));obtain ⟨b0,b1,b2,b3,b4,b5,b6,b7,b8⟩:=hB.cells;have F:=ZkA H;dsimp only at b0 b1 b2 b3 b4 b5;cases h1:hasAt s.data.toList N [62] with
   |true=>
    rw[h1,Zl rfl] at D;rw[h1] at HA;subst D;clear h1
    go_wp2_with (first|(go_at_call 183;(with_reducible refine Za (X.out _) ?_);rintro e w3 ⟨rfl,rfl⟩)|(go_at_call 98;(first|(with_reducible refine Za (HA.out _) ?_)|(with_reducible refine Za (U.out _) ?_)|(with_reducible refine Za (HC.out _) ?_));rintro e w3 ⟨rfl,rfl⟩)|(refine Zc rfl 111 (.tmp 4) (.tmp 53) rfl w.heap.size _ rfl rfl _ _ J Z6 rfl (Xg ⟨al,⟨1,I,l,false,[],f⟩⟩ F) ?_))
    ((try simp only[Exit.inBlock,Exit.then]);refine Zn (Zr rfl _ _ _ _ _ _ _ rfl (Zp _ _ _ _ _ _ J) underlying111 rfl Z6) rfl ?_);exact ⟨_,rfl,⟨al,rfl,RSl.of_own (Jv H (by omega) _),(λg hg=>by have:=XL H g hg;omega)⟩,hx.setRow (Zb _) _⟩
   |false=>
    rw[h1,Zg (by simp)] at D;rw[h1] at HA;clear h1;cases h2:hasAt s.data.toList N [47,62] with
    |true=>
     rw[h2,Zl rfl] at D;rw[h2] at U;subst D;have hc:=hB.empty true;have Y:BxT (wr.setCell ⟨w.heap.size+1,3,none⟩ (.bool true)) w.heap.size _:=J.other (by omega);have hY:=Xr H (g:=w.heap.size+1) (by omega) 3 (.bool true);have Q:=hx.setCell (p:=⟨w.heap.size+1,3,none⟩) (by show _<=w.heap.size+1;omega) (.bool true);obtain ⟨c0,c1,c2,c3,c4,c5,c6,c7,c8⟩:=hc.cells;dsimp only at c0 c1 c2 c3 c4 c5;clear h2
     go_wp2_with (first|(go_at_call 183;(with_reducible refine Za (X.out _) ?_);rintro e w3 ⟨rfl,rfl⟩)|(go_at_call 98;(first|(with_reducible refine Za (HA.out _) ?_)|(with_reducible refine Za (U.out _) ?_)|(with_reducible refine Za (HC.out _) ?_));rintro e w3 ⟨rfl,rfl⟩)|(refine Zc rfl 111 (.tmp 4) (.tmp 61) rfl w.heap.size _ rfl rfl _ _ Y Z6 rfl (Xg ⟨al,⟨1,I,l,true,[],f⟩⟩ F) ?_))
     ((try simp only[Exit.inBlock,Exit.then]);refine Zn (Zr rfl _ _ _ _ _ _ _ rfl (Zp _ _ _ _ _ _ Y) underlying111 rfl Z6) rfl ?_);exact ⟨_,rfl,⟨al,rfl,RSl.of_own (Jv hY (by omega) _),(λg hg=>by have:=XL H g hg;omega)⟩,Q.setRow (Zb _) _⟩
    |false=>
     rw[h2,Zg (by simp)] at D;rw[h2] at U;clear h2;cases h3:hasAt s.data.toList N [47] with
     |true=>
      have gS:=Xy h3;rw[h3,Zl rfl] at D;rw[h3] at HC;have HM:=gd (λw'=>Xs s f (N+1) w' hV);rw[show ((N+1:Nat):Int)=(N:Int)+1 by omega] at HM;obtain ⟨x,c,ha⟩:∃x c,missP s.data.toList f (N+1)=(x,c):=⟨_,_,rfl⟩;rw[ha] at D HM;subst D;clear ha h3
      go_wp2_with (first|(go_at_call 183;(with_reducible refine Za (X.out _) ?_);rintro e w3 ⟨rfl,rfl⟩)|(go_at_call 98;(first|(with_reducible refine Za (HA.out _) ?_)|(with_reducible refine Za (U.out _) ?_)|(with_reducible refine Za (HC.out _) ?_));rintro e w3 ⟨rfl,rfl⟩)|(go_at_call 184;(with_reducible refine Za (HM.out _) ?_);rintro e w3 ⟨rfl,rfl⟩)|(refine Zc rfl 111 (.tmp 4) (.tmp 76) rfl w.heap.size _ rfl rfl _ _ J Z6 rfl (Xg ⟨al,⟨1,I,l,false,[],f⟩⟩ F) ?_))
      ((try simp only[Exit.inBlock,Exit.then]);refine Zn (Zr rfl _ _ _ _ _ _ _ rfl (Zp _ _ _ _ _ _ J) underlying111 rfl Z6) rfl ?_);exact ⟨_,rfl,⟨⟨al,⟨1,I,l,false,[],f⟩⟩,rfl,F⟩,hx.setRow (Zb _) _⟩
     |false=>
      rw[h3,Zg (by simp)] at D;rw[h3] at HC;clear h3;by_cases hu:N=k
      ·rw[Zl hu] at D;have gj:((N:Int)==(k:Int))=true:=(by rw[JO];omega);have HM:=gd (λw'=>Xs s f k w' hV);obtain ⟨x,c,ha⟩:∃x c,missP s.data.toList f k=(x,c):=⟨_,_,rfl⟩;rw[ha] at D HM;subst D;clear ha hu
       go_wp2_with (first|(go_at_call 183;(with_reducible refine Za (X.out _) ?_);rintro e w3 ⟨rfl,rfl⟩)|(go_at_call 98;(first|(with_reducible refine Za (HA.out _) ?_)|(with_reducible refine Za (U.out _) ?_)|(with_reducible refine Za (HC.out _) ?_));rintro e w3 ⟨rfl,rfl⟩)|(go_at_call 184;(with_reducible refine Za (HM.out _) ?_);rintro e w3 ⟨rfl,rfl⟩)|(refine Zc rfl 111 (.tmp 4) (.tmp 90) rfl w.heap.size _ rfl rfl _ _ J Z6 rfl (Xg ⟨al,⟨1,I,l,false,[],f⟩⟩ F) ?_))
       ((try simp only[Exit.inBlock,Exit.then]);refine Zn (Zr rfl _ _ _ _ _ _ _ rfl (Zp _ _ _ _ _ _ J) underlying111 rfl Z6) rfl ?_);exact ⟨_,rfl,⟨⟨al,⟨1,I,l,false,[],f⟩⟩,rfl,F⟩,hx.setRow (Zb _) _⟩
      ·rw[Zg hu] at D;have gj:((N:Int)==(k:Int))=false:=(by rw[ZC];omega);clear hu;have hd:=gd (λw'=>Zej s f N w' hs (by omega) hN);cases M:attrP s.data.toList f N with
       |error xc=>
        obtain ⟨x,c⟩:=xc;have gz:=Zbd M;have gT:((c:Int) !=0)=true:=(by rw[YU];omega);rw[M] at D hd;dsimp only at D;subst D;clear M gz
        go_wp2_with (first|(go_at_call 183;(with_reducible refine Za (X.out _) ?_);rintro e w3 ⟨rfl,rfl⟩)|(go_at_call 98;(first|(with_reducible refine Za (HA.out _) ?_)|(with_reducible refine Za (U.out _) ?_)|(with_reducible refine Za (HC.out _) ?_));rintro e w3 ⟨rfl,rfl⟩)|(go_at_call 185;(with_reducible refine Za (hd.out _) ?_);rintro e w5 ⟨v5,rfl,⟨a5,rfl⟩,hl⟩;simp only[cellsA];(have S:=hl.alloc (.cells #[.string (str a5.space),.string (str a5.name),.string (str a5.value),nI (a5.at_:Nat)] 88));(have hn:=hB.ext S);(have he:=J.ext S);(obtain ⟨c0,c1,c2,c3,c4,c5,c6,c7,c8⟩:=hn.cells))|(refine Zc rfl 111 (.tmp 4) (.tmp 103) rfl w.heap.size _ rfl rfl _ _ he Z6 rfl (Xg ⟨al,⟨1,I,l,false,[],f⟩⟩ F) ?_))
        ((try simp only[Exit.inBlock,Exit.then]);refine Zn (Zr rfl _ _ _ _ _ _ _ rfl (Zp _ _ _ _ _ _ he) underlying111 rfl Z6) rfl ?_);exact ⟨_,rfl,⟨⟨al,⟨1,I,l,false,[],f⟩⟩,rfl,F⟩,(hx.trans S).setRow (Zb _) _⟩
       |ok ae=>
   obtain ⟨⟨sp,an,av,gw⟩,e⟩:=ae;obtain ⟨gD,hT,hO,gm⟩:=Qs (by omega) M;rw[hP] at hT;dsimp only at hO gm;have gi:N=gw:=hO.symm;clear hO;subst gi;subst gm;rw[M] at D hd;dsimp only at D;obtain ⟨A,c,rfl⟩:=Z8 H;have gc:k<e:=(by omega);have HE:=gd (show e<=s.size/\k<e/\l.length+1<=e from ⟨hT,gc,by have:=hh.out;omega⟩);have hm:=gd D;clear M gD hT D gc
   go_wp2_with (first|(go_at_call 183;(with_reducible refine Za (X.out _) ?_);rintro e w3 ⟨rfl,h3⟩;(have hH:=h3.symm);clear h3;subst hH)|(go_at_call 98;(first|(with_reducible refine Za (HA.out _) ?_)|(with_reducible refine Za (U.out _) ?_)|(with_reducible refine Za (HC.out _) ?_));rintro e w3 ⟨rfl,h3⟩;(have hH:=h3.symm);clear h3;subst hH)|(go_at_call 185;(with_reducible refine Za (hd.out _) ?_);rintro e5 w5 ⟨v5,rfl,hQ,hl⟩;(replace hQ:v5=_:=hQ);subst hQ;simp only[cellsA]))
   obtain ⟨wP,gJ⟩:∃wP:Wq,wP=wr:=⟨_,rfl⟩;subst gJ;obtain ⟨W,hW⟩:∃W,w5.alloc (.cells #[.string (str []),.string (str an),.string (str av),nI (N:Nat)] 88)=W:=⟨_,rfl⟩;have S:Ext wP W:=(by rw[<-hW];exact hl.alloc _);have hI:BxA W w5.heap.size ⟨[],an,av,N⟩:=(by rw[<-hW];exact Zf _ _);rw[hW];have hn:=hB.ext S;have he:=J.ext S;have hZ:=Yh H S;have gn:=hx.trans S;have gE:=S.size;obtain ⟨g5,gk⟩:∃g,w5.heap.size=g:=⟨_,rfl⟩;have gq:=gd (show w.heap.size+2<=g5 by have:=hl.size;omega);rw[gk] at hI|-;clear hW gk hl S b0 b1 b2 b3 b4 b5 b6 b7 b8 hB J H hx X HA U HC hd gj;go_loopw [19] (λv w7=>∃i:Nat,i<=l.length/\v=nI i/\Hid (∀t,t<i->∀ht:t<l.length,l[t].name≠an)/\Ext W w7) (λv _=>l.length - (intOf v).toNat)
   case atStart=>exact ⟨0,Zh _,rfl,(by intro t ht;omega),Ext.refl _⟩
   case round=>
    obtain ⟨i,hi,rfl,hX,Z⟩:=hrel;have gV:l.length<=16777216:=(by have:=hh.out;omega);have ho:=hn.ext Z;have hM:=he.ext Z;have hJ:=hI.ext Z;have V:=Yh hZ Z;obtain ⟨b0,b1,b2,b3,b4,b5,b6,b7,b8⟩:=ho.cells;dsimp only at b0 b1 b2 b3 b4 b5;obtain ⟨a0,a1,a2,a3, -⟩:=hJ.cells;dsimp only at a0 a1 a2 a3;by_cases hU:i<l.length
    ·obtain ⟨ad,c',hv,M⟩:=RAts.at (RSl.of_own V) hU;injection hv with hv1 hv2 hv3;subst hv1;clear hv2 hv3;obtain ⟨x,h4⟩:∃x,l[i]=x:=⟨_,rfl⟩;rw[h4] at M;have e1:=M.c1;have gQ:(0:Int)<=(i:Int):=(by omega);have gU:(i:Int)<(l.length:Int):=(by omega);have q2:∀d:Aft wr,d.w.cell? ⟨w.heap.size+1,2,none⟩=some (.slice (some ad) l.length c):=Aft.cell b2;have q1:∀d:Aft wr,d.w.cell? ⟨(ad.add (i*4)).block,(ad.add (i*4)).off+1,none⟩=some (.string (str x.name)):=Aft.cell e1;have qa:∀d:Aft wr,d.w.cell? ⟨g5,1,none⟩=some (.string (str an)):=Aft.cell a1;have hG:=gd h4;clear h4 M e1;cases hid:((str x.name).toList==(str an).toList) with
     |true=>
      have gy:R= .error (N,10):=by
       have h0:=hm.out;rw[Zl ?_] at h0
       ·exact h0.symm
       ·rw[Xu];refine ⟨x,by rw[<-hG.out];exact Zz hU,?_⟩;have h1:str x.name=str an:=toList_inj (by simpa using hid);have h2:=Zy (λz:ByteArray=>z.data.toList) h1;simp only[Ya] at h2;simpa using h2
      subst gy;clear hm hG;go_wp2;refine rA ?_
      repeat (first|go_big_quiet_step (skip)|quiet_step (skip))
      refine Z5 ?_;rintro _ ⟨d1,rfl⟩;have gK:=Z.trans d1.ext;clear q1 q2 qa b0 b1 b2 b3 b4 b5 b6 b7 b8 a0 a1 a2 a3 hid ho hM hJ;go_wp2;have hA:=gK.drew;have gf:=he.ext hA;obtain ⟨p0,p1,p2,p3,p4,p5, -, -, -⟩:=(hn.ext hA).cells;dsimp only at p0 p1 p2 p3 p4 p5;have pa:d1.w.drew.cell? ⟨g5,3,none⟩=some (nI (N:Nat)):=(hI.ext hA).cells.2.2.2.1;have hz:g5≠w.heap.size:=(by have:=gq.out;omega);have pb:=(ZV (a:=⟨g5,3,none⟩) (Z1 d1.w.drew w.heap.size g5 (cellsT ⟨.slice (some ad) l.length c,⟨1,I,l,false,[],f⟩⟩).toArray hz)).trans pa;refine rN ?_;change wpAny _ _ _ _ _ _ _ (World.drew _);refine tH 1 (.pointer (some ⟨g5,3,none⟩)) ?_;refine Y8 (i:=2) (v:=nI (N:Nat)) (λw'=>w'.cell? ⟨g5,3,none⟩=some (nI (N:Nat))) 4 rfl (by kernel_rfl) (λ_ _ _ h=>h) (Or.inl ⟨by rfl,λw' hS=>by have hq:w'.cell? ⟨g5,3,none⟩=some (nI (N:Nat)):=hS;go_simp⟩) pa ?_;go_simp;refine Y1 4 [5] (AtIx.cons rfl (AtIx.cons rfl AtIx.nil)) [0,3] (AtIx.cons rfl (AtIx.cons rfl AtIx.nil)) rfl (by kernel_rfl) ?_;refine (ZR ?_:wpListS _ _ _ _ _ (_::_) _ _);intro K hK;go_simp;refine hK _ _ pa ?_;clear hK K;refine (ZR ?_:wpListS _ _ _ _ _ (_::_) _ _);intro K hK;refine Yj rfl 111 (.tmp 4) (.tmp 122) rfl w.heap.size _ rfl rfl _ _ gf Z6 rfl (Xg ⟨.slice (some ad) l.length c,⟨1,I,l,false,[],f⟩⟩ rfl) ?_;refine hK _ _ pb ?_;clear hK K;refine Y2 ?_;clear p0 p1 p2 p3 p4 p5 pa pb;go_wp2;((try simp only[Exit.inBlock,Exit.then]);refine Zn (Zr rfl _ _ _ _ _ _ _ rfl (Zp _ _ _ _ _ _ gf) underlying111 rfl Z6) rfl ?_);exact ⟨_,rfl,⟨⟨.slice (some ad) l.length c,⟨1,I,l,false,[],f⟩⟩,rfl,rfl⟩,(gn.trans hA).setRow (Zb _) _⟩
     |false=>
      have hz:x.name≠an:=(by intro h;rw[h] at hid;simp at hid);have gs:=gd hz;clear hz;go_wp2;refine rA ?_
      repeat (first|go_big_quiet_step (skip)|quiet_step (skip))
      refine Z5 ?_;rintro _ ⟨d1,rfl⟩;clear q1 q2 qa;go_wp2;go_roundw
      case rel=>
       refine ⟨i+1,by omega,by go_num,?_,Z.trans d1.ext⟩;intro t ht gI;by_cases gH:t<i
       ·exact hX.out t gH gI
       ·have:t=i:=(by omega);subst this;rw[hG.out];exact gs.out
      case measure=>simp[intOf];omega
    ·have gB:i=l.length:=(by omega);subst gB;have gR:¬(l.length:Int)<(l.length:Int):=(by omega);have gt:Hid (startAt s.data.toList f I e (l++ [⟨[],an,av,N⟩])=R):=by
      have h0:=hm.out;rw[Zg ?_] at h0
      ·exact h0
      ·intro h;obtain ⟨y,hy,gL⟩:=Xu.1 h;obtain ⟨t,ht,rfl⟩:=List.getElem_of_mem hy;exact hX.out t ht ht (by simpa using gL)
     have h5:=gd V;have go:=gd ho;have gu:=gd hM;have gr:=gd (show l.length+1<=maxLen by have:=hh.out;unfold maxLen;omega);have gp:=gd (show (l.length+1)*56<=140737488355328 by have:=hh.out;omega);have gF:=Z.size;have h6:=gd (show w.heap.size+2<=wr.heap.size+1 by omega);have gl:=XL V;clear hm hX V ho hM hJ hh hi hU gE gF
     go_wp2_with (first|(at_builtin;refine ZH _ rfl (.tmp 126) (.tmp 128) _ rfl (w.heap.size+2) 88 i0 _ 4 56 underlying22 gA gM gN gO rfl (by decide) _ _ _ rfl (h5.out.alloc _) _ 1 (cellsA ⟨[],an,av,N⟩) rfl (Yp rfl (by decide)) (J7 _) gr.out gp.out ?_ ?_;(rw[Zt];exact h6.out);intro v9 w9 hj hw gP;(obtain ⟨A9,c9,rfl⟩:=Z8 hj);(have h9:=(go.out.ext ((Ext.refl _).alloc _)).grown hw (λe=>by have:=gl _ e;omega));(have gx:=(gu.out.ext ((Ext.refl _).alloc _)).grown hw (λe=>by have:=gl _ e;omega));(obtain ⟨c0,c1,c2,c3,c4,c5,c6,c7,c8⟩:=h9.cells)))
     go_roundw
     case rel=>
      have hE:=HE.out;refine ⟨e,l++ [⟨[],an,av,N⟩],_,hE.1,rfl,gt,h9.attrs _ _,gx.other (by omega),?_,?_,?_,?_⟩
      ·rw[QZ,Q7,Zd];exact Xr hj (by omega) _ _
      ·exact (Ext.app ((gn.trans Z).alloc _) hw (h5.out.alloc _) (by omega)).setCell (by show _<=w.heap.size+1;omega) _
      ·have:=hw.size;rw[Zt] at this;have h7:=h6.out;show _<=(w9.setCell ⟨w.heap.size+1,2,none⟩ (.slice A9 (l.length+1) c9)).heap.size;rw[show (w9.setCell ⟨w.heap.size+1,2,none⟩ (.slice A9 (l.length+1) c9)).heap.size=w9.heap.size by simp[World.setCell]];omega
      ·rw[Zd];exact hE.2.2
     case measure=>have hE:=HE.out;simp[intOf];omega
end
section
variable {r:Option Nat} {v:Value} {w w':World}
theorem BxT.alloc0 (w:Wq) (x:Tc):BxT (w.alloc (.cells (cellsT x).toArray 111)) w.heap.size x:=Zf w _
theorem RAts.grown {l:List AtP} (h:RAts w v l) (D:w.grownBy w' r) (H:∀g,v.ownBlock=some g->r≠some g):RAts w' v l:=by
 by_cases F:flatA l= []
 ·exact RSl.grown h D (Or.inl F)
 ·obtain ⟨g,A,_⟩:=RSl.old h F;exact RSl.grown h D (Or.inr (by rw[A];exact λe=>H g A e.symm))
theorem RAts.one {l:List AtP} (h:RAts w v l):v.oneCell'=true:=by
 obtain ⟨A,c,e,_⟩:=h.form;rw[e];rfl
theorem Vz (s:ByteArray) (f:Nat) (w:Wq) (hs:s.size<=16777216) (hf:f<s.size):
 Calls prog 99 #[.string s,nI (f:Nat)] w λe w'=>∃v,e= .returned v/\TokRet w.heap.size w' v (constructP s.data.toList f)/\Ext w w':=by
 have hq:s.size<=maxLen:=by unfold maxLen;omega
 have hd:=ZL s;obtain ⟨R,H⟩:∃R,constructP s.data.toList f=R:=⟨_,rfl⟩;rw[H];unfold constructP at H;have I:=gd (BxT.alloc0 w (nilT 0 0));have Z:=gd ((Ext.refl w).alloc (.cells (cellsT (nilT 0 0)).toArray 111));have K:=gd (λw'=>Y7 s [60,63] f w' hs (by omega) (by decide) (by decide));have M:=gd (λw'=>Y7 s [60,33,45,45] f w' hs (by omega) (by decide) (by decide));have Q:=gd (λw'=>Y7 s [60,33,91,67,68,65,84,65,91] f w' hs (by omega) (by decide) (by decide));have S:=gd (λw'=>Y7 s [60,33,68,79,67,84,89,80,69] f w' hs (by omega) (by decide) (by decide));have U:=gd (λw'=>Y7 s [60,33] f w' hs (by omega) (by decide) (by decide));have V:=gd (λw'=>Y7 s [60,47] f w' hs (by omega) (by decide) (by decide));have X:=gd (λw'=>Y7 s [60] f w' hs (by omega) (by decide) (by decide));cases hh0:hasAt s.data.toList f [60,63] with
 |true=>
  rw[hh0,Zl rfl] at H;rw[hh0] at K;have ha:f+2<=s.size:=by have:=Xy hh0;rw[hd] at this;simpa using this
  have A:=λw'=>QL s f [60,63] [63,62] w' hs ha (by decide) (by decide);rw[show ([60,63]:List UInt8).length=2 from rfl] at A;cases hsk:skipP s.data.toList f 2 [63,62] with
  |error xc=>
   obtain ⟨x,c⟩:=xc;rw[hsk] at H A;dsimp only at H A;subst H;have hc:=UO hsk;have hb:=gd A;clear hsk hc A hh0;go_enter func99,ntmps99
   go_wp2_with (first|(go_at_call 98;(first|(with_reducible refine Za (K.out _) ?_)|(with_reducible refine Za (M.out _) ?_)|(with_reducible refine Za (Q.out _) ?_)|(with_reducible refine Za (S.out _) ?_)|(with_reducible refine Za (U.out _) ?_)|(with_reducible refine Za (V.out _) ?_)|(with_reducible refine Za (X.out _) ?_));rintro e w3 ⟨rfl,rfl⟩)|(go_at_call 141;(with_reducible refine Za (hb.out _) ?_);rintro e w3 ⟨rfl,rfl⟩)|(refine Zc rfl 111 (.tmp 4) (.tmp 26) rfl w.heap.size _ rfl rfl _ _ I.out Z6 rfl (Xg (nilT 3 0) rfl) ?_))
   ((try simp only[Exit.inBlock,Exit.then]);refine Zn (Zr rfl _ _ _ _ _ _ _ rfl (Zp _ _ _ _ _ _ I.out) underlying111 rfl Z6) rfl ?_);exact ⟨_,rfl,⟨nilT 3 0,rfl,rfl⟩,Z.out.setRow (Zb _) _⟩
  |ok to_=>
   rw[hsk] at H A;dsimp only at H A;subst H;have hb:=gd A;clear hsk A hh0;go_enter func99,ntmps99
   go_wp2_with (first|(go_at_call 98;(first|(with_reducible refine Za (K.out _) ?_)|(with_reducible refine Za (M.out _) ?_)|(with_reducible refine Za (Q.out _) ?_)|(with_reducible refine Za (S.out _) ?_)|(with_reducible refine Za (U.out _) ?_)|(with_reducible refine Za (V.out _) ?_)|(with_reducible refine Za (X.out _) ?_));rintro e w3 ⟨rfl,rfl⟩)|(go_at_call 141;(with_reducible refine Za (hb.out _) ?_);rintro e w3 ⟨rfl,rfl⟩)|(refine Zc rfl 111 (.tmp 4) (.tmp 26) rfl w.heap.size _ rfl rfl _ _ I.out Z6 rfl (Xg (nilT 3 0) rfl) ?_))
   ((try simp only[Exit.inBlock,Exit.then]);refine Zn (Zr rfl _ _ _ _ _ _ _ rfl (Zp _ _ _ _ _ _ I.out) underlying111 rfl Z6) rfl ?_);exact ⟨_,rfl,⟨_,rfl,RAts.nil _,(by intro g h;cases h)⟩,Z.out.setRow (Zb _) _⟩
 |false=>
  rw[hh0,Zg (by simp)] at H;rw[hh0] at K;cases hh1:hasAt s.data.toList f [60,33,45,45] with
  |true=>
   rw[hh1,Zl rfl] at H;rw[hh1] at M;have ha:f+4<=s.size:=(by have:=Xy hh1;rw[hd] at this;simpa using this);have A:=λw'=>QL s f [60,33,45,45] [45,45,62] w' hs ha (by decide) (by decide);rw[show ([60,33,45,45]:List UInt8).length=4 from rfl] at A;cases hsk:skipP s.data.toList f 4 [45,45,62] with
   |error xc=>
    obtain ⟨x,c⟩:=xc;rw[hsk] at H A;dsimp only at H A;subst H;have hc:=UO hsk;have hb:=gd A;clear hsk hc A hh0 hh1;go_enter func99,ntmps99
    go_wp2_with (first|(go_at_call 98;(first|(with_reducible refine Za (K.out _) ?_)|(with_reducible refine Za (M.out _) ?_)|(with_reducible refine Za (Q.out _) ?_)|(with_reducible refine Za (S.out _) ?_)|(with_reducible refine Za (U.out _) ?_)|(with_reducible refine Za (V.out _) ?_)|(with_reducible refine Za (X.out _) ?_));rintro e w3 ⟨rfl,rfl⟩)|(go_at_call 141;(with_reducible refine Za (hb.out _) ?_);rintro e w3 ⟨rfl,rfl⟩)|(refine Zc rfl 111 (.tmp 4) (.tmp 39) rfl w.heap.size _ rfl rfl _ _ I.out Z6 rfl (Xg (nilT 3 0) rfl) ?_))
    ((try simp only[Exit.inBlock,Exit.then]);refine Zn (Zr rfl _ _ _ _ _ _ _ rfl (Zp _ _ _ _ _ _ I.out) underlying111 rfl Z6) rfl ?_);exact ⟨_,rfl,⟨nilT 3 0,rfl,rfl⟩,Z.out.setRow (Zb _) _⟩
   |ok to_=>
    rw[hsk] at H A;dsimp only at H A;subst H;have hb:=gd A;clear hsk A hh0 hh1;go_enter func99,ntmps99
    go_wp2_with (first|(go_at_call 98;(first|(with_reducible refine Za (K.out _) ?_)|(with_reducible refine Za (M.out _) ?_)|(with_reducible refine Za (Q.out _) ?_)|(with_reducible refine Za (S.out _) ?_)|(with_reducible refine Za (U.out _) ?_)|(with_reducible refine Za (V.out _) ?_)|(with_reducible refine Za (X.out _) ?_));rintro e w3 ⟨rfl,rfl⟩)|(go_at_call 141;(with_reducible refine Za (hb.out _) ?_);rintro e w3 ⟨rfl,rfl⟩)|(refine Zc rfl 111 (.tmp 4) (.tmp 39) rfl w.heap.size _ rfl rfl _ _ I.out Z6 rfl (Xg (nilT 3 0) rfl) ?_))
    ((try simp only[Exit.inBlock,Exit.then]);refine Zn (Zr rfl _ _ _ _ _ _ _ rfl (Zp _ _ _ _ _ _ I.out) underlying111 rfl Z6) rfl ?_);exact ⟨_,rfl,⟨_,rfl,RAts.nil _,(by intro g h;cases h)⟩,Z.out.setRow (Zb _) _⟩
  |false=>
   rw[hh1,Zg (by simp)] at H;rw[hh1] at M;cases hh2:hasAt s.data.toList f [60,33,91,67,68,65,84,65,91] with
   |true=>
    rw[hh2,Zl rfl] at H;rw[hh2] at Q;have ha:f+9<=s.size:=(by have:=Xy hh2;rw[hd] at this;simpa using this);have A:=λw'=>QL s f [60,33,91,67,68,65,84,65,91] [93,93,62] w' hs ha (by decide) (by decide);rw[show ([60,33,91,67,68,65,84,65,91]:List UInt8).length=9 from rfl] at A;cases hsk:skipP s.data.toList f 9 [93,93,62] with
    |error xc=>
     obtain ⟨x,c⟩:=xc;rw[hsk] at H A;dsimp only at H A;subst H;have hc:=UO hsk;have hb:=gd A;obtain ⟨rfl,rfl⟩:=hc;clear hsk A hh0 hh1 hh2;go_enter func99,ntmps99
     go_wp2_with (first|(go_at_call 98;(first|(with_reducible refine Za (K.out _) ?_)|(with_reducible refine Za (M.out _) ?_)|(with_reducible refine Za (Q.out _) ?_)|(with_reducible refine Za (S.out _) ?_)|(with_reducible refine Za (U.out _) ?_)|(with_reducible refine Za (V.out _) ?_)|(with_reducible refine Za (X.out _) ?_));rintro e w3 ⟨rfl,rfl⟩)|(go_at_call 141;(with_reducible refine Za (hb.out _) ?_);rintro e w3 ⟨rfl,rfl⟩)|(refine Zc rfl 111 (.tmp 4) (.tmp 54) rfl w.heap.size _ rfl rfl _ _ I.out Z6 rfl (Xg (nilT 0 0) rfl) ?_))
     ((try simp only[Exit.inBlock,Exit.then]);refine Zn (Zr rfl _ _ _ _ _ _ _ rfl (Zp _ _ _ _ _ _ I.out) underlying111 rfl Z6) rfl ?_);exact ⟨_,rfl,⟨nilT 0 0,rfl,rfl⟩,Z.out.setRow (Zb _) _⟩
    |ok z=>
     have hm:=KD (by rw[hd];exact ha) hsk;rw[hd] at hm;have hp:f+9+3<=z:=hm.1;rw[hsk] at H A;dsimp only at H A;subst H;have hb:=gd A;obtain ⟨L,hL⟩:∃L,(s.data.toList.drop (f+9)).take (z - 3 - (f+9))=L:=⟨_,rfl⟩;have hr:=IC s (f+9) (z - 3) ((f:Int)+9) ((z:Int) - 3) L (by omega) (by omega) (by omega) (by omega) hL;have hn:L.length<=s.size:=(by rw[<-hL,ZG,Zm];omega);rw[hL];have hl:=gd (λw'=>Kx (str L) w' (by rw[YN];omega));rw[Ya] at hl;clear hL hsk hn A hh0 hh1 hh2;go_enter func99,ntmps99
     go_wp2_with (first|(go_at_call 98;(first|(with_reducible refine Za (K.out _) ?_)|(with_reducible refine Za (M.out _) ?_)|(with_reducible refine Za (Q.out _) ?_)|(with_reducible refine Za (S.out _) ?_)|(with_reducible refine Za (U.out _) ?_)|(with_reducible refine Za (V.out _) ?_)|(with_reducible refine Za (X.out _) ?_));rintro e w3 ⟨rfl,rfl⟩)|(go_at_call 141;(with_reducible refine Za (hb.out _) ?_);rintro e w3 ⟨rfl,rfl⟩)|(go_at_call 142;(with_reducible refine Za (hl.out _) ?_);rintro e w4 ⟨rfl,F⟩;(have D:=I.out.ext F))|(refine Zc rfl 111 (.tmp 4) (.tmp 65) rfl w.heap.size _ rfl rfl _ _ D Z6 rfl (Xg ⟨sN,dataT (lns L) f⟩ rfl) ?_))
     ((try simp only[Exit.inBlock,Exit.then]);refine Zn (Zr rfl _ _ _ _ _ _ _ rfl (Zp _ _ _ _ _ _ D) underlying111 rfl Z6) rfl ?_);exact ⟨_,rfl,⟨_,rfl,RAts.nil _,(by intro g h;cases h)⟩,(Z.out.trans F).setRow (Zb _) _⟩
   |false=>
    rw[hh2,Zg (by simp)] at H;rw[hh2] at Q;cases hh3:hasAt s.data.toList f [60,33,68,79,67,84,89,80,69] with
    |true=>
     rw[hh3,Zl rfl] at H;rw[hh3] at S;subst H;clear hh0 hh1 hh2 hh3;go_enter func99,ntmps99
     go_wp2_with (first|(go_at_call 98;(first|(with_reducible refine Za (K.out _) ?_)|(with_reducible refine Za (M.out _) ?_)|(with_reducible refine Za (Q.out _) ?_)|(with_reducible refine Za (S.out _) ?_)|(with_reducible refine Za (U.out _) ?_)|(with_reducible refine Za (V.out _) ?_)|(with_reducible refine Za (X.out _) ?_));rintro e w3 ⟨rfl,rfl⟩)|(refine Zc rfl 111 (.tmp 4) (.tmp 71) rfl w.heap.size _ rfl rfl _ _ I.out Z6 rfl (Xg (nilT 0 0) rfl) ?_))
     ((try simp only[Exit.inBlock,Exit.then]);refine Zn (Zr rfl _ _ _ _ _ _ _ rfl (Zp _ _ _ _ _ _ I.out) underlying111 rfl Z6) rfl ?_);exact ⟨_,rfl,⟨nilT 0 0,rfl,rfl⟩,Z.out.setRow (Zb _) _⟩
    |false=>
     rw[hh3,Zg (by simp)] at H;rw[hh3] at S;cases hh4:hasAt s.data.toList f [60,33] with
     |true=>
      rw[hh4,Zl rfl] at H;rw[hh4] at U;subst H;clear hh0 hh1 hh2 hh3 hh4;go_enter func99,ntmps99
      go_wp2_with (first|(go_at_call 98;(first|(with_reducible refine Za (K.out _) ?_)|(with_reducible refine Za (M.out _) ?_)|(with_reducible refine Za (Q.out _) ?_)|(with_reducible refine Za (S.out _) ?_)|(with_reducible refine Za (U.out _) ?_)|(with_reducible refine Za (V.out _) ?_)|(with_reducible refine Za (X.out _) ?_));rintro e w3 ⟨rfl,rfl⟩)|(refine Zc rfl 111 (.tmp 4) (.tmp 77) rfl w.heap.size _ rfl rfl _ _ I.out Z6 rfl (Xg (nilT 0 0) rfl) ?_))
      ((try simp only[Exit.inBlock,Exit.then]);refine Zn (Zr rfl _ _ _ _ _ _ _ rfl (Zp _ _ _ _ _ _ I.out) underlying111 rfl Z6) rfl ?_);exact ⟨_,rfl,⟨nilT 0 0,rfl,rfl⟩,Z.out.setRow (Zb _) _⟩
     |false=>
      rw[hh4,Zg (by simp)] at H;rw[hh4] at U;cases hh5:hasAt s.data.toList f [60,47] with
      |true=>
       rw[hh5,Zl rfl] at H;rw[hh5] at V;have ha:f+2<=s.size:=(by have:=Xy hh5;rw[hd] at this;simpa using this);have J:=λw'=>Zf2 s f w' hs ha;rw[H] at J;clear hh0 hh1 hh2 hh3 hh4 hh5;cases R with
       |error xc=>
        obtain ⟨x,c⟩:=xc;clear H;have HC:=gd J;clear J;go_enter func99,ntmps99
        go_wp2_with (first|(go_at_call 98;(first|(with_reducible refine Za (K.out _) ?_)|(with_reducible refine Za (M.out _) ?_)|(with_reducible refine Za (Q.out _) ?_)|(with_reducible refine Za (S.out _) ?_)|(with_reducible refine Za (U.out _) ?_)|(with_reducible refine Za (V.out _) ?_)|(with_reducible refine Za (X.out _) ?_));rintro e w3 ⟨rfl,rfl⟩)|(go_at_call 143;(with_reducible refine Za (HC.out _) ?_);rintro e w4 ⟨v4,rfl,⟨x4,rfl,hj⟩,F⟩;(have D:=I.out.ext F))|(refine Zc rfl 111 (.tmp 4) (.tmp 86) rfl w.heap.size _ rfl rfl _ _ D Z6 rfl (Xg x4 hj) ?_))
        ((try simp only[Exit.inBlock,Exit.then]);refine Zn (Zr rfl _ _ _ _ _ _ _ rfl (Zp _ _ _ _ _ _ D) underlying111 rfl Z6) rfl ?_);exact ⟨_,rfl,⟨x4,rfl,hj⟩,(Z.out.trans F).setRow (Zb _) _⟩
       |ok tn=>
        obtain ⟨t,n⟩:=tn;clear H;have HC:=gd J;clear J;go_enter func99,ntmps99
        go_wp2_with (first|(go_at_call 98;(first|(with_reducible refine Za (K.out _) ?_)|(with_reducible refine Za (M.out _) ?_)|(with_reducible refine Za (Q.out _) ?_)|(with_reducible refine Za (S.out _) ?_)|(with_reducible refine Za (U.out _) ?_)|(with_reducible refine Za (V.out _) ?_)|(with_reducible refine Za (X.out _) ?_));rintro e w3 ⟨rfl,rfl⟩)|(go_at_call 143;(with_reducible refine Za (HC.out _) ?_);rintro e w4 ⟨v4,rfl,⟨hi,rfl,hh,he⟩,F⟩;(have D:=I.out.ext F))|(refine Zc rfl 111 (.tmp 4) (.tmp 86) rfl w.heap.size _ rfl rfl _ _ D Z6 rfl (Xg ⟨hi,t⟩ hh.one) ?_))
        ((try simp only[Exit.inBlock,Exit.then]);refine Zn (Zr rfl _ _ _ _ _ _ _ rfl (Zp _ _ _ _ _ _ D) underlying111 rfl Z6) rfl ?_);exact ⟨_,rfl,⟨hi,rfl,RAts.grown hh (Yv _ _ _) (λg hg e=>by injection e with e;have:=he g hg;rw[Zt] at this;omega),(λg hg=>by have:=he g hg;rw[Zt] at this;omega)⟩,(Z.out.trans F).setRow (Zb _) _⟩
      |false=>
       rw[hh5,Zg (by simp)] at H;rw[hh5] at V;cases hh6:hasAt s.data.toList f [60] with
       |true=>
        rw[hh6,Zl rfl] at H;rw[hh6] at X;have ha:f+1<=s.size:=(by have:=Xy hh6;rw[hd] at this;simpa using this);have J:=λw'=>ZcK s f w' hs ha;rw[H] at J;clear hh0 hh1 hh2 hh3 hh4 hh5 hh6;cases R with
        |error xc=>
         obtain ⟨x,c⟩:=xc;clear H;have HC:=gd J;clear J;go_enter func99,ntmps99
         go_wp2_with (first|(go_at_call 98;(first|(with_reducible refine Za (K.out _) ?_)|(with_reducible refine Za (M.out _) ?_)|(with_reducible refine Za (Q.out _) ?_)|(with_reducible refine Za (S.out _) ?_)|(with_reducible refine Za (U.out _) ?_)|(with_reducible refine Za (V.out _) ?_)|(with_reducible refine Za (X.out _) ?_));rintro e w3 ⟨rfl,rfl⟩)|(go_at_call 144;(with_reducible refine Za (HC.out _) ?_);rintro e w4 ⟨v4,rfl,⟨x4,rfl,hj⟩,F⟩;(have D:=I.out.ext F))|(refine Zc rfl 111 (.tmp 4) (.tmp 96) rfl w.heap.size _ rfl rfl _ _ D Z6 rfl (Xg x4 hj) ?_))
         ((try simp only[Exit.inBlock,Exit.then]);refine Zn (Zr rfl _ _ _ _ _ _ _ rfl (Zp _ _ _ _ _ _ D) underlying111 rfl Z6) rfl ?_);exact ⟨_,rfl,⟨x4,rfl,hj⟩,(Z.out.trans F).setRow (Zb _) _⟩
        |ok tn=>
         obtain ⟨t,n⟩:=tn;clear H;have HC:=gd J;clear J;go_enter func99,ntmps99
         go_wp2_with (first|(go_at_call 98;(first|(with_reducible refine Za (K.out _) ?_)|(with_reducible refine Za (M.out _) ?_)|(with_reducible refine Za (Q.out _) ?_)|(with_reducible refine Za (S.out _) ?_)|(with_reducible refine Za (U.out _) ?_)|(with_reducible refine Za (V.out _) ?_)|(with_reducible refine Za (X.out _) ?_));rintro e w3 ⟨rfl,rfl⟩)|(go_at_call 144;(with_reducible refine Za (HC.out _) ?_);rintro e w4 ⟨v4,rfl,⟨hi,rfl,hh,he⟩,F⟩;(have D:=I.out.ext F))|(refine Zc rfl 111 (.tmp 4) (.tmp 96) rfl w.heap.size _ rfl rfl _ _ D Z6 rfl (Xg ⟨hi,t⟩ hh.one) ?_))
         ((try simp only[Exit.inBlock,Exit.then]);refine Zn (Zr rfl _ _ _ _ _ _ _ rfl (Zp _ _ _ _ _ _ D) underlying111 rfl Z6) rfl ?_);exact ⟨_,rfl,⟨hi,rfl,RAts.grown hh (Yv _ _ _) (λg hg e=>by injection e with e;have:=he g hg;rw[Zt] at this;omega),(λg hg=>by have:=he g hg;rw[Zt] at this;omega)⟩,(Z.out.trans F).setRow (Zb _) _⟩
       |false=>
        rw[hh6,Zg (by simp)] at H;rw[hh6] at X;have hk:=E0 (by rw[hd];exact hf) hh6;dsimp only at H;obtain ⟨z,hz⟩:∃z,(findAt s.data.toList f [60]).getD s.data.toList.length=z:=⟨_,rfl⟩;rw[hz] at H hk;rw[hd] at hk hz;have Y:=λw'=>Kv s [60] f w' hs (by omega) (by decide) (by decide);have J:=λw'=>UZ s f z false w' hs (by omega) hk.2;clear hh0 hh1 hh2 hh3 hh4 hh5 hh6;cases hcp:contP false s.data.toList f z with
        |error xc=>
         obtain ⟨x,c⟩:=xc;rw[hcp] at H J;dsimp only at H;subst H;have HC:=gd J;clear hcp J;cases hfi:findAt s.data.toList f [60] with
         |none=>
          rw[hfi] at Y hz;dsimp only[Option.getD] at hz Y;subst hz;have HF:=gd Y;clear hfi Y;go_enter func99,ntmps99
          go_wp2_with (first|(go_at_call 98;(first|(with_reducible refine Za (K.out _) ?_)|(with_reducible refine Za (M.out _) ?_)|(with_reducible refine Za (Q.out _) ?_)|(with_reducible refine Za (S.out _) ?_)|(with_reducible refine Za (U.out _) ?_)|(with_reducible refine Za (V.out _) ?_)|(with_reducible refine Za (X.out _) ?_));rintro e w3 ⟨rfl,rfl⟩)|(go_at_call 145;(with_reducible refine Za (HF.out _) ?_);rintro e w3 ⟨rfl,rfl⟩)|(go_at_call 146;(with_reducible refine Za (HC.out _) ?_);rintro e w4 ⟨rfl,F⟩;simp only[contAns];(have D:=I.out.ext F))|(refine Zc rfl 111 (.tmp 4) (.tmp 116) rfl w.heap.size _ rfl rfl _ _ D Z6 rfl (Xg ⟨sN,dataT [] f⟩ rfl) ?_))
          ((try simp only[Exit.inBlock,Exit.then]);refine Zn (Zr rfl _ _ _ _ _ _ _ rfl (Zp _ _ _ _ _ _ D) underlying111 rfl Z6) rfl ?_);exact ⟨_,rfl,⟨⟨sN,dataT [] f⟩,rfl,rfl⟩,(Z.out.trans F).setRow (Zb _) _⟩
         |some i=>
          rw[hfi] at Y hz;dsimp only[Option.getD] at hz Y;subst hz;have ho:¬(i:Int)<0:=(by omega);have HF:=gd Y;clear hfi Y;go_enter func99,ntmps99
          go_wp2_with (first|(go_at_call 98;(first|(with_reducible refine Za (K.out _) ?_)|(with_reducible refine Za (M.out _) ?_)|(with_reducible refine Za (Q.out _) ?_)|(with_reducible refine Za (S.out _) ?_)|(with_reducible refine Za (U.out _) ?_)|(with_reducible refine Za (V.out _) ?_)|(with_reducible refine Za (X.out _) ?_));rintro e w3 ⟨rfl,rfl⟩)|(go_at_call 145;(with_reducible refine Za (HF.out _) ?_);rintro e w3 ⟨rfl,rfl⟩)|(go_at_call 146;(with_reducible refine Za (HC.out _) ?_);rintro e w4 ⟨rfl,F⟩;simp only[contAns];(have D:=I.out.ext F))|(refine Zc rfl 111 (.tmp 4) (.tmp 116) rfl w.heap.size _ rfl rfl _ _ D Z6 rfl (Xg ⟨sN,dataT [] f⟩ rfl) ?_))
          ((try simp only[Exit.inBlock,Exit.then]);refine Zn (Zr rfl _ _ _ _ _ _ _ rfl (Zp _ _ _ _ _ _ D) underlying111 rfl Z6) rfl ?_);exact ⟨_,rfl,⟨⟨sN,dataT [] f⟩,rfl,rfl⟩,(Z.out.trans F).setRow (Zb _) _⟩
        |ok v=>
         rw[hcp] at H J;dsimp only at H;subst H;have HC:=gd J;clear hcp J;cases hfi:findAt s.data.toList f [60] with
         |none=>
          rw[hfi] at Y hz;dsimp only[Option.getD] at hz Y;subst hz;have HF:=gd Y;clear hfi Y;go_enter func99,ntmps99
          go_wp2_with (first|(go_at_call 98;(first|(with_reducible refine Za (K.out _) ?_)|(with_reducible refine Za (M.out _) ?_)|(with_reducible refine Za (Q.out _) ?_)|(with_reducible refine Za (S.out _) ?_)|(with_reducible refine Za (U.out _) ?_)|(with_reducible refine Za (V.out _) ?_)|(with_reducible refine Za (X.out _) ?_));rintro e w3 ⟨rfl,rfl⟩)|(go_at_call 145;(with_reducible refine Za (HF.out _) ?_);rintro e w3 ⟨rfl,rfl⟩)|(go_at_call 146;(with_reducible refine Za (HC.out _) ?_);rintro e w4 ⟨rfl,F⟩;simp only[contAns];(have D:=I.out.ext F))|(refine Zc rfl 111 (.tmp 4) (.tmp 116) rfl w.heap.size _ rfl rfl _ _ D Z6 rfl (Xg ⟨sN,dataT v f⟩ rfl) ?_))
          ((try simp only[Exit.inBlock,Exit.then]);refine Zn (Zr rfl _ _ _ _ _ _ _ rfl (Zp _ _ _ _ _ _ D) underlying111 rfl Z6) rfl ?_);exact ⟨_,rfl,⟨_,rfl,RAts.nil _,(by intro g h;cases h)⟩,(Z.out.trans F).setRow (Zb _) _⟩
         |some i=>
          rw[hfi] at Y hz;dsimp only[Option.getD] at hz Y;subst hz;have ho:¬(i:Int)<0:=(by omega);have HF:=gd Y;clear hfi Y;go_enter func99,ntmps99
          go_wp2_with (first|(go_at_call 98;(first|(with_reducible refine Za (K.out _) ?_)|(with_reducible refine Za (M.out _) ?_)|(with_reducible refine Za (Q.out _) ?_)|(with_reducible refine Za (S.out _) ?_)|(with_reducible refine Za (U.out _) ?_)|(with_reducible refine Za (V.out _) ?_)|(with_reducible refine Za (X.out _) ?_));rintro e w3 ⟨rfl,rfl⟩)|(go_at_call 145;(with_reducible refine Za (HF.out _) ?_);rintro e w3 ⟨rfl,rfl⟩)|(go_at_call 146;(with_reducible refine Za (HC.out _) ?_);rintro e w4 ⟨rfl,F⟩;simp only[contAns];(have D:=I.out.ext F))|(refine Zc rfl 111 (.tmp 4) (.tmp 116) rfl w.heap.size _ rfl rfl _ _ D Z6 rfl (Xg ⟨sN,dataT v f⟩ rfl) ?_))
          ((try simp only[Exit.inBlock,Exit.then]);refine Zn (Zr rfl _ _ _ _ _ _ _ rfl (Zp _ _ _ _ _ _ D) underlying111 rfl Z6) rfl ?_);exact ⟨_,rfl,⟨_,rfl,RAts.nil _,(by intro g h;cases h)⟩,(Z.out.trans F).setRow (Zb _) _⟩
end
section
variable {B g k n:Nat} {r:Option Nat} {v:Value} {w w' w3:World} {xs:List Value}
def Nc.kind:Nc->Nat| .mk k _ _ _ _ _ _ _ _=>k
def Nc.space:Nc->List UInt8| .mk _ s _ _ _ _ _ _ _=>s
def Nc.name:Nc->List UInt8| .mk _ _ n _ _ _ _ _ _=>n
def Nc.text:Nc->List UInt8| .mk _ _ _ _ _ _ _ t _=>t
def Nc.at_:Nc->Nat| .mk _ _ _ _ _ _ _ _ a=>a
theorem KM (x:Nc):cellsN x= [nI (x.kind:Nat),.string (str x.space),.string (str x.name),x.al,x.ks,.string (str x.text),nI (x.at_:Nat)]:=by cases x;rfl
theorem JF (x:Nc):(cellsN x).length=7:=by cases x;rfl
theorem XX:∀l:List Nc,Nc.nds l=l.map Nc.nd
 | []=>by rw[Nc.nds];rfl
 |x::t=>by rw[Nc.nds,XX t];rfl
theorem X5 (a b:List Nc):Nc.nds (a++b)=Nc.nds a++Nc.nds b:=by rw[XX,XX,XX,ZK]
theorem Jh (l:List Nc):(Nc.nds l).length=l.length:=by rw[XX,Zk]
theorem Zcu (x:Nc):x.nd.kind=x.kind:=by cases x;rw[Nc.nd];rfl
theorem UJ (a b:List Nc):flatN (a++b)=flatN a++flatN b:=by unfold flatN;rw[ZK,Gj]
theorem UK (x:Nc):flatN [x]=cellsN x:=by unfold flatN;simp
theorem Zg5:flatN []= []:=rfl
theorem E5 {l:List Nc} (h:l≠ []):flatN l≠ []:=by
 cases l with
 |nil=>exact absurd rfl h
 |cons x t=>unfold flatN;rw[ZP,X2,KM];simp
theorem JU {l:List AtP} (h:l≠ []):flatA l≠ []:=by
 cases l with
 |nil=>exact absurd rfl h
 |cons x t=>unfold flatA;rw[ZP,X2];unfold cellsA;simp
theorem Xm:∀l:List Nc,RdNs w l↔∀x∈l,RdN w x
 | []=>by rw[RdNs];simp
 |x::t=>by rw[RdNs,Xm t];simp
mutual
theorem RdN.ext {w w':Wq} (hx:Ext w w'):∀x:Nc,RdN w x->RdN w' x
 | .mk k s n al l ks kids t a,h=>by
  rw[RdN] at h|-
  exact ⟨h.1.ext hx,h.2.1.ext hx,RdNs.ext hx kids h.2.2⟩
theorem RdNs.ext {w w':Wq} (hx:Ext w w'):∀l:List Nc,RdNs w l->RdNs w' l
 | [],h=>by rw[RdNs];trivial
 |x::t,h=>by
  rw[RdNs] at h|-
  exact ⟨RdN.ext hx x h.1,RdNs.ext hx t h.2⟩
end
def awayV (v:Value) (n:Nat) (r:Option Nat):Prop:=n=0\/v.ownBlock≠r
mutual
def awayN (r:Option Nat):Nc->Prop
 | .mk _ _ _ al l ks kids _ _=>awayV al l.length r/\awayV ks kids.length r/\awayNs r kids
def awayNs (r:Option Nat):List Nc->Prop
 | []=>True
 |x::t=>awayN r x/\awayNs r t
end
theorem Z3:∀l:List Nc,awayNs r l↔∀x∈l,awayN r x
 | []=>by rw[awayNs];simp
 |x::t=>by rw[awayNs,Z3 t];simp
theorem G6 {size:Nat} (h:RSl w size v n xs) (A:n=0\/xs≠ []) (H:∀g,r=some g->w.heap.size<=g):awayV v n r:=by
 rcases A with A|A
 ·exact Or.inl A
 ·obtain ⟨k,D,F⟩:=RSl.old h A;refine Or.inr ?_;rw[D];intro e;have:=H k e.symm;omega
mutual
theorem G5 {w:Wq} {r:Option Nat} (hr:∀g,r=some g->w.heap.size<=g):∀x:Nc,RdN w x->awayN r x
 | .mk k s n al l ks kids t a,h=>by
  rw[RdN] at h
  rw[awayN]
  refine ⟨G6 h.1 ?_ hr,G6 h.2.1 ?_ hr,QV hr kids h.2.2⟩
  ·by_cases hl:l= []
   ·exact Or.inl (by rw[hl];rfl)
   ·exact Or.inr (JU hl)
  ·by_cases hl:kids= []
   ·exact Or.inl (by rw[hl];rfl)
   ·exact Or.inr (E5 hl)
theorem QV {w:Wq} {r:Option Nat} (hr:∀g,r=some g->w.heap.size<=g):∀l:List Nc,RdNs w l->awayNs r l
 | [],h=>by rw[awayNs];trivial
 |x::t,h=>by
  rw[RdNs] at h
  rw[awayNs]
  exact ⟨G5 hr x h.1,QV hr t h.2⟩
end
theorem GG {x:Nc} (h:RdN w x):awayN none x:=G5 (by intro g e;cases e) x h
theorem XW {x:Nc} (h:RdN w x) (A:w.heap.size<=g):awayN (some g) x:=G5 (by intro k e;injection e with e;omega) x h
mutual
theorem RdN.grown {w w':Wq} {r:Option Nat} (hg:w.grownBy w' r):∀x:Nc,RdN w x->awayN r x->RdN w' x
 | .mk k s n al l ks kids t a,h,ha=>by
  rw[RdN] at h|-
  rw[awayN] at ha
  refine ⟨RSl.grown h.1 hg (ha.1.imp (λe=> ?_) λe=>e),RSl.grown h.2.1 hg (ha.2.1.imp (λe=> ?_) λe=>e),RdNs.grown hg kids h.2.2 ha.2.2⟩
  ·rw[List.length_eq_zero_iff.1 e];rfl
  ·rw[List.length_eq_zero_iff.1 e];rfl
theorem RdNs.grown {w w':Wq} {r:Option Nat} (hg:w.grownBy w' r):∀l:List Nc,RdNs w l->awayNs r l->RdNs w' l
 | [],h,ha=>by rw[RdNs];trivial
 |x::t,h,ha=>by
  rw[RdNs] at h|-
  rw[awayNs] at ha
  exact ⟨RdN.grown hg x h.1 ha.1,RdNs.grown hg t h.2 ha.2⟩
end
def slN (x:Nc):Prop:=isSl x.al/\isSl x.ks
theorem RdN.sl {x:Nc} (h:RdN w x):slN x:=by
 cases x;rw[RdN] at h;obtain ⟨A,c,e,_⟩:=h.1.form;obtain ⟨_,B,d,e',_⟩:=h.2.1;exact ⟨⟨A,_,c,e⟩,⟨B,_,d,e'⟩⟩
theorem Y6 {x:Nc} (h:slN x):∀u∈cellsN x,u.oneCell'=true:=by
 obtain ⟨⟨A,n,c,F⟩,⟨B,m,d,H⟩⟩:=h;rw[KM,F,H];intro u D;simp only[ZI,Yg,Xx] at D;rcases D with rfl|rfl|rfl|rfl|rfl|rfl|rfl<;>rfl
def RNs (w:Wq) (v:Value) (l:List Nc):Prop:=RSl w 7 v l.length (flatN l)
theorem RNs.ext {l:List Nc} (h:RNs w v l) (A:Ext w w'):RNs w' v l:=RSl.ext h A
theorem RNs.nil (w:Wq):RNs w sN []:=RSl.nil w 7
theorem RNs.form {l:List Nc} (h:RNs w v l):∃A c,v= .slice A l.length c/\l.length<=c/\c<=maxLen:=by
 obtain ⟨_,A,c,e,D,F,_⟩:=h;exact ⟨A,c,e,D,F⟩
structure AtNc (w:Wq) (q:Addr) (x:Nc):Prop where
 c0:w.cell? q=some (nI (x.kind:Nat))
 c1:w.cell? ⟨q.block,q.off+1,none⟩=some (.string (str x.space))
 c2:w.cell? ⟨q.block,q.off+2,none⟩=some (.string (str x.name))
 c3:w.cell? ⟨q.block,q.off+3,none⟩=some x.al
 c4:w.cell? ⟨q.block,q.off+4,none⟩=some x.ks
 c5:w.cell? ⟨q.block,q.off+5,none⟩=some (.string (str x.text))
 c6:w.cell? ⟨q.block,q.off+6,none⟩=some (nI (x.at_:Nat))
theorem AtNc.ext {q:Addr} {x:Nc} (h:AtNc w q x) (A:Ext w w'):AtNc w' q x:=⟨A.cell h.c0,A.cell h.c1,A.cell h.c2,A.cell h.c3,A.cell h.c4,A.cell h.c5,A.cell h.c6⟩
theorem RNs.at {l:List Nc} (h:RNs w v l) (F:k<l.length):∃ad c,v= .slice (some ad) l.length c/\AtNc w (ad.add (k*7)) l[k]:=by
 obtain ⟨ad,c,e,D⟩:=RSl.elem (k:=7) (css:=l.map cellsN) h (by decide) (by intro c D;obtain ⟨x,_,rfl⟩:=ZO.1 D;exact JF x) k (cellsN l[k]) (by rw[Ys,Zj F];rfl);rw[U5] at D;rw[KM] at D;have A:∀i,0<i->(ad.add (k*7)).add i=⟨(ad.add (k*7)).block,(ad.add (k*7)).off+i,none⟩:=λi H=>Zg (by omega);refine ⟨ad,c,e,?_,?_,?_,?_,?_,?_,?_⟩
 ·have:=D 0 _ rfl;rwa [add_zero] at this
 ·have:=D 1 _ rfl;rwa [A _ (by decide)] at this
 ·have:=D 2 _ rfl;rwa [A _ (by decide)] at this
 ·have:=D 3 _ rfl;rwa [A _ (by decide)] at this
 ·have:=D 4 _ rfl;rwa [A _ (by decide)] at this
 ·have:=D 5 _ rfl;rwa [A _ (by decide)] at this
 ·have:=D 6 _ rfl;rwa [A _ (by decide)] at this
structure HNs (w:Wq) (B:Nat) (v:Value) (l:List Nc):Prop where
 row:w.ownsRow B 25 7 v l.length (flatN l)
 rd:RdNs w l
 away:awayNs v.ownBlock l
theorem HNs.nil (w:Wq) (B:Nat):HNs w B sN []:=⟨YO _ _ _ _,(by rw[RdNs];trivial),(by rw[awayNs];trivial)⟩
theorem HNs.ext {l:List Nc} (h:HNs w B v l) (A:Ext w w'):HNs w' B v l:=⟨Yh h.row A,RdNs.ext A l h.rd,h.away⟩
theorem HNs.reads {l:List Nc} (h:HNs w B v l):RNs w v l:=RSl.of_own h.row
theorem HNs.snoc {v3:Value} {l:List Nc} {x:Nc} (h:HNs w B v l) (K:RdN w x) (I:awayN v.ownBlock x)
 (F:w3.ownsRow B 25 7 v3 (l.length+1) (flatN l++cellsN x)) (J:w.grownBy w3 v.ownBlock) (H:v3.ownBlock=v.ownBlock\/v3.ownBlock=some w.heap.size):HNs w3 B v3 (l++ [x]):=by
 have D:∀y∈l++ [x],RdN w y/\awayN v.ownBlock y:=by
  intro y A;rcases Zu.1 A with A|A
  ·exact ⟨(Xm l).1 h.rd y A,(Z3 l).1 h.away y A⟩
  ·rw[Zo.1 A];exact ⟨K,I⟩
 refine ⟨?_,(Xm _).2 λy A=>RdN.grown J y (D y A).1 (D y A).2,(Z3 _).2 λy A=> ?_⟩
 ·rw[UJ,UK,Zd];exact F
 ·rcases H with e|e
  ·rw[e];exact (D y A).2
  ·rw[e];exact XW (D y A).1 (Zb _)
end
section
variable {B g:Nat} {r:Option Nat} {v:Value} {w w' w3:World}
theorem RAts.away {l:List AtP} (h:RAts w v l) (A:w.grownBy w' r) (D:awayV v l.length r):RAts w' v l:=
 RSl.grown h A (D.imp (λe=>by rw[List.length_eq_zero_iff.1 e];rfl) λe=>e)
theorem RAts.awayNew {l:List AtP} (h:RAts w v l) (D:w.heap.size<=g):awayV v l.length (some g):=
 G6 h (by by_cases A:l= [];exact Or.inl (by rw[A];rfl);exact Or.inr (JU A)) (by intro k e;injection e with e;omega)
theorem Zg7 (a b:List Tc):flatT (a++b)=flatT a++flatT b:=by unfold flatT;rw[ZK,Gj]
theorem Zg8 (x:Tc):flatT [x]=cellsT x:=by unfold flatT;simp
theorem VK (x:Tc) (h:x.al.oneCell'=true):∀u∈cellsT x,u.oneCell'=true:=by
 intro u A;simp only[cellsT,ZI,Yg,Xx] at A;rcases A with rfl|rfl|rfl|rfl|rfl|rfl<;>first|rfl|exact h
structure HTs (w:Wq) (B:Nat) (v:Value) (l:List Tc):Prop where
 row:w.ownsRow B 111 6 v l.length (flatT l)
 rd:∀x∈l,RdT w x
 away:∀x∈l,awayV x.al x.t.attrs.length v.ownBlock
theorem HTs.nil (w:Wq) (B:Nat):HTs w B sN []:=⟨YO _ _ _ _,by simp,by simp⟩
theorem HTs.ext {l:List Tc} (h:HTs w B v l) (D:Ext w w'):HTs w' B v l:=⟨Yh h.row D,λx A=>RAts.ext (h.rd x A) D,h.away⟩
theorem HTs.snoc {v3:Value} {l:List Tc} {x:Tc} (h:HTs w B v l) (K:RdT w x) (I:awayV x.al x.t.attrs.length v.ownBlock)
 (F:w3.ownsRow B 111 6 v3 (l.length+1) (flatT l++cellsT x)) (J:w.grownBy w3 v.ownBlock) (H:v3.ownBlock=v.ownBlock\/v3.ownBlock=some w.heap.size):HTs w3 B v3 (l++ [x]):=by
 have D:∀y∈l++ [x],RdT w y/\awayV y.al y.t.attrs.length v.ownBlock:=by
  intro y A;rcases Zu.1 A with A|A
  ·exact ⟨h.rd y A,h.away y A⟩
  ·rw[Zo.1 A];exact ⟨K,I⟩
 refine ⟨?_,λy A=>RAts.away (D y A).1 J (D y A).2,λy A=> ?_⟩
 ·rw[Zg7,Zg8,Zd];exact F
 ·rcases H with e|e
  ·rw[e];exact (D y A).2
  ·rw[e];exact RAts.awayNew (D y A).1 (Zb _)
def ToksRet (B:Nat) (w:Wq) (n:Nat) (v:Value):Except PErr (List Tok)->Prop
 | .ok l=>∃(u:Value) (lt:List Tc),v= .tuple #[u,nI (n:Nat),nI 0]/\lt.map Tc.t=l/\RSl w 6 u lt.length (flatT lt)/\(∀x∈lt,RdT w x)/\(∀x∈lt,∀g,x.al.ownBlock=some g->B<=g)/\∀g,u.ownBlock=some g->B<=g
 | .error (y,c)=>v= .tuple #[sN,nI (y:Nat),nI (c:Nat)]
theorem Zi0:(prog.info? 111).map (λi=>(i.zero,i.size,i.bytes))=some (some (.agg #[nI 0,eS,sN,.bool false,eS,nI 0]),6,80):=by kernel_rfl
theorem Za3 (s:ByteArray) (w:Wq) (hs:s.size<=16777216):
 Calls prog 57 #[.string s] w λe w'=>∃v,e= .returned v/\ToksRet w.heap.size w' s.size v (toksP s.data.toList)/\Ext w w':=by
 have hV:s.size<=maxLen:=by unfold maxLen;omega
 obtain ⟨i0,hF,hG,hH,hI⟩:=Yw Zi0;have hM:=ZL s;obtain ⟨R,hR⟩:∃R,toksP s.data.toList=R:=⟨_,rfl⟩;rw[hR];rw[ZaL] at hR;have hm:=λw'=>Ku s w' hV;unfold checkS at hm;obtain ⟨x,c,hT⟩:∃x c,check s.data.toList=(x,c):=⟨_,_,rfl⟩;rw[hT] at hR hm;dsimp only at hR hm;have hJ:=gd hm;clear hT hm;by_cases hc:c=0
 case neg=>
  rw[Zl hc] at hR;subst hR;have hQ:((c:Int) !=0)=true:=by rw[YU];omega
  clear hc;go_enter func57,ntmps57
  go_wp2_with (first|(go_at_call 97;(with_reducible refine Za (hJ.out _) ?_);rintro e w2 ⟨rfl,hD⟩))
  go_ret3
  exact ⟨_,rfl,(by unfold ToksRet;rfl),hD⟩
 case pos=>
  subst hc;rw[Zg (by simp)] at hR;have hu:∀w':Wq,Calls prog 98 #[.string s,nI 0,.string ⟨#[239,187,191]⟩] w' λe w2=>e= .returned (.bool (hasAt s.data.toList 0 [239,187,191]))/\w2=w':=λw'=>Y7 s [239,187,191] 0 w' hs (by omega) (by decide) (by decide);cases hb:hasAt s.data.toList 0 [239,187,191] with
  |true=>
   have h3:3<=s.size:=(by have:=Xy hb;rw[hM] at this;simpa using this);rw[hb,Zl rfl] at hR;rw[hb] at hu;clear hb;have HH:=gd hu;clear hu;have HR:=gd hR;clear hR;go_enter func57,ntmps57
   go_wp2_with (first|(go_at_call 97;(with_reducible refine Za (hJ.out _) ?_);rintro e w2 ⟨rfl,hD⟩)|(go_at_call 98;(with_reducible refine Za (HH.out _) ?_);rintro e w3 ⟨rfl,h3⟩;(have hK:=h3.symm);clear h3;subst hK))
   go_loopw [5,7] (λa t wr=>∃(k:Nat) (lt:List Tc),k<=s.size/\a=nI k/\HTs wr w.heap.size t lt/\Hid (toksAt s.data.toList k (lt.map Tc.t)=R)/\Hid (lt.length<=k)/\Hid (∀x∈lt,∀g,x.al.ownBlock=some g->w.heap.size<=g)/\Ext w wr) (λa _ _=>s.size - (intOf a).toNat)
   case atStart=>exact ⟨3,[],h3,rfl,HTs.nil _ _,HR,Zh _,(by intro x hx;cases hx),hD⟩
   case round=>
    obtain ⟨k,lt,hk,rfl,Q,hr,hl,hj,hx⟩:=hrel;obtain ⟨A,cc,rfl⟩:=Z8 Q.row;by_cases hq:k<s.size
    ·have hU:(k:Int)<(s.size:Int):=(by omega);have Z:=λw'=>Vz s k w' hs hq;cases hc:constructP s.data.toList k with
     |error xc=>
      obtain ⟨x5,c5⟩:=xc;have hL:=US (by omega) hc;have hQ:((c5:Int) !=0)=true:=(by rw[YU];omega);have hn:R= .error (x5,c5):=(by rw[<-hr.out,Qd (by omega) hc]);subst hn;rw[hc] at Z;have HC:=gd Z;clear Z hc hL hr hq
      go_wp2_with (first|(go_at_call 99;(with_reducible refine Za (HC.out _) ?_);rintro e w5 ⟨v5,rfl,⟨y5,rfl,hO⟩,D⟩)|(refine Zc rfl 111 (.tmp 8) (.tmp 30) rfl w5.heap.size _ rfl rfl _ _ (BxT.alloc0 w5 (nilT 0 0)) Z6 rfl (Xg y5 hO) ?_))
      go_ret3
      exact ⟨_,rfl,(by unfold ToksRet;rfl),((hx.trans D).alloc _).setRow (hx.trans D).size _⟩
     |ok te=>
      obtain ⟨t,e⟩:=te;obtain ⟨hB,hp, -, -, -⟩:=XY (by omega) hc;rw[hM] at hp;rw[hc] at Z;have X:=hr.out;rw[Vk (by omega) hc] at X;have HC:=gd Z;have HE:=gd (show e<=s.size/\k<e from ⟨hp,hB⟩);clear Z hc hr hB hp;by_cases M:keeps t
      ·rw[Zl M] at X;have hi:=gd X;clear X;obtain ⟨tk,tn,ta,H,S,F⟩:=t;have ha:=gd Q;have hN:lt.length<=16777216:=(by have:=hl.out;omega);have hw:=gd (show lt.length+1<=maxLen by unfold maxLen;omega);have hv:=gd (show (lt.length+1)*80<=140737488355328 by omega);have hz:=gd (λg (U:(Value.slice A lt.length cc).ownBlock=some g)=>(Q.row.lt g U).2);clear Q hN;by_cases hf:tk=3
       ·subst hf;have hP:(str S).toList.isEmpty=false:=by
         rw[Z7,Ya];cases S with
         |nil=>rcases M with h|h;exact absurd rfl h;exact absurd rfl h
         |cons a b=>rfl
        clear M
        go_wp2_with (first|(go_at_call 99;(with_reducible refine Za (HC.out _) ?_);rintro e5 w5 ⟨v5,rfl,⟨hA,rfl,I,J⟩,D⟩;(obtain ⟨K,c5,rfl, -, -⟩:=I.form);simp only[cellsT])|(at_builtin;refine ZH _ rfl (.tmp 45) (.tmp 47) _ rfl w.heap.size 111 i0 _ 6 80 underlying104 hF hG hH hI rfl (by decide) _ _ _ rfl (((ha.out.ext D).row.alloc _).alloc _) _ 1 (cellsT ⟨.slice K ta.length c5,⟨3,tn,ta,H,S,F⟩⟩) rfl (Xo (n:=1) (cs:=cellsT ⟨.slice K ta.length c5,⟨3,tn,ta,H,S,F⟩⟩) (fr:=(0,0)) (YD _ _ _) rfl (by decide)) (VK ⟨.slice K ta.length c5,⟨3,tn,ta,H,S,F⟩⟩ rfl) hw.out hv.out ?_ ?_;(rw[Zt,Zt];have:=(hx.trans D).size;omega);intro v9 w9 V he hd))
        go_roundw
        case rel=>
         have hE:=HE.out;have Y:=((Ext.refl w5).alloc (.cells (cellsT ⟨.slice K ta.length c5,⟨3,tn,ta,H,S,F⟩⟩).toArray 111)).alloc (.cells (cellsT ⟨.slice K ta.length c5,⟨3,tn,ta,H,S,F⟩⟩).toArray 111);have hh:RdT _ ⟨.slice K ta.length c5,⟨3,tn,ta,H,S,F⟩⟩:=RAts.ext I Y;have ho:awayV (.slice K ta.length c5) ta.length (Value.slice A lt.length cc).ownBlock:=(by refine (Decidable.em (ta= [])).imp (λe=>by rw[e];rfl) λht=> ?_;obtain ⟨g,U, -⟩:=RSl.old I (JU ht);rw[U];intro e;have h1:=J g U;have h2:=hz.out g e.symm;omega);refine ⟨e,lt++ [⟨.slice K ta.length c5,⟨3,tn,ta,H,S,F⟩⟩],hE.1,rfl,HTs.snoc ((ha.out.ext D).ext Y) hh ho V he hd,?_,?_,?_,Ext.app ((hx.trans D).trans Y) he (((ha.out.ext D).row.alloc _).alloc _) (Zb _)⟩
         ·rw[ZK];exact hi
         ·rw[Zd];have:=hl.out;show _+1<=_;omega
         ·intro y hy g U;rcases Zu.1 hy with hy|hy
          ·exact hj.out y hy g U
          ·rw[Zo.1 hy] at U;have h1:=J g U;have h2:=hx.size;omega
        case measure=>have hE:=HE.out;simp[intOf];omega
       ·have hS:((tk:Int) !=3)=true:=(by rw[YU];omega);clear M hf
        go_wp2_with (first|(go_at_call 99;(with_reducible refine Za (HC.out _) ?_);rintro e5 w5 ⟨v5,rfl,⟨hA,rfl,I,J⟩,D⟩;(obtain ⟨K,c5,rfl, -, -⟩:=I.form);simp only[cellsT])|(at_builtin;refine ZH _ rfl (.tmp 45) (.tmp 47) _ rfl w.heap.size 111 i0 _ 6 80 underlying104 hF hG hH hI rfl (by decide) _ _ _ rfl (((ha.out.ext D).row.alloc _).alloc _) _ 1 (cellsT ⟨.slice K ta.length c5,⟨tk,tn,ta,H,S,F⟩⟩) rfl (Xo (n:=1) (cs:=cellsT ⟨.slice K ta.length c5,⟨tk,tn,ta,H,S,F⟩⟩) (fr:=(0,0)) (YD _ _ _) rfl (by decide)) (VK ⟨.slice K ta.length c5,⟨tk,tn,ta,H,S,F⟩⟩ rfl) hw.out hv.out ?_ ?_;(rw[Zt,Zt];have:=(hx.trans D).size;omega);intro v9 w9 V he hd))
        go_roundw
        case rel=>
         have hE:=HE.out;have Y:=((Ext.refl w5).alloc (.cells (cellsT ⟨.slice K ta.length c5,⟨tk,tn,ta,H,S,F⟩⟩).toArray 111)).alloc (.cells (cellsT ⟨.slice K ta.length c5,⟨tk,tn,ta,H,S,F⟩⟩).toArray 111);have hh:RdT _ ⟨.slice K ta.length c5,⟨tk,tn,ta,H,S,F⟩⟩:=RAts.ext I Y;have ho:awayV (.slice K ta.length c5) ta.length (Value.slice A lt.length cc).ownBlock:=(by refine (Decidable.em (ta= [])).imp (λe=>by rw[e];rfl) λht=> ?_;obtain ⟨g,U, -⟩:=RSl.old I (JU ht);rw[U];intro e;have h1:=J g U;have h2:=hz.out g e.symm;omega);refine ⟨e,lt++ [⟨.slice K ta.length c5,⟨tk,tn,ta,H,S,F⟩⟩],hE.1,rfl,HTs.snoc ((ha.out.ext D).ext Y) hh ho V he hd,?_,?_,?_,Ext.app ((hx.trans D).trans Y) he (((ha.out.ext D).row.alloc _).alloc _) (Zb _)⟩
         ·rw[ZK];exact hi
         ·rw[Zd];have:=hl.out;show _+1<=_;omega
         ·intro y hy g U;rcases Zu.1 hy with hy|hy
          ·exact hj.out y hy g U
          ·rw[Zo.1 hy] at U;have h1:=J g U;have h2:=hx.size;omega
        case measure=>have hE:=HE.out;simp[intOf];omega
      ·rw[Zg M] at X;have hi:=gd X;clear X;have hf:t.kind=3:=Decidable.not_not.1 λh=>M (Or.inl h);have hC:t.text= []:=Decidable.not_not.1 λh=>M (Or.inr h);obtain ⟨tk,tn,ta,H,S,F⟩:=t;dsimp only at hf hC;subst hf;subst hC;have hP:(str []).toList.isEmpty=true:=(by rw[Z7,Ya];rfl);clear M
       go_wp2_with (first|(go_at_call 99;(with_reducible refine Za (HC.out _) ?_);rintro e5 w5 ⟨v5,rfl,⟨hA,rfl,I,J⟩,D⟩;(obtain ⟨K,c5,rfl, -, -⟩:=I.form);simp only[cellsT]))
       go_roundw
       case rel=>have hE:=HE.out;exact ⟨e,lt,hE.1,rfl,Q.ext (D.alloc _),hi,Zv hl.out (Nat.le_of_lt hE.2),hj,(hx.trans D).alloc _⟩
       case measure=>have hE:=HE.out;simp[intOf];omega
    ·have hW:¬(k:Int)<(s.size:Int):=(by omega);have hn:R= .ok (lt.map Tc.t):=(by rw[<-hr.out,Qe (by omega)]);subst hn;clear hr hq;go_wp2
     go_ret3
     exact ⟨_,rfl,(by unfold ToksRet;exact ⟨_,lt,rfl,rfl,RSl.of_own Q.row,Q.rd,hj.out,XL Q.row⟩),hx⟩
  |false=>
   rw[hb,Zg (by simp)] at hR;rw[hb] at hu;clear hb;have HH:=gd hu;clear hu;have HR:=gd hR;clear hR;go_enter func57,ntmps57
   go_wp2_with (first|(go_at_call 97;(with_reducible refine Za (hJ.out _) ?_);rintro e w2 ⟨rfl,hD⟩)|(go_at_call 98;(with_reducible refine Za (HH.out _) ?_);rintro e w3 ⟨rfl,h3⟩;(have hK:=h3.symm);clear h3;subst hK))
   go_loopw [5,7] (λa t wr=>∃(k:Nat) (lt:List Tc),k<=s.size/\a=nI k/\HTs wr w.heap.size t lt/\Hid (toksAt s.data.toList k (lt.map Tc.t)=R)/\Hid (lt.length<=k)/\Hid (∀x∈lt,∀g,x.al.ownBlock=some g->w.heap.size<=g)/\Ext w wr) (λa _ _=>s.size - (intOf a).toNat)
   case atStart=>exact ⟨0,[],Zh _,rfl,HTs.nil _ _,HR,Zh _,(by intro x hx;cases hx),hD⟩
   case round=>
    obtain ⟨k,lt,hk,rfl,Q,hr,hl,hj,hx⟩:=hrel;obtain ⟨A,cc,rfl⟩:=Z8 Q.row;by_cases hq:k<s.size
    ·have hU:(k:Int)<(s.size:Int):=(by omega);have Z:=λw'=>Vz s k w' hs hq;cases hc:constructP s.data.toList k with
     |error xc=>
      obtain ⟨x5,c5⟩:=xc;have hL:=US (by omega) hc;have hQ:((c5:Int) !=0)=true:=(by rw[YU];omega);have hn:R= .error (x5,c5):=(by rw[<-hr.out,Qd (by omega) hc]);subst hn;rw[hc] at Z;have HC:=gd Z;clear Z hc hL hr hq
      go_wp2_with (first|(go_at_call 99;(with_reducible refine Za (HC.out _) ?_);rintro e w5 ⟨v5,rfl,⟨y5,rfl,hO⟩,D⟩)|(refine Zc rfl 111 (.tmp 8) (.tmp 30) rfl w5.heap.size _ rfl rfl _ _ (BxT.alloc0 w5 (nilT 0 0)) Z6 rfl (Xg y5 hO) ?_))
      go_ret3
      exact ⟨_,rfl,(by unfold ToksRet;rfl),((hx.trans D).alloc _).setRow (hx.trans D).size _⟩
     |ok te=>
      obtain ⟨t,e⟩:=te;obtain ⟨hB,hp, -, -, -⟩:=XY (by omega) hc;rw[hM] at hp;rw[hc] at Z;have X:=hr.out;rw[Vk (by omega) hc] at X;have HC:=gd Z;have HE:=gd (show e<=s.size/\k<e from ⟨hp,hB⟩);clear Z hc hr hB hp;by_cases M:keeps t
      ·rw[Zl M] at X;have hi:=gd X;clear X;obtain ⟨tk,tn,ta,H,S,F⟩:=t;have ha:=gd Q;have hN:lt.length<=16777216:=(by have:=hl.out;omega);have hw:=gd (show lt.length+1<=maxLen by unfold maxLen;omega);have hv:=gd (show (lt.length+1)*80<=140737488355328 by omega);have hz:=gd (λg (U:(Value.slice A lt.length cc).ownBlock=some g)=>(Q.row.lt g U).2);clear Q hN;by_cases hf:tk=3
       ·subst hf;have hP:(str S).toList.isEmpty=false:=by
         rw[Z7,Ya];cases S with
         |nil=>rcases M with h|h;exact absurd rfl h;exact absurd rfl h
         |cons a b=>rfl
        clear M
        go_wp2_with (first|(go_at_call 99;(with_reducible refine Za (HC.out _) ?_);rintro e5 w5 ⟨v5,rfl,⟨hA,rfl,I,J⟩,D⟩;(obtain ⟨K,c5,rfl, -, -⟩:=I.form);simp only[cellsT])|(at_builtin;refine ZH _ rfl (.tmp 45) (.tmp 47) _ rfl w.heap.size 111 i0 _ 6 80 underlying104 hF hG hH hI rfl (by decide) _ _ _ rfl (((ha.out.ext D).row.alloc _).alloc _) _ 1 (cellsT ⟨.slice K ta.length c5,⟨3,tn,ta,H,S,F⟩⟩) rfl (Xo (n:=1) (cs:=cellsT ⟨.slice K ta.length c5,⟨3,tn,ta,H,S,F⟩⟩) (fr:=(0,0)) (YD _ _ _) rfl (by decide)) (VK ⟨.slice K ta.length c5,⟨3,tn,ta,H,S,F⟩⟩ rfl) hw.out hv.out ?_ ?_;(rw[Zt,Zt];have:=(hx.trans D).size;omega);intro v9 w9 V he hd))
        go_roundw
        case rel=>
         have hE:=HE.out;have Y:=((Ext.refl w5).alloc (.cells (cellsT ⟨.slice K ta.length c5,⟨3,tn,ta,H,S,F⟩⟩).toArray 111)).alloc (.cells (cellsT ⟨.slice K ta.length c5,⟨3,tn,ta,H,S,F⟩⟩).toArray 111);have hh:RdT _ ⟨.slice K ta.length c5,⟨3,tn,ta,H,S,F⟩⟩:=RAts.ext I Y;have ho:awayV (.slice K ta.length c5) ta.length (Value.slice A lt.length cc).ownBlock:=(by refine (Decidable.em (ta= [])).imp (λe=>by rw[e];rfl) λht=> ?_;obtain ⟨g,U, -⟩:=RSl.old I (JU ht);rw[U];intro e;have h1:=J g U;have h2:=hz.out g e.symm;omega);refine ⟨e,lt++ [⟨.slice K ta.length c5,⟨3,tn,ta,H,S,F⟩⟩],hE.1,rfl,HTs.snoc ((ha.out.ext D).ext Y) hh ho V he hd,?_,?_,?_,Ext.app ((hx.trans D).trans Y) he (((ha.out.ext D).row.alloc _).alloc _) (Zb _)⟩
         ·rw[ZK];exact hi
         ·rw[Zd];have:=hl.out;show _+1<=_;omega
         ·intro y hy g U;rcases Zu.1 hy with hy|hy
          ·exact hj.out y hy g U
          ·rw[Zo.1 hy] at U;have h1:=J g U;have h2:=hx.size;omega
        case measure=>have hE:=HE.out;simp[intOf];omega
       ·have hS:((tk:Int) !=3)=true:=(by rw[YU];omega);clear M hf
        go_wp2_with (first|(go_at_call 99;(with_reducible refine Za (HC.out _) ?_);rintro e5 w5 ⟨v5,rfl,⟨hA,rfl,I,J⟩,D⟩;(obtain ⟨K,c5,rfl, -, -⟩:=I.form);simp only[cellsT])|(at_builtin;refine ZH _ rfl (.tmp 45) (.tmp 47) _ rfl w.heap.size 111 i0 _ 6 80 underlying104 hF hG hH hI rfl (by decide) _ _ _ rfl (((ha.out.ext D).row.alloc _).alloc _) _ 1 (cellsT ⟨.slice K ta.length c5,⟨tk,tn,ta,H,S,F⟩⟩) rfl (Xo (n:=1) (cs:=cellsT ⟨.slice K ta.length c5,⟨tk,tn,ta,H,S,F⟩⟩) (fr:=(0,0)) (YD _ _ _) rfl (by decide)) (VK ⟨.slice K ta.length c5,⟨tk,tn,ta,H,S,F⟩⟩ rfl) hw.out hv.out ?_ ?_;(rw[Zt,Zt];have:=(hx.trans D).size;omega);intro v9 w9 V he hd))
        go_roundw
        case rel=>
         have hE:=HE.out;have Y:=((Ext.refl w5).alloc (.cells (cellsT ⟨.slice K ta.length c5,⟨tk,tn,ta,H,S,F⟩⟩).toArray 111)).alloc (.cells (cellsT ⟨.slice K ta.length c5,⟨tk,tn,ta,H,S,F⟩⟩).toArray 111);have hh:RdT _ ⟨.slice K ta.length c5,⟨tk,tn,ta,H,S,F⟩⟩:=RAts.ext I Y;have ho:awayV (.slice K ta.length c5) ta.length (Value.slice A lt.length cc).ownBlock:=(by refine (Decidable.em (ta= [])).imp (λe=>by rw[e];rfl) λht=> ?_;obtain ⟨g,U, -⟩:=RSl.old I (JU ht);rw[U];intro e;have h1:=J g U;have h2:=hz.out g e.symm;omega);refine ⟨e,lt++ [⟨.slice K ta.length c5,⟨tk,tn,ta,H,S,F⟩⟩],hE.1,rfl,HTs.snoc ((ha.out.ext D).ext Y) hh ho V he hd,?_,?_,?_,Ext.app ((hx.trans D).trans Y) he (((ha.out.ext D).row.alloc _).alloc _) (Zb _)⟩
         ·rw[ZK];exact hi
         ·rw[Zd];have:=hl.out;show _+1<=_;omega
         ·intro y hy g U;rcases Zu.1 hy with hy|hy
          ·exact hj.out y hy g U
          ·rw[Zo.1 hy] at U;have h1:=J g U;have h2:=hx.size;omega
        case measure=>have hE:=HE.out;simp[intOf];omega
      ·rw[Zg M] at X;have hi:=gd X;clear X;have hf:t.kind=3:=Decidable.not_not.1 λh=>M (Or.inl h);have hC:t.text= []:=Decidable.not_not.1 λh=>M (Or.inr h);obtain ⟨tk,tn,ta,H,S,F⟩:=t;dsimp only at hf hC;subst hf;subst hC;have hP:(str []).toList.isEmpty=true:=(by rw[Z7,Ya];rfl);clear M
       go_wp2_with (first|(go_at_call 99;(with_reducible refine Za (HC.out _) ?_);rintro e5 w5 ⟨v5,rfl,⟨hA,rfl,I,J⟩,D⟩;(obtain ⟨K,c5,rfl, -, -⟩:=I.form);simp only[cellsT]))
       go_roundw
       case rel=>have hE:=HE.out;exact ⟨e,lt,hE.1,rfl,Q.ext (D.alloc _),hi,Zv hl.out (Nat.le_of_lt hE.2),hj,(hx.trans D).alloc _⟩
       case measure=>have hE:=HE.out;simp[intOf];omega
    ·have hW:¬(k:Int)<(s.size:Int):=(by omega);have hn:R= .ok (lt.map Tc.t):=(by rw[<-hr.out,Qe (by omega)]);subst hn;clear hr hq;go_wp2
     go_ret3
     exact ⟨_,rfl,(by unfold ToksRet;exact ⟨_,lt,rfl,rfl,RSl.of_own Q.row,Q.rd,hj.out,XL Q.row⟩),hx⟩
end
end Go.Proofs.YtnlafkgkcnenfaaGreatDoor
