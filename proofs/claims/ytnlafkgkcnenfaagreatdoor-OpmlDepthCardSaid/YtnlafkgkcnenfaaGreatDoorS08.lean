/- Parts of the proof: contracts and plain laws. -/
import Derived.Test.YtnlafkgkcnenfaaGreatDoorS07
namespace Go.Proofs.YtnlafkgkcnenfaaGreatDoor
open Go Go.RowKit Tryz
set_option linter.unusedVariables false
set_option linter.unusedSimpArgs false
set_option maxRecDepth 100000
set_option maxHeartbeats 16000000
section
variable {b w:World} {base g n:Nat} {e:TypeId} {v:Value} {xs:List Value}
attribute [local go_sem] calm1
theorem Xm {size:Nat} (h:w.ownsRow base e size v n xs) (D:g<base) (i:Nat) (u:Value):(w.setCell ⟨g,i,none⟩ u).ownsRow base e size v n xs:=by
 refine h.kept (row:=some g) ⟨rfl,rfl,rfl,by simp[World.setCell],λk _ q=>Z4 w ⟨g,i,none⟩ k u (λe=>q (by rw[e]))⟩ (Or.inr λA=> ?_);have:=(h.lt g A).1;omega
theorem Zj7 {size:Nat} (h:w.ownsRow base e size v n xs):v.oneCell'=true:=by
 rcases h.2 with ⟨rfl,_⟩|⟨g,cap,q,rfl,_⟩<;>rfl
theorem Z8 {size:Nat} (h:w.ownsRow base e size v n xs):∃A c,v= .slice A n c:=by
 rcases h.2 with ⟨rfl,rfl⟩|⟨g,cap,q,rfl,_⟩
 ·exact ⟨none,0,rfl⟩
 ·exact ⟨_,cap,rfl⟩
theorem BxT.grown {a:Wq} {x:Tc} {r:Option Nat} (h:BxT a g x) (q:a.grownBy b r) (A:r≠some g):BxT b g x:=
 (q.block g (ZG.1 h).1 (λe=>A (by rw[<-e]))).trans h
theorem Zch:(prog.info? 88).map (λi=>(i.zero,i.size,i.bytes))=some (some (.agg #[eS,eS,eS,nI 0]),4,56):=by kernel_rfl
theorem ZcM (s:ByteArray) (f:Nat) (w:Wq) (hs:s.size<=16777216) (hf:f+1<=s.size):
 Calls prog 144 #[.string s,nI (f:Nat)] w λe w'=>∃v,e= .returned v/\TokRet w.heap.size w' v (startP s.data.toList f)/\Ext w w':=by
 have hU:s.size<=maxLen:=by unfold maxLen;omega
 obtain ⟨i0,gz,gL,gM,gN⟩:=Yw Zch;have hO:=ZI s;obtain ⟨R,hR⟩:∃R,startP s.data.toList f=R:=⟨_,rfl⟩;rw[hR];rw[Vt s.data.toList f (by omega)] at hR;have HN:=gd (λw'=>QG s (f+1) w' hs hf);have hE:=U5 (s:=s.data.toList) (k:=f+1) (by omega);obtain ⟨E,h9⟩:∃E,nmAt s.data.toList (f+1)=E:=⟨_,rfl⟩;rw[h9] at HN hR hE;rw[hO] at hE;clear h9;rw[show ((f+1:Nat):Int)=(f:Int)+1 by omega] at HN;have hA:=gd (BxT.alloc2 w (nilT 0 0) (nilT 1 f));have hC:=gd (BxT.alloc1 w (nilT 0 0) (nilT 1 f));have hD:=gd (((Ext.refl w).alloc (.cells (cellsT (nilT 0 0)).toArray 111)).alloc (.cells (cellsT (nilT 1 f)).toArray 111));by_cases ho:E=f+1
 ·rw[Zh ho] at hR;have hb:((E:Int)==(f:Int)+1)=true:=by rw[JI];omega
  have HM:=gd (λw'=>Xo s f E w' hU);obtain ⟨x,c,Z⟩:∃x c,missP s.data.toList f E=(x,c):=⟨_,_,rfl⟩;rw[Z] at hR HM;subst hR;clear Z ho;go_enter func144,ntmps144
  go_wp2_with (first|(go_at_call 182;(with_reducible refine Za (HN.out _) ?_);rintro e w2 ⟨rfl,M⟩;(have ha:=hA.out.ext M);(have X:=hC.out.ext M);(obtain ⟨b0,b1,b2,b3,b4,b5,b6,b7,b8⟩:=ha.cells))|(go_at_call 184;(with_reducible refine Za (HM.out _) ?_);rintro e w3 ⟨rfl,rfl⟩)|(refine Zd rfl 111 (.tmp 4) (.tmp 37) rfl w.heap.size _ rfl rfl _ _ X Z1 rfl (Y9 (nilT 1 f) rfl) ?_))
  ((try simp only[Exit.inBlock,Exit.then]);refine Zl (Zn rfl _ _ _ _ _ _ _ rfl (Zm _ _ _ _ _ _ X) underlying111 rfl Z1) rfl ?_);exact ⟨_,rfl,⟨nilT 1 f,rfl,rfl⟩,(hD.out.trans M).setRow (Zb _) _⟩
 ·rw[Ze ho] at hR;have hb:((E:Int)==(f:Int)+1)=false:=by rw[Zy];omega
  obtain ⟨H,hJ⟩:∃H,(s.data.toList.drop (f+1)).take (E - (f+1))=H:=⟨_,rfl⟩;have gF:=K3 s (f+1) E ((f:Int)+1) (E:Nat) H (by omega) rfl hE.1 hE.2 hJ;rw[hJ] at hR;have HR:=gd hR;clear ho hJ hR;go_enter func144,ntmps144
  go_wp2_with (first|(go_at_call 182;(with_reducible refine Za (HN.out _) ?_);rintro e w2 ⟨rfl,M⟩;(have ha:=hA.out.ext M);(have X:=hC.out.ext M);(obtain ⟨b0,b1,b2,b3,b4,b5,b6,b7,b8⟩:=ha.cells)))
  have h6:=ha.name H;have gc:BxT (w2.setCell ⟨w.heap.size+1,1,none⟩ (.string (str H))) w.heap.size _:=X.other (by omega);have gg:=(hD.out.trans M).setCell (p:=⟨w.heap.size+1,1,none⟩) (by show _<=w.heap.size+1;omega) (.string (str H));have gf:w.heap.size+2<=w2.heap.size:=by have h1:=M.size;rw[Zq,Zq] at h1;omega
  clear b0 b1 b2 b3 b4 b5 b6 b7 b8 ha X hA hC hD gF hb;go_loopw [8] (λv wr=>∃(k:Nat) (l:List AtP) (al:Value),k<=s.size/\v=nI k/\Hid (startAt s.data.toList f H k l=R)/\BxT wr (w.heap.size+1) ⟨al,⟨1,H,l,false,[],f⟩⟩/\BxT wr w.heap.size (nilT 0 0)/\wr.ownsRow (w.heap.size+2) 88 4 al l.length (flatA l)/\Ext w wr/\w.heap.size+2<=wr.heap.size/\Hid (l.length<=k)) (λv _=>s.size - (intOf v).toNat)
  case atStart=>exact ⟨E,[],sN,hE.2,rfl,HR,h6,gc,YL _ _ _ _,gg,by simpa using gf,Zk _⟩
  case round=>
   clear h6 gc gg gf;obtain ⟨k,l,al,hk,rfl,hr,hB,I,F,hx,gV,he⟩:=hrel;have q:=hr.out;rw[JB s.data.toList f H k l (by omega)] at q;have V:=gd (λw'=>Uh s k w' hs hk);have hN:=Ux (s:=s.data.toList) (k:=k) (by omega);have gB:=U9 s.data.toList k;obtain ⟨N,ga⟩:∃N,spAt s.data.toList k=N:=⟨_,rfl⟩;rw[ga] at V q hN gB;rw[hO] at hN;clear ga hr;have HA:=gd (λw'=>YT s [62] N w' hs (by omega) (by decide) (by decide));have S:=gd (λw'=>YT s [47,62] N w' hs (by omega) (by decide) (by decide));have HC:=gd (λw'=>YT s [47] N w' hs (by omega) (by decide) (by decide));obtain ⟨b0,b1,b2,b3,b4,b5,b6,b7,b8⟩:=hB.cells;have D:=Zj7 F;dsimp only at b0 b1 b2 b3 b4 b5;cases h1:hasAt s.data.toList N [62] with
   |true=>
    rw[h1,Zh rfl] at q;rw[h1] at HA;subst q;clear h1
    go_wp2_with (first|(go_at_call 183;(with_reducible refine Za (V.out _) ?_);rintro e w3 ⟨rfl,rfl⟩)|(go_at_call 98;(first|(with_reducible refine Za (HA.out _) ?_)|(with_reducible refine Za (S.out _) ?_)|(with_reducible refine Za (HC.out _) ?_));rintro e w3 ⟨rfl,rfl⟩)|(refine Zd rfl 111 (.tmp 4) (.tmp 53) rfl w.heap.size _ rfl rfl _ _ I Z1 rfl (Y9 ⟨al,⟨1,H,l,false,[],f⟩⟩ D) ?_))
    ((try simp only[Exit.inBlock,Exit.then]);refine Zl (Zn rfl _ _ _ _ _ _ _ rfl (Zm _ _ _ _ _ _ I) underlying111 rfl Z1) rfl ?_);exact ⟨_,rfl,⟨al,rfl,RSl.of_own (Jf F (by omega) _),(λg hg=>by have:=XF F g hg;omega)⟩,hx.setRow (Zb _) _⟩
   |false=>
    rw[h1,Ze (by simp)] at q;rw[h1] at HA;clear h1;cases h2:hasAt s.data.toList N [47,62] with
    |true=>
     rw[h2,Zh rfl] at q;rw[h2] at S;subst q;have ha:=hB.empty true;have X:BxT (wr.setCell ⟨w.heap.size+1,3,none⟩ (.bool true)) w.heap.size _:=I.other (by omega);have hX:=Xm F (g:=w.heap.size+1) (by omega) 3 (.bool true);have M:=hx.setCell (p:=⟨w.heap.size+1,3,none⟩) (by show _<=w.heap.size+1;omega) (.bool true);obtain ⟨c0,c1,c2,c3,c4,c5,c6,c7,c8⟩:=ha.cells;dsimp only at c0 c1 c2 c3 c4 c5;clear h2
     go_wp2_with (first|(go_at_call 183;(with_reducible refine Za (V.out _) ?_);rintro e w3 ⟨rfl,rfl⟩)|(go_at_call 98;(first|(with_reducible refine Za (HA.out _) ?_)|(with_reducible refine Za (S.out _) ?_)|(with_reducible refine Za (HC.out _) ?_));rintro e w3 ⟨rfl,rfl⟩)|(refine Zd rfl 111 (.tmp 4) (.tmp 61) rfl w.heap.size _ rfl rfl _ _ X Z1 rfl (Y9 ⟨al,⟨1,H,l,true,[],f⟩⟩ D) ?_))
     ((try simp only[Exit.inBlock,Exit.then]);refine Zl (Zn rfl _ _ _ _ _ _ _ rfl (Zm _ _ _ _ _ _ X) underlying111 rfl Z1) rfl ?_);exact ⟨_,rfl,⟨al,rfl,RSl.of_own (Jf hX (by omega) _),(λg hg=>by have:=XF F g hg;omega)⟩,M.setRow (Zb _) _⟩
    |false=>
     rw[h2,Ze (by simp)] at q;rw[h2] at S;clear h2;cases h3:hasAt s.data.toList N [47] with
     |true=>
      have gR:=Xt h3;rw[h3,Zh rfl] at q;rw[h3] at HC;have HM:=gd (λw'=>Xo s f (N+1) w' hU);rw[show ((N+1:Nat):Int)=(N:Int)+1 by omega] at HM;obtain ⟨x,c,Z⟩:∃x c,missP s.data.toList f (N+1)=(x,c):=⟨_,_,rfl⟩;rw[Z] at q HM;subst q;clear Z h3
      go_wp2_with (first|(go_at_call 183;(with_reducible refine Za (V.out _) ?_);rintro e w3 ⟨rfl,rfl⟩)|(go_at_call 98;(first|(with_reducible refine Za (HA.out _) ?_)|(with_reducible refine Za (S.out _) ?_)|(with_reducible refine Za (HC.out _) ?_));rintro e w3 ⟨rfl,rfl⟩)|(go_at_call 184;(with_reducible refine Za (HM.out _) ?_);rintro e w3 ⟨rfl,rfl⟩)|(refine Zd rfl 111 (.tmp 4) (.tmp 76) rfl w.heap.size _ rfl rfl _ _ I Z1 rfl (Y9 ⟨al,⟨1,H,l,false,[],f⟩⟩ D) ?_))
      ((try simp only[Exit.inBlock,Exit.then]);refine Zl (Zn rfl _ _ _ _ _ _ _ rfl (Zm _ _ _ _ _ _ I) underlying111 rfl Z1) rfl ?_);exact ⟨_,rfl,⟨⟨al,⟨1,H,l,false,[],f⟩⟩,rfl,D⟩,hx.setRow (Zb _) _⟩
     |false=>
      rw[h3,Ze (by simp)] at q;rw[h3] at HC;clear h3;by_cases hp:N=k
      ·rw[Zh hp] at q;have gi:((N:Int)==(k:Int))=true:=(by rw[JI];omega);have HM:=gd (λw'=>Xo s f k w' hU);obtain ⟨x,c,Z⟩:∃x c,missP s.data.toList f k=(x,c):=⟨_,_,rfl⟩;rw[Z] at q HM;subst q;clear Z hp
       go_wp2_with (first|(go_at_call 183;(with_reducible refine Za (V.out _) ?_);rintro e w3 ⟨rfl,rfl⟩)|(go_at_call 98;(first|(with_reducible refine Za (HA.out _) ?_)|(with_reducible refine Za (S.out _) ?_)|(with_reducible refine Za (HC.out _) ?_));rintro e w3 ⟨rfl,rfl⟩)|(go_at_call 184;(with_reducible refine Za (HM.out _) ?_);rintro e w3 ⟨rfl,rfl⟩)|(refine Zd rfl 111 (.tmp 4) (.tmp 90) rfl w.heap.size _ rfl rfl _ _ I Z1 rfl (Y9 ⟨al,⟨1,H,l,false,[],f⟩⟩ D) ?_))
       ((try simp only[Exit.inBlock,Exit.then]);refine Zl (Zn rfl _ _ _ _ _ _ _ rfl (Zm _ _ _ _ _ _ I) underlying111 rfl Z1) rfl ?_);exact ⟨_,rfl,⟨⟨al,⟨1,H,l,false,[],f⟩⟩,rfl,D⟩,hx.setRow (Zb _) _⟩
      ·rw[Ze hp] at q;have gi:((N:Int)==(k:Int))=false:=(by rw[Zy];omega);clear hp;have hc:=gd (λw'=>Zel s f N w' hs (by omega) hN);cases J:attrP s.data.toList f N with
       |error xc=>
        obtain ⟨x,c⟩:=xc;have gy:=Za3 J;have gS:((c:Int) !=0)=true:=(by rw[YI];omega);rw[J] at q hc;dsimp only at q;subst q;clear J gy
        go_wp2_with (first|(go_at_call 183;(with_reducible refine Za (V.out _) ?_);rintro e w3 ⟨rfl,rfl⟩)|(go_at_call 98;(first|(with_reducible refine Za (HA.out _) ?_)|(with_reducible refine Za (S.out _) ?_)|(with_reducible refine Za (HC.out _) ?_));rintro e w3 ⟨rfl,rfl⟩)|(go_at_call 185;(with_reducible refine Za (hc.out _) ?_);rintro e w5 ⟨v5,rfl,⟨a5,rfl⟩,hj⟩;simp only[cellsA];(have Q:=hj.alloc (.cells #[.string (str a5.space),.string (str a5.name),.string (str a5.value),nI (a5.at_:Nat)] 88));(have hm:=hB.ext Q);(have hd:=I.ext Q);(obtain ⟨c0,c1,c2,c3,c4,c5,c6,c7,c8⟩:=hm.cells))|(refine Zd rfl 111 (.tmp 4) (.tmp 103) rfl w.heap.size _ rfl rfl _ _ hd Z1 rfl (Y9 ⟨al,⟨1,H,l,false,[],f⟩⟩ D) ?_))
        ((try simp only[Exit.inBlock,Exit.then]);refine Zl (Zn rfl _ _ _ _ _ _ _ rfl (Zm _ _ _ _ _ _ hd) underlying111 rfl Z1) rfl ?_);exact ⟨_,rfl,⟨⟨al,⟨1,H,l,false,[],f⟩⟩,rfl,D⟩,(hx.trans Q).setRow (Zb _) _⟩
       |ok ae=>
   obtain ⟨⟨sp,an,av,gu⟩,e⟩:=ae;obtain ⟨gC,hQ,hM,gl⟩:=Qn (by omega) J;rw[hO] at hQ;dsimp only at hM gl;have gh:N=gu:=hM.symm;clear hM;subst gh;subst gl;rw[J] at q hc;dsimp only at q;obtain ⟨A,c,rfl⟩:=Z8 F;have gb:k<e:=(by omega);have HE:=gd (show e<=s.size/\k<e/\l.length+1<=e from ⟨hQ,gb,by have:=he.out;omega⟩);have hl:=gd q;clear J gC hQ q gb
   go_wp2_with (first|(go_at_call 183;(with_reducible refine Za (V.out _) ?_);rintro e w3 ⟨rfl,h3⟩;(have hG:=h3.symm);clear h3;subst hG)|(go_at_call 98;(first|(with_reducible refine Za (HA.out _) ?_)|(with_reducible refine Za (S.out _) ?_)|(with_reducible refine Za (HC.out _) ?_));rintro e w3 ⟨rfl,h3⟩;(have hG:=h3.symm);clear h3;subst hG)|(go_at_call 185;(with_reducible refine Za (hc.out _) ?_);rintro e5 w5 ⟨v5,rfl,hP,hj⟩;(replace hP:v5=_:=hP);subst hP;simp only[cellsA]))
   obtain ⟨wP,gI⟩:∃wP:Wq,wP=wr:=⟨_,rfl⟩;subst gI;obtain ⟨W,hW⟩:∃W,w5.alloc (.cells #[.string (str []),.string (str an),.string (str av),nI (N:Nat)] 88)=W:=⟨_,rfl⟩;have Q:Ext wP W:=(by rw[<-hW];exact hj.alloc _);have hH:BxA W w5.heap.size ⟨[],an,av,N⟩:=(by rw[<-hW];exact Zg _ _);rw[hW];have hm:=hB.ext Q;have hd:=I.ext Q;have hY:=Ye F Q;have gm:=hx.trans Q;have gD:=Q.size;obtain ⟨g5,gj⟩:∃g,w5.heap.size=g:=⟨_,rfl⟩;have gp:=gd (show w.heap.size+2<=g5 by have:=hj.size;omega);rw[gj] at hH|-;clear hW gj hj Q b0 b1 b2 b3 b4 b5 b6 b7 b8 hB I F hx V HA S HC hc gi;go_loopw [19] (λv w7=>∃i:Nat,i<=l.length/\v=nI i/\Hid (∀t,t<i->∀ht:t<l.length,l[t].name≠an)/\Ext W w7) (λv _=>l.length - (intOf v).toNat)
   case atStart=>exact ⟨0,Zk _,rfl,(by intro t ht;omega),Ext.refl _⟩
   case round=>
    obtain ⟨i,hi,rfl,hV,Y⟩:=hrel;have gU:l.length<=16777216:=(by have:=he.out;omega);have hn:=hm.ext Y;have hL:=hd.ext Y;have hI:=hH.ext Y;have U:=Ye hY Y;obtain ⟨b0,b1,b2,b3,b4,b5,b6,b7,b8⟩:=hn.cells;dsimp only at b0 b1 b2 b3 b4 b5;obtain ⟨a0,a1,a2,a3, -⟩:=hI.cells;dsimp only at a0 a1 a2 a3;by_cases hT:i<l.length
    ·obtain ⟨ad,c',hv,J⟩:=RAts.at (RSl.of_own U) hT;injection hv with hv1 hv2 hv3;subst hv1;clear hv2 hv3;obtain ⟨x,hZ⟩:∃x,l[i]=x:=⟨_,rfl⟩;rw[hZ] at J;have e1:=J.c1;have gP:(0:Int)<=(i:Int):=(by omega);have gT:(i:Int)<(l.length:Int):=(by omega);have q2:∀d:Aft wr,d.w.cell? ⟨w.heap.size+1,2,none⟩=some (.slice (some ad) l.length c):=Aft.cell b2;have q1:∀d:Aft wr,d.w.cell? ⟨(ad.add (i*4)).block,(ad.add (i*4)).off+1,none⟩=some (.string (str x.name)):=Aft.cell e1;have qa:∀d:Aft wr,d.w.cell? ⟨g5,1,none⟩=some (.string (str an)):=Aft.cell a1;have hF:=gd hZ;clear hZ J e1;cases hid:((str x.name).toList==(str an).toList) with
     |true=>
      have gx:R= .error (N,10):=by
       have h0:=hl.out;rw[Zh ?_] at h0
       ·exact h0.symm
       ·rw[Xp];refine ⟨x,by rw[<-hF.out];exact ZL hT,?_⟩;have h1:str x.name=str an:=toList_inj (by simpa using hid);have h2:=Zz (λz:ByteArray=>z.data.toList) h1;simp only[Z5] at h2;simpa using h2
      subst gx;clear hl hF;go_wp2;refine rA ?_
      repeat (first|go_big_quiet_step (skip)|quiet_step (skip))
      refine YH ?_;rintro _ ⟨d1,rfl⟩;have gJ:=Y.trans d1.ext;clear q1 q2 qa b0 b1 b2 b3 b4 b5 b6 b7 b8 a0 a1 a2 a3 hid hn hL hI;go_wp2;have hz:=gJ.drew;have ge:=hd.ext hz;obtain ⟨p0,p1,p2,p3,p4,p5, -, -, -⟩:=(hm.ext hz).cells;dsimp only at p0 p1 p2 p3 p4 p5;have pa:d1.w.drew.cell? ⟨g5,3,none⟩=some (nI (N:Nat)):=(hH.ext hz).cells.2.2.2.1;have hw:g5≠w.heap.size:=(by have:=gp.out;omega);have pb:=(ZU (a:=⟨g5,3,none⟩) (ZY d1.w.drew w.heap.size g5 (cellsT ⟨.slice (some ad) l.length c,⟨1,H,l,false,[],f⟩⟩).toArray hw)).trans pa;refine rN ?_;change wpAny _ _ _ _ _ _ _ (World.drew _);refine tH 1 (.pointer (some ⟨g5,3,none⟩)) ?_;refine YZ (i:=2) (v:=nI (N:Nat)) (λw'=>w'.cell? ⟨g5,3,none⟩=some (nI (N:Nat))) 4 rfl (by kernel_rfl) (λ_ _ _ h=>h) (Or.inl ⟨by rfl,λw' hS=>by have hq:w'.cell? ⟨g5,3,none⟩=some (nI (N:Nat)):=hS;go_simp⟩) pa ?_;go_simp;refine YV 4 [5] (AtIx.cons rfl (AtIx.cons rfl AtIx.nil)) [0,3] (AtIx.cons rfl (AtIx.cons rfl AtIx.nil)) rfl (by kernel_rfl) ?_;refine (ZQ ?_:wpListS _ _ _ _ _ (_::_) _ _);intro K hK;go_simp;refine hK _ _ pa ?_;clear hK K;refine (ZQ ?_:wpListS _ _ _ _ _ (_::_) _ _);intro K hK;refine Yc rfl 111 (.tmp 4) (.tmp 122) rfl w.heap.size _ rfl rfl _ _ ge Z1 rfl (Y9 ⟨.slice (some ad) l.length c,⟨1,H,l,false,[],f⟩⟩ rfl) ?_;refine hK _ _ pb ?_;clear hK K;refine YW ?_;clear p0 p1 p2 p3 p4 p5 pa pb;go_wp2;((try simp only[Exit.inBlock,Exit.then]);refine Zl (Zn rfl _ _ _ _ _ _ _ rfl (Zm _ _ _ _ _ _ ge) underlying111 rfl Z1) rfl ?_);exact ⟨_,rfl,⟨⟨.slice (some ad) l.length c,⟨1,H,l,false,[],f⟩⟩,rfl,rfl⟩,(gm.trans hz).setRow (Zb _) _⟩
     |false=>
      have hw:x.name≠an:=(by intro h;rw[h] at hid;simp at hid);have gr:=gd hw;clear hw;go_wp2;refine rA ?_
      repeat (first|go_big_quiet_step (skip)|quiet_step (skip))
      refine YH ?_;rintro _ ⟨d1,rfl⟩;clear q1 q2 qa;go_wp2;go_roundw
      case rel=>
       refine ⟨i+1,by omega,by go_num,?_,Y.trans d1.ext⟩;intro t ht gH;by_cases gG:t<i
       ·exact hV.out t gG gH
       ·have:t=i:=(by omega);subst this;rw[hF.out];exact gr.out
      case measure=>simp[intOf];omega
    ·have gA:i=l.length:=(by omega);subst gA;have gQ:¬(l.length:Int)<(l.length:Int):=(by omega);have gs:Hid (startAt s.data.toList f H e (l++ [⟨[],an,av,N⟩])=R):=by
      have h0:=hl.out;rw[Ze ?_] at h0
      ·exact h0
      ·intro h;obtain ⟨y,hy,gK⟩:=Xp.1 h;obtain ⟨t,ht,rfl⟩:=List.getElem_of_mem hy;exact hV.out t ht ht (by simpa using gK)
     have h4:=gd U;have gn:=gd hn;have gt:=gd hL;have gq:=gd (show l.length+1<=maxLen by have:=he.out;unfold maxLen;omega);have go:=gd (show (l.length+1)*56<=140737488355328 by have:=he.out;omega);have gE:=Y.size;have h5:=gd (show w.heap.size+2<=wr.heap.size+1 by omega);have gk:=XF U;clear hl hV U hn hL hI he hi hT gD gE
     go_wp2_with (first|(at_builtin;refine ZJ _ rfl (.tmp 126) (.tmp 128) _ rfl (w.heap.size+2) 88 i0 _ 4 56 underlying22 gz gL gM gN rfl (by decide) _ _ _ rfl (h4.out.alloc _) _ 1 (cellsA ⟨[],an,av,N⟩) rfl (Yn rfl (by decide)) (J0 _) gq.out go.out ?_ ?_;(rw[Zq];exact h5.out);intro v9 w9 hh hu gO;(obtain ⟨A9,c9,rfl⟩:=Z8 hh);(have h8:=(gn.out.ext ((Ext.refl _).alloc _)).grown hu (λe=>by have:=gk _ e;omega));(have gw:=(gt.out.ext ((Ext.refl _).alloc _)).grown hu (λe=>by have:=gk _ e;omega));(obtain ⟨c0,c1,c2,c3,c4,c5,c6,c7,c8⟩:=h8.cells)))
     go_roundw
     case rel=>
      have hE:=HE.out;refine ⟨e,l++ [⟨[],an,av,N⟩],_,hE.1,rfl,gs,h8.attrs _ _,gw.other (by omega),?_,?_,?_,?_⟩
      ·rw[QW,QY,Zc];exact Xm hh (by omega) _ _
      ·exact (Ext.app ((gm.trans Y).alloc _) hu (h4.out.alloc _) (by omega)).setCell (by show _<=w.heap.size+1;omega) _
      ·have:=hu.size;rw[Zq] at this;have h7:=h5.out;show _<=(w9.setCell ⟨w.heap.size+1,2,none⟩ (.slice A9 (l.length+1) c9)).heap.size;rw[show (w9.setCell ⟨w.heap.size+1,2,none⟩ (.slice A9 (l.length+1) c9)).heap.size=w9.heap.size by simp[World.setCell]];omega
      ·rw[Zc];exact hE.2.2
     case measure=>have hE:=HE.out;simp[intOf];omega
end
section
variable {v:Value} {w w':World}
theorem BxT.alloc0 (w:Wq) (x:Tc):BxT (w.alloc (.cells (cellsT x).toArray 111)) w.heap.size x:=Zg w _
theorem RAts.grown {l:List AtP} {r:Option Nat} (h:RAts w v l) (A:w.grownBy w' r) (F:∀g,v.ownBlock=some g->r≠some g):RAts w' v l:=by
 by_cases D:flatA l= []
 ·exact RSl.grown h A (Or.inl D)
 ·obtain ⟨g,q,_⟩:=RSl.old h D;exact RSl.grown h A (Or.inr (by rw[q];exact λe=>F g q e.symm))
theorem RAts.one {l:List AtP} (h:RAts w v l):v.oneCell'=true:=by
 obtain ⟨A,c,e,_⟩:=h.form;rw[e];rfl
theorem Vr (s:ByteArray) (f:Nat) (w:Wq) (hs:s.size<=16777216) (hf:f<s.size):
 Calls prog 99 #[.string s,nI (f:Nat)] w λe w'=>∃v,e= .returned v/\TokRet w.heap.size w' v (constructP s.data.toList f)/\Ext w w':=by
 have hp:s.size<=maxLen:=by unfold maxLen;omega
 have hb:=ZI s;obtain ⟨R,F⟩:∃R,constructP s.data.toList f=R:=⟨_,rfl⟩;rw[F];unfold constructP at F;have H:=gd (BxT.alloc0 w (nilT 0 0));have Y:=gd ((Ext.refl w).alloc (.cells (cellsT (nilT 0 0)).toArray 111));have J:=gd (λw'=>YT s [60,63] f w' hs (by omega) (by decide) (by decide));have K:=gd (λw'=>YT s [60,33,45,45] f w' hs (by omega) (by decide) (by decide));have M:=gd (λw'=>YT s [60,33,91,67,68,65,84,65,91] f w' hs (by omega) (by decide) (by decide));have Q:=gd (λw'=>YT s [60,33,68,79,67,84,89,80,69] f w' hs (by omega) (by decide) (by decide));have S:=gd (λw'=>YT s [60,33] f w' hs (by omega) (by decide) (by decide));have U:=gd (λw'=>YT s [60,47] f w' hs (by omega) (by decide) (by decide));have V:=gd (λw'=>YT s [60] f w' hs (by omega) (by decide) (by decide));cases hh0:hasAt s.data.toList f [60,63] with
 |true=>
  rw[hh0,Zh rfl] at F;rw[hh0] at J;have Z:f+2<=s.size:=by have:=Xt hh0;rw[hb] at this;simpa using this
  have q:=λw'=>QH s f [60,63] [63,62] w' hs Z (by decide) (by decide);rw[show ([60,63]:List UInt8).length=2 from rfl] at q;cases hsk:skipP s.data.toList f 2 [63,62] with
  |error xc=>
   obtain ⟨x,c⟩:=xc;rw[hsk] at F q;dsimp only at F q;subst F;have hc:=UJ hsk;have ha:=gd q;clear hsk hc q hh0;go_enter func99,ntmps99
   go_wp2_with (first|(go_at_call 98;(first|(with_reducible refine Za (J.out _) ?_)|(with_reducible refine Za (K.out _) ?_)|(with_reducible refine Za (M.out _) ?_)|(with_reducible refine Za (Q.out _) ?_)|(with_reducible refine Za (S.out _) ?_)|(with_reducible refine Za (U.out _) ?_)|(with_reducible refine Za (V.out _) ?_));rintro e w3 ⟨rfl,rfl⟩)|(go_at_call 141;(with_reducible refine Za (ha.out _) ?_);rintro e w3 ⟨rfl,rfl⟩)|(refine Zd rfl 111 (.tmp 4) (.tmp 26) rfl w.heap.size _ rfl rfl _ _ H.out Z1 rfl (Y9 (nilT 3 0) rfl) ?_))
   ((try simp only[Exit.inBlock,Exit.then]);refine Zl (Zn rfl _ _ _ _ _ _ _ rfl (Zm _ _ _ _ _ _ H.out) underlying111 rfl Z1) rfl ?_);exact ⟨_,rfl,⟨nilT 3 0,rfl,rfl⟩,Y.out.setRow (Zb _) _⟩
  |ok to_=>
   rw[hsk] at F q;dsimp only at F q;subst F;have ha:=gd q;clear hsk q hh0;go_enter func99,ntmps99
   go_wp2_with (first|(go_at_call 98;(first|(with_reducible refine Za (J.out _) ?_)|(with_reducible refine Za (K.out _) ?_)|(with_reducible refine Za (M.out _) ?_)|(with_reducible refine Za (Q.out _) ?_)|(with_reducible refine Za (S.out _) ?_)|(with_reducible refine Za (U.out _) ?_)|(with_reducible refine Za (V.out _) ?_));rintro e w3 ⟨rfl,rfl⟩)|(go_at_call 141;(with_reducible refine Za (ha.out _) ?_);rintro e w3 ⟨rfl,rfl⟩)|(refine Zd rfl 111 (.tmp 4) (.tmp 26) rfl w.heap.size _ rfl rfl _ _ H.out Z1 rfl (Y9 (nilT 3 0) rfl) ?_))
   ((try simp only[Exit.inBlock,Exit.then]);refine Zl (Zn rfl _ _ _ _ _ _ _ rfl (Zm _ _ _ _ _ _ H.out) underlying111 rfl Z1) rfl ?_);exact ⟨_,rfl,⟨_,rfl,RAts.nil _,(by intro g h;cases h)⟩,Y.out.setRow (Zb _) _⟩
 |false=>
  rw[hh0,Ze (by simp)] at F;rw[hh0] at J;cases hh1:hasAt s.data.toList f [60,33,45,45] with
  |true=>
   rw[hh1,Zh rfl] at F;rw[hh1] at K;have Z:f+4<=s.size:=(by have:=Xt hh1;rw[hb] at this;simpa using this);have q:=λw'=>QH s f [60,33,45,45] [45,45,62] w' hs Z (by decide) (by decide);rw[show ([60,33,45,45]:List UInt8).length=4 from rfl] at q;cases hsk:skipP s.data.toList f 4 [45,45,62] with
   |error xc=>
    obtain ⟨x,c⟩:=xc;rw[hsk] at F q;dsimp only at F q;subst F;have hc:=UJ hsk;have ha:=gd q;clear hsk hc q hh0 hh1;go_enter func99,ntmps99
    go_wp2_with (first|(go_at_call 98;(first|(with_reducible refine Za (J.out _) ?_)|(with_reducible refine Za (K.out _) ?_)|(with_reducible refine Za (M.out _) ?_)|(with_reducible refine Za (Q.out _) ?_)|(with_reducible refine Za (S.out _) ?_)|(with_reducible refine Za (U.out _) ?_)|(with_reducible refine Za (V.out _) ?_));rintro e w3 ⟨rfl,rfl⟩)|(go_at_call 141;(with_reducible refine Za (ha.out _) ?_);rintro e w3 ⟨rfl,rfl⟩)|(refine Zd rfl 111 (.tmp 4) (.tmp 39) rfl w.heap.size _ rfl rfl _ _ H.out Z1 rfl (Y9 (nilT 3 0) rfl) ?_))
    ((try simp only[Exit.inBlock,Exit.then]);refine Zl (Zn rfl _ _ _ _ _ _ _ rfl (Zm _ _ _ _ _ _ H.out) underlying111 rfl Z1) rfl ?_);exact ⟨_,rfl,⟨nilT 3 0,rfl,rfl⟩,Y.out.setRow (Zb _) _⟩
   |ok to_=>
    rw[hsk] at F q;dsimp only at F q;subst F;have ha:=gd q;clear hsk q hh0 hh1;go_enter func99,ntmps99
    go_wp2_with (first|(go_at_call 98;(first|(with_reducible refine Za (J.out _) ?_)|(with_reducible refine Za (K.out _) ?_)|(with_reducible refine Za (M.out _) ?_)|(with_reducible refine Za (Q.out _) ?_)|(with_reducible refine Za (S.out _) ?_)|(with_reducible refine Za (U.out _) ?_)|(with_reducible refine Za (V.out _) ?_));rintro e w3 ⟨rfl,rfl⟩)|(go_at_call 141;(with_reducible refine Za (ha.out _) ?_);rintro e w3 ⟨rfl,rfl⟩)|(refine Zd rfl 111 (.tmp 4) (.tmp 39) rfl w.heap.size _ rfl rfl _ _ H.out Z1 rfl (Y9 (nilT 3 0) rfl) ?_))
    ((try simp only[Exit.inBlock,Exit.then]);refine Zl (Zn rfl _ _ _ _ _ _ _ rfl (Zm _ _ _ _ _ _ H.out) underlying111 rfl Z1) rfl ?_);exact ⟨_,rfl,⟨_,rfl,RAts.nil _,(by intro g h;cases h)⟩,Y.out.setRow (Zb _) _⟩
  |false=>
   rw[hh1,Ze (by simp)] at F;rw[hh1] at K;cases hh2:hasAt s.data.toList f [60,33,91,67,68,65,84,65,91] with
   |true=>
    rw[hh2,Zh rfl] at F;rw[hh2] at M;have Z:f+9<=s.size:=(by have:=Xt hh2;rw[hb] at this;simpa using this);have q:=λw'=>QH s f [60,33,91,67,68,65,84,65,91] [93,93,62] w' hs Z (by decide) (by decide);rw[show ([60,33,91,67,68,65,84,65,91]:List UInt8).length=9 from rfl] at q;cases hsk:skipP s.data.toList f 9 [93,93,62] with
    |error xc=>
     obtain ⟨x,c⟩:=xc;rw[hsk] at F q;dsimp only at F q;subst F;have hc:=UJ hsk;have ha:=gd q;obtain ⟨rfl,rfl⟩:=hc;clear hsk q hh0 hh1 hh2;go_enter func99,ntmps99
     go_wp2_with (first|(go_at_call 98;(first|(with_reducible refine Za (J.out _) ?_)|(with_reducible refine Za (K.out _) ?_)|(with_reducible refine Za (M.out _) ?_)|(with_reducible refine Za (Q.out _) ?_)|(with_reducible refine Za (S.out _) ?_)|(with_reducible refine Za (U.out _) ?_)|(with_reducible refine Za (V.out _) ?_));rintro e w3 ⟨rfl,rfl⟩)|(go_at_call 141;(with_reducible refine Za (ha.out _) ?_);rintro e w3 ⟨rfl,rfl⟩)|(refine Zd rfl 111 (.tmp 4) (.tmp 54) rfl w.heap.size _ rfl rfl _ _ H.out Z1 rfl (Y9 (nilT 0 0) rfl) ?_))
     ((try simp only[Exit.inBlock,Exit.then]);refine Zl (Zn rfl _ _ _ _ _ _ _ rfl (Zm _ _ _ _ _ _ H.out) underlying111 rfl Z1) rfl ?_);exact ⟨_,rfl,⟨nilT 0 0,rfl,rfl⟩,Y.out.setRow (Zb _) _⟩
    |ok z=>
     have hl:=Kt (by rw[hb];exact Z) hsk;rw[hb] at hl;have ho:f+9+3<=z:=hl.1;rw[hsk] at F q;dsimp only at F q;subst F;have ha:=gd q;obtain ⟨L,hL⟩:∃L,(s.data.toList.drop (f+9)).take (z - 3 - (f+9))=L:=⟨_,rfl⟩;have hq:=K3 s (f+9) (z - 3) ((f:Int)+9) ((z:Int) - 3) L (by omega) (by omega) (by omega) (by omega) hL;have hm:L.length<=s.size:=(by rw[<-hL,ZD,Zj];omega);rw[hL];have hk:=gd (λw'=>Kn (str L) w' (by rw[Yu];omega));rw[Z5] at hk;clear hL hsk hm q hh0 hh1 hh2;go_enter func99,ntmps99
     go_wp2_with (first|(go_at_call 98;(first|(with_reducible refine Za (J.out _) ?_)|(with_reducible refine Za (K.out _) ?_)|(with_reducible refine Za (M.out _) ?_)|(with_reducible refine Za (Q.out _) ?_)|(with_reducible refine Za (S.out _) ?_)|(with_reducible refine Za (U.out _) ?_)|(with_reducible refine Za (V.out _) ?_));rintro e w3 ⟨rfl,rfl⟩)|(go_at_call 141;(with_reducible refine Za (ha.out _) ?_);rintro e w3 ⟨rfl,rfl⟩)|(go_at_call 142;(with_reducible refine Za (hk.out _) ?_);rintro e w4 ⟨rfl,D⟩;(have A:=H.out.ext D))|(refine Zd rfl 111 (.tmp 4) (.tmp 65) rfl w.heap.size _ rfl rfl _ _ A Z1 rfl (Y9 ⟨sN,dataT (lns L) f⟩ rfl) ?_))
     ((try simp only[Exit.inBlock,Exit.then]);refine Zl (Zn rfl _ _ _ _ _ _ _ rfl (Zm _ _ _ _ _ _ A) underlying111 rfl Z1) rfl ?_);exact ⟨_,rfl,⟨_,rfl,RAts.nil _,(by intro g h;cases h)⟩,(Y.out.trans D).setRow (Zb _) _⟩
   |false=>
    rw[hh2,Ze (by simp)] at F;rw[hh2] at M;cases hh3:hasAt s.data.toList f [60,33,68,79,67,84,89,80,69] with
    |true=>
     rw[hh3,Zh rfl] at F;rw[hh3] at Q;subst F;clear hh0 hh1 hh2 hh3;go_enter func99,ntmps99
     go_wp2_with (first|(go_at_call 98;(first|(with_reducible refine Za (J.out _) ?_)|(with_reducible refine Za (K.out _) ?_)|(with_reducible refine Za (M.out _) ?_)|(with_reducible refine Za (Q.out _) ?_)|(with_reducible refine Za (S.out _) ?_)|(with_reducible refine Za (U.out _) ?_)|(with_reducible refine Za (V.out _) ?_));rintro e w3 ⟨rfl,rfl⟩)|(refine Zd rfl 111 (.tmp 4) (.tmp 71) rfl w.heap.size _ rfl rfl _ _ H.out Z1 rfl (Y9 (nilT 0 0) rfl) ?_))
     ((try simp only[Exit.inBlock,Exit.then]);refine Zl (Zn rfl _ _ _ _ _ _ _ rfl (Zm _ _ _ _ _ _ H.out) underlying111 rfl Z1) rfl ?_);exact ⟨_,rfl,⟨nilT 0 0,rfl,rfl⟩,Y.out.setRow (Zb _) _⟩
    |false=>
     rw[hh3,Ze (by simp)] at F;rw[hh3] at Q;cases hh4:hasAt s.data.toList f [60,33] with
     |true=>
      rw[hh4,Zh rfl] at F;rw[hh4] at S;subst F;clear hh0 hh1 hh2 hh3 hh4;go_enter func99,ntmps99
      go_wp2_with (first|(go_at_call 98;(first|(with_reducible refine Za (J.out _) ?_)|(with_reducible refine Za (K.out _) ?_)|(with_reducible refine Za (M.out _) ?_)|(with_reducible refine Za (Q.out _) ?_)|(with_reducible refine Za (S.out _) ?_)|(with_reducible refine Za (U.out _) ?_)|(with_reducible refine Za (V.out _) ?_));rintro e w3 ⟨rfl,rfl⟩)|(refine Zd rfl 111 (.tmp 4) (.tmp 77) rfl w.heap.size _ rfl rfl _ _ H.out Z1 rfl (Y9 (nilT 0 0) rfl) ?_))
      ((try simp only[Exit.inBlock,Exit.then]);refine Zl (Zn rfl _ _ _ _ _ _ _ rfl (Zm _ _ _ _ _ _ H.out) underlying111 rfl Z1) rfl ?_);exact ⟨_,rfl,⟨nilT 0 0,rfl,rfl⟩,Y.out.setRow (Zb _) _⟩
     |false=>
      rw[hh4,Ze (by simp)] at F;rw[hh4] at S;cases hh5:hasAt s.data.toList f [60,47] with
      |true=>
       rw[hh5,Zh rfl] at F;rw[hh5] at U;have Z:f+2<=s.size:=(by have:=Xt hh5;rw[hb] at this;simpa using this);have I:=λw'=>ZfH s f w' hs Z;rw[F] at I;clear hh0 hh1 hh2 hh3 hh4 hh5;cases R with
       |error xc=>
        obtain ⟨x,c⟩:=xc;clear F;have HC:=gd I;clear I;go_enter func99,ntmps99
        go_wp2_with (first|(go_at_call 98;(first|(with_reducible refine Za (J.out _) ?_)|(with_reducible refine Za (K.out _) ?_)|(with_reducible refine Za (M.out _) ?_)|(with_reducible refine Za (Q.out _) ?_)|(with_reducible refine Za (S.out _) ?_)|(with_reducible refine Za (U.out _) ?_)|(with_reducible refine Za (V.out _) ?_));rintro e w3 ⟨rfl,rfl⟩)|(go_at_call 143;(with_reducible refine Za (HC.out _) ?_);rintro e w4 ⟨v4,rfl,⟨x4,rfl,hi⟩,D⟩;(have A:=H.out.ext D))|(refine Zd rfl 111 (.tmp 4) (.tmp 86) rfl w.heap.size _ rfl rfl _ _ A Z1 rfl (Y9 x4 hi) ?_))
        ((try simp only[Exit.inBlock,Exit.then]);refine Zl (Zn rfl _ _ _ _ _ _ _ rfl (Zm _ _ _ _ _ _ A) underlying111 rfl Z1) rfl ?_);exact ⟨_,rfl,⟨x4,rfl,hi⟩,(Y.out.trans D).setRow (Zb _) _⟩
       |ok tn=>
        obtain ⟨t,n⟩:=tn;clear F;have HC:=gd I;clear I;go_enter func99,ntmps99
        go_wp2_with (first|(go_at_call 98;(first|(with_reducible refine Za (J.out _) ?_)|(with_reducible refine Za (K.out _) ?_)|(with_reducible refine Za (M.out _) ?_)|(with_reducible refine Za (Q.out _) ?_)|(with_reducible refine Za (S.out _) ?_)|(with_reducible refine Za (U.out _) ?_)|(with_reducible refine Za (V.out _) ?_));rintro e w3 ⟨rfl,rfl⟩)|(go_at_call 143;(with_reducible refine Za (HC.out _) ?_);rintro e w4 ⟨v4,rfl,⟨hh,rfl,he,hd⟩,D⟩;(have A:=H.out.ext D))|(refine Zd rfl 111 (.tmp 4) (.tmp 86) rfl w.heap.size _ rfl rfl _ _ A Z1 rfl (Y9 ⟨hh,t⟩ he.one) ?_))
        ((try simp only[Exit.inBlock,Exit.then]);refine Zl (Zn rfl _ _ _ _ _ _ _ rfl (Zm _ _ _ _ _ _ A) underlying111 rfl Z1) rfl ?_);exact ⟨_,rfl,⟨hh,rfl,RAts.grown he (Yr _ _ _) (λg hg e=>by injection e with e;have:=hd g hg;rw[Zq] at this;omega),(λg hg=>by have:=hd g hg;rw[Zq] at this;omega)⟩,(Y.out.trans D).setRow (Zb _) _⟩
      |false=>
       rw[hh5,Ze (by simp)] at F;rw[hh5] at U;cases hh6:hasAt s.data.toList f [60] with
       |true=>
        rw[hh6,Zh rfl] at F;rw[hh6] at V;have Z:f+1<=s.size:=(by have:=Xt hh6;rw[hb] at this;simpa using this);have I:=λw'=>ZcM s f w' hs Z;rw[F] at I;clear hh0 hh1 hh2 hh3 hh4 hh5 hh6;cases R with
        |error xc=>
         obtain ⟨x,c⟩:=xc;clear F;have HC:=gd I;clear I;go_enter func99,ntmps99
         go_wp2_with (first|(go_at_call 98;(first|(with_reducible refine Za (J.out _) ?_)|(with_reducible refine Za (K.out _) ?_)|(with_reducible refine Za (M.out _) ?_)|(with_reducible refine Za (Q.out _) ?_)|(with_reducible refine Za (S.out _) ?_)|(with_reducible refine Za (U.out _) ?_)|(with_reducible refine Za (V.out _) ?_));rintro e w3 ⟨rfl,rfl⟩)|(go_at_call 144;(with_reducible refine Za (HC.out _) ?_);rintro e w4 ⟨v4,rfl,⟨x4,rfl,hi⟩,D⟩;(have A:=H.out.ext D))|(refine Zd rfl 111 (.tmp 4) (.tmp 96) rfl w.heap.size _ rfl rfl _ _ A Z1 rfl (Y9 x4 hi) ?_))
         ((try simp only[Exit.inBlock,Exit.then]);refine Zl (Zn rfl _ _ _ _ _ _ _ rfl (Zm _ _ _ _ _ _ A) underlying111 rfl Z1) rfl ?_);exact ⟨_,rfl,⟨x4,rfl,hi⟩,(Y.out.trans D).setRow (Zb _) _⟩
        |ok tn=>
         obtain ⟨t,n⟩:=tn;clear F;have HC:=gd I;clear I;go_enter func99,ntmps99
         go_wp2_with (first|(go_at_call 98;(first|(with_reducible refine Za (J.out _) ?_)|(with_reducible refine Za (K.out _) ?_)|(with_reducible refine Za (M.out _) ?_)|(with_reducible refine Za (Q.out _) ?_)|(with_reducible refine Za (S.out _) ?_)|(with_reducible refine Za (U.out _) ?_)|(with_reducible refine Za (V.out _) ?_));rintro e w3 ⟨rfl,rfl⟩)|(go_at_call 144;(with_reducible refine Za (HC.out _) ?_);rintro e w4 ⟨v4,rfl,⟨hh,rfl,he,hd⟩,D⟩;(have A:=H.out.ext D))|(refine Zd rfl 111 (.tmp 4) (.tmp 96) rfl w.heap.size _ rfl rfl _ _ A Z1 rfl (Y9 ⟨hh,t⟩ he.one) ?_))
         ((try simp only[Exit.inBlock,Exit.then]);refine Zl (Zn rfl _ _ _ _ _ _ _ rfl (Zm _ _ _ _ _ _ A) underlying111 rfl Z1) rfl ?_);exact ⟨_,rfl,⟨hh,rfl,RAts.grown he (Yr _ _ _) (λg hg e=>by injection e with e;have:=hd g hg;rw[Zq] at this;omega),(λg hg=>by have:=hd g hg;rw[Zq] at this;omega)⟩,(Y.out.trans D).setRow (Zb _) _⟩
       |false=>
        rw[hh6,Ze (by simp)] at F;rw[hh6] at V;have hj:=En (by rw[hb];exact hf) hh6;dsimp only at F;obtain ⟨z,hz⟩:∃z,(findAt s.data.toList f [60]).getD s.data.toList.length=z:=⟨_,rfl⟩;rw[hz] at F hj;rw[hb] at hj hz;have X:=λw'=>Kl s [60] f w' hs (by omega) (by decide) (by decide);have I:=λw'=>UR s f z false w' hs (by omega) hj.2;clear hh0 hh1 hh2 hh3 hh4 hh5 hh6;cases hcp:contP false s.data.toList f z with
        |error xc=>
         obtain ⟨x,c⟩:=xc;rw[hcp] at F I;dsimp only at F;subst F;have HC:=gd I;clear hcp I;cases hfi:findAt s.data.toList f [60] with
         |none=>
          rw[hfi] at X hz;dsimp only[Option.getD] at hz X;subst hz;have HF:=gd X;clear hfi X;go_enter func99,ntmps99
          go_wp2_with (first|(go_at_call 98;(first|(with_reducible refine Za (J.out _) ?_)|(with_reducible refine Za (K.out _) ?_)|(with_reducible refine Za (M.out _) ?_)|(with_reducible refine Za (Q.out _) ?_)|(with_reducible refine Za (S.out _) ?_)|(with_reducible refine Za (U.out _) ?_)|(with_reducible refine Za (V.out _) ?_));rintro e w3 ⟨rfl,rfl⟩)|(go_at_call 145;(with_reducible refine Za (HF.out _) ?_);rintro e w3 ⟨rfl,rfl⟩)|(go_at_call 146;(with_reducible refine Za (HC.out _) ?_);rintro e w4 ⟨rfl,D⟩;simp only[contAns];(have A:=H.out.ext D))|(refine Zd rfl 111 (.tmp 4) (.tmp 116) rfl w.heap.size _ rfl rfl _ _ A Z1 rfl (Y9 ⟨sN,dataT [] f⟩ rfl) ?_))
          ((try simp only[Exit.inBlock,Exit.then]);refine Zl (Zn rfl _ _ _ _ _ _ _ rfl (Zm _ _ _ _ _ _ A) underlying111 rfl Z1) rfl ?_);exact ⟨_,rfl,⟨⟨sN,dataT [] f⟩,rfl,rfl⟩,(Y.out.trans D).setRow (Zb _) _⟩
         |some i=>
          rw[hfi] at X hz;dsimp only[Option.getD] at hz X;subst hz;have hn:¬(i:Int)<0:=(by omega);have HF:=gd X;clear hfi X;go_enter func99,ntmps99
          go_wp2_with (first|(go_at_call 98;(first|(with_reducible refine Za (J.out _) ?_)|(with_reducible refine Za (K.out _) ?_)|(with_reducible refine Za (M.out _) ?_)|(with_reducible refine Za (Q.out _) ?_)|(with_reducible refine Za (S.out _) ?_)|(with_reducible refine Za (U.out _) ?_)|(with_reducible refine Za (V.out _) ?_));rintro e w3 ⟨rfl,rfl⟩)|(go_at_call 145;(with_reducible refine Za (HF.out _) ?_);rintro e w3 ⟨rfl,rfl⟩)|(go_at_call 146;(with_reducible refine Za (HC.out _) ?_);rintro e w4 ⟨rfl,D⟩;simp only[contAns];(have A:=H.out.ext D))|(refine Zd rfl 111 (.tmp 4) (.tmp 116) rfl w.heap.size _ rfl rfl _ _ A Z1 rfl (Y9 ⟨sN,dataT [] f⟩ rfl) ?_))
          ((try simp only[Exit.inBlock,Exit.then]);refine Zl (Zn rfl _ _ _ _ _ _ _ rfl (Zm _ _ _ _ _ _ A) underlying111 rfl Z1) rfl ?_);exact ⟨_,rfl,⟨⟨sN,dataT [] f⟩,rfl,rfl⟩,(Y.out.trans D).setRow (Zb _) _⟩
        |ok v=>
         rw[hcp] at F I;dsimp only at F;subst F;have HC:=gd I;clear hcp I;cases hfi:findAt s.data.toList f [60] with
         |none=>
          rw[hfi] at X hz;dsimp only[Option.getD] at hz X;subst hz;have HF:=gd X;clear hfi X;go_enter func99,ntmps99
          go_wp2_with (first|(go_at_call 98;(first|(with_reducible refine Za (J.out _) ?_)|(with_reducible refine Za (K.out _) ?_)|(with_reducible refine Za (M.out _) ?_)|(with_reducible refine Za (Q.out _) ?_)|(with_reducible refine Za (S.out _) ?_)|(with_reducible refine Za (U.out _) ?_)|(with_reducible refine Za (V.out _) ?_));rintro e w3 ⟨rfl,rfl⟩)|(go_at_call 145;(with_reducible refine Za (HF.out _) ?_);rintro e w3 ⟨rfl,rfl⟩)|(go_at_call 146;(with_reducible refine Za (HC.out _) ?_);rintro e w4 ⟨rfl,D⟩;simp only[contAns];(have A:=H.out.ext D))|(refine Zd rfl 111 (.tmp 4) (.tmp 116) rfl w.heap.size _ rfl rfl _ _ A Z1 rfl (Y9 ⟨sN,dataT v f⟩ rfl) ?_))
          ((try simp only[Exit.inBlock,Exit.then]);refine Zl (Zn rfl _ _ _ _ _ _ _ rfl (Zm _ _ _ _ _ _ A) underlying111 rfl Z1) rfl ?_);exact ⟨_,rfl,⟨_,rfl,RAts.nil _,(by intro g h;cases h)⟩,(Y.out.trans D).setRow (Zb _) _⟩
         |some i=>
          rw[hfi] at X hz;dsimp only[Option.getD] at hz X;subst hz;have hn:¬(i:Int)<0:=(by omega);have HF:=gd X;clear hfi X;go_enter func99,ntmps99
          go_wp2_with (first|(go_at_call 98;(first|(with_reducible refine Za (J.out _) ?_)|(with_reducible refine Za (K.out _) ?_)|(with_reducible refine Za (M.out _) ?_)|(with_reducible refine Za (Q.out _) ?_)|(with_reducible refine Za (S.out _) ?_)|(with_reducible refine Za (U.out _) ?_)|(with_reducible refine Za (V.out _) ?_));rintro e w3 ⟨rfl,rfl⟩)|(go_at_call 145;(with_reducible refine Za (HF.out _) ?_);rintro e w3 ⟨rfl,rfl⟩)|(go_at_call 146;(with_reducible refine Za (HC.out _) ?_);rintro e w4 ⟨rfl,D⟩;simp only[contAns];(have A:=H.out.ext D))|(refine Zd rfl 111 (.tmp 4) (.tmp 116) rfl w.heap.size _ rfl rfl _ _ A Z1 rfl (Y9 ⟨sN,dataT v f⟩ rfl) ?_))
          ((try simp only[Exit.inBlock,Exit.then]);refine Zl (Zn rfl _ _ _ _ _ _ _ rfl (Zm _ _ _ _ _ _ A) underlying111 rfl Z1) rfl ?_);exact ⟨_,rfl,⟨_,rfl,RAts.nil _,(by intro g h;cases h)⟩,(Y.out.trans D).setRow (Zb _) _⟩
end
section
variable {B g k n:Nat} {v:Value} {w w':World} {xs:List Value}
def Nc.kind:Nc->Nat| .mk k _ _ _ _ _ _ _ _=>k
def Nc.space:Nc->List UInt8| .mk _ s _ _ _ _ _ _ _=>s
def Nc.name:Nc->List UInt8| .mk _ _ n _ _ _ _ _ _=>n
def Nc.text:Nc->List UInt8| .mk _ _ _ _ _ _ _ t _=>t
def Nc.at_:Nc->Nat| .mk _ _ _ _ _ _ _ _ a=>a
theorem KH (x:Nc):cellsN x= [nI (x.kind:Nat),.string (str x.space),.string (str x.name),x.al,x.ks,.string (str x.text),nI (x.at_:Nat)]:=by cases x;rfl
theorem Jw (x:Nc):(cellsN x).length=7:=by cases x;rfl
theorem XL:∀l:List Nc,Nc.nds l=l.map Nc.nd
 | []=>by rw[Nc.nds];rfl
 |x::t=>by rw[Nc.nds,XL t];rfl
theorem XS (a b:List Nc):Nc.nds (a++b)=Nc.nds a++Nc.nds b:=by rw[XL,XL,XL,ZR]
theorem X2 (l:List Nc):(Nc.nds l).length=l.length:=by rw[XL,Zs]
theorem Zcm (x:Nc):x.nd.kind=x.kind:=by cases x;rw[Nc.nd];rfl
theorem UD (a b:List Nc):flatN (a++b)=flatN a++flatN b:=by unfold flatN;rw[ZR,Q9]
theorem UE (x:Nc):flatN [x]=cellsN x:=by unfold flatN;simp
theorem ZgP:flatN []= []:=rfl
theorem Er {l:List Nc} (h:l≠ []):flatN l≠ []:=by
 cases l with
 |nil=>exact absurd rfl h
 |cons x t=>unfold flatN;rw[ZP,Jh,KH];simp
theorem JO {l:List AtP} (h:l≠ []):flatA l≠ []:=by
 cases l with
 |nil=>exact absurd rfl h
 |cons x t=>unfold flatA;rw[ZP,Jh];unfold cellsA;simp
theorem Xg:∀l:List Nc,RdNs w l↔∀x∈l,RdN w x
 | []=>by rw[RdNs];simp
 |x::t=>by rw[RdNs,Xg t];simp
mutual
theorem RdN.ext {w w':Wq} (hx:Ext w w'):∀x:Nc,RdN w x->RdN w' x
 | .mk k s n al l ks kids t a,h=>by
  rw[RdN] at h|-
  exact ⟨h.1.ext hx,h.2.1.ext hx,RdNs.ext hx kids h.2.2⟩
theorem RdNs.ext {w w':Wq} (hx:Ext w w'):∀l:List Nc,RdNs w l->RdNs w' l
 | [],h=>by rw[RdNs];trivial
 |x::t,h=>by
  rw[RdNs] at h|-
  exact ⟨RdN.ext hx x h.1,RdNs.ext hx t h.2⟩
end
def awayV (v:Value) (n:Nat) (r:Option Nat):Prop:=n=0\/v.ownBlock≠r
mutual
def awayN (r:Option Nat):Nc->Prop
 | .mk _ _ _ al l ks kids _ _=>awayV al l.length r/\awayV ks kids.length r/\awayNs r kids
def awayNs (r:Option Nat):List Nc->Prop
 | []=>True
 |x::t=>awayN r x/\awayNs r t
end
theorem Z0 {r:Option Nat}:∀l:List Nc,awayNs r l↔∀x∈l,awayN r x
 | []=>by rw[awayNs];simp
 |x::t=>by rw[awayNs,Z0 t];simp
theorem GU {size:Nat} {r:Option Nat} (h:RSl w size v n xs) (q:n=0\/xs≠ []) (F:∀g,r=some g->w.heap.size<=g):awayV v n r:=by
 rcases q with q|q
 ·exact Or.inl q
 ·obtain ⟨k,A,D⟩:=RSl.old h q;refine Or.inr ?_;rw[A];intro e;have:=F k e.symm;omega
mutual
theorem GT {w:Wq} {r:Option Nat} (hr:∀g,r=some g->w.heap.size<=g):∀x:Nc,RdN w x->awayN r x
 | .mk k s n al l ks kids t a,h=>by
  rw[RdN] at h
  rw[awayN]
  refine ⟨GU h.1 ?_ hr,GU h.2.1 ?_ hr,QS hr kids h.2.2⟩
  ·by_cases hl:l= []
   ·exact Or.inl (by rw[hl];rfl)
   ·exact Or.inr (JO hl)
  ·by_cases hl:kids= []
   ·exact Or.inl (by rw[hl];rfl)
   ·exact Or.inr (Er hl)
theorem QS {w:Wq} {r:Option Nat} (hr:∀g,r=some g->w.heap.size<=g):∀l:List Nc,RdNs w l->awayNs r l
 | [],h=>by rw[awayNs];trivial
 |x::t,h=>by
  rw[RdNs] at h
  rw[awayNs]
  exact ⟨GT hr x h.1,QS hr t h.2⟩
end
theorem Gv {x:Nc} (h:RdN w x):awayN none x:=GT (by intro g e;cases e) x h
theorem XJ {x:Nc} (h:RdN w x) (q:w.heap.size<=g):awayN (some g) x:=GT (by intro k e;injection e with e;omega) x h
mutual
theorem RdN.grown {w w':Wq} {r:Option Nat} (hg:w.grownBy w' r):∀x:Nc,RdN w x->awayN r x->RdN w' x
 | .mk k s n al l ks kids t a,h,ha=>by
  rw[RdN] at h|-
  rw[awayN] at ha
  refine ⟨RSl.grown h.1 hg (ha.1.imp (λe=> ?_) λe=>e),RSl.grown h.2.1 hg (ha.2.1.imp (λe=> ?_) λe=>e),RdNs.grown hg kids h.2.2 ha.2.2⟩
  ·rw[List.length_eq_zero_iff.1 e];rfl
  ·rw[List.length_eq_zero_iff.1 e];rfl
theorem RdNs.grown {w w':Wq} {r:Option Nat} (hg:w.grownBy w' r):∀l:List Nc,RdNs w l->awayNs r l->RdNs w' l
 | [],h,ha=>by rw[RdNs];trivial
 |x::t,h,ha=>by
  rw[RdNs] at h|-
  rw[awayNs] at ha
  exact ⟨RdN.grown hg x h.1 ha.1,RdNs.grown hg t h.2 ha.2⟩
end
def slN (x:Nc):Prop:=isSl x.al/\isSl x.ks
theorem RdN.sl {x:Nc} (h:RdN w x):slN x:=by
 cases x;rw[RdN] at h;obtain ⟨A,c,e,_⟩:=h.1.form;obtain ⟨_,B,d,q,_⟩:=h.2.1;exact ⟨⟨A,_,c,e⟩,⟨B,_,d,q⟩⟩
theorem YS {x:Nc} (h:slN x):∀u∈cellsN x,u.oneCell'=true:=by
 obtain ⟨⟨A,n,c,D⟩,⟨B,m,d,F⟩⟩:=h;rw[KH,D,F];intro u q;simp only[ZF,Ya,Xs] at q;rcases q with rfl|rfl|rfl|rfl|rfl|rfl|rfl<;>rfl
def RNs (w:Wq) (v:Value) (l:List Nc):Prop:=RSl w 7 v l.length (flatN l)
theorem RNs.ext {l:List Nc} (h:RNs w v l) (q:Ext w w'):RNs w' v l:=RSl.ext h q
theorem RNs.nil (w:Wq):RNs w sN []:=RSl.nil w 7
theorem RNs.form {l:List Nc} (h:RNs w v l):∃A c,v= .slice A l.length c/\l.length<=c/\c<=maxLen:=by
 obtain ⟨_,A,c,e,q,D,_⟩:=h;exact ⟨A,c,e,q,D⟩
structure AtNc (w:Wq) (q:Addr) (x:Nc):Prop where
 c0:w.cell? q=some (nI (x.kind:Nat))
 c1:w.cell? ⟨q.block,q.off+1,none⟩=some (.string (str x.space))
 c2:w.cell? ⟨q.block,q.off+2,none⟩=some (.string (str x.name))
 c3:w.cell? ⟨q.block,q.off+3,none⟩=some x.al
 c4:w.cell? ⟨q.block,q.off+4,none⟩=some x.ks
 c5:w.cell? ⟨q.block,q.off+5,none⟩=some (.string (str x.text))
 c6:w.cell? ⟨q.block,q.off+6,none⟩=some (nI (x.at_:Nat))
theorem AtNc.ext {q:Addr} {x:Nc} (h:AtNc w q x) (A:Ext w w'):AtNc w' q x:=⟨A.cell h.c0,A.cell h.c1,A.cell h.c2,A.cell h.c3,A.cell h.c4,A.cell h.c5,A.cell h.c6⟩
theorem RNs.at {l:List Nc} (h:RNs w v l) (D:k<l.length):∃ad c,v= .slice (some ad) l.length c/\AtNc w (ad.add (k*7)) l[k]:=by
 obtain ⟨ad,c,e,A⟩:=RSl.elem (k:=7) (css:=l.map cellsN) h (by decide) (by intro c A;obtain ⟨x,_,rfl⟩:=Z3.1 A;exact Jw x) k (cellsN l[k]) (by rw[YD,Zr D];rfl);rw[IG] at A;rw[KH] at A;have q:∀i,0<i->(ad.add (k*7)).add i=⟨(ad.add (k*7)).block,(ad.add (k*7)).off+i,none⟩:=λi F=>Ze (by omega);refine ⟨ad,c,e,?_,?_,?_,?_,?_,?_,?_⟩
 ·have:=A 0 _ rfl;rwa [add_zero] at this
 ·have:=A 1 _ rfl;rwa [q _ (by decide)] at this
 ·have:=A 2 _ rfl;rwa [q _ (by decide)] at this
 ·have:=A 3 _ rfl;rwa [q _ (by decide)] at this
 ·have:=A 4 _ rfl;rwa [q _ (by decide)] at this
 ·have:=A 5 _ rfl;rwa [q _ (by decide)] at this
 ·have:=A 6 _ rfl;rwa [q _ (by decide)] at this
structure HNs (w:Wq) (B:Nat) (v:Value) (l:List Nc):Prop where
 row:w.ownsRow B 25 7 v l.length (flatN l)
 rd:RdNs w l
 away:awayNs v.ownBlock l
theorem HNs.nil (w:Wq) (B:Nat):HNs w B sN []:=⟨YL _ _ _ _,(by rw[RdNs];trivial),(by rw[awayNs];trivial)⟩
theorem HNs.ext {l:List Nc} (h:HNs w B v l) (q:Ext w w'):HNs w' B v l:=⟨Ye h.row q,RdNs.ext q l h.rd,h.away⟩
theorem HNs.reads {l:List Nc} (h:HNs w B v l):RNs w v l:=RSl.of_own h.row
theorem HNs.snoc {H:Wq} {v3:Value} {l:List Nc} {x:Nc} (h:HNs w B v l) (K:RdN w x) (I:awayN v.ownBlock x)
 (D:H.ownsRow B 25 7 v3 (l.length+1) (flatN l++cellsN x)) (J:w.grownBy H v.ownBlock) (F:v3.ownBlock=v.ownBlock\/v3.ownBlock=some w.heap.size):HNs H B v3 (l++ [x]):=by
 have A:∀y∈l++ [x],RdN w y/\awayN v.ownBlock y:=by
  intro y q;rcases Zt.1 q with q|q
  ·exact ⟨(Xg l).1 h.rd y q,(Z0 l).1 h.away y q⟩
  ·rw[Zo.1 q];exact ⟨K,I⟩
 refine ⟨?_,(Xg _).2 λy q=>RdN.grown J y (A y q).1 (A y q).2,(Z0 _).2 λy q=> ?_⟩
 ·rw[UD,UE,Zc];exact D
 ·rcases F with e|e
  ·rw[e];exact (A y q).2
  ·rw[e];exact XJ (A y q).1 (Zb _)
end
section
variable {B g:Nat} {v:Value} {w w':World}
theorem RAts.away {l:List AtP} {r:Option Nat} (h:RAts w v l) (q:w.grownBy w' r) (A:awayV v l.length r):RAts w' v l:=
 RSl.grown h q (A.imp (λe=>by rw[List.length_eq_zero_iff.1 e];rfl) λe=>e)
theorem RAts.awayNew {l:List AtP} (h:RAts w v l) (A:w.heap.size<=g):awayV v l.length (some g):=
 GU h (by by_cases q:l= [];exact Or.inl (by rw[q];rfl);exact Or.inr (JO q)) (by intro k e;injection e with e;omega)
theorem ZgR (a b:List Tc):flatT (a++b)=flatT a++flatT b:=by unfold flatT;rw[ZR,Q9]
theorem ZgS (x:Tc):flatT [x]=cellsT x:=by unfold flatT;simp
theorem VF (x:Tc) (h:x.al.oneCell'=true):∀u∈cellsT x,u.oneCell'=true:=by
 intro u q;simp only[cellsT,ZF,Ya,Xs] at q;rcases q with rfl|rfl|rfl|rfl|rfl|rfl<;>first|rfl|exact h
structure HTs (w:Wq) (B:Nat) (v:Value) (l:List Tc):Prop where
 row:w.ownsRow B 111 6 v l.length (flatT l)
 rd:∀x∈l,RdT w x
 away:∀x∈l,awayV x.al x.t.attrs.length v.ownBlock
theorem HTs.nil (w:Wq) (B:Nat):HTs w B sN []:=⟨YL _ _ _ _,by simp,by simp⟩
theorem HTs.ext {l:List Tc} (h:HTs w B v l) (A:Ext w w'):HTs w' B v l:=⟨Ye h.row A,λx q=>RAts.ext (h.rd x q) A,h.away⟩
theorem HTs.snoc {H:Wq} {v3:Value} {l:List Tc} {x:Tc} (h:HTs w B v l) (K:RdT w x) (I:awayV x.al x.t.attrs.length v.ownBlock)
 (D:H.ownsRow B 111 6 v3 (l.length+1) (flatT l++cellsT x)) (J:w.grownBy H v.ownBlock) (F:v3.ownBlock=v.ownBlock\/v3.ownBlock=some w.heap.size):HTs H B v3 (l++ [x]):=by
 have A:∀y∈l++ [x],RdT w y/\awayV y.al y.t.attrs.length v.ownBlock:=by
  intro y q;rcases Zt.1 q with q|q
  ·exact ⟨h.rd y q,h.away y q⟩
  ·rw[Zo.1 q];exact ⟨K,I⟩
 refine ⟨?_,λy q=>RAts.away (A y q).1 J (A y q).2,λy q=> ?_⟩
 ·rw[ZgR,ZgS,Zc];exact D
 ·rcases F with e|e
  ·rw[e];exact (A y q).2
  ·rw[e];exact RAts.awayNew (A y q).1 (Zb _)
def ToksRet (B:Nat) (w:Wq) (n:Nat) (v:Value):Except PErr (List Tok)->Prop
 | .ok l=>∃(u:Value) (lt:List Tc),v= .tuple #[u,nI (n:Nat),nI 0]/\lt.map Tc.t=l/\RSl w 6 u lt.length (flatT lt)/\(∀x∈lt,RdT w x)/\(∀x∈lt,∀g,x.al.ownBlock=some g->B<=g)/\∀g,u.ownBlock=some g->B<=g
 | .error (y,c)=>v= .tuple #[sN,nI (y:Nat),nI (c:Nat)]
theorem Ziz:(prog.info? 111).map (λi=>(i.zero,i.size,i.bytes))=some (some (.agg #[nI 0,eS,sN,.bool false,eS,nI 0]),6,80):=by kernel_rfl
theorem ZaT (s:ByteArray) (w:Wq) (hs:s.size<=16777216):
 Calls prog 57 #[.string s] w λe w'=>∃v,e= .returned v/\ToksRet w.heap.size w' s.size v (toksP s.data.toList)/\Ext w w':=by
 have hU:s.size<=maxLen:=by unfold maxLen;omega
 obtain ⟨i0,hD,hF,hG,hH⟩:=Yw Ziz;have hL:=ZI s;obtain ⟨R,hR⟩:∃R,toksP s.data.toList=R:=⟨_,rfl⟩;rw[hR];rw[Kv] at hR;have hl:=λw'=>ZcH s w' hU;unfold checkS at hl;obtain ⟨x,c,hS⟩:∃x c,check s.data.toList=(x,c):=⟨_,_,rfl⟩;rw[hS] at hR hl;dsimp only at hR hl;have hI:=gd hl;clear hS hl;by_cases hc:c=0
 case neg=>
  rw[Zh hc] at hR;subst hR;have hP:((c:Int) !=0)=true:=by rw[YI];omega
  clear hc;go_enter func57,ntmps57
  go_wp2_with (first|(go_at_call 97;(with_reducible refine Za (hI.out _) ?_);rintro e w2 ⟨rfl,hC⟩))
  go_ret3
  exact ⟨_,rfl,(by unfold ToksRet;rfl),hC⟩
 case pos=>
  subst hc;rw[Ze (by simp)] at hR;have ht:∀w':Wq,Calls prog 98 #[.string s,nI 0,.string ⟨#[239,187,191]⟩] w' λe w2=>e= .returned (.bool (hasAt s.data.toList 0 [239,187,191]))/\w2=w':=λw'=>YT s [239,187,191] 0 w' hs (by omega) (by decide) (by decide);cases hb:hasAt s.data.toList 0 [239,187,191] with
  |true=>
   have h3:3<=s.size:=(by have:=Xt hb;rw[hL] at this;simpa using this);rw[hb,Zh rfl] at hR;rw[hb] at ht;clear hb;have HH:=gd ht;clear ht;have HR:=gd hR;clear hR;go_enter func57,ntmps57
   go_wp2_with (first|(go_at_call 97;(with_reducible refine Za (hI.out _) ?_);rintro e w2 ⟨rfl,hC⟩)|(go_at_call 98;(with_reducible refine Za (HH.out _) ?_);rintro e w3 ⟨rfl,h3⟩;(have hJ:=h3.symm);clear h3;subst hJ))
   go_loopw [5,7] (λa t wr=>∃(k:Nat) (lt:List Tc),k<=s.size/\a=nI k/\HTs wr w.heap.size t lt/\Hid (toksAt s.data.toList k (lt.map Tc.t)=R)/\Hid (lt.length<=k)/\Hid (∀x∈lt,∀g,x.al.ownBlock=some g->w.heap.size<=g)/\Ext w wr) (λa _ _=>s.size - (intOf a).toNat)
   case atStart=>exact ⟨3,[],h3,rfl,HTs.nil _ _,HR,Zk _,(by intro x hx;cases hx),hC⟩
   case round=>
    obtain ⟨k,lt,hk,rfl,M,hr,hj,hi,hx⟩:=hrel;obtain ⟨A,cc,rfl⟩:=Z8 M.row;by_cases hp:k<s.size
    ·have hT:(k:Int)<(s.size:Int):=(by omega);have Y:=λw'=>Vr s k w' hs hp;cases hc:constructP s.data.toList k with
     |error xc=>
      obtain ⟨x5,c5⟩:=xc;have hK:=UN (by omega) hc;have hP:((c5:Int) !=0)=true:=(by rw[YI];omega);have hm:R= .error (x5,c5):=(by rw[<-hr.out,V7 (by omega) hc]);subst hm;rw[hc] at Y;have HC:=gd Y;clear Y hc hK hr hp
      go_wp2_with (first|(go_at_call 99;(with_reducible refine Za (HC.out _) ?_);rintro e w5 ⟨v5,rfl,⟨y5,rfl,hN⟩,q⟩)|(refine Zd rfl 111 (.tmp 8) (.tmp 30) rfl w5.heap.size _ rfl rfl _ _ (BxT.alloc0 w5 (nilT 0 0)) Z1 rfl (Y9 y5 hN) ?_))
      go_ret3
      exact ⟨_,rfl,(by unfold ToksRet;rfl),((hx.trans q).alloc _).setRow (hx.trans q).size _⟩
     |ok te=>
      obtain ⟨t,e⟩:=te;obtain ⟨hA,ho, -, -, -⟩:=XN (by omega) hc;rw[hL] at ho;rw[hc] at Y;have V:=hr.out;rw[Uo (by omega) hc] at V;have HC:=gd Y;have HE:=gd (show e<=s.size/\k<e from ⟨ho,hA⟩);clear Y hc hr hA ho;by_cases K:keeps t
      ·rw[Zh K] at V;have hh:=gd V;clear V;obtain ⟨tk,tn,ta,F,Q,D⟩:=t;have Z:=gd M;have hM:lt.length<=16777216:=(by have:=hj.out;omega);have hv:=gd (show lt.length+1<=maxLen by unfold maxLen;omega);have hu:=gd (show (lt.length+1)*80<=140737488355328 by omega);have hw:=gd (λg (S:(Value.slice A lt.length cc).ownBlock=some g)=>(M.row.lt g S).2);clear M hM;by_cases he:tk=3
       ·subst he;have hO:(str Q).toList.isEmpty=false:=by
         rw[Z2,Z5];cases Q with
         |nil=>rcases K with h|h;exact absurd rfl h;exact absurd rfl h
         |cons a b=>rfl
        clear K
        go_wp2_with (first|(go_at_call 99;(with_reducible refine Za (HC.out _) ?_);rintro e5 w5 ⟨v5,rfl,⟨hz,rfl,H,I⟩,q⟩;(obtain ⟨J,c5,rfl, -, -⟩:=H.form);simp only[cellsT])|(at_builtin;refine ZJ _ rfl (.tmp 45) (.tmp 47) _ rfl w.heap.size 111 i0 _ 6 80 underlying104 hD hF hG hH rfl (by decide) _ _ _ rfl (((Z.out.ext q).row.alloc _).alloc _) _ 1 (cellsT ⟨.slice J ta.length c5,⟨3,tn,ta,F,Q,D⟩⟩) rfl (Xi (n:=1) (cs:=cellsT ⟨.slice J ta.length c5,⟨3,tn,ta,F,Q,D⟩⟩) (fr:=(0,0)) (Ys _ _ _) rfl (by decide)) (VF ⟨.slice J ta.length c5,⟨3,tn,ta,F,Q,D⟩⟩ rfl) hv.out hu.out ?_ ?_;(rw[Zq,Zq];have:=(hx.trans q).size;omega);intro v9 w9 U hd ha))
        go_roundw
        case rel=>
         have hE:=HE.out;have X:=((Ext.refl w5).alloc (.cells (cellsT ⟨.slice J ta.length c5,⟨3,tn,ta,F,Q,D⟩⟩).toArray 111)).alloc (.cells (cellsT ⟨.slice J ta.length c5,⟨3,tn,ta,F,Q,D⟩⟩).toArray 111);have hf:RdT _ ⟨.slice J ta.length c5,⟨3,tn,ta,F,Q,D⟩⟩:=RAts.ext H X;have hn:awayV (.slice J ta.length c5) ta.length (Value.slice A lt.length cc).ownBlock:=(by refine (Decidable.em (ta= [])).imp (λe=>by rw[e];rfl) λhq=> ?_;obtain ⟨g,S, -⟩:=RSl.old H (JO hq);rw[S];intro e;have h1:=I g S;have h2:=hw.out g e.symm;omega);refine ⟨e,lt++ [⟨.slice J ta.length c5,⟨3,tn,ta,F,Q,D⟩⟩],hE.1,rfl,HTs.snoc ((Z.out.ext q).ext X) hf hn U hd ha,?_,?_,?_,Ext.app ((hx.trans q).trans X) hd (((Z.out.ext q).row.alloc _).alloc _) (Zb _)⟩
         ·rw[ZR];exact hh
         ·rw[Zc];have:=hj.out;show _+1<=_;omega
         ·intro y hy g S;rcases Zt.1 hy with hy|hy
          ·exact hi.out y hy g S
          ·rw[Zo.1 hy] at S;have h1:=I g S;have h2:=hx.size;omega
        case measure=>have hE:=HE.out;simp[intOf];omega
       ·have hQ:((tk:Int) !=3)=true:=(by rw[YI];omega);clear K he
        go_wp2_with (first|(go_at_call 99;(with_reducible refine Za (HC.out _) ?_);rintro e5 w5 ⟨v5,rfl,⟨hz,rfl,H,I⟩,q⟩;(obtain ⟨J,c5,rfl, -, -⟩:=H.form);simp only[cellsT])|(at_builtin;refine ZJ _ rfl (.tmp 45) (.tmp 47) _ rfl w.heap.size 111 i0 _ 6 80 underlying104 hD hF hG hH rfl (by decide) _ _ _ rfl (((Z.out.ext q).row.alloc _).alloc _) _ 1 (cellsT ⟨.slice J ta.length c5,⟨tk,tn,ta,F,Q,D⟩⟩) rfl (Xi (n:=1) (cs:=cellsT ⟨.slice J ta.length c5,⟨tk,tn,ta,F,Q,D⟩⟩) (fr:=(0,0)) (Ys _ _ _) rfl (by decide)) (VF ⟨.slice J ta.length c5,⟨tk,tn,ta,F,Q,D⟩⟩ rfl) hv.out hu.out ?_ ?_;(rw[Zq,Zq];have:=(hx.trans q).size;omega);intro v9 w9 U hd ha))
        go_roundw
        case rel=>
         have hE:=HE.out;have X:=((Ext.refl w5).alloc (.cells (cellsT ⟨.slice J ta.length c5,⟨tk,tn,ta,F,Q,D⟩⟩).toArray 111)).alloc (.cells (cellsT ⟨.slice J ta.length c5,⟨tk,tn,ta,F,Q,D⟩⟩).toArray 111);have hf:RdT _ ⟨.slice J ta.length c5,⟨tk,tn,ta,F,Q,D⟩⟩:=RAts.ext H X;have hn:awayV (.slice J ta.length c5) ta.length (Value.slice A lt.length cc).ownBlock:=(by refine (Decidable.em (ta= [])).imp (λe=>by rw[e];rfl) λhq=> ?_;obtain ⟨g,S, -⟩:=RSl.old H (JO hq);rw[S];intro e;have h1:=I g S;have h2:=hw.out g e.symm;omega);refine ⟨e,lt++ [⟨.slice J ta.length c5,⟨tk,tn,ta,F,Q,D⟩⟩],hE.1,rfl,HTs.snoc ((Z.out.ext q).ext X) hf hn U hd ha,?_,?_,?_,Ext.app ((hx.trans q).trans X) hd (((Z.out.ext q).row.alloc _).alloc _) (Zb _)⟩
         ·rw[ZR];exact hh
         ·rw[Zc];have:=hj.out;show _+1<=_;omega
         ·intro y hy g S;rcases Zt.1 hy with hy|hy
          ·exact hi.out y hy g S
          ·rw[Zo.1 hy] at S;have h1:=I g S;have h2:=hx.size;omega
        case measure=>have hE:=HE.out;simp[intOf];omega
      ·rw[Ze K] at V;have hh:=gd V;clear V;have he:t.kind=3:=Decidable.not_not.1 λh=>K (Or.inl h);have hB:t.text= []:=Decidable.not_not.1 λh=>K (Or.inr h);obtain ⟨tk,tn,ta,F,Q,D⟩:=t;dsimp only at he hB;subst he;subst hB;have hO:(str []).toList.isEmpty=true:=(by rw[Z2,Z5];rfl);clear K
       go_wp2_with (first|(go_at_call 99;(with_reducible refine Za (HC.out _) ?_);rintro e5 w5 ⟨v5,rfl,⟨hz,rfl,H,I⟩,q⟩;(obtain ⟨J,c5,rfl, -, -⟩:=H.form);simp only[cellsT]))
       go_roundw
       case rel=>have hE:=HE.out;exact ⟨e,lt,hE.1,rfl,M.ext (q.alloc _),hh,Zu hj.out (Nat.le_of_lt hE.2),hi,(hx.trans q).alloc _⟩
       case measure=>have hE:=HE.out;simp[intOf];omega
    ·have hV:¬(k:Int)<(s.size:Int):=(by omega);have hm:R= .ok (lt.map Tc.t):=(by rw[<-hr.out,UX (by omega)]);subst hm;clear hr hp;go_wp2
     go_ret3
     exact ⟨_,rfl,(by unfold ToksRet;exact ⟨_,lt,rfl,rfl,RSl.of_own M.row,M.rd,hi.out,XF M.row⟩),hx⟩
  |false=>
   rw[hb,Ze (by simp)] at hR;rw[hb] at ht;clear hb;have HH:=gd ht;clear ht;have HR:=gd hR;clear hR;go_enter func57,ntmps57
   go_wp2_with (first|(go_at_call 97;(with_reducible refine Za (hI.out _) ?_);rintro e w2 ⟨rfl,hC⟩)|(go_at_call 98;(with_reducible refine Za (HH.out _) ?_);rintro e w3 ⟨rfl,h3⟩;(have hJ:=h3.symm);clear h3;subst hJ))
   go_loopw [5,7] (λa t wr=>∃(k:Nat) (lt:List Tc),k<=s.size/\a=nI k/\HTs wr w.heap.size t lt/\Hid (toksAt s.data.toList k (lt.map Tc.t)=R)/\Hid (lt.length<=k)/\Hid (∀x∈lt,∀g,x.al.ownBlock=some g->w.heap.size<=g)/\Ext w wr) (λa _ _=>s.size - (intOf a).toNat)
   case atStart=>exact ⟨0,[],Zk _,rfl,HTs.nil _ _,HR,Zk _,(by intro x hx;cases hx),hC⟩
   case round=>
    obtain ⟨k,lt,hk,rfl,M,hr,hj,hi,hx⟩:=hrel;obtain ⟨A,cc,rfl⟩:=Z8 M.row;by_cases hp:k<s.size
    ·have hT:(k:Int)<(s.size:Int):=(by omega);have Y:=λw'=>Vr s k w' hs hp;cases hc:constructP s.data.toList k with
     |error xc=>
      obtain ⟨x5,c5⟩:=xc;have hK:=UN (by omega) hc;have hP:((c5:Int) !=0)=true:=(by rw[YI];omega);have hm:R= .error (x5,c5):=(by rw[<-hr.out,V7 (by omega) hc]);subst hm;rw[hc] at Y;have HC:=gd Y;clear Y hc hK hr hp
      go_wp2_with (first|(go_at_call 99;(with_reducible refine Za (HC.out _) ?_);rintro e w5 ⟨v5,rfl,⟨y5,rfl,hN⟩,q⟩)|(refine Zd rfl 111 (.tmp 8) (.tmp 30) rfl w5.heap.size _ rfl rfl _ _ (BxT.alloc0 w5 (nilT 0 0)) Z1 rfl (Y9 y5 hN) ?_))
      go_ret3
      exact ⟨_,rfl,(by unfold ToksRet;rfl),((hx.trans q).alloc _).setRow (hx.trans q).size _⟩
     |ok te=>
      obtain ⟨t,e⟩:=te;obtain ⟨hA,ho, -, -, -⟩:=XN (by omega) hc;rw[hL] at ho;rw[hc] at Y;have V:=hr.out;rw[Uo (by omega) hc] at V;have HC:=gd Y;have HE:=gd (show e<=s.size/\k<e from ⟨ho,hA⟩);clear Y hc hr hA ho;by_cases K:keeps t
      ·rw[Zh K] at V;have hh:=gd V;clear V;obtain ⟨tk,tn,ta,F,Q,D⟩:=t;have Z:=gd M;have hM:lt.length<=16777216:=(by have:=hj.out;omega);have hv:=gd (show lt.length+1<=maxLen by unfold maxLen;omega);have hu:=gd (show (lt.length+1)*80<=140737488355328 by omega);have hw:=gd (λg (S:(Value.slice A lt.length cc).ownBlock=some g)=>(M.row.lt g S).2);clear M hM;by_cases he:tk=3
       ·subst he;have hO:(str Q).toList.isEmpty=false:=by
         rw[Z2,Z5];cases Q with
         |nil=>rcases K with h|h;exact absurd rfl h;exact absurd rfl h
         |cons a b=>rfl
        clear K
        go_wp2_with (first|(go_at_call 99;(with_reducible refine Za (HC.out _) ?_);rintro e5 w5 ⟨v5,rfl,⟨hz,rfl,H,I⟩,q⟩;(obtain ⟨J,c5,rfl, -, -⟩:=H.form);simp only[cellsT])|(at_builtin;refine ZJ _ rfl (.tmp 45) (.tmp 47) _ rfl w.heap.size 111 i0 _ 6 80 underlying104 hD hF hG hH rfl (by decide) _ _ _ rfl (((Z.out.ext q).row.alloc _).alloc _) _ 1 (cellsT ⟨.slice J ta.length c5,⟨3,tn,ta,F,Q,D⟩⟩) rfl (Xi (n:=1) (cs:=cellsT ⟨.slice J ta.length c5,⟨3,tn,ta,F,Q,D⟩⟩) (fr:=(0,0)) (Ys _ _ _) rfl (by decide)) (VF ⟨.slice J ta.length c5,⟨3,tn,ta,F,Q,D⟩⟩ rfl) hv.out hu.out ?_ ?_;(rw[Zq,Zq];have:=(hx.trans q).size;omega);intro v9 w9 U hd ha))
        go_roundw
        case rel=>
         have hE:=HE.out;have X:=((Ext.refl w5).alloc (.cells (cellsT ⟨.slice J ta.length c5,⟨3,tn,ta,F,Q,D⟩⟩).toArray 111)).alloc (.cells (cellsT ⟨.slice J ta.length c5,⟨3,tn,ta,F,Q,D⟩⟩).toArray 111);have hf:RdT _ ⟨.slice J ta.length c5,⟨3,tn,ta,F,Q,D⟩⟩:=RAts.ext H X;have hn:awayV (.slice J ta.length c5) ta.length (Value.slice A lt.length cc).ownBlock:=(by refine (Decidable.em (ta= [])).imp (λe=>by rw[e];rfl) λhq=> ?_;obtain ⟨g,S, -⟩:=RSl.old H (JO hq);rw[S];intro e;have h1:=I g S;have h2:=hw.out g e.symm;omega);refine ⟨e,lt++ [⟨.slice J ta.length c5,⟨3,tn,ta,F,Q,D⟩⟩],hE.1,rfl,HTs.snoc ((Z.out.ext q).ext X) hf hn U hd ha,?_,?_,?_,Ext.app ((hx.trans q).trans X) hd (((Z.out.ext q).row.alloc _).alloc _) (Zb _)⟩
         ·rw[ZR];exact hh
         ·rw[Zc];have:=hj.out;show _+1<=_;omega
         ·intro y hy g S;rcases Zt.1 hy with hy|hy
          ·exact hi.out y hy g S
          ·rw[Zo.1 hy] at S;have h1:=I g S;have h2:=hx.size;omega
        case measure=>have hE:=HE.out;simp[intOf];omega
       ·have hQ:((tk:Int) !=3)=true:=(by rw[YI];omega);clear K he
        go_wp2_with (first|(go_at_call 99;(with_reducible refine Za (HC.out _) ?_);rintro e5 w5 ⟨v5,rfl,⟨hz,rfl,H,I⟩,q⟩;(obtain ⟨J,c5,rfl, -, -⟩:=H.form);simp only[cellsT])|(at_builtin;refine ZJ _ rfl (.tmp 45) (.tmp 47) _ rfl w.heap.size 111 i0 _ 6 80 underlying104 hD hF hG hH rfl (by decide) _ _ _ rfl (((Z.out.ext q).row.alloc _).alloc _) _ 1 (cellsT ⟨.slice J ta.length c5,⟨tk,tn,ta,F,Q,D⟩⟩) rfl (Xi (n:=1) (cs:=cellsT ⟨.slice J ta.length c5,⟨tk,tn,ta,F,Q,D⟩⟩) (fr:=(0,0)) (Ys _ _ _) rfl (by decide)) (VF ⟨.slice J ta.length c5,⟨tk,tn,ta,F,Q,D⟩⟩ rfl) hv.out hu.out ?_ ?_;(rw[Zq,Zq];have:=(hx.trans q).size;omega);intro v9 w9 U hd ha))
        go_roundw
        case rel=>
         have hE:=HE.out;have X:=((Ext.refl w5).alloc (.cells (cellsT ⟨.slice J ta.length c5,⟨tk,tn,ta,F,Q,D⟩⟩).toArray 111)).alloc (.cells (cellsT ⟨.slice J ta.length c5,⟨tk,tn,ta,F,Q,D⟩⟩).toArray 111);have hf:RdT _ ⟨.slice J ta.length c5,⟨tk,tn,ta,F,Q,D⟩⟩:=RAts.ext H X;have hn:awayV (.slice J ta.length c5) ta.length (Value.slice A lt.length cc).ownBlock:=(by refine (Decidable.em (ta= [])).imp (λe=>by rw[e];rfl) λhq=> ?_;obtain ⟨g,S, -⟩:=RSl.old H (JO hq);rw[S];intro e;have h1:=I g S;have h2:=hw.out g e.symm;omega);refine ⟨e,lt++ [⟨.slice J ta.length c5,⟨tk,tn,ta,F,Q,D⟩⟩],hE.1,rfl,HTs.snoc ((Z.out.ext q).ext X) hf hn U hd ha,?_,?_,?_,Ext.app ((hx.trans q).trans X) hd (((Z.out.ext q).row.alloc _).alloc _) (Zb _)⟩
         ·rw[ZR];exact hh
         ·rw[Zc];have:=hj.out;show _+1<=_;omega
         ·intro y hy g S;rcases Zt.1 hy with hy|hy
          ·exact hi.out y hy g S
          ·rw[Zo.1 hy] at S;have h1:=I g S;have h2:=hx.size;omega
        case measure=>have hE:=HE.out;simp[intOf];omega
      ·rw[Ze K] at V;have hh:=gd V;clear V;have he:t.kind=3:=Decidable.not_not.1 λh=>K (Or.inl h);have hB:t.text= []:=Decidable.not_not.1 λh=>K (Or.inr h);obtain ⟨tk,tn,ta,F,Q,D⟩:=t;dsimp only at he hB;subst he;subst hB;have hO:(str []).toList.isEmpty=true:=(by rw[Z2,Z5];rfl);clear K
       go_wp2_with (first|(go_at_call 99;(with_reducible refine Za (HC.out _) ?_);rintro e5 w5 ⟨v5,rfl,⟨hz,rfl,H,I⟩,q⟩;(obtain ⟨J,c5,rfl, -, -⟩:=H.form);simp only[cellsT]))
       go_roundw
       case rel=>have hE:=HE.out;exact ⟨e,lt,hE.1,rfl,M.ext (q.alloc _),hh,Zu hj.out (Nat.le_of_lt hE.2),hi,(hx.trans q).alloc _⟩
       case measure=>have hE:=HE.out;simp[intOf];omega
    ·have hV:¬(k:Int)<(s.size:Int):=(by omega);have hm:R= .ok (lt.map Tc.t):=(by rw[<-hr.out,UX (by omega)]);subst hm;clear hr hp;go_wp2
     go_ret3
     exact ⟨_,rfl,(by unfold ToksRet;exact ⟨_,lt,rfl,rfl,RSl.of_own M.row,M.rd,hi.out,XF M.row⟩),hx⟩
end
end Go.Proofs.YtnlafkgkcnenfaaGreatDoor
