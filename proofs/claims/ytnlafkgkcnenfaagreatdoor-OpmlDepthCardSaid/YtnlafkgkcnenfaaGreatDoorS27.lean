/- Parts of the proof: contracts and plain laws. -/
import Derived.Test.YtnlafkgkcnenfaaGreatDoorS25
import Derived.Test.YtnlafkgkcnenfaaGreatDoorS26
namespace Go.Proofs.YtnlafkgkcnenfaaGreatDoor
open Go Go.RowKit Go.Joins Tryz
set_option linter.unusedVariables false
set_option linter.unusedSimpArgs false
set_option maxRecDepth 100000
set_option maxHeartbeats 16000000
section
variable {B G c n:Nat} {b w:World} {s:List UInt8} {v:Value}
attribute [local go_sem] calm1
theorem Zaf {x:Nat}:∀(n k:Nat) (l:List Tok),s.length - k<n->k<=s.length->toksAt s k l= .error (x,c)->c≠0
 |0,_,_,h,_,_=>by omega
 |n+1,k,l,hn,hk,h=>by
  by_cases q:s.length<=k
  ·rw[UX q] at h;cases h
  ·cases hc:constructP s k with
   |error y=>
    rw[V7 (by omega) hc] at h
    injection h with h
    subst h
    exact UN (by omega) hc
   |ok te=>
    obtain ⟨t,e⟩:=te
    have A:=XN (by omega) hc
    rw[Uo (by omega) hc] at h
    exact Zaf n e _ (by omega) A.2.1 h
theorem ZbS {x:Nat} (h:toksP s= .error (x,c)):c≠0:=by
 rw[Kv] at h;split at h
 ·rename_i A;injection h with h;rw[h] at A;exact A
 ·refine Zaf _ _ _ (YK _) ?_ h;split
  ·rename_i D;rcases Xt D with q|q
   ·exact q
   ·cases q
  ·exact Zk _
theorem Zd1 {t:Tok}:∀{l:List Tok},t∈l->t.text.length<=txts l
 |u::l,h=>by
  rw[Xr]
  rcases ZF.1 h with h|h
  ·rw[h];omega
  ·have:=Zd1 h
   omega
theorem Ext.but {a c:Wq} (h:Ext a b) (A:b.grownBy c (some G)) (D:a.heap.size<=G):Ext a c:=
 Below.grown h A h.size λk q=>by injection q with q;omega
def ParseRet (B n:Nat) (w:Wq) (v:Value):Except PErr Nd->Prop
 | .ok m=>∃mc:Nc,v= .tuple #[.agg (cellsN mc).toArray,nI (n:Nat),nI 0]/\mc.nd=m/\RdN w mc/\∀r,r<B->awayN (some r) mc
 | .error (y,c)=>∃mc:Nc,v= .tuple #[.agg (cellsN mc).toArray,nI (y:Nat),nI (c:Nat)]/\slN mc
theorem ToksRet.err {y:Nat} (h:ToksRet B w n v (.error (y,c))):v= .tuple #[sN,nI (y:Nat),nI (c:Nat)]:=h
theorem ToksRet.ok {l:List Tok} (h:ToksRet B w n v (.ok l)):∃(u:Value) (lt:List Tc),v= .tuple #[u,nI (n:Nat),nI 0]/\lt.map Tc.t=l/\RSl w 6 u lt.length (flatT lt)/\(∀x∈lt,RdT w x)/\(∀x∈lt,∀g,x.al.ownBlock=some g->B<=g)/\∀g,u.ownBlock=some g->B<=g:=h
theorem ZcL (s:ByteArray) (w:Wq) (hs:s.size<=16777216):
 Calls prog 26 #[.string s] w λe w'=>∃v,e= .returned v/\ParseRet w.heap.size s.size w' v (docP s.data.toList)/\Ext w w':=by
 have hF:=ZI s;obtain ⟨D,hD⟩:∃D,docP s.data.toList=D:=⟨_,rfl⟩;rw[hD];rw[QT] at hD;obtain ⟨W0,hX⟩:∃W0,w.alloc (.cells #[nI 0,eS,eS,sN,sN,eS,nI 0] 25)=W0:=⟨_,rfl⟩;have gm:Ext w W0:=by rw[<-hX];exact (Ext.refl w).alloc _
 have gg:BxN W0 w.heap.size 0 [] [] sN sN [] 0:=by rw[<-hX];exact Zg w _
 have h0:W0.heap.size=w.heap.size+1:=by rw[<-hX,Zq]
 have fa:=gd h0;have hA:=λw'=>ZaT s w' hs;cases htk:toksP s.data.toList with
 |error yc=>
  obtain ⟨y,c⟩:=yc;have gj:=ZbS htk;have gX:((c:Int) !=0)=true:=by rw[YI];omega
  rw[htk] at hD hA;dsimp only at hD;subst hD;have HT:=gd hA;clear hA htk gj h0;go_enter func26,ntmps26
  go_wp2_with (first|(go_at_call 57;(with_reducible refine Za (HT.out _) ?_);rintro e w2 ⟨v2,rfl,hT,hw⟩;(have gV:=hT.err);clear hT;subst gV;(have hR:=gg.ext hw))|(refine Zd rfl 25 (.tmp 2) (.tmp 20) rfl w.heap.size #[nI 0,eS,eS,sN,sN,eS,nI 0] rfl rfl _ _ hR Zv rfl Uf ?_))
  ((try simp only[Exit.inBlock,Exit.then]);refine Zl (Zn rfl _ _ _ _ _ _ _ rfl (Zm _ _ _ _ _ _ hR) underlying25 rfl Zv) rfl ?_);exact ⟨_,rfl,⟨Nc.mk 0 [] [] sN [] sN [] [] 0,rfl,⟨⟨_,_,_,rfl⟩,⟨_,_,_,rfl⟩⟩⟩,(gm.trans hw).setRow (Zb _) _⟩
 |ok l=>
  have Y:=GM htk;rw[htk] at hD hA;dsimp only at hD;have HT:=gd hA;clear hA htk;go_enter func26,ntmps26
  go_wp2_with (first|(go_at_call 57;(with_reducible refine Za (HT.out _) ?_);rintro e w2 ⟨v2,rfl,hT,hw⟩;(obtain ⟨u,lt,rfl,g1,hz,hN,gh,gK⟩:=hT.ok);clear hT;(have hR:=gg.ext hw);(obtain ⟨-,UA,uc,rfl, -, -, -⟩:=id hz)))
  have fh:w.heap.size+1<=w2.heap.size:=by have:=hw.size;omega
  rw[h0] at gh gK;subst g1;obtain ⟨G,hG⟩:∃g,w2.heap.size=g:=⟨_,rfl⟩;obtain ⟨W3,hC⟩:∃W3,(w2.alloc (.cells #[.slice UA lt.length uc,nI 0,nI 0,nI 0] 109)).alloc (.cells #[nI 0,eS,eS,sN,sN,eS,nI 0] 25)=W3:=⟨_,rfl⟩;have gF:BxP W3 G (.slice UA lt.length uc) 0 0 0:=by rw[<-hC,<-hG];exact ((Ext.refl _).alloc _).heap (Zg w2 _)
  have gA:W3.heap[G+1]? =some (.cells (cellsN (Nc.mk 0 [] [] sN [] sN [] [] 0)).toArray 25):=by rw[<-hC,<-hG];exact Ys w2 _ _
  have gn:Ext w2 W3:=by rw[<-hC];exact ((Ext.refl _).alloc _).alloc _
  have gG:W3.heap.size=G+2:=by rw[<-hC,Zq,Zq,hG]
  have gu:=hR.ext gn;have hL:=gm.trans hw;have hJ:∀w',Ext w2 w'->PCtx w' G (.slice UA lt.length uc) lt:=λw' hx=>by
   refine ⟨RSl.ext hz hx,λx ha=>RAts.ext (hN x ha) hx,GU hz ?_ (by intro k e;injection e with e;omega),λx ha=>RAts.awayNew (hN x ha) (by omega)⟩;by_cases hl:lt= []
   ·exact Or.inl (by rw[hl];rfl)
   ·refine Or.inr ?_;cases lt with
    |nil=>exact absurd rfl hl
    |cons x t=>unfold flatT;rw[ZP,Jh];unfold cellsT;simp
  have gH:∀r,r<=w.heap.size->TA lt r:=λr hr x ha=>Or.inr λe=>by have:=gh x ha _ e;omega
  have gI:TA lt (G+1):=λx ha=>RAts.awayNew (hN x ha) (by omega);have ge:=gd hJ;have gS:=gd gH;have gT:=gd gI;have h7:=gd Y;have gR:=gd hN;have gq:Hid (docAt s.data.toList.length (if false=true then some (Nc.mk 0 [] [] sN [] sN [] [] 0).nd else none) ((lt.map Tc.t).drop 0)=D):=hD;rw[hF] at Y;have g0:=Y.len;rw[Zs] at g0;have gl:∀x∈lt,x.t.kind=1\/x.t.kind=2\/x.t.kind=3:=λx ha=>Y.kind _ (Yg ha);have gJ:txts (lt.map Tc.t)<=2*s.size:=Y.text;have gP:=gd (λi w' (hi:i<lt.length) (hJ:PCtx w' G (.slice UA lt.length uc) lt) (hb:BxP w' G (.slice UA lt.length uc) i 0 0)=>ZcJ s.size hs G (.slice UA lt.length uc) lt s.data.toList.length (by omega) gJ gl (lt.length+1) i 1 w' (by omega) hi (by omega) hJ hb);have gQ:=gd gl;have fd:w.heap.size<G:=by omega
  (try rw[hC]);(try rw[hG]);clear hD hJ gH gI Y hN gl gJ hz gh gK hX gg gm hw hR h0 hC;go_loopw [10] (λf wr=>∃(j:Nat) (m:Nc) (fb:Bool),j<=lt.length/\f= .bool fb/\BxP wr G (.slice UA lt.length uc) j 0 0/\wr.heap[G+1]? =some (.cells (cellsN m).toArray 25)/\slN m/\Hid (fb=true->RdN wr m/\awayN (some G) m/\∀r,r<=w.heap.size->awayN (some r) m)/\BxN wr w.heap.size 0 [] [] sN sN [] 0/\Ext w2 wr/\G+2<=wr.heap.size/\Hid (docAt s.data.toList.length (if fb=true then some m.nd else none) ((lt.map Tc.t).drop j)=D)) (λ_ wr=>lt.length - (intOf ((wr.cell? ⟨G,1,none⟩).getD undef)).toNat)
  case atStart=>exact ⟨0,Nc.mk 0 [] [] sN [] sN [] [] 0,false,Zk _,rfl,gF,gA,⟨⟨_,_,_,rfl⟩,⟨_,_,_,rfl⟩⟩,(by intro h;cases h),gu,gn,Nat.le_of_eq gG.symm,gq⟩
  case round=>
   clear gF gA gu gn gG gq;obtain ⟨j,m,fb,hj,rfl,hp,hb,hO,hm,hR,hx,fj,hr⟩:=hrel;obtain ⟨mk,ms,mn,fl,ml,fm,hW,mt,ma⟩:=m;obtain ⟨⟨MA,h4,mc,hI⟩,⟨MB,h5,md,gD⟩⟩:=hO;simp only[Nc.al,Nc.ks] at hI gD;subst hI;subst gD;have gz:BxN wr (G+1) mk ms mn (.slice MA h4 mc) (.slice MB h5 md) mt ma:=hb;obtain ⟨b0,b1,b2,b3⟩:=hp.cells;have ga:Hid ((intOf ((wr.cell? ⟨G,1,none⟩).getD undef)).toNat=j):=(by have:(intOf ((wr.cell? ⟨G,1,none⟩).getD undef)).toNat=j:=(by rw[b1];simp[intOf]);exact this);have q:=hr.out;by_cases hH:j<lt.length
   ·obtain ⟨gs,fk,g2,gy⟩:=RTs.at (ge.out wr hx).row hH;injection g2 with e1 e2 e3;subst e1;clear e2 e3;have fe:(0:Int)<=(j:Int):=(by omega);have ff:(j:Int)<(lt.length:Int):=(by omega);have hP:=ZL hH;have gM:=RdT.form (gR.out _ hP);have go:=gQ.out _ hP;have gY:=h7.out.each _ (Yg (f:=Tc.t) hP);rw[Qu hH,Ee] at q;have ho:=λw' hJ hb=>gP.out j w' hH hJ hb;have hZ:=Qu hH;obtain ⟨x,gp⟩:∃x,lt[j]=x:=⟨_,rfl⟩;rw[gp] at gy gM go q hZ;obtain ⟨fn,⟨tk,tn,ta,gN,tt,U⟩⟩:=x;obtain ⟨gr,tc,gc⟩:=gM;dsimp only at gc go q hZ;subst gc;obtain ⟨a0,a1,a2,a3,a4,a5⟩:=gy;dsimp only at a0 a1 a2 a3 a4 a5;obtain ⟨X,gB⟩:∃g,wr.heap.size=g:=⟨_,rfl⟩;obtain ⟨W5,hE⟩:∃W5,wr.alloc (.cells #[nI (tk:Nat),.string (str tn),.slice gr ta.length tc,.bool gN,.string (str tt),nI (U:Nat)] 111)=W5:=⟨_,rfl⟩;have S:Ext wr W5:=(by rw[<-hE];exact (Ext.refl wr).alloc _);have gW:BxT W5 X ⟨.slice gr ta.length tc,⟨tk,tn,ta,gN,tt,U⟩⟩:=(by rw[<-hE,<-gB];exact Zg wr _);have fi:W5.heap.size=X+1:=(by rw[<-hE,Zq,gB]);have g9:G+2<=X:=by omega
    replace hp:=hp.ext S
    replace hR:=hR.ext S
    have gi:=gz.ext S;obtain ⟨t0,t1,t2,t3,t4,t5, -⟩:=gW.cells;dsimp only at t0 t1 t2 t3 t4 t5;obtain ⟨p0,p1,p2,p3⟩:=hp.cells;obtain ⟨f1,f2,f3⟩:=hp.frozen;have V:=gd q;have gO:=gd hZ;have g6:(str tt).size<=140737488351232:=by
     have h1:=h7.out.text;have h2:tt.length<=txts (lt.map Tc.t):=Zd1 (by
      have:=Yg (f:=Tc.t) hP;rw[gp] at this;exact this)
     rw[hF] at h1;have h3:txts (lt.map Tc.t)<=2*s.size:=h1;rw[Yu];omega
    clear hr q hZ gp gY hP;rcases go with hk|hk|hk
    ·subst hk;rw[show ((1:Nat):Int)=1 from rfl] at hE;cases fb with
     |true=>have q:=V.out;rw[Zh ⟨rfl,rfl⟩] at q;subst q;clear V ho;go_wp2;have F:=(Ext.refl W5).drew;have Q:=BxN.ext hR F;have A:=F.cell t5;have hf:X≠w.heap.size:=(by omega);have M:=(ZU (a:=⟨X,5,none⟩) (ZY W5.drew w.heap.size X #[nI 0,eS,eS,sN,sN,eS,nI 0] hf)).trans A;refine rN ?_;change wpAny _ _ _ _ _ _ _ (World.drew _);refine Yj (λw'=>w'.cell? ⟨X,5,none⟩=some (nI (U:Nat))) ?_;refine tG 0 (.agg #[nI 0,eS,eS,sN,sN,eS,nI 0]) A ?_;refine tG 1 (.pointer (some ⟨X,5,none⟩)) A ?_;refine tS 2 (nI (U:Nat)) rfl (λw' J=>by have hq:w'.cell? ⟨X,5,none⟩=some (nI (U:Nat)):=J;go_simp) A ?_;go_simp;refine sS 3 λK hK=> ?_;refine Yc rfl 25 (.tmp 2) (.tmp 66) rfl w.heap.size #[nI 0,eS,eS,sN,sN,eS,nI 0] rfl rfl _ _ Q Zv rfl Uf ?_;refine hK _ _ M ?_;clear hK K;refine sS 4 λK hK=> ?_;go_simp;refine hK _ _ M ?_;clear hK K;refine sS 5 λK hK=> ?_;go_simp;refine hK _ _ M ?_;clear hK K;refine sE ?_;go_wp2;((try simp only[Exit.inBlock,Exit.then]);refine Zl (Zn rfl _ _ _ _ _ _ _ rfl (Zm _ _ _ _ _ _ Q) underlying25 rfl Zv) rfl ?_);exact ⟨_,rfl,⟨Nc.mk 0 [] [] sN [] sN [] [] 0,rfl,⟨⟨_,_,_,rfl⟩,⟨_,_,_,rfl⟩⟩⟩,(((hL.trans hx).trans S).trans F).setRow (Zb _) _⟩
     |false=>
      have q:=V.out;rw[Ze (by rintro ⟨-,h⟩;cases h),Ze (by decide),Ze (by decide),<-gO.out] at q;have ht:=ho W5 (ge.out _ (hx.trans S)) hp;rw[hF] at ht;rw[hF] at q;cases he:elemAt s.size 1 ((lt.map Tc.t).drop j) with
      |error yc=>
       obtain ⟨y,c⟩:=yc;have gj:=GB he;have gX:((c:Int) !=0)=true:=(by rw[YI];omega);rw[he] at q ht;dsimp only at q;subst q;have HI:=gd ht;clear he gj ho ht V
       go_wp2_with (first|(go_at_call 59;(with_reducible refine Za HI.out ?_);rintro e6 Z ⟨v6,rfl,gk,R⟩;(obtain ⟨n6,j6,rfl,hO,hu⟩:=gk.err);(obtain ⟨zk,zs,zn,g7,zl,g8,hy,zt,za⟩:=n6);(obtain ⟨⟨ZA,H,zc,hU⟩,⟨ZB,I,zd,hV⟩⟩:=hO);(simp only[Nc.al,Nc.ks] at hU hV);subst hU;subst hV;simp only[cellsN];(have hd:=gi.grown R (by intro e;injection e with e;omega));(have hB:=hR.grown R (by intro e;injection e with e;omega)))|(refine Zd rfl 25 (.tmp 9) (.tmp 44) rfl (G+1) _ rfl rfl _ _ hd Zv rfl Yx ?_;(have hv:BxP (Z.setRow (G+1) #[nI (zk:Nat),.string (str zs),.string (str zn),.slice ZA H zc,.slice ZB I zd,.string (str zt),nI (za:Nat)]) G (.slice (some gs) lt.length uc) j6 y c:=(ZY Z (G+1) G _ (by omega)).trans hu);(have hM:BxN (Z.setRow (G+1) #[nI (zk:Nat),.string (str zs),.string (str zn),.slice ZA H zc,.slice ZB I zd,.string (str zt),nI (za:Nat)]) w.heap.size 0 [] [] sN sN [] 0:=(ZY Z (G+1) w.heap.size _ (by omega)).trans hB);(have hY:BxN (Z.setRow (G+1) #[nI (zk:Nat),.string (str zs),.string (str zn),.slice ZA H zc,.slice ZB I zd,.string (str zt),nI (za:Nat)]) (G+1) zk zs zn (.slice ZA H zc) (.slice ZB I zd) zt za:=Zm _ _ _ _ _ _ hd);(have hQ:Ext w2 (Z.setRow (G+1) #[nI (zk:Nat),.string (str zs),.string (str zn),.slice ZA H zc,.slice ZB I zd,.string (str zt),nI (za:Nat)]):=((hx.trans S).but R (by omega)).setRow (by omega) _);(obtain ⟨W8,hc⟩:∃W8,Z.setRow (G+1) #[nI (zk:Nat),.string (str zs),.string (str zn),.slice ZA H zc,.slice ZB I zd,.string (str zt),nI (za:Nat)]=W8:=⟨_,rfl⟩);(rw[hc] at hv hM hY hQ);(try rw[hc]);(obtain ⟨v0,v1,v2,v3⟩:=hv.cells)))
       have F:=(Ext.refl W8).drew;have Q:=BxN.ext hM F;have A:W8.drew.cell? ⟨G,2,none⟩=some (nI (y:Nat))/\W8.drew.cell? ⟨G,3,none⟩=some (nI (c:Nat)):=⟨F.cell v2,F.cell v3⟩;have hf:G≠w.heap.size:=(by omega);have M:(W8.drew.setRow w.heap.size #[nI 0,eS,eS,sN,sN,eS,nI 0]).cell? ⟨G,2,none⟩=some (nI (y:Nat))/\(W8.drew.setRow w.heap.size #[nI 0,eS,eS,sN,sN,eS,nI 0]).cell? ⟨G,3,none⟩=some (nI (c:Nat)):=⟨(ZU (a:=⟨G,2,none⟩) (ZY W8.drew w.heap.size G #[nI 0,eS,eS,sN,sN,eS,nI 0] hf)).trans A.1,(ZU (a:=⟨G,3,none⟩) (ZY W8.drew w.heap.size G #[nI 0,eS,eS,sN,sN,eS,nI 0] hf)).trans A.2⟩;clear hc v0 v1 v2 v3;refine rN ?_;change wpAny _ _ _ _ _ _ _ (World.drew _);refine Yj (λw'=>w'.cell? ⟨G,2,none⟩=some (nI (y:Nat))/\w'.cell? ⟨G,3,none⟩=some (nI (c:Nat))) ?_;refine tS 0 (.agg #[nI 0,eS,eS,sN,sN,eS,nI 0]) rfl (λw' J=>by have hg:=J.1;have hh:=J.2;go_simp) A ?_;refine tS 1 (.pointer (some ⟨G,0,none⟩)) rfl (λw' J=>by have hg:=J.1;have hh:=J.2;go_simp) A ?_;refine tS 2 (.pointer (some ⟨G,0,none⟩)) rfl (λw' J=>by have hg:=J.1;have hh:=J.2;go_simp) A ?_;refine tS 3 (.pointer (some ⟨G,2,none⟩)) rfl (λw' J=>by have hg:=J.1;have hh:=J.2;go_simp) A ?_;refine tS 4 (nI (y:Nat)) rfl (λw' J=>by have hg:=J.1;have hh:=J.2;go_simp) A ?_;refine tS 5 (.pointer (some ⟨G,0,none⟩)) rfl (λw' J=>by have hg:=J.1;have hh:=J.2;go_simp) A ?_;refine tS 6 (.pointer (some ⟨G,0,none⟩)) rfl (λw' J=>by have hg:=J.1;have hh:=J.2;go_simp) A ?_;refine tS 7 (.pointer (some ⟨G,3,none⟩)) rfl (λw' J=>by have hg:=J.1;have hh:=J.2;go_simp) A ?_;refine tS 8 (nI (c:Nat)) rfl (λw' J=>by have hg:=J.1;have hh:=J.2;go_simp) A ?_;go_simp;refine sS 9 λK hK=> ?_;refine Yc rfl 25 (.tmp 2) (.tmp 50) rfl w.heap.size #[nI 0,eS,eS,sN,sN,eS,nI 0] rfl rfl _ _ Q Zv rfl Uf ?_;refine hK _ _ M ?_;clear hK K;refine sS 10 λK hK=> ?_;go_simp;refine hK _ _ M ?_;clear hK K;refine sS 11 λK hK=> ?_;go_simp;refine hK _ _ M ?_;clear hK K;refine sE ?_;go_wp2;((try simp only[Exit.inBlock,Exit.then]);refine Zl (Zn rfl _ _ _ _ _ _ _ rfl (Zm _ _ _ _ _ _ Q) underlying25 rfl Zv) rfl ?_);exact ⟨_,rfl,⟨Nc.mk 0 [] [] sN [] sN [] [] 0,rfl,⟨⟨_,_,_,rfl⟩,⟨_,_,_,rfl⟩⟩⟩,((hL.trans hQ).trans F).setRow (Zb _) _⟩
      |ok mr=>
       obtain ⟨m9,r9⟩:=mr;rw[he] at q ht;dsimp only at q;have HI:=gd ht;have HN:=gd q;have gw:=(ge.out _ hx).ta;have gU:=gd gw;clear he ho ht V gw q
       go_wp2_with (first|(go_at_call 59;(with_reducible refine Za HI.out ?_);rintro e6 Z ⟨v6,rfl,gk,R⟩;(obtain ⟨mc,j6,rfl,g3,gE,gC,g4,hu,hI⟩:=gk.ok);(have hO:=RdN.sl gE);(obtain ⟨zk,zs,zn,g7,zl,g8,hy,zt,za⟩:=mc);(obtain ⟨⟨ZA,H,zc,hU⟩,⟨ZB,I,zd,hV⟩⟩:=hO);(simp only[Nc.al,Nc.ks] at hU hV);subst hU;subst hV;simp only[cellsN];(have hd:=gi.grown R (by intro e;injection e with e;omega));(have hB:=hR.grown R (by intro e;injection e with e;omega)))|(refine Zd rfl 25 (.tmp 9) (.tmp 44) rfl (G+1) _ rfl rfl _ _ hd Zv rfl Yx ?_;(have hv:BxP (Z.setRow (G+1) #[nI (zk:Nat),.string (str zs),.string (str zn),.slice ZA H zc,.slice ZB I zd,.string (str zt),nI (za:Nat)]) G (.slice (some gs) lt.length uc) j6 0 0:=(ZY Z (G+1) G _ (by omega)).trans hu);(have hM:BxN (Z.setRow (G+1) #[nI (zk:Nat),.string (str zs),.string (str zn),.slice ZA H zc,.slice ZB I zd,.string (str zt),nI (za:Nat)]) w.heap.size 0 [] [] sN sN [] 0:=(ZY Z (G+1) w.heap.size _ (by omega)).trans hB);(have hY:BxN (Z.setRow (G+1) #[nI (zk:Nat),.string (str zs),.string (str zn),.slice ZA H zc,.slice ZB I zd,.string (str zt),nI (za:Nat)]) (G+1) zk zs zn (.slice ZA H zc) (.slice ZB I zd) zt za:=Zm _ _ _ _ _ _ hd);(have hQ:Ext w2 (Z.setRow (G+1) #[nI (zk:Nat),.string (str zs),.string (str zn),.slice ZA H zc,.slice ZB I zd,.string (str zt),nI (za:Nat)]):=((hx.trans S).but R (by omega)).setRow (by omega) _);(have gb:RdN (Z.setRow (G+1) #[nI (zk:Nat),.string (str zs),.string (str zn),.slice ZA H zc,.slice ZB I zd,.string (str zt),nI (za:Nat)]) (Nc.mk zk zs zn (.slice ZA H zc) zl (.slice ZB I zd) hy zt za):=RdN.grown (Yr Z (G+1) _) _ gE (hI (G+1) (by omega) gT.out));(obtain ⟨W8,hc⟩:∃W8,Z.setRow (G+1) #[nI (zk:Nat),.string (str zs),.string (str zn),.slice ZA H zc,.slice ZB I zd,.string (str zt),nI (za:Nat)]=W8:=⟨_,rfl⟩);(rw[hc] at hv hM hY hQ gb);(try rw[hc]);(obtain ⟨v0,v1,v2,v3⟩:=hv.cells)))
       have gx:=gd hc;clear hc v0 v1 v2 v3;go_roundw
       case rel=>
        refine ⟨j6,Nc.mk zk zs zn (.slice ZA H zc) zl (.slice ZB I zd) hy zt za,true,gC.2,rfl,hv,hY,⟨⟨_,_,_,rfl⟩,⟨_,_,_,rfl⟩⟩,λ_=>⟨gb,hI G (by omega) gU.out,λr hr=>hI r (by omega) (gS.out r hr)⟩,hM,hQ,?_,?_⟩
        ·have h1:=R.size;have h2:W8.heap.size=Z.heap.size:=(by rw[<-gx.out];simp[World.setRow]);omega
        ·rw[Zh rfl,g3,<-g4,hF];exact HN.out
       case measure=>have h8:=ga.out;have h9:=hv.cells.2.1;have fc:=gC;rw[h8,h9];simp[intOf];omega
    ·subst hk;rw[show ((2:Nat):Int)=2 from rfl] at hE;have q:=V.out;rw[Ze (by rintro ⟨h, -⟩;cases h),Zh rfl] at q;subst q;clear V ho;go_wp2;have F:=(Ext.refl W5).drew;have Q:=BxN.ext hR F;have A:=F.cell t5;have hf:X≠w.heap.size:=(by omega);have M:=(ZU (a:=⟨X,5,none⟩) (ZY W5.drew w.heap.size X #[nI 0,eS,eS,sN,sN,eS,nI 0] hf)).trans A;refine rN ?_;change wpAny _ _ _ _ _ _ _ (World.drew _);refine Yj (λw'=>w'.cell? ⟨X,5,none⟩=some (nI (U:Nat))) ?_;refine tG 0 (.agg #[nI 0,eS,eS,sN,sN,eS,nI 0]) A ?_;refine tG 1 (.pointer (some ⟨X,5,none⟩)) A ?_;refine tS 2 (nI (U:Nat)) rfl (λw' J=>by have hq:w'.cell? ⟨X,5,none⟩=some (nI (U:Nat)):=J;go_simp) A ?_;go_simp;refine sS 3 λK hK=> ?_;refine Yc rfl 25 (.tmp 2) (.tmp 73) rfl w.heap.size #[nI 0,eS,eS,sN,sN,eS,nI 0] rfl rfl _ _ Q Zv rfl Uf ?_;refine hK _ _ M ?_;clear hK K;refine sS 4 λK hK=> ?_;go_simp;refine hK _ _ M ?_;clear hK K;refine sS 5 λK hK=> ?_;go_simp;refine hK _ _ M ?_;clear hK K;refine sE ?_;go_wp2;((try simp only[Exit.inBlock,Exit.then]);refine Zl (Zn rfl _ _ _ _ _ _ _ rfl (Zm _ _ _ _ _ _ Q) underlying25 rfl Zv) rfl ?_);exact ⟨_,rfl,⟨Nc.mk 0 [] [] sN [] sN [] [] 0,rfl,⟨⟨_,_,_,rfl⟩,⟨_,_,_,rfl⟩⟩⟩,(((hL.trans hx).trans S).trans F).setRow (Zb _) _⟩
    ·subst hk;rw[show ((3:Nat):Int)=3 from rfl] at hE;have q:=V.out;rw[Ze (by rintro ⟨h, -⟩;cases h),Ze (by decide),Zh rfl] at q;have hn:=λw'=>ZcG (str tt) w' g6;rw[Z5] at hn;cases hbl:blankL tt with
     |false=>
      rw[hbl,Zh rfl] at q;rw[hbl] at hn;subst q;have HB:=gd hn;clear V ho hn hbl
      go_wp2_with (first|(go_at_call 58;(with_reducible refine Za (HB.out _) ?_);rintro e6 Z ⟨rfl,h6⟩;(have gf:=h6.symm);clear h6;subst gf))
      have F:=(Ext.refl W5).drew;have Q:=BxN.ext hR F;have A:=F.cell t5;have hf:X≠w.heap.size:=(by omega);have M:=(ZU (a:=⟨X,5,none⟩) (ZY W5.drew w.heap.size X #[nI 0,eS,eS,sN,sN,eS,nI 0] hf)).trans A;refine rN ?_;change wpAny _ _ _ _ _ _ _ (World.drew _);refine Yj (λw'=>w'.cell? ⟨X,5,none⟩=some (nI (U:Nat))) ?_;refine tG 0 (.agg #[nI 0,eS,eS,sN,sN,eS,nI 0]) A ?_;refine tG 1 (.pointer (some ⟨X,5,none⟩)) A ?_;refine tS 2 (nI (U:Nat)) rfl (λw' J=>by have hq:w'.cell? ⟨X,5,none⟩=some (nI (U:Nat)):=J;go_simp) A ?_;go_simp;refine sS 3 λK hK=> ?_;refine Yc rfl 25 (.tmp 2) (.tmp 86) rfl w.heap.size #[nI 0,eS,eS,sN,sN,eS,nI 0] rfl rfl _ _ Q Zv rfl Uf ?_;refine hK _ _ M ?_;clear hK K;refine sS 4 λK hK=> ?_;go_simp;refine hK _ _ M ?_;clear hK K;refine sS 5 λK hK=> ?_;go_simp;refine hK _ _ M ?_;clear hK K;refine sE ?_;go_wp2;((try simp only[Exit.inBlock,Exit.then]);refine Zl (Zn rfl _ _ _ _ _ _ _ rfl (Zm _ _ _ _ _ _ Q) underlying25 rfl Zv) rfl ?_);exact ⟨_,rfl,⟨Nc.mk 0 [] [] sN [] sN [] [] 0,rfl,⟨⟨_,_,_,rfl⟩,⟨_,_,_,rfl⟩⟩⟩,(((hL.trans hx).trans S).trans F).setRow (Zb _) _⟩
     |true=>
      rw[hbl,Ze (by simp)] at q;rw[hbl] at hn;have HB:=gd hn;have HN:=gd q;clear V ho hn hbl q
      go_wp2_with (first|(go_at_call 58;(with_reducible refine Za (HB.out _) ?_);rintro e6 Z ⟨rfl,h6⟩;(have gf:=h6.symm);clear h6;subst gf))
      have hu:=hp.next (j+1);have hB:BxN (W5.setCell ⟨G,1,none⟩ (nI ((j+1:Nat):Int))) w.heap.size 0 [] [] sN sN [] 0:=hR.other (by omega);have hd:BxN (W5.setCell ⟨G,1,none⟩ (nI ((j+1:Nat):Int))) (G+1) mk ms mn (.slice MA h4 mc) (.slice MB h5 md) mt ma:=gi.other (by omega);have gL:Ext w2 (W5.setCell ⟨G,1,none⟩ (nI ((j+1:Nat):Int))):=(hx.trans S).setCell (by show _<=G;omega) _;have g5:(W5.setCell ⟨G,1,none⟩ (nI ((j+1:Nat):Int))).heap.size=W5.heap.size:=(by simp[World.setCell]);have R:=Yo W5 ⟨G,1,none⟩ (nI ((j+1:Nat):Int));rw[show ((j+1:Nat):Int)=(j:Int)+1 by omega] at hu hB hd gL g5 R;go_roundw
      case rel=>
       refine ⟨j+1,Nc.mk mk ms mn (.slice MA h4 mc) ml (.slice MB h5 md) hW mt ma,fb,by omega,rfl,?_,hd,⟨⟨_,_,_,rfl⟩,⟨_,_,_,rfl⟩⟩,λh=> ?_,hB,gL,by (try simp only[nI,sN] at *);omega,HN⟩
       ·unfold BxP;rw[show (((j+1:Nat):Int))=(j:Int)+1 by omega];exact hu
       ·obtain ⟨h1,h2,h3⟩:=hm.out h;exact ⟨RdN.grown R _ (RdN.ext S _ h1) h2,h2,h3⟩
      case measure=>have h8:=ga.out;have h9:=hu.cells.2.1;rw[h8,h9];simp[intOf];omega
   ·have gZ:j=lt.length:=(by omega);subst gZ;rw[ZC (by rw[Zs];exact Zb _),Zbf] at q;have fg:¬(lt.length:Int)<(lt.length:Int):=(by omega);obtain ⟨m0,m1,m2,m3,m4,m5,m6⟩:=gz.cells;clear hr hH;cases fb with
    |false=>
     rw[Ze (by simp)] at q;dsimp only at q;rw[hF] at q;subst q
     go_wp2_with (first|(refine Zd rfl 25 (.tmp 2) (.tmp 102) rfl w.heap.size #[nI 0,eS,eS,sN,sN,eS,nI 0] rfl rfl _ _ hR Zv rfl Uf ?_))
     ((try simp only[Exit.inBlock,Exit.then]);refine Zl (Zn rfl _ _ _ _ _ _ _ rfl (Zm _ _ _ _ _ _ hR) underlying25 rfl Zv) rfl ?_);exact ⟨_,rfl,⟨Nc.mk 0 [] [] sN [] sN [] [] 0,rfl,⟨⟨_,_,_,rfl⟩,⟨_,_,_,rfl⟩⟩⟩,(hL.trans hx).setRow (Zb _) _⟩
    |true=>
     rw[Zh rfl] at q;dsimp only at q;subst q
     go_wp2_with (first|(refine Zd rfl 25 (.tmp 2) (.tmp 105) rfl w.heap.size _ rfl rfl _ _ hR Zv rfl Yx ?_))
     ((try simp only[Exit.inBlock,Exit.then]);refine Zl (Zn rfl _ _ _ _ _ _ _ rfl (Zm _ _ _ _ _ _ hR) underlying25 rfl Zv) rfl ?_);obtain ⟨h1,h2,h3⟩:=hm.out (by trivial);exact ⟨_,rfl,⟨Nc.mk mk ms mn (.slice MA h4 mc) ml (.slice MB h5 md) hW mt ma,rfl,rfl,RdN.grown (Yr wr w.heap.size _) _ h1 (h3 _ (Zb _)),λr hr=>h3 r (Nat.le_of_lt hr)⟩,(hL.trans hx).setRow (Zb _) _⟩
end
section
variable {α:Type}
def DecRet (w':Wq) (v:Value):Except PErr (List Fd)->Prop
 | .ok l=>∃v' lc,v= .tuple #[.agg #[v'],nI 0,nI (errFs l:Nat)]/\lc.map Fc.f=normA l/\RFcs w' v' lc/\∀y∈lc,RdC w' y
 | .error (y,c)=>v= .tuple #[.agg #[sN],nI (y:Nat),nI (c:Nat)]
theorem Zhx {n:Nd} (h:n.kind≠0\/n.space≠ []\/n.name≠opmlL\/attrL n versionL≠some twoL):opmlP n= .error (n.at_,18):=by
 unfold opmlP;rw[Zh h]
theorem Zhy {n:Nd} (h:n.kind=0) (q:n.space= []) (A:n.name=opmlL) (D:attrL n versionL=some twoL):opmlP n=match n.kids.find? (isEl bodyL) with|none=> .error (n.at_,19)|some b=>visP b []:=by
 unfold opmlP;rw[Ze (by rintro (e|e|e|e)<;>first|exact e h|exact e q|exact e A|exact e D)];rfl
theorem Zds (f:α->Bool) (l:List α):l.find? f=(l.filter f).head?:=by rw[List.head?_filter]
theorem Zb6 {n:Nd}:∀{l:List Nd},n∈l->n.cnt<=Nds.cnt l
 | [],h=>by cases h
 |x::t,h=>by
  rw[Nds.cnt]
  rcases ZF.1 h with rfl|h
  ·omega
  ·have:=Zb6 h;omega
theorem Zes {b:Nat}:∀{l:List ByteArray},(∀s∈l,s.size<=b)->sizes l<=l.length*b
 | [],_=>Zk _
 |x::t,h=>by
  have A:=h x ZH
  have D:=Zes (b:=b) (l:=t) λs q=>h s (ZE _ q)
  have e:sizes (x::t)=x.size+sizes t:=by unfold sizes;simp
  rw[e,Zf,Nat.add_mul]
  omega
theorem ZiO {f:Fd} (h:opOk 5000 f):fokS f/\f.path.length<=1000000:=by
 obtain ⟨A,D,J,K,M,F,q⟩:=h;have Q:=Zes D;have I:f.path.length*(2*5000)<=64*(2*5000):=Nat.mul_le_mul_right _ A;refine ⟨⟨⟨by rw[F];unfold i64ok;decide,by omega⟩,by rw[q];simp,(by rw[q];intro e H;cases H)⟩,by omega⟩
theorem IX:∀{l:List Fc},(∀x∈l,x.f.ents= [])->allE l=0
 | [],_=>rfl
 |x::t,h=>by
  have A:=h x ZH
  have q:=IX (l:=t) λy D=>h y (ZE _ D)
  unfold allE at q|-
  rw[ZP,Uk,q,A]
  rfl
theorem ZeA {b:Nd} {l:List Fd} (D:visP b []= .ok l) (q:b.fits 5000) (F:b.cnt<=5000):l.length<=5000/\∀f∈l,opOk 5000 f:=by
 have h:=Zgc 5000 b [] l D q (Zk _) (by intro s A;cases A);exact ⟨by omega,h.2⟩
theorem ZcT {O:List Fc} {l:List Fd} (D:O.map Fc.f=l) (h:l.length<=5000/\∀f∈l,opOk 5000 f):O.length<=1000000/\(∀x∈O,fokS x.f/\x.f.path.length<=1000000)/\allE O<=1000000:=by
 subst D;have A:=h.1;rw[Zs] at A;refine ⟨by omega,λx q=>ZiO (h.2 x.f (Yg q)),?_⟩;rw[IX λx q=>(h.2 x.f (Yg q)).ents];omega
end
section
variable {l:List Fc}
theorem Zfy (D:∀x∈l,fokS x.f/\x.f.path.length<=1000000) (H:allE l<=1000000):∀y∈normA (l.map Fc.f),fokS y:=by
 intro y h;unfold normA at h;split at h
 ·have A:=ZeW (l:=(l.map Fc.f).map collF) (λz J=>by
   obtain ⟨q,I,rfl⟩:=Z3.1 J;obtain ⟨x,F,rfl⟩:=Z3.1 I;exact Zgs (D x F).1 (D x F).2) y h
  refine ⟨A.1.1,?_,A.2⟩;have K:y.ents.length<=sumE (ordF.canon ((l.map Fc.f).map collF)):=ZjY (Z3.2 ⟨y,h,rfl⟩);have M:=ZeX ((l.map Fc.f).map collF);have Q:sumE ((l.map Fc.f).map collF)<=allE l:=by rw[ZeL];exact ZhQ l
  omega
 ·simp at h
theorem Zhw (L:List Fd):(normA L).length<=L.length:=by
 unfold normA;split
 ·have h:=KG ordF (L.map collF)
  rwa [Zs] at h
 ·simp
end
section
variable {N:Nat} {s:List UInt8}
section
variable {P:Fd→Prop}
theorem GI (q:∀a b,P a->P b->P (joinF a b)):∀(l:List Fd) (e:Fd),(∀x∈l,P x)->P e->P (ordF.scan l e).2/\∀z∈(ordF.scan l e).1,z∈l
 | [],e,_,he=>⟨he,by intro z h;simp[Ord.scan] at h⟩
 |y::t,e,hl,he=>by
  have J:=hl y ZH
  have H:=λx I=>hl x (ZE y I)
  unfold Ord.scan
  split
  ·obtain ⟨A,D⟩:=GI q t (joinF y e) H (q y e J he)
   exact ⟨A,λz F=>ZE _ (D z F)⟩
  ·obtain ⟨A,D⟩:=GI q t e H he
   exact ⟨A,λz F=>(ZF.1 F).elim (λh=>by rw[h];exact ZH) λh=>ZE _ (D z h)⟩
theorem Es (q:∀a b,P a->P b->P (joinF a b)):∀(l s:List Fd),(∀x∈l,P x)->(∀x∈s,P x)->∀z∈l.foldl ordF.put s,P z
 | [],_,_,hs=>hs
 |e::t,s,hl,hs=>Es q t _ (λx F=>hl x (ZE _ F)) λz H=>by
  obtain ⟨A,D⟩:=GI q s e hs (hl e ZH)
  rcases (Ord.mem_ins _ _ _ _).1 H with h|h
  ·rw[h];exact A
  ·exact hs z (D z h)
theorem Zc7 (q:∀a b,P a->P b->P (joinF a b)) {l:List Fd} (h:∀x∈l,P x):∀z∈ordF.canon l,P z:=Es q l [] h (by simp)
end
theorem Zi7 (a b:Fd) (h:smF N a) (q:smF N b):smF N (joinF a b):=by
 unfold joinF laterF;split
 ·exact q
 ·exact h
theorem Zi6 {f:Fd} (h:smF N f):smF N (collF f):=by
 obtain ⟨A,D,F,H⟩:=h;refine ⟨λp I=> ?_,Zu (YX _) D,Zu (YX _) F,Zu (YX _) H⟩;obtain ⟨q,J,rfl⟩:=Z3.1 I;exact Zu (YX _) (A q J)
theorem Zi8 {l:List Fd} (h:∀x∈l,smF N x):∀z∈normA l,smF N z:=by
 unfold normA;split
 ·exact Zc7 Zi7 λx q=>by obtain ⟨y,A,rfl⟩:=Z3.1 q;exact Zi6 (h y A)
 ·intro z D;cases D
def smA (L:List Fd):Prop:=(∀f∈L,fokS f/\smF 10000 f)/\L.length<=10000
theorem ZfA {m:Nd} {l:List Fd} (h:opmlP m= .ok l) (q:m.fits 5000) (F:m.cnt<=5000):l.length<=5000/\∀f∈l,opOk 5000 f:=by
 obtain ⟨k,s,n,al,ks,t,a⟩:=m;rw[Nd.fits] at q;rw[Nd.cnt] at F;unfold opmlP at h;split at h
 ·cases h
 ·split at h
  ·cases h
  ·rename_i b D;have A:b∈ks:=List.mem_of_find?_eq_some D;exact ZeA h ((Nds.fits_iff _).1 q.2.2.2.2.2.2.2.2 b A) (by have:=Zb6 A;omega)
def decL (m:Nd):List Fd:=match opmlP m with| .error _=> []| .ok l=>normA l
def decAt (m:Nd):Nat:=match opmlP m with| .error x=>x.1| .ok _=>0
def decE (m:Nd):Nat:=match opmlP m with| .error x=>x.2| .ok l=>errFs l
theorem ZjG {m:Nd} (q:m.fits 5000) (K:m.cnt<=5000):smA (decL m):=by
 unfold decL;cases h:opmlP m with
 |error x=>exact ⟨(by intro f q;cases q),Zk _⟩
 |ok l=>obtain ⟨J,A⟩:=ZfA h q K;have Q:=Zhw l;obtain ⟨lc,D⟩:∃lc:List Fc,lc.map Fc.f=l:=⟨l.map λf=>⟨undef,undef,f⟩,by rw[ZeL];exact List.map_id' l⟩;obtain ⟨M,I,g3⟩:=ZcT D ⟨J,A⟩;have H:=Zfy I g3;rw[D] at H;exact ⟨λf q=>⟨H f q,Zi8 (λx F=>⟨(A x F).path,(A x F).id,(A x F).title,(A x F).link⟩) f q⟩,by show (normA l).length<=10000;omega⟩
def docA:List UInt8:= [60,111,112,109,108,32,118,101,114,115,105,111,110,61,34,50,46,48,34,62,60,98,111,100,121,62,60,111,117,116,108,105,110,101,32,116,101,120,116,61,34,97,34,62,60,111,117,116,108,105,110,101,32,116,101,120,116,61,34,84,34,32,120,109,108,85,114,108,61,34,70,34,47,62,60,47,111,117,116,108,105,110,101,62,60,47,98,111,100,121,62,60,47,111,112,109,108,62]
def docM:List UInt8:= [60,111,112,109,108,32,118,101,114,115,105,111,110,61,34,50,46,48,34,62,60,98,111,100,121,62,60,111,117,116,108,105,110,101,62,60,111,117,116,108,105,110,101,32,116,101,120,116,61,34,84,34,32,120,109,108,85,114,108,61,34,70,34,47,62,60,47,111,117,116,108,105,110,101,62,60,47,98,111,100,121,62,60,47,111,112,109,108,62]
def docO:List UInt8:= [60,63,120,109,108,32,118,101,114,115,105,111,110,61,34,49,46,48,34,32,101,110,99,111,100,105,110,103,61,34,85,84,70,45,56,34,63,62,10,60,111,112,109,108,32,118,101,114,115,105,111,110,61,34,50,46,48,34,62,60,104,101,97,100,47,62,60,98,111,100,121,62,60,111,117,116,108,105,110,101,32,116,101,120,116,61,34,97,34,62,60,111,117,116,108,105,110,101,32,116,121,112,101,61,34,114,115,115,34,32,116,101,120,116,61,34,84,34,32,120,109,108,85,114,108,61,34,70,34,47,62,60,47,111,117,116,108,105,110,101,62,60,47,98,111,100,121,62,60,47,111,112,109,108,62,10]
def feedA:Fd:=⟨[⟨#[97]⟩],⟨#[70]⟩,⟨#[84]⟩,⟨#[]⟩, -62135596800,[]⟩
def okOf (r:Except PErr (List Fd)) (l:List Fd):Bool:=match r with| .error _=>false| .ok l'=>decide (l'=l)
def errOf (r:Except PErr (List Fd)) (x:PErr):Bool:=match r with| .error y=>decide (y=x)| .ok _=>false
theorem Zj4 {r:Except PErr (List Fd)} {l:List Fd} (h:okOf r l=true):r= .ok l:=by
 cases r with
 |error e=>cases h
 |ok l'=>exact Zz _ (Y4 h)
theorem Zik {r:Except PErr (List Fd)} {x:PErr} (h:errOf r x=true):r= .error x:=by
 cases r with
 |error e=>exact Zz _ (Y4 h)
 |ok l'=>cases h
def treeOk (s:List UInt8) (p:Nd->Bool):Bool:=match treeP s with|some m=>p m|none=>false
theorem ZbT {p:Nd->Bool} (h:treeOk s p=true):∃m,treeP s=some m/\p m=true:=by
 unfold treeOk at h;split at h
 ·rename_i m q;exact ⟨m,q,h⟩
 ·cases h
theorem Zgu:∃m,treeP docA=some m/\opmlP m= .ok [feedA]:=by
 obtain ⟨m,h,q⟩:=ZbT (s:=docA) (p:=λm=>okOf (opmlP m) [feedA]) (by decide+kernel);exact ⟨m,h,Zj4 q⟩
theorem Zgy:∃m,treeP docM=some m/\opmlP m= .error (26,19):=by
 obtain ⟨m,h,q⟩:=ZbT (s:=docM) (p:=λm=>errOf (opmlP m) (26,19)) (by decide+kernel);exact ⟨m,h,Zik q⟩
theorem ZfX:okA [feedA]=true:=by decide+kernel
theorem Zbe:errFs [feedA]=0/\normA [feedA]= [feedA]:=EL ZfX
theorem Zia:docW (encP [feedA])=docO:=by decide+kernel
end
section
variable {c d k m:Nat} {s t:List UInt8}
theorem Zd9 {h a:Nat} {n:List UInt8} {A B:Option Addr}:(#[nI (k:Nat),.string (str s),.string (str n),.slice A m c,.slice B h d,.string (str t),nI (a:Nat)]:Array Value).all (λu=>u.oneCell')=true:=by simp[Value.oneCell']
theorem ZhX (v:Value) (l:List Fc) (w:Wq) (hE:Env w) (I:NmTabs w) (hr:RFcs w v l) (M:∀x∈l,RdC w x) (V:smA (l.map Fc.f)):
 Calls prog 17 #[.agg #[v]] w λe w'=>e= .returned (.tuple #[.string (str (if okA (l.map Fc.f)=true then docW (encP (l.map Fc.f)) else [])),nI (if okA (l.map Fc.f)=true then 0 else 22)])/\Ext w w':=by
 have hn:l.length<=10000:=by have:=V.2;rwa [Zs] at this
 have hk:∀x∈l,fokS x.f:=λx X=>(V.1 x.f (Yg X)).1;have q:=gd (λ(w':Wq) (h:Ext w w')=>Ze1 v l w' (hE.ext h) (hr.ext h) (λx X=>(M x X).ext h) hk (by omega));have H:=ZgG (l:=l.map Fc.f) (λf hf=>(V.1 f hf).2) V.2;have Y:=gd (λ(x:Nc) (w':Wq) (h:Ext w w') (X:x.nd=encP (l.map Fc.f)) (hg:RdN w' x)=>ZcX 10000 (by decide) x w' (by rw[X];exact H.2.1) (hE.ext h) (I.ext h) hg (by rw[X];exact H.2.2));obtain ⟨VA,vc,hv, -, -⟩:=hr.form;subst hv;unfold EncRet at q;obtain ⟨W0,Z⟩:∃W0,w.alloc (.cells #[.slice VA l.length vc] 31)=W0:=⟨_,rfl⟩;have Q:Ext w W0:=by rw[<-Z];exact (Ext.refl w).alloc _
 have b0:W0.cell? ⟨w.heap.size,0,none⟩=some (.slice VA l.length vc):=by rw[<-Z];exact (Zp (Zg w _) 0).trans rfl
 have D:=gd Q;by_cases ho:okA (l.map Fc.f)=true
 ·have K:=(ZkB ho).1;simp only[Zh ho] at q|-;clear hE I hr M V hn hk H ho Q;go_enter func17,ntmps17
  go_wp2_with (first|(go_at_call 20;(with_reducible refine Za (q.out _ D.out) ?_);rintro e w1 ⟨r,rfl,⟨x,rfl,S,U⟩,F⟩;(have hh:=RdN.sl U);(have HW:=gd (λ(w':Wq) (h:Ext w1 w')=>Y.out x w' ((D.out.trans F).trans h) S (RdN.ext h _ U)));rw[S,Zh K,Zh K] at HW;(obtain ⟨k,s,n,al,l0,ks,kids,t,a⟩:=x);(obtain ⟨⟨A,m,c,ha⟩,⟨B,m2,d,hc⟩⟩:=hh);simp only[Nc.al,Nc.ks] at ha hc;subst ha;subst hc;simp only[cellsN] at HW|-;(obtain ⟨W2,J⟩:∃W2,w1.alloc (.cells #[nI (k:Nat),.string (str s),.string (str n),.slice A m c,.slice B m2 d,.string (str t),nI (a:Nat)] 25)=W2:=⟨_,rfl⟩);(have R:Ext w1 W2:=by rw[<-J];exact (Ext.refl w1).alloc _);(have hb:BxN W2 w1.heap.size k s n (.slice A m c) (.slice B m2 d) t a:=by rw[<-J];exact Zg w1 _);(obtain ⟨c0,c1,c2,c3,c4,c5,c6⟩:=hb.cells);(have hd:=gd ((D.out.trans F).trans R));(have he:=gd R);clear S U F R hb K b0)|(refine Zd rfl 25 (.tmp 4) (.tmp 9) rfl w1.heap.size _ rfl rfl _ _ (Zg _ _) Zv rfl Zd9 ?_;rw[ZW];rw[J])|(go_at_call 42;(with_reducible refine Za (HW.out _ he.out) ?_);rintro e w3 ⟨rfl,hi⟩))
  go_ret2
  exact ⟨rfl,hd.out.trans hi⟩
 ·simp only[Ze ho] at q|-;clear hE I hr M V hn hk H ho Q Y;go_enter func17,ntmps17
  go_wp2_with (first|(go_at_call 20;(with_reducible refine Za (q.out _ D.out) ?_);rintro e w1 ⟨r,rfl,rfl,F⟩)|(refine Zd rfl 25 (.tmp 4) (.tmp 9) rfl _ _ rfl rfl _ _ (Zg _ _) Zv rfl Zkm ?_;rw[ZW]))
  go_ret2
  exact ⟨rfl,(D.out.trans F).alloc _⟩
end
def zero7:Array Value:=#[nI 0,eS,eS,sN,sN,eS,nI 0]
theorem EX (N:Nat) (hN:N<=8388608) (x:Nc) (w:Wq) (F:RdN w x) (K:x.nd.fits N) (Y:x.nd.ht<=101):
 Calls prog 27 #[.agg (cellsN x).toArray] w λe w'=>∃v,e= .returned v/\ResRet x w.heap.size w' v (resP x.nd [])/\Ext w w':=by
 have J:=((Ext.refl w).alloc (.cells (cellsN x).toArray 25)).alloc (.cells zero7 25);obtain ⟨W0,h⟩:∃W0,(w.alloc (.cells (cellsN x).toArray 25)).alloc (.cells zero7 25)=W0:=⟨_,rfl⟩;have M:W0.heap[w.heap.size]? =some (.cells (cellsN x).toArray 25):=by rw[<-h];exact ((Ext.refl _).alloc _).heap (Zg w _)
 have V:BxN W0 (w.heap.size+1) 0 [] [] sN sN [] 0:=by rw[<-h];exact Ys w _ _
 have hq:W0.heap.size=w.heap.size+2:=by rw[<-h,Zq,Zq]
 rw[h] at J;have hb:x.nd.ht*N<=101*8388608:=Nat.mul_le_mul Y hN;have I:=Ko N hN (x.nd.ht+1) x sN [] W0 (YK _) (RdN.ext J x F) (RSl.nil _ 2) K (by rw[ZK];omega);have R:=RdN.sl F;have hg:=gd (λr (hr:w.heap.size<=r)=>(XJ F hr:awayN (some r) x));obtain ⟨RR,X⟩:∃RR,resP x.nd []=RR:=⟨_,rfl⟩;rw[X] at I|-;obtain ⟨k,s,nm,al,l,ks,kids,t,at_⟩:=x;obtain ⟨⟨A,an,c,ha⟩,⟨B,bn,d,hk⟩⟩:=R;simp only[Nc.al,Nc.ks] at ha hk;subst ha;subst hk;unfold zero7 at h;simp only[cellsN] at I h M|-;have HC:=gd I;have hh:BxN W0 w.heap.size k s nm (.slice A an c) (.slice B bn d) t at_:=M;obtain ⟨b0,b1,b2,b3,b4,b5,b6⟩:=hh.cells;have hp:=gd F;clear I M X F K Y hb;cases RR with
 |error yc=>
  obtain ⟨y,ec⟩:=yc;go_enter func27,ntmps27
  go_wp2_with (first|(go_at_call 60;(with_reducible refine Za HC.out ?_);rintro e4 w4 ⟨v4,rfl,Q,H⟩;(obtain ⟨m,rfl,R⟩:=Q.err);(obtain ⟨mk,ms,mn,hs,ml,hu,S,mt,ma⟩:=m);(obtain ⟨⟨MA,hl,mc,D⟩,⟨MB,hm,md,Z⟩⟩:=R);(simp only[Nc.al,Nc.ks] at D Z);subst D;subst Z;simp only[cellsN];(have q:=V.ext H))|(refine Zd rfl 25 (.tmp 2) (.tmp 7) rfl (w.heap.size+1) _ rfl rfl _ _ q Zv rfl Yx ?_))
  ((try simp only[Exit.inBlock,Exit.then]);refine Zl (Zn rfl _ _ _ _ _ _ _ rfl (Zm _ _ _ _ _ _ q) underlying25 rfl Zv) rfl ?_);exact ⟨_,rfl,⟨.mk mk ms mn (.slice MA hl mc) ml (.slice MB hm md) S mt ma,rfl,⟨⟨_,_,_,rfl⟩,⟨_,_,_,rfl⟩⟩⟩,(J.trans H).setRow (by omega) _⟩
 |ok m9=>
  go_enter func27,ntmps27
  go_wp2_with (first|(go_at_call 60;(with_reducible refine Za HC.out ?_);rintro e4 w4 ⟨v4,rfl,Q,H⟩;(obtain ⟨mc,rfl,hi,hc,D⟩:=Q.ok);(have hd:=RdN.sl hc);(obtain ⟨yk,ys,yn,hv,yl,hw,U,yt,ya⟩:=mc);(obtain ⟨⟨YA,hn,yc,he⟩,⟨YB,ho,yd,hf⟩⟩:=hd);(simp only[Nc.al,Nc.ks] at he hf);subst he;subst hf;simp only[cellsN];(have q:=V.ext H))|(refine Zd rfl 25 (.tmp 2) (.tmp 7) rfl (w.heap.size+1) _ rfl rfl _ _ q Zv rfl Yx ?_))
  ((try simp only[Exit.inBlock,Exit.then]);refine Zl (Zn rfl _ _ _ _ _ _ _ rfl (Zm _ _ _ _ _ _ q) underlying25 rfl Zv) rfl ?_);exact ⟨_,rfl,⟨.mk yk ys yn (.slice YA hn yc) yl (.slice YB ho yd) U yt ya,rfl,hi,RdN.grown (Yr _ _ _) _ hc (D _ (by omega) (hg.out _ (by omega))),λr hr hj=>D r (by omega) hj⟩,(J.trans H).setRow (by omega) _⟩
section
variable {c fin:Nat} {s:List UInt8}
def TreeRet (w:Wq) (v:Value):Option Nd->Prop
 |some m=>∃mc:Nc,v= .tuple #[.agg (cellsN mc).toArray,nI 1]/\mc.nd=m/\RdN w mc
 |none=>v= .tuple #[.agg (cellsN (Nc.mk 0 [] [] sN [] sN [] [] 0)).toArray,nI 0]
theorem KN {x:Nat}:∀(f:Nat) (found:Option Nd) (l:List Tok),docGo fin f found l= .error (x,c)->c≠0
 |0,found,l,h=>by rw[docGo] at h;injection h with h;injection h with _ h;omega
 |f+1,found,[],h=>by
  rw[J1] at h
  cases found with
  |none=>injection h with h;injection h with _ h;omega
  |some y=>cases h
 |f+1,found,t::r,h=>by
  rw[Jx] at h
  split at h
  ·injection h with h;injection h with _ h;omega
  ·split at h
   ·injection h with h;injection h with _ h;omega
   ·split at h
    ·split at h
     ·injection h with h;injection h with _ h;omega
     ·exact KN f found r h
    ·split at h
     ·rename_i y q
      obtain ⟨y1,y2⟩:=y
      have:=GB q
      injection h with h;injection h with _ h;omega
     ·exact KN f _ _ h
theorem Zid {x:Nat} (h:docP s= .error (x,c)):c≠0:=by
 rw[QT] at h;split at h
 ·rename_i y q;obtain ⟨y1,y2⟩:=y;have:=ZbS q;injection h with h;injection h with _ h;omega
 ·exact KN _ _ _ h
theorem ZdT (s:ByteArray) (w:Wq) (hs:s.size<=maxLen):
 Calls prog 10 #[.string s] w λe w'=>∃v,e= .returned v/\TreeRet w' v (treeP s.data.toList)/\Ext w w':=by
 have hy:=ZI s;obtain ⟨T,F⟩:∃T,treeP s.data.toList=T:=⟨_,rfl⟩;rw[F];unfold treeP at F;rw[hy] at F;obtain ⟨W0,hn⟩:∃W0,w.alloc (.cells #[nI 0,eS,eS,sN,sN,eS,nI 0] 25)=W0:=⟨_,rfl⟩;have hj:Ext w W0:=by rw[<-hn];exact (Ext.refl w).alloc _
 have V:BxN W0 w.heap.size 0 [] [] sN sN [] 0:=by rw[<-hn];exact Zg w _
 have hC:w.heap.size<W0.heap.size:=by rw[<-hn,Zq];omega
 by_cases h5:5000<s.size
 ·rw[Zh h5] at F;subst F;have hb:(5000:Int)<(s.size:Int):=by omega
  clear h5;go_enter func10,ntmps10
  go_wp2_with (first|(refine Zd rfl 25 (.tmp 2) (.tmp 13) rfl w.heap.size #[nI 0,eS,eS,sN,sN,eS,nI 0] rfl rfl _ _ V Zv rfl Uf ?_))
  ((try simp only[Exit.inBlock,Exit.then]);refine Zl (Z6 rfl _ _ _ _ _ _ _ rfl (Zm _ _ _ _ _ _ V) underlying25 rfl Zv) rfl ?_);exact ⟨_,rfl,rfl,hj.setRow (Zb _) _⟩
 ·rw[Ze h5] at F;have hb:¬(5000:Int)<(s.size:Int):=by omega
  have K:=λw'=>ZcL s w' (by omega);cases hp:docP s.data.toList with
  |error yc=>
   obtain ⟨y,c⟩:=yc;have ho:=Zid hp;have hF:((c:Int) !=0)=true:=(by rw[YI];omega);rw[hp] at F K;dsimp only at F;subst F;have HP:=gd K;clear K hp ho h5;go_enter func10,ntmps10
   go_wp2_with (first|(go_at_call 26;(with_reducible refine Za (HP.out _) ?_);rintro e w2 ⟨v2,rfl,⟨mc,rfl,h⟩,Q⟩;(obtain ⟨mk,ms,mn,hD,ml,hE,hg,mt,ma⟩:=mc);(obtain ⟨⟨MA,I,H,q⟩,⟨MB,J,md,A⟩⟩:=h);(simp only[Nc.al,Nc.ks] at q A);subst q;subst A;simp only[cellsN];(have D:=Q.alloc (.cells #[nI (mk:Nat),.string (str ms),.string (str mn),.slice MA I H,.slice MB J md,.string (str mt),nI (ma:Nat)] 25));(have M:=V.ext D))|(refine Zd rfl 25 (.tmp 2) (.tmp 22) rfl w.heap.size #[nI 0,eS,eS,sN,sN,eS,nI 0] rfl rfl _ _ M Zv rfl Uf ?_))
   ((try simp only[Exit.inBlock,Exit.then]);refine Zl (Z6 rfl _ _ _ _ _ _ _ rfl (Zm _ _ _ _ _ _ M) underlying25 rfl Zv) rfl ?_);exact ⟨_,rfl,rfl,(hj.trans D).setRow (Zb _) _⟩
  |ok n=>
   have Y:=(Zbg hp).1;have hz:=ZjI hp;rw[hy] at Y;rw[hp] at F K;dsimp only at F;have HP:=gd K;obtain ⟨RR,hi⟩:∃RR,resP n []=RR:=⟨_,rfl⟩;rw[hi] at F;have hw:Hid (∀(x:Nc) (w':Wq),x.nd=n->RdN w' x->Calls prog 27 #[.agg (cellsN x).toArray] w' λe w2=>∃v,e= .returned v/\ResRet x w'.heap.size w2 v RR/\Ext w' w2):=λx w' hx hr=>(by subst hx;rw[<-hi];exact EX s.size (by omega) x w' hr Y hz);have hm:=gd (λy c (e:RR= .error (y,c))=>EZ (c:=c) (x:=y) n [] (hi.trans e));clear K hp Y hz hi h5;cases RR with
   |error yc=>
    obtain ⟨y,c⟩:=yc;dsimp only at F;subst F;have ho:=hm.out y c rfl;have hF:((c:Int) !=0)=true:=(by rw[YI];omega);clear hm ho;go_enter func10,ntmps10
    go_wp2_with (first|(go_at_call 26;(with_reducible refine Za (HP.out _) ?_);rintro e w2 ⟨v2,rfl,⟨mc,rfl,ht,ha,Z⟩,Q⟩;(have hk:=Z w.heap.size hC);(have h:=RdN.sl ha);(obtain ⟨mk,ms,mn,hD,ml,hE,hg,mt,ma⟩:=mc);(obtain ⟨⟨MA,I,H,q⟩,⟨MB,J,md,A⟩⟩:=h);(simp only[Nc.al,Nc.ks] at q A);subst q;subst A;simp only[cellsN];(have D:=Q.alloc (.cells #[nI (mk:Nat),.string (str ms),.string (str mn),.slice MA I H,.slice MB J md,.string (str mt),nI (ma:Nat)] 25));(have M:=V.ext D);(have hc:=RdN.ext ((Ext.refl w2).alloc (.cells #[nI (mk:Nat),.string (str ms),.string (str mn),.slice MA I H,.slice MB J md,.string (str mt),nI (ma:Nat)] 25)) _ ha))|(go_at_call 27;(have hq:=hw.out _ _ ht hc);simp only[cellsN] at hq;(with_reducible refine Za hq ?_);clear hq;rintro e4 w4 ⟨v4,rfl,hu,hd⟩;(obtain ⟨zc,rfl,h⟩:=hu.err);(obtain ⟨zk,zs,zn,hG,zl,hH,hh,zt,za⟩:=zc);(obtain ⟨⟨ZA,S,R,he⟩,⟨ZB,U,zd,hf⟩⟩:=h);(simp only[Nc.al,Nc.ks] at he hf);subst he;subst hf;simp only[cellsN];(have hv:=(hj.trans (D.trans hd)).alloc (.cells #[nI (zk:Nat),.string (str zs),.string (str zn),.slice ZA S R,.slice ZB U zd,.string (str zt),nI (za:Nat)] 25));(have X:=(M.ext hd).ext ((Ext.refl w4).alloc (.cells #[nI (zk:Nat),.string (str zs),.string (str zn),.slice ZA S R,.slice ZB U zd,.string (str zt),nI (za:Nat)] 25))))|(refine Zd rfl 25 (.tmp 2) (.tmp 31) rfl w.heap.size #[nI 0,eS,eS,sN,sN,eS,nI 0] rfl rfl _ _ X Zv rfl Uf ?_))
    ((try simp only[Exit.inBlock,Exit.then]);refine Zl (Z6 rfl _ _ _ _ _ _ _ rfl (Zm _ _ _ _ _ _ X) underlying25 rfl Zv) rfl ?_);exact ⟨_,rfl,rfl,hv.setRow (Zb _) _⟩
   |ok m9=>
    dsimp only at F;subst F;clear hm;go_enter func10,ntmps10
    go_wp2_with (first|(go_at_call 26;(with_reducible refine Za (HP.out _) ?_);rintro e w2 ⟨v2,rfl,⟨mc,rfl,ht,ha,Z⟩,Q⟩;(have hk:=Z w.heap.size hC);(have h:=RdN.sl ha);(obtain ⟨mk,ms,mn,hD,ml,hE,hg,mt,ma⟩:=mc);(obtain ⟨⟨MA,I,H,q⟩,⟨MB,J,md,A⟩⟩:=h);(simp only[Nc.al,Nc.ks] at q A);subst q;subst A;simp only[cellsN];(have D:=Q.alloc (.cells #[nI (mk:Nat),.string (str ms),.string (str mn),.slice MA I H,.slice MB J md,.string (str mt),nI (ma:Nat)] 25));(have M:=V.ext D);(have hc:=RdN.ext ((Ext.refl w2).alloc (.cells #[nI (mk:Nat),.string (str ms),.string (str mn),.slice MA I H,.slice MB J md,.string (str mt),nI (ma:Nat)] 25)) _ ha))|(go_at_call 27;(have hq:=hw.out _ _ ht hc);simp only[cellsN] at hq;(with_reducible refine Za hq ?_);clear hq;rintro e4 w4 ⟨v4,rfl,hu,hd⟩;(obtain ⟨zc,rfl,hB,hl,hA⟩:=hu.ok);(have h:=RdN.sl hl);(obtain ⟨zk,zs,zn,hG,zl,hH,hh,zt,za⟩:=zc);(obtain ⟨⟨ZA,S,R,he⟩,⟨ZB,U,zd,hf⟩⟩:=h);(simp only[Nc.al,Nc.ks] at he hf);subst he;subst hf;simp only[cellsN];(have hv:=(hj.trans (D.trans hd)).alloc (.cells #[nI (zk:Nat),.string (str zs),.string (str zn),.slice ZA S R,.slice ZB U zd,.string (str zt),nI (za:Nat)] 25));(have X:=(M.ext hd).ext ((Ext.refl w4).alloc (.cells #[nI (zk:Nat),.string (str zs),.string (str zn),.slice ZA S R,.slice ZB U zd,.string (str zt),nI (za:Nat)] 25))))|(refine Zd rfl 25 (.tmp 2) (.tmp 32) rfl w.heap.size _ rfl rfl _ _ X Zv rfl Yx ?_))
    ((try simp only[Exit.inBlock,Exit.then]);refine Zl (Z6 rfl _ _ _ _ _ _ _ rfl (Zm _ _ _ _ _ _ X) underlying25 rfl Zv) rfl ?_);have hws:w.heap.size<w2.heap.size:=(by have:=Q.size;omega);exact ⟨_,rfl,⟨Nc.mk zk zs zn (.slice ZA S R) zl (.slice ZB U zd) hh zt za,rfl,hB,RdN.grown (Yr _ _ _) _ (RdN.ext ((Ext.refl w4).alloc _) _ hl) (hA _ (by rw[Zq];omega) hk)⟩,hv.setRow (Zb _) _⟩
end
section
variable {B g:Nat} {b w:World}
theorem Keep.toExt {a c:Wq} {r:Option Nat} (h:Ext a b) (k:Keep b c g r) (H:a.heap.size<=g) (A:∀q,r=some q->a.heap.size<=q):Ext a c:=by
 obtain ⟨w1,D,F⟩:=k.split;exact Ext.grown' (B:=0) (Ext.grown' (B:=0) h D (λq e=>by injection e with e;omega)) F A
theorem ZeU {q:Nat} {y:Fc} (h:WcF w B y) (D:q<B):awayC y (some q):=by
 refine ⟨?_,?_⟩
 ·cases hp:y.f.path with
  |nil=>exact Or.inl rfl
  |cons x t=>obtain ⟨ad,n,c,u,e,A, -, -⟩:=h.1 0 (by rw[hp];simp);right;rw[e];intro e2;have e3:ad.block=q:=(by injection e2);omega
 ·cases hp:y.f.ents with
  |nil=>exact Or.inl rfl
  |cons x t=>obtain ⟨ad,n,c,u,e,A, -, -⟩:=h.2 0 (by rw[hp];simp);right;rw[e];intro e2;have e3:ad.block=q:=(by injection e2);omega
theorem Ze0 (x:Nc) (w:Wq) (hE:Env w) (hr:RdN w x) (hf:x.nd.fits 5000) (hc:x.nd.cnt<=5000) (gf:∀l,opmlP x.nd= .ok l->l.length<=1\/LatF):
 Calls prog 12 #[.agg (cellsN x).toArray] w λe w'=>∃v,e= .returned v/\DecRet w' v (opmlP x.nd)/\Ext w w':=by
 obtain ⟨k,s,n,al,l0,ks,kids,t,a⟩:=x;have gJ:=hr;rw[RdN] at hr;obtain ⟨gh,gH,gG⟩:=hr;have h6:=(Xg kids).1 gG;have he:=hf;have h5:=hc;rw[Nc.nd,Nd.fits] at he;rw[Nc.nd,Nd.cnt] at h5;have g7:kids.length<=5000:=by have:=he.2.2.2.2.2.1;rwa [X2] at this
 have fa:l0.length<=5000:=he.2.2.2.1;have g6:k<=1:=he.1;have gE:=he.2.2.2.2.2.2.2.2;obtain ⟨A,c,g0, -, -⟩:=gh.form;obtain ⟨B,d,g8, -, -⟩:=RNs.form gH;subst g0;subst g8;obtain ⟨W0,hV⟩:∃W0,(w.alloc (.cells #[nI (k:Nat),.string (str s),.string (str n),.slice A l0.length c,.slice B kids.length d,.string (str t),nI (a:Nat)] 25)).alloc (.cells #[sN] 31)=W0:=⟨_,rfl⟩;have hY:Ext w W0:=by rw[<-hV];exact ((Ext.refl w).alloc _).alloc _
 have gB:BxN W0 w.heap.size k s n (.slice A l0.length c) (.slice B kids.length d) t a:=by rw[<-hV];exact BxN.ext (Zg w _) ((Ext.refl _).alloc _)
 have gP:W0.heap[w.heap.size+1]? =some (.cells #[sN] 31):=by rw[<-hV];exact Ys w _ _
 have gK:w.heap.size+2<=W0.heap.size:=by rw[<-hV,Zq,Zq];exact Zb _
 obtain ⟨b0,b1,b2,b3,b4,b5,b6⟩:=gB.cells;have hn:=gd hY;have h7:=gd gB;have hF:=gd gP;have gV:=gd gK;have gU:=gd (RdN.ext hY _ gJ);have gS:=gd (RAts.ext gh hY);have hl:=gd (λw' (v:Value) (hx:Ext W0 w') (hv:RSl w' 1 v 1 (strsV [versionL]))=>KD (.mk k s n (.slice A l0.length c) l0 (.slice B kids.length d) kids t a) v [versionL] w' (gS.out.ext hx) ⟨_,_,_,rfl⟩ (by show l0.length<=_;omega) hv (by decide));have hQ:=gd (λw' (hx:Ext W0 w')=>GY (.mk k s n (.slice A l0.length c) l0 (.slice B kids.length d) kids t a) [] bodyL w' (RdN.ext hx _ gU.out) (by show kids.length<=_;omega));have gb:Hid (∀W:Wq,RSl (W.alloc (.cells #[.string ⟨#[118,101,114,115,105,111,110]⟩] 9)) 1 (.slice (some ⟨W.heap.size,0,none⟩) 1 1) 1 (strsV [versionL])):=gd (λW=>Yn (cs:=strsV [versionL]) rfl (by decide));rw[Qm,<-GR] at hl;simp only[cellsN,Nc.kids,Nc.attrs,UW,ZhP] at hl hQ|-;have gp:(Nc.mk k s n (.slice A l0.length c) l0 (.slice B kids.length d) kids t a).nd= .mk k s n l0 (Nc.nds kids) t a:=by rw[Nc.nd]
 rw[gp];simp only[gp] at gf;have hH:Hid (attrL (Nd.mk k s n l0 (Nc.nds kids) t a) versionL=attrN l0 [] versionL):=gd rfl;have h8:=gd (λe=>Zhx (n:=Nd.mk k s n l0 (Nc.nds kids) t a) e);have h9:=gd (λh1 h2 h3 h4=>Zhy (n:=Nd.mk k s n l0 (Nc.nds kids) t a) h1 h2 h3 h4);obtain ⟨XV,gA⟩:∃XV,attrN l0 [] versionL=XV:=⟨_,rfl⟩;rw[gA] at hH hl;clear hY gP gK gJ gh gH gG he h5 gA gp;obtain ⟨VS,hj⟩:∃VS,XV.getD []=VS:=⟨_,rfl⟩;rw[hj] at hl;have S:=(Ext.refl W0).alloc (.cells #[.string ⟨#[118,101,114,115,105,111,110]⟩] 9);by_cases J:k≠0\/s≠ []\/n≠opmlL\/attrL (Nd.mk k s n l0 (Nc.nds kids) t a) versionL≠some twoL
 ·have hR:=h8.out J;obtain ⟨RR,gy⟩:∃RR,opmlP (Nd.mk k s n l0 (Nc.nds kids) t a)=RR:=⟨_,rfl⟩;rw[gy] at hR|-;subst hR;have hI:Hid (attrL (Nd.mk k s n l0 (Nc.nds kids) t a) versionL=XV):=hH;clear hH h8 h9 gy;by_cases hk:k=0
  ·by_cases hp:s= []
   ·by_cases hO:n=opmlL
    ·have gL:VS≠twoL:=λe=>by
      rcases J with h|h|h|h
      ·exact h hk
      ·exact h hp
      ·exact h hO
      ·rw[hI.out] at h;cases XV with
       |none=>rw[<-hj] at e;cases e
       |some v=>exact h (by rw[<-hj] at e;exact Zz some e)
     clear J;have q1:((k:Int) !=0)=false:=(by rw[hk];rfl);have q2:(str s).toList.isEmpty=true:=(by rw[hp];exact Ui);have q3:((str n).toList== [111,112,109,108])=true:=V6 hO;have q4:((str VS).toList== [50,46,48])=false:=Jq gL;clear hk hp hO hj hI gL;go_enter func12,ntmps12
     go_wp2_with (first|(go_at_call 28;(with_reducible refine Za (hl.out _ _ S (gb.out _)) ?_);rintro e W1 ⟨rfl,hs⟩;obtain ⟨d0,d1,d2,d3,d4,d5,d6⟩:=(h7.out.ext (S.trans hs)).cells))
     have hb:=hn.out.trans (S.trans hs);have hu:=(S.trans hs).heap hF.out;have I:=(Ext.refl W1).drew;have D:W1.drew.cell? ⟨w.heap.size,6,none⟩=some (nI (a:Nat)):=I.cell d6;have Q:W1.drew.heap[w.heap.size+1]? =some (.cells #[sN] 31):=I.heap hu;have H:=(ZU (a:=⟨w.heap.size,6,none⟩) (ZY W1.drew (w.heap.size+1) w.heap.size #[sN] (by omega))).trans D;refine rN ?_;change wpAny _ _ _ _ _ _ _ (World.drew _);refine Yj (λw'=>w'.cell? ⟨w.heap.size,6,none⟩=some (nI (a:Nat))) ?_;refine tG 0 (.agg #[sN]) D ?_;refine tG 1 (.pointer (some ⟨w.heap.size,6,none⟩)) D ?_;refine tS 2 (nI (a:Nat)) rfl (λw' hS=>by have hq:w'.cell? ⟨w.heap.size,6,none⟩=some (nI (a:Nat)):=hS;go_simp) D ?_;go_simp;refine sS 3 λK hK=> ?_;refine Yc rfl 31 (.tmp 2) (.tmp 31) rfl (w.heap.size+1) #[sN] rfl rfl _ _ Q YU rfl Va ?_;refine hK _ _ H ?_;clear hK K;refine sS 4 λK hK=> ?_;go_simp;refine hK _ _ H ?_;clear hK K;refine sS 5 λK hK=> ?_;go_simp;refine hK _ _ H ?_;clear hK K;refine sE ?_;go_wp2;((try simp only[Exit.inBlock,Exit.then]);refine Zl (Zn rfl _ _ _ _ _ _ _ rfl (Zm _ _ _ _ _ _ Q) underlying31 rfl YU) rfl ?_);exact ⟨_,rfl,rfl,(hb.trans I).setRow (Yf _) _⟩
    ·clear J;have q1:((k:Int) !=0)=false:=(by rw[hk];rfl);have q2:(str s).toList.isEmpty=true:=(by rw[hp];exact Ui);have q3:((str n).toList== [111,112,109,108])=false:=Jq hO;clear hk hp hO hj hI;have hb:=hn.out;have hu:=hF.out;go_enter func12,ntmps12;go_wp2;have I:=(Ext.refl W0).drew;have D:W0.drew.cell? ⟨w.heap.size,6,none⟩=some (nI (a:Nat)):=I.cell b6;have Q:W0.drew.heap[w.heap.size+1]? =some (.cells #[sN] 31):=I.heap hu;have H:=(ZU (a:=⟨w.heap.size,6,none⟩) (ZY W0.drew (w.heap.size+1) w.heap.size #[sN] (by omega))).trans D;refine rN ?_;change wpAny _ _ _ _ _ _ _ (World.drew _);refine Yj (λw'=>w'.cell? ⟨w.heap.size,6,none⟩=some (nI (a:Nat))) ?_;refine tG 0 (.agg #[sN]) D ?_;refine tG 1 (.pointer (some ⟨w.heap.size,6,none⟩)) D ?_;refine tS 2 (nI (a:Nat)) rfl (λw' hS=>by have hq:w'.cell? ⟨w.heap.size,6,none⟩=some (nI (a:Nat)):=hS;go_simp) D ?_;go_simp;refine sS 3 λK hK=> ?_;refine Yc rfl 31 (.tmp 2) (.tmp 31) rfl (w.heap.size+1) #[sN] rfl rfl _ _ Q YU rfl Va ?_;refine hK _ _ H ?_;clear hK K;refine sS 4 λK hK=> ?_;go_simp;refine hK _ _ H ?_;clear hK K;refine sS 5 λK hK=> ?_;go_simp;refine hK _ _ H ?_;clear hK K;refine sE ?_;go_wp2;((try simp only[Exit.inBlock,Exit.then]);refine Zl (Zn rfl _ _ _ _ _ _ _ rfl (Zm _ _ _ _ _ _ Q) underlying31 rfl YU) rfl ?_);exact ⟨_,rfl,rfl,(hb.trans I).setRow (Yf _) _⟩
   ·clear J;have q1:((k:Int) !=0)=false:=(by rw[hk];rfl);have q2:(str s).toList.isEmpty=false:=Ve hp;clear hk hp hj hI;have hb:=hn.out;have hu:=hF.out;go_enter func12,ntmps12;go_wp2;have I:=(Ext.refl W0).drew;have D:W0.drew.cell? ⟨w.heap.size,6,none⟩=some (nI (a:Nat)):=I.cell b6;have Q:W0.drew.heap[w.heap.size+1]? =some (.cells #[sN] 31):=I.heap hu;have H:=(ZU (a:=⟨w.heap.size,6,none⟩) (ZY W0.drew (w.heap.size+1) w.heap.size #[sN] (by omega))).trans D;refine rN ?_;change wpAny _ _ _ _ _ _ _ (World.drew _);refine Yj (λw'=>w'.cell? ⟨w.heap.size,6,none⟩=some (nI (a:Nat))) ?_;refine tG 0 (.agg #[sN]) D ?_;refine tG 1 (.pointer (some ⟨w.heap.size,6,none⟩)) D ?_;refine tS 2 (nI (a:Nat)) rfl (λw' hS=>by have hq:w'.cell? ⟨w.heap.size,6,none⟩=some (nI (a:Nat)):=hS;go_simp) D ?_;go_simp;refine sS 3 λK hK=> ?_;refine Yc rfl 31 (.tmp 2) (.tmp 31) rfl (w.heap.size+1) #[sN] rfl rfl _ _ Q YU rfl Va ?_;refine hK _ _ H ?_;clear hK K;refine sS 4 λK hK=> ?_;go_simp;refine hK _ _ H ?_;clear hK K;refine sS 5 λK hK=> ?_;go_simp;refine hK _ _ H ?_;clear hK K;refine sE ?_;go_wp2;((try simp only[Exit.inBlock,Exit.then]);refine Zl (Zn rfl _ _ _ _ _ _ _ rfl (Zm _ _ _ _ _ _ Q) underlying31 rfl YU) rfl ?_);exact ⟨_,rfl,rfl,(hb.trans I).setRow (Yf _) _⟩
  ·clear J;have q1:((k:Int) !=0)=true:=(by rw[YI];omega);clear hk hj hI;have hb:=hn.out;have hu:=hF.out;go_enter func12,ntmps12;go_wp2;have I:=(Ext.refl W0).drew;have D:W0.drew.cell? ⟨w.heap.size,6,none⟩=some (nI (a:Nat)):=I.cell b6;have Q:W0.drew.heap[w.heap.size+1]? =some (.cells #[sN] 31):=I.heap hu;have H:=(ZU (a:=⟨w.heap.size,6,none⟩) (ZY W0.drew (w.heap.size+1) w.heap.size #[sN] (by omega))).trans D;refine rN ?_;change wpAny _ _ _ _ _ _ _ (World.drew _);refine Yj (λw'=>w'.cell? ⟨w.heap.size,6,none⟩=some (nI (a:Nat))) ?_;refine tG 0 (.agg #[sN]) D ?_;refine tG 1 (.pointer (some ⟨w.heap.size,6,none⟩)) D ?_;refine tS 2 (nI (a:Nat)) rfl (λw' hS=>by have hq:w'.cell? ⟨w.heap.size,6,none⟩=some (nI (a:Nat)):=hS;go_simp) D ?_;go_simp;refine sS 3 λK hK=> ?_;refine Yc rfl 31 (.tmp 2) (.tmp 31) rfl (w.heap.size+1) #[sN] rfl rfl _ _ Q YU rfl Va ?_;refine hK _ _ H ?_;clear hK K;refine sS 4 λK hK=> ?_;go_simp;refine hK _ _ H ?_;clear hK K;refine sS 5 λK hK=> ?_;go_simp;refine hK _ _ H ?_;clear hK K;refine sE ?_;go_wp2;((try simp only[Exit.inBlock,Exit.then]);refine Zl (Zn rfl _ _ _ _ _ _ _ rfl (Zm _ _ _ _ _ _ Q) underlying31 rfl YU) rfl ?_);exact ⟨_,rfl,rfl,(hb.trans I).setRow (Yf _) _⟩
 ·skip
  have gj:k=0:=ZhZ λe=>J (Or.inl e);have gk:s= []:=ZhZ λe=>J (Or.inr (Or.inl e));have gl:n=opmlL:=ZhZ λe=>J (Or.inr (Or.inr (Or.inl e)));have gm:attrL (Nd.mk k s n l0 (Nc.nds kids) t a) versionL=some twoL:=ZhZ λe=>J (Or.inr (Or.inr (Or.inr e)));have hM:=h9.out gj gk gl gm;have fh:XV=some twoL:=by rw[<-hH.out];exact gm
  subst fh;have ff:VS=twoL:=hj.symm;subst ff;have q1:((k:Int) !=0)=false:=by rw[gj];rfl
  have q2:(str s).toList.isEmpty=true:=by rw[gk];exact Ui
  have q3:((str n).toList== [111,112,109,108])=true:=V6 gl;have q4:((str twoL).toList== [50,46,48])=true:=V6 rfl;rw[show (Nd.mk k s n l0 (Nc.nds kids) t a).kids=Nc.nds kids from rfl,show (Nd.mk k s n l0 (Nc.nds kids) t a).at_=a from rfl,Zds,<-VW] at hM;obtain ⟨L,hL⟩:∃L,kids.filter (isKid [] bodyL)=L:=⟨_,rfl⟩;rw[hL] at hM hQ;rw[hM];have hT:=λl h=>gf l (hM.trans h);clear gf;have gr:Hid (∀y∈L,RdN W0 y/\y.nd.fits 5000/\y.nd.cnt<=5000):=gd (λy hy=>by
   rw[<-hL,Y1] at hy;have hm:y.nd∈Nc.nds kids:=(by rw[XL];exact Yg hy.1);refine ⟨RdN.ext hn.out _ (h6 y hy.1),(Nds.fits_iff _).1 gE _ hm,?_⟩;have:=Zb6 hm;rw[Nc.nd,Nd.cnt] at hc;omega)
  clear J gj gk gl gm hH h8 h9 h6 hL hM hf hc gE g7 fa g6 hj;cases L with
  |nil=>
   rw[Nc.nds];dsimp only[List.head?];go_enter func12,ntmps12
   go_wp2_with (first|(go_at_call 28;(with_reducible refine Za (hl.out _ _ S (gb.out _)) ?_);rintro e W1 ⟨rfl,hs⟩;(have X:=S.trans hs);obtain ⟨d0,d1,d2,d3,d4,d5,d6⟩:=(h7.out.ext X).cells)|(go_at_call 29;(with_reducible refine Za (hQ.out _ X) ?_);rintro e M ⟨kv,rfl,go,hP⟩;(obtain ⟨U,uc,hB⟩:=Z8 go);subst hB;have e6:=hP.cell d6))
   have hi:=(hn.out.trans X).trans hP;have fi:=(X.trans hP).heap hF.out;have I:=(Ext.refl M).drew;have D:M.drew.cell? ⟨w.heap.size,6,none⟩=some (nI (a:Nat)):=I.cell e6;have Q:M.drew.heap[w.heap.size+1]? =some (.cells #[sN] 31):=I.heap fi;have H:=(ZU (a:=⟨w.heap.size,6,none⟩) (ZY M.drew (w.heap.size+1) w.heap.size #[sN] (by omega))).trans D;refine rN ?_;change wpAny _ _ _ _ _ _ _ (World.drew _);refine Yj (λw'=>w'.cell? ⟨w.heap.size,6,none⟩=some (nI (a:Nat))) ?_;refine tG 0 (.agg #[sN]) D ?_;refine tG 1 (.pointer (some ⟨w.heap.size,6,none⟩)) D ?_;refine tS 2 (nI (a:Nat)) rfl (λw' hS=>by have hq:w'.cell? ⟨w.heap.size,6,none⟩=some (nI (a:Nat)):=hS;go_simp) D ?_;go_simp;refine sS 3 λK hK=> ?_;refine Yc rfl 31 (.tmp 2) (.tmp 39) rfl (w.heap.size+1) #[sN] rfl rfl _ _ Q YU rfl Va ?_;refine hK _ _ H ?_;clear hK K;refine sS 4 λK hK=> ?_;go_simp;refine hK _ _ H ?_;clear hK K;refine sS 5 λK hK=> ?_;go_simp;refine hK _ _ H ?_;clear hK K;refine sE ?_;go_wp2;((try simp only[Exit.inBlock,Exit.then]);refine Zl (Zn rfl _ _ _ _ _ _ _ rfl (Zm _ _ _ _ _ _ Q) underlying31 rfl YU) rfl ?_);exact ⟨_,rfl,rfl,(hi.trans I).setRow (Yf _) _⟩
  |cons b L=>
   rw[Nc.nds];dsimp only[List.head?];obtain ⟨hJ,gi,gC⟩:=gr.out b ZH;have gu:=gd (λ(w':Wq) (fb vb:Nat) (hr:RdN w' b) (h1:VisS w' fb vb sN []) (h2:awayN (some fb) b) (h3:awayN none b)=>ZhS 5000 (Zb _) b.nd.ht b sN [] w' fb vb sN [] (Zb _) gi (by rw[ZK];omega) hr (RSl.nil _ 1) (Zk _) h1 h2 h3 (Or.inl rfl) (Or.inl rfl));have g1:=RdN.sl hJ;have g9:(0:Int)<((b::L).length:Int):=(by rw[Zf];omega);obtain ⟨bn,gD⟩:∃m,(b::L).length=m:=⟨_,rfl⟩;rw[gD] at g9;have fj:¬bn=0:=(by omega);have fm:((bn:Int)==0)=false:=(by rw[Zy];omega);have hN:=λl hv=>ZeA (b:=b.nd) (l:=l) hv gi gC;have ga:=gd hN;rw[Nc.nds] at hT;dsimp only[List.head?] at hT;have gs:=gd hT;clear hT;have gc:=gd (λy c (h:visP b.nd []= .error (y,c))=>Kx b.nd _ h);obtain ⟨RV,gz⟩:∃RV,visP b.nd []=RV:=⟨_,rfl⟩;rw[gz] at gu ga gc gs|-;clear hN gi gC gr gz;go_enter func12,ntmps12
   go_wp2_with (first|(go_at_call 28;(with_reducible refine Za (hl.out _ _ S (gb.out _)) ?_);rintro e W1 ⟨rfl,hs⟩;(have X:=S.trans hs);obtain ⟨d0,d1,d2,d3,d4,d5,d6⟩:=(h7.out.ext X).cells)|(go_at_call 29;(with_reducible refine Za (hQ.out _ X) ?_);rintro e M ⟨kv,rfl,go,hP⟩;(obtain ⟨ad,c9,hB,hW⟩:=RNs.at (RSl.of_own go) (k:=0) (by rw[Zf];exact ZeM _));rw[gD] at hB;subst hB;(rw[Xf,add_zero,Jp] at hW);(obtain ⟨yk,ys,yn,fo,yl,fp,V,yt,ya⟩:=b);(obtain ⟨⟨YA,ym,yc,gN⟩,⟨YB,hw,yd,gO⟩⟩:=g1);(simp only[Nc.al,Nc.ks] at gN gO);subst gN;subst gO;(have hi:=X.trans hP);(have g4:((M.alloc (.cells #[sN] 29)).alloc (.cells #[.nilFunc] 63)).cell? ⟨M.heap.size+1,0,none⟩=some .nilFunc:=by rw[Jr (Ys M _ _)];rfl);(have g3:((M.alloc (.cells #[sN] 29)).alloc (.cells #[.nilFunc] 63)).frozen? ⟨M.heap.size+1,0,none⟩=false:=YR (Ys M _ _) 0);(obtain ⟨WB,gg⟩:∃WB,((M.alloc (.cells #[sN] 29)).alloc (.cells #[.nilFunc] 63))=WB:=⟨_,rfl⟩);(rw[gg] at g4 g3)))
   have hU:VisS (WB.setCell ⟨M.heap.size+1,0,none⟩ (.func (.func 30) #[] #[.pointer (some ⟨M.heap.size,0,none⟩),.pointer (some ⟨M.heap.size+1,0,none⟩)])) M.heap.size (M.heap.size+1) sN []:=by
    rw[<-gg];refine ⟨?_,?_,HFs.nil _ _,YK _,(by intro x hx;cases hx)⟩
    ·exact (Z4 _ ⟨M.heap.size+1,0,none⟩ M.heap.size _ (by show M.heap.size≠M.heap.size+1;omega)).trans ((JJ _ _ (by rw[Zq];omega)).trans (Zg M _))
    ·exact block_setCell (Ys M _ _) _
   have hC:Ext M (WB.setCell ⟨M.heap.size+1,0,none⟩ (.func (.func 30) #[] #[.pointer (some ⟨M.heap.size,0,none⟩),.pointer (some ⟨M.heap.size+1,0,none⟩)])):=(by rw[<-gg];exact (((Ext.refl M).alloc _).alloc _).setCell (Yf _) _);obtain ⟨W3,gZ⟩:∃W3,WB.setCell ⟨M.heap.size+1,0,none⟩ (.func (.func 30) #[] #[.pointer (some ⟨M.heap.size,0,none⟩),.pointer (some ⟨M.heap.size+1,0,none⟩)])=W3:=⟨_,rfl⟩;rw[gZ] at hU hC|-;obtain ⟨F,hA⟩:∃q,M.heap.size=q:=⟨_,rfl⟩;have gT:Hid (W0.heap.size<=F):=gd (by rw[<-hA];exact hi.size);have gt:=gd hU;have gw:=gd (hi.trans hC);have gW:Hid (RdN W3 (.mk yk ys yn (.slice YA ym yc) yl (.slice YB hw yd) V yt ya)):=gd (RdN.ext (hi.trans hC) _ hJ);have gY:Hid (awayN (some F) (.mk yk ys yn (.slice YA ym yc) yl (.slice YB hw yd) V yt ya)):=gd (XJ hJ (by rw[<-hA];exact hi.size));have gX:Hid (awayN none (.mk yk ys yn (.slice YA ym yc) yl (.slice YB hw yd) V yt ya)):=gd (Gv hJ);obtain ⟨-, -,f2⟩:=hU.cell;have h0:=gd (hW.ext hC);rw[hA] at gt f2|-;have fl:w.heap.size+1<F:=(by have:=gT.out;have:=gV.out;omega);have gq:Hid (ad.block≠F):=gd (by have h1:=ZS M _ hW.c0;omega);clear hU hJ S hA hW;have hd:=(Ext.refl W3).drew;have D:W3.drew.cell? ⟨F+1,0,none⟩=some (.func (.func 30) #[] #[.pointer (some ⟨F,0,none⟩),.pointer (some ⟨F+1,0,none⟩)])/\AtNc W3.drew ad (.mk yk ys yn (.slice YA ym yc) yl (.slice YB hw yd) V yt ya):=⟨hd.cell f2,h0.out.ext hd⟩;refine rN ?_;change wpAny _ _ _ _ _ _ _ (World.drew _);refine Yj (λw'=>w'.cell? ⟨F+1,0,none⟩=some (.func (.func 30) #[] #[.pointer (some ⟨F,0,none⟩),.pointer (some ⟨F+1,0,none⟩)])/\AtNc w' ad (.mk yk ys yn (.slice YA ym yc) yl (.slice YB hw yd) V yt ya)) ?_;refine tS 0 (.func (.func 30) #[] #[.pointer (some ⟨F,0,none⟩),.pointer (some ⟨F+1,0,none⟩)]) rfl (λw' hS=>by have hq:=hS.1;go_simp) D ?_;refine tG 1 (.slice (some ad) bn c9) D ?_;refine tG 2 (.pointer (some ad)) D ?_;refine tS 3 (.agg #[nI (yk:Nat),.string (str ys),.string (str yn),.slice YA ym yc,.slice YB hw yd,.string (str yt),nI (ya:Nat)]) rfl (λw' hS=>by obtain ⟨q0,q1,q2,q3,q4,q5,q6⟩:=hS.2;simp only[Nc.kind,Nc.space,Nc.name,Nc.al,Nc.ks,Nc.text,Nc.at_] at q0 q1 q2 q3 q4 q5 q6;go_simp) D ?_;go_simp;refine sS 4 λK hK=> ?_;go_simp;go_at_call 30;have hz:=gu.out W3.drew F (F+1) (RdN.ext hd _ gW.out) (gt.out.ext hd) gY.out gX.out;simp only[cellsN] at hz
   with_reducible refine Za hz ?_
   clear hz;rintro e w9 ⟨hh,gn⟩;have Y:Keep W3 w9 F none:=Keep.ext_left hd gn;have hD:Ext w w9:=Keep.toExt (hn.out.trans gw.out) Y (by omega) (by intro q e;cases e);have R:w9.cell? ⟨F+1,0,none⟩=some (.func (.func 30) #[] #[.pointer (some ⟨F,0,none⟩),.pointer (some ⟨F+1,0,none⟩)])/\AtNc w9 ad (.mk yk ys yn (.slice YA ym yc) yl (.slice YB hw yd) V yt ya):=(by refine ⟨Y.cell f2 (by show F+1≠F;omega) (by simp),?_⟩;have Z:ad.block≠F:=gq.out;obtain ⟨q0,q1,q2,q3,q4,q5,q6⟩:=h0.out;exact ⟨Y.cell q0 Z (by simp),Y.cell q1 Z (by simp),Y.cell q2 Z (by simp),Y.cell q3 Z (by simp),Y.cell q4 Z (by simp),Y.cell q5 Z (by simp),Y.cell q6 Z (by simp)⟩);have hZ:w9.heap[w.heap.size+1]? =some (.cells #[sN] 31):=Y.heap (gw.out.heap hF.out) (by omega) (by simp);have gx:=gd hD;cases RV with
   |error yc9=>
    obtain ⟨y9,ge⟩:=yc9;have g2:=gc.out y9 ge rfl;have fk:((ge:Int) !=0)=true:=(by rw[YI];omega);unfold VisRet at hh;dsimp only at hh;subst hh;clear g2 gc;refine hK _ _ R ?_;clear hK K;refine sS 5 λK hK=> ?_;go_simp;refine hK _ _ R ?_;clear hK K;refine tG 6 (nI (y9:Nat)) R ?_;refine tG 7 (nI (ge:Nat)) R ?_;go_simp;refine sS 8 λK hK=> ?_;go_simp;refine hK _ _ R ?_;clear hK K;refine sS 9 λK hK=> ?_;go_simp;refine hK _ _ R ?_;clear hK K;refine sE ?_;clear R gn Y hD hd D f2
    go_wp2_with (first|(refine Zd rfl 31 (.tmp 2) (.tmp 53) rfl (w.heap.size+1) #[sN] rfl rfl _ _ hZ YU rfl Va ?_))
    ((try simp only[Exit.inBlock,Exit.then]);refine Zl (Zn rfl _ _ _ _ _ _ _ rfl (Zm _ _ _ _ _ _ hZ) underlying31 rfl YU) rfl ?_);exact ⟨_,rfl,rfl,gx.out.setRow (Yf _) _⟩
   |ok l9=>
    have hg:=ga.out l9 rfl;unfold VisRet at hh;dsimp only at hh;obtain ⟨g5,u9,O9,ha,ho, -⟩:=hh;subst g5;rw[Yv,Xl] at ho;have gR:=gd (Zb1 u9 O9 w9 (hE.ext hD) ha.hf.row.reads ha.hf.rd (λx hx=>((ZcT ho hg).2.1 x hx).1) (ZcT ho hg).1 (ZcT ho hg).2.2 (Or.inl (by rw[IX λy hy=>(hg.2 y.f (by rw[<-ho];exact Yg hy)).ents];decide)) ((gs.out l9 rfl).imp (λh=>by have:=Zz List.length ho;rw[Zs] at this;omega) id));obtain ⟨UA,fn,fd⟩:=Z8 ha.hf.row;subst fd;obtain ⟨e0, -, -⟩:=ha.cell;have fc:w.heap.size+1<w9.heap.size:=(ZG.1 hZ).1;clear ha hg ga;refine hK _ _ R ?_;clear hK K;refine sS 5 λK hK=> ?_;go_simp;refine hK _ _ R ?_;clear hK K;refine tG 6 (nI 0) R ?_;refine tG 7 (nI 0) R ?_;go_simp;refine sS 8 λK hK=> ?_;go_simp;refine hK _ _ R ?_;clear hK K;refine sS 9 λK hK=> ?_;go_simp;refine hK _ _ R ?_;clear hK K;refine sE ?_;clear R gn Y hD hd D f2
    go_wp2_with (first|(go_at_call 34;(with_reducible refine Za gR.out ?_);rintro e W4 ⟨v4,lc,rfl,gI,hX,fg,gM⟩;(obtain ⟨VA,hG,fe⟩:=Z8 hX.row);subst fe;(have gQ:=(gM.alloc (.cells #[.slice VA lc.length hG] 31)).heap hZ))|(refine Zd rfl 31 (.tmp 10) (.tmp 59) rfl W4.heap.size #[.slice VA lc.length hG] rfl rfl _ _ (Zg _ _) YU rfl Va ?_;rw[ZW])|(refine Zd rfl 31 (.tmp 2) (.tmp 61) rfl (w.heap.size+1) #[.slice VA lc.length hG] rfl rfl _ _ gQ YU rfl Va ?_))
    ((try simp only[Exit.inBlock,Exit.then]);refine Zl (Zn rfl _ _ _ _ _ _ _ rfl (Zm _ _ _ _ _ _ gQ) underlying31 rfl YU) rfl ?_);have gF:=Yr (W4.alloc (.cells #[.slice VA lc.length hG] 31)) (w.heap.size+1) #[.slice VA lc.length hG];rw[ho] at gI;refine ⟨_,rfl,⟨.slice VA lc.length hG,lc,rfl,gI,RSl.grown (RSl.ext (OFcs.reads hX.row) ((Ext.refl W4).alloc _)) gF (Or.inr λe=>by have:=(hX.row.lt _ e).1;omega),λy hy=>((hX.rd y hy).ext ((Ext.refl W4).alloc _)).grown gF (ZeU (fg y hy) fc)⟩,((gx.out.trans gM).alloc _).setRow (Yf _) _⟩
end
section
variable {c d k n:Nat} {s t:List UInt8} {v:Value} {w w':World}
def NodeG (w:Wq) (k:Nat) (s n:List UInt8) (al ks:Value) (t:List UInt8) (a:Nat) (m:Nd):Prop:=∃l0 kids,RdN w (.mk k s n al l0 ks kids t a)/\(Nc.mk k s n al l0 ks kids t a).nd=m
def ArcG (w:Wq) (A:Option Addr) (n c:Nat) (L:List Fd):Prop:=∃lc:List Fc,n=lc.length/\lc.map Fc.f=L/\RFcs w (.slice A n c) lc/\∀y∈lc,RdC w y
theorem NodeG.ext {a:Nat} {n:List UInt8} {al ks:Value} {m:Nd} (h:NodeG w k s n al ks t a m) (D:Ext w w'):NodeG w' k s n al ks t a m:=by
 obtain ⟨l0,kids,q,A⟩:=h;exact ⟨l0,kids,RdN.ext D _ q,A⟩
theorem ArcG.ext {A:Option Addr} {L:List Fd} (h:ArcG w A n c L) (q:Ext w w'):ArcG w' A n c L:=by
 obtain ⟨lc,D,F,H,I⟩:=h;exact ⟨lc,D,F,RSl.ext H q,λy J=>(I y J).ext q⟩
theorem ArcG.nil (w:Wq):ArcG w none 0 0 []:=⟨[],rfl,rfl,RSl.nil w 6,by intro y h;cases h⟩
theorem Ia {s:ByteArray} {m:Nd} (h:treeP s.data.toList=some m) (w:Wq) (M:s.size<=maxLen):
 Calls prog 10 #[.string s] w λe w'=>∃k s n A p c B q d t a,e= .returned (.tuple #[.agg #[nI (k:Nat),.string (str s),.string (str n),.slice A p c,.slice B q d,.string (str t),nI (a:Nat)],nI 1])/\NodeG w' k s n (.slice A p c) (.slice B q d) t a m/\Ext w w':=by
 refine Za (ZdT s w M) ?_;rintro e w' ⟨v,rfl,J,Q⟩;rw[h] at J;obtain ⟨mc,rfl,K,H⟩:=J;have I:=RdN.sl H;obtain ⟨k,s,n,al,l0,ks,kids,t,a⟩:=mc;obtain ⟨⟨A,p,c,D⟩,⟨B,q,d,F⟩⟩:=I;simp only[Nc.al,Nc.ks] at D F;subst D;subst F;exact ⟨k,s,n,A,p,c,B,q,d,t,a,rfl,⟨l0,kids,H,K⟩,Q⟩
theorem ZjH {m:Nd} (h:DecRet w' v (opmlP m)):∃A n c,v= .tuple #[.agg #[.slice A n c],nI (decAt m:Nat),nI (decE m:Nat)]/\ArcG w' A n c (decL m):=by
 unfold decAt decE decL;cases ho:opmlP m with
 |error x=>obtain ⟨y,c⟩:=x;rw[ho] at h;exact ⟨none,0,0,h,ArcG.nil w'⟩
 |ok l=>rw[ho] at h;obtain ⟨v',lc,rfl,D,q,F⟩:=h;obtain ⟨A,c,rfl, -, -⟩:=q.form;exact ⟨A,_,c,rfl,lc,rfl,D,q,F⟩
theorem Ed {p q a:Nat} {n:List UInt8} {A B:Option Addr} {m:Nd} (w:Wq) (J:Env w) (h:NodeG w k s n (.slice A p c) (.slice B q d) t a m) (Q:m.fits 5000) (M:m.cnt<=5000) (D:∀l,opmlP m= .ok l->l.length<=1\/LatF):
 Calls prog 12 #[.agg #[nI (k:Nat),.string (str s),.string (str n),.slice A p c,.slice B q d,.string (str t),nI (a:Nat)]] w λe w'=>∃A n c,e= .returned (.tuple #[.agg #[.slice A n c],nI (decAt m:Nat),nI (decE m:Nat)])/\ArcG w' A n c (decL m)/\Ext w w':=by
 obtain ⟨l0,kids,H,I⟩:=h;subst I;have F:=Ze0 _ w J H Q M D;simp only[cellsN] at F;refine Za F ?_;rintro e w' ⟨v,rfl,R,S⟩;obtain ⟨A,n,c,rfl,K⟩:=ZjH R;exact ⟨A,n,c,rfl,K,S⟩
theorem Zki {A:Option Addr} {L:List Fd} (w:Wq) (F:Env w) (h:NmTabs w) (H:ArcG w A n c L) (I:smA L):
 Calls prog 17 #[.agg #[.slice A n c]] w λe w'=>e= .returned (.tuple #[.string (str (if okA L=true then docW (encP L) else [])),nI (if okA L=true then 0 else 22)])/\Ext w w':=by
 obtain ⟨lc,rfl,rfl,q,D⟩:=H;exact ZhX _ lc w F h q D I
theorem IR {A:Option Addr}:(#[Value.slice A n c]:Array Value).all (λu=>u.oneCell')=true:=by simp[Value.oneCell']
end
end Go.Proofs.YtnlafkgkcnenfaaGreatDoor
