/- Parts of the proof: contracts and plain laws. -/
import Derived.Test.YtnlafkgkcnenfaaGreatDoorR25
import Derived.Test.YtnlafkgkcnenfaaGreatDoorR26
namespace Go.Proofs.YtnlafkgkcnenfaaGreatDoor
open Go Go.RowKit Go.Joins Tryz
set_option linter.unusedVariables false
set_option linter.unusedSimpArgs false
set_option maxRecDepth 100000
set_option maxHeartbeats 16000000
section
variable {B G c n:Nat} {b w:World} {s:List UInt8} {v:Value}
attribute [local go_sem] calm1
theorem ZaK {x:Nat}:∀(n k:Nat) (l:List Tok),s.length - k<n->k<=s.length->toksAt s k l= .error (x,c)->c≠0
 |0,_,_,h,_,_=>by omega
 |n+1,k,l,hn,hk,h=>by
  by_cases A:s.length<=k
  ·rw[Qe A] at h;cases h
  ·cases hc:constructP s k with
   |error y=>
    rw[Qd (by omega) hc] at h
    injection h with h
    subst h
    exact US (by omega) hc
   |ok te=>
    obtain ⟨t,e⟩:=te
    have D:=XY (by omega) hc
    rw[Vk (by omega) hc] at h
    exact ZaK n e _ (by omega) D.2.1 h
theorem Zb0 {x:Nat} (h:toksP s= .error (x,c)):c≠0:=by
 rw[ZaL] at h;split at h
 ·rename_i D;injection h with h;rw[h] at D;exact D
 ·refine ZaK _ _ _ (YW _) ?_ h;split
  ·rename_i F;rcases Xy F with A|A
   ·exact A
   ·cases A
  ·exact Zh _
theorem Zd1 {t:Tok}:∀{l:List Tok},t∈l->t.text.length<=txts l
 |u::l,h=>by
  rw[Xw]
  rcases ZI.1 h with h|h
  ·rw[h];omega
  ·have:=Zd1 h
   omega
theorem Ext.but {a c:Wq} (h:Ext a b) (D:b.grownBy c (some G)) (F:a.heap.size<=G):Ext a c:=
 Below.grown h D h.size λk A=>by injection A with A;omega
def ParseRet (B n:Nat) (w:Wq) (v:Value):Except PErr Nd->Prop
 | .ok m=>∃mc:Nc,v= .tuple #[.agg (cellsN mc).toArray,nI (n:Nat),nI 0]/\mc.nd=m/\RdN w mc/\∀r,r<B->awayN (some r) mc
 | .error (y,c)=>∃mc:Nc,v= .tuple #[.agg (cellsN mc).toArray,nI (y:Nat),nI (c:Nat)]/\slN mc
theorem ToksRet.err {y:Nat} (h:ToksRet B w n v (.error (y,c))):v= .tuple #[sN,nI (y:Nat),nI (c:Nat)]:=h
theorem ToksRet.ok {l:List Tok} (h:ToksRet B w n v (.ok l)):∃(u:Value) (lt:List Tc),v= .tuple #[u,nI (n:Nat),nI 0]/\lt.map Tc.t=l/\RSl w 6 u lt.length (flatT lt)/\(∀x∈lt,RdT w x)/\(∀x∈lt,∀g,x.al.ownBlock=some g->B<=g)/\∀g,u.ownBlock=some g->B<=g:=h
theorem ZcJ (s:ByteArray) (w:Wq) (hs:s.size<=16777216):
 Calls prog 26 #[.string s] w λe w'=>∃v,e= .returned v/\ParseRet w.heap.size s.size w' v (docP s.data.toList)/\Ext w w':=by
 have hF:=ZL s;obtain ⟨D,hD⟩:∃D,docP s.data.toList=D:=⟨_,rfl⟩;rw[hD];rw[Kc] at hD;obtain ⟨W0,hX⟩:∃W0,w.alloc (.cells #[nI 0,eS,eS,sN,sN,eS,nI 0] 25)=W0:=⟨_,rfl⟩;have gm:Ext w W0:=by rw[<-hX];exact (Ext.refl w).alloc _
 have gg:BxN W0 w.heap.size 0 [] [] sN sN [] 0:=by rw[<-hX];exact Zf w _
 have h0:W0.heap.size=w.heap.size+1:=by rw[<-hX,Zt]
 have fa:=gd h0;have hA:=λw'=>Za3 s w' hs;cases htk:toksP s.data.toList with
 |error yc=>
  obtain ⟨y,c⟩:=yc;have gj:=Zb0 htk;have gX:((c:Int) !=0)=true:=by rw[YU];omega
  rw[htk] at hD hA;dsimp only at hD;subst hD;have HT:=gd hA;clear hA htk gj h0;go_enter func26,ntmps26
  go_wp2_with (first|(go_at_call 57;(with_reducible refine Za (HT.out _) ?_);rintro e w2 ⟨v2,rfl,hT,hw⟩;(have gV:=hT.err);clear hT;subst gV;(have hR:=gg.ext hw))|(refine Zc rfl 25 (.tmp 2) (.tmp 20) rfl w.heap.size #[nI 0,eS,eS,sN,sN,eS,nI 0] rfl rfl _ _ hR ZD rfl Uj ?_))
  ((try simp only[Exit.inBlock,Exit.then]);refine Zn (Zr rfl _ _ _ _ _ _ _ rfl (Zp _ _ _ _ _ _ hR) underlying25 rfl ZD) rfl ?_);exact ⟨_,rfl,⟨Nc.mk 0 [] [] sN [] sN [] [] 0,rfl,⟨⟨_,_,_,rfl⟩,⟨_,_,_,rfl⟩⟩⟩,(gm.trans hw).setRow (Zb _) _⟩
 |ok l=>
  have Z:=GZ htk;rw[htk] at hD hA;dsimp only at hD;have HT:=gd hA;clear hA htk;go_enter func26,ntmps26
  go_wp2_with (first|(go_at_call 57;(with_reducible refine Za (HT.out _) ?_);rintro e w2 ⟨v2,rfl,hT,hw⟩;(obtain ⟨u,lt,rfl,g1,hz,hN,gh,gK⟩:=hT.ok);clear hT;(have hR:=gg.ext hw);(obtain ⟨-,UA,uc,rfl, -, -, -⟩:=id hz)))
  have fh:w.heap.size+1<=w2.heap.size:=by have:=hw.size;omega
  rw[h0] at gh gK;subst g1;obtain ⟨G,hG⟩:∃g,w2.heap.size=g:=⟨_,rfl⟩;obtain ⟨W3,hC⟩:∃W3,(w2.alloc (.cells #[.slice UA lt.length uc,nI 0,nI 0,nI 0] 109)).alloc (.cells #[nI 0,eS,eS,sN,sN,eS,nI 0] 25)=W3:=⟨_,rfl⟩;have gF:BxP W3 G (.slice UA lt.length uc) 0 0 0:=by rw[<-hC,<-hG];exact ((Ext.refl _).alloc _).heap (Zf w2 _)
  have gA:W3.heap[G+1]? =some (.cells (cellsN (Nc.mk 0 [] [] sN [] sN [] [] 0)).toArray 25):=by rw[<-hC,<-hG];exact YD w2 _ _
  have gn:Ext w2 W3:=by rw[<-hC];exact ((Ext.refl _).alloc _).alloc _
  have gG:W3.heap.size=G+2:=by rw[<-hC,Zt,Zt,hG]
  have gu:=hR.ext gn;have hL:=gm.trans hw;have hJ:∀w',Ext w2 w'->PCtx w' G (.slice UA lt.length uc) lt:=λw' hx=>by
   refine ⟨RSl.ext hz hx,λx ha=>RAts.ext (hN x ha) hx,G6 hz ?_ (by intro k e;injection e with e;omega),λx ha=>RAts.awayNew (hN x ha) (by omega)⟩;by_cases hl:lt= []
   ·exact Or.inl (by rw[hl];rfl)
   ·refine Or.inr ?_;cases lt with
    |nil=>exact absurd rfl hl
    |cons x t=>unfold flatT;rw[ZP,X2];unfold cellsT;simp
  have gH:∀r,r<=w.heap.size->TA lt r:=λr hr x ha=>Or.inr λe=>by have:=gh x ha _ e;omega
  have gI:TA lt (G+1):=λx ha=>RAts.awayNew (hN x ha) (by omega);have ge:=gd hJ;have gS:=gd gH;have gT:=gd gI;have h7:=gd Z;have gR:=gd hN;have gq:Hid (docAt s.data.toList.length (if false=true then some (Nc.mk 0 [] [] sN [] sN [] [] 0).nd else none) ((lt.map Tc.t).drop 0)=D):=hD;rw[hF] at Z;have g0:=Z.len;rw[Zk] at g0;have gl:∀x∈lt,x.t.kind=1\/x.t.kind=2\/x.t.kind=3:=λx ha=>Z.kind _ (Z9 ha);have gJ:txts (lt.map Tc.t)<=2*s.size:=Z.text;have gP:=gd (λi w' (hi:i<lt.length) (hJ:PCtx w' G (.slice UA lt.length uc) lt) (hb:BxP w' G (.slice UA lt.length uc) i 0 0)=>ZcG s.size hs G (.slice UA lt.length uc) lt s.data.toList.length (by omega) gJ gl (lt.length+1) i 1 w' (by omega) hi (by omega) hJ hb);have gQ:=gd gl;have fd:w.heap.size<G:=by omega
  (try rw[hC]);(try rw[hG]);clear hD hJ gH gI Z hN gl gJ hz gh gK hX gg gm hw hR h0 hC;go_loopw [10] (λf wr=>∃(j:Nat) (m:Nc) (fb:Bool),j<=lt.length/\f= .bool fb/\BxP wr G (.slice UA lt.length uc) j 0 0/\wr.heap[G+1]? =some (.cells (cellsN m).toArray 25)/\slN m/\Hid (fb=true->RdN wr m/\awayN (some G) m/\∀r,r<=w.heap.size->awayN (some r) m)/\BxN wr w.heap.size 0 [] [] sN sN [] 0/\Ext w2 wr/\G+2<=wr.heap.size/\Hid (docAt s.data.toList.length (if fb=true then some m.nd else none) ((lt.map Tc.t).drop j)=D)) (λ_ wr=>lt.length - (intOf ((wr.cell? ⟨G,1,none⟩).getD undef)).toNat)
  case atStart=>exact ⟨0,Nc.mk 0 [] [] sN [] sN [] [] 0,false,Zh _,rfl,gF,gA,⟨⟨_,_,_,rfl⟩,⟨_,_,_,rfl⟩⟩,(by intro h;cases h),gu,gn,Nat.le_of_eq gG.symm,gq⟩
  case round=>
   clear gF gA gu gn gG gq;obtain ⟨j,m,fb,hj,rfl,hp,hb,hO,hm,hR,hx,fj,hr⟩:=hrel;obtain ⟨mk,ms,mn,fl,ml,fm,hW,mt,ma⟩:=m;obtain ⟨⟨MA,h4,mc,hI⟩,⟨MB,h5,md,gD⟩⟩:=hO;simp only[Nc.al,Nc.ks] at hI gD;subst hI;subst gD;have gz:BxN wr (G+1) mk ms mn (.slice MA h4 mc) (.slice MB h5 md) mt ma:=hb;obtain ⟨b0,b1,b2,b3⟩:=hp.cells;have ga:Hid ((intOf ((wr.cell? ⟨G,1,none⟩).getD undef)).toNat=j):=(by have:(intOf ((wr.cell? ⟨G,1,none⟩).getD undef)).toNat=j:=(by rw[b1];simp[intOf]);exact this);have A:=hr.out;by_cases hH:j<lt.length
   ·obtain ⟨gs,fk,g2,gy⟩:=RTs.at (ge.out wr hx).row hH;injection g2 with e1 e2 e3;subst e1;clear e2 e3;have fe:(0:Int)<=(j:Int):=(by omega);have ff:(j:Int)<(lt.length:Int):=(by omega);have hP:=Zz hH;have gM:=RdT.form (gR.out _ hP);have go:=gQ.out _ hP;have gY:=h7.out.each _ (Z9 (f:=Tc.t) hP);rw[Qz hH,Zfg] at A;have ho:=λw' hJ hb=>gP.out j w' hH hJ hb;have hZ:=Qz hH;obtain ⟨x,gp⟩:∃x,lt[j]=x:=⟨_,rfl⟩;rw[gp] at gy gM go A hZ;obtain ⟨fn,⟨tk,tn,ta,gN,tt,V⟩⟩:=x;obtain ⟨gr,tc,gc⟩:=gM;dsimp only at gc go A hZ;subst gc;obtain ⟨a0,a1,a2,a3,a4,a5⟩:=gy;dsimp only at a0 a1 a2 a3 a4 a5;obtain ⟨Y,gB⟩:∃g,wr.heap.size=g:=⟨_,rfl⟩;obtain ⟨W5,hE⟩:∃W5,wr.alloc (.cells #[nI (tk:Nat),.string (str tn),.slice gr ta.length tc,.bool gN,.string (str tt),nI (V:Nat)] 111)=W5:=⟨_,rfl⟩;have U:Ext wr W5:=(by rw[<-hE];exact (Ext.refl wr).alloc _);have gW:BxT W5 Y ⟨.slice gr ta.length tc,⟨tk,tn,ta,gN,tt,V⟩⟩:=(by rw[<-hE,<-gB];exact Zf wr _);have fi:W5.heap.size=Y+1:=(by rw[<-hE,Zt,gB]);have g9:G+2<=Y:=by omega
    replace hp:=hp.ext U
    replace hR:=hR.ext U
    have gi:=gz.ext U;obtain ⟨t0,t1,t2,t3,t4,t5, -⟩:=gW.cells;dsimp only at t0 t1 t2 t3 t4 t5;obtain ⟨p0,p1,p2,p3⟩:=hp.cells;obtain ⟨f1,f2,f3⟩:=hp.frozen;have X:=gd A;have gO:=gd hZ;have g6:(str tt).size<=140737488351232:=by
     have h1:=h7.out.text;have h2:tt.length<=txts (lt.map Tc.t):=Zd1 (by
      have:=Z9 (f:=Tc.t) hP;rw[gp] at this;exact this)
     rw[hF] at h1;have h3:txts (lt.map Tc.t)<=2*s.size:=h1;rw[YN];omega
    clear hr A hZ gp gY hP;rcases go with hk|hk|hk
    ·subst hk;rw[show ((1:Nat):Int)=1 from rfl] at hE;cases fb with
     |true=>have A:=X.out;rw[Zl ⟨rfl,rfl⟩] at A;subst A;clear X ho;go_wp2;have H:=(Ext.refl W5).drew;have R:=BxN.ext hR H;have F:=H.cell t5;have hf:Y≠w.heap.size:=(by omega);have Q:=(ZV (a:=⟨Y,5,none⟩) (Z1 W5.drew w.heap.size Y #[nI 0,eS,eS,sN,sN,eS,nI 0] hf)).trans F;refine rN ?_;change wpAny _ _ _ _ _ _ _ (World.drew _);refine Yi (λw'=>w'.cell? ⟨Y,5,none⟩=some (nI (V:Nat))) ?_;refine tG 0 (.agg #[nI 0,eS,eS,sN,sN,eS,nI 0]) F ?_;refine tG 1 (.pointer (some ⟨Y,5,none⟩)) F ?_;refine tS 2 (nI (V:Nat)) rfl (λw' M=>by have hq:w'.cell? ⟨Y,5,none⟩=some (nI (V:Nat)):=M;go_simp) F ?_;go_simp;refine sS 3 λK hK=> ?_;refine Yj rfl 25 (.tmp 2) (.tmp 66) rfl w.heap.size #[nI 0,eS,eS,sN,sN,eS,nI 0] rfl rfl _ _ R ZD rfl Uj ?_;refine hK _ _ Q ?_;clear hK K;refine sS 4 λK hK=> ?_;go_simp;refine hK _ _ Q ?_;clear hK K;refine sS 5 λK hK=> ?_;go_simp;refine hK _ _ Q ?_;clear hK K;refine sE ?_;go_wp2;((try simp only[Exit.inBlock,Exit.then]);refine Zn (Zr rfl _ _ _ _ _ _ _ rfl (Zp _ _ _ _ _ _ R) underlying25 rfl ZD) rfl ?_);exact ⟨_,rfl,⟨Nc.mk 0 [] [] sN [] sN [] [] 0,rfl,⟨⟨_,_,_,rfl⟩,⟨_,_,_,rfl⟩⟩⟩,(((hL.trans hx).trans U).trans H).setRow (Zb _) _⟩
     |false=>
      have A:=X.out;rw[Zg (by rintro ⟨-,h⟩;cases h),Zg (by decide),Zg (by decide),<-gO.out] at A;have ht:=ho W5 (ge.out _ (hx.trans U)) hp;rw[hF] at ht;rw[hF] at A;cases he:elemAt s.size 1 ((lt.map Tc.t).drop j) with
      |error yc=>
       obtain ⟨y,c⟩:=yc;have gj:=GO he;have gX:((c:Int) !=0)=true:=(by rw[YU];omega);rw[he] at A ht;dsimp only at A;subst A;have HI:=gd ht;clear he gj ho ht X
       go_wp2_with (first|(go_at_call 59;(with_reducible refine Za HI.out ?_);rintro e6 w6 ⟨v6,rfl,gk,S⟩;(obtain ⟨n6,j6,rfl,hO,hu⟩:=gk.err);(obtain ⟨zk,zs,zn,g7,zl,g8,hy,zt,za⟩:=n6);(obtain ⟨⟨ZA,I,zc,hU⟩,⟨ZB,J,zd,hV⟩⟩:=hO);(simp only[Nc.al,Nc.ks] at hU hV);subst hU;subst hV;simp only[cellsN];(have hd:=gi.grown S (by intro e;injection e with e;omega));(have hB:=hR.grown S (by intro e;injection e with e;omega)))|(refine Zc rfl 25 (.tmp 9) (.tmp 44) rfl (G+1) _ rfl rfl _ _ hd ZD rfl YL ?_;(have hv:BxP (w6.setRow (G+1) #[nI (zk:Nat),.string (str zs),.string (str zn),.slice ZA I zc,.slice ZB J zd,.string (str zt),nI (za:Nat)]) G (.slice (some gs) lt.length uc) j6 y c:=(Z1 w6 (G+1) G _ (by omega)).trans hu);(have hM:BxN (w6.setRow (G+1) #[nI (zk:Nat),.string (str zs),.string (str zn),.slice ZA I zc,.slice ZB J zd,.string (str zt),nI (za:Nat)]) w.heap.size 0 [] [] sN sN [] 0:=(Z1 w6 (G+1) w.heap.size _ (by omega)).trans hB);(have hY:BxN (w6.setRow (G+1) #[nI (zk:Nat),.string (str zs),.string (str zn),.slice ZA I zc,.slice ZB J zd,.string (str zt),nI (za:Nat)]) (G+1) zk zs zn (.slice ZA I zc) (.slice ZB J zd) zt za:=Zp _ _ _ _ _ _ hd);(have hQ:Ext w2 (w6.setRow (G+1) #[nI (zk:Nat),.string (str zs),.string (str zn),.slice ZA I zc,.slice ZB J zd,.string (str zt),nI (za:Nat)]):=((hx.trans U).but S (by omega)).setRow (by omega) _);(obtain ⟨W8,hc⟩:∃W8,w6.setRow (G+1) #[nI (zk:Nat),.string (str zs),.string (str zn),.slice ZA I zc,.slice ZB J zd,.string (str zt),nI (za:Nat)]=W8:=⟨_,rfl⟩);(rw[hc] at hv hM hY hQ);(try rw[hc]);(obtain ⟨v0,v1,v2,v3⟩:=hv.cells)))
       have H:=(Ext.refl W8).drew;have R:=BxN.ext hM H;have F:W8.drew.cell? ⟨G,2,none⟩=some (nI (y:Nat))/\W8.drew.cell? ⟨G,3,none⟩=some (nI (c:Nat)):=⟨H.cell v2,H.cell v3⟩;have hf:G≠w.heap.size:=(by omega);have Q:(W8.drew.setRow w.heap.size #[nI 0,eS,eS,sN,sN,eS,nI 0]).cell? ⟨G,2,none⟩=some (nI (y:Nat))/\(W8.drew.setRow w.heap.size #[nI 0,eS,eS,sN,sN,eS,nI 0]).cell? ⟨G,3,none⟩=some (nI (c:Nat)):=⟨(ZV (a:=⟨G,2,none⟩) (Z1 W8.drew w.heap.size G #[nI 0,eS,eS,sN,sN,eS,nI 0] hf)).trans F.1,(ZV (a:=⟨G,3,none⟩) (Z1 W8.drew w.heap.size G #[nI 0,eS,eS,sN,sN,eS,nI 0] hf)).trans F.2⟩;clear hc v0 v1 v2 v3;refine rN ?_;change wpAny _ _ _ _ _ _ _ (World.drew _);refine Yi (λw'=>w'.cell? ⟨G,2,none⟩=some (nI (y:Nat))/\w'.cell? ⟨G,3,none⟩=some (nI (c:Nat))) ?_;refine tS 0 (.agg #[nI 0,eS,eS,sN,sN,eS,nI 0]) rfl (λw' M=>by have hg:=M.1;have hh:=M.2;go_simp) F ?_;refine tS 1 (.pointer (some ⟨G,0,none⟩)) rfl (λw' M=>by have hg:=M.1;have hh:=M.2;go_simp) F ?_;refine tS 2 (.pointer (some ⟨G,0,none⟩)) rfl (λw' M=>by have hg:=M.1;have hh:=M.2;go_simp) F ?_;refine tS 3 (.pointer (some ⟨G,2,none⟩)) rfl (λw' M=>by have hg:=M.1;have hh:=M.2;go_simp) F ?_;refine tS 4 (nI (y:Nat)) rfl (λw' M=>by have hg:=M.1;have hh:=M.2;go_simp) F ?_;refine tS 5 (.pointer (some ⟨G,0,none⟩)) rfl (λw' M=>by have hg:=M.1;have hh:=M.2;go_simp) F ?_;refine tS 6 (.pointer (some ⟨G,0,none⟩)) rfl (λw' M=>by have hg:=M.1;have hh:=M.2;go_simp) F ?_;refine tS 7 (.pointer (some ⟨G,3,none⟩)) rfl (λw' M=>by have hg:=M.1;have hh:=M.2;go_simp) F ?_;refine tS 8 (nI (c:Nat)) rfl (λw' M=>by have hg:=M.1;have hh:=M.2;go_simp) F ?_;go_simp;refine sS 9 λK hK=> ?_;refine Yj rfl 25 (.tmp 2) (.tmp 50) rfl w.heap.size #[nI 0,eS,eS,sN,sN,eS,nI 0] rfl rfl _ _ R ZD rfl Uj ?_;refine hK _ _ Q ?_;clear hK K;refine sS 10 λK hK=> ?_;go_simp;refine hK _ _ Q ?_;clear hK K;refine sS 11 λK hK=> ?_;go_simp;refine hK _ _ Q ?_;clear hK K;refine sE ?_;go_wp2;((try simp only[Exit.inBlock,Exit.then]);refine Zn (Zr rfl _ _ _ _ _ _ _ rfl (Zp _ _ _ _ _ _ R) underlying25 rfl ZD) rfl ?_);exact ⟨_,rfl,⟨Nc.mk 0 [] [] sN [] sN [] [] 0,rfl,⟨⟨_,_,_,rfl⟩,⟨_,_,_,rfl⟩⟩⟩,((hL.trans hQ).trans H).setRow (Zb _) _⟩
      |ok mr=>
       obtain ⟨m9,r9⟩:=mr;rw[he] at A ht;dsimp only at A;have HI:=gd ht;have HN:=gd A;have gw:=(ge.out _ hx).ta;have gU:=gd gw;clear he ho ht X gw A
       go_wp2_with (first|(go_at_call 59;(with_reducible refine Za HI.out ?_);rintro e6 w6 ⟨v6,rfl,gk,S⟩;(obtain ⟨mc,j6,rfl,g3,gE,gC,g4,hu,hI⟩:=gk.ok);(have hO:=RdN.sl gE);(obtain ⟨zk,zs,zn,g7,zl,g8,hy,zt,za⟩:=mc);(obtain ⟨⟨ZA,I,zc,hU⟩,⟨ZB,J,zd,hV⟩⟩:=hO);(simp only[Nc.al,Nc.ks] at hU hV);subst hU;subst hV;simp only[cellsN];(have hd:=gi.grown S (by intro e;injection e with e;omega));(have hB:=hR.grown S (by intro e;injection e with e;omega)))|(refine Zc rfl 25 (.tmp 9) (.tmp 44) rfl (G+1) _ rfl rfl _ _ hd ZD rfl YL ?_;(have hv:BxP (w6.setRow (G+1) #[nI (zk:Nat),.string (str zs),.string (str zn),.slice ZA I zc,.slice ZB J zd,.string (str zt),nI (za:Nat)]) G (.slice (some gs) lt.length uc) j6 0 0:=(Z1 w6 (G+1) G _ (by omega)).trans hu);(have hM:BxN (w6.setRow (G+1) #[nI (zk:Nat),.string (str zs),.string (str zn),.slice ZA I zc,.slice ZB J zd,.string (str zt),nI (za:Nat)]) w.heap.size 0 [] [] sN sN [] 0:=(Z1 w6 (G+1) w.heap.size _ (by omega)).trans hB);(have hY:BxN (w6.setRow (G+1) #[nI (zk:Nat),.string (str zs),.string (str zn),.slice ZA I zc,.slice ZB J zd,.string (str zt),nI (za:Nat)]) (G+1) zk zs zn (.slice ZA I zc) (.slice ZB J zd) zt za:=Zp _ _ _ _ _ _ hd);(have hQ:Ext w2 (w6.setRow (G+1) #[nI (zk:Nat),.string (str zs),.string (str zn),.slice ZA I zc,.slice ZB J zd,.string (str zt),nI (za:Nat)]):=((hx.trans U).but S (by omega)).setRow (by omega) _);(have gb:RdN (w6.setRow (G+1) #[nI (zk:Nat),.string (str zs),.string (str zn),.slice ZA I zc,.slice ZB J zd,.string (str zt),nI (za:Nat)]) (Nc.mk zk zs zn (.slice ZA I zc) zl (.slice ZB J zd) hy zt za):=RdN.grown (Yv w6 (G+1) _) _ gE (hI (G+1) (by omega) gT.out));(obtain ⟨W8,hc⟩:∃W8,w6.setRow (G+1) #[nI (zk:Nat),.string (str zs),.string (str zn),.slice ZA I zc,.slice ZB J zd,.string (str zt),nI (za:Nat)]=W8:=⟨_,rfl⟩);(rw[hc] at hv hM hY hQ gb);(try rw[hc]);(obtain ⟨v0,v1,v2,v3⟩:=hv.cells)))
       have gx:=gd hc;clear hc v0 v1 v2 v3;go_roundw
       case rel=>
        refine ⟨j6,Nc.mk zk zs zn (.slice ZA I zc) zl (.slice ZB J zd) hy zt za,true,gC.2,rfl,hv,hY,⟨⟨_,_,_,rfl⟩,⟨_,_,_,rfl⟩⟩,λ_=>⟨gb,hI G (by omega) gU.out,λr hr=>hI r (by omega) (gS.out r hr)⟩,hM,hQ,?_,?_⟩
        ·have h1:=S.size;have h2:W8.heap.size=w6.heap.size:=(by rw[<-gx.out];simp[World.setRow]);omega
        ·rw[Zl rfl,g3,<-g4,hF];exact HN.out
       case measure=>have h8:=ga.out;have h9:=hv.cells.2.1;have fc:=gC;rw[h8,h9];simp[intOf];omega
    ·subst hk;rw[show ((2:Nat):Int)=2 from rfl] at hE;have A:=X.out;rw[Zg (by rintro ⟨h, -⟩;cases h),Zl rfl] at A;subst A;clear X ho;go_wp2;have H:=(Ext.refl W5).drew;have R:=BxN.ext hR H;have F:=H.cell t5;have hf:Y≠w.heap.size:=(by omega);have Q:=(ZV (a:=⟨Y,5,none⟩) (Z1 W5.drew w.heap.size Y #[nI 0,eS,eS,sN,sN,eS,nI 0] hf)).trans F;refine rN ?_;change wpAny _ _ _ _ _ _ _ (World.drew _);refine Yi (λw'=>w'.cell? ⟨Y,5,none⟩=some (nI (V:Nat))) ?_;refine tG 0 (.agg #[nI 0,eS,eS,sN,sN,eS,nI 0]) F ?_;refine tG 1 (.pointer (some ⟨Y,5,none⟩)) F ?_;refine tS 2 (nI (V:Nat)) rfl (λw' M=>by have hq:w'.cell? ⟨Y,5,none⟩=some (nI (V:Nat)):=M;go_simp) F ?_;go_simp;refine sS 3 λK hK=> ?_;refine Yj rfl 25 (.tmp 2) (.tmp 73) rfl w.heap.size #[nI 0,eS,eS,sN,sN,eS,nI 0] rfl rfl _ _ R ZD rfl Uj ?_;refine hK _ _ Q ?_;clear hK K;refine sS 4 λK hK=> ?_;go_simp;refine hK _ _ Q ?_;clear hK K;refine sS 5 λK hK=> ?_;go_simp;refine hK _ _ Q ?_;clear hK K;refine sE ?_;go_wp2;((try simp only[Exit.inBlock,Exit.then]);refine Zn (Zr rfl _ _ _ _ _ _ _ rfl (Zp _ _ _ _ _ _ R) underlying25 rfl ZD) rfl ?_);exact ⟨_,rfl,⟨Nc.mk 0 [] [] sN [] sN [] [] 0,rfl,⟨⟨_,_,_,rfl⟩,⟨_,_,_,rfl⟩⟩⟩,(((hL.trans hx).trans U).trans H).setRow (Zb _) _⟩
    ·subst hk;rw[show ((3:Nat):Int)=3 from rfl] at hE;have A:=X.out;rw[Zg (by rintro ⟨h, -⟩;cases h),Zg (by decide),Zl rfl] at A;have hn:=λw'=>ZcE (str tt) w' g6;rw[Ya] at hn;cases hbl:blankL tt with
     |false=>
      rw[hbl,Zl rfl] at A;rw[hbl] at hn;subst A;have HB:=gd hn;clear X ho hn hbl
      go_wp2_with (first|(go_at_call 58;(with_reducible refine Za (HB.out _) ?_);rintro e6 w6 ⟨rfl,h6⟩;(have gf:=h6.symm);clear h6;subst gf))
      have H:=(Ext.refl W5).drew;have R:=BxN.ext hR H;have F:=H.cell t5;have hf:Y≠w.heap.size:=(by omega);have Q:=(ZV (a:=⟨Y,5,none⟩) (Z1 W5.drew w.heap.size Y #[nI 0,eS,eS,sN,sN,eS,nI 0] hf)).trans F;refine rN ?_;change wpAny _ _ _ _ _ _ _ (World.drew _);refine Yi (λw'=>w'.cell? ⟨Y,5,none⟩=some (nI (V:Nat))) ?_;refine tG 0 (.agg #[nI 0,eS,eS,sN,sN,eS,nI 0]) F ?_;refine tG 1 (.pointer (some ⟨Y,5,none⟩)) F ?_;refine tS 2 (nI (V:Nat)) rfl (λw' M=>by have hq:w'.cell? ⟨Y,5,none⟩=some (nI (V:Nat)):=M;go_simp) F ?_;go_simp;refine sS 3 λK hK=> ?_;refine Yj rfl 25 (.tmp 2) (.tmp 86) rfl w.heap.size #[nI 0,eS,eS,sN,sN,eS,nI 0] rfl rfl _ _ R ZD rfl Uj ?_;refine hK _ _ Q ?_;clear hK K;refine sS 4 λK hK=> ?_;go_simp;refine hK _ _ Q ?_;clear hK K;refine sS 5 λK hK=> ?_;go_simp;refine hK _ _ Q ?_;clear hK K;refine sE ?_;go_wp2;((try simp only[Exit.inBlock,Exit.then]);refine Zn (Zr rfl _ _ _ _ _ _ _ rfl (Zp _ _ _ _ _ _ R) underlying25 rfl ZD) rfl ?_);exact ⟨_,rfl,⟨Nc.mk 0 [] [] sN [] sN [] [] 0,rfl,⟨⟨_,_,_,rfl⟩,⟨_,_,_,rfl⟩⟩⟩,(((hL.trans hx).trans U).trans H).setRow (Zb _) _⟩
     |true=>
      rw[hbl,Zg (by simp)] at A;rw[hbl] at hn;have HB:=gd hn;have HN:=gd A;clear X ho hn hbl A
      go_wp2_with (first|(go_at_call 58;(with_reducible refine Za (HB.out _) ?_);rintro e6 w6 ⟨rfl,h6⟩;(have gf:=h6.symm);clear h6;subst gf))
      have hu:=hp.next (j+1);have hB:BxN (W5.setCell ⟨G,1,none⟩ (nI ((j+1:Nat):Int))) w.heap.size 0 [] [] sN sN [] 0:=hR.other (by omega);have hd:BxN (W5.setCell ⟨G,1,none⟩ (nI ((j+1:Nat):Int))) (G+1) mk ms mn (.slice MA h4 mc) (.slice MB h5 md) mt ma:=gi.other (by omega);have gL:Ext w2 (W5.setCell ⟨G,1,none⟩ (nI ((j+1:Nat):Int))):=(hx.trans U).setCell (by show _<=G;omega) _;have g5:(W5.setCell ⟨G,1,none⟩ (nI ((j+1:Nat):Int))).heap.size=W5.heap.size:=(by simp[World.setCell]);have S:=Yo W5 ⟨G,1,none⟩ (nI ((j+1:Nat):Int));rw[show ((j+1:Nat):Int)=(j:Int)+1 by omega] at hu hB hd gL g5 S;go_roundw
      case rel=>
       refine ⟨j+1,Nc.mk mk ms mn (.slice MA h4 mc) ml (.slice MB h5 md) hW mt ma,fb,by omega,rfl,?_,hd,⟨⟨_,_,_,rfl⟩,⟨_,_,_,rfl⟩⟩,λh=> ?_,hB,gL,by (try simp only[nI,sN] at *);omega,HN⟩
       ·unfold BxP;rw[show (((j+1:Nat):Int))=(j:Int)+1 by omega];exact hu
       ·obtain ⟨h1,h2,h3⟩:=hm.out h;exact ⟨RdN.grown S _ (RdN.ext U _ h1) h2,h2,h3⟩
      case measure=>have h8:=ga.out;have h9:=hu.cells.2.1;rw[h8,h9];simp[intOf];omega
   ·have gZ:j=lt.length:=(by omega);subst gZ;rw[Zw (by rw[Zk];exact Zb _),ZgM] at A;have fg:¬(lt.length:Int)<(lt.length:Int):=(by omega);obtain ⟨m0,m1,m2,m3,m4,m5,m6⟩:=gz.cells;clear hr hH;cases fb with
    |false=>
     rw[Zg (by simp)] at A;dsimp only at A;rw[hF] at A;subst A
     go_wp2_with (first|(refine Zc rfl 25 (.tmp 2) (.tmp 102) rfl w.heap.size #[nI 0,eS,eS,sN,sN,eS,nI 0] rfl rfl _ _ hR ZD rfl Uj ?_))
     ((try simp only[Exit.inBlock,Exit.then]);refine Zn (Zr rfl _ _ _ _ _ _ _ rfl (Zp _ _ _ _ _ _ hR) underlying25 rfl ZD) rfl ?_);exact ⟨_,rfl,⟨Nc.mk 0 [] [] sN [] sN [] [] 0,rfl,⟨⟨_,_,_,rfl⟩,⟨_,_,_,rfl⟩⟩⟩,(hL.trans hx).setRow (Zb _) _⟩
    |true=>
     rw[Zl rfl] at A;dsimp only at A;subst A
     go_wp2_with (first|(refine Zc rfl 25 (.tmp 2) (.tmp 105) rfl w.heap.size _ rfl rfl _ _ hR ZD rfl YL ?_))
     ((try simp only[Exit.inBlock,Exit.then]);refine Zn (Zr rfl _ _ _ _ _ _ _ rfl (Zp _ _ _ _ _ _ hR) underlying25 rfl ZD) rfl ?_);obtain ⟨h1,h2,h3⟩:=hm.out (by trivial);exact ⟨_,rfl,⟨Nc.mk mk ms mn (.slice MA h4 mc) ml (.slice MB h5 md) hW mt ma,rfl,rfl,RdN.grown (Yv wr w.heap.size _) _ h1 (h3 _ (Zb _)),λr hr=>h3 r (Nat.le_of_lt hr)⟩,(hL.trans hx).setRow (Zb _) _⟩
end
section
variable {f:Fd} {α:Type}
def DecRet (w':Wq) (v:Value):Except PErr (List Fd)->Prop
 | .ok l=>∃v' lc,v= .tuple #[.agg #[v'],nI 0,nI (errFs l:Nat)]/\lc.map Fc.f=normA l/\RFcs w' v' lc/\∀y∈lc,RdC w' y
 | .error (y,c)=>v= .tuple #[.agg #[sN],nI (y:Nat),nI (c:Nat)]
theorem ZhQ {n:Nd} (h:n.kind≠0\/n.space≠ []\/n.name≠opmlL\/attrL n versionL≠some twoL):opmlP n= .error (n.at_,18):=by
 unfold opmlP;rw[Zl h]
theorem ZhR {n:Nd} (h:n.kind=0) (A:n.space= []) (D:n.name=opmlL) (F:attrL n versionL=some twoL):opmlP n=match n.kids.find? (isEl bodyL) with|none=> .error (n.at_,19)|some b=>visP b []:=by
 unfold opmlP;rw[Zg (by rintro (e|e|e|e)<;>first|exact e h|exact e A|exact e D|exact e F)];rfl
theorem Zds (f:α->Bool) (l:List α):l.find? f=(l.filter f).head?:=by rw[List.head?_filter]
theorem Zcd {n:Nd}:∀{l:List Nd},n∈l->n.cnt<=Nds.cnt l
 | [],h=>by cases h
 |x::t,h=>by
  rw[Nds.cnt]
  rcases ZI.1 h with rfl|h
  ·omega
  ·have:=Zcd h;omega
theorem ZeF {b:Nat}:∀{l:List ByteArray},(∀s∈l,s.size<=b)->sizes l<=l.length*b
 | [],_=>Zh _
 |x::t,h=>by
  have D:=h x ZS
  have F:=ZeF (b:=b) (l:=t) λs A=>h s (ZJ _ A)
  have e:sizes (x::t)=x.size+sizes t:=by unfold sizes;simp
  rw[e,Ze,Nat.add_mul]
  omega
theorem Zjk (h:opOk 5000 f):fokS f/\f.path.length<=1000000:=by
 obtain ⟨D,F,K,M,Q,H,A⟩:=h;have R:=ZeF F;have J:f.path.length*(2*5000)<=64*(2*5000):=Nat.mul_le_mul_right _ D;refine ⟨⟨⟨by rw[H];unfold i64ok;decide,by omega⟩,by rw[A];simp,(by rw[A];intro e I;cases I)⟩,by omega⟩
theorem Ez:∀{l:List Fc},(∀x∈l,x.f.ents= [])->allE l=0
 | [],_=>rfl
 |x::t,h=>by
  have D:=h x ZS
  have A:=Ez (l:=t) λy F=>h y (ZJ _ F)
  unfold allE at A|-
  rw[ZP,XH,A,D]
  rfl
theorem ZeN {b:Nd} {l:List Fd} (F:visP b []= .ok l) (A:b.fits 5000) (H:b.cnt<=5000):l.length<=5000/\∀f∈l,opOk 5000 f:=by
 have h:=Zgw 5000 b [] l F A (Zh _) (by intro s D;cases D);exact ⟨by omega,h.2⟩
theorem ZcS {O:List Fc} {l:List Fd} (F:O.map Fc.f=l) (h:l.length<=5000/\∀f∈l,opOk 5000 f):O.length<=1000000/\(∀x∈O,fokS x.f/\x.f.path.length<=1000000)/\allE O<=1000000:=by
 subst F;have D:=h.1;rw[Zk] at D;refine ⟨by omega,λx A=>Zjk (h.2 x.f (Z9 A)),?_⟩;rw[Ez λx A=>(h.2 x.f (Z9 A)).ents];omega
end
section
variable {l:List Fc}
theorem ZfR (D:∀x∈l,fokS x.f/\x.f.path.length<=1000000) (H:allE l<=1000000):∀y∈normA (l.map Fc.f),fokS y:=by
 intro y h;unfold normA at h;split at h
 ·have A:=Ze9 (l:=(l.map Fc.f).map collF) (λz J=>by
   obtain ⟨q,I,rfl⟩:=ZO.1 J;obtain ⟨x,F,rfl⟩:=ZO.1 I;exact ZgJ (D x F).1 (D x F).2) y h
  refine ⟨A.1.1,?_,A.2⟩;have K:y.ents.length<=sumE (ordF.canon ((l.map Fc.f).map collF)):=Eq (ZO.2 ⟨y,h,rfl⟩);have M:=Zfa ((l.map Fc.f).map collF);have Q:sumE ((l.map Fc.f).map collF)<=allE l:=by rw[J4];exact Zil l
  omega
 ·simp at h
theorem ZhL (L:List Fd):(normA L).length<=L.length:=by
 unfold normA;split
 ·have h:=KL ordF (L.map collF)
  rwa [Zk] at h
 ·simp
end
section
variable {N:Nat} {f:Fd} {s:List UInt8}
section
variable {P:Fd→Prop}
theorem GV (A:∀a b,P a->P b->P (joinF a b)):∀(l:List Fd) (e:Fd),(∀x∈l,P x)->P e->P (ordF.scan l e).2/\∀z∈(ordF.scan l e).1,z∈l
 | [],e,_,he=>⟨he,by intro z h;simp[Ord.scan] at h⟩
 |y::t,e,hl,he=>by
  have K:=hl y ZS
  have I:=λx J=>hl x (ZJ y J)
  unfold Ord.scan
  split
  ·obtain ⟨D,F⟩:=GV A t (joinF y e) I (A y e K he)
   exact ⟨D,λz H=>ZJ _ (F z H)⟩
  ·obtain ⟨D,F⟩:=GV A t e I he
   exact ⟨D,λz H=>(ZI.1 H).elim (λh=>by rw[h];exact ZS) λh=>ZJ _ (F z h)⟩
theorem E6 (A:∀a b,P a->P b->P (joinF a b)):∀(l s:List Fd),(∀x∈l,P x)->(∀x∈s,P x)->∀z∈l.foldl ordF.put s,P z
 | [],_,_,hs=>hs
 |e::t,s,hl,hs=>E6 A t _ (λx H=>hl x (ZJ _ H)) λz I=>by
  obtain ⟨D,F⟩:=GV A s e hs (hl e ZS)
  rcases (Ord.mem_ins _ _ _ _).1 I with h|h
  ·rw[h];exact D
  ·exact hs z (F z h)
theorem Zc7 (A:∀a b,P a->P b->P (joinF a b)) {l:List Fd} (h:∀x∈l,P x):∀z∈ordF.canon l,P z:=E6 A l [] h (by simp)
end
theorem ZjE (a b:Fd) (h:smF N a) (A:smF N b):smF N (joinF a b):=by
 unfold joinF laterF;split
 ·exact A
 ·exact h
theorem ZjD (h:smF N f):smF N (collF f):=by
 obtain ⟨A,D,F,H⟩:=h;refine ⟨λp I=> ?_,Zv (Y9 _) D,Zv (Y9 _) F,Zv (Y9 _) H⟩;obtain ⟨q,J,rfl⟩:=ZO.1 I;exact Zv (Y9 _) (A q J)
theorem ZjF {l:List Fd} (h:∀x∈l,smF N x):∀z∈normA l,smF N z:=by
 unfold normA;split
 ·exact Zc7 ZjE λx A=>by obtain ⟨y,D,rfl⟩:=ZO.1 A;exact ZjD (h y D)
 ·intro z F;cases F
def smA (L:List Fd):Prop:=(∀f∈L,fokS f/\smF 10000 f)/\L.length<=10000
theorem ZfV {m:Nd} {l:List Fd} (h:opmlP m= .ok l) (A:m.fits 5000) (H:m.cnt<=5000):l.length<=5000/\∀f∈l,opOk 5000 f:=by
 obtain ⟨k,s,n,al,ks,t,a⟩:=m;rw[Nd.fits] at A;rw[Nd.cnt] at H;unfold opmlP at h;split at h
 ·cases h
 ·split at h
  ·cases h
  ·rename_i b F;have D:b∈ks:=List.mem_of_find?_eq_some F;exact ZeN h ((Nds.fits_iff _).1 A.2.2.2.2.2.2.2.2 b D) (by have:=Zcd D;omega)
def decL (m:Nd):List Fd:=match opmlP m with| .error _=> []| .ok l=>normA l
def decAt (m:Nd):Nat:=match opmlP m with| .error x=>x.1| .ok _=>0
def decE (m:Nd):Nat:=match opmlP m with| .error x=>x.2| .ok l=>errFs l
theorem Zj7 {m:Nd} (A:m.fits 5000) (M:m.cnt<=5000):smA (decL m):=by
 unfold decL;cases h:opmlP m with
 |error x=>exact ⟨(by intro f A;cases A),Zh _⟩
 |ok l=>obtain ⟨K,D⟩:=ZfV h A M;have R:=ZhL l;obtain ⟨lc,F⟩:∃lc:List Fc,lc.map Fc.f=l:=⟨l.map λf=>⟨undef,undef,f⟩,by rw[J4];exact List.map_id' l⟩;obtain ⟨Q,J,g3⟩:=ZcS F ⟨K,D⟩;have I:=ZfR J g3;rw[F] at I;exact ⟨λf A=>⟨I f A,ZjF (λx H=>⟨(D x H).path,(D x H).id,(D x H).title,(D x H).link⟩) f A⟩,by show (normA l).length<=10000;omega⟩
def docA:List UInt8:= [60,111,112,109,108,32,118,101,114,115,105,111,110,61,34,50,46,48,34,62,60,98,111,100,121,62,60,111,117,116,108,105,110,101,32,116,101,120,116,61,34,97,34,62,60,111,117,116,108,105,110,101,32,116,101,120,116,61,34,84,34,32,120,109,108,85,114,108,61,34,70,34,47,62,60,47,111,117,116,108,105,110,101,62,60,47,98,111,100,121,62,60,47,111,112,109,108,62]
def docM:List UInt8:= [60,111,112,109,108,32,118,101,114,115,105,111,110,61,34,50,46,48,34,62,60,98,111,100,121,62,60,111,117,116,108,105,110,101,62,60,111,117,116,108,105,110,101,32,116,101,120,116,61,34,84,34,32,120,109,108,85,114,108,61,34,70,34,47,62,60,47,111,117,116,108,105,110,101,62,60,47,98,111,100,121,62,60,47,111,112,109,108,62]
def docO:List UInt8:= [60,63,120,109,108,32,118,101,114,115,105,111,110,61,34,49,46,48,34,32,101,110,99,111,100,105,110,103,61,34,85,84,70,45,56,34,63,62,10,60,111,112,109,108,32,118,101,114,115,105,111,110,61,34,50,46,48,34,62,60,104,101,97,100,47,62,60,98,111,100,121,62,60,111,117,116,108,105,110,101,32,116,101,120,116,61,34,97,34,62,60,111,117,116,108,105,110,101,32,116,121,112,101,61,34,114,115,115,34,32,116,101,120,116,61,34,84,34,32,120,109,108,85,114,108,61,34,70,34,47,62,60,47,111,117,116,108,105,110,101,62,60,47,98,111,100,121,62,60,47,111,112,109,108,62,10]
def feedA:Fd:=⟨[⟨#[97]⟩],⟨#[70]⟩,⟨#[84]⟩,⟨#[]⟩, -62135596800,[]⟩
def okOf (r:Except PErr (List Fd)) (l:List Fd):Bool:=match r with| .error _=>false| .ok l'=>decide (l'=l)
def errOf (r:Except PErr (List Fd)) (x:PErr):Bool:=match r with| .error y=>decide (y=x)| .ok _=>false
theorem Zkw {r:Except PErr (List Fd)} {l:List Fd} (h:okOf r l=true):r= .ok l:=by
 cases r with
 |error e=>cases h
 |ok l'=>exact Zy _ (YG h)
theorem ZiM {r:Except PErr (List Fd)} {x:PErr} (h:errOf r x=true):r= .error x:=by
 cases r with
 |error e=>exact Zy _ (YG h)
 |ok l'=>cases h
def treeOk (s:List UInt8) (p:Nd->Bool):Bool:=match treeP s with|some m=>p m|none=>false
theorem Zb1 {p:Nd->Bool} (h:treeOk s p=true):∃m,treeP s=some m/\p m=true:=by
 unfold treeOk at h;split at h
 ·rename_i m A;exact ⟨m,A,h⟩
 ·cases h
theorem ZgL:∃m,treeP docA=some m/\opmlP m= .ok [feedA]:=by
 obtain ⟨m,h,A⟩:=Zb1 (s:=docA) (p:=λm=>okOf (opmlP m) [feedA]) (by decide+kernel);exact ⟨m,h,Zkw A⟩
theorem ZgO:∃m,treeP docM=some m/\opmlP m= .error (26,19):=by
 obtain ⟨m,h,A⟩:=Zb1 (s:=docM) (p:=λm=>errOf (opmlP m) (26,19)) (by decide+kernel);exact ⟨m,h,ZiM A⟩
theorem Zgl:okA [feedA]=true:=by decide+kernel
theorem Zbn:errFs [feedA]=0/\normA [feedA]= [feedA]:=Zjd Zgl
theorem ZiE:docW (encP [feedA])=docO:=by decide+kernel
end
section
variable {c d k m:Nat} {s t:List UInt8}
theorem Zjj {h a:Nat} {n:List UInt8} {A B:Option Addr}:(#[nI (k:Nat),.string (str s),.string (str n),.slice A m c,.slice B h d,.string (str t),nI (a:Nat)]:Array Value).all (λu=>u.oneCell')=true:=by simp[Value.oneCell']
theorem Zis (v:Value) (l:List Fc) (w:Wq) (hE:Env w) (J:NmTabs w) (hr:RFcs w v l) (Q:∀x∈l,RdC w x) (X:smA (l.map Fc.f)):
 Calls prog 17 #[.agg #[v]] w λe w'=>e= .returned (.tuple #[.string (str (if okA (l.map Fc.f)=true then docW (encP (l.map Fc.f)) else [])),nI (if okA (l.map Fc.f)=true then 0 else 22)])/\Ext w w':=by
 have hn:l.length<=10000:=by have:=X.2;rwa [Zk] at this
 have hk:∀x∈l,fokS x.f:=λx Y=>(X.1 x.f (Z9 Y)).1;have D:=gd (λ(w':Wq) (h:Ext w w')=>Zfi v l w' (hE.ext h) (hr.ext h) (λx Y=>(Q x Y).ext h) hk (by omega));have I:=ZgX (l:=l.map Fc.f) (λf hf=>(X.1 f hf).2) X.2;have Z:=gd (λ(x:Nc) (w':Wq) (h:Ext w w') (Y:x.nd=encP (l.map Fc.f)) (hh:RdN w' x)=>ZcW 10000 (by decide) x w' (by rw[Y];exact I.2.1) (hE.ext h) (J.ext h) hh (by rw[Y];exact I.2.2));obtain ⟨VA,vc,hv, -, -⟩:=hr.form;subst hv;unfold EncRet at D;obtain ⟨W0,ha⟩:∃W0,w.alloc (.cells #[.slice VA l.length vc] 31)=W0:=⟨_,rfl⟩;have R:Ext w W0:=by rw[<-ha];exact (Ext.refl w).alloc _
 have b0:W0.cell? ⟨w.heap.size,0,none⟩=some (.slice VA l.length vc):=by rw[<-ha];exact (Zs (Zf w _) 0).trans rfl
 have F:=gd R;by_cases ho:okA (l.map Fc.f)=true
 ·have M:=(Zk7 ho).1;simp only[Zl ho] at D|-;clear hE J hr Q X hn hk I ho R;go_enter func17,ntmps17
  go_wp2_with (first|(go_at_call 20;(with_reducible refine Za (D.out _ F.out) ?_);rintro e w1 ⟨r,rfl,⟨x,rfl,U,V⟩,H⟩;(have hi:=RdN.sl V);(have HW:=gd (λ(w':Wq) (h:Ext w1 w')=>Z.out x w' ((F.out.trans H).trans h) U (RdN.ext h _ V)));rw[U,Zl M,Zl M] at HW;(obtain ⟨k,s,n,al,l0,ks,kids,t,a⟩:=x);(obtain ⟨⟨A,m,c,hc⟩,⟨B,m2,d,hd⟩⟩:=hi);simp only[Nc.al,Nc.ks] at hc hd;subst hc;subst hd;simp only[cellsN] at HW|-;(obtain ⟨W2,K⟩:∃W2,w1.alloc (.cells #[nI (k:Nat),.string (str s),.string (str n),.slice A m c,.slice B m2 d,.string (str t),nI (a:Nat)] 25)=W2:=⟨_,rfl⟩);(have S:Ext w1 W2:=by rw[<-K];exact (Ext.refl w1).alloc _);(have hb:BxN W2 w1.heap.size k s n (.slice A m c) (.slice B m2 d) t a:=by rw[<-K];exact Zf w1 _);(obtain ⟨c0,c1,c2,c3,c4,c5,c6⟩:=hb.cells);(have he:=gd ((F.out.trans H).trans S));(have hg:=gd S);clear U V H S hb M b0)|(refine Zc rfl 25 (.tmp 4) (.tmp 9) rfl w1.heap.size _ rfl rfl _ _ (Zf _ _) ZD rfl Zjj ?_;rw[Z4];rw[K])|(go_at_call 42;(with_reducible refine Za (HW.out _ hg.out) ?_);rintro e w3 ⟨rfl,hj⟩))
  go_ret2
  exact ⟨rfl,he.out.trans hj⟩
 ·simp only[Zg ho] at D|-;clear hE J hr Q X hn hk I ho R Z;go_enter func17,ntmps17
  go_wp2_with (first|(go_at_call 20;(with_reducible refine Za (D.out _ F.out) ?_);rintro e w1 ⟨r,rfl,rfl,H⟩)|(refine Zc rfl 25 (.tmp 4) (.tmp 9) rfl _ _ rfl rfl _ _ (Zf _ _) ZD rfl ZkP ?_;rw[Z4]))
  go_ret2
  exact ⟨rfl,(F.out.trans H).alloc _⟩
end
def zero7:Array Value:=#[nI 0,eS,eS,sN,sN,eS,nI 0]
theorem Zau (N:Nat) (hN:N<=8388608) (x:Nc) (w:Wq) (H:RdN w x) (M:x.nd.fits N) (Z:x.nd.ht<=101):
 Calls prog 27 #[.agg (cellsN x).toArray] w λe w'=>∃v,e= .returned v/\ResRet x w.heap.size w' v (resP x.nd [])/\Ext w w':=by
 have K:=((Ext.refl w).alloc (.cells (cellsN x).toArray 25)).alloc (.cells zero7 25);obtain ⟨W0,h⟩:∃W0,(w.alloc (.cells (cellsN x).toArray 25)).alloc (.cells zero7 25)=W0:=⟨_,rfl⟩;have Q:W0.heap[w.heap.size]? =some (.cells (cellsN x).toArray 25):=by rw[<-h];exact ((Ext.refl _).alloc _).heap (Zf w _)
 have X:BxN W0 (w.heap.size+1) 0 [] [] sN sN [] 0:=by rw[<-h];exact YD w _ _
 have hs:W0.heap.size=w.heap.size+2:=by rw[<-h,Zt,Zt]
 rw[h] at K;have hb:x.nd.ht*N<=101*8388608:=Nat.mul_le_mul Z hN;have J:=Ky N hN (x.nd.ht+1) x sN [] W0 (YW _) (RdN.ext K x H) (RSl.nil _ 2) M (by rw[ZT];omega);have S:=RdN.sl H;have hh:=gd (λr (hr:w.heap.size<=r)=>(XW H hr:awayN (some r) x));obtain ⟨RR,Y⟩:∃RR,resP x.nd []=RR:=⟨_,rfl⟩;rw[Y] at J|-;obtain ⟨k,s,nm,al,l,ks,kids,t,at_⟩:=x;obtain ⟨⟨A,an,c,ha⟩,⟨B,bn,d,hk⟩⟩:=S;simp only[Nc.al,Nc.ks] at ha hk;subst ha;subst hk;unfold zero7 at h;simp only[cellsN] at J h Q|-;have HC:=gd J;have hi:BxN W0 w.heap.size k s nm (.slice A an c) (.slice B bn d) t at_:=Q;obtain ⟨b0,b1,b2,b3,b4,b5,b6⟩:=hi.cells;have hq:=gd H;clear J Q Y H M Z hb;cases RR with
 |error yc=>
  obtain ⟨y,ec⟩:=yc;go_enter func27,ntmps27
  go_wp2_with (first|(go_at_call 60;(with_reducible refine Za HC.out ?_);rintro e4 w4 ⟨v4,rfl,R,I⟩;(obtain ⟨m,rfl,S⟩:=R.err);(obtain ⟨mk,ms,mn,hu,ml,hv,U,mt,ma⟩:=m);(obtain ⟨⟨MA,hm,mc,F⟩,⟨MB,hn,md,hc⟩⟩:=S);(simp only[Nc.al,Nc.ks] at F hc);subst F;subst hc;simp only[cellsN];(have D:=X.ext I))|(refine Zc rfl 25 (.tmp 2) (.tmp 7) rfl (w.heap.size+1) _ rfl rfl _ _ D ZD rfl YL ?_))
  ((try simp only[Exit.inBlock,Exit.then]);refine Zn (Zr rfl _ _ _ _ _ _ _ rfl (Zp _ _ _ _ _ _ D) underlying25 rfl ZD) rfl ?_);exact ⟨_,rfl,⟨.mk mk ms mn (.slice MA hm mc) ml (.slice MB hn md) U mt ma,rfl,⟨⟨_,_,_,rfl⟩,⟨_,_,_,rfl⟩⟩⟩,(K.trans I).setRow (by omega) _⟩
 |ok m9=>
  go_enter func27,ntmps27
  go_wp2_with (first|(go_at_call 60;(with_reducible refine Za HC.out ?_);rintro e4 w4 ⟨v4,rfl,R,I⟩;(obtain ⟨mc,rfl,hj,hd,F⟩:=R.ok);(have he:=RdN.sl hd);(obtain ⟨yk,ys,yn,hw,yl,hx,V,yt,ya⟩:=mc);(obtain ⟨⟨YA,ho,yc,hf⟩,⟨YB,hp,yd,hg⟩⟩:=he);(simp only[Nc.al,Nc.ks] at hf hg);subst hf;subst hg;simp only[cellsN];(have D:=X.ext I))|(refine Zc rfl 25 (.tmp 2) (.tmp 7) rfl (w.heap.size+1) _ rfl rfl _ _ D ZD rfl YL ?_))
  ((try simp only[Exit.inBlock,Exit.then]);refine Zn (Zr rfl _ _ _ _ _ _ _ rfl (Zp _ _ _ _ _ _ D) underlying25 rfl ZD) rfl ?_);exact ⟨_,rfl,⟨.mk yk ys yn (.slice YA ho yc) yl (.slice YB hp yd) V yt ya,rfl,hj,RdN.grown (Yv _ _ _) _ hd (F _ (by omega) (hh.out _ (by omega))),λr hr hl=>F r (by omega) hl⟩,(K.trans I).setRow (by omega) _⟩
section
variable {c fin:Nat} {s:List UInt8}
def TreeRet (w:Wq) (v:Value):Option Nd->Prop
 |some m=>∃mc:Nc,v= .tuple #[.agg (cellsN mc).toArray,nI 1]/\mc.nd=m/\RdN w mc
 |none=>v= .tuple #[.agg (cellsN (Nc.mk 0 [] [] sN [] sN [] [] 0)).toArray,nI 0]
theorem KP {x:Nat}:∀(f:Nat) (found:Option Nd) (l:List Tok),docGo fin f found l= .error (x,c)->c≠0
 |0,found,l,h=>by rw[docGo] at h;injection h with h;injection h with _ h;omega
 |f+1,found,[],h=>by
  rw[J8] at h
  cases found with
  |none=>injection h with h;injection h with _ h;omega
  |some y=>cases h
 |f+1,found,t::r,h=>by
  rw[JG] at h
  split at h
  ·injection h with h;injection h with _ h;omega
  ·split at h
   ·injection h with h;injection h with _ h;omega
   ·split at h
    ·split at h
     ·injection h with h;injection h with _ h;omega
     ·exact KP f found r h
    ·split at h
     ·rename_i y A
      obtain ⟨y1,y2⟩:=y
      have:=GO A
      injection h with h;injection h with _ h;omega
     ·exact KP f _ _ h
theorem ZiG {x:Nat} (h:docP s= .error (x,c)):c≠0:=by
 rw[Kc] at h;split at h
 ·rename_i y A;obtain ⟨y1,y2⟩:=y;have:=Zb0 A;injection h with h;injection h with _ h;omega
 ·exact KP _ _ _ h
theorem ZdT (s:ByteArray) (w:Wq) (hs:s.size<=maxLen):
 Calls prog 10 #[.string s] w λe w'=>∃v,e= .returned v/\TreeRet w' v (treeP s.data.toList)/\Ext w w':=by
 have hz:=ZL s;obtain ⟨T,H⟩:∃T,treeP s.data.toList=T:=⟨_,rfl⟩;rw[H];unfold treeP at H;rw[hz] at H;obtain ⟨W0,ho⟩:∃W0,w.alloc (.cells #[nI 0,eS,eS,sN,sN,eS,nI 0] 25)=W0:=⟨_,rfl⟩;have hk:Ext w W0:=by rw[<-ho];exact (Ext.refl w).alloc _
 have X:BxN W0 w.heap.size 0 [] [] sN sN [] 0:=by rw[<-ho];exact Zf w _
 have hD:w.heap.size<W0.heap.size:=by rw[<-ho,Zt];omega
 by_cases h5:5000<s.size
 ·rw[Zl h5] at H;subst H;have hb:(5000:Int)<(s.size:Int):=by omega
  clear h5;go_enter func10,ntmps10
  go_wp2_with (first|(refine Zc rfl 25 (.tmp 2) (.tmp 13) rfl w.heap.size #[nI 0,eS,eS,sN,sN,eS,nI 0] rfl rfl _ _ X ZD rfl Uj ?_))
  ((try simp only[Exit.inBlock,Exit.then]);refine Zn (Yb rfl _ _ _ _ _ _ _ rfl (Zp _ _ _ _ _ _ X) underlying25 rfl ZD) rfl ?_);exact ⟨_,rfl,rfl,hk.setRow (Zb _) _⟩
 ·rw[Zg h5] at H;have hb:¬(5000:Int)<(s.size:Int):=by omega
  have M:=λw'=>ZcJ s w' (by omega);cases hp:docP s.data.toList with
  |error yc=>
   obtain ⟨y,c⟩:=yc;have ht:=ZiG hp;have hG:((c:Int) !=0)=true:=(by rw[YU];omega);rw[hp] at H M;dsimp only at H;subst H;have HP:=gd M;clear M hp ht h5;go_enter func10,ntmps10
   go_wp2_with (first|(go_at_call 26;(with_reducible refine Za (HP.out _) ?_);rintro e w2 ⟨v2,rfl,⟨mc,rfl,h⟩,R⟩;(obtain ⟨mk,ms,mn,hE,ml,hF,hh,mt,ma⟩:=mc);(obtain ⟨⟨MA,J,I,A⟩,⟨MB,K,md,D⟩⟩:=h);(simp only[Nc.al,Nc.ks] at A D);subst A;subst D;simp only[cellsN];(have F:=R.alloc (.cells #[nI (mk:Nat),.string (str ms),.string (str mn),.slice MA J I,.slice MB K md,.string (str mt),nI (ma:Nat)] 25));(have Q:=X.ext F))|(refine Zc rfl 25 (.tmp 2) (.tmp 22) rfl w.heap.size #[nI 0,eS,eS,sN,sN,eS,nI 0] rfl rfl _ _ Q ZD rfl Uj ?_))
   ((try simp only[Exit.inBlock,Exit.then]);refine Zn (Yb rfl _ _ _ _ _ _ _ rfl (Zp _ _ _ _ _ _ Q) underlying25 rfl ZD) rfl ?_);exact ⟨_,rfl,rfl,(hk.trans F).setRow (Zb _) _⟩
  |ok n=>
   have Z:=(Zbo hp).1;have hA:=Zkb hp;rw[hz] at Z;rw[hp] at H M;dsimp only at H;have HP:=gd M;obtain ⟨RR,hj⟩:∃RR,resP n []=RR:=⟨_,rfl⟩;rw[hj] at H;have hy:Hid (∀(x:Nc) (w':Wq),x.nd=n->RdN w' x->Calls prog 27 #[.agg (cellsN x).toArray] w' λe w2=>∃v,e= .returned v/\ResRet x w'.heap.size w2 v RR/\Ext w' w2):=λx w' hx hr=>(by subst hx;rw[<-hj];exact Zau s.size (by omega) x w' hr Z hA);have hn:=gd (λy c (e:RR= .error (y,c))=>Zav (c:=c) (x:=y) n [] (hj.trans e));clear M hp Z hA hj h5;cases RR with
   |error yc=>
    obtain ⟨y,c⟩:=yc;dsimp only at H;subst H;have ht:=hn.out y c rfl;have hG:((c:Int) !=0)=true:=(by rw[YU];omega);clear hn ht;go_enter func10,ntmps10
    go_wp2_with (first|(go_at_call 26;(with_reducible refine Za (HP.out _) ?_);rintro e w2 ⟨v2,rfl,⟨mc,rfl,hu,hc,ha⟩,R⟩;(have hl:=ha w.heap.size hD);(have h:=RdN.sl hc);(obtain ⟨mk,ms,mn,hE,ml,hF,hh,mt,ma⟩:=mc);(obtain ⟨⟨MA,J,I,A⟩,⟨MB,K,md,D⟩⟩:=h);(simp only[Nc.al,Nc.ks] at A D);subst A;subst D;simp only[cellsN];(have F:=R.alloc (.cells #[nI (mk:Nat),.string (str ms),.string (str mn),.slice MA J I,.slice MB K md,.string (str mt),nI (ma:Nat)] 25));(have Q:=X.ext F);(have hd:=RdN.ext ((Ext.refl w2).alloc (.cells #[nI (mk:Nat),.string (str ms),.string (str mn),.slice MA J I,.slice MB K md,.string (str mt),nI (ma:Nat)] 25)) _ hc))|(go_at_call 27;(have hq:=hy.out _ _ hu hd);simp only[cellsN] at hq;(with_reducible refine Za hq ?_);clear hq;rintro e4 w4 ⟨v4,rfl,hv,he⟩;(obtain ⟨zc,rfl,h⟩:=hv.err);(obtain ⟨zk,zs,zn,hH,zl,hI,hi,zt,za⟩:=zc);(obtain ⟨⟨ZA,U,S,hf⟩,⟨ZB,V,zd,hg⟩⟩:=h);(simp only[Nc.al,Nc.ks] at hf hg);subst hf;subst hg;simp only[cellsN];(have hw:=(hk.trans (F.trans he)).alloc (.cells #[nI (zk:Nat),.string (str zs),.string (str zn),.slice ZA U S,.slice ZB V zd,.string (str zt),nI (za:Nat)] 25));(have Y:=(Q.ext he).ext ((Ext.refl w4).alloc (.cells #[nI (zk:Nat),.string (str zs),.string (str zn),.slice ZA U S,.slice ZB V zd,.string (str zt),nI (za:Nat)] 25))))|(refine Zc rfl 25 (.tmp 2) (.tmp 31) rfl w.heap.size #[nI 0,eS,eS,sN,sN,eS,nI 0] rfl rfl _ _ Y ZD rfl Uj ?_))
    ((try simp only[Exit.inBlock,Exit.then]);refine Zn (Yb rfl _ _ _ _ _ _ _ rfl (Zp _ _ _ _ _ _ Y) underlying25 rfl ZD) rfl ?_);exact ⟨_,rfl,rfl,hw.setRow (Zb _) _⟩
   |ok m9=>
    dsimp only at H;subst H;clear hn;go_enter func10,ntmps10
    go_wp2_with (first|(go_at_call 26;(with_reducible refine Za (HP.out _) ?_);rintro e w2 ⟨v2,rfl,⟨mc,rfl,hu,hc,ha⟩,R⟩;(have hl:=ha w.heap.size hD);(have h:=RdN.sl hc);(obtain ⟨mk,ms,mn,hE,ml,hF,hh,mt,ma⟩:=mc);(obtain ⟨⟨MA,J,I,A⟩,⟨MB,K,md,D⟩⟩:=h);(simp only[Nc.al,Nc.ks] at A D);subst A;subst D;simp only[cellsN];(have F:=R.alloc (.cells #[nI (mk:Nat),.string (str ms),.string (str mn),.slice MA J I,.slice MB K md,.string (str mt),nI (ma:Nat)] 25));(have Q:=X.ext F);(have hd:=RdN.ext ((Ext.refl w2).alloc (.cells #[nI (mk:Nat),.string (str ms),.string (str mn),.slice MA J I,.slice MB K md,.string (str mt),nI (ma:Nat)] 25)) _ hc))|(go_at_call 27;(have hq:=hy.out _ _ hu hd);simp only[cellsN] at hq;(with_reducible refine Za hq ?_);clear hq;rintro e4 w4 ⟨v4,rfl,hv,he⟩;(obtain ⟨zc,rfl,hC,hm,hB⟩:=hv.ok);(have h:=RdN.sl hm);(obtain ⟨zk,zs,zn,hH,zl,hI,hi,zt,za⟩:=zc);(obtain ⟨⟨ZA,U,S,hf⟩,⟨ZB,V,zd,hg⟩⟩:=h);(simp only[Nc.al,Nc.ks] at hf hg);subst hf;subst hg;simp only[cellsN];(have hw:=(hk.trans (F.trans he)).alloc (.cells #[nI (zk:Nat),.string (str zs),.string (str zn),.slice ZA U S,.slice ZB V zd,.string (str zt),nI (za:Nat)] 25));(have Y:=(Q.ext he).ext ((Ext.refl w4).alloc (.cells #[nI (zk:Nat),.string (str zs),.string (str zn),.slice ZA U S,.slice ZB V zd,.string (str zt),nI (za:Nat)] 25))))|(refine Zc rfl 25 (.tmp 2) (.tmp 32) rfl w.heap.size _ rfl rfl _ _ Y ZD rfl YL ?_))
    ((try simp only[Exit.inBlock,Exit.then]);refine Zn (Yb rfl _ _ _ _ _ _ _ rfl (Zp _ _ _ _ _ _ Y) underlying25 rfl ZD) rfl ?_);have hws:w.heap.size<w2.heap.size:=(by have:=R.size;omega);exact ⟨_,rfl,⟨Nc.mk zk zs zn (.slice ZA U S) zl (.slice ZB V zd) hi zt za,rfl,hC,RdN.grown (Yv _ _ _) _ (RdN.ext ((Ext.refl w4).alloc _) _ hm) (hB _ (by rw[Zt];omega) hl)⟩,hw.setRow (Zb _) _⟩
end
section
variable {B g q:Nat} {b w:World} {r:Option Nat}
theorem Keep.toExt {a c:Wq} (h:Ext a b) (k:Keep b c g r) (H:a.heap.size<=g) (A:∀q,r=some q->a.heap.size<=q):Ext a c:=by
 obtain ⟨w1,D,F⟩:=k.split;exact Ext.grown' (B:=0) (Ext.grown' (B:=0) h D (λq e=>by injection e with e;omega)) F A
theorem Ze4 {y:Fc} (h:WcF w B y) (D:q<B):awayC y (some q):=by
 refine ⟨?_,?_⟩
 ·cases hp:y.f.path with
  |nil=>exact Or.inl rfl
  |cons x t=>obtain ⟨ad,n,c,u,e,A, -, -⟩:=h.1 0 (by rw[hp];simp);right;rw[e];intro e2;have e3:ad.block=q:=(by injection e2);omega
 ·cases hp:y.f.ents with
  |nil=>exact Or.inl rfl
  |cons x t=>obtain ⟨ad,n,c,u,e,A, -, -⟩:=h.2 0 (by rw[hp];simp);right;rw[e];intro e2;have e3:ad.block=q:=(by injection e2);omega
theorem Zff (x:Nc) (w:Wq) (hE:Env w) (hr:RdN w x) (hf:x.nd.fits 5000) (hc:x.nd.cnt<=5000) (gf:∀l,opmlP x.nd= .ok l->l.length<=1\/LatF):
 Calls prog 12 #[.agg (cellsN x).toArray] w λe w'=>∃v,e= .returned v/\DecRet w' v (opmlP x.nd)/\Ext w w':=by
 obtain ⟨k,s,n,al,l0,ks,kids,t,a⟩:=x;have gJ:=hr;rw[RdN] at hr;obtain ⟨gh,gH,gG⟩:=hr;have h6:=(Xm kids).1 gG;have he:=hf;have h5:=hc;rw[Nc.nd,Nd.fits] at he;rw[Nc.nd,Nd.cnt] at h5;have g7:kids.length<=5000:=by have:=he.2.2.2.2.2.1;rwa [Jh] at this
 have fa:l0.length<=5000:=he.2.2.2.1;have g6:k<=1:=he.1;have gE:=he.2.2.2.2.2.2.2.2;obtain ⟨A,c,g0, -, -⟩:=gh.form;obtain ⟨B,d,g8, -, -⟩:=RNs.form gH;subst g0;subst g8;obtain ⟨W0,hV⟩:∃W0,(w.alloc (.cells #[nI (k:Nat),.string (str s),.string (str n),.slice A l0.length c,.slice B kids.length d,.string (str t),nI (a:Nat)] 25)).alloc (.cells #[sN] 31)=W0:=⟨_,rfl⟩;have hY:Ext w W0:=by rw[<-hV];exact ((Ext.refl w).alloc _).alloc _
 have gB:BxN W0 w.heap.size k s n (.slice A l0.length c) (.slice B kids.length d) t a:=by rw[<-hV];exact BxN.ext (Zf w _) ((Ext.refl _).alloc _)
 have gP:W0.heap[w.heap.size+1]? =some (.cells #[sN] 31):=by rw[<-hV];exact YD w _ _
 have gK:w.heap.size+2<=W0.heap.size:=by rw[<-hV,Zt,Zt];exact Zb _
 obtain ⟨b0,b1,b2,b3,b4,b5,b6⟩:=gB.cells;have hn:=gd hY;have h7:=gd gB;have hF:=gd gP;have gV:=gd gK;have gU:=gd (RdN.ext hY _ gJ);have gS:=gd (RAts.ext gh hY);have hl:=gd (λw' (v:Value) (hx:Ext W0 w') (hv:RSl w' 1 v 1 (strsV [versionL]))=>KJ (.mk k s n (.slice A l0.length c) l0 (.slice B kids.length d) kids t a) v [versionL] w' (gS.out.ext hx) ⟨_,_,_,rfl⟩ (by show l0.length<=_;omega) hv (by decide));have hQ:=gd (λw' (hx:Ext W0 w')=>G9 (.mk k s n (.slice A l0.length c) l0 (.slice B kids.length d) kids t a) [] bodyL w' (RdN.ext hx _ gU.out) (by show kids.length<=_;omega));have gb:Hid (∀W:Wq,RSl (W.alloc (.cells #[.string ⟨#[118,101,114,115,105,111,110]⟩] 9)) 1 (.slice (some ⟨W.heap.size,0,none⟩) 1 1) 1 (strsV [versionL])):=gd (λW=>Yp (cs:=strsV [versionL]) rfl (by decide));rw[Qr,<-G3] at hl;simp only[cellsN,Nc.kids,Nc.attrs,U3,Zik] at hl hQ|-;have gp:(Nc.mk k s n (.slice A l0.length c) l0 (.slice B kids.length d) kids t a).nd= .mk k s n l0 (Nc.nds kids) t a:=by rw[Nc.nd]
 rw[gp];simp only[gp] at gf;have hH:Hid (attrL (Nd.mk k s n l0 (Nc.nds kids) t a) versionL=attrN l0 [] versionL):=gd rfl;have h8:=gd (λe=>ZhQ (n:=Nd.mk k s n l0 (Nc.nds kids) t a) e);have h9:=gd (λh1 h2 h3 h4=>ZhR (n:=Nd.mk k s n l0 (Nc.nds kids) t a) h1 h2 h3 h4);obtain ⟨XV,gA⟩:∃XV,attrN l0 [] versionL=XV:=⟨_,rfl⟩;rw[gA] at hH hl;clear hY gP gK gJ gh gH gG he h5 gA gp;obtain ⟨VS,hj⟩:∃VS,XV.getD []=VS:=⟨_,rfl⟩;rw[hj] at hl;have S:=(Ext.refl W0).alloc (.cells #[.string ⟨#[118,101,114,115,105,111,110]⟩] 9);by_cases J:k≠0\/s≠ []\/n≠opmlL\/attrL (Nd.mk k s n l0 (Nc.nds kids) t a) versionL≠some twoL
 ·have hR:=h8.out J;obtain ⟨RR,gy⟩:∃RR,opmlP (Nd.mk k s n l0 (Nc.nds kids) t a)=RR:=⟨_,rfl⟩;rw[gy] at hR|-;subst hR;have hI:Hid (attrL (Nd.mk k s n l0 (Nc.nds kids) t a) versionL=XV):=hH;clear hH h8 h9 gy;by_cases hk:k=0
  ·by_cases hp:s= []
   ·by_cases hO:n=opmlL
    ·have gL:VS≠twoL:=λe=>by
      rcases J with h|h|h|h
      ·exact h hk
      ·exact h hp
      ·exact h hO
      ·rw[hI.out] at h;cases XV with
       |none=>rw[<-hj] at e;cases e
       |some v=>exact h (by rw[<-hj] at e;exact Zy some e)
     clear J;have q1:((k:Int) !=0)=false:=(by rw[hk];rfl);have q2:(str s).toList.isEmpty=true:=(by rw[hp];exact Un);have q3:((str n).toList== [111,112,109,108])=true:=Qb hO;have q4:((str VS).toList== [50,46,48])=false:=JC gL;clear hk hp hO hj hI gL;go_enter func12,ntmps12
     go_wp2_with (first|(go_at_call 28;(with_reducible refine Za (hl.out _ _ S (gb.out _)) ?_);rintro e W1 ⟨rfl,hs⟩;obtain ⟨d0,d1,d2,d3,d4,d5,d6⟩:=(h7.out.ext (S.trans hs)).cells))
     have hb:=hn.out.trans (S.trans hs);have hu:=(S.trans hs).heap hF.out;have I:=(Ext.refl W1).drew;have D:W1.drew.cell? ⟨w.heap.size,6,none⟩=some (nI (a:Nat)):=I.cell d6;have Q:W1.drew.heap[w.heap.size+1]? =some (.cells #[sN] 31):=I.heap hu;have H:=(ZV (a:=⟨w.heap.size,6,none⟩) (Z1 W1.drew (w.heap.size+1) w.heap.size #[sN] (by omega))).trans D;refine rN ?_;change wpAny _ _ _ _ _ _ _ (World.drew _);refine Yi (λw'=>w'.cell? ⟨w.heap.size,6,none⟩=some (nI (a:Nat))) ?_;refine tG 0 (.agg #[sN]) D ?_;refine tG 1 (.pointer (some ⟨w.heap.size,6,none⟩)) D ?_;refine tS 2 (nI (a:Nat)) rfl (λw' hS=>by have hq:w'.cell? ⟨w.heap.size,6,none⟩=some (nI (a:Nat)):=hS;go_simp) D ?_;go_simp;refine sS 3 λK hK=> ?_;refine Yj rfl 31 (.tmp 2) (.tmp 31) rfl (w.heap.size+1) #[sN] rfl rfl _ _ Q Xa rfl Uw ?_;refine hK _ _ H ?_;clear hK K;refine sS 4 λK hK=> ?_;go_simp;refine hK _ _ H ?_;clear hK K;refine sS 5 λK hK=> ?_;go_simp;refine hK _ _ H ?_;clear hK K;refine sE ?_;go_wp2;((try simp only[Exit.inBlock,Exit.then]);refine Zn (Zr rfl _ _ _ _ _ _ _ rfl (Zp _ _ _ _ _ _ Q) underlying31 rfl Xa) rfl ?_);exact ⟨_,rfl,rfl,(hb.trans I).setRow (Yc _) _⟩
    ·clear J;have q1:((k:Int) !=0)=false:=(by rw[hk];rfl);have q2:(str s).toList.isEmpty=true:=(by rw[hp];exact Un);have q3:((str n).toList== [111,112,109,108])=false:=JC hO;clear hk hp hO hj hI;have hb:=hn.out;have hu:=hF.out;go_enter func12,ntmps12;go_wp2;have I:=(Ext.refl W0).drew;have D:W0.drew.cell? ⟨w.heap.size,6,none⟩=some (nI (a:Nat)):=I.cell b6;have Q:W0.drew.heap[w.heap.size+1]? =some (.cells #[sN] 31):=I.heap hu;have H:=(ZV (a:=⟨w.heap.size,6,none⟩) (Z1 W0.drew (w.heap.size+1) w.heap.size #[sN] (by omega))).trans D;refine rN ?_;change wpAny _ _ _ _ _ _ _ (World.drew _);refine Yi (λw'=>w'.cell? ⟨w.heap.size,6,none⟩=some (nI (a:Nat))) ?_;refine tG 0 (.agg #[sN]) D ?_;refine tG 1 (.pointer (some ⟨w.heap.size,6,none⟩)) D ?_;refine tS 2 (nI (a:Nat)) rfl (λw' hS=>by have hq:w'.cell? ⟨w.heap.size,6,none⟩=some (nI (a:Nat)):=hS;go_simp) D ?_;go_simp;refine sS 3 λK hK=> ?_;refine Yj rfl 31 (.tmp 2) (.tmp 31) rfl (w.heap.size+1) #[sN] rfl rfl _ _ Q Xa rfl Uw ?_;refine hK _ _ H ?_;clear hK K;refine sS 4 λK hK=> ?_;go_simp;refine hK _ _ H ?_;clear hK K;refine sS 5 λK hK=> ?_;go_simp;refine hK _ _ H ?_;clear hK K;refine sE ?_;go_wp2;((try simp only[Exit.inBlock,Exit.then]);refine Zn (Zr rfl _ _ _ _ _ _ _ rfl (Zp _ _ _ _ _ _ Q) underlying31 rfl Xa) rfl ?_);exact ⟨_,rfl,rfl,(hb.trans I).setRow (Yc _) _⟩
   ·clear J;have q1:((k:Int) !=0)=false:=(by rw[hk];rfl);have q2:(str s).toList.isEmpty=false:=Vp hp;clear hk hp hj hI;have hb:=hn.out;have hu:=hF.out;go_enter func12,ntmps12;go_wp2;have I:=(Ext.refl W0).drew;have D:W0.drew.cell? ⟨w.heap.size,6,none⟩=some (nI (a:Nat)):=I.cell b6;have Q:W0.drew.heap[w.heap.size+1]? =some (.cells #[sN] 31):=I.heap hu;have H:=(ZV (a:=⟨w.heap.size,6,none⟩) (Z1 W0.drew (w.heap.size+1) w.heap.size #[sN] (by omega))).trans D;refine rN ?_;change wpAny _ _ _ _ _ _ _ (World.drew _);refine Yi (λw'=>w'.cell? ⟨w.heap.size,6,none⟩=some (nI (a:Nat))) ?_;refine tG 0 (.agg #[sN]) D ?_;refine tG 1 (.pointer (some ⟨w.heap.size,6,none⟩)) D ?_;refine tS 2 (nI (a:Nat)) rfl (λw' hS=>by have hq:w'.cell? ⟨w.heap.size,6,none⟩=some (nI (a:Nat)):=hS;go_simp) D ?_;go_simp;refine sS 3 λK hK=> ?_;refine Yj rfl 31 (.tmp 2) (.tmp 31) rfl (w.heap.size+1) #[sN] rfl rfl _ _ Q Xa rfl Uw ?_;refine hK _ _ H ?_;clear hK K;refine sS 4 λK hK=> ?_;go_simp;refine hK _ _ H ?_;clear hK K;refine sS 5 λK hK=> ?_;go_simp;refine hK _ _ H ?_;clear hK K;refine sE ?_;go_wp2;((try simp only[Exit.inBlock,Exit.then]);refine Zn (Zr rfl _ _ _ _ _ _ _ rfl (Zp _ _ _ _ _ _ Q) underlying31 rfl Xa) rfl ?_);exact ⟨_,rfl,rfl,(hb.trans I).setRow (Yc _) _⟩
  ·clear J;have q1:((k:Int) !=0)=true:=(by rw[YU];omega);clear hk hj hI;have hb:=hn.out;have hu:=hF.out;go_enter func12,ntmps12;go_wp2;have I:=(Ext.refl W0).drew;have D:W0.drew.cell? ⟨w.heap.size,6,none⟩=some (nI (a:Nat)):=I.cell b6;have Q:W0.drew.heap[w.heap.size+1]? =some (.cells #[sN] 31):=I.heap hu;have H:=(ZV (a:=⟨w.heap.size,6,none⟩) (Z1 W0.drew (w.heap.size+1) w.heap.size #[sN] (by omega))).trans D;refine rN ?_;change wpAny _ _ _ _ _ _ _ (World.drew _);refine Yi (λw'=>w'.cell? ⟨w.heap.size,6,none⟩=some (nI (a:Nat))) ?_;refine tG 0 (.agg #[sN]) D ?_;refine tG 1 (.pointer (some ⟨w.heap.size,6,none⟩)) D ?_;refine tS 2 (nI (a:Nat)) rfl (λw' hS=>by have hq:w'.cell? ⟨w.heap.size,6,none⟩=some (nI (a:Nat)):=hS;go_simp) D ?_;go_simp;refine sS 3 λK hK=> ?_;refine Yj rfl 31 (.tmp 2) (.tmp 31) rfl (w.heap.size+1) #[sN] rfl rfl _ _ Q Xa rfl Uw ?_;refine hK _ _ H ?_;clear hK K;refine sS 4 λK hK=> ?_;go_simp;refine hK _ _ H ?_;clear hK K;refine sS 5 λK hK=> ?_;go_simp;refine hK _ _ H ?_;clear hK K;refine sE ?_;go_wp2;((try simp only[Exit.inBlock,Exit.then]);refine Zn (Zr rfl _ _ _ _ _ _ _ rfl (Zp _ _ _ _ _ _ Q) underlying31 rfl Xa) rfl ?_);exact ⟨_,rfl,rfl,(hb.trans I).setRow (Yc _) _⟩
 ·skip
  have gj:k=0:=Ziu λe=>J (Or.inl e);have gk:s= []:=Ziu λe=>J (Or.inr (Or.inl e));have gl:n=opmlL:=Ziu λe=>J (Or.inr (Or.inr (Or.inl e)));have gm:attrL (Nd.mk k s n l0 (Nc.nds kids) t a) versionL=some twoL:=Ziu λe=>J (Or.inr (Or.inr (Or.inr e)));have hM:=h9.out gj gk gl gm;have fh:XV=some twoL:=by rw[<-hH.out];exact gm
  subst fh;have ff:VS=twoL:=hj.symm;subst ff;have q1:((k:Int) !=0)=false:=by rw[gj];rfl
  have q2:(str s).toList.isEmpty=true:=by rw[gk];exact Un
  have q3:((str n).toList== [111,112,109,108])=true:=Qb gl;have q4:((str twoL).toList== [50,46,48])=true:=Qb rfl;rw[show (Nd.mk k s n l0 (Nc.nds kids) t a).kids=Nc.nds kids from rfl,show (Nd.mk k s n l0 (Nc.nds kids) t a).at_=a from rfl,Zds,<-VX] at hM;obtain ⟨L,hL⟩:∃L,kids.filter (isKid [] bodyL)=L:=⟨_,rfl⟩;rw[hL] at hM hQ;rw[hM];have hT:=λl h=>gf l (hM.trans h);clear gf;have gr:Hid (∀y∈L,RdN W0 y/\y.nd.fits 5000/\y.nd.cnt<=5000):=gd (λy hy=>by
   rw[<-hL,Xb] at hy;have hm:y.nd∈Nc.nds kids:=(by rw[XX];exact Z9 hy.1);refine ⟨RdN.ext hn.out _ (h6 y hy.1),(Nds.fits_iff _).1 gE _ hm,?_⟩;have:=Zcd hm;rw[Nc.nd,Nd.cnt] at hc;omega)
  clear J gj gk gl gm hH h8 h9 h6 hL hM hf hc gE g7 fa g6 hj;cases L with
  |nil=>
   rw[Nc.nds];dsimp only[List.head?];go_enter func12,ntmps12
   go_wp2_with (first|(go_at_call 28;(with_reducible refine Za (hl.out _ _ S (gb.out _)) ?_);rintro e W1 ⟨rfl,hs⟩;(have X:=S.trans hs);obtain ⟨d0,d1,d2,d3,d4,d5,d6⟩:=(h7.out.ext X).cells)|(go_at_call 29;(with_reducible refine Za (hQ.out _ X) ?_);rintro e M ⟨kv,rfl,go,hP⟩;(obtain ⟨U,uc,hB⟩:=Z8 go);subst hB;have e6:=hP.cell d6))
   have hi:=(hn.out.trans X).trans hP;have fi:=(X.trans hP).heap hF.out;have I:=(Ext.refl M).drew;have D:M.drew.cell? ⟨w.heap.size,6,none⟩=some (nI (a:Nat)):=I.cell e6;have Q:M.drew.heap[w.heap.size+1]? =some (.cells #[sN] 31):=I.heap fi;have H:=(ZV (a:=⟨w.heap.size,6,none⟩) (Z1 M.drew (w.heap.size+1) w.heap.size #[sN] (by omega))).trans D;refine rN ?_;change wpAny _ _ _ _ _ _ _ (World.drew _);refine Yi (λw'=>w'.cell? ⟨w.heap.size,6,none⟩=some (nI (a:Nat))) ?_;refine tG 0 (.agg #[sN]) D ?_;refine tG 1 (.pointer (some ⟨w.heap.size,6,none⟩)) D ?_;refine tS 2 (nI (a:Nat)) rfl (λw' hS=>by have hq:w'.cell? ⟨w.heap.size,6,none⟩=some (nI (a:Nat)):=hS;go_simp) D ?_;go_simp;refine sS 3 λK hK=> ?_;refine Yj rfl 31 (.tmp 2) (.tmp 39) rfl (w.heap.size+1) #[sN] rfl rfl _ _ Q Xa rfl Uw ?_;refine hK _ _ H ?_;clear hK K;refine sS 4 λK hK=> ?_;go_simp;refine hK _ _ H ?_;clear hK K;refine sS 5 λK hK=> ?_;go_simp;refine hK _ _ H ?_;clear hK K;refine sE ?_;go_wp2;((try simp only[Exit.inBlock,Exit.then]);refine Zn (Zr rfl _ _ _ _ _ _ _ rfl (Zp _ _ _ _ _ _ Q) underlying31 rfl Xa) rfl ?_);exact ⟨_,rfl,rfl,(hi.trans I).setRow (Yc _) _⟩
  |cons b L=>
   rw[Nc.nds];dsimp only[List.head?];obtain ⟨hJ,gi,gC⟩:=gr.out b ZS;have gu:=gd (λ(w':Wq) (fb vb:Nat) (hr:RdN w' b) (h1:VisS w' fb vb sN []) (h2:awayN (some fb) b) (h3:awayN none b)=>Zin 5000 (Zb _) b.nd.ht b sN [] w' fb vb sN [] (Zb _) gi (by rw[ZT];omega) hr (RSl.nil _ 1) (Zh _) h1 h2 h3 (Or.inl rfl) (Or.inl rfl));have g1:=RdN.sl hJ;have g9:(0:Int)<((b::L).length:Int):=(by rw[Ze];omega);obtain ⟨bn,gD⟩:∃m,(b::L).length=m:=⟨_,rfl⟩;rw[gD] at g9;have fj:¬bn=0:=(by omega);have fm:((bn:Int)==0)=false:=(by rw[ZC];omega);have hN:=λl hv=>ZeN (b:=b.nd) (l:=l) hv gi gC;have ga:=gd hN;rw[Nc.nds] at hT;dsimp only[List.head?] at hT;have gs:=gd hT;clear hT;have gc:=gd (λy c (h:visP b.nd []= .error (y,c))=>KF b.nd _ h);obtain ⟨RV,gz⟩:∃RV,visP b.nd []=RV:=⟨_,rfl⟩;rw[gz] at gu ga gc gs|-;clear hN gi gC gr gz;go_enter func12,ntmps12
   go_wp2_with (first|(go_at_call 28;(with_reducible refine Za (hl.out _ _ S (gb.out _)) ?_);rintro e W1 ⟨rfl,hs⟩;(have X:=S.trans hs);obtain ⟨d0,d1,d2,d3,d4,d5,d6⟩:=(h7.out.ext X).cells)|(go_at_call 29;(with_reducible refine Za (hQ.out _ X) ?_);rintro e M ⟨kv,rfl,go,hP⟩;(obtain ⟨ad,c9,hB,hW⟩:=RNs.at (RSl.of_own go) (k:=0) (by rw[Ze];exact ZeX _));rw[gD] at hB;subst hB;(rw[Xf,add_zero,JB] at hW);(obtain ⟨yk,ys,yn,fo,yl,fp,V,yt,ya⟩:=b);(obtain ⟨⟨YA,ym,yc,gN⟩,⟨YB,hw,yd,gO⟩⟩:=g1);(simp only[Nc.al,Nc.ks] at gN gO);subst gN;subst gO;(have hi:=X.trans hP);(have g4:((M.alloc (.cells #[sN] 29)).alloc (.cells #[.nilFunc] 63)).cell? ⟨M.heap.size+1,0,none⟩=some .nilFunc:=by rw[Jp (YD M _ _)];rfl);(have g3:((M.alloc (.cells #[sN] 29)).alloc (.cells #[.nilFunc] 63)).frozen? ⟨M.heap.size+1,0,none⟩=false:=YH (YD M _ _) 0);(obtain ⟨WB,gg⟩:∃WB,((M.alloc (.cells #[sN] 29)).alloc (.cells #[.nilFunc] 63))=WB:=⟨_,rfl⟩);(rw[gg] at g4 g3)))
   have hU:VisS (WB.setCell ⟨M.heap.size+1,0,none⟩ (.func (.func 30) #[] #[.pointer (some ⟨M.heap.size,0,none⟩),.pointer (some ⟨M.heap.size+1,0,none⟩)])) M.heap.size (M.heap.size+1) sN []:=by
    rw[<-gg];refine ⟨?_,?_,HFs.nil _ _,YW _,(by intro x hx;cases hx)⟩
    ·exact (ZY _ ⟨M.heap.size+1,0,none⟩ M.heap.size _ (by show M.heap.size≠M.heap.size+1;omega)).trans ((JP _ _ (by rw[Zt];omega)).trans (Zf M _))
    ·exact block_setCell (YD M _ _) _
   have hC:Ext M (WB.setCell ⟨M.heap.size+1,0,none⟩ (.func (.func 30) #[] #[.pointer (some ⟨M.heap.size,0,none⟩),.pointer (some ⟨M.heap.size+1,0,none⟩)])):=(by rw[<-gg];exact (((Ext.refl M).alloc _).alloc _).setCell (Yc _) _);obtain ⟨W3,gZ⟩:∃W3,WB.setCell ⟨M.heap.size+1,0,none⟩ (.func (.func 30) #[] #[.pointer (some ⟨M.heap.size,0,none⟩),.pointer (some ⟨M.heap.size+1,0,none⟩)])=W3:=⟨_,rfl⟩;rw[gZ] at hU hC|-;obtain ⟨F,hA⟩:∃q,M.heap.size=q:=⟨_,rfl⟩;have gT:Hid (W0.heap.size<=F):=gd (by rw[<-hA];exact hi.size);have gt:=gd hU;have gw:=gd (hi.trans hC);have gW:Hid (RdN W3 (.mk yk ys yn (.slice YA ym yc) yl (.slice YB hw yd) V yt ya)):=gd (RdN.ext (hi.trans hC) _ hJ);have gY:Hid (awayN (some F) (.mk yk ys yn (.slice YA ym yc) yl (.slice YB hw yd) V yt ya)):=gd (XW hJ (by rw[<-hA];exact hi.size));have gX:Hid (awayN none (.mk yk ys yn (.slice YA ym yc) yl (.slice YB hw yd) V yt ya)):=gd (GG hJ);obtain ⟨-, -,f2⟩:=hU.cell;have h0:=gd (hW.ext hC);rw[hA] at gt f2|-;have fl:w.heap.size+1<F:=(by have:=gT.out;have:=gV.out;omega);have gq:Hid (ad.block≠F):=gd (by have h1:=ZQ M _ hW.c0;omega);clear hU hJ S hA hW;have hd:=(Ext.refl W3).drew;have D:W3.drew.cell? ⟨F+1,0,none⟩=some (.func (.func 30) #[] #[.pointer (some ⟨F,0,none⟩),.pointer (some ⟨F+1,0,none⟩)])/\AtNc W3.drew ad (.mk yk ys yn (.slice YA ym yc) yl (.slice YB hw yd) V yt ya):=⟨hd.cell f2,h0.out.ext hd⟩;refine rN ?_;change wpAny _ _ _ _ _ _ _ (World.drew _);refine Yi (λw'=>w'.cell? ⟨F+1,0,none⟩=some (.func (.func 30) #[] #[.pointer (some ⟨F,0,none⟩),.pointer (some ⟨F+1,0,none⟩)])/\AtNc w' ad (.mk yk ys yn (.slice YA ym yc) yl (.slice YB hw yd) V yt ya)) ?_;refine tS 0 (.func (.func 30) #[] #[.pointer (some ⟨F,0,none⟩),.pointer (some ⟨F+1,0,none⟩)]) rfl (λw' hS=>by have hq:=hS.1;go_simp) D ?_;refine tG 1 (.slice (some ad) bn c9) D ?_;refine tG 2 (.pointer (some ad)) D ?_;refine tS 3 (.agg #[nI (yk:Nat),.string (str ys),.string (str yn),.slice YA ym yc,.slice YB hw yd,.string (str yt),nI (ya:Nat)]) rfl (λw' hS=>by obtain ⟨q0,q1,q2,q3,q4,q5,q6⟩:=hS.2;simp only[Nc.kind,Nc.space,Nc.name,Nc.al,Nc.ks,Nc.text,Nc.at_] at q0 q1 q2 q3 q4 q5 q6;go_simp) D ?_;go_simp;refine sS 4 λK hK=> ?_;go_simp;go_at_call 30;have hz:=gu.out W3.drew F (F+1) (RdN.ext hd _ gW.out) (gt.out.ext hd) gY.out gX.out;simp only[cellsN] at hz
   with_reducible refine Za hz ?_
   clear hz;rintro e w9 ⟨hh,gn⟩;have Y:Keep W3 w9 F none:=Keep.ext_left hd gn;have hD:Ext w w9:=Keep.toExt (hn.out.trans gw.out) Y (by omega) (by intro q e;cases e);have R:w9.cell? ⟨F+1,0,none⟩=some (.func (.func 30) #[] #[.pointer (some ⟨F,0,none⟩),.pointer (some ⟨F+1,0,none⟩)])/\AtNc w9 ad (.mk yk ys yn (.slice YA ym yc) yl (.slice YB hw yd) V yt ya):=(by refine ⟨Y.cell f2 (by show F+1≠F;omega) (by simp),?_⟩;have Z:ad.block≠F:=gq.out;obtain ⟨q0,q1,q2,q3,q4,q5,q6⟩:=h0.out;exact ⟨Y.cell q0 Z (by simp),Y.cell q1 Z (by simp),Y.cell q2 Z (by simp),Y.cell q3 Z (by simp),Y.cell q4 Z (by simp),Y.cell q5 Z (by simp),Y.cell q6 Z (by simp)⟩);have hZ:w9.heap[w.heap.size+1]? =some (.cells #[sN] 31):=Y.heap (gw.out.heap hF.out) (by omega) (by simp);have gx:=gd hD;cases RV with
   |error yc9=>
    obtain ⟨y9,ge⟩:=yc9;have g2:=gc.out y9 ge rfl;have fk:((ge:Int) !=0)=true:=(by rw[YU];omega);unfold VisRet at hh;dsimp only at hh;subst hh;clear g2 gc;refine hK _ _ R ?_;clear hK K;refine sS 5 λK hK=> ?_;go_simp;refine hK _ _ R ?_;clear hK K;refine tG 6 (nI (y9:Nat)) R ?_;refine tG 7 (nI (ge:Nat)) R ?_;go_simp;refine sS 8 λK hK=> ?_;go_simp;refine hK _ _ R ?_;clear hK K;refine sS 9 λK hK=> ?_;go_simp;refine hK _ _ R ?_;clear hK K;refine sE ?_;clear R gn Y hD hd D f2
    go_wp2_with (first|(refine Zc rfl 31 (.tmp 2) (.tmp 53) rfl (w.heap.size+1) #[sN] rfl rfl _ _ hZ Xa rfl Uw ?_))
    ((try simp only[Exit.inBlock,Exit.then]);refine Zn (Zr rfl _ _ _ _ _ _ _ rfl (Zp _ _ _ _ _ _ hZ) underlying31 rfl Xa) rfl ?_);exact ⟨_,rfl,rfl,gx.out.setRow (Yc _) _⟩
   |ok l9=>
    have hg:=ga.out l9 rfl;unfold VisRet at hh;dsimp only at hh;obtain ⟨g5,u9,O9,ha,ho, -⟩:=hh;subst g5;rw[Yt,Jy] at ho;have gR:=gd (Zb9 u9 O9 w9 (hE.ext hD) ha.hf.row.reads ha.hf.rd (λx hx=>((ZcS ho hg).2.1 x hx).1) (ZcS ho hg).1 (ZcS ho hg).2.2 (Or.inl (by rw[Ez λy hy=>(hg.2 y.f (by rw[<-ho];exact Z9 hy)).ents];decide)) ((gs.out l9 rfl).imp (λh=>by have:=Zy List.length ho;rw[Zk] at this;omega) id));obtain ⟨UA,fn,fd⟩:=Z8 ha.hf.row;subst fd;obtain ⟨e0, -, -⟩:=ha.cell;have fc:w.heap.size+1<w9.heap.size:=(Zx.1 hZ).1;clear ha hg ga;refine hK _ _ R ?_;clear hK K;refine sS 5 λK hK=> ?_;go_simp;refine hK _ _ R ?_;clear hK K;refine tG 6 (nI 0) R ?_;refine tG 7 (nI 0) R ?_;go_simp;refine sS 8 λK hK=> ?_;go_simp;refine hK _ _ R ?_;clear hK K;refine sS 9 λK hK=> ?_;go_simp;refine hK _ _ R ?_;clear hK K;refine sE ?_;clear R gn Y hD hd D f2
    go_wp2_with (first|(go_at_call 34;(with_reducible refine Za gR.out ?_);rintro e W4 ⟨v4,lc,rfl,gI,hX,fg,gM⟩;(obtain ⟨VA,hG,fe⟩:=Z8 hX.row);subst fe;(have gQ:=(gM.alloc (.cells #[.slice VA lc.length hG] 31)).heap hZ))|(refine Zc rfl 31 (.tmp 10) (.tmp 59) rfl W4.heap.size #[.slice VA lc.length hG] rfl rfl _ _ (Zf _ _) Xa rfl Uw ?_;rw[Z4])|(refine Zc rfl 31 (.tmp 2) (.tmp 61) rfl (w.heap.size+1) #[.slice VA lc.length hG] rfl rfl _ _ gQ Xa rfl Uw ?_))
    ((try simp only[Exit.inBlock,Exit.then]);refine Zn (Zr rfl _ _ _ _ _ _ _ rfl (Zp _ _ _ _ _ _ gQ) underlying31 rfl Xa) rfl ?_);have gF:=Yv (W4.alloc (.cells #[.slice VA lc.length hG] 31)) (w.heap.size+1) #[.slice VA lc.length hG];rw[ho] at gI;refine ⟨_,rfl,⟨.slice VA lc.length hG,lc,rfl,gI,RSl.grown (RSl.ext (OFcs.reads hX.row) ((Ext.refl W4).alloc _)) gF (Or.inr λe=>by have:=(hX.row.lt _ e).1;omega),λy hy=>((hX.rd y hy).ext ((Ext.refl W4).alloc _)).grown gF (Ze4 (fg y hy) fc)⟩,((gx.out.trans gM).alloc _).setRow (Yc _) _⟩
end
end Go.Proofs.YtnlafkgkcnenfaaGreatDoor
