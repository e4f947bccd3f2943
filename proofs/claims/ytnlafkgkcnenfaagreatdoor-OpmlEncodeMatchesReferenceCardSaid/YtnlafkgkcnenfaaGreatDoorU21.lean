/- Parts of the proof: contracts and plain laws. -/
import Derived.Test.YtnlafkgkcnenfaaGreatDoorU19
import Derived.Test.YtnlafkgkcnenfaaGreatDoorU20
namespace Go.Proofs.YtnlafkgkcnenfaaGreatDoor
open Go Go.RowKit Go.Joins _root_.Go.Proofs.Tryz
set_option linter.unusedVariables false
set_option linter.unusedSimpArgs false
set_option maxRecDepth 100000
set_option maxHeartbeats 16000000
section
variable {c:Nat} {s:List UInt8}
attribute [local go_sem] calm1
theorem ZcZ {s:List UInt8} {x c:Nat}:∀(n k:Nat) (l:List Tok),s.length - k<n->k<=s.length->toksAt s k l= .error (x,c)->c≠0
 |0,_,_,h,_,_=>by omega
 |n+1,k,l,hn,hk,h=>by
  by_cases A:s.length<=k
  ·rw[Vz A] at h;cases h
  ·cases hc:constructP s k with
   |error y=>
    rw[QU om hc] at h
    injection h with h
    subst h
    exact Gm om hc
   |ok te=>
    obtain ⟨t,e⟩:=te
    have D:=Jj om hc
    rw[J9 om hc] at h
    exact ZcZ n e _ om D.2.1 h
theorem ZeP {x:Nat} (h:toksP s= .error (x,c)):c≠0:=by
 rw[GP] at h;split at h
 ·rename_i hc;injection h with h;rw[h] at hc;exact hc
 ·refine ZcZ _ _ _ (Yy _) ?_ h;split
  ·rename_i D;rcases XT D with A|A
   ·exact A
   ·cases A
  ·exact Zj _
theorem Zhd {t:Tok}:∀{l:List Tok},t∈l->t.text.length<=txts l
 |u::l,h=>by
  rw[JN]
  rcases ZH.1 h with h|h
  ·rw[h];omega
  ·have:=Zhd h
   omega
theorem Ext.but {a b c:Wq} {G:Nat} (h:Ext a b) (D:b.grownBy c (some G)) (F:a.heap.size<=G):Ext a c:=
 Below.grown h D h.size λk A=>by injection A with A;omega
def ParseRet (B n:Nat) (w:Wq) (v:Value):Except PErr Nd->Prop
 | .ok m=>∃mc:Nc,v= .tuple #[.agg (cellsN mc).toArray,nI (n:Nat),nI 0]/\mc.nd=m/\RdN w mc/\∀r,r<B->awayN (some r) mc
 | .error (y,c)=>∃mc:Nc,v= .tuple #[.agg (cellsN mc).toArray,nI (y:Nat),nI (c:Nat)]/\slN mc
theorem ToksRet.err {B n y c:Nat} {w:Wq} {v:Value} (h:ToksRet B w n v (.error (y,c))):v= .tuple #[sN,nI (y:Nat),nI (c:Nat)]:=h
theorem ToksRet.ok {B n:Nat} {w:Wq} {v:Value} {l:List Tok} (h:ToksRet B w n v (.ok l)):∃(u:Value) (lt:List Tc),v= .tuple #[u,nI (n:Nat),nI 0]/\lt.map Tc.t=l/\RSl w 6 u lt.length (flatT lt)/\(∀x∈lt,RdT w x)/\(∀x∈lt,∀g,x.al.ownBlock=some g->B<=g)/\∀g,u.ownBlock=some g->B<=g:=h
theorem I6 (s:ByteArray) (w:Wq) (hs:s.size<=80000000000):
 Calls prog 26 #[.string s] w λe w'=>∃v,e= .returned v/\ParseRet w.heap.size s.size w' v (docP s.data.toList)/\Ext w w':=by
 have hI:=ZN s;obtain ⟨D,hD⟩:∃D,docP s.data.toList=D:=⟨_,rfl⟩;rw[hD];rw[QB] at hD;obtain ⟨W0,hY⟩:∃W0,w.alloc (.cells #[nI 0,eS,eS,sN,sN,eS,nI 0] 25)=W0:=⟨_,rfl⟩;have go:Ext w W0:=by rw[<-hY];exact (Ext.refl w).alloc _
 have gi:BxN W0 w.heap.size 0 [] [] sN sN [] 0:=by rw[<-hY];exact Zg w _
 have h4:W0.heap.size=w.heap.size+1:=by rw[<-hY,Zu]
 have fd:=gd h4;have hC:=λw'=>Zdt s w' hs;cases htk:toksP s.data.toList with
 |error yc=>
  obtain ⟨y,c⟩:=yc;have gl:=ZeP htk;have gZ:((c:Int) !=0)=true:=by rw[Xk];omega
  rw[htk] at hD hC;dsimp only at hD;subst hD;have HT:=gd hC;clear hC htk gl h4;go_enter func26,ntmps26
  go_wp2_with (first|(go_at_call 57;refine Za (HT.out _) ?_;rintro e w2 ⟨v2,rfl,hT,hz⟩;have gX:=hT.err;clear hT;subst gX;have hR:=gi.ext hz)|(refine Zf rfl 25 (.tmp 2) (.tmp 20) rfl w.heap.size #[nI 0,eS,eS,sN,sN,eS,nI 0] rfl rfl _ _ hR ZJ rfl UF ?_))
  ((try simp only[Exit.inBlock,Exit.then]);refine ZD (ZI rfl _ _ _ _ _ _ _ rfl (ZF _ _ _ _ _ _ hR) underlying25 rfl ZJ) rfl ?_);exact ⟨_,rfl,⟨Nc.mk 0 [] [] sN [] sN [] [] 0,rfl,⟨⟨_,_,_,rfl⟩,⟨_,_,_,rfl⟩⟩⟩,(go.trans hz).setRow (Zc _) _⟩
 |ok l=>
  have X:=If htk;rw[htk] at hD hC;dsimp only at hD;have HT:=gd hC;clear hC htk;go_enter func26,ntmps26
  go_wp2_with (first|(go_at_call 57;refine Za (HT.out _) ?_;rintro e w2 ⟨v2,rfl,hT,hz⟩;obtain ⟨u,lt,rfl,g3,hB,hO,gj,gM⟩:=hT.ok;clear hT;have hR:=gi.ext hz;obtain ⟨-,UA,uc,rfl, -, -, -⟩:=id hB))
  have fj:w.heap.size+1<=w2.heap.size:=by have:=hz.size;omega
  rw[h4] at gj gM;subst g3;obtain ⟨G,hG⟩:∃g,w2.heap.size=g:=⟨_,rfl⟩;obtain ⟨W3,hF⟩:∃W3,(w2.alloc (.cells #[.slice UA lt.length uc,nI 0,nI 0,nI 0] 109)).alloc (.cells #[nI 0,eS,eS,sN,sN,eS,nI 0] 25)=W3:=⟨_,rfl⟩;have gH:BxP W3 G (.slice UA lt.length uc) 0 0 0:=by rw[<-hF,<-hG];exact ((Ext.refl _).alloc _).heap (Zg w2 _)
  have gC:W3.heap[G+1]? =some (.cells (cellsN (Nc.mk 0 [] [] sN [] sN [] [] 0)).toArray 25):=by rw[<-hF,<-hG];exact YS w2 _ _
  have gp:Ext w2 W3:=by rw[<-hF];exact ((Ext.refl _).alloc _).alloc _
  have gI:W3.heap.size=G+2:=by rw[<-hF,Zu,Zu,hG]
  have gx:=hR.ext gp;have h5:=go.trans hz;have hM:∀w',Ext w2 w'->PCtx w' G (.slice UA lt.length uc) lt:=λw' hx=>by
   refine ⟨RSl.ext hB hx,λx hd=>RAts.ext (hO x hd) hx,It hB ?_ (by intro k e;injection e with e;omega),λx hd=>RAts.awayNew (hO x hd) om⟩;by_cases hl:lt= []
   ·exact Or.inl (by rw[hl];rfl)
   ·refine Or.inr ?_;cases lt with
    |nil=>exact absurd rfl hl
    |cons x t=>unfold flatT;rw[Zw,Um];unfold cellsT;simp
  have gJ:∀r,r<=w.heap.size->TA lt r:=λr hr x hd=>Or.inr λe=>by have:=gj x hd _ e;omega
  have gK:TA lt (G+1):=λx hd=>RAts.awayNew (hO x hd) om;have gg:=gd hM;have gU:=gd gJ;have gV:=gd gK;have gb:=gd X;have gT:=gd hO;have gs:Hid (docAt s.data.toList.length (if false=true then some (Nc.mk 0 [] [] sN [] sN [] [] 0).nd else none) ((lt.map Tc.t).drop 0)=D):=hD;rw[hI] at X;have g2:=X.len;rw[Zq] at g2;have gn:∀x∈lt,x.t.kind=1\/x.t.kind=2\/x.t.kind=3:=λx hd=>X.kind _ (Yc hd);have gL:txts (lt.map Tc.t)<=2*s.size:=X.text;have gR:=gd (λi w' (hi:i<lt.length) (hM:PCtx w' G (.slice UA lt.length uc) lt) (hb:BxP w' G (.slice UA lt.length uc) i 0 0)=>ZfE s.size hs G (.slice UA lt.length uc) lt s.data.toList.length om gL gn (lt.length+1) i 1 w' om hi om hM hb);have gS:=gd gn;have ff:w.heap.size<G:=om
  (try rw[hF]);(try rw[hG]);clear hD hM gJ gK X hO gn gL hB gj gM hY gi go hz hR h4 hF;go_loopw [10] (λf wr=>∃(j:Nat) (m:Nc) (fb:Bool),j<=lt.length/\f= .bool fb/\BxP wr G (.slice UA lt.length uc) j 0 0/\wr.heap[G+1]? =some (.cells (cellsN m).toArray 25)/\slN m/\Hid (fb=true->RdN wr m/\awayN (some G) m/\∀r,r<=w.heap.size->awayN (some r) m)/\BxN wr w.heap.size 0 [] [] sN sN [] 0/\Ext w2 wr/\G+2<=wr.heap.size/\Hid (docAt s.data.toList.length (if fb=true then some m.nd else none) ((lt.map Tc.t).drop j)=D)) (λ_ wr=>lt.length - (intOf ((wr.cell? ⟨G,1,none⟩).getD undef)).toNat)
  case atStart=>exact ⟨0,Nc.mk 0 [] [] sN [] sN [] [] 0,false,Zj _,rfl,gH,gC,⟨⟨_,_,_,rfl⟩,⟨_,_,_,rfl⟩⟩,(by intro h;cases h),gx,gp,Nat.le_of_eq gI.symm,gs⟩
  case round=>
   clear gH gC gx gp gI gs;obtain ⟨j,m,fb,hj,rfl,hp,hb,hP,hm,hR,hx,fl,hr⟩:=hrel;obtain ⟨mk,ms,mn,fn,ml,fo,hX,mt,ma⟩:=m;obtain ⟨⟨MA,h7,mc,hL⟩,⟨MB,ga,md,gF⟩⟩:=hP;simp only[Nc.al,Nc.ks] at hL gF;subst hL;subst gF;have gB:BxN wr (G+1) mk ms mn (.slice MA h7 mc) (.slice MB ga md) mt ma:=hb;obtain ⟨b0,b1,b2,b3⟩:=hp.cells;have gc:Hid ((intOf ((wr.cell? ⟨G,1,none⟩).getD undef)).toNat=j):=(by have:(intOf ((wr.cell? ⟨G,1,none⟩).getD undef)).toNat=j:=(by rw[b1];simp[intOf]);exact this);have A:=hr.out;by_cases hJ:j<lt.length;obtain ⟨gw,fm,g4,gA⟩:=RTs.at (gg.out wr hx).row hJ;injection g4 with e1 e2 e3;subst e1;clear e2 e3;have fg:(0:Int)<=(j:Int):=om;have fh:(j:Int)<(lt.length:Int):=om;have hQ:=ZL hJ;have gO:=RdT.form (gT.out _ hQ);have gq:=gS.out _ hQ;have g0:=gb.out.each _ (Yc (f:=Tc.t) hQ);rw[Gt hJ,KQ] at A;have hu:=λw' hM hb=>gR.out j w' hJ hM hb;have h0:=Gt hJ;obtain ⟨x,gr⟩:∃x,lt[j]=x:=⟨_,rfl⟩;rw[gr] at gA gO gq A h0;obtain ⟨fp,⟨tk,tn,ta,gP,tt,S⟩⟩:=x;obtain ⟨gu,tc,gf⟩:=gO;dsimp only at gf gq A h0;subst gf;obtain ⟨a0,a1,a2,a3,a4,a5⟩:=gA;dsimp only at a0 a1 a2 a3 a4 a5;obtain ⟨V,gD⟩:∃g,wr.heap.size=g:=⟨_,rfl⟩;obtain ⟨W5,hH⟩:∃W5,wr.alloc (.cells #[nI (tk:Nat),.string (str tn),.slice gu ta.length tc,.bool gP,.string (str tt),nI (S:Nat)] 111)=W5:=⟨_,rfl⟩;have hc:Ext wr W5:=(by rw[<-hH];exact (Ext.refl wr).alloc _);have gY:BxT W5 V ⟨.slice gu ta.length tc,⟨tk,tn,ta,gP,tt,S⟩⟩:=(by rw[<-hH,<-gD];exact Zg wr _);have fk:W5.heap.size=V+1:=(by rw[<-hH,Zu,gD]);have fc:G+2<=V:=om
   replace hp:=hp.ext hc
   replace hR:=hR.ext hc
   have gk:=gB.ext hc;obtain ⟨t0,t1,t2,t3,t4,t5, -⟩:=gY.cells;dsimp only at t0 t1 t2 t3 t4 t5;obtain ⟨p0,p1,p2,p3⟩:=hp.cells;obtain ⟨f1,f2,f3⟩:=hp.frozen;have U:=gd A;have gQ:=gd h0;have g8:(str tt).size<=140737488351232:=by
    have h1:=gb.out.text;have h2:tt.length<=txts (lt.map Tc.t):=Zhd (by
     have:=Yc (f:=Tc.t) hQ;rw[gr] at this;exact this)
    rw[hI] at h1;have h3:txts (lt.map Tc.t)<=2*s.size:=h1;rw[YN];omega
   clear hr A h0 gr g0 hQ;rcases gq with hk|hk|hk;subst hk;rw[show ((1:Nat):Int)=1 from rfl] at hH;cases fb
   ·have A:=U.out;rw[Ze (by rintro ⟨-,h⟩;cases h),Ze (by decide),Ze (by decide),<-gQ.out] at A;have hv:=hu W5 (gg.out _ (hx.trans hc)) hp;rw[hI] at hv;rw[hI] at A;cases he:elemAt s.size 1 ((lt.map Tc.t).drop j) with
    |error yc=>
     obtain ⟨y,c⟩:=yc;have gl:=ZrI he;have gZ:((c:Int) !=0)=true:=(by rw[Xk];omega);rw[he] at A hv;dsimp only at A;subst A;have HI:=gd hv;clear he gl hu hv U
     go_wp2_with (first|(go_at_call 59;refine Za HI.out ?_;rintro e6 Y ⟨v6,rfl,gm,R⟩;obtain ⟨n6,j6,rfl,hP,hw⟩:=gm.err;obtain ⟨zk,zs,zn,g9,zl,fa,hA,zt,za⟩:=n6;obtain ⟨⟨ZA,H,zc,hV⟩,⟨ZB,I,zd,hW⟩⟩:=hP;(simp only[Nc.al,Nc.ks] at hV hW);subst hV;subst hW;simp only[cellsN];(have hg:=gk.grown R (by intro e;injection e with e;omega));(have hE:=hR.grown R (by intro e;injection e with e;omega)))|(refine Zf rfl 25 (.tmp 9) (.tmp 44) rfl (G+1) _ rfl rfl _ _ hg ZJ rfl YU ?_;(have hy:BxP (Y.setRow (G+1) #[nI (zk:Nat),.string (str zs),.string (str zn),.slice ZA H zc,.slice ZB I zd,.string (str zt),nI (za:Nat)]) G (.slice (some gw) lt.length uc) j6 y c:=(Yf Y (G+1) G _ om).trans hw);(have hN:BxN (Y.setRow (G+1) #[nI (zk:Nat),.string (str zs),.string (str zn),.slice ZA H zc,.slice ZB I zd,.string (str zt),nI (za:Nat)]) w.heap.size 0 [] [] sN sN [] 0:=(Yf Y (G+1) w.heap.size _ om).trans hE);have hZ:BxN (Y.setRow (G+1) #[nI (zk:Nat),.string (str zs),.string (str zn),.slice ZA H zc,.slice ZB I zd,.string (str zt),nI (za:Nat)]) (G+1) zk zs zn (.slice ZA H zc) (.slice ZB I zd) zt za:=ZF _ _ _ _ _ _ hg;(have hU:Ext w2 (Y.setRow (G+1) #[nI (zk:Nat),.string (str zs),.string (str zn),.slice ZA H zc,.slice ZB I zd,.string (str zt),nI (za:Nat)]):=((hx.trans hc).but R om).setRow om _);obtain ⟨W8,hf⟩:∃W8,Y.setRow (G+1) #[nI (zk:Nat),.string (str zs),.string (str zn),.slice ZA H zc,.slice ZB I zd,.string (str zt),nI (za:Nat)]=W8:=⟨_,rfl⟩;(rw[hf] at hy hN hZ hU);(try rw[hf]);obtain ⟨v0,v1,v2,v3⟩:=hy.cells))
     have Q:=(Ext.refl W8).drew;have Z:=BxN.ext hN Q;have F:W8.drew.cell? ⟨G,2,none⟩=some (nI (y:Nat))/\W8.drew.cell? ⟨G,3,none⟩=some (nI (c:Nat)):=⟨Q.cell v2,Q.cell v3⟩;have hh:G≠w.heap.size:=om;have ha:(W8.drew.setRow w.heap.size #[nI 0,eS,eS,sN,sN,eS,nI 0]).cell? ⟨G,2,none⟩=some (nI (y:Nat))/\(W8.drew.setRow w.heap.size #[nI 0,eS,eS,sN,sN,eS,nI 0]).cell? ⟨G,3,none⟩=some (nI (c:Nat)):=⟨(Z8 (a:=⟨G,2,none⟩) (Yf W8.drew w.heap.size G #[nI 0,eS,eS,sN,sN,eS,nI 0] hh)).trans F.1,(Z8 (a:=⟨G,3,none⟩) (Yf W8.drew w.heap.size G #[nI 0,eS,eS,sN,sN,eS,nI 0] hh)).trans F.2⟩;clear hf v0 v1 v2 v3;refine rN ?_;change wpAny _ _ _ _ _ _ _ (World.drew _);refine YD (λw'=>w'.cell? ⟨G,2,none⟩=some (nI (y:Nat))/\w'.cell? ⟨G,3,none⟩=some (nI (c:Nat))) ?_;refine tS 0 (.agg #[nI 0,eS,eS,sN,sN,eS,nI 0]) rfl (λw' J=>by have hn:=J.1;have ho:=J.2;go_simp) F ?_;refine tS 1 (.pointer (some ⟨G,0,none⟩)) rfl (λw' J=>by have hn:=J.1;have ho:=J.2;go_simp) F ?_;refine tS 2 (.pointer (some ⟨G,0,none⟩)) rfl (λw' J=>by have hn:=J.1;have ho:=J.2;go_simp) F ?_;refine tS 3 (.pointer (some ⟨G,2,none⟩)) rfl (λw' J=>by have hn:=J.1;have ho:=J.2;go_simp) F ?_;refine tS 4 (nI (y:Nat)) rfl (λw' J=>by have hn:=J.1;have ho:=J.2;go_simp) F ?_;refine tS 5 (.pointer (some ⟨G,0,none⟩)) rfl (λw' J=>by have hn:=J.1;have ho:=J.2;go_simp) F ?_;refine tS 6 (.pointer (some ⟨G,0,none⟩)) rfl (λw' J=>by have hn:=J.1;have ho:=J.2;go_simp) F ?_;refine tS 7 (.pointer (some ⟨G,3,none⟩)) rfl (λw' J=>by have hn:=J.1;have ho:=J.2;go_simp) F ?_;refine tS 8 (nI (c:Nat)) rfl (λw' J=>by have hn:=J.1;have ho:=J.2;go_simp) F ?_;go_simp;refine sS 9 λK hK=> ?_;refine YJ rfl 25 (.tmp 2) (.tmp 50) rfl w.heap.size #[nI 0,eS,eS,sN,sN,eS,nI 0] rfl rfl _ _ Z ZJ rfl UF ?_;refine hK _ _ ha ?_;clear hK K;refine sS 10 λK hK=> ?_;go_simp;refine hK _ _ ha ?_;clear hK K;refine sS 11 λK hK=> ?_;go_simp;refine hK _ _ ha ?_;clear hK K;refine sE ?_;go_wp2;((try simp only[Exit.inBlock,Exit.then]);refine ZD (ZI rfl _ _ _ _ _ _ _ rfl (ZF _ _ _ _ _ _ Z) underlying25 rfl ZJ) rfl ?_);exact ⟨_,rfl,⟨Nc.mk 0 [] [] sN [] sN [] [] 0,rfl,⟨⟨_,_,_,rfl⟩,⟨_,_,_,rfl⟩⟩⟩,((h5.trans hU).trans Q).setRow (Zc _) _⟩
    |ok mr=>
     obtain ⟨m9,r9⟩:=mr;rw[he] at A hv;dsimp only at A;have HI:=gd hv;have HN:=gd A;have gy:=(gg.out _ hx).ta;have gW:=gd gy;clear he hu hv U gy A
     go_wp2_with (first|(go_at_call 59;refine Za HI.out ?_;rintro e6 Y ⟨v6,rfl,gm,R⟩;obtain ⟨mc,j6,rfl,g5,gG,gE,g6,hw,hL⟩:=gm.ok;have hP:=RdN.sl gG;obtain ⟨zk,zs,zn,g9,zl,fa,hA,zt,za⟩:=mc;obtain ⟨⟨ZA,H,zc,hV⟩,⟨ZB,I,zd,hW⟩⟩:=hP;(simp only[Nc.al,Nc.ks] at hV hW);subst hV;subst hW;simp only[cellsN];(have hg:=gk.grown R (by intro e;injection e with e;omega));(have hE:=hR.grown R (by intro e;injection e with e;omega)))|(refine Zf rfl 25 (.tmp 9) (.tmp 44) rfl (G+1) _ rfl rfl _ _ hg ZJ rfl YU ?_;(have hy:BxP (Y.setRow (G+1) #[nI (zk:Nat),.string (str zs),.string (str zn),.slice ZA H zc,.slice ZB I zd,.string (str zt),nI (za:Nat)]) G (.slice (some gw) lt.length uc) j6 0 0:=(Yf Y (G+1) G _ om).trans hw);(have hN:BxN (Y.setRow (G+1) #[nI (zk:Nat),.string (str zs),.string (str zn),.slice ZA H zc,.slice ZB I zd,.string (str zt),nI (za:Nat)]) w.heap.size 0 [] [] sN sN [] 0:=(Yf Y (G+1) w.heap.size _ om).trans hE);have hZ:BxN (Y.setRow (G+1) #[nI (zk:Nat),.string (str zs),.string (str zn),.slice ZA H zc,.slice ZB I zd,.string (str zt),nI (za:Nat)]) (G+1) zk zs zn (.slice ZA H zc) (.slice ZB I zd) zt za:=ZF _ _ _ _ _ _ hg;(have hU:Ext w2 (Y.setRow (G+1) #[nI (zk:Nat),.string (str zs),.string (str zn),.slice ZA H zc,.slice ZB I zd,.string (str zt),nI (za:Nat)]):=((hx.trans hc).but R om).setRow om _);(have ge:RdN (Y.setRow (G+1) #[nI (zk:Nat),.string (str zs),.string (str zn),.slice ZA H zc,.slice ZB I zd,.string (str zt),nI (za:Nat)]) (Nc.mk zk zs zn (.slice ZA H zc) zl (.slice ZB I zd) hA zt za):=RdN.grown (Yx Y (G+1) _) _ gG (hL (G+1) om gV.out));obtain ⟨W8,hf⟩:∃W8,Y.setRow (G+1) #[nI (zk:Nat),.string (str zs),.string (str zn),.slice ZA H zc,.slice ZB I zd,.string (str zt),nI (za:Nat)]=W8:=⟨_,rfl⟩;(rw[hf] at hy hN hZ hU ge);(try rw[hf]);obtain ⟨v0,v1,v2,v3⟩:=hy.cells))
     have gz:=gd hf;clear hf v0 v1 v2 v3;go_roundw
     case rel=>
      refine ⟨j6,Nc.mk zk zs zn (.slice ZA H zc) zl (.slice ZB I zd) hA zt za,true,gE.2,rfl,hy,hZ,⟨⟨_,_,_,rfl⟩,⟨_,_,_,rfl⟩⟩,λ_=>⟨ge,hL G om gW.out,λr hr=>hL r om (gU.out r hr)⟩,hN,hU,?_,?_⟩
      ·have h1:=R.size;have h2:W8.heap.size=Y.heap.size:=(by rw[<-gz.out];simp[World.setRow]);omega
      ·rw[Zi rfl,g5,<-g6,hI];exact HN.out
     case measure=>have h8:=gc.out;have h9:=hy.cells.2.1;have fe:=gE;rw[h8,h9];simp[intOf];omega
   focus
    have A:=U.out
    rw[Zi ⟨rfl,rfl⟩] at A
    subst A
    clear U hu
    go_wp2
    have Q:=(Ext.refl W5).drew
    have Z:=BxN.ext hR Q
    have F:=Q.cell t5
    have hh:V≠w.heap.size:=om
    have ha:=(Z8 (a:=⟨V,5,none⟩) (Yf W5.drew w.heap.size V #[nI 0,eS,eS,sN,sN,eS,nI 0] hh)).trans F
    refine rN ?_
    change wpAny _ _ _ _ _ _ _ (World.drew _)
    refine YD (λw'=>w'.cell? ⟨V,5,none⟩=some (nI (S:Nat))) ?_
    refine tG 0 (.agg #[nI 0,eS,eS,sN,sN,eS,nI 0]) F ?_
    refine tG 1 (.pointer (some ⟨V,5,none⟩)) F ?_
    refine tS 2 (nI (S:Nat)) rfl (λw' J=>by have hq:w'.cell? ⟨V,5,none⟩=some (nI (S:Nat)):=J;go_simp) F ?_
    go_simp
    refine sS 3 λK hK=> ?_
    refine YJ rfl 25 (.tmp 2) (.tmp 66) rfl w.heap.size #[nI 0,eS,eS,sN,sN,eS,nI 0] rfl rfl _ _ Z ZJ rfl UF ?_
   rotate_left
   focus
    subst hk
    rw[show ((2:Nat):Int)=2 from rfl] at hH
    have A:=U.out
    rw[Ze (by rintro ⟨h, -⟩;cases h),Zi rfl] at A
    subst A
    clear U hu
    go_wp2
    have Q:=(Ext.refl W5).drew
    have Z:=BxN.ext hR Q
    have F:=Q.cell t5
    have hh:V≠w.heap.size:=om
    have ha:=(Z8 (a:=⟨V,5,none⟩) (Yf W5.drew w.heap.size V #[nI 0,eS,eS,sN,sN,eS,nI 0] hh)).trans F
    refine rN ?_
    change wpAny _ _ _ _ _ _ _ (World.drew _)
    refine YD (λw'=>w'.cell? ⟨V,5,none⟩=some (nI (S:Nat))) ?_
    refine tG 0 (.agg #[nI 0,eS,eS,sN,sN,eS,nI 0]) F ?_
    refine tG 1 (.pointer (some ⟨V,5,none⟩)) F ?_
    refine tS 2 (nI (S:Nat)) rfl (λw' J=>by have hq:w'.cell? ⟨V,5,none⟩=some (nI (S:Nat)):=J;go_simp) F ?_
    go_simp
    refine sS 3 λK hK=> ?_
    refine YJ rfl 25 (.tmp 2) (.tmp 73) rfl w.heap.size #[nI 0,eS,eS,sN,sN,eS,nI 0] rfl rfl _ _ Z ZJ rfl UF ?_
   rotate_left
   subst hk;rw[show ((3:Nat):Int)=3 from rfl] at hH;have A:=U.out;rw[Ze (by rintro ⟨h, -⟩;cases h),Ze (by decide),Zi rfl] at A;have ht:=λw'=>ZfC (str tt) w' g8;rw[Z3] at ht;cases hbl:blankL tt
   focus
    rw[hbl,Zi rfl] at A
    rw[hbl] at ht
    subst A
    have HB:=gd ht
    clear U hu ht hbl
    go_wp2_with (first|(go_at_call 58;refine Za (HB.out _) ?_;rintro e6 Y ⟨rfl,h6⟩;have gh:=h6.symm;clear h6;subst gh))
    have Q:=(Ext.refl W5).drew
    have Z:=BxN.ext hR Q
    have F:=Q.cell t5
    have hh:V≠w.heap.size:=om
    have ha:=(Z8 (a:=⟨V,5,none⟩) (Yf W5.drew w.heap.size V #[nI 0,eS,eS,sN,sN,eS,nI 0] hh)).trans F
    refine rN ?_
    change wpAny _ _ _ _ _ _ _ (World.drew _)
    refine YD (λw'=>w'.cell? ⟨V,5,none⟩=some (nI (S:Nat))) ?_
    refine tG 0 (.agg #[nI 0,eS,eS,sN,sN,eS,nI 0]) F ?_
    refine tG 1 (.pointer (some ⟨V,5,none⟩)) F ?_
    refine tS 2 (nI (S:Nat)) rfl (λw' J=>by have hq:w'.cell? ⟨V,5,none⟩=some (nI (S:Nat)):=J;go_simp) F ?_
    go_simp
    refine sS 3 λK hK=> ?_
    refine YJ rfl 25 (.tmp 2) (.tmp 86) rfl w.heap.size #[nI 0,eS,eS,sN,sN,eS,nI 0] rfl rfl _ _ Z ZJ rfl UF ?_
   rotate_left
   ·rw[hbl,Ze (by simp)] at A;rw[hbl] at ht;have HB:=gd ht;have HN:=gd A;clear U hu ht hbl A
    go_wp2_with (first|(go_at_call 58;refine Za (HB.out _) ?_;rintro e6 Y ⟨rfl,h6⟩;have gh:=h6.symm;clear h6;subst gh))
    have hw:=hp.next (j+1);have hE:BxN (W5.setCell ⟨G,1,none⟩ (nI ((j+1:Nat):Int))) w.heap.size 0 [] [] sN sN [] 0:=hR.other om;have hg:BxN (W5.setCell ⟨G,1,none⟩ (nI ((j+1:Nat):Int))) (G+1) mk ms mn (.slice MA h7 mc) (.slice MB ga md) mt ma:=gk.other om;have gN:Ext w2 (W5.setCell ⟨G,1,none⟩ (nI ((j+1:Nat):Int))):=(hx.trans hc).setCell (by show _<=G;omega) _;have g7:(W5.setCell ⟨G,1,none⟩ (nI ((j+1:Nat):Int))).heap.size=W5.heap.size:=(by simp[World.setCell]);have R:=Yw W5 ⟨G,1,none⟩ (nI ((j+1:Nat):Int));rw[show ((j+1:Nat):Int)=(j:Int)+1 by omega] at hw hE hg gN g7 R;go_roundw
    case rel=>
     refine ⟨j+1,Nc.mk mk ms mn (.slice MA h7 mc) ml (.slice MB ga md) hX mt ma,fb,om,rfl,?_,hg,⟨⟨_,_,_,rfl⟩,⟨_,_,_,rfl⟩⟩,λh=> ?_,hE,gN,(by simp only[nI] at *;omega),HN⟩
     ·unfold BxP;rw[show (((j+1:Nat):Int))=(j:Int)+1 by omega];exact hw
     ·obtain ⟨h1,h2,h3⟩:=hm.out h;exact ⟨RdN.grown R _ (RdN.ext hc _ h1) h2,h2,h3⟩
    case measure=>have h8:=gc.out;have h9:=hw.cells.2.1;rw[h8,h9];simp[intOf];omega
   ·have g1:j=lt.length:=om;subst g1;rw[ZC (by rw[Zq];exact Zc _),ZdR] at A;have fi:¬(lt.length:Int)<(lt.length:Int):=om;obtain ⟨m0,m1,m2,m3,m4,m5,m6⟩:=gB.cells;clear hr hJ;cases fb with
    |false=>
     rw[Ze (by simp)] at A;dsimp only at A;rw[hI] at A;subst A
     go_wp2_with (first|(refine Zf rfl 25 (.tmp 2) (.tmp 102) rfl w.heap.size #[nI 0,eS,eS,sN,sN,eS,nI 0] rfl rfl _ _ hR ZJ rfl UF ?_))
     ((try simp only[Exit.inBlock,Exit.then]);refine ZD (ZI rfl _ _ _ _ _ _ _ rfl (ZF _ _ _ _ _ _ hR) underlying25 rfl ZJ) rfl ?_);exact ⟨_,rfl,⟨Nc.mk 0 [] [] sN [] sN [] [] 0,rfl,⟨⟨_,_,_,rfl⟩,⟨_,_,_,rfl⟩⟩⟩,(h5.trans hx).setRow (Zc _) _⟩
    |true=>
     rw[Zi rfl] at A;dsimp only at A;subst A
     go_wp2_with (first|(refine Zf rfl 25 (.tmp 2) (.tmp 105) rfl w.heap.size _ rfl rfl _ _ hR ZJ rfl YU ?_))
     ((try simp only[Exit.inBlock,Exit.then]);refine ZD (ZI rfl _ _ _ _ _ _ _ rfl (ZF _ _ _ _ _ _ hR) underlying25 rfl ZJ) rfl ?_);obtain ⟨h1,h2,h3⟩:=hm.out (by trivial);exact ⟨_,rfl,⟨Nc.mk mk ms mn (.slice MA h7 mc) ml (.slice MB ga md) hX mt ma,rfl,rfl,RdN.grown (Yx wr w.heap.size _) _ h1 (h3 _ (Zc _)),λr hr=>h3 r (Nat.le_of_lt hr)⟩,(h5.trans hx).setRow (Zc _) _⟩
   all_goals
    refine hK _ _ ha ?_
    clear hK K
    refine sS 4 λK hK=> ?_
    go_simp
    refine hK _ _ ha ?_
    clear hK K
    refine sS 5 λK hK=> ?_
    go_simp
    refine hK _ _ ha ?_
    clear hK K
    refine sE ?_
    go_wp2
    ((try simp only[Exit.inBlock,Exit.then]);refine ZD (ZI rfl _ _ _ _ _ _ _ rfl (ZF _ _ _ _ _ _ Z) underlying25 rfl ZJ) rfl ?_)
    exact ⟨_,rfl,⟨Nc.mk 0 [] [] sN [] sN [] [] 0,rfl,⟨⟨_,_,_,rfl⟩,⟨_,_,_,rfl⟩⟩⟩,(((h5.trans hx).trans hc).trans Q).setRow (Zc _) _⟩
end
section
variable {M N:Nat} {f:Fd} {α:Type}
def DecRet (w':Wq) (v:Value):Except PErr (List Fd)->Prop
 | .ok l=>∃v' lc,v= .tuple #[.agg #[v'],nI 0,nI (errFs l:Nat)]/\lc.map Fc.f=normA l/\RFcs w' v' lc/\∀y∈lc,RdC w' y
 | .error (y,c)=>v= .tuple #[.agg #[sN],nI (y:Nat),nI (c:Nat)]
theorem ZlG {n:Nd} (h:n.kind≠0\/n.space≠ []\/n.name≠opmlL\/attrL n versionL≠some twoL):opmlP n= .error (n.at_,18):=by
 unfold opmlP;rw[Zi h]
theorem ZlH {n:Nd} (h:n.kind=0) (A:n.space= []) (D:n.name=opmlL) (F:attrL n versionL=some twoL):opmlP n=match n.kids.find? (isEl bodyL) with|none=> .error (n.at_,19)|some b=>visP b []:=by
 unfold opmlP;rw[Ze (by rintro (e|e|e|e)<;>first|exact e h|exact e A|exact e D|exact e F)];rfl
theorem Zgv (f:α->Bool) (l:List α):l.find? f=(l.filter f).head?:=by rw[List.head?_filter]
theorem Ze5 {n:Nd}:∀{l:List Nd},n∈l->n.cnt<=Nds.cnt l
 | [],h=>by cases h
 |x::t,h=>by
  rw[Nds.cnt]
  rcases ZH.1 h with rfl|h
  ·omega
  ·have:=Ze5 h;omega
theorem ZhN {b:Nat}:∀{l:List ByteArray},(∀s∈l,s.size<=b)->sizes l<=l.length*b
 | [],_=>Zj _
 |x::t,h=>by
  have D:=h x Zx
  have F:=ZhN (b:=b) (l:=t) λs A=>h s (Zn _ A)
  have e:sizes (x::t)=x.size+sizes t:=by unfold sizes;simp
  rw[e,Zd,Nat.add_mul]
  omega
theorem Znp (S:N<=10000) (h:opOk N f):fokS f/\f.path.length<=1000000:=by
 obtain ⟨D,F,K,Q,R,H,A⟩:=h;have U:=ZhN F;have J:f.path.length*(2*N)<=64*(2*N):=Nat.mul_le_mul_right _ D;refine ⟨⟨⟨by rw[H];unfold i64ok;decide,om⟩,by rw[A];simp,(by rw[A];intro e I;cases I)⟩,om⟩
theorem Zh6 {b:Nd} {l:List Fd} (F:visP b []= .ok l) (A:b.fd N) (hc:b.cnt<=M):l.length<=M/\∀f∈l,opOk N f:=by
 have h:=Zj6 N b [] l F A (Zj _) (by intro s D;cases D);exact ⟨om,h.2⟩
theorem ZfP (F:N<=10000) (I:M<=1000000) {O:List Fc} {l:List Fd} (H:O.map Fc.f=l) (h:l.length<=M/\∀f∈l,opOk N f):O.length<=1000000/\(∀x∈O,fokS x.f/\x.f.path.length<=1000000)/\allE O<=1000000:=by
 subst H;have D:=h.1;rw[Zq] at D;refine ⟨om,λx A=>Znp F (h.2 x.f (Yc A)),?_⟩;rw[ZbC λx A=>(h.2 x.f (Yc A)).ents];omega
end
theorem Zje {l:List Fc} (D:∀x∈l,fokS x.f/\x.f.path.length<=1000000) (H:allE l<=1000000):∀y∈normA (l.map Fc.f),fokS y:=by
 intro y h;unfold normA at h;split at h
 ·have A:=Zit (l:=(l.map Fc.f).map collF) (λz J=>by
   obtain ⟨q,I,rfl⟩:=ZU.1 J;obtain ⟨x,F,rfl⟩:=ZU.1 I;exact Zkj (D x F).1 (D x F).2) y h
  refine ⟨A.1.1,?_,A.2⟩;have K:y.ents.length<=sumE (ordF.canon ((l.map Fc.f).map collF)):=ZoD (ZU.2 ⟨y,h,rfl⟩);have Q:=Ziu ((l.map Fc.f).map collF);have R:sumE ((l.map Fc.f).map collF)<=allE l:=by rw[JR];exact Zl6 l
  omega
 ·simp at h
theorem Zew (L:List Fd):(normA L).length<=L.length:=by
 unfold normA;split
 ·have h:=Em ordF (L.map collF)
  rwa [Zq] at h
 ·simp
section
variable {M N:Nat} {f:Fd} {s:List UInt8}
section
variable {P:Fd→Prop}
theorem Ic (A:∀a b,P a->P b->P (joinF a b)):∀(l:List Fd) (e:Fd),(∀x∈l,P x)->P e->P (ordF.scan l e).2/\∀z∈(ordF.scan l e).1,z∈l
 | [],e,_,he=>⟨he,by intro z h;simp[Ord.scan] at h⟩
 |y::t,e,hl,he=>by
  have K:=hl y Zx
  have I:=λx J=>hl x (Zn y J)
  unfold Ord.scan
  split
  ·obtain ⟨D,F⟩:=Ic A t (joinF y e) I (A y e K he)
   exact ⟨D,λz H=>Zn _ (F z H)⟩
  ·obtain ⟨D,F⟩:=Ic A t e I he
   exact ⟨D,λz H=>(ZH.1 H).elim (λh=>by rw[h];exact Zx) λh=>Zn _ (F z h)⟩
theorem Zb6 (A:∀a b,P a->P b->P (joinF a b)):∀(l s:List Fd),(∀x∈l,P x)->(∀x∈s,P x)->∀z∈l.foldl ordF.put s,P z
 | [],_,_,hs=>hs
 |e::t,s,hl,hs=>Zb6 A t _ (λx H=>hl x (Zn _ H)) λz I=>by
  obtain ⟨D,F⟩:=Ic A s e hs (hl e Zx)
  rcases (Ord.mem_ins _ _ _ _).1 I with h|h
  ·rw[h];exact D
  ·exact hs z (F z h)
theorem Zay (A:∀a b,P a->P b->P (joinF a b)) {l:List Fd} (h:∀x∈l,P x):∀z∈ordF.canon l,P z:=Zb6 A l [] h (by simp)
end
theorem ZnL (a b:Fd) (h:smF N a) (A:smF N b):smF N (joinF a b):=by
 unfold joinF laterF;split
 ·exact A
 ·exact h
theorem ZnK (h:smF N f):smF N (collF f):=by
 obtain ⟨A,D,F,H⟩:=h;refine ⟨λp I=> ?_,Zp (Y8 _) D,Zp (Y8 _) F,Zp (Y8 _) H⟩;obtain ⟨q,J,rfl⟩:=ZU.1 I;exact Zp (Y8 _) (A q J)
theorem ZnM {l:List Fd} (h:∀x∈l,smF N x):∀z∈normA l,smF N z:=by
 unfold normA;split
 ·exact Zay ZnL λx A=>by obtain ⟨y,D,rfl⟩:=ZU.1 A;exact ZnK (h y D)
 ·intro z F;cases F
def smA (L:List Fd):Prop:=(∀f∈L,fokS f/\smF 10000 f)/\L.length<=10000
theorem ZcA {m:Nd} {l:List Fd} (h:opmlP m= .ok l) (A:m.fd N) (hc:m.cnt<=M):l.length<=M/\∀f∈l,opOk N f:=by
 obtain ⟨k,s,n,al,ks,t,a⟩:=m;rw[Nd.fd] at A;rw[Nd.cnt] at hc;unfold opmlP at h;split at h
 ·cases h
 ·split at h
  ·cases h
  ·rename_i b F;have D:b∈ks:=List.mem_of_find?_eq_some F;exact Zh6 h ((Nds.fd_iff _).1 A.2.2.2.2.2.2.2.2 b D) (by have:=Ze5 D;omega)
def decL (m:Nd):List Fd:=match opmlP m with| .error _=> []| .ok l=>normA l
def decAt (m:Nd):Nat:=match opmlP m with| .error x=>x.1| .ok _=>0
def decE (m:Nd):Nat:=match opmlP m with| .error x=>x.2| .ok l=>errFs l
theorem Ze8 {m:Nd} (A:m.fd 5000) (hc:m.cnt<=5000):smA (decL m):=by
 unfold decL;cases h:opmlP m with
 |error x=>exact ⟨(by intro f A;cases A),Zj _⟩
 |ok l=>obtain ⟨K,D⟩:=ZcA h A hc;have R:=Zew l;obtain ⟨lc,F⟩:∃lc:List Fc,lc.map Fc.f=l:=⟨l.map λf=>⟨undef,undef,f⟩,by rw[JR];exact List.map_id' l⟩;obtain ⟨Q,J,g3⟩:=ZfP (by decide:5000<=10000) (by decide:5000<=1000000) F ⟨K,D⟩;have I:=Zje J g3;rw[F] at I;exact ⟨λf A=>⟨I f A,ZnM (λx H=>⟨(D x H).path,(D x H).id,(D x H).title,(D x H).link⟩) f A⟩,by show (normA l).length<=10000;omega⟩
def docA:List UInt8:= [60,111,112,109,108,32,118,101,114,115,105,111,110,61,34,50,46,48,34,62,60,98,111,100,121,62,60,111,117,116,108,105,110,101,32,116,101,120,116,61,34,97,34,62,60,111,117,116,108,105,110,101,32,116,101,120,116,61,34,84,34,32,120,109,108,85,114,108,61,34,70,34,47,62,60,47,111,117,116,108,105,110,101,62,60,47,98,111,100,121,62,60,47,111,112,109,108,62]
def docM:List UInt8:= [60,111,112,109,108,32,118,101,114,115,105,111,110,61,34,50,46,48,34,62,60,98,111,100,121,62,60,111,117,116,108,105,110,101,62,60,111,117,116,108,105,110,101,32,116,101,120,116,61,34,84,34,32,120,109,108,85,114,108,61,34,70,34,47,62,60,47,111,117,116,108,105,110,101,62,60,47,98,111,100,121,62,60,47,111,112,109,108,62]
def docO:List UInt8:= [60,63,120,109,108,32,118,101,114,115,105,111,110,61,34,49,46,48,34,32,101,110,99,111,100,105,110,103,61,34,85,84,70,45,56,34,63,62,10,60,111,112,109,108,32,118,101,114,115,105,111,110,61,34,50,46,48,34,62,60,104,101,97,100,47,62,60,98,111,100,121,62,60,111,117,116,108,105,110,101,32,116,101,120,116,61,34,97,34,62,60,111,117,116,108,105,110,101,32,116,121,112,101,61,34,114,115,115,34,32,116,101,120,116,61,34,84,34,32,120,109,108,85,114,108,61,34,70,34,47,62,60,47,111,117,116,108,105,110,101,62,60,47,98,111,100,121,62,60,47,111,112,109,108,62,10]
def feedA:Fd:=⟨[⟨#[97]⟩],⟨#[70]⟩,⟨#[84]⟩,⟨#[]⟩, -62135596800,[]⟩
def okOf (r:Except PErr (List Fd)) (l:List Fd):Bool:=match r with| .error _=>false| .ok l'=>decide (l'=l)
def errOf (r:Except PErr (List Fd)) (x:PErr):Bool:=match r with| .error y=>decide (y=x)| .ok _=>false
theorem ZoH {r:Except PErr (List Fd)} {l:List Fd} (h:okOf r l=true):r= .ok l:=by
 cases r with
 |error e=>cases h
 |ok l'=>exact Zz _ (YK h)
theorem ZmC {r:Except PErr (List Fd)} {x:PErr} (h:errOf r x=true):r= .error x:=by
 cases r with
 |error e=>exact Zz _ (YK h)
 |ok l'=>cases h
def treeOk (s:List UInt8) (p:Nd->Bool):Bool:=match treeP s with|some m=>p m|none=>false
theorem ZeQ {p:Nd->Bool} (h:treeOk s p=true):∃m,treeP s=some m/\p m=true:=by
 unfold treeOk at h;split at h
 ·rename_i m A;exact ⟨m,A,h⟩
 ·cases h
theorem Zkr:∃m,treeP docA=some m/\opmlP m= .ok [feedA]:=by
 obtain ⟨m,h,A⟩:=ZeQ (s:=docA) (p:=λm=>okOf (opmlP m) [feedA]) (by decide+kernel);exact ⟨m,h,ZoH A⟩
theorem Zkt:∃m,treeP docM=some m/\opmlP m= .error (26,19):=by
 obtain ⟨m,h,A⟩:=ZeQ (s:=docM) (p:=λm=>errOf (opmlP m) (26,19)) (by decide+kernel);exact ⟨m,h,ZmC A⟩
theorem ZjM:okA [feedA]=true:=by decide+kernel
theorem ZdQ:errFs [feedA]=0/\normA [feedA]= [feedA]:=Zhk ZjM
theorem Zmr:docW (encP [feedA])=docO:=by decide+kernel
end
section
variable {c d k m:Nat} {s t:List UInt8}
theorem Zhm {h a:Nat} {n:List UInt8} {A B:Option Addr}:(#[nI (k:Nat),.string (str s),.string (str n),.slice A m c,.slice B h d,.string (str t),nI (a:Nat)]:Array Value).all (λu=>u.oneCell')=true:=by simp[Value.oneCell']
theorem Zmg (v:Value) (l:List Fc) (w:Wq) (hE:Env w) (J:NmTabs w) (hr:RFcs w v l) (R:∀x∈l,RdC w x) (Y:smA (l.map Fc.f)):
 Calls prog 17 #[.agg #[v]] w λe w'=>e= .returned (.tuple #[.string (str (if okA (l.map Fc.f)=true then docW (encP (l.map Fc.f)) else [])),nI (if okA (l.map Fc.f)=true then 0 else 22)])/\Ext w w':=by
 have hn:l.length<=10000:=by have:=Y.2;rwa [Zq] at this
 have hk:∀x∈l,fokS x.f:=λx Z=>(Y.1 x.f (Yc Z)).1;have D:=gd (λ(w':Wq) (h:Ext w w')=>ZiA v l w' (hE.ext h) (hr.ext h) (λx Z=>(R x Z).ext h) hk om);have I:=ZkC (l:=l.map Fc.f) (λf hf=>(Y.1 f hf).2) Y.2;have ha:=gd (λ(x:Nc) (w':Wq) (h:Ext w w') (Z:x.nd=encP (l.map Fc.f)) (hi:RdN w' x)=>ZfT 10000 (by decide) x w' (by rw[Z];exact I.2.1) (hE.ext h) (J.ext h) hi (by rw[Z];exact I.2.2));obtain ⟨VA,vc,hv, -, -⟩:=hr.form;subst hv;unfold EncRet at D;obtain ⟨W0,hc⟩:∃W0,w.alloc (.cells #[.slice VA l.length vc] 31)=W0:=⟨_,rfl⟩;have S:Ext w W0:=by rw[<-hc];exact (Ext.refl w).alloc _
 have b0:W0.cell? ⟨w.heap.size,0,none⟩=some (.slice VA l.length vc):=by rw[<-hc];exact (Zy (Zg w _) 0).trans rfl
 have F:=gd S;by_cases ho:okA (l.map Fc.f)=true
 ·have Q:=(Ziz ho).1;simp only[Zi ho] at D|-;clear hE J hr R Y hn hk I ho S;go_enter func17,ntmps17
  go_wp2_with (first|(go_at_call 20;refine Za (D.out _ F.out) ?_;rintro e w1 ⟨r,rfl,⟨x,rfl,V,X⟩,H⟩;have hj:=RdN.sl X;have HW:=gd (λ(w':Wq) (h:Ext w1 w')=>ha.out x w' ((F.out.trans H).trans h) V (RdN.ext h _ X));rw[V,Zi Q,Zi Q] at HW;obtain ⟨k,s,n,al,l0,ks,kids,t,a⟩:=x;obtain ⟨⟨A,m,c,hd⟩,⟨B,m2,d,he⟩⟩:=hj;simp only[Nc.al,Nc.ks] at hd he;subst hd;subst he;simp only[cellsN] at HW|-;obtain ⟨W2,K⟩:∃W2,w1.alloc (.cells #[nI (k:Nat),.string (str s),.string (str n),.slice A m c,.slice B m2 d,.string (str t),nI (a:Nat)] 25)=W2:=⟨_,rfl⟩;(have U:Ext w1 W2:=by rw[<-K];exact (Ext.refl w1).alloc _);(have hb:BxN W2 w1.heap.size k s n (.slice A m c) (.slice B m2 d) t a:=by rw[<-K];exact Zg w1 _);obtain ⟨c0,c1,c2,c3,c4,c5,c6⟩:=hb.cells;have hg:=gd ((F.out.trans H).trans U);have hh:=gd U;clear V X H U hb Q b0)|(refine Zf rfl 25 (.tmp 4) (.tmp 9) rfl w1.heap.size _ rfl rfl _ _ (Zg _ _) ZJ rfl Zhm ?_;rw[Z0];rw[K])|(go_at_call 42;refine Za (HW.out _ hh.out) ?_;rintro e w3 ⟨rfl,hl⟩))
  go_ret2
  exact ⟨rfl,hg.out.trans hl⟩
 ·simp only[Ze ho] at D|-;clear hE J hr R Y hn hk I ho S ha;go_enter func17,ntmps17
  go_wp2_with (first|(go_at_call 20;refine Za (D.out _ F.out) ?_;rintro e w1 ⟨r,rfl,rfl,H⟩)|(refine Zf rfl 25 (.tmp 4) (.tmp 9) rfl _ _ rfl rfl _ _ (Zg _ _) ZJ rfl Zno ?_;rw[Z0]))
  go_ret2
  exact ⟨rfl,(F.out.trans H).alloc _⟩
end
def zero7:Array Value:=#[nI 0,eS,eS,sN,sN,eS,nI 0]
theorem GI (N:Nat) (hN:N<=40000000000) (x:Nc) (w:Wq) (H:RdN w x) (Q:x.nd.fits N) (hc:x.nd.ht<=101):
 Calls prog 27 #[.agg (cellsN x).toArray] w λe w'=>∃v,e= .returned v/\ResRet x w.heap.size w' v (resP x.nd [])/\Ext w w':=by
 have K:=((Ext.refl w).alloc (.cells (cellsN x).toArray 25)).alloc (.cells zero7 25);obtain ⟨W0,h⟩:∃W0,(w.alloc (.cells (cellsN x).toArray 25)).alloc (.cells zero7 25)=W0:=⟨_,rfl⟩;have R:W0.heap[w.heap.size]? =some (.cells (cellsN x).toArray 25):=by rw[<-h];exact ((Ext.refl _).alloc _).heap (Zg w _)
 have Y:BxN W0 (w.heap.size+1) 0 [] [] sN sN [] 0:=by rw[<-h];exact YS w _ _
 have hu:W0.heap.size=w.heap.size+2:=by rw[<-h,Zu,Zu]
 rw[h] at K;have hb:x.nd.ht*N<=101*40000000000:=Nat.mul_le_mul hc hN;have J:=I7 N hN (x.nd.ht+1) x sN [] W0 (Yy _) (RdN.ext K x H) (RSl.nil _ 2) Q (by rw[ZK];omega);have U:=RdN.sl H;have hi:=gd (λr (hr:w.heap.size<=r)=>(Ja H hr:awayN (some r) x));obtain ⟨RR,Z⟩:∃RR,resP x.nd []=RR:=⟨_,rfl⟩;rw[Z] at J|-;obtain ⟨k,s,nm,al,l,ks,kids,t,at_⟩:=x;obtain ⟨⟨A,an,c,ha⟩,⟨B,bn,d,hk⟩⟩:=U;simp only[Nc.al,Nc.ks] at ha hk;subst ha;subst hk;unfold zero7 at h;simp only[cellsN] at J h R|-;have HC:=gd J;have hj:BxN W0 w.heap.size k s nm (.slice A an c) (.slice B bn d) t at_:=R;obtain ⟨b0,b1,b2,b3,b4,b5,b6⟩:=hj.cells;have hs:=gd H;clear J R Z H Q hc hb;cases RR with
 |error yc=>
  obtain ⟨y,ec⟩:=yc;go_enter func27,ntmps27
  go_wp2_with (first|(go_at_call 60;refine Za HC.out ?_;rintro e4 w4 ⟨v4,rfl,S,I⟩;obtain ⟨m,rfl,U⟩:=S.err;obtain ⟨mk,ms,mn,hv,ml,hw,V,mt,ma⟩:=m;obtain ⟨⟨MA,hn,mc,F⟩,⟨MB,ho,md,hd⟩⟩:=U;(simp only[Nc.al,Nc.ks] at F hd);subst F;subst hd;simp only[cellsN];have D:=Y.ext I)|(refine Zf rfl 25 (.tmp 2) (.tmp 7) rfl (w.heap.size+1) _ rfl rfl _ _ D ZJ rfl YU ?_))
  ((try simp only[Exit.inBlock,Exit.then]);refine ZD (ZI rfl _ _ _ _ _ _ _ rfl (ZF _ _ _ _ _ _ D) underlying25 rfl ZJ) rfl ?_);exact ⟨_,rfl,⟨.mk mk ms mn (.slice MA hn mc) ml (.slice MB ho md) V mt ma,rfl,⟨⟨_,_,_,rfl⟩,⟨_,_,_,rfl⟩⟩⟩,(K.trans I).setRow om _⟩
 |ok m9=>
  go_enter func27,ntmps27
  go_wp2_with (first|(go_at_call 60;refine Za HC.out ?_;rintro e4 w4 ⟨v4,rfl,S,I⟩;obtain ⟨mc,rfl,hl,he,F⟩:=S.ok;have hf:=RdN.sl he;obtain ⟨yk,ys,yn,hx,yl,hy,X,yt,ya⟩:=mc;obtain ⟨⟨YA,hp,yc,hg⟩,⟨YB,hq,yd,hh⟩⟩:=hf;(simp only[Nc.al,Nc.ks] at hg hh);subst hg;subst hh;simp only[cellsN];have D:=Y.ext I)|(refine Zf rfl 25 (.tmp 2) (.tmp 7) rfl (w.heap.size+1) _ rfl rfl _ _ D ZJ rfl YU ?_))
  ((try simp only[Exit.inBlock,Exit.then]);refine ZD (ZI rfl _ _ _ _ _ _ _ rfl (ZF _ _ _ _ _ _ D) underlying25 rfl ZJ) rfl ?_);exact ⟨_,rfl,⟨.mk yk ys yn (.slice YA hp yc) yl (.slice YB hq yd) X yt ya,rfl,hl,RdN.grown (Yx _ _ _) _ he (F _ om (hi.out _ om)),λr hr hm=>F r om hm⟩,(K.trans I).setRow om _⟩
section
variable {c:Nat} {s:List UInt8}
def TreeRet (w:Wq) (v:Value):Option Nd->Prop
 |some m=>∃mc:Nc,v= .tuple #[.agg (cellsN mc).toArray,nI 1]/\mc.nd=m/\RdN w mc
 |none=>v= .tuple #[.agg (cellsN (Nc.mk 0 [] [] sN [] sN [] [] 0)).toArray,nI 0]
theorem Et {fin x c:Nat}:∀(f:Nat) (found:Option Nd) (l:List Tok),docGo fin f found l= .error (x,c)->c≠0
 |0,found,l,h=>by rw[docGo] at h;injection h with h;injection h with _ h;omega
 |f+1,found,[],h=>by
  rw[J6] at h
  cases found with
  |none=>injection h with h;injection h with _ h;omega
  |some y=>cases h
 |f+1,found,t::r,h=>by
  rw[JE] at h
  split at h
  ·injection h with h;injection h with _ h;omega
  ·split at h
   ·injection h with h;injection h with _ h;omega
   ·split at h
    ·split at h
     ·injection h with h;injection h with _ h;omega
     ·exact Et f found r h
    ·split at h
     ·rename_i y A
      obtain ⟨y1,y2⟩:=y
      have:=ZrI A
      injection h with h;injection h with _ h;omega
     ·exact Et f _ _ h
theorem Zmu {x:Nat} (h:docP s= .error (x,c)):c≠0:=by
 rw[QB] at h;split at h
 ·rename_i y A;obtain ⟨y1,y2⟩:=y;have:=ZeP A;injection h with h;injection h with _ h;omega
 ·exact Et _ _ _ h
theorem ZaR (s:ByteArray) (w:Wq) (hs:s.size<=maxLen):
 Calls prog 10 #[.string s] w λe w'=>∃v,e= .returned v/\TreeRet w' v (treeP s.data.toList)/\Ext w w':=by
 have hA:=ZN s;obtain ⟨T,H⟩:∃T,treeP s.data.toList=T:=⟨_,rfl⟩;rw[H];unfold treeP at H;rw[hA] at H;obtain ⟨W0,ht⟩:∃W0,w.alloc (.cells #[nI 0,eS,eS,sN,sN,eS,nI 0] 25)=W0:=⟨_,rfl⟩;have hl:Ext w W0:=by rw[<-ht];exact (Ext.refl w).alloc _
 have Y:BxN W0 w.heap.size 0 [] [] sN sN [] 0:=by rw[<-ht];exact Zg w _
 have hE:w.heap.size<W0.heap.size:=by rw[<-ht,Zu];omega
 by_cases h5:5000<s.size
 ·rw[Zi h5] at H;subst H;have hb:(5000:Int)<(s.size:Int):=om
  clear h5;go_enter func10,ntmps10
  go_wp2_with (first|(refine Zf rfl 25 (.tmp 2) (.tmp 13) rfl w.heap.size #[nI 0,eS,eS,sN,sN,eS,nI 0] rfl rfl _ _ Y ZJ rfl UF ?_))
  ((try simp only[Exit.inBlock,Exit.then]);refine ZD (Yn rfl _ _ _ _ _ _ _ rfl (ZF _ _ _ _ _ _ Y) underlying25 rfl ZJ) rfl ?_);exact ⟨_,rfl,rfl,hl.setRow (Zc _) _⟩
 ·rw[Ze h5] at H;have hb:¬(5000:Int)<(s.size:Int):=om
  have Q:=λw'=>I6 s w' om;cases hp:docP s.data.toList with
  |error yc=>
   obtain ⟨y,c⟩:=yc;have hu:=Zmu hp;have hH:((c:Int) !=0)=true:=(by rw[Xk];omega);rw[hp] at H Q;dsimp only at H;subst H;have HP:=gd Q;clear Q hp hu h5;go_enter func10,ntmps10
   go_wp2_with (first|(go_at_call 26;refine Za (HP.out _) ?_;rintro e w2 ⟨v2,rfl,⟨mc,rfl,h⟩,S⟩;obtain ⟨mk,ms,mn,hF,ml,hG,hi,mt,ma⟩:=mc;obtain ⟨⟨MA,J,I,A⟩,⟨MB,K,md,D⟩⟩:=h;(simp only[Nc.al,Nc.ks] at A D);subst A;subst D;simp only[cellsN];have F:=S.alloc (.cells #[nI (mk:Nat),.string (str ms),.string (str mn),.slice MA J I,.slice MB K md,.string (str mt),nI (ma:Nat)] 25);have R:=Y.ext F)|(refine Zf rfl 25 (.tmp 2) (.tmp 22) rfl w.heap.size #[nI 0,eS,eS,sN,sN,eS,nI 0] rfl rfl _ _ R ZJ rfl UF ?_))
   ((try simp only[Exit.inBlock,Exit.then]);refine ZD (Yn rfl _ _ _ _ _ _ _ rfl (ZF _ _ _ _ _ _ R) underlying25 rfl ZJ) rfl ?_);exact ⟨_,rfl,rfl,(hl.trans F).setRow (Zc _) _⟩
  |ok n=>
   have ha:=(Eu hp).1;have hB:=ZjN hp;rw[hA] at ha;rw[hp] at H Q;dsimp only at H;have HP:=gd Q;obtain ⟨RR,hk⟩:∃RR,resP n []=RR:=⟨_,rfl⟩;rw[hk] at H;have hz:Hid (∀(x:Nc) (w':Wq),x.nd=n->RdN w' x->Calls prog 27 #[.agg (cellsN x).toArray] w' λe w2=>∃v,e= .returned v/\ResRet x w'.heap.size w2 v RR/\Ext w' w2):=λx w' hx hr=>(by subst hx;rw[<-hk];exact GI s.size om x w' hr ha hB);have ho:=gd (λy c (e:RR= .error (y,c))=>ZcK (c:=c) (x:=y) n [] (hk.trans e));clear Q hp ha hB hk h5;cases RR with
   |error yc=>
    obtain ⟨y,c⟩:=yc;dsimp only at H;subst H;have hu:=ho.out y c rfl;have hH:((c:Int) !=0)=true:=(by rw[Xk];omega);clear ho hu;go_enter func10,ntmps10
    go_wp2_with (first|(go_at_call 26;refine Za (HP.out _) ?_;rintro e w2 ⟨v2,rfl,⟨mc,rfl,hv,hd,hc⟩,S⟩;have hm:=hc w.heap.size hE;have h:=RdN.sl hd;obtain ⟨mk,ms,mn,hF,ml,hG,hi,mt,ma⟩:=mc;obtain ⟨⟨MA,J,I,A⟩,⟨MB,K,md,D⟩⟩:=h;(simp only[Nc.al,Nc.ks] at A D);subst A;subst D;simp only[cellsN];have F:=S.alloc (.cells #[nI (mk:Nat),.string (str ms),.string (str mn),.slice MA J I,.slice MB K md,.string (str mt),nI (ma:Nat)] 25);have R:=Y.ext F;have he:=RdN.ext ((Ext.refl w2).alloc (.cells #[nI (mk:Nat),.string (str ms),.string (str mn),.slice MA J I,.slice MB K md,.string (str mt),nI (ma:Nat)] 25)) _ hd)|(go_at_call 27;have hq:=hz.out _ _ hv he;simp only[cellsN] at hq;refine Za hq ?_;clear hq;rintro e4 w4 ⟨v4,rfl,hw,hf⟩;obtain ⟨zc,rfl,h⟩:=hw.err;obtain ⟨zk,zs,zn,hI,zl,hJ,hj,zt,za⟩:=zc;obtain ⟨⟨ZA,V,U,hg⟩,⟨ZB,X,zd,hh⟩⟩:=h;(simp only[Nc.al,Nc.ks] at hg hh);subst hg;subst hh;simp only[cellsN];have hy:=(hl.trans (F.trans hf)).alloc (.cells #[nI (zk:Nat),.string (str zs),.string (str zn),.slice ZA V U,.slice ZB X zd,.string (str zt),nI (za:Nat)] 25);have Z:=(R.ext hf).ext ((Ext.refl w4).alloc (.cells #[nI (zk:Nat),.string (str zs),.string (str zn),.slice ZA V U,.slice ZB X zd,.string (str zt),nI (za:Nat)] 25)))|(refine Zf rfl 25 (.tmp 2) (.tmp 31) rfl w.heap.size #[nI 0,eS,eS,sN,sN,eS,nI 0] rfl rfl _ _ Z ZJ rfl UF ?_))
    ((try simp only[Exit.inBlock,Exit.then]);refine ZD (Yn rfl _ _ _ _ _ _ _ rfl (ZF _ _ _ _ _ _ Z) underlying25 rfl ZJ) rfl ?_);exact ⟨_,rfl,rfl,hy.setRow (Zc _) _⟩
   |ok m9=>
    dsimp only at H;subst H;clear ho;go_enter func10,ntmps10
    go_wp2_with (first|(go_at_call 26;refine Za (HP.out _) ?_;rintro e w2 ⟨v2,rfl,⟨mc,rfl,hv,hd,hc⟩,S⟩;have hm:=hc w.heap.size hE;have h:=RdN.sl hd;obtain ⟨mk,ms,mn,hF,ml,hG,hi,mt,ma⟩:=mc;obtain ⟨⟨MA,J,I,A⟩,⟨MB,K,md,D⟩⟩:=h;(simp only[Nc.al,Nc.ks] at A D);subst A;subst D;simp only[cellsN];have F:=S.alloc (.cells #[nI (mk:Nat),.string (str ms),.string (str mn),.slice MA J I,.slice MB K md,.string (str mt),nI (ma:Nat)] 25);have R:=Y.ext F;have he:=RdN.ext ((Ext.refl w2).alloc (.cells #[nI (mk:Nat),.string (str ms),.string (str mn),.slice MA J I,.slice MB K md,.string (str mt),nI (ma:Nat)] 25)) _ hd)|(go_at_call 27;have hq:=hz.out _ _ hv he;simp only[cellsN] at hq;refine Za hq ?_;clear hq;rintro e4 w4 ⟨v4,rfl,hw,hf⟩;obtain ⟨zc,rfl,hD,hn,hC⟩:=hw.ok;have h:=RdN.sl hn;obtain ⟨zk,zs,zn,hI,zl,hJ,hj,zt,za⟩:=zc;obtain ⟨⟨ZA,V,U,hg⟩,⟨ZB,X,zd,hh⟩⟩:=h;(simp only[Nc.al,Nc.ks] at hg hh);subst hg;subst hh;simp only[cellsN];have hy:=(hl.trans (F.trans hf)).alloc (.cells #[nI (zk:Nat),.string (str zs),.string (str zn),.slice ZA V U,.slice ZB X zd,.string (str zt),nI (za:Nat)] 25);have Z:=(R.ext hf).ext ((Ext.refl w4).alloc (.cells #[nI (zk:Nat),.string (str zs),.string (str zn),.slice ZA V U,.slice ZB X zd,.string (str zt),nI (za:Nat)] 25)))|(refine Zf rfl 25 (.tmp 2) (.tmp 32) rfl w.heap.size _ rfl rfl _ _ Z ZJ rfl YU ?_))
    ((try simp only[Exit.inBlock,Exit.then]);refine ZD (Yn rfl _ _ _ _ _ _ _ rfl (ZF _ _ _ _ _ _ Z) underlying25 rfl ZJ) rfl ?_);have hws:w.heap.size<w2.heap.size:=(by have:=S.size;omega);exact ⟨_,rfl,⟨Nc.mk zk zs zn (.slice ZA V U) zl (.slice ZB X zd) hj zt za,rfl,hD,RdN.grown (Yx _ _ _) _ (RdN.ext ((Ext.refl w4).alloc _) _ hn) (hC _ (by rw[Zu];omega) hm)⟩,hy.setRow (Zc _) _⟩
end
section
variable {B q:Nat} {w:World}
theorem Keep.toExt {a b c:Wq} {g:Nat} {r:Option Nat} (h:Ext a b) (k:Keep b c g r) (H:a.heap.size<=g) (A:∀q,r=some q->a.heap.size<=q):Ext a c:=by
 obtain ⟨w1,D,F⟩:=k.split;exact Ext.grown' (B:=0) (Ext.grown' (B:=0) h D (λq e=>by injection e with e;omega)) F A
theorem Zip {y:Fc} (h:WcF w B y) (D:q<B):awayC y (some q):=by
 refine ⟨?_,?_⟩
 ·cases hp:y.f.path with
  |nil=>exact Or.inl rfl
  |cons x t=>obtain ⟨ad,n,c,u,e,A, -, -⟩:=h.1 0 (by rw[hp];simp);right;rw[e];intro e2;have e3:ad.block=q:=(by injection e2);omega
 ·cases hp:y.f.ents with
  |nil=>exact Or.inl rfl
  |cons x t=>obtain ⟨ad,n,c,u,e,A, -, -⟩:=h.2 0 (by rw[hp];simp);right;rw[e];intro e2;have e3:ad.block=q:=(by injection e2);omega
theorem Ziy (N M:Nat) (hN:N<=10000) (hM:M<=1000000) (x:Nc) (w:Wq) (hE:Env w) (hr:RdN w x) (hf:x.nd.fd N) (hc:x.nd.cnt<=M) (gi:∀l,opmlP x.nd= .ok l->distF l\/LatF):
 Calls prog 12 #[.agg (cellsN x).toArray] w λe w'=>∃v,e= .returned v/\DecRet w' v (opmlP x.nd)/\Ext w w':=by
 obtain ⟨k,s,n,al,l0,ks,kids,t,a⟩:=x;have gM:=hr;rw[RdN] at hr;obtain ⟨gk,gK,gJ⟩:=hr;have h9:=(XC kids).1 gJ;have hd:=hf;have h8:=hc;rw[Nc.nd,Nd.fd] at hd;rw[Nc.nd,Nd.cnt] at h8;have fa:kids.length<=N:=by have:=hd.2.2.2.2.2.1;rwa [Jw] at this
 have ff:l0.length<=N:=hd.2.2.2.1;have g9:k<=1:=hd.1;have gH:=hd.2.2.2.2.2.2.2.2;obtain ⟨A,c,g3, -, -⟩:=gk.form;obtain ⟨B,d,fc, -, -⟩:=RNs.form gK;subst g3;subst fc;obtain ⟨W0,hY⟩:∃W0,(w.alloc (.cells #[nI (k:Nat),.string (str s),.string (str n),.slice A l0.length c,.slice B kids.length d,.string (str t),nI (a:Nat)] 25)).alloc (.cells #[sN] 31)=W0:=⟨_,rfl⟩;have h5:Ext w W0:=by rw[<-hY];exact ((Ext.refl w).alloc _).alloc _
 have gE:BxN W0 w.heap.size k s n (.slice A l0.length c) (.slice B kids.length d) t a:=by rw[<-hY];exact BxN.ext (Zg w _) ((Ext.refl _).alloc _)
 have gS:W0.heap[w.heap.size+1]? =some (.cells #[sN] 31):=by rw[<-hY];exact YS w _ _
 have gN:w.heap.size+2<=W0.heap.size:=by rw[<-hY,Zu,Zu];exact Zc _
 obtain ⟨b0,b1,b2,b3,b4,b5,b6⟩:=gE.cells;have hn:=gd h5;have ga:=gd gE;have hG:=gd gS;have gY:=gd gN;have gX:=gd (RdN.ext h5 _ gM);have gV:=gd (RAts.ext gk h5);have hl:=gd (λw' (v:Value) (hx:Ext W0 w') (hv:RSl w' 1 v 1 (strsV [versionL]))=>Ej (.mk k s n (.slice A l0.length c) l0 (.slice B kids.length d) kids t a) v [versionL] w' (gV.out.ext hx) ⟨_,_,_,rfl⟩ (by show l0.length<=_;omega) hv (by decide));have hV:=gd (λw' (hx:Ext W0 w')=>Iy (.mk k s n (.slice A l0.length c) l0 (.slice B kids.length d) kids t a) [] bodyL w' (RdN.ext hx _ gX.out) (by show kids.length<=_;omega));have gf:Hid (∀W:Wq,RSl (W.alloc (.cells #[.string ⟨#[118,101,114,115,105,111,110]⟩] 9)) 1 (.slice (some ⟨W.heap.size,0,none⟩) 1 1) 1 (strsV [versionL])):=gd (λW=>Yo (cs:=strsV [versionL]) rfl (by decide));rw[Gi,<-Ip] at hl;simp only[cellsN,Nc.kids,Nc.attrs,Vy,Zl5] at hl hV|-;have gs:(Nc.mk k s n (.slice A l0.length c) l0 (.slice B kids.length d) kids t a).nd= .mk k s n l0 (Nc.nds kids) t a:=by rw[Nc.nd]
 rw[gs];simp only[gs] at gi;have hI:Hid (attrL (Nd.mk k s n l0 (Nc.nds kids) t a) versionL=attrN l0 [] versionL):=gd rfl;have gb:=gd (λe=>ZlG (n:=Nd.mk k s n l0 (Nc.nds kids) t a) e);have gc:=gd (λh1 h2 h3 h4=>ZlH (n:=Nd.mk k s n l0 (Nc.nds kids) t a) h1 h2 h3 h4);obtain ⟨XV,gD⟩:∃XV,attrN l0 [] versionL=XV:=⟨_,rfl⟩;rw[gD] at hI hl;clear h5 gS gN gM gk gK gJ hd h8 gD gs;obtain ⟨VS,hi⟩:∃VS,XV.getD []=VS:=⟨_,rfl⟩;rw[hi] at hl;have R:=(Ext.refl W0).alloc (.cells #[.string ⟨#[118,101,114,115,105,111,110]⟩] 9);by_cases H:k≠0\/s≠ []\/n≠opmlL\/attrL (Nd.mk k s n l0 (Nc.nds kids) t a) versionL≠some twoL;have hR:=gb.out H;obtain ⟨RR,gB⟩:∃RR,opmlP (Nd.mk k s n l0 (Nc.nds kids) t a)=RR:=⟨_,rfl⟩;rw[gB] at hR|-;subst hR;have hJ:Hid (attrL (Nd.mk k s n l0 (Nc.nds kids) t a) versionL=XV):=hI;clear hI gb gc gB;by_cases hk:k=0;by_cases hp:s= [];by_cases hT:n=opmlL
 focus
  have gO:VS≠twoL:=λe=>by
   rcases H with h|h|h|h
   ·exact h hk
   ·exact h hp
   ·exact h hT
   ·rw[hJ.out] at h
    cases XV with
    |none=>rw[<-hi] at e;cases e
    |some v=>exact h (by rw[<-hi] at e;exact Zz some e)
  clear H
  have q1:((k:Int) !=0)=false:=by rw[hk];rfl
  have q2:(str s).toList.isEmpty=true:=by rw[hp];exact UK
  have q3:((str n).toList== [111,112,109,108])=true:=QS hT
  have q4:((str VS).toList== [50,46,48])=false:=JU gO
  clear hk hp hT hi hJ gO
  go_enter func12,ntmps12
  go_wp2_with (first|(go_at_call 28;refine Za (hl.out _ _ R (gf.out _)) ?_;rintro e W1 ⟨rfl,hs⟩;obtain ⟨d0,d1,d2,d3,d4,d5,d6⟩:=(ga.out.ext (R.trans hs)).cells))
  have hC:=hn.out.trans (R.trans hs)
  have hu:=(R.trans hs).heap hG.out
  have J:=(Ext.refl W1).drew
  have D:W1.drew.cell? ⟨w.heap.size,6,none⟩=some (nI (a:Nat)):=J.cell d6
  have hj:W1.drew.heap[w.heap.size+1]? =some (.cells #[sN] 31):=J.heap hu
  have hb:=(Z8 (a:=⟨w.heap.size,6,none⟩) (Yf W1.drew (w.heap.size+1) w.heap.size #[sN] om)).trans D
 rotate_left
 focus
  clear H
  have q1:((k:Int) !=0)=false:=by rw[hk];rfl
  have q2:(str s).toList.isEmpty=true:=by rw[hp];exact UK
  have q3:((str n).toList== [111,112,109,108])=false:=JU hT
  clear hk hp hT hi hJ
  have hC:=hn.out
  have hu:=hG.out
  go_enter func12,ntmps12
  go_wp2
  have J:=(Ext.refl W0).drew
  have D:W0.drew.cell? ⟨w.heap.size,6,none⟩=some (nI (a:Nat)):=J.cell b6
  have hj:W0.drew.heap[w.heap.size+1]? =some (.cells #[sN] 31):=J.heap hu
  have hb:=(Z8 (a:=⟨w.heap.size,6,none⟩) (Yf W0.drew (w.heap.size+1) w.heap.size #[sN] om)).trans D
 rotate_left
 focus
  clear H
  have q1:((k:Int) !=0)=false:=by rw[hk];rfl
  have q2:(str s).toList.isEmpty=false:=V4 hp
  clear hk hp hi hJ
  have hC:=hn.out
  have hu:=hG.out
  go_enter func12,ntmps12
  go_wp2
  have J:=(Ext.refl W0).drew
  have D:W0.drew.cell? ⟨w.heap.size,6,none⟩=some (nI (a:Nat)):=J.cell b6
  have hj:W0.drew.heap[w.heap.size+1]? =some (.cells #[sN] 31):=J.heap hu
  have hb:=(Z8 (a:=⟨w.heap.size,6,none⟩) (Yf W0.drew (w.heap.size+1) w.heap.size #[sN] om)).trans D
 rotate_left
 focus
  clear H
  have q1:((k:Int) !=0)=true:=by rw[Xk];omega
  clear hk hi hJ
  have hC:=hn.out
  have hu:=hG.out
  go_enter func12,ntmps12
  go_wp2
  have J:=(Ext.refl W0).drew
  have D:W0.drew.cell? ⟨w.heap.size,6,none⟩=some (nI (a:Nat)):=J.cell b6
  have hj:W0.drew.heap[w.heap.size+1]? =some (.cells #[sN] 31):=J.heap hu
  have hb:=(Z8 (a:=⟨w.heap.size,6,none⟩) (Yf W0.drew (w.heap.size+1) w.heap.size #[sN] om)).trans D
 rotate_left
 ·skip
  have gm:k=0:=GV λe=>H (Or.inl e);have gn:s= []:=GV λe=>H (Or.inr (Or.inl e));have go:n=opmlL:=GV λe=>H (Or.inr (Or.inr (Or.inl e)));have gp:attrL (Nd.mk k s n l0 (Nc.nds kids) t a) versionL=some twoL:=GV λe=>H (Or.inr (Or.inr (Or.inr e)));have hP:=gc.out gm gn go gp;have fl:XV=some twoL:=by rw[<-hI.out];exact gp
  subst fl;have fj:VS=twoL:=hi.symm;subst fj;have q1:((k:Int) !=0)=false:=by rw[gm];rfl
  have q2:(str s).toList.isEmpty=true:=by rw[gn];exact UK
  have q3:((str n).toList== [111,112,109,108])=true:=QS go;have q4:((str twoL).toList== [50,46,48])=true:=QS rfl;rw[show (Nd.mk k s n l0 (Nc.nds kids) t a).kids=Nc.nds kids from rfl,show (Nd.mk k s n l0 (Nc.nds kids) t a).at_=a from rfl,Zgv,<-QJ] at hP;obtain ⟨L,hL⟩:∃L,kids.filter (isKid [] bodyL)=L:=⟨_,rfl⟩;rw[hL] at hP hV;rw[hP];have hW:=λl h=>gi l (hP.trans h);clear gi;have gu:Hid (∀y∈L,RdN W0 y/\y.nd.fd N/\y.nd.cnt<=M):=gd (λy hy=>by
   rw[<-hL,YW] at hy;have hm:y.nd∈Nc.nds kids:=(by rw[Je];exact Yc hy.1);refine ⟨RdN.ext hn.out _ (h9 y hy.1),(Nds.fd_iff _).1 gH _ hm,?_⟩;have:=Ze5 hm;rw[Nc.nd,Nd.cnt] at hc;omega)
  clear H gm gn go gp hI gb gc h9 hL hP hf hc gH fa ff g9 hi;cases L with
  |nil=>
   rw[Nc.nds];dsimp only[List.head?];go_enter func12,ntmps12
   go_wp2_with (first|(go_at_call 28;refine Za (hl.out _ _ R (gf.out _)) ?_;rintro e W1 ⟨rfl,hs⟩;have V:=R.trans hs;obtain ⟨d0,d1,d2,d3,d4,d5,d6⟩:=(ga.out.ext V).cells)|(go_at_call 29;refine Za (hV.out _ V) ?_;rintro e I ⟨kv,rfl,gr,hU⟩;obtain ⟨U,uc,hB⟩:=Ym gr;subst hB;have e6:=hU.cell d6))
   have hh:=(hn.out.trans V).trans hU;have fm:=(V.trans hU).heap hG.out;have J:=(Ext.refl I).drew;have D:I.drew.cell? ⟨w.heap.size,6,none⟩=some (nI (a:Nat)):=J.cell e6;have hj:I.drew.heap[w.heap.size+1]? =some (.cells #[sN] 31):=J.heap fm;have hb:=(Z8 (a:=⟨w.heap.size,6,none⟩) (Yf I.drew (w.heap.size+1) w.heap.size #[sN] om)).trans D;refine rN ?_;change wpAny _ _ _ _ _ _ _ (World.drew _);refine YD (λw'=>w'.cell? ⟨w.heap.size,6,none⟩=some (nI (a:Nat))) ?_;refine tG 0 (.agg #[sN]) D ?_;refine tG 1 (.pointer (some ⟨w.heap.size,6,none⟩)) D ?_;refine tS 2 (nI (a:Nat)) rfl (λw' hS=>by have hq:w'.cell? ⟨w.heap.size,6,none⟩=some (nI (a:Nat)):=hS;go_simp) D ?_;go_simp;refine sS 3 λK hK=> ?_;refine YJ rfl 31 (.tmp 2) (.tmp 39) rfl (w.heap.size+1) #[sN] rfl rfl _ _ hj Xl rfl GB ?_;refine hK _ _ hb ?_;clear hK K;refine sS 4 λK hK=> ?_;go_simp;refine hK _ _ hb ?_;clear hK K;refine sS 5 λK hK=> ?_;go_simp;refine hK _ _ hb ?_;clear hK K;refine sE ?_;go_wp2;((try simp only[Exit.inBlock,Exit.then]);refine ZD (ZI rfl _ _ _ _ _ _ _ rfl (ZF _ _ _ _ _ _ hj) underlying31 rfl Xl) rfl ?_);exact ⟨_,rfl,rfl,(hh.trans J).setRow (Yu _) _⟩
  |cons b L=>
   rw[Nc.nds];dsimp only[List.head?];obtain ⟨hO,gl,gF⟩:=gu.out b Zx;have gy:=gd (λ(w':Wq) (fb vb:Nat) (hr:RdN w' b) (h1:VisS w' fb vb sN []) (h2:awayN (some fb) b) (h3:awayN none b)=>Zmb N M hN hM b.nd.ht b sN [] w' fb vb sN [] (Zc _) gl (by rw[ZK];omega) hr (RSl.nil _ 1) (Zj _) h1 h2 h3 (Or.inl rfl) (Or.inl rfl));have g4:=RdN.sl hO;have fe:(0:Int)<((b::L).length:Int):=(by rw[Zd];omega);obtain ⟨bn,gG⟩:∃m,(b::L).length=m:=⟨_,rfl⟩;rw[gG] at fe;have fn:¬bn=0:=om;have fq:((bn:Int)==0)=false:=(by rw[Zv];omega);have hQ:=λl hv=>Zh6 (b:=b.nd) (l:=l) hv gl gF;have ge:=gd hQ;rw[Nc.nds] at hW;dsimp only[List.head?] at hW;have gw:=gd hW;clear hW;have gg:=gd (λy c (h:visP b.nd []= .error (y,c))=>Zc1 b.nd _ h);obtain ⟨RV,gC⟩:∃RV,visP b.nd []=RV:=⟨_,rfl⟩;rw[gC] at gy ge gg gw|-;clear hQ gl gF gu gC;go_enter func12,ntmps12
   go_wp2_with (first|(go_at_call 28;refine Za (hl.out _ _ R (gf.out _)) ?_;rintro e W1 ⟨rfl,hs⟩;have V:=R.trans hs;obtain ⟨d0,d1,d2,d3,d4,d5,d6⟩:=(ga.out.ext V).cells)|(go_at_call 29;refine Za (hV.out _ V) ?_;rintro e I ⟨kv,rfl,gr,hU⟩;(obtain ⟨ad,c9,hB,hZ⟩:=RNs.at (RSl.of_own gr) (k:=0) (by rw[Zd];exact Zig _));rw[gG] at hB;subst hB;(rw[Xj,add_zero,JQ] at hZ);obtain ⟨yk,ys,yn,ft,yl,fu,S,yt,ya⟩:=b;obtain ⟨⟨YA,ym,yc,gQ⟩,⟨YB,hw,yd,gR⟩⟩:=g4;(simp only[Nc.al,Nc.ks] at gQ gR);subst gQ;subst gR;have hh:=V.trans hU;(have g7:((I.alloc (.cells #[sN] 29)).alloc (.cells #[.nilFunc] 63)).cell? ⟨I.heap.size+1,0,none⟩=some .nilFunc:=by rw[JW (YS I _ _)];rfl);have g6:((I.alloc (.cells #[sN] 29)).alloc (.cells #[.nilFunc] 63)).frozen? ⟨I.heap.size+1,0,none⟩=false:=Xy (YS I _ _) 0;obtain ⟨WB,gj⟩:∃WB,((I.alloc (.cells #[sN] 29)).alloc (.cells #[.nilFunc] 63))=WB:=⟨_,rfl⟩;(rw[gj] at g7 g6)))
   have hX:VisS (WB.setCell ⟨I.heap.size+1,0,none⟩ (.func (.func 30) #[] #[.pointer (some ⟨I.heap.size,0,none⟩),.pointer (some ⟨I.heap.size+1,0,none⟩)])) I.heap.size (I.heap.size+1) sN []:=by
    rw[<-gj];refine ⟨?_,?_,HFs.nil _ _,Yy _,(by intro x hx;cases hx)⟩
    ·exact (Z4 _ ⟨I.heap.size+1,0,none⟩ I.heap.size _ (by show I.heap.size≠I.heap.size+1;omega)).trans ((Uc _ _ (by rw[Zu];omega)).trans (Zg I _))
    ·exact block_setCell (YS I _ _) _
   have hD:Ext I (WB.setCell ⟨I.heap.size+1,0,none⟩ (.func (.func 30) #[] #[.pointer (some ⟨I.heap.size,0,none⟩),.pointer (some ⟨I.heap.size+1,0,none⟩)])):=(by rw[<-gj];exact (((Ext.refl I).alloc _).alloc _).setCell (Yu _) _);obtain ⟨W3,g2⟩:∃W3,WB.setCell ⟨I.heap.size+1,0,none⟩ (.func (.func 30) #[] #[.pointer (some ⟨I.heap.size,0,none⟩),.pointer (some ⟨I.heap.size+1,0,none⟩)])=W3:=⟨_,rfl⟩;rw[g2] at hX hD|-;obtain ⟨F,hA⟩:∃q,I.heap.size=q:=⟨_,rfl⟩;have gW:Hid (W0.heap.size<=F):=gd (by rw[<-hA];exact hh.size);have gx:=gd hX;have gz:=gd (hh.trans hD);have gZ:Hid (RdN W3 (.mk yk ys yn (.slice YA ym yc) yl (.slice YB hw yd) S yt ya)):=gd (RdN.ext (hh.trans hD) _ hO);have g1:Hid (awayN (some F) (.mk yk ys yn (.slice YA ym yc) yl (.slice YB hw yd) S yt ya)):=gd (Ja hO (by rw[<-hA];exact hh.size));have g0:Hid (awayN none (.mk yk ys yn (.slice YA ym yc) yl (.slice YB hw yd) S yt ya)):=gd (KL hO);obtain ⟨-, -,f2⟩:=hX.cell;have h7:=gd (hZ.ext hD);rw[hA] at gx f2|-;have fp:w.heap.size+1<F:=(by have:=gW.out;have:=gY.out;omega);have gt:Hid (ad.block≠F):=gd (by have h1:=ZW I _ hZ.c0;omega);clear hX hO R hA hZ;have ha:=(Ext.refl W3).drew;have D:W3.drew.cell? ⟨F+1,0,none⟩=some (.func (.func 30) #[] #[.pointer (some ⟨F,0,none⟩),.pointer (some ⟨F+1,0,none⟩)])/\AtNc W3.drew ad (.mk yk ys yn (.slice YA ym yc) yl (.slice YB hw yd) S yt ya):=⟨ha.cell f2,h7.out.ext ha⟩;refine rN ?_;change wpAny _ _ _ _ _ _ _ (World.drew _);refine YD (λw'=>w'.cell? ⟨F+1,0,none⟩=some (.func (.func 30) #[] #[.pointer (some ⟨F,0,none⟩),.pointer (some ⟨F+1,0,none⟩)])/\AtNc w' ad (.mk yk ys yn (.slice YA ym yc) yl (.slice YB hw yd) S yt ya)) ?_;refine tS 0 (.func (.func 30) #[] #[.pointer (some ⟨F,0,none⟩),.pointer (some ⟨F+1,0,none⟩)]) rfl (λw' hS=>by have hq:=hS.1;go_simp) D ?_;refine tG 1 (.slice (some ad) bn c9) D ?_;refine tG 2 (.pointer (some ad)) D ?_;refine tS 3 (.agg #[nI (yk:Nat),.string (str ys),.string (str yn),.slice YA ym yc,.slice YB hw yd,.string (str yt),nI (ya:Nat)]) rfl (λw' hS=>by obtain ⟨q0,q1,q2,q3,q4,q5,q6⟩:=hS.2;simp only[Nc.kind,Nc.space,Nc.name,Nc.al,Nc.ks,Nc.text,Nc.at_] at q0 q1 q2 q3 q4 q5 q6;go_simp) D ?_;go_simp;refine sS 4 λK hK=> ?_;go_simp;go_at_call 30;have hz:=gy.out W3.drew F (F+1) (RdN.ext ha _ gZ.out) (gx.out.ext ha) g1.out g0.out;simp only[cellsN] at hz
   with_reducible refine Za hz ?_
   clear hz;rintro e w9 ⟨he,gq⟩;have X:Keep W3 w9 F none:=Keep.ext_left ha gq;have hF:Ext w w9:=Keep.toExt (hn.out.trans gz.out) X om (by intro q e;cases e);have Q:w9.cell? ⟨F+1,0,none⟩=some (.func (.func 30) #[] #[.pointer (some ⟨F,0,none⟩),.pointer (some ⟨F+1,0,none⟩)])/\AtNc w9 ad (.mk yk ys yn (.slice YA ym yc) yl (.slice YB hw yd) S yt ya):=(by refine ⟨X.cell f2 (by show F+1≠F;omega) (by simp),?_⟩;have Y:ad.block≠F:=gt.out;obtain ⟨q0,q1,q2,q3,q4,q5,q6⟩:=h7.out;exact ⟨X.cell q0 Y (by simp),X.cell q1 Y (by simp),X.cell q2 Y (by simp),X.cell q3 Y (by simp),X.cell q4 Y (by simp),X.cell q5 Y (by simp),X.cell q6 Y (by simp)⟩);have h6:w9.heap[w.heap.size+1]? =some (.cells #[sN] 31):=X.heap (gz.out.heap hG.out) om (by simp);have gA:=gd hF;cases RV with
   |error yc9=>
    obtain ⟨y9,gh⟩:=yc9;have g5:=gg.out y9 gh rfl;have fo:((gh:Int) !=0)=true:=(by rw[Xk];omega);unfold VisRet at he;dsimp only at he;subst he;clear g5 gg;refine hK _ _ Q ?_;clear hK K;refine sS 5 λK hK=> ?_;go_simp;refine hK _ _ Q ?_;clear hK K;refine tG 6 (nI (y9:Nat)) Q ?_;refine tG 7 (nI (gh:Nat)) Q ?_;go_simp;refine sS 8 λK hK=> ?_;go_simp;refine hK _ _ Q ?_;clear hK K;refine sS 9 λK hK=> ?_;go_simp;refine hK _ _ Q ?_;clear hK K;refine sE ?_;clear Q gq X hF ha D f2
    go_wp2_with (first|(refine Zf rfl 31 (.tmp 2) (.tmp 53) rfl (w.heap.size+1) #[sN] rfl rfl _ _ h6 Xl rfl GB ?_))
    ((try simp only[Exit.inBlock,Exit.then]);refine ZD (ZI rfl _ _ _ _ _ _ _ rfl (ZF _ _ _ _ _ _ h6) underlying31 rfl Xl) rfl ?_);exact ⟨_,rfl,rfl,gA.out.setRow (Yu _) _⟩
   |ok l9=>
    have hg:=ge.out l9 rfl;unfold VisRet at he;dsimp only at he;obtain ⟨g8,u9,O9,Z,ho, -⟩:=he;subst g8;rw[Z2,Z7] at ho;have gU:=gd (Ze1 u9 O9 w9 (hE.ext hF) Z.hf.row.reads Z.hf.rd (λx hx=>((ZfP hN hM ho hg).2.1 x hx).1) (ZfP hN hM ho hg).1 (ZfP hN hM ho hg).2.2 (Or.inl (by rw[ZbC λy hy=>(hg.2 y.f (by rw[<-ho];exact Yc hy)).ents];decide)) ((gw.out l9 rfl).imp (λh=>by rw[ho];exact h) id));obtain ⟨UA,fr,fh⟩:=Ym Z.hf.row;subst fh;obtain ⟨e0, -, -⟩:=Z.cell;have fg:w.heap.size+1<w9.heap.size:=(ZP.1 h6).1;clear Z hg ge;refine hK _ _ Q ?_;clear hK K;refine sS 5 λK hK=> ?_;go_simp;refine hK _ _ Q ?_;clear hK K;refine tG 6 (nI 0) Q ?_;refine tG 7 (nI 0) Q ?_;go_simp;refine sS 8 λK hK=> ?_;go_simp;refine hK _ _ Q ?_;clear hK K;refine sS 9 λK hK=> ?_;go_simp;refine hK _ _ Q ?_;clear hK K;refine sE ?_;clear Q gq X hF ha D f2
    go_wp2_with (first|(go_at_call 34;refine Za gU.out ?_;rintro e W4 ⟨v4,lc,rfl,gL,h0,fk,gP⟩;obtain ⟨VA,hH,fi⟩:=Ym h0.row;subst fi;have gT:=(gP.alloc (.cells #[.slice VA lc.length hH] 31)).heap h6)|(refine Zf rfl 31 (.tmp 10) (.tmp 59) rfl W4.heap.size #[.slice VA lc.length hH] rfl rfl _ _ (Zg _ _) Xl rfl GB ?_;rw[Z0])|(refine Zf rfl 31 (.tmp 2) (.tmp 61) rfl (w.heap.size+1) #[.slice VA lc.length hH] rfl rfl _ _ gT Xl rfl GB ?_))
    ((try simp only[Exit.inBlock,Exit.then]);refine ZD (ZI rfl _ _ _ _ _ _ _ rfl (ZF _ _ _ _ _ _ gT) underlying31 rfl Xl) rfl ?_);have gI:=Yx (W4.alloc (.cells #[.slice VA lc.length hH] 31)) (w.heap.size+1) #[.slice VA lc.length hH];rw[ho] at gL;refine ⟨_,rfl,⟨.slice VA lc.length hH,lc,rfl,gL,RSl.grown (RSl.ext (OFcs.reads h0.row) ((Ext.refl W4).alloc _)) gI (Or.inr λe=>by have:=(h0.row.lt _ e).1;omega),λy hy=>((h0.rd y hy).ext ((Ext.refl W4).alloc _)).grown gI (Zip (fk y hy) fg)⟩,((gA.out.trans gP).alloc _).setRow (Yu _) _⟩
 all_goals
  refine rN ?_
  change wpAny _ _ _ _ _ _ _ (World.drew _)
  refine YD (λw'=>w'.cell? ⟨w.heap.size,6,none⟩=some (nI (a:Nat))) ?_
  refine tG 0 (.agg #[sN]) D ?_
  refine tG 1 (.pointer (some ⟨w.heap.size,6,none⟩)) D ?_
  refine tS 2 (nI (a:Nat)) rfl (λw' hS=>by have hq:w'.cell? ⟨w.heap.size,6,none⟩=some (nI (a:Nat)):=hS;go_simp) D ?_
  go_simp
  refine sS 3 λK hK=> ?_
  refine YJ rfl 31 (.tmp 2) (.tmp 31) rfl (w.heap.size+1) #[sN] rfl rfl _ _ hj Xl rfl GB ?_
  refine hK _ _ hb ?_
  clear hK K
  refine sS 4 λK hK=> ?_
  go_simp
  refine hK _ _ hb ?_
  clear hK K
  refine sS 5 λK hK=> ?_
  go_simp
  refine hK _ _ hb ?_
  clear hK K
  refine sE ?_
  go_wp2
  ((try simp only[Exit.inBlock,Exit.then]);refine ZD (ZI rfl _ _ _ _ _ _ _ rfl (ZF _ _ _ _ _ _ hj) underlying31 rfl Xl) rfl ?_)
  exact ⟨_,rfl,rfl,(hC.trans J).setRow (Yu _) _⟩
end
end Go.Proofs.YtnlafkgkcnenfaaGreatDoor
