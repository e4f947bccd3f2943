/- Parts of the proof: contracts and plain laws. -/
import Derived.Test.YtmfinhgobjbecaaGreatDoorA15
import Derived.Test.YtmfinhgobjbecaaGreatDoorA16
namespace Go.Proofs.YtmfinhgobjbecaaGreatDoor
open Go Go.RowKit Go.WideMaps Go.Maps _root_.Go.Proofs.Tryz
set_option linter.unusedVariables false
set_option linter.unusedSimpArgs false
set_option maxRecDepth 100000
set_option maxHeartbeats 16000000
section
attribute [local go_sem] calm1
theorem Zda {s:List UInt8} {x c:Nat}:∀(n k:Nat) (l:List Tok),s.length - k<n->k<=s.length->toksAt s k l= .error (x,c)->c≠0
 |0,_,_,h,_,_=>by omega
 |n+1,k,l,hn,hk,h=>by
  by_cases A:s.length<=k
  ·rw[XW A] at h;cases h
  ·cases hc:constructP s k with
   |error y=>
    rw[J1 om hc] at h
    injection h with h
    subst h
    exact V8 om hc
   |ok te=>
    obtain ⟨t,e⟩:=te
    have C:=Yi om hc
    rw[YY om hc] at h
    exact Zda n e _ om C.2.1 h
theorem ZeJ {s:List UInt8} {x c:Nat} (h:toksP s= .error (x,c)):c≠0:=by
 rw[Vf] at h;split at h
 ·rename_i C;injection h with h;rw[h] at C;exact C
 ·refine Zda _ _ _ (ZrB _) ?_ h;split
  ·rename_i D;rcases Ya D with A|A
   ·exact A
   ·cases A
  ·exact ZqO _
theorem Zg5 {t:Tok}:∀{l:List Tok},t∈l->t.text.length<=txts l
 |u::l,h=>by
  rw[Yg]
  rcases Zq1.1 h with h|h
  ·rw[h];omega
  ·have:=Zg5 h
   omega
theorem Ext.but {a b c:Wq} {G:Nat} (h:Ext a b) (C:b.grownBy c (some G)) (D:a.heap.size<=G):Ext a c:=
 Below.grown h C h.size λk A=>by injection A with A;omega
def ParseRet (B n:Nat) (w:Wq) (v:Value):Except PErr Nd->Prop
 | .ok m=>∃mc:Nc,v= .tuple #[.agg (cellsN mc).toArray,nI (n:Nat),nI 0]/\mc.nd=m/\RdN w mc/\∀r,r<B->awayN (some r) mc
 | .error (y,c)=>∃mc:Nc,v= .tuple #[.agg (cellsN mc).toArray,nI (y:Nat),nI (c:Nat)]/\slN mc
theorem ToksRet.err {B n y c:Nat} {w:Wq} {v:Value} (h:ToksRet B w n v (.error (y,c))):v= .tuple #[sN,nI (y:Nat),nI (c:Nat)]:=h
theorem ToksRet.ok {B n:Nat} {w:Wq} {v:Value} {l:List Tok} (h:ToksRet B w n v (.ok l)):∃(u:Value) (lt:List Tc),v= .tuple #[u,nI (n:Nat),nI 0]/\lt.map Tc.t=l/\RSl w 6 u lt.length (flatT lt)/\(∀x∈lt,RdT w x)/\(∀x∈lt,∀g,x.al.ownBlock=some g->B<=g)/\∀g,u.ownBlock=some g->B<=g:=h
theorem I9 (s:ByteArray) (w:Wq) (hs:s.size<=80000000000):
 Calls prog 25 #[.string s] w λe w'=>∃v,e= .returned v/\ParseRet w.heap.size s.size w' v (docP s.data.toList)/\Ext w w':=by
 have hE:=Zb s;obtain ⟨D,hD⟩:∃D,docP s.data.toList=D:=⟨_,rfl⟩;rw[hD];rw[Js] at hD;obtain ⟨W0,hV⟩:∃W0,w.alloc (.cells #[.int .i64 0,(.string ⟨#[]⟩),(.string ⟨#[]⟩),(.slice none 0 0),(.slice none 0 0),(.string ⟨#[]⟩),.int .i64 0] 25)=W0:=⟨_,rfl⟩;have gl:Ext w W0:=by rw[<-hV];exact (Ext.refl w).alloc _
 have gf:BxN W0 w.heap.size 0 [] [] (.slice none 0 0) (.slice none 0 0) [] 0:=by rw[<-hV];exact ZqJ w _
 have hY:W0.heap.size=w.heap.size+1:=by rw[<-hV,Zd]
 have g9:=gd hY;have hz:=λw'=>ZdA s w' hs;cases htk:toksP s.data.toList with
 |error yc=>
  obtain ⟨y,c⟩:=yc;have gi:=ZeJ htk;have gW:((c:Int) !=0)=true:=by rw[ZrQ];omega
  rw[htk] at hD hz;dsimp only at hD;subst hD;have HT:=gd hz;clear hz htk gi hY;go_enter func25,ntmps25
  go_wp2_with (first|(go_at_call 57;refine ZqD (HT.out _) ?_;rintro e w2 ⟨v2,rfl,hT,hv⟩;have gU:=hT.err;clear hT;subst gU;have hR:=gf.ext hv)|(refine ZqF rfl 25 (.tmp 2) (.tmp 20) rfl w.heap.size #[.int .i64 0,(.string ⟨#[]⟩),(.string ⟨#[]⟩),(.slice none 0 0),(.slice none 0 0),(.string ⟨#[]⟩),.int .i64 0] rfl rfl _ _ hR Ze rfl X8 ?_))
  ((try simp only[Exit.inBlock,Exit.then]);refine ZqT (Zc rfl _ _ _ _ _ _ _ rfl (ZqV _ _ _ _ _ _ hR) underlying25 rfl Ze) rfl ?_);exact ⟨_,rfl,⟨Nc.mk 0 [] [] (.slice none 0 0) [] (.slice none 0 0) [] [] 0,rfl,⟨⟨_,_,_,rfl⟩,⟨_,_,_,rfl⟩⟩⟩,(gl.trans hv).setRow (ZqE _) _⟩
 |ok l=>
  have S:=VJ htk;rw[htk] at hD hz;dsimp only at hD;have HT:=gd hz;clear hz htk;go_enter func25,ntmps25
  go_wp2_with (first|(go_at_call 57;refine ZqD (HT.out _) ?_;rintro e w2 ⟨v2,rfl,hT,hv⟩;obtain ⟨u,lt,rfl,g0,hy,hL,gg,gJ⟩:=hT.ok;clear hT;have hR:=gf.ext hv;obtain ⟨-,UA,uc,rfl, -, -, -⟩:=id hy))
  have fg:w.heap.size+1<=w2.heap.size:=by have:=hv.size;omega
  rw[hY] at gg gJ;subst g0;obtain ⟨G,hG⟩:∃g,w2.heap.size=g:=⟨_,rfl⟩;obtain ⟨W3,hB⟩:∃W3,(w2.alloc (.cells #[.slice UA lt.length uc,.int .i64 0,.int .i64 0,.int .i64 0] 108)).alloc (.cells #[.int .i64 0,(.string ⟨#[]⟩),(.string ⟨#[]⟩),(.slice none 0 0),(.slice none 0 0),(.string ⟨#[]⟩),.int .i64 0] 25)=W3:=⟨_,rfl⟩;have gE:BxP W3 G (.slice UA lt.length uc) 0 0 0:=by rw[<-hB,<-hG];exact ((Ext.refl _).alloc _).heap (ZqJ w2 _)
  have gz:W3.heap[G+1]? =some (.cells (cellsN (Nc.mk 0 [] [] (.slice none 0 0) [] (.slice none 0 0) [] [] 0)).toArray 25):=by rw[<-hB,<-hG];exact ZI w2 _ _
  have gm:Ext w2 W3:=by rw[<-hB];exact ((Ext.refl _).alloc _).alloc _
  have gF:W3.heap.size=G+2:=by rw[<-hB,Zd,Zd,hG]
  have gs:=hR.ext gm;have hZ:=gl.trans hv;have hI:∀w',Ext w2 w'->PCtx w' G (.slice UA lt.length uc) lt:=λw' hx=>by
   refine ⟨RSl.ext hy hx,λx Z=>RAts.ext (hL x Z) hx,Iq hy ?_ (by intro k e;injection e with e;omega),λx Z=>RAts.awayNew (hL x Z) om⟩;by_cases hl:lt= []
   ·exact Or.inl (by rw[hl];rfl)
   ·refine Or.inr ?_;cases lt with
    |nil=>exact absurd rfl hl
    |cons x t=>unfold flatT;rw[Zq8,ZsB];unfold cellsT;simp
  have gG:∀r,r<=w.heap.size->TA lt r:=λr hr x Z=>Or.inr λe=>by have:=gg x Z _ e;omega
  have gH:TA lt (G+1):=λx Z=>RAts.awayNew (hL x Z) om;have gc:=gd hI;have gR:=gd gG;have gS:=gd gH;have h5:=gd S;have gQ:=gd hL;have gp:Hid (docAt s.data.toList.length (if false=true then some (Nc.mk 0 [] [] (.slice none 0 0) [] (.slice none 0 0) [] [] 0).nd else none) ((lt.map Tc.t).drop 0)=D):=hD;rw[hE] at S;have gZ:=S.len;rw[Zq9] at gZ;have gk:∀x∈lt,x.t.kind=1\/x.t.kind=2\/x.t.kind=3:=λx Z=>S.kind _ (Zrv Z);have gI:txts (lt.map Tc.t)<=2*s.size:=S.text;have gO:=gd (λi w' (hi:i<lt.length) (hI:PCtx w' G (.slice UA lt.length uc) lt) (hb:BxP w' G (.slice UA lt.length uc) i 0 0)=>Zfv s.size hs G (.slice UA lt.length uc) lt s.data.toList.length om gI gk (lt.length+1) i 1 w' om hi om hI hb);have gP:=gd gk;have fc:w.heap.size<G:=om
  (try rw[hB]);(try rw[hG]);clear hD hI gG gH S hL gk gI hy gg gJ hV gf gl hv hR hY hB;go_loopw [10] (λf wr=>∃(j:Nat) (m:Nc) (fb:Bool),j<=lt.length/\f= .bool fb/\BxP wr G (.slice UA lt.length uc) j 0 0/\wr.heap[G+1]? =some (.cells (cellsN m).toArray 25)/\slN m/\Hid (fb=true->RdN wr m/\awayN (some G) m/\∀r,r<=w.heap.size->awayN (some r) m)/\BxN wr w.heap.size 0 [] [] (.slice none 0 0) (.slice none 0 0) [] 0/\Ext w2 wr/\G+2<=wr.heap.size/\Hid (docAt s.data.toList.length (if fb=true then some m.nd else none) ((lt.map Tc.t).drop j)=D)) (λ_ wr=>lt.length - (intOf ((wr.cell? ⟨G,1,none⟩).getD undef)).toNat)
  case atStart=>exact ⟨0,Nc.mk 0 [] [] (.slice none 0 0) [] (.slice none 0 0) [] [] 0,false,ZqO _,rfl,gE,gz,⟨⟨_,_,_,rfl⟩,⟨_,_,_,rfl⟩⟩,(by intro h;cases h),gs,gm,Nat.le_of_eq gF.symm,gp⟩
  case round=>
   clear gE gz gs gm gF gp;obtain ⟨j,m,fb,hj,rfl,hp,hb,hM,hm,hR,hx,fi,hr⟩:=hrel;obtain ⟨mk,ms,mn,fk,ml,fl,hU,mt,ma⟩:=m;obtain ⟨⟨MA,h0,mc,hH⟩,⟨MB,h4,md,gC⟩⟩:=hM;simp only[Nc.al,Nc.ks] at hH gC;subst hH;subst gC;have gy:BxN wr (G+1) mk ms mn (.slice MA h0 mc) (.slice MB h4 md) mt ma:=hb;obtain ⟨b0,b1,b2,b3⟩:=hp.cells;have h7:Hid ((intOf ((wr.cell? ⟨G,1,none⟩).getD undef)).toNat=j):=(by have:(intOf ((wr.cell? ⟨G,1,none⟩).getD undef)).toNat=j:=(by rw[b1];simp[intOf]);exact this);have A:=hr.out;by_cases hF:j<lt.length;obtain ⟨gr,fj,g1,gx⟩:=RTs.at (gc.out wr hx).row hF;injection g1 with e1 e2 e3;subst e1;clear e2 e3;have fd:(0:Int)<=(j:Int):=om;have fe:(j:Int)<(lt.length:Int):=om;have hN:=Zq2 hF;have gL:=RdT.form (gQ.out _ hN);have gn:=gP.out _ hN;have gX:=h5.out.each _ (Zrv (f:=Tc.t) hN);rw[Qd hF,Kn] at A;have hn:=λw' hI hb=>gO.out j w' hF hI hb;have hX:=Qd hF;obtain ⟨x,go⟩:∃x,lt[j]=x:=⟨_,rfl⟩;rw[go] at gx gL gn A hX;obtain ⟨fm,⟨tk,tn,ta,gM,tt,Q⟩⟩:=x;obtain ⟨gq,tc,gb⟩:=gL;dsimp only at gb gn A hX;subst gb;obtain ⟨a0,a1,a2,a3,a4,a5⟩:=gx;dsimp only at a0 a1 a2 a3 a4 a5;obtain ⟨gt,gA⟩:∃g,wr.heap.size=g:=⟨_,rfl⟩;obtain ⟨W5,hC⟩:∃W5,wr.alloc (.cells #[.int .i64 (tk:Nat),.string (str tn),.slice gq ta.length tc,.bool gM,.string (str tt),.int .i64 (Q:Nat)] 110)=W5:=⟨_,rfl⟩;have Y:Ext wr W5:=(by rw[<-hC];exact (Ext.refl wr).alloc _);have gV:BxT W5 gt ⟨.slice gq ta.length tc,⟨tk,tn,ta,gM,tt,Q⟩⟩:=(by rw[<-hC,<-gA];exact ZqJ wr _);have fh:W5.heap.size=gt+1:=(by rw[<-hC,Zd,gA]);have g8:G+2<=gt:=om
   replace hp:=hp.ext Y
   replace hR:=hR.ext Y
   have gh:=gy.ext Y;obtain ⟨t0,t1,t2,t3,t4,t5, -⟩:=gV.cells;dsimp only at t0 t1 t2 t3 t4 t5;obtain ⟨p0,p1,p2,p3⟩:=hp.cells;obtain ⟨f1,f2,f3⟩:=hp.frozen;have R:=gd A;have gN:=gd hX;have g5:(str tt).size<=140737488351232:=by
    have h1:=h5.out.text;have h2:tt.length<=txts (lt.map Tc.t):=Zg5 (by
     have:=Zrv (f:=Tc.t) hN;rw[go] at this;exact this)
    rw[hE] at h1;have h3:txts (lt.map Tc.t)<=2*s.size:=h1;rw[Zo];omega
   clear hr A hX go gX hN;rcases gn with hk|hk|hk;subst hk;rw[show ((1:Nat):Int)=1 from rfl] at hC;cases fb
   ·have A:=R.out;rw[ZqH (by rintro ⟨-,h⟩;cases h),ZqH (by decide),ZqH (by decide),<-gN.out] at A;have ho:=hn W5 (gc.out _ (hx.trans Y)) hp;rw[hE] at ho;rw[hE] at A;cases he:elemAt s.size 1 ((lt.map Tc.t).drop j) with
    |error yc=>
     obtain ⟨y,c⟩:=yc;have gi:=Kp he;have gW:((c:Int) !=0)=true:=(by rw[ZrQ];omega);rw[he] at A ho;dsimp only at A;subst A;have HI:=gd ho;clear he gi hn ho R
     go_wp2_with (first|(go_at_call 59;refine ZqD HI.out ?_;rintro e6 U ⟨v6,rfl,gj,O⟩;obtain ⟨n6,j6,rfl,hM,ht⟩:=gj.err;obtain ⟨zk,zs,zn,g6,zl,g7,hw,zt,za⟩:=n6;obtain ⟨⟨ZA,F,zc,hP⟩,⟨ZB,H,zd,hQ⟩⟩:=hM;(simp only[Nc.al,Nc.ks] at hP hQ);subst hP;subst hQ;simp only[cellsN];(have hc:=gh.grown O (by intro e;injection e with e;omega));(have hA:=hR.grown O (by intro e;injection e with e;omega)))|(refine ZqF rfl 25 (.tmp 9) (.tmp 44) rfl (G+1) _ rfl rfl _ _ hc Ze rfl Zz ?_;(have hu:BxP (U.setRow (G+1) #[.int .i64 (zk:Nat),.string (str zs),.string (str zn),.slice ZA F zc,.slice ZB H zd,.string (str zt),.int .i64 (za:Nat)]) G (.slice (some gr) lt.length uc) j6 y c:=(Zrn U (G+1) G _ om).trans ht);(have hJ:BxN (U.setRow (G+1) #[.int .i64 (zk:Nat),.string (str zs),.string (str zn),.slice ZA F zc,.slice ZB H zd,.string (str zt),.int .i64 (za:Nat)]) w.heap.size 0 [] [] (.slice none 0 0) (.slice none 0 0) [] 0:=(Zrn U (G+1) w.heap.size _ om).trans hA);have hW:BxN (U.setRow (G+1) #[.int .i64 (zk:Nat),.string (str zs),.string (str zn),.slice ZA F zc,.slice ZB H zd,.string (str zt),.int .i64 (za:Nat)]) (G+1) zk zs zn (.slice ZA F zc) (.slice ZB H zd) zt za:=ZqV _ _ _ _ _ _ hc;(have hO:Ext w2 (U.setRow (G+1) #[.int .i64 (zk:Nat),.string (str zs),.string (str zn),.slice ZA F zc,.slice ZB H zd,.string (str zt),.int .i64 (za:Nat)]):=((hx.trans Y).but O om).setRow om _);obtain ⟨W8,ha⟩:∃W8,U.setRow (G+1) #[.int .i64 (zk:Nat),.string (str zs),.string (str zn),.slice ZA F zc,.slice ZB H zd,.string (str zt),.int .i64 (za:Nat)]=W8:=⟨_,rfl⟩;(rw[ha] at hu hJ hW hO);(try rw[ha]);obtain ⟨v0,v1,v2,v3⟩:=hu.cells))
     have J:=(Ext.refl W8).drew;have V:=BxN.ext hJ J;have C:W8.drew.cell? ⟨G,2,none⟩=some (.int .i64 (y:Nat))/\W8.drew.cell? ⟨G,3,none⟩=some (.int .i64 (c:Nat)):=⟨J.cell v2,J.cell v3⟩;have hd:G≠w.heap.size:=om;have X:(W8.drew.setRow w.heap.size #[.int .i64 0,(.string ⟨#[]⟩),(.string ⟨#[]⟩),(.slice none 0 0),(.slice none 0 0),(.string ⟨#[]⟩),.int .i64 0]).cell? ⟨G,2,none⟩=some (.int .i64 (y:Nat))/\(W8.drew.setRow w.heap.size #[.int .i64 0,(.string ⟨#[]⟩),(.string ⟨#[]⟩),(.slice none 0 0),(.slice none 0 0),(.string ⟨#[]⟩),.int .i64 0]).cell? ⟨G,3,none⟩=some (.int .i64 (c:Nat)):=⟨(Zrs (a:=⟨G,2,none⟩) (Zrn W8.drew w.heap.size G #[.int .i64 0,(.string ⟨#[]⟩),(.string ⟨#[]⟩),(.slice none 0 0),(.slice none 0 0),(.string ⟨#[]⟩),.int .i64 0] hd)).trans C.1,(Zrs (a:=⟨G,3,none⟩) (Zrn W8.drew w.heap.size G #[.int .i64 0,(.string ⟨#[]⟩),(.string ⟨#[]⟩),(.slice none 0 0),(.slice none 0 0),(.string ⟨#[]⟩),.int .i64 0] hd)).trans C.2⟩;clear ha v0 v1 v2 v3;refine rN ?_;change wpAny _ _ _ _ _ _ _ (World.drew _);refine ZE (λw'=>w'.cell? ⟨G,2,none⟩=some (.int .i64 (y:Nat))/\w'.cell? ⟨G,3,none⟩=some (.int .i64 (c:Nat))) ?_;refine tS 0 (.agg #[.int .i64 0,(.string ⟨#[]⟩),(.string ⟨#[]⟩),(.slice none 0 0),(.slice none 0 0),(.string ⟨#[]⟩),.int .i64 0]) rfl (λw' I=>by have hf:=I.1;have hg:=I.2;go_simp) C ?_;refine tS 1 (.pointer (some ⟨G,0,none⟩)) rfl (λw' I=>by have hf:=I.1;have hg:=I.2;go_simp) C ?_;refine tS 2 (.pointer (some ⟨G,0,none⟩)) rfl (λw' I=>by have hf:=I.1;have hg:=I.2;go_simp) C ?_;refine tS 3 (.pointer (some ⟨G,2,none⟩)) rfl (λw' I=>by have hf:=I.1;have hg:=I.2;go_simp) C ?_;refine tS 4 (.int .i64 (y:Nat)) rfl (λw' I=>by have hf:=I.1;have hg:=I.2;go_simp) C ?_;refine tS 5 (.pointer (some ⟨G,0,none⟩)) rfl (λw' I=>by have hf:=I.1;have hg:=I.2;go_simp) C ?_;refine tS 6 (.pointer (some ⟨G,0,none⟩)) rfl (λw' I=>by have hf:=I.1;have hg:=I.2;go_simp) C ?_;refine tS 7 (.pointer (some ⟨G,3,none⟩)) rfl (λw' I=>by have hf:=I.1;have hg:=I.2;go_simp) C ?_;refine tS 8 (.int .i64 (c:Nat)) rfl (λw' I=>by have hf:=I.1;have hg:=I.2;go_simp) C ?_;go_simp;refine sS 9 λK hK=> ?_;refine Zu rfl 25 (.tmp 2) (.tmp 50) rfl w.heap.size #[.int .i64 0,(.string ⟨#[]⟩),(.string ⟨#[]⟩),(.slice none 0 0),(.slice none 0 0),(.string ⟨#[]⟩),.int .i64 0] rfl rfl _ _ V Ze rfl X8 ?_;refine hK _ _ X ?_;clear hK K;refine sS 10 λK hK=> ?_;go_simp;refine hK _ _ X ?_;clear hK K;refine sS 11 λK hK=> ?_;go_simp;refine hK _ _ X ?_;clear hK K;refine sE ?_;go_wp2;((try simp only[Exit.inBlock,Exit.then]);refine ZqT (Zc rfl _ _ _ _ _ _ _ rfl (ZqV _ _ _ _ _ _ V) underlying25 rfl Ze) rfl ?_);exact ⟨_,rfl,⟨Nc.mk 0 [] [] (.slice none 0 0) [] (.slice none 0 0) [] [] 0,rfl,⟨⟨_,_,_,rfl⟩,⟨_,_,_,rfl⟩⟩⟩,((hZ.trans hO).trans J).setRow (ZqE _) _⟩
    |ok mr=>
     obtain ⟨m9,r9⟩:=mr;rw[he] at A ho;dsimp only at A;have HI:=gd ho;have HN:=gd A;have gu:=(gc.out _ hx).ta;have gT:=gd gu;clear he hn ho R gu A
     go_wp2_with (first|(go_at_call 59;refine ZqD HI.out ?_;rintro e6 U ⟨v6,rfl,gj,O⟩;obtain ⟨mc,j6,rfl,g2,gD,gB,g3,ht,hH⟩:=gj.ok;have hM:=RdN.sl gD;obtain ⟨zk,zs,zn,g6,zl,g7,hw,zt,za⟩:=mc;obtain ⟨⟨ZA,F,zc,hP⟩,⟨ZB,H,zd,hQ⟩⟩:=hM;(simp only[Nc.al,Nc.ks] at hP hQ);subst hP;subst hQ;simp only[cellsN];(have hc:=gh.grown O (by intro e;injection e with e;omega));(have hA:=hR.grown O (by intro e;injection e with e;omega)))|(refine ZqF rfl 25 (.tmp 9) (.tmp 44) rfl (G+1) _ rfl rfl _ _ hc Ze rfl Zz ?_;(have hu:BxP (U.setRow (G+1) #[.int .i64 (zk:Nat),.string (str zs),.string (str zn),.slice ZA F zc,.slice ZB H zd,.string (str zt),.int .i64 (za:Nat)]) G (.slice (some gr) lt.length uc) j6 0 0:=(Zrn U (G+1) G _ om).trans ht);(have hJ:BxN (U.setRow (G+1) #[.int .i64 (zk:Nat),.string (str zs),.string (str zn),.slice ZA F zc,.slice ZB H zd,.string (str zt),.int .i64 (za:Nat)]) w.heap.size 0 [] [] (.slice none 0 0) (.slice none 0 0) [] 0:=(Zrn U (G+1) w.heap.size _ om).trans hA);have hW:BxN (U.setRow (G+1) #[.int .i64 (zk:Nat),.string (str zs),.string (str zn),.slice ZA F zc,.slice ZB H zd,.string (str zt),.int .i64 (za:Nat)]) (G+1) zk zs zn (.slice ZA F zc) (.slice ZB H zd) zt za:=ZqV _ _ _ _ _ _ hc;(have hO:Ext w2 (U.setRow (G+1) #[.int .i64 (zk:Nat),.string (str zs),.string (str zn),.slice ZA F zc,.slice ZB H zd,.string (str zt),.int .i64 (za:Nat)]):=((hx.trans Y).but O om).setRow om _);(have ga:RdN (U.setRow (G+1) #[.int .i64 (zk:Nat),.string (str zs),.string (str zn),.slice ZA F zc,.slice ZB H zd,.string (str zt),.int .i64 (za:Nat)]) (Nc.mk zk zs zn (.slice ZA F zc) zl (.slice ZB H zd) hw zt za):=RdN.grown (ZG U (G+1) _) _ gD (hH (G+1) om gS.out));obtain ⟨W8,ha⟩:∃W8,U.setRow (G+1) #[.int .i64 (zk:Nat),.string (str zs),.string (str zn),.slice ZA F zc,.slice ZB H zd,.string (str zt),.int .i64 (za:Nat)]=W8:=⟨_,rfl⟩;(rw[ha] at hu hJ hW hO ga);(try rw[ha]);obtain ⟨v0,v1,v2,v3⟩:=hu.cells))
     have gw:=gd ha;clear ha v0 v1 v2 v3;go_roundw
     case rel=>
      refine ⟨j6,Nc.mk zk zs zn (.slice ZA F zc) zl (.slice ZB H zd) hw zt za,true,gB.2,rfl,hu,hW,⟨⟨_,_,_,rfl⟩,⟨_,_,_,rfl⟩⟩,λ_=>⟨ga,hH G om gT.out,λr hr=>hH r om (gR.out r hr)⟩,hJ,hO,?_,?_⟩
      ·have h1:=O.size;have h2:W8.heap.size=U.heap.size:=(by rw[<-gw.out];simp[World.setRow]);omega
      ·rw[ZqN rfl,g2,<-g3,hE];exact HN.out
     case measure=>have h8:=h7.out;have h9:=hu.cells.2.1;have fa:=gB;rw[h8,h9];simp[intOf];omega
   focus
    have A:=R.out
    rw[ZqN ⟨rfl,rfl⟩] at A
    subst A
    clear R hn
    go_wp2
    have J:=(Ext.refl W5).drew
    have V:=BxN.ext hR J
    have C:=J.cell t5
    have hd:gt≠w.heap.size:=om
    have X:=(Zrs (a:=⟨gt,5,none⟩) (Zrn W5.drew w.heap.size gt #[.int .i64 0,(.string ⟨#[]⟩),(.string ⟨#[]⟩),(.slice none 0 0),(.slice none 0 0),(.string ⟨#[]⟩),.int .i64 0] hd)).trans C
    refine rN ?_
    change wpAny _ _ _ _ _ _ _ (World.drew _)
    refine ZE (λw'=>w'.cell? ⟨gt,5,none⟩=some (.int .i64 (Q:Nat))) ?_
    refine tG 0 (.agg #[.int .i64 0,(.string ⟨#[]⟩),(.string ⟨#[]⟩),(.slice none 0 0),(.slice none 0 0),(.string ⟨#[]⟩),.int .i64 0]) C ?_
    refine tG 1 (.pointer (some ⟨gt,5,none⟩)) C ?_
    refine tS 2 (.int .i64 (Q:Nat)) rfl (λw' I=>by have hq:w'.cell? ⟨gt,5,none⟩=some (.int .i64 (Q:Nat)):=I;go_simp) C ?_
    go_simp
    refine sS 3 λK hK=> ?_
    refine Zu rfl 25 (.tmp 2) (.tmp 66) rfl w.heap.size #[.int .i64 0,(.string ⟨#[]⟩),(.string ⟨#[]⟩),(.slice none 0 0),(.slice none 0 0),(.string ⟨#[]⟩),.int .i64 0] rfl rfl _ _ V Ze rfl X8 ?_
   rotate_left
   focus
    subst hk
    rw[show ((2:Nat):Int)=2 from rfl] at hC
    have A:=R.out
    rw[ZqH (by rintro ⟨h, -⟩;cases h),ZqN rfl] at A
    subst A
    clear R hn
    go_wp2
    have J:=(Ext.refl W5).drew
    have V:=BxN.ext hR J
    have C:=J.cell t5
    have hd:gt≠w.heap.size:=om
    have X:=(Zrs (a:=⟨gt,5,none⟩) (Zrn W5.drew w.heap.size gt #[.int .i64 0,(.string ⟨#[]⟩),(.string ⟨#[]⟩),(.slice none 0 0),(.slice none 0 0),(.string ⟨#[]⟩),.int .i64 0] hd)).trans C
    refine rN ?_
    change wpAny _ _ _ _ _ _ _ (World.drew _)
    refine ZE (λw'=>w'.cell? ⟨gt,5,none⟩=some (.int .i64 (Q:Nat))) ?_
    refine tG 0 (.agg #[.int .i64 0,(.string ⟨#[]⟩),(.string ⟨#[]⟩),(.slice none 0 0),(.slice none 0 0),(.string ⟨#[]⟩),.int .i64 0]) C ?_
    refine tG 1 (.pointer (some ⟨gt,5,none⟩)) C ?_
    refine tS 2 (.int .i64 (Q:Nat)) rfl (λw' I=>by have hq:w'.cell? ⟨gt,5,none⟩=some (.int .i64 (Q:Nat)):=I;go_simp) C ?_
    go_simp
    refine sS 3 λK hK=> ?_
    refine Zu rfl 25 (.tmp 2) (.tmp 73) rfl w.heap.size #[.int .i64 0,(.string ⟨#[]⟩),(.string ⟨#[]⟩),(.slice none 0 0),(.slice none 0 0),(.string ⟨#[]⟩),.int .i64 0] rfl rfl _ _ V Ze rfl X8 ?_
   rotate_left
   subst hk;rw[show ((3:Nat):Int)=3 from rfl] at hC;have A:=R.out;rw[ZqH (by rintro ⟨h, -⟩;cases h),ZqH (by decide),ZqN rfl] at A;have hh:=λw'=>Zft (str tt) w' g5;rw[Zg] at hh;cases hbl:blankL tt
   focus
    rw[hbl,ZqN rfl] at A
    rw[hbl] at hh
    subst A
    have HB:=gd hh
    clear R hn hh hbl
    go_wp2_with (first|(go_at_call 58;refine ZqD (HB.out _) ?_;rintro e6 U ⟨rfl,h6⟩;have ge:=h6.symm;clear h6;subst ge))
    have J:=(Ext.refl W5).drew
    have V:=BxN.ext hR J
    have C:=J.cell t5
    have hd:gt≠w.heap.size:=om
    have X:=(Zrs (a:=⟨gt,5,none⟩) (Zrn W5.drew w.heap.size gt #[.int .i64 0,(.string ⟨#[]⟩),(.string ⟨#[]⟩),(.slice none 0 0),(.slice none 0 0),(.string ⟨#[]⟩),.int .i64 0] hd)).trans C
    refine rN ?_
    change wpAny _ _ _ _ _ _ _ (World.drew _)
    refine ZE (λw'=>w'.cell? ⟨gt,5,none⟩=some (.int .i64 (Q:Nat))) ?_
    refine tG 0 (.agg #[.int .i64 0,(.string ⟨#[]⟩),(.string ⟨#[]⟩),(.slice none 0 0),(.slice none 0 0),(.string ⟨#[]⟩),.int .i64 0]) C ?_
    refine tG 1 (.pointer (some ⟨gt,5,none⟩)) C ?_
    refine tS 2 (.int .i64 (Q:Nat)) rfl (λw' I=>by have hq:w'.cell? ⟨gt,5,none⟩=some (.int .i64 (Q:Nat)):=I;go_simp) C ?_
    go_simp
    refine sS 3 λK hK=> ?_
    refine Zu rfl 25 (.tmp 2) (.tmp 86) rfl w.heap.size #[.int .i64 0,(.string ⟨#[]⟩),(.string ⟨#[]⟩),(.slice none 0 0),(.slice none 0 0),(.string ⟨#[]⟩),.int .i64 0] rfl rfl _ _ V Ze rfl X8 ?_
   rotate_left
   ·rw[hbl,ZqH (by simp)] at A;rw[hbl] at hh;have HB:=gd hh;have HN:=gd A;clear R hn hh hbl A
    go_wp2_with (first|(go_at_call 58;refine ZqD (HB.out _) ?_;rintro e6 U ⟨rfl,h6⟩;have ge:=h6.symm;clear h6;subst ge))
    have ht:=hp.next (j+1);have hA:BxN (W5.setCell ⟨G,1,none⟩ (.int .i64 ((j+1:Nat):Int))) w.heap.size 0 [] [] (.slice none 0 0) (.slice none 0 0) [] 0:=hR.other om;have hc:BxN (W5.setCell ⟨G,1,none⟩ (.int .i64 ((j+1:Nat):Int))) (G+1) mk ms mn (.slice MA h0 mc) (.slice MB h4 md) mt ma:=gh.other om;have gK:Ext w2 (W5.setCell ⟨G,1,none⟩ (.int .i64 ((j+1:Nat):Int))):=(hx.trans Y).setCell (by show _<=G;omega) _;have g4:(W5.setCell ⟨G,1,none⟩ (.int .i64 ((j+1:Nat):Int))).heap.size=W5.heap.size:=(by simp[World.setCell]);have O:=ZY W5 ⟨G,1,none⟩ (.int .i64 ((j+1:Nat):Int));rw[show ((j+1:Nat):Int)=(j:Int)+1 by omega] at ht hA hc gK g4 O;go_roundw
    case rel=>
     refine ⟨j+1,Nc.mk mk ms mn (.slice MA h0 mc) ml (.slice MB h4 md) hU mt ma,fb,om,rfl,?_,hc,⟨⟨_,_,_,rfl⟩,⟨_,_,_,rfl⟩⟩,λh=> ?_,hA,gK,om,HN⟩
     ·unfold BxP;rw[show (((j+1:Nat):Int))=(j:Int)+1 by omega];exact ht
     ·obtain ⟨h1,h2,h3⟩:=hm.out h;exact ⟨RdN.grown O _ (RdN.ext Y _ h1) h2,h2,h3⟩
    case measure=>have h8:=h7.out;have h9:=ht.cells.2.1;rw[h8,h9];simp[intOf];omega
   ·have gY:j=lt.length:=om;subst gY;rw[Zq3 (by rw[Zq9];exact ZqE _),Zd3] at A;have ff:¬(lt.length:Int)<(lt.length:Int):=om;obtain ⟨m0,m1,m2,m3,m4,m5,m6⟩:=gy.cells;clear hr hF;cases fb with
    |false=>
     rw[ZqH (by simp)] at A;dsimp only at A;rw[hE] at A;subst A
     go_wp2_with (first|(refine ZqF rfl 25 (.tmp 2) (.tmp 102) rfl w.heap.size #[.int .i64 0,(.string ⟨#[]⟩),(.string ⟨#[]⟩),(.slice none 0 0),(.slice none 0 0),(.string ⟨#[]⟩),.int .i64 0] rfl rfl _ _ hR Ze rfl X8 ?_))
     ((try simp only[Exit.inBlock,Exit.then]);refine ZqT (Zc rfl _ _ _ _ _ _ _ rfl (ZqV _ _ _ _ _ _ hR) underlying25 rfl Ze) rfl ?_);exact ⟨_,rfl,⟨Nc.mk 0 [] [] (.slice none 0 0) [] (.slice none 0 0) [] [] 0,rfl,⟨⟨_,_,_,rfl⟩,⟨_,_,_,rfl⟩⟩⟩,(hZ.trans hx).setRow (ZqE _) _⟩
    |true=>
     rw[ZqN rfl] at A;dsimp only at A;subst A
     go_wp2_with (first|(refine ZqF rfl 25 (.tmp 2) (.tmp 105) rfl w.heap.size _ rfl rfl _ _ hR Ze rfl Zz ?_))
     ((try simp only[Exit.inBlock,Exit.then]);refine ZqT (Zc rfl _ _ _ _ _ _ _ rfl (ZqV _ _ _ _ _ _ hR) underlying25 rfl Ze) rfl ?_);obtain ⟨h1,h2,h3⟩:=hm.out (by trivial);exact ⟨_,rfl,⟨Nc.mk mk ms mn (.slice MA h0 mc) ml (.slice MB h4 md) hU mt ma,rfl,rfl,RdN.grown (ZG wr w.heap.size _) _ h1 (h3 _ (ZqE _)),λr hr=>h3 r (Nat.le_of_lt hr)⟩,(hZ.trans hx).setRow (ZqE _) _⟩
   all_goals
    refine hK _ _ X ?_
    clear hK K
    refine sS 4 λK hK=> ?_
    go_simp
    refine hK _ _ X ?_
    clear hK K
    refine sS 5 λK hK=> ?_
    go_simp
    refine hK _ _ X ?_
    clear hK K
    refine sE ?_
    go_wp2
    ((try simp only[Exit.inBlock,Exit.then]);refine ZqT (Zc rfl _ _ _ _ _ _ _ rfl (ZqV _ _ _ _ _ _ V) underlying25 rfl Ze) rfl ?_)
    exact ⟨_,rfl,⟨Nc.mk 0 [] [] (.slice none 0 0) [] (.slice none 0 0) [] [] 0,rfl,⟨⟨_,_,_,rfl⟩,⟨_,_,_,rfl⟩⟩⟩,(((hZ.trans hx).trans Y).trans J).setRow (ZqE _) _⟩
end
def zero7:Array Value:=#[nI 0,eS,eS,sN,sN,eS,nI 0]
theorem Qv (N:Nat) (hN:N<=40000000000) (x:Nc) (w:Wq) (F:RdN w x) (O:x.nd.fits N) (Z:x.nd.ht<=101):
 Calls prog 26 #[.agg (cellsN x).toArray] w λe w'=>∃v,e= .returned v/\ResRet x w.heap.size w' v (resP x.nd [])/\Ext w w':=by
 have J:=((Ext.refl w).alloc (.cells (cellsN x).toArray 25)).alloc (.cells zero7 25);obtain ⟨W0,h⟩:∃W0,(w.alloc (.cells (cellsN x).toArray 25)).alloc (.cells zero7 25)=W0:=⟨_,rfl⟩;have Q:W0.heap[w.heap.size]? =some (.cells (cellsN x).toArray 25):=by rw[<-h];exact ((Ext.refl _).alloc _).heap (ZqJ w _)
 have X:BxN W0 (w.heap.size+1) 0 [] [] sN sN [] 0:=by rw[<-h];exact ZI w _ _
 have hs:W0.heap.size=w.heap.size+2:=by rw[<-h,Zd,Zd]
 rw[h] at J;have hb:x.nd.ht*N<=101*40000000000:=Nat.mul_le_mul Z hN;have I:=Ea N hN (x.nd.ht+1) x sN [] W0 (ZrB _) (RdN.ext J x F) (RSl.nil _ 2) O (by rw[Zq5];omega);have S:=RdN.sl F;have hh:=gd (λr (hr:w.heap.size<=r)=>(Yo F hr:awayN (some r) x));obtain ⟨RR,Y⟩:∃RR,resP x.nd []=RR:=⟨_,rfl⟩;rw[Y] at I|-;obtain ⟨k,s,nm,al,l,ks,kids,t,at_⟩:=x;obtain ⟨⟨A,an,c,ha⟩,⟨B,bn,d,hk⟩⟩:=S;simp only[Nc.al,Nc.ks] at ha hk;subst ha;subst hk;unfold zero7 at h;simp only[cellsN] at I h Q|-;have HC:=gd I;have hi:BxN W0 w.heap.size k s nm (.slice A an c) (.slice B bn d) t at_:=Q;obtain ⟨b0,b1,b2,b3,b4,b5,b6⟩:=hi.cells;have hq:=gd F;clear I Q Y F O Z hb;cases RR with
 |error yc=>
  obtain ⟨y,ec⟩:=yc;go_enter func26,ntmps26
  go_wp2_with (first|(go_at_call 60;refine ZqD HC.out ?_;rintro e4 w4 ⟨v4,rfl,R,H⟩;obtain ⟨m,rfl,S⟩:=R.err;obtain ⟨mk,ms,mn,hu,ml,hv,U,mt,ma⟩:=m;obtain ⟨⟨MA,hm,mc,D⟩,⟨MB,hn,md,hc⟩⟩:=S;(simp only[Nc.al,Nc.ks] at D hc);subst D;subst hc;simp only[cellsN];have C:=X.ext H)|(refine ZqF rfl 25 (.tmp 2) (.tmp 7) rfl (w.heap.size+1) _ rfl rfl _ _ C Ze rfl Zz ?_))
  ((try simp only[Exit.inBlock,Exit.then]);refine ZqT (Zc rfl _ _ _ _ _ _ _ rfl (ZqV _ _ _ _ _ _ C) underlying25 rfl Ze) rfl ?_);exact ⟨_,rfl,⟨.mk mk ms mn (.slice MA hm mc) ml (.slice MB hn md) U mt ma,rfl,⟨⟨_,_,_,rfl⟩,⟨_,_,_,rfl⟩⟩⟩,(J.trans H).setRow om _⟩
 |ok m9=>
  go_enter func26,ntmps26
  go_wp2_with (first|(go_at_call 60;refine ZqD HC.out ?_;rintro e4 w4 ⟨v4,rfl,R,H⟩;obtain ⟨mc,rfl,hj,hd,D⟩:=R.ok;have he:=RdN.sl hd;obtain ⟨yk,ys,yn,hw,yl,hx,V,yt,ya⟩:=mc;obtain ⟨⟨YA,ho,yc,hf⟩,⟨YB,hp,yd,hg⟩⟩:=he;(simp only[Nc.al,Nc.ks] at hf hg);subst hf;subst hg;simp only[cellsN];have C:=X.ext H)|(refine ZqF rfl 25 (.tmp 2) (.tmp 7) rfl (w.heap.size+1) _ rfl rfl _ _ C Ze rfl Zz ?_))
  ((try simp only[Exit.inBlock,Exit.then]);refine ZqT (Zc rfl _ _ _ _ _ _ _ rfl (ZqV _ _ _ _ _ _ C) underlying25 rfl Ze) rfl ?_);exact ⟨_,rfl,⟨.mk yk ys yn (.slice YA ho yc) yl (.slice YB hp yd) V yt ya,rfl,hj,RdN.grown (ZG _ _ _) _ hd (D _ om (hh.out _ om)),λr hr hl=>D r om hl⟩,(J.trans H).setRow om _⟩
def TreeRet (w:Wq) (v:Value):Option Nd->Prop
 |some m=>∃mc:Nc,v= .tuple #[.agg (cellsN mc).toArray,nI 1]/\mc.nd=m/\RdN w mc
 |none=>v= .tuple #[.agg (cellsN (Nc.mk 0 [] [] sN [] sN [] [] 0)).toArray,nI 0]
theorem E6 {fin x c:Nat}:∀(f:Nat) (found:Option Nd) (l:List Tok),docGo fin f found l= .error (x,c)->c≠0
 |0,found,l,h=>by rw[docGo] at h;injection h with h;injection h with _ h;omega
 |f+1,found,[],h=>by
  rw[YP] at h
  cases found with
  |none=>injection h with h;injection h with _ h;omega
  |some y=>cases h
 |f+1,found,t::r,h=>by
  rw[Yz] at h
  split at h
  ·injection h with h;injection h with _ h;omega
  ·split at h
   ·injection h with h;injection h with _ h;omega
   ·split at h
    ·split at h
     ·injection h with h;injection h with _ h;omega
     ·exact E6 f found r h
    ·split at h
     ·rename_i y A
      obtain ⟨y1,y2⟩:=y
      have:=Kp A
      injection h with h;injection h with _ h;omega
     ·exact E6 f _ _ h
theorem ZmE {s:List UInt8} {x c:Nat} (h:docP s= .error (x,c)):c≠0:=by
 rw[Js] at h;split at h
 ·rename_i y A;obtain ⟨y1,y2⟩:=y;have:=ZeJ A;injection h with h;injection h with _ h;omega
 ·exact E6 _ _ _ h
theorem ZaX (s:ByteArray) (w:Wq) (hs:s.size<=maxLen):
 Calls prog 9 #[.string s] w λe w'=>∃v,e= .returned v/\TreeRet w' v (treeP s.data.toList)/\Ext w w':=by
 have hz:=Zb s;obtain ⟨T,F⟩:∃T,treeP s.data.toList=T:=⟨_,rfl⟩;rw[F];unfold treeP at F;rw[hz] at F;obtain ⟨W0,ho⟩:∃W0,w.alloc (.cells #[nI 0,eS,eS,sN,sN,eS,nI 0] 25)=W0:=⟨_,rfl⟩;have hk:Ext w W0:=by rw[<-ho];exact (Ext.refl w).alloc _
 have X:BxN W0 w.heap.size 0 [] [] sN sN [] 0:=by rw[<-ho];exact ZqJ w _
 have hD:w.heap.size<W0.heap.size:=by rw[<-ho,Zd];omega
 by_cases h5:5000<s.size
 ·rw[ZqN h5] at F;subst F;have hb:(5000:Int)<(s.size:Int):=om
  clear h5;go_enter func9,ntmps9
  go_wp2_with (first|(refine ZqF rfl 25 (.tmp 2) (.tmp 13) rfl w.heap.size #[nI 0,eS,eS,sN,sN,eS,nI 0] rfl rfl _ _ X Ze rfl X8 ?_))
  ((try simp only[Exit.inBlock,Exit.then]);refine ZqT (Zl rfl _ _ _ _ _ _ _ rfl (ZqV _ _ _ _ _ _ X) underlying25 rfl Ze) rfl ?_);exact ⟨_,rfl,rfl,hk.setRow (ZqE _) _⟩
 ·rw[ZqH h5] at F;have hb:¬(5000:Int)<(s.size:Int):=om
  have O:=λw'=>I9 s w' om;cases hp:docP s.data.toList with
  |error yc=>
   obtain ⟨y,c⟩:=yc;have ht:=ZmE hp;have hG:((c:Int) !=0)=true:=(by rw[ZrQ];omega);rw[hp] at F O;dsimp only at F;subst F;have HP:=gd O;clear O hp ht h5;go_enter func9,ntmps9
   go_wp2_with (first|(go_at_call 25;refine ZqD (HP.out _) ?_;rintro e w2 ⟨v2,rfl,⟨mc,rfl,h⟩,R⟩;obtain ⟨mk,ms,mn,hE,ml,hF,hh,mt,ma⟩:=mc;obtain ⟨⟨MA,I,H,A⟩,⟨MB,J,md,C⟩⟩:=h;(simp only[Nc.al,Nc.ks] at A C);subst A;subst C;simp only[cellsN];have D:=R.alloc (.cells #[nI (mk:Nat),.string (str ms),.string (str mn),.slice MA I H,.slice MB J md,.string (str mt),nI (ma:Nat)] 25);have Q:=X.ext D)|(refine ZqF rfl 25 (.tmp 2) (.tmp 22) rfl w.heap.size #[nI 0,eS,eS,sN,sN,eS,nI 0] rfl rfl _ _ Q Ze rfl X8 ?_))
   ((try simp only[Exit.inBlock,Exit.then]);refine ZqT (Zl rfl _ _ _ _ _ _ _ rfl (ZqV _ _ _ _ _ _ Q) underlying25 rfl Ze) rfl ?_);exact ⟨_,rfl,rfl,(hk.trans D).setRow (ZqE _) _⟩
  |ok n=>
   have Z:=(QO hp).1;have hA:=ZjU hp;rw[hz] at Z;rw[hp] at F O;dsimp only at F;have HP:=gd O;obtain ⟨RR,hj⟩:∃RR,resP n []=RR:=⟨_,rfl⟩;rw[hj] at F;have hy:Hid (∀(x:Nc) (w':Wq),x.nd=n->RdN w' x->Calls prog 26 #[.agg (cellsN x).toArray] w' λe w2=>∃v,e= .returned v/\ResRet x w'.heap.size w2 v RR/\Ext w' w2):=λx w' hx hr=>(by subst hx;rw[<-hj];exact Qv s.size om x w' hr Z hA);have hn:=gd (λy c (e:RR= .error (y,c))=>ZcX (c:=c) (x:=y) n [] (hj.trans e));clear O hp Z hA hj h5;cases RR with
   |error yc=>
    obtain ⟨y,c⟩:=yc;dsimp only at F;subst F;have ht:=hn.out y c rfl;have hG:((c:Int) !=0)=true:=(by rw[ZrQ];omega);clear hn ht;go_enter func9,ntmps9
    go_wp2_with (first|(go_at_call 25;refine ZqD (HP.out _) ?_;rintro e w2 ⟨v2,rfl,⟨mc,rfl,hu,hc,ha⟩,R⟩;have hl:=ha w.heap.size hD;have h:=RdN.sl hc;obtain ⟨mk,ms,mn,hE,ml,hF,hh,mt,ma⟩:=mc;obtain ⟨⟨MA,I,H,A⟩,⟨MB,J,md,C⟩⟩:=h;(simp only[Nc.al,Nc.ks] at A C);subst A;subst C;simp only[cellsN];have D:=R.alloc (.cells #[nI (mk:Nat),.string (str ms),.string (str mn),.slice MA I H,.slice MB J md,.string (str mt),nI (ma:Nat)] 25);have Q:=X.ext D;have hd:=RdN.ext ((Ext.refl w2).alloc (.cells #[nI (mk:Nat),.string (str ms),.string (str mn),.slice MA I H,.slice MB J md,.string (str mt),nI (ma:Nat)] 25)) _ hc)|(go_at_call 26;have hq:=hy.out _ _ hu hd;simp only[cellsN] at hq;refine ZqD hq ?_;clear hq;rintro e4 w4 ⟨v4,rfl,hv,he⟩;obtain ⟨zc,rfl,h⟩:=hv.err;obtain ⟨zk,zs,zn,hH,zl,hI,hi,zt,za⟩:=zc;obtain ⟨⟨ZA,U,S,hf⟩,⟨ZB,V,zd,hg⟩⟩:=h;(simp only[Nc.al,Nc.ks] at hf hg);subst hf;subst hg;simp only[cellsN];have hw:=(hk.trans (D.trans he)).alloc (.cells #[nI (zk:Nat),.string (str zs),.string (str zn),.slice ZA U S,.slice ZB V zd,.string (str zt),nI (za:Nat)] 25);have Y:=(Q.ext he).ext ((Ext.refl w4).alloc (.cells #[nI (zk:Nat),.string (str zs),.string (str zn),.slice ZA U S,.slice ZB V zd,.string (str zt),nI (za:Nat)] 25)))|(refine ZqF rfl 25 (.tmp 2) (.tmp 31) rfl w.heap.size #[nI 0,eS,eS,sN,sN,eS,nI 0] rfl rfl _ _ Y Ze rfl X8 ?_))
    ((try simp only[Exit.inBlock,Exit.then]);refine ZqT (Zl rfl _ _ _ _ _ _ _ rfl (ZqV _ _ _ _ _ _ Y) underlying25 rfl Ze) rfl ?_);exact ⟨_,rfl,rfl,hw.setRow (ZqE _) _⟩
   |ok m9=>
    dsimp only at F;subst F;clear hn;go_enter func9,ntmps9
    go_wp2_with (first|(go_at_call 25;refine ZqD (HP.out _) ?_;rintro e w2 ⟨v2,rfl,⟨mc,rfl,hu,hc,ha⟩,R⟩;have hl:=ha w.heap.size hD;have h:=RdN.sl hc;obtain ⟨mk,ms,mn,hE,ml,hF,hh,mt,ma⟩:=mc;obtain ⟨⟨MA,I,H,A⟩,⟨MB,J,md,C⟩⟩:=h;(simp only[Nc.al,Nc.ks] at A C);subst A;subst C;simp only[cellsN];have D:=R.alloc (.cells #[nI (mk:Nat),.string (str ms),.string (str mn),.slice MA I H,.slice MB J md,.string (str mt),nI (ma:Nat)] 25);have Q:=X.ext D;have hd:=RdN.ext ((Ext.refl w2).alloc (.cells #[nI (mk:Nat),.string (str ms),.string (str mn),.slice MA I H,.slice MB J md,.string (str mt),nI (ma:Nat)] 25)) _ hc)|(go_at_call 26;have hq:=hy.out _ _ hu hd;simp only[cellsN] at hq;refine ZqD hq ?_;clear hq;rintro e4 w4 ⟨v4,rfl,hv,he⟩;obtain ⟨zc,rfl,hC,hm,hB⟩:=hv.ok;have h:=RdN.sl hm;obtain ⟨zk,zs,zn,hH,zl,hI,hi,zt,za⟩:=zc;obtain ⟨⟨ZA,U,S,hf⟩,⟨ZB,V,zd,hg⟩⟩:=h;(simp only[Nc.al,Nc.ks] at hf hg);subst hf;subst hg;simp only[cellsN];have hw:=(hk.trans (D.trans he)).alloc (.cells #[nI (zk:Nat),.string (str zs),.string (str zn),.slice ZA U S,.slice ZB V zd,.string (str zt),nI (za:Nat)] 25);have Y:=(Q.ext he).ext ((Ext.refl w4).alloc (.cells #[nI (zk:Nat),.string (str zs),.string (str zn),.slice ZA U S,.slice ZB V zd,.string (str zt),nI (za:Nat)] 25)))|(refine ZqF rfl 25 (.tmp 2) (.tmp 32) rfl w.heap.size _ rfl rfl _ _ Y Ze rfl Zz ?_))
    ((try simp only[Exit.inBlock,Exit.then]);refine ZqT (Zl rfl _ _ _ _ _ _ _ rfl (ZqV _ _ _ _ _ _ Y) underlying25 rfl Ze) rfl ?_);have hws:w.heap.size<w2.heap.size:=(by have:=R.size;omega);exact ⟨_,rfl,⟨Nc.mk zk zs zn (.slice ZA U S) zl (.slice ZB V zd) hi zt za,rfl,hC,RdN.grown (ZG _ _ _) _ (RdN.ext ((Ext.refl w4).alloc _) _ hm) (hB _ (by rw[Zd];omega) hl)⟩,hw.setRow (ZqE _) _⟩
theorem Zdg (v:Bool):∀l:List UInt8,(wescL v l).length<=6*l.length
 | []=>ZqE _
 |c::t=>by
  have ih:=Zdg v t
  have h:(wescC v c).length<=6:=by
   unfold wescC wescB
   repeat' split
   all_goals simp
  show (wescC v c++wescL v t).length<=_
  rw[ZqG,ZqK]
  omega
theorem Ip {N:Nat}:∀al:List AtP,(∀b∈al,b.space= []/\b.name.length<=7/\b.value.length<=N/\b.at_=0)->(attrsW al).length<=al.length*(6*N+11)
 | [],_=>ZqO _
 |b::t,h=>by
  have ih:=Ip t λx A=>h x (Zq7 _ A)
  obtain ⟨_,D,F,_⟩:=h b Zq6
  have H:=Zdg true b.value
  have C:(attrW b).length<=6*N+11:=by
   unfold attrW
   simp only[ZqG,ZqK,Zq5]
   omega
  show (attrW b++attrsW t).length<=_
  rw[ZqG,ZqK,Nat.add_mul]
  omega
mutual
def Nd.smT (N:Nat):Nd->Prop
 | .mk k s n al ks t a=>k<=1/\s= []/\n.length<=7/\al.length<=1/\(∀b∈al,b.space= []/\b.name.length<=7/\b.value.length<=N/\b.at_=0)/\ks.length<=N/\t.length<=N/\a=0/\Nds.smT N ks
def Nds.smT (N:Nat):List Nd->Prop
 | []=>True
 |x::t=>x.smT N/\Nds.smT N t
end
mutual
theorem Zkg {N:Nat}:∀n:Nd,n.smT N->(nodeW n).length<=n.cnt*(6*N+40)
 | .mk k s n al ks t a,h=>by
  rw[Nd.smT] at h
  obtain ⟨hk0,rfl,hn,ha,hb,hk,ht,rfl,hs⟩:=h
  have ih:=ZhK ks hs
  have h1:=Ip al hb
  have h2:al.length*(6*N+11)<=1*(6*N+11):=Nat.mul_le_mul_right _ ha
  have h3:=Zdg false t
  rw[nodeW,Nd.cnt,Nat.add_mul]
  split
  ·omega
  ·split
   ·simp only[ZqG,ZqK,Zq5]
    omega
   ·simp only[ZqG,ZqK,Zq5]
    omega
theorem ZhK {N:Nat}:∀l:List Nd,Nds.smT N l->(nodesW l).length<=Nds.cnt l*(6*N+40)
 | [],_=>by rw[nodesW];exact ZqO _
 |x::t,h=>by
  rw[Nds.smT] at h
  have h1:=Zkg x h.1
  have h2:=ZhK t h.2
  rw[nodesW,ZqG,Nds.cnt,Nat.add_mul]
  omega
end
mutual
theorem ZhJ {N:Nat} (hN:7<=N):∀n:Nd,n.smT N->n.fits N
 | .mk k s n al ks t a,h=>by
  rw[Nd.smT] at h
  obtain ⟨hk0,rfl,hn,ha,hb,hk,ht,rfl,hs⟩:=h
  rw[Nd.fits]
  refine ⟨hk0,ZqO _,by omega,by omega,λb hb'=> ?_,hk,by omega,ZqO _,ZeG hN ks hs⟩
  obtain ⟨e1,e2,e3,e4⟩:=hb b hb'
  refine ⟨by rw[e1];exact ZqO _,by omega,by omega,by omega⟩
theorem ZeG {N:Nat} (hN:7<=N):∀l:List Nd,Nds.smT N l->Nds.fits N l
 | [],_=>by rw[Nds.fits];trivial
 |x::t,h=>by
  rw[Nds.smT] at h
  rw[Nds.fits]
  exact ⟨ZhJ hN x h.1,ZeG hN t h.2⟩
end
def szA (M K:Nat) (f:Fd):Prop:=(∀s∈ [f.id,f.title,f.link],s.size<=M)/\(∀e∈f.ents,∀s∈strsE e,s.size<=M)/\f.ents.length<=K
theorem Gg {N:Nat} {nm s:List UInt8} (A:1<=N) (C:nm.length<=7) (D:s.length<=N):(textN nm s).smT N/\(textN nm s).cnt<=2:=by
 rw[JZ];refine ⟨?_,?_⟩
 ·rw[Nd.smT];refine ⟨by decide,rfl,C,ZqO _,(by intro b h;cases h),?_,ZqO _,rfl,?_⟩
  ·split
   ·exact ZqO _
   ·exact A
  ·split
   ·rw[Nds.smT];trivial
   ·unfold charD;rw[Nds.smT,Nds.smT,Nd.smT,Nds.smT];exact ⟨⟨by decide,rfl,ZqO _,ZqO _,(by intro b h;cases h),ZqO _,D,rfl,trivial⟩,trivial⟩
 ·rw[Nd.cnt];split
  ·rw[Nds.cnt];decide
  ·unfold charD;rw[Nds.cnt,Nds.cnt,Nd.cnt,Nds.cnt];decide
theorem Zln {N:Nat} {s:List UInt8} (A:s.length<=N):(linkE s).smT N/\(linkE s).cnt=1:=by
 rw[ZgW];refine ⟨?_,by rw[Nd.cnt,Nds.cnt]⟩;rw[Nd.smT,Nds.smT];exact ⟨by decide,rfl,by decide,ZqE 1,(by intro b h;rw[ZqU.1 h];exact ⟨rfl,(show 4<=7 by decide),A,rfl⟩),ZqO _,ZqO _,rfl,trivial⟩
theorem ZaI {N:Nat} {id title link:ByteArray} {t:Int} {more:List Nd} (J:27<=N) (D:id.size<=N) (F:title.size<=N) (H:link.size<=N) (A:Nds.smT N more):
 Nds.smT N (fieldsN id title link t more)/\(fieldsN id title link t more).length<=4+more.length/\Nds.cnt (fieldsN id title link t more)<=7+Nds.cnt more:=by
 obtain ⟨h,a2⟩:=Gg (N:=N) (nm:=idL) (s:=lst id) om (by decide) D;obtain ⟨b1,b2⟩:=Gg (N:=N) (nm:=titleL) (s:=lst title) om (by decide) F;obtain ⟨c1,c2⟩:=Gg (N:=N) (nm:=updatedL) (s:=fmtL t) om (by decide) (by rw[Zgo];omega);obtain ⟨C,I⟩:=Zln (N:=N) (s:=lst link) H;unfold fieldsN;split
 ·simp only[Zrl,Nds.smT,Nds.cnt,ZqK];exact ⟨⟨h,b1,c1,A⟩,om,om⟩
 ·simp only[Zrp,Zrl,Nds.smT,Nds.cnt,ZqK];exact ⟨⟨h,b1,C,c1,A⟩,om,om⟩
theorem ZmN {N:Nat} {e:Ent} (D:27<=N) (h:∀s∈strsE e,s.size<=N):(entN e).smT N/\(entN e).cnt<=10:=by
 have H:Nds.smT N (moreN e.content)/\(moreN e.content).length<=1/\Nds.cnt (moreN e.content)<=2:=by
  unfold moreN;split
  ·rw[Nds.smT,Nds.cnt];exact ⟨trivial,ZqO _,ZqO _⟩
  ·obtain ⟨A,a2⟩:=Gg (N:=N) (nm:=contentL) (s:=lst e.content) om (by decide) (h _ (by unfold strsE;simp));rw[Nds.smT,Nds.smT,Nds.cnt,Nds.cnt];exact ⟨⟨A,trivial⟩,ZqE _,om⟩
 obtain ⟨C,I,J⟩:=ZaI (id:=e.id) (title:=e.title) (link:=e.link) (t:=e.upd) D (h _ (by unfold strsE;simp)) (h _ (by unfold strsE;simp)) (h _ (by unfold strsE;simp)) H.1;rw[Zby,Nd.smT,Nd.cnt];exact ⟨⟨by decide,rfl,by decide,ZqO _,(by intro b F;cases F),om,ZqO _,rfl,C⟩,om⟩
theorem Zge {N:Nat} (A:27<=N):∀l:List Ent,(∀e∈l,∀s∈strsE e,s.size<=N)->Nds.smT N (l.map entN)/\Nds.cnt (l.map entN)<=10*l.length
 | [],_=>by rw[Zrz,Nds.smT,Nds.cnt];exact ⟨trivial,ZqO _⟩
 |e::t,h=>by
  obtain ⟨C,H⟩:=ZmN A (h e Zq6)
  obtain ⟨D,I⟩:=Zge A t λx F=>h x (Zq7 _ F)
  rw[Zq8,Nds.smT,Nds.cnt,ZqK]
  exact ⟨⟨C,D⟩,om⟩
theorem Zb8 {M K N:Nat} {f:Fd} (h:szA M K f) (C:M<=N) (hK:K+4<=N) (F:27<=N):(encA f).smT N/\(encA f).fits N/\(encA f).cnt<=8+10*K/\(docW (encA f)).length<=40+(8+10*K)*(6*N+40):=by
 obtain ⟨D,O,U⟩:=h;obtain ⟨e1,e2⟩:=Zge F f.ents λe R s A=>ZqM (O e R s A) C;obtain ⟨I,J,S⟩:=ZaI (id:=f.id) (title:=f.title) (link:=f.link) (t:=f.upd) F (ZqM (D _ (by simp)) C) (ZqM (D _ (by simp)) C) (ZqM (D _ (by simp)) C) e1;rw[Zq9] at J;have A:(encA f).smT N:=by rw[Vt,Nd.smT];refine ⟨by decide,rfl,by decide,ZqE _,(by intro b Q;rw[ZqU.1 Q];exact ⟨rfl,by decide,F,rfl⟩),om,ZqO _,rfl,I⟩
 have H:(encA f).cnt<=8+10*K:=by rw[Vt,Nd.cnt];omega
 refine ⟨A,ZhJ om _ A,H,?_⟩;have V:=Zkg _ A;have X:(encA f).cnt*(6*N+40)<=(8+10*K)*(6*N+40):=Nat.mul_le_mul_right _ H;unfold docW;rw[ZqG,ZqG];have Y:headW.length=39:=rfl;have Z:([10]:List UInt8).length=1:=rfl;omega
theorem Zgw {t:Int} (h:inT t=true):i64ok t:=by
 unfold inT at h;rw[ZqZ] at h;have A:=Zro h.1;have C:=Zro h.2;exact ⟨om,om⟩
theorem Zf2 {n:Nd} {t:Int} (h:comA n= .ok t):inT t=true:=by
 unfold comA at h;split at h
 ·cases h
 ·split at h
  ·injection h with h;rw[<-h];decide
  ·split at h
   ·rename_i t' A;injection h with h;rw[<-h];exact ZhU A
   ·cases h
theorem Zlg (sp nm:List UInt8) (n:Nd):(kidsE sp nm n).length<=n.cnt:=by
 obtain ⟨k,s,m,al,ks,t,a⟩:=n;unfold kidsE;have A:=(List.filter_sublist (p:=isE sp nm) (l:=ks)).length_le;have h:∀l:List Nd,l.length<=Nds.cnt l:=λl=>by
  induction l with
  |nil=>exact ZqO _
  |cons x t ih=>have:=Zox x;rw[Nds.cnt,ZqK];omega
 have C:=h ks;rw[Nd.cnt];show (ks.filter (isE sp nm)).length<=_;omega
theorem Zgd {N M B S:Nat} (F:2*N<=S) (C:B<=S):∀(l:List Nd) (m:List Ent),(∀k∈l,comOk N M B k)->entsA l= .ok m->m.length=l.length/\∀e∈m,(∀s∈strsE e,s.size<=S)/\inT e.upd=true
 | [],m,_,h=>by
  injection h with h
  subst h
  exact ⟨rfl,λe A=>by cases A⟩
 |k::l,m,hl,h=>by
  rw[entsA] at h
  cases hc:comA k with
  |error x=>rw[hc] at h;cases h
  |ok t=>
   rw[hc] at h
   dsimp only at h
   cases hd:entsA l with
   |error x=>rw[hd] at h;cases h
   |ok m'=>
    rw[hd] at h
    injection h with h
    subst h
    obtain ⟨J,i2⟩:=Zgd F C l m' (λy I=>hl y (Zq7 _ I)) hd
    have D:=hl k Zq6
    refine ⟨by rw[ZqK,ZqK,J],λe A=> ?_⟩
    rcases Zq1.1 A with rfl|A
    ·refine ⟨λs H=> ?_,Zf2 hc⟩
     simp only[strsE,entA,Zq1,List.not_mem_nil,ZrD] at H
     rcases H with rfl|rfl|rfl|rfl<;>rw[Zo]
     ·exact ZqM (D.txtOf (by decide)) C
     ·exact ZqM (D.txtOf (by decide)) C
     ·exact ZqM D.link F
     ·exact ZqM D.cont C
    ·exact i2 e A
theorem Ze0 {N M B S:Nat} (H:2*N<=S) (D:B<=S) {n:Nd} {f:Fd} (h:amOk N M B n) (A:decA n= .ok f):szA S M f/\f.path= []/\inT f.upd=true/\∀e∈f.ents,inT e.upd=true:=by
 unfold decA at A;split at A
 ·cases A
 ·cases hc:comA n with
  |error x=>rw[hc] at A;cases A
  |ok t=>
   rw[hc] at A;dsimp only at A;cases hd:entsA (kidsE atomL entryL n) with
   |error x=>rw[hd] at A;cases A
   |ok m=>
    rw[hd] at A;injection A with A;subst A;obtain ⟨I,i2⟩:=Zgd H D _ m h.en hd;refine ⟨⟨λs C=> ?_,λe F s C=>(i2 e F).1 s C,?_⟩,rfl,Zf2 hc,λe F=>(i2 e F).2⟩
    ·simp only[fdA,Zq1,List.not_mem_nil,ZrD] at C;rcases C with rfl|rfl|rfl<;>rw[Zo]
     ·exact ZqM (h.com.txtOf (by decide)) D
     ·exact ZqM (h.com.txtOf (by decide)) D
     ·exact ZqM h.com.link H
    ·show m.length<=M;rw[I];exact ZqM (Zlg _ _ _) h.com.cnt
theorem ZfK {M K:Nat} {f:Fd} (h:szA M K f) (R:M<=4000000) (hK:K<=1000000) (I:f.path= []) (J:inT f.upd=true) (H:∀e∈f.ents,inT e.upd=true):fokS f:=by
 obtain ⟨A,D,F⟩:=h;have Q:=A f.id (by simp);have a2:=A f.title (by simp);have a3:=A f.link (by simp);refine ⟨⟨Zgw J,?_⟩,ZqM F hK,λe C=>⟨Zgw (H e C),?_⟩⟩
 ·rw[I];have O:sizes []=0:=rfl;rw[O,Zq5];omega
 ·have b:=D e C;have b1:=b e.id (by unfold strsE;simp);have b2:=b e.title (by unfold strsE;simp);have b3:=b e.link (by unfold strsE;simp);have b4:=b e.content (by unfold strsE;simp);omega
def docG:List UInt8:= [60,102,101,101,100,32,120,109,108,110,115,61,34,104,116,116,112,58,47,47,119,119,119,46,119,51,46,111,114,103,47,50,48,48,53,47,65,116,111,109,34,62,60,105,100,62,70,60,47,105,100,62,60,101,110,116,114,121,62,60,105,100,62,69,60,47,105,100,62,60,108,105,110,107,32,104,114,101,102,61,34,76,34,47,62,60,47,101,110,116,114,121,62,60,47,102,101,101,100,62]
def docH:List UInt8:= [60,102,101,101,100,32,120,109,108,110,115,61,34,104,116,116,112,58,47,47,119,119,119,46,119,51,46,111,114,103,47,50,48,48,53,47,65,116,111,109,34,62,60,105,100,62,70,60,47,105,100,62,60,101,110,116,114,121,47,62,60,47,102,101,101,100,62]
def docK:List UInt8:= [60,63,120,109,108,32,118,101,114,115,105,111,110,61,34,49,46,48,34,32,101,110,99,111,100,105,110,103,61,34,85,84,70,45,56,34,63,62,10,60,102,101,101,100,32,120,109,108,110,115,61,34,104,116,116,112,58,47,47,119,119,119,46,119,51,46,111,114,103,47,50,48,48,53,47,65,116,111,109,34,62,60,105,100,62,70,60,47,105,100,62,60,116,105,116,108,101,47,62,60,117,112,100,97,116,101,100,62,49,57,55,48,45,48,49,45,48,49,84,48,48,58,48,48,58,48,48,90,60,47,117,112,100,97,116,101,100,62,60,47,102,101,101,100,62,10]
def feedG:Fd:=⟨[],⟨#[70]⟩,⟨#[]⟩,⟨#[]⟩, -62135596800,[⟨⟨#[69]⟩,⟨#[]⟩,⟨#[76]⟩,⟨#[]⟩, -62135596800⟩]⟩
def feedK:Fd:=⟨[],⟨#[70]⟩,⟨#[]⟩,⟨#[]⟩,0,[]⟩
def treeOk (s:List UInt8) (p:Nd->Bool):Bool:=match treeP s with|some m=>p m|none=>false
theorem ZeK {s:List UInt8} {p:Nd->Bool} (h:treeOk s p=true):∃m,treeP s=some m/\p m=true:=by
 unfold treeOk at h;split at h
 ·rename_i m A;exact ⟨m,A,h⟩
 ·cases h
def okIs (r:Except PErr Fd) (f:Fd):Bool:=match r with
 | .ok g=>decide (g=f)
 | .error _=>false
theorem ZoW {r:Except PErr Fd} {f:Fd} (h:okIs r f=true):r= .ok f:=by
 cases r with
 |error e=>cases h
 |ok g=>have:=Zro h;rw[this]
def errIs (r:Except PErr Fd) (f:PErr):Bool:=match r with
 | .error g=>decide (g=f)
 | .ok _=>false
theorem ZmP {r:Except PErr Fd} {f:PErr} (h:errIs r f=true):r= .error f:=by
 cases r with
 |ok e=>cases h
 |error g=>have:=Zro h;rw[this]
theorem ZkF:∃m,treeP docG=some m/\decA m= .ok feedG:=by
 obtain ⟨m,h,A⟩:=ZeK (s:=docG) (p:=λm=>okIs (decA m) feedG) (by decide+kernel);exact ⟨m,h,ZoW A⟩
theorem ZkI:∃m,treeP docH=some m/\decA m= .error (52,19):=by
 obtain ⟨m,h,A⟩:=ZeK (s:=docH) (p:=λm=>errIs (decA m) (52,19)) (by decide+kernel);exact ⟨m,h,ZmP A⟩
theorem Zcg:normF feedG=feedG/\errF feedG=0:=by decide+kernel
theorem ZmQ:okF feedK=true:=by decide+kernel
theorem ZkQ:docW (encA feedK)=docK:=by decide+kernel
theorem Zgk:szA 10000 9996 feedK:=⟨λs A=>by
 have h:s=(⟨#[70]⟩:ByteArray)\/s=(⟨#[]⟩:ByteArray):=by
  simp only[feedK,Zq1,List.not_mem_nil,ZrD] at A;rcases A with h|h|h
  ·exact Or.inl h
  ·exact Or.inr h
  ·exact Or.inr h
 rcases h with rfl|rfl<;>decide,λe C=>by simp[feedK] at C,by decide⟩
theorem ZkR:fokS feedK:=ZfK Zgk (by decide) (by decide) rfl (by decide) (λe h=>by simp[feedK] at h)
theorem IB {n:Nd} {f:Fd} (h:amOk 5000 5000 10000 n) (H:decA n= .ok f):fokS f:=by
 obtain ⟨A,C,D,F⟩:=Ze0 (S:=10000) (by decide) (by decide) h H;exact ZfK A (by decide) (by decide) C D F
section
set_option linter.unusedSimpArgs false
theorem Zmj {N M Bd:Nat} (J:N<=4000000) (I:M<=1000000) (C:Bd<=16777216) (x:Nc) (w:World) (H:Env w) (h:NcOk w N M x) (F:amOk N M Bd x.nd) (D:∀f,decA x.nd= .ok f->fokS f):
 Calls prog 11 #[.agg (cellsN x).toArray] w λe w'=>DecA w' (decA x.nd) e/\Ext w w':=by
 by_cases A:x.nd.kind≠0\/x.nd.space≠atomL\/x.nd.name≠feedL
 ·have O:decA x.nd= .error (x.at_,18):=by unfold decA;rw[ZqN A,(YG x).2.2.2]
  rw[O];refine Zor x w h.rd ?_;rw[(YG x).1,(YG x).2.1,(YG x).2.2.1] at A;exact A
 ·exact Zmk J I C x w H h F A D
theorem ZhW {s:ByteArray} {m:Nd} (h:treeP s.data.toList=some m) (w:World) (F:s.size<=maxLen):
 Calls prog 9 #[.string s] w λe w'=>∃x:Nc,e= .returned (.tuple #[.agg (cellsN x).toArray,.int .i64 1])/\x.nd=m/\NcOk w' 5000 5000 x/\amOk 5000 5000 10000 x.nd/\Ext w w':=by
 have A:=QD h;refine ZqD (ZaX s w F) ?_;rintro e w' ⟨v,rfl,D,H⟩;rw[h] at D;obtain ⟨mc,rfl,rfl,C⟩:=D;exact ⟨mc,rfl,rfl,⟨C,A.com.fd,A.com.cnt⟩,A,H⟩
def TrA (N M:Nat) (w:World) (m:Nd) (k:Nat) (sp nm:List UInt8) (A:Option Addr) (n c:Nat) (B:Option Addr) (q d:Nat) (t:List UInt8) (a:Nat):Prop:=∃x:Nc,cellsN x= [.int .i64 (k:Nat),.string (str sp),.string (str nm),.slice A n c,.slice B q d,.string (str t),.int .i64 (a:Nat)]/\x.nd=m/\NcOk w N M x
theorem TrA.ext {N M:Nat} {w w':World} {m:Nd} {k:Nat} {sp nm:List UInt8} {A:Option Addr} {n c:Nat} {B:Option Addr} {q d:Nat} {t:List UInt8} {a:Nat} (h:TrA N M w m k sp nm A n c B q d t a) (H:Ext w w'):TrA N M w' m k sp nm A n c B q d t a:=by
 obtain ⟨x,C,D,F⟩:=h;exact ⟨x,C,D,F.ext H⟩
theorem Em {s:ByteArray} {m:Nd} (h:treeP s.data.toList=some m) (w:World) (I:s.size<=maxLen):
 Calls prog 9 #[.string s] w λe w'=>(∃k sp nm A n c B q d t a,e= .returned (.tuple #[.agg #[.int .i64 (k:Nat),.string (str sp),.string (str nm),.slice A n c,.slice B q d,.string (str t),.int .i64 (a:Nat)],.int .i64 1])/\TrA 5000 5000 w' m k sp nm A n c B q d t a)/\Ext w w':=by
 refine ZqD (ZhW h w I) ?_;rintro e w' ⟨x,rfl,H,D,F,J⟩;obtain ⟨A,n,c,B,q,d,C, -, -⟩:=ZR x (RdN.sl D.rd);refine ⟨⟨x.kind,x.space,x.name,A,n,c,B,q,d,x.text,x.at_,?_,⟨x,C,H,D⟩⟩,J⟩;rw[C]
theorem VX {N M Bd:Nat} (R:N<=4000000) (Q:M<=1000000) (C:Bd<=16777216) {w:World} {m:Nd} {k:Nat} {sp nm:List UInt8} {A:Option Addr} {n c:Nat} {B:Option Addr} {q d:Nat} {t:List UInt8} {a:Nat} (O:Env w) (h:TrA N M w m k sp nm A n c B q d t a) (F:amOk N M Bd m) (D:∀f,decA m= .ok f->fokS f):
 Calls prog 11 #[.agg #[.int .i64 (k:Nat),.string (str sp),.string (str nm),.slice A n c,.slice B q d,.string (str t),.int .i64 (a:Nat)]] w λe w'=>DecA w' (decA m) e/\Ext w w':=by
 obtain ⟨x,I,rfl,J⟩:=h;have H:=Zmj R Q C x w O J F D;rw[I] at H;exact H
end
theorem Ue (t:Int) (w:Wq):
 Calls prog 83 #[nI t] w λe w'=>e= .returned (.bool (inT t))/\w=w':=by
 unfold inT;go_enter func83,ntmps83;go_wp2
 all_goals go_ret
 all_goals exact ⟨by simp_all<;>omega,rfl⟩
theorem Yv (b:Bool) (w:Wq):
 Calls prog 82 #[.bool b] w λe w'=>e= .returned (nI (if b=true then 0 else 22))/\w=w':=by
 cases b with
 |true=>go_enter func82,ntmps82;go_wp2;go_ret;exact ⟨rfl,rfl⟩
 |false=>go_enter func82,ntmps82;go_wp2;go_ret;exact ⟨rfl,rfl⟩
theorem Zi9 (e:Ent) (w:Wq):Calls prog 81 #[.agg (eCells e).toArray] w λx w'=>x= .returned (.string e.id)/\Ext w w':=by
 unfold eCells;go_enter func81,ntmps81;go_wp2;go_ret;exact ⟨rfl,(Ext.refl _).alloc _⟩
theorem Jj (v:Value) (l:List ByteArray) (w:Wq) (hE:Env w) (h:RStrs w v l) (I:∀s∈l,s.size<=16777216) (hn:l.length<=16777216):
 Calls prog 80 #[v] w λe w'=>e= .returned (.bool (l.all validS))/\Ext w w':=by
 obtain ⟨A,c,rfl, -, -⟩:=h.form;obtain ⟨R,Z⟩:∃R,l.all validS=R:=⟨_,rfl⟩;rw[Z];have HR:=gd Z;have HS:=gd I;have HH:=gd h;have V:=gd hE;clear Z I h hE;go_enter func80,ntmps80;go_wp2;go_loopw [7] (λi wr=>∃k:Nat,k<=l.length/\i=nI k/\Hid (∀s∈l.take k,validS s=true)/\Ext w wr) (λi _=>l.length - (intOf i).toNat)
 case atStart=>exact ⟨0,ZqO _,rfl,gd (by simp),Ext.refl _⟩
 case round=>
  obtain ⟨k,hk,rfl,J,F⟩:=hrel;by_cases H:k<l.length
  ·obtain ⟨ad,c1,e1,hc⟩:=(RStrs.ext HH.out F).at H;injection e1 with e1 e1' e1'';subst e1;clear e1' e1'';have D:l[k]∈l:=Zq2 H;have O:=ZqQ H;have S:=gd (ZdI l[k] wr (V.out.ext F) (by have:=HS.out _ D;omega));have C:validS l[k]=false->R=false:=λh=>(by rw[<-HR.out,Zr8];intro h2;have:=Zrm.1 h2 _ D;rw[h] at this;cases this);obtain ⟨p,U⟩:∃p,l[k]=p:=⟨_,rfl⟩;rw[U] at hc O S C;have Y:=gd O;have he:(0:Int)<=(k:Int):=om;have hf:(k:Int)<(l.length:Int):=om;clear U D O;cases hv:validS p with
   |false=>
    have ha:=C hv;subst ha;rw[hv] at S;clear C hv
    go_wp2_with (first|(go_at_call 126;refine ZqD (S.out) ?_;rintro e w6 ⟨rfl,Q⟩))
    go_ret;exact ⟨rfl,F.trans Q⟩
   |true=>
    have X:=gd hv;rw[hv] at S;clear C hv
    go_wp2_with (first|(go_at_call 126;refine ZqD (S.out) ?_;rintro e w6 ⟨rfl,Q⟩))
    go_roundw
    case rel=>exact ⟨k+1,H,by go_num,gd (λs I=>by
     rw[Y.out] at I;rcases Zq0.1 I with I|I
     ·exact J.out s I
     ·rw[ZqU.1 I];exact X.out),F.trans Q⟩
    case measure=>simp[intOf];omega
  ·have hd:k=l.length:=om;subst hd;have hi:=J.out;rw[Zq4 (ZqE _)] at hi;have hb:R=true:=(by rw[<-HR.out];exact Zrm.2 hi);subst hb;clear hi;go_wp2;go_ret;exact ⟨rfl,F⟩
theorem Zeo {s:ByteArray} (h:s=noS):s.toList.isEmpty=true:=by rw[h,ZrC];rfl
theorem Zc5 (w:Wq) (l:List ByteArray) (h:l.length<=maxLen):RStrs (w.alloc (.cells (l.map Value.string).toArray 9)) (.slice (some ⟨w.heap.size,0,none⟩) l.length l.length) l:=
 Zj (by rw[Zq9,Nat.mul_one]) h
theorem Zg1 (e:Ent) (w:Wq) (U:Env w) (V:eokS e):
 Calls prog 85 #[.agg (eCells e).toArray] w λx w'=>x= .returned (nI (if okE e=true then 0 else 22))/\Ext w w':=by
 have H:okE e=((strsE e).all validS && !decide (e.id=noS) && inT e.upd):=rfl;have C:=gd (λw'=>Yv false w');have I:=gd (λw'=>Ue e.upd w');have F:=gd (λ(w':Wq) (h:Ext w w')=>Jj _ (strsE e) (w'.alloc (.cells ((strsE e).map Value.string).toArray 9)) ((U.ext h).alloc _) (Zc5 w' (strsE e) (by show 4<=maxLen;decide)) (λs h=>by
  obtain ⟨h1,h2,h3,h4⟩:=V;unfold strsE at h;simp only[Zq1,Zri,ZrD] at h;rcases h with rfl|rfl|rfl|rfl<;>omega) (by show 4<=16777216;decide))
 by_cases D:e.id=noS
 ·have A:okE e=false:=by rw[H,D];simp
  rw[ZqH (by rw[A];simp)];have J:=Zeo D;clear H D A I F;unfold eCells;go_enter func85,ntmps85
  go_wp2_with (first|(go_at_call 82;refine ZqD (C.out _) ?_;rintro e Y ⟨rfl,rfl⟩))
  go_ret;exact ⟨rfl,(Ext.refl _).alloc _⟩
 ·have J:=JQ D;cases hti:inT e.upd with
  |false=>
   have A:okE e=false:=(by rw[H,hti,Bool.and_false]);rw[ZqH (by rw[A];simp)];rw[hti] at I;clear H D A F hti;unfold eCells;go_enter func85,ntmps85
   go_wp2_with (first|(go_at_call 83;refine ZqD (I.out _) ?_;rintro e X ⟨rfl,rfl⟩)|(go_at_call 82;refine ZqD (C.out _) ?_;rintro e Y ⟨rfl,rfl⟩))
   go_ret;exact ⟨rfl,(Ext.refl _).alloc _⟩
  |true=>
   have A:okE e=(strsE e).all validS:=(by rw[H,hti,Zre D];simp);rw[A];rw[hti] at I;have R:=gd (λw'=>Yv ((strsE e).all validS) w');obtain ⟨b,S⟩:∃b,(strsE e).all validS=b:=⟨_,rfl⟩;simp only[S] at F R|-;unfold strsE at F;simp only[Zq8,Zrz,ZqK,Zq5] at F;clear H D A C hti S;unfold eCells;go_enter func85,ntmps85
   go_wp2_with (first|(go_at_call 83;refine ZqD (I.out _) ?_;rintro e X ⟨rfl,rfl⟩)|(go_at_call 80;have Q:=F.out _ ((Ext.refl w).alloc (.cells #[.string e.id,.string e.title,.string e.link,.string e.content,nI e.upd] 61));(simp only[Zd] at Q);refine ZqD Q ?_;clear Q;rintro e7 w7 ⟨rfl,O⟩)|(go_at_call 82;refine ZqD (R.out _) ?_;rintro Z w8 ⟨rfl,rfl⟩))
   all_goals go_ret
   all_goals exact ⟨rfl,(((Ext.refl _).alloc _).alloc _).trans O⟩
theorem Zjg {α κ:Type} [DecidableEq κ] {ok:α->Bool} {O:Ord α κ} {l:List α} {k:Nat} (C:k<l.length) (h:okAt ok O l k=false):okL ok O l=false:=by
 rw[Zr8];intro A;have:=Zrm.1 A k (Zsu.2 C);rw[h] at this;cases this
theorem ZlD {α κ:Type} [DecidableEq κ] {ok:α->Bool} {O:Ord α κ} {l:List α} (h:∀k,k<l.length->okAt ok O l k=true):okL ok O l=true:=
 Zrm.2 λk A=>h k (Zsu.1 A)
theorem ZbJ {α:Type} {l:List α} {k:Nat} {id:α->ByteArray} {s:ByteArray} (h:(l.take k).any (λx=>decide (id x=s))=false):∀j (A:j<l.length),j<k->id l[j]≠s:=λj A C e=>by
 rw[List.any_eq_false] at h;exact h l[j] (List.mem_take_iff_getElem.2 ⟨j,om,rfl⟩) (by simpa using e)
theorem Zdo {α:Type} {l:List α} {k:Nat} {id:α->ByteArray} {s:ByteArray} (h:(l.take k).any (λx=>decide (id x=s))=true):∃j,∃C:j<l.length,j<k/\id l[j]=s:=by
 rw[Zsc] at h;obtain ⟨x,D,A⟩:=h;obtain ⟨j,C,rfl⟩:=List.mem_take_iff_getElem.1 D;exact ⟨j,om,om,by simpa using A⟩
theorem Zfo (v:Value) (l:List Ent) (w:Wq) (hE:Env w) (h:REnts w v l) (hs:∀x∈l,eokS x) (hn:l.length<=1000000):
 Calls prog 84 #[v,.func (.func 85) #[] #[],.func (.func 86) #[] #[],.func (.func 81) #[] #[]] w λe w'=>e= .returned (.bool (okL okE ordE l))/\Ext w w':=by
 obtain ⟨A,c,rfl, -, -⟩:=h.form;have gf:= @run_makeMap prog;obtain ⟨R,hR⟩:∃R,okL okE ordE l=R:=⟨_,rfl⟩;rw[hR];have HR:=gd hR;have HS:=gd hs;have HH:=gd h;have hW:=gd hE;clear hR hs h hE;go_enter func84,ntmps84;go_wp2;go_loopw [15] (λi wr=>∃(k:Nat) (D:DataW Unit),k<=l.length/\i=nI k/\wr.ownsMap prog 9 (plainElem prog 4) w.heap.size k D/\Hid (SeenMap D (λs=>(l.take k).any (λe=>decide (e.id=s))))/\Hid (∀j,j<k->okAt okE ordE l j=true)/\Ext w wr) (λi _=>l.length - (intOf i).toNat)
 case atStart=>exact ⟨0,.map [],ZqO _,rfl,World.ownsMap_made _ _ _ _,gd SeenMap.nil,gd (λj h=>by omega),(Ext.refl _).alloc _⟩
 case round=>
  obtain ⟨k,D,hk,rfl,hM,hD,ho,J⟩:=hrel;by_cases hf:k<l.length
  ·obtain ⟨ad,c1,e1,hI⟩:=(REnts.ext HH.out J).at hf;injection e1 with e1 e1' e1'';subst e1;clear e1' e1'';have hA:l[k]∈l:=Zq2 hf;have hr:=HS.out _ hA;have hU:=ZqQ hf;have hd:=JR (ok:=okE) (O:=ordE) hf;have hb:∃b,(l.take k).any (λe=>decide (e.id=l[k].id))=b:=⟨_,rfl⟩;obtain ⟨b,hb⟩:=hb;have hJ:b=false->∀j (hj:j<k),ordE.id l[j]≠ordE.id l[k]:=λe j hj=>ZbJ (id:=Ent.id) (hb.trans e) j om hj;have hS:b=true->okAt okE ordE l k=false:=λe=>(by rw[Zr8];intro h;obtain ⟨j,hj,h3,he⟩:=Zdo (id:=Ent.id) (hb.trans e);exact (hd.1 h).2.2 j h3 he);have Y:Hid (okAt okE ordE l k=false->R=false):=gd λh=>(by rw[<-HR.out];exact Zjg hf h);have ha:Hid (SeenMap (D.put (.string l[k].id.data.toList) (.lit (.bool true))) (λs=>(l.take (k+1)).any (λe=>decide (e.id=s)))):=gd (hD.out.put λt=>by rw[hU,List.any_append];simp);obtain ⟨E,hY⟩:∃E,l[k]=E:=⟨_,rfl⟩;rw[hY] at hI hr hb ha hd hJ;have Z:=gd hd;have hN:=gd hJ;have hO:=gd hS;have hz:keyOf prog 9 (.string E.id)=some (.string E.id.data.toList):=keyOf_string_mk underlying9 (by have:=hr.1;unfold maxLen;omega);have h5:E.id.size<=maxLen:=(by have:=hr.1;unfold maxLen;omega);have hg:=gd hz;have HM:=gd hM;have V:=gd hf;clear hd hJ hS hU hA hz;obtain ⟨W1,hw⟩:∃W1,wr.alloc (.cells (eCells E).toArray 61)=W1:=⟨_,rfl⟩;have hy:Ext wr W1:=(by rw[<-hw];exact (Ext.refl _).alloc _);have hu:=λz:Aft W1=>Zaq (hM.kept ((hy.trans z.ext).grown none) (by simp)) hD.out h5;simp only[hb] at hu;have C:=gd (λz:Aft W1=>Zg1 E z.w (hW.out.ext (J.trans (hy.trans z.ext))) hr);have H:=gd (λz:Wq=>Zi9 E z);have hx:W1.heap[wr.heap.size]? =some (.cells (eCells E).toArray 61):=(by rw[<-hw];exact ZqJ _ _);have U:=gd hy;have h8:(0:Int)<=(k:Int):=om;have ga:(k:Int)<(l.length:Int):=om;have hP:Hid (k<maxLen):=gd (by unfold maxLen;omega);clear hy hM hb;obtain ⟨id,title,link,content,upd⟩:=E;unfold eCells at hw hx C H;dsimp only at hw hx C H hI hu ha hg;obtain ⟨b0,b1,b2,b3,b4⟩:=Zou hx;obtain ⟨a0,a1,a2,a3,a4⟩:=hI;have B0:=λz:Aft W1=>Aft.cell b0 z;have B1:=λz:Aft W1=>Aft.cell b1 z;have B2:=λz:Aft W1=>Aft.cell b2 z;have B3:=λz:Aft W1=>Aft.cell b3 z;have B4:=λz:Aft W1=>Aft.cell b4 z;clear b0 b1 b2 b3 b4 hx;dsimp only at a0 a1 a2 a3 a4;cases hok:okE ⟨id,title,link,content,upd⟩ with
   |false=>
    have hR:=Y.out (by
     rw[Zr8];intro h;have h1:=(Z.out.1 h).1;rw[hok] at h1;cases h1)
    subst hR;rw[hok] at C;clear hok;simp only[ZrW,ZsJ] at C;go_wp2;refine rA ?_
    repeat (first|go_big_quiet_step ((first|(go_at_call 85;with_reducible exact Zi (C.out _))|(go_at_call 81;with_reducible exact Zi (H.out _))))|quiet_step ((first|(go_at_call 85;with_reducible exact Zi (C.out _))|(go_at_call 81;with_reducible exact Zi (H.out _)))))
    refine Zru ?_;rintro _ ⟨I,rfl⟩;go_wp2;go_ret;exact ⟨rfl,J.trans (U.out.trans I.ext)⟩
   |true=>
    have hQ:=gd hok;rw[hok] at C;clear hok;simp only[Zsy] at C;rcases ZrX k with h0|hT
    ·cases b with
     |true=>
      have hR:=Y.out (hO.out rfl);subst hR;subst h0;simp only[Zsl,add_zero] at a0 a1 a2 a3 a4;go_wp2;refine rA ?_
      repeat (first|go_big_quiet_step ((first|(go_at_call 85;with_reducible exact Zi (C.out _))|(go_at_call 81;with_reducible exact Zi (H.out _))))|quiet_step ((first|(go_at_call 85;with_reducible exact Zi (C.out _))|(go_at_call 81;with_reducible exact Zi (H.out _)))))
      refine Zru ?_;rintro _ ⟨I,rfl⟩;go_wp2;go_ret;exact ⟨rfl,J.trans (U.out.trans I.ext)⟩
     |false=>
      have X:=gd (Z.out.2 ⟨hQ.out,λh=>absurd h om,hN.out rfl⟩);subst h0;simp only[Zsl,add_zero] at a0 a1 a2 a3 a4;go_wp2;refine rA ?_
      repeat (first|go_big_quiet_step ((first|(go_at_call 85;with_reducible exact Zi (C.out _))|(go_at_call 81;with_reducible exact Zi (H.out _))))|quiet_step ((first|(go_at_call 85;with_reducible exact Zi (C.out _))|(go_at_call 81;with_reducible exact Zi (H.out _)))))
      refine Zru ?_;rintro _ ⟨I,rfl⟩;have hC:=gd (HM.out.kept ((U.out.trans I.ext).grown none) (by simp));have hG:=gd (J.trans (U.out.trans I.ext));have D0:=B0 I;have D1:=B1 I;have D2:=B2 I;have D3:=B3 I;have D4:=B4 I;clear B0 B1 B2 B3 B4 hu
      go_wp2_with (first|(go_at_call 81;refine ZqD (H.out _) ?_;rintro e w2 ⟨rfl,hp⟩)|(at_mapUpdate;(refine ZsZ _ rfl (.tmp 46) (.tmp 49) (.const (.bool true)) 186 rfl 9 4 Ql underlying186 _ w.heap.size 0 D rfl (hC.out.kept (hp.grown none) (by simp)) hP.out _ _ _ rfl rfl hg.out _ [] (plainElem_bool underlying4 true) ?_);intro w5 hl hm))
      have hK:Ext w w5:=Ext.grown' (B:=0) (hG.out.trans hp) hm (λb hb=>by cases hb;exact ZqE _);have hF:=gd hl;clear hl hm;go_roundw
      case rel=>exact ⟨0+1,_,V.out,by go_num,hF.out,ha,gd (λt ht=>by
       by_cases e:t=0
       ·rw[e];exact X.out
       ·exact ho.out t om),hK⟩
      case measure=>simp[intOf];have:=V.out;omega
    ·obtain ⟨q,hq⟩:∃q,k=q+1:=⟨k - 1,om⟩;have h6:q<l.length:=(by have:=V.out;omega);obtain ⟨af,c3,e3,hH⟩:=(REnts.ext HH.out (J.trans U.out)).at h6;injection e3 with e3 e3' e3'';injection e3 with e3;subst e3;clear e3' e3'';have hv:l[k - 1]'(ZsU (ZsV _ _) V.out)=l[q]:=(by subst hq;rfl);obtain ⟨F,hH,hv⟩:∃F:Ent,AtEnt W1 (ad.add (q*5)) F/\l[k - 1]'(ZsU (ZsV _ _) V.out)=F:=⟨_,hH,hv⟩;have hh:=gd hv;have Q:ordE.lt F ⟨id,title,link,content,upd⟩=decide (entCmp F ⟨id,title,link,content,upd⟩<0):=rfl;have S:=gd (λz:Aft W1=>Kj F ⟨id,title,link,content,upd⟩ z.w);obtain ⟨cc,hc⟩:∃cc,entCmp F ⟨id,title,link,content,upd⟩=cc:=⟨_,rfl⟩;rw[hc] at Q;simp only[hc] at S;clear hv hc;obtain ⟨h9,hV,hX,hL,h7⟩:=F;obtain ⟨k0,k1,k2,k3,k4⟩:=hH;dsimp only at k0 k1 k2 k3 k4;have C0:=λz:Aft W1=>Aft.cell k0 z;have C1:=λz:Aft W1=>Aft.cell k1 z;have C2:=λz:Aft W1=>Aft.cell k2 z;have C3:=λz:Aft W1=>Aft.cell k3 z;have C4:=λz:Aft W1=>Aft.cell k4 z;clear k0 k1 k2 k3 k4;have gb:(0:Int)<(k:Int):=om;have ge:wrap64 ((k:Int) - 1)=(q:Int):=(by rw[Z9 _ ⟨om,om⟩];omega);have gc:(k:Int) - 1=(q:Int):=om;have gg:(0:Int)<=(q:Int):=om;have gh:(q:Int)<(l.length:Int):=om;unfold eCells at S;dsimp only at S;by_cases hB:cc<0
     ·have hi:Hid (∀h:0<k,ordE.lt (l[k - 1]'(ZsU (ZsV _ _) V.out)) ⟨id,title,link,content,upd⟩=true):=gd (λh=>by rw[hh.out,Q];exact Zrj hB);have h2:¬(0:Int)<=cc:=om;cases b with
      |true=>
       have hR:=Y.out (hO.out rfl);subst hR;clear Q hq hh;go_wp2;refine rA ?_
       repeat (first|go_big_quiet_step ((first|(go_at_call 85;with_reducible exact Zi (C.out _))|(go_at_call 86;with_reducible exact Zi (S.out _))|(go_at_call 81;with_reducible exact Zi (H.out _))))|quiet_step ((first|(go_at_call 85;with_reducible exact Zi (C.out _))|(go_at_call 86;with_reducible exact Zi (S.out _))|(go_at_call 81;with_reducible exact Zi (H.out _)))))
       refine Zru ?_;rintro _ ⟨I,rfl⟩;go_wp2;go_ret;exact ⟨rfl,J.trans (U.out.trans I.ext)⟩
      |false=>
       have X:=gd (Z.out.2 ⟨hQ.out,hi.out,hN.out rfl⟩);clear Q hq hh hi;go_wp2;refine rA ?_
       repeat (first|go_big_quiet_step ((first|(go_at_call 85;with_reducible exact Zi (C.out _))|(go_at_call 86;with_reducible exact Zi (S.out _))|(go_at_call 81;with_reducible exact Zi (H.out _))))|quiet_step ((first|(go_at_call 85;with_reducible exact Zi (C.out _))|(go_at_call 86;with_reducible exact Zi (S.out _))|(go_at_call 81;with_reducible exact Zi (H.out _)))))
       refine Zru ?_;rintro _ ⟨I,rfl⟩;have hC:=gd (HM.out.kept ((U.out.trans I.ext).grown none) (by simp));have hG:=gd (J.trans (U.out.trans I.ext));have D0:=B0 I;have D1:=B1 I;have D2:=B2 I;have D3:=B3 I;have D4:=B4 I;clear B0 B1 B2 B3 B4 hu
       go_wp2_with (first|(go_at_call 81;refine ZqD (H.out _) ?_;rintro e w2 ⟨rfl,hp⟩)|(at_mapUpdate;(refine ZsZ _ rfl (.tmp 46) (.tmp 49) (.const (.bool true)) 186 rfl 9 4 Ql underlying186 _ w.heap.size k D rfl (hC.out.kept (hp.grown none) (by simp)) hP.out _ _ _ rfl rfl hg.out _ [] (plainElem_bool underlying4 true) ?_);intro w5 hl hm))
       have hK:Ext w w5:=Ext.grown' (B:=0) (hG.out.trans hp) hm (λb hb=>by cases hb;exact ZqE _);have hF:=gd hl;clear hl hm;go_roundw
       case rel=>exact ⟨k+1,_,V.out,by go_num,hF.out,ha,gd (λt ht=>by
        by_cases e:t=k
        ·rw[e];exact X.out
        ·exact ho.out t om),hK⟩
       case measure=>simp[intOf];have:=V.out;omega
     ·have hR:=Y.out (by
       rw[Zr8];intro h;have h1:=(Z.out.1 h).2.1 hT;rw[hh.out,Q] at h1;exact hB (Zro h1))
      subst hR;have h2:(0:Int)<=cc:=om;clear Q hq hh;go_wp2;refine rA ?_
      repeat (first|go_big_quiet_step ((first|(go_at_call 85;with_reducible exact Zi (C.out _))|(go_at_call 86;with_reducible exact Zi (S.out _))|(go_at_call 81;with_reducible exact Zi (H.out _))))|quiet_step ((first|(go_at_call 85;with_reducible exact Zi (C.out _))|(go_at_call 86;with_reducible exact Zi (S.out _))|(go_at_call 81;with_reducible exact Zi (H.out _)))))
      refine Zru ?_;rintro _ ⟨I,rfl⟩;go_wp2;go_ret;exact ⟨rfl,J.trans (U.out.trans I.ext)⟩
  ·have h4:k=l.length:=om;subst h4;have hZ:R=true:=(by rw[<-HR.out];exact ZlD ho.out);subst hZ;go_wp2;go_ret;exact ⟨rfl,J⟩
end Go.Proofs.YtmfinhgobjbecaaGreatDoor
