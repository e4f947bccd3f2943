/- Parts of the proof: contracts and plain laws. -/
import Derived.Test.YtnlafkgkcnenfaaGreatDoorTie
import Derived.Test.YtnlafkgkcnenfaaGreatDoorCards
import Derived.Test.YtnlafkgkcnenfaaGreatDoorRows
import Derived.Test.YtnlafkgkcnenfaaGreatDoorR29
namespace Go.Proofs.YtnlafkgkcnenfaaGreatDoor
open Go Go.RowKit Go.Joins Go.ChangeShapes Go.WideShapes Go.ChangeAt Go.Deep _root_.Go.Proofs.Tryz
set_option linter.unusedVariables false
set_option linter.unusedSimpArgs false
set_option maxRecDepth 100000
set_option maxHeartbeats 16000000
section
variable {k:Nat}
structure OutB (w:Wq) (b:Nat) (u:Value) (O:List Fc):Prop where
 bk:w.heap[b]? =some (.cells #[u] 31)
 hf:HFs w (b+1) u O
 far:∀x∈O,awayC x (some b)
section
variable {w w' w5:World} {b:Nat} {u u':Value} {O O':List Fc}
theorem OutB.ext (h:OutB w b u O) (A:Ext w w'):OutB w' b u O:=⟨A.heap h.bk,h.hf.ext A,h.far⟩
theorem OutB.row_ne (h:OutB w b u O) (A:k<=b):u.ownBlock≠some k:=λe=>by
 have:=(h.hf.row.lt k e).1;omega
theorem OutB.cell (h:OutB w b u O):w.cell? ⟨b,0,none⟩=some u/\w.frozen? ⟨b,0,none⟩=false:=⟨by rw[Jp h.bk];rfl,YH h.bk 0⟩
theorem OutB.store (h:OutB w b u O) (H:w.grownBy w5 u.ownBlock) (F:HFs w5 (b+1) u' O') (A:∀x∈O',awayC x (some b)):OutB (w5.setCell ⟨b,0,none⟩ u') b u' O':=by
 have D:w5.heap[b]? =w.heap[b]?:=H.block b (Zx.1 h.bk).1 (λe=>h.row_ne (Zb _) e.symm);exact ⟨block_setCell (D.trans h.bk) _,F.setCell (YW b) A,A⟩
end
theorem Gd:(prog.info? 31).map (λi=>i.size)=some 1:=by kernel_rfl
theorem Zat (v:Value) (l:List Fc) (w:Wq) (hr:RFcs w v l) (gb:∀x∈l,RdC w x) (hk:∀x∈l,x.f.path.length<=16777216) (hn:l.length<=1000000):
 Calls prog 18 #[.agg #[v]] w λe w'=>∃A n c lc,e= .returned (.agg #[.slice A n c])/\(n=lc.length/\lc.map Fc.f=(l.map Fc.f).map outl/\RFcs w' (.slice A n c) lc/\∀y∈lc,RdC w' y)/\Ext w w':=by
 obtain ⟨A,c,rfl, -, -⟩:=hr.form;obtain ⟨i0,gr,gw,gx,gy⟩:=Yw Zad;obtain ⟨s0,gz,gA,gB,gC⟩:=Yw KW;have HR:=gd hr;have hB:=gd gb;have HK:=gd hk;have hu:Ext w (((w.alloc (.cells #[.slice A l.length c] 31)).alloc (.cells #[sN] 31)).alloc (.cells #[sN] 31)):=(((Ext.refl w).alloc _).alloc _).alloc _;have hT:=gd hu;have h9:=(((Ext.refl (w.alloc (.cells #[.slice A l.length c] 31))).alloc (.cells #[sN] 31)).alloc (.cells #[sN] 31)).heap (Zf w _);have ga:=((Ext.refl ((w.alloc (.cells #[.slice A l.length c] 31)).alloc (.cells #[sN] 31))).alloc (.cells #[sN] 31)).heap (YD w _ _);have hE:=Zf ((w.alloc (.cells #[.slice A l.length c] 31)).alloc (.cells #[sN] 31)) (.cells #[sN] 31);simp only[Zt] at hE;have gl:=gd h9;have gm:=gd ga;have gn:=gd hE;clear hr gb hk hu h9 ga hE;go_enter func18,ntmps18;go_wp2;go_loopw [4] (λi wr=>∃(j:Nat) (u:Value) (O:List Fc),j<=l.length/\i=nI j/\OutB wr (w.heap.size+1+1) u O/\wr.cell? ⟨w.heap.size,0,none⟩=some (.slice A l.length c)/\wr.heap[w.heap.size+1]? =some (.cells #[sN] 31)/\
  Hid (O.map Fc.f=((l.take j).map Fc.f).map outl)/\Hid (O.length=j)/\Hid (∀x∈O,awayC x (some (w.heap.size+1)))/\Ext w wr) (λi _=>l.length - (intOf i).toNat)
 case atStart=>exact ⟨0,sN,[],Zh _,rfl,⟨gn.out,HFs.nil _ _,by intro x hx;cases hx⟩,(Zs gl.out 0).trans rfl,gm.out,rfl,rfl,(by intro x hx;cases hx),hT.out⟩
 case round=>
  obtain ⟨j,u,O,hj,rfl,hO,h5,hi,hX,hY,ht,hx⟩:=hrel;obtain ⟨OA,oc,gu⟩:=Z8 hO.hf.row;subst gu;by_cases hm:j<l.length
  ·obtain ⟨ad,c',hv,hD⟩:=(HR.out.ext hx).at hm;injection hv with hv1 hv2 hv3;subst hv1;clear hv2 hv3;have ha:l[j]∈l:=Zz hm;have gc:=(hB.out _ ha).ext hx;have hl:=HK.out _ ha;have hG:(l.take (j+1)).map Fc.f=(l.take j).map Fc.f++ [l[j].f]:=(by rw[Zq hm,ZK];rfl);obtain ⟨x,ge⟩:∃x,l[j]=x:=⟨_,rfl⟩;rw[ge] at hD gc hl hG;have hR:=gd hG;clear ge hG ha;obtain ⟨xp,gI,⟨D,R,H,I,hw,hg⟩⟩:=x;obtain ⟨ho,hH⟩:=gc;dsimp only at hD ho hH hl hR;obtain ⟨xA,xc,rfl, -, -⟩:=ho.form;obtain ⟨xB,xd,rfl, -, -⟩:=hH.form;obtain ⟨a0,a1,a2,a3,a4,a5⟩:=hD;dsimp only at a0 a1 a2 a3 a4 a5;have gF:(0:Int)<=(j:Int):=(by omega);have gH:(j:Int)<(l.length:Int):=(by omega);have go:=gd ho;have HO:=gd hO;have hU:=gd hx;have gg:=gd h5;have hL:=gd hi;have gi:=gd hl;have h4:=hO.cell.1;obtain ⟨W5,hZ⟩:∃W5,wr.alloc (.cells #[.slice xA D.length xc,.string R,.string H,.string I,nI hw,.slice xB hg.length xd] 55)=W5:=⟨_,rfl⟩;have hI:Ext wr W5:=(by rw[<-hZ];exact (Ext.refl wr).alloc _);have h3:W5.heap[wr.heap.size]? =some (.cells #[.slice xA D.length xc,.string R,.string H,.string I,nI hw,.slice xB hg.length xd] 55):=(by rw[<-hZ];exact Zf wr _);have U:=gd hI;obtain ⟨b0,b1,b2,b3,b4,b5⟩:=Ze7 h3;have f0:=hI.cell h4;have Q:Hid (∀w',Ext W5 w'->w'.cell? ⟨w.heap.size+1+1,0,none⟩=some (.slice OA O.length oc)/\w'.cell? ⟨wr.heap.size,0,none⟩=some (.slice xA D.length xc)/\w'.cell? ⟨wr.heap.size,1,none⟩=some (.string R)/\w'.cell? ⟨wr.heap.size,2,none⟩=some (.string H)/\w'.cell? ⟨wr.heap.size,3,none⟩=some (.string I)):=gd λw' h=>⟨h.cell f0,h.cell b0,h.cell b1,h.cell b2,h.cell b3⟩;clear hO hi hl ho hH hI hx h3 h4;go_wp2;refine rN ?_;change wpAny _ _ _ _ _ _ _ (World.drew _);have Z:=(Ext.refl W5).drew;refine tH 0 (.pointer (some ⟨w.heap.size+1+1,0,none⟩)) ?_;refine tH 3 (.pointer (some ⟨wr.heap.size,0,none⟩)) ?_;refine tH 6 (.pointer (some ⟨wr.heap.size,1,none⟩)) ?_;refine tH 8 (.pointer (some ⟨wr.heap.size,2,none⟩)) ?_;refine tH 10 (.pointer (some ⟨wr.heap.size,3,none⟩)) ?_;go_simp;refine Y8 (i:=1) (v:= .slice OA O.length oc) (λw'=>w'.cell? ⟨w.heap.size+1+1,0,none⟩=some (.slice OA O.length oc)/\w'.cell? ⟨wr.heap.size,0,none⟩=some (.slice xA D.length xc)/\w'.cell? ⟨wr.heap.size,1,none⟩=some (.string R)/\w'.cell? ⟨wr.heap.size,2,none⟩=some (.string H)/\w'.cell? ⟨wr.heap.size,3,none⟩=some (.string I)) 16 rfl (by kernel_rfl) (λ_ _ _ h=>h) (Or.inl ⟨by rfl,λw' hS=>by have hq:=hS.1;go_simp⟩) (Q.out _ Z) ?_;refine tT 4 (.slice xA D.length xc) rfl (λw' hS=>by have hq:=hS.2.1;go_simp) (Q.out _ Z) ?_;refine tT 7 (.string R) rfl (λw' hS=>by have hq:=hS.2.2.1;go_simp) (Q.out _ Z) ?_;refine tT 9 (.string H) rfl (λw' hS=>by have hq:=hS.2.2.2.1;go_simp) (Q.out _ Z) ?_;refine tT 11 (.string I) rfl (λw' hS=>by have hq:=hS.2.2.2.2;go_simp) (Q.out _ Z) ?_;go_simp;refine JM (i:=2) rfl (by kernel_rfl) (λK hK=> ?_);go_simp;have he:=Z.alloc (.cells #[] 9);refine hK _ _ (Q.out _ he) ?_;clear hK K;have hA:=gd (JE (w:=W5.drew) (base:=W5.heap.size) (e:=9) (size:=1) (n:=0) (cs:= []) (Zb _) rfl (by decide));have hC:=gd (Ge (n:=0) (m:=D.length) (by have:=gi.out;omega));refine JM (i:=5) rfl (by kernel_rfl) (λK hK=> ?_);refine ZU _ (by rfl) (.tmp 21) (.tmp 23) _ (by rfl) W5.heap.size 9 s0 _ 1 16 underlying52 gz gA gB gC rfl (by decide) _ 0 [] (by rfl) hA.out (.slice xA D.length xc) D.length (D.map Value.string) (by rfl) (go.out.ext (U.out.trans he)) (UP _) hC.out.1 hC.out.2 he.size ?_;intro v4 w4 S h6 h0;have hd:Ext W5 w4:=Ext.app he h6 hA.out (Zb _);rw[Yu,Jy] at S;obtain ⟨PB,pb,gq⟩:=Z8 S;subst gq;have hz:=gd S;have gG:=gd hd;clear S h6 h0 hA hC;refine hK _ _ (Q.out _ hd) ?_;clear hK K;refine JM (i:=12) rfl (by kernel_rfl) (λK hK=> ?_);go_simp;refine hK _ _ (Q.out _ hd) ?_;clear hK K;refine Y1 16 [] (AtIx.cons rfl AtIx.nil) [13,14,15] (AtIx.cons rfl (AtIx.cons rfl (AtIx.cons rfl AtIx.nil))) rfl (by kernel_rfl) ?_;refine ZR (λK hK=> ?_);go_simp;have Y:=hd.alloc (.cells #[.slice PB D.length pb,.string R,.string H,.string I,nI (-62135596800),sN] 55);refine hK _ _ (Q.out _ Y) ?_;clear hK K;obtain ⟨F,hF⟩:∃F:Fc,F=⟨.slice PB D.length pb,sN,⟨D,R,H,I, -62135596800,[]⟩⟩:=⟨_,rfl⟩;have gh:=gd hF;have hQ:Hid (∀u∈cellsC F,u.oneCell'=true):=gd (by rw[hF];exact Jf ⟨⟨_,_,_,rfl⟩,⟨_,_,_,rfl⟩⟩);have hP:Hid (RSl (w4.alloc (.cells #[.slice PB D.length pb,.string R,.string H,.string I,nI (-62135596800),sN] 55)) 6 (.slice (some ⟨w4.heap.size,0,none⟩) 1 1) 1 (cellsC F)):=gd (by rw[hF];exact Yp rfl (by decide));have hN:=gd (KR (n:=O.length) (m:=1) (by have:=hY.out;omega));have M:=gd (HO.out.ext (U.out.trans Y));have hB:Hid (RdC (w4.alloc (.cells #[.slice PB D.length pb,.string R,.string H,.string I,nI (-62135596800),sN] 55)) F):=gd (by rw[hF];exact ⟨RSl.of_own (Yh hz.out ((Ext.refl w4).alloc _)),RSl.nil _ 5⟩);have hp:Hid (∀r,r<W5.heap.size->awayC F (some r)):=gd (λr hr=>by
    rw[hF];refine ⟨?_,Or.inl rfl⟩;by_cases hb:D= []
    ·exact Or.inl hb
    ·exact Or.inr (KQ hz.out (by simpa using hb) hr))
   have gf:Hid (awayC F (Value.slice OA O.length oc).ownBlock):=gd (by
    rw[hF];refine ⟨?_,Or.inl rfl⟩;by_cases hb:D= []
    ·exact Or.inl hb
    ·exact Or.inr (GH (HO.out.ext U.out).hf.row hz.out (by simpa using hb)))
   clear hF;refine ZR (λK hK=> ?_);refine ZU _ (by rfl) (.tmp 20) (.tmp 32) _ (by rfl) (w.heap.size+1+1+1) 55 i0 _ 6 104 underlying29 gr gw gx gy rfl (by decide) _ O.length (flatC O) (by rfl) M.out.hf.row _ 1 (cellsC F) (by rfl) hP.out hQ.out hN.out.1 hN.out.2 (by have:=(Zx.1 M.out.bk).1;simp only[nI,sN] at this⊢;omega) ?_;intro v8 w8 X V hs;have hV:=HFs.snoc M.out.hf hB.out gf.out X V hs;obtain ⟨OB,ob,gt⟩:=Z8 X;subst gt;have J:∀(k i:Nat) (y:Value),k<=w.heap.size+1+1\/k=wr.heap.size->W5.cell? ⟨k,i,none⟩=some y->w8.cell? ⟨k,i,none⟩=some y:=λk i y hk hc=>by
    refine V.cell (Y.cell hc) λe=> ?_;rcases hk with hk|hk
    ·exact M.out.row_ne hk e.symm
    ·have h1:=(HO.out.hf.row.lt k e.symm).2;omega
   have h7:w.heap.size+1+1<W5.heap.size:=(by have h1:=(Zx.1 HO.out.bk).1;have h2:=U.out.size;omega);have hW:=M.out.store V hV (λx hx=>(Zu.1 hx).elim (M.out.far x) λh=>by rw[Zo.1 h];exact hp.out _ h7);have hh:w8.cell? ⟨w.heap.size+1+1,0,none⟩=some (.slice OA O.length oc)/\w8.cell? ⟨wr.heap.size,0,none⟩=some (.slice xA D.length xc)/\w8.cell? ⟨wr.heap.size,1,none⟩=some (.string R)/\w8.cell? ⟨wr.heap.size,2,none⟩=some (.string H)/\w8.cell? ⟨wr.heap.size,3,none⟩=some (.string I):=(by obtain ⟨e0,e1,e2,e3,e4⟩:=Q.out _ (Ext.refl W5);exact ⟨J _ _ _ (Or.inl (Zb _)) e0,J _ _ _ (Or.inr rfl) e1,J _ _ _ (Or.inr rfl) e2,J _ _ _ (Or.inr rfl) e3,J _ _ _ (Or.inr rfl) e4⟩);have gk:=gd hW;have gD:=hh.1;have gE:w8.frozen? ⟨w.heap.size+1+1,0,none⟩=false:=(World.frozen?_of_block (a:=⟨w.heap.size+1+1,0,none⟩) (V.block (w.heap.size+1+1) (by have:=(Zx.1 M.out.bk).1;omega) (λe=>M.out.row_ne (Zb _) e.symm))).trans M.out.cell.2;have gp:Hid (Ext w w8):=gd (Ext.app (hU.out.trans (U.out.trans Y)) V M.out.hf.row (by have:=hU.out.size;have:=hT.out.size;simp only[Zt] at this;omega));have hJ:Hid (w8.cell? ⟨w.heap.size,0,none⟩=some (.slice (some ad) l.length c)):=gd (J _ _ _ (Or.inl (by omega)) (U.out.cell gg.out));have hM:Hid (w8.heap[w.heap.size+1]? =some (.cells #[sN] 31)):=gd ((V.block (w.heap.size+1) (by have h1:=(Zx.1 hL.out).1;have h2:=(U.out.trans Y).size;simp only[nI,sN] at h1 h2⊢;omega) (λe=>M.out.row_ne (by omega) e.symm)).trans ((U.out.trans Y).heap hL.out));refine hK _ _ hh ?_;clear hK K X V hs hV hW J;refine ZR (λK hK=> ?_);go_simp;refine hK _ _ hh ?_;clear hK K;refine Y2 ?_;clear Y hd he Z hh f0 b0 b1 b2 b3 b4 b5 h5;go_wp2;go_roundw
   case rel=>
    refine ⟨j+1,_,O++ [F],hm,by go_num,gk.out,(ZZ _ _ _ _ (by intro e;injection e with e;omega)).trans hJ.out,(ZY _ _ _ _ (by show w.heap.size+1≠w.heap.size+1+1;omega)).trans hM.out,gd ?_,gd ?_,gd ?_,gp.out.setCell (by show w.heap.size<=w.heap.size+1+1;omega) _⟩
    ·rw[ZK,hX.out,hR.out,ZK];rw[gh.out];rfl
    ·rw[Zd,hY.out];rfl
    ·exact λy hy=>(Zu.1 hy).elim (ht.out y) λh=>by rw[Zo.1 h];exact hp.out _ (by omega)
   case measure=>simp[intOf];omega
  ·have gs:j=l.length:=(by omega);subst gs;have f0:=hO.cell.1;have HO:=gd hO;have HX:=gd hx;have h8:(Value.slice OA O.length oc).ownBlock≠some (w.heap.size+1):=hO.row_ne (Yc _);have gj:=gd h8;clear hO hx h8
   go_wp2_with (first|(refine Zc rfl 31 (.tmp 2) (.tmp 35) rfl (w.heap.size+1) _ rfl rfl _ _ hi Gd rfl Uw ?_))
   ((try simp only[Exit.inBlock,Exit.then]);refine Zn (XT rfl _ _ _ _ _ _ _ rfl (Zp _ _ _ _ _ _ hi) underlying31 rfl Gd) rfl ?_);refine ⟨OA,O.length,oc,O,rfl,⟨rfl,?_,RSl.grown (RSl.of_own HO.out.hf.row) (Yv _ _ _) (Or.inr λe=>gj.out e),λy hy=>(HO.out.hf.rd y hy).grown (Yv _ _ _) (ht.out y hy)⟩,HX.out.setRow (Yc _) _⟩;rw[hX.out,ZM (Zb _)]
end
section
variable {B:Nat} {r:Option Nat} {w w':World}
def PathOwn (w:Wq) (B:Nat) (y:Fc):Prop:=y.f.path= []\/w.ownsRow B 9 1 y.p y.f.path.length (y.f.path.map Value.string)
theorem PathOwn.grown {y:Fc} (h:PathOwn w B y) (F:w.grownBy w' r) (D:awayC y r):PathOwn w' B y:=by
 rcases h with h|h
 ·exact Or.inl h
 ·rcases D.1 with A|A
  ·exact Or.inl A
  ·exact Or.inr (h.kept F (Or.inr A))
theorem PathOwn.ext {y:Fc} (h:PathOwn w B y) (A:Ext w w'):PathOwn w' B y:=h.imp id λh=>Yh h A
theorem Zea (v:Value) (l:List Fc) (w:Wq) (hr:RFcs w v l) (h6:∀x∈l,RdC w x) (hk:∀x∈l,x.f.path.length<=16777216) (hn:l.length<=1000000):
 Calls prog 23 #[.agg #[v]] w λe w'=>∃A n c lc,e= .returned (.agg #[.slice A n c])/\(n=lc.length/\lc.map Fc.f=(l.map Fc.f).map outl/\HFs w' w.heap.size (.slice A n c) lc/\∀y∈lc,PathOwn w' w.heap.size y)/\Ext w w':=by
 obtain ⟨A,c,rfl, -, -⟩:=hr.form;obtain ⟨i0,gp,gs,gt,gu⟩:=Yw Zad;obtain ⟨s0,gF,gG,gH,gI⟩:=Yw KW;have HR:=gd hr;have he:=gd h6;have HK:=gd hk;have hp:Ext w (((w.alloc (.cells #[.slice A l.length c] 31)).alloc (.cells #[sN] 31)).alloc (.cells #[sN] 31)):=(((Ext.refl w).alloc _).alloc _).alloc _;have hT:=gd hp;have h4:=(((Ext.refl (w.alloc (.cells #[.slice A l.length c] 31))).alloc (.cells #[sN] 31)).alloc (.cells #[sN] 31)).heap (Zf w _);have h5:=((Ext.refl ((w.alloc (.cells #[.slice A l.length c] 31)).alloc (.cells #[sN] 31))).alloc (.cells #[sN] 31)).heap (YD w _ _);have hC:=Zf ((w.alloc (.cells #[.slice A l.length c] 31)).alloc (.cells #[sN] 31)) (.cells #[sN] 31);simp only[Zt] at hC;have gi:=gd h4;have gj:=gd h5;have gk:=gd hC;clear hr h6 hk hp h4 h5 hC;go_enter func23,ntmps23;go_wp2;go_loopw [9] (λi wr=>∃(j:Nat) (u:Value) (O:List Fc),j<=l.length/\i=nI j/\OutB wr (w.heap.size+1+1) u O/\wr.cell? ⟨w.heap.size,0,none⟩=some (.slice A l.length c)/\wr.heap[w.heap.size+1]? =some (.cells #[sN] 31)/\
  Hid (O.map Fc.f=((l.take j).map Fc.f).map outl)/\Hid (O.length=j)/\Hid (∀x∈O,awayC x (some (w.heap.size+1)))/\Hid (∀x∈O,PathOwn wr w.heap.size x)/\Ext w wr) (λi _=>l.length - (intOf i).toNat)
 case atStart=>exact ⟨0,sN,[],Zh _,rfl,⟨gk.out,HFs.nil _ _,by intro x U;cases U⟩,(Zs gi.out 0).trans rfl,gj.out,rfl,rfl,(by intro x U;cases U),(by intro x U;cases U),hT.out⟩
 case round=>
  obtain ⟨j,u,O,hj,rfl,hO,hY,hg,hV,hW,hb,h3,U⟩:=hrel;obtain ⟨OA,oc,gr⟩:=Z8 hO.hf.row;subst gr;by_cases hi:j<l.length
  ·obtain ⟨ad,c',hv,hu⟩:=(HR.out.ext U).at hi;injection hv with hv1 hv2 hv3;subst hv1;clear hv2 hv3;have hc:l[j]∈l:=Zz hi;have h7:=(he.out _ hc).ext U;have hh:=HK.out _ hc;have hD:(l.take (j+1)).map Fc.f=(l.take j).map Fc.f++ [l[j].f]:=(by rw[Zq hi,ZK];rfl);obtain ⟨x,ga⟩:∃x,l[j]=x:=⟨_,rfl⟩;rw[ga] at hu h7 hh hD;have hS:=gd hD;clear ga hD hc;obtain ⟨xp,gJ,⟨D,Q,H,I,hq,hd⟩⟩:=x;obtain ⟨hl,hE⟩:=h7;dsimp only at hu hl hE hh hS;obtain ⟨xA,xc,rfl, -, -⟩:=hl.form;obtain ⟨xB,xd,rfl, -, -⟩:=hE.form;obtain ⟨a0,a1,a2,a3,a4,a5⟩:=hu;dsimp only at a0 a1 a2 a3 a4 a5;have gy:(0:Int)<=(j:Int):=(by omega);have gE:(j:Int)<(l.length:Int):=(by omega);have gl:=gd hl;have HO:=gd hO;have hs:=gd U;have gb:=gd hY;have hL:=gd hg;have gf:=gd hh;have hA:=hO.cell.1;obtain ⟨W5,hX⟩:∃W5,wr.alloc (.cells #[.slice xA D.length xc,.string Q,.string H,.string I,nI hq,.slice xB hd.length xd] 55)=W5:=⟨_,rfl⟩;have hG:Ext wr W5:=(by rw[<-hX];exact (Ext.refl wr).alloc _);have hw:W5.heap[wr.heap.size]? =some (.cells #[.slice xA D.length xc,.string Q,.string H,.string I,nI hq,.slice xB hd.length xd] 55):=(by rw[<-hX];exact Zf wr _);have Y:=gd hG;obtain ⟨b0,b1,b2,b3,b4,b5⟩:=Ze7 hw;have f0:=hG.cell hA;have gA:Hid (∀w',Ext W5 w'->w'.cell? ⟨w.heap.size+1+1,0,none⟩=some (.slice OA O.length oc)/\w'.cell? ⟨wr.heap.size,0,none⟩=some (.slice xA D.length xc)/\w'.cell? ⟨wr.heap.size,1,none⟩=some (.string Q)/\w'.cell? ⟨wr.heap.size,2,none⟩=some (.string H)/\w'.cell? ⟨wr.heap.size,3,none⟩=some (.string I)):=gd λw' h=>⟨h.cell f0,h.cell b0,h.cell b1,h.cell b2,h.cell b3⟩;have gc:=gd (λ(w':Wq) (h:Ext wr w')=>QW _ D.length (D.map Value.string) w' (gl.out.ext h) (UP _) (by have:=gf.out;omega));have hI:=gd hw;have hJ:=gd hA;clear hO hg hh hl hE hG U hw b1 b2 b3 b4 b5 f0 hA
   go_wp2_with (first
    |(go_at_call 33;(have hz:=gc.out _ Y.out);(with_reducible refine Za hz ?_);clear hz;rintro e w6 ⟨v6,rfl,K,h8⟩;(obtain ⟨PB,pb,gn⟩:=Z8 K);subst gn;(have ha:=h8.heap hI.out);(obtain ⟨y0,y1,y2,y3,y4,y5⟩:=Ze7 ha);(have z0:=YH ha 0);(have z4:=YH ha 4);(have z5:=YH ha 5);
       (obtain ⟨Z,ht⟩:∃Z,(((w6.setCell ⟨wr.heap.size,0,none⟩ (.slice PB D.length pb)).setCell ⟨wr.heap.size,4,none⟩ (nI (-62135596800))).setCell ⟨wr.heap.size,5,none⟩ sN)=Z:=⟨_,rfl⟩);
       (have go:Z.heap[wr.heap.size]? =some (.cells #[.slice PB D.length pb,.string Q,.string H,.string I,nI (-62135596800),sN] 55):=by rw[<-ht];exact block_setCell (block_setCell (block_setCell ha _) _) _);
       (have h9:Ext wr Z:=by rw[<-ht];exact (((Y.out.trans h8).setCell (Zb _) _).setCell (Zb _) _).setCell (Zb _) _);
       (have ho:w6.grownBy Z (some wr.heap.size):=by rw[<-ht];exact ((Yo w6 ⟨wr.heap.size,0,none⟩ _).trans (Yo _ ⟨wr.heap.size,4,none⟩ _)).trans (Yo _ ⟨wr.heap.size,5,none⟩ _));
       (have f0:=h9.cell hJ.out);(obtain ⟨c0,gB,gC,c3,c4,c5⟩:=Ze7 go);
       (have S:=h9.alloc (.cells #[.slice PB D.length pb,.string Q,.string H,.string I,nI (-62135596800),sN] 55));
       (obtain ⟨F,hF⟩:∃F:Fc,F=⟨.slice PB D.length pb,sN,⟨D,Q,H,I, -62135596800,[]⟩⟩:=⟨_,rfl⟩);
       (have ge:=gd hF);
       (have hR:Hid (∀u∈cellsC F,u.oneCell'=true):=gd (by rw[hF];exact Jf ⟨⟨_,_,_,rfl⟩,⟨_,_,_,rfl⟩⟩));
       (have hP:Hid (RSl (Z.alloc (.cells #[.slice PB D.length pb,.string Q,.string H,.string I,nI (-62135596800),sN] 55)) 6 (.slice (some ⟨Z.heap.size,0,none⟩) 1 1) 1 (cellsC F)):=gd (by rw[hF];exact Yp rfl (by decide)));
       (have hN:=gd (KR (n:=O.length) (m:=1) (by have:=hW.out;omega)));
       (have J:=gd (HO.out.ext S));
       (have gD:wr.heap.size<W5.heap.size:=(Zx.1 hI.out).1);
       (have he:Hid (RdC (Z.alloc (.cells #[.slice PB D.length pb,.string Q,.string H,.string I,nI (-62135596800),sN] 55)) F):=gd (by
        rw[hF]
        refine ⟨(RSl.grown (RSl.of_own K) ho (Or.inr λe=> ?_)).ext ((Ext.refl Z).alloc _),RSl.nil _ 5⟩
        have:=(K.lt _ e).1
        omega));
       (have gg:Hid (PathOwn (Z.alloc (.cells #[.slice PB D.length pb,.string Q,.string H,.string I,nI (-62135596800),sN] 55)) w.heap.size F):=gd (by
        rw[hF]
        refine Or.inr (XM (Yh (K.kept ho (Or.inr λe=> ?_)) ((Ext.refl Z).alloc _)) (Zv hs.out.size Y.out.size))
        have:=(K.lt _ e).1
        omega));
       (have X:Hid (∀r,r<W5.heap.size->awayC F (some r)):=gd (λr hr=>by
        rw[hF]
        refine ⟨Or.inr λe=> ?_,Or.inl rfl⟩
        have:=(K.lt _ e).1
        omega));
       (have hH:Hid (awayC F (Value.slice OA O.length oc).ownBlock):=gd (by
        cases hB:(Value.slice OA O.length oc).ownBlock with
        |none=>exact GF he.out
        |some g=>exact X.out g (by have:=(HO.out.hf.row.lt g hB).2;have:=Y.out.size;omega)));
       clear hF)
    |(at_builtin;refine ZH _ rfl (.tmp 20) (.tmp 22) _ rfl (w.heap.size+1+1+1) 55 i0 _ 6 104 underlying29 gp gs gt gu rfl (by decide) _ O.length (flatC O) rfl J.out.hf.row _ 1 (cellsC F) rfl hP.out hR.out hN.out.1 hN.out.2 (by have:=(Zx.1 J.out.bk).1;omega) ?_;intro v8 w8 R M hm;
       (have hU:=HFs.snoc J.out.hf he.out hH.out R M hm);(obtain ⟨OB,ob,hB⟩:=Z8 R);subst hB;
       (have hZ:w.heap.size+1+1<W5.heap.size:=by have h1:=(Zx.1 HO.out.bk).1;have h2:=Y.out.size;omega);
       (have hQ:=gd (J.out.store M hU (λx U=>(Zu.1 U).elim (J.out.far x) λh=>by rw[Zo.1 h];exact X.out _ hZ)));
       (have gw:=M.cell (S.cell hJ.out) (λe=>J.out.row_ne (Zb _) e.symm));
       (have gx:w8.frozen? ⟨w.heap.size+1+1,0,none⟩=false:=(World.frozen?_of_block (a:=⟨w.heap.size+1+1,0,none⟩) (M.block (w.heap.size+1+1) (by have:=(Zx.1 J.out.bk).1;omega) (λe=>J.out.row_ne (Zb _) e.symm))).trans J.out.cell.2);
       (have gm:Hid (Ext w w8):=gd (Ext.app (hs.out.trans S) M J.out.hf.row (by have:=hs.out.size;have:=hT.out.size;simp only[Zt] at this;omega)));
       (have hK:Hid (w8.cell? ⟨w.heap.size,0,none⟩=some (.slice (some ad) l.length c)):=gd (M.cell (S.cell gb.out) (λe=>J.out.row_ne (by show w.heap.size<=_;omega) e.symm)));
       (have hM:Hid (w8.heap[w.heap.size+1]? =some (.cells #[sN] 31)):=gd ((M.block (w.heap.size+1) (by have:=(Zx.1 hL.out).1;have:=S.size;omega) (λe=>J.out.row_ne (by omega) e.symm)).trans (S.heap hL.out)));
       (have gh:Hid (∀y∈O++ [F],PathOwn (w8.setCell ⟨w.heap.size+1+1,0,none⟩ (.slice OB (O.length+1) ob)) w.heap.size y):=gd (λy V=>by
        refine PathOwn.grown ?_ (Yo _ _ _) (hQ.out.far y V)
        rcases Zu.1 V with V|V
        ·exact ((h3.out y V).ext S).grown M (J.out.hf.away y V)
        ·rw[Zo.1 V];exact gg.out.grown M hH.out));
       clear R M hm hU))
   clear y0 y1 y2 y3 y4 y5 z0 z4 z5 b0;go_roundw
   case rel=>
    refine ⟨j+1,_,O++ [F],hi,by go_num,hQ.out,(ZZ _ _ _ _ (by intro e;injection e with e;omega)).trans hK.out,(ZY _ _ _ _ (by show w.heap.size+1≠w.heap.size+1+1;omega)).trans hM.out,gd ?_,gd ?_,gd ?_,gh,gm.out.setCell (by show w.heap.size<=w.heap.size+1+1;omega) _⟩
    ·rw[ZK,hV.out,hS.out,ZK];rw[ge.out];rfl
    ·rw[Zd,hW.out];rfl
    ·exact λy V=>(Zu.1 V).elim (hb.out y) λh=>by rw[Zo.1 h];exact X.out _ (by omega)
   case measure=>simp[intOf];omega
  ·have gq:j=l.length:=(by omega);subst gq;have f0:=hO.cell.1;have HO:=gd hO;have HX:=gd U;have h0:(Value.slice OA O.length oc).ownBlock≠some (w.heap.size+1):=hO.row_ne (Yc _);have gz:=gd h0;clear hO U h0 hY
   go_wp2_with (first|(refine Zc rfl 31 (.tmp 2) (.tmp 26) rfl (w.heap.size+1) _ rfl rfl _ _ hg Gd rfl Uw ?_))
   ((try simp only[Exit.inBlock,Exit.then]);refine Zn (XT rfl _ _ _ _ _ _ _ rfl (Zp _ _ _ _ _ _ hg) underlying31 rfl Gd) rfl ?_);refine ⟨OA,O.length,oc,O,rfl,⟨rfl,?_,HFs.setRow HO.out.hf (by omega) (by omega) hb.out _,λy V=>(h3.out y V).grown (Yv _ _ _) (hb.out y V)⟩,HX.out.setRow (Yc _) _⟩;rw[hV.out,ZM (Zb _)]
end
section
variable {L:List Fd} {f:Fd} {l:List Fc} {n:Nat}
theorem Zc5:∀l:List Fd,l.length<=bigL l
 | []=>Zh _
 |f::t=>by
  have h:=Zc5 t
  have e:bigL (f::t)=bigF f+bigL t:=by unfold bigL;rw[ZP,XH]
  have A:1<=bigF f:=by unfold bigF bigH capN;omega
  rw[e,Ze]
  omega
theorem EO (h:capN n<=5000):n<=5000:=by unfold capN at h;omega
theorem Zie (h:bigF f<=5000):smF 10000 f:=by
 have A:capN (f.id.size+f.title.size+f.link.size)<=5000:=by unfold bigF bigH at h;omega
 have F:=EO A;refine ⟨λp D=> ?_,by omega,by omega,by omega⟩;have H:capN p.size<=bigP f.path:=Eq (ZO.2 ⟨p,D,rfl⟩);have I:=EO (n:=p.size) (by unfold bigF at h;omega);omega
theorem Zid (D:∀x∈l,fwide x.f) (h:bigL (l.map Fc.f)<=5000):smA (l.map Fc.f):=by
 refine ⟨λf A=> ?_,by have:=Zc5 (l.map Fc.f);omega⟩;obtain ⟨x,F,rfl⟩:=ZO.1 A;exact ⟨ZgD D h x F,Zie (Zv (Zc4 A) h)⟩
theorem ZjC (h:smA L):smA (L.map outl):=by
 refine ⟨λf H=> ?_,by rw[Zk];exact h.2⟩;obtain ⟨g,I,rfl⟩:=ZO.1 H;obtain ⟨A,D⟩:=h.1 g I;exact ⟨⟨⟨⟨by show (-9223372036854775808:Int)<= -62135596800;decide,by show (-62135596800:Int)<=9223372036854775807;decide⟩,A.1.2⟩,Zh _,by intro e F;cases F⟩,D⟩
end
section
variable {c d q:Nat}
theorem ZjU {a b:Nat} (h:a<=140737488351232) (A:b<=140737488351232):wrap64 ((a:Int)+(b:Int))=(a:Int)+(b:Int):=Uo _ ⟨by omega,by omega⟩
theorem ZjV {a b:Nat} (h:a<=140737488351232) (A:b<=140737488351232) (D:c<=140737488351232):wrap64 ((a:Int)+(b:Int)+(c:Int))=(a:Int)+(b:Int)+(c:Int):=Uo _ ⟨by omega,by omega⟩
theorem ZkQ {a b:Nat} (h:a<=140737488351232) (A:b<=140737488351232) (D:c<=140737488351232) (F:d<=140737488351232):wrap64 ((a:Int)+(b:Int)+(c:Int)+(d:Int))=(a:Int)+(b:Int)+(c:Int)+(d:Int):=Uo _ ⟨by omega,by omega⟩
theorem ZkT {a:Nat} (h:a<=1000000000000000):wrap64 (a:Int)=(a:Int):=Uo _ ⟨by omega,by omega⟩
theorem ZkR {M:Int} (h:0<=M) (A:M<=9000):wrap64 (1+M)=1+M:=Uo _ ⟨by omega,by omega⟩
theorem ZkS {M:Int} (h:q<=2000000000000000000) (A:0<=M) (D:M<=9000):wrap64 ((q:Int)+(1+M))=(q:Int)+(1+M):=Uo _ ⟨by omega,by omega⟩
theorem ZcR (v:Value) (l:List Fc) (w:Wq) (hr:RFcs w v l) (gb:∀x∈l,RdC w x) (hn:l.length<=reachBytes) (hk:∀x∈l,fwide x.f):
 Calls prog 15 #[.agg #[v]] w λe w'=>e= .returned (nI (if 5000<bigL (l.map Fc.f) then 1 else 0))/\Ext w w':=by
 obtain ⟨A,c,rfl,gz,gw⟩:=hr.form;have HK:=gd hk;have gq:=gd gb;obtain ⟨R,hR⟩:∃R:Int,(if 5000<bigL (l.map Fc.f) then 1 else 0)=R:=⟨_,rfl⟩;rw[hR];have HR:=gd hR;unfold reachBytes at hn;clear gz gw hk gb hR;go_enter func15,ntmps15;go_wp2;go_loopw [3,13] (λu i wr=>∃(k n:Nat),k<=l.length/\i=nI k/\u=nI n/\n<=5000/\Hid (n=bigL ((l.take k).map Fc.f))/\Ext w wr) (λ_ i _=>l.length - (intOf i).toNat)
 case atStart=>exact ⟨0,0,Zh _,rfl,rfl,by decide,gd rfl,(Ext.refl _).alloc _⟩
 case round=>
  obtain ⟨k,n,hk,rfl,rfl,h8,hp,hx⟩:=hrel;by_cases hb:k<l.length
  ·obtain ⟨ad,c',hv,hg⟩:=(hr.ext hx).at hb;injection hv with hv1 hv2 hv3;subst hv1;clear hv2 hv3;have hi:l[k]∈l:=Zz hb;have gc:=(gq.out _ hi).ext hx;have hY:=HK.out _ hi;have Q:=ZgE hb;rw[<-hp.out] at Q;have hZ:=Zj4 l (k+1);obtain ⟨x,gk⟩:∃x,l[k]=x:=⟨_,rfl⟩;rw[gk] at hg gc hY Q;have hS:=gd Q;have hN:=gd hZ;clear gk Q hZ hi hp;obtain ⟨k1,k2,k3,k4,k5,k6,k7,k8⟩:=hY;unfold reachBytes at k2 k4 k5 k6 k7;have go:=gd k3;have gp:=gd k8;obtain ⟨xp,gF,⟨F,S,H,I,Y,D⟩⟩:=x;obtain ⟨hJ,hK⟩:=gc;dsimp only at*;obtain ⟨xA,xc,rfl, -, -⟩:=hJ.form;obtain ⟨xB,xd,rfl, -, -⟩:=hK.form;have gs:=gd hJ;have gt:=gd hK;have HX:=gd hx;obtain ⟨a0,a1,a2,a3,a4,a5⟩:=hg;dsimp only at a0 a1 a2 a3 a4 a5;have hA:(0:Int)<=(k:Int):=(by omega);have hV:(k:Int)<(l.length:Int):=(by omega);have ht:wrap64 ((S.size:Int)+(H.size:Int))=(S.size:Int)+(H.size:Int):=ZjU k4 k5;have hu:wrap64 ((S.size:Int)+(H.size:Int)+(I.size:Int))=(S.size:Int)+(H.size:Int)+(I.size:Int):=ZjV k4 k5 k6;clear k1 k3 k8 hJ hK;obtain ⟨S0,hH⟩:∃S0,S.size+H.size+I.size=S0:=⟨_,rfl⟩;have hP:=gd hH;have hz:(S.size:Int)+(H.size:Int)+(I.size:Int)=(S0:Int):=(by omega);obtain ⟨wB,gB⟩:∃wB:Wq,wB=wr:=⟨_,rfl⟩;subst gB;have gi:Ext w (wB.alloc (.cells #[.slice xA F.length xc,.string S,.string H,.string I,nI Y,.slice xB D.length xd] 55)):=hx.alloc _;have hT:=gd gi;have gl:Hid (∀w',Ext (wB.alloc (.cells #[.slice xA F.length xc,.string S,.string H,.string I,nI Y,.slice xB D.length xd] 55)) w'->w'.cell? ⟨wB.heap.size,5,none⟩=some (.slice xB D.length xd)):=gd λw' h=>h.boxed 5 _ rfl;clear gi;go_wp2;clear ht hu a0 a1 a2 a3 a4 a5;go_loopw [3,35] (λu i wr=>∃(j m:Nat),j<=F.length/\i=nI j/\u=nI m/\m<=14001+9001*j/\Hid (m=n+capN S0+bigP (F.take j))/\Ext (wB.alloc (.cells #[.slice xA F.length xc,.string S,.string H,.string I,nI Y,.slice xB D.length xd] 55)) wr) (λ_ i _=>F.length - (intOf i).toNat)
   case atStart=>exact ⟨0,n+capN S0,Zh _,rfl,Zy (Value.int .i64) (by unfold capN;omega),by have:=Zgh S0;omega,gd rfl,Ext.refl _⟩
   case round=>
    obtain ⟨j,m,hj,rfl,rfl,h0,ho,hw⟩:=hrel;by_cases ha:j<F.length
    ·obtain ⟨ae,c2,e2,hc⟩:=((gs.out.ext ((Ext.refl _).alloc _)).ext hw).at ha;injection e2 with e2 e2' e2'';subst e2;clear e2' e2'';have hm:=go.out _ (Zz ha);unfold reachBytes at hm;have Q:=ZgF ha;obtain ⟨s,hs⟩:∃s,F[j]=s:=⟨_,rfl⟩;rw[hs] at hc hm Q;have gr:=gd Q;have hA:(0:Int)<=(j:Int):=(by omega);have hV:(j:Int)<(F.length:Int):=(by omega);clear hs Q;go_wp2;go_roundw
     case rel=>exact ⟨j+1,m+capN s.size,ha,by go_num,Zy (Value.int .i64) (by unfold capN;omega),by have:=Zgh s.size;omega,gd (by have:=ho.out;have:=gr.out;omega),hw⟩
     case measure=>simp[intOf];omega
    ·have gx:j=F.length:=(by omega);subst gx;rw[ZM (Zb _)] at ho;have b5:=gl.out _ hw;obtain ⟨wC,gC⟩:∃wC:Wq,wC=wr:=⟨_,rfl⟩;subst gC;have hD:=gd hw;go_wp2;go_loopw [3,49] (λu i wr=>∃(j q:Nat),j<=D.length/\i=nI j/\u=nI q/\q<=14001+9001*F.length/\Hid (q=m+bigEs (D.take j))/\Ext wC wr) (λ_ i _=>D.length - (intOf i).toNat)
     case atStart=>exact ⟨0,m,Zh _,rfl,rfl,by omega,gd rfl,Ext.refl _⟩
     case round=>
      obtain ⟨j,q,hW,rfl,rfl,ga,hl,hy⟩:=hrel;by_cases U:j<D.length
      ·obtain ⟨ae,c2,e2,hg⟩:=(((gt.out.ext ((Ext.refl _).alloc _)).ext hD.out).ext hy).at U;injection e2 with e2 e2' e2'';subst e2;clear e2' e2'';have hm:=gp.out _ (Zz U);have Q:=Ze6 U;have hB:=Ziz D (j+1);obtain ⟨e,he⟩:∃e,D[j]=e:=⟨_,rfl⟩;rw[he] at hg hm Q;have hQ:=gd Q;have hO:=gd hB;clear he Q hB;obtain ⟨hF,V,Z,J,hU⟩:=e;obtain ⟨_,g1,g2,g3,g4⟩:=hm;unfold reachBytes at g1 g2 g3 g4;obtain ⟨p0,p1,p2,p3,p4⟩:=hg;dsimp only at g1 g2 g3 g4 p0 p1 p2 p3 p4;have hA:(0:Int)<=(j:Int):=(by omega);have hV:(j:Int)<(D.length:Int):=(by omega);obtain ⟨S1,hI⟩:∃S1,hF.size+V.size+Z.size+J.size=S1:=⟨_,rfl⟩;have hE:bigE ⟨hF,V,Z,J,hU⟩=capN S1:=(by rw[<-hI];rfl);have gD:(hF.size:Int)+(V.size:Int)+(Z.size:Int)+(J.size:Int)=(S1:Int):=(by omega);have hC:q<=2000000000000000000:=(by omega);have hL:=gd U;have gE:j<=1000000000000000:=(by omega);by_cases K:5000<q+capN S1
       ·have hh:(5000:Int)<(q:Int)+(1+min (S1:Int) 9000):=(by unfold capN at K;omega);have hG:R=1:=(by rw[<-HR.out,Zl];have h1:=hS.out;have h2:=hN.out;have h3:=hl.out;have h4:=ho.out;have h5:=hQ.out;have h6:=hO.out;rw[hE] at h5;have h7:bigF ⟨F,S,H,I,Y,D⟩=capN S0+bigP F+bigEs D:=(by unfold bigF bigH;rw[<-hP.out]);omega);subst hG;obtain ⟨M,hM⟩:∃M:Int,min (S1:Int) 9000=M:=⟨_,rfl⟩;have hd:0<=M:=(by omega);have hf:M<=9000:=(by omega);rw[hM] at hh;have HM:=gd hM;have X:S1<=1000000000000000:=(by omega);have gh:=Zy (Value.int .i64) (ZkT X);have gf:=Zy (Value.int .i64) (ZkR hd hf);have gg:=Zy (Value.int .i64) (ZkS hC hd hf);clear K hE hI X;have ht:=Zy (Value.int .i64) (ZjU g1 g2);have hu:=Zy (Value.int .i64) (ZjV g1 g2 g3);have ge:=Zy (Value.int .i64) (ZkQ g1 g2 g3 g4);clear g1 g2 g3 g4 k2 k4 k5 k6 k7 hn hH hz h0 ga h8 hW U ha hj hk hb;go_wp2;go_ret;exact ⟨rfl,(hT.out.trans hD.out).trans (hy.alloc _)⟩
       ·have hh:¬(5000:Int)<(q:Int)+(1+min (S1:Int) 9000):=(by unfold capN at K;omega);have gm:=gd K;have gn:=gd hE;obtain ⟨M,hM⟩:∃M:Int,min (S1:Int) 9000=M:=⟨_,rfl⟩;have hd:0<=M:=(by omega);have hf:M<=9000:=(by omega);rw[hM] at hh;have HM:=gd hM;have X:S1<=1000000000000000:=(by omega);have gh:=Zy (Value.int .i64) (ZkT X);have gf:=Zy (Value.int .i64) (ZkR hd hf);have gg:=Zy (Value.int .i64) (ZkS hC hd hf);clear K hE hI X;have ht:=Zy (Value.int .i64) (ZjU g1 g2);have hu:=Zy (Value.int .i64) (ZjV g1 g2 g3);have ge:=Zy (Value.int .i64) (ZkQ g1 g2 g3 g4);clear g1 g2 g3 g4 k2 k4 k5 k6 k7 hn hH hz h0 ga h8 hW U ha hj hk hb;go_wp2;clear ht hu ge gh gf gg;go_roundw
        case rel=>refine ⟨j+1,q+capN S1,hL.out,by go_num,Zy (Value.int .i64) (by have:=HM.out;unfold capN;omega),by have:=gm.out;omega,gd ?_,hy.alloc _⟩;have h3:=hl.out;have h5:=hQ.out;rw[gn.out] at h5;omega
        case measure=>simp[intOf];have:=hL.out;omega
      ·have hX:j=D.length:=(by omega);subst hX;rw[ZM (Zb _)] at hl;have h7:bigF ⟨F,S,H,I,Y,D⟩=capN S0+bigP F+bigEs D:=(by unfold bigF bigH;rw[<-hP.out]);have hq:q=bigL ((l.take (k+1)).map Fc.f):=(by have h1:=hS.out;have h3:=hl.out;have h4:=ho.out;rw[h7] at h1;omega);have HQ:=gd hq;have gj:=(hT.out.trans hD.out).trans hy;clear hq h7 hl;by_cases K:5000<q
       ·have hh:(5000:Int)<(q:Int):=(by omega);have hG:R=1:=(by rw[<-HR.out,Zl];have h2:=hN.out;have:=HQ.out;omega);subst hG;clear K;go_wp2;go_ret;exact ⟨rfl,gj⟩
       ·have hh:¬(5000:Int)<(q:Int):=(by omega);have gA:q<=5000:=(by omega);clear K;go_wp2;go_roundw
        case rel=>exact ⟨k+1,q,hb,by go_num,rfl,gA,HQ,gj⟩
        case measure=>simp[intOf];omega
  ·have gy:k=l.length:=(by omega);subst gy;have h9:=hp.out;rw[ZM (Zb _)] at h9;have gu:R=0:=(by rw[<-HR.out,Zg];omega);subst gu;clear h9 hp;go_wp2;go_ret;exact ⟨rfl,hx⟩
end
section
variable {L:List Fd} {c g i n:Nat} {l:List Fc} {p:Addr} {w2 w3 wr:World}
structure Isx (w3 wr:Wq) (b g n c:Nat) (l:List Fc) (T:Nat):Prop where
 box:wr.cell? ⟨b,0,none⟩=some (.slice (some ⟨g,0,none⟩) n c)
 pth:∀i (h:i<l.length),wr.cell? ⟨g,i*6,none⟩=some l[i].p
 ids:∀i,i<l.length->∃s:ByteArray,wr.cell? ⟨g,i*6+1,none⟩=some (.string s)/\s.size<=T/\wr.frozen? ⟨g,i*6+1,none⟩=false
 cel:∀y∈l,∀j,j<y.f.path.length->∃(ad:Addr) (n c:Nat) (s:ByteArray),y.p= .slice (some ad) n c/\(ad.add j).block≠g/\(ad.add j).block≠b/\w3.heap.size<=(ad.add j).block/\wr.cell? (ad.add j)=some (.string s)/\s.size<=T/\wr.frozen? (ad.add j)=false
 gb:g≠b
 gw:w3.heap.size<=g
 ext:Ext w3 wr
theorem Isx.id {b T:Nat} (h:Isx w3 wr b g n c l T) (X:i<l.length) {s:ByteArray} (R:s.size<=T+1):Isx w3 (wr.setCell ⟨g,i*6+1,none⟩ (.string s)) b g n c l (T+1):=by
 refine ⟨(ZZ _ _ _ _ (by intro e;injection e with e;exact h.gb e)).trans h.box,λk F=>(ZZ _ _ _ _ (by intro e;injection e with _ e;omega)).trans (h.pth k F),λk F=> ?_,λy S j Q=> ?_,h.gb,h.gw,h.ext.setCell h.gw _⟩
 ·obtain ⟨H,A,I,D⟩:=h.ids k F;by_cases e:i=k
  ·subst e;exact ⟨s,Jo _ _ _ A,R,by rw[Yz];exact D⟩
  ·exact ⟨H,(ZZ _ _ _ _ (by intro e;injection e with _ e;omega)).trans A,by omega,by rw[Yz];exact D⟩
 ·obtain ⟨ad,U,J,H,e,A,I,D,K,V,M⟩:=h.cel y S j Q;exact ⟨ad,U,J,H,e,A,I,D,(ZZ _ _ _ _ (λe=>A (Zy Addr.block e).symm)).trans K,by omega,by rw[Yz];exact M⟩
theorem Isx.path {b T:Nat} (h:Isx w3 wr b g n c l T) (M:p.block≠g) (U:p.block≠b) (V:w3.heap.size<=p.block) {s:ByteArray} (Y:s.size<=T+1):Isx w3 (wr.setCell p (.string s)) b g n c l (T+1):=by
 refine ⟨(ZZ _ _ _ _ (λe=>U (Zy Addr.block e))).trans h.box,λk F=>(ZZ _ _ _ _ (λe=>M (Zy Addr.block e))).trans (h.pth k F),λk F=> ?_,λy Z j X=> ?_,h.gb,h.gw,h.ext.setCell V _⟩
 ·obtain ⟨I,A,H,D⟩:=h.ids k F;exact ⟨I,(ZZ _ _ _ _ (λe=>M (Zy Addr.block e))).trans A,by omega,by rw[Yz];exact D⟩
 ·obtain ⟨ad,S,J,I,e,A,H,D,Q,k5,R⟩:=h.cel y Z j X;by_cases K:p=ad.add j
  ·subst K;exact ⟨ad,S,J,s,e,A,H,D,Jo _ _ _ Q,Y,by rw[Yz];exact R⟩
  ·exact ⟨ad,S,J,I,e,A,H,D,(ZZ _ _ _ _ K).trans Q,by omega,by rw[Yz];exact R⟩
theorem Isx.grow {b T:Nat} (h:Isx w3 wr b g n c l T) (A:Ext wr w2):Isx w3 w2 b g n c l T:=by
 refine ⟨A.cell h.box,λk I=>A.cell (h.pth k I),λk I=> ?_,λy U j S=> ?_,h.gb,h.gw,h.ext.trans A⟩
 ·obtain ⟨J,D,F,H⟩:=h.ids k I;exact ⟨J,A.cell D,F,(Xt A (ZQ wr _ D)).trans H⟩
 ·obtain ⟨ad,V,M,J,e,D,F,H,K,Q,R⟩:=h.cel y U j S;exact ⟨ad,V,M,J,e,D,F,H,A.cell K,Q,(Xt A (ZQ wr _ K)).trans R⟩
theorem Ur (g j:Nat):(⟨g,0,none⟩:Addr).add j=⟨g,j,none⟩:=by unfold Addr.add;split<;>simp_all
theorem Isx.start {I:Wq} (hx:Ext w3 I) (V:HFs I w3.heap.size (.slice (some ⟨g,0,none⟩) n c) l) (hn:n=l.length) (Z:∀y∈l,PathOwn I w3.heap.size y) (X:∀y∈l,smF 10000 y.f) (hl:0<l.length):
 Isx w3 (I.alloc (.cells #[.slice (some ⟨g,0,none⟩) n c] 31)) I.heap.size g n c l 10000:=by
 subst hn;have A:=V.row;have M:=A.lt g rfl;have K:∀(i:Nat) (h:i<l.length) (q:Nat) (u:Value),(cellsC l[i])[q]? =some u->(flatC l)[i*6+q]? =some u:=λi h q u H=>by
  obtain ⟨ad,c',e,R⟩:=RSl.elem (k:=6) (css:=l.map cellsC) (RSl.of_own A) (by decide) (by intro c hc;obtain ⟨x,_,rfl⟩:=ZO.1 hc;rfl) i (cellsC l[i]) (by rw[Ys,Zj h];rfl);have F:=R q u H;injection e with e _ _;injection e with e;subst e;rw[U5,Ur] at F;have Y:(⟨g,i*6,none⟩:Addr).add q=⟨g,i*6+q,none⟩:=by unfold Addr.add;split<;>simp_all
  rw[Y,A.cellAt (i*6+q) (by
   have:q<6:=(by have:=(ZN.1 H).1;exact this);omega)] at F
  exact F
 have D:=(Ext.refl I).alloc (.cells #[.slice (some ⟨g,0,none⟩) l.length c] 31);refine ⟨(Ext.refl _).boxed 0 _ rfl,λi h=>D.cell ?_,λi h=> ?_,λy U j J=> ?_,by omega,M.1,hx.alloc _⟩
 ·rw[A.cellAt (i*6) (by omega)];exact K i h 0 _ rfl
 ·refine ⟨l[i].f.id,D.cell ?_,(X _ (Zz h)).2.1,(Xt D M.2).trans (A.frozenAt _)⟩;rw[A.cellAt (i*6+1) (by omega)];exact K i h 1 _ rfl
 ·rcases Z y U with he|Q
  ·rw[he] at J;cases J
  ·obtain ⟨q,cap,H,hb,_⟩:=U6 Q (by omega);have S:=Q.lt q (by rw[H];rfl);rw[H] at Q;refine ⟨⟨q,0,none⟩,_,cap,y.f.path[j],H,?_,?_,?_,?_,(X y U).1 _ (Zz J),?_⟩
   ·rw[Ur];rcases (V.away y U).1 with F|F
    ·rw[F] at J;cases J
    ·rw[H] at F;exact λe=>F (Zy some e)
   ·rw[Ur];show q≠I.heap.size;omega
   ·rw[Ur];exact hb
   ·rw[Ur];refine D.cell ?_;rw[Q.cellAt j (by omega),Ys,Zj J];rfl
   ·rw[Ur];exact (Xt D S.2).trans (Q.frozenAt _)
theorem Zak {A:Option Addr} (w:Wq) (h:ArcG w A n c L) (M:smA L):
 Calls prog 23 #[.agg #[.slice A n c]] w λe w'=>∃F D H lc,e= .returned (.agg #[.slice F D H])/\ArcG w' F D H (L.map outl)/\(D=lc.length/\lc.map Fc.f=L.map outl/\HFs w' w.heap.size (.slice F D H) lc/\∀y∈lc,PathOwn w' w.heap.size y)/\Ext w w':=by
 obtain ⟨lc,rfl,rfl,S,U⟩:=h;refine Za (Zea _ lc w S U (λx J=>by have:=(M.1 x.f (Z9 J)).1.1.2;omega) (by have:=M.2;rw[Zk] at this;omega)) ?_;rintro e w' ⟨F,D,H,I,rfl,⟨Q,R,K,V⟩,J⟩;exact ⟨F,D,H,I,rfl,⟨I,Q,R,RSl.of_own K.row,K.rd⟩,⟨Q,R,K,V⟩,J⟩
theorem ZfW {A:Option Addr} (w:Wq) (h:ArcG w A n c L) (K:smA L):
 Calls prog 18 #[.agg #[.slice A n c]] w λe w'=>∃D H F,e= .returned (.agg #[.slice D H F])/\ArcG w' D H F (L.map outl)/\Ext w w':=by
 obtain ⟨lc,rfl,rfl,M,Q⟩:=h;refine Za (Zat _ lc w M Q (λx I=>by have:=(K.1 x.f (Z9 I)).1.1.2;omega) (by have:=K.2;rw[Zk] at this;omega)) ?_;rintro e w' ⟨D,H,F,J,rfl,⟨R,S,U,V⟩,I⟩;exact ⟨D,H,F,rfl,⟨J,R,S,U,V⟩,I⟩
theorem ZbQ (L:List Fd):(L.map outl).map outl=L.map outl:=by rw[J4];rfl
theorem Zhp (vp:Value) (lp:List Fc) (w:Wq) (hE:Env w) (gB:NmTabs w) (h9:RFcs w vp lp) (gr:∀y∈lp,RdC w y) (gH:lp.length<=reachBytes) (gs:∀y∈lp,fwide y.f):
 Calls prog 8 #[.agg #[vp]] w λe w'=>e= .returned (.bool true)/\Ext w w':=by
 obtain ⟨pA,pc,gN, -, -⟩:=h9.form;subst gN;obtain ⟨W1,gD⟩:∃W1,w.alloc (.cells #[.slice pA lp.length pc] 31)=W1:=⟨_,rfl⟩;have hs:Ext w W1:=by rw[<-gD];exact (Ext.refl _).alloc _
 have cp:W1.cell? ⟨w.heap.size,0,none⟩=some (.slice pA lp.length pc):=by rw[<-gD];exact (Ext.refl _).boxed 0 _ rfl
 have HC:Hid (∀W':Wq,Ext W1 W'->W'.cell? ⟨w.heap.size,0,none⟩=some (.slice pA lp.length pc)):=gd λW' h=>h.cell cp;have go:=gd hs;have gg:=gd (λ(W':Wq) (h:Ext W1 W')=>Zc0 W' (hE.ext (hs.trans h)) (gB.ext (hs.trans h)));have hv:=gd (λ(W':Wq) (h:Ext W1 W')=>ZcR _ lp W' (h9.ext (hs.trans h)) (λy hy=>(gr y hy).ext (hs.trans h)) gH gs);have gF:ArcG w pA lp.length pc (lp.map Fc.f):=⟨lp,rfl,rfl,h9,gr⟩;have hZ:=gd (λ(W':Wq) (h:Ext W1 W')=>gF.ext (hs.trans h));have hd:¬5000<bigL (lp.map Fc.f)->smA (lp.map Fc.f):=λh=>Zid gs (by omega);obtain ⟨P,hP⟩:∃P,lp.map Fc.f=P:=⟨_,rfl⟩;rw[hP] at hd;simp only[hP] at hv hZ;clear hP gF h9 gr gH gs hE gB hs;by_cases h1:5000<bigL P
 ·simp only[Zl h1] at hv;clear h1 hd;go_enter func8,ntmps8
  go_wp2_with (first|(go_at_call 15;(with_reducible refine Za (hv.out _ (Ext.refl _)) ?_);rintro e w1 ⟨rfl,hm⟩)|(go_at_call 11;(with_reducible refine Za (gg.out _ hm) ?_);rintro e w2 ⟨rfl,hx⟩))
  go_ret;exact ⟨rfl,go.out.trans (hm.trans hx)⟩
 have hd:=hd h1;have hw:=ZjC hd;simp only[Zg h1] at hv;clear h1;have gk:=gd (λ(W':Wq) (h:Ext W1 W')=>Zak W' (hZ.out W' h) hd);have gz:=gd (λ(W':Wq) (h:Ext W1 W')=>ZfW W' (hZ.out W' h) hd);have h4:=gd (λ(W':Wq) (A:Option Addr) (n c:Nat) (h:ArcG W' A n c (P.map outl))=>Zak W' h hw);have hz:=gd (λ(W':Wq) (A B:Option Addr) (n c m d:Nat) (g:ArcG W' A n c (P.map outl)) (k:ArcG W' B m d (P.map outl))=>ZlM W' g k hw);simp only[decide_true] at hz;have hu:=gd (λ(W':Wq) (h:Ext W1 W')=>Zgi W' (hZ.out W' h) hd);have gi:=gd (λ(W':Wq) (A:Option Addr) (n c:Nat) (h:ArcG W' A n c (P.map outl)) (hO:okA P=true)=>by
  have:=Zgi W' h hw
  rwa [Zl (Zje hO)] at this)
 have h5:Hid (∀l2:List Fc,l2.map Fc.f=P.map outl->l2.length<=10000/\∀y∈l2,y.f.path.length<=16777216/\smF 10000 y.f):=gd λl2 e2=>by
  refine ⟨?_,λy hy=> ?_⟩
  ·have h1:=Zy List.length e2;rw[Zk] at h1;have:=hw.2;omega
  ·have h3:=hw.1 y.f (by rw[<-e2];exact Z9 hy);exact ⟨by have:=h3.1.1.2;omega,h3.2⟩
 clear hd hw;go_enter func8,ntmps8
 go_wp2_with (first|(go_at_call 15;(with_reducible refine Za (hv.out _ (Ext.refl _)) ?_);rintro e w1 ⟨rfl,hm⟩;have d0:=HC.out _ hm)|(go_at_call 23;(with_reducible refine Za (gk.out _ hm) ?_);rintro e w3 ⟨bA,bn,U,l2,rfl,gE,⟨rfl,h8,h6,gC⟩,hx⟩)|(refine Zc rfl 31 (.tmp 3) (.tmp 11) rfl w3.heap.size _ rfl rfl _ _ (Zf _ _) Xa rfl Zcy ?_;rw[Z4]))
 obtain ⟨W4,h7⟩:∃W4,w3.alloc (.cells #[.slice bA l2.length U] 31)=W4:=⟨_,rfl⟩;have ga:Ext w3 W4:=by rw[<-h7];exact (Ext.refl _).alloc _
 have hR:Ext W1 W4:=(hm.trans hx).trans ga;have cb:W4.cell? ⟨w3.heap.size,0,none⟩=some (.slice bA l2.length U):=by rw[<-h7];exact (Ext.refl _).boxed 0 _ rfl
 have ge:=gd hR;have ha:Hid (∀W':Wq,Ext W4 W'->W'.cell? ⟨w.heap.size,0,none⟩=some (.slice pA lp.length pc)/\W'.cell? ⟨w3.heap.size,0,none⟩=some (.slice bA l2.length U)):=gd λW' h=>⟨HC.out _ (hR.trans h),h.cell cb⟩;have hA:Hid (∀W':Wq,Ext W4 W'->ArcG W' bA l2.length U (P.map outl)):=gd λW' h=>gE.ext (ga.trans h);have gA:Hid (∀g,bA=some ⟨g,0,none⟩->0<l2.length->Isx w1 W4 w3.heap.size g l2.length U l2 10000):=gd λg hg hl=>by subst hg;rw[<-h7];exact Isx.start hx h6 rfl gC (λy hy=>((h5.out l2 h8).2 y hy).2) hl
 have gy:Hid (∀y∈l2,∃(A:Option Addr) (c:Nat),y.p= .slice A y.f.path.length c/\y.f.path.length<=16777216):=gd λy hy=>by obtain ⟨A,c,e1, -, -⟩:=(h6.rd y hy).1.form;exact ⟨A,c,e1,((h5.out l2 h8).2 y hy).1⟩
 have h0:Hid (l2.length<=10000):=gd (h5.out l2 h8).1;have gb:Hid (0<l2.length->∃g,bA=some ⟨g,0,none⟩):=gd λhl=>by obtain ⟨g,cap,e, -, -⟩:=U6 h6.row hl;injection e with e _ _;exact ⟨g,e⟩
 have gc:=gd hm;have gf:=gd (hx.trans ga);rw[h7];clear h6 gC h8 gE cb hx ga hm hR d0 h5 hv;by_cases hO:okA P=true
 ·simp only[Zl hO] at hu;refine rN ?_;change wpAny _ _ _ _ _ _ _ (World.drew _);have M:=(Ext.refl W4).drew;refine Yi (λw'=>Ext W4 w') ?_;refine tS 0 (.agg #[.slice bA l2.length U]) rfl (λw' Q=>by have q0:=(ha.out _ Q).2;go_simp) M ?_;refine tS 2 (.agg #[.slice bA l2.length U]) rfl (λw' Q=>by have q0:=(ha.out _ Q).2;go_simp) M ?_;go_simp;refine sS 1 λK hK=> ?_;go_simp;go_at_call 23
  with_reducible refine Za (h4.out _ _ _ _ (hA.out _ M)) ?_
  rintro e w5 ⟨A5,n5,c5,l5,rfl,hr, -,hU⟩;have S:=M.trans hU;rw[ZbQ] at hr;refine hK _ _ S ?_;clear hK K;refine sS 3 λK hK=> ?_;go_simp;go_at_call 14
  with_reducible refine Za (hz.out _ _ _ _ _ _ _ hr (hA.out _ S)) ?_
  rintro e w6 ⟨rfl,hV⟩;have H:=S.trans hV;refine hK _ _ H ?_;clear hK K;refine tG 4 (.bool false) H ?_;refine tG 5 (.bool false) H ?_;refine tS 6 (.agg #[.slice pA lp.length pc]) rfl (λw' Q=>by have q0:=(ha.out _ Q).1;go_simp) H ?_;go_simp;refine sS 7 λK hK=> ?_;go_simp;go_at_call 16
  with_reducible refine Za (hu.out _ (ge.out.trans H)) ?_
  rintro e w7 ⟨rfl,hW⟩;have D:=H.trans hW;refine hK _ _ D ?_;clear hK K;refine tG 8 (.bool true) D ?_;refine tG 9 (.bool true) D ?_;go_simp;refine tS 10 (.agg #[.slice bA l2.length U]) rfl (λw' Q=>by have q0:=(ha.out _ Q).2;go_simp) D ?_;go_simp;refine sS 11 λK hK=> ?_;go_simp;go_at_call 16
  with_reducible refine Za (gi.out _ _ _ _ (hA.out _ D) hO) ?_
  rintro e w8 ⟨rfl,gO⟩;have I:=D.trans gO;refine hK _ _ I ?_;clear hK K;refine tG 12 (.bool false) I ?_;refine tG 13 (.bool false) I ?_;refine sS 14 λK hK=> ?_;go_simp;refine hK _ _ I ?_;clear hK K;refine sE ?_;have hh:=gd I;obtain ⟨k0,k1⟩:=ha.out _ I;have hQ:Hid (Ext w1 w8/\(0<l2.length->∃g T,bA=some ⟨g,0,none⟩/\T<=10000+0*16777218/\Isx w1 w8 w3.heap.size g l2.length U l2 T)):=gd ⟨(gf.out.trans hh.out),λhl=>by
   obtain ⟨g,hg⟩:=gb.out hl;exact ⟨g,10000,hg,by omega,(gA.out g hg hl).grow hh.out⟩⟩
  clear I D H S M hU hV hW hr hu gi h4;go_wp2;clear k0 k1;go_loopw [30] (λi wr=>∃k:Nat,k<=l2.length/\i=nI k/\Hid (Ext w1 wr/\(0<l2.length->∃g T,bA=some ⟨g,0,none⟩/\T<=10000+k*16777218/\Isx w1 wr w3.heap.size g l2.length U l2 T))) (λi _=>l2.length - (intOf i).toNat)
  case atStart=>exact ⟨0,Zh _,rfl,hQ⟩
  case round=>
   obtain ⟨k,hk,rfl,Q⟩:=hrel;by_cases J:k<l2.length
   ·obtain ⟨g,T,hq,hT,V⟩:=Q.out.2 (by omega);obtain ⟨ad,X⟩:∃ad:Addr,ad=⟨g,0,none⟩:=⟨_,rfl⟩;have F:∀j,ad.add j=⟨g,j,none⟩:=(by rw[X];exact Ur g);have hH:bA=some ad:=(by rw[hq,X]);subst hH;have gh:=gd hq;have gI:=gd F;have hB:=gd X;obtain ⟨hf,i1,i2,i3⟩:=V.ids k J;have R:=Zz J;have e0:=V.pth k J;obtain ⟨y,hy⟩:∃y,l2[k]=y:=⟨_,rfl⟩;rw[hy] at R e0;obtain ⟨yA,yc,Z,gt⟩:=gy.out y R;rw[Z] at e0;obtain ⟨P0,hp⟩:∃P0,y.f.path.length=P0:=⟨_,rfl⟩;rw[hp] at e0 gt Z;have gp:=gd Z;have gm:Hid (∀(wr:Wq) (T:Nat),Isx w1 wr w3.heap.size g l2.length U l2 T->wr.cell? (ad.add (k*6))=some (.slice yA P0 yc)):=gd λwr T h=>(by rw[F,h.pth k J,hy,Z]);have gl:=gd hp;have hD:=gd R;have hN:=h0.out;have hF:T<=170000000000:=(by have:k*16777218<=10000*16777218:=Nat.mul_le_mul_right _ (by omega);omega);have HT:=gd hT;have gn:=gd hF;have hn:=gd J;have k1:wr.cell? ⟨w3.heap.size,0,none⟩=some (.slice (some ad) l2.length U):=(by rw[X];exact V.box);have c1:wr.cell? ⟨(ad.add (k*6)).block,(ad.add (k*6)).off+1,none⟩=some (.string hf):=(by rw[F];exact i1);have z1:wr.frozen? ⟨(ad.add (k*6)).block,(ad.add (k*6)).off+1,none⟩=false:=(by rw[F];exact i3);obtain ⟨W5,hG⟩:∃W5,wr.setCell ⟨(ad.add (k*6)).block,(ad.add (k*6)).off+1,none⟩ (.string (hf++⟨#[120]⟩))=W5:=⟨_,rfl⟩;have hb:Isx w1 W5 w3.heap.size g l2.length U l2 (T+1):=(by rw[<-hG,F];exact V.id J (by rw[Xl];show hf.size+1<=T+1;omega));have gj:=gd hb;have k2:W5.cell? ⟨w3.heap.size,0,none⟩=some (.slice (some ad) l2.length U):=(by rw[X];exact hb.box);have e5:W5.cell? (ad.add (k*6))=some (.slice yA P0 yc):=(by rw[F,hb.pth k J,hy,Z]);have gG:(0:Int)<=(k:Int):=(by omega);have gJ:(k:Int)<(l2.length:Int):=(by omega);have hi:¬9223372036854775807<hf.size+1:=(by omega);clear hq X F V hb i1 i2 i3 e0 hy Z hp R Q hT hF J hN;go_wp2;clear k1 c1 z1 k2 e5 hi hG;go_loopw [49] (λi wr=>∃j:Nat,j<=P0/\i=nI j/\Hid (∃T',T'<=T+1+j/\Isx w1 wr w3.heap.size g l2.length U l2 T')) (λi _=>P0 - (intOf i).toNat)
    case atStart=>exact ⟨0,Zh _,rfl,gd ⟨T+1,Zb _,gj.out⟩⟩
    case round=>
     obtain ⟨j,hj,rfl,hJ⟩:=hrel;obtain ⟨T',hc,V⟩:=hJ.out;by_cases hM:j<P0
     ·obtain ⟨a,n9,c9,s,e,q1,q2,q3,q4,q5,q6⟩:=V.cel y hD.out j (by rw[gl.out];exact hM);rw[gp.out] at e;injection e with e e' e'';clear e' e'';subst e;have k1:wr.cell? ⟨w3.heap.size,0,none⟩=some (.slice (some ad) l2.length U):=(by rw[hB.out];exact V.box);have e5:=gm.out wr T' V;have H3:Hid (Isx w1 (wr.setCell (a.add j) (.string (s++⟨#[120]⟩))) w3.heap.size g l2.length U l2 (T'+1)):=gd (V.path q1 q2 q3 (by rw[Xl];show s.size+1<=T'+1;omega));have gK:(0:Int)<=(j:Int):=(by omega);have gL:(j:Int)<(P0:Int):=(by omega);have hi:¬9223372036854775807<s.size+1:=(by have:=gn.out;omega);have ho:=gd hc;clear V hJ hc q1 q2 q3 q5;go_wp2;go_roundw
      case rel=>exact ⟨j+1,hM,by go_num,gd ⟨T'+1,by have:=ho.out;omega,H3.out⟩⟩
      case measure=>simp[intOf];omega
     ·have gq:j=P0:=(by omega);subst gq;have hC:=gd V;have ho:=gd hc;have hN:=h0.out;have gM:=hn.out;clear V hJ hc;go_wp2;go_roundw
      case rel=>exact ⟨k+1,hn.out,by go_num,gd ⟨hC.out.ext,λ_=>⟨g,T',gh.out,by have h1:=ho.out;have h2:=HT.out;rw[Nat.succ_mul];omega,hC.out⟩⟩⟩
      case measure=>simp[intOf];have:=hn.out;omega
   ·have hL:=Q.out.1;clear Q;go_wp2;refine rN ?_;change wpAny _ _ _ _ _ _ _ (World.drew _);have M:=(gc.out.trans hL).drew;refine Yi (λw'=>Ext W1 w') ?_;refine sS 0 λK hK=> ?_;go_simp;go_at_call 11
    with_reducible refine Za (gg.out _ M) ?_
    rintro e wa ⟨rfl,gu⟩;have Y:=M.trans gu;refine hK _ _ Y ?_;clear hK K;refine tG 1 (.bool true) Y ?_;refine tS 2 (.agg #[.slice pA lp.length pc]) rfl (λw' Q=>by have q0:=HC.out _ Q;go_simp) Y ?_;refine tS 4 (.agg #[.slice pA lp.length pc]) rfl (λw' Q=>by have q0:=HC.out _ Q;go_simp) Y ?_;go_simp;refine sS 3 λK hK=> ?_;go_simp;go_at_call 23
    with_reducible refine Za (gk.out _ Y) ?_
    rintro e wb ⟨A1,n1,c1,l1,rfl,g1, -,gw⟩;have ht:=Y.trans gw;refine hK _ _ ht ?_;clear hK K;refine sS 5 λK hK=> ?_;go_simp;go_at_call 18
    with_reducible refine Za (gz.out _ ht) ?_
    rintro e wc ⟨A2,n2,c2,rfl,g2,hX⟩;have hY:=ht.trans hX;refine hK _ _ hY ?_;clear hK K;refine sS 6 λK hK=> ?_;go_simp;go_at_call 14
    with_reducible refine Za (hz.out _ _ _ _ _ _ _ (g1.ext hX) g2) ?_
    rintro e wd ⟨rfl,gx⟩;have he:=hY.trans gx;refine hK _ _ he ?_;clear hK K;refine tG 7 (.bool true) he ?_;refine sS 8 λK hK=> ?_;go_simp;refine hK _ _ he ?_;clear hK K;refine sE ?_;go_wp2;go_ret;exact ⟨rfl,go.out.trans he⟩
 ·simp only[Zg hO] at hu;refine rN ?_;change wpAny _ _ _ _ _ _ _ (World.drew _);have M:=(Ext.refl W4).drew;refine Yi (λw'=>Ext W4 w') ?_;refine tS 0 (.agg #[.slice bA l2.length U]) rfl (λw' Q=>by have q0:=(ha.out _ Q).2;go_simp) M ?_;refine tS 2 (.agg #[.slice bA l2.length U]) rfl (λw' Q=>by have q0:=(ha.out _ Q).2;go_simp) M ?_;go_simp;refine sS 1 λK hK=> ?_;go_simp;go_at_call 23
  with_reducible refine Za (h4.out _ _ _ _ (hA.out _ M)) ?_
  rintro e w5 ⟨A5,n5,c5,l5,rfl,hr, -,hU⟩;have S:=M.trans hU;rw[ZbQ] at hr;refine hK _ _ S ?_;clear hK K;refine sS 3 λK hK=> ?_;go_simp;go_at_call 14
  with_reducible refine Za (hz.out _ _ _ _ _ _ _ hr (hA.out _ S)) ?_
  rintro e w6 ⟨rfl,hV⟩;have H:=S.trans hV;refine hK _ _ H ?_;clear hK K;refine tG 4 (.bool false) H ?_;refine tG 5 (.bool false) H ?_;refine tS 6 (.agg #[.slice pA lp.length pc]) rfl (λw' Q=>by have q0:=(ha.out _ Q).1;go_simp) H ?_;go_simp;refine sS 7 λK hK=> ?_;go_simp;go_at_call 16
  with_reducible refine Za (hu.out _ (ge.out.trans H)) ?_
  rintro e w7 ⟨rfl,hW⟩;have D:=H.trans hW;refine hK _ _ D ?_;clear hK K;refine tG 8 (.bool false) D ?_;refine tG 9 (.bool false) D ?_;go_simp;refine YE (i:=10) (v:=undef) rfl (by kernel_rfl) (λ_ _ _ h=>h) (Or.inr ⟨by rfl,rfl⟩) D ?_;refine YE (i:=11) (v:=undef) rfl (by kernel_rfl) (λ_ _ _ h=>h) (Or.inr ⟨by rfl,rfl⟩) D ?_;refine YE (i:=12) (v:=undef) rfl (by kernel_rfl) (λ_ _ _ h=>h) (Or.inr ⟨by rfl,rfl⟩) D ?_;have I:=D;refine tG 13 (.bool false) I ?_;refine sS 14 λK hK=> ?_;go_simp;refine hK _ _ I ?_;clear hK K;refine sE ?_;have hh:=gd I;obtain ⟨k0,k1⟩:=ha.out _ I;have hQ:Hid (Ext w1 w7/\(0<l2.length->∃g T,bA=some ⟨g,0,none⟩/\T<=10000+0*16777218/\Isx w1 w7 w3.heap.size g l2.length U l2 T)):=gd ⟨(gf.out.trans hh.out),λhl=>by
   obtain ⟨g,hg⟩:=gb.out hl;exact ⟨g,10000,hg,by omega,(gA.out g hg hl).grow hh.out⟩⟩
  clear I D H S M hU hV hW hr hu gi h4;go_wp2;clear k0 k1;go_loopw [30] (λi wr=>∃k:Nat,k<=l2.length/\i=nI k/\Hid (Ext w1 wr/\(0<l2.length->∃g T,bA=some ⟨g,0,none⟩/\T<=10000+k*16777218/\Isx w1 wr w3.heap.size g l2.length U l2 T))) (λi _=>l2.length - (intOf i).toNat)
  case atStart=>exact ⟨0,Zh _,rfl,hQ⟩
  case round=>
   obtain ⟨k,hk,rfl,Q⟩:=hrel;by_cases J:k<l2.length
   ·obtain ⟨g,T,hq,hT,V⟩:=Q.out.2 (by omega);obtain ⟨ad,X⟩:∃ad:Addr,ad=⟨g,0,none⟩:=⟨_,rfl⟩;have F:∀j,ad.add j=⟨g,j,none⟩:=(by rw[X];exact Ur g);have hH:bA=some ad:=(by rw[hq,X]);subst hH;have gh:=gd hq;have gI:=gd F;have hB:=gd X;obtain ⟨hf,i1,i2,i3⟩:=V.ids k J;have R:=Zz J;have e0:=V.pth k J;obtain ⟨y,hy⟩:∃y,l2[k]=y:=⟨_,rfl⟩;rw[hy] at R e0;obtain ⟨yA,yc,Z,gt⟩:=gy.out y R;rw[Z] at e0;obtain ⟨P0,hp⟩:∃P0,y.f.path.length=P0:=⟨_,rfl⟩;rw[hp] at e0 gt Z;have gp:=gd Z;have gm:Hid (∀(wr:Wq) (T:Nat),Isx w1 wr w3.heap.size g l2.length U l2 T->wr.cell? (ad.add (k*6))=some (.slice yA P0 yc)):=gd λwr T h=>(by rw[F,h.pth k J,hy,Z]);have gl:=gd hp;have hD:=gd R;have hN:=h0.out;have hF:T<=170000000000:=(by have:k*16777218<=10000*16777218:=Nat.mul_le_mul_right _ (by omega);omega);have HT:=gd hT;have gn:=gd hF;have hn:=gd J;have k1:wr.cell? ⟨w3.heap.size,0,none⟩=some (.slice (some ad) l2.length U):=(by rw[X];exact V.box);have c1:wr.cell? ⟨(ad.add (k*6)).block,(ad.add (k*6)).off+1,none⟩=some (.string hf):=(by rw[F];exact i1);have z1:wr.frozen? ⟨(ad.add (k*6)).block,(ad.add (k*6)).off+1,none⟩=false:=(by rw[F];exact i3);obtain ⟨W5,hG⟩:∃W5,wr.setCell ⟨(ad.add (k*6)).block,(ad.add (k*6)).off+1,none⟩ (.string (hf++⟨#[120]⟩))=W5:=⟨_,rfl⟩;have hb:Isx w1 W5 w3.heap.size g l2.length U l2 (T+1):=(by rw[<-hG,F];exact V.id J (by rw[Xl];show hf.size+1<=T+1;omega));have gj:=gd hb;have k2:W5.cell? ⟨w3.heap.size,0,none⟩=some (.slice (some ad) l2.length U):=(by rw[X];exact hb.box);have e5:W5.cell? (ad.add (k*6))=some (.slice yA P0 yc):=(by rw[F,hb.pth k J,hy,Z]);have gG:(0:Int)<=(k:Int):=(by omega);have gJ:(k:Int)<(l2.length:Int):=(by omega);have hi:¬9223372036854775807<hf.size+1:=(by omega);clear hq X F V hb i1 i2 i3 e0 hy Z hp R Q hT hF J hN;go_wp2;clear k1 c1 z1 k2 e5 hi hG;go_loopw [49] (λi wr=>∃j:Nat,j<=P0/\i=nI j/\Hid (∃T',T'<=T+1+j/\Isx w1 wr w3.heap.size g l2.length U l2 T')) (λi _=>P0 - (intOf i).toNat)
    case atStart=>exact ⟨0,Zh _,rfl,gd ⟨T+1,Zb _,gj.out⟩⟩
    case round=>
     obtain ⟨j,hj,rfl,hJ⟩:=hrel;obtain ⟨T',hc,V⟩:=hJ.out;by_cases hM:j<P0
     ·obtain ⟨a,n9,c9,s,e,q1,q2,q3,q4,q5,q6⟩:=V.cel y hD.out j (by rw[gl.out];exact hM);rw[gp.out] at e;injection e with e e' e'';clear e' e'';subst e;have k1:wr.cell? ⟨w3.heap.size,0,none⟩=some (.slice (some ad) l2.length U):=(by rw[hB.out];exact V.box);have e5:=gm.out wr T' V;have H3:Hid (Isx w1 (wr.setCell (a.add j) (.string (s++⟨#[120]⟩))) w3.heap.size g l2.length U l2 (T'+1)):=gd (V.path q1 q2 q3 (by rw[Xl];show s.size+1<=T'+1;omega));have gK:(0:Int)<=(j:Int):=(by omega);have gL:(j:Int)<(P0:Int):=(by omega);have hi:¬9223372036854775807<s.size+1:=(by have:=gn.out;omega);have ho:=gd hc;clear V hJ hc q1 q2 q3 q5;go_wp2;go_roundw
      case rel=>exact ⟨j+1,hM,by go_num,gd ⟨T'+1,by have:=ho.out;omega,H3.out⟩⟩
      case measure=>simp[intOf];omega
     ·have gq:j=P0:=(by omega);subst gq;have hC:=gd V;have ho:=gd hc;have hN:=h0.out;have gM:=hn.out;clear V hJ hc;go_wp2;go_roundw
      case rel=>exact ⟨k+1,hn.out,by go_num,gd ⟨hC.out.ext,λ_=>⟨g,T',gh.out,by have h1:=ho.out;have h2:=HT.out;rw[Nat.succ_mul];omega,hC.out⟩⟩⟩
      case measure=>simp[intOf];have:=hn.out;omega
   ·have hL:=Q.out.1;clear Q;go_wp2;refine rN ?_;change wpAny _ _ _ _ _ _ _ (World.drew _);have M:=(gc.out.trans hL).drew;refine Yi (λw'=>Ext W1 w') ?_;refine sS 0 λK hK=> ?_;go_simp;go_at_call 11
    with_reducible refine Za (gg.out _ M) ?_
    rintro e wa ⟨rfl,gu⟩;have Y:=M.trans gu;refine hK _ _ Y ?_;clear hK K;refine tG 1 (.bool true) Y ?_;refine tS 2 (.agg #[.slice pA lp.length pc]) rfl (λw' Q=>by have q0:=HC.out _ Q;go_simp) Y ?_;refine tS 4 (.agg #[.slice pA lp.length pc]) rfl (λw' Q=>by have q0:=HC.out _ Q;go_simp) Y ?_;go_simp;refine sS 3 λK hK=> ?_;go_simp;go_at_call 23
    with_reducible refine Za (gk.out _ Y) ?_
    rintro e wb ⟨A1,n1,c1,l1,rfl,g1, -,gw⟩;have ht:=Y.trans gw;refine hK _ _ ht ?_;clear hK K;refine sS 5 λK hK=> ?_;go_simp;go_at_call 18
    with_reducible refine Za (gz.out _ ht) ?_
    rintro e wc ⟨A2,n2,c2,rfl,g2,hX⟩;have hY:=ht.trans hX;refine hK _ _ hY ?_;clear hK K;refine sS 6 λK hK=> ?_;go_simp;go_at_call 14
    with_reducible refine Za (hz.out _ _ _ _ _ _ _ (g1.ext hX) g2) ?_
    rintro e wd ⟨rfl,gx⟩;have he:=hY.trans gx;refine hK _ _ he ?_;clear hK K;refine tG 7 (.bool true) he ?_;refine sS 8 λK hK=> ?_;go_simp;refine hK _ _ he ?_;clear hK K;refine sE ?_;go_wp2;go_ret;exact ⟨rfl,go.out.trans he⟩
end
section
variable {P:Program} {W:World} {e:TypeId} {g:Nat} {α:Type}
abbrev laidAll : List (String × DataW Unit) := [("math/bits.deBruijn32tab", Rows.laid_math_bits_deBruijn32tab), ("math/bits.deBruijn64tab", Rows.laid_math_bits_deBruijn64tab), ("internal/strconv.uint64pow10", Rows.laid_internal_strconv_uint64pow10), ("unicode/utf8.acceptRanges", Rows.laid_unicode_utf8_acceptRanges), ("feedvault/text.startRanges", Rows.laid_feedvault_text_startRanges), ("feedvault/text.moreRanges", Rows.laid_feedvault_text_moreRanges), ("feedvault/jsonstring.letters", Rows.laid_feedvault_jsonstring_letters), ("unicode/utf8.first", Rows.laid_unicode_utf8_first)]
theorem Zfy:Rows.laid_unicode_utf8_first=Lib.firstData:=by kernel_rfl
theorem ZdP:(Rows.laid_unicode_utf8_acceptRanges:DataW Unit)=Lib.acceptData:=by kernel_rfl
theorem Zi3:(Rows.laid_internal_strconv_uint64pow10:DataW Unit)=Lib.tabData .u64 Lib.pow10Tab:=by kernel_rfl
theorem Zi2:(Rows.laid_feedvault_jsonstring_letters:DataW Unit)= .agg [.agg [.lit (.int .u8 98),.lit (.int .u8 8)],.agg [.lit (.int .u8 102),.lit (.int .u8 12)],.agg [.lit (.int .u8 110),.lit (.int .u8 10)],.agg [.lit (.int .u8 114),.lit (.int .u8 13)],.agg [.lit (.int .u8 116),.lit (.int .u8 9)]]:=rfl
theorem Zlw : prog.globalNamed "feedvault/jsonstring.letters" = some 6 := by kernel_rfl
theorem gDb : prog.globalNamed "math/bits.deBruijn64tab" = some 8 := by kernel_rfl
theorem QD {n:String} {cs:Array Value} (D:P.globalNamed n=some g) (h:W.var? P n=some cs):∃t fr,W.heap[g]? =some (.cells cs t fr):=by
 unfold World.var? at h;rw[D] at h;simp only[Option.bind_some] at h;split at h
 ·rename_i A t fr F;injection h with h;subst h;exact ⟨t,fr,F⟩
 ·cases h
theorem Zlh {l:List α} (h:l.length=10):∃a b c d e f g i j k,l= [a,b,c,d,e,f,g,i,j,k]:=by
 match l,h with
 | [a,b,c,d,e,f,g,i,j,k],_=>exact ⟨a,b,c,d,e,f,g,i,j,k,rfl⟩
theorem Zdl (h:laidMet prog laidAll W):Env W:=by
 have r5 := VG h (n := "unicode/utf8.first") (.tail _ (.tail _ (.tail _ (.tail _ (.tail _ (.tail _ (.tail _ (.head _))))))))
 have r3 := VG h (n := "unicode/utf8.acceptRanges") (.tail _ (.tail _ (.tail _ (.head _))))
 have r2 := VG h (n := "internal/strconv.uint64pow10") (.tail _ (.tail _ (.head _)))
 have r4 := VG h (n := "feedvault/jsonstring.letters") (.tail _ (.tail _ (.tail _ (.tail _ (.tail _ (.tail _ (.head _)))))))
 have r1 := VG h (n := "math/bits.deBruijn64tab") (.tail _ (.head _))
 rw[Zfy] at r5;rw[ZdP] at r3;rw[Zi3] at r2;rw[Zi2] at r4;refine ⟨?_,?_,?_,?_⟩
 ·exact utf8Tabs_of_reads (ρ:=lays197_ren) {lays197 with} ⟨by kernel_rfl,by kernel_rfl,by kernel_rfl,by kernel_rfl,by kernel_rfl,by kernel_rfl,by kernel_rfl⟩ r5 r3
 ·obtain ⟨g,t,cs,fuel,p,hg,hty,hvar,hd⟩:=r2;obtain rfl:=YX (Zlx.symm.trans hg);obtain rfl:=YX ((show (prog.globals[5]?).map (·.type)=some 298 by kernel_rfl).symm.trans hty);unfold Lib.TabIs;rw[hvar,<-Lib.cells_of_tab underlying298 underlying144 (by kernel_rfl) (by kernel_rfl) hd]
 ·obtain ⟨g,t,cs,fuel,p,hg,hty,hvar,hd⟩:=r1;obtain rfl:=YX (gDb.symm.trans hg);obtain ⟨t',fr,hh⟩:=QD gDb hvar;have:=(Zx.1 hh).1;omega
 ·obtain ⟨g,t,cs,fuel,p,hg,hty,hvar,hd⟩:=r4;obtain rfl:=YX (Zlw.symm.trans hg);obtain rfl:=YX ((show (prog.globals[6]?).map (·.type)=some 301 by kernel_rfl).symm.trans hty);obtain ⟨t',fr,hh⟩:=QD Zlw hvar;have c2:prog.cellsOf 300=2:=by kernel_rfl
  have c10:prog.cellsOf 301=10:=by kernel_rfl
  obtain ⟨xs,m,hf,hx,hlen,hxl,hel⟩:=DataW.trod_array underlying301 hd;rw[c10] at hlen;obtain ⟨l⟩:=cs;obtain ⟨a,b,c,d,e,f,g,i,j,k,hl⟩:=Zlh hlen;have hl':l= [a,b,c,d,e,f,g,i,j,k]:=hl;subst hl';have part:∀(q:Nat) (z1 z2:Int),q<5->
   ([.agg [.lit (.int .u8 98),.lit (.int .u8 8)],.agg [.lit (.int .u8 102),.lit (.int .u8 12)],.agg [.lit (.int .u8 110),.lit (.int .u8 10)],.agg [.lit (.int .u8 114),.lit (.int .u8 13)],.agg [.lit (.int .u8 116),.lit (.int .u8 9)]]:List (DataW Unit))[q]? =some (Lib.tabData .u8 [z1,z2])->
   (([a,b,c,d,e,f,g,i,j,k]:List Value).drop (q*2)).take 2= [.int .u8 z1,.int .u8 z2]:=by
   intro q z1 z2 hq hz
   obtain ⟨fuel',dd,pp,hdi,he⟩:=Lib.array_elem underlying301 hd q hq
   obtain rfl:=YX (hz.symm.trans hdi)
   rw[c2] at he
   have:=Lib.cells_of_tab underlying300 underlying5 (by kernel_rfl) c2 he
   simpa using this
  have p0:=part 0 98 8 (by decide) rfl;have p1:=part 1 102 12 (by decide) rfl;have p2:=part 2 110 10 (by decide) rfl;have p3:=part 3 114 13 (by decide) rfl;have p4:=part 4 116 9 (by decide) rfl;simp at p0 p1 p2 p3 p4;obtain ⟨rfl,rfl⟩:=p0;obtain ⟨rfl,rfl⟩:=p1;obtain ⟨rfl,rfl⟩:=p2;obtain ⟨rfl,rfl⟩:=p3;obtain ⟨rfl,rfl⟩:=p4;exact ⟨t',fr,hh⟩
theorem Zee:∀(L:List (Nat×Nat)) (l:List Value),l.length=L.length*2->(∀(q:Nat) (h:q<L.length),(l.drop (q*2)).take 2= [.int .i32 (L[q].1:Nat),.int .i32 (L[q].2:Nat)])->l=L.flatMap λp=> [Value.int .i32 (p.1:Nat),Value.int .i32 (p.2:Nat)]
 | [],l,hl,_=>by
  rw[ZT,Xf] at hl
  exact ZF hl
 |p::t,l,hl,h=>by
  have A:=h 0 (ZeX _)
  rw[Xf,JN] at A
  rw[Ze] at hl
  have ih:=Zee t (l.drop 2) (by rw[Zm];omega) (λq F=>by
   have D:=h (q+1) (Nat.succ_lt_succ F)
   rw[List.drop_drop]
   rw[show 2+q*2=(q+1)*2 by omega]
   exact D)
  rw[<-YZ 2 l,A,ih,List.flatMap_cons]
  rfl
theorem Zef {nm:String} {t:TypeId} {L:List (Nat×Nat)} (U:prog.globalNamed nm=some g) (K:(prog.globals[g]?).map (·.type)=some t) (X:prog.underlying t=some (.array L.length e)) (Y:prog.underlying e=some (.array 2 21)) (R:prog.cellsOf e=2) (ct:prog.cellsOf t=L.length*2)
 (h:Lib.VarReads prog W nm (.agg (L.map λp=> .agg [.lit (.int .i32 (p.1:Nat)),.lit (.int .i32 (p.2:Nat))]))):∃ty fr,W.heap[g]? =some (.cells (pairCells L) ty fr):=by
 obtain ⟨g',t',cs,fuel,p,J,M,H,S⟩:=h;obtain rfl:=YX (U.symm.trans J);obtain rfl:=YX (K.symm.trans M);obtain ⟨ty,fr,hh⟩:=QD U H;obtain ⟨xs,m,hf,hx,A,ha,Z⟩:=DataW.trod_array X S;rw[ct] at A;have Q:=Zee L cs.toList A λq V=>by obtain ⟨I,dd,pp,F,D⟩:=Lib.array_elem X S q V;rw[Ys,Zj V] at F;obtain rfl:=YX F;rw[R] at D;exact Lib.cells_of_tab (zs:= [(L[q].1:Nat),(L[q].2:Nat)]) Y underlying21 (by kernel_rfl) R D
 refine ⟨ty,fr,?_⟩;rw[hh];have:cs=pairCells L:=by unfold pairCells;rw[<-Q]
 rw[this]
theorem Zfz:(Rows.laid_feedvault_text_startRanges:DataW Unit)= .agg (startL.map λp=> .agg [.lit (.int .i32 (p.1:Nat)),.lit (.int .i32 (p.2:Nat))]):=rfl
theorem Zhm:(Rows.laid_feedvault_text_moreRanges:DataW Unit)= .agg (moreL.map λp=> .agg [.lit (.int .i32 (p.1:Nat)),.lit (.int .i32 (p.2:Nat))]):=rfl
theorem ZfP (h:laidMet prog laidAll W):NmTabs W:=by
 have r1 := VG h (n := "feedvault/text.startRanges") (.tail _ (.tail _ (.tail _ (.tail _ (.head _)))))
 have r2 := VG h (n := "feedvault/text.moreRanges") (.tail _ (.tail _ (.tail _ (.tail _ (.tail _ (.head _))))))
 rw[Zfz] at r1;rw[Zhm] at r2;exact ⟨Zef (by kernel_rfl) (by kernel_rfl) (t:=286) (e:=284) underlying286 underlying284 (by kernel_rfl) (by kernel_rfl) r1,Zef (by kernel_rfl) (by kernel_rfl) (t:=285) (e:=284) underlying285 underlying284 (by kernel_rfl) (by kernel_rfl) r2⟩
theorem ZlN:ownKnob prog.godebug=none:=by kernel_rfl
theorem Zi1:laidOutB prog=true:=by kernel_rfl
end
end Go.Proofs.YtnlafkgkcnenfaaGreatDoor
