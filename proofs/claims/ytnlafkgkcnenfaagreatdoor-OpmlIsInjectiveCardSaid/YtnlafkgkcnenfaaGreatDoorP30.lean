/- Parts of the proof: contracts and plain laws. -/
import Derived.Test.YtnlafkgkcnenfaaGreatDoorTie
import Derived.Test.YtnlafkgkcnenfaaGreatDoorCards
import Derived.Test.YtnlafkgkcnenfaaGreatDoorRows
import Derived.Test.YtnlafkgkcnenfaaGreatDoorP29
namespace Go.Proofs.YtnlafkgkcnenfaaGreatDoor
open Go Go.RowKit Go.Joins Go.ChangeShapes Go.WideShapes Go.ChangeAt Go.Deep _root_.Go.Proofs.Tryz
set_option linter.unusedVariables false
set_option linter.unusedSimpArgs false
set_option maxRecDepth 100000
set_option maxHeartbeats 16000000
section
variable {k:Nat}
structure OutB (w:Wq) (b:Nat) (u:Value) (O:List Fc):Prop where
 bk:w.heap[b]? =some (.cells #[u] 31)
 hf:HFs w (b+1) u O
 far:∀x∈O,awayC x (some b)
section
variable {w w' w5:World} {b:Nat} {u u':Value} {O O':List Fc}
theorem OutB.ext (h:OutB w b u O) (A:Ext w w'):OutB w' b u O:=⟨A.heap h.bk,h.hf.ext A,h.far⟩
theorem OutB.row_ne (h:OutB w b u O) (A:k<=b):u.ownBlock≠some k:=λe=>by
 have:=(h.hf.row.lt k e).1;omega
theorem OutB.cell (h:OutB w b u O):w.cell? ⟨b,0,none⟩=some u/\w.frozen? ⟨b,0,none⟩=false:=⟨by rw[Ju h.bk];rfl,YY h.bk 0⟩
theorem OutB.store (h:OutB w b u O) (H:w.grownBy w5 u.ownBlock) (F:HFs w5 (b+1) u' O') (A:∀x∈O',awayC x (some b)):OutB (w5.setCell ⟨b,0,none⟩ u') b u' O':=by
 have D:w5.heap[b]? =w.heap[b]?:=H.block b (ZI.1 h.bk).1 (λe=>h.row_ne (Zb _) e.symm);exact ⟨block_setCell (D.trans h.bk) _,F.setCell (YQ b) A,A⟩
end
theorem Zdq:(prog.info? 31).map (λi=>i.size)=some 1:=by kernel_rfl
theorem Zbx (v:Value) (l:List Fc) (w:Wq) (hr:RFcs w v l) (gb:∀x∈l,RdC w x) (hk:∀x∈l,x.f.path.length<=16777216) (hn:l.length<=1000000):
 Calls prog 18 #[.agg #[v]] w λe w'=>∃A n c lc,e= .returned (.agg #[.slice A n c])/\(n=lc.length/\lc.map Fc.f=(l.map Fc.f).map outl/\RFcs w' (.slice A n c) lc/\∀y∈lc,RdC w' y)/\Ext w w':=by
 obtain ⟨A,c,rfl, -, -⟩:=hr.form;obtain ⟨i0,gr,gw,gx,gy⟩:=YG Zfj;obtain ⟨s0,gz,gA,gB,gC⟩:=YG ZcX;have HR:=gd hr;have hB:=gd gb;have HK:=gd hk;have hu:Ext w (((w.alloc (.cells #[.slice A l.length c] 31)).alloc (.cells #[sN] 31)).alloc (.cells #[sN] 31)):=(((Ext.refl w).alloc _).alloc _).alloc _;have hT:=gd hu;have h9:=(((Ext.refl (w.alloc (.cells #[.slice A l.length c] 31))).alloc (.cells #[sN] 31)).alloc (.cells #[sN] 31)).heap (Zg w _);have ga:=((Ext.refl ((w.alloc (.cells #[.slice A l.length c] 31)).alloc (.cells #[sN] 31))).alloc (.cells #[sN] 31)).heap (YI w _ _);have hE:=Zg ((w.alloc (.cells #[.slice A l.length c] 31)).alloc (.cells #[sN] 31)) (.cells #[sN] 31);simp only[Zs] at hE;have gl:=gd h9;have gm:=gd ga;have gn:=gd hE;clear hr gb hk hu h9 ga hE;go_enter func18,ntmps18;go_wp2;go_loopw [4] (λi wr=>∃(j:Nat) (u:Value) (O:List Fc),j<=l.length/\i=nI j/\OutB wr (w.heap.size+1+1) u O/\wr.cell? ⟨w.heap.size,0,none⟩=some (.slice A l.length c)/\wr.heap[w.heap.size+1]? =some (.cells #[sN] 31)/\
  Hid (O.map Fc.f=((l.take j).map Fc.f).map outl)/\Hid (O.length=j)/\Hid (∀x∈O,awayC x (some (w.heap.size+1)))/\Ext w wr) (λi _=>l.length - (intOf i).toNat)
 case atStart=>exact ⟨0,sN,[],Zh _,rfl,⟨gn.out,HFs.nil _ _,by intro x hx;cases hx⟩,(Zt gl.out 0).trans rfl,gm.out,rfl,rfl,(by intro x hx;cases hx),hT.out⟩
 case round=>
  obtain ⟨j,u,O,hj,rfl,hO,h5,hi,hX,hY,ht,hx⟩:=hrel;obtain ⟨OA,oc,gu⟩:=Ye hO.hf.row;subst gu;by_cases hm:j<l.length
  ·obtain ⟨ad,c',hv,hD⟩:=(HR.out.ext hx).at hm;injection hv with hv1 hv2 hv3;subst hv1;clear hv2 hv3;have ha:l[j]∈l:=ZG hm;have gc:=(hB.out _ ha).ext hx;have hl:=HK.out _ ha;have hG:(l.take (j+1)).map Fc.f=(l.take j).map Fc.f++ [l[j].f]:=(by rw[Zr hm,ZO];rfl);obtain ⟨x,ge⟩:∃x,l[j]=x:=⟨_,rfl⟩;rw[ge] at hD gc hl hG;have hR:=gd hG;clear ge hG ha;obtain ⟨xp,gI,⟨D,R,H,I,hw,hg⟩⟩:=x;obtain ⟨ho,hH⟩:=gc;dsimp only at hD ho hH hl hR;obtain ⟨xA,xc,rfl, -, -⟩:=ho.form;obtain ⟨xB,xd,rfl, -, -⟩:=hH.form;obtain ⟨a0,a1,a2,a3,a4,a5⟩:=hD;dsimp only at a0 a1 a2 a3 a4 a5;have gF:(0:Int)<=(j:Int):=(by omega);have gH:(j:Int)<(l.length:Int):=(by omega);have go:=gd ho;have HO:=gd hO;have hU:=gd hx;have gg:=gd h5;have hL:=gd hi;have gi:=gd hl;have h4:=hO.cell.1;obtain ⟨W5,hZ⟩:∃W5,wr.alloc (.cells #[.slice xA D.length xc,.string R,.string H,.string I,nI hw,.slice xB hg.length xd] 55)=W5:=⟨_,rfl⟩;have hI:Ext wr W5:=(by rw[<-hZ];exact (Ext.refl wr).alloc _);have h3:W5.heap[wr.heap.size]? =some (.cells #[.slice xA D.length xc,.string R,.string H,.string I,nI hw,.slice xB hg.length xd] 55):=(by rw[<-hZ];exact Zg wr _);have U:=gd hI;obtain ⟨b0,b1,b2,b3,b4,b5⟩:=ZlY h3;have f0:=hI.cell h4;have Q:Hid (∀w',Ext W5 w'->w'.cell? ⟨w.heap.size+1+1,0,none⟩=some (.slice OA O.length oc)/\w'.cell? ⟨wr.heap.size,0,none⟩=some (.slice xA D.length xc)/\w'.cell? ⟨wr.heap.size,1,none⟩=some (.string R)/\w'.cell? ⟨wr.heap.size,2,none⟩=some (.string H)/\w'.cell? ⟨wr.heap.size,3,none⟩=some (.string I)):=gd λw' h=>⟨h.cell f0,h.cell b0,h.cell b1,h.cell b2,h.cell b3⟩;clear hO hi hl ho hH hI hx h3 h4;go_wp2;refine rN ?_;change wpAny _ _ _ _ _ _ _ (World.drew _);have Z:=(Ext.refl W5).drew;refine tH 0 (.pointer (some ⟨w.heap.size+1+1,0,none⟩)) ?_;refine tH 3 (.pointer (some ⟨wr.heap.size,0,none⟩)) ?_;refine tH 6 (.pointer (some ⟨wr.heap.size,1,none⟩)) ?_;refine tH 8 (.pointer (some ⟨wr.heap.size,2,none⟩)) ?_;refine tH 10 (.pointer (some ⟨wr.heap.size,3,none⟩)) ?_;go_simp;refine Xb (i:=1) (v:= .slice OA O.length oc) (λw'=>w'.cell? ⟨w.heap.size+1+1,0,none⟩=some (.slice OA O.length oc)/\w'.cell? ⟨wr.heap.size,0,none⟩=some (.slice xA D.length xc)/\w'.cell? ⟨wr.heap.size,1,none⟩=some (.string R)/\w'.cell? ⟨wr.heap.size,2,none⟩=some (.string H)/\w'.cell? ⟨wr.heap.size,3,none⟩=some (.string I)) 16 rfl (by kernel_rfl) (λ_ _ _ h=>h) (Or.inl ⟨by rfl,λw' hS=>by have hq:=hS.1;go_simp⟩) (Q.out _ Z) ?_;refine tT 4 (.slice xA D.length xc) rfl (λw' hS=>by have hq:=hS.2.1;go_simp) (Q.out _ Z) ?_;refine tT 7 (.string R) rfl (λw' hS=>by have hq:=hS.2.2.1;go_simp) (Q.out _ Z) ?_;refine tT 9 (.string H) rfl (λw' hS=>by have hq:=hS.2.2.2.1;go_simp) (Q.out _ Z) ?_;refine tT 11 (.string I) rfl (λw' hS=>by have hq:=hS.2.2.2.2;go_simp) (Q.out _ Z) ?_;go_simp;refine JZ (i:=2) rfl (by kernel_rfl) (λK hK=> ?_);go_simp;have he:=Z.alloc (.cells #[] 9);refine hK _ _ (Q.out _ he) ?_;clear hK K;have hA:=gd (JN (w:=W5.drew) (base:=W5.heap.size) (e:=9) (size:=1) (n:=0) (cs:= []) (Zb _) rfl (by decide));have hC:=gd (GH (n:=0) (m:=D.length) (by have:=gi.out;omega));refine JZ (i:=5) rfl (by kernel_rfl) (λK hK=> ?_);refine ZW _ (by rfl) (.tmp 21) (.tmp 23) _ (by rfl) W5.heap.size 9 s0 _ 1 16 underlying52 gz gA gB gC rfl (by decide) _ 0 [] (by rfl) hA.out (.slice xA D.length xc) D.length (D.map Value.string) (by rfl) (go.out.ext (U.out.trans he)) (VY _) hC.out.1 hC.out.2 he.size ?_;intro v4 w4 S h6 h0;have hd:Ext W5 w4:=Ext.app he h6 hA.out (Zb _);rw[Ys,Yu] at S;obtain ⟨PB,pb,gq⟩:=Ye S;subst gq;have hz:=gd S;have gG:=gd hd;clear S h6 h0 hA hC;refine hK _ _ (Q.out _ hd) ?_;clear hK K;refine JZ (i:=12) rfl (by kernel_rfl) (λK hK=> ?_);go_simp;refine hK _ _ (Q.out _ hd) ?_;clear hK K;refine Y3 16 [] (AtIx.cons rfl AtIx.nil) [13,14,15] (AtIx.cons rfl (AtIx.cons rfl (AtIx.cons rfl AtIx.nil))) rfl (by kernel_rfl) ?_;refine ZU (λK hK=> ?_);go_simp;have Y:=hd.alloc (.cells #[.slice PB D.length pb,.string R,.string H,.string I,nI (-62135596800),sN] 55);refine hK _ _ (Q.out _ Y) ?_;clear hK K;obtain ⟨F,hF⟩:∃F:Fc,F=⟨.slice PB D.length pb,sN,⟨D,R,H,I, -62135596800,[]⟩⟩:=⟨_,rfl⟩;have gh:=gd hF;have hQ:Hid (∀u∈cellsC F,u.oneCell'=true):=gd (by rw[hF];exact Jx ⟨⟨_,_,_,rfl⟩,⟨_,_,_,rfl⟩⟩);have hP:Hid (RSl (w4.alloc (.cells #[.slice PB D.length pb,.string R,.string H,.string I,nI (-62135596800),sN] 55)) 6 (.slice (some ⟨w4.heap.size,0,none⟩) 1 1) 1 (cellsC F)):=gd (by rw[hF];exact Yq rfl (by decide));have hN:=gd (ZcC (n:=O.length) (m:=1) (by have:=hY.out;omega));have M:=gd (HO.out.ext (U.out.trans Y));have hB:Hid (RdC (w4.alloc (.cells #[.slice PB D.length pb,.string R,.string H,.string I,nI (-62135596800),sN] 55)) F):=gd (by rw[hF];exact ⟨RSl.of_own (Yl hz.out ((Ext.refl w4).alloc _)),RSl.nil _ 5⟩);have hp:Hid (∀r,r<W5.heap.size->awayC F (some r)):=gd (λr hr=>by
    rw[hF];refine ⟨?_,Or.inl rfl⟩;by_cases hb:D= []
    ·exact Or.inl hb
    ·exact Or.inr (Eb hz.out (by simpa using hb) hr))
   have gf:Hid (awayC F (Value.slice OA O.length oc).ownBlock):=gd (by
    rw[hF];refine ⟨?_,Or.inl rfl⟩;by_cases hb:D= []
    ·exact Or.inl hb
    ·exact Or.inr (Kw (HO.out.ext U.out).hf.row hz.out (by simpa using hb)))
   clear hF;refine ZU (λK hK=> ?_);refine ZW _ (by rfl) (.tmp 20) (.tmp 32) _ (by rfl) (w.heap.size+1+1+1) 55 i0 _ 6 104 underlying29 gr gw gx gy rfl (by decide) _ O.length (flatC O) (by rfl) M.out.hf.row _ 1 (cellsC F) (by rfl) hP.out hQ.out hN.out.1 hN.out.2 (by have:=(ZI.1 M.out.bk).1;simp only[nI,sN] at *;omega) ?_;intro v8 w8 X V hs;have hV:=HFs.snoc M.out.hf hB.out gf.out X V hs;obtain ⟨OB,ob,gt⟩:=Ye X;subst gt;have J:∀(k i:Nat) (y:Value),k<=w.heap.size+1+1\/k=wr.heap.size->W5.cell? ⟨k,i,none⟩=some y->w8.cell? ⟨k,i,none⟩=some y:=λk i y hk hc=>by
    refine V.cell (Y.cell hc) λe=> ?_;rcases hk with hk|hk
    ·exact M.out.row_ne hk e.symm
    ·have h1:=(HO.out.hf.row.lt k e.symm).2;omega
   have h7:w.heap.size+1+1<W5.heap.size:=(by have h1:=(ZI.1 HO.out.bk).1;have h2:=U.out.size;omega);have hW:=M.out.store V hV (λx hx=>(Zu.1 hx).elim (M.out.far x) λh=>by rw[Zo.1 h];exact hp.out _ h7);have hh:w8.cell? ⟨w.heap.size+1+1,0,none⟩=some (.slice OA O.length oc)/\w8.cell? ⟨wr.heap.size,0,none⟩=some (.slice xA D.length xc)/\w8.cell? ⟨wr.heap.size,1,none⟩=some (.string R)/\w8.cell? ⟨wr.heap.size,2,none⟩=some (.string H)/\w8.cell? ⟨wr.heap.size,3,none⟩=some (.string I):=(by obtain ⟨e0,e1,e2,e3,e4⟩:=Q.out _ (Ext.refl W5);exact ⟨J _ _ _ (Or.inl (Zb _)) e0,J _ _ _ (Or.inr rfl) e1,J _ _ _ (Or.inr rfl) e2,J _ _ _ (Or.inr rfl) e3,J _ _ _ (Or.inr rfl) e4⟩);have gk:=gd hW;have gD:=hh.1;have gE:w8.frozen? ⟨w.heap.size+1+1,0,none⟩=false:=(World.frozen?_of_block (a:=⟨w.heap.size+1+1,0,none⟩) (V.block (w.heap.size+1+1) (by have:=(ZI.1 M.out.bk).1;omega) (λe=>M.out.row_ne (Zb _) e.symm))).trans M.out.cell.2;have gp:Hid (Ext w w8):=gd (Ext.app (hU.out.trans (U.out.trans Y)) V M.out.hf.row (by have:=hU.out.size;have:=hT.out.size;simp only[Zs] at this;omega));have hJ:Hid (w8.cell? ⟨w.heap.size,0,none⟩=some (.slice (some ad) l.length c)):=gd (J _ _ _ (Or.inl (by omega)) (U.out.cell gg.out));have hM:Hid (w8.heap[w.heap.size+1]? =some (.cells #[sN] 31)):=gd ((V.block (w.heap.size+1) (by have:=(ZI.1 hL.out).1;have:=(U.out.trans Y).size;simp only[nI,sN] at *;omega) (λe=>M.out.row_ne (by omega) e.symm)).trans ((U.out.trans Y).heap hL.out));refine hK _ _ hh ?_;clear hK K X V hs hV hW J;refine ZU (λK hK=> ?_);go_simp;refine hK _ _ hh ?_;clear hK K;refine Y4 ?_;clear Y hd he Z hh f0 b0 b1 b2 b3 b4 b5 h5;go_wp2;go_roundw
   case rel=>
    refine ⟨j+1,_,O++ [F],hm,by go_num,gk.out,(Y6 _ _ _ _ (by intro e;injection e with e;omega)).trans hJ.out,(Z3 _ _ _ _ (by show w.heap.size+1≠w.heap.size+1+1;omega)).trans hM.out,gd ?_,gd ?_,gd ?_,gp.out.setCell (by show w.heap.size<=w.heap.size+1+1;omega) _⟩
    ·rw[ZO,hX.out,hR.out,ZO];rw[gh.out];rfl
    ·rw[Zc,hY.out];rfl
    ·exact λy hy=>(Zu.1 hy).elim (ht.out y) λh=>by rw[Zo.1 h];exact hp.out _ (by omega)
   case measure=>simp[intOf];omega
  ·have gs:j=l.length:=(by omega);subst gs;have f0:=hO.cell.1;have HO:=gd hO;have HX:=gd hx;have h8:(Value.slice OA O.length oc).ownBlock≠some (w.heap.size+1):=hO.row_ne (Yh _);have gj:=gd h8;clear hO hx h8
   go_wp2_with (first|(refine Zd rfl 31 (.tmp 2) (.tmp 35) rfl (w.heap.size+1) _ rfl rfl _ _ hi Zdq rfl Vc ?_))
   ((try simp only[Exit.inBlock,Exit.then]);refine Zn (Jr rfl _ _ _ _ _ _ _ rfl (Zp _ _ _ _ _ _ hi) underlying31 rfl Zdq) rfl ?_);refine ⟨OA,O.length,oc,O,rfl,⟨rfl,?_,RSl.grown (RSl.of_own HO.out.hf.row) (Yy _ _ _) (Or.inr λe=>gj.out e),λy hy=>(HO.out.hf.rd y hy).grown (Yy _ _ _) (ht.out y hy)⟩,HX.out.setRow (Yh _) _⟩;rw[hX.out,ZR (Zb _)]
end
theorem Za6 {r1 A:List Fd->List Nd} (h:∀l,r1 (l.map outl)=A l) (d:Nat):∀(f:Nat) (l:List Fd),foldsP r1 d f (l.map outl)=foldsP A d f l
 |0,_=>rfl
 |_+1,[]=>rfl
 |f+1,x::t=>by
  have e:outl x::t.map outl=(x::t).map outl:=rfl
  have D:∀y,pathAt (outl y) d=pathAt y d:=λ_=>rfl
  rw[ZL,foldsP,foldsP]
  simp only[e,List.takeWhile_map,Zl,D,Function.comp_def,<-List.map_take,<-List.map_drop,h]
  rw[Za6 h d f]
theorem Zdh:∀(f d:Nat) (l:List Fd),outsP f d (l.map outl)=outsP f d l
 |0,_,_=>rfl
 |f+1,d,l=>by
  have h:∀y,feedN (outl y)=feedN y:=λ_=>rfl
  have A:∀y,(outl y).path=y.path:=λ_=>rfl
  rw[outsP,outsP]
  simp only[List.takeWhile_map,Zl,Function.comp_def,A,<-List.map_drop,Ug,h]
  rw[Za6 (λl=>Zdh f (d+1) l)]
theorem Zcy (l:List Fd):encP (l.map outl)=encP l:=by unfold encP;rw[Zdh]
theorem Zkt {a b:List Fd} (H:okA a=true) (I:okA b=true):docW (encP a)=docW (encP b)↔a.map outl=b.map outl:=by
 constructor
 ·intro h;obtain ⟨m,r,A,D,F⟩:=Zbo H;obtain ⟨Q,r',J,K,M⟩:=Zbo I;obtain rfl:m=Q:=Except.ok.inj (A.symm.trans ((Zz docP h).trans J));obtain rfl:r=r':=Except.ok.inj (D.symm.trans K);exact Except.ok.inj (F.symm.trans M)
 ·intro h;rw[<-Zcy a,h,Zcy]
section
variable {L:List Fd} {l:List Fc} {n:Nat}
theorem ZeE:∀l:List Fd,l.length<=bigL l
 | []=>Zh _
 |f::t=>by
  have h:=ZeE t
  have e:bigL (f::t)=bigF f+bigL t:=by unfold bigL;rw[ZL,XP]
  have A:1<=bigF f:=by unfold bigF bigH capN;omega
  rw[e,Ze]
  omega
theorem ZaG (h:capN n<=5000):n<=5000:=by unfold capN at h;omega
theorem ZjZ {f:Fd} (h:bigF f<=5000):smF 10000 f:=by
 have A:capN (f.id.size+f.title.size+f.link.size)<=5000:=by unfold bigF bigH at h;omega
 have F:=ZaG A;refine ⟨λp D=> ?_,by omega,by omega,by omega⟩;have H:capN p.size<=bigP f.path:=Zan (ZT.2 ⟨p,D,rfl⟩);have I:=ZaG (n:=p.size) (by unfold bigF at h;omega);omega
theorem Zds (D:∀x∈l,fwide x.f) (h:bigL (l.map Fc.f)<=5000):smA (l.map Fc.f):=by
 refine ⟨λf A=> ?_,by have:=ZeE (l.map Fc.f);omega⟩;obtain ⟨x,F,rfl⟩:=ZT.1 A;exact ⟨Zil D h x F,ZjZ (Zx (ZeD A) h)⟩
theorem Zlr (h:smA L):smA (L.map outl):=by
 refine ⟨λf H=> ?_,by rw[Zl];exact h.2⟩;obtain ⟨g,I,rfl⟩:=ZT.1 H;obtain ⟨A,D⟩:=h.1 g I;exact ⟨⟨⟨⟨by show (-9223372036854775808:Int)<= -62135596800;decide,by show (-62135596800:Int)<=9223372036854775807;decide⟩,A.1.2⟩,Zh _,by intro e F;cases F⟩,D⟩
end
section
variable {c d q:Nat}
theorem ZlN {a b:Nat} (h:a<=140737488351232) (A:b<=140737488351232):wrap64 ((a:Int)+(b:Int))=(a:Int)+(b:Int):=UG _ ⟨by omega,by omega⟩
theorem ZlO {a b:Nat} (h:a<=140737488351232) (A:b<=140737488351232) (D:c<=140737488351232):wrap64 ((a:Int)+(b:Int)+(c:Int))=(a:Int)+(b:Int)+(c:Int):=UG _ ⟨by omega,by omega⟩
theorem ZmG {a b:Nat} (h:a<=140737488351232) (A:b<=140737488351232) (D:c<=140737488351232) (F:d<=140737488351232):wrap64 ((a:Int)+(b:Int)+(c:Int)+(d:Int))=(a:Int)+(b:Int)+(c:Int)+(d:Int):=UG _ ⟨by omega,by omega⟩
theorem ZmJ {a:Nat} (h:a<=1000000000000000):wrap64 (a:Int)=(a:Int):=UG _ ⟨by omega,by omega⟩
theorem ZmH {M:Int} (h:0<=M) (A:M<=9000):wrap64 (1+M)=1+M:=UG _ ⟨by omega,by omega⟩
theorem ZmI {M:Int} (h:q<=2000000000000000000) (A:0<=M) (D:M<=9000):wrap64 ((q:Int)+(1+M))=(q:Int)+(1+M):=UG _ ⟨by omega,by omega⟩
theorem IU (v:Value) (l:List Fc) (w:Wq) (hr:RFcs w v l) (gb:∀x∈l,RdC w x) (hn:l.length<=reachBytes) (hk:∀x∈l,fwide x.f):
 Calls prog 15 #[.agg #[v]] w λe w'=>e= .returned (nI (if 5000<bigL (l.map Fc.f) then 1 else 0))/\Ext w w':=by
 obtain ⟨A,c,rfl,gz,gw⟩:=hr.form;have HK:=gd hk;have gq:=gd gb;obtain ⟨R,hR⟩:∃R:Int,(if 5000<bigL (l.map Fc.f) then 1 else 0)=R:=⟨_,rfl⟩;rw[hR];have HR:=gd hR;unfold reachBytes at hn;clear gz gw hk gb hR;go_enter func15,ntmps15;go_wp2;go_loopw [3,13] (λu i wr=>∃(k n:Nat),k<=l.length/\i=nI k/\u=nI n/\n<=5000/\Hid (n=bigL ((l.take k).map Fc.f))/\Ext w wr) (λ_ i _=>l.length - (intOf i).toNat)
 case atStart=>exact ⟨0,0,Zh _,rfl,rfl,by decide,gd rfl,(Ext.refl _).alloc _⟩
 case round=>
  obtain ⟨k,n,hk,rfl,rfl,h8,hp,hx⟩:=hrel;by_cases hb:k<l.length
  ·obtain ⟨ad,c',hv,hg⟩:=(hr.ext hx).at hb;injection hv with hv1 hv2 hv3;subst hv1;clear hv2 hv3;have hi:l[k]∈l:=ZG hb;have gc:=(gq.out _ hi).ext hx;have hY:=HK.out _ hi;have Q:=Zim hb;rw[<-hp.out] at Q;have hZ:=ZlX l (k+1);obtain ⟨x,gk⟩:∃x,l[k]=x:=⟨_,rfl⟩;rw[gk] at hg gc hY Q;have hS:=gd Q;have hN:=gd hZ;clear gk Q hZ hi hp;obtain ⟨k1,k2,k3,k4,k5,k6,k7,k8⟩:=hY;unfold reachBytes at k2 k4 k5 k6 k7;have go:=gd k3;have gp:=gd k8;obtain ⟨xp,gF,⟨F,S,H,I,Y,D⟩⟩:=x;obtain ⟨hJ,hK⟩:=gc;dsimp only at*;obtain ⟨xA,xc,rfl, -, -⟩:=hJ.form;obtain ⟨xB,xd,rfl, -, -⟩:=hK.form;have gs:=gd hJ;have gt:=gd hK;have HX:=gd hx;obtain ⟨a0,a1,a2,a3,a4,a5⟩:=hg;dsimp only at a0 a1 a2 a3 a4 a5;have hA:(0:Int)<=(k:Int):=(by omega);have hV:(k:Int)<(l.length:Int):=(by omega);have ht:wrap64 ((S.size:Int)+(H.size:Int))=(S.size:Int)+(H.size:Int):=ZlN k4 k5;have hu:wrap64 ((S.size:Int)+(H.size:Int)+(I.size:Int))=(S.size:Int)+(H.size:Int)+(I.size:Int):=ZlO k4 k5 k6;clear k1 k3 k8 hJ hK;obtain ⟨S0,hH⟩:∃S0,S.size+H.size+I.size=S0:=⟨_,rfl⟩;have hP:=gd hH;have hz:(S.size:Int)+(H.size:Int)+(I.size:Int)=(S0:Int):=(by omega);obtain ⟨wB,gB⟩:∃wB:Wq,wB=wr:=⟨_,rfl⟩;subst gB;have gi:Ext w (wB.alloc (.cells #[.slice xA F.length xc,.string S,.string H,.string I,nI Y,.slice xB D.length xd] 55)):=hx.alloc _;have hT:=gd gi;have gl:Hid (∀w',Ext (wB.alloc (.cells #[.slice xA F.length xc,.string S,.string H,.string I,nI Y,.slice xB D.length xd] 55)) w'->w'.cell? ⟨wB.heap.size,5,none⟩=some (.slice xB D.length xd)):=gd λw' h=>h.boxed 5 _ rfl;clear gi;go_wp2;clear ht hu a0 a1 a2 a3 a4 a5;go_loopw [3,35] (λu i wr=>∃(j m:Nat),j<=F.length/\i=nI j/\u=nI m/\m<=14001+9001*j/\Hid (m=n+capN S0+bigP (F.take j))/\Ext (wB.alloc (.cells #[.slice xA F.length xc,.string S,.string H,.string I,nI Y,.slice xB D.length xd] 55)) wr) (λ_ i _=>F.length - (intOf i).toNat)
   case atStart=>exact ⟨0,n+capN S0,Zh _,rfl,Zz (Value.int .i64) (by unfold capN;omega),by have:=ZhT S0;omega,gd rfl,Ext.refl _⟩
   case round=>
    obtain ⟨j,m,hj,rfl,rfl,h0,ho,hw⟩:=hrel;by_cases ha:j<F.length
    ·obtain ⟨ae,c2,e2,hc⟩:=((gs.out.ext ((Ext.refl _).alloc _)).ext hw).at ha;injection e2 with e2 e2' e2'';subst e2;clear e2' e2'';have hm:=go.out _ (ZG ha);unfold reachBytes at hm;have Q:=Zin ha;obtain ⟨s,hs⟩:∃s,F[j]=s:=⟨_,rfl⟩;rw[hs] at hc hm Q;have gr:=gd Q;have hA:(0:Int)<=(j:Int):=(by omega);have hV:(j:Int)<(F.length:Int):=(by omega);clear hs Q;go_wp2;go_roundw
     case rel=>exact ⟨j+1,m+capN s.size,ha,by go_num,Zz (Value.int .i64) (by unfold capN;omega),by have:=ZhT s.size;omega,gd (by have:=ho.out;have:=gr.out;omega),hw⟩
     case measure=>simp[intOf];omega
    ·have gx:j=F.length:=(by omega);subst gx;rw[ZR (Zb _)] at ho;have b5:=gl.out _ hw;obtain ⟨wC,gC⟩:∃wC:Wq,wC=wr:=⟨_,rfl⟩;subst gC;have hD:=gd hw;go_wp2;go_loopw [3,49] (λu i wr=>∃(j q:Nat),j<=D.length/\i=nI j/\u=nI q/\q<=14001+9001*F.length/\Hid (q=m+bigEs (D.take j))/\Ext wC wr) (λ_ i _=>D.length - (intOf i).toNat)
     case atStart=>exact ⟨0,m,Zh _,rfl,rfl,by omega,gd rfl,Ext.refl _⟩
     case round=>
      obtain ⟨j,q,hW,rfl,rfl,ga,hl,hy⟩:=hrel;by_cases U:j<D.length
      ·obtain ⟨ae,c2,e2,hg⟩:=(((gt.out.ext ((Ext.refl _).alloc _)).ext hD.out).ext hy).at U;injection e2 with e2 e2' e2'';subst e2;clear e2' e2'';have hm:=gp.out _ (ZG U);have Q:=ZgP U;have hB:=Zkk D (j+1);obtain ⟨e,he⟩:∃e,D[j]=e:=⟨_,rfl⟩;rw[he] at hg hm Q;have hQ:=gd Q;have hO:=gd hB;clear he Q hB;obtain ⟨hF,V,Z,J,hU⟩:=e;obtain ⟨_,g1,g2,g3,g4⟩:=hm;unfold reachBytes at g1 g2 g3 g4;obtain ⟨p0,p1,p2,p3,p4⟩:=hg;dsimp only at g1 g2 g3 g4 p0 p1 p2 p3 p4;have hA:(0:Int)<=(j:Int):=(by omega);have hV:(j:Int)<(D.length:Int):=(by omega);obtain ⟨S1,hI⟩:∃S1,hF.size+V.size+Z.size+J.size=S1:=⟨_,rfl⟩;have hE:bigE ⟨hF,V,Z,J,hU⟩=capN S1:=(by rw[<-hI];rfl);have gD:(hF.size:Int)+(V.size:Int)+(Z.size:Int)+(J.size:Int)=(S1:Int):=(by omega);have hC:q<=2000000000000000000:=(by omega);have hL:=gd U;have gE:j<=1000000000000000:=(by omega);by_cases K:5000<q+capN S1
       ·have hh:(5000:Int)<(q:Int)+(1+min (S1:Int) 9000):=(by unfold capN at K;omega);have hG:R=1:=(by rw[<-HR.out,Zi];have h1:=hS.out;have h2:=hN.out;have h3:=hl.out;have h4:=ho.out;have h5:=hQ.out;have h6:=hO.out;rw[hE] at h5;have h7:bigF ⟨F,S,H,I,Y,D⟩=capN S0+bigP F+bigEs D:=(by unfold bigF bigH;rw[<-hP.out]);omega);subst hG;obtain ⟨M,hM⟩:∃M:Int,min (S1:Int) 9000=M:=⟨_,rfl⟩;have hd:0<=M:=(by omega);have hf:M<=9000:=(by omega);rw[hM] at hh;have HM:=gd hM;have X:S1<=1000000000000000:=(by omega);have gh:=Zz (Value.int .i64) (ZmJ X);have gf:=Zz (Value.int .i64) (ZmH hd hf);have gg:=Zz (Value.int .i64) (ZmI hC hd hf);clear K hE hI X;have ht:=Zz (Value.int .i64) (ZlN g1 g2);have hu:=Zz (Value.int .i64) (ZlO g1 g2 g3);have ge:=Zz (Value.int .i64) (ZmG g1 g2 g3 g4);clear g1 g2 g3 g4 k2 k4 k5 k6 k7 hn hH hz h0 ga h8 hW U ha hj hk hb;go_wp2;go_ret;exact ⟨rfl,(hT.out.trans hD.out).trans (hy.alloc _)⟩
       ·have hh:¬(5000:Int)<(q:Int)+(1+min (S1:Int) 9000):=(by unfold capN at K;omega);have gm:=gd K;have gn:=gd hE;obtain ⟨M,hM⟩:∃M:Int,min (S1:Int) 9000=M:=⟨_,rfl⟩;have hd:0<=M:=(by omega);have hf:M<=9000:=(by omega);rw[hM] at hh;have HM:=gd hM;have X:S1<=1000000000000000:=(by omega);have gh:=Zz (Value.int .i64) (ZmJ X);have gf:=Zz (Value.int .i64) (ZmH hd hf);have gg:=Zz (Value.int .i64) (ZmI hC hd hf);clear K hE hI X;have ht:=Zz (Value.int .i64) (ZlN g1 g2);have hu:=Zz (Value.int .i64) (ZlO g1 g2 g3);have ge:=Zz (Value.int .i64) (ZmG g1 g2 g3 g4);clear g1 g2 g3 g4 k2 k4 k5 k6 k7 hn hH hz h0 ga h8 hW U ha hj hk hb;go_wp2;clear ht hu ge gh gf gg;go_roundw
        case rel=>refine ⟨j+1,q+capN S1,hL.out,by go_num,Zz (Value.int .i64) (by have:=HM.out;unfold capN;omega),by have:=gm.out;omega,gd ?_,hy.alloc _⟩;have h3:=hl.out;have h5:=hQ.out;rw[gn.out] at h5;omega
        case measure=>simp[intOf];have:=hL.out;omega
      ·have hX:j=D.length:=(by omega);subst hX;rw[ZR (Zb _)] at hl;have h7:bigF ⟨F,S,H,I,Y,D⟩=capN S0+bigP F+bigEs D:=(by unfold bigF bigH;rw[<-hP.out]);have hq:q=bigL ((l.take (k+1)).map Fc.f):=(by have h1:=hS.out;have h3:=hl.out;have h4:=ho.out;rw[h7] at h1;omega);have HQ:=gd hq;have gj:=(hT.out.trans hD.out).trans hy;clear hq h7 hl;by_cases K:5000<q
       ·have hh:(5000:Int)<(q:Int):=(by omega);have hG:R=1:=(by rw[<-HR.out,Zi];have h2:=hN.out;have:=HQ.out;omega);subst hG;clear K;go_wp2;go_ret;exact ⟨rfl,gj⟩
       ·have hh:¬(5000:Int)<(q:Int):=(by omega);have gA:q<=5000:=(by omega);clear K;go_wp2;go_roundw
        case rel=>exact ⟨k+1,q,hb,by go_num,rfl,gA,HQ,gj⟩
        case measure=>simp[intOf];omega
  ·have gy:k=l.length:=(by omega);subst gy;have h9:=hp.out;rw[ZR (Zb _)] at h9;have gu:R=0:=(by rw[<-HR.out,Zf];omega);subst gu;clear h9 hp;go_wp2;go_ret;exact ⟨rfl,hx⟩
end
section
variable {L:List Fd} {c n:Nat}
theorem Zdf {A:Option Addr} (w:Wq) (h:ArcG w A n c L) (K:smA L):
 Calls prog 18 #[.agg #[.slice A n c]] w λe w'=>∃D H F,e= .returned (.agg #[.slice D H F])/\ArcG w' D H F (L.map outl)/\Ext w w':=by
 obtain ⟨lc,rfl,rfl,M,Q⟩:=h;refine Za (Zbx _ lc w M Q (λx I=>by have:=(K.1 x.f (Yc I)).1.1.2;omega) (by have:=K.2;rw[Zl] at this;omega)) ?_;rintro e w' ⟨D,H,F,J,rfl,⟨R,S,U,V⟩,I⟩;exact ⟨D,H,F,rfl,⟨J,R,S,U,V⟩,I⟩
theorem Zly (a b:List UInt8):((str a).toList==(str b).toList)=decide (a=b):=by rw[Zeo,Yb]
theorem Zi6 (vp:Value) (lp:List Fc) (vq:Value) (V:List Fc) (w:Wq) (hE:Env w) (hu:NmTabs w) (ho:RFcs w vp lp) (hw:∀y∈lp,RdC w y) (hL:lp.length<=reachBytes) (hx:∀y∈lp,fwide y.f) (hp:RFcs w vq V) (hA:∀y∈V,RdC w y) (hM:V.length<=reachBytes) (hB:∀y∈V,fwide y.f):
 Calls prog 4 #[.agg #[vp],.agg #[vq]] w λe w'=>e= .returned (.bool true)/\Ext w w':=by
 obtain ⟨pA,pc,hW, -, -⟩:=ho.form;obtain ⟨qA,qc,hX, -, -⟩:=hp.form;subst hW;subst hX;obtain ⟨W1,hv⟩:∃W1,(((w.alloc (.cells #[.slice pA lp.length pc] 31))).alloc (.cells #[.slice qA V.length qc] 31))=W1:=⟨_,rfl⟩;have M:Ext w W1:=by rw[<-hv];exact ((Ext.refl _).alloc _).alloc _
 have cp:W1.cell? ⟨w.heap.size,0,none⟩=some (.slice pA lp.length pc):=by rw[<-hv];exact ((Ext.refl _).alloc (.cells #[.slice qA V.length qc] 31)).boxed 0 _ rfl
 have cq:W1.cell? ⟨w.heap.size+1,0,none⟩=some (.slice qA V.length qc):=by have:=Ext.boxed (w:=(w.alloc (.cells #[.slice pA lp.length pc] 31))) (Ext.refl ((w.alloc (.cells #[.slice pA lp.length pc] 31)).alloc (.cells #[.slice qA V.length qc] 31))) 0 (.slice qA V.length qc) rfl;simp only[Zs] at this;rw[hv] at this;exact this
 have HC:Hid (∀W':Wq,Ext W1 W'->W'.cell? ⟨w.heap.size,0,none⟩=some (.slice pA lp.length pc)/\W'.cell? ⟨w.heap.size+1,0,none⟩=some (.slice qA V.length qc)):=gd λW' h=>⟨h.cell cp,h.cell cq⟩;have hf:=gd M;have hc:=gd (λ(W':Wq) (h:Ext W1 W')=>Zez W' (hE.ext (M.trans h)) (hu.ext (M.trans h)));have X:=gd (λ(W':Wq) (h:Ext W1 W')=>IU _ lp W' (ho.ext (M.trans h)) (λy hy=>(hw y hy).ext (M.trans h)) hL hx);have ha:=gd (λ(W':Wq) (h:Ext W1 W')=>IU _ V W' (hp.ext (M.trans h)) (λy hy=>(hA y hy).ext (M.trans h)) hM hB);have hI:ArcG w pA lp.length pc (lp.map Fc.f):=⟨lp,rfl,rfl,ho,hw⟩;have hJ:ArcG w qA V.length qc (V.map Fc.f):=⟨V,rfl,rfl,hp,hA⟩;have hl:=gd (λ(W':Wq) (h:Ext W1 W')=>hI.ext (M.trans h));have hm:=gd (λ(W':Wq) (h:Ext W1 W')=>hJ.ext (M.trans h));have J:¬5000<bigL (lp.map Fc.f)->smA (lp.map Fc.f):=λh=>Zds hx (by omega);have R:¬5000<bigL (V.map Fc.f)->smA (V.map Fc.f):=λh=>Zds hB (by omega);have HE:=gd (λ(W':Wq) (h:Ext W1 W')=>hE.ext (M.trans h));have hD:=gd (λ(W':Wq) (h:Ext W1 W')=>hu.ext (M.trans h));obtain ⟨P,hP⟩:∃P,lp.map Fc.f=P:=⟨_,rfl⟩;obtain ⟨Q,hQ⟩:∃Q,V.map Fc.f=Q:=⟨_,rfl⟩;rw[hP] at J;rw[hQ] at R;simp only[hP] at X hl;simp only[hQ] at ha hm;clear hP hQ hI hJ ho hw hL hx hp hA hM hB hE hu M;by_cases h1:5000<bigL P
 ·simp only[Zi h1] at X;clear h1 J R;go_enter func4,ntmps4
  go_wp2_with (first|(go_at_call 15;(have Z:=X.out _ (Ext.refl _));(with_reducible refine Za Z ?_);clear Z;rintro e w1 ⟨rfl,F⟩)|(go_at_call 11;(have Z:=hc.out _ F);(with_reducible refine Za Z ?_);clear Z;rintro e w2 ⟨rfl,U⟩))
  go_ret;exact ⟨rfl,hf.out.trans (F.trans U)⟩
 have J:=J h1;have he:=gd (λ(W':Wq) (h:Ext W1 W')=>ZhU W' (hl.out W' h) J);simp only[Zf h1] at X;by_cases h2:5000<bigL Q
 ·simp only[Zi h2] at ha;clear h1 h2 J R;go_enter func4,ntmps4
  go_wp2_with (first|(go_at_call 15;first|(with_reducible refine Za (X.out _ (Ext.refl _)) ?_;rintro e w1 ⟨rfl,F⟩;obtain ⟨d0,d1⟩:=HC.out _ F)|(with_reducible refine Za (ha.out _ F) ?_;rintro e w2 ⟨rfl,U⟩))|(go_at_call 11;(have Z:=hc.out _ (F.trans U));(with_reducible refine Za Z ?_);clear Z;rintro e w3 ⟨rfl,Y⟩))
  go_ret;exact ⟨rfl,hf.out.trans ((F.trans U).trans Y)⟩
 have R:=R h2;have hk:=gd (λ(W':Wq) (h:Ext W1 W')=>ZhU W' (hm.out W' h) R);simp only[Zf h2] at ha;clear h1 h2;by_cases h3:okA P=true
 case neg=>
  simp only[Zf h3] at he;clear h3 J R;go_enter func4,ntmps4
  go_wp2_with (first|(go_at_call 15;first|(with_reducible refine Za (X.out _ (Ext.refl _)) ?_;rintro e w1 ⟨rfl,F⟩;obtain ⟨d0,d1⟩:=HC.out _ F)|(with_reducible refine Za (ha.out _ F) ?_;rintro e w2 ⟨rfl,U⟩;have H:=F.trans U;obtain ⟨e0,e1⟩:=HC.out _ H))|(go_at_call 16;(have Z:=he.out _ H);(with_reducible refine Za Z ?_);clear Z;rintro e w3 ⟨rfl,Y⟩)|(go_at_call 11;(have Z:=hc.out _ (H.trans Y));(with_reducible refine Za Z ?_);clear Z;rintro e w4 ⟨rfl,hb⟩))
  go_ret;exact ⟨rfl,hf.out.trans ((H.trans Y).trans hb)⟩
 have hn:=gd (λ(W':Wq) (h:Ext W1 W')=>Zes W' (HE.out W' h) (hD.out W' h) (hl.out W' h) J);simp only[Zi h3] at he hn;by_cases h4:okA Q=true
 case neg=>
  simp only[Zf h4] at hk;clear h3 h4 J R hn;go_enter func4,ntmps4
  go_wp2_with (first|(go_at_call 15;first|(with_reducible refine Za (X.out _ (Ext.refl _)) ?_;rintro e w1 ⟨rfl,F⟩;obtain ⟨d0,d1⟩:=HC.out _ F)|(with_reducible refine Za (ha.out _ F) ?_;rintro e w2 ⟨rfl,U⟩;have H:=F.trans U;obtain ⟨e0,e1⟩:=HC.out _ H))|(go_at_call 16;first|(with_reducible refine Za (he.out _ H) ?_;rintro e w3 ⟨rfl,Y⟩;have I:=H.trans Y;obtain ⟨g0,g1⟩:=HC.out _ I)|(with_reducible refine Za (hk.out _ I) ?_;rintro e w4 ⟨rfl,hb⟩))|(go_at_call 11;(have Z:=hc.out _ (I.trans hb));(with_reducible refine Za Z ?_);clear Z;rintro e w5 ⟨rfl,hC⟩))
  go_ret;exact ⟨rfl,hf.out.trans ((I.trans hb).trans hC)⟩
 have ht:=gd (λ(W':Wq) (h:Ext W1 W')=>Zes W' (HE.out W' h) (hD.out W' h) (hm.out W' h) R);simp only[Zi h4] at hk ht;have hT:=gd (λ(W':Wq) (h:Ext W1 W')=>Zdf W' (hl.out W' h) J);have hU:=gd (λ(W':Wq) (h:Ext W1 W')=>Zdf W' (hm.out W' h) R);have hR:=gd (λ(W':Wq) (A B:Option Addr) (n c m d:Nat) (g:ArcG W' A n c (P.map outl)) (k:ArcG W' B m d (Q.map outl))=>ZnF W' g k (Zlr J));have hs:Hid (decide (docW (encP P)=docW (encP Q))=decide (P.map outl=Q.map outl)):=gd (by
  have h:=Zkt h3 h4;by_cases hd:P.map outl=Q.map outl
  ·rw[YD hd,YD (h.2 hd)]
  ·rw[Yd hd,Yd λe=>hd (h.1 e)])
 obtain ⟨DP,hF⟩:∃DP,docW (encP P)=DP:=⟨_,rfl⟩;obtain ⟨DQ,hG⟩:∃DQ,docW (encP Q)=DQ:=⟨_,rfl⟩;simp only[hF] at hn hs;simp only[hG] at ht hs;clear h3 h4 J R hF hG;go_enter func4,ntmps4
 go_wp2_with (first|(go_at_call 15;first|(with_reducible refine Za (X.out _ (Ext.refl _)) ?_;rintro e w1 ⟨rfl,F⟩;obtain ⟨d0,d1⟩:=HC.out _ F)|(with_reducible refine Za (ha.out _ F) ?_;rintro e w2 ⟨rfl,U⟩;have H:=F.trans U;obtain ⟨e0,e1⟩:=HC.out _ H))|(go_at_call 16;first|(with_reducible refine Za (he.out _ H) ?_;rintro e w3 ⟨rfl,Y⟩;have I:=H.trans Y;obtain ⟨g0,g1⟩:=HC.out _ I)|(with_reducible refine Za (hk.out _ I) ?_;rintro e w4 ⟨rfl,hb⟩;have hh:=I.trans hb;obtain ⟨i0,i1⟩:=HC.out _ hh))|(go_at_call 17;first|(with_reducible refine Za (hn.out _ hh) ?_;rintro e w5 ⟨rfl,hC⟩;have hi:=hh.trans hC;obtain ⟨j0,j1⟩:=HC.out _ hi)|(with_reducible refine Za (ht.out _ hi) ?_;rintro e w6 ⟨rfl,hY⟩;have hr:=hi.trans hY;obtain ⟨k0,k1⟩:=HC.out _ hr)))
 refine rN ?_;change wpAny _ _ _ _ _ _ _ (World.drew _);have hO:=hr.drew;refine Ym (λw'=>Ext W1 w') ?_;refine sS 0 λK hK=> ?_;go_simp;go_at_call 11
 with_reducible refine Za (hc.out _ hO) ?_
 rintro e w8 ⟨rfl,hZ⟩;have D:=hO.trans hZ;refine hK _ _ D ?_;clear hK K;refine tG 1 (.bool true) D ?_;refine tG 2 (nI 0) D ?_;refine tG 3 (.bool true) D ?_;refine tG 4 (.bool true) D ?_;go_simp;refine tG 5 (.bool true) D ?_;refine tG 6 (nI 0) D ?_;refine tG 7 (.bool true) D ?_;refine tG 8 (.bool true) D ?_;go_simp;refine tG 9 (.bool true) D ?_;refine tG 10 (.string (str DP)) D ?_;refine tG 11 (.string (str DQ)) D ?_;refine tG 12 (.bool ((str DP).toList==(str DQ).toList)) D ?_;refine tS 13 (.agg #[.slice pA lp.length pc]) rfl (λw' hS=>by have q0:=(HC.out _ hS).1;go_simp) D ?_;refine tS 15 (.agg #[.slice qA V.length qc]) rfl (λw' hS=>by have q0:=(HC.out _ hS).2;go_simp) D ?_;go_simp;refine sS 14 λK hK=> ?_;go_simp;go_at_call 18
 with_reducible refine Za (hT.out _ D) ?_
 rintro e w9 ⟨A9,n9,c9,rfl,hV,h0⟩;have hj:=D.trans h0;refine hK _ _ hj ?_;clear hK K;refine sS 16 λK hK=> ?_;go_simp;go_at_call 18
 with_reducible refine Za (hU.out _ hj) ?_
 rintro e h8 ⟨h5,h7,h6,rfl,hH,hq⟩;have hg:=hj.trans hq;refine hK _ _ hg ?_;clear hK K;refine sS 17 λK hK=> ?_;go_simp;go_at_call 14
 with_reducible refine Za (hR.out _ _ _ _ _ _ _ (hV.ext hq) hH) ?_
 rintro e h9 ⟨rfl,hN⟩;have S:=hg.trans hN;refine hK _ _ S ?_;clear hK K;refine tS 18 (.bool (((str DP).toList==(str DQ).toList)==decide (P.map outl=Q.map outl))) rfl (λw' hS=>by go_simp) S ?_;refine tS 19 (.bool (((str DP).toList==(str DQ).toList)==decide (P.map outl=Q.map outl))) rfl (λw' hS=>by go_simp) S ?_;go_simp;refine sS 20 λK hK=> ?_;go_simp;refine hK _ _ S ?_;clear hK K;refine sE ?_;go_wp2;go_ret;refine ⟨?_,hf.out.trans S⟩;rw[Zly,hs.out];simp
end
section
variable {P:Program} {W:World} {e:TypeId} {g:Nat} {α:Type}
abbrev laidAll : List (String × DataW Unit) := [("math/bits.deBruijn32tab", Rows.laid_math_bits_deBruijn32tab), ("math/bits.deBruijn64tab", Rows.laid_math_bits_deBruijn64tab), ("internal/strconv.uint64pow10", Rows.laid_internal_strconv_uint64pow10), ("unicode/utf8.acceptRanges", Rows.laid_unicode_utf8_acceptRanges), ("feedvault/text.startRanges", Rows.laid_feedvault_text_startRanges), ("feedvault/text.moreRanges", Rows.laid_feedvault_text_moreRanges), ("feedvault/jsonstring.letters", Rows.laid_feedvault_jsonstring_letters), ("unicode/utf8.first", Rows.laid_unicode_utf8_first)]
theorem Zhb:Rows.laid_unicode_utf8_first=Lib.firstData:=by kernel_rfl
theorem Zfu:(Rows.laid_unicode_utf8_acceptRanges:DataW Unit)=Lib.acceptData:=by kernel_rfl
theorem ZkS:(Rows.laid_internal_strconv_uint64pow10:DataW Unit)=Lib.tabData .u64 Lib.pow10Tab:=by kernel_rfl
theorem ZkR:(Rows.laid_feedvault_jsonstring_letters:DataW Unit)= .agg [.agg [.lit (.int .u8 98),.lit (.int .u8 8)],.agg [.lit (.int .u8 102),.lit (.int .u8 12)],.agg [.lit (.int .u8 110),.lit (.int .u8 10)],.agg [.lit (.int .u8 114),.lit (.int .u8 13)],.agg [.lit (.int .u8 116),.lit (.int .u8 9)]]:=rfl
theorem Zno : prog.globalNamed "feedvault/jsonstring.letters" = some 6 := by kernel_rfl
theorem gDb : prog.globalNamed "math/bits.deBruijn64tab" = some 8 := by kernel_rfl
theorem Q9 {n:String} {cs:Array Value} (D:P.globalNamed n=some g) (h:W.var? P n=some cs):∃t fr,W.heap[g]? =some (.cells cs t fr):=by
 unfold World.var? at h;rw[D] at h;simp only[Option.bind_some] at h;split at h
 ·rename_i A t fr F;injection h with h;subst h;exact ⟨t,fr,F⟩
 ·cases h
theorem Zm6 {l:List α} (h:l.length=10):∃a b c d e f g i j k,l= [a,b,c,d,e,f,g,i,j,k]:=by
 match l,h with
 | [a,b,c,d,e,f,g,i,j,k],_=>exact ⟨a,b,c,d,e,f,g,i,j,k,rfl⟩
theorem ZeV (h:laidMet prog laidAll W):Env W:=by
 have r5 := Qb h (n := "unicode/utf8.first") (.tail _ (.tail _ (.tail _ (.tail _ (.tail _ (.tail _ (.tail _ (.head _))))))))
 have r3 := Qb h (n := "unicode/utf8.acceptRanges") (.tail _ (.tail _ (.tail _ (.head _))))
 have r2 := Qb h (n := "internal/strconv.uint64pow10") (.tail _ (.tail _ (.head _)))
 have r4 := Qb h (n := "feedvault/jsonstring.letters") (.tail _ (.tail _ (.tail _ (.tail _ (.tail _ (.tail _ (.head _)))))))
 have r1 := Qb h (n := "math/bits.deBruijn64tab") (.tail _ (.head _))
 rw[Zhb] at r5;rw[Zfu] at r3;rw[ZkS] at r2;rw[ZkR] at r4;refine ⟨?_,?_,?_,?_⟩
 ·exact utf8Tabs_of_reads (ρ:=lays197_ren) {lays197 with} ⟨by kernel_rfl,by kernel_rfl,by kernel_rfl,by kernel_rfl,by kernel_rfl,by kernel_rfl,by kernel_rfl⟩ r5 r3
 ·obtain ⟨g,t,cs,fuel,p,hg,hty,hvar,hd⟩:=r2;obtain rfl:=YX (Znp.symm.trans hg);obtain rfl:=YX ((show (prog.globals[5]?).map (·.type)=some 298 by kernel_rfl).symm.trans hty);unfold Lib.TabIs;rw[hvar,<-Lib.cells_of_tab underlying298 underlying144 (by kernel_rfl) (by kernel_rfl) hd]
 ·obtain ⟨g,t,cs,fuel,p,hg,hty,hvar,hd⟩:=r1;obtain rfl:=YX (gDb.symm.trans hg);obtain ⟨t',fr,hh⟩:=Q9 gDb hvar;have:=(ZI.1 hh).1;omega
 ·obtain ⟨g,t,cs,fuel,p,hg,hty,hvar,hd⟩:=r4;obtain rfl:=YX (Zno.symm.trans hg);obtain rfl:=YX ((show (prog.globals[6]?).map (·.type)=some 301 by kernel_rfl).symm.trans hty);obtain ⟨t',fr,hh⟩:=Q9 Zno hvar;have c2:prog.cellsOf 300=2:=by kernel_rfl
  have c10:prog.cellsOf 301=10:=by kernel_rfl
  obtain ⟨xs,m,hf,hx,hlen,hxl,hel⟩:=DataW.trod_array underlying301 hd;rw[c10] at hlen;obtain ⟨l⟩:=cs;obtain ⟨a,b,c,d,e,f,g,i,j,k,hl⟩:=Zm6 hlen;have hl':l= [a,b,c,d,e,f,g,i,j,k]:=hl;subst hl';have part:∀(q:Nat) (z1 z2:Int),q<5->
   ([.agg [.lit (.int .u8 98),.lit (.int .u8 8)],.agg [.lit (.int .u8 102),.lit (.int .u8 12)],.agg [.lit (.int .u8 110),.lit (.int .u8 10)],.agg [.lit (.int .u8 114),.lit (.int .u8 13)],.agg [.lit (.int .u8 116),.lit (.int .u8 9)]]:List (DataW Unit))[q]? =some (Lib.tabData .u8 [z1,z2])->
   (([a,b,c,d,e,f,g,i,j,k]:List Value).drop (q*2)).take 2= [.int .u8 z1,.int .u8 z2]:=by
   intro q z1 z2 hq hz
   obtain ⟨fuel',dd,pp,hdi,he⟩:=Lib.array_elem underlying301 hd q hq
   obtain rfl:=YX (hz.symm.trans hdi)
   rw[c2] at he
   have:=Lib.cells_of_tab underlying300 underlying5 (by kernel_rfl) c2 he
   simpa using this
  have p0:=part 0 98 8 (by decide) rfl;have p1:=part 1 102 12 (by decide) rfl;have p2:=part 2 110 10 (by decide) rfl;have p3:=part 3 114 13 (by decide) rfl;have p4:=part 4 116 9 (by decide) rfl;simp at p0 p1 p2 p3 p4;obtain ⟨rfl,rfl⟩:=p0;obtain ⟨rfl,rfl⟩:=p1;obtain ⟨rfl,rfl⟩:=p2;obtain ⟨rfl,rfl⟩:=p3;obtain ⟨rfl,rfl⟩:=p4;exact ⟨t',fr,hh⟩
theorem ZfT:∀(L:List (Nat×Nat)) (l:List Value),l.length=L.length*2->(∀(q:Nat) (h:q<L.length),(l.drop (q*2)).take 2= [.int .i32 (L[q].1:Nat),.int .i32 (L[q].2:Nat)])->l=L.flatMap λp=> [Value.int .i32 (p.1:Nat),Value.int .i32 (p.2:Nat)]
 | [],l,hl,_=>by
  rw[ZP,Xl] at hl
  exact Zv hl
 |p::t,l,hl,h=>by
  have A:=h 0 (ZgG _)
  rw[Xl,J0] at A
  rw[Ze] at hl
  have ih:=ZfT t (l.drop 2) (by rw[Zk];omega) (λq F=>by
   have D:=h (q+1) (Nat.succ_lt_succ F)
   rw[List.drop_drop]
   rw[show 2+q*2=(q+1)*2 by omega]
   exact D)
  rw[<-YK 2 l,A,ih,List.flatMap_cons]
  rfl
theorem ZfU {nm:String} {t:TypeId} {L:List (Nat×Nat)} (U:prog.globalNamed nm=some g) (K:(prog.globals[g]?).map (·.type)=some t) (X:prog.underlying t=some (.array L.length e)) (Y:prog.underlying e=some (.array 2 21)) (R:prog.cellsOf e=2) (ct:prog.cellsOf t=L.length*2)
 (h:Lib.VarReads prog W nm (.agg (L.map λp=> .agg [.lit (.int .i32 (p.1:Nat)),.lit (.int .i32 (p.2:Nat))]))):∃ty fr,W.heap[g]? =some (.cells (pairCells L) ty fr):=by
 obtain ⟨g',t',cs,fuel,p,J,M,H,S⟩:=h;obtain rfl:=YX (U.symm.trans J);obtain rfl:=YX (K.symm.trans M);obtain ⟨ty,fr,hh⟩:=Q9 U H;obtain ⟨xs,m,hf,hx,A,ha,Z⟩:=DataW.trod_array X S;rw[ct] at A;have Q:=ZfT L cs.toList A λq V=>by obtain ⟨I,dd,pp,F,D⟩:=Lib.array_elem X S q V;rw[YE,Zm V] at F;obtain rfl:=YX F;rw[R] at D;exact Lib.cells_of_tab (zs:= [(L[q].1:Nat),(L[q].2:Nat)]) Y underlying21 (by kernel_rfl) R D
 refine ⟨ty,fr,?_⟩;rw[hh];have:cs=pairCells L:=by unfold pairCells;rw[<-Q]
 rw[this]
theorem Zhc:(Rows.laid_feedvault_text_startRanges:DataW Unit)= .agg (startL.map λp=> .agg [.lit (.int .i32 (p.1:Nat)),.lit (.int .i32 (p.2:Nat))]):=rfl
theorem Zi3:(Rows.laid_feedvault_text_moreRanges:DataW Unit)= .agg (moreL.map λp=> .agg [.lit (.int .i32 (p.1:Nat)),.lit (.int .i32 (p.2:Nat))]):=rfl
theorem Zhr (h:laidMet prog laidAll W):NmTabs W:=by
 have r1 := Qb h (n := "feedvault/text.startRanges") (.tail _ (.tail _ (.tail _ (.tail _ (.head _)))))
 have r2 := Qb h (n := "feedvault/text.moreRanges") (.tail _ (.tail _ (.tail _ (.tail _ (.tail _ (.head _))))))
 rw[Zhc] at r1;rw[Zi3] at r2;exact ⟨ZfU (by kernel_rfl) (by kernel_rfl) (t:=286) (e:=284) underlying286 underlying284 (by kernel_rfl) (by kernel_rfl) r1,ZfU (by kernel_rfl) (by kernel_rfl) (t:=285) (e:=284) underlying285 underlying284 (by kernel_rfl) (by kernel_rfl) r2⟩
theorem ZnG:ownKnob prog.godebug=none:=by kernel_rfl
theorem Zft:laidOutB prog=true:=by kernel_rfl
end
section
variable {P:Program} {cap fuel k n:Nat} {cs:List Value} {e:TypeId} {v:Value} {w:World} {α:Type}
theorem ZmN {cs:Array α} (h:cs.size=5):∃c0 c1 c2 c3 c4,cs=#[c0,c1,c2,c3,c4]:=by
 obtain ⟨l⟩:=cs
 match l,h with
 | [c0,c1,c2,c3,c4],_=>exact ⟨c0,c1,c2,c3,c4,rfl⟩
instance openEnt:Inhabited Ent:=⟨zeroE⟩
instance openFc:Inhabited Fc:=⟨⟨sN,sN,zeroF⟩⟩
theorem ZcM (D:0<k):∀(css:List (List α)),(∀c∈css,c.length=k)->∀j,css.flatten[j]? =(css[j / k]?).bind λc=>c[j % k]?
 | [],_,j=>by simp
 |c::t,h,j=>by
  have F:c.length=k:=h c (by simp)
  rw[X8]
  by_cases A:j<k
  ·rw[Y5 (by omega),Nat.div_eq_of_lt A,Nat.mod_eq_of_lt A]
   rfl
  ·rw[Yp (by omega),F,ZcM D t (λx H=>h x (by simp[H]))]
   have e1:j / k=(j - k) / k+1:=by
    have:=Nat.div_eq_sub_div D (show k<=j by omega)
    omega
   have e2:j % k=(j - k) % k:=Nat.mod_eq_sub_mod (by omega)
   rw[e1,e2,List.getElem?_cons_succ]
theorem Qy (K:0<k) {a:Addr} {len:Nat} (css:Nat->List Value) (M:len<=cap) (Q:cap<=maxLen)
 (h:∀i,i<len->(css i).length=k/\∀j,j<k->w.cell? ((a.add (i*k)).add j)=(css i)[j]?):RSl w k (.slice (some a) len cap) len ((List.range len).map css).flatten:=by
 have A:∀c∈(List.range len).map css,c.length=k:=by intro c R;obtain ⟨i,F,rfl⟩:=ZT.1 R;exact (h i (XO.1 F)).1
 refine ⟨?_,some a,cap,rfl,M,Q,(λe=>by cases e),λj u D=>⟨a,rfl,?_⟩⟩
 ·clear Q M;have J:∀(l:List (List Value)),(∀c∈l,c.length=k)->l.flatten.length=l.length*k:=by
   intro l
   induction l with
   |nil=>intro _;simp
   |cons c t ih=>intro h;rw[X8,Zc,h c (by simp),ih λx S=>h x (by simp[S]),Ze,Nat.succ_mul];omega
  rw[J _ A];simp
 ·rw[ZcM K _ A] at D;by_cases F:j / k<len
  ·have e:((List.range len).map css)[j / k]? =some (css (j / k)):=(by simp[F]);rw[e] at D;have I:(css (j / k))[j % k]? =some u:=D;have H:=(h (j / k) F).2 (j % k) (Nat.mod_lt _ K);rw[UX] at H;have e2:j / k*k+j % k=j:=(by rw[QP];exact Nat.div_add_mod j k);rw[e2] at H;rw[H,I]
  ·have e:((List.range len).map css)[j / k]? =none:=(by simp;omega);rw[e] at D;cases D
theorem J9 {H:Type}:∀{l:List (DataW H)} {d:DataW H},d∈l->n∈d.weights P e->n∈DataW.weightsAll P e l
 | [],_,h,_=>by simp at h
 |x::t,d,h,hn=>by
  unfold DataW.weightsAll
  rcases ZJ.1 h with h|h
  ·subst h;exact Xw _ hn
  ·exact List.mem_append_right _ (J9 h hn)
section
variable {H:Type} {enc:TypeId×Value→H} {P:Program} {w:World} {base:Nat} {spare:Nat→Bool} {held:Bool}
theorem ZnA {t:TypeId} {F I J K M:Field} {x:DataW H×List MemPlace} (Z:P.underlying t=some (.struct #[F,I,J,K,M])) (D:oneCellFields P #[F,I,J,K,M]=true) (Y:P.cellsOf t=5)
 (h:DataW.trod enc P w base spare held fuel t cs=some x):
 ∃(v0 v1 v2 v3 v4:Value) (R y1 y2 S U:DataW H×List MemPlace) (n:Nat),cs= [v0,v1,v2,v3,v4]/\x.1= .agg [R.1,y1.1,y2.1,S.1,U.1]/\
  DataW.trod enc P w base spare held n F.type [v0]=some R/\DataW.trod enc P w base spare held n I.type [v1]=some y1/\DataW.trod enc P w base spare held n J.type [v2]=some y2/\DataW.trod enc P w base spare held n K.type [v3]=some S/\DataW.trod enc P w base spare held n M.type [v4]=some U:=by
 obtain ⟨xs,n,_,hx,X,Q,A⟩:=DataW.trod_struct Z h;obtain ⟨o0,k0⟩:=hone_of D 0 F rfl;obtain ⟨o1,k1⟩:=hone_of D 1 I rfl;obtain ⟨o2,k2⟩:=hone_of D 2 J rfl;obtain ⟨o3,k3⟩:=hone_of D 3 K rfl;obtain ⟨o4,k4⟩:=hone_of D 4 M rfl;rw[Y] at X;obtain ⟨c0,c1,c2,c3,c4,V⟩:=ZmN (cs:=cs.toArray) (by simpa using X);have V:cs= [c0,c1,c2,c3,c4]:=by simpa using Zz Array.toList V
 subst V
 match xs,Q with
 | [R,y1,y2,S,U],_=>exact ⟨c0,c1,c2,c3,c4,R,y1,y2,S,U,n,rfl,by rw[hx];rfl,by simpa [Value.cells,o0,k0] using A 0 F rfl,by simpa [Value.cells,o1,k1] using A 1 I rfl,by simpa [Value.cells,o2,k2] using A 2 J rfl,by simpa [Value.cells,o3,k3] using A 3 K rfl,by simpa [Value.cells,o4,k4] using A 4 M rfl⟩
theorem ZmO {cs:Array α} (h:cs.size=6):∃c0 c1 c2 c3 c4 c5,cs=#[c0,c1,c2,c3,c4,c5]:=by
 obtain ⟨l⟩:=cs
 match l,h with
 | [c0,c1,c2,c3,c4,c5],_=>exact ⟨c0,c1,c2,c3,c4,c5,rfl⟩
theorem ZnB {t:TypeId} {F I J K M Q:Field} {x:DataW H×List MemPlace} (hs:P.underlying t=some (.struct #[F,I,J,K,M,Q])) (D:oneCellFields P #[F,I,J,K,M,Q]=true) (hC:P.cellsOf t=6)
 (h:DataW.trod enc P w base spare held fuel t cs=some x):
 ∃(v0 v1 v2 v3 v4 v5:Value) (S y1 y2 U V X:DataW H×List MemPlace) (n:Nat),cs= [v0,v1,v2,v3,v4,v5]/\x.1= .agg [S.1,y1.1,y2.1,U.1,V.1,X.1]/\
  DataW.trod enc P w base spare held n F.type [v0]=some S/\DataW.trod enc P w base spare held n I.type [v1]=some y1/\DataW.trod enc P w base spare held n J.type [v2]=some y2/\DataW.trod enc P w base spare held n K.type [v3]=some U/\DataW.trod enc P w base spare held n M.type [v4]=some V/\DataW.trod enc P w base spare held n Q.type [v5]=some X:=by
 obtain ⟨xs,n,_,hx,Z,R,A⟩:=DataW.trod_struct hs h;obtain ⟨o0,k0⟩:=hone_of D 0 F rfl;obtain ⟨o1,k1⟩:=hone_of D 1 I rfl;obtain ⟨o2,k2⟩:=hone_of D 2 J rfl;obtain ⟨o3,k3⟩:=hone_of D 3 K rfl;obtain ⟨o4,k4⟩:=hone_of D 4 M rfl;obtain ⟨o5,k5⟩:=hone_of D 5 Q rfl;rw[hC] at Z;obtain ⟨c0,c1,c2,c3,c4,c5,Y⟩:=ZmO (cs:=cs.toArray) (by simpa using Z);have Y:cs= [c0,c1,c2,c3,c4,c5]:=by simpa using Zz Array.toList Y
 subst Y
 match xs,R with
 | [S,y1,y2,U,V,X],_=>exact ⟨c0,c1,c2,c3,c4,c5,S,y1,y2,U,V,X,n,rfl,by rw[hx];rfl,by simpa [Value.cells,o0,k0] using A 0 F rfl,by simpa [Value.cells,o1,k1] using A 1 I rfl,by simpa [Value.cells,o2,k2] using A 2 J rfl,by simpa [Value.cells,o3,k3] using A 3 K rfl,by simpa [Value.cells,o4,k4] using A 4 M rfl,by simpa [Value.cells,o5,k5] using A 5 Q rfl⟩
end
section
variable {H:Type} {enc:TypeId×Value→H} {P:Program} {w:World} {base:Nat} {spare:Nat→Bool} {held:Bool}
theorem Znz {t:TypeId} {A:Field} {x:DataW H×List MemPlace} (Q:P.underlying t=some (.struct #[A])) (I:oneCellFields P #[A]=true) (M:P.cellsOf t=1)
 (h:DataW.trod enc P w base spare held fuel t cs=some x):
 ∃(v0:Value) (J:DataW H×List MemPlace) (n:Nat),cs= [v0]/\x.1= .agg [J.1]/\DataW.trod enc P w base spare held n A.type [v0]=some J:=by
 obtain ⟨xs,n,_,R,K,F,D⟩:=DataW.trod_struct Q h;obtain ⟨U,S⟩:=hone_of I 0 A rfl;rw[M] at K
 match cs,K,xs,F with
 | [c0],_,[J],_=>exact ⟨c0,J,n,rfl,by rw[R];rfl,by simpa [Value.cells,U,S] using D 0 A rfl⟩
end
theorem Ef {n:Int} (h:(Lit.int .i64 n).wf=true):i64ok n:=by
 have A:(decide (IntKind.min .i64<=n) && decide (n<=IntKind.max .i64))=true:=h;rw[ZF] at A;exact ⟨Yt A.1,Yt A.2⟩
section
variable {H:Type} {enc:TypeId×Value→H} {w:World}
theorem Zlb {x:DataW H×List MemPlace} (h:DataW.trod enc prog w 0 (λ_=>true) true fuel 76 cs=some x):
 ∃e:Ent,cs=eCells e/\i64ok e.upd/\((∀n∈x.1.weights prog 76,n<=reachBytes)->ewide e):=by
 obtain ⟨c0,c1,c2,c3,c4,y0,y1,y2,y3,y4,n,rfl,I,J,K,M,Q,R⟩:=ZnA underlying76 (by kernel_rfl) (by kernel_rfl) h;obtain ⟨s0,D,Y,b0⟩:=Qa underlying9 J;obtain ⟨U,e1,w1,b1⟩:=Qa underlying9 K;obtain ⟨V,e2,w2,b2⟩:=Qa underlying9 M;obtain ⟨X,e3,Z,b3⟩:=Qa underlying9 Q;obtain ⟨S,e4,w4,F⟩:=DataW.trod_int underlying2 R;injection D with D;injection e1 with e1;injection e2 with e2;injection e3 with e3;injection e4 with e4;subst D e1 e2 e3 e4;clear J K M Q R;rw[Y,w1,w2,Z,w4] at I;refine ⟨⟨s0,U,V,X,S⟩,rfl,Ef F,λA=> ?_⟩;rw[I] at A;simp[DataW.weightsEach,DataW.weights,underlying76] at A;exact ⟨Ef F,A.1,A.2.1,A.2.2.1,A.2.2.2⟩
theorem ZjA {x:DataW H×List MemPlace} (h:DataW.trod enc prog w 0 (λ_=>true) true fuel 53 [v]=some x):
 ∃l:List Ent,REnts w v l/\((∀n∈x.1.weights prog 53,n<=reachBytes)->l.length<=reachBytes/\∀e∈l,ewide e):=by
 rcases open_slice underlying53 h with ⟨I,V⟩|⟨a,len,cap,m,n,D,Pl,I,_,hl,hm,K,V,R⟩
 ·injection I with I;subst I;exact ⟨[],RSl.nil w 5,λ_=>⟨Zh _,by simp⟩⟩
 ·injection I with I;subst I;simp only[Un] at K;have M:=K.symm;subst M;have Z:prog.cellsOf 76=5:=by kernel_rfl
  have Q:prog.bytesOf 76=72:=by kernel_rfl
  obtain ⟨E,U⟩:=choose_lt (α:=Ent) (n:=len) (p:=λi e=>(∀j,j<5->w.cell? ((a.add (i*5)).add j)=(eCells e)[j]?)/\((∀n∈(D i).weights prog 76,n<=reachBytes)->ewide e)) (λi F=>by
   obtain ⟨X,S,Y⟩:=R i (by omega);obtain ⟨e,rfl,_,J⟩:=Zlb Y;rw[Z] at S;obtain ⟨_,_,A⟩:=World.cells?_some S;exact ⟨e,A,J⟩)
  refine ⟨(List.range len).map E,?_,λJ=> ?_⟩
  ·have:=Qy (w:=w) (k:=5) (by decide) (a:=a) (len:=len) (cap:=cap) (λi=>eCells (E i)) hl hm (λi F=>⟨rfl,(U i F).1⟩);unfold REnts flatE;rw[Zl,JE,Ug];exact this
  ·rw[V] at J;simp only[DataW.weights,underlying53,Q,Zl,JE] at J;refine ⟨?_,λe he=> ?_⟩
   ·have:=J _ (ZH ..);rw[Zl,JE];omega
   ·obtain ⟨i,F,rfl⟩:=ZT.1 he;have F:=XO.1 F;refine (U i F).2 λn hn=>J n (ZD _ (Xw _ (J9 (ZT.2 ⟨i,XO.2 F,rfl⟩) hn)))
theorem Zhw {x:DataW H×List MemPlace} (h:DataW.trod enc prog w 0 (λ_=>true) true fuel 52 [v]=some x):
 ∃l:List ByteArray,RStrs w v l/\((∀n∈x.1.weights prog 52,n<=reachBytes)->l.length<=reachBytes/\∀s∈l,s.size<=reachBytes):=by
 rcases open_strs underlying52 underlying9 (by kernel_rfl) h with ⟨A,S⟩|⟨a,len,cap,m,D,A,_,U,V,F,S,M⟩
 ·injection A with A;subst A;exact ⟨[],RSl.nil w 1,λ_=>⟨Zh _,by simp⟩⟩
 ·injection A with A;subst A;simp only[Un] at F;have I:=F.symm;subst I;have K:prog.bytesOf 9=16:=by kernel_rfl
  refine ⟨(List.range len).map D,?_,λJ=> ?_⟩
  ·have:=Qy (w:=w) (k:=1) (by decide) (a:=a) (len:=len) (cap:=cap) (λi=> [.string (D i)]) U V (λi R=>⟨rfl,λj Y=>by
    have Q:j=0:=(by omega);subst Q;rw[add_zero,Nat.mul_one];exact (M i (by omega)).1⟩)
   unfold RStrs;rw[Zl,JE,Ug];have e:((List.range len).map λi=> [Value.string (D i)]).flatten=(List.range len).map (Value.string∘D):=by
    generalize List.range len=r
    induction r with
    |nil=>rfl
    |cons i t ih=>simp[ih]
   rw[<-e];exact this
  ·rw[S] at J;simp only[DataW.weights,underlying52,K,Zl,JE] at J;refine ⟨?_,λs X=> ?_⟩
   ·have:=J _ (ZH ..);rw[Zl,JE];omega
   ·obtain ⟨i,R,rfl⟩:=ZT.1 X;have:=J (D i).size (ZD _ (Xw _ (J9 (ZT.2 ⟨i,R,rfl⟩) (by simp[DataW.weights]))));exact this
theorem Zmq {x:DataW H×List MemPlace} (h:DataW.trod enc prog w 0 (λ_=>true) true fuel 55 cs=some x):
 ∃f:Fc,cs=cellsC f/\RdC w f/\((∀n∈x.1.weights prog 55,n<=reachBytes)->fwide f.f):=by
 obtain ⟨c0,c1,c2,c3,c4,c5,y0,y1,y2,y3,y4,y5,n,rfl,J,K,M,Q,R,S,U⟩:=ZnB underlying55 (by kernel_rfl) (by kernel_rfl) h;obtain ⟨l0,r0,q0⟩:=Zhw K;obtain ⟨V,e1,w1,b1⟩:=Qa underlying9 M;obtain ⟨X,e2,w2,b2⟩:=Qa underlying9 Q;obtain ⟨Y,e3,w3,b3⟩:=Qa underlying9 R;obtain ⟨n4,e4,w4,Z⟩:=DataW.trod_int underlying2 S;obtain ⟨l5,r5,q5⟩:=ZjA U;injection e1 with e1;injection e2 with e2;injection e3 with e3;injection e4 with e4;subst e1 e2 e3 e4;clear K M Q R S U;rw[w1,w2,w3,w4] at J;refine ⟨⟨c0,c5,⟨l0,V,X,Y,n4,l5⟩⟩,rfl,⟨r0,r5⟩,λA=> ?_⟩;rw[J] at A;simp only[DataW.weights,underlying55,DataW.weightsEach,ZL,Yr,ZX,Yu] at A;have F:=q0 λn D=>A n (Xw _ D);have I:=q5 λn D=>A n (by simp[D]);have g1:V.size<=reachBytes:=A _ (by simp);have g2:X.size<=reachBytes:=A _ (by simp);have g3:Y.size<=reachBytes:=A _ (by simp);exact ⟨Ef Z,F.1,F.2,g1,g2,g3,I.1,I.2⟩
theorem Zlc {x:DataW H×List MemPlace} (h:DataW.trod enc prog w 0 (λ_=>true) true fuel 29 [v]=some x):
 ∃l:List Fc,RFcs w v l/\(∀y∈l,RdC w y)/\((∀n∈x.1.weights prog 29,n<=reachBytes)->l.length<=reachBytes/\∀y∈l,fwide y.f):=by
 rcases open_slice underlying29 h with ⟨I,X⟩|⟨a,len,cap,m,n,D,Pl,I,_,hl,hm,K,X,U⟩
 ·injection I with I;subst I;exact ⟨[],RSl.nil w 6,by simp,λ_=>⟨Zh _,by simp⟩⟩
 ·injection I with I;subst I;simp only[Un] at K;have M:=K.symm;subst M;have Z:prog.cellsOf 55=6:=by kernel_rfl
  have S:1<=prog.bytesOf 55:=Yt (by kernel_rfl);obtain ⟨E,R⟩:=choose_lt (α:=Fc) (n:=len) (p:=λi e=>(∀j,j<6->w.cell? ((a.add (i*6)).add j)=(cellsC e)[j]?)/\RdC w e/\((∀n∈(D i).weights prog 55,n<=reachBytes)->fwide e.f)) (λi A=>by
   obtain ⟨Y,Q,V⟩:=U i (by omega);obtain ⟨e,rfl,hr,J⟩:=Zmq V;rw[Z] at Q;obtain ⟨_,_,F⟩:=World.cells?_some Q;exact ⟨e,F,hr,J⟩)
  refine ⟨(List.range len).map E,?_,λy hy=> ?_,λJ=> ?_⟩
  ·have:=Qy (w:=w) (k:=6) (by decide) (a:=a) (len:=len) (cap:=cap) (λi=>cellsC (E i)) hl hm (λi A=>⟨rfl,(R i A).1⟩);unfold RFcs flatC;rw[Zl,JE,Ug];exact this
  ·obtain ⟨i,A,rfl⟩:=ZT.1 hy;exact (R i (XO.1 A)).2.1
  ·rw[X] at J;simp only[DataW.weights,underlying29,Zl,JE] at J;refine ⟨?_,λe he=> ?_⟩
   ·have Q:=J _ (ZH ..);rw[Zl,JE];have V:len+(cap - len)<=(len+(cap - len))*prog.bytesOf 55:=Nat.le_mul_of_pos_right _ S;omega
   ·obtain ⟨i,A,rfl⟩:=ZT.1 he;have A:=XO.1 A;exact (R i A).2.2 λn hn=>J n (ZD _ (Xw _ (J9 (ZT.2 ⟨i,XO.2 A,rfl⟩) hn)))
theorem ZfP {x:DataW H×List MemPlace} (h:DataW.trod enc prog w 0 (λ_=>true) true fuel 31 cs=some x):
 ∃(v:Value) (l:List Fc),cs= [v]/\RFcs w v l/\(∀y∈l,RdC w y)/\((∀n∈x.1.weights prog 31,n<=reachBytes)->l.length<=reachBytes/\∀y∈l,fwide y.f):=by
 obtain ⟨v0,M,n,rfl,J,K⟩:=Znz underlying31 (by kernel_rfl) (by kernel_rfl) h;obtain ⟨l,F,A,I⟩:=Zlc K;refine ⟨v0,l,rfl,F,A,λh=>I λn D=>h n ?_⟩;rw[J];simp only[DataW.weights,underlying31,DataW.weightsEach,ZL,Yr,ZX];exact D
end
end
theorem ZkW (os:Os) (D:os.Started) (H:Type) (enc:TypeId×Value->H):
 ReturnsInHanded {} checked os 4 .any (λw args=>(Rows.opmlIsInjectiveSpec.pre enc prog f4 [] false w args/\laidMetH prog laidAll w)/\sizedMet enc prog f4 (OpenSpec.ofChange Rows.opmlIsInjectiveSpec) false w args)
  (Rows.opmlIsInjectiveSpec.post enc prog f4 false true false false):=by
 refine returnsInHanded_of_change_and (C:=checked) (X:=λw _=>laidMetH prog laidAll w) (λ_ _ _ hh h=>h.of_heap hh) ZnG D (by kernel_rfl) func4
  (ChangeSpec.witness_shaped (enc:=enc) (C:=checked) (os:=os) (X:=λw _=>laidMetH prog laidAll w) false (World.laidAll prog os laidAll) #[.agg #[sN],.agg #[sN]] 8 (World.laidAll_os _ _ _)
   (World.shaped_of_ZipB (by kernel_rfl) (by kernel_rfl)) (by kernel_rfl) (by kernel_rfl) (by kernel_rfl)
   (by rw[MakeChecks.laidMetH_plain _ _ _ (by kernel_rfl)];exact laidMet_laidAll _ (by kernel_rfl) (by kernel_rfl))) ?_
 intro W base args ds gs hm U hW hc hi hL _;have A:∀(j:Nat) t v,f4.params[j]? =some t->args[j]? =some v->Value.okWide prog W .any base t v:=U;have Z:=hW;obtain ⟨p,q,hq,hV,rfl,_,_⟩:=hW;have hA:DataW.TrodAll enc prog W 0 (λ_=>true) true f4.params.toList args.toList ds p:=hq;rw[params4] at hA A;obtain ⟨v0,v1,d0,d1,p0,p1,rfl,rfl,rfl,h0,h1⟩:=trodAll_two hA;obtain ⟨rfl,rfl⟩:=trodVars_none hV;have ho:=h0;have hp:=h1;rw[MakeChecks.laidMetH_plain _ _ _ (by kernel_rfl)] at hL;have hE:=ZeV hL;have hl:(DataW.weightsEach prog [31,31] [d0,d1]).all (· <=reachBytes)=true:=by have h:=hi;rw[params4] at h;exact h
 have V:=Yj.1 hl;have hj:∀n∈d0.weights prog 31,n<=reachBytes:=λn hn=>Yt (V n (by simp only[DataW.weightsEach,ZX,Zu];exact Or.inl hn));have hk:∀n∈d1.weights prog 31,n<=reachBytes:=λn hn=>Yt (V n (by simp only[DataW.weightsEach,ZX,Zu];exact Or.inr hn));clear hi hl V;have hd:∀x∈(p0++p1),x.block<W.heap.size:=λx Y=>by simpa using Z.lt x (Xw _ Y)
 obtain ⟨M,hr⟩:=h0;obtain ⟨F,rfl,_⟩:=okWide_struct underlying31 (A 0 31 v0 rfl rfl);obtain ⟨u0,l0,ha,ht,hf,J⟩:=ZfP (show DataW.trod enc prog W 0 (λ_=>true) true M 31 F.toList=some (d0,p0) from hr);have R:F=#[u0]:=by rw[show F=F.toList.toArray by simp,ha]
 subst R;obtain ⟨Q,hs⟩:=h1;obtain ⟨I,rfl,_⟩:=okWide_struct underlying31 (A 1 31 v1 rfl rfl);obtain ⟨u1,l1,hb,hu,hg,K⟩:=ZfP (show DataW.trod enc prog W 0 (λ_=>true) true Q 31 I.toList=some (d1,p1) from hs);have S:I=#[u1]:=by rw[show I=I.toList.toArray by simp,hb]
 subst S;refine (Zi6 _ l0 _ l1 W hE (Zhr hL) ht hf (J hj).1 (J hj).2 hu hg (K hk).1 (K hk).2).mono λe W' ⟨he,Y⟩=> ?_;subst he;have hB:Below W.heap.size W W':=Y;refine ⟨_,rfl,_,_,_,[],(p0++p1),[],Z,?_,?_,?_,hB.frame _,λh=>by cases h⟩
 ·exact trodAll_mk1 (shut_bool underlying4 _)
 ·exact trodAll_mk2 (Below.trod Zft (by kernel_rfl) (Yt (by kernel_rfl)) ho hB λx Y=>hd x (Xw _ Y)) (Below.trod Zft (by kernel_rfl) (Yt (by kernel_rfl)) hp hB λx Y=>hd x (List.mem_append_right _ Y))
 ·rfl
theorem KM:(Rows.opmlIsInjectiveRow.wf (OpenSpec.ofChange Rows.opmlIsInjectiveSpec))=true:=by kernel_rfl
theorem KN:(laidOutB prog)=true:=by kernel_rfl
theorem KO:(mapsRowed prog)=true:=by kernel_rfl
theorem KP:(f4.params.all (prog.readableRec ·))=true:=by kernel_rfl
theorem KQ:(namedTie prog Rows.opmlIsInjectiveRow.named Rows.opmlIsInjectiveSpec.vars)=true:=by kernel_rfl
theorem KR:((Rows.opmlIsInjectiveRow.stops== []))=true:=by kernel_rfl
theorem KS:((prog.stops== []))=true:=by kernel_rfl
theorem KT:((Rows.opmlIsInjectiveRow.knobs== []))=true:=by kernel_rfl
theorem KU:((prog.stopKnobs== []))=true:=by kernel_rfl
theorem KV:((Rows.opmlIsInjectiveRow.inPlace==prog.inPlace 4))=true:=by kernel_rfl
theorem GO:((Rows.opmlIsInjectiveRow.unfollowed==prog.unfollowed 4))=true:=by kernel_rfl
theorem GP:((Rows.opmlIsInjectiveRow.recurses==prog.recurses 4))=true:=by kernel_rfl
theorem GQ:((Rows.opmlIsInjectiveRow.named==prog.varsNamed 4))=true:=by kernel_rfl
theorem GR:((Rows.opmlIsInjectiveRow.maps==(f4.params.toList++Rows.opmlIsInjectiveSpec.plain.varTypes prog).any (prog.mapsRec ·)))=true:=by kernel_rfl
theorem GS:((Rows.opmlIsInjectiveRow.ifaces==(f4.params.toList++Rows.opmlIsInjectiveSpec.plain.varTypes prog).any (prog.ifacesRec ·)))=true:=by kernel_rfl
theorem GT:((Rows.opmlIsInjectiveRow.mapsOut==prog.mapsAmong f4.resultTypes.toList))=true:=by kernel_rfl
theorem GU:((Rows.opmlIsInjectiveRow.loops==(f4.params.toList++Rows.opmlIsInjectiveSpec.plain.varTypes prog).any (prog.loopsFrom ·)))=true:=by kernel_rfl
theorem GV:((Rows.opmlIsInjectiveRow.wideKeys==(f4.params.toList++Rows.opmlIsInjectiveSpec.plain.varTypes prog++f4.resultTypes.toList).any (prog.wideKeysFrom ·)))=true:=by kernel_rfl
theorem GW:(Rows.opmlIsInjectiveSpec.vars.all (prog.varReadable ·))=true:=by kernel_rfl
theorem GX:(f4.resultTypes.all (λt=>prog.readableRec t && decide (t<prog.types.size)))=true:=by kernel_rfl
theorem GY:((Rows.opmlIsInjectiveRow.ifacesOut==f4.resultTypes.toList.any (prog.ifacesRec ·)))=true:=by kernel_rfl
theorem GZ:((Rows.opmlIsInjectiveRow.loopsOut==f4.resultTypes.toList.any (prog.loopsFrom ·)))=true:=by kernel_rfl
theorem G0:((Rows.opmlIsInjectiveRow.plainKeys==prog.plainKeys))=true:=by kernel_rfl
theorem G1:(Rows.opmlIsInjectiveRow.shortTexts.isNone)=true:=by kernel_rfl
theorem G2:(prog.stopsHeard)=true:=by kernel_rfl
theorem G3:(prog.mayEnter)=true:=by kernel_rfl
theorem G4:((Rows.opmlIsInjectiveRow.lifted==prog.liftsFinal))=true:=by kernel_rfl
theorem G5:((prog.make==some Rows.opmlIsInjectiveRow.make))=true:=by kernel_rfl
theorem G6:((Rows.opmlIsInjectiveRow.kinds==(if Rows.opmlIsInjectiveRow.domain.isEmpty then [] else f4.params.toList.map λt=>match prog.underlying t with|some (.int k)=>some k|_=>none)))=true:=by kernel_rfl
theorem G7:((Rows.opmlIsInjectiveRow.pinned==Rows.opmlIsInjectiveRow.pinnedBy))=true:=by kernel_rfl
theorem G8:((Rows.opmlIsInjectiveRow.veiled==(f4.params.toList++Rows.opmlIsInjectiveSpec.plain.varTypes prog++f4.resultTypes.toList).any (prog.veiledRec ·)))=true:=by kernel_rfl
theorem G9:(Rows.opmlIsInjectiveRow.veiledFits prog f4.params.toList (f4.params.toList++Rows.opmlIsInjectiveSpec.plain.varTypes prog++f4.resultTypes.toList))=true:=by kernel_rfl
theorem EY : prog.funcNamed "feedvault/feedvaultlaw19.OpmlIsInjective" = some 4 := by kernel_rfl
theorem Zhf:f4.isInstance prog Rows.opmlIsInjectiveRow.origin Rows.opmlIsInjectiveRow.targs:=Yt (by kernel_rfl)
theorem Zhh:f4.isWrapper prog Rows.opmlIsInjectiveRow.wrapper Rows.opmlIsInjectiveRow.mainSum:=by unfold Func.isWrapper;first|(rw[Zi (by decide+kernel)];kernel_rfl)|(rw[Zf (by decide+kernel)];exact ⟨rfl,rfl⟩)
theorem ZkT:Rows.opmlIsInjectiveRow.wfByText (OpenSpec.ofChange Rows.opmlIsInjectiveSpec)=true:=by kernel_rfl
theorem Zhg : prog.mainIs = some (true, "fc646f4ec087820d56142a8d3af391f2978304ac98ac4e0c4d0ed1d31e8fe297".toList) := by kernel_rfl
theorem Zfx:false=prog.looks []:=by kernel_rfl
theorem Zb1:([31,31].all λu=> !prog.wantsStandIn u)=true:=by kernel_rfl
theorem Zhe:false=Rows.opmlIsInjectiveRow.goesBy prog:=by kernel_rfl
theorem YZ {a b:Bool} (h:a=true) (k:b=true):(a && b)=true:=by rw[h,k];rfl
theorem Zfv:joinedFacts prog 4 f4 Rows.opmlIsInjectiveSpec Rows.opmlIsInjectiveRow=true:=by
 unfold joinedFacts;exact YZ (YZ (YZ (YZ (YZ (YZ (YZ (YZ (YZ (YZ (YZ (YZ (YZ (YZ (YZ (YZ (YZ (YZ (YZ (YZ (YZ (YZ (YZ (YZ (YZ (YZ (YZ (YZ (YZ (YZ (YZ KM KN) KO) KP) KQ) KR) KS) KT) KU) KV) GO) GP) GQ) GR) GS) GT) GU) GV) GW) GX) GY) GZ) G0) G1) G2) G3) G4) G5) G6) G7) G8) G9
theorem Zfw:Rows.OpmlIsInjectiveSaid:=
 OpenClaim.holds_of_wide 4 f4 rfl rfl rfl rfl rfl rfl rfl ⟨rfl,rfl,rfl,rfl,rfl⟩ rfl rfl rfl rfl rfl EY func4 Zfv
  Zhf Zhh
  (λos h H enc _=>ZkW os h H enc)
theorem opmlIsInjective_holds:Rows.OpmlIsInjectiveCardSaid:=
 Claim7.holds_tied_plain_at .later [] [.data, .data, .data, .data, .data, .data, .data, .pinned] true (true, "fc646f4ec087820d56142a8d3af391f2978304ac98ac4e0c4d0ed1d31e8fe297") false Zfw (fun _ h => by cases h) ZkT (fun _ h => by cases h) opmlIsInjective_row_tie rfl ⟨rfl, rfl⟩ Zhg rfl
  (λf fn hf hfn=>by
   obtain rfl:f=4:=YX (EY.symm.trans hf)|>.symm
   obtain rfl:fn=f4:=(YX (func4.symm.trans hfn)).symm
   exact ⟨Zfx,λj t ht=>by
    rw[params4] at ht
    have hm:t∈ [31,31]:=(by simpa using Array.mem_of_getElem? ht)
    exact (show prog.wantsStandIn t=false by simpa using Yj.1 Zb1 t hm)⟩)
  Zhe
#print axioms opmlIsInjective_holds
end Go.Proofs.YtnlafkgkcnenfaaGreatDoor
