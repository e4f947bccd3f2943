/- Parts of the proof: contracts and plain laws. -/
import Derived.Shelf.SlSortCmp.InsertionK
import Derived.Shelf.SlSortCmp.SiftDownK
import Derived.Shelf.SlSortCmp.HeapSortK
import Derived.Shelf.SlSortCmp.MedianK
import Derived.Shelf.SlSortCmp.PivotK
import Derived.Shelf.SlSortCmp.ReverseRangeK
import Derived.Shelf.SlSortCmp.PartialInsertionK
import Derived.Shelf.SlSortCmp.PartitionEqualK
import Derived.Shelf.SlSortCmp.PartitionK
import Derived.Shelf.SlSortCmp.PdqK
import Derived.Shelf.SlSortCmp.WholeK
import Derived.Shelf.SlSortCmp.NoneTotal
import Derived.Test.YtnlafkgkcnenfaaGreatDoorU14
import Derived.Test.YtnlafkgkcnenfaaGreatDoorU16
namespace Go.Proofs.YtnlafkgkcnenfaaGreatDoor
open Go Go.RowKit Go.Joins Go.Shelf Go.Sort _root_.Go.Proofs.Tryz
set_option linter.unusedVariables false
set_option linter.unusedSimpArgs false
set_option maxRecDepth 100000
set_option maxHeartbeats 16000000
theorem ZkS (w1:Wq):Lib.IsBuilder 96 5 (w1.heap.size) (w1.heap.size) (Lib.byteCells ([])) (((w1.alloc (.cells #[.pointer none,sN] 96)).alloc (.cells #[.nilFunc] 133)).setCell ⟨w1.heap.size+1,0,none⟩ (.func (.func 82) #[] #[.pointer (some ⟨w1.heap.size,0,none⟩),.pointer (some ⟨w1.heap.size+1,0,none⟩)])):=
 Or.inl ⟨Zc _,sN,(Z4 _ ⟨w1.heap.size+1,0,none⟩ w1.heap.size _ (by show w1.heap.size≠w1.heap.size+1;omega)).trans ((Uc _ _ (by rw[Zu];omega)).trans (Zg w1 _)),YF _ _ _ _,by simp[Value.ownBlock]⟩
theorem ZfT (N:Nat) (hN:N<=4000000) (x:Nc) (w:Wq) (hf:x.nd.fits N) (hE:Env w) (X:NmTabs w) (hr:RdN w x) (F:(docW x.nd).length<=140737488355328):
 Calls prog 42 #[.agg (cellsN x).toArray] w λe w'=>e= .returned (.tuple #[.string (str (if nodeOk 1 x.nd then docW x.nd else [])),nI (if nodeOk 1 x.nd then 0 else 22)])/\Ext w w':=by
 have h:=λw' (hx:Ext w w')=>ZfS N hN x w' hf (hE.ext hx) (X.ext hx) (RdN.ext hx _ hr);have hd:docW x.nd=headW++nodeW x.nd++ [10]:=rfl;have hg:headW.length=39:=rfl;have D:=λ(w':Wq) (z:Wq) (B bb fb:Nat) (l:List UInt8) (hx:Ext w z)=>Zmf N hN x.nd.ht x z w' B bb fb l (Zc _) hf (RdN.ext hx _ hr);obtain ⟨R,hR⟩:∃R,nodeW x.nd=R:=⟨_,rfl⟩;rw[hd] at F|-;rw[hR] at D F|-;have hA:R.length+40<=140737488355328:=by simp only[Zb,Zd,ZK] at F;omega
 have hw:=RdN.sl hr;obtain ⟨b,hb⟩:∃b,nodeOk 1 x.nd=b:=⟨_,rfl⟩;rw[hb] at h|-;clear hb hf hr hd hR F hE X;obtain ⟨k,s,n,al,l0,ks,kids,t,a⟩:=x;obtain ⟨⟨A,m1,c,Z⟩,⟨B0,m2,d,hh⟩⟩:=hw;simp only[Nc.al,Nc.ks] at Z hh;subst Z;subst hh;simp only[cellsN] at h D|-;have V:=gd h;have hl:=gd D;obtain ⟨W0,Y⟩:∃W0,w.alloc (.cells #[nI (k:Nat),.string (str s),.string (str n),.slice A m1 c,.slice B0 m2 d,.string (str t),nI (a:Nat)] 25)=W0:=⟨_,rfl⟩;have hi:Ext w W0:=by rw[<-Y];exact (Ext.refl w).alloc _
 have K:BxN W0 w.heap.size k s n (.slice A m1 c) (.slice B0 m2 d) t a:=by rw[<-Y];exact Zg w _
 obtain ⟨b0,b1,b2,b3,b4,b5,b6⟩:=K.cells;have I:=gd hi;have U:=gd K;clear h D hi K;cases b with
 |false=>
  go_enter func42,ntmps42
  go_wp2_with (first|(go_at_call 81;refine Za (V.out _ I.out) ?_;rintro e w1 ⟨rfl,H⟩))
  go_ret2
  exact ⟨rfl,I.out.trans H⟩
 |true=>
  go_enter func42,ntmps42
  go_wp2_with (first|(go_at_call 81;refine Za (V.out _ I.out) ?_;rintro e w1 ⟨rfl,H⟩;obtain ⟨d0,d1,d2,d3,d4,d5,d6⟩:=(U.out.ext H).cells;(have hs:((w1.alloc (.cells #[.pointer none,sN] 96)).alloc (.cells #[.nilFunc] 133)).cell? ⟨w1.heap.size+1,0,none⟩=some .nilFunc:=by rw[JW (YS w1 _ _)];rfl);have hq:((w1.alloc (.cells #[.pointer none,sN] 96)).alloc (.cells #[.nilFunc] 133)).frozen? ⟨w1.heap.size+1,0,none⟩=false:=Xy (YS w1 _ _) 0;have hc:=ZkS w1;have he:FnAt (((w1.alloc (.cells #[.pointer none,sN] 96)).alloc (.cells #[.nilFunc] 133)).setCell ⟨w1.heap.size+1,0,none⟩ (.func (.func 82) #[] #[.pointer (some ⟨w1.heap.size,0,none⟩),.pointer (some ⟨w1.heap.size+1,0,none⟩)])) (w1.heap.size+1) w1.heap.size:=block_setCell (YS w1 _ _) _;have J:Ext w1 (((w1.alloc (.cells #[.pointer none,sN] 96)).alloc (.cells #[.nilFunc] 133)).setCell ⟨w1.heap.size+1,0,none⟩ (.func (.func 82) #[] #[.pointer (some ⟨w1.heap.size,0,none⟩),.pointer (some ⟨w1.heap.size+1,0,none⟩)])):=(((Ext.refl w1).alloc _).alloc _).setCell (Yu _) _;obtain ⟨WB,hp⟩:∃WB,(w1.alloc (.cells #[.pointer none,sN] 96)).alloc (.cells #[.nilFunc] 133)=WB:=⟨_,rfl⟩;rw[hp] at hs hq hc he J)|(go_at_call 54;refine Za (bwS _ _ [] _ _ hc (by show 0+39<=_;omega) J.size) ?_;rintro e w2 ⟨rfl,hm,Q⟩;obtain ⟨e0,e1,e2,e3,e4,e5,e6⟩:=(Q.box ((U.out.ext H).ext J)).cells;have ha:=Q.fn he;have hz:=ha.cell;have S:Ext w1 w2:=BKeep.ext J Q (Zc _))|(go_at_call 82;refine Za (hl.out w2 w1 w1.heap.size w1.heap.size (w1.heap.size+1) headW (I.out.trans H) S (Zc _) S.size ha hm (by rw[hg];omega)) ?_;rintro e w3 ⟨rfl,hn,hu⟩;have hj:Ext w1 w3:=S.then hu.below)|(go_at_call 62;refine Za (bwB _ _ _ 10 _ hn (by rw[Zb,hg];omega) hj.size) ?_;rintro e w4 ⟨rfl,ho,hv⟩;have hk:Ext w1 w4:=hj.then hv.below)|(go_at_call 56;refine Za (JD _ _ _ _ ho hk.size) ?_;rintro e w5 ⟨rfl,hy⟩))
  go_ret2
  exact ⟨rfl,(I.out.trans H).trans (hk.then hy)⟩
section
variable {L:List Fd} {ac kc zt:Nat} {w:World}
theorem Zfb (nm:List UInt8) (v:Value) (l:List Nc) (w:Wq) (F:RNs w v l) (A:∀y∈l,RdN w y/\y.kind=0) (D:l.length<=16777216):Calls prog 44 #[.string (str nm),v] w λe w'=>
 ∃KB kc,e= .returned (.agg #[nI 0,eS,.string (str nm),sN,.slice KB l.length kc,eS,nI 0])/\w'.ownsRow w.heap.size 25 7 (.slice KB l.length kc) l.length (flatN l)/\Ext w w':=by
 refine Za (ZbW nm v l w F A D) ?_;rintro e w' ⟨ks,rfl,h,H⟩;obtain ⟨KB,kc,rfl⟩:=Ym h;exact ⟨KB,kc,rfl,h,H⟩
theorem Zkx (w:Wq):Calls prog 44 #[.string ⟨#[104,101,97,100]⟩,sN] w λe w'=>
 ∃HB hc,e= .returned (.agg #[nI 0,eS,.string ⟨#[104,101,97,100]⟩,sN,.slice HB 0 hc,eS,nI 0])/\RNs w' (.slice HB 0 hc) []/\Ext w w':=
 (Zfb headL sN [] w (RNs.nil w) (by intro y F;cases F) (by decide)).mono λe w' ⟨KB,kc,h,A,D⟩=>⟨KB,kc,h,RSl.of_own A,D⟩
theorem Zkw (v:Value) (kids:List Nc) (w:Wq) (D:RNs w v kids) (h:∀y∈kids,RdN w y/\y.kind=0) (A:kids.length<=16777216):Calls prog 44 #[.string ⟨#[98,111,100,121]⟩,v] w λe w'=>
 ∃KB kc,e= .returned (.agg #[nI 0,eS,.string ⟨#[98,111,100,121]⟩,sN,.slice KB kids.length kc,eS,nI 0])/\w'.ownsRow w.heap.size 25 7 (.slice KB kids.length kc) kids.length (flatN kids)/\Ext w w':=
 Zfb bodyL v kids w D h A
theorem ZkA (v:Value) (kids:List Nc) (w:Wq) (D:RNs w v kids) (h:∀y∈kids,RdN w y/\y.kind=0) (A:kids.length<=16777216):Calls prog 44 #[.string ⟨#[111,112,109,108]⟩,v] w λe w'=>
 ∃RB rc,e= .returned (.agg #[nI 0,eS,.string ⟨#[111,112,109,108]⟩,sN,.slice RB kids.length rc,eS,nI 0])/\w'.ownsRow w.heap.size 25 7 (.slice RB kids.length rc) kids.length (flatN kids)/\Ext w w':=
 Zfb opmlL v kids w D h A
theorem ZnX (w:Wq):RStrs (w.alloc (.cells #[.string ⟨#[118,101,114,115,105,111,110]⟩,.string ⟨#[50,46,48]⟩] 9)) (.slice (some ⟨w.heap.size,0,none⟩) 2 2) (pairS [(versionL,twoL)]):=Vx w (pairS [(versionL,twoL)]) (by show 2<=maxLen;unfold maxLen;omega)
theorem Zme (RB:Option Addr) (n rc:Nat) (v:Value) (w:Wq) (A:RStrs w v (pairS [(versionL,twoL)])):
 Calls prog 46 #[.agg #[nI 0,eS,.string ⟨#[111,112,109,108]⟩,sN,.slice RB n rc,eS,nI 0],v] w λe w'=>
  ∃AB ac,e= .returned (.agg #[nI 0,eS,.string ⟨#[111,112,109,108]⟩,.slice AB 1 ac,.slice RB n rc,eS,nI 0])/\w'.ownsRow w.heap.size 88 4 (.slice AB 1 ac) 1 (flatA [pairA (versionL,twoL)])/\Ext w w':=by
 refine Za (Zh8 0 [] opmlL sN (.slice RB n rc) [] n rc RB [] 0 v [(versionL,twoL)] w (RAts.nil w) rfl A (by show 0+1<=1000000;omega)) ?_;rintro e w' ⟨al',rfl,h,D⟩;obtain ⟨AB,ac,rfl⟩:=Ym h;exact ⟨AB,ac,rfl,h,D⟩
theorem ZpN {KB:Option Addr} {kids:List Nc}:(#[nI 0,eS,.string ⟨#[98,111,100,121]⟩,sN,.slice KB kids.length kc,eS,nI 0]:Array Value).all (λu=>u.oneCell')=true:=by simp[Value.oneCell']
theorem ZpR {RB AB:Option Addr} {rc:Nat}:(#[nI 0,eS,.string ⟨#[111,112,109,108]⟩,.slice AB 1 ac,.slice RB 2 rc,eS,nI 0]:Array Value).all (λu=>u.oneCell')=true:=by simp[Value.oneCell']
theorem Zno:(#[nI 0,eS,eS,sN,sN,eS,nI 0]:Array Value).all (λu=>u.oneCell')=true:=by simp[Value.oneCell']
theorem ZpX {nb:Nat} {KB:Option Addr} {kids:List Nc} (h:w.heap[nb]? =some (.cells #[nI 0,eS,.string ⟨#[98,111,100,121]⟩,sN,.slice KB kids.length kc,eS,nI 0] 25 (0,0))):w.cell? ⟨nb,0,none⟩=some (nI 0)/\w.cell? ⟨nb,1,none⟩=some eS/\w.cell? ⟨nb,2,none⟩=some (.string ⟨#[98,111,100,121]⟩)/\w.cell? ⟨nb,3,none⟩=some sN/\w.cell? ⟨nb,4,none⟩=some (.slice KB kids.length kc)/\w.cell? ⟨nb,5,none⟩=some eS/\w.cell? ⟨nb,6,none⟩=some (nI 0):=by
 refine ⟨?_,?_,?_,?_,?_,?_,?_⟩<;>(rw[Zy h];rfl)
theorem ZoP {AB RB HB KB:Option Addr} {rc hc:Nat} {kids:List Nc} (F:Nc.nds kids=outsP 66 0 L):(Nc.mk 0 [] opmlL (.slice AB 1 ac) [pairA (versionL,twoL)] (.slice RB 2 rc) [(Nc.mk 0 [] headL sN [] (.slice HB 0 hc) [] [] 0),(Nc.mk 0 [] bodyL sN [] (.slice KB kids.length kc) kids [] 0)] [] 0).nd=encP L:=by
 have A:elems [elemN headL [],elemN bodyL (outsP 66 0 L)]:=λk h=>by
  rcases ZH.1 h with rfl|h
  ·rfl
  ·rw[Zo.1 h];rfl
 have D:elemN bodyL (outsP 66 0 L)= .mk 0 [] bodyL [] (outsP 66 0 L) [] 0:=by unfold elemN;rw[Jd (J1 66 0 L)]
 unfold encP;rw[ZnS A,D,Nc.nd,Nc.nds,Nc.nds,Nc.nds,Nc.nd,Nc.nd,Nc.nds,F];rfl
def dstE:Nat->Nat|0=>16|2=>18|3=>19|4=>20|_=>21
def depE:Nat->List Nat|2=> [0]|3=> [2]|5=> [3,4]|_=> []
def FE (zt:Nat) (KB:Option Addr) (kc:Nat) (kids:List Nc):Nat->Value->Wq->Prop
 |0,v,w=>∃HB hc,v= .agg #[nI 0,eS,.string ⟨#[104,101,97,100]⟩,sN,.slice HB 0 hc,eS,nI 0]/\RNs w (.slice HB 0 hc) []
 |2,v,w=>∃HB hc,RNs w v [(Nc.mk 0 [] headL sN [] (.slice HB 0 hc) [] [] 0),(Nc.mk 0 [] bodyL sN [] (.slice KB kids.length kc) kids [] 0)]/\RNs w (.slice HB 0 hc) []
 |3,v,w=>∃HB hc RB rc ro,v= .agg #[nI 0,eS,.string ⟨#[111,112,109,108]⟩,sN,.slice RB 2 rc,eS,nI 0]/\w.ownsRow ro 25 7 (.slice RB 2 rc) 2 (flatN [(Nc.mk 0 [] headL sN [] (.slice HB 0 hc) [] [] 0),(Nc.mk 0 [] bodyL sN [] (.slice KB kids.length kc) kids [] 0)])/\zt<=ro/\RNs w (.slice HB 0 hc) []
 |4,v,w=>RStrs w v (pairS [(versionL,twoL)])
 |_,v,w=>∃HB hc RB rc ro AB ac ao,v= .agg #[nI 0,eS,.string ⟨#[111,112,109,108]⟩,.slice AB 1 ac,.slice RB 2 rc,eS,nI 0]/\w.ownsRow ro 25 7 (.slice RB 2 rc) 2 (flatN [(Nc.mk 0 [] headL sN [] (.slice HB 0 hc) [] [] 0),(Nc.mk 0 [] bodyL sN [] (.slice KB kids.length kc) kids [] 0)])/\zt<=ro/\RNs w (.slice HB 0 hc) []/\w.ownsRow ao 88 4 (.slice AB 1 ac) 1 (flatA [pairA (versionL,twoL)])/\zt<=ao
theorem Zo2 {KB:Option Addr} {kids:List Nc}:∀(i:Nat) (v:Value) (w w':Wq),FE zt KB kc kids i v w->Ext w w'->FE zt KB kc kids i v w':=by
 intro i v w w' h A;unfold FE at*;split at h
 ·obtain ⟨HB,hc,D,F⟩:=h;exact ⟨HB,hc,D,F.ext A⟩
 ·obtain ⟨HB,hc,D,F⟩:=h;exact ⟨HB,hc,D.ext A,F.ext A⟩
 ·obtain ⟨HB,hc,RB,rc,ro,D,F,H,I⟩:=h;exact ⟨HB,hc,RB,rc,ro,D,Ya F A,H,I.ext A⟩
 ·exact h.ext A
 ·obtain ⟨HB,hc,RB,rc,ro,AB,ac,ao,D,F,H,I,J,K⟩:=h;exact ⟨HB,hc,RB,rc,ro,AB,ac,ao,D,Ya F A,H,I.ext A,Ya J A,K⟩
def EncRet (w':Wq) (v:Value) (L:List Fd):Prop:=
 if okA L=true then ∃x:Nc,v= .tuple #[.agg (cellsN x).toArray,nI 0]/\x.nd=encP L/\RdN w' x else v= .tuple #[.agg #[nI 0,eS,eS,sN,sN,eS,nI 0],nI 22]
theorem ZiA (v:Value) (l:List Fc) (w:Wq) (hE:Env w) (hr:RFcs w v l) (hq:∀x∈l,RdC w x) (hk:∀x∈l,fokS x.f) (hn:l.length<=1000000):
 Calls prog 20 #[.agg #[v]] w λe w'=>∃r,e= .returned r/\EncRet w' r (l.map Fc.f)/\Ext w w':=by
 obtain ⟨A,c,rfl, -, -⟩:=hr.form;obtain ⟨W0,hb⟩:∃W0,(w.alloc (.cells #[.slice A l.length c] 31)).alloc (.cells #[nI 0,eS,eS,sN,sN,eS,nI 0] 25)=W0:=⟨_,rfl⟩;have hG:Ext w W0:=by rw[<-hb];exact ((Ext.refl w).alloc _).alloc _
 have hz:W0.heap[w.heap.size]? =some (.cells #[.slice A l.length c] 31 (0,0)):=by rw[<-hb];exact (Uc _ _ (by rw[Zu];omega)).trans (Zg w _)
 have hH:W0.heap[w.heap.size+1]? =some (.cells #[nI 0,eS,eS,sN,sN,eS,nI 0] 25 (0,0)):=by rw[<-hb];exact YS w _ _
 have b0:W0.cell? ⟨w.heap.size,0,none⟩=some (.slice A l.length c):=(Zy hz 0).trans rfl;have ha:=gd hG;have hL:=gd hH;have HN:=gd hn;have U:=gd (λ(w':Wq) (h:Ext w w')=>Zg9 (.slice A l.length c) l w' (hE.ext h) (hr.ext h) (λx Q=>(hq x Q).ext h) hk hn);have Z:=λ(ho:okA (l.map Fc.f)=true) (w':Wq) (h:Ext w w')=>Znq 66 0 (.slice A l.length c) l w' (ZoI ho) (hr.ext h) (λx Q=>(hq x Q).ext h) hn (by decide);have hF:W0.heap.size=w.heap.size+2:=by rw[<-hb,Zu,Zu]
 have hj:=gd hF;unfold EncRet;by_cases ho:okA (l.map Fc.f)=true
 ·have h8:=gd (Z ho);have Y:=U;rw[Zi ho] at Y;simp only[Zi ho];clear ho Z U hE hr hq hk hn hG hz hH hF;go_enter func20,ntmps20
  go_wp2_with (first|(go_at_call 43;refine Za (Y.out _ ha.out) ?_;rintro e1 w1 ⟨rfl,J⟩;have c0:=J.cell b0)|(go_at_call 45;refine Za (h8.out _ (ha.out.trans J)) ?_;rintro e2 w2 ⟨u,kids,rfl,hp,hB,hR,hT,hs⟩)|(go_at_call 44;refine Za (Zkw u kids w2 hp.reads (λy hy=>⟨(XC kids).1 hp.rd y hy,hR y hy⟩) (by have h:=Zz List.length hB;rw[Jw] at h;have h2:=Zhp 66 0 (l.map Fc.f);rw[Zq] at h2;have:=HN.out;omega)) ?_;rintro e3 w3 ⟨KB,kc,rfl,hC,hg⟩)|(refine Zf rfl 25 (.tmp 5) (.tmp 15) rfl w3.heap.size _ rfl rfl _ _ (Zg _ _) ZJ rfl ZpN ?_;rw[Z0]))
  have h6:=gd hB;obtain ⟨W4,hm⟩:∃q,w3.alloc (.cells #[nI 0,eS,.string ⟨#[98,111,100,121]⟩,sN,.slice KB kids.length kc,eS,nI 0] 25)=q:=⟨_,rfl⟩;have X:Ext w3 W4:=by rw[<-hm];exact (Ext.refl w3).alloc _
  have hA:W4.heap[w3.heap.size]? =some (.cells #[nI 0,eS,.string ⟨#[98,111,100,121]⟩,sN,.slice KB kids.length kc,eS,nI 0] 25 (0,0)):=by rw[<-hm];exact Zg w3 _
  (try rw[hm]);obtain ⟨nb,hD⟩:∃q,w3.heap.size=q:=⟨_,rfl⟩;rw[hD] at hA;(try rw[hD]);have ht:RdN W4 (Nc.mk 0 [] bodyL sN [] (.slice KB kids.length kc) kids [] 0):=by rw[RdN];exact ⟨RAts.nil _,(RSl.of_own hC).ext X,RdNs.ext (hg.trans X) _ hp.rd⟩
  have gj:=J.size;have gk:=hs.size;have gl:=hg.size;have gm:=X.size;have hZ:Hid (awayN (some (w.heap.size+1)) (Nc.mk 0 [] bodyL sN [] (.slice KB kids.length kc) kids [] 0)):=gd (by rw[awayN];exact ⟨Or.inl rfl,Or.inr (Jq hC (by have:=hj.out;omega)),hT _ (by have:=hj.out;omega)⟩);have h7:Hid (nb≠w.heap.size+1):=gd (by have:=hj.out;omega);have h9:Hid (w.heap.size+2<=W4.heap.size):=gd (by have:=hj.out;omega);have hX:=((J.trans hs).trans (hg.trans X)).heap hL.out;have H:=(Ext.refl W4).drew;refine rN ?_;change wpAny _ _ _ _ _ _ _ (World.drew _);obtain ⟨Wt,hO⟩:∃q,World.drew W4=q:=⟨_,rfl⟩;rw[hO] at H|-;obtain ⟨zt,hI⟩:∃zt,zt=Wt.heap.size:=⟨_,rfl⟩;have gc:=gd hI;have ga:Hid (w.heap.size+2<=zt):=gd (by rw[hI];exact Zp h9.out H.size);have hJ:=gd (RdN.ext H _ ht);have hh:=gd (H.heap hA);have gb:=gd (H.heap hX);have hl:=gd (((ha.out.trans (J.trans hs)).trans (hg.trans X)).trans H);have go:=gd (Ext.refl Wt);have ge:Ext w Wt/\Wt.heap[nb]? =some (.cells #[nI 0,eS,.string ⟨#[98,111,100,121]⟩,sN,.slice KB kids.length kc,eS,nI 0] 25 (0,0)):=⟨hl.out,hh.out⟩;clear X hA hm hD ht hX H hO J hs hg hp hB hR hT hC c0 b0 hb hI gj gk gl gm;refine YD (λw'=>Ext w w'/\w'.heap[nb]? =some (.cells #[nI 0,eS,.string ⟨#[98,111,100,121]⟩,sN,.slice KB kids.length kc,eS,nI 0] 25 (0,0))) ?_;refine tS 1 (.agg #[nI 0,eS,.string ⟨#[98,111,100,121]⟩,sN,.slice KB kids.length kc,eS,nI 0]) rfl (λw' hS=>by obtain ⟨q0,q1,q2,q3,q4,q5,q6⟩:=ZpX hS.2;go_simp) ge ?_;go_simp;refine Za5 (m:=2) (f:=5) rfl #[true,true,true,true,true,true,false,false] (λa0 a' w'=>∃(x1 x2 x3 x4:Value) (HB RB AB:Option Addr) (hc rc ac ro ao:Nat),a'=(((((a0.put (some 16) x1).put (some 18) x2).put (some 19) x3).put (some 20) x4).put (some 21) (.agg #[nI 0,eS,.string ⟨#[111,112,109,108]⟩,.slice AB 1 ac,.slice RB 2 rc,eS,nI 0]))/\
   Ext Wt w'/\RNs w' (.slice HB 0 hc) []/\w'.ownsRow ro 25 7 (.slice RB 2 rc) 2 (flatN [(Nc.mk 0 [] headL sN [] (.slice HB 0 hc) [] [] 0),(Nc.mk 0 [] bodyL sN [] (.slice KB kids.length kc) kids [] 0)])/\w'.ownsRow ao 88 4 (.slice AB 1 ac) 1 (flatA [pairA (versionL,twoL)])/\zt<=ro/\zt<=ao) ?_ ?_
  ·refine QX [0,2,3,4,5] dstE depE (FE zt KB kc kids) rfl (by kernel_rfl) (by decide) (by decide) (by kernel_rfl) (by decide) (by kernel_rfl) (λi _=>Zo2 i) (λw' Q=>⟨hl.out.trans Q,Q.heap hh.out⟩) ?_ ?_
   ·intro i hi A w' vs Q I D;have hM:Hid (zt<=w'.heap.size):=gd (by rw[gc.out];exact Q.size);have h0:=gd (RdN.ext Q _ hJ.out);simp only[ZH,ZY,Y1] at hi;rcases hi with rfl|rfl|rfl|rfl|rfl
    ·clear I D Q;refine VR rfl rfl (λK hK=> ?_);go_simp;go_at_call 44;refine Za (Zkx w') ?_;rintro e V ⟨HB,hc,rfl,F,hv⟩;exact hK _ _ hv ⟨HB,hc,rfl,F⟩
    ·have e1:A.tmps[17]?.getD undef= .agg #[nI 0,eS,.string ⟨#[98,111,100,121]⟩,sN,.slice KB kids.length kc,eS,nI 0]:=J2 ((I 17 (by decide)).trans rfl);obtain ⟨e2,HB,hc,e0,F⟩:=D 0 (by simp[depE]);have e2:A.tmps[16]?.getD undef=vs 0:=J2 e2;rw[e0] at e2;clear I D Q;refine VR rfl rfl (λK hK=> ?_);go_simp;exact hK _ _ ((Ext.refl w').alloc _) ⟨HB,hc,Yo (w:=w') (n:=2) (cs:=flatN [(Nc.mk 0 [] headL sN [] (.slice HB 0 hc) [] [] 0),(Nc.mk 0 [] bodyL sN [] (.slice KB kids.length kc) kids [] 0)]) rfl (by decide),F.ext ((Ext.refl w').alloc _)⟩
    ·obtain ⟨e2,HB,hc,gi,F⟩:=D 2 (by simp[depE]);have e2:A.tmps[18]?.getD undef=vs 2:=J2 e2;clear I D Q;refine VR rfl rfl (λK hK=> ?_);go_simp;go_at_call 44;refine Za (ZkA (vs 2) [(Nc.mk 0 [] headL sN [] (.slice HB 0 hc) [] [] 0),(Nc.mk 0 [] bodyL sN [] (.slice KB kids.length kc) kids [] 0)] w' gi (λy hy=> ?_) (by show 2<=16777216;decide)) ?_
     ·rcases ZH.1 hy with rfl|hy
      ·exact ⟨by rw[RdN];exact ⟨RAts.nil _,F,by rw[RdNs];trivial⟩,rfl⟩
      ·rw[Zo.1 hy];exact ⟨h0.out,rfl⟩
     rintro e V ⟨RB,rc,rfl,R,hv⟩;exact hK _ _ hv ⟨HB,hc,RB,rc,_,rfl,R,hM.out,F.ext hv⟩
    ·clear I D Q;refine VR rfl rfl (λK hK=> ?_);go_simp;exact hK _ _ ((Ext.refl w').alloc _) (ZnX w')
    ·obtain ⟨e1,HB,hc,RB,rc,ro,e3,R,gh,F⟩:=D 3 (by simp[depE]);obtain ⟨e2,gn⟩:=D 4 (by simp[depE]);have e1:A.tmps[19]?.getD undef=vs 3:=J2 e1;have e2:A.tmps[20]?.getD undef=vs 4:=J2 e2;rw[e3] at e1;clear I D Q;refine VR rfl rfl (λK hK=> ?_);go_simp;go_at_call 46;refine Za (Zme RB 2 rc (vs 4) w' gn) ?_;rintro e V ⟨AB,ac,rfl,he,hv⟩;exact hK _ _ hv ⟨HB,hc,RB,rc,ro,AB,ac,_,rfl,Ya R hv,gh,F.ext hv,he,hM.out⟩
   ·intro vs w' Q hf;obtain ⟨HB,hc,RB,rc,ro,AB,ac,ao,e5,h1,h2,h3,h4,h5⟩:=hf 5 (by decide);exact ⟨by kernel_rfl,vs 0,vs 2,vs 3,vs 4,HB,RB,AB,hc,rc,ac,ro,ao,by rw[<-e5];kernel_rfl,Q,h3,h1,h4,h2,h5⟩
  ·rintro a' W7 ⟨y1,y2,y3,y4,HB,RB,AB,hc,rc,ac,ro,ao,rfl,S,F,R,he,hU,hP⟩;have hV:RdN W7 (Nc.mk 0 [] opmlL (.slice AB 1 ac) [pairA (versionL,twoL)] (.slice RB 2 rc) [(Nc.mk 0 [] headL sN [] (.slice HB 0 hc) [] [] 0),(Nc.mk 0 [] bodyL sN [] (.slice KB kids.length kc) kids [] 0)] [] 0):=(by rw[RdN,RdNs,RdNs,RdNs];exact ⟨RSl.of_own he,RSl.of_own R,by rw[RdN];exact ⟨RAts.nil _,F,by rw[RdNs];trivial⟩,RdN.ext S _ hJ.out,trivial⟩);have hY:=S.heap gb.out;have hQ:awayN (some (w.heap.size+1)) (Nc.mk 0 [] opmlL (.slice AB 1 ac) [pairA (versionL,twoL)] (.slice RB 2 rc) [(Nc.mk 0 [] headL sN [] (.slice HB 0 hc) [] [] 0),(Nc.mk 0 [] bodyL sN [] (.slice KB kids.length kc) kids [] 0)] [] 0):=(by have h1:=ga.out;rw[awayN,awayNs,awayNs,awayNs];exact ⟨Or.inr (Jq he om),Or.inr (Jq R om),by rw[awayN];exact ⟨Or.inl rfl,Or.inl rfl,by rw[awayNs];trivial⟩,hZ.out,trivial⟩);obtain ⟨W8,hd⟩:∃q,W7.setRow (w.heap.size+1) #[nI 0,eS,.string ⟨#[111,112,109,108]⟩,.slice AB 1 ac,.slice RB 2 rc,eS,nI 0]=q:=⟨_,rfl⟩;have hu:RdN W8 (Nc.mk 0 [] opmlL (.slice AB 1 ac) [pairA (versionL,twoL)] (.slice RB 2 rc) [(Nc.mk 0 [] headL sN [] (.slice HB 0 hc) [] [] 0),(Nc.mk 0 [] bodyL sN [] (.slice KB kids.length kc) kids [] 0)] [] 0):=(by rw[<-hd];exact RdN.grown (Yx _ _ _) _ hV hQ);have hW:Ext w W8:=(by rw[<-hd];exact (hl.out.trans S).setRow (Yu _) _);have gf:W8.heap[w.heap.size+1]? =some (.cells #[nI 0,eS,.string ⟨#[111,112,109,108]⟩,.slice AB 1 ac,.slice RB 2 rc,eS,nI 0] 25 (0,0)):=(by rw[<-hd];exact ZF _ _ _ _ _ _ hY);have gg:W8.heap[nb]? =some (.cells #[nI 0,eS,.string ⟨#[98,111,100,121]⟩,sN,.slice KB kids.length kc,eS,nI 0] 25 (0,0)):=(by rw[<-hd];exact (Yf _ _ _ _ h7.out).trans (S.heap hh.out));have hw:=gd (show (Nc.mk 0 [] opmlL (.slice AB 1 ac) [pairA (versionL,twoL)] (.slice RB 2 rc) [(Nc.mk 0 [] headL sN [] (.slice HB 0 hc) [] [] 0),(Nc.mk 0 [] bodyL sN [] (.slice KB kids.length kc) kids [] 0)] [] 0).nd=encP (l.map Fc.f)/\RdN W8 (Nc.mk 0 [] opmlL (.slice AB 1 ac) [pairA (versionL,twoL)] (.slice RB 2 rc) [(Nc.mk 0 [] headL sN [] (.slice HB 0 hc) [] [] 0),(Nc.mk 0 [] bodyL sN [] (.slice KB kids.length kc) kids [] 0)] [] 0)/\Ext w W8 from ⟨ZoP h6.out,hu,hW⟩);have gp:Ext w W7/\W7.heap[nb]? =some (.cells #[nI 0,eS,.string ⟨#[98,111,100,121]⟩,sN,.slice KB kids.length kc,eS,nI 0] 25 (0,0)):=⟨hl.out.trans S,S.heap hh.out⟩;have hN:Ext w W8/\W8.heap[nb]? =some (.cells #[nI 0,eS,.string ⟨#[98,111,100,121]⟩,sN,.slice KB kids.length kc,eS,nI 0] 25 (0,0)):=⟨hW,gg⟩;clear hV hQ hu R he F hU hP S;go_simp;refine sS 6 λK hK=> ?_;refine YJ rfl 25 (.tmp 2) (.tmp 21) rfl (w.heap.size+1) _ rfl rfl _ _ hY ZJ rfl ZpR ?_;rw[hd];refine hK _ _ hN ?_;clear hK K;go_simp;refine sS 7 λK hK=> ?_;go_simp;refine hK _ _ hN ?_;clear hK K;refine sE ?_;go_wp2;((try simp only[Exit.inBlock,Exit.then]);refine ZD (Yn rfl _ _ _ _ _ _ _ rfl gf underlying25 rfl ZJ) rfl ?_);exact ⟨_,rfl,⟨(Nc.mk 0 [] opmlL (.slice AB 1 ac) [pairA (versionL,twoL)] (.slice RB 2 rc) [(Nc.mk 0 [] headL sN [] (.slice HB 0 hc) [] [] 0),(Nc.mk 0 [] bodyL sN [] (.slice KB kids.length kc) kids [] 0)] [] 0),rfl,hw.out.1,hw.out.2.1⟩,hw.out.2.2⟩
 ·have Y:=U;rw[Ze ho] at Y;simp only[Ze ho];clear ho Z U hE hr hq hk hn hG hz hH hF;go_enter func20,ntmps20
  go_wp2_with (first|(go_at_call 43;refine Za (Y.out _ ha.out) ?_;rintro e1 w1 ⟨rfl,J⟩;have z1:=J.heap hL.out)|(refine Zf rfl 25 (.tmp 2) (.tmp 10) rfl (w.heap.size+1) _ rfl rfl _ _ z1 ZJ rfl Zno ?_))
  ((try simp only[Exit.inBlock,Exit.then]);refine ZD (Yn rfl _ _ _ _ _ _ _ rfl (ZF _ _ _ _ _ _ z1) underlying25 rfl ZJ) rfl ?_);exact ⟨_,rfl,rfl,(ha.out.trans J).setRow (Yu _) _⟩
end
def strsV (l:List (List UInt8)):List Value:=l.map λs=>Value.string (str s)
theorem Ej (x:Nc) (v:Value) (D:List (List UInt8)) (w:Wq) (h:RAts w x.al x.attrs) (U:isSl x.ks) (hn:x.attrs.length<=16777216) (hv:RSl w 1 v D.length (strsV D)) (hd:D.length<=1000):
 Calls prog 28 #[.agg (cellsN x).toArray,v] w λe w'=>e= .returned (.string (str (attrFst x.attrs D)))/\Ext w w':=by
 obtain ⟨k,s,n,al,l,ks,kids,t,a⟩:=x;simp only[Nc.al,Nc.attrs,Nc.ks] at h U hn;obtain ⟨A,c,rfl, -, -⟩:=h.form;obtain ⟨B,m,d,rfl⟩:=U;obtain ⟨_,VA,vc,rfl, -, -, -, -⟩:=id hv;simp only[cellsN,Nc.attrs];obtain ⟨R,Y⟩:∃R,attrFst l D=R:=⟨_,rfl⟩;rw[Y];have HR:Hid (attrFst l (D.drop 0)=R):=Y;clear Y;have Q:=(Ext.refl w).alloc (.cells #[nI (k:Nat),.string (str s),.string (str n),.slice A l.length c,.slice B m d,.string (str t),nI (a:Nat)] 25);go_enter func28,ntmps28;go_wp2;go_loopw [11] (λu wr=>∃j:Nat,j<=D.length/\u=nI j/\Hid (attrFst l (D.drop j)=R)/\Ext (w.alloc (.cells #[nI (k:Nat),.string (str s),.string (str n),.slice A l.length c,.slice B m d,.string (str t),nI (a:Nat)] 25)) wr) (λu _=>D.length - (intOf u).toNat)
 case atStart=>exact ⟨0,Zj _,rfl,HR,Ext.refl _⟩
 case round=>
  obtain ⟨j,hj,rfl,V,H⟩:=hrel;by_cases K:j<D.length
  ·obtain ⟨ad,rfl,Z⟩:=(RSl.ext hv (Q.trans H)).at1 j (.string (str D[j])) (by unfold strsV;rw[Yp,Zh K];rfl);have hb:(0:Int)<=(j:Int):=om;have hc:(j:Int)<(D.length:Int):=om;have J:=V.out;have b0:=H.boxed 0 _ rfl;have b1:=H.boxed 1 _ rfl;have b2:=H.boxed 2 _ rfl;have b3:=H.boxed 3 _ rfl;have b4:=H.boxed 4 _ rfl;have b5:=H.boxed 5 _ rfl;have b6:=H.boxed 6 _ rfl;have F:=Zf1 (.mk k s n (.slice A l.length c) l (.slice B m d) kids t a) [] D[j] wr (RAts.ext h (Q.trans H)) ⟨_,_,_,rfl⟩ hn;simp only[cellsN,Nc.attrs,Vy] at F;cases hq:attrN l [] D[j] with
   |some v=>
    rw[Zmw K hq] at J;subst J;rw[hq] at F;unfold lookAns at F;dsimp only at F;have X:=gd F;clear V hq F;generalize D[j]=nm at*
    go_wp2_with (first|(go_at_call 31;refine Za X.out ?_;rintro e w' ⟨rfl,S⟩))
    go_ret;exact ⟨rfl,(Q.trans H).trans S⟩
   |none=>
    rw[Zkv K hq] at J;rw[hq] at F;unfold lookAns at F;dsimp only at F;have X:=gd F;have HN:=gd J;clear V hq F J;generalize D[j]=nm at*
    go_wp2_with (first|(go_at_call 31;refine Za X.out ?_;rintro e w' ⟨rfl,S⟩))
    go_roundw
    case rel=>exact ⟨j+1,K,by go_num,HN,H.trans S⟩
    case measure=>simp[intOf];omega
  ·have ha:j=D.length:=om;have I:=V.out;rw[ZC om] at I;unfold attrFst at I;subst I;clear V;subst ha;go_wp2;go_ret;exact ⟨rfl,Q.trans H⟩
section
variable {path:List ByteArray}
structure VisS (w:Wq) (fb vb:Nat) (u:Value) (O:List Fc):Prop where
 fbk:w.heap[fb]? =some (.cells #[u] 29)
 vbk:w.heap[vb]? =some (.cells #[.func (.func 30) #[] #[.pointer (some ⟨fb,0,none⟩),.pointer (some ⟨vb,0,none⟩)]] 63)
 hf:HFs w (vb+1) u O
 lt:fb<vb
 far:∀x∈O,awayC x (some fb)
section
variable {w w' w5:World} {fb vb:Nat} {u u':Value} {O O':List Fc}
theorem VisS.ext (h:VisS w fb vb u O) (A:Ext w w'):VisS w' fb vb u O:=⟨A.heap h.fbk,A.heap h.vbk,h.hf.ext A,h.lt,h.far⟩
theorem VisS.row_ne (h:VisS w fb vb u O) {k:Nat} (A:k<=vb):u.ownBlock≠some k:=λe=>by
 have:=(h.hf.row.lt k e).1;omega
theorem VisS.cell (h:VisS w fb vb u O):w.cell? ⟨fb,0,none⟩=some u/\w.frozen? ⟨fb,0,none⟩=false/\w.cell? ⟨vb,0,none⟩=some (.func (.func 30) #[] #[.pointer (some ⟨fb,0,none⟩),.pointer (some ⟨vb,0,none⟩)]):=by
 refine ⟨?_,Xy h.fbk 0,?_⟩
 ·rw[JW h.fbk];rfl
 ·rw[JW h.vbk];rfl
theorem VisS.store (h:VisS w fb vb u O) (F:w.grownBy w5 u.ownBlock) (D:HFs w5 (vb+1) u' O') (A:∀x∈O',awayC x (some fb)):VisS (w5.setCell ⟨fb,0,none⟩ u') fb vb u' O':=by
 have I:w5.heap[fb]? =w.heap[fb]?:=F.block fb (ZP.1 h.fbk).1 (λe=>h.row_ne (Nat.le_of_lt h.lt) e.symm);have J:w5.heap[vb]? =w.heap[vb]?:=F.block vb (ZP.1 h.vbk).1 (λe=>h.row_ne (Zc _) e.symm);have K:=Yw w5 ⟨fb,0,none⟩ u';refine ⟨block_setCell (I.trans h.fbk) _,?_,⟨Zp2 D.row (a:=⟨fb,0,none⟩) (by have:=h.lt;show fb<vb+1;omega) _,λx H=>(D.rd x H).grown K (A x H),D.away⟩,h.lt,A⟩;exact (Z4 w5 ⟨fb,0,none⟩ vb u' (by have:=h.lt;show vb≠fb;omega)).trans (J.trans h.vbk)
end
def newRow (w:Wq) (u u':Value):Prop:=u'.ownBlock=u.ownBlock\/∀g,u'.ownBlock=some g->w.heap.size<=g
theorem newRow.refl (w:Wq) (u:Value):newRow w u u:=Or.inl rfl
theorem newRow.hr {a b:Wq} {u u':Value} (h:newRow a u u') (A:a.heap.size<=b.heap.size):∀k,u'.ownBlock=some k->u.ownBlock=some k\/a.heap.size<=k:=λk e=>by
 rcases h with h|h
 ·exact Or.inl (by rw[<-h];exact e)
 ·exact Or.inr (h k e)
theorem newRow.mono {a b:Wq} {u v:Value} (h:newRow b u v) (D:a.heap.size<=b.heap.size):newRow a u v:=h.imp (λe=>e) λe g A=>Zp D (e g A)
theorem newRow.trans {a b:Wq} {u v x:Value} (h:newRow a u v) (A:newRow b v x) (F:a.heap.size<=b.heap.size):newRow a u x:=by
 rcases A with A|A
 ·rcases h with h|h
  ·exact Or.inl (A.trans h)
  ·exact Or.inr (by rw[A];exact h)
 ·exact Or.inr λg D=>Zp F (A g D)
theorem newRow.away {w:Wq} {u u':Value} (h:newRow w u u') {x:Nc} (D:RdN w x) (A:awayN u.ownBlock x):awayN u'.ownBlock x:=by
 rcases h with h|h
 ·rw[h];exact A
 ·exact Is h x D
theorem newRow.awayS {w:Wq} {u u' D:Value} {path:List ByteArray} (h:newRow w u u') (J:RStrs w D path) (A:path= []\/D.ownBlock≠u.ownBlock):path= []\/D.ownBlock≠u'.ownBlock:=by
 rcases h with h|h
 ·rw[h];exact A
 ·rcases A with A|A
  ·exact Or.inl A
  ·by_cases F:path= []
   ·exact Or.inl F
   ·obtain ⟨g,H,I⟩:=RSl.old J (by simpa using F);refine Or.inr ?_;rw[H];intro e;have:=h g e.symm;omega
def VisRet (w w':Wq) (fb vb:Nat) (u:Value) (O:List Fc) (e:Ending):Except PErr (List Fd)->Prop
 | .ok l=>e= .returned (.tuple #[nI 0,nI 0])/\∃u' O',VisS w' fb vb u' O'/\O'.map Fc.f=O.map Fc.f++l/\newRow w u u'
 | .error (y,c)=>e= .returned (.tuple #[nI (y:Nat),nI (c:Nat)])
structure VisInv (M:Nat) (W1 wr:Wq) (fb vb:Nat) (path:List ByteArray) (R:Except PErr (List Fd)) (O0:List Fd) (L:List Nc) (u:Value) (j:Nat) (v:Value) (O:List Fc):Prop where
 vis:VisS wr fb vb v O
 cnt:O.length+Nds.cnt ((Nc.nds L).drop j)<=M
 left:∃q,O.map Fc.f=O0++q/\moreF q (visKs ((Nc.nds L).drop j) path)=R
 row:newRow W1 u v
 keep:Keep W1 wr fb u.ownBlock
theorem ZdH {A:Value} {w:Wq} {r:Option Nat} (h:path= []\/A.ownBlock≠r):path.map Value.string= []\/A.ownBlock≠r:=h.imp (λe=>by rw[e];rfl) λe=>e
theorem Zmb (N M:Nat) (hN:N<=10000) (hM:M<=1000000):∀(h:Nat) (x:Nc) (pv:Value) (path:List ByteArray) (w:World) (fb vb:Nat) (u:Value) (O:List Fc),x.nd.ht<=h->x.nd.fd N->O.length+x.nd.cnt<=M->RdN w x->RStrs w pv path->path.length<=64->
 VisS w fb vb u O->awayN (some fb) x->awayN u.ownBlock x->(path= []\/pv.ownBlock≠some fb)->(path= []\/pv.ownBlock≠u.ownBlock)->
 Calls prog 30 #[.agg (cellsN x).toArray,pv,.pointer (some ⟨fb,0,none⟩),.pointer (some ⟨vb,0,none⟩)] w λe w'=>VisRet w w' fb vb u O e (visP x.nd path)/\Keep w w' fb u.ownBlock:=by
 intro h
 induction h with
 |zero=>intro x pv path w fb vb u O gL;exact absurd (ZiO x.nd) om
 |succ h ih=>
 intro x pv path w fb vb u O gL hU go hr hp f4 hv fh fi fY fZ;obtain ⟨i0,dA,dF,gC,dG⟩:=YH ZmT;obtain ⟨s0,dH,dI,dJ,dK⟩:=YH ZkZ;obtain ⟨k,s,n,al,l0,ks,kids,t,a⟩:=x;have f5:=hr;rw[RdN] at hr;rw[awayN] at fh fi;obtain ⟨fS,gq,fW⟩:=hr;have gT:=(XC kids).1 fW;have gR:=(Yr kids).1 fh.2.2;have gS:=(Yr kids).1 fi.2.2;rw[Nc.nd] at gL hU go|-;rw[Nd.ht] at gL;rw[Nd.fd] at hU;rw[Nd.cnt] at go;rw[visP,Eg,<-QJ];have fV:=hU.2.2.2.2.2.2.2.2;have dC:kids.length<=N:=by have:=hU.2.2.2.2.2.1;rwa [Jw] at this
 obtain ⟨A,c,dx, -, -⟩:=fS.form;obtain ⟨B,d,dD, -, -⟩:=RNs.form gq;obtain ⟨PA,pc,rfl, -, -⟩:=hp.form;have g8:=gd (λw' (hx:Ext w w')=>Iy (.mk k s n al l0 ks kids t a) [] outlineL w' (RdN.ext hx _ f5) (by show kids.length<=_;omega));simp only[cellsN,Nc.kids,Vy,Va] at g8|-;obtain ⟨L,hL⟩:∃L,kids.filter (isKid [] outlineL)=L:=⟨_,rfl⟩;have ga:∀y∈L,y∈kids/\isEl outlineL y.nd=true:=λy hy=>by rw[<-hL,YW] at hy;exact ⟨hy.1,by rw[<-ZgP];exact hy.2⟩
 have HY:=gd (λy (hy:y∈L)=>(⟨gT y (ga y hy).1,(Nds.fd_iff _).1 fV y.nd (by rw[Je];exact Yc (ga y hy).1),(by
  have:=Zcf (x:=y.nd) (l:=Nc.nds kids) (by rw[Je];exact Yc (ga y hy).1);omega),(ga y hy).2,gR y (ga y hy).1,gS y (ga y hy).1⟩:RdN w y/\y.nd.fd N/\y.nd.ht<=h/\isEl outlineL y.nd=true/\awayN (some fb) y/\awayN u.ownBlock y))
 have dj:Hid (O.length+Nds.cnt (Nc.nds L)<=M):=gd (by
  have h1:=ZbN (isEl outlineL) (Nc.nds kids);rw[<-QJ,hL] at h1;omega)
 have dk:Hid (L.length<=N):=gd (by
  have:=(List.filter_sublist (p:=isKid [] outlineL) (l:=kids)).length_le;rw[hL] at this;omega)
 rw[hL] at g8|-;have dg:=gd ih;have HP:=gd hp;have fA:=gd fY;have fB:=gd fZ;have HV:=gd hv;have fa:=gd hv.lt;subst dx;subst dD;have gI:=gd f4;obtain ⟨R,hR⟩:∃R,visKs (Nc.nds L) path=R:=⟨_,rfl⟩;rw[hR];have HR:=gd hR;have f6:=(Ext.refl w).alloc (.cells #[.int .i64 (k:Nat),.string (str s),.string (str n),.slice A l0.length c,.slice B kids.length d,.string (str t),.int .i64 (a:Nat)] 25);have fE:=gd f6;have fv:Hid (fb<w.heap.size):=gd (ZP.1 hv.fbk).1;clear ih hp hL ga gT fW gq fS f5 fV hU go gL hR dC f4 f6 fh fi gR gS fY fZ hv;go_enter func30,ntmps30
 go_wp2_with (first|(go_at_call 29;refine Za (g8.out _ fE.out) ?_;rintro e W1 ⟨kv,rfl,hk,f7⟩;obtain ⟨U,uc,fX⟩:=Ym hk;subst fX))
 have h9:=gd (fE.out.trans f7);have dh:=gd hk;have fx:Hid (L= []\/((Value.slice U L.length uc).ownBlock≠some fb/\(Value.slice U L.length uc).ownBlock≠u.ownBlock)):=gd (by
  by_cases hl:L= []
  ·exact Or.inl hl
  ·right;obtain ⟨g,hg, -⟩:=RSl.old (RSl.of_own hk) (Zb4 hl);have h1:=(hk.lt g hg).1;rw[Zu] at h1;rw[hg];refine ⟨λe=>by injection e with e;have:=fv.out;omega,λe=> ?_⟩;have:=(HV.out.hf.row.lt g e.symm).2;omega)
 clear hk f7;go_loopw [18] (λv wr=>∃(j:Nat) (uj:Value) (Oj:List Fc),j<=L.length/\v= .int .i64 j/\VisInv M W1 wr fb vb path R (O.map Fc.f) L u j uj Oj) (λv _=>L.length - (intOf v).toNat)
 case atStart=>exact ⟨0,u,O,Zj _,rfl,HV.out.ext h9.out,(by rw[Jm];exact dj.out),⟨[],(ZV _).symm,(by rw[Jm];exact (VN _).trans HR.out)⟩,newRow.refl _ _,Keep.refl _ _ _⟩
 case round=>
  obtain ⟨j,uj,Oj,hj,rfl,X⟩:=hrel;have dQ:=dk.out;have gk:Keep w wr fb u.ownBlock:=Keep.ext_left h9.out X.keep;by_cases gr:j<L.length;have gq:RNs wr (.slice U L.length uc) L:=RSl.keep (RSl.of_own dh.out) X.keep (fx.out.elim (λe=>Or.inl (by rw[e];rfl)) λe=>Or.inr e.1) (fx.out.elim (λe=>Or.inl (by rw[e];rfl)) λe=>Or.inr e.2);obtain ⟨ad,c',hv,fT⟩:=gq.at gr;injection hv with hv1 hv2 hv3;subst hv1;clear hv2 hv3 gq;have dN:(0:Int)<=(j:Int):=om
  have dS:(j:Int)<(L.length:Int):=om
  obtain ⟨gB,gl,fq,fp,gh,gz⟩:=HY.out L[j] (ZL gr);have ge:=Zhg gr;have fk:Oj.length+(L[j].nd.cnt+Nds.cnt ((Nc.nds L).drop (j+1)))<=M:=by have:=X.cnt;rw[ge,Nds.cnt] at this;exact this
  obtain ⟨q0,gt,hH⟩:=X.left;rw[ge] at hH;have da:=ZiI gl;have hV:=RdN.sl gB;have fo:=Ze6 L[j].nd;have gA:=X.row.away (RdN.ext h9.out _ gB) gz;have gi:RdN wr L[j]:=RdN.keep gB gk gh gz;obtain ⟨y,dc⟩:∃y,L[j]=y:=⟨_,rfl⟩;rw[dc] at fT gB gl fq fp fk hH da hV fo gh gA gi;have hE:attrL y.nd xmlUrlL=attrN y.attrs [] xmlUrlL:=Zf0 y _;have fK:(attrL y.nd htmlUrlL).getD []=(attrN y.attrs [] htmlUrlL).getD []:=by rw[Zf0]
  have fN:=Znb y;have gK:=ZpD y;have gX:(str (nameL y.nd)).size<=140737488351232:=by have:=EK gl;rw[YN];omega
  have gW:∀v,attrN y.attrs [] xmlUrlL=some v->(str v).size<=140737488351232:=λv hv=>by have:=GW gl (hE.trans hv);rw[YN];omega
  have fI:=gd gX;have ha:=gd (λw' (hx:RAts w' y.al y.attrs)=>Zf1 y [] xmlUrlL w' hx hV.2 om);have ho:=gd (λw' (v:Value) (hx:RAts w' y.al y.attrs) (hv:RSl w' 1 v 2 (strsV [textL,titleL]))=>Ej y v [textL,titleL] w' hx hV.2 om hv (by decide));have gD:=gd (λw' (v:Value) (hx:RAts w' y.al y.attrs) (hv:RSl w' 1 v 1 (strsV [htmlUrlL]))=>Ej y v [htmlUrlL] w' hx hV.2 om hv (by decide));have fc:Hid (∀(pv:Value) (path:List ByteArray) (w':World) (u':Value) (O':List Fc),Oj.length<=O'.length->O'.length<=Oj.length->RdN w' y->RStrs w' pv path->path.length<=64->VisS w' fb vb u' O'->awayN (some fb) y->awayN u'.ownBlock y->(path= []\/pv.ownBlock≠some fb)->(path= []\/pv.ownBlock≠u'.ownBlock)->
   Calls prog 30 #[.agg (cellsN y).toArray,pv,.pointer (some ⟨fb,0,none⟩),.pointer (some ⟨vb,0,none⟩)] w' λe w2=>VisRet w' w2 fb vb u' O' e (visP y.nd path)/\Keep w' w2 fb u'.ownBlock):=
   gd (λpv path w' u' O' dT dU h1 h2 h3 h4 h5 h6 h7 h8=>dg.out y pv path w' fb vb u' O' fq gl om h1 h2 h3 h4 h5 h6 h7 h8)
  rw[<-fN] at ho;rw[Gi,<-Ip] at gD;have dw:=gd gi;have fH:=gd gi.ats;have fF:=gd gh;have fG:=gd gA;have I:=gd hH;have gJ:=gd gt;have gj:=gd fp;have HE:=gd hE;have g9:=gd fK;have hY:=gd gW;have J:=gd X;have ff:=gd fo;have gE:=gd fk;have hX:=gd gk;have h0:=gd X.vis;have fC:Hid (RStrs wr (.slice PA path.length pc) path):=gd (RSl.keep HP.out gk (ZdH (w:=w) fA.out) (ZdH (w:=w) fB.out));have dm:Hid (path= []\/(Value.slice PA path.length pc).ownBlock≠uj.ownBlock):=gd (X.row.awayS (HP.out.ext h9.out) fB.out);clear ge hH dc gl fq fp da hE fK fN gX gW X gB fo fk gh gz gA gi gk gt;obtain ⟨⟨YA,ym,yc,f8⟩,⟨YB,hJ,yd,f9⟩⟩:=hV;obtain ⟨K9,hK⟩:∃K9,y.nd=K9:=⟨_,rfl⟩;obtain ⟨NM,gf⟩:∃NM,nameL y.nd=NM:=⟨_,rfl⟩;obtain ⟨XU,fR⟩:∃XU,attrN y.attrs [] xmlUrlL=XU:=⟨_,rfl⟩;obtain ⟨HU,fL⟩:∃HU,(attrN y.attrs [] htmlUrlL).getD []=HU:=⟨_,rfl⟩;rw[gf] at fI ho;rw[fR] at ha HE hY;rw[fL] at gD g9;rw[hK] at fc I gj HE g9 ff gE gK gf;have hP:=gd gf;have ft:=gd (λw'=>ZqO (str NM) w' fI.out);obtain ⟨yk,ys,yn,dV,yl,dW,dL,yt,ya⟩:=y;simp only[Nc.al,Nc.ks] at f8 f9;subst f8;subst f9;obtain ⟨a0,a1,a2,a3,a4,a5,a6⟩:=fT;simp only[Nc.kind,Nc.space,Nc.name,Nc.al,Nc.ks,Nc.text,Nc.at_,Nc.attrs,cellsN] at a0 a1 a2 a3 a4 a5 a6 ha gD ho fc gK fH;have g7:=gd gK;simp only[Vy,ZhV] at ha;clear gK hK gf fR fL;obtain ⟨W2,hu⟩:∃W2,wr.alloc (.cells #[.int .i64 (yk:Nat),.string (str ys),.string (str yn),.slice YA ym yc,.slice YB hJ yd,.string (str yt),.int .i64 (ya:Nat)] 25)=W2:=⟨_,rfl⟩;have fn:Ext wr W2:=by rw[<-hu];exact (Ext.refl wr).alloc _
  have fj:BxN W2 wr.heap.size yk ys yn (.slice YA ym yc) (.slice YB hJ yd) yt ya:=by rw[<-hu];exact Zg wr _
  have gV:W2.heap.size=wr.heap.size+1:=by rw[<-hu,Zu]
  have dO:=gd gV;have hs:=gd fn;have Y:=gd fj;have hW:Hid (RAts W2 (.slice YA ym yc) yl):=gd (fH.out.ext fn);have gm:Hid (RAts (W2.alloc (.cells #[.string ⟨#[116,101,120,116]⟩,.string ⟨#[116,105,116,108,101]⟩] 9)) (.slice YA ym yc) yl):=gd (hW.out.ext ((Ext.refl W2).alloc _));have gn:Hid (∀W:World,RSl (W.alloc (.cells #[.string ⟨#[116,101,120,116]⟩,.string ⟨#[116,105,116,108,101]⟩] 9)) 1 (.slice (some ⟨W.heap.size,0,none⟩) 2 2) 2 (strsV [textL,titleL])):=gd (λW=>Yo (cs:=strsV [textL,titleL]) rfl (by decide));obtain ⟨c0,c1,c2,c3,c4,c5,c6⟩:=fj.cells;clear fn fj gV;cases XU;have gC:attrL K9 xmlUrlL=none:=HE.out;unfold lookAns at ha;dsimp only at ha;have hb:=ft;unfold collapse at hb;rw[Z3] at hb;simp only[Vy] at ha;by_cases hc:coll NM= []
  ·rw[hc,Vy] at hb;have gb:R= .error (ya,19):=(by have h1:=I.out;rw[Zhe gj.out HE.out (by rw[hP.out];exact hc),g7.out] at h1;exact h1.symm);clear hY I hc gC;subst gb
   go_wp2_with (first|(refine Zf rfl 25 (.tmp 9) (.tmp 21) rfl wr.heap.size _ rfl rfl _ _ (Zg _ _) ZJ rfl YU ?_;rw[Z0];rw[hu])|(go_at_call 28;refine Za (ho.out _ _ gm.out (gn.out _)) ?_;rintro e W3 ⟨rfl,H⟩;obtain ⟨d0,d1,d2,d3,d4,d5,d6⟩:=(Y.out.ext (((Ext.refl W2).alloc _).trans H)).cells;have D:=((Ext.refl W2).alloc (.cells #[.string ⟨#[116,101,120,116]⟩,.string ⟨#[116,105,116,108,101]⟩] 9)).trans H)|(go_at_call 31;refine Za (ha.out _ (hW.out.ext D)) ?_;rintro e W4 ⟨rfl,Q⟩;obtain ⟨e0,e1,e2,e3,e4,e5,e6⟩:=(Y.out.ext (D.trans Q)).cells)|(go_at_call 32;refine Za (hb.out _) ?_;rintro e W5 ⟨rfl,Z⟩;obtain ⟨g0,g1,g2,g3,g4,g5,g6⟩:=(Y.out.ext ((D.trans Q).trans Z)).cells))
   go_ret2
   exact ⟨rfl,hX.out.ext (((hs.out.trans D).trans Q).trans Z)⟩
  by_cases fg:path.length=64
  ·have fU:((path.length:Int)==64)=true:=(by rw[JI];omega);have gP:64<=path.length:=om;have gM:=V4 hc;have gb:R= .error (ya,9):=(by have h1:=I.out;rw[Zi6 gj.out HE.out (by rw[hP.out];exact hc) gP,g7.out] at h1;exact h1.symm);clear hY I hc gC fg gP;subst gb
   go_wp2_with (first|(refine Zf rfl 25 (.tmp 9) (.tmp 21) rfl wr.heap.size _ rfl rfl _ _ (Zg _ _) ZJ rfl YU ?_;rw[Z0];rw[hu])|(go_at_call 28;refine Za (ho.out _ _ gm.out (gn.out _)) ?_;rintro e W3 ⟨rfl,H⟩;obtain ⟨d0,d1,d2,d3,d4,d5,d6⟩:=(Y.out.ext (((Ext.refl W2).alloc _).trans H)).cells;have D:=((Ext.refl W2).alloc (.cells #[.string ⟨#[116,101,120,116]⟩,.string ⟨#[116,105,116,108,101]⟩] 9)).trans H)|(go_at_call 31;refine Za (ha.out _ (hW.out.ext D)) ?_;rintro e W4 ⟨rfl,Q⟩;obtain ⟨e0,e1,e2,e3,e4,e5,e6⟩:=(Y.out.ext (D.trans Q)).cells)|(go_at_call 32;refine Za (hb.out _) ?_;rintro e W5 ⟨rfl,Z⟩;obtain ⟨g0,g1,g2,g3,g4,g5,g6⟩:=(Y.out.ext ((D.trans Q).trans Z)).cells))
   go_ret2
   exact ⟨rfl,hX.out.ext (((hs.out.trans D).trans Q).trans Z)⟩
  focus
   have fU:((path.length:Int)==64)=false:=(by rw[Zv];omega)
   have gM:=V4 hc
   have gc:=I.out
   rw[Zep gj.out HE.out (by rw[hP.out];exact hc) (by have:=gI.out;omega),hP.out] at gc
   have HN:=gd gc
   have dd:=gd fg
   clear hY I gc hc fg gC
   obtain ⟨OA,oc,fl⟩:=Ym h0.out.hf.row
   subst fl
   go_wp2_with (first|(refine Zf rfl 25 (.tmp 9) (.tmp 21) rfl wr.heap.size _ rfl rfl _ _ (Zg _ _) ZJ rfl YU ?_;rw[Z0];rw[hu])|(go_at_call 28;refine Za (ho.out _ _ gm.out (gn.out _)) ?_;rintro e W3 ⟨rfl,H⟩;obtain ⟨d0,d1,d2,d3,d4,d5,d6⟩:=(Y.out.ext (((Ext.refl W2).alloc _).trans H)).cells;have D:=((Ext.refl W2).alloc (.cells #[.string ⟨#[116,101,120,116]⟩,.string ⟨#[116,105,116,108,101]⟩] 9)).trans H)|(go_at_call 31;refine Za (ha.out _ (hW.out.ext D)) ?_;rintro e W4 ⟨rfl,Q⟩;obtain ⟨e0,e1,e2,e3,e4,e5,e6⟩:=(Y.out.ext (D.trans Q)).cells)|(go_at_call 32;refine Za (hb.out _) ?_;rintro e W5 ⟨rfl,Z⟩;obtain ⟨g0,g1,g2,g3,g4,g5,g6⟩:=(Y.out.ext ((D.trans Q).trans Z)).cells))
   have S:=(D.trans Q).trans Z
   have hC:=gd (hs.out.trans S)
   have gO:Hid (w.heap.size<=wr.heap.size/\wr.heap.size<=W5.heap.size):=gd ⟨hX.out.size,(hs.out.trans S).size⟩
   have hh:=gd (Y.out.ext S)
   have hZ:=gd (h0.out.ext (hs.out.trans S))
   have gH:=gd (fC.out.ext (hs.out.trans S))
   have gN:=gd ((ZeN (n:=path.length) (m:=0) (by have:=gI.out;omega)).2)
   clear a0 a1 a2 a3 a4 a5 a6 c0 c1 c2 c3 c4 c5 c6 d0 d1 d2 d3 d4 d5 d6 e0 e1 e2 e3 e4 e5 e6 g0 g1 g2 g3 g4 g5 g6 H D Q Z S hu gM ho ha hb ft fU
   obtain ⟨f0,f1,f2⟩:=hZ.out.cell
   refine rN ?_
   change wpAny _ _ _ _ _ _ _ (World.drew _)
   have hB:=(Ext.refl W5).drew
   have hQ:W5.drew.cell? ⟨vb,0,none⟩=some (.func (.func 30) #[] #[.pointer (some ⟨fb,0,none⟩),.pointer (some ⟨vb,0,none⟩)])/\BxN W5.drew wr.heap.size yk ys yn (.slice YA ym yc) (.slice YB hJ yd) yt ya:=⟨hB.cell f2,hh.out.ext hB⟩
   refine YD (λw'=>w'.cell? ⟨vb,0,none⟩=some (.func (.func 30) #[] #[.pointer (some ⟨fb,0,none⟩),.pointer (some ⟨vb,0,none⟩)])/\BxN w' wr.heap.size yk ys yn (.slice YA ym yc) (.slice YB hJ yd) yt ya) ?_
   refine tS 0 (.func (.func 30) #[] #[.pointer (some ⟨fb,0,none⟩),.pointer (some ⟨vb,0,none⟩)]) rfl (λw' hS=>by have hq:=hS.1;go_simp) hQ ?_
   refine tS 1 (.agg #[.int .i64 (yk:Nat),.string (str ys),.string (str yn),.slice YA ym yc,.slice YB hJ yd,.string (str yt),.int .i64 (ya:Nat)]) rfl (λw' hS=>by obtain ⟨q0,q1,q2,q3,q4,q5,q6⟩:=BxN.cells hS.2;go_simp) hQ ?_
   refine tG 2 (.slice PA path.length pc) hQ ?_
   refine tG 4 (.string (str NM)) hQ ?_
   go_simp
   refine ZjH (i:=3) (j:=5) rfl rfl (by kernel_rfl) (λK hK=> ?_) (λK hK=> ?_)
  focus
   skip
   go_simp
   go_at_call 33
   have hz:=G0 (.slice PA path.length pc) path.length (path.map Value.string) W5.drew (gH.out.ext hB) (Zan _) gN.out
   with_reducible refine Za hz ?_
   clear hz
   rintro e w3 ⟨v3,rfl,hm,H⟩
   obtain ⟨PB,pb,fm⟩:=Ym hm
   subst fm
   have gx:=hB.trans H
   refine hK _ _ ⟨gx.cell f2,hh.out.ext gx⟩ ?_
   clear hK K
   refine sS 5 λK hK=> ?_
   go_simp
   have hA:=gx.alloc (.cells #[.string (str NM)] 9)
   have gG:Hid ((w3.alloc (.cells #[.string (str NM)] 9)).ownsRow W5.heap.size 9 1 (.slice PB path.length pb) path.length (path.map Value.string)):=gd (Ya hm ((Ext.refl w3).alloc _))
   have hO:Hid (RSl (w3.alloc (.cells #[.string (str NM)] 9)) 1 (.slice (some ⟨w3.heap.size,0,none⟩) 1 1) 1 ([str NM].map Value.string)):=gd (Yo rfl (by decide))
  rotate_left
  focus
   skip
   go_simp
   have H:=(((Ext.refl W5).alloc (.cells #[.string (str NM)] 9)).drew)
   have dl:Hid (RSl (W5.alloc (.cells #[.string (str NM)] 9)).drew 1 (.slice (some ⟨W5.heap.size,0,none⟩) 1 1) 1 ([str NM].map Value.string)):=gd (RSl.ext (Yo (w:=W5) (cs:= [str NM].map Value.string) rfl (by decide)) (Ext.refl _).drew)
   refine hK _ _ ⟨H.cell f2,hh.out.ext H⟩ ?_
   clear hK K
   refine sS 3 λK hK=> ?_
   go_simp
   go_at_call 33
   have hz:=G0 (.slice PA path.length pc) path.length (path.map Value.string) (W5.alloc (.cells #[.string (str NM)] 9)).drew (gH.out.ext H) (Zan _) gN.out
   with_reducible refine Za hz ?_
   clear hz
   rintro e w6 ⟨v3,rfl,hm,gZ⟩
   obtain ⟨PB,pb,fm⟩:=Ym hm
   subst fm
   have hA:=H.trans gZ
   have gG:Hid (w6.ownsRow W5.heap.size 9 1 (.slice PB path.length pb) path.length (path.map Value.string)):=gd (X4 hm H.size)
   have hO:Hid (RSl w6 1 (.slice (some ⟨W5.heap.size,0,none⟩) 1 1) 1 ([str NM].map Value.string)):=gd (RSl.ext dl.out gZ)
  rotate_left
  ·rename_i id;unfold lookAns at ha;dsimp only at ha;have gQ:=hY.out id rfl;have hb:=gd (λw'=>ZqO (str id) w' gQ);unfold collapse at hb;rw[Z3] at hb;clear gQ;by_cases hc:coll id= []
   ·rw[hc,Vy] at hb;have gb:R= .error (ya,19):=(by have h1:=I.out;rw[Zls gj.out HE.out hc,g7.out] at h1;exact h1.symm);clear hY I hc;subst gb
    go_wp2_with (first|(refine Zf rfl 25 (.tmp 9) (.tmp 21) rfl wr.heap.size _ rfl rfl _ _ (Zg _ _) ZJ rfl YU ?_;rw[Z0];rw[hu])|(go_at_call 28;refine Za (ho.out _ _ gm.out (gn.out _)) ?_;rintro e W3 ⟨rfl,H⟩;obtain ⟨d0,d1,d2,d3,d4,d5,d6⟩:=(Y.out.ext (((Ext.refl W2).alloc _).trans H)).cells;have D:=((Ext.refl W2).alloc (.cells #[.string ⟨#[116,101,120,116]⟩,.string ⟨#[116,105,116,108,101]⟩] 9)).trans H)|(go_at_call 31;refine Za (ha.out _ (hW.out.ext D)) ?_;rintro e W4 ⟨rfl,Q⟩;obtain ⟨e0,e1,e2,e3,e4,e5,e6⟩:=(Y.out.ext (D.trans Q)).cells)|(go_at_call 32;refine Za (hb.out _) ?_;rintro e W5 ⟨rfl,Z⟩;obtain ⟨g0,g1,g2,g3,g4,g5,g6⟩:=(Y.out.ext ((D.trans Q).trans Z)).cells))
    go_ret2
    exact ⟨rfl,hX.out.ext (((hs.out.trans D).trans Q).trans Z)⟩
   ·skip
    have gc:=I.out;rw[Zcu gj.out HE.out hc] at gc;have gM:=V4 hc;have HN:=gd gc;clear hY I gc hc;obtain ⟨OA,oc,fl⟩:=Ym h0.out.hf.row;subst fl
    go_wp2_with (first|(refine Zf rfl 25 (.tmp 9) (.tmp 21) rfl wr.heap.size _ rfl rfl _ _ (Zg _ _) ZJ rfl YU ?_;rw[Z0];rw[hu])|(go_at_call 28;refine Za (ho.out _ _ gm.out (gn.out _)) ?_;rintro e W3 ⟨rfl,H⟩;obtain ⟨d0,d1,d2,d3,d4,d5,d6⟩:=(Y.out.ext (((Ext.refl W2).alloc _).trans H)).cells;have D:=((Ext.refl W2).alloc (.cells #[.string ⟨#[116,101,120,116]⟩,.string ⟨#[116,105,116,108,101]⟩] 9)).trans H)|(go_at_call 31;refine Za (ha.out _ (hW.out.ext D)) ?_;rintro e W4 ⟨rfl,Q⟩;obtain ⟨e0,e1,e2,e3,e4,e5,e6⟩:=(Y.out.ext (D.trans Q)).cells)|(go_at_call 32;refine Za (hb.out _) ?_;rintro e W5 ⟨rfl,Z⟩;obtain ⟨g0,g1,g2,g3,g4,g5,g6⟩:=(Y.out.ext ((D.trans Q).trans Z)).cells))
    have S:=(D.trans Q).trans Z;have hC:=gd (hs.out.trans S);have hh:=gd (Y.out.ext S);have hZ:=gd (h0.out.ext (hs.out.trans S));have dv:=gd (hW.out.ext S);have gH:=gd (fC.out.ext (hs.out.trans S));clear a0 a1 a2 a3 a4 a5 a6 c0 c1 c2 c3 c4 c5 c6 d0 d1 d2 d3 d4 d5 d6 e0 e1 e2 e3 e4 e5 e6 g0 g1 g2 g3 g4 g5 g6 H D Q Z S hu gM ho ha hb;obtain ⟨f0,f1,f2⟩:=hZ.out.cell;refine rN ?_;change wpAny _ _ _ _ _ _ _ (World.drew _);have hB:=(Ext.refl W5).drew;have hQ:W5.drew.cell? ⟨fb,0,none⟩=some (.slice OA Oj.length oc)/\BxN W5.drew wr.heap.size yk ys yn (.slice YA ym yc) (.slice YB hJ yd) yt ya:=⟨hB.cell f0,hh.out.ext hB⟩;refine tH 1 (.slice PA path.length pc) ?_;refine tH 2 (.string (str id)) ?_;refine tH 3 (.string (str NM)) ?_;refine XS (i:=0) (v:= .slice OA Oj.length oc) (λw'=>w'.cell? ⟨fb,0,none⟩=some (.slice OA Oj.length oc)/\BxN w' wr.heap.size yk ys yn (.slice YA ym yc) (.slice YB hJ yd) yt ya) 10 rfl (by kernel_rfl) (λ_ _ _ h=>h) (Or.inl ⟨by rfl,λw' hS=>by have hq:=hS.1;go_simp⟩) hQ ?_;refine tT 4 (.agg #[.int .i64 (yk:Nat),.string (str ys),.string (str yn),.slice YA ym yc,.slice YB hJ yd,.string (str yt),.int .i64 (ya:Nat)]) rfl (λw' hS=>by obtain ⟨q0,q1,q2,q3,q4,q5,q6⟩:=BxN.cells hS.2;go_simp) hQ ?_;go_simp;refine GS (i:=5) rfl (by kernel_rfl) (λK hK=> ?_);go_simp;have gy:=((Ext.refl W5).alloc (.cells #[.string ⟨#[104,116,109,108,85,114,108]⟩] 9)).drew;have dr:Hid (RSl (W5.alloc (.cells #[.string ⟨#[104,116,109,108,85,114,108]⟩] 9)).drew 1 (.slice (some ⟨W5.heap.size,0,none⟩) 1 1) 1 (strsV [htmlUrlL])):=gd (RSl.ext (Yo (w:=W5) (cs:=strsV [htmlUrlL]) rfl (by decide)) (Ext.refl _).drew);refine hK _ _ ⟨gy.cell f0,hh.out.ext gy⟩ ?_;clear hK K;refine GS (i:=6) rfl (by kernel_rfl) (λK hK=> ?_);go_simp;go_at_call 28;have hz:=gD.out _ _ (dv.out.ext gy) dr.out
    with_reducible refine Za hz ?_
    clear hz;rintro e w6 ⟨rfl,hA⟩;have hD:=gy.trans hA;refine hK _ _ ⟨hD.cell f0,hh.out.ext hD⟩ ?_;clear hK K;refine GS (i:=7) rfl (by kernel_rfl) (λK hK=> ?_);go_simp;refine hK _ _ ⟨hD.cell f0,hh.out.ext hD⟩ ?_;clear hK K;refine XQ 10 [] (AtIx.cons rfl AtIx.nil) [8,9] (AtIx.cons rfl (AtIx.cons rfl AtIx.nil)) rfl (by kernel_rfl) ?_;refine Yg (λK hK=> ?_);go_simp;have hI:=hD.alloc (.cells #[.slice PA path.length pc,.string (str id),.string (str NM),.string (str HU),.int .i64 (-62135596800),.slice none 0 0] 55);refine hK _ _ ⟨hI.cell f0,hh.out.ext hI⟩ ?_;clear hK K;have HF:Hid (opFd path K9 id=⟨path,str id,str NM,str HU, -62135596800,[]⟩):=gd (by unfold opFd;rw[hP.out,g9.out]);obtain ⟨F,hF⟩:∃F:Fc,F=⟨.slice PA path.length pc,.slice none 0 0,⟨path,str id,str NM,str HU, -62135596800,[]⟩⟩:=⟨_,rfl⟩;have df:=gd hF;have fz:Hid (∀u∈cellsC F,u.oneCell'=true):=gd (by rw[hF];exact Jv ⟨⟨_,_,_,rfl⟩,⟨_,_,_,rfl⟩⟩);have hO:Hid (RSl (w6.alloc (.cells #[.slice PA path.length pc,.string (str id),.string (str NM),.string (str HU),.int .i64 (-62135596800),.slice none 0 0] 55)) 6 (.slice (some ⟨w6.heap.size,0,none⟩) 1 1) 1 (cellsC F)):=gd (by rw[hF];exact Yo rfl (by decide));have fw:=gd (ZkI (n:=Oj.length) (m:=1) (by have:=gE.out;have:=ff.out;omega));have hG:=gd (hZ.out.ext hI);have dp:Hid (RdC (w6.alloc (.cells #[.slice PA path.length pc,.string (str id),.string (str NM),.string (str HU),.int .i64 (-62135596800),.slice none 0 0] 55)) F):=gd (by rw[hF];exact ⟨gH.out.ext hI,RSl.nil _ 5⟩);have de:Hid (awayC F (Value.slice OA Oj.length oc).ownBlock):=gd (by rw[hF];exact ⟨dm.out,Or.inl rfl⟩);have fu:Hid (awayC F (some fb)):=gd (by rw[hF];exact ⟨fA.out,Or.inl rfl⟩);clear hF;refine Yg (λK hK=> ?_);refine Z1 _ (by rfl) (.tmp 36) (.tmp 44) _ (by rfl) (vb+1) 55 i0 _ 6 104 underlying29 dA dF gC dG rfl (by decide) _ Oj.length (flatC Oj) (by rfl) hG.out.hf.row _ 1 (cellsC F) (by rfl) hO.out fz.out fw.out.1 fw.out.2 (by have:=(ZP.1 hG.out.vbk).1;omega) ?_;intro v8 w8 V hw hT;have fM:=HFs.snoc hG.out.hf dp.out de.out V hw hT;have fJ:=(hh.out.ext hI).grown hw (λe=>by have h1:=(h0.out.hf.row.lt _ e).2;omega);have gg:=hw.cell (hI.cell f0) (λe=>hG.out.row_ne (Nat.le_of_lt fa.out) e.symm);obtain ⟨OB,ob,dE⟩:=Ym V;subst dE;have ds:=gd (hG.out.store hw fM (λx hx=>(Zs.1 hx).elim (hG.out.far x) λh=>by rw[Zo.1 h];exact fu.out));have dM:w8.frozen? ⟨fb,0,none⟩=false:=(World.frozen?_of_block (a:=⟨fb,0,none⟩) (hw.block fb (by have:=(ZP.1 hG.out.fbk).1;omega) (λe=>hG.out.row_ne (Nat.le_of_lt fa.out) e.symm))).trans hG.out.cell.2.1;have gF:=gd (((Keep.of_ext fb (Value.slice OA Oj.length oc).ownBlock (hC.out.trans hI)).trans (Keep.of_grown fb hw) (λk e=>Or.inl e)).cell_ 0 (.slice OB (Oj.length+1) ob));have fD:Hid (newRow wr (Value.slice OA Oj.length oc) (Value.slice OB (Oj.length+1) ob)):=gd (hT.imp (λe=>e) λe g hg=>by
     rw[e] at hg;injection hg with hg;have h1:=(hC.out.trans hI).size;omega)
    refine hK _ _ ⟨gg,fJ⟩ ?_;clear hK K V hw hT fM fJ;refine X0 ?_;clear hI hD gy hA hB hQ f0 f1 f2;go_wp2;go_roundw
    case rel=>exact ⟨j+1,_,Oj++ [F],gr,by go_num,ds.out,(by rw[Zb,V8];have:=gE.out;have:=ff.out;omega),⟨q0++ [opFd path K9 id],(by rw[ZS,List.map_singleton,df.out,HF.out,gJ.out,Zt]),HN.out⟩,(J.out.row.trans fD.out J.out.keep.size),J.out.keep.trans gF.out (J.out.row.hr J.out.keep.size)⟩
    case measure=>simp[intOf];omega
  ·have dB:j=L.length:=om;subst dB;obtain ⟨q0,gt,fP⟩:=X.left;rw[ZC (by rw[Jw];omega),Zlt] at fP;subst fP;have J:=gd X;have hX:=gd gk;have gJ:=gd gt;clear X gk HR gt;go_wp2
   go_ret2
   exact ⟨⟨rfl,uj,Oj,J.out.vis,gJ.out,J.out.row.mono h9.out.size⟩,hX.out⟩
  all_goals
   refine hK _ _ ⟨hA.cell f2,hh.out.ext hA⟩ ?_
   clear hK K
   have fe:=gd (ZeN (n:=path.length) (m:=1) (by have:=gI.out;omega))
   refine sS 6 λK hK=> ?_
   refine Z1 _ (by rfl) (.tmp 62) (.tmp 64) _ (by rfl) W5.heap.size 9 s0 _ 1 16 underlying52 dH dI dJ dK rfl (by decide) _ path.length (path.map Value.string) (by rfl) gG.out _ 1 ([str NM].map Value.string) (by rfl) hO.out (Zan _) fe.out.1 fe.out.2 hA.size ?_
   intro v8 w8 V hw hT
   have hn:Ext W5 w8:=Ext.app hA hw gG.out (Zc _)
   obtain ⟨PC,fr,f3⟩:=Ym V
   subst f3
   have fQ:RStrs w8 (.slice PC (path.length+1) fr) (path++ [str NM]):=by
    unfold RStrs
    rw[ZS,Zb]
    exact RSl.of_own V
   have gs:path.map Value.string++ [str NM].map Value.string≠ []:=(by simp)
   have gg:(Value.slice PC (path.length+1) fr).ownBlock≠some fb:=ZkG V gs (YZ fv.out (Zp gO.out.1 gO.out.2))
   have gY:(Value.slice PC (path.length+1) fr).ownBlock≠(Value.slice OA Oj.length oc).ownBlock:=Ziq hZ.out.hf.row V gs
   have dq:=gd fQ
   have dP:=gd hn
   clear V hw hT gG hO fe fQ gs
   refine hK _ _ ⟨hn.cell f2,hh.out.ext hn⟩ ?_
   clear hK K
   refine sS 7 λK hK=> ?_
   go_simp
   go_at_call 30
   have hz:=fc.out _ _ w8 _ Oj (Zc _) (Zc _) (RdN.ext (hC.out.trans hn) _ dw.out) dq.out (by rw[Zb];have:=dd.out;have:=gI.out;simp only[Zd,ZK];omega) (hZ.out.ext hn) fF.out fG.out (Or.inr gg) (Or.inr gY)
   with_reducible refine Za hz ?_
   clear hz gg gY
   rintro e w9 ⟨hi,gp⟩
   have hd:BxN w9 wr.heap.size yk ys yn (.slice YA ym yc) (.slice YB hJ yd) yt ya:=gp.heap (hh.out.ext hn) (by have:=(ZP.1 h0.out.fbk).1;omega) (λe=>by have:=(h0.out.hf.row.lt _ e.symm).2;omega)
   have he:=gp.cell (hn.cell f2) (by have:=fa.out;show vb≠fb;omega) (λe=>hZ.out.row_ne (Zc _) e.symm)
   have gF:=gd (Keep.ext_left (hC.out.trans hn) gp)
   have du:=gd (hC.out.trans hn).size
   cases hv:visP K9 (path++ [str NM]) with
   |error yc9=>
    obtain ⟨y9,c9⟩:=yc9
    have dy:=Zc1 K9 _ hv
    have dR:((c9:Int) !=0)=true:=(by rw[Xk];omega)
    have gb:R= .error (y9,c9):=by
     have h1:=HN.out
     rw[hv] at h1
     exact h1.symm
    rw[hv] at hi
    unfold VisRet at hi
    dsimp only at hi
    subst hi
    subst gb
    clear hv dy HN
    refine hK _ _ ⟨he,hd⟩ ?_
    clear hK K
    refine sS 8 λK hK=> ?_
    go_simp
    refine hK _ _ ⟨he,hd⟩ ?_
    clear hK K
    refine tG 9 (.int .i64 (y9:Nat)) ⟨he,hd⟩ ?_
    refine tG 10 (.int .i64 (c9:Nat)) ⟨he,hd⟩ ?_
    go_simp
    refine sS 11 λK hK=> ?_
    go_simp
    refine hK _ _ ⟨he,hd⟩ ?_
    clear hK K
    refine sS 12 λK hK=> ?_
    go_simp
    refine hK _ _ ⟨he,hd⟩ ?_
    clear hK K
    refine sE ?_
    clear he hd gp hn hA hB f0 f1 f2
    go_wp2
    go_ret2
    exact ⟨rfl,hX.out.trans gF.out ((J.out.row.mono h9.out.size).hr h9.out.size)⟩
   |ok l9=>
    have gU:=Zh4 K9 _ _ hv
    rw[hv] at hi HN
    unfold VisRet at hi
    dsimp only at hi
    obtain ⟨dz,u9,O9,gw,fO,gu⟩:=hi
    subst dz
    have dt:=gd gw
    have fy:=gd fO
    have dn:=gd gu
    have di:=gd gU
    clear hv gw fO gu gU
    refine hK _ _ ⟨he,hd⟩ ?_
    clear hK K
    refine sS 8 λK hK=> ?_
    go_simp
    refine hK _ _ ⟨he,hd⟩ ?_
    clear hK K
    refine tG 9 (.int .i64 0) ⟨he,hd⟩ ?_
    refine tG 10 (.int .i64 0) ⟨he,hd⟩ ?_
    go_simp
    refine sS 11 λK hK=> ?_
    go_simp
    refine hK _ _ ⟨he,hd⟩ ?_
    clear hK K
    refine sS 12 λK hK=> ?_
    go_simp
    refine hK _ _ ⟨he,hd⟩ ?_
    clear hK K
    refine sE ?_
    clear he hd gp hn hA hB f0 f1 f2
    go_wp2
    go_roundw
    case rel=>exact ⟨j+1,u9,O9,gr,by go_num,dt.out,(by
     have h1:=Zz List.length fy.out
     rw[Zb,Zq,Zq] at h1
     have:=gE.out
     have:=di.out
     omega),⟨q0++l9,(by rw[fy.out,gJ.out,Zt]),HN.out⟩,(J.out.row.trans (dn.out.mono du.out) J.out.keep.size),J.out.keep.trans gF.out (J.out.row.hr J.out.keep.size)⟩
    case measure=>simp[intOf];omega
end
def laysSlF06_f69_ren:Go.Shelf.Ren:=⟨fun|6=>69|15=>116|14=>115|28=>169|29=>170|20=>161|21=>162|22=>163|23=>164|24=>165|25=>166|26=>167|27=>168|46=>203|47=>204|48=>205|49=>206|50=>207|57=>228|n=>n,fun|22=>29|24=>55|25=>78|3=>3|39=>89|0=>0|53=>141|55=>144|4=>4|46=>221|45=>220|50=>163|5=>5|9=>9|66=>252|70=>256|76=>275|77=>148|n=>n,fun|n=>n⟩
theorem laysSlF06_f69:Go.Proofs.SlLaysF0.n6 prog laysSlF06_f69_ren:={
 mixed:=by kernel_rfl
 f6:=⟨f69.name,by decide,func69.trans (Zz some (by kernel_rfl))⟩
 f14:=⟨f115.name,by decide,func115.trans (Zz some (by kernel_rfl))⟩
 f15:=func116.trans (Zz some (by kernel_rfl))
 f20:=⟨f161.name,by decide,func161.trans (Zz some (by kernel_rfl))⟩
 f21:=⟨f162.name,by decide,func162.trans (Zz some (by kernel_rfl))⟩
 f22:=⟨f163.name,by decide,func163.trans (Zz some (by kernel_rfl))⟩
 f23:=⟨f164.name,by decide,func164.trans (Zz some (by kernel_rfl))⟩
 f24:=⟨f165.name,by decide,func165.trans (Zz some (by kernel_rfl))⟩
 f25:=⟨f166.name,by decide,func166.trans (Zz some (by kernel_rfl))⟩
 f26:=⟨f167.name,by decide,func167.trans (Zz some (by kernel_rfl))⟩
 f27:=⟨f168.name,by decide,func168.trans (Zz some (by kernel_rfl))⟩
 f28:=func169.trans (Zz some (by kernel_rfl))
 f29:=func170.trans (Zz some (by kernel_rfl))
 f46:=⟨f203.name,by decide,func203.trans (Zz some (by kernel_rfl))⟩
 f47:=func204.trans (Zz some (by kernel_rfl))
 f48:=func205.trans (Zz some (by kernel_rfl))
 f49:=⟨f206.name,by decide,func206.trans (Zz some (by kernel_rfl))⟩
 f50:=⟨f207.name,by decide,func207.trans (Zz some (by kernel_rfl))⟩
 f57:=⟨f228.name,by decide,func228.trans (Zz some (by kernel_rfl))⟩
 t0:=underlying0
 a0:=isAgg0
 z0:=sizeOf0
 v0:=zeroValue0
 t3:=underlying3
 a3:=isAgg3
 z3:=sizeOf3
 v3:=zeroValue3
 t4:=underlying4
 a4:=isAgg4
 z4:=sizeOf4
 v4:=zeroValue4
 t5:=underlying5
 a5:=isAgg5
 z5:=sizeOf5
 v5:=zeroValue5
 t9:=underlying9
 a9:=isAgg9
 z9:=sizeOf9
 v9:=zeroValue9
 t22:=underlying29
 a22:=isAgg29
 z22:=sizeOf29
 v22:=zeroValue29
 t25:=underlying78
 a25:=isAgg78
 z25:=sizeOf78
 v25:=zeroValue78
 t39:=underlying89
 a39:=isAgg89
 z39:=sizeOf89
 v39:=zeroValue89
 t45:=underlying220
 a45:=isAgg220
 z45:=sizeOf220
 v45:=zeroValue220
 t46:=underlying221
 a46:=isAgg221
 z46:=sizeOf221
 v46:=zeroValue221
 t50:=underlying163
 a50:=isAgg163
 z50:=sizeOf163
 v50:=zeroValue163
 t53:=underlying141
 a53:=isAgg141
 z53:=sizeOf141
 v53:=zeroValue141
 t55:=underlying144
 a55:=isAgg144
 z55:=sizeOf144
 v55:=zeroValue144
 t66:=underlying252
 a66:=isAgg252
 z66:=sizeOf252
 v66:=zeroValue252
 t70:=underlying256
 a70:=isAgg256
 z70:=sizeOf256
 v70:=zeroValue256
 t76:=underlying275
 a76:=isAgg275
 z76:=sizeOf275
 v76:=zeroValue275
 t77:=underlying148
 a77:=isAgg148
 z77:=sizeOf148
 v77:=zeroValue148}
def laysSlF06_f113_ren:Go.Shelf.Ren:=⟨fun|6=>113|15=>116|14=>160|28=>169|29=>170|20=>195|21=>196|22=>197|23=>198|24=>199|25=>200|26=>201|27=>202|46=>225|47=>204|48=>205|49=>226|50=>227|57=>239|n=>n,fun|22=>53|24=>76|25=>130|3=>3|39=>89|0=>0|53=>141|55=>144|4=>4|46=>221|45=>220|50=>163|5=>5|9=>9|66=>252|70=>256|76=>275|77=>148|n=>n,fun|n=>n⟩
theorem laysSlF06_f113:Go.Proofs.SlLaysF0.n6 prog laysSlF06_f113_ren:={
 mixed:=by kernel_rfl
 f6:=⟨f113.name,by decide,func113.trans (Zz some (by kernel_rfl))⟩
 f14:=⟨f160.name,by decide,func160.trans (Zz some (by kernel_rfl))⟩
 f15:=func116.trans (Zz some (by kernel_rfl))
 f20:=⟨f195.name,by decide,func195.trans (Zz some (by kernel_rfl))⟩
 f21:=⟨f196.name,by decide,func196.trans (Zz some (by kernel_rfl))⟩
 f22:=⟨f197.name,by decide,func197.trans (Zz some (by kernel_rfl))⟩
 f23:=⟨f198.name,by decide,func198.trans (Zz some (by kernel_rfl))⟩
 f24:=⟨f199.name,by decide,func199.trans (Zz some (by kernel_rfl))⟩
 f25:=⟨f200.name,by decide,func200.trans (Zz some (by kernel_rfl))⟩
 f26:=⟨f201.name,by decide,func201.trans (Zz some (by kernel_rfl))⟩
 f27:=⟨f202.name,by decide,func202.trans (Zz some (by kernel_rfl))⟩
 f28:=func169.trans (Zz some (by kernel_rfl))
 f29:=func170.trans (Zz some (by kernel_rfl))
 f46:=⟨f225.name,by decide,func225.trans (Zz some (by kernel_rfl))⟩
 f47:=func204.trans (Zz some (by kernel_rfl))
 f48:=func205.trans (Zz some (by kernel_rfl))
 f49:=⟨f226.name,by decide,func226.trans (Zz some (by kernel_rfl))⟩
 f50:=⟨f227.name,by decide,func227.trans (Zz some (by kernel_rfl))⟩
 f57:=⟨f239.name,by decide,func239.trans (Zz some (by kernel_rfl))⟩
 t0:=underlying0
 a0:=isAgg0
 z0:=sizeOf0
 v0:=zeroValue0
 t3:=underlying3
 a3:=isAgg3
 z3:=sizeOf3
 v3:=zeroValue3
 t4:=underlying4
 a4:=isAgg4
 z4:=sizeOf4
 v4:=zeroValue4
 t5:=underlying5
 a5:=isAgg5
 z5:=sizeOf5
 v5:=zeroValue5
 t9:=underlying9
 a9:=isAgg9
 z9:=sizeOf9
 v9:=zeroValue9
 t22:=underlying53
 a22:=isAgg53
 z22:=sizeOf53
 v22:=zeroValue53
 t25:=underlying130
 a25:=isAgg130
 z25:=sizeOf130
 v25:=zeroValue130
 t39:=underlying89
 a39:=isAgg89
 z39:=sizeOf89
 v39:=zeroValue89
 t45:=underlying220
 a45:=isAgg220
 z45:=sizeOf220
 v45:=zeroValue220
 t46:=underlying221
 a46:=isAgg221
 z46:=sizeOf221
 v46:=zeroValue221
 t50:=underlying163
 a50:=isAgg163
 z50:=sizeOf163
 v50:=zeroValue163
 t53:=underlying141
 a53:=isAgg141
 z53:=sizeOf141
 v53:=zeroValue141
 t55:=underlying144
 a55:=isAgg144
 z55:=sizeOf144
 v55:=zeroValue144
 t66:=underlying252
 a66:=isAgg252
 z66:=sizeOf252
 v66:=zeroValue252
 t70:=underlying256
 a70:=isAgg256
 z70:=sizeOf256
 v70:=zeroValue256
 t76:=underlying275
 a76:=isAgg275
 z76:=sizeOf275
 v76:=zeroValue275
 t77:=underlying148
 a77:=isAgg148
 z77:=sizeOf148
 v77:=zeroValue148}
open Go.RowKit Go.Lib Go.Sort in
theorem slices_SortFunc_f69 {α:Type} [Inhabited α] (k:Nat) (K:∀w,(isAgg 55).run prog w= .ok true w) (X:∀w,(Go.sizeOf 55).run prog w= .ok k w) (enc:α->List Value) (V:∀x,(enc x).length=k) (R:∀x,∀v∈enc x,v.oneCell'=true) (H:α->α->Int) (U:SWO (ltOf H)) (g:Nat) (cb:Array Value) (h A cap:Nat) (d:Array α) (w:Wq) (Q:∀args w,(callFunc g args).run prog w= .ok (.enter g args) w) (F:CmpLays prog g cb enc k H h A d.size w) (S:HoldsK enc k w h A d) (D:h<w.heap.size) (J:d.size<4611686018427387904):
 Calls prog 69 #[.slice (some ⟨h,A,none⟩) d.size cap,.func (.func g) #[] cb] w λe w'=>
  e= .returned (.tuple #[])/\∃I n os,PermIn 0 d.size d I/\SortedIn (ltOf H) 0 d.size I/\w'=sortWorldK enc k w h A n I os:=AnyQ.slices_SortFunc laysSlF06_f69 k K X enc V R H U g cb h A cap d w Q F S D J
open Go.RowKit Go.Lib Go.Sort in
theorem slices_SortFunc_f113 {α:Type} [Inhabited α] (k:Nat) (K:∀w,(isAgg 76).run prog w= .ok true w) (X:∀w,(Go.sizeOf 76).run prog w= .ok k w) (enc:α->List Value) (V:∀x,(enc x).length=k) (R:∀x,∀v∈enc x,v.oneCell'=true) (H:α->α->Int) (U:SWO (ltOf H)) (g:Nat) (cb:Array Value) (h A cap:Nat) (d:Array α) (w:Wq) (Q:∀args w,(callFunc g args).run prog w= .ok (.enter g args) w) (F:CmpLays prog g cb enc k H h A d.size w) (S:HoldsK enc k w h A d) (D:h<w.heap.size) (J:d.size<4611686018427387904):
 Calls prog 113 #[.slice (some ⟨h,A,none⟩) d.size cap,.func (.func g) #[] cb] w λe w'=>
  e= .returned (.tuple #[])/\∃I n os,PermIn 0 d.size d I/\SortedIn (ltOf H) 0 d.size I/\w'=sortWorldK enc k w h A n I os:=AnyQ.slices_SortFunc laysSlF06_f113 k K X enc V R H U g cb h A cap d w Q F S D J
open Go.RowKit Go.Lib Go.Sort in
theorem slices_SortFunc_none_f69 {α:Type} [Inhabited α] (p:Option Addr) (cap:Nat) (h:Value) (w:Wq):
 Calls prog 69 #[.slice p 0 cap,h] w λe w'=>e= .returned (.tuple #[])/\w'=w:=AnyF.slices_SortFunc_none laysSlF06_f69 p cap h w
open Go.RowKit Go.Lib Go.Sort in
theorem slices_SortFunc_none_f113 {α:Type} [Inhabited α] (p:Option Addr) (cap:Nat) (h:Value) (w:Wq):
 Calls prog 113 #[.slice p 0 cap,h] w λe w'=>e= .returned (.tuple #[])/\w'=w:=AnyF.slices_SortFunc_none laysSlF06_f113 p cap h w
section
variable {B cap g m:Nat} {e:TypeId} {w:World} {α:Type}
theorem Ez {α:Type} (enc:α->List Value) (k:Nat) (h:∀x,(enc x).length=k):∀(l:List α),(l.map enc).flatten.length=l.length*k
 | []=>by simp
 |x::l=>by rw[Zw,Um,Zb,h,Ez enc k h l,Zd,Nat.add_mul];omega
section
variable {α:Type} [Inhabited α] (enc:α→List Value) (k:Nat)
theorem ZjO:∀(l:List (List Value)) (i:Nat) (c:List Value) (j:Nat) (u:Value),(∀c∈l,c.length=k)->l[i]? =some c->c[j]? =some u->l.flatten[k*i+j]? =some u
 | [],i,c,j,u,_,h,_=>by simp at h
 |x::l,i,c,j,u,hl,hc,hu=>by
  have D:x.length=k:=hl x (by simp)
  cases i with
  |zero=>
   simp at hc
   subst hc
   have A:j<x.length:=(ZR.mp hu).1
   simpa [List.getElem?_append,A] using (ZR.mp hu).2
  |succ i=>
   have:=ZjO l i c j u (λc h=>hl c (by simp[h])) (by simpa using hc) hu
   simp only[Um]
   have e:k*(i+1)+j=x.length+(k*i+j):=(by rw[D,Nat.mul_succ];omega)
   rw[e,Yt om]
   simpa using this
theorem Zgx (F:∀x,(enc x).length=k) (d:Array α) (t:Nat) (h:t<d.size*k):(d.toList.map enc).flatten[t]? =some ((flatK enc k d)[t]!):=by
 have A:0<k:=by
  rcases YL k with e|e
  ·rw[e] at h;omega
  ·exact e
 have D:t / k<d.size:=Nat.div_lt_of_lt_mul (by rw[VF];exact h);have I:t % k<k:=Nat.mod_lt _ A;rw[get_flatK enc k d t h];have e1:(enc d[t / k]!)[t % k]? =some (enc d[t / k]!)[t % k]! :=by
  have H:t % k<(enc d[t / k]!).length:=by rw[F];exact I
  rw[getElem!_pos (enc d[t / k]!) (t % k) H,Zh H]
 have e2:(d.toList.map enc)[t / k]? =some (enc d[t / k]!):=by rw[Yp,Zh (by simpa using D)];simp[getElem!_pos d (t / k) D]
 have:=ZjO k (d.toList.map enc) (t / k) _ (t % k) _ (by intro c hc;obtain ⟨x,_,rfl⟩:=ZU.1 hc;exact F x) e2 e1
 rwa [Nat.div_add_mod] at this
theorem IM (D:∀x,(enc x).length=k) {d:Array α} (h:w.ownsRow B e k (.slice (some ⟨g,0,none⟩) d.size cap) d.size (d.toList.map enc).flatten):HoldsK enc k w g 0 d:=by
 intro j A;rw[size_flatK] at A;rw[YI];exact ⟨by rw[h.cellAt j A,Zgx enc k D d j A];rfl,h.frozenAt j⟩
theorem GC (U:∀x,(enc x).length=k) {d A:Array α} {os:Array Obj} (h:w.ownsRow B e k (.slice (some ⟨g,0,none⟩) d.size cap) d.size (d.toList.map enc).flatten) (J:A.size=d.size):
 (sortWorldK enc k w g 0 m A os).ownsRow B e k (.slice (some ⟨g,0,none⟩) d.size cap) d.size (A.toList.map enc).flatten/\w.grownBy (sortWorldK enc k w g 0 m A os) (some g):=by
 rcases h.2 with ⟨I,_⟩|⟨g',Y,Q,I,hb,Z,H,R,S,X⟩
 ·simp at I
 ·simp only[Value.slice.injEq,Y5,Addr.mk.injEq,and_true,true_and] at I;obtain ⟨rfl,rfl⟩:=I;have F:g<w.heap.size:=(ZP.1 Z).1;have ha:d.size*k<=cap*k:=Nat.mul_le_mul_right k H;have D:(sortWorldK enc k w g 0 m A os).heap[g]? =some (.cells (putCells id 0 (flatK enc k A) Q) e):=by unfold sortWorldK putRowK putRow mapBlock grow;rw[Array.getElem?_append_left (by simpa [Sort.ahead] using F),Xv,Zi rfl];show Option.map _ (w.heap[g]?)=_;rw[Z];rfl
  refine ⟨⟨by rw[Ez enc k U];simp[J],.inr ⟨g,cap,_,rfl,hb,D,H,R,by simpa [putCells] using S,?_⟩⟩,⟨rfl,rfl,rfl,size_sortWorldK_c enc k w g 0 m A os,λj hj V=> ?_⟩⟩
  ·apply List.ext_getElem?;intro t;rw[List.getElem?_take];by_cases K:t<d.size*k
   ·rw[Zi K,Zgx enc k U A t (by rw[J];exact K)];rw[Array.getElem?_toList];unfold putCells;rw[Array.getElem?_mapIdx,Array.getElem?_eq_getElem om];simp[J,K]
   ·rw[Ze K,List.getElem?_eq_none (by rw[Ez enc k U];simp[J];omega)]
  ·unfold sortWorldK putRowK putRow mapBlock grow;rw[Array.getElem?_append_left (by simpa [Sort.ahead] using hj),Xv,Ze (λe=>V (by rw[e]))];rfl
end
theorem ZnR {c:α->α->Int} (h:IsCmp c):SWO (ltOf c) where
 irrefl x:=by unfold ltOf;rw[h.self];rfl
 trans x y z h1 h2:=by unfold ltOf at*;simp only[ZT] at*;exact h.lt_trans x y z h1 h2
 ntrans x y z h1 h2:=by unfold ltOf at*;simp only[X9] at*;have:=h.trans z y x (by have:=h.anti y z;omega) (by have:=h.anti x y;omega);have:=h.anti x z;omega
instance:Inhabited Ent:=⟨zeroE⟩
theorem Zpf (w:Wq):(isAgg 76).run prog w= .ok true w:=by kernel_rfl
theorem ZpS (w:Wq):(Go.sizeOf 76).run prog w= .ok 5 w:=by kernel_rfl
theorem ZmB (args:Array Value) (w:Wq):(callFunc 114 args).run prog w= .ok (.enter 114 args) w:=enters_of func114 (by kernel_rfl) rfl args w
attribute [local go_sem ↓] Go.wp_at_zero Go.wp_at_succ
theorem Kk (a b:Ent) (w:Wq):
 Calls prog 114 #[.agg (eCells a).toArray,.agg (eCells b).toArray] w λx w'=>x= .returned (nI (entCmp a b))/\∃q os,w'=grow (w.drewN q) os:=by
 obtain ⟨H,S,V,Q,A⟩:=a;obtain ⟨I,U,X,R,D⟩:=b;unfold entCmp;obtain ⟨ci,J⟩:∃ci,iCmp D A=ci:=⟨_,rfl⟩;obtain ⟨cs,K⟩:∃cs,sCmp H I=cs:=⟨_,rfl⟩;simp only[J,K];have Y:=gd (λw'=>KN D A w');have HS:=gd (λw'=>Qu H I w');rw[K] at HS;rw[show (if D<A then (-1:Int) else if A<D then 1 else 0)=ci from J] at Y;have Z:=gd (λv w' h=>Ep ci cs v w' h);obtain ⟨res,F⟩:∃res,(if ci=0 then cs else ci)=res:=⟨_,rfl⟩;rw[F] at Z;rw[F];clear J K F;unfold eCells;go_enter func114,ntmps114;go_wp2
 go_region_held3 (λw'=>Ext w w'/\w'.cell? ⟨w.heap.size,0,none⟩=some (.string H)/\w'.cell? ⟨w.heap.size,4,none⟩=some (nI A)/\w'.cell? ⟨w.heap.size+1,0,none⟩=some (.string I)/\w'.cell? ⟨w.heap.size+1,4,none⟩=some (nI D))
  ((go_split_ands;refine ⟨?_,?_,?_,?_,?_⟩<;>first|assumption|((repeat (first|exact Ext.refl _|assumption|apply Ext.drew|apply Ext.alloc));done)|((refine Ext.trans ?_ (by assumption));(repeat (first|exact Ext.refl _|assumption|apply Ext.drew|apply Ext.alloc));done)|((refine Ext.cell (by assumption) ?_);first|assumption|(go_keep;done))|(go_keep;done)))
  (first|(go_at_call 152;refine (Y.out _).mono ?_;rintro e w1 ⟨rfl,rfl⟩)|(go_at_call 119;refine (HS.out _).mono ?_;rintro e w2 ⟨rfl,rfl⟩)|(go_at_call 117;refine (Z.out _ _ (Jb (e:=3) (fr:=(0,0)) (cs:= [nI ci,nI cs]) ?hg (by rfl) (by decide))).mono ?_;(case hg=>exact XR w _ _ _);rintro e w3 ⟨rfl,rfl⟩))
 go_wp2;go_ret;exact ⟨rfl,1,_,by rw[alloc_eq_grow,alloc_eq_grow,alloc_eq_grow,grow_grow,grow_grow];rfl⟩
theorem Zl0 (v:Value) (l:List Ent) (w:Wq) (B:Nat) (h:OEnts w B v l) (hn:l.length<=1000000):
 Calls prog 113 #[v,.func (.func 114) #[] #[]] w λe w'=>e= .returned (.tuple #[])/\
  ∃l':List Ent,l'.Perm l/\l'.Pairwise (λa b=>ordE.lt b a=false)/\OEnts w' B v l'/\w.grownBy w' v.ownBlock:=by
 rcases YL l.length with I|I
 ·have K:l= []:=Zm I;subst K;obtain ⟨A,c,rfl,_,_⟩:=h.reads.form;refine (slices_SortFunc_none_f113 (α:=Ent) A c _ w).mono ?_;rintro e w' ⟨rfl,rfl⟩;exact ⟨rfl,[],List.Perm.refl _,List.Pairwise.nil,h,World.grownBy.refl _ _⟩
 ·obtain ⟨g,cap,rfl,hb,Y⟩:=X6 h I;have Q:w.ownsRow B 76 5 (.slice (some ⟨g,0,none⟩) l.toArray.size cap) l.toArray.size (l.toArray.toList.map eCells).flatten:=by simpa [OEnts,flatE] using h
  have hc:=slices_SortFunc_f113 5 Zpf ZpS eCells (λ_=>rfl) (λx=>X1 x) entCmp (ZnR G4) 114 #[] g 0 cap l.toArray w ZmB
   (λm os dk X x y=>Kk x y _) (IM eCells 5 (λ_=>rfl) Q) Y (by simp;omega)
  refine hc.mono ?_;rintro e w' ⟨rfl,F,n,os,V,hs,rfl⟩;have H:F.size=l.toArray.size:=V.1;have U:=GC eCells 5 (λ_=>rfl) (m:=n) (os:=os) Q H;have D:F.toList.Perm l:=by
   have:=V.2.2;have K:l.length=F.toList.length:=(by simpa using H.symm);simp at this
   rwa [K,ZQ (Zc _)] at this
  refine ⟨rfl,F.toList,D,?_,?_,U.2⟩
  ·rw[Xh];intro i j Z S J;have R:=hs i j (Zj _) J (by rw[<-H];simpa using S);rw[getElem!_pos F j (by simpa using S),getElem!_pos F i (by simpa using Z)] at R;simpa [ltOf,ordE,ltE] using R
  ·unfold OEnts;have e1:F.toList.length=l.length:=D.length_eq;rw[e1];have:=U.1;simpa [flatE] using this
end
end Go.Proofs.YtnlafkgkcnenfaaGreatDoor
