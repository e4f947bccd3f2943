/- Parts of the proof: contracts and plain laws. -/
import Derived.Test.YtnlafkgkcnenfaaGreatDoorU13
namespace Go.Proofs.YtnlafkgkcnenfaaGreatDoor
open Go Go.RowKit Go.Joins _root_.Go.Proofs.Tryz
set_option linter.unusedVariables false
set_option linter.unusedSimpArgs false
set_option maxRecDepth 100000
set_option maxHeartbeats 16000000
section
variable {ac d kc zt:Nat} {f:Fd} {w:World}
theorem Zjd {nb A:Nat} {AB KB:Option Addr} (h:w.heap[nb]? =some (.cells #[nI 0,eS,.string ⟨#[111,117,116,108,105,110,101]⟩,.slice AB A ac,.slice KB 0 kc,eS,nI 0] 25 (0,0))):w.cell? ⟨nb,0,none⟩=some (nI 0)/\w.cell? ⟨nb,1,none⟩=some eS/\w.cell? ⟨nb,2,none⟩=some (.string ⟨#[111,117,116,108,105,110,101]⟩)/\w.cell? ⟨nb,3,none⟩=some (.slice AB A ac)/\w.cell? ⟨nb,4,none⟩=some (.slice KB 0 kc)/\w.cell? ⟨nb,5,none⟩=some eS/\w.cell? ⟨nb,6,none⟩=some (nI 0):=by
 refine ⟨?_,?_,?_,?_,?_,?_,?_⟩<;>(rw[Zy h];rfl)
theorem ZpP {AB KB:Option Addr}:(#[nI 0,eS,.string ⟨#[111,117,116,108,105,110,101]⟩,.slice AB 3 ac,.slice KB 0 kc,eS,nI 0]:Array Value).all (λu=>u.oneCell')=true:=by simp[Value.oneCell']
theorem Zps {A KB:Option Addr} {h:Nat}:(#[nI 0,eS,.string ⟨#[111,117,116,108,105,110,101]⟩,.slice A 4 h,.slice KB 0 kc,eS,nI 0]:Array Value).all (λu=>u.oneCell')=true:=by simp[Value.oneCell']
def onlyRet (Q:Exit->Act->Wq->Prop):Exit->Act->Wq->Prop
 | .normal,a,w=>Q .normal a w
 | .ret,a,w=>Q .ret a w
 |_,_,_=>False
theorem Zjh {Q:Exit->Act->Wq->Prop}:∀e a w,onlyRet Q e a w->Q e a w:=by
 intro e a w h;cases e<;>first|exact h|exact h.elim
def dst3:Nat->Nat|0=>21|9=>30|10=>31|_=>6
def dep3:Nat->List Nat|10=> [0,9]|_=> []
def F3 (zt:Nat) (f:Fd):Nat->Value->Wq->Prop
 |0,v,w=>∃KB kc,v= .agg #[nI 0,eS,.string ⟨#[111,117,116,108,105,110,101]⟩,sN,.slice KB 0 kc,eS,nI 0]/\RNs w (.slice KB 0 kc) []
 |9,v,w=>RStrs w v (pairS [(typeL,rssL),(textL,lst f.title),(xmlUrlL,lst f.id)])
 |10,v,w=>∃KB kc AB ac aw,v= .agg #[nI 0,eS,.string ⟨#[111,117,116,108,105,110,101]⟩,.slice AB 3 ac,.slice KB 0 kc,eS,nI 0]/\w.ownsRow aw 88 4 (.slice AB 3 ac) 3 (flatA ([(typeL,rssL),(textL,lst f.title),(xmlUrlL,lst f.id)].map pairA))/\zt<=aw/\RNs w (.slice KB 0 kc) []
 |_,v,w=>∃nb,v= .pointer (some ⟨nb,0,none⟩)/\w.heap[nb]? =some (.cells #[nI 0,eS,eS,sN,sN,eS,nI 0] 25 (0,0))/\zt<=nb
theorem Zo1:∀(i:Nat) (v:Value) (w w':Wq),F3 zt f i v w->Ext w w'->F3 zt f i v w':=by
 intro i v w w' h F;unfold F3 at*;split at h
 ·obtain ⟨KB,kc,A,D⟩:=h;exact ⟨KB,kc,A,D.ext F⟩
 ·exact h.ext F
 ·obtain ⟨KB,kc,AB,ac,aw,A,D,H,I⟩:=h;exact ⟨KB,kc,AB,ac,aw,A,Ya D F,H,I.ext F⟩
 ·obtain ⟨nb,A,D,H⟩:=h;exact ⟨nb,A,F.heap D,H⟩
def dst10:Nat->Nat|4=>59|5=>60|7=>62|8=>63|_=>65
def dep10:Nat->List Nat|5=> [4]|8=> [5,7]|_=> []
def KidO (zt f d:Nat) (G:Grp) (w:Wq) (kids:List Nc):Prop:=RdNs w kids/\Nc.nds kids=outsP f (d+1) (G.l.map Fc.f)/\(∀y∈kids,y.kind=0)/\newNs zt kids
theorem KidO.ext {zt f d:Nat} {G:Grp} {w w':Wq} {kids:List Nc} (h:KidO zt f d G w kids) (A:Ext w w'):KidO zt f d G w' kids:=⟨RdNs.ext A _ h.1,h.2⟩
def F10 (zt f d:Nat) (G:Grp):Nat->Value->Wq->Prop
 |4,v,w=>∃kids,RNs w v kids/\KidO zt f d G w kids
 |5,v,w=>∃kids KB kc bk2,v= .agg #[nI 0,eS,.string ⟨#[111,117,116,108,105,110,101]⟩,sN,.slice KB kids.length kc,eS,nI 0]/\w.ownsRow bk2 25 7 (.slice KB kids.length kc) kids.length (flatN kids)/\zt<=bk2/\KidO zt f d G w kids
 |7,v,w=>RStrs w v (pairS [(textL,lst G.name)])
 |8,v,w=>∃kids KB kc bk2 AB ac bA,v= .agg #[nI 0,eS,.string ⟨#[111,117,116,108,105,110,101]⟩,.slice AB 1 ac,.slice KB kids.length kc,eS,nI 0]/\w.ownsRow bk2 25 7 (.slice KB kids.length kc) kids.length (flatN kids)/\zt<=bk2/\KidO zt f d G w kids/\w.ownsRow bA 88 4 (.slice AB 1 ac) 1 (flatA [pairA (textL,lst G.name)])/\zt<=bA
 |_,v,w=>∃zb,v= .slice (some ⟨zb,0,none⟩) 1 1/\RSl w 7 v 1 (cellsN zeroNc)
theorem Zn9 {f:Nat} {G:Grp}:∀(i:Nat) (v:Value) (w w':Wq),F10 zt f d G i v w->Ext w w'->F10 zt f d G i v w':=by
 intro i v w w' h A;unfold F10 at*;split at h
 ·obtain ⟨kids,D,F⟩:=h;exact ⟨kids,D.ext A,F.ext A⟩
 ·obtain ⟨kids,KB,kc,bk2,D,F,H,I⟩:=h;exact ⟨kids,KB,kc,bk2,D,Ya F A,H,I.ext A⟩
 ·exact h.ext A
 ·obtain ⟨kids,KB,kc,bk2,AB,ac,bA,D,F,H,I,J,K⟩:=h;exact ⟨kids,KB,kc,bk2,AB,ac,bA,D,Ya F A,H,I.ext A,Ya J A,K⟩
 ·obtain ⟨zb,D,F⟩:=h;exact ⟨zb,D,RSl.ext F A⟩
def restC:Code->Code
 | .seq _ b=>b
 |c=>c
def OutP (f d:Nat) (l:List Fc) (w:Wq) (e:Ending) (w':Wq):Prop:=∃u O,e= .returned u/\HNs w' w.heap.size u O/\Nc.nds O=outsP f d (l.map Fc.f)/\(∀y∈O,y.kind=0)/\newNs w.heap.size O/\Ext w w'
theorem Zez (cd:Code) (gL:(f45).body=some cd) (f d:Nat) (l:List Fc) (w:Wq) (ih:∀(d:Nat) (v:Value) (l:List Fc) (w:Wq),okT f d (l.map Fc.f)->RFcs w v l->(∀x∈l,RdC w x)->l.length<=1000000->d+f<=1000->Calls prog 45 #[v,nI (d:Nat)] w (OutP f d l w))
 (ha:okT (f+1) d (l.map Fc.f)) (gV:∀x∈l,RdC w x) (hl:l.length<=1000000) (hd:d+(f+1)<=1000) (A:Option Addr) (n c j:Nat) (u:Value) (O:List Nc) (Wd:Wq) (gS:RFcs w (.slice A n c) (l.drop j)) (gY:ownN d (l.map Fc.f)=j) (gn:OutI d l w (.slice A n c) j u O Wd) (x1 x2 x4 x6 x7 x8 x9 fu fv fw fx fy fz fA fB fC fD fE fF fG fH fI fJ fK fL fM fN fO fP fQ fR fS fT fU fV fW fX fY fZ f0 f1 f2 f3 f4 f5 f6 f7 f8 da dc dd de df dg dh di g2 g3 dj g4 dk dl dm dn dp dq:Value):
 Code.wp prog (restC (restC (restC cd))) (onlyRet (bodyPostM Fence.wide 1000000 prog f45 (OutP (f+1) d l w))) {tmps:=#[.slice A n c,x1,x2,.pointer (some ⟨w.heap.size,0,none⟩),x4,.pointer (some ⟨w.heap.size+1,0,none⟩),x6,x7,x8,x9,fu,fv,fw,fx,fy,fz,fA,fB,fC,fD,fE,fF,fG,fH,fI,fJ,fK,fL,fM,fN,fO,fP,fQ,fR,fS,fT,fU,fV,fW,fX,fY,fZ,f0,f1,f2,f3,f4,f5,f6,f7,f8,da,dc,dd,de,df,dg,dh,di,g2,g3,dj,g4,dk,dl,dm,dn,dp,dq],defers:= []} Wd:=by
 have gu:=gd ih;have gy:=gd ha;have h8:=gd gV;have HL:=gd hl;have h0:=gd gS;have h9:=gd gY;have hL:=gd gn;have e1:Wd.cell? ⟨w.heap.size,0,none⟩=some (nI (d:Nat)):=(Zy gn.dcell 0).trans rfl;clear ih ha gV gS gY gn;obtain ⟨i0,gP,fq,fr,ft⟩:=YH Vh;obtain rfl:=YX (gL.symm.trans (show (f45).body=some _ from rfl));clear gL;simp only[restC]
 go_wp2_with (go_at_call 89;refine Za (ZgA A n c d Wd) ?_;rintro e W9 ⟨rfl,gK,hU,go,gX⟩)
 rename_i KX gH;have gw:=gd gH;clear gH;have gr:=gd (FolI.start (f:=f) hL.out go gX);have gp:Ext w W9:=hL.out.ext.trans go;have ha:=gy.out;rw[okT,h9.out,<-List.map_drop] at ha;have gR:=HL.out;have fk:(l.drop j).length<=l.length:=by rw[Zk];omega
 have hZ:∀x∈l.drop j,RdC w x/\d<x.f.path.length:=λx U=>⟨h8.out x (Yq U),ha.1 x.f (Yc U)⟩;have gZ:=hL.out.size;have hJ:=λq=>ZgB d w W9 Wd.heap.size (Wd.heap.size+1) (.slice A n c) (l.drop j) gp om om om h0.out hZ om om gK hU q;obtain ⟨X,hX⟩:∃X,grps d ((l.drop j).length+1) (.slice A n c) (l.drop j)=X:=⟨_,rfl⟩;have gt:Hid (∀g∈X,∀W',Ext w W'->Calls prog 45 #[g.v,nI ((d:Int)+1)] W' λe w'=>∃u O,e= .returned u/\HNs w' W'.heap.size u O/\Nc.nds O=outsP f (d+1) (g.l.map Fc.f)/\(∀y∈O,y.kind=0)/\newNs W'.heap.size O/\Ext W' w'):=gd (by
  intro g hg W' U;rw[<-hX] at hg;obtain ⟨h1,h2,h3⟩:=IK d _ _ _ g hg;have h4:=h2.length_le;exact gu.out (d+1) g.v g.l W' (ha.2 _ _ rfl g hg) (RSl.ext (ZgJ _ _ _ h0.out g hg).1 U) (λx fp=>(h8.out x (Yq (h2.subset fp))).ext U) om om)
 have hR:Hid (∀g∈X,(outsP f (d+1) (g.l.map Fc.f)).length<=16777216):=gd (by
  intro g hg;rw[<-hX] at hg;obtain ⟨h1,h2,h3⟩:=IK d _ _ _ g hg;have h4:=h2.length_le;have h5:=Zhp f (d+1) (g.l.map Fc.f);rw[Zq] at h5;omega)
 have gs:Hid (((l.take j).map Fc.f).length+X.length<=16777215):=gd (by
  have h1:=ZgI d ((l.drop j).length+1) (.slice A n c) (l.drop j);rw[hX] at h1;rw[Zq,ZM];omega)
 have hP:IntKind.i64.wrap ((d:Int)+1)=(d:Int)+1:=by rw[IntKind.wrap_i64];omega
 have fa:=gd hP;rw[hX] at hJ;have gq:Hid (∀(W:Wq) (u':Value) (O':List Nc),FolI f d (((l.take j).map Fc.f).map feedN) w Wd.heap.size (Wd.heap.size+1) X u' O' W->Nc.nds O'=outsP (f+1) d (l.map Fc.f)):=gd (λW u' O' h=>FolI.done (v0:= .slice A n c) (by rw[hX];exact h) h9.out);have dr:w.heap.size+2<=W9.heap.size:=om
 have gM:Wd.heap.size<W9.heap.size:=om
 clear hX hP ha gR fk hZ gK hU go e1;have fe:=gd gp;have gD:=gd hJ;clear gp hJ;refine (wpIn_wide (n:=1000000)).1 ?_
 refine' Zjn (F:=Fence.wide) rfl (by decide) (gf:=133) (lb:=#[.pointer (some ⟨Wd.heap.size,0,none⟩),.pointer (some ⟨Wd.heap.size+1,0,none⟩)]) rfl trivial (enters_of func133 (by kernel_rfl) rfl) (encs:=encG) (cb:=Wd.heap.size) (Kp:=KpF w.heap.size Wd.heap.size (Wd.heap.size+1)) (xs:=X)
  (gD.out _) gM KpF.trans (λW l o o' hl ho hc=>KpF.put (B:=W9.heap.size) hl om gM om) (λx=>rfl) (λs W=>∃u O,FolI f d (((l.take j).map Fc.f).map feedN) w Wd.heap.size (Wd.heap.size+1) s u O W)
  (λs A C ⟨u,O,h⟩ U=>⟨u,O,h.ext_ U⟩) (λs A v ⟨u,O,h⟩=>⟨u,O,h.cell v⟩) (λs A l o o' ⟨u,O,h⟩ hl ho hc=>⟨u,O,h.obj ho hc om⟩) ⟨_,_,gr.out⟩ _ ?assign ?body ?done
 case assign=>
  intro ln x W K hK;unfold encG
  gi_wp2_with (rw[Oper.semAt_eq _ _ _ (λc h=>by cases h)];go_simp;try go_bits)
  exact hK
 case body=>
  rintro ln pre G W hI ⟨u,O,hF⟩;have gj:=Zi5 hI;have HG:=gd (gt.out G gj);have g5:=gd (hR.out G gj);obtain ⟨UB,uc,rfl⟩:=Ym hF.nodes.row;have HF:=gd hF;have gQ:O.length<=16777215:=by have h1:=HF.out.len_;have h2:=hI.length_le;have h3:=gs.out;rw[Zb,V8] at h2;rw[Zq] at h1;omega
  have g6:=gd gQ;have c5:W.cell? ⟨w.heap.size+1,0,none⟩=some (.slice UB O.length uc):=(Zy hF.ucell 0).trans rfl;have c6:W.cell? ⟨w.heap.size,0,none⟩=some (nI (d:Nat)):=(Zy hF.dcell 0).trans rfl;clear hF hI gj gQ;clear gu gy h8 HL h0 h9 hL gX gr gZ gt hR gs gq fe gD gw hl hd;gi_wp2;refine ZfK (by kernel_rfl) (by kernel_rfl) ?_;have hn:=(Ext.refl W).drew;obtain ⟨Wt,gI⟩:∃q,World.drew W=q:=⟨_,rfl⟩;rw[gI] at hn|-;have c5:=hn.cell c5;have c6:=hn.cell c6;have fb:Hid (Ext w Wt):=gd (HF.out.ext.trans hn);have hm:=gd hn;have dt:=gd (Ext.refl Wt);have hM:Wt.cell? ⟨w.heap.size+1,0,none⟩=some (.slice UB O.length uc)/\Wt.cell? ⟨w.heap.size,0,none⟩=some (nI (d:Nat)):=⟨c5,c6⟩;have hP:=fa.out;obtain ⟨zt,g1⟩:∃zt,zt=Wt.heap.size:=⟨_,rfl⟩;have gE:=gd g1;clear hn gI g1;refine tH 1 (G.v) ?_;refine tH 6 (.string G.name) ?_;refine XS (i:=0) (v:= .slice UB O.length uc) (λw'=>w'.cell? ⟨w.heap.size+1,0,none⟩=some (.slice UB O.length uc)/\w'.cell? ⟨w.heap.size,0,none⟩=some (nI (d:Nat))) 14 rfl (by kernel_rfl) (λ_ _ _ h=>h) (Or.inl ⟨by rfl,λw' hS=>by have hq:=hS.1;go_simp⟩) hM ?_;refine tT 9 (nI (O.length:Nat)) rfl (λw' hS=>by go_simp) hM ?_;refine tT 2 (nI (d:Nat)) rfl (λw' hS=>by have hq:=hS.2;go_simp) hM ?_;go_simp;refine tT 3 (nI ((d:Int)+1)) rfl (λw' hS=>by go_simp) hM ?_;clear hP;go_simp;refine Zic (m:=4) (f:=5) rfl #[true,true,true,true,true,true,true,true,true,true,true,false,false,false,false] (λa0 a' w'=>∃(x1 x2 x3:Value) (kids:List Nc) (KB AB:Option Addr) (kc ac zb bk2 bA:Nat),a'=(((((a0.put (some 59) x1).put (some 60) x2).put (some 62) x3).put (some 63) (.agg #[nI 0,eS,.string ⟨#[111,117,116,108,105,110,101]⟩,.slice AB 1 ac,.slice KB kids.length kc,eS,nI 0])).put (some 65) (.slice (some ⟨zb,0,none⟩) 1 1))/\
   Ext Wt w'/\KidO zt f d G w' kids/\w'.ownsRow bk2 25 7 (.slice KB kids.length kc) kids.length (flatN kids)/\w'.ownsRow bA 88 4 (.slice AB 1 ac) 1 (flatA [pairA (textL,lst G.name)])/\RSl w' 7 (.slice (some ⟨zb,0,none⟩) 1 1) 1 (cellsN zeroNc)/\zt<=bk2/\zt<=bA) ?_ ?_
  ·have q:True:=trivial;refine QX [4,5,7,8,10] dst10 dep10 (F10 zt f d G) rfl (by kernel_rfl) (by decide) (by decide) (by kernel_rfl) (by decide) (by kernel_rfl) (λi _=>Zn9 i) (λw' U=>⟨U.cell c5,U.cell c6⟩) ?_ ?_
   ·intro i hi A w' vs U R Q;have fc:=gd (fb.out.trans U);have ga:Hid (zt<=w'.heap.size):=gd (by rw[gE.out];exact U.size);simp only[ZH,ZY,Y1] at hi;rcases hi with rfl|rfl|rfl|rfl|rfl
    ·have e1:A.tmps[56]?.getD undef=G.v:=J2 ((R 56 (by decide)).trans rfl);have e2:A.tmps[58]?.getD undef=nI ((d:Int)+1):=J2 ((R 58 (by decide)).trans rfl);clear R Q U;refine VR rfl rfl (λK hK=> ?_);go_simp;go_at_call 45;refine Za (HG.out w' fc.out) ?_;rintro e V ⟨u9,kids,rfl,hB,hO,hN,hE,hv⟩;exact hK _ _ hv ⟨kids,hB.reads,hB.rd,hO,hN,hE.mono ga.out⟩
    ·obtain ⟨e1,kids,hr,hk⟩:=Q 4 (by simp[dep10]);clear R Q U;have fn:kids.length<=16777216:=(by have h1:=Zz List.length hk.2.1;rw[Jw] at h1;rw[h1];exact g5.out);have e1:A.tmps[59]?.getD undef=vs 4:=J2 e1;refine VR rfl rfl (λK hK=> ?_);go_simp;go_at_call 44;refine Za (Zky (vs 4) kids w' hr (λy hy=>⟨(XC kids).1 hk.1 y hy,hk.2.2.1 y hy⟩) fn) ?_;rintro e V ⟨KB,kc,rfl,hC,hv⟩;exact hK _ _ hv ⟨kids,KB,kc,_,rfl,hC,ga.out,hk.ext hv⟩
    ·have e1:A.tmps[61]?.getD undef= .string G.name:=J2 ((R 61 (by decide)).trans rfl);clear R Q U;refine VR rfl rfl (λK hK=> ?_);go_simp;exact hK _ _ ((Ext.refl w').alloc _) (ZkR w' G.name)
    ·obtain ⟨e1,kids,KB,kc,bk2,e5,ho,hb,hk⟩:=Q 5 (by simp[dep10]);obtain ⟨e2,hs⟩:=Q 7 (by simp[dep10]);clear R Q U;have e1:A.tmps[60]?.getD undef=vs 5:=J2 e1;have e2:A.tmps[62]?.getD undef=vs 7:=J2 e2;rw[e5] at e1;refine VR rfl rfl (λK hK=> ?_);go_simp;go_at_call 46;refine Za (Zmc KB kids.length kc (vs 7) G.name w' hs) ?_;rintro e V ⟨AB,ac,rfl,hz,hv⟩;exact hK _ _ hv ⟨kids,KB,kc,bk2,AB,ac,_,rfl,Ya ho hv,hb,hk.ext hv,hz,ga.out⟩
    ·clear R Q U;refine VR rfl rfl (λK hK=> ?_);go_simp;exact hK _ _ ((Ext.refl w').alloc _) ⟨_,rfl,Yo (w:=w') (n:=1) (cs:=cellsN zeroNc) rfl (by decide)⟩
   ·intro vs w' U hf;obtain ⟨kids,KB,kc,bk2,AB,ac,bA,e8,h1,h2,h3,h4,h5⟩:=hf 8 (by decide);obtain ⟨zb,gF,h6⟩:=hf 10 (by decide);rw[gF] at h6;exact ⟨by kernel_rfl,vs 4,vs 5,vs 7,kids,KB,AB,kc,ac,zb,bk2,bA,by rw[<-e8,<-gF];kernel_rfl,U,h3,h1,h4,h6,h2,h5⟩
  focus
   rintro a' Wz ⟨g2,g3,g4,kids,KB,AB,kc,ac,zb,bk2,bA,rfl,hQ,⟨hB,hO,hN,hE⟩,hC,hz,g0,gh,gi⟩
   rw[gE.out] at hE gh gi
   have c7:=hQ.cell c5
   have c8:=hQ.cell c6
   have HY:Hid (RdN Wz (foldC (.slice AB 1 ac) (.slice KB kids.length kc) kids G.name)):=gd (ZmL hz hC hB)
   have gx:Hid (∀k,k<Wt.heap.size->awayN (some k) (foldC (.slice AB 1 ac) (.slice KB kids.length kc) kids G.name)):=gd (ZkQ hz gi hC gh hE)
   have fd:Hid ((foldC (.slice AB 1 ac) (.slice KB kids.length kc) kids G.name).nd=withP (elemN outlineL (outsP f (d+1) (G.l.map Fc.f))) [(textL,lst G.name)]):=gd (by rw[ZmK hN,hO])
   have gT:=Xp (x:=zeroNc) ⟨⟨_,_,_,rfl⟩,⟨_,_,_,rfl⟩⟩
   have hp:=gd hQ
   have ff:=gd g0
   obtain ⟨gW,gU⟩:=Vj (n:=O.length) (by have:=g6.out;omega)
   have g9:=gd gW
   have g7:=gd gU
   have h7:=gd (HF.out.nodes.ext (hm.out.trans hp.out))
   have fj:w.heap.size+2<=Wz.heap.size:=Zp HF.out.size (hm.out.trans hp.out).size
   clear hQ hB hC hz g0 hO hN hE gh gi gW gU
   go_simp
   refine QZ (i:=11) rfl (by kernel_rfl) (λK hK=> ?_)
   refine Z1 _ (by rfl) (.tmp 55) (.tmp 65) _ (by rfl) (w.heap.size+2) 25 i0 _ 7 112 underlying23 gP fq fr ft rfl (by decide) _ O.length (flatN O) (by rfl) h7.out.row _ 1 (cellsN zeroNc) (by rfl) ff.out gT g9.out g7.out fj ?_
   intro v8 w8 H hA hT
   obtain ⟨S,ht,fo⟩:=Znu H (Zig _)
   subst fo
   have hV:(Value.slice UB O.length uc).ownBlock≠some (w.heap.size+1):=Jq h7.out.row om
   have hW:(Value.slice UB O.length uc).ownBlock≠some w.heap.size:=Jq h7.out.row om
   have gm:w8.heap[w.heap.size+1]? =some (.cells #[.slice UB O.length uc] 23 (0,0)):=(hA.block _ om (λe=>hV e.symm)).trans ((hm.out.trans hp.out).heap HF.out.ucell)
   have gN:w8.heap[w.heap.size]? =some (.cells #[nI (d:Nat)] 3 (0,0)):=(hA.block _ om (λe=>hW e.symm)).trans ((hm.out.trans hp.out).heap HF.out.dcell)
   have fl:w.heap.size+2<=S:=(H.lt S rfl).1
   have I:=FolI.leaf (B:=W9.heap.size) (G:=G) HF.out (hm.out.trans hp.out) H hA hT HY.out (λk hk=>gx.out k (YZ hk hm.out.size)) fd.out rfl
   obtain ⟨Y,hY⟩:∃Y,foldC (.slice AB 1 ac) (.slice KB kids.length kc) kids G.name=Y:=⟨_,rfl⟩
   have gJ:(#[nI 0,eS,.string ⟨#[111,117,116,108,105,110,101]⟩,.slice AB 1 ac,.slice KB kids.length kc,eS,nI 0]:Array Value).toList=cellsN Y:=(by rw[<-hY];rfl)
   rw[hY] at I
   obtain ⟨A8,hu⟩:∃A8:Addr,A8=⟨S,0,none⟩:=⟨_,rfl⟩
   have gG:A8.add (O.length*7)=⟨S,O.length*7,none⟩:=(by rw[hu];exact ZbB S _)
   rw[<-hu] at I
   obtain ⟨fg,he⟩:∃q,(w8.setCells S (O.length*7) (cellsN Y)).setCell ⟨w.heap.size+1,0,none⟩ (.slice (some A8) (O.length+1) ht)=q:=⟨_,rfl⟩
   rw[he] at I
   have J:=gd I
   have gl:∀(Wx:Wq),Wx.ownsRow (w.heap.size+2) 25 7 (.slice (some ⟨S,0,none⟩) (O.length+1) ht) (O.length+1) (flatN O++cellsN zeroNc)->∀j,j<7->(Wx.cell? ⟨S,O.length*7+j,none⟩).isSome=true:=λWx h j hj=>(ZlJ h om).1
   have gk:∀(Wx:Wq),Wx.ownsRow (w.heap.size+2) 25 7 (.slice (some ⟨S,0,none⟩) (O.length+1) ht) (O.length+1) (flatN O++cellsN zeroNc)->∀j,Wx.frozen? ⟨S,j,none⟩=false:=λWx h j=>by
    obtain ⟨g',du,h1,h2,h3⟩:=Zjj h
    injection h1 with h1
    subst h1
    exact Z5 h3 j
   have c9:w8.cell? ⟨w.heap.size+1,0,none⟩=some (.slice UB O.length uc):=(Zy gm 0).trans rfl
   have f9:w8.frozen? ⟨w.heap.size+1,0,none⟩=false:=Z5 gm 0
   have ge:w8.cell? ⟨w.heap.size,0,none⟩=some (nI (d:Nat)):=(Zy gN 0).trans rfl
   obtain ⟨gb,hw⟩:∃q,w8.setCells S (O.length*7) (cellsN Y)=q:=⟨_,rfl⟩
   have hH:=QO S (cellsN Y) (O.length*7) w8
   rw[hw] at hH
   have fm:=hA.size
   have fh:gb.cell? ⟨w.heap.size+1,0,none⟩=some (.slice UB O.length uc):=(Z8 (a:=⟨w.heap.size+1,0,none⟩) (hH.block _ (by show w.heap.size+1<_;omega) (λe=>by injection e with e;have e:w.heap.size+1=S:=e;omega))).trans c9
   have fi:gb.cell? ⟨w.heap.size,0,none⟩=some (nI (d:Nat)):=(Z8 (a:=⟨w.heap.size,0,none⟩) (hH.block _ (by show w.heap.size<_;omega) (λe=>by injection e with e;have e:w.heap.size=S:=e;omega))).trans ge
   have dv:gb.frozen? ⟨w.heap.size+1,0,none⟩=false:=(World.frozen?_of_block (a:=⟨w.heap.size+1,0,none⟩) (hH.block _ (by show w.heap.size+1<_;omega) (λe=>by injection e with e;have e:w.heap.size+1=S:=e;omega))).trans f9
   have Z:=Zp2 H (a:=⟨w.heap.size+1,0,none⟩) (by show w.heap.size+1<w.heap.size+2;omega) (Value.slice (some A8) (O.length+1) ht)
   obtain ⟨gc,hh⟩:∃q,w8.setCell ⟨w.heap.size+1,0,none⟩ (.slice (some A8) (O.length+1) ht)=q:=⟨_,rfl⟩
   have gg:gc.setCells S (O.length*7) (cellsN Y)=fg:=(by rw[<-hh,Kv S ⟨w.heap.size+1,0,none⟩ _ (by show w.heap.size+1≠S;omega),he])
   rw[hw] at he
   have hG:(#[nI 0,eS,.string ⟨#[111,117,116,108,105,110,101]⟩,.slice AB 1 ac,.slice KB kids.length kc,eS,nI 0]:Array Value).all (λu=>u.oneCell')=true:=(by simp[Value.oneCell'])
   have gB:=gd (gl w8 H)
   have gz:=gd (gk w8 H)
   rw[hh] at Z
   have gC:=gd (gl gc Z)
   have gA:=gd (gk gc Z)
   have gP:(0:Int)<=(O.length:Int):=om
   have dw:(O.length:Int)<((O.length+1:Nat):Int):=om
   have dx:(O.length:Int)<(O.length:Int)+1:=om
   rw[<-hu]
   have ds:=gd hu
   clear gl gk H hA hT gm gN fl I hH fm Z hu hY hV hW
   refine hK _ _ (λ_=>⟨c9,ge⟩) ?_
   clear hK K
   go_simp
   refine Zda (i:=12) (j:=14) rfl rfl (by kernel_rfl) (λK hK=> ?_) (λK hK=> ?_)
  focus
   go_simp
   refine hK _ _ (λ_=>⟨c9,ge⟩) ?_
   clear hK K
   go_simp
   refine Zda (i:=13) (j:=14) rfl rfl (by kernel_rfl) (λK hK=> ?_) (λK hK=> ?_)
  ·refine Kw rfl 25 (.tmp 67) (.tmp 63) rfl S (O.length*7) #[nI 0,eS,.string ⟨#[111,117,116,108,105,110,101]⟩,.slice AB 1 ac,.slice KB kids.length kc,eS,nI 0] (by first|rfl|(show Value.pointer (some (A8.add (O.length*7)))=_;rw[gG])) rfl ZJ gB.out gz.out hG ?_;rw[gJ,hw];refine hK _ _ (λ_=>⟨fh,fi⟩) ?_;clear hK K;go_simp;refine QZ (i:=14) rfl (by kernel_rfl) (λK hK=> ?_);go_simp;(try rw[he]);refine hK _ _ (λh=>absurd (show true=false from h) (by decide)) ?_;clear hK K;refine Zc9 (by kernel_rfl) ?_;exact ⟨J.out.1,J.out.2.1,_,_,J.out.2.2⟩
  focus
   go_simp
   (try rw[hh])
  rotate_left
  focus
   go_simp
   (try rw[hh])
   refine hK _ _ (λh=>absurd (show true=false from h) (by decide)) ?_
   clear hK K
   go_simp
   refine QZ (i:=12) rfl (by kernel_rfl) (λK hK=> ?_)
   go_simp
  all_goals
   refine hK _ _ (λh=>absurd (show true=false from h) (by decide)) ?_
   clear hK K
   go_simp
   refine QZ (i:=13) rfl (by kernel_rfl) (λK hK=> ?_)
   refine Kw rfl 25 (.tmp 67) (.tmp 63) rfl S (O.length*7) #[nI 0,eS,.string ⟨#[111,117,116,108,105,110,101]⟩,.slice AB 1 ac,.slice KB kids.length kc,eS,nI 0] (by first|rfl|(show Value.pointer (some (A8.add (O.length*7)))=_;rw[gG])) rfl ZJ gC.out gA.out hG ?_
   rw[gJ,gg]
   refine hK _ _ (λh=>absurd (show true=false from h) (by decide)) ?_
   clear hK K
   refine Zc9 (by kernel_rfl) ?_
   exact ⟨J.out.1,J.out.2.1,_,_,J.out.2.2⟩
 case done=>rintro D W hD ⟨u',O',hF⟩ gO;have c5:W.cell? ⟨w.heap.size+1,0,none⟩=some u':=(Zy hF.ucell 0).trans rfl;have HF:=gd hF;obtain ⟨UB,uc,rfl⟩:=Ym hF.nodes.row;clear hF;(try simp only[Exit.inBlock,Exit.then]);refine gw.out _ _ ?_;go_wp2;refine ⟨by simp,.inl ⟨_,_,rfl,run_takeDeferred gO,?_⟩⟩;have HP:=HF.out.obj (o':= .deferred none) gO rfl om;exact ⟨_,results_tmp rfl _ _ _,.slice UB O'.length uc,O',rfl,⟨X4 HP.nodes.row om,HP.nodes.rd,HP.nodes.away⟩,gq.out _ _ _ HF.out,HP.kinds,HP.new.mono om,HP.ext⟩
theorem Znq:∀(f:Nat) (d:Nat) (v:Value) (l:List Fc) (w:Wq),okT f d (l.map Fc.f)->RFcs w v l->(∀x∈l,RdC w x)->l.length<=1000000->d+f<=1000->
 Calls prog 45 #[v,nI (d:Nat)] w (OutP f d l w):=by
 intro f
 induction f with
 |zero=>intro d v l w gk;exact gk.elim
 |succ f ih=>
 intro d v l w gk hv g6 hl hd;have gN:=gd ih;have gS:=gd gk;have HV:=gd hv;have gz:=gd g6;have HL:=gd hl;clear ih gk g6;obtain ⟨i0,g1,fc,fd,fe⟩:=YH Vh;refine (callsIn_wide (n:=1000000)).1 ?_;refine callsIn_of_wp_marks func45 rfl trivial ?_ rfl;refine wpIn_mono (Q:=onlyRet _) ?_ Zjh;refine (wpIn_wide (n:=1000000)).2 ?_;simp only[ntmps45,List.size_toArray,Zd,ZK,Nat.reduceAdd,Nat.reduceSub,Array.replicate_succ,Array.replicate_zero,List.push_toArray,List.append_toArray,Z7,ZX];go_wp2;rename_i K7 gX;have gO:=gd gX;clear gX;go_loopw [0] (λv0 wr=>∃(j:Nat) (u:Value) (O:List Nc),OutI d l w v0 j u O wr) (λv0 _=>slLen v0)
 case atStart=>exact ⟨0,sN,[],HV.out,Zj _,(Uc _ _ (by rw[Zu];omega)).trans (Zg w _),YS w _ _,HNs.nil _ _,(by rw[Nc.nds];rfl),(by intro y hy;cases hy),((Ext.refl w).alloc _).alloc _,(by rw[Zu,Zu];exact Zc _),(YI _).symm,newNs.nil _⟩
 case round=>
  obtain ⟨j,u,O,hI⟩:=hrel;have hr:=gd hI;obtain ⟨hE,hj,hV,gn,hO,gZ,gY,hx,g9,g2,fo⟩:=hI;clear g2 fo;obtain ⟨UB,uc,rfl⟩:=Ym hO.row;have c1:wr.cell? ⟨w.heap.size,0,none⟩=some (nI (d:Nat)):=by rw[Zy hV];rfl
  by_cases hY:j<l.length
  focus
   have hdr:=Zl hY
   obtain ⟨x,gp⟩:∃x,l[j]=x:=⟨_,rfl⟩
   obtain ⟨t,gJ⟩:∃t,l.drop (j+1)=t:=⟨_,rfl⟩
   rw[gp,gJ] at hdr
   rw[hdr] at hE
   have gL:RdC w x:=gz.out x (by rw[<-gp];exact ZL hY)
   obtain ⟨ad,c,rfl,hc⟩:=RFcs.at (RSl.ext hE hx) (k:=0) (by rw[Zd];omega)
   rw[Xj,add_zero,JQ] at hc
   obtain ⟨PA,pc,g5, -, -⟩:=RStrs.form gL.1
   obtain ⟨m,hm⟩:∃m,(x::t).length=m:=⟨_,rfl⟩
   have fu:(0:Int)<(m:Int):=(by rw[<-hm,Zd];omega)
   have fw:¬m=0:=om
   have fv:0<m:=om
   have a0:=hc.c0
   have a1:=hc.c1
   have a2:=hc.c2
   have a3:=hc.c3
   rw[g5] at a0
   obtain ⟨pl,gI⟩:∃pl,x.f.path.length=pl:=⟨_,rfl⟩
   rw[gI] at a0
   obtain ⟨b,hb⟩:∃b,((pl:Int)==(d:Int))=b:=⟨_,rfl⟩
   have HM:=gd hm
   have gx:=gd gI
   have gD:=gd gp
   have gU:=gd gJ
   have gs:=gd hb
   have gV:=gd hE
   have HX:=gd hx
   have ge:=gd g9
   have HO:=gd hO
   have gT:=gd gZ
   have fq:=gd gY
   have ft:=gd gL
   have fr:=gd hdr
   rw[hm]
   clear hm gI gp gJ hE hx g9 hO gZ gY gL hdr hc g5
   go_wp2
   refine rN ?_
   change wpAny _ _ _ _ _ _ _ (World.drew _)
   have H:=(Ext.refl wr).drew
   obtain ⟨Wd,gF⟩:∃q,World.drew wr=q:=⟨_,rfl⟩
   rw[gF] at H|-
   have e1:=H.cell c1
   have e2:=H.cell a0
   refine YD (λw'=>w'=Wd) ?_
   refine tS 0 (.slice (some ad) m c) rfl (λw' D=>by subst D;go_simp) rfl ?_
   refine tS 1 (nI (m:Nat)) rfl (λw' D=>by subst D;go_simp) rfl ?_
   refine tS 2 (.bool true) rfl (λw' D=>by subst D;go_simp) rfl ?_
   refine tS 3 (.bool true) rfl (λw' D=>by subst D;go_simp) rfl ?_
   go_simp
   refine tS 4 (.slice (some ad) m c) rfl (λw' D=>by subst D;go_simp) rfl ?_
   go_simp
   refine tS 5 (.pointer (some ad)) rfl (λw' D=>by subst D;go_simp) rfl ?_
   go_simp
   refine tS 6 (.pointer (some ad)) rfl (λw' D=>by subst D;go_simp) rfl ?_
   go_simp
   refine tS 7 (.slice PA pl pc) rfl (λw' D=>by subst D;go_simp) rfl ?_
   go_simp
   refine tS 8 (nI (pl:Nat)) rfl (λw' D=>by subst D;go_simp) rfl ?_
   go_simp
   refine tS 9 (nI (d:Nat)) rfl (λw' D=>by subst D;go_simp) rfl ?_
   go_simp
   refine tS 10 (.bool b) rfl (λw' D=>by subst D;go_simp) rfl ?_
   go_simp
   refine tS 11 (.bool b) rfl (λw' D=>by subst D;go_simp) rfl ?_
   go_simp
   refine sE ?_
   cases b
  ·have g8:ownN d (l.map Fc.f)=j:=hr.out.stop hY gD.out (by rw[gx.out];have h:=gs.out;rw[Zv] at h;omega);have gw:Hid (RFcs w (.slice (some ad) m c) (l.drop j)):=gd (by have h:=hr.out.left;rw[HM.out] at h;exact h);have gB:=gd g8;have gK:=hr.out.ext_ H;rw[HM.out] at gK;have gC:=gd gK;clear gK g8 hV gn c1 a0 a1 a2 a3 e2 H;go_wp2;refine gO.out _ _ ?_;have hT:=Zez _ rfl f d l w gN.out gS.out gz.out HL.out hd (some ad) m c j (.slice UB O.length uc) O Wd gw.out gB.out gC.out;exact hT _ _ _ _ _ _ _ _ _ _ _ _ _ _ _ _ _ _ _ _ _ _ _ _ _ _ _ _ _ _ _ _ _ _ _ _ _ _ _ _ _ _ _ _ _ _ _ _ _ _ _ _ _ _ _ _ _ _ _ _ _ _ _ _ _ _
  focus
   have f1:=H.cell a1
   have f2:=H.cell a2
   have f3:=H.cell a3
   have fi:=gd H
   clear e1 e2 H
   go_wp2
   refine rN ?_
   change wpAny _ _ _ _ _ _ _ (World.drew _)
   have H:=(Ext.refl Wd).drew
   obtain ⟨Wt,fl⟩:∃q,World.drew Wd=q:=⟨_,rfl⟩
   rw[fl] at H|-
   have f1:=H.cell f1
   have f2:=H.cell f2
   have f3:=H.cell f3
   have ho:=gd (Ext.refl Wt)
   have gf:=ho
   obtain ⟨zt,ff⟩:∃zt,zt=Wt.heap.size:=⟨_,rfl⟩
   have hp:=gd ff
   clear ff
   have S:=gd (fi.out.trans H)
   clear H
   refine YD (λw'=>Ext Wt w') ?_
   refine tG 1 (.slice (some ad) m c) ho.out ?_
   refine tG 2 (.pointer (some ad)) ho.out ?_
   refine tG 3 (.pointer (some ⟨ad.block,ad.off+2,none⟩)) ho.out ?_
   refine tS 4 (.string x.f.title) rfl (λw' D=>by have q:=Ext.cell D f2;go_simp) ho.out ?_
   go_simp
   refine tG 5 (.slice (some ad) m c) ho.out ?_
   go_simp
   refine tG 6 (.pointer (some ad)) ho.out ?_
   go_simp
   refine tG 7 (.pointer (some ⟨ad.block,ad.off+1,none⟩)) ho.out ?_
   go_simp
   refine tS 8 (.string x.f.id) rfl (λw' D=>by have q:=Ext.cell D f1;go_simp) ho.out ?_
   go_simp
   go_simp
   refine Za5 (m:=1) (f:=4) rfl #[true,true,true,true,true,true,true,true,true,true,true,true,false] (λa0 a' w'=>∃(x1 x2:Value) (KB:Option Addr) (kc:Nat) (AB:Option Addr) (ac nb aw:Nat),a'=((((a0.put (some 21) x1).put (some 30) x2).put (some 31) (.agg #[nI 0,eS,.string ⟨#[111,117,116,108,105,110,101]⟩,.slice AB 3 ac,.slice KB 0 kc,eS,nI 0])).put (some 6) (.pointer (some ⟨nb,0,none⟩)))/\
    Ext Wt w'/\w'.heap[nb]? =some (.cells #[nI 0,eS,eS,sN,sN,eS,nI 0] 25 (0,0))/\zt<=nb/\w'.ownsRow aw 88 4 (.slice AB 3 ac) 3 (flatA ([(typeL,rssL),(textL,lst x.f.title),(xmlUrlL,lst x.f.id)].map pairA))/\zt<=aw/\RNs w' (.slice KB 0 kc) []) ?_ ?_
  ·have q:True:=trivial;refine QX [0,9,10,11] dst3 dep3 (F3 zt x.f) rfl (by kernel_rfl) (by decide) (by decide) (by kernel_rfl) (by decide) (by kernel_rfl) (λi _=>Zo1 i) (λw' hx=>hx) ?_ ?_
   ·intro i hi A w' vs hx hh hg;have gW:Hid (zt<=w'.heap.size):=gd (by rw[hp.out];exact hx.size);simp only[ZH,ZY,Y1] at hi;rcases hi with rfl|rfl|rfl|rfl
    ·clear hh hg hx;refine VR rfl rfl (λK hK=> ?_);go_simp;go_at_call 44;refine Za (Zkz w') ?_;rintro e V ⟨KB,kc,rfl,hD,hv⟩;exact hK _ _ hv ⟨KB,kc,rfl,hD⟩
    ·have e1:A.tmps[25]?.getD undef= .string x.f.title:=J2 ((hh 25 (by decide)).trans rfl);have e2:A.tmps[29]?.getD undef= .string x.f.id:=J2 ((hh 29 (by decide)).trans rfl);clear hh hg hx;refine VR rfl rfl (λK hK=> ?_);go_simp;exact hK _ _ ((Ext.refl w').alloc _) (Zlf w' x.f.title x.f.id)
    ·obtain ⟨e1,KB,kc,e0,hD⟩:=hg 0 (by simp[dep3]);obtain ⟨e2,hs⟩:=hg 9 (by simp[dep3]);clear hh hg hx;have e1:A.tmps[21]?.getD undef=vs 0:=J2 e1;have e2:A.tmps[30]?.getD undef=vs 9:=J2 e2;rw[e0] at e1;refine VR rfl rfl (λK hK=> ?_);go_simp;go_at_call 46;refine Za (Zmd KB kc (vs 9) x.f.title x.f.id w' hs) ?_;rintro e V ⟨AB,ac,rfl,hc,hv⟩;exact hK _ _ hv ⟨KB,kc,AB,ac,_,rfl,hc,gW.out,VU hD⟩
    ·clear hh hg hx;refine VR rfl rfl (λK hK=> ?_);go_simp;exact hK _ _ ((Ext.refl w').alloc _) ⟨_,rfl,Zg w' _,gW.out⟩
   ·intro vs w' hx hf;obtain ⟨KB,kc,AB,ac,aw,fj,h1,h2,h3⟩:=hf 10 (by decide);obtain ⟨nb,fk,h4,h5⟩:=hf 11 (by decide);exact ⟨by kernel_rfl,vs 0,vs 9,KB,kc,AB,ac,nb,aw,by rw[<-fj,<-fk];kernel_rfl,hx,h4,h5,h1,h2,h3⟩
  focus
   have q:True:=trivial
   rintro a' W7 ⟨fy,fz,KB,kc,AB,ac,nb,aw,rfl,fa,g3,g4,hc,g0,hD⟩
   have gf:=gd fa
   have gc:=gd g3
   have hJ:=gd g4
   have gM:=gd hc
   have ga:=gd g0
   have gP:=gd hD
   clear fa g3 g4 hc g0 hD
   go_simp
   refine sS 12 λK hK=> ?_
   refine YJ rfl 25 (.tmp 6) (.tmp 31) rfl nb _ rfl rfl _ _ gc.out ZJ rfl ZpP ?_
   refine hK _ _ ((gf.out).setRow (by rw[<-hp.out];exact hJ.out) _) ?_
   clear hK K
   refine sE ?_
   obtain ⟨W6,hN⟩:∃q,W7.setRow nb #[nI 0,eS,.string ⟨#[111,117,116,108,105,110,101]⟩,.slice AB 3 ac,.slice KB 0 kc,eS,nI 0]=q:=⟨_,rfl⟩
   have hU:W6.heap[nb]? =some (.cells #[nI 0,eS,.string ⟨#[111,117,116,108,105,110,101]⟩,.slice AB 3 ac,.slice KB 0 kc,eS,nI 0] 25 (0,0)):=(by rw[<-hN];exact ZF _ _ _ _ _ _ gc.out)
   have hF:Ext Wt W6:=(by rw[<-hN];exact gf.out.setRow (by rw[<-hp.out];exact hJ.out) _)
   have hP:W6.ownsRow aw 88 4 (.slice AB 3 ac) 3 (flatA ([(typeL,rssL),(textL,lst x.f.title),(xmlUrlL,lst x.f.id)].map pairA)):=(by rw[<-hN];exact Q8 gM.out gc.out (by decide))
   rw[hN]
   have f4:=hF.cell f3
   have J:=gd hU
   have U:=gd hF
   have hn:=gd hP
   have gq:Hid (RNs W6 (.slice KB 0 kc) []):=gd (VU gP.out)
   clear hN hU hF hP gc gf gM gP f1 f2
   cases hlk:x.f.link.toList.isEmpty
  focus
   have gu:=gd hlk
   go_wp2
   clear hlk
   have hB:=(Ext.refl W6).drew
   have gE:W6.drew.cell? ⟨ad.block,ad.off+3,none⟩=some (.string x.f.link)/\W6.drew.heap[nb]? =some (.cells #[nI 0,eS,.string ⟨#[111,117,116,108,105,110,101]⟩,.slice AB 3 ac,.slice KB 0 kc,eS,nI 0] 25 (0,0)):=⟨hB.cell f4,hB.heap J.out⟩
   refine rN ?_
   change wpAny _ _ _ _ _ _ _ (World.drew _)
   refine tH 1 (.slice (some ad) m c) ?_
   refine tH 2 (.pointer (some ad)) ?_
   refine tH 3 (.pointer (some ⟨ad.block,ad.off+3,none⟩)) ?_
   refine XS (i:=0) (v:= .agg #[nI 0,eS,.string ⟨#[111,117,116,108,105,110,101]⟩,.slice AB 3 ac,.slice KB 0 kc,eS,nI 0]) (λw'=>w'.cell? ⟨ad.block,ad.off+3,none⟩=some (.string x.f.link)/\w'.heap[nb]? =some (.cells #[nI 0,eS,.string ⟨#[111,117,116,108,105,110,101]⟩,.slice AB 3 ac,.slice KB 0 kc,eS,nI 0] 25 (0,0))) 7 rfl (by kernel_rfl) (λ_ _ _ h=>h) (Or.inl ⟨by rfl,λw' D=>by obtain ⟨q0,q1,q2,q3,q4,q5,q6⟩:=Zjd D.2;go_simp⟩) gE ?_
   refine tT 4 (.string x.f.link) rfl (λw' D=>by have hq:=D.1;go_simp) gE ?_
   go_simp
   refine XQ 7 [] (AtIx.cons rfl AtIx.nil) [5,6] (AtIx.cons rfl (AtIx.cons rfl AtIx.nil)) rfl (by kernel_rfl) ?_
   refine Yg (λK hK=> ?_)
   go_simp
   have hG:=hB.alloc (.cells #[.string ⟨#[104,116,109,108,85,114,108]⟩,.string x.f.link] 9)
   have gQ:Hid (RStrs (W6.drew.alloc (.cells #[.string ⟨#[104,116,109,108,85,114,108]⟩,.string x.f.link] 9)) (.slice (some ⟨W6.heap.size,0,none⟩) 2 2) (pairS [(htmlUrlL,lst x.f.link)])):=gd (Zli W6.drew x.f.link)
   refine hK _ _ ⟨hG.cell f4,hG.heap J.out⟩ ?_
   clear hK K
   refine Yg (λK hK=> ?_)
   go_simp
   go_at_call 46
   refine Za (ZjE AB ac KB kc _ x.f.title x.f.id x.f.link _ (RSl.of_own (Ya hn.out hG)) gQ.out) ?_
   rintro e V5 ⟨AC,I,rfl,hQ,fb⟩
   have ht:=hG.trans fb
   refine hK _ _ ⟨ht.cell f4,ht.heap J.out⟩ ?_
   clear hK K
   refine X0 ?_
   have gj:=ht.heap J.out
   obtain ⟨hL,hR⟩:∃q,(W6.alloc (.cells #[.string ⟨#[104,116,109,108,85,114,108]⟩,.string x.f.link] 9)).drew.heap.size=q:=⟨_,rfl⟩
   rw[hR] at hQ
   have gr:zt<=hL:=(by have h1:=U.out.size;have h2:W6.heap.size<=hL:=(by rw[<-hR];exact hG.size);rw[hp.out];omega)
   refine Zf rfl 25 (.tmp 6) (.tmp 43) rfl nb _ rfl rfl _ _ gj ZJ rfl Zps ?_
   obtain ⟨W5,hM⟩:∃q,V5.setRow nb #[nI 0,eS,.string ⟨#[111,117,116,108,105,110,101]⟩,.slice AC 4 I,.slice KB 0 kc,eS,nI 0]=q:=⟨_,rfl⟩
   have hU:W5.heap[nb]? =some (.cells #[nI 0,eS,.string ⟨#[111,117,116,108,105,110,101]⟩,.slice AC 4 I,.slice KB 0 kc,eS,nI 0] 25 (0,0)):=(by rw[<-hM];exact ZF _ _ _ _ _ _ gj)
   have hF:Ext Wt W5:=(by rw[<-hM];exact (U.out.trans ht).setRow (by rw[<-hp.out];exact hJ.out) _)
   have hP:W5.ownsRow hL 88 4 (.slice AC 4 I) 4 (flatA ([(typeL,rssL),(textL,lst x.f.title),(xmlUrlL,lst x.f.id)].map pairA++ [(htmlUrlL,lst x.f.link)].map pairA)):=(by rw[<-hM];exact Q8 hQ gj (by decide))
   rw[hM]
   clear f3 f4 hM gj hQ hG fb ht hB gE hR J U hn ga gQ
   have J:=gd hU
   have U:=gd hF
   have hn:=gd hP
   have ga:=gd gr
   clear hU hF hP gr
   obtain ⟨aw,fm⟩:∃q,hL=q:=⟨_,rfl⟩
   subst fm
   go_wp2
   have he:=(S.out.trans U.out).heap gn
   have hW:=(S.out.trans U.out).heap hV
   have ha:=(Ext.refl W5).drew
   have hC:W5.drew.cell? ⟨w.heap.size+1,0,none⟩=some (.slice UB O.length uc)/\W5.drew.heap[nb]? =some (.cells #[nI 0,eS,.string ⟨#[111,117,116,108,105,110,101]⟩,.slice AC 4 I,.slice KB 0 kc,eS,nI 0] 25 (0,0)):=⟨ha.cell ((Zy he 0).trans rfl),ha.heap J.out⟩
   refine rN ?_
   change wpAny _ _ _ _ _ _ _ (World.drew _)
   obtain ⟨LV,hu⟩:∃LV,loV 1 (.slice (some ad) m c)=LV:=⟨_,rfl⟩
   have g7:∀wx:Wq,(Instr.slice 29 (.slice (some ad) m c) (some (nI 1)) none none).run prog wx= .ok LV wx:=λwx=>(by rw[<-hu];exact Zju (n:=1) om wx)
   have gb:=gd hu
   clear hu
   refine tH 4 (.slice (some ad) m c) ?_
   refine tH 5 (LV) ?_
   refine XS (i:=0) (v:= .slice UB O.length uc) (λw'=>w'.cell? ⟨w.heap.size+1,0,none⟩=some (.slice UB O.length uc)/\w'.heap[nb]? =some (.cells #[nI 0,eS,.string ⟨#[111,117,116,108,105,110,101]⟩,.slice AC 4 I,.slice KB 0 kc,eS,nI 0] 25 (0,0))) 6 rfl (by kernel_rfl) (λ_ _ _ h=>h) (Or.inl ⟨by rfl,λw' D=>by have hq:=D.1;go_simp⟩) hC ?_
   refine tT 1 (.agg #[nI 0,eS,.string ⟨#[111,117,116,108,105,110,101]⟩,.slice AC 4 I,.slice KB 0 kc,eS,nI 0]) rfl (λw' D=>by obtain ⟨q0,q1,q2,q3,q4,q5,q6⟩:=Zjd D.2;go_simp) hC ?_
   go_simp
   refine XQ 6 [7] (AtIx.cons rfl (AtIx.cons rfl AtIx.nil)) [2,3] (AtIx.cons rfl (AtIx.cons rfl AtIx.nil)) rfl (by kernel_rfl) ?_
   refine Yg (λK hK=> ?_)
   go_simp
   have F:=ha.alloc (.cells #[nI 0,eS,.string ⟨#[111,117,116,108,105,110,101]⟩,.slice AC 4 I,.slice KB 0 kc,eS,nI 0] 25)
   refine hK _ _ ⟨F.cell ((Zy he 0).trans rfl),F.heap J.out⟩ ?_
   clear hK K
   have Y:=gd (HO.out.ext (S.out.trans (U.out.trans F)))
   have hX:O.length=j:=(by have h:=Zz List.length gT.out;rw[Jw,Zq,Zq,ZM] at h;omega)
   have fg:=gd hX
   have h7:=Xp (x:=(leafC2 KB kc (.slice AC 4 I) x.f)) ⟨⟨_,_,_,rfl⟩,⟨_,_,_,rfl⟩⟩
   have hH:Hid (RSl (W5.drew.alloc (.cells #[nI 0,eS,.string ⟨#[111,117,116,108,105,110,101]⟩,.slice AC 4 I,.slice KB 0 kc,eS,nI 0] 25)) 7 (.slice (some ⟨W5.heap.size,0,none⟩) 1 1) 1 (cellsN (leafC2 KB kc (.slice AC 4 I) x.f))):=gd (Yo (w:=W5.drew) (n:=1) (cs:=cellsN (leafC2 KB kc (.slice AC 4 I) x.f)) rfl (by decide))
   obtain ⟨h9,h8⟩:=Vj (n:=O.length) om
   have gA:=gd h9
   have gy:=gd h8
   have R:Hid (w.heap.size+2<=(W5.drew.alloc (.cells #[nI 0,eS,.string ⟨#[111,117,116,108,105,110,101]⟩,.slice AC 4 I,.slice KB 0 kc,eS,nI 0] 25)).heap.size):=gd (Zp ge.out (S.out.trans (U.out.trans F)).size)
   clear hX h9 h8
   refine Yg (λK hK=> ?_)
   refine Z1 _ (by rfl) (.tmp 44) (.tmp 46) _ (by rfl) (w.heap.size+2) 25 i0 _ 7 112 underlying23 g1 fc fd fe rfl (by decide) _ O.length (flatN O) (by rfl) Y.out.row _ 1 (cellsN (leafC2 KB kc (.slice AC 4 I) x.f)) (by rfl) hH.out h7 gA.out gy.out R.out ?_
   intro v8 w8 Z X hw
   have gi:RdN (W5.drew.alloc (.cells #[nI 0,eS,.string ⟨#[111,117,116,108,105,110,101]⟩,.slice AC 4 I,.slice KB 0 kc,eS,nI 0] 25)) (leafC2 KB kc (.slice AC 4 I) x.f):=Zle (Ya hn.out F) (VU gq.out)
   have gg:awayN (Value.slice UB O.length uc).ownBlock (leafC2 KB kc (.slice AC 4 I) x.f):=by
    unfold leafC2
    rw[awayN]
    exact ⟨Or.inr (ZeC (Ya hn.out F) Y.out.row (by decide) (Qg (by simp))),Or.inl rfl,by rw[awayNs];trivial⟩
   have gt:=gd (HNs.snoc Y.out gi gg Z X hw)
   have h0:(Value.slice UB O.length uc).ownBlock≠some (w.heap.size+1):=Jq Y.out.row om
   have h6:(Value.slice UB O.length uc).ownBlock≠some w.heap.size:=Jq Y.out.row om
   have hZ:(Value.slice UB O.length uc).ownBlock≠some nb:=λe=>by
    have h1:=(HO.out.row.lt _ e).2
    have h2:=hJ.out
    have h3:=hp.out
    have h4:=S.out.size
    omega
   have hk:w8.heap[w.heap.size+1]? =some (.cells #[.slice UB O.length uc] 23 (0,0)):=(X.block _ (YZ (Yy (w.heap.size+1)) R.out) (λe=>h0 e.symm)).trans (F.heap he)
   have hz:w8.heap[w.heap.size]? =some (.cells #[nI (d:Nat)] 3 (0,0)):=(X.block _ (YZ om R.out) (λe=>h6 e.symm)).trans (F.heap hW)
   have gG:w8.heap[nb]? =some (.cells #[nI 0,eS,.string ⟨#[111,117,116,108,105,110,101]⟩,.slice AC 4 I,.slice KB 0 kc,eS,nI 0] 25 (0,0)):=(X.block _ (ZP.1 (F.heap J.out)).1 (λe=>hZ e.symm)).trans (F.heap J.out)
   obtain ⟨OB,ob,gH⟩:=Ym Z
   subst gH
   have go:=Ext.app (HX.out.trans (S.out.trans (U.out.trans F))) X Y.out.row om
   have gm:RFcs w LV (l.drop (j+1)):=(by rw[gU.out,<-gb.out,<-HM.out];exact I0 1 gV.out (by rw[Zd];omega))
   have gl:x.f.path.length=d:=(by rw[gx.out];have h:=gs.out;rw[JI] at h;omega)
   have hA:w.heap.size+2<=w8.heap.size:=Zp R.out X.size
   have gh:w.heap.size+2<=hL:=(by have h1:=ga.out;have h2:=hp.out;have h3:=S.out.size;have h4:=ge.out;omega)
   have gR:=gd (hr.out.next hY gD.out gm hz hk gt.out (Zld (Zlh gu.out)) rfl go hA gl (Zg5 hn.out gh).2)
  rotate_left
  focus
   have gu:=gd hlk
   go_wp2
   clear f3 f4 hlk
   have he:=(S.out.trans U.out).heap gn
   have hW:=(S.out.trans U.out).heap hV
   have ha:=(Ext.refl W6).drew
   have hC:W6.drew.cell? ⟨w.heap.size+1,0,none⟩=some (.slice UB O.length uc)/\W6.drew.heap[nb]? =some (.cells #[nI 0,eS,.string ⟨#[111,117,116,108,105,110,101]⟩,.slice AB 3 ac,.slice KB 0 kc,eS,nI 0] 25 (0,0)):=⟨ha.cell ((Zy he 0).trans rfl),ha.heap J.out⟩
   refine rN ?_
   change wpAny _ _ _ _ _ _ _ (World.drew _)
   obtain ⟨LV,hu⟩:∃LV,loV 1 (.slice (some ad) m c)=LV:=⟨_,rfl⟩
   have g7:∀wx:Wq,(Instr.slice 29 (.slice (some ad) m c) (some (nI 1)) none none).run prog wx= .ok LV wx:=λwx=>(by rw[<-hu];exact Zju (n:=1) om wx)
   have gb:=gd hu
   clear hu
   refine tH 4 (.slice (some ad) m c) ?_
   refine tH 5 (LV) ?_
   refine XS (i:=0) (v:= .slice UB O.length uc) (λw'=>w'.cell? ⟨w.heap.size+1,0,none⟩=some (.slice UB O.length uc)/\w'.heap[nb]? =some (.cells #[nI 0,eS,.string ⟨#[111,117,116,108,105,110,101]⟩,.slice AB 3 ac,.slice KB 0 kc,eS,nI 0] 25 (0,0))) 6 rfl (by kernel_rfl) (λ_ _ _ h=>h) (Or.inl ⟨by rfl,λw' D=>by have hq:=D.1;go_simp⟩) hC ?_
   refine tT 1 (.agg #[nI 0,eS,.string ⟨#[111,117,116,108,105,110,101]⟩,.slice AB 3 ac,.slice KB 0 kc,eS,nI 0]) rfl (λw' D=>by obtain ⟨q0,q1,q2,q3,q4,q5,q6⟩:=Zjd D.2;go_simp) hC ?_
   go_simp
   refine XQ 6 [7] (AtIx.cons rfl (AtIx.cons rfl AtIx.nil)) [2,3] (AtIx.cons rfl (AtIx.cons rfl AtIx.nil)) rfl (by kernel_rfl) ?_
   refine Yg (λK hK=> ?_)
   go_simp
   have F:=ha.alloc (.cells #[nI 0,eS,.string ⟨#[111,117,116,108,105,110,101]⟩,.slice AB 3 ac,.slice KB 0 kc,eS,nI 0] 25)
   refine hK _ _ ⟨F.cell ((Zy he 0).trans rfl),F.heap J.out⟩ ?_
   clear hK K
   have Y:=gd (HO.out.ext (S.out.trans (U.out.trans F)))
   have hX:O.length=j:=(by have h:=Zz List.length gT.out;rw[Jw,Zq,Zq,ZM] at h;omega)
   have fg:=gd hX
   have h7:=Xp (x:=(leafC KB kc (.slice AB 3 ac) x.f)) ⟨⟨_,_,_,rfl⟩,⟨_,_,_,rfl⟩⟩
   have hH:Hid (RSl (W6.drew.alloc (.cells #[nI 0,eS,.string ⟨#[111,117,116,108,105,110,101]⟩,.slice AB 3 ac,.slice KB 0 kc,eS,nI 0] 25)) 7 (.slice (some ⟨W6.heap.size,0,none⟩) 1 1) 1 (cellsN (leafC KB kc (.slice AB 3 ac) x.f))):=gd (Yo (w:=W6.drew) (n:=1) (cs:=cellsN (leafC KB kc (.slice AB 3 ac) x.f)) rfl (by decide))
   obtain ⟨h9,h8⟩:=Vj (n:=O.length) om
   have gA:=gd h9
   have gy:=gd h8
   have R:Hid (w.heap.size+2<=(W6.drew.alloc (.cells #[nI 0,eS,.string ⟨#[111,117,116,108,105,110,101]⟩,.slice AB 3 ac,.slice KB 0 kc,eS,nI 0] 25)).heap.size):=gd (Zp ge.out (S.out.trans (U.out.trans F)).size)
   clear hX h9 h8
   refine Yg (λK hK=> ?_)
   refine Z1 _ (by rfl) (.tmp 44) (.tmp 46) _ (by rfl) (w.heap.size+2) 25 i0 _ 7 112 underlying23 g1 fc fd fe rfl (by decide) _ O.length (flatN O) (by rfl) Y.out.row _ 1 (cellsN (leafC KB kc (.slice AB 3 ac) x.f)) (by rfl) hH.out h7 gA.out gy.out R.out ?_
   intro v8 w8 Z X hw
   have gi:RdN (W6.drew.alloc (.cells #[nI 0,eS,.string ⟨#[111,117,116,108,105,110,101]⟩,.slice AB 3 ac,.slice KB 0 kc,eS,nI 0] 25)) (leafC KB kc (.slice AB 3 ac) x.f):=Zm5 (Ya hn.out F) (VU gq.out)
   have gg:awayN (Value.slice UB O.length uc).ownBlock (leafC KB kc (.slice AB 3 ac) x.f):=by
    unfold leafC
    rw[awayN]
    exact ⟨Or.inr (ZeC (Ya hn.out F) Y.out.row (by decide) (Qg (by simp))),Or.inl rfl,by rw[awayNs];trivial⟩
   have gt:=gd (HNs.snoc Y.out gi gg Z X hw)
   have h0:(Value.slice UB O.length uc).ownBlock≠some (w.heap.size+1):=Jq Y.out.row om
   have h6:(Value.slice UB O.length uc).ownBlock≠some w.heap.size:=Jq Y.out.row om
   have hZ:(Value.slice UB O.length uc).ownBlock≠some nb:=λe=>by
    have h1:=(HO.out.row.lt _ e).2
    have h2:=hJ.out
    have h3:=hp.out
    have h4:=S.out.size
    omega
   have hk:w8.heap[w.heap.size+1]? =some (.cells #[.slice UB O.length uc] 23 (0,0)):=(X.block _ (YZ (Yy (w.heap.size+1)) R.out) (λe=>h0 e.symm)).trans (F.heap he)
   have hz:w8.heap[w.heap.size]? =some (.cells #[nI (d:Nat)] 3 (0,0)):=(X.block _ (YZ om R.out) (λe=>h6 e.symm)).trans (F.heap hW)
   have gG:w8.heap[nb]? =some (.cells #[nI 0,eS,.string ⟨#[111,117,116,108,105,110,101]⟩,.slice AB 3 ac,.slice KB 0 kc,eS,nI 0] 25 (0,0)):=(X.block _ (ZP.1 (F.heap J.out)).1 (λe=>hZ e.symm)).trans (F.heap J.out)
   obtain ⟨OB,ob,gH⟩:=Ym Z
   subst gH
   have go:=Ext.app (HX.out.trans (S.out.trans (U.out.trans F))) X Y.out.row om
   have gm:RFcs w LV (l.drop (j+1)):=(by rw[gU.out,<-gb.out,<-HM.out];exact I0 1 gV.out (by rw[Zd];omega))
   have gl:x.f.path.length=d:=(by rw[gx.out];have h:=gs.out;rw[JI] at h;omega)
   have hA:w.heap.size+2<=w8.heap.size:=Zp R.out X.size
   have gh:w.heap.size+2<=aw:=(by have h1:=ga.out;have h2:=hp.out;have h3:=S.out.size;have h4:=ge.out;omega)
   have gR:=gd (hr.out.next hY gD.out gm hz hk gt.out (Zm4 (Zlj gu.out)) rfl go hA gl (Zg5 hn.out gh).1)
  rotate_left
  ·have fn:l.drop j= []:=ZC om;rw[fn] at hE;obtain ⟨-,A,c,rfl, -⟩:=hE;go_wp2;refine rN ?_;change wpAny _ _ _ _ _ _ _ (World.drew _);have H:=(Ext.refl wr).drew;obtain ⟨Wd,gF⟩:∃q,World.drew wr=q:=⟨_,rfl⟩;rw[gF] at H|-;have e1:=H.cell c1;refine YD (λw'=>w'=Wd) ?_;refine tS 0 (.slice A 0 c) rfl (λw' D=>by subst D;go_simp) rfl ?_;refine tS 1 (nI 0) rfl (λw' D=>by subst D;go_simp) rfl ?_;refine tS 2 (.bool false) rfl (λw' D=>by subst D;go_simp) rfl ?_;refine tS 3 (.bool false) rfl (λw' D=>by subst D;go_simp) rfl ?_;go_simp;refine YP (i:=4) (v:=undef) rfl (by kernel_rfl) (λ_ _ _ h=>h) (Or.inr ⟨by rfl,rfl⟩) rfl ?_;go_simp;refine YP (i:=5) (v:=undef) rfl (by kernel_rfl) (λ_ _ _ h=>h) (Or.inr ⟨by rfl,rfl⟩) rfl ?_;go_simp;refine YP (i:=6) (v:=undef) rfl (by kernel_rfl) (λ_ _ _ h=>h) (Or.inr ⟨by rfl,rfl⟩) rfl ?_;go_simp;refine YP (i:=7) (v:=undef) rfl (by kernel_rfl) (λ_ _ _ h=>h) (Or.inr ⟨by rfl,rfl⟩) rfl ?_;go_simp;refine YP (i:=8) (v:=undef) rfl (by kernel_rfl) (λ_ _ _ h=>h) (Or.inr ⟨by rfl,rfl⟩) rfl ?_;go_simp;refine YP (i:=9) (v:=undef) rfl (by kernel_rfl) (λ_ _ _ h=>h) (Or.inr ⟨by rfl,rfl⟩) rfl ?_;go_simp;refine YP (i:=10) (v:=undef) rfl (by kernel_rfl) (λ_ _ _ h=>h) (Or.inr ⟨by rfl,rfl⟩) rfl ?_;go_simp;refine tS 11 (.bool false) rfl (λw' D=>by subst D;go_simp) rfl ?_;go_simp;refine sE ?_;have gB:=gd (hr.out.full om);have gw:Hid (RFcs w (.slice A 0 c) (l.drop j)):=gd hr.out.left;have gC:=gd (hr.out.ext_ H);clear hV gn c1 H;go_wp2;refine gO.out _ _ ?_;have hT:=Zez _ rfl f d l w gN.out gS.out gz.out HL.out hd A 0 c j (.slice UB O.length uc) O Wd gw.out gB.out gC.out;exact hT _ _ _ _ _ _ _ _ _ _ _ _ _ _ _ _ _ _ _ _ _ _ _ _ _ _ _ _ _ _ _ _ _ _ _ _ _ _ _ _ _ _ _ _ _ _ _ _ _ _ _ _ _ _ _ _ _ _ _ _ _ _ _ _ _ _
  all_goals
   have fh:Hid (slLen LV=m - 1):=gd (by rw[<-gb.out];rfl)
   have fp:w8.cell? ⟨w.heap.size+1,0,none⟩=some (.slice UB O.length uc):=(Zy hk 0).trans rfl
   have fx:w8.frozen? ⟨w.heap.size+1,0,none⟩=false:=Z5 hk 0
   refine hK _ _ ⟨fp,gG⟩ ?_
   clear hK K Z X hw gi gg hk hz gG F ha hC go gm gl hA gh
   refine X0 ?_
   go_wp2
   go_roundw
   case rel=>exact ⟨j+1,_,_,gR.out⟩
   case measure=>
    rw[fh.out]
    show m - 1<m
    omega
end
end Go.Proofs.YtnlafkgkcnenfaaGreatDoor
