/- Parts of the proof: contracts and plain laws. -/
import Derived.Test.YtmfinhgobjbecaaGreatDoorA13
namespace Go.Proofs.YtmfinhgobjbecaaGreatDoor
open Go Go.RowKit _root_.Go.Proofs.Tryz
set_option linter.unusedVariables false
set_option linter.unusedSimpArgs false
set_option maxRecDepth 100000
set_option maxHeartbeats 16000000
section
attribute [local go_sem] calm1
def TA (lt:List Tc) (r:Nat):Prop:=∀x∈lt,awayV x.al x.t.attrs.length (some r)
structure AtTc (w:Wq) (q:Addr) (x:Tc):Prop where
 c0:w.cell? q=some (nI (x.t.kind:Nat))
 c1:w.cell? ⟨q.block,q.off+1,none⟩=some (.string (str x.t.name))
 c2:w.cell? ⟨q.block,q.off+2,none⟩=some x.al
 c3:w.cell? ⟨q.block,q.off+3,none⟩=some (.bool x.t.empty)
 c4:w.cell? ⟨q.block,q.off+4,none⟩=some (.string (str x.t.text))
 c5:w.cell? ⟨q.block,q.off+5,none⟩=some (nI (x.t.at_:Nat))
theorem RTs.at {w:Wq} {v:Value} {l:List Tc} (h:RSl w 6 v l.length (flatT l)) {k:Nat} (D:k<l.length):∃ad c,v= .slice (some ad) l.length c/\AtTc w (ad.add (k*6)) l[k]:=by
 obtain ⟨ad,c,e,C⟩:=RSl.elem (k:=6) (css:=l.map cellsT) h (by decide) (by intro c C;obtain ⟨x,_,rfl⟩:=Zrr.1 C;rfl) k (cellsT l[k]) (by rw[Zrq,ZqL D];rfl);rw[Zst] at C;have A:∀i,0<i->(ad.add (k*6)).add i=⟨(ad.add (k*6)).block,(ad.add (k*6)).off+i,none⟩:=λi F=>ZqH om;refine ⟨ad,c,e,?_,?_,?_,?_,?_,?_⟩
 ·have:=C 0 _ rfl;rwa [add_zero] at this
 ·have:=C 1 _ rfl;rwa [A _ (by decide)] at this
 ·have:=C 2 _ rfl;rwa [A _ (by decide)] at this
 ·have:=C 3 _ rfl;rwa [A _ (by decide)] at this
 ·have:=C 4 _ rfl;rwa [A _ (by decide)] at this
 ·have:=C 5 _ rfl;rwa [A _ (by decide)] at this
structure PCtx (w:Wq) (G:Nat) (lv:Value) (lt:List Tc):Prop where
 row:RSl w 6 lv lt.length (flatT lt)
 rd:∀x∈lt,RdT w x
 away:awayV lv lt.length (some G)
 ta:TA lt G
theorem PCtx.grown {w w':Wq} {G:Nat} {lv:Value} {lt:List Tc} (h:PCtx w G lv lt) (A:w.grownBy w' (some G)):PCtx w' G lv lt:=
 ⟨RSl.grown h.row A (h.away.imp (λe=>by rw[List.length_eq_zero_iff.1 e];rfl) λe=>e),λx C=>RAts.away (h.rd x C) A (h.ta x C),h.away,h.ta⟩
theorem PCtx.ext {w w':Wq} {G:Nat} {lv:Value} {lt:List Tc} (h:PCtx w G lv lt) (A:Ext w w'):PCtx w' G lv lt:=h.grown (A.grown _)
theorem PCtx.new {w:Wq} {G r:Nat} {lv:Value} {lt:List Tc} (h:PCtx w G lv lt) (A:w.heap.size<=r):TA lt r:=λx C=>RAts.awayNew (h.rd x C) A
theorem RdT.form {w:Wq} {x:Tc} (h:RdT w x):∃A c,x.al= .slice A x.t.attrs.length c:=by
 obtain ⟨A,c,e, -, -⟩:=RAts.form h;exact ⟨A,c,e⟩
def Nc.more:Nc->List UInt8->Nc
 | .mk k s n al l ks kids t a,u=> .mk k s n al l ks kids (t++u) a
theorem Zja (y:Nc) (u:List UInt8):(cellsN y).set 5 (.string (str (y.text++u)))=cellsN (y.more u):=by cases y;rfl
theorem ZoR {w:Wq} {y:Nc} (u:List UInt8) (h:RdN w y):RdN w (y.more u):=by cases y;rw[RdN] at h;rw[Nc.more,RdN];exact h
theorem Zen {r:Option Nat} {y:Nc} (u:List UInt8) (h:awayN r y):awayN r (y.more u):=by cases y;rw[awayN] at h;rw[Nc.more,awayN];exact h
theorem Zn2 (a b:List UInt8):str a++str b=str (a++b):=by
 have h:(str a++str b).data=(str (a++b)).data:=by rw[ByteArray.data_append];apply Array.toList_inj.1;rw[Array.toList_append,Zg,Zg,Zg]
 cases hx:str a++str b;cases hy:str (a++b);rw[hx,hy] at h;simpa using h
theorem ZeT {h:List Nc} {y:Nc} (A:y.kind=1) (u:List UInt8) (a:Nat):Nc.nds (h++ [y.more u])=addText (Nc.nds (h++ [y])) u a:=by
 obtain ⟨k,s,n,al,l,ks,kids,t,b⟩:=y;simp only[Nc.kind] at A;subst A;rw[X6,X6];unfold addText;have C:(Nc.nds h++Nc.nds [Nc.mk 1 s n al l ks kids t b]).getLast? =some (.mk 1 s n l (Nc.nds kids) t b):=by rw[Zsa,Nc.nds,Nc.nds,Nc.nd];rfl
 rw[C];(try dsimp only);rw[show Nc.nds [Nc.mk 1 s n al l ks kids t b]= [Nd.mk 1 s n l (Nc.nds kids) t b] by rw[Nc.nds,Nc.nds,Nc.nd],List.dropLast_concat,Nc.more,Nc.nds,Nc.nds,Nc.nd];rfl
theorem HNs.text {w:Wq} {B g c q n:Nat} {l:List Nc} {y:Nc} (h:HNs w B (.slice (some ⟨g,0,none⟩) n c) l) (R:l.length=n) (I:q<l.length) (O:l[q]=y) (u:List UInt8):
 HNs (w.setCell ⟨g,q*7+5,none⟩ (.string (str (y.text++u)))) B (.slice (some ⟨g,0,none⟩) n c) (l.set q (y.more u)):=by
 subst R;have Q:=ZY w ⟨g,q*7+5,none⟩ (.string (str (y.text++u)));have J:=(ZD l).1 h.rd;have F:=(Zx l).1 h.away;have C:∀x∈l.set q (y.more u),RdN w x/\awayN (some g) x:=λx A=>by
  rcases List.mem_or_eq_of_mem_set A with A|rfl
  ·exact ⟨J x A,F x A⟩
  ·have H:y∈l:=(by rw[<-O];exact Zq2 I);exact ⟨ZoR u (J y H),Zen u (F y H)⟩
 refine ⟨?_,(ZD _).2 λx A=>RdN.grown Q x (C x A).1 (C x A).2,(Zx _).2 λx A=>(C x A).2⟩;have D:=ZoZ h.row (j:=q*7+5) om (.string (str (y.text++u)));rw[ZkW I (y.more u) _ (by rw[O];exact Zja y u)] at D;rw[ZsA];exact D
theorem ZiM {ks:List Nc} {x:Nc} {c:Nat} (h:lastTxt (Nc.nds ks) c) (C:∃A,ks=A++ [x]) (D:x.kind=1):x.text.length<=c:=by
 obtain ⟨A,rfl⟩:=C;obtain ⟨k,s,n,al,l,kk,kids,t,a⟩:=x;refine h k s n l (Nc.nds kids) t a ?_ D;rw[X6,Zsa,Nc.nds,Nc.nds,Nc.nd];rfl
theorem KT {ks:List Nd} {c:Nat} {t:List UInt8} {a:Nat} (D:lastTxt ks c):lastTxt (addText ks t a) (c+t.length):=by
 unfold addText;split
 ·rename_i s nm al kk u b F;have J:=D 1 s nm al kk u b F rfl;intro k' I H al' A u' C h _;rw[Zsa] at h;simp only[Zsh,Option.or] at h;injection h with h;injection h with _ _ _ _ _ e _;rw[<-e,ZqG];omega
 ·intro k' I H al' A u' C h _;rw[Zsa] at h;simp only[Zsh,Option.or] at h;injection h with h;unfold charD at h;injection h with _ _ _ _ _ e _;rw[<-e];omega
theorem Zfg {ks:List Nd} {k:Nd} (h:k.kind=0) (c:Nat):lastTxt (ks++ [k]) c:=by
 intro k' I H al' C u' D A e;rw[Zsa] at A;simp only[Zsh,Option.or] at A;injection A with A;rw[A] at h;have F:k'=0:=h;omega
def ElRet (G:Nat) (lv:Value) (lt:List Tc) (i:Nat) (w w':Wq) (v:Value):Except PErr (Nd×List Tok)->Prop
 | .ok (m,r)=>∃(mc:Nc) (j:Nat),v= .agg (cellsN mc).toArray/\mc.nd=m/\RdN w' mc/\(i<j/\j<=lt.length)/\r=(lt.map Tc.t).drop j/\BxP w' G lv j 0 0/\∀b,b<w.heap.size->TA lt b->awayN (some b) mc
 | .error (y,c)=>∃(mc:Nc) (j:Nat),v= .agg (cellsN mc).toArray/\slN mc/\BxP w' G lv j y c
theorem ElRet.ok {G i:Nat} {lv:Value} {lt:List Tc} {w w':Wq} {v:Value} {m:Nd} {r:List Tok} (h:ElRet G lv lt i w w' v (.ok (m,r))):∃(mc:Nc) (j:Nat),v= .agg (cellsN mc).toArray/\mc.nd=m/\RdN w' mc/\(i<j/\j<=lt.length)/\r=(lt.map Tc.t).drop j/\BxP w' G lv j 0 0/\∀b,b<w.heap.size->TA lt b->awayN (some b) mc:=h
theorem ElRet.err {G i:Nat} {lv:Value} {lt:List Tc} {w w':Wq} {v:Value} {y c:Nat} (h:ElRet G lv lt i w w' v (.error (y,c))):∃(mc:Nc) (j:Nat),v= .agg (cellsN mc).toArray/\slN mc/\BxP w' G lv j y c:=h
theorem Qd {lt:List Tc} {i:Nat} (h:i<lt.length):(lt.map Tc.t).drop i=lt[i].t::(lt.map Tc.t).drop (i+1):=by
 rw[ZqR (by rw[Zq9];exact h),ZsF]
theorem Uf {b:Bool} {p:Prop} (h:b=false) (A:b=true):p:=by rw[A] at h;cases h
theorem XO {w:Wq}:∀{l:List Nc},RdNs w l->∀u∈flatN l,u.oneCell'=true:=by
 intro l h u A;obtain ⟨c,C,A⟩:=Zs0.1 A;obtain ⟨x,D,rfl⟩:=Zrr.1 C;exact ZH (RdN.sl ((ZD l).1 h x D)) u A
theorem ZgI {W A:Wq} {B F:Nat} {v u:Value} {out:List Nc} {mc:Nc} (R:B<=W.heap.size) (V:Ext W A) (D:A.ownsRow W.heap.size 25 7 v (out.length+1) (([]++flatN out)++cellsN mc)) (O:RdNs W out) (U:RdN W mc)
 (I:awayNs (some F) (out++ [mc])) (J:F<W.heap.size) (i:Nat):HNs (A.setCell ⟨F,i,none⟩ u) B v (out++ [mc]):=by
 have C:RdNs W (out++ [mc]):=(ZD _).2 λy H=>by
  rcases Zq0.1 H with H|H
  ·exact (ZD _).1 O y H
  ·rw[ZqU.1 H];exact U
 refine ⟨?_,RdNs.grown (ZY A ⟨F,i,none⟩ u) _ (RdNs.ext V _ C) I,EZ (λg S=>Yw D g S) _ C⟩;have h:=Ye (Xy D (ZqE _)) (g:=F) J i u;rw[Xm,Yq,ZqG];have Q:=Xy h R;simpa using Q
theorem ZkV {fin d:Nat} {l r:List Tok} {x:Nd} (h:elemAt fin d l= .ok (x,r)):x.kind=0:=by
 have A:∀f:Nat,(∀(d:Nat) (l:List Tok) (x:Nd) (r:List Tok),elemP fin f d l= .ok (x,r)->x.kind=0)/\(∀(d:Nat) (t:Tok) (ks:List Nd) (l:List Tok) (x:Nd) (r:List Tok),kidsP fin f d t ks l= .ok (x,r)->x.kind=0):=by
  intro f
  induction f with
  |zero=>exact ⟨λd l x r h=>(by rw[elemP] at h;cases h),λd t ks l x r h=>(by rw[kidsP] at h;cases h)⟩
  |succ f ih=>
   refine ⟨λd l x r h=> ?_,λd t ks l x r h=> ?_⟩
   ·cases l with
    |nil=>rw[elemP] at h;cases h
    |cons t l=>
     rw[elemP] at h;split at h
     ·cases h
     ·split at h
      ·injection h with h;injection h with h1 h2;subst h1;rfl
      ·exact ih.2 _ _ _ _ _ _ h
   ·cases l with
    |nil=>rw[kidsP] at h;cases h
    |cons u l=>
     rw[kidsP] at h;split at h
     ·split at h
      ·cases h
      ·injection h with h;injection h with h1 h2;subst h1;rfl
     ·split at h
      ·split at h
       ·cases h
       ·exact ih.2 _ _ _ _ _ _ h
      ·exact ih.2 _ _ _ _ _ _ h
 exact (A _).1 _ _ _ _ h
theorem HNs.but {w w':Wq} {B G:Nat} {v:Value} {l:List Nc} (h:HNs w B v l) (A:w.grownBy w' (some G)) (D:G<B) (C:awayNs (some G) l):HNs w' B v l:=
 ⟨h.row.kept A (Or.inr λe=>by have:=(h.row.lt G e).1;omega),RdNs.grown A l h.rd C,h.away⟩
theorem Zfv (N:Nat) (hN:N<=80000000000) (G:Nat) (lv:Value) (lt:List Tc) (fin:Nat) (d3:lt.length<=N) (ds:txts (lt.map Tc.t)<=2*N) (fB:∀x∈lt,x.t.kind=1\/x.t.kind=2\/x.t.kind=3):
 ∀(n i depth:Nat) (w:World),lt.length - i<n->i<lt.length->depth<=80000000000->PCtx w G lv lt->BxP w G lv i 0 0->
 Calls prog 59 #[.pointer (some ⟨G,0,none⟩),.int .i64 (depth:Nat),.int .i64 (fin:Nat)] w λe w'=>∃v,e= .returned v/\ElRet G lv lt i w w' v (elemAt fin depth ((lt.map Tc.t).drop i))/\w.grownBy w' (some G):=by
 intro n
 induction n with
 |zero=>exact λ_ _ _ h=>absurd h (Nat.not_lt_zero _)
 |succ n IHn=>
  intro i depth w hn hi bf fb g9;obtain ⟨i0,hJ,hL,hM,hO⟩:=ZrE Xn;have dx:=gd IHn;have hR:=gd fb;have dz:=gd fB;have fU:=gd ds;obtain ⟨RA,gp⟩:∃RA:Except PErr (Nd×List Tok),elemAt fin depth ((lt.map Tc.t).drop i)=RA:=⟨_,rfl⟩;rw[gp];rw[Qd hi,E7] at gp;have dH:=g9.lt;obtain ⟨gz,gI⟩:∃g,w.heap.size=g:=⟨_,rfl⟩;obtain ⟨W0,g4⟩:∃W0,w.alloc (.cells #[.int .i64 0,.string ⟨#[]⟩,.string ⟨#[]⟩,.slice none 0 0,.slice none 0 0,.string ⟨#[]⟩,.int .i64 0] 25)=W0:=⟨_,rfl⟩;have gP:Ext w W0:=by rw[<-g4];exact (Ext.refl w).alloc _
  have hz:BxN W0 gz 0 [] [] (.slice none 0 0) (.slice none 0 0) [] 0:=by rw[<-g4,<-gI];exact ZqJ w _
  have dm:W0.heap.size=gz+1:=by rw[<-g4,Zd,gI]
  have fS:=gd dm;have bc:G<gz:=by rw[<-gI];exact dH
  have gO:w.heap.size<=gz:=Nat.le_of_eq gI;obtain ⟨b0,b1,b2,b3⟩:=(g9.ext gP).cells;have dd:=g9.ext gP;obtain ⟨ad,lc,fE,gE⟩:=RTs.at (fb.ext gP).row hi;have fL:=Zq2 hi;have gS:=RdT.form (fb.rd _ fL);have gx:=fB _ fL;have gc:=gd fL;obtain ⟨x,gT⟩:∃x,lt[i]=x:=⟨_,rfl⟩;rw[gT] at gE gS gx gc gp;have dk:=fb.rd x gc.out;have fR:=gd dk;obtain ⟨bF,⟨tk,tn,ta,h5,tt,Q⟩⟩:=x;obtain ⟨U,tc,fl⟩:=gS;dsimp only at fl gx;subst fl;subst fE;obtain ⟨a0,a1,a2,a3,a4,a5⟩:=gE;dsimp only at a0 a1 a2 a3 a4 a5 gp;have fp:=gd gp;clear gp;have q0:∀d:Aft W0,d.w.cell? ⟨G,0,none⟩=some (.slice (some ad) lt.length lc):=Aft.cell b0;have q1:∀d:Aft W0,d.w.cell? ⟨G,1,none⟩=some (.int .i64 (i:Nat)):=Aft.cell b1;have r0:∀d:Aft W0,d.w.cell? (ad.add (i*6))=some (.int .i64 (tk:Nat)):=Aft.cell a0;have r1:∀d:Aft W0,d.w.cell? ⟨(ad.add (i*6)).block,(ad.add (i*6)).off+1,none⟩=some (.string (str tn)):=Aft.cell a1;have r2:∀d:Aft W0,d.w.cell? ⟨(ad.add (i*6)).block,(ad.add (i*6)).off+2,none⟩=some (.slice U ta.length tc):=Aft.cell a2;have r3:∀d:Aft W0,d.w.cell? ⟨(ad.add (i*6)).block,(ad.add (i*6)).off+3,none⟩=some (.bool h5):=Aft.cell a3;have r4:∀d:Aft W0,d.w.cell? ⟨(ad.add (i*6)).block,(ad.add (i*6)).off+4,none⟩=some (.string (str tt)):=Aft.cell a4;have r5:∀d:Aft W0,d.w.cell? ⟨(ad.add (i*6)).block,(ad.add (i*6)).off+5,none⟩=some (.int .i64 (Q:Nat)):=Aft.cell a5;have d0:(0:Int)<=(i:Int):=om
  have bg:(i:Int)<(lt.length:Int):=om
  clear gT g9 fB ds;go_enter func59,ntmps59;go_wp2;refine Jd 10 (.cells #[.int .i64 0,.string ⟨#[]⟩,.slice none 0 0,.bool false,.string ⟨#[]⟩,.int .i64 0] 110) _ (by kernel_rfl) rfl (by kernel_rfl) (λa w K h=>by go_simp;exact h) ?_
  repeat (refine Xr (λK hK=> ?_);go_simp;(refine hK _ ?_;clear hK K))
  refine X0 ?_;intro bt d dI hH;have dW:gz<bt:=by have:=fS.out;omega
  clear q0 q1 r0 r1 r2 r3 r4 r5 a0 a1 a2 a3 a4 a5 b0 b1 b2 b3 g4;refine ZqF rfl 110 (.tmp 7) (.tmp 21) rfl bt (cellsT ⟨.slice U ta.length tc,⟨tk,tn,ta,h5,tt,Q⟩⟩).toArray rfl rfl _ _ hH Zm rfl (Yb ⟨.slice U ta.length tc,⟨tk,tn,ta,h5,tt,Q⟩⟩ rfl) ?_;have gQ:Ext W0 (d.w.setRow bt (cellsT ⟨.slice U ta.length tc,⟨tk,tn,ta,h5,tt,Q⟩⟩).toArray):=d.ext.setRow dI _;have g2:BxT (d.w.setRow bt (cellsT ⟨.slice U ta.length tc,⟨tk,tn,ta,h5,tt,Q⟩⟩).toArray) bt ⟨.slice U ta.length tc,⟨tk,tn,ta,h5,tt,Q⟩⟩:=ZqV _ _ _ _ _ _ hH;have f4:bt<d.w.heap.size:=(Zrg.1 hH).1;obtain ⟨W1,fv⟩:∃W1,d.w.setRow bt (cellsT ⟨.slice U ta.length tc,⟨tk,tn,ta,h5,tt,Q⟩⟩).toArray=W1:=⟨_,rfl⟩;have f0:bt<W1.heap.size:=by rw[<-fv];simpa [World.setRow] using f4
  rw[fv] at gQ g2|-;clear fv hH f4;have fn:=gP.trans gQ;have gM:=dd.ext gQ;have gU:=hz.ext gQ;obtain ⟨b0,b1,b2,b3⟩:=gM.cells;obtain ⟨f1,f2,f3⟩:=gM.frozen;obtain ⟨t0,t1,t2,t3,t4,t5, -⟩:=g2.cells;dsimp only at t0 t1 t2 t3 t4 t5;have gG:w.grownBy W1 (some G):=fn.grown _;by_cases hd:100<depth
  ·have h4:=fp.out;rw[ZqN hd] at h4;subst h4;have dK:(100:Int)<(depth:Int):=om;have HF:=gd (λw'=>Qt G (.slice (some ad) lt.length lc) i 0 0 Q 9 w');clear hd
   go_wp2_with (first|(go_at_call 104;refine ZqD (HF.out _ gM) ?_;rintro e w4 ⟨rfl,fH,f6⟩;(have ff:=gU.grown f6 (by intro e;injection e with e;omega)))|(refine ZqF rfl 25 (.tmp 6) (.tmp 27) rfl gz _ rfl rfl _ _ ff Ze rfl Zz ?_))
   ((try simp only[Exit.inBlock,Exit.then]);refine ZqT (ZrO rfl _ _ _ _ _ _ _ rfl (ZqV _ _ _ _ _ _ ff) underlying25 rfl Ze) rfl ?_);exact ⟨_,rfl,⟨.mk 0 [] [] (.slice none 0 0) [] (.slice none 0 0) [] [] 0,i,rfl,⟨⟨_,_,_,rfl⟩,⟨_,_,_,rfl⟩⟩,(Zrn _ gz G _ om).trans fH⟩,XP (gG.trans f6) om _⟩
  ·have h4:=fp.out;rw[ZqH hd] at h4;have dK:¬(100:Int)<(depth:Int):=om;have fa:=gM.next (i+1);rw[show ((i+1:Nat):Int)=(i:Int)+1 by omega] at fa;have g3:BxT (W1.setCell ⟨G,1,none⟩ (.int .i64 ((i:Int)+1))) bt ⟨.slice U ta.length tc,⟨tk,tn,ta,h5,tt,Q⟩⟩:=g2.other om;have gV:BxN (W1.setCell ⟨G,1,none⟩ (.int .i64 ((i:Int)+1))) gz 0 [] [] (.slice none 0 0) (.slice none 0 0) [] 0:=gU.other om;have gH:=U7 gG 1 (.int .i64 ((i:Int)+1));have fw:bt<(W1.setCell ⟨G,1,none⟩ (.int .i64 ((i:Int)+1))).heap.size:=(by simpa [World.setCell] using f0);obtain ⟨W2,fX⟩:∃W2,W1.setCell ⟨G,1,none⟩ (.int .i64 ((i:Int)+1))=W2:=⟨_,rfl⟩;rw[fX] at fa g3 gV gH fw;obtain ⟨u0,u1,u2,u3,u4,u5, -⟩:=g3.cells;dsimp only at u0 u1 u2 u3 u4 u5;obtain ⟨bn,g8⟩:∃g,W2.heap.size=g:=⟨_,rfl⟩;have bl:(i:Int)+1<=80000000000:=om;obtain ⟨W3,g5⟩:∃W3,W2.alloc (.cells #[.int .i64 0,.string ⟨#[]⟩,.string (str tn),.slice U ta.length tc,.slice none 0 0,.string ⟨#[]⟩,.int .i64 (Q:Nat)] 25)=W3:=⟨_,rfl⟩;have gR:Ext W2 W3:=(by rw[<-g5];exact (Ext.refl _).alloc _);have fq:BxN W3 bn 0 [] tn (.slice U ta.length tc) (.slice none 0 0) [] Q:=(by rw[<-g5,<-g8];exact ZqJ W2 _);have dn:W3.heap.size=bn+1:=(by rw[<-g5,Zd,g8]);have fu:=g3.ext gR;have fe:=gV.ext gR;have fG:=fa.ext gR;have gn:=YV gH gR;have dV:bt<bn:=(by rw[<-g8];exact fw);have bA:gz<bn:=(by have:=fS.out;omega);obtain ⟨v0,v1,v2,v3,v4,v5, -⟩:=fu.cells;dsimp only at v0 v1 v2 v3 v4 v5;have fT:=gd dn;have fz:=fR.out;clear hd dn dm;cases h5 with
   |true=>
    obtain ⟨n0,n1,n2,n3,n4,n5,n6⟩:=fq.cells;rw[ZqN rfl] at h4;subst h4
    go_wp2_with (first|(refine ZqF rfl 25 (.tmp 6) (.tmp 44) rfl gz _ rfl rfl _ _ fe Ze rfl Zz ?_))
    ((try simp only[Exit.inBlock,Exit.then]);refine ZqT (ZrO rfl _ _ _ _ _ _ _ rfl (ZqV _ _ _ _ _ _ fe) underlying25 rfl Ze) rfl ?_);have gF:awayN (some gz) (.mk 0 [] tn (.slice U ta.length tc) ta (.slice none 0 0) [] [] Q):=(by rw[awayN];exact ⟨hR.out.new om _ gc.out,Or.inl rfl,by rw[awayNs];trivial⟩);have dh:RdN W3 (.mk 0 [] tn (.slice U ta.length tc) ta (.slice none 0 0) [] [] Q):=(by rw[RdN];exact ⟨RAts.away fz gn (hR.out.ta _ gc.out),RSl.nil _ 7,by rw[RdNs];trivial⟩);refine ⟨_,rfl,⟨.mk 0 [] tn (.slice U ta.length tc) ta (.slice none 0 0) [] [] Q,i+1,rfl,by rw[Nc.nd,Nc.nds],RdN.grown (ZG _ gz _) _ dh gF,⟨om,om⟩,rfl,(Zrn _ gz G _ om).trans (by rw[show (((i+1:Nat):Int))=(i:Int)+1 by omega];exact fG),λb hb hY=> ?_⟩,XP gn om _⟩;rw[awayN];exact ⟨hY _ gc.out,Or.inl rfl,by rw[awayNs];trivial⟩
   |false=>
    rw[ZqH (by simp)] at h4;have dq:=Gh (lt.map Tc.t) (i+1);have fo:Hid (kidsAt fin depth ⟨tk,tn,ta,false,tt,Q⟩ (Nc.nds []) ((lt.map Tc.t).drop (i+1))=kidsAt fin depth ⟨tk,tn,ta,false,tt,Q⟩ [] ((lt.map Tc.t).drop (i+1))):=rfl;rw[h4] at fo;have fP:Hid (∃c,lastTxt (Nc.nds []) c/\c+txts ((lt.map Tc.t).drop (i+1))<=2*N):=⟨0,(by intro _ _ _ _ _ _ _ e;cases e),by have:=fU.out;omega⟩;have fj:BxP W3 G (.slice (some ad) lt.length lc) (i+1) 0 0:=(by unfold BxP;rw[show (((i+1:Nat):Int))=(i:Int)+1 by omega];exact fG);clear h4 dq fp;go_wp2;clear fX g5 g8 gI b0 b1 b2 b3 f1 f2 f3 t0 t1 t2 t3 t4 t5 u0 u1 u2 u3 u4 u5 v0 v1 v2 v3 v4 v5 gM fa fG g2 g3 gU gV gG gH gQ fn f0 fw dd hz gP gR;go_loopw [11] (λv wr=>∃(j:Nat) (out:List Nc) (kv:Value),i+1<=j/\j<=lt.length/\v=v/\BxP wr G (.slice (some ad) lt.length lc) j 0 0/\BxT wr bt ⟨.slice U ta.length tc,⟨tk,tn,ta,false,tt,Q⟩⟩/\BxN wr bn 0 [] tn (.slice U ta.length tc) kv [] Q/\HNs wr (bn+1) kv out/\BxN wr gz 0 [] [] (.slice none 0 0) (.slice none 0 0) [] 0/\w.grownBy wr (some G)/\bn+1<=wr.heap.size/\Hid (kidsAt fin depth ⟨tk,tn,ta,false,tt,Q⟩ (Nc.nds out) ((lt.map Tc.t).drop j)=RA)/\Hid (∃c,lastTxt (Nc.nds out) c/\c+txts ((lt.map Tc.t).drop j)<=2*N)/\Hid (out.length<=j)/\Hid (∀r,r<bn+1->TA lt r->awayNs (some r) out)) (λ_ wr=>lt.length - (intOf ((wr.cell? ⟨G,1,none⟩).getD undef)).toNat)
    case atStart=>exact ⟨i+1,[],.slice none 0 0,ZqE _,om,rfl,fj,fu,fq,HNs.nil _ _,fe,gn,Nat.le_of_eq fT.out.symm,fo,fP,ZqO _,(by intro r _ _;rw[awayNs];trivial)⟩
    case round=>
     clear fj fu fq fe gn fo fP fT;obtain ⟨j,out,kv,bj,hj, -,hp,hT,ge,h0,hz,hI,dr,hr,fJ,gL,gt⟩:=hrel;obtain ⟨b0,b1,b2,b3⟩:=hp.cells;obtain ⟨KA,kc,rfl⟩:=Zp h0.row;have q0:∀d:Aft wr,d.w.cell? ⟨G,0,none⟩=some (.slice (some ad) lt.length lc):=Aft.cell b0;have q1:∀d:Aft wr,d.w.cell? ⟨G,1,none⟩=some (.int .i64 (j:Nat)):=Aft.cell b1;have gA:Hid ((intOf ((wr.cell? ⟨G,1,none⟩).getD undef)).toNat=j):=(by have:(intOf ((wr.cell? ⟨G,1,none⟩).getD undef)).toNat=j:=(by rw[b1];simp[intOf]);exact this);have J:=hr.out;by_cases gu:j<lt.length
     focus
      obtain ⟨d9,bC,fE,gE⟩:=RTs.at (hR.out.grown hI).row gu
      injection fE with e1 e2 e3
      injection e1 with e1
      subst e1
      clear e2 e3
      have bh:(0:Int)<=(j:Int):=om
      have bi:(j:Int)<(lt.length:Int):=om
      have fc:=Zq2 gu
      have gS:=RdT.form (hR.out.rd _ fc)
      have gx:=dz.out _ fc
      have dG:=gd fc
      rw[Qd gu] at J
      have fx:=Qd gu
      obtain ⟨x,gT⟩:∃x,lt[j]=x:=⟨_,rfl⟩
      rw[gT] at gE gS gx dG J fx
      obtain ⟨bG,⟨uk,un,ua,hZ,R,C⟩⟩:=x
      obtain ⟨hU,uc,fm⟩:=gS
      dsimp only at fm gx
      subst fm
      have gY:=gd fx
      have ga:=gd J
      clear gT fc J fx hr
      go_wp2
      refine rA ?_
      repeat (first|go_big_quiet_step (skip)|quiet_step (skip))
      refine Zru ?_
      rintro _ ⟨d1,rfl⟩
      obtain ⟨W4,hw,gC⟩:∃W4,Ext wr W4/\d1.w=W4:=⟨_,d1.ext,rfl⟩
      rw[gC]
      clear gC d1 q0 q1
      obtain ⟨a0,a1,a2,a3,a4,a5⟩:=gE
      dsimp only at a0 a1 a2 a3 a4 a5
      have q0:∀d:Aft W4,d.w.cell? ⟨G,0,none⟩=some (.slice (some ad) lt.length lc):=Aft.cell (hw.cell b0)
      have q1:∀d:Aft W4,d.w.cell? ⟨G,1,none⟩=some (.int .i64 (j:Nat)):=Aft.cell (hw.cell b1)
      have r0:∀d:Aft W4,d.w.cell? (ad.add (j*6))=some (.int .i64 (uk:Nat)):=Aft.cell (hw.cell a0)
      have r1:∀d:Aft W4,d.w.cell? ⟨(ad.add (j*6)).block,(ad.add (j*6)).off+1,none⟩=some (.string (str un)):=Aft.cell (hw.cell a1)
      have r2:∀d:Aft W4,d.w.cell? ⟨(ad.add (j*6)).block,(ad.add (j*6)).off+2,none⟩=some (.slice hU ua.length uc):=Aft.cell (hw.cell a2)
      have r3:∀d:Aft W4,d.w.cell? ⟨(ad.add (j*6)).block,(ad.add (j*6)).off+3,none⟩=some (.bool hZ):=Aft.cell (hw.cell a3)
      have r4:∀d:Aft W4,d.w.cell? ⟨(ad.add (j*6)).block,(ad.add (j*6)).off+4,none⟩=some (.string (str R)):=Aft.cell (hw.cell a4)
      have r5:∀d:Aft W4,d.w.cell? ⟨(ad.add (j*6)).block,(ad.add (j*6)).off+5,none⟩=some (.int .i64 (C:Nat)):=Aft.cell (hw.cell a5)
      clear a0 a1 a2 a3 a4 a5 b0 b1 b2 b3
      go_wp2
      refine Jd 10 (.cells #[.int .i64 0,.string ⟨#[]⟩,.slice none 0 0,.bool false,.string ⟨#[]⟩,.int .i64 0] 110) _ (by kernel_rfl) rfl (by kernel_rfl) (λa w K h=>by go_simp;exact h) ?_
      repeat (refine Xr (λK hK=> ?_);go_simp;(refine hK _ ?_;clear hK K))
      refine X0 ?_
      intro bu d f5 hH
      clear q0 q1 r0 r1 r2 r3 r4 r5
      refine ZqF rfl 110 (.tmp 9) (.tmp 64) rfl bu (cellsT ⟨.slice hU ua.length uc,⟨uk,un,ua,hZ,R,C⟩⟩).toArray rfl rfl _ _ hH Zm rfl (Yb ⟨.slice hU ua.length uc,⟨uk,un,ua,hZ,R,C⟩⟩ rfl) ?_
      have fK:Ext W4 (d.w.setRow bu (cellsT ⟨.slice hU ua.length uc,⟨uk,un,ua,hZ,R,C⟩⟩).toArray):=d.ext.setRow f5 _
      have gr:BxT (d.w.setRow bu (cellsT ⟨.slice hU ua.length uc,⟨uk,un,ua,hZ,R,C⟩⟩).toArray) bu ⟨.slice hU ua.length uc,⟨uk,un,ua,hZ,R,C⟩⟩:=ZqV _ _ _ _ _ _ hH
      obtain ⟨W5,fY⟩:∃W5,d.w.setRow bu (cellsT ⟨.slice hU ua.length uc,⟨uk,un,ua,hZ,R,C⟩⟩).toArray=W5:=⟨_,rfl⟩
      rw[fY] at fK gr|-
      have dZ:bn+1<=bu:=(by have:=hw.size;omega)
      clear fY hH d f5
      have gj:=hw.trans fK
      replace hp:=hp.ext gj
      replace hT:=hT.ext gj
      replace ge:=ge.ext gj
      replace h0:=h0.ext gj
      replace hz:=hz.ext gj
      replace hI:=YV hI gj
      have d5:bn+1<=W5.heap.size:=ZqM dr gj.size
      have dY:bu<W5.heap.size:=(Zrg.1 gr).1
      obtain ⟨b0,b1,b2,b3⟩:=hp.cells
      obtain ⟨f1,f2,f3⟩:=hp.frozen
      obtain ⟨t0,t1,t2,t3,t4,t5, -⟩:=hT.cells
      dsimp only at t0 t1 t2 t3 t4 t5
      obtain ⟨u0,u1,u2,u3,u4,u5, -⟩:=gr.cells
      dsimp only at u0 u1 u2 u3 u4 u5
      obtain ⟨n0,n1,n2,n3,n4,n5,n6⟩:=ge.cells
      have fi:=Yw h0.row
      have gg:=gt.out G om hR.out.ta
      have bm:(j:Int)+1<=80000000000:=om
      have fz:=fR.out
      clear hw fK gj dr
      rcases gx with hk|hk|hk
     ·subst hk;have J:=ga.out;rw[ZcC _ _ _ _ _ _ rfl,<-gY.out] at J;have gk:=dx.out j (depth+1) W5 om gu om (hR.out.grown hI) hp;rw[show ((depth+1:Nat):Int)=(depth:Int)+1 by omega] at gk;have be:(depth:Int)+1<=80000000000:=om;cases he:elemAt fin (depth+1) ((lt.map Tc.t).drop j)
      ·rename_i yc;obtain ⟨y,c⟩:=yc;have dJ:=Kp he;have bd:((c:Int) !=0)=true:=(by rw[ZrQ];omega);rw[he] at J gk;dsimp only at J;subst J;have HI:=gd gk;clear he dJ gk ga
       go_wp2_with (first|(go_at_call 59;refine ZqD HI.out ?_;rintro e6 w6 ⟨v6,rfl,fy,ht⟩;obtain ⟨m,j6,rfl,dQ,hh⟩:=fy.err;obtain ⟨mk,ms,mn,bD,ml,bE,fN,mt,ma⟩:=m;obtain ⟨⟨MA,dv,mc,gK⟩,⟨MB,dw,md,da⟩⟩:=dQ;(simp only[Nc.al,Nc.ks] at gK da);subst gK;subst da;simp only[cellsN];have hE:=(Ext.refl w6).alloc (.cells #[.int .i64 (mk:Nat),.string (str ms),.string (str mn),.slice MA dv mc,.slice MB dw md,.string (str mt),.int .i64 (ma:Nat)] 25);have hD:=hh.ext hE;(have gW:=(hz.grown ht (by intro e;injection e with e;omega)).ext hE);obtain ⟨y0,y1,y2,y3⟩:=hD.cells)|(refine ZqF rfl 25 (.tmp 6) (.tmp 98) rfl gz _ rfl rfl _ _ gW Ze rfl Zz ?_))
       ((try simp only[Exit.inBlock,Exit.then]);refine ZqT (ZrO rfl _ _ _ _ _ _ _ rfl (ZqV _ _ _ _ _ _ gW) underlying25 rfl Ze) rfl ?_);exact ⟨_,rfl,⟨.mk mk ms mn (.slice MA dv mc) ml (.slice MB dw md) fN mt ma,j6,rfl,⟨⟨_,_,_,rfl⟩,⟨_,_,_,rfl⟩⟩,(Zrn _ gz G _ om).trans hD⟩,XP (YV (hI.trans ht) hE) om _⟩
      rename_i mr
      focus
       obtain ⟨m9,r9⟩:=mr
       rw[he] at J gk
       dsimp only at J
       have HI:=gd gk
       have HN:=gd J
       have dy:=gd (by
        have h1:=(ZkV he)
        exact h1:m9.kind=0)
       clear he gk ga J
       go_wp2_with (first|(go_at_call 59;refine ZqD HI.out ?_;rintro e6 w6 ⟨v6,rfl,fy,ht⟩;obtain ⟨mc,j6,rfl,db,fF,f7,dl,hh,gK⟩:=fy.ok;have dc:=RdN.sl fF;obtain ⟨yk,ys,yn,bH,yl,bI,H,yt,ya⟩:=mc;obtain ⟨⟨YA,X,yc,dt⟩,⟨YB,Y,yd,du⟩⟩:=dc;(simp only[Nc.al,Nc.ks] at dt du);subst dt;subst du;simp only[cellsN];have hE:=(Ext.refl w6).alloc (.cells #[.int .i64 (yk:Nat),.string (str ys),.string (str yn),.slice YA X yc,.slice YB Y yd,.string (str yt),.int .i64 (ya:Nat)] 25);have hD:=hh.ext hE;obtain ⟨y0,y1,y2,y3⟩:=hD.cells))
       have gN:=ht.size
       obtain ⟨bk,g7⟩:∃g,w6.heap.size=g:=⟨_,rfl⟩
       obtain ⟨W7,gD⟩:∃W7,w6.alloc (.cells #[.int .i64 (yk:Nat),.string (str ys),.string (str yn),.slice YA X yc,.slice YB Y yd,.string (str yt),.int .i64 (ya:Nat)] 25)=W7:=⟨_,rfl⟩
       have fV:BxN W7 bk yk ys yn (.slice YA X yc) (.slice YB Y yd) yt ya:=(by rw[<-gD,<-g7];exact ZqJ w6 _)
       have fI:W7.heap.size=bk+1:=(by rw[<-gD,Zd,g7])
       rw[gD] at hE hD
       (try rw[gD])
       (try rw[g7])
       have ft:=(ge.grown ht (by intro e;injection e with e;omega)).ext hE
       have fW:=(hT.grown ht (by intro e;injection e with e;omega)).ext hE
       have gW:=(hz.grown ht (by intro e;injection e with e;omega)).ext hE
       have gi:=(h0.but ht om gg).ext hE
       have fh:=YV (hI.trans ht) hE
       have bz:bn+1<=bk:=om
       have hB:=gd (fV.ext (Ext.refl W7))
       have gB:=gd ft
       have g0:=gd fW
       have g1:=gd gW
       have ho:=gd gi
       have gZ:=gd fh
       have go:=gd hD
       have dD:=gd (RdN.ext hE _ fF)
       have dC:=gd gK
       have fQ:=gd db
       have dE:=gd dl
       have HJ:=gd f7
       have d4:out.length<=80000000000:=(by have:=gL.out;omega)
       have gb:=gd (show 0+out.length<=maxLen by unfold maxLen;omega)
       have h7:=gd (show (0+out.length)*112<=140737488355328 by omega)
       have hG:=gd (show 0+out.length+1<=maxLen by unfold maxLen;omega)
       have hF:=gd (show (0+out.length+1)*112<=140737488355328 by omega)
       have hu:=(Ext.refl W7).drew
       have K4:=gd (hu.cell ft.cells.2.2.2.2.1)
       have d2:i+1<=j6:=om
       have dF:=gd fI
       clear fI gD g7 y0 y1 y2 y3 n0 n1 n2 n3 n4 n5 n6 b0 b1 b2 b3 f1 f2 f3 t0 t1 t2 t3 t4 t5 u0 u1 u2 u3 u4 u5 fV ft fW gW gi fh hD gK db dl f7 fF hp hT ge h0 hz hI gr gg hh ht hE
       refine rN ?_
       change wpAny _ _ _ _ _ _ _ (World.drew _)
       refine tH 1 (.pointer (some ⟨bn,4,none⟩)) ?_
       refine KQ (λL w'=>(L.getD 3 true=false->w'.cell? ⟨bn,4,none⟩=some (.slice KA out.length kc))/\BxN w' bk yk ys yn (.slice YA X yc) (.slice YB Y yd) yt ya) ?_
       refine Xq (i:=2) (v:= .slice KA out.length kc) 3 (λw'=>w'.cell? ⟨bn,4,none⟩=some (.slice KA out.length kc)) rfl (by kernel_rfl) (λ_ _ _ h=>h) (λL w' h=>⟨λh3=>h.1 (by rw[Zr5 true (by decide)];exact h3),h.2⟩) (λL w' h3 h=>h.1 h3) (Or.inl ⟨by rfl,λw' hS=>by have hq:w'.cell? ⟨bn,4,none⟩=some (.slice KA out.length kc):=hS;go_simp⟩) ⟨λ_=>K4.out,hB.out.ext hu⟩ ?_
       refine Xq (i:=4) (v:= .agg #[.int .i64 (yk:Nat),.string (str ys),.string (str yn),.slice YA X yc,.slice YB Y yd,.string (str yt),.int .i64 (ya:Nat)]) 5 (λw'=>BxN w' bk yk ys yn (.slice YA X yc) (.slice YB Y yd) yt ya) rfl (by kernel_rfl) (λ_ _ _ h=>h) (λL w' h=>⟨λh3=>h.1 (by rw[Zr5 true (by decide)];exact h3),h.2⟩) (λL w' _ h=>h.2) (Or.inl ⟨by rfl,λw' hS=>by obtain ⟨s0,s1,s2,s3,s4,s5,s6⟩:=BxN.cells hS;go_simp⟩) ⟨λ_=>K4.out,hB.out.ext hu⟩ ?_
       go_simp
       have hQ:=gd (Y9 (w:=W7.drew) (base:=W7.heap.size) (e:=25) (size:=7) (n:=0) (cs:= []) (ZqE _) rfl (by decide))
       have hC:=gd (hu.alloc (.cells #[] 25))
       refine VM (i:=0) (j:=5) rfl rfl (by kernel_rfl) (λK hK=> ?_) (λK hK=> ?_)
      focus
       go_simp
       refine hK _ _ ⟨λ_=>hC.out.cell K4.out,hB.out.ext hC.out⟩ ?_
       clear hK K
       (try go_simp)
       refine VM (i:=3) (j:=5) rfl rfl (by kernel_rfl) (λK hK=> ?_) (λK hK=> ?_)
      focus
       refine Zk _ (by rfl) (.tmp 99) (.tmp 101) _ (by rfl) W7.heap.size 25 i0 _ 7 112 underlying23 hJ hL hM hO rfl (by decide) _ 0 [] (by rfl) hQ.out (.slice KA out.length kc) out.length (flatN out) (by rfl) (RNs.ext ho.out.reads hC.out) (XO ho.out.rd) gb.out h7.out (hC.out.size) ?_
       intro v9 w9 D hv gf
       have V:Ext W7 w9:=Ext.app hC.out hv (hQ.out) (ZqE _)
       refine hK _ _ ⟨λh=>Uf h (by kernel_rfl),hB.out.ext V⟩ ?_
       clear hK K
       refine mS 5 λK hK=> ?_
       go_simp
       have F:=V.alloc (.cells (cellsN (Nc.mk yk ys yn (.slice YA X yc) yl (.slice YB Y yd) H yt ya)).toArray 25)
       refine hK _ _ ⟨λh=>Uf h (by kernel_rfl),hB.out.ext F⟩ ?_
       clear hK K
       (try go_simp)
       refine mS 6 λK hK=> ?_
       refine Zk _ (by rfl) (.tmp 102) (.tmp 104) _ (by rfl) W7.heap.size 25 i0 _ 7 112 underlying23 hJ hL hM hO rfl (by decide) _ (0+out.length) ([]++flatN out) (by rfl) (D.alloc _) _ 1 (cellsN (Nc.mk yk ys yn (.slice YA X yc) yl (.slice YB Y yd) H yt ya)) (by rfl) (Zj (w:=w9) (size:=7) (n:=1) (e:=25) (cs:=cellsN (Nc.mk yk ys yn (.slice YA X yc) yl (.slice YB Y yd) H yt ya)) rfl (by decide)) (ZH ⟨⟨_,_,_,rfl⟩,⟨_,_,_,rfl⟩⟩) hG.out hF.out (F.size) ?_
       intro gX hm I hc hX
       have A:Ext W7 hm:=Ext.app F hc ((D.alloc _)) (ZqE _)
      rotate_left
      focus
       go_simp
       have F:=hC.out.alloc (.cells (cellsN (Nc.mk yk ys yn (.slice YA X yc) yl (.slice YB Y yd) H yt ya)).toArray 25)
       refine hK _ _ ⟨λ_=>F.cell K4.out,hB.out.ext F⟩ ?_
       clear hK K
       (try go_simp)
       refine mS 3 λK hK=> ?_
       have hP:=hQ.out.alloc (.cells (cellsN (Nc.mk yk ys yn (.slice YA X yc) yl (.slice YB Y yd) H yt ya)).toArray 25)
       refine Zk _ (by rfl) (.tmp 99) (.tmp 101) _ (by rfl) W7.heap.size 25 i0 _ 7 112 underlying23 hJ hL hM hO rfl (by decide) _ 0 [] (by rfl) hP (.slice KA out.length kc) out.length (flatN out) (by rfl) (RNs.ext ho.out.reads F) (XO ho.out.rd) gb.out h7.out (F.size) ?_
       intro v9 w9 D hv gf
       have V:Ext W7 w9:=Ext.app F hv (hP) (ZqE _)
       have gl:RSl w9 7 (.slice (some ⟨W7.heap.size+1,0,none⟩) 1 1) 1 (cellsN (Nc.mk yk ys yn (.slice YA X yc) yl (.slice YB Y yd) H yt ya)):=RSl.grown (Yr (e:=25) (fr:=(0,0)) (ZI W7.drew _ _) rfl (by decide)) hv (Or.inr (by intro e;injection e with e;exact absurd e (by show W7.heap.size+1≠W7.heap.size;omega)))
       refine hK _ _ ⟨λh=>Uf h (by kernel_rfl),hB.out.ext V⟩ ?_
       clear hK K
       (try go_simp)
       refine mS 6 λK hK=> ?_
       refine Zk _ (by rfl) (.tmp 102) (.tmp 104) _ (by rfl) W7.heap.size 25 i0 _ 7 112 underlying23 hJ hL hM hO rfl (by decide) _ (0+out.length) ([]++flatN out) (by rfl) D _ 1 (cellsN (Nc.mk yk ys yn (.slice YA X yc) yl (.slice YB Y yd) H yt ya)) (by rfl) gl (ZH ⟨⟨_,_,_,rfl⟩,⟨_,_,_,rfl⟩⟩) hG.out hF.out (V.size) ?_
       intro gX hm I hc hX
       have A:Ext W7 hm:=Ext.app V hc (D) (ZqE _)
      rotate_left
      focus
       go_simp
       have gm:=hu.alloc (.cells (cellsN (Nc.mk yk ys yn (.slice YA X yc) yl (.slice YB Y yd) H yt ya)).toArray 25)
       refine hK _ _ ⟨λ_=>gm.cell K4.out,hB.out.ext gm⟩ ?_
       clear hK K
       refine mS 0 λK hK=> ?_
       go_simp
       have F:=gm.alloc (.cells #[] 25)
       refine hK _ _ ⟨λ_=>F.cell K4.out,hB.out.ext F⟩ ?_
       clear hK K
       (try go_simp)
       refine mS 3 λK hK=> ?_
       have hP:((W7.drew.alloc (.cells (cellsN (Nc.mk yk ys yn (.slice YA X yc) yl (.slice YB Y yd) H yt ya)).toArray 25)).alloc (.cells #[] 25)).ownsRow W7.heap.size 25 7 (.slice (some ⟨W7.heap.size+1,0,none⟩) 0 0) 0 []:=by
        have h:=Y9 (w:=W7.drew.alloc (.cells (cellsN (Nc.mk yk ys yn (.slice YA X yc) yl (.slice YB Y yd) H yt ya)).toArray 25)) (base:=W7.heap.size) (e:=25) (size:=7) (n:=0) (cs:= []) (by rw[Zd];exact ZrF _) rfl (by decide)
        rw[Zd] at h
        exact h
       refine Zk _ (by rfl) (.tmp 99) (.tmp 101) _ (by rfl) W7.heap.size 25 i0 _ 7 112 underlying23 hJ hL hM hO rfl (by decide) _ 0 [] (by rfl) hP (.slice KA out.length kc) out.length (flatN out) (by rfl) (RNs.ext ho.out.reads F) (XO ho.out.rd) gb.out h7.out (F.size) ?_
       intro v9 w9 D hv gf
       have V:Ext W7 w9:=Ext.app F hv (hP) (ZqE _)
       have gl:RSl w9 7 (.slice (some ⟨W7.heap.size,0,none⟩) 1 1) 1 (cellsN (Nc.mk yk ys yn (.slice YA X yc) yl (.slice YB Y yd) H yt ya)):=RSl.grown ((Zj (w:=W7.drew) (size:=7) (n:=1) (e:=25) (cs:=cellsN (Nc.mk yk ys yn (.slice YA X yc) yl (.slice YB Y yd) H yt ya)) rfl (by decide)).ext ((Ext.refl _).alloc _)) hv (Or.inr (by intro e;injection e with e;exact absurd e (by show W7.heap.size≠W7.heap.size+1;omega)))
       refine hK _ _ ⟨λh=>Uf h (by kernel_rfl),hB.out.ext V⟩ ?_
       clear hK K
       (try go_simp)
       refine mS 6 λK hK=> ?_
       refine Zk _ (by rfl) (.tmp 102) (.tmp 104) _ (by rfl) W7.heap.size 25 i0 _ 7 112 underlying23 hJ hL hM hO rfl (by decide) _ (0+out.length) ([]++flatN out) (by rfl) D _ 1 (cellsN (Nc.mk yk ys yn (.slice YA X yc) yl (.slice YB Y yd) H yt ya)) (by rfl) gl (ZH ⟨⟨_,_,_,rfl⟩,⟨_,_,_,rfl⟩⟩) hG.out hF.out (V.size) ?_
       intro gX hm I hc hX
       have A:Ext W7 hm:=Ext.app V hc (D) (ZqE _)
      all_goals
       refine hK _ _ ⟨λh=>Uf h (by kernel_rfl),hB.out.ext A⟩ ?_
       clear hK K
       refine mS 7 λK hK=> ?_
       go_simp
       refine hK _ _ ⟨λh=>Uf h (by kernel_rfl),hB.out.ext A⟩ ?_
       clear hK K
       refine mS 8 λK hK=> ?_
       rw[ZrH] at I
       obtain ⟨A9,c9,rfl⟩:=Zp I
       have hV:=gB.out.ext A
       obtain ⟨p0,p1,p2,p3,p4,p5,p6⟩:=hV.cells
       obtain ⟨z1,z2,z3,z4⟩:=hV.frozen
       go_simp
       refine hK _ _ ⟨λh=>Uf h (by kernel_rfl),(hB.out.ext A).other om⟩ ?_
       clear hK K
       refine Zdi (by kernel_rfl) ?_
       clear p0 p1 p2 p3 p4 p5 p6 z1 z2 z3 z4
       go_wp2
       go_roundw
       case rel=>
        have fI:=dF.out
        have S:∀r,r<bn+1->TA lt r->awayNs (some r) (out++ [Nc.mk yk ys yn (.slice YA X yc) yl (.slice YB Y yd) H yt ya]):=λr hr hY=>by
         rw[Zx]
         intro y hy
         rcases Zq0.1 hy with hy|hy
         ·exact (Zx _).1 (gt.out r hr hY) y hy
         ·rw[ZqU.1 hy]
          exact dC.out r om hY
        refine ⟨j6,out++ [Nc.mk yk ys yn (.slice YA X yc) yl (.slice YB Y yd) H yt ya],.slice A9 (out.length+1) c9,om,HJ.out.2,(by trivial),(go.out.ext A).other om,(g0.out.ext A).other om,hV.kids _,ZgI om A I ho.out.rd dD.out (S bn om (hR.out.new om)) om _,(g1.out.ext A).other om,Kt (YV gZ.out A) om _ _,?_,?_,⟨0,?_,?_⟩,?_,S⟩
        ·have:=A.size
         show _<=(hm.setCell ⟨bn,4,none⟩ (.slice A9 (out.length+1) c9)).heap.size
         rw[show (hm.setCell ⟨bn,4,none⟩ (.slice A9 (out.length+1) c9)).heap.size=hm.heap.size by simp[World.setCell]]
         omega
        ·rw[X6,Vw,fQ.out,<-dE.out]
         exact HN.out
        ·rw[X6,Vw,fQ.out]
         exact Zfg dy.out 0
        ·have:=Gh (lt.map Tc.t) j6
         have:=fU.out
         omega
        ·rw[ZqG]
         have h1:=gL.out
         have h2:=HJ.out.1
         show _+1<=_
         omega
       case measure=>
        have h8:=gA.out
        have h9:=(((go.out.ext A).other (g':=bn) (j:=4) (v:= .slice A9 (out.length+1) c9) om).cells).2.1
        have ba:=HJ.out
        rw[h8,h9]
        simp[intOf]
        omega
     ·subst hk;have J:=ga.out;rw[ZcB _ _ _ _ _ _ rfl] at J;dsimp only at J;by_cases gw:un=tn
      ·rw[ZqH (λh=>h gw)] at J;subst J;have dN:((str un).toList==(str tn).toList)=true:=(by rw[Z8,gw];simp);have hh:=hp.next (j+1);have hW:BxN (W5.setCell ⟨G,1,none⟩ (.int .i64 ((j+1:Nat):Int))) bn 0 [] tn (.slice U ta.length tc) (.slice KA out.length kc) [] Q:=ge.other om;have hl:BxN (W5.setCell ⟨G,1,none⟩ (.int .i64 ((j+1:Nat):Int))) gz 0 [] [] (.slice none 0 0) (.slice none 0 0) [] 0:=hz.other om;have hf:=U7 hI 1 (.int .i64 ((j+1:Nat):Int));have ha:=h0.but (ZY W5 ⟨G,1,none⟩ (.int .i64 ((j+1:Nat):Int))) (show G<bn+1 by omega) gg;rw[show ((j+1:Nat):Int)=(j:Int)+1 by omega] at hh hW hl hf ha;obtain ⟨Z,g6⟩:∃Z,W5.setCell ⟨G,1,none⟩ (.int .i64 ((j:Int)+1))=Z:=⟨_,rfl⟩;rw[g6] at hh hW hl hf ha;obtain ⟨m0,m1,m2,m3,m4,m5,m6⟩:=hW.cells;clear gw ga n0 n1 n2 n3 n4 n5 n6
       go_wp2_with (first|(refine ZqF rfl 25 (.tmp 6) (.tmp 84) rfl gz _ rfl rfl _ _ hl Ze rfl Zz ?_))
       ((try simp only[Exit.inBlock,Exit.then]);refine ZqT (ZrO rfl _ _ _ _ _ _ _ rfl (ZqV _ _ _ _ _ _ hl) underlying25 rfl Ze) rfl ?_);have di:RdN Z (.mk 0 [] tn (.slice U ta.length tc) ta (.slice KA out.length kc) out [] Q):=(by rw[RdN];exact ⟨RAts.away fz hf (hR.out.ta _ gc.out),RSl.of_own ha.row,ha.rd⟩);have gF:awayN (some gz) (.mk 0 [] tn (.slice U ta.length tc) ta (.slice KA out.length kc) out [] Q):=(by rw[awayN];exact ⟨hR.out.new gO _ gc.out,Or.inr λe=>by have:=fi _ e;omega,gt.out gz om (hR.out.new gO)⟩);refine ⟨_,rfl,⟨.mk 0 [] tn (.slice U ta.length tc) ta (.slice KA out.length kc) out [] Q,j+1,rfl,by rw[Nc.nd],RdN.grown (ZG _ gz _) _ di gF,⟨om,om⟩,rfl,(Zrn _ gz G _ om).trans (by rw[show (((j+1:Nat):Int))=(j:Int)+1 by omega];exact hh),λb hb hY=> ?_⟩,XP hf gO _⟩;rw[awayN];exact ⟨hY _ gc.out,Or.inr λe=>by have:=fi _ e;omega,gt.out b om hY⟩
      ·rw[ZqN gw] at J;subst J;have dN:((str un).toList==(str tn).toList)=false:=(by rw[Z8];simpa using gw);have HF:=gd (λw'=>Qt G (.slice (some ad) lt.length lc) j 0 0 C 14 w');clear gw ga
       go_wp2_with (first|(go_at_call 104;refine ZqD (HF.out _ hp) ?_;rintro e w6 ⟨rfl,hh,ht⟩;(have hl:=hz.grown ht (by intro e;injection e with e;omega)))|(refine ZqF rfl 25 (.tmp 6) (.tmp 76) rfl gz _ rfl rfl _ _ hl Ze rfl Zz ?_))
       ((try simp only[Exit.inBlock,Exit.then]);refine ZqT (ZrO rfl _ _ _ _ _ _ _ rfl (ZqV _ _ _ _ _ _ hl) underlying25 rfl Ze) rfl ?_);exact ⟨_,rfl,⟨.mk 0 [] [] (.slice none 0 0) [] (.slice none 0 0) [] [] 0,j,rfl,⟨⟨_,_,_,rfl⟩,⟨_,_,_,rfl⟩⟩,(Zrn _ gz G _ om).trans hh⟩,XP (hI.trans ht) gO _⟩
     subst hk;have J:=ga.out;rw[ZaS _ _ _ _ _ _ rfl] at J;dsimp only at J;have HN:=gd J;have hh:=hp.next (j+1);have hW:BxN (W5.setCell ⟨G,1,none⟩ (.int .i64 ((j+1:Nat):Int))) bn 0 [] tn (.slice U ta.length tc) (.slice KA out.length kc) [] Q:=ge.other om;have hl:BxN (W5.setCell ⟨G,1,none⟩ (.int .i64 ((j+1:Nat):Int))) gz 0 [] [] (.slice none 0 0) (.slice none 0 0) [] 0:=hz.other om;have gq:BxT (W5.setCell ⟨G,1,none⟩ (.int .i64 ((j+1:Nat):Int))) bt ⟨.slice U ta.length tc,⟨tk,tn,ta,false,tt,Q⟩⟩:=hT.other om;have gs:BxT (W5.setCell ⟨G,1,none⟩ (.int .i64 ((j+1:Nat):Int))) bu ⟨.slice hU ua.length uc,⟨3,un,ua,hZ,R,C⟩⟩:=gr.other om;have hf:=U7 hI 1 (.int .i64 ((j+1:Nat):Int));have ha:=h0.but (ZY W5 ⟨G,1,none⟩ (.int .i64 ((j+1:Nat):Int))) (show G<bn+1 by omega) gg;have gN:(W5.setCell ⟨G,1,none⟩ (.int .i64 ((j+1:Nat):Int))).heap.size=W5.heap.size:=(by simp[World.setCell]);rw[show ((j+1:Nat):Int)=(j:Int)+1 by omega] at hh hW hl hf ha gq gs gN;obtain ⟨Z,g6⟩:∃Z,W5.setCell ⟨G,1,none⟩ (.int .i64 ((j:Int)+1))=Z:=⟨_,rfl⟩;rw[g6] at hh hW hl hf ha gq gs gN;have d6:bn+1<=Z.heap.size:=om;have dX:bu<Z.heap.size:=om;have d8:=gd gN;obtain ⟨m0,m1,m2,m3,m4,m5,m6⟩:=hW.cells;obtain ⟨x0,x1,x2,x3,x4,x5, -⟩:=gs.cells;dsimp only at x0 x1 x2 x3 x4 x5;have hD:BxP Z G (.slice (some ad) lt.length lc) (j+1) 0 0:=(by unfold BxP;rw[show (((j+1:Nat):Int))=(j:Int)+1 by omega];exact hh);have bq:out.length<=80000000000:=(by have:=gL.out;omega);clear ga J n0 n1 n2 n3 n4 n5 n6 gN;rcases List.eq_nil_or_concat out with O|⟨o1,y,O⟩
     focus
      have f8:out.length=0:=(by rw[O];rfl)
      have fD:(out.length:Int)=0:=om
      have S:Nc.nds (out++ [Nc.mk 1 [] [] (.slice none 0 0) [] (.slice none 0 0) [] R C])=addText (Nc.nds out) R C:=by
       rw[X6,Vw,O]
       rfl
      have gy:=gd S
      have fg:=gd f8
      clear S O f8
      have gB:=gd hW
      have g0:=gd gq
      have g1:=gd hl
      have ho:=gd ha
      have gZ:=gd hf
      have go:=gd hD
      have hs:=gd gs
      have gb:=gd (show 0+out.length<=maxLen by unfold maxLen;omega)
      have h7:=gd (show (0+out.length)*112<=140737488355328 by omega)
      have hG:=gd (show 0+out.length+1<=maxLen by unfold maxLen;omega)
      have hF:=gd (show (0+out.length+1)*112<=140737488355328 by omega)
      go_wp2
     rotate_left
     have bp:0<out.length:=(by rw[O];simp);have f9:out.length - 1<out.length:=om;have fM:out[out.length - 1]=y:=(by simp[O]);obtain ⟨ko,bB,gh,gJ⟩:=RNs.at ha.reads f9;injection gh with e1 e2 e3;subst e1;clear e2 e3;rw[fM] at gJ;obtain ⟨q,hq⟩:∃q,out.length=q+1:=⟨out.length - 1,om⟩;have de:out.length - 1=q:=om;rw[de] at gJ;have df:(out.length:Int)=(q:Int)+1:=om;have HQ:=gd hq;clear hq de;by_cases fd:y.kind=1
     ·have dS:((y.kind:Int)==1)=true:=(by rw[ZsE];omega);obtain ⟨kg,dU,gh,fA,fC⟩:=ZpR ha.row;have hA:ko.add (q*7)=⟨kg,q*7,none⟩:=(by rw[gh];exact Zmi _ _);rw[hA] at gJ;obtain ⟨k0, -, -, -, -,k5, -⟩:=gJ;dsimp only at k5;have dR:y.text.length+R.length<=160000000000:=(by obtain ⟨c,h1,h2⟩:=fJ.out;rw[gY.out,Yg] at h2;have h3:=ZiM (x:=y) h1 (by rw[O,List.concat_eq_append];exact ⟨_,rfl⟩) fd;dsimp only at h2;omega);have bb:¬9223372036854775807<y.text.length+R.length:=om;have bw:(str y.text).size<=160000000000:=(by rw[Zo];omega);have bx:(str R).size<=160000000000:=(by rw[Zo];omega);have dM:Z.frozen? ⟨kg,q*7+5,none⟩=false:=Zrk fC _;have q4:∀d:Aft Z,d.w.cell? ⟨bn,4,none⟩=some (.slice (some ko) out.length kc):=Aft.cell m4;have q5:∀d:Aft Z,d.w.cell? ⟨kg,q*7+5,none⟩=some (.string (str y.text)):=Aft.cell k5;have q6:∀d:Aft Z,d.w.cell? ⟨bu,4,none⟩=some (.string (str R)):=Aft.cell x4;have dA:=gd fC;have fO:=gd fA;have dB:=gd gh;have fg:=gd O;have d7:=gd k5;clear dR dM O fC gh fM f9;go_wp2;have bs:(0:Int)<=(q:Int):=om;have bv:(q:Int)<(out.length:Int):=om;clear df m0 m1 m2 m3 m4 m5 m6 x0 x1 x2 x3 x4 x5 b0 b1 b2 b3 f1 f2 f3 t0 t1 t2 t3 t4 t5 u0 u1 u2 u3 u4 u5 k0 k5;refine QH 9 (by kernel_rfl) (by kernel_rfl) ?_
      repeat (refine Xr (λK hK=> ?_);go_simp;(refine hK _ ?_;clear hK K))
      refine X0 ?_;intro d;have hu:=d.ext;have z5:=q5 d;have zf:d.w.frozen? ⟨kg,q*7+5,none⟩=false:=Zrk (hu.heap dA.out) _;clear q4 q5 q6;go_wp2;have h6:=gd hu;clear z5 zf;go_roundw
      case rel=>
       have gh:=dB.out;have O:out=o1++ [y]:=(by rw[fg.out,List.concat_eq_append]);have fk:q=o1.length:=(by have h1:=HQ.out;rw[O,ZqG,List.length_singleton] at h1;omega);have dP:q<out.length:=(by have:=HQ.out;omega);have dT:out[q]=y:=(by subst fk;simp[O]);have dp:out.set q (y.more R)=o1++ [y.more R]:=(by subst fk;rw[O];simp);have S:Nc.nds (out.set q (y.more R))=addText (Nc.nds out) R C:=(by rw[dp,O];exact ZeT fd R C);have gi:=ha.ext h6.out;rw[gh] at gi;have fA:=fO.out;rw[Zn2];refine ⟨j+1,out.set q (y.more R),.slice (some ⟨kg,0,none⟩) out.length kc,om,om,(by trivial),(hD.ext h6.out).other om,(gq.ext h6.out).other om,?_,HNs.text gi rfl dP dT R,(hl.ext h6.out).other om,Kt (YV hf h6.out) om _ _,?_,?_,?_,?_,?_⟩
       ·have h1:=hW.ext h6.out;rw[gh] at h1;exact h1.other om
       ·have:=h6.out.size;rw[show (d.w.setCell ⟨kg,q*7+5,none⟩ (.string (str (y.text++R)))).heap.size=d.w.heap.size by simp[World.setCell]];omega
       ·rw[S];exact HN.out
       ·obtain ⟨c,h1,h2⟩:=fJ.out;rw[gY.out,Yg] at h2;exact ⟨c+R.length,by rw[S];exact KT h1,by dsimp only at h2;omega⟩
       ·rw[ZsA];have h1:=gL.out;exact gd om
       ·exact gd (λr hr hY=>by
         rw[Zx];have h1:=(Zx _).1 (gt.out r hr hY);intro x hx;rcases List.mem_or_eq_of_mem_set hx with hx|rfl
         ·exact h1 x hx
         ·exact Zen R (h1 y (by rw[O];simp)))
      case measure=>have h8:=gA.out;have fA:=fO.out;have h9:=(((hD.ext h6.out).other (g':=kg) (j:=q*7+5) (v:= .string (str y.text++str R)) om).cells).2.1;rw[h8,h9];simp[intOf];omega
     focus
      have dS:((y.kind:Int)==1)=false:=(by rw[ZqW];omega)
      have S:Nc.nds (out++ [Nc.mk 1 [] [] (.slice none 0 0) [] (.slice none 0 0) [] R C])=addText (Nc.nds out) R C:=by
       rw[X6,Vw]
       unfold addText
       split
       ·rename_i s nm al kk u b hg
        rw[O,List.concat_eq_append,X6,Vw,Zsa] at hg
        simp only[Zsh,Option.or] at hg
        injection hg with hg
        have h9:=Zj7 y
        rw[hg] at h9
        exact absurd h9.symm fd
       ·rfl
      have gy:=gd S
      have bo:=gJ.c0
      clear S O fM fd
      have gB:=gd hW
      have g0:=gd gq
      have g1:=gd hl
      have ho:=gd ha
      have gZ:=gd hf
      have go:=gd hD
      have hs:=gd gs
      have gb:=gd (show 0+out.length<=maxLen by unfold maxLen;omega)
      have h7:=gd (show (0+out.length)*112<=140737488355328 by omega)
      have hG:=gd (show 0+out.length+1<=maxLen by unfold maxLen;omega)
      have hF:=gd (show (0+out.length+1)*112<=140737488355328 by omega)
      go_wp2
      generalize (some ko)=KA at*
     rotate_left
     ·have dL:j=lt.length:=om;subst dL;rw[Zq3 (by rw[Zq9];exact ZqE _),ZiJ] at J;subst J;have br:¬(lt.length:Int)<(lt.length:Int):=om;have HF:=gd (λw' dO=>Qt G (.slice (some ad) lt.length lc) lt.length 0 0 fin 8 w' dO);clear hr gu;go_wp2;refine rA ?_
      repeat (first|go_big_quiet_step (skip)|quiet_step (skip))
      refine Zru ?_;rintro _ ⟨d1,rfl⟩;obtain ⟨W4,hw,gC⟩:∃W4,Ext wr W4/\d1.w=W4:=⟨_,d1.ext,rfl⟩;rw[gC];clear gC d1 q0 q1 b0 b1 b2 b3;have fH:=hp.ext hw;have ff:=hz.ext hw
      go_wp2_with (first|(go_at_call 104;refine ZqD (HF.out _ fH) ?_;rintro e w6 ⟨rfl,hh,ht⟩;(have hl:=ff.grown ht (by intro e;injection e with e;omega)))|(refine ZqF rfl 25 (.tmp 6) (.tmp 154) rfl gz _ rfl rfl _ _ hl Ze rfl Zz ?_))
      ((try simp only[Exit.inBlock,Exit.then]);refine ZqT (ZrO rfl _ _ _ _ _ _ _ rfl (ZqV _ _ _ _ _ _ hl) underlying25 rfl Ze) rfl ?_);exact ⟨_,rfl,⟨.mk 0 [] [] (.slice none 0 0) [] (.slice none 0 0) [] [] 0,lt.length,rfl,⟨⟨_,_,_,rfl⟩,⟨_,_,_,rfl⟩⟩,(Zrn _ gz G _ om).trans hh⟩,XP ((YV hI hw).trans ht) gO _⟩
     all_goals
      (try clear fD)
      (try clear df)
      have hu:=(Ext.refl Z).drew
      have K4:=gd (hu.cell gB.out.cells.2.2.2.2.1)
      clear hD hh gq gs hl ha hf hW g6 hp hT ge h0 hz hI gr gg m0 m1 m2 m3 m4 m5 m6 x0 x1 x2 x3 x4 x5 b0 b1 b2 b3 f1 f2 f3 t0 t1 t2 t3 t4 t5 u0 u1 u2 u3 u4 u5
      refine rN ?_
      change wpAny _ _ _ _ _ _ _ (World.drew _)
      refine tH 1 (.pointer (some ⟨bn,4,none⟩)) ?_
      refine tH 4 (.pointer (some ⟨bu,4,none⟩)) ?_
      refine tH 6 (.pointer (some ⟨bu,5,none⟩)) ?_
      refine KQ (λL w'=>(L.getD 3 true=false->w'.cell? ⟨bn,4,none⟩=some (.slice KA out.length kc))/\BxT w' bu ⟨.slice hU ua.length uc,⟨3,un,ua,hZ,R,C⟩⟩) ?_
      refine Xq (i:=2) (v:= .slice KA out.length kc) 3 (λw'=>w'.cell? ⟨bn,4,none⟩=some (.slice KA out.length kc)) rfl (by kernel_rfl) (λ_ _ _ h=>h) (λL w' h=>⟨λh3=>h.1 (by rw[Zr5 true (by decide)];exact h3),h.2⟩) (λL w' h3 h=>h.1 h3) (Or.inl ⟨by rfl,λw' hS=>by have hq:w'.cell? ⟨bn,4,none⟩=some (.slice KA out.length kc):=hS;go_simp⟩) ⟨λ_=>K4.out,hs.out.ext hu⟩ ?_
      refine Xq (i:=5) (v:= .string (str R)) 8 (λw'=>BxT w' bu ⟨.slice hU ua.length uc,⟨3,un,ua,hZ,R,C⟩⟩) rfl (by kernel_rfl) (λ_ _ _ h=>h) (λL w' h=>⟨λh3=>h.1 (by rw[Zr5 true (by decide)];exact h3),h.2⟩) (λL w' _ h=>h.2) (Or.inl ⟨by rfl,λw' hS=>by have hq:=(BxT.cells hS).2.2.2.2.1;dsimp only at hq;go_simp⟩) ⟨λ_=>K4.out,hs.out.ext hu⟩ ?_
      refine Xq (i:=7) (v:= .int .i64 (C:Nat)) 8 (λw'=>BxT w' bu ⟨.slice hU ua.length uc,⟨3,un,ua,hZ,R,C⟩⟩) rfl (by kernel_rfl) (λ_ _ _ h=>h) (λL w' h=>⟨λh3=>h.1 (by rw[Zr5 true (by decide)];exact h3),h.2⟩) (λL w' _ h=>h.2) (Or.inl ⟨by rfl,λw' hS=>by have hq:=(BxT.cells hS).2.2.2.2.2.1;dsimp only at hq;go_simp⟩) ⟨λ_=>K4.out,hs.out.ext hu⟩ ?_
      refine Xq (i:=8) (v:= .agg #[.int .i64 1,.string ⟨#[]⟩,.string ⟨#[]⟩,.slice none 0 0,.slice none 0 0,.string (str R),.int .i64 (C:Nat)]) 9 (λ_=>True) rfl (by kernel_rfl) (λ_ _ _ h=>h) (λL w' h=>⟨λh3=>h.1 (by rw[Zr5 true (by decide)];exact h3),h.2⟩) (λL w' _ h=>trivial) (Or.inl ⟨by rfl,λw' hS=>by go_simp⟩) ⟨λ_=>K4.out,hs.out.ext hu⟩ ?_
      go_simp
      have hQ:=gd (Y9 (w:=Z.drew) (base:=Z.heap.size) (e:=25) (size:=7) (n:=0) (cs:= []) (ZqE _) rfl (by decide))
      have hC:=gd (hu.alloc (.cells #[] 25))
      refine VM (i:=0) (j:=9) rfl rfl (by kernel_rfl) (λK hK=> ?_) (λK hK=> ?_)
      focus
       go_simp
       refine hK _ _ ⟨λ_=>hC.out.cell K4.out,hs.out.ext hC.out⟩ ?_
       clear hK K
       (try go_simp)
       refine VM (i:=3) (j:=9) rfl rfl (by kernel_rfl) (λK hK=> ?_) (λK hK=> ?_)
      focus
       refine Zk _ (by rfl) (.tmp 140) (.tmp 142) _ (by rfl) Z.heap.size 25 i0 _ 7 112 underlying23 hJ hL hM hO rfl (by decide) _ 0 [] (by rfl) hQ.out (.slice KA out.length kc) out.length (flatN out) (by rfl) (RNs.ext ho.out.reads hC.out) (XO ho.out.rd) gb.out h7.out (hC.out.size) ?_
       intro v9 w9 D hv gf
       have V:Ext Z w9:=Ext.app hC.out hv (hQ.out) (ZqE _)
       refine hK _ _ ⟨λh=>Uf h (by kernel_rfl),hs.out.ext V⟩ ?_
       clear hK K
       refine mS 9 λK hK=> ?_
       go_simp
       have F:=V.alloc (.cells (cellsN (Nc.mk 1 [] [] (.slice none 0 0) [] (.slice none 0 0) [] R C)).toArray 25)
       refine hK _ _ ⟨λh=>Uf h (by kernel_rfl),hs.out.ext F⟩ ?_
       clear hK K
       (try go_simp)
       refine mS 10 λK hK=> ?_
       refine Zk _ (by rfl) (.tmp 143) (.tmp 149) _ (by rfl) Z.heap.size 25 i0 _ 7 112 underlying23 hJ hL hM hO rfl (by decide) _ (0+out.length) ([]++flatN out) (by rfl) (D.alloc _) _ 1 (cellsN (Nc.mk 1 [] [] (.slice none 0 0) [] (.slice none 0 0) [] R C)) (by rfl) (Zj (w:=w9) (size:=7) (n:=1) (e:=25) (cs:=cellsN (Nc.mk 1 [] [] (.slice none 0 0) [] (.slice none 0 0) [] R C)) rfl (by decide)) (ZH ⟨⟨_,_,_,rfl⟩,⟨_,_,_,rfl⟩⟩) hG.out hF.out (F.size) ?_
       intro gX hm I hc hX
       have A:Ext Z hm:=Ext.app F hc ((D.alloc _)) (ZqE _)
      rotate_left
      focus
       go_simp
       have F:=hC.out.alloc (.cells (cellsN (Nc.mk 1 [] [] (.slice none 0 0) [] (.slice none 0 0) [] R C)).toArray 25)
       refine hK _ _ ⟨λ_=>F.cell K4.out,hs.out.ext F⟩ ?_
       clear hK K
       (try go_simp)
       refine mS 3 λK hK=> ?_
       have hP:=hQ.out.alloc (.cells (cellsN (Nc.mk 1 [] [] (.slice none 0 0) [] (.slice none 0 0) [] R C)).toArray 25)
       refine Zk _ (by rfl) (.tmp 140) (.tmp 142) _ (by rfl) Z.heap.size 25 i0 _ 7 112 underlying23 hJ hL hM hO rfl (by decide) _ 0 [] (by rfl) hP (.slice KA out.length kc) out.length (flatN out) (by rfl) (RNs.ext ho.out.reads F) (XO ho.out.rd) gb.out h7.out (F.size) ?_
       intro v9 w9 D hv gf
       have V:Ext Z w9:=Ext.app F hv (hP) (ZqE _)
       have gl:RSl w9 7 (.slice (some ⟨Z.heap.size+1,0,none⟩) 1 1) 1 (cellsN (Nc.mk 1 [] [] (.slice none 0 0) [] (.slice none 0 0) [] R C)):=RSl.grown (Yr (e:=25) (fr:=(0,0)) (ZI Z.drew _ _) rfl (by decide)) hv (Or.inr (by intro e;injection e with e;exact absurd e (by show Z.heap.size+1≠Z.heap.size;omega)))
       refine hK _ _ ⟨λh=>Uf h (by kernel_rfl),hs.out.ext V⟩ ?_
       clear hK K
       (try go_simp)
       refine mS 10 λK hK=> ?_
       refine Zk _ (by rfl) (.tmp 143) (.tmp 149) _ (by rfl) Z.heap.size 25 i0 _ 7 112 underlying23 hJ hL hM hO rfl (by decide) _ (0+out.length) ([]++flatN out) (by rfl) D _ 1 (cellsN (Nc.mk 1 [] [] (.slice none 0 0) [] (.slice none 0 0) [] R C)) (by rfl) gl (ZH ⟨⟨_,_,_,rfl⟩,⟨_,_,_,rfl⟩⟩) hG.out hF.out (V.size) ?_
       intro gX hm I hc hX
       have A:Ext Z hm:=Ext.app V hc (D) (ZqE _)
      rotate_left
      focus
       go_simp
       have gm:=hu.alloc (.cells (cellsN (Nc.mk 1 [] [] (.slice none 0 0) [] (.slice none 0 0) [] R C)).toArray 25)
       refine hK _ _ ⟨λ_=>gm.cell K4.out,hs.out.ext gm⟩ ?_
       clear hK K
       refine mS 0 λK hK=> ?_
       go_simp
       have F:=gm.alloc (.cells #[] 25)
       refine hK _ _ ⟨λ_=>F.cell K4.out,hs.out.ext F⟩ ?_
       clear hK K
       (try go_simp)
       refine mS 3 λK hK=> ?_
       have hP:((Z.drew.alloc (.cells (cellsN (Nc.mk 1 [] [] (.slice none 0 0) [] (.slice none 0 0) [] R C)).toArray 25)).alloc (.cells #[] 25)).ownsRow Z.heap.size 25 7 (.slice (some ⟨Z.heap.size+1,0,none⟩) 0 0) 0 []:=by
        have h:=Y9 (w:=Z.drew.alloc (.cells (cellsN (Nc.mk 1 [] [] (.slice none 0 0) [] (.slice none 0 0) [] R C)).toArray 25)) (base:=Z.heap.size) (e:=25) (size:=7) (n:=0) (cs:= []) (by rw[Zd];exact ZrF _) rfl (by decide)
        rw[Zd] at h
        exact h
       refine Zk _ (by rfl) (.tmp 140) (.tmp 142) _ (by rfl) Z.heap.size 25 i0 _ 7 112 underlying23 hJ hL hM hO rfl (by decide) _ 0 [] (by rfl) hP (.slice KA out.length kc) out.length (flatN out) (by rfl) (RNs.ext ho.out.reads F) (XO ho.out.rd) gb.out h7.out (F.size) ?_
       intro v9 w9 D hv gf
       have V:Ext Z w9:=Ext.app F hv (hP) (ZqE _)
       have gl:RSl w9 7 (.slice (some ⟨Z.heap.size,0,none⟩) 1 1) 1 (cellsN (Nc.mk 1 [] [] (.slice none 0 0) [] (.slice none 0 0) [] R C)):=RSl.grown ((Zj (w:=Z.drew) (size:=7) (n:=1) (e:=25) (cs:=cellsN (Nc.mk 1 [] [] (.slice none 0 0) [] (.slice none 0 0) [] R C)) rfl (by decide)).ext ((Ext.refl _).alloc _)) hv (Or.inr (by intro e;injection e with e;exact absurd e (by show Z.heap.size≠Z.heap.size+1;omega)))
       refine hK _ _ ⟨λh=>Uf h (by kernel_rfl),hs.out.ext V⟩ ?_
       clear hK K
       (try go_simp)
       refine mS 10 λK hK=> ?_
       refine Zk _ (by rfl) (.tmp 143) (.tmp 149) _ (by rfl) Z.heap.size 25 i0 _ 7 112 underlying23 hJ hL hM hO rfl (by decide) _ (0+out.length) ([]++flatN out) (by rfl) D _ 1 (cellsN (Nc.mk 1 [] [] (.slice none 0 0) [] (.slice none 0 0) [] R C)) (by rfl) gl (ZH ⟨⟨_,_,_,rfl⟩,⟨_,_,_,rfl⟩⟩) hG.out hF.out (V.size) ?_
       intro gX hm I hc hX
       have A:Ext Z hm:=Ext.app V hc (D) (ZqE _)
      all_goals
       refine hK _ _ ⟨λh=>Uf h (by kernel_rfl),hs.out.ext A⟩ ?_
       clear hK K
       refine mS 11 λK hK=> ?_
       go_simp
       refine hK _ _ ⟨λh=>Uf h (by kernel_rfl),hs.out.ext A⟩ ?_
       clear hK K
       refine mS 12 λK hK=> ?_
       rw[ZrH] at I
       obtain ⟨A9,c9,rfl⟩:=Zp I
       have hV:=gB.out.ext A
       obtain ⟨p0,p1,p2,p3,p4,p5,p6⟩:=hV.cells
       obtain ⟨z1,z2,z3,z4⟩:=hV.frozen
       go_simp
       refine hK _ _ ⟨λh=>Uf h (by kernel_rfl),(hs.out.ext A).other om⟩ ?_
       clear hK K
       refine Zdi (by kernel_rfl) ?_
       clear p0 p1 p2 p3 p4 p5 p6 z1 z2 z3 z4
       go_wp2
       go_roundw
       case rel=>
        have dj:RdN Z (Nc.mk 1 [] [] (.slice none 0 0) [] (.slice none 0 0) [] R C):=(by rw[RdN];exact ⟨RAts.nil _,RSl.nil _ 7,by rw[RdNs];trivial⟩)
        have fZ:∀r,awayN (some r) (Nc.mk 1 [] [] (.slice none 0 0) [] (.slice none 0 0) [] R C):=λr=>(by rw[awayN];exact ⟨Or.inl rfl,Or.inl rfl,by rw[awayNs];trivial⟩)
        have S:∀r,r<bn+1->TA lt r->awayNs (some r) (out++ [Nc.mk 1 [] [] (.slice none 0 0) [] (.slice none 0 0) [] R C]):=λr hr hY=>by
         rw[Zx]
         intro y hy
         rcases Zq0.1 hy with hy|hy
         ·exact (Zx _).1 (gt.out r hr hY) y hy
         ·rw[ZqU.1 hy]
          exact fZ r
        refine ⟨j+1,out++ [Nc.mk 1 [] [] (.slice none 0 0) [] (.slice none 0 0) [] R C],.slice A9 (out.length+1) c9,om,om,(by trivial),(go.out.ext A).other om,(g0.out.ext A).other om,hV.kids _,ZgI om A I ho.out.rd dj (S bn om (hR.out.new om)) om _,(g1.out.ext A).other om,Kt (YV gZ.out A) om _ _,?_,?_,?_,?_,S⟩
        ·have:=A.size
         show _<=(hm.setCell ⟨bn,4,none⟩ (.slice A9 (out.length+1) c9)).heap.size
         rw[show (hm.setCell ⟨bn,4,none⟩ (.slice A9 (out.length+1) c9)).heap.size=hm.heap.size by simp[World.setCell]]
         omega
        ·rw[gy.out]
         exact HN.out
        ·obtain ⟨c,h1,h2⟩:=fJ.out
         rw[gY.out,Yg] at h2
         exact ⟨c+R.length,by rw[gy.out];exact KT h1,by dsimp only at h2;omega⟩
        ·rw[ZqG]
         have h1:=gL.out
         show _+1<=_
         omega
       case measure=>
        have h8:=gA.out
        have h9:=(((go.out.ext A).other (g':=bn) (j:=4) (v:= .slice A9 (out.length+1) c9) om).cells).2.1
        rw[h8,h9]
        simp[intOf]
        omega
end
end Go.Proofs.YtmfinhgobjbecaaGreatDoor
