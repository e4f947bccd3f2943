/- Parts of the proof: contracts and plain laws. -/
import Derived.Test.YtnlafkgkcnenfaaGreatDoorU11
namespace Go.Proofs.YtnlafkgkcnenfaaGreatDoor
open Go Go.RowKit _root_.Go.Proofs.Tryz
set_option linter.unusedVariables false
set_option linter.unusedSimpArgs false
set_option maxRecDepth 100000
set_option maxHeartbeats 16000000
section
variable {B c d fin i:Nat} {W w:World} {t:List UInt8} {u v:Value} {y:Nc}
attribute [local go_sem] calm1
def TA (lt:List Tc) (r:Nat):Prop:=∀x∈lt,awayV x.al x.t.attrs.length (some r)
structure AtTc (w:Wq) (q:Addr) (x:Tc):Prop where
 c0:w.cell? q=some (nI (x.t.kind:Nat))
 c1:w.cell? ⟨q.block,q.off+1,none⟩=some (.string (str x.t.name))
 c2:w.cell? ⟨q.block,q.off+2,none⟩=some x.al
 c3:w.cell? ⟨q.block,q.off+3,none⟩=some (.bool x.t.empty)
 c4:w.cell? ⟨q.block,q.off+4,none⟩=some (.string (str x.t.text))
 c5:w.cell? ⟨q.block,q.off+5,none⟩=some (nI (x.t.at_:Nat))
theorem RTs.at {w:Wq} {v:Value} {l:List Tc} (h:RSl w 6 v l.length (flatT l)) {k:Nat} (D:k<l.length):∃ad c,v= .slice (some ad) l.length c/\AtTc w (ad.add (k*6)) l[k]:=by
 obtain ⟨ad,c,e,hc⟩:=RSl.elem (k:=6) (css:=l.map cellsT) h (by decide) (by intro c hc;obtain ⟨x,_,rfl⟩:=ZU.1 hc;rfl) k (cellsT l[k]) (by rw[Yp,Zh D];rfl);rw[VF] at hc;have A:∀i,0<i->(ad.add (k*6)).add i=⟨(ad.add (k*6)).block,(ad.add (k*6)).off+i,none⟩:=λi F=>Ze om;refine ⟨ad,c,e,?_,?_,?_,?_,?_,?_⟩
 ·have:=hc 0 _ rfl;rwa [add_zero] at this
 ·have:=hc 1 _ rfl;rwa [A _ (by decide)] at this
 ·have:=hc 2 _ rfl;rwa [A _ (by decide)] at this
 ·have:=hc 3 _ rfl;rwa [A _ (by decide)] at this
 ·have:=hc 4 _ rfl;rwa [A _ (by decide)] at this
 ·have:=hc 5 _ rfl;rwa [A _ (by decide)] at this
structure PCtx (w:Wq) (G:Nat) (lv:Value) (lt:List Tc):Prop where
 row:RSl w 6 lv lt.length (flatT lt)
 rd:∀x∈lt,RdT w x
 away:awayV lv lt.length (some G)
 ta:TA lt G
theorem PCtx.grown {w w':Wq} {G:Nat} {lv:Value} {lt:List Tc} (h:PCtx w G lv lt) (A:w.grownBy w' (some G)):PCtx w' G lv lt:=
 ⟨RSl.grown h.row A (h.away.imp (λe=>by rw[List.length_eq_zero_iff.1 e];rfl) λe=>e),λx D=>RAts.away (h.rd x D) A (h.ta x D),h.away,h.ta⟩
theorem PCtx.ext {w w':Wq} {G:Nat} {lv:Value} {lt:List Tc} (h:PCtx w G lv lt) (A:Ext w w'):PCtx w' G lv lt:=h.grown (A.grown _)
theorem PCtx.new {w:Wq} {G r:Nat} {lv:Value} {lt:List Tc} (h:PCtx w G lv lt) (A:w.heap.size<=r):TA lt r:=λx D=>RAts.awayNew (h.rd x D) A
theorem RdT.form {w:Wq} {x:Tc} (h:RdT w x):∃A c,x.al= .slice A x.t.attrs.length c:=by
 obtain ⟨A,c,e, -, -⟩:=RAts.form h;exact ⟨A,c,e⟩
def Nc.more:Nc->List UInt8->Nc
 | .mk k s n al l ks kids t a,u=> .mk k s n al l ks kids (t++u) a
theorem Zi7 (y:Nc) (u:List UInt8):(cellsN y).set 5 (.string (str (y.text++u)))=cellsN (y.more u):=by cases y;rfl
theorem ZoE (u:List UInt8) (h:RdN w y):RdN w (y.more u):=by cases y;rw[RdN] at h;rw[Nc.more,RdN];exact h
theorem Zeq {r:Option Nat} (u:List UInt8) (h:awayN r y):awayN r (y.more u):=by cases y;rw[awayN] at h;rw[Nc.more,awayN];exact h
theorem ZnO (a b:List UInt8):str a++str b=str (a++b):=by
 have h:(str a++str b).data=(str (a++b)).data:=by rw[ByteArray.data_append];apply Array.toList_inj.1;rw[Array.toList_append,Z3,Z3,Z3]
 cases hx:str a++str b;cases hy:str (a++b);rw[hx,hy] at h;simpa using h
theorem Ze0 {h:List Nc} (A:y.kind=1) (u:List UInt8) (a:Nat):Nc.nds (h++ [y.more u])=addText (Nc.nds (h++ [y])) u a:=by
 obtain ⟨k,s,n,al,l,ks,kids,t,b⟩:=y;simp only[Nc.kind] at A;subst A;rw[JY,JY];unfold addText;have D:(Nc.nds h++Nc.nds [Nc.mk 1 s n al l ks kids t b]).getLast? =some (.mk 1 s n l (Nc.nds kids) t b):=by rw[XG,Nc.nds,Nc.nds,Nc.nd];rfl
 rw[D];(try dsimp only);rw[show Nc.nds [Nc.mk 1 s n al l ks kids t b]= [Nd.mk 1 s n l (Nc.nds kids) t b] by rw[Nc.nds,Nc.nds,Nc.nd],List.dropLast_concat,Nc.more,Nc.nds,Nc.nds,Nc.nd];rfl
theorem HNs.text {w:Wq} {B g c q n:Nat} {l:List Nc} {y:Nc} (h:HNs w B (.slice (some ⟨g,0,none⟩) n c) l) (S:l.length=n) (J:q<l.length) (Q:l[q]=y) (u:List UInt8):
 HNs (w.setCell ⟨g,q*7+5,none⟩ (.string (str (y.text++u)))) B (.slice (some ⟨g,0,none⟩) n c) (l.set q (y.more u)):=by
 subst S;have R:=Yw w ⟨g,q*7+5,none⟩ (.string (str (y.text++u)));have K:=(XC l).1 h.rd;have H:=(Yr l).1 h.away;have D:∀x∈l.set q (y.more u),RdN w x/\awayN (some g) x:=λx A=>by
  rcases List.mem_or_eq_of_mem_set A with A|rfl
  ·exact ⟨K x A,H x A⟩
  ·have I:y∈l:=(by rw[<-Q];exact ZL J);exact ⟨ZoE u (K y I),Zeq u (H y I)⟩
 refine ⟨?_,(XC _).2 λx A=>RdN.grown R x (D x A).1 (D x A).2,(Yr _).2 λx A=>(D x A).2⟩;have F:=ZjZ h.row (j:=q*7+5) om (.string (str (y.text++u)));rw[ZkN J (y.more u) _ (by rw[Q];exact Zi7 y u)] at F;rw[Jt];exact F
theorem ZiY {ks:List Nc} {x:Nc} (h:lastTxt (Nc.nds ks) c) (D:∃A,ks=A++ [x]) (F:x.kind=1):x.text.length<=c:=by
 obtain ⟨A,rfl⟩:=D;obtain ⟨k,s,n,al,l,kk,kids,t,a⟩:=x;refine h k s n l (Nc.nds kids) t a ?_ F;rw[JY,XG,Nc.nds,Nc.nds,Nc.nd];rfl
theorem In {ks:List Nd} {a:Nat} (hc:lastTxt ks c):lastTxt (addText ks t a) (c+t.length):=by
 unfold addText;split
 ·rename_i s nm al kk u b F;have J:=hc 1 s nm al kk u b F rfl;intro k' I H al' A u' D h _;rw[XG] at h;simp only[X7,Option.or] at h;injection h with h;injection h with _ _ _ _ _ e _;rw[<-e,Zb];omega
 ·intro k' I H al' A u' D h _;rw[XG] at h;simp only[X7,Option.or] at h;injection h with h;unfold charD at h;injection h with _ _ _ _ _ e _;rw[<-e];omega
theorem Zfm {ks:List Nd} {k:Nd} (h:k.kind=0) (c:Nat):lastTxt (ks++ [k]) c:=by
 intro k' J I al' D u' F A e;rw[XG] at A;simp only[X7,Option.or] at A;injection A with A;rw[A] at h;have H:k'=0:=h;omega
def ElRet (G:Nat) (lv:Value) (lt:List Tc) (i:Nat) (w w':Wq) (v:Value):Except PErr (Nd×List Tok)->Prop
 | .ok (m,r)=>∃(mc:Nc) (j:Nat),v= .agg (cellsN mc).toArray/\mc.nd=m/\RdN w' mc/\(i<j/\j<=lt.length)/\r=(lt.map Tc.t).drop j/\BxP w' G lv j 0 0/\∀b,b<w.heap.size->TA lt b->awayN (some b) mc
 | .error (y,c)=>∃(mc:Nc) (j:Nat),v= .agg (cellsN mc).toArray/\slN mc/\BxP w' G lv j y c
theorem ElRet.ok {G i:Nat} {lv:Value} {lt:List Tc} {w w':Wq} {v:Value} {m:Nd} {r:List Tok} (h:ElRet G lv lt i w w' v (.ok (m,r))):∃(mc:Nc) (j:Nat),v= .agg (cellsN mc).toArray/\mc.nd=m/\RdN w' mc/\(i<j/\j<=lt.length)/\r=(lt.map Tc.t).drop j/\BxP w' G lv j 0 0/\∀b,b<w.heap.size->TA lt b->awayN (some b) mc:=h
theorem ElRet.err {G i:Nat} {lv:Value} {lt:List Tc} {w w':Wq} {v:Value} {y c:Nat} (h:ElRet G lv lt i w w' v (.error (y,c))):∃(mc:Nc) (j:Nat),v= .agg (cellsN mc).toArray/\slN mc/\BxP w' G lv j y c:=h
theorem Gt {lt:List Tc} (h:i<lt.length):(lt.map Tc.t).drop i=lt[i].t::(lt.map Tc.t).drop (i+1):=by
 rw[Zl (by rw[Zq];exact h),Xn]
theorem VO {b:Bool} {p:Prop} (h:b=false) (A:b=true):p:=by rw[A] at h;cases h
theorem Up:∀{l:List Nc},RdNs w l->∀u∈flatN l,u.oneCell'=true:=by
 intro l h u A;obtain ⟨c,hc,A⟩:=Zdh.1 A;obtain ⟨x,D,rfl⟩:=ZU.1 hc;exact Xp (RdN.sl ((XC l).1 h x D)) u A
theorem ZgZ {A:Wq} {H:Nat} {out:List Nc} {mc:Nc} (S:B<=W.heap.size) (X:Ext W A) (F:A.ownsRow W.heap.size 25 7 v (out.length+1) (([]++flatN out)++cellsN mc)) (Q:RdNs W out) (V:RdN W mc)
 (J:awayNs (some H) (out++ [mc])) (K:H<W.heap.size) (i:Nat):HNs (A.setCell ⟨H,i,none⟩ u) B v (out++ [mc]):=by
 have D:RdNs W (out++ [mc]):=(XC _).2 λy I=>by
  rcases Zs.1 I with I|I
  ·exact (XC _).1 Q y I
  ·rw[Zo.1 I];exact V
 refine ⟨?_,RdNs.grown (Yw A ⟨H,i,none⟩ u) _ (RdNs.ext X _ D) J,GY (λg U=>Jg F g U) _ D⟩;have h:=XN (X4 F (Zc _)) (g:=H) K i u;rw[Vf,Vg,Zb];have R:=X4 h S;simpa using R
theorem ZkJ {l r:List Tok} {x:Nd} (h:elemAt fin d l= .ok (x,r)):x.kind=0:=by
 have A:∀f:Nat,(∀(d:Nat) (l:List Tok) (x:Nd) (r:List Tok),elemP fin f d l= .ok (x,r)->x.kind=0)/\(∀(d:Nat) (t:Tok) (ks:List Nd) (l:List Tok) (x:Nd) (r:List Tok),kidsP fin f d t ks l= .ok (x,r)->x.kind=0):=by
  intro f
  induction f with
  |zero=>exact ⟨λd l x r h=>(by rw[elemP] at h;cases h),λd t ks l x r h=>(by rw[kidsP] at h;cases h)⟩
  |succ f ih=>
   refine ⟨λd l x r h=> ?_,λd t ks l x r h=> ?_⟩
   ·cases l with
    |nil=>rw[elemP] at h;cases h
    |cons t l=>
     rw[elemP] at h;split at h
     ·cases h
     ·split at h
      ·injection h with h;injection h with h1 h2;subst h1;rfl
      ·exact ih.2 _ _ _ _ _ _ h
   ·cases l with
    |nil=>rw[kidsP] at h;cases h
    |cons u l=>
     rw[kidsP] at h;split at h
     ·split at h
      ·cases h
      ·injection h with h;injection h with h1 h2;subst h1;rfl
     ·split at h
      ·split at h
       ·cases h
       ·exact ih.2 _ _ _ _ _ _ h
      ·exact ih.2 _ _ _ _ _ _ h
 exact (A _).1 _ _ _ _ h
theorem HNs.but {w w':Wq} {B G:Nat} {v:Value} {l:List Nc} (h:HNs w B v l) (A:w.grownBy w' (some G)) (F:G<B) (D:awayNs (some G) l):HNs w' B v l:=
 ⟨h.row.kept A (Or.inr λe=>by have:=(h.row.lt G e).1;omega),RdNs.grown A l h.rd D,h.away⟩
theorem ZfE (N:Nat) (hN:N<=80000000000) (G:Nat) (lv:Value) (lt:List Tc) (fin:Nat) (d4:lt.length<=N) (dt:txts (lt.map Tc.t)<=2*N) (fC:∀x∈lt,x.t.kind=1\/x.t.kind=2\/x.t.kind=3):
 ∀(n i depth:Nat) (w:World),lt.length - i<n->i<lt.length->depth<=80000000000->PCtx w G lv lt->BxP w G lv i 0 0->
 Calls prog 59 #[.pointer (some ⟨G,0,none⟩),.int .i64 (depth:Nat),.int .i64 (fin:Nat)] w λe w'=>∃v,e= .returned v/\ElRet G lv lt i w w' v (elemAt fin depth ((lt.map Tc.t).drop i))/\w.grownBy w' (some G):=by
 intro n
 induction n with
 |zero=>exact λ_ _ _ h=>absurd h (Nat.not_lt_zero _)
 |succ n IHn=>
  intro i depth w hn hi bg fc fa;obtain ⟨i0,hL,hM,hO,hP⟩:=YH Vh;have dy:=gd IHn;have hU:=gd fc;have dA:=gd fC;have fV:=gd dt;obtain ⟨RA,gq⟩:∃RA:Except PErr (Nd×List Tok),elemAt fin depth ((lt.map Tc.t).drop i)=RA:=⟨_,rfl⟩;rw[gq];rw[Gt hi,Ev] at gq;have dI:=fa.lt;obtain ⟨gz,gJ⟩:∃g,w.heap.size=g:=⟨_,rfl⟩;obtain ⟨W0,g5⟩:∃W0,w.alloc (.cells #[.int .i64 0,.string ⟨#[]⟩,.string ⟨#[]⟩,.slice none 0 0,.slice none 0 0,.string ⟨#[]⟩,.int .i64 0] 25)=W0:=⟨_,rfl⟩;have gQ:Ext w W0:=by rw[<-g5];exact (Ext.refl w).alloc _
  have hz:BxN W0 gz 0 [] [] (.slice none 0 0) (.slice none 0 0) [] 0:=by rw[<-g5,<-gJ];exact Zg w _
  have dn:W0.heap.size=gz+1:=by rw[<-g5,Zu,gJ]
  have fT:=gd dn;have bd:G<gz:=by rw[<-gJ];exact dI
  have gP:w.heap.size<=gz:=Nat.le_of_eq gJ;obtain ⟨b0,b1,b2,b3⟩:=(fa.ext gQ).cells;have df:=fa.ext gQ;obtain ⟨ad,lc,fF,gF⟩:=RTs.at (fc.ext gQ).row hi;have fM:=ZL hi;have gT:=RdT.form (fc.rd _ fM);have gy:=fC _ fM;have ge:=gd fM;obtain ⟨x,gU⟩:∃x,lt[i]=x:=⟨_,rfl⟩;rw[gU] at gF gT gy ge gq;have dl:=fc.rd x ge.out;have fS:=gd dl;obtain ⟨bG,⟨tk,tn,ta,h6,tt,S⟩⟩:=x;obtain ⟨X,tc,fm⟩:=gT;dsimp only at fm gy;subst fm;subst fF;obtain ⟨a0,a1,a2,a3,a4,a5⟩:=gF;dsimp only at a0 a1 a2 a3 a4 a5 gq;have fq:=gd gq;clear gq;have q0:∀d:Aft W0,d.w.cell? ⟨G,0,none⟩=some (.slice (some ad) lt.length lc):=Aft.cell b0;have q1:∀d:Aft W0,d.w.cell? ⟨G,1,none⟩=some (.int .i64 (i:Nat)):=Aft.cell b1;have r0:∀d:Aft W0,d.w.cell? (ad.add (i*6))=some (.int .i64 (tk:Nat)):=Aft.cell a0;have r1:∀d:Aft W0,d.w.cell? ⟨(ad.add (i*6)).block,(ad.add (i*6)).off+1,none⟩=some (.string (str tn)):=Aft.cell a1;have r2:∀d:Aft W0,d.w.cell? ⟨(ad.add (i*6)).block,(ad.add (i*6)).off+2,none⟩=some (.slice X ta.length tc):=Aft.cell a2;have r3:∀d:Aft W0,d.w.cell? ⟨(ad.add (i*6)).block,(ad.add (i*6)).off+3,none⟩=some (.bool h6):=Aft.cell a3;have r4:∀d:Aft W0,d.w.cell? ⟨(ad.add (i*6)).block,(ad.add (i*6)).off+4,none⟩=some (.string (str tt)):=Aft.cell a4;have r5:∀d:Aft W0,d.w.cell? ⟨(ad.add (i*6)).block,(ad.add (i*6)).off+5,none⟩=some (.int .i64 (S:Nat)):=Aft.cell a5;have d2:(0:Int)<=(i:Int):=om
  have bh:(i:Int)<(lt.length:Int):=om
  clear gU fa fC dt;go_enter func59,ntmps59;go_wp2;refine KF 10 (.cells #[.int .i64 0,.string ⟨#[]⟩,.slice none 0 0,.bool false,.string ⟨#[]⟩,.int .i64 0] 111) _ (by kernel_rfl) rfl (by kernel_rfl) (λa w K h=>by go_simp;exact h) ?_
  repeat (refine GT (λK hK=> ?_);go_simp;(refine hK _ ?_;clear hK K))
  refine Ii ?_;intro bt d dJ hI;have dX:gz<bt:=by have:=fT.out;omega
  clear q0 q1 r0 r1 r2 r3 r4 r5 a0 a1 a2 a3 a4 a5 b0 b1 b2 b3 g5;refine Zf rfl 111 (.tmp 7) (.tmp 21) rfl bt (cellsT ⟨.slice X ta.length tc,⟨tk,tn,ta,h6,tt,S⟩⟩).toArray rfl rfl _ _ hI Ye rfl (XE ⟨.slice X ta.length tc,⟨tk,tn,ta,h6,tt,S⟩⟩ rfl) ?_;have gR:Ext W0 (d.w.setRow bt (cellsT ⟨.slice X ta.length tc,⟨tk,tn,ta,h6,tt,S⟩⟩).toArray):=d.ext.setRow dJ _;have g3:BxT (d.w.setRow bt (cellsT ⟨.slice X ta.length tc,⟨tk,tn,ta,h6,tt,S⟩⟩).toArray) bt ⟨.slice X ta.length tc,⟨tk,tn,ta,h6,tt,S⟩⟩:=ZF _ _ _ _ _ _ hI;have f5:bt<d.w.heap.size:=(ZP.1 hI).1;obtain ⟨W1,fw⟩:∃W1,d.w.setRow bt (cellsT ⟨.slice X ta.length tc,⟨tk,tn,ta,h6,tt,S⟩⟩).toArray=W1:=⟨_,rfl⟩;have f4:bt<W1.heap.size:=by rw[<-fw];simpa [World.setRow] using f5
  rw[fw] at gR g3|-;clear fw hI f5;have fo:=gQ.trans gR;have gN:=df.ext gR;have gV:=hz.ext gR;obtain ⟨b0,b1,b2,b3⟩:=gN.cells;obtain ⟨f1,f2,f3⟩:=gN.frozen;obtain ⟨t0,t1,t2,t3,t4,t5, -⟩:=g3.cells;dsimp only at t0 t1 t2 t3 t4 t5;have gH:w.grownBy W1 (some G):=fo.grown _;by_cases hd:100<depth
  ·have h5:=fq.out;rw[Zi hd] at h5;subst h5;have dL:(100:Int)<(depth:Int):=om;have HF:=gd (λw'=>GG G (.slice (some ad) lt.length lc) i 0 0 S 9 w');clear hd
   go_wp2_with (first|(go_at_call 101;refine Za (HF.out _ gN) ?_;rintro e w4 ⟨rfl,fI,f7⟩;(have fg:=gV.grown f7 (by intro e;injection e with e;omega)))|(refine Zf rfl 25 (.tmp 6) (.tmp 27) rfl gz _ rfl rfl _ _ fg ZJ rfl YU ?_))
   ((try simp only[Exit.inBlock,Exit.then]);refine ZD (Xe rfl _ _ _ _ _ _ _ rfl (ZF _ _ _ _ _ _ fg) underlying25 rfl ZJ) rfl ?_);exact ⟨_,rfl,⟨.mk 0 [] [] (.slice none 0 0) [] (.slice none 0 0) [] [] 0,i,rfl,⟨⟨_,_,_,rfl⟩,⟨_,_,_,rfl⟩⟩,(Yf _ gz G _ om).trans fI⟩,Ur (gH.trans f7) om _⟩
  ·have h5:=fq.out;rw[Ze hd] at h5;have dL:¬(100:Int)<(depth:Int):=om;have fb:=gN.next (i+1);rw[show ((i+1:Nat):Int)=(i:Int)+1 by omega] at fb;have g4:BxT (W1.setCell ⟨G,1,none⟩ (.int .i64 ((i:Int)+1))) bt ⟨.slice X ta.length tc,⟨tk,tn,ta,h6,tt,S⟩⟩:=g3.other om;have gW:BxN (W1.setCell ⟨G,1,none⟩ (.int .i64 ((i:Int)+1))) gz 0 [] [] (.slice none 0 0) (.slice none 0 0) [] 0:=gV.other om;have gI:=Qi gH 1 (.int .i64 ((i:Int)+1));have fx:bt<(W1.setCell ⟨G,1,none⟩ (.int .i64 ((i:Int)+1))).heap.size:=(by simpa [World.setCell] using f4);obtain ⟨W2,fY⟩:∃W2,W1.setCell ⟨G,1,none⟩ (.int .i64 ((i:Int)+1))=W2:=⟨_,rfl⟩;rw[fY] at fb g4 gW gI fx;obtain ⟨u0,u1,u2,u3,u4,u5, -⟩:=g4.cells;dsimp only at u0 u1 u2 u3 u4 u5;obtain ⟨bn,g9⟩:∃g,W2.heap.size=g:=⟨_,rfl⟩;have bm:(i:Int)+1<=80000000000:=om;obtain ⟨W3,g6⟩:∃W3,W2.alloc (.cells #[.int .i64 0,.string ⟨#[]⟩,.string (str tn),.slice X ta.length tc,.slice none 0 0,.string ⟨#[]⟩,.int .i64 (S:Nat)] 25)=W3:=⟨_,rfl⟩;have gS:Ext W2 W3:=(by rw[<-g6];exact (Ext.refl _).alloc _);have ft:BxN W3 bn 0 [] tn (.slice X ta.length tc) (.slice none 0 0) [] S:=(by rw[<-g6,<-g9];exact Zg W2 _);have dp:W3.heap.size=bn+1:=(by rw[<-g6,Zu,g9]);have fv:=g4.ext gS;have ff:=gW.ext gS;have fH:=fb.ext gS;have go:=Zp7 gI gS;have dW:bt<bn:=(by rw[<-g9];exact fx);have bB:gz<bn:=(by have:=fT.out;omega);obtain ⟨v0,v1,v2,v3,v4,v5, -⟩:=fv.cells;dsimp only at v0 v1 v2 v3 v4 v5;have fU:=gd dp;have fA:=fS.out;clear hd dp dn;cases h6 with
   |true=>
    obtain ⟨n0,n1,n2,n3,n4,n5,n6⟩:=ft.cells;rw[Zi rfl] at h5;subst h5
    go_wp2_with (first|(refine Zf rfl 25 (.tmp 6) (.tmp 44) rfl gz _ rfl rfl _ _ ff ZJ rfl YU ?_))
    ((try simp only[Exit.inBlock,Exit.then]);refine ZD (Xe rfl _ _ _ _ _ _ _ rfl (ZF _ _ _ _ _ _ ff) underlying25 rfl ZJ) rfl ?_);have gG:awayN (some gz) (.mk 0 [] tn (.slice X ta.length tc) ta (.slice none 0 0) [] [] S):=(by rw[awayN];exact ⟨hU.out.new om _ ge.out,Or.inl rfl,by rw[awayNs];trivial⟩);have di:RdN W3 (.mk 0 [] tn (.slice X ta.length tc) ta (.slice none 0 0) [] [] S):=(by rw[RdN];exact ⟨RAts.away fA go (hU.out.ta _ ge.out),RSl.nil _ 7,by rw[RdNs];trivial⟩);refine ⟨_,rfl,⟨.mk 0 [] tn (.slice X ta.length tc) ta (.slice none 0 0) [] [] S,i+1,rfl,by rw[Nc.nd,Nc.nds],RdN.grown (Yx _ gz _) _ di gG,⟨om,om⟩,rfl,(Yf _ gz G _ om).trans (by rw[show (((i+1:Nat):Int))=(i:Int)+1 by omega];exact fH),λb hb hZ=> ?_⟩,Ur go om _⟩;rw[awayN];exact ⟨hZ _ ge.out,Or.inl rfl,by rw[awayNs];trivial⟩
   |false=>
    rw[Ze (by simp)] at h5;have dr:=Kh (lt.map Tc.t) (i+1);have fp:Hid (kidsAt fin depth ⟨tk,tn,ta,false,tt,S⟩ (Nc.nds []) ((lt.map Tc.t).drop (i+1))=kidsAt fin depth ⟨tk,tn,ta,false,tt,S⟩ [] ((lt.map Tc.t).drop (i+1))):=rfl;rw[h5] at fp;have fQ:Hid (∃c,lastTxt (Nc.nds []) c/\c+txts ((lt.map Tc.t).drop (i+1))<=2*N):=⟨0,(by intro _ _ _ _ _ _ _ e;cases e),by have:=fV.out;omega⟩;have fk:BxP W3 G (.slice (some ad) lt.length lc) (i+1) 0 0:=(by unfold BxP;rw[show (((i+1:Nat):Int))=(i:Int)+1 by omega];exact fH);clear h5 dr fq;go_wp2;clear fY g6 g9 gJ b0 b1 b2 b3 f1 f2 f3 t0 t1 t2 t3 t4 t5 u0 u1 u2 u3 u4 u5 v0 v1 v2 v3 v4 v5 gN fb fH g3 g4 gV gW gH gI gR fo f4 fx df hz gQ gS;go_loopw [11] (λv wr=>∃(j:Nat) (out:List Nc) (kv:Value),i+1<=j/\j<=lt.length/\v=v/\BxP wr G (.slice (some ad) lt.length lc) j 0 0/\BxT wr bt ⟨.slice X ta.length tc,⟨tk,tn,ta,false,tt,S⟩⟩/\BxN wr bn 0 [] tn (.slice X ta.length tc) kv [] S/\HNs wr (bn+1) kv out/\BxN wr gz 0 [] [] (.slice none 0 0) (.slice none 0 0) [] 0/\w.grownBy wr (some G)/\bn+1<=wr.heap.size/\Hid (kidsAt fin depth ⟨tk,tn,ta,false,tt,S⟩ (Nc.nds out) ((lt.map Tc.t).drop j)=RA)/\Hid (∃c,lastTxt (Nc.nds out) c/\c+txts ((lt.map Tc.t).drop j)<=2*N)/\Hid (out.length<=j)/\Hid (∀r,r<bn+1->TA lt r->awayNs (some r) out)) (λ_ wr=>lt.length - (intOf ((wr.cell? ⟨G,1,none⟩).getD undef)).toNat)
    case atStart=>exact ⟨i+1,[],.slice none 0 0,Zc _,om,rfl,fk,fv,ft,HNs.nil _ _,ff,go,Nat.le_of_eq fU.out.symm,fp,fQ,Zj _,(by intro r _ _;rw[awayNs];trivial)⟩
    case round=>
     clear fk fv ft ff go fp fQ fU;obtain ⟨j,out,kv,bl,hj, -,hp,hT,gf,h4,hz,hJ,ds,hr,fK,gM,gu⟩:=hrel;obtain ⟨b0,b1,b2,b3⟩:=hp.cells;obtain ⟨KA,kc,rfl⟩:=Ym h4.row;have q0:∀d:Aft wr,d.w.cell? ⟨G,0,none⟩=some (.slice (some ad) lt.length lc):=Aft.cell b0;have q1:∀d:Aft wr,d.w.cell? ⟨G,1,none⟩=some (.int .i64 (j:Nat)):=Aft.cell b1;have gB:Hid ((intOf ((wr.cell? ⟨G,1,none⟩).getD undef)).toNat=j):=(by have:(intOf ((wr.cell? ⟨G,1,none⟩).getD undef)).toNat=j:=(by rw[b1];simp[intOf]);exact this);have Q:=hr.out;by_cases gw:j<lt.length
     focus
      obtain ⟨ba,bD,fF,gF⟩:=RTs.at (hU.out.grown hJ).row gw
      injection fF with e1 e2 e3
      injection e1 with e1
      subst e1
      clear e2 e3
      have bi:(0:Int)<=(j:Int):=om
      have bj:(j:Int)<(lt.length:Int):=om
      have fd:=ZL gw
      have gT:=RdT.form (hU.out.rd _ fd)
      have gy:=dA.out _ fd
      have dH:=gd fd
      rw[Gt gw] at Q
      have fy:=Gt gw
      obtain ⟨x,gU⟩:∃x,lt[j]=x:=⟨_,rfl⟩
      rw[gU] at gF gT gy dH Q fy
      obtain ⟨bH,⟨uk,un,ua,h0,U,D⟩⟩:=x
      obtain ⟨hV,uc,fn⟩:=gT
      dsimp only at fn gy
      subst fn
      have gZ:=gd fy
      have gb:=gd Q
      clear gU fd Q fy hr
      go_wp2
      refine rA ?_
      repeat (first|go_big_quiet_step (skip)|quiet_step (skip))
      refine Z9 ?_
      rintro _ ⟨d1,rfl⟩
      obtain ⟨W4,hB,gD⟩:∃W4,Ext wr W4/\d1.w=W4:=⟨_,d1.ext,rfl⟩
      rw[gD]
      clear gD d1 q0 q1
      obtain ⟨a0,a1,a2,a3,a4,a5⟩:=gF
      dsimp only at a0 a1 a2 a3 a4 a5
      have q0:∀d:Aft W4,d.w.cell? ⟨G,0,none⟩=some (.slice (some ad) lt.length lc):=Aft.cell (hB.cell b0)
      have q1:∀d:Aft W4,d.w.cell? ⟨G,1,none⟩=some (.int .i64 (j:Nat)):=Aft.cell (hB.cell b1)
      have r0:∀d:Aft W4,d.w.cell? (ad.add (j*6))=some (.int .i64 (uk:Nat)):=Aft.cell (hB.cell a0)
      have r1:∀d:Aft W4,d.w.cell? ⟨(ad.add (j*6)).block,(ad.add (j*6)).off+1,none⟩=some (.string (str un)):=Aft.cell (hB.cell a1)
      have r2:∀d:Aft W4,d.w.cell? ⟨(ad.add (j*6)).block,(ad.add (j*6)).off+2,none⟩=some (.slice hV ua.length uc):=Aft.cell (hB.cell a2)
      have r3:∀d:Aft W4,d.w.cell? ⟨(ad.add (j*6)).block,(ad.add (j*6)).off+3,none⟩=some (.bool h0):=Aft.cell (hB.cell a3)
      have r4:∀d:Aft W4,d.w.cell? ⟨(ad.add (j*6)).block,(ad.add (j*6)).off+4,none⟩=some (.string (str U)):=Aft.cell (hB.cell a4)
      have r5:∀d:Aft W4,d.w.cell? ⟨(ad.add (j*6)).block,(ad.add (j*6)).off+5,none⟩=some (.int .i64 (D:Nat)):=Aft.cell (hB.cell a5)
      clear a0 a1 a2 a3 a4 a5 b0 b1 b2 b3
      go_wp2
      refine KF 10 (.cells #[.int .i64 0,.string ⟨#[]⟩,.slice none 0 0,.bool false,.string ⟨#[]⟩,.int .i64 0] 111) _ (by kernel_rfl) rfl (by kernel_rfl) (λa w K h=>by go_simp;exact h) ?_
      repeat (refine GT (λK hK=> ?_);go_simp;(refine hK _ ?_;clear hK K))
      refine Ii ?_
      intro bu d f6 hI
      clear q0 q1 r0 r1 r2 r3 r4 r5
      refine Zf rfl 111 (.tmp 9) (.tmp 64) rfl bu (cellsT ⟨.slice hV ua.length uc,⟨uk,un,ua,h0,U,D⟩⟩).toArray rfl rfl _ _ hI Ye rfl (XE ⟨.slice hV ua.length uc,⟨uk,un,ua,h0,U,D⟩⟩ rfl) ?_
      have fL:Ext W4 (d.w.setRow bu (cellsT ⟨.slice hV ua.length uc,⟨uk,un,ua,h0,U,D⟩⟩).toArray):=d.ext.setRow f6 _
      have gs:BxT (d.w.setRow bu (cellsT ⟨.slice hV ua.length uc,⟨uk,un,ua,h0,U,D⟩⟩).toArray) bu ⟨.slice hV ua.length uc,⟨uk,un,ua,h0,U,D⟩⟩:=ZF _ _ _ _ _ _ hI
      obtain ⟨W5,fZ⟩:∃W5,d.w.setRow bu (cellsT ⟨.slice hV ua.length uc,⟨uk,un,ua,h0,U,D⟩⟩).toArray=W5:=⟨_,rfl⟩
      rw[fZ] at fL gs|-
      have d0:bn+1<=bu:=(by have:=hB.size;omega)
      clear fZ hI d f6
      have gk:=hB.trans fL
      replace hp:=hp.ext gk
      replace hT:=hT.ext gk
      replace gf:=gf.ext gk
      replace h4:=h4.ext gk
      replace hz:=hz.ext gk
      replace hJ:=Zp7 hJ gk
      have d6:bn+1<=W5.heap.size:=Zp ds gk.size
      have dZ:bu<W5.heap.size:=(ZP.1 gs).1
      obtain ⟨b0,b1,b2,b3⟩:=hp.cells
      obtain ⟨f1,f2,f3⟩:=hp.frozen
      obtain ⟨t0,t1,t2,t3,t4,t5, -⟩:=hT.cells
      dsimp only at t0 t1 t2 t3 t4 t5
      obtain ⟨u0,u1,u2,u3,u4,u5, -⟩:=gs.cells
      dsimp only at u0 u1 u2 u3 u4 u5
      obtain ⟨n0,n1,n2,n3,n4,n5,n6⟩:=gf.cells
      have fj:=Jg h4.row
      have gh:=gu.out G om hU.out.ta
      have bo:(j:Int)+1<=80000000000:=om
      have fA:=fS.out
      clear hB fL gk ds
      rcases gy with hk|hk|hk
     ·subst hk;have Q:=gb.out;rw[Zcp _ _ _ _ _ _ rfl,<-gZ.out] at Q;have gl:=dy.out j (depth+1) W5 om gw om (hU.out.grown hJ) hp;rw[show ((depth+1:Nat):Int)=(depth:Int)+1 by omega] at gl;have bf:(depth:Int)+1<=80000000000:=om;cases he:elemAt fin (depth+1) ((lt.map Tc.t).drop j)
      ·rename_i yc;obtain ⟨y,c⟩:=yc;have dK:=ZrI he;have be:((c:Int) !=0)=true:=(by rw[Xk];omega);rw[he] at Q gl;dsimp only at Q;subst Q;have HI:=gd gl;clear he dK gl gb
       go_wp2_with (first|(go_at_call 59;refine Za HI.out ?_;rintro e6 w6 ⟨v6,rfl,fz,hu⟩;obtain ⟨m,j6,rfl,dR,hl⟩:=fz.err;obtain ⟨mk,ms,mn,bE,ml,bF,fO,mt,ma⟩:=m;obtain ⟨⟨MA,dw,mc,gL⟩,⟨MB,dx,md,dc⟩⟩:=dR;(simp only[Nc.al,Nc.ks] at gL dc);subst gL;subst dc;simp only[cellsN];have hF:=(Ext.refl w6).alloc (.cells #[.int .i64 (mk:Nat),.string (str ms),.string (str mn),.slice MA dw mc,.slice MB dx md,.string (str mt),.int .i64 (ma:Nat)] 25);have hE:=hl.ext hF;(have gX:=(hz.grown hu (by intro e;injection e with e;omega)).ext hF);obtain ⟨y0,y1,y2,y3⟩:=hE.cells)|(refine Zf rfl 25 (.tmp 6) (.tmp 98) rfl gz _ rfl rfl _ _ gX ZJ rfl YU ?_))
       ((try simp only[Exit.inBlock,Exit.then]);refine ZD (Xe rfl _ _ _ _ _ _ _ rfl (ZF _ _ _ _ _ _ gX) underlying25 rfl ZJ) rfl ?_);exact ⟨_,rfl,⟨.mk mk ms mn (.slice MA dw mc) ml (.slice MB dx md) fO mt ma,j6,rfl,⟨⟨_,_,_,rfl⟩,⟨_,_,_,rfl⟩⟩,(Yf _ gz G _ om).trans hE⟩,Ur (Zp7 (hJ.trans hu) hF) om _⟩
      rename_i mr
      focus
       obtain ⟨m9,r9⟩:=mr
       rw[he] at Q gl
       dsimp only at Q
       have HI:=gd gl
       have HN:=gd Q
       have dz:=gd (by
        have h1:=(ZkJ he)
        exact h1:m9.kind=0)
       clear he gl gb Q
       go_wp2_with (first|(go_at_call 59;refine Za HI.out ?_;rintro e6 w6 ⟨v6,rfl,fz,hu⟩;obtain ⟨mc,j6,rfl,dd,fG,f8,dm,hl,gL⟩:=fz.ok;have de:=RdN.sl fG;obtain ⟨yk,ys,yn,bI,yl,bJ,I,yt,ya⟩:=mc;obtain ⟨⟨YA,Z,yc,du⟩,⟨YB,ha,yd,dv⟩⟩:=de;(simp only[Nc.al,Nc.ks] at du dv);subst du;subst dv;simp only[cellsN];have hF:=(Ext.refl w6).alloc (.cells #[.int .i64 (yk:Nat),.string (str ys),.string (str yn),.slice YA Z yc,.slice YB ha yd,.string (str yt),.int .i64 (ya:Nat)] 25);have hE:=hl.ext hF;obtain ⟨y0,y1,y2,y3⟩:=hE.cells))
       have gO:=hu.size
       obtain ⟨bk,g8⟩:∃g,w6.heap.size=g:=⟨_,rfl⟩
       obtain ⟨W7,gE⟩:∃W7,w6.alloc (.cells #[.int .i64 (yk:Nat),.string (str ys),.string (str yn),.slice YA Z yc,.slice YB ha yd,.string (str yt),.int .i64 (ya:Nat)] 25)=W7:=⟨_,rfl⟩
       have fW:BxN W7 bk yk ys yn (.slice YA Z yc) (.slice YB ha yd) yt ya:=(by rw[<-gE,<-g8];exact Zg w6 _)
       have fJ:W7.heap.size=bk+1:=(by rw[<-gE,Zu,g8])
       rw[gE] at hF hE
       (try rw[gE])
       (try rw[g8])
       have fu:=(gf.grown hu (by intro e;injection e with e;omega)).ext hF
       have fX:=(hT.grown hu (by intro e;injection e with e;omega)).ext hF
       have gX:=(hz.grown hu (by intro e;injection e with e;omega)).ext hF
       have gj:=(h4.but hu om gh).ext hF
       have fi:=Zp7 (hJ.trans hu) hF
       have bA:bn+1<=bk:=om
       have hC:=gd (fW.ext (Ext.refl W7))
       have gC:=gd fu
       have g1:=gd fX
       have g2:=gd gX
       have hs:=gd gj
       have g0:=gd fi
       have gp:=gd hE
       have dE:=gd (RdN.ext hF _ fG)
       have dD:=gd gL
       have fR:=gd dd
       have dF:=gd dm
       have HJ:=gd f8
       have d5:out.length<=80000000000:=(by have:=gM.out;omega)
       have gc:=gd (show 0+out.length<=maxLen by unfold maxLen;omega)
       have ga:=gd (show (0+out.length)*112<=140737488355328 by omega)
       have hH:=gd (show 0+out.length+1<=maxLen by unfold maxLen;omega)
       have hG:=gd (show (0+out.length+1)*112<=140737488355328 by omega)
       have hv:=(Ext.refl W7).drew
       have K4:=gd (hv.cell fu.cells.2.2.2.2.1)
       have d3:i+1<=j6:=om
       have dG:=gd fJ
       clear fJ gE g8 y0 y1 y2 y3 n0 n1 n2 n3 n4 n5 n6 b0 b1 b2 b3 f1 f2 f3 t0 t1 t2 t3 t4 t5 u0 u1 u2 u3 u4 u5 fW fu fX gX gj fi hE gL dd dm f8 fG hp hT gf h4 hz hJ gs gh hl hu hF
       refine rN ?_
       change wpAny _ _ _ _ _ _ _ (World.drew _)
       refine tH 1 (.pointer (some ⟨bn,4,none⟩)) ?_
       refine Ih (λL w'=>(L.getD 3 true=false->w'.cell? ⟨bn,4,none⟩=some (.slice KA out.length kc))/\BxN w' bk yk ys yn (.slice YA Z yc) (.slice YB ha yd) yt ya) ?_
       refine Ua (i:=2) (v:= .slice KA out.length kc) 3 (λw'=>w'.cell? ⟨bn,4,none⟩=some (.slice KA out.length kc)) rfl (by kernel_rfl) (λ_ _ _ h=>h) (λL w' h=>⟨λh3=>h.1 (by rw[Xu true (by decide)];exact h3),h.2⟩) (λL w' h3 h=>h.1 h3) (Or.inl ⟨by rfl,λw' hS=>by have hq:w'.cell? ⟨bn,4,none⟩=some (.slice KA out.length kc):=hS;go_simp⟩) ⟨λ_=>K4.out,hC.out.ext hv⟩ ?_
       refine Ua (i:=4) (v:= .agg #[.int .i64 (yk:Nat),.string (str ys),.string (str yn),.slice YA Z yc,.slice YB ha yd,.string (str yt),.int .i64 (ya:Nat)]) 5 (λw'=>BxN w' bk yk ys yn (.slice YA Z yc) (.slice YB ha yd) yt ya) rfl (by kernel_rfl) (λ_ _ _ h=>h) (λL w' h=>⟨λh3=>h.1 (by rw[Xu true (by decide)];exact h3),h.2⟩) (λL w' _ h=>h.2) (Or.inl ⟨by rfl,λw' hS=>by obtain ⟨s0,s1,s2,s3,s4,s5,s6⟩:=BxN.cells hS;go_simp⟩) ⟨λ_=>K4.out,hC.out.ext hv⟩ ?_
       go_simp
       have hR:=gd (Jx (w:=W7.drew) (base:=W7.heap.size) (e:=25) (size:=7) (n:=0) (cs:= []) (Zc _) rfl (by decide))
       have hD:=gd (hv.alloc (.cells #[] 25))
       refine QY (i:=0) (j:=5) rfl rfl (by kernel_rfl) (λK hK=> ?_) (λK hK=> ?_)
      focus
       go_simp
       refine hK _ _ ⟨λ_=>hD.out.cell K4.out,hC.out.ext hD.out⟩ ?_
       clear hK K
       (try go_simp)
       refine QY (i:=3) (j:=5) rfl rfl (by kernel_rfl) (λK hK=> ?_) (λK hK=> ?_)
      focus
       refine Z1 _ (by rfl) (.tmp 99) (.tmp 101) _ (by rfl) W7.heap.size 25 i0 _ 7 112 underlying23 hL hM hO hP rfl (by decide) _ 0 [] (by rfl) hR.out (.slice KA out.length kc) out.length (flatN out) (by rfl) (RNs.ext hs.out.reads hD.out) (Up hs.out.rd) gc.out ga.out (hD.out.size) ?_
       intro v9 w9 F hw gg
       have Y:Ext W7 w9:=Ext.app hD.out hw (hR.out) (Zc _)
       refine hK _ _ ⟨λh=>VO h (by kernel_rfl),hC.out.ext Y⟩ ?_
       clear hK K
       refine mS 5 λK hK=> ?_
       go_simp
       have H:=Y.alloc (.cells (cellsN (Nc.mk yk ys yn (.slice YA Z yc) yl (.slice YB ha yd) I yt ya)).toArray 25)
       refine hK _ _ ⟨λh=>VO h (by kernel_rfl),hC.out.ext H⟩ ?_
       clear hK K
       (try go_simp)
       refine mS 6 λK hK=> ?_
       refine Z1 _ (by rfl) (.tmp 102) (.tmp 104) _ (by rfl) W7.heap.size 25 i0 _ 7 112 underlying23 hL hM hO hP rfl (by decide) _ (0+out.length) ([]++flatN out) (by rfl) (F.alloc _) _ 1 (cellsN (Nc.mk yk ys yn (.slice YA Z yc) yl (.slice YB ha yd) I yt ya)) (by rfl) (Yo (w:=w9) (size:=7) (n:=1) (e:=25) (cs:=cellsN (Nc.mk yk ys yn (.slice YA Z yc) yl (.slice YB ha yd) I yt ya)) rfl (by decide)) (Xp ⟨⟨_,_,_,rfl⟩,⟨_,_,_,rfl⟩⟩) hH.out hG.out (H.size) ?_
       intro gY ho J hf hY
       have A:Ext W7 ho:=Ext.app H hf ((F.alloc _)) (Zc _)
      rotate_left
      focus
       go_simp
       have H:=hD.out.alloc (.cells (cellsN (Nc.mk yk ys yn (.slice YA Z yc) yl (.slice YB ha yd) I yt ya)).toArray 25)
       refine hK _ _ ⟨λ_=>H.cell K4.out,hC.out.ext H⟩ ?_
       clear hK K
       (try go_simp)
       refine mS 3 λK hK=> ?_
       have hQ:=hR.out.alloc (.cells (cellsN (Nc.mk yk ys yn (.slice YA Z yc) yl (.slice YB ha yd) I yt ya)).toArray 25)
       refine Z1 _ (by rfl) (.tmp 99) (.tmp 101) _ (by rfl) W7.heap.size 25 i0 _ 7 112 underlying23 hL hM hO hP rfl (by decide) _ 0 [] (by rfl) hQ (.slice KA out.length kc) out.length (flatN out) (by rfl) (RNs.ext hs.out.reads H) (Up hs.out.rd) gc.out ga.out (H.size) ?_
       intro v9 w9 F hw gg
       have Y:Ext W7 w9:=Ext.app H hw (hQ) (Zc _)
       have gm:RSl w9 7 (.slice (some ⟨W7.heap.size+1,0,none⟩) 1 1) 1 (cellsN (Nc.mk yk ys yn (.slice YA Z yc) yl (.slice YB ha yd) I yt ya)):=RSl.grown (Jb (e:=25) (fr:=(0,0)) (YS W7.drew _ _) rfl (by decide)) hw (Or.inr (by intro e;injection e with e;exact absurd e (by show W7.heap.size+1≠W7.heap.size;omega)))
       refine hK _ _ ⟨λh=>VO h (by kernel_rfl),hC.out.ext Y⟩ ?_
       clear hK K
       (try go_simp)
       refine mS 6 λK hK=> ?_
       refine Z1 _ (by rfl) (.tmp 102) (.tmp 104) _ (by rfl) W7.heap.size 25 i0 _ 7 112 underlying23 hL hM hO hP rfl (by decide) _ (0+out.length) ([]++flatN out) (by rfl) F _ 1 (cellsN (Nc.mk yk ys yn (.slice YA Z yc) yl (.slice YB ha yd) I yt ya)) (by rfl) gm (Xp ⟨⟨_,_,_,rfl⟩,⟨_,_,_,rfl⟩⟩) hH.out hG.out (Y.size) ?_
       intro gY ho J hf hY
       have A:Ext W7 ho:=Ext.app Y hf (F) (Zc _)
      rotate_left
      focus
       go_simp
       have gn:=hv.alloc (.cells (cellsN (Nc.mk yk ys yn (.slice YA Z yc) yl (.slice YB ha yd) I yt ya)).toArray 25)
       refine hK _ _ ⟨λ_=>gn.cell K4.out,hC.out.ext gn⟩ ?_
       clear hK K
       refine mS 0 λK hK=> ?_
       go_simp
       have H:=gn.alloc (.cells #[] 25)
       refine hK _ _ ⟨λ_=>H.cell K4.out,hC.out.ext H⟩ ?_
       clear hK K
       (try go_simp)
       refine mS 3 λK hK=> ?_
       have hQ:((W7.drew.alloc (.cells (cellsN (Nc.mk yk ys yn (.slice YA Z yc) yl (.slice YB ha yd) I yt ya)).toArray 25)).alloc (.cells #[] 25)).ownsRow W7.heap.size 25 7 (.slice (some ⟨W7.heap.size+1,0,none⟩) 0 0) 0 []:=by
        have h:=Jx (w:=W7.drew.alloc (.cells (cellsN (Nc.mk yk ys yn (.slice YA Z yc) yl (.slice YB ha yd) I yt ya)).toArray 25)) (base:=W7.heap.size) (e:=25) (size:=7) (n:=0) (cs:= []) (by rw[Zu];exact Yu _) rfl (by decide)
        rw[Zu] at h
        exact h
       refine Z1 _ (by rfl) (.tmp 99) (.tmp 101) _ (by rfl) W7.heap.size 25 i0 _ 7 112 underlying23 hL hM hO hP rfl (by decide) _ 0 [] (by rfl) hQ (.slice KA out.length kc) out.length (flatN out) (by rfl) (RNs.ext hs.out.reads H) (Up hs.out.rd) gc.out ga.out (H.size) ?_
       intro v9 w9 F hw gg
       have Y:Ext W7 w9:=Ext.app H hw (hQ) (Zc _)
       have gm:RSl w9 7 (.slice (some ⟨W7.heap.size,0,none⟩) 1 1) 1 (cellsN (Nc.mk yk ys yn (.slice YA Z yc) yl (.slice YB ha yd) I yt ya)):=RSl.grown ((Yo (w:=W7.drew) (size:=7) (n:=1) (e:=25) (cs:=cellsN (Nc.mk yk ys yn (.slice YA Z yc) yl (.slice YB ha yd) I yt ya)) rfl (by decide)).ext ((Ext.refl _).alloc _)) hw (Or.inr (by intro e;injection e with e;exact absurd e (by show W7.heap.size≠W7.heap.size+1;omega)))
       refine hK _ _ ⟨λh=>VO h (by kernel_rfl),hC.out.ext Y⟩ ?_
       clear hK K
       (try go_simp)
       refine mS 6 λK hK=> ?_
       refine Z1 _ (by rfl) (.tmp 102) (.tmp 104) _ (by rfl) W7.heap.size 25 i0 _ 7 112 underlying23 hL hM hO hP rfl (by decide) _ (0+out.length) ([]++flatN out) (by rfl) F _ 1 (cellsN (Nc.mk yk ys yn (.slice YA Z yc) yl (.slice YB ha yd) I yt ya)) (by rfl) gm (Xp ⟨⟨_,_,_,rfl⟩,⟨_,_,_,rfl⟩⟩) hH.out hG.out (Y.size) ?_
       intro gY ho J hf hY
       have A:Ext W7 ho:=Ext.app Y hf (F) (Zc _)
      all_goals
       refine hK _ _ ⟨λh=>VO h (by kernel_rfl),hC.out.ext A⟩ ?_
       clear hK K
       refine mS 7 λK hK=> ?_
       go_simp
       refine hK _ _ ⟨λh=>VO h (by kernel_rfl),hC.out.ext A⟩ ?_
       clear hK K
       refine mS 8 λK hK=> ?_
       rw[YI] at J
       obtain ⟨A9,c9,rfl⟩:=Ym J
       have hW:=gC.out.ext A
       obtain ⟨p0,p1,p2,p3,p4,p5,p6⟩:=hW.cells
       obtain ⟨z1,z2,z3,z4⟩:=hW.frozen
       go_simp
       refine hK _ _ ⟨λh=>VO h (by kernel_rfl),(hC.out.ext A).other om⟩ ?_
       clear hK K
       refine Zc6 (by kernel_rfl) ?_
       clear p0 p1 p2 p3 p4 p5 p6 z1 z2 z3 z4
       go_wp2
       go_roundw
       case rel=>
        have fJ:=dG.out
        have V:∀r,r<bn+1->TA lt r->awayNs (some r) (out++ [Nc.mk yk ys yn (.slice YA Z yc) yl (.slice YB ha yd) I yt ya]):=λr hr hZ=>by
         rw[Yr]
         intro y hy
         rcases Zs.1 hy with hy|hy
         ·exact (Yr _).1 (gu.out r hr hZ) y hy
         ·rw[Zo.1 hy]
          exact dD.out r om hZ
        refine ⟨j6,out++ [Nc.mk yk ys yn (.slice YA Z yc) yl (.slice YB ha yd) I yt ya],.slice A9 (out.length+1) c9,om,HJ.out.2,(by trivial),(gp.out.ext A).other om,(g1.out.ext A).other om,hW.kids _,ZgZ om A J hs.out.rd dE.out (V bn om (hU.out.new om)) om _,(g2.out.ext A).other om,KV (Zp7 g0.out A) om _ _,?_,?_,⟨0,?_,?_⟩,?_,V⟩
        ·have:=A.size
         show _<=(ho.setCell ⟨bn,4,none⟩ (.slice A9 (out.length+1) c9)).heap.size
         rw[show (ho.setCell ⟨bn,4,none⟩ (.slice A9 (out.length+1) c9)).heap.size=ho.heap.size by simp[World.setCell]]
         omega
        ·rw[JY,QK,fR.out,<-dF.out]
         exact HN.out
        ·rw[JY,QK,fR.out]
         exact Zfm dz.out 0
        ·have:=Kh (lt.map Tc.t) j6
         have:=fV.out
         omega
        ·rw[Zb]
         have h1:=gM.out
         have h2:=HJ.out.1
         show _+1<=_
         omega
       case measure=>
        have h8:=gB.out
        have h9:=(((gp.out.ext A).other (g':=bn) (j:=4) (v:= .slice A9 (out.length+1) c9) om).cells).2.1
        have bb:=HJ.out
        rw[h8,h9]
        simp[intOf]
        omega
     ·subst hk;have Q:=gb.out;rw[Zco _ _ _ _ _ _ rfl] at Q;dsimp only at Q;by_cases gx:un=tn
      ·rw[Ze (λh=>h gx)] at Q;subst Q;have dO:((str un).toList==(str tn).toList)=true:=(by rw[Jr,gx];simp);have hl:=hp.next (j+1);have hX:BxN (W5.setCell ⟨G,1,none⟩ (.int .i64 ((j+1:Nat):Int))) bn 0 [] tn (.slice X ta.length tc) (.slice KA out.length kc) [] S:=gf.other om;have hm:BxN (W5.setCell ⟨G,1,none⟩ (.int .i64 ((j+1:Nat):Int))) gz 0 [] [] (.slice none 0 0) (.slice none 0 0) [] 0:=hz.other om;have hh:=Qi hJ 1 (.int .i64 ((j+1:Nat):Int));have hc:=h4.but (Yw W5 ⟨G,1,none⟩ (.int .i64 ((j+1:Nat):Int))) (show G<bn+1 by omega) gh;rw[show ((j+1:Nat):Int)=(j:Int)+1 by omega] at hl hX hm hh hc;obtain ⟨W6,g7⟩:∃W6,W5.setCell ⟨G,1,none⟩ (.int .i64 ((j:Int)+1))=W6:=⟨_,rfl⟩;rw[g7] at hl hX hm hh hc;obtain ⟨m0,m1,m2,m3,m4,m5,m6⟩:=hX.cells;clear gx gb n0 n1 n2 n3 n4 n5 n6
       go_wp2_with (first|(refine Zf rfl 25 (.tmp 6) (.tmp 84) rfl gz _ rfl rfl _ _ hm ZJ rfl YU ?_))
       ((try simp only[Exit.inBlock,Exit.then]);refine ZD (Xe rfl _ _ _ _ _ _ _ rfl (ZF _ _ _ _ _ _ hm) underlying25 rfl ZJ) rfl ?_);have dj:RdN W6 (.mk 0 [] tn (.slice X ta.length tc) ta (.slice KA out.length kc) out [] S):=(by rw[RdN];exact ⟨RAts.away fA hh (hU.out.ta _ ge.out),RSl.of_own hc.row,hc.rd⟩);have gG:awayN (some gz) (.mk 0 [] tn (.slice X ta.length tc) ta (.slice KA out.length kc) out [] S):=(by rw[awayN];exact ⟨hU.out.new gP _ ge.out,Or.inr λe=>by have:=fj _ e;omega,gu.out gz om (hU.out.new gP)⟩);refine ⟨_,rfl,⟨.mk 0 [] tn (.slice X ta.length tc) ta (.slice KA out.length kc) out [] S,j+1,rfl,by rw[Nc.nd],RdN.grown (Yx _ gz _) _ dj gG,⟨om,om⟩,rfl,(Yf _ gz G _ om).trans (by rw[show (((j+1:Nat):Int))=(j:Int)+1 by omega];exact hl),λb hb hZ=> ?_⟩,Ur hh gP _⟩;rw[awayN];exact ⟨hZ _ ge.out,Or.inr λe=>by have:=fj _ e;omega,gu.out b om hZ⟩
      ·rw[Zi gx] at Q;subst Q;have dO:((str un).toList==(str tn).toList)=false:=(by rw[Jr];simpa using gx);have HF:=gd (λw'=>GG G (.slice (some ad) lt.length lc) j 0 0 D 14 w');clear gx gb
       go_wp2_with (first|(go_at_call 101;refine Za (HF.out _ hp) ?_;rintro e w6 ⟨rfl,hl,hu⟩;(have hm:=hz.grown hu (by intro e;injection e with e;omega)))|(refine Zf rfl 25 (.tmp 6) (.tmp 76) rfl gz _ rfl rfl _ _ hm ZJ rfl YU ?_))
       ((try simp only[Exit.inBlock,Exit.then]);refine ZD (Xe rfl _ _ _ _ _ _ _ rfl (ZF _ _ _ _ _ _ hm) underlying25 rfl ZJ) rfl ?_);exact ⟨_,rfl,⟨.mk 0 [] [] (.slice none 0 0) [] (.slice none 0 0) [] [] 0,j,rfl,⟨⟨_,_,_,rfl⟩,⟨_,_,_,rfl⟩⟩,(Yf _ gz G _ om).trans hl⟩,Ur (hJ.trans hu) gP _⟩
     subst hk;have Q:=gb.out;rw[ZaO _ _ _ _ _ _ rfl] at Q;dsimp only at Q;have HN:=gd Q;have hl:=hp.next (j+1);have hX:BxN (W5.setCell ⟨G,1,none⟩ (.int .i64 ((j+1:Nat):Int))) bn 0 [] tn (.slice X ta.length tc) (.slice KA out.length kc) [] S:=gf.other om;have hm:BxN (W5.setCell ⟨G,1,none⟩ (.int .i64 ((j+1:Nat):Int))) gz 0 [] [] (.slice none 0 0) (.slice none 0 0) [] 0:=hz.other om;have gr:BxT (W5.setCell ⟨G,1,none⟩ (.int .i64 ((j+1:Nat):Int))) bt ⟨.slice X ta.length tc,⟨tk,tn,ta,false,tt,S⟩⟩:=hT.other om;have gt:BxT (W5.setCell ⟨G,1,none⟩ (.int .i64 ((j+1:Nat):Int))) bu ⟨.slice hV ua.length uc,⟨3,un,ua,h0,U,D⟩⟩:=gs.other om;have hh:=Qi hJ 1 (.int .i64 ((j+1:Nat):Int));have hc:=h4.but (Yw W5 ⟨G,1,none⟩ (.int .i64 ((j+1:Nat):Int))) (show G<bn+1 by omega) gh;have gO:(W5.setCell ⟨G,1,none⟩ (.int .i64 ((j+1:Nat):Int))).heap.size=W5.heap.size:=(by simp[World.setCell]);rw[show ((j+1:Nat):Int)=(j:Int)+1 by omega] at hl hX hm hh hc gr gt gO;obtain ⟨W6,g7⟩:∃W6,W5.setCell ⟨G,1,none⟩ (.int .i64 ((j:Int)+1))=W6:=⟨_,rfl⟩;rw[g7] at hl hX hm hh hc gr gt gO;have d7:bn+1<=W6.heap.size:=om;have dY:bu<W6.heap.size:=om;have d9:=gd gO;obtain ⟨m0,m1,m2,m3,m4,m5,m6⟩:=hX.cells;obtain ⟨x0,x1,x2,x3,x4,x5, -⟩:=gt.cells;dsimp only at x0 x1 x2 x3 x4 x5;have hE:BxP W6 G (.slice (some ad) lt.length lc) (j+1) 0 0:=(by unfold BxP;rw[show (((j+1:Nat):Int))=(j:Int)+1 by omega];exact hl);have br:out.length<=80000000000:=(by have:=gM.out;omega);clear gb Q n0 n1 n2 n3 n4 n5 n6 gO;rcases List.eq_nil_or_concat out with R|⟨o1,y,R⟩
     focus
      have f9:out.length=0:=(by rw[R];rfl)
      have fE:(out.length:Int)=0:=om
      have V:Nc.nds (out++ [Nc.mk 1 [] [] (.slice none 0 0) [] (.slice none 0 0) [] U D])=addText (Nc.nds out) U D:=by
       rw[JY,QK,R]
       rfl
      have gA:=gd V
      have fh:=gd f9
      clear V R f9
      have gC:=gd hX
      have g1:=gd gr
      have g2:=gd hm
      have hs:=gd hc
      have g0:=gd hh
      have gp:=gd hE
      have ht:=gd gt
      have gc:=gd (show 0+out.length<=maxLen by unfold maxLen;omega)
      have ga:=gd (show (0+out.length)*112<=140737488355328 by omega)
      have hH:=gd (show 0+out.length+1<=maxLen by unfold maxLen;omega)
      have hG:=gd (show (0+out.length+1)*112<=140737488355328 by omega)
      go_wp2
     rotate_left
     have bq:0<out.length:=(by rw[R];simp);have da:out.length - 1<out.length:=om;have fN:out[out.length - 1]=y:=(by simp[R]);obtain ⟨ko,bC,gi,gK⟩:=RNs.at hc.reads da;injection gi with e1 e2 e3;subst e1;clear e2 e3;rw[fN] at gK;obtain ⟨q,hq⟩:∃q,out.length=q+1:=⟨out.length - 1,om⟩;have dg:out.length - 1=q:=om;rw[dg] at gK;have dh:(out.length:Int)=(q:Int)+1:=om;have HQ:=gd hq;clear hq dg;by_cases fe:y.kind=1
     ·have dT:((y.kind:Int)==1)=true:=(by rw[JI];omega);obtain ⟨kg,dV,gi,fB,fD⟩:=Zjj hc.row;have hA:ko.add (q*7)=⟨kg,q*7,none⟩:=(by rw[gi];exact ZbB _ _);rw[hA] at gK;obtain ⟨k0, -, -, -, -,k5, -⟩:=gK;dsimp only at k5;have dS:y.text.length+U.length<=160000000000:=(by obtain ⟨c,h1,h2⟩:=fK.out;rw[gZ.out,JN] at h2;have h3:=ZiY (x:=y) h1 (by rw[R,List.concat_eq_append];exact ⟨_,rfl⟩) fe;dsimp only at h2;omega);have bc:¬9223372036854775807<y.text.length+U.length:=om;have bx:(str y.text).size<=160000000000:=(by rw[YN];omega);have bz:(str U).size<=160000000000:=(by rw[YN];omega);have dN:W6.frozen? ⟨kg,q*7+5,none⟩=false:=Z5 fD _;have q4:∀d:Aft W6,d.w.cell? ⟨bn,4,none⟩=some (.slice (some ko) out.length kc):=Aft.cell m4;have q5:∀d:Aft W6,d.w.cell? ⟨kg,q*7+5,none⟩=some (.string (str y.text)):=Aft.cell k5;have q6:∀d:Aft W6,d.w.cell? ⟨bu,4,none⟩=some (.string (str U)):=Aft.cell x4;have dB:=gd fD;have fP:=gd fB;have dC:=gd gi;have fh:=gd R;have d8:=gd k5;clear dS dN R fD gi fN da;go_wp2;have bv:(0:Int)<=(q:Int):=om;have bw:(q:Int)<(out.length:Int):=om;clear dh m0 m1 m2 m3 m4 m5 m6 x0 x1 x2 x3 x4 x5 b0 b1 b2 b3 f1 f2 f3 t0 t1 t2 t3 t4 t5 u0 u1 u2 u3 u4 u5 k0 k5;refine Zdc 9 (by kernel_rfl) (by kernel_rfl) ?_
      repeat (refine GT (λK hK=> ?_);go_simp;(refine hK _ ?_;clear hK K))
      refine Ii ?_;intro d;have hv:=d.ext;have z5:=q5 d;have zf:d.w.frozen? ⟨kg,q*7+5,none⟩=false:=Z5 (hv.heap dB.out) _;clear q4 q5 q6;go_wp2;have h7:=gd hv;clear z5 zf;go_roundw
      case rel=>
       have gi:=dC.out;have R:out=o1++ [y]:=(by rw[fh.out,List.concat_eq_append]);have fl:q=o1.length:=(by have h1:=HQ.out;rw[R,Zb,V8] at h1;omega);have dQ:q<out.length:=(by have:=HQ.out;omega);have dU:out[q]=y:=(by subst fl;simp[R]);have dq:out.set q (y.more U)=o1++ [y.more U]:=(by subst fl;rw[R];simp);have V:Nc.nds (out.set q (y.more U))=addText (Nc.nds out) U D:=(by rw[dq,R];exact Ze0 fe U D);have gj:=hc.ext h7.out;rw[gi] at gj;have fB:=fP.out;rw[ZnO];refine ⟨j+1,out.set q (y.more U),.slice (some ⟨kg,0,none⟩) out.length kc,om,om,(by trivial),(hE.ext h7.out).other om,(gr.ext h7.out).other om,?_,HNs.text gj rfl dQ dU U,(hm.ext h7.out).other om,KV (Zp7 hh h7.out) om _ _,?_,?_,?_,?_,?_⟩
       ·have h1:=hX.ext h7.out;rw[gi] at h1;exact h1.other om
       ·have:=h7.out.size;rw[show (d.w.setCell ⟨kg,q*7+5,none⟩ (.string (str (y.text++U)))).heap.size=d.w.heap.size by simp[World.setCell]];omega
       ·rw[V];exact HN.out
       ·obtain ⟨c,h1,h2⟩:=fK.out;rw[gZ.out,JN] at h2;exact ⟨c+U.length,by rw[V];exact In h1,by dsimp only at h2;omega⟩
       ·rw[Jt];have h1:=gM.out;exact gd om
       ·exact gd (λr hr hZ=>by
         rw[Yr];have h1:=(Yr _).1 (gu.out r hr hZ);intro x hx;rcases List.mem_or_eq_of_mem_set hx with hx|rfl
         ·exact h1 x hx
         ·exact Zeq U (h1 y (by rw[R];simp)))
      case measure=>have h8:=gB.out;have fB:=fP.out;have h9:=(((hE.ext h7.out).other (g':=kg) (j:=q*7+5) (v:= .string (str y.text++str U)) om).cells).2.1;rw[h8,h9];simp[intOf];omega
     focus
      have dT:((y.kind:Int)==1)=false:=(by rw[Zv];omega)
      have V:Nc.nds (out++ [Nc.mk 1 [] [] (.slice none 0 0) [] (.slice none 0 0) [] U D])=addText (Nc.nds out) U D:=by
       rw[JY,QK]
       unfold addText
       split
       ·rename_i s nm al kk u b hg
        rw[R,List.concat_eq_append,JY,QK,XG] at hg
        simp only[X7,Option.or] at hg
        injection hg with hg
        have h9:=Zfr y
        rw[hg] at h9
        exact absurd h9.symm fe
       ·rfl
      have gA:=gd V
      have bp:=gK.c0
      clear V R fN fe
      have gC:=gd hX
      have g1:=gd gr
      have g2:=gd hm
      have hs:=gd hc
      have g0:=gd hh
      have gp:=gd hE
      have ht:=gd gt
      have gc:=gd (show 0+out.length<=maxLen by unfold maxLen;omega)
      have ga:=gd (show (0+out.length)*112<=140737488355328 by omega)
      have hH:=gd (show 0+out.length+1<=maxLen by unfold maxLen;omega)
      have hG:=gd (show (0+out.length+1)*112<=140737488355328 by omega)
      go_wp2
      generalize (some ko)=KA at*
     rotate_left
     ·have dM:j=lt.length:=om;subst dM;rw[ZC (by rw[Zq];exact Zc _),ZiV] at Q;subst Q;have bs:¬(lt.length:Int)<(lt.length:Int):=om;have HF:=gd (λw' dP=>GG G (.slice (some ad) lt.length lc) lt.length 0 0 fin 8 w' dP);clear hr gw;go_wp2;refine rA ?_
      repeat (first|go_big_quiet_step (skip)|quiet_step (skip))
      refine Z9 ?_;rintro _ ⟨d1,rfl⟩;obtain ⟨W4,hB,gD⟩:∃W4,Ext wr W4/\d1.w=W4:=⟨_,d1.ext,rfl⟩;rw[gD];clear gD d1 q0 q1 b0 b1 b2 b3;have fI:=hp.ext hB;have fg:=hz.ext hB
      go_wp2_with (first|(go_at_call 101;refine Za (HF.out _ fI) ?_;rintro e w6 ⟨rfl,hl,hu⟩;(have hm:=fg.grown hu (by intro e;injection e with e;omega)))|(refine Zf rfl 25 (.tmp 6) (.tmp 154) rfl gz _ rfl rfl _ _ hm ZJ rfl YU ?_))
      ((try simp only[Exit.inBlock,Exit.then]);refine ZD (Xe rfl _ _ _ _ _ _ _ rfl (ZF _ _ _ _ _ _ hm) underlying25 rfl ZJ) rfl ?_);exact ⟨_,rfl,⟨.mk 0 [] [] (.slice none 0 0) [] (.slice none 0 0) [] [] 0,lt.length,rfl,⟨⟨_,_,_,rfl⟩,⟨_,_,_,rfl⟩⟩,(Yf _ gz G _ om).trans hl⟩,Ur ((Zp7 hJ hB).trans hu) gP _⟩
     all_goals
      (try clear fE)
      (try clear dh)
      have hv:=(Ext.refl W6).drew
      have K4:=gd (hv.cell gC.out.cells.2.2.2.2.1)
      clear hE hl gr gt hm hc hh hX g7 hp hT gf h4 hz hJ gs gh m0 m1 m2 m3 m4 m5 m6 x0 x1 x2 x3 x4 x5 b0 b1 b2 b3 f1 f2 f3 t0 t1 t2 t3 t4 t5 u0 u1 u2 u3 u4 u5
      refine rN ?_
      change wpAny _ _ _ _ _ _ _ (World.drew _)
      refine tH 1 (.pointer (some ⟨bn,4,none⟩)) ?_
      refine tH 4 (.pointer (some ⟨bu,4,none⟩)) ?_
      refine tH 6 (.pointer (some ⟨bu,5,none⟩)) ?_
      refine Ih (λL w'=>(L.getD 3 true=false->w'.cell? ⟨bn,4,none⟩=some (.slice KA out.length kc))/\BxT w' bu ⟨.slice hV ua.length uc,⟨3,un,ua,h0,U,D⟩⟩) ?_
      refine Ua (i:=2) (v:= .slice KA out.length kc) 3 (λw'=>w'.cell? ⟨bn,4,none⟩=some (.slice KA out.length kc)) rfl (by kernel_rfl) (λ_ _ _ h=>h) (λL w' h=>⟨λh3=>h.1 (by rw[Xu true (by decide)];exact h3),h.2⟩) (λL w' h3 h=>h.1 h3) (Or.inl ⟨by rfl,λw' hS=>by have hq:w'.cell? ⟨bn,4,none⟩=some (.slice KA out.length kc):=hS;go_simp⟩) ⟨λ_=>K4.out,ht.out.ext hv⟩ ?_
      refine Ua (i:=5) (v:= .string (str U)) 8 (λw'=>BxT w' bu ⟨.slice hV ua.length uc,⟨3,un,ua,h0,U,D⟩⟩) rfl (by kernel_rfl) (λ_ _ _ h=>h) (λL w' h=>⟨λh3=>h.1 (by rw[Xu true (by decide)];exact h3),h.2⟩) (λL w' _ h=>h.2) (Or.inl ⟨by rfl,λw' hS=>by have hq:=(BxT.cells hS).2.2.2.2.1;dsimp only at hq;go_simp⟩) ⟨λ_=>K4.out,ht.out.ext hv⟩ ?_
      refine Ua (i:=7) (v:= .int .i64 (D:Nat)) 8 (λw'=>BxT w' bu ⟨.slice hV ua.length uc,⟨3,un,ua,h0,U,D⟩⟩) rfl (by kernel_rfl) (λ_ _ _ h=>h) (λL w' h=>⟨λh3=>h.1 (by rw[Xu true (by decide)];exact h3),h.2⟩) (λL w' _ h=>h.2) (Or.inl ⟨by rfl,λw' hS=>by have hq:=(BxT.cells hS).2.2.2.2.2.1;dsimp only at hq;go_simp⟩) ⟨λ_=>K4.out,ht.out.ext hv⟩ ?_
      refine Ua (i:=8) (v:= .agg #[.int .i64 1,.string ⟨#[]⟩,.string ⟨#[]⟩,.slice none 0 0,.slice none 0 0,.string (str U),.int .i64 (D:Nat)]) 9 (λ_=>True) rfl (by kernel_rfl) (λ_ _ _ h=>h) (λL w' h=>⟨λh3=>h.1 (by rw[Xu true (by decide)];exact h3),h.2⟩) (λL w' _ h=>trivial) (Or.inl ⟨by rfl,λw' hS=>by go_simp⟩) ⟨λ_=>K4.out,ht.out.ext hv⟩ ?_
      go_simp
      have hR:=gd (Jx (w:=W6.drew) (base:=W6.heap.size) (e:=25) (size:=7) (n:=0) (cs:= []) (Zc _) rfl (by decide))
      have hD:=gd (hv.alloc (.cells #[] 25))
      refine QY (i:=0) (j:=9) rfl rfl (by kernel_rfl) (λK hK=> ?_) (λK hK=> ?_)
      focus
       go_simp
       refine hK _ _ ⟨λ_=>hD.out.cell K4.out,ht.out.ext hD.out⟩ ?_
       clear hK K
       (try go_simp)
       refine QY (i:=3) (j:=9) rfl rfl (by kernel_rfl) (λK hK=> ?_) (λK hK=> ?_)
      focus
       refine Z1 _ (by rfl) (.tmp 140) (.tmp 142) _ (by rfl) W6.heap.size 25 i0 _ 7 112 underlying23 hL hM hO hP rfl (by decide) _ 0 [] (by rfl) hR.out (.slice KA out.length kc) out.length (flatN out) (by rfl) (RNs.ext hs.out.reads hD.out) (Up hs.out.rd) gc.out ga.out (hD.out.size) ?_
       intro v9 w9 F hw gg
       have Y:Ext W6 w9:=Ext.app hD.out hw (hR.out) (Zc _)
       refine hK _ _ ⟨λh=>VO h (by kernel_rfl),ht.out.ext Y⟩ ?_
       clear hK K
       refine mS 9 λK hK=> ?_
       go_simp
       have H:=Y.alloc (.cells (cellsN (Nc.mk 1 [] [] (.slice none 0 0) [] (.slice none 0 0) [] U D)).toArray 25)
       refine hK _ _ ⟨λh=>VO h (by kernel_rfl),ht.out.ext H⟩ ?_
       clear hK K
       (try go_simp)
       refine mS 10 λK hK=> ?_
       refine Z1 _ (by rfl) (.tmp 143) (.tmp 149) _ (by rfl) W6.heap.size 25 i0 _ 7 112 underlying23 hL hM hO hP rfl (by decide) _ (0+out.length) ([]++flatN out) (by rfl) (F.alloc _) _ 1 (cellsN (Nc.mk 1 [] [] (.slice none 0 0) [] (.slice none 0 0) [] U D)) (by rfl) (Yo (w:=w9) (size:=7) (n:=1) (e:=25) (cs:=cellsN (Nc.mk 1 [] [] (.slice none 0 0) [] (.slice none 0 0) [] U D)) rfl (by decide)) (Xp ⟨⟨_,_,_,rfl⟩,⟨_,_,_,rfl⟩⟩) hH.out hG.out (H.size) ?_
       intro gY ho J hf hY
       have A:Ext W6 ho:=Ext.app H hf ((F.alloc _)) (Zc _)
      rotate_left
      focus
       go_simp
       have H:=hD.out.alloc (.cells (cellsN (Nc.mk 1 [] [] (.slice none 0 0) [] (.slice none 0 0) [] U D)).toArray 25)
       refine hK _ _ ⟨λ_=>H.cell K4.out,ht.out.ext H⟩ ?_
       clear hK K
       (try go_simp)
       refine mS 3 λK hK=> ?_
       have hQ:=hR.out.alloc (.cells (cellsN (Nc.mk 1 [] [] (.slice none 0 0) [] (.slice none 0 0) [] U D)).toArray 25)
       refine Z1 _ (by rfl) (.tmp 140) (.tmp 142) _ (by rfl) W6.heap.size 25 i0 _ 7 112 underlying23 hL hM hO hP rfl (by decide) _ 0 [] (by rfl) hQ (.slice KA out.length kc) out.length (flatN out) (by rfl) (RNs.ext hs.out.reads H) (Up hs.out.rd) gc.out ga.out (H.size) ?_
       intro v9 w9 F hw gg
       have Y:Ext W6 w9:=Ext.app H hw (hQ) (Zc _)
       have gm:RSl w9 7 (.slice (some ⟨W6.heap.size+1,0,none⟩) 1 1) 1 (cellsN (Nc.mk 1 [] [] (.slice none 0 0) [] (.slice none 0 0) [] U D)):=RSl.grown (Jb (e:=25) (fr:=(0,0)) (YS W6.drew _ _) rfl (by decide)) hw (Or.inr (by intro e;injection e with e;exact absurd e (by show W6.heap.size+1≠W6.heap.size;omega)))
       refine hK _ _ ⟨λh=>VO h (by kernel_rfl),ht.out.ext Y⟩ ?_
       clear hK K
       (try go_simp)
       refine mS 10 λK hK=> ?_
       refine Z1 _ (by rfl) (.tmp 143) (.tmp 149) _ (by rfl) W6.heap.size 25 i0 _ 7 112 underlying23 hL hM hO hP rfl (by decide) _ (0+out.length) ([]++flatN out) (by rfl) F _ 1 (cellsN (Nc.mk 1 [] [] (.slice none 0 0) [] (.slice none 0 0) [] U D)) (by rfl) gm (Xp ⟨⟨_,_,_,rfl⟩,⟨_,_,_,rfl⟩⟩) hH.out hG.out (Y.size) ?_
       intro gY ho J hf hY
       have A:Ext W6 ho:=Ext.app Y hf (F) (Zc _)
      rotate_left
      focus
       go_simp
       have gn:=hv.alloc (.cells (cellsN (Nc.mk 1 [] [] (.slice none 0 0) [] (.slice none 0 0) [] U D)).toArray 25)
       refine hK _ _ ⟨λ_=>gn.cell K4.out,ht.out.ext gn⟩ ?_
       clear hK K
       refine mS 0 λK hK=> ?_
       go_simp
       have H:=gn.alloc (.cells #[] 25)
       refine hK _ _ ⟨λ_=>H.cell K4.out,ht.out.ext H⟩ ?_
       clear hK K
       (try go_simp)
       refine mS 3 λK hK=> ?_
       have hQ:((W6.drew.alloc (.cells (cellsN (Nc.mk 1 [] [] (.slice none 0 0) [] (.slice none 0 0) [] U D)).toArray 25)).alloc (.cells #[] 25)).ownsRow W6.heap.size 25 7 (.slice (some ⟨W6.heap.size+1,0,none⟩) 0 0) 0 []:=by
        have h:=Jx (w:=W6.drew.alloc (.cells (cellsN (Nc.mk 1 [] [] (.slice none 0 0) [] (.slice none 0 0) [] U D)).toArray 25)) (base:=W6.heap.size) (e:=25) (size:=7) (n:=0) (cs:= []) (by rw[Zu];exact Yu _) rfl (by decide)
        rw[Zu] at h
        exact h
       refine Z1 _ (by rfl) (.tmp 140) (.tmp 142) _ (by rfl) W6.heap.size 25 i0 _ 7 112 underlying23 hL hM hO hP rfl (by decide) _ 0 [] (by rfl) hQ (.slice KA out.length kc) out.length (flatN out) (by rfl) (RNs.ext hs.out.reads H) (Up hs.out.rd) gc.out ga.out (H.size) ?_
       intro v9 w9 F hw gg
       have Y:Ext W6 w9:=Ext.app H hw (hQ) (Zc _)
       have gm:RSl w9 7 (.slice (some ⟨W6.heap.size,0,none⟩) 1 1) 1 (cellsN (Nc.mk 1 [] [] (.slice none 0 0) [] (.slice none 0 0) [] U D)):=RSl.grown ((Yo (w:=W6.drew) (size:=7) (n:=1) (e:=25) (cs:=cellsN (Nc.mk 1 [] [] (.slice none 0 0) [] (.slice none 0 0) [] U D)) rfl (by decide)).ext ((Ext.refl _).alloc _)) hw (Or.inr (by intro e;injection e with e;exact absurd e (by show W6.heap.size≠W6.heap.size+1;omega)))
       refine hK _ _ ⟨λh=>VO h (by kernel_rfl),ht.out.ext Y⟩ ?_
       clear hK K
       (try go_simp)
       refine mS 10 λK hK=> ?_
       refine Z1 _ (by rfl) (.tmp 143) (.tmp 149) _ (by rfl) W6.heap.size 25 i0 _ 7 112 underlying23 hL hM hO hP rfl (by decide) _ (0+out.length) ([]++flatN out) (by rfl) F _ 1 (cellsN (Nc.mk 1 [] [] (.slice none 0 0) [] (.slice none 0 0) [] U D)) (by rfl) gm (Xp ⟨⟨_,_,_,rfl⟩,⟨_,_,_,rfl⟩⟩) hH.out hG.out (Y.size) ?_
       intro gY ho J hf hY
       have A:Ext W6 ho:=Ext.app Y hf (F) (Zc _)
      all_goals
       refine hK _ _ ⟨λh=>VO h (by kernel_rfl),ht.out.ext A⟩ ?_
       clear hK K
       refine mS 11 λK hK=> ?_
       go_simp
       refine hK _ _ ⟨λh=>VO h (by kernel_rfl),ht.out.ext A⟩ ?_
       clear hK K
       refine mS 12 λK hK=> ?_
       rw[YI] at J
       obtain ⟨A9,c9,rfl⟩:=Ym J
       have hW:=gC.out.ext A
       obtain ⟨p0,p1,p2,p3,p4,p5,p6⟩:=hW.cells
       obtain ⟨z1,z2,z3,z4⟩:=hW.frozen
       go_simp
       refine hK _ _ ⟨λh=>VO h (by kernel_rfl),(ht.out.ext A).other om⟩ ?_
       clear hK K
       refine Zc6 (by kernel_rfl) ?_
       clear p0 p1 p2 p3 p4 p5 p6 z1 z2 z3 z4
       go_wp2
       go_roundw
       case rel=>
        have dk:RdN W6 (Nc.mk 1 [] [] (.slice none 0 0) [] (.slice none 0 0) [] U D):=(by rw[RdN];exact ⟨RAts.nil _,RSl.nil _ 7,by rw[RdNs];trivial⟩)
        have f0:∀r,awayN (some r) (Nc.mk 1 [] [] (.slice none 0 0) [] (.slice none 0 0) [] U D):=λr=>(by rw[awayN];exact ⟨Or.inl rfl,Or.inl rfl,by rw[awayNs];trivial⟩)
        have V:∀r,r<bn+1->TA lt r->awayNs (some r) (out++ [Nc.mk 1 [] [] (.slice none 0 0) [] (.slice none 0 0) [] U D]):=λr hr hZ=>by
         rw[Yr]
         intro y hy
         rcases Zs.1 hy with hy|hy
         ·exact (Yr _).1 (gu.out r hr hZ) y hy
         ·rw[Zo.1 hy]
          exact f0 r
        refine ⟨j+1,out++ [Nc.mk 1 [] [] (.slice none 0 0) [] (.slice none 0 0) [] U D],.slice A9 (out.length+1) c9,om,om,(by trivial),(gp.out.ext A).other om,(g1.out.ext A).other om,hW.kids _,ZgZ om A J hs.out.rd dk (V bn om (hU.out.new om)) om _,(g2.out.ext A).other om,KV (Zp7 g0.out A) om _ _,?_,?_,?_,?_,V⟩
        ·have:=A.size
         show _<=(ho.setCell ⟨bn,4,none⟩ (.slice A9 (out.length+1) c9)).heap.size
         rw[show (ho.setCell ⟨bn,4,none⟩ (.slice A9 (out.length+1) c9)).heap.size=ho.heap.size by simp[World.setCell]]
         omega
        ·rw[gA.out]
         exact HN.out
        ·obtain ⟨c,h1,h2⟩:=fK.out
         rw[gZ.out,JN] at h2
         exact ⟨c+U.length,by rw[gA.out];exact In h1,by dsimp only at h2;omega⟩
        ·rw[Zb]
         have h1:=gM.out
         show _+1<=_
         omega
       case measure=>
        have h8:=gB.out
        have h9:=(((gp.out.ext A).other (g':=bn) (j:=4) (v:= .slice A9 (out.length+1) c9) om).cells).2.1
        rw[h8,h9]
        simp[intOf]
        omega
end
end Go.Proofs.YtnlafkgkcnenfaaGreatDoor
