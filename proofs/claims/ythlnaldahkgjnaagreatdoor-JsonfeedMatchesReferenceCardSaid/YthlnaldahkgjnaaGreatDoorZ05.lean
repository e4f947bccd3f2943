/- Parts of the proof: contracts and plain laws. -/
import Derived.Test.YthlnaldahkgjnaaGreatDoorZ04
namespace Go.Proofs.YthlnaldahkgjnaaGreatDoor
open Go Go.RowKit _root_.Go.Proofs.Tryz
set_option linter.unusedVariables false
set_option linter.unusedSimpArgs false
set_option maxRecDepth 100000
set_option maxHeartbeats 16000000
theorem ZaR:(prog.info? 25).map (λi=>(i.zero,i.size,i.bytes))=some (some (.agg #[.int .i64 0,.bool false,.int .i64 0,.string ⟨#[]⟩,.slice none 0 0,.slice none 0 0,.int .i64 0]),7,96):=by kernel_rfl
theorem Ea (v:Value) (n:Nat) (xs:List Value) (w:World) (h:RSl w 7 v n xs) (V:∀u∈xs,u.oneCell'=true) (C:n*96<=140737488355328):
 Calls prog 100 #[v] w λe w'=>∃v',e= .returned v'/\w'.ownsRow w.heap.size 25 7 v' n xs/\Ext w w':=by
 obtain ⟨i0,Y,O,Q,R⟩:=Yr ZaR;obtain ⟨Z,A,c,rfl,F,I,X,H⟩:=id h;have D:Hid ((0+n)*96<=140737488355328):=by rw[Yf];exact C
 have K:0+n<=maxLen:=by rw[Yf];exact Zl F I
 clear C;have hq:∀(w:World) (a:Option Addr) (n c S G:Nat),(binOp .eql 22 (.slice a n c) (.slice none S G)).run prog w= .ok (.bool a.isNone) w:=λw a n c S G=>Lib.run_eql_slice_nil w _ _ a n c S G underlying22;cases A with
 |none=>have hn:n=0:=Nat.le_zero.1 (X rfl▸F);subst hn;have hx:xs= []:=ZI (by rw[Z]);subst hx;go_enter func100,ntmps100;go_wp2;go_ret;exact ⟨_,rfl,Yc _ _ _ _,Ext.refl _⟩
 |some ad=>
  go_enter func100,ntmps100
  go_wp2_with (at_builtin;refine Zq _ rfl (.tmp 5) (.tmp 6) _ rfl w.heap.size 25 i0 _ 7 96 underlying22 Y O Q R rfl (by decide) _ _ [] rfl (JC (cs:= []) (Zd _) rfl (by decide)) _ n xs rfl (h.ext ((Ext.refl w).alloc _)) V K D.out ((Ext.refl w).alloc _).size ?_;intro v1 w2 j J U)
  go_ret;rw[Yf] at j;exact ⟨v1,rfl,j,((Ext.refl w).alloc _).app J (JC (cs:= []) (size:=7) (n:=0) (Zd _) rfl (by decide)) (Zd _)⟩
theorem ZaQ:(prog.info? 9).map (λi=>(i.zero,i.size,i.bytes))=some (some (.string ⟨#[]⟩),1,16):=by kernel_rfl
theorem Zc1 (v:Value) (n:Nat) (xs:List Value) (w:World) (h:RSl w 1 v n xs) (V:∀u∈xs,u.oneCell'=true) (C:n*16<=140737488355328):
 Calls prog 73 #[v] w λe w'=>∃v',e= .returned v'/\w'.ownsRow w.heap.size 9 1 v' n xs/\Ext w w':=by
 obtain ⟨i0,Y,O,Q,R⟩:=Yr ZaQ;obtain ⟨Z,A,c,rfl,F,I,X,H⟩:=id h;have D:Hid ((0+n)*16<=140737488355328):=by rw[Yf];exact C
 have K:0+n<=maxLen:=by rw[Yf];exact Zl F I
 clear C;have hq:∀(w:World) (a:Option Addr) (n c S G:Nat),(binOp .eql 29 (.slice a n c) (.slice none S G)).run prog w= .ok (.bool a.isNone) w:=λw a n c S G=>Lib.run_eql_slice_nil w _ _ a n c S G underlying29;cases A with
 |none=>have hn:n=0:=Nat.le_zero.1 (X rfl▸F);subst hn;have hx:xs= []:=ZI (by rw[Z]);subst hx;go_enter func73,ntmps73;go_wp2;go_ret;exact ⟨_,rfl,Yc _ _ _ _,Ext.refl _⟩
 |some ad=>
  go_enter func73,ntmps73
  go_wp2_with (at_builtin;refine Zq _ rfl (.tmp 5) (.tmp 6) _ rfl w.heap.size 9 i0 _ 1 16 underlying29 Y O Q R rfl (by decide) _ _ [] rfl (JC (cs:= []) (Zd _) rfl (by decide)) _ n xs rfl (h.ext ((Ext.refl w).alloc _)) V K D.out ((Ext.refl w).alloc _).size ?_;intro v1 w2 j J U)
  go_ret;rw[Yf] at j;exact ⟨v1,rfl,j,((Ext.refl w).alloc _).app J (JC (cs:= []) (size:=1) (n:=0) (Zd _) rfl (by decide)) (Zd _)⟩
theorem ZbT:(prog.info? 64).map (λi=>(i.zero,i.size,i.bytes))=some (some (.agg #[.string ⟨#[]⟩,.string ⟨#[]⟩,.string ⟨#[]⟩,.string ⟨#[]⟩,.int .i64 0]),5,72):=by kernel_rfl
theorem KR (j:JV) (cs:List Value) (w:World) (h:RV w j cs) (F:jok j) (V:Env w) (Q:(jtext j).length<=140737488355328):
 Calls prog 56 #[.agg cs.toArray] w λe w'=>e= .returned (.tuple #[.string (jwrite j).1,.int .i64 ((jwrite j).2:Nat)])/\Ext w w':=by
 have D:=gd (λw' (I:Ext w w')=>ZbX j cs w' (h.ext I) F (V.ext I));obtain ⟨n,h⟩:=h;obtain ⟨x0,x1,x2,x3,x4,x5,x6,y4,y5,y6,x7,hc⟩:=h.shape;subst hc;by_cases G:jvalid j 1=true
 ·have C:jwrite j=(str (jtext j),0):=by rw[jwrite,Zi G]
  have H:=gd (λw0 w' (I:Ext w w0) B b bs (S:Ext w0 w') Y Z O R=>Is n j _ w0 w' B b bs 1 (h.ext I) F G (V.ext I) S Y Z O R);rw[Zi G] at D;have X:=gd Q;rw[C];clear G C Q h F;go_enter func56,ntmps56
  go_wp2_with (first|(go_at_call 103;refine (D.out _ ((Ext.refl w).alloc _)).mono ?_;rintro e w1 ⟨rfl,A⟩;(have ha:=((Ext.refl w1).alloc (.cells #[.pointer none,.slice none 0 0] 161)).cell (A.boxed 0 _ rfl));(have hb:=((Ext.refl w1).alloc (.cells #[.pointer none,.slice none 0 0] 161)).cell (A.boxed 1 _ rfl));(have hd:=((Ext.refl w1).alloc (.cells #[.pointer none,.slice none 0 0] 161)).cell (A.boxed 2 _ rfl));(have he:=((Ext.refl w1).alloc (.cells #[.pointer none,.slice none 0 0] 161)).cell (A.boxed 3 _ rfl));(have hf:=((Ext.refl w1).alloc (.cells #[.pointer none,.slice none 0 0] 161)).cell (A.boxed 4 _ rfl));(have hg:=((Ext.refl w1).alloc (.cells #[.pointer none,.slice none 0 0] 161)).cell (A.boxed 5 _ rfl));(have hh:=((Ext.refl w1).alloc (.cells #[.pointer none,.slice none 0 0] 161)).cell (A.boxed 6 _ rfl)))|(go_at_call 104;refine (H.out w1 _ (((Ext.refl w).alloc _).trans A) w1.heap.size w1.heap.size [] ((Ext.refl w1).alloc _) (Zd _) (Lib.fresh_isBuilder _ _ _) ((Ext.refl w1).alloc _).size (by simpa using X.out)).mono ?_;rintro e w2 ⟨rfl,K,J⟩)|(go_at_call 70;refine (Vf Xv _ _ _ _ K (Zl ((Ext.refl w1).alloc _).size J.size)).mono ?_;rintro e w3 ⟨rfl,U⟩))
  go_ret2
  exact ⟨rfl,(((Ext.refl w).alloc _).trans A).then (Xb ((((Ext.refl w1).alloc _).then J).then U) (((Ext.refl w).alloc _).trans A).size)⟩
 ·have C:jwrite j=(⟨#[]⟩,22):=by rw[jwrite,Zf G]
  rw[Zf G] at D;rw[C];clear G C Q h F;go_enter func56,ntmps56
  go_wp2_with (go_at_call 103;refine (D.out _ ((Ext.refl w).alloc _)).mono ?_;rintro e w1 ⟨rfl,A⟩)
  go_ret2
  exact ⟨rfl,((Ext.refl w).alloc _).trans A⟩
theorem GO (s:ByteArray) (w:World):
 Calls prog 99 #[.string s] w λe w'=>e= .returned (.agg (vcells 3 false 0 s (.slice none 0 0) 0).toArray)/\Ext w w':=by
 go_enter func99,ntmps99;go_wp2;((try simp only[Exit.inBlock,Exit.then]);refine Zm (Zz rfl _ _ _ _ _ _ _ rfl (Zh _ _) underlying25 rfl rfl) rfl ?_);exact ⟨rfl,(Ext.refl w).alloc _⟩
theorem Ze4 (x:Int) (w:World):
 Calls prog 191 #[.int .i64 x] w λe w'=>e= .returned (.agg (vcells 2 false x ⟨#[]⟩ (.slice none 0 0) 0).toArray)/\Ext w w':=by
 go_enter func191,ntmps191;go_wp2;((try simp only[Exit.inBlock,Exit.then]);refine Zm (Zz rfl _ _ _ _ _ _ _ rfl (Zh _ _) underlying25 rfl rfl) rfl ?_);exact ⟨rfl,(Ext.refl w).alloc _⟩
theorem Vc {k:Int} {b:Bool} {n:Int} {s:ByteArray} {A:Option Addr} {m c:Nat} {a:Int}:∀u∈vcells k b n s (.slice A m c) a,u.oneCell'=true:=by
 intro u h;simp[vcells] at h;rcases h with rfl|rfl|rfl|rfl|rfl|rfl|rfl<;>rfl
theorem RVn.one {w:World} {n:Nat} {j:JV} {cs:List Value} (h:RVn n w j cs):∀u∈cs,u.oneCell'=true:=by
 obtain ⟨C,D,F,G,H,I,J,O,Q,R,K,rfl⟩:=h.shape;intro u A;simp at A;rcases A with rfl|rfl|rfl|rfl|rfl|rfl|rfl<;>rfl
theorem QV {css:List (List Value)} (h:∀c∈css,∀u∈c,u.oneCell'=true):∀u∈css.flatten,u.oneCell'=true:=by
 intro u j;obtain ⟨c,A,j⟩:=List.mem_flatten.1 j;exact h c A u j
def RVs (w:World) (v:Value) (l:List JV) (css:List (List Value)):Prop:=css.length=l.length/\RSl w 7 v l.length css.flatten/\∃n,∀(i:Nat) (j:JV) (c:List Value),l[i]? =some j->css[i]? =some c->RVn n w j c
theorem Yv:(prog.info? 25).map (λi=>i.size)=some 7:=by kernel_rfl
theorem ZcB {cs:List Value} (h:∀u∈cs,u.oneCell'=true):cs.toArray.all (λu=>u.oneCell')=true:=by simpa using h
theorem ZbV (v:Value) (l:List JV) (css:List (List Value)) (w:World) (h:RVs w v l css) (C:l.length*96<=140737488355328):
 Calls prog 53 #[v] w λe w'=>∃cs,e= .returned (.agg cs.toArray)/\RV w' (.arr l) cs/\Ext w w':=by
 obtain ⟨S,Y,n,G⟩:=h;have D:∀u∈css.flatten,u.oneCell'=true:=QV λc R=>by obtain ⟨i,V,rfl⟩:=List.mem_iff_getElem.1 R;exact (G i l[i] css[i] (Zc (by omega)) (Zc V)).one
 have U:=gd (λw' (Z:Ext w w')=>Ea v l.length css.flatten w' (Y.ext Z) D C);have O:=gd G;clear G D C;go_enter func53,ntmps53
 go_wp2_with (first|(go_at_call 100;refine (U.out _ ((Ext.refl w).alloc _)).mono ?_;rintro e w1 ⟨v',rfl,F,I⟩;(obtain ⟨_,K,Q,rfl,_⟩:=id (RSl.of_own F));(have H:=I.heap (Zh w _)))|(refine Zg rfl 25 (.tmp 2) (.tmp 5) rfl w.heap.size _ rfl rfl _ _ H Yv rfl (ZcB (Vc (k:=4) (b:=false) (n:=0) (s:=⟨#[]⟩) (A:=K) (m:=l.length) (c:=Q) (a:=0))) ?_))
 ((try simp only[Exit.inBlock,Exit.then]);refine Zm (Zz rfl _ _ _ _ _ _ _ rfl (Zk _ _ _ _ _ _ H) underlying25 rfl Yv) rfl ?_);have J:Ext w (w1.setRow w.heap.size #[Value.int .i64 4,.bool false,.int .i64 0,.string ⟨#[]⟩,.slice K l.length Q,.slice none 0 0,.int .i64 0]):=(((Ext.refl w).alloc _).trans I).setRow (Zd _) _;exact ⟨vcells 4 false 0 ⟨#[]⟩ (.slice K l.length Q) 0,rfl,⟨n+1,0,_,css,rfl,S,RSl.of_own (X7 F (by show w.heap.size<(w.heap.push _).size;simp) _),λi j c X R=>(O.out i j c X R).ext J⟩,J⟩
theorem Jh:∃i0,prog.info? 25=some i0/\i0.zero=some (.agg #[.int .i64 0,.bool false,.int .i64 0,.string ⟨#[]⟩,.slice none 0 0,.slice none 0 0,.int .i64 0])/\i0.size=7/\i0.bytes=96:=Yr ZaR
def strCells (s:ByteArray):List Value:=vcells 3 false 0 s (.slice none 0 0) 0
theorem GC (v:Value) (l:List ByteArray) (w:World) (h:RSl w 1 v l.length (l.map Value.string)) (G:l.length*96<=1407374883553):
 Calls prog 190 #[v] w λe w'=>∃v',e= .returned v'/\w'.ownsRow w.heap.size 25 7 v' l.length (l.map strCells).flatten/\Ext w w':=by
 obtain ⟨_,A,c,rfl,Y,I,_,_⟩:=id h;obtain ⟨i0,V,hg,hh,hi⟩:=Jh;go_enter func190,ntmps190;go_wp2;go_loopw [3,8] (λv i wr=>∃k:Nat,k<=l.length/\i= .int .i64 k/\wr.ownsRow w.heap.size 25 7 v k ((l.take k).map strCells).flatten/\Ext w wr) (λ_ i _=>l.length - (intOf i).toNat)
 case atStart=>exact ⟨0,Zt _,rfl,Yc _ _ _ _,Ext.refl _⟩
 case round=>
  obtain ⟨k,hk,rfl,j,O⟩:=hrel;by_cases F:k<l.length
  ·obtain ⟨ad,rfl,R⟩:=(h.ext O).at1 k (.string l[k]) (by rw[ZT,Zc F];rfl);have K:wrap64 ((k:Int)+1)=((k+1:Nat):Int):=(by rw[maxLen] at I;rw[Xn _ ⟨by omega,by omega⟩];rfl);have hd:=Zo (Value.int .i64) K;have ha:l.length - (intOf (Value.int IntKind.i64 (wrap64 ((k:Int)+1)))).toNat<l.length - (intOf (Value.int IntKind.i64 (k:Int))).toNat:=(by rw[K];exact Nat.sub_lt_sub_left F (YY k));have J:k+1<=l.length:=F;have Q:Hid ((k+1)*96<=140737488355328):=(by unfold Hid;omega);have Z:Hid (k+1<=maxLen):=Zl J (Zl Y I);have hc:((l.take k).map strCells).flatten++strCells l[k]=((l.take (k+1)).map strCells).flatten:=(by rw[Zy F,Yp,J8];simp);clear G
   go_wp2_with (first|(go_at_call 99;refine (GO _ _).mono ?_;rintro e w1 ⟨S,H⟩;(replace S:e= .returned (.agg #[.int .i64 3,.bool false,.int .i64 0,.string l[k],.slice none 0 0,.slice none 0 0,.int .i64 0]):=S);subst S;(have C:=Yw j H);(have hb:=Zl O.size H.size))|(at_builtin;refine Zq _ rfl (.tmp 12) (.tmp 15) _ rfl w.heap.size 25 i0 _ 7 96 underlying22 V hg hh hi rfl (by decide) _ _ _ rfl (C.alloc _) _ 1 (strCells l[k]) rfl (ZY rfl (by decide)) Vc Z.out Q.out ?cb ?_;(case cb=>exact Zl hb ((Ext.refl w1).alloc _).size);intro v1 w2 D U hj))
   have hf:Ext w w2:=((O.trans H).alloc _).app U (C.alloc _) (Zd _);rw[hc] at D;go_roundw
   case rel=>exact ⟨k+1,J,hd,D,hf⟩
   case measure=>exact ha
  ·have X:k=l.length:=(by omega);subst X;rw[ZC (Zd _)] at j;clear G;go_wp2;go_ret;exact ⟨_,rfl,j,O⟩
theorem Jm (w:World) (s:ByteArray):RVn 1 w (.str s) (strCells s):=⟨0,rfl⟩
def intCells (x:Int):List Value:=vcells 2 false x ⟨#[]⟩ (.slice none 0 0) 0
theorem E5 (w:World) (x:Int):RVn 1 w (.int x) (intCells x):=⟨0,rfl⟩
theorem Ext.setBoth {B:Nat} {a b:World} (h:Below B a b) (p:Addr) (v:Value):Below B (a.setCell p v) (b.setCell p v):=by
 refine ⟨h.os,h.tape,h.output,?_,λk j=> ?_⟩
 ·simpa [World.setCell] using h.size
 ·simp only[World.setCell,YZ,h.block k j]
def setS (w:World):List (Addr×ByteArray)->World
 | []=>w
 |p::t=>setS (w.setCell p.1 (.string p.2)) t
theorem EK:∀(l:List (Addr×ByteArray)) (w:World) (p:Addr×ByteArray),setS w (l++ [p])=(setS w l).setCell p.1 (.string p.2)
 | [],_,_=>rfl
 |q::t,w,p=>EK t (w.setCell q.1 (.string q.2)) p
theorem VQ:∀(l:List (Addr×ByteArray)) (w:World),(setS w l).heap.size=w.heap.size
 | [],_=>rfl
 |p::t,w=>by rw[setS,VQ t];simp[World.setCell]
theorem VB:∀(l:List (Addr×ByteArray)) (w:World) (a:Addr),(setS w l).frozen? a=w.frozen? a
 | [],_,_=>rfl
 |p::t,w,a=>by rw[setS,VB t,XG]
theorem Uy:∀(l:List (Addr×ByteArray)) (w:World) (a:Addr),(∀p∈l,p.1≠a)->(setS w l).cell? a=w.cell? a
 | [],_,_,_=>rfl
 |p::t,w,a,h=>by rw[setS,Uy t _ a (λq j=>h q (by simp[j])),YL w p.1 a _ (h p (by simp))]
structure Ptrs (w:World) (v:Value) (ps:List (Addr×ByteArray)):Prop where
 row:RSl w 1 v ps.length (ps.map λp=>Value.pointer (some p.1))
 cells:∀p∈ps,w.cell? p.1=some (.string p.2)/\w.frozen? p.1=false
 size:∀p∈ps,p.2.size<=16777216
 apart:ps.Pairwise λp q=>p.1≠q.1
theorem Kh {w:World} {B:Nat} {a:Addr} {v:Value} {w':World} (h:Below B w w') (A:w.heap.size<=B) (j:w.cell? a=some v):w'.cell? a=some v:=
 (Below.cell h (Z3 (YS w a j) A)).trans j
theorem X4 (v:Value) (ps:List (Addr×ByteArray)) (w:World) (hE:Env w) (h:Ptrs w v ps):
 Calls prog 74 #[v] w λe w'=>e= .returned (.int .i64 (firstErr (ps.map (·.2)):Nat))/\
  ((firstErr (ps.map (·.2))=0/\Below w.heap.size (setS w (ps.map λp=>(p.1,collapse p.2))) w')\/(firstErr (ps.map (·.2))≠0/\Ext w w')):=by
 obtain ⟨I,D,hs,ht⟩:=h;obtain ⟨_,A,c,rfl,hr,hi,_,_⟩:=id I;have hy:ps.length<=9223372036854775807:=Zl hr hi;clear hr hi;obtain ⟨E,Q⟩:∃E,firstErr (ps.map (·.2))=E:=⟨_,rfl⟩;rw[Q];go_enter func74,ntmps74;go_wp2;go_loopw [11] (λi wr=>∃k:Nat,k<=ps.length/\i= .int .i64 k/\Hid (E=firstErr ((ps.map (·.2)).drop k))/\Ext w wr) (λi _=>ps.length - (intOf i).toNat)
 case atStart=>exact ⟨0,Zt _,rfl,Q.symm,Ext.refl _⟩
 case round=>
  obtain ⟨k,hk,rfl,hf,hx⟩:=hrel;by_cases C:k<ps.length
  ·obtain ⟨ad,rfl,G⟩:=(I.ext hx).at1 k (.pointer (some ps[k].1)) (by rw[ZT,Zc C];rfl);have J:=hx.cell (D ps[k] (ZO C)).1;have R:=VV (l:=ps.map (·.2)) (k:=k) (by rw[ZS];exact C);rw[List.getElem_map] at R;have HC:=gd (UO ps[k].2 wr (hE.ext hx) (by have:=hs ps[k] (ZO C);unfold maxLen;omega));obtain ⟨O,hO⟩:∃O,(checkS ps[k].2).1=O:=⟨_,rfl⟩;obtain ⟨K,hK⟩:∃K,(checkS ps[k].2).2=K:=⟨_,rfl⟩;obtain ⟨S,hS⟩:∃S,ps[k].2=S:=⟨_,rfl⟩;obtain ⟨a,ha⟩:∃a,ps[k].1=a:=⟨_,rfl⟩;rw[hK] at R;rw[hO,hK,hS] at HC;rw[hS,ha] at J;rw[ha] at G;have F:=hf.out.trans R;clear R hf hO hK hS ha Q;by_cases h0:K=0
   ·subst h0;rw[Zi rfl] at F;have HF:=gd F;clear F
    go_wp2_with (first|(go_at_call 66;refine (HC.out).mono ?_;rintro e w' ⟨rfl,hg⟩))
    go_roundw
    case rel=>exact ⟨k+1,C,by go_num,HF.out,hx.trans hg⟩
    case measure=>simp[intOf];omega
   ·have X:((K:Int) !=0)=true:=(by simp;omega);rw[Zf h0] at F;subst F;have hn:(E=0/\Below w.heap.size (setS w (ps.map λp=>(p.1,collapse p.2))) w)\/E≠0:=Or.inr h0;clear hn;have H0:=gd h0;clear h0
    go_wp2_with (first|(go_at_call 66;refine (HC.out).mono ?_;rintro e w' ⟨rfl,hg⟩))
    go_ret;exact ⟨rfl,Or.inr ⟨H0.out,hx.trans hg⟩⟩
  ·have hc:k=ps.length:=(by omega);have F:=hf.out;rw[ZB (by rw[ZS];omega)] at F;have hm:E=0:=F;subst hm;subst hc;clear F C hf Q hk;obtain ⟨wo,rfl⟩:∃wo:World,wo=wr:=⟨_,rfl⟩;go_wp2;go_loopw [28] (λi w2=>∃k:Nat,k<=ps.length/\i= .int .i64 k/\Below w.heap.size (setS w ((ps.take k).map λp=>(p.1,collapse p.2))) w2/\w.heap.size<=w2.heap.size) (λi _=>ps.length - (intOf i).toNat)
   case atStart=>exact ⟨0,Zt _,rfl,hx,hx.size⟩
   case round=>
    obtain ⟨k,hk,rfl,X,hz⟩:=hrel;by_cases C:k<ps.length
    ·obtain ⟨Y,H⟩:∃Y,setS w ((ps.take k).map λp=>(p.1,collapse p.2))=Y:=⟨_,rfl⟩;have V:Y.heap.size=w.heap.size:=(by rw[<-H,VQ]);obtain ⟨ad,rfl,Z⟩:=I.at1 k (.pointer (some ps[k].1)) (by rw[ZT,Zc C];rfl);have hd:=D ps[k] (ZO C);have he:Y.cell? ps[k].1=some (.string ps[k].2):=(by rw[<-H,Uy,hd.1];intro p hp;obtain ⟨q,hq,rfl⟩:=Yq.1 hp;obtain ⟨j,hj,rfl⟩:=List.mem_take_iff_getElem.1 hq;exact Xj.1 ht j k (by omega) C (by omega));have hl:Y.frozen? ps[k].1=false:=(by rw[<-H,VB];exact hd.2);have hh:Y.cell? (ad.add k)=some (.pointer (some ps[k].1)):=(by rw[<-H,Uy,Z];intro p hp e;obtain ⟨q,hq,rfl⟩:=Yq.1 hp;have:=(D q (Zhr hq)).1;simp only at e;rw[e,Z] at this;cases this);have hB:ps[k].1.block<w.heap.size:=(by have:=YS Y _ he;omega);rw[H] at X;have G:=Kh X (Nat.le_of_eq V) hh;have J:=Kh X (Nat.le_of_eq V) he;have ho:wr.frozen? ps[k].1=false:=(XP X hB).trans hl;have HT:Hid (setS w ((ps.take (k+1)).map λp=>(p.1,collapse p.2))=Y.setCell ps[k].1 (.string (collapse ps[k].2))):=(by show _=_;rw[Zy C,Yp,Ym,Y6,EK,H]);have HC:=gd (Xc ps[k].2 wr (by have:=hs ps[k] (ZO C);omega));have HZ:=gd hz;have hw:=gd V;clear hz V hd he hl hh Z H;obtain ⟨a,ha⟩:∃a,ps[k].1=a:=⟨_,rfl⟩;obtain ⟨S,hS⟩:∃S,ps[k].2=S:=⟨_,rfl⟩;rw[ha] at G J ho HT hB;rw[hS] at J HT HC;clear ha hS
     go_wp2_with (first|(go_at_call 30;refine (HC.out).mono ?_;rintro e w3 ⟨rfl,U⟩;(have hv:=U.cell J);(have hu:=(XP U (Z3 hB HZ.out)).trans ho)))
     go_roundw
     case rel=>exact ⟨k+1,C,by go_num,by rw[HT.out];exact Ext.setBoth (X.trans (Xb U HZ.out)) _ _,by have:=U.size;have:=HZ.out;simp[World.setCell];omega⟩
     case measure=>simp[intOf];omega
    ·have hc:k=ps.length:=(by omega);subst hc;rw[ZC (Zd _)] at X;clear C hk;go_wp2;go_ret;exact ⟨rfl,X⟩
theorem Vy (x y:ByteArray) (w:World):
 Calls prog 87 #[.string x,.string y] w λe w'=>e= .returned (.int .i64 (sCmp x y))/\w'=w:=by
 have j:sCmp x y=if Op.bytesLess x.toList y.toList=true then -1 else if (Op.bytesLess x.toList y.toList||x.toList==y.toList)=true then 0 else 1:=by
  unfold sCmp;by_cases h:Op.bytesLess x.toList y.toList=true
  ·rw[Zi h,Zi h]
  ·rw[Zf h,Zf h];simp only[Bool.not_eq_true] at h;simp[h]
 rw[j];clear j;go_enter func87,ntmps87;go_wp2
 all_goals go_ret
 all_goals exact ⟨by simp_all,rfl⟩
theorem Qr (t:Int) (w:World):
 Calls prog 76 #[.int .i64 t] w λe w'=>e= .returned (.bool (inT t))/\w=w':=by
 unfold inT;go_enter func76,ntmps76;go_wp2
 all_goals go_ret
 all_goals exact ⟨by simp_all<;>omega,rfl⟩
theorem Zbl (a b:Ent) (w:World):
 Calls prog 61 #[.agg (eCells a).toArray,.agg (eCells b).toArray] w λe w'=>e= .returned (.int .i64 (entCmp a b))/\Ext w w':=by
 have K:=gd (λw'=>Vy a.id b.id w');have j:entCmp a b=if b.upd<a.upd then -1 else if a.upd<b.upd then 1 else sCmp a.id b.id:=by
  unfold entCmp iCmp;by_cases h:b.upd<a.upd
  ·simp[h]
  ·by_cases k:a.upd<b.upd
   ·simp[h,k]
   ·simp[h,k]
 rw[j];clear j;obtain ⟨O,D,G,A,I⟩:=a;obtain ⟨Q,F,H,C,J⟩:=b;unfold eCells;go_enter func61,ntmps61
 go_wp2_with (go_at_call 87;refine (K.out _).mono ?_;rintro e w1 ⟨rfl,rfl⟩)
 all_goals go_ret
 all_goals exact ⟨by simp_all,((Ext.refl _).alloc _).alloc _⟩
theorem Vh (v:Value) (l:List ByteArray) (w:World) (h:RSl w 1 v l.length (l.map Value.string)) (hs:∀s∈l,s.size<=16777216):
 Calls prog 83 #[v] w λe w'=>e= .returned (.int .i64 (firstErr l:Nat))/\Ext w w':=by
 obtain ⟨_,A,c,rfl,Q,I,_,_⟩:=id h;have hc:l.length<=9223372036854775807:=Zl Q I;clear Q I;obtain ⟨E,C⟩:∃E,firstErr l=E:=⟨_,rfl⟩;rw[C];go_enter func83,ntmps83;go_wp2;go_loopw [3] (λi wr=>∃k:Nat,k<=l.length/\i= .int .i64 k/\Hid (E=firstErr (l.drop k))/\Ext w wr) (λi _=>l.length - (intOf i).toNat)
 case atStart=>exact ⟨0,Zt _,rfl,C.symm,Ext.refl _⟩
 case round=>
  obtain ⟨k,hk,rfl,R,U⟩:=hrel;by_cases D:k<l.length
  ·obtain ⟨ad,rfl,F⟩:=(h.ext U).at1 k (.string l[k]) (by rw[ZT,Zc D];rfl);have G:=VV (l:=l) (k:=k) D;have V:=gd (Ga l[k] wr (by have:=hs l[k] (ZO D);unfold maxLen;omega));obtain ⟨O,Z⟩:∃O,(checkS l[k]).1=O:=⟨_,rfl⟩;obtain ⟨K,hK⟩:∃K,(checkS l[k]).2=K:=⟨_,rfl⟩;obtain ⟨S,Y⟩:∃S,l[k]=S:=⟨_,rfl⟩;rw[hK] at G;rw[Z,hK,Y] at V;rw[Y] at F;have j:=R.out.trans G;clear G R Z hK Y C;by_cases X:K=0
   ·subst X;rw[Zi rfl] at j;have HF:=gd j;clear j
    go_wp2_with (first|(go_at_call 79;refine (V.out).mono ?_;rintro e w' ⟨rfl,H⟩))
    go_roundw
    case rel=>exact ⟨k+1,D,by go_num,HF.out,U.trans H⟩
    case measure=>simp[intOf];omega
   ·have hb:((K:Int) !=0)=true:=(by simp;omega);rw[Zf X] at j;subst j;clear X
    go_wp2_with (first|(go_at_call 79;refine (V.out).mono ?_;rintro e w' ⟨rfl,H⟩))
    go_ret;exact ⟨rfl,U.trans H⟩
  ·have ha:k=l.length:=(by omega);have j:=R.out;rw[ZB (by omega)] at j;have J:E=0:=j;subst J;clear j R C;go_wp2;go_ret;exact ⟨rfl,U⟩
def eokS (e:Ent):Prop:=e.id.size<=16777216/\e.title.size<=16777216/\e.link.size<=16777216/\e.content.size<=16777216
theorem Zp (w:World) (o:Obj):(w.alloc o).heap.size=w.heap.size+1:=by show (w.heap.push o).size=_;simp
theorem Ext.boxedF {w w':World} {cs:Array Value} {t:TypeId} (h:Ext (w.alloc (.cells cs t)) w') (i:Nat):w'.frozen? ⟨w.heap.size,i,none⟩=false:=
 ZH (h.heap (Zh w _)) i
theorem IL (w:World) (cs:Array Value) (t:TypeId) (fr:Nat×Nat) (i:Nat) (v:Value) (A:i<cs.size):(w.alloc (.cells cs t fr)).setCell ⟨w.heap.size,i,none⟩ v=w.alloc (.cells (cs.setIfInBounds i v) t fr):=by
 simp only[World.setCell,World.alloc]
 congr 1
 apply Array.ext_getElem?;intro k;rw[YZ];by_cases j:w.heap.size=k
 ·subst j;simp
 ·rw[Zf j];rcases Nat.lt_or_gt_of_ne j with h|h
  ·rw[Xh (by simp;omega),Xh (by simp;omega)]
  ·rw[Array.getElem?_push_lt h,Array.getElem?_push_lt h]
theorem Jl (w:World) (cs:Array Value) (t:TypeId) (fr:Nat×Nat) (B C:Obj) (i:Nat) (v:Value) (A:i<cs.size):
 (((w.alloc (.cells cs t fr)).alloc B).alloc C).setCell ⟨w.heap.size,i,none⟩ v=((w.alloc (.cells (cs.setIfInBounds i v) t fr)).alloc B).alloc C:=by
 have j:∀(W:World) (O:Obj) (p:Addr) (u:Value),p.block<W.heap.size->(W.alloc O).setCell p u=(W.setCell p u).alloc O:=by
  intro W O p u D;simp only[World.setCell,World.alloc]
  congr 1
  apply Array.ext_getElem?;intro k;rw[YZ];rcases Nat.lt_trichotomy k W.heap.size with h|h|h
  ·rw[Array.getElem?_push_lt h,Array.getElem?_push_lt (by simpa using h)];simp[Array.getElem_modify];split<;>simp
  ·subst h;have:¬p.block=W.heap.size:=(by omega);have e1:(W.heap.push O)[W.heap.size]? =some O:=(by simp);have e2:∀f:Obj->Obj,((W.heap.modify p.block f).push O)[W.heap.size]? =some O:=by
    intro f;have:=Array.getElem?_push_size (xs:=W.heap.modify p.block f) (x:=O)
    rwa [Array.size_modify] at this
   rw[Zf this,e1,e2]
  ·rw[Xh (by simp;omega),Xh (by simp;omega)];split<;>rfl
 rw[j _ C _ _ (by simp;omega),j _ B _ _ (by simp),IL _ _ _ _ _ _ A]
theorem YJ {w:World} {A:Array Value} {t:TypeId} {fr:Nat×Nat} {B C:Obj} (d:Aft (((w.alloc (.cells A t fr)).alloc B).alloc C)) (i:Nat) (v:Value) (h:A[i]? =some v):d.w.cell? ⟨w.heap.size,i,none⟩=some v:=
 Ext.boxed (((Ext.refl _).alloc B).alloc C|>.trans d.ext) i v h
theorem Jz {w:World} {B:Array Value} {t:TypeId} {fr:Nat×Nat} {A C:Obj} (d:Aft (((w.alloc A).alloc (.cells B t fr)).alloc C)) (i:Nat) (v:Value) (j:B[i]? =some v):d.w.cell? ⟨w.heap.size+1,i,none⟩=some v:=by
 have h:=Ext.boxed (w:=w.alloc A) (((Ext.refl _).alloc C).trans d.ext) i v j
 rwa [Zp] at h
theorem Zd2 (w:World) (a0 h c0 j a b c d:ByteArray) (x:Value) (t:TypeId) (fr:Nat×Nat) (B C:Obj):
 setS (((w.alloc (.cells #[.string a0,.string h,.string c0,.string j,x] t fr)).alloc B).alloc C) [(⟨w.heap.size,0,none⟩,a),(⟨w.heap.size,1,none⟩,b),(⟨w.heap.size,2,none⟩,c),(⟨w.heap.size,3,none⟩,d)]
  =((w.alloc (.cells #[.string a,.string b,.string c,.string d,x] t fr)).alloc B).alloc C:=by
 simp only[setS];rw[Jl _ _ _ _ _ _ _ _ (by simp),Jl _ _ _ _ _ _ _ _ (by simp),Jl _ _ _ _ _ _ _ _ (by simp),Jl _ _ _ _ _ _ _ _ (by simp)];rfl
theorem ZW {P:Program} {C:Func} {p u:Tmp} {A:TypeId} (h:C.results=#[.cell p A,.tmp u]) (j:Array Value) (w:World) (g:Nat) (t:TypeId) (cs:Array Value) (fr:Nat×Nat) (d:TypeDesc)
 (H:j.getD p undef= .pointer (some ⟨g,0,none⟩)) (F:w.heap[g]? =some (.cells cs t fr))
 (I:P.underlying A=some d) (D:(match d with| .struct _| .array _ _=>true|_=>false)=true) (G:(P.info? A).map (·.size)=some cs.size):
 (results C j).run P w= .ok (.tuple #[.agg cs,j.getD u undef]) w:=by
 rw[results_cell_tmp h,H];simp[asAddr,run_loadVar_row w g t A cs fr d F I D G]
theorem UD {cs:List Value} (h:∀u∈cs,u.oneCell'=true):cs.toArray.all (λu=>u.oneCell')=true:=by simpa using h
theorem Z7:(prog.info? 64).map (λi=>i.size)=some 5:=by kernel_rfl
theorem Z1 (e:Ent):∀u∈eCells e,u.oneCell'=true:=by
 intro u h;simp[eCells] at h;rcases h with rfl|rfl|rfl|rfl|rfl<;>rfl
theorem Gt {w w1:World} {A B C:Obj} (j:Ext (((w.alloc A).alloc B).alloc C) w1):w1.heap[w.heap.size+1]? =some B:=by
 have h:(((w.alloc A).alloc B).alloc C).heap[w.heap.size+1]? =some B:=by
  rw[Below.heap_alloc _ _ _ (by simp)];have:=Zh (w.alloc A) B
  rwa [Zp] at this
 exact j.heap h
abbrev entW (w:World) (e:Ent):World:=((w.alloc (.cells (eCells e).toArray 64)).alloc (.cells (eCells zeroE).toArray 64)).alloc (.cells #[.pointer (some ⟨w.heap.size,0,none⟩),.pointer (some ⟨w.heap.size,1,none⟩),.pointer (some ⟨w.heap.size,2,none⟩),.pointer (some ⟨w.heap.size,3,none⟩)] 129)
theorem Ek (w:World) (e:Ent) (A:eokS e):Ptrs (entW w e) (.slice (some ⟨w.heap.size+1+1,0,none⟩) 4 4) [(⟨w.heap.size,0,none⟩,e.id),(⟨w.heap.size,1,none⟩,e.title),(⟨w.heap.size,2,none⟩,e.link),(⟨w.heap.size,3,none⟩,e.content)]:=by
 obtain ⟨C,D,F,G⟩:=A;refine ⟨UT (e:=129) (fr:=(0,0)) (cs:= [_,_,_,_]) (Xl w _ _ _) rfl (by decide),?_,?_,?_⟩
 ·have h:Ext (w.alloc (.cells (eCells e).toArray 64)) (entW w e):=((Ext.refl _).alloc _).alloc _;intro p j;simp only[ZG,YD,YK] at j;rcases j with rfl|rfl|rfl|rfl
  ·exact ⟨h.boxed 0 _ rfl,h.boxedF 0⟩
  ·exact ⟨h.boxed 1 _ rfl,h.boxedF 1⟩
  ·exact ⟨h.boxed 2 _ rfl,h.boxedF 2⟩
  ·exact ⟨h.boxed 3 _ rfl,h.boxedF 3⟩
 ·intro p j;simp only[ZG,YD,YK] at j;rcases j with rfl|rfl|rfl|rfl<;>assumption
 ·simp
theorem ZaC (e:Ent) (w:World) (C:Env w) (D:eokS e) (j:firstErr (strsE e)≠0):
 Calls prog 74 #[.slice (some ⟨w.heap.size+1+1,0,none⟩) 4 4] (entW w e) λx w'=>x= .returned (.int .i64 (firstErr (strsE e):Nat))/\Ext (entW w e) w':=by
 refine (X4 _ _ _ (((C.alloc _).alloc _).alloc _) (Ek w e D)).mono ?_;rintro x w' ⟨A,h⟩;refine ⟨A,?_⟩;rcases h with h|h
 ·exact absurd h.1 j
 ·exact h.2
theorem ZbI (e:Ent) (w:World) (H:Env w) (I:eokS e) (F:firstErr (strsE e)=0):
 Calls prog 74 #[.slice (some ⟨w.heap.size+1+1,0,none⟩) 4 4] (entW w e) λx w'=>x= .returned (.int .i64 0)/\Ext (entW w (collE e)) w':=by
 refine (X4 _ _ _ (((H.alloc _).alloc _).alloc _) (Ek w e I)).mono ?_;rintro x w' ⟨C,h⟩;have j:firstErr (List.map (·.2) [((⟨w.heap.size,0,none⟩:Addr),e.id),(⟨w.heap.size,1,none⟩,e.title),(⟨w.heap.size,2,none⟩,e.link),(⟨w.heap.size,3,none⟩,e.content)])=0:=F;rw[j] at C h;refine ⟨C,?_⟩;rcases h with h|h
 ·have G:=h.2;have e1:=Zd2 w e.id e.title e.link e.content (collapse e.id) (collapse e.title) (collapse e.link) (collapse e.content) (.int .i64 e.upd) 64 (0,0) (.cells (eCells zeroE).toArray 64) (.cells #[.pointer (some ⟨w.heap.size,0,none⟩),.pointer (some ⟨w.heap.size,1,none⟩),.pointer (some ⟨w.heap.size,2,none⟩),.pointer (some ⟨w.heap.size,3,none⟩)] 129);have D:Below (entW w e).heap.size (entW w (collE e)) w':=by have A:=G;simp only[Ym,Y6] at A;rw[show setS (entW w e) _=entW w (collE e) from e1] at A;exact A
  have e2:(entW w e).heap.size=(entW w (collE e)).heap.size:=by simp
  rw[e2] at D;exact D
 ·exact absurd rfl h.1
theorem XS {s:ByteArray} (h:s≠noS):s.toList.isEmpty=false:=by
 rw[List.isEmpty_eq_false_iff];intro e;exact h (toList_inj (e.trans (by rw[Yx];rfl)))
theorem II (e:Ent) (w:World) (S:Env w) (U:eokS e):
 Calls prog 77 #[.agg (eCells e).toArray] w λx w'=>x= .returned (.tuple #[.agg (eCells (normE e)).toArray,.int .i64 (errE e:Nat)])/\Ext w w':=by
 have Q:Ext w (entW w e):=(((Ext.refl w).alloc _).alloc _).alloc _;have C:Ext w (entW w (collE e)):=(((Ext.refl w).alloc _).alloc _).alloc _;by_cases F:firstErr (strsE e)=0;have G:=gd (ZbI e w S U F);have H:=gd (λw'=>Qr e.upd w');have I:=Gn (e:=e);by_cases J:collapse e.id=noS
 focus
  have j:errE e=19:=by unfold errE;rw[Zf (by simpa using F),Zi J]
  have A:normE e=zeroE:=by unfold normE;rw[Zf (by rw[j];decide)]
  rw[j,A]
  unfold collE at G C
  rw[J] at G C
  clear j A F J I H
  obtain ⟨id,title,link,content,upd⟩:=e
  have H:=gd (λw'=>Qr upd w')
  generalize collapse title=ct at*
  generalize collapse link=cl at*
  generalize collapse content=cc at*
  unfold entW eCells zeroE noS at*
  go_enter func77,ntmps77
  go_wp2_with (first|(go_at_call 74;refine (G.out).mono ?_;rintro e w1 ⟨rfl,h⟩;(have D:=Gt h);(have c0:=YJ ⟨_,h⟩ 0 _ rfl);(have c1:=YJ ⟨_,h⟩ 1 _ rfl);(have c2:=YJ ⟨_,h⟩ 2 _ rfl);(have c3:=YJ ⟨_,h⟩ 3 _ rfl);(have c4:=YJ ⟨_,h⟩ 4 _ rfl);dsimp only at c0 c1 c2 c3 c4)|(go_at_call 76;refine (H.out _).mono ?_;rintro e w2 ⟨rfl,rfl⟩)|(refine Zg rfl 64 (.tmp 2) (.tmp 20) rfl (w.heap.size+1) _ rfl rfl _ _ D Z7 rfl (UD (Z1 zeroE)) ?_))
 rotate_left
 have O:=XS J;cases h2:inT e.upd
 focus
  have j:errE e=3:=by unfold errE;rw[Zf (by simpa using F),Zf J,h2];rfl
  have A:normE e=zeroE:=by unfold normE;rw[Zf (by rw[j];decide)]
  rw[j,A]
  rw[h2] at H
  unfold collE at G C
  clear j A F J I h2
  obtain ⟨id,title,link,content,upd⟩:=e
  simp only at O G C H
  generalize collapse id=ci at*
  generalize collapse title=ct at*
  generalize collapse link=cl at*
  generalize collapse content=cc at*
  unfold entW eCells zeroE noS at*
  go_enter func77,ntmps77
  go_wp2_with (first|(go_at_call 74;refine (G.out).mono ?_;rintro e w1 ⟨rfl,h⟩;(have D:=Gt h);(have c0:=YJ ⟨_,h⟩ 0 _ rfl);(have c1:=YJ ⟨_,h⟩ 1 _ rfl);(have c2:=YJ ⟨_,h⟩ 2 _ rfl);(have c3:=YJ ⟨_,h⟩ 3 _ rfl);(have c4:=YJ ⟨_,h⟩ 4 _ rfl);dsimp only at c0 c1 c2 c3 c4)|(go_at_call 76;refine (H.out _).mono ?_;rintro e w2 ⟨rfl,rfl⟩)|(refine Zg rfl 64 (.tmp 2) (.tmp 26) rfl (w.heap.size+1) _ rfl rfl _ _ D Z7 rfl (UD (Z1 zeroE)) ?_))
 rotate_left
 focus
  have j:errE e=0:=I.2 ⟨F,J,h2⟩
  have A:normE e=collE e:=by unfold normE;rw[Zi j]
  rw[j,A]
  rw[h2] at H
  unfold collE at G C|-
  clear j A F J I h2
  obtain ⟨id,title,link,content,upd⟩:=e
  simp only at O G C H|-
  generalize collapse id=ci at*
  generalize collapse title=ct at*
  generalize collapse link=cl at*
  generalize collapse content=cc at*
  unfold entW eCells zeroE noS at*
  go_enter func77,ntmps77
  go_wp2_with (first|(go_at_call 74;refine (G.out).mono ?_;rintro e w1 ⟨rfl,h⟩;(have D:=Gt h);(have c0:=YJ ⟨_,h⟩ 0 _ rfl);(have c1:=YJ ⟨_,h⟩ 1 _ rfl);(have c2:=YJ ⟨_,h⟩ 2 _ rfl);(have c3:=YJ ⟨_,h⟩ 3 _ rfl);(have c4:=YJ ⟨_,h⟩ 4 _ rfl);dsimp only at c0 c1 c2 c3 c4)|(go_at_call 76;refine (H.out _).mono ?_;rintro e w2 ⟨rfl,rfl⟩)|(refine Zg rfl 64 (.tmp 2) (.tmp 27) rfl (w.heap.size+1) _ rfl rfl _ _ D Z7 rfl (UD (Z1 ⟨ci,ct,cl,cc,upd⟩)) ?_))
 rotate_left
 ·have R:=gd (ZaC e w S U F);have j:errE e=firstErr (strsE e):=by unfold errE;rw[Zi F]
  have A:normE e=zeroE:=by unfold normE;rw[Zf (by rw[j];exact F)]
  rw[j,A];clear j A;obtain ⟨E,K⟩:∃E,firstErr (strsE e)=E:=⟨_,rfl⟩;rw[K] at R F|-;have V:((E:Int) !=0)=true:=by simp;omega
  clear K F;obtain ⟨id,title,link,content,upd⟩:=e;unfold entW eCells zeroE noS at*;go_enter func77,ntmps77
  go_wp2_with (first|(go_at_call 74;refine (R.out).mono ?_;rintro e w1 ⟨rfl,h⟩;(have D:=Gt h))|(refine Zg rfl 64 (.tmp 2) (.tmp 14) rfl (w.heap.size+1) _ rfl rfl _ _ D Z7 rfl (UD (Z1 zeroE)) ?_))
  ((try simp only[Exit.inBlock,Exit.then]);refine Zm (ZW rfl _ _ _ _ _ _ _ rfl (Zk _ _ _ _ _ _ D) underlying64 rfl Z7) rfl ?_);exact ⟨rfl,(Q.trans h).setRow (by omega) _⟩
 all_goals
  ((try simp only[Exit.inBlock,Exit.then]);refine Zm (ZW rfl _ _ _ _ _ _ _ rfl (Zk _ _ _ _ _ _ D) underlying64 rfl Z7) rfl ?_)
  exact ⟨rfl,(C.trans h).setRow (by omega) _⟩
theorem G3 {k:Int} {b:Bool} {n:Int} {s:ByteArray} {A B:Option Addr} {p c q d:Nat} {a:Int}:(wcells k b n s (.slice A p c) (.slice B q d) a).toArray.all (λu=>u.oneCell')=true:=by
 simp[wcells,Value.oneCell']
theorem YN (w:World) (A B:Obj):((w.alloc A).alloc B).heap[w.heap.size+1]? =some B:=by
 have:=Zh (w.alloc A) B
 rwa [Zp] at this
theorem Zel {a b:ByteArray} (h:¬a=b):(a.toList==b.toList)=false:=by
 rw[UA];simp only[ZV];exact λe=>h (Xi e)
theorem E2 {j:JO} (h:kindJ j≠5) (name:ByteArray):getJ j name=none:=by
 cases j<;>first|rfl|(exfalso;exact h rfl)
def GotJ (w:World) (o:Option JO) (e:Ending):Prop:=∃cs,e= .returned (.tuple #[.agg cs.toArray,.bool o.isSome])/\RJ w (o.getD (.null 0)) cs
theorem ZaW (j:JO) (cs:List Value) (name:ByteArray) (w0 w:World) (h:RJ w0 j cs) (hv:Ext w0 w):
 Calls prog 44 #[.agg cs.toArray,.string name] w λe w'=>GotJ w0 (getJ j name) e/\Ext w w':=by
 by_cases O:kindJ j=5
 ·cases j with
  |obj a ks vs=>
   obtain ⟨n,h⟩:=h;cases n with
   |zero=>exact h.elim
   |succ n=>
    obtain ⟨its,mv,rfl,Z,⟨ms,I,hf,hr,H⟩,hs, -⟩:=h;obtain rfl:=hs (by show (5:Nat)≠4;decide)
    replace I:ms.map (λm=>(m.1,m.2.2))=ks.map (λk=>(k.1,(k.2:Int))):=I
    replace hf:ms.length=vs.length:=hf
    replace hr:RSl w0 9 mv vs.length (ms.map mcell).flatten:=hr
    replace H:∀(i:Nat) (j:JO) (m:ByteArray×List Value×Int),vs[i]? =some j->ms[i]? =some m->RJn n w0 j m.2.1:=H
    obtain ⟨_,A,c,rfl,hw,hq,_,_⟩:=id hr;have he:∀c∈ms.map mcell,c.length=9:=(by intro c hc;obtain ⟨m,hm,rfl⟩:=Yq.1 hc;obtain ⟨i,hi,rfl⟩:=List.mem_iff_getElem.1 hm;have:=(H i vs[i] ms[i] (Zc (by omega)) (Zc hi)).len;simp[mcell,this]);have hu:ks.length=vs.length:=(by have:=Zo List.length I;rw[ZS,ZS] at this;omega);show Calls _ _ #[.agg (wcells 5 false 0 noS (.slice none 0 0) (.slice A vs.length c) a).toArray,_] _ λe w'=>GotJ w0 (lookG ks vs name) e/\Ext w w';have hl:=gd he;have hh:=gd H;have hj:=gd I;have J:=YN w (.cells (wcells 5 false 0 noS (.slice none 0 0) (.slice A vs.length c) a).toArray 25) (.cells #[.int .i64 0,.bool false,.int .i64 0,.string ⟨#[]⟩,.slice none 0 0,.slice none 0 0,.int .i64 0] 25);clear he H I Z;unfold wcells noS at*;go_enter func44,ntmps44;go_wp2;go_loopw [15] (λi wr=>∃k:Nat,k<=vs.length/\i= .int .i64 k/\Hid (lookG ks vs name=lookG (ks.drop k) (vs.drop k) name)/\Ext ((w.alloc (.cells #[.int .i64 5,.bool false,.int .i64 0,.string ⟨#[]⟩,.slice none 0 0,.slice A vs.length c,.int .i64 a] 25)).alloc (.cells #[.int .i64 0,.bool false,.int .i64 0,.string ⟨#[]⟩,.slice none 0 0,.slice none 0 0,.int .i64 0] 25)) wr) (λi _=>vs.length - (intOf i).toNat)
    case atStart=>exact ⟨0,Zt _,rfl,rfl,Ext.refl _⟩
    case round=>
     obtain ⟨k,hk,rfl,S,hx⟩:=hrel;have V:Ext w wr:=(((Ext.refl w).alloc _).alloc _).trans hx;have R:=hx.heap J;by_cases U:k<vs.length
     ·have Q:k<ms.length:=(by omega);have hb:k<ks.length:=(by omega);have G:=hh.out k vs[k] ms[k] (Zc U) (Zc Q);obtain ⟨ad,cap,hA,C⟩:=RSl.elem (hr.ext (hv.trans V)) (by omega) hl.out k (mcell ms[k]) (by rw[ZT,Zc Q];rfl);injection hA with hA1 hA2 hA3;subst hA1;clear hA2 hA3;rw[Y7] at C;have F:ks[k].1=ms[k].1:=(by have h1:(ms.map (λm=>(m.1,m.2.2)))[k]? =(ks.map (λk=>(k.1,(k.2:Int))))[k]?:=(by rw[hj.out]);rw[ZT,ZT,Zc Q,Zc hb] at h1;simp at h1;exact h1.1.symm);have D:lookG ks vs name=if ks[k].1=name then some vs[k] else lookG (ks.drop (k+1)) (vs.drop (k+1)) name:=(by rw[S.out,Zx U,Zx hb];rfl)
      obtain ⟨M,Y⟩:∃M,ms[k]=M:=⟨_,rfl⟩;rw[Y] at C G F;obtain ⟨key,cv,at_⟩:=M;dsimp only at F G;rw[F] at D;have hd:=G.len;have ho:=gd G;obtain ⟨A1,p1,q1,B1,p2,q2,hc⟩:=G.cells;generalize kindJ vs[k]=K,bJ vs[k]=Bb,nJ vs[k]=Nn,sJ vs[k]=Ss,atJ vs[k]=At at hc;subst hc;obtain ⟨c0,cv_,c8⟩:=Vv hd C;have c1:=cv_ 0 _ rfl;have c2:=cv_ 1 _ rfl;have c3:=cv_ 2 _ rfl;have c4:=cv_ 3 _ rfl;have c5:=cv_ 4 _ rfl;have c6:=cv_ 5 _ rfl;have c7:=cv_ 6 _ rfl;simp only[Yf,Nat.reduceAdd] at c1 c2 c3 c4 c5 c6 c7;have X:=gd D;have ha:=((Ext.refl wr).alloc (.cells #[.string key,.int .i64 K,.bool Bb,.int .i64 Nn,.string Ss,.slice A1 p1 q1,.slice B1 p2 q2,.int .i64 At,.int .i64 at_] 56)).heap R;have hg:wrap64 ((k:Int)+1)=((k+1:Nat):Int):=(by rw[maxLen] at hq;rw[Xn _ ⟨by omega,by omega⟩];rfl);clear C cv_ hd F Y D G S;by_cases hn:key=name
      ·subst hn;have hp:(key.toList==key.toList)=true:=(by simp);have D:=gd (X.out.trans (Zi rfl))
       go_wp2_with (refine Zg rfl 25 (.tmp 4) (.tmp 24) rfl (w.heap.size+1) _ rfl rfl _ _ ha Yv rfl (G3 (k:=K) (b:=Bb) (n:=Nn) (s:=Ss) (A:=A1) (B:=B1) (p:=p1) (c:=q1) (q:=p2) (d:=q2) (a:=At)) ?_)
       ((try simp only[Exit.inBlock,Exit.then]);refine Zm (ZW rfl _ _ _ _ _ _ _ rfl (Zk _ _ _ _ _ _ ha) underlying25 rfl Yv) rfl ?_);rw[D.out];exact ⟨⟨_,rfl,n,ho.out⟩,(V.alloc _).setRow (ZM _) _⟩
      ·have D:=gd (X.out.trans (Zf hn));have hp:(key.toList==name.toList)=false:=Zel hn;go_wp2;go_roundw
       case rel=>exact ⟨k+1,U,by rw[hg],D,hx.alloc _⟩
       case measure=>rw[hg];simp[intOf];omega
     ·have ht:k=vs.length:=(by omega);subst ht;have D:=gd (S.out.trans (by rw[ZB (Nat.le_of_eq hu),ZB (Zd _)];rfl:_=none))
      go_wp2_with (refine Zg rfl 25 (.tmp 4) (.tmp 26) rfl (w.heap.size+1) _ rfl rfl _ _ R Yv rfl (G3 (k:=0) (b:=false) (n:=0) (s:=⟨#[]⟩) (A:=none) (B:=none) (p:=0) (c:=0) (q:=0) (d:=0) (a:=0)) ?_)
      ((try simp only[Exit.inBlock,Exit.then]);refine Zm (ZW rfl _ _ _ _ _ _ _ rfl (Zk _ _ _ _ _ _ R) underlying25 rfl Yv) rfl ?_);rw[D.out];exact ⟨⟨_,rfl,RJ.null w0⟩,V.setRow (ZM _) _⟩
  |null=>exact absurd O (by show ¬(0:Nat)=5;decide)
  |bool=>exact absurd O (by show ¬(1:Nat)=5;decide)
  |int=>exact absurd O (by show ¬(2:Nat)=5;decide)
  |str=>exact absurd O (by show ¬(3:Nat)=5;decide)
  |arr=>exact absurd O (by show ¬(4:Nat)=5;decide)
 ·rw[E2 O];obtain ⟨A,p,c,B,q,d,rfl⟩:=h.cells;obtain ⟨K,hK⟩:∃K,kindJ j=K:=⟨_,rfl⟩;rw[hK] at O|-;have hy:((K:Int) !=5)=true:=by simp;omega
  have J:=YN w (.cells (wcells K (bJ j) (nJ j) (sJ j) (.slice A p c) (.slice B q d) (atJ j)).toArray 25) (.cells #[.int .i64 0,.bool false,.int .i64 0,.string ⟨#[]⟩,.slice none 0 0,.slice none 0 0,.int .i64 0] 25);unfold wcells at*;clear h hK;go_enter func44,ntmps44
  go_wp2_with (refine Zg rfl 25 (.tmp 4) (.tmp 11) rfl (w.heap.size+1) _ rfl rfl _ _ J Yv rfl (G3 (k:=0) (b:=false) (n:=0) (s:=⟨#[]⟩) (A:=none) (B:=none) (p:=0) (c:=0) (q:=0) (d:=0) (a:=0)) ?_)
  ((try simp only[Exit.inBlock,Exit.then]);refine Zm (ZW rfl _ _ _ _ _ _ _ rfl (Zk _ _ _ _ _ _ J) underlying25 rfl Yv) rfl ?_);exact ⟨⟨_,rfl,RJ.null w0⟩,(((Ext.refl w).alloc _).alloc _).setRow (ZM _) _⟩
def lookM:List (ByteArray×List Value×Int)->ByteArray->List Value
 |m::t,name=>if m.1=name then m.2.1 else lookM t name
 | [],_=>wcells 0 false 0 ⟨#[]⟩ (.slice none 0 0) (.slice none 0 0) 0
theorem Za1 {w:World} {n:Nat}:∀{ks:List (ByteArray×Nat)} {vs:List JO} {ms:List (ByteArray×List Value×Int)} {name:ByteArray},ms.map (λm=>(m.1,m.2.2))=ks.map (λk=>(k.1,(k.2:Int)))->ms.length=vs.length->
 (∀(i:Nat) (j:JO) (m:ByteArray×List Value×Int),vs[i]? =some j->ms[i]? =some m->RJn n w j m.2.1)->RJ w ((lookG ks vs name).getD (.null 0)) (lookM ms name)
 |k::ks,v::vs,m::ms,name,h1,h2,h3=>by
  simp only[Ym,List.cons.injEq,Prod.mk.injEq] at h1;unfold lookG lookM;rw[h1.1.1];by_cases h:k.1=name
  ·rw[Zi h,Zi h];exact ⟨n,h3 0 v m rfl rfl⟩
  ·rw[Zf h,Zf h];exact Za1 h1.2 (by simpa using h2) λi j m A C=>h3 (i+1) j m A C
 | [],[],[],_,_,_,_=>RJ.null w
 | [],_::_,[],_,_,h2,_=>by simp at h2
 |_::_,_,[],_,h1,_,_=>by simp at h1
 | [],_,_::_,_,h1,_,_=>by simp at h1
 |_::_,[],_::_,_,_,h2,_=>by simp at h2
theorem Zcr (j:JO) (cs:List Value) (name:ByteArray) (w0:World) (h:RJ w0 j cs):
 ∃cv,RJ w0 ((getJ j name).getD (.null 0)) cv/\∀w,Ext w0 w->Calls prog 26 #[.agg cs.toArray,.string name] w λe w'=>e= .returned (.tuple #[.agg cv.toArray,.bool (getJ j name).isSome])/\Ext w w':=by
 by_cases U:kindJ j=5
 ·cases j with
  |obj a ks vs=>
   obtain ⟨n,h⟩:=h;cases n with
   |zero=>exact h.elim
   |succ n=>
    obtain ⟨its,mv,rfl,hd,⟨ms,I,S,hr,H⟩,hv, -⟩:=h;obtain rfl:=hv (by show (5:Nat)≠4;decide)
    replace I:ms.map (λm=>(m.1,m.2.2))=ks.map (λk=>(k.1,(k.2:Int))):=I
    replace S:ms.length=vs.length:=S
    replace hr:RSl w0 9 mv vs.length (ms.map mcell).flatten:=hr
    replace H:∀(i:Nat) (j:JO) (m:ByteArray×List Value×Int),vs[i]? =some j->ms[i]? =some m->RJn n w0 j m.2.1:=H
    obtain ⟨_,A,c,rfl,hB,ht,_,_⟩:=id hr;have hh:∀c∈ms.map mcell,c.length=9:=(by intro c hc;obtain ⟨m,hm,rfl⟩:=Yq.1 hc;obtain ⟨i,hi,rfl⟩:=List.mem_iff_getElem.1 hm;have:=(H i vs[i] ms[i] (Zc (by omega)) (Zc hi)).len;simp[mcell,this]);have hy:ks.length=vs.length:=(by have:=Zo List.length I;rw[ZS,ZS] at this;omega);refine ⟨lookM ms name,Za1 I S H,λw hl=> ?_⟩;show Calls _ _ #[.agg (wcells 5 false 0 noS (.slice none 0 0) (.slice A vs.length c) a).toArray,_] _ λe w'=>e= .returned (.tuple #[.agg (lookM ms name).toArray,.bool (lookG ks vs name).isSome])/\Ext w w';have hq:=gd hh;have ho:=gd H;have hp:=gd I;have R:=YN w (.cells (wcells 5 false 0 noS (.slice none 0 0) (.slice A vs.length c) a).toArray 25) (.cells #[.int .i64 0,.bool false,.int .i64 0,.string ⟨#[]⟩,.slice none 0 0,.slice none 0 0,.int .i64 0] 25);clear hh H I hd;unfold wcells noS at*;go_enter func26,ntmps26;go_wp2;go_loopw [6] (λi wr=>∃k:Nat,k<=vs.length/\i= .int .i64 k/\Hid (lookG ks vs name=lookG (ks.drop k) (vs.drop k) name/\lookM ms name=lookM (ms.drop k) name)/\Ext ((w.alloc (.cells #[.int .i64 5,.bool false,.int .i64 0,.string ⟨#[]⟩,.slice none 0 0,.slice A vs.length c,.int .i64 a] 25)).alloc (.cells #[.int .i64 0,.bool false,.int .i64 0,.string ⟨#[]⟩,.slice none 0 0,.slice none 0 0,.int .i64 0] 25)) wr) (λi _=>vs.length - (intOf i).toNat)
    case atStart=>exact ⟨0,Zt _,rfl,⟨rfl,rfl⟩,Ext.refl _⟩
    case round=>
     obtain ⟨k,hk,rfl,O,hx⟩:=hrel;have Y:Ext w wr:=(((Ext.refl w).alloc _).alloc _).trans hx;have V:=hx.heap R;have b0:wr.cell? ⟨w.heap.size,0,none⟩=some (.int .i64 5):=Ext.boxed (((Ext.refl _).alloc _).trans hx) 0 _ rfl;have b5:wr.cell? ⟨w.heap.size,5,none⟩=some (.slice A vs.length c):=Ext.boxed (((Ext.refl _).alloc _).trans hx) 5 _ rfl;by_cases X:k<vs.length
     ·have Q:k<ms.length:=(by omega);have hf:k<ks.length:=(by omega);have G:=ho.out k vs[k] ms[k] (Zc X) (Zc Q);obtain ⟨ad,cap,hA,C⟩:=RSl.elem (hr.ext (hl.trans Y)) (by omega) hq.out k (mcell ms[k]) (by rw[ZT,Zc Q];rfl);injection hA with hA1 hA2 hA3;subst hA1;clear hA2 hA3;rw[Y7] at C;have F:ks[k].1=ms[k].1:=(by have h1:(ms.map (λm=>(m.1,m.2.2)))[k]? =(ks.map (λk=>(k.1,(k.2:Int))))[k]?:=(by rw[hp.out]);rw[ZT,ZT,Zc Q,Zc hf] at h1;simp at h1;exact h1.1.symm);have D:lookG ks vs name=if ks[k].1=name then some vs[k] else lookG (ks.drop (k+1)) (vs.drop (k+1)) name:=(by rw[O.out.1,Zx X,Zx hf];rfl)
      have J:lookM ms name=if ms[k].1=name then ms[k].2.1 else lookM (ms.drop (k+1)) name:=(by rw[O.out.2,Zx Q];rfl)
      obtain ⟨M,hb⟩:∃M,ms[k]=M:=⟨_,rfl⟩;rw[hb] at C G F J;obtain ⟨key,cv,at_⟩:=M;dsimp only at F G J;rw[F] at D;have hg:=G.len;have hz:=gd G;obtain ⟨A1,p1,q1,B1,p2,q2,hc⟩:=G.cells;generalize kindJ vs[k]=K,bJ vs[k]=Bb,nJ vs[k]=Nn,sJ vs[k]=Ss,atJ vs[k]=At at hc;subst hc;obtain ⟨c0,cv_,c8⟩:=Vv hg C;have c1:=cv_ 0 _ rfl;have c2:=cv_ 1 _ rfl;have c3:=cv_ 2 _ rfl;have c4:=cv_ 3 _ rfl;have c5:=cv_ 4 _ rfl;have c6:=cv_ 5 _ rfl;have c7:=cv_ 6 _ rfl;simp only[Yf,Nat.reduceAdd] at c1 c2 c3 c4 c5 c6 c7;have ha:=gd D;have Z:=gd J;have he:=V;have hj:wrap64 ((k:Int)+1)=((k+1:Nat):Int):=(by rw[maxLen] at ht;rw[Xn _ ⟨by omega,by omega⟩];rfl);clear C cv_ hg F hb D J G O;by_cases hn:key=name
      ·subst hn;have hs:(key.toList==key.toList)=true:=(by simp);have D:=gd (Z9 (ha.out.trans (Zi rfl)) (Z.out.trans (Zi rfl)))
       go_wp2_with (refine Zg rfl 25 (.tmp 4) (.tmp 32) rfl (w.heap.size+1) _ rfl rfl _ _ he Yv rfl (G3 (k:=K) (b:=Bb) (n:=Nn) (s:=Ss) (A:=A1) (B:=B1) (p:=p1) (c:=q1) (q:=p2) (d:=q2) (a:=At)) ?_)
       ((try simp only[Exit.inBlock,Exit.then]);refine Zm (ZW rfl _ _ _ _ _ _ _ rfl (Zk _ _ _ _ _ _ he) underlying25 rfl Yv) rfl ?_);rw[D.out.1,D.out.2];exact ⟨rfl,Y.setRow (ZM _) _⟩
      ·have D:=gd (Z9 (ha.out.trans (Zf hn)) (Z.out.trans (Zf hn)));have hs:(key.toList==name.toList)=false:=Zel hn;go_wp2;go_roundw
       case rel=>exact ⟨k+1,X,by rw[hj],D,hx⟩
       case measure=>rw[hj];simp[intOf];omega
     ·have hw:k=vs.length:=(by omega);subst hw;have D:=gd (O.out.1.trans (by rw[ZB (Nat.le_of_eq hy),ZB (Zd _)];rfl:_=none));have J:=gd (O.out.2.trans (by rw[ZB (Nat.le_of_eq S)];rfl:_=wcells 0 false 0 ⟨#[]⟩ (.slice none 0 0) (.slice none 0 0) 0))
      go_wp2_with (refine Zg rfl 25 (.tmp 4) (.tmp 33) rfl (w.heap.size+1) _ rfl rfl _ _ V Yv rfl (G3 (k:=0) (b:=false) (n:=0) (s:=⟨#[]⟩) (A:=none) (B:=none) (p:=0) (c:=0) (q:=0) (d:=0) (a:=0)) ?_)
      ((try simp only[Exit.inBlock,Exit.then]);refine Zm (ZW rfl _ _ _ _ _ _ _ rfl (Zk _ _ _ _ _ _ V) underlying25 rfl Yv) rfl ?_);rw[D.out,J.out];exact ⟨rfl,Y.setRow (ZM _) _⟩
  |null=>exact absurd U (by show ¬(0:Nat)=5;decide)
  |bool=>exact absurd U (by show ¬(1:Nat)=5;decide)
  |int=>exact absurd U (by show ¬(2:Nat)=5;decide)
  |str=>exact absurd U (by show ¬(3:Nat)=5;decide)
  |arr=>exact absurd U (by show ¬(4:Nat)=5;decide)
 ·rw[E2 U];have hu:∃A p c,cs=wcells (kindJ j) (bJ j) (nJ j) (sJ j) (.slice A p c) (.slice none 0 0) (atJ j):=by
   obtain ⟨n,h⟩:=h;cases n with
   |zero=>exact h.elim
   |succ n=>obtain ⟨its,mv,rfl,⟨_,_,h2,_⟩, -, -,h6⟩:=h;obtain rfl:=h6 U;obtain ⟨_,A,c,rfl,_⟩:=h2;exact ⟨_,_,_,rfl⟩
  obtain ⟨A,p,c,rfl⟩:=hu;refine ⟨wcells 0 false 0 ⟨#[]⟩ (.slice none 0 0) (.slice none 0 0) 0,RJ.null w0,λw hl=> ?_⟩;obtain ⟨K,hK⟩:∃K,kindJ j=K:=⟨_,rfl⟩;rw[hK] at U|-;have hC:((K:Int) !=5)=true:=by simp;omega
  have R:=YN w (.cells (wcells K (bJ j) (nJ j) (sJ j) (.slice A p c) (.slice none 0 0) (atJ j)).toArray 25) (.cells #[.int .i64 0,.bool false,.int .i64 0,.string ⟨#[]⟩,.slice none 0 0,.slice none 0 0,.int .i64 0] 25);unfold wcells at*;clear h hK;go_enter func26,ntmps26;go_wp2;refine Xe 1 ?_;rw[rounds_succ]
  go_wp2_with (refine Zg rfl 25 (.tmp 4) (.tmp 33) rfl (w.heap.size+1) _ rfl rfl _ _ R Yv rfl (G3 (k:=0) (b:=false) (n:=0) (s:=⟨#[]⟩) (A:=none) (B:=none) (p:=0) (c:=0) (q:=0) (d:=0) (a:=0)) ?_)
  ((try simp only[Exit.inBlock,Exit.then]);refine Zm (ZW rfl _ _ _ _ _ _ _ rfl (Zk _ _ _ _ _ _ R) underlying25 rfl Yv) rfl ?_);exact ⟨rfl,(((Ext.refl w).alloc _).alloc _).setRow (ZM _) _⟩
abbrev Bar (b:Nat) (w w':World):Prop:=w.grownBy w' (some b)
theorem Bar.refl (b:Nat) (w:World):Bar b w w:=(Ext.refl w).grown _
theorem Bar.trans {b:Nat} {u v w:World} (h:Bar b u v) (k:Bar b v w):Bar b u w:=
 ⟨k.os.trans h.os,k.tape.trans h.tape,k.output.trans h.output,Zl h.size k.size,λi j A=>(k.block i (Z3 j h.size) A).trans (h.block i j A)⟩
theorem Bar.of {b:Nat} {u v:World} (h:Ext u v):Bar b u v:=h.grown _
theorem Bar.ext {b:Nat} {u v w:World} (h:Ext u v) (k:Bar b v w) (j:u.heap.size<=b):Ext u w:=
 Below.grown h k h.size λi A=>by cases A;exact j
theorem Bar.heap {b k:Nat} {u v:World} {o:Obj} (h:Bar b u v) (j:u.heap[k]? =some o) (A:k≠b):v.heap[k]? =some o:=
 (h.block k (Ze.1 j).1 (by simpa using A)).trans j
theorem Bar.setCell (w:World) (p:Addr) (u:Value):Bar p.block w (w.setCell p u):=by
 refine ⟨rfl,rfl,rfl,by simp[World.setCell],λk j h=> ?_⟩;rw[Below.heap_setCell _ _ _ _ (λe=>h (by rw[e]))]
def faultA:Option (Nat×Nat)->Nat
 |some e=>e.1
 |none=>0
def faultE:Option (Nat×Nat)->Nat
 |some e=>e.2
 |none=>0
def RdAt (b:Nat) (cs:List Value) (o:Option (Nat×Nat)) (w:World):Prop:=
 w.heap[b]? =some (.cells (cs++ [Value.int .i64 (faultA o:Nat),Value.int .i64 (faultE o:Nat)]).toArray 67 (0,0))/\(∀e,o=some e->e.2≠0)
theorem RdAt.ext {b:Nat} {cs:List Value} {o:Option (Nat×Nat)} {w w':World} (h:RdAt b cs o w) (j:Ext w w'):RdAt b cs o w':=⟨j.heap h.1,h.2⟩
def firstF (o:Option (Nat×Nat)) (a e:Nat):Option (Nat×Nat):=match o with
 |some f=>some f
 |none=>some (a,e)
theorem ZeE (b:Nat) (k:Int) (A:Bool) (x:Int) (s:ByteArray) (its ms:Value) (a:Int) (o:Option (Nat×Nat)) (at_ e:Nat) (w:World) (h:RdAt b (wcells k A x s its ms a) o w) (F:e≠0):
 Calls prog 34 #[.pointer (some ⟨b,0,none⟩),.int .i64 (at_:Nat),.int .i64 (e:Nat)] w λr w'=>r= .returned (.tuple #[])/\RdAt b (wcells k A x s its ms a) (firstF o at_ e) w'/\Bar b w w':=by
 obtain ⟨j,C⟩:=h;unfold wcells at*;have hfr:∀i,w.frozen? ⟨b,i,none⟩=false:=λi=>ZH j i;have K:=hfr 7;have O:=hfr 8;cases o with
 |some f=>
  have H:¬((f.2:Nat):Int)=0:=by have:=C f rfl;omega
  have D:w.cell? ⟨b,8,none⟩=some (.int .i64 (f.2:Nat)):=Zb _ _ 8 _ _ _ j;obtain ⟨Q,R⟩:=f;dsimp only[faultE,faultA,X6,YF] at*;go_enter func34,ntmps34;go_wp2;((try simp only[Exit.inBlock,Exit.then]);refine bodyPost_end (results_none rfl _ _ _) rfl ?_);exact ⟨rfl,⟨j,C⟩,Bar.refl _ _⟩
 |none=>
  dsimp only[faultE,faultA,X6,YF] at*;have I:w.cell? ⟨b,7,none⟩=some (.int .i64 0):=Zb _ _ 7 _ _ _ j;have D:w.cell? ⟨b,8,none⟩=some (.int .i64 0):=Zb _ _ 8 _ _ _ j;have J:(w.setCell ⟨b,7,none⟩ (.int .i64 (at_:Nat))).cell? ⟨b,8,none⟩=some (.int .i64 0):=by rw[ZN (ZR _ _ _ _ _ _ j)];rfl
  have g8:(w.setCell ⟨b,7,none⟩ (.int .i64 (at_:Nat))).frozen? ⟨b,8,none⟩=false:=ZH (ZR _ _ _ _ _ _ j) 8;go_enter func34,ntmps34;go_wp2;((try simp only[Exit.inBlock,Exit.then]);refine bodyPost_end (results_none rfl _ _ _) rfl ?_);refine ⟨rfl,⟨?_,?_⟩,(Bar.setCell w ⟨b,7,none⟩ _).trans (Bar.setCell _ ⟨b,8,none⟩ _)⟩
  ·rw[ZR _ _ _ _ _ _ (ZR _ _ _ _ _ _ j)];rfl
  ·intro f G;cases G;exact F
section
attribute [local go_sem] calm1
def GotM (w:World) (o:Option JO) (e:Ending):Prop:=∃x cs,e= .returned (.tuple #[.agg cs.toArray,.bool o.isSome])/\RJ w x cs/\(o=some x\/(o=none/\kindJ x=0))
theorem ZfY {w:World} {j x:JO} {name:ByteArray} {cs:List Value} (h:getJ j name=some x) (C:RJ w x cs):GotM w (memJ j name) (.returned (.tuple #[.agg cs.toArray,.bool (decide (kindJ x≠0))])):=by
 unfold memJ;rw[h];by_cases A:kindJ x=0
 ·refine ⟨x,cs,?_,C,Or.inr ⟨Zi A,A⟩⟩;simp[A]
 ·refine ⟨x,cs,?_,C,Or.inl (Zf A)⟩;simp[A]
theorem ZfX {w:World} {j:JO} {name:ByteArray} {cs:List Value} (h:getJ j name=none) (A:RJ w (.null 0) cs):GotM w (memJ j name) (.returned (.tuple #[.agg cs.toArray,.bool false])):=by
 unfold memJ;rw[h];exact ⟨_,cs,rfl,A,Or.inr ⟨rfl,rfl⟩⟩
theorem Zfw (j:JO) (k:Int) (bb:Bool) (x:Int) (s:ByteArray) (A B:Option Addr) (p c q d:Nat) (a:Int) (b:Nat) (o:Option (Nat×Nat)) (name:ByteArray) (w0 w:World) (h:RJ w0 j (wcells k bb x s (.slice A p c) (.slice B q d) a)) (he:Ext w0 w) (hr:RdAt b (wcells k bb x s (.slice A p c) (.slice B q d) a) o w):
 Calls prog 33 #[.pointer (some ⟨b,0,none⟩),.string name] w λe w'=>GotM w0 (memJ j name) e/\Ext w w':=by
 have HG:=gd (λw' (hx:Ext w0 w')=>ZaW j _ name w0 w' h hx);have V:=((Ext.refl w).alloc (.cells #[.int .i64 0,.bool false,.int .i64 0,.string ⟨#[]⟩,.slice none 0 0,.slice none 0 0,.int .i64 0] 25)).heap hr.1;have hd:=Zh w (.cells #[.int .i64 0,.bool false,.int .i64 0,.string ⟨#[]⟩,.slice none 0 0,.slice none 0 0,.int .i64 0] 25);unfold wcells at*;simp only[X6,YF] at V;have c0:=Zb _ _ 0 _ _ _ V;have c1:=Zb _ _ 1 _ _ _ V;have c2:=Zb _ _ 2 _ _ _ V;have c3:=Zb _ _ 3 _ _ _ V;have c4:=Zb _ _ 4 _ _ _ V;have c5:=Zb _ _ 5 _ _ _ V;have c6:=Zb _ _ 6 _ _ _ V;clear h hr V;go_enter func33,ntmps33
 go_wp2_with (go_at_call 44;refine (HG.out _ (he.alloc _)).mono ?_;rintro e w1 ⟨⟨cv,rfl,Q⟩,Z⟩;(obtain ⟨J,p1,G,O,p2,H,hc⟩:=Q.cells);(generalize hK:kindJ _=K at hc);(generalize bJ _=Bb,nJ _=Nn,sJ _=Ss,atJ _=At at hc);unfold wcells at hc;subst hc;(have Y:=Z.heap hd);(generalize hF:(getJ j name).isSome=F))
 go_wp2;cases F with
 |true=>
  obtain ⟨X,hX⟩:=Option.isSome_iff_exists.1 hF;rw[hX] at Q hK;have HQ:=gd (ZfY hX Q);clear Q hF HG;rw[show kindJ X=K from hK] at HQ;have ha:((K:Int) !=0)=decide (K≠0):=by by_cases hz:K=0<;>simp[hz]
  rw[<-ha] at HQ;clear ha;refine rN ?_;change wpAny _ _ _ _ _ _ _ (World.drew _);have R:=(Ext.refl (w1.alloc (.cells #[.int .i64 K,.bool Bb,.int .i64 Nn,.string Ss,.slice J p1 G,.slice O p2 H,.int .i64 At] 25))).drew;have U:=R.heap (((Ext.refl w1).alloc _).heap Y);have C:(w1.alloc (.cells #[.int .i64 K,.bool Bb,.int .i64 Nn,.string Ss,.slice J p1 G,.slice O p2 H,.int .i64 At] 25)).drew.heap[w1.heap.size]? =some (.cells #[.int .i64 K,.bool Bb,.int .i64 Nn,.string Ss,.slice J p1 G,.slice O p2 H,.int .i64 At] 25 (0,0)):=R.heap (Zh w1 _);refine Yi (λw'=>w'.heap[w1.heap.size]? =some (.cells #[.int .i64 K,.bool Bb,.int .i64 Nn,.string Ss,.slice J p1 G,.slice O p2 H,.int .i64 At] 25 (0,0))) ?_;refine tS 0 (.agg #[.int .i64 K,.bool Bb,.int .i64 Nn,.string Ss,.slice J p1 G,.slice O p2 H,.int .i64 At]) rfl (λw' I=>by have q0:=Zb _ _ 0 _ _ _ I;have G:=Zb _ _ 1 _ _ _ I;have H:=Zb _ _ 2 _ _ _ I;have q3:=Zb _ _ 3 _ _ _ I;have q4:=Zb _ _ 4 _ _ _ I;have q5:=Zb _ _ 5 _ _ _ I;have q6:=Zb _ _ 6 _ _ _ I;go_simp) C ?_;refine tG 1 (.bool true) C ?_;refine tG 2 (.bool true) C ?_;refine tG 3 (.pointer (some ⟨w1.heap.size,0,none⟩)) C ?_;refine tS 4 (.int .i64 K) rfl (λw' I=>by have hq:=Zb _ _ 0 _ _ _ I;go_simp) C ?_;refine tG 5 (.bool ((K:Int) !=0)) C ?_;refine tG 6 (.bool ((K:Int) !=0)) C ?_;go_simp;refine Zv (i:=7) rfl (by kernel_rfl) (λK2 D=> ?_);refine Z4 rfl 25 (.tmp 4) (.tmp 17) rfl w.heap.size #[.int .i64 K,.bool Bb,.int .i64 Nn,.string Ss,.slice J p1 G,.slice O p2 H,.int .i64 At] rfl rfl _ _ U Yv rfl (G3 (k:=K) (b:=Bb) (n:=Nn) (s:=Ss) (A:=J) (B:=O) (p:=p1) (c:=G) (q:=p2) (d:=H) (a:=At)) ?_;have S:=(ZD _ w.heap.size w1.heap.size #[.int .i64 K,.bool Bb,.int .i64 Nn,.string Ss,.slice J p1 G,.slice O p2 H,.int .i64 At] (Nat.ne_of_gt (Ze.1 Y).1)).trans C;refine D _ _ S ?_;clear D K2;refine Zv (i:=8) rfl (by kernel_rfl) (λK2 D=> ?_);go_simp;refine D _ _ S ?_;clear D K2;refine sE ?_;go_wp2;((try simp only[Exit.inBlock,Exit.then]);refine Zm (ZW rfl _ _ _ _ _ _ _ rfl (Zk _ _ _ _ _ _ U) underlying25 rfl Yv) rfl ?_);exact ⟨HQ.out,((((Ext.refl w).alloc _).trans Z).alloc _|>.trans R).setRow (Zd _) _⟩
 |false=>have hX:=Option.not_isSome_iff_eq_none.1 (by rw[hF];decide);rw[hX] at Q hK;have HQ:=gd (ZfX hX Q);clear Q hF HG;refine rN ?_;change wpAny _ _ _ _ _ _ _ (World.drew _);have R:=(Ext.refl (w1.alloc (.cells #[.int .i64 K,.bool Bb,.int .i64 Nn,.string Ss,.slice J p1 G,.slice O p2 H,.int .i64 At] 25))).drew;have U:=R.heap (((Ext.refl w1).alloc _).heap Y);have C:(w1.alloc (.cells #[.int .i64 K,.bool Bb,.int .i64 Nn,.string Ss,.slice J p1 G,.slice O p2 H,.int .i64 At] 25)).drew.heap[w1.heap.size]? =some (.cells #[.int .i64 K,.bool Bb,.int .i64 Nn,.string Ss,.slice J p1 G,.slice O p2 H,.int .i64 At] 25 (0,0)):=R.heap (Zh w1 _);refine Yi (λw'=>w'.heap[w1.heap.size]? =some (.cells #[.int .i64 K,.bool Bb,.int .i64 Nn,.string Ss,.slice J p1 G,.slice O p2 H,.int .i64 At] 25 (0,0))) ?_;refine tS 0 (.agg #[.int .i64 K,.bool Bb,.int .i64 Nn,.string Ss,.slice J p1 G,.slice O p2 H,.int .i64 At]) rfl (λw' I=>by have q0:=Zb _ _ 0 _ _ _ I;have G:=Zb _ _ 1 _ _ _ I;have H:=Zb _ _ 2 _ _ _ I;have q3:=Zb _ _ 3 _ _ _ I;have q4:=Zb _ _ 4 _ _ _ I;have q5:=Zb _ _ 5 _ _ _ I;have q6:=Zb _ _ 6 _ _ _ I;go_simp) C ?_;refine tG 1 (.bool false) C ?_;refine tG 2 (.bool false) C ?_;refine JH (i:=3) (v:=undef) rfl (by kernel_rfl) (λ_ _ _ h=>h) (Or.inr ⟨by rfl,rfl⟩) C ?_;refine JH (i:=4) (v:=undef) rfl (by kernel_rfl) (λ_ _ _ h=>h) (Or.inr ⟨by rfl,rfl⟩) C ?_;refine JH (i:=5) (v:=undef) rfl (by kernel_rfl) (λ_ _ _ h=>h) (Or.inr ⟨by rfl,rfl⟩) C ?_;refine tG 6 (.bool false) C ?_;go_simp;refine Zv (i:=7) rfl (by kernel_rfl) (λK2 D=> ?_);refine Z4 rfl 25 (.tmp 4) (.tmp 17) rfl w.heap.size #[.int .i64 K,.bool Bb,.int .i64 Nn,.string Ss,.slice J p1 G,.slice O p2 H,.int .i64 At] rfl rfl _ _ U Yv rfl (G3 (k:=K) (b:=Bb) (n:=Nn) (s:=Ss) (A:=J) (B:=O) (p:=p1) (c:=G) (q:=p2) (d:=H) (a:=At)) ?_;have S:=(ZD _ w.heap.size w1.heap.size #[.int .i64 K,.bool Bb,.int .i64 Nn,.string Ss,.slice J p1 G,.slice O p2 H,.int .i64 At] (Nat.ne_of_gt (Ze.1 Y).1)).trans C;refine D _ _ S ?_;clear D K2;refine Zv (i:=8) rfl (by kernel_rfl) (λK2 D=> ?_);go_simp;refine D _ _ S ?_;clear D K2;refine sE ?_;go_wp2;((try simp only[Exit.inBlock,Exit.then]);refine Zm (ZW rfl _ _ _ _ _ _ _ rfl (Zk _ _ _ _ _ _ U) underlying25 rfl Yv) rfl ?_);exact ⟨HQ.out,((((Ext.refl w).alloc _).trans Z).alloc _|>.trans R).setRow (Zd _) _⟩
end
def jsz (M:Nat):JO->Prop
 | .int _ n=> -9223372036854775808<=n/\n<=9223372036854775807
 | .str _ s=>s.size<=M
 | .arr _ l=>∀j∈l,jsz M j
 | .obj _ _ vs=>∀j∈vs,jsz M j
 |_=>True
theorem Gv:∀(ks:List (ByteArray×Nat)) (vs:List JO) (n:ByteArray) (x:JO),lookG ks vs n=some x->x∈vs
 |k::ks,v::vs,n,x,h=>by
  unfold lookG at h
  by_cases j:k.1=n
  ·rw[Zi j] at h;injection h with h;subst h;exact ZcZ
  ·rw[Zf j] at h;exact EN _ (Gv ks vs n x h)
 | [],_,_,_,h=>by simp[lookG] at h
 |_::_,[],_,_,h=>by simp[lookG] at h
theorem Zdk {N:Nat} {j x:JO} {n:ByteArray} (h:jsz N j) (A:getJ j n=some x):jsz N x:=by
 cases j with
 |obj a ks vs=>rw[jsz] at h;exact h x (Gv ks vs n x A)
 |_=>simp[getJ] at A
theorem Za4 {j x:JO} {n:ByteArray} (h:memJ j n=some x):getJ j n=some x/\kindJ x≠0:=by
 unfold memJ at h;cases hg:getJ j n with
 |none=>rw[hg] at h;cases h
 |some y=>
  rw[hg] at h;simp only at h;by_cases A:kindJ y=0
  ·rw[Zi A] at h;cases h
  ·rw[Zf A] at h;injection h with h;subst h;exact ⟨rfl,A⟩
theorem YM {N:Nat} {j x:JO} {n:ByteArray} (h:jsz N j) (A:memJ j n=some x):jsz N x:=Zdk h (Za4 A).1
theorem Jk {N:Nat} {j:JO} (h:jsz N j):(sJ j).size<=N:=by
 cases j with
 |str a s=>rw[jsz] at h;exact h
 |_=>exact Zt _
theorem Zfz {j:JO} (h:kindJ j≠3):sJ j=noS:=by
 cases j<;>first|rfl|exact absurd rfl h
def orF {α:Type}:Option α->Option α->Option α
 |some f,_=>some f
 |none,o=>o
theorem Y9 {α:Type} (o:Option α):orF o none=o:=by cases o<;>rfl
theorem Xw {α:Type} (a b c:Option α):orF (orF a b) c=orF a (orF b c):=by cases a<;>rfl
def chk1 (j:JO) (n:ByteArray):Option (Nat×Nat):=match memJ j n with
 |none=>none
 |some x=>if kindJ x≠3 then some (atJ x,21) else if (checkS (sJ x)).2≠0 then some (atJ x,(checkS (sJ x)).2) else none
theorem Qg (j:JO) (n:ByteArray) (t:List ByteArray):chkJ j false (n::t)=orF (chk1 j n) (chkJ j false t):=by
 have e:chkJ j false (n::t)=match memJ j n with
  |none=>chkJ j false t
  |some x=>if false=true/\kindJ x=2 then chkJ j false t else if kindJ x≠3 then some (atJ x,21) else if (checkS (sJ x)).2≠0 then some (atJ x,(checkS (sJ x)).2) else chkJ j false t:=rfl
 rw[e];unfold chk1;cases memJ j n with
 |none=>rfl
 |some x=>
  simp only[Ja,false_and,ZgK];by_cases h:kindJ x≠3
  ·rw[Zi h,Zi h];rfl
  ·rw[Zf h,Zf h];by_cases A:(checkS (sJ x)).2≠0
   ·rw[Zi A,Zi A];rfl
   ·rw[Zf A,Zf A];rfl
theorem QH (j:JO) (n:ByteArray):chkJ j false [n]=chk1 j n:=by rw[Qg];exact Y9 _
theorem I7 (j:JO) (n:ByteArray) (t:List ByteArray):chkJ j false (n::t)=orF (chkJ j false [n]) (chkJ j false t):=by rw[Qg,QH]
theorem Zep (j:JO) (l m:List ByteArray):chkJ j false (l++m)=orF (chkJ j false l) (chkJ j false m):=by
 induction l with
 |nil=>rfl
 |cons n t ih=>rw[X6,I7,ih,I7 j n t,Xw]
def firstJ (j:JO):List ByteArray->ByteArray
 | []=>noS
 |n::t=>match memJ j n with
  |some x=>sJ x
  |none=>firstJ j t
theorem XZ (j:JO) (cs:List Value) (name:ByteArray) (w0:World) (h:RJ w0 j cs):
 ∃X,RJ w0 ((memJ j name).getD (.null 0)) X/\∀w,Ext w0 w->Calls prog 41 #[.agg cs.toArray,.string name] w λe w'=>e= .returned (.tuple #[.agg X.toArray,.bool (memJ j name).isSome])/\Ext w w':=by
 obtain ⟨X,G,D⟩:=Zcr j cs name w0 h;obtain ⟨A,p,c,B,q,d,C⟩:=h.cells;subst C;have I:∀w:World,_:=λw=>YN w (.cells (wcells (kindJ j) (bJ j) (nJ j) (sJ j) (.slice A p c) (.slice B q d) (atJ j)).toArray 25) (.cells #[.int .i64 0,.bool false,.int .i64 0,.string ⟨#[]⟩,.slice none 0 0,.slice none 0 0,.int .i64 0] 25);obtain ⟨R,p1,U,S,p2,V,C⟩:=G.cells;cases hm:memJ j name with
 |none=>
  have hz:kindJ ((getJ j name).getD (.null 0))=0:=by
   unfold memJ at hm;cases Y:getJ j name with
   |none=>rfl
   |some y=>
    rw[Y] at hm;simp only at hm;by_cases h0:kindJ y=0
    ·exact h0
    ·rw[Zf h0] at hm;cases hm
  refine ⟨wcells 0 false 0 ⟨#[]⟩ (.slice none 0 0) (.slice none 0 0) 0,RJ.null w0,λw Q=> ?_⟩;have O:=I w;have J:=gd (λw' (hx:Ext w w')=>D w' (Q.trans hx));rw[hz] at C;generalize bJ ((getJ j name).getD (.null 0))=Bb,nJ ((getJ j name).getD (.null 0))=Nn,sJ ((getJ j name).getD (.null 0))=Ss,atJ ((getJ j name).getD (.null 0))=At at C;generalize (getJ j name).isSome=ok at J;subst C;clear h G D I;unfold wcells at*
  replace J:Hid (∀w',Ext w w'->Calls prog 26 #[.agg #[.int .i64 (kindJ j:Nat),.bool (bJ j),.int .i64 (nJ j),.string (sJ j),.slice A p c,.slice B q d,.int .i64 (atJ j:Nat)],.string name] w' λe w2=>e= .returned (.tuple #[.agg #[.int .i64 0,.bool Bb,.int .i64 Nn,.string Ss,.slice R p1 U,.slice S p2 V,.int .i64 (At:Nat)],.bool ok])/\Ext w' w2):=J
  go_enter func41,ntmps41
  go_wp2_with (first|(go_at_call 26;(refine Za (J.out _ (((Ext.refl w).alloc _).alloc _)) ?_);rintro e w1 ⟨rfl,H⟩;(have F:=(H.alloc (.cells #[.int .i64 0,.bool Bb,.int .i64 Nn,.string Ss,.slice R p1 U,.slice S p2 V,.int .i64 (At:Nat)] 25)).heap O))|(refine Zg rfl 25 (.tmp 4) (.tmp 17) rfl (w.heap.size+1) _ rfl rfl _ _ F Yv rfl (G3 (k:=0) (b:=false) (n:=0) (s:=⟨#[]⟩) (A:=none) (B:=none) (p:=0) (c:=0) (q:=0) (d:=0) (a:=0)) ?_))
  ((try simp only[Exit.inBlock,Exit.then]);refine Zm (ZW rfl _ _ _ _ _ _ _ rfl (Zk _ _ _ _ _ _ F) underlying25 rfl Yv) rfl ?_);exact ⟨rfl,((((((Ext.refl w).alloc _).alloc _).trans H).alloc _)).setRow (ZM _) _⟩
 |some x=>
  obtain ⟨Y,ha⟩:=Za4 hm;rw[Y] at G D C;refine ⟨X,G,λw Q=> ?_⟩;have O:=I w;have J:=gd (λw' (hx:Ext w w')=>D w' (Q.trans hx));have Z:¬((kindJ x:Nat):Int)=0:=by omega
  replace C:X=wcells (kindJ x) (bJ x) (nJ x) (sJ x) (.slice R p1 U) (.slice S p2 V) (atJ x):=C
  generalize kindJ x=K at C Z;generalize bJ x=Bb,nJ x=Nn,sJ x=Ss,atJ x=At at C;subst C;clear h G D I Y;unfold wcells at*
  replace J:Hid (∀w',Ext w w'->Calls prog 26 #[.agg #[.int .i64 (kindJ j:Nat),.bool (bJ j),.int .i64 (nJ j),.string (sJ j),.slice A p c,.slice B q d,.int .i64 (atJ j:Nat)],.string name] w' λe w2=>e= .returned (.tuple #[.agg #[.int .i64 (K:Nat),.bool Bb,.int .i64 Nn,.string Ss,.slice R p1 U,.slice S p2 V,.int .i64 (At:Nat)],.bool true])/\Ext w' w2):=J
  go_enter func41,ntmps41
  go_wp2_with (first|(go_at_call 26;(refine Za (J.out _ (((Ext.refl w).alloc _).alloc _)) ?_);rintro e w1 ⟨rfl,H⟩;(have F:=(H.alloc (.cells #[.int .i64 (K:Nat),.bool Bb,.int .i64 Nn,.string Ss,.slice R p1 U,.slice S p2 V,.int .i64 (At:Nat)] 25)).heap O))|(refine Zg rfl 25 (.tmp 4) (.tmp 18) rfl (w.heap.size+1) _ rfl rfl _ _ F Yv rfl (G3 (k:=K) (b:=Bb) (n:=Nn) (s:=Ss) (A:=R) (B:=S) (p:=p1) (c:=U) (q:=p2) (d:=V) (a:=At)) ?_))
  ((try simp only[Exit.inBlock,Exit.then]);refine Zm (ZW rfl _ _ _ _ _ _ _ rfl (Zk _ _ _ _ _ _ F) underlying25 rfl Yv) rfl ?_);exact ⟨rfl,((((((Ext.refl w).alloc _).alloc _).trans H).alloc _)).setRow (ZM _) _⟩
theorem V4 (j:JO) (cs:List Value) (name:ByteArray) (w0 w:World) (h:RJ w0 j cs) (A:Ext w0 w):
 Calls prog 41 #[.agg cs.toArray,.string name] w λe w'=>GotM w0 (memJ j name) e/\Ext w w':=by
 obtain ⟨C,D,F⟩:=XZ j cs name w0 h;refine (F w A).mono λe w' ⟨G,H⟩=>⟨⟨(memJ j name).getD (.null 0),C,G,D,?_⟩,H⟩;cases memJ j name with
 |none=>exact Or.inr ⟨rfl,rfl⟩
 |some x=>exact Or.inl rfl
theorem UN (j:JO) (cs:List Value) (b:Nat) (o:Option (Nat×Nat)) (name:ByteArray) (w0 w:World) (h:RJ w0 j cs) (C:Ext w0 w) (D:RdAt b cs o w):
 Calls prog 33 #[.pointer (some ⟨b,0,none⟩),.string name] w λe w'=>GotM w0 (memJ j name) e/\Ext w w':=by
 obtain ⟨A,p,c,B,q,d,rfl⟩:=h.cells;exact Zfw j _ _ _ _ A B p c q d _ b o name w0 w h C D
theorem UL (j:JO) (cs:List Value) (b:Nat) (o:Option (Nat×Nat)) (at_ e:Nat) (w0 w:World) (h:RJ w0 j cs) (H:RdAt b cs o w) (G:e≠0):
 Calls prog 34 #[.pointer (some ⟨b,0,none⟩),.int .i64 (at_:Nat),.int .i64 (e:Nat)] w λr w'=>r= .returned (.tuple #[])/\RdAt b cs (orF o (some (at_,e))) w'/\Bar b w w':=by
 obtain ⟨A,p,c,B,q,d,rfl⟩:=h.cells;refine (ZeE b _ _ _ _ _ _ _ o at_ e w H G).mono ?_;rintro r w' ⟨C,D,F⟩;exact ⟨C,by cases o<;>exact D,F⟩
theorem Jv {w:World} {A k:Nat} {j:List ByteArray} (h:w.heap[A]? =some (.cells (j.map Value.string).toArray 9 (0,0))) (C:k<j.length):w.cell? ⟨A,k,none⟩=some (.string j[k]):=by
 rw[ZN h];simp[C]
theorem IY (N:Nat) (j:JO) (cs:List Value) (b sb:Nat) (o:Option (Nat×Nat)) (A:List ByteArray) (w0 w:World) (h:RJ w0 j cs) (hg:jsz N j) (hN:N<=16777216) (hE:Env w0) (hD:Ext w0 w) (ho:w0.heap.size<=b) (hr:RdAt b cs o w)
 (hs:w.heap[sb]? =some (.cells (A.map Value.string).toArray 9 (0,0))) (hB:sb≠b) (hn:A.length<=1000):
 Calls prog 28 #[.pointer (some ⟨b,0,none⟩),.slice (some ⟨sb,0,none⟩) A.length A.length] w λe w'=>e= .returned (.tuple #[])/\RdAt b cs (orF o (chkJ j false A)) w'/\Bar b w w':=by
 have hj:=gd (λw' name o' (hx:Ext w0 w') (hh:RdAt b cs o' w')=>UN j cs b o' name w0 w' h hx hh);have X:=gd (λw' at_ e o' (hh:RdAt b cs o' w') (he:e≠0)=>UL j cs b o' at_ e w0 w' h hh he);go_enter func28,ntmps28;go_wp2;go_loopw [12] (λi wr=>∃k:Nat,k<=A.length/\i= .int .i64 k/\RdAt b cs (orF o (chkJ j false (A.take k))) wr/\Bar b w wr) (λi _=>A.length - (intOf i).toNat)
 case atStart=>exact ⟨0,Zt _,rfl,by rw[List.take_zero];exact (by rw[Y9];exact hr:RdAt b cs (orF o none) w),Bar.refl _ _⟩
 case round=>
  obtain ⟨k,hk,rfl,H,Q⟩:=hrel;have ha:Ext w0 wr:=Bar.ext hD Q ho;have hC:=Q.heap hs hB;by_cases U:k<A.length
  ·have hd:=Jv hC U;have I:orF o (chkJ j false (A.take (k+1)))=orF (orF o (chkJ j false (A.take k))) (chk1 j A[k]):=(by rw[Zy U,Zep,QH,Xw]);generalize orF o (chkJ j false (A.take k))=O at H I;obtain ⟨NM,hl⟩:∃n,A[k]=n:=⟨_,rfl⟩;rw[hl] at hd I;have S:=gd I;have G:=hj.out wr NM O ha H;clear I hl;cases hm:memJ j NM with
   |none=>
    rw[hm] at G;have F:chk1 j NM=none:=(by unfold chk1;rw[hm]);rw[F,Y9] at S;have HG:=gd G;clear G
    go_wp2_with (go_at_call 33;(have Z:=HG.out);(with_reducible refine Za Z ?_);clear Z;rintro e w1 ⟨⟨x,cx,rfl,R,C⟩,D⟩;(obtain ⟨A1,p1,q1,B1,p2,q2,V⟩:=R.cells);(generalize kindJ _=K,bJ _=Bb,nJ _=Nn,sJ _=Ss,atJ _=At at V);unfold wcells at V;subst V)
    go_roundw
    case rel=>exact ⟨k+1,U,rfl,by rw[S.out];exact (H.ext D).ext ((Ext.refl _).alloc _),Q.trans (Bar.of (D.alloc _))⟩
    case measure=>simp[intOf];omega
   |some x=>
    rw[hm] at G;have HG:=gd G;clear G;have hv:=YM hg hm;have hJ:=Jk hv;have hf:=λw' (hu:Env w')=>UO (sJ x) w' hu (by unfold maxLen;omega);have F:chk1 j NM=if kindJ x≠3 then some (atJ x,21) else if (checkS (sJ x)).2≠0 then some (atJ x,(checkS (sJ x)).2) else none:=(by unfold chk1;rw[hm])
    have hq:kindJ x≠3->(checkS (sJ x)).2=0:=λh3=>(by rw[Zfz h3];rfl);generalize (checkS (sJ x)).1=C1,(checkS (sJ x)).2=C2 at hf F hq;have hb:=gd hf;clear hf;have hp:b<wr.heap.size:=(Ze.1 H.1).1;by_cases h3:kindJ x=3
    ·rw[Zf (by omega)] at F;have hw:(((kindJ x:Nat):Int) !=3)=false:=(by rw[h3];rfl);have hF:((kindJ x:Nat):Int)=3:=(by rw[h3];rfl);by_cases h0:C2=0
     ·subst h0;rw[Zf (by simp)] at F;rw[F,Y9] at S
      go_wp2_with (first|(go_at_call 33;(have Z:=HG.out);(with_reducible refine Za Z ?_);clear Z;rintro e w1 ⟨⟨y,cx,rfl,R,C⟩,D⟩;(obtain rfl:x=y:=by rcases C with C|C;(injection C);(cases C.1));(obtain ⟨A1,p1,q1,B1,p2,q2,V⟩:=R.cells);(unfold wcells at V);(generalize kindJ x=K,bJ x=Bb,nJ x=Nn,sJ x=Ss,atJ x=At at*);subst V)|(go_at_call 66;(with_reducible refine Za (hb.out _ ((hE.ext ha).ext (D.alloc _))) ?_);rintro e w2 ⟨rfl,J⟩))
      go_roundw
      case rel=>exact ⟨k+1,U,rfl,by rw[S.out];exact (H.ext (D.alloc _)).ext J,Q.trans (Bar.of ((D.alloc _).trans J))⟩
      case measure=>simp[intOf];omega
     ·rw[Zi h0] at F;have hG:¬((C2:Nat):Int)=0:=by omega
      go_wp2_with (first|(go_at_call 33;(have Z:=HG.out);(with_reducible refine Za Z ?_);clear Z;rintro e w1 ⟨⟨y,cx,rfl,R,C⟩,D⟩;(obtain rfl:x=y:=by rcases C with C|C;(injection C);(cases C.1));(obtain ⟨A1,p1,q1,B1,p2,q2,V⟩:=R.cells);(unfold wcells at V);(generalize kindJ x=K,bJ x=Bb,nJ x=Nn,sJ x=Ss,atJ x=At at*);subst V)|(go_at_call 66;(with_reducible refine Za (hb.out _ ((hE.ext ha).ext (D.alloc _))) ?_);rintro e w2 ⟨rfl,J⟩;(have hI:=J.boxed 6 _ rfl))|(go_at_call 34;(with_reducible refine Za (X.out w2 At C2 O ((H.ext (D.alloc _)).ext J) h0) ?_);rintro e w3 ⟨rfl,hi,Y⟩))
      go_roundw
      case rel=>exact ⟨k+1,U,rfl,by rw[S.out,F];exact hi,(Q.trans (Bar.of ((D.alloc _).trans J))).trans Y⟩
      case measure=>simp[intOf];omega
    ·rw[Zi (by simpa using h3)] at F;have hw:(((kindJ x:Nat):Int) !=3)=true:=(by simp;omega);have ht:=hq h3;subst ht
     go_wp2_with (first|(go_at_call 33;(have Z:=HG.out);(with_reducible refine Za Z ?_);clear Z;rintro e w1 ⟨⟨y,cx,rfl,R,C⟩,D⟩;(obtain rfl:x=y:=by rcases C with C|C;(injection C);(cases C.1));(obtain ⟨A1,p1,q1,B1,p2,q2,V⟩:=R.cells);(unfold wcells at V);(generalize kindJ x=K,bJ x=Bb,nJ x=Nn,sJ x=Ss,atJ x=At at*);subst V)|(go_at_call 66;(with_reducible refine Za (hb.out w3 (hE.ext (Bar.ext (ha.trans (D.alloc _)) Y ho))) ?_);rintro e w2 ⟨rfl,J⟩)|(go_at_call 34;(with_reducible refine Za (X.out _ At 21 O (H.ext (D.alloc _)) (by decide)) ?_);rintro e w3 ⟨rfl,hi,Y⟩;(have hA:w1.heap.size≠b:=Nat.ne_of_gt (Z3 hp D.size));(have hH:=Zb _ _ 3 _ _ _ (Y.heap (Zh w1 _) hA))))
     go_roundw
     case rel=>exact ⟨k+1,U,rfl,by rw[S.out,F];exact hi.ext J,((Q.trans (Bar.of (D.alloc _))).trans Y).trans (Bar.of J)⟩
     case measure=>simp[intOf];omega
  ·have hy:A.take k=A:=ZC (by omega);rw[hy] at H;go_wp2;((try simp only[Exit.inBlock,Exit.then]);refine bodyPost_end (results_none rfl _ _ _) rfl ?_);exact ⟨rfl,H,Q⟩
end Go.Proofs.YthlnaldahkgjnaaGreatDoor
