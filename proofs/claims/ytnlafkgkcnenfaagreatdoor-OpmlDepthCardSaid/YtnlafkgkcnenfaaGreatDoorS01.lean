/- Parts of the proof: contracts and plain laws. -/
import Derived.Test.YtnlafkgkcnenfaaGreatDoorProg
import Derived.Test.YtnlafkgkcnenfaaGreatDoorS00
namespace Go.Proofs.YtnlafkgkcnenfaaGreatDoor
open Go Go.RowKit Go.Shelf Tryz
set_option linter.unusedVariables false
set_option linter.unusedSimpArgs false
set_option maxRecDepth 100000
set_option maxHeartbeats 16000000
def isSp (c:Int):Bool:=decide (c=32\/c=9\/c=10\/c=13)
def isChar (r:Int):Bool:=decide (r=9\/r=10\/r=13\/(32<=r/\r<=55295)\/(57344<=r/\r<=65533)\/(65536<=r/\r<=1114111))
def dec (l:List UInt8):Nat×Nat:=
 if l= [] then (0,0) else if (Lib.decodeL l).1=65533/\(Lib.decodeL l).2=1 then (0,0) else Lib.decodeL l
def checkGo:Nat->Nat->List UInt8->Nat×Nat
 |0,at_,_=>(at_,0)
 |n+1,at_,l=>if l= [] then (at_,0) else if (dec l).2=0 then (at_,5) else if isChar (dec l).1=false then (at_,6) else checkGo n (at_+(dec l).2) (l.drop (dec l).2)
def check (l:List UInt8):Nat×Nat:=checkGo l.length 0 l
def collGo:List UInt8->List UInt8->Bool->List UInt8
 | [],out,_=>out
 |c::t,out,gap=>if isSp c.toNat then collGo t out (!out.isEmpty) else collGo t (out++(if gap then [32] else [])++ [c]) false
def coll (l:List UInt8):List UInt8:=collGo l [] false
def str (l:List UInt8):ByteArray:=⟨l.toArray⟩
@[simp] theorem Z5 (l:List UInt8):(str l).data.toList=l:=by simp[str]
@[simp] theorem Yu (l:List UInt8):(str l).size=l.length:=by simp[str,ByteArray.size]
theorem Zad (s:ByteArray):str s.data.toList=s:=by simp[str]
def collapse (s:ByteArray):ByteArray:=str (coll s.data.toList)
def checkS (s:ByteArray):Nat×Nat:=check s.data.toList
def validS (s:ByteArray):Bool:=decide ((checkS s).2=0) && ((collapse s).data.toList==s.data.toList)
theorem U3 (l:List UInt8):Lib.decodeL l=Lib.decodeN l.length (l.getD 0 0).toNat (l.getD 1 0).toNat (l.getD 2 0).toNat (l.getD 3 0).toNat:=by
 unfold Lib.decodeL;rw[Lib.decode_at];have h:∀k,(ByteArray.mk l.toArray).get! k=l.getD k 0:=by intro k;simp[ByteArray.get!,Yk];rfl
 simp only[h];simp[ByteArray.size]
theorem Ig (n h q A D:Nat) (F:1<=n):1<=(Lib.decodeN n h q A D).2/\(Lib.decodeN n h q A D).2<=n:=by
 unfold Lib.decodeN
 repeat' split
 all_goals (simp only[];omega)
theorem Up (l:List UInt8):(dec l).2<=l.length:=by
 unfold dec;by_cases h:l= []
 ·simp[h]
 ·rw[Ze h];have q:1<=l.length:=Jm.2 h;split
  ·simp
  ·rw[U3];exact (Ig _ _ _ _ _ q).2
theorem UM (n k:Nat) (l:List UInt8) (h:l≠ []):checkGo (n+1) k l=if (dec l).2=0 then (k,5) else if isChar (dec l).1=false then (k,6) else checkGo n (k+(dec l).2) (l.drop (dec l).2):=by
 simp only[checkGo,Ze h]
theorem GX:∀(n m k:Nat) (l:List UInt8),l.length<=n->l.length<=m->checkGo n k l=checkGo m k l
 |0,m,k,l,h,_=>by
  have q:l= []:=Zw (by omega)
  subst q
  cases m<;>simp[checkGo]
 |n+1,0,k,l,_,h=>by
  have q:l= []:=Zw (by omega)
  subst q
  simp[checkGo]
 |n+1,m+1,k,l,h1,h2=>by
  by_cases q:l= []
  ·subst q;simp[checkGo]
  ·rw[UM n k l q,UM m k l q]
   by_cases A:(dec l).2=0
   ·rw[Zh A,Zh A]
   ·rw[Ze A,Ze A]
    by_cases D:isChar (dec l).1=false
    ·rw[Zh D,Zh D]
    ·rw[Ze D,Ze D]
     exact GX n m _ _ (by simp;omega) (by simp;omega)
theorem Za9 (n k:Nat):checkGo n k []=(k,0):=by cases n<;>simp[checkGo]
theorem Zc8 (l:List UInt8) (k:Nat) (H:k<l.length):checkGo l.length k (l.drop k)=if (dec (l.drop k)).2=0 then (k,5) else if isChar (dec (l.drop k)).1=false then (k,6) else checkGo l.length (k+(dec (l.drop k)).2) (l.drop (k+(dec (l.drop k)).2)):=by
 have D:l.drop k≠ []:=by intro h;have:=Zz List.length h;simp at this;omega
 obtain ⟨n,F⟩:∃n,l.length=n+1:=⟨l.length - 1,by omega⟩;rw[show checkGo l.length k (l.drop k)=checkGo (n+1) k (l.drop k) by rw[F],UM n k _ D,List.drop_drop];by_cases q:(dec (l.drop k)).2=0
 ·rw[Zh q,Zh q]
 ·rw[Ze q,Ze q];by_cases A:isChar (dec (l.drop k)).1=false
  ·rw[Zh A,Zh A]
  ·rw[Ze A,Ze A];exact GX _ _ _ _ (by rw[Zj];omega) (by rw[Zj];omega)
theorem Za8 (l:List UInt8) (k:Nat) (h:l.length<=k):checkGo l.length k (l.drop k)=(k,0):=by
 rw[ZC h];exact Za9 _ _
section
variable {b w w':World} {base k n:Nat} {e:TypeId} {v:Value} {xs:List Value}
def Ext (w w':Wq):Prop:=Below w.heap.size w w'
theorem Ext.refl (w:Wq):Ext w w:=Zar _ _
theorem Ext.size {a:Wq} (h:Ext a b):a.heap.size<=b.heap.size:=Below.size h
theorem Ext.trans {a c:Wq} (h:Ext a b) (k:Ext b c):Ext a c:=Below.trans h (Zgh k h.size)
theorem Ext.drew {a:Wq} (h:Ext a b):Ext a b.drew:=Below.drew h
theorem Ext.alloc {a:Wq} (h:Ext a b) (o:Obj):Ext a (b.alloc o):=Below.alloc h h.size o
theorem Ext.setCell {a:Wq} (h:Ext a b) {p:Addr} (q:a.heap.size<=p.block) (u:Value):Ext a (b.setCell p u):=Below.setCell h q u
theorem Ext.below {a:Wq} (h:Ext a b):Below a.heap.size a b:=h
theorem Ext.then {a c:Wq} (h:Ext a b) (k:Below a.heap.size b c):Ext a c:=Below.trans h k
theorem Ext.cell {a:Wq} (h:Ext a b) {p:Addr} (q:a.cell? p=some v):b.cell? p=some v:=
 (Below.cell h (ZS a p q)).trans q
theorem Ext.heap {a:Wq} (h:Ext a b) {o:Obj} (q:a.heap[k]? =some o):b.heap[k]? =some o:=
 (Below.block h k (ZG.1 q).1).trans q
theorem Ext.grown {a:Wq} (h:Ext a b) (row:Option Nat):a.grownBy b row:=⟨h.os,h.tape,h.output,h.size,λk q _=>Below.block h k q⟩
theorem Z2 (s:ByteArray):s.toList=s.data.toList:=Q8 s
theorem GL (a b:ByteArray):(a.toList==b.toList)=(a.data.toList==b.data.toList):=by rw[Z2,Z2]
theorem Vl {a b:ByteArray} (h:a.data.toList=b.data.toList):a=b:=by
 cases a;cases b
 congr
 exact Array.toList_inj.1 h
theorem IT {k k':IntKind} {a b c d:Int} (h:a=b) (q:c=d):Ending.returned (.tuple #[.int k a,.int k' c])= .returned (.tuple #[.int k b,.int k' d]):=by rw[h,q]
structure Env (w:World):Prop where
 utf8:Lib.Utf8Tabs 3 4 w
 pow : Lib.TabIs prog w "internal/strconv.uint64pow10" .u64 Lib.pow10Tab
 size:6<=w.heap.size
 letters:∃t fr,w.heap[6]? =some (.cells #[.int .u8 98,.int .u8 8,.int .u8 102,.int .u8 12,.int .u8 110,.int .u8 10,.int .u8 114,.int .u8 13,.int .u8 116,.int .u8 9] t fr)
theorem Zk4 : prog.globalNamed "internal/strconv.uint64pow10" = some 5 := by kernel_rfl
theorem Env.ext (I:Env w) (h:Ext w w'):Env w':=by
 obtain ⟨q,D,F,H⟩:=I;refine ⟨⟨λc J=>h.cell (q.1 c J),λi A=>⟨h.cell (q.2 i A).1,h.cell (q.2 i A).2⟩⟩,?_,Zu F h.size,?_⟩
 ·exact var?_below (B:=w.heap.size) h Zk4 (by omega) D
 ·obtain ⟨t,fr,K⟩:=H;exact ⟨t,fr,h.heap K⟩
theorem Env.alloc (h:Env w) (o:Obj):Env (w.alloc o):=h.ext ((Ext.refl w).alloc o)
theorem VD (a:Addr) (n:Nat):(a.add n).block=a.block:=by unfold Addr.add;split<;>rfl
theorem add_zero (a:Addr):a.add 0=a:=by unfold Addr.add;simp
structure RSl (w:Wq) (size:Nat) (v:Value) (n:Nat) (xs:List Value):Prop where
 len:xs.length=n*size
 form:∃A c,v= .slice A n c/\n<=c/\c<=maxLen/\(A=none->c=0)/\∀j u,xs[j]? =some u->∃ad,A=some ad/\w.cell? (ad.add j)=some u
theorem RSl.ext {size:Nat} (h:RSl w size v n xs) (Q:Ext w w'):RSl w' size v n xs:=by
 obtain ⟨q,A,c,e,D,F,H,I⟩:=h;exact ⟨q,A,c,e,D,F,H,λj u M=>let ⟨ad,J,K⟩:=I j u M;⟨ad,J,Q.cell K⟩⟩
theorem RSl.nil (w:Wq) (size:Nat):RSl w size sN 0 []:=⟨by simp,none,0,rfl,Zb _,Zk _,λ_=>rfl,λj u h=>by simp at h⟩
theorem RSl.of_own {size:Nat} (h:w.ownsRow base e size v n xs):RSl w size v n xs:=by
 refine ⟨h.1,?_⟩;rcases h.2 with ⟨rfl,rfl⟩|⟨g,cap,A,rfl,H,I,F,D,J,K⟩
 ·exact ⟨none,0,rfl,Zb _,Zk _,λ_=>rfl,λj u q=>by have:=h.1;simp at this;subst this;simp at q⟩
 ·exact ⟨some ⟨g,0,none⟩,cap,rfl,F,D,(λe=>by cases e),λj u q=>⟨_,rfl,h.cells (g:=g) rfl j u q⟩⟩
end
section
variable {P:Program} {W w:World} {a:Act} {g id:Nat} {o:Oper} {ops:Array Oper} {v:Value}
structure Aft (W:Wq) where
 w:Wq
 ext:Ext W w
instance (W:World):Nonempty (Aft W):=⟨⟨W,Ext.refl W⟩⟩
theorem Za2 {Q:Exit->Act->Wq->Prop} {l:List Oper} (A:P.follows .mixedOrders=true) (q:Region.lexB .any l.toArray=true)
 (h:wpQuiet P l.toArray (λw'=>∃d:Aft w,w'=d.w) (λa'=>∀w',(∃d:Aft w,w'=d.w)->Q .normal a' w') l a):(Code.region id l.toArray true).wp P Q a w:=
 wp_region_quiet (C:=λw'=>∃d:Aft w,w'=d.w) A q ⟨⟨_,(Ext.refl w).drew⟩,rfl⟩ (by simpa using h)
theorem ZO {f:FuncId} {args:Array Value} {d:Aft W} (h:Calls P f args d.w λe w'=>e= .returned v/\Ext d.w w'):Calls P f args d.w λe w'=>e= .returned v/\∃d:Aft W,w'=d.w:=
 h.mono λ_ w' ⟨A,q⟩=>⟨A,⟨w',d.ext.trans q⟩,rfl⟩
theorem Aft.cell {p:Addr} (h:W.cell? p=some v) (d:Aft W):d.w.cell? p=some v:=d.ext.cell h
theorem Yc {K:Act->Wq->Prop} {Q:Exit->Act->Wq->Prop} {E:Prop} (D:o.guard=none) (ty:TypeId) (x y:Operand) (J:o.op= .store ty x y)
 (g:Nat) (cells:Array Value) (R:a.eval x= .pointer (some ⟨g,0,none⟩)) (S:a.eval y= .agg cells)
 (t:TypeId) (q:Array Value) (H:w.heap[g]? =some (.cells q t (0,0))) (I:(P.info? ty).map (·.size)=some cells.size)
 (A:q.size=cells.size) (F:cells.all (·.oneCell')=true)
 (h:K (a.put o.dst undef) (w.setRow g cells)):if Region.wanted o (yielded ops a.tmps)=true then Oper.wp P o a w K Q else E:=by
 have M:Region.wanted o (yielded ops a.tmps)=true:=by simp[Region.wanted,D]
 rw[Zh M];exact wp_store_row ty x y J g cells R S t q H I A F h
theorem Zkt {a b c d e:Value} {t:TypeId} {fr:Nat×Nat} (h:w.heap[g]? =some (.cells #[a,b,c,d,e] t fr)):
 w.cell? ⟨g,0,none⟩=some a/\w.cell? ⟨g,1,none⟩=some b/\w.cell? ⟨g,2,none⟩=some c/\w.cell? ⟨g,3,none⟩=some d/\w.cell? ⟨g,4,none⟩=some e:=by
 refine ⟨?_,?_,?_,?_,?_⟩<;>(rw[Xc _ _ _ _ _ _ h];rfl)
theorem Zku {a b c d e f:Value} {t:TypeId} {fr:Nat×Nat} (h:w.heap[g]? =some (.cells #[a,b,c,d,e,f] t fr)):
 w.cell? ⟨g,0,none⟩=some a/\w.cell? ⟨g,1,none⟩=some b/\w.cell? ⟨g,2,none⟩=some c/\w.cell? ⟨g,3,none⟩=some d/\w.cell? ⟨g,4,none⟩=some e/\w.cell? ⟨g,5,none⟩=some f:=by
 refine ⟨?_,?_,?_,?_,?_,?_⟩<;>(rw[Xc _ _ _ _ _ _ h];rfl)
end
section
variable {W w:World} {a:Act} {g i id j:Nat} {o oi:Oper} {rest:List Oper} {v:Value}
section
variable {P:Program} {ops:Array Oper} {W:World}
def yields1 (P:Program) (W:Wq) (o:Oper) (a:Act) (v:Value):Prop:=∀c:Aft W,o.quietAt P a (λw'=>∃e:Aft c.w,w'=e.w) c.w v
def calm1 (P:Program) (W:Wq) (o:Oper) (a:Act) (next:Act->Prop):Prop:=∃v,(∀c:Aft W,o.quietAt P a (λw'=>∃e:Aft c.w,w'=e.w) c.w v)/\next (a.put o.dst v)
theorem Za1 {C:Wq->Prop} {K:Act->Wq->Prop} {Q':Exit->Act->Wq->Prop} (h:o.quietAt P a C w v) (A:C w) (hK:∀w',C w'->K (a.put o.dst v) w'):o.wp P a w K Q':=by
 unfold Oper.quietAt at h;unfold Oper.wp;cases hr:(execOp a.eval o).run P w with
 |halt x w'=>rw[hr] at h;exact h.elim
 |ok n w'=>
  rw[hr] at h;cases n<;>simp only[Oper.quietUpon] at h<;>simp only[Oper.upon]
  case value u=>rw[h.1,h.2];exact hK w A
  case skip=>rw[h.1,<-h.2];exact hK w A
  case enter f args=>rw[h.1];exact h.2.mono λe q ⟨F,D⟩=>by rw[F];exact hK q D
def wpCalm (P:Program) (ops:Array Oper) (W:Wq) (Q:Act->Prop):List Oper->Act->Prop
 | [],a=>Q a
 |o::rest,a=>if Region.wanted o (yielded ops a.tmps) then calm1 P W o a (wpCalm P ops W Q rest) else wpCalm P ops W Q rest (a.put o.dst undef)
theorem GO {Q:Act->Prop} (h:Q a):wpCalm P ops W Q [] a:=h
theorem QO {Q:Act->Prop} (h:∀K:Act->Prop,(∀a,wpCalm P ops W Q rest a->K a)->if Region.wanted o (yielded ops a.tmps) then calm1 P W o a K else K (a.put o.dst undef)):wpCalm P ops W Q (o::rest) a:=
 h _ λ_ h=>h
def cOp (P:Program) (ops:Array Oper) (W:Wq) (i:Nat) (K:Act->Prop) (a:Act):Prop:=
 match ops[i]? with
 |none=>K a
 |some o=>if Region.wanted o (yielded ops a.tmps) then calm1 P W o a K else K (a.put o.dst undef)
theorem Zh4 {K A:Act->Prop} (h:∀a,K a->A a) (q:cOp P ops W i K a):cOp P ops W i A a:=by
 unfold cOp at*;cases ho:ops[i]? with
 |none=>rw[ho] at q;exact h _ q
 |some o=>
  rw[ho] at q;simp only at q|-;by_cases D:Region.wanted o (yielded ops a.tmps)=true
  ·rw[Zh D] at q|-;obtain ⟨v,F,H⟩:=q;exact ⟨v,F,h _ H⟩
  ·rw[Ze D] at q|-;exact h _ q
def YC (P:Program) (ops:Array Oper) (W:Wq) (o:Oper) (v:Value) (a:Act):Prop:=
 (Region.wanted o (yielded ops a.tmps)=true/\yields1 P W o a v)\/(Region.wanted o (yielded ops a.tmps)=false/\v=undef)
theorem YC.cOp (A:ops[i]? =some o) (F:YC P ops W o v a) {K:Act->Prop} (h:K (a.put o.dst v)):cOp P ops W i K a:=by
 unfold Go.Proofs.YtnlafkgkcnenfaaGreatDoor.cOp;rw[A];simp only;rcases F with ⟨q,D⟩|⟨q,rfl⟩
 ·rw[Zh q];exact ⟨v,D,h⟩
 ·rw[Ze (by simp[q])];exact h
theorem YC.of_same {a':Act} (A:YC P ops W o v a) (h:execOp a'.eval o=execOp a.eval o)
 (q:Region.wanted o (yielded ops a'.tmps)=Region.wanted o (yielded ops a.tmps)):YC P ops W o v a':=by
 unfold YC yields1 Oper.quietAt at*;rw[h,q];exact A
theorem ZbY {K:Act->Prop} (F:ops[i]? =some o) (h:cOp P ops W i K a):∃v,YC P ops W o v a/\K (a.put o.dst v):=by
 unfold cOp at h;rw[F] at h;simp only at h;by_cases q:Region.wanted o (yielded ops a.tmps)=true
 ·rw[Zh q] at h;obtain ⟨v,A,D⟩:=h;exact ⟨v,.inl ⟨q,A⟩,D⟩
 ·rw[Ze q] at h;exact ⟨undef,.inr ⟨by simpa using q,rfl⟩,h⟩
theorem ZjC {oj:Oper} (J:ops[j]? =some oj) (q:oi.apart ops oj=true)
 (A:∀cs b,oi.op≠ .select cs b) (D:∀cs b,oj.op≠ .select cs b) {K:Act->Prop}
 (R:YC P ops W oi v a) (h:cOp P ops W j K (a.put oi.dst v)):cOp P ops W j (λa'=>YC P ops W oi v a'/\K (a'.put oi.dst v)) a:=by
 obtain ⟨H,M,I⟩:=Oper.apart_spec q;obtain ⟨u,Q,hK⟩:=ZbY J h;have F:YC P ops W oj u a:=Q.of_same (execOp_put oj D a oi.dst v H).symm (wanted_put oj a oi.dst v H).symm;refine F.cOp J ⟨R.of_same (execOp_put oi A a oj.dst u I) (wanted_put oi a oj.dst u I),?_⟩;rw[<-Act.put_comm a v u M];exact hK
end
section
variable {P:Program} {ops:Array Oper} {md:Region.Mode} {W:World} {p n:Nat} {d:Option Tmp}
def anyD (P:Program) (md:Region.Mode) (ops:Array Oper) (W:Wq) (p n:Nat) (d:Option Tmp) (L:Array Bool->Option Nat->Act->Prop):Nat->Array Bool->Option Nat->Act->Prop
 |0,listed,gs,a=>L listed gs a
 |f+1,listed,gs,a=>Region.ready md ops listed≠ []/\∀i∈Region.ready md ops listed,i<n/\
  ((i=p->∀g,W.heap.size<=g->anyD P md ops W p n d L f (listed.setIfInBounds p true) (some g) (a.put d (.pointer (some ⟨g,0,none⟩))))/\
   (i≠p->cOp P ops W i (anyD P md ops W p n d L f (listed.setIfInBounds i true) gs) a))
def blkOf (B:Nat) (O:Obj) (w:Wq):Option Nat->Prop
 |none=>True
 |some g=>B<=g/\w.heap[g]? =some O
theorem ZeO {op:Oper} {L:Array Bool->Option Nat->Act->Prop} (hi:ops[i]? =some oi) (hp:p<ops.size->ops[p]? =some op) (hd:p<ops.size->op.dst=d) (hh:i≠p)
 (I:∀(j:Nat) (o:Oper) cs b,ops[j]? =some o->o.op≠ .select cs b)
 (hs:Region.sinkB md ops n=true) (hc:Region.chainB md ops n=true) (hn:n<ops.size) (hf:i<n)
 (V:∀listed gs a,L listed gs a->∀j∈Region.ready md ops listed,n<=j):
 ∀(f:Nat) (listed:Array Bool) (gs:Option Nat) (a:Act),HeadInv md ops n listed->
  (∀j oj,ops[j]? =some oj->j≠i->listed.getD j true=false->(∀e∈oj.after,Region.binds md e=true->e.on≠i)->oi.apart ops oj=true)->
  i∈Region.ready md ops listed->YC P ops W oi v a->
  anyD P md ops W p n d L f (listed.setIfInBounds i true) gs (a.put oi.dst v)->anyD P md ops W p n d L (f+1) listed gs a:=by
 intro f
 induction f with
 |zero=>
  intro listed gs a inv _ M hy H;have Q:=(QB.1 M).1;refine ⟨λh=>(by rw[h] at M;cases M),λj J=> ?_⟩;have D:j<n:=by
   rcases Xq j n with h|h
   ·exact h
   ·exact absurd J (tail_waits hs hc hn inv _ i rfl hf Q j h)
  have hq:j=i:=by
   rcases Nat.decEq j i with h|h
   ·have R:=V _ _ _ H j (XR J h);omega
   ·exact h
  exact ⟨D,λh=>absurd (hq.symm.trans h) hh,λ_=>by subst hq;exact hy.cOp hi H⟩
 |succ f ih=>
  intro listed gs a inv F M hy H;have Q:=(QB.1 M).1;refine ⟨λh=>(by rw[h] at M;cases M),λj J=> ?_⟩;have D:j<n:=by
   rcases Xq j n with h|h
   ·exact h
   ·exact absurd J (tail_waits hs hc hn inv _ i rfl hf Q j h)
  obtain ⟨S,oj,K,Y⟩:=QB.1 J;have ho:∀e∈oj.after,Region.binds md e=true->e.on≠i:=λe he hb ht=>by have R:=Y e he hb;rw[ht,getD_both Q] at R;cases R
  have A:∀k ok,ops[k]? =some ok->k≠i->(listed.setIfInBounds j true).getD k true=false->(∀e∈ok.after,Region.binds md e=true->e.on≠i)->oi.apart ops ok=true:=λk ok hk hu U hv=>by
   refine F k ok hk hu ?_ hv;by_cases hl:j=k
   ·subst hl;exact S
   ·rw[YN true hl] at U;exact U
  by_cases q:j=i
  ·subst q;exact ⟨D,λh=>absurd h hh,λ_=>hy.cOp hi H⟩
  ·have Z:=F j oj K q S ho;have ha:(listed.setIfInBounds i true).setIfInBounds j true=(listed.setIfInBounds j true).setIfInBounds i true:=(Uj _ _ q).symm;refine ⟨D,λX=> ?_,λX=> ?_⟩
   ·subst X;intro g hg;have R:=((H.2 j (XR J q)).2.1 rfl) g hg;rw[ha] at R;have hm:j<ops.size:=(by omega);have hw:oj=op:=YO (K.symm.trans (hp hm));obtain ⟨_,q2,q3⟩:=Oper.apart_spec Z;rw[hw,hd hm] at q2 q3;refine ih _ _ _ (inv.set J D) A (XR M (Ne.symm q)) (hy.of_same (execOp_put oi (λcs b=>I i oi cs b hi) a d _ q3) (wanted_put oi a d _ q3)) ?_;rw[<-Act.put_comm a _ _ q2];exact R
   ·have R:=(H.2 j (XR J q)).2.2 X;have h2:=ZjC K Z (λcs b=>I i oi cs b hi) (λcs b=>I j oj cs b K) hy R;refine Zh4 (λa' h3=>ih _ _ a' (inv.set J D) A (XR M (Ne.symm q)) h3.1 ?_) h2;rw[<-ha];exact h3.2
def setFrom:Nat->Nat->Array Bool->Array Bool
 |0,_,x=>x
 |f+1,k,x=>setFrom f (k+1) (x.setIfInBounds k true)
def lexQ (md:Region.Mode) (ops:Array Oper):Nat->Nat->Array Bool->Bool
 |0,_,_=>true
 |f+1,k,listed=>(Region.ready md ops listed).contains k && Region.free md ops listed k && lexQ md ops f (k+1) (listed.setIfInBounds k true)
theorem IY {op:Oper} {Qh:Act->Prop} {L:Array Bool->Option Nat->Act->Prop} (Q:p<ops.size->ops[p]? =some op) (K:p<ops.size->op.dst=d)
 (A:Region.noSelect ops=true) (R:Region.sinkB md ops n=true) (J:Region.chainB md ops n=true) (M:n<ops.size)
 (q:∀listed gs a,L listed gs a->∀j∈Region.ready md ops listed,n<=j) (m:Nat):
 ∀(l:List Oper) (k:Nat) (listed:Array Bool) (a:Act),(∀j,j<l.length->l[j]? =ops[k+j]?)->k+l.length<=n->(p<k\/k+l.length<=p)->HeadInv md ops n listed->
 lexQ md ops l.length k listed=true->wpCalm P ops W Qh l a->(∀a',HeadInv md ops n (setFrom l.length k listed)->Qh a'->anyD P md ops W p n d L m (setFrom l.length k listed) none a')->
 anyD P md ops W p n d L (l.length+m) listed none a
 | [],k,listed,a,_,_,_,inv,_,h,hend=>by rw[ZK,Ym];exact hend a inv h
 |o::l,k,listed,a,hl,hk,hpk,inv,hB,h,hend=>by
  have F:ops[k]? =some o:=by simpa using (hl 0 (by simp)).symm
  simp only[Zf] at hk hpk;simp only[Zf,lexQ,ZZ] at hB;obtain ⟨⟨U,S⟩,H⟩:=hB;have D:k∈Region.ready md ops listed:=by simpa using U
  have I:cOp P ops W k (wpCalm P ops W Qh l) a:=by unfold cOp;simp only[F];exact h
  obtain ⟨v,V,hK⟩:=ZbY F I;rw[Zf,show l.length+1+m=(l.length+m)+1 by omega];exact ZeO F Q K (by omega) (Region.noSelect_spec A) R J M (by omega) q _ listed none a inv (Region.free_spec F S) D V
   (IY Q K A R J M q m l (k+1) _ _ (λj X=>by have:=hl (j+1) (by simp;omega);simpa [Nat.add_assoc,Nat.add_comm 1 j] using this) (by omega) (by omega) (inv.set D (by omega)) H hK hend)
theorem Gm {O:Obj} {op:Oper} {L:Array Bool->Option Nat->Act->Prop} {Q':Exit->Act->Wq->Prop} (hp:p<ops.size->ops[p]? =some op)
 (A:p<ops.size->∀(a:Act) (w:Wq) (K:Act->Wq->Prop),K (a.put d (.pointer (some ⟨w.heap.size,0,none⟩))) (w.alloc O)->if Region.wanted op (yielded ops a.tmps)=true then op.wp P a w K Q' else K (a.put op.dst undef) w)
 (hL:∀listed gs a w,Ext W w->blkOf W.heap.size O w gs->L listed gs a->wpAny P md ops Q' g listed a w) (f:Nat):
 ∀(listed:Array Bool) (gs:Option Nat) (a:Act) (w:Wq),Ext W w->blkOf W.heap.size O w gs->anyD P md ops W p n d L f listed gs a->wpAny P md ops Q' (f+g) listed a w:=by
 induction f with
 |zero=>intro listed gs a w D I h;rw[Ym];exact hL _ _ _ _ D I h
 |succ f ih=>
  intro listed gs a w D I h;rw[show f+1+g=(f+g)+1 by omega];refine ⟨λX=>absurd X h.1,λi V=> ?_⟩;obtain ⟨ha,Y,Z⟩:=h.2 i V;by_cases M:i=p
  ·subst M;obtain ⟨_,oi,U,_⟩:=QB.1 V;have Q:i<ops.size:=(ZG.1 U).1;have q:=ih _ _ _ (w.alloc O) (D.alloc O) (show blkOf W.heap.size O (w.alloc O) (some w.heap.size) from ⟨D.size,Zg w O⟩) (Y rfl w.heap.size D.size);have S:=A Q a w (wpAny P md ops Q' (f+g) (listed.setIfInBounds i true)) q;unfold wpOp;rw[hp Q];simp only;split at S
   ·rename_i J;rw[Zh J];exact Or.inl S
   ·rename_i J;rw[Ze J];exact S
  ·have q:=Z M;unfold cOp at q;unfold wpOp;cases ho:ops[i]? with
   |none=>rw[ho] at q;exact ih _ _ _ _ D I q
   |some o=>
    rw[ho] at q;simp only at q|-;by_cases J:Region.wanted o (yielded ops a.tmps)=true
    ·rw[Zh J] at q|-;obtain ⟨v,q1,q2⟩:=q;left;have F:∀H,Ext w H->blkOf W.heap.size O H gs:=by
      intro H R;cases gs with
      |none=>trivial
      |some g=>exact ⟨I.1,R.heap I.2⟩
     refine Za1 (q1 ⟨w,D⟩) ⟨⟨w,Ext.refl w⟩,rfl⟩ ?_;rintro _ ⟨e,rfl⟩;exact ih _ _ _ _ (D.trans e.ext) (F _ e.ext) q2
    ·rw[Ze J] at q|-;exact ih _ _ _ _ D I q
theorem Zap {Q:Exit->Act->World->Prop} {l:List Oper} (n:Nat) (hm:P.follows .mixedOrders=true)
 (hB:(Region.noSelect l.toArray && decide (n<l.length) && Region.sinkB .any l.toArray n && Region.chainB .any l.toArray n && lexQ .any l.toArray n 0 (Array.replicate l.length false) && Region.seqB .any l.toArray (l.length - n) n (setFrom n 0 (Array.replicate l.length false)))=true)
 (h:wpCalm P l.toArray W (λa'=>∀c:Aft W,wpList P l.toArray Q (l.drop n) a' c.w) (l.take n) a):(Code.region id l.toArray true).wp P Q a W:=by
 simp only[ZZ,Yb] at hB;obtain ⟨⟨⟨⟨⟨b1,b2⟩,b3⟩,b4⟩,b5⟩,b6⟩:=hB;have htl:(l.take n).length=n:=by simp;omega
 have inv0:HeadInv .any l.toArray n (Array.replicate l.length false):=
  ⟨by simp,λj oj _ hl=>(by rw[getD_replicate_false] at hl;cases hl),λt _ ht=>getD_in (by simpa using ht) (getD_replicate_false _ _)⟩
 have hL := IY (P := P) (W := W) (md := .any) (ops := l.toArray) (p := l.length) (n := n) (d := none) (op := ⟨none, .move (.const undef), 0, "", #[], none⟩)
  (Qh:=λa'=>∀c:Aft W,wpList P l.toArray Q (l.drop n) a' c.w)
  (L:=λlisted _ a'=>Region.seqB .any l.toArray (l.length - n) n listed=true/\∀c:Aft W,wpList P l.toArray Q (l.drop n) a' c.w)
  (λh=>by simp at h) (λh=>by simp at h) b1 b3 b4 (by simpa using b2) (λlisted _ a' hl=>seqB_ready hl.1) 0 (l.take n) 0 _ a
  (λj hj=>by rw[htl] at hj;simp[hj]) (by rw[htl];omega) (Or.inr (by rw[htl];omega)) inv0 (by rw[htl];exact b5) h
  (λa' _ hq=>⟨by rw[htl];exact b6,hq⟩)
 have h2 := Gm (O := .cells #[] 0) (g := l.length - n) (Q' := Q) (op := ⟨none, .move (.const undef), 0, "", #[], none⟩) (fun h => by simp at h) (fun h => by simp at h)
  (λlisted gs a' w' hx _ hl=>by
   have:=wpAny_of_seq (P:=P) (md:= .any) (Q':=Q) (l.drop n) n listed a' w' (λj=>by simp[List.getElem?_drop]) (by rw[Zj];exact hl.1) (hl.2 ⟨w',hx⟩)
   rwa [Zj] at this) _ _ none a W.drew (Ext.refl W).drew trivial hL
 refine wp_region_any hm ?_;rw[htl,show n+0+(l.length - n)=l.toArray.size by simp;omega] at h2;simpa using h2
theorem Gq {Q:Exit->Act->Wq->Prop} {l:List Oper} (p:Nat) (O:Obj) (op:Oper) (hm:P.follows .mixedOrders=true) (F:l[p]? =some op)
 (U:(Region.noSelect l.toArray && decide (p+1<l.length) && Region.sinkB .any l.toArray (p+1) && Region.chainB .any l.toArray (p+1) && lexQ .any l.toArray p 0 (Array.replicate l.length false) &&
  decide (Region.ready .any l.toArray (setFrom p 0 (Array.replicate l.length false))= [p]) && Region.seqB .any l.toArray (l.length - (p+1)) (p+1) ((setFrom p 0 (Array.replicate l.length false)).setIfInBounds p true))=true)
 (A:∀(a:Act) (w:Wq) (K:Act->Wq->Prop),K (a.put op.dst (.pointer (some ⟨w.heap.size,0,none⟩))) (w.alloc O)->if Region.wanted op (yielded l.toArray a.tmps)=true then op.wp P a w K Q else K (a.put op.dst undef) w)
 (h:wpCalm P l.toArray W (λa'=>∀(g:Nat) (c:Aft W),W.heap.size<=g->c.w.heap[g]? =some O->wpList P l.toArray Q (l.drop (p+1)) (a'.put op.dst (.pointer (some ⟨g,0,none⟩))) c.w) (l.take p) a):(Code.region id l.toArray true).wp P Q a W:=by
 simp only[ZZ,Yb] at U;obtain ⟨⟨⟨⟨⟨⟨b1,b2⟩,b3⟩,b4⟩,b5⟩,S⟩,b7⟩:=U;have q:(l.take p).length=p:=by simp;omega
 have H:HeadInv .any l.toArray (p+1) (Array.replicate l.length false):=
  ⟨by simp,λj oj _ D=>(by rw[getD_replicate_false] at D;cases D),λt _ ht=>getD_in (by simpa using ht) (getD_replicate_false _ _)⟩
 have hL:=IY (P:=P) (W:=W) (md:= .any) (ops:=l.toArray) (p:=p) (n:=p+1) (d:=op.dst) (op:=op)
  (Qh:=λa'=>∀(g:Nat) (c:Aft W),W.heap.size<=g->c.w.heap[g]? =some O->wpList P l.toArray Q (l.drop (p+1)) (a'.put op.dst (.pointer (some ⟨g,0,none⟩))) c.w)
  (L:=λlisted gs a'=>Region.seqB .any l.toArray (l.length - (p+1)) (p+1) listed=true/\∃g,gs=some g/\∀c:Aft W,W.heap.size<=g->c.w.heap[g]? =some O->wpList P l.toArray Q (l.drop (p+1)) a' c.w)
  (λ_=>by simpa using F) (λ_=>rfl) b1 b3 b4 (by simpa using b2) (λlisted _ a' D=>seqB_ready D.1) 1 (l.take p) 0 _ a
  (λj Z=>by rw[q] at Z;simp[Z]) (by rw[q];omega) (Or.inr (by rw[q];omega)) H (by rw[q];exact b5) h
  (λa' _ R=>by
   rw[q]
   refine ⟨by rw[S];simp,λi Y=> ?_⟩
   rw[S] at Y
   have J:i=p:=(by simpa using Y)
   exact ⟨by omega,λ_ g X=>⟨b7,g,rfl,λc h1 I=>R g c h1 I⟩,λM=>absurd J M⟩)
 have I:=Gm (O:=O) (g:=l.length - (p+1)) (Q':=Q) (op:=op) (λ_=>by simpa using F) (λ_=>A)
  (λlisted gs a' w' hx V D=>by
   obtain ⟨R,g,rfl,X⟩:=D
   have:=wpAny_of_seq (P:=P) (md:= .any) (Q':=Q) (l.drop (p+1)) (p+1) listed a' w' (λj=>by simp[List.getElem?_drop]) (by rw[Zj];exact R) (X ⟨w',hx⟩ V.1 V.2)
   rwa [Zj] at this) _ _ none a W.drew (Ext.refl W).drew trivial hL
 refine wp_region_any hm ?_;rw[q,show p+1+(l.length - (p+1))=l.toArray.size by simp;omega] at I;simpa using I
end
end
section
variable {o:Oper}
section
variable {P:Program} {ops:Array Oper} {md:Region.Mode} {W:World} {n x:Nat}
def seqL (md:Region.Mode) (ops:Array Oper):List Nat->Array Bool->Bool
 | [],listed=>(Region.ready md ops listed).isEmpty
 |t::ts,listed=>decide (Region.ready md ops listed= [t]) && seqL md ops ts (listed.setIfInBounds t true)
def AtIx (l:List Oper):List Nat->List Oper->Prop
 | [],[]=>True
 |t::ts,o::tl=>l[t]? =some o/\AtIx l ts tl
 |_,_=>False
theorem AtIx.nil {l:List Oper}:AtIx l [] []:=trivial
theorem AtIx.cons {l:List Oper} {t:Nat} {ts:List Nat} {tl:List Oper} (h:l[t]? =some o) (r:AtIx l ts tl):AtIx l (t::ts) (o::tl):=⟨h,r⟩
theorem Gn {l:List Oper} {Q':Exit->Act->Wq->Prop}:∀(ts:List Nat) (tl:List Oper) (listed:Array Bool) (a:Act) (w:Wq),AtIx l ts tl->
 seqL md l.toArray ts listed=true->wpList P l.toArray Q' tl a w->wpAny P md l.toArray Q' ts.length listed a w
 | [],[],_,_,_,_,hB,h=>⟨by simpa [seqL] using hB,h⟩
 | [],_::_,_,_,_,hl,_,_=>hl.elim
 |_::_,[],_,_,_,hl,_,_=>hl.elim
 |t::ts,o::tl,listed,a,w,hl,hB,h=>by
  simp only[seqL,ZZ,Yb] at hB;refine ⟨λA=>(by rw[hB.1] at A;cases A),λi D=> ?_⟩;rw[hB.1] at D;have q:i=t:=by simpa using D
  subst q;have H:l.toArray[i]? =some o:=by rw[Yd];exact hl.1
  have I:wpOp P l.toArray Q' i (wpList P l.toArray Q' tl) a w:=by unfold wpOp;simp only[H];exact h
  exact JD (λa' w' F=>Gn ts tl _ a' w' hl.2 hB.2 F) I
end
end
section
variable {a:Act} {fuel i:Nat} {o oi:Oper} {post:List Oper} {v:Value} {w:World}
section
variable {P:Program} {ops:Array Oper} {md:Region.Mode} {Q:Exit→Act→World→Prop} {S:World→Prop} {t:Nat}
def wpAnyT (P:Program) (md:Region.Mode) (ops:Array Oper) (Q:Exit->Act->Wq->Prop) (S:Wq->Prop) (t:Nat):Nat->Array Bool->Act->Wq->Prop
 |0,listed,a,w=>Region.ready md ops listed= []/\Q .normal a w
 |f+1,listed,a,w=>(Region.ready md ops listed= []->Q .normal a w)/\
  ∀i∈Region.ready md ops listed,wpOp P ops Q i (λa' w'=>((listed.setIfInBounds i true).getD t true=false->S w')/\wpAnyT P md ops Q S t f (listed.setIfInBounds i true) a' w') a w
theorem Zao:∀(f:Nat) (listed:Array Bool) (a:Act) (w:Wq),wpAnyT P md ops Q S t f listed a w->wpAny P md ops Q f listed a w
 |0,_,_,_,h=>h
 |f+1,_,_,_,h=>⟨h.1,λi A=>JD (λa' w' q=>Zao f _ a' w' q.2) (h.2 i A)⟩
theorem Gl:∀(f:Nat) (listed:Array Bool) (a:Act) (w:Wq),listed.getD t true=true->wpAny P md ops Q f listed a w->wpAnyT P md ops Q S t f listed a w
 |0,_,_,_,_,h=>h
 |f+1,listed,_,_,ht,h=>⟨h.1,λi H=>JD (λa' w' F=>by
  have D:(listed.setIfInBounds i true).getD t true=true:=by
   by_cases A:i=t
   ·subst A
    rcases Xq i listed.size with q|q
    ·simp[q]
    ·simp[q]
   ·rw[YN true A];exact ht
  exact ⟨λq=>(by rw[D] at q;cases q),Gl f _ a' w' D F⟩) (h.2 i H)⟩
theorem Id (hi:ops[i]? =some oi) (K:∀(j:Nat) (o:Oper) cs b,ops[j]? =some o->o.op≠ .select cs b)
 (hQ:∀c a w,Q (.panic c) (a.put oi.dst v) w->Q (.panic c) a w) (hd:i≠t) (hm:∀ot,ops[t]? =some ot->∃e∈ot.after,Region.binds md e=true/\e.on=i):
 ∀(fuel:Nat) (listed:Array Bool) (a:Act) (w:Wq),listed.getD t true=false->
  (∀j oj,ops[j]? =some oj->j≠i->listed.getD j true=false->(∀e∈oj.after,Region.binds md e=true->e.on≠i)->oi.apart ops oj=true)->
  i∈Region.ready md ops listed->YieldsIf P ops S oi v a->S w->
  wpAnyT P md ops Q S t fuel (listed.setIfInBounds i true) (a.put oi.dst v) w->wpAny P md ops Q (fuel+1) listed a w:=by
 intro fuel
 induction fuel with
 |zero=>
  intro listed a w _ _ R hy hS H;refine ⟨λh=>(by rw[h] at R;cases R),λj hj=> ?_⟩;by_cases q:j=i
  ·subst q;exact hy.wpOp hi hS H
  ·have:=XR hj q;rw[H.1] at this;cases this
 |succ fuel ih=>
  intro listed a w Y A R hy hS H;refine ⟨λh=>(by rw[h] at R;cases R),λj hj=> ?_⟩;by_cases q:j=i
  ·subst q;exact hy.wpOp hi hS (Zao _ _ _ _ H)
  ·have h1:=H.2 j (XR hj q);obtain ⟨I,oj,F,U⟩:=QB.1 hj;have hl:=(QB.1 R).1;have J:∀e∈oj.after,Region.binds md e=true->e.on≠i:=λe he hb hc=>(by have h1:=U e he hb;rw[hc,getD_both hl] at h1;cases h1);have X:j≠t:=λe=>(by subst e;obtain ⟨e,he,hb,hh⟩:=hm oj F;exact J e he hb hh);have h2:=wpOp_putIf F (A j oj F q I J) (λcs b=>K i oi cs b hi) (λcs b=>K j oj cs b F) hQ hy h1;have D:∀k ok,ops[k]? =some ok->k≠i->(listed.setIfInBounds j true).getD k true=false->
    (∀e∈ok.after,Region.binds md e=true->e.on≠i)->oi.apart ops ok=true:=λk ok hk hf M hg=>by
    refine A k ok hk hf ?_ hg
    by_cases V:j=k
    ·subst V;exact I
    ·rw[YN true V] at M;exact M
   have Z:(listed.setIfInBounds j true).getD t true=false:=(by rw[YN true X];exact Y);have ha:((listed.setIfInBounds i true).setIfInBounds j true).getD t true=false:=(by rw[YN true X,YN true hd];exact Y);refine JD (λa' w' h3=>ih (listed.setIfInBounds j true) a' w' Z D (XR R (Ne.symm q)) h3.1 (h3.2.1 ha) ?_) h2;rw[Uj _ _ q];exact h3.2.2
theorem IF {l:List Oper} {listed:Array Bool} (D:l[i]? =some oi)
 (q:(Region.noSelect l.toArray && Region.free md l.toArray listed i && (Region.ready md l.toArray listed).contains i)=true)
 (A:∀c a w,Q (.panic c) (a.put oi.dst v) w->Q (.panic c) a w) (F:Yields P l.toArray oi v a)
 (h:wpAny P md l.toArray Q fuel (listed.setIfInBounds i true) (a.put oi.dst v) w):wpAny P md l.toArray Q (fuel+1) listed a w:=by
 simp only[ZZ] at q;exact wpAny_take (by rw[Yd];exact D) q.1.1 q.1.2 q.2 A F h
theorem YZ {l:List Oper} {listed:Array Bool} (S:Wq->Prop) (t:Nat) (q:l[i]? =some oi)
 (I:(Region.noSelect l.toArray && decide (i≠t) && Region.waitsFor md l.toArray t i && !listed.getD t true && Region.free md l.toArray listed i && (Region.ready md l.toArray listed).contains i)=true)
 (Y:∀c a w,Q (.panic c) (a.put oi.dst v) w->Q (.panic c) a w) (hy:YieldsIf P l.toArray S oi v a) (Z:S w)
 (h:wpAnyT P md l.toArray Q S t fuel (listed.setIfInBounds i true) (a.put oi.dst v) w):wpAny P md l.toArray Q (fuel+1) listed a w:=by
 have J:l.toArray[i]? =some oi:=by rw[Yd];exact q
 simp only[ZZ,Yb,Vz] at I;obtain ⟨⟨⟨⟨⟨K,M⟩,R⟩,U⟩,V⟩,X⟩:=I;obtain ⟨ot,F,e,he,hb,D⟩:=Region.waitsFor_spec R;exact Id J (Region.noSelect_spec K) Y M (λH A=>by
  have:H=ot:=YO (A.symm.trans F);subst this;exact ⟨e,he,hb,D⟩) fuel listed a w U (Region.free_spec J V) (by simpa using X) hy Z h
def wpListS (P:Program) (ops:Array Oper) (Q:Exit->Act->Wq->Prop) (S:Wq->Prop) (post:List Oper):List Oper->Act->Wq->Prop
 | [],a,w=>wpList P ops Q post a w
 |o::tl,a,w=>if Region.wanted o (yielded ops a.tmps) then Oper.wp P o a w (λa' w'=>S w'/\wpListS P ops Q S post tl a' w') Q else S w/\wpListS P ops Q S post tl (a.put o.dst undef) w
theorem YW (h:wpList P ops Q post a w):wpListS P ops Q S post [] a w:=h
theorem ZQ {tl:List Oper} (h:∀K:Act->Wq->Prop,(∀a' w',S w'->wpListS P ops Q S post tl a' w'->K a' w')->if Region.wanted o (yielded ops a.tmps) then Oper.wp P o a w K Q else K (a.put o.dst undef) w):wpListS P ops Q S post (o::tl) a w:=
 h (λa' w'=>S w'/\wpListS P ops Q S post tl a' w') λ_ _ q A=>⟨q,A⟩
theorem IE {l:List Oper} (t:Nat) (H:List Nat) (A:AtIx l (t::H) post):∀(ts:List Nat) (tl:List Oper) (listed:Array Bool) (a:Act) (w:Wq),AtIx l ts tl->
 seqL md l.toArray (ts++(t::H)) listed=true->wpListS P l.toArray Q S post tl a w->wpAnyT P md l.toArray Q S t (ts.length+(H.length+1)) listed a w
 | [],[],listed,a,w,_,hB,h=>by
  match post,A with
  |o::post',A=>
   simp only[Xl,seqL,ZZ,Yb] at hB;rw[ZK,Ym];refine ⟨λq=>(by rw[hB.1] at q;cases q),λi I=> ?_⟩;rw[hB.1] at I;have D:i=t:=(by simpa using I);subst D;have M:l.toArray[i]? =some o:=(by rw[Yd];exact A.1);have F:wpOp P l.toArray Q i (wpList P l.toArray Q post') a w:=(by unfold wpOp;simp only[M];exact h);refine JD (λa' w' K=> ?_) F;have J:(listed.setIfInBounds i true).getD i true=true:=by
    rcases Xq i listed.size with q|q
    ·simp[q]
    ·simp[q]
   exact ⟨λq=>(by rw[J] at q;cases q),Gl _ _ a' w' J (Gn H post' _ a' w' A.2 hB.2 K)⟩
 | [],_::_,_,_,_,hl,_,_=>hl.elim
 |_::_,[],_,_,_,hl,_,_=>hl.elim
 |j::ts,o::tl,listed,a,w,hl,hB,h=>by
  simp only[X5,seqL,ZZ,Yb] at hB;rw[Zf,show ts.length+1+(H.length+1)=(ts.length+(H.length+1))+1 by omega];refine ⟨λq=>(by rw[hB.1] at q;cases q),λi I=> ?_⟩;rw[hB.1] at I;have D:i=j:=by simpa using I
  subst D;have M:l.toArray[i]? =some o:=by rw[Yd];exact hl.1
  have F:wpOp P l.toArray Q i (λa' w'=>S w'/\wpListS P l.toArray Q S post tl a' w') a w:=by
   unfold wpOp;simp only[M];unfold wpListS at h;split
   ·rename_i F;rw[Zh F] at h;exact Or.inl h
   ·rename_i F;rw[Ze F] at h;exact h
  exact JD (λa' w' K=>⟨λ_=>K.1,IE t H A ts tl _ a' w' hl.2 hB.2 K.2⟩) F
end
end
section
variable {a:Act} {fuel i:Nat} {o oi:Oper} {ops:Array Oper} {post:List Oper} {v:Value} {w:World}
section
variable {P:Program} {md:Region.Mode} {Q:Exit→Act→World→Prop} {S:World→Prop}
theorem Ky {t:Nat} (hi:ops[i]? =some oi) (K:∀(j:Nat) (o:Oper) cs b,ops[j]? =some o->o.op≠ .select cs b)
 (hQ:∀c a w,Q (.panic c) (a.put oi.dst v) w->Q (.panic c) a w) (hf:i≠t) (hn:∀ot,ops[t]? =some ot->∃e∈ot.after,Region.binds md e=true/\e.on=i):
 ∀(fuel:Nat) (listed:Array Bool) (a:Act) (w:Wq),listed.getD t true=false->
  (∀j oj,ops[j]? =some oj->j≠i->listed.getD j true=false->(∀e∈oj.after,Region.binds md e=true->e.on≠i)->oi.apart ops oj=true)->
  i∈Region.ready md ops listed->YieldsIf P ops S oi v a->S w->
  wpAnyT P md ops Q S t fuel (listed.setIfInBounds i true) (a.put oi.dst v) w->wpAnyT P md ops Q S t (fuel+1) listed a w:=by
 intro fuel
 induction fuel with
 |zero=>
  intro listed a w _ _ U hy V H;refine ⟨λh=>(by rw[h] at U;cases U),λj hj=> ?_⟩;by_cases q:j=i
  ·subst q;exact hy.wpOp hi V ⟨λ_=>V,H⟩
  ·have:=XR hj q;rw[H.1] at this;cases this
 |succ fuel ih=>
  intro listed a w ha A U hy V H;refine ⟨λh=>(by rw[h] at U;cases U),λj hj=> ?_⟩;by_cases q:j=i
  ·subst q;exact hy.wpOp hi V ⟨λ_=>V,H⟩
  ·have h1:=H.2 j (XR hj q);obtain ⟨I,oj,F,X⟩:=QB.1 hj;have hm:=(QB.1 U).1;have J:∀e∈oj.after,Region.binds md e=true->e.on≠i:=λe he hb hd=>(by have h1:=X e he hb;rw[hd,getD_both hm] at h1;cases h1);have Z:j≠t:=λe=>(by subst e;obtain ⟨e,he,hb,hl⟩:=hn oj F;exact J e he hb hl);have h2:=wpOp_putIf F (A j oj F q I J) (λcs b=>K i oi cs b hi) (λcs b=>K j oj cs b F) hQ hy h1;have D:∀k ok,ops[k]? =some ok->k≠i->(listed.setIfInBounds j true).getD k true=false->
    (∀e∈ok.after,Region.binds md e=true->e.on≠i)->oi.apart ops ok=true:=λk ok hk hg R hh=>by
    refine A k ok hk hg ?_ hh
    by_cases Y:j=k
    ·subst Y;exact I
    ·rw[YN true Y] at R;exact R
   have hc:(listed.setIfInBounds j true).getD t true=false:=(by rw[YN true Z];exact ha);have M:((listed.setIfInBounds i true).setIfInBounds j true).getD t true=false:=(by rw[YN true Z,YN true hf];exact ha);refine JD (λa' w' h3=>⟨λ_=>h3.2.1 M,ih (listed.setIfInBounds j true) a' w' hc D (XR U (Ne.symm q)) h3.1 (h3.2.1 M) ?_⟩) h2;rw[Uj _ _ q];exact h3.2.2
theorem ZeG {l:List Oper} {t:Nat} {listed:Array Bool} (q:l[i]? =some oi)
 (I:(Region.noSelect l.toArray && decide (i≠t) && Region.waitsFor md l.toArray t i && !listed.getD t true && Region.free md l.toArray listed i && (Region.ready md l.toArray listed).contains i)=true)
 (Y:∀c a w,Q (.panic c) (a.put oi.dst v) w->Q (.panic c) a w) (hy:YieldsIf P l.toArray S oi v a) (Z:S w)
 (h:wpAnyT P md l.toArray Q S t fuel (listed.setIfInBounds i true) (a.put oi.dst v) w):wpAnyT P md l.toArray Q S t (fuel+1) listed a w:=by
 have J:l.toArray[i]? =some oi:=by rw[Yd];exact q
 simp only[ZZ,Yb,Vz] at I;obtain ⟨⟨⟨⟨⟨K,M⟩,R⟩,U⟩,V⟩,X⟩:=I;obtain ⟨ot,F,e,he,hb,D⟩:=Region.waitsFor_spec R;exact Ky J (Region.noSelect_spec K) Y M (λH A=>by
  have:H=ot:=YO (A.symm.trans F);subst this;exact ⟨e,he,hb,D⟩) fuel listed a w U (Region.free_spec J V) (by simpa using X) hy Z h
theorem QN {l:List Oper} {t:Nat} {listed:Array Bool} (M:l[i]? =some o) (H:Region.ready md l.toArray listed= [i])
 (h:∀K:Act->Wq->Prop,(∀a' w',S w'->wpAnyT P md l.toArray Q S t fuel (listed.setIfInBounds i true) a' w'->K a' w')->if Region.wanted o (yielded l.toArray a.tmps) then Oper.wp P o a w K Q else K (a.put o.dst undef) w):wpAnyT P md l.toArray Q S t (fuel+1) listed a w:=by
 have D:l.toArray[i]? =some o:=by rw[Yd];exact M
 have q:=h (λa' w'=>S w'/\wpAnyT P md l.toArray Q S t fuel (listed.setIfInBounds i true) a' w') λ_ _ I J=>⟨I,J⟩;refine ⟨λh=>(by rw[H] at h;cases h),λk F=> ?_⟩;rw[H] at F;rw[Zo.1 F];have A:wpOp P l.toArray Q i (λa' w'=>S w'/\wpAnyT P md l.toArray Q S t fuel (listed.setIfInBounds i true) a' w') a w:=by
  unfold wpOp;simp only[D];split
  ·rename_i A;rw[Zh A] at q;exact Or.inl q
  ·rename_i A;rw[Ze A] at q;exact q
 exact JD (λa' w' q=>⟨λ_=>q.1,q.2⟩) A
theorem YV {l:List Oper} (t:Nat) (q:List Nat) (D:AtIx l (t::q) post) (ts:List Nat) {tl:List Oper} {listed:Array Bool} (A:AtIx l ts tl) (H:fuel=ts.length+(q.length+1))
 (F:seqL md l.toArray (ts++(t::q)) listed=true) (h:wpListS P l.toArray Q S post tl a w):wpAnyT P md l.toArray Q S t fuel listed a w:=by
 subst H;exact IE t q D ts tl listed a w A F h
end
end
section
variable {a:Act} {fuel i:Nat} {o oi:Oper} {ops:Array Oper} {v:Value} {w:World}
section
variable {P:Program} {md:Region.Mode} {Q:Exit→Act→World→Prop} {S:World→Prop}
def wpAnyS (P:Program) (md:Region.Mode) (ops:Array Oper) (Q:Exit->Act->Wq->Prop) (S:Wq->Prop):Nat->Array Bool->Act->Wq->Prop
 |0,listed,a,w=>Region.ready md ops listed= []/\Q .normal a w
 |f+1,listed,a,w=>(Region.ready md ops listed= []->Q .normal a w)/\
  ∀i∈Region.ready md ops listed,wpOp P ops Q i (λa' w'=>S w'/\wpAnyS P md ops Q S f (listed.setIfInBounds i true) a' w') a w
theorem Yj (S:Wq->Prop):∀{f:Nat} {listed:Array Bool} {a:Act} {w:Wq},wpAnyS P md ops Q S f listed a w->wpAny P md ops Q f listed a w
 |0,_,_,_,h=>h
 |_+1,_,_,_,h=>⟨h.1,λi A=>JD (λ_ _ q=>Yj S q.2) (h.2 i A)⟩
theorem ZcV (hi:ops[i]? =some oi) (I:∀(j:Nat) (o:Oper) cs b,ops[j]? =some o->o.op≠ .select cs b)
 (hQ:∀c a w,Q (.panic c) (a.put oi.dst v) w->Q (.panic c) a w):
 ∀(fuel:Nat) (listed:Array Bool) (a:Act) (w:Wq),
  (∀j oj,ops[j]? =some oj->j≠i->listed.getD j true=false->(∀e∈oj.after,Region.binds md e=true->e.on≠i)->oi.apart ops oj=true)->
  i∈Region.ready md ops listed->YieldsIf P ops S oi v a->S w->
  wpAnyS P md ops Q S fuel (listed.setIfInBounds i true) (a.put oi.dst v) w->wpAnyS P md ops Q S (fuel+1) listed a w:=by
 intro fuel
 induction fuel with
 |zero=>
  intro listed a w _ M hy R H;refine ⟨λh=>(by rw[h] at M;cases M),λj hj=> ?_⟩;by_cases q:j=i
  ·subst q;exact hy.wpOp hi R ⟨R,H⟩
  ·have:=XR hj q;rw[H.1] at this;cases this
 |succ fuel ih=>
  intro listed a w A M hy R H;refine ⟨λh=>(by rw[h] at M;cases M),λj hj=> ?_⟩;by_cases q:j=i
  ·subst q;exact hy.wpOp hi R ⟨R,H⟩
  ·have Y:=H.2 j (XR hj q);obtain ⟨F,oj,K,U⟩:=QB.1 hj;have hf:=(QB.1 M).1;have X:∀e∈oj.after,Region.binds md e=true->e.on≠i:=λe he hb ha=>(by have Y:=U e he hb;rw[ha,getD_both hf] at Y;cases Y);have h2:=wpOp_putIf K (A j oj K q F X) (λcs b=>I i oi cs b hi) (λcs b=>I j oj cs b K) hQ hy Y;have D:∀k ok,ops[k]? =some ok->k≠i->(listed.setIfInBounds j true).getD k true=false->
    (∀e∈ok.after,Region.binds md e=true->e.on≠i)->oi.apart ops ok=true:=λk ok hk hc J hd=>by
    refine A k ok hk hc ?_ hd
    by_cases V:j=k
    ·subst V;exact F
    ·rw[YN true V] at J;exact J
   refine JD (λa' w' Z=>⟨Z.2.1,ih (listed.setIfInBounds j true) a' w' D (XR M (Ne.symm q)) Z.1 Z.2.1 ?_⟩) h2;rw[Uj _ _ q];exact Z.2.2
theorem Yz {l:List Oper} {listed:Array Bool} (q:l[i]? =some oi)
 (A:(Region.noSelect l.toArray && Region.free md l.toArray listed i && (Region.ready md l.toArray listed).contains i)=true)
 (J:∀c a w,Q (.panic c) (a.put oi.dst v) w->Q (.panic c) a w) (M:YieldsIf P l.toArray S oi v a) (K:S w)
 (h:wpAnyS P md l.toArray Q S fuel (listed.setIfInBounds i true) (a.put oi.dst v) w):wpAnyS P md l.toArray Q S (fuel+1) listed a w:=by
 have D:l.toArray[i]? =some oi:=by rw[Yd];exact q
 simp only[ZZ] at A;obtain ⟨⟨F,H⟩,I⟩:=A;exact ZcV D (Region.noSelect_spec F) J fuel listed a w (Region.free_spec D H) (by simpa using I) M K h
theorem ZeF {l:List Oper} {listed:Array Bool} (M:l[i]? =some o) (H:Region.ready md l.toArray listed= [i])
 (h:∀K:Act->Wq->Prop,(∀a' w',S w'->wpAnyS P md l.toArray Q S fuel (listed.setIfInBounds i true) a' w'->K a' w')->if Region.wanted o (yielded l.toArray a.tmps) then Oper.wp P o a w K Q else K (a.put o.dst undef) w):wpAnyS P md l.toArray Q S (fuel+1) listed a w:=by
 have A:l.toArray[i]? =some o:=by rw[Yd];exact M
 have q:=h (λa' w'=>S w'/\wpAnyS P md l.toArray Q S fuel (listed.setIfInBounds i true) a' w') λ_ _ I J=>⟨I,J⟩;refine ⟨λh=>(by rw[H] at h;cases h),λk F=> ?_⟩;rw[H] at F;rw[Zo.1 F];unfold wpOp;simp only[A];split
 ·rename_i D;rw[Zh D] at q;exact Or.inl q
 ·rename_i D;rw[Ze D] at q;exact q
theorem ZfS {listed:Array Bool} (q:Region.ready md ops listed= []) (h:wpList P ops Q [] a w):wpAnyS P md ops Q S 0 listed a w:=⟨q,h⟩
end
end
section
variable {a:Act} {fuel i j:Nat} {o oi:Oper} {ops:Array Oper} {v:Value} {w:World}
section
variable {P:Program} {md:Region.Mode} {Q:Exit→Act→World→Prop} {F:Array Bool→World→Prop}
def wpAnyM (P:Program) (md:Region.Mode) (ops:Array Oper) (Q:Exit->Act->Wq->Prop) (F:Array Bool->Wq->Prop):Nat->Array Bool->Act->Wq->Prop
 |0,listed,a,w=>Region.ready md ops listed= []/\Q .normal a w
 |f+1,listed,a,w=>(Region.ready md ops listed= []->Q .normal a w)/\
  ∀i∈Region.ready md ops listed,wpOp P ops Q i (λa' w'=>F (listed.setIfInBounds i true) w'/\wpAnyM P md ops Q F f (listed.setIfInBounds i true) a' w') a w
theorem Qa (F:Array Bool->Wq->Prop):∀{f:Nat} {listed:Array Bool} {a:Act} {w:Wq},wpAnyM P md ops Q F f listed a w->wpAny P md ops Q f listed a w
 |0,_,_,_,h=>h
 |_+1,_,_,_,h=>⟨h.1,λi A=>JD (λ_ _ q=>Qa F q.2) (h.2 i A)⟩
theorem ZcU {S:Wq->Prop} {t:Nat} (hi:ops[i]? =some oi) (R:∀(j:Nat) (o:Oper) cs b,ops[j]? =some o->o.op≠ .select cs b)
 (hQ:∀c a w,Q (.panic c) (a.put oi.dst v) w->Q (.panic c) a w) (hp:i≠t) (ho:∀ot,ops[t]? =some ot->∃e∈ot.after,Region.binds md e=true/\e.on=i)
 (hF:∀L w,F (L.setIfInBounds i true) w->F L w) (Y:∀L w,L.getD t true=false->F L w->S w):
 ∀(fuel:Nat) (listed:Array Bool) (a:Act) (w:Wq),listed.getD t true=false->
  (∀j oj,ops[j]? =some oj->j≠i->listed.getD j true=false->(∀e∈oj.after,Region.binds md e=true->e.on≠i)->oi.apart ops oj=true)->
  i∈Region.ready md ops listed->YieldsIf P ops S oi v a->F (listed.setIfInBounds i true) w->
  wpAnyM P md ops Q F fuel (listed.setIfInBounds i true) (a.put oi.dst v) w->wpAnyM P md ops Q F (fuel+1) listed a w:=by
 intro fuel
 induction fuel with
 |zero=>
  intro listed a w J _ V hy Z H;refine ⟨λh=>(by rw[h] at V;cases V),λj hj=> ?_⟩;by_cases q:j=i
  ·subst q;exact hy.wpOp hi (Y _ _ J (hF _ _ Z)) ⟨Z,H⟩
  ·have:=XR hj q;rw[H.1] at this;cases this
 |succ fuel ih=>
  intro listed a w J A V hy Z H;refine ⟨λh=>(by rw[h] at V;cases V),λj hj=> ?_⟩;by_cases q:j=i
  ·subst q;exact hy.wpOp hi (Y _ _ J (hF _ _ Z)) ⟨Z,H⟩
  ·have h1:=H.2 j (XR hj q);obtain ⟨K,oj,I,ha⟩:=QB.1 hj;have hn:=(QB.1 V).1;have M:∀e∈oj.after,Region.binds md e=true->e.on≠i:=λe he hb hf=>(by have h1:=ha e he hb;rw[hf,getD_both hn] at h1;cases h1);have hg:j≠t:=λe=>(by subst e;obtain ⟨e,he,hb,hm⟩:=ho oj I;exact M e he hb hm);have h2:=wpOp_putIf I (A j oj I q K M) (λcs b=>R i oi cs b hi) (λcs b=>R j oj cs b I) hQ hy h1;have D:∀k ok,ops[k]? =some ok->k≠i->(listed.setIfInBounds j true).getD k true=false->
    (∀e∈ok.after,Region.binds md e=true->e.on≠i)->oi.apart ops ok=true:=λk ok hk hh U hl=>by
    refine A k ok hk hh ?_ hl
    by_cases hc:j=k
    ·subst hc;exact K
    ·rw[YN true hc] at U;exact U
   have hd:(listed.setIfInBounds j true).getD t true=false:=(by rw[YN true hg];exact J);refine JD (λa' w' h3=> ?_) h2;have X:F ((listed.setIfInBounds j true).setIfInBounds i true) w':=(by rw[Uj _ _ q];exact h3.2.1);refine ⟨hF _ _ X,ih (listed.setIfInBounds j true) a' w' hd D (XR V (Ne.symm q)) h3.1 X ?_⟩;rw[Uj _ _ q];exact h3.2.2
theorem XC {l:List Oper} {listed:Array Bool} (t:Nat) (S:Wq->Prop) (A:l[i]? =some oi)
 (K:(Region.noSelect l.toArray && decide (i≠t) && Region.waitsFor md l.toArray t i && !listed.getD t true && Region.free md l.toArray listed i && (Region.ready md l.toArray listed).contains i)=true)
 (hQ:∀c a w,Q (.panic c) (a.put oi.dst v) w->Q (.panic c) a w) (hF:∀L w,F (L.setIfInBounds i true) w->F L w) (q:∀L w,L.getD t true=false->F L w->S w)
 (hy:YieldsIf P l.toArray S oi v a) (hS:F (listed.setIfInBounds i true) w)
 (h:wpAnyM P md l.toArray Q F fuel (listed.setIfInBounds i true) (a.put oi.dst v) w):wpAnyM P md l.toArray Q F (fuel+1) listed a w:=by
 have M:l.toArray[i]? =some oi:=by rw[Yd];exact A
 simp only[ZZ,Yb,Vz] at K;obtain ⟨⟨⟨⟨⟨R,U⟩,V⟩,X⟩,Y⟩,Z⟩:=K;obtain ⟨ot,I,e,he,hb,H⟩:=Region.waitsFor_spec V;exact ZcU M (Region.noSelect_spec R) hQ U (λJ D=>by
  have:J=ot:=YO (D.symm.trans I);subst this;exact ⟨e,he,hb,H⟩) hF q fuel listed a w X (Region.free_spec M Y) (by simpa using Z) hy hS h
theorem ZeE {l:List Oper} {listed:Array Bool} (R:l[i]? =some o) (I:Region.ready md l.toArray listed= [i])
 (h:∀K:Act->Wq->Prop,(∀a' w',F (listed.setIfInBounds i true) w'->wpAnyM P md l.toArray Q F fuel (listed.setIfInBounds i true) a' w'->K a' w')->if Region.wanted o (yielded l.toArray a.tmps) then Oper.wp P o a w K Q else K (a.put o.dst undef) w):wpAnyM P md l.toArray Q F (fuel+1) listed a w:=by
 have A:l.toArray[i]? =some o:=by rw[Yd];exact R
 have q:=h (λa' w'=>F (listed.setIfInBounds i true) w'/\wpAnyM P md l.toArray Q F fuel (listed.setIfInBounds i true) a' w') λ_ _ J M=>⟨J,M⟩;refine ⟨λh=>(by rw[I] at h;cases h),λk H=> ?_⟩;rw[I] at H;rw[Zo.1 H];unfold wpOp;simp only[A];split
 ·rename_i D;rw[Zh D] at q;exact Or.inl q
 ·rename_i D;rw[Ze D] at q;exact q
theorem J9 {l:List Oper} {oj:Oper} {listed:Array Bool} (S:l[i]? =some oi) (U:l[j]? =some oj) (V:Region.ready md l.toArray listed= [i,j])
 (I:∀K:Act->Wq->Prop,(∀a' w',F (listed.setIfInBounds i true) w'->wpAnyM P md l.toArray Q F fuel (listed.setIfInBounds i true) a' w'->K a' w')->if Region.wanted oi (yielded l.toArray a.tmps) then Oper.wp P oi a w K Q else K (a.put oi.dst undef) w)
 (J:∀K:Act->Wq->Prop,(∀a' w',F (listed.setIfInBounds j true) w'->wpAnyM P md l.toArray Q F fuel (listed.setIfInBounds j true) a' w'->K a' w')->if Region.wanted oj (yielded l.toArray a.tmps) then Oper.wp P oj a w K Q else K (a.put oj.dst undef) w):wpAnyM P md l.toArray Q F (fuel+1) listed a w:=by
 have M:l.toArray[i]? =some oi:=by rw[Yd];exact S
 have R:l.toArray[j]? =some oj:=by rw[Yd];exact U
 have q:=I (λa' w'=>F (listed.setIfInBounds i true) w'/\wpAnyM P md l.toArray Q F fuel (listed.setIfInBounds i true) a' w') λ_ _ I J=>⟨I,J⟩;have A:=J (λa' w'=>F (listed.setIfInBounds j true) w'/\wpAnyM P md l.toArray Q F fuel (listed.setIfInBounds j true) a' w') λ_ _ I J=>⟨I,J⟩;refine ⟨λh=>(by rw[V] at h;cases h),λk D=> ?_⟩;rw[V] at D;simp only[ZF,Ya,Xs] at D;rcases D with D|D
 ·rw[D];unfold wpOp;simp only[M];split
  ·rename_i H;rw[Zh H] at q;exact Or.inl q
  ·rename_i H;rw[Ze H] at q;exact q
 ·rw[D];unfold wpOp;simp only[R];split
  ·rename_i H;rw[Zh H] at A;exact Or.inl A
  ·rename_i H;rw[Ze H] at A;exact A
theorem X4 {listed:Array Bool} (q:Region.ready md ops listed= []) (h:wpList P ops Q [] a w):wpAnyM P md ops Q F 0 listed a w:=⟨q,h⟩
end
end
section
variable {id:Nat} {o:Oper} {ops:Array Oper}
section
variable {P:Program} {md:Region.Mode} {Q:Exit→Act→World→Prop} {S:World→Prop} {l:List Oper} {oi:Oper} {fuel:Nat} {listed:Array Bool} {a:Act} {w:World} {t:Nat}
theorem tS (i:Nat) (v:Value) (F:l[i]? =some oi) (H:∀w',S w'->(execOp a.eval oi).run P w'= .ok (.value v) w') (D:S w) (h:wpAnyS P md l.toArray Q S fuel (listed.setIfInBounds i true) (a.put oi.dst v) w)
 (q:(Region.noSelect l.toArray && Region.free md l.toArray listed i && (Region.ready md l.toArray listed).contains i)=true:=by kernel_rfl) (A:∀c a w,Q (.panic c) (a.put oi.dst v) w->Q (.panic c) a w:=by exact λ_ _ _ h=>h)
 (I:Region.wanted oi (yielded l.toArray a.tmps)=true:=by rfl):wpAnyS P md l.toArray Q S (fuel+1) listed a w:=Yz (i:=i) (v:=v) F q A (Or.inl ⟨I,H⟩) D h
theorem tL (i:Nat) (v:Value) (D:l[i]? =some oi) (F:∀w',(execOp a.eval oi).run P w'= .ok (.value v) w') (h:wpAny P md l.toArray Q fuel (listed.setIfInBounds i true) (a.put oi.dst v) w)
 (q:(Region.noSelect l.toArray && Region.free md l.toArray listed i && (Region.ready md l.toArray listed).contains i)=true:=by kernel_rfl) (A:∀c a w,Q (.panic c) (a.put oi.dst v) w->Q (.panic c) a w:=by exact λ_ _ _ h=>h)
 (H:Region.wanted oi (yielded l.toArray a.tmps)=true:=by rfl):wpAny P md l.toArray Q (fuel+1) listed a w:=IF (i:=i) (v:=v) D q A (Or.inl ⟨H,F⟩) h
theorem tT (i:Nat) (v:Value) (F:l[i]? =some oi) (H:∀w',S w'->(execOp a.eval oi).run P w'= .ok (.value v) w') (D:S w) (h:wpAnyT P md l.toArray Q S t fuel (listed.setIfInBounds i true) (a.put oi.dst v) w)
 (q:(Region.noSelect l.toArray && decide (i≠t) && Region.waitsFor md l.toArray t i && !listed.getD t true && Region.free md l.toArray listed i && (Region.ready md l.toArray listed).contains i)=true:=by kernel_rfl)
 (A:∀c a w,Q (.panic c) (a.put oi.dst v) w->Q (.panic c) a w:=by exact λ_ _ _ h=>h) (I:Region.wanted oi (yielded l.toArray a.tmps)=true:=by rfl):wpAnyT P md l.toArray Q S t (fuel+1) listed a w:=
 ZeG (i:=i) (v:=v) F q A (Or.inl ⟨I,H⟩) D h
theorem sS (i:Nat) (h:∀K:Act->Wq->Prop,(∀a' w',S w'->wpAnyS P md l.toArray Q S fuel (listed.setIfInBounds i true) a' w'->K a' w')->if Region.wanted o (yielded l.toArray a.tmps) then Oper.wp P o a w K Q else K (a.put o.dst undef) w)
 (q:l[i]? =some o:=by exact rfl) (A:Region.ready md l.toArray listed= [i]:=by kernel_rfl):wpAnyS P md l.toArray Q S (fuel+1) listed a w:=ZeF (i:=i) q A h
theorem tG (i:Nat) (v:Value) (q:S w) (h:wpAnyS P md l.toArray Q S fuel (listed.setIfInBounds i true) (a.put oi.dst v) w) (F:l[i]? =some oi:=by exact rfl)
 (H:∀w',S w'->(execOp a.eval oi).run P w'= .ok (.value v) w':=by exact λw' q=>by go_simp) (A:(Region.noSelect l.toArray && Region.free md l.toArray listed i && (Region.ready md l.toArray listed).contains i)=true:=by kernel_rfl)
 (D:∀c a w,Q (.panic c) (a.put oi.dst v) w->Q (.panic c) a w:=by exact λ_ _ _ h=>h) (I:Region.wanted oi (yielded l.toArray a.tmps)=true:=by rfl):wpAnyS P md l.toArray Q S (fuel+1) listed a w:=Yz (i:=i) (v:=v) F A D (Or.inl ⟨I,H⟩) q h
theorem tH (i:Nat) (v:Value) (h:wpAny P md l.toArray Q fuel (listed.setIfInBounds i true) (a.put oi.dst v) w) (D:l[i]? =some oi:=by exact rfl) (F:∀w',(execOp a.eval oi).run P w'= .ok (.value v) w':=by exact λw=>by go_simp)
 (q:(Region.noSelect l.toArray && Region.free md l.toArray listed i && (Region.ready md l.toArray listed).contains i)=true:=by kernel_rfl) (A:∀c a w,Q (.panic c) (a.put oi.dst v) w->Q (.panic c) a w:=by exact λ_ _ _ h=>h)
 (H:Region.wanted oi (yielded l.toArray a.tmps)=true:=by rfl):wpAny P md l.toArray Q (fuel+1) listed a w:=IF (i:=i) (v:=v) D q A (Or.inl ⟨H,F⟩) h
theorem sE (h:wpList P ops Q [] a w) (q:Region.ready md ops listed= []:=by kernel_rfl):wpAnyS P md ops Q S 0 listed a w:=ZfS q h
theorem mS {F:Array Bool->Wq->Prop} (i:Nat) (h:∀K:Act->Wq->Prop,(∀a' w',F (listed.setIfInBounds i true) w'->wpAnyM P md l.toArray Q F fuel (listed.setIfInBounds i true) a' w'->K a' w')->if Region.wanted o (yielded l.toArray a.tmps) then Oper.wp P o a w K Q else K (a.put o.dst undef) w)
 (q:l[i]? =some o:=by exact rfl) (A:Region.ready md l.toArray listed= [i]:=by kernel_rfl):wpAnyM P md l.toArray Q F (fuel+1) listed a w:=ZeE (i:=i) q A h
theorem rA (h:wpQuiet P l.toArray (λw'=>∃d:Aft w,w'=d.w) (λa'=>∀w',(∃d:Aft w,w'=d.w)->Q .normal a' w') l a) (A:P.follows .mixedOrders=true:=by kernel_rfl) (q:Region.lexB .any l.toArray=true:=by kernel_rfl):(Code.region id l.toArray true).wp P Q a w:=Za2 A q h
theorem rN (h:wpAny P .any ops Q ops.size (Array.replicate ops.size false) a {w with drawn:=w.drawn+1}) (q:P.follows .mixedOrders=true:=by kernel_rfl):(Code.region id ops true).wp P Q a w:=wp_region_any q h
end
end
theorem Us (c:Int) (w:Wq):Calls prog 61 #[.int .u8 c] w λe w'=>e= .returned (.bool (isSp c))/\w=w':=by
 unfold isSp;go_enter func61,ntmps61;go_wp2
 all_goals (go_ret;refine ⟨?_,rfl⟩)
 all_goals (refine Zz (λb=>Ending.returned (.bool b)) (Y0.2 ?_);simp at* <;>omega)
theorem Xn (c:Int) (w:Wq):Calls prog 100 #[.int .u8 c] w λe w'=>e= .returned (.bool (isSp c))/\w=w':=by
 unfold isSp;go_enter func100,ntmps100;go_wp2
 all_goals (go_ret;refine ⟨?_,rfl⟩)
 all_goals (refine Zz (λb=>Ending.returned (.bool b)) (Y0.2 ?_);simp at* <;>omega)
theorem QL (r:Int) (w:Wq):Calls prog 189 #[.int .i32 r] w λe w'=>e= .returned (.bool (isChar r))/\w=w':=by
 unfold isChar;go_enter func189,ntmps189;go_wp2
 all_goals (go_ret;refine ⟨?_,rfl⟩)
 all_goals (refine Zz (λb=>Ending.returned (.bool b)) (Y0.2 ?_);simp at* <;>omega)
theorem Vb (r:Int) (w:Wq):Calls prog 140 #[nI r] w λe w'=>e= .returned (.bool (isChar r))/\w=w':=by
 unfold isChar;go_enter func140,ntmps140;go_wp2
 all_goals (go_ret;refine ⟨?_,rfl⟩)
 all_goals (refine Zz (λb=>Ending.returned (.bool b)) (Y0.2 ?_);simp at* <;>omega)
def lays197_ren:Go.Shelf.Ren:=⟨fun|197=>216|260=>233|n=>n,fun|9=>9|21=>21|3=>3|4=>4|5=>5|105=>237|119=>287|0=>0|46=>89|139=>290|138=>289|n=>n,fun|3=>3|4=>4|n=>n⟩
theorem lays197:Go.Proofs.Lays.n197 prog lays197_ren:={
 mixed:=by kernel_rfl
 f197:=func216.trans (Zz some (by kernel_rfl))
 f260:=func233.trans (Zz some (by kernel_rfl))
 t0:=underlying0
 a0:=isAgg0
 z0:=sizeOf0
 v0:=zeroValue0
 t3:=underlying3
 a3:=isAgg3
 z3:=sizeOf3
 v3:=zeroValue3
 t4:=underlying4
 a4:=isAgg4
 z4:=sizeOf4
 v4:=zeroValue4
 t5:=underlying5
 a5:=isAgg5
 z5:=sizeOf5
 v5:=zeroValue5
 t9:=underlying9
 a9:=isAgg9
 z9:=sizeOf9
 v9:=zeroValue9
 t21:=underlying21
 a21:=isAgg21
 z21:=sizeOf21
 v21:=zeroValue21
 t46:=underlying89
 a46:=isAgg89
 z46:=sizeOf89
 v46:=zeroValue89
 t105:=underlying237
 a105:=isAgg237
 z105:=sizeOf237
 v105:=zeroValue237
 t119:=underlying287
 a119:=isAgg287
 z119:=sizeOf287
 t138:=underlying289
 a138:=isAgg289
 z138:=sizeOf289
 v138:=zeroValue289
 t139:=underlying290
 a139:=isAgg290
 z139:=sizeOf290
 v139:=zeroValue290
 g3:=by kernel_rfl
 g4:=by kernel_rfl}
open Go.RowKit Go.Lib in
theorem utf8_DecodeRuneInString (s:ByteArray) (w:Wq) (h:Lib.Utf8Tabs 3 4 w):
 Calls prog 216 #[.string s] w λe w'=>e= .returned (.tuple #[.int .i32 (Lib.decodeGo s).1,nI (Lib.decodeGo s).2])/\Below w.heap.size w w':=Any.utf8_DecodeRuneInString lays197 s w h
def lays110_ren:Go.Shelf.Ren:=⟨fun|110=>104|109=>151|n=>n,fun|31=>52|9=>9|4=>4|3=>3|0=>0|n=>n,fun|n=>n⟩
theorem lays110:Go.Proofs.Lays.n110 prog lays110_ren:={
 mixed:=by kernel_rfl
 f109:=func151.trans (Zz some (by kernel_rfl))
 f110:=func104.trans (Zz some (by kernel_rfl))
 t0:=underlying0
 a0:=isAgg0
 z0:=sizeOf0
 v0:=zeroValue0
 t3:=underlying3
 a3:=isAgg3
 z3:=sizeOf3
 v3:=zeroValue3
 t4:=underlying4
 a4:=isAgg4
 z4:=sizeOf4
 v4:=zeroValue4
 t9:=underlying9
 a9:=isAgg9
 z9:=sizeOf9
 v9:=zeroValue9
 t31:=underlying52
 a31:=isAgg52
 z31:=sizeOf52
 v31:=zeroValue52}
open Go.Lib in
theorem slices_Contains_string (b h n c:Nat) (zs:List ByteArray) (x:ByteArray) (w:Wq) (D:n<=zs.length) (q:n<=9223372036854775807) (A:∀j,j<zs.length->w.cell? ⟨b,h+j,none⟩=some (.string (zs.getD j ByteArray.empty))):
 Calls prog 104 #[.slice (some ⟨b,h,none⟩) n c,.string x] w λe w'=>e= .returned (.bool (Lib.containsS (zs.take n) x))/\w'=w:=Any.slices_Contains_string lays110 b h n c zs x w D q A
open Go.Lib in
theorem slices_Contains_string_empty (a:Option Addr) (c:Nat) (x:ByteArray) (w:Wq):
 Calls prog 104 #[.slice a 0 c,.string x] w λe w'=>e= .returned (.bool false)/\w'=w:=Any.slices_Contains_string_empty lays110 a c x w
section
variable {a:Act} {b w:World} {base n:Nat} {e:TypeId} {o:Oper} {ops:Array Oper} {rest:List Oper} {v:Value} {xs:List Value}
section
variable {P:Program} (w:World)
theorem E3 (base:Nat) (t ty e:TypeId) (i:TypeInfo) (size:Nat) (D:P.underlying t=some (.slice e)) (A:P.info? e=some i)
 (v:Value) (n:Nat) (xs:List Value) (h:w.ownsRow base e size v n xs) (c:Nat):(Builtin.append_ #[t,t] ty #[v,.slice none 0 c]).run P w= .ok v w:=by
 rcases h.2 with ⟨rfl,rfl⟩|⟨g,cap,F,rfl,_,_,q,_⟩
 ·simp[Builtin.append_,run_underlying D,sizeOf,typeInfo,A,Builtin.lenOf,Builtin.firstCells]
 ·simp[Builtin.append_,run_underlying D,sizeOf,typeInfo,A,Builtin.lenOf,Builtin.firstCells,q,storeCells]
theorem E4 (base:Nat) (t ty e:TypeId) (i:TypeInfo) (z:Value) (size D:Nat) (ht:P.underlying t=some (.slice e)) (hi:P.info? e=some i) (hz:i.zero=some z)
 (Q:i.size=size) (V:i.bytes=D) (X:z.cells.size=size) (S:0<size)
 (v:Value) (n:Nat) (xs:List Value) (H:w.ownsRow base e size v n xs)
 (u:Value) (m:Nat) (q:List Value) (hr:RSl w size u m q) (h1:∀y∈q,y.oneCell'=true)
 (U:n+m<=maxLen) (F:(n+m)*D<=140737488355328) (I:base<=w.heap.size):
 ∃v' w',(Builtin.append_ #[t,t] ty #[v,u]).run P w= .ok v' w'/\w'.ownsRow base e size v' (n+m) (xs++q)/\w.grownBy w' v.ownBlock/\
  (v'.ownBlock=v.ownBlock\/v'.ownBlock=some w.heap.size):=by
 obtain ⟨K,A,c,rfl,hd,hb,hA,J⟩:=hr;rcases YY m with Y|Y
 ·subst Y;have hn:q= []:=Zw (by simpa using K);subst hn;cases A with
  |none=>exact ⟨v,w,E3 w base t ty e i size ht hi v n xs H c,by simpa using H,World.grownBy.refl w _,.inl rfl⟩
  |some ad=>obtain ⟨v',w',M,Z,h3,_,h5⟩:=run_append_own_at (P:=P) w base t ty e i z size D ht hi hz Q V X S v n xs H ad 0 c [] (by simp) (λj u hu=>by simp at hu) h1 U F I;exact ⟨v',w',M,Z,h3,h5⟩
 ·have hl:0<q.length:=by rw[K];exact Nat.mul_pos Y S
  obtain ⟨ad,rfl,_⟩:=J 0 (q[0]) (Zr hl);have R:∀j u,q[j]? =some u->w.cell? (ad.add j)=some u:=by intro j u hu;obtain ⟨ha,h,hc⟩:=J j u hu;injection h with h;subst h;exact hc
  obtain ⟨v',w',M,Z,h3,_,h5⟩:=run_append_own_at (P:=P) w base t ty e i z size D ht hi hz Q V X S v n xs H ad m c q K R h1 U F I;exact ⟨v',w',M,Z,h3,h5⟩
theorem Gp {K:Act->Wq->Prop} {Q:Exit->Act->Wq->Prop} (s x:Operand) (t:TypeId)
 (ho:o.op= .call {callee:= .builtin .append,args:=#[s,x],argTypes:=#[t,t]})
 (base:Nat) (e:TypeId) (i:TypeInfo) (z:Value) (size q:Nat) (ht:P.underlying t=some (.slice e)) (hi:P.info? e=some i) (hz:i.zero=some z)
 (H:i.size=size) (R:i.bytes=q) (U:z.cells.size=size) (S:0<size)
 (v:Value) (n:Nat) (xs:List Value) (hs:a.eval s=v) (I:w.ownsRow base e size v n xs)
 (u:Value) (m:Nat) (A:List Value) (hx:a.eval x=u) (hr:RSl w size u m A) (V:∀y∈A,y.oneCell'=true)
 (M:n+m<=maxLen) (D:(n+m)*q<=140737488355328) (F:base<=w.heap.size)
 (h:∀v' w',w'.ownsRow base e size v' (n+m) (xs++A)->w.grownBy w' v.ownBlock->(v'.ownBlock=v.ownBlock\/v'.ownBlock=some w.heap.size)->K (a.put o.dst v') w'):o.wp P a w K Q:=by
 obtain ⟨v',w',J,X,Y,Z⟩:=E4 (P:=P) w base t o.type e i z size q ht hi hz H R U S v n xs I u m A hr V M D F;unfold Oper.wp execOp;simp only[ho,resolve,invoke,builtin,Sem.run_bind,Sem.run_pure,Result.andThen_ok,List.map_toArray,ZP,Yv,hs,hx,J];exact h v' w' X Y Z
theorem ZJ {Q:Exit->Act->Wq->Prop} (M:o.guard=none) (s x:Operand) (t:TypeId)
 (ho:o.op= .call {callee:= .builtin .append,args:=#[s,x],argTypes:=#[t,t]})
 (base:Nat) (e:TypeId) (i:TypeInfo) (z:Value) (size q:Nat) (ht:P.underlying t=some (.slice e)) (Z:P.info? e=some i) (hz:i.zero=some z)
 (H:i.size=size) (K:i.bytes=q) (S:z.cells.size=size) (R:0<size)
 (v:Value) (n:Nat) (xs:List Value) (hs:a.eval s=v) (I:w.ownsRow base e size v n xs)
 (u:Value) (m:Nat) (A:List Value) (hx:a.eval x=u) (hr:RSl w size u m A) (U:∀y∈A,y.oneCell'=true)
 (J:n+m<=maxLen) (D:(n+m)*q<=140737488355328) (F:base<=w.heap.size)
 (h:∀v' w',w'.ownsRow base e size v' (n+m) (xs++A)->w.grownBy w' v.ownBlock->(v'.ownBlock=v.ownBlock\/v'.ownBlock=some w.heap.size)->wpList P ops Q rest (a.put o.dst v') w'):wpList P ops Q (o::rest) a w:=
 wpList_plain M λ_ hK=>Gp w s x t ho base e i z size q ht Z hz H K S R v n xs hs I u m A hx hr U J D F λv' w' V X Y=>hK _ _ (h v' w' V X Y)
theorem ZV {K:Act->Wq->Prop} {Q:Exit->Act->Wq->Prop} {E:Prop} (R:o.guard=none) (s x:Operand) (t:TypeId)
 (Y:o.op= .call {callee:= .builtin .append,args:=#[s,x],argTypes:=#[t,t]})
 (base:Nat) (e:TypeId) (i:TypeInfo) (z:Value) (size q:Nat) (ht:P.underlying t=some (.slice e)) (X:P.info? e=some i) (hz:i.zero=some z)
 (H:i.size=size) (M:i.bytes=q) (U:z.cells.size=size) (S:0<size)
 (v:Value) (n:Nat) (xs:List Value) (hs:a.eval s=v) (I:w.ownsRow base e size v n xs)
 (u:Value) (m:Nat) (A:List Value) (hx:a.eval x=u) (Z:RSl w size u m A) (V:∀y∈A,y.oneCell'=true)
 (J:n+m<=maxLen) (D:(n+m)*q<=140737488355328) (F:base<=w.heap.size)
 (h:∀v' w',w'.ownsRow base e size v' (n+m) (xs++A)->w.grownBy w' v.ownBlock->(v'.ownBlock=v.ownBlock\/v'.ownBlock=some w.heap.size)->K (a.put o.dst v') w'):
 if Region.wanted o (yielded ops a.tmps)=true then Oper.wp P o a w K Q else E:=by
 have hw:Region.wanted o (yielded ops a.tmps)=true:=by simp[Region.wanted,R]
 rw[Zh hw];exact Gp w s x t Y base e i z size q ht X hz H M U S v n xs hs I u m A hx Z V J D F h
end
theorem Ext.app {a c:Wq} {size:Nat} (h:Ext a b) (A:b.grownBy c v.ownBlock) (F:b.ownsRow base e size v n xs) (q:a.heap.size<=base):Ext a c:=
 Below.grown h A h.size λk D=>Zu q (F.lt k D).1
theorem Yn {size:Nat} {cs:List Value} (h:cs.length=n*size) (A:n<=maxLen):RSl (w.alloc (.cells cs.toArray e)) size (.slice (some ⟨w.heap.size,0,none⟩) n n) n cs:=by
 refine ⟨h,some ⟨w.heap.size,0,none⟩,n,rfl,Zb _,A,(λh=>by cases h),λj u D=>⟨_,rfl,?_⟩⟩;have q:(⟨w.heap.size,0,none⟩:Addr).add j=⟨w.heap.size,j,none⟩:=by unfold Addr.add;split<;>simp_all
 rw[q];rw[Zp (Zg w _)];simpa using D
theorem JS {size:Nat} {cs:List Value} (q:base<=w.heap.size) (h:cs.length=n*size) (A:n<=maxLen):(w.alloc (.cells cs.toArray e)).ownsRow base e size (.slice (some ⟨w.heap.size,0,none⟩) n n) n cs:=
 ⟨h,.inr ⟨w.heap.size,n,cs.toArray,rfl,q,Zg w _,Zb _,A,by simpa using h,by rw[<-h];simp⟩⟩
theorem Ka:(prog.info? 5).map (λi=>(i.zero,i.size,i.bytes))=some (some (.int .u8 0),1,1):=by kernel_rfl
end
end Go.Proofs.YtnlafkgkcnenfaaGreatDoor
