/- Parts of the proof: contracts and plain laws. -/
import Derived.Test.YtnlafkgkcnenfaaGreatDoorProg
import Derived.Test.YtnlafkgkcnenfaaGreatDoorU00
namespace Go.Proofs.YtnlafkgkcnenfaaGreatDoor
open Go Go.RowKit Go.Shelf _root_.Go.Proofs.Tryz
set_option linter.unusedVariables false
set_option linter.unusedSimpArgs false
set_option maxRecDepth 100000
set_option maxHeartbeats 16000000
def isSp (c:Int):Bool:=decide (c=32\/c=9\/c=10\/c=13)
def isChar (r:Int):Bool:=decide (r=9\/r=10\/r=13\/(32<=r/\r<=55295)\/(57344<=r/\r<=65533)\/(65536<=r/\r<=1114111))
def dec (l:List UInt8):Nat×Nat:=
 if l= [] then (0,0) else if (Lib.decodeL l).1=65533/\(Lib.decodeL l).2=1 then (0,0) else Lib.decodeL l
def checkGo:Nat->Nat->List UInt8->Nat×Nat
 |0,at_,_=>(at_,0)
 |n+1,at_,l=>if l= [] then (at_,0) else if (dec l).2=0 then (at_,5) else if isChar (dec l).1=false then (at_,6) else checkGo n (at_+(dec l).2) (l.drop (dec l).2)
def check (l:List UInt8):Nat×Nat:=checkGo l.length 0 l
def collGo:List UInt8->List UInt8->Bool->List UInt8
 | [],out,_=>out
 |c::t,out,gap=>if isSp c.toNat then collGo t out (!out.isEmpty) else collGo t (out++(if gap then [32] else [])++ [c]) false
def coll (l:List UInt8):List UInt8:=collGo l [] false
def str (l:List UInt8):ByteArray:=⟨l.toArray⟩
@[simp] theorem Z3 (l:List UInt8):(str l).data.toList=l:=by simp[str]
@[simp] theorem YN (l:List UInt8):(str l).size=l.length:=by simp[str,ByteArray.size]
theorem Zal (s:ByteArray):str s.data.toList=s:=by simp[str]
def collapse (s:ByteArray):ByteArray:=str (coll s.data.toList)
def checkS (s:ByteArray):Nat×Nat:=check s.data.toList
def validS (s:ByteArray):Bool:=decide ((checkS s).2=0) && ((collapse s).data.toList==s.data.toList)
theorem UM (l:List UInt8):Lib.decodeL l=Lib.decodeN l.length (l.getD 0 0).toNat (l.getD 1 0).toNat (l.getD 2 0).toNat (l.getD 3 0).toNat:=by
 unfold Lib.decodeL;rw[Lib.decode_at];have h:∀k,(ByteArray.mk l.toArray).get! k=l.getD k 0:=by intro k;simp[ByteArray.get!,ZZ];rfl
 simp only[h];simp[ByteArray.size]
theorem Gs (n b0 b1 b2 b3:Nat) (h:1<=n):1<=(Lib.decodeN n b0 b1 b2 b3).2/\(Lib.decodeN n b0 b1 b2 b3).2<=n:=by
 unfold Lib.decodeN
 repeat' split
 all_goals (simp only[];omega)
theorem Ug (l:List UInt8):(dec l).2<=l.length:=by
 unfold dec;by_cases h:l= []
 ·simp[h]
 ·rw[Ze h];have A:1<=l.length:=Xt.2 h;split
  ·simp
  ·rw[UM];exact (Gs _ _ _ _ _ A).2
theorem Vn (n k:Nat) (l:List UInt8) (h:l≠ []):checkGo (n+1) k l=if (dec l).2=0 then (k,5) else if isChar (dec l).1=false then (k,6) else checkGo n (k+(dec l).2) (l.drop (dec l).2):=by
 simp only[checkGo,Ze h]
theorem Ix:∀(n m k:Nat) (l:List UInt8),l.length<=n->l.length<=m->checkGo n k l=checkGo m k l
 |0,m,k,l,h,_=>by
  have A:l= []:=Zm om
  subst A
  cases m<;>simp[checkGo]
 |n+1,0,k,l,_,h=>by
  have A:l= []:=Zm om
  subst A
  simp[checkGo]
 |n+1,m+1,k,l,h1,h2=>by
  by_cases A:l= []
  ·subst A;simp[checkGo]
  ·rw[Vn n k l A,Vn m k l A]
   by_cases D:(dec l).2=0
   ·rw[Zi D,Zi D]
   ·rw[Ze D,Ze D]
    by_cases hc:isChar (dec l).1=false
    ·rw[Zi hc,Zi hc]
    ·rw[Ze hc,Ze hc]
     exact Ix n m _ _ (by simp;omega) (by simp;omega)
theorem ZdL (n k:Nat):checkGo n k []=(k,0):=by cases n<;>simp[checkGo]
theorem Zf4 (l:List UInt8) (k:Nat) (H:k<l.length):checkGo l.length k (l.drop k)=if (dec (l.drop k)).2=0 then (k,5) else if isChar (dec (l.drop k)).1=false then (k,6) else checkGo l.length (k+(dec (l.drop k)).2) (l.drop (k+(dec (l.drop k)).2)):=by
 have D:l.drop k≠ []:=by intro h;have:=Zz List.length h;simp at this;omega
 obtain ⟨n,F⟩:∃n,l.length=n+1:=⟨l.length - 1,om⟩;rw[show checkGo l.length k (l.drop k)=checkGo (n+1) k (l.drop k) by rw[F],Vn n k _ D,List.drop_drop];by_cases A:(dec (l.drop k)).2=0
 ·rw[Zi A,Zi A]
 ·rw[Ze A,Ze A];by_cases hc:isChar (dec (l.drop k)).1=false
  ·rw[Zi hc,Zi hc]
  ·rw[Ze hc,Ze hc];exact Ix _ _ _ _ (by rw[Zk];omega) (by rw[Zk];omega)
theorem ZdK (l:List UInt8) (k:Nat) (h:l.length<=k):checkGo l.length k (l.drop k)=(k,0):=by
 rw[ZC h];exact ZdL _ _
def Ext (w w':Wq):Prop:=Below w.heap.size w w'
theorem Ext.refl (w:Wq):Ext w w:=Zdg _ _
theorem Ext.size {a b:Wq} (h:Ext a b):a.heap.size<=b.heap.size:=Below.size h
theorem Ext.trans {a b c:Wq} (h:Ext a b) (k:Ext b c):Ext a c:=Below.trans h (XF k h.size)
theorem Ext.drew {a b:Wq} (h:Ext a b):Ext a b.drew:=Below.drew h
theorem Ext.alloc {a b:Wq} (h:Ext a b) (o:Obj):Ext a (b.alloc o):=Below.alloc h h.size o
theorem Ext.setCell {a b:Wq} (h:Ext a b) {p:Addr} (A:a.heap.size<=p.block) (u:Value):Ext a (b.setCell p u):=Below.setCell h A u
theorem Ext.below {a b:Wq} (h:Ext a b):Below a.heap.size a b:=h
theorem Ext.then {a b c:Wq} (h:Ext a b) (k:Below a.heap.size b c):Ext a c:=Below.trans h k
theorem Ext.cell {a b:Wq} (h:Ext a b) {p:Addr} {v:Value} (hc:a.cell? p=some v):b.cell? p=some v:=
 (Below.cell h (ZW a p hc)).trans hc
theorem Ext.heap {a b:Wq} (h:Ext a b) {k:Nat} {o:Obj} (hc:a.heap[k]? =some o):b.heap[k]? =some o:=
 (Below.block h k (ZP.1 hc).1).trans hc
theorem Ext.grown {a b:Wq} (h:Ext a b) (row:Option Nat):a.grownBy b row:=⟨h.os,h.tape,h.output,h.size,λk A _=>Below.block h k A⟩
theorem Yb (s:ByteArray):s.toList=s.data.toList:=Jp s
theorem QT (a b:ByteArray):(a.toList==b.toList)=(a.data.toList==b.data.toList):=by rw[Yb,Yb]
theorem Vb {a b:ByteArray} (h:a.data.toList=b.data.toList):a=b:=by
 cases a;cases b
 congr
 exact Array.toList_inj.1 h
theorem Zbx {k k':IntKind} {a b c d:Int} (h:a=b) (A:c=d):Ending.returned (.tuple #[.int k a,.int k' c])= .returned (.tuple #[.int k b,.int k' d]):=by rw[h,A]
structure Env (w:World):Prop where
 utf8:Lib.Utf8Tabs 3 4 w
 pow : Lib.TabIs prog w "internal/strconv.uint64pow10" .u64 Lib.pow10Tab
 size:6<=w.heap.size
 letters:∃t fr,w.heap[6]? =some (.cells #[.int .u8 98,.int .u8 8,.int .u8 102,.int .u8 12,.int .u8 110,.int .u8 10,.int .u8 114,.int .u8 13,.int .u8 116,.int .u8 9] t fr)
theorem ZpM : prog.globalNamed "internal/strconv.uint64pow10" = some 5 := by kernel_rfl
theorem Env.ext {w w':Wq} (J:Env w) (h:Ext w w'):Env w':=by
 obtain ⟨A,F,H,I⟩:=J;refine ⟨⟨λc hc=>h.cell (A.1 c hc),λi D=>⟨h.cell (A.2 i D).1,h.cell (A.2 i D).2⟩⟩,?_,Zp H h.size,?_⟩
 ·exact var?_below (B:=w.heap.size) h ZpM om F
 ·obtain ⟨t,fr,K⟩:=I;exact ⟨t,fr,h.heap K⟩
theorem Env.alloc {w:Wq} (h:Env w) (o:Obj):Env (w.alloc o):=h.ext ((Ext.refl w).alloc o)
theorem U1 (a:Addr) (n:Nat):(a.add n).block=a.block:=by unfold Addr.add;split<;>rfl
theorem add_zero (a:Addr):a.add 0=a:=by unfold Addr.add;simp
structure RSl (w:Wq) (size:Nat) (v:Value) (n:Nat) (xs:List Value):Prop where
 len:xs.length=n*size
 form:∃A c,v= .slice A n c/\n<=c/\c<=maxLen/\(A=none->c=0)/\∀j u,xs[j]? =some u->∃ad,A=some ad/\w.cell? (ad.add j)=some u
theorem RSl.ext {w w':Wq} {size n:Nat} {v:Value} {xs:List Value} (h:RSl w size v n xs) (R:Ext w w'):RSl w' size v n xs:=by
 obtain ⟨D,A,c,e,F,H,I,J⟩:=h;exact ⟨D,A,c,e,F,H,I,λj u Q=>let ⟨ad,K,hc⟩:=J j u Q;⟨ad,K,R.cell hc⟩⟩
theorem RSl.nil (w:Wq) (size:Nat):RSl w size sN 0 []:=⟨by simp,none,0,rfl,Zc _,Zj _,λ_=>rfl,λj u h=>by simp at h⟩
theorem RSl.of_own {w:Wq} {base size n:Nat} {e:TypeId} {v:Value} {xs:List Value} (h:w.ownsRow base e size v n xs):RSl w size v n xs:=by
 refine ⟨h.1,?_⟩;rcases h.2 with ⟨rfl,rfl⟩|⟨g,cap,D,rfl,I,J,H,F,K,Q⟩
 ·exact ⟨none,0,rfl,Zc _,Zj _,λ_=>rfl,λj u A=>by have:=h.1;simp at this;subst this;simp at A⟩
 ·exact ⟨some ⟨g,0,none⟩,cap,rfl,H,F,(λe=>by cases e),λj u A=>⟨_,rfl,h.cells (g:=g) rfl j u A⟩⟩
section
variable {P:Program} {W w:World} {a:Act} {g id:Nat} {o:Oper} {ops:Array Oper} {v:Value}
structure Aft (W:Wq) where
 w:Wq
 ext:Ext W w
instance (W:World):Nonempty (Aft W):=⟨⟨W,Ext.refl W⟩⟩
theorem ZdD {Q:Exit->Act->Wq->Prop} {l:List Oper} (D:P.follows .mixedOrders=true) (A:Region.lexB .any l.toArray=true)
 (h:wpQuiet P l.toArray (λw'=>∃d:Aft w,w'=d.w) (λa'=>∀w',(∃d:Aft w,w'=d.w)->Q .normal a' w') l a):(Code.region id l.toArray true).wp P Q a w:=
 wp_region_quiet (C:=λw'=>∃d:Aft w,w'=d.w) D A ⟨⟨_,(Ext.refl w).drew⟩,rfl⟩ (by simpa using h)
theorem ZE {f:FuncId} {args:Array Value} {d:Aft W} (h:Calls P f args d.w λe w'=>e= .returned v/\Ext d.w w'):Calls P f args d.w λe w'=>e= .returned v/\∃d:Aft W,w'=d.w:=
 h.mono λ_ w' ⟨D,A⟩=>⟨D,⟨w',d.ext.trans A⟩,rfl⟩
theorem Uv {f:FuncId} {args:Array Value} {d:Aft W} (h:Calls P f args d.w λe w'=>e= .returned v/\w'=d.w):Calls P f args d.w λe w'=>e= .returned v/\∃d:Aft W,w'=d.w:=
 h.mono λ_ _ ⟨D,A⟩=>⟨D,d,A⟩
theorem Aft.cell {W:Wq} {p:Addr} {v:Value} (hc:W.cell? p=some v) (d:Aft W):d.w.cell? p=some v:=d.ext.cell hc
theorem YJ {K:Act->Wq->Prop} {Q:Exit->Act->Wq->Prop} {E:Prop} (F:o.guard=none) (ty:TypeId) (x y:Operand) (R:o.op= .store ty x y)
 (g:Nat) (cells:Array Value) (U:a.eval x= .pointer (some ⟨g,0,none⟩)) (V:a.eval y= .agg cells)
 (t:TypeId) (A:Array Value) (I:w.heap[g]? =some (.cells A t (0,0))) (J:(P.info? ty).map (·.size)=some cells.size)
 (D:A.size=cells.size) (H:cells.all (·.oneCell')=true)
 (h:K (a.put o.dst undef) (w.setRow g cells)):if Region.wanted o (yielded ops a.tmps)=true then Oper.wp P o a w K Q else E:=by
 have S:Region.wanted o (yielded ops a.tmps)=true:=by simp[Region.wanted,F]
 rw[Zi S];exact wp_store_row ty x y R g cells U V t A I J D H h
theorem Zo4 {a b c d e:Value} {t:TypeId} {fr:Nat×Nat} (h:w.heap[g]? =some (.cells #[a,b,c,d,e] t fr)):
 w.cell? ⟨g,0,none⟩=some a/\w.cell? ⟨g,1,none⟩=some b/\w.cell? ⟨g,2,none⟩=some c/\w.cell? ⟨g,3,none⟩=some d/\w.cell? ⟨g,4,none⟩=some e:=by
 refine ⟨?_,?_,?_,?_,?_⟩<;>(rw[YO _ _ _ _ _ _ h];rfl)
theorem Zo5 {a b c d e f:Value} {t:TypeId} {fr:Nat×Nat} (h:w.heap[g]? =some (.cells #[a,b,c,d,e,f] t fr)):
 w.cell? ⟨g,0,none⟩=some a/\w.cell? ⟨g,1,none⟩=some b/\w.cell? ⟨g,2,none⟩=some c/\w.cell? ⟨g,3,none⟩=some d/\w.cell? ⟨g,4,none⟩=some e/\w.cell? ⟨g,5,none⟩=some f:=by
 refine ⟨?_,?_,?_,?_,?_,?_⟩<;>(rw[YO _ _ _ _ _ _ h];rfl)
end
section
variable {W w:World} {a:Act} {g i id j:Nat} {o oi:Oper} {rest:List Oper} {v:Value}
section
variable {P:Program} {ops:Array Oper} {W:World}
def yields1 (P:Program) (W:Wq) (o:Oper) (a:Act) (v:Value):Prop:=∀c:Aft W,o.quietAt P a (λw'=>∃e:Aft c.w,w'=e.w) c.w v
def calm1 (P:Program) (W:Wq) (o:Oper) (a:Act) (next:Act->Prop):Prop:=∃v,(∀c:Aft W,o.quietAt P a (λw'=>∃e:Aft c.w,w'=e.w) c.w v)/\next (a.put o.dst v)
theorem ZdC {C:Wq->Prop} {K:Act->Wq->Prop} {Q':Exit->Act->Wq->Prop} (h:o.quietAt P a C w v) (D:C w) (hK:∀w',C w'->K (a.put o.dst v) w'):o.wp P a w K Q':=by
 unfold Oper.quietAt at h;unfold Oper.wp;cases hr:(execOp a.eval o).run P w with
 |halt x w'=>rw[hr] at h;exact h.elim
 |ok n w'=>
  rw[hr] at h;cases n<;>simp only[Oper.quietUpon] at h<;>simp only[Oper.upon]
  case value u=>rw[h.1,h.2];exact hK w D
  case skip=>rw[h.1,<-h.2];exact hK w D
  case enter f args=>rw[h.1];exact h.2.mono λe A ⟨F,hc⟩=>by rw[F];exact hK A hc
def wpCalm (P:Program) (ops:Array Oper) (W:Wq) (Q:Act->Prop):List Oper->Act->Prop
 | [],a=>Q a
 |o::rest,a=>if Region.wanted o (yielded ops a.tmps) then calm1 P W o a (wpCalm P ops W Q rest) else wpCalm P ops W Q rest (a.put o.dst undef)
theorem Ii {Q:Act->Prop} (h:Q a):wpCalm P ops W Q [] a:=h
theorem GT {Q:Act->Prop} (h:∀K:Act->Prop,(∀a,wpCalm P ops W Q rest a->K a)->if Region.wanted o (yielded ops a.tmps) then calm1 P W o a K else K (a.put o.dst undef)):wpCalm P ops W Q (o::rest) a:=
 h _ λ_ h=>h
def cOp (P:Program) (ops:Array Oper) (W:Wq) (i:Nat) (K:Act->Prop) (a:Act):Prop:=
 match ops[i]? with
 |none=>K a
 |some o=>if Region.wanted o (yielded ops a.tmps) then calm1 P W o a K else K (a.put o.dst undef)
theorem Zmn {K D:Act->Prop} (h:∀a,K a->D a) (A:cOp P ops W i K a):cOp P ops W i D a:=by
 unfold cOp at*;cases ho:ops[i]? with
 |none=>rw[ho] at A;exact h _ A
 |some o=>
  rw[ho] at A;simp only at A|-;by_cases F:Region.wanted o (yielded ops a.tmps)=true
  ·rw[Zi F] at A|-;obtain ⟨v,H,I⟩:=A;exact ⟨v,H,h _ I⟩
  ·rw[Ze F] at A|-;exact h _ A
def YC (P:Program) (ops:Array Oper) (W:Wq) (o:Oper) (v:Value) (a:Act):Prop:=
 (Region.wanted o (yielded ops a.tmps)=true/\yields1 P W o a v)\/(Region.wanted o (yielded ops a.tmps)=false/\v=undef)
theorem YC.cOp (D:ops[i]? =some o) (H:YC P ops W o v a) {K:Act->Prop} (h:K (a.put o.dst v)):cOp P ops W i K a:=by
 unfold Go.Proofs.YtnlafkgkcnenfaaGreatDoor.cOp;rw[D];simp only;rcases H with ⟨A,F⟩|⟨A,rfl⟩
 ·rw[Zi A];exact ⟨v,F,h⟩
 ·rw[Ze (by simp[A])];exact h
theorem YC.of_same {o:Oper} {v:Value} {a a':Act} (D:YC P ops W o v a) (h:execOp a'.eval o=execOp a.eval o)
 (A:Region.wanted o (yielded ops a'.tmps)=Region.wanted o (yielded ops a.tmps)):YC P ops W o v a':=by
 unfold YC yields1 Oper.quietAt at*;rw[h,A];exact D
theorem ZeX {K:Act->Prop} (H:ops[i]? =some o) (h:cOp P ops W i K a):∃v,YC P ops W o v a/\K (a.put o.dst v):=by
 unfold cOp at h;rw[H] at h;simp only at h;by_cases A:Region.wanted o (yielded ops a.tmps)=true
 ·rw[Zi A] at h;obtain ⟨v,D,F⟩:=h;exact ⟨v,.inl ⟨A,D⟩,F⟩
 ·rw[Ze A] at h;exact ⟨undef,.inr ⟨by simpa using A,rfl⟩,h⟩
theorem Zof {oj:Oper} (Q:ops[j]? =some oj) (A:oi.apart ops oj=true)
 (D:∀cs b,oi.op≠ .select cs b) (F:∀cs b,oj.op≠ .select cs b) {K:Act->Prop}
 (U:YC P ops W oi v a) (h:cOp P ops W j K (a.put oi.dst v)):cOp P ops W j (λa'=>YC P ops W oi v a'/\K (a'.put oi.dst v)) a:=by
 obtain ⟨I,R,J⟩:=Oper.apart_spec A;obtain ⟨u,S,hK⟩:=ZeX Q h;have H:YC P ops W oj u a:=S.of_same (execOp_put oj F a oi.dst v I).symm (wanted_put oj a oi.dst v I).symm;refine H.cOp Q ⟨U.of_same (execOp_put oi D a oj.dst u J) (wanted_put oi a oj.dst u J),?_⟩;rw[<-Act.put_comm a v u R];exact hK
end
section
variable {P:Program} {ops:Array Oper} {md:Region.Mode} {W:World} {p n:Nat} {d:Option Tmp}
def anyD (P:Program) (md:Region.Mode) (ops:Array Oper) (W:Wq) (p n:Nat) (d:Option Tmp) (L:Array Bool->Option Nat->Act->Prop):Nat->Array Bool->Option Nat->Act->Prop
 |0,listed,gs,a=>L listed gs a
 |f+1,listed,gs,a=>Region.ready md ops listed≠ []/\∀i∈Region.ready md ops listed,i<n/\
  ((i=p->∀g,W.heap.size<=g->anyD P md ops W p n d L f (listed.setIfInBounds p true) (some g) (a.put d (.pointer (some ⟨g,0,none⟩))))/\
   (i≠p->cOp P ops W i (anyD P md ops W p n d L f (listed.setIfInBounds i true) gs) a))
def blkOf (B:Nat) (O:Obj) (w:Wq):Option Nat->Prop
 |none=>True
 |some g=>B<=g/\w.heap[g]? =some O
theorem Zij {op:Oper} {L:Array Bool->Option Nat->Act->Prop} (hi:ops[i]? =some oi) (hp:p<ops.size->ops[p]? =some op) (hd:p<ops.size->op.dst=d) (hm:i≠p)
 (J:∀(j:Nat) (o:Oper) cs b,ops[j]? =some o->o.op≠ .select cs b)
 (hs:Region.sinkB md ops n=true) (hc:Region.chainB md ops n=true) (hn:n<ops.size) (hl:i<n)
 (Y:∀listed gs a,L listed gs a->∀j∈Region.ready md ops listed,n<=j):
 ∀(f:Nat) (listed:Array Bool) (gs:Option Nat) (a:Act),HeadInv md ops n listed->
  (∀j oj,ops[j]? =some oj->j≠i->listed.getD j true=false->(∀e∈oj.after,Region.binds md e=true->e.on≠i)->oi.apart ops oj=true)->
  i∈Region.ready md ops listed->YC P ops W oi v a->
  anyD P md ops W p n d L f (listed.setIfInBounds i true) gs (a.put oi.dst v)->anyD P md ops W p n d L (f+1) listed gs a:=by
 intro f
 induction f with
 |zero=>
  intro listed gs a inv _ R hy H;have S:=(ZrA.1 R).1;refine ⟨λh=>(by rw[h] at R;cases R),λj K=> ?_⟩;have F:j<n:=by
   rcases Y9 j n with h|h
   ·exact h
   ·exact absurd K (tail_waits hs hc hn inv _ i rfl hl S j h)
  have hu:j=i:=by
   rcases Nat.decEq j i with h|h
   ·have U:=Y _ _ _ H j (Jn K h);omega
   ·exact h
  exact ⟨F,λh=>absurd (hu.symm.trans h) hm,λ_=>by subst hu;exact hy.cOp hi H⟩
 |succ f ih=>
  intro listed gs a inv I R hy H;have S:=(ZrA.1 R).1;refine ⟨λh=>(by rw[h] at R;cases R),λj K=> ?_⟩;have F:j<n:=by
   rcases Y9 j n with h|h
   ·exact h
   ·exact absurd K (tail_waits hs hc hn inv _ i rfl hl S j h)
  obtain ⟨V,oj,Q,ha⟩:=ZrA.1 K;have ht:∀e∈oj.after,Region.binds md e=true->e.on≠i:=λe he hb hv=>by have U:=ha e he hb;rw[hv,getD_both S] at U;cases U
  have D:∀k ok,ops[k]? =some ok->k≠i->(listed.setIfInBounds j true).getD k true=false->(∀e∈ok.after,Region.binds md e=true->e.on≠i)->oi.apart ops ok=true:=λk ok hk hw X hx=>by
   refine I k ok hk hw ?_ hx;by_cases ho:j=k
   ·subst ho;exact V
   ·rw[Xu true ho] at X;exact X
  by_cases A:j=i
  ·subst A;exact ⟨F,λh=>absurd h hm,λ_=>hy.cOp hi H⟩
  ·have hf:=I j oj Q A V ht;have hh:(listed.setIfInBounds i true).setIfInBounds j true=(listed.setIfInBounds j true).setIfInBounds i true:=(UL _ _ A).symm;refine ⟨F,λZ=> ?_,λZ=> ?_⟩
   ·subst Z;intro g hg;have U:=((H.2 j (Jn K A)).2.1 rfl) g hg;rw[hh] at U;have hq:j<ops.size:=om;have hz:oj=op:=YX (Q.symm.trans (hp hq));obtain ⟨_,q2,q3⟩:=Oper.apart_spec hf;rw[hz,hd hq] at q2 q3;refine ih _ _ _ (inv.set K F) D (Jn R (Ne.symm A)) (hy.of_same (execOp_put oi (λcs b=>J i oi cs b hi) a d _ q3) (wanted_put oi a d _ q3)) ?_;rw[<-Act.put_comm a _ _ q2];exact U
   ·have U:=(H.2 j (Jn K A)).2.2 Z;have h2:=Zof Q hf (λcs b=>J i oi cs b hi) (λcs b=>J j oj cs b Q) hy U;refine Zmn (λa' h3=>ih _ _ a' (inv.set K F) D (Jn R (Ne.symm A)) h3.1 ?_) h2;rw[<-hh];exact h3.2
def setFrom:Nat->Nat->Array Bool->Array Bool
 |0,_,x=>x
 |f+1,k,x=>setFrom f (k+1) (x.setIfInBounds k true)
def lexQ (md:Region.Mode) (ops:Array Oper):Nat->Nat->Array Bool->Bool
 |0,_,_=>true
 |f+1,k,listed=>(Region.ready md ops listed).contains k && Region.free md ops listed k && lexQ md ops f (k+1) (listed.setIfInBounds k true)
theorem ZbD {op:Oper} {Qh:Act->Prop} {L:Array Bool->Option Nat->Act->Prop} (R:p<ops.size->ops[p]? =some op) (K:p<ops.size->op.dst=d)
 (D:Region.noSelect ops=true) (S:Region.sinkB md ops n=true) (hc:Region.chainB md ops n=true) (Q:n<ops.size)
 (A:∀listed gs a,L listed gs a->∀j∈Region.ready md ops listed,n<=j) (m:Nat):
 ∀(l:List Oper) (k:Nat) (listed:Array Bool) (a:Act),(∀j,j<l.length->l[j]? =ops[k+j]?)->k+l.length<=n->(p<k\/k+l.length<=p)->HeadInv md ops n listed->
 lexQ md ops l.length k listed=true->wpCalm P ops W Qh l a->(∀a',HeadInv md ops n (setFrom l.length k listed)->Qh a'->anyD P md ops W p n d L m (setFrom l.length k listed) none a')->
 anyD P md ops W p n d L (l.length+m) listed none a
 | [],k,listed,a,_,_,_,inv,_,h,hend=>by rw[ZK,YI];exact hend a inv h
 |o::l,k,listed,a,hl,hk,hpk,inv,hB,h,hend=>by
  have H:ops[k]? =some o:=by simpa using (hl 0 (by simp)).symm
  simp only[Zd] at hk hpk;simp only[Zd,lexQ,ZG] at hB;obtain ⟨⟨V,U⟩,I⟩:=hB;have F:k∈Region.ready md ops listed:=by simpa using V
  have J:cOp P ops W k (wpCalm P ops W Qh l) a:=by unfold cOp;simp only[H];exact h
  obtain ⟨v,X,hK⟩:=ZeX H J;rw[Zd,show l.length+1+m=(l.length+m)+1 by omega];exact Zij H R K om (Region.noSelect_spec D) S hc Q om A _ listed none a inv (Region.free_spec H U) F X
   (ZbD R K D S hc Q A m l (k+1) _ _ (λj Y=>by have:=hl (j+1) (by simp;omega);simpa [Nat.add_assoc,Nat.add_comm 1 j] using this) om om (inv.set F om) I hK hend)
theorem KC {O:Obj} {op:Oper} {L:Array Bool->Option Nat->Act->Prop} {Q':Exit->Act->Wq->Prop} (hp:p<ops.size->ops[p]? =some op)
 (D:p<ops.size->∀(a:Act) (w:Wq) (K:Act->Wq->Prop),K (a.put d (.pointer (some ⟨w.heap.size,0,none⟩))) (w.alloc O)->if Region.wanted op (yielded ops a.tmps)=true then op.wp P a w K Q' else K (a.put op.dst undef) w)
 (hL:∀listed gs a w,Ext W w->blkOf W.heap.size O w gs->L listed gs a->wpAny P md ops Q' g listed a w) (f:Nat):
 ∀(listed:Array Bool) (gs:Option Nat) (a:Act) (w:Wq),Ext W w->blkOf W.heap.size O w gs->anyD P md ops W p n d L f listed gs a->wpAny P md ops Q' (f+g) listed a w:=by
 induction f with
 |zero=>intro listed gs a w F J h;rw[YI];exact hL _ _ _ _ F J h
 |succ f ih=>
  intro listed gs a w F J h;rw[show f+1+g=(f+g)+1 by omega];refine ⟨λZ=>absurd Z h.1,λi Y=> ?_⟩;obtain ⟨ha,h1,h2⟩:=h.2 i Y;by_cases R:i=p
  ·subst R;obtain ⟨_,oi,X,_⟩:=ZrA.1 Y;have S:i<ops.size:=(ZP.1 X).1;have A:=ih _ _ _ (w.alloc O) (F.alloc O) (show blkOf W.heap.size O (w.alloc O) (some w.heap.size) from ⟨F.size,Zg w O⟩) (h1 rfl w.heap.size F.size);have V:=D S a w (wpAny P md ops Q' (f+g) (listed.setIfInBounds i true)) A;unfold wpOp;rw[hp S];simp only;split at V
   ·rename_i Q;rw[Zi Q];exact Or.inl V
   ·rename_i Q;rw[Ze Q];exact V
  ·have A:=h2 R;unfold cOp at A;unfold wpOp;cases ho:ops[i]? with
   |none=>rw[ho] at A;exact ih _ _ _ _ F J A
   |some o=>
    rw[ho] at A;simp only at A|-;by_cases Q:Region.wanted o (yielded ops a.tmps)=true
    ·rw[Zi Q] at A|-;obtain ⟨v,q1,q2⟩:=A;left;have H:∀I,Ext w I->blkOf W.heap.size O I gs:=by
      intro I U;cases gs with
      |none=>trivial
      |some g=>exact ⟨J.1,U.heap J.2⟩
     refine ZdC (q1 ⟨w,F⟩) ⟨⟨w,Ext.refl w⟩,rfl⟩ ?_;rintro _ ⟨e,rfl⟩;exact ih _ _ _ _ (F.trans e.ext) (H _ e.ext) q2
    ·rw[Ze Q] at A|-;exact ih _ _ _ _ F J A
theorem Zdc {Q:Exit->Act->World->Prop} {l:List Oper} (n:Nat) (hm:P.follows .mixedOrders=true)
 (hB:(Region.noSelect l.toArray && decide (n<l.length) && Region.sinkB .any l.toArray n && Region.chainB .any l.toArray n && lexQ .any l.toArray n 0 (Array.replicate l.length false) && Region.seqB .any l.toArray (l.length - n) n (setFrom n 0 (Array.replicate l.length false)))=true)
 (h:wpCalm P l.toArray W (λa'=>∀c:Aft W,wpList P l.toArray Q (l.drop n) a' c.w) (l.take n) a):(Code.region id l.toArray true).wp P Q a W:=by
 simp only[ZG,ZT] at hB;obtain ⟨⟨⟨⟨⟨b1,b2⟩,b3⟩,b4⟩,b5⟩,b6⟩:=hB;have htl:(l.take n).length=n:=by simp;omega
 have inv0:HeadInv .any l.toArray n (Array.replicate l.length false):=
  ⟨by simp,λj oj _ hl=>(by rw[getD_replicate_false] at hl;cases hl),λt _ ht=>getD_in (by simpa using ht) (getD_replicate_false _ _)⟩
 have hL := ZbD (P := P) (W := W) (md := .any) (ops := l.toArray) (p := l.length) (n := n) (d := none) (op := ⟨none, .move (.const undef), 0, "", #[], none⟩)
  (Qh:=λa'=>∀c:Aft W,wpList P l.toArray Q (l.drop n) a' c.w)
  (L:=λlisted _ a'=>Region.seqB .any l.toArray (l.length - n) n listed=true/\∀c:Aft W,wpList P l.toArray Q (l.drop n) a' c.w)
  (λh=>by simp at h) (λh=>by simp at h) b1 b3 b4 (by simpa using b2) (λlisted _ a' hl=>seqB_ready hl.1) 0 (l.take n) 0 _ a
  (λj hj=>by rw[htl] at hj;simp[hj]) (by rw[htl];omega) (Or.inr (by rw[htl];omega)) inv0 (by rw[htl];exact b5) h
  (λa' _ hq=>⟨by rw[htl];exact b6,hq⟩)
 have h2 := KC (O := .cells #[] 0) (g := l.length - n) (Q' := Q) (op := ⟨none, .move (.const undef), 0, "", #[], none⟩) (fun h => by simp at h) (fun h => by simp at h)
  (λlisted gs a' w' hx _ hl=>by
   have:=wpAny_of_seq (P:=P) (md:= .any) (Q':=Q) (l.drop n) n listed a' w' (λj=>by simp[List.getElem?_drop]) (by rw[Zk];exact hl.1) (hl.2 ⟨w',hx⟩)
   rwa [Zk] at this) _ _ none a W.drew (Ext.refl W).drew trivial hL
 refine wp_region_any hm ?_;rw[htl,show n+0+(l.length - n)=l.toArray.size by simp;omega] at h2;simpa using h2
theorem KF {Q:Exit->Act->Wq->Prop} {l:List Oper} (p:Nat) (O:Obj) (op:Oper) (hm:P.follows .mixedOrders=true) (H:l[p]? =some op)
 (X:(Region.noSelect l.toArray && decide (p+1<l.length) && Region.sinkB .any l.toArray (p+1) && Region.chainB .any l.toArray (p+1) && lexQ .any l.toArray p 0 (Array.replicate l.length false) &&
  decide (Region.ready .any l.toArray (setFrom p 0 (Array.replicate l.length false))= [p]) && Region.seqB .any l.toArray (l.length - (p+1)) (p+1) ((setFrom p 0 (Array.replicate l.length false)).setIfInBounds p true))=true)
 (D:∀(a:Act) (w:Wq) (K:Act->Wq->Prop),K (a.put op.dst (.pointer (some ⟨w.heap.size,0,none⟩))) (w.alloc O)->if Region.wanted op (yielded l.toArray a.tmps)=true then op.wp P a w K Q else K (a.put op.dst undef) w)
 (h:wpCalm P l.toArray W (λa'=>∀(g:Nat) (c:Aft W),W.heap.size<=g->c.w.heap[g]? =some O->wpList P l.toArray Q (l.drop (p+1)) (a'.put op.dst (.pointer (some ⟨g,0,none⟩))) c.w) (l.take p) a):(Code.region id l.toArray true).wp P Q a W:=by
 simp only[ZG,ZT] at X;obtain ⟨⟨⟨⟨⟨⟨b1,b2⟩,b3⟩,b4⟩,b5⟩,V⟩,b7⟩:=X;have A:(l.take p).length=p:=by simp;omega
 have I:HeadInv .any l.toArray (p+1) (Array.replicate l.length false):=
  ⟨by simp,λj oj _ F=>(by rw[getD_replicate_false] at F;cases F),λt _ ht=>getD_in (by simpa using ht) (getD_replicate_false _ _)⟩
 have hL:=ZbD (P:=P) (W:=W) (md:= .any) (ops:=l.toArray) (p:=p) (n:=p+1) (d:=op.dst) (op:=op)
  (Qh:=λa'=>∀(g:Nat) (c:Aft W),W.heap.size<=g->c.w.heap[g]? =some O->wpList P l.toArray Q (l.drop (p+1)) (a'.put op.dst (.pointer (some ⟨g,0,none⟩))) c.w)
  (L:=λlisted gs a'=>Region.seqB .any l.toArray (l.length - (p+1)) (p+1) listed=true/\∃g,gs=some g/\∀c:Aft W,W.heap.size<=g->c.w.heap[g]? =some O->wpList P l.toArray Q (l.drop (p+1)) a' c.w)
  (λ_=>by simpa using H) (λ_=>rfl) b1 b3 b4 (by simpa using b2) (λlisted _ a' F=>seqB_ready F.1) 1 (l.take p) 0 _ a
  (λj hj=>by rw[A] at hj;simp[hj]) (by rw[A];omega) (Or.inr (by rw[A];omega)) I (by rw[A];exact b5) h
  (λa' _ U=>by
   rw[A]
   refine ⟨by rw[V];simp,λi hi=> ?_⟩
   rw[V] at hi
   have R:i=p:=(by simpa using hi)
   exact ⟨om,λ_ g Z=>⟨b7,g,rfl,λc h1 J=>U g c h1 J⟩,λS=>absurd R S⟩)
 have J:=KC (O:=O) (g:=l.length - (p+1)) (Q':=Q) (op:=op) (λ_=>by simpa using H) (λ_=>D)
  (λlisted gs a' w' hx Y F=>by
   obtain ⟨U,g,rfl,Z⟩:=F
   have:=wpAny_of_seq (P:=P) (md:= .any) (Q':=Q) (l.drop (p+1)) (p+1) listed a' w' (λj=>by simp[List.getElem?_drop]) (by rw[Zk];exact U) (Z ⟨w',hx⟩ Y.1 Y.2)
   rwa [Zk] at this) _ _ none a W.drew (Ext.refl W).drew trivial hL
 refine wp_region_any hm ?_;rw[A,show p+1+(l.length - (p+1))=l.toArray.size by simp;omega] at J;simpa using J
end
end
section
section
variable {P:Program} {ops:Array Oper} {md:Region.Mode} {W:World} {n x:Nat}
def seqL (md:Region.Mode) (ops:Array Oper):List Nat->Array Bool->Bool
 | [],listed=>(Region.ready md ops listed).isEmpty
 |t::ts,listed=>decide (Region.ready md ops listed= [t]) && seqL md ops ts (listed.setIfInBounds t true)
def AtIx (l:List Oper):List Nat->List Oper->Prop
 | [],[]=>True
 |t::ts,o::tl=>l[t]? =some o/\AtIx l ts tl
 |_,_=>False
theorem AtIx.nil {l:List Oper}:AtIx l [] []:=trivial
theorem AtIx.cons {l:List Oper} {t:Nat} {ts:List Nat} {o:Oper} {tl:List Oper} (h:l[t]? =some o) (r:AtIx l ts tl):AtIx l (t::ts) (o::tl):=⟨h,r⟩
theorem KD {l:List Oper} {Q':Exit->Act->Wq->Prop}:∀(ts:List Nat) (tl:List Oper) (listed:Array Bool) (a:Act) (w:Wq),AtIx l ts tl->
 seqL md l.toArray ts listed=true->wpList P l.toArray Q' tl a w->wpAny P md l.toArray Q' ts.length listed a w
 | [],[],_,_,_,_,hB,h=>⟨by simpa [seqL] using hB,h⟩
 | [],_::_,_,_,_,hl,_,_=>hl.elim
 |_::_,[],_,_,_,hl,_,_=>hl.elim
 |t::ts,o::tl,listed,a,w,hl,hB,h=>by
  simp only[seqL,ZG,ZT] at hB;refine ⟨λD=>(by rw[hB.1] at D;cases D),λi F=> ?_⟩;rw[hB.1] at F;have A:i=t:=by simpa using F
  subst A;have I:l.toArray[i]? =some o:=by rw[Yj];exact hl.1
  have J:wpOp P l.toArray Q' i (wpList P l.toArray Q' tl) a w:=by unfold wpOp;simp only[I];exact h
  exact J3 (λa' w' H=>KD ts tl _ a' w' hl.2 hB.2 H) J
end
end
section
variable {a:Act} {fuel i:Nat} {o oi:Oper} {post:List Oper} {v:Value} {w:World}
section
variable {P:Program} {ops:Array Oper} {md:Region.Mode} {Q:Exit→Act→World→Prop} {S:World→Prop} {t:Nat}
def wpAnyT (P:Program) (md:Region.Mode) (ops:Array Oper) (Q:Exit->Act->Wq->Prop) (S:Wq->Prop) (t:Nat):Nat->Array Bool->Act->Wq->Prop
 |0,listed,a,w=>Region.ready md ops listed= []/\Q .normal a w
 |f+1,listed,a,w=>(Region.ready md ops listed= []->Q .normal a w)/\
  ∀i∈Region.ready md ops listed,wpOp P ops Q i (λa' w'=>((listed.setIfInBounds i true).getD t true=false->S w')/\wpAnyT P md ops Q S t f (listed.setIfInBounds i true) a' w') a w
theorem Zdb:∀(f:Nat) (listed:Array Bool) (a:Act) (w:Wq),wpAnyT P md ops Q S t f listed a w->wpAny P md ops Q f listed a w
 |0,_,_,_,h=>h
 |f+1,_,_,_,h=>⟨h.1,λi D=>J3 (λa' w' A=>Zdb f _ a' w' A.2) (h.2 i D)⟩
theorem Kz:∀(f:Nat) (listed:Array Bool) (a:Act) (w:Wq),listed.getD t true=true->wpAny P md ops Q f listed a w->wpAnyT P md ops Q S t f listed a w
 |0,_,_,_,_,h=>h
 |f+1,listed,_,_,ht,h=>⟨h.1,λi I=>J3 (λa' w' H=>by
  have F:(listed.setIfInBounds i true).getD t true=true:=by
   by_cases D:i=t
   ·subst D
    rcases Y9 i listed.size with A|A
    ·simp[A]
    ·simp[A]
   ·rw[Xu true D];exact ht
  exact ⟨λA=>(by rw[F] at A;cases A),Kz f _ a' w' F H⟩) (h.2 i I)⟩
theorem Zat (hi:ops[i]? =some oi) (R:∀(j:Nat) (o:Oper) cs b,ops[j]? =some o->o.op≠ .select cs b)
 (hQ:∀c a w,Q (.panic c) (a.put oi.dst v) w->Q (.panic c) a w) (hg:i≠t) (ho:∀ot,ops[t]? =some ot->∃e∈ot.after,Region.binds md e=true/\e.on=i):
 ∀(fuel:Nat) (listed:Array Bool) (a:Act) (w:Wq),listed.getD t true=false->
  (∀j oj,ops[j]? =some oj->j≠i->listed.getD j true=false->(∀e∈oj.after,Region.binds md e=true->e.on≠i)->oi.apart ops oj=true)->
  i∈Region.ready md ops listed->YieldsIf P ops S oi v a->S w->
  wpAnyT P md ops Q S t fuel (listed.setIfInBounds i true) (a.put oi.dst v) w->wpAny P md ops Q (fuel+1) listed a w:=by
 intro fuel
 induction fuel with
 |zero=>
  intro listed a w _ _ V hy hS H;refine ⟨λh=>(by rw[h] at V;cases V),λj hj=> ?_⟩;by_cases A:j=i
  ·subst A;exact hy.wpOp hi hS H
  ·have:=Jn hj A;rw[H.1] at this;cases this
 |succ fuel ih=>
  intro listed a w ha D V hy hS H;refine ⟨λh=>(by rw[h] at V;cases V),λj hj=> ?_⟩;by_cases A:j=i
  ·subst A;exact hy.wpOp hi hS (Zdb _ _ _ _ H)
  ·have h1:=H.2 j (Jn hj A);obtain ⟨J,oj,I,X⟩:=ZrA.1 hj;have hn:=(ZrA.1 V).1;have K:∀e∈oj.after,Region.binds md e=true->e.on≠i:=λe he hb hf=>(by have h1:=X e he hb;rw[hf,getD_both hn] at h1;cases h1);have Z:j≠t:=λe=>(by subst e;obtain ⟨e,he,hb,hm⟩:=ho oj I;exact K e he hb hm);have h2:=wpOp_putIf I (D j oj I A J K) (λcs b=>R i oi cs b hi) (λcs b=>R j oj cs b I) hQ hy h1;have F:∀k ok,ops[k]? =some ok->k≠i->(listed.setIfInBounds j true).getD k true=false->
    (∀e∈ok.after,Region.binds md e=true->e.on≠i)->oi.apart ops ok=true:=λk ok hk hh U hl=>by
    refine D k ok hk hh ?_ hl
    by_cases Y:j=k
    ·subst Y;exact J
    ·rw[Xu true Y] at U;exact U
   have hc:(listed.setIfInBounds j true).getD t true=false:=(by rw[Xu true Z];exact ha);have hd:((listed.setIfInBounds i true).setIfInBounds j true).getD t true=false:=(by rw[Xu true Z,Xu true hg];exact ha);refine J3 (λa' w' h3=>ih (listed.setIfInBounds j true) a' w' hc F (Jn V (Ne.symm A)) h3.1 (h3.2.1 hd) ?_) h2;rw[UL _ _ A];exact h3.2.2
theorem Za7 {l:List Oper} {listed:Array Bool} (F:l[i]? =some oi)
 (A:(Region.noSelect l.toArray && Region.free md l.toArray listed i && (Region.ready md l.toArray listed).contains i)=true)
 (D:∀c a w,Q (.panic c) (a.put oi.dst v) w->Q (.panic c) a w) (H:Yields P l.toArray oi v a)
 (h:wpAny P md l.toArray Q fuel (listed.setIfInBounds i true) (a.put oi.dst v) w):wpAny P md l.toArray Q (fuel+1) listed a w:=by
 simp only[ZG] at A;exact wpAny_take (by rw[Yj];exact F) A.1.1 A.1.2 A.2 D H h
theorem XS {l:List Oper} {listed:Array Bool} (S:Wq->Prop) (t:Nat) (A:l[i]? =some oi)
 (J:(Region.noSelect l.toArray && decide (i≠t) && Region.waitsFor md l.toArray t i && !listed.getD t true && Region.free md l.toArray listed i && (Region.ready md l.toArray listed).contains i)=true)
 (U:∀c a w,Q (.panic c) (a.put oi.dst v) w->Q (.panic c) a w) (Z:YieldsIf P l.toArray S oi v a) (V:S w)
 (h:wpAnyT P md l.toArray Q S t fuel (listed.setIfInBounds i true) (a.put oi.dst v) w):wpAny P md l.toArray Q (fuel+1) listed a w:=by
 have K:l.toArray[i]? =some oi:=by rw[Yj];exact A
 simp only[ZG,ZT,Jl] at J;obtain ⟨⟨⟨⟨⟨b1,b2⟩,b3⟩,b4⟩,b5⟩,R⟩:=J;obtain ⟨ot,H,e,Y,X,F⟩:=Region.waitsFor_spec b3;exact Zat K (Region.noSelect_spec b1) U b2 (λI D=>by
  have:I=ot:=YX (D.symm.trans H);subst this;exact ⟨e,Y,X,F⟩) fuel listed a w b4 (Region.free_spec K b5) (by simpa using R) Z V h
def wpListS (P:Program) (ops:Array Oper) (Q:Exit->Act->Wq->Prop) (S:Wq->Prop) (post:List Oper):List Oper->Act->Wq->Prop
 | [],a,w=>wpList P ops Q post a w
 |o::tl,a,w=>if Region.wanted o (yielded ops a.tmps) then Oper.wp P o a w (λa' w'=>S w'/\wpListS P ops Q S post tl a' w') Q else S w/\wpListS P ops Q S post tl (a.put o.dst undef) w
theorem X0 (h:wpList P ops Q post a w):wpListS P ops Q S post [] a w:=h
theorem Yg {tl:List Oper} (h:∀K:Act->Wq->Prop,(∀a' w',S w'->wpListS P ops Q S post tl a' w'->K a' w')->if Region.wanted o (yielded ops a.tmps) then Oper.wp P o a w K Q else K (a.put o.dst undef) w):wpListS P ops Q S post (o::tl) a w:=
 h (λa' w'=>S w'/\wpListS P ops Q S post tl a' w') λ_ _ A D=>⟨A,D⟩
theorem Za6 {l:List Oper} (t:Nat) (I:List Nat) {post:List Oper} (D:AtIx l (t::I) post):∀(ts:List Nat) (tl:List Oper) (listed:Array Bool) (a:Act) (w:Wq),AtIx l ts tl->
 seqL md l.toArray (ts++(t::I)) listed=true->wpListS P l.toArray Q S post tl a w->wpAnyT P md l.toArray Q S t (ts.length+(I.length+1)) listed a w
 | [],[],listed,a,w,_,hB,h=>by
  match post,D with
  |o::post',D=>
   simp only[Z7,seqL,ZG,ZT] at hB;rw[ZK,YI];refine ⟨λA=>(by rw[hB.1] at A;cases A),λi J=> ?_⟩;rw[hB.1] at J;have F:i=t:=(by simpa using J);subst F;have U:l.toArray[i]? =some o:=(by rw[Yj];exact D.1);have H:wpOp P l.toArray Q i (wpList P l.toArray Q post') a w:=(by unfold wpOp;simp only[U];exact h);refine J3 (λa' w' R=> ?_) H;have K:(listed.setIfInBounds i true).getD i true=true:=by
    rcases Y9 i listed.size with A|A
    ·simp[A]
    ·simp[A]
   exact ⟨λA=>(by rw[K] at A;cases A),Kz _ _ a' w' K (KD I post' _ a' w' D.2 hB.2 R)⟩
 | [],_::_,_,_,_,hl,_,_=>hl.elim
 |_::_,[],_,_,_,hl,_,_=>hl.elim
 |j::ts,o::tl,listed,a,w,hl,hB,h=>by
  simp only[ZX,seqL,ZG,ZT] at hB;rw[Zd,show ts.length+1+(I.length+1)=(ts.length+(I.length+1))+1 by omega];refine ⟨λA=>(by rw[hB.1] at A;cases A),λi J=> ?_⟩;rw[hB.1] at J;have F:i=j:=by simpa using J
  subst F;have U:l.toArray[i]? =some o:=by rw[Yj];exact hl.1
  have H:wpOp P l.toArray Q i (λa' w'=>S w'/\wpListS P l.toArray Q S post tl a' w') a w:=by
   unfold wpOp;simp only[U];unfold wpListS at h;split
   ·rename_i H;rw[Zi H] at h;exact Or.inl h
   ·rename_i H;rw[Ze H] at h;exact h
  exact J3 (λa' w' R=>⟨λ_=>R.1,Za6 t I D ts tl _ a' w' hl.2 hB.2 R.2⟩) H
end
end
section
variable {a:Act} {fuel i:Nat} {o oi:Oper} {ops:Array Oper} {post:List Oper} {v:Value} {w:World}
section
variable {P:Program} {md:Region.Mode} {Q:Exit→Act→World→Prop} {S:World→Prop}
theorem Eh {t:Nat} (hi:ops[i]? =some oi) (R:∀(j:Nat) (o:Oper) cs b,ops[j]? =some o->o.op≠ .select cs b)
 (hQ:∀c a w,Q (.panic c) (a.put oi.dst v) w->Q (.panic c) a w) (hh:i≠t) (hp:∀ot,ops[t]? =some ot->∃e∈ot.after,Region.binds md e=true/\e.on=i):
 ∀(fuel:Nat) (listed:Array Bool) (a:Act) (w:Wq),listed.getD t true=false->
  (∀j oj,ops[j]? =some oj->j≠i->listed.getD j true=false->(∀e∈oj.after,Region.binds md e=true->e.on≠i)->oi.apart ops oj=true)->
  i∈Region.ready md ops listed->YieldsIf P ops S oi v a->S w->
  wpAnyT P md ops Q S t fuel (listed.setIfInBounds i true) (a.put oi.dst v) w->wpAnyT P md ops Q S t (fuel+1) listed a w:=by
 intro fuel
 induction fuel with
 |zero=>
  intro listed a w _ _ X hy Y H;refine ⟨λh=>(by rw[h] at X;cases X),λj hj=> ?_⟩;by_cases A:j=i
  ·subst A;exact hy.wpOp hi Y ⟨λ_=>Y,H⟩
  ·have:=Jn hj A;rw[H.1] at this;cases this
 |succ fuel ih=>
  intro listed a w hd D X hy Y H;refine ⟨λh=>(by rw[h] at X;cases X),λj hj=> ?_⟩;by_cases A:j=i
  ·subst A;exact hy.wpOp hi Y ⟨λ_=>Y,H⟩
  ·have h1:=H.2 j (Jn hj A);obtain ⟨J,oj,I,Z⟩:=ZrA.1 hj;have ho:=(ZrA.1 X).1;have K:∀e∈oj.after,Region.binds md e=true->e.on≠i:=λe he hb hg=>(by have h1:=Z e he hb;rw[hg,getD_both ho] at h1;cases h1);have hc:j≠t:=λe=>(by subst e;obtain ⟨e,he,hb,hn⟩:=hp oj I;exact K e he hb hn);have h2:=wpOp_putIf I (D j oj I A J K) (λcs b=>R i oi cs b hi) (λcs b=>R j oj cs b I) hQ hy h1;have F:∀k ok,ops[k]? =some ok->k≠i->(listed.setIfInBounds j true).getD k true=false->
    (∀e∈ok.after,Region.binds md e=true->e.on≠i)->oi.apart ops ok=true:=λk ok hk hl V hm=>by
    refine D k ok hk hl ?_ hm
    by_cases ha:j=k
    ·subst ha;exact J
    ·rw[Xu true ha] at V;exact V
   have hf:(listed.setIfInBounds j true).getD t true=false:=(by rw[Xu true hc];exact hd);have U:((listed.setIfInBounds i true).setIfInBounds j true).getD t true=false:=(by rw[Xu true hc,Xu true hh];exact hd);refine J3 (λa' w' h3=>⟨λ_=>h3.2.1 U,ih (listed.setIfInBounds j true) a' w' hf F (Jn X (Ne.symm A)) h3.1 (h3.2.1 U) ?_⟩) h2;rw[UL _ _ A];exact h3.2.2
theorem Zib {l:List Oper} {t:Nat} {listed:Array Bool} (A:l[i]? =some oi)
 (J:(Region.noSelect l.toArray && decide (i≠t) && Region.waitsFor md l.toArray t i && !listed.getD t true && Region.free md l.toArray listed i && (Region.ready md l.toArray listed).contains i)=true)
 (U:∀c a w,Q (.panic c) (a.put oi.dst v) w->Q (.panic c) a w) (Z:YieldsIf P l.toArray S oi v a) (V:S w)
 (h:wpAnyT P md l.toArray Q S t fuel (listed.setIfInBounds i true) (a.put oi.dst v) w):wpAnyT P md l.toArray Q S t (fuel+1) listed a w:=by
 have K:l.toArray[i]? =some oi:=by rw[Yj];exact A
 simp only[ZG,ZT,Jl] at J;obtain ⟨⟨⟨⟨⟨b1,b2⟩,b3⟩,b4⟩,b5⟩,R⟩:=J;obtain ⟨ot,H,e,Y,X,F⟩:=Region.waitsFor_spec b3;exact Eh K (Region.noSelect_spec b1) U b2 (λI D=>by
  have:I=ot:=YX (D.symm.trans H);subst this;exact ⟨e,Y,X,F⟩) fuel listed a w b4 (Region.free_spec K b5) (by simpa using R) Z V h
theorem GS {l:List Oper} {t:Nat} {listed:Array Bool} (U:l[i]? =some o) (I:Region.ready md l.toArray listed= [i])
 (h:∀K:Act->Wq->Prop,(∀a' w',S w'->wpAnyT P md l.toArray Q S t fuel (listed.setIfInBounds i true) a' w'->K a' w')->if Region.wanted o (yielded l.toArray a.tmps) then Oper.wp P o a w K Q else K (a.put o.dst undef) w):wpAnyT P md l.toArray Q S t (fuel+1) listed a w:=by
 have F:l.toArray[i]? =some o:=by rw[Yj];exact U
 have A:=h (λa' w'=>S w'/\wpAnyT P md l.toArray Q S t fuel (listed.setIfInBounds i true) a' w') λ_ _ J R=>⟨J,R⟩;refine ⟨λh=>(by rw[I] at h;cases h),λk H=> ?_⟩;rw[I] at H;rw[Zo.1 H];have D:wpOp P l.toArray Q i (λa' w'=>S w'/\wpAnyT P md l.toArray Q S t fuel (listed.setIfInBounds i true) a' w') a w:=by
  unfold wpOp;simp only[F];split
  ·rename_i D;rw[Zi D] at A;exact Or.inl A
  ·rename_i D;rw[Ze D] at A;exact A
 exact J3 (λa' w' A=>⟨λ_=>A.1,A.2⟩) D
theorem XQ {l:List Oper} (t:Nat) (A:List Nat) (F:AtIx l (t::A) post) (ts:List Nat) {tl:List Oper} {listed:Array Bool} (D:AtIx l ts tl) (I:fuel=ts.length+(A.length+1))
 (H:seqL md l.toArray (ts++(t::A)) listed=true) (h:wpListS P l.toArray Q S post tl a w):wpAnyT P md l.toArray Q S t fuel listed a w:=by
 subst I;exact Za6 t A F ts tl listed a w D H h
end
end
section
variable {a:Act} {fuel i:Nat} {o oi:Oper} {ops:Array Oper} {v:Value} {w:World}
section
variable {P:Program} {md:Region.Mode} {Q:Exit→Act→World→Prop} {S:World→Prop}
def wpAnyS (P:Program) (md:Region.Mode) (ops:Array Oper) (Q:Exit->Act->Wq->Prop) (S:Wq->Prop):Nat->Array Bool->Act->Wq->Prop
 |0,listed,a,w=>Region.ready md ops listed= []/\Q .normal a w
 |f+1,listed,a,w=>(Region.ready md ops listed= []->Q .normal a w)/\
  ∀i∈Region.ready md ops listed,wpOp P ops Q i (λa' w'=>S w'/\wpAnyS P md ops Q S f (listed.setIfInBounds i true) a' w') a w
theorem YD {ops:Array Oper} (S:Wq->Prop):∀{f:Nat} {listed:Array Bool} {a:Act} {w:Wq},wpAnyS P md ops Q S f listed a w->wpAny P md ops Q f listed a w
 |0,_,_,_,h=>h
 |_+1,_,_,_,h=>⟨h.1,λi D=>J3 (λ_ _ A=>YD S A.2) (h.2 i D)⟩
theorem ZfR (hi:ops[i]? =some oi) (J:∀(j:Nat) (o:Oper) cs b,ops[j]? =some o->o.op≠ .select cs b)
 (hQ:∀c a w,Q (.panic c) (a.put oi.dst v) w->Q (.panic c) a w):
 ∀(fuel:Nat) (listed:Array Bool) (a:Act) (w:Wq),
  (∀j oj,ops[j]? =some oj->j≠i->listed.getD j true=false->(∀e∈oj.after,Region.binds md e=true->e.on≠i)->oi.apart ops oj=true)->
  i∈Region.ready md ops listed->YieldsIf P ops S oi v a->S w->
  wpAnyS P md ops Q S fuel (listed.setIfInBounds i true) (a.put oi.dst v) w->wpAnyS P md ops Q S (fuel+1) listed a w:=by
 intro fuel
 induction fuel with
 |zero=>
  intro listed a w _ U hy V H;refine ⟨λh=>(by rw[h] at U;cases U),λj hj=> ?_⟩;by_cases A:j=i
  ·subst A;exact hy.wpOp hi V ⟨V,H⟩
  ·have:=Jn hj A;rw[H.1] at this;cases this
 |succ fuel ih=>
  intro listed a w D U hy V H;refine ⟨λh=>(by rw[h] at U;cases U),λj hj=> ?_⟩;by_cases A:j=i
  ·subst A;exact hy.wpOp hi V ⟨V,H⟩
  ·have h1:=H.2 j (Jn hj A);obtain ⟨I,oj,R,X⟩:=ZrA.1 hj;have hf:=(ZrA.1 U).1;have Z:∀e∈oj.after,Region.binds md e=true->e.on≠i:=λe he hb ha=>(by have h1:=X e he hb;rw[ha,getD_both hf] at h1;cases h1);have h2:=wpOp_putIf R (D j oj R A I Z) (λcs b=>J i oi cs b hi) (λcs b=>J j oj cs b R) hQ hy h1;have F:∀k ok,ops[k]? =some ok->k≠i->(listed.setIfInBounds j true).getD k true=false->
    (∀e∈ok.after,Region.binds md e=true->e.on≠i)->oi.apart ops ok=true:=λk ok hk hc K hd=>by
    refine D k ok hk hc ?_ hd
    by_cases Y:j=k
    ·subst Y;exact I
    ·rw[Xu true Y] at K;exact K
   refine J3 (λa' w' h3=>⟨h3.2.1,ih (listed.setIfInBounds j true) a' w' F (Jn U (Ne.symm A)) h3.1 h3.2.1 ?_⟩) h2;rw[UL _ _ A];exact h3.2.2
theorem YP {l:List Oper} {listed:Array Bool} (A:l[i]? =some oi)
 (D:(Region.noSelect l.toArray && Region.free md l.toArray listed i && (Region.ready md l.toArray listed).contains i)=true)
 (I:∀c a w,Q (.panic c) (a.put oi.dst v) w->Q (.panic c) a w) (K:YieldsIf P l.toArray S oi v a) (J:S w)
 (h:wpAnyS P md l.toArray Q S fuel (listed.setIfInBounds i true) (a.put oi.dst v) w):wpAnyS P md l.toArray Q S (fuel+1) listed a w:=by
 have F:l.toArray[i]? =some oi:=by rw[Yj];exact A
 simp only[ZG] at D;obtain ⟨⟨b1,b5⟩,H⟩:=D;exact ZfR F (Region.noSelect_spec b1) I fuel listed a w (Region.free_spec F b5) (by simpa using H) K J h
theorem Zia {l:List Oper} {listed:Array Bool} (U:l[i]? =some o) (I:Region.ready md l.toArray listed= [i])
 (h:∀K:Act->Wq->Prop,(∀a' w',S w'->wpAnyS P md l.toArray Q S fuel (listed.setIfInBounds i true) a' w'->K a' w')->if Region.wanted o (yielded l.toArray a.tmps) then Oper.wp P o a w K Q else K (a.put o.dst undef) w):wpAnyS P md l.toArray Q S (fuel+1) listed a w:=by
 have D:l.toArray[i]? =some o:=by rw[Yj];exact U
 have A:=h (λa' w'=>S w'/\wpAnyS P md l.toArray Q S fuel (listed.setIfInBounds i true) a' w') λ_ _ J R=>⟨J,R⟩;refine ⟨λh=>(by rw[I] at h;cases h),λk H=> ?_⟩;rw[I] at H;rw[Zo.1 H];unfold wpOp;simp only[D];split
 ·rename_i F;rw[Zi F] at A;exact Or.inl A
 ·rename_i F;rw[Ze F] at A;exact A
theorem ZjG {listed:Array Bool} (A:Region.ready md ops listed= []) (h:wpList P ops Q [] a w):wpAnyS P md ops Q S 0 listed a w:=⟨A,h⟩
end
end
section
variable {a:Act} {fuel i j:Nat} {o oi:Oper} {ops:Array Oper} {v:Value} {w:World}
section
variable {P:Program} {md:Region.Mode} {Q:Exit→Act→World→Prop} {F:Array Bool→World→Prop}
def wpAnyM (P:Program) (md:Region.Mode) (ops:Array Oper) (Q:Exit->Act->Wq->Prop) (F:Array Bool->Wq->Prop):Nat->Array Bool->Act->Wq->Prop
 |0,listed,a,w=>Region.ready md ops listed= []/\Q .normal a w
 |f+1,listed,a,w=>(Region.ready md ops listed= []->Q .normal a w)/\
  ∀i∈Region.ready md ops listed,wpOp P ops Q i (λa' w'=>F (listed.setIfInBounds i true) w'/\wpAnyM P md ops Q F f (listed.setIfInBounds i true) a' w') a w
theorem Ih {ops:Array Oper} (F:Array Bool->Wq->Prop):∀{f:Nat} {listed:Array Bool} {a:Act} {w:Wq},wpAnyM P md ops Q F f listed a w->wpAny P md ops Q f listed a w
 |0,_,_,_,h=>h
 |_+1,_,_,_,h=>⟨h.1,λi D=>J3 (λ_ _ A=>Ih F A.2) (h.2 i D)⟩
theorem ZfQ {S:Wq->Prop} {t:Nat} (hi:ops[i]? =some oi) (V:∀(j:Nat) (o:Oper) cs b,ops[j]? =some o->o.op≠ .select cs b)
 (hQ:∀c a w,Q (.panic c) (a.put oi.dst v) w->Q (.panic c) a w) (hq:i≠t) (hp:∀ot,ops[t]? =some ot->∃e∈ot.after,Region.binds md e=true/\e.on=i)
 (hF:∀L w,F (L.setIfInBounds i true) w->F L w) (ha:∀L w,L.getD t true=false->F L w->S w):
 ∀(fuel:Nat) (listed:Array Bool) (a:Act) (w:Wq),listed.getD t true=false->
  (∀j oj,ops[j]? =some oj->j≠i->listed.getD j true=false->(∀e∈oj.after,Region.binds md e=true->e.on≠i)->oi.apart ops oj=true)->
  i∈Region.ready md ops listed->YieldsIf P ops S oi v a->F (listed.setIfInBounds i true) w->
  wpAnyM P md ops Q F fuel (listed.setIfInBounds i true) (a.put oi.dst v) w->wpAnyM P md ops Q F (fuel+1) listed a w:=by
 intro fuel
 induction fuel with
 |zero=>
  intro listed a w K _ Y hy hS H;refine ⟨λh=>(by rw[h] at Y;cases Y),λj hj=> ?_⟩;by_cases A:j=i
  ·subst A;exact hy.wpOp hi (ha _ _ K (hF _ _ hS)) ⟨hS,H⟩
  ·have:=Jn hj A;rw[H.1] at this;cases this
 |succ fuel ih=>
  intro listed a w K D Y hy hS H;refine ⟨λh=>(by rw[h] at Y;cases Y),λj hj=> ?_⟩;by_cases A:j=i
  ·subst A;exact hy.wpOp hi (ha _ _ K (hF _ _ hS)) ⟨hS,H⟩
  ·have h1:=H.2 j (Jn hj A);obtain ⟨R,oj,J,hc⟩:=ZrA.1 hj;have ho:=(ZrA.1 Y).1;have U:∀e∈oj.after,Region.binds md e=true->e.on≠i:=λe he hb hg=>(by have h1:=hc e he hb;rw[hg,getD_both ho] at h1;cases h1);have hh:j≠t:=λe=>(by subst e;obtain ⟨e,he,hb,hn⟩:=hp oj J;exact U e he hb hn);have h2:=wpOp_putIf J (D j oj J A R U) (λcs b=>V i oi cs b hi) (λcs b=>V j oj cs b J) hQ hy h1;have I:∀k ok,ops[k]? =some ok->k≠i->(listed.setIfInBounds j true).getD k true=false->
    (∀e∈ok.after,Region.binds md e=true->e.on≠i)->oi.apart ops ok=true:=λk ok hk hl X hm=>by
    refine D k ok hk hl ?_ hm
    by_cases hd:j=k
    ·subst hd;exact R
    ·rw[Xu true hd] at X;exact X
   have hf:(listed.setIfInBounds j true).getD t true=false:=(by rw[Xu true hh];exact K);refine J3 (λa' w' h3=> ?_) h2;have Z:F ((listed.setIfInBounds j true).setIfInBounds i true) w':=(by rw[UL _ _ A];exact h3.2.1);refine ⟨hF _ _ Z,ih (listed.setIfInBounds j true) a' w' hf I (Jn Y (Ne.symm A)) h3.1 Z ?_⟩;rw[UL _ _ A];exact h3.2.2
theorem Ua {l:List Oper} {listed:Array Bool} (t:Nat) (S:Wq->Prop) (D:l[i]? =some oi)
 (R:(Region.noSelect l.toArray && decide (i≠t) && Region.waitsFor md l.toArray t i && !listed.getD t true && Region.free md l.toArray listed i && (Region.ready md l.toArray listed).contains i)=true)
 (Y:∀c a w,Q (.panic c) (a.put oi.dst v) w->Q (.panic c) a w) (X:∀L w,F (L.setIfInBounds i true) w->F L w) (A:∀L w,L.getD t true=false->F L w->S w)
 (hy:YieldsIf P l.toArray S oi v a) (Z:F (listed.setIfInBounds i true) w)
 (h:wpAnyM P md l.toArray Q F fuel (listed.setIfInBounds i true) (a.put oi.dst v) w):wpAnyM P md l.toArray Q F (fuel+1) listed a w:=by
 have U:l.toArray[i]? =some oi:=by rw[Yj];exact D
 simp only[ZG,ZT,Jl] at R;obtain ⟨⟨⟨⟨⟨b1,b2⟩,b3⟩,b4⟩,b5⟩,V⟩:=R;obtain ⟨ot,J,e,he,hb,I⟩:=Region.waitsFor_spec b3;exact ZfQ U (Region.noSelect_spec b1) Y b2 (λK H=>by
  have:K=ot:=YX (H.symm.trans J);subst this;exact ⟨e,he,hb,I⟩) X A fuel listed a w b4 (Region.free_spec U b5) (by simpa using V) hy Z h
theorem Zh9 {l:List Oper} {listed:Array Bool} (U:l[i]? =some o) (J:Region.ready md l.toArray listed= [i])
 (h:∀K:Act->Wq->Prop,(∀a' w',F (listed.setIfInBounds i true) w'->wpAnyM P md l.toArray Q F fuel (listed.setIfInBounds i true) a' w'->K a' w')->if Region.wanted o (yielded l.toArray a.tmps) then Oper.wp P o a w K Q else K (a.put o.dst undef) w):wpAnyM P md l.toArray Q F (fuel+1) listed a w:=by
 have D:l.toArray[i]? =some o:=by rw[Yj];exact U
 have A:=h (λa' w'=>F (listed.setIfInBounds i true) w'/\wpAnyM P md l.toArray Q F fuel (listed.setIfInBounds i true) a' w') λ_ _ R S=>⟨R,S⟩;refine ⟨λh=>(by rw[J] at h;cases h),λk I=> ?_⟩;rw[J] at I;rw[Zo.1 I];unfold wpOp;simp only[D];split
 ·rename_i H;rw[Zi H] at A;exact Or.inl A
 ·rename_i H;rw[Ze H] at A;exact A
theorem QY {l:List Oper} {oj:Oper} {listed:Array Bool} (V:l[i]? =some oi) (X:l[j]? =some oj) (Y:Region.ready md l.toArray listed= [i,j])
 (J:∀K:Act->Wq->Prop,(∀a' w',F (listed.setIfInBounds i true) w'->wpAnyM P md l.toArray Q F fuel (listed.setIfInBounds i true) a' w'->K a' w')->if Region.wanted oi (yielded l.toArray a.tmps) then Oper.wp P oi a w K Q else K (a.put oi.dst undef) w)
 (R:∀K:Act->Wq->Prop,(∀a' w',F (listed.setIfInBounds j true) w'->wpAnyM P md l.toArray Q F fuel (listed.setIfInBounds j true) a' w'->K a' w')->if Region.wanted oj (yielded l.toArray a.tmps) then Oper.wp P oj a w K Q else K (a.put oj.dst undef) w):wpAnyM P md l.toArray Q F (fuel+1) listed a w:=by
 have S:l.toArray[i]? =some oi:=by rw[Yj];exact V
 have U:l.toArray[j]? =some oj:=by rw[Yj];exact X
 have A:=J (λa' w'=>F (listed.setIfInBounds i true) w'/\wpAnyM P md l.toArray Q F fuel (listed.setIfInBounds i true) a' w') λ_ _ J R=>⟨J,R⟩;have D:=R (λa' w'=>F (listed.setIfInBounds j true) w'/\wpAnyM P md l.toArray Q F fuel (listed.setIfInBounds j true) a' w') λ_ _ J R=>⟨J,R⟩;refine ⟨λh=>(by rw[Y] at h;cases h),λk H=> ?_⟩;rw[Y] at H;simp only[ZH,ZY,Y1] at H;rcases H with H|H
 ·rw[H];unfold wpOp;simp only[S];split
  ·rename_i I;rw[Zi I] at A;exact Or.inl A
  ·rename_i I;rw[Ze I] at A;exact A
 ·rw[H];unfold wpOp;simp only[U];split
  ·rename_i I;rw[Zi I] at D;exact Or.inl D
  ·rename_i I;rw[Ze I] at D;exact D
theorem Zc6 {listed:Array Bool} (A:Region.ready md ops listed= []) (h:wpList P ops Q [] a w):wpAnyM P md ops Q F 0 listed a w:=⟨A,h⟩
end
end
section
variable {id:Nat} {o:Oper} {ops:Array Oper}
section
variable {P:Program} {md:Region.Mode} {Q:Exit→Act→World→Prop} {S:World→Prop} {l:List Oper} {oi:Oper} {fuel:Nat} {listed:Array Bool} {a:Act} {w:World} {t:Nat}
theorem tS (i:Nat) (v:Value) (H:l[i]? =some oi) (I:∀w',S w'->(execOp a.eval oi).run P w'= .ok (.value v) w') (F:S w) (h:wpAnyS P md l.toArray Q S fuel (listed.setIfInBounds i true) (a.put oi.dst v) w)
 (A:(Region.noSelect l.toArray && Region.free md l.toArray listed i && (Region.ready md l.toArray listed).contains i)=true:=by kernel_rfl) (D:∀c a w,Q (.panic c) (a.put oi.dst v) w->Q (.panic c) a w:=by exact λ_ _ _ h=>h)
 (J:Region.wanted oi (yielded l.toArray a.tmps)=true:=by rfl):wpAnyS P md l.toArray Q S (fuel+1) listed a w:=YP (i:=i) (v:=v) H A D (Or.inl ⟨J,I⟩) F h
theorem tL (i:Nat) (v:Value) (F:l[i]? =some oi) (H:∀w',(execOp a.eval oi).run P w'= .ok (.value v) w') (h:wpAny P md l.toArray Q fuel (listed.setIfInBounds i true) (a.put oi.dst v) w)
 (A:(Region.noSelect l.toArray && Region.free md l.toArray listed i && (Region.ready md l.toArray listed).contains i)=true:=by kernel_rfl) (D:∀c a w,Q (.panic c) (a.put oi.dst v) w->Q (.panic c) a w:=by exact λ_ _ _ h=>h)
 (I:Region.wanted oi (yielded l.toArray a.tmps)=true:=by rfl):wpAny P md l.toArray Q (fuel+1) listed a w:=Za7 (i:=i) (v:=v) F A D (Or.inl ⟨I,H⟩) h
theorem tT (i:Nat) (v:Value) (H:l[i]? =some oi) (I:∀w',S w'->(execOp a.eval oi).run P w'= .ok (.value v) w') (F:S w) (h:wpAnyT P md l.toArray Q S t fuel (listed.setIfInBounds i true) (a.put oi.dst v) w)
 (A:(Region.noSelect l.toArray && decide (i≠t) && Region.waitsFor md l.toArray t i && !listed.getD t true && Region.free md l.toArray listed i && (Region.ready md l.toArray listed).contains i)=true:=by kernel_rfl)
 (D:∀c a w,Q (.panic c) (a.put oi.dst v) w->Q (.panic c) a w:=by exact λ_ _ _ h=>h) (J:Region.wanted oi (yielded l.toArray a.tmps)=true:=by rfl):wpAnyT P md l.toArray Q S t (fuel+1) listed a w:=
 Zib (i:=i) (v:=v) H A D (Or.inl ⟨J,I⟩) F h
theorem sS (i:Nat) (h:∀K:Act->Wq->Prop,(∀a' w',S w'->wpAnyS P md l.toArray Q S fuel (listed.setIfInBounds i true) a' w'->K a' w')->if Region.wanted o (yielded l.toArray a.tmps) then Oper.wp P o a w K Q else K (a.put o.dst undef) w)
 (A:l[i]? =some o:=by exact rfl) (D:Region.ready md l.toArray listed= [i]:=by kernel_rfl):wpAnyS P md l.toArray Q S (fuel+1) listed a w:=Zia (i:=i) A D h
theorem tG (i:Nat) (v:Value) (A:S w) (h:wpAnyS P md l.toArray Q S fuel (listed.setIfInBounds i true) (a.put oi.dst v) w) (H:l[i]? =some oi:=by exact rfl)
 (I:∀w',S w'->(execOp a.eval oi).run P w'= .ok (.value v) w':=by exact λw' A=>by go_simp) (D:(Region.noSelect l.toArray && Region.free md l.toArray listed i && (Region.ready md l.toArray listed).contains i)=true:=by kernel_rfl)
 (F:∀c a w,Q (.panic c) (a.put oi.dst v) w->Q (.panic c) a w:=by exact λ_ _ _ h=>h) (J:Region.wanted oi (yielded l.toArray a.tmps)=true:=by rfl):wpAnyS P md l.toArray Q S (fuel+1) listed a w:=YP (i:=i) (v:=v) H D F (Or.inl ⟨J,I⟩) A h
theorem tH (i:Nat) (v:Value) (h:wpAny P md l.toArray Q fuel (listed.setIfInBounds i true) (a.put oi.dst v) w) (F:l[i]? =some oi:=by exact rfl) (H:∀w',(execOp a.eval oi).run P w'= .ok (.value v) w':=by exact λw=>by go_simp)
 (A:(Region.noSelect l.toArray && Region.free md l.toArray listed i && (Region.ready md l.toArray listed).contains i)=true:=by kernel_rfl) (D:∀c a w,Q (.panic c) (a.put oi.dst v) w->Q (.panic c) a w:=by exact λ_ _ _ h=>h)
 (I:Region.wanted oi (yielded l.toArray a.tmps)=true:=by rfl):wpAny P md l.toArray Q (fuel+1) listed a w:=Za7 (i:=i) (v:=v) F A D (Or.inl ⟨I,H⟩) h
theorem sE (h:wpList P ops Q [] a w) (A:Region.ready md ops listed= []:=by kernel_rfl):wpAnyS P md ops Q S 0 listed a w:=ZjG A h
theorem mS {F:Array Bool->Wq->Prop} (i:Nat) (h:∀K:Act->Wq->Prop,(∀a' w',F (listed.setIfInBounds i true) w'->wpAnyM P md l.toArray Q F fuel (listed.setIfInBounds i true) a' w'->K a' w')->if Region.wanted o (yielded l.toArray a.tmps) then Oper.wp P o a w K Q else K (a.put o.dst undef) w)
 (A:l[i]? =some o:=by exact rfl) (D:Region.ready md l.toArray listed= [i]:=by kernel_rfl):wpAnyM P md l.toArray Q F (fuel+1) listed a w:=Zh9 (i:=i) A D h
theorem rA (h:wpQuiet P l.toArray (λw'=>∃d:Aft w,w'=d.w) (λa'=>∀w',(∃d:Aft w,w'=d.w)->Q .normal a' w') l a) (D:P.follows .mixedOrders=true:=by kernel_rfl) (A:Region.lexB .any l.toArray=true:=by kernel_rfl):(Code.region id l.toArray true).wp P Q a w:=ZdD D A h
theorem rN (h:wpAny P .any ops Q ops.size (Array.replicate ops.size false) a {w with drawn:=w.drawn+1}) (A:P.follows .mixedOrders=true:=by kernel_rfl):(Code.region id ops true).wp P Q a w:=wp_region_any A h
end
end
theorem UU (c:Int) (w:Wq):Calls prog 61 #[.int .u8 c] w λe w'=>e= .returned (.bool (isSp c))/\w=w':=by
 unfold isSp;go_enter func61,ntmps61;go_wp2
 all_goals (go_ret;refine ⟨?_,rfl⟩)
 all_goals (refine Zz (λb=>Ending.returned (.bool b)) (Y2.2 ?_);simp at* <;>omega)
theorem Y7 (c:Int) (w:Wq):Calls prog 100 #[.int .u8 c] w λe w'=>e= .returned (.bool (isSp c))/\w=w':=by
 unfold isSp;go_enter func100,ntmps100;go_wp2
 all_goals (go_ret;refine ⟨?_,rfl⟩)
 all_goals (refine Zz (λb=>Ending.returned (.bool b)) (Y2.2 ?_);simp at* <;>omega)
theorem GN (r:Int) (w:Wq):Calls prog 189 #[.int .i32 r] w λe w'=>e= .returned (.bool (isChar r))/\w=w':=by
 unfold isChar;go_enter func189,ntmps189;go_wp2
 all_goals (go_ret;refine ⟨?_,rfl⟩)
 all_goals (refine Zz (λb=>Ending.returned (.bool b)) (Y2.2 ?_);simp at* <;>omega)
theorem VY (r:Int) (w:Wq):Calls prog 140 #[nI r] w λe w'=>e= .returned (.bool (isChar r))/\w=w':=by
 unfold isChar;go_enter func140,ntmps140;go_wp2
 all_goals (go_ret;refine ⟨?_,rfl⟩)
 all_goals (refine Zz (λb=>Ending.returned (.bool b)) (Y2.2 ?_);simp at* <;>omega)
def lays197_ren:Go.Shelf.Ren:=⟨fun|197=>216|260=>233|n=>n,fun|9=>9|21=>21|3=>3|4=>4|5=>5|105=>237|119=>287|0=>0|46=>89|139=>290|138=>289|n=>n,fun|3=>3|4=>4|n=>n⟩
theorem lays197:Go.Proofs.Lays.n197 prog lays197_ren:={
 mixed:=by kernel_rfl
 f197:=func216.trans (Zz some (by kernel_rfl))
 f260:=func233.trans (Zz some (by kernel_rfl))
 t0:=underlying0
 a0:=isAgg0
 z0:=sizeOf0
 v0:=zeroValue0
 t3:=underlying3
 a3:=isAgg3
 z3:=sizeOf3
 v3:=zeroValue3
 t4:=underlying4
 a4:=isAgg4
 z4:=sizeOf4
 v4:=zeroValue4
 t5:=underlying5
 a5:=isAgg5
 z5:=sizeOf5
 v5:=zeroValue5
 t9:=underlying9
 a9:=isAgg9
 z9:=sizeOf9
 v9:=zeroValue9
 t21:=underlying21
 a21:=isAgg21
 z21:=sizeOf21
 v21:=zeroValue21
 t46:=underlying89
 a46:=isAgg89
 z46:=sizeOf89
 v46:=zeroValue89
 t105:=underlying237
 a105:=isAgg237
 z105:=sizeOf237
 v105:=zeroValue237
 t119:=underlying287
 a119:=isAgg287
 z119:=sizeOf287
 t138:=underlying289
 a138:=isAgg289
 z138:=sizeOf289
 v138:=zeroValue289
 t139:=underlying290
 a139:=isAgg290
 z139:=sizeOf290
 v139:=zeroValue290
 g3:=by kernel_rfl
 g4:=by kernel_rfl}
open Go.RowKit Go.Lib in
theorem utf8_DecodeRuneInString (s:ByteArray) (w:Wq) (h:Lib.Utf8Tabs 3 4 w):
 Calls prog 216 #[.string s] w λe w'=>e= .returned (.tuple #[.int .i32 (Lib.decodeGo s).1,nI (Lib.decodeGo s).2])/\Below w.heap.size w w':=Any.utf8_DecodeRuneInString lays197 s w h
def lays110_ren:Go.Shelf.Ren:=⟨fun|110=>104|109=>151|n=>n,fun|31=>52|9=>9|4=>4|3=>3|0=>0|n=>n,fun|n=>n⟩
theorem lays110:Go.Proofs.Lays.n110 prog lays110_ren:={
 mixed:=by kernel_rfl
 f109:=func151.trans (Zz some (by kernel_rfl))
 f110:=func104.trans (Zz some (by kernel_rfl))
 t0:=underlying0
 a0:=isAgg0
 z0:=sizeOf0
 v0:=zeroValue0
 t3:=underlying3
 a3:=isAgg3
 z3:=sizeOf3
 v3:=zeroValue3
 t4:=underlying4
 a4:=isAgg4
 z4:=sizeOf4
 v4:=zeroValue4
 t9:=underlying9
 a9:=isAgg9
 z9:=sizeOf9
 v9:=zeroValue9
 t31:=underlying52
 a31:=isAgg52
 z31:=sizeOf52
 v31:=zeroValue52}
open Go.Lib in
theorem slices_Contains_string (b h n c:Nat) (zs:List ByteArray) (x:ByteArray) (w:Wq) (D:n<=zs.length) (A:n<=9223372036854775807) (hc:∀j,j<zs.length->w.cell? ⟨b,h+j,none⟩=some (.string (zs.getD j ByteArray.empty))):
 Calls prog 104 #[.slice (some ⟨b,h,none⟩) n c,.string x] w λe w'=>e= .returned (.bool (Lib.containsS (zs.take n) x))/\w'=w:=Any.slices_Contains_string lays110 b h n c zs x w D A hc
open Go.Lib in
theorem slices_Contains_string_empty (a:Option Addr) (c:Nat) (x:ByteArray) (w:Wq):
 Calls prog 104 #[.slice a 0 c,.string x] w λe w'=>e= .returned (.bool false)/\w'=w:=Any.slices_Contains_string_empty lays110 a c x w
section
variable {a:Act} {base n:Nat} {cs:List Value} {e:TypeId} {o:Oper} {ops:Array Oper} {rest:List Oper} {w:World}
section
variable {P:Program} (w:World)
theorem ZcN (base:Nat) (t ty e:TypeId) (i:TypeInfo) (size:Nat) (F:P.underlying t=some (.slice e)) (D:P.info? e=some i)
 (v:Value) (n:Nat) (xs:List Value) (h:w.ownsRow base e size v n xs) (c:Nat):(Builtin.append_ #[t,t] ty #[v,.slice none 0 c]).run P w= .ok v w:=by
 rcases h.2 with ⟨rfl,rfl⟩|⟨g,cap,H,rfl,_,_,A,_⟩
 ·simp[Builtin.append_,run_underlying F,sizeOf,typeInfo,D,Builtin.lenOf,Builtin.firstCells]
 ·simp[Builtin.append_,run_underlying F,sizeOf,typeInfo,D,Builtin.lenOf,Builtin.firstCells,A,storeCells]
theorem ZcO (base:Nat) (t ty e:TypeId) (i:TypeInfo) (z:Value) (size F:Nat) (ht:P.underlying t=some (.slice e)) (hi:P.info? e=some i) (hz:i.zero=some z)
 (S:i.size=size) (Y:i.bytes=F) (Z:z.cells.size=size) (V:0<size)
 (v:Value) (n:Nat) (xs:List Value) (I:w.ownsRow base e size v n xs)
 (u:Value) (m:Nat) (D:List Value) (hr:RSl w size u m D) (h1:∀y∈D,y.oneCell'=true)
 (X:n+m<=maxLen) (H:(n+m)*F<=140737488355328) (J:base<=w.heap.size):
 ∃v' w',(Builtin.append_ #[t,t] ty #[v,u]).run P w= .ok v' w'/\w'.ownsRow base e size v' (n+m) (xs++D)/\w.grownBy w' v.ownBlock/\
  (v'.ownBlock=v.ownBlock\/v'.ownBlock=some w.heap.size):=by
 obtain ⟨Q,A,c,rfl,hd,hb,hA,K⟩:=hr;rcases YL m with h0|h0
 ·subst h0;have hn:D= []:=Zm (by simpa using Q);subst hn;cases A with
  |none=>exact ⟨v,w,ZcN w base t ty e i size ht hi v n xs I c,by simpa using I,World.grownBy.refl w _,.inl rfl⟩
  |some ad=>obtain ⟨v',w',R,h2,h3,_,h5⟩:=run_append_own_at (P:=P) w base t ty e i z size F ht hi hz S Y Z V v n xs I ad 0 c [] (by simp) (λj u hu=>by simp at hu) h1 X H J;exact ⟨v',w',R,h2,h3,h5⟩
 ·have hl:0<D.length:=by rw[Q];exact Nat.mul_pos h0 V
  obtain ⟨ad,rfl,_⟩:=K 0 (D[0]) (Zh hl);have U:∀j u,D[j]? =some u->w.cell? (ad.add j)=some u:=by intro j u hu;obtain ⟨ha,h,hc⟩:=K j u hu;injection h with h;subst h;exact hc
  obtain ⟨v',w',R,h2,h3,_,h5⟩:=run_append_own_at (P:=P) w base t ty e i z size F ht hi hz S Y Z V v n xs I ad m c D Q U h1 X H J;exact ⟨v',w',R,h2,h3,h5⟩
theorem KE {K:Act->Wq->Prop} {Q:Exit->Act->Wq->Prop} (s x:Operand) (t:TypeId)
 (ho:o.op= .call {callee:= .builtin .append,args:=#[s,x],argTypes:=#[t,t]})
 (base:Nat) (e:TypeId) (i:TypeInfo) (z:Value) (size A:Nat) (ht:P.underlying t=some (.slice e)) (hi:P.info? e=some i) (hz:i.zero=some z)
 (I:i.size=size) (U:i.bytes=A) (X:z.cells.size=size) (V:0<size)
 (v:Value) (n:Nat) (xs:List Value) (hs:a.eval s=v) (J:w.ownsRow base e size v n xs)
 (u:Value) (m:Nat) (D:List Value) (hx:a.eval x=u) (hr:RSl w size u m D) (Y:∀y∈D,y.oneCell'=true)
 (S:n+m<=maxLen) (F:(n+m)*A<=140737488355328) (H:base<=w.heap.size)
 (h:∀v' w',w'.ownsRow base e size v' (n+m) (xs++D)->w.grownBy w' v.ownBlock->(v'.ownBlock=v.ownBlock\/v'.ownBlock=some w.heap.size)->K (a.put o.dst v') w'):o.wp P a w K Q:=by
 obtain ⟨v',w',R,Z,h3,h4⟩:=ZcO (P:=P) w base t o.type e i z size A ht hi hz I U X V v n xs J u m D hr Y S F H;unfold Oper.wp execOp;simp only[ho,resolve,invoke,builtin,Sem.run_bind,Sem.run_pure,Result.andThen_ok,List.map_toArray,Zw,Z2,hs,hx,R];exact h v' w' Z h3 h4
theorem ZO {Q:Exit->Act->Wq->Prop} (S:o.guard=none) (s x:Operand) (t:TypeId)
 (ho:o.op= .call {callee:= .builtin .append,args:=#[s,x],argTypes:=#[t,t]})
 (base:Nat) (e:TypeId) (i:TypeInfo) (z:Value) (size A:Nat) (ht:P.underlying t=some (.slice e)) (hi:P.info? e=some i) (hz:i.zero=some z)
 (I:i.size=size) (R:i.bytes=A) (V:z.cells.size=size) (U:0<size)
 (v:Value) (n:Nat) (xs:List Value) (hs:a.eval s=v) (J:w.ownsRow base e size v n xs)
 (u:Value) (m:Nat) (D:List Value) (hx:a.eval x=u) (hr:RSl w size u m D) (X:∀y∈D,y.oneCell'=true)
 (K:n+m<=maxLen) (F:(n+m)*A<=140737488355328) (H:base<=w.heap.size)
 (h:∀v' w',w'.ownsRow base e size v' (n+m) (xs++D)->w.grownBy w' v.ownBlock->(v'.ownBlock=v.ownBlock\/v'.ownBlock=some w.heap.size)->wpList P ops Q rest (a.put o.dst v') w'):wpList P ops Q (o::rest) a w:=
 wpList_plain S λ_ hK=>KE w s x t ho base e i z size A ht hi hz I R V U v n xs hs J u m D hx hr X K F H λv' w' Y Z h4=>hK _ _ (h v' w' Y Z h4)
theorem Z1 {K:Act->Wq->Prop} {Q:Exit->Act->Wq->Prop} {E:Prop} (U:o.guard=none) (s x:Operand) (t:TypeId)
 (ho:o.op= .call {callee:= .builtin .append,args:=#[s,x],argTypes:=#[t,t]})
 (base:Nat) (e:TypeId) (i:TypeInfo) (z:Value) (size A:Nat) (ht:P.underlying t=some (.slice e)) (Z:P.info? e=some i) (hz:i.zero=some z)
 (I:i.size=size) (S:i.bytes=A) (X:z.cells.size=size) (V:0<size)
 (v:Value) (n:Nat) (xs:List Value) (hs:a.eval s=v) (J:w.ownsRow base e size v n xs)
 (u:Value) (m:Nat) (D:List Value) (hx:a.eval x=u) (hr:RSl w size u m D) (Y:∀y∈D,y.oneCell'=true)
 (R:n+m<=maxLen) (F:(n+m)*A<=140737488355328) (H:base<=w.heap.size)
 (h:∀v' w',w'.ownsRow base e size v' (n+m) (xs++D)->w.grownBy w' v.ownBlock->(v'.ownBlock=v.ownBlock\/v'.ownBlock=some w.heap.size)->K (a.put o.dst v') w'):
 if Region.wanted o (yielded ops a.tmps)=true then Oper.wp P o a w K Q else E:=by
 have hw:Region.wanted o (yielded ops a.tmps)=true:=by simp[Region.wanted,U]
 rw[Zi hw];exact KE w s x t ho base e i z size A ht Z hz I S X V v n xs hs J u m D hx hr Y R F H h
end
theorem Ext.app {a b c:Wq} {base n size:Nat} {e:TypeId} {v:Value} {xs:List Value} (h:Ext a b) (D:b.grownBy c v.ownBlock) (H:b.ownsRow base e size v n xs) (A:a.heap.size<=base):Ext a c:=
 Below.grown h D h.size λk F=>Zp A (H.lt k F).1
theorem Yo {size:Nat} (h:cs.length=n*size) (D:n<=maxLen):RSl (w.alloc (.cells cs.toArray e)) size (.slice (some ⟨w.heap.size,0,none⟩) n n) n cs:=by
 refine ⟨h,some ⟨w.heap.size,0,none⟩,n,rfl,Zc _,D,(λh=>by cases h),λj u F=>⟨_,rfl,?_⟩⟩;have A:(⟨w.heap.size,0,none⟩:Addr).add j=⟨w.heap.size,j,none⟩:=by unfold Addr.add;split<;>simp_all
 rw[A];rw[Zy (Zg w _)];simpa using F
theorem Jx {size:Nat} (A:base<=w.heap.size) (h:cs.length=n*size) (D:n<=maxLen):(w.alloc (.cells cs.toArray e)).ownsRow base e size (.slice (some ⟨w.heap.size,0,none⟩) n n) n cs:=
 ⟨h,.inr ⟨w.heap.size,n,cs.toArray,rfl,A,Zg w _,Zc _,D,by simpa using h,by rw[<-h];simp⟩⟩
theorem G9:(prog.info? 5).map (λi=>(i.zero,i.size,i.bytes))=some (some (.int .u8 0),1,1):=by kernel_rfl
end
end Go.Proofs.YtnlafkgkcnenfaaGreatDoor
