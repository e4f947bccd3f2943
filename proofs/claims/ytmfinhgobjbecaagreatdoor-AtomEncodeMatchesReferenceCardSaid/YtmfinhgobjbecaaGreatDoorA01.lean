/- Parts of the proof: contracts and plain laws. -/
import Derived.Test.YtmfinhgobjbecaaGreatDoorProg
import Derived.Test.YtmfinhgobjbecaaGreatDoorA00
namespace Go.Proofs.YtmfinhgobjbecaaGreatDoor
open Go Go.RowKit _root_.Go.Proofs.Tryz
set_option linter.unusedVariables false
set_option linter.unusedSimpArgs false
set_option maxRecDepth 100000
set_option maxHeartbeats 16000000
def isSp (c:Int):Bool:=decide (c=32\/c=9\/c=10\/c=13)
def isChar (r:Int):Bool:=decide (r=9\/r=10\/r=13\/(32<=r/\r<=55295)\/(57344<=r/\r<=65533)\/(65536<=r/\r<=1114111))
def dec (l:List UInt8):Nat×Nat:=
 if l= [] then (0,0) else if (Lib.decodeL l).1=65533/\(Lib.decodeL l).2=1 then (0,0) else Lib.decodeL l
def checkGo:Nat->Nat->List UInt8->Nat×Nat
 |0,at_,_=>(at_,0)
 |n+1,at_,l=>if l= [] then (at_,0) else if (dec l).2=0 then (at_,5) else if isChar (dec l).1=false then (at_,6) else checkGo n (at_+(dec l).2) (l.drop (dec l).2)
def check (l:List UInt8):Nat×Nat:=checkGo l.length 0 l
def collGo:List UInt8->List UInt8->Bool->List UInt8
 | [],out,_=>out
 |c::t,out,gap=>if isSp c.toNat then collGo t out (!out.isEmpty) else collGo t (out++(if gap then [32] else [])++ [c]) false
def coll (l:List UInt8):List UInt8:=collGo l [] false
def str (l:List UInt8):ByteArray:=⟨l.toArray⟩
@[simp] theorem Zg (l:List UInt8):(str l).data.toList=l:=by simp[str]
@[simp] theorem Zo (l:List UInt8):(str l).size=l.length:=by simp[str,ByteArray.size]
theorem VH (s:ByteArray):str s.data.toList=s:=by simp[str]
def collapse (s:ByteArray):ByteArray:=str (coll s.data.toList)
def checkS (s:ByteArray):Nat×Nat:=check s.data.toList
def validS (s:ByteArray):Bool:=decide ((checkS s).2=0) && ((collapse s).data.toList==s.data.toList)
theorem Jg (l:List UInt8):Lib.decodeL l=Lib.decodeN l.length (l.getD 0 0).toNat (l.getD 1 0).toNat (l.getD 2 0).toNat (l.getD 3 0).toNat:=by
 unfold Lib.decodeL;rw[Lib.decode_at];have h:∀k,(ByteArray.mk l.toArray).get! k=l.getD k 0:=by intro k;simp[ByteArray.get!,Zry];rfl
 simp only[h];simp[ByteArray.size]
theorem Qc (n b0 b1 b2 b3:Nat) (h:1<=n):1<=(Lib.decodeN n b0 b1 b2 b3).2/\(Lib.decodeN n b0 b1 b2 b3).2<=n:=by
 unfold Lib.decodeN
 repeat' split
 all_goals (simp only[];omega)
theorem Xi (l:List UInt8):(dec l).2<=l.length:=by
 unfold dec;by_cases h:l= []
 ·simp[h]
 ·rw[ZqH h];have A:1<=l.length:=Zr3.2 h;split
  ·simp
  ·rw[Jg];exact (Qc _ _ _ _ _ A).2
theorem JG (n k:Nat) (l:List UInt8) (h:l≠ []):checkGo (n+1) k l=if (dec l).2=0 then (k,5) else if isChar (dec l).1=false then (k,6) else checkGo n (k+(dec l).2) (l.drop (dec l).2):=by
 simp only[checkGo,ZqH h]
theorem Iv:∀(n m k:Nat) (l:List UInt8),l.length<=n->l.length<=m->checkGo n k l=checkGo m k l
 |0,m,k,l,h,_=>by
  have A:l= []:=ZqX om
  subst A
  cases m<;>simp[checkGo]
 |n+1,0,k,l,_,h=>by
  have A:l= []:=ZqX om
  subst A
  simp[checkGo]
 |n+1,m+1,k,l,h1,h2=>by
  by_cases A:l= []
  ·subst A;simp[checkGo]
  ·rw[JG n k l A,JG m k l A]
   by_cases C:(dec l).2=0
   ·rw[ZqN C,ZqN C]
   ·rw[ZqH C,ZqH C]
    by_cases D:isChar (dec l).1=false
    ·rw[ZqN D,ZqN D]
    ·rw[ZqH D,ZqH D]
     exact Iv n m _ _ (by simp;omega) (by simp;omega)
theorem ZdT (n k:Nat):checkGo n k []=(k,0):=by cases n<;>simp[checkGo]
theorem ZfZ (l:List UInt8) (k:Nat) (H:k<l.length):checkGo l.length k (l.drop k)=if (dec (l.drop k)).2=0 then (k,5) else if isChar (dec (l.drop k)).1=false then (k,6) else checkGo l.length (k+(dec (l.drop k)).2) (l.drop (k+(dec (l.drop k)).2)):=by
 have D:l.drop k≠ []:=by intro h;have:=ZqS List.length h;simp at this;omega
 obtain ⟨n,F⟩:∃n,l.length=n+1:=⟨l.length - 1,om⟩;rw[show checkGo l.length k (l.drop k)=checkGo (n+1) k (l.drop k) by rw[F],JG n k _ D,List.drop_drop];by_cases A:(dec (l.drop k)).2=0
 ·rw[ZqN A,ZqN A]
 ·rw[ZqH A,ZqH A];by_cases C:isChar (dec (l.drop k)).1=false
  ·rw[ZqN C,ZqN C]
  ·rw[ZqH C,ZqH C];exact Iv _ _ _ _ (by rw[ZqP];omega) (by rw[ZqP];omega)
theorem ZdS (l:List UInt8) (k:Nat) (h:l.length<=k):checkGo l.length k (l.drop k)=(k,0):=by
 rw[Zq3 h];exact ZdT _ _
def Ext (w w':Wq):Prop:=Below w.heap.size w w'
theorem Ext.refl (w:Wq):Ext w w:=ZsT _ _
theorem Ext.size {a b:Wq} (h:Ext a b):a.heap.size<=b.heap.size:=Below.size h
theorem Ext.trans {a b c:Wq} (h:Ext a b) (k:Ext b c):Ext a c:=Below.trans h (ZrV k h.size)
theorem Ext.drew {a b:Wq} (h:Ext a b):Ext a b.drew:=Below.drew h
theorem Ext.alloc {a b:Wq} (h:Ext a b) (o:Obj):Ext a (b.alloc o):=Below.alloc h h.size o
theorem Ext.setCell {a b:Wq} (h:Ext a b) {p:Addr} (A:a.heap.size<=p.block) (u:Value):Ext a (b.setCell p u):=Below.setCell h A u
theorem Ext.below {a b:Wq} (h:Ext a b):Below a.heap.size a b:=h
theorem Ext.then {a b c:Wq} (h:Ext a b) (k:Below a.heap.size b c):Ext a c:=Below.trans h k
theorem Ext.cell {a b:Wq} (h:Ext a b) {p:Addr} {v:Value} (A:a.cell? p=some v):b.cell? p=some v:=
 (Below.cell h (ZrL a p A)).trans A
theorem Ext.heap {a b:Wq} (h:Ext a b) {k:Nat} {o:Obj} (A:a.heap[k]? =some o):b.heap[k]? =some o:=
 (Below.block h k (Zrg.1 A).1).trans A
theorem Ext.grown {a b:Wq} (h:Ext a b) (row:Option Nat):a.grownBy b row:=⟨h.os,h.tape,h.output,h.size,λk A _=>Below.block h k A⟩
theorem Zn (s:ByteArray):s.toList=s.data.toList:=ZrC s
theorem VI (a b:ByteArray):(a.toList==b.toList)=(a.data.toList==b.data.toList):=by rw[Zn,Zn]
theorem Yj {a b:ByteArray} (h:a.data.toList=b.data.toList):a=b:=by
 cases a;cases b
 congr
 exact Array.toList_inj.1 h
theorem ZbE {k k':IntKind} {a b c d:Int} (h:a=b) (A:c=d):Ending.returned (.tuple #[.int k a,.int k' c])= .returned (.tuple #[.int k b,.int k' d]):=by rw[h,A]
structure Env (w:World):Prop where
 utf8:Lib.Utf8Tabs 0 1 w
 pow : Lib.TabIs prog w "internal/strconv.uint64pow10" .u64 Lib.pow10Tab
 size:6<=w.heap.size
 letters:∃t fr,w.heap[5]? =some (.cells #[.int .u8 98,.int .u8 8,.int .u8 102,.int .u8 12,.int .u8 110,.int .u8 10,.int .u8 114,.int .u8 13,.int .u8 116,.int .u8 9] t fr)
theorem Zqm : prog.globalNamed "internal/strconv.uint64pow10" = some 4 := by kernel_rfl
theorem Env.ext {w w':Wq} (I:Env w) (h:Ext w w'):Env w':=by
 obtain ⟨A,D,F,H⟩:=I;refine ⟨⟨λc J=>h.cell (A.1 c J),λi C=>⟨h.cell (A.2 i C).1,h.cell (A.2 i C).2⟩⟩,?_,ZqM F h.size,?_⟩
 ·exact var?_below (B:=w.heap.size) h Zqm om D
 ·obtain ⟨t,fr,O⟩:=H;exact ⟨t,fr,h.heap O⟩
theorem Env.drew {w:Wq} (h:Env w):Env w.drew:=h.ext (Ext.refl w).drew
theorem Env.alloc {w:Wq} (h:Env w) (o:Obj):Env (w.alloc o):=h.ext ((Ext.refl w).alloc o)
theorem Xt (a:Addr) (n:Nat):(a.add n).block=a.block:=by unfold Addr.add;split<;>rfl
theorem add_zero (a:Addr):a.add 0=a:=by unfold Addr.add;simp
structure RSl (w:Wq) (size:Nat) (v:Value) (n:Nat) (xs:List Value):Prop where
 len:xs.length=n*size
 form:∃A c,v= .slice A n c/\n<=c/\c<=maxLen/\(A=none->c=0)/\∀j u,xs[j]? =some u->∃ad,A=some ad/\w.cell? (ad.add j)=some u
theorem RSl.ext {w w':Wq} {size n:Nat} {v:Value} {xs:List Value} (h:RSl w size v n xs) (R:Ext w w'):RSl w' size v n xs:=by
 obtain ⟨C,A,c,e,D,F,H,I⟩:=h;exact ⟨C,A,c,e,D,F,H,λj u Q=>let ⟨ad,J,O⟩:=I j u Q;⟨ad,J,R.cell O⟩⟩
theorem RSl.nil (w:Wq) (size:Nat):RSl w size sN 0 []:=⟨by simp,none,0,rfl,ZqE _,ZqO _,λ_=>rfl,λj u h=>by simp at h⟩
theorem RSl.of_own {w:Wq} {base size n:Nat} {e:TypeId} {v:Value} {xs:List Value} (h:w.ownsRow base e size v n xs):RSl w size v n xs:=by
 refine ⟨h.1,?_⟩;rcases h.2 with ⟨rfl,rfl⟩|⟨g,cap,C,rfl,H,I,F,D,J,O⟩
 ·exact ⟨none,0,rfl,ZqE _,ZqO _,λ_=>rfl,λj u A=>by have:=h.1;simp at this;subst this;simp at A⟩
 ·exact ⟨some ⟨g,0,none⟩,cap,rfl,F,D,(λe=>by cases e),λj u A=>⟨_,rfl,h.cells (g:=g) rfl j u A⟩⟩
structure Aft (W:Wq) where
 w:Wq
 ext:Ext W w
instance (W:World):Nonempty (Aft W):=⟨⟨W,Ext.refl W⟩⟩
theorem ZdL {P:Program} {id:Nat} {Q:Exit->Act->Wq->Prop} {a:Act} {w:Wq} {l:List Oper} (D:P.follows .mixedOrders=true) (A:Region.lexB .any l.toArray=true)
 (h:wpQuiet P l.toArray (λw'=>∃d:Aft w,w'=d.w) (λa'=>∀w',(∃d:Aft w,w'=d.w)->Q .normal a' w') l a):(Code.region id l.toArray true).wp P Q a w:=
 wp_region_quiet (C:=λw'=>∃d:Aft w,w'=d.w) D A ⟨⟨_,(Ext.refl w).drew⟩,rfl⟩ (by simpa using h)
theorem Zi {P:Program} {f:FuncId} {args:Array Value} {W:Wq} {d:Aft W} {v:Value} (h:Calls P f args d.w λe w'=>e= .returned v/\Ext d.w w'):Calls P f args d.w λe w'=>e= .returned v/\∃d:Aft W,w'=d.w:=
 h.mono λ_ w' ⟨C,A⟩=>⟨C,⟨w',d.ext.trans A⟩,rfl⟩
theorem ZX {P:Program} {f:FuncId} {args:Array Value} {W:Wq} {d:Aft W} {v:Value} (h:Calls P f args d.w λe w'=>e= .returned v/\w'=d.w):Calls P f args d.w λe w'=>e= .returned v/\∃d:Aft W,w'=d.w:=
 h.mono λ_ _ ⟨C,A⟩=>⟨C,d,A⟩
theorem Aft.cell {W:Wq} {p:Addr} {v:Value} (h:W.cell? p=some v) (d:Aft W):d.w.cell? p=some v:=d.ext.cell h
theorem Zu {P:Program} {ops:Array Oper} {o:Oper} {a:Act} {w:Wq} {K:Act->Wq->Prop} {Q:Exit->Act->Wq->Prop} {E:Prop} (D:o.guard=none) (ty:TypeId) (x y:Operand) (J:o.op= .store ty x y)
 (g:Nat) (cells:Array Value) (R:a.eval x= .pointer (some ⟨g,0,none⟩)) (S:a.eval y= .agg cells)
 (t:TypeId) (A:Array Value) (H:w.heap[g]? =some (.cells A t (0,0))) (I:(P.info? ty).map (·.size)=some cells.size)
 (C:A.size=cells.size) (F:cells.all (·.oneCell')=true)
 (h:K (a.put o.dst undef) (w.setRow g cells)):if Region.wanted o (yielded ops a.tmps)=true then Oper.wp P o a w K Q else E:=by
 have O:Region.wanted o (yielded ops a.tmps)=true:=by simp[Region.wanted,D]
 rw[ZqN O];exact wp_store_row ty x y J g cells R S t A H I C F h
theorem Zou {w:Wq} {g:Nat} {a b c d e:Value} {t:TypeId} {fr:Nat×Nat} (h:w.heap[g]? =some (.cells #[a,b,c,d,e] t fr)):
 w.cell? ⟨g,0,none⟩=some a/\w.cell? ⟨g,1,none⟩=some b/\w.cell? ⟨g,2,none⟩=some c/\w.cell? ⟨g,3,none⟩=some d/\w.cell? ⟨g,4,none⟩=some e:=by
 refine ⟨?_,?_,?_,?_,?_⟩<;>(rw[ZqI _ _ _ _ _ _ h];rfl)
section
section
variable {P:Program} {ops:Array Oper} {W:World}
def yields1 (P:Program) (W:Wq) (o:Oper) (a:Act) (v:Value):Prop:=∀c:Aft W,o.quietAt P a (λw'=>∃e:Aft c.w,w'=e.w) c.w v
def calm1 (P:Program) (W:Wq) (o:Oper) (a:Act) (next:Act->Prop):Prop:=∃v,(∀c:Aft W,o.quietAt P a (λw'=>∃e:Aft c.w,w'=e.w) c.w v)/\next (a.put o.dst v)
theorem ZdK {o:Oper} {a:Act} {C:Wq->Prop} {w:Wq} {v:Value} {K:Act->Wq->Prop} {Q':Exit->Act->Wq->Prop} (h:o.quietAt P a C w v) (D:C w) (hK:∀w',C w'->K (a.put o.dst v) w'):o.wp P a w K Q':=by
 unfold Oper.quietAt at h;unfold Oper.wp;cases hr:(execOp a.eval o).run P w with
 |halt x w'=>rw[hr] at h;exact h.elim
 |ok n w'=>
  rw[hr] at h;cases n<;>simp only[Oper.quietUpon] at h<;>simp only[Oper.upon]
  case value u=>rw[h.1,h.2];exact hK w D
  case skip=>rw[h.1,<-h.2];exact hK w D
  case enter f args=>rw[h.1];exact h.2.mono λe A ⟨H,F⟩=>by rw[H];exact hK A F
def wpCalm (P:Program) (ops:Array Oper) (W:Wq) (Q:Act->Prop):List Oper->Act->Prop
 | [],a=>Q a
 |o::rest,a=>if Region.wanted o (yielded ops a.tmps) then calm1 P W o a (wpCalm P ops W Q rest) else wpCalm P ops W Q rest (a.put o.dst undef)
theorem X0 {Q:Act->Prop} {a:Act} (h:Q a):wpCalm P ops W Q [] a:=h
theorem Xr {Q:Act->Prop} {a:Act} {o:Oper} {rest:List Oper} (h:∀K:Act->Prop,(∀a,wpCalm P ops W Q rest a->K a)->if Region.wanted o (yielded ops a.tmps) then calm1 P W o a K else K (a.put o.dst undef)):wpCalm P ops W Q (o::rest) a:=
 h _ λ_ h=>h
def cOp (P:Program) (ops:Array Oper) (W:Wq) (i:Nat) (K:Act->Prop) (a:Act):Prop:=
 match ops[i]? with
 |none=>K a
 |some o=>if Region.wanted o (yielded ops a.tmps) then calm1 P W o a K else K (a.put o.dst undef)
theorem Zmq {i:Nat} {a:Act} {K C:Act->Prop} (h:∀a,K a->C a) (A:cOp P ops W i K a):cOp P ops W i C a:=by
 unfold cOp at*;cases ho:ops[i]? with
 |none=>rw[ho] at A;exact h _ A
 |some o=>
  rw[ho] at A;simp only at A|-;by_cases D:Region.wanted o (yielded ops a.tmps)=true
  ·rw[ZqN D] at A|-;obtain ⟨v,F,H⟩:=A;exact ⟨v,F,h _ H⟩
  ·rw[ZqH D] at A|-;exact h _ A
def YC (P:Program) (ops:Array Oper) (W:Wq) (o:Oper) (v:Value) (a:Act):Prop:=
 (Region.wanted o (yielded ops a.tmps)=true/\yields1 P W o a v)\/(Region.wanted o (yielded ops a.tmps)=false/\v=undef)
theorem YC.cOp {i:Nat} {o:Oper} {v:Value} {a:Act} (C:ops[i]? =some o) (F:YC P ops W o v a) {K:Act->Prop} (h:K (a.put o.dst v)):cOp P ops W i K a:=by
 unfold Go.Proofs.YtmfinhgobjbecaaGreatDoor.cOp;rw[C];simp only;rcases F with ⟨A,D⟩|⟨A,rfl⟩
 ·rw[ZqN A];exact ⟨v,D,h⟩
 ·rw[ZqH (by simp[A])];exact h
theorem YC.of_same {o:Oper} {v:Value} {a a':Act} (C:YC P ops W o v a) (h:execOp a'.eval o=execOp a.eval o)
 (A:Region.wanted o (yielded ops a'.tmps)=Region.wanted o (yielded ops a.tmps)):YC P ops W o v a':=by
 unfold YC yields1 Oper.quietAt at*;rw[h,A];exact C
theorem ZeR {i:Nat} {o:Oper} {a:Act} {K:Act->Prop} (F:ops[i]? =some o) (h:cOp P ops W i K a):∃v,YC P ops W o v a/\K (a.put o.dst v):=by
 unfold cOp at h;rw[F] at h;simp only at h;by_cases A:Region.wanted o (yielded ops a.tmps)=true
 ·rw[ZqN A] at h;obtain ⟨v,C,D⟩:=h;exact ⟨v,.inl ⟨A,C⟩,D⟩
 ·rw[ZqH A] at h;exact ⟨undef,.inr ⟨by simpa using A,rfl⟩,h⟩
theorem Zov {j:Nat} {oi oj:Oper} {v:Value} (J:ops[j]? =some oj) (A:oi.apart ops oj=true)
 (C:∀cs b,oi.op≠ .select cs b) (D:∀cs b,oj.op≠ .select cs b) {K:Act->Prop} {a:Act}
 (R:YC P ops W oi v a) (h:cOp P ops W j K (a.put oi.dst v)):cOp P ops W j (λa'=>YC P ops W oi v a'/\K (a'.put oi.dst v)) a:=by
 obtain ⟨H,O,I⟩:=Oper.apart_spec A;obtain ⟨u,Q,hK⟩:=ZeR J h;have F:YC P ops W oj u a:=Q.of_same (execOp_put oj D a oi.dst v H).symm (wanted_put oj a oi.dst v H).symm;refine F.cOp J ⟨R.of_same (execOp_put oi C a oj.dst u I) (wanted_put oi a oj.dst u I),?_⟩;rw[<-Act.put_comm a v u O];exact hK
end
section
variable {P:Program} {ops:Array Oper} {md:Region.Mode} {W:World} {p n:Nat} {d:Option Tmp}
def anyD (P:Program) (md:Region.Mode) (ops:Array Oper) (W:Wq) (p n:Nat) (d:Option Tmp) (L:Array Bool->Option Nat->Act->Prop):Nat->Array Bool->Option Nat->Act->Prop
 |0,listed,gs,a=>L listed gs a
 |f+1,listed,gs,a=>Region.ready md ops listed≠ []/\∀i∈Region.ready md ops listed,i<n/\
  ((i=p->∀g,W.heap.size<=g->anyD P md ops W p n d L f (listed.setIfInBounds p true) (some g) (a.put d (.pointer (some ⟨g,0,none⟩))))/\
   (i≠p->cOp P ops W i (anyD P md ops W p n d L f (listed.setIfInBounds i true) gs) a))
def blkOf (B:Nat) (O:Obj) (w:Wq):Option Nat->Prop
 |none=>True
 |some g=>B<=g/\w.heap[g]? =some O
theorem Zia {i:Nat} {oi op:Oper} {v:Value} {L:Array Bool->Option Nat->Act->Prop} (hi:ops[i]? =some oi) (hp:p<ops.size->ops[p]? =some op) (hd:p<ops.size->op.dst=d) (hl:i≠p)
 (I:∀(j:Nat) (o:Oper) cs b,ops[j]? =some o->o.op≠ .select cs b)
 (hs:Region.sinkB md ops n=true) (hc:Region.chainB md ops n=true) (hn:n<ops.size) (hh:i<n)
 (X:∀listed gs a,L listed gs a->∀j∈Region.ready md ops listed,n<=j):
 ∀(f:Nat) (listed:Array Bool) (gs:Option Nat) (a:Act),HeadInv md ops n listed->
  (∀j oj,ops[j]? =some oj->j≠i->listed.getD j true=false->(∀e∈oj.after,Region.binds md e=true->e.on≠i)->oi.apart ops oj=true)->
  i∈Region.ready md ops listed->YC P ops W oi v a->
  anyD P md ops W p n d L f (listed.setIfInBounds i true) gs (a.put oi.dst v)->anyD P md ops W p n d L (f+1) listed gs a:=by
 intro f
 induction f with
 |zero=>
  intro listed gs a inv _ Q hy H;have R:=(ZsO.1 Q).1;refine ⟨λh=>(by rw[h] at Q;cases Q),λj J=> ?_⟩;have D:j<n:=by
   rcases ZrJ j n with h|h
   ·exact h
   ·exact absurd J (tail_waits hs hc hn inv _ i rfl hh R j h)
  have ht:j=i:=by
   rcases Nat.decEq j i with h|h
   ·have S:=X _ _ _ H j (Zsn J h);omega
   ·exact h
  exact ⟨D,λh=>absurd (ht.symm.trans h) hl,λ_=>by subst ht;exact hy.cOp hi H⟩
 |succ f ih=>
  intro listed gs a inv F Q hy H;have R:=(ZsO.1 Q).1;refine ⟨λh=>(by rw[h] at Q;cases Q),λj J=> ?_⟩;have D:j<n:=by
   rcases ZrJ j n with h|h
   ·exact h
   ·exact absurd J (tail_waits hs hc hn inv _ i rfl hh R j h)
  obtain ⟨U,oj,O,Z⟩:=ZsO.1 J;have hq:∀e∈oj.after,Region.binds md e=true->e.on≠i:=λe he hb hu=>by have S:=Z e he hb;rw[hu,getD_both R] at S;cases S
  have C:∀k ok,ops[k]? =some ok->k≠i->(listed.setIfInBounds j true).getD k true=false->(∀e∈ok.after,Region.binds md e=true->e.on≠i)->oi.apart ops ok=true:=λk ok hk hv V hw=>by
   refine F k ok hk hv ?_ hw;by_cases hm:j=k
   ·subst hm;exact U
   ·rw[Zr5 true hm] at V;exact V
  by_cases A:j=i
  ·subst A;exact ⟨D,λh=>absurd h hl,λ_=>hy.cOp hi H⟩
  ·have ha:=F j oj O A U hq;have hf:(listed.setIfInBounds i true).setIfInBounds j true=(listed.setIfInBounds j true).setIfInBounds i true:=(ZsC _ _ A).symm;refine ⟨D,λY=> ?_,λY=> ?_⟩
   ·subst Y;intro g hg;have S:=((H.2 j (Zsn J A)).2.1 rfl) g hg;rw[hf] at S;have ho:j<ops.size:=om;have hx:oj=op:=ZrI (O.symm.trans (hp ho));obtain ⟨_,q2,q3⟩:=Oper.apart_spec ha;rw[hx,hd ho] at q2 q3;refine ih _ _ _ (inv.set J D) C (Zsn Q (Ne.symm A)) (hy.of_same (execOp_put oi (λcs b=>I i oi cs b hi) a d _ q3) (wanted_put oi a d _ q3)) ?_;rw[<-Act.put_comm a _ _ q2];exact S
   ·have S:=(H.2 j (Zsn J A)).2.2 Y;have h2:=Zov O ha (λcs b=>I i oi cs b hi) (λcs b=>I j oj cs b O) hy S;refine Zmq (λa' h3=>ih _ _ a' (inv.set J D) C (Zsn Q (Ne.symm A)) h3.1 ?_) h2;rw[<-hf];exact h3.2
def setFrom:Nat->Nat->Array Bool->Array Bool
 |0,_,x=>x
 |f+1,k,x=>setFrom f (k+1) (x.setIfInBounds k true)
def lexQ (md:Region.Mode) (ops:Array Oper):Nat->Nat->Array Bool->Bool
 |0,_,_=>true
 |f+1,k,listed=>(Region.ready md ops listed).contains k && Region.free md ops listed k && lexQ md ops f (k+1) (listed.setIfInBounds k true)
theorem ZbI {op:Oper} {Qh:Act->Prop} {L:Array Bool->Option Nat->Act->Prop} (R:p<ops.size->ops[p]? =some op) (O:p<ops.size->op.dst=d)
 (C:Region.noSelect ops=true) (S:Region.sinkB md ops n=true) (J:Region.chainB md ops n=true) (Q:n<ops.size)
 (A:∀listed gs a,L listed gs a->∀j∈Region.ready md ops listed,n<=j) (m:Nat):
 ∀(l:List Oper) (k:Nat) (listed:Array Bool) (a:Act),(∀j,j<l.length->l[j]? =ops[k+j]?)->k+l.length<=n->(p<k\/k+l.length<=p)->HeadInv md ops n listed->
 lexQ md ops l.length k listed=true->wpCalm P ops W Qh l a->(∀a',HeadInv md ops n (setFrom l.length k listed)->Qh a'->anyD P md ops W p n d L m (setFrom l.length k listed) none a')->
 anyD P md ops W p n d L (l.length+m) listed none a
 | [],k,listed,a,_,_,_,inv,_,h,hend=>by rw[Zq5,ZrH];exact hend a inv h
 |o::l,k,listed,a,hl,hk,hpk,inv,hB,h,hend=>by
  have F:ops[k]? =some o:=by simpa using (hl 0 (by simp)).symm
  simp only[ZqK] at hk hpk;simp only[ZqK,lexQ,ZqZ] at hB;obtain ⟨⟨V,U⟩,H⟩:=hB;have D:k∈Region.ready md ops listed:=by simpa using V
  have I:cOp P ops W k (wpCalm P ops W Qh l) a:=by unfold cOp;simp only[F];exact h
  obtain ⟨v,X,hK⟩:=ZeR F I;rw[ZqK,show l.length+1+m=(l.length+m)+1 by omega];exact Zia F R O om (Region.noSelect_spec C) S J Q om A _ listed none a inv (Region.free_spec F U) D X
   (ZbI R O C S J Q A m l (k+1) _ _ (λj Y=>by have:=hl (j+1) (by simp;omega);simpa [Nat.add_assoc,Nat.add_comm 1 j] using this) om om (inv.set D om) H hK hend)
theorem GW {O:Obj} {op:Oper} {g:Nat} {L:Array Bool->Option Nat->Act->Prop} {Q':Exit->Act->Wq->Prop} (hp:p<ops.size->ops[p]? =some op)
 (C:p<ops.size->∀(a:Act) (w:Wq) (K:Act->Wq->Prop),K (a.put d (.pointer (some ⟨w.heap.size,0,none⟩))) (w.alloc O)->if Region.wanted op (yielded ops a.tmps)=true then op.wp P a w K Q' else K (a.put op.dst undef) w)
 (hL:∀listed gs a w,Ext W w->blkOf W.heap.size O w gs->L listed gs a->wpAny P md ops Q' g listed a w) (f:Nat):
 ∀(listed:Array Bool) (gs:Option Nat) (a:Act) (w:Wq),Ext W w->blkOf W.heap.size O w gs->anyD P md ops W p n d L f listed gs a->wpAny P md ops Q' (f+g) listed a w:=by
 induction f with
 |zero=>intro listed gs a w D I h;rw[ZrH];exact hL _ _ _ _ D I h
 |succ f ih=>
  intro listed gs a w D I h;rw[show f+1+g=(f+g)+1 by omega];refine ⟨λY=>absurd Y h.1,λi X=> ?_⟩;obtain ⟨ha,Z,h2⟩:=h.2 i X;by_cases Q:i=p
  ·subst Q;obtain ⟨_,oi,V,_⟩:=ZsO.1 X;have R:i<ops.size:=(Zrg.1 V).1;have A:=ih _ _ _ (w.alloc O) (D.alloc O) (show blkOf W.heap.size O (w.alloc O) (some w.heap.size) from ⟨D.size,ZqJ w O⟩) (Z rfl w.heap.size D.size);have U:=C R a w (wpAny P md ops Q' (f+g) (listed.setIfInBounds i true)) A;unfold wpOp;rw[hp R];simp only;split at U
   ·rename_i J;rw[ZqN J];exact Or.inl U
   ·rename_i J;rw[ZqH J];exact U
  ·have A:=h2 Q;unfold cOp at A;unfold wpOp;cases ho:ops[i]? with
   |none=>rw[ho] at A;exact ih _ _ _ _ D I A
   |some o=>
    rw[ho] at A;simp only at A|-;by_cases J:Region.wanted o (yielded ops a.tmps)=true
    ·rw[ZqN J] at A|-;obtain ⟨v,q1,q2⟩:=A;left;have F:∀H,Ext w H->blkOf W.heap.size O H gs:=by
      intro H S;cases gs with
      |none=>trivial
      |some g=>exact ⟨I.1,S.heap I.2⟩
     refine ZdK (q1 ⟨w,D⟩) ⟨⟨w,Ext.refl w⟩,rfl⟩ ?_;rintro _ ⟨e,rfl⟩;exact ih _ _ _ _ (D.trans e.ext) (F _ e.ext) q2
    ·rw[ZqH J] at A|-;exact ih _ _ _ _ D I A
theorem QH {id:Nat} {Q:Exit->Act->World->Prop} {a:Act} {W:World} {l:List Oper} (n:Nat) (hm:P.follows .mixedOrders=true)
 (hB:(Region.noSelect l.toArray && decide (n<l.length) && Region.sinkB .any l.toArray n && Region.chainB .any l.toArray n && lexQ .any l.toArray n 0 (Array.replicate l.length false) && Region.seqB .any l.toArray (l.length - n) n (setFrom n 0 (Array.replicate l.length false)))=true)
 (h:wpCalm P l.toArray W (λa'=>∀c:Aft W,wpList P l.toArray Q (l.drop n) a' c.w) (l.take n) a):(Code.region id l.toArray true).wp P Q a W:=by
 simp only[ZqZ,Zrd] at hB;obtain ⟨⟨⟨⟨⟨b1,b2⟩,b3⟩,b4⟩,b5⟩,b6⟩:=hB;have htl:(l.take n).length=n:=by simp;omega
 have inv0:HeadInv .any l.toArray n (Array.replicate l.length false):=
  ⟨by simp,λj oj _ hl=>(by rw[getD_replicate_false] at hl;cases hl),λt _ ht=>getD_in (by simpa using ht) (getD_replicate_false _ _)⟩
 have hL := ZbI (P := P) (W := W) (md := .any) (ops := l.toArray) (p := l.length) (n := n) (d := none) (op := ⟨none, .move (.const undef), 0, "", #[], none⟩)
  (Qh:=λa'=>∀c:Aft W,wpList P l.toArray Q (l.drop n) a' c.w)
  (L:=λlisted _ a'=>Region.seqB .any l.toArray (l.length - n) n listed=true/\∀c:Aft W,wpList P l.toArray Q (l.drop n) a' c.w)
  (λh=>by simp at h) (λh=>by simp at h) b1 b3 b4 (by simpa using b2) (λlisted _ a' hl=>seqB_ready hl.1) 0 (l.take n) 0 _ a
  (λj hj=>by rw[htl] at hj;simp[hj]) (by rw[htl];omega) (Or.inr (by rw[htl];omega)) inv0 (by rw[htl];exact b5) h
  (λa' _ hq=>⟨by rw[htl];exact b6,hq⟩)
 have h2 := GW (O := .cells #[] 0) (g := l.length - n) (Q' := Q) (op := ⟨none, .move (.const undef), 0, "", #[], none⟩) (fun h => by simp at h) (fun h => by simp at h)
  (λlisted gs a' w' hx _ hl=>by
   have:=wpAny_of_seq (P:=P) (md:= .any) (Q':=Q) (l.drop n) n listed a' w' (λj=>by simp[List.getElem?_drop]) (by rw[ZqP];exact hl.1) (hl.2 ⟨w',hx⟩)
   rwa [ZqP] at this) _ _ none a W.drew (Ext.refl W).drew trivial hL
 refine wp_region_any hm ?_;rw[htl,show n+0+(l.length - n)=l.toArray.size by simp;omega] at h2;simpa using h2
theorem Jd {id:Nat} {Q:Exit->Act->Wq->Prop} {a:Act} {W:Wq} {l:List Oper} (p:Nat) (O:Obj) (op:Oper) (hm:P.follows .mixedOrders=true) (F:l[p]? =some op)
 (V:(Region.noSelect l.toArray && decide (p+1<l.length) && Region.sinkB .any l.toArray (p+1) && Region.chainB .any l.toArray (p+1) && lexQ .any l.toArray p 0 (Array.replicate l.length false) &&
  decide (Region.ready .any l.toArray (setFrom p 0 (Array.replicate l.length false))= [p]) && Region.seqB .any l.toArray (l.length - (p+1)) (p+1) ((setFrom p 0 (Array.replicate l.length false)).setIfInBounds p true))=true)
 (C:∀(a:Act) (w:Wq) (K:Act->Wq->Prop),K (a.put op.dst (.pointer (some ⟨w.heap.size,0,none⟩))) (w.alloc O)->if Region.wanted op (yielded l.toArray a.tmps)=true then op.wp P a w K Q else K (a.put op.dst undef) w)
 (h:wpCalm P l.toArray W (λa'=>∀(g:Nat) (c:Aft W),W.heap.size<=g->c.w.heap[g]? =some O->wpList P l.toArray Q (l.drop (p+1)) (a'.put op.dst (.pointer (some ⟨g,0,none⟩))) c.w) (l.take p) a):(Code.region id l.toArray true).wp P Q a W:=by
 simp only[ZqZ,Zrd] at V;obtain ⟨⟨⟨⟨⟨⟨b1,b2⟩,b3⟩,b4⟩,b5⟩,U⟩,b7⟩:=V;have A:(l.take p).length=p:=by simp;omega
 have H:HeadInv .any l.toArray (p+1) (Array.replicate l.length false):=
  ⟨by simp,λj oj _ D=>(by rw[getD_replicate_false] at D;cases D),λt _ ht=>getD_in (by simpa using ht) (getD_replicate_false _ _)⟩
 have hL:=ZbI (P:=P) (W:=W) (md:= .any) (ops:=l.toArray) (p:=p) (n:=p+1) (d:=op.dst) (op:=op)
  (Qh:=λa'=>∀(g:Nat) (c:Aft W),W.heap.size<=g->c.w.heap[g]? =some O->wpList P l.toArray Q (l.drop (p+1)) (a'.put op.dst (.pointer (some ⟨g,0,none⟩))) c.w)
  (L:=λlisted gs a'=>Region.seqB .any l.toArray (l.length - (p+1)) (p+1) listed=true/\∃g,gs=some g/\∀c:Aft W,W.heap.size<=g->c.w.heap[g]? =some O->wpList P l.toArray Q (l.drop (p+1)) a' c.w)
  (λ_=>by simpa using F) (λ_=>rfl) b1 b3 b4 (by simpa using b2) (λlisted _ a' D=>seqB_ready D.1) 1 (l.take p) 0 _ a
  (λj hj=>by rw[A] at hj;simp[hj]) (by rw[A];omega) (Or.inr (by rw[A];omega)) H (by rw[A];exact b5) h
  (λa' _ S=>by
   rw[A]
   refine ⟨by rw[U];simp,λi Z=> ?_⟩
   rw[U] at Z
   have J:i=p:=(by simpa using Z)
   exact ⟨om,λ_ g Y=>⟨b7,g,rfl,λc h1 I=>S g c h1 I⟩,λR=>absurd J R⟩)
 have I:=GW (O:=O) (g:=l.length - (p+1)) (Q':=Q) (op:=op) (λ_=>by simpa using F) (λ_=>C)
  (λlisted gs a' w' hx X D=>by
   obtain ⟨S,g,rfl,Y⟩:=D
   have:=wpAny_of_seq (P:=P) (md:= .any) (Q':=Q) (l.drop (p+1)) (p+1) listed a' w' (λj=>by simp[List.getElem?_drop]) (by rw[ZqP];exact S) (Y ⟨w',hx⟩ X.1 X.2)
   rwa [ZqP] at this) _ _ none a W.drew (Ext.refl W).drew trivial hL
 refine wp_region_any hm ?_;rw[A,show p+1+(l.length - (p+1))=l.toArray.size by simp;omega] at I;simpa using I
end
end
section
section
variable {P:Program} {ops:Array Oper} {md:Region.Mode} {W:World} {n x:Nat}
def seqL (md:Region.Mode) (ops:Array Oper):List Nat->Array Bool->Bool
 | [],listed=>(Region.ready md ops listed).isEmpty
 |t::ts,listed=>decide (Region.ready md ops listed= [t]) && seqL md ops ts (listed.setIfInBounds t true)
def AtIx (l:List Oper):List Nat->List Oper->Prop
 | [],[]=>True
 |t::ts,o::tl=>l[t]? =some o/\AtIx l ts tl
 |_,_=>False
theorem AtIx.nil {l:List Oper}:AtIx l [] []:=trivial
theorem AtIx.cons {l:List Oper} {t:Nat} {ts:List Nat} {o:Oper} {tl:List Oper} (h:l[t]? =some o) (r:AtIx l ts tl):AtIx l (t::ts) (o::tl):=⟨h,r⟩
theorem GX {l:List Oper} {Q':Exit->Act->Wq->Prop}:∀(ts:List Nat) (tl:List Oper) (listed:Array Bool) (a:Act) (w:Wq),AtIx l ts tl->
 seqL md l.toArray ts listed=true->wpList P l.toArray Q' tl a w->wpAny P md l.toArray Q' ts.length listed a w
 | [],[],_,_,_,_,hB,h=>⟨by simpa [seqL] using hB,h⟩
 | [],_::_,_,_,_,hl,_,_=>hl.elim
 |_::_,[],_,_,_,hl,_,_=>hl.elim
 |t::ts,o::tl,listed,a,w,hl,hB,h=>by
  simp only[seqL,ZqZ,Zrd] at hB;refine ⟨λC=>(by rw[hB.1] at C;cases C),λi D=> ?_⟩;rw[hB.1] at D;have A:i=t:=by simpa using D
  subst A;have H:l.toArray[i]? =some o:=by rw[ZrM];exact hl.1
  have I:wpOp P l.toArray Q' i (wpList P l.toArray Q' tl) a w:=by unfold wpOp;simp only[H];exact h
  exact ZsH (λa' w' F=>GX ts tl _ a' w' hl.2 hB.2 F) I
end
end
section
section
variable {P:Program} {ops:Array Oper} {md:Region.Mode} {Q:Exit→Act→World→Prop} {S:World→Prop} {t:Nat}
def wpAnyT (P:Program) (md:Region.Mode) (ops:Array Oper) (Q:Exit->Act->Wq->Prop) (S:Wq->Prop) (t:Nat):Nat->Array Bool->Act->Wq->Prop
 |0,listed,a,w=>Region.ready md ops listed= []/\Q .normal a w
 |f+1,listed,a,w=>(Region.ready md ops listed= []->Q .normal a w)/\
  ∀i∈Region.ready md ops listed,wpOp P ops Q i (λa' w'=>((listed.setIfInBounds i true).getD t true=false->S w')/\wpAnyT P md ops Q S t f (listed.setIfInBounds i true) a' w') a w
theorem Zdl:∀(f:Nat) (listed:Array Bool) (a:Act) (w:Wq),wpAnyT P md ops Q S t f listed a w->wpAny P md ops Q f listed a w
 |0,_,_,_,h=>h
 |f+1,_,_,_,h=>⟨h.1,λi C=>ZsH (λa' w' A=>Zdl f _ a' w' A.2) (h.2 i C)⟩
theorem GV:∀(f:Nat) (listed:Array Bool) (a:Act) (w:Wq),listed.getD t true=true->wpAny P md ops Q f listed a w->wpAnyT P md ops Q S t f listed a w
 |0,_,_,_,_,h=>h
 |f+1,listed,_,_,ht,h=>⟨h.1,λi H=>ZsH (λa' w' F=>by
  have D:(listed.setIfInBounds i true).getD t true=true:=by
   by_cases C:i=t
   ·subst C
    rcases ZrJ i listed.size with A|A
    ·simp[A]
    ·simp[A]
   ·rw[Zr5 true C];exact ht
  exact ⟨λA=>(by rw[D] at A;cases A),GV f _ a' w' D F⟩) (h.2 i H)⟩
theorem Zay {i:Nat} {oi:Oper} {v:Value} (hi:ops[i]? =some oi) (O:∀(j:Nat) (o:Oper) cs b,ops[j]? =some o->o.op≠ .select cs b)
 (hQ:∀c a w,Q (.panic c) (a.put oi.dst v) w->Q (.panic c) a w) (hf:i≠t) (hn:∀ot,ops[t]? =some ot->∃e∈ot.after,Region.binds md e=true/\e.on=i):
 ∀(fuel:Nat) (listed:Array Bool) (a:Act) (w:Wq),listed.getD t true=false->
  (∀j oj,ops[j]? =some oj->j≠i->listed.getD j true=false->(∀e∈oj.after,Region.binds md e=true->e.on≠i)->oi.apart ops oj=true)->
  i∈Region.ready md ops listed->YieldsIf P ops S oi v a->S w->
  wpAnyT P md ops Q S t fuel (listed.setIfInBounds i true) (a.put oi.dst v) w->wpAny P md ops Q (fuel+1) listed a w:=by
 intro fuel
 induction fuel with
 |zero=>
  intro listed a w _ _ U hy hS H;refine ⟨λh=>(by rw[h] at U;cases U),λj hj=> ?_⟩;by_cases A:j=i
  ·subst A;exact hy.wpOp hi hS H
  ·have:=Zsn hj A;rw[H.1] at this;cases this
 |succ fuel ih=>
  intro listed a w Z C U hy hS H;refine ⟨λh=>(by rw[h] at U;cases U),λj hj=> ?_⟩;by_cases A:j=i
  ·subst A;exact hy.wpOp hi hS (Zdl _ _ _ _ H)
  ·have h1:=H.2 j (Zsn hj A);obtain ⟨I,oj,F,V⟩:=ZsO.1 hj;have hm:=(ZsO.1 U).1;have J:∀e∈oj.after,Region.binds md e=true->e.on≠i:=λe he hb hd=>(by have h1:=V e he hb;rw[hd,getD_both hm] at h1;cases h1);have Y:j≠t:=λe=>(by subst e;obtain ⟨e,he,hb,hl⟩:=hn oj F;exact J e he hb hl);have h2:=wpOp_putIf F (C j oj F A I J) (λcs b=>O i oi cs b hi) (λcs b=>O j oj cs b F) hQ hy h1;have D:∀k ok,ops[k]? =some ok->k≠i->(listed.setIfInBounds j true).getD k true=false->
    (∀e∈ok.after,Region.binds md e=true->e.on≠i)->oi.apart ops ok=true:=λk ok hk hg R hh=>by
    refine C k ok hk hg ?_ hh
    by_cases X:j=k
    ·subst X;exact I
    ·rw[Zr5 true X] at R;exact R
   have ha:(listed.setIfInBounds j true).getD t true=false:=(by rw[Zr5 true Y];exact Z);have hc:((listed.setIfInBounds i true).setIfInBounds j true).getD t true=false:=(by rw[Zr5 true Y,Zr5 true hf];exact Z);refine ZsH (λa' w' h3=>ih (listed.setIfInBounds j true) a' w' ha D (Zsn U (Ne.symm A)) h3.1 (h3.2.1 hc) ?_) h2;rw[ZsC _ _ A];exact h3.2.2
theorem Zbi {l:List Oper} {i:Nat} {oi:Oper} {v:Value} {fuel:Nat} {listed:Array Bool} {a:Act} {w:Wq} (D:l[i]? =some oi)
 (A:(Region.noSelect l.toArray && Region.free md l.toArray listed i && (Region.ready md l.toArray listed).contains i)=true)
 (C:∀c a w,Q (.panic c) (a.put oi.dst v) w->Q (.panic c) a w) (F:Yields P l.toArray oi v a)
 (h:wpAny P md l.toArray Q fuel (listed.setIfInBounds i true) (a.put oi.dst v) w):wpAny P md l.toArray Q (fuel+1) listed a w:=by
 simp only[ZqZ] at A;exact wpAny_take (by rw[ZrM];exact D) A.1.1 A.1.2 A.2 C F h
theorem Yn {l:List Oper} {i:Nat} {oi:Oper} {v:Value} {fuel:Nat} {listed:Array Bool} {a:Act} {w:Wq} (S:Wq->Prop) (t:Nat) (A:l[i]? =some oi)
 (I:(Region.noSelect l.toArray && decide (i≠t) && Region.waitsFor md l.toArray t i && !listed.getD t true && Region.free md l.toArray listed i && (Region.ready md l.toArray listed).contains i)=true)
 (R:∀c a w,Q (.panic c) (a.put oi.dst v) w->Q (.panic c) a w) (Y:YieldsIf P l.toArray S oi v a) (U:S w)
 (h:wpAnyT P md l.toArray Q S t fuel (listed.setIfInBounds i true) (a.put oi.dst v) w):wpAny P md l.toArray Q (fuel+1) listed a w:=by
 have J:l.toArray[i]? =some oi:=by rw[ZrM];exact A
 simp only[ZqZ,Zrd,Zsj] at I;obtain ⟨⟨⟨⟨⟨b1,b2⟩,b3⟩,b4⟩,b5⟩,O⟩:=I;obtain ⟨Z,F,e,X,V,D⟩:=Region.waitsFor_spec b3;exact Zay J (Region.noSelect_spec b1) R b2 (λH C=>by
  have:H=Z:=ZrI (C.symm.trans F);subst this;exact ⟨e,X,V,D⟩) fuel listed a w b4 (Region.free_spec J b5) (by simpa using O) Y U h
def wpListS (P:Program) (ops:Array Oper) (Q:Exit->Act->Wq->Prop) (S:Wq->Prop) (post:List Oper):List Oper->Act->Wq->Prop
 | [],a,w=>wpList P ops Q post a w
 |o::tl,a,w=>if Region.wanted o (yielded ops a.tmps) then Oper.wp P o a w (λa' w'=>S w'/\wpListS P ops Q S post tl a' w') Q else S w/\wpListS P ops Q S post tl (a.put o.dst undef) w
theorem YJ {post:List Oper} {a:Act} {w:Wq} (h:wpList P ops Q post a w):wpListS P ops Q S post [] a w:=h
theorem Zq {post tl:List Oper} {o:Oper} {a:Act} {w:Wq} (h:∀K:Act->Wq->Prop,(∀a' w',S w'->wpListS P ops Q S post tl a' w'->K a' w')->if Region.wanted o (yielded ops a.tmps) then Oper.wp P o a w K Q else K (a.put o.dst undef) w):wpListS P ops Q S post (o::tl) a w:=
 h (λa' w'=>S w'/\wpListS P ops Q S post tl a' w') λ_ _ A C=>⟨A,C⟩
theorem QF {l:List Oper} (t:Nat) (H:List Nat) {post:List Oper} (C:AtIx l (t::H) post):∀(ts:List Nat) (tl:List Oper) (listed:Array Bool) (a:Act) (w:Wq),AtIx l ts tl->
 seqL md l.toArray (ts++(t::H)) listed=true->wpListS P l.toArray Q S post tl a w->wpAnyT P md l.toArray Q S t (ts.length+(H.length+1)) listed a w
 | [],[],listed,a,w,_,hB,h=>by
  match post,C with
  |o::post',C=>
   simp only[Zrl,seqL,ZqZ,Zrd] at hB;rw[Zq5,ZrH];refine ⟨λA=>(by rw[hB.1] at A;cases A),λi I=> ?_⟩;rw[hB.1] at I;have D:i=t:=(by simpa using I);subst D;have R:l.toArray[i]? =some o:=(by rw[ZrM];exact C.1);have F:wpOp P l.toArray Q i (wpList P l.toArray Q post') a w:=(by unfold wpOp;simp only[R];exact h);refine ZsH (λa' w' O=> ?_) F;have J:(listed.setIfInBounds i true).getD i true=true:=by
    rcases ZrJ i listed.size with A|A
    ·simp[A]
    ·simp[A]
   exact ⟨λA=>(by rw[J] at A;cases A),GV _ _ a' w' J (GX H post' _ a' w' C.2 hB.2 O)⟩
 | [],_::_,_,_,_,hl,_,_=>hl.elim
 |_::_,[],_,_,_,hl,_,_=>hl.elim
 |j::ts,o::tl,listed,a,w,hl,hB,h=>by
  simp only[Zrp,seqL,ZqZ,Zrd] at hB;rw[ZqK,show ts.length+1+(H.length+1)=(ts.length+(H.length+1))+1 by omega];refine ⟨λA=>(by rw[hB.1] at A;cases A),λi I=> ?_⟩;rw[hB.1] at I;have D:i=j:=by simpa using I
  subst D;have R:l.toArray[i]? =some o:=by rw[ZrM];exact hl.1
  have F:wpOp P l.toArray Q i (λa' w'=>S w'/\wpListS P l.toArray Q S post tl a' w') a w:=by
   unfold wpOp;simp only[R];unfold wpListS at h;split
   ·rename_i F;rw[ZqN F] at h;exact Or.inl h
   ·rename_i F;rw[ZqH F] at h;exact h
  exact ZsH (λa' w' O=>⟨λ_=>O.1,QF t H C ts tl _ a' w' hl.2 hB.2 O.2⟩) F
end
end
section
section
variable {P:Program} {md:Region.Mode} {Q:Exit→Act→World→Prop} {S:World→Prop}
theorem Eo {ops:Array Oper} {t i:Nat} {oi:Oper} {v:Value} (hi:ops[i]? =some oi) (O:∀(j:Nat) (o:Oper) cs b,ops[j]? =some o->o.op≠ .select cs b)
 (hQ:∀c a w,Q (.panic c) (a.put oi.dst v) w->Q (.panic c) a w) (hg:i≠t) (ho:∀ot,ops[t]? =some ot->∃e∈ot.after,Region.binds md e=true/\e.on=i):
 ∀(fuel:Nat) (listed:Array Bool) (a:Act) (w:Wq),listed.getD t true=false->
  (∀j oj,ops[j]? =some oj->j≠i->listed.getD j true=false->(∀e∈oj.after,Region.binds md e=true->e.on≠i)->oi.apart ops oj=true)->
  i∈Region.ready md ops listed->YieldsIf P ops S oi v a->S w->
  wpAnyT P md ops Q S t fuel (listed.setIfInBounds i true) (a.put oi.dst v) w->wpAnyT P md ops Q S t (fuel+1) listed a w:=by
 intro fuel
 induction fuel with
 |zero=>
  intro listed a w _ _ V hy X H;refine ⟨λh=>(by rw[h] at V;cases V),λj hj=> ?_⟩;by_cases A:j=i
  ·subst A;exact hy.wpOp hi X ⟨λ_=>X,H⟩
  ·have:=Zsn hj A;rw[H.1] at this;cases this
 |succ fuel ih=>
  intro listed a w hc C V hy X H;refine ⟨λh=>(by rw[h] at V;cases V),λj hj=> ?_⟩;by_cases A:j=i
  ·subst A;exact hy.wpOp hi X ⟨λ_=>X,H⟩
  ·have h1:=H.2 j (Zsn hj A);obtain ⟨I,oj,F,Y⟩:=ZsO.1 hj;have hn:=(ZsO.1 V).1;have J:∀e∈oj.after,Region.binds md e=true->e.on≠i:=λe he hb hf=>(by have h1:=Y e he hb;rw[hf,getD_both hn] at h1;cases h1);have ha:j≠t:=λe=>(by subst e;obtain ⟨e,he,hb,hm⟩:=ho oj F;exact J e he hb hm);have h2:=wpOp_putIf F (C j oj F A I J) (λcs b=>O i oi cs b hi) (λcs b=>O j oj cs b F) hQ hy h1;have D:∀k ok,ops[k]? =some ok->k≠i->(listed.setIfInBounds j true).getD k true=false->
    (∀e∈ok.after,Region.binds md e=true->e.on≠i)->oi.apart ops ok=true:=λk ok hk hh U hl=>by
    refine C k ok hk hh ?_ hl
    by_cases Z:j=k
    ·subst Z;exact I
    ·rw[Zr5 true Z] at U;exact U
   have hd:(listed.setIfInBounds j true).getD t true=false:=(by rw[Zr5 true ha];exact hc);have R:((listed.setIfInBounds i true).setIfInBounds j true).getD t true=false:=(by rw[Zr5 true ha,Zr5 true hg];exact hc);refine ZsH (λa' w' h3=>⟨λ_=>h3.2.1 R,ih (listed.setIfInBounds j true) a' w' hd D (Zsn V (Ne.symm A)) h3.1 (h3.2.1 R) ?_⟩) h2;rw[ZsC _ _ A];exact h3.2.2
theorem Zh4 {l:List Oper} {i t:Nat} {oi:Oper} {v:Value} {fuel:Nat} {listed:Array Bool} {a:Act} {w:Wq} (A:l[i]? =some oi)
 (I:(Region.noSelect l.toArray && decide (i≠t) && Region.waitsFor md l.toArray t i && !listed.getD t true && Region.free md l.toArray listed i && (Region.ready md l.toArray listed).contains i)=true)
 (R:∀c a w,Q (.panic c) (a.put oi.dst v) w->Q (.panic c) a w) (Y:YieldsIf P l.toArray S oi v a) (U:S w)
 (h:wpAnyT P md l.toArray Q S t fuel (listed.setIfInBounds i true) (a.put oi.dst v) w):wpAnyT P md l.toArray Q S t (fuel+1) listed a w:=by
 have J:l.toArray[i]? =some oi:=by rw[ZrM];exact A
 simp only[ZqZ,Zrd,Zsj] at I;obtain ⟨⟨⟨⟨⟨b1,b2⟩,b3⟩,b4⟩,b5⟩,O⟩:=I;obtain ⟨Z,F,e,X,V,D⟩:=Region.waitsFor_spec b3;exact Eo J (Region.noSelect_spec b1) R b2 (λH C=>by
  have:H=Z:=ZrI (C.symm.trans F);subst this;exact ⟨e,X,V,D⟩) fuel listed a w b4 (Region.free_spec J b5) (by simpa using O) Y U h
theorem YZ {l:List Oper} (t:Nat) (A:List Nat) {post:List Oper} (D:AtIx l (t::A) post) (ts:List Nat) {tl:List Oper} {fuel:Nat} {listed:Array Bool} {a:Act} {w:Wq} (C:AtIx l ts tl) (H:fuel=ts.length+(A.length+1))
 (F:seqL md l.toArray (ts++(t::A)) listed=true) (h:wpListS P l.toArray Q S post tl a w):wpAnyT P md l.toArray Q S t fuel listed a w:=by
 subst H;exact QF t A D ts tl listed a w C F h
end
end
section
section
variable {P:Program} {md:Region.Mode} {Q:Exit→Act→World→Prop} {S:World→Prop}
def wpAnyS (P:Program) (md:Region.Mode) (ops:Array Oper) (Q:Exit->Act->Wq->Prop) (S:Wq->Prop):Nat->Array Bool->Act->Wq->Prop
 |0,listed,a,w=>Region.ready md ops listed= []/\Q .normal a w
 |f+1,listed,a,w=>(Region.ready md ops listed= []->Q .normal a w)/\
  ∀i∈Region.ready md ops listed,wpOp P ops Q i (λa' w'=>S w'/\wpAnyS P md ops Q S f (listed.setIfInBounds i true) a' w') a w
theorem ZE {ops:Array Oper} (S:Wq->Prop):∀{f:Nat} {listed:Array Bool} {a:Act} {w:Wq},wpAnyS P md ops Q S f listed a w->wpAny P md ops Q f listed a w
 |0,_,_,_,h=>h
 |_+1,_,_,_,h=>⟨h.1,λi C=>ZsH (λ_ _ A=>ZE S A.2) (h.2 i C)⟩
theorem ZfO {ops:Array Oper} {i:Nat} {oi:Oper} {v:Value} (hi:ops[i]? =some oi) (I:∀(j:Nat) (o:Oper) cs b,ops[j]? =some o->o.op≠ .select cs b)
 (hQ:∀c a w,Q (.panic c) (a.put oi.dst v) w->Q (.panic c) a w):
 ∀(fuel:Nat) (listed:Array Bool) (a:Act) (w:Wq),
  (∀j oj,ops[j]? =some oj->j≠i->listed.getD j true=false->(∀e∈oj.after,Region.binds md e=true->e.on≠i)->oi.apart ops oj=true)->
  i∈Region.ready md ops listed->YieldsIf P ops S oi v a->S w->
  wpAnyS P md ops Q S fuel (listed.setIfInBounds i true) (a.put oi.dst v) w->wpAnyS P md ops Q S (fuel+1) listed a w:=by
 intro fuel
 induction fuel with
 |zero=>
  intro listed a w _ R hy U H;refine ⟨λh=>(by rw[h] at R;cases R),λj hj=> ?_⟩;by_cases A:j=i
  ·subst A;exact hy.wpOp hi U ⟨U,H⟩
  ·have:=Zsn hj A;rw[H.1] at this;cases this
 |succ fuel ih=>
  intro listed a w C R hy U H;refine ⟨λh=>(by rw[h] at R;cases R),λj hj=> ?_⟩;by_cases A:j=i
  ·subst A;exact hy.wpOp hi U ⟨U,H⟩
  ·have Z:=H.2 j (Zsn hj A);obtain ⟨F,oj,O,V⟩:=ZsO.1 hj;have hf:=(ZsO.1 R).1;have Y:∀e∈oj.after,Region.binds md e=true->e.on≠i:=λe he hb ha=>(by have Z:=V e he hb;rw[ha,getD_both hf] at Z;cases Z);have h2:=wpOp_putIf O (C j oj O A F Y) (λcs b=>I i oi cs b hi) (λcs b=>I j oj cs b O) hQ hy Z;have D:∀k ok,ops[k]? =some ok->k≠i->(listed.setIfInBounds j true).getD k true=false->
    (∀e∈ok.after,Region.binds md e=true->e.on≠i)->oi.apart ops ok=true:=λk ok hk hc J hd=>by
    refine C k ok hk hc ?_ hd
    by_cases X:j=k
    ·subst X;exact F
    ·rw[Zr5 true X] at J;exact J
   refine ZsH (λa' w' h3=>⟨h3.2.1,ih (listed.setIfInBounds j true) a' w' D (Zsn R (Ne.symm A)) h3.1 h3.2.1 ?_⟩) h2;rw[ZsC _ _ A];exact h3.2.2
theorem Zbh {l:List Oper} {i:Nat} {oi:Oper} {v:Value} {fuel:Nat} {listed:Array Bool} {a:Act} {w:Wq} (A:l[i]? =some oi)
 (C:(Region.noSelect l.toArray && Region.free md l.toArray listed i && (Region.ready md l.toArray listed).contains i)=true)
 (H:∀c a w,Q (.panic c) (a.put oi.dst v) w->Q (.panic c) a w) (J:YieldsIf P l.toArray S oi v a) (I:S w)
 (h:wpAnyS P md l.toArray Q S fuel (listed.setIfInBounds i true) (a.put oi.dst v) w):wpAnyS P md l.toArray Q S (fuel+1) listed a w:=by
 have D:l.toArray[i]? =some oi:=by rw[ZrM];exact A
 simp only[ZqZ] at C;obtain ⟨⟨b1,b5⟩,F⟩:=C;exact ZfO D (Region.noSelect_spec b1) H fuel listed a w (Region.free_spec D b5) (by simpa using F) J I h
theorem Zv {l:List Oper} {i fuel:Nat} {o:Oper} {listed:Array Bool} {a:Act} {w:Wq} (O:l[i]? =some o) (H:Region.ready md l.toArray listed= [i])
 (h:∀K:Act->Wq->Prop,(∀a' w',S w'->wpAnyS P md l.toArray Q S fuel (listed.setIfInBounds i true) a' w'->K a' w')->if Region.wanted o (yielded l.toArray a.tmps) then Oper.wp P o a w K Q else K (a.put o.dst undef) w):wpAnyS P md l.toArray Q S (fuel+1) listed a w:=by
 have C:l.toArray[i]? =some o:=by rw[ZrM];exact O
 have A:=h (λa' w'=>S w'/\wpAnyS P md l.toArray Q S fuel (listed.setIfInBounds i true) a' w') λ_ _ I J=>⟨I,J⟩;refine ⟨λh=>(by rw[H] at h;cases h),λk F=> ?_⟩;rw[H] at F;rw[ZqU.1 F];unfold wpOp;simp only[C];split
 ·rename_i D;rw[ZqN D] at A;exact Or.inl A
 ·rename_i D;rw[ZqH D] at A;exact A
theorem ZjM {ops:Array Oper} {listed:Array Bool} {a:Act} {w:Wq} (A:Region.ready md ops listed= []) (h:wpList P ops Q [] a w):wpAnyS P md ops Q S 0 listed a w:=⟨A,h⟩
end
end
section
section
variable {P:Program} {md:Region.Mode} {Q:Exit→Act→World→Prop} {F:Array Bool→World→Prop}
def wpAnyM (P:Program) (md:Region.Mode) (ops:Array Oper) (Q:Exit->Act->Wq->Prop) (F:Array Bool->Wq->Prop):Nat->Array Bool->Act->Wq->Prop
 |0,listed,a,w=>Region.ready md ops listed= []/\Q .normal a w
 |f+1,listed,a,w=>(Region.ready md ops listed= []->Q .normal a w)/\
  ∀i∈Region.ready md ops listed,wpOp P ops Q i (λa' w'=>F (listed.setIfInBounds i true) w'/\wpAnyM P md ops Q F f (listed.setIfInBounds i true) a' w') a w
theorem KQ {ops:Array Oper} (F:Array Bool->Wq->Prop):∀{f:Nat} {listed:Array Bool} {a:Act} {w:Wq},wpAnyM P md ops Q F f listed a w->wpAny P md ops Q f listed a w
 |0,_,_,_,h=>h
 |_+1,_,_,_,h=>⟨h.1,λi C=>ZsH (λ_ _ A=>KQ F A.2) (h.2 i C)⟩
theorem ZfN {ops:Array Oper} {S:Wq->Prop} {t i:Nat} {oi:Oper} {v:Value} (hi:ops[i]? =some oi) (U:∀(j:Nat) (o:Oper) cs b,ops[j]? =some o->o.op≠ .select cs b)
 (hQ:∀c a w,Q (.panic c) (a.put oi.dst v) w->Q (.panic c) a w) (hp:i≠t) (ho:∀ot,ops[t]? =some ot->∃e∈ot.after,Region.binds md e=true/\e.on=i)
 (hF:∀L w,F (L.setIfInBounds i true) w->F L w) (Z:∀L w,L.getD t true=false->F L w->S w):
 ∀(fuel:Nat) (listed:Array Bool) (a:Act) (w:Wq),listed.getD t true=false->
  (∀j oj,ops[j]? =some oj->j≠i->listed.getD j true=false->(∀e∈oj.after,Region.binds md e=true->e.on≠i)->oi.apart ops oj=true)->
  i∈Region.ready md ops listed->YieldsIf P ops S oi v a->F (listed.setIfInBounds i true) w->
  wpAnyM P md ops Q F fuel (listed.setIfInBounds i true) (a.put oi.dst v) w->wpAnyM P md ops Q F (fuel+1) listed a w:=by
 intro fuel
 induction fuel with
 |zero=>
  intro listed a w J _ X hy hS H;refine ⟨λh=>(by rw[h] at X;cases X),λj hj=> ?_⟩;by_cases A:j=i
  ·subst A;exact hy.wpOp hi (Z _ _ J (hF _ _ hS)) ⟨hS,H⟩
  ·have:=Zsn hj A;rw[H.1] at this;cases this
 |succ fuel ih=>
  intro listed a w J C X hy hS H;refine ⟨λh=>(by rw[h] at X;cases X),λj hj=> ?_⟩;by_cases A:j=i
  ·subst A;exact hy.wpOp hi (Z _ _ J (hF _ _ hS)) ⟨hS,H⟩
  ·have h1:=H.2 j (Zsn hj A);obtain ⟨O,oj,I,ha⟩:=ZsO.1 hj;have hn:=(ZsO.1 X).1;have R:∀e∈oj.after,Region.binds md e=true->e.on≠i:=λe he hb hf=>(by have h1:=ha e he hb;rw[hf,getD_both hn] at h1;cases h1);have hg:j≠t:=λe=>(by subst e;obtain ⟨e,he,hb,hm⟩:=ho oj I;exact R e he hb hm);have h2:=wpOp_putIf I (C j oj I A O R) (λcs b=>U i oi cs b hi) (λcs b=>U j oj cs b I) hQ hy h1;have D:∀k ok,ops[k]? =some ok->k≠i->(listed.setIfInBounds j true).getD k true=false->
    (∀e∈ok.after,Region.binds md e=true->e.on≠i)->oi.apart ops ok=true:=λk ok hk hh V hl=>by
    refine C k ok hk hh ?_ hl
    by_cases hc:j=k
    ·subst hc;exact O
    ·rw[Zr5 true hc] at V;exact V
   have hd:(listed.setIfInBounds j true).getD t true=false:=(by rw[Zr5 true hg];exact J);refine ZsH (λa' w' h3=> ?_) h2;have Y:F ((listed.setIfInBounds j true).setIfInBounds i true) w':=(by rw[ZsC _ _ A];exact h3.2.1);refine ⟨hF _ _ Y,ih (listed.setIfInBounds j true) a' w' hd D (Zsn X (Ne.symm A)) h3.1 Y ?_⟩;rw[ZsC _ _ A];exact h3.2.2
theorem Xq {l:List Oper} {i:Nat} {oi:Oper} {v:Value} {fuel:Nat} {listed:Array Bool} {a:Act} {w:Wq} (t:Nat) (S:Wq->Prop) (C:l[i]? =some oi)
 (O:(Region.noSelect l.toArray && decide (i≠t) && Region.waitsFor md l.toArray t i && !listed.getD t true && Region.free md l.toArray listed i && (Region.ready md l.toArray listed).contains i)=true)
 (X:∀c a w,Q (.panic c) (a.put oi.dst v) w->Q (.panic c) a w) (V:∀L w,F (L.setIfInBounds i true) w->F L w) (A:∀L w,L.getD t true=false->F L w->S w)
 (hy:YieldsIf P l.toArray S oi v a) (Y:F (listed.setIfInBounds i true) w)
 (h:wpAnyM P md l.toArray Q F fuel (listed.setIfInBounds i true) (a.put oi.dst v) w):wpAnyM P md l.toArray Q F (fuel+1) listed a w:=by
 have R:l.toArray[i]? =some oi:=by rw[ZrM];exact C
 simp only[ZqZ,Zrd,Zsj] at O;obtain ⟨⟨⟨⟨⟨b1,b2⟩,b3⟩,b4⟩,b5⟩,U⟩:=O;obtain ⟨ot,I,e,he,Z,H⟩:=Region.waitsFor_spec b3;exact ZfN R (Region.noSelect_spec b1) X b2 (λJ D=>by
  have:J=ot:=ZrI (D.symm.trans I);subst this;exact ⟨e,he,Z,H⟩) V A fuel listed a w b4 (Region.free_spec R b5) (by simpa using U) hy Y h
theorem Zh2 {l:List Oper} {i fuel:Nat} {o:Oper} {listed:Array Bool} {a:Act} {w:Wq} (R:l[i]? =some o) (I:Region.ready md l.toArray listed= [i])
 (h:∀K:Act->Wq->Prop,(∀a' w',F (listed.setIfInBounds i true) w'->wpAnyM P md l.toArray Q F fuel (listed.setIfInBounds i true) a' w'->K a' w')->if Region.wanted o (yielded l.toArray a.tmps) then Oper.wp P o a w K Q else K (a.put o.dst undef) w):wpAnyM P md l.toArray Q F (fuel+1) listed a w:=by
 have C:l.toArray[i]? =some o:=by rw[ZrM];exact R
 have A:=h (λa' w'=>F (listed.setIfInBounds i true) w'/\wpAnyM P md l.toArray Q F fuel (listed.setIfInBounds i true) a' w') λ_ _ J O=>⟨J,O⟩;refine ⟨λh=>(by rw[I] at h;cases h),λk H=> ?_⟩;rw[I] at H;rw[ZqU.1 H];unfold wpOp;simp only[C];split
 ·rename_i D;rw[ZqN D] at A;exact Or.inl A
 ·rename_i D;rw[ZqH D] at A;exact A
theorem VM {l:List Oper} {i j fuel:Nat} {oi oj:Oper} {listed:Array Bool} {a:Act} {w:Wq} (S:l[i]? =some oi) (U:l[j]? =some oj) (V:Region.ready md l.toArray listed= [i,j])
 (I:∀K:Act->Wq->Prop,(∀a' w',F (listed.setIfInBounds i true) w'->wpAnyM P md l.toArray Q F fuel (listed.setIfInBounds i true) a' w'->K a' w')->if Region.wanted oi (yielded l.toArray a.tmps) then Oper.wp P oi a w K Q else K (a.put oi.dst undef) w)
 (J:∀K:Act->Wq->Prop,(∀a' w',F (listed.setIfInBounds j true) w'->wpAnyM P md l.toArray Q F fuel (listed.setIfInBounds j true) a' w'->K a' w')->if Region.wanted oj (yielded l.toArray a.tmps) then Oper.wp P oj a w K Q else K (a.put oj.dst undef) w):wpAnyM P md l.toArray Q F (fuel+1) listed a w:=by
 have O:l.toArray[i]? =some oi:=by rw[ZrM];exact S
 have R:l.toArray[j]? =some oj:=by rw[ZrM];exact U
 have A:=I (λa' w'=>F (listed.setIfInBounds i true) w'/\wpAnyM P md l.toArray Q F fuel (listed.setIfInBounds i true) a' w') λ_ _ I J=>⟨I,J⟩;have C:=J (λa' w'=>F (listed.setIfInBounds j true) w'/\wpAnyM P md l.toArray Q F fuel (listed.setIfInBounds j true) a' w') λ_ _ I J=>⟨I,J⟩;refine ⟨λh=>(by rw[V] at h;cases h),λk D=> ?_⟩;rw[V] at D;simp only[Zq1,Zri,ZrD] at D;rcases D with D|D
 ·rw[D];unfold wpOp;simp only[O];split
  ·rename_i H;rw[ZqN H] at A;exact Or.inl A
  ·rename_i H;rw[ZqH H] at A;exact A
 ·rw[D];unfold wpOp;simp only[R];split
  ·rename_i H;rw[ZqN H] at C;exact Or.inl C
  ·rename_i H;rw[ZqH H] at C;exact C
theorem Zdi {ops:Array Oper} {listed:Array Bool} {a:Act} {w:Wq} (A:Region.ready md ops listed= []) (h:wpList P ops Q [] a w):wpAnyM P md ops Q F 0 listed a w:=⟨A,h⟩
end
end
section
section
variable {P:Program} {md:Region.Mode} {Q:Exit→Act→World→Prop} {S:World→Prop} {l:List Oper} {oi:Oper} {fuel:Nat} {listed:Array Bool} {a:Act} {w:World} {t:Nat}
theorem tS (i:Nat) (v:Value) (F:l[i]? =some oi) (H:∀w',S w'->(execOp a.eval oi).run P w'= .ok (.value v) w') (D:S w) (h:wpAnyS P md l.toArray Q S fuel (listed.setIfInBounds i true) (a.put oi.dst v) w)
 (A:(Region.noSelect l.toArray && Region.free md l.toArray listed i && (Region.ready md l.toArray listed).contains i)=true:=by kernel_rfl) (C:∀c a w,Q (.panic c) (a.put oi.dst v) w->Q (.panic c) a w:=by exact λ_ _ _ h=>h)
 (I:Region.wanted oi (yielded l.toArray a.tmps)=true:=by rfl):wpAnyS P md l.toArray Q S (fuel+1) listed a w:=Zbh (i:=i) (v:=v) F A C (Or.inl ⟨I,H⟩) D h
theorem tL (i:Nat) (v:Value) (D:l[i]? =some oi) (F:∀w',(execOp a.eval oi).run P w'= .ok (.value v) w') (h:wpAny P md l.toArray Q fuel (listed.setIfInBounds i true) (a.put oi.dst v) w)
 (A:(Region.noSelect l.toArray && Region.free md l.toArray listed i && (Region.ready md l.toArray listed).contains i)=true:=by kernel_rfl) (C:∀c a w,Q (.panic c) (a.put oi.dst v) w->Q (.panic c) a w:=by exact λ_ _ _ h=>h)
 (H:Region.wanted oi (yielded l.toArray a.tmps)=true:=by rfl):wpAny P md l.toArray Q (fuel+1) listed a w:=Zbi (i:=i) (v:=v) D A C (Or.inl ⟨H,F⟩) h
theorem tT (i:Nat) (v:Value) (F:l[i]? =some oi) (H:∀w',S w'->(execOp a.eval oi).run P w'= .ok (.value v) w') (D:S w) (h:wpAnyT P md l.toArray Q S t fuel (listed.setIfInBounds i true) (a.put oi.dst v) w)
 (A:(Region.noSelect l.toArray && decide (i≠t) && Region.waitsFor md l.toArray t i && !listed.getD t true && Region.free md l.toArray listed i && (Region.ready md l.toArray listed).contains i)=true:=by kernel_rfl)
 (C:∀c a w,Q (.panic c) (a.put oi.dst v) w->Q (.panic c) a w:=by exact λ_ _ _ h=>h) (I:Region.wanted oi (yielded l.toArray a.tmps)=true:=by rfl):wpAnyT P md l.toArray Q S t (fuel+1) listed a w:=
 Zh4 (i:=i) (v:=v) F A C (Or.inl ⟨I,H⟩) D h
theorem sS (i:Nat) {o:Oper} (h:∀K:Act->Wq->Prop,(∀a' w',S w'->wpAnyS P md l.toArray Q S fuel (listed.setIfInBounds i true) a' w'->K a' w')->if Region.wanted o (yielded l.toArray a.tmps) then Oper.wp P o a w K Q else K (a.put o.dst undef) w)
 (A:l[i]? =some o:=by exact rfl) (C:Region.ready md l.toArray listed= [i]:=by kernel_rfl):wpAnyS P md l.toArray Q S (fuel+1) listed a w:=Zv (i:=i) A C h
theorem tG (i:Nat) (v:Value) (A:S w) (h:wpAnyS P md l.toArray Q S fuel (listed.setIfInBounds i true) (a.put oi.dst v) w) (F:l[i]? =some oi:=by exact rfl)
 (H:∀w',S w'->(execOp a.eval oi).run P w'= .ok (.value v) w':=by exact λw' A=>by go_simp) (C:(Region.noSelect l.toArray && Region.free md l.toArray listed i && (Region.ready md l.toArray listed).contains i)=true:=by kernel_rfl)
 (D:∀c a w,Q (.panic c) (a.put oi.dst v) w->Q (.panic c) a w:=by exact λ_ _ _ h=>h) (I:Region.wanted oi (yielded l.toArray a.tmps)=true:=by rfl):wpAnyS P md l.toArray Q S (fuel+1) listed a w:=Zbh (i:=i) (v:=v) F C D (Or.inl ⟨I,H⟩) A h
theorem tH (i:Nat) (v:Value) (h:wpAny P md l.toArray Q fuel (listed.setIfInBounds i true) (a.put oi.dst v) w) (D:l[i]? =some oi:=by exact rfl) (F:∀w',(execOp a.eval oi).run P w'= .ok (.value v) w':=by exact λw=>by go_simp)
 (A:(Region.noSelect l.toArray && Region.free md l.toArray listed i && (Region.ready md l.toArray listed).contains i)=true:=by kernel_rfl) (C:∀c a w,Q (.panic c) (a.put oi.dst v) w->Q (.panic c) a w:=by exact λ_ _ _ h=>h)
 (H:Region.wanted oi (yielded l.toArray a.tmps)=true:=by rfl):wpAny P md l.toArray Q (fuel+1) listed a w:=Zbi (i:=i) (v:=v) D A C (Or.inl ⟨H,F⟩) h
theorem sE {ops:Array Oper} (h:wpList P ops Q [] a w) (A:Region.ready md ops listed= []:=by kernel_rfl):wpAnyS P md ops Q S 0 listed a w:=ZjM A h
theorem mS {F:Array Bool->Wq->Prop} (i:Nat) {o:Oper} (h:∀K:Act->Wq->Prop,(∀a' w',F (listed.setIfInBounds i true) w'->wpAnyM P md l.toArray Q F fuel (listed.setIfInBounds i true) a' w'->K a' w')->if Region.wanted o (yielded l.toArray a.tmps) then Oper.wp P o a w K Q else K (a.put o.dst undef) w)
 (A:l[i]? =some o:=by exact rfl) (C:Region.ready md l.toArray listed= [i]:=by kernel_rfl):wpAnyM P md l.toArray Q F (fuel+1) listed a w:=Zh2 (i:=i) A C h
theorem rA {id:Nat} (h:wpQuiet P l.toArray (λw'=>∃d:Aft w,w'=d.w) (λa'=>∀w',(∃d:Aft w,w'=d.w)->Q .normal a' w') l a) (C:P.follows .mixedOrders=true:=by kernel_rfl) (A:Region.lexB .any l.toArray=true:=by kernel_rfl):(Code.region id l.toArray true).wp P Q a w:=ZdL C A h
theorem rN {id:Nat} {ops:Array Oper} (h:wpAny P .any ops Q ops.size (Array.replicate ops.size false) a {w with drawn:=w.drawn+1}) (A:P.follows .mixedOrders=true:=by kernel_rfl):(Code.region id ops true).wp P Q a w:=wp_region_any A h
end
end
section
section
variable {P:Program} (w:World)
theorem ZcY (base:Nat) (t ty e:TypeId) (i:TypeInfo) (size:Nat) (D:P.underlying t=some (.slice e)) (C:P.info? e=some i)
 (v:Value) (n:Nat) (xs:List Value) (h:w.ownsRow base e size v n xs) (c:Nat):(Builtin.append_ #[t,t] ty #[v,.slice none 0 c]).run P w= .ok v w:=by
 rcases h.2 with ⟨rfl,rfl⟩|⟨g,cap,F,rfl,_,_,A,_⟩
 ·simp[Builtin.append_,run_underlying D,sizeOf,typeInfo,C,Builtin.lenOf,Builtin.firstCells]
 ·simp[Builtin.append_,run_underlying D,sizeOf,typeInfo,C,Builtin.lenOf,Builtin.firstCells,A,storeCells]
theorem ZcZ (base:Nat) (t ty e:TypeId) (i:TypeInfo) (z:Value) (size D:Nat) (ht:P.underlying t=some (.slice e)) (hi:P.info? e=some i) (hz:i.zero=some z)
 (R:i.size=size) (Y:i.bytes=D) (Z:z.cells.size=size) (V:0<size)
 (v:Value) (n:Nat) (xs:List Value) (H:w.ownsRow base e size v n xs)
 (u:Value) (m:Nat) (C:List Value) (hr:RSl w size u m C) (h1:∀y∈C,y.oneCell'=true)
 (X:n+m<=maxLen) (F:(n+m)*D<=140737488355328) (I:base<=w.heap.size):
 ∃U w',(Builtin.append_ #[t,t] ty #[v,u]).run P w= .ok U w'/\w'.ownsRow base e size U (n+m) (xs++C)/\w.grownBy w' v.ownBlock/\
  (U.ownBlock=v.ownBlock\/U.ownBlock=some w.heap.size):=by
 obtain ⟨O,A,c,rfl,hd,hb,hA,J⟩:=hr;rcases ZrX m with h0|h0
 ·subst h0;have hn:C= []:=ZqX (by simpa using O);subst hn;cases A with
  |none=>exact ⟨v,w,ZcY w base t ty e i size ht hi v n xs H c,by simpa using H,World.grownBy.refl w _,.inl rfl⟩
  |some ad=>obtain ⟨U,w',Q,h2,h3,_,h5⟩:=run_append_own_at (P:=P) w base t ty e i z size D ht hi hz R Y Z V v n xs H ad 0 c [] (by simp) (λj u hu=>by simp at hu) h1 X F I;exact ⟨U,w',Q,h2,h3,h5⟩
 ·have hl:0<C.length:=by rw[O];exact Nat.mul_pos h0 V
  obtain ⟨ad,rfl,_⟩:=J 0 (C[0]) (ZqL hl);have S:∀j u,C[j]? =some u->w.cell? (ad.add j)=some u:=by intro j u hu;obtain ⟨ha,h,hc⟩:=J j u hu;injection h with h;subst h;exact hc
  obtain ⟨U,w',Q,h2,h3,_,h5⟩:=run_append_own_at (P:=P) w base t ty e i z size D ht hi hz R Y Z V v n xs H ad m c C O S h1 X F I;exact ⟨U,w',Q,h2,h3,h5⟩
theorem GY {o:Oper} {a:Act} {K:Act->Wq->Prop} {Q:Exit->Act->Wq->Prop} (s x:Operand) (t:TypeId)
 (ho:o.op= .call {callee:= .builtin .append,args:=#[s,x],argTypes:=#[t,t]})
 (base:Nat) (e:TypeId) (i:TypeInfo) (z:Value) (size A:Nat) (ht:P.underlying t=some (.slice e)) (hi:P.info? e=some i) (hz:i.zero=some z)
 (H:i.size=size) (S:i.bytes=A) (V:z.cells.size=size) (U:0<size)
 (v:Value) (n:Nat) (xs:List Value) (hs:a.eval s=v) (J:w.ownsRow base e size v n xs)
 (u:Value) (m:Nat) (C:List Value) (hx:a.eval x=u) (hr:RSl w size u m C) (X:∀y∈C,y.oneCell'=true)
 (R:n+m<=maxLen) (D:(n+m)*A<=140737488355328) (F:base<=w.heap.size)
 (h:∀I w',w'.ownsRow base e size I (n+m) (xs++C)->w.grownBy w' v.ownBlock->(I.ownBlock=v.ownBlock\/I.ownBlock=some w.heap.size)->K (a.put o.dst I) w'):o.wp P a w K Q:=by
 obtain ⟨I,w',O,Y,Z,h4⟩:=ZcZ (P:=P) w base t o.type e i z size A ht hi hz H S V U v n xs J u m C hr X R D F;unfold Oper.wp execOp;simp only[ho,resolve,invoke,builtin,Sem.run_bind,Sem.run_pure,Result.andThen_ok,List.map_toArray,Zq8,Zrz,hs,hx,O];exact h I w' Y Z h4
theorem Za {ops:Array Oper} {rest:List Oper} {o:Oper} {a:Act} {Q:Exit->Act->Wq->Prop} (S:o.guard=none) (s x:Operand) (t:TypeId)
 (ho:o.op= .call {callee:= .builtin .append,args:=#[s,x],argTypes:=#[t,t]})
 (base:Nat) (e:TypeId) (i:TypeInfo) (z:Value) (size A:Nat) (ht:P.underlying t=some (.slice e)) (hi:P.info? e=some i) (hz:i.zero=some z)
 (H:i.size=size) (R:i.bytes=A) (V:z.cells.size=size) (U:0<size)
 (v:Value) (n:Nat) (xs:List Value) (hs:a.eval s=v) (J:w.ownsRow base e size v n xs)
 (u:Value) (m:Nat) (C:List Value) (hx:a.eval x=u) (hr:RSl w size u m C) (X:∀y∈C,y.oneCell'=true)
 (O:n+m<=maxLen) (D:(n+m)*A<=140737488355328) (F:base<=w.heap.size)
 (h:∀I w',w'.ownsRow base e size I (n+m) (xs++C)->w.grownBy w' v.ownBlock->(I.ownBlock=v.ownBlock\/I.ownBlock=some w.heap.size)->wpList P ops Q rest (a.put o.dst I) w'):wpList P ops Q (o::rest) a w:=
 wpList_plain S λ_ hK=>GY w s x t ho base e i z size A ht hi hz H R V U v n xs hs J u m C hx hr X O D F λI w' Y Z h4=>hK _ _ (h I w' Y Z h4)
theorem Zk {ops:Array Oper} {o:Oper} {a:Act} {K:Act->Wq->Prop} {Q:Exit->Act->Wq->Prop} {E:Prop} (S:o.guard=none) (s x:Operand) (t:TypeId)
 (Z:o.op= .call {callee:= .builtin .append,args:=#[s,x],argTypes:=#[t,t]})
 (base:Nat) (e:TypeId) (i:TypeInfo) (z:Value) (size A:Nat) (ht:P.underlying t=some (.slice e)) (Y:P.info? e=some i) (hz:i.zero=some z)
 (H:i.size=size) (R:i.bytes=A) (V:z.cells.size=size) (U:0<size)
 (v:Value) (n:Nat) (xs:List Value) (hs:a.eval s=v) (I:w.ownsRow base e size v n xs)
 (u:Value) (m:Nat) (C:List Value) (hx:a.eval x=u) (hr:RSl w size u m C) (X:∀y∈C,y.oneCell'=true)
 (O:n+m<=maxLen) (D:(n+m)*A<=140737488355328) (F:base<=w.heap.size)
 (h:∀J w',w'.ownsRow base e size J (n+m) (xs++C)->w.grownBy w' v.ownBlock->(J.ownBlock=v.ownBlock\/J.ownBlock=some w.heap.size)->K (a.put o.dst J) w'):
 if Region.wanted o (yielded ops a.tmps)=true then Oper.wp P o a w K Q else E:=by
 have hw:Region.wanted o (yielded ops a.tmps)=true:=by simp[Region.wanted,S]
 rw[ZqN hw];exact GY w s x t Z base e i z size A ht Y hz H R V U v n xs hs I u m C hx hr X O D F h
end
theorem Ext.app {a b c:Wq} {base n size:Nat} {e:TypeId} {v:Value} {xs:List Value} (h:Ext a b) (C:b.grownBy c v.ownBlock) (F:b.ownsRow base e size v n xs) (A:a.heap.size<=base):Ext a c:=
 Below.grown h C h.size λk D=>ZqM A (F.lt k D).1
theorem Zj {w:Wq} {size n:Nat} {cs:List Value} {e:TypeId} (h:cs.length=n*size) (C:n<=maxLen):RSl (w.alloc (.cells cs.toArray e)) size (.slice (some ⟨w.heap.size,0,none⟩) n n) n cs:=by
 refine ⟨h,some ⟨w.heap.size,0,none⟩,n,rfl,ZqE _,C,(λh=>by cases h),λj u D=>⟨_,rfl,?_⟩⟩;have A:(⟨w.heap.size,0,none⟩:Addr).add j=⟨w.heap.size,j,none⟩:=by unfold Addr.add;split<;>simp_all
 rw[A];rw[Zrc (ZqJ w _)];simpa using D
theorem Y9 {w:Wq} {base size n:Nat} {cs:List Value} {e:TypeId} (A:base<=w.heap.size) (h:cs.length=n*size) (C:n<=maxLen):(w.alloc (.cells cs.toArray e)).ownsRow base e size (.slice (some ⟨w.heap.size,0,none⟩) n n) n cs:=
 ⟨h,.inr ⟨w.heap.size,n,cs.toArray,rfl,A,ZqJ w _,ZqE _,C,by simpa using h,by rw[<-h];simp⟩⟩
theorem Ju:(prog.info? 5).map (λi=>(i.zero,i.size,i.bytes))=some (some (.int .u8 0),1,1):=by kernel_rfl
end
end Go.Proofs.YtmfinhgobjbecaaGreatDoor
