/- Parts of the proof: contracts and plain laws. -/
import Derived.Test.YthlnaldahkgjnaaGreatDoorProg
import Derived.Test.YthlnaldahkgjnaaGreatDoorZ00
namespace Go.Proofs.YthlnaldahkgjnaaGreatDoor
open Go Go.RowKit _root_.Go.Proofs.Tryz
set_option linter.unusedVariables false
set_option linter.unusedSimpArgs false
set_option maxRecDepth 100000
set_option maxHeartbeats 16000000
def isSp (c:Int):Bool:=decide (c=32\/c=9\/c=10\/c=13)
def isChar (r:Int):Bool:=decide (r=9\/r=10\/r=13\/(32<=r/\r<=55295)\/(57344<=r/\r<=65533)\/(65536<=r/\r<=1114111))
def dec (l:List UInt8):Nat×Nat:=
 if l= [] then (0,0) else if (Lib.decodeL l).1=65533/\(Lib.decodeL l).2=1 then (0,0) else Lib.decodeL l
def checkGo:Nat->Nat->List UInt8->Nat×Nat
 |0,at_,_=>(at_,0)
 |n+1,at_,l=>if l= [] then (at_,0) else if (dec l).2=0 then (at_,5) else if isChar (dec l).1=false then (at_,6) else checkGo n (at_+(dec l).2) (l.drop (dec l).2)
def check (l:List UInt8):Nat×Nat:=checkGo l.length 0 l
def collGo:List UInt8->List UInt8->Bool->List UInt8
 | [],out,_=>out
 |c::t,out,gap=>if isSp c.toNat then collGo t out (!out.isEmpty) else collGo t (out++(if gap then [32] else [])++ [c]) false
def coll (l:List UInt8):List UInt8:=collGo l [] false
def str (l:List UInt8):ByteArray:=⟨l.toArray⟩
@[simp] theorem Yz (l:List UInt8):(str l).data.toList=l:=by simp[str]
@[simp] theorem Xg (l:List UInt8):(str l).size=l.length:=by simp[str,ByteArray.size]
theorem GB (s:ByteArray):str s.data.toList=s:=by simp[str]
def collapse (s:ByteArray):ByteArray:=str (coll s.data.toList)
def checkS (s:ByteArray):Nat×Nat:=check s.data.toList
def validS (s:ByteArray):Bool:=decide ((checkS s).2=0) && ((collapse s).data.toList==s.data.toList)
theorem UH (l:List UInt8):Lib.decodeL l=Lib.decodeN l.length (l.getD 0 0).toNat (l.getD 1 0).toNat (l.getD 2 0).toNat (l.getD 3 0).toNat:=by
 unfold Lib.decodeL;rw[Lib.decode_at];have h:∀k,(ByteArray.mk l.toArray).get! k=l.getD k 0:=by intro k;simp[ByteArray.get!,YA];rfl
 simp only[h];simp[ByteArray.size]
theorem GG (n h j A C:Nat) (D:1<=n):1<=(Lib.decodeN n h j A C).2/\(Lib.decodeN n h j A C).2<=n:=by
 unfold Lib.decodeN
 repeat' split
 all_goals (simp only[];omega)
theorem Gk (l:List UInt8):(dec l).2<=l.length:=by
 unfold dec;by_cases h:l= []
 ·simp[h]
 ·rw[Zf h];have j:1<=l.length:=ZbB.2 h;split
  ·simp
  ·rw[UH];exact (GG _ _ _ _ _ j).2
theorem Us (n k:Nat) (l:List UInt8) (h:l≠ []):checkGo (n+1) k l=if (dec l).2=0 then (k,5) else if isChar (dec l).1=false then (k,6) else checkGo n (k+(dec l).2) (l.drop (dec l).2):=by
 simp only[checkGo,Zf h]
theorem QG:∀(n m k:Nat) (l:List UInt8),l.length<=n->l.length<=m->checkGo n k l=checkGo m k l
 |0,m,k,l,h,_=>by
  have j:l= []:=ZI (by omega)
  subst j
  cases m<;>simp[checkGo]
 |n+1,0,k,l,_,h=>by
  have j:l= []:=ZI (by omega)
  subst j
  simp[checkGo]
 |n+1,m+1,k,l,h1,h2=>by
  by_cases j:l= []
  ·subst j;simp[checkGo]
  ·rw[Us n k l j,Us m k l j]
   by_cases A:(dec l).2=0
   ·rw[Zi A,Zi A]
   ·rw[Zf A,Zf A]
    by_cases C:isChar (dec l).1=false
    ·rw[Zi C,Zi C]
    ·rw[Zf C,Zf C]
     exact QG n m _ _ (by simp;omega) (by simp;omega)
theorem I6 (n k:Nat):checkGo n k []=(k,0):=by cases n<;>simp[checkGo]
theorem Zav (l:List UInt8) (k:Nat) (F:k<l.length):checkGo l.length k (l.drop k)=if (dec (l.drop k)).2=0 then (k,5) else if isChar (dec (l.drop k)).1=false then (k,6) else checkGo l.length (k+(dec (l.drop k)).2) (l.drop (k+(dec (l.drop k)).2)):=by
 have C:l.drop k≠ []:=by intro h;have:=Zo List.length h;simp at this;omega
 obtain ⟨n,D⟩:∃n,l.length=n+1:=⟨l.length - 1,by omega⟩;rw[show checkGo l.length k (l.drop k)=checkGo (n+1) k (l.drop k) by rw[D],Us n k _ C,List.drop_drop];by_cases j:(dec (l.drop k)).2=0
 ·rw[Zi j,Zi j]
 ·rw[Zf j,Zf j];by_cases A:isChar (dec (l.drop k)).1=false
  ·rw[Zi A,Zi A]
  ·rw[Zf A,Zf A];exact QG _ _ _ _ (by rw[ZL];omega) (by rw[ZL];omega)
theorem IZ (l:List UInt8) (k:Nat) (h:l.length<=k):checkGo l.length k (l.drop k)=(k,0):=by
 rw[ZB h];exact I6 _ _
def Ext (w w':World):Prop:=Below w.heap.size w w'
theorem Ext.refl (w:World):Ext w w:=IB _ _
theorem Ext.size {a b:World} (h:Ext a b):a.heap.size<=b.heap.size:=Below.size h
theorem Ext.trans {a b c:World} (h:Ext a b) (k:Ext b c):Ext a c:=Below.trans h (Xb k h.size)
theorem Ext.drew {a b:World} (h:Ext a b):Ext a b.drew:=Below.drew h
theorem Ext.drewN {a b:World} (h:Ext a b) (n:Nat):Ext a (b.drewN n):=by
 have j:Below a.heap.size a b:=h;exact ⟨j.os,j.tape,j.output,j.size,j.block⟩
theorem Ext.alloc {a b:World} (h:Ext a b) (o:Obj):Ext a (b.alloc o):=Below.alloc h h.size o
theorem Ext.setCell {a b:World} (h:Ext a b) {p:Addr} (j:a.heap.size<=p.block) (u:Value):Ext a (b.setCell p u):=Below.setCell h j u
theorem Ext.then {a b c:World} (h:Ext a b) (k:Below a.heap.size b c):Ext a c:=Below.trans h k
theorem Ext.cell {a b:World} (h:Ext a b) {p:Addr} {v:Value} (j:a.cell? p=some v):b.cell? p=some v:=
 (Below.cell h (YS a p j)).trans j
theorem Ext.heap {a b:World} (h:Ext a b) {k:Nat} {o:Obj} (j:a.heap[k]? =some o):b.heap[k]? =some o:=
 (Below.block h k (Ze.1 j).1).trans j
theorem Ext.grown {a b:World} (h:Ext a b) (row:Option Nat):a.grownBy b row:=⟨h.os,h.tape,h.output,h.size,λk j _=>Below.block h k j⟩
theorem XE (s:ByteArray):s.toList=s.data.toList:=Yx s
theorem UA (a b:ByteArray):(a.toList==b.toList)=(a.data.toList==b.data.toList):=by rw[XE,XE]
theorem Xi {a b:ByteArray} (h:a.data.toList=b.data.toList):a=b:=by
 cases a;cases b
 congr
 exact Array.toList_inj.1 h
theorem Zgk {k:IntKind} {a b:Int} (h:a=b):Ending.returned (.int k a)= .returned (.int k b):=by rw[h]
theorem Kd {k j:IntKind} {a b c d:Int} (h:a=b) (A:c=d):Ending.returned (.tuple #[.int k a,.int j c])= .returned (.tuple #[.int k b,.int j d]):=by rw[h,A]
structure Env (w:World):Prop where
 utf8:Lib.Utf8Tabs 1 2 w
 pow : Lib.TabIs prog w "internal/strconv.uint64pow10" .u64 Lib.pow10Tab
 size:6<=w.heap.size
 letters:∃t fr,w.heap[3]? =some (.cells #[.int .u8 98,.int .u8 8,.int .u8 102,.int .u8 12,.int .u8 110,.int .u8 10,.int .u8 114,.int .u8 13,.int .u8 116,.int .u8 9] t fr)
theorem Zhd : prog.globalNamed "internal/strconv.uint64pow10" = some 0 := by kernel_rfl
theorem Env.ext {w w':World} (G:Env w) (h:Ext w w'):Env w':=by
 obtain ⟨j,C,D,F⟩:=G;refine ⟨⟨λc H=>h.cell (j.1 c H),λi A=>⟨h.cell (j.2 i A).1,h.cell (j.2 i A).2⟩⟩,?_,Zl D h.size,?_⟩
 ·exact var?_below (B:=w.heap.size) h Zhd (by omega) C
 ·obtain ⟨t,fr,I⟩:=F;exact ⟨t,fr,h.heap I⟩
theorem Env.drew {w:World} (h:Env w):Env w.drew:=h.ext (Ext.refl w).drew
theorem Env.alloc {w:World} (h:Env w) (o:Obj):Env (w.alloc o):=h.ext ((Ext.refl w).alloc o)
theorem QC (a:Addr) (n:Nat):(a.add n).block=a.block:=by unfold Addr.add;split<;>rfl
theorem add_zero (a:Addr):a.add 0=a:=by unfold Addr.add;simp
structure RSl (w:World) (size:Nat) (v:Value) (n:Nat) (xs:List Value):Prop where
 len:xs.length=n*size
 form:∃A c,v= .slice A n c/\n<=c/\c<=maxLen/\(A=none->c=0)/\∀j u,xs[j]? =some u->∃ad,A=some ad/\w.cell? (ad.add j)=some u
theorem RSl.ext {w w':World} {size n:Nat} {v:Value} {xs:List Value} (h:RSl w size v n xs) (O:Ext w w'):RSl w' size v n xs:=by
 obtain ⟨C,A,c,e,D,F,G,H⟩:=h;exact ⟨C,A,c,e,D,F,G,λj u K=>let ⟨ad,I,J⟩:=H j u K;⟨ad,I,O.cell J⟩⟩
theorem RSl.nil (w:World) (size:Nat):RSl w size (.slice none 0 0) 0 []:=⟨by simp,none,0,rfl,Zd _,Zt _,λ_=>rfl,λj u h=>by simp at h⟩
theorem RSl.of_own {w:World} {base size n:Nat} {e:TypeId} {v:Value} {xs:List Value} (h:w.ownsRow base e size v n xs):RSl w size v n xs:=by
 refine ⟨h.1,?_⟩;rcases h.2 with ⟨rfl,rfl⟩|⟨g,cap,C,rfl,G,H,F,D,I,J⟩
 ·exact ⟨none,0,rfl,Zd _,Zt _,λ_=>rfl,λj u A=>by have:=h.1;simp at this;subst this;simp at A⟩
 ·exact ⟨some ⟨g,0,none⟩,cap,rfl,F,D,(λe=>by cases e),λj u A=>⟨_,rfl,h.cells (g:=g) rfl j u A⟩⟩
structure Aft (W:World) where
 w:World
 ext:Ext W w
instance (W:World):Nonempty (Aft W):=⟨⟨W,Ext.refl W⟩⟩
theorem IT {P:Program} {id:Nat} {Q:Exit->Act->World->Prop} {a:Act} {w:World} {l:List Oper} (A:P.follows .mixedOrders=true) (j:Region.lexB .any l.toArray=true)
 (h:wpQuiet P l.toArray (λw'=>∃d:Aft w,w'=d.w) (λa'=>∀w',(∃d:Aft w,w'=d.w)->Q .normal a' w') l a):(Code.region id l.toArray true).wp P Q a w:=
 wp_region_quiet (C:=λw'=>∃d:Aft w,w'=d.w) A j ⟨⟨_,(Ext.refl w).drew⟩,rfl⟩ (by simpa using h)
theorem ZX {P:Program} {f:FuncId} {args:Array Value} {W:World} {d:Aft W} {v:Value} (h:Calls P f args d.w λe w'=>e= .returned v/\Ext d.w w'):Calls P f args d.w λe w'=>e= .returned v/\∃d:Aft W,w'=d.w:=
 h.mono λ_ w' ⟨A,j⟩=>⟨A,⟨w',d.ext.trans j⟩,rfl⟩
theorem YU {P:Program} {f:FuncId} {args:Array Value} {W:World} {d:Aft W} {v:Value} (h:Calls P f args d.w λe w'=>e= .returned v/\w'=d.w):Calls P f args d.w λe w'=>e= .returned v/\∃d:Aft W,w'=d.w:=
 h.mono λ_ _ ⟨A,j⟩=>⟨A,d,j⟩
theorem Aft.cell {W:World} {p:Addr} {v:Value} (h:W.cell? p=some v) (d:Aft W):d.w.cell? p=some v:=d.ext.cell h
theorem Z4 {P:Program} {ops:Array Oper} {o:Oper} {a:Act} {w:World} {K:Act->World->Prop} {Q:Exit->Act->World->Prop} {E:Prop} (C:o.guard=none) (D:TypeId) (x y:Operand) (I:o.op= .store D x y)
 (g:Nat) (cells:Array Value) (O:a.eval x= .pointer (some ⟨g,0,none⟩)) (R:a.eval y= .agg cells)
 (t:TypeId) (j:Array Value) (G:w.heap[g]? =some (.cells j t (0,0))) (H:(P.info? D).map (·.size)=some cells.size)
 (A:j.size=cells.size) (F:cells.all (·.oneCell')=true)
 (h:K (a.put o.dst undef) (w.setRow g cells)):if Region.wanted o (yielded ops a.tmps)=true then Oper.wp P o a w K Q else E:=by
 have J:Region.wanted o (yielded ops a.tmps)=true:=by simp[Region.wanted,C]
 rw[Zi J];exact wp_store_row D x y I g cells O R t j G H A F h
theorem Yk {P:Program} {ops:Array Oper} {rest:List Oper} {o:Oper} {a:Act} {w:World} {Q:Exit->Act->World->Prop} (C:o.guard=none) (D:TypeId) (x y:Operand) (K:o.op= .store D x y)
 (g:Nat) (cells:Array Value) (O:a.eval x= .pointer (some ⟨g,0,none⟩)) (R:a.eval y= .agg cells)
 (t:TypeId) (j:Array Value) (F:w.heap[g]? =some (.cells j t (0,0))) (J:(P.info? D).map (·.size)=some cells.size)
 (A:j.size=cells.size) (H:cells.all (·.oneCell')=true)
 (h:∀W:World,W.heap[g]? =some (.cells cells t (0,0))->(∀b:World,Ext b w->b.heap.size<=g->Ext b W)->(∀k,k≠g->W.heap[k]? =w.heap[k]?)->wpList P ops Q rest (a.put o.dst undef) W):wpList P ops Q (o::rest) a w:=
 Zg C D x y K g cells O R t j F J A H (h _ (Zk _ _ _ _ _ _ F) (λb I S=>I.then ⟨rfl,rfl,rfl,by simp[World.setRow],λk G=>ZD w g k cells (by omega)⟩) λk G=>ZD w g k cells G)
theorem UC {w:World} {g:Nat} {a b c d e:Value} {t:TypeId} {fr:Nat×Nat} (h:w.heap[g]? =some (.cells #[a,b,c,d,e] t fr)):
 w.cell? ⟨g,0,none⟩=some a/\w.cell? ⟨g,1,none⟩=some b/\w.cell? ⟨g,2,none⟩=some c/\w.cell? ⟨g,3,none⟩=some d/\w.cell? ⟨g,4,none⟩=some e:=by
 refine ⟨?_,?_,?_,?_,?_⟩<;>(rw[Zb _ _ _ _ _ _ h];rfl)
theorem Zhk {w:World} {g:Nat} {a b c d e f:Value} {t:TypeId} {fr:Nat×Nat} (h:w.heap[g]? =some (.cells #[a,b,c,d,e,f] t fr)):
 w.cell? ⟨g,0,none⟩=some a/\w.cell? ⟨g,1,none⟩=some b/\w.cell? ⟨g,2,none⟩=some c/\w.cell? ⟨g,3,none⟩=some d/\w.cell? ⟨g,4,none⟩=some e/\w.cell? ⟨g,5,none⟩=some f:=by
 refine ⟨?_,?_,?_,?_,?_,?_⟩<;>(rw[Zb _ _ _ _ _ _ h];rfl)
section
section
variable {P:Program} {ops:Array Oper} {W:World}
def yields1 (P:Program) (W:World) (o:Oper) (a:Act) (v:Value):Prop:=∀c:Aft W,o.quietAt P a (λw'=>∃e:Aft c.w,w'=e.w) c.w v
def calm1 (P:Program) (W:World) (o:Oper) (a:Act) (next:Act->Prop):Prop:=∃v,(∀c:Aft W,o.quietAt P a (λw'=>∃e:Aft c.w,w'=e.w) c.w v)/\next (a.put o.dst v)
theorem IS {o:Oper} {a:Act} {C:World->Prop} {w:World} {v:Value} {K:Act->World->Prop} {Q':Exit->Act->World->Prop} (h:o.quietAt P a C w v) (A:C w) (hK:∀w',C w'->K (a.put o.dst v) w'):o.wp P a w K Q':=by
 unfold Oper.quietAt at h;unfold Oper.wp;cases hr:(execOp a.eval o).run P w with
 |halt x w'=>rw[hr] at h;exact h.elim
 |ok n w'=>
  rw[hr] at h;cases n<;>simp only[Oper.quietUpon] at h<;>simp only[Oper.upon]
  case value u=>rw[h.1,h.2];exact hK w A
  case skip=>rw[h.1,<-h.2];exact hK w A
  case enter f args=>rw[h.1];exact h.2.mono λe j ⟨F,D⟩=>by rw[F];exact hK j D
def wpCalm (P:Program) (ops:Array Oper) (W:World) (Q:Act->Prop):List Oper->Act->Prop
 | [],a=>Q a
 |o::rest,a=>if Region.wanted o (yielded ops a.tmps) then calm1 P W o a (wpCalm P ops W Q rest) else wpCalm P ops W Q rest (a.put o.dst undef)
theorem YO {Q:Act->Prop} {a:Act} (h:Q a):wpCalm P ops W Q [] a:=h
theorem YH {Q:Act->Prop} {a:Act} {o:Oper} {rest:List Oper} (h:∀K:Act->Prop,(∀a,wpCalm P ops W Q rest a->K a)->if Region.wanted o (yielded ops a.tmps) then calm1 P W o a K else K (a.put o.dst undef)):wpCalm P ops W Q (o::rest) a:=
 h _ λ_ h=>h
def cOp (P:Program) (ops:Array Oper) (W:World) (i:Nat) (K:Act->Prop) (a:Act):Prop:=
 match ops[i]? with
 |none=>K a
 |some o=>if Region.wanted o (yielded ops a.tmps) then calm1 P W o a K else K (a.put o.dst undef)
theorem Zem {i:Nat} {a:Act} {K A:Act->Prop} (h:∀a,K a->A a) (j:cOp P ops W i K a):cOp P ops W i A a:=by
 unfold cOp at*;cases ho:ops[i]? with
 |none=>rw[ho] at j;exact h _ j
 |some o=>
  rw[ho] at j;simp only at j|-;by_cases C:Region.wanted o (yielded ops a.tmps)=true
  ·rw[Zi C] at j|-;obtain ⟨v,D,F⟩:=j;exact ⟨v,D,h _ F⟩
  ·rw[Zf C] at j|-;exact h _ j
def YC (P:Program) (ops:Array Oper) (W:World) (o:Oper) (v:Value) (a:Act):Prop:=
 (Region.wanted o (yielded ops a.tmps)=true/\yields1 P W o a v)\/(Region.wanted o (yielded ops a.tmps)=false/\v=undef)
theorem YC.cOp {i:Nat} {o:Oper} {v:Value} {a:Act} (A:ops[i]? =some o) (D:YC P ops W o v a) {K:Act->Prop} (h:K (a.put o.dst v)):cOp P ops W i K a:=by
 unfold Go.Proofs.YthlnaldahkgjnaaGreatDoor.cOp;rw[A];simp only;rcases D with ⟨j,C⟩|⟨j,rfl⟩
 ·rw[Zi j];exact ⟨v,C,h⟩
 ·rw[Zf (by simp[j])];exact h
theorem YC.of_same {o:Oper} {v:Value} {a a':Act} (A:YC P ops W o v a) (h:execOp a'.eval o=execOp a.eval o)
 (j:Region.wanted o (yielded ops a'.tmps)=Region.wanted o (yielded ops a.tmps)):YC P ops W o v a':=by
 unfold YC yields1 Oper.quietAt at*;rw[h,j];exact A
theorem EM {i:Nat} {o:Oper} {a:Act} {K:Act->Prop} (D:ops[i]? =some o) (h:cOp P ops W i K a):∃v,YC P ops W o v a/\K (a.put o.dst v):=by
 unfold cOp at h;rw[D] at h;simp only at h;by_cases j:Region.wanted o (yielded ops a.tmps)=true
 ·rw[Zi j] at h;obtain ⟨v,A,C⟩:=h;exact ⟨v,.inl ⟨j,A⟩,C⟩
 ·rw[Zf j] at h;exact ⟨undef,.inr ⟨by simpa using j,rfl⟩,h⟩
theorem ZfO {j:Nat} {oi oj:Oper} {v:Value} (I:ops[j]? =some oj) (A:oi.apart ops oj=true)
 (C:∀cs b,oi.op≠ .select cs b) (D:∀cs b,oj.op≠ .select cs b) {K:Act->Prop} {a:Act}
 (Q:YC P ops W oi v a) (h:cOp P ops W j K (a.put oi.dst v)):cOp P ops W j (λa'=>YC P ops W oi v a'/\K (a'.put oi.dst v)) a:=by
 obtain ⟨G,J,H⟩:=Oper.apart_spec A;obtain ⟨u,O,hK⟩:=EM I h;have F:YC P ops W oj u a:=O.of_same (execOp_put oj D a oi.dst v G).symm (wanted_put oj a oi.dst v G).symm;refine F.cOp I ⟨Q.of_same (execOp_put oi C a oj.dst u H) (wanted_put oi a oj.dst u H),?_⟩;rw[<-Act.put_comm a v u J];exact hK
end
section
variable {P:Program} {ops:Array Oper} {md:Region.Mode} {W:World} {p n:Nat} {d:Option Tmp}
def anyD (P:Program) (md:Region.Mode) (ops:Array Oper) (W:World) (p n:Nat) (d:Option Tmp) (L:Array Bool->Option Nat->Act->Prop):Nat->Array Bool->Option Nat->Act->Prop
 |0,listed,gs,a=>L listed gs a
 |f+1,listed,gs,a=>Region.ready md ops listed≠ []/\∀i∈Region.ready md ops listed,i<n/\
  ((i=p->∀g,W.heap.size<=g->anyD P md ops W p n d L f (listed.setIfInBounds p true) (some g) (a.put d (.pointer (some ⟨g,0,none⟩))))/\
   (i≠p->cOp P ops W i (anyD P md ops W p n d L f (listed.setIfInBounds i true) gs) a))
def blkOf (B:Nat) (O:Obj) (w:World):Option Nat->Prop
 |none=>True
 |some g=>B<=g/\w.heap[g]? =some O
theorem ZbD {i:Nat} {oi op:Oper} {v:Value} {L:Array Bool->Option Nat->Act->Prop} (hi:ops[i]? =some oi) (hp:p<ops.size->ops[p]? =some op) (hd:p<ops.size->op.dst=d) (hf:i≠p)
 (G:∀(j:Nat) (o:Oper) cs b,ops[j]? =some o->o.op≠ .select cs b)
 (hs:Region.sinkB md ops n=true) (hc:Region.chainB md ops n=true) (hn:n<ops.size) (ha:i<n)
 (U:∀listed gs a,L listed gs a->∀j∈Region.ready md ops listed,n<=j):
 ∀(f:Nat) (listed:Array Bool) (gs:Option Nat) (a:Act),HeadInv md ops n listed->
  (∀j oj,ops[j]? =some oj->j≠i->listed.getD j true=false->(∀e∈oj.after,Region.binds md e=true->e.on≠i)->oi.apart ops oj=true)->
  i∈Region.ready md ops listed->YC P ops W oi v a->
  anyD P md ops W p n d L f (listed.setIfInBounds i true) gs (a.put oi.dst v)->anyD P md ops W p n d L (f+1) listed gs a:=by
 intro f
 induction f with
 |zero=>
  intro listed gs a inv _ K hy H;have O:=(IH.1 K).1;refine ⟨λh=>(by rw[h] at K;cases K),λj I=> ?_⟩;have D:j<n:=by
   rcases YG j n with h|h
   ·exact h
   ·exact absurd I (tail_waits hs hc hn inv _ i rfl ha O j h)
  have key:j=i:=by
   rcases Nat.decEq j i with h|h
   ·have Q:=U _ _ _ H j (Jc I h);omega
   ·exact h
  exact ⟨D,λh=>absurd (key.symm.trans h) hf,λ_=>by subst key;exact hy.cOp hi H⟩
 |succ f ih=>
  intro listed gs a inv F K hy H;have O:=(IH.1 K).1;refine ⟨λh=>(by rw[h] at K;cases K),λj I=> ?_⟩;have D:j<n:=by
   rcases YG j n with h|h
   ·exact h
   ·exact absurd I (tail_waits hs hc hn inv _ i rfl ha O j h)
  obtain ⟨R,oj,J,X⟩:=IH.1 I;have hm:∀e∈oj.after,Region.binds md e=true->e.on≠i:=λe he hb ho=>by have Q:=X e he hb;rw[ho,getD_both O] at Q;cases Q
  have C:∀k ok,ops[k]? =some ok->k≠i->(listed.setIfInBounds j true).getD k true=false->(∀e∈ok.after,Region.binds md e=true->e.on≠i)->oi.apart ops ok=true:=λk ok hk hq S ht=>by
   refine F k ok hk hq ?_ ht;by_cases hh:j=k
   ·subst hh;exact R
   ·rw[UB true hh] at S;exact S
  by_cases A:j=i
  ·subst A;exact ⟨D,λh=>absurd h hf,λ_=>hy.cOp hi H⟩
  ·have Y:=F j oj J A R hm;have Z:(listed.setIfInBounds i true).setIfInBounds j true=(listed.setIfInBounds j true).setIfInBounds i true:=(ZfM _ _ A).symm;refine ⟨D,λV=> ?_,λV=> ?_⟩
   ·subst V;intro g hg;have Q:=((H.2 j (Jc I A)).2.1 rfl) g hg;rw[Z] at Q;have hl:j<ops.size:=(by omega);have hu:oj=op:=Ys (J.symm.trans (hp hl));obtain ⟨_,q2,q3⟩:=Oper.apart_spec Y;rw[hu,hd hl] at q2 q3;refine ih _ _ _ (inv.set I D) C (Jc K (Ne.symm A)) (hy.of_same (execOp_put oi (λcs b=>G i oi cs b hi) a d _ q3) (wanted_put oi a d _ q3)) ?_;rw[<-Act.put_comm a _ _ q2];exact Q
   ·have Q:=(H.2 j (Jc I A)).2.2 V;have h2:=ZfO J Y (λcs b=>G i oi cs b hi) (λcs b=>G j oj cs b J) hy Q;refine Zem (λa' h3=>ih _ _ a' (inv.set I D) C (Jc K (Ne.symm A)) h3.1 ?_) h2;rw[<-Z];exact h3.2
def setFrom:Nat->Nat->Array Bool->Array Bool
 |0,_,x=>x
 |f+1,k,x=>setFrom f (k+1) (x.setIfInBounds k true)
def lexQ (md:Region.Mode) (ops:Array Oper):Nat->Nat->Array Bool->Bool
 |0,_,_=>true
 |f+1,k,listed=>(Region.ready md ops listed).contains k && Region.free md ops listed k && lexQ md ops f (k+1) (listed.setIfInBounds k true)
theorem Kf {op:Oper} {Qh:Act->Prop} {L:Array Bool->Option Nat->Act->Prop} (O:p<ops.size->ops[p]? =some op) (J:p<ops.size->op.dst=d)
 (C:Region.noSelect ops=true) (Q:Region.sinkB md ops n=true) (I:Region.chainB md ops n=true) (K:n<ops.size)
 (A:∀listed gs a,L listed gs a->∀j∈Region.ready md ops listed,n<=j) (m:Nat):
 ∀(l:List Oper) (k:Nat) (listed:Array Bool) (a:Act),(∀j,j<l.length->l[j]? =ops[k+j]?)->k+l.length<=n->(p<k\/k+l.length<=p)->HeadInv md ops n listed->
 lexQ md ops l.length k listed=true->wpCalm P ops W Qh l a->(∀a',HeadInv md ops n (setFrom l.length k listed)->Qh a'->anyD P md ops W p n d L m (setFrom l.length k listed) none a')->
 anyD P md ops W p n d L (l.length+m) listed none a
 | [],k,listed,a,_,_,_,inv,_,h,hend=>by rw[ZF,Yf];exact hend a inv h
 |o::l,k,listed,a,hl,hk,hpk,inv,hB,h,hend=>by
  have F:ops[k]? =some o:=by simpa using (hl 0 (by simp)).symm
  simp only[Zr] at hk hpk;simp only[Zr,lexQ,ZU] at hB;obtain ⟨⟨S,R⟩,G⟩:=hB;have D:k∈Region.ready md ops listed:=by simpa using S
  have H:cOp P ops W k (wpCalm P ops W Qh l) a:=by unfold cOp;simp only[F];exact h
  obtain ⟨v,U,hK⟩:=EM F H;rw[Zr,show l.length+1+m=(l.length+m)+1 by omega];exact ZbD F O J (by omega) (Region.noSelect_spec C) Q I K (by omega) A _ listed none a inv (Region.free_spec F R) D U
   (Kf O J C Q I K A m l (k+1) _ _ (λj V=>by have:=hl (j+1) (by simp;omega);simpa [Nat.add_assoc,Nat.add_comm 1 j] using this) (by omega) (by omega) (inv.set D (by omega)) G hK hend)
theorem V9 {O:Obj} {op:Oper} {g:Nat} {L:Array Bool->Option Nat->Act->Prop} {Q':Exit->Act->World->Prop} (hp:p<ops.size->ops[p]? =some op)
 (A:p<ops.size->∀(a:Act) (w:World) (K:Act->World->Prop),K (a.put d (.pointer (some ⟨w.heap.size,0,none⟩))) (w.alloc O)->if Region.wanted op (yielded ops a.tmps)=true then op.wp P a w K Q' else K (a.put op.dst undef) w)
 (Z:∀listed gs a w,Ext W w->blkOf W.heap.size O w gs->L listed gs a->wpAny P md ops Q' g listed a w) (f:Nat):
 ∀(listed:Array Bool) (gs:Option Nat) (a:Act) (w:World),Ext W w->blkOf W.heap.size O w gs->anyD P md ops W p n d L f listed gs a->wpAny P md ops Q' (f+g) listed a w:=by
 induction f with
 |zero=>intro listed gs a w C G h;rw[Yf];exact Z _ _ _ _ C G h
 |succ f ih=>
  intro listed gs a w C G h;rw[show f+1+g=(f+g)+1 by omega];refine ⟨λV=>absurd V h.1,λi U=> ?_⟩;obtain ⟨ha,X,Y⟩:=h.2 i U;by_cases I:i=p
  ·subst I;obtain ⟨_,oi,S,_⟩:=IH.1 U;have J:i<ops.size:=(Ze.1 S).1;have j:=ih _ _ _ (w.alloc O) (C.alloc O) (show blkOf W.heap.size O (w.alloc O) (some w.heap.size) from ⟨C.size,Zh w O⟩) (X rfl w.heap.size C.size);have R:=A J a w (wpAny P md ops Q' (f+g) (listed.setIfInBounds i true)) j;unfold wpOp;rw[hp J];simp only;split at R
   ·rename_i H;rw[Zi H];exact Or.inl R
   ·rename_i H;rw[Zf H];exact R
  ·have j:=Y I;unfold cOp at j;unfold wpOp;cases ho:ops[i]? with
   |none=>rw[ho] at j;exact ih _ _ _ _ C G j
   |some o=>
    rw[ho] at j;simp only at j|-;by_cases H:Region.wanted o (yielded ops a.tmps)=true
    ·rw[Zi H] at j|-;obtain ⟨v,q1,q2⟩:=j;left;have D:∀F,Ext w F->blkOf W.heap.size O F gs:=by
      intro F Q;cases gs with
      |none=>trivial
      |some g=>exact ⟨G.1,Q.heap G.2⟩
     refine IS (q1 ⟨w,C⟩) ⟨⟨w,Ext.refl w⟩,rfl⟩ ?_;rintro _ ⟨e,rfl⟩;exact ih _ _ _ _ (C.trans e.ext) (D _ e.ext) q2
    ·rw[Zf H] at j|-;exact ih _ _ _ _ C G j
theorem ZP {f:FuncId} {args:Array Value} {w:World} {v:Value} (h:Calls P f args w λe w'=>e= .returned v/\Ext w w'):Calls P f args w λe w'=>e= .returned v/\∃e:Aft w,w'=e.w:=
 h.mono λ_ w' ⟨A,j⟩=>⟨A,⟨w',j⟩,rfl⟩
theorem Iw {id:Nat} {Q:Exit->Act->World->Prop} {a:Act} {W:World} {l:List Oper} (n:Nat) (hm:P.follows .mixedOrders=true)
 (hB:(Region.noSelect l.toArray && decide (n<l.length) && Region.sinkB .any l.toArray n && Region.chainB .any l.toArray n && lexQ .any l.toArray n 0 (Array.replicate l.length false) && Region.seqB .any l.toArray (l.length - n) n (setFrom n 0 (Array.replicate l.length false)))=true)
 (h:wpCalm P l.toArray W (λa'=>∀c:Aft W,wpList P l.toArray Q (l.drop n) a' c.w) (l.take n) a):(Code.region id l.toArray true).wp P Q a W:=by
 simp only[ZU,Z6] at hB;obtain ⟨⟨⟨⟨⟨b1,b2⟩,b3⟩,b4⟩,b5⟩,b6⟩:=hB;have htl:(l.take n).length=n:=by simp;omega
 have inv0:HeadInv .any l.toArray n (Array.replicate l.length false):=
  ⟨by simp,λj oj _ hl=>(by rw[getD_replicate_false] at hl;cases hl),λt _ ht=>getD_in (by simpa using ht) (getD_replicate_false _ _)⟩
 have hL := Kf (P := P) (W := W) (md := .any) (ops := l.toArray) (p := l.length) (n := n) (d := none) (op := ⟨none, .move (.const undef), 0, "", #[], none⟩)
  (Qh:=λa'=>∀c:Aft W,wpList P l.toArray Q (l.drop n) a' c.w)
  (L:=λlisted _ a'=>Region.seqB .any l.toArray (l.length - n) n listed=true/\∀c:Aft W,wpList P l.toArray Q (l.drop n) a' c.w)
  (λh=>by simp at h) (λh=>by simp at h) b1 b3 b4 (by simpa using b2) (λlisted _ a' hl=>seqB_ready hl.1) 0 (l.take n) 0 _ a
  (λj hj=>by rw[htl] at hj;simp[hj]) (by rw[htl];omega) (Or.inr (by rw[htl];omega)) inv0 (by rw[htl];exact b5) h
  (λa' _ hq=>⟨by rw[htl];exact b6,hq⟩)
 have h2 := V9 (O := .cells #[] 0) (g := l.length - n) (Q' := Q) (op := ⟨none, .move (.const undef), 0, "", #[], none⟩) (fun h => by simp at h) (fun h => by simp at h)
  (λlisted gs a' w' hx _ hl=>by
   have:=wpAny_of_seq (P:=P) (md:= .any) (Q':=Q) (l.drop n) n listed a' w' (λj=>by simp[List.getElem?_drop]) (by rw[ZL];exact hl.1) (hl.2 ⟨w',hx⟩)
   rwa [ZL] at this) _ _ none a W.drew (Ext.refl W).drew trivial hL
 refine wp_region_any hm ?_;rw[htl,show n+0+(l.length - n)=l.toArray.size by simp;omega] at h2;simpa using h2
theorem Yy {id:Nat} {Q:Exit->Act->World->Prop} {a:Act} {W:World} {l:List Oper} (p:Nat) (O:Obj) (op:Oper) (hm:P.follows .mixedOrders=true) (F:l[p]? =some op)
 (U:(Region.noSelect l.toArray && decide (p+1<l.length) && Region.sinkB .any l.toArray (p+1) && Region.chainB .any l.toArray (p+1) && lexQ .any l.toArray p 0 (Array.replicate l.length false) &&
  decide (Region.ready .any l.toArray (setFrom p 0 (Array.replicate l.length false))= [p]) && Region.seqB .any l.toArray (l.length - (p+1)) (p+1) ((setFrom p 0 (Array.replicate l.length false)).setIfInBounds p true))=true)
 (C:∀(a:Act) (w:World) (K:Act->World->Prop),K (a.put op.dst (.pointer (some ⟨w.heap.size,0,none⟩))) (w.alloc O)->if Region.wanted op (yielded l.toArray a.tmps)=true then op.wp P a w K Q else K (a.put op.dst undef) w)
 (h:wpCalm P l.toArray W (λa'=>∀(g:Nat) (c:Aft W),W.heap.size<=g->c.w.heap[g]? =some O->wpList P l.toArray Q (l.drop (p+1)) (a'.put op.dst (.pointer (some ⟨g,0,none⟩))) c.w) (l.take p) a):(Code.region id l.toArray true).wp P Q a W:=by
 simp only[ZU,Z6] at U;obtain ⟨⟨⟨⟨⟨⟨b1,b2⟩,b3⟩,b4⟩,b5⟩,S⟩,b7⟩:=U;have A:(l.take p).length=p:=by simp;omega
 have G:HeadInv .any l.toArray (p+1) (Array.replicate l.length false):=
  ⟨by simp,λj oj _ D=>(by rw[getD_replicate_false] at D;cases D),λt _ ht=>getD_in (by simpa using ht) (getD_replicate_false _ _)⟩
 have hL:=Kf (P:=P) (W:=W) (md:= .any) (ops:=l.toArray) (p:=p) (n:=p+1) (d:=op.dst) (op:=op)
  (Qh:=λa'=>∀(g:Nat) (c:Aft W),W.heap.size<=g->c.w.heap[g]? =some O->wpList P l.toArray Q (l.drop (p+1)) (a'.put op.dst (.pointer (some ⟨g,0,none⟩))) c.w)
  (L:=λlisted gs a'=>Region.seqB .any l.toArray (l.length - (p+1)) (p+1) listed=true/\∃g,gs=some g/\∀c:Aft W,W.heap.size<=g->c.w.heap[g]? =some O->wpList P l.toArray Q (l.drop (p+1)) a' c.w)
  (λ_=>by simpa using F) (λ_=>rfl) b1 b3 b4 (by simpa using b2) (λlisted _ a' D=>seqB_ready D.1) 1 (l.take p) 0 _ a
  (λj Z=>by rw[A] at Z;simp[Z]) (by rw[A];omega) (Or.inr (by rw[A];omega)) G (by rw[A];exact b5) h
  (λa' _ R=>by
   rw[A]
   refine ⟨by rw[S];simp,λi Y=> ?_⟩
   rw[S] at Y
   have I:i=p:=(by simpa using Y)
   exact ⟨by omega,λ_ g X=>⟨b7,g,rfl,λc h1 H=>R g c h1 H⟩,λJ=>absurd I J⟩)
 have H:=V9 (O:=O) (g:=l.length - (p+1)) (Q':=Q) (op:=op) (λ_=>by simpa using F) (λ_=>C)
  (λlisted gs a' w' hx V D=>by
   obtain ⟨R,g,rfl,X⟩:=D
   have:=wpAny_of_seq (P:=P) (md:= .any) (Q':=Q) (l.drop (p+1)) (p+1) listed a' w' (λj=>by simp[List.getElem?_drop]) (by rw[ZL];exact R) (X ⟨w',hx⟩ V.1 V.2)
   rwa [ZL] at this) _ _ none a W.drew (Ext.refl W).drew trivial hL
 refine wp_region_any hm ?_;rw[A,show p+1+(l.length - (p+1))=l.toArray.size by simp;omega] at H;simpa using H
end
end
section
section
variable {P:Program} {ops:Array Oper} {md:Region.Mode} {W:World} {n x:Nat}
def seqL (md:Region.Mode) (ops:Array Oper):List Nat->Array Bool->Bool
 | [],listed=>(Region.ready md ops listed).isEmpty
 |t::ts,listed=>decide (Region.ready md ops listed= [t]) && seqL md ops ts (listed.setIfInBounds t true)
def AtIx (l:List Oper):List Nat->List Oper->Prop
 | [],[]=>True
 |t::ts,o::tl=>l[t]? =some o/\AtIx l ts tl
 |_,_=>False
theorem AtIx.nil {l:List Oper}:AtIx l [] []:=trivial
theorem AtIx.cons {l:List Oper} {t:Nat} {ts:List Nat} {o:Oper} {tl:List Oper} (h:l[t]? =some o) (r:AtIx l ts tl):AtIx l (t::ts) (o::tl):=⟨h,r⟩
theorem Qa {l:List Oper} {Q':Exit->Act->World->Prop}:∀(ts:List Nat) (tl:List Oper) (listed:Array Bool) (a:Act) (w:World),AtIx l ts tl->
 seqL md l.toArray ts listed=true->wpList P l.toArray Q' tl a w->wpAny P md l.toArray Q' ts.length listed a w
 | [],[],_,_,_,_,hB,h=>⟨by simpa [seqL] using hB,h⟩
 | [],_::_,_,_,_,hl,_,_=>hl.elim
 |_::_,[],_,_,_,hl,_,_=>hl.elim
 |t::ts,o::tl,listed,a,w,hl,hB,h=>by
  simp only[seqL,ZU,Z6] at hB;refine ⟨λA=>(by rw[hB.1] at A;cases A),λi C=> ?_⟩;rw[hB.1] at C;have j:i=t:=by simpa using C
  subst j;have F:l.toArray[i]? =some o:=by rw[YE];exact hl.1
  have G:wpOp P l.toArray Q' i (wpList P l.toArray Q' tl) a w:=by unfold wpOp;simp only[F];exact h
  exact IR (λa' w' D=>Qa ts tl _ a' w' hl.2 hB.2 D) G
end
end
section
section
variable {P:Program} {ops:Array Oper} {md:Region.Mode} {Q:Exit→Act→World→Prop} {S:World→Prop} {t:Nat}
def wpAnyT (P:Program) (md:Region.Mode) (ops:Array Oper) (Q:Exit->Act->World->Prop) (S:World->Prop) (t:Nat):Nat->Array Bool->Act->World->Prop
 |0,listed,a,w=>Region.ready md ops listed= []/\Q .normal a w
 |f+1,listed,a,w=>(Region.ready md ops listed= []->Q .normal a w)/\
  ∀i∈Region.ready md ops listed,wpOp P ops Q i (λa' w'=>((listed.setIfInBounds i true).getD t true=false->S w')/\wpAnyT P md ops Q S t f (listed.setIfInBounds i true) a' w') a w
theorem Iv:∀(f:Nat) (listed:Array Bool) (a:Act) (w:World),wpAnyT P md ops Q S t f listed a w->wpAny P md ops Q f listed a w
 |0,_,_,_,h=>h
 |f+1,_,_,_,h=>⟨h.1,λi A=>IR (λa' w' j=>Iv f _ a' w' j.2) (h.2 i A)⟩
theorem V8:∀(f:Nat) (listed:Array Bool) (a:Act) (w:World),listed.getD t true=true->wpAny P md ops Q f listed a w->wpAnyT P md ops Q S t f listed a w
 |0,_,_,_,_,h=>h
 |f+1,listed,_,_,ht,h=>⟨h.1,λi F=>IR (λa' w' D=>by
  have C:(listed.setIfInBounds i true).getD t true=true:=by
   by_cases A:i=t
   ·subst A
    rcases YG i listed.size with j|j
    ·simp[j]
    ·simp[j]
   ·rw[UB true A];exact ht
  exact ⟨λj=>(by rw[C] at j;cases j),V8 f _ a' w' C D⟩) (h.2 i F)⟩
theorem GE {i:Nat} {oi:Oper} {v:Value} (hi:ops[i]? =some oi) (J:∀(j:Nat) (o:Oper) cs b,ops[j]? =some o->o.op≠ .select cs b)
 (hQ:∀c a w,Q (.panic c) (a.put oi.dst v) w->Q (.panic c) a w) (hc:i≠t) (hl:∀ot,ops[t]? =some ot->∃e∈ot.after,Region.binds md e=true/\e.on=i):
 ∀(fuel:Nat) (listed:Array Bool) (a:Act) (w:World),listed.getD t true=false->
  (∀j oj,ops[j]? =some oj->j≠i->listed.getD j true=false->(∀e∈oj.after,Region.binds md e=true->e.on≠i)->oi.apart ops oj=true)->
  i∈Region.ready md ops listed->YieldsIf P ops S oi v a->S w->
  wpAnyT P md ops Q S t fuel (listed.setIfInBounds i true) (a.put oi.dst v) w->wpAny P md ops Q (fuel+1) listed a w:=by
 intro fuel
 induction fuel with
 |zero=>
  intro listed a w _ _ O hy hS H;refine ⟨λh=>(by rw[h] at O;cases O),λj hj=> ?_⟩;by_cases A:j=i
  ·subst A;exact hy.wpOp hi hS H
  ·have:=Jc hj A;rw[H.1] at this;cases this
 |succ fuel ih=>
  intro listed a w X C O hy hS H;refine ⟨λh=>(by rw[h] at O;cases O),λj hj=> ?_⟩;by_cases A:j=i
  ·subst A;exact hy.wpOp hi hS (Iv _ _ _ _ H)
  ·have h1:=H.2 j (Jc hj A);obtain ⟨G,oj,F,R⟩:=IH.1 hj;have hh:=(IH.1 O).1;have I:∀e∈oj.after,Region.binds md e=true->e.on≠i:=λe he hb ha=>(by have h1:=R e he hb;rw[ha,getD_both hh] at h1;cases h1);have V:j≠t:=λe=>(by subst e;obtain ⟨e,he,hb,hg⟩:=hl oj F;exact I e he hb hg);have h2:=wpOp_putIf F (C j oj F A G I) (λcs b=>J i oi cs b hi) (λcs b=>J j oj cs b F) hQ hy h1;have D:∀k ok,ops[k]? =some ok->k≠i->(listed.setIfInBounds j true).getD k true=false->
    (∀e∈ok.after,Region.binds md e=true->e.on≠i)->oi.apart ops ok=true:=λk ok hk hd K hf=>by
    refine C k ok hk hd ?_ hf
    by_cases U:j=k
    ·subst U;exact G
    ·rw[UB true U] at K;exact K
   have Y:(listed.setIfInBounds j true).getD t true=false:=(by rw[UB true V];exact X);have Z:((listed.setIfInBounds i true).setIfInBounds j true).getD t true=false:=(by rw[UB true V,UB true hc];exact X);refine IR (λa' w' h3=>ih (listed.setIfInBounds j true) a' w' Y D (Jc O (Ne.symm A)) h3.1 (h3.2.1 Z) ?_) h2;rw[ZfM _ _ A];exact h3.2.2
theorem G1 {l:List Oper} {i:Nat} {oi:Oper} {v:Value} {fuel:Nat} {listed:Array Bool} {a:Act} {w:World} (C:l[i]? =some oi)
 (j:(Region.noSelect l.toArray && Region.free md l.toArray listed i && (Region.ready md l.toArray listed).contains i)=true)
 (A:∀c a w,Q (.panic c) (a.put oi.dst v) w->Q (.panic c) a w) (D:Yields P l.toArray oi v a)
 (h:wpAny P md l.toArray Q fuel (listed.setIfInBounds i true) (a.put oi.dst v) w):wpAny P md l.toArray Q (fuel+1) listed a w:=by
 simp only[ZU] at j;exact wpAny_take (by rw[YE];exact C) j.1.1 j.1.2 j.2 A D h
theorem X8 {l:List Oper} {i:Nat} {oi:Oper} {v:Value} {fuel:Nat} {listed:Array Bool} {a:Act} {w:World} (S:World->Prop) (t:Nat) (j:l[i]? =some oi)
 (G:(Region.noSelect l.toArray && decide (i≠t) && Region.waitsFor md l.toArray t i && !listed.getD t true && Region.free md l.toArray listed i && (Region.ready md l.toArray listed).contains i)=true)
 (V:∀c a w,Q (.panic c) (a.put oi.dst v) w->Q (.panic c) a w) (hy:YieldsIf P l.toArray S oi v a) (X:S w)
 (h:wpAnyT P md l.toArray Q S t fuel (listed.setIfInBounds i true) (a.put oi.dst v) w):wpAny P md l.toArray Q (fuel+1) listed a w:=by
 have H:l.toArray[i]? =some oi:=by rw[YE];exact j
 simp only[ZU,Z6,Bool.not_eq_true'] at G;obtain ⟨⟨⟨⟨⟨I,J⟩,K⟩,O⟩,R⟩,U⟩:=G;obtain ⟨ot,D,e,Z,Y,C⟩:=Region.waitsFor_spec K;exact GE H (Region.noSelect_spec I) V J (λF A=>by
  have:F=ot:=Ys (A.symm.trans D);subst this;exact ⟨e,Z,Y,C⟩) fuel listed a w O (Region.free_spec H R) (by simpa using U) hy X h
def wpListS (P:Program) (ops:Array Oper) (Q:Exit->Act->World->Prop) (S:World->Prop) (post:List Oper):List Oper->Act->World->Prop
 | [],a,w=>wpList P ops Q post a w
 |o::tl,a,w=>if Region.wanted o (yielded ops a.tmps) then Oper.wp P o a w (λa' w'=>S w'/\wpListS P ops Q S post tl a' w') Q else S w/\wpListS P ops Q S post tl (a.put o.dst undef) w
theorem ZbA {post:List Oper} {a:Act} {w:World} (h:wpList P ops Q post a w):wpListS P ops Q S post [] a w:=h
theorem Jo {post tl:List Oper} {o:Oper} {a:Act} {w:World} (h:∀K:Act->World->Prop,(∀a' w',S w'->wpListS P ops Q S post tl a' w'->K a' w')->if Region.wanted o (yielded ops a.tmps) then Oper.wp P o a w K Q else K (a.put o.dst undef) w):wpListS P ops Q S post (o::tl) a w:=
 h (λa' w'=>S w'/\wpListS P ops Q S post tl a' w') λ_ _ j A=>⟨j,A⟩
theorem GZ {l:List Oper} (t:Nat) (G:List Nat) {post:List Oper} (C:AtIx l (t::G) post):∀(ts:List Nat) (tl:List Oper) (listed:Array Bool) (a:Act) (w:World),AtIx l ts tl->
 seqL md l.toArray (ts++(t::G)) listed=true->wpListS P l.toArray Q S post tl a w->wpAnyT P md l.toArray Q S t (ts.length+(G.length+1)) listed a w
 | [],[],listed,a,w,_,hB,h=>by
  match post,C with
  |o::post',C=>
   simp only[YF,seqL,ZU,Z6] at hB;rw[ZF,Yf];refine ⟨λA=>(by rw[hB.1] at A;cases A),λi H=> ?_⟩;rw[hB.1] at H;have D:i=t:=(by simpa using H);subst D;have K:l.toArray[i]? =some o:=(by rw[YE];exact C.1);have F:wpOp P l.toArray Q i (wpList P l.toArray Q post') a w:=(by unfold wpOp;simp only[K];exact h);refine IR (λa' w' J=> ?_) F;have I:(listed.setIfInBounds i true).getD i true=true:=by
    rcases YG i listed.size with A|A
    ·simp[A]
    ·simp[A]
   exact ⟨λA=>(by rw[I] at A;cases A),V8 _ _ a' w' I (Qa G post' _ a' w' C.2 hB.2 J)⟩
 | [],_::_,_,_,_,hl,_,_=>hl.elim
 |_::_,[],_,_,_,hl,_,_=>hl.elim
 |j::ts,o::tl,listed,a,w,hl,hB,h=>by
  simp only[X6,seqL,ZU,Z6] at hB;rw[Zr,show ts.length+1+(G.length+1)=(ts.length+(G.length+1))+1 by omega];refine ⟨λA=>(by rw[hB.1] at A;cases A),λi H=> ?_⟩;rw[hB.1] at H;have D:i=j:=by simpa using H
  subst D;have K:l.toArray[i]? =some o:=by rw[YE];exact hl.1
  have F:wpOp P l.toArray Q i (λa' w'=>S w'/\wpListS P l.toArray Q S post tl a' w') a w:=by
   unfold wpOp;simp only[K];unfold wpListS at h;split
   ·rename_i F;rw[Zi F] at h;exact Or.inl h
   ·rename_i F;rw[Zf F] at h;exact h
  exact IR (λa' w' J=>⟨λ_=>J.1,GZ t G C ts tl _ a' w' hl.2 hB.2 J.2⟩) F
end
end
section
section
variable {P:Program} {md:Region.Mode} {Q:Exit→Act→World→Prop} {S:World→Prop}
theorem Ge {ops:Array Oper} {t i:Nat} {oi:Oper} {v:Value} (hi:ops[i]? =some oi) (J:∀(j:Nat) (o:Oper) cs b,ops[j]? =some o->o.op≠ .select cs b)
 (hQ:∀c a w,Q (.panic c) (a.put oi.dst v) w->Q (.panic c) a w) (hd:i≠t) (hm:∀ot,ops[t]? =some ot->∃e∈ot.after,Region.binds md e=true/\e.on=i):
 ∀(fuel:Nat) (listed:Array Bool) (a:Act) (w:World),listed.getD t true=false->
  (∀j oj,ops[j]? =some oj->j≠i->listed.getD j true=false->(∀e∈oj.after,Region.binds md e=true->e.on≠i)->oi.apart ops oj=true)->
  i∈Region.ready md ops listed->YieldsIf P ops S oi v a->S w->
  wpAnyT P md ops Q S t fuel (listed.setIfInBounds i true) (a.put oi.dst v) w->wpAnyT P md ops Q S t (fuel+1) listed a w:=by
 intro fuel
 induction fuel with
 |zero=>
  intro listed a w _ _ R hy U H;refine ⟨λh=>(by rw[h] at R;cases R),λj hj=> ?_⟩;by_cases A:j=i
  ·subst A;exact hy.wpOp hi U ⟨λ_=>U,H⟩
  ·have:=Jc hj A;rw[H.1] at this;cases this
 |succ fuel ih=>
  intro listed a w Z C R hy U H;refine ⟨λh=>(by rw[h] at R;cases R),λj hj=> ?_⟩;by_cases A:j=i
  ·subst A;exact hy.wpOp hi U ⟨λ_=>U,H⟩
  ·have h1:=H.2 j (Jc hj A);obtain ⟨G,oj,F,V⟩:=IH.1 hj;have hl:=(IH.1 R).1;have I:∀e∈oj.after,Region.binds md e=true->e.on≠i:=λe he hb hc=>(by have h1:=V e he hb;rw[hc,getD_both hl] at h1;cases h1);have Y:j≠t:=λe=>(by subst e;obtain ⟨e,he,hb,hh⟩:=hm oj F;exact I e he hb hh);have h2:=wpOp_putIf F (C j oj F A G I) (λcs b=>J i oi cs b hi) (λcs b=>J j oj cs b F) hQ hy h1;have D:∀k ok,ops[k]? =some ok->k≠i->(listed.setIfInBounds j true).getD k true=false->
    (∀e∈ok.after,Region.binds md e=true->e.on≠i)->oi.apart ops ok=true:=λk ok hk hf O hg=>by
    refine C k ok hk hf ?_ hg
    by_cases X:j=k
    ·subst X;exact G
    ·rw[UB true X] at O;exact O
   have ha:(listed.setIfInBounds j true).getD t true=false:=(by rw[UB true Y];exact Z);have K:((listed.setIfInBounds i true).setIfInBounds j true).getD t true=false:=(by rw[UB true Y,UB true hd];exact Z);refine IR (λa' w' h3=>⟨λ_=>h3.2.1 K,ih (listed.setIfInBounds j true) a' w' ha D (Jc R (Ne.symm A)) h3.1 (h3.2.1 K) ?_⟩) h2;rw[ZfM _ _ A];exact h3.2.2
theorem Zbz {l:List Oper} {i t:Nat} {oi:Oper} {v:Value} {fuel:Nat} {listed:Array Bool} {a:Act} {w:World} (j:l[i]? =some oi)
 (G:(Region.noSelect l.toArray && decide (i≠t) && Region.waitsFor md l.toArray t i && !listed.getD t true && Region.free md l.toArray listed i && (Region.ready md l.toArray listed).contains i)=true)
 (V:∀c a w,Q (.panic c) (a.put oi.dst v) w->Q (.panic c) a w) (hy:YieldsIf P l.toArray S oi v a) (X:S w)
 (h:wpAnyT P md l.toArray Q S t fuel (listed.setIfInBounds i true) (a.put oi.dst v) w):wpAnyT P md l.toArray Q S t (fuel+1) listed a w:=by
 have H:l.toArray[i]? =some oi:=by rw[YE];exact j
 simp only[ZU,Z6,Bool.not_eq_true'] at G;obtain ⟨⟨⟨⟨⟨I,J⟩,K⟩,O⟩,R⟩,U⟩:=G;obtain ⟨ot,D,e,Z,Y,C⟩:=Region.waitsFor_spec K;exact Ge H (Region.noSelect_spec I) V J (λF A=>by
  have:F=ot:=Ys (A.symm.trans D);subst this;exact ⟨e,Z,Y,C⟩) fuel listed a w O (Region.free_spec H R) (by simpa using U) hy X h
end
end
section
section
variable {P:Program} {md:Region.Mode} {Q:Exit→Act→World→Prop} {S:World→Prop}
def wpAnyS (P:Program) (md:Region.Mode) (ops:Array Oper) (Q:Exit->Act->World->Prop) (S:World->Prop):Nat->Array Bool->Act->World->Prop
 |0,listed,a,w=>Region.ready md ops listed= []/\Q .normal a w
 |f+1,listed,a,w=>(Region.ready md ops listed= []->Q .normal a w)/\
  ∀i∈Region.ready md ops listed,wpOp P ops Q i (λa' w'=>S w'/\wpAnyS P md ops Q S f (listed.setIfInBounds i true) a' w') a w
theorem Yi {ops:Array Oper} (S:World->Prop):∀{f:Nat} {listed:Array Bool} {a:Act} {w:World},wpAnyS P md ops Q S f listed a w->wpAny P md ops Q f listed a w
 |0,_,_,_,h=>h
 |_+1,_,_,_,h=>⟨h.1,λi A=>IR (λ_ _ j=>Yi S j.2) (h.2 i A)⟩
theorem Zas {ops:Array Oper} {i:Nat} {oi:Oper} {v:Value} (hi:ops[i]? =some oi) (G:∀(j:Nat) (o:Oper) cs b,ops[j]? =some o->o.op≠ .select cs b)
 (hQ:∀c a w,Q (.panic c) (a.put oi.dst v) w->Q (.panic c) a w):
 ∀(fuel:Nat) (listed:Array Bool) (a:Act) (w:World),
  (∀j oj,ops[j]? =some oj->j≠i->listed.getD j true=false->(∀e∈oj.after,Region.binds md e=true->e.on≠i)->oi.apart ops oj=true)->
  i∈Region.ready md ops listed->YieldsIf P ops S oi v a->S w->
  wpAnyS P md ops Q S fuel (listed.setIfInBounds i true) (a.put oi.dst v) w->wpAnyS P md ops Q S (fuel+1) listed a w:=by
 intro fuel
 induction fuel with
 |zero=>
  intro listed a w _ K hy O H;refine ⟨λh=>(by rw[h] at K;cases K),λj Z=> ?_⟩;by_cases A:j=i
  ·subst A;exact hy.wpOp hi O ⟨O,H⟩
  ·have:=Jc Z A;rw[H.1] at this;cases this
 |succ fuel ih=>
  intro listed a w C K hy O H;refine ⟨λh=>(by rw[h] at K;cases K),λj Z=> ?_⟩;by_cases A:j=i
  ·subst A;exact hy.wpOp hi O ⟨O,H⟩
  ·have X:=H.2 j (Jc Z A);obtain ⟨F,oj,J,R⟩:=IH.1 Z;have hf:=(IH.1 K).1;have V:∀e∈oj.after,Region.binds md e=true->e.on≠i:=λe he hb ha=>(by have X:=R e he hb;rw[ha,getD_both hf] at X;cases X);have h2:=wpOp_putIf J (C j oj J A F V) (λcs b=>G i oi cs b hi) (λcs b=>G j oj cs b J) hQ hy X;have D:∀k ok,ops[k]? =some ok->k≠i->(listed.setIfInBounds j true).getD k true=false->
    (∀e∈ok.after,Region.binds md e=true->e.on≠i)->oi.apart ops ok=true:=λk ok hk hc I hd=>by
    refine C k ok hk hc ?_ hd
    by_cases U:j=k
    ·subst U;exact F
    ·rw[UB true U] at I;exact I
   refine IR (λa' w' Y=>⟨Y.2.1,ih (listed.setIfInBounds j true) a' w' D (Jc K (Ne.symm A)) Y.1 Y.2.1 ?_⟩) h2;rw[ZfM _ _ A];exact Y.2.2
theorem JH {l:List Oper} {i:Nat} {oi:Oper} {v:Value} {fuel:Nat} {listed:Array Bool} {a:Act} {w:World} (j:l[i]? =some oi)
 (A:(Region.noSelect l.toArray && Region.free md l.toArray listed i && (Region.ready md l.toArray listed).contains i)=true)
 (H:∀c a w,Q (.panic c) (a.put oi.dst v) w->Q (.panic c) a w) (J:YieldsIf P l.toArray S oi v a) (I:S w)
 (h:wpAnyS P md l.toArray Q S fuel (listed.setIfInBounds i true) (a.put oi.dst v) w):wpAnyS P md l.toArray Q S (fuel+1) listed a w:=by
 have C:l.toArray[i]? =some oi:=by rw[YE];exact j
 simp only[ZU] at A;obtain ⟨⟨D,F⟩,G⟩:=A;exact Zas C (Region.noSelect_spec D) H fuel listed a w (Region.free_spec C F) (by simpa using G) J I h
theorem Zv {l:List Oper} {i fuel:Nat} {o:Oper} {listed:Array Bool} {a:Act} {w:World} (I:l[i]? =some o) (F:Region.ready md l.toArray listed= [i])
 (h:∀K:Act->World->Prop,(∀a' w',S w'->wpAnyS P md l.toArray Q S fuel (listed.setIfInBounds i true) a' w'->K a' w')->if Region.wanted o (yielded l.toArray a.tmps) then Oper.wp P o a w K Q else K (a.put o.dst undef) w):wpAnyS P md l.toArray Q S (fuel+1) listed a w:=by
 have A:l.toArray[i]? =some o:=by rw[YE];exact I
 have j:=h (λa' w'=>S w'/\wpAnyS P md l.toArray Q S fuel (listed.setIfInBounds i true) a' w') λ_ _ G H=>⟨G,H⟩;refine ⟨λh=>(by rw[F] at h;cases h),λk D=> ?_⟩;rw[F] at D;rw[Z8.1 D];unfold wpOp;simp only[A];split
 ·rename_i C;rw[Zi C] at j;exact Or.inl j
 ·rename_i C;rw[Zf C] at j;exact j
theorem Zcz {ops:Array Oper} {listed:Array Bool} {a:Act} {w:World} (j:Region.ready md ops listed= []) (h:wpList P ops Q [] a w):wpAnyS P md ops Q S 0 listed a w:=⟨j,h⟩
end
end
section
section
variable {P:Program} {md:Region.Mode} {Q:Exit→Act→World→Prop} {F:Array Bool→World→Prop}
def wpAnyM (P:Program) (md:Region.Mode) (ops:Array Oper) (Q:Exit->Act->World->Prop) (F:Array Bool->World->Prop):Nat->Array Bool->Act->World->Prop
 |0,listed,a,w=>Region.ready md ops listed= []/\Q .normal a w
 |f+1,listed,a,w=>(Region.ready md ops listed= []->Q .normal a w)/\
  ∀i∈Region.ready md ops listed,wpOp P ops Q i (λa' w'=>F (listed.setIfInBounds i true) w'/\wpAnyM P md ops Q F f (listed.setIfInBounds i true) a' w') a w
theorem Zby {l:List Oper} {i fuel:Nat} {o:Oper} {listed:Array Bool} {a:Act} {w:World} (J:l[i]? =some o) (G:Region.ready md l.toArray listed= [i])
 (h:∀K:Act->World->Prop,(∀a' w',F (listed.setIfInBounds i true) w'->wpAnyM P md l.toArray Q F fuel (listed.setIfInBounds i true) a' w'->K a' w')->if Region.wanted o (yielded l.toArray a.tmps) then Oper.wp P o a w K Q else K (a.put o.dst undef) w):wpAnyM P md l.toArray Q F (fuel+1) listed a w:=by
 have A:l.toArray[i]? =some o:=by rw[YE];exact J
 have j:=h (λa' w'=>F (listed.setIfInBounds i true) w'/\wpAnyM P md l.toArray Q F fuel (listed.setIfInBounds i true) a' w') λ_ _ H I=>⟨H,I⟩;refine ⟨λh=>(by rw[G] at h;cases h),λk D=> ?_⟩;rw[G] at D;rw[Z8.1 D];unfold wpOp;simp only[A];split
 ·rename_i C;rw[Zi C] at j;exact Or.inl j
 ·rename_i C;rw[Zf C] at j;exact j
end
end
section
section
variable {P:Program} {md:Region.Mode} {Q:Exit→Act→World→Prop} {S:World→Prop} {l:List Oper} {oi:Oper} {fuel:Nat} {listed:Array Bool} {a:Act} {w:World} {t:Nat}
theorem tS (i:Nat) (v:Value) (D:l[i]? =some oi) (F:∀w',S w'->(execOp a.eval oi).run P w'= .ok (.value v) w') (C:S w) (h:wpAnyS P md l.toArray Q S fuel (listed.setIfInBounds i true) (a.put oi.dst v) w)
 (j:(Region.noSelect l.toArray && Region.free md l.toArray listed i && (Region.ready md l.toArray listed).contains i)=true:=by kernel_rfl) (A:∀c a w,Q (.panic c) (a.put oi.dst v) w->Q (.panic c) a w:=by exact λ_ _ _ h=>h)
 (G:Region.wanted oi (yielded l.toArray a.tmps)=true:=by rfl):wpAnyS P md l.toArray Q S (fuel+1) listed a w:=JH (i:=i) (v:=v) D j A (Or.inl ⟨G,F⟩) C h
theorem tL (i:Nat) (v:Value) (C:l[i]? =some oi) (D:∀w',(execOp a.eval oi).run P w'= .ok (.value v) w') (h:wpAny P md l.toArray Q fuel (listed.setIfInBounds i true) (a.put oi.dst v) w)
 (j:(Region.noSelect l.toArray && Region.free md l.toArray listed i && (Region.ready md l.toArray listed).contains i)=true:=by kernel_rfl) (A:∀c a w,Q (.panic c) (a.put oi.dst v) w->Q (.panic c) a w:=by exact λ_ _ _ h=>h)
 (F:Region.wanted oi (yielded l.toArray a.tmps)=true:=by rfl):wpAny P md l.toArray Q (fuel+1) listed a w:=G1 (i:=i) (v:=v) C j A (Or.inl ⟨F,D⟩) h
theorem tT (i:Nat) (v:Value) (D:l[i]? =some oi) (F:∀w',S w'->(execOp a.eval oi).run P w'= .ok (.value v) w') (C:S w) (h:wpAnyT P md l.toArray Q S t fuel (listed.setIfInBounds i true) (a.put oi.dst v) w)
 (j:(Region.noSelect l.toArray && decide (i≠t) && Region.waitsFor md l.toArray t i && !listed.getD t true && Region.free md l.toArray listed i && (Region.ready md l.toArray listed).contains i)=true:=by kernel_rfl)
 (A:∀c a w,Q (.panic c) (a.put oi.dst v) w->Q (.panic c) a w:=by exact λ_ _ _ h=>h) (G:Region.wanted oi (yielded l.toArray a.tmps)=true:=by rfl):wpAnyT P md l.toArray Q S t (fuel+1) listed a w:=
 Zbz (i:=i) (v:=v) D j A (Or.inl ⟨G,F⟩) C h
theorem sS (i:Nat) {o:Oper} (h:∀K:Act->World->Prop,(∀a' w',S w'->wpAnyS P md l.toArray Q S fuel (listed.setIfInBounds i true) a' w'->K a' w')->if Region.wanted o (yielded l.toArray a.tmps) then Oper.wp P o a w K Q else K (a.put o.dst undef) w)
 (j:l[i]? =some o:=by exact rfl) (A:Region.ready md l.toArray listed= [i]:=by kernel_rfl):wpAnyS P md l.toArray Q S (fuel+1) listed a w:=Zv (i:=i) j A h
theorem tG (i:Nat) (v:Value) (j:S w) (h:wpAnyS P md l.toArray Q S fuel (listed.setIfInBounds i true) (a.put oi.dst v) w) (D:l[i]? =some oi:=by exact rfl)
 (F:∀w',S w'->(execOp a.eval oi).run P w'= .ok (.value v) w':=by exact λw' j=>by go_simp) (A:(Region.noSelect l.toArray && Region.free md l.toArray listed i && (Region.ready md l.toArray listed).contains i)=true:=by kernel_rfl)
 (C:∀c a w,Q (.panic c) (a.put oi.dst v) w->Q (.panic c) a w:=by exact λ_ _ _ h=>h) (G:Region.wanted oi (yielded l.toArray a.tmps)=true:=by rfl):wpAnyS P md l.toArray Q S (fuel+1) listed a w:=JH (i:=i) (v:=v) D A C (Or.inl ⟨G,F⟩) j h
theorem tH (i:Nat) (v:Value) (h:wpAny P md l.toArray Q fuel (listed.setIfInBounds i true) (a.put oi.dst v) w) (C:l[i]? =some oi:=by exact rfl) (D:∀w',(execOp a.eval oi).run P w'= .ok (.value v) w':=by exact λw=>by go_simp)
 (j:(Region.noSelect l.toArray && Region.free md l.toArray listed i && (Region.ready md l.toArray listed).contains i)=true:=by kernel_rfl) (A:∀c a w,Q (.panic c) (a.put oi.dst v) w->Q (.panic c) a w:=by exact λ_ _ _ h=>h)
 (F:Region.wanted oi (yielded l.toArray a.tmps)=true:=by rfl):wpAny P md l.toArray Q (fuel+1) listed a w:=G1 (i:=i) (v:=v) C j A (Or.inl ⟨F,D⟩) h
theorem sE {ops:Array Oper} (h:wpList P ops Q [] a w) (j:Region.ready md ops listed= []:=by kernel_rfl):wpAnyS P md ops Q S 0 listed a w:=Zcz j h
theorem mS {F:Array Bool->World->Prop} (i:Nat) {o:Oper} (h:∀K:Act->World->Prop,(∀a' w',F (listed.setIfInBounds i true) w'->wpAnyM P md l.toArray Q F fuel (listed.setIfInBounds i true) a' w'->K a' w')->if Region.wanted o (yielded l.toArray a.tmps) then Oper.wp P o a w K Q else K (a.put o.dst undef) w)
 (j:l[i]? =some o:=by exact rfl) (A:Region.ready md l.toArray listed= [i]:=by kernel_rfl):wpAnyM P md l.toArray Q F (fuel+1) listed a w:=Zby (i:=i) j A h
theorem rA {id:Nat} (h:wpQuiet P l.toArray (λw'=>∃d:Aft w,w'=d.w) (λa'=>∀w',(∃d:Aft w,w'=d.w)->Q .normal a' w') l a) (A:P.follows .mixedOrders=true:=by kernel_rfl) (j:Region.lexB .any l.toArray=true:=by kernel_rfl):(Code.region id l.toArray true).wp P Q a w:=IT A j h
theorem rN {id:Nat} {ops:Array Oper} (h:wpAny P .any ops Q ops.size (Array.replicate ops.size false) a {w with drawn:=w.drawn+1}) (j:P.follows .mixedOrders=true:=by kernel_rfl):(Code.region id ops true).wp P Q a w:=wp_region_any j h
end
end
def encN (r:Nat):List UInt8:=
 if 1114111<r\/(55296<=r/\r<=57343) then []
 else if r<128 then [UInt8.ofNat r]
 else if r<2048 then [UInt8.ofNat (192+r / 64),UInt8.ofNat (128+r % 64)]
 else if r<65536 then [UInt8.ofNat (224+r / 4096),UInt8.ofNat (128+r / 64 % 64),UInt8.ofNat (128+r % 64)]
 else [UInt8.ofNat (240+r / 262144),UInt8.ofNat (128+r / 4096 % 64),UInt8.ofNat (128+r / 64 % 64),UInt8.ofNat (128+r % 64)]
def accStart (n:Nat) (b:Nat):Nat:=if n=2 then b % 32 else if n=3 then b % 16 else if n=4 then b % 8 else b
def acc (n:Nat) (l:List UInt8):Nat->Nat
 |0=>accStart n (l.getD 0 0).toNat
 |i+1=>acc n l i*64+(l.getD (i+1) 0).toNat % 64
def refFrom:Nat->Nat->List UInt8->Nat×Nat
 |0,_,_=>(0,0)
 |k+1,n,l=>if n<=4/\n<=l.length then (if encN (acc n l (n - 1))=l.take n then (acc n l (n - 1),n) else refFrom k (n+1) l) else (0,0)
def refDec (l:List UInt8):Nat×Nat:=refFrom 4 1 l
theorem Y8 (x:UInt8):x.toNat<256:=x.toNat_lt
theorem XH (x:UInt8) (n:Nat) (h:n<256):UInt8.ofNat n=x↔n=x.toNat:=by
 constructor
 ·rintro rfl;simp[Nat.mod_eq_of_lt h]
 ·rintro rfl;simp
theorem Zev (a:UInt8):encN a.toNat= [a]↔a.toNat<128:=by
 have j:=Y8 a;unfold encN;rw[Zf (by omega)];by_cases h:a.toNat<128
 ·rw[Zi h];simp[h]
 ·rw[Zf h,Zi (by omega)];simp[h]
theorem ZgF (a b:UInt8):encN (a.toNat % 32*64+b.toNat % 64)= [a,b]↔(a.toNat / 32=6/\b.toNat / 64=2)/\128<=a.toNat % 32*64+b.toNat % 64:=by
 have j:=Y8 a;have A:=Y8 b;unfold encN;rw[Zf (by omega)];by_cases h:a.toNat % 32*64+b.toNat % 64<128
 ·rw[Zi h];simp;omega
 ·rw[Zf h,Zi (by omega)];simp only[List.cons.injEq,and_true];rw[XH _ _ (by omega),XH _ _ (by omega)];omega
theorem Zhb (a b c:UInt8):encN ((a.toNat % 16*64+b.toNat % 64)*64+c.toNat % 64)= [a,b,c]↔(a.toNat / 16=14/\b.toNat / 64=2/\c.toNat / 64=2)/\
 2048<=(a.toNat % 16*64+b.toNat % 64)*64+c.toNat % 64/\((a.toNat % 16*64+b.toNat % 64)*64+c.toNat % 64<55296\/57344<=(a.toNat % 16*64+b.toNat % 64)*64+c.toNat % 64):=by
 have C:=Y8 a;have D:=Y8 b;have F:=Y8 c;unfold encN;generalize G:(a.toNat % 16*64+b.toNat % 64)*64+c.toNat % 64=r;by_cases j:1114111<r\/(55296<=r/\r<=57343)
 ·rw[Zi j];simp;omega
 ·rw[Zf j];by_cases h:r<128
  ·rw[Zi h];simp;omega
  ·rw[Zf h];by_cases A:r<2048
   ·rw[Zi A];simp;omega
   ·rw[Zf A,Zi (by omega)];simp only[List.cons.injEq,and_true];rw[XH _ _ (by omega),XH _ _ (by omega),XH _ _ (by omega)];omega
theorem Zhm (a b c d:UInt8):encN (((a.toNat % 8*64+b.toNat % 64)*64+c.toNat % 64)*64+d.toNat % 64)= [a,b,c,d]↔(a.toNat / 8=30/\b.toNat / 64=2/\c.toNat / 64=2/\d.toNat / 64=2)/\
 65536<=((a.toNat % 8*64+b.toNat % 64)*64+c.toNat % 64)*64+d.toNat % 64/\((a.toNat % 8*64+b.toNat % 64)*64+c.toNat % 64)*64+d.toNat % 64<=1114111:=by
 have D:=Y8 a;have F:=Y8 b;have G:=Y8 c;have H:=Y8 d;unfold encN;generalize I:((a.toNat % 8*64+b.toNat % 64)*64+c.toNat % 64)*64+d.toNat % 64=r;by_cases j:1114111<r\/(55296<=r/\r<=57343)
 ·rw[Zi j];simp;omega
 ·rw[Zf j];by_cases h:r<128
  ·rw[Zi h];simp;omega
  ·rw[Zf h];by_cases A:r<2048
   ·rw[Zi A];simp;omega
   ·rw[Zf A];by_cases C:r<65536
    ·rw[Zi C];simp;omega
    ·rw[Zf C];simp only[List.cons.injEq,and_true];rw[XH _ _ (by omega),XH _ _ (by omega),XH _ _ (by omega),XH _ _ (by omega)];omega
theorem EH (l:List UInt8) (j:l≠ []):refDec l=dec l:=by
 have C:1<=l.length:=ZbB.2 j;unfold dec;rw[Zf j,UH]
 match l,j with
 | [a],_=>have h:=Y8 a;simp[refDec,refFrom,acc,accStart,Lib.decodeN,Zev];split<;>simp;omega
 | [a,b],_=>
  have h:=Y8 a;have A:=Y8 b;simp[refDec,refFrom,acc,accStart,Lib.decodeN,Zev,ZgF]
  repeat' split
  all_goals (simp at*;try omega)
 | [a,b,c],_=>
  have h:=Y8 a;have A:=Y8 b;have D:=Y8 c;simp[refDec,refFrom,acc,accStart,Lib.decodeN,Zev,ZgF,Zhb]
  repeat' split
  all_goals (simp at*;try omega)
 |a::b::c::d::t,_=>
  have h:=Y8 a;have A:=Y8 b;have D:=Y8 c;have F:=Y8 d;simp[refDec,refFrom,acc,accStart,Lib.decodeN,Zev,ZgF,Zhb,Zhm]
  repeat' split
  all_goals (simp at*;try omega)
def hexD (n:Nat):UInt8:=UInt8.ofNat (if n<10 then 48+n else 87+n)
def escB (c:UInt8):List UInt8:=
 if c.toNat=34\/c.toNat=92 then [92,c]
 else if 32<=c.toNat then []
 else if c.toNat=8 then [92,98] else if c.toNat=12 then [92,102] else if c.toNat=10 then [92,110] else if c.toNat=13 then [92,114] else if c.toNat=9 then [92,116]
 else [92,117,48,48,hexD (c.toNat / 16),hexD (c.toNat % 16)]
def qB (c:UInt8):List UInt8:=if escB c= [] then [c] else escB c
def quoteL (l:List UInt8):List UInt8:=34::(l.flatMap qB++ [34])
def quoteS (s:ByteArray):ByteArray×Nat:=if Lib.validD s.data.toList then (str (quoteL s.data.toList),0) else (str [],5)
theorem Iq (l:List UInt8) (k:Nat) (C:k<l.length):Lib.validD (l.drop k)=if (dec (l.drop k)).2=0 then false else Lib.validD (l.drop (k+(dec (l.drop k)).2)):=by
 have j:l.drop k≠ []:=by intro h;have:=Zo List.length h;simp at this;omega
 rw[Lib.validD_step _ j];have A:dec (l.drop k)=if (Lib.decodeL (l.drop k)).1=65533/\(Lib.decodeL (l.drop k)).2=1 then (0,0) else Lib.decodeL (l.drop k):=by unfold dec;rw[Zf j]
 by_cases h:(Lib.decodeL (l.drop k)).1=65533/\(Lib.decodeL (l.drop k)).2=1
 ·rw[Zi h] at A|-;rw[A];rfl
 ·rw[Zf h] at A|-;rw[A,Zf,List.drop_drop];rw[UH];have:=(GG (l.drop k).length ((l.drop k).getD 0 0).toNat ((l.drop k).getD 1 0).toNat ((l.drop k).getD 2 0).toNat ((l.drop k).getD 3 0).toNat (ZbB.2 j)).1;omega
theorem Zee (l:List UInt8) (k:Nat) (h:l.length<=k):Lib.validD (l.drop k)=true:=by
 rw[ZB h];rfl
def letterN (c:Nat):Nat:=if c=34\/c=92 then c else if c=8 then 98 else if c=9 then 116 else if c=10 then 110 else if c=12 then 102 else if c=13 then 114 else 0
theorem GI (c:UInt8) (h:letterN c.toNat≠0):escB c= [92,UInt8.ofNat (letterN c.toNat)]:=by
 unfold letterN at h|-;unfold escB;by_cases j:c.toNat=34\/c.toNat=92
 ·rw[Zi j,Zi j];simp
 ·rw[Zf j] at h|-;rw[Zf j];have A:c.toNat=8\/c.toNat=9\/c.toNat=10\/c.toNat=12\/c.toNat=13:=by by_cases a:c.toNat=8<;>by_cases b:c.toNat=9<;>by_cases d:c.toNat=10<;>by_cases e:c.toNat=12<;>by_cases f:c.toNat=13<;>simp_all
  rcases A with e|e|e|e|e<;>rw[e]<;>rfl
theorem ZaG (c:UInt8) (h:letterN c.toNat=0) (A:c.toNat<32):escB c= [92,117,48,48,hexD (c.toNat / 16),hexD (c.toNat % 16)]:=by
 unfold letterN at h;unfold escB;by_cases j:c.toNat=34\/c.toNat=92
 ·omega
 ·rw[Zf j] at h|-;rw[Zf (by omega)];by_cases a:c.toNat=8
  ·rw[Zi a] at h;omega
  ·rw[Zf a] at h|-;by_cases b:c.toNat=9
   ·rw[Zi b] at h;omega
   ·rw[Zf b] at h;by_cases d:c.toNat=10
    ·rw[Zi d] at h;omega
    ·rw[Zf d] at h;by_cases e:c.toNat=12
     ·rw[Zi e] at h;omega
     ·rw[Zf e] at h|-;by_cases f:c.toNat=13
      ·rw[Zi f] at h;omega
      ·rw[Zf d,Zf f,Zf b]
theorem Zdc (c:UInt8) (h:letterN c.toNat=0) (A:32<=c.toNat):escB c= []:=by
 unfold letterN at h;unfold escB;by_cases j:c.toNat=34\/c.toNat=92
 ·rw[Zi j] at h;omega
 ·rw[Zf j,Zi A]
theorem ZdM (c:UInt8) (h:letterN c.toNat≠0):qB c= [92,UInt8.ofNat (letterN c.toNat)]:=by
 unfold qB;rw[GI c h,Zf (by simp)]
theorem ZgW (c:UInt8) (h:letterN c.toNat=0) (j:c.toNat<32):qB c= [92,117,48,48,hexD (c.toNat / 16),hexD (c.toNat % 16)]:=by
 unfold qB;rw[ZaG c h j,Zf (by simp)]
theorem Zgj (c:UInt8) (h:letterN c.toNat=0) (j:32<=c.toNat):qB c= [c]:=by
 unfold qB;rw[Zdc c h j,Zi rfl]
theorem ZaH (c:UInt8):(escB c).length<=6:=by
 unfold escB
 repeat' split
 all_goals simp
theorem Zft (c:UInt8):(qB c).length<=6:=by
 unfold qB;split
 ·simp
 ·exact ZaH c
theorem ZeH (l:List UInt8):(l.flatMap qB).length<=6*l.length:=by
 induction l with
 |nil=>simp
 |cons c t ih=>have:=Zft c;simp only[XU,Zj,Zr];omega
inductive JV where
 |null
 |bool (b:Bool)
 |int (n:Int)
 |str (s:ByteArray)
 |arr (l:List JV)
 |obj (ks:List ByteArray) (vs:List JV)
def commas:List (List UInt8)->List UInt8
 | []=> []
 | [t]=>t
 |t::u::r=>t++44::commas (u::r)
theorem UG:∀(l:List (List UInt8)) (t:List UInt8),commas (l++ [t])=if l= [] then t else commas l++44::t
 | [],t=>by simp[commas]
 | [u],t=>by simp[commas]
 |u::v::r,t=>by
  have ih:=UG (v::r) t
  simp only[X6] at ih|-
  rw[Zf (by simp)] at ih|-
  simp only[commas,ih,Yl,X6]
def keyed (k:ByteArray) (t:List UInt8):List UInt8:=quoteL k.data.toList++58::t
def jtext:JV->List UInt8
 | .null=> [110,117,108,108]
 | .bool b=>if b then [116,114,117,101] else [102,97,108,115,101]
 | .int n=>Lib.itoa n
 | .str s=>quoteL s.data.toList
 | .arr l=>91::(commas (l.map jtext)++ [93])
 | .obj ks vs=>123::(commas (List.zipWith keyed ks (vs.map jtext))++ [125])
def jvalid:JV->Nat->Bool
 | .str s,depth=>decide (depth<=100) && Lib.validD s.data.toList
 | .arr l,depth=>decide (depth<=100) && (l.map λj=>jvalid j (depth+1)).all id
 | .obj _ vs,depth=>decide (depth<=100) && (vs.map λj=>jvalid j (depth+1)).all id
 |_,depth=>decide (depth<=100)
def jok:JV->Prop
 | .int n=> -9223372036854775808<=n/\n<=9223372036854775807
 | .str s=>s.size<=16777216
 | .arr l=>∀j∈l,jok j
 | .obj ks vs=>ks.length=vs.length/\ks.Nodup/\(∀k∈ks,k.size<=16777216/\Lib.validD k.data.toList=true)/\∀j∈vs,jok j
 |_=>True
def jwrite (j:JV):ByteArray×Nat:=if jvalid j 1 then (str (jtext j),0) else (⟨#[]⟩,22)
theorem UR (l:List JV):jtext (.arr l)=91::(commas (l.map jtext)++ [93]):=by rw[jtext]
theorem Uw (d:Nat) (l:List JV):jvalid (.arr l) d=(decide (d<=100) && l.all λj=>jvalid j (d+1)):=by rw[jvalid];simp[List.all_map]
theorem VJ (ks:List ByteArray) (vs:List JV):jtext (.obj ks vs)=123::(commas (List.zipWith keyed ks (vs.map jtext))++ [125]):=by rw[jtext]
theorem U1 (d:Nat) (ks:List ByteArray) (vs:List JV):jvalid (.obj ks vs) d=(decide (d<=100) && vs.all λj=>jvalid j (d+1)):=by rw[jvalid];simp[List.all_map]
theorem G8 (ks:List ByteArray) (vs:List JV):jok (.obj ks vs)=(ks.length=vs.length/\ks.Nodup/\(∀k∈ks,k.size<=16777216/\Lib.validD k.data.toList=true)/\∀j∈vs,jok j):=by rw[jok]
theorem G7 (l:List JV):jok (.arr l)=∀j∈l,jok j:=by rw[jok]
def hasAt (s:List UInt8) (at_:Nat) (t:List UInt8):Bool:=t.isPrefixOf (s.drop at_)
def spAt (s:List UInt8) (at_:Nat):Nat:=at_+((s.drop at_).takeWhile λc=>isSp c.toNat).length
def hexV (c:UInt8):Nat:=if 48<=c.toNat/\c.toNat<=57 then c.toNat - 48 else if 97<=c.toNat/\c.toNat<=102 then c.toNat - 97+10 else if 65<=c.toNat/\c.toNat<=70 then c.toNat - 65+10 else 16
structure AtP where
 space:List UInt8
 name:List UInt8
 value:List UInt8
 at_:Nat
 deriving DecidableEq
structure Tok where
 kind:Nat
 name:List UInt8
 attrs:List AtP
 empty:Bool
 text:List UInt8
 at_:Nat
 deriving DecidableEq
theorem Zd9 {s:List UInt8} {k:Nat} (h:k<s.length) (j:isSp (s[k].toNat)=true):spAt s k=spAt s (k+1):=by
 unfold spAt;rw[Zx h,ZbC,Zi j,Zr];omega
theorem Zea {s:List UInt8} {k:Nat} (h:k<s.length) (j:isSp (s[k].toNat)=false):spAt s k=k:=by
 unfold spAt;rw[Zx h,ZbC,Zf (by rw[j];simp)];rfl
theorem ZfF {s:List UInt8} {k:Nat} (h:s.length<=k):spAt s k=k:=by
 unfold spAt;rw[ZB h];rfl
theorem Up {s:List UInt8} {k:Nat} (h:k<=s.length):spAt s k<=s.length:=by
 unfold spAt;have j:=(List.takeWhile_sublist (l:=s.drop k) (λc:UInt8=>isSp c.toNat)).length_le;rw[ZL] at j;omega
theorem X5 (s:List UInt8) (k:Nat):k<=spAt s k:=Nat.le_add_right _ _
inductive JO where
 |null (a:Nat)
 |bool (a:Nat) (b:Bool)
 |int (a:Nat) (n:Int)
 |str (a:Nat) (s:ByteArray)
 |arr (a:Nat) (l:List JO)
 |obj (a:Nat) (ks:List (ByteArray×Nat)) (vs:List JO)
def hexGo (l:List UInt8) (i:Nat):Nat->Option Nat
 |0=>some 0
 |k+1=>match hexGo l i k,l[i+k]? with
  |some n,some c=>if hexV c<16 then some (n*16+hexV c) else none
  |_,_=>none
def unitP (l:List UInt8) (i:Nat):Option Nat:=if l[i]? =some 92/\l[i+1]? =some 117 then hexGo l (i+2) 4 else none
def seqP (l:List UInt8) (i:Nat):Option (Nat×Nat):=match l[i+1]? with
 |none=>none
 |some c=>
  if c=34\/c=92\/c=47 then some (c.toNat,2)
  else if c=98 then some (8,2) else if c=102 then some (12,2) else if c=110 then some (10,2) else if c=114 then some (13,2) else if c=116 then some (9,2)
  else match unitP l i with
   |none=>none
   |some n=>if 55296<=n/\n<=56319 then (match unitP l (i+6) with
    |some m=>if 56320<=m/\m<=57343 then some (65536+(n - 55296)*1024+m - 56320,12) else none
    |none=>none)
    else if 56320<=n/\n<=57343 then none else some (n,6)
def strGo (l:List UInt8):Nat->Nat->List UInt8->Option (List UInt8×Nat)
 |0,_,_=>none
 |k+1,i,out=>
  if (dec (l.drop i)).2=0 then none
  else if (dec (l.drop i)).1<32 then none
  else if (dec (l.drop i)).1=34 then some (out,i+1)
  else if (dec (l.drop i)).1=92 then (match seqP l i with
   |some (r,n)=>strGo l k (i+n) (out++encN r)
   |none=>none)
  else strGo l k (i+(dec (l.drop i)).2) (out++encN (dec (l.drop i)).1)
def strP (l:List UInt8) (at_:Nat):Option (List UInt8×Nat):=if l[at_]? =some 34 then strGo l (l.length+1) (at_+1) [] else none
def isDg (c:UInt8):Bool:=decide (48<=c.toNat/\c.toNat<=57)
def numeric (c:UInt8):Bool:=isDg c||c==43||c==45||c==46||c==101||c==69
def numAt (l:List UInt8) (at_:Nat):Nat:=at_+((l.drop at_).takeWhile numeric).length
def decV:List UInt8->Nat->Option Nat
 | [],u=>some u
 |c::t,u=>if isDg c then decV t (u*10+(c.toNat - 48)) else none
def numV (s:List UInt8):Option Int:=
 let d:=if s.head? =some 45 then s.tail else s
 if d= []\/19<d.length\/(1<d.length/\d.head? =some 48) then none
 else match decV d 0 with
  |none=>none
  |some u=>if s.head? =some 45 then (if u<=9223372036854775808 then some (-(u:Int)) else none) else if u<9223372036854775808 then some (u:Int) else none
def itemsGo (l:List UInt8) (V:Nat->Option (JO×Nat)):Nat->Nat->List JO->Option (List JO×Nat)
 |0,_,_=>none
 |k+1,at_,acc=>match V (spAt l at_) with
  |none=>none
  |some (v,to_)=>
   if hasAt l (spAt l to_) [93] then some (acc++ [v],spAt l to_+1)
   else if hasAt l (spAt l to_) [44] then itemsGo l V k (spAt l to_+1) (acc++ [v]) else none
def keyP (l:List UInt8) (at_:Nat) (ks:List (ByteArray×Nat)):Option (ByteArray×Nat):=match strP l at_ with
 |none=>none
 |some (k,to_)=>if (ks.any λp=>decide (p.1=str k)) then none else if hasAt l (spAt l to_) [58] then some (str k,spAt l to_+1) else none
def memsGo (l:List UInt8) (V:Nat->Option (JO×Nat)):Nat->Nat->List (ByteArray×Nat)->List JO->Option ((List (ByteArray×Nat)×List JO)×Nat)
 |0,_,_,_=>none
 |k+1,at_,ks,vs=>match keyP l (spAt l at_) ks with
  |none=>none
  |some (key,to_)=>match V to_ with
   |none=>none
   |some (v,to_)=>
    if hasAt l (spAt l to_) [125] then some ((ks++ [(key,spAt l at_)],vs++ [v]),spAt l to_+1)
    else if hasAt l (spAt l to_) [44] then memsGo l V k (spAt l to_+1) (ks++ [(key,spAt l at_)]) (vs++ [v]) else none
def listP (l:List UInt8) (V:Nat->Option (JO×Nat)) (from_:Nat) (o:Bool):Option (JO×Nat):=
 if o then
  if hasAt l (spAt l (from_+1)) [125] then some (.obj from_ [] [],spAt l (from_+1)+1)
  else match memsGo l V (l.length+1) (spAt l (from_+1)) [] [] with
   |some ((ks,vs),to_)=>some (.obj from_ ks vs,to_)
   |none=>none
 else
  if hasAt l (spAt l (from_+1)) [93] then some (.arr from_ [],spAt l (from_+1)+1)
  else match itemsGo l V (l.length+1) (spAt l (from_+1)) [] with
   |some (vs,to_)=>some (.arr from_ vs,to_)
   |none=>none
def valG (l:List UInt8) (L:Nat->Bool->Option (JO×Nat)) (at_:Nat):Option (JO×Nat):=match l[at_]? with
 |none=>none
 |some c=>
  if c=110 then (if hasAt l at_ [110,117,108,108] then some (.null at_,at_+4) else none)
  else if c=116 then (if hasAt l at_ [116,114,117,101] then some (.bool at_ true,at_+4) else none)
  else if c=102 then (if hasAt l at_ [102,97,108,115,101] then some (.bool at_ false,at_+5) else none)
  else if c=34 then (match strP l at_ with
   |some (t,to_)=>some (.str at_ (str t),to_)
   |none=>none)
  else if c=91 then L at_ false
  else if c=123 then L at_ true
  else if c=45\/isDg c=true then (match numV ((l.drop at_).takeWhile numeric) with
   |some n=>some (.int at_ n,numAt l at_)
   |none=>none)
  else none
def valP (l:List UInt8):Nat->Nat->Option (JO×Nat)
 |0,at_=>valG l (λ_ _=>none) (spAt l at_)
 |f+1,at_=>valG l (λa o=>listP l (valP l f) a o) (spAt l at_)
def jsonP (l:List UInt8):Option JO:=match valP l 100 (if hasAt l 0 [239,187,191] then 3 else 0) with
 |some (v,to_)=>if spAt l to_<l.length then none else some v
 |none=>none
def jgood (N:Nat):JO->Prop
 | .null a=>a<N
 | .bool a _=>a<N
 | .int a n=>a<N/\ -9223372036854775808<=n/\n<=9223372036854775807
 | .str a s=>a<N/\s.size<=N/\Lib.validD s.data.toList=true
 | .arr a l=>a<N/\l.length<=N/\∀j∈l,jgood N j
 | .obj a ks vs=>a<N/\ks.length=vs.length/\vs.length<=N/\(∀k∈ks,k.2<N/\k.1.size<=N/\Lib.validD k.1.data.toList=true)/\∀j∈vs,jgood N j
end Go.Proofs.YthlnaldahkgjnaaGreatDoor
