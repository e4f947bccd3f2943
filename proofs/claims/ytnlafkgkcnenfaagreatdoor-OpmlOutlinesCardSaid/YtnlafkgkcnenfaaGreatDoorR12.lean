/- Parts of the proof: contracts and plain laws. -/
import Derived.Test.YtnlafkgkcnenfaaGreatDoorR11
namespace Go.Proofs.YtnlafkgkcnenfaaGreatDoor
open Go Go.RowKit Go.Joins Tryz
set_option linter.unusedVariables false
set_option linter.unusedSimpArgs false
set_option maxRecDepth 100000
set_option maxHeartbeats 16000000
section
variable {a:Act} {fuel i j:Nat} {oi:Oper} {w:World}
section
variable {P:Program} {md:Region.Mode} {Q:Exit→Act→World→Prop} {S:World→Prop}
theorem Zge {l:List Oper} {oj:Oper} {listed:Array Bool} (U:l[i]? =some oi) (V:l[j]? =some oj) (X:Region.ready md l.toArray listed= [i,j])
 (I:∀K:Act->Wq->Prop,(∀a' w',S w'->wpAnyS P md l.toArray Q S fuel (listed.setIfInBounds i true) a' w'->K a' w')->if Region.wanted oi (yielded l.toArray a.tmps) then Oper.wp P oi a w K Q else K (a.put oi.dst undef) w)
 (J:∀K:Act->Wq->Prop,(∀a' w',S w'->wpAnyS P md l.toArray Q S fuel (listed.setIfInBounds j true) a' w'->K a' w')->if Region.wanted oj (yielded l.toArray a.tmps) then Oper.wp P oj a w K Q else K (a.put oj.dst undef) w):wpAnyS P md l.toArray Q S (fuel+1) listed a w:=by
 have M:l.toArray[i]? =some oi:=by rw[Yl];exact U
 have R:l.toArray[j]? =some oj:=by rw[Yl];exact V
 have A:=I (λa' w'=>S w'/\wpAnyS P md l.toArray Q S fuel (listed.setIfInBounds i true) a' w') λ_ _ I J=>⟨I,J⟩;have D:=J (λa' w'=>S w'/\wpAnyS P md l.toArray Q S fuel (listed.setIfInBounds j true) a' w') λ_ _ I J=>⟨I,J⟩;refine ⟨λh=>(by rw[X] at h;cases h),λk F=> ?_⟩;rw[X] at F;simp only[ZI,Yg,Xx] at F;rcases F with F|F
 ·rw[F];unfold wpOp;simp only[M];split
  ·rename_i H;rw[Zl H] at A;exact Or.inl A
  ·rename_i H;rw[Zg H] at A;exact A
 ·rw[F];unfold wpOp;simp only[R];split
  ·rename_i H;rw[Zl H] at D;exact Or.inl D
  ·rename_i H;rw[Zg H] at D;exact D
end
end
section
variable {base c g g' j k n:Nat} {e:TypeId} {v:Value} {w:World} {xs:List Value}
theorem Ey (g n:Nat):(⟨g,0,none⟩:Addr).add n=⟨g,n,none⟩:=by
 unfold Addr.add;split
 ·rename_i h;rw[h]
 ·simp
theorem ZfX {size:Nat} {a:Addr} (h:w.ownsRow base e size (.slice (some a) n c) n xs):∃g A,a=⟨g,0,none⟩/\base<=g/\w.heap[g]? =some (.cells A e (0,0)):=by
 obtain ⟨J,D⟩:=h;rcases D with ⟨D,_⟩|⟨g,cap,A,I,F,H,_⟩
 ·cases D
 ·injection I with hv1 hv2 hv3;injection hv1 with hv1;exact ⟨g,A,hv1,F,H⟩
theorem Zgu {size:Nat} (h:w.ownsRow base e size (.slice (some ⟨g,0,none⟩) n c) n xs) (S:j<n*size) (u:Value):(w.setCell ⟨g,j,none⟩ u).ownsRow base e size (.slice (some ⟨g,0,none⟩) n c) n (xs.set j u):=by
 obtain ⟨F,D⟩:=h;refine ⟨by rw[XI];exact F,?_⟩;rcases D with ⟨D,_⟩|⟨g',cap,A,R,H,I,K,J,M,Q⟩
 ·cases D
 ·injection R with hv1 hv2 hv3;injection hv1 with hv1;injection hv1 with hv1 _ _;subst hv1;subst hv3;refine Or.inr ⟨g,c,A.setIfInBounds j u,rfl,H,Yd w g j _ _ _ I,K,J,by simpa using M,?_⟩;rw[Array.toList_setIfInBounds,List.take_set,Q]
theorem Zg6 {l:List Nc} (A:k<l.length) (y:Nc) (u:Value) (h:(cellsN l[k]).set 5 u=cellsN y):(flatN l).set (k*7+5) u=flatN (l.set k y):=by
 induction l generalizing k with
 |nil=>simp at A
 |cons x t ih=>
  cases k with
  |zero=>have D:5<(cellsN x).length:=(by rw[JF];decide);show (cellsN x++flatN t).set (0*7+5) u=cellsN y++flatN t;rw[Xf,Yu,List.set_append_left _ _ D];exact Zy (· ++flatN t) h
  |succ k=>show (cellsN x++flatN t).set ((k+1)*7+5) u=cellsN x++flatN (t.set k y);have F:=JF x;rw[List.set_append_right _ _ (by omega),F,show (k+1)*7+5 - 7=k*7+5 by omega,ih (by simpa using A) h]
def BxP (w:Wq) (g:Nat) (lv:Value) (i a e:Nat):Prop:=w.heap[g]? =some (.cells #[lv,nI (i:Nat),nI (a:Nat),nI (e:Nat)] 109 (0,0))
section
variable {w w':World} {g i a e:Nat} {lv:Value}
theorem BxP.ext (h:BxP w g lv i a e) (A:Ext w w'):BxP w' g lv i a e:=A.heap h
theorem BxP.other (h:BxP w g lv i a e) (A:g≠g'):BxP (w.setCell ⟨g',j,none⟩ v) g lv i a e:=(ZY w ⟨g',j,none⟩ g v A).trans h
theorem BxP.cells (h:BxP w g lv i a e):w.cell? ⟨g,0,none⟩=some lv/\w.cell? ⟨g,1,none⟩=some (nI (i:Nat))/\w.cell? ⟨g,2,none⟩=some (nI (a:Nat))/\w.cell? ⟨g,3,none⟩=some (nI (e:Nat)):=by
 refine ⟨?_,?_,?_,?_⟩<;>(rw[Xj _ _ _ _ _ _ h];rfl)
theorem BxP.frozen (h:BxP w g lv i a e):w.frozen? ⟨g,1,none⟩=false/\w.frozen? ⟨g,2,none⟩=false/\w.frozen? ⟨g,3,none⟩=false:=⟨ZX h 1,ZX h 2,ZX h 3⟩
theorem BxP.next (h:BxP w g lv i a e) (j:Nat):BxP (w.setCell ⟨g,1,none⟩ (nI (j:Nat))) g lv j a e:=Yd w g 1 _ _ _ h
theorem BxP.at_ (h:BxP w g lv i a e) (j:Nat):BxP (w.setCell ⟨g,2,none⟩ (nI (j:Nat))) g lv i j e:=Yd w g 2 _ _ _ h
theorem BxP.code (h:BxP w g lv i a e) (j:Nat):BxP (w.setCell ⟨g,3,none⟩ (nI (j:Nat))) g lv i a j:=Yd w g 3 _ _ _ h
theorem BxP.lt (h:BxP w g lv i a e):g<w.heap.size:=(Zx.1 h).1
end
section
variable {a b c:World} {r r':Option Nat} {g:Nat}
theorem J9 (h:a.grownBy b r) (F:a.heap.size<=g) (cs:Array Value):a.grownBy (b.setRow g cs) r:=
 ⟨h.os,h.tape,h.output,by have:=h.size;simpa [World.setRow] using this,λk D A=>(Z1 b g k cs (by omega)).trans (h.block k D A)⟩
theorem X0 (h:a.grownBy b r) (F:a.heap.size<=g) (i:Nat) (v:Value):a.grownBy (b.setCell ⟨g,i,none⟩ v) r:=
 ⟨h.os,h.tape,h.output,by have:=h.size;simpa [World.setCell] using this,λk D A=>(ZY b ⟨g,i,none⟩ k v (by show k≠g;omega)).trans (h.block k D A)⟩
theorem Vv (h:a.grownBy b (some g)) (i:Nat) (v:Value):a.grownBy (b.setCell ⟨g,i,none⟩ v) (some g):=h.trans (Yo b ⟨g,i,none⟩ v)
theorem Xd (h:a.grownBy b r) (A:Ext b c):a.grownBy c r:=h.trans (A.grown r)
end
def zeroN:Array Value:=#[nI 0,eS,eS,sN,sN,eS,nI 0]
theorem Uj:(#[Value.int .i64 0,eS,eS,sN,sN,eS,nI 0]).all (λu=>u.oneCell')=true:=by simp[Value.oneCell']
theorem ZjY (w:Wq):BxN (w.alloc (.cells zeroN 25)) w.heap.size 0 [] [] sN sN [] 0:=Zf w _
theorem QJ (G:Nat) (lv:Value) (i a0 V y c:Nat) (w:Wq) (h:BxP w G lv i a0 V):
 Calls prog 101 #[.pointer (some ⟨G,0,none⟩),nI (y:Nat),nI (c:Nat)] w λe w'=>e= .returned (.agg #[nI ((0:Nat):Int),.string (str []),.string (str []),sN,sN,.string (str []),nI ((0:Nat):Int)])/\BxP w' G lv i y c/\w.grownBy w' (some G):=by
 have hl:=h.lt;have D:=((Ext.refl w).alloc (.cells zeroN 25)).grown (some G);have I:=h.ext ((Ext.refl w).alloc (.cells zeroN 25));have U:=ZjY w;unfold zeroN at*;obtain ⟨W0,J⟩:∃W0,w.alloc (.cells #[nI 0,eS,eS,sN,sN,eS,nI 0] 25)=W0:=⟨_,rfl⟩;rw[J] at D I U;obtain ⟨Y,Z,b2,b3⟩:=I.cells;obtain ⟨f1,f2,f3⟩:=I.frozen;have X:=I.at_ y;have S:=X.code c;have H:G≠w.heap.size:=by omega
 have A:BxN ((W0.setCell ⟨G,2,none⟩ (nI (y:Nat))).setCell ⟨G,3,none⟩ (nI (c:Nat))) w.heap.size 0 [] [] sN sN [] 0:=(U.other (by omega)).other (by omega);obtain ⟨R,M⟩:∃g,w.heap.size=g:=⟨_,rfl⟩;rw[M] at A H;obtain ⟨Q,K⟩:∃Q,(W0.setCell ⟨G,2,none⟩ (nI (y:Nat))).setCell ⟨G,3,none⟩ (nI (c:Nat))=Q:=⟨_,rfl⟩;have F:=Vv (Vv D 2 (nI (y:Nat))) 3 (nI (c:Nat));rw[K] at A S F;go_enter func101,ntmps101
 go_wp2_with (first|(refine Zc rfl 25 (.tmp 6) (.tmp 15) rfl R #[nI 0,eS,eS,sN,sN,eS,nI 0] rfl rfl _ _ A ZD rfl Uj ?_))
 ((try simp only[Exit.inBlock,Exit.then]);refine Zn (XT rfl _ _ _ _ _ _ _ rfl (Zp _ _ _ _ _ _ A) underlying25 rfl ZD) rfl ?_);exact ⟨rfl,(Z1 _ R G _ H).trans S,J9 F (by omega) _⟩
end
section
variable {b w w':World} {g k n:Nat} {r:Option Nat} {v:Value} {xs:List Value}
structure Keep (w w':Wq) (g:Nat) (r:Option Nat):Prop where
 os:w'.os=w.os
 tape:w'.tape=w.tape
 output:w'.output=w.output
 size:w.heap.size<=w'.heap.size
 block:∀k,k<w.heap.size->k≠g->some k≠r->w'.heap[k]? =w.heap[k]?
theorem Keep.refl (w:Wq) (g:Nat) (r:Option Nat):Keep w w g r:=⟨rfl,rfl,rfl,Zb _,λ_ _ _ _=>rfl⟩
theorem Keep.trans {a c:Wq} {r':Option Nat} (h:Keep a b g r) (A:Keep b c g r') (J:∀k,r'=some k->r=some k\/a.heap.size<=k):Keep a c g r:=
 ⟨A.os.trans h.os,A.tape.trans h.tape,A.output.trans h.output,Zv h.size A.size,λk I H D=>(A.block k (YQ I h.size) H (λe=>by
  rcases J k e.symm with F|F
  ·exact D F.symm
  ·omega)).trans (h.block k I H D)⟩
theorem Keep.of_grown {a:Wq} (g:Nat) (h:a.grownBy b r):Keep a b g r:=⟨h.os,h.tape,h.output,h.size,λk D _ A=>h.block k D A⟩
theorem Keep.of_ext {a:Wq} (g:Nat) (r:Option Nat) (h:Ext a b):Keep a b g r:=Keep.of_grown g (h.grown r)
theorem Keep.ext {a c:Wq} (h:Keep a b g r) (A:Ext b c):Keep a c g r:=h.trans (Keep.of_ext g r A) λk e=>Or.inl e
theorem Keep.ext_left {a c:Wq} (h:Ext a b) (A:Keep b c g r):Keep a c g r:=(Keep.of_ext g r h).trans A λk e=>Or.inl e
theorem Keep.cell_ {a:Wq} (h:Keep a b g r) (i:Nat) (v:Value):Keep a (b.setCell ⟨g,i,none⟩ v) g r:=
 ⟨h.os,h.tape,h.output,by have:=h.size;simpa [World.setCell] using this,λk F D A=>(ZY b ⟨g,i,none⟩ k v D).trans (h.block k F D A)⟩
theorem Keep.split (h:Keep w w' g r):∃w1,w.grownBy w1 (some g)/\w1.grownBy w' r:=by
 cases r with
 |none=>exact ⟨w',⟨h.os,h.tape,h.output,h.size,λk D A=>h.block k D (λe=>A (by rw[e])) (by simp)⟩,(Ext.refl w').grown none⟩
 |some r=>
  by_cases H:r<w.heap.size
  ·have F:r<w'.heap.size:=YQ H h.size;refine ⟨{w' with heap:=w'.heap.set r w.heap[r]},⟨h.os,h.tape,h.output,by simpa using h.size,λk D A=> ?_⟩,⟨rfl,rfl,rfl,by simp,λk D A=> ?_⟩⟩
   ·show (w'.heap.set r w.heap[r])[k]? =_;by_cases e:k=r
    ·subst e;simp[D]
    ·rw[Array.getElem?_set_ne F (by intro h;exact e h.symm)];exact h.block k D (λe=>A (by rw[e])) (λe2=>e (by injection e2))
   ·show w'.heap[k]? =(w'.heap.set r w.heap[r])[k]?;rw[Array.getElem?_set_ne F (by intro e;exact A (by rw[e]))]
  ·exact ⟨w',⟨h.os,h.tape,h.output,h.size,λk D A=>h.block k D (λe=>A (by rw[e])) (λe=>by injection e with e;omega)⟩,(Ext.refl w').grown _⟩
section
variable {w w':World} {g:Nat} {r:Option Nat}
theorem Keep.heap (h:Keep w w' g r) {o:Obj} (A:w.heap[k]? =some o) (D:k≠g) (F:some k≠r):w'.heap[k]? =some o:=
 (h.block k (Zx.1 A).1 D F).trans A
theorem Keep.cell (h:Keep w w' g r) {a:Addr} (A:w.cell? a=some v) (D:a.block≠g) (F:some a.block≠r):w'.cell? a=some v:=
 (ZV (h.block a.block (ZQ w a A) D F)).trans A
theorem RSl.keep {size:Nat} (F:RSl w size v n xs) (h:Keep w w' g r) (A:xs= []\/v.ownBlock≠some g) (D:xs= []\/v.ownBlock≠r):RSl w' size v n xs:=by
 obtain ⟨w1,H,I⟩:=h.split;exact RSl.grown (RSl.grown F H A) I D
theorem RdN.keep {x:Nc} (F:RdN w x) (h:Keep w w' g r) (A:awayN (some g) x) (D:awayN r x):RdN w' x:=by
 obtain ⟨w1,H,I⟩:=h.split;exact RdN.grown I x (RdN.grown H x F A) D
end
end
section
variable {P:Program} {W w:World} {a:Act} {cb n:Nat} {α:Type}
def Stays (B:Nat) (W W':Wq):Prop:=∀(k:Nat) (o:Obj),B<=k->W.heap[k]? =some o->o.isCells=false->W'.heap[k]? =some o
def CellSeq {α:Type} (F:Fence) (n:Nat) (P:Program) (gf:Nat) (lb:Array Value) (encs:α->Array Value) (cb:Nat) (Kp:Wq->Wq->Prop) (xs:List α) (w:Wq):Prop:=
 ∀(l:Nat) (J:List α->Wq->Prop) (W:Wq),Ext w W->(∀s A C,J s A->Ext A C->J s C)->(∀s A v,J s A->J s (A.setCell ⟨cb,0,none⟩ v))->
  (∀pre x W1,(pre++ [x])<+:xs->J pre W1->YieldAt F (n - 1) P l (encs x) W1 λe W'=>e= .returned (.bool true)/\J (pre++ [x]) W'/\Kp W1 W')->
  J [] W->CallsIn F n P gf (#[.func (.yield l) #[] #[]]++lb) W λe W'=>(∃v,e= .returned v)/\J xs W'
def roundEnd {α:Type} (B:Nat) (Kp:Wq->Wq->Prop) (I:List α->Wq->Prop) (s:List α) (W:Wq):Exit->Act->Wq->Prop
 | .normal,_,W'=>Stays B W W'/\Kp W W'/\I s W'
 |_,_,_=>False
theorem Ko {l:Nat} {o o':Obj} (h:W.heap[l]? =some o):(W.putObj l o').heap[l]? =some o':=World.putObj_heap_same (Zx.1 h).1
theorem Zf0 {F:Fence} {g:Operand} {ps:Array Tmp} {assign body:Code} {Q:Exit->Act->Wq->Prop}
 (hF:F.round=none) (h1:1<=n) {gf:Nat} {lb:Array Value} (hg:a.eval g= .func (.func gf) #[] lb) (hm:F.fn gf) (eg:∀args w,(callFunc gf args).run P w= .ok (.enter gf args) w)
 {encs:α->Array Value} {Kp:Wq->Wq->Prop} {xs:List α} (hh:CellSeq F (n - 1) P gf lb encs cb Kp xs w) (hG:cb<w.heap.size)
 (hc:∀{A B C:Wq},Kp A B->Kp B C->Kp A C) (hb:∀(W:Wq) (l:Nat) (o o':Obj),w.heap.size<=l->W.heap[l]? =some o->o.isCells=false->Kp W (W.putObj l o')) (hE:∀x,(encs x).size=ps.size)
 (I:List α->Wq->Prop) (ha:∀s A C,I s A->Ext A C->I s C) (hn:∀s A v,I s A->I s (A.setCell ⟨cb,0,none⟩ v)) (X:∀s A l o o',I s A->w.heap.size<=l->A.heap[l]? =some o->o.isCells=false->I s (A.putObj l o'))
 (h0:I [] w) (a₁:α->Act)
 (M:∀(l:Nat) (x:α) (W:Wq) (K:Act->Wq->Prop),K (a₁ x) W->
  assign.wpIn (F.inRound l) (n - 1 - 1) P (Exit.then K (λ_ _ _=>False)) {tmps:=(ps.zip (encs x)).foldl (λt (p,v)=>t.setIfInBounds p v) a.tmps,defers:= []} W)
 (Y:∀(l:Nat) (pre:List α) (x:α) (W:Wq),(pre++ [x])<+:xs->I pre W->body.wpIn (F.inRound l) (n - 1 - 1) P (roundEnd w.heap.size Kp I (pre++ [x]) W) (a₁ x) W)
 (Z:∀(D:Nat) (W:Wq),w.heap.size<=D->I xs W->W.heap[D]? =some (.deferred (some []))->Q .normal {a with defers:={target:= .collected D,args:=#[]}::a.defers} W):
 (Code.rangeFunc g ps assign body).wpIn F n P Q a w:=by
 refine wpIn_rangeFunc λfn hv=> ?_;rw[hF]
 let D:=w.heap.size
 obtain ⟨rc,H⟩:∃rc:LoopState->Loop,rc=λst=>{state:=st,pending:=none,fn,tmps:=a.tmps,params:=ps,assign,body,defers:=w.heap.size}:=⟨_,rfl⟩;have hj:∀s,(rc s).state=s:=λs=>by rw[H]
 obtain ⟨V,hV⟩:∃V,(w.alloc (.deferred (some []))).alloc (.loop (rc .ready))=V:=⟨_,rfl⟩;have hk:Ext w V:=by rw[<-hV];exact ((Ext.refl w).alloc _).alloc _
 have hr:V.heap[w.heap.size+1]? =some (.loop (rc .ready)):=by rw[<-hV];exact YD w _ _
 have ho:V.heap[w.heap.size]? =some (.deferred (some [])):=by rw[<-hV];exact (JP _ _ (by rw[Zt];omega)).trans (Zf w _)
 refine ⟨w.heap.size+1,[{target:= .collected w.heap.size,args:=#[]}],V,{target:= .fn (.func gf) lb,args:=#[.func (.yield (w.heap.size+1)) #[] #[]]},V,gf,
  #[.func (.yield (w.heap.size+1)) #[] #[]]++lb,V,?_,?_,?_,?_,λ_=>h1,?_⟩
 ·rw[<-hV,H];exact run_enterLoop_outer _ _ _ _ _
 ·simp only[resolve,hg];simp[go_sem]
 ·intro f' he;simp[Target.leads] at he;subst he;exact hm
 ·simp[invoke,go_sem,eg]
 refine (hh (w.heap.size+1) (λs W=>I s W/\W.heap[w.heap.size+1]? =some (.loop (rc .ready))/\W.heap[w.heap.size]? =some (.deferred (some []))) V hk
  (λs A C hs hx=>⟨ha s A C hs.1 hx,hx.heap hs.2.1,hx.heap hs.2.2⟩)
  (λs A v hs=>⟨hn s A v hs.1,(ZY A ⟨cb,0,none⟩ _ v (by show w.heap.size+1≠cb;omega)).trans hs.2.1,(ZY A ⟨cb,0,none⟩ _ v (by show w.heap.size≠cb;omega)).trans hs.2.2⟩)
  ?_ ⟨ha _ _ _ h0 hk,hr,ho⟩).mono ?_
 ·rintro pre x W hp ⟨hi,U,hd⟩;have hy:=run_yield (P:=P) (args:=encs x) U (by rw[H];exact hE x);rw[H] at hy;refine ⟨fn,_,assign,body,hy,roundIn_of_wpIn hv (M _ x W _ ⟨_,run_beginRound U (hj _),?_⟩)⟩;obtain ⟨S,J⟩:∃S,W.putObj (w.heap.size+1) (.loop {rc .ready with state:= .busy})=S:=⟨_,rfl⟩;have hC:S.heap[w.heap.size+1]? =some (.loop {rc .ready with state:= .busy}):=by rw[<-J];exact Ko U
  have ht:S.heap[w.heap.size]? =some (.deferred (some [])):=by rw[<-J];exact (XS (by omega)).trans hd
  have hA:Kp W S:=by rw[<-J];exact hb _ _ _ _ (Yc _) U rfl
  have hw:I pre S:=by rw[<-J];exact X _ _ _ _ _ hi (Yc _) U rfl
  rw[J];refine wpIn_mono (Y _ pre x S hp hw) ?_;rintro e a3 W3 hq;cases e with
  |normal=>
   obtain ⟨hf,hB,hz⟩:=hq;have R:=hf _ _ (Yc _) hC rfl;have hu:=hf _ _ (Zb _) ht rfl;have h:=run_endRound (P:=P) none R;refine ⟨_,_,h,rfl,⟨X _ _ _ _ _ hz (Yc _) R rfl,?_,?_⟩,hc (hc hA hB) (hb _ _ _ _ (Yc _) R rfl)⟩
   ·refine (Ko R).trans ?_;rw[H];rfl
   ·exact (XS (by omega)).trans hu
  |ret=>exact hq.elim
  |exit id=>exact hq.elim
  |goto t=>exact hq.elim
  |panic ch=>exact hq.elim
  |outgrown=>exact hq.elim
 ·rintro e S ⟨⟨v,rfl⟩,hi,U,hd⟩;have h:=run_endLoop (P:=P) U (by rw[hj];decide);have hD:(rc .ready).pending=none:=by rw[H]
  rw[hD] at h;exact ⟨none,_,h,Z _ _ (Zb _) (X _ _ _ _ _ hi (Yc _) U rfl) ((XS (by omega)).trans hd)⟩
end
theorem Z4 (w:Wq) (zs cs:Array Value) (t:TypeId):(w.alloc (.cells zs t)).setRow w.heap.size cs=w.alloc (.cells cs t):=by
 have e:(w.heap.push (.cells zs t)).modify w.heap.size (fun| .cells _ D A=> .cells cs D A|o=>o)=w.heap.push (.cells cs t):=by
  apply Array.ext_getElem?;intro i;rw[Xk,Array.getElem?_push,Array.getElem?_push];split
  ·rename_i h;rw[Zl h.symm,Zl h.symm];rfl
  ·rename_i h;rw[Zg (λe=>h e.symm),Zg (λe=>h e.symm)]
 show ({(w.alloc (.cells zs t)) with heap:=_}:Wq)=_;exact Zy (λH=>({w with heap:=H}:Wq)) e
theorem Zc2 (x:Nc) (sp nm:List UInt8) (w:Wq) (h:RAts w x.al x.attrs) (Q:isSl x.ks) (hn:x.attrs.length<=16777216):
 Calls prog 31 #[.agg (cellsN x).toArray,.string (str sp),.string (str nm)] w λe w'=>e= .returned (lookAns (attrN x.attrs sp nm))/\Ext w w':=by
 obtain ⟨k,s,n,al,l,ks,kids,t,a⟩:=x;simp only[Nc.al,Nc.attrs,Nc.ks] at h Q hn;obtain ⟨A,c,rfl, -, -⟩:=h.form;obtain ⟨B,m,d,rfl⟩:=Q;simp only[cellsN,Nc.attrs];obtain ⟨R,V⟩:∃R,attrN l sp nm=R:=⟨_,rfl⟩;rw[V];have Z:Hid (attrN (l.drop 0) sp nm=R):=V;clear V;have M:=(Ext.refl w).alloc (.cells #[nI (k:Nat),.string (str s),.string (str n),.slice A l.length c,.slice B m d,.string (str t),nI (a:Nat)] 25);go_enter func31,ntmps31;go_wp2;go_loopw [13] (λv wr=>∃j:Nat,j<=l.length/\v=nI j/\Hid (attrN (l.drop j) sp nm=R)/\Ext (w.alloc (.cells #[nI (k:Nat),.string (str s),.string (str n),.slice A l.length c,.slice B m d,.string (str t),nI (a:Nat)] 25)) wr) (λv _=>l.length - (intOf v).toNat)
 case atStart=>exact ⟨0,Zh _,rfl,Z,Ext.refl _⟩
 case round=>
  obtain ⟨j,hj,rfl,S,U⟩:=hrel;by_cases F:j<l.length
  ·obtain ⟨ad,c',hv,I⟩:=(RAts.ext h (M.trans U)).at F;injection hv with hv1 hv2 hv3;subst hv1;clear hv2 hv3;have ha:(0:Int)<=(j:Int):=(by omega);have hb:(j:Int)<(l.length:Int):=(by omega);have D:=S.out;cases hq:(l[j].space==sp && l[j].name==nm) with
   |true=>
    rw[ZgB F hq] at D;obtain ⟨x,H⟩:∃x,l[j]=x:=⟨_,rfl⟩;rw[H] at I hq D;obtain ⟨a0,a1,a2,a3⟩:=I;rw[Z2] at hq;have q1:((str x.space).toList==(str sp).toList)=true:=(by rw[X8];exact hq.1);have q2:((str x.name).toList==(str nm).toList)=true:=(by rw[X8];exact hq.2);subst D;clear S hq H;have J:=(Ext.refl (wr.alloc (.cells #[.string (str x.space),.string (str x.name),.string (str x.value),nI (x.at_:Nat)] 88)));have c0:=J.boxed 0 _ rfl;have c1:=J.boxed 1 _ rfl;have c2:=J.boxed 2 _ rfl;clear J
    go_wp2_with (first|(refine Zc rfl 88 (.tmp 9) (.tmp 16) rfl wr.heap.size #[.string (str x.space),.string (str x.name),.string (str x.value),nI (x.at_:Nat)] rfl rfl _ _ (Zf _ _) YI rfl (Ju x) ?_;rw[Z4]))
    go_ret2
    exact ⟨rfl,(M.trans U).alloc _⟩
   |false=>
    rw[Ze1 F hq] at D;obtain ⟨x,H⟩:∃x,l[j]=x:=⟨_,rfl⟩;rw[H] at I hq;obtain ⟨a0,a1,a2,a3⟩:=I;have Y:=gd D;clear S D H;have J:=(Ext.refl (wr.alloc (.cells #[.string (str x.space),.string (str x.name),.string (str x.value),nI (x.at_:Nat)] 88)));have c0:=J.boxed 0 _ rfl;have c1:=J.boxed 1 _ rfl;have c2:=J.boxed 2 _ rfl;clear J;cases q1:((str x.space).toList==(str sp).toList) with
    |false=>
     clear hq
     go_wp2_with (first|(refine Zc rfl 88 (.tmp 9) (.tmp 16) rfl wr.heap.size #[.string (str x.space),.string (str x.name),.string (str x.value),nI (x.at_:Nat)] rfl rfl _ _ (Zf _ _) YI rfl (Ju x) ?_;rw[Z4]))
     go_roundw
     case rel=>exact ⟨j+1,F,by go_num,Y,U.alloc _⟩
     case measure=>simp[intOf];omega
    |true=>
     have q2:((str x.name).toList==(str nm).toList)=false:=(by rw[X8] at q1|-;rw[q1,XF] at hq;exact hq);clear hq
     go_wp2_with (first|(refine Zc rfl 88 (.tmp 9) (.tmp 16) rfl wr.heap.size #[.string (str x.space),.string (str x.name),.string (str x.value),nI (x.at_:Nat)] rfl rfl _ _ (Zf _ _) YI rfl (Ju x) ?_;rw[Z4]))
     go_roundw
     case rel=>exact ⟨j+1,F,by go_num,Y,U.alloc _⟩
     case measure=>simp[intOf];omega
  ·have X:j=l.length:=(by omega);have K:=S.out;rw[ZgA (by omega)] at K;subst K;clear S;subst X;go_wp2
   go_ret2
   exact ⟨rfl,M.trans U⟩
theorem G9 (x:Nc) (sp nm:List UInt8) (w:Wq) (h:RdN w x) (hn:x.kids.length<=16777216):
 Calls prog 29 #[.agg (cellsN x).toArray,.string (str sp),.string (str nm)] w λe w'=>∃v,e= .returned v/\w'.ownsRow w.heap.size 25 7 v (x.kids.filter (isKid sp nm)).length (flatN (x.kids.filter (isKid sp nm)))/\Ext w w':=by
 obtain ⟨i0,hu,hy,hz,hA⟩:=Yw UL;obtain ⟨k,s,n,al,l,ks,kids,t,a⟩:=x;rw[RdN] at h;obtain ⟨ha,Z,hl⟩:=h;simp only[Nc.kids] at hn;obtain ⟨A,c,rfl, -, -⟩:=ha.form;obtain ⟨B,d,rfl, -, -⟩:=RNs.form Z;simp only[cellsN,Nc.kids];have hm:RNs w (.slice B kids.length d) kids:=Z;have hf:=gd ((Xm kids).1 hl);clear Z hl;have hp:=(Ext.refl w).alloc (.cells #[nI (k:Nat),.string (str s),.string (str n),.slice A l.length c,.slice B kids.length d,.string (str t),nI (a:Nat)] 25);go_enter func29,ntmps29;go_wp2;go_loopw [7,13] (λu v wr=>∃j:Nat,j<=kids.length/\v=nI j/\wr.ownsRow (w.heap.size+1) 25 7 u ((kids.take j).filter (isKid sp nm)).length (flatN ((kids.take j).filter (isKid sp nm)))/\Ext (w.alloc (.cells #[nI (k:Nat),.string (str s),.string (str n),.slice A l.length c,.slice B kids.length d,.string (str t),nI (a:Nat)] 25)) wr) (λ_ v _=>kids.length - (intOf v).toNat)
 case atStart=>exact ⟨0,Zh _,rfl,YO _ _ _ _,Ext.refl _⟩
 case round=>
  obtain ⟨j,hj,rfl,D,hx⟩:=hrel;by_cases I:j<kids.length
  ·obtain ⟨ad,c',hv,hh⟩:=(RNs.ext hm (hp.trans hx)).at I;injection hv with hv1 hv2 hv3;subst hv1;clear hv2 hv3;have hC:(0:Int)<=(j:Int):=(by omega);have hD:(j:Int)<(kids.length:Int):=(by omega);have R:=ZeK (f:=isKid sp nm) I;have V:=Y6 (RdN.sl (hf.out kids[j] (Zz I)));have ho:=RdN.sl (hf.out kids[j] (Zz I));obtain ⟨F,hF⟩:∃F,(kids.take j).filter (isKid sp nm)=F:=⟨_,rfl⟩;have hg:F.length<=16777216:=(by have:=(List.filter_sublist (p:=isKid sp nm) (l:=kids.take j)).length_le;rw[ZG] at this;rw[<-hF];omega);rw[hF] at R D;obtain ⟨x,hq⟩:∃x,kids[j]=x:=⟨_,rfl⟩;rw[hq] at hh R V ho;obtain ⟨xk,xs,xn,hG,xl,hH,hd,xt,xa⟩:=x;obtain ⟨⟨XA,xm,xc,X⟩,⟨XB,he,xd,Y⟩⟩:=ho;simp only[Nc.al,Nc.ks] at X Y;subst X;subst Y;obtain ⟨a0,a1,a2,a3,a4,a5,a6⟩:=hh;simp only[Nc.kind,Nc.space,Nc.name,Nc.al,Nc.ks,Nc.text,Nc.at_] at a0 a1 a2 a3 a4 a5 a6;have M:=gd R;obtain ⟨HM,HB⟩:=UM hg;have HM:=gd HM;have HB:=gd HB;obtain ⟨U,uc,rfl⟩:=Z8 D;have hws:w.heap.size+1<=wr.heap.size:=(by have:=hx.size;rwa [Zt] at this);obtain ⟨W2,J⟩:∃W2,wr.alloc (.cells #[nI (xk:Nat),.string (str xs),.string (str xn),.slice XA xm xc,.slice XB he xd,.string (str xt),nI (xa:Nat)] 25)=W2:=⟨_,rfl⟩;have S:Ext wr W2:=(by rw[<-J];exact (Ext.refl wr).alloc _);have hi:BxN W2 wr.heap.size xk xs xn (.slice XA xm xc) (.slice XB he xd) xt xa:=(by rw[<-J];exact Zf wr _);obtain ⟨c0,c1,c2,c3,c4,c5,c6⟩:=hi.cells;have hr:=hx.trans S;have hc:=Yh D S;have hs:Hid (w.heap.size+1<=W2.heap.size):=gd (Zv hws S.size);have Q:=gd hr;have H:=gd hc;clear hi S hr D hx hws;clear R hq hF hg;by_cases hk:xk=0
   ·subst hk;rw[show ((0:Nat):Int)=0 from rfl] at c0 a0 J;cases q1:((str xs).toList==(str sp).toList) with
    |true=>
     cases q2:((str xn).toList==(str nm).toList) with
     |true=>
      go_wp2_with (first|(refine Zc rfl 25 (.tmp 9) (.tmp 16) rfl wr.heap.size _ rfl rfl _ _ (Zf _ _) ZD rfl YL ?_;rw[Z4];rw[J])|(at_builtin;refine ZH _ rfl (.tmp 32) (.tmp 34) _ rfl (w.heap.size+1) 25 i0 _ 7 112 underlying23 hu hy hz hA rfl (by decide) _ _ _ rfl (H.out.alloc _) _ 1 (cellsN (.mk 0 xs xn (.slice XA xm xc) xl (.slice XB he xd) hd xt xa)) rfl (Yp rfl (by decide)) V HM.out HB.out ?_ ?_;(rw[Zt];have:=hs.out;omega);intro v9 w9 hb ht hB))
      go_roundw
      case rel=>refine ⟨j+1,I,by go_num,?_,Ext.app (Q.out.alloc _) ht (H.out.alloc _) (by rw[Zt];exact Zb _)⟩;have K:=M.out;rw[Zl (by unfold isKid;simp only[Nc.kind,Nc.space,Nc.name];rw[X8] at q1 q2;rw[q1,q2];rfl)] at K;rw[K,UJ,UK,Zd];exact hb
      case measure=>simp[intOf];omega
     |false=>
      go_wp2_with (first|(refine Zc rfl 25 (.tmp 9) (.tmp 16) rfl wr.heap.size _ rfl rfl _ _ (Zf _ _) ZD rfl YL ?_;rw[Z4];rw[J]))
      go_roundw
      case rel=>refine ⟨j+1,I,by go_num,?_,Q.out⟩;have K:=M.out;rw[Zg (by unfold isKid;simp only[Nc.kind,Nc.space,Nc.name];rw[X8] at q2;rw[q2];simp)] at K;rw[K,Ye];exact H.out
      case measure=>simp[intOf];omega
    |false=>
     go_wp2_with (first|(refine Zc rfl 25 (.tmp 9) (.tmp 16) rfl wr.heap.size _ rfl rfl _ _ (Zf _ _) ZD rfl YL ?_;rw[Z4];rw[J]))
     go_roundw
     case rel=>refine ⟨j+1,I,by go_num,?_,Q.out⟩;have K:=M.out;rw[Zg (by unfold isKid;simp only[Nc.kind,Nc.space,Nc.name];rw[X8] at q1;rw[q1];simp)] at K;rw[K,Ye];exact H.out
     case measure=>simp[intOf];omega
   ·have hE:((xk:Int)==0)=false:=by rw[ZC];omega
    go_wp2_with (first|(refine Zc rfl 25 (.tmp 9) (.tmp 16) rfl wr.heap.size _ rfl rfl _ _ (Zf _ _) ZD rfl YL ?_;rw[Z4];rw[J]))
    go_roundw
    case rel=>refine ⟨j+1,I,by go_num,?_,Q.out⟩;have K:=M.out;rw[Zg (by unfold isKid;simp only[Nc.kind,Nc.space,Nc.name];simp[hk])] at K;rw[K,Ye];exact H.out
    case measure=>simp[intOf];omega
  ·have hw:j=kids.length:=(by omega);subst hw;rw[ZM (Zb _)] at D;go_wp2;go_ret;exact ⟨_,rfl,XM D (Yc _),hp.trans hx⟩
section
variable {k:Nat}
def attrFst (al:List AtP):List (List UInt8)->List UInt8
 | []=> []
 |n::t=>match attrN al [] n with
  |some v=>v
  |none=>attrFst al t
theorem G3 (al:List AtP) (nm:List UInt8):attrN al [] nm=attrIn al nm:=rfl
theorem Qr (al:List AtP) (a:List UInt8):attrFst al [a]=(attrIn al a).getD []:=by
 unfold attrFst;rw[G3];cases attrIn al a<;>rfl
theorem Zca (n:Nd):attrFst n.attrs [textL,titleL]=nameL n:=by
 unfold attrFst nameL attrL;rw[G3];cases attrIn n.attrs textL with
 |some v=>rfl
 |none=>exact Qr _ _
theorem U3:str ([]:List UInt8)=⟨#[]⟩:=rfl
theorem ZeJ:str xmlUrlL=⟨#[120,109,108,85,114,108]⟩:=rfl
theorem UG:str outlineL=⟨#[111,117,116,108,105,110,101]⟩:=rfl
theorem Zik:str bodyL=⟨#[98,111,100,121]⟩:=rfl
theorem ZiH {al:List AtP} {l:List (List UInt8)} {v:List UInt8} (A:k<l.length) (h:attrN al [] l[k]=some v):attrFst al (l.drop k)=v:=by
 rw[Zi A,attrFst,h]
theorem ZgP {al:List AtP} {l:List (List UInt8)} (A:k<l.length) (h:attrN al [] l[k]=none):attrFst al (l.drop k)=attrFst al (l.drop (k+1)):=by
 rw[Zi A,attrFst,h]
end
section
variable {B N j m n:Nat} {e:TypeId} {u v:Value} {w w1:World} {xs:List Value}
theorem Zad:(prog.info? 55).map (λi=>(i.zero,i.size,i.bytes))=some (some (.agg #[sN,eS,eS,eS,nI 0,sN]),6,104):=by kernel_rfl
theorem KW:(prog.info? 9).map (λi=>(i.zero,i.size,i.bytes))=some (some eS,1,16):=by kernel_rfl
theorem KR (h:n+m<=16777216):n+m<=maxLen/\(n+m)*104<=140737488355328:=by unfold maxLen;omega
theorem Ge (h:n+m<=16777216):n+m<=maxLen/\(n+m)*16<=140737488355328:=by unfold maxLen;omega
theorem UP (l:List ByteArray):∀u∈l.map Value.string,u.oneCell'=true:=by
 intro u h;obtain ⟨s,_,rfl⟩:=ZO.1 h;rfl
theorem Zft (n:Nd):1<=n.ht:=by cases n;rw[Nd.ht];omega
theorem ZdJ (nm:List UInt8) (x:Nc):isKid [] nm x=isEl nm x.nd:=by cases x;rw[Nc.nd];rfl
theorem VX (nm:List UInt8):∀l:List Nc,Nc.nds (l.filter (isKid [] nm))=(Nc.nds l).filter (isEl nm)
 | []=>by rw[Nc.nds];rfl
 |x::t=>by
  have ih:=VX nm t
  rw[Nc.nds,List.filter_cons,List.filter_cons,ZdJ]
  cases isEl nm x.nd with
  |true=>simp only[QE];rw[Nc.nds,ih]
  |false=>simp only[XN,Zco];exact ih
theorem Zd5 {l:List Nc} (h:j<l.length):(Nc.nds l).drop j=l[j].nd::(Nc.nds l).drop (j+1):=by
 rw[XX,Zi (by rw[Zk];exact h),Xv]
theorem ER (f:Nd->Bool):∀l:List Nd,Nds.cnt (l.filter f)<=Nds.cnt l
 | []=>Zb _
 |x::t=>by
  have ih:=ER f t
  rw[List.filter_cons,Nds.cnt]
  split
  ·rw[Nds.cnt];omega
  ·omega
theorem Zc1 (x:Nc) (nm:List UInt8):attrL x.nd nm=attrN x.attrs [] nm:=by cases x;rw[Nc.nd];rfl
theorem Zjb (x:Nc):nameL x.nd=attrFst x.attrs [textL,titleL]:=by
 rw[<-Zca];cases x;rw[Nc.nd];rfl
theorem Zlq (x:Nc):x.nd.at_=x.at_:=by cases x;rw[Nc.nd];rfl
theorem Zfn {x:Nc} (h:x.nd.fits N):x.attrs.length<=N:=by cases x;rw[Nc.nd,Nd.fits] at h;exact h.2.2.2.1
theorem RdN.ats {x:Nc} (h:RdN w x):RAts w x.al x.attrs:=by cases x;rw[RdN] at h;exact h.1
mutual
theorem ZaM:∀(n:Nd) (path:List ByteArray) (l:List Fd),visP n path= .ok l->l.length<=n.cnt
 | .mk k s nm al ks t a,path,l,h=>by
  rw[visP] at h
  have h1:=Zb4 ks path l h
  rw[Nd.cnt]
  omega
theorem Zb4:∀(ks:List Nd) (path:List ByteArray) (l:List Fd),visKs ks path= .ok l->l.length<=Nds.cnt ks
 | [],path,l,h=>by
  rw[visKs] at h
  injection h with h
  subst h
  exact Zh _
 |k::t,path,l,h=>by
  rw[visKs] at h
  split at h
  ·cases h
  ·rename_i l1 h1
   split at h
   ·cases h
   ·rename_i l2 h2
    injection h with h
    subst h
    have q2:=Zb4 t path l2 h2
    have q1:l1.length<=k.cnt:=by
     split at h1
     ·split at h1
      ·split at h1
       ·cases h1
       ·injection h1 with h1
        subst h1
        exact Zce k
      ·split at h1
       ·cases h1
       ·split at h1
        ·cases h1
        ·exact ZaM k _ l1 h1
     ·injection h1 with h1
      subst h1
      exact Zh _
    rw[Nds.cnt,Zd]
    omega
end
theorem GH {e2:TypeId} {size h K:Nat} {H:List Value} (I:w1.ownsRow B e size u n xs) (D:w.ownsRow w1.heap.size e2 h v K H) (A:H≠ []):v.ownBlock≠u.ownBlock:=by
 obtain ⟨g,F,J⟩:=RSl.old (RSl.of_own D) A;rw[F];intro e;have a:=(D.lt g F).1;have b:=(I.lt g e.symm).2;omega
theorem KQ {size:Nat} (h:w.ownsRow B e size v n xs) (A:xs≠ []) {r:Nat} (D:r<B):v.ownBlock≠some r:=λe=>by
 have:=(h.lt r e).1;omega
end
section
variable {k:Nat} {v:Value} {w:World}
theorem Kr {a b:List ByteArray} (h:k<a.length) (A:k<b.length):pathCmp (a.drop k) (b.drop k)=if sCmp a[k] b[k]=0 then pathCmp (a.drop (k+1)) (b.drop (k+1)) else sCmp a[k] b[k]:=by
 rw[Zi h,Zi A];rfl
theorem RStrs.at {l:List ByteArray} (h:RStrs w v l) (H:k<l.length):∃ad c,v= .slice (some ad) l.length c/\w.cell? (ad.add k)=some (.string l[k]):=by
 obtain ⟨_,A,c,e,_,_,_,D⟩:=h;obtain ⟨ad,rfl,F⟩:=D k (.string l[k]) (by rw[Ys,Zj H];rfl);exact ⟨ad,c,e,F⟩
theorem Zh9 (a:ByteArray):sCmp a a=0:=Vi.self a
theorem X9 (u v:Value) (a b:List ByteArray) (w:Wq) (ha:RStrs w u a) (hb:RStrs w v b) (hn:a.length<=16777216):
 Calls prog 75 #[u,v] w λe w'=>e= .returned (nI (pathCmp a b))/\Ext w w':=by
 obtain ⟨A,c,rfl,hd,hg⟩:=ha.form;obtain ⟨B,d,rfl,hf,hh⟩:=hb.form;have HA:Hid (a.length<=maxLen):=gd (by omega);have HB:Hid (b.length<=maxLen):=gd (by omega);clear hd hg hf hh;go_enter func75,ntmps75;go_wp2;go_loopw [5] (λi wr=>∃k:Nat,k<=a.length/\k<=b.length/\i=nI k/\Hid (pathCmp a b=pathCmp (a.drop k) (b.drop k))/\Ext w wr) (λi _=>a.length - (intOf i).toNat)
 case atStart=>exact ⟨0,Zh _,Zh _,rfl,gd rfl,Ext.refl _⟩
 case round=>
  obtain ⟨k,hl,hm,rfl,D,U⟩:=hrel;by_cases R:k<a.length
  ·by_cases H:k<b.length
   ·have S:=Kr R H;obtain ⟨ad,c1,e1,J⟩:=(ha.ext U).at R;injection e1 with e1 e2 e3;subst e1;obtain ⟨bd,d1,e4,K⟩:=(hb.ext U).at H;injection e4 with e4 e5 e6;subst e4;clear e2 e3 e5 e6;obtain ⟨x,X⟩:∃x,a[k]=x:=⟨_,rfl⟩;obtain ⟨y,Y⟩:∃y,b[k]=y:=⟨_,rfl⟩;rw[X,Y] at S;rw[X] at J;rw[Y] at K;have hc:=gd S;have HC:=gd (λw'=>UY x y w');clear S X Y;have hk:(0:Int)<=(k:Int):=(by omega);have hi:(k:Int)<(a.length:Int):=(by omega);have M:(k:Int)<(b.length:Int):=(by omega);have f0:∀d:Aft wr,d.w.cell? (ad.add k)=some (.string x):=Aft.cell J;have f1:∀d:Aft wr,d.w.cell? (bd.add k)=some (.string y):=Aft.cell K;cases hxy:(x.toList==y.toList) with
    |true=>
     have F:x=y:=toList_inj (by simpa using hxy);have I:=gd F;clear F;go_wp2;refine rA ?_
     repeat (first|go_big_quiet_step (fail)|quiet_step (fail))
     refine Z5 ?_;rintro _ ⟨d1,rfl⟩;have V:=U.trans d1.ext;clear f0 f1;go_wp2;go_roundw
     case rel=>refine ⟨k+1,by omega,by omega,by go_num,gd ?_,V⟩;rw[D.out,hc.out,I.out,Zl (Zh9 _)]
     case measure=>simp[intOf];omega
    |false=>
     have F:¬sCmp x y=0:=(by intro e;have:=Ev e;rw[this] at hxy;simp at hxy);have I:=gd F;clear F;go_wp2;refine rA ?_
     repeat (first|go_big_quiet_step (fail)|quiet_step (fail))
     refine Z5 ?_;rintro _ ⟨d1,rfl⟩;have V:=U.trans d1.ext;have g0:∀d:Aft d1.w,d.w.cell? (ad.add k)=some (.string x):=λd=>(d1.ext.trans d.ext).cell J;have g1:∀d:Aft d1.w,d.w.cell? (bd.add k)=some (.string y):=λd=>(d1.ext.trans d.ext).cell K;clear f0 f1;go_wp2;refine rA ?_
     repeat (first|go_big_quiet_step ((go_at_call 80;with_reducible exact Vy (HC.out _)))|quiet_step ((go_at_call 80;with_reducible exact Vy (HC.out _))))
     refine Z5 ?_;rintro _ ⟨d2,rfl⟩;have hj:=V.trans d2.ext;clear g0 g1;go_wp2;go_ret;have h:pathCmp a b=sCmp x y:=(by rw[D.out,hc.out,Zg I.out]);exact ⟨by rw[h];rfl,hj⟩
   ·have Q:k=b.length:=(by omega);subst Q;have h:pathCmp a b=1:=(by rw[D.out,Zw (Zb _),Zi R];rfl);have Z:=gd h;clear h D;have M:¬(b.length:Int)<(b.length:Int):=(by omega);have hi:(b.length:Int)<(a.length:Int):=(by omega);have he:¬(a.length:Int)<(b.length:Int):=(by omega);go_wp2;go_ret;exact ⟨by rw[Z.out];rfl,U⟩
  ·have Q:k=a.length:=(by omega);subst Q;by_cases H:a.length<b.length
   ·have h:pathCmp a b= -1:=(by rw[D.out,Zw (Zb a.length),Zi H];rfl);have Z:=gd h;clear h D;have M:(a.length:Int)<(b.length:Int):=(by omega);go_wp2;go_ret;exact ⟨by rw[Z.out];rfl,U⟩
   ·have ho:b.length=a.length:=(by omega);have h:pathCmp a b=0:=(by rw[D.out,Zw (Zb a.length),Zw (by omega)];rfl);have Z:=gd h;clear h D;have M:¬(a.length:Int)<(b.length:Int):=(by omega);have he:¬(b.length:Int)<(a.length:Int):=(by omega);go_wp2;go_ret;exact ⟨by rw[Z.out];rfl,U⟩
end
section
variable {B cb db:Nat} {W:World} {α:Type}
structure KpF (zs cb db:Nat) (W W':Wq):Prop where
 os:W'.os=W.os
 tape:W'.tape=W.tape
 output:W'.output=W.output
 size:W.heap.size<=W'.heap.size
 block:∀k,k<zs\/k=cb\/k=db->W'.heap[k]? =W.heap[k]?
theorem KpF.trans {zs:Nat} {A B C:Wq} (h:KpF zs cb db A B) (D:KpF zs cb db B C):KpF zs cb db A C:=
 ⟨D.os.trans h.os,D.tape.trans h.tape,D.output.trans h.output,Zv h.size D.size,λk F=>(D.block k F).trans (h.block k F)⟩
theorem KpF.put {zs:Nat} {l:Nat} {o':Obj} (H:B<=l) (h:zs<=B) (A:cb<B) (D:db<B):KpF zs cb db W (W.putObj l o'):=
 ⟨rfl,rfl,rfl,by rw[World.putObj_size];exact Zb _,λk F=>XS (by omega)⟩
theorem KpF.ext {z W':Wq} (h:KpF z.heap.size cb db W W') (D:Ext z W):Ext z W':=
 D.then ⟨h.os,h.tape,h.output,h.size,λk A=>h.block k (Or.inl A)⟩
def leftF (cb:Nat) (w:Wq):Nat:=match w.cell? ⟨cb,0,none⟩ with|some (.slice _ n _)=>n|_=>0
def encG (g:Grp):Array Value:=#[.string g.name,g.v]
theorem ZkZ (a b:ByteArray):decide (a=b)=(a.toList==b.toList):=by
 by_cases h:a=b
 ·rw[h,YJ rfl];simp
 ·rw[Yf h]
  symm
  rw[ZC,Z7,Z7];intro e;refine h (ByteArray.ext ?_);exact Array.ext' e
theorem ZjL {β:Type} (g:α->β) (p:α->Bool) (q:β->Bool) (h:∀a,p a=q (g a)):∀l:List α,(l.takeWhile p).length=((l.map g).takeWhile q).length
 | []=>rfl
 |a::t=>by
  rw[ZP,YS,YS,h a]
  split
  ·rw[Ze,Ze,ZjL g p q h t]
  ·rfl
section
variable {α:Type} {l:List α} {p:α→Bool} {k:Nat}
theorem Zgx (h:k<l.length) (A:p l[k]=true):k+((l.drop k).takeWhile p).length=k+1+((l.drop (k+1)).takeWhile p).length:=by
 rw[Zi h,YS,Zl A,Ze];omega
theorem Zgy (h:k<l.length) (A:p l[k]=false):k+((l.drop k).takeWhile p).length=k:=by
 rw[Zi h,YS,A];rfl
theorem ZjT (h:l.length<=k):k+((l.drop k).takeWhile p).length=k:=by
 rw[Zw h];rfl
end
theorem Zh8 (d:Nat) (x:Fc) (t:List Fc):runN d ((x::t).map Fc.f)=1+(((((x::t).map λy=>pathAt y.f d)).drop 1).takeWhile λq=>q.toList==(pathAt x.f d).toList).length:=by
 show (((x::t).map Fc.f).takeWhile λy=>decide (pathAt y d=pathAt x.f d)).length=_;rw[ZjL (λy=>pathAt y d) _ (λq=>q.toList==(pathAt x.f d).toList) (λa=>ZkZ _ _),J4];show (((pathAt x.f d)::t.map (λy=>pathAt y.f d)).takeWhile _).length=_;rw[YS,Zl (by simp),Ze,Nat.add_comm];rfl
theorem Zdx (d:Nat) (z w:Wq) (cb db:Nat) (v:Value) (l:List Fc) (hz:Ext z w) (gB:z.heap.size<=cb) (g3:z.heap.size<=db) (gn:cb≠db) (hv:RFcs z v l) (hi:∀x∈l,RdC z x/\d<x.f.path.length) (hl:l.length<=16777216) (gO:d<=1000)
 (U:w.heap[cb]? =some (.cells #[v] 29 (0,0))) (hg:w.heap[db]? =some (.cells #[nI (d:Nat)] 3 (0,0))) (n:Nat):
 CellSeq Fence.wide n prog 133 #[.pointer (some ⟨cb,0,none⟩),.pointer (some ⟨db,0,none⟩)] encG cb (KpF z.heap.size cb db) (grps d (l.length+1) v l) w:=by
 intro ln J W hE gh gg hY h0;refine callsIn_wide.2 ?_;have gI:=gd (hz.trans hE);have HY:=gd hY;have hP:=gd gh;have h7:=gd gg;have H0:=gd h0;have gC:=gd (hE.heap U);have gD:=gd (hE.heap hg);have HV:=gd hv;have gG:=gd hi;have HL:=gd hl;obtain ⟨X,hX⟩:∃X,grps d (l.length+1) v l=X:=⟨_,rfl⟩;rw[hX] at HY|-;have HX:=gd hX;clear hE hY gh gg h0 U hg hv hi hl hX hz;have gk:(#[.func (.yield ln) #[] #[]]++#[.pointer (some ⟨cb,0,none⟩),.pointer (some ⟨db,0,none⟩)]:Array Value)=#[.func (.yield ln) #[] #[],.pointer (some ⟨cb,0,none⟩),.pointer (some ⟨db,0,none⟩)]:=rfl;rw[gk];clear gk;go_enter func133,ntmps133;go_wp2;go_loopw [4,5] (λ_ _ wr=>∃(s:List Grp) (f:Nat) (v':Value) (r:List Fc),J s wr/\wr.heap[cb]? =some (.cells #[v'] 29 (0,0))/\wr.heap[db]? =some (.cells #[nI (d:Nat)] 3 (0,0))/\Ext z wr/\RFcs z v' r/\(∀x∈r,RdC z x/\d<x.f.path.length)/\r.length<f/\r.length<=16777216/\Hid (s++grps d f v' r=X)) (λ_ _ wr=>leftF cb wr)
 case atStart=>exact ⟨[],l.length+1,v,l,H0.out,gC.out,gD.out,gI.out,HV.out,gG.out,YW _,HL.out,HX.out⟩
 case round=>
  obtain ⟨s,f,v',r,hJ,U,hg,hF,hv,hi,gt,gu,hX⟩:=hrel;have c0:wr.cell? ⟨cb,0,none⟩=some v':=by rw[Zs U];rfl
  have c1:wr.cell? ⟨db,0,none⟩=some (nI (d:Nat)):=by rw[Zs hg];rfl
  cases r with
  |nil=>have gy:=hv;obtain ⟨-,A,c,rfl, -⟩:=hv;go_wp2;go_end0;have I:=hX.out;obtain ⟨f,rfl⟩:∃f',f=f'+1:=⟨f - 1,by omega⟩;rw[grps,Ye] at I;rw[<-I];exact ⟨⟨_,rfl⟩,hJ⟩
  |cons x t=>
   obtain ⟨f,rfl⟩:∃f',f=f'+1:=⟨f - 1,by omega⟩;obtain ⟨ad,c,rfl,hf⟩:=RFcs.at (RSl.ext hv hF) (k:=0) (by rw[Ze];omega);rw[Xf,add_zero,JB] at hf;obtain ⟨gz,F⟩:=hi x ZS;obtain ⟨pa,pc,gp,hD⟩:=RStrs.at (gz.1.ext hF) F;obtain ⟨m,hm⟩:∃m,(x::t).length=m:=⟨_,rfl⟩;have gL:1<=m:=(by rw[<-hm,Ze];omega);rw[hm] at c0;have a0:=hf.c0;rw[gp] at a0;obtain ⟨pl,hC⟩:∃pl,x.f.path.length=pl:=⟨_,rfl⟩;have gJ:(d:Int)<(pl:Int):=(by rw[hC] at F;omega);have gU:(0:Int)<=(d:Int):=(by omega);have gY:(0:Int)<(m:Int):=(by omega);have g2:¬m=0:=(by omega);have hI:m<=c:=(by obtain ⟨_,A9,c9,e9,h9, -⟩:=hv;injection e9 with e91 e92 e93;rw[hm] at h9;rw[e93];exact h9);have gb:=gd hI;clear hI;rw[hC] at a0;have gl:x.f.path[d]=pathAt x.f d:=(by unfold pathAt;rw[Z0,Zj F];rfl);rw[gl] at hD;obtain ⟨nm,h4⟩:∃nm,pathAt x.f d=nm:=⟨_,rfl⟩;rw[h4] at hD;have HV:=gd hv;have hk:=gd hi;have M:=gd hm;have gS:=gd F;have gR:=gd hC;have hT:=gd h4;have gP:=gd hf;have HJ:=gd hJ;have ho:=gd hF;have gc:=gd gt;have hU:=gd gu;clear hv hi hm F hC h4 hf gp hJ hF gt gu gz gl;go_wp2;refine rN ?_;change wpAny _ _ _ _ _ _ _ (World.drew _);have F:=(Ext.refl wr).drew;obtain ⟨Wd,gj⟩:∃Wd,wr.drew=Wd:=⟨_,rfl⟩;rw[gj] at F|-;have b0:=F.cell c0;have b1:=F.cell c1;have b2:=F.cell a0;have b3:=F.cell hD;refine Yi (λw'=>w'=Wd) ?_;refine tS 0 (.slice (some ad) m c) rfl (λw' D=>by subst D;go_simp) rfl ?_;refine tS 1 (.pointer (some ad)) rfl (λw' D=>by subst D;go_simp) rfl ?_;refine tS 2 (.pointer (some ad)) rfl (λw' D=>by subst D;go_simp) rfl ?_;refine tS 3 (.slice (some pa) pl pc) rfl (λw' D=>by subst D;go_simp) rfl ?_;refine tS 4 (nI (d:Nat)) rfl (λw' D=>by subst D;go_simp) rfl ?_;refine tS 5 (.pointer (some (pa.add d))) rfl (λw' D=>by subst D;go_simp) rfl ?_;refine tS 6 (.string nm) rfl (λw' D=>by subst D;go_simp) rfl ?_;refine tS 7 (.string nm) rfl (λw' D=>by subst D;go_simp) rfl ?_;go_simp;refine sE ?_;have hn:=gd (Zh8 d x t);rw[hT.out] at hn;have hA:Hid (((x::t).map λy=>pathAt y.f d).length=m):=gd (by rw[Zk];exact M.out);obtain ⟨R,hR⟩:∃R,runN d ((x::t).map Fc.f)=R:=⟨_,rfl⟩;rw[hR] at hn;have HR:=gd hR;have gN:=gd (ho.out.trans F);have ge:=gd F;have gQ:=gd (hP.out _ _ _ HJ.out F);clear b0 b1 b2 b3 c0 c1 a0 hD gJ F gj hR;obtain ⟨wQ,gM⟩:∃wQ:Wq,wQ=wr:=⟨_,rfl⟩;subst gM;go_wp2;rename_i K5 gi;have h8:=gd gi;clear gi;go_loopw [5] (λv wi=>∃k:Nat,1<=k/\k<=m/\v=nI k/\Hid (R=k+((((x::t).map λy=>pathAt y.f d).drop k).takeWhile λq=>q.toList==nm.toList).length)/\Ext wQ wi) (λv _=>m - (intOf v).toNat)
   case atStart=>exact ⟨1,Zb _,gL,rfl,hn,ge.out⟩
   case round=>
    obtain ⟨k,gX,hu,rfl,ht,hh⟩:=hrel;have ga:Hid (k<=c):=gd (Zv hu gb.out);have gZ:m<=16777216:=(by have:=hU.out;rw[M.out] at this;exact this);have c0:=hh.cell ((Zs U 0).trans rfl);have c1:=hh.cell ((Zs hg 0).trans rfl);rw[M.out] at c0;by_cases hw:k<m
    ·have hK:k<(x::t).length:=(by rw[M.out];exact hw);obtain ⟨gT,c2,gy,hf⟩:=RFcs.at (RSl.ext HV.out (ho.out.trans hh)) (k:=k) hK;injection gy with hv21 hv22 hv23;injection hv21 with hv21;subst hv21;clear hv22 hv23;obtain ⟨gA,hH⟩:=hk.out _ (Zz hK);obtain ⟨qa,qc,gs,gr⟩:=RStrs.at (gA.1.ext (ho.out.trans hh)) hH;have h5:((x::t).map λy=>pathAt y.f d)[k]'(by rw[hA.out];exact hw)=(x::t)[k].f.path[d]:=(by rw[Xv];unfold pathAt;rw[Z0,Zj hH];rfl);have a0:=hf.c0;rw[gs] at a0;obtain ⟨ql,gq⟩:∃ql,(x::t)[k].f.path.length=ql:=⟨_,rfl⟩;rw[gq] at a0 hH;have gV:(d:Int)<(ql:Int):=(by omega);obtain ⟨ny,go⟩:∃ny,(x::t)[k].f.path[d]=ny:=⟨_,rfl⟩;rw[go] at gr h5;obtain ⟨b,hb⟩:∃b,(ny.toList==nm.toList)=b:=⟨_,rfl⟩;have gW:(0:Int)<=(k:Int):=(by omega);have gm:(k:Int)<(m:Int):=(by omega);have hB:=gd hh;have gf:=gd h5;have h6:=gd hb;clear hf gs gA hH hh h5 go gq;go_wp2;refine rN ?_;change wpAny _ _ _ _ _ _ _ (World.drew _);have F:=(Ext.refl wr).drew;obtain ⟨We,hZ⟩:∃We,wr.drew=We:=⟨_,rfl⟩;rw[hZ] at F|-;have b0:=F.cell c0;have b1:=F.cell c1;have b2:=F.cell a0;have b3:=F.cell gr;refine Yi (λw'=>w'=We) ?_;refine tS 0 (nI (k:Nat)) rfl (λw' D=>by subst D;go_simp) rfl ?_;refine tS 1 (.slice (some ad) m c) rfl (λw' D=>by subst D;go_simp) rfl ?_;refine tS 2 (nI (m:Nat)) rfl (λw' D=>by subst D;go_simp) rfl ?_;refine tS 3 (.bool true) rfl (λw' D=>by subst D;go_simp) rfl ?_;go_simp;refine tS 4 (.bool true) rfl (λw' D=>by subst D;go_simp) rfl ?_;go_simp;refine tS 5 (.slice (some ad) m c) rfl (λw' D=>by subst D;go_simp) rfl ?_;go_simp;refine tS 6 (nI (k:Nat)) rfl (λw' D=>by subst D;go_simp) rfl ?_;go_simp;refine tS 7 (.pointer (some (ad.add (k*6)))) rfl (λw' D=>by subst D;go_simp) rfl ?_;go_simp;refine tS 8 (.pointer (some (ad.add (k*6)))) rfl (λw' D=>by subst D;go_simp) rfl ?_;go_simp;refine tS 9 (.slice (some qa) ql qc) rfl (λw' D=>by subst D;go_simp) rfl ?_;go_simp;refine tS 10 (nI (d:Nat)) rfl (λw' D=>by subst D;go_simp) rfl ?_;go_simp;refine tS 11 (.pointer (some (qa.add d))) rfl (λw' D=>by subst D;go_simp) rfl ?_;go_simp;refine tS 12 (.string ny) rfl (λw' D=>by subst D;go_simp) rfl ?_;go_simp;refine tS 13 (.string nm) rfl (λw' D=>by subst D;go_simp) rfl ?_;go_simp;refine tS 14 (.bool b) rfl (λw' D=>by subst D;go_simp) rfl ?_;go_simp;refine tS 15 (.bool b) rfl (λw' D=>by subst D;go_simp) rfl ?_;go_simp;refine sE ?_;have H:=ht.out;cases b with
     |true=>
      rw[Zgx (by rw[hA.out];exact hw) (by rw[gf.out];exact h6.out)] at H;have gE:=gd H;clear H ht;have gH:=gd (hB.out.trans F);go_wp2;go_roundw
      case rel=>exact ⟨k+1,by omega,hw,by go_num,gE.out,gH.out⟩
      case measure=>simp[intOf];omega
     |false=>
      rw[Zgy (by rw[hA.out];exact hw) (by rw[gf.out];exact h6.out)] at H;have hx:=hB.out;go_wp2;refine h8.out _ _ ?_;have Q:=gd (hx.trans F);obtain ⟨LV,K⟩:∃LV,loV k (.slice (some ad) m c)=LV:=⟨_,rfl⟩;obtain ⟨UV,he⟩:∃UV,hiV k (.slice (some ad) m c)=UV:=⟨_,rfl⟩;obtain ⟨G,hG⟩:∃G:Grp,G=⟨nm,UV,(x::t).take k⟩:=⟨_,rfl⟩;have I:=hX.out;rw[grps,hT.out,HR.out,H,M.out,K,he,<-hG] at I;have hc:(s++ [G])<+:X:=⟨grps d f LV ((x::t).drop k),by rw[<-I,Ym];rfl⟩;have h1:=HV.out.form;have gx:∀Y:Wq,(Instr.slice 29 (.slice (some ad) m c) (some (nI (k:Nat))) none none).run prog Y= .ok LV Y:=λY=>(by rw[<-K];exact ZcO hu Y);have gw:∀Y:Wq,(Instr.slice 29 (.slice (some ad) m c) none (some (nI (k:Nat))) none).run prog Y= .ok UV Y:=λY=>(by rw[<-he];exact Zjz ga.out Y);obtain ⟨fn,tmps,assign,body,hy,hs⟩:=HY.out s G We hc (hP.out _ _ _ HJ.out Q.out);have ha:encG G=#[.string nm,UV]:=(by rw[hG];rfl);rw[ha] at hy;have hj:=gd (Q.out.heap U);have hN:=gd (Q.out.heap hg);have e0:We.cell? ⟨cb,0,none⟩=some (.slice (some ad) m c):=(by have h:=Zs hj.out 0;rw[M.out] at h;exact h);have Z:=gd (show ((x::t).drop k).length<f/\((x::t).drop k).length<=16777216 by rw[Zm,M.out];have:=gc.out;have:=hU.out;rw[M.out] at*;omega);have hV:Hid (RFcs z LV ((x::t).drop k)):=gd (by rw[<-K];have h:=QI k HV.out (by rw[M.out];exact hu);rw[M.out] at h;exact h);have gF:Hid (leftF cb=leftF cb):=gd rfl;have hd:∃A q,LV= .slice A (m - k) q:=⟨_,_,K.symm⟩;have hW:Hid ((s++ [G])++grps d f LV ((x::t).drop k)=X):=gd (by rw[<-I,Ym];rfl);clear I hc K he hG h1 ha hX;refine (wpIn_wide (n:=n)).1 ?_;gi_wp2;refine ⟨λh=>absurd h (by decide),hs.mono ?_⟩;rintro e W3 ⟨rfl,hr,V⟩;have S:=(V.block cb (Or.inr (Or.inl rfl))).trans hj.out;have hp:=(V.block db (Or.inr (Or.inr rfl))).trans hN.out;have g0:W3.cell? ⟨cb,0,none⟩=some (.slice (some ad) m c):=(by have h:=Zs S 0;rw[M.out] at h;exact h);have g1:W3.frozen? ⟨cb,0,none⟩=false:=ZX S 0;have hM:=gd S;have hL:=gd hp;have hO:=gd hr;have hQ:=gd V;clear S hp hr V hy hs;obtain ⟨LA,lq,hd⟩:=hd;subst hd;gi_wp2;have hq:(W3.setCell ⟨cb,0,none⟩ (.slice LA (m - k) lq)).heap[cb]? =some (.cells #[.slice LA (m - k) lq] 29 (0,0)):=Yd W3 cb 0 _ _ _ hM.out;have h2:leftF cb (W3.setCell ⟨cb,0,none⟩ (.slice LA (m - k) lq))=m - k:=(by unfold leftF;rw[Zs hq];rfl);have h3:leftF cb wQ=m:=(by unfold leftF;rw[Zs U];exact M.out);go_roundw
      case rel=>exact ⟨s++ [G],f,_,(x::t).drop k,h7.out _ _ _ hO.out,hq,(ZY W3 ⟨cb,0,none⟩ db _ (λe=>gn e.symm)).trans hL.out,((KpF.ext hQ.out (ho.out.trans Q.out)).setCell gB _),hV.out,(λy hy=>hk.out y (YV hy)),Z.out.1,Z.out.2,hW.out⟩
      case measure=>rw[h2,h3];omega
    ·have gK:k=m:=(by omega);have H:=ht.out;rw[ZjT (by rw[hA.out];omega)] at H;have hB:=gd hh;have gm:¬(k:Int)<(m:Int):=(by omega);clear gK;go_wp2;refine rN ?_;change wpAny _ _ _ _ _ _ _ (World.drew _);have F:=(Ext.refl wr).drew;obtain ⟨We,hZ⟩:∃We,wr.drew=We:=⟨_,rfl⟩;rw[hZ] at F|-;have b0:=F.cell c0;have b1:=F.cell c1;refine Yi (λw'=>w'=We) ?_;refine tS 0 (nI (k:Nat)) rfl (λw' D=>by subst D;go_simp) rfl ?_;go_simp;refine tS 1 (.slice (some ad) m c) rfl (λw' D=>by subst D;go_simp) rfl ?_;go_simp;refine tS 2 (nI (m:Nat)) rfl (λw' D=>by subst D;go_simp) rfl ?_;go_simp;refine tS 3 (.bool false) rfl (λw' D=>by subst D;go_simp) rfl ?_;go_simp;refine tS 4 (.bool false) rfl (λw' D=>by subst D;go_simp) rfl ?_;go_simp;refine YE (i:=5) (v:=undef) rfl (by kernel_rfl) (λ_ _ _ h=>h) (Or.inr ⟨by rfl,rfl⟩) rfl ?_;go_simp;refine YE (i:=6) (v:=undef) rfl (by kernel_rfl) (λ_ _ _ h=>h) (Or.inr ⟨by rfl,rfl⟩) rfl ?_;go_simp;refine YE (i:=7) (v:=undef) rfl (by kernel_rfl) (λ_ _ _ h=>h) (Or.inr ⟨by rfl,rfl⟩) rfl ?_;go_simp;refine YE (i:=8) (v:=undef) rfl (by kernel_rfl) (λ_ _ _ h=>h) (Or.inr ⟨by rfl,rfl⟩) rfl ?_;go_simp;refine YE (i:=9) (v:=undef) rfl (by kernel_rfl) (λ_ _ _ h=>h) (Or.inr ⟨by rfl,rfl⟩) rfl ?_;go_simp;refine YE (i:=10) (v:=undef) rfl (by kernel_rfl) (λ_ _ _ h=>h) (Or.inr ⟨by rfl,rfl⟩) rfl ?_;go_simp;refine YE (i:=11) (v:=undef) rfl (by kernel_rfl) (λ_ _ _ h=>h) (Or.inr ⟨by rfl,rfl⟩) rfl ?_;go_simp;refine YE (i:=12) (v:=undef) rfl (by kernel_rfl) (λ_ _ _ h=>h) (Or.inr ⟨by rfl,rfl⟩) rfl ?_;go_simp;refine YE (i:=13) (v:=undef) rfl (by kernel_rfl) (λ_ _ _ h=>h) (Or.inr ⟨by rfl,rfl⟩) rfl ?_;go_simp;refine YE (i:=14) (v:=undef) rfl (by kernel_rfl) (λ_ _ _ h=>h) (Or.inr ⟨by rfl,rfl⟩) rfl ?_;go_simp;refine tS 15 (.bool false) rfl (λw' D=>by subst D;go_simp) rfl ?_;go_simp;refine sE ?_;have hx:=hB.out;go_wp2;refine h8.out _ _ ?_;have Q:=gd (hx.trans F);obtain ⟨LV,K⟩:∃LV,loV k (.slice (some ad) m c)=LV:=⟨_,rfl⟩;obtain ⟨UV,he⟩:∃UV,hiV k (.slice (some ad) m c)=UV:=⟨_,rfl⟩;obtain ⟨G,hG⟩:∃G:Grp,G=⟨nm,UV,(x::t).take k⟩:=⟨_,rfl⟩;have I:=hX.out;rw[grps,hT.out,HR.out,H,M.out,K,he,<-hG] at I;have hc:(s++ [G])<+:X:=⟨grps d f LV ((x::t).drop k),by rw[<-I,Ym];rfl⟩;have h1:=HV.out.form;have gx:∀Y:Wq,(Instr.slice 29 (.slice (some ad) m c) (some (nI (k:Nat))) none none).run prog Y= .ok LV Y:=λY=>(by rw[<-K];exact ZcO hu Y);have gw:∀Y:Wq,(Instr.slice 29 (.slice (some ad) m c) none (some (nI (k:Nat))) none).run prog Y= .ok UV Y:=λY=>(by rw[<-he];exact Zjz ga.out Y);obtain ⟨fn,tmps,assign,body,hy,hs⟩:=HY.out s G We hc (hP.out _ _ _ HJ.out Q.out);have ha:encG G=#[.string nm,UV]:=(by rw[hG];rfl);rw[ha] at hy;have hj:=gd (Q.out.heap U);have hN:=gd (Q.out.heap hg);have e0:We.cell? ⟨cb,0,none⟩=some (.slice (some ad) m c):=(by have h:=Zs hj.out 0;rw[M.out] at h;exact h);have Z:=gd (show ((x::t).drop k).length<f/\((x::t).drop k).length<=16777216 by rw[Zm,M.out];have:=gc.out;have:=hU.out;rw[M.out] at*;omega);have hV:Hid (RFcs z LV ((x::t).drop k)):=gd (by rw[<-K];have h:=QI k HV.out (by rw[M.out];exact hu);rw[M.out] at h;exact h);have gF:Hid (leftF cb=leftF cb):=gd rfl;have hd:∃A q,LV= .slice A (m - k) q:=⟨_,_,K.symm⟩;have hW:Hid ((s++ [G])++grps d f LV ((x::t).drop k)=X):=gd (by rw[<-I,Ym];rfl);clear I hc K he hG h1 ha hX;refine (wpIn_wide (n:=n)).1 ?_;gi_wp2;refine ⟨λh=>absurd h (by decide),hs.mono ?_⟩;rintro e W3 ⟨rfl,hr,V⟩;have S:=(V.block cb (Or.inr (Or.inl rfl))).trans hj.out;have hp:=(V.block db (Or.inr (Or.inr rfl))).trans hN.out;have g0:W3.cell? ⟨cb,0,none⟩=some (.slice (some ad) m c):=(by have h:=Zs S 0;rw[M.out] at h;exact h);have g1:W3.frozen? ⟨cb,0,none⟩=false:=ZX S 0;have hM:=gd S;have hL:=gd hp;have hO:=gd hr;have hQ:=gd V;clear S hp hr V hy hs;obtain ⟨LA,lq,hd⟩:=hd;subst hd;gi_wp2;have hq:(W3.setCell ⟨cb,0,none⟩ (.slice LA (m - k) lq)).heap[cb]? =some (.cells #[.slice LA (m - k) lq] 29 (0,0)):=Yd W3 cb 0 _ _ _ hM.out;have h2:leftF cb (W3.setCell ⟨cb,0,none⟩ (.slice LA (m - k) lq))=m - k:=(by unfold leftF;rw[Zs hq];rfl);have h3:leftF cb wQ=m:=(by unfold leftF;rw[Zs U];exact M.out);go_roundw
     case rel=>exact ⟨s++ [G],f,_,(x::t).drop k,h7.out _ _ _ hO.out,hq,(ZY W3 ⟨cb,0,none⟩ db _ (λe=>gn e.symm)).trans hL.out,((KpF.ext hQ.out (ho.out.trans Q.out)).setCell gB _),hV.out,(λy hy=>hk.out y (YV hy)),Z.out.1,Z.out.2,hW.out⟩
     case measure=>rw[h2,h3];omega
end
theorem Zdw (A:Option Addr) (n c:Nat) (d:Nat) (w:Wq):
 Calls prog 89 #[.slice A n c,nI (d:Nat)] w λe w'=>e= .returned (.func (.func 133) #[] #[.pointer (some ⟨w.heap.size,0,none⟩),.pointer (some ⟨w.heap.size+1,0,none⟩)])/\
  w'.heap[w.heap.size]? =some (.cells #[.slice A n c] 29 (0,0))/\w'.heap[w.heap.size+1]? =some (.cells #[nI (d:Nat)] 3 (0,0))/\Ext w w'/\w'.heap.size=w.heap.size+2:=by
 go_enter func89,ntmps89;go_wp2;go_ret;exact ⟨rfl,(JP _ _ (by rw[Zt];omega)).trans (Zf w _),YD w _ _,((Ext.refl w).alloc _).alloc _,(by rw[Zt,Zt])⟩
section
variable {a:Act} {o:Oper} {w:World}
section
variable {P:Program} {ops:Array Oper} {Q:Exit→Act→World→Prop} {l n:Nat}
theorem Zd9 {K:Act->Wq->Prop} (A:∀c,o.op≠ .defer c) (h:o.wp P a w K Q):o.wpIn (Fence.wide.inRound l) n P a w K Q:=by
 refine ⟨λ_ _=>trivial,?_⟩;rw[Fence.inRound_round,Oper.semAt_some l a.eval o A];unfold Oper.wp at h;generalize (execOp a.eval o).run P w=r at*;cases r with
 |ok x w'=>
  cases x with
  |enter f args=>exact ⟨λh=>absurd (show false=true from h) (by decide),CallsIn.inRound l (callsIn_wide.2 h)⟩
  |row row args=>exact ⟨λh=>absurd (show false=true from h) (by decide),λc cs _=>let ⟨v,D,r,s⟩:=h c cs;⟨v,D,r,stepsIn_wide.2 s⟩⟩
  |round l' f tmps assign body=>exact h.elim
  |value v=>exact h
  |skip=>exact h
  |defer d=>exact h
  |_=>exact h
 |halt x w'=>cases x<;>exact h
theorem Zcz (D:∀(i:Nat) (o:Oper),ops[i]? =some o->∀c,o.op≠ .defer c) (H:¬LetsOut Q):∀(fuel:Nat) (listed:Array Bool) (a:Act) (w:Wq),wpAny P .any ops Q fuel listed a w->wpAnyIn (Fence.wide.inRound l) n P .any ops Q fuel listed a w:=by
 intro fuel
 induction fuel with
 |zero=>intro listed a w h;exact h
 |succ fuel ih=>
  intro listed a w h;refine ⟨h.1,λi I=> ?_⟩;have A:=JJ (λa w=>ih (listed.setIfInBounds i true) a w) (h.2 i I);unfold wpOp at A;unfold wpOpIn;cases ho:ops[i]? with
  |none=>simp only[ho] at A|-;exact A
  |some o=>
   simp only[ho] at A|-;split
   ·rename_i F;rw[Zl F] at A;rcases A with A|A
    ·exact Zd9 (D i o ho) A
    ·exact absurd A.2 H
   ·rename_i F;rw[Zg F] at A;exact ⟨λ_ _=>trivial,A⟩
theorem El {id:Nat} (F:P.follows .mixedOrders=true) (A:∀(i:Nat) (o:Oper),ops[i]? =some o->∀c,o.op≠ .defer c) (D:¬LetsOut Q)
 (h:wpAny P .any ops Q ops.size (Array.replicate ops.size false) a w.drew):(Code.region id ops true).wpIn (Fence.wide.inRound l) n P Q a w:=
 wpIn_region_any F (Zcz A D _ _ _ _ h)
def noDefer (ops:Array Oper):Bool:=ops.all λo=>match o.op with| .defer _=>false|_=>true
theorem Zcw (h:noDefer ops=true):∀(i:Nat) (o:Oper),ops[i]? =some o->∀c,o.op≠ .defer c:=by
 intro i o D c e;have A:=(Array.all_eq_true_iff_forall_mem.1 h) o (Array.mem_of_getElem? D);rw[e] at A;cases A
def atEnd (R:Act->Wq->Prop):Exit->Act->Wq->Prop
 | .normal,a,w=>R a w
 |_,_,_=>False
theorem ZcN {id:Nat} (D:P.follows .mixedOrders=true) (A:noDefer ops=true)
 (h:wpAny P .any ops (atEnd λa' w'=>Q .normal a' w') ops.size (Array.replicate ops.size false) a w.drew):(Code.region id ops true).wpIn (Fence.wide.inRound l) n P Q a w:=
 wpIn_mono (El D (Zcw A) (λ⟨_,_,h⟩=>h) h) λe a w h=>by cases e<;>first|exact h|exact h.elim
end
end
section
variable {c d g j m n:Nat} {nm s t:List UInt8} {u:Value} {w:World}
theorem Zfq {l:List Nc} (h:j<l.length):flatN (l.take (j+1))=flatN (l.take j)++cellsN l[j]:=by
 rw[Zq h,UJ,UK]
def EbX (w:Wq) (g:Nat) (nm:List UInt8) (u:Value):Prop:=w.heap[g]? =some (.cells #[nI 0,eS,.string (str nm),sN,u,eS,nI 0] 25 (0,0))
theorem EbX.cells (h:EbX w g nm u):w.cell? ⟨g,0,none⟩=some (nI 0)/\w.cell? ⟨g,1,none⟩=some eS/\w.cell? ⟨g,2,none⟩=some (.string (str nm))/\w.cell? ⟨g,3,none⟩=some sN/\
 w.cell? ⟨g,4,none⟩=some u/\w.cell? ⟨g,5,none⟩=some eS/\w.cell? ⟨g,6,none⟩=some (nI 0)/\w.frozen? ⟨g,4,none⟩=false:=by
 refine ⟨?_,?_,?_,?_,?_,?_,?_,ZX h 4⟩<;>(rw[Zs h];rfl)
theorem ZlB {a:Nat} {A B:Option Addr}:(#[Value.int .i64 0,.string (str s),.string (str nm),.slice A n c,.slice B m d,.string (str t),nI (a:Nat)]).all (λu=>u.oneCell')=true:=by simp[Value.oneCell']
theorem Zlz {A:Option Addr}:(#[nI 0,eS,.string (str nm),sN,(Value.slice A n c),eS,nI 0]).all (λu=>u.oneCell')=true:=by simp[Value.oneCell']
theorem EU (nm:List UInt8) (v:Value) (l:List Nc) (w:Wq) (hv:RNs w v l) (hk:∀y∈l,RdN w y/\y.kind=0) (hn:l.length<=16777216):
 Calls prog 44 #[.string (str nm),v] w λe w'=>∃ks,e= .returned (.agg (cellsN (.mk 0 [] nm sN [] ks l [] 0)).toArray)/\w'.ownsRow w.heap.size 25 7 ks l.length (flatN l)/\Ext w w':=by
 obtain ⟨i0,hr,hu,hw,hy⟩:=Yw UL;obtain ⟨A,c,hq, -, -⟩:=RNs.form hv;subst hq;have HV:=gd hv;have HK:=gd hk;have HN:=gd hn;clear hv hk hn;go_enter func44,ntmps44;go_wp2;go_loopw [12] (λv wr=>∃(j:Nat) (u:Value),j<=l.length/\v=nI j/\EbX wr (w.heap.size+1) nm u/\wr.heap[w.heap.size]? =some (.cells #[nI 0,eS,eS,sN,sN,eS,nI 0] 25 (0,0))/\wr.ownsRow (w.heap.size+2) 25 7 u j (flatN (l.take j))/\Ext w wr/\w.heap.size+2<=wr.heap.size) (λv _=>l.length - (intOf v).toNat)
 case atStart=>exact ⟨0,sN,Zh _,rfl,YD w _ _,(JP _ _ (by rw[Zt];omega)).trans (Zf w _),YO _ _ _ _,((Ext.refl w).alloc _).alloc _,(by rw[Zt,Zt];exact Zb _)⟩
 case round=>
  obtain ⟨j,u,hj,rfl,S,X,D,hx,hws⟩:=hrel;obtain ⟨U,uc,rfl⟩:=Z8 D;obtain ⟨d0,d1,d2,d3,d4,d5,d6,d7⟩:=S.cells;by_cases K:j<l.length
  ·obtain ⟨ad,c',hv,hc⟩:=(RNs.ext HV.out hx).at K;injection hv with hv1 hv2 hv3;subst hv1;clear hv2 hv3;have hD:=HN.out;have hB:(0:Int)<=(j:Int):=(by omega);have hC:(j:Int)<(l.length:Int):=(by omega);have Z:=Zfq K;obtain ⟨hi,ha⟩:=HK.out l[j] (Zz K);have hf:=RdN.sl hi;obtain ⟨y,hl⟩:∃y,l[j]=y:=⟨_,rfl⟩;rw[hl] at hc Z hf ha;obtain ⟨yk,ys,yn,hE,yl,hF,Q,yt,ya⟩:=y;obtain ⟨⟨YA,ym,yc,hg⟩,⟨YB,R,yd,hh⟩⟩:=hf;simp only[Nc.al,Nc.ks,Nc.kind] at hg hh ha;subst hg;subst hh;subst ha;obtain ⟨a0,a1,a2,a3,a4,a5,a6⟩:=hc;simp only[Nc.kind,Nc.space,Nc.name,Nc.al,Nc.ks,Nc.text,Nc.at_] at a0 a1 a2 a3 a4 a5 a6;rw[show ((0:Nat):Int)=0 from rfl] at a0;have he:=Y6 (x:= .mk 0 ys yn (.slice YA ym yc) yl (.slice YB R yd) Q yt ya) ⟨⟨_,_,_,rfl⟩,⟨_,_,_,rfl⟩⟩;have hm:=gd Z;obtain ⟨HM,HB⟩:=UM (n:=j) (by omega);have HM:=gd HM;have HB:=gd HB;obtain ⟨J,Y⟩:∃J,wr.alloc (.cells #[nI 0,.string (str ys),.string (str yn),.slice YA ym yc,.slice YB R yd,.string (str yt),nI (ya:Nat)] 25)=J:=⟨_,rfl⟩;have I:Ext wr J:=(by rw[<-Y];exact (Ext.refl wr).alloc _);have F:J.heap[wr.heap.size]? =some (.cells #[nI 0,.string (str ys),.string (str yn),.slice YA ym yc,.slice YB R yd,.string (str yt),nI (ya:Nat)] 25 (0,0)):=(by rw[<-Y];exact Zf wr _);have c0:J.cell? ⟨wr.heap.size,0,none⟩=some (nI 0):=(by rw[Zs F];rfl);have c1:J.cell? ⟨wr.heap.size,1,none⟩=some (.string (str ys)):=(by rw[Zs F];rfl);have c2:J.cell? ⟨wr.heap.size,2,none⟩=some (.string (str yn)):=(by rw[Zs F];rfl);have c3:J.cell? ⟨wr.heap.size,3,none⟩=some (.slice YA ym yc):=(by rw[Zs F];rfl);have c4:J.cell? ⟨wr.heap.size,4,none⟩=some (.slice YB R yd):=(by rw[Zs F];rfl);have c5:J.cell? ⟨wr.heap.size,5,none⟩=some (.string (str yt)):=(by rw[Zs F];rfl);have c6:J.cell? ⟨wr.heap.size,6,none⟩=some (nI (ya:Nat)):=(by rw[Zs F];rfl);have hb:=gd (show EbX J (w.heap.size+1) nm (.slice U j uc) from I.heap S);have hp:=gd (I.heap X);have h:=gd (Yh D I);have ho:=gd (hx.trans I);have H:=gd (Zv hws I.size);have f4:=(EbX.cells hb.out).2.2.2.2.1;clear Z hi hl hx D S X F I hws d0 d1 d2 d3 d4 d5 d6 d7
   go_wp2_with (first|(refine Zc rfl 25 (.tmp 7) (.tmp 15) rfl wr.heap.size _ rfl rfl _ _ (Zf _ _) ZD rfl ZlB ?_;rw[Z4];rw[Y])|(at_builtin;refine ZH _ rfl (.tmp 25) (.tmp 27) _ rfl (w.heap.size+2) 25 i0 _ 7 112 underlying23 hr hu hw hy rfl (by decide) _ _ _ rfl (h.out.alloc _) _ 1 (cellsN (.mk 0 ys yn (.slice YA ym yc) yl (.slice YB R yd) Q yt ya)) rfl (Yp rfl (by decide)) he HM.out HB.out ?_ ?_;(rw[Zt];have:=H.out;omega);intro v9 w9 M V hA;(have hd:EbX w9 (w.heap.size+1) nm (.slice U j uc):=(V.block _ (by rw[Zt];have:=H.out;omega) (λe=>by have:=(h.out.lt _ e.symm).1;omega)).trans ((JP _ _ (by have:=H.out;omega)).trans hb.out));(have hz:w9.heap[w.heap.size]? =some (.cells #[nI 0,eS,eS,sN,sN,eS,nI 0] 25 (0,0)):=(V.block _ (by rw[Zt];have:=H.out;omega) (λe=>by have:=(h.out.lt _ e.symm).1;omega)).trans ((JP _ _ (by have:=H.out;omega)).trans hp.out));(obtain ⟨V9,c9,ht⟩:=Z8 M);subst ht;(obtain ⟨g0,g1,g2,g3,g4,g5,g6,g7⟩:=hd.cells)))
   go_roundw
   case rel=>
    refine ⟨j+1,.slice V9 (j+1) c9,K,by go_num,Yd w9 (w.heap.size+1) 4 _ _ _ hd,(ZY w9 ⟨w.heap.size+1,4,none⟩ w.heap.size _ (by show w.heap.size≠w.heap.size+1;omega)).trans hz,?_,(Ext.app (ho.out.alloc _) V (h.out.alloc _) (by omega)).setCell (by show _<=w.heap.size+1;omega) _,?_⟩
    ·rw[hm.out];exact ZlO M (by show w.heap.size+1<_;omega) _
    ·have h1:=V.size;rw[Zt] at h1;have:=H.out;simp[World.setCell];omega
   case measure=>simp[intOf];omega
  ·have hs:j=l.length:=(by omega);subst hs;rw[List.take_length] at D;clear K hj;have h:=gd D;have HX:=gd hx;clear D hx S
   go_wp2_with (first|(refine Zc rfl 25 (.tmp 4) (.tmp 31) rfl w.heap.size _ rfl rfl _ _ X ZD rfl Zlz ?_))
   ((try simp only[Exit.inBlock,Exit.then]);refine Zn (XT rfl _ _ _ _ _ _ _ rfl (Zp _ _ _ _ _ _ X) underlying25 rfl ZD) rfl ?_);exact ⟨_,rfl,XM (Jv h.out (by omega) _) (by omega),HX.out.setRow (Zb _) _⟩
end
section
variable {P:Program} {a:Act} {base c g n:Nat} {e:TypeId} {o:Oper} {ops:Array Oper} {rest:List Oper} {w:World} {xs:List Value}
theorem Em (w:Wq) {Q:Exit->Act->Wq->Prop}
 (hg:o.guard=none) (l c:Operand) (t:TypeId) (H:o.op=Op.makeSlice t l c)
 (e:TypeId) (i:TypeInfo) (z:Value) (size:Nat) (R:P.underlying t=some (.slice e)) (S:P.info? e=some i) (U:i.zero=some z) (V:i.size=size)
 (J kc:IntKind) (L C:Int) (n m:Nat) (hl:a.eval l= .int J L) (Z:a.eval c= .int kc C) (Y:L=(n:Int)) (X:C=(m:Int)) (ha:n<=m) (b2:i.bytes*m<=281474976710656) (M:m<=maxLen)
 (hK:wpList P ops Q rest (a.put o.dst (.slice (some ⟨w.heap.size,0,none⟩) n m)) (w.alloc (.cells (madeCells z.cells (m*size)) e))):
 wpList P ops Q (o::rest) a w:=by
 refine wpList_plain hg λK D=> ?_;have A:(m:Int)<=9223372036854775807:=by have h:=M;simp[maxLen] at h;omega
 have F:(i.bytes:Int)*(m:Int)<=281474976710656:=by
  have h:((i.bytes*m:Nat):Int)<=281474976710656:=by omega
  rwa [Int.natCast_mul] at h
 have I:=run_make (P:=P) w t e i z R S U J kc (n:Int) (m:Int) (by omega) (by omega) F A;simp only[Int.toNat_natCast,V] at I;subst Y;subst X;unfold Oper.wp;simp[execOp,H,hl,Z,I,Result.andThen];exact D _ _ hK
theorem Za4 (w:Wq) (U sT ty D:TypeId) (size g F J k:Nat) (sp:Option Addr) (I Q:Nat) (A:Array Value) (t:TypeId) (cs:List Value)
 (hu:P.underlying U=some (.slice D)) (Z:(P.info? D).map (·.size)=some size)
 (V:w.heap[g]? =some (.cells A t (0,0))) (X:k=Nat.min I F) (S:cs.length=k*size)
 (H:∀j v,cs[j]? =some v->∃a,sp=some a/\w.cell? (a.add j)=some v) (K:cs.length<=A.size) (h1:∀v∈cs,v.oneCell'=true):
 (Builtin.copy_ #[U,sT] ty #[.slice (some ⟨g,0,none⟩) F J,.slice sp I Q]).run P w=
  .ok (goInt k) (w.setRow g (cs++A.toList.drop cs.length).toArray):=by
 have M:=run_storeCells_at P g 0 t cs 0 A w V (by simpa using K) h1;simp only[Yu,List.take_zero,Jy] at M;cases hq:P.info? D with
 |none=>simp[hq] at Z
 |some i=>
  have hi:i.size=size:=by simpa [hq] using Z
  have hm:((size*k):Nat)=cs.length:=by rw[S,U5]
  cases sp with
  |none=>
   have R:cs= []:=by
    cases cs with
    |nil=>rfl
    |cons x r=>obtain ⟨a,e,_⟩:=H 0 x rfl;cases e
   subst R;have ha:k*size=0:=(by rw[<-S];rfl);simp[Builtin.copy_,run_underlying hu,Builtin.lenOf,Builtin.firstCells,sizeOf,typeInfo,hq,<-X,storeCells,setRow_self w g A t (0,0) V]
  |some a=>have Y:=run_loadCells_list (P:=P) w a cs (λj v hv=>by obtain ⟨a',e,h⟩:=H j v hv;injection e with e;subst e;exact h);rw[S] at Y;simp[Builtin.copy_,run_underlying hu,Builtin.lenOf,Builtin.firstCells,sizeOf,typeInfo,hq,hi,<-X,Y,M]
theorem IG {Q:Exit->Act->Wq->Prop} (V:o.guard=none) (d s:Operand) (U Y:TypeId)
 (ho:o.op= .call {callee:= .builtin .copy,args:=#[d,s],argTypes:=#[U,Y]}) (D:TypeId) (size:Nat) (hu:P.underlying U=some (.slice D)) (X:(P.info? D).map (·.size)=some size)
 (g A I k:Nat) (sp:Option Addr) (F J:Nat) (hd:a.eval d= .slice (some ⟨g,0,none⟩) A I) (hs:a.eval s= .slice sp F J)
 (H:Array Value) (t:TypeId) (hg:w.heap[g]? =some (.cells H t (0,0))) (cs:List Value) (hk:k=Nat.min F A) (hn:cs.length=k*size)
 (S:∀j v,cs[j]? =some v->∃a,sp=some a/\w.cell? (a.add j)=some v) (M:cs.length<=H.size) (Z:∀v∈cs,v.oneCell'=true)
 (h:wpList P ops Q rest (a.put o.dst (goInt k)) (w.setRow g (cs++H.toList.drop cs.length).toArray)):wpList P ops Q (o::rest) a w:=by
 refine wpList_plain V λK hK=> ?_;have R:=Za4 (P:=P) w U Y o.type D size g A I k sp F J H t cs hu X hg hk hn S M Z;unfold Oper.wp;simp[execOp,ho,resolve,invoke,builtin,hd,hs,R,Result.andThen];exact hK _ _ h
theorem ZcC {size:Nat} {rest:List Value} (H:w.heap[g]? =some (.cells (xs++rest).toArray e (0,0))) (D:base<=g) (A:xs.length=n*size) (h:n<=c) (F:c<=maxLen) (I:(xs++rest).length=c*size):
 w.ownsRow base e size (.slice (some ⟨g,0,none⟩) n c) n xs:=
 ⟨A,Or.inr ⟨g,c,_,rfl,D,H,h,F,by simpa using I,by rw[<-A];simp⟩⟩
end
end Go.Proofs.YtnlafkgkcnenfaaGreatDoor
