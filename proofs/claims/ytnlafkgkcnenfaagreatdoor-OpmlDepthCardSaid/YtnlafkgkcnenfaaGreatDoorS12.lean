/- Parts of the proof: contracts and plain laws. -/
import Derived.Test.YtnlafkgkcnenfaaGreatDoorS11
namespace Go.Proofs.YtnlafkgkcnenfaaGreatDoor
open Go Go.RowKit Go.Joins Tryz
set_option linter.unusedVariables false
set_option linter.unusedSimpArgs false
set_option maxRecDepth 100000
set_option maxHeartbeats 16000000
section
variable {a:Act} {fuel i j:Nat} {oi:Oper} {w:World}
section
variable {P:Program} {md:Region.Mode} {Q:Exit→Act→World→Prop} {S:World→Prop}
theorem ZfT {l:List Oper} {oj:Oper} {listed:Array Bool} (R:l[i]? =some oi) (U:l[j]? =some oj) (V:Region.ready md l.toArray listed= [i,j])
 (H:∀K:Act->Wq->Prop,(∀a' w',S w'->wpAnyS P md l.toArray Q S fuel (listed.setIfInBounds i true) a' w'->K a' w')->if Region.wanted oi (yielded l.toArray a.tmps) then Oper.wp P oi a w K Q else K (a.put oi.dst undef) w)
 (I:∀K:Act->Wq->Prop,(∀a' w',S w'->wpAnyS P md l.toArray Q S fuel (listed.setIfInBounds j true) a' w'->K a' w')->if Region.wanted oj (yielded l.toArray a.tmps) then Oper.wp P oj a w K Q else K (a.put oj.dst undef) w):wpAnyS P md l.toArray Q S (fuel+1) listed a w:=by
 have J:l.toArray[i]? =some oi:=by rw[Yd];exact R
 have M:l.toArray[j]? =some oj:=by rw[Yd];exact U
 have q:=H (λa' w'=>S w'/\wpAnyS P md l.toArray Q S fuel (listed.setIfInBounds i true) a' w') λ_ _ H I=>⟨H,I⟩;have A:=I (λa' w'=>S w'/\wpAnyS P md l.toArray Q S fuel (listed.setIfInBounds j true) a' w') λ_ _ H I=>⟨H,I⟩;refine ⟨λh=>(by rw[V] at h;cases h),λk D=> ?_⟩;rw[V] at D;simp only[ZF,Ya,Xs] at D;rcases D with D|D
 ·rw[D];unfold wpOp;simp only[J];split
  ·rename_i F;rw[Zh F] at q;exact Or.inl q
  ·rename_i F;rw[Ze F] at q;exact q
 ·rw[D];unfold wpOp;simp only[M];split
  ·rename_i F;rw[Zh F] at A;exact Or.inl A
  ·rename_i F;rw[Ze F] at A;exact A
end
end
section
variable {base c g g' j k n:Nat} {e:TypeId} {v:Value} {w:World} {xs:List Value}
theorem IW (g n:Nat):(⟨g,0,none⟩:Addr).add n=⟨g,n,none⟩:=by
 unfold Addr.add;split
 ·rename_i h;rw[h]
 ·simp
theorem ZfB {size:Nat} {a:Addr} (h:w.ownsRow base e size (.slice (some a) n c) n xs):∃g q,a=⟨g,0,none⟩/\base<=g/\w.heap[g]? =some (.cells q e (0,0)):=by
 obtain ⟨I,A⟩:=h;rcases A with ⟨A,_⟩|⟨g,cap,q,H,D,F,_⟩
 ·cases A
 ·injection H with hv1 hv2 hv3;injection hv1 with hv1;exact ⟨g,q,hv1,D,F⟩
theorem Zf7 {size:Nat} (h:w.ownsRow base e size (.slice (some ⟨g,0,none⟩) n c) n xs) (R:j<n*size) (u:Value):(w.setCell ⟨g,j,none⟩ u).ownsRow base e size (.slice (some ⟨g,0,none⟩) n c) n (xs.set j u):=by
 obtain ⟨D,A⟩:=h;refine ⟨by rw[XD];exact D,?_⟩;rcases A with ⟨A,_⟩|⟨g',cap,q,Q,F,H,J,I,K,M⟩
 ·cases A
 ·injection Q with hv1 hv2 hv3;injection hv1 with hv1;injection hv1 with hv1 _ _;subst hv1;subst hv3;refine Or.inr ⟨g,c,q.setIfInBounds j u,rfl,F,Z7 w g j _ _ _ H,J,I,by simpa using K,?_⟩;rw[Array.toList_setIfInBounds,List.take_set,M]
theorem ZgQ {l:List Nc} (q:k<l.length) (y:Nc) (u:Value) (h:(cellsN l[k]).set 5 u=cellsN y):(flatN l).set (k*7+5) u=flatN (l.set k y):=by
 induction l generalizing k with
 |nil=>simp at q
 |cons x t ih=>
  cases k with
  |zero=>have A:5<(cellsN x).length:=(by rw[Jw];decide);show (cellsN x++flatN t).set (0*7+5) u=cellsN y++flatN t;rw[Xf,Ym,List.set_append_left _ _ A];exact Zz (· ++flatN t) h
  |succ k=>show (cellsN x++flatN t).set ((k+1)*7+5) u=cellsN x++flatN (t.set k y);have D:=Jw x;rw[List.set_append_right _ _ (by omega),D,show (k+1)*7+5 - 7=k*7+5 by omega,ih (by simpa using q) h]
def BxP (w:Wq) (g:Nat) (lv:Value) (i a e:Nat):Prop:=w.heap[g]? =some (.cells #[lv,nI (i:Nat),nI (a:Nat),nI (e:Nat)] 109 (0,0))
section
variable {w w':World} {g i a e:Nat} {lv:Value}
theorem BxP.ext (h:BxP w g lv i a e) (q:Ext w w'):BxP w' g lv i a e:=q.heap h
theorem BxP.other (h:BxP w g lv i a e) (q:g≠g'):BxP (w.setCell ⟨g',j,none⟩ v) g lv i a e:=(Z4 w ⟨g',j,none⟩ g v q).trans h
theorem BxP.cells (h:BxP w g lv i a e):w.cell? ⟨g,0,none⟩=some lv/\w.cell? ⟨g,1,none⟩=some (nI (i:Nat))/\w.cell? ⟨g,2,none⟩=some (nI (a:Nat))/\w.cell? ⟨g,3,none⟩=some (nI (e:Nat)):=by
 refine ⟨?_,?_,?_,?_⟩<;>(rw[Xc _ _ _ _ _ _ h];rfl)
theorem BxP.frozen (h:BxP w g lv i a e):w.frozen? ⟨g,1,none⟩=false/\w.frozen? ⟨g,2,none⟩=false/\w.frozen? ⟨g,3,none⟩=false:=⟨ZX h 1,ZX h 2,ZX h 3⟩
theorem BxP.next (h:BxP w g lv i a e) (j:Nat):BxP (w.setCell ⟨g,1,none⟩ (nI (j:Nat))) g lv j a e:=Z7 w g 1 _ _ _ h
theorem BxP.at_ (h:BxP w g lv i a e) (j:Nat):BxP (w.setCell ⟨g,2,none⟩ (nI (j:Nat))) g lv i j e:=Z7 w g 2 _ _ _ h
theorem BxP.code (h:BxP w g lv i a e) (j:Nat):BxP (w.setCell ⟨g,3,none⟩ (nI (j:Nat))) g lv i a j:=Z7 w g 3 _ _ _ h
theorem BxP.lt (h:BxP w g lv i a e):g<w.heap.size:=(ZG.1 h).1
end
section
variable {a b c:World} {r r':Option Nat} {g:Nat}
theorem J2 (h:a.grownBy b r) (D:a.heap.size<=g) (cs:Array Value):a.grownBy (b.setRow g cs) r:=
 ⟨h.os,h.tape,h.output,by have:=h.size;simpa [World.setRow] using this,λk A q=>(ZY b g k cs (by omega)).trans (h.block k A q)⟩
theorem XP (h:a.grownBy b r) (D:a.heap.size<=g) (i:Nat) (v:Value):a.grownBy (b.setCell ⟨g,i,none⟩ v) r:=
 ⟨h.os,h.tape,h.output,by have:=h.size;simpa [World.setCell] using this,λk A q=>(Z4 b ⟨g,i,none⟩ k v (by show k≠g;omega)).trans (h.block k A q)⟩
theorem Vo (h:a.grownBy b (some g)) (i:Nat) (v:Value):a.grownBy (b.setCell ⟨g,i,none⟩ v) (some g):=h.trans (Yo b ⟨g,i,none⟩ v)
theorem Y5 (h:a.grownBy b r) (q:Ext b c):a.grownBy c r:=h.trans (q.grown r)
end
def zeroN:Array Value:=#[nI 0,eS,eS,sN,sN,eS,nI 0]
theorem Uf:(#[Value.int .i64 0,eS,eS,sN,sN,eS,nI 0]).all (λu=>u.oneCell')=true:=by simp[Value.oneCell']
theorem Zjv (w:Wq):BxN (w.alloc (.cells zeroN 25)) w.heap.size 0 [] [] sN sN [] 0:=Zg w _
theorem QF (G:Nat) (lv:Value) (i a0 U y c:Nat) (w:Wq) (h:BxP w G lv i a0 U):
 Calls prog 101 #[.pointer (some ⟨G,0,none⟩),nI (y:Nat),nI (c:Nat)] w λe w'=>e= .returned (.agg #[nI ((0:Nat):Int),.string (str []),.string (str []),sN,sN,.string (str []),nI ((0:Nat):Int)])/\BxP w' G lv i y c/\w.grownBy w' (some G):=by
 have hl:=h.lt;have A:=((Ext.refl w).alloc (.cells zeroN 25)).grown (some G);have H:=h.ext ((Ext.refl w).alloc (.cells zeroN 25));have S:=Zjv w;unfold zeroN at*;obtain ⟨W0,I⟩:∃W0,w.alloc (.cells #[nI 0,eS,eS,sN,sN,eS,nI 0] 25)=W0:=⟨_,rfl⟩;rw[I] at A H S;obtain ⟨X,Y,Z,b3⟩:=H.cells;obtain ⟨f1,f2,f3⟩:=H.frozen;have V:=H.at_ y;have R:=V.code c;have F:G≠w.heap.size:=by omega
 have q:BxN ((W0.setCell ⟨G,2,none⟩ (nI (y:Nat))).setCell ⟨G,3,none⟩ (nI (c:Nat))) w.heap.size 0 [] [] sN sN [] 0:=(S.other (by omega)).other (by omega);obtain ⟨Q,K⟩:∃g,w.heap.size=g:=⟨_,rfl⟩;rw[K] at q F;obtain ⟨M,J⟩:∃M,(W0.setCell ⟨G,2,none⟩ (nI (y:Nat))).setCell ⟨G,3,none⟩ (nI (c:Nat))=M:=⟨_,rfl⟩;have D:=Vo (Vo A 2 (nI (y:Nat))) 3 (nI (c:Nat));rw[J] at q R D;go_enter func101,ntmps101
 go_wp2_with (first|(refine Zd rfl 25 (.tmp 6) (.tmp 15) rfl Q #[nI 0,eS,eS,sN,sN,eS,nI 0] rfl rfl _ _ q Zv rfl Uf ?_))
 ((try simp only[Exit.inBlock,Exit.then]);refine Zl (JA rfl _ _ _ _ _ _ _ rfl (Zm _ _ _ _ _ _ q) underlying25 rfl Zv) rfl ?_);exact ⟨rfl,(ZY _ Q G _ F).trans R,J2 D (by omega) _⟩
end
section
variable {b w w':World} {g k n:Nat} {v:Value} {xs:List Value}
structure Keep (w w':Wq) (g:Nat) (r:Option Nat):Prop where
 os:w'.os=w.os
 tape:w'.tape=w.tape
 output:w'.output=w.output
 size:w.heap.size<=w'.heap.size
 block:∀k,k<w.heap.size->k≠g->some k≠r->w'.heap[k]? =w.heap[k]?
theorem Keep.refl (w:Wq) (g:Nat) (r:Option Nat):Keep w w g r:=⟨rfl,rfl,rfl,Zb _,λ_ _ _ _=>rfl⟩
theorem Keep.trans {a c:Wq} {r r':Option Nat} (h:Keep a b g r) (q:Keep b c g r') (I:∀k,r'=some k->r=some k\/a.heap.size<=k):Keep a c g r:=
 ⟨q.os.trans h.os,q.tape.trans h.tape,q.output.trans h.output,Zu h.size q.size,λk H F A=>(q.block k (YE H h.size) F (λe=>by
  rcases I k e.symm with D|D
  ·exact A D.symm
  ·omega)).trans (h.block k H F A)⟩
theorem Keep.of_grown {a:Wq} {r:Option Nat} (g:Nat) (h:a.grownBy b r):Keep a b g r:=⟨h.os,h.tape,h.output,h.size,λk A _ q=>h.block k A q⟩
theorem Keep.of_ext {a:Wq} (g:Nat) (r:Option Nat) (h:Ext a b):Keep a b g r:=Keep.of_grown g (h.grown r)
theorem Keep.ext {a c:Wq} {r:Option Nat} (h:Keep a b g r) (q:Ext b c):Keep a c g r:=h.trans (Keep.of_ext g r q) λk e=>Or.inl e
theorem Keep.ext_left {a c:Wq} {r:Option Nat} (h:Ext a b) (q:Keep b c g r):Keep a c g r:=(Keep.of_ext g r h).trans q λk e=>Or.inl e
theorem Keep.cell_ {a:Wq} {r:Option Nat} (h:Keep a b g r) (i:Nat) (v:Value):Keep a (b.setCell ⟨g,i,none⟩ v) g r:=
 ⟨h.os,h.tape,h.output,by have:=h.size;simpa [World.setCell] using this,λk D A q=>(Z4 b ⟨g,i,none⟩ k v A).trans (h.block k D A q)⟩
theorem Keep.split {r:Option Nat} (h:Keep w w' g r):∃w1,w.grownBy w1 (some g)/\w1.grownBy w' r:=by
 cases r with
 |none=>exact ⟨w',⟨h.os,h.tape,h.output,h.size,λk A q=>h.block k A (λe=>q (by rw[e])) (by simp)⟩,(Ext.refl w').grown none⟩
 |some r=>
  by_cases F:r<w.heap.size
  ·have D:r<w'.heap.size:=YE F h.size;refine ⟨{w' with heap:=w'.heap.set r w.heap[r]},⟨h.os,h.tape,h.output,by simpa using h.size,λk A q=> ?_⟩,⟨rfl,rfl,rfl,by simp,λk A q=> ?_⟩⟩
   ·show (w'.heap.set r w.heap[r])[k]? =_;by_cases e:k=r
    ·subst e;simp[A]
    ·rw[Array.getElem?_set_ne D (by intro h;exact e h.symm)];exact h.block k A (λe=>q (by rw[e])) (λe2=>e (by injection e2))
   ·show w'.heap[k]? =(w'.heap.set r w.heap[r])[k]?;rw[Array.getElem?_set_ne D (by intro e;exact q (by rw[e]))]
  ·exact ⟨w',⟨h.os,h.tape,h.output,h.size,λk A q=>h.block k A (λe=>q (by rw[e])) (λe=>by injection e with e;omega)⟩,(Ext.refl w').grown _⟩
section
variable {w w':World} {g:Nat} {r:Option Nat}
theorem Keep.heap (h:Keep w w' g r) {o:Obj} (q:w.heap[k]? =some o) (A:k≠g) (D:some k≠r):w'.heap[k]? =some o:=
 (h.block k (ZG.1 q).1 A D).trans q
theorem Keep.cell (h:Keep w w' g r) {a:Addr} (q:w.cell? a=some v) (A:a.block≠g) (D:some a.block≠r):w'.cell? a=some v:=
 (ZU (h.block a.block (ZS w a q) A D)).trans q
theorem RSl.keep {size:Nat} (D:RSl w size v n xs) (h:Keep w w' g r) (q:xs= []\/v.ownBlock≠some g) (A:xs= []\/v.ownBlock≠r):RSl w' size v n xs:=by
 obtain ⟨w1,F,H⟩:=h.split;exact RSl.grown (RSl.grown D F q) H A
theorem RdN.keep {x:Nc} (D:RdN w x) (h:Keep w w' g r) (q:awayN (some g) x) (A:awayN r x):RdN w' x:=by
 obtain ⟨w1,F,H⟩:=h.split;exact RdN.grown H x (RdN.grown F x D q) A
end
end
section
variable {P:Program} {W w:World} {a:Act} {cb n:Nat} {α:Type}
def Stays (B:Nat) (W W':Wq):Prop:=∀(k:Nat) (o:Obj),B<=k->W.heap[k]? =some o->o.isCells=false->W'.heap[k]? =some o
def CellSeq {α:Type} (F:Fence) (n:Nat) (P:Program) (gf:Nat) (lb:Array Value) (encs:α->Array Value) (cb:Nat) (Kp:Wq->Wq->Prop) (xs:List α) (w:Wq):Prop:=
 ∀(l:Nat) (J:List α->Wq->Prop) (W:Wq),Ext w W->(∀s A C,J s A->Ext A C->J s C)->(∀s A v,J s A->J s (A.setCell ⟨cb,0,none⟩ v))->
  (∀pre x W1,(pre++ [x])<+:xs->J pre W1->YieldAt F (n - 1) P l (encs x) W1 λe W'=>e= .returned (.bool true)/\J (pre++ [x]) W'/\Kp W1 W')->
  J [] W->CallsIn F n P gf (#[.func (.yield l) #[] #[]]++lb) W λe W'=>(∃v,e= .returned v)/\J xs W'
def roundEnd {α:Type} (B:Nat) (Kp:Wq->Wq->Prop) (I:List α->Wq->Prop) (s:List α) (W:Wq):Exit->Act->Wq->Prop
 | .normal,_,W'=>Stays B W W'/\Kp W W'/\I s W'
 |_,_,_=>False
theorem Kh {l:Nat} {o o':Obj} (h:W.heap[l]? =some o):(W.putObj l o').heap[l]? =some o':=World.putObj_heap_same (ZG.1 h).1
theorem ZfF {F:Fence} {g:Operand} {ps:Array Tmp} {assign body:Code} {Q:Exit->Act->Wq->Prop}
 (hF:F.round=none) (h1:1<=n) {gf:Nat} {lb:Array Value} (hg:a.eval g= .func (.func gf) #[] lb) (hm:F.fn gf) (eg:∀args w,(callFunc gf args).run P w= .ok (.enter gf args) w)
 {encs:α->Array Value} {Kp:Wq->Wq->Prop} {xs:List α} (hh:CellSeq F (n - 1) P gf lb encs cb Kp xs w) (hG:cb<w.heap.size)
 (hc:∀{A B C:Wq},Kp A B->Kp B C->Kp A C) (hb:∀(W:Wq) (l:Nat) (o o':Obj),w.heap.size<=l->W.heap[l]? =some o->o.isCells=false->Kp W (W.putObj l o')) (hE:∀x,(encs x).size=ps.size)
 (I:List α->Wq->Prop) (ha:∀s A C,I s A->Ext A C->I s C) (hn:∀s A v,I s A->I s (A.setCell ⟨cb,0,none⟩ v)) (U:∀s A l o o',I s A->w.heap.size<=l->A.heap[l]? =some o->o.isCells=false->I s (A.putObj l o'))
 (h0:I [] w) (a₁:α->Act)
 (J:∀(l:Nat) (x:α) (W:Wq) (K:Act->Wq->Prop),K (a₁ x) W->
  assign.wpIn (F.inRound l) (n - 1 - 1) P (Exit.then K (λ_ _ _=>False)) {tmps:=(ps.zip (encs x)).foldl (λt (p,v)=>t.setIfInBounds p v) a.tmps,defers:= []} W)
 (X:∀(l:Nat) (pre:List α) (x:α) (W:Wq),(pre++ [x])<+:xs->I pre W->body.wpIn (F.inRound l) (n - 1 - 1) P (roundEnd w.heap.size Kp I (pre++ [x]) W) (a₁ x) W)
 (Y:∀(D:Nat) (W:Wq),w.heap.size<=D->I xs W->W.heap[D]? =some (.deferred (some []))->Q .normal {a with defers:={target:= .collected D,args:=#[]}::a.defers} W):
 (Code.rangeFunc g ps assign body).wpIn F n P Q a w:=by
 refine wpIn_rangeFunc λfn hv=> ?_;rw[hF]
 let D:=w.heap.size
 obtain ⟨rc,q⟩:∃rc:LoopState->Loop,rc=λst=>{state:=st,pending:=none,fn,tmps:=a.tmps,params:=ps,assign,body,defers:=w.heap.size}:=⟨_,rfl⟩;have hj:∀s,(rc s).state=s:=λs=>by rw[q]
 obtain ⟨V,hV⟩:∃V,(w.alloc (.deferred (some []))).alloc (.loop (rc .ready))=V:=⟨_,rfl⟩;have hk:Ext w V:=by rw[<-hV];exact ((Ext.refl w).alloc _).alloc _
 have hr:V.heap[w.heap.size+1]? =some (.loop (rc .ready)):=by rw[<-hV];exact Ys w _ _
 have ho:V.heap[w.heap.size]? =some (.deferred (some [])):=by rw[<-hV];exact (JJ _ _ (by rw[Zq];omega)).trans (Zg w _)
 refine ⟨w.heap.size+1,[{target:= .collected w.heap.size,args:=#[]}],V,{target:= .fn (.func gf) lb,args:=#[.func (.yield (w.heap.size+1)) #[] #[]]},V,gf,
  #[.func (.yield (w.heap.size+1)) #[] #[]]++lb,V,?_,?_,?_,?_,λ_=>h1,?_⟩
 ·rw[<-hV,q];exact run_enterLoop_outer _ _ _ _ _
 ·simp only[resolve,hg];simp[go_sem]
 ·intro f' he;simp[Target.leads] at he;subst he;exact hm
 ·simp[invoke,go_sem,eg]
 refine (hh (w.heap.size+1) (λs W=>I s W/\W.heap[w.heap.size+1]? =some (.loop (rc .ready))/\W.heap[w.heap.size]? =some (.deferred (some []))) V hk
  (λs A C Z hx=>⟨ha s A C Z.1 hx,hx.heap Z.2.1,hx.heap Z.2.2⟩)
  (λs A v Z=>⟨hn s A v Z.1,(Z4 A ⟨cb,0,none⟩ _ v (by show w.heap.size+1≠cb;omega)).trans Z.2.1,(Z4 A ⟨cb,0,none⟩ _ v (by show w.heap.size≠cb;omega)).trans Z.2.2⟩)
  ?_ ⟨ha _ _ _ h0 hk,hr,ho⟩).mono ?_
 ·rintro pre x W hp ⟨hi,S,hd⟩;have hy:=run_yield (P:=P) (args:=encs x) S (by rw[q];exact hE x);rw[q] at hy;refine ⟨fn,_,assign,body,hy,roundIn_of_wpIn hv (J _ x W _ ⟨_,run_beginRound S (hj _),?_⟩)⟩;obtain ⟨R,H⟩:∃R,W.putObj (w.heap.size+1) (.loop {rc .ready with state:= .busy})=R:=⟨_,rfl⟩;have hC:R.heap[w.heap.size+1]? =some (.loop {rc .ready with state:= .busy}):=by rw[<-H];exact Kh S
  have ht:R.heap[w.heap.size]? =some (.deferred (some [])):=by rw[<-H];exact (XI (by omega)).trans hd
  have hA:Kp W R:=by rw[<-H];exact hb _ _ _ _ (Yf _) S rfl
  have hw:I pre R:=by rw[<-H];exact U _ _ _ _ _ hi (Yf _) S rfl
  rw[H];refine wpIn_mono (X _ pre x R hp hw) ?_;rintro e a3 W3 hq;cases e with
  |normal=>
   obtain ⟨hf,hB,hz⟩:=hq;have M:=hf _ _ (Yf _) hC rfl;have hu:=hf _ _ (Zb _) ht rfl;have h:=run_endRound (P:=P) none M;refine ⟨_,_,h,rfl,⟨U _ _ _ _ _ hz (Yf _) M rfl,?_,?_⟩,hc (hc hA hB) (hb _ _ _ _ (Yf _) M rfl)⟩
   ·refine (Kh M).trans ?_;rw[q];rfl
   ·exact (XI (by omega)).trans hu
  |ret=>exact hq.elim
  |exit id=>exact hq.elim
  |goto t=>exact hq.elim
  |panic ch=>exact hq.elim
  |outgrown=>exact hq.elim
 ·rintro e R ⟨⟨v,rfl⟩,hi,S,hd⟩;have h:=run_endLoop (P:=P) S (by rw[hj];decide);have hD:(rc .ready).pending=none:=by rw[q]
  rw[hD] at h;exact ⟨none,_,h,Y _ _ (Zb _) (U _ _ _ _ _ hi (Yf _) S rfl) ((XI (by omega)).trans hd)⟩
end
theorem ZW (w:Wq) (zs cs:Array Value) (t:TypeId):(w.alloc (.cells zs t)).setRow w.heap.size cs=w.alloc (.cells cs t):=by
 have e:(w.heap.push (.cells zs t)).modify w.heap.size (fun| .cells _ A q=> .cells cs A q|o=>o)=w.heap.push (.cells cs t):=by
  apply Array.ext_getElem?;intro i;rw[Xd,Array.getElem?_push,Array.getElem?_push];split
  ·rename_i h;rw[Zh h.symm,Zh h.symm];rfl
  ·rename_i h;rw[Ze (λe=>h e.symm),Ze (λe=>h e.symm)]
 show ({(w.alloc (.cells zs t)) with heap:=_}:Wq)=_;exact Zz (λH=>({w with heap:=H}:Wq)) e
theorem Zc4 (x:Nc) (sp nm:List UInt8) (w:Wq) (h:RAts w x.al x.attrs) (M:isSl x.ks) (hn:x.attrs.length<=16777216):
 Calls prog 31 #[.agg (cellsN x).toArray,.string (str sp),.string (str nm)] w λe w'=>e= .returned (lookAns (attrN x.attrs sp nm))/\Ext w w':=by
 obtain ⟨k,s,n,al,l,ks,kids,t,a⟩:=x;simp only[Nc.al,Nc.attrs,Nc.ks] at h M hn;obtain ⟨A,c,rfl, -, -⟩:=h.form;obtain ⟨B,m,d,rfl⟩:=M;simp only[cellsN,Nc.attrs];obtain ⟨R,U⟩:∃R,attrN l sp nm=R:=⟨_,rfl⟩;rw[U];have Y:Hid (attrN (l.drop 0) sp nm=R):=U;clear U;have K:=(Ext.refl w).alloc (.cells #[nI (k:Nat),.string (str s),.string (str n),.slice A l.length c,.slice B m d,.string (str t),nI (a:Nat)] 25);go_enter func31,ntmps31;go_wp2;go_loopw [13] (λv wr=>∃j:Nat,j<=l.length/\v=nI j/\Hid (attrN (l.drop j) sp nm=R)/\Ext (w.alloc (.cells #[nI (k:Nat),.string (str s),.string (str n),.slice A l.length c,.slice B m d,.string (str t),nI (a:Nat)] 25)) wr) (λv _=>l.length - (intOf v).toNat)
 case atStart=>exact ⟨0,Zk _,rfl,Y,Ext.refl _⟩
 case round=>
  obtain ⟨j,hj,rfl,Q,S⟩:=hrel;by_cases D:j<l.length
  ·obtain ⟨ad,c',hv,H⟩:=(RAts.ext h (K.trans S)).at D;injection hv with hv1 hv2 hv3;subst hv1;clear hv2 hv3;have ha:(0:Int)<=(j:Int):=(by omega);have hb:(j:Int)<(l.length:Int):=(by omega);have q:=Q.out;cases hq:(l[j].space==sp && l[j].name==nm) with
   |true=>
    rw[Zgk D hq] at q;obtain ⟨x,F⟩:∃x,l[j]=x:=⟨_,rfl⟩;rw[F] at H hq q;obtain ⟨a0,Z,a2,a3⟩:=H;rw[ZZ] at hq;have q1:((str x.space).toList==(str sp).toList)=true:=(by rw[XW];exact hq.1);have q2:((str x.name).toList==(str nm).toList)=true:=(by rw[XW];exact hq.2);subst q;clear Q hq F;have I:=(Ext.refl (wr.alloc (.cells #[.string (str x.space),.string (str x.name),.string (str x.value),nI (x.at_:Nat)] 88)));have c0:=I.boxed 0 _ rfl;have c1:=I.boxed 1 _ rfl;have c2:=I.boxed 2 _ rfl;clear I
    go_wp2_with (first|(refine Zd rfl 88 (.tmp 9) (.tmp 16) rfl wr.heap.size #[.string (str x.space),.string (str x.name),.string (str x.value),nI (x.at_:Nat)] rfl rfl _ _ (Zg _ _) Yt rfl (Je x) ?_;rw[ZW]))
    go_ret2
    exact ⟨rfl,(K.trans S).alloc _⟩
   |false=>
    rw[ZeQ D hq] at q;obtain ⟨x,F⟩:∃x,l[j]=x:=⟨_,rfl⟩;rw[F] at H hq;obtain ⟨a0,Z,a2,a3⟩:=H;have X:=gd q;clear Q q F;have I:=(Ext.refl (wr.alloc (.cells #[.string (str x.space),.string (str x.name),.string (str x.value),nI (x.at_:Nat)] 88)));have c0:=I.boxed 0 _ rfl;have c1:=I.boxed 1 _ rfl;have c2:=I.boxed 2 _ rfl;clear I;cases q1:((str x.space).toList==(str sp).toList) with
    |false=>
     clear hq
     go_wp2_with (first|(refine Zd rfl 88 (.tmp 9) (.tmp 16) rfl wr.heap.size #[.string (str x.space),.string (str x.name),.string (str x.value),nI (x.at_:Nat)] rfl rfl _ _ (Zg _ _) Yt rfl (Je x) ?_;rw[ZW]))
     go_roundw
     case rel=>exact ⟨j+1,D,by go_num,X,S.alloc _⟩
     case measure=>simp[intOf];omega
    |true=>
     have q2:((str x.name).toList==(str nm).toList)=false:=(by rw[XW] at q1|-;rw[q1,XQ] at hq;exact hq);clear hq
     go_wp2_with (first|(refine Zd rfl 88 (.tmp 9) (.tmp 16) rfl wr.heap.size #[.string (str x.space),.string (str x.name),.string (str x.value),nI (x.at_:Nat)] rfl rfl _ _ (Zg _ _) Yt rfl (Je x) ?_;rw[ZW]))
     go_roundw
     case rel=>exact ⟨j+1,D,by go_num,X,S.alloc _⟩
     case measure=>simp[intOf];omega
  ·have V:j=l.length:=(by omega);have J:=Q.out;rw[Zgj (by omega)] at J;subst J;clear Q;subst V;go_wp2
   go_ret2
   exact ⟨rfl,K.trans S⟩
theorem GY (x:Nc) (sp nm:List UInt8) (w:Wq) (h:RdN w x) (hn:x.kids.length<=16777216):
 Calls prog 29 #[.agg (cellsN x).toArray,.string (str sp),.string (str nm)] w λe w'=>∃v,e= .returned v/\w'.ownsRow w.heap.size 25 7 v (x.kids.filter (isKid sp nm)).length (flatN (x.kids.filter (isKid sp nm)))/\Ext w w':=by
 obtain ⟨i0,ht,hw,hy,hz⟩:=Yw UF;obtain ⟨k,s,n,al,l,ks,kids,t,a⟩:=x;rw[RdN] at h;obtain ⟨ha,Y,hk⟩:=h;simp only[Nc.kids] at hn;obtain ⟨A,c,rfl, -, -⟩:=ha.form;obtain ⟨B,d,rfl, -, -⟩:=RNs.form Y;simp only[cellsN,Nc.kids];have hl:RNs w (.slice B kids.length d) kids:=Y;have he:=gd ((Xg kids).1 hk);clear Y hk;have ho:=(Ext.refl w).alloc (.cells #[nI (k:Nat),.string (str s),.string (str n),.slice A l.length c,.slice B kids.length d,.string (str t),nI (a:Nat)] 25);go_enter func29,ntmps29;go_wp2;go_loopw [7,13] (λu v wr=>∃j:Nat,j<=kids.length/\v=nI j/\wr.ownsRow (w.heap.size+1) 25 7 u ((kids.take j).filter (isKid sp nm)).length (flatN ((kids.take j).filter (isKid sp nm)))/\Ext (w.alloc (.cells #[nI (k:Nat),.string (str s),.string (str n),.slice A l.length c,.slice B kids.length d,.string (str t),nI (a:Nat)] 25)) wr) (λ_ v _=>kids.length - (intOf v).toNat)
 case atStart=>exact ⟨0,Zk _,rfl,YL _ _ _ _,Ext.refl _⟩
 case round=>
  obtain ⟨j,hj,rfl,q,hx⟩:=hrel;by_cases H:j<kids.length
  ·obtain ⟨ad,c',hv,hg⟩:=(RNs.ext hl (ho.trans hx)).at H;injection hv with hv1 hv2 hv3;subst hv1;clear hv2 hv3;have hB:(0:Int)<=(j:Int):=(by omega);have hC:(j:Int)<(kids.length:Int):=(by omega);have Q:=Zey (f:=isKid sp nm) H;have S:=YS (RdN.sl (he.out kids[j] (ZL H)));have hm:=RdN.sl (he.out kids[j] (ZL H));obtain ⟨F,hF⟩:∃F,(kids.take j).filter (isKid sp nm)=F:=⟨_,rfl⟩;have hf:F.length<=16777216:=(by have:=(List.filter_sublist (p:=isKid sp nm) (l:=kids.take j)).length_le;rw[ZD] at this;rw[<-hF];omega);rw[hF] at Q q;obtain ⟨x,hp⟩:∃x,kids[j]=x:=⟨_,rfl⟩;rw[hp] at hg Q S hm;obtain ⟨xk,xs,xn,hE,xl,hG,hc,xt,xa⟩:=x;obtain ⟨⟨XA,xm,xc,V⟩,⟨XB,hd,xd,X⟩⟩:=hm;simp only[Nc.al,Nc.ks] at V X;subst V;subst X;obtain ⟨a0,a1,a2,a3,a4,a5,a6⟩:=hg;simp only[Nc.kind,Nc.space,Nc.name,Nc.al,Nc.ks,Nc.text,Nc.at_] at a0 a1 a2 a3 a4 a5 a6;have K:=gd Q;obtain ⟨HM,HB⟩:=UG hf;have HM:=gd HM;have HB:=gd HB;obtain ⟨U,uc,rfl⟩:=Z8 q;have hws:w.heap.size+1<=wr.heap.size:=(by have:=hx.size;rwa [Zq] at this);obtain ⟨W2,I⟩:∃W2,wr.alloc (.cells #[nI (xk:Nat),.string (str xs),.string (str xn),.slice XA xm xc,.slice XB hd xd,.string (str xt),nI (xa:Nat)] 25)=W2:=⟨_,rfl⟩;have R:Ext wr W2:=(by rw[<-I];exact (Ext.refl wr).alloc _);have hh:BxN W2 wr.heap.size xk xs xn (.slice XA xm xc) (.slice XB hd xd) xt xa:=(by rw[<-I];exact Zg wr _);obtain ⟨c0,c1,c2,c3,c4,c5,c6⟩:=hh.cells;have hq:=hx.trans R;have hb:=Ye q R;have hr:Hid (w.heap.size+1<=W2.heap.size):=gd (Zu hws R.size);have M:=gd hq;have D:=gd hb;clear hh R hq q hx hws;clear Q hp hF hf;by_cases hi:xk=0
   ·subst hi;rw[show ((0:Nat):Int)=0 from rfl] at c0 a0 I;cases q1:((str xs).toList==(str sp).toList) with
    |true=>
     cases q2:((str xn).toList==(str nm).toList) with
     |true=>
      go_wp2_with (first|(refine Zd rfl 25 (.tmp 9) (.tmp 16) rfl wr.heap.size _ rfl rfl _ _ (Zg _ _) Zv rfl Yx ?_;rw[ZW];rw[I])|(at_builtin;refine ZJ _ rfl (.tmp 32) (.tmp 34) _ rfl (w.heap.size+1) 25 i0 _ 7 112 underlying23 ht hw hy hz rfl (by decide) _ _ _ rfl (D.out.alloc _) _ 1 (cellsN (.mk 0 xs xn (.slice XA xm xc) xl (.slice XB hd xd) hc xt xa)) rfl (Yn rfl (by decide)) S HM.out HB.out ?_ ?_;(rw[Zq];have:=hr.out;omega);intro v9 w9 Z hs hA))
      go_roundw
      case rel=>refine ⟨j+1,H,by go_num,?_,Ext.app (M.out.alloc _) hs (D.out.alloc _) (by rw[Zq];exact Zb _)⟩;have J:=K.out;rw[Zh (by unfold isKid;simp only[Nc.kind,Nc.space,Nc.name];rw[XW] at q1 q2;rw[q1,q2];rfl)] at J;rw[J,UD,UE,Zc];exact Z
      case measure=>simp[intOf];omega
     |false=>
      go_wp2_with (first|(refine Zd rfl 25 (.tmp 9) (.tmp 16) rfl wr.heap.size _ rfl rfl _ _ (Zg _ _) Zv rfl Yx ?_;rw[ZW];rw[I]))
      go_roundw
      case rel=>refine ⟨j+1,H,by go_num,?_,M.out⟩;have J:=K.out;rw[Ze (by unfold isKid;simp only[Nc.kind,Nc.space,Nc.name];rw[XW] at q2;rw[q2];simp)] at J;rw[J,Yi];exact D.out
      case measure=>simp[intOf];omega
    |false=>
     go_wp2_with (first|(refine Zd rfl 25 (.tmp 9) (.tmp 16) rfl wr.heap.size _ rfl rfl _ _ (Zg _ _) Zv rfl Yx ?_;rw[ZW];rw[I]))
     go_roundw
     case rel=>refine ⟨j+1,H,by go_num,?_,M.out⟩;have J:=K.out;rw[Ze (by unfold isKid;simp only[Nc.kind,Nc.space,Nc.name];rw[XW] at q1;rw[q1];simp)] at J;rw[J,Yi];exact D.out
     case measure=>simp[intOf];omega
   ·have hD:((xk:Int)==0)=false:=by rw[Zy];omega
    go_wp2_with (first|(refine Zd rfl 25 (.tmp 9) (.tmp 16) rfl wr.heap.size _ rfl rfl _ _ (Zg _ _) Zv rfl Yx ?_;rw[ZW];rw[I]))
    go_roundw
    case rel=>refine ⟨j+1,H,by go_num,?_,M.out⟩;have J:=K.out;rw[Ze (by unfold isKid;simp only[Nc.kind,Nc.space,Nc.name];simp[hi])] at J;rw[J,Yi];exact D.out
    case measure=>simp[intOf];omega
  ·have hu:j=kids.length:=(by omega);subst hu;rw[ZT (Zb _)] at q;go_wp2;go_ret;exact ⟨_,rfl,XM q (Yf _),ho.trans hx⟩
section
variable {k:Nat}
def attrFst (al:List AtP):List (List UInt8)->List UInt8
 | []=> []
 |n::t=>match attrN al [] n with
  |some v=>v
  |none=>attrFst al t
theorem GR (al:List AtP) (nm:List UInt8):attrN al [] nm=attrIn al nm:=rfl
theorem Qm (al:List AtP) (a:List UInt8):attrFst al [a]=(attrIn al a).getD []:=by
 unfold attrFst;rw[GR];cases attrIn al a<;>rfl
theorem Zb3 (n:Nd):attrFst n.attrs [textL,titleL]=nameL n:=by
 unfold attrFst nameL attrL;rw[GR];cases attrIn n.attrs textL with
 |some v=>rfl
 |none=>exact Qm _ _
theorem UW:str ([]:List UInt8)=⟨#[]⟩:=rfl
theorem Zex:str xmlUrlL=⟨#[120,109,108,85,114,108]⟩:=rfl
theorem Uz:str outlineL=⟨#[111,117,116,108,105,110,101]⟩:=rfl
theorem ZhP:str bodyL=⟨#[98,111,100,121]⟩:=rfl
theorem Zie {al:List AtP} {l:List (List UInt8)} {v:List UInt8} (q:k<l.length) (h:attrN al [] l[k]=some v):attrFst al (l.drop k)=v:=by
 rw[Zi q,attrFst,h]
theorem Zgz {al:List AtP} {l:List (List UInt8)} (q:k<l.length) (h:attrN al [] l[k]=none):attrFst al (l.drop k)=attrFst al (l.drop (k+1)):=by
 rw[Zi q,attrFst,h]
end
section
variable {B N j m n r:Nat} {e:TypeId} {u v:Value} {w w1:World} {xs:List Value}
theorem Ziw:(prog.info? 55).map (λi=>(i.zero,i.size,i.bytes))=some (some (.agg #[sN,eS,eS,eS,nI 0,sN]),6,104):=by kernel_rfl
theorem Zg1:(prog.info? 9).map (λi=>(i.zero,i.size,i.bytes))=some (some eS,1,16):=by kernel_rfl
theorem ZgL (h:n+m<=16777216):n+m<=maxLen/\(n+m)*104<=140737488355328:=by unfold maxLen;omega
theorem K6 (h:n+m<=16777216):n+m<=maxLen/\(n+m)*16<=140737488355328:=by unfold maxLen;omega
theorem Q3 (l:List ByteArray):∀u∈l.map Value.string,u.oneCell'=true:=by
 intro u h;obtain ⟨s,_,rfl⟩:=Z3.1 h;rfl
theorem Zfc (n:Nd):1<=n.ht:=by cases n;rw[Nd.ht];omega
theorem ZdJ (nm:List UInt8) (x:Nc):isKid [] nm x=isEl nm x.nd:=by cases x;rw[Nc.nd];rfl
theorem VW (nm:List UInt8):∀l:List Nc,Nc.nds (l.filter (isKid [] nm))=(Nc.nds l).filter (isEl nm)
 | []=>by rw[Nc.nds];rfl
 |x::t=>by
  have ih:=VW nm t
  rw[Nc.nds,List.filter_cons,List.filter_cons,ZdJ]
  cases isEl nm x.nd with
  |true=>simp only[Zjw];rw[Nc.nds,ih]
  |false=>simp only[JG,ZkC];exact ih
theorem Zd5 {l:List Nc} (h:j<l.length):(Nc.nds l).drop j=l[j].nd::(Nc.nds l).drop (j+1):=by
 rw[XL,Zi (by rw[Zs];exact h),Ju]
theorem I8 (f:Nd->Bool):∀l:List Nd,Nds.cnt (l.filter f)<=Nds.cnt l
 | []=>Zb _
 |x::t=>by
  have ih:=I8 f t
  rw[List.filter_cons,Nds.cnt]
  split
  ·rw[Nds.cnt];omega
  ·omega
theorem Zc3 (x:Nc) (nm:List UInt8):attrL x.nd nm=attrN x.attrs [] nm:=by cases x;rw[Nc.nd];rfl
theorem ZiK (x:Nc):nameL x.nd=attrFst x.attrs [textL,titleL]:=by
 rw[<-Zb3];cases x;rw[Nc.nd];rfl
theorem ZkX (x:Nc):x.nd.at_=x.at_:=by cases x;rw[Nc.nd];rfl
theorem Ze6 {x:Nc} (h:x.nd.fits N):x.attrs.length<=N:=by cases x;rw[Nc.nd,Nd.fits] at h;exact h.2.2.2.1
theorem RdN.ats {x:Nc} (h:RdN w x):RAts w x.al x.attrs:=by cases x;rw[RdN] at h;exact h.1
mutual
theorem Zah:∀(n:Nd) (path:List ByteArray) (l:List Fd),visP n path= .ok l->l.length<=n.cnt
 | .mk k s nm al ks t a,path,l,h=>by
  rw[visP] at h
  have h1:=ZbV ks path l h
  rw[Nd.cnt]
  omega
theorem ZbV:∀(ks:List Nd) (path:List ByteArray) (l:List Fd),visKs ks path= .ok l->l.length<=Nds.cnt ks
 | [],path,l,h=>by
  rw[visKs] at h
  injection h with h
  subst h
  exact Zk _
 |k::t,path,l,h=>by
  rw[visKs] at h
  split at h
  ·cases h
  ·rename_i l1 h1
   split at h
   ·cases h
   ·rename_i l2 h2
    injection h with h
    subst h
    have q2:=ZbV t path l2 h2
    have q1:l1.length<=k.cnt:=by
     split at h1
     ·split at h1
      ·split at h1
       ·cases h1
       ·injection h1 with h1
        subst h1
        exact Zb7 k
      ·split at h1
       ·cases h1
       ·split at h1
        ·cases h1
        ·exact Zah k _ l1 h1
     ·injection h1 with h1
      subst h1
      exact Zk _
    rw[Nds.cnt,Zc]
    omega
end
theorem I1 {e2:TypeId} {size h J:Nat} {F:List Value} (H:w1.ownsRow B e size u n xs) (A:w.ownsRow w1.heap.size e2 h v J F) (q:F≠ []):v.ownBlock≠u.ownBlock:=by
 obtain ⟨g,D,I⟩:=RSl.old (RSl.of_own A) q;rw[D];intro e;have a:=(A.lt g D).1;have b:=(H.lt g e.symm).2;omega
theorem Zbk {size:Nat} (h:w.ownsRow B e size v n xs) (q:xs≠ []) (A:r<B):v.ownBlock≠some r:=λe=>by
 have:=(h.lt r e).1;omega
end
section
variable {k:Nat} {v:Value} {w:World}
theorem ZcE {a b:List ByteArray} (h:k<a.length) (q:k<b.length):pathCmp (a.drop k) (b.drop k)=if sCmp a[k] b[k]=0 then pathCmp (a.drop (k+1)) (b.drop (k+1)) else sCmp a[k] b[k]:=by
 rw[Zi h,Zi q];rfl
theorem RStrs.at {l:List ByteArray} (h:RStrs w v l) (F:k<l.length):∃ad c,v= .slice (some ad) l.length c/\w.cell? (ad.add k)=some (.string l[k]):=by
 obtain ⟨_,A,c,e,_,_,_,q⟩:=h;obtain ⟨ad,rfl,D⟩:=q k (.string l[k]) (by rw[YD,Zr F];rfl);exact ⟨ad,c,e,D⟩
end
section
variable {B cb db:Nat} {W:World} {α:Type}
structure KpF (zs cb db:Nat) (W W':Wq):Prop where
 os:W'.os=W.os
 tape:W'.tape=W.tape
 output:W'.output=W.output
 size:W.heap.size<=W'.heap.size
 block:∀k,k<zs\/k=cb\/k=db->W'.heap[k]? =W.heap[k]?
theorem KpF.trans {zs:Nat} {A B C:Wq} (h:KpF zs cb db A B) (q:KpF zs cb db B C):KpF zs cb db A C:=
 ⟨q.os.trans h.os,q.tape.trans h.tape,q.output.trans h.output,Zu h.size q.size,λk D=>(q.block k D).trans (h.block k D)⟩
theorem KpF.put {zs:Nat} {l:Nat} {o':Obj} (F:B<=l) (h:zs<=B) (q:cb<B) (A:db<B):KpF zs cb db W (W.putObj l o'):=
 ⟨rfl,rfl,rfl,by rw[World.putObj_size];exact Zb _,λk D=>XI (by omega)⟩
theorem KpF.ext {z W':Wq} (h:KpF z.heap.size cb db W W') (A:Ext z W):Ext z W':=
 A.then ⟨h.os,h.tape,h.output,h.size,λk q=>h.block k (Or.inl q)⟩
def leftF (cb:Nat) (w:Wq):Nat:=match w.cell? ⟨cb,0,none⟩ with|some (.slice _ n _)=>n|_=>0
def encG (g:Grp):Array Value:=#[.string g.name,g.v]
theorem Zks (a b:ByteArray):decide (a=b)=(a.toList==b.toList):=by
 by_cases h:a=b
 ·rw[h,YQ rfl];simp
 ·rw[YG h]
  symm
  rw[Zy,Z2,Z2];intro e;refine h (ByteArray.ext ?_);exact Array.ext' e
theorem Zjf {β:Type} (g:α->β) (p:α->Bool) (q:β->Bool) (h:∀a,p a=q (g a)):∀l:List α,(l.takeWhile p).length=((l.map g).takeWhile q).length
 | []=>rfl
 |a::t=>by
  rw[ZP,Z9,Z9,h a]
  split
  ·rw[Zf,Zf,Zjf g p q h t]
  ·rfl
section
variable {α:Type} {l:List α} {p:α→Bool} {k:Nat}
theorem Zge (h:k<l.length) (q:p l[k]=true):k+((l.drop k).takeWhile p).length=k+1+((l.drop (k+1)).takeWhile p).length:=by
 rw[Zi h,Z9,Zh q,Zf];omega
theorem Zgf (h:k<l.length) (q:p l[k]=false):k+((l.drop k).takeWhile p).length=k:=by
 rw[Zi h,Z9,q];rfl
theorem Zjs (h:l.length<=k):k+((l.drop k).takeWhile p).length=k:=by
 rw[ZC h];rfl
end
theorem ZhI (d:Nat) (x:Fc) (t:List Fc):runN d ((x::t).map Fc.f)=1+(((((x::t).map λy=>pathAt y.f d)).drop 1).takeWhile λq=>q.toList==(pathAt x.f d).toList).length:=by
 show (((x::t).map Fc.f).takeWhile λy=>decide (pathAt y d=pathAt x.f d)).length=_;rw[Zjf (λy=>pathAt y d) _ (λq=>q.toList==(pathAt x.f d).toList) (λa=>Zks _ _),ZeL];show (((pathAt x.f d)::t.map (λy=>pathAt y.f d)).takeWhile _).length=_;rw[Z9,Zh (by simp),Zf,Nat.add_comm];rfl
theorem Zdx (d:Nat) (z w:Wq) (cb db:Nat) (v:Value) (l:List Fc) (hz:Ext z w) (gB:z.heap.size<=cb) (g3:z.heap.size<=db) (gn:cb≠db) (hv:RFcs z v l) (hi:∀x∈l,RdC z x/\d<x.f.path.length) (hl:l.length<=16777216) (gO:d<=1000)
 (U:w.heap[cb]? =some (.cells #[v] 29 (0,0))) (hg:w.heap[db]? =some (.cells #[nI (d:Nat)] 3 (0,0))) (n:Nat):
 CellSeq Fence.wide n prog 133 #[.pointer (some ⟨cb,0,none⟩),.pointer (some ⟨db,0,none⟩)] encG cb (KpF z.heap.size cb db) (grps d (l.length+1) v l) w:=by
 intro ln J W hE gh gg hY h0;refine callsIn_wide.2 ?_;have gI:=gd (hz.trans hE);have HY:=gd hY;have hP:=gd gh;have h7:=gd gg;have H0:=gd h0;have gC:=gd (hE.heap U);have gD:=gd (hE.heap hg);have HV:=gd hv;have gG:=gd hi;have HL:=gd hl;obtain ⟨X,hX⟩:∃X,grps d (l.length+1) v l=X:=⟨_,rfl⟩;rw[hX] at HY|-;have HX:=gd hX;clear hE hY gh gg h0 U hg hv hi hl hX hz;have gk:(#[.func (.yield ln) #[] #[]]++#[.pointer (some ⟨cb,0,none⟩),.pointer (some ⟨db,0,none⟩)]:Array Value)=#[.func (.yield ln) #[] #[],.pointer (some ⟨cb,0,none⟩),.pointer (some ⟨db,0,none⟩)]:=rfl;rw[gk];clear gk;go_enter func133,ntmps133;go_wp2;go_loopw [4,5] (λ_ _ wr=>∃(s:List Grp) (f:Nat) (v':Value) (r:List Fc),J s wr/\wr.heap[cb]? =some (.cells #[v'] 29 (0,0))/\wr.heap[db]? =some (.cells #[nI (d:Nat)] 3 (0,0))/\Ext z wr/\RFcs z v' r/\(∀x∈r,RdC z x/\d<x.f.path.length)/\r.length<f/\r.length<=16777216/\Hid (s++grps d f v' r=X)) (λ_ _ wr=>leftF cb wr)
 case atStart=>exact ⟨[],l.length+1,v,l,H0.out,gC.out,gD.out,gI.out,HV.out,gG.out,YK _,HL.out,HX.out⟩
 case round=>
  obtain ⟨s,f,v',r,hJ,U,hg,hF,hv,hi,gt,gu,hX⟩:=hrel;have c0:wr.cell? ⟨cb,0,none⟩=some v':=by rw[Zp U];rfl
  have c1:wr.cell? ⟨db,0,none⟩=some (nI (d:Nat)):=by rw[Zp hg];rfl
  cases r with
  |nil=>have gy:=hv;obtain ⟨-,A,c,rfl, -⟩:=hv;go_wp2;go_end0;have I:=hX.out;obtain ⟨f,rfl⟩:∃f',f=f'+1:=⟨f - 1,by omega⟩;rw[grps,Yi] at I;rw[<-I];exact ⟨⟨_,rfl⟩,hJ⟩
  |cons x t=>
   obtain ⟨f,rfl⟩:∃f',f=f'+1:=⟨f - 1,by omega⟩;obtain ⟨ad,c,rfl,hf⟩:=RFcs.at (RSl.ext hv hF) (k:=0) (by rw[Zf];omega);rw[Xf,add_zero,Jp] at hf;obtain ⟨gz,F⟩:=hi x ZH;obtain ⟨pa,pc,gp,hD⟩:=RStrs.at (gz.1.ext hF) F;obtain ⟨m,hm⟩:∃m,(x::t).length=m:=⟨_,rfl⟩;have gL:1<=m:=(by rw[<-hm,Zf];omega);rw[hm] at c0;have a0:=hf.c0;rw[gp] at a0;obtain ⟨pl,hC⟩:∃pl,x.f.path.length=pl:=⟨_,rfl⟩;have gJ:(d:Int)<(pl:Int):=(by rw[hC] at F;omega);have gU:(0:Int)<=(d:Int):=(by omega);have gY:(0:Int)<(m:Int):=(by omega);have g2:¬m=0:=(by omega);have hI:m<=c:=(by obtain ⟨_,A9,c9,e9,h9, -⟩:=hv;injection e9 with e91 e92 e93;rw[hm] at h9;rw[e93];exact h9);have gb:=gd hI;clear hI;rw[hC] at a0;have gl:x.f.path[d]=pathAt x.f d:=(by unfold pathAt;rw[Yk,Zr F];rfl);rw[gl] at hD;obtain ⟨nm,h4⟩:∃nm,pathAt x.f d=nm:=⟨_,rfl⟩;rw[h4] at hD;have HV:=gd hv;have hk:=gd hi;have M:=gd hm;have gS:=gd F;have gR:=gd hC;have hT:=gd h4;have gP:=gd hf;have HJ:=gd hJ;have ho:=gd hF;have gc:=gd gt;have hU:=gd gu;clear hv hi hm F hC h4 hf gp hJ hF gt gu gz gl;go_wp2;refine rN ?_;change wpAny _ _ _ _ _ _ _ (World.drew _);have F:=(Ext.refl wr).drew;obtain ⟨Wd,gj⟩:∃Wd,wr.drew=Wd:=⟨_,rfl⟩;rw[gj] at F|-;have b0:=F.cell c0;have b1:=F.cell c1;have b2:=F.cell a0;have b3:=F.cell hD;refine Yj (λw'=>w'=Wd) ?_;refine tS 0 (.slice (some ad) m c) rfl (λw' D=>by subst D;go_simp) rfl ?_;refine tS 1 (.pointer (some ad)) rfl (λw' D=>by subst D;go_simp) rfl ?_;refine tS 2 (.pointer (some ad)) rfl (λw' D=>by subst D;go_simp) rfl ?_;refine tS 3 (.slice (some pa) pl pc) rfl (λw' D=>by subst D;go_simp) rfl ?_;refine tS 4 (nI (d:Nat)) rfl (λw' D=>by subst D;go_simp) rfl ?_;refine tS 5 (.pointer (some (pa.add d))) rfl (λw' D=>by subst D;go_simp) rfl ?_;refine tS 6 (.string nm) rfl (λw' D=>by subst D;go_simp) rfl ?_;refine tS 7 (.string nm) rfl (λw' D=>by subst D;go_simp) rfl ?_;go_simp;refine sE ?_;have hn:=gd (ZhI d x t);rw[hT.out] at hn;have hA:Hid (((x::t).map λy=>pathAt y.f d).length=m):=gd (by rw[Zs];exact M.out);obtain ⟨R,hR⟩:∃R,runN d ((x::t).map Fc.f)=R:=⟨_,rfl⟩;rw[hR] at hn;have HR:=gd hR;have gN:=gd (ho.out.trans F);have ge:=gd F;have gQ:=gd (hP.out _ _ _ HJ.out F);clear b0 b1 b2 b3 c0 c1 a0 hD gJ F gj hR;obtain ⟨wQ,gM⟩:∃wQ:Wq,wQ=wr:=⟨_,rfl⟩;subst gM;go_wp2;rename_i K5 gi;have h8:=gd gi;clear gi;go_loopw [5] (λv wi=>∃k:Nat,1<=k/\k<=m/\v=nI k/\Hid (R=k+((((x::t).map λy=>pathAt y.f d).drop k).takeWhile λq=>q.toList==nm.toList).length)/\Ext wQ wi) (λv _=>m - (intOf v).toNat)
   case atStart=>exact ⟨1,Zb _,gL,rfl,hn,ge.out⟩
   case round=>
    obtain ⟨k,gX,hu,rfl,ht,hh⟩:=hrel;have ga:Hid (k<=c):=gd (Zu hu gb.out);have gZ:m<=16777216:=(by have:=hU.out;rw[M.out] at this;exact this);have c0:=hh.cell ((Zp U 0).trans rfl);have c1:=hh.cell ((Zp hg 0).trans rfl);rw[M.out] at c0;by_cases hw:k<m
    ·have hK:k<(x::t).length:=(by rw[M.out];exact hw);obtain ⟨gT,c2,gy,hf⟩:=RFcs.at (RSl.ext HV.out (ho.out.trans hh)) (k:=k) hK;injection gy with hv21 hv22 hv23;injection hv21 with hv21;subst hv21;clear hv22 hv23;obtain ⟨gA,hH⟩:=hk.out _ (ZL hK);obtain ⟨qa,qc,gs,gr⟩:=RStrs.at (gA.1.ext (ho.out.trans hh)) hH;have h5:((x::t).map λy=>pathAt y.f d)[k]'(by rw[hA.out];exact hw)=(x::t)[k].f.path[d]:=(by rw[Ju];unfold pathAt;rw[Yk,Zr hH];rfl);have a0:=hf.c0;rw[gs] at a0;obtain ⟨ql,gq⟩:∃ql,(x::t)[k].f.path.length=ql:=⟨_,rfl⟩;rw[gq] at a0 hH;have gV:(d:Int)<(ql:Int):=(by omega);obtain ⟨ny,go⟩:∃ny,(x::t)[k].f.path[d]=ny:=⟨_,rfl⟩;rw[go] at gr h5;obtain ⟨b,hb⟩:∃b,(ny.toList==nm.toList)=b:=⟨_,rfl⟩;have gW:(0:Int)<=(k:Int):=(by omega);have gm:(k:Int)<(m:Int):=(by omega);have hB:=gd hh;have gf:=gd h5;have h6:=gd hb;clear hf gs gA hH hh h5 go gq;go_wp2;refine rN ?_;change wpAny _ _ _ _ _ _ _ (World.drew _);have F:=(Ext.refl wr).drew;obtain ⟨We,hZ⟩:∃We,wr.drew=We:=⟨_,rfl⟩;rw[hZ] at F|-;have b0:=F.cell c0;have b1:=F.cell c1;have b2:=F.cell a0;have b3:=F.cell gr;refine Yj (λw'=>w'=We) ?_;refine tS 0 (nI (k:Nat)) rfl (λw' D=>by subst D;go_simp) rfl ?_;refine tS 1 (.slice (some ad) m c) rfl (λw' D=>by subst D;go_simp) rfl ?_;refine tS 2 (nI (m:Nat)) rfl (λw' D=>by subst D;go_simp) rfl ?_;refine tS 3 (.bool true) rfl (λw' D=>by subst D;go_simp) rfl ?_;go_simp;refine tS 4 (.bool true) rfl (λw' D=>by subst D;go_simp) rfl ?_;go_simp;refine tS 5 (.slice (some ad) m c) rfl (λw' D=>by subst D;go_simp) rfl ?_;go_simp;refine tS 6 (nI (k:Nat)) rfl (λw' D=>by subst D;go_simp) rfl ?_;go_simp;refine tS 7 (.pointer (some (ad.add (k*6)))) rfl (λw' D=>by subst D;go_simp) rfl ?_;go_simp;refine tS 8 (.pointer (some (ad.add (k*6)))) rfl (λw' D=>by subst D;go_simp) rfl ?_;go_simp;refine tS 9 (.slice (some qa) ql qc) rfl (λw' D=>by subst D;go_simp) rfl ?_;go_simp;refine tS 10 (nI (d:Nat)) rfl (λw' D=>by subst D;go_simp) rfl ?_;go_simp;refine tS 11 (.pointer (some (qa.add d))) rfl (λw' D=>by subst D;go_simp) rfl ?_;go_simp;refine tS 12 (.string ny) rfl (λw' D=>by subst D;go_simp) rfl ?_;go_simp;refine tS 13 (.string nm) rfl (λw' D=>by subst D;go_simp) rfl ?_;go_simp;refine tS 14 (.bool b) rfl (λw' D=>by subst D;go_simp) rfl ?_;go_simp;refine tS 15 (.bool b) rfl (λw' D=>by subst D;go_simp) rfl ?_;go_simp;refine sE ?_;have H:=ht.out;cases b with
     |true=>
      rw[Zge (by rw[hA.out];exact hw) (by rw[gf.out];exact h6.out)] at H;have gE:=gd H;clear H ht;have gH:=gd (hB.out.trans F);go_wp2;go_roundw
      case rel=>exact ⟨k+1,by omega,hw,by go_num,gE.out,gH.out⟩
      case measure=>simp[intOf];omega
     |false=>
      rw[Zgf (by rw[hA.out];exact hw) (by rw[gf.out];exact h6.out)] at H;have hx:=hB.out;go_wp2;refine h8.out _ _ ?_;have Q:=gd (hx.trans F);obtain ⟨LV,K⟩:∃LV,loV k (.slice (some ad) m c)=LV:=⟨_,rfl⟩;obtain ⟨UV,he⟩:∃UV,hiV k (.slice (some ad) m c)=UV:=⟨_,rfl⟩;obtain ⟨G,hG⟩:∃G:Grp,G=⟨nm,UV,(x::t).take k⟩:=⟨_,rfl⟩;have I:=hX.out;rw[grps,hT.out,HR.out,H,M.out,K,he,<-hG] at I;have hc:(s++ [G])<+:X:=⟨grps d f LV ((x::t).drop k),by rw[<-I,ZN];rfl⟩;have h1:=HV.out.form;have gx:∀Y:Wq,(Instr.slice 29 (.slice (some ad) m c) (some (nI (k:Nat))) none none).run prog Y= .ok LV Y:=λY=>(by rw[<-K];exact ZcQ hu Y);have gw:∀Y:Wq,(Instr.slice 29 (.slice (some ad) m c) none (some (nI (k:Nat))) none).run prog Y= .ok UV Y:=λY=>(by rw[<-he];exact Zi3 ga.out Y);obtain ⟨fn,tmps,assign,body,hy,hs⟩:=HY.out s G We hc (hP.out _ _ _ HJ.out Q.out);have ha:encG G=#[.string nm,UV]:=(by rw[hG];rfl);rw[ha] at hy;have hj:=gd (Q.out.heap U);have hN:=gd (Q.out.heap hg);have e0:We.cell? ⟨cb,0,none⟩=some (.slice (some ad) m c):=(by have h:=Zp hj.out 0;rw[M.out] at h;exact h);have Z:=gd (show ((x::t).drop k).length<f/\((x::t).drop k).length<=16777216 by rw[Zj,M.out];have:=gc.out;have:=hU.out;rw[M.out] at*;omega);have hV:Hid (RFcs z LV ((x::t).drop k)):=gd (by rw[<-K];have h:=QE k HV.out (by rw[M.out];exact hu);rw[M.out] at h;exact h);have gF:Hid (leftF cb=leftF cb):=gd rfl;have hd:∃A q,LV= .slice A (m - k) q:=⟨_,_,K.symm⟩;have hW:Hid ((s++ [G])++grps d f LV ((x::t).drop k)=X):=gd (by rw[<-I,ZN];rfl);clear I hc K he hG h1 ha hX;refine (wpIn_wide (n:=n)).1 ?_;gi_wp2;refine ⟨λh=>absurd h (by decide),hs.mono ?_⟩;rintro e W3 ⟨rfl,hr,V⟩;have S:=(V.block cb (Or.inr (Or.inl rfl))).trans hj.out;have hp:=(V.block db (Or.inr (Or.inr rfl))).trans hN.out;have g0:W3.cell? ⟨cb,0,none⟩=some (.slice (some ad) m c):=(by have h:=Zp S 0;rw[M.out] at h;exact h);have g1:W3.frozen? ⟨cb,0,none⟩=false:=ZX S 0;have hM:=gd S;have hL:=gd hp;have hO:=gd hr;have hQ:=gd V;clear S hp hr V hy hs;obtain ⟨LA,lq,hd⟩:=hd;subst hd;gi_wp2;have hq:(W3.setCell ⟨cb,0,none⟩ (.slice LA (m - k) lq)).heap[cb]? =some (.cells #[.slice LA (m - k) lq] 29 (0,0)):=Z7 W3 cb 0 _ _ _ hM.out;have h2:leftF cb (W3.setCell ⟨cb,0,none⟩ (.slice LA (m - k) lq))=m - k:=(by unfold leftF;rw[Zp hq];rfl);have h3:leftF cb wQ=m:=(by unfold leftF;rw[Zp U];exact M.out);go_roundw
      case rel=>exact ⟨s++ [G],f,_,(x::t).drop k,h7.out _ _ _ hO.out,hq,(Z4 W3 ⟨cb,0,none⟩ db _ (λe=>gn e.symm)).trans hL.out,((KpF.ext hQ.out (ho.out.trans Q.out)).setCell gB _),hV.out,(λy hy=>hk.out y (YJ hy)),Z.out.1,Z.out.2,hW.out⟩
      case measure=>rw[h2,h3];omega
    ·have gK:k=m:=(by omega);have H:=ht.out;rw[Zjs (by rw[hA.out];omega)] at H;have hB:=gd hh;have gm:¬(k:Int)<(m:Int):=(by omega);clear gK;go_wp2;refine rN ?_;change wpAny _ _ _ _ _ _ _ (World.drew _);have F:=(Ext.refl wr).drew;obtain ⟨We,hZ⟩:∃We,wr.drew=We:=⟨_,rfl⟩;rw[hZ] at F|-;have b0:=F.cell c0;have b1:=F.cell c1;refine Yj (λw'=>w'=We) ?_;refine tS 0 (nI (k:Nat)) rfl (λw' D=>by subst D;go_simp) rfl ?_;go_simp;refine tS 1 (.slice (some ad) m c) rfl (λw' D=>by subst D;go_simp) rfl ?_;go_simp;refine tS 2 (nI (m:Nat)) rfl (λw' D=>by subst D;go_simp) rfl ?_;go_simp;refine tS 3 (.bool false) rfl (λw' D=>by subst D;go_simp) rfl ?_;go_simp;refine tS 4 (.bool false) rfl (λw' D=>by subst D;go_simp) rfl ?_;go_simp;refine Yz (i:=5) (v:=undef) rfl (by kernel_rfl) (λ_ _ _ h=>h) (Or.inr ⟨by rfl,rfl⟩) rfl ?_;go_simp;refine Yz (i:=6) (v:=undef) rfl (by kernel_rfl) (λ_ _ _ h=>h) (Or.inr ⟨by rfl,rfl⟩) rfl ?_;go_simp;refine Yz (i:=7) (v:=undef) rfl (by kernel_rfl) (λ_ _ _ h=>h) (Or.inr ⟨by rfl,rfl⟩) rfl ?_;go_simp;refine Yz (i:=8) (v:=undef) rfl (by kernel_rfl) (λ_ _ _ h=>h) (Or.inr ⟨by rfl,rfl⟩) rfl ?_;go_simp;refine Yz (i:=9) (v:=undef) rfl (by kernel_rfl) (λ_ _ _ h=>h) (Or.inr ⟨by rfl,rfl⟩) rfl ?_;go_simp;refine Yz (i:=10) (v:=undef) rfl (by kernel_rfl) (λ_ _ _ h=>h) (Or.inr ⟨by rfl,rfl⟩) rfl ?_;go_simp;refine Yz (i:=11) (v:=undef) rfl (by kernel_rfl) (λ_ _ _ h=>h) (Or.inr ⟨by rfl,rfl⟩) rfl ?_;go_simp;refine Yz (i:=12) (v:=undef) rfl (by kernel_rfl) (λ_ _ _ h=>h) (Or.inr ⟨by rfl,rfl⟩) rfl ?_;go_simp;refine Yz (i:=13) (v:=undef) rfl (by kernel_rfl) (λ_ _ _ h=>h) (Or.inr ⟨by rfl,rfl⟩) rfl ?_;go_simp;refine Yz (i:=14) (v:=undef) rfl (by kernel_rfl) (λ_ _ _ h=>h) (Or.inr ⟨by rfl,rfl⟩) rfl ?_;go_simp;refine tS 15 (.bool false) rfl (λw' D=>by subst D;go_simp) rfl ?_;go_simp;refine sE ?_;have hx:=hB.out;go_wp2;refine h8.out _ _ ?_;have Q:=gd (hx.trans F);obtain ⟨LV,K⟩:∃LV,loV k (.slice (some ad) m c)=LV:=⟨_,rfl⟩;obtain ⟨UV,he⟩:∃UV,hiV k (.slice (some ad) m c)=UV:=⟨_,rfl⟩;obtain ⟨G,hG⟩:∃G:Grp,G=⟨nm,UV,(x::t).take k⟩:=⟨_,rfl⟩;have I:=hX.out;rw[grps,hT.out,HR.out,H,M.out,K,he,<-hG] at I;have hc:(s++ [G])<+:X:=⟨grps d f LV ((x::t).drop k),by rw[<-I,ZN];rfl⟩;have h1:=HV.out.form;have gx:∀Y:Wq,(Instr.slice 29 (.slice (some ad) m c) (some (nI (k:Nat))) none none).run prog Y= .ok LV Y:=λY=>(by rw[<-K];exact ZcQ hu Y);have gw:∀Y:Wq,(Instr.slice 29 (.slice (some ad) m c) none (some (nI (k:Nat))) none).run prog Y= .ok UV Y:=λY=>(by rw[<-he];exact Zi3 ga.out Y);obtain ⟨fn,tmps,assign,body,hy,hs⟩:=HY.out s G We hc (hP.out _ _ _ HJ.out Q.out);have ha:encG G=#[.string nm,UV]:=(by rw[hG];rfl);rw[ha] at hy;have hj:=gd (Q.out.heap U);have hN:=gd (Q.out.heap hg);have e0:We.cell? ⟨cb,0,none⟩=some (.slice (some ad) m c):=(by have h:=Zp hj.out 0;rw[M.out] at h;exact h);have Z:=gd (show ((x::t).drop k).length<f/\((x::t).drop k).length<=16777216 by rw[Zj,M.out];have:=gc.out;have:=hU.out;rw[M.out] at*;omega);have hV:Hid (RFcs z LV ((x::t).drop k)):=gd (by rw[<-K];have h:=QE k HV.out (by rw[M.out];exact hu);rw[M.out] at h;exact h);have gF:Hid (leftF cb=leftF cb):=gd rfl;have hd:∃A q,LV= .slice A (m - k) q:=⟨_,_,K.symm⟩;have hW:Hid ((s++ [G])++grps d f LV ((x::t).drop k)=X):=gd (by rw[<-I,ZN];rfl);clear I hc K he hG h1 ha hX;refine (wpIn_wide (n:=n)).1 ?_;gi_wp2;refine ⟨λh=>absurd h (by decide),hs.mono ?_⟩;rintro e W3 ⟨rfl,hr,V⟩;have S:=(V.block cb (Or.inr (Or.inl rfl))).trans hj.out;have hp:=(V.block db (Or.inr (Or.inr rfl))).trans hN.out;have g0:W3.cell? ⟨cb,0,none⟩=some (.slice (some ad) m c):=(by have h:=Zp S 0;rw[M.out] at h;exact h);have g1:W3.frozen? ⟨cb,0,none⟩=false:=ZX S 0;have hM:=gd S;have hL:=gd hp;have hO:=gd hr;have hQ:=gd V;clear S hp hr V hy hs;obtain ⟨LA,lq,hd⟩:=hd;subst hd;gi_wp2;have hq:(W3.setCell ⟨cb,0,none⟩ (.slice LA (m - k) lq)).heap[cb]? =some (.cells #[.slice LA (m - k) lq] 29 (0,0)):=Z7 W3 cb 0 _ _ _ hM.out;have h2:leftF cb (W3.setCell ⟨cb,0,none⟩ (.slice LA (m - k) lq))=m - k:=(by unfold leftF;rw[Zp hq];rfl);have h3:leftF cb wQ=m:=(by unfold leftF;rw[Zp U];exact M.out);go_roundw
     case rel=>exact ⟨s++ [G],f,_,(x::t).drop k,h7.out _ _ _ hO.out,hq,(Z4 W3 ⟨cb,0,none⟩ db _ (λe=>gn e.symm)).trans hL.out,((KpF.ext hQ.out (ho.out.trans Q.out)).setCell gB _),hV.out,(λy hy=>hk.out y (YJ hy)),Z.out.1,Z.out.2,hW.out⟩
     case measure=>rw[h2,h3];omega
end
theorem Zdw (A:Option Addr) (n c:Nat) (d:Nat) (w:Wq):
 Calls prog 89 #[.slice A n c,nI (d:Nat)] w λe w'=>e= .returned (.func (.func 133) #[] #[.pointer (some ⟨w.heap.size,0,none⟩),.pointer (some ⟨w.heap.size+1,0,none⟩)])/\
  w'.heap[w.heap.size]? =some (.cells #[.slice A n c] 29 (0,0))/\w'.heap[w.heap.size+1]? =some (.cells #[nI (d:Nat)] 3 (0,0))/\Ext w w'/\w'.heap.size=w.heap.size+2:=by
 go_enter func89,ntmps89;go_wp2;go_ret;exact ⟨rfl,(JJ _ _ (by rw[Zq];omega)).trans (Zg w _),Ys w _ _,((Ext.refl w).alloc _).alloc _,(by rw[Zq,Zq])⟩
section
variable {a:Act} {id:Nat} {o:Oper} {w:World}
section
variable {P:Program} {ops:Array Oper} {Q:Exit→Act→World→Prop} {l n:Nat}
theorem Zeb {K:Act->Wq->Prop} (q:∀c,o.op≠ .defer c) (h:o.wp P a w K Q):o.wpIn (Fence.wide.inRound l) n P a w K Q:=by
 refine ⟨λ_ _=>trivial,?_⟩;rw[Fence.inRound_round,Oper.semAt_some l a.eval o q];unfold Oper.wp at h;generalize (execOp a.eval o).run P w=r at*;cases r with
 |ok x w'=>
  cases x with
  |enter f args=>exact ⟨λh=>absurd (show false=true from h) (by decide),CallsIn.inRound l (callsIn_wide.2 h)⟩
  |row row args=>exact ⟨λh=>absurd (show false=true from h) (by decide),λc cs _=>let ⟨v,A,r,s⟩:=h c cs;⟨v,A,r,stepsIn_wide.2 s⟩⟩
  |round l' f tmps assign body=>exact h.elim
  |value v=>exact h
  |skip=>exact h
  |defer d=>exact h
  |_=>exact h
 |halt x w'=>cases x<;>exact h
theorem ZcA (A:∀(i:Nat) (o:Oper),ops[i]? =some o->∀c,o.op≠ .defer c) (F:¬LetsOut Q):∀(fuel:Nat) (listed:Array Bool) (a:Act) (w:Wq),wpAny P .any ops Q fuel listed a w->wpAnyIn (Fence.wide.inRound l) n P .any ops Q fuel listed a w:=by
 intro fuel
 induction fuel with
 |zero=>intro listed a w h;exact h
 |succ fuel ih=>
  intro listed a w h;refine ⟨h.1,λi H=> ?_⟩;have q:=JD (λa w=>ih (listed.setIfInBounds i true) a w) (h.2 i H);unfold wpOp at q;unfold wpOpIn;cases ho:ops[i]? with
  |none=>simp only[ho] at q|-;exact q
  |some o=>
   simp only[ho] at q|-;split
   ·rename_i D;rw[Zh D] at q;rcases q with q|q
    ·exact Zeb (A i o ho) q
    ·exact absurd q.2 F
   ·rename_i D;rw[Ze D] at q;exact ⟨λ_ _=>trivial,q⟩
theorem II (D:P.follows .mixedOrders=true) (q:∀(i:Nat) (o:Oper),ops[i]? =some o->∀c,o.op≠ .defer c) (A:¬LetsOut Q)
 (h:wpAny P .any ops Q ops.size (Array.replicate ops.size false) a w.drew):(Code.region id ops true).wpIn (Fence.wide.inRound l) n P Q a w:=
 wpIn_region_any D (ZcA q A _ _ _ _ h)
def noDefer (ops:Array Oper):Bool:=ops.all λo=>match o.op with| .defer _=>false|_=>true
theorem Zco (h:noDefer ops=true):∀(i:Nat) (o:Oper),ops[i]? =some o->∀c,o.op≠ .defer c:=by
 intro i o A c e;have q:=(Array.all_eq_true_iff_forall_mem.1 h) o (Array.mem_of_getElem? A);rw[e] at q;cases q
def atEnd (R:Act->Wq->Prop):Exit->Act->Wq->Prop
 | .normal,a,w=>R a w
 |_,_,_=>False
theorem ZcP (A:P.follows .mixedOrders=true) (q:noDefer ops=true)
 (h:wpAny P .any ops (atEnd λa' w'=>Q .normal a' w') ops.size (Array.replicate ops.size false) a w.drew):(Code.region id ops true).wpIn (Fence.wide.inRound l) n P Q a w:=
 wpIn_mono (II A (Zco q) (λ⟨_,_,h⟩=>h) h) λe a w h=>by cases e<;>first|exact h|exact h.elim
end
end
section
variable {c d g j m n:Nat} {nm s t:List UInt8} {u:Value} {w:World}
theorem Ze9 {l:List Nc} (h:j<l.length):flatN (l.take (j+1))=flatN (l.take j)++cellsN l[j]:=by
 rw[Zx h,UD,UE]
def EbX (w:Wq) (g:Nat) (nm:List UInt8) (u:Value):Prop:=w.heap[g]? =some (.cells #[nI 0,eS,.string (str nm),sN,u,eS,nI 0] 25 (0,0))
theorem EbX.cells (h:EbX w g nm u):w.cell? ⟨g,0,none⟩=some (nI 0)/\w.cell? ⟨g,1,none⟩=some eS/\w.cell? ⟨g,2,none⟩=some (.string (str nm))/\w.cell? ⟨g,3,none⟩=some sN/\
 w.cell? ⟨g,4,none⟩=some u/\w.cell? ⟨g,5,none⟩=some eS/\w.cell? ⟨g,6,none⟩=some (nI 0)/\w.frozen? ⟨g,4,none⟩=false:=by
 refine ⟨?_,?_,?_,?_,?_,?_,?_,ZX h 4⟩<;>(rw[Zp h];rfl)
theorem Zk8 {a:Nat} {A B:Option Addr}:(#[Value.int .i64 0,.string (str s),.string (str nm),.slice A n c,.slice B m d,.string (str t),nI (a:Nat)]).all (λu=>u.oneCell')=true:=by simp[Value.oneCell']
theorem Zk6 {A:Option Addr}:(#[nI 0,eS,.string (str nm),sN,(Value.slice A n c),eS,nI 0]).all (λu=>u.oneCell')=true:=by simp[Value.oneCell']
theorem Eg (nm:List UInt8) (v:Value) (l:List Nc) (w:Wq) (hv:RNs w v l) (hk:∀y∈l,RdN w y/\y.kind=0) (hn:l.length<=16777216):
 Calls prog 44 #[.string (str nm),v] w λe w'=>∃ks,e= .returned (.agg (cellsN (.mk 0 [] nm sN [] ks l [] 0)).toArray)/\w'.ownsRow w.heap.size 25 7 ks l.length (flatN l)/\Ext w w':=by
 obtain ⟨i0,hq,ht,hu,hw⟩:=Yw UF;obtain ⟨A,c,hp, -, -⟩:=RNs.form hv;subst hp;have HV:=gd hv;have HK:=gd hk;have HN:=gd hn;clear hv hk hn;go_enter func44,ntmps44;go_wp2;go_loopw [12] (λv wr=>∃(j:Nat) (u:Value),j<=l.length/\v=nI j/\EbX wr (w.heap.size+1) nm u/\wr.heap[w.heap.size]? =some (.cells #[nI 0,eS,eS,sN,sN,eS,nI 0] 25 (0,0))/\wr.ownsRow (w.heap.size+2) 25 7 u j (flatN (l.take j))/\Ext w wr/\w.heap.size+2<=wr.heap.size) (λv _=>l.length - (intOf v).toNat)
 case atStart=>exact ⟨0,sN,Zk _,rfl,Ys w _ _,(JJ _ _ (by rw[Zq];omega)).trans (Zg w _),YL _ _ _ _,((Ext.refl w).alloc _).alloc _,(by rw[Zq,Zq];exact Zb _)⟩
 case round=>
  obtain ⟨j,u,hj,rfl,R,V,q,hx,hws⟩:=hrel;obtain ⟨U,uc,rfl⟩:=Z8 q;obtain ⟨d0,d1,d2,d3,d4,d5,d6,d7⟩:=R.cells;by_cases J:j<l.length
  ·obtain ⟨ad,c',hv,hb⟩:=(RNs.ext HV.out hx).at J;injection hv with hv1 hv2 hv3;subst hv1;clear hv2 hv3;have hC:=HN.out;have hA:(0:Int)<=(j:Int):=(by omega);have hB:(j:Int)<(l.length:Int):=(by omega);have Y:=Ze9 J;obtain ⟨hh,Z⟩:=HK.out l[j] (ZL J);have he:=RdN.sl hh;obtain ⟨y,hi⟩:∃y,l[j]=y:=⟨_,rfl⟩;rw[hi] at hb Y he Z;obtain ⟨yk,ys,yn,hD,yl,hE,M,yt,ya⟩:=y;obtain ⟨⟨YA,ym,yc,hf⟩,⟨YB,Q,yd,hg⟩⟩:=he;simp only[Nc.al,Nc.ks,Nc.kind] at hf hg Z;subst hf;subst hg;subst Z;obtain ⟨a0,a1,a2,a3,a4,a5,a6⟩:=hb;simp only[Nc.kind,Nc.space,Nc.name,Nc.al,Nc.ks,Nc.text,Nc.at_] at a0 a1 a2 a3 a4 a5 a6;rw[show ((0:Nat):Int)=0 from rfl] at a0;have hd:=YS (x:= .mk 0 ys yn (.slice YA ym yc) yl (.slice YB Q yd) M yt ya) ⟨⟨_,_,_,rfl⟩,⟨_,_,_,rfl⟩⟩;have hl:=gd Y;obtain ⟨HM,HB⟩:=UG (n:=j) (by omega);have HM:=gd HM;have HB:=gd HB;obtain ⟨I,X⟩:∃I,wr.alloc (.cells #[nI 0,.string (str ys),.string (str yn),.slice YA ym yc,.slice YB Q yd,.string (str yt),nI (ya:Nat)] 25)=I:=⟨_,rfl⟩;have H:Ext wr I:=(by rw[<-X];exact (Ext.refl wr).alloc _);have D:I.heap[wr.heap.size]? =some (.cells #[nI 0,.string (str ys),.string (str yn),.slice YA ym yc,.slice YB Q yd,.string (str yt),nI (ya:Nat)] 25 (0,0)):=(by rw[<-X];exact Zg wr _);have c0:I.cell? ⟨wr.heap.size,0,none⟩=some (nI 0):=(by rw[Zp D];rfl);have c1:I.cell? ⟨wr.heap.size,1,none⟩=some (.string (str ys)):=(by rw[Zp D];rfl);have c2:I.cell? ⟨wr.heap.size,2,none⟩=some (.string (str yn)):=(by rw[Zp D];rfl);have c3:I.cell? ⟨wr.heap.size,3,none⟩=some (.slice YA ym yc):=(by rw[Zp D];rfl);have c4:I.cell? ⟨wr.heap.size,4,none⟩=some (.slice YB Q yd):=(by rw[Zp D];rfl);have c5:I.cell? ⟨wr.heap.size,5,none⟩=some (.string (str yt)):=(by rw[Zp D];rfl);have c6:I.cell? ⟨wr.heap.size,6,none⟩=some (nI (ya:Nat)):=(by rw[Zp D];rfl);have ha:=gd (show EbX I (w.heap.size+1) nm (.slice U j uc) from H.heap R);have ho:=gd (H.heap V);have h:=gd (Ye q H);have hm:=gd (hx.trans H);have F:=gd (Zu hws H.size);have f4:=(EbX.cells ha.out).2.2.2.2.1;clear Y hh hi hx q R V D H hws d0 d1 d2 d3 d4 d5 d6 d7
   go_wp2_with (first|(refine Zd rfl 25 (.tmp 7) (.tmp 15) rfl wr.heap.size _ rfl rfl _ _ (Zg _ _) Zv rfl Zk8 ?_;rw[ZW];rw[X])|(at_builtin;refine ZJ _ rfl (.tmp 25) (.tmp 27) _ rfl (w.heap.size+2) 25 i0 _ 7 112 underlying23 hq ht hu hw rfl (by decide) _ _ _ rfl (h.out.alloc _) _ 1 (cellsN (.mk 0 ys yn (.slice YA ym yc) yl (.slice YB Q yd) M yt ya)) rfl (Yn rfl (by decide)) hd HM.out HB.out ?_ ?_;(rw[Zq];have:=F.out;omega);intro v9 w9 K S hz;(have hc:EbX w9 (w.heap.size+1) nm (.slice U j uc):=(S.block _ (by rw[Zq];have:=F.out;omega) (λe=>by have:=(h.out.lt _ e.symm).1;omega)).trans ((JJ _ _ (by have:=F.out;omega)).trans ha.out));(have hy:w9.heap[w.heap.size]? =some (.cells #[nI 0,eS,eS,sN,sN,eS,nI 0] 25 (0,0)):=(S.block _ (by rw[Zq];have:=F.out;omega) (λe=>by have:=(h.out.lt _ e.symm).1;omega)).trans ((JJ _ _ (by have:=F.out;omega)).trans ho.out));(obtain ⟨V9,c9,hs⟩:=Z8 K);subst hs;(obtain ⟨g0,g1,g2,g3,g4,g5,g6,g7⟩:=hc.cells)))
   go_roundw
   case rel=>
    refine ⟨j+1,.slice V9 (j+1) c9,J,by go_num,Z7 w9 (w.heap.size+1) 4 _ _ _ hc,(Z4 w9 ⟨w.heap.size+1,4,none⟩ w.heap.size _ (by show w.heap.size≠w.heap.size+1;omega)).trans hy,?_,(Ext.app (hm.out.alloc _) S (h.out.alloc _) (by omega)).setCell (by show _<=w.heap.size+1;omega) _,?_⟩
    ·rw[hl.out];exact Zli K (by show w.heap.size+1<_;omega) _
    ·have h1:=S.size;rw[Zq] at h1;have:=F.out;simp[World.setCell];omega
   case measure=>simp[intOf];omega
  ·have hr:j=l.length:=(by omega);subst hr;rw[List.take_length] at q;clear J hj;have h:=gd q;have HX:=gd hx;clear q hx R
   go_wp2_with (first|(refine Zd rfl 25 (.tmp 4) (.tmp 31) rfl w.heap.size _ rfl rfl _ _ V Zv rfl Zk6 ?_))
   ((try simp only[Exit.inBlock,Exit.then]);refine Zl (JA rfl _ _ _ _ _ _ _ rfl (Zm _ _ _ _ _ _ V) underlying25 rfl Zv) rfl ?_);exact ⟨_,rfl,XM (Jf h.out (by omega) _) (by omega),HX.out.setRow (Zb _) _⟩
end
section
variable {P:Program} {a:Act} {base c g n:Nat} {e:TypeId} {o:Oper} {ops:Array Oper} {rest:List Oper} {w:World} {xs:List Value}
theorem IJ (w:Wq) {Q:Exit->Act->Wq->Prop}
 (Z:o.guard=none) (l c:Operand) (t:TypeId) (F:o.op=Op.makeSlice t l c)
 (e:TypeId) (i:TypeInfo) (z:Value) (size:Nat) (M:P.underlying t=some (.slice e)) (R:P.info? e=some i) (S:i.zero=some z) (U:i.size=size)
 (I kc:IntKind) (L C:Int) (n m:Nat) (hl:a.eval l= .int I L) (Y:a.eval c= .int kc C) (X:L=(n:Int)) (V:C=(m:Int)) (ha:n<=m) (b2:i.bytes*m<=281474976710656) (J:m<=maxLen)
 (hK:wpList P ops Q rest (a.put o.dst (.slice (some ⟨w.heap.size,0,none⟩) n m)) (w.alloc (.cells (madeCells z.cells (m*size)) e))):
 wpList P ops Q (o::rest) a w:=by
 refine wpList_plain Z λK A=> ?_;have q:(m:Int)<=9223372036854775807:=by have h:=J;simp[maxLen] at h;omega
 have D:(i.bytes:Int)*(m:Int)<=281474976710656:=by
  have h:((i.bytes*m:Nat):Int)<=281474976710656:=by omega
  rwa [Int.natCast_mul] at h
 have H:=run_make (P:=P) w t e i z M R S I kc (n:Int) (m:Int) (by omega) (by omega) D q;simp only[Int.toNat_natCast,U] at H;subst X;subst V;unfold Oper.wp;simp[execOp,F,hl,Y,H,Result.andThen];exact A _ _ hK
theorem ZaU (w:Wq) (S sT ty A:TypeId) (size g D I k:Nat) (sp:Option Addr) (H M:Nat) (q:Array Value) (t:TypeId) (cs:List Value)
 (Z:P.underlying S=some (.slice A)) (Y:(P.info? A).map (·.size)=some size)
 (U:w.heap[g]? =some (.cells q t (0,0))) (V:k=Nat.min H D) (R:cs.length=k*size)
 (F:∀j v,cs[j]? =some v->∃a,sp=some a/\w.cell? (a.add j)=some v) (J:cs.length<=q.size) (h1:∀v∈cs,v.oneCell'=true):
 (Builtin.copy_ #[S,sT] ty #[.slice (some ⟨g,0,none⟩) D I,.slice sp H M]).run P w=
  .ok (goInt k) (w.setRow g (cs++q.toList.drop cs.length).toArray):=by
 have K:=run_storeCells_at P g 0 t cs 0 q w U (by simpa using J) h1;simp only[Ym,List.take_zero,Xl] at K;cases hq:P.info? A with
 |none=>simp[hq] at Y
 |some i=>
  have hi:i.size=size:=by simpa [hq] using Y
  have hm:((size*k):Nat)=cs.length:=by rw[R,IG]
  cases sp with
  |none=>
   have Q:cs= []:=by
    cases cs with
    |nil=>rfl
    |cons x r=>obtain ⟨a,e,_⟩:=F 0 x rfl;cases e
   subst Q;have ha:k*size=0:=(by rw[<-R];rfl);simp[Builtin.copy_,run_underlying Z,Builtin.lenOf,Builtin.firstCells,sizeOf,typeInfo,hq,<-V,storeCells,setRow_self w g q t (0,0) U]
  |some a=>have X:=run_loadCells_list (P:=P) w a cs (λj v hv=>by obtain ⟨a',e,h⟩:=F j v hv;injection e with e;subst e;exact h);rw[R] at X;simp[Builtin.copy_,run_underlying Z,Builtin.lenOf,Builtin.firstCells,sizeOf,typeInfo,hq,hi,<-V,X,K]
theorem Ie {Q:Exit->Act->Wq->Prop} (U:o.guard=none) (d s:Operand) (S X:TypeId)
 (ho:o.op= .call {callee:= .builtin .copy,args:=#[d,s],argTypes:=#[S,X]}) (A:TypeId) (size:Nat) (hu:P.underlying S=some (.slice A)) (V:(P.info? A).map (·.size)=some size)
 (g q H k:Nat) (sp:Option Addr) (D I:Nat) (Z:a.eval d= .slice (some ⟨g,0,none⟩) q H) (hs:a.eval s= .slice sp D I)
 (F:Array Value) (t:TypeId) (hg:w.heap[g]? =some (.cells F t (0,0))) (cs:List Value) (hk:k=Nat.min D q) (hn:cs.length=k*size)
 (R:∀j v,cs[j]? =some v->∃a,sp=some a/\w.cell? (a.add j)=some v) (J:cs.length<=F.size) (Y:∀v∈cs,v.oneCell'=true)
 (h:wpList P ops Q rest (a.put o.dst (goInt k)) (w.setRow g (cs++F.toList.drop cs.length).toArray)):wpList P ops Q (o::rest) a w:=by
 refine wpList_plain U λK hK=> ?_;have M:=ZaU (P:=P) w S X o.type A size g q H k sp D I F t cs hu V hg hk hn R J Y;unfold Oper.wp;simp[execOp,ho,resolve,invoke,builtin,Z,hs,M,Result.andThen];exact hK _ _ h
theorem ZcD {size:Nat} {rest:List Value} (F:w.heap[g]? =some (.cells (xs++rest).toArray e (0,0))) (A:base<=g) (q:xs.length=n*size) (h:n<=c) (D:c<=maxLen) (H:(xs++rest).length=c*size):
 w.ownsRow base e size (.slice (some ⟨g,0,none⟩) n c) n xs:=
 ⟨q,Or.inr ⟨g,c,_,rfl,A,F,h,D,by simpa using H,by rw[<-q];simp⟩⟩
end
end Go.Proofs.YtnlafkgkcnenfaaGreatDoor
