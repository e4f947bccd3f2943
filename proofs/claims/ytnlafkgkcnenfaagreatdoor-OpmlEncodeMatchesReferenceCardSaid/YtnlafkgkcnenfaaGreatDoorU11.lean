/- Parts of the proof: contracts and plain laws. -/
import Derived.Test.YtnlafkgkcnenfaaGreatDoorU10
namespace Go.Proofs.YtnlafkgkcnenfaaGreatDoor
open Go Go.RowKit Go.Joins _root_.Go.Proofs.Tryz
set_option linter.unusedVariables false
set_option linter.unusedSimpArgs false
set_option maxRecDepth 100000
set_option maxHeartbeats 16000000
section
variable {a:Act} {fuel i j:Nat} {oi:Oper} {w:World}
section
variable {P:Program} {md:Region.Mode} {Q:Exit→Act→World→Prop} {S:World→Prop}
theorem ZjH {l:List Oper} {oj:Oper} {listed:Array Bool} (V:l[i]? =some oi) (X:l[j]? =some oj) (Y:Region.ready md l.toArray listed= [i,j])
 (I:∀K:Act->Wq->Prop,(∀a' w',S w'->wpAnyS P md l.toArray Q S fuel (listed.setIfInBounds i true) a' w'->K a' w')->if Region.wanted oi (yielded l.toArray a.tmps) then Oper.wp P oi a w K Q else K (a.put oi.dst undef) w)
 (J:∀K:Act->Wq->Prop,(∀a' w',S w'->wpAnyS P md l.toArray Q S fuel (listed.setIfInBounds j true) a' w'->K a' w')->if Region.wanted oj (yielded l.toArray a.tmps) then Oper.wp P oj a w K Q else K (a.put oj.dst undef) w):wpAnyS P md l.toArray Q S (fuel+1) listed a w:=by
 have R:l.toArray[i]? =some oi:=by rw[Yj];exact V
 have U:l.toArray[j]? =some oj:=by rw[Yj];exact X
 have A:=I (λa' w'=>S w'/\wpAnyS P md l.toArray Q S fuel (listed.setIfInBounds i true) a' w') λ_ _ I J=>⟨I,J⟩;have D:=J (λa' w'=>S w'/\wpAnyS P md l.toArray Q S fuel (listed.setIfInBounds j true) a' w') λ_ _ I J=>⟨I,J⟩;refine ⟨λh=>(by rw[Y] at h;cases h),λk F=> ?_⟩;rw[Y] at F;simp only[ZH,ZY,Y1] at F;rcases F with F|F
 ·rw[F];unfold wpOp;simp only[R];split
  ·rename_i H;rw[Zi H] at A;exact Or.inl A
  ·rename_i H;rw[Ze H] at A;exact A
 ·rw[F];unfold wpOp;simp only[U];split
  ·rename_i H;rw[Zi H] at D;exact Or.inl D
  ·rename_i H;rw[Ze H] at D;exact D
end
end
section
variable {base c g j k n:Nat} {e:TypeId} {w:World} {xs:List Value}
theorem ZbB (g n:Nat):(⟨g,0,none⟩:Addr).add n=⟨g,n,none⟩:=by
 unfold Addr.add;split
 ·rename_i h;rw[h]
 ·simp
theorem Zjj {size:Nat} {a:Addr} (h:w.ownsRow base e size (.slice (some a) n c) n xs):∃g A,a=⟨g,0,none⟩/\base<=g/\w.heap[g]? =some (.cells A e (0,0)):=by
 obtain ⟨J,D⟩:=h;rcases D with ⟨D,_⟩|⟨g,cap,A,I,F,H,_⟩
 ·cases D
 ·injection I with hv1 hv2 hv3;injection hv1 with hv1;exact ⟨g,A,hv1,F,H⟩
theorem ZjZ {size:Nat} (h:w.ownsRow base e size (.slice (some ⟨g,0,none⟩) n c) n xs) (U:j<n*size) (u:Value):(w.setCell ⟨g,j,none⟩ u).ownsRow base e size (.slice (some ⟨g,0,none⟩) n c) n (xs.set j u):=by
 obtain ⟨F,D⟩:=h;refine ⟨by rw[Jt];exact F,?_⟩;rcases D with ⟨D,_⟩|⟨g',cap,A,S,H,I,K,J,Q,R⟩
 ·cases D
 ·injection S with hv1 hv2 hv3;injection hv1 with hv1;injection hv1 with hv1 _ _;subst hv1;subst hv3;refine Or.inr ⟨g,c,A.setIfInBounds j u,rfl,H,Yh w g j _ _ _ I,K,J,by simpa using Q,?_⟩;rw[Array.toList_setIfInBounds,List.take_set,R]
theorem ZkN {l:List Nc} (h:k<l.length) (y:Nc) (u:Value) (hc:(cellsN l[k]).set 5 u=cellsN y):(flatN l).set (k*7+5) u=flatN (l.set k y):=by
 induction l generalizing k with
 |nil=>simp at h
 |cons x t ih=>
  cases k with
  |zero=>have A:5<(cellsN x).length:=(by rw[J0];decide);show (cellsN x++flatN t).set (0*7+5) u=cellsN y++flatN t;rw[Xj,YI,List.set_append_left _ _ A];exact Zz (· ++flatN t) hc
  |succ k=>show (cellsN x++flatN t).set ((k+1)*7+5) u=cellsN x++flatN (t.set k y);have D:=J0 x;rw[List.set_append_right _ _ om,D,show (k+1)*7+5 - 7=k*7+5 by omega,ih (by simpa using h) hc]
def BxP (w:Wq) (g:Nat) (lv:Value) (i a e:Nat):Prop:=w.heap[g]? =some (.cells #[lv,nI (i:Nat),nI (a:Nat),nI (e:Nat)] 109 (0,0))
section
variable {w w':World} {g i a e:Nat} {lv:Value}
theorem BxP.ext (h:BxP w g lv i a e) (A:Ext w w'):BxP w' g lv i a e:=A.heap h
theorem BxP.other {g' j:Nat} {v:Value} (h:BxP w g lv i a e) (A:g≠g'):BxP (w.setCell ⟨g',j,none⟩ v) g lv i a e:=(Z4 w ⟨g',j,none⟩ g v A).trans h
theorem BxP.cells (h:BxP w g lv i a e):w.cell? ⟨g,0,none⟩=some lv/\w.cell? ⟨g,1,none⟩=some (nI (i:Nat))/\w.cell? ⟨g,2,none⟩=some (nI (a:Nat))/\w.cell? ⟨g,3,none⟩=some (nI (e:Nat)):=by
 refine ⟨?_,?_,?_,?_⟩<;>(rw[YO _ _ _ _ _ _ h];rfl)
theorem BxP.frozen (h:BxP w g lv i a e):w.frozen? ⟨g,1,none⟩=false/\w.frozen? ⟨g,2,none⟩=false/\w.frozen? ⟨g,3,none⟩=false:=⟨Z5 h 1,Z5 h 2,Z5 h 3⟩
theorem BxP.next (h:BxP w g lv i a e) (j:Nat):BxP (w.setCell ⟨g,1,none⟩ (nI (j:Nat))) g lv j a e:=Yh w g 1 _ _ _ h
theorem BxP.at_ (h:BxP w g lv i a e) (j:Nat):BxP (w.setCell ⟨g,2,none⟩ (nI (j:Nat))) g lv i j e:=Yh w g 2 _ _ _ h
theorem BxP.code (h:BxP w g lv i a e) (j:Nat):BxP (w.setCell ⟨g,3,none⟩ (nI (j:Nat))) g lv i a j:=Yh w g 3 _ _ _ h
theorem BxP.lt (h:BxP w g lv i a e):g<w.heap.size:=(ZP.1 h).1
end
section
variable {a b c:World} {r r':Option Nat} {g:Nat}
theorem Ur (h:a.grownBy b r) (F:a.heap.size<=g) (cs:Array Value):a.grownBy (b.setRow g cs) r:=
 ⟨h.os,h.tape,h.output,by have:=h.size;simpa [World.setRow] using this,λk D A=>(Yf b g k cs om).trans (h.block k D A)⟩
theorem KV (h:a.grownBy b r) (F:a.heap.size<=g) (i:Nat) (v:Value):a.grownBy (b.setCell ⟨g,i,none⟩ v) r:=
 ⟨h.os,h.tape,h.output,by have:=h.size;simpa [World.setCell] using this,λk D A=>(Z4 b ⟨g,i,none⟩ k v (by show k≠g;omega)).trans (h.block k D A)⟩
theorem Qi (h:a.grownBy b (some g)) (i:Nat) (v:Value):a.grownBy (b.setCell ⟨g,i,none⟩ v) (some g):=h.trans (Yw b ⟨g,i,none⟩ v)
theorem Zp7 (h:a.grownBy b r) (A:Ext b c):a.grownBy c r:=h.trans (A.grown r)
end
def zeroN:Array Value:=#[nI 0,eS,eS,sN,sN,eS,nI 0]
theorem UF:(#[Value.int .i64 0,eS,eS,sN,sN,eS,nI 0]).all (λu=>u.oneCell')=true:=by simp[Value.oneCell']
theorem Zn8 (w:Wq):BxN (w.alloc (.cells zeroN 25)) w.heap.size 0 [] [] sN sN [] 0:=Zg w _
theorem GG (G:Nat) (lv:Value) (i a0 X y c:Nat) (w:Wq) (h:BxP w G lv i a0 X):
 Calls prog 101 #[.pointer (some ⟨G,0,none⟩),nI (y:Nat),nI (c:Nat)] w λe w'=>e= .returned (.agg #[nI ((0:Nat):Int),.string (str []),.string (str []),sN,sN,.string (str []),nI ((0:Nat):Int)])/\BxP w' G lv i y c/\w.grownBy w' (some G):=by
 have hl:=h.lt;have D:=((Ext.refl w).alloc (.cells zeroN 25)).grown (some G);have I:=h.ext ((Ext.refl w).alloc (.cells zeroN 25));have V:=Zn8 w;unfold zeroN at*;obtain ⟨W0,J⟩:∃W0,w.alloc (.cells #[nI 0,eS,eS,sN,sN,eS,nI 0] 25)=W0:=⟨_,rfl⟩;rw[J] at D I V;obtain ⟨b0,b1,b2,b3⟩:=I.cells;obtain ⟨Z,f2,f3⟩:=I.frozen;have Y:=I.at_ y;have U:=Y.code c;have H:G≠w.heap.size:=om
 have A:BxN ((W0.setCell ⟨G,2,none⟩ (nI (y:Nat))).setCell ⟨G,3,none⟩ (nI (c:Nat))) w.heap.size 0 [] [] sN sN [] 0:=(V.other om).other om;obtain ⟨S,Q⟩:∃g,w.heap.size=g:=⟨_,rfl⟩;rw[Q] at A H;obtain ⟨R,K⟩:∃R,(W0.setCell ⟨G,2,none⟩ (nI (y:Nat))).setCell ⟨G,3,none⟩ (nI (c:Nat))=R:=⟨_,rfl⟩;have F:=Qi (Qi D 2 (nI (y:Nat))) 3 (nI (c:Nat));rw[K] at A U F;go_enter func101,ntmps101
 go_wp2_with (first|(refine Zf rfl 25 (.tmp 6) (.tmp 15) rfl S #[nI 0,eS,eS,sN,sN,eS,nI 0] rfl rfl _ _ A ZJ rfl UF ?_))
 ((try simp only[Exit.inBlock,Exit.then]);refine ZD (Xe rfl _ _ _ _ _ _ _ rfl (ZF _ _ _ _ _ _ A) underlying25 rfl ZJ) rfl ?_);exact ⟨rfl,(Yf _ S G _ H).trans U,Ur F om _⟩
end
section
structure Keep (w w':Wq) (g:Nat) (r:Option Nat):Prop where
 os:w'.os=w.os
 tape:w'.tape=w.tape
 output:w'.output=w.output
 size:w.heap.size<=w'.heap.size
 block:∀k,k<w.heap.size->k≠g->some k≠r->w'.heap[k]? =w.heap[k]?
theorem Keep.refl (w:Wq) (g:Nat) (r:Option Nat):Keep w w g r:=⟨rfl,rfl,rfl,Zc _,λ_ _ _ _=>rfl⟩
theorem Keep.trans {a b c:Wq} {g:Nat} {r r':Option Nat} (h:Keep a b g r) (A:Keep b c g r') (J:∀k,r'=some k->r=some k\/a.heap.size<=k):Keep a c g r:=
 ⟨A.os.trans h.os,A.tape.trans h.tape,A.output.trans h.output,Zp h.size A.size,λk I H D=>(A.block k (YZ I h.size) H (λe=>by
  rcases J k e.symm with F|F
  ·exact D F.symm
  ·omega)).trans (h.block k I H D)⟩
theorem Keep.of_grown {a b:Wq} {r:Option Nat} (g:Nat) (h:a.grownBy b r):Keep a b g r:=⟨h.os,h.tape,h.output,h.size,λk D _ A=>h.block k D A⟩
theorem Keep.of_ext {a b:Wq} (g:Nat) (r:Option Nat) (h:Ext a b):Keep a b g r:=Keep.of_grown g (h.grown r)
theorem Keep.ext {a b c:Wq} {g:Nat} {r:Option Nat} (h:Keep a b g r) (A:Ext b c):Keep a c g r:=h.trans (Keep.of_ext g r A) λk e=>Or.inl e
theorem Keep.ext_left {a b c:Wq} {g:Nat} {r:Option Nat} (h:Ext a b) (A:Keep b c g r):Keep a c g r:=(Keep.of_ext g r h).trans A λk e=>Or.inl e
theorem Keep.cell_ {a b:Wq} {g:Nat} {r:Option Nat} (h:Keep a b g r) (i:Nat) (v:Value):Keep a (b.setCell ⟨g,i,none⟩ v) g r:=
 ⟨h.os,h.tape,h.output,by have:=h.size;simpa [World.setCell] using this,λk F D A=>(Z4 b ⟨g,i,none⟩ k v D).trans (h.block k F D A)⟩
theorem Keep.split {w w':Wq} {g:Nat} {r:Option Nat} (h:Keep w w' g r):∃w1,w.grownBy w1 (some g)/\w1.grownBy w' r:=by
 cases r with
 |none=>exact ⟨w',⟨h.os,h.tape,h.output,h.size,λk D A=>h.block k D (λe=>A (by rw[e])) (by simp)⟩,(Ext.refl w').grown none⟩
 |some r=>
  by_cases H:r<w.heap.size
  ·have F:r<w'.heap.size:=YZ H h.size;refine ⟨{w' with heap:=w'.heap.set r w.heap[r]},⟨h.os,h.tape,h.output,by simpa using h.size,λk D A=> ?_⟩,⟨rfl,rfl,rfl,by simp,λk D A=> ?_⟩⟩
   ·show (w'.heap.set r w.heap[r])[k]? =_;by_cases e:k=r
    ·subst e;simp[D]
    ·rw[Array.getElem?_set_ne F (by intro h;exact e h.symm)];exact h.block k D (λe=>A (by rw[e])) (λe2=>e (by injection e2))
   ·show w'.heap[k]? =(w'.heap.set r w.heap[r])[k]?;rw[Array.getElem?_set_ne F (by intro e;exact A (by rw[e]))]
  ·exact ⟨w',⟨h.os,h.tape,h.output,h.size,λk D A=>h.block k D (λe=>A (by rw[e])) (λe=>by injection e with e;omega)⟩,(Ext.refl w').grown _⟩
section
variable {w w':World} {g:Nat} {r:Option Nat}
theorem Keep.heap (h:Keep w w' g r) {k:Nat} {o:Obj} (A:w.heap[k]? =some o) (D:k≠g) (F:some k≠r):w'.heap[k]? =some o:=
 (h.block k (ZP.1 A).1 D F).trans A
theorem Keep.cell (h:Keep w w' g r) {a:Addr} {v:Value} (A:w.cell? a=some v) (D:a.block≠g) (F:some a.block≠r):w'.cell? a=some v:=
 (Z8 (h.block a.block (ZW w a A) D F)).trans A
theorem RSl.keep {size n:Nat} {v:Value} {xs:List Value} (F:RSl w size v n xs) (h:Keep w w' g r) (A:xs= []\/v.ownBlock≠some g) (D:xs= []\/v.ownBlock≠r):RSl w' size v n xs:=by
 obtain ⟨w1,H,I⟩:=h.split;exact RSl.grown (RSl.grown F H A) I D
theorem RdN.keep {x:Nc} (F:RdN w x) (h:Keep w w' g r) (A:awayN (some g) x) (D:awayN r x):RdN w' x:=by
 obtain ⟨w1,H,I⟩:=h.split;exact RdN.grown I x (RdN.grown H x F A) D
end
end
section
variable {P:Program} {W w:World} {a:Act} {cb n:Nat} {α:Type}
def Stays (B:Nat) (W W':Wq):Prop:=∀(k:Nat) (o:Obj),B<=k->W.heap[k]? =some o->o.isCells=false->W'.heap[k]? =some o
def CellSeq {α:Type} (F:Fence) (n:Nat) (P:Program) (gf:Nat) (lb:Array Value) (encs:α->Array Value) (cb:Nat) (Kp:Wq->Wq->Prop) (xs:List α) (w:Wq):Prop:=
 ∀(l:Nat) (J:List α->Wq->Prop) (W:Wq),Ext w W->(∀s A C,J s A->Ext A C->J s C)->(∀s A v,J s A->J s (A.setCell ⟨cb,0,none⟩ v))->
  (∀pre x W1,(pre++ [x])<+:xs->J pre W1->YieldAt F (n - 1) P l (encs x) W1 λe W'=>e= .returned (.bool true)/\J (pre++ [x]) W'/\Kp W1 W')->
  J [] W->CallsIn F n P gf (#[.func (.yield l) #[] #[]]++lb) W λe W'=>(∃v,e= .returned v)/\J xs W'
def roundEnd {α:Type} (B:Nat) (Kp:Wq->Wq->Prop) (I:List α->Wq->Prop) (s:List α) (W:Wq):Exit->Act->Wq->Prop
 | .normal,_,W'=>Stays B W W'/\Kp W W'/\I s W'
 |_,_,_=>False
theorem IV {l:Nat} {o o':Obj} (h:W.heap[l]? =some o):(W.putObj l o').heap[l]? =some o':=World.putObj_heap_same (ZP.1 h).1
theorem Zjn {F:Fence} {g:Operand} {ps:Array Tmp} {assign body:Code} {Q:Exit->Act->Wq->Prop}
 (hG:F.round=none) (h1:1<=n) {gf:Nat} {lb:Array Value} (hg:a.eval g= .func (.func gf) #[] lb) (hn:F.fn gf) (eg:∀args w,(callFunc gf args).run P w= .ok (.enter gf args) w)
 {encs:α->Array Value} {Kp:Wq->Wq->Prop} {xs:List α} (hj:CellSeq F (n - 1) P gf lb encs cb Kp xs w) (hH:cb<w.heap.size)
 (he:∀{A B C:Wq},Kp A B->Kp B C->Kp A C) (hc:∀(W:Wq) (l:Nat) (o o':Obj),w.heap.size<=l->W.heap[l]? =some o->o.isCells=false->Kp W (W.putObj l o')) (hF:∀x,(encs x).size=ps.size)
 (I:List α->Wq->Prop) (hb:∀s A C,I s A->Ext A C->I s C) (ho:∀s A v,I s A->I s (A.setCell ⟨cb,0,none⟩ v)) (Y:∀s A l o o',I s A->w.heap.size<=l->A.heap[l]? =some o->o.isCells=false->I s (A.putObj l o'))
 (h0:I [] w) (a₁:α->Act)
 (R:∀(l:Nat) (x:α) (W:Wq) (K:Act->Wq->Prop),K (a₁ x) W->
  assign.wpIn (F.inRound l) (n - 1 - 1) P (Exit.then K (λ_ _ _=>False)) {tmps:=(ps.zip (encs x)).foldl (λt (p,v)=>t.setIfInBounds p v) a.tmps,defers:= []} W)
 (Z:∀(l:Nat) (pre:List α) (x:α) (W:Wq),(pre++ [x])<+:xs->I pre W->body.wpIn (F.inRound l) (n - 1 - 1) P (roundEnd w.heap.size Kp I (pre++ [x]) W) (a₁ x) W)
 (ha:∀(D:Nat) (W:Wq),w.heap.size<=D->I xs W->W.heap[D]? =some (.deferred (some []))->Q .normal {a with defers:={target:= .collected D,args:=#[]}::a.defers} W):
 (Code.rangeFunc g ps assign body).wpIn F n P Q a w:=by
 refine wpIn_rangeFunc λfn hw=> ?_;rw[hG]
 let D:=w.heap.size
 obtain ⟨rc,H⟩:∃rc:LoopState->Loop,rc=λst=>{state:=st,pending:=none,fn,tmps:=a.tmps,params:=ps,assign,body,defers:=w.heap.size}:=⟨_,rfl⟩;have hk:∀s,(rc s).state=s:=λs=>by rw[H]
 obtain ⟨V,hV⟩:∃V,(w.alloc (.deferred (some []))).alloc (.loop (rc .ready))=V:=⟨_,rfl⟩;have hm:Ext w V:=by rw[<-hV];exact ((Ext.refl w).alloc _).alloc _
 have ht:V.heap[w.heap.size+1]? =some (.loop (rc .ready)):=by rw[<-hV];exact YS w _ _
 have hr:V.heap[w.heap.size]? =some (.deferred (some [])):=by rw[<-hV];exact (Uc _ _ (by rw[Zu];omega)).trans (Zg w _)
 refine ⟨w.heap.size+1,[{target:= .collected w.heap.size,args:=#[]}],V,{target:= .fn (.func gf) lb,args:=#[.func (.yield (w.heap.size+1)) #[] #[]]},V,gf,
  #[.func (.yield (w.heap.size+1)) #[] #[]]++lb,V,?_,?_,?_,?_,λ_=>h1,?_⟩
 ·rw[<-hV,H];exact run_enterLoop_outer _ _ _ _ _
 ·simp only[resolve,hg];simp[go_sem]
 ·intro f' hf;simp[Target.leads] at hf;subst hf;exact hn
 ·simp[invoke,go_sem,eg]
 refine (hj (w.heap.size+1) (λs W=>I s W/\W.heap[w.heap.size+1]? =some (.loop (rc .ready))/\W.heap[w.heap.size]? =some (.deferred (some []))) V hm
  (λs A C hs hx=>⟨hb s A C hs.1 hx,hx.heap hs.2.1,hx.heap hs.2.2⟩)
  (λs A v hs=>⟨ho s A v hs.1,(Z4 A ⟨cb,0,none⟩ _ v (by show w.heap.size+1≠cb;omega)).trans hs.2.1,(Z4 A ⟨cb,0,none⟩ _ v (by show w.heap.size≠cb;omega)).trans hs.2.2⟩)
  ?_ ⟨hb _ _ _ h0 hm,ht,hr⟩).mono ?_
 ·rintro pre x W hp ⟨hi,X,hd⟩;have hy:=run_yield (P:=P) (args:=encs x) X (by rw[H];exact hF x);rw[H] at hy;refine ⟨fn,_,assign,body,hy,roundIn_of_wpIn hw (R _ x W _ ⟨_,run_beginRound X (hk _),?_⟩)⟩;obtain ⟨U,J⟩:∃U,W.putObj (w.heap.size+1) (.loop {rc .ready with state:= .busy})=U:=⟨_,rfl⟩;have hD:U.heap[w.heap.size+1]? =some (.loop {rc .ready with state:= .busy}):=by rw[<-J];exact IV X
  have hu:U.heap[w.heap.size]? =some (.deferred (some [])):=by rw[<-J];exact (X8 om).trans hd
  have hB:Kp W U:=by rw[<-J];exact hc _ _ _ _ (Yu _) X rfl
  have hz:I pre U:=by rw[<-J];exact Y _ _ _ _ _ hi (Yu _) X rfl
  rw[J];refine wpIn_mono (Z _ pre x U hp hz) ?_;rintro e a3 W3 hq;cases e with
  |normal=>
   obtain ⟨hh,hC,hA⟩:=hq;have S:=hh _ _ (Yu _) hD rfl;have hv:=hh _ _ (Zc _) hu rfl;have h:=run_endRound (P:=P) none S;refine ⟨_,_,h,rfl,⟨Y _ _ _ _ _ hA (Yu _) S rfl,?_,?_⟩,he (he hB hC) (hc _ _ _ _ (Yu _) S rfl)⟩
   ·refine (IV S).trans ?_;rw[H];rfl
   ·exact (X8 om).trans hv
  |ret=>exact hq.elim
  |exit id=>exact hq.elim
  |goto t=>exact hq.elim
  |panic ch=>exact hq.elim
  |outgrown=>exact hq.elim
 ·rintro e U ⟨⟨v,rfl⟩,hi,X,hd⟩;have h:=run_endLoop (P:=P) X (by rw[hk];decide);have hE:(rc .ready).pending=none:=by rw[H]
  rw[hE] at h;exact ⟨none,_,h,ha _ _ (Zc _) (Y _ _ _ _ _ hi (Yu _) X rfl) ((X8 om).trans hd)⟩
end
theorem Z0 (w:Wq) (zs cs:Array Value) (t:TypeId):(w.alloc (.cells zs t)).setRow w.heap.size cs=w.alloc (.cells cs t):=by
 have e:(w.heap.push (.cells zs t)).modify w.heap.size (fun| .cells _ D A=> .cells cs D A|o=>o)=w.heap.push (.cells cs t):=by
  apply Array.ext_getElem?;intro i;rw[Xv,Array.getElem?_push,Array.getElem?_push];split
  ·rename_i h;rw[Zi h.symm,Zi h.symm];rfl
  ·rename_i h;rw[Ze (λe=>h e.symm),Ze (λe=>h e.symm)]
 show ({(w.alloc (.cells zs t)) with heap:=_}:Wq)=_;exact Zz (λH=>({w with heap:=H}:Wq)) e
theorem Zf1 (x:Nc) (sp nm:List UInt8) (w:Wq) (h:RAts w x.al x.attrs) (S:isSl x.ks) (hn:x.attrs.length<=16777216):
 Calls prog 31 #[.agg (cellsN x).toArray,.string (str sp),.string (str nm)] w λe w'=>e= .returned (lookAns (attrN x.attrs sp nm))/\Ext w w':=by
 obtain ⟨k,s,n,al,l,ks,kids,t,a⟩:=x;simp only[Nc.al,Nc.attrs,Nc.ks] at h S hn;obtain ⟨A,c,rfl, -, -⟩:=h.form;obtain ⟨B,m,d,rfl⟩:=S;simp only[cellsN,Nc.attrs];obtain ⟨R,X⟩:∃R,attrN l sp nm=R:=⟨_,rfl⟩;rw[X];have HR:Hid (attrN (l.drop 0) sp nm=R):=X;clear X;have Q:=(Ext.refl w).alloc (.cells #[nI (k:Nat),.string (str s),.string (str n),.slice A l.length c,.slice B m d,.string (str t),nI (a:Nat)] 25);go_enter func31,ntmps31;go_wp2;go_loopw [13] (λv wr=>∃j:Nat,j<=l.length/\v=nI j/\Hid (attrN (l.drop j) sp nm=R)/\Ext (w.alloc (.cells #[nI (k:Nat),.string (str s),.string (str n),.slice A l.length c,.slice B m d,.string (str t),nI (a:Nat)] 25)) wr) (λv _=>l.length - (intOf v).toNat)
 case atStart=>exact ⟨0,Zj _,rfl,HR,Ext.refl _⟩
 case round=>
  obtain ⟨j,hj,rfl,U,V⟩:=hrel;by_cases F:j<l.length
  ·obtain ⟨ad,c',hv,I⟩:=(RAts.ext h (Q.trans V)).at F;injection hv with hv1 hv2 hv3;subst hv1;clear hv2 hv3;have ha:(0:Int)<=(j:Int):=om;have hb:(j:Int)<(l.length:Int):=om;have D:=U.out;cases hq:(l[j].space==sp && l[j].name==nm) with
   |true=>
    rw[Zkb F hq] at D;obtain ⟨x,H⟩:∃x,l[j]=x:=⟨_,rfl⟩;rw[H] at I hq D;obtain ⟨a0,a1,a2,a3⟩:=I;rw[ZG] at hq;have q1:((str x.space).toList==(str sp).toList)=true:=(by rw[Jr];exact hq.1);have q2:((str x.name).toList==(str nm).toList)=true:=(by rw[Jr];exact hq.2);subst D;clear U hq H;have J:=(Ext.refl (wr.alloc (.cells #[.string (str x.space),.string (str x.name),.string (str x.value),nI (x.at_:Nat)] 88)));have c0:=J.boxed 0 _ rfl;have c1:=J.boxed 1 _ rfl;have c2:=J.boxed 2 _ rfl;clear J
    go_wp2_with (first|(refine Zf rfl 88 (.tmp 9) (.tmp 16) rfl wr.heap.size #[.string (str x.space),.string (str x.name),.string (str x.value),nI (x.at_:Nat)] rfl rfl _ _ (Zg _ _) Xz rfl (Vq x) ?_;rw[Z0]))
    go_ret2
    exact ⟨rfl,(Q.trans V).alloc _⟩
   |false=>
    rw[Zil F hq] at D;obtain ⟨x,H⟩:∃x,l[j]=x:=⟨_,rfl⟩;rw[H] at I hq;obtain ⟨a0,a1,a2,a3⟩:=I;have Z:=gd D;clear U D H;have J:=(Ext.refl (wr.alloc (.cells #[.string (str x.space),.string (str x.name),.string (str x.value),nI (x.at_:Nat)] 88)));have c0:=J.boxed 0 _ rfl;have c1:=J.boxed 1 _ rfl;have c2:=J.boxed 2 _ rfl;clear J;cases q1:((str x.space).toList==(str sp).toList) with
    |false=>
     clear hq
     go_wp2_with (first|(refine Zf rfl 88 (.tmp 9) (.tmp 16) rfl wr.heap.size #[.string (str x.space),.string (str x.name),.string (str x.value),nI (x.at_:Nat)] rfl rfl _ _ (Zg _ _) Xz rfl (Vq x) ?_;rw[Z0]))
     go_roundw
     case rel=>exact ⟨j+1,F,by go_num,Z,V.alloc _⟩
     case measure=>simp[intOf];omega
    |true=>
     have q2:((str x.name).toList==(str nm).toList)=false:=(by rw[Jr] at q1|-;rw[q1,XL] at hq;exact hq);clear hq
     go_wp2_with (first|(refine Zf rfl 88 (.tmp 9) (.tmp 16) rfl wr.heap.size #[.string (str x.space),.string (str x.name),.string (str x.value),nI (x.at_:Nat)] rfl rfl _ _ (Zg _ _) Xz rfl (Vq x) ?_;rw[Z0]))
     go_roundw
     case rel=>exact ⟨j+1,F,by go_num,Z,V.alloc _⟩
     case measure=>simp[intOf];omega
  ·have Y:j=l.length:=om;have K:=U.out;rw[Zka om] at K;subst K;clear U;subst Y;go_wp2
   go_ret2
   exact ⟨rfl,Q.trans V⟩
theorem Iy (x:Nc) (sp nm:List UInt8) (w:Wq) (h:RdN w x) (hn:x.kids.length<=16777216):
 Calls prog 29 #[.agg (cellsN x).toArray,.string (str sp),.string (str nm)] w λe w'=>∃v,e= .returned v/\w'.ownsRow w.heap.size 25 7 v (x.kids.filter (isKid sp nm)).length (flatN (x.kids.filter (isKid sp nm)))/\Ext w w':=by
 obtain ⟨i0,hw,hz,hA,hB⟩:=YH Vh;obtain ⟨k,s,n,al,l,ks,kids,t,a⟩:=x;rw[RdN] at h;obtain ⟨ha,hb,hm⟩:=h;simp only[Nc.kids] at hn;obtain ⟨A,c,rfl, -, -⟩:=ha.form;obtain ⟨B,d,rfl, -, -⟩:=RNs.form hb;simp only[cellsN,Nc.kids];have ho:RNs w (.slice B kids.length d) kids:=hb;have hg:=gd ((XC kids).1 hm);clear hb hm;have hq:=(Ext.refl w).alloc (.cells #[nI (k:Nat),.string (str s),.string (str n),.slice A l.length c,.slice B kids.length d,.string (str t),nI (a:Nat)] 25);go_enter func29,ntmps29;go_wp2;go_loopw [7,13] (λu v wr=>∃j:Nat,j<=kids.length/\v=nI j/\wr.ownsRow (w.heap.size+1) 25 7 u ((kids.take j).filter (isKid sp nm)).length (flatN ((kids.take j).filter (isKid sp nm)))/\Ext (w.alloc (.cells #[nI (k:Nat),.string (str s),.string (str n),.slice A l.length c,.slice B kids.length d,.string (str t),nI (a:Nat)] 25)) wr) (λ_ v _=>kids.length - (intOf v).toNat)
 case atStart=>exact ⟨0,Zj _,rfl,YF _ _ _ _,Ext.refl _⟩
 case round=>
  obtain ⟨j,hj,rfl,D,hx⟩:=hrel;by_cases I:j<kids.length
  ·obtain ⟨ad,c',hv,hi⟩:=(RNs.ext ho (hq.trans hx)).at I;injection hv with hv1 hv2 hv3;subst hv1;clear hv2 hv3;have hD:(0:Int)<=(j:Int):=om;have hE:(j:Int)<(kids.length:Int):=om;have S:=ZhX (f:=isKid sp nm) I;have X:=Xp (RdN.sl (hg.out kids[j] (ZL I)));have hp:=RdN.sl (hg.out kids[j] (ZL I));obtain ⟨F,hF⟩:∃F,(kids.take j).filter (isKid sp nm)=F:=⟨_,rfl⟩;have hh:F.length<=16777216:=(by have:=(List.filter_sublist (p:=isKid sp nm) (l:=kids.take j)).length_le;rw[ZM] at this;rw[<-hF];omega);rw[hF] at S D;obtain ⟨x,hr⟩:∃x,kids[j]=x:=⟨_,rfl⟩;rw[hr] at hi S X hp;obtain ⟨xk,xs,xn,hH,xl,hI,he,xt,xa⟩:=x;obtain ⟨⟨XA,xm,xc,Y⟩,⟨XB,hf,xd,Z⟩⟩:=hp;simp only[Nc.al,Nc.ks] at Y Z;subst Y;subst Z;obtain ⟨a0,a1,a2,a3,a4,a5,a6⟩:=hi;simp only[Nc.kind,Nc.space,Nc.name,Nc.al,Nc.ks,Nc.text,Nc.at_] at a0 a1 a2 a3 a4 a5 a6;have Q:=gd S;obtain ⟨HM,HB⟩:=Vj (Zp hh (by decide));have HM:=gd HM;have HB:=gd HB;obtain ⟨U,uc,rfl⟩:=Ym D;have hws:w.heap.size+1<=wr.heap.size:=(by have:=hx.size;rwa [Zu] at this);obtain ⟨W2,J⟩:∃W2,wr.alloc (.cells #[nI (xk:Nat),.string (str xs),.string (str xn),.slice XA xm xc,.slice XB hf xd,.string (str xt),nI (xa:Nat)] 25)=W2:=⟨_,rfl⟩;have V:Ext wr W2:=(by rw[<-J];exact (Ext.refl wr).alloc _);have hk:BxN W2 wr.heap.size xk xs xn (.slice XA xm xc) (.slice XB hf xd) xt xa:=(by rw[<-J];exact Zg wr _);obtain ⟨c0,c1,c2,c3,c4,c5,c6⟩:=hk.cells;have hs:=hx.trans V;have hd:=Ya D V;have ht:Hid (w.heap.size+1<=W2.heap.size):=gd (Zp hws V.size);have R:=gd hs;have H:=gd hd;clear hk V hs D hx hws;clear S hr hF hh;by_cases hl:xk=0
   ·subst hl;rw[show ((0:Nat):Int)=0 from rfl] at c0 a0 J;cases q1:((str xs).toList==(str sp).toList) with
    |true=>
     cases q2:((str xn).toList==(str nm).toList) with
     |true=>
      go_wp2_with (first|(refine Zf rfl 25 (.tmp 9) (.tmp 16) rfl wr.heap.size _ rfl rfl _ _ (Zg _ _) ZJ rfl YU ?_;rw[Z0];rw[J])|(at_builtin;refine ZO _ rfl (.tmp 32) (.tmp 34) _ rfl (w.heap.size+1) 25 i0 _ 7 112 underlying23 hw hz hA hB rfl (by decide) _ _ _ rfl (H.out.alloc _) _ 1 (cellsN (.mk 0 xs xn (.slice XA xm xc) xl (.slice XB hf xd) he xt xa)) rfl (Yo rfl (by decide)) X HM.out HB.out ?_ ?_;(rw[Zu];have:=ht.out;omega);intro v9 w9 hc hu hC))
      go_roundw
      case rel=>refine ⟨j+1,I,by go_num,?_,Ext.app (R.out.alloc _) hu (H.out.alloc _) (by rw[Zu];exact Zc _)⟩;have K:=Q.out;rw[Zi (by unfold isKid;simp only[Nc.kind,Nc.space,Nc.name];rw[Jr] at q1 q2;rw[q1,q2];rfl)] at K;rw[K,Vf,Vg,Zb];exact hc
      case measure=>simp[intOf];omega
     |false=>
      go_wp2_with (first|(refine Zf rfl 25 (.tmp 9) (.tmp 16) rfl wr.heap.size _ rfl rfl _ _ (Zg _ _) ZJ rfl YU ?_;rw[Z0];rw[J]))
      go_roundw
      case rel=>refine ⟨j+1,I,by go_num,?_,R.out⟩;have K:=Q.out;rw[Ze (by unfold isKid;simp only[Nc.kind,Nc.space,Nc.name];rw[Jr] at q2;rw[q2];simp)] at K;rw[K,ZV];exact H.out
      case measure=>simp[intOf];omega
    |false=>
     go_wp2_with (first|(refine Zf rfl 25 (.tmp 9) (.tmp 16) rfl wr.heap.size _ rfl rfl _ _ (Zg _ _) ZJ rfl YU ?_;rw[Z0];rw[J]))
     go_roundw
     case rel=>refine ⟨j+1,I,by go_num,?_,R.out⟩;have K:=Q.out;rw[Ze (by unfold isKid;simp only[Nc.kind,Nc.space,Nc.name];rw[Jr] at q1;rw[q1];simp)] at K;rw[K,ZV];exact H.out
     case measure=>simp[intOf];omega
   ·have hG:((xk:Int)==0)=false:=by rw[Zv];omega
    go_wp2_with (first|(refine Zf rfl 25 (.tmp 9) (.tmp 16) rfl wr.heap.size _ rfl rfl _ _ (Zg _ _) ZJ rfl YU ?_;rw[Z0];rw[J]))
    go_roundw
    case rel=>refine ⟨j+1,I,by go_num,?_,R.out⟩;have K:=Q.out;rw[Ze (by unfold isKid;simp only[Nc.kind,Nc.space,Nc.name];simp[hl])] at K;rw[K,ZV];exact H.out
    case measure=>simp[intOf];omega
  ·have hy:j=kids.length:=om;subst hy;rw[ZQ (Zc _)] at D;go_wp2;go_ret;exact ⟨_,rfl,X4 D (Yu _),hq.trans hx⟩
section
variable {k:Nat}
def attrFst (al:List AtP):List (List UInt8)->List UInt8
 | []=> []
 |n::t=>match attrN al [] n with
  |some v=>v
  |none=>attrFst al t
theorem Ip (al:List AtP) (nm:List UInt8):attrN al [] nm=attrIn al nm:=rfl
theorem Gi (al:List AtP) (a:List UInt8):attrFst al [a]=(attrIn al a).getD []:=by
 unfold attrFst;rw[Ip];cases attrIn al a<;>rfl
theorem Ze2 (n:Nd):attrFst n.attrs [textL,titleL]=nameL n:=by
 unfold attrFst nameL attrL;rw[Ip];cases attrIn n.attrs textL with
 |some v=>rfl
 |none=>exact Gi _ _
theorem Vy:str ([]:List UInt8)=⟨#[]⟩:=rfl
theorem ZhV:str xmlUrlL=⟨#[120,109,108,85,114,108]⟩:=rfl
theorem Va:str outlineL=⟨#[111,117,116,108,105,110,101]⟩:=rfl
theorem Zl5:str bodyL=⟨#[98,111,100,121]⟩:=rfl
theorem Zmw {al:List AtP} {l:List (List UInt8)} {v:List UInt8} (A:k<l.length) (h:attrN al [] l[k]=some v):attrFst al (l.drop k)=v:=by
 rw[Zl A,attrFst,h]
theorem Zkv {al:List AtP} {l:List (List UInt8)} (A:k<l.length) (h:attrN al [] l[k]=none):attrFst al (l.drop k)=attrFst al (l.drop (k+1)):=by
 rw[Zl A,attrFst,h]
end
section
variable {B N j m n r:Nat} {e:TypeId} {u v:Value} {w w1:World} {xs:List Value}
theorem ZmT:(prog.info? 55).map (λi=>(i.zero,i.size,i.bytes))=some (some (.agg #[sN,eS,eS,eS,nI 0,sN]),6,104):=by kernel_rfl
theorem ZkZ:(prog.info? 9).map (λi=>(i.zero,i.size,i.bytes))=some (some eS,1,16):=by kernel_rfl
theorem ZkI (h:n+m<=16777216):n+m<=maxLen/\(n+m)*104<=140737488355328:=by unfold maxLen;omega
theorem ZeN (h:n+m<=16777216):n+m<=maxLen/\(n+m)*16<=140737488355328:=by unfold maxLen;omega
theorem Zan (l:List ByteArray):∀u∈l.map Value.string,u.oneCell'=true:=by
 intro u h;obtain ⟨s,_,rfl⟩:=ZU.1 h;rfl
theorem ZiO (n:Nd):1<=n.ht:=by cases n;rw[Nd.ht];omega
theorem ZgP (nm:List UInt8) (x:Nc):isKid [] nm x=isEl nm x.nd:=by cases x;rw[Nc.nd];rfl
theorem QJ (nm:List UInt8):∀l:List Nc,Nc.nds (l.filter (isKid [] nm))=(Nc.nds l).filter (isEl nm)
 | []=>by rw[Nc.nds];rfl
 |x::t=>by
  have ih:=QJ nm t
  rw[Nc.nds,List.filter_cons,List.filter_cons,ZgP]
  cases isEl nm x.nd with
  |true=>simp only[Us];rw[Nc.nds,ih]
  |false=>simp only[YR,U4];exact ih
theorem Zhg {l:List Nc} (h:j<l.length):(Nc.nds l).drop j=l[j].nd::(Nc.nds l).drop (j+1):=by
 rw[Je,Zl (by rw[Zq];exact h),Xn]
theorem ZbN (f:Nd->Bool):∀l:List Nd,Nds.cnt (l.filter f)<=Nds.cnt l
 | []=>Zc _
 |x::t=>by
  have ih:=ZbN f t
  rw[List.filter_cons,Nds.cnt]
  split
  ·rw[Nds.cnt];omega
  ·omega
theorem Zf0 (x:Nc) (nm:List UInt8):attrL x.nd nm=attrN x.attrs [] nm:=by cases x;rw[Nc.nd];rfl
theorem Znb (x:Nc):nameL x.nd=attrFst x.attrs [textL,titleL]:=by
 rw[<-Ze2];cases x;rw[Nc.nd];rfl
theorem ZpD (x:Nc):x.nd.at_=x.at_:=by cases x;rw[Nc.nd];rfl
theorem ZiI {x:Nc} (h:x.nd.fd N):x.attrs.length<=N:=by cases x;rw[Nc.nd,Nd.fd] at h;exact h.2.2.2.1
theorem RdN.ats {w:Wq} {x:Nc} (h:RdN w x):RAts w x.al x.attrs:=by cases x;rw[RdN] at h;exact h.1
mutual
theorem Zh4:∀(n:Nd) (path:List ByteArray) (l:List Fd),visP n path= .ok l->l.length<=n.cnt
 | .mk k s nm al ks t a,path,l,h=>by
  rw[visP] at h
  have h1:=ZeS ks path l h
  rw[Nd.cnt]
  omega
theorem ZeS:∀(ks:List Nd) (path:List ByteArray) (l:List Fd),visKs ks path= .ok l->l.length<=Nds.cnt ks
 | [],path,l,h=>by
  rw[visKs] at h
  injection h with h
  subst h
  exact Zj _
 |k::t,path,l,h=>by
  rw[visKs] at h
  split at h
  ·cases h
  ·rename_i l1 h1
   split at h
   ·cases h
   ·rename_i l2 h2
    injection h with h
    subst h
    have q2:=ZeS t path l2 h2
    have q1:l1.length<=k.cnt:=by
     split at h1
     ·split at h1
      ·split at h1
       ·cases h1
       ·injection h1 with h1
        subst h1
        exact Ze6 k
      ·split at h1
       ·cases h1
       ·split at h1
        ·cases h1
        ·exact Zh4 k _ l1 h1
     ·injection h1 with h1
      subst h1
      exact Zj _
    rw[Nds.cnt,Zb]
    omega
end
theorem Ziq {e2:TypeId} {size h J:Nat} {ys:List Value} (H:w1.ownsRow B e size u n xs) (D:w.ownsRow w1.heap.size e2 h v J ys) (A:ys≠ []):v.ownBlock≠u.ownBlock:=by
 obtain ⟨g,F,I⟩:=RSl.old (RSl.of_own D) A;rw[F];intro e;have a:=(D.lt g F).1;have b:=(H.lt g e.symm).2;omega
theorem ZkG {size:Nat} (h:w.ownsRow B e size v n xs) (A:xs≠ []) (D:r<B):v.ownBlock≠some r:=λe=>by
 have:=(h.lt r e).1;omega
end
section
variable {k:Nat}
theorem IY {a b:List ByteArray} (h:k<a.length) (A:k<b.length):pathCmp (a.drop k) (b.drop k)=if sCmp a[k] b[k]=0 then pathCmp (a.drop (k+1)) (b.drop (k+1)) else sCmp a[k] b[k]:=by
 rw[Zl h,Zl A];rfl
theorem RStrs.at {w:Wq} {v:Value} {l:List ByteArray} (h:RStrs w v l) {k:Nat} (F:k<l.length):∃ad c,v= .slice (some ad) l.length c/\w.cell? (ad.add k)=some (.string l[k]):=by
 obtain ⟨_,A,c,e,_,_,_,D⟩:=h;obtain ⟨ad,rfl,hc⟩:=D k (.string l[k]) (by rw[Yp,Zh F];rfl);exact ⟨ad,c,e,hc⟩
theorem ZlY (a:ByteArray):sCmp a a=0:=UI.self a
theorem GE (u v:Value) (a b:List ByteArray) (w:Wq) (ha:RStrs w u a) (hb:RStrs w v b) (hn:a.length<=16777216):
 Calls prog 75 #[u,v] w λe w'=>e= .returned (nI (pathCmp a b))/\Ext w w':=by
 obtain ⟨A,c,rfl,he,hh⟩:=ha.form;obtain ⟨B,d,rfl,hg,hi⟩:=hb.form;have HA:Hid (a.length<=maxLen):=gd om;have HB:Hid (b.length<=maxLen):=gd om;clear he hh hg hi;go_enter func75,ntmps75;go_wp2;go_loopw [5] (λi wr=>∃k:Nat,k<=a.length/\k<=b.length/\i=nI k/\Hid (pathCmp a b=pathCmp (a.drop k) (b.drop k))/\Ext w wr) (λi _=>a.length - (intOf i).toNat)
 case atStart=>exact ⟨0,Zj _,Zj _,rfl,gd rfl,Ext.refl _⟩
 case round=>
  obtain ⟨k,hm,ho,rfl,D,X⟩:=hrel;by_cases U:k<a.length
  ·by_cases H:k<b.length
   ·have V:=IY U H;obtain ⟨ad,c1,e1,K⟩:=(ha.ext X).at U;injection e1 with e1 e2 e3;subst e1;obtain ⟨bd,I,e4,Q⟩:=(hb.ext X).at H;injection e4 with e4 e5 e6;subst e4;clear e2 e3 e5 e6;obtain ⟨x,Z⟩:∃x,a[k]=x:=⟨_,rfl⟩;obtain ⟨y,hc⟩:∃y,b[k]=y:=⟨_,rfl⟩;rw[Z,hc] at V;rw[Z] at K;rw[hc] at Q;have hd:=gd V;have HC:=gd (λw'=>Vt x y w');clear V Z hc;have hl:(0:Int)<=(k:Int):=om;have hj:(k:Int)<(a.length:Int):=om;have R:(k:Int)<(b.length:Int):=om;have f0:∀d:Aft wr,d.w.cell? (ad.add k)=some (.string x):=Aft.cell K;have f1:∀d:Aft wr,d.w.cell? (bd.add k)=some (.string y):=Aft.cell Q;cases hxy:(x.toList==y.toList) with
    |true=>
     have F:x=y:=toList_inj (by simpa using hxy);have J:=gd F;clear F;go_wp2;refine rA ?_
     repeat (first|go_big_quiet_step (fail)|quiet_step (fail))
     refine Z9 ?_;rintro _ ⟨I,rfl⟩;have Y:=X.trans I.ext;clear f0 f1;go_wp2;go_roundw
     case rel=>refine ⟨k+1,om,om,by go_num,gd ?_,Y⟩;rw[D.out,hd.out,J.out,Zi (ZlY _)]
     case measure=>simp[intOf];omega
    |false=>
     have F:¬sCmp x y=0:=(by intro e;have:=Kf e;rw[this] at hxy;simp at hxy);have J:=gd F;clear F;go_wp2;refine rA ?_
     repeat (first|go_big_quiet_step (fail)|quiet_step (fail))
     refine Z9 ?_;rintro _ ⟨I,rfl⟩;have Y:=X.trans I.ext;have g0:∀d:Aft I.w,d.w.cell? (ad.add k)=some (.string x):=λd=>(I.ext.trans d.ext).cell K;have g1:∀d:Aft I.w,d.w.cell? (bd.add k)=some (.string y):=λd=>(I.ext.trans d.ext).cell Q;clear f0 f1;go_wp2;refine rA ?_
     repeat (first|go_big_quiet_step ((go_at_call 80;with_reducible exact Uv (HC.out _)))|quiet_step ((go_at_call 80;with_reducible exact Uv (HC.out _))))
     refine Z9 ?_;rintro _ ⟨d2,rfl⟩;have hk:=Y.trans d2.ext;clear g0 g1;go_wp2;go_ret;have h:pathCmp a b=sCmp x y:=(by rw[D.out,hd.out,Ze J.out]);exact ⟨by rw[h];rfl,hk⟩
   ·have S:k=b.length:=om;subst S;have h:pathCmp a b=1:=(by rw[D.out,ZC (Zc _),Zl U];rfl);have HF:=gd h;clear h D;have R:¬(b.length:Int)<(b.length:Int):=om;have hj:(b.length:Int)<(a.length:Int):=om;have hf:¬(a.length:Int)<(b.length:Int):=om;go_wp2;go_ret;exact ⟨by rw[HF.out];rfl,X⟩
  ·have S:k=a.length:=om;subst S;by_cases H:a.length<b.length
   ·have h:pathCmp a b= -1:=(by rw[D.out,ZC (Zc a.length),Zl H];rfl);have HF:=gd h;clear h D;have R:(a.length:Int)<(b.length:Int):=om;go_wp2;go_ret;exact ⟨by rw[HF.out];rfl,X⟩
   ·have hp:b.length=a.length:=om;have h:pathCmp a b=0:=(by rw[D.out,ZC (Zc a.length),ZC om];rfl);have HF:=gd h;clear h D;have R:¬(a.length:Int)<(b.length:Int):=om;have hf:¬(b.length:Int)<(a.length:Int):=om;go_wp2;go_ret;exact ⟨by rw[HF.out];rfl,X⟩
end
section
structure KpF (zs cb db:Nat) (W W':Wq):Prop where
 os:W'.os=W.os
 tape:W'.tape=W.tape
 output:W'.output=W.output
 size:W.heap.size<=W'.heap.size
 block:∀k,k<zs\/k=cb\/k=db->W'.heap[k]? =W.heap[k]?
theorem KpF.trans {zs cb db:Nat} {A B C:Wq} (h:KpF zs cb db A B) (D:KpF zs cb db B C):KpF zs cb db A C:=
 ⟨D.os.trans h.os,D.tape.trans h.tape,D.output.trans h.output,Zp h.size D.size,λk F=>(D.block k F).trans (h.block k F)⟩
theorem KpF.put {zs cb db B:Nat} {W:Wq} {l:Nat} {o':Obj} (H:B<=l) (h:zs<=B) (A:cb<B) (D:db<B):KpF zs cb db W (W.putObj l o'):=
 ⟨rfl,rfl,rfl,by rw[World.putObj_size];exact Zc _,λk F=>X8 om⟩
theorem KpF.ext {z W W':Wq} {cb db:Nat} (h:KpF z.heap.size cb db W W') (D:Ext z W):Ext z W':=
 D.then ⟨h.os,h.tape,h.output,h.size,λk A=>h.block k (Or.inl A)⟩
def leftF (cb:Nat) (w:Wq):Nat:=match w.cell? ⟨cb,0,none⟩ with|some (.slice _ n _)=>n|_=>0
def encG (g:Grp):Array Value:=#[.string g.name,g.v]
theorem Zo3 (a b:ByteArray):decide (a=b)=(a.toList==b.toList):=by
 by_cases h:a=b
 ·rw[h,YG rfl];simp
 ·rw[Yd h]
  symm
  rw[Zv,Yb,Yb];intro e;refine h (ByteArray.ext ?_);exact Array.ext' e
theorem ZnT {α β:Type} (g:α->β) (p:α->Bool) (q:β->Bool) (h:∀a,p a=q (g a)):∀l:List α,(l.takeWhile p).length=((l.map g).takeWhile q).length
 | []=>rfl
 |a::t=>by
  rw[Zw,Yi,Yi,h a]
  split
  ·rw[Zd,Zd,ZnT g p q h t]
  ·rfl
section
variable {α:Type} {l:List α} {p:α→Bool} {k:Nat}
theorem Zj7 (h:k<l.length) (A:p l[k]=true):k+((l.drop k).takeWhile p).length=k+1+((l.drop (k+1)).takeWhile p).length:=by
 rw[Zl h,Yi,Zi A,Zd];omega
theorem Zj8 (h:k<l.length) (A:p l[k]=false):k+((l.drop k).takeWhile p).length=k:=by
 rw[Zl h,Yi,A];rfl
theorem Zn5 (h:l.length<=k):k+((l.drop k).takeWhile p).length=k:=by
 rw[ZC h];rfl
end
theorem ZlX (d:Nat) (x:Fc) (t:List Fc):runN d ((x::t).map Fc.f)=1+(((((x::t).map λy=>pathAt y.f d)).drop 1).takeWhile λq=>q.toList==(pathAt x.f d).toList).length:=by
 show (((x::t).map Fc.f).takeWhile λy=>decide (pathAt y d=pathAt x.f d)).length=_;rw[ZnT (λy=>pathAt y d) _ (λq=>q.toList==(pathAt x.f d).toList) (λa=>Zo3 _ _),JR];show (((pathAt x.f d)::t.map (λy=>pathAt y.f d)).takeWhile _).length=_;rw[Yi,Zi (by simp),Zd,Nat.add_comm];rfl
theorem ZgB (d:Nat) (z w:Wq) (cb db:Nat) (v:Value) (l:List Fc) (hz:Ext z w) (gJ:z.heap.size<=cb) (g3:z.heap.size<=db) (gH:cb≠db) (hv:RFcs z v l) (V:∀x∈l,RdC z x/\d<x.f.path.length) (hl:l.length<=16777216) (gL:d<=1000)
 (Q:w.heap[cb]? =some (.cells #[v] 29 (0,0))) (U:w.heap[db]? =some (.cells #[nI (d:Nat)] 3 (0,0))) (n:Nat):
 CellSeq Fence.wide n prog 133 #[.pointer (some ⟨cb,0,none⟩),.pointer (some ⟨db,0,none⟩)] encG cb (KpF z.heap.size cb db) (grps d (l.length+1) v l) w:=by
 intro ln J W hn hW hV hY h0;refine callsIn_wide.2 ?_;have gz:=gd (hz.trans hn);have HY:=gd hY;have hK:=gd hW;have gq:=gd hV;have H0:=gd h0;have gj:=gd (hn.heap Q);have gl:=gd (hn.heap U);have HV:=gd hv;have gu:=gd V;have HL:=gd hl;obtain ⟨X,hX⟩:∃X,grps d (l.length+1) v l=X:=⟨_,rfl⟩;rw[hX] at HY|-;have HX:=gd hX;clear hn hY hW hV h0 Q U hv V hl hX hz;have h3:(#[.func (.yield ln) #[] #[]]++#[.pointer (some ⟨cb,0,none⟩),.pointer (some ⟨db,0,none⟩)]:Array Value)=#[.func (.yield ln) #[] #[],.pointer (some ⟨cb,0,none⟩),.pointer (some ⟨db,0,none⟩)]:=rfl;rw[h3];clear h3;go_enter func133,ntmps133;go_wp2;go_loopw [4,5] (λ_ _ wr=>∃(s:List Grp) (f:Nat) (v':Value) (r:List Fc),J s wr/\wr.heap[cb]? =some (.cells #[v'] 29 (0,0))/\wr.heap[db]? =some (.cells #[nI (d:Nat)] 3 (0,0))/\Ext z wr/\RFcs z v' r/\(∀x∈r,RdC z x/\d<x.f.path.length)/\r.length<f/\r.length<=16777216/\Hid (s++grps d f v' r=X)) (λ_ _ wr=>leftF cb wr)
 case atStart=>exact ⟨[],l.length+1,v,l,H0.out,gj.out,gl.out,gz.out,HV.out,gu.out,Yy _,HL.out,HX.out⟩
 case round=>
  obtain ⟨s,f,v',r,hJ,Q,U,ho,hv,V,gc,ge,hX⟩:=hrel;have c0:wr.cell? ⟨cb,0,none⟩=some v':=by rw[Zy Q];rfl
  have c1:wr.cell? ⟨db,0,none⟩=some (nI (d:Nat)):=by rw[Zy U];rfl
  cases r with
  |nil=>have gf:=hv;obtain ⟨-,A,c,rfl, -⟩:=hv;go_wp2;go_end0;have I:=hX.out;obtain ⟨f,rfl⟩:∃f',f=f'+1:=⟨f - 1,om⟩;rw[grps,ZV] at I;rw[<-I];exact ⟨⟨_,rfl⟩,hJ⟩
  |cons x t=>
   obtain ⟨f,rfl⟩:∃f',f=f'+1:=⟨f - 1,om⟩;obtain ⟨ad,c,rfl,K⟩:=RFcs.at (RSl.ext hv ho) (k:=0) (by rw[Zd];omega);rw[Xj,add_zero,JQ] at K;obtain ⟨gh,F⟩:=V x Zx;obtain ⟨pa,pc,h7,hk⟩:=RStrs.at (gh.1.ext ho) F;obtain ⟨m,hm⟩:∃m,(x::t).length=m:=⟨_,rfl⟩;have gG:1<=m:=(by rw[<-hm,Zd];omega);rw[hm] at c0;have a0:=K.c0;rw[h7] at a0;obtain ⟨pl,hj⟩:∃pl,x.f.path.length=pl:=⟨_,rfl⟩;have gC:(d:Int)<(pl:Int):=(by rw[hj] at F;omega);have gU:(0:Int)<=(d:Int):=om;have gY:(0:Int)<(m:Int):=om;have g2:¬m=0:=om;have hq:m<=c:=(by obtain ⟨_,A9,c9,e9,h9, -⟩:=hv;injection e9 with e91 e92 e93;rw[hm] at h9;rw[e93];exact h9);have hL:=gd hq;clear hq;rw[hj] at a0;have h4:x.f.path[d]=pathAt x.f d:=(by unfold pathAt;rw[ZZ,Zh F];rfl);rw[h4] at hk;obtain ⟨nm,hE⟩:∃nm,pathAt x.f d=nm:=⟨_,rfl⟩;rw[hE] at hk;have HV:=gd hv;have hr:=gd V;have Y:=gd hm;have gS:=gd F;have gR:=gd hj;have hM:=gd hE;have gO:=gd K;have HJ:=gd hJ;have hg:=gd ho;have gw:=gd gc;have hN:=gd ge;clear hv V hm F hj hE K h7 hJ ho gc ge gh h4;go_wp2;refine rN ?_;change wpAny _ _ _ _ _ _ _ (World.drew _);have F:=(Ext.refl wr).drew;obtain ⟨Wd,h2⟩:∃Wd,wr.drew=Wd:=⟨_,rfl⟩;rw[h2] at F|-;have b0:=F.cell c0;have b1:=F.cell c1;have b2:=F.cell a0;have b3:=F.cell hk;refine YD (λw'=>w'=Wd) ?_;refine tS 0 (.slice (some ad) m c) rfl (λw' D=>by subst D;go_simp) rfl ?_;refine tS 1 (.pointer (some ad)) rfl (λw' D=>by subst D;go_simp) rfl ?_;refine tS 2 (.pointer (some ad)) rfl (λw' D=>by subst D;go_simp) rfl ?_;refine tS 3 (.slice (some pa) pl pc) rfl (λw' D=>by subst D;go_simp) rfl ?_;refine tS 4 (nI (d:Nat)) rfl (λw' D=>by subst D;go_simp) rfl ?_;refine tS 5 (.pointer (some (pa.add d))) rfl (λw' D=>by subst D;go_simp) rfl ?_;refine tS 6 (.string nm) rfl (λw' D=>by subst D;go_simp) rfl ?_;refine tS 7 (.string nm) rfl (λw' D=>by subst D;go_simp) rfl ?_;go_simp;refine sE ?_;have Z:=gd (ZlX d x t);rw[hM.out] at Z;have he:Hid (((x::t).map λy=>pathAt y.f d).length=m):=gd (by rw[Zq];exact Y.out);obtain ⟨R,hR⟩:∃R,runN d ((x::t).map Fc.f)=R:=⟨_,rfl⟩;rw[hR] at Z;have HR:=gd hR;have gK:=gd (hg.out.trans F);have hO:=gd F;have gP:=gd (hK.out _ _ _ HJ.out F);clear b0 b1 b2 b3 c0 c1 a0 hk gC F h2 hR;obtain ⟨wQ,gI⟩:∃wQ:Wq,wQ=wr:=⟨_,rfl⟩;subst gI;go_wp2;rename_i K5 hZ;have gs:=gd hZ;clear hZ;go_loopw [5] (λv wi=>∃k:Nat,1<=k/\k<=m/\v=nI k/\Hid (R=k+((((x::t).map λy=>pathAt y.f d).drop k).takeWhile λq=>q.toList==nm.toList).length)/\Ext wQ wi) (λv _=>m - (intOf v).toNat)
   case atStart=>exact ⟨1,Zc _,gG,rfl,Z,hO.out⟩
   case round=>
    obtain ⟨k,gX,hD,rfl,hc,S⟩:=hrel;have gt:Hid (k<=c):=gd (Zp hD hL.out);have gZ:m<=16777216:=(by have:=hN.out;rw[Y.out] at this;exact this);have c0:=S.cell ((Zy Q 0).trans rfl);have c1:=S.cell ((Zy U 0).trans rfl);rw[Y.out] at c0;by_cases hd:k<m
    focus
     have hu:k<(x::t).length:=(by rw[Y.out];exact hd)
     obtain ⟨gT,c2,gf,K⟩:=RFcs.at (RSl.ext HV.out (hg.out.trans S)) (k:=k) hu
     injection gf with hv21 hv22 hv23
     injection hv21 with hv21
     subst hv21
     clear hv22 hv23
     obtain ⟨gi,hp⟩:=hr.out _ (ZL hu)
     obtain ⟨qa,qc,gb,ga⟩:=RStrs.at (gi.1.ext (hg.out.trans S)) hp
     have hF:((x::t).map λy=>pathAt y.f d)[k]'(by rw[he.out];exact hd)=(x::t)[k].f.path[d]:=by
      rw[Xn]
      unfold pathAt
      rw[ZZ,Zh hp]
      rfl
     have a0:=K.c0
     rw[gb] at a0
     obtain ⟨ql,h8⟩:∃ql,(x::t)[k].f.path.length=ql:=⟨_,rfl⟩
     rw[h8] at a0 hp
     have gV:(d:Int)<(ql:Int):=om
     obtain ⟨ny,h6⟩:∃ny,(x::t)[k].f.path[d]=ny:=⟨_,rfl⟩
     rw[h6] at ga hF
     obtain ⟨b,hb⟩:∃b,(ny.toList==nm.toList)=b:=⟨_,rfl⟩
     have gW:(0:Int)<=(k:Int):=om
     have h5:(k:Int)<(m:Int):=om
     have hx:=gd S
     have hP:=gd hF
     have hH:=gd hb
     clear K gb gi hp S hF h6 h8
     go_wp2
     refine rN ?_
     change wpAny _ _ _ _ _ _ _ (World.drew _)
     have F:=(Ext.refl wr).drew
     obtain ⟨We,hC⟩:∃We,wr.drew=We:=⟨_,rfl⟩
     rw[hC] at F|-
     have b0:=F.cell c0
     have b1:=F.cell c1
     have b2:=F.cell a0
     have b3:=F.cell ga
     refine YD (λw'=>w'=We) ?_
     refine tS 0 (nI (k:Nat)) rfl (λw' D=>by subst D;go_simp) rfl ?_
     refine tS 1 (.slice (some ad) m c) rfl (λw' D=>by subst D;go_simp) rfl ?_
     refine tS 2 (nI (m:Nat)) rfl (λw' D=>by subst D;go_simp) rfl ?_
     refine tS 3 (.bool true) rfl (λw' D=>by subst D;go_simp) rfl ?_
     go_simp
     refine tS 4 (.bool true) rfl (λw' D=>by subst D;go_simp) rfl ?_
     go_simp
     refine tS 5 (.slice (some ad) m c) rfl (λw' D=>by subst D;go_simp) rfl ?_
     go_simp
     refine tS 6 (nI (k:Nat)) rfl (λw' D=>by subst D;go_simp) rfl ?_
     go_simp
     refine tS 7 (.pointer (some (ad.add (k*6)))) rfl (λw' D=>by subst D;go_simp) rfl ?_
     go_simp
     refine tS 8 (.pointer (some (ad.add (k*6)))) rfl (λw' D=>by subst D;go_simp) rfl ?_
     go_simp
     refine tS 9 (.slice (some qa) ql qc) rfl (λw' D=>by subst D;go_simp) rfl ?_
     go_simp
     refine tS 10 (nI (d:Nat)) rfl (λw' D=>by subst D;go_simp) rfl ?_
     go_simp
     refine tS 11 (.pointer (some (qa.add d))) rfl (λw' D=>by subst D;go_simp) rfl ?_
     go_simp
     refine tS 12 (.string ny) rfl (λw' D=>by subst D;go_simp) rfl ?_
     go_simp
     refine tS 13 (.string nm) rfl (λw' D=>by subst D;go_simp) rfl ?_
     go_simp
     refine tS 14 (.bool b) rfl (λw' D=>by subst D;go_simp) rfl ?_
     go_simp
     refine tS 15 (.bool b) rfl (λw' D=>by subst D;go_simp) rfl ?_
     go_simp
     refine sE ?_
     have H:=hc.out
     cases b
    rw[Zj8 (by rw[he.out];exact hd) (by rw[hP.out];exact hH.out)] at H
    rotate_left
    ·rw[Zj7 (by rw[he.out];exact hd) (by rw[hP.out];exact hH.out)] at H;have go:=gd H;clear H hc;have gy:=gd (hx.out.trans F);go_wp2;go_roundw
     case rel=>exact ⟨k+1,om,hd,by go_num,go.out,gy.out⟩
     case measure=>simp[intOf];omega
    focus
     have gD:k=m:=om
     have H:=hc.out
     rw[Zn5 (by rw[he.out];omega)] at H
     have hx:=gd S
     have h5:¬(k:Int)<(m:Int):=om
     clear gD
     go_wp2
     refine rN ?_
     change wpAny _ _ _ _ _ _ _ (World.drew _)
     have F:=(Ext.refl wr).drew
     obtain ⟨We,hC⟩:∃We,wr.drew=We:=⟨_,rfl⟩
     rw[hC] at F|-
     have b0:=F.cell c0
     have b1:=F.cell c1
     refine YD (λw'=>w'=We) ?_
     refine tS 0 (nI (k:Nat)) rfl (λw' D=>by subst D;go_simp) rfl ?_
     go_simp
     refine tS 1 (.slice (some ad) m c) rfl (λw' D=>by subst D;go_simp) rfl ?_
     go_simp
     refine tS 2 (nI (m:Nat)) rfl (λw' D=>by subst D;go_simp) rfl ?_
     go_simp
     refine tS 3 (.bool false) rfl (λw' D=>by subst D;go_simp) rfl ?_
     go_simp
     refine tS 4 (.bool false) rfl (λw' D=>by subst D;go_simp) rfl ?_
     go_simp
     refine YP (i:=5) (v:=undef) rfl (by kernel_rfl) (λ_ _ _ h=>h) (Or.inr ⟨by rfl,rfl⟩) rfl ?_
     go_simp
     refine YP (i:=6) (v:=undef) rfl (by kernel_rfl) (λ_ _ _ h=>h) (Or.inr ⟨by rfl,rfl⟩) rfl ?_
     go_simp
     refine YP (i:=7) (v:=undef) rfl (by kernel_rfl) (λ_ _ _ h=>h) (Or.inr ⟨by rfl,rfl⟩) rfl ?_
     go_simp
     refine YP (i:=8) (v:=undef) rfl (by kernel_rfl) (λ_ _ _ h=>h) (Or.inr ⟨by rfl,rfl⟩) rfl ?_
     go_simp
     refine YP (i:=9) (v:=undef) rfl (by kernel_rfl) (λ_ _ _ h=>h) (Or.inr ⟨by rfl,rfl⟩) rfl ?_
     go_simp
     refine YP (i:=10) (v:=undef) rfl (by kernel_rfl) (λ_ _ _ h=>h) (Or.inr ⟨by rfl,rfl⟩) rfl ?_
     go_simp
     refine YP (i:=11) (v:=undef) rfl (by kernel_rfl) (λ_ _ _ h=>h) (Or.inr ⟨by rfl,rfl⟩) rfl ?_
     go_simp
     refine YP (i:=12) (v:=undef) rfl (by kernel_rfl) (λ_ _ _ h=>h) (Or.inr ⟨by rfl,rfl⟩) rfl ?_
     go_simp
     refine YP (i:=13) (v:=undef) rfl (by kernel_rfl) (λ_ _ _ h=>h) (Or.inr ⟨by rfl,rfl⟩) rfl ?_
     go_simp
     refine YP (i:=14) (v:=undef) rfl (by kernel_rfl) (λ_ _ _ h=>h) (Or.inr ⟨by rfl,rfl⟩) rfl ?_
     go_simp
     refine tS 15 (.bool false) rfl (λw' D=>by subst D;go_simp) rfl ?_
     go_simp
     refine sE ?_
    all_goals
     have gg:=hx.out
     go_wp2
     refine gs.out _ _ ?_
     have hf:=gd (gg.trans F)
     obtain ⟨LV,ha⟩:∃LV,loV k (.slice (some ad) m c)=LV:=⟨_,rfl⟩
     obtain ⟨UV,hB⟩:∃UV,hiV k (.slice (some ad) m c)=UV:=⟨_,rfl⟩
     obtain ⟨G,hG⟩:∃G:Grp,G=⟨nm,UV,(x::t).take k⟩:=⟨_,rfl⟩
     have I:=hX.out
     rw[grps,hM.out,HR.out,H,Y.out,ha,hB,<-hG] at I
     have hw:(s++ [G])<+:X:=⟨grps d f LV ((x::t).drop k),by rw[<-I,Zt];rfl⟩
     have gB:=HV.out.form
     have gN:∀wx:Wq,(Instr.slice 29 (.slice (some ad) m c) (some (nI (k:Nat))) none none).run prog wx= .ok LV wx:=λwx=>(by rw[<-ha];exact Zju hD wx)
     have gM:∀wx:Wq,(Instr.slice 29 (.slice (some ad) m c) none (some (nI (k:Nat))) none).run prog wx= .ok UV wx:=λwx=>(by rw[<-hB];exact Zpz gt.out wx)
     obtain ⟨fn,tmps,assign,body,hy,h1⟩:=HY.out s G We hw (hK.out _ _ _ HJ.out hf.out)
     have ht:encG G=#[.string nm,UV]:=(by rw[hG];rfl)
     rw[ht] at hy
     have hI:=gd (hf.out.heap Q)
     have gn:=gd (hf.out.heap U)
     have e0:We.cell? ⟨cb,0,none⟩=some (.slice (some ad) m c):=(by have h:=Zy hI.out 0;rw[Y.out] at h;exact h)
     have hs:=gd (show ((x::t).drop k).length<f/\((x::t).drop k).length<=16777216 by rw[Zk,Y.out];have:=gw.out;have:=hN.out;rw[Y.out] at*;omega)
     have gx:Hid (RFcs z LV ((x::t).drop k)):=gd (by rw[<-ha];have h:=I0 k HV.out (by rw[Y.out];exact hD);rw[Y.out] at h;exact h)
     have gQ:Hid (leftF cb=leftF cb):=gd rfl
     have hA:∃A q,LV= .slice A (m - k) q:=⟨_,_,ha.symm⟩
     have gA:Hid ((s++ [G])++grps d f LV ((x::t).drop k)=X):=gd (by rw[<-I,Zt];rfl)
     clear I hw ha hB hG gB ht hX
     refine (wpIn_wide (n:=n)).1 ?_
     gi_wp2
     refine ⟨λh=>absurd h (by decide),h1.mono ?_⟩
     rintro e W3 ⟨rfl,hU,hi⟩
     have hh:=(hi.block cb (Or.inr (Or.inl rfl))).trans hI.out
     have hQ:=(hi.block db (Or.inr (Or.inr rfl))).trans gn.out
     have g0:W3.cell? ⟨cb,0,none⟩=some (.slice (some ad) m c):=(by have h:=Zy hh 0;rw[Y.out] at h;exact h)
     have g1:W3.frozen? ⟨cb,0,none⟩=false:=Z5 hh 0
     have gm:=gd hh
     have gk:=gd hQ
     have gp:=gd hU
     have gr:=gd hi
     clear hh hQ hU hi hy h1
     obtain ⟨LA,lq,hA⟩:=hA
     subst hA
     gi_wp2
     have hT:(W3.setCell ⟨cb,0,none⟩ (.slice LA (m - k) lq)).heap[cb]? =some (.cells #[.slice LA (m - k) lq] 29 (0,0)):=Yh W3 cb 0 _ _ _ gm.out
     have gE:leftF cb (W3.setCell ⟨cb,0,none⟩ (.slice LA (m - k) lq))=m - k:=(by unfold leftF;rw[Zy hT];rfl)
     have gF:leftF cb wQ=m:=(by unfold leftF;rw[Zy Q];exact Y.out)
     go_roundw
     case rel=>exact ⟨s++ [G],f,_,(x::t).drop k,gq.out _ _ _ gp.out,hT,(Z4 W3 ⟨cb,0,none⟩ db _ (λe=>gH e.symm)).trans gk.out,((KpF.ext gr.out (hg.out.trans hf.out)).setCell gJ _),gx.out,(λy hy=>hr.out y (Yq hy)),hs.out.1,hs.out.2,gA.out⟩
     case measure=>rw[gE,gF];omega
end
theorem ZgA (A:Option Addr) (n c:Nat) (d:Nat) (w:Wq):
 Calls prog 89 #[.slice A n c,nI (d:Nat)] w λe w'=>e= .returned (.func (.func 133) #[] #[.pointer (some ⟨w.heap.size,0,none⟩),.pointer (some ⟨w.heap.size+1,0,none⟩)])/\
  w'.heap[w.heap.size]? =some (.cells #[.slice A n c] 29 (0,0))/\w'.heap[w.heap.size+1]? =some (.cells #[nI (d:Nat)] 3 (0,0))/\Ext w w'/\w'.heap.size=w.heap.size+2:=by
 go_enter func89,ntmps89;go_wp2;go_ret;exact ⟨rfl,(Uc _ _ (by rw[Zu];omega)).trans (Zg w _),YS w _ _,((Ext.refl w).alloc _).alloc _,(by rw[Zu,Zu])⟩
section
variable {a:Act} {id:Nat} {o:Oper} {w:World}
section
variable {P:Program} {ops:Array Oper} {Q:Exit→Act→World→Prop} {l n:Nat}
theorem Zhn {K:Act->Wq->Prop} (A:∀c,o.op≠ .defer c) (h:o.wp P a w K Q):o.wpIn (Fence.wide.inRound l) n P a w K Q:=by
 refine ⟨λ_ _=>trivial,?_⟩;rw[Fence.inRound_round,Oper.semAt_some l a.eval o A];unfold Oper.wp at h;generalize (execOp a.eval o).run P w=r at*;cases r with
 |ok x w'=>
  cases x with
  |enter f args=>exact ⟨λh=>absurd (show false=true from h) (by decide),CallsIn.inRound l (callsIn_wide.2 h)⟩
  |row row args=>exact ⟨λh=>absurd (show false=true from h) (by decide),λc cs _=>let ⟨v,D,r,s⟩:=h c cs;⟨v,D,r,stepsIn_wide.2 s⟩⟩
  |round l' f tmps assign body=>exact h.elim
  |value v=>exact h
  |skip=>exact h
  |defer d=>exact h
  |_=>exact h
 |halt x w'=>cases x<;>exact h
theorem Zfw (D:∀(i:Nat) (o:Oper),ops[i]? =some o->∀c,o.op≠ .defer c) (H:¬LetsOut Q):∀(fuel:Nat) (listed:Array Bool) (a:Act) (w:Wq),wpAny P .any ops Q fuel listed a w->wpAnyIn (Fence.wide.inRound l) n P .any ops Q fuel listed a w:=by
 intro fuel
 induction fuel with
 |zero=>intro listed a w h;exact h
 |succ fuel ih=>
  intro listed a w h;refine ⟨h.1,λi I=> ?_⟩;have A:=J3 (λa w=>ih (listed.setIfInBounds i true) a w) (h.2 i I);unfold wpOp at A;unfold wpOpIn;cases ho:ops[i]? with
  |none=>simp only[ho] at A|-;exact A
  |some o=>
   simp only[ho] at A|-;split
   ·rename_i F;rw[Zi F] at A;rcases A with A|A
    ·exact Zhn (D i o ho) A
    ·exact absurd A.2 H
   ·rename_i F;rw[Ze F] at A;exact ⟨λ_ _=>trivial,A⟩
theorem Zbm (F:P.follows .mixedOrders=true) (A:∀(i:Nat) (o:Oper),ops[i]? =some o->∀c,o.op≠ .defer c) (D:¬LetsOut Q)
 (h:wpAny P .any ops Q ops.size (Array.replicate ops.size false) a w.drew):(Code.region id ops true).wpIn (Fence.wide.inRound l) n P Q a w:=
 wpIn_region_any F (Zfw A D _ _ _ _ h)
def noDefer (ops:Array Oper):Bool:=ops.all λo=>match o.op with| .defer _=>false|_=>true
theorem Zft (h:noDefer ops=true):∀(i:Nat) (o:Oper),ops[i]? =some o->∀c,o.op≠ .defer c:=by
 intro i o D c e;have A:=(Array.all_eq_true_iff_forall_mem.1 h) o (Array.mem_of_getElem? D);rw[e] at A;cases A
def atEnd (R:Act->Wq->Prop):Exit->Act->Wq->Prop
 | .normal,a,w=>R a w
 |_,_,_=>False
theorem ZfK (D:P.follows .mixedOrders=true) (A:noDefer ops=true)
 (h:wpAny P .any ops (atEnd λa' w'=>Q .normal a' w') ops.size (Array.replicate ops.size false) a w.drew):(Code.region id ops true).wpIn (Fence.wide.inRound l) n P Q a w:=
 wpIn_mono (Zbm D (Zft A) (λ⟨_,_,h⟩=>h) h) λe a w h=>by cases e<;>first|exact h|exact h.elim
end
end
section
variable {c d j m n:Nat} {nm s t:List UInt8}
theorem ZiL {l:List Nc} (h:j<l.length):flatN (l.take (j+1))=flatN (l.take j)++cellsN l[j]:=by
 rw[Zr h,Vf,Vg]
def EbX (w:Wq) (g:Nat) (nm:List UInt8) (u:Value):Prop:=w.heap[g]? =some (.cells #[nI 0,eS,.string (str nm),sN,u,eS,nI 0] 25 (0,0))
theorem EbX.cells {w:Wq} {g:Nat} {nm:List UInt8} {u:Value} (h:EbX w g nm u):w.cell? ⟨g,0,none⟩=some (nI 0)/\w.cell? ⟨g,1,none⟩=some eS/\w.cell? ⟨g,2,none⟩=some (.string (str nm))/\w.cell? ⟨g,3,none⟩=some sN/\
 w.cell? ⟨g,4,none⟩=some u/\w.cell? ⟨g,5,none⟩=some eS/\w.cell? ⟨g,6,none⟩=some (nI 0)/\w.frozen? ⟨g,4,none⟩=false:=by
 refine ⟨?_,?_,?_,?_,?_,?_,?_,Z5 h 4⟩<;>(rw[Zy h];rfl)
theorem ZpQ {a:Nat} {A B:Option Addr}:(#[Value.int .i64 0,.string (str s),.string (str nm),.slice A n c,.slice B m d,.string (str t),nI (a:Nat)]).all (λu=>u.oneCell')=true:=by simp[Value.oneCell']
theorem ZpO {A:Option Addr}:(#[nI 0,eS,.string (str nm),sN,(Value.slice A n c),eS,nI 0]).all (λu=>u.oneCell')=true:=by simp[Value.oneCell']
theorem ZbW (nm:List UInt8) (v:Value) (l:List Nc) (w:Wq) (hv:RNs w v l) (hk:∀y∈l,RdN w y/\y.kind=0) (hn:l.length<=16777216):
 Calls prog 44 #[.string (str nm),v] w λe w'=>∃ks,e= .returned (.agg (cellsN (.mk 0 [] nm sN [] ks l [] 0)).toArray)/\w'.ownsRow w.heap.size 25 7 ks l.length (flatN l)/\Ext w w':=by
 obtain ⟨i0,hs,hw,hy,hz⟩:=YH Vh;obtain ⟨A,c,hr, -, -⟩:=RNs.form hv;subst hr;have HV:=gd hv;have HK:=gd hk;have HN:=gd hn;clear hv hk hn;go_enter func44,ntmps44;go_wp2;go_loopw [12] (λv wr=>∃(j:Nat) (u:Value),j<=l.length/\v=nI j/\EbX wr (w.heap.size+1) nm u/\wr.heap[w.heap.size]? =some (.cells #[nI 0,eS,eS,sN,sN,eS,nI 0] 25 (0,0))/\wr.ownsRow (w.heap.size+2) 25 7 u j (flatN (l.take j))/\Ext w wr/\w.heap.size+2<=wr.heap.size) (λv _=>l.length - (intOf v).toNat)
 case atStart=>exact ⟨0,sN,Zj _,rfl,YS w _ _,(Uc _ _ (by rw[Zu];omega)).trans (Zg w _),YF _ _ _ _,((Ext.refl w).alloc _).alloc _,(by rw[Zu,Zu];exact Zc _)⟩
 case round=>
  obtain ⟨j,u,hj,rfl,V,Y,D,hx,hws⟩:=hrel;obtain ⟨U,uc,rfl⟩:=Ym D;obtain ⟨d0,d1,d2,d3,d4,d5,d6,d7⟩:=V.cells;by_cases K:j<l.length
  ·obtain ⟨ad,c',hv,hd⟩:=(RNs.ext HV.out hx).at K;injection hv with hv1 hv2 hv3;subst hv1;clear hv2 hv3;have hE:=HN.out;have hC:(0:Int)<=(j:Int):=om;have hD:(j:Int)<(l.length:Int):=om;have ha:=ZiL K;obtain ⟨hl,hb⟩:=HK.out l[j] (ZL K);have hg:=RdN.sl hl;obtain ⟨y,hm⟩:∃y,l[j]=y:=⟨_,rfl⟩;rw[hm] at hd ha hg hb;obtain ⟨yk,ys,yn,hF,yl,hG,R,yt,ya⟩:=y;obtain ⟨⟨YA,ym,yc,hh⟩,⟨YB,S,yd,hi⟩⟩:=hg;simp only[Nc.al,Nc.ks,Nc.kind] at hh hi hb;subst hh;subst hi;subst hb;obtain ⟨a0,a1,a2,a3,a4,a5,a6⟩:=hd;simp only[Nc.kind,Nc.space,Nc.name,Nc.al,Nc.ks,Nc.text,Nc.at_] at a0 a1 a2 a3 a4 a5 a6;rw[show ((0:Nat):Int)=0 from rfl] at a0;have hf:=Xp (x:= .mk 0 ys yn (.slice YA ym yc) yl (.slice YB S yd) R yt ya) ⟨⟨_,_,_,rfl⟩,⟨_,_,_,rfl⟩⟩;have ho:=gd ha;obtain ⟨HM,HB⟩:=Vj (n:=j) om;have HM:=gd HM;have HB:=gd HB;obtain ⟨J,Z⟩:∃J,wr.alloc (.cells #[nI 0,.string (str ys),.string (str yn),.slice YA ym yc,.slice YB S yd,.string (str yt),nI (ya:Nat)] 25)=J:=⟨_,rfl⟩;have I:Ext wr J:=(by rw[<-Z];exact (Ext.refl wr).alloc _);have F:J.heap[wr.heap.size]? =some (.cells #[nI 0,.string (str ys),.string (str yn),.slice YA ym yc,.slice YB S yd,.string (str yt),nI (ya:Nat)] 25 (0,0)):=(by rw[<-Z];exact Zg wr _);have c0:J.cell? ⟨wr.heap.size,0,none⟩=some (nI 0):=(by rw[Zy F];rfl);have c1:J.cell? ⟨wr.heap.size,1,none⟩=some (.string (str ys)):=(by rw[Zy F];rfl);have c2:J.cell? ⟨wr.heap.size,2,none⟩=some (.string (str yn)):=(by rw[Zy F];rfl);have c3:J.cell? ⟨wr.heap.size,3,none⟩=some (.slice YA ym yc):=(by rw[Zy F];rfl);have c4:J.cell? ⟨wr.heap.size,4,none⟩=some (.slice YB S yd):=(by rw[Zy F];rfl);have c5:J.cell? ⟨wr.heap.size,5,none⟩=some (.string (str yt)):=(by rw[Zy F];rfl);have c6:J.cell? ⟨wr.heap.size,6,none⟩=some (nI (ya:Nat)):=(by rw[Zy F];rfl);have hc:=gd (show EbX J (w.heap.size+1) nm (.slice U j uc) from I.heap V);have hq:=gd (I.heap Y);have h:=gd (Ya D I);have hp:=gd (hx.trans I);have H:=gd (Zp hws I.size);have f4:=(EbX.cells hc.out).2.2.2.2.1;clear ha hl hm hx D V Y F I hws d0 d1 d2 d3 d4 d5 d6 d7
   go_wp2_with (first|(refine Zf rfl 25 (.tmp 7) (.tmp 15) rfl wr.heap.size _ rfl rfl _ _ (Zg _ _) ZJ rfl ZpQ ?_;rw[Z0];rw[Z])|(at_builtin;refine ZO _ rfl (.tmp 25) (.tmp 27) _ rfl (w.heap.size+2) 25 i0 _ 7 112 underlying23 hs hw hy hz rfl (by decide) _ _ _ rfl (h.out.alloc _) _ 1 (cellsN (.mk 0 ys yn (.slice YA ym yc) yl (.slice YB S yd) R yt ya)) rfl (Yo rfl (by decide)) hf HM.out HB.out ?_ ?_;(rw[Zu];have:=H.out;omega);intro v9 w9 Q X hB;(have he:EbX w9 (w.heap.size+1) nm (.slice U j uc):=(X.block _ (by rw[Zu];have:=H.out;omega) (λe=>by have:=(h.out.lt _ e.symm).1;omega)).trans ((Uc _ _ (by have:=H.out;omega)).trans hc.out));(have hA:w9.heap[w.heap.size]? =some (.cells #[nI 0,eS,eS,sN,sN,eS,nI 0] 25 (0,0)):=(X.block _ (by rw[Zu];have:=H.out;omega) (λe=>by have:=(h.out.lt _ e.symm).1;omega)).trans ((Uc _ _ (by have:=H.out;omega)).trans hq.out));obtain ⟨V9,c9,hu⟩:=Ym Q;subst hu;obtain ⟨g0,g1,g2,g3,g4,g5,g6,g7⟩:=he.cells))
   go_roundw
   case rel=>
    refine ⟨j+1,.slice V9 (j+1) c9,K,by go_num,Yh w9 (w.heap.size+1) 4 _ _ _ he,(Z4 w9 ⟨w.heap.size+1,4,none⟩ w.heap.size _ (by show w.heap.size≠w.heap.size+1;omega)).trans hA,?_,(Ext.app (hp.out.alloc _) X (h.out.alloc _) om).setCell (by show _<=w.heap.size+1;omega) _,?_⟩
    ·rw[ho.out];exact Zp2 Q (by show w.heap.size+1<_;omega) _
    ·have h1:=X.size;rw[Zu] at h1;have:=H.out;simp[World.setCell];omega
   case measure=>simp[intOf];omega
  ·have ht:j=l.length:=om;subst ht;rw[List.take_length] at D;clear K hj;have h:=gd D;have HX:=gd hx;clear D hx V
   go_wp2_with (first|(refine Zf rfl 25 (.tmp 4) (.tmp 31) rfl w.heap.size _ rfl rfl _ _ Y ZJ rfl ZpO ?_))
   ((try simp only[Exit.inBlock,Exit.then]);refine ZD (Xe rfl _ _ _ _ _ _ _ rfl (ZF _ _ _ _ _ _ Y) underlying25 rfl ZJ) rfl ?_);exact ⟨_,rfl,X4 (Jk h.out om _) om,HX.out.setRow (Zc _) _⟩
end
section
variable {P:Program} {a:Act} {base c g n:Nat} {e:TypeId} {o:Oper} {ops:Array Oper} {rest:List Oper} {w:World} {xs:List Value}
theorem Zbn (w:Wq) {Q:Exit->Act->Wq->Prop}
 (Z:o.guard=none) (l c:Operand) (t:TypeId) (H:o.op=Op.makeSlice t l c)
 (e:TypeId) (i:TypeInfo) (z:Value) (size:Nat) (R:P.underlying t=some (.slice e)) (S:P.info? e=some i) (U:i.zero=some z) (V:i.size=size)
 (J kc:IntKind) (L C:Int) (n m:Nat) (hl:a.eval l= .int J L) (hc:a.eval c= .int kc C) (Y:L=(n:Int)) (X:C=(m:Int)) (ha:n<=m) (b2:i.bytes*m<=281474976710656) (b3:m<=maxLen)
 (hK:wpList P ops Q rest (a.put o.dst (.slice (some ⟨w.heap.size,0,none⟩) n m)) (w.alloc (.cells (madeCells z.cells (m*size)) e))):
 wpList P ops Q (o::rest) a w:=by
 refine wpList_plain Z λK D=> ?_;have A:(m:Int)<=9223372036854775807:=by have h:=b3;simp[maxLen] at h;omega
 have F:(i.bytes:Int)*(m:Int)<=281474976710656:=by
  have h:((i.bytes*m:Nat):Int)<=281474976710656:=om
  rwa [Int.natCast_mul] at h
 have I:=run_make (P:=P) w t e i z R S U J kc (n:Int) (m:Int) om om F A;simp only[Int.toNat_natCast,V] at I;subst Y;subst X;unfold Oper.wp;simp[execOp,H,hl,hc,I,Result.andThen];exact D _ _ hK
theorem Zdu (w:Wq) (V sT ty D:TypeId) (size g F J k:Nat) (sp:Option Addr) (I R:Nat) (A:Array Value) (t:TypeId) (cs:List Value)
 (hu:P.underlying V=some (.slice D)) (hs:(P.info? D).map (·.size)=some size)
 (X:w.heap[g]? =some (.cells A t (0,0))) (Y:k=Nat.min I F) (U:cs.length=k*size)
 (H:∀j v,cs[j]? =some v->∃a,sp=some a/\w.cell? (a.add j)=some v) (K:cs.length<=A.size) (h1:∀v∈cs,v.oneCell'=true):
 (Builtin.copy_ #[V,sT] ty #[.slice (some ⟨g,0,none⟩) F J,.slice sp I R]).run P w=
  .ok (goInt k) (w.setRow g (cs++A.toList.drop cs.length).toArray):=by
 have Q:=run_storeCells_at P g 0 t cs 0 A w X (by simpa using K) h1;simp only[YI,List.take_zero,Z7] at Q;cases hq:P.info? D with
 |none=>simp[hq] at hs
 |some i=>
  have hi:i.size=size:=by simpa [hq] using hs
  have hm:((size*k):Nat)=cs.length:=by rw[U,VF]
  cases sp with
  |none=>
   have S:cs= []:=by
    cases cs with
    |nil=>rfl
    |cons x r=>obtain ⟨a,e,_⟩:=H 0 x rfl;cases e
   subst S;have ha:k*size=0:=(by rw[<-U];rfl);simp[Builtin.copy_,run_underlying hu,Builtin.lenOf,Builtin.firstCells,sizeOf,typeInfo,hq,<-Y,storeCells,setRow_self w g A t (0,0) X]
  |some a=>have Z:=run_loadCells_list (P:=P) w a cs (λj v hv=>by obtain ⟨a',e,h⟩:=H j v hv;injection e with e;subst e;exact h);rw[U] at Z;simp[Builtin.copy_,run_underlying hu,Builtin.lenOf,Builtin.firstCells,sizeOf,typeInfo,hq,hi,<-Y,Z,Q]
theorem Zau {Q:Exit->Act->Wq->Prop} (X:o.guard=none) (d s:Operand) (V Z:TypeId)
 (ho:o.op= .call {callee:= .builtin .copy,args:=#[d,s],argTypes:=#[V,Z]}) (D:TypeId) (size:Nat) (hu:P.underlying V=some (.slice D)) (Y:(P.info? D).map (·.size)=some size)
 (g A I k:Nat) (sp:Option Addr) (F J:Nat) (hd:a.eval d= .slice (some ⟨g,0,none⟩) A I) (hs:a.eval s= .slice sp F J)
 (H:Array Value) (t:TypeId) (hg:w.heap[g]? =some (.cells H t (0,0))) (cs:List Value) (hk:k=Nat.min F A) (hn:cs.length=k*size)
 (U:∀j v,cs[j]? =some v->∃a,sp=some a/\w.cell? (a.add j)=some v) (R:cs.length<=H.size) (h1:∀v∈cs,v.oneCell'=true)
 (h:wpList P ops Q rest (a.put o.dst (goInt k)) (w.setRow g (cs++H.toList.drop cs.length).toArray)):wpList P ops Q (o::rest) a w:=by
 refine wpList_plain X λK hK=> ?_;have S:=Zdu (P:=P) w V Z o.type D size g A I k sp F J H t cs hu Y hg hk hn U R h1;unfold Oper.wp;simp[execOp,ho,resolve,invoke,builtin,hd,hs,S,Result.andThen];exact hK _ _ h
theorem Zfz {size:Nat} {rest:List Value} (F:w.heap[g]? =some (.cells (xs++rest).toArray e (0,0))) (D:base<=g) (A:xs.length=n*size) (h:n<=c) (hc:c<=maxLen) (H:(xs++rest).length=c*size):
 w.ownsRow base e size (.slice (some ⟨g,0,none⟩) n c) n xs:=
 ⟨A,Or.inr ⟨g,c,_,rfl,D,F,h,hc,by simpa using H,by rw[<-A];simp⟩⟩
end
end Go.Proofs.YtnlafkgkcnenfaaGreatDoor
