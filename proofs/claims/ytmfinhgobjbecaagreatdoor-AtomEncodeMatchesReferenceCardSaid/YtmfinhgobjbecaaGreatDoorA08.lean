/- Parts of the proof: contracts and plain laws. -/
import Derived.Test.YtmfinhgobjbecaaGreatDoorA07
namespace Go.Proofs.YtmfinhgobjbecaaGreatDoor
open Go Go.RowKit _root_.Go.Proofs.Tryz
set_option linter.unusedVariables false
set_option linter.unusedSimpArgs false
set_option maxRecDepth 100000
set_option maxHeartbeats 16000000
theorem ZeE:∀(l:List (Addr×ByteArray)) (w:Wq) (p:Addr×ByteArray) (u:Value),p∈l->(l.Pairwise λp q=>p.1≠q.1)->w.cell? p.1=some u->(setS w l).cell? p.1=some (.string p.2)
 | [],_,_,_,h,_,_=>by simp at h
 |q::t,w,p,u,h,hap,hu=>by
  have A:=Zsr.1 hap
  rcases Zq1.1 h with h|h
  ·subst h
   rw[setS,JW t _ _ λr D=>(A.1 r D).symm]
   exact ZsD _ _ _ hu
  ·have C:q.1≠p.1:=A.1 p h
   rw[setS]
   exact ZeE t _ p u h A.2 (by rw[ZrS w q.1 p.1 _ C];exact hu)
theorem Ext.setS {a:Wq}:∀(l:List (Addr×ByteArray)) {b:Wq},Ext a b->(∀p∈l,a.heap.size<=p.1.block)->Ext a (setS b l)
 | [],_,h,_=>h
 |p::t,b,h,hl=>Ext.setS t (h.setCell (hl p (by simp)) _) λq A=>hl q (by simp[A])
def ptrsAt (g:Nat):Nat->List ByteArray->List (Addr×ByteArray)
 |_,[]=> []
 |i,s::t=>(⟨g,i,none⟩,s)::ptrsAt g (i+1) t
theorem VC (g:Nat):∀(l:List ByteArray) (i:Nat),(ptrsAt g i l).length=l.length
 | [],_=>rfl
 |s::t,i=>by rw[ptrsAt,ZqK,VC g t,ZqK]
theorem VB (g:Nat):∀(l:List ByteArray) (i k:Nat),(ptrsAt g i l)[k]? =l[k]?.map λs=>(⟨g,i+k,none⟩,s)
 | [],_,_=>by simp[ptrsAt]
 |s::t,i,0=>by simp[ptrsAt]
 |s::t,i,k+1=>by
  rw[ptrsAt,List.getElem?_cons_succ,VB g t,List.getElem?_cons_succ]
  rw[show i+1+k=i+(k+1) by omega]
theorem JT {g i:Nat} {l:List ByteArray} {p:Addr×ByteArray} (h:p∈ptrsAt g i l):∃k s,l[k]? =some s/\p=(⟨g,i+k,none⟩,s):=by
 obtain ⟨k,A⟩:=List.mem_iff_getElem?.1 h;rw[VB] at A;cases hl:l[k]? with
 |none=>rw[hl] at A;cases A
 |some s=>rw[hl] at A;injection A with A;exact ⟨k,s,hl,A.symm⟩
theorem ZcP (g:Nat):∀(l:List ByteArray) (i:Nat),(ptrsAt g i l).map (·.2)=l
 | [],_=>rfl
 |s::t,i=>by rw[ptrsAt,Zq8,ZcP g t]
theorem ZcO (g:Nat) (h:ByteArray->ByteArray):∀(l:List ByteArray) (i:Nat),(ptrsAt g i l).map (λp=>(p.1,h p.2))=ptrsAt g i (l.map h)
 | [],_=>rfl
 |s::t,i=>by rw[ptrsAt,Zq8,ZcO g h t,Zq8,ptrsAt]
theorem IX (g:Nat):∀(l:List ByteArray) (i:Nat),(ptrsAt g i l).Pairwise λp q=>p.1≠q.1
 | [],_=>List.Pairwise.nil
 |s::t,i=>by
  rw[ptrsAt,Zsr]
  refine ⟨λp A=> ?_,IX g t _⟩
  obtain ⟨k,s,_,rfl⟩:=JT A
  intro e
  have h:=ZqS Addr.off e
  simp only at h
  omega
def ptrsF (g b:Nat) (l:List ByteArray) (x y z:ByteArray):List (Addr×ByteArray):=ptrsAt g 0 l++ [(⟨b,1,none⟩,x),(⟨b,2,none⟩,y),(⟨b,3,none⟩,z)]
theorem ZlG (g b:Nat) (l:List ByteArray) (x y z:ByteArray):(ptrsF g b l x y z).length=l.length+3:=by unfold ptrsF;rw[ZqG,VC];rfl
theorem Zam (g b:Nat) (l:List ByteArray) (x y z:ByteArray):(ptrsF g b l x y z).map (·.2)=l++ [x,y,z]:=by unfold ptrsF;rw[Zrf,ZcP];rfl
theorem ZlH (g b:Nat) (h:ByteArray->ByteArray) (l:List ByteArray) (x y z:ByteArray):(ptrsF g b l x y z).map (λp=>(p.1,h p.2))=ptrsF g b (l.map h) (h x) (h y) (h z):=by unfold ptrsF;rw[Zrf,ZcO];rfl
theorem ZaZ {g b:Nat} (h:g≠b) (l:List ByteArray) (x y z:ByteArray):(ptrsF g b l x y z).Pairwise λp q=>p.1≠q.1:=by
 unfold ptrsF;rw[List.pairwise_append];refine ⟨IX g l 0,by simp,λp D q A=> ?_⟩;obtain ⟨k,s,_,rfl⟩:=JT D;simp only[Zq1,Zri,ZrD] at A;intro e;have C:=ZqS Addr.block e;rcases A with rfl|rfl|rfl<;>exact h C
theorem Zey {g b:Nat} {l:List ByteArray} {x y z:ByteArray} {p:Addr×ByteArray} (h:p∈ptrsF g b l x y z):p.1.block=g\/p.1.block=b:=by
 unfold ptrsF at h;rcases Zq0.1 h with h|h
 ·obtain ⟨k,s,_,rfl⟩:=JT h;exact Or.inl rfl
 ·simp only[Zq1,Zri,ZrD] at h;rcases h with rfl|rfl|rfl<;>exact Or.inr rfl
theorem ZlI {w w1:Wq} {g b cap:Nat} {A:Option Addr} {l:List ByteArray} {x y z x0 y0 z0:ByteArray} {p e t:Value} {ll:List ByteArray} (F:g≠b) (hl:ll.length=l.length)
 (hA:0<l.length->A=some ⟨g,0,none⟩) (hr:RStrs w (.slice A l.length cap) ll)
 (X:w.cell? ⟨b,0,none⟩=some p) (Y:w.cell? ⟨b,1,none⟩=some (.string x0)) (Z:w.cell? ⟨b,2,none⟩=some (.string y0)) (h3:w.cell? ⟨b,3,none⟩=some (.string z0)) (h4:w.cell? ⟨b,4,none⟩=some t) (h5:w.cell? ⟨b,5,none⟩=some e)
 (U:Ext (setS w (ptrsF g b l x y z)) w1):
 RStrs w1 (.slice A l.length cap) l/\w1.cell? ⟨b,0,none⟩=some p/\w1.cell? ⟨b,1,none⟩=some (.string x)/\w1.cell? ⟨b,2,none⟩=some (.string y)/\w1.cell? ⟨b,3,none⟩=some (.string z)/\w1.cell? ⟨b,4,none⟩=some t/\w1.cell? ⟨b,5,none⟩=some e:=by
 have R:=ZaZ F l x y z;have D:∀(i:Nat) (u:Value),(i=0\/i=4\/i=5)->w.cell? ⟨b,i,none⟩=some u->w1.cell? ⟨b,i,none⟩=some u:=by
  intro i u hi h;refine U.cell ?_;rw[JW _ _ _ λq C=> ?_]
  ·exact h
  ·unfold ptrsF at C;rcases Zq0.1 C with C|C
   ·obtain ⟨k,s,_,rfl⟩:=JT C;intro e;exact F (ZqS Addr.block e)
   ·simp only[Zq1,Zri,ZrD] at C;intro e;have V:=ZqS Addr.off e;rcases C with rfl|rfl|rfl<;>simp only at V<;>omega
 have I:∀(q:Addr×ByteArray) (u:Value),q∈ptrsF g b l x y z->w.cell? q.1=some u->w1.cell? q.1=some (.string q.2):=λq u C h=>U.cell (ZeE _ _ q u C R h);refine ⟨?_,D 0 p (Or.inl rfl) X,I (⟨b,1,none⟩,x) _ (by simp[ptrsF]) Y,I (⟨b,2,none⟩,y) _ (by simp[ptrsF]) Z,I (⟨b,3,none⟩,z) _ (by simp[ptrsF]) h3,D 4 t (Or.inr (Or.inl rfl)) h4,D 5 e (Or.inr (Or.inr rfl)) h5⟩;obtain ⟨q1,A',c',e1,q2,q3,q4,q5⟩:=hr;injection e1 with e1 e2 e3;subst e1 e3;refine ⟨by simp,A,cap,rfl,om,q3,q4,λj u h=> ?_⟩;rw[Zrq] at h;cases hlj:l[j]? with
 |none=>rw[hlj] at h;cases h
 |some s=>
  rw[hlj] at h;injection h with h;subst h;have hb:j<l.length:=(Zrw.1 hlj).1;have J:=hA om;subst J;refine ⟨_,rfl,?_⟩;have H:j<ll.length:=om
  obtain ⟨ad,O,S⟩:=q5 j (.string ll[j]) (by rw[Zrq,ZqL H];rfl);injection O with O;subst O;have Q:(⟨g,0,none⟩:Addr).add j=⟨g,j,none⟩:=by unfold Addr.add;split<;>simp_all
  rw[Q] at S|-;refine I (⟨g,j,none⟩,s) _ ?_ S;unfold ptrsF;refine ZrZ _ (List.mem_iff_getElem?.2 ⟨j,?_⟩);rw[VB,hlj];simp
theorem VU:∀(l:List (Addr×ByteArray)) (w:Wq) (k:Nat),(∀p∈l,p.1.block≠k)->(setS w l).heap[k]? =w.heap[k]?
 | [],_,_,_=>rfl
 |p::t,w,k,h=>by
  rw[setS,VU t _ k λq A=>h q (by simp[A])]
  simp only[World.setCell,Zr6]
  rw[ZqH (h p (by simp))]
theorem ZY (w:Wq) (a:Addr) (v:Value):w.grownBy (w.setCell a v) (some a.block):=
 ⟨rfl,rfl,rfl,by simp[World.setCell],λk _ h=>ZrN w a k v λe=>h (by rw[e])⟩
theorem ZG (w:Wq) (g:Nat) (cs:Array Value):w.grownBy (w.setRow g cs) (some g):=
 ⟨rfl,rfl,rfl,by simp[World.setRow],λk _ h=>Zrn w g k cs λe=>h (by rw[e])⟩
theorem ZmR {W:Wq} {B g b cap:Nat} {A:Option Addr} {v:Value} {l:List ByteArray} {x y z:ByteArray} (H:g≠b) (V:0<l.length->A=some ⟨g,0,none⟩)
 (C:W.ownsRow B 9 1 (.slice A l.length cap) l.length (l.map Value.string))
 (R:W.cell? ⟨b,1,none⟩=some (.string x)) (S:W.cell? ⟨b,2,none⟩=some (.string y)) (U:W.cell? ⟨b,3,none⟩=some (.string z)) (J:W.frozen? ⟨b,1,none⟩=false) (O:W.frozen? ⟨b,2,none⟩=false) (Q:W.frozen? ⟨b,3,none⟩=false)
 (Y:∀s∈l++ [x,y,z],s.size<=16777216) (D:RSl W 1 v (l.length+3) ((ptrsF g b l x y z).map λp=>Value.pointer (some p.1))):Ptrs W v (ptrsF g b l x y z):=by
 refine ⟨by rw[ZlG];exact D,λp h=> ?_,λp h=> ?_,ZaZ H l x y z⟩
 ·unfold ptrsF at h;rcases Zq0.1 h with h|h
  ·obtain ⟨k,s,I,rfl⟩:=JT h;have X:k<l.length:=(Zrw.1 I).1;have F:=V om;subst F;have Z:0+k=k:=om;simp only[Z];refine ⟨?_,C.frozenAt k⟩;rw[C.cellAt k om,Zrq,I];rfl
  ·simp only[Zq1,Zri,ZrD] at h;rcases h with rfl|rfl|rfl
   ·exact ⟨R,J⟩
   ·exact ⟨S,O⟩
   ·exact ⟨U,Q⟩
 ·refine Y _ ?_;have:p.2∈(ptrsF g b l x y z).map (·.2):=Zrr.2 ⟨p,h,rfl⟩
  rwa [Zam] at this
theorem Zhg (g:Nat) (l:List ByteArray) (k:Nat) (A:k<l.length):((ptrsAt g 0 l).take (k+1)).map (λp=>Value.pointer (some p.1))=((ptrsAt g 0 l).take k).map (λp=>Value.pointer (some p.1))++ [.pointer (some ⟨g,k,none⟩)]:=by
 have h:k<(ptrsAt g 0 l).length:=by rw[VC];exact A
 rw[ZqQ h,Zrf];have e:=VB g l 0 k;rw[ZqL h,ZqL A] at e;injection e with e;rw[e];simp
theorem Zce:∀(l:List Ent) (k:Nat) (A:k<l.length),(∀e∈l.take k,errE e=0)->errE l[k]≠0->errEs l=errE l[k]
 | [],k,A,_,_=>by simp at A
 |e::t,0,_,_,h=>by simp only[errEs];rw[ZqH (by simpa using h)];rfl
 |e::t,k+1,A,h,h2=>by
  simp only[errEs]
  rw[ZqN (h e (by simp)),Zce t k (by simpa using A) (λx C=>h x (by simp[C])) (by simpa using h2)]
  rfl
theorem Xu {w:Wq} {g n c:Nat} {A:Option Addr} {l:List ByteArray} (x:ByteArray) (V:n=l.length) (Q:0<l.length->A=some ⟨g,0,none⟩) (h:RStrs w (.slice A n c) l) (R:l.length<=9223372036854775807):
 Calls prog 67 #[.slice A n c,.string x] w λe w'=>e= .returned (.bool (l.any λs=>decide (s=x)))/\w'=w:=by
 subst V;rcases ZrX l.length with D|D
 ·have U:=ZqX D;subst U;exact slices_Contains_string_empty A c x w
 ·have F:=Q D;subst F;have S:∀j,j<l.length->w.cell? ⟨g,0+j,none⟩=some (.string (l.getD j ByteArray.empty)):=by intro j J;obtain ⟨_,Y,Z,e,_,_,_,q⟩:=h;injection e with e1 e2 e3;subst e1;obtain ⟨ad,H,C⟩:=q j (.string l[j]) (by rw[Zrq,ZqL J];rfl);injection H with H;subst H;have I:(⟨g,0,none⟩:Addr).add j=⟨g,0+j,none⟩:=(by unfold Addr.add;split<;>simp_all);rw[I] at C;rw[C,Zry,ZqL J];rfl
  refine (slices_Contains_string g 0 l.length c l x w (ZqE _) R S).mono ?_;rintro e w' ⟨rfl,rfl⟩;refine ⟨?_,rfl⟩;rw[Zq4 (ZqE _)];refine ZqS (λb=>Ending.returned (.bool b)) ?_;rw[ZrG,Lib.containsS_iff,Zsc];constructor
  ·intro h;exact ⟨x,h,by simp⟩
  ·rintro ⟨s,X,e⟩;have O:s=x:=(by simpa using e);rw[<-O];exact X
theorem BxT.alloc0 (w:Wq) (x:Tc):BxT (w.alloc (.cells (cellsT x).toArray 110)) w.heap.size x:=ZqJ w _
theorem RAts.grown {w w':Wq} {v:Value} {l:List AtP} {r:Option Nat} (h:RAts w v l) (C:w.grownBy w' r) (F:∀g,v.ownBlock=some g->r≠some g):RAts w' v l:=by
 by_cases D:flatA l= []
 ·exact RSl.grown h C (Or.inl D)
 ·obtain ⟨g,A,_⟩:=RSl.old h D;exact RSl.grown h C (Or.inr (by rw[A];exact λe=>F g A e.symm))
theorem RAts.one {w:Wq} {v:Value} {l:List AtP} (h:RAts w v l):v.oneCell'=true:=by
 obtain ⟨A,c,e,_⟩:=h.form;rw[e];rfl
theorem Zan (s:ByteArray) (f:Nat) (w:Wq) (hs:s.size<=80000000000) (hf:f<s.size):
 Calls prog 102 #[.string s,nI (f:Nat)] w λe w'=>∃v,e= .returned v/\TokRet w.heap.size w' v (constructP s.data.toList f)/\Ext w w':=by
 have hq:s.size<=maxLen:=by unfold maxLen;omega
 have hd:=Zb s;obtain ⟨R,C⟩:∃R,constructP s.data.toList f=R:=⟨_,rfl⟩;rw[C];unfold constructP at C;have D:=gd (BxT.alloc0 w (nilT 0 0));have Z:=gd ((Ext.refl w).alloc (.cells (cellsT (nilT 0 0)).toArray 110));have J:=gd (λw'=>ZS s [60,63] f w' hs om (by decide) (by decide));have O:=gd (λw'=>ZS s [60,33,45,45] f w' hs om (by decide) (by decide));have Q:=gd (λw'=>ZS s [60,33,91,67,68,65,84,65,91] f w' hs om (by decide) (by decide));have S:=gd (λw'=>ZS s [60,33,68,79,67,84,89,80,69] f w' hs om (by decide) (by decide));have U:=gd (λw'=>ZS s [60,33] f w' hs om (by decide) (by decide));have V:=gd (λw'=>ZS s [60,47] f w' hs om (by decide) (by decide));have X:=gd (λw'=>ZS s [60] f w' hs om (by decide) (by decide));cases hh0:hasAt s.data.toList f [60,63];rw[hh0,ZqH (by simp)] at C;rw[hh0] at J;cases hh1:hasAt s.data.toList f [60,33,45,45];rw[hh1,ZqH (by simp)] at C;rw[hh1] at O;cases hh2:hasAt s.data.toList f [60,33,91,67,68,65,84,65,91];rw[hh2,ZqH (by simp)] at C;rw[hh2] at Q;cases hh3:hasAt s.data.toList f [60,33,68,79,67,84,89,80,69];rw[hh3,ZqH (by simp)] at C;rw[hh3] at S;cases hh4:hasAt s.data.toList f [60,33];rw[hh4,ZqH (by simp)] at C;rw[hh4] at U;cases hh5:hasAt s.data.toList f [60,47];rw[hh5,ZqH (by simp)] at C;rw[hh5] at V;cases hh6:hasAt s.data.toList f [60];rw[hh6,ZqH (by simp)] at C;rw[hh6] at X;have hk:=Ks (by rw[hd];exact hf) hh6;dsimp only at C;obtain ⟨z,hz⟩:∃z,(findAt s.data.toList f [60]).getD s.data.toList.length=z:=⟨_,rfl⟩;rw[hz] at C hk;rw[hd] at hk hz;have ha:=λw'=>IZ s [60] f w' hs om (by decide) (by decide);have I:=λw'=>Qs s f z false w' hs om hk.2;clear hh0 hh1 hh2 hh3 hh4 hh5 hh6;cases hcp:contP false s.data.toList f z
 ·rename_i xc;obtain ⟨x,c⟩:=xc;rw[hcp] at C I;dsimp only at C;subst C;have HC:=gd I;clear hcp I;cases hfi:findAt s.data.toList f [60];rw[hfi] at ha hz;dsimp only[Option.getD] at hz ha;subst hz
  rotate_left
  rename_i i;rw[hfi] at ha hz;dsimp only[Option.getD] at hz ha;subst hz;have ho:¬(i:Int)<0:=om
  all_goals
   have HF:=gd ha
   clear hfi ha
   go_enter func102,ntmps102
   go_wp2_with (first|(go_at_call 101;(first|(with_reducible refine ZqD (J.out _) ?_)|(with_reducible refine ZqD (O.out _) ?_)|(with_reducible refine ZqD (Q.out _) ?_)|(with_reducible refine ZqD (S.out _) ?_)|(with_reducible refine ZqD (U.out _) ?_)|(with_reducible refine ZqD (V.out _) ?_)|(with_reducible refine ZqD (X.out _) ?_));rintro e w3 ⟨rfl,rfl⟩)|(go_at_call 146;refine ZqD (HF.out _) ?_;rintro e w3 ⟨rfl,rfl⟩)|(go_at_call 147;refine ZqD (HC.out _) ?_;rintro e w4 ⟨rfl,H⟩;simp only[contAns];have F:=D.out.ext H)|(refine ZqF rfl 110 (.tmp 4) (.tmp 116) rfl w.heap.size _ rfl rfl _ _ F Zm rfl (Yb ⟨sN,dataT [] f⟩ rfl) ?_))
   ((try simp only[Exit.inBlock,Exit.then]);refine ZqT (Zc rfl _ _ _ _ _ _ _ rfl (ZqV _ _ _ _ _ _ F) underlying110 rfl Zm) rfl ?_)
   exact ⟨_,rfl,⟨⟨sN,dataT [] f⟩,rfl,rfl⟩,(Z.out.trans H).setRow (ZqE _) _⟩
 rename_i v;rw[hcp] at C I;dsimp only at C;subst C;have HC:=gd I;clear hcp I;cases hfi:findAt s.data.toList f [60];rw[hfi] at ha hz;dsimp only[Option.getD] at hz ha;subst hz
 rotate_left
 rename_i i;rw[hfi] at ha hz;dsimp only[Option.getD] at hz ha;subst hz;have ho:¬(i:Int)<0:=om
 rotate_left
 ·rw[hh6,ZqN rfl] at C;rw[hh6] at X;have Y:f+1<=s.size:=by have:=Ya hh6;rw[hd] at this;simpa using this
  have I:=λw'=>ZfA s f w' hs Y;rw[C] at I;clear hh0 hh1 hh2 hh3 hh4 hh5 hh6;cases R with
  |error xc=>
   obtain ⟨x,c⟩:=xc;clear C;have HC:=gd I;clear I;go_enter func102,ntmps102
   go_wp2_with (first|(go_at_call 101;(first|(with_reducible refine ZqD (J.out _) ?_)|(with_reducible refine ZqD (O.out _) ?_)|(with_reducible refine ZqD (Q.out _) ?_)|(with_reducible refine ZqD (S.out _) ?_)|(with_reducible refine ZqD (U.out _) ?_)|(with_reducible refine ZqD (V.out _) ?_)|(with_reducible refine ZqD (X.out _) ?_));rintro e w3 ⟨rfl,rfl⟩)|(go_at_call 145;refine ZqD (HC.out _) ?_;rintro e w4 ⟨v4,rfl,⟨x4,rfl,hj⟩,H⟩;have F:=D.out.ext H)|(refine ZqF rfl 110 (.tmp 4) (.tmp 96) rfl w.heap.size _ rfl rfl _ _ F Zm rfl (Yb x4 hj) ?_))
   ((try simp only[Exit.inBlock,Exit.then]);refine ZqT (Zc rfl _ _ _ _ _ _ _ rfl (ZqV _ _ _ _ _ _ F) underlying110 rfl Zm) rfl ?_);exact ⟨_,rfl,⟨x4,rfl,hj⟩,(Z.out.trans H).setRow (ZqE _) _⟩
  |ok tn=>
   obtain ⟨t,n⟩:=tn;clear C;have HC:=gd I;clear I;go_enter func102,ntmps102
   go_wp2_with (first|(go_at_call 101;(first|(with_reducible refine ZqD (J.out _) ?_)|(with_reducible refine ZqD (O.out _) ?_)|(with_reducible refine ZqD (Q.out _) ?_)|(with_reducible refine ZqD (S.out _) ?_)|(with_reducible refine ZqD (U.out _) ?_)|(with_reducible refine ZqD (V.out _) ?_)|(with_reducible refine ZqD (X.out _) ?_));rintro e w3 ⟨rfl,rfl⟩)|(go_at_call 145;refine ZqD (HC.out _) ?_;rintro e w4 ⟨v4,rfl,⟨hi,rfl,hh,he⟩,H⟩;have F:=D.out.ext H)|(refine ZqF rfl 110 (.tmp 4) (.tmp 96) rfl w.heap.size _ rfl rfl _ _ F Zm rfl (Yb ⟨hi,t⟩ hh.one) ?_))
   ((try simp only[Exit.inBlock,Exit.then]);refine ZqT (Zc rfl _ _ _ _ _ _ _ rfl (ZqV _ _ _ _ _ _ F) underlying110 rfl Zm) rfl ?_);exact ⟨_,rfl,⟨hi,rfl,RAts.grown hh (ZG _ _ _) (λg hg e=>by injection e with e;have:=he g hg;rw[Zd] at this;omega),(λg hg=>by have:=he g hg;rw[Zd] at this;omega)⟩,(Z.out.trans H).setRow (ZqE _) _⟩
 ·rw[hh5,ZqN rfl] at C;rw[hh5] at V;have Y:f+2<=s.size:=by have:=Ya hh5;rw[hd] at this;simpa using this
  have I:=λw'=>Zju s f w' hs Y;rw[C] at I;clear hh0 hh1 hh2 hh3 hh4 hh5;cases R with
  |error xc=>
   obtain ⟨x,c⟩:=xc;clear C;have HC:=gd I;clear I;go_enter func102,ntmps102
   go_wp2_with (first|(go_at_call 101;(first|(with_reducible refine ZqD (J.out _) ?_)|(with_reducible refine ZqD (O.out _) ?_)|(with_reducible refine ZqD (Q.out _) ?_)|(with_reducible refine ZqD (S.out _) ?_)|(with_reducible refine ZqD (U.out _) ?_)|(with_reducible refine ZqD (V.out _) ?_)|(with_reducible refine ZqD (X.out _) ?_));rintro e w3 ⟨rfl,rfl⟩)|(go_at_call 144;refine ZqD (HC.out _) ?_;rintro e w4 ⟨v4,rfl,⟨x4,rfl,hj⟩,H⟩;have F:=D.out.ext H)|(refine ZqF rfl 110 (.tmp 4) (.tmp 86) rfl w.heap.size _ rfl rfl _ _ F Zm rfl (Yb x4 hj) ?_))
   ((try simp only[Exit.inBlock,Exit.then]);refine ZqT (Zc rfl _ _ _ _ _ _ _ rfl (ZqV _ _ _ _ _ _ F) underlying110 rfl Zm) rfl ?_);exact ⟨_,rfl,⟨x4,rfl,hj⟩,(Z.out.trans H).setRow (ZqE _) _⟩
  |ok tn=>
   obtain ⟨t,n⟩:=tn;clear C;have HC:=gd I;clear I;go_enter func102,ntmps102
   go_wp2_with (first|(go_at_call 101;(first|(with_reducible refine ZqD (J.out _) ?_)|(with_reducible refine ZqD (O.out _) ?_)|(with_reducible refine ZqD (Q.out _) ?_)|(with_reducible refine ZqD (S.out _) ?_)|(with_reducible refine ZqD (U.out _) ?_)|(with_reducible refine ZqD (V.out _) ?_)|(with_reducible refine ZqD (X.out _) ?_));rintro e w3 ⟨rfl,rfl⟩)|(go_at_call 144;refine ZqD (HC.out _) ?_;rintro e w4 ⟨v4,rfl,⟨hi,rfl,hh,he⟩,H⟩;have F:=D.out.ext H)|(refine ZqF rfl 110 (.tmp 4) (.tmp 86) rfl w.heap.size _ rfl rfl _ _ F Zm rfl (Yb ⟨hi,t⟩ hh.one) ?_))
   ((try simp only[Exit.inBlock,Exit.then]);refine ZqT (Zc rfl _ _ _ _ _ _ _ rfl (ZqV _ _ _ _ _ _ F) underlying110 rfl Zm) rfl ?_);exact ⟨_,rfl,⟨hi,rfl,RAts.grown hh (ZG _ _ _) (λg hg e=>by injection e with e;have:=he g hg;rw[Zd] at this;omega),(λg hg=>by have:=he g hg;rw[Zd] at this;omega)⟩,(Z.out.trans H).setRow (ZqE _) _⟩
 ·rw[hh4,ZqN rfl] at C;rw[hh4] at U;subst C;clear hh0 hh1 hh2 hh3 hh4;go_enter func102,ntmps102
  go_wp2_with (first|(go_at_call 101;(first|(with_reducible refine ZqD (J.out _) ?_)|(with_reducible refine ZqD (O.out _) ?_)|(with_reducible refine ZqD (Q.out _) ?_)|(with_reducible refine ZqD (S.out _) ?_)|(with_reducible refine ZqD (U.out _) ?_)|(with_reducible refine ZqD (V.out _) ?_)|(with_reducible refine ZqD (X.out _) ?_));rintro e w3 ⟨rfl,rfl⟩)|(refine ZqF rfl 110 (.tmp 4) (.tmp 77) rfl w.heap.size _ rfl rfl _ _ D.out Zm rfl (Yb (nilT 0 0) rfl) ?_))
  ((try simp only[Exit.inBlock,Exit.then]);refine ZqT (Zc rfl _ _ _ _ _ _ _ rfl (ZqV _ _ _ _ _ _ D.out) underlying110 rfl Zm) rfl ?_);exact ⟨_,rfl,⟨nilT 0 0,rfl,rfl⟩,Z.out.setRow (ZqE _) _⟩
 ·rw[hh3,ZqN rfl] at C;rw[hh3] at S;subst C;clear hh0 hh1 hh2 hh3;go_enter func102,ntmps102
  go_wp2_with (first|(go_at_call 101;(first|(with_reducible refine ZqD (J.out _) ?_)|(with_reducible refine ZqD (O.out _) ?_)|(with_reducible refine ZqD (Q.out _) ?_)|(with_reducible refine ZqD (S.out _) ?_)|(with_reducible refine ZqD (U.out _) ?_)|(with_reducible refine ZqD (V.out _) ?_)|(with_reducible refine ZqD (X.out _) ?_));rintro e w3 ⟨rfl,rfl⟩)|(refine ZqF rfl 110 (.tmp 4) (.tmp 71) rfl w.heap.size _ rfl rfl _ _ D.out Zm rfl (Yb (nilT 0 0) rfl) ?_))
  ((try simp only[Exit.inBlock,Exit.then]);refine ZqT (Zc rfl _ _ _ _ _ _ _ rfl (ZqV _ _ _ _ _ _ D.out) underlying110 rfl Zm) rfl ?_);exact ⟨_,rfl,⟨nilT 0 0,rfl,rfl⟩,Z.out.setRow (ZqE _) _⟩
 ·rw[hh2,ZqN rfl] at C;rw[hh2] at Q;have Y:f+9<=s.size:=by have:=Ya hh2;rw[hd] at this;simpa using this
  have A:=λw'=>Qw s f [60,33,91,67,68,65,84,65,91] [93,93,62] w' hs Y (by decide) (by decide);rw[show ([60,33,91,67,68,65,84,65,91]:List UInt8).length=9 from rfl] at A;cases hsk:skipP s.data.toList f 9 [93,93,62] with
  |error xc=>
   obtain ⟨x,c⟩:=xc;rw[hsk] at C A;dsimp only at C A;subst C;have hc:=JD hsk;have hb:=gd A;obtain ⟨rfl,rfl⟩:=hc;clear hsk A hh0 hh1 hh2;go_enter func102,ntmps102
   go_wp2_with (first|(go_at_call 101;(first|(with_reducible refine ZqD (J.out _) ?_)|(with_reducible refine ZqD (O.out _) ?_)|(with_reducible refine ZqD (Q.out _) ?_)|(with_reducible refine ZqD (S.out _) ?_)|(with_reducible refine ZqD (U.out _) ?_)|(with_reducible refine ZqD (V.out _) ?_)|(with_reducible refine ZqD (X.out _) ?_));rintro e w3 ⟨rfl,rfl⟩)|(go_at_call 142;refine ZqD (hb.out _) ?_;rintro e w3 ⟨rfl,rfl⟩)|(refine ZqF rfl 110 (.tmp 4) (.tmp 54) rfl w.heap.size _ rfl rfl _ _ D.out Zm rfl (Yb (nilT 0 0) rfl) ?_))
   ((try simp only[Exit.inBlock,Exit.then]);refine ZqT (Zc rfl _ _ _ _ _ _ _ rfl (ZqV _ _ _ _ _ _ D.out) underlying110 rfl Zm) rfl ?_);exact ⟨_,rfl,⟨nilT 0 0,rfl,rfl⟩,Z.out.setRow (ZqE _) _⟩
  |ok z=>
   have hm:=Ef (by rw[hd];exact Y) hsk;rw[hd] at hm;have hp:f+9+3<=z:=hm.1;rw[hsk] at C A;dsimp only at C A;subst C;have hb:=gd A;obtain ⟨L,hL⟩:∃L,(s.data.toList.drop (f+9)).take (z - 3 - (f+9))=L:=⟨_,rfl⟩;have hr:=Zat s (f+9) (z - 3) ((f:Int)+9) ((z:Int) - 3) L om om om om hL;have hn:L.length<=s.size:=(by rw[<-hL,Zra,ZqP];omega);rw[hL];have hl:=gd (λw'=>I8 (str L) w' (by rw[Zo];omega));rw[Zg] at hl;clear hL hsk hn A hh0 hh1 hh2;go_enter func102,ntmps102
   go_wp2_with (first|(go_at_call 101;(first|(with_reducible refine ZqD (J.out _) ?_)|(with_reducible refine ZqD (O.out _) ?_)|(with_reducible refine ZqD (Q.out _) ?_)|(with_reducible refine ZqD (S.out _) ?_)|(with_reducible refine ZqD (U.out _) ?_)|(with_reducible refine ZqD (V.out _) ?_)|(with_reducible refine ZqD (X.out _) ?_));rintro e w3 ⟨rfl,rfl⟩)|(go_at_call 142;refine ZqD (hb.out _) ?_;rintro e w3 ⟨rfl,rfl⟩)|(go_at_call 143;refine ZqD (hl.out _) ?_;rintro e w4 ⟨rfl,H⟩;have F:=D.out.ext H)|(refine ZqF rfl 110 (.tmp 4) (.tmp 65) rfl w.heap.size _ rfl rfl _ _ F Zm rfl (Yb ⟨sN,dataT (lns L) f⟩ rfl) ?_))
   ((try simp only[Exit.inBlock,Exit.then]);refine ZqT (Zc rfl _ _ _ _ _ _ _ rfl (ZqV _ _ _ _ _ _ F) underlying110 rfl Zm) rfl ?_);exact ⟨_,rfl,⟨_,rfl,RAts.nil _,(by intro g h;cases h)⟩,(Z.out.trans H).setRow (ZqE _) _⟩
 ·rw[hh1,ZqN rfl] at C;rw[hh1] at O;have Y:f+4<=s.size:=by have:=Ya hh1;rw[hd] at this;simpa using this
  have A:=λw'=>Qw s f [60,33,45,45] [45,45,62] w' hs Y (by decide) (by decide);rw[show ([60,33,45,45]:List UInt8).length=4 from rfl] at A;cases hsk:skipP s.data.toList f 4 [45,45,62] with
  |error xc=>
   obtain ⟨x,c⟩:=xc;rw[hsk] at C A;dsimp only at C A;subst C;have hc:=JD hsk;have hb:=gd A;clear hsk hc A hh0 hh1;go_enter func102,ntmps102
   go_wp2_with (first|(go_at_call 101;(first|(with_reducible refine ZqD (J.out _) ?_)|(with_reducible refine ZqD (O.out _) ?_)|(with_reducible refine ZqD (Q.out _) ?_)|(with_reducible refine ZqD (S.out _) ?_)|(with_reducible refine ZqD (U.out _) ?_)|(with_reducible refine ZqD (V.out _) ?_)|(with_reducible refine ZqD (X.out _) ?_));rintro e w3 ⟨rfl,rfl⟩)|(go_at_call 142;refine ZqD (hb.out _) ?_;rintro e w3 ⟨rfl,rfl⟩)|(refine ZqF rfl 110 (.tmp 4) (.tmp 39) rfl w.heap.size _ rfl rfl _ _ D.out Zm rfl (Yb (nilT 3 0) rfl) ?_))
   ((try simp only[Exit.inBlock,Exit.then]);refine ZqT (Zc rfl _ _ _ _ _ _ _ rfl (ZqV _ _ _ _ _ _ D.out) underlying110 rfl Zm) rfl ?_);exact ⟨_,rfl,⟨nilT 3 0,rfl,rfl⟩,Z.out.setRow (ZqE _) _⟩
  |ok to_=>
   rw[hsk] at C A;dsimp only at C A;subst C;have hb:=gd A;clear hsk A hh0 hh1;go_enter func102,ntmps102
   go_wp2_with (first|(go_at_call 101;(first|(with_reducible refine ZqD (J.out _) ?_)|(with_reducible refine ZqD (O.out _) ?_)|(with_reducible refine ZqD (Q.out _) ?_)|(with_reducible refine ZqD (S.out _) ?_)|(with_reducible refine ZqD (U.out _) ?_)|(with_reducible refine ZqD (V.out _) ?_)|(with_reducible refine ZqD (X.out _) ?_));rintro e w3 ⟨rfl,rfl⟩)|(go_at_call 142;refine ZqD (hb.out _) ?_;rintro e w3 ⟨rfl,rfl⟩)|(refine ZqF rfl 110 (.tmp 4) (.tmp 39) rfl w.heap.size _ rfl rfl _ _ D.out Zm rfl (Yb (nilT 3 0) rfl) ?_))
   ((try simp only[Exit.inBlock,Exit.then]);refine ZqT (Zc rfl _ _ _ _ _ _ _ rfl (ZqV _ _ _ _ _ _ D.out) underlying110 rfl Zm) rfl ?_);exact ⟨_,rfl,⟨_,rfl,RAts.nil _,(by intro g h;cases h)⟩,Z.out.setRow (ZqE _) _⟩
 ·rw[hh0,ZqN rfl] at C;rw[hh0] at J;have Y:f+2<=s.size:=by have:=Ya hh0;rw[hd] at this;simpa using this
  have A:=λw'=>Qw s f [60,63] [63,62] w' hs Y (by decide) (by decide);rw[show ([60,63]:List UInt8).length=2 from rfl] at A;cases hsk:skipP s.data.toList f 2 [63,62] with
  |error xc=>
   obtain ⟨x,c⟩:=xc;rw[hsk] at C A;dsimp only at C A;subst C;have hc:=JD hsk;have hb:=gd A;clear hsk hc A hh0;go_enter func102,ntmps102
   go_wp2_with (first|(go_at_call 101;(first|(with_reducible refine ZqD (J.out _) ?_)|(with_reducible refine ZqD (O.out _) ?_)|(with_reducible refine ZqD (Q.out _) ?_)|(with_reducible refine ZqD (S.out _) ?_)|(with_reducible refine ZqD (U.out _) ?_)|(with_reducible refine ZqD (V.out _) ?_)|(with_reducible refine ZqD (X.out _) ?_));rintro e w3 ⟨rfl,rfl⟩)|(go_at_call 142;refine ZqD (hb.out _) ?_;rintro e w3 ⟨rfl,rfl⟩)|(refine ZqF rfl 110 (.tmp 4) (.tmp 26) rfl w.heap.size _ rfl rfl _ _ D.out Zm rfl (Yb (nilT 3 0) rfl) ?_))
   ((try simp only[Exit.inBlock,Exit.then]);refine ZqT (Zc rfl _ _ _ _ _ _ _ rfl (ZqV _ _ _ _ _ _ D.out) underlying110 rfl Zm) rfl ?_);exact ⟨_,rfl,⟨nilT 3 0,rfl,rfl⟩,Z.out.setRow (ZqE _) _⟩
  |ok to_=>
   rw[hsk] at C A;dsimp only at C A;subst C;have hb:=gd A;clear hsk A hh0;go_enter func102,ntmps102
   go_wp2_with (first|(go_at_call 101;(first|(with_reducible refine ZqD (J.out _) ?_)|(with_reducible refine ZqD (O.out _) ?_)|(with_reducible refine ZqD (Q.out _) ?_)|(with_reducible refine ZqD (S.out _) ?_)|(with_reducible refine ZqD (U.out _) ?_)|(with_reducible refine ZqD (V.out _) ?_)|(with_reducible refine ZqD (X.out _) ?_));rintro e w3 ⟨rfl,rfl⟩)|(go_at_call 142;refine ZqD (hb.out _) ?_;rintro e w3 ⟨rfl,rfl⟩)|(refine ZqF rfl 110 (.tmp 4) (.tmp 26) rfl w.heap.size _ rfl rfl _ _ D.out Zm rfl (Yb (nilT 3 0) rfl) ?_))
   ((try simp only[Exit.inBlock,Exit.then]);refine ZqT (Zc rfl _ _ _ _ _ _ _ rfl (ZqV _ _ _ _ _ _ D.out) underlying110 rfl Zm) rfl ?_);exact ⟨_,rfl,⟨_,rfl,RAts.nil _,(by intro g h;cases h)⟩,Z.out.setRow (ZqE _) _⟩
 all_goals
  have HF:=gd ha
  clear hfi ha
  go_enter func102,ntmps102
  go_wp2_with (first|(go_at_call 101;(first|(with_reducible refine ZqD (J.out _) ?_)|(with_reducible refine ZqD (O.out _) ?_)|(with_reducible refine ZqD (Q.out _) ?_)|(with_reducible refine ZqD (S.out _) ?_)|(with_reducible refine ZqD (U.out _) ?_)|(with_reducible refine ZqD (V.out _) ?_)|(with_reducible refine ZqD (X.out _) ?_));rintro e w3 ⟨rfl,rfl⟩)|(go_at_call 146;refine ZqD (HF.out _) ?_;rintro e w3 ⟨rfl,rfl⟩)|(go_at_call 147;refine ZqD (HC.out _) ?_;rintro e w4 ⟨rfl,H⟩;simp only[contAns];have F:=D.out.ext H)|(refine ZqF rfl 110 (.tmp 4) (.tmp 116) rfl w.heap.size _ rfl rfl _ _ F Zm rfl (Yb ⟨sN,dataT v f⟩ rfl) ?_))
  ((try simp only[Exit.inBlock,Exit.then]);refine ZqT (Zc rfl _ _ _ _ _ _ _ rfl (ZqV _ _ _ _ _ _ F) underlying110 rfl Zm) rfl ?_)
  exact ⟨_,rfl,⟨_,rfl,RAts.nil _,(by intro g h;cases h)⟩,(Z.out.trans H).setRow (ZqE _) _⟩
def Nc.kind:Nc->Nat| .mk k _ _ _ _ _ _ _ _=>k
def Nc.space:Nc->List UInt8| .mk _ s _ _ _ _ _ _ _=>s
def Nc.name:Nc->List UInt8| .mk _ _ n _ _ _ _ _ _=>n
def Nc.text:Nc->List UInt8| .mk _ _ _ _ _ _ _ t _=>t
def Nc.at_:Nc->Nat| .mk _ _ _ _ _ _ _ _ a=>a
theorem QK (x:Nc):cellsN x= [nI (x.kind:Nat),.string (str x.space),.string (str x.name),x.al,x.ks,.string (str x.text),nI (x.at_:Nat)]:=by cases x;rfl
theorem Kg (x:Nc):(cellsN x).length=7:=by cases x;rfl
theorem Yc:∀l:List Nc,Nc.nds l=l.map Nc.nd
 | []=>by rw[Nc.nds];rfl
 |x::t=>by rw[Nc.nds,Yc t];rfl
theorem X6 (a b:List Nc):Nc.nds (a++b)=Nc.nds a++Nc.nds b:=by rw[Yc,Yc,Yc,Zrf]
theorem Y8 (l:List Nc):(Nc.nds l).length=l.length:=by rw[Yc,Zq9]
theorem Zj7 (x:Nc):x.nd.kind=x.kind:=by cases x;rw[Nc.nd];rfl
theorem Xm (a b:List Nc):flatN (a++b)=flatN a++flatN b:=by unfold flatN;rw[Zrf,ZsP]
theorem Yq (x:Nc):flatN [x]=cellsN x:=by unfold flatN;simp
theorem ZmT {l:List Nc} (h:l≠ []):flatN l≠ []:=by
 cases l with
 |nil=>exact absurd rfl h
 |cons x t=>unfold flatN;rw[Zq8,ZsB,QK];simp
theorem Zcm {l:List AtP} (h:l≠ []):flatA l≠ []:=by
 cases l with
 |nil=>exact absurd rfl h
 |cons x t=>unfold flatA;rw[Zq8,ZsB];unfold cellsA;simp
theorem ZD {w:Wq}:∀l:List Nc,RdNs w l↔∀x∈l,RdN w x
 | []=>by rw[RdNs];simp
 |x::t=>by rw[RdNs,ZD t];simp
mutual
theorem RdN.ext {w w':Wq} (hx:Ext w w'):∀x:Nc,RdN w x->RdN w' x
 | .mk k s n al l ks kids t a,h=>by
  rw[RdN] at h|-
  exact ⟨h.1.ext hx,h.2.1.ext hx,RdNs.ext hx kids h.2.2⟩
theorem RdNs.ext {w w':Wq} (hx:Ext w w'):∀l:List Nc,RdNs w l->RdNs w' l
 | [],h=>by rw[RdNs];trivial
 |x::t,h=>by
  rw[RdNs] at h|-
  exact ⟨RdN.ext hx x h.1,RdNs.ext hx t h.2⟩
end
def awayV (v:Value) (n:Nat) (r:Option Nat):Prop:=n=0\/v.ownBlock≠r
mutual
def awayN (r:Option Nat):Nc->Prop
 | .mk _ _ _ al l ks kids _ _=>awayV al l.length r/\awayV ks kids.length r/\awayNs r kids
def awayNs (r:Option Nat):List Nc->Prop
 | []=>True
 |x::t=>awayN r x/\awayNs r t
end
theorem Zx {r:Option Nat}:∀l:List Nc,awayNs r l↔∀x∈l,awayN r x
 | []=>by rw[awayNs];simp
 |x::t=>by rw[awayNs,Zx t];simp
theorem Iq {w:Wq} {size n:Nat} {v:Value} {xs:List Value} {r:Option Nat} (h:RSl w size v n xs) (A:n=0\/xs≠ []) (F:∀g,r=some g->w.heap.size<=g):awayV v n r:=by
 rcases A with A|A
 ·exact Or.inl A
 ·obtain ⟨k,C,D⟩:=RSl.old h A;refine Or.inr ?_;rw[C];intro e;have:=F k e.symm;omega
mutual
theorem VZ {w:Wq} {r:Option Nat} (hr:∀g,r=some g->w.heap.size<=g):∀x:Nc,RdN w x->awayN r x
 | .mk k s n al l ks kids t a,h=>by
  rw[RdN] at h
  rw[awayN]
  refine ⟨Iq h.1 ?_ hr,Iq h.2.1 ?_ hr,EZ hr kids h.2.2⟩
  ·by_cases hl:l= []
   ·exact Or.inl (by rw[hl];rfl)
   ·exact Or.inr (Zcm hl)
  ·by_cases hl:kids= []
   ·exact Or.inl (by rw[hl];rfl)
   ·exact Or.inr (ZmT hl)
theorem EZ {w:Wq} {r:Option Nat} (hr:∀g,r=some g->w.heap.size<=g):∀l:List Nc,RdNs w l->awayNs r l
 | [],h=>by rw[awayNs];trivial
 |x::t,h=>by
  rw[RdNs] at h
  rw[awayNs]
  exact ⟨VZ hr x h.1,EZ hr t h.2⟩
end
theorem ZbN {w:Wq} {x:Nc} (h:RdN w x):awayN none x:=VZ (by intro g e;cases e) x h
theorem Yo {w:Wq} {x:Nc} (h:RdN w x) {g:Nat} (A:w.heap.size<=g):awayN (some g) x:=VZ (by intro k e;injection e with e;omega) x h
mutual
theorem RdN.grown {w w':Wq} {r:Option Nat} (hg:w.grownBy w' r):∀x:Nc,RdN w x->awayN r x->RdN w' x
 | .mk k s n al l ks kids t a,h,ha=>by
  rw[RdN] at h|-
  rw[awayN] at ha
  refine ⟨RSl.grown h.1 hg (ha.1.imp (λe=> ?_) λe=>e),RSl.grown h.2.1 hg (ha.2.1.imp (λe=> ?_) λe=>e),RdNs.grown hg kids h.2.2 ha.2.2⟩
  ·rw[List.length_eq_zero_iff.1 e];rfl
  ·rw[List.length_eq_zero_iff.1 e];rfl
theorem RdNs.grown {w w':Wq} {r:Option Nat} (hg:w.grownBy w' r):∀l:List Nc,RdNs w l->awayNs r l->RdNs w' l
 | [],h,ha=>by rw[RdNs];trivial
 |x::t,h,ha=>by
  rw[RdNs] at h|-
  rw[awayNs] at ha
  exact ⟨RdN.grown hg x h.1 ha.1,RdNs.grown hg t h.2 ha.2⟩
end
def slN (x:Nc):Prop:=isSl x.al/\isSl x.ks
theorem RdN.sl {w:Wq} {x:Nc} (h:RdN w x):slN x:=by
 cases x;rw[RdN] at h;obtain ⟨A,c,e,_⟩:=h.1.form;obtain ⟨_,B,d,C,_⟩:=h.2.1;exact ⟨⟨A,_,c,e⟩,⟨B,_,d,C⟩⟩
theorem ZH {x:Nc} (h:slN x):∀u∈cellsN x,u.oneCell'=true:=by
 obtain ⟨⟨A,n,c,D⟩,⟨B,m,d,F⟩⟩:=h;rw[QK,D,F];intro u C;simp only[Zq1,Zri,ZrD] at C;rcases C with rfl|rfl|rfl|rfl|rfl|rfl|rfl<;>rfl
def RNs (w:Wq) (v:Value) (l:List Nc):Prop:=RSl w 7 v l.length (flatN l)
theorem RNs.ext {w w':Wq} {v:Value} {l:List Nc} (h:RNs w v l) (A:Ext w w'):RNs w' v l:=RSl.ext h A
theorem RNs.nil (w:Wq):RNs w sN []:=RSl.nil w 7
theorem RNs.form {w:Wq} {v:Value} {l:List Nc} (h:RNs w v l):∃A c,v= .slice A l.length c/\l.length<=c/\c<=maxLen:=by
 obtain ⟨_,A,c,e,C,D,_⟩:=h;exact ⟨A,c,e,C,D⟩
structure AtNc (w:Wq) (q:Addr) (x:Nc):Prop where
 c0:w.cell? q=some (nI (x.kind:Nat))
 c1:w.cell? ⟨q.block,q.off+1,none⟩=some (.string (str x.space))
 c2:w.cell? ⟨q.block,q.off+2,none⟩=some (.string (str x.name))
 c3:w.cell? ⟨q.block,q.off+3,none⟩=some x.al
 c4:w.cell? ⟨q.block,q.off+4,none⟩=some x.ks
 c5:w.cell? ⟨q.block,q.off+5,none⟩=some (.string (str x.text))
 c6:w.cell? ⟨q.block,q.off+6,none⟩=some (nI (x.at_:Nat))
theorem RNs.at {w:Wq} {v:Value} {l:List Nc} (h:RNs w v l) {k:Nat} (D:k<l.length):∃ad c,v= .slice (some ad) l.length c/\AtNc w (ad.add (k*7)) l[k]:=by
 obtain ⟨ad,c,e,C⟩:=RSl.elem (k:=7) (css:=l.map cellsN) h (by decide) (by intro c C;obtain ⟨x,_,rfl⟩:=Zrr.1 C;exact Kg x) k (cellsN l[k]) (by rw[Zrq,ZqL D];rfl);rw[Zst] at C;rw[QK] at C;have A:∀i,0<i->(ad.add (k*7)).add i=⟨(ad.add (k*7)).block,(ad.add (k*7)).off+i,none⟩:=λi F=>ZqH om;refine ⟨ad,c,e,?_,?_,?_,?_,?_,?_,?_⟩
 ·have:=C 0 _ rfl;rwa [add_zero] at this
 ·have:=C 1 _ rfl;rwa [A _ (by decide)] at this
 ·have:=C 2 _ rfl;rwa [A _ (by decide)] at this
 ·have:=C 3 _ rfl;rwa [A _ (by decide)] at this
 ·have:=C 4 _ rfl;rwa [A _ (by decide)] at this
 ·have:=C 5 _ rfl;rwa [A _ (by decide)] at this
 ·have:=C 6 _ rfl;rwa [A _ (by decide)] at this
structure HNs (w:Wq) (B:Nat) (v:Value) (l:List Nc):Prop where
 row:w.ownsRow B 25 7 v l.length (flatN l)
 rd:RdNs w l
 away:awayNs v.ownBlock l
theorem HNs.nil (w:Wq) (B:Nat):HNs w B sN []:=⟨Zrt _ _ _ _,(by rw[RdNs];trivial),(by rw[awayNs];trivial)⟩
theorem HNs.ext {w w':Wq} {B:Nat} {v:Value} {l:List Nc} (h:HNs w B v l) (A:Ext w w'):HNs w' B v l:=⟨Zt h.row A,RdNs.ext A l h.rd,h.away⟩
theorem HNs.reads {w:Wq} {B:Nat} {v:Value} {l:List Nc} (h:HNs w B v l):RNs w v l:=RSl.of_own h.row
theorem HNs.snoc {w H:Wq} {B:Nat} {v v3:Value} {l:List Nc} {x:Nc} (h:HNs w B v l) (O:RdN w x) (I:awayN v.ownBlock x)
 (D:H.ownsRow B 25 7 v3 (l.length+1) (flatN l++cellsN x)) (J:w.grownBy H v.ownBlock) (F:v3.ownBlock=v.ownBlock\/v3.ownBlock=some w.heap.size):HNs H B v3 (l++ [x]):=by
 have C:∀y∈l++ [x],RdN w y/\awayN v.ownBlock y:=by
  intro y A;rcases Zq0.1 A with A|A
  ·exact ⟨(ZD l).1 h.rd y A,(Zx l).1 h.away y A⟩
  ·rw[ZqU.1 A];exact ⟨O,I⟩
 refine ⟨?_,(ZD _).2 λy A=>RdN.grown J y (C y A).1 (C y A).2,(Zx _).2 λy A=> ?_⟩
 ·rw[Xm,Yq,ZqG];exact D
 ·rcases F with e|e
  ·rw[e];exact (C y A).2
  ·rw[e];exact Yo (C y A).1 (ZqE _)
theorem RAts.away {w w':Wq} {v:Value} {l:List AtP} {r:Option Nat} (h:RAts w v l) (A:w.grownBy w' r) (C:awayV v l.length r):RAts w' v l:=
 RSl.grown h A (C.imp (λe=>by rw[List.length_eq_zero_iff.1 e];rfl) λe=>e)
theorem RAts.awayNew {w:Wq} {v:Value} {l:List AtP} {g:Nat} (h:RAts w v l) (C:w.heap.size<=g):awayV v l.length (some g):=
 Iq h (by by_cases A:l= [];exact Or.inl (by rw[A];rfl);exact Or.inr (Zcm A)) (by intro k e;injection e with e;omega)
theorem ZkX (a b:List Tc):flatT (a++b)=flatT a++flatT b:=by unfold flatT;rw[Zrf,ZsP]
theorem ZkY (x:Tc):flatT [x]=cellsT x:=by unfold flatT;simp
theorem Zih (x:Tc) (h:x.al.oneCell'=true):∀u∈cellsT x,u.oneCell'=true:=by
 intro u A;simp only[cellsT,Zq1,Zri,ZrD] at A;rcases A with rfl|rfl|rfl|rfl|rfl|rfl<;>first|rfl|exact h
structure HTs (w:Wq) (B:Nat) (v:Value) (l:List Tc):Prop where
 row:w.ownsRow B 110 6 v l.length (flatT l)
 rd:∀x∈l,RdT w x
 away:∀x∈l,awayV x.al x.t.attrs.length v.ownBlock
theorem HTs.nil (w:Wq) (B:Nat):HTs w B sN []:=⟨Zrt _ _ _ _,by simp,by simp⟩
theorem HTs.ext {w w':Wq} {B:Nat} {v:Value} {l:List Tc} (h:HTs w B v l) (C:Ext w w'):HTs w' B v l:=⟨Zt h.row C,λx A=>RAts.ext (h.rd x A) C,h.away⟩
theorem HTs.snoc {w H:Wq} {B:Nat} {v v3:Value} {l:List Tc} {x:Tc} (h:HTs w B v l) (O:RdT w x) (I:awayV x.al x.t.attrs.length v.ownBlock)
 (D:H.ownsRow B 110 6 v3 (l.length+1) (flatT l++cellsT x)) (J:w.grownBy H v.ownBlock) (F:v3.ownBlock=v.ownBlock\/v3.ownBlock=some w.heap.size):HTs H B v3 (l++ [x]):=by
 have C:∀y∈l++ [x],RdT w y/\awayV y.al y.t.attrs.length v.ownBlock:=by
  intro y A;rcases Zq0.1 A with A|A
  ·exact ⟨h.rd y A,h.away y A⟩
  ·rw[ZqU.1 A];exact ⟨O,I⟩
 refine ⟨?_,λy A=>RAts.away (C y A).1 J (C y A).2,λy A=> ?_⟩
 ·rw[ZkX,ZkY,ZqG];exact D
 ·rcases F with e|e
  ·rw[e];exact (C y A).2
  ·rw[e];exact RAts.awayNew (C y A).1 (ZqE _)
def ToksRet (B:Nat) (w:Wq) (n:Nat) (v:Value):Except PErr (List Tok)->Prop
 | .ok l=>∃(u:Value) (lt:List Tc),v= .tuple #[u,nI (n:Nat),nI 0]/\lt.map Tc.t=l/\RSl w 6 u lt.length (flatT lt)/\(∀x∈lt,RdT w x)/\(∀x∈lt,∀g,x.al.ownBlock=some g->B<=g)/\∀g,u.ownBlock=some g->B<=g
 | .error (y,c)=>v= .tuple #[sN,nI (y:Nat),nI (c:Nat)]
theorem Znb:(prog.info? 110).map (λi=>(i.zero,i.size,i.bytes))=some (some (.agg #[nI 0,eS,sN,.bool false,eS,nI 0]),6,80):=by kernel_rfl
theorem ZdA (s:ByteArray) (w:Wq) (hs:s.size<=80000000000):
 Calls prog 57 #[.string s] w λe w'=>∃v,e= .returned v/\ToksRet w.heap.size w' s.size v (toksP s.data.toList)/\Ext w w':=by
 have hN:s.size<=maxLen:=by unfold maxLen;omega
 obtain ⟨i0,hL,hS,hT,hU⟩:=ZrE Znb;have ht:=Zb s;obtain ⟨R,X⟩:∃R,toksP s.data.toList=R:=⟨_,rfl⟩;rw[X];rw[Vf] at X;have D:=λw'=>VD s w' hN;unfold checkS at D;obtain ⟨x,c,hB⟩:∃x c,check s.data.toList=(x,c):=⟨_,_,rfl⟩;rw[hB] at X D;dsimp only at X D;have hp:=gd D;clear hB D;by_cases V:c=0
 case neg=>
  rw[ZqN V] at X;subst X;have hK:((c:Int) !=0)=true:=by rw[ZrQ];omega
  clear V;go_enter func57,ntmps57
  go_wp2_with (first|(go_at_call 99;refine ZqD (hp.out _) ?_;rintro e w2 ⟨rfl,ha⟩))
  go_ret3
  exact ⟨_,rfl,(by unfold ToksRet;rfl),ha⟩
 case pos=>
  subst V;rw[ZqH (by simp)] at X;have hd:∀w':Wq,Calls prog 101 #[.string s,nI 0,.string ⟨#[239,187,191]⟩] w' λe w2=>e= .returned (.bool (hasAt s.data.toList 0 [239,187,191]))/\w2=w':=λw'=>ZS s [239,187,191] 0 w' hs om (by decide) (by decide);cases hb:hasAt s.data.toList 0 [239,187,191];rw[hb,ZqH (by simp)] at X
  rotate_left
  have h3:3<=s.size:=by have:=Ya hb;rw[ht] at this;simpa using this
  rw[hb,ZqN rfl] at X
  all_goals
   rw[hb] at hd
   clear hb
   have HH:=gd hd
   clear hd
   have HR:=gd X
   clear X
   go_enter func57,ntmps57
   go_wp2_with (first|(go_at_call 99;refine ZqD (hp.out _) ?_;rintro e w2 ⟨rfl,ha⟩)|(go_at_call 101;refine ZqD (HH.out _) ?_;rintro e w3 ⟨rfl,h3⟩;have hH:=h3.symm;clear h3;subst hH))
   go_loopw [5,7] (λa t wr=>∃(k:Nat) (lt:List Tc),k<=s.size/\a=nI k/\HTs wr w.heap.size t lt/\Hid (toksAt s.data.toList k (lt.map Tc.t)=R)/\Hid (lt.length<=k)/\Hid (∀x∈lt,∀g,x.al.ownBlock=some g->w.heap.size<=g)/\Ext w wr) (λa _ _=>s.size - (intOf a).toNat)
   case atStart=>first|exact ⟨0,[],ZqO _,rfl,HTs.nil _ _,HR,ZqO _,(by intro x Z;cases Z),ha⟩|exact ⟨3,[],h3,rfl,HTs.nil _ _,HR,ZqO _,(by intro x Z;cases Z),ha⟩
   case round=>
    obtain ⟨k,lt,hk,rfl,H,hr,hl,hi,Z⟩:=hrel
    obtain ⟨A,cc,rfl⟩:=Zp H.row
    by_cases hm:k<s.size
    have hV:(k:Int)<(s.size:Int):=om
    have S:=λw'=>Zan s k w' hs hm
    cases V:constructP s.data.toList k
    ·rename_i xc
     obtain ⟨x5,c5⟩:=xc
     have hJ:=V8 om V
     have hK:((c5:Int) !=0)=true:=(by rw[ZrQ];omega)
     have hh:R= .error (x5,c5):=(by rw[<-hr.out,J1 om V])
     subst hh
     rw[V] at S
     have HC:=gd S
     clear S V hJ hr hm
     go_wp2_with (first|(go_at_call 102;refine ZqD (HC.out _) ?_;rintro e w5 ⟨v5,rfl,⟨y5,rfl,hP⟩,C⟩)|(refine ZqF rfl 110 (.tmp 8) (.tmp 30) rfl w5.heap.size _ rfl rfl _ _ (BxT.alloc0 w5 (nilT 0 0)) Zm rfl (Yb y5 hP) ?_))
     go_ret3
     exact ⟨_,rfl,(by unfold ToksRet;rfl),((Z.trans C).alloc _).setRow (Z.trans C).size _⟩
    rename_i te
    obtain ⟨t,e⟩:=te
    obtain ⟨hw,hj, -, -, -⟩:=Yi om V
    rw[ht] at hj
    rw[V] at S
    have Q:=hr.out
    rw[YY om V] at Q
    have HC:=gd S
    have HE:=gd (show e<=s.size/\k<e from ⟨hj,hw⟩)
    clear S V hr hw hj
    by_cases O:keeps t
    rw[ZqN O] at Q
    have hf:=gd Q
    clear Q
    obtain ⟨tk,tn,ta,J,tt,I⟩:=t
    have he:=gd H
    have hM:lt.length<=80000000000:=(by have:=hl.out;omega)
    have hD:=gd (show lt.length+1<=maxLen by unfold maxLen;omega)
    have hC:=gd (show (lt.length+1)*80<=140737488355328 by omega)
    have hF:=gd (λg (hg:(Value.slice A lt.length cc).ownBlock=some g)=>(H.row.lt g hg).2)
    clear H hM
    by_cases U:tk=3
    have hv:((tk:Int) !=3)=false:=(by rw[U];rfl)
    have hQ:(str tt).toList.isEmpty=false:=by
     rw[Zn,Zg]
     cases tt with
     |nil=>rcases O with h|h;exact absurd U h;exact absurd rfl h
     |cons a b=>rfl
    rotate_left
    have hv:((tk:Int) !=3)=true:=by rw[ZrQ];omega
    rotate_left
    ·rw[ZqH O] at Q
     have hf:=gd Q
     clear Q
     have U:t.kind=3:=Decidable.not_not.1 λh=>O (Or.inl h)
     have hA:t.text= []:=Decidable.not_not.1 λh=>O (Or.inr h)
     obtain ⟨tk,tn,ta,J,tt,I⟩:=t
     dsimp only at U hA
     subst U
     subst hA
     have hQ:(str []).toList.isEmpty=true:=(by rw[Zn,Zg];rfl)
     clear O
     go_wp2_with (first|(go_at_call 102;refine ZqD (HC.out _) ?_;rintro e5 w5 ⟨v5,rfl,⟨hG,rfl,F,Y⟩,C⟩;obtain ⟨A5,c5,rfl, -, -⟩:=F.form;simp only[cellsT]))
     go_roundw
     case rel=>
      have hE:=HE.out
      exact ⟨e,lt,hE.1,rfl,H.ext (C.alloc _),hf,ZqM hl.out (Nat.le_of_lt hE.2),hi,(Z.trans C).alloc _⟩
     case measure=>have hE:=HE.out;simp[intOf];omega
    ·have hW:¬(k:Int)<(s.size:Int):=om
     have hh:R= .ok (lt.map Tc.t):=(by rw[<-hr.out,XW om])
     subst hh
     clear hr hm
     go_wp2
     go_ret3
     exact ⟨_,rfl,(by unfold ToksRet;exact ⟨_,lt,rfl,rfl,RSl.of_own H.row,H.rd,hi.out,Yw H.row⟩),Z⟩
    all_goals
     clear O U
     go_wp2_with (first|(go_at_call 102;refine ZqD (HC.out _) ?_;rintro e5 w5 ⟨v5,rfl,⟨hG,rfl,F,Y⟩,C⟩;obtain ⟨A5,c5,rfl, -, -⟩:=F.form;simp only[cellsT])|(at_builtin;refine Za _ rfl (.tmp 45) (.tmp 47) _ rfl w.heap.size 110 i0 _ 6 80 underlying103 hL hS hT hU rfl (by decide) _ _ _ rfl (((he.out.ext C).row.alloc _).alloc _) _ 1 (cellsT ⟨.slice A5 ta.length c5,⟨tk,tn,ta,J,tt,I⟩⟩) rfl (Yr (n:=1) (cs:=cellsT ⟨.slice A5 ta.length c5,⟨tk,tn,ta,J,tt,I⟩⟩) (fr:=(0,0)) (ZI _ _ _) rfl (by decide)) (Zih ⟨.slice A5 ta.length c5,⟨tk,tn,ta,J,tt,I⟩⟩ rfl) hD.out hC.out ?_ ?_;(rw[Zd,Zd];have:=(Z.trans C).size;omega);intro v9 w9 hn hu hq))
     go_roundw
     case rel=>
      have hE:=HE.out
      have ho:=((Ext.refl w5).alloc (.cells (cellsT ⟨.slice A5 ta.length c5,⟨tk,tn,ta,J,tt,I⟩⟩).toArray 110)).alloc (.cells (cellsT ⟨.slice A5 ta.length c5,⟨tk,tn,ta,J,tt,I⟩⟩).toArray 110)
      have hz:RdT _ ⟨.slice A5 ta.length c5,⟨tk,tn,ta,J,tt,I⟩⟩:=RAts.ext F ho
      have hI:awayV (.slice A5 ta.length c5) ta.length (Value.slice A lt.length cc).ownBlock:=by
       refine (Decidable.em (ta= [])).imp (λe=>by rw[e];rfl) λhO=> ?_
       obtain ⟨g,hg, -⟩:=RSl.old F (Zcm hO)
       rw[hg]
       intro e
       have h1:=Y g hg
       have h2:=hF.out g e.symm
       omega
      refine ⟨e,lt++ [⟨.slice A5 ta.length c5,⟨tk,tn,ta,J,tt,I⟩⟩],hE.1,rfl,HTs.snoc ((he.out.ext C).ext ho) hz hI hn hu hq,?_,?_,?_,Ext.app ((Z.trans C).trans ho) hu (((he.out.ext C).row.alloc _).alloc _) (ZqE _)⟩
      ·rw[Zrf]
       exact hf
      ·rw[ZqG]
       have:=hl.out
       show _+1<=_
       omega
      ·intro y hy g hg
       rcases Zq0.1 hy with hy|hy
       ·exact hi.out y hy g hg
       ·rw[ZqU.1 hy] at hg
        have h1:=Y g hg
        have h2:=Z.size
        omega
     case measure=>have hE:=HE.out;simp[intOf];omega
theorem Qf (fin f d:Nat):elemP fin f d []= .error (fin,8):=by cases f<;>rw[elemP]
theorem IQ (fin f d:Nat) (t:Tok) (ks:List Nd):kidsP fin f d t ks []= .error (fin,8):=by cases f<;>rw[kidsP]
theorem Ve (fin:Nat):∀f:Nat,(∀(d:Nat) (l:List Tok) (n:Nd) (r:List Tok),elemP fin f d l= .ok (n,r)->∃m,0<m/\m<=l.length/\r=l.drop m)/\
 (∀(d:Nat) (t:Tok) (ks:List Nd) (l:List Tok) (n:Nd) (r:List Tok),kidsP fin f d t ks l= .ok (n,r)->∃m,0<m/\m<=l.length/\r=l.drop m)
 |0=>⟨λd l n r h=>(by rw[elemP] at h;cases h),λd t ks l n r h=>(by rw[kidsP] at h;cases h)⟩
 |f+1=>by
  obtain ⟨H,C⟩:=Ve fin f;refine ⟨λd l n r h=> ?_,λd t ks l n r h=> ?_⟩
  ·cases l with
   |nil=>rw[elemP] at h;cases h
   |cons t l=>
    rw[elemP] at h;split at h
    ·cases h
    ·split at h
     ·injection h with h;injection h with F A;exact ⟨1,om,by simp,by rw[<-A];rfl⟩
     ·obtain ⟨m,F,A,D⟩:=C d t [] l n r h;exact ⟨m+1,om,by simpa using A,by rw[D];rfl⟩
  ·cases l with
   |nil=>rw[kidsP] at h;cases h
   |cons u l=>
    rw[kidsP] at h;split at h
    ·split at h
     ·cases h
     ·injection h with h;injection h with F A;exact ⟨1,om,by simp,by rw[<-A];rfl⟩
    ·split at h
     ·split at h
      ·cases h
      ·rename_i k r' O;obtain ⟨m,F,A,D⟩:=H _ _ _ _ O;obtain ⟨Q,R,J,I⟩:=C _ _ _ _ _ _ h;rw[D,List.drop_drop] at I;rw[D,ZqP] at J;exact ⟨m+Q,om,om,I⟩
     ·obtain ⟨m,F,A,D⟩:=C _ _ _ _ _ _ h;exact ⟨m+1,om,by simpa using A,by rw[D];rfl⟩
theorem QW (fin:Nat):∀f:Nat,(∀(g d:Nat) (l:List Tok),2*l.length<=f->2*l.length<=g->elemP fin f d l=elemP fin g d l)/\
 (∀(g d:Nat) (t:Tok) (ks:List Nd) (l:List Tok),2*l.length+1<=f->2*l.length+1<=g->kidsP fin f d t ks l=kidsP fin g d t ks l)
 |0=>⟨λg d l h _=>(by
  have I:l= []:=List.length_eq_zero_iff.1 om;rw[I,Qf,Qf]),λg d t ks l h _=>om⟩
 |f+1=>by
  obtain ⟨F,A⟩:=QW fin f;refine ⟨λg d l C D=> ?_,λg d t ks l C D=> ?_⟩
  ·cases l with
   |nil=>rw[Qf,Qf]
   |cons t l=>
    rw[ZqK] at C D;cases g with
    |zero=>omega
    |succ g=>
     rw[elemP,elemP];split
     ·rfl
     ·split
      ·rfl
      ·exact A g d t [] l om om
  ·cases l with
   |nil=>rw[IQ,IQ]
   |cons u l=>
    rw[ZqK] at C D;cases g with
    |zero=>omega
    |succ g=>
     rw[kidsP,kidsP];split
     ·rfl
     ·split
      ·rw[F g (d+1) (u::l) (by rw[ZqK];omega) (by rw[ZqK];omega)];cases he:elemP fin g (d+1) (u::l) with
       |error x=>rfl
       |ok kr=>obtain ⟨k,r⟩:=kr;obtain ⟨m,J,O,H⟩:=(Ve fin g).1 _ _ _ _ he;have Q:r.length+1<=l.length+1:=(by rw[H,ZqP,ZqK];omega);exact A g d t _ r om om
      ·exact A g d t _ l om om
def elemAt (fin d:Nat) (l:List Tok):Except PErr (Nd×List Tok):=elemP fin (2*l.length) d l
def kidsAt (fin d:Nat) (t:Tok) (ks:List Nd) (l:List Tok):Except PErr (Nd×List Tok):=kidsP fin (2*l.length+1) d t ks l
theorem E7 (fin d:Nat) (t:Tok) (l:List Tok):elemAt fin d (t::l)=if 100<d then .error (t.at_,9) else if t.empty then .ok (.mk 0 [] t.name t.attrs [] [] t.at_,l) else kidsAt fin d t [] l:=by
 unfold elemAt kidsAt;rw[ZqK,show 2*(l.length+1)=2*l.length+1+1 by omega,elemP]
theorem ZiJ (fin d:Nat) (t:Tok) (ks:List Nd):kidsAt fin d t ks []= .error (fin,8):=IQ _ _ _ _ _
theorem ZcB (fin d:Nat) (t:Tok) (ks:List Nd) (u:Tok) (l:List Tok) (h:u.kind=2):kidsAt fin d t ks (u::l)=if u.name≠t.name then .error (u.at_,14) else .ok (.mk 0 [] t.name t.attrs ks [] t.at_,l):=by
 unfold kidsAt;rw[kidsP,ZqN h]
theorem ZcC (fin d:Nat) (t:Tok) (ks:List Nd) (u:Tok) (l:List Tok) (A:u.kind=1):kidsAt fin d t ks (u::l)=match elemAt fin (d+1) (u::l) with| .error x=> .error x| .ok (k,r)=>kidsAt fin d t (ks++ [k]) r:=by
 unfold kidsAt elemAt;rw[kidsP,ZqH om,ZqN A];rw[ZqK];cases he:elemP fin (2*(l.length+1)) (d+1) (u::l) with
 |error x=>rfl
 |ok kr=>
  obtain ⟨k,r⟩:=kr;obtain ⟨m,C,D,h⟩:=(Ve fin _).1 _ _ _ _ he;have F:r.length+1<=l.length+1:=by rw[h,ZqP,ZqK];omega
  exact (QW fin _).2 _ _ _ _ _ om (ZqE _)
theorem ZaS (fin d:Nat) (t:Tok) (ks:List Nd) (u:Tok) (l:List Tok) (h:u.kind=3):kidsAt fin d t ks (u::l)=kidsAt fin d t (addText ks u.text u.at_) l:=by
 unfold kidsAt;rw[kidsP,ZqH om,ZqH om];rw[ZqK];exact (QW fin _).2 _ _ _ _ _ om (ZqE _)
theorem Qe {fin d:Nat} {l r:List Tok} {n:Nd} (h:elemAt fin d l= .ok (n,r)):∃m,0<m/\m<=l.length/\r=l.drop m:=(Ve fin _).1 _ _ _ _ h
theorem Zgf (fin:Nat):∀f:Nat,(∀(d:Nat) (l:List Tok) (x c:Nat),elemP fin f d l= .error (x,c)->c≠0)/\(∀(d:Nat) (t:Tok) (ks:List Nd) (l:List Tok) (x c:Nat),kidsP fin f d t ks l= .error (x,c)->c≠0)
 |0=>⟨λd l x c h=>(by rw[elemP] at h;injection h with h;injection h with _ h;omega),λd t ks l x c h=>(by rw[kidsP] at h;injection h with h;injection h with _ h;omega)⟩
 |f+1=>by
  obtain ⟨C,A⟩:=Zgf fin f
  refine ⟨λd l x c h=> ?_,λd t ks l x c h=> ?_⟩
  ·cases l with
   |nil=>rw[Qf] at h;injection h with h;injection h with _ h;omega
   |cons t l=>
    rw[elemP] at h
    split at h
    ·injection h with h;injection h with _ h;omega
    ·split at h
     ·cases h
     ·exact A _ _ _ _ _ _ h
  ·cases l with
   |nil=>rw[IQ] at h;injection h with h;injection h with _ h;omega
   |cons u l=>
    rw[kidsP] at h
    split at h
    ·split at h
     ·injection h with h;injection h with _ h;omega
     ·cases h
    ·split at h
     ·split at h
      ·rename_i y D
       obtain ⟨y1,y2⟩:=y
       have:=C _ _ _ _ D
       injection h with h;injection h with _ h;omega
      ·exact A _ _ _ _ _ _ h
     ·exact A _ _ _ _ _ _ h
theorem Kp {fin d x c:Nat} {l:List Tok} (h:elemAt fin d l= .error (x,c)):c≠0:=(Zgf fin _).1 _ _ _ _ h
theorem Yz (fin f:Nat) (found:Option Nd) (t:Tok) (r:List Tok):docGo fin (f+1) found (t::r)=if t.kind=1/\found.isSome then .error (t.at_,17)
 else if t.kind=2 then .error (t.at_,14)
 else if t.kind=3 then (if blankL t.text=false then .error (t.at_,7) else docGo fin f found r)
 else match elemAt fin 1 (t::r) with
  | .error x=> .error x
  | .ok (n,r')=>docGo fin f (some n) r':=by
 have h:elemP fin (2*(r.length+1)+2) 1 (t::r)=elemAt fin 1 (t::r):=(QW fin _).1 _ _ _ (by rw[ZqK];omega) (by rw[ZqK];omega);cases found<;>(rw[docGo,h];try rfl)
theorem YP (fin f:Nat) (found:Option Nd):docGo fin (f+1) found []=match found with|none=> .error (fin,8)|some n=> .ok n:=by cases found<;>rw[docGo]
theorem Vs (fin:Nat):∀(f g:Nat) (found:Option Nd) (l:List Tok),l.length<f->l.length<g->docGo fin f found l=docGo fin g found l
 |0,_,_,_,h,_=>by omega
 |_+1,0,_,_,_,h=>by omega
 |f+1,g+1,found,l,h1,h2=>by
  cases l with
  |nil=>rw[YP,YP]
  |cons t r=>
   rw[ZqK] at h1 h2
   rw[Yz,Yz]
   split
   ·rfl
   ·split
    ·rfl
    ·split
     ·split
      ·rfl
      ·exact Vs fin f g found r om om
     ·cases he:elemAt fin 1 (t::r) with
      |error x=>rfl
      |ok nr=>
       obtain ⟨n,r'⟩:=nr
       obtain ⟨m,C,D,A⟩:=Qe he
       have F:r'.length+1<=r.length+1:=(by rw[A,ZqP,ZqK];omega)
       exact Vs fin f g _ r' om om
def docAt (fin:Nat) (found:Option Nd) (l:List Tok):Except PErr Nd:=docGo fin (l.length+1) found l
theorem Zd3 (fin:Nat) (found:Option Nd):docAt fin found []=match found with|none=> .error (fin,8)|some n=> .ok n:=YP _ _ _
theorem Kn (fin:Nat) (found:Option Nd) (t:Tok) (r:List Tok):docAt fin found (t::r)=if t.kind=1/\found.isSome then .error (t.at_,17)
 else if t.kind=2 then .error (t.at_,14)
 else if t.kind=3 then (if blankL t.text=false then .error (t.at_,7) else docAt fin found r)
 else match elemAt fin 1 (t::r) with
  | .error x=> .error x
  | .ok (n,r')=>docAt fin (some n) r':=by
 unfold docAt;rw[Yz];split
 ·rfl
 ·split
  ·rfl
  ·split
   ·split
    ·rfl
    ·exact Vs fin _ _ _ _ (by rw[ZqK];omega) om
   ·cases he:elemAt fin 1 (t::r) with
    |error x=>rfl
    |ok nr=>obtain ⟨n,r'⟩:=nr;obtain ⟨m,A,C,h⟩:=Qe he;have D:r'.length+1<=r.length+1:=(by rw[h,ZqP,ZqK];omega);exact Vs fin _ _ _ _ (by rw[ZqK];omega) om
theorem Js (s:List UInt8):docP s=match toksP s with| .error x=> .error x| .ok l=>docAt s.length none l:=rfl
def txts (l:List Tok):Nat:=(l.map λt=>t.text.length).sum
mutual
def Nd.fits (n:Nat):Nd->Prop
 | .mk k s nm al ks t a=>k<=1/\s.length<=2*n/\nm.length<=n/\al.length<=n/\(∀b∈al,b.fits n)/\ks.length<=n/\t.length<=2*n/\a<=n/\Nds.fits n ks
def Nds.fits (n:Nat):List Nd->Prop
 | []=>True
 |x::t=>x.fits n/\Nds.fits n t
end
theorem Nds.fits_iff {n:Nat}:∀l:List Nd,Nds.fits n l↔∀x∈l,x.fits n
 | []=>by rw[Nds.fits];simp
 |x::t=>by rw[Nds.fits,Nds.fits_iff t];simp
def lastTxt (ks:List Nd) (c:Nat):Prop:=∀k s n al kk u b,ks.getLast? =some (.mk k s n al kk u b)->k=1->u.length<=c
theorem ZeS {n c:Nat} {ks:List Nd} {t:List UInt8} {a:Nat} (S:Nds.fits n ks) (Y:ks.length<n) (R:lastTxt ks c) (Z:c+t.length<=2*n) (O:a<=n):Nds.fits n (addText ks t a)/\(addText ks t a).length<=ks.length+1/\lastTxt (addText ks t a) (c+t.length):=by
 have D:=(Nds.fits_iff ks).1 S;unfold addText;split
 ·rename_i s nm al kk u b H;have U:ks≠ []:=by intro e;rw[e] at H;cases H
  have F:Nd.mk 1 s nm al kk u b∈ks:=List.mem_of_getLast? H;have hu:=R 1 s nm al kk u b H rfl;have C:=D _ F;rw[Nd.fits] at C;refine ⟨(Nds.fits_iff _).2 λx A=> ?_,?_,?_⟩
  ·rcases Zq0.1 A with A|A
   ·exact D x (List.dropLast_subset _ A)
   ·rw[ZqU.1 A,Nd.fits];refine ⟨C.1,C.2.1,C.2.2.1,C.2.2.2.1,C.2.2.2.2.1,C.2.2.2.2.2.1,?_,C.2.2.2.2.2.2.2⟩;rw[ZqG];omega
  ·rw[ZqG,List.length_dropLast];show _+1<=_;omega
  ·intro k' X V al' I u' J h _;rw[Zsa] at h;simp only[Zsh,Option.or] at h;injection h with h;injection h with _ _ _ _ _ e _;rw[<-e,ZqG];omega
 ·refine ⟨(Nds.fits_iff _).2 λx A=> ?_,?_,?_⟩
  ·rcases Zq0.1 A with A|A
   ·exact D x A
   ·rw[ZqU.1 A];unfold charD;rw[Nd.fits];exact ⟨om,by simp,by simp,by simp,(by intro b Q;cases Q),by simp,om,O,by rw[Nds.fits];trivial⟩
  ·rw[ZqG];exact ZqE _
  ·intro k' X V al' I u' J h _;rw[Zsa] at h;simp only[Zsh,Option.or] at h;injection h with h;unfold charD at h;injection h with _ _ _ _ _ e _;rw[<-e];omega
theorem Gh (l:List Tok) (m:Nat):txts (l.drop m)<=txts l:=by
 unfold txts;have h:=ZqS (λl=>(l.map λt:Tok=>t.text.length).sum) (ZrR m l);simp only[Zrf,ZsS] at h;omega
theorem Yg (t:Tok) (l:List Tok):txts (t::l)=t.text.length+txts l:=by unfold txts;simp
theorem Zd6 (fin n:Nat):∀f:Nat,(∀(d:Nat) (l:List Tok) (x:Nd) (r:List Tok),elemP fin f d l= .ok (x,r)->(∀t∈l,t.fits n)->txts l<=2*n->l.length<=n->x.fits n/\x.kind=0)/\
 (∀(d:Nat) (t:Tok) (ks:List Nd) (l:List Tok) (x:Nd) (r:List Tok) (c:Nat),kidsP fin f d t ks l= .ok (x,r)->t.fits n->(∀t∈l,t.fits n)->Nds.fits n ks->lastTxt ks c->c+txts l<=2*n->ks.length+l.length<=n->x.fits n/\x.kind=0)
 |0=>⟨λd l x r h=>(by rw[elemP] at h;cases h),λd t ks l x r c h=>(by rw[kidsP] at h;cases h)⟩
 |f+1=>by
  obtain ⟨Y,J⟩:=Zd6 fin n f;refine ⟨λd l x r h H I D=> ?_,λd t ks l x r c h A H F hc I D=> ?_⟩
  ·cases l with
   |nil=>rw[elemP] at h;cases h
   |cons t l=>
    have A:=H t Zq6;rw[elemP] at h;split at h
    ·cases h
    ·split at h
     ·injection h with h;injection h with R Z;subst R;rw[Nd.fits];exact ⟨⟨om,by simp,A.name,A.cnt,A.attrs,by simp,by simp,A.at_,by rw[Nds.fits];trivial⟩,rfl⟩
     ·refine J d t [] l x r 0 h A (λu V=>H u (Zq7 _ V)) (by rw[Nds.fits];trivial) (by intro _ _ _ _ _ _ _ e;cases e) ?_ ?_
      ·rw[Yg] at I;omega
      ·rw[ZqK] at D;show 0+_<=_;omega
  ·cases l with
   |nil=>rw[kidsP] at h;cases h
   |cons u l=>
    have V:=H u Zq6;have U:∀v∈l,v.fits n:=λv X=>H v (Zq7 _ X);rw[ZqK] at D;rw[Yg] at I;rw[kidsP] at h;split at h
    ·split at h
     ·cases h
     ·injection h with h;injection h with R Z;subst R;rw[Nd.fits];exact ⟨⟨om,by simp,A.name,A.cnt,A.attrs,om,by simp,A.at_,F⟩,rfl⟩
    ·split at h
     ·split at h
      ·cases h
      ·rename_i k r' hk;obtain ⟨m,R,Z,S⟩:=(Ve fin f).1 _ _ _ _ hk;have O:=Y _ _ _ _ hk H (by rw[Yg];omega) (by rw[ZqK];omega);have h6:r'.length+1<=l.length+1:=(by rw[S,ZqP,ZqK];omega);have h7:=Gh (u::l) m;rw[<-S,Yg] at h7;refine J d t _ r' x r 0 h A (λv X=>H v (List.mem_of_mem_drop (by rw[<-S];exact X))) ((Nds.fits_iff _).2 λy Q=> ?_) ?_ om (by rw[ZqG];show _+1+_<=_;omega)
       ·rcases Zq0.1 Q with Q|Q
        ·exact (Nds.fits_iff _).1 F y Q
        ·rw[ZqU.1 Q];exact O.1
       ·intro k' s' n' al' hb u' b' C e1;rw[Zsa] at C;simp only[Zsh,Option.or] at C;injection C with C;have:=O.2;rw[C] at this;have h9:k'=0:=this;omega
     ·have ha:=ZeS (n:=n) (c:=c) (ks:=ks) (t:=u.text) (a:=u.at_) F om hc om V.at_;refine J d t _ l x r (c+u.text.length) h A U ha.1 ha.2.2 om om
theorem Zga {fin n d:Nat} {l r:List Tok} {x:Nd} (h:elemAt fin d l= .ok (x,r)) (A:∀t∈l,t.fits n) (D:txts l<=2*n) (C:l.length<=n):x.fits n/\x.kind=0:=(Zd6 fin n _).1 _ _ _ _ h A D C
theorem Ko {fin n:Nat}:∀(f:Nat) (found:Option Nd) (l:List Tok) (x:Nd),docGo fin f found l= .ok x->(∀y,found=some y->y.fits n/\y.kind=0)->(∀t∈l,t.fits n)->txts l<=2*n->l.length<=n->x.fits n/\x.kind=0
 |0,found,l,x,h,_,_,_,_=>by rw[docGo] at h;cases h
 |f+1,found,[],x,h,hf,_,_,_=>by
  rw[YP] at h
  cases found with
  |none=>cases h
  |some y=>
   injection h with h
   rw[<-h]
   exact hf y rfl
 |f+1,found,t::r,x,h,hf,hl,ht,hn=>by
  have D:=ht
  rw[Yg] at D
  have C:=hn
  rw[ZqK] at C
  rw[Yz] at h
  split at h
  ·cases h
  ·split at h
   ·cases h
   ·split at h
    ·split at h
     ·cases h
     ·exact Ko f found r x h hf (λv F=>hl v (Zq7 _ F)) om om
    ·split at h
     ·cases h
     ·rename_i y r' J
      obtain ⟨m,Q,R,A⟩:=Qe J
      have H:=Zga J hl ht hn
      have O:=Gh (t::r) m
      rw[<-A] at O
      have S:r'.length<=r.length+1:=(by rw[A,ZqP,ZqK];omega)
      exact Ko f (some y) r' x h (by intro z I;injection I with I;rw[<-I];exact H) (λv F=>hl v (List.mem_of_mem_drop (by rw[<-A];exact F))) om om
theorem QO {s:List UInt8} {x:Nd} (h:docP s= .ok x):x.fits s.length/\x.kind=0:=by
 rw[Js] at h;split at h
 ·cases h
 ·rename_i l C;have A:=VJ C;exact Ko _ none l x h (by intro y e;cases e) A.each A.text A.len
theorem KK {l p q:List UInt8} (h:splitL l=some (p,q)):p.length<=l.length/\q.length<=l.length:=by
 unfold splitL at h;dsimp only at h;split at h
 ·split at h
  ·injection h with h;injection h with h1 h2;rw[<-h1,<-h2];exact ⟨(Zr1 _).length_le,by rw[ZqP];omega⟩
  ·cases h
 ·split at h
  ·injection h with h;injection h with h1 h2;rw[<-h1,<-h2];exact ⟨ZqO _,ZqE _⟩
  ·cases h
def Scope.fits (n:Nat) (sc:Scope):Prop:=∀b∈sc,b.2.length<=2*n
theorem Zek {n:Nat} {sc:Scope} {p v:List UInt8} (D:18<=n) (C:Scope.fits n sc) (h:lookL sc p=some v):v.length<=2*n:=by
 unfold lookL at h;split at h
 ·injection h with h;rw[<-h];show 36<=_;omega
 ·split at h
  ·rename_i b A;injection h with h;rw[<-h];exact C b (List.mem_reverse.1 (List.mem_of_find?_eq_some A))
  ·split at h
   ·injection h with h;rw[<-h];exact ZqO _
   ·cases h
def lookTo (sc:Scope) (p:List UInt8) (i:Nat):Option (List UInt8):=
 match (sc.take i).reverse.find? λb=>decide (b.1=p) with
 |some b=>some b.2
 |none=>if p= [] then some [] else none
theorem ZnB {sc:Scope} {p:List UInt8} (h:p≠xmlL):lookL sc p=lookTo sc p sc.length:=by
 unfold lookL lookTo;rw[ZqH h,List.take_length]
 try rfl
theorem Zi8 {sc:Scope} {p:List UInt8} {i:Nat} (A:i<sc.length) (h:sc[i].1=p):lookTo sc p (i+1)=some sc[i].2:=by
 unfold lookTo;rw[ZqQ A,List.reverse_append,List.reverse_singleton,List.singleton_append,List.find?_cons_of_pos (by simpa using h)]
theorem ZgZ {sc:Scope} {p:List UInt8} {i:Nat} (A:i<sc.length) (h:sc[i].1≠p):lookTo sc p (i+1)=lookTo sc p i:=by
 unfold lookTo;rw[ZqQ A,List.reverse_append,List.reverse_singleton,List.singleton_append,List.find?_cons_of_neg (by simpa using h)]
theorem Zg0 (sc:Scope) (p:List UInt8):lookTo sc p 0=if p= [] then some [] else none:=by
 unfold lookTo;rw[List.take_zero];rfl
theorem Vo {n:Nat}:∀(al:List AtP) (sc inner:Scope),declsGo al sc= .ok inner->(∀a∈al,a.fits n)->Scope.fits n sc->Scope.fits n inner/\inner.length<=sc.length+al.length
 | [],sc,inner,h,_,hs=>by
  rw[declsGo] at h
  injection h with h
  rw[<-h]
  exact ⟨hs,om⟩
 |a::t,sc,inner,h,ha,hs=>by
  have C:∀b∈t,b.fits n:=λb A=>ha b (Zq7 _ A)
  rw[declsGo] at h
  split at h
  ·cases h
  ·split at h
   ·split at h
    ·cases h
    ·have:=Vo t _ inner h C (by
      intro b A
      rcases Zq0.1 A with A|A
      ·exact hs b A
      ·rw[ZqU.1 A]
       exact (ha a Zq6).2.2.1)
     rw[ZqG] at this
     rw[ZqK]
     refine ⟨this.1,ZqM this.2 ?_⟩
     show _+1+_<=_
     omega
   ·have:=Vo t sc inner h C hs
    rw[ZqK]
    exact ⟨this.1,om⟩
theorem Qa {x c:Nat}:∀(al:List AtP) (sc:Scope),declsGo al sc= .error (x,c)->c=13
 | [],sc,h=>by rw[declsGo] at h;cases h
 |a::t,sc,h=>by
  rw[declsGo] at h
  split at h
  ·injection h with h;injection h with _ h;exact h.symm
  ·split at h
   ·split at h
    ·injection h with h;injection h with _ h;exact h.symm
    ·exact Qa t _ h
   ·exact Qa t _ h
theorem VY {x c:Nat} (sc:Scope):∀(al out:List AtP),attrsGo sc al out= .error (x,c)->c≠0
 | [],out,h=>by rw[attrsGo] at h;cases h
 |a::t,out,h=>by
  rw[attrsGo] at h
  split at h
  ·exact VY sc t out h
  ·dsimp only at h
   split at h
   ·injection h with h;injection h with _ h;omega
   ·split at h
    ·injection h with h;injection h with _ h;omega
    ·exact VY sc t _ h
theorem Vi {n:Nat} (F:18<=n) {sc:Scope} (H:Scope.fits n sc):∀(al out r:List AtP),attrsGo sc al out= .ok r->(∀a∈al,a.fits n)->(∀a∈out,a.fits n)->(∀a∈r,a.fits n)/\r.length<=out.length+al.length
 | [],out,r,h,_,ho=>by
  rw[attrsGo] at h
  injection h with h
  rw[<-h]
  exact ⟨ho,om⟩
 |a::t,out,r,h,ha,ho=>by
  have C:=ha a Zq6
  have I:∀b∈t,b.fits n:=λb D=>ha b (Zq7 _ D)
  rw[attrsGo] at h
  rw[ZqK]
  split at h
  ·have:=Vi F H t out r h I ho
   exact ⟨this.1,om⟩
  ·dsimp only at h
   split at h
   ·cases h
   ·rename_i sp A
    split at h
    ·cases h
    ·have:=Vi F H t _ r h I (by
      intro b D
      rcases Zq0.1 D with D|D
      ·exact ho b D
      ·rw[ZqU.1 D]
       refine ⟨?_,?_,C.2.2.1,C.2.2.2⟩
       ·show sp.length<=_
        split at A
        ·injection A with A
         rw[<-A]
         exact ZqO _
        ·exact Zek F H A
       ·show ((splitL a.name).getD ([],[])).2.length<=_
        cases hsl:splitL a.name with
        |none=>exact ZqO _
        |some pq=>
         obtain ⟨p,q⟩:=pq
         exact ZqM (KK hsl).2 C.2.1)
     rw[ZqG] at this
     refine ⟨this.1,ZqM this.2 ?_⟩
     show _+1+_<=_
     omega
theorem Zed {n:Nd} {sc:Scope} {x c:Nat} (h:headP n sc= .error (x,c)):c≠0:=by
 unfold headP at h;split at h
 ·injection h with h;injection h with _ h;omega
 ·split at h
  ·injection h with h;injection h with _ h;omega
  ·split at h
   ·rename_i y A;obtain ⟨y1,y2⟩:=y;have:=Qa _ _ A;injection h with h;injection h with _ h;omega
   ·split at h
    ·injection h with h;injection h with _ h;omega
    ·split at h
     ·rename_i y A;obtain ⟨y1,y2⟩:=y;have:=VY _ _ _ A;injection h with h;injection h with _ h;omega
     ·cases h
theorem ZiA {N:Nat} (Q:18<=N) {n:Nd} {sc inner:Scope} {sp l:List UInt8} {al:List AtP} (h:headP n sc= .ok (sp,l,al,inner)) (A:n.fits N) (U:Scope.fits N sc):
 sp.length<=2*N/\l.length<=N/\al.length<=N/\(∀a∈al,a.fits N)/\Scope.fits N inner/\inner.length<=sc.length+N:=by
 cases n with
 |mk k s nm at0 ks t a=>
  rw[Nd.fits] at A;unfold headP at h;simp only[Nd.name,Nd.attrs,Nd.at_] at h;split at h
  ·cases h
  ·rename_i p q I;split at h
   ·cases h
   ·split at h
    ·cases h
    ·rename_i J F;have C:=Vo at0 sc J F A.2.2.2.2.1 U;split at h
     ·cases h
     ·rename_i V H;split at h
      ·cases h
      ·rename_i al' D;injection h with h;injection h with e1 h;injection h with e2 h;injection h with e3 e4;subst e1;subst e2;subst e3;subst e4;have O:=Vi Q C.1 at0 [] al' D A.2.2.2.2.1 (by intro b S;cases S);have X:=A.2.2.2.1;refine ⟨Zek Q C.1 H,ZqM (KK I).2 A.2.2.1,?_,O.1,C.1,om⟩;have R:=O.2;simp only[Zq5] at R;omega
mutual
theorem ZcX {x c:Nat}:∀(n:Nd) (sc:Scope),resP n sc= .error (x,c)->c≠0
 | .mk k s n al ks t a,sc,h=>by
  rw[resP] at h
  split at h
  ·rename_i y hy
   obtain ⟨y1,y2⟩:=y
   have:=Zed hy
   injection h with h;injection h with _ h;omega
  ·split at h
   ·rename_i y hy
    obtain ⟨y1,y2⟩:=y
    have:=Za6 ks _ hy
    injection h with h;injection h with _ h;omega
   ·cases h
theorem Za6 {x c:Nat}:∀(ks:List Nd) (sc:Scope),resKids ks sc= .error (x,c)->c≠0
 | [],sc,h=>by rw[resKids] at h;cases h
 |k::t,sc,h=>by
  rw[resKids] at h
  split at h
  ·rename_i y hy
   obtain ⟨y1,y2⟩:=y
   injection h with h
   injection h with e1 e2
   split at hy
   ·have:=ZcX k sc hy
    omega
   ·cases hy
  ·split at h
   ·rename_i y hy
    obtain ⟨y1,y2⟩:=y
    have:=Za6 t sc hy
    injection h with h;injection h with _ h;omega
   ·cases h
end
mutual
theorem ZeD {N:Nat} (hN:18<=N):∀(n m:Nd) (sc:Scope),resP n sc= .ok m->n.fits N->Scope.fits N sc->m.fits N/\m.kind=0
 | .mk k s n al ks t a,m,sc,h,hn,hs=>by
  rw[resP] at h
  split at h
  ·cases h
  ·rename_i sp l al' inner hh
   have h1:=ZiA hN hh hn hs
   rw[Nd.fits] at hn
   split at h
   ·cases h
   ·rename_i ks' hk
    have h2:=Eb hN ks ks' inner hk hn.2.2.2.2.2.2.2.2 h1.2.2.2.2.1
    injection h with h
    subst h
    rw[Nd.fits]
    exact ⟨⟨by omega,h1.1,h1.2.1,h1.2.2.1,h1.2.2.2.1,by rw[h2.2];exact hn.2.2.2.2.2.1,by simp,hn.2.2.2.2.2.2.2.1,h2.1⟩,rfl⟩
theorem Eb {N:Nat} (hN:18<=N):∀(ks r:List Nd) (sc:Scope),resKids ks sc= .ok r->Nds.fits N ks->Scope.fits N sc->Nds.fits N r/\r.length=ks.length
 | [],r,sc,h,_,_=>by
  rw[resKids] at h
  injection h with h
  subst h
  exact ⟨by rw[Nds.fits];trivial,rfl⟩
 |k::t,r,sc,h,hk,hs=>by
  rw[Nds.fits] at hk
  rw[resKids] at h
  split at h
  ·cases h
  ·rename_i k' hk'
   split at h
   ·cases h
   ·rename_i t' ht'
    injection h with h
    subst h
    have h2:=Eb hN t t' sc ht' hk.2 hs
    refine ⟨?_,by rw[ZqK,ZqK,h2.2]⟩
    rw[Nds.fits]
    refine ⟨?_,h2.1⟩
    split at hk'
    ·exact (ZeD hN k k' sc hk' hk.1 hs).1
    ·injection hk' with hk'
     rw[<-hk']
     exact hk.1
end
end Go.Proofs.YtmfinhgobjbecaaGreatDoor
