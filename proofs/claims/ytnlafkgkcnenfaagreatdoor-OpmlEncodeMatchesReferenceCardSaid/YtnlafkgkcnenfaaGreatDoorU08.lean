/- Parts of the proof: contracts and plain laws. -/
import Derived.Test.YtnlafkgkcnenfaaGreatDoorU07
namespace Go.Proofs.YtnlafkgkcnenfaaGreatDoor
open Go Go.RowKit _root_.Go.Proofs.Tryz
set_option linter.unusedVariables false
set_option linter.unusedSimpArgs false
set_option maxRecDepth 100000
set_option maxHeartbeats 16000000
theorem BxT.alloc0 (w:Wq) (x:Tc):BxT (w.alloc (.cells (cellsT x).toArray 111)) w.heap.size x:=Zg w _
theorem RAts.grown {w w':Wq} {v:Value} {l:List AtP} {r:Option Nat} (h:RAts w v l) (D:w.grownBy w' r) (H:∀g,v.ownBlock=some g->r≠some g):RAts w' v l:=by
 by_cases F:flatA l= []
 ·exact RSl.grown h D (Or.inl F)
 ·obtain ⟨g,A,_⟩:=RSl.old h F;exact RSl.grown h D (Or.inr (by rw[A];exact λe=>H g A e.symm))
theorem RAts.one {w:Wq} {v:Value} {l:List AtP} (h:RAts w v l):v.oneCell'=true:=by
 obtain ⟨A,c,e,_⟩:=h.form;rw[e];rfl
theorem Zaf (s:ByteArray) (f:Nat) (w:Wq) (hs:s.size<=80000000000) (hf:f<s.size):
 Calls prog 99 #[.string s,nI (f:Nat)] w λe w'=>∃v,e= .returned v/\TokRet w.heap.size w' v (constructP s.data.toList f)/\Ext w w':=by
 have hr:s.size<=maxLen:=by unfold maxLen;omega
 have he:=ZN s;obtain ⟨R,D⟩:∃R,constructP s.data.toList f=R:=⟨_,rfl⟩;rw[D];unfold constructP at D;have F:=gd (BxT.alloc0 w (nilT 0 0));have ha:=gd ((Ext.refl w).alloc (.cells (cellsT (nilT 0 0)).toArray 111));have K:=gd (λw'=>Y6 s [60,63] f w' hs om (by decide) (by decide));have Q:=gd (λw'=>Y6 s [60,33,45,45] f w' hs om (by decide) (by decide));have S:=gd (λw'=>Y6 s [60,33,91,67,68,65,84,65,91] f w' hs om (by decide) (by decide));have U:=gd (λw'=>Y6 s [60,33,68,79,67,84,89,80,69] f w' hs om (by decide) (by decide));have V:=gd (λw'=>Y6 s [60,33] f w' hs om (by decide) (by decide));have X:=gd (λw'=>Y6 s [60,47] f w' hs om (by decide) (by decide));have Y:=gd (λw'=>Y6 s [60] f w' hs om (by decide) (by decide));cases hh0:hasAt s.data.toList f [60,63];rw[hh0,Ze (by simp)] at D;rw[hh0] at K;cases hh1:hasAt s.data.toList f [60,33,45,45];rw[hh1,Ze (by simp)] at D;rw[hh1] at Q;cases hh2:hasAt s.data.toList f [60,33,91,67,68,65,84,65,91];rw[hh2,Ze (by simp)] at D;rw[hh2] at S;cases hh3:hasAt s.data.toList f [60,33,68,79,67,84,89,80,69];rw[hh3,Ze (by simp)] at D;rw[hh3] at U;cases hh4:hasAt s.data.toList f [60,33];rw[hh4,Ze (by simp)] at D;rw[hh4] at V;cases hh5:hasAt s.data.toList f [60,47];rw[hh5,Ze (by simp)] at D;rw[hh5] at X;cases hh6:hasAt s.data.toList f [60];rw[hh6,Ze (by simp)] at D;rw[hh6] at Y;have hl:=ZbY (by rw[he];exact hf) hh6;dsimp only at D;obtain ⟨z,hz⟩:∃z,(findAt s.data.toList f [60]).getD s.data.toList.length=z:=⟨_,rfl⟩;rw[hz] at D hl;rw[he] at hl hz;have hb:=λw'=>I3 s [60] f w' hs om (by decide) (by decide);have J:=λw'=>GF s f z false w' hs om hl.2;clear hh0 hh1 hh2 hh3 hh4 hh5 hh6;cases hcp:contP false s.data.toList f z
 ·rename_i xc;obtain ⟨x,c⟩:=xc;rw[hcp] at D J;dsimp only at D;subst D;have HC:=gd J;clear hcp J;cases hfi:findAt s.data.toList f [60];rw[hfi] at hb hz;dsimp only[Option.getD] at hz hb;subst hz
  rotate_left
  rename_i i;rw[hfi] at hb hz;dsimp only[Option.getD] at hz hb;subst hz;have hp:¬(i:Int)<0:=om
  all_goals
   have HF:=gd hb
   clear hfi hb
   go_enter func99,ntmps99
   go_wp2_with (first|(go_at_call 98;(first|(with_reducible refine Za (K.out _) ?_)|(with_reducible refine Za (Q.out _) ?_)|(with_reducible refine Za (S.out _) ?_)|(with_reducible refine Za (U.out _) ?_)|(with_reducible refine Za (V.out _) ?_)|(with_reducible refine Za (X.out _) ?_)|(with_reducible refine Za (Y.out _) ?_));rintro e w3 ⟨rfl,rfl⟩)|(go_at_call 145;refine Za (HF.out _) ?_;rintro e w3 ⟨rfl,rfl⟩)|(go_at_call 146;refine Za (HC.out _) ?_;rintro e w4 ⟨rfl,I⟩;simp only[contAns];have H:=F.out.ext I)|(refine Zf rfl 111 (.tmp 4) (.tmp 116) rfl w.heap.size _ rfl rfl _ _ H Ye rfl (XE ⟨sN,dataT [] f⟩ rfl) ?_))
   ((try simp only[Exit.inBlock,Exit.then]);refine ZD (ZI rfl _ _ _ _ _ _ _ rfl (ZF _ _ _ _ _ _ H) underlying111 rfl Ye) rfl ?_)
   exact ⟨_,rfl,⟨⟨sN,dataT [] f⟩,rfl,rfl⟩,(ha.out.trans I).setRow (Zc _) _⟩
 rename_i v;rw[hcp] at D J;dsimp only at D;subst D;have HC:=gd J;clear hcp J;cases hfi:findAt s.data.toList f [60];rw[hfi] at hb hz;dsimp only[Option.getD] at hz hb;subst hz
 rotate_left
 rename_i i;rw[hfi] at hb hz;dsimp only[Option.getD] at hz hb;subst hz;have hp:¬(i:Int)<0:=om
 rotate_left
 ·rw[hh6,Zi rfl] at D;rw[hh6] at Y;have Z:f+1<=s.size:=by have:=XT hh6;rw[he] at this;simpa using this
  have J:=λw'=>ZfH s f w' hs Z;rw[D] at J;clear hh0 hh1 hh2 hh3 hh4 hh5 hh6;cases R with
  |error xc=>
   obtain ⟨x,c⟩:=xc;clear D;have HC:=gd J;clear J;go_enter func99,ntmps99
   go_wp2_with (first|(go_at_call 98;(first|(with_reducible refine Za (K.out _) ?_)|(with_reducible refine Za (Q.out _) ?_)|(with_reducible refine Za (S.out _) ?_)|(with_reducible refine Za (U.out _) ?_)|(with_reducible refine Za (V.out _) ?_)|(with_reducible refine Za (X.out _) ?_)|(with_reducible refine Za (Y.out _) ?_));rintro e w3 ⟨rfl,rfl⟩)|(go_at_call 144;refine Za (HC.out _) ?_;rintro e w4 ⟨v4,rfl,⟨x4,rfl,hk⟩,I⟩;have H:=F.out.ext I)|(refine Zf rfl 111 (.tmp 4) (.tmp 96) rfl w.heap.size _ rfl rfl _ _ H Ye rfl (XE x4 hk) ?_))
   ((try simp only[Exit.inBlock,Exit.then]);refine ZD (ZI rfl _ _ _ _ _ _ _ rfl (ZF _ _ _ _ _ _ H) underlying111 rfl Ye) rfl ?_);exact ⟨_,rfl,⟨x4,rfl,hk⟩,(ha.out.trans I).setRow (Zc _) _⟩
  |ok tn=>
   obtain ⟨t,n⟩:=tn;clear D;have HC:=gd J;clear J;go_enter func99,ntmps99
   go_wp2_with (first|(go_at_call 98;(first|(with_reducible refine Za (K.out _) ?_)|(with_reducible refine Za (Q.out _) ?_)|(with_reducible refine Za (S.out _) ?_)|(with_reducible refine Za (U.out _) ?_)|(with_reducible refine Za (V.out _) ?_)|(with_reducible refine Za (X.out _) ?_)|(with_reducible refine Za (Y.out _) ?_));rintro e w3 ⟨rfl,rfl⟩)|(go_at_call 144;refine Za (HC.out _) ?_;rintro e w4 ⟨v4,rfl,⟨hj,rfl,hi,hh⟩,I⟩;have H:=F.out.ext I)|(refine Zf rfl 111 (.tmp 4) (.tmp 96) rfl w.heap.size _ rfl rfl _ _ H Ye rfl (XE ⟨hj,t⟩ hi.one) ?_))
   ((try simp only[Exit.inBlock,Exit.then]);refine ZD (ZI rfl _ _ _ _ _ _ _ rfl (ZF _ _ _ _ _ _ H) underlying111 rfl Ye) rfl ?_);exact ⟨_,rfl,⟨hj,rfl,RAts.grown hi (Yx _ _ _) (λg hg e=>by injection e with e;have:=hh g hg;rw[Zu] at this;omega),(λg hg=>by have:=hh g hg;rw[Zu] at this;omega)⟩,(ha.out.trans I).setRow (Zc _) _⟩
 ·rw[hh5,Zi rfl] at D;rw[hh5] at X;have Z:f+2<=s.size:=by have:=XT hh5;rw[he] at this;simpa using this
  have J:=λw'=>Zjp s f w' hs Z;rw[D] at J;clear hh0 hh1 hh2 hh3 hh4 hh5;cases R with
  |error xc=>
   obtain ⟨x,c⟩:=xc;clear D;have HC:=gd J;clear J;go_enter func99,ntmps99
   go_wp2_with (first|(go_at_call 98;(first|(with_reducible refine Za (K.out _) ?_)|(with_reducible refine Za (Q.out _) ?_)|(with_reducible refine Za (S.out _) ?_)|(with_reducible refine Za (U.out _) ?_)|(with_reducible refine Za (V.out _) ?_)|(with_reducible refine Za (X.out _) ?_)|(with_reducible refine Za (Y.out _) ?_));rintro e w3 ⟨rfl,rfl⟩)|(go_at_call 143;refine Za (HC.out _) ?_;rintro e w4 ⟨v4,rfl,⟨x4,rfl,hk⟩,I⟩;have H:=F.out.ext I)|(refine Zf rfl 111 (.tmp 4) (.tmp 86) rfl w.heap.size _ rfl rfl _ _ H Ye rfl (XE x4 hk) ?_))
   ((try simp only[Exit.inBlock,Exit.then]);refine ZD (ZI rfl _ _ _ _ _ _ _ rfl (ZF _ _ _ _ _ _ H) underlying111 rfl Ye) rfl ?_);exact ⟨_,rfl,⟨x4,rfl,hk⟩,(ha.out.trans I).setRow (Zc _) _⟩
  |ok tn=>
   obtain ⟨t,n⟩:=tn;clear D;have HC:=gd J;clear J;go_enter func99,ntmps99
   go_wp2_with (first|(go_at_call 98;(first|(with_reducible refine Za (K.out _) ?_)|(with_reducible refine Za (Q.out _) ?_)|(with_reducible refine Za (S.out _) ?_)|(with_reducible refine Za (U.out _) ?_)|(with_reducible refine Za (V.out _) ?_)|(with_reducible refine Za (X.out _) ?_)|(with_reducible refine Za (Y.out _) ?_));rintro e w3 ⟨rfl,rfl⟩)|(go_at_call 143;refine Za (HC.out _) ?_;rintro e w4 ⟨v4,rfl,⟨hj,rfl,hi,hh⟩,I⟩;have H:=F.out.ext I)|(refine Zf rfl 111 (.tmp 4) (.tmp 86) rfl w.heap.size _ rfl rfl _ _ H Ye rfl (XE ⟨hj,t⟩ hi.one) ?_))
   ((try simp only[Exit.inBlock,Exit.then]);refine ZD (ZI rfl _ _ _ _ _ _ _ rfl (ZF _ _ _ _ _ _ H) underlying111 rfl Ye) rfl ?_);exact ⟨_,rfl,⟨hj,rfl,RAts.grown hi (Yx _ _ _) (λg hg e=>by injection e with e;have:=hh g hg;rw[Zu] at this;omega),(λg hg=>by have:=hh g hg;rw[Zu] at this;omega)⟩,(ha.out.trans I).setRow (Zc _) _⟩
 ·rw[hh4,Zi rfl] at D;rw[hh4] at V;subst D;clear hh0 hh1 hh2 hh3 hh4;go_enter func99,ntmps99
  go_wp2_with (first|(go_at_call 98;(first|(with_reducible refine Za (K.out _) ?_)|(with_reducible refine Za (Q.out _) ?_)|(with_reducible refine Za (S.out _) ?_)|(with_reducible refine Za (U.out _) ?_)|(with_reducible refine Za (V.out _) ?_)|(with_reducible refine Za (X.out _) ?_)|(with_reducible refine Za (Y.out _) ?_));rintro e w3 ⟨rfl,rfl⟩)|(refine Zf rfl 111 (.tmp 4) (.tmp 77) rfl w.heap.size _ rfl rfl _ _ F.out Ye rfl (XE (nilT 0 0) rfl) ?_))
  ((try simp only[Exit.inBlock,Exit.then]);refine ZD (ZI rfl _ _ _ _ _ _ _ rfl (ZF _ _ _ _ _ _ F.out) underlying111 rfl Ye) rfl ?_);exact ⟨_,rfl,⟨nilT 0 0,rfl,rfl⟩,ha.out.setRow (Zc _) _⟩
 ·rw[hh3,Zi rfl] at D;rw[hh3] at U;subst D;clear hh0 hh1 hh2 hh3;go_enter func99,ntmps99
  go_wp2_with (first|(go_at_call 98;(first|(with_reducible refine Za (K.out _) ?_)|(with_reducible refine Za (Q.out _) ?_)|(with_reducible refine Za (S.out _) ?_)|(with_reducible refine Za (U.out _) ?_)|(with_reducible refine Za (V.out _) ?_)|(with_reducible refine Za (X.out _) ?_)|(with_reducible refine Za (Y.out _) ?_));rintro e w3 ⟨rfl,rfl⟩)|(refine Zf rfl 111 (.tmp 4) (.tmp 71) rfl w.heap.size _ rfl rfl _ _ F.out Ye rfl (XE (nilT 0 0) rfl) ?_))
  ((try simp only[Exit.inBlock,Exit.then]);refine ZD (ZI rfl _ _ _ _ _ _ _ rfl (ZF _ _ _ _ _ _ F.out) underlying111 rfl Ye) rfl ?_);exact ⟨_,rfl,⟨nilT 0 0,rfl,rfl⟩,ha.out.setRow (Zc _) _⟩
 ·rw[hh2,Zi rfl] at D;rw[hh2] at S;have Z:f+9<=s.size:=by have:=XT hh2;rw[he] at this;simpa using this
  have A:=λw'=>GJ s f [60,33,91,67,68,65,84,65,91] [93,93,62] w' hs Z (by decide) (by decide);rw[show ([60,33,91,67,68,65,84,65,91]:List UInt8).length=9 from rfl] at A;cases hsk:skipP s.data.toList f 9 [93,93,62] with
  |error xc=>
   obtain ⟨x,c⟩:=xc;rw[hsk] at D A;dsimp only at D A;subst D;have hc:=Vl hsk;have hd:=gd A;obtain ⟨rfl,rfl⟩:=hc;clear hsk A hh0 hh1 hh2;go_enter func99,ntmps99
   go_wp2_with (first|(go_at_call 98;(first|(with_reducible refine Za (K.out _) ?_)|(with_reducible refine Za (Q.out _) ?_)|(with_reducible refine Za (S.out _) ?_)|(with_reducible refine Za (U.out _) ?_)|(with_reducible refine Za (V.out _) ?_)|(with_reducible refine Za (X.out _) ?_)|(with_reducible refine Za (Y.out _) ?_));rintro e w3 ⟨rfl,rfl⟩)|(go_at_call 141;refine Za (hd.out _) ?_;rintro e w3 ⟨rfl,rfl⟩)|(refine Zf rfl 111 (.tmp 4) (.tmp 54) rfl w.heap.size _ rfl rfl _ _ F.out Ye rfl (XE (nilT 0 0) rfl) ?_))
   ((try simp only[Exit.inBlock,Exit.then]);refine ZD (ZI rfl _ _ _ _ _ _ _ rfl (ZF _ _ _ _ _ _ F.out) underlying111 rfl Ye) rfl ?_);exact ⟨_,rfl,⟨nilT 0 0,rfl,rfl⟩,ha.out.setRow (Zc _) _⟩
  |ok z=>
   have hn:=Ea (by rw[he];exact Z) hsk;rw[he] at hn;have hq:f+9+3<=z:=hn.1;rw[hsk] at D A;dsimp only at D A;subst D;have hd:=gd A;obtain ⟨L,hL⟩:∃L,(s.data.toList.drop (f+9)).take (z - 3 - (f+9))=L:=⟨_,rfl⟩;have ht:=Zam s (f+9) (z - 3) ((f:Int)+9) ((z:Int) - 3) L om om om om hL;have ho:L.length<=s.size:=(by rw[<-hL,ZM,Zk];omega);rw[hL];have hm:=gd (λw'=>I5 (str L) w' (by rw[YN];omega));rw[Z3] at hm;clear hL hsk ho A hh0 hh1 hh2;go_enter func99,ntmps99
   go_wp2_with (first|(go_at_call 98;(first|(with_reducible refine Za (K.out _) ?_)|(with_reducible refine Za (Q.out _) ?_)|(with_reducible refine Za (S.out _) ?_)|(with_reducible refine Za (U.out _) ?_)|(with_reducible refine Za (V.out _) ?_)|(with_reducible refine Za (X.out _) ?_)|(with_reducible refine Za (Y.out _) ?_));rintro e w3 ⟨rfl,rfl⟩)|(go_at_call 141;refine Za (hd.out _) ?_;rintro e w3 ⟨rfl,rfl⟩)|(go_at_call 142;refine Za (hm.out _) ?_;rintro e w4 ⟨rfl,I⟩;have H:=F.out.ext I)|(refine Zf rfl 111 (.tmp 4) (.tmp 65) rfl w.heap.size _ rfl rfl _ _ H Ye rfl (XE ⟨sN,dataT (lns L) f⟩ rfl) ?_))
   ((try simp only[Exit.inBlock,Exit.then]);refine ZD (ZI rfl _ _ _ _ _ _ _ rfl (ZF _ _ _ _ _ _ H) underlying111 rfl Ye) rfl ?_);exact ⟨_,rfl,⟨_,rfl,RAts.nil _,(by intro g h;cases h)⟩,(ha.out.trans I).setRow (Zc _) _⟩
 ·rw[hh1,Zi rfl] at D;rw[hh1] at Q;have Z:f+4<=s.size:=by have:=XT hh1;rw[he] at this;simpa using this
  have A:=λw'=>GJ s f [60,33,45,45] [45,45,62] w' hs Z (by decide) (by decide);rw[show ([60,33,45,45]:List UInt8).length=4 from rfl] at A;cases hsk:skipP s.data.toList f 4 [45,45,62] with
  |error xc=>
   obtain ⟨x,c⟩:=xc;rw[hsk] at D A;dsimp only at D A;subst D;have hc:=Vl hsk;have hd:=gd A;clear hsk hc A hh0 hh1;go_enter func99,ntmps99
   go_wp2_with (first|(go_at_call 98;(first|(with_reducible refine Za (K.out _) ?_)|(with_reducible refine Za (Q.out _) ?_)|(with_reducible refine Za (S.out _) ?_)|(with_reducible refine Za (U.out _) ?_)|(with_reducible refine Za (V.out _) ?_)|(with_reducible refine Za (X.out _) ?_)|(with_reducible refine Za (Y.out _) ?_));rintro e w3 ⟨rfl,rfl⟩)|(go_at_call 141;refine Za (hd.out _) ?_;rintro e w3 ⟨rfl,rfl⟩)|(refine Zf rfl 111 (.tmp 4) (.tmp 39) rfl w.heap.size _ rfl rfl _ _ F.out Ye rfl (XE (nilT 3 0) rfl) ?_))
   ((try simp only[Exit.inBlock,Exit.then]);refine ZD (ZI rfl _ _ _ _ _ _ _ rfl (ZF _ _ _ _ _ _ F.out) underlying111 rfl Ye) rfl ?_);exact ⟨_,rfl,⟨nilT 3 0,rfl,rfl⟩,ha.out.setRow (Zc _) _⟩
  |ok to_=>
   rw[hsk] at D A;dsimp only at D A;subst D;have hd:=gd A;clear hsk A hh0 hh1;go_enter func99,ntmps99
   go_wp2_with (first|(go_at_call 98;(first|(with_reducible refine Za (K.out _) ?_)|(with_reducible refine Za (Q.out _) ?_)|(with_reducible refine Za (S.out _) ?_)|(with_reducible refine Za (U.out _) ?_)|(with_reducible refine Za (V.out _) ?_)|(with_reducible refine Za (X.out _) ?_)|(with_reducible refine Za (Y.out _) ?_));rintro e w3 ⟨rfl,rfl⟩)|(go_at_call 141;refine Za (hd.out _) ?_;rintro e w3 ⟨rfl,rfl⟩)|(refine Zf rfl 111 (.tmp 4) (.tmp 39) rfl w.heap.size _ rfl rfl _ _ F.out Ye rfl (XE (nilT 3 0) rfl) ?_))
   ((try simp only[Exit.inBlock,Exit.then]);refine ZD (ZI rfl _ _ _ _ _ _ _ rfl (ZF _ _ _ _ _ _ F.out) underlying111 rfl Ye) rfl ?_);exact ⟨_,rfl,⟨_,rfl,RAts.nil _,(by intro g h;cases h)⟩,ha.out.setRow (Zc _) _⟩
 ·rw[hh0,Zi rfl] at D;rw[hh0] at K;have Z:f+2<=s.size:=by have:=XT hh0;rw[he] at this;simpa using this
  have A:=λw'=>GJ s f [60,63] [63,62] w' hs Z (by decide) (by decide);rw[show ([60,63]:List UInt8).length=2 from rfl] at A;cases hsk:skipP s.data.toList f 2 [63,62] with
  |error xc=>
   obtain ⟨x,c⟩:=xc;rw[hsk] at D A;dsimp only at D A;subst D;have hc:=Vl hsk;have hd:=gd A;clear hsk hc A hh0;go_enter func99,ntmps99
   go_wp2_with (first|(go_at_call 98;(first|(with_reducible refine Za (K.out _) ?_)|(with_reducible refine Za (Q.out _) ?_)|(with_reducible refine Za (S.out _) ?_)|(with_reducible refine Za (U.out _) ?_)|(with_reducible refine Za (V.out _) ?_)|(with_reducible refine Za (X.out _) ?_)|(with_reducible refine Za (Y.out _) ?_));rintro e w3 ⟨rfl,rfl⟩)|(go_at_call 141;refine Za (hd.out _) ?_;rintro e w3 ⟨rfl,rfl⟩)|(refine Zf rfl 111 (.tmp 4) (.tmp 26) rfl w.heap.size _ rfl rfl _ _ F.out Ye rfl (XE (nilT 3 0) rfl) ?_))
   ((try simp only[Exit.inBlock,Exit.then]);refine ZD (ZI rfl _ _ _ _ _ _ _ rfl (ZF _ _ _ _ _ _ F.out) underlying111 rfl Ye) rfl ?_);exact ⟨_,rfl,⟨nilT 3 0,rfl,rfl⟩,ha.out.setRow (Zc _) _⟩
  |ok to_=>
   rw[hsk] at D A;dsimp only at D A;subst D;have hd:=gd A;clear hsk A hh0;go_enter func99,ntmps99
   go_wp2_with (first|(go_at_call 98;(first|(with_reducible refine Za (K.out _) ?_)|(with_reducible refine Za (Q.out _) ?_)|(with_reducible refine Za (S.out _) ?_)|(with_reducible refine Za (U.out _) ?_)|(with_reducible refine Za (V.out _) ?_)|(with_reducible refine Za (X.out _) ?_)|(with_reducible refine Za (Y.out _) ?_));rintro e w3 ⟨rfl,rfl⟩)|(go_at_call 141;refine Za (hd.out _) ?_;rintro e w3 ⟨rfl,rfl⟩)|(refine Zf rfl 111 (.tmp 4) (.tmp 26) rfl w.heap.size _ rfl rfl _ _ F.out Ye rfl (XE (nilT 3 0) rfl) ?_))
   ((try simp only[Exit.inBlock,Exit.then]);refine ZD (ZI rfl _ _ _ _ _ _ _ rfl (ZF _ _ _ _ _ _ F.out) underlying111 rfl Ye) rfl ?_);exact ⟨_,rfl,⟨_,rfl,RAts.nil _,(by intro g h;cases h)⟩,ha.out.setRow (Zc _) _⟩
 all_goals
  have HF:=gd hb
  clear hfi hb
  go_enter func99,ntmps99
  go_wp2_with (first|(go_at_call 98;(first|(with_reducible refine Za (K.out _) ?_)|(with_reducible refine Za (Q.out _) ?_)|(with_reducible refine Za (S.out _) ?_)|(with_reducible refine Za (U.out _) ?_)|(with_reducible refine Za (V.out _) ?_)|(with_reducible refine Za (X.out _) ?_)|(with_reducible refine Za (Y.out _) ?_));rintro e w3 ⟨rfl,rfl⟩)|(go_at_call 145;refine Za (HF.out _) ?_;rintro e w3 ⟨rfl,rfl⟩)|(go_at_call 146;refine Za (HC.out _) ?_;rintro e w4 ⟨rfl,I⟩;simp only[contAns];have H:=F.out.ext I)|(refine Zf rfl 111 (.tmp 4) (.tmp 116) rfl w.heap.size _ rfl rfl _ _ H Ye rfl (XE ⟨sN,dataT v f⟩ rfl) ?_))
  ((try simp only[Exit.inBlock,Exit.then]);refine ZD (ZI rfl _ _ _ _ _ _ _ rfl (ZF _ _ _ _ _ _ H) underlying111 rfl Ye) rfl ?_)
  exact ⟨_,rfl,⟨_,rfl,RAts.nil _,(by intro g h;cases h)⟩,(ha.out.trans I).setRow (Zc _) _⟩
section
variable {g n:Nat} {v:Value} {w:World} {xs:List Value}
def Nc.kind:Nc->Nat| .mk k _ _ _ _ _ _ _ _=>k
def Nc.space:Nc->List UInt8| .mk _ s _ _ _ _ _ _ _=>s
def Nc.name:Nc->List UInt8| .mk _ _ n _ _ _ _ _ _=>n
def Nc.text:Nc->List UInt8| .mk _ _ _ _ _ _ _ t _=>t
def Nc.at_:Nc->Nat| .mk _ _ _ _ _ _ _ _ a=>a
theorem Eo (x:Nc):cellsN x= [nI (x.kind:Nat),.string (str x.space),.string (str x.name),x.al,x.ks,.string (str x.text),nI (x.at_:Nat)]:=by cases x;rfl
theorem J0 (x:Nc):(cellsN x).length=7:=by cases x;rfl
theorem Je:∀l:List Nc,Nc.nds l=l.map Nc.nd
 | []=>by rw[Nc.nds];rfl
 |x::t=>by rw[Nc.nds,Je t];rfl
theorem JY (a b:List Nc):Nc.nds (a++b)=Nc.nds a++Nc.nds b:=by rw[Je,Je,Je,ZS]
theorem Jw (l:List Nc):(Nc.nds l).length=l.length:=by rw[Je,Zq]
theorem Zfr (x:Nc):x.nd.kind=x.kind:=by cases x;rw[Nc.nd];rfl
theorem Vf (a b:List Nc):flatN (a++b)=flatN a++flatN b:=by unfold flatN;rw[ZS,UZ]
theorem Vg (x:Nc):flatN [x]=cellsN x:=by unfold flatN;simp
theorem ZkM:flatN []= []:=rfl
theorem Zb4 {l:List Nc} (h:l≠ []):flatN l≠ []:=by
 cases l with
 |nil=>exact absurd rfl h
 |cons x t=>unfold flatN;rw[Zw,Um,Eo];simp
theorem Qg {l:List AtP} (h:l≠ []):flatA l≠ []:=by
 cases l with
 |nil=>exact absurd rfl h
 |cons x t=>unfold flatA;rw[Zw,Um];unfold cellsA;simp
theorem XC {w:Wq}:∀l:List Nc,RdNs w l↔∀x∈l,RdN w x
 | []=>by rw[RdNs];simp
 |x::t=>by rw[RdNs,XC t];simp
mutual
theorem RdN.ext {w w':Wq} (hx:Ext w w'):∀x:Nc,RdN w x->RdN w' x
 | .mk k s n al l ks kids t a,h=>by
  rw[RdN] at h|-
  exact ⟨h.1.ext hx,h.2.1.ext hx,RdNs.ext hx kids h.2.2⟩
theorem RdNs.ext {w w':Wq} (hx:Ext w w'):∀l:List Nc,RdNs w l->RdNs w' l
 | [],h=>by rw[RdNs];trivial
 |x::t,h=>by
  rw[RdNs] at h|-
  exact ⟨RdN.ext hx x h.1,RdNs.ext hx t h.2⟩
end
def awayV (v:Value) (n:Nat) (r:Option Nat):Prop:=n=0\/v.ownBlock≠r
mutual
def awayN (r:Option Nat):Nc->Prop
 | .mk _ _ _ al l ks kids _ _=>awayV al l.length r/\awayV ks kids.length r/\awayNs r kids
def awayNs (r:Option Nat):List Nc->Prop
 | []=>True
 |x::t=>awayN r x/\awayNs r t
end
theorem Yr {r:Option Nat}:∀l:List Nc,awayNs r l↔∀x∈l,awayN r x
 | []=>by rw[awayNs];simp
 |x::t=>by rw[awayNs,Yr t];simp
theorem It {size:Nat} {r:Option Nat} (h:RSl w size v n xs) (A:n=0\/xs≠ []) (H:∀g,r=some g->w.heap.size<=g):awayV v n r:=by
 rcases A with A|A
 ·exact Or.inl A
 ·obtain ⟨k,D,F⟩:=RSl.old h A;refine Or.inr ?_;rw[D];intro e;have:=H k e.symm;omega
mutual
theorem Is {w:Wq} {r:Option Nat} (hr:∀g,r=some g->w.heap.size<=g):∀x:Nc,RdN w x->awayN r x
 | .mk k s n al l ks kids t a,h=>by
  rw[RdN] at h
  rw[awayN]
  refine ⟨It h.1 ?_ hr,It h.2.1 ?_ hr,GY hr kids h.2.2⟩
  ·by_cases hl:l= []
   ·exact Or.inl (by rw[hl];rfl)
   ·exact Or.inr (Qg hl)
  ·by_cases hl:kids= []
   ·exact Or.inl (by rw[hl];rfl)
   ·exact Or.inr (Zb4 hl)
theorem GY {w:Wq} {r:Option Nat} (hr:∀g,r=some g->w.heap.size<=g):∀l:List Nc,RdNs w l->awayNs r l
 | [],h=>by rw[awayNs];trivial
 |x::t,h=>by
  rw[RdNs] at h
  rw[awayNs]
  exact ⟨Is hr x h.1,GY hr t h.2⟩
end
theorem KL {x:Nc} (h:RdN w x):awayN none x:=Is (by intro g e;cases e) x h
theorem Ja {x:Nc} (h:RdN w x) (A:w.heap.size<=g):awayN (some g) x:=Is (by intro k e;injection e with e;omega) x h
mutual
theorem RdN.grown {w w':Wq} {r:Option Nat} (hg:w.grownBy w' r):∀x:Nc,RdN w x->awayN r x->RdN w' x
 | .mk k s n al l ks kids t a,h,ha=>by
  rw[RdN] at h|-
  rw[awayN] at ha
  refine ⟨RSl.grown h.1 hg (ha.1.imp (λe=> ?_) λe=>e),RSl.grown h.2.1 hg (ha.2.1.imp (λe=> ?_) λe=>e),RdNs.grown hg kids h.2.2 ha.2.2⟩
  ·rw[List.length_eq_zero_iff.1 e];rfl
  ·rw[List.length_eq_zero_iff.1 e];rfl
theorem RdNs.grown {w w':Wq} {r:Option Nat} (hg:w.grownBy w' r):∀l:List Nc,RdNs w l->awayNs r l->RdNs w' l
 | [],h,ha=>by rw[RdNs];trivial
 |x::t,h,ha=>by
  rw[RdNs] at h|-
  rw[awayNs] at ha
  exact ⟨RdN.grown hg x h.1 ha.1,RdNs.grown hg t h.2 ha.2⟩
end
def slN (x:Nc):Prop:=isSl x.al/\isSl x.ks
theorem RdN.sl {w:Wq} {x:Nc} (h:RdN w x):slN x:=by
 cases x;rw[RdN] at h;obtain ⟨A,c,e,_⟩:=h.1.form;obtain ⟨_,B,d,D,_⟩:=h.2.1;exact ⟨⟨A,_,c,e⟩,⟨B,_,d,D⟩⟩
theorem Xp {x:Nc} (h:slN x):∀u∈cellsN x,u.oneCell'=true:=by
 obtain ⟨⟨A,n,c,F⟩,⟨B,m,d,H⟩⟩:=h;rw[Eo,F,H];intro u D;simp only[ZH,ZY,Y1] at D;rcases D with rfl|rfl|rfl|rfl|rfl|rfl|rfl<;>rfl
def RNs (w:Wq) (v:Value) (l:List Nc):Prop:=RSl w 7 v l.length (flatN l)
theorem RNs.ext {w w':Wq} {v:Value} {l:List Nc} (h:RNs w v l) (A:Ext w w'):RNs w' v l:=RSl.ext h A
theorem RNs.nil (w:Wq):RNs w sN []:=RSl.nil w 7
theorem RNs.form {w:Wq} {v:Value} {l:List Nc} (h:RNs w v l):∃A c,v= .slice A l.length c/\l.length<=c/\c<=maxLen:=by
 obtain ⟨_,A,c,e,D,F,_⟩:=h;exact ⟨A,c,e,D,F⟩
structure AtNc (w:Wq) (q:Addr) (x:Nc):Prop where
 c0:w.cell? q=some (nI (x.kind:Nat))
 c1:w.cell? ⟨q.block,q.off+1,none⟩=some (.string (str x.space))
 c2:w.cell? ⟨q.block,q.off+2,none⟩=some (.string (str x.name))
 c3:w.cell? ⟨q.block,q.off+3,none⟩=some x.al
 c4:w.cell? ⟨q.block,q.off+4,none⟩=some x.ks
 c5:w.cell? ⟨q.block,q.off+5,none⟩=some (.string (str x.text))
 c6:w.cell? ⟨q.block,q.off+6,none⟩=some (nI (x.at_:Nat))
theorem AtNc.ext {w w':Wq} {q:Addr} {x:Nc} (h:AtNc w q x) (A:Ext w w'):AtNc w' q x:=⟨A.cell h.c0,A.cell h.c1,A.cell h.c2,A.cell h.c3,A.cell h.c4,A.cell h.c5,A.cell h.c6⟩
theorem RNs.at {w:Wq} {v:Value} {l:List Nc} (h:RNs w v l) {k:Nat} (D:k<l.length):∃ad c,v= .slice (some ad) l.length c/\AtNc w (ad.add (k*7)) l[k]:=by
 obtain ⟨ad,c,e,hc⟩:=RSl.elem (k:=7) (css:=l.map cellsN) h (by decide) (by intro c hc;obtain ⟨x,_,rfl⟩:=ZU.1 hc;exact J0 x) k (cellsN l[k]) (by rw[Yp,Zh D];rfl);rw[VF] at hc;rw[Eo] at hc;have A:∀i,0<i->(ad.add (k*7)).add i=⟨(ad.add (k*7)).block,(ad.add (k*7)).off+i,none⟩:=λi F=>Ze om;refine ⟨ad,c,e,?_,?_,?_,?_,?_,?_,?_⟩
 ·have:=hc 0 _ rfl;rwa [add_zero] at this
 ·have:=hc 1 _ rfl;rwa [A _ (by decide)] at this
 ·have:=hc 2 _ rfl;rwa [A _ (by decide)] at this
 ·have:=hc 3 _ rfl;rwa [A _ (by decide)] at this
 ·have:=hc 4 _ rfl;rwa [A _ (by decide)] at this
 ·have:=hc 5 _ rfl;rwa [A _ (by decide)] at this
 ·have:=hc 6 _ rfl;rwa [A _ (by decide)] at this
structure HNs (w:Wq) (B:Nat) (v:Value) (l:List Nc):Prop where
 row:w.ownsRow B 25 7 v l.length (flatN l)
 rd:RdNs w l
 away:awayNs v.ownBlock l
theorem HNs.nil (w:Wq) (B:Nat):HNs w B sN []:=⟨YF _ _ _ _,(by rw[RdNs];trivial),(by rw[awayNs];trivial)⟩
theorem HNs.ext {w w':Wq} {B:Nat} {v:Value} {l:List Nc} (h:HNs w B v l) (A:Ext w w'):HNs w' B v l:=⟨Ya h.row A,RdNs.ext A l h.rd,h.away⟩
theorem HNs.reads {w:Wq} {B:Nat} {v:Value} {l:List Nc} (h:HNs w B v l):RNs w v l:=RSl.of_own h.row
theorem HNs.snoc {w w3:Wq} {B:Nat} {v v3:Value} {l:List Nc} {x:Nc} (h:HNs w B v l) (K:RdN w x) (I:awayN v.ownBlock x)
 (F:w3.ownsRow B 25 7 v3 (l.length+1) (flatN l++cellsN x)) (J:w.grownBy w3 v.ownBlock) (H:v3.ownBlock=v.ownBlock\/v3.ownBlock=some w.heap.size):HNs w3 B v3 (l++ [x]):=by
 have D:∀y∈l++ [x],RdN w y/\awayN v.ownBlock y:=by
  intro y A;rcases Zs.1 A with A|A
  ·exact ⟨(XC l).1 h.rd y A,(Yr l).1 h.away y A⟩
  ·rw[Zo.1 A];exact ⟨K,I⟩
 refine ⟨?_,(XC _).2 λy A=>RdN.grown J y (D y A).1 (D y A).2,(Yr _).2 λy A=> ?_⟩
 ·rw[Vf,Vg,Zb];exact F
 ·rcases H with e|e
  ·rw[e];exact (D y A).2
  ·rw[e];exact Ja (D y A).1 (Zc _)
end
theorem RAts.away {w w':Wq} {v:Value} {l:List AtP} {r:Option Nat} (h:RAts w v l) (A:w.grownBy w' r) (D:awayV v l.length r):RAts w' v l:=
 RSl.grown h A (D.imp (λe=>by rw[List.length_eq_zero_iff.1 e];rfl) λe=>e)
theorem RAts.awayNew {w:Wq} {v:Value} {l:List AtP} {g:Nat} (h:RAts w v l) (D:w.heap.size<=g):awayV v l.length (some g):=
 It h (by by_cases A:l= [];exact Or.inl (by rw[A];rfl);exact Or.inr (Qg A)) (by intro k e;injection e with e;omega)
theorem ZkO (a b:List Tc):flatT (a++b)=flatT a++flatT b:=by unfold flatT;rw[ZS,UZ]
theorem ZkP (x:Tc):flatT [x]=cellsT x:=by unfold flatT;simp
theorem Ziw (x:Tc) (h:x.al.oneCell'=true):∀u∈cellsT x,u.oneCell'=true:=by
 intro u A;simp only[cellsT,ZH,ZY,Y1] at A;rcases A with rfl|rfl|rfl|rfl|rfl|rfl<;>first|rfl|exact h
structure HTs (w:Wq) (B:Nat) (v:Value) (l:List Tc):Prop where
 row:w.ownsRow B 111 6 v l.length (flatT l)
 rd:∀x∈l,RdT w x
 away:∀x∈l,awayV x.al x.t.attrs.length v.ownBlock
theorem HTs.nil (w:Wq) (B:Nat):HTs w B sN []:=⟨YF _ _ _ _,by simp,by simp⟩
theorem HTs.ext {w w':Wq} {B:Nat} {v:Value} {l:List Tc} (h:HTs w B v l) (D:Ext w w'):HTs w' B v l:=⟨Ya h.row D,λx A=>RAts.ext (h.rd x A) D,h.away⟩
theorem HTs.snoc {w w3:Wq} {B:Nat} {v v3:Value} {l:List Tc} {x:Tc} (h:HTs w B v l) (K:RdT w x) (I:awayV x.al x.t.attrs.length v.ownBlock)
 (F:w3.ownsRow B 111 6 v3 (l.length+1) (flatT l++cellsT x)) (J:w.grownBy w3 v.ownBlock) (H:v3.ownBlock=v.ownBlock\/v3.ownBlock=some w.heap.size):HTs w3 B v3 (l++ [x]):=by
 have D:∀y∈l++ [x],RdT w y/\awayV y.al y.t.attrs.length v.ownBlock:=by
  intro y A;rcases Zs.1 A with A|A
  ·exact ⟨h.rd y A,h.away y A⟩
  ·rw[Zo.1 A];exact ⟨K,I⟩
 refine ⟨?_,λy A=>RAts.away (D y A).1 J (D y A).2,λy A=> ?_⟩
 ·rw[ZkO,ZkP,Zb];exact F
 ·rcases H with e|e
  ·rw[e];exact (D y A).2
  ·rw[e];exact RAts.awayNew (D y A).1 (Zc _)
def ToksRet (B:Nat) (w:Wq) (n:Nat) (v:Value):Except PErr (List Tok)->Prop
 | .ok l=>∃(u:Value) (lt:List Tc),v= .tuple #[u,nI (n:Nat),nI 0]/\lt.map Tc.t=l/\RSl w 6 u lt.length (flatT lt)/\(∀x∈lt,RdT w x)/\(∀x∈lt,∀g,x.al.ownBlock=some g->B<=g)/\∀g,u.ownBlock=some g->B<=g
 | .error (y,c)=>v= .tuple #[sN,nI (y:Nat),nI (c:Nat)]
theorem ZmW:(prog.info? 111).map (λi=>(i.zero,i.size,i.bytes))=some (some (.agg #[nI 0,eS,sN,.bool false,eS,nI 0]),6,80):=by kernel_rfl
theorem Zdt (s:ByteArray) (w:Wq) (hs:s.size<=80000000000):
 Calls prog 57 #[.string s] w λe w'=>∃v,e= .returned v/\ToksRet w.heap.size w' s.size v (toksP s.data.toList)/\Ext w w':=by
 have hN:s.size<=maxLen:=by unfold maxLen;omega
 obtain ⟨i0,hL,hS,hT,hU⟩:=YH ZmW;have ht:=ZN s;obtain ⟨R,X⟩:∃R,toksP s.data.toList=R:=⟨_,rfl⟩;rw[X];rw[GP] at X;have F:=λw'=>I2 s w' hN;unfold checkS at F;obtain ⟨x,c,hB⟩:∃x c,check s.data.toList=(x,c):=⟨_,_,rfl⟩;rw[hB] at X F;dsimp only at X F;have hp:=gd F;clear hB F;by_cases hc:c=0
 case neg=>
  rw[Zi hc] at X;subst X;have hK:((c:Int) !=0)=true:=by rw[Xk];omega
  clear hc;go_enter func57,ntmps57
  go_wp2_with (first|(go_at_call 97;refine Za (hp.out _) ?_;rintro e w2 ⟨rfl,ha⟩))
  go_ret3
  exact ⟨_,rfl,(by unfold ToksRet;rfl),ha⟩
 case pos=>
  subst hc;rw[Ze (by simp)] at X;have hd:∀w':Wq,Calls prog 98 #[.string s,nI 0,.string ⟨#[239,187,191]⟩] w' λe w2=>e= .returned (.bool (hasAt s.data.toList 0 [239,187,191]))/\w2=w':=λw'=>Y6 s [239,187,191] 0 w' hs om (by decide) (by decide);cases hb:hasAt s.data.toList 0 [239,187,191];rw[hb,Ze (by simp)] at X
  rotate_left
  have h3:3<=s.size:=by have:=XT hb;rw[ht] at this;simpa using this
  rw[hb,Zi rfl] at X
  all_goals
   rw[hb] at hd
   clear hb
   have HH:=gd hd
   clear hd
   have HR:=gd X
   clear X
   go_enter func57,ntmps57
   go_wp2_with (first|(go_at_call 97;refine Za (hp.out _) ?_;rintro e w2 ⟨rfl,ha⟩)|(go_at_call 98;refine Za (HH.out _) ?_;rintro e w3 ⟨rfl,h3⟩;have hH:=h3.symm;clear h3;subst hH))
   go_loopw [5,7] (λa t wr=>∃(k:Nat) (lt:List Tc),k<=s.size/\a=nI k/\HTs wr w.heap.size t lt/\Hid (toksAt s.data.toList k (lt.map Tc.t)=R)/\Hid (lt.length<=k)/\Hid (∀x∈lt,∀g,x.al.ownBlock=some g->w.heap.size<=g)/\Ext w wr) (λa _ _=>s.size - (intOf a).toNat)
   case atStart=>first|exact ⟨0,[],Zj _,rfl,HTs.nil _ _,HR,Zj _,(by intro x Z;cases Z),ha⟩|exact ⟨3,[],h3,rfl,HTs.nil _ _,HR,Zj _,(by intro x Z;cases Z),ha⟩
   case round=>
    obtain ⟨k,lt,hk,rfl,I,hr,hl,hi,Z⟩:=hrel
    obtain ⟨A,cc,rfl⟩:=Ym I.row
    by_cases hm:k<s.size
    have hV:(k:Int)<(s.size:Int):=om
    have U:=λw'=>Zaf s k w' hs hm
    cases hc:constructP s.data.toList k
    ·rename_i xc
     obtain ⟨x5,c5⟩:=xc
     have hJ:=Gm om hc
     have hK:((c5:Int) !=0)=true:=(by rw[Xk];omega)
     have hh:R= .error (x5,c5):=(by rw[<-hr.out,QU om hc])
     subst hh
     rw[hc] at U
     have HC:=gd U
     clear U hc hJ hr hm
     go_wp2_with (first|(go_at_call 99;refine Za (HC.out _) ?_;rintro e w5 ⟨v5,rfl,⟨y5,rfl,hP⟩,D⟩)|(refine Zf rfl 111 (.tmp 8) (.tmp 30) rfl w5.heap.size _ rfl rfl _ _ (BxT.alloc0 w5 (nilT 0 0)) Ye rfl (XE y5 hP) ?_))
     go_ret3
     exact ⟨_,rfl,(by unfold ToksRet;rfl),((Z.trans D).alloc _).setRow (Z.trans D).size _⟩
    rename_i te
    obtain ⟨t,e⟩:=te
    obtain ⟨hw,hj, -, -, -⟩:=Jj om hc
    rw[ht] at hj
    rw[hc] at U
    have S:=hr.out
    rw[J9 om hc] at S
    have HC:=gd U
    have HE:=gd (show e<=s.size/\k<e from ⟨hj,hw⟩)
    clear U hc hr hw hj
    by_cases Q:keeps t
    rw[Zi Q] at S
    have hf:=gd S
    clear S
    obtain ⟨tk,tn,ta,K,tt,J⟩:=t
    have he:=gd I
    have hM:lt.length<=80000000000:=(by have:=hl.out;omega)
    have hD:=gd (show lt.length+1<=maxLen by unfold maxLen;omega)
    have hC:=gd (show (lt.length+1)*80<=140737488355328 by omega)
    have hF:=gd (λg (hg:(Value.slice A lt.length cc).ownBlock=some g)=>(I.row.lt g hg).2)
    clear I hM
    by_cases V:tk=3
    have hv:((tk:Int) !=3)=false:=(by rw[V];rfl)
    have hQ:(str tt).toList.isEmpty=false:=by
     rw[Yb,Z3]
     cases tt with
     |nil=>rcases Q with h|h;exact absurd V h;exact absurd rfl h
     |cons a b=>rfl
    rotate_left
    have hv:((tk:Int) !=3)=true:=by rw[Xk];omega
    rotate_left
    ·rw[Ze Q] at S
     have hf:=gd S
     clear S
     have V:t.kind=3:=Decidable.not_not.1 λh=>Q (Or.inl h)
     have hA:t.text= []:=Decidable.not_not.1 λh=>Q (Or.inr h)
     obtain ⟨tk,tn,ta,K,tt,J⟩:=t
     dsimp only at V hA
     subst V
     subst hA
     have hQ:(str []).toList.isEmpty=true:=(by rw[Yb,Z3];rfl)
     clear Q
     go_wp2_with (first|(go_at_call 99;refine Za (HC.out _) ?_;rintro e5 w5 ⟨v5,rfl,⟨hG,rfl,H,Y⟩,D⟩;obtain ⟨A5,c5,rfl, -, -⟩:=H.form;simp only[cellsT]))
     go_roundw
     case rel=>
      have hE:=HE.out
      exact ⟨e,lt,hE.1,rfl,I.ext (D.alloc _),hf,Zp hl.out (Nat.le_of_lt hE.2),hi,(Z.trans D).alloc _⟩
     case measure=>have hE:=HE.out;simp[intOf];omega
    ·have hW:¬(k:Int)<(s.size:Int):=om
     have hh:R= .ok (lt.map Tc.t):=(by rw[<-hr.out,Vz om])
     subst hh
     clear hr hm
     go_wp2
     go_ret3
     exact ⟨_,rfl,(by unfold ToksRet;exact ⟨_,lt,rfl,rfl,RSl.of_own I.row,I.rd,hi.out,Jg I.row⟩),Z⟩
    all_goals
     clear Q V
     go_wp2_with (first|(go_at_call 99;refine Za (HC.out _) ?_;rintro e5 w5 ⟨v5,rfl,⟨hG,rfl,H,Y⟩,D⟩;obtain ⟨A5,c5,rfl, -, -⟩:=H.form;simp only[cellsT])|(at_builtin;refine ZO _ rfl (.tmp 45) (.tmp 47) _ rfl w.heap.size 111 i0 _ 6 80 underlying104 hL hS hT hU rfl (by decide) _ _ _ rfl (((he.out.ext D).row.alloc _).alloc _) _ 1 (cellsT ⟨.slice A5 ta.length c5,⟨tk,tn,ta,K,tt,J⟩⟩) rfl (Jb (n:=1) (cs:=cellsT ⟨.slice A5 ta.length c5,⟨tk,tn,ta,K,tt,J⟩⟩) (fr:=(0,0)) (YS _ _ _) rfl (by decide)) (Ziw ⟨.slice A5 ta.length c5,⟨tk,tn,ta,K,tt,J⟩⟩ rfl) hD.out hC.out ?_ ?_;(rw[Zu,Zu];have:=(Z.trans D).size;omega);intro v9 w9 hn hu hq))
     go_roundw
     case rel=>
      have hE:=HE.out
      have ho:=((Ext.refl w5).alloc (.cells (cellsT ⟨.slice A5 ta.length c5,⟨tk,tn,ta,K,tt,J⟩⟩).toArray 111)).alloc (.cells (cellsT ⟨.slice A5 ta.length c5,⟨tk,tn,ta,K,tt,J⟩⟩).toArray 111)
      have hz:RdT _ ⟨.slice A5 ta.length c5,⟨tk,tn,ta,K,tt,J⟩⟩:=RAts.ext H ho
      have hI:awayV (.slice A5 ta.length c5) ta.length (Value.slice A lt.length cc).ownBlock:=by
       refine (Decidable.em (ta= [])).imp (λe=>by rw[e];rfl) λhO=> ?_
       obtain ⟨g,hg, -⟩:=RSl.old H (Qg hO)
       rw[hg]
       intro e
       have h1:=Y g hg
       have h2:=hF.out g e.symm
       omega
      refine ⟨e,lt++ [⟨.slice A5 ta.length c5,⟨tk,tn,ta,K,tt,J⟩⟩],hE.1,rfl,HTs.snoc ((he.out.ext D).ext ho) hz hI hn hu hq,?_,?_,?_,Ext.app ((Z.trans D).trans ho) hu (((he.out.ext D).row.alloc _).alloc _) (Zc _)⟩
      ·rw[ZS]
       exact hf
      ·rw[Zb]
       have:=hl.out
       show _+1<=_
       omega
      ·intro y hy g hg
       rcases Zs.1 hy with hy|hy
       ·exact hi.out y hy g hg
       ·rw[Zo.1 hy] at hg
        have h1:=Y g hg
        have h2:=Z.size
        omega
     case measure=>have hE:=HE.out;simp[intOf];omega
section
variable {k:Nat} {l:List UInt8}
theorem Zk4 (h:NmPre false true l k) (H:k<l.length) (F:(dec (l.drop k)).2=0\/nmOk false (decide (k=0)) (dec (l.drop k)).1=false):isNm l=false:=by
 have A:=h.go.2;have e:=Js (c:=false) (f:=l.length) (first:=true && decide (k=0)) (l:=l.drop k) (Or.inr (by simpa using F));rw[e,Nat.add_zero] at A;have D:nmLen false l=k:=A;unfold isNm;rw[D];exact Yd om
theorem Zk3 (h:NmPre false true l l.length):isNm l=decide (0<l.length):=by
 have A:=h.go.2;rw[ZC (Zc _),UP] at A;unfold isNm nmLen;rw[A];simp
theorem Zbv (r:Nat) (first:Bool):nmOk false first r=if first then nmStart r else nmChar r:=by
 unfold nmOk;simp
theorem VZ (s:ByteArray) (w:Wq) (hs:s.size<=80000000000):
 Calls prog 187 #[.string s] w λe w'=>e= .returned (.bool (isNm s.data.toList))/\Ext w w':=by
 have hg:s.size<=maxLen:=by unfold maxLen;omega
 have ha:=ZN s;obtain ⟨R0,V⟩:∃b,isNm s.data.toList=b:=⟨_,rfl⟩;rw[V];have U:=gd V;clear V;go_enter func187,ntmps187;go_wp2;go_loopw [3,4,5] (λv _ _ wr=>∃k:Nat,k<=s.size/\v=nI k/\Hid (NmPre false true s.data.toList k)/\Ext w wr) (λv _ _ _=>s.size - (intOf v).toNat)
 case atStart=>exact ⟨0,Zj _,rfl,gd (.zero _ _),Ext.refl _⟩
 case round=>
  obtain ⟨k,hk,rfl,hp,hx⟩:=hrel;by_cases hd:k<s.size
  ·have hc:=Ug (s.data.toList.drop k);rw[Zk,ZN] at hc;have J:=U7 s k wr hd hg;have Z:((dec (s.data.toList.drop k)).2=0\/nmOk false (decide (k=0)) (dec (s.data.toList.drop k)).1=false)->R0=false:=λh=>U.out.symm.trans (Zk4 hp.out (by rw[ZN];exact hd) h);have Y:(dec (s.data.toList.drop k)).2≠0->nmOk false (decide (k=0)) (dec (s.data.toList.drop k)).1=true->NmPre false true s.data.toList (k+(dec (s.data.toList.drop k)).2):=λh1 h2=>hp.out.snoc h1 (by simpa using h2);obtain ⟨R,hR⟩:∃R,(dec (s.data.toList.drop k)).1=R:=⟨_,rfl⟩;obtain ⟨K,hK⟩:∃K,(dec (s.data.toList.drop k)).2=K:=⟨_,rfl⟩;rw[hR,hK] at J Z Y;rw[hK] at hc;have HC:=gd J;have D:=gd Z;have I:=gd Y;have F:=gd (λw'=>Ga R w');have H:=gd (λw'=>Uw R w');clear J Z Y hR hK hp;by_cases h0:K=0
   ·subst h0;have hf:=D.out (Or.inl rfl);subst hf
    go_wp2_with (first|(go_at_call 139;refine Za HC.out ?_;rintro e w2 ⟨rfl,A⟩))
    go_ret;exact ⟨rfl,hx.trans A⟩
   ·have hb:((K:Int)==0)=false:=(by rw[Zv];omega);cases hnc:nmChar R with
    |false=>
     have hf:=D.out (Or.inr (by rw[Zbv,hnc,IU hnc];simp));subst hf;rw[hnc] at F;clear D I H
     go_wp2_with (first|(go_at_call 139;refine Za HC.out ?_;rintro e w2 ⟨rfl,A⟩)|(go_at_call 212;refine Za (F.out _) ?_;rintro e w3 ⟨rfl,rfl⟩))
     go_ret;exact ⟨rfl,hx.trans A⟩
    |true=>
     rw[hnc] at F;by_cases hz:k=0
     ·subst hz;cases hns:nmStart R with
      |false=>
       have hf:=D.out (Or.inr (by rw[Zbv,hns];simp));subst hf;rw[hns] at H;clear D I
       go_wp2_with (first|(go_at_call 139;refine Za HC.out ?_;rintro e w2 ⟨rfl,A⟩)|(go_at_call 212;refine Za (F.out _) ?_;rintro e w3 ⟨rfl,rfl⟩)|(go_at_call 213;refine Za (H.out _) ?_;rintro e w3 ⟨rfl,rfl⟩))
       go_ret;exact ⟨rfl,hx.trans A⟩
      |true=>
       have S:=gd (I.out h0 (by rw[Zbv,hns];simp));rw[hns] at H;clear D I
       go_wp2_with (first|(go_at_call 139;refine Za HC.out ?_;rintro e w2 ⟨rfl,A⟩)|(go_at_call 212;refine Za (F.out _) ?_;rintro e w3 ⟨rfl,rfl⟩)|(go_at_call 213;refine Za (H.out _) ?_;rintro e w3 ⟨rfl,rfl⟩))
       go_roundw
       case rel=>exact ⟨0+K,om,by go_num,S,hx.trans A⟩
       case measure=>simp[intOf];omega
     ·have hh:((k:Int)==0)=false:=(by rw[Zv];omega);have S:=gd (I.out h0 (by rw[Zbv,Yd hz,hnc];simp));clear D I H
      go_wp2_with (first|(go_at_call 139;refine Za HC.out ?_;rintro e w2 ⟨rfl,A⟩)|(go_at_call 212;refine Za (F.out _) ?_;rintro e w3 ⟨rfl,rfl⟩))
      go_roundw
      case rel=>exact ⟨k+K,om,by go_num,S,hx.trans A⟩
      case measure=>simp[intOf];omega
  ·have he:k=s.size:=om;subst he;have X:=hp.out;rw[<-ha] at X;have Q:=U.out.symm.trans (Zk3 X);rw[ha] at Q;clear hp X U;subst Q;go_wp2;go_ret;exact ⟨by simp,hx⟩
def splitAns:Option (List UInt8×List UInt8)->Value
 |some (p,q)=> .tuple #[.string (str p),.string (str q),.bool true]
 |none=> .tuple #[eS,eS,.bool false]
theorem U8 (s:ByteArray) (w:Wq) (hs:s.size<=80000000000):
 Calls prog 147 #[.string s] w λe w'=>e= .returned (splitAns (splitL s.data.toList))/\Ext w w':=by
 have S:=ZN s;obtain ⟨R,H⟩:∃R,splitL s.data.toList=R:=⟨_,rfl⟩;rw[H];unfold splitL at H;dsimp only at H;obtain ⟨P,hP⟩:∃P,((s.data.toList.takeWhile λc=>c !=58)).length=P:=⟨_,rfl⟩;have Y:(s.data.toList.takeWhile λc=>c !=58)=s.data.toList.take P:=by rw[<-hP];exact YQ.1 (Xx _)
 rw[Y,ZM] at H;have Q:P<=s.size:=by rw[<-hP,<-S];exact (YE _).length_le
 rw[S,Nat.min_eq_left Q] at H;have HR:=gd H;have HP:=gd (show 0+((s.data.toList.drop 0).takeWhile λc=>c !=58).length=P by rw[Jm,hP,YI]);clear H hP Y Q;go_enter func147,ntmps147;go_wp2;go_loopw [5] (λv wr=>∃j:Nat,j<=s.size/\v=nI j/\Hid (j+((s.data.toList.drop j).takeWhile λc=>c !=58).length=P)/\wr=w) (λv _=>s.size - (intOf v).toNat)
 case atStart=>exact ⟨0,Zj _,rfl,HP,rfl⟩
 case round=>
  obtain ⟨j,hj,rfl,J,rfl⟩:=hrel;by_cases V:j<s.size
  ·have hf:(0:Int)<=(j:Int):=om;have hg:(j:Int)<(s.size:Int):=om;have U:j<s.data.toList.length:=om;have hh:s.data.toList[j]=s[j]:=rfl;by_cases D:s[j]=58
   ·have hb:(((s[j]).toNat:Int)==58)=true:=(by rw[D];rfl);have hd:j=P:=(VE (p:=λc=>c !=58) U (by show (s[j] !=58)=false;rw[D];rfl)).symm.trans J.out;subst hd;have h:=HR.out;rw[Zi V] at h;have e1:s.extract 0 j=str (s.data.toList.take j):=Vb (by rw[Z3];simp);have e2:s.extract (j+1) s.size=str (s.data.toList.drop (j+1)):=Vb (by rw[Z3,KU]);have s1:=ZhP s j om;have s2:=Id s (j+1) ((j:Int)+1) om om;rw[e1] at s1;rw[e2] at s2;obtain ⟨p,hp⟩:∃p,s.data.toList.take j=p:=⟨_,rfl⟩;obtain ⟨q,hq⟩:∃q,s.data.toList.drop (j+1)=q:=⟨_,rfl⟩;have X:(str p).size<=80000000000:=(by rw[YN,<-hp,ZM];omega);have Z:(str q).size<=80000000000:=(by rw[YN,<-hq,Zk];omega);rw[hp] at s1 h;rw[hq] at s2 h;have F:=gd (λw'=>VZ (str p) w' X);have K:=gd (λw'=>VZ (str q) w' Z);rw[Z3] at F K;clear D J HR e1 e2 hp hq X Z;cases h1:isNm p with
    |false=>
     rw[h1,Ze (by simp)] at h;rw[h1] at F;subst h;clear h1
     go_wp2_with (first|(go_at_call 187;refine Za (F.out _) ?_;rintro e w3 ⟨rfl,A⟩))
     go_ret3
     exact ⟨rfl,A⟩
    |true=>
     rw[h1] at F;cases h2:isNm q with
     |false=>
      rw[h1,h2,Ze (by simp)] at h;rw[h2] at K;subst h;clear h1 h2
      go_wp2_with (first|(go_at_call 187;(with_reducible refine Za (F.out _) ?_);rintro e w3 ⟨rfl,A⟩)|(go_at_call 187;(with_reducible refine Za (K.out _) ?_);rintro e w4 ⟨rfl,I⟩))
      go_ret3
      exact ⟨rfl,A.trans I⟩
     |true=>
      rw[h1,h2,Zi (by simp)] at h;rw[h2] at K;subst h;clear h1 h2
      go_wp2_with (first|(go_at_call 187;(with_reducible refine Za (F.out _) ?_);rintro e w3 ⟨rfl,A⟩)|(go_at_call 187;(with_reducible refine Za (K.out _) ?_);rintro e w4 ⟨rfl,I⟩))
      refine rA ?_
      repeat (first|go_big_quiet_step (skip)|quiet_step (skip))
      refine Z9 ?_;rintro _ ⟨d1,rfl⟩;go_wp2
      go_ret3
      exact ⟨rfl,(A.trans I).trans d1.ext⟩
   ·have hb:(((s[j]).toNat:Int)==58)=false:=(by rw[Zv];intro e;exact D (Xc.1 (by show _=58;omega)));have ha:=VD (p:=λc=>c !=58) U (by show (s[j] !=58)=true;simpa using D);have HN:=gd (ha.symm.trans J.out);clear D ha J;go_wp2;go_roundw
    case rel=>exact ⟨j+1,V,by go_num,HN,by trivial⟩
    case measure=>simp[intOf];omega
  ·have he:j=s.size:=om;subst he;have hc:s.size=P:=(by have:=J.out;rw[ZC om] at this;simpa using this);have h:=HR.out;rw[Ze om] at h;have F:=gd (λw'=>VZ s w' hs);clear J HR hc HP;cases h1:isNm s.data.toList with
   |false=>
    rw[h1,Ze (by simp)] at h;rw[h1] at F;subst h;clear h1
    go_wp2_with (first|(go_at_call 187;refine Za (F.out _) ?_;rintro e w3 ⟨rfl,A⟩))
    go_ret3
    exact ⟨rfl,A⟩
   |true=>
    rw[h1,Zi rfl] at h;rw[h1] at F;subst h;clear h1
    go_wp2_with (first|(go_at_call 187;refine Za (F.out _) ?_;rintro e w3 ⟨rfl,A⟩))
    go_ret3
    exact ⟨(by show _=Ending.returned (.tuple #[.string (str []),.string (str s.data.toList),.bool true]);rw[Zal];rfl),A⟩
theorem Zkg (h:k<l.length):blankL (l.drop k)=(isSp (l[k].toNat) && blankL (l.drop (k+1))):=by
 unfold blankL;rw[Zl h,KI]
theorem ZfC (s:ByteArray) (w:Wq) (Y:s.size<=140737488351232):
 Calls prog 58 #[.string s] w λe w'=>e= .returned (.bool (blankL s.data.toList))/\w'=w:=by
 have Q:=ZN s;obtain ⟨R,H⟩:∃R,blankL s.data.toList=R:=⟨_,rfl⟩;rw[H];go_enter func58,ntmps58;go_wp2;go_loopw [3] (λv wr=>∃j:Nat,j<=s.size/\v=nI j/\Hid (blankL (s.data.toList.drop j)=R)/\wr=w) (λv _=>s.size - (intOf v).toNat)
 case atStart=>exact ⟨0,Zj _,rfl,gd H,rfl⟩
 case round=>
  obtain ⟨j,X,rfl,F,rfl⟩:=hrel;clear H;by_cases D:j<s.size
  ·have S:(0:Int)<=(j:Int):=om;have U:(j:Int)<(s.size:Int):=om;have V:j<s.data.toList.length:=(by rw[ZN];exact D);have J:s.data.toList[j]=s[j]:=(by rfl);have h:=F.out;rw[Zkg V,J] at h;cases hsp:isSp (s[j].toNat) with
   |true=>
    rw[hsp,XL] at h;have K:=gd h;clear F h
    go_wp2_with (first|(go_at_call 100;refine Za (Y7 _ _) ?_;rintro e w2 ⟨rfl,rfl⟩))
    go_roundw
    case rel=>exact ⟨j+1,D,by go_num,K,by trivial⟩
    case measure=>simp[intOf];omega
   |false=>
    rw[hsp,Yk] at h;subst h;clear F
    go_wp2_with (first|(go_at_call 100;refine Za (Y7 _ _) ?_;rintro e w2 ⟨rfl,rfl⟩))
    go_ret;exact ⟨rfl,rfl⟩
  ·have I:j=s.size:=om;have A:true=R:=(by have:=F.out;rw[ZC om] at this;exact this);subst A;clear F;subst I;go_wp2;go_ret;exact ⟨rfl,rfl⟩
end
theorem V4 {a:List UInt8} (h:a≠ []):(str a).toList.isEmpty=false:=by
 rw[Yb,Z3];cases a with
 |nil=>exact absurd rfl h
 |cons x t=>rfl
theorem UK:(str []).toList.isEmpty=true:=by rw[Yb,Z3];rfl
theorem QS {a b:List UInt8} (h:a=b):((str a).toList==b)=true:=by rw[Yb,Z3,h];simp
theorem JU {a b:List UInt8} (h:a≠b):((str a).toList==b)=false:=by rw[Yb,Z3];simpa using h
theorem Jr (a b:List UInt8):((str a).toList==(str b).toList)=(a==b):=by rw[Yb,Yb,Z3,Z3]
def DeclRet (v:Value):Option (List UInt8)->Prop
 |some d=>v= .tuple #[.string (str d),.bool true]
 |none=>∃d,v= .tuple #[.string (str d),.bool false]
theorem Q9 (a:AtP) (w:Wq) (X:a.name.length<=80000000000):
 Calls prog 148 #[.agg #[.string (str a.space),.string (str a.name),.string (str a.value),nI (a.at_:Nat)]] w λe w'=>∃v,e= .returned v/\DeclRet v (declL a.name)/\Ext w w':=by
 obtain ⟨sp,nm,av,U⟩:=a;dsimp only at X|-;obtain ⟨R,D⟩:∃R,declL nm=R:=⟨_,rfl⟩;rw[D];unfold declL at D;have F:=λw'=>U8 (str nm) w' (by rw[YN];exact X);rw[Z3] at F;have I:=(Ext.refl w).alloc (.cells #[.string (str sp),.string (str nm),.string (str av),nI (U:Nat)] 88);cases hsp:splitL nm with
 |none=>
  rw[hsp] at D F;dsimp only at D;subst D;have K:=gd F;have Q:(str []).toList.isEmpty=true:=UK;have V:((str []).toList== [120,109,108,110,115])=false:=JU (by decide);clear hsp F;go_enter func148,ntmps148
  go_wp2_with (first|(go_at_call 147;refine Za (K.out _) ?_;rintro e w2 ⟨rfl,A⟩;simp only[splitAns]))
  go_ret2
  exact ⟨_,rfl,⟨[],rfl⟩,I.trans A⟩
 |some pq=>
  obtain ⟨p,q⟩:=pq;rw[hsp] at D F;dsimp only at D;have K:=gd F;clear hsp F;by_cases S:p= []
  ·subst S;have Q:(str []).toList.isEmpty=true:=UK;have V:((str []).toList== [120,109,108,110,115])=false:=JU (by decide);by_cases H:q=xmlnsL
   ·rw[Zi ⟨rfl,H⟩] at D;subst D;have J:((str q).toList== [120,109,108,110,115])=true:=QS H;clear H;go_enter func148,ntmps148
    go_wp2_with (first|(go_at_call 147;refine Za (K.out _) ?_;rintro e w2 ⟨rfl,A⟩;simp only[splitAns]))
    go_ret2
    exact ⟨_,rfl,rfl,I.trans A⟩
   ·rw[Ze (λh=>H h.2),Ze (by decide)] at D;subst D;have J:((str q).toList== [120,109,108,110,115])=false:=JU H;clear H;go_enter func148,ntmps148
    go_wp2_with (first|(go_at_call 147;refine Za (K.out _) ?_;rintro e w2 ⟨rfl,A⟩;simp only[splitAns]))
    go_ret2
    exact ⟨_,rfl,⟨q,rfl⟩,I.trans A⟩
  ·have Q:=V4 S;rw[Ze (λh=>S h.1)] at D;by_cases H:p=xmlnsL
   ·rw[Zi H] at D;subst D;have J:((str p).toList== [120,109,108,110,115])=true:=QS H;clear H S;go_enter func148,ntmps148
    go_wp2_with (first|(go_at_call 147;refine Za (K.out _) ?_;rintro e w2 ⟨rfl,A⟩;simp only[splitAns]))
    go_ret2
    exact ⟨_,rfl,rfl,I.trans A⟩
   ·rw[Ze H] at D;subst D;have J:((str p).toList== [120,109,108,110,115])=false:=JU H;clear H S;go_enter func148,ntmps148
    go_wp2_with (first|(go_at_call 147;refine Za (K.out _) ?_;rintro e w2 ⟨rfl,A⟩;simp only[splitAns]))
    go_ret2
    exact ⟨_,rfl,⟨q,rfl⟩,I.trans A⟩
def cellsB (b:List UInt8×List UInt8):List Value:= [.string (str b.1),.string (str b.2)]
def flatB (l:Scope):List Value:=(l.map cellsB).flatten
def RSc (w:Wq) (v:Value) (l:Scope):Prop:=RSl w 2 v l.length (flatB l)
theorem RSc.ext {w w':Wq} {v:Value} {l:Scope} (h:RSc w v l) (A:Ext w w'):RSc w' v l:=RSl.ext h A
theorem RSc.form {w:Wq} {v:Value} {l:Scope} (h:RSc w v l):∃A c,v= .slice A l.length c/\l.length<=c/\c<=maxLen:=by
 obtain ⟨_,A,c,e,D,F,_⟩:=h;exact ⟨A,c,e,D,F⟩
theorem ZdZ (a b:Scope):flatB (a++b)=flatB a++flatB b:=by unfold flatB;rw[ZS,UZ]
theorem Zd0 (x:List UInt8×List UInt8):flatB [x]=cellsB x:=by unfold flatB;simp
theorem KM (x:List UInt8×List UInt8):∀u∈cellsB x,u.oneCell'=true:=by
 intro u h;simp only[cellsB,ZH,ZY,Y1] at h;rcases h with rfl|rfl<;>rfl
theorem ZiK (l:Scope):∀u∈flatB l,u.oneCell'=true:=by
 intro u h;obtain ⟨c,hc,h⟩:=Zdh.1 h;obtain ⟨a,_,rfl⟩:=ZU.1 hc;exact KM a u h
theorem RSc.at {w:Wq} {v:Value} {l:Scope} (h:RSc w v l) {k:Nat} (D:k<l.length):∃ad c,v= .slice (some ad) l.length c/\w.cell? (ad.add (k*2))=some (.string (str l[k].1))/\w.cell? ⟨(ad.add (k*2)).block,(ad.add (k*2)).off+1,none⟩=some (.string (str l[k].2)):=by
 obtain ⟨ad,c,e,hc⟩:=RSl.elem (k:=2) (css:=l.map cellsB) h (by decide) (by intro c hc;obtain ⟨x,_,rfl⟩:=ZU.1 hc;rfl) k (cellsB l[k]) (by rw[Yp,Zh D];rfl);rw[VF] at hc;have A:∀i,0<i->(ad.add (k*2)).add i=⟨(ad.add (k*2)).block,(ad.add (k*2)).off+i,none⟩:=λi F=>Ze om;refine ⟨ad,c,e,?_,?_⟩
 ·have:=hc 0 _ rfl;rwa [add_zero] at this
 ·have:=hc 1 _ rfl;rwa [A _ (by decide)] at this
def lookAns:Option (List UInt8)->Value
 |some v=> .tuple #[.string (str v),.bool true]
 |none=> .tuple #[.string (str []),.bool false]
theorem Ks (v:Value) (sc:Scope) (p:List UInt8) (w:Wq) (h:RSc w v sc) (hn:sc.length<=140737488351232):
 Calls prog 149 #[v,.string (str p)] w λe w'=>e= .returned (lookAns (lookL sc p))/\w'=w:=by
 obtain ⟨A,c,rfl, -, -⟩:=h.form;by_cases S:p=xmlL
 ·have hb:((str p).toList== [120,109,108])=true:=QS S;have K:lookL sc p=some xmlSpaceL:=by unfold lookL;rw[Zi S]
  rw[K];clear S K;go_enter func149,ntmps149;go_wp2
  go_ret2
  exact ⟨rfl,rfl⟩
 ·have hb:((str p).toList== [120,109,108])=false:=JU S;rw[Zm9 S];obtain ⟨R,K⟩:∃R,lookTo sc p sc.length=R:=⟨_,rfl⟩;rw[K];have HR:=gd K;clear S K;go_enter func149,ntmps149;go_wp2;go_loopw [6] (λi wr=>∃k:Nat,k<=sc.length/\i=nI ((k:Int) - 1)/\Hid (lookTo sc p k=R)/\wr=w) (λi _=>(intOf i+1).toNat)
  case atStart=>exact ⟨sc.length,Zc _,by go_num,HR,rfl⟩
  case round=>
   obtain ⟨k,hk,rfl,J,rfl⟩:=hrel;cases k with
   |zero=>
    have D:=J.out;rw[Zg8] at D;by_cases Q:p= []
    ·rw[Zi Q] at D;have V:(str p).toList.isEmpty=true:=(by rw[Q];exact UK);subst D;clear J Q;go_wp2
     go_ret2
     exact ⟨rfl,rfl⟩
    ·rw[Ze Q] at D;have V:=V4 Q;subst D;clear J Q;go_wp2
     go_ret2
     exact ⟨rfl,rfl⟩
   |succ m=>
    have U:m<sc.length:=hk;obtain ⟨ad,c',hv,a0,Y⟩:=h.at U;injection hv with hv1 hv2 hv3;subst hv1;clear hv2 hv3;have I:((m+1:Nat):Int) - 1=(m:Int):=om;rw[I];have ha:(0:Int)<=(m:Int):=om;have hc:(m:Int)<(sc.length:Int):=om;by_cases H:sc[m].1=p
    ·have D:=J.out;rw[Zi3 U H] at D;obtain ⟨x,F⟩:∃x,sc[m]=x:=⟨_,rfl⟩;rw[F] at a0 Y H D;have X:((str x.1).toList==(str p).toList)=true:=(by rw[Jr,H];simp);subst D;clear J H F I;go_wp2
     go_ret2
     exact ⟨rfl,rfl⟩
    ·have D:=J.out;rw[Zg7 U H] at D;obtain ⟨x,F⟩:∃x,sc[m]=x:=⟨_,rfl⟩;rw[F] at a0 Y H;have X:((str x.1).toList==(str p).toList)=false:=(by rw[Jr];simpa using H);have Z:=gd D;clear J H F I D;go_wp2;go_roundw
     case rel=>exact ⟨m,om,by go_num,Z,by trivial⟩
     case measure=>simp[intOf]
section
variable {k n:Nat} {nm sp:List UInt8}
def attrN (al:List AtP) (sp nm:List UInt8):Option (List UInt8):=(al.find? λa=>a.space==sp && a.name==nm).map AtP.value
theorem Zkb {al:List AtP} (A:k<al.length) (h:(al[k].space==sp && al[k].name==nm)=true):attrN (al.drop k) sp nm=some al[k].value:=by
 unfold attrN;rw[Zl A,List.find?_cons_of_pos (by simpa using h)];rfl
theorem Zil {al:List AtP} (A:k<al.length) (h:(al[k].space==sp && al[k].name==nm)=false):attrN (al.drop k) sp nm=attrN (al.drop (k+1)) sp nm:=by
 unfold attrN;rw[Zl A,List.find?_cons_of_neg (by simpa using h)]
theorem Zka {al:List AtP} (h:al.length<=k):attrN (al.drop k) sp nm=none:=by
 unfold attrN;rw[ZC h];rfl
def isKid (sp nm:List UInt8) (x:Nc):Bool:=x.kind==0 && x.space==sp && x.name==nm
theorem Vh:(prog.info? 25).map (λi=>(i.zero,i.size,i.bytes))=some (some (.agg #[nI 0,eS,eS,sN,sN,eS,nI 0]),7,112):=by kernel_rfl
theorem ZhX {l:List Nc} {f:Nc->Bool} (h:k<l.length):(l.take (k+1)).filter f=(l.take k).filter f++(if f l[k] then [l[k]] else []):=by
 rw[Zr h,List.filter_append,List.filter_cons,List.filter_nil]
theorem Vj (h:n<=80000000000):n+1<=maxLen/\(n+1)*112<=140737488355328:=by unfold maxLen;omega
end
section
variable {P:Program} {base c d k m n:Nat} {e ty:TypeId} {nm s t:List UInt8} {v:Value} {w w':World} {xs:List Value}
def BxN (w:Wq) (g:Nat) (k:Nat) (s n:List UInt8) (al ks:Value) (t:List UInt8) (a:Nat):Prop:=w.heap[g]? =some (.cells #[nI (k:Nat),.string (str s),.string (str n),al,ks,.string (str t),nI (a:Nat)] 25 (0,0))
section
variable {w w':World} {g k a:Nat} {s n t:List UInt8} {al ks:Value}
theorem BxN.ext (h:BxN w g k s n al ks t a) (A:Ext w w'):BxN w' g k s n al ks t a:=A.heap h
theorem BxN.grown {r:Option Nat} (h:BxN w g k s n al ks t a) (A:w.grownBy w' r) (D:r≠some g):BxN w' g k s n al ks t a:=
 (A.block g (ZP.1 h).1 (λe=>D (by rw[<-e]))).trans h
theorem BxN.other {g' i:Nat} {v:Value} (h:BxN w g k s n al ks t a) (A:g≠g'):BxN (w.setCell ⟨g',i,none⟩ v) g k s n al ks t a:=(Z4 w ⟨g',i,none⟩ g v A).trans h
theorem BxN.cells (h:BxN w g k s n al ks t a):w.cell? ⟨g,0,none⟩=some (nI (k:Nat))/\w.cell? ⟨g,1,none⟩=some (.string (str s))/\w.cell? ⟨g,2,none⟩=some (.string (str n))/\w.cell? ⟨g,3,none⟩=some al/\
 w.cell? ⟨g,4,none⟩=some ks/\w.cell? ⟨g,5,none⟩=some (.string (str t))/\w.cell? ⟨g,6,none⟩=some (nI (a:Nat)):=by
 refine ⟨?_,?_,?_,?_,?_,?_,?_⟩<;>(rw[YO _ _ _ _ _ _ h];rfl)
theorem BxN.frozen (h:BxN w g k s n al ks t a):w.frozen? ⟨g,1,none⟩=false/\w.frozen? ⟨g,2,none⟩=false/\w.frozen? ⟨g,3,none⟩=false/\w.frozen? ⟨g,4,none⟩=false:=
 ⟨Z5 h 1,Z5 h 2,Z5 h 3,Z5 h 4⟩
theorem BxN.space (h:BxN w g k s n al ks t a) (u:List UInt8):BxN (w.setCell ⟨g,1,none⟩ (.string (str u))) g k u n al ks t a:=Yh w g 1 _ _ _ h
theorem BxN.name (h:BxN w g k s n al ks t a) (u:List UInt8):BxN (w.setCell ⟨g,2,none⟩ (.string (str u))) g k s u al ks t a:=Yh w g 2 _ _ _ h
theorem BxN.attrs (h:BxN w g k s n al ks t a) (u:Value):BxN (w.setCell ⟨g,3,none⟩ u) g k s n u ks t a:=Yh w g 3 _ _ _ h
theorem BxN.kids (h:BxN w g k s n al ks t a) (u:Value):BxN (w.setCell ⟨g,4,none⟩ u) g k s n al u t a:=Yh w g 4 _ _ _ h
end
theorem ZJ:(prog.info? 25).map (λi=>i.size)=some 7:=by kernel_rfl
theorem YU {a:Nat} {A B:Option Addr}:(#[Value.int .i64 (k:Nat),.string (str s),.string (str nm),.slice A n c,.slice B m d,.string (str t),nI (a:Nat)]).all (λu=>u.oneCell')=true:=by simp[Value.oneCell']
theorem Ib {A:Func} {p u x y:Tmp} (h:A.results=#[.cell p ty,.tmp u,.tmp x,.tmp y]) (tmps:Array Value) (w:Wq):
 (results A tmps).run P w=
  ((asAddr (tmps.getD p undef)).run P w).andThen λa D=>((loadVar ty a).run P D).andThen λv F=> .ok (.tuple #[v,tmps.getD u undef,tmps.getD x undef,tmps.getD y undef]) F:=by
 simp only[results,h];simp[Sem.run_bind,Result.andThen]
theorem Xs {A:Func} {p u x y:Tmp} (h:A.results=#[.cell p ty,.tmp u,.tmp x,.tmp y]) (tmps:Array Value) (w:Wq) (g:Nat) (t:TypeId) (cs:Array Value) (fr:Nat×Nat) (d:TypeDesc)
 (I:tmps.getD p undef= .pointer (some ⟨g,0,none⟩)) (F:w.heap[g]? =some (.cells cs t fr))
 (J:P.underlying ty=some d) (D:(match d with| .struct _| .array _ _=>true|_=>false)=true) (H:(P.info? ty).map (·.size)=some cs.size):
 (results A tmps).run P w= .ok (.tuple #[.agg cs,tmps.getD u undef,tmps.getD x undef,tmps.getD y undef]) w:=by
 rw[Ib h,I];simp[asAddr,run_loadVar_row w g t ty cs fr d F J D H]
def HeadRet (B:Nat) (w:Wq) (v:Value) (at_:Nat):Except PErr (List UInt8×List UInt8×List AtP×Scope)->Prop
 | .ok (sp,l,al,inner)=>∃av iv,v= .tuple #[.agg #[nI 0,.string (str sp),.string (str l),av,sN,.string (str []),nI (at_:Nat)],iv,nI 0,nI 0]/\RAts w av al/\RSc w iv inner/\∀g,av.ownBlock=some g->B<=g
 | .error (y,c)=>∃m:Nc,v= .tuple #[.agg (cellsN m).toArray,sN,nI (y:Nat),nI (c:Nat)]/\slN m
theorem ZkX:(prog.info? 203).map (λi=>(i.zero,i.size,i.bytes))=some (some (.agg #[eS,eS]),2,32):=by kernel_rfl
theorem Zdy (l:List UInt8):∃b,splitAns (splitL l)= .tuple #[.string (str ((splitL l).getD ([],[])).1),.string (str ((splitL l).getD ([],[])).2),.bool b]:=by
 cases h:splitL l with
 |none=>exact ⟨false,rfl⟩
 |some pq=>exact ⟨true,rfl⟩
theorem ZoS {a:List UInt8} (h:(str a).toList.isEmpty=true):(a== [])=true:=by
 rw[Yb,Z3] at h;rw[U0.1 h];rfl
theorem ZnP {a:List UInt8} (h:(str a).toList.isEmpty=false):(a== [])=false:=by
 rw[Yb,Z3] at h;cases a with
 |nil=>cases h
 |cons x t=>rfl
theorem ZeD {A size D Q:Nat} {I:TypeId} {v':Value} {H:List Value} (h:w.ownsRow base e size v n xs) (J:w.ownsRow A I D v' Q H) (F:∀g,v.ownBlock=some g->g<A) (K:w.grownBy w' v'.ownBlock):w'.ownsRow base e size v n xs:=by
 refine h.kept K ?_;cases hv:v.ownBlock with
 |none=>exact Or.inl rfl
 |some g=>refine Or.inr λe=> ?_;have R:=(J.lt g e.symm).1;have:=F g hv;omega
end
end Go.Proofs.YtnlafkgkcnenfaaGreatDoor
