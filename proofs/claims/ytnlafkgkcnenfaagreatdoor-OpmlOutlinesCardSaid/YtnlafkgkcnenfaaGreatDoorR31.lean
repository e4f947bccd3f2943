/- Parts of the proof: contracts and plain laws. -/
import Derived.Test.YtnlafkgkcnenfaaGreatDoorRows
import Derived.Test.YtnlafkgkcnenfaaGreatDoorCards
import Derived.Test.YtnlafkgkcnenfaaGreatDoorR30
namespace Go.Proofs.YtnlafkgkcnenfaaGreatDoor
open Go Go.ChangeShapes Go.WideShapes Go.RowKit Go.Deep Go.ChangeAt Go.Joins _root_.Go.Proofs.Tryz
set_option linter.unusedVariables false
set_option linter.unusedSimpArgs false
set_option maxRecDepth 100000
set_option maxHeartbeats 16000000
section
variable {P:Program} {cap fuel k n:Nat} {cs:List Value} {e:TypeId} {v:Value} {w:World} {α:Type}
theorem ZkX {cs:Array α} (h:cs.size=5):∃c0 c1 c2 c3 c4,cs=#[c0,c1,c2,c3,c4]:=by
 obtain ⟨l⟩:=cs
 match l,h with
 | [c0,c1,c2,c3,c4],_=>exact ⟨c0,c1,c2,c3,c4,rfl⟩
instance openEnt:Inhabited Ent:=⟨zeroE⟩
instance openFc:Inhabited Fc:=⟨⟨sN,sN,zeroF⟩⟩
theorem ZbA (D:0<k):∀(css:List (List α)),(∀c∈css,c.length=k)->∀j,css.flatten[j]? =(css[j / k]?).bind λc=>c[j % k]?
 | [],_,j=>by simp
 |c::t,h,j=>by
  have F:c.length=k:=h c (by simp)
  rw[X2]
  by_cases A:j<k
  ·rw[Y3 (by omega),Nat.div_eq_of_lt A,Nat.mod_eq_of_lt A]
   rfl
  ·rw[Yr (by omega),F,ZbA D t (λx H=>h x (by simp[H]))]
   have e1:j / k=(j - k) / k+1:=by
    have:=Nat.div_eq_sub_div D (show k<=j by omega)
    omega
   have e2:j % k=(j - k) % k:=Nat.mod_eq_sub_mod (by omega)
   rw[e1,e2,List.getElem?_cons_succ]
theorem V7 (K:0<k) {a:Addr} {len:Nat} (css:Nat->List Value) (M:len<=cap) (Q:cap<=maxLen)
 (h:∀i,i<len->(css i).length=k/\∀j,j<k->w.cell? ((a.add (i*k)).add j)=(css i)[j]?):RSl w k (.slice (some a) len cap) len ((List.range len).map css).flatten:=by
 have A:∀c∈(List.range len).map css,c.length=k:=by intro c R;obtain ⟨i,F,rfl⟩:=ZO.1 R;exact (h i (XG.1 F)).1
 refine ⟨?_,some a,cap,rfl,M,Q,(λe=>by cases e),λj u D=>⟨a,rfl,?_⟩⟩
 ·clear Q M;have J:∀(l:List (List Value)),(∀c∈l,c.length=k)->l.flatten.length=l.length*k:=by
   intro l
   induction l with
   |nil=>intro _;simp
   |cons c t ih=>intro h;rw[X2,Zd,h c (by simp),ih λx S=>h x (by simp[S]),Ze,Nat.succ_mul];omega
  rw[J _ A];simp
 ·rw[ZbA K _ A] at D;by_cases F:j / k<len
  ·have e:((List.range len).map css)[j / k]? =some (css (j / k)):=(by simp[F]);rw[e] at D;have I:(css (j / k))[j % k]? =some u:=D;have H:=(h (j / k) F).2 (j % k) (Nat.mod_lt _ K);rw[UH] at H;have e2:j / k*k+j % k=j:=(by rw[U5];exact Nat.div_add_mod j k);rw[e2] at H;rw[H,I]
  ·have e:((List.range len).map css)[j / k]? =none:=(by simp;omega);rw[e] at D;cases D
theorem JX {H:Type}:∀{l:List (DataW H)} {d:DataW H},d∈l->n∈d.weights P e->n∈DataW.weightsAll P e l
 | [],_,h,_=>by simp at h
 |x::t,d,h,hn=>by
  unfold DataW.weightsAll
  rcases ZI.1 h with h|h
  ·subst h;exact XR _ hn
  ·exact List.mem_append_right _ (JX h hn)
section
variable {H:Type} {enc:TypeId×Value→H} {P:Program} {w:World} {base:Nat} {spare:Nat→Bool} {held:Bool}
theorem ZlI {t:TypeId} {F I J K M:Field} {x:DataW H×List MemPlace} (Z:P.underlying t=some (.struct #[F,I,J,K,M])) (D:oneCellFields P #[F,I,J,K,M]=true) (Y:P.cellsOf t=5)
 (h:DataW.trod enc P w base spare held fuel t cs=some x):
 ∃(v0 v1 v2 v3 v4:Value) (R y1 y2 S U:DataW H×List MemPlace) (n:Nat),cs= [v0,v1,v2,v3,v4]/\x.1= .agg [R.1,y1.1,y2.1,S.1,U.1]/\
  DataW.trod enc P w base spare held n F.type [v0]=some R/\DataW.trod enc P w base spare held n I.type [v1]=some y1/\DataW.trod enc P w base spare held n J.type [v2]=some y2/\DataW.trod enc P w base spare held n K.type [v3]=some S/\DataW.trod enc P w base spare held n M.type [v4]=some U:=by
 obtain ⟨xs,n,_,hx,X,Q,A⟩:=DataW.trod_struct Z h;obtain ⟨o0,k0⟩:=hone_of D 0 F rfl;obtain ⟨o1,k1⟩:=hone_of D 1 I rfl;obtain ⟨o2,k2⟩:=hone_of D 2 J rfl;obtain ⟨o3,k3⟩:=hone_of D 3 K rfl;obtain ⟨o4,k4⟩:=hone_of D 4 M rfl;rw[Y] at X;obtain ⟨c0,c1,c2,c3,c4,V⟩:=ZkX (cs:=cs.toArray) (by simpa using X);have V:cs= [c0,c1,c2,c3,c4]:=by simpa using Zy Array.toList V
 subst V
 match xs,Q with
 | [R,y1,y2,S,U],_=>exact ⟨c0,c1,c2,c3,c4,R,y1,y2,S,U,n,rfl,by rw[hx];rfl,by simpa [Value.cells,o0,k0] using A 0 F rfl,by simpa [Value.cells,o1,k1] using A 1 I rfl,by simpa [Value.cells,o2,k2] using A 2 J rfl,by simpa [Value.cells,o3,k3] using A 3 K rfl,by simpa [Value.cells,o4,k4] using A 4 M rfl⟩
theorem ZkY {cs:Array α} (h:cs.size=6):∃c0 c1 c2 c3 c4 c5,cs=#[c0,c1,c2,c3,c4,c5]:=by
 obtain ⟨l⟩:=cs
 match l,h with
 | [c0,c1,c2,c3,c4,c5],_=>exact ⟨c0,c1,c2,c3,c4,c5,rfl⟩
theorem ZlJ {t:TypeId} {F I J K M Q:Field} {x:DataW H×List MemPlace} (hs:P.underlying t=some (.struct #[F,I,J,K,M,Q])) (D:oneCellFields P #[F,I,J,K,M,Q]=true) (hC:P.cellsOf t=6)
 (h:DataW.trod enc P w base spare held fuel t cs=some x):
 ∃(v0 v1 v2 v3 v4 v5:Value) (S y1 y2 U V X:DataW H×List MemPlace) (n:Nat),cs= [v0,v1,v2,v3,v4,v5]/\x.1= .agg [S.1,y1.1,y2.1,U.1,V.1,X.1]/\
  DataW.trod enc P w base spare held n F.type [v0]=some S/\DataW.trod enc P w base spare held n I.type [v1]=some y1/\DataW.trod enc P w base spare held n J.type [v2]=some y2/\DataW.trod enc P w base spare held n K.type [v3]=some U/\DataW.trod enc P w base spare held n M.type [v4]=some V/\DataW.trod enc P w base spare held n Q.type [v5]=some X:=by
 obtain ⟨xs,n,_,hx,Z,R,A⟩:=DataW.trod_struct hs h;obtain ⟨o0,k0⟩:=hone_of D 0 F rfl;obtain ⟨o1,k1⟩:=hone_of D 1 I rfl;obtain ⟨o2,k2⟩:=hone_of D 2 J rfl;obtain ⟨o3,k3⟩:=hone_of D 3 K rfl;obtain ⟨o4,k4⟩:=hone_of D 4 M rfl;obtain ⟨o5,k5⟩:=hone_of D 5 Q rfl;rw[hC] at Z;obtain ⟨c0,c1,c2,c3,c4,c5,Y⟩:=ZkY (cs:=cs.toArray) (by simpa using Z);have Y:cs= [c0,c1,c2,c3,c4,c5]:=by simpa using Zy Array.toList Y
 subst Y
 match xs,R with
 | [S,y1,y2,U,V,X],_=>exact ⟨c0,c1,c2,c3,c4,c5,S,y1,y2,U,V,X,n,rfl,by rw[hx];rfl,by simpa [Value.cells,o0,k0] using A 0 F rfl,by simpa [Value.cells,o1,k1] using A 1 I rfl,by simpa [Value.cells,o2,k2] using A 2 J rfl,by simpa [Value.cells,o3,k3] using A 3 K rfl,by simpa [Value.cells,o4,k4] using A 4 M rfl,by simpa [Value.cells,o5,k5] using A 5 Q rfl⟩
end
section
variable {H:Type} {enc:TypeId×Value→H} {P:Program} {w:World} {base:Nat} {spare:Nat→Bool} {held:Bool}
theorem ZlH {t:TypeId} {A:Field} {x:DataW H×List MemPlace} (Q:P.underlying t=some (.struct #[A])) (I:oneCellFields P #[A]=true) (M:P.cellsOf t=1)
 (h:DataW.trod enc P w base spare held fuel t cs=some x):
 ∃(v0:Value) (J:DataW H×List MemPlace) (n:Nat),cs= [v0]/\x.1= .agg [J.1]/\DataW.trod enc P w base spare held n A.type [v0]=some J:=by
 obtain ⟨xs,n,_,R,K,F,D⟩:=DataW.trod_struct Q h;obtain ⟨U,S⟩:=hone_of I 0 A rfl;rw[M] at K
 match cs,K,xs,F with
 | [c0],_,[J],_=>exact ⟨c0,J,n,rfl,by rw[R];rfl,by simpa [Value.cells,U,S] using D 0 A rfl⟩
end
theorem KV {n:Int} (h:(Lit.int .i64 n).wf=true):i64ok n:=by
 have A:(decide (IntKind.min .i64<=n) && decide (n<=IntKind.max .i64))=true:=h;rw[Z2] at A;exact ⟨YG A.1,YG A.2⟩
section
variable {H:Type} {enc:TypeId×Value→H} {w:World}
theorem Zjm {x:DataW H×List MemPlace} (h:DataW.trod enc prog w 0 (λ_=>true) true fuel 76 cs=some x):
 ∃e:Ent,cs=eCells e/\i64ok e.upd/\((∀n∈x.1.weights prog 76,n<=reachBytes)->ewide e):=by
 obtain ⟨c0,c1,c2,c3,c4,y0,y1,y2,y3,y4,n,rfl,I,J,K,M,Q,R⟩:=ZlI underlying76 (by kernel_rfl) (by kernel_rfl) h;obtain ⟨s0,D,Y,b0⟩:=VF underlying9 J;obtain ⟨U,e1,w1,b1⟩:=VF underlying9 K;obtain ⟨V,e2,w2,b2⟩:=VF underlying9 M;obtain ⟨X,e3,w3,b3⟩:=VF underlying9 Q;obtain ⟨S,e4,Z,F⟩:=DataW.trod_int underlying2 R;injection D with D;injection e1 with e1;injection e2 with e2;injection e3 with e3;injection e4 with e4;subst D e1 e2 e3 e4;clear J K M Q R;rw[Y,w1,w2,w3,Z] at I;refine ⟨⟨s0,U,V,X,S⟩,rfl,KV F,λA=> ?_⟩;rw[I] at A;simp[DataW.weightsEach,DataW.weights,underlying76] at A;exact ⟨KV F,A.1,A.2.1,A.2.2.1,A.2.2.2⟩
theorem ZhP {x:DataW H×List MemPlace} (h:DataW.trod enc prog w 0 (λ_=>true) true fuel 53 [v]=some x):
 ∃l:List Ent,REnts w v l/\((∀n∈x.1.weights prog 53,n<=reachBytes)->l.length<=reachBytes/\∀e∈l,ewide e):=by
 rcases open_slice underlying53 h with ⟨I,V⟩|⟨a,len,cap,m,n,D,Pl,I,_,hl,hm,K,V,R⟩
 ·injection I with I;subst I;exact ⟨[],RSl.nil w 5,λ_=>⟨Zh _,by simp⟩⟩
 ·injection I with I;subst I;simp only[QE] at K;have M:=K.symm;subst M;have Z:prog.cellsOf 76=5:=by kernel_rfl
  have Q:prog.bytesOf 76=72:=by kernel_rfl
  obtain ⟨E,U⟩:=choose_lt (α:=Ent) (n:=len) (p:=λi e=>(∀j,j<5->w.cell? ((a.add (i*5)).add j)=(eCells e)[j]?)/\((∀n∈(D i).weights prog 76,n<=reachBytes)->ewide e)) (λi F=>by
   obtain ⟨X,S,Y⟩:=R i (by omega);obtain ⟨e,rfl,_,J⟩:=Zjm Y;rw[Z] at S;obtain ⟨_,_,A⟩:=World.cells?_some S;exact ⟨e,A,J⟩)
  refine ⟨(List.range len).map E,?_,λJ=> ?_⟩
  ·have:=V7 (w:=w) (k:=5) (by decide) (a:=a) (len:=len) (cap:=cap) (λi=>eCells (E i)) hl hm (λi F=>⟨rfl,(U i F).1⟩);unfold REnts flatE;rw[Zk,Jx,J4];exact this
  ·rw[V] at J;simp only[DataW.weights,underlying53,Q,Zk,Jx] at J;refine ⟨?_,λe he=> ?_⟩
   ·have:=J _ (ZS ..);rw[Zk,Jx];omega
   ·obtain ⟨i,F,rfl⟩:=ZO.1 he;have F:=XG.1 F;refine (U i F).2 λn hn=>J n (ZJ _ (XR _ (JX (ZO.2 ⟨i,XG.2 F,rfl⟩) hn)))
theorem ZfU {x:DataW H×List MemPlace} (h:DataW.trod enc prog w 0 (λ_=>true) true fuel 52 [v]=some x):
 ∃l:List ByteArray,RStrs w v l/\((∀n∈x.1.weights prog 52,n<=reachBytes)->l.length<=reachBytes/\∀s∈l,s.size<=reachBytes):=by
 rcases open_strs underlying52 underlying9 (by kernel_rfl) h with ⟨A,S⟩|⟨a,len,cap,m,D,A,_,U,V,F,S,M⟩
 ·injection A with A;subst A;exact ⟨[],RSl.nil w 1,λ_=>⟨Zh _,by simp⟩⟩
 ·injection A with A;subst A;simp only[QE] at F;have I:=F.symm;subst I;have K:prog.bytesOf 9=16:=by kernel_rfl
  refine ⟨(List.range len).map D,?_,λJ=> ?_⟩
  ·have:=V7 (w:=w) (k:=1) (by decide) (a:=a) (len:=len) (cap:=cap) (λi=> [.string (D i)]) U V (λi R=>⟨rfl,λj Y=>by
    have Q:j=0:=(by omega);subst Q;rw[add_zero,Nat.mul_one];exact (M i (by omega)).1⟩)
   unfold RStrs;rw[Zk,Jx,J4];have e:((List.range len).map λi=> [Value.string (D i)]).flatten=(List.range len).map (Value.string∘D):=by
    generalize List.range len=r
    induction r with
    |nil=>rfl
    |cons i t ih=>simp[ih]
   rw[<-e];exact this
  ·rw[S] at J;simp only[DataW.weights,underlying52,K,Zk,Jx] at J;refine ⟨?_,λs X=> ?_⟩
   ·have:=J _ (ZS ..);rw[Zk,Jx];omega
   ·obtain ⟨i,R,rfl⟩:=ZO.1 X;have:=J (D i).size (ZJ _ (XR _ (JX (ZO.2 ⟨i,R,rfl⟩) (by simp[DataW.weights]))));exact this
theorem Zkz {x:DataW H×List MemPlace} (h:DataW.trod enc prog w 0 (λ_=>true) true fuel 55 cs=some x):
 ∃f:Fc,cs=cellsC f/\RdC w f/\((∀n∈x.1.weights prog 55,n<=reachBytes)->fwide f.f):=by
 obtain ⟨c0,c1,c2,c3,c4,c5,y0,y1,y2,y3,y4,y5,n,rfl,J,K,M,Q,R,S,U⟩:=ZlJ underlying55 (by kernel_rfl) (by kernel_rfl) h;obtain ⟨l0,r0,q0⟩:=ZfU K;obtain ⟨V,e1,w1,b1⟩:=VF underlying9 M;obtain ⟨X,e2,w2,b2⟩:=VF underlying9 Q;obtain ⟨Y,e3,w3,b3⟩:=VF underlying9 R;obtain ⟨n4,e4,w4,Z⟩:=DataW.trod_int underlying2 S;obtain ⟨l5,r5,q5⟩:=ZhP U;injection e1 with e1;injection e2 with e2;injection e3 with e3;injection e4 with e4;subst e1 e2 e3 e4;clear K M Q R S U;rw[w1,w2,w3,w4] at J;refine ⟨⟨c0,c5,⟨l0,V,X,Y,n4,l5⟩⟩,rfl,⟨r0,r5⟩,λA=> ?_⟩;rw[J] at A;simp only[DataW.weights,underlying55,DataW.weightsEach,ZP,Yt,Ye,Jy] at A;have F:=q0 λn D=>A n (XR _ D);have I:=q5 λn D=>A n (by simp[D]);have g1:V.size<=reachBytes:=A _ (by simp);have g2:X.size<=reachBytes:=A _ (by simp);have g3:Y.size<=reachBytes:=A _ (by simp);exact ⟨KV Z,F.1,F.2,g1,g2,g3,I.1,I.2⟩
theorem Zjn {x:DataW H×List MemPlace} (h:DataW.trod enc prog w 0 (λ_=>true) true fuel 29 [v]=some x):
 ∃l:List Fc,RFcs w v l/\(∀y∈l,RdC w y)/\((∀n∈x.1.weights prog 29,n<=reachBytes)->l.length<=reachBytes/\∀y∈l,fwide y.f):=by
 rcases open_slice underlying29 h with ⟨I,X⟩|⟨a,len,cap,m,n,D,Pl,I,_,hl,hm,K,X,U⟩
 ·injection I with I;subst I;exact ⟨[],RSl.nil w 6,by simp,λ_=>⟨Zh _,by simp⟩⟩
 ·injection I with I;subst I;simp only[QE] at K;have M:=K.symm;subst M;have Z:prog.cellsOf 55=6:=by kernel_rfl
  have S:1<=prog.bytesOf 55:=YG (by kernel_rfl);obtain ⟨E,R⟩:=choose_lt (α:=Fc) (n:=len) (p:=λi e=>(∀j,j<6->w.cell? ((a.add (i*6)).add j)=(cellsC e)[j]?)/\RdC w e/\((∀n∈(D i).weights prog 55,n<=reachBytes)->fwide e.f)) (λi A=>by
   obtain ⟨Y,Q,V⟩:=U i (by omega);obtain ⟨e,rfl,hr,J⟩:=Zkz V;rw[Z] at Q;obtain ⟨_,_,F⟩:=World.cells?_some Q;exact ⟨e,F,hr,J⟩)
  refine ⟨(List.range len).map E,?_,λy hy=> ?_,λJ=> ?_⟩
  ·have:=V7 (w:=w) (k:=6) (by decide) (a:=a) (len:=len) (cap:=cap) (λi=>cellsC (E i)) hl hm (λi A=>⟨rfl,(R i A).1⟩);unfold RFcs flatC;rw[Zk,Jx,J4];exact this
  ·obtain ⟨i,A,rfl⟩:=ZO.1 hy;exact (R i (XG.1 A)).2.1
  ·rw[X] at J;simp only[DataW.weights,underlying29,Zk,Jx] at J;refine ⟨?_,λe he=> ?_⟩
   ·have Q:=J _ (ZS ..);rw[Zk,Jx];have V:len+(cap - len)<=(len+(cap - len))*prog.bytesOf 55:=Nat.le_mul_of_pos_right _ S;omega
   ·obtain ⟨i,A,rfl⟩:=ZO.1 he;have A:=XG.1 A;exact (R i A).2.2 λn hn=>J n (ZJ _ (XR _ (JX (ZO.2 ⟨i,XG.2 A,rfl⟩) hn)))
theorem Zjl {x:DataW H×List MemPlace} (h:DataW.trod enc prog w 0 (λ_=>true) true fuel 31 cs=some x):
 ∃(v:Value) (l:List Fc),cs= [v]/\RFcs w v l/\(∀y∈l,RdC w y)/\((∀n∈x.1.weights prog 31,n<=reachBytes)->l.length<=reachBytes/\∀y∈l,fwide y.f):=by
 obtain ⟨v0,M,n,rfl,J,K⟩:=ZlH underlying31 (by kernel_rfl) (by kernel_rfl) h;obtain ⟨l,F,A,I⟩:=Zjn K;refine ⟨v0,l,rfl,F,A,λh=>I λn D=>h n ?_⟩;rw[J];simp only[DataW.weights,underlying31,DataW.weightsEach,ZP,Yt,Ye];exact D
end
end
theorem Zi7 (os:Os) (A:os.Started) (H:Type) (enc:TypeId×Value->H):
 ReturnsInHanded {} checked os 8 .any (λw args=>(Rows.opmlOutlinesSpec.pre enc prog f8 [] false w args/\laidMetH prog laidAll w)/\sizedMet enc prog f8 (OpenSpec.ofChange Rows.opmlOutlinesSpec) false w args)
  (Rows.opmlOutlinesSpec.post enc prog f8 false true false false):=by
 refine returnsInHanded_of_change_and (C:=checked) (X:=λw _=>laidMetH prog laidAll w) (λ_ _ _ hh h=>h.of_heap hh) ZlN A (by kernel_rfl) func8
  (ChangeSpec.witness_shaped (enc:=enc) (C:=checked) (os:=os) (X:=λw _=>laidMetH prog laidAll w) false (World.laidAll prog os laidAll) #[.agg #[sN]] 8 (World.laidAll_os _ _ _)
   (World.shaped_of_ZipB (by kernel_rfl) (by kernel_rfl)) (by kernel_rfl) (by kernel_rfl) (by kernel_rfl)
   (by rw[MakeChecks.laidMetH_plain _ _ _ (by kernel_rfl)];exact laidMet_laidAll _ (by kernel_rfl) (by kernel_rfl))) ?_
 intro W base args ds gs ha M hW hc U hL _;have F:∀(j:Nat) t v,f8.params[j]? =some t->args[j]? =some v->Value.okWide prog W .any base t v:=M;have Q:=hW;obtain ⟨p,q,hd,hV,rfl,_,_⟩:=hW;have hA:DataW.TrodAll enc prog W 0 (λ_=>true) true f8.params.toList args.toList ds p:=hd;rw[params8] at hA F;obtain ⟨v0,d0,rfl,rfl,h0⟩:=trodAll_one hA;obtain ⟨rfl,rfl⟩:=trodVars_none hV;have hb:=h0;rw[MakeChecks.laidMetH_plain _ _ _ (by kernel_rfl)] at hL;have hE:=Zdl hL;have Z:(DataW.weightsEach prog [31] [d0]).all (· <=reachBytes)=true:=by have h:=U;rw[params8] at h;exact h
 have Y:=Yk.1 Z;have V:∀n∈d0.weights prog 31,n<=reachBytes:=λn hn=>YG (Y n (by simpa only[DataW.weightsEach,Ye] using hn));clear U Z Y;have hg:∀x∈p,x.block<W.heap.size:=λx hx=>by simpa using Q.lt x (XR _ hx)
 obtain ⟨J,hf⟩:=h0;obtain ⟨D,rfl,_⟩:=okWide_struct underlying31 (F 0 31 v0 rfl rfl);obtain ⟨u0,l0,R,hi,S,I⟩:=Zjl (show DataW.trod enc prog W 0 (λ_=>true) true J 31 D.toList=some (d0,p) from hf);have K:D=#[u0]:=by rw[show D=D.toList.toArray by simp,R]
 subst K;refine (Zhp _ l0 W hE (ZfP hL) hi S (I V).1 (I V).2).mono λe W' ⟨he,hx⟩=> ?_;subst he;have hB:Below W.heap.size W W':=hx;refine ⟨_,rfl,_,_,_,[],p,[],Q,?_,?_,?_,hB.frame _,λh=>by cases h⟩
 ·exact trodAll_mk1 (shut_bool underlying4 _)
 ·exact trodAll_mk1 (Below.trod Zi1 (by kernel_rfl) (YG (by kernel_rfl)) hb hB hg)
 ·rfl
theorem Ea:(Rows.opmlOutlinesRow.wf (OpenSpec.ofChange Rows.opmlOutlinesSpec))=true:=by kernel_rfl
theorem Eb:(laidOutB prog)=true:=by kernel_rfl
theorem Ec:(mapsRowed prog)=true:=by kernel_rfl
theorem Ed:(f8.params.all (prog.readableRec ·))=true:=by kernel_rfl
theorem Ee:(namedTie prog Rows.opmlOutlinesRow.named Rows.opmlOutlinesSpec.vars)=true:=by kernel_rfl
theorem Ef:((Rows.opmlOutlinesRow.stops== []))=true:=by kernel_rfl
theorem Eg:((prog.stops== []))=true:=by kernel_rfl
theorem Eh:((Rows.opmlOutlinesRow.knobs== []))=true:=by kernel_rfl
theorem Ei:((prog.stopKnobs== []))=true:=by kernel_rfl
theorem Ej:((Rows.opmlOutlinesRow.inPlace==prog.inPlace 8))=true:=by kernel_rfl
theorem K3:((Rows.opmlOutlinesRow.unfollowed==prog.unfollowed 8))=true:=by kernel_rfl
theorem K6:((Rows.opmlOutlinesRow.recurses==prog.recurses 8))=true:=by kernel_rfl
theorem K8:((Rows.opmlOutlinesRow.named==prog.varsNamed 8))=true:=by kernel_rfl
theorem Ia:((Rows.opmlOutlinesRow.maps==(f8.params.toList++Rows.opmlOutlinesSpec.plain.varTypes prog).any (prog.mapsRec ·)))=true:=by kernel_rfl
theorem Ib:((Rows.opmlOutlinesRow.ifaces==(f8.params.toList++Rows.opmlOutlinesSpec.plain.varTypes prog).any (prog.ifacesRec ·)))=true:=by kernel_rfl
theorem Ic:((Rows.opmlOutlinesRow.mapsOut==prog.mapsAmong f8.resultTypes.toList))=true:=by kernel_rfl
theorem Id:((Rows.opmlOutlinesRow.loops==(f8.params.toList++Rows.opmlOutlinesSpec.plain.varTypes prog).any (prog.loopsFrom ·)))=true:=by kernel_rfl
theorem Ie:((Rows.opmlOutlinesRow.wideKeys==(f8.params.toList++Rows.opmlOutlinesSpec.plain.varTypes prog++f8.resultTypes.toList).any (prog.wideKeysFrom ·)))=true:=by kernel_rfl
theorem If:(Rows.opmlOutlinesSpec.vars.all (prog.varReadable ·))=true:=by kernel_rfl
theorem Ig:(f8.resultTypes.all (λt=>prog.readableRec t && decide (t<prog.types.size)))=true:=by kernel_rfl
theorem Ih:((Rows.opmlOutlinesRow.ifacesOut==f8.resultTypes.toList.any (prog.ifacesRec ·)))=true:=by kernel_rfl
theorem Ii:((Rows.opmlOutlinesRow.loopsOut==f8.resultTypes.toList.any (prog.loopsFrom ·)))=true:=by kernel_rfl
theorem Ij:((Rows.opmlOutlinesRow.plainKeys==prog.plainKeys))=true:=by kernel_rfl
theorem Ik:(Rows.opmlOutlinesRow.shortTexts.isNone)=true:=by kernel_rfl
theorem Il:(prog.stopsHeard)=true:=by kernel_rfl
theorem Im:(prog.mayEnter)=true:=by kernel_rfl
theorem In:((Rows.opmlOutlinesRow.lifted==prog.liftsFinal))=true:=by kernel_rfl
theorem Io:((prog.make==some Rows.opmlOutlinesRow.make))=true:=by kernel_rfl
theorem Ip:((Rows.opmlOutlinesRow.kinds==(if Rows.opmlOutlinesRow.domain.isEmpty then [] else f8.params.toList.map λt=>match prog.underlying t with|some (.int k)=>some k|_=>none)))=true:=by kernel_rfl
theorem Iq:((Rows.opmlOutlinesRow.pinned==Rows.opmlOutlinesRow.pinnedBy))=true:=by kernel_rfl
theorem Ir:((Rows.opmlOutlinesRow.veiled==(f8.params.toList++Rows.opmlOutlinesSpec.plain.varTypes prog++f8.resultTypes.toList).any (prog.veiledRec ·)))=true:=by kernel_rfl
theorem Is:(Rows.opmlOutlinesRow.veiledFits prog f8.params.toList (f8.params.toList++Rows.opmlOutlinesSpec.plain.varTypes prog++f8.resultTypes.toList))=true:=by kernel_rfl
theorem IT : prog.funcNamed "feedvault/feedvaultlaw19.OpmlOutlines" = some 8 := by kernel_rfl
theorem ZfC:f8.isInstance prog Rows.opmlOutlinesRow.origin Rows.opmlOutlinesRow.targs:=YG (by kernel_rfl)
theorem ZfE:f8.isWrapper prog Rows.opmlOutlinesRow.wrapper Rows.opmlOutlinesRow.mainSum:=by unfold Func.isWrapper;first|(rw[Zl (by decide+kernel)];kernel_rfl)|(rw[Zg (by decide+kernel)];exact ⟨rfl,rfl⟩)
theorem Zi4:Rows.opmlOutlinesRow.wfByText (OpenSpec.ofChange Rows.opmlOutlinesSpec)=true:=by kernel_rfl
theorem ZfD : prog.mainIs = some (true, "fc646f4ec087820d56142a8d3af391f2978304ac98ac4e0c4d0ed1d31e8fe297".toList) := by kernel_rfl
theorem ZdS:false=prog.looks []:=by kernel_rfl
theorem ZaX:([31].all λu=> !prog.wantsStandIn u)=true:=by kernel_rfl
theorem ZfB:false=Rows.opmlOutlinesRow.goesBy prog:=by kernel_rfl
theorem YY {a b:Bool} (h:a=true) (k:b=true):(a && b)=true:=by rw[h,k];rfl
theorem ZdQ:joinedFacts prog 8 f8 Rows.opmlOutlinesSpec Rows.opmlOutlinesRow=true:=by
 unfold joinedFacts;exact YY (YY (YY (YY (YY (YY (YY (YY (YY (YY (YY (YY (YY (YY (YY (YY (YY (YY (YY (YY (YY (YY (YY (YY (YY (YY (YY (YY (YY (YY (YY Ea Eb) Ec) Ed) Ee) Ef) Eg) Eh) Ei) Ej) K3) K6) K8) Ia) Ib) Ic) Id) Ie) If) Ig) Ih) Ii) Ij) Ik) Il) Im) In) Io) Ip) Iq) Ir) Is
theorem ZdR:Rows.OpmlOutlinesSaid:=
 OpenClaim.holds_of_wide 8 f8 rfl rfl rfl rfl rfl rfl rfl ⟨rfl,rfl,rfl,rfl,rfl⟩ rfl rfl rfl rfl rfl IT func8 ZdQ
  ZfC ZfE
  (λos h H enc _=>Zi7 os h H enc)
theorem opmlOutlines_holds:Rows.OpmlOutlinesCardSaid:=
 Claim7.holds_tied_plain_at .later [] [.data, .data, .data, .data, .data, .data, .data, .pinned] true (true, "fc646f4ec087820d56142a8d3af391f2978304ac98ac4e0c4d0ed1d31e8fe297") false ZdR (fun _ h => by cases h) Zi4 (fun _ h => by cases h) opmlOutlines_row_tie rfl ⟨rfl, rfl⟩ ZfD rfl
  (λf fn hf hfn=>by
   obtain rfl:f=8:=YX (IT.symm.trans hf)|>.symm
   obtain rfl:fn=f8:=(YX (func8.symm.trans hfn)).symm
   exact ⟨ZdS,λj t ht=>by
    rw[params8] at ht
    have hm:t∈ [31]:=(by simpa using Array.mem_of_getElem? ht)
    exact (show prog.wantsStandIn t=false by simpa using Yk.1 ZaX t hm)⟩)
  ZfB
#print axioms opmlOutlines_holds
end Go.Proofs.YtnlafkgkcnenfaaGreatDoor
