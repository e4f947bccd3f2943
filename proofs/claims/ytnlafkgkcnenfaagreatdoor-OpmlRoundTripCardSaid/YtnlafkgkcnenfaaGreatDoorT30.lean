/- Parts of the proof: contracts and plain laws. -/
import Derived.Test.YtnlafkgkcnenfaaGreatDoorRows
import Derived.Test.YtnlafkgkcnenfaaGreatDoorCards
import Derived.Test.YtnlafkgkcnenfaaGreatDoorT29
namespace Go.Proofs.YtnlafkgkcnenfaaGreatDoor
open Go Go.ChangeShapes Go.WideShapes Go.RowKit Go.Deep Go.ChangeAt Go.Joins _root_.Go.Proofs.Tryz
set_option linter.unusedVariables false
set_option linter.unusedSimpArgs false
set_option linter.unusedSimpArgs false
set_option maxRecDepth 100000
set_option maxHeartbeats 16000000
section
variable {cap fuel k:Nat} {cs:List Value} {v:Value} {w:World} {α:Type}
theorem ZmX {cs:Array α} (h:cs.size=5):∃c0 c1 c2 c3 c4,cs=#[c0,c1,c2,c3,c4]:=by
 obtain ⟨l⟩:=cs
 match l,h with
 | [c0,c1,c2,c3,c4],_=>exact ⟨c0,c1,c2,c3,c4,rfl⟩
instance openEnt:Inhabited Ent:=⟨zeroE⟩
instance openFc:Inhabited Fc:=⟨⟨sN,sN,zeroF⟩⟩
theorem ZcY {α:Type} {k:Nat} (D:0<k):∀(css:List (List α)),(∀c∈css,c.length=k)->∀j,css.flatten[j]? =(css[j / k]?).bind λc=>c[j % k]?
 | [],_,j=>by simp
 |c::t,h,j=>by
  have F:c.length=k:=h c (by simp)
  rw[X0]
  by_cases A:j<k
  ·rw[YY (by omega),Nat.div_eq_of_lt A,Nat.mod_eq_of_lt A]
   rfl
  ·rw[Ym (by omega),F,ZcY D t (λx H=>h x (by simp[H]))]
   have e1:j / k=(j - k) / k+1:=by
    have:=Nat.div_eq_sub_div D (show k<=j by omega)
    omega
   have e2:j % k=(j - k) % k:=Nat.mod_eq_sub_mod (by omega)
   rw[e1,e2,List.getElem?_cons_succ]
theorem Qg (K:0<k) {a:Addr} {len:Nat} (css:Nat->List Value) (Q:len<=cap) (R:cap<=maxLen)
 (h:∀i,i<len->(css i).length=k/\∀j,j<k->w.cell? ((a.add (i*k)).add j)=(css i)[j]?):RSl w k (.slice (some a) len cap) len ((List.range len).map css).flatten:=by
 have A:∀c∈(List.range len).map css,c.length=k:=by intro c S;obtain ⟨i,F,rfl⟩:=ZS.1 S;exact (h i (XK.1 F)).1
 refine ⟨?_,some a,cap,rfl,Q,R,(λe=>by cases e),λj u D=>⟨a,rfl,?_⟩⟩
 ·clear R Q;have J:∀(l:List (List Value)),(∀c∈l,c.length=k)->l.flatten.length=l.length*k:=by
   intro l
   induction l with
   |nil=>intro _;simp
   |cons c t ih=>intro h;rw[X0,Zc,h c (by simp),ih λx U=>h x (by simp[U]),Zd,Nat.succ_mul];omega
  rw[J _ A];simp
 ·rw[ZcY K _ A] at D;by_cases F:j / k<len
  ·have e:((List.range len).map css)[j / k]? =some (css (j / k)):=(by simp[F]);rw[e] at D;have I:(css (j / k))[j % k]? =some u:=D;have H:=(h (j / k) F).2 (j % k) (Nat.mod_lt _ K);rw[UK] at H;have e2:j / k*k+j % k=j:=(by rw[Qy];exact Nat.div_add_mod j k);rw[e2] at H;rw[H,I]
  ·have e:((List.range len).map css)[j / k]? =none:=(by simp;omega);rw[e] at D;cases D
theorem JY {H:Type} {P:Program} {e:TypeId} {n:Nat}:∀{l:List (DataW H)} {d:DataW H},d∈l->n∈d.weights P e->n∈DataW.weightsAll P e l
 | [],_,h,_=>by simp at h
 |x::t,d,h,hn=>by
  unfold DataW.weightsAll
  rcases ZK.1 h with h|h
  ·subst h;exact XP _ hn
  ·exact List.mem_append_right _ (JY h hn)
section
variable {H:Type} {enc:TypeId×Value→H} {P:Program} {w:World} {base:Nat} {spare:Nat→Bool} {held:Bool}
theorem ZnN {t:TypeId} {F I J K Q:Field} {x:DataW H×List MemPlace} (hs:P.underlying t=some (.struct #[F,I,J,K,Q])) (D:oneCellFields P #[F,I,J,K,Q]=true) (Z:P.cellsOf t=5)
 (h:DataW.trod enc P w base spare held fuel t cs=some x):
 ∃(v0 v1 v2 v3 v4:Value) (S y1 y2 U V:DataW H×List MemPlace) (n:Nat),cs= [v0,v1,v2,v3,v4]/\x.1= .agg [S.1,y1.1,y2.1,U.1,V.1]/\
  DataW.trod enc P w base spare held n F.type [v0]=some S/\DataW.trod enc P w base spare held n I.type [v1]=some y1/\DataW.trod enc P w base spare held n J.type [v2]=some y2/\DataW.trod enc P w base spare held n K.type [v3]=some U/\DataW.trod enc P w base spare held n Q.type [v4]=some V:=by
 obtain ⟨xs,n,_,hx,Y,R,A⟩:=DataW.trod_struct hs h;obtain ⟨o0,k0⟩:=hone_of D 0 F rfl;obtain ⟨o1,k1⟩:=hone_of D 1 I rfl;obtain ⟨o2,k2⟩:=hone_of D 2 J rfl;obtain ⟨o3,k3⟩:=hone_of D 3 K rfl;obtain ⟨o4,k4⟩:=hone_of D 4 Q rfl;rw[Z] at Y;obtain ⟨c0,c1,c2,c3,c4,X⟩:=ZmX (cs:=cs.toArray) (by simpa using Y);have X:cs= [c0,c1,c2,c3,c4]:=by simpa using ZC Array.toList X
 subst X
 match xs,R with
 | [S,y1,y2,U,V],_=>exact ⟨c0,c1,c2,c3,c4,S,y1,y2,U,V,n,rfl,by rw[hx];rfl,by simpa [Value.cells,o0,k0] using A 0 F rfl,by simpa [Value.cells,o1,k1] using A 1 I rfl,by simpa [Value.cells,o2,k2] using A 2 J rfl,by simpa [Value.cells,o3,k3] using A 3 K rfl,by simpa [Value.cells,o4,k4] using A 4 Q rfl⟩
theorem ZmY {cs:Array α} (h:cs.size=6):∃c0 c1 c2 c3 c4 c5,cs=#[c0,c1,c2,c3,c4,c5]:=by
 obtain ⟨l⟩:=cs
 match l,h with
 | [c0,c1,c2,c3,c4,c5],_=>exact ⟨c0,c1,c2,c3,c4,c5,rfl⟩
theorem ZnO {t:TypeId} {F I J K Q R:Field} {x:DataW H×List MemPlace} (hs:P.underlying t=some (.struct #[F,I,J,K,Q,R])) (D:oneCellFields P #[F,I,J,K,Q,R]=true) (hC:P.cellsOf t=6)
 (h:DataW.trod enc P w base spare held fuel t cs=some x):
 ∃(v0 v1 v2 v3 v4 v5:Value) (U y1 y2 V X Y:DataW H×List MemPlace) (n:Nat),cs= [v0,v1,v2,v3,v4,v5]/\x.1= .agg [U.1,y1.1,y2.1,V.1,X.1,Y.1]/\
  DataW.trod enc P w base spare held n F.type [v0]=some U/\DataW.trod enc P w base spare held n I.type [v1]=some y1/\DataW.trod enc P w base spare held n J.type [v2]=some y2/\DataW.trod enc P w base spare held n K.type [v3]=some V/\DataW.trod enc P w base spare held n Q.type [v4]=some X/\DataW.trod enc P w base spare held n R.type [v5]=some Y:=by
 obtain ⟨xs,n,_,hx,hl,S,A⟩:=DataW.trod_struct hs h;obtain ⟨o0,k0⟩:=hone_of D 0 F rfl;obtain ⟨o1,k1⟩:=hone_of D 1 I rfl;obtain ⟨o2,k2⟩:=hone_of D 2 J rfl;obtain ⟨o3,k3⟩:=hone_of D 3 K rfl;obtain ⟨o4,k4⟩:=hone_of D 4 Q rfl;obtain ⟨o5,k5⟩:=hone_of D 5 R rfl;rw[hC] at hl;obtain ⟨c0,c1,c2,c3,c4,c5,Z⟩:=ZmY (cs:=cs.toArray) (by simpa using hl);have Z:cs= [c0,c1,c2,c3,c4,c5]:=by simpa using ZC Array.toList Z
 subst Z
 match xs,S with
 | [U,y1,y2,V,X,Y],_=>exact ⟨c0,c1,c2,c3,c4,c5,U,y1,y2,V,X,Y,n,rfl,by rw[hx];rfl,by simpa [Value.cells,o0,k0] using A 0 F rfl,by simpa [Value.cells,o1,k1] using A 1 I rfl,by simpa [Value.cells,o2,k2] using A 2 J rfl,by simpa [Value.cells,o3,k3] using A 3 K rfl,by simpa [Value.cells,o4,k4] using A 4 Q rfl,by simpa [Value.cells,o5,k5] using A 5 R rfl⟩
end
section
variable {H:Type} {enc:TypeId×Value→H} {P:Program} {w:World} {base:Nat} {spare:Nat→Bool} {held:Bool}
theorem ZnM {t:TypeId} {A:Field} {x:DataW H×List MemPlace} (R:P.underlying t=some (.struct #[A])) (I:oneCellFields P #[A]=true) (Q:P.cellsOf t=1)
 (h:DataW.trod enc P w base spare held fuel t cs=some x):
 ∃(v0:Value) (J:DataW H×List MemPlace) (n:Nat),cs= [v0]/\x.1= .agg [J.1]/\DataW.trod enc P w base spare held n A.type [v0]=some J:=by
 obtain ⟨xs,n,_,S,K,F,D⟩:=DataW.trod_struct R h;obtain ⟨V,U⟩:=hone_of I 0 A rfl;rw[Q] at K
 match cs,K,xs,F with
 | [c0],_,[J],_=>exact ⟨c0,J,n,rfl,by rw[S];rfl,by simpa [Value.cells,V,U] using D 0 A rfl⟩
end
theorem I0 {n:Int} (h:(Lit.int .i64 n).wf=true):i64ok n:=by
 have A:(decide (IntKind.min .i64<=n) && decide (n<=IntKind.max .i64))=true:=h;rw[ZH] at A;exact ⟨Yw A.1,Yw A.2⟩
section
variable {H:Type} {enc:TypeId×Value→H} {w:World}
theorem Zlm {x:DataW H×List MemPlace} (h:DataW.trod enc prog w 0 (λ_=>true) true fuel 76 cs=some x):
 ∃e:Ent,cs=eCells e/\i64ok e.upd/\((∀n∈x.1.weights prog 76,n<=reachBytes)->ewide e):=by
 obtain ⟨c0,c1,c2,c3,c4,y0,y1,y2,y3,y4,n,rfl,F,I,J,K,Q,R⟩:=ZnN underlying76 (by kernel_rfl) (by kernel_rfl) h;obtain ⟨s0,D,Y,b0⟩:=VP underlying9 I;obtain ⟨U,e1,w1,b1⟩:=VP underlying9 J;obtain ⟨V,e2,w2,b2⟩:=VP underlying9 K;obtain ⟨X,e3,Z,b3⟩:=VP underlying9 Q;obtain ⟨S,e4,w4,b4⟩:=DataW.trod_int underlying2 R;injection D with D;injection e1 with e1;injection e2 with e2;injection e3 with e3;injection e4 with e4;subst D e1 e2 e3 e4;clear I J K Q R;rw[Y,w1,w2,Z,w4] at F;refine ⟨⟨s0,U,V,X,S⟩,rfl,I0 b4,λA=> ?_⟩;rw[F] at A;simp[DataW.weightsEach,DataW.weights,underlying76] at A;exact ⟨I0 b4,A.1,A.2.1,A.2.2.1,A.2.2.2⟩
theorem ZjQ {x:DataW H×List MemPlace} (h:DataW.trod enc prog w 0 (λ_=>true) true fuel 53 [v]=some x):
 ∃l:List Ent,REnts w v l/\((∀n∈x.1.weights prog 53,n<=reachBytes)->l.length<=reachBytes/\∀e∈l,ewide e):=by
 rcases open_slice underlying53 h with ⟨I,X⟩|⟨a,len,cap,m,n,D,Pl,I,_,hl,hm,K,X,S⟩
 ·injection I with I;subst I;exact ⟨[],RSl.nil w 5,λ_=>⟨Zh _,by simp⟩⟩
 ·injection I with I;subst I;simp only[J9] at K;have Q:=K.symm;subst Q;have hc:prog.cellsOf 76=5:=by kernel_rfl
  have R:prog.bytesOf 76=72:=by kernel_rfl
  obtain ⟨E,V⟩:=choose_lt (α:=Ent) (n:=len) (p:=λi e=>(∀j,j<5->w.cell? ((a.add (i*5)).add j)=(eCells e)[j]?)/\((∀n∈(D i).weights prog 76,n<=reachBytes)->ewide e)) (λi F=>by
   obtain ⟨Y,U,Z⟩:=S i (by omega);obtain ⟨e,rfl,_,J⟩:=Zlm Z;rw[hc] at U;obtain ⟨_,_,A⟩:=World.cells?_some U;exact ⟨e,A,J⟩)
  refine ⟨(List.range len).map E,?_,λJ=> ?_⟩
  ·have:=Qg (w:=w) (k:=5) (by decide) (a:=a) (len:=len) (cap:=cap) (λi=>eCells (E i)) hl hm (λi F=>⟨rfl,(V i F).1⟩);unfold REnts flatE;rw[Zm,Ju,X1];exact this
  ·rw[X] at J;simp only[DataW.weights,underlying53,R,Zm,Ju] at J;refine ⟨?_,λe he=> ?_⟩
   ·have:=J _ (ZF ..);rw[Zm,Ju];omega
   ·obtain ⟨i,F,rfl⟩:=ZS.1 he;have F:=XK.1 F;refine (V i F).2 λn hn=>J n (Zu _ (XP _ (JY (ZS.2 ⟨i,XK.2 F,rfl⟩) hn)))
theorem Zhz {x:DataW H×List MemPlace} (h:DataW.trod enc prog w 0 (λ_=>true) true fuel 52 [v]=some x):
 ∃l:List ByteArray,RStrs w v l/\((∀n∈x.1.weights prog 52,n<=reachBytes)->l.length<=reachBytes/\∀s∈l,s.size<=reachBytes):=by
 rcases open_strs underlying52 underlying9 (by kernel_rfl) h with ⟨A,U⟩|⟨a,len,cap,m,D,A,_,V,X,F,U,Q⟩
 ·injection A with A;subst A;exact ⟨[],RSl.nil w 1,λ_=>⟨Zh _,by simp⟩⟩
 ·injection A with A;subst A;simp only[J9] at F;have I:=F.symm;subst I;have K:prog.bytesOf 9=16:=by kernel_rfl
  refine ⟨(List.range len).map D,?_,λJ=> ?_⟩
  ·have:=Qg (w:=w) (k:=1) (by decide) (a:=a) (len:=len) (cap:=cap) (λi=> [.string (D i)]) V X (λi S=>⟨rfl,λj Z=>by
    have R:j=0:=(by omega);subst R;rw[add_zero,Nat.mul_one];exact (Q i (by omega)).1⟩)
   unfold RStrs;rw[Zm,Ju,X1];have e:((List.range len).map λi=> [Value.string (D i)]).flatten=(List.range len).map (Value.string∘D):=by
    generalize List.range len=r
    induction r with
    |nil=>rfl
    |cons i t ih=>simp[ih]
   rw[<-e];exact this
  ·rw[U] at J;simp only[DataW.weights,underlying52,K,Zm,Ju] at J;refine ⟨?_,λs Y=> ?_⟩
   ·have:=J _ (ZF ..);rw[Zm,Ju];omega
   ·obtain ⟨i,S,rfl⟩:=ZS.1 Y;have:=J (D i).size (Zu _ (XP _ (JY (ZS.2 ⟨i,S,rfl⟩) (by simp[DataW.weights]))));exact this
theorem Zmz {x:DataW H×List MemPlace} (h:DataW.trod enc prog w 0 (λ_=>true) true fuel 55 cs=some x):
 ∃f:Fc,cs=cellsC f/\RdC w f/\((∀n∈x.1.weights prog 55,n<=reachBytes)->fwide f.f):=by
 obtain ⟨c0,c1,c2,c3,c4,c5,y0,y1,y2,y3,y4,y5,n,rfl,J,K,Q,R,S,U,V⟩:=ZnO underlying55 (by kernel_rfl) (by kernel_rfl) h;obtain ⟨l0,r0,q0⟩:=Zhz K;obtain ⟨X,e1,w1,b1⟩:=VP underlying9 Q;obtain ⟨Y,e2,w2,b2⟩:=VP underlying9 R;obtain ⟨Z,e3,w3,b3⟩:=VP underlying9 S;obtain ⟨n4,e4,w4,b4⟩:=DataW.trod_int underlying2 U;obtain ⟨l5,r5,q5⟩:=ZjQ V;injection e1 with e1;injection e2 with e2;injection e3 with e3;injection e4 with e4;subst e1 e2 e3 e4;clear K Q R S U V;rw[w1,w2,w3,w4] at J;refine ⟨⟨c0,c5,⟨l0,X,Y,Z,n4,l5⟩⟩,rfl,⟨r0,r5⟩,λA=> ?_⟩;rw[J] at A;simp only[DataW.weights,underlying55,DataW.weightsEach,Zw,Yc,ZX,Yt] at A;have F:=q0 λn D=>A n (XP _ D);have I:=q5 λn D=>A n (by simp[D]);have g1:X.size<=reachBytes:=A _ (by simp);have g2:Y.size<=reachBytes:=A _ (by simp);have g3:Z.size<=reachBytes:=A _ (by simp);exact ⟨I0 b4,F.1,F.2,g1,g2,g3,I.1,I.2⟩
theorem Zln {x:DataW H×List MemPlace} (h:DataW.trod enc prog w 0 (λ_=>true) true fuel 29 [v]=some x):
 ∃l:List Fc,RFcs w v l/\(∀y∈l,RdC w y)/\((∀n∈x.1.weights prog 29,n<=reachBytes)->l.length<=reachBytes/\∀y∈l,fwide y.f):=by
 rcases open_slice underlying29 h with ⟨I,Y⟩|⟨a,len,cap,m,n,D,Pl,I,_,hl,hm,K,Y,V⟩
 ·injection I with I;subst I;exact ⟨[],RSl.nil w 6,by simp,λ_=>⟨Zh _,by simp⟩⟩
 ·injection I with I;subst I;simp only[J9] at K;have Q:=K.symm;subst Q;have hc:prog.cellsOf 55=6:=by kernel_rfl
  have U:1<=prog.bytesOf 55:=Yw (by kernel_rfl);obtain ⟨E,S⟩:=choose_lt (α:=Fc) (n:=len) (p:=λi e=>(∀j,j<6->w.cell? ((a.add (i*6)).add j)=(cellsC e)[j]?)/\RdC w e/\((∀n∈(D i).weights prog 55,n<=reachBytes)->fwide e.f)) (λi A=>by
   obtain ⟨Z,R,X⟩:=V i (by omega);obtain ⟨e,rfl,hr,J⟩:=Zmz X;rw[hc] at R;obtain ⟨_,_,F⟩:=World.cells?_some R;exact ⟨e,F,hr,J⟩)
  refine ⟨(List.range len).map E,?_,λy hy=> ?_,λJ=> ?_⟩
  ·have:=Qg (w:=w) (k:=6) (by decide) (a:=a) (len:=len) (cap:=cap) (λi=>cellsC (E i)) hl hm (λi A=>⟨rfl,(S i A).1⟩);unfold RFcs flatC;rw[Zm,Ju,X1];exact this
  ·obtain ⟨i,A,rfl⟩:=ZS.1 hy;exact (S i (XK.1 A)).2.1
  ·rw[Y] at J;simp only[DataW.weights,underlying29,Zm,Ju] at J;refine ⟨?_,λe he=> ?_⟩
   ·have R:=J _ (ZF ..);rw[Zm,Ju];have X:len+(cap - len)<=(len+(cap - len))*prog.bytesOf 55:=Nat.le_mul_of_pos_right _ U;omega
   ·obtain ⟨i,A,rfl⟩:=ZS.1 he;have A:=XK.1 A;exact (S i A).2.2 λn hn=>J n (Zu _ (XP _ (JY (ZS.2 ⟨i,XK.2 A,rfl⟩) hn)))
theorem Zll {x:DataW H×List MemPlace} (h:DataW.trod enc prog w 0 (λ_=>true) true fuel 31 cs=some x):
 ∃(v:Value) (l:List Fc),cs= [v]/\RFcs w v l/\(∀y∈l,RdC w y)/\((∀n∈x.1.weights prog 31,n<=reachBytes)->l.length<=reachBytes/\∀y∈l,fwide y.f):=by
 obtain ⟨v0,Q,n,rfl,J,K⟩:=ZnM underlying31 (by kernel_rfl) (by kernel_rfl) h;obtain ⟨l,F,A,I⟩:=Zln K;refine ⟨v0,l,rfl,F,A,λh=>I λn D=>h n ?_⟩;rw[J];simp only[DataW.weights,underlying31,DataW.weightsEach,Zw,Yc,ZX];exact D
end
end
theorem Zk7 (os:Os) (A:os.Started) (H:Type) (enc:TypeId×Value->H):
 ReturnsInHanded {} checked os 7 .any (λw args=>(Rows.opmlRoundTripSpec.pre enc prog f7 [] false w args/\laidMetH prog laidAll w)/\sizedMet enc prog f7 (OpenSpec.ofChange Rows.opmlRoundTripSpec) false w args)
  (Rows.opmlRoundTripSpec.post enc prog f7 false true false false):=by
 refine returnsInHanded_of_change_and (C:=checked) (X:=λw _=>laidMetH prog laidAll w) (λ_ _ _ hh h=>h.of_heap hh) ZnT A (by kernel_rfl) func7
  (ChangeSpec.witness_shaped (enc:=enc) (C:=checked) (os:=os) (X:=λw _=>laidMetH prog laidAll w) false (World.laidAll prog os laidAll) #[.agg #[sN]] 8 (World.laidAll_os _ _ _)
   (World.shaped_of_ZipB (by kernel_rfl) (by kernel_rfl)) (by kernel_rfl) (by kernel_rfl) (by kernel_rfl)
   (by rw[MakeChecks.laidMetH_plain _ _ _ (by kernel_rfl)];exact laidMet_laidAll _ (by kernel_rfl) (by kernel_rfl))) ?_
 intro W base args ds gs hb Q hW hc V hL _;have F:∀(j:Nat) t v,f7.params[j]? =some t->args[j]? =some v->Value.okWide prog W .any base t v:=Q;have R:=hW;obtain ⟨p,q,hf,hV,rfl,_,_⟩:=hW;have hA:DataW.TrodAll enc prog W 0 (λ_=>true) true f7.params.toList args.toList ds p:=hf;rw[params7] at hA F;obtain ⟨v0,d0,rfl,rfl,h0⟩:=trodAll_one hA;obtain ⟨rfl,rfl⟩:=trodVars_none hV;have hd:=h0;rw[MakeChecks.laidMetH_plain _ _ _ (by kernel_rfl)] at hL;have hE:=Ze3 hL;have ha:(DataW.weightsEach prog [31] [d0]).all (· <=reachBytes)=true:=by have h:=V;rw[params7] at h;exact h
 have Z:=Yg.1 ha;have Y:∀n∈d0.weights prog 31,n<=reachBytes:=λn hn=>Yw (Z n (by simpa only[DataW.weightsEach,ZX] using hn));clear V ha Z;have hi:∀x∈p,x.block<W.heap.size:=λx hx=>by simpa using R.lt x (XP _ hx)
 obtain ⟨J,hg⟩:=h0;obtain ⟨D,rfl,_⟩:=okWide_struct underlying31 (F 0 31 v0 rfl rfl);obtain ⟨u0,l0,S,hj,U,I⟩:=Zll (show DataW.trod enc prog W 0 (λ_=>true) true J 31 D.toList=some (d0,p) from hg);have K:D=#[u0]:=by rw[show D=D.toList.toArray by simp,S]
 subst K;refine (Zjm _ l0 W hE (Zhu hL) hj U (I Y).1 (I Y).2).mono λe W' ⟨he,hx⟩=> ?_;subst he;have hB:Below W.heap.size W W':=hx;refine ⟨_,rfl,_,_,_,[],p,[],R,?_,?_,?_,hB.frame _,λh=>by cases h⟩
 ·exact trodAll_mk1 (shut_bool underlying4 _)
 ·exact trodAll_mk1 (Below.trod Zk1 (by kernel_rfl) (Yw (by kernel_rfl)) hd hB hi)
 ·rfl
theorem I7:(Rows.opmlRoundTripRow.wf (OpenSpec.ofChange Rows.opmlRoundTripSpec))=true:=by kernel_rfl
theorem I8:(laidOutB prog)=true:=by kernel_rfl
theorem I9:(mapsRowed prog)=true:=by kernel_rfl
theorem Ea:(f7.params.all (prog.readableRec ·))=true:=by kernel_rfl
theorem Eb:(namedTie prog Rows.opmlRoundTripRow.named Rows.opmlRoundTripSpec.vars)=true:=by kernel_rfl
theorem Ec:((Rows.opmlRoundTripRow.stops== []))=true:=by kernel_rfl
theorem Ed:((prog.stops== []))=true:=by kernel_rfl
theorem Ee:((Rows.opmlRoundTripRow.knobs== []))=true:=by kernel_rfl
theorem Ef:((prog.stopKnobs== []))=true:=by kernel_rfl
theorem Eg:((Rows.opmlRoundTripRow.inPlace==prog.inPlace 7))=true:=by kernel_rfl
theorem KY:((Rows.opmlRoundTripRow.unfollowed==prog.unfollowed 7))=true:=by kernel_rfl
theorem KZ:((Rows.opmlRoundTripRow.recurses==prog.recurses 7))=true:=by kernel_rfl
theorem K0:((Rows.opmlRoundTripRow.named==prog.varsNamed 7))=true:=by kernel_rfl
theorem K1:((Rows.opmlRoundTripRow.maps==(f7.params.toList++Rows.opmlRoundTripSpec.plain.varTypes prog).any (prog.mapsRec ·)))=true:=by kernel_rfl
theorem K2:((Rows.opmlRoundTripRow.ifaces==(f7.params.toList++Rows.opmlRoundTripSpec.plain.varTypes prog).any (prog.ifacesRec ·)))=true:=by kernel_rfl
theorem K3:((Rows.opmlRoundTripRow.mapsOut==prog.mapsAmong f7.resultTypes.toList))=true:=by kernel_rfl
theorem K6:((Rows.opmlRoundTripRow.loops==(f7.params.toList++Rows.opmlRoundTripSpec.plain.varTypes prog).any (prog.loopsFrom ·)))=true:=by kernel_rfl
theorem K8:((Rows.opmlRoundTripRow.wideKeys==(f7.params.toList++Rows.opmlRoundTripSpec.plain.varTypes prog++f7.resultTypes.toList).any (prog.wideKeysFrom ·)))=true:=by kernel_rfl
theorem Ia:(Rows.opmlRoundTripSpec.vars.all (prog.varReadable ·))=true:=by kernel_rfl
theorem Ib:(f7.resultTypes.all (λt=>prog.readableRec t && decide (t<prog.types.size)))=true:=by kernel_rfl
theorem Ic:((Rows.opmlRoundTripRow.ifacesOut==f7.resultTypes.toList.any (prog.ifacesRec ·)))=true:=by kernel_rfl
theorem Id:((Rows.opmlRoundTripRow.loopsOut==f7.resultTypes.toList.any (prog.loopsFrom ·)))=true:=by kernel_rfl
theorem Ie:((Rows.opmlRoundTripRow.plainKeys==prog.plainKeys))=true:=by kernel_rfl
theorem If:(Rows.opmlRoundTripRow.shortTexts.isNone)=true:=by kernel_rfl
theorem Ig:(prog.stopsHeard)=true:=by kernel_rfl
theorem Ih:(prog.mayEnter)=true:=by kernel_rfl
theorem Ii:((Rows.opmlRoundTripRow.lifted==prog.liftsFinal))=true:=by kernel_rfl
theorem Ij:((prog.make==some Rows.opmlRoundTripRow.make))=true:=by kernel_rfl
theorem Ik:((Rows.opmlRoundTripRow.kinds==(if Rows.opmlRoundTripRow.domain.isEmpty then [] else f7.params.toList.map λt=>match prog.underlying t with|some (.int k)=>some k|_=>none)))=true:=by kernel_rfl
theorem Il:((Rows.opmlRoundTripRow.pinned==Rows.opmlRoundTripRow.pinnedBy))=true:=by kernel_rfl
theorem Im:((Rows.opmlRoundTripRow.veiled==(f7.params.toList++Rows.opmlRoundTripSpec.plain.varTypes prog++f7.resultTypes.toList).any (prog.veiledRec ·)))=true:=by kernel_rfl
theorem In:(Rows.opmlRoundTripRow.veiledFits prog f7.params.toList (f7.params.toList++Rows.opmlRoundTripSpec.plain.varTypes prog++f7.resultTypes.toList))=true:=by kernel_rfl
theorem EY : prog.funcNamed "feedvault/feedvaultlaw19.OpmlRoundTrip" = some 7 := by kernel_rfl
theorem Zhi:f7.isInstance prog Rows.opmlRoundTripRow.origin Rows.opmlRoundTripRow.targs:=Yw (by kernel_rfl)
theorem Zhk:f7.isWrapper prog Rows.opmlRoundTripRow.wrapper Rows.opmlRoundTripRow.mainSum:=by unfold Func.isWrapper;first|(rw[Zi (by decide+kernel)];kernel_rfl)|(rw[Ze (by decide+kernel)];exact ⟨rfl,rfl⟩)
theorem Zk4:Rows.opmlRoundTripRow.wfByText (OpenSpec.ofChange Rows.opmlRoundTripSpec)=true:=by kernel_rfl
theorem Zhj : prog.mainIs = some (true, "fc646f4ec087820d56142a8d3af391f2978304ac98ac4e0c4d0ed1d31e8fe297".toList) := by kernel_rfl
theorem ZfF:false=prog.looks []:=by kernel_rfl
theorem Zcb:([31].all λu=> !prog.wantsStandIn u)=true:=by kernel_rfl
theorem Zhh:false=Rows.opmlRoundTripRow.goesBy prog:=by kernel_rfl
theorem YT {a b:Bool} (h:a=true) (k:b=true):(a && b)=true:=by rw[h,k];rfl
theorem ZfD:joinedFacts prog 7 f7 Rows.opmlRoundTripSpec Rows.opmlRoundTripRow=true:=by
 unfold joinedFacts;exact YT (YT (YT (YT (YT (YT (YT (YT (YT (YT (YT (YT (YT (YT (YT (YT (YT (YT (YT (YT (YT (YT (YT (YT (YT (YT (YT (YT (YT (YT (YT I7 I8) I9) Ea) Eb) Ec) Ed) Ee) Ef) Eg) KY) KZ) K0) K1) K2) K3) K6) K8) Ia) Ib) Ic) Id) Ie) If) Ig) Ih) Ii) Ij) Ik) Il) Im) In
theorem ZfE:Rows.OpmlRoundTripSaid:=
 OpenClaim.holds_of_wide 7 f7 rfl rfl rfl rfl rfl rfl rfl ⟨rfl,rfl,rfl,rfl,rfl⟩ rfl rfl rfl rfl rfl EY func7 ZfD
  Zhi Zhk
  (λos h H enc _=>Zk7 os h H enc)
theorem opmlRoundTrip_holds:Rows.OpmlRoundTripCardSaid:=
 Claim7.holds_tied_plain_at .later [] [.data, .data, .data, .data, .data, .data, .data, .pinned] true (true, "fc646f4ec087820d56142a8d3af391f2978304ac98ac4e0c4d0ed1d31e8fe297") false ZfE (fun _ h => by cases h) Zk4 (fun _ h => by cases h) opmlRoundTrip_row_tie rfl ⟨rfl, rfl⟩ Zhj rfl
  (λf fn hf hfn=>by
   obtain rfl:f=7:=YS (EY.symm.trans hf)|>.symm
   obtain rfl:fn=f7:=(YS (func7.symm.trans hfn)).symm
   exact ⟨ZfF,λj t ht=>by
    rw[params7] at ht
    have hm:t∈ [31]:=(by simpa using Array.mem_of_getElem? ht)
    exact (show prog.wantsStandIn t=false by simpa using Yg.1 Zcb t hm)⟩)
  Zhh
#print axioms opmlRoundTrip_holds
end Go.Proofs.YtnlafkgkcnenfaaGreatDoor
