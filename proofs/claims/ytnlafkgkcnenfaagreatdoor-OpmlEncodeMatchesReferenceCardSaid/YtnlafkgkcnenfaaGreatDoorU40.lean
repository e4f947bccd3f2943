/- Parts of the proof: contracts and plain laws. -/
import Derived.Test.YtnlafkgkcnenfaaGreatDoorU39
namespace Go.Proofs.YtnlafkgkcnenfaaGreatDoor
open Go Go.RowKit Go.ChangeShapes Go.WideShapes Go.Deep Go.ChangeAt Go.Joins _root_.Go.Proofs.Tryz
set_option linter.unusedVariables false
set_option linter.unusedSimpArgs false
set_option maxRecDepth 100000
set_option maxHeartbeats 16000000
section
variable {L:List Fd} {c n:Nat}
theorem ZsX {A:Option Addr} (w:Wq) (h:ArcG w A n c L) (K:smA L):
 Calls prog 23 #[.agg #[.slice A n c]] w λe w'=>∃D H F,e= .returned (.agg #[.slice D H F])/\ArcG w' D H F (L.map outl)/\Ext w w':=by
 obtain ⟨lc,rfl,rfl,R,S⟩:=h;refine Za (ZsY _ lc w R S (λx I=>by have:=(K.1 x.f (Yc I)).1.1.2;omega) (by have:=K.2;rw[Zq] at this;omega)) ?_;rintro e w' ⟨D,H,F,J,rfl,⟨U,V,Q,X⟩,I⟩;exact ⟨D,H,F,rfl,⟨J,U,V,RSl.of_own Q.row,Q.rd⟩,I⟩
theorem Ztt {A:Option Addr} (w:Wq) (h:ArcG w A n c L) (K:smA L):
 Calls prog 18 #[.agg #[.slice A n c]] w λe w'=>∃D H F,e= .returned (.agg #[.slice D H F])/\ArcG w' D H F (L.map outl)/\Ext w w':=by
 obtain ⟨lc,rfl,rfl,Q,R⟩:=h;refine Za (Zsc _ lc w Q R (λx I=>by have:=(K.1 x.f (Yc I)).1.1.2;omega) (by have:=K.2;rw[Zq] at this;omega)) ?_;rintro e w' ⟨D,H,F,J,rfl,⟨S,U,V,X⟩,I⟩;exact ⟨D,H,F,rfl,⟨J,S,U,V,X⟩,I⟩
theorem ZtT (vp:Value) (S:List Fc) (w:Wq) (hE:Env w) (hm:NmTabs w) (hd:RFcs w vp S) (hp:∀y∈S,RdC w y) (hI:S.length<=reachBytes) (hq:∀y∈S,fwide y.f):
 Calls prog 6 #[.agg #[vp]] w λe w'=>e= .returned (.bool true)/\Ext w w':=by
 obtain ⟨pA,pc,h5, -, -⟩:=hd.form;subst h5;obtain ⟨W1,hF⟩:∃W1,w.alloc (.cells #[.slice pA S.length pc] 31)=W1:=⟨_,rfl⟩;have J:Ext w W1:=by rw[<-hF];exact (Ext.refl _).alloc _
 have cp:W1.cell? ⟨w.heap.size,0,none⟩=some (.slice pA S.length pc):=by rw[<-hF];exact (Ext.refl _).boxed 0 _ rfl
 have HC:Hid (∀W':Wq,Ext W1 W'->W'.cell? ⟨w.heap.size,0,none⟩=some (.slice pA S.length pc)):=gd λW' h=>h.cell cp;have hB:=gd J;have hu:=gd (λ(W':Wq) (h:Ext W1 W')=>ZfY W' (hE.ext (J.trans h)) (hm.ext (J.trans h)));have Z:=gd (λ(W':Wq) (h:Ext W1 W')=>ZsK _ S W' (hd.ext (J.trans h)) (λy hy=>(hp y hy).ext (J.trans h)) hI hq);have hH:ArcG w pA S.length pc (S.map Fc.f):=⟨S,rfl,rfl,hd,hp⟩;have U:=gd (λ(W':Wq) (h:Ext W1 W')=>hH.ext (J.trans h));have H:¬5000<bigL (S.map Fc.f)->smA (S.map Fc.f):=λh=>Zt0 hq om;have HE:=gd (λ(W':Wq) (h:Ext W1 W')=>hE.ext (J.trans h));have hY:=gd (λ(W':Wq) (h:Ext W1 W')=>hm.ext (J.trans h));obtain ⟨P,hP⟩:∃P,S.map Fc.f=P:=⟨_,rfl⟩;rw[hP] at H;simp only[hP] at Z U;clear hP hH hd hp hI hq hE hm J;by_cases h1:5000<bigL P
 ·simp only[Zi h1] at Z;clear h1 H;go_enter func6,ntmps6
  go_wp2_with (first|(go_at_call 15;refine Za (Z.out _ (Ext.refl _)) ?_;rintro e w1 ⟨rfl,V⟩)|(go_at_call 11;refine Za (hu.out _ V) ?_;rintro e w2 ⟨rfl,hr⟩))
  go_ret;exact ⟨rfl,hB.out.trans (V.trans hr)⟩
 have H:=H h1;simp only[Ze h1] at Z;have hh:=gd (λ(W':Wq) (h:Ext W1 W')=>Zuc W' (HE.out W' h) (U.out W' h) H);have hi:=gd (λ(W':Wq) (h:Ext W1 W')=>ZrW W' (U.out W' h) H);have hj:=gd (λ(W':Wq) (h:Ext W1 W')=>Zj9 W' (HE.out W' h) (hY.out W' h) (U.out W' h) H);have hk:=gd (λ(W':Wq) (h:Ext W1 W')=>Ztx W' (U.out W' h) H);have hZ:=gd (λ(W':Wq) (h:Ext W1 W')=>ZsX W' (U.out W' h) H);have h0:=gd (λ(W':Wq) (h:Ext W1 W')=>Ztt W' (U.out W' h) H);have hJ:=Zup H;have hv:=gd (λ(W':Wq) (A B:Option Addr) (n c m d:Nat) (g:ArcG W' A n c (P.map outl)) (k:ArcG W' B m d (P.map outl))=>ZpZ W' g k hJ);simp only[decide_true] at hv;have h3:=gd (λ(W':Wq) (x y:Nc) (hx:x.nd=encX P) (hy:y.nd=encX P)=>ZsH 10000 (by decide) 100 x y W' (by rw[hx];exact Zua P H) (by rw[hx];exact Zrs H) (hx.trans hy.symm));obtain ⟨EC,hl⟩:∃EC:Nat,encE P=EC:=⟨_,rfl⟩;have hC:(if okA P=true then (0:Int) else 22)=(EC:Int):=by rw[<-hl];unfold encE;split<;>rfl
 simp only[hC] at hj hk;unfold EncX at hh hi;simp only[hl] at hh hi;obtain ⟨D,hD⟩:∃D,str (if okA P=true then docW (encP P) else [])=D:=⟨_,rfl⟩;simp only[hD] at hj hk;generalize encX P=X at*;generalize P.map outl=L at*;clear h1 H hJ hC hl hD;go_enter func6,ntmps6
 go_wp2_with (first|(go_at_call 15;refine Za (Z.out _ (Ext.refl _)) ?_;rintro e w1 ⟨rfl,V⟩;have d0:=HC.out _ V)|(go_at_call 20;refine Za (hh.out _ V) ?_;rintro e w2 ⟨n,A,c,l,B,d,kids,rfl,ha,hb,hr⟩;have hX:=gd ha;have h2:=gd hb;(simp only[bxE]);clear ha hb)|(refine Zf rfl 25 (.tmp 3) (.tmp 18) rfl w2.heap.size _ rfl rfl _ _ (Zg _ _) ZJ rfl (by simp[Value.oneCell']) ?_;rw[Z0];obtain ⟨W3,hn⟩:∃W3,w2.alloc (.cells #[nI 0,.string (str []),.string (str n),.slice A l.length c,.slice B kids.length d,.string (str []),nI 0] 25)=W3:=⟨_,rfl⟩;rw[hn];(have hV:=gd (λW (hx:Ext W3 W)=> @Zqf w2 W n (.slice A l.length c) (.slice B kids.length d) (by rw[show (bxE n (.slice A l.length c) (.slice B kids.length d)).toArray=#[nI 0,.string (str []),.string (str n),.slice A l.length c,.slice B kids.length d,.string (str []),nI 0] from rfl,hn];exact hx)));(have hf:Ext w2 W3:=by rw[<-hn];exact (Ext.refl w2).alloc _);have hs:=V.trans (hr.trans hf);have d1:=HC.out _ hs)|(go_at_call 21;refine Za (hi.out _ hs) ?_;rintro e w4 ⟨n',A',c',l',B',d',I,rfl,ha,hb,h6⟩;have hw:=gd ha;have hA:=gd hb;(simp only[bxE]);clear ha hb)|(refine Zf rfl 25 (.tmp 5) (.tmp 23) rfl w4.heap.size _ rfl rfl _ _ (Zg _ _) ZJ rfl (by simp[Value.oneCell']) ?_;rw[Z0];obtain ⟨W5,ho⟩:∃W5,w4.alloc (.cells #[nI 0,.string (str []),.string (str n'),.slice A' l'.length c',.slice B' I.length d',.string (str []),nI 0] 25)=W5:=⟨_,rfl⟩;rw[ho];(have hW:=gd (λW (hx:Ext W5 W)=> @Zqf w4 W n' (.slice A' l'.length c') (.slice B' I.length d') (by rw[show (bxE n' (.slice A' l'.length c') (.slice B' I.length d')).toArray=#[nI 0,.string (str []),.string (str n'),.slice A' l'.length c',.slice B' I.length d',.string (str []),nI 0] from rfl,ho];exact hx)));(have hg:Ext w4 W5:=by rw[<-ho];exact (Ext.refl w4).alloc _);have hc:=h6.trans hg;have Q:=hs.trans hc;have d2:=HC.out _ Q)|(go_at_call 17;refine Za (hj.out _ Q) ?_;rintro e w6 ⟨rfl,hO⟩;have hQ:=Q.trans hO;have d3:=HC.out _ hQ)|(go_at_call 22;refine Za (hk.out _ hQ) ?_;rintro e w7 ⟨rfl,h7⟩;have hN:=hO.trans h7))
 refine rN ?_;change wpAny _ _ _ _ _ _ _ (World.drew _);have hR:=hN.drew;refine YD (λw'=>Ext W5 w') ?_;refine sS 0 λK hK=> ?_;go_simp;go_at_call 11
 with_reducible refine Za (hu.out _ (Q.trans hR)) ?_
 rintro e w8 ⟨rfl,h8⟩;have Y:=hR.trans h8;refine hK _ _ Y ?_;clear hK K;refine tG 1 (.bool true) Y ?_;refine tS 2 (.agg #[.slice pA S.length pc]) rfl (λw' hS=>by have q0:=HC.out _ (Q.trans hS);go_simp) Y ?_;refine tS 4 (.agg #[.slice pA S.length pc]) rfl (λw' hS=>by have q0:=HC.out _ (Q.trans hS);go_simp) Y ?_;go_simp;refine sS 3 λK hK=> ?_;go_simp;go_at_call 23;have hz:=hZ.out _ (Q.trans Y)
 with_reducible refine Za hz ?_
 clear hz;rintro e w9 ⟨A9,n9,c9,rfl,h4,h9⟩;have ht:=Y.trans h9;refine hK _ _ ht ?_;clear hK K;refine sS 5 λK hK=> ?_;go_simp;go_at_call 18;have hz:=h0.out _ (Q.trans ht)
 with_reducible refine Za hz ?_
 clear hz;rintro e gf ⟨gb,ge,gc,rfl,hG,he⟩;have hT:=ht.trans he;refine hK _ _ hT ?_;clear hK K;refine sS 6 λK hK=> ?_;go_simp;go_at_call 14;have hz:=hv.out _ _ _ _ _ _ _ (h4.ext he) hG
 with_reducible refine Za hz ?_
 clear hz;rintro e ga ⟨rfl,hL⟩;have R:=hT.trans hL;refine hK _ _ R ?_;clear hK K;refine tG 7 (.bool true) R ?_;refine tG 8 (.bool true) R ?_;go_simp;refine tS 9 (.agg #[nI 0,.string (str []),.string (str n),.slice A l.length c,.slice B kids.length d,.string (str []),nI 0]) rfl (λw' hS=>by obtain ⟨q0,q1,q2,q3,q4,q5,q6⟩:=hV.out _ (hc.trans hS);go_simp) R ?_;refine tS 10 (.agg #[nI 0,.string (str []),.string (str n'),.slice A' l'.length c',.slice B' I.length d',.string (str []),nI 0]) rfl (λw' hS=>by obtain ⟨q0,q1,q2,q3,q4,q5,q6⟩:=hW.out _ (hS);go_simp) R ?_;go_simp;have hU:=h3.out ga _ _ hX.out hw.out (RdN.ext (hf.trans (hc.trans R)) _ h2.out) (RdN.ext (hg.trans R) _ hA.out);simp only[Zqg,bxE] at hU;refine sS 11 λK hK=> ?_;go_simp;go_at_call 24;have hz:=hU
 with_reducible refine Za hz ?_
 clear hz;rintro e gg ⟨rfl,hM⟩;have F:=R.trans hM;refine hK _ _ F ?_;clear hK K;refine tG 12 (.bool true) F ?_;refine tG 13 (.bool true) F ?_;go_simp;refine tG 14 (nI (EC:Nat)) F ?_;refine tG 15 (nI (EC:Nat)) F ?_;refine tG 16 (.bool true) F ?_;refine tG 17 (.bool true) F ?_;go_simp;refine tG 18 (.bool true) F ?_;refine tG 19 (.string D) F ?_;refine tG 20 (.string D) F ?_;refine tG 21 (.bool true) F ?_;go_simp;refine tG 22 (.bool true) F ?_;refine tG 23 (.bool true) F ?_;refine tG 24 (nI (EC:Nat)) F ?_;refine tG 25 (nI (EC:Nat)) F ?_;go_simp;refine tG 26 (.bool true) F ?_;refine tG 27 (.bool true) F ?_;go_simp;refine sS 28 λK hK=> ?_;go_simp;refine hK _ _ F ?_;clear hK K;refine sE ?_;go_wp2;go_ret;exact ⟨rfl,hB.out.trans (Q.trans F)⟩
end
section
variable {cap fuel k:Nat} {cs:List Value} {v:Value} {w:World} {α:Type}
theorem ZuG {cs:Array α} (h:cs.size=5):∃c0 c1 c2 c3 c4,cs=#[c0,c1,c2,c3,c4]:=by
 obtain ⟨l⟩:=cs
 match l,h with
 | [c0,c1,c2,c3,c4],_=>exact ⟨c0,c1,c2,c3,c4,rfl⟩
instance openEnt:Inhabited Ent:=⟨zeroE⟩
instance openFc:Inhabited Fc:=⟨⟨sN,sN,zeroF⟩⟩
theorem Zss {α:Type} {k:Nat} (D:0<k):∀(css:List (List α)),(∀c∈css,c.length=k)->∀j,css.flatten[j]? =(css[j / k]?).bind λc=>c[j % k]?
 | [],_,j=>by simp
 |c::t,h,j=>by
  have hc:c.length=k:=h c (by simp)
  rw[Um]
  by_cases A:j<k
  ·rw[Xg om,Nat.div_eq_of_lt A,Nat.mod_eq_of_lt A]
   rfl
  ·rw[Yt om,hc,Zss D t (λx F=>h x (by simp[F]))]
   have e1:j / k=(j - k) / k+1:=by
    have:=Nat.div_eq_sub_div D (show k<=j by omega)
    omega
   have e2:j % k=(j - k) % k:=Nat.mod_eq_sub_mod om
   rw[e1,e2,List.getElem?_cons_succ]
theorem Zru (K:0<k) {a:Addr} {len:Nat} (css:Nat->List Value) (Q:len<=cap) (R:cap<=maxLen)
 (h:∀i,i<len->(css i).length=k/\∀j,j<k->w.cell? ((a.add (i*k)).add j)=(css i)[j]?):RSl w k (.slice (some a) len cap) len ((List.range len).map css).flatten:=by
 have A:∀c∈(List.range len).map css,c.length=k:=by intro c hc;obtain ⟨i,F,rfl⟩:=ZU.1 hc;exact (h i (Ub.1 F)).1
 refine ⟨?_,some a,cap,rfl,Q,R,(λe=>by cases e),λj u D=>⟨a,rfl,?_⟩⟩
 ·clear R Q;have J:∀(l:List (List Value)),(∀c∈l,c.length=k)->l.flatten.length=l.length*k:=by
   intro l
   induction l with
   |nil=>intro _;simp
   |cons c t ih=>intro h;rw[Um,Zb,h c (by simp),ih λx S=>h x (by simp[S]),Zd,Nat.succ_mul];omega
  rw[J _ A];simp
 ·rw[Zss K _ A] at D;by_cases F:j / k<len
  ·have e:((List.range len).map css)[j / k]? =some (css (j / k)):=(by simp[F]);rw[e] at D;have I:(css (j / k))[j % k]? =some u:=D;have H:=(h (j / k) F).2 (j % k) (Nat.mod_lt _ K);rw[Qa] at H;have e2:j / k*k+j % k=j:=(by rw[VF];exact Nat.div_add_mod j k);rw[e2] at H;rw[H,I]
  ·have e:((List.range len).map css)[j / k]? =none:=(by simp;omega);rw[e] at D;cases D
theorem Zqd {H:Type} {P:Program} {e:TypeId} {n:Nat}:∀{l:List (DataW H)} {d:DataW H},d∈l->n∈d.weights P e->n∈DataW.weightsAll P e l
 | [],_,h,_=>by simp at h
 |x::t,d,h,hn=>by
  unfold DataW.weightsAll
  rcases ZH.1 h with h|h
  ·subst h;exact ZeY _ hn
  ·exact List.mem_append_right _ (Zqd h hn)
section
variable {H:Type} {enc:TypeId×Value→H} {P:Program} {w:World} {base:Nat} {spare:Nat→Bool} {held:Bool}
theorem ZuO {t:TypeId} {F I J K Q:Field} {x:DataW H×List MemPlace} (Z:P.underlying t=some (.struct #[F,I,J,K,Q])) (D:oneCellFields P #[F,I,J,K,Q]=true) (Y:P.cellsOf t=5)
 (h:DataW.trod enc P w base spare held fuel t cs=some x):
 ∃(v0 v1 v2 v3 v4:Value) (S y1 y2 U V:DataW H×List MemPlace) (n:Nat),cs= [v0,v1,v2,v3,v4]/\x.1= .agg [S.1,y1.1,y2.1,U.1,V.1]/\
  DataW.trod enc P w base spare held n F.type [v0]=some S/\DataW.trod enc P w base spare held n I.type [v1]=some y1/\DataW.trod enc P w base spare held n J.type [v2]=some y2/\DataW.trod enc P w base spare held n K.type [v3]=some U/\DataW.trod enc P w base spare held n Q.type [v4]=some V:=by
 obtain ⟨xs,n,_,hx,X,R,A⟩:=DataW.trod_struct Z h;obtain ⟨o0,k0⟩:=hone_of D 0 F rfl;obtain ⟨o1,k1⟩:=hone_of D 1 I rfl;obtain ⟨o2,k2⟩:=hone_of D 2 J rfl;obtain ⟨o3,k3⟩:=hone_of D 3 K rfl;obtain ⟨o4,k4⟩:=hone_of D 4 Q rfl;rw[Y] at X;obtain ⟨c0,c1,c2,c3,c4,hc⟩:=ZuG (cs:=cs.toArray) (by simpa using X);have hc:cs= [c0,c1,c2,c3,c4]:=by simpa using Zz Array.toList hc
 subst hc
 match xs,R with
 | [S,y1,y2,U,V],_=>exact ⟨c0,c1,c2,c3,c4,S,y1,y2,U,V,n,rfl,by rw[hx];rfl,by simpa [Value.cells,o0,k0] using A 0 F rfl,by simpa [Value.cells,o1,k1] using A 1 I rfl,by simpa [Value.cells,o2,k2] using A 2 J rfl,by simpa [Value.cells,o3,k3] using A 3 K rfl,by simpa [Value.cells,o4,k4] using A 4 Q rfl⟩
theorem ZuH {cs:Array α} (h:cs.size=6):∃c0 c1 c2 c3 c4 c5,cs=#[c0,c1,c2,c3,c4,c5]:=by
 obtain ⟨l⟩:=cs
 match l,h with
 | [c0,c1,c2,c3,c4,c5],_=>exact ⟨c0,c1,c2,c3,c4,c5,rfl⟩
theorem ZuP {t:TypeId} {F I J K Q R:Field} {x:DataW H×List MemPlace} (hs:P.underlying t=some (.struct #[F,I,J,K,Q,R])) (D:oneCellFields P #[F,I,J,K,Q,R]=true) (hC:P.cellsOf t=6)
 (h:DataW.trod enc P w base spare held fuel t cs=some x):
 ∃(v0 v1 v2 v3 v4 v5:Value) (U y1 y2 V X Y:DataW H×List MemPlace) (n:Nat),cs= [v0,v1,v2,v3,v4,v5]/\x.1= .agg [U.1,y1.1,y2.1,V.1,X.1,Y.1]/\
  DataW.trod enc P w base spare held n F.type [v0]=some U/\DataW.trod enc P w base spare held n I.type [v1]=some y1/\DataW.trod enc P w base spare held n J.type [v2]=some y2/\DataW.trod enc P w base spare held n K.type [v3]=some V/\DataW.trod enc P w base spare held n Q.type [v4]=some X/\DataW.trod enc P w base spare held n R.type [v5]=some Y:=by
 obtain ⟨xs,n,_,hx,Z,S,A⟩:=DataW.trod_struct hs h;obtain ⟨o0,k0⟩:=hone_of D 0 F rfl;obtain ⟨o1,k1⟩:=hone_of D 1 I rfl;obtain ⟨o2,k2⟩:=hone_of D 2 J rfl;obtain ⟨o3,k3⟩:=hone_of D 3 K rfl;obtain ⟨o4,k4⟩:=hone_of D 4 Q rfl;obtain ⟨o5,k5⟩:=hone_of D 5 R rfl;rw[hC] at Z;obtain ⟨c0,c1,c2,c3,c4,c5,hc⟩:=ZuH (cs:=cs.toArray) (by simpa using Z);have hc:cs= [c0,c1,c2,c3,c4,c5]:=by simpa using Zz Array.toList hc
 subst hc
 match xs,S with
 | [U,y1,y2,V,X,Y],_=>exact ⟨c0,c1,c2,c3,c4,c5,U,y1,y2,V,X,Y,n,rfl,by rw[hx];rfl,by simpa [Value.cells,o0,k0] using A 0 F rfl,by simpa [Value.cells,o1,k1] using A 1 I rfl,by simpa [Value.cells,o2,k2] using A 2 J rfl,by simpa [Value.cells,o3,k3] using A 3 K rfl,by simpa [Value.cells,o4,k4] using A 4 Q rfl,by simpa [Value.cells,o5,k5] using A 5 R rfl⟩
end
section
variable {H:Type} {enc:TypeId×Value→H} {P:Program} {w:World} {base:Nat} {spare:Nat→Bool} {held:Bool}
theorem ZuN {t:TypeId} {A:Field} {x:DataW H×List MemPlace} (R:P.underlying t=some (.struct #[A])) (I:oneCellFields P #[A]=true) (Q:P.cellsOf t=1)
 (h:DataW.trod enc P w base spare held fuel t cs=some x):
 ∃(v0:Value) (J:DataW H×List MemPlace) (n:Nat),cs= [v0]/\x.1= .agg [J.1]/\DataW.trod enc P w base spare held n A.type [v0]=some J:=by
 obtain ⟨xs,n,_,S,K,F,D⟩:=DataW.trod_struct R h;obtain ⟨V,U⟩:=hone_of I 0 A rfl;rw[Q] at K
 match cs,K,xs,F with
 | [c0],_,[J],_=>exact ⟨c0,J,n,rfl,by rw[S];rfl,by simpa [Value.cells,V,U] using D 0 A rfl⟩
end
theorem ZrL {n:Int} (h:(Lit.int .i64 n).wf=true):i64ok n:=by
 have A:(decide (IntKind.min .i64<=n) && decide (n<=IntKind.max .i64))=true:=h;rw[ZG] at A;exact ⟨YK A.1,YK A.2⟩
section
variable {H:Type} {enc:TypeId×Value→H} {w:World}
theorem Zuk {x:DataW H×List MemPlace} (h:DataW.trod enc prog w 0 (λ_=>true) true fuel 76 cs=some x):
 ∃e:Ent,cs=eCells e/\i64ok e.upd/\((∀n∈x.1.weights prog 76,n<=reachBytes)->ewide e):=by
 obtain ⟨c0,c1,c2,c3,c4,Z,y1,y2,y3,y4,n,rfl,F,I,J,K,Q,R⟩:=ZuO underlying76 (by kernel_rfl) (by kernel_rfl) h;obtain ⟨s0,D,w0,b0⟩:=Zp8 underlying9 I;obtain ⟨U,e1,w1,b1⟩:=Zp8 underlying9 J;obtain ⟨V,e2,w2,b2⟩:=Zp8 underlying9 K;obtain ⟨X,e3,w3,b3⟩:=Zp8 underlying9 Q;obtain ⟨S,e4,Y,b4⟩:=DataW.trod_int underlying2 R;injection D with D;injection e1 with e1;injection e2 with e2;injection e3 with e3;injection e4 with e4;subst D e1 e2 e3 e4;clear I J K Q R;rw[w0,w1,w2,w3,Y] at F;refine ⟨⟨s0,U,V,X,S⟩,rfl,ZrL b4,λA=> ?_⟩;rw[F] at A;simp[DataW.weightsEach,DataW.weights,underlying76] at A;exact ⟨ZrL b4,A.1,A.2.1,A.2.2.1,A.2.2.2⟩
theorem ZtU {x:DataW H×List MemPlace} (h:DataW.trod enc prog w 0 (λ_=>true) true fuel 53 [v]=some x):
 ∃l:List Ent,REnts w v l/\((∀n∈x.1.weights prog 53,n<=reachBytes)->l.length<=reachBytes/\∀e∈l,ewide e):=by
 rcases open_slice underlying53 h with ⟨I,X⟩|⟨a,len,cap,m,n,D,Pl,I,_,hl,hm,K,X,S⟩
 ·injection I with I;subst I;exact ⟨[],RSl.nil w 5,λ_=>⟨Zj _,by simp⟩⟩
 ·injection I with I;subst I;simp only[Us] at K;have Q:=K.symm;subst Q;have hc:prog.cellsOf 76=5:=by kernel_rfl
  have R:prog.bytesOf 76=72:=by kernel_rfl
  obtain ⟨E,V⟩:=choose_lt (α:=Ent) (n:=len) (p:=λi e=>(∀j,j<5->w.cell? ((a.add (i*5)).add j)=(eCells e)[j]?)/\((∀n∈(D i).weights prog 76,n<=reachBytes)->ewide e)) (λi F=>by
   obtain ⟨Y,U,Z⟩:=S i om;obtain ⟨e,rfl,_,J⟩:=Zuk Z;rw[hc] at U;obtain ⟨_,_,A⟩:=World.cells?_some U;exact ⟨e,A,J⟩)
  refine ⟨(List.range len).map E,?_,λJ=> ?_⟩
  ·have:=Zru (w:=w) (k:=5) (by decide) (a:=a) (len:=len) (cap:=cap) (λi=>eCells (E i)) hl hm (λi F=>⟨rfl,(V i F).1⟩);unfold REnts flatE;rw[Zq,Zp9,JR];exact this
  ·rw[X] at J;simp only[DataW.weights,underlying53,R,Zq,Zp9] at J;refine ⟨?_,λe he=> ?_⟩
   ·have:=J _ (Zx ..);rw[Zq,Zp9];omega
   ·obtain ⟨i,F,rfl⟩:=ZU.1 he;have F:=Ub.1 F;refine (V i F).2 λn hn=>J n (Zn _ (ZeY _ (Zqd (ZU.2 ⟨i,Ub.2 F,rfl⟩) hn)))
theorem Zts {x:DataW H×List MemPlace} (h:DataW.trod enc prog w 0 (λ_=>true) true fuel 52 [v]=some x):
 ∃l:List ByteArray,RStrs w v l/\((∀n∈x.1.weights prog 52,n<=reachBytes)->l.length<=reachBytes/\∀s∈l,s.size<=reachBytes):=by
 rcases open_strs underlying52 underlying9 (by kernel_rfl) h with ⟨A,U⟩|⟨a,len,cap,m,D,A,_,V,X,F,U,Q⟩
 ·injection A with A;subst A;exact ⟨[],RSl.nil w 1,λ_=>⟨Zj _,by simp⟩⟩
 ·injection A with A;subst A;simp only[Us] at F;have I:=F.symm;subst I;have K:prog.bytesOf 9=16:=by kernel_rfl
  refine ⟨(List.range len).map D,?_,λJ=> ?_⟩
  ·have:=Zru (w:=w) (k:=1) (by decide) (a:=a) (len:=len) (cap:=cap) (λi=> [.string (D i)]) V X (λi S=>⟨rfl,λj Z=>by
    have R:j=0:=om;subst R;rw[add_zero,Nat.mul_one];exact (Q i om).1⟩)
   unfold RStrs;rw[Zq,Zp9,JR];have e:((List.range len).map λi=> [Value.string (D i)]).flatten=(List.range len).map (Value.string∘D):=by
    generalize List.range len=r
    induction r with
    |nil=>rfl
    |cons i t ih=>simp[ih]
   rw[<-e];exact this
  ·rw[U] at J;simp only[DataW.weights,underlying52,K,Zq,Zp9] at J;refine ⟨?_,λs Y=> ?_⟩
   ·have:=J _ (Zx ..);rw[Zq,Zp9];omega
   ·obtain ⟨i,S,rfl⟩:=ZU.1 Y;have:=J (D i).size (Zn _ (ZeY _ (Zqd (ZU.2 ⟨i,S,rfl⟩) (by simp[DataW.weights]))));exact this
theorem Zuw {x:DataW H×List MemPlace} (h:DataW.trod enc prog w 0 (λ_=>true) true fuel 55 cs=some x):
 ∃f:Fc,cs=cellsC f/\RdC w f/\((∀n∈x.1.weights prog 55,n<=reachBytes)->fwide f.f):=by
 obtain ⟨c0,c1,c2,c3,c4,c5,y0,y1,y2,y3,y4,y5,n,rfl,J,K,Q,R,S,U,V⟩:=ZuP underlying55 (by kernel_rfl) (by kernel_rfl) h;obtain ⟨l0,r0,q0⟩:=Zts K;obtain ⟨X,e1,w1,b1⟩:=Zp8 underlying9 Q;obtain ⟨Y,e2,w2,b2⟩:=Zp8 underlying9 R;obtain ⟨Z,e3,w3,b3⟩:=Zp8 underlying9 S;obtain ⟨n4,e4,w4,b4⟩:=DataW.trod_int underlying2 U;obtain ⟨l5,r5,q5⟩:=ZtU V;injection e1 with e1;injection e2 with e2;injection e3 with e3;injection e4 with e4;subst e1 e2 e3 e4;clear K Q R S U V;rw[w1,w2,w3,w4] at J;refine ⟨⟨c0,c5,⟨l0,X,Y,Z,n4,l5⟩⟩,rfl,⟨r0,r5⟩,λA=> ?_⟩;rw[J] at A;simp only[DataW.weights,underlying55,DataW.weightsEach,Zw,Z2,ZV,Z7] at A;have F:=q0 λn D=>A n (ZeY _ D);have I:=q5 λn D=>A n (by simp[D]);have g1:X.size<=reachBytes:=A _ (by simp);have g2:Y.size<=reachBytes:=A _ (by simp);have g3:Z.size<=reachBytes:=A _ (by simp);exact ⟨ZrL b4,F.1,F.2,g1,g2,g3,I.1,I.2⟩
theorem Zul {x:DataW H×List MemPlace} (h:DataW.trod enc prog w 0 (λ_=>true) true fuel 29 [v]=some x):
 ∃l:List Fc,RFcs w v l/\(∀y∈l,RdC w y)/\((∀n∈x.1.weights prog 29,n<=reachBytes)->l.length<=reachBytes/\∀y∈l,fwide y.f):=by
 rcases open_slice underlying29 h with ⟨I,Y⟩|⟨a,len,cap,m,n,D,Pl,I,_,hl,hm,K,Y,V⟩
 ·injection I with I;subst I;exact ⟨[],RSl.nil w 6,by simp,λ_=>⟨Zj _,by simp⟩⟩
 ·injection I with I;subst I;simp only[Us] at K;have Q:=K.symm;subst Q;have hc:prog.cellsOf 55=6:=by kernel_rfl
  have U:1<=prog.bytesOf 55:=YK (by kernel_rfl);obtain ⟨E,S⟩:=choose_lt (α:=Fc) (n:=len) (p:=λi e=>(∀j,j<6->w.cell? ((a.add (i*6)).add j)=(cellsC e)[j]?)/\RdC w e/\((∀n∈(D i).weights prog 55,n<=reachBytes)->fwide e.f)) (λi A=>by
   obtain ⟨Z,R,X⟩:=V i om;obtain ⟨e,rfl,hr,J⟩:=Zuw X;rw[hc] at R;obtain ⟨_,_,F⟩:=World.cells?_some R;exact ⟨e,F,hr,J⟩)
  refine ⟨(List.range len).map E,?_,λy hy=> ?_,λJ=> ?_⟩
  ·have:=Zru (w:=w) (k:=6) (by decide) (a:=a) (len:=len) (cap:=cap) (λi=>cellsC (E i)) hl hm (λi A=>⟨rfl,(S i A).1⟩);unfold RFcs flatC;rw[Zq,Zp9,JR];exact this
  ·obtain ⟨i,A,rfl⟩:=ZU.1 hy;exact (S i (Ub.1 A)).2.1
  ·rw[Y] at J;simp only[DataW.weights,underlying29,Zq,Zp9] at J;refine ⟨?_,λe he=> ?_⟩
   ·have R:=J _ (Zx ..);rw[Zq,Zp9];have X:len+(cap - len)<=(len+(cap - len))*prog.bytesOf 55:=Nat.le_mul_of_pos_right _ U;omega
   ·obtain ⟨i,A,rfl⟩:=ZU.1 he;have A:=Ub.1 A;exact (S i A).2.2 λn hn=>J n (Zn _ (ZeY _ (Zqd (ZU.2 ⟨i,Ub.2 A,rfl⟩) hn)))
theorem Zuj {x:DataW H×List MemPlace} (h:DataW.trod enc prog w 0 (λ_=>true) true fuel 31 cs=some x):
 ∃(v:Value) (l:List Fc),cs= [v]/\RFcs w v l/\(∀y∈l,RdC w y)/\((∀n∈x.1.weights prog 31,n<=reachBytes)->l.length<=reachBytes/\∀y∈l,fwide y.f):=by
 obtain ⟨v0,Q,n,rfl,J,K⟩:=ZuN underlying31 (by kernel_rfl) (by kernel_rfl) h;obtain ⟨l,F,A,I⟩:=Zul K;refine ⟨v0,l,rfl,F,A,λh=>I λn D=>h n ?_⟩;rw[J];simp only[DataW.weights,underlying31,DataW.weightsEach,Zw,Z2,ZV];exact D
end
end
theorem Zui (os:Os) (A:os.Started) (H:Type) (enc:TypeId×Value->H):
 ReturnsInHanded {} checked os 6 .any (λw args=>(Rows.opmlEncodeMatchesReferenceSpec.pre enc prog f6 [] false w args/\laidMetH prog laidAll w)/\sizedMet enc prog f6 (OpenSpec.ofChange Rows.opmlEncodeMatchesReferenceSpec) false w args)
  (Rows.opmlEncodeMatchesReferenceSpec.post enc prog f6 false true false false):=by
 refine returnsInHanded_of_change_and (C:=checked) (X:=λw _=>laidMetH prog laidAll w) (λ_ _ _ hh h=>h.of_heap hh) Zp1 A (by kernel_rfl) func6
  (ChangeSpec.witness_shaped (enc:=enc) (C:=checked) (os:=os) (X:=λw _=>laidMetH prog laidAll w) false (World.laidAll prog os laidAll) #[.agg #[sN]] 8 (World.laidAll_os _ _ _)
   (World.shaped_of_ZipB (by kernel_rfl) (by kernel_rfl)) (by kernel_rfl) (by kernel_rfl) (by kernel_rfl)
   (by rw[MakeChecks.laidMetH_plain _ _ _ (by kernel_rfl)];exact laidMet_laidAll _ (by kernel_rfl) (by kernel_rfl))) ?_
 intro W base args ds gs hb Q hW hc V hL _;have F:∀(j:Nat) t v,f6.params[j]? =some t->args[j]? =some v->Value.okWide prog W .any base t v:=Q;have R:=hW;obtain ⟨p,q,hf,hV,rfl,_,_⟩:=hW;have hA:DataW.TrodAll enc prog W 0 (λ_=>true) true f6.params.toList args.toList ds p:=hf;rw[params6] at hA F;obtain ⟨v0,d0,rfl,rfl,h0⟩:=trodAll_one hA;obtain ⟨rfl,rfl⟩:=trodVars_none hV;have hd:=h0;rw[MakeChecks.laidMetH_plain _ _ _ (by kernel_rfl)] at hL;have hE:=Zgk hL;have ha:(DataW.weightsEach prog [31] [d0]).all (· <=reachBytes)=true:=by have h:=V;rw[params6] at h;exact h
 have Z:=Z6.1 ha;have Y:∀n∈d0.weights prog 31,n<=reachBytes:=λn hn=>YK (Z n (by simpa only[DataW.weightsEach,ZV] using hn));clear V ha Z;have hi:∀x∈p,x.block<W.heap.size:=λx hx=>by simpa using R.lt x (ZeY _ hx)
 obtain ⟨J,hg⟩:=h0;obtain ⟨D,rfl,_⟩:=okWide_struct underlying31 (F 0 31 v0 rfl rfl);obtain ⟨u0,l0,S,hj,U,I⟩:=Zuj (show DataW.trod enc prog W 0 (λ_=>true) true J 31 D.toList=some (d0,p) from hg);have K:D=#[u0]:=by rw[show D=D.toList.toArray by simp,S]
 subst K;refine (ZtT _ l0 W hE (Zjc hL) hj U (I Y).1 (I Y).2).mono λe W' ⟨he,hx⟩=> ?_;subst he;have hB:Below W.heap.size W W':=hx;refine ⟨_,rfl,_,_,_,[],p,[],R,?_,?_,?_,hB.frame _,λh=>by cases h⟩
 ·exact trodAll_mk1 (shut_bool underlying4 _)
 ·exact trodAll_mk1 (Below.trod Zm0 (by kernel_rfl) (YK (by kernel_rfl)) hd hB hi)
 ·rfl
end Go.Proofs.YtnlafkgkcnenfaaGreatDoor
