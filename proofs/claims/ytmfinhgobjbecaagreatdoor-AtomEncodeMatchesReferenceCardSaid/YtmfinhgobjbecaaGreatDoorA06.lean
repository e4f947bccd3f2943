/- Parts of the proof: contracts and plain laws. -/
import Derived.Test.YtmfinhgobjbecaaGreatDoorA05
namespace Go.Proofs.YtmfinhgobjbecaaGreatDoor
open Go Go.RowKit Go.WideMaps Go.Maps _root_.Go.Proofs.Tryz
set_option linter.unusedVariables false
set_option linter.unusedSimpArgs false
set_option maxRecDepth 100000
set_option maxHeartbeats 16000000
section
def noS:ByteArray:=⟨#[]⟩
def zeroE:Ent:=⟨noS,noS,noS,noS,0⟩
def zeroF:Fd:=⟨[],noS,noS,noS,0,[]⟩
def inT (t:Int):Bool:=decide (-62135596800<=t) && decide (t<=253402300799)
def firstErr:List ByteArray->Nat
 | []=>0
 |s::t=>if (checkS s).2=0 then firstErr t else (checkS s).2
def strsE (e:Ent):List ByteArray:= [e.id,e.title,e.link,e.content]
def strsF (f:Fd):List ByteArray:=f.path++ [f.id,f.title,f.link]
def collE (e:Ent):Ent:=⟨collapse e.id,collapse e.title,collapse e.link,collapse e.content,e.upd⟩
def collF (f:Fd):Fd:=⟨f.path.map collapse,collapse f.id,collapse f.title,collapse f.link,f.upd,ordE.canon (f.ents.map collE)⟩
def errE (e:Ent):Nat:=if firstErr (strsE e)≠0 then firstErr (strsE e) else if collapse e.id=noS then 19 else if inT e.upd then 0 else 3
def errEs:List Ent->Nat
 | []=>0
 |e::t=>if errE e=0 then errEs t else errE e
def headF (f:Fd):Nat:=if firstErr (strsF f)≠0 then firstErr (strsF f) else if collapse f.id=noS\/(f.path.any λp=>decide (collapse p=noS))=true then 19 else if 64<f.path.length then 9 else if inT f.upd then 0 else 3
def errF (f:Fd):Nat:=if headF f=0 then errEs f.ents else headF f
def normE (e:Ent):Ent:=if errE e=0 then collE e else zeroE
def normF (f:Fd):Fd:=if errF f=0 then collF f else zeroF
def okAt {α κ:Type} [DecidableEq κ] (ok:α->Bool) (O:Ord α κ) (l:List α) (i:Nat):Bool:=
 match l[i]? with
 |none=>true
 |some x=>ok x && (decide (i=0)||(match l[i - 1]? with|none=>true|some y=>O.lt y x)) && (l.take i).all λy=>decide (O.id y≠O.id x)
def okL {α κ:Type} [DecidableEq κ] (ok:α->Bool) (O:Ord α κ) (l:List α):Bool:=(List.range l.length).all (okAt ok O l)
def okE (e:Ent):Bool:=(strsE e).all validS && !decide (e.id=noS) && inT e.upd
def okH (f:Fd):Bool:=decide (f.path.length<=64) && (strsF f).all validS && !decide (f.id=noS) && inT f.upd && f.path.all λp=> !decide (p=noS)
def okF (f:Fd):Bool:=okH f && okL okE ordE f.ents
section
variable {α κ:Type} [DecidableEq κ] {ok:α→Bool} {O:Ord α κ}
theorem JR {l:List α} {i:Nat} (D:i<l.length):okAt ok O l i=true↔ok l[i]=true/\(∀h:0<i,O.lt l[i - 1] l[i]=true)/\∀j (C:j<i),O.id l[j]≠O.id l[i]:=by
 unfold okAt;rw[ZqL D];simp only[ZqZ,ZsI,Zrd,Zrm,and_assoc];refine and_congr Iff.rfl (and_congr ?_ ?_)
 ·rw[ZqL (show i - 1<l.length by omega)];constructor
  ·rintro (h|h) A
   ·omega
   ·exact h
  ·intro h;rcases ZrX i with A|A
   ·exact Or.inl A
   ·exact Or.inr (h A)
 ·constructor
  ·intro h j C;refine h _ ?_;exact List.mem_take_iff_getElem.2 ⟨j,om,rfl⟩
  ·intro h x F;obtain ⟨j,C,rfl⟩:=List.mem_take_iff_getElem.1 F;exact h j om
theorem Q9 {l:List α}:okL ok O l=true↔(∀x∈l,ok x=true)/\O.sorted l/\l.Pairwise λa b=>O.id a≠O.id b:=by
 unfold okL;simp only[Zrm,Zsu];constructor
 ·intro h;refine ⟨λx Q=> ?_,?_,?_⟩
  ·obtain ⟨i,A,rfl⟩:=List.mem_iff_getElem.1 Q;exact ((JR A).1 (h i A)).1
  ·refine Zsd.2 λi j A F D=> ?_;have step:∀d i (C:i+d+1<l.length),O.lt l[i] l[i+d+1]=true:=by
    intro d
    induction d with
    |zero=>intro i C;exact ((JR C).1 (h (i+1) C)).2.1 om
    |succ d ih=>intro i C;have H:=ih i om;have I:=((JR C).1 (h _ C)).2.1 om;exact O.trans _ _ _ H I
   have:=step (j - i - 1) i om;simpa [show i+(j - i - 1)+1=j by omega] using this
  ·exact Zsd.2 λi j A F D=>((JR F).1 (h j F)).2.2 i D
 ·rintro ⟨H,I,J⟩ i A;rw[JR A];exact ⟨H _ (Zq2 A),λR=>Zsd.1 I (i - 1) i om A om,λj F=>Zsd.1 J j i om A F⟩
end
theorem Q6 {e:Ent}:okE e=true↔(∀s∈strsE e,validS s=true)/\e.id≠noS/\inT e.upd=true:=by
 unfold okE;simp only[ZqZ,Zrm,Zsj,Zr0,and_assoc,ne_eq]
theorem YF {f:Fd}:okH f=true↔f.path.length<=64/\(∀s∈strsF f,validS s=true)/\f.id≠noS/\inT f.upd=true/\∀p∈f.path,p≠noS:=by
 unfold okH;simp only[ZqZ,Zrm,Zsj,Zr0,Zrd,and_assoc,ne_eq]
theorem YE {f:Fd}:okF f=true↔okH f=true/\okL okE ordE f.ents=true:=by unfold okF;rw[ZqZ]
theorem GJ {l:List ByteArray} {k:Nat} (h:k<l.length):firstErr (l.drop k)=if (checkS l[k]).2=0 then firstErr (l.drop (k+1)) else (checkS l[k]).2:=by
 rw[ZqR h];rfl
theorem U6 {e:Ent}:errE e=0↔firstErr (strsE e)=0/\collapse e.id≠noS/\inT e.upd=true:=by
 unfold errE;by_cases h:firstErr (strsE e)=0
 ·rw[ZqH (by simpa using h)];by_cases k:collapse e.id=noS
  ·rw[ZqN k];simp[k]
  ·rw[ZqH k];simp[h,k]
 ·rw[ZqN h];simp[h]
theorem JM {l:List Ent}:errEs l=0↔∀e∈l,errE e=0:=by
 induction l with
 |nil=>simp[errEs]
 |cons s t ih=>
  unfold errEs;by_cases h:errE s=0
  ·rw[ZqN h,ih];simp[h]
  ·rw[ZqH h];simp[h]
end
theorem Ext.setBoth {B:Nat} {a b:Wq} (h:Below B a b) (p:Addr) (v:Value):Below B (a.setCell p v) (b.setCell p v):=by
 refine ⟨h.os,h.tape,h.output,?_,λk A=> ?_⟩
 ·simpa [World.setCell] using h.size
 ·simp only[World.setCell,Zr6,h.block k A]
def setS (w:Wq):List (Addr×ByteArray)->Wq
 | []=>w
 |p::t=>setS (w.setCell p.1 (.string p.2)) t
theorem ZeF:∀(l:List (Addr×ByteArray)) (w:Wq) (p:Addr×ByteArray),setS w (l++ [p])=(setS w l).setCell p.1 (.string p.2)
 | [],_,_=>rfl
 |q::t,w,p=>ZeF t (w.setCell q.1 (.string q.2)) p
theorem Gc:∀(l:List (Addr×ByteArray)) (w:Wq),(setS w l).heap.size=w.heap.size
 | [],_=>rfl
 |p::t,w=>by rw[setS,Gc t];simp[World.setCell]
theorem Qy:∀(l:List (Addr×ByteArray)) (w:Wq) (a:Addr),(setS w l).frozen? a=w.frozen? a
 | [],_,_=>rfl
 |p::t,w,a=>by rw[setS,Qy t,Zse]
theorem JW:∀(l:List (Addr×ByteArray)) (w:Wq) (a:Addr),(∀p∈l,p.1≠a)->(setS w l).cell? a=w.cell? a
 | [],_,_,_=>rfl
 |p::t,w,a,h=>by rw[setS,JW t _ a (λq A=>h q (by simp[A])),ZrS w p.1 a _ (h p (by simp))]
structure Ptrs (w:Wq) (v:Value) (ps:List (Addr×ByteArray)):Prop where
 row:RSl w 1 v ps.length (ps.map λp=>Value.pointer (some p.1))
 cells:∀p∈ps,w.cell? p.1=some (.string p.2)/\w.frozen? p.1=false
 size:∀p∈ps,p.2.size<=16777216
 apart:ps.Pairwise λp q=>p.1≠q.1
theorem ZbP {w:Wq} {B:Nat} {a:Addr} {v:Value} {w':Wq} (h:Below B w w') (C:w.heap.size<=B) (A:w.cell? a=some v):w'.cell? a=some v:=
 (Below.cell h (Zrx (ZrL w a A) C)).trans A
theorem Xe (v:Value) (ps:List (Addr×ByteArray)) (w:Wq) (hE:Env w) (h:Ptrs w v ps):
 Calls prog 66 #[v] w λe w'=>e= .returned (nI (firstErr (ps.map (·.2)):Nat))/\
  ((firstErr (ps.map (·.2))=0/\Below w.heap.size (setS w (ps.map λp=>(p.1,collapse p.2))) w')\/(firstErr (ps.map (·.2))≠0/\Ext w w')):=by
 obtain ⟨J,D,ht,hu⟩:=h;obtain ⟨_,A,c,rfl,hs,hl,_,_⟩:=id J;have hA:ps.length<=9223372036854775807:=ZqM hs hl;clear hs hl;obtain ⟨E,R⟩:∃E,firstErr (ps.map (·.2))=E:=⟨_,rfl⟩;rw[R];go_enter func66,ntmps66;go_wp2;go_loopw [11] (λi wr=>∃k:Nat,k<=ps.length/\i=nI k/\Hid (E=firstErr ((ps.map (·.2)).drop k))/\Ext w wr) (λi _=>ps.length - (intOf i).toNat)
 case atStart=>exact ⟨0,ZqO _,rfl,R.symm,Ext.refl _⟩
 case round=>
  obtain ⟨k,hk,rfl,hf,hx⟩:=hrel;by_cases C:k<ps.length
  ·obtain ⟨ad,rfl,H⟩:=(J.ext hx).at1 k (.pointer (some ps[k].1)) (by rw[Zrq,ZqL C];rfl);have Q:=hx.cell (D ps[k] (Zq2 C)).1;have U:=GJ (l:=ps.map (·.2)) (k:=k) (by rw[Zq9];exact C);rw[ZsF] at U;have HC:=gd (UQ ps[k].2 wr (hE.ext hx) (by have:=ht ps[k] (Zq2 C);unfold maxLen;omega));obtain ⟨O,hO⟩:∃O,(checkS ps[k].2).1=O:=⟨_,rfl⟩;obtain ⟨K,hK⟩:∃K,(checkS ps[k].2).2=K:=⟨_,rfl⟩;obtain ⟨S,hS⟩:∃S,ps[k].2=S:=⟨_,rfl⟩;obtain ⟨a,ha⟩:∃a,ps[k].1=a:=⟨_,rfl⟩;rw[hK] at U;rw[hO,hK,hS] at HC;rw[hS,ha] at Q;rw[ha] at H;have F:=hf.out.trans U;clear U hf hO hK hS ha R;by_cases h0:K=0
   ·subst h0;rw[ZqN rfl] at F;have HF:=gd F;clear F
    go_wp2_with (first|(go_at_call 114;refine (HC.out).mono ?_;rintro e w' ⟨rfl,hh⟩))
    go_roundw
    case rel=>exact ⟨k+1,C,by go_num,HF.out,hx.trans hh⟩
    case measure=>simp[intOf];omega
   ·have Y:((K:Int) !=0)=true:=(by simp;omega);rw[ZqH h0] at F;subst F;have ho:(E=0/\Below w.heap.size (setS w (ps.map λp=>(p.1,collapse p.2))) w)\/E≠0:=Or.inr h0;clear ho;have H0:=gd h0;clear h0
    go_wp2_with (first|(go_at_call 114;refine (HC.out).mono ?_;rintro e w' ⟨rfl,hh⟩))
    go_ret;exact ⟨rfl,Or.inr ⟨H0.out,hx.trans hh⟩⟩
  ·have hd:k=ps.length:=om;have F:=hf.out;rw[Zq3 (by rw[Zq9];omega)] at F;have hn:E=0:=F;subst hn;subst hd;clear F C hf R hk;obtain ⟨wo,rfl⟩:∃wo:Wq,wo=wr:=⟨_,rfl⟩;go_wp2;go_loopw [28] (λi w2=>∃k:Nat,k<=ps.length/\i=nI k/\Below w.heap.size (setS w ((ps.take k).map λp=>(p.1,collapse p.2))) w2/\w.heap.size<=w2.heap.size) (λi _=>ps.length - (intOf i).toNat)
   case atStart=>exact ⟨0,ZqO _,rfl,hx,hx.size⟩
   case round=>
    obtain ⟨k,hk,rfl,Y,hz⟩:=hrel;by_cases C:k<ps.length
    ·obtain ⟨Z,I⟩:∃Z,setS w ((ps.take k).map λp=>(p.1,collapse p.2))=Z:=⟨_,rfl⟩;have X:Z.heap.size=w.heap.size:=(by rw[<-I,Gc]);obtain ⟨ad,rfl,hc⟩:=J.at1 k (.pointer (some ps[k].1)) (by rw[Zrq,ZqL C];rfl);have he:=D ps[k] (Zq2 C);have hg:Z.cell? ps[k].1=some (.string ps[k].2):=(by rw[<-I,JW,he.1];intro p hp;obtain ⟨q,hq,rfl⟩:=Zrr.1 hp;obtain ⟨j,hj,rfl⟩:=List.mem_take_iff_getElem.1 hq;exact Zsd.1 hu j k om C om);have hm:Z.frozen? ps[k].1=false:=(by rw[<-I,Qy];exact he.2);have hi:Z.cell? (ad.add k)=some (.pointer (some ps[k].1)):=(by rw[<-I,JW,hc];intro p hp e;obtain ⟨q,hq,rfl⟩:=Zrr.1 hp;have:=(D q (Zs2 hq)).1;simp only at e;rw[e,hc] at this;cases this);have hB:ps[k].1.block<w.heap.size:=(by have:=ZrL Z _ hg;omega);rw[I] at Y;have H:=ZbP Y (Nat.le_of_eq X) hi;have Q:=ZbP Y (Nat.le_of_eq X) hg;have hr:wr.frozen? ps[k].1=false:=(Zss Y hB).trans hm;have HT:Hid (setS w ((ps.take (k+1)).map λp=>(p.1,collapse p.2))=Z.setCell ps[k].1 (.string (collapse ps[k].2))):=(by show _=_;rw[ZqQ C,Zrf,Zq8,Zrz,ZeF,I]);have HC:=gd (Jr ps[k].2 wr (by have:=ht ps[k] (Zq2 C);omega));have HZ:=gd hz;have hy:=gd X;clear hz X he hg hm hi hc I;obtain ⟨a,ha⟩:∃a,ps[k].1=a:=⟨_,rfl⟩;obtain ⟨S,hS⟩:∃S,ps[k].2=S:=⟨_,rfl⟩;rw[ha] at H Q hr HT hB;rw[hS] at Q HT HC;clear ha hS
     go_wp2_with (first|(go_at_call 62;refine (HC.out).mono ?_;rintro e w3 ⟨rfl,V⟩;have hw:=V.cell Q;have hv:=(Zss V (Zrx hB HZ.out)).trans hr))
     go_roundw
     case rel=>exact ⟨k+1,C,by go_num,by rw[HT.out];exact Ext.setBoth (Y.trans (ZrV V HZ.out)) _ _,by have:=V.size;have:=HZ.out;simp[World.setCell];omega⟩
     case measure=>simp[intOf];omega
    ·have hd:k=ps.length:=om;subst hd;rw[Zq4 (ZqE _)] at Y;clear C hk;go_wp2;go_ret;exact ⟨rfl,Y⟩
theorem Qr (x y:ByteArray) (w:Wq):
 Calls prog 79 #[.string x,.string y] w λe w'=>e= .returned (nI (sCmp x y))/\w'=w:=by
 have A:sCmp x y=if Op.bytesLess x.toList y.toList=true then -1 else if (Op.bytesLess x.toList y.toList||x.toList==y.toList)=true then 0 else 1:=by
  unfold sCmp;by_cases h:Op.bytesLess x.toList y.toList=true
  ·rw[ZqN h,ZqN h]
  ·rw[ZqH h,ZqH h];simp only[Bool.not_eq_true] at h;simp[h]
 rw[A];clear A;go_enter func79,ntmps79;go_wp2
 all_goals go_ret
 all_goals exact ⟨by simp_all,rfl⟩
theorem Kv (t:Int) (w:Wq):
 Calls prog 68 #[nI t] w λe w'=>e= .returned (.bool (inT t))/\w=w':=by
 unfold inT;go_enter func68,ntmps68;go_wp2
 all_goals go_ret
 all_goals exact ⟨by simp_all<;>omega,rfl⟩
theorem Za0 (a b:Ent) (w:Wq):
 Calls prog 51 #[.agg (eCells a).toArray,.agg (eCells b).toArray] w λe w'=>e= .returned (nI (entCmp a b))/\Ext w w':=by
 have R:=gd (λw'=>Qr a.id b.id w');have A:entCmp a b=if b.upd<a.upd then -1 else if a.upd<b.upd then 1 else sCmp a.id b.id:=by
  unfold entCmp iCmp;by_cases h:b.upd<a.upd
  ·simp[h]
  ·by_cases k:a.upd<b.upd
   ·simp[h,k]
   ·simp[h,k]
 rw[A];clear A;obtain ⟨S,F,I,C,O⟩:=a;obtain ⟨U,H,J,D,Q⟩:=b;unfold eCells;go_enter func51,ntmps51
 go_wp2_with (go_at_call 79;refine (R.out _).mono ?_;rintro e w1 ⟨rfl,rfl⟩)
 all_goals go_ret
 all_goals exact ⟨by simp_all,((Ext.refl _).alloc _).alloc _⟩
theorem RSl.at1' {w:Wq} {size n c m:Nat} {A:Option Addr} {xs:List Value} (h:RSl w size (.slice A m c) n xs) (k:Nat) (u:Value) (C:xs[k]? =some u):∃ad,A=some ad/\w.cell? (ad.add k)=some u:=h.at1 k u C
def eokS (e:Ent):Prop:=e.id.size<=16777216/\e.title.size<=16777216/\e.link.size<=16777216/\e.content.size<=16777216
theorem Zd (w:Wq) (o:Obj):(w.alloc o).heap.size=w.heap.size+1:=by show (w.heap.push o).size=_;simp
theorem Ext.boxedF {w w':Wq} {cs:Array Value} {t:TypeId} (h:Ext (w.alloc (.cells cs t)) w') (i:Nat):w'.frozen? ⟨w.heap.size,i,none⟩=false:=
 Zrk (h.heap (ZqJ w _)) i
theorem ZdC (w:Wq) (cs:Array Value) (t:TypeId) (fr:Nat×Nat) (i:Nat) (v:Value) (C:i<cs.size):(w.alloc (.cells cs t fr)).setCell ⟨w.heap.size,i,none⟩ v=w.alloc (.cells (cs.setIfInBounds i v) t fr):=by
 simp only[World.setCell,World.alloc]
 congr 1
 apply Array.ext_getElem?;intro k;rw[Zr6];by_cases A:w.heap.size=k
 ·subst A;simp
 ·rw[ZqH A];rcases Nat.lt_or_gt_of_ne A with h|h
  ·rw[ZrT (by simp;omega),ZrT (by simp;omega)]
  ·rw[Array.getElem?_push_lt h,Array.getElem?_push_lt h]
theorem XD (w:Wq) (cs:Array Value) (t:TypeId) (fr:Nat×Nat) (B C:Obj) (i:Nat) (v:Value) (D:i<cs.size):
 (((w.alloc (.cells cs t fr)).alloc B).alloc C).setCell ⟨w.heap.size,i,none⟩ v=((w.alloc (.cells (cs.setIfInBounds i v) t fr)).alloc B).alloc C:=by
 have A:∀(W:Wq) (O:Obj) (p:Addr) (u:Value),p.block<W.heap.size->(W.alloc O).setCell p u=(W.setCell p u).alloc O:=by
  intro W O p u F;simp only[World.setCell,World.alloc]
  congr 1
  apply Array.ext_getElem?;intro k;rw[Zr6];rcases Nat.lt_trichotomy k W.heap.size with h|h|h
  ·rw[Array.getElem?_push_lt h,Array.getElem?_push_lt (by simpa using h)];simp[Array.getElem_modify];split<;>simp
  ·subst h;have:¬p.block=W.heap.size:=om;have e1:(W.heap.push O)[W.heap.size]? =some O:=(by simp);have e2:∀f:Obj->Obj,((W.heap.modify p.block f).push O)[W.heap.size]? =some O:=by
    intro f;have:=Array.getElem?_push_size (xs:=W.heap.modify p.block f) (x:=O)
    rwa [Array.size_modify] at this
   rw[ZqH this,e1,e2]
  ·rw[ZrT (by simp;omega),ZrT (by simp;omega)];split<;>rfl
 rw[A _ C _ _ (by simp;omega),A _ B _ _ (by simp),ZdC _ _ _ _ _ _ D]
theorem ZN {w:Wq} {A:Array Value} {t:TypeId} {fr:Nat×Nat} {B C:Obj} (d:Aft (((w.alloc (.cells A t fr)).alloc B).alloc C)) (i:Nat) (v:Value) (h:A[i]? =some v):d.w.cell? ⟨w.heap.size,i,none⟩=some v:=
 Ext.boxed (((Ext.refl _).alloc B).alloc C|>.trans d.ext) i v h
theorem X3 {w:Wq} {B:Array Value} {t:TypeId} {fr:Nat×Nat} {A C:Obj} (d:Aft (((w.alloc A).alloc (.cells B t fr)).alloc C)) (i:Nat) (v:Value) (D:B[i]? =some v):d.w.cell? ⟨w.heap.size+1,i,none⟩=some v:=by
 have h:=Ext.boxed (w:=w.alloc A) (((Ext.refl _).alloc C).trans d.ext) i v D
 rwa [Zd] at h
theorem ZlX (w:Wq) (a0 b0 c0 h a b c d:ByteArray) (x:Value) (t:TypeId) (fr:Nat×Nat) (B C:Obj):
 setS (((w.alloc (.cells #[.string a0,.string b0,.string c0,.string h,x] t fr)).alloc B).alloc C) [(⟨w.heap.size,0,none⟩,a),(⟨w.heap.size,1,none⟩,b),(⟨w.heap.size,2,none⟩,c),(⟨w.heap.size,3,none⟩,d)]
  =((w.alloc (.cells #[.string a,.string b,.string c,.string d,x] t fr)).alloc B).alloc C:=by
 simp only[setS];rw[XD _ _ _ _ _ _ _ _ (by simp),XD _ _ _ _ _ _ _ _ (by simp),XD _ _ _ _ _ _ _ _ (by simp),XD _ _ _ _ _ _ _ _ (by simp)];rfl
theorem Zl {P:Program} {A:Func} {p u:Tmp} {ty:TypeId} (h:A.results=#[.cell p ty,.tmp u]) (tmps:Array Value) (w:Wq) (g:Nat) (t:TypeId) (cs:Array Value) (fr:Nat×Nat) (d:TypeDesc)
 (H:tmps.getD p undef= .pointer (some ⟨g,0,none⟩)) (D:w.heap[g]? =some (.cells cs t fr))
 (I:P.underlying ty=some d) (C:(match d with| .struct _| .array _ _=>true|_=>false)=true) (F:(P.info? ty).map (·.size)=some cs.size):
 (results A tmps).run P w= .ok (.tuple #[.agg cs,tmps.getD u undef]) w:=by
 rw[results_cell_tmp h,H];simp[asAddr,run_loadVar_row w g t ty cs fr d D I C F]
theorem Vc {cs:List Value} (h:∀u∈cs,u.oneCell'=true):cs.toArray.all (λu=>u.oneCell')=true:=by simpa using h
theorem ZQ:(prog.info? 61).map (λi=>i.size)=some 5:=by kernel_rfl
theorem Zr (e:Ent):∀u∈eCells e,u.oneCell'=true:=by
 intro u h;simp[eCells] at h;rcases h with rfl|rfl|rfl|rfl|rfl<;>rfl
theorem Zae {w w1:Wq} {A B C:Obj} (D:Ext (((w.alloc A).alloc B).alloc C) w1):w1.heap[w.heap.size+1]? =some B:=by
 have h:(((w.alloc A).alloc B).alloc C).heap[w.heap.size+1]? =some B:=by
  rw[Below.heap_alloc _ _ _ (by simp)];have:=ZqJ (w.alloc A) B
  rwa [Zd] at this
 exact D.heap h
abbrev entW (w:Wq) (e:Ent):Wq:=((w.alloc (.cells (eCells e).toArray 61)).alloc (.cells (eCells zeroE).toArray 61)).alloc (.cells #[.pointer (some ⟨w.heap.size,0,none⟩),.pointer (some ⟨w.heap.size,1,none⟩),.pointer (some ⟨w.heap.size,2,none⟩),.pointer (some ⟨w.heap.size,3,none⟩)] 120)
theorem Zd4 (w:Wq) (e:Ent) (C:eokS e):Ptrs (entW w e) (.slice (some ⟨w.heap.size+1+1,0,none⟩) 4 4) [(⟨w.heap.size,0,none⟩,e.id),(⟨w.heap.size,1,none⟩,e.title),(⟨w.heap.size,2,none⟩,e.link),(⟨w.heap.size,3,none⟩,e.content)]:=by
 obtain ⟨D,F,H,I⟩:=C;refine ⟨Yr (e:=120) (fr:=(0,0)) (cs:= [_,_,_,_]) (Z5 w _ _ _) rfl (by decide),?_,?_,?_⟩
 ·have h:Ext (w.alloc (.cells (eCells e).toArray 61)) (entW w e):=((Ext.refl _).alloc _).alloc _;intro p A;simp only[Zq1,Zri,ZrD] at A;rcases A with rfl|rfl|rfl|rfl
  ·exact ⟨h.boxed 0 _ rfl,h.boxedF 0⟩
  ·exact ⟨h.boxed 1 _ rfl,h.boxedF 1⟩
  ·exact ⟨h.boxed 2 _ rfl,h.boxedF 2⟩
  ·exact ⟨h.boxed 3 _ rfl,h.boxedF 3⟩
 ·intro p A;simp only[Zq1,Zri,ZrD] at A;rcases A with rfl|rfl|rfl|rfl<;>assumption
 ·simp
theorem Zgc (e:Ent) (w:Wq) (D:Env w) (F:eokS e) (A:firstErr (strsE e)≠0):
 Calls prog 66 #[.slice (some ⟨w.heap.size+1+1,0,none⟩) 4 4] (entW w e) λx w'=>x= .returned (nI (firstErr (strsE e):Nat))/\Ext (entW w e) w':=by
 refine (Xe _ _ _ (((D.alloc _).alloc _).alloc _) (Zd4 w e F)).mono ?_;rintro x w' ⟨C,h⟩;refine ⟨C,?_⟩;rcases h with h|h
 ·exact absurd h.1 A
 ·exact h.2
theorem Zio (e:Ent) (w:Wq) (J:Env w) (O:eokS e) (H:firstErr (strsE e)=0):
 Calls prog 66 #[.slice (some ⟨w.heap.size+1+1,0,none⟩) 4 4] (entW w e) λx w'=>x= .returned (nI 0)/\Ext (entW w (collE e)) w':=by
 refine (Xe _ _ _ (((J.alloc _).alloc _).alloc _) (Zd4 w e O)).mono ?_;rintro x w' ⟨D,h⟩;have A:firstErr (List.map (·.2) [((⟨w.heap.size,0,none⟩:Addr),e.id),(⟨w.heap.size,1,none⟩,e.title),(⟨w.heap.size,2,none⟩,e.link),(⟨w.heap.size,3,none⟩,e.content)])=0:=H;rw[A] at D h;refine ⟨D,?_⟩;rcases h with h|h
 ·have I:=h.2;have e1:=ZlX w e.id e.title e.link e.content (collapse e.id) (collapse e.title) (collapse e.link) (collapse e.content) (nI e.upd) 61 (0,0) (.cells (eCells zeroE).toArray 61) (.cells #[.pointer (some ⟨w.heap.size,0,none⟩),.pointer (some ⟨w.heap.size,1,none⟩),.pointer (some ⟨w.heap.size,2,none⟩),.pointer (some ⟨w.heap.size,3,none⟩)] 120);have F:Below (entW w e).heap.size (entW w (collE e)) w':=by have C:=I;simp only[Zq8,Zrz] at C;rw[show setS (entW w e) _=entW w (collE e) from e1] at C;exact C
  have e2:(entW w e).heap.size=(entW w (collE e)).heap.size:=by simp
  rw[e2] at F;exact F
 ·exact absurd rfl h.1
theorem JQ {s:ByteArray} (h:s≠noS):s.toList.isEmpty=false:=by
 rw[List.isEmpty_eq_false_iff];intro e;exact h (toList_inj (e.trans (by rw[ZrC];rfl)))
theorem Zdv (e:Ent) (w:Wq) (X:Env w) (Y:eokS e):
 Calls prog 69 #[.agg (eCells e).toArray] w λx w'=>x= .returned (.tuple #[.agg (eCells (normE e)).toArray,nI (errE e:Nat)])/\Ext w w':=by
 have U:Ext w (entW w e):=(((Ext.refl w).alloc _).alloc _).alloc _;have D:Ext w (entW w (collE e)):=(((Ext.refl w).alloc _).alloc _).alloc _;by_cases H:firstErr (strsE e)=0;have I:=gd (Zio e w X Y H);have J:=gd (λw'=>Kv e.upd w');have O:=U6 (e:=e);by_cases Q:collapse e.id=noS
 focus
  have A:errE e=19:=by unfold errE;rw[ZqH (by simpa using H),ZqN Q]
  have C:normE e=zeroE:=by unfold normE;rw[ZqH (by rw[A];decide)]
  rw[A,C]
  unfold collE at I D
  rw[Q] at I D
  clear A C H Q O J
  obtain ⟨id,title,link,content,upd⟩:=e
  have J:=gd (λw'=>Kv upd w')
  generalize collapse title=ct at*
  generalize collapse link=cl at*
  generalize collapse content=cc at*
  unfold entW eCells zeroE noS at*
  go_enter func69,ntmps69
  go_wp2_with (first|(go_at_call 66;refine (I.out).mono ?_;rintro e w1 ⟨rfl,h⟩;have F:=Zae h;have c0:=ZN ⟨_,h⟩ 0 _ rfl;have c1:=ZN ⟨_,h⟩ 1 _ rfl;have c2:=ZN ⟨_,h⟩ 2 _ rfl;have c3:=ZN ⟨_,h⟩ 3 _ rfl;have c4:=ZN ⟨_,h⟩ 4 _ rfl;dsimp only at c0 c1 c2 c3 c4)|(go_at_call 68;refine (J.out _).mono ?_;rintro e w2 ⟨rfl,rfl⟩)|(refine ZqF rfl 61 (.tmp 2) (.tmp 20) rfl (w.heap.size+1) _ rfl rfl _ _ F ZQ rfl (Vc (Zr zeroE)) ?_))
 rotate_left
 have S:=JQ Q;cases h2:inT e.upd
 focus
  have A:errE e=3:=by unfold errE;rw[ZqH (by simpa using H),ZqH Q,h2];rfl
  have C:normE e=zeroE:=by unfold normE;rw[ZqH (by rw[A];decide)]
  rw[A,C]
  rw[h2] at J
  unfold collE at I D
  clear A C H Q O h2
  obtain ⟨id,title,link,content,upd⟩:=e
  simp only at S I D J
  generalize collapse id=ci at*
  generalize collapse title=ct at*
  generalize collapse link=cl at*
  generalize collapse content=cc at*
  unfold entW eCells zeroE noS at*
  go_enter func69,ntmps69
  go_wp2_with (first|(go_at_call 66;refine (I.out).mono ?_;rintro e w1 ⟨rfl,h⟩;have F:=Zae h;have c0:=ZN ⟨_,h⟩ 0 _ rfl;have c1:=ZN ⟨_,h⟩ 1 _ rfl;have c2:=ZN ⟨_,h⟩ 2 _ rfl;have c3:=ZN ⟨_,h⟩ 3 _ rfl;have c4:=ZN ⟨_,h⟩ 4 _ rfl;dsimp only at c0 c1 c2 c3 c4)|(go_at_call 68;refine (J.out _).mono ?_;rintro e w2 ⟨rfl,rfl⟩)|(refine ZqF rfl 61 (.tmp 2) (.tmp 26) rfl (w.heap.size+1) _ rfl rfl _ _ F ZQ rfl (Vc (Zr zeroE)) ?_))
 rotate_left
 focus
  have A:errE e=0:=O.2 ⟨H,Q,h2⟩
  have C:normE e=collE e:=by unfold normE;rw[ZqN A]
  rw[A,C]
  rw[h2] at J
  unfold collE at I D|-
  clear A C H Q O h2
  obtain ⟨id,title,link,content,upd⟩:=e
  simp only at S I D J|-
  generalize collapse id=ci at*
  generalize collapse title=ct at*
  generalize collapse link=cl at*
  generalize collapse content=cc at*
  unfold entW eCells zeroE noS at*
  go_enter func69,ntmps69
  go_wp2_with (first|(go_at_call 66;refine (I.out).mono ?_;rintro e w1 ⟨rfl,h⟩;have F:=Zae h;have c0:=ZN ⟨_,h⟩ 0 _ rfl;have c1:=ZN ⟨_,h⟩ 1 _ rfl;have c2:=ZN ⟨_,h⟩ 2 _ rfl;have c3:=ZN ⟨_,h⟩ 3 _ rfl;have c4:=ZN ⟨_,h⟩ 4 _ rfl;dsimp only at c0 c1 c2 c3 c4)|(go_at_call 68;refine (J.out _).mono ?_;rintro e w2 ⟨rfl,rfl⟩)|(refine ZqF rfl 61 (.tmp 2) (.tmp 27) rfl (w.heap.size+1) _ rfl rfl _ _ F ZQ rfl (Vc (Zr ⟨ci,ct,cl,cc,upd⟩)) ?_))
 rotate_left
 ·have V:=gd (Zgc e w X Y H);have A:errE e=firstErr (strsE e):=by unfold errE;rw[ZqN H]
  have C:normE e=zeroE:=by unfold normE;rw[ZqH (by rw[A];exact H)]
  rw[A,C];clear A C;obtain ⟨E,R⟩:∃E,firstErr (strsE e)=E:=⟨_,rfl⟩;rw[R] at V H|-;have Z:((E:Int) !=0)=true:=by simp;omega
  clear R H;obtain ⟨id,title,link,content,upd⟩:=e;unfold entW eCells zeroE noS at*;go_enter func69,ntmps69
  go_wp2_with (first|(go_at_call 66;refine (V.out).mono ?_;rintro e w1 ⟨rfl,h⟩;have F:=Zae h)|(refine ZqF rfl 61 (.tmp 2) (.tmp 14) rfl (w.heap.size+1) _ rfl rfl _ _ F ZQ rfl (Vc (Zr zeroE)) ?_))
  ((try simp only[Exit.inBlock,Exit.then]);refine ZqT (Zl rfl _ _ _ _ _ _ _ rfl (ZqV _ _ _ _ _ _ F) underlying61 rfl ZQ) rfl ?_);exact ⟨rfl,(U.trans h).setRow om _⟩
 all_goals
  ((try simp only[Exit.inBlock,Exit.then]);refine ZqT (Zl rfl _ _ _ _ _ _ _ rfl (ZqV _ _ _ _ _ _ F) underlying61 rfl ZQ) rfl ?_)
  exact ⟨rfl,(D.trans h).setRow om _⟩
section
theorem ZhY (e:Ent) (w:Wq):Calls prog 155 #[.agg (eCells e).toArray] w λx w'=>x= .returned (nI e.upd)/\Ext w w':=by
 unfold eCells;go_enter func155,ntmps155;go_wp2;go_ret;exact ⟨rfl,(Ext.refl _).alloc _⟩
theorem Zk5 (x y:Int):iCmp x y= -1\/iCmp x y=0\/iCmp x y=1:=by
 unfold iCmp;split
 ·exact Or.inl rfl
 ·split
  ·exact Or.inr (Or.inr rfl)
  ·exact Or.inr (Or.inl rfl)
attribute [local go_sem ↓] Go.wp_at_zero Go.wp_at_succ
theorem Vv (a b r:Ent) (w:Wq) (hE:Env w) (ha:eok a) (hb:eok b) (hf:(iCmp a.upd b.upd= -1/\b=r)\/(iCmp a.upd b.upd=1/\a=r)\/(iCmp a.upd b.upd=0/\Op.bytesLess (entryKey a).toList (entryKey b).toList=true/\b=r)\/(iCmp a.upd b.upd=0/\Op.bytesLess (entryKey a).toList (entryKey b).toList=false/\a=r)):
 Calls prog 154 #[.agg (eCells a).toArray,.agg (eCells b).toArray,.func (.func 155) #[] #[],.func (.func 156) #[] #[]] w
  λx w'=>x= .returned (.agg (eCells r).toArray)/\Ext w w':=by
 have hh:=gd (λw'=>ZhY a w');have hi:=gd (λw'=>ZhY b w');have Y:=gd (λw' h=>IJ a w' h ha);have Z:=gd (λw' h=>IJ b w' h hb);have HC:=gd (λw'=>Kh a.upd b.upd w');rw[show (if a.upd<b.upd then (-1:Int) else if b.upd<a.upd then 1 else 0)=iCmp a.upd b.upd from rfl] at HC;generalize iCmp a.upd b.upd=ci at*;generalize entryKey a=ka at*;generalize entryKey b=kb at*;clear ha hb;rcases hf with ⟨hc,hr⟩|⟨hc,hr⟩|⟨hc,hT,hr⟩|⟨hc,hT,hr⟩
 all_goals
  subst hr
  subst hc
  obtain ⟨S,F,I,A,O⟩:=a
  obtain ⟨U,H,J,C,Q⟩:=b
  unfold eCells at*
  dsimp only at*
  go_enter func154,ntmps154
  go_wp2
  obtain ⟨W,R⟩:∃W,W=((w.alloc (.cells #[.string S,.string F,.string I,.string A,nI O] 61)).alloc (.cells #[.string U,.string H,.string J,.string C,nI Q] 61)).alloc (.cells #[eS,eS,eS,eS,nI 0] 61):=⟨_,rfl⟩
  rw[<-R]
  have hg:Ext w W:=by rw[R];exact (((Ext.refl w).alloc _).alloc _).alloc _
  have he:∀d:Aft W,d.w.heap[w.heap.size+1+1]? =some (.cells #[eS,eS,eS,eS,nI 0] 61):=by rw[R];exact λd=>d.ext.heap (Z5 w _ _ _)
  have a0:∀d:Aft W,d.w.cell? ⟨w.heap.size,0,none⟩=some (.string S):=by rw[R];exact λd=>ZN d 0 _ rfl
  have a1:∀d:Aft W,d.w.cell? ⟨w.heap.size,1,none⟩=some (.string F):=by rw[R];exact λd=>ZN d 1 _ rfl
  have a2:∀d:Aft W,d.w.cell? ⟨w.heap.size,2,none⟩=some (.string I):=by rw[R];exact λd=>ZN d 2 _ rfl
  have a3:∀d:Aft W,d.w.cell? ⟨w.heap.size,3,none⟩=some (.string A):=by rw[R];exact λd=>ZN d 3 _ rfl
  have a4:∀d:Aft W,d.w.cell? ⟨w.heap.size,4,none⟩=some (nI O):=by rw[R];exact λd=>ZN d 4 _ rfl
  have b0:∀d:Aft W,d.w.cell? ⟨w.heap.size+1,0,none⟩=some (.string U):=by rw[R];exact λd=>X3 d 0 _ rfl
  have b1:∀d:Aft W,d.w.cell? ⟨w.heap.size+1,1,none⟩=some (.string H):=by rw[R];exact λd=>X3 d 1 _ rfl
  have b2:∀d:Aft W,d.w.cell? ⟨w.heap.size+1,2,none⟩=some (.string J):=by rw[R];exact λd=>X3 d 2 _ rfl
  have b3:∀d:Aft W,d.w.cell? ⟨w.heap.size+1,3,none⟩=some (.string C):=by rw[R];exact λd=>X3 d 3 _ rfl
  have b4:∀d:Aft W,d.w.cell? ⟨w.heap.size+1,4,none⟩=some (nI Q):=by rw[R];exact λd=>X3 d 4 _ rfl
  clear R
  refine rA ?_
  repeat (quiet_step ((first|(go_at_call 155;with_reducible exact Zi (hh.out _))|(go_at_call 155;with_reducible exact Zi (hi.out _))|(go_at_call 128;with_reducible exact ZX (HC.out _)))))
  refine Zru ?_
  rintro _ ⟨D,rfl⟩
  have V:Env D.w:=hE.ext (hg.trans D.ext)
  have hk:=hg.trans D.ext
  have hd:=he D
  have hl:∀d:Aft D.w,d.w.cell? ⟨w.heap.size,0,none⟩=some (.string S):=λd=>a0 ⟨_,D.ext.trans d.ext⟩
  have hm:∀d:Aft D.w,d.w.cell? ⟨w.heap.size,1,none⟩=some (.string F):=λd=>a1 ⟨_,D.ext.trans d.ext⟩
  have hn:∀d:Aft D.w,d.w.cell? ⟨w.heap.size,2,none⟩=some (.string I):=λd=>a2 ⟨_,D.ext.trans d.ext⟩
  have ho:∀d:Aft D.w,d.w.cell? ⟨w.heap.size,3,none⟩=some (.string A):=λd=>a3 ⟨_,D.ext.trans d.ext⟩
  have hp:∀d:Aft D.w,d.w.cell? ⟨w.heap.size,4,none⟩=some (nI O):=λd=>a4 ⟨_,D.ext.trans d.ext⟩
  have hq:∀d:Aft D.w,d.w.cell? ⟨w.heap.size+1,0,none⟩=some (.string U):=λd=>b0 ⟨_,D.ext.trans d.ext⟩
  have hs:∀d:Aft D.w,d.w.cell? ⟨w.heap.size+1,1,none⟩=some (.string H):=λd=>b1 ⟨_,D.ext.trans d.ext⟩
  have ht:∀d:Aft D.w,d.w.cell? ⟨w.heap.size+1,2,none⟩=some (.string J):=λd=>b2 ⟨_,D.ext.trans d.ext⟩
  have hu:∀d:Aft D.w,d.w.cell? ⟨w.heap.size+1,3,none⟩=some (.string C):=λd=>b3 ⟨_,D.ext.trans d.ext⟩
  have hv:∀d:Aft D.w,d.w.cell? ⟨w.heap.size+1,4,none⟩=some (nI Q):=λd=>b4 ⟨_,D.ext.trans d.ext⟩
  have hj:∀d:Aft D.w,d.w.heap[w.heap.size+1+1]? =some (.cells #[eS,eS,eS,eS,nI 0] 61):=λd=>d.ext.heap hd
  clear a0 a1 a2 a3 a4 b0 b1 b2 b3 b4 he hd
  generalize D.w=W1 at*
  go_wp2
  refine rA ?_
  repeat (first|go_big_quiet_step ((first|(go_at_call 156;with_reducible exact Zi (Y.out _ (V.ext (Aft.ext _))))|(go_at_call 156;with_reducible exact Zi (Z.out _ (V.ext (Aft.ext _))))))|quiet_step ((first|(go_at_call 156;with_reducible exact Zi (Y.out _ (V.ext (Aft.ext _))))|(go_at_call 156;with_reducible exact Zi (Z.out _ (V.ext (Aft.ext _)))))))
  refine Zru ?_
  rintro _ ⟨d2,rfl⟩
  have X:=hj d2
  go_wp2_with (first|(refine ZqF rfl 61 (.tmp 8) (.tmp 32) rfl (w.heap.size+1+1) _ rfl rfl _ _ X ZQ rfl (Vc (Zr ⟨U,H,J,C,Q⟩)) ?_)|(refine ZqF rfl 61 (.tmp 8) (.tmp 33) rfl (w.heap.size+1+1) _ rfl rfl _ _ X ZQ rfl (Vc (Zr ⟨S,F,I,A,O⟩)) ?_))
  ((try simp only[Exit.inBlock,Exit.then]);refine ZqT (ZrO rfl _ _ _ _ _ _ _ rfl (ZqV _ _ _ _ _ _ X) underlying61 rfl ZQ) rfl ?_)
  exact ⟨rfl,(hk.trans d2.ext).setRow om _⟩
theorem ZiP (a b:Ent) (w:Wq) (A:Env w) (C:eok a) (D:eok b):
 Calls prog 154 #[.agg (eCells a).toArray,.agg (eCells b).toArray,.func (.func 155) #[] #[],.func (.func 156) #[] #[]] w
  λx w'=>x= .returned (.agg (eCells (laterE a b)).toArray)/\Ext w w':=by
 rcases Zk5 a.upd b.upd with h|h|h
 ·have e:laterE a b=b:=by unfold laterE laterB;rw[h];rfl
  rw[e];exact Vv a b b w A C D (Or.inl ⟨h,rfl⟩)
 ·cases hT:Op.bytesLess (entryKey a).toList (entryKey b).toList with
  |true=>have e:laterE a b=b:=(by unfold laterE laterB;rw[h,hT];rfl);rw[e];exact Vv a b b w A C D (Or.inr (Or.inr (Or.inl ⟨h,hT,rfl⟩)))
  |false=>have e:laterE a b=a:=(by unfold laterE laterB;rw[h,hT];rfl);rw[e];exact Vv a b a w A C D (Or.inr (Or.inr (Or.inr ⟨h,hT,rfl⟩)))
 ·have e:laterE a b=a:=by unfold laterE laterB;rw[h];rfl
  rw[e];exact Vv a b a w A C D (Or.inr (Or.inl ⟨h,rfl⟩))
theorem ZcE (a b:Ent) (w:Wq) (hE:Env w) (ha:eok a) (hb:eok b):
 Calls prog 118 #[.agg (eCells a).toArray,.agg (eCells b).toArray] w λx w'=>x= .returned (.agg (eCells (laterE a b)).toArray)/\Ext w w':=by
 have R:∀(A B C:Obj),Ext w (((w.alloc A).alloc B).alloc C):=λA B C=>(((Ext.refl w).alloc A).alloc B).alloc C;have HL:=gd (λ(w':Wq) (h:Ext w w')=>ZiP a b w' (hE.ext h) ha hb);generalize laterE a b=r at*;obtain ⟨he,U,X,I,hc⟩:=a;obtain ⟨hf,V,Y,J,hd⟩:=b;obtain ⟨Z,F,H,D,S⟩:=r;clear ha hb;have HX:=gd R;clear R;unfold eCells at*;go_enter func118,ntmps118
 go_wp2_with (first|(go_at_call 154;refine (HL.out _ (HX.out _ _ _)).mono ?_;rintro e w1 ⟨rfl,Q⟩;have O:=Q.heap (Z5 w _ _ _))|(refine ZqF rfl 61 (.tmp 4) (.tmp 7) rfl (w.heap.size+1+1) _ rfl rfl _ _ O ZQ rfl (Vc (Zr ⟨Z,F,H,D,S⟩)) ?_))
 ((try simp only[Exit.inBlock,Exit.then]);refine ZqT (ZrO rfl _ _ _ _ _ _ _ rfl (ZqV _ _ _ _ _ _ O) underlying61 rfl ZQ) rfl ?_);exact ⟨rfl,((HX.out _ _ _).trans Q).setRow om _⟩
end
def total (l:List ByteArray):Nat:=(l.map λs=>s.size).sum
section
section
variable {α κ:Type} (O:Ord α κ)
end
section
variable {α κ:Type} [DecidableEq κ] (O:Ord α κ)
end
def flatE (l:List Ent):List Value:=(l.map eCells).flatten
theorem Zd9 (a b:List Ent):flatE (a++b)=flatE a++flatE b:=by unfold flatE;rw[Zrf,ZsP]
theorem Zea (x:Ent):flatE [x]=eCells x:=by unfold flatE;simp
def REnts (w:Wq) (v:Value) (l:List Ent):Prop:=RSl w 5 v l.length (flatE l)
def OEnts (w:Wq) (B:Nat) (v:Value) (l:List Ent):Prop:=w.ownsRow B 61 5 v l.length (flatE l)
theorem OEnts.reads {w:Wq} {B:Nat} {v:Value} {l:List Ent} (h:OEnts w B v l):REnts w v l:=RSl.of_own h
theorem REnts.ext {w w':Wq} {v:Value} {l:List Ent} (h:REnts w v l) (A:Ext w w'):REnts w' v l:=RSl.ext h A
theorem OEnts.ext {w w':Wq} {B:Nat} {v:Value} {l:List Ent} (h:OEnts w B v l) (A:Ext w w'):OEnts w' B v l:=Zt h A
theorem REnts.form {w:Wq} {v:Value} {l:List Ent} (h:REnts w v l):∃A c,v= .slice A l.length c/\l.length<=c/\c<=maxLen:=by
 obtain ⟨_,A,c,e,C,D,_⟩:=h;exact ⟨A,c,e,C,D⟩
structure AtEnt (w:Wq) (p:Addr) (e:Ent):Prop where
 c0:w.cell? p=some (.string e.id)
 c1:w.cell? ⟨p.block,p.off+1,none⟩=some (.string e.title)
 c2:w.cell? ⟨p.block,p.off+2,none⟩=some (.string e.link)
 c3:w.cell? ⟨p.block,p.off+3,none⟩=some (.string e.content)
 c4:w.cell? ⟨p.block,p.off+4,none⟩=some (nI e.upd)
theorem REnts.at {w:Wq} {v:Value} {l:List Ent} (h:REnts w v l) {k:Nat} (D:k<l.length):∃ad c,v= .slice (some ad) l.length c/\AtEnt w (ad.add (k*5)) l[k]:=by
 obtain ⟨ad,c,e,C⟩:=RSl.elem (k:=5) (css:=l.map eCells) h (by decide) (by intro c C;obtain ⟨x,_,rfl⟩:=Zrr.1 C;rfl) k (eCells l[k]) (by rw[Zrq,ZqL D];rfl);rw[Zst] at C;have A:∀i,0<i->(ad.add (k*5)).add i=⟨(ad.add (k*5)).block,(ad.add (k*5)).off+i,none⟩:=λi F=>ZqH om;refine ⟨ad,c,e,?_,?_,?_,?_,?_⟩
 ·have:=C 0 _ rfl;rwa [add_zero] at this
 ·have:=C 1 _ rfl;rwa [A _ (by decide)] at this
 ·have:=C 2 _ rfl;rwa [A _ (by decide)] at this
 ·have:=C 3 _ rfl;rwa [A _ (by decide)] at this
 ·have:=C 4 _ rfl;rwa [A _ (by decide)] at this
theorem U8:(prog.info? 61).map (λi=>(i.zero,i.size,i.bytes))=some (some (.agg #[eS,eS,eS,eS,nI 0]),5,72):=ZiD
theorem Zcf {w wr:Wq} {A D:Array Value} {t:TypeId} {fr:Nat×Nat} (h:Ext (w.alloc (.cells A t fr)) wr):Ext (w.alloc (.cells D t fr)) (wr.setRow w.heap.size D):=by
 have C:Below (w.alloc (.cells A t fr)).heap.size (w.alloc (.cells A t fr)) wr:=h;refine ⟨C.os,C.tape,C.output,by have:=C.size;simp at this|-;simpa [World.setRow] using this,λk H=> ?_⟩;have F:k<w.heap.size+1:=by simpa using H
 by_cases e:k=w.heap.size
 ·subst e;rw[ZqV wr w.heap.size A D t fr (h.heap (ZqJ w _)),ZqJ]
 ·rw[Zrn _ _ _ _ e,C.block k (by simpa using F),Below.heap_alloc _ _ _ om,Below.heap_alloc _ _ _ om]
end
section
theorem ZcD {a b:Ent} (h:eok a) (A:eok b):eok (laterE a b):=by unfold laterE;split<;>assumption
theorem OEnts.mono {w:Wq} {B D:Nat} {v:Value} {l:List Ent} (h:OEnts w B v l) (I:D<=B):OEnts w D v l:=by
 refine ⟨h.1,?_⟩;rcases h.2 with C|⟨g,cap,A,F,C,H⟩
 ·exact Or.inl C
 ·exact Or.inr ⟨g,cap,A,F,ZqM I C,H⟩
theorem OEnts.nil (w:Wq) (B:Nat):OEnts w B sN []:=Zrt _ _ _ _
theorem OEnts.snoc {w:Wq} {B:Nat} {v:Value} {l:List Ent} {x:Ent} (h:w.ownsRow B 61 5 v (l.length+1) (flatE l++eCells x)):OEnts w B v (l++ [x]):=by
 unfold OEnts;rw[ZqG,Zd9,Zea];exact h
attribute [local go_sem] calm1
end
def grp (l:List Ent) (s:ByteArray):List Ent:=l.filter λx=>decide (ordE.id x=s)
structure Grps (w:Wq) (B:Nat) (v:Value) (l:List Ent) (fs:List ByteArray) (gv:List Value):Prop where
 len:gv.length=fs.length
 row:w.ownsRow B 30 1 v gv.length gv
 each:∀(j:Nat) (s:ByteArray) (u:Value),fs[j]? =some s->gv[j]? =some u->OEnts w B u (grp l s)
 apart:∀(i j:Nat) (u u':Value),gv[i]? =some u->gv[j]? =some u'->i≠j->∀g,u.ownBlock=some g->u'.ownBlock≠some g
theorem Grps.ext {w w':Wq} {B:Nat} {v:Value} {l:List Ent} {fs:List ByteArray} {gv:List Value} (h:Grps w B v l fs gv) (A:Ext w w'):Grps w' B v l fs gv:=
 ⟨h.len,Zt h.row A,λj s u C D=>(h.each j s u C D).ext A,h.apart⟩
theorem Grps.nil (w:Wq) (B:Nat):Grps w B sN [] [] []:=⟨rfl,Zrt _ _ _ _,by simp,by simp⟩
def IdxMap (D:DataW Unit) (fs:List ByteArray):Prop:=
 IsMap D/\∀s:ByteArray,(Maps.has D (.string s.data.toList)=true↔s∈fs)/\∀j:Nat,fs[j]? =some s->D.atKey (.string s.data.toList) (.lit (.int .i64 0))= .lit (.int .i64 j)
theorem IdxMap.nil:IdxMap (.map []) []:=⟨isMap_empty,λs=>⟨by simp[Maps.has],by simp⟩⟩
theorem IdxMap.put {D:DataW Unit} {fs:List ByteArray} {s:ByteArray} (h:IdxMap D fs) (Q:s ∉ fs):IdxMap (D.put (.string s.data.toList) (.lit (.int .i64 (fs.length:Nat)))) (fs++ [s]):=by
 refine ⟨h.1.put _ _,λt=> ?_⟩;by_cases e:t=s
 ·subst e;refine ⟨⟨λ_=>by simp,λ_=>has_put_same h.1 (Kz _) _⟩,λj A=> ?_⟩;rw[atKey_put_same h.1 (Kz _)];have:j=fs.length:=by
   rcases Nat.lt_trichotomy j fs.length with C|C|C
   ·rw[Zsq C] at A;exact absurd (List.mem_of_getElem? A) Q
   ·exact C
   ·rw[List.getElem?_eq_none (by simp;omega)] at A;cases A
  rw[this]
 ·have F:(Lit.string t.data.toList)≠ .string s.data.toList:=by intro H;injection H with H;exact e (Jf H)
  obtain ⟨C,O⟩:=h.2 t;rw[has_put_other F,C];refine ⟨by simp[e],λj A=> ?_⟩;rw[atKey_put_other F];refine O j ?_;rcases ZrJ j fs.length with I|I
  ·rwa [Zsq I] at A
  ·rw[ZrP I] at A;rcases ZrX (j - fs.length) with J|J
   ·rw[J] at A;simp at A;exact absurd A.symm e
   ·rw[List.getElem?_eq_none (by simp;omega)] at A;cases A
theorem Zgs (l:List Ent) (x:Ent) (s:ByteArray):grp (l++ [x]) s=if ordE.id x=s then grp l s++ [x] else grp l s:=by
 unfold grp;rw[List.filter_append];by_cases h:ordE.id x=s
 ·rw[ZqN h];simp[h]
 ·rw[ZqH h];simp[h]
theorem Zg4 {l:List Ent} {s:ByteArray} (h:s ∉ ordE.firsts l):grp l s= []:=by
 unfold grp;rw[List.filter_eq_nil_iff];intro x A;simp only[Zrd];intro e;exact h ((ordE.mem_firsts l s).2 ⟨x,A,e⟩)
theorem Grps.grow {w w2:Wq} {B g cap:Nat} {l:List Ent} {fs:List ByteArray} {gv:List Value} {x:Ent} {i:Nat} {u u':Value} {s:ByteArray}
 (h:Grps w B (.slice (some ⟨g,0,none⟩) gv.length cap) l fs gv) (hk:fs.Pairwise (· ≠ ·)) (hi:fs[i]? =some s) (hu:gv[i]? =some u) (hx:ordE.id x=s)
 (Z:w2.ownsRow B 61 5 u' ((grp l s).length+1) (flatE (grp l s)++eCells x)) (hg:w.grownBy w2 u.ownBlock) (U:u'.ownBlock=u.ownBlock\/(∃W:Nat,w.heap.size<=W/\u'.ownBlock=some W)) (Y:u.ownBlock≠some g):
 Grps (w2.setCell ⟨g,i,none⟩ u') B (.slice (some ⟨g,0,none⟩) gv.length cap) (l++ [x]) fs (gv.set i u'):=by
 have X:=h.len;have hr:=h.row.lt g rfl;have hc:u'.ownBlock≠some g:=by
  rcases U with e|⟨W,hW,e⟩
  ·rw[e];exact Y
  ·rw[e];intro R;injection R with R;omega
 have hh:∀(j:Nat) (v:Value),gv[j]? =some v->j≠i->v.ownBlock=none\/v.ownBlock≠u.ownBlock:=by
  intro j v C F;cases A:v.ownBlock with
  |none=>exact Or.inl rfl
  |some b=>exact Or.inr λe=>h.apart j i v u C hu F b A e.symm
 have Q:=(h.row.kept hg (Or.inr λe=>Y e.symm));refine ⟨by rw[ZsA];exact X,?_,?_,?_⟩
 ·rw[ZsA];exact (Q.stored i u').1
 ·intro j t v F C;have hn:∀(m:Nat) (q:Value),gv[m]? =some q->(∃t,fs[m]? =some t)->q.ownBlock=none\/q.ownBlock≠some g:=by
   intro m q hq ⟨t',hl⟩;cases D:q.ownBlock with
   |none=>exact Or.inl rfl
   |some b=>
    refine Or.inr λe=> ?_;injection e with e;subst e;have h1:=(h.each m t' q hl hq).2;have S:=h.row.2;rcases h1 with ⟨rfl,_⟩|⟨b',c',ho,rfl,_,hf,_⟩
    ·cases D
    ·rcases S with ⟨S,_⟩|⟨g',hp,he,S,_,V,_⟩
     ·cases S
     ·cases S;cases D;rw[hf] at V;simp at V
  by_cases H:j=i
  ·subst H;rw[hi] at F;injection F with F;subst F;have A:v=u':=(by rw[List.getElem?_set] at C;have:j<gv.length:=(Zrw.1 hu).1;simp[this] at C;exact C.symm);subst A;rw[Zgs,ZqN hx];exact OEnts.snoc (ownsRow_setCell_other Z (a:=⟨g,j,none⟩) hc v)
  ·rw[List.getElem?_set_ne (λe=>H e.symm)] at C;have ht:t≠s:=by
    intro e;subst e;have h1:=Zsd.1 hk;obtain ⟨p1,q1⟩:=Zrw.1 hi;obtain ⟨p2,q2⟩:=Zrw.1 F;rcases Nat.lt_or_gt_of_ne H with h3|h3
    ·exact h1 j i p2 p1 h3 (q2.trans q1.symm)
    ·exact h1 i j p1 p2 h3 (q1.trans q2.symm)
   rw[Zgs,ZqH (by rw[hx];exact λe=>ht e.symm)];have h4:=(h.each j t v F C).kept hg (hh j v C H);refine ownsRow_setCell_other h4 (a:=⟨g,i,none⟩) ?_ u';rcases hn j v C ⟨t,F⟩ with e|e
   ·rw[e];simp
   ·exact e
 ·intro a b v v' C A J q hq;rw[List.getElem?_set] at C A;have hd:∀(m:Nat) (q':Value),gv[m]? =some q'->m≠i->∀b,u'.ownBlock=some b->q'.ownBlock≠some b:=by
   intro m q' D hm b I e;rcases U with R|⟨W,hW,R⟩
   ·rw[R] at I;exact h.apart i m u q' hu D (λe=>hm e.symm) b I e
   ·rw[R] at I;injection I with I;obtain ⟨pm,_⟩:=Zrw.1 D;have h5:=h.each m (fs[m]'(om)) q' (ZqL om) D;have:=(h5.lt b e).2;omega
  by_cases ha:i=a
  ·subst ha;have O:i<gv.length:=(Zrw.1 hu).1;simp only[Zsy,ZqN O,Zsm] at C;subst C;rw[ZqH J] at A;exact hd b v' A (λe=>J e.symm) q hq
  ·rw[ZqH ha] at C;by_cases I:i=b
   ·subst I;have O:i<gv.length:=(Zrw.1 hu).1;simp only[Zsy,ZqN O,Zsm] at A;subst A;intro e;exact hd a v C (λe=>ha e.symm) q e hq
   ·rw[ZqH I] at A;exact h.apart a b v v' C A J q hq
theorem Grps.form {w:Wq} {B:Nat} {v:Value} {l:List Ent} {fs:List ByteArray} {gv:List Value} (h:Grps w B v l fs gv):∃A c,v= .slice A gv.length c:=by
 rcases h.row.2 with ⟨C,F⟩|⟨g,cap,D,C,_⟩
 ·exact ⟨none,0,by rw[C,F]⟩
 ·exact ⟨_,_,C⟩
theorem Grps.kept {w w2:Wq} {B m:Nat} {v:Value} {l:List Ent} {fs:List ByteArray} {gv:List Value} (h:Grps w B v l fs gv) (F:w.grownBy w2 (some m)) (I:m<B):Grps w2 B v l fs gv:=by
 have A:∀{e:TypeId} {n size:Nat} {u:Value} {xs:List Value},w.ownsRow B e size u n xs->u.ownBlock=none\/u.ownBlock≠some m:=by
  intro e n size u xs H;cases hb:u.ownBlock with
  |none=>exact Or.inl rfl
  |some b=>refine Or.inr λe=> ?_;injection e with e;have:=(H.lt b hb).1;omega
 exact ⟨h.len,h.row.kept F (A h.row),λj s u C D=>(h.each j s u C D).kept F (A (h.each j s u C D)),h.apart⟩
theorem Grps.more {w w2:Wq} {B:Nat} {v v':Value} {l:List Ent} {fs:List ByteArray} {gv:List Value} {s:ByteArray}
 (h:Grps w B v l fs gv) (hs:grp l s= []) (I:w2.ownsRow B 30 1 v' (gv.length+1) (gv++ [sN])) (hg:w.grownBy w2 v.ownBlock):
 Grps w2 B v' l (fs++ [s]) (gv++ [sN]):=by
 have H:=h.len;refine ⟨by simp[H],by simpa using I,?_,?_⟩
 ·intro j t u D C;rcases ZrJ j gv.length with A|A
  ·rw[Zsq A] at C;rw[Zsq om] at D;have X:=h.each j t u D C;refine X.kept hg ?_;cases hu':u.ownBlock with
   |none=>exact Or.inl rfl
   |some b=>
    refine Or.inr λe=> ?_;rcases X.2 with ⟨rfl,_⟩|⟨b',c',V,rfl,_,R,_⟩
    ·cases hu'
    ·rcases h.row.2 with ⟨rfl,_⟩|⟨g',ha,O,rfl,_,F,_⟩
     ·cases e
     ·cases hu';cases e;rw[R] at F;simp at F
  ·rw[ZrP A] at C;rw[ZrP om] at D;have S:j - gv.length=0:=by
    rcases ZrX (j - gv.length) with Y|Y
    ·exact Y
    ·rw[List.getElem?_eq_none (by simp;omega)] at C;cases C
   rw[S] at C;rw[show j - fs.length=0 by omega] at D;simp at C D;subst C D;rw[hs];exact OEnts.nil _ _
 ·intro a b q Z hq U Q m J;have last:∀(n:Nat) (u:Value),(gv++ [Value.slice none 0 0])[n]? =some u->∀m,u.ownBlock=some m->gv[n]? =some u:=by
   intro n u C m J;rcases ZrJ n gv.length with A|A
   ·rwa [Zsq A] at C
   ·rw[ZrP A] at C;have:=List.mem_of_getElem? C;simp at this;subst this;cases J
  intro e;exact h.apart a b q Z (last a q hq m J) (last b Z U m e) Q m J e
theorem ZkO (e:Ent) (w:Wq):Calls prog 117 #[.agg (eCells e).toArray] w λx w'=>x= .returned (.string e.id)/\Ext w w':=by
 unfold eCells;go_enter func117,ntmps117;go_wp2;go_ret;exact ⟨rfl,(Ext.refl _).alloc _⟩
theorem Zkl (w:Wq):(zeroValue 3).run prog w= .ok (nI 0) w:=by kernel_rfl
theorem Zna:(prog.info? 30).map (λi=>(i.zero,i.size,i.bytes))=some (some sN,1,24):=by kernel_rfl
theorem Zcl (l:List Ent):(ordE.firsts l).length<=l.length:=by
 suffices h:∀(n:Nat) (l:List Ent),l.length=n->(ordE.firsts l).length<=l.length from h _ l rfl
 intro n
 induction n with
 |zero=>intro l A;rw[ZqX A];exact ZqE _
 |succ n ih=>
  intro l A;obtain ⟨l',e,rfl⟩:∃l' e,l=l'++ [e]:=by
   rcases List.eq_nil_or_concat l with h|⟨l',e,h⟩
   ·subst h;simp at A
   ·exact ⟨l',e,by simpa using h⟩
  have:=ih l' (by simpa using A);rw[ordE.firsts_snoc];split<;>simp<;>omega
theorem ZjY (l:List Ent) (s:ByteArray):(grp l s).length<=l.length:=List.length_filter_le _ _
theorem Xy {w:Wq} {B D:Nat} {e:TypeId} {size n:Nat} {v:Value} {xs:List Value} (h:w.ownsRow B e size v n xs) (I:D<=B):w.ownsRow D e size v n xs:=by
 refine ⟨h.1,?_⟩;rcases h.2 with C|⟨g,cap,A,F,C,H⟩
 ·exact Or.inl C
 ·exact Or.inr ⟨g,cap,A,F,ZqM I C,H⟩
theorem Grps.grow' {w0 w1 w w2:Wq} {B g cap:Nat} {l:List Ent} {fs:List ByteArray} {gv:List Value} {x:Ent} {i:Nat} {u u':Value} {s:ByteArray}
 (h:Grps w1 B (.slice (some ⟨g,0,none⟩) gv.length cap) l fs gv) (_hx0:Ext w0 w1) (U:Ext w1 w) (H:fs.Pairwise (· ≠ ·)) (R:fs[i]? =some s) (I:gv[i]? =some u) (J:ordE.id x=s)
 (D:w2.ownsRow B 61 5 u' ((grp l s).length+1) (flatE (grp l s)++eCells x)) (O:w.grownBy w2 u.ownBlock) (F:u'.ownBlock=u.ownBlock\/u'.ownBlock=some w.heap.size) (C:u.ownBlock≠some g):
 w2.cell? ⟨g,i,none⟩=some u/\w2.frozen? ⟨g,i,none⟩=false/\Grps (w2.setCell ⟨g,i,none⟩ u') B (.slice (some ⟨g,0,none⟩) gv.length cap) (l++ [x]) fs (gv.set i u'):=by
 have Q:=h.ext U;have A:=Q.row.kept O (Or.inr λe=>C e.symm);have S:i<gv.length:=(Zrw.1 I).1;refine ⟨by rw[A.cellAt i om];exact I,A.frozenAt i,Q.grow H R I J D O ?_ C⟩;rcases F with e|e
 ·exact Or.inl e
 ·exact Or.inr ⟨_,ZqE _,e⟩
theorem Zgr (v:Value) (l:List Ent) (w:Wq) (h:REnts w v l) (gS:∀x∈l,x.id.size<=16777216) (hn:l.length<=1000000):
 Calls prog 116 #[v,.func (.func 117) #[] #[]] w λx w'=>∃v' gv,x= .returned v'/\Grps w' w.heap.size v' l (ordE.firsts l) gv/\Ext w w':=by
 obtain ⟨i0,gN,gX,gY,gZ⟩:=ZrE U8;obtain ⟨i1,fb,fg,fh,fi⟩:=ZrE Zna;obtain ⟨A,c,rfl,fd,fa⟩:=h.form;have fr:= @run_makeMap prog;have g5:=gd gS;clear fd fa gS;go_enter func116,ntmps116;go_wp2;go_loopw [6,14] (λo i wr=>∃(k:Nat) (gv:List Value) (D:DataW Unit),k<=l.length/\i=nI k/\Grps wr (w.heap.size+1) o (l.take k) (ordE.firsts (l.take k)) gv/\wr.ownsMap prog 9 (plainElem prog 3) w.heap.size k D/\Hid (IdxMap D (ordE.firsts (l.take k)))/\Ext w wr/\w.heap.size+1<=wr.heap.size) (λ_ i _=>l.length - (intOf i).toNat)
 case atStart=>exact ⟨0,[],.map [],ZqO _,rfl,Grps.nil _ _,World.ownsMap_made _ _ _ _,IdxMap.nil,(Ext.refl _).alloc _,by simp⟩
 case round=>
  obtain ⟨k,gv,D,hk,rfl,hG,hM,hD,hx,hws⟩:=hrel;by_cases ht:k<l.length
  ·obtain ⟨ad,c',hv,hm⟩:=(h.ext hx).at ht;injection hv with hv1 hv2 Z;subst hv1;clear hv2 Z;have ff:=g5.out l[k] (Zq2 ht);have hU:=ZqQ ht;have hS:=ordE.firsts_snoc (l.take k) l[k];rw[<-hU] at hS;have gm:=Zcl (l.take k);rw[Zra] at gm;have hs:=hG.len;have hT:=ordE.firsts_nodup (l.take k);obtain ⟨x,gW⟩:∃x,l[k]=x:=⟨_,rfl⟩;rw[gW] at hm ff hU hS;have gy:=gd hU;have gs:=gd hS;clear hU hS gW;have hK:=ZjY (l.take k) x.id;rw[Zra] at hK;have S:keyOf prog 9 (.string x.id)=some (.string x.id.data.toList):=keyOf_string_mk underlying9 (by unfold maxLen;omega);have hl:=gd (λw'=>ZkO x w');have fl:(0:Int)<=(k:Int):=om;have fq:(k:Int)<(l.length:Int):=om;have hB:=hD.out.2 x.id;obtain ⟨a0,a1,a2,a3,a4⟩:=hm;by_cases J:x.id∈ordE.firsts (l.take k)
   ·have hg:Maps.has D (.string x.id.data.toList)=true:=hB.1.2 J;obtain ⟨j,hj⟩:=List.mem_iff_getElem?.1 J;have gP:=hB.2 j hj;have gQ:j<gv.length:=(by rw[hs];exact (Zrw.1 hj).1);have g1:=gd gP;have hw:=gd hg;have hq:=gd J;obtain ⟨g,cap,ho,hW⟩:∃g cap,(_:Value)= .slice (some ⟨g,0,none⟩) gv.length cap/\gv.length<=maxLen:=by
     rcases hG.row.2 with ⟨h1,h2⟩|⟨g,cap,fp,h1,_,_,h4,h5,_⟩
     ·omega
     ·exact ⟨g,cap,h1,ZqM h4 h5⟩
    subst ho;obtain ⟨u,hu⟩:∃u,gv[j]? =some u:=⟨_,ZqL gQ⟩;have hp:=hG.each j x.id u hj hu;have gJ:wr.cell? ⟨g,j,none⟩=some u:=(by rw[hG.row.cellAt j om];exact hu);have gK:=hG.row.frozenAt j;have gI:=hG.row.lt g rfl;have hZ:u.ownBlock≠some g:=by
     intro e;rcases hp.2 with ⟨rfl,_⟩|⟨b',c',fk,rfl,_,g8,_⟩
     ·cases e
     ·rcases hG.row.2 with ⟨h2,_⟩|⟨g',fo,g7,h2,_,gH,_⟩
      ·cases h2
      ·cases h2;cases e;rw[g8] at gH;simp at gH
    have gT:u.ownBlock≠some w.heap.size:=(by intro e;have:=(hp.lt _ e).1;omega);have g4:=gd hp;have h8:=gd hu;have h7:=gd hj;have gc:=gd hZ;have gb:=gd gT;have hr:=gd gI;have gR:(j:Int)<(gv.length:Int):=om;have gO:(0:Int)<=(j:Int):=om;have hi:Hid (((grp (l.take k) x.id).length+1)*72<=140737488355328):=gd om;have h9:Hid ((grp (l.take k) x.id).length+1<=maxLen):=gd (by unfold maxLen;omega);have gL:gv.length<=9223372036854775807:=om;have gt:=gd hs;have fj:=gd hW;clear gP hg J hB hp hu hj hZ gT gI hs hW gQ hK gm;obtain ⟨C,O,V,H,hh⟩:=x;simp only at a0 a1 a2 a3 a4 S;unfold eCells at hl;dsimp only at hl
    go_wp2_with (first|(go_at_call 117;refine (hl.out _).mono ?_;rintro e w2 ⟨rfl,Q⟩;have e0:=Q.boxed 0 _ rfl;have e1:=Q.boxed 1 _ rfl;have e2:=Q.boxed 2 _ rfl;have e3:=Q.boxed 3 _ rfl;have e4:=Q.boxed 4 _ rfl;have R:=(((Ext.refl wr).alloc _).trans Q);have he:=R.cell gJ;have hI:=(Zss R hr.out.2).trans gK)|(at_lookup;refine wpList_lookup_own_ok_int _ rfl (.tmp 19) (.tmp 22) _ rfl 9 3 .i64 Ql underlying217 underlying3 (Zkl _) w.heap.size k D rfl ((hM.kept (((Ext.refl wr).alloc _).grown none) (by simp)).kept (Q.grown none) (by simp)) _ _ rfl S ?_;intro c hm go;(have gG:c=(j:Int):=by (have e:=g1.out.symm.trans hm;injection e with e;injection e with _ e;exact e.symm));rw[hw.out,gG];clear hm go gG c))
    have fn:=gd R;have h3:=gd (hG.ext R);have hR:=gd (hM.kept (R.grown none) (by simp));have hc:=gd (OEnts.ext g4.out R);have gg:=gd (hx.trans R);have ge:=gd (ZqM hws R.size);have ga:=gd hT;clear hG hM S a0 a1 a2 a3 a4 gJ gK Q hT;have gM:g<w2.heap.size:=ZrL w2 _ he;have gF:wr.heap.size<w2.heap.size:=ZrL w2 _ e0
    go_region_law (first|(refine Zk _ (by rfl) (.tmp 43) (.tmp 45) _ (by rfl) (w.heap.size+1) 61 i0 _ 5 72 underlying30 gN gX gY gZ rfl (by decide) u (grp (l.take k) C).length (flatE (grp (l.take k) C)) (by rfl) (Zt hc.out (by repeat (first|exact Ext.refl _|apply Ext.drew|apply Ext.alloc))) _ 1 (eCells ⟨C,O,V,H,hh⟩) (by rfl) (RSl.ext (Zj rfl (by decide)) (by repeat (first|exact Ext.refl _|apply Ext.drew))) (Zr _) h9.out hi.out (ZqM ge.out (by simp)) ?_;intro v3 w3 I X hd;(obtain ⟨g3,F,Z,g9⟩:∃g3 F,v3= .slice (some ⟨g3,0,none⟩) ((grp (l.take k) C).length+1) F/\True:=by (obtain ⟨g3,F,Z,_⟩:=I.form om;exact ⟨g3,F,Z,trivial⟩));subst Z;(have Y:=Grps.grow' h3.out (Ext.refl _) (by repeat (first|exact Ext.refl _|apply Ext.drew|apply Ext.alloc)) ga.out h7.out h8.out rfl I X hd gc.out);(have hH:=Y.1);(have hJ:=Y.2.1);(have hN:=(hR.out.kept ((show Ext w2 _ from by repeat (first|exact Ext.refl _|apply Ext.drew|apply Ext.alloc)).grown none) (by simp)).kept X (λe=>gb.out e.symm));(have hP:Ext w w3:=Ext.grown' (B:=0) (Ext.trans gg.out (by repeat (first|exact Ext.refl _|apply Ext.drew|apply Ext.alloc))) X (λb hb=>ZqM (ZrF _) (hc.out.lt b hb).1))))
    all_goals
     have hf:=Y.2.2
     have h6:=gd hf
     have hz:=gd (hN.setCell (a:=⟨g,j,none⟩) (show w.heap.size≠g by have:=hr.out.1;omega) (.slice (some ⟨g3,0,none⟩) ((grp (l.take k) C).length+1) F))
     have gf:=gd (hP.setCell (p:=⟨g,j,none⟩) (show w.heap.size<=g by have:=hr.out.1;omega) (.slice (some ⟨g3,0,none⟩) ((grp (l.take k) C).length+1) F))
     clear Y hf hN hP I X hd hH hJ e0 e1 e2 e3 e4 he hI R
     go_wp2
     go_roundw
     case rel=>
      have hC:ordE.firsts (l.take (k+1))=ordE.firsts (l.take k):=gs.out.trans (ZqN hq.out)
      exact ⟨k+1,gv.set j _,D,ht,by go_num,by rw[hC,gy.out];exact h6.out,hz.out.mono (ZrF _),by rw[hC];exact hD,gf.out,hz.out.lt⟩
     case measure=>simp[intOf];omega
   ·have hg:Maps.has D (.string x.id.data.toList)=false:=by
     cases hb:Maps.has D (.string x.id.data.toList) with
     |false=>rfl
     |true=>exact absurd (hB.1.1 hb) J
    have hO:=hD.out.put (s:=x.id) J;rw[<-hs] at hO;have gx:=gd hO;have hw:=gd hg;have hq:=gd J;have hA:=gd (Zg4 J);have gt:=gd hs;have gU:(Lit.int .i64 (gv.length:Nat)).wf=true:=(by simp only[Lit.wf,IntKind.min,IntKind.max,ZqZ];simp[IntKind.signed,IntKind.bits];omega);have g6:=gd gU;have hV:=ZqJ wr (.cells (eCells x).toArray 61);have h0:=gd hV;have gr:Hid ((gv.length+1)*24<=140737488355328):=gd om;have gw:Hid (gv.length+1<=maxLen):=gd (by unfold maxLen;omega);have g2:Hid (k<maxLen):=gd (by unfold maxLen;omega);have gL:gv.length<=9223372036854775806:=om;clear hg J hO gU hV hB gm hK hs;obtain ⟨C,O,V,H,hh⟩:=x;simp only at a0 a1 a2 a3 a4 S;unfold eCells at hl h0;dsimp only at hl h0;obtain ⟨gA,gC,ho⟩:=hG.form;subst ho;have g0:True:=trivial
    go_wp2_with (first|(clear g0;go_at_call 117;refine (hl.out _).mono ?_;rintro e w2 ⟨rfl,Q⟩;have gj:=Q.heap h0.out;obtain ⟨e0,e1,e2,e3,e4⟩:=Zou gj;have R:=(((Ext.refl wr).alloc _).trans Q))|(at_lookup;refine wpList_lookup_own_ok_int _ rfl (.tmp 19) (.tmp 22) _ rfl 9 3 .i64 Ql underlying217 underlying3 (Zkl _) w.heap.size k D rfl ((hM.kept (((Ext.refl wr).alloc _).grown none) (by simp)).kept (Q.grown none) (by simp)) _ _ rfl S ?_;intro c hm go;rw[hw.out];clear hm go)|(go_at_call 117;refine (hl.out _).mono ?_;rintro e w4 ⟨rfl,gp⟩;have gk:=gp.heap gj;have hQ:=R.trans gp)|(at_mapUpdate;refine ZsZ _ rfl (.tmp 30) (.tmp 33) (.tmp 34) 217 rfl 9 3 Ql underlying217 _ w.heap.size k D rfl (hM.kept (hQ.grown none) (by simp)) g2.out _ _ _ rfl rfl S _ [] (plainElem_int underlying3 g6.out) ?_;intro w5 gi hE)|(at_builtin;refine Za _ rfl (.tmp 35) (.tmp 36) _ rfl (w.heap.size+1) 30 i1 _ 1 24 underlying178 fb fg fh fi rfl (by decide) _ gv.length gv rfl ((((hG.ext hQ).kept hE (ZrB _)).row).alloc _) _ 1 [sN] rfl (Zj rfl (by decide)) (by intro y hy;simp at hy;subst hy;rfl) gw.out gr.out ?_ ?_;(have:=gi.lt;simp;omega);intro v6 w6 U hF gD))
    obtain ⟨g,cap,fe,hX,hY⟩:=U.form (Nat.succ_pos _);subst fe;have gV:Ext w w5:=Ext.grown' (B:=0) (hx.trans hQ) hE (λb hb=>by cases hb;exact ZqE _);have gz:=(hG.ext hQ).kept hE (ZrB _);have hL:gv.length+1=(gv++ [Value.slice none 0 0]).length:=(by simp);have gh:=Grps.more (gz.ext ((Ext.refl _).alloc _)) hA.out U hF;rw[hL] at gh;have h3:=gd gh;have gn:∀b,(Value.slice gA gv.length gC).ownBlock=some b->w.heap.size+1<=b:=λb hb=>(hG.row.lt b hb).1;have hR:=gd ((gi.alloc _).kept hF (λe=>by have:=gn _ e.symm;omega));have gg:=gd (Ext.grown' (B:=0) (gV.alloc _) hF (λb hb=>ZqM (ZrF _) (gn b hb)));have hp:OEnts w6 (w.heap.size+1) sN (grp (l.take k) C):=(by rw[hA.out];exact OEnts.nil _ _);have hc:=gd hp;have gB:w.heap.size+1<=w6.heap.size:=hR.out.lt;have ge:=gd gB;have gl:w5.heap[wr.heap.size]? =some (.cells #[.string C,.string O,.string V,.string H,nI hh] 61):=(by rw[hE.block wr.heap.size (ZrL w4 ⟨wr.heap.size,0,none⟩ (by rw[ZqI _ _ _ _ _ _ gk];rfl)) (by simp;omega)];exact gk);have gE:w6.heap[wr.heap.size]? =some (.cells #[.string C,.string O,.string V,.string H,nI hh] 61):=(by rw[hF.block wr.heap.size (by have:wr.heap.size<w5.heap.size:=ZrL w5 ⟨wr.heap.size,0,none⟩ (by rw[ZqI _ _ _ _ _ _ gl];rfl);simp;omega) (λe=>by have:=(hG.row.lt _ e.symm).2;omega)];exact ((Ext.refl w5).alloc _).heap gl);have ga:Hid ((ordE.firsts (l.take k)++ [C]).Pairwise (· ≠ ·)):=gd (by
     rw[List.pairwise_append];exact ⟨hT,by simp,λa ha b hb=>by simp at hb;subst hb;rintro rfl;exact hq.out ha⟩)
    have h7:Hid ((ordE.firsts (l.take k)++ [C])[gv.length]? =some C):=gd (by rw[gt.out];simp);have h8:Hid ((gv++ [Value.slice none 0 0])[gv.length]? =some sN):=gd (by simp);have gc:Hid ((Value.slice none 0 0).ownBlock≠some g):=gd (by intro e;cases e);have gb:Hid ((Value.slice none 0 0).ownBlock≠some w.heap.size):=gd (by intro e;cases e);have hr:=gd (Zr9 hX hY);have he:w6.cell? ⟨g,gv.length,none⟩=some sN:=(by rw[U.cellAt gv.length om];simp);have hI:w6.frozen? ⟨g,gv.length,none⟩=false:=U.frozenAt gv.length;have gR:(gv.length:Int)<((gv.length:Nat):Int)+1:=om;have fm:gv.length<gv.length+1:=om;have gO:(0:Int)<=(gv.length:Int):=om;have hi:Hid ((grp (l.take k) C).length+1<=1/\True):=gd ⟨by rw[hA.out];simp,trivial⟩;have h9:Hid ((grp (l.take k) C).length+1<=maxLen):=gd (ZqM hi.out.1 (by decide));have gq:Hid (((grp (l.take k) C).length+1)*72<=140737488355328):=gd (by have:=hi.out.1;omega);clear hi;have hi:=gq;have gu:=gd hL;clear e0 e1 e2 e3 e4;obtain ⟨e0,e1,e2,e3,e4⟩:=Zou gE;clear hG gz gh hM gi S a0 a1 a2 a3 a4 Q gp R hQ gj gk gl gE hE hF gD U gV gn hp gB hL hX hY hT;have gM:g<w6.heap.size:=ZrL w6 _ he;have gF:wr.heap.size<w6.heap.size:=ZrL w6 _ e0
    go_region_law (first|(refine Zk _ (by rfl) (.tmp 43) (.tmp 45) _ (by rfl) (w.heap.size+1) 61 i0 _ 5 72 underlying30 gN gX gY gZ rfl (by decide) sN (grp (l.take k) C).length (flatE (grp (l.take k) C)) (by rfl) (Zt hc.out (by repeat (first|exact Ext.refl _|apply Ext.drew|apply Ext.alloc))) _ 1 (eCells ⟨C,O,V,H,hh⟩) (by rfl) (RSl.ext (Zj rfl (by decide)) (by repeat (first|exact Ext.refl _|apply Ext.drew))) (Zr _) h9.out hi.out (ZqM ge.out (by simp)) ?_;intro v3 w3 I X hd;(obtain ⟨g3,F,Z,g9⟩:∃g3 F,v3= .slice (some ⟨g3,0,none⟩) ((grp (l.take k) C).length+1) F/\True:=by (obtain ⟨g3,F,Z,_⟩:=I.form om;exact ⟨g3,F,Z,trivial⟩));subst Z;(have Y:=Grps.grow' h3.out (Ext.refl _) (by repeat (first|exact Ext.refl _|apply Ext.drew|apply Ext.alloc)) ga.out h7.out h8.out rfl I X hd gc.out);(have hH:=Y.1);(have hJ:=Y.2.1);(have hN:=(hR.out.kept ((show Ext w6 _ from by repeat (first|exact Ext.refl _|apply Ext.drew|apply Ext.alloc)).grown none) (by simp)).kept X (λe=>gb.out e.symm));(have hP:Ext w w3:=Ext.grown' (B:=0) (Ext.trans gg.out (by repeat (first|exact Ext.refl _|apply Ext.drew|apply Ext.alloc))) X (λb hb=>ZqM (ZrF _) (hc.out.lt b hb).1))))
    all_goals
     have hf:=Y.2.2
     have h6:=gd hf
     have hz:=gd (hN.setCell (a:=⟨g,gv.length,none⟩) (show w.heap.size≠g by have:=hr.out.1;omega) (.slice (some ⟨g3,0,none⟩) ((grp (l.take k) C).length+1) F))
     have gf:=gd (hP.setCell (p:=⟨g,gv.length,none⟩) (show w.heap.size<=g by have:=hr.out.1;omega) (.slice (some ⟨g3,0,none⟩) ((grp (l.take k) C).length+1) F))
     clear Y hf hN hP I X hd hH hJ e0 e1 e2 e3 e4 he hI
     go_wp2
     go_roundw
     case rel=>
      have hC:ordE.firsts (l.take (k+1))=ordE.firsts (l.take k)++ [C]:=gs.out.trans (ZqH hq.out)
      exact ⟨k+1,(gv++ [Value.slice none 0 0]).set gv.length _,D.put (.string C.data.toList) (.lit (.int .i64 (gv.length:Nat))),ht,by go_num,by rw[hC,gy.out,gu.out];exact h6.out,hz.out,by rw[hC];exact gx.out,gf.out,hz.out.lt⟩
     case measure=>simp[intOf];omega
  ·have fc:k=l.length:=om;subst fc;rw[Zq4 (ZqE _)] at hG hD;have HG:=gd hG;clear hG hD hM hk ht;go_wp2;go_ret;refine ⟨_,gv,rfl,?_,hx⟩;have h1:=HG.out;exact ⟨h1.len,Xy h1.row (ZrF _),λj s u hj hu=>(h1.each j s u hj hu).mono (ZrF _),h1.apart⟩
def RStrs (w:Wq) (v:Value) (l:List ByteArray):Prop:=RSl w 1 v l.length (l.map Value.string)
theorem RStrs.ext {w w':Wq} {v:Value} {l:List ByteArray} (h:RStrs w v l) (A:Ext w w'):RStrs w' v l:=RSl.ext h A
theorem RStrs.form {w:Wq} {v:Value} {l:List ByteArray} (h:RStrs w v l):∃A c,v= .slice A l.length c/\l.length<=c/\c<=maxLen:=by
 obtain ⟨_,A,c,e,C,D,_⟩:=h;exact ⟨A,c,e,C,D⟩
def fCells (p es:Value) (f:Fd):List Value:= [p,.string f.id,.string f.title,.string f.link,nI f.upd,es]
theorem Z4:(prog.info? 32).map (λi=>i.size)=some 6:=by kernel_rfl
def cellsA (a:AtP):List Value:= [.string (str a.space),.string (str a.name),.string (str a.value),nI (a.at_:Nat)]
def flatA (l:List AtP):List Value:=(l.map cellsA).flatten
theorem XM (a:AtP):∀u∈cellsA a,u.oneCell'=true:=by
 intro u h;simp only[cellsA,Zq1,Zri,ZrD] at h;rcases h with rfl|rfl|rfl|rfl<;>rfl
theorem QT (a b:List AtP):flatA (a++b)=flatA a++flatA b:=by unfold flatA;rw[Zrf,ZsP]
theorem QV (a:AtP):flatA [a]=cellsA a:=by unfold flatA;simp
theorem Ziw (l:List AtP):∀u∈flatA l,u.oneCell'=true:=by
 intro u h;obtain ⟨c,A,h⟩:=Zs0.1 h;obtain ⟨a,_,rfl⟩:=Zrr.1 A;exact XM a u h
def RAts (w:Wq) (v:Value) (l:List AtP):Prop:=RSl w 4 v l.length (flatA l)
theorem RAts.ext {w w':Wq} {v:Value} {l:List AtP} (h:RAts w v l) (A:Ext w w'):RAts w' v l:=RSl.ext h A
theorem RAts.nil (w:Wq):RAts w sN []:=RSl.nil w 4
theorem RAts.form {w:Wq} {v:Value} {l:List AtP} (h:RAts w v l):∃A c,v= .slice A l.length c/\l.length<=c/\c<=maxLen:=by
 obtain ⟨_,A,c,e,C,D,_⟩:=h;exact ⟨A,c,e,C,D⟩
structure AtAt (w:Wq) (q:Addr) (a:AtP):Prop where
 c0:w.cell? q=some (.string (str a.space))
 c1:w.cell? ⟨q.block,q.off+1,none⟩=some (.string (str a.name))
 c2:w.cell? ⟨q.block,q.off+2,none⟩=some (.string (str a.value))
 c3:w.cell? ⟨q.block,q.off+3,none⟩=some (nI (a.at_:Nat))
theorem RAts.at {w:Wq} {v:Value} {l:List AtP} (h:RAts w v l) {k:Nat} (D:k<l.length):∃ad c,v= .slice (some ad) l.length c/\AtAt w (ad.add (k*4)) l[k]:=by
 obtain ⟨ad,c,e,C⟩:=RSl.elem (k:=4) (css:=l.map cellsA) h (by decide) (by intro c C;obtain ⟨x,_,rfl⟩:=Zrr.1 C;rfl) k (cellsA l[k]) (by rw[Zrq,ZqL D];rfl);rw[Zst] at C;have A:∀i,0<i->(ad.add (k*4)).add i=⟨(ad.add (k*4)).block,(ad.add (k*4)).off+i,none⟩:=λi F=>ZqH om;refine ⟨ad,c,e,?_,?_,?_,?_⟩
 ·have:=C 0 _ rfl;rwa [add_zero] at this
 ·have:=C 1 _ rfl;rwa [A _ (by decide)] at this
 ·have:=C 2 _ rfl;rwa [A _ (by decide)] at this
 ·have:=C 3 _ rfl;rwa [A _ (by decide)] at this
structure Tc where
 al:Value
 t:Tok
def cellsT (x:Tc):List Value:= [nI (x.t.kind:Nat),.string (str x.t.name),x.al,.bool x.t.empty,.string (str x.t.text),nI (x.t.at_:Nat)]
def flatT (l:List Tc):List Value:=(l.map cellsT).flatten
def RdT (w:Wq) (x:Tc):Prop:=RAts w x.al x.t.attrs
def RTs (w:Wq) (v:Value) (l:List Tc):Prop:=RSl w 6 v l.length (flatT l)
inductive Nc where
 |mk (kind:Nat) (space name:List UInt8) (al:Value) (attrs:List AtP) (ks:Value) (kids:List Nc) (text:List UInt8) (at_:Nat)
def Nc.kids:Nc->List Nc| .mk _ _ _ _ _ _ k _ _=>k
def Nc.ks:Nc->Value| .mk _ _ _ _ _ k _ _ _=>k
def Nc.al:Nc->Value| .mk _ _ _ a _ _ _ _ _=>a
def Nc.attrs:Nc->List AtP| .mk _ _ _ _ a _ _ _ _=>a
def cellsN:Nc->List Value
 | .mk k s n al _ ks _ t a=> [nI (k:Nat),.string (str s),.string (str n),al,ks,.string (str t),nI (a:Nat)]
def flatN (l:List Nc):List Value:=(l.map cellsN).flatten
mutual
def Nc.nd:Nc->Nd
 | .mk k s n _ l _ ks t a=> .mk k s n l (Nc.nds ks) t a
def Nc.nds:List Nc->List Nd
 | []=> []
 |x::t=>x.nd::Nc.nds t
end
mutual
def RdN (w:Wq):Nc->Prop
 | .mk _ _ _ al l ks kids _ _=>RAts w al l/\RSl w 7 ks kids.length (flatN kids)/\RdNs w kids
def RdNs (w:Wq):List Nc->Prop
 | []=>True
 |x::t=>RdN w x/\RdNs w t
end
theorem ZS (s:ByteArray) (L:List UInt8) (k:Nat) (w:Wq) (D:s.size<=80000000000) (C:k<=80000000000+9) (A:L.length<=9) (h:0<L.length):
 Calls prog 101 #[.string s,nI (k:Nat),.string ⟨L.toArray⟩] w λe w'=>e= .returned (.bool (hasAt s.data.toList k L))/\w'=w:=
 ZcT s ⟨L.toArray⟩ k w (by unfold maxLen;omega) (by unfold maxLen;omega) (by show L.length<=_;unfold maxLen;omega) (by show 0<L.length;exact h)
theorem IZ (s:ByteArray) (L:List UInt8) (k:Nat) (w:Wq) (C:s.size<=80000000000) (A:k<=s.size) (D:L.length<=9) (h:0<L.length):
 Calls prog 146 #[.string s,nI (k:Nat),.string ⟨L.toArray⟩] w λe w'=>e= .returned (nI (match findAt s.data.toList k L with|some i=>(i:Int)|none=> -1))/\w'=w:=
 Zhr s ⟨L.toArray⟩ k w C A (by show L.length<=_;omega) (by show 0<L.length;exact h)
theorem Qw (s:ByteArray) (a:Nat) (O L:List UInt8) (w:Wq) (X:s.size<=80000000000) (S:a+O.length<=s.size) (R:L.length<=9) (Q:0<L.length):
 Calls prog 142 #[.string s,nI (a:Nat),.string ⟨O.toArray⟩,.string ⟨L.toArray⟩] w λe w'=>
  e= .returned (match skipP s.data.toList a O.length L with| .ok n=> .tuple #[nI (n:Nat),nI 0]| .error (x,c)=> .tuple #[nI (x:Nat),nI (c:Nat)])/\w'=w:=by
 have D:=gd (λw'=>IZ s L (a+O.length) w' X S R Q);have U:=Zb s;unfold skipP;have C:(⟨O.toArray⟩:ByteArray).size=O.length:=rfl;have A:(⟨L.toArray⟩:ByteArray).size=L.length:=rfl;obtain ⟨OB,H⟩:∃OB:ByteArray,⟨O.toArray⟩=OB:=⟨_,rfl⟩;obtain ⟨J,F⟩:∃J:ByteArray,⟨L.toArray⟩=J:=⟨_,rfl⟩;rw[H] at C|-;rw[F] at A D|-;rw[<-C] at S D|-;rw[<-A] at R Q|-;have h:((a+OB.size:Nat):Int)=(a:Int)+(OB.size:Int):=om
 cases hf:findAt s.data.toList (a+OB.size) L with
 |none=>
  rw[hf] at D;rw[h] at D;clear hf H F C A h;go_enter func142,ntmps142
  go_wp2_with (first|(go_at_call 146;refine ZqD (D.out _) ?_;rintro e w2 ⟨rfl,rfl⟩))
  go_ret2
  exact ⟨rfl,rfl⟩
 |some i=>
  rw[hf] at D;rw[h] at D;have I:=Zab om hf;rw[<-A] at I;have V:¬(i:Int)<0:=om
  clear hf H F C A h;go_enter func142,ntmps142
  go_wp2_with (first|(go_at_call 146;refine ZqD (D.out _) ?_;rintro e w2 ⟨rfl,rfl⟩))
  go_ret2
  exact ⟨by simp,rfl⟩
theorem Ec {P:Program} {A:Func} {p u x:Tmp} {ty:TypeId} (h:A.results=#[.cell p ty,.tmp u,.tmp x]) (tmps:Array Value) (w:World):
 (results A tmps).run P w=
  ((asAddr (tmps.getD p undef)).run P w).andThen λa C=>((loadVar ty a).run P C).andThen λv D=> .ok (.tuple #[v,tmps.getD u undef,tmps.getD x undef]) D:=by
 simp only[results,h];simp[Sem.run_bind,Result.andThen]
theorem Zc {P:Program} {A:Func} {p u x:Tmp} {ty:TypeId} (h:A.results=#[.cell p ty,.tmp u,.tmp x]) (tmps:Array Value) (w:World) (g:Nat) (t:TypeId) (cs:Array Value) (fr:Nat×Nat) (d:TypeDesc)
 (H:tmps.getD p undef= .pointer (some ⟨g,0,none⟩)) (D:w.heap[g]? =some (.cells cs t fr))
 (I:P.underlying ty=some d) (C:(match d with| .struct _| .array _ _=>true|_=>false)=true) (F:(P.info? ty).map (·.size)=some cs.size):
 (results A tmps).run P w= .ok (.tuple #[.agg cs,tmps.getD u undef,tmps.getD x undef]) w:=by
 rw[Ec h,H];simp[asAddr,run_loadVar_row w g t ty cs fr d D I C F]
end Go.Proofs.YtmfinhgobjbecaaGreatDoor
