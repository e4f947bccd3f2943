/- Parts of the proof: contracts and plain laws. -/
import Derived.Test.YtmfinhgobjbecaaGreatDoorA21
import Derived.Test.YtmfinhgobjbecaaGreatDoorA25
import Derived.Test.YtmfinhgobjbecaaGreatDoorA27
namespace Go.Proofs.YtmfinhgobjbecaaGreatDoor
open Go Go.RowKit Go.ChangeShapes Go.WideShapes Go.ChangeAt Go.Joins Go.Deep _root_.Go.Proofs.Tryz
set_option linter.unusedVariables false
set_option linter.unusedSimpArgs false
set_option maxRecDepth 100000
set_option maxHeartbeats 16000000
section
namespace Ord
section
variable {α κ:Type} (O:Ord α κ)
variable {O}
variable {G:α→Prop}
def UB (O:Ord α κ) (G:α->Prop) (l:List α) (k:κ) (u:α):Prop:=G u/\O.id u=k/\∀x∈l,O.id x=k->O.op x u=u
theorem Semi.op_id' (_:O.Semi G) {a b:α} (h:O.id a=O.id b):O.id (O.op a b)=O.id a:=by rw[O.op_id a b h,h]
theorem Semi.le_left (S:O.Semi G) {a b:α} (h:O.id a=O.id b) (A:G a) (C:G b):O.op a (O.op a b)=O.op a b:=by
 rw[<-S.assoc a a b rfl h A A C,S.idem a A]
theorem Semi.le_right (S:O.Semi G) {a b:α} (h:O.id a=O.id b) (A:G a) (C:G b):O.op b (O.op a b)=O.op a b:=by
 rw[S.comm a b h A C,S.le_left h.symm C A]
theorem Semi.fold (S:O.Semi G) (k:κ):∀(t:List α) (x:α),G x->O.id x=k->(∀y∈t,G y/\O.id y=k)->
 G (t.foldl O.op x)/\O.id (t.foldl O.op x)=k/\O.op x (t.foldl O.op x)=t.foldl O.op x/\(∀y∈t,O.op y (t.foldl O.op x)=t.foldl O.op x)/\
 ∀u,G u->O.id u=k->O.op x u=u->(∀y∈t,O.op y u=u)->O.op (t.foldl O.op x) u=u
 | [],x,hx,hk,_=>⟨hx,hk,S.idem x hx,by simp,λu _ _ h _=>h⟩
 |y::t,x,hx,hk,h=>by
  have C:=h y (by simp);have A:O.id x=O.id y:=hk.trans C.2.symm;have D:O.id (O.op x y)=k:=by rw[S.op_id' A,hk]
  obtain ⟨I,J,U,X,Y⟩:=Semi.fold S k t (O.op x y) (S.good x y A hx C.1) D λz D=>h z (by simp[D]);refine ⟨I,J,?_,?_,?_⟩
  ·exact S.le_trans (hk.trans D.symm) (D.trans J.symm) hx (S.good x y A hx C.1) I (S.le_left A hx C.1) U
  ·intro z R;rcases Zq1.1 R with e|e
   ·subst e;exact S.le_trans (C.2.trans D.symm) (D.trans J.symm) C.1 (S.good x z A hx C.1) I (S.le_right A hx C.1) U
   ·exact X z e
  ·intro u V H Q F;refine Y u V H ?_ λz D=>F z (by simp[D]);rw[S.assoc x y u A (C.2.trans H.symm) hx C.1 V,F y (by simp),Q]
end
variable {α κ:Type} [DecidableEq κ] {O:Ord α κ} {G:α→Prop}
theorem Semi.got_lub (S:O.Semi G) {l:List α} (U:∀x∈l,G x) {k:κ} {s:α} (h:O.got l k=some s):UB O G l k s/\∀u,UB O G l k u->O.op s u=u:=by
 unfold Ord.got at h;generalize V:(l.filter λx=>O.id x=k)=g at h;have C:∀x,x∈g↔x∈l/\O.id x=k:=by intro x;rw[<-V,ZrK];simp
 cases g with
 |nil=>cases h
 |cons x t=>
  simp only[fold1,Zsm] at h;have F:=(C x).1 (by simp);obtain ⟨H,I,J,Q,R⟩:=S.fold k t x (U x F.1) F.2 λy A=>have:=(C y).1 (by simp[A]);⟨U y this.1,this.2⟩;rw[h] at H I J Q R;refine ⟨⟨H,I,λy A X=> ?_⟩,λu D=>R u D.1 D.2.1 (D.2.2 x F.1 F.2) λy A=>have:=(C y).1 (by simp[A]);D.2.2 y this.1 this.2⟩;rcases Zq1.1 ((C y).2 ⟨A,X⟩) with e|e
  ·subst e;exact J
  ·exact Q y e
theorem Semi.canon_good (S:O.Semi G) {l:List α} (h:∀x∈l,G x):∀x∈O.canon l,G x:=λx A=>(S.got_lub h (((O.canon_is l).2 x).1 A)).1.1
end Ord
end
section
namespace IsCmp
variable {α:Type} {c:α→α→Int} (h:IsCmp c)
include h
end IsCmp
theorem ZiN (x y:Int) (ka kb:ByteArray):laterB (iCmp x y) ka kb=true↔(if iCmp x y=0 then sCmp ka kb else iCmp x y)<0:=by
 unfold laterB;simp only[ZsI,ZqZ,Zrd];by_cases h:iCmp x y=0
 ·rw[ZqN h,Zhy];simp[h]
 ·rw[ZqH h];simp[h]
end
theorem Zdw:((List.range 256).all λi=>(List.range 256).all λj=> !(qB (UInt8.ofNat i)).isPrefixOf (qB (UInt8.ofNat j))||i==j)=true:=by decide+kernel
theorem ZeA (b c:UInt8) (h:qB b<+:qB c):b=c:=by
 have C:=Zrm.1 Zdw b.toNat (Zsu.2 b.toNat_lt);have A:=Zrm.1 C c.toNat (Zsu.2 c.toNat_lt);simp only[UInt8.ofNat_toNat,ZsI,Zsj,ZsE] at A;rcases A with A|A
 ·rw[List.isPrefixOf_iff_prefix.2 h] at A;cases A
 ·exact ZrY.1 A
theorem ZnU {b c:UInt8} {x y:List UInt8} (h:qB b++x=qB c++y):b=c/\x=y:=by
 have D:qB b<+:qB c++y:=⟨x,h⟩;have F:qB c<+:qB c++y:=⟨y,rfl⟩;have C:b=c:=by
  rcases List.prefix_or_prefix_of_prefix D F with A|A
  ·exact ZeA b c A
  ·exact (ZeA c b A).symm
 subst C;exact ⟨rfl,List.append_cancel_left h⟩
theorem Zhh:((List.range 256).all λi=>(qB (UInt8.ofNat i)).head? !=some 34 && (qB (UInt8.ofNat i)).head?.isSome)=true:=by decide+kernel
theorem Zkc (b:UInt8) (x y:List UInt8):qB b++x≠34::y:=by
 intro h;have A:=Zrm.1 Zhh b.toNat (Zsu.2 b.toNat_lt);simp only[UInt8.ofNat_toNat,ZqZ,ZrQ,ne_eq] at A;cases hq:qB b with
 |nil=>rw[hq] at A;simp at A
 |cons c t=>rw[hq] at h A;simp only[Zrp,Zsw] at h;rw[h.1] at A;simp at A
theorem Zcn:∀(l m r s:List UInt8),l.flatMap qB++34::r=m.flatMap qB++34::s->l=m/\r=s
 | [],[],r,s,h=>by simpa using h
 | [],c::m,r,s,h=>by
  simp only[List.flatMap_nil,Zrl,ZrU,ZqY] at h
  exact absurd h.symm (Zkc c _ _)
 |b::l,[],r,s,h=>by
  simp only[List.flatMap_nil,Zrl,ZrU,ZqY] at h
  exact absurd h (Zkc b _ _)
 |b::l,c::m,r,s,h=>by
  simp only[ZrU,ZqY] at h
  obtain ⟨e1,A⟩:=ZnU h
  obtain ⟨e2,C⟩:=Zcn l m r s A
  exact ⟨by rw[e1,e2],C⟩
theorem Uj {l m r s:List UInt8} (h:quoteL l++r=quoteL m++s):l=m/\r=s:=by
 unfold quoteL at h;simp only[Zrp,ZqY,Zsw,true_and,Zrl] at h;exact Zcn l m r s h
theorem Ze7 {a b:Ent} (C:goodE a) (D:goodE b) (A:a.upd=b.upd) (h:entryKey a=entryKey b):a=b:=by
 rw[UL C,UL D] at h;have h:=Zkh h;unfold entJ at h;rw[U9,U9] at h;simp only[Zq8,Zrz,Zcy,Zcx,commas,Zsw,true_and,ZqY,Zrp] at h;obtain ⟨e1,h⟩:=Uj h;simp only[Zsw,true_and] at h;obtain ⟨e2,h⟩:=Uj h;simp only[Zsw,true_and] at h;obtain ⟨e3,h⟩:=Uj h;simp only[Zsw,true_and] at h;obtain ⟨e4,h⟩:=Uj h;cases a;cases b;simp only at e1 e2 e3 e4 A;rw[Jf e1,Jf e2,Jf e3,Jf e4,A]
def pk {α:Type} (c:α->α->Int) (a b:α):α:=if c a b<0 then b else a
theorem ZnR {α:Type} {c:α->α->Int} (h:IsCmp c) (a b d:α):pk c (pk c a b) d=pk c a (pk c b d):=by
 unfold pk;by_cases A:c a b<0<;>by_cases C:c b d<0
 ·simp only[ZqN A,ZqN C,ZqN (h.lt_trans a b d A C)]
 ·simp only[ZqN A,ZqH C]
 ·simp only[ZqH A,ZqN C]
 ·have D:¬c a d<0:=by have:=h.trans d b a (by have:=h.anti b d;omega) (by have:=h.anti a b;omega);have:=h.anti a d;omega
  simp only[ZqH A,ZqH C,ZqH D]
theorem Zo0 {α:Type} {c:α->α->Int} (h:IsCmp c) (a b:α) (D:c a b=0->a=b):pk c a b=pk c b a:=by
 have:=h.anti a b;unfold pk;by_cases A:c a b<0
 ·rw[ZqN A,ZqH om]
 ·by_cases C:c b a<0
  ·rw[ZqH A,ZqN C]
  ·rw[ZqH A,ZqH C];exact D om
theorem Zo1 {α:Type} (c:α->α->Int) (a:α):pk c a a=a:=by unfold pk;split<;>rfl
theorem Zex {α:Type} (c:α->α->Int) (a b:α):pk c a b=a\/pk c a b=b:=by unfold pk;split<;>simp
def keyCmpE (a b:Ent):Int:=if iCmp a.upd b.upd=0 then sCmp (entryKey a) (entryKey b) else iCmp a.upd b.upd
theorem ZcA:IsCmp keyCmpE:=IsCmp.lex (α:=Ent) (c:=λa b=>iCmp a.upd b.upd) (d:=λa b=>sCmp (entryKey a) (entryKey b)) (Zj1.comap λe:Ent=>e.upd) (VF.comap λe:Ent=>entryKey e)
theorem JB (a b:Ent):laterE a b=pk keyCmpE a b:=by
 have:laterB (iCmp a.upd b.upd) (entryKey a) (entryKey b)=true↔keyCmpE a b<0:=ZiN a.upd b.upd (entryKey a) (entryKey b);unfold laterE pk;by_cases h:laterB (iCmp a.upd b.upd) (entryKey a) (entryKey b)=true
 ·rw[ZqN h,ZqN (this.1 h)]
 ·rw[ZqH h,ZqH (λk=>h (this.2 k))]
theorem Zk6 {x y:Int} (h:iCmp x y=0):x=y:=by
 unfold iCmp at h;by_cases A:x<y
 ·rw[ZqN A] at h;omega
 ·rw[ZqH A] at h;by_cases C:y<x
  ·rw[ZqN C] at h;omega
  ·omega
theorem ZiI {a b:Ent} (C:goodE a) (D:goodE b) (h:keyCmpE a b=0):a=b:=by
 unfold keyCmpE at h;split at h
 ·rename_i A;exact Ze7 C D (Zk6 A) (ZbF h)
 ·rename_i A;exact absurd h A
theorem Zn0:ordE.Semi goodE where
 good a b _ ha hb:=by show goodE (laterE a b);rw[JB];rcases Zex keyCmpE a b with h|h<;>rw[h]<;>assumption
 comm a b _ ha hb:=by show laterE a b=laterE b a;rw[JB,JB];exact Zo0 ZcA a b (ZiI ha hb)
 assoc a b c _ _ _ _ _:=by show laterE (laterE a b) c=laterE a (laterE b c);simp only[JB];exact ZnR ZcA a b c
 idem a _:=by show laterE a a=a;rw[JB];exact Zo1 _ a
theorem ZjE {l:List UInt8} (h:isText l):Lib.validD l=true:=by
 obtain ⟨rs,h,rfl⟩:=h
 induction rs with
 |nil=>rfl
 |cons r rs ih=>have A:isChar r=true:=h r (by simp);have F:=Qg (ZU A);have D:=QL (ZU A) (rs.flatMap encN);rw[ZrU];have C:=ZhZ (encN r++rs.flatMap encN) 0 (by rw[ZqG];omega);rw[Zsf,D,ZqH (by simp only[];omega),ZrH,List.drop_left] at C;rw[C];exact ih λr A=>h r (by simp[A])
theorem Zld {c:Nat} (h:128<=c):isSp (c:Int)=false:=by
 unfold isSp;simp only[Zr0];omega
theorem V5:∀(rs:List Nat) (out:List UInt8) (g:Bool),(∀r∈rs,isChar r=true)->isText out->isText (collGo (rs.flatMap encN) out g)
 | [],out,g,_,h=>by rw[List.flatMap_nil];exact h
 |r::rs,out,g,hr,h=>by
  have H:isChar r=true:=hr r (by simp)
  have J:=ZU H
  rw[ZrU]
  by_cases F:r<128/\isSp r=true
  ·rw[Yl F.1]
   show isText (collGo (UInt8.ofNat r::rs.flatMap encN) out g)
   rw[collGo,ZqN (by rw[ZP om];exact F.2)]
   exact V5 rs out _ (λr D=>hr r (by simp[D])) h
  ·have A:∀c∈encN r,isSp c.toNat=false:=by
    by_cases I:r<128
    ·rw[Yl I]
     intro c C
     simp only[Zq1,Zri,ZrD] at C
     subst C
     rw[ZP om]
     cases hb:isSp (r:Int) with
     |false=>rfl
     |true=>exact absurd ⟨I,hb⟩ F
    ·exact λc C=>Zld (U5 J om c C)
   rw[Ki _ _ _ _ (by intro e;have:=Qg J;rw[e] at this;simp at this) A]
   refine V5 rs _ _ (λr D=>hr r (by simp[D])) (Zs (Zs h ?_) (Z1 H))
   cases g
   ·exact Zy
   ·exact ⟨[32],by simp[isChar],rfl⟩
theorem ZkA {l:List UInt8} (h:isText l):isText (coll l):=by
 obtain ⟨rs,h,rfl⟩:=h;exact V5 rs [] false h Zy
def Fixed (out:List UInt8):Prop:=∀rest,collGo (out++rest) [] false=collGo rest out false
theorem Vl:∀(l out:List UInt8) (g:Bool),Fixed out->(g=true->out≠ [])->Fixed (collGo l out g)
 | [],out,g,h,_=>h
 |c::t,out,g,h,hg=>by
  unfold collGo
  by_cases A:isSp c.toNat=true
  ·rw[ZqN A]
   refine Vl t out _ h λe=> ?_
   simpa using e
  ·rw[ZqH A]
   refine Vl t _ false ?_ (by simp)
   intro rest
   cases g with
   |false=>
    simp only[ZrW,ZsJ,Zrb,ZqY,Zrp,Zrl]
    rw[h,collGo,ZqH A]
    simp
   |true=>
    have C:out.isEmpty=false:=(by simpa using hg rfl)
    simp only[Zsy,ZqY,Zrp,Zrl]
    rw[h,collGo,ZqN (by decide),C,collGo,ZqH A]
    simp
theorem Zkz (l:List UInt8):coll (coll l)=coll l:=by
 have h:=Vl l [] false (λrest=>rfl) (by simp) [];rw[Zrb] at h;exact h
theorem Ix (s:ByteArray):collapse (collapse s)=collapse s:=by
 unfold collapse;rw[Zg,Zkz]
theorem Zbt {s:ByteArray} (h:(checkS s).2=0):(checkS (collapse s)).2=0:=by
 unfold checkS collapse at*;rw[Zg,XN];exact ZkA ((XN _).1 h)
theorem QE {s:ByteArray} (h:(checkS s).2=0):validS (collapse s)=true:=by
 unfold validS;rw[Zbt h,Ix];simp
theorem ZdJ {s:ByteArray} (h:(checkS s).2=0):Lib.validD s.data.toList=true:=ZjE ((XN _).1 h)
section
section
variable {α κ:Type} [DecidableEq κ] {ok:α→Bool} {O:Ord α κ}
end
theorem ZfM {s:ByteArray} (h:validS s=true):vld s=true:=ZdJ (J7 h)
theorem Vb {e:Ent} (h:okE e=true):goodE e:=by
 have h:=(Q6.1 h).1;exact ⟨ZfM (h _ (by simp[strsE])),ZfM (h _ (by simp[strsE])),ZfM (h _ (by simp[strsE])),ZfM (h _ (by simp[strsE]))⟩
theorem Zkv {α κ:Type} [DecidableEq κ] {ok:α->Bool} {O:Ord α κ} {l:List α} (h:∀x∈O.canon l,ok x=true):okL ok O (O.canon l)=true:=
 Q9.2 ⟨h,(O.canon_is l).1,(O.canon_is l).ids⟩
theorem Zp0:ordE.Semi (λe=>okE e=true) where
 good a b _ ha hb:=by show okE (laterE a b)=true;rw[JB];rcases Zex keyCmpE a b with h|h<;>rw[h]<;>assumption
 comm a b h ha hb:=Zn0.comm a b h (Vb ha) (Vb hb)
 assoc a b c h k ha hb hc:=Zn0.assoc a b c h k (Vb ha) (Vb hb) (Vb hc)
 idem a ha:=Zn0.idem a (Vb ha)
theorem ZnH {e:Ent} (h:errE e=0):okE (collE e)=true:=by
 obtain ⟨A,D,F⟩:=U6.1 h;have A:=YQ.1 A;refine Q6.2 ⟨λs C=> ?_,D,F⟩;have:∃t∈strsE e,s=collapse t:=by
  simp only[strsE,collE,Zq1,Zri,ZrD] at C|-;rcases C with rfl|rfl|rfl|rfl
  ·exact ⟨_,Or.inl rfl,rfl⟩
  ·exact ⟨_,Or.inr (Or.inl rfl),rfl⟩
  ·exact ⟨_,Or.inr (Or.inr (Or.inl rfl)),rfl⟩
  ·exact ⟨_,Or.inr (Or.inr (Or.inr rfl)),rfl⟩
 obtain ⟨t,H,rfl⟩:=this;exact QE (A t H)
theorem ZnI {f:Fd} (h:errF f=0):okF (collF f)=true:=by
 obtain ⟨I,C⟩:=E9.1 h;obtain ⟨A,J,O,Q,R⟩:=Ku.1 I;have A:=YQ.1 A;have C:=JM.1 C;refine YE.2 ⟨YF.2 ⟨by simpa [collF] using Q,λs H=> ?_,J,R,λp D=> ?_⟩,Zkv (Zp0.canon_good λx U=> ?_)⟩
 ·have:∃t∈strsF f,s=collapse t:=by
   simp only[strsF,collF,Zq0,Zrr,Zq1,Zri,ZrD] at H|-;rcases H with ⟨p,D,rfl⟩|rfl|rfl|rfl
   ·exact ⟨p,Or.inl D,rfl⟩
   ·exact ⟨_,Or.inr (Or.inl rfl),rfl⟩
   ·exact ⟨_,Or.inr (Or.inr (Or.inl rfl)),rfl⟩
   ·exact ⟨_,Or.inr (Or.inr (Or.inr rfl)),rfl⟩
  obtain ⟨t,S,rfl⟩:=this;exact QE (A t S)
 ·obtain ⟨q,F,rfl⟩:=Zrr.1 D;exact O q F
 ·obtain ⟨q,F,rfl⟩:=Zrr.1 U;exact ZnH (C q F)
end
theorem Zgb {r:Nat} (D:scalar r) {c:UInt8} (A:c∈encN r) (h:c.toNat<128):encN r= [c]:=by
 by_cases C:r<128
 ·have e:=Yl C;rw[e] at A|-;rw[ZqU.1 A]
 ·exact absurd (U5 D om c A) om
theorem GK:∀(H:List Nat) (b:List UInt8),(∀r∈H,isChar r=true)->isText (H.flatMap encN++b)->isText b
 | [],b,_,h=>by simpa using h
 |a::t,b,ha,h=>by
  obtain ⟨rs,J,A⟩:=h
  have C:=ZU (ha a Zq6)
  rw[ZrU,ZqY] at A
  have Q:=Qg C
  cases rs with
  |nil=>
   have:=ZqS List.length A
   rw[ZqG,List.flatMap_nil,Zq5] at this
   omega
  |cons r rs=>
   have D:=ZU (J r Zq6)
   rw[ZrU] at A
   have I:=QL C (t.flatMap encN++b)
   have O:=QL D (rs.flatMap encN)
   rw[A,O] at I
   have e1:r=a:=(Prod.mk.inj I).1
   subst e1
   exact GK t b (λx F=>ha x (Zq7 _ F)) ⟨rs,λx F=>J x (Zq7 _ F),List.append_cancel_left A⟩
theorem ZgE {a b:List UInt8} (D:isText a) (h:isText (a++b)):isText b:=by
 obtain ⟨A,C,rfl⟩:=D;exact GK A b C h
theorem Kx:∀(rs:List Nat) (a:List UInt8) (c:UInt8) (b:List UInt8),(∀r∈rs,isChar r=true)->c.toNat<128->rs.flatMap encN=a++c::b->isText a/\isText [c]/\isText b
 | [],a,c,b,_,_,h=>by
  rw[List.flatMap_nil] at h
  exact absurd h.symm (by simp)
 |r::rs,a,c,b,hr,hc,h=>by
  have A:=hr r Zq6
  have D:∀x∈rs,isChar x=true:=λx V=>hr x (Zq7 _ V)
  have U:=ZU A
  rw[ZrU] at h
  rcases List.append_eq_append_iff.1 h with ⟨O,C,F⟩|⟨bs,C,F⟩
  ·obtain ⟨J,H⟩:=Kx rs O c b D hc F
   rw[C]
   exact ⟨Zs (Z1 A) J,H⟩
  ·cases bs with
   |nil=>
    rw[Zrb] at C
    obtain ⟨J,H⟩:=Kx rs [] c b D hc F.symm
    rw[<-C]
    exact ⟨Z1 A,H⟩
   |cons d bs=>
    injection F with F h3
    subst F
    have I:=Zgb U (c:=c) (by rw[C];simp) hc
    rw[I] at C
    have S:=ZqS List.length C
    simp only[ZqG,ZqK,Zq5] at S
    have Q:a= []:=ZqX om
    have R:bs= []:=ZqX om
    subst Q
    subst R
    exact ⟨Zy,by rw[<-I];exact Z1 A,rs,D,h3⟩
theorem E4 {s:List UInt8} (H:isText s) {k:Nat} (h:k<s.length) (F:s[k].toNat<128):isText (s.take k)/\isText (s.take (k+1)):=by
 obtain ⟨rs,C,D⟩:=H;obtain ⟨A,I, -⟩:=Kx rs (s.take k) s[k] (s.drop (k+1)) C F (by rw[<-ZqR h,ZrR,D]);refine ⟨A,?_⟩;rw[ZqQ h];exact Zs A I
theorem ZfX {s:List UInt8} {i j:Nat} (C:isText (s.take i)) (A:isText (s.take j)) (h:i<=j):isText ((s.take j).drop i):=by
 have e:s.take j=s.take i++(s.take j).drop i:=by have:=ZrR i (s.take j);rw[List.take_take,Nat.min_eq_left h] at this;exact this.symm
 rw[e] at A;exact ZgE C A
theorem ZbG {α:Type} (p:α->Bool):∀(l:List α) (h:(l.takeWhile p).length<l.length),p (l[(l.takeWhile p).length])=false
 | [],h=>by simp at h
 |x::t,h=>by
  cases hx:p x with
  |false=>simp[hx]
  |true=>
   simp only[Zr4,hx,Zsy,ZqK] at h|-
   simpa using ZbG p t om
theorem Zp9:isText [10]:=⟨[10],by simp;decide,rfl⟩
theorem Znz {c:UInt8} (A:c≠13):∀t:List UInt8,lns (c::t)=c::lns t
 | []=>by rw[lns,lns,ZqH A]
 |d::r=>by rw[lns,ZqH (λh=>A h.1),ZqH A]
theorem ZgY:∀(a t:List UInt8),(∀c∈a,c≠13)->lns (a++t)=a++lns t
 | [],_,_=>rfl
 |c::a,t,h=>by rw[Zrp,Znz (h c Zq6),ZgY a t λd A=>h d (Zq7 _ A)];rfl
theorem IS:∀(n:Nat) (l:List UInt8),l.length<=n->isText l->isText (lns l)
 |0,l,hl,_=>by
  rw[ZqX (by omega:l.length=0),lns]
  exact Zy
 |n+1,l,hl,⟨rs,h1,h2⟩=>by
  cases rs with
  |nil=>
   rw[h2,List.flatMap_nil,lns]
   exact Zy
  |cons r rs=>
   have H:=h1 r Zq6
   have J:isText (rs.flatMap encN):=⟨rs,λx O=>h1 x (Zq7 _ O),rfl⟩
   have I:=ZU H
   have Q:=Qg I
   rw[ZrU] at h2
   rw[h2,ZqG] at hl
   have A:=IS n (rs.flatMap encN) om J
   rw[h2]
   by_cases F:∀c∈encN r,c≠13
   ·rw[ZgY _ _ F]
    exact Zs (Z1 H) A
   ·have D:∃c∈encN r,c=13:=Zsp λh=>F λc C e=>h ⟨c,C,e⟩
    obtain ⟨c,C,rfl⟩:=D
    rw[Zgb I C (by decide)]
    cases hq:rs.flatMap encN with
    |nil=>
     rw[Zrb,lns]
     exact Zp9
    |cons d q=>
     rw[hq] at A
     show isText (lns (13::d::q))
     rw[lns]
     split
     ·exact A
     ·exact Zs Zp9 A
theorem ZhM {l:List UInt8} (h:isText l):isText (spaced l):=by
 obtain ⟨rs,C,rfl⟩:=h
 induction rs with
 |nil=>exact Zy
 |cons r rs ih=>
  have A:=C r Zq6;have H:=ZU A;have e:spaced ((r::rs).flatMap encN)=spaced (encN r)++spaced (rs.flatMap encN):=by unfold spaced;rw[ZrU,Zrf]
  rw[e];refine Zs ?_ (ih λx I=>C x (Zq7 _ I));by_cases D:r<128
  ·have e2:=Yl D;unfold spaced;rw[e2];simp only[Zq8,Zrz];split
   ·exact ⟨[32],by simp;decide,rfl⟩
   ·rw[<-e2];exact Z1 A
  ·have e3:spaced (encN r)=encN r:=by
    unfold spaced;refine (List.map_congr_left λc F=> ?_).trans (List.map_id _);have:=U5 H om c F;rw[ZqH]
    ·rfl
    ·unfold isSp;simp only[Zrd];omega
   rw[e3];exact Z1 A
theorem ZlO {s:List UInt8} (H:isText s) {i r e:Nat} (h:refAt s i=some (r,e)):isText (encN r)/\isText (s.take e):=by
 unfold refAt at h;dsimp only at h;split at h
 ·split at h
  ·rename_i I;split at h
   ·rename_i n O;split at h
    ·rename_i F;injection h with h;injection h with h1 h2;subst h1;refine ⟨Z1 F,?_⟩;have A:((s.drop (i+1)).takeWhile λc=>c !=59).length<(s.drop (i+1)).length:=(by rw[List.tail_drop,ZqP] at I;rw[ZqP];omega);have C:=ZbG _ _ A;rw[List.getElem_drop] at C;rw[ZqP] at A;rw[List.tail_drop] at h2;have D:s[i+1+((s.drop (i+1)).takeWhile λc=>c !=59).length]'(om)=59:=(by simpa using C);have J:=(E4 H (k:=i+1+((s.drop (i+1)).takeWhile λc=>c !=59).length) om (by rw[D];decide)).2;rw[<-h2]
     rwa [show i+((s.drop (i+1)).takeWhile λc=>c !=59).length+2=i+1+((s.drop (i+1)).takeWhile λc=>c !=59).length+1 by omega]
    ·cases h
   ·cases h
  ·cases h
 ·cases h
theorem J9 (value:Bool) (s:List UInt8) {z:Nat} (C:isText (s.take z)):∀(f i:Nat) (out v:List UInt8),contGo value s z f i out= .ok v->isText ((s.take z).take i)->isText out->isText v
 |0,i,out,v,h,_,ho=>by
  rw[contGo] at h
  injection h with h
  rw[<-h]
  exact ho
 |f+1,i,out,v,h,hi,ho=>by
  rw[contGo] at h
  split at h
  ·injection h with h
   rw[<-h]
   exact ho
  ·split at h
   ·split at h
    ·rename_i r e Q
     obtain ⟨D,H⟩:=ZlO C Q
     exact J9 value s C f e _ v h H (Zs ho D)
    ·cases h
   ·dsimp only at h
    obtain ⟨k,F⟩:∃k,(((s.take z).drop i).takeWhile λc=>c !=38)=k:=⟨_,rfl⟩
    rw[F] at h
    have D:isText ((s.take z).take (i+k.length)):=by
     by_cases O:i+k.length<(s.take z).length
     ·have I:(((s.take z).drop i).takeWhile λc=>c !=38).length<((s.take z).drop i).length:=(by rw[F,ZqP];omega)
      have A:=ZbG _ _ I
      simp only[F] at A
      rw[List.getElem_drop] at A
      exact (E4 C O (by
       have J:(s.take z)[i+k.length]=38:=(by simpa using A)
       rw[J]
       decide)).1
     ·rw[Zq4 om]
      exact C
    have H:k=((s.take z).take (i+k.length)).drop i:=by
     rw[List.drop_take,Nat.add_sub_cancel_left,<-F]
     exact (ZsG.1 (Zs1 _))
    have A:=ZfX hi D (Nat.le_add_right _ _)
    rw[<-H] at A
    refine J9 value s C f _ _ v h D (Zs ho ?_)
    split
    ·exact ZhM (IS _ _ (ZqE _) A)
    ·exact IS _ _ (ZqE _) A
theorem Zid {s:List UInt8} (U:isText s) {f k e:Nat} {a:AtP} (h:attrP s f k= .ok (a,e)):isText a.value:=by
 unfold attrP at h;dsimp only at h;split at h
 ·cases h
 ·split at h
  ·cases h
  ·split at h
   ·cases h
   ·rename_i S;split at h
    ·cases h
    ·rename_i v I;split at h
     ·cases h
     ·rename_i J;split at h
      ·cases h
      ·injection h with h;injection h with ha he;subst ha;show isText v;obtain ⟨q,R⟩:∃q,spAt s (spAt s (nmAt s k)+1)=q:=⟨_,rfl⟩;rw[R] at S I J;obtain ⟨A,Q⟩:∃A:q<s.length,s[q]=34\/s[q]=39:=by
        cases h34:hasAt s q [34] with
        |true=>obtain ⟨x,y⟩:=Y7 h34;exact ⟨x,Or.inl y⟩
        |false=>cases h39:hasAt s q [39] with
         |true=>obtain ⟨x,y⟩:=Y7 h39;exact ⟨x,Or.inr y⟩
         |false=>exact absurd ⟨h34,h39⟩ S
       have O:(s.drop q).headD 0=s[q]:=(by rw[ZqR A];rfl);rw[O] at I J;have F:s[q].toNat<128:=(by rcases Q with e|e<;>rw[e]<;>decide);obtain ⟨n,H⟩:∃n,((s.drop (q+1)).takeWhile λd=>d !=s[q] && d !=60).length=n:=⟨_,rfl⟩;have X:n<=s.length - (q+1):=(by have:=(Zr1 (λd:UInt8=>d !=s[q] && d !=60) (l:=s.drop (q+1))).length_le;rw[H,ZqP] at this;exact this);rw[H] at I J;have V:q+1+n<s.length:=om;have C:=ZbG (λd:UInt8=>d !=s[q] && d !=60) (s.drop (q+1)) (by rw[H,ZqP];omega);simp only[H] at C;rw[List.getElem_drop] at C;have Y:isText (s.take (q+1+n)):=(E4 U V (by
        by_cases D:s[q+1+n]=60
        ·rw[D];decide
        ·have:s[q+1+n]=s[q]:=(by have:=C;simp only[Bool.and_eq_false_iff,bne_eq_false_iff_eq] at this;exact this.resolve_right D);rw[this];exact F)).1
       refine J9 true s Y _ _ _ v I ?_ Zy;rw[List.take_take,Nat.min_eq_left om];exact (E4 U A F).2
def tokG (N:Nat) (t:Tok):Prop:=(∀a∈t.attrs,isText a.value)/\t.at_<N
theorem Ei {s:List UInt8} (C:isText s) {f:Nat} {nm:List UInt8}:∀(n k:Nat) (al:List AtP) (t:Tok) (e:Nat),s.length - k<n->k<=s.length->(∀a∈al,isText a.value)->
 startAt s f nm k al= .ok (t,e)->(∀a∈t.attrs,isText a.value)/\t.at_=f
 |0,_,_,_,_,h,_,_,_=>by omega
 |n+1,k,al,t,e,hn,hk,hal,h=>by
  have F:=XE (s:=s) hk;have I:=Jc s k;rw[Xj s f nm k al hk] at h;split at h
  ·injection h with h;injection h with h1 h2;subst h1;exact ⟨hal,rfl⟩
  ·split at h
   ·injection h with h;injection h with h1 h2;subst h1;exact ⟨hal,rfl⟩
   ·split at h
    ·cases h
    ·split at h
     ·cases h
     ·split at h
      ·cases h
      ·rename_i a e2 D;split at h
       ·cases h
       ·have H:=JF F D;exact Ei C n e2 _ t e om H.2.1 (λb A=>(Zq0.1 A).elim (hal b) λA=>by rw[ZqU.1 A];exact Zid C D) h
theorem Zbu {s:List UInt8} (I:isText s) {f:Nat} {t:Tok} {e:Nat} (D:f<s.length) (h:constructP s f= .ok (t,e)):tokG s.length t:=by
 have F:∀u k,k<s.length->tokG s.length (dataT u k):=λu k H=>⟨(by intro a C;cases C),H⟩;unfold constructP at h;split at h
 ·split at h
  ·cases h
  ·injection h with h;injection h with A h2;subst A;exact F _ _ om
 ·split at h
  ·split at h
   ·cases h
   ·injection h with h;injection h with A h2;subst A;exact F _ _ om
  ·split at h
   ·split at h
    ·cases h
    ·injection h with h;injection h with A h2;subst A;exact F _ _ D
   ·split at h
    ·cases h
    ·split at h
     ·cases h
     ·split at h
      ·unfold endP at h;dsimp only at h;split at h
       ·split at h
        ·injection h with h;injection h with A h2;subst A;exact ⟨(by intro a C;cases C),D⟩
        ·cases h
       ·cases h
      ·split at h
       ·rw[JE s f D] at h;split at h
        ·cases h
        ·have A:=X7 D;obtain ⟨J,O⟩:=Ei I _ _ _ t e (ZrB _) A.2 (by intro a C;cases C) h;exact ⟨J,om⟩
       ·dsimp only at h;split at h
        ·cases h
        ·injection h with h;injection h with A h2;subst A;exact F _ _ D
theorem Zbf {s:List UInt8} (C:isText s):∀(n k:Nat) (l L:List Tok),s.length - k<n->(∀t∈l,tokG s.length t)->toksAt s k l= .ok L->∀t∈L,tokG s.length t
 |0,_,_,_,h,_,_=>by omega
 |n+1,k,l,L,hn,hl,h=>by
  by_cases D:s.length<=k
  ·rw[XW D] at h
   injection h with h
   rw[<-h]
   exact hl
  ·cases hc:constructP s k with
   |error x=>rw[J1 om hc] at h;cases h
   |ok y=>
    obtain ⟨t,e⟩:=y
    have F:=Yi om hc
    rw[YY om hc] at h
    refine Zbf C n e _ L om ?_ h
    split
    ·exact λu A=>(Zq0.1 A).elim (hl u) λA=>by rw[ZqU.1 A];exact Zbu C om hc
    ·exact hl
theorem ZjF {s:List UInt8} {L:List Tok} (h:toksP s= .ok L):∀t∈L,tokG s.length t:=by
 rw[Vf] at h;split at h
 ·cases h
 ·rename_i A;exact Zbf (Xf _ 0 s (ZqE _) (by have:=A;unfold check at this;simpa using this)) _ _ _ L (ZrB _) (by intro t C;cases C) h
mutual
def Nd.gd (N:Nat):Nd->Prop
 | .mk k s n al ks t a=>(∀x∈al,isText x.value)/\a<N/\Nds.gd N ks
def Nds.gd (N:Nat):List Nd->Prop
 | []=>True
 |x::t=>x.gd N/\Nds.gd N t
end
theorem Nds.gd_iff {N:Nat}:∀l:List Nd,Nds.gd N l↔∀x∈l,x.gd N
 | []=>by rw[Nds.gd];simp
 |x::t=>by rw[Nds.gd,Nds.gd_iff t];simp
theorem Zh7 {N:Nat} {ks:List Nd} (h:Nds.gd N ks) (t:List UInt8) {a:Nat} (D:a<N):Nds.gd N (addText ks t a):=by
 rw[Nds.gd_iff] at h|-;unfold addText;split
 ·rename_i s nm al kk u b F;obtain ⟨ys,rfl⟩:=List.getLast?_eq_some_iff.1 F;rw[List.dropLast_concat];intro x A;rcases Zq0.1 A with A|A
  ·exact h x (ZrZ _ A)
  ·have C:=h (.mk 1 s nm al kk u b) (by simp);rw[ZqU.1 A];rw[Nd.gd] at C|-;exact C
 ·intro x A;rcases Zq0.1 A with A|A
  ·exact h x A
  ·rw[ZqU.1 A];unfold charD;rw[Nd.gd,Nds.gd];exact ⟨(by intro y H;cases H),D,trivial⟩
theorem ZoB {N fin:Nat}:∀f:Nat,(∀(d:Nat) (l:List Tok) (x:Nd) (r:List Tok),elemP fin f d l= .ok (x,r)->(∀t∈l,tokG N t)->x.gd N/\∀t∈r,tokG N t)/\
 (∀(d:Nat) (t:Tok) (ks:List Nd) (l:List Tok) (x:Nd) (r:List Tok),kidsP fin f d t ks l= .ok (x,r)->tokG N t->Nds.gd N ks->(∀t∈l,tokG N t)->x.gd N/\∀t∈r,tokG N t):=by
 intro f
 induction f with
 |zero=>exact ⟨λd l x r h=>(by rw[elemP] at h;cases h),λd t ks l x r h=>(by rw[kidsP] at h;cases h)⟩
 |succ f ih=>
  obtain ⟨R,A⟩:=ih;refine ⟨λd l x r h C=> ?_,λd t ks l x r h I H C=> ?_⟩
  ·cases l with
   |nil=>rw[elemP] at h;cases h
   |cons t l=>
    have D:=C t Zq6;have F:∀u∈l,tokG N u:=λu O=>C u (Zq7 _ O);rw[elemP] at h;split at h
    ·cases h
    ·split at h
     ·injection h with h;injection h with e1 e2;subst e1;subst e2;rw[Nd.gd,Nds.gd];exact ⟨⟨D.1,D.2,trivial⟩,F⟩
     ·exact A d t [] l x r h D (by rw[Nds.gd];trivial) F
  ·cases l with
   |nil=>rw[kidsP] at h;cases h
   |cons u l=>
    have D:=C u Zq6;have F:∀u∈l,tokG N u:=λu O=>C u (Zq7 _ O);rw[kidsP] at h;split at h
    ·split at h
     ·cases h
     ·injection h with h;injection h with e1 e2;subst e1;subst e2;rw[Nd.gd];exact ⟨⟨I.1,I.2,H⟩,F⟩
    ·split at h
     ·split at h
      ·cases h
      ·rename_i k r' J;obtain ⟨S,U⟩:=R _ _ _ _ J C;refine A d t _ r' x r h I ?_ U;rw[Nds.gd_iff] at H|-;exact λy Q=>(Zq0.1 Q).elim (H y) λQ=>by rw[ZqU.1 Q];exact S
     ·exact A d t _ l x r h I (Zh7 H _ D.2) F
theorem ZmB {N fin:Nat}:∀(f:Nat) (found:Option Nd) (l:List Tok) (x:Nd),docGo fin f found l= .ok x->(∀y,found=some y->y.gd N)->(∀t∈l,tokG N t)->x.gd N:=by
 intro f
 induction f with
 |zero=>exact λfound l x h _ _=>by rw[docGo] at h;cases h
 |succ f ih=>
  intro found l x h C D;cases l with
  |nil=>
   rw[YP] at h;cases found with
   |none=>cases h
   |some y=>injection h with h;rw[<-h];exact C y rfl
  |cons t r=>
   have I:∀u∈r,tokG N u:=λu J=>D u (Zq7 _ J);rw[Yz] at h;split at h
   ·cases h
   ·split at h
    ·cases h
    ·split at h
     ·split at h
      ·cases h
      ·exact ih found r x h C I
     ·split at h
      ·cases h
      ·rename_i y r' O;obtain ⟨F,H⟩:=(ZoB _).1 _ _ _ _ O D;exact ih (some y) r' x h (by intro z A;injection A with A;rw[<-A];exact F) H
theorem ZoA {s:List UInt8} {x:Nd} (h:docP s= .ok x):x.gd s.length:=by
 rw[Js] at h;split at h
 ·cases h
 ·rename_i l A;exact ZmB _ none l x h (by intro y e;cases e) (ZjF A)
theorem Vj {sc:Scope}:∀(al out r:List AtP),attrsGo sc al out= .ok r->(∀a∈al,isText a.value)->(∀a∈out,isText a.value)->∀a∈r,isText a.value
 | [],out,r,h,_,ho=>by
  rw[attrsGo] at h
  injection h with h
  rw[<-h]
  exact ho
 |a::t,out,r,h,ha,ho=>by
  have C:∀b∈t,isText b.value:=λb A=>ha b (Zq7 _ A)
  rw[attrsGo] at h
  split at h
  ·exact Vj t out r h C ho
  ·dsimp only at h
   split at h
   ·cases h
   ·split at h
    ·cases h
    ·exact Vj t _ r h C λb A=>(Zq0.1 A).elim (ho b) λA=>by rw[ZqU.1 A];exact ha a Zq6
mutual
theorem Zkd {N:Nat}:∀(n m:Nd) (sc:Scope),resP n sc= .ok m->n.gd N->m.gd N
 | .mk k s n al ks t a,m,sc,h,hg=>by
  rw[Nd.gd] at hg
  rw[resP] at h
  split at h
  ·cases h
  ·rename_i sp l al' inner hh
   split at h
   ·cases h
   ·rename_i ks' hk
    injection h with h
    subst h
    rw[Nd.gd]
    refine ⟨?_,hg.2.1,ZcV ks ks' _ hk hg.2.2⟩
    unfold headP at hh
    simp only[Nd.name,Nd.attrs,Nd.at_] at hh
    split at hh
    ·cases hh
    ·split at hh
     ·cases hh
     ·split at hh
      ·cases hh
      ·split at hh
       ·cases hh
       ·split at hh
        ·cases hh
        ·rename_i al2 ha
         injection hh with hh
         injection hh with _ hh
         injection hh with _ hh
         injection hh with hh _
         rw[<-hh]
         exact Vj _ _ _ ha hg.1 (by intro b hb;cases hb)
theorem ZcV {N:Nat}:∀(ks r:List Nd) (sc:Scope),resKids ks sc= .ok r->Nds.gd N ks->Nds.gd N r
 | [],r,sc,h,_=>by
  rw[resKids] at h
  injection h with h
  subst h
  rw[Nds.gd]
  trivial
 |k::t,r,sc,h,hg=>by
  rw[Nds.gd] at hg
  rw[resKids] at h
  split at h
  ·cases h
  ·rename_i k' hk'
   split at h
   ·cases h
   ·rename_i t' ht'
    injection h with h
    subst h
    rw[Nds.gd]
    refine ⟨?_,ZcV t t' sc ht' hg.2⟩
    split at hk'
    ·exact Zkd k k' sc hk' hg.1
    ·injection hk' with hk';rw[<-hk'];exact hg.1
end
theorem Zn5 {s:List UInt8} {m:Nd} (h:treeP s=some m):m.gd s.length:=by
 unfold treeP at h;split at h
 ·cases h
 ·split at h
  ·cases h
  ·rename_i n A;split at h
   ·cases h
   ·rename_i r C;injection h with h;subst h;exact Zkd n r [] C (ZoA A)
theorem Zci {t:List UInt8}:∀(l:List UInt8) (k i:Nat),findIn t l k=some i->k<=i/\t.isPrefixOf (l.drop (i - k))=true
 | [],k,i,h=>by
  rw[findIn] at h
  split at h
  ·rename_i A
   injection h with h
   subst h
   rw[A,Nat.sub_self]
   exact ⟨ZqE _,rfl⟩
  ·cases h
 |c::r,k,i,h=>by
  rw[findIn] at h
  split at h
  ·rename_i A
   injection h with h
   subst h
   rw[Nat.sub_self]
   exact ⟨ZqE _,A⟩
  ·obtain ⟨D,C⟩:=Zci r (k+1) i h
   refine ⟨om,?_⟩
   rw[show i - k=(i - (k+1))+1 by omega,List.drop_succ_cons]
   exact C
theorem Kr {s t:List UInt8} {k i:Nat} (h:findAt s k t=some i):k<=i/\hasAt s i t=true:=by
 obtain ⟨C,A⟩:=Zci _ _ _ h;refine ⟨C,?_⟩;unfold hasAt;rw[List.drop_drop,show k+(i - k)=i by omega] at A;exact A
theorem IN {s t:List UInt8} (J:isText s) {i:Nat} {c:UInt8} (h:hasAt s i (t++ [c])=true) (H:c.toNat<128):isText (s.take (i+(t.length+1))):=by
 have C:=h;unfold hasAt at C;rw[List.isPrefixOf_iff_prefix] at C;obtain ⟨r,I⟩:=C;rcases Ya h with D|D
 ·rw[ZqG] at D;have F:i+t.length<s.length:=by have: [c].length=1:=rfl;omega
  have A:(s.drop i)[t.length]? =some c:=by rw[<-I,ZqY,ZrP (ZqE _),Nat.sub_self];rfl
  rw[List.getElem?_drop,ZqL F] at A;injection A with A;rw[<-Nat.add_assoc];exact (E4 J F (by rw[A];exact H)).2
 ·simp at D
theorem Zgu {s t:List UInt8} (J:isText s) {i:Nat} {c:UInt8} (h:hasAt s i (c::t)=true) (H:c.toNat<128):isText (s.take i):=by
 have C:=h;unfold hasAt at C;rw[List.isPrefixOf_iff_prefix] at C;obtain ⟨r,I⟩:=C;rcases Ya h with D|D
 ·rw[ZqK] at D;have F:i<s.length:=om
  have A:(s.drop i)[0]? =some c:=by rw[<-I];rfl
  rw[List.getElem?_drop,Nat.add_zero,ZqL F] at A;injection A with A;exact (E4 J F (by rw[A];exact H)).1
 ·cases D
theorem Za9 {s:List UInt8} (C:isText s) {f:Nat} {nm:List UInt8}:∀(n k:Nat) (al:List AtP) (t:Tok) (e:Nat),s.length - k<n->k<=s.length->startAt s f nm k al= .ok (t,e)->isText t.text/\isText (s.take e)
 |0,_,_,_,_,h,_,_=>by omega
 |n+1,k,al,t,e,hn,hk,h=>by
  have D:=XE (s:=s) hk
  have I:=Jc s k
  rw[Xj s f nm k al hk] at h
  split at h
  ·rename_i A
   injection h with h
   injection h with h1 h2
   subst h1
   subst h2
   exact ⟨Zy,IN (t:= []) C A (by decide)⟩
  ·split at h
   ·rename_i A
    injection h with h
    injection h with h1 h2
    subst h1
    subst h2
    exact ⟨Zy,IN (t:= [47]) C A (by decide)⟩
   ·split at h
    ·cases h
    ·split at h
     ·cases h
     ·split at h
      ·cases h
      ·rename_i a e2 H
       split at h
       ·cases h
       ·have F:=JF D H
        exact Za9 C n e2 _ t e om F.2.1 h
theorem Zc3 {s:List UInt8} (D:isText s) {f n e:Nat} {t:List UInt8} {c:UInt8} (A:c.toNat<128) (h:skipP s f n (t++ [c])= .ok e):isText (s.take e):=by
 unfold skipP at h;split at h
 ·cases h
 ·rename_i i C;injection h with h;rw[<-h,ZqG];exact IN D (Kr C).2 A
theorem ZbZ {s:List UInt8} (F:isText s) {f:Nat} {t:Tok} {e:Nat} (Q:f<s.length) (O:isText (s.take f)) (h:constructP s f= .ok (t,e)):isText t.text/\isText (s.take e):=by
 unfold constructP at h;split at h
 ·split at h
  ·cases h
  ·rename_i to_ A;injection h with h;injection h with C D;subst C;subst D;exact ⟨Zy,Zc3 (t:= [63]) F (by decide) A⟩
 ·split at h
  ·split at h
   ·cases h
   ·rename_i to_ A;injection h with h;injection h with C D;subst C;subst D;exact ⟨Zy,Zc3 (t:= [45,45]) F (by decide) A⟩
  ·split at h
   ·rename_i J;split at h
    ·cases h
    ·rename_i to_ A;injection h with h;injection h with C D;subst C;subst D;refine ⟨?_,Zc3 (t:= [93,93]) F (by decide) A⟩;have U:isText (s.take (f+9)):=IN (t:= [60,33,91,67,68,65,84,65]) F J (by decide);unfold skipP at A;split at A
     ·cases A
     ·rename_i i Y;injection A with A;obtain ⟨k1,k2⟩:=Kr Y;have S:=Zgu F k2 (by decide);show isText (lns ((s.drop (f+9)).take (to_ - 3 - (f+9))));have e1:to_ - 3=i:=(by have:([93,93,62]:List UInt8).length=3:=rfl;omega);rw[e1,<-List.drop_take];exact IS _ _ (ZqE _) (ZfX U S k1)
   ·split at h
    ·cases h
    ·split at h
     ·cases h
     ·split at h
      ·unfold endP at h;dsimp only at h;split at h
       ·split at h
        ·rename_i X;injection h with h;injection h with C D;subst C;subst D;exact ⟨Zy,IN (t:= []) F X (by decide)⟩
        ·cases h
       ·cases h
      ·split at h
       ·rw[JE s f Q] at h;split at h
        ·cases h
        ·have C:=X7 Q;exact Za9 F _ _ _ t e (ZrB _) C.2 h
       ·rename_i R;have Z:=Ks Q (by cases V:hasAt s f [60] with|false=>rfl|true=>exact absurd V R);dsimp only at h;obtain ⟨z,H⟩:∃z,(findAt s f [60]).getD s.length=z:=⟨_,rfl⟩;rw[H] at h Z;have I:isText (s.take z):=by
         cases hfa:findAt s f [60] with
         |none=>rw[hfa] at H;rw[<-H];show isText (s.take s.length);rw[List.take_length];exact F
         |some i=>rw[hfa] at H;have D:=(Kr hfa).2;rw[<-H];exact Zgu F D (by decide)
        split at h
        ·cases h
        ·rename_i v hv;injection h with h;injection h with C D;subst C;subst D;refine ⟨?_,I⟩;refine J9 false s I _ _ _ v hv ?_ Zy;rw[List.take_take,Nat.min_eq_left om];exact O
theorem Zc9 {s:List UInt8} (D:isText s):∀(n k:Nat) (l L:List Tok),s.length - k<n->isText (s.take k)->(∀t∈l,isText t.text)->toksAt s k l= .ok L->∀t∈L,isText t.text
 |0,_,_,_,h,_,_,_=>by omega
 |n+1,k,l,L,hn,hk0,hl,h=>by
  by_cases F:s.length<=k
  ·rw[XW F] at h
   injection h with h
   rw[<-h]
   exact hl
  ·cases hc:constructP s k with
   |error x=>rw[J1 om hc] at h;cases h
   |ok y=>
    obtain ⟨t,e⟩:=y
    have H:=Yi om hc
    have C:=ZbZ D om hk0 hc
    rw[YY om hc] at h
    refine Zc9 D n e _ L om C.2 ?_ h
    split
    ·exact λu A=>(Zq0.1 A).elim (hl u) λA=>by rw[ZqU.1 A];exact C.1
    ·exact hl
theorem Zmp:isText [239,187,191]:=⟨[65279],by decide,by decide⟩
theorem Zl9 {s:List UInt8} {L:List Tok} (h:toksP s= .ok L):∀t∈L,isText t.text:=by
 rw[Vf] at h;split at h
 ·cases h
 ·rename_i C;have F:=Xf _ 0 s (ZqE _) (by have:=C;unfold check at this;simpa using this);refine Zc9 F _ _ _ L (ZrB _) ?_ (by intro t H;cases H) h;split
  ·rename_i A;unfold hasAt at A;rw[List.isPrefixOf_iff_prefix,Zsf] at A;obtain ⟨r,D⟩:=A;rw[<-D];exact Zmp
  ·exact Zy
mutual
def Nd.gt:Nd->Prop
 | .mk k _ _ _ ks t _=>(k=1->isText t)/\Nds.gt ks
def Nds.gt:List Nd->Prop
 | []=>True
 |x::t=>x.gt/\Nds.gt t
end
theorem Nds.gt_iff:∀l:List Nd,Nds.gt l↔∀x∈l,x.gt
 | []=>by rw[Nds.gt];simp
 |x::t=>by rw[Nds.gt,Nds.gt_iff t];simp
mutual
theorem Zdb:∀n:Nd,n.gt->isText n.txt
 | .mk k s nm al ks t a,h=>by
  rw[Nd.gt] at h
  rw[Nd.txt]
  split
  ·rename_i hk
   exact h.1 hk
  ·exact ZeN ks h.2
theorem ZeN:∀l:List Nd,Nds.gt l->isText (Nds.txt l)
 | [],_=>by rw[Nds.txt];exact Zy
 |x::t,h=>by
  rw[Nds.gt] at h
  rw[Nds.txt]
  exact Zs (Zdb x h.1) (ZeN t h.2)
end
theorem Zh8 {ks:List Nd} (h:Nds.gt ks) {t:List UInt8} (D:isText t) (a:Nat):Nds.gt (addText ks t a):=by
 rw[Nds.gt_iff] at h|-;unfold addText;split
 ·rename_i s nm al kk u b F;obtain ⟨ys,rfl⟩:=List.getLast?_eq_some_iff.1 F;rw[List.dropLast_concat];intro x A;rcases Zq0.1 A with A|A
  ·exact h x (ZrZ _ A)
  ·have C:=h (.mk 1 s nm al kk u b) (by simp);rw[ZqU.1 A];rw[Nd.gt] at C|-;exact ⟨λH=>Zs (C.1 rfl) D,C.2⟩
 ·intro x A;rcases Zq0.1 A with A|A
  ·exact h x A
  ·rw[ZqU.1 A];unfold charD;rw[Nd.gt,Nds.gt];exact ⟨λ_=>D,trivial⟩
theorem ZoC {fin:Nat}:∀f:Nat,(∀(d:Nat) (l:List Tok) (x:Nd) (r:List Tok),elemP fin f d l= .ok (x,r)->(∀t∈l,isText t.text)->x.gt/\∀t∈r,isText t.text)/\
 (∀(d:Nat) (t:Tok) (ks:List Nd) (l:List Tok) (x:Nd) (r:List Tok),kidsP fin f d t ks l= .ok (x,r)->Nds.gt ks->(∀t∈l,isText t.text)->x.gt/\∀t∈r,isText t.text):=by
 intro f
 induction f with
 |zero=>exact ⟨λd l x r h=>(by rw[elemP] at h;cases h),λd t ks l x r h=>(by rw[kidsP] at h;cases h)⟩
 |succ f ih=>
  obtain ⟨O,A⟩:=ih;refine ⟨λd l x r h D=> ?_,λd t ks l x r h F D=> ?_⟩
  ·cases l with
   |nil=>rw[elemP] at h;cases h
   |cons t l=>
    have C:∀u∈l,isText u.text:=λu I=>D u (Zq7 _ I);rw[elemP] at h;split at h
    ·cases h
    ·split at h
     ·injection h with h;injection h with e1 e2;subst e1;subst e2;rw[Nd.gt,Nds.gt];exact ⟨⟨λe=>absurd e (by decide),trivial⟩,C⟩
     ·exact A d t [] l x r h (by rw[Nds.gt];trivial) C
  ·cases l with
   |nil=>rw[kidsP] at h;cases h
   |cons u l=>
    have S:=D u Zq6;have C:∀u∈l,isText u.text:=λu I=>D u (Zq7 _ I);rw[kidsP] at h;split at h
    ·split at h
     ·cases h
     ·injection h with h;injection h with e1 e2;subst e1;subst e2;rw[Nd.gt];exact ⟨⟨λe=>absurd e (by decide),F⟩,C⟩
    ·split at h
     ·split at h
      ·cases h
      ·rename_i k r' H;obtain ⟨Q,R⟩:=O _ _ _ _ H D;refine A d t _ r' x r h ?_ R;rw[Nds.gt_iff] at F|-;exact λy J=>(Zq0.1 J).elim (F y) λJ=>by rw[ZqU.1 J];exact Q
     ·exact A d t _ l x r h (Zh8 F S _) C
theorem ZmC {fin:Nat}:∀(f:Nat) (found:Option Nd) (l:List Tok) (x:Nd),docGo fin f found l= .ok x->(∀y,found=some y->y.gt)->(∀t∈l,isText t.text)->x.gt:=by
 intro f
 induction f with
 |zero=>exact λfound l x h _ _=>by rw[docGo] at h;cases h
 |succ f ih=>
  intro found l x h C D;cases l with
  |nil=>
   rw[YP] at h;cases found with
   |none=>cases h
   |some n=>injection h with h;subst h;exact C _ rfl
  |cons t r=>
   have I:∀u∈r,isText u.text:=λu O=>D u (Zq7 _ O);rw[Yz] at h;split at h
   ·cases h
   ·split at h
    ·cases h
    ·split at h
     ·split at h
      ·cases h
      ·exact ih _ _ _ h C I
     ·split at h
      ·cases h
      ·rename_i n r' J;obtain ⟨F,H⟩:=(ZoC _).1 _ _ _ _ J D;exact ih _ _ _ h (λy A=>by injection A with A;subst A;exact F) H
mutual
theorem Zke:∀(n m:Nd) (sc:Scope),resP n sc= .ok m->n.gt->m.gt
 | .mk k s n al ks t a,m,sc,h,hg=>by
  rw[Nd.gt] at hg
  rw[resP] at h
  split at h
  ·cases h
  ·split at h
   ·cases h
   ·rename_i ks' hks
    injection h with h
    subst h
    rw[Nd.gt]
    exact ⟨λe=>absurd e (by decide),ZcW ks ks' _ hks hg.2⟩
theorem ZcW:∀(ks r:List Nd) (sc:Scope),resKids ks sc= .ok r->Nds.gt ks->Nds.gt r
 | [],r,sc,h,_=>by
  rw[resKids] at h
  injection h with h
  subst h
  rw[Nds.gt]
  trivial
 |k::t,r,sc,h,hg=>by
  rw[Nds.gt] at hg
  rw[resKids] at h
  split at h
  ·cases h
  ·rename_i k' hk'
   split at h
   ·cases h
   ·rename_i t' ht'
    injection h with h
    subst h
    rw[Nds.gt]
    refine ⟨?_,ZcW t t' sc ht' hg.2⟩
    split at hk'
    ·exact Zke k k' sc hk' hg.1
    ·injection hk' with hk'
     rw[<-hk']
     exact hg.1
end
structure amGd (N:Nat) (n:Nd):Prop where
 gd:n.gd N
 gt:n.gt
theorem ZjH {s:List UInt8} {m:Nd} (h:treeP s=some m):amGd s.length m:=by
 refine ⟨Zn5 h,?_⟩;unfold treeP at h;split at h
 ·cases h
 ·split at h
  ·cases h
  ·rename_i n A;split at h
   ·cases h
   ·rename_i r D;injection h with h;subst h;refine Zke n r [] D ?_;rw[Js] at A;split at A
    ·cases A
    ·rename_i l C;exact ZmC _ _ _ _ A (λy F=>by cases F) (Zl9 C)
theorem amGd.kid {N:Nat} {sp nm:List UInt8} {n k:Nd} (h:amGd N n) (H:k∈kidsE sp nm n):amGd N k:=by
 have F:=(Ji H).1;obtain ⟨C,D⟩:=h;obtain ⟨kk,s,m,al,ks,t,a⟩:=n;rw[Nd.gd] at C;rw[Nd.gt] at D;have A:k∈ks:=F;exact ⟨(Nds.gd_iff _).1 C.2.2 k A,(Nds.gt_iff _).1 D.2 k A⟩
theorem amGd.at_lt {N:Nat} {n:Nd} (h:amGd N n):n.at_<N:=by
 have h:=h.gd;obtain ⟨k,s,n,al,ks,t,a⟩:=n;rw[Nd.gd] at h;exact h.2.1
theorem amGd.txtOf {N:Nat} {n:Nd} (h:amGd N n) (nm:List UInt8):isText (txtOf nm n):=by
 unfold Proofs.YtmfinhgobjbecaaGreatDoor.txtOf firstT;cases hk:(kidsE atomL nm n).head? with
 |none=>exact Zy
 |some k=>exact Zdb _ (h.kid (List.mem_of_head? hk)).gt
theorem amGd.cont {N:Nat} {n:Nd} (h:amGd N n):isText (contN n):=by
 unfold contN firstT;cases hk:(kidsE atomL contentL n).head? with
 |none=>exact h.txtOf summaryL
 |some k=>exact Zdb _ (h.kid (List.mem_of_head? hk)).gt
theorem amGd.link {N:Nat} {n:Nd} (h:amGd N n):isText (linkN n):=by
 unfold linkN;split
 ·rename_i k C;have A:=(h.kid (List.mem_of_find?_eq_some C)).gd;obtain ⟨kk,s,m,al,ks,t,a⟩:=k;rw[Nd.gd] at A;unfold attrL attrIn;simp only[Nd.attrs];cases hf:al.find? (λa=>a.space== [] && a.name==hrefL) with
  |none=>exact Zy
  |some b=>exact A.1 b (List.mem_of_find?_eq_some hf)
 ·exact Zy
theorem J0 {v:List UInt8} (h:isText v):(checkS (str v)).2=0:=by unfold checkS;rw[Ej];exact (XN v).2 h
theorem ZdV {v:List UInt8} (h:coll v≠ []):collapse (str v)≠noS:=by
 intro e;unfold collapse at e;rw[Ej] at e;have A:(str (coll v)).data.toList=noS.data.toList:=ZqS (λb:ByteArray=>b.data.toList) e;rw[Ej] at A;exact h (A.trans rfl)
def amErr (N:Nat) (x:PErr):Prop:=x.1<N/\(x.2=18\/x.2=19\/x.2=20)
theorem ZeX {N:Nat} {n:Nd} (h:amGd N n):match comA n with| .ok t=>coll (txtOf idL n)≠ []/\inT t=true| .error x=>amErr N x:=by
 cases hc:comA n with
 |ok t=>
  unfold comA at hc;split at hc
  ·cases hc
  ·rename_i A;refine ⟨A,?_⟩;split at hc
   ·injection hc with hc;rw[<-hc];decide
   ·split at hc
    ·rename_i t' D;injection hc with hc;rw[<-hc];exact ZhU D
    ·cases hc
 |error x=>
  unfold comA at hc;split at hc
  ·injection hc with hc;rw[<-hc];exact ⟨h.at_lt,Or.inr (Or.inl rfl)⟩
  ·split at hc
   ·cases hc
   ·rename_i k C;split at hc
    ·cases hc
    ·injection hc with hc;rw[<-hc];exact ⟨(h.kid (List.mem_of_head? C)).at_lt,Or.inr (Or.inr rfl)⟩
theorem Zcc {N:Nat}:∀l:List Nd,(∀k∈l,amGd N k)->match entsA l with| .ok m=>∀e∈m,errE e=0| .error x=>amErr N x
 | [],_=>by intro e C;cases C
 |k::l,h=>by
  have D:=h k Zq6
  have ih:=Zcc l λy H=>h y (Zq7 _ H)
  have A:=ZeX D
  rw[entsA]
  cases hc:comA k with
  |error x=>
   rw[hc] at A
   exact A
  |ok t=>
   rw[hc] at A
   dsimp only at A|-
   cases hd:entsA l with
   |error x=>
    rw[hd] at ih
    exact ih
   |ok m=>
    rw[hd] at ih
    intro e C
    rcases Zq1.1 C with rfl|C
    ·refine U6.2 ⟨YQ.2 λs F=> ?_,ZdV A.1,A.2⟩
     simp only[strsE,entA,Zq1,List.not_mem_nil,ZrD] at F
     rcases F with rfl|rfl|rfl|rfl
     ·exact J0 (D.txtOf _)
     ·exact J0 (D.txtOf _)
     ·exact J0 D.link
     ·exact J0 D.cont
    ·exact ih e C
theorem Zoz {N:Nat} {n:Nd} (h:amGd N n):match decA n with| .ok f=>f.path= []/\errF f=0| .error x=>amErr N x:=by
 unfold decA;split
 ·rename_i x A;split at A
  ·cases A
  ·have C:=ZeX h;cases hc:comA n with
   |error y=>rw[hc] at A;cases A
   |ok t=>
    rw[hc] at A C;dsimp only at A C;have D:=Zcc (kidsE atomL entryL n) λk F=>h.kid F;cases hd:entsA (kidsE atomL entryL n) with
    |error y=>rw[hd] at A;cases A
    |ok l=>
     rw[hd] at A D;injection A with A;subst A;refine ⟨rfl,E9.2 ⟨Ku.2 ⟨YQ.2 λs H=> ?_,ZdV C.1,(by simp[fdA]),(by simp[fdA]),C.2⟩,JM.2 D⟩⟩;simp only[strsF,fdA,Zrl,Zq1,List.not_mem_nil,ZrD] at H;rcases H with rfl|rfl|rfl
     ·exact J0 (h.txtOf _)
     ·exact J0 (h.txtOf _)
     ·exact J0 h.link
 ·rename_i x A;split at A
  ·injection A with A;rw[<-A];exact ⟨h.at_lt,Or.inl rfl⟩
  ·have C:=ZeX h;cases hc:comA n with
   |error y=>rw[hc] at A C;injection A with A;rw[<-A];exact C
   |ok t=>
    rw[hc] at A;dsimp only at A;have D:=Zcc (kidsE atomL entryL n) λk F=>h.kid F;cases hd:entsA (kidsE atomL entryL n) with
    |error y=>rw[hd] at A D;injection A with A;rw[<-A];exact D
    |ok l=>rw[hd] at A;cases A
theorem Zjf {f:Fd} (h:errF f=0):okF (normF f)=true:=by
 unfold normF;rw[ZqN h];exact ZnI h
section
set_option linter.unusedSimpArgs false
theorem Zlm (s:ByteArray) (w:World) (hE:Env w) (hQ:NmTabs w) (hs:s.size<=reachBytes):
 Calls prog 7 #[.string s] w λe w'=>e= .returned (.bool true)/\Ext w w':=by
 have hL:=gd (λ(H:World) (h:Ext w H)=>J6 H (hE.ext h) (hQ.ext h));have hU:s.size<=maxLen:=ZqM hs (by decide);cases hj:treeP s.data.toList with
 |none=>
  have hF:=gd (Zbg hj w hU);clear hj;go_enter func7,ntmps7
  go_wp2_with (first|(refine ZqF rfl 25 (.tmp 3) (.tmp 15) rfl w2.heap.size #[.int .i64 0,.string ⟨#[]⟩,.string ⟨#[]⟩,.slice none 0 0,.slice none 0 0,.string ⟨#[]⟩,.int .i64 0] rfl rfl _ _ gl Ze rfl Zz ?_;rw[gt])|(go_at_call 10;have Q:=hL.out _ Y;refine ZqD Q ?_;clear Q;rintro e Z ⟨rfl,hw⟩;have hk:=Y.trans hw)|(go_at_call 9;have Q:=hF.out;refine ZqD Q ?_;clear Q;rintro e w2 ⟨rfl,hc⟩;obtain ⟨W2,hb⟩:∃W0,w2.alloc (.cells #[.int .i64 0,.string ⟨#[]⟩,.string ⟨#[]⟩,.slice none 0 0,.slice none 0 0,.string ⟨#[]⟩,.int .i64 0] 25)=W0:=⟨_,rfl⟩;(have hi:Ext w2 W2:=by rw[<-hb];exact (Ext.refl _).alloc _);(have J:∀i v,(#[.int .i64 0,.string ⟨#[]⟩,.string ⟨#[]⟩,.slice none 0 0,.slice none 0 0,.string ⟨#[]⟩,.int .i64 0]:Array Value)[i]? =some v->W2.cell? ⟨w2.heap.size,i,none⟩=some v:=λi v h=>by rw[<-hb];exact (Ext.refl (w2.alloc _)).boxed i v h);have ha:Hid (∀H:World,Ext W2 H->H.cell? ⟨w2.heap.size,0,none⟩=some (.int .i64 0)/\H.cell? ⟨w2.heap.size,1,none⟩=some (.string ⟨#[]⟩)/\H.cell? ⟨w2.heap.size,2,none⟩=some (.string ⟨#[]⟩)/\H.cell? ⟨w2.heap.size,3,none⟩=some (.slice none 0 0)/\H.cell? ⟨w2.heap.size,4,none⟩=some (.slice none 0 0)/\H.cell? ⟨w2.heap.size,5,none⟩=some (.string ⟨#[]⟩)/\H.cell? ⟨w2.heap.size,6,none⟩=some (.int .i64 0)):=gd λH h=>⟨h.cell (J 0 _ rfl),h.cell (J 1 _ rfl),h.cell (J 2 _ rfl),h.cell (J 3 _ rfl),h.cell (J 4 _ rfl),h.cell (J 5 _ rfl),h.cell (J 6 _ rfl)⟩;clear J;have ht:=hc.trans hi;have Y:=(Ext.refl w).trans ht;obtain ⟨q1_0_0,q1_0_1,q1_0_2,q1_0_3,q1_0_4,q1_0_5,q1_0_6⟩:=ha.out _ (Ext.refl W2);(have gt:W2.setRow w2.heap.size #[.int .i64 0,.string ⟨#[]⟩,.string ⟨#[]⟩,.slice none 0 0,.slice none 0 0,.string ⟨#[]⟩,.int .i64 0]=W2:=by rw[<-hb,Zh]);(have gl:W2.heap[w2.heap.size]? =some (.cells #[.int .i64 0,.string ⟨#[]⟩,.string ⟨#[]⟩,.slice none 0 0,.slice none 0 0,.string ⟨#[]⟩,.int .i64 0] 25 (0,0)):=by rw[<-hb];exact ZqJ w2 _)))
  go_ret;exact ⟨rfl,hk⟩
 |some o=>
  have hF:=gd (Em hj w hU);have hS:=ZjH hj;have ho:=QD hj;rw[Zb] at hS;have hH:=Zoz hS;have hl:=gd (λ(w':World) (k:Nat) (sp nm:List UInt8) (A:Option Addr) (n c:Nat) (B:Option Addr) (q d:Nat) (t:List UInt8) (a:Nat) (hx:Ext w w') (hr:TrA 5000 5000 w' o k sp nm A n c B q d t a)=>VX (by decide) (by decide) (by decide) (hE.ext hx) hr ho (λf hf=>IB ho hf));clear hj hS;cases hd:decA o with
  |error f=>
   rw[hd] at hl hH;obtain ⟨f1,f2⟩:=f;obtain ⟨h3,h4⟩:=hH;dsimp only at h3 h4;clear hd ho;have hD:Hid (∀(w':World) (k:Nat) (sp nm:List UInt8) (A:Option Addr) (n c:Nat) (B:Option Addr) (q d:Nat) (t:List UInt8) (a:Nat),Ext w w'->TrA 5000 5000 w' o k sp nm A n c B q d t a->Calls prog 11 #[.agg #[.int .i64 (k:Nat),.string (str sp),.string (str nm),.slice A n c,.slice B q d,.string (str t),.int .i64 (a:Nat)]] w' λe w2=>e= .returned (.tuple #[.agg #[.slice none 0 0,.string ⟨#[]⟩,.string ⟨#[]⟩,.string ⟨#[]⟩,.int .i64 0,.slice none 0 0],.int .i64 (f1:Nat),.int .i64 (f2:Nat)])/\Ext w' w2):=hl;have hA:(0:Int)<=(f1:Int):=om;have hB:decide (f1<s.size)=true:=Zrj h3;obtain ⟨E,hZ,gj⟩:∃E:Int,(f2:Int)=E/\(E=18\/E=19\/E=20):=⟨_,rfl,om⟩;rw[hZ] at hD;clear hZ h4 hl;rcases gj with rfl|rfl|rfl
   all_goals go_enter func7,ntmps7
   all_goals go_wp2_with (first|(refine ZqF rfl 32 (.tmp 5) (.tmp 23) rfl Z.heap.size #[.slice none 0 0,.string ⟨#[]⟩,.string ⟨#[]⟩,.string ⟨#[]⟩,.int .i64 0,.slice none 0 0] rfl rfl _ _ gm Ge rfl Zjh ?_;rw[gu])|(go_at_call 10;have Q:=hL.out _ hk;refine ZqD Q ?_;clear Q;rintro e w4 ⟨rfl,hm⟩;have hK:=hk.trans hm)|(go_at_call 11;have Q:=hD.out _ _ _ _ _ _ _ _ _ _ _ _ Y hN.out;(refine ZqD Q ?_);clear Q;rintro e Z ⟨rfl,hw⟩;obtain ⟨W3,hg⟩:∃W0,Z.alloc (.cells #[.slice none 0 0,.string ⟨#[]⟩,.string ⟨#[]⟩,.string ⟨#[]⟩,.int .i64 0,.slice none 0 0] 32)=W0:=⟨_,rfl⟩;(have hJ:Ext Z W3:=by rw[<-hg];exact (Ext.refl _).alloc _);(have X:∀i v,(#[.slice none 0 0,.string ⟨#[]⟩,.string ⟨#[]⟩,.string ⟨#[]⟩,.int .i64 0,.slice none 0 0]:Array Value)[i]? =some v->W3.cell? ⟨Z.heap.size,i,none⟩=some v:=λi v h=>by rw[<-hg];exact (Ext.refl (Z.alloc _)).boxed i v h);have he:Hid (∀H:World,Ext W3 H->H.cell? ⟨Z.heap.size,0,none⟩=some (.slice none 0 0)/\H.cell? ⟨Z.heap.size,1,none⟩=some (.string ⟨#[]⟩)/\H.cell? ⟨Z.heap.size,2,none⟩=some (.string ⟨#[]⟩)/\H.cell? ⟨Z.heap.size,3,none⟩=some (.string ⟨#[]⟩)/\H.cell? ⟨Z.heap.size,4,none⟩=some (.int .i64 0)/\H.cell? ⟨Z.heap.size,5,none⟩=some (.slice none 0 0)):=gd λH h=>⟨h.cell (X 0 _ rfl),h.cell (X 1 _ rfl),h.cell (X 2 _ rfl),h.cell (X 3 _ rfl),h.cell (X 4 _ rfl),h.cell (X 5 _ rfl)⟩;clear X;have hu:=hw.trans hJ;have hk:=Y.trans hu;have hc0_3:=(Ext.refl W2).trans hu;obtain ⟨q2_0_0,q2_0_1,q2_0_2,q2_0_3,q2_0_4,q2_0_5,q2_0_6⟩:=ha.out _ hc0_3;clear q1_0_0 q1_0_1 q1_0_2 q1_0_3 q1_0_4 q1_0_5 q1_0_6;obtain ⟨q2_1_0,q2_1_1,q2_1_2,q2_1_3,q2_1_4,q2_1_5⟩:=he.out _ (Ext.refl W3);(have gu:W3.setRow Z.heap.size #[.slice none 0 0,.string ⟨#[]⟩,.string ⟨#[]⟩,.string ⟨#[]⟩,.int .i64 0,.slice none 0 0]=W3:=by rw[<-hg,Zh]);(have gm:W3.heap[Z.heap.size]? =some (.cells #[.slice none 0 0,.string ⟨#[]⟩,.string ⟨#[]⟩,.string ⟨#[]⟩,.int .i64 0,.slice none 0 0] 32 (0,0)):=by rw[<-hg];exact ZqJ Z _))|(go_at_call 9;have Q:=hF.out;(refine ZqD Q ?_);clear Q;rintro e w2 ⟨⟨k,sp,nm,A,n,c,B,q,d,t,a,rfl,hv⟩,hc⟩;obtain ⟨W2,hb⟩:∃W0,w2.alloc (.cells #[.int .i64 (k:Nat),.string (str sp),.string (str nm),.slice A n c,.slice B q d,.string (str t),.int .i64 (a:Nat)] 25)=W0:=⟨_,rfl⟩;(have hi:Ext w2 W2:=by rw[<-hb];exact (Ext.refl _).alloc _);(have J:∀i v,(#[.int .i64 (k:Nat),.string (str sp),.string (str nm),.slice A n c,.slice B q d,.string (str t),.int .i64 (a:Nat)]:Array Value)[i]? =some v->W2.cell? ⟨w2.heap.size,i,none⟩=some v:=λi v h=>by rw[<-hb];exact (Ext.refl (w2.alloc _)).boxed i v h);have ha:Hid (∀H:World,Ext W2 H->H.cell? ⟨w2.heap.size,0,none⟩=some (.int .i64 (k:Nat))/\H.cell? ⟨w2.heap.size,1,none⟩=some (.string (str sp))/\H.cell? ⟨w2.heap.size,2,none⟩=some (.string (str nm))/\H.cell? ⟨w2.heap.size,3,none⟩=some (.slice A n c)/\H.cell? ⟨w2.heap.size,4,none⟩=some (.slice B q d)/\H.cell? ⟨w2.heap.size,5,none⟩=some (.string (str t))/\H.cell? ⟨w2.heap.size,6,none⟩=some (.int .i64 (a:Nat))):=gd λH h=>⟨h.cell (J 0 _ rfl),h.cell (J 1 _ rfl),h.cell (J 2 _ rfl),h.cell (J 3 _ rfl),h.cell (J 4 _ rfl),h.cell (J 5 _ rfl),h.cell (J 6 _ rfl)⟩;clear J;have ht:=hc.trans hi;have Y:=(Ext.refl w).trans ht;obtain ⟨q1_0_0,q1_0_1,q1_0_2,q1_0_3,q1_0_4,q1_0_5,q1_0_6⟩:=ha.out _ (Ext.refl W2);have hN:=gd (hv.ext hi);clear hv))
   all_goals go_ret
   all_goals exact ⟨rfl,hK⟩
  |ok f=>
   rw[hd] at hl hH;obtain ⟨h5,hR⟩:=hH;obtain ⟨q1,q2,q3,q4⟩:=Ze0 (S:=10000) (by decide) (by decide) ho hd;have o1:=Zjf hR;have o2:=Vy h5;have o4:szA 10000 9996 (normF f):=(by obtain ⟨z1,z2,z3⟩:=ZhR q1;exact ⟨z1,z2,ZqM z3 (by decide)⟩);have o3:fokS (normF f):=ZfK o4 (by decide) (by decide) o2 (Zfm o1).1 (Zfm o1).2;clear hd ho q1 q2 q3 q4 h5;obtain ⟨G,hG⟩:∃G,normF f=G:=⟨_,rfl⟩;rw[hG] at o1 o2 o3 o4;obtain ⟨P,hP⟩:∃P,G=P:=⟨_,rfl⟩;obtain ⟨hO,O,D,F,I,C⟩:=G;have gk:hO= []:=o2;subst gk;have h6:C.length<=16777216:=ZqM o4.2.2 (by decide);rw[hP] at o1 o2 o3 o4 hG;have gb:Hid (∀(H:World) (R:Option Addr) (c5:Nat) (U:Option Addr) (V:Nat),RdC H ⟨.slice R 0 c5,.slice U C.length V,⟨[],O,D,F,I,C⟩⟩->Calls prog 20 #[.agg #[.slice R 0 c5,.string O,.string D,.string F,.int .i64 I,.slice U C.length V]] H λe w2=>e= .returned (.int .i64 0)/\Ext H w2):=gd λH R c5 U V hr=>(by have Q:=X9 ⟨.slice R 0 c5,.slice U C.length V,⟨[],O,D,F,I,C⟩⟩ H hr (by rw[hP];exact o3);exact Q.mono λe w2 ⟨h1,h2⟩=>⟨by rw[h1,ZqN (by rw[hP];exact o1)],h2⟩);have hW:Hid (∀(H:World) (R:Option Addr) (c5:Nat) (U:Option Addr) (V:Nat),Ext w H->RdC H ⟨.slice R 0 c5,.slice U C.length V,⟨[],O,D,F,I,C⟩⟩->Calls prog 17 #[.agg #[.slice R 0 c5,.string O,.string D,.string F,.int .i64 I,.slice U C.length V]] H λe w2=>e= .returned (.tuple #[.string (textA P),.int .i64 0])/\Ext H w2):=gd λH R c5 U V h hr=>(by have Q:=EY ⟨.slice R 0 c5,.slice U C.length V,⟨[],O,D,F,I,C⟩⟩ H (hE.ext h) (hQ.ext h) hr (by rw[hP];exact o3) (by dsimp only;rw[hP];exact XR.2 ⟨o1,o2⟩) (by rw[hP];exact o4);exact Q.mono λe w2 ⟨h1,h2⟩=>⟨by rw[h1,<-hP],h2⟩);have gc:Hid (∀(H:World) (R:Option Addr) (c5:Nat) (U:Option Addr) (V:Nat) (A6:Option Addr) (c6:Nat) (B6:Option Addr) (d6:Nat),RdC H ⟨.slice R 0 c5,.slice U C.length V,⟨[],O,D,F,I,C⟩⟩->RdC H ⟨.slice A6 0 c6,.slice B6 C.length d6,⟨[],O,D,F,I,C⟩⟩->Calls prog 13 #[.agg #[.slice R 0 c5,.string O,.string D,.string F,.int .i64 I,.slice U C.length V],.agg #[.slice A6 0 c6,.string O,.string D,.string F,.int .i64 I,.slice B6 C.length d6]] H λe w2=>e= .returned (.bool true)/\Ext H w2):=gd λH R c5 U V A6 c6 B6 d6 hr gn=>(by have Q:=Uk ⟨.slice R 0 c5,.slice U C.length V,⟨[],O,D,F,I,C⟩⟩ ⟨.slice A6 0 c6,.slice B6 C.length d6,⟨[],O,D,F,I,C⟩⟩ H hr gn (ZqO _) h6;rw[Zrj rfl] at Q;exact Q);have hq:∀{w2:World} {y:Fc},y.f=P->RdC w2 y->∃R c5 U V,y=⟨.slice R 0 c5,.slice U C.length V,⟨[],O,D,F,I,C⟩⟩:=(by intro w2 y hC Y;obtain ⟨yp,gw,yf⟩:=y;dsimp only at hC;rw[<-hP] at hC;subst hC;obtain ⟨r0,r1⟩:=Y;dsimp only at r0 r1;obtain ⟨R,c5,rfl, -, -⟩:=r0.form;obtain ⟨U,V,rfl, -, -⟩:=r1.form;exact ⟨R,c5,U,V,rfl⟩);have hV:Hid (∀H:World,Ext w H->Calls prog 21 #[.string (textA P)] H λe w2=>(∃R c5 U V,e= .returned (.tuple #[.agg #[.slice R 0 c5,.string O,.string D,.string F,.int .i64 I,.slice U C.length V],.int .i64 0])/\RdC w2 ⟨.slice R 0 c5,.slice U C.length V,⟨[],O,D,F,I,C⟩⟩)/\Ext H w2):=gd λH h=>(by refine ZqD (ZeC o1 o2 o3 o4 H (hE.ext h)) ?_;rintro e w2 ⟨⟨y,rfl,hC,Y⟩,hc⟩;refine ⟨?_,hc⟩;obtain ⟨R,c5,U,V,rfl⟩:=hq hC Y;exact ⟨R,c5,U,V,rfl,Y⟩);have hD:Hid (∀(w':World) (k:Nat) (sp nm:List UInt8) (A:Option Addr) (n c:Nat) (B:Option Addr) (q d:Nat) (t:List UInt8) (a:Nat),Ext w w'->TrA 5000 5000 w' o k sp nm A n c B q d t a->Calls prog 11 #[.agg #[.int .i64 (k:Nat),.string (str sp),.string (str nm),.slice A n c,.slice B q d,.string (str t),.int .i64 (a:Nat)]] w' λe w2=>(∃R c5 U V,e= .returned (.tuple #[.agg #[.slice R 0 c5,.string O,.string D,.string F,.int .i64 I,.slice U C.length V],.int .i64 0,.int .i64 0])/\RdC w2 ⟨.slice R 0 c5,.slice U C.length V,⟨[],O,D,F,I,C⟩⟩)/\Ext w' w2):=gd λw' k sp nm A n c B q d t a hx hr=>(by refine ZqD (hl.out w' k sp nm A n c B q d t a hx hr) ?_;rintro e w2 ⟨⟨y,rfl,h9,ga, -⟩,hc⟩;refine ⟨?_,hc⟩;rw[hG] at h9;rw[hR];obtain ⟨R,c5,U,V,rfl⟩:=hq h9 ga;exact ⟨R,c5,U,V,rfl,ga⟩);obtain ⟨T,hT⟩:∃T,textA P=T:=⟨_,rfl⟩;rw[hT] at hV;simp only[hT] at hW;clear hT hq hR o1 o2 o3 o4 h6 hl hG hE hQ hs hU hP;go_enter func7,ntmps7
   go_wp2_with (first|(go_at_call 20;have Q:=gb.out _ R c5 U V gg.out;refine ZqD Q ?_;clear Q;rintro e w8 ⟨rfl,gp⟩;have gs:=gr.trans gp)|(go_at_call 13;have Q:=gc.out _ R c5 U V A6 c6 B6 d6 hY.out gi.out;refine ZqD Q ?_;clear Q;rintro e w7 ⟨rfl,hy⟩;have gg:=gd (hY.out.ext hy);have gr:=gq.trans hy;have hc0_7:=hc0_6.trans hy;obtain ⟨q6_0_0,q6_0_1,q6_0_2,q6_0_3,q6_0_4,q6_0_5,q6_0_6⟩:=ha.out _ hc0_7;have hc1_7:=hc1_6.trans hy;obtain ⟨q6_1_0,q6_1_1,q6_1_2,q6_1_3,q6_1_4,q6_1_5⟩:=he.out _ hc1_7;have hc2_7:=hc2_6.trans hy;obtain ⟨q6_2_0,q6_2_1,q6_2_2,q6_2_3,q6_2_4,q6_2_5⟩:=hM.out _ hc2_7;clear q5_0_0 q5_0_1 q5_0_2 q5_0_3 q5_0_4 q5_0_5 q5_0_6 q5_1_0 q5_1_1 q5_1_2 q5_1_3 q5_1_4 q5_1_5 q5_2_0 q5_2_1 q5_2_2 q5_2_3 q5_2_4 q5_2_5)|(go_at_call 10;have Q:=hL.out _ h8;refine ZqD Q ?_;clear Q;rintro e w6 ⟨rfl,hn⟩;have gi:=gd (gh.out.ext hn);have hY:=gd (gf.out.ext hn);have gq:=h8.trans hn;have hc0_6:=hc0_5.trans hn;obtain ⟨q5_0_0,q5_0_1,q5_0_2,q5_0_3,q5_0_4,q5_0_5,q5_0_6⟩:=ha.out _ hc0_6;have hc1_6:=hc1_5.trans hn;obtain ⟨q5_1_0,q5_1_1,q5_1_2,q5_1_3,q5_1_4,q5_1_5⟩:=he.out _ hc1_6;have hc2_6:=(Ext.refl W5).trans hn;obtain ⟨q5_2_0,q5_2_1,q5_2_2,q5_2_3,q5_2_4,q5_2_5⟩:=hM.out _ hc2_6;clear q4_0_0 q4_0_1 q4_0_2 q4_0_3 q4_0_4 q4_0_5 q4_0_6 q4_1_0 q4_1_1 q4_1_2 q4_1_3 q4_1_4 q4_1_5 q4_2_0 q4_2_1 q4_2_2 q4_2_3 q4_2_4 q4_2_5)|(go_at_call 21;have Q:=hV.out _ hK;refine ZqD Q ?_;clear Q;rintro e w5 ⟨⟨A6,c6,B6,d6,rfl,hp⟩,go⟩;obtain ⟨W5,h0⟩:∃W0,w5.alloc (.cells #[.slice A6 0 c6,.string O,.string D,.string F,.int .i64 I,.slice B6 C.length d6] 32)=W0:=⟨_,rfl⟩;(have h7:Ext w5 W5:=by rw[<-h0];exact (Ext.refl _).alloc _);(have hh:∀i v,(#[.slice A6 0 c6,.string O,.string D,.string F,.int .i64 I,.slice B6 C.length d6]:Array Value)[i]? =some v->W5.cell? ⟨w5.heap.size,i,none⟩=some v:=λi v h=>by rw[<-h0];exact (Ext.refl (w5.alloc _)).boxed i v h);have hM:Hid (∀H:World,Ext W5 H->H.cell? ⟨w5.heap.size,0,none⟩=some (.slice A6 0 c6)/\H.cell? ⟨w5.heap.size,1,none⟩=some (.string O)/\H.cell? ⟨w5.heap.size,2,none⟩=some (.string D)/\H.cell? ⟨w5.heap.size,3,none⟩=some (.string F)/\H.cell? ⟨w5.heap.size,4,none⟩=some (.int .i64 I)/\H.cell? ⟨w5.heap.size,5,none⟩=some (.slice B6 C.length d6)):=gd λH h=>⟨h.cell (hh 0 _ rfl),h.cell (hh 1 _ rfl),h.cell (hh 2 _ rfl),h.cell (hh 3 _ rfl),h.cell (hh 4 _ rfl),h.cell (hh 5 _ rfl)⟩;clear hh;have hI:=go.trans h7;have h8:=hK.trans hI;have hc0_5:=hc0_4.trans hI;obtain ⟨q4_0_0,q4_0_1,q4_0_2,q4_0_3,q4_0_4,q4_0_5,q4_0_6⟩:=ha.out _ hc0_5;have hc1_5:=hc1_4.trans hI;obtain ⟨q4_1_0,q4_1_1,q4_1_2,q4_1_3,q4_1_4,q4_1_5⟩:=he.out _ hc1_5;clear q3_0_0 q3_0_1 q3_0_2 q3_0_3 q3_0_4 q3_0_5 q3_0_6 q3_1_0 q3_1_1 q3_1_2 q3_1_3 q3_1_4 q3_1_5;obtain ⟨q4_2_0,q4_2_1,q4_2_2,q4_2_3,q4_2_4,q4_2_5⟩:=hM.out _ (Ext.refl W5);have gh:=gd (hp.ext h7);have gf:=gd (ge.out.ext hI);clear hp)|(go_at_call 17;have Q:=hW.out _ R c5 U V hk hX.out;refine ZqD Q ?_;clear Q;rintro e w4 ⟨rfl,hm⟩;have ge:=gd (hX.out.ext hm);have hK:=hk.trans hm;have hc0_4:=hc0_3.trans hm;obtain ⟨q3_0_0,q3_0_1,q3_0_2,q3_0_3,q3_0_4,q3_0_5,q3_0_6⟩:=ha.out _ hc0_4;have hc1_4:=(Ext.refl W3).trans hm;obtain ⟨q3_1_0,q3_1_1,q3_1_2,q3_1_3,q3_1_4,q3_1_5⟩:=he.out _ hc1_4;clear q2_0_0 q2_0_1 q2_0_2 q2_0_3 q2_0_4 q2_0_5 q2_0_6 q2_1_0 q2_1_1 q2_1_2 q2_1_3 q2_1_4 q2_1_5)|(go_at_call 11;have Q:=hD.out _ _ _ _ _ _ _ _ _ _ _ _ Y hN.out;(refine ZqD Q ?_);clear Q;rintro e Z ⟨⟨R,c5,U,V,rfl,hp⟩,hw⟩;obtain ⟨W3,hg⟩:∃W0,Z.alloc (.cells #[.slice R 0 c5,.string O,.string D,.string F,.int .i64 I,.slice U C.length V] 32)=W0:=⟨_,rfl⟩;(have hJ:Ext Z W3:=by rw[<-hg];exact (Ext.refl _).alloc _);(have X:∀i v,(#[.slice R 0 c5,.string O,.string D,.string F,.int .i64 I,.slice U C.length V]:Array Value)[i]? =some v->W3.cell? ⟨Z.heap.size,i,none⟩=some v:=λi v h=>by rw[<-hg];exact (Ext.refl (Z.alloc _)).boxed i v h);have he:Hid (∀H:World,Ext W3 H->H.cell? ⟨Z.heap.size,0,none⟩=some (.slice R 0 c5)/\H.cell? ⟨Z.heap.size,1,none⟩=some (.string O)/\H.cell? ⟨Z.heap.size,2,none⟩=some (.string D)/\H.cell? ⟨Z.heap.size,3,none⟩=some (.string F)/\H.cell? ⟨Z.heap.size,4,none⟩=some (.int .i64 I)/\H.cell? ⟨Z.heap.size,5,none⟩=some (.slice U C.length V)):=gd λH h=>⟨h.cell (X 0 _ rfl),h.cell (X 1 _ rfl),h.cell (X 2 _ rfl),h.cell (X 3 _ rfl),h.cell (X 4 _ rfl),h.cell (X 5 _ rfl)⟩;clear X;have hu:=hw.trans hJ;have hk:=Y.trans hu;have hc0_3:=(Ext.refl W2).trans hu;obtain ⟨q2_0_0,q2_0_1,q2_0_2,q2_0_3,q2_0_4,q2_0_5,q2_0_6⟩:=ha.out _ hc0_3;clear q1_0_0 q1_0_1 q1_0_2 q1_0_3 q1_0_4 q1_0_5 q1_0_6;obtain ⟨q2_1_0,q2_1_1,q2_1_2,q2_1_3,q2_1_4,q2_1_5⟩:=he.out _ (Ext.refl W3);have hX:=gd (hp.ext hJ);clear hp)|(go_at_call 9;have Q:=hF.out;(refine ZqD Q ?_);clear Q;rintro e w2 ⟨⟨k,sp,nm,A,n,c,B,q,d,t,a,rfl,hv⟩,hc⟩;obtain ⟨W2,hb⟩:∃W0,w2.alloc (.cells #[.int .i64 (k:Nat),.string (str sp),.string (str nm),.slice A n c,.slice B q d,.string (str t),.int .i64 (a:Nat)] 25)=W0:=⟨_,rfl⟩;(have hi:Ext w2 W2:=by rw[<-hb];exact (Ext.refl _).alloc _);(have J:∀i v,(#[.int .i64 (k:Nat),.string (str sp),.string (str nm),.slice A n c,.slice B q d,.string (str t),.int .i64 (a:Nat)]:Array Value)[i]? =some v->W2.cell? ⟨w2.heap.size,i,none⟩=some v:=λi v h=>by rw[<-hb];exact (Ext.refl (w2.alloc _)).boxed i v h);have ha:Hid (∀H:World,Ext W2 H->H.cell? ⟨w2.heap.size,0,none⟩=some (.int .i64 (k:Nat))/\H.cell? ⟨w2.heap.size,1,none⟩=some (.string (str sp))/\H.cell? ⟨w2.heap.size,2,none⟩=some (.string (str nm))/\H.cell? ⟨w2.heap.size,3,none⟩=some (.slice A n c)/\H.cell? ⟨w2.heap.size,4,none⟩=some (.slice B q d)/\H.cell? ⟨w2.heap.size,5,none⟩=some (.string (str t))/\H.cell? ⟨w2.heap.size,6,none⟩=some (.int .i64 (a:Nat))):=gd λH h=>⟨h.cell (J 0 _ rfl),h.cell (J 1 _ rfl),h.cell (J 2 _ rfl),h.cell (J 3 _ rfl),h.cell (J 4 _ rfl),h.cell (J 5 _ rfl),h.cell (J 6 _ rfl)⟩;clear J;have ht:=hc.trans hi;have Y:=(Ext.refl w).trans ht;obtain ⟨q1_0_0,q1_0_1,q1_0_2,q1_0_3,q1_0_4,q1_0_5,q1_0_6⟩:=ha.out _ (Ext.refl W2);have hN:=gd (hv.ext hi);clear hv))
   go_ret;exact ⟨rfl,gs⟩
end
theorem Znw (os:Os) (A:os.Started) (H:Type) (enc:TypeId×Value->H):
 ReturnsInHanded {} checked os 7 .any (λw args=>(Rows.atomIsStableSpec.pre enc prog f7 [] false w args/\laidMetH prog laidAll w)/\sizedMet enc prog f7 (OpenSpec.ofChange Rows.atomIsStableSpec) false w args)
  (Rows.atomIsStableSpec.post enc prog f7 false true false false):=by
 refine returnsInHanded_of_change_and (C:=checked) (X:=λw _=>laidMetH prog laidAll w) (λ_ _ _ hh h=>h.of_heap hh) ZoX A (by kernel_rfl) func7
  (ChangeSpec.witness_shaped (enc:=enc) (C:=checked) (os:=os) (X:=λw _=>laidMetH prog laidAll w) false (World.laidAll prog os laidAll) #[.string ⟨#[]⟩] 8 (World.laidAll_os _ _ _)
   (World.shaped_of_ZipB (by kernel_rfl) (by kernel_rfl)) (by kernel_rfl) (by kernel_rfl) (by kernel_rfl)
   (by rw[MakeChecks.laidMetH_plain _ _ _ (by kernel_rfl)];exact laidMet_laidAll _ (by kernel_rfl) (by kernel_rfl))) ?_
 intro W base args ds gs V I hW hc Q hL _;have D:∀(j:Nat) t v,f7.params[j]? =some t->args[j]? =some v->Value.okWide prog W .any base t v:=I;have O:=hW;obtain ⟨p,q,ha,hV,rfl,_,_⟩:=hW;have hA:DataW.TrodAll enc prog W 0 (λ_=>true) true f7.params.toList args.toList ds p:=ha;rw[params7] at hA D;obtain ⟨v0,Y,rfl,rfl,h0⟩:=trodAll_one hA;obtain ⟨rfl,rfl⟩:=trodVars_none hV;have Z:=h0;rw[MakeChecks.laidMetH_plain _ _ _ (by kernel_rfl)] at hL;have hE:=Ua hL;have U:(DataW.weightsEach prog [9] [Y]).all (· <=reachBytes)=true:=by have h:=Q;rw[params7] at h;exact h
 have S:=Zrm.1 U;have R:∀n∈Y.weights prog 9,n<=reachBytes:=λn hn=>Zro (S n (by simpa only[DataW.weightsEach,Zrb] using hn));clear Q U S;have hd:∀x∈p,x.block<W.heap.size:=λx hx=>by simpa using O.lt x (ZrZ _ hx)
 obtain ⟨F,hb⟩:=h0;obtain ⟨s0,rfl⟩:=okWide_string underlying9 (D 0 9 v0 rfl rfl);obtain ⟨q0,J,u0,_⟩:=Zsv underlying9 (show DataW.trod enc prog W 0 (λ_=>true) true F 9 [.string s0]=some (Y,p) from hb);injection J with J _;injection J with J;subst J;rw[(Prod.mk.inj u0).1] at R;have hf:s0.size<=reachBytes:=R s0.size (by simp[DataW.weights]);refine (Zlm s0 W hE (Vx hL) hf).mono λe W' ⟨he,hx⟩=> ?_;subst he;have hB:Below W.heap.size W W':=hx;refine ⟨_,rfl,_,_,_,[],p,[],O,?_,?_,?_,hB.frame _,λh=>by cases h⟩
 ·exact trodAll_mk1 (shut_bool underlying4 _)
 ·exact trodAll_mk1 (Below.trod Qn (by kernel_rfl) (Zro (by kernel_rfl)) Z hB hd)
 ·rfl
end Go.Proofs.YtmfinhgobjbecaaGreatDoor
