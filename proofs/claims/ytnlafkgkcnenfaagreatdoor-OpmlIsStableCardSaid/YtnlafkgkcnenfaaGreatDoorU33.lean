/- Parts of the proof: contracts and plain laws. -/
import Derived.Test.YtnlafkgkcnenfaaGreatDoorU23
namespace Go.Proofs.YtnlafkgkcnenfaaGreatDoor
open Go _root_.Go.Proofs.Tryz
set_option linter.unusedVariables false
set_option linter.unusedSimpArgs false
set_option maxRecDepth 100000
set_option maxHeartbeats 16000000
section
namespace Ord
section
variable {α κ:Type} (O:Ord α κ)
variable {O}
variable {G:α→Prop}
theorem Semi.op_id' (_:O.Semi G) {a b:α} (h:O.id a=O.id b):O.id (O.op a b)=O.id a:=by rw[O.op_id a b h,h]
theorem Semi.le_left (S:O.Semi G) {a b:α} (h:O.id a=O.id b) (A:G a) (D:G b):O.op a (O.op a b)=O.op a b:=by
 rw[<-S.assoc a a b rfl h A A D,S.idem a A]
theorem Semi.le_right (S:O.Semi G) {a b:α} (h:O.id a=O.id b) (A:G a) (D:G b):O.op b (O.op a b)=O.op a b:=by
 rw[S.comm a b h A D,S.le_left h.symm D A]
theorem Semi.antisymm (S:O.Semi G) {a b:α} (h:O.id a=O.id b) (F:G a) (H:G b) (A:O.op a b=b) (D:O.op b a=a):a=b:=by
 rw[<-D,<-S.comm a b h F H,A]
theorem Semi.fold (S:O.Semi G) (k:κ):∀(t:List α) (x:α),G x->O.id x=k->(∀y∈t,G y/\O.id y=k)->
 G (t.foldl O.op x)/\O.id (t.foldl O.op x)=k/\O.op x (t.foldl O.op x)=t.foldl O.op x/\(∀y∈t,O.op y (t.foldl O.op x)=t.foldl O.op x)/\
 ∀u,G u->O.id u=k->O.op x u=u->(∀y∈t,O.op y u=u)->O.op (t.foldl O.op x) u=u
 | [],x,hx,hk,_=>⟨hx,hk,S.idem x hx,by simp,λu _ _ h _=>h⟩
 |y::t,x,hx,hk,h=>by
  have D:=h y (by simp);have A:O.id x=O.id y:=hk.trans D.2.symm;have F:O.id (O.op x y)=k:=by rw[S.op_id' A,hk]
  obtain ⟨J,K,U,X,Y⟩:=Semi.fold S k t (O.op x y) (S.good x y A hx D.1) F λz F=>h z (by simp[F]);refine ⟨J,K,?_,?_,?_⟩
  ·exact S.le_trans (hk.trans F.symm) (F.trans K.symm) hx (S.good x y A hx D.1) J (S.le_left A hx D.1) U
  ·intro z R;rcases ZH.1 R with e|e
   ·subst e;exact S.le_trans (D.2.trans F.symm) (F.trans K.symm) D.1 (S.good x z A hx D.1) J (S.le_right A hx D.1) U
   ·exact X z e
  ·intro u V I Q H;refine Y u V I ?_ λz F=>H z (by simp[F]);rw[S.assoc x y u A (D.2.trans I.symm) hx D.1 V,H y (by simp),Q]
end
variable {α κ:Type} [DecidableEq κ] {O:Ord α κ} {G:α→Prop}
theorem Semi.got_lub (S:O.Semi G) {l:List α} (U:∀x∈l,G x) {k:κ} {s:α} (h:O.got l k=some s):UB O G l k s/\∀u,UB O G l k u->O.op s u=u:=by
 unfold Ord.got at h;generalize V:(l.filter λx=>O.id x=k)=g at h;have D:∀x,x∈g↔x∈l/\O.id x=k:=by intro x;rw[<-V,YW];simp
 cases g with
 |nil=>cases h
 |cons x t=>
  simp only[fold1,Y5] at h;have H:=(D x).1 (by simp);obtain ⟨I,J,K,Q,R⟩:=S.fold k t x (U x H.1) H.2 λy A=>have:=(D y).1 (by simp[A]);⟨U y this.1,this.2⟩;rw[h] at I J K Q R;refine ⟨⟨I,J,λy A X=> ?_⟩,λu F=>R u F.1 F.2.1 (F.2.2 x H.1 H.2) λy A=>have:=(D y).1 (by simp[A]);F.2.2 y this.1 this.2⟩;rcases ZH.1 ((D y).2 ⟨A,X⟩) with e|e
  ·subst e;exact K
  ·exact Q y e
theorem Semi.got_congr (S:O.Semi G) {l m:List α} (H:∀x∈l,G x) (I:∀x∈m,G x) (k:κ) (A:(∃x∈l,O.id x=k)↔∃x∈m,O.id x=k) (D:∀u,UB O G l k u↔UB O G m k u):O.got l k=O.got m k:=by
 cases hg:O.got l k with
 |none=>
  symm
  rw[got_none_iff] at hg|-;intro x J e;obtain ⟨y,K,h⟩:=A.2 ⟨x,J,e⟩;exact hg y K h
 |some s=>obtain ⟨t,F⟩:=(got_isSome_iff m k).2 (A.1 ((got_isSome_iff l k).1 ⟨s,hg⟩));rw[F];have a:=S.got_lub H hg;have b:=S.got_lub I F;rw[S.antisymm (a.1.2.1.trans b.1.2.1.symm) a.1.1 b.1.1 (a.2 t ((D t).2 b.1)) (b.2 s ((D s).1 a.1))]
theorem canon_of_got {l m:List α} (h:∀k,O.got l k=O.got m k):O.canon l=O.canon m:=by
 refine IsCanon.unique O (O.canon_is l) ⟨(O.canon_is m).1,λx=> ?_⟩;rw[(O.canon_is m).2,h]
theorem Semi.canon_congr (S:O.Semi G) {l m:List α} (D:∀x∈l,G x) (h:∀x,x∈l↔x∈m):O.canon l=O.canon m:=by
 refine canon_of_got λk=>S.got_congr D (λx A=>D x ((h x).2 A)) k ?_ λu=> ?_
 ·exact ⟨λ⟨x,A,e⟩=>⟨x,(h x).1 A,e⟩,λ⟨x,A,e⟩=>⟨x,(h x).2 A,e⟩⟩
 ·exact ⟨λ⟨a,b,c⟩=>⟨a,b,λx A=>c x ((h x).2 A)⟩,λ⟨a,b,c⟩=>⟨a,b,λx A=>c x ((h x).1 A)⟩⟩
theorem Semi.canon_good (S:O.Semi G) {l:List α} (h:∀x∈l,G x):∀x∈O.canon l,G x:=λx A=>(S.got_lub h (((O.canon_is l).2 x).1 A)).1.1
theorem canon_left (l m:List α):O.canon (O.canon l++m)=O.canon (l++m):=by rw[O.canon_append,O.canon_append,O.canon_canon]
theorem Semi.canon_comm (S:O.Semi G) {l m:List α} (h:∀x∈l,G x) (A:∀x∈m,G x):O.canon (l++m)=O.canon (m++l):=
 S.canon_congr (λx D=>(Zs.1 D).elim (h x) (A x)) λx=>by simp[or_comm]
theorem Semi.canon_right (S:O.Semi G) {l m:List α} (h:∀x∈l,G x) (A:∀x∈m,G x):O.canon (l++O.canon m)=O.canon (l++m):=by
 rw[S.canon_comm h (S.canon_good A),canon_left,S.canon_comm h A]
end Ord
end
section
namespace IsCmp
variable {α:Type} {c:α→α→Int} (h:IsCmp c)
include h
end IsCmp
theorem Zcq (x y:Int) (ka kb:ByteArray):laterB (iCmp x y) ka kb=true↔(if iCmp x y=0 then sCmp ka kb else iCmp x y)<0:=by
 unfold laterB;simp only[Ik,ZG,ZT];by_cases h:iCmp x y=0
 ·rw[Zi h,ZhK];simp[h]
 ·rw[Ze h];simp[h]
end
section
variable {l s:List UInt8} {α:Type}
theorem Zdp:((List.range 256).all λi=>(List.range 256).all λj=> !(qB (UInt8.ofNat i)).isPrefixOf (qB (UInt8.ofNat j))||i==j)=true:=by decide+kernel
theorem ZeH (b c:UInt8) (h:qB b<+:qB c):b=c:=by
 have D:=Z6.1 Zdp b.toNat (Ub.2 b.toNat_lt);have A:=Z6.1 D c.toNat (Ub.2 c.toNat_lt);simp only[UInt8.ofNat_toNat,Ik,Jl,JI] at A;rcases A with A|A
 ·rw[List.isPrefixOf_iff_prefix.2 h] at A;cases A
 ·exact Xc.1 A
theorem Znz {b c:UInt8} {x y:List UInt8} (h:qB b++x=qB c++y):b=c/\x=y:=by
 have F:qB b<+:qB c++y:=⟨x,h⟩;have H:qB c<+:qB c++y:=⟨y,rfl⟩;have D:b=c:=by
  rcases List.prefix_or_prefix_of_prefix F H with A|A
  ·exact ZeH b c A
  ·exact (ZeH c b A).symm
 subst D;exact ⟨rfl,List.append_cancel_left h⟩
theorem Zhy:((List.range 256).all λi=>(qB (UInt8.ofNat i)).head? !=some 34 && (qB (UInt8.ofNat i)).head?.isSome)=true:=by decide+kernel
theorem Zj2 (b:UInt8) (x y:List UInt8):qB b++x≠34::y:=by
 intro h;have A:=Z6.1 Zhy b.toNat (Ub.2 b.toNat_lt);simp only[UInt8.ofNat_toNat,ZG,Xk,ne_eq] at A;cases hq:qB b with
 |nil=>rw[hq] at A;simp at A
 |cons c t=>rw[hq] at h A;simp only[ZX,Xb] at h;rw[h.1] at A;simp at A
theorem Zb5:∀(l m r s:List UInt8),l.flatMap qB++34::r=m.flatMap qB++34::s->l=m/\r=s
 | [],[],r,s,h=>by simpa using h
 | [],c::m,r,s,h=>by
  simp only[List.flatMap_nil,Z7,YV,Zt] at h
  exact absurd h.symm (Zj2 c _ _)
 |b::l,[],r,s,h=>by
  simp only[List.flatMap_nil,Z7,YV,Zt] at h
  exact absurd h (Zj2 b _ _)
 |b::l,c::m,r,s,h=>by
  simp only[YV,Zt] at h
  obtain ⟨e1,A⟩:=Znz h
  obtain ⟨e2,D⟩:=Zb5 l m r s A
  exact ⟨by rw[e1,e2],D⟩
theorem XO {m r:List UInt8} (h:quoteL l++r=quoteL m++s):l=m/\r=s:=by
 unfold quoteL at h;simp only[ZX,Zt,Xb,true_and,Z7] at h;exact Zb5 l m r s h
theorem QP (l r:List UInt8):∃t,quoteL l++r=34::t:=⟨_,rfl⟩
theorem IC:∀(p q:List (List UInt8)) (r s:List UInt8),commas (p.map quoteL)++93::r=commas (q.map quoteL)++93::s->p=q/\r=s
 | [],[],r,s,h=>by simpa [commas] using h
 | [],[a],r,s,h=>by
  obtain ⟨t,A⟩:=QP a (93::s)
  simp only[Z2,Zw,commas,Z7,A] at h
  simp at h
 | [],a::b::q,r,s,h=>by
  obtain ⟨t,A⟩:=QP a (44::(commas ((b::q).map quoteL)++93::s))
  simp only[Zw] at A
  simp only[Z2,Zw,commas,Z7,Zt,ZX] at h
  rw[A] at h
  simp at h
 | [a],[],r,s,h=>by
  obtain ⟨t,A⟩:=QP a (93::r)
  simp only[Z2,Zw,commas,Z7,A] at h
  simp at h
 |a::b::p,[],r,s,h=>by
  obtain ⟨t,A⟩:=QP a (44::(commas ((b::p).map quoteL)++93::r))
  simp only[Zw] at A
  simp only[Z2,Zw,commas,Z7,Zt,ZX] at h
  rw[A] at h
  simp at h
 | [a],[b],r,s,h=>by
  simp only[Z2,Zw,commas] at h
  obtain ⟨e1,D⟩:=XO h
  simp only[Xb,true_and] at D
  exact ⟨by rw[e1],D⟩
 | [a],b::c::q,r,s,h=>by
  simp only[Z2,Zw,commas,Zt,ZX] at h
  obtain ⟨_,h⟩:=XO h
  simp at h
 |a::c::p,[b],r,s,h=>by
  simp only[Z2,Zw,commas,Zt,ZX] at h
  obtain ⟨_,h⟩:=XO h
  exact absurd (List.cons.inj h).1 (by decide)
 |a::c::p,b::d::q,r,s,h=>by
  simp only[Zw,commas,Zt,ZX] at h
  obtain ⟨e1,D⟩:=XO h
  simp only[Xb,true_and] at D
  obtain ⟨e,F⟩:=IC (c::p) (d::q) r s D
  exact ⟨by rw[e1,e],F⟩
def goodE (e:Ent):Prop:=vld e.id=true/\vld e.title=true/\vld e.link=true/\vld e.content=true
theorem Km {e:Ent} (h:goodE e):entryKey e=str (jtext (entJ e)):=by
 obtain ⟨A,D,F,H⟩:=h;unfold vld at A D F H;unfold entryKey jwrite;rw[Zi];unfold entJ;rw[QG];simp[jvalid,A,D,F,H]
theorem Zfc {a b:Ent} (D:goodE a) (F:goodE b) (A:a.upd=b.upd) (h:entryKey a=entryKey b):a=b:=by
 rw[Km D,Km F] at h;have h:=ZfO h;unfold entJ at h;rw[J7,J7] at h;simp only[Zw,Z2,K1,Zcl,commas,Xb,true_and,Zt,ZX] at h;obtain ⟨e1,h⟩:=XO h;simp only[Xb,true_and] at h;obtain ⟨e2,h⟩:=XO h;simp only[Xb,true_and] at h;obtain ⟨e3,h⟩:=XO h;simp only[Xb,true_and] at h;obtain ⟨e4,h⟩:=XO h;cases a;cases b;simp only at e1 e2 e3 e4 A;rw[JA e1,JA e2,JA e3,JA e4,A]
theorem Zgt {a b:Fd} (F:goodH a) (H:goodH b) (J:a.upd=b.upd) (h:feedKey a=feedKey b):hdr a=hdr b:=by
 rw[IG F,IG H] at h;have h:=ZfO h;unfold feedJ at h;rw[J7,J7] at h;simp only[Zw,Z2,K1,Zcl,J7,JR,commas,Xb,true_and,Zt,ZX] at h;have A:∀p:List ByteArray,p.map (jtext∘JV.str)=(p.map λs=>s.data.toList).map quoteL:=by intro p;rw[JR];exact List.map_congr_left λs _=>K1 s
 rw[A,A] at h;obtain ⟨D,h⟩:=IC _ _ _ _ h;simp only[Z7,Xb,true_and] at h;obtain ⟨e1,h⟩:=XO h;simp only[Xb,true_and] at h;obtain ⟨e2,h⟩:=XO h;simp only[Xb,true_and] at h;obtain ⟨e3,h⟩:=XO h;have I:a.path=b.path:=List.map_inj_right (f:=λs:ByteArray=>s.data.toList) (λ_ _=>JA)|>.1 D;cases a;cases b;simp only[hdr] at*;rw[I,JA e1,JA e2,JA e3,J]
def pk {α:Type} (c:α->α->Int) (a b:α):α:=if c a b<0 then b else a
theorem Zhw {c:α->α->Int} (h:IsCmp c) (a b d:α):pk c (pk c a b) d=pk c a (pk c b d):=by
 unfold pk;by_cases A:c a b<0<;>by_cases D:c b d<0
 ·simp only[Zi A,Zi D,Zi (h.lt_trans a b d A D)]
 ·simp only[Zi A,Ze D]
 ·simp only[Ze A,Zi D]
 ·have F:¬c a d<0:=by have:=h.trans d b a (by have:=h.anti b d;omega) (by have:=h.anti a b;omega);have:=h.anti a d;omega
  simp only[Ze A,Ze D,Ze F]
theorem ZoM {c:α->α->Int} (h:IsCmp c) (a b:α) (F:c a b=0->a=b):pk c a b=pk c b a:=by
 have:=h.anti a b;unfold pk;by_cases A:c a b<0
 ·rw[Zi A,Ze om]
 ·by_cases D:c b a<0
  ·rw[Ze A,Zi D]
  ·rw[Ze A,Ze D];exact F om
theorem Zj0 (c:α->α->Int) (a:α):pk c a a=a:=by unfold pk;split<;>rfl
theorem Kd (c:α->α->Int) (a b:α):pk c a b=a\/pk c a b=b:=by unfold pk;split<;>simp
def keyCmpE (a b:Ent):Int:=if iCmp a.upd b.upd=0 then sCmp (entryKey a) (entryKey b) else iCmp a.upd b.upd
def keyCmpF (a b:Fd):Int:=if iCmp a.upd b.upd=0 then sCmp (feedKey a) (feedKey b) else iCmp a.upd b.upd
theorem Zcm:IsCmp keyCmpE:=IsCmp.lex (α:=Ent) (c:=λa b=>iCmp a.upd b.upd) (d:=λa b=>sCmp (entryKey a) (entryKey b)) (Zfk.comap λe:Ent=>e.upd) (UI.comap λe:Ent=>entryKey e)
theorem Zcn:IsCmp keyCmpF:=IsCmp.lex (α:=Fd) (c:=λa b=>iCmp a.upd b.upd) (d:=λa b=>sCmp (feedKey a) (feedKey b)) (Zfk.comap λe:Fd=>e.upd) (UI.comap λe:Fd=>feedKey e)
theorem Vi (a b:Ent):laterE a b=pk keyCmpE a b:=by
 have:laterB (iCmp a.upd b.upd) (entryKey a) (entryKey b)=true↔keyCmpE a b<0:=Zcq a.upd b.upd (entryKey a) (entryKey b);unfold laterE pk;by_cases h:laterB (iCmp a.upd b.upd) (entryKey a) (entryKey b)=true
 ·rw[Zi h,Zi (this.1 h)]
 ·rw[Ze h,Ze (λk=>h (this.2 k))]
theorem Zlb (a b:Fd):laterF a b=hdr (pk keyCmpF a b):=by
 have:laterB (iCmp a.upd b.upd) (feedKey a) (feedKey b)=true↔keyCmpF a b<0:=Zcq a.upd b.upd (feedKey a) (feedKey b);show hdr (if laterB (iCmp a.upd b.upd) (feedKey a) (feedKey b) then b else a)=_;unfold pk;by_cases h:laterB (iCmp a.upd b.upd) (feedKey a) (feedKey b)=true
 ·rw[Zi h,Zi (this.1 h)]
 ·rw[Ze h,Ze (λk=>h (this.2 k))]
theorem Zef {x y:Int} (h:iCmp x y=0):x=y:=by
 unfold iCmp at h;by_cases A:x<y
 ·rw[Zi A] at h;omega
 ·rw[Ze A] at h;by_cases D:y<x
  ·rw[Zi D] at h;omega
  ·omega
theorem ZiT {a b:Ent} (D:goodE a) (F:goodE b) (h:keyCmpE a b=0):a=b:=by
 unfold keyCmpE at h;split at h
 ·rename_i A;exact Zfc D F (Zef A) (Kf h)
 ·rename_i A;exact absurd h A
theorem ZiU {a b:Fd} (D:goodH a) (F:goodH b) (h:keyCmpF a b=0):hdr a=hdr b:=by
 unfold keyCmpF at h;split at h
 ·rename_i A;exact Zgt D F (Zef A) (Kf h)
 ·rename_i A;exact absurd h A
theorem ZcR:ordE.Semi goodE where
 good a b _ ha hb:=by show goodE (laterE a b);rw[Vi];rcases Kd keyCmpE a b with h|h<;>rw[h]<;>assumption
 comm a b _ ha hb:=by show laterE a b=laterE b a;rw[Vi,Vi];exact ZoM Zcm a b (ZiT ha hb)
 assoc a b c _ _ _ _ _:=by show laterE (laterE a b) c=laterE a (laterE b c);simp only[Vi];exact Zhw Zcm a b c
 idem a _:=by show laterE a a=a;rw[Vi];exact Zj0 _ a
def goodF (f:Fd):Prop:=goodH f/\(∀e∈f.ents,goodE e)/\ordE.canon f.ents=f.ents
theorem EH (a b:Fd):keyCmpF (hdr a) b=keyCmpF a b:=rfl
theorem IP (a b:Fd):keyCmpF a (hdr b)=keyCmpF a b:=rfl
theorem ZaM (a b:Fd):hdr (pk keyCmpF (hdr a) b)=hdr (pk keyCmpF a b):=by unfold pk;rw[EH];split<;>rfl
theorem IL (a b:Fd):hdr (pk keyCmpF a (hdr b))=hdr (pk keyCmpF a b):=by unfold pk;rw[IP];split<;>rfl
theorem X3 {a b:Fd} (h:ordE.canon a.ents=a.ents):(joinF a b).ents=ordE.canon (a.ents++b.ents):=by
 show b.ents.foldl ordE.put a.ents=_;rw[ordE.canon_append,h]
theorem JL (a b:Fd):hdr (joinF a b)=hdr (pk keyCmpF a b):=by
 show hdr (laterF a b)=_;rw[Zlb];rfl
theorem ZiD {a b:Fd} (h:hdr a=hdr b) (k:a.ents=b.ents):a=b:=by
 cases a;cases b;simp only[hdr,Fd.mk.injEq] at*
 simp_all
theorem Zec (f:Fd):goodH (hdr f)↔goodH f:=Iff.rfl
theorem Zfh {a b:Fd} (h:hdr a=hdr b) (k:goodH b):goodH a:=by rw[<-Zec,h,Zec];exact k
theorem ZnJ:ordF.Semi goodF where
 good a b _ ha hb:=by
  show goodF (joinF a b);refine ⟨Zfh (JL a b) ?_,?_,?_⟩
  ·rcases Kd keyCmpF a b with h|h<;>rw[h]
   ·exact ha.1
   ·exact hb.1
  ·rw[X3 ha.2.2];exact ZcR.canon_good λx A=>(Zs.1 A).elim (ha.2.1 x) (hb.2.1 x)
  ·rw[X3 ha.2.2];exact ordE.canon_canon _
 comm a b _ ha hb:=by
  show joinF a b=joinF b a;refine ZiD ?_ ?_
  ·rw[JL,JL];have:=Zcn.anti a b;unfold pk;by_cases D:keyCmpF a b<0
   ·rw[Zi D,Ze om]
   ·by_cases H:keyCmpF b a<0
    ·rw[Ze D,Zi H]
    ·rw[Ze D,Ze H];exact ZiU ha.1 hb.1 om
  ·rw[X3 ha.2.2,X3 hb.2.2];exact ZcR.canon_comm ha.2.1 hb.2.1
 assoc a b c _ _ ha hb hc:=by
  show joinF (joinF a b) c=joinF a (joinF b c);have F:ordE.canon (joinF a b).ents=(joinF a b).ents:=by rw[X3 ha.2.2];exact ordE.canon_canon _
  refine ZiD ?_ ?_
  ·rw[JL,JL,<-ZaM,JL,ZaM,<-IL a,JL,IL];rw[Zhw Zcn]
  ·rw[X3 F,X3 ha.2.2,X3 ha.2.2,X3 hb.2.2];rw[Ord.canon_left,ZcR.canon_right ha.2.1 (λx A=>(Zs.1 A).elim (hb.2.1 x) (hc.2.1 x)),Zt]
 idem a ha:=by
  show joinF a a=a;refine ZiD ?_ ?_
  ·rw[JL,Zj0]
  ·rw[X3 ha.2.2];rw[ZcR.canon_congr (m:=a.ents) (λx A=>(Zs.1 A).elim (ha.2.1 x) (ha.2.1 x)) (by simp)];exact ha.2.2
end
section
variable {c r:Nat} {l:List UInt8}
theorem Xf (h:isChar r=true):scalar r:=by
 unfold isChar at h;unfold scalar;simp only[ZT] at h;omega
theorem Gw (h:scalar r):1<=(encN r).length:=by
 unfold scalar at h;unfold encN;rw[Ze om]
 repeat' split
 all_goals simp
theorem Qf (F:scalar r) (h:128<=r):∀c∈encN r,128<=c.toNat:=by
 unfold scalar at F;unfold encN;rw[Ze om,Ze om];intro c hc;by_cases A:r<2048
 ·rw[Zi A] at hc;simp only[ZH,ZY,Y1] at hc;rcases hc with rfl|rfl<;>rw[Y0 om]<;>omega
 ·rw[Ze A] at hc;by_cases D:r<65536
  ·rw[Zi D] at hc;simp only[ZH,ZY,Y1] at hc;rcases hc with rfl|rfl|rfl<;>rw[Y0 om]<;>omega
  ·rw[Ze D] at hc;simp only[ZH,ZY,Y1] at hc;rcases hc with rfl|rfl|rfl|rfl<;>rw[Y0 om]<;>omega
def isText (l:List UInt8):Prop:=∃rs:List Nat,(∀r∈rs,isChar r=true)/\l=rs.flatMap encN
theorem Xa:isText []:=⟨[],by simp,rfl⟩
theorem Ys {m:List UInt8} (h:isText l) (k:isText m):isText (l++m):=by
 obtain ⟨rs,A,rfl⟩:=h;obtain ⟨H,D,rfl⟩:=k;exact ⟨rs++H,λr F=>(Zs.1 F).elim (A r) (D r),by simp⟩
theorem XD (h:isChar r=true):isText (encN r):=⟨[r],by simpa using h,by simp⟩
theorem US:∀(n at_:Nat) (l:List UInt8),l.length<=n->(checkGo n at_ l).2=0->isText l
 |0,_,l,hl,_=>by
  have e:l= []:=Zm om
  rw[e];exact Xa
 |n+1,at_,l,hl,h=>by
  by_cases D:l= []
  ·subst D;exact Xa
  ·rw[Vn n at_ l D] at h
   by_cases A:(dec l).2=0
   ·rw[Zi A] at h;simp at h
   ·rw[Ze A] at h
    by_cases hc:isChar (dec l).1=false
    ·rw[Zi hc] at h;simp at h
    ·rw[Ze hc] at h
     have F:=G2 (l:=l) (r:=(dec l).1) (m:=(dec l).2) rfl A
     rw[F]
     refine Ys (XD (by simpa using hc)) (US n _ _ ?_ h)
     rw[Zk];omega
theorem ZbL:∀(rs:List Nat) (n at_:Nat),(∀r∈rs,isChar r=true)->(rs.flatMap encN).length<=n->(checkGo n at_ (rs.flatMap encN)).2=0
 | [],n,at_,_,_=>by rw[List.flatMap_nil,ZdL]
 |r::rs,n,at_,h,hl=>by
  have A:isChar r=true:=h r (by simp)
  have F:=Gw (Xf A)
  have D:=ZrC (Xf A) (rs.flatMap encN)
  rw[YV] at hl|-
  rw[Zb] at hl
  obtain ⟨n,rfl⟩:∃k,n=k+1:=⟨n - 1,om⟩
  rw[Vn n at_ _ (by intro e;have:=Zz List.length e;rw[Zb,ZK] at this;omega),D]
  rw[Ze (by simp only[];omega),Ze (by simp[A])]
  simp only[List.drop_left]
  exact ZbL rs n _ (λr A=>h r (by simp[A])) om
theorem Vd (l:List UInt8):(check l).2=0↔isText l:=
 ⟨US _ _ _ (Zc _),λ⟨rs,h,e⟩=>by subst e;exact ZbL rs _ _ h (Zc _)⟩
theorem Zjz (h:isText l):Lib.validD l=true:=by
 obtain ⟨rs,h,rfl⟩:=h
 induction rs with
 |nil=>rfl
 |cons r rs ih=>have A:isChar r=true:=h r (by simp);have H:=Gw (Xf A);have F:=ZrC (Xf A) (rs.flatMap encN);rw[YV];have D:=ZnW (encN r++rs.flatMap encN) 0 (by rw[Zb];omega);rw[Jm,F,Ze (by simp only[];omega),YI,List.drop_left] at D;rw[D];exact ih λr A=>h r (by simp[A])
theorem Zk5 (h:128<=c):isSp (c:Int)=false:=by
 unfold isSp;simp only[X9];omega
theorem ZbO:∀(bs rest out:List UInt8) (g:Bool),bs≠ []->(∀c∈bs,isSp c.toNat=false)->collGo (bs++rest) out g=collGo rest (out++(if g then [32] else [])++bs) false
 | [],_,_,_,h,_=>absurd rfl h
 | [c],rest,out,g,_,h=>by
  show collGo (c::rest) out g=_
  rw[collGo,Ze (by simp[h c (by simp)])]
 |c::d::bs,rest,out,g,_,h=>by
  show collGo (c::((d::bs)++rest)) out g=_
  rw[collGo,Ze (by simp[h c (by simp)]),ZbO (d::bs) rest _ false (by simp) λx A=>h x (by simp only[ZH] at A|-;exact Or.inr A)]
  simp
theorem Gl:∀(rs:List Nat) (out:List UInt8) (g:Bool),(∀r∈rs,isChar r=true)->isText out->isText (collGo (rs.flatMap encN) out g)
 | [],out,g,_,h=>by rw[List.flatMap_nil];exact h
 |r::rs,out,g,hr,h=>by
  have H:isChar r=true:=hr r (by simp)
  have J:=Xf H
  rw[YV]
  by_cases F:r<128/\isSp r=true
  ·rw[X2 F.1]
   show isText (collGo (UInt8.ofNat r::rs.flatMap encN) out g)
   rw[collGo,Zi (by rw[Y0 om];exact F.2)]
   exact Gl rs out _ (λr D=>hr r (by simp[D])) h
  ·have A:∀c∈encN r,isSp c.toNat=false:=by
    by_cases I:r<128
    ·rw[X2 I]
     intro c hc
     simp only[ZH,ZY,Y1] at hc
     subst hc
     rw[Y0 om]
     cases hb:isSp (r:Int) with
     |false=>rfl
     |true=>exact absurd ⟨I,hb⟩ F
    ·exact λc hc=>Zk5 (Qf J om c hc)
   rw[ZbO _ _ _ _ (by intro e;have:=Gw J;rw[e] at this;simp at this) A]
   refine Gl rs _ _ (λr D=>hr r (by simp[D])) (Ys (Ys h ?_) (XD H))
   cases g
   ·exact Xa
   ·exact ⟨[32],by simp[isChar],rfl⟩
theorem Zkl (h:isText l):isText (coll l):=by
 obtain ⟨rs,h,rfl⟩:=h;exact Gl rs [] false h Xa
def Fixed (out:List UInt8):Prop:=∀rest,collGo (out++rest) [] false=collGo rest out false
theorem Qv:∀(l out:List UInt8) (g:Bool),Fixed out->(g=true->out≠ [])->Fixed (collGo l out g)
 | [],out,g,h,_=>h
 |c::t,out,g,h,hg=>by
  unfold collGo
  by_cases hc:isSp c.toNat=true
  ·rw[Zi hc]
   refine Qv t out _ h λe=> ?_
   simpa using e
  ·rw[Ze hc]
   refine Qv t _ false ?_ (by simp)
   intro rest
   cases g with
   |false=>
    simp only[YR,U4,ZV,Zt,ZX,Z7]
    rw[h,collGo,Ze hc]
    simp
   |true=>
    have A:out.isEmpty=false:=(by simpa using hg rfl)
    simp only[Us,Zt,ZX,Z7]
    rw[h,collGo,Zi (by decide),A,collGo,Ze hc]
    simp
theorem Zkk (l:List UInt8):coll (coll l)=coll l:=by
 have h:=Qv l [] false (λrest=>rfl) (by simp) [];rw[ZV] at h;exact h
theorem Iz (s:ByteArray):collapse (collapse s)=collapse s:=by
 unfold collapse;rw[Z3,Zkk]
theorem Za8 {s:ByteArray} (h:(checkS s).2=0):(checkS (collapse s)).2=0:=by
 unfold checkS collapse at*;rw[Z3,Vd];exact Zkl ((Vd _).1 h)
theorem GQ {s:ByteArray} (h:(checkS s).2=0):validS (collapse s)=true:=by
 unfold validS;rw[Za8 h,Iz];simp
theorem ZdB {s:ByteArray} (h:(checkS s).2=0):Lib.validD s.data.toList=true:=Zjz ((Vd _).1 h)
end
section
variable {f:Fd} {α κ:Type}
section
variable {α κ:Type} [DecidableEq κ] {ok:α→Bool} {O:Ord α κ}
end
theorem GR {s:ByteArray} (h:validS s=true):vld s=true:=ZdB (VI h)
theorem Vp {e:Ent} (h:okE e=true):goodE e:=by
 have h:=(Zfu.1 h).1;exact ⟨GR (h _ (by simp[strsE])),GR (h _ (by simp[strsE])),GR (h _ (by simp[strsE])),GR (h _ (by simp[strsE]))⟩
theorem Znj (h:okH f=true):goodH f:=by
 have h:=(Jf.1 h).2.1;exact ⟨λp A=>GR (h p (by simp[strsF,A])),GR (h _ (by simp[strsF])),GR (h _ (by simp[strsF])),GR (h _ (by simp[strsF]))⟩
theorem En [DecidableEq κ] {ok:α->Bool} {O:Ord α κ} {l:List α} (h:∀x∈O.canon l,ok x=true):okL ok O (O.canon l)=true:=
 JM.2 ⟨h,(O.canon_is l).1,(O.canon_is l).ids⟩
theorem Qj (h:okF f=true):goodF f:=by
 have h:=XW.1 h;exact ⟨Znj h.1,λe A=>Vp ((JM.1 h.2).1 e A),Kc h.2⟩
theorem ZnI:ordE.Semi (λe=>okE e=true) where
 good a b _ ha hb:=by show okE (laterE a b)=true;rw[Vi];rcases Kd keyCmpE a b with h|h<;>rw[h]<;>assumption
 comm a b h ha hb:=ZcR.comm a b h (Vp ha) (Vp hb)
 assoc a b c h k ha hb hc:=ZcR.assoc a b c h k (Vp ha) (Vp hb) (Vp hc)
 idem a ha:=ZcR.idem a (Vp ha)
theorem ZjW (f:Fd):okH (hdr f)=okH f:=rfl
theorem Zjf {a b:Fd} (h:hdr a=hdr b) (k:okH b=true):okH a=true:=by rw[<-ZjW,h,ZjW];exact k
theorem Zni {a b:Fd} (F:okF a=true) (H:okF b=true):okF (joinF a b)=true:=by
 have A:=XW.1 F;have D:=XW.1 H;refine XW.2 ⟨Zjf (JL a b) ?_,?_⟩
 ·rcases Kd keyCmpF a b with h|h<;>rw[h]
  ·exact A.1
  ·exact D.1
 ·rw[X3 (Kc A.2)];refine En (ZnI.canon_good λx I=> ?_);rcases Zs.1 I with h|h
  ·exact (JM.1 A.2).1 x h
  ·exact (JM.1 D.2).1 x h
theorem ZpA:ordF.Semi (λf=>okF f=true) where
 good a b _ ha hb:=Zni ha hb
 comm a b h ha hb:=ZnJ.comm a b h (Qj ha) (Qj hb)
 assoc a b c h k ha hb hc:=ZnJ.assoc a b c h k (Qj ha) (Qj hb) (Qj hc)
 idem a ha:=ZnJ.idem a (Qj ha)
theorem Zng {e:Ent} (h:errE e=0):okE (collE e)=true:=by
 obtain ⟨A,F,H⟩:=Ew.1 h;have A:=JT.1 A;refine Zfu.2 ⟨λs D=> ?_,F,H⟩;have:∃t∈strsE e,s=collapse t:=by
  simp only[strsE,collE,ZH,ZY,Y1] at D|-;rcases D with rfl|rfl|rfl|rfl
  ·exact ⟨_,Or.inl rfl,rfl⟩
  ·exact ⟨_,Or.inr (Or.inl rfl),rfl⟩
  ·exact ⟨_,Or.inr (Or.inr (Or.inl rfl)),rfl⟩
  ·exact ⟨_,Or.inr (Or.inr (Or.inr rfl)),rfl⟩
 obtain ⟨t,I,rfl⟩:=this;exact GQ (A t I)
theorem Znh (h:errF f=0):okF (collF f)=true:=by
 obtain ⟨J,D⟩:=ZdV.1 h;obtain ⟨A,K,Q,R,S⟩:=Zce.1 J;have A:=JT.1 A;have D:=KT.1 D;refine XW.2 ⟨Jf.2 ⟨by simpa [collF] using R,λs I=> ?_,K,S,λp F=> ?_⟩,En (ZnI.canon_good λx V=> ?_)⟩
 ·have:∃t∈strsF f,s=collapse t:=by
   simp only[strsF,collF,Zs,ZU,ZH,ZY,Y1] at I|-;rcases I with ⟨p,F,rfl⟩|rfl|rfl|rfl
   ·exact ⟨p,Or.inl F,rfl⟩
   ·exact ⟨_,Or.inr (Or.inl rfl),rfl⟩
   ·exact ⟨_,Or.inr (Or.inr (Or.inl rfl)),rfl⟩
   ·exact ⟨_,Or.inr (Or.inr (Or.inr rfl)),rfl⟩
  obtain ⟨t,U,rfl⟩:=this;exact GQ (A t U)
 ·obtain ⟨q,H,rfl⟩:=ZU.1 F;exact Q q H
 ·obtain ⟨q,H,rfl⟩:=ZU.1 V;exact Zng (D q H)
theorem Znf {l:List Fd} (h:errFs l=0):okA (ordF.canon (l.map collF))=true:=by
 have h:=QD.1 h;refine En (ZpA.canon_good λx D=> ?_);obtain ⟨q,A,rfl⟩:=ZU.1 D;exact Znh (h q A)
end
theorem ZeT (path:List ByteArray):visKs [] path= .ok []:=by rw[visKs]
section
variable {i k n r:Nat} {l s t:List UInt8}
theorem JH {x r:List UInt8} (h:s.drop k=x++r):s.drop (k+x.length)=r:=by
 rw[<-List.drop_drop,h,List.drop_left]
theorem U6 {r:List UInt8} {c:UInt8} (h:s.drop k=c::r):s.drop (k+1)=r:=JH (x:= [c]) h
theorem GD {r:List UInt8} {c:UInt8} (h:s.drop k=c::r):k<s.length:=by
 rcases Y9 k s.length with A|A
 ·exact A
 ·rw[ZC A] at h;cases h
theorem Zjl {x:List UInt8} (h:s.drop k=x) (A:k<=s.length):k+x.length=s.length:=by
 have:=Zz List.length h;rw[Zk] at this;omega
theorem Zj1 {x r:List UInt8} (h:s.drop k=x++r) (A:k<=s.length):k+x.length<=s.length:=by
 have:=Zjl h A;rw[Zb] at this;omega
theorem VL {r:List UInt8} (h:s.drop k=t++r):hasAt s k t=true:=by
 unfold hasAt;rw[h,List.isPrefixOf_iff_prefix];exact List.prefix_append _ _
theorem UQ {r:List UInt8} {c d:UInt8} (h:s.drop k=c::r) (A:d≠c):hasAt s k (d::t)=false:=by
 unfold hasAt;rw[h];have:(d==c)=false:=by simpa using A
 simp[List.isPrefixOf,this]
theorem Uh {r:List UInt8} {c c2 d A:UInt8} (h:s.drop k=c::c2::r) (D:A≠c2):hasAt s k (d::A::t)=false:=by
 unfold hasAt;rw[h];have:(A==c2)=false:=by simpa using D
 simp[List.isPrefixOf,this]
theorem Eb {r:List UInt8} {c:UInt8} (h:s.drop k=c::r) (hc:isSp c.toNat=false):spAt s k=k:=by
 unfold spAt;rw[h,Yi,Ze (by rw[hc];simp)];rfl
theorem ZpB {r:List UInt8} {c:UInt8} (h:s.drop k=32::c::r) (hc:isSp c.toNat=false):spAt s k=k+1:=by
 unfold spAt;rw[h,Yi,Zi (by decide),Yi,Ze (by rw[hc];simp)];rfl
theorem Iv (c:UInt8):UInt8.ofNat c.toNat=c:=by simp
theorem Es {c:UInt8} (t:List UInt8) (h:c.toNat<128):dec (c::t)=(c.toNat,1):=by
 have A:=ZrC (r:=c.toNat) (Or.inl om) t;rw[X2 h,Iv] at A;exact A
theorem Zcw {b:Bool} (h:nmOk true false r=false):nmOk true b r=false:=by
 cases b with
 |false=>exact h
 |true=>unfold nmOk nmChar at h;unfold nmOk;simp only[Bool.or_eq_false_iff,YR,U4] at h;simp only[Us,Bool.or_eq_false_iff];exact ⟨h.1,h.2.1⟩
def ends (c:UInt8):Prop:=c.toNat<128/\nmOk true false c.toNat=false
theorem Znc {c:UInt8} (hc:ends c) (r:List UInt8):∀(f:Nat) (first:Bool) (l:List UInt8),nmGo true f first l=l.length->l.length<=f->∀g,l.length<g->nmGo true g first (l++c::r)=l.length
 |0,first,l,_,hl,g,hg=>by
  have:l= []:=Zm om
  subst this
  refine Js (Or.inr (Or.inr ?_))
  rw[Z7,Es r hc.1]
  exact Zcw hc.2
 |f+1,first,l,h,hl,g,hg=>by
  by_cases I:l= []
  ·subst I
   refine Js (Or.inr (Or.inr ?_))
   rw[Z7,Es r hc.1]
   exact Zcw hc.2
  ·have J:0<l.length:=Xt.2 I
   have A:(dec l).2≠0/\nmOk true first (dec l).1=true:=by
    by_cases H:l= []\/(dec l).2=0\/nmOk true first (dec l).1=false
    ·rw[Js H] at h
     omega
    ·refine ⟨λe=>H (Or.inr (Or.inl e)),?_⟩
     cases hk:nmOk true first (dec l).1 with
     |true=>rfl
     |false=>exact absurd (Or.inr (Or.inr hk)) H
   have D:=(Ze9 (c::r) A.1).1
   have F:=Ug l
   rw[Ut A.1 A.2] at h
   obtain ⟨g,rfl⟩:∃m,g=m+1:=⟨g - 1,om⟩
   rw[Ut (by rw[D];exact A.1) (by rw[D];exact A.2),D,List.drop_append_of_le_length F]
   have K:=Znc hc r f false (l.drop (dec l).2) (by rw[Zk];omega) (by rw[Zk];omega) g (by rw[Zk];omega)
   rw[K,Zk]
   omega
theorem KY (h:isQ l=true):0<l.length/\nmGo true l.length true l=l.length:=by
 unfold isQ nmLen at h;simpa using h
theorem Znd {n r:List UInt8} {c:UInt8} (A:isQ n=true) (hc:ends c) (h:s.drop k=n++c::r):nmAt s k=k+n.length:=by
 unfold nmAt nmLen;rw[h,Znc hc r n.length true n (KY A).2 (Zc _) _ (by rw[Zb,Zd];omega)]
theorem ZgS {c:UInt8} (h:isQ (c::t)=true):c≠63/\c≠33/\c≠47/\isSp c.toNat=false/\c≠62:=by
 have F:=(KY h).2;have A:∀d:UInt8,d.toNat<128->nmOk true true d.toNat=false->c≠d:=λd H I e=>by subst e;rw[Js (Or.inr (Or.inr (by rw[Es t H];exact I))),Zd] at F;omega
 refine ⟨A 63 (by decide) (by decide),A 33 (by decide) (by decide),A 47 (by decide) (by decide),?_,A 62 (by decide) (by decide)⟩;have D:=A 32 (by decide) (by decide);have a2:=A 9 (by decide) (by decide);have a3:=A 10 (by decide) (by decide);have a4:=A 13 (by decide) (by decide);unfold isSp;rw[X9];intro e;have hc:∀n:Nat,n<256->(c.toNat:Int)=n->c=UInt8.ofNat n:=λn J e=>by
  have:c.toNat=n:=om
  rw[<-this,Iv]
 rcases e with e|e|e|e
 ·exact D (hc 32 (by decide) e)
 ·exact a2 (hc 9 (by decide) e)
 ·exact a3 (hc 10 (by decide) e)
 ·exact a4 (hc 13 (by decide) e)
theorem ZgQ (h:isQ l=true):∃c t,l=c::t:=by
 cases l with
 |nil=>exact absurd (KY h).1 (by simp)
 |cons c t=>exact ⟨c,t,rfl⟩
theorem ZeV (v:Bool) (c:UInt8) (h:wescB v c≠ []):∃x:List UInt8,wescB v c=38::(x++ [59])/\(∀d∈x,(d !=59)=true)/\refRune x=some c.toNat/\isChar (c.toNat:Int)=true/\c.toNat<128:=by
 unfold wescB at h|-;by_cases A:c=38
 ·subst A;exact ⟨[97,109,112],rfl,by decide,by decide,by decide,by decide⟩
 rw[Ze A] at h|-;by_cases D:c=60
 ·subst D;exact ⟨[108,116],rfl,by decide,by decide,by decide,by decide⟩
 rw[Ze D] at h|-;by_cases F:c=62
 ·subst F;exact ⟨[103,116],rfl,by decide,by decide,by decide,by decide⟩
 rw[Ze F] at h|-;by_cases H:c=13
 ·subst H;exact ⟨[35,49,51],rfl,by decide,by decide,by decide,by decide⟩
 rw[Ze H] at h|-;by_cases I:v=false
 ·rw[Zi I] at h;exact absurd rfl h
 rw[Ze I] at h|-;by_cases J:c=34
 ·subst J;exact ⟨[113,117,111,116],rfl,by decide,by decide,by decide,by decide⟩
 rw[Ze J] at h|-;by_cases K:c=9
 ·subst K;exact ⟨[35,57],rfl,by decide,by decide,by decide,by decide⟩
 rw[Ze K] at h|-;by_cases Q:c=10
 ·subst Q;exact ⟨[35,49,48],rfl,by decide,by decide,by decide,by decide⟩
 rw[Ze Q] at h;exact absurd rfl h
theorem Uz {v:Bool} {c:UInt8} (h:wescB v c= []):c≠38/\c≠60/\c≠62/\c≠13/\(v=true->c≠34/\c≠9/\c≠10):=by
 unfold wescB at h;by_cases A:c=38
 ·rw[Zi A] at h;cases h
 rw[Ze A] at h;by_cases D:c=60
 ·rw[Zi D] at h;cases h
 rw[Ze D] at h;by_cases F:c=62
 ·rw[Zi F] at h;cases h
 rw[Ze F] at h;by_cases H:c=13
 ·rw[Zi H] at h;cases h
 rw[Ze H] at h;refine ⟨A,D,F,H,λQ=> ?_⟩;rw[Ze (by rw[Q];simp)] at h;by_cases I:c=34
 ·rw[Zi I] at h;cases h
 rw[Ze I] at h;by_cases J:c=9
 ·rw[Zi J] at h;cases h
 rw[Ze J] at h;by_cases K:c=10
 ·rw[Zi K] at h;cases h
 exact ⟨I,J,K⟩
theorem Zc3 (v:Bool):∀a b:List UInt8,wescL v (a++b)=wescL v a++wescL v b
 | [],b=>rfl
 |c::t,b=>by
  show wescC v c++wescL v (t++b)=(wescC v c++wescL v t)++wescL v b
  rw[Zc3 v t b,Zt]
theorem Ig {v:Bool}:∀{l:List UInt8},(∀c∈l,wescB v c= [])->wescL v l=l
 | [],_=>rfl
 |c::t,h=>by
  show wescC v c++wescL v t=c::t
  unfold wescC
  rw[Zi (h c Zx),Ig λd A=>h d (Zn _ A)]
  rfl
theorem Zc5 {v:Bool}:∀{l:List UInt8},∀d∈wescL v l,d≠60/\d≠62/\(v=true->d≠34)
 | [],d,h=>by cases h
 |c::t,d,h=>by
  have H:d∈wescC v c++wescL v t:=h
  rcases Zs.1 H with A|A
  ·unfold wescC at A
   by_cases F:wescB v c= []
   ·rw[Zi F,Zo] at A
    subst A
    have:=Uz F
    exact ⟨this.2.1,this.2.2.1,λI=>(this.2.2.2.2 I).1⟩
   ·rw[Ze F] at A
    have D:∀e∈wescB v c,e≠60/\e≠62/\e≠34:=by
     unfold wescB
     repeat' split
     all_goals decide
    have:=D d A
    exact ⟨this.1,this.2.1,λ_=>this.2.2⟩
  ·exact Zc5 d A
theorem Zh7 {v:Bool} (h:wescL v l= []):l= []:=by
 cases l with
 |nil=>rfl
 |cons c t=>
  have A:wescC v c++wescL v t= []:=h;unfold wescC at A;by_cases D:wescB v c= []
  ·rw[Zi D] at A;cases A
  ·rw[Ze D] at A;exact absurd (List.append_eq_nil_iff.1 A).1 D
theorem Qp {p:UInt8->Bool}:∀{x r:List UInt8},(∀d∈x,p d=true)->(∀c t,r=c::t->p c=false)->(x++r).takeWhile p=x
 | [],r,_,hr=>by
  cases r with
  |nil=>rfl
  |cons c t=>rw[Z7,Yi,Ze (by rw[hr c t rfl];simp)]
 |d::x,r,h,hr=>by rw[ZX,Yi,Zi (h d Zx),Qp (λe A=>h e (Zn _ A)) hr]
theorem Zpy {z x r:List UInt8} (h:z.drop i=38::(x++ [59])++r) (F:∀d∈x,(d !=59)=true) (A:refRune x=some n) (hc:isChar (n:Int)=true):refAt z i=some (n,i+x.length+2):=by
 unfold refAt;dsimp only;rw[h];have D:((38::(x++ [59])++r:List UInt8).tail.takeWhile λc=>c !=59)=x:=by show ((x++ [59]++r).takeWhile λc=>c !=59)=x;rw[Zt];exact Qp F λc t e=>by injection e with e _;subst e;rfl
 rw[D,Zi (show (38::(x++ [59])++r:List UInt8).head? =some 38 from rfl),Zi (by simp only[ZX,Zd,Zb,ZK];omega),A];dsimp only;rw[Zi hc]
theorem Zem:∀{l:List UInt8},(∀c∈l,c≠13)->lns l=l
 | [],_=>rfl
 | [c],h=>by rw[lns,Ze (h c Zx)]
 |c::d::r,h=>by
  have hc:=h c Zx
  rw[lns,Ze (λe=>hc e.1),Ze hc,Zem λe A=>h e (Zn _ A)]
theorem Ec:∀{l:List UInt8},(∀c∈l,c≠13/\c≠9/\c≠10)->spaced l=l
 | [],_=>rfl
 |c::t,h=>by
  unfold spaced at*
  have hc:=h c Zx
  have ih:=Ec (l:=t) λe F=>h e (Zn _ F)
  unfold spaced at ih
  rw[Zw,ih]
  split
  ·rename_i D
   unfold isSp at D
   rw[ZT] at D
   have A:∀n:Nat,n<256->(c.toNat:Int)=n->c=UInt8.ofNat n:=λn H e=>by
    have:c.toNat=n:=om
    rw[<-this,Iv]
   rcases D with e|e|e|e
   ·rw[A 32 (by decide) e];rfl
   ·exact absurd (A 9 (by decide) e) hc.2.1
   ·exact absurd (A 10 (by decide) e) hc.2.2
   ·exact absurd (A 13 (by decide) e) hc.1
  ·rfl
theorem ZhS (p:UInt8->Bool) (l:List UInt8):∃a b,l=a++b/\(∀c∈a,p c=true)/\(b= []\/∃c t,b=c::t/\p c=false):=by
 induction l with
 |nil=>exact ⟨[],[],rfl,(by intro c h;cases h),Or.inl rfl⟩
 |cons c t ih=>
  cases hp:p c with
  |false=>exact ⟨[],c::t,rfl,(by intro c h;cases h),Or.inr ⟨c,t,rfl,hp⟩⟩
  |true=>
   obtain ⟨a,b,D,F,H⟩:=ih;refine ⟨c::a,b,by rw[D];rfl,λd A=> ?_,H⟩;rcases ZH.1 A with A|A
   ·rw[A];exact hp
   ·exact F d A
theorem Er (v:Bool) (s:List UInt8):∀(n:Nat) (t:List UInt8),t.length<n->∀(i J:Nat) (r out:List UInt8),s.drop i=wescL v t++r->J=i+(wescL v t).length->J<=s.length->contAt v s J i out= .ok (out++t)
 |0,t,h,_,_,_,_,_,_,_=>by omega
 |n+1,t,h,i,J,r,out,hd,hto,hle=>by
  obtain ⟨a,b,rfl,ha,hb⟩:=ZhS (λc=>decide (wescB v c= [])) t
  have D:∀c∈a,wescB v c= []:=λc hc=>by simpa using ha c hc
  rw[Zb] at h
  rw[Zc3,Ig D] at hd hto
  rw[Zb] at hto
  have A:(s.take J).drop i=a++wescL v b:=by rw[List.drop_take,hd,show J - i=(a++wescL v b).length by rw[Zb];omega,List.take_left]
  by_cases H:a= []
  ·subst H
   rcases hb with rfl|⟨c,t',rfl,hc⟩
   ·rw[ZbQ (by rw[hto];simp[wescL])]
    simp
   ·have F:wescB v c≠ []:=(by simpa using hc)
    obtain ⟨x,I,V,X,Y,Z⟩:=ZeV v c F
    have U:wescL v (c::t')=38::(x++ [59])++wescL v t':=by
     show wescC v c++wescL v t'=_
     unfold wescC
     rw[Ze F,I]
    rw[Z7] at A hd|-
    rw[U] at hd A hto
    have hl:(38::(x++ [59])++wescL v t':List UInt8).length=x.length+2+(wescL v t').length:=(by simp only[ZX,Zd,Zb,ZK];omega)
    rw[hl] at hto
    rw[ZK] at hto h
    rw[Zd] at h
    rw[ZbR hle om (by rw[hd];rfl) (Zpy A V X Y)]
    have R:s.drop (i+x.length+2)=wescL v t'++r:=by
     have:=JH (x:=38::(x++ [59])) (by rw[hd,Zt])
     rw[<-this]
     congr 1
     simp only[Zd,Zb,ZK];omega
    rw[Er v s n t' om _ _ r _ R om hle,X2 Z,Iv]
    simp
  ·have he:0<a.length:=Xt.2 H
   have hh:(s.drop i).head?≠some 38:=by
    rw[hd]
    cases a with
    |nil=>exact absurd rfl H
    |cons c a=>
     intro e
     have Q:some c=some 38:=e
     injection Q with Q
     exact (Uz (D c Zx)).1 Q
   have hp:plainAt s J i=a:=by
    unfold plainAt
    rw[A]
    refine Qp (λc hc=>by have:=(Uz (D c hc)).1;simpa using this) λc t0 e=> ?_
    rcases hb with rfl|⟨K,t',rfl,hc⟩
    ·cases e
    ·have F:wescB v K≠ []:=(by simpa using hc)
     obtain ⟨x,I, -⟩:=ZeV v K F
     have U:wescL v (K::t')=38::(x++ [59])++wescL v t':=by
      show wescC v K++wescL v t'=_
      unfold wescC
      rw[Ze F,I]
     rw[U] at e
     injection e with e _
     subst e
     rfl
   rw[ID hle om hh,hp,Zem λc hc=>(Uz (D c hc)).2.2.2.1]
   have S:(if v=true then spaced a else a)=a:=by
    split
    ·rename_i hv
     exact Ec λc hc=>⟨(Uz (D c hc)).2.2.2.1,((Uz (D c hc)).2.2.2.2 hv).2⟩
    ·rfl
   rw[S,Er v s n b om _ _ r _ (JH (by rw[hd,Zt])) om hle,Zt]
theorem ZbS {v:Bool} {r:List UInt8} (h:s.drop i=wescL v t++r) (A:i<=s.length):contP v s i (i+(wescL v t).length)= .ok t:=by
 rw[Zf9];exact Er v s _ t (Yy _) i _ r [] h rfl (Zj1 h A)
theorem Zkd {r:List UInt8} {f:Nat} {a:AtP} (K:isQ a.name=true) (h:s.drop k=a.name++([61,34]++(wescL true a.value++(34::r)))) (U:k<=s.length):
 attrP s f k= .ok (⟨[],a.name,a.value,k⟩,k+a.name.length+2+(wescL true a.value).length+1):=by
 have H:=Znd K (c:=61) ⟨by decide,by decide⟩ h;have J:=(KY K).1;have D:=JH (x:=a.name) h;have A:=U6 D;have F:=U6 A;have I:=JH (x:=wescL true a.value) F;have l1:=GD D;have l2:=GD A;have V:=GD I;have S:((s.drop (k+a.name.length+1+1)).takeWhile λd=>d !=34 && d !=60)=wescL true a.value:=by
  rw[F];refine Qp (x:=wescL true a.value) (r:=34::r) (λd Q=> ?_) λc t e=> ?_
  ·have:=Zc5 d Q;simp[this.1,this.2.2 rfl]
  ·injection e with e _;subst e;rfl
 have hc:=ZbS (v:=true) F om;unfold attrP;dsimp only;rw[H,Ze om,Eb D (by decide),Ze (by rw[VL (t:= [61]) D];simp),Eb A (by decide),Ze (by rw[VL (t:= [34]) A];simp)];have R:(s.drop (k+a.name.length+1)).headD 0=34:=by rw[A];rfl
 rw[R,S,hc];dsimp only;rw[Ze om,Ze (by rw[I];simp),h,Nat.add_sub_cancel_left,List.take_left]
end
section
variable {d k r:Nat} {l s t:List UInt8}
def attrAts:List AtP->Nat->List AtP
 | [],_=> []
 |a::t,k=>⟨[],a.name,a.value,k+1⟩::attrAts t (k+(attrW a).length)
theorem Zkc (a:AtP):(attrW a).length=1+a.name.length+2+(wescL true a.value).length+1:=by
 unfold attrW;simp only[Zb,Zd,ZK]
theorem ZbE {s:List UInt8} {f:Nat} {nm A:List UInt8}:∀(al done:List AtP) (k:Nat),attrsOk al (done.map AtP.name)=true->s.drop k=attrsW al++A->k<=s.length->
 startAt s f nm k done=startAt s f nm (k+(attrsW al).length) (done++attrAts al k)
 | [],done,k,_,_,_=>by show _=startAt s f nm (k+0) (done++ []);rw[ZV];rfl
 |a::t,done,k,ho,h,hk=>by
  rw[attrsOk] at ho;simp only[ZG,Jl] at ho;obtain ⟨⟨⟨⟨h1,U⟩,I⟩,h4⟩,Y⟩:=ho;obtain ⟨c,n',V⟩:=ZgQ I;have X:=I;rw[V] at X;obtain ⟨e1,e2,e3,e4,e5⟩:=ZgS X;have J:s.drop k=32::(a.name++([61,34]++(wescL true a.value++(34::(attrsW t++A))))):=by rw[h];show (attrW a++attrsW t)++A=_;unfold attrW;simp only[Zt,ZX,Z7]
  have H:s.drop k=32::c::(n'++([61,34]++(wescL true a.value++(34::(attrsW t++A))))):=by rw[J,V];rfl
  have K:=U6 J;have D:=U6 H;have S:=ZpB H e4;have hc:=GD J;have Z:=Zkd (f:=f) I K om;have F:(done.any λb=>b.name==a.name)=false:=by rw[List.any_eq_false];intro b hb e;have he:b.name=a.name:=(by simpa using e);have:(done.map AtP.name).contains a.name=true:=(by rw[Xw,<-he];exact Yc hb);rw[this] at U;cases U
  rw[Uy s f nm k done hk,S,Ze (by rw[UQ D (Ne.symm e5)];simp),Ze (by rw[UQ D (Ne.symm e3)];simp),Ze (by rw[UQ D (Ne.symm e3)];simp),Ze om,Z];dsimp only;rw[F,Ze (by simp)];have R:k+1+a.name.length+2+(wescL true a.value).length+1=k+(attrW a).length:=by rw[Zkc];omega
  have Q:s.drop (k+(attrW a).length)=attrsW t++A:=by refine JH ?_;rw[h];show (attrW a++attrsW t)++A=_;rw[Zt]
  rw[R,ZbE t _ _ (by rw[ZS];exact Y) Q (Zj1 (r:=attrsW t++A) (by rw[h];show (attrW a++attrsW t)++A=_;rw[Zt]) hk)];show _=startAt s f nm (k+(attrW a++attrsW t).length) (done++(⟨[],a.name,a.value,k+1⟩::attrAts t (k+(attrW a).length)));rw[Zb,Zt,Nat.add_assoc];rfl
theorem Zaw:∀(al:List AtP) (c:UInt8) (r:List UInt8),ends c->∃d r',attrsW al++c::r=d::r'/\ends d
 | [],c,r,h=>⟨c,r,rfl,h⟩
 |a::t,c,r,_=>by
  refine ⟨32,_,rfl,?_⟩
  exact ⟨by decide,by decide⟩
theorem Zke {A:List UInt8} {al:List AtP} (h:s.drop k=attrsW al++A) (D:k<=s.length):k+(attrsW al).length<=s.length:=Zj1 h D
theorem ZhW {n r:List UInt8} {al:List AtP} (e:Bool) (Q:isQ n=true) (ha:attrsOk al []=true) (h:s.drop k=60::(n++(attrsW al++((if e then [47,62] else [62])++r)))):
 constructP s k= .ok (⟨1,n,attrAts al (k+1+n.length),e,[],k⟩,k+1+n.length+(attrsW al).length+(if e then 2 else 1)):=by
 obtain ⟨c,n',K⟩:=ZgQ Q;have Z:=Q;rw[K] at Z;obtain ⟨e1,e2,e3,e4,e5⟩:=ZgS Z;have Y:=(KY Q).1;have A:s.drop k=60::c::(n'++(attrsW al++((if e then [47,62] else [62])++r))):=by rw[h,K];rfl
 have hk:=GD h;have ht:∃d r',attrsW al++((if e then [47,62] else [62])++r)=d::r'/\ends d:=by
  cases e with
  |true=>exact Zaw al 47 _ ⟨by decide,by decide⟩
  |false=>exact Zaw al 62 _ ⟨by decide,by decide⟩
 obtain ⟨d,r',hdr,S⟩:=ht;have F:=U6 h;have R:=JH (x:=n) F;rw[hdr] at F;have U:=Znd Q S F;have I:k+1+n.length<=s.length:=Zj1 F om;have V:=ZbE (f:=k) (nm:=n) al [] (k+1+n.length) ha R I;have X:=JH (x:=attrsW al) R;have J:=Zke R I;have H:startAt s k n (k+1+n.length+(attrsW al).length) (attrAts al (k+1+n.length))= .ok (⟨1,n,attrAts al (k+1+n.length),e,[],k⟩,k+1+n.length+(attrsW al).length+(if e then 2 else 1)):=by
  rw[Uy s k n _ _ J];cases e with
  |true=>have D:s.drop (k+1+n.length+(attrsW al).length)=47::62::r:=X;rw[Eb D (by decide),Ze (by rw[UQ D (by decide)];simp),Zi (VL (t:= [47,62]) D)];rfl
  |false=>have D:s.drop (k+1+n.length+(attrsW al).length)=62::r:=X;rw[Eb D (by decide),Zi (VL (t:= [62]) D)];rfl
 unfold constructP;rw[Ze (by rw[Uh A (Ne.symm e1)];simp),Ze (by rw[Uh A (Ne.symm e2)];simp),Ze (by rw[Uh A (Ne.symm e2)];simp),Ze (by rw[Uh A (Ne.symm e2)];simp),Ze (by rw[Uh A (Ne.symm e2)];simp),Ze (by rw[Uh A (Ne.symm e3)];simp),Zi (VL (t:= [60]) h)];rw[Qk s k om,U,Ze om,F,Nat.add_sub_cancel_left,List.take_left,V];exact H
theorem ZmA {n r:List UInt8} (H:isQ n=true) (h:s.drop k=60::47::(n++62::r)):constructP s k= .ok (⟨2,n,[],false,[],k⟩,k+2+n.length+1):=by
 have I:=(KY H).1;have A:=U6 (U6 h);have D:=Znd H (c:=62) ⟨by decide,by decide⟩ A;have F:=JH (x:=n) A;unfold constructP;rw[Ze (by rw[Uh h (by decide)];simp),Ze (by rw[Uh h (by decide)];simp),Ze (by rw[Uh h (by decide)];simp),Ze (by rw[Uh h (by decide)];simp),Ze (by rw[Uh h (by decide)];simp),Zi (VL (t:= [60,47]) h)];unfold endP;dsimp only;rw[show k+2=k+1+1 from rfl,D,Zi om,Eb F (by decide),Zi (VL (t:= [62]) F),A,Nat.add_sub_cancel_left,List.take_left]
theorem ZbZ:∀(x r:List UInt8) (k:Nat),(∀d∈x,d≠60)->findIn [60] (x++60::r) k=some (k+x.length)
 | [],r,k,_=>by
  rw[Z7,findIn,Zi (by simp[List.isPrefixOf])]
  rfl
 |c::x,r,k,h=>by
  have hc:=h c Zx
  have A:((60:UInt8)==c)=false:=by simpa using Ne.symm hc
  rw[ZX,findIn,Ze (by simp[List.isPrefixOf,A]),ZbZ x r (k+1) λd D=>h d (Zn _ D),Zd]
  congr 1
  omega
theorem Zb0:∀(x:List UInt8) (k:Nat),(∀d∈x,d≠60)->findIn [60] x k=none
 | [],k,_=>by rw[findIn,Ze (by simp)]
 |c::x,k,h=>by
  have hc:=h c Zx
  have A:((60:UInt8)==c)=false:=by simpa using Ne.symm hc
  rw[findIn,Ze (by simp[List.isPrefixOf,A]),Zb0 x (k+1) λd D=>h d (Zn _ D)]
theorem Zao {r:List UInt8} (R:t≠ []) (h:s.drop k=wescL false t++r) (Q:r= []\/∃r',r=60::r') (J:k<=s.length):constructP s k= .ok (dataT t k,k+(wescL false t).length):=by
 have I:∀d∈wescL false t,d≠60:=λd K=>(Zc5 d K).1;have F:(findAt s k [60]).getD s.length=k+(wescL false t).length:=by
  unfold findAt;rw[h];rcases Q with rfl|⟨r',rfl⟩
  ·rw[ZV,Zb0 _ _ I];exact (Zjl (by rw[h,ZV]) J).symm
  ·rw[ZbZ _ _ _ I];rfl
 have hc:=ZbS h J;obtain ⟨c,w,H⟩:∃c w,wescL false t=c::w:=by
  cases hx:wescL false t with
  |nil=>exact absurd (Zh7 hx) R
  |cons c w=>exact ⟨c,w,rfl⟩
 have A:(60:UInt8)≠c:=λe=>I c (by rw[H];exact Zx) e.symm;have D:s.drop k=c::(w++r):=by rw[h,H];rfl
 unfold constructP;rw[Ze (by rw[UQ D A];simp),Ze (by rw[UQ D A];simp),Ze (by rw[UQ D A];simp),Ze (by rw[UQ D A];simp),Ze (by rw[UQ D A];simp),Ze (by rw[UQ D A];simp),Ze (by rw[UQ D A];simp)];dsimp only;rw[F,hc]
def AtP.bare (a:AtP):AtP:=⟨a.space,a.name,a.value,0⟩
mutual
def Nd.bare:Nd->Nd
 | .mk k s n al ks t _=> .mk k s n (al.map AtP.bare) (Nds.bare ks) t 0
def Nds.bare:List Nd->List Nd
 | []=> []
 |x::t=>x.bare::Nds.bare t
end
theorem El (n:Nd):n.bare.kind=n.kind:=by cases n;rw[Nd.bare];rfl
theorem Io:∀(al:List AtP) (seen:List (List UInt8)) (k:Nat),attrsOk al seen=true->(attrAts al k).map AtP.bare=al.map AtP.bare
 | [],_,_,_=>rfl
 |a::t,seen,k,h=>by
  rw[attrsOk] at h
  simp only[ZG] at h
  have A:a.space= []:=by simpa using h.1.1.1.1
  rw[attrAts,Zw,Zw,Io t _ _ h.2]
  unfold AtP.bare
  rw[A]
theorem reads.nil (s:List UInt8) (k:Nat):reads s k k []:=λl=>by rw[ZV]
theorem reads.trans {s:List UInt8} {a b c:Nat} {L M:List Tok} (h:reads s a b L) (A:reads s b c M):reads s a c (L++M):=λl=>by rw[h,A,Zt]
theorem reads.one {s:List UInt8} {k e:Nat} {t:Tok} (A:k<s.length) (h:constructP s k= .ok (t,e)) (D:keeps t):reads s k e [t]:=λl=>by rw[J9 A h,Zi D]
theorem EG {t:Tok} (h:t.kind≠3):keeps t:=Or.inl h
theorem K2 (h:t≠ []):keeps (dataT t k):=Or.inr h
theorem ZfX {done:List Nd} {a:Nat} (h:∀x,done.getLast? =some x->x.kind≠1):addText done t a=done++ [charD t a]:=by
 unfold addText;split
 ·rename_i s n al kk u b A;exact absurd rfl (h _ A)
 ·rfl
theorem Zcx {n:Nd} (h:nodeOk d n=true):∃r,nodeW n=60::r:=by
 obtain ⟨k,s,nm,al,ks,t,a⟩:=n;rw[nodeOk] at h;simp only[ZG,ZT] at h;rw[nodeW,Ze om];exact ⟨_,rfl⟩
mutual
theorem Zeu (s:List UInt8):∀(n:Nd) (d k:Nat) (r:List UInt8),nodeOk d n=true->s.drop k=nodeW n++r->
 ∃t L m,reads s k (k+(nodeW n).length) (t::L)/\t.kind=1/\m.bare=n.bare/\∀fin rest,elemAt fin d ((t::L)++rest)= .ok (m,rest)
 | .mk kd sp nm al ks tx at_,d,k,r,ho,h=>by
  rw[nodeOk] at ho
  simp only[ZG,ZT,U0] at ho
  obtain ⟨⟨⟨⟨⟨⟨rfl,hd⟩,rfl⟩,rfl⟩,hq⟩,ha⟩,hks⟩:=ho
  have hbare:=Io al [] (k+1+nm.length) ha
  rw[nodeW,Ze (by decide)] at h|-
  cases ks with
  |nil=>
   have h':s.drop k=60::(nm++(attrsW al++((if true then [47,62] else [62])++r))):=by
    rw[h]
    simp only[List.isEmpty_nil,Us,Zt,ZX,Z7]
   have hc:=ZhW true hq ha h'
   refine ⟨⟨1,nm,attrAts al (k+1+nm.length),true,[],k⟩,[],.mk 0 [] nm (attrAts al (k+1+nm.length)) [] [] k,?_,rfl,?_,λfin rest=> ?_⟩
   ·have hr:=reads.one (GD h') hc (EG (by simp))
    have hlen:k+1+nm.length+(attrsW al).length+(if true=true then 2 else 1)=k+([60]++nm++attrsW al++(if ([]:List Nd).isEmpty=true then [47,62] else [62]++nodesW []++ [60,47]++nm++ [62])).length:=by
     simp only[List.isEmpty_nil,Us,Zb,Zd,ZK]
     omega
    rw[hlen] at hr
    exact hr
   ·rw[Nd.bare,Nd.bare,hbare]
   ·rw[ZX,Ev,Ze (by omega),Zi rfl]
    rfl
  |cons x xs=>
   have h':s.drop k=60::(nm++(attrsW al++((if false then [47,62] else [62])++(nodesW (x::xs)++(60::47::(nm++62::r)))))):=by
    rw[h]
    simp only[List.isEmpty_cons,YR,U4,Zt,ZX,Z7]
   have hc:=ZhW false hq ha h'
   have h1:s.drop (k+1+nm.length+(attrsW al).length+1)=nodesW (x::xs)++(60::47::(nm++62::r)):=JH (x:= [62]) (JH (x:=attrsW al) (JH (x:=nm) (U6 h')))
   obtain ⟨L,ms,hL,hms,hk⟩:=Zek s (x::xs) d false _ _ hks h1
   have h2:=JH (x:=nodesW (x::xs)) h1
   have hce:=ZmA hq h2
   have r1:=reads.one (GD h') hc (EG (by simp))
   have r3:=reads.one (GD h2) hce (EG (by simp))
   refine ⟨⟨1,nm,attrAts al (k+1+nm.length),false,[],k⟩,L++ [⟨2,nm,[],false,[],k+1+nm.length+(attrsW al).length+1+(nodesW (x::xs)).length⟩],.mk 0 [] nm (attrAts al (k+1+nm.length)) ms [] k,?_,rfl,?_,λfin rest=> ?_⟩
   ·have hr:=(r1.trans hL).trans r3
    have hlen:k+1+nm.length+(attrsW al).length+1+(nodesW (x::xs)).length+2+nm.length+1=k+([60]++nm++attrsW al++(if (x::xs).isEmpty=true then [47,62] else [62]++nodesW (x::xs)++ [60,47]++nm++ [62])).length:=by
     simp only[List.isEmpty_cons,YR,U4,Zb,Zd,ZK]
     omega
    rw[hlen] at hr
    exact hr
   ·rw[Nd.bare,Nd.bare,hbare,hms]
   ·rw[ZX,Ev,Ze (by omega),Ze (by simp),Zt,hk fin _ [] _ (λ_ x hx=>by cases hx),Z7,ZX,Zco _ _ _ _ _ _ rfl,Ze (by simp)]
    rfl
theorem Zek (s:List UInt8):∀(ks:List Nd) (d:Nat) (data:Bool) (k:Nat) (r:List UInt8),kidsOk d data ks=true->s.drop k=nodesW ks++60::r->
 ∃L ms,reads s k (k+(nodesW ks).length) L/\Nds.bare ms=Nds.bare ks/\∀fin tok done rest,(data=false->∀x,done.getLast? =some x->x.kind≠1)->kidsAt fin d tok done (L++rest)=kidsAt fin d tok (done++ms) rest
 | [],d,data,k,r,_,_=>⟨[],[],(by rw[nodesW];exact reads.nil s k),rfl,λfin tok done rest _=>by rw[Z7,ZV]⟩
 |x::xs,d,data,k,r,ho,h=>by
  rw[kidsOk,ZG] at ho
  obtain ⟨ho,hxs⟩:=ho
  have h1:s.drop k=nodeW x++(nodesW xs++60::r):=by rw[h,nodesW,Zt]
  have h2:=JH (x:=nodeW x) h1
  obtain ⟨L2,ms2,hL2,hms2,hk2⟩:=Zek s xs d _ _ _ hxs h2
  have hlen:k+(nodeW x).length+(nodesW xs).length=k+(nodesW (x::xs)).length:=by rw[nodesW,Zb];omega
  rw[hlen] at hL2
  by_cases hx:x.kind=1
  ·rw[Zi hx] at ho
   obtain ⟨kd,sp,nm,al,ks,tx,at_⟩:=x
   simp only[Nd.kind] at hx
   subst hx
   simp only[Nd.space,Nd.name,Nd.attrs,Nd.kids,Nd.text,ZG,Jl,U0,List.isEmpty_eq_false_iff] at ho
   obtain ⟨⟨⟨⟨⟨⟨hdata,htx⟩,hch⟩,rfl⟩,rfl⟩,rfl⟩,rfl⟩:=ho
   rw[nodeW,Zi rfl] at h1 hL2
   have hkl:k<=s.length:=by
    rcases Y9 k s.length with hh|hh
    ·omega
    ·rw[ZC hh] at h
     have:=Zz List.length h
     rw[Zb,Zd,ZK] at this
     omega
   have hne:∃r',nodesW xs++60::r=60::r':=by
    cases xs with
    |nil=>exact ⟨r,by rw[nodesW];rfl⟩
    |cons y ys=>
     rw[kidsOk,ZG] at hxs
     have hy:=hxs.1
     by_cases hyk:y.kind=1
     ·rw[Zi hyk] at hy
      simp[Nd.kind] at hy
     ·rw[Ze hyk] at hy
      obtain ⟨r',hr'⟩:=Zcx hy
      rw[nodesW,hr']
      exact ⟨_,rfl⟩
   have hc:=Zao htx h1 (Or.inr hne) hkl
   have hkl2:k<s.length:=by
    cases hw:wescL false tx with
    |nil=>exact absurd (Zh7 hw) htx
    |cons c w=>rw[hw] at h1;exact GD h1
   have r1:=reads.one hkl2 hc (K2 htx)
   refine ⟨[dataT tx k]++L2,charD tx k::ms2,r1.trans hL2,?_,λfin tok done rest hdone=> ?_⟩
   ·rw[Nds.bare,Nds.bare,hms2]
    unfold charD
    rw[Nd.bare,Nd.bare]
   ·rw[Zt,ZX,Z7,ZaO _ _ _ _ _ _ rfl]
    have ha:=ZfX (t:=tx) (a:=k) (hdone hdata)
    show kidsAt fin d tok (addText done tx k) _=_
    rw[ha,hk2 fin tok _ rest (λe=>absurd e (by simp[Nd.kind])),Zt]
    rfl
  ·rw[Ze hx] at ho
   have hdx:decide (x.kind=1)=false:=by simpa using hx
   obtain ⟨t,L,m,hL,ht,hm,he⟩:=Zeu s x (d+1) k _ ho h1
   refine ⟨(t::L)++L2,m::ms2,hL.trans hL2,?_,λfin tok done rest hdone=> ?_⟩
   ·rw[Nds.bare,Nds.bare,hms2,hm]
   ·rw[Zt,ZX,Zcp _ _ _ _ _ _ ht,<-ZX,he]
    dsimp only
    rw[hk2 fin tok _ rest (λ_ y hy=> ?_),Zt]
    ·rfl
    ·rw[XG] at hy
     simp only[X7,Option.or] at hy
     injection hy with hy
     rw[<-hy,<-El,hm,El]
     exact hx
end
theorem Zly {b:Bool} (h:nmOk true b r=true):isChar (r:Int)=true:=by
 unfold nmOk nmChar nmStart at h;unfold isChar;rw[ZT];cases b<;>simp only[XL,Ik,ZT,JI,Us,YR,U4] at h<;>omega
theorem ZjV:∀(f:Nat) (first:Bool) (l:List UInt8),nmGo true f first l=l.length->isText l
 |0,first,l,h=>by
  have:l= []:=Zm (by rw[<-h];rfl)
  rw[this];exact Xa
 |f+1,first,l,h=>by
  by_cases F:l= []
  ·rw[F];exact Xa
  ·have H:0<l.length:=Xt.2 F
   have A:(dec l).2≠0/\nmOk true first (dec l).1=true:=by
    by_cases D:l= []\/(dec l).2=0\/nmOk true first (dec l).1=false
    ·rw[Js D] at h
     omega
    ·refine ⟨λe=>D (Or.inr (Or.inl e)),?_⟩
     cases hk:nmOk true first (dec l).1 with
     |true=>rfl
     |false=>exact absurd (Or.inr (Or.inr hk)) D
   have I:=Ug l
   rw[Ut A.1 A.2] at h
   have D:=G2 (l:=l) (r:=(dec l).1) (m:=(dec l).2) rfl A.1
   rw[D]
   exact Ys (XD (Zly A.2)) (ZjV f false _ (by rw[Zk];omega))
theorem ZgT (h:isQ l=true):isText l:=ZjV _ _ _ (KY h).2
theorem Ji:∀l:List UInt8,(∀c∈l,c.toNat<128/\isChar (c.toNat:Int)=true)->isText l
 | [],_=>Xa
 |c::t,h=>by
  have hc:=h c Zx
  have A:=XD hc.2
  rw[X2 hc.1,Iv] at A
  exact Ys (l:= [c]) A (Ji t λd D=>h d (Zn _ D))
theorem ZjC (v:Bool) (c:UInt8):isText (wescB v c):=by
 unfold wescB
 repeat' split
 all_goals exact Ji _ (by decide)
theorem ZeW (v:Bool) (h:isText l):isText (wescL v l):=by
 obtain ⟨rs,H,rfl⟩:=h
 induction rs with
 |nil=>exact Xa
 |cons r rs ih=>
  have F:=H r Zx;rw[YV,Zc3];refine Ys ?_ (ih λx J=>H x (Zn _ J));have I:=Xf F;rcases Y9 r 128 with D|D
  ·rw[X2 D];show isText (wescC v (UInt8.ofNat r)++ []);rw[ZV];unfold wescC;split
   ·rw[<-X2 D];exact XD F
   ·exact ZjC v _
  ·rw[Ig λc hc=> ?_]
   ·exact XD F
   ·have K:=Qf I D c hc;have A:∀d:UInt8,d.toNat<128->c≠d:=λd Q e=>(by subst e;omega);unfold wescB;rw[Ze (A 38 (by decide)),Ze (A 60 (by decide)),Ze (A 62 (by decide)),Ze (A 13 (by decide)),Ze (A 34 (by decide)),Ze (A 9 (by decide)),Ze (A 10 (by decide))];split<;>rfl
theorem Iw (h:charsOk l=true):isText l:=(Vd l).1 (by unfold charsOk at h;simpa using h)
theorem ZbF:∀(al:List AtP) (seen:List (List UInt8)),attrsOk al seen=true->isText (attrsW al)
 | [],_,_=>Xa
 |a::t,seen,h=>by
  rw[attrsOk] at h
  simp only[ZG] at h
  rw[attrsW]
  unfold attrW
  refine Ys (Ys (Ys (Ys (Ys ?_ (ZgT h.1.1.2)) ?_) (ZeW true (Iw h.1.2))) ?_) (ZbF t _ h.2)
  all_goals exact Ji _ (by decide)
mutual
theorem Zev:∀(n:Nd) (d:Nat),nodeOk d n=true->isText (nodeW n)
 | .mk kd sp nm al ks tx at_,d,h=>by
  rw[nodeOk] at h
  simp only[ZG,ZT] at h
  have ha:=ZbF al [] h.1.2
  have hq:=ZgT h.1.1.2
  have hk:=Zel ks d false h.2
  rw[nodeW,Ze (by omega)]
  refine Ys (Ys (Ys (Ji _ (by decide)) hq) ha) ?_
  split
  ·exact Ji _ (by decide)
  ·exact Ys (Ys (Ys (Ys (Ji _ (by decide)) hk) (Ji _ (by decide))) hq) (Ji _ (by decide))
theorem Zel:∀(ks:List Nd) (d:Nat) (data:Bool),kidsOk d data ks=true->isText (nodesW ks)
 | [],_,_,_=>Xa
 |x::xs,d,data,h=>by
  rw[kidsOk,ZG] at h
  have h2:=Zel xs d _ h.2
  rw[nodesW]
  refine Ys ?_ h2
  have h1:=h.1
  by_cases hx:x.kind=1
  ·rw[Zi hx] at h1
   simp only[ZG] at h1
   have hc:=h1.1.1.1.1.2
   obtain ⟨kd,sp,nm,al,ks,tx,at_⟩:=x
   simp only[Nd.kind] at hx
   rw[nodeW,Zi hx]
   exact ZeW false (Iw hc)
  ·rw[Ze hx] at h1
   exact Zev x _ h1
end
theorem Zku (n:Nd) (h:nodeOk 1 n=true):∃m,docP (docW n)= .ok m/\m.bare=n.bare:=by
 obtain ⟨s,X⟩:∃s,docW n=s:=⟨_,rfl⟩;have Q:isText s:=by rw[<-X];unfold docW;exact Ys (Ys (Ji _ (by decide)) (Zev n 1 h)) (Ji _ (by decide))
 obtain ⟨nr,V⟩:=Zcx h;have F:s.drop 0=headW++(nodeW n++ [10]):=by rw[<-X];unfold docW;rw[Zt];rfl
 have A:s.drop 38=10::(nodeW n++ [10]):=JH (x:=headW.take 38) F;have H:=U6 A;have I:=JH (x:=nodeW n) H;have U:=GD (r:= []) I;have K:=Zjl (x:= [10]) I om;have R:=GD A;have c0:constructP s 0= .ok (dataT [] 0,38):=by
  have Y:skipP s 0 2 [63,62]= .ok 38:=by unfold skipP findAt;have S:s.drop (0+2)=headW.drop 2++(nodeW n++ [10]):=JH (x:=headW.take 2) F;rw[S];rfl
  unfold constructP;rw[Zi (VL (t:= [60,63]) F),Y]
 have c1:constructP s 38= .ok (dataT [10] 38,39):=Zao (t:= [10]) (by simp) A (Or.inr ⟨nr++ [10],by rw[V];rfl⟩) om;obtain ⟨t,L,m,Z,ht,hm,he⟩:=Zeu s n 1 39 [10] h H;have c3:constructP s (39+(nodeW n).length)= .ok (dataT [10] (39+(nodeW n).length),39+(nodeW n).length+1):=Zao (t:= [10]) (r:= []) (by simp) I (Or.inl rfl) om;have J:toksP s= .ok (dataT [10] 38::((t::L)++ [dataT [10] (39+(nodeW n).length)])):=by
  rw[GP,Ze (by rw[(Vd s).2 Q];simp),UQ (c:=60) (d:=239) F (by decide),Ze (by simp),J9 om c0,Ze (by unfold keeps dataT;simp),
   (reads.one R c1 (K2 (by simp))) [],Z,(reads.one U c3 (K2 (by simp))),Vz (by rw[V8] at K;omega)]
  simp
 refine ⟨m,?_,hm⟩;rw[X,QB,J];dsimp only;have hb:blankL [10]=true:=by decide
 have D:∀(fin k:Nat) (found:Option Nd) (r:List Tok),docAt fin found (dataT [10] k::r)=docAt fin found r:=λfin k found r=>by rw[KQ,Ze (by unfold dataT;simp),Ze (by unfold dataT;simp),Zi (show (dataT [10] k).kind=3 from rfl),Ze (by show ¬blankL [10]=false;rw[hb];simp)]
 rw[D,ZX,KQ,Ze (by simp),Ze om,Ze om,<-ZX,he];dsimp only;rw[D,ZdR]
end
section
variable {l:List UInt8} {sc:Scope}
theorem Zhi:∀(f:Nat) (first:Bool) (l:List UInt8),nmGo false f first l=l.length->∀c∈l,c≠58
 |0,first,l,h,c,hc=>by
  have:l= []:=Zm (by rw[<-h];rfl)
  rw[this] at hc;cases hc
 |f+1,first,l,h,c,hc=>by
  have S:l≠ []:=λe=>by rw[e] at hc;cases hc
  have K:0<l.length:=Xt.2 S
  have A:(dec l).2≠0/\nmOk false first (dec l).1=true:=by
   by_cases F:l= []\/(dec l).2=0\/nmOk false first (dec l).1=false
   ·rw[Js F] at h
    omega
   ·refine ⟨λe=>F (Or.inr (Or.inl e)),?_⟩
    cases hk:nmOk false first (dec l).1 with
    |true=>rfl
    |false=>exact absurd (Or.inr (Or.inr hk)) F
  have R:=Ug l
  rw[Ut A.1 A.2] at h
  have F:=G2 (l:=l) (r:=(dec l).1) (m:=(dec l).2) rfl A.1
  have I:=(Ze9 [] A.1).2.1
  rw[F] at hc
  rcases Zs.1 hc with D|D
  ·rcases Y9 (dec l).1 128 with H|H
   ·rw[X2 H,Zo] at D
    intro e
    rw[D] at e
    have Q:(dec l).1=58:=by
     have:=Zz UInt8.toNat e
     rw[Y0 om] at this
     exact this
    have J:=A.2
    rw[Q] at J
    cases first<;>revert J<;>decide
   ·have:=Qf I H c D
    intro e
    rw[e] at this
    exact absurd this (by decide)
  ·exact Zhi f false _ (by rw[Zk];omega) c D
theorem VV (h:isNm l=true):splitL l=some ([],l):=by
 have A:0<l.length/\nmLen false l=l.length:=by unfold isNm at h;simpa using h
 have hc:=Zhi _ _ _ A.2;have F:(l.takeWhile λc=>c !=58)=l:=by
  have:=Qp (p:=λc=>c !=58) (x:=l) (r:= []) (λd D=>by have:=hc d D;simpa using this) (λc t e=>by cases e)
  rwa [ZV] at this
 unfold splitL;dsimp only;rw[F,Ze om,h];rfl
theorem ZbT (h:isNm l=true) (A:l≠xmlnsL):declL l=none:=by
 unfold declL;rw[VV h];dsimp only;rw[Ze (λe=>A e.2),Ze (by decide)]
mutual
def Nd.inNs (ns:List UInt8):Nd->Nd
 | .mk k s n al ks t a=>if k=0 then .mk 0 ns n al (Nds.inNs ns ks) [] a else .mk k s n al ks t a
def Nds.inNs (ns:List UInt8):List Nd->List Nd
 | []=> []
 |x::t=>x.inNs ns::Nds.inNs ns t
end
theorem ZaB (sc:Scope):∀al:List AtP,plainAs al=true->declsGo al sc= .ok sc
 | [],_=>rfl
 |a::t,h=>by
  unfold plainAs at h
  rw[KI,ZG,ZG] at h
  obtain ⟨⟨D,F⟩,H⟩:=h
  have A:a.name≠xmlnsL:=by simpa using F
  rw[declsGo,VV D,Ze (by simp),ZbT D A]
  exact ZaB sc t H
def AtP.noSp (a:AtP):AtP:=⟨[],a.name,a.value,a.at_⟩
theorem Zax (sc:Scope):∀(al out:List AtP),plainAs al=true->attrsOk al (out.map AtP.name)=true->attrsGo sc al out= .ok (out++al.map AtP.noSp)
 | [],out,_,_=>by rw[attrsGo,Z2,ZV]
 |a::t,out,h,ho=>by
  unfold plainAs at h
  rw[KI,ZG,ZG] at h
  obtain ⟨⟨F,H⟩,I⟩:=h
  have D:a.name≠xmlnsL:=by simpa using H
  rw[attrsOk] at ho
  simp only[ZG,Jl] at ho
  have A:(out.any λb=>b.space== [] && b.name==a.name)=false:=by
   rw[List.any_eq_false]
   intro b J e
   have K:b.name=a.name:=by
    rw[ZG] at e
    simpa using e.2
   have:(out.map AtP.name).contains a.name=true:=by
    rw[Xw,<-K]
    exact Yc J
   rw[this] at ho
   cases ho.1.1.1.2
  have ih:=Zax sc t (out++ [a.noSp]) I (by rw[ZS];exact ho.2)
  rw[attrsGo,ZbT F D,Ze (by simp),VV F]
  dsimp only[Option.getD]
  rw[Zi rfl]
  dsimp only
  rw[A,Ze (by simp)]
  show attrsGo sc t (out++ [a.noSp])=_
  rw[ih,Zw,Zt]
  rfl
theorem Zet:∀(al:List AtP) (seen:List (List UInt8)),attrsOk al seen=true->(al.map AtP.noSp).map AtP.bare=al.map AtP.bare
 | [],_,_=>rfl
 |a::t,seen,h=>by
  rw[attrsOk] at h
  simp only[ZG] at h
  have A:a.space= []:=by simpa using h.1.1.1.1
  rw[Zw,Zw,Zw,Zet t _ h.2]
  unfold AtP.noSp AtP.bare
  rw[A]
theorem ZiN {n:Nd} {ns:List UInt8} (A:lookL sc []=some ns) (D:isNm n.name=true) (H:n.name≠xmlnsL) (h:plainAs n.attrs=true) (F:attrsOk n.attrs []=true):
 headP n sc= .ok (ns,n.name,n.attrs.map AtP.noSp,sc):=by
 unfold headP;rw[VV D];dsimp only;rw[Ze (by decide),ZaB sc _ h];dsimp only;rw[A];dsimp only;rw[Zax sc _ [] h F];rfl
mutual
theorem ZeJ {sc:Scope} {ns:List UInt8} (hl:lookL sc []=some ns):∀(n:Nd) (d:Nat),nodeOk d n=true->n.plain=true->∃m,resP n sc= .ok m/\m.bare=n.bare.inNs ns
 | .mk k s nm al ks t a,d,ho,hp=>by
  rw[nodeOk] at ho
  simp only[ZG,ZT,U0] at ho
  obtain ⟨⟨⟨⟨⟨⟨rfl,hd⟩,rfl⟩,rfl⟩,hq⟩,ha⟩,hks⟩:=ho
  rw[Nd.plain] at hp
  simp only[bne_self_eq_false,Bool.false_or,ZG] at hp
  obtain ⟨⟨⟨hn,hx⟩,hal⟩,hkp⟩:=hp
  obtain ⟨ms,h1,h2⟩:=Ku hl ks d false hks hkp
  have hh:=ZiN (n:= .mk 0 [] nm al ks [] a) hl hn (by simpa [Nd.name] using hx) hal ha
  refine ⟨.mk 0 ns nm (al.map AtP.noSp) ms [] a,?_,?_⟩
  ·rw[resP,hh]
   dsimp only
   rw[h1]
   rfl
  ·rw[Nd.bare,Nd.bare,Nd.inNs,Zi rfl,h2,Zet al [] ha]
theorem Ku {sc:Scope} {ns:List UInt8} (hl:lookL sc []=some ns):∀(ks:List Nd) (d:Nat) (data:Bool),kidsOk d data ks=true->Nds.plain ks=true->∃ms,resKids ks sc= .ok ms/\Nds.bare ms=Nds.inNs ns (Nds.bare ks)
 | [],d,data,_,_=>⟨[],rfl,rfl⟩
 |x::xs,d,data,ho,hp=>by
  rw[kidsOk,ZG] at ho
  rw[Nds.plain,ZG] at hp
  obtain ⟨ms,h1,h2⟩:=Ku hl xs d _ ho.2 hp.2
  by_cases hx:x.kind=1
  ·refine ⟨x::ms,?_,?_⟩
   ·rw[resKids,Ze (by omega)]
    dsimp only
    rw[h1]
   ·rw[Nds.bare,Nds.bare,Nds.inNs,h2]
    obtain ⟨k,s,n,al,ks,t,a⟩:=x
    simp only[Nd.kind] at hx
    subst hx
    rw[Nd.bare,Nd.inNs,Ze (by decide)]
  ·have ho1:=ho.1
   rw[Ze hx] at ho1
   obtain ⟨m,h3,h4⟩:=ZeJ hl x (d+1) ho1 hp.1
   have hk:x.kind=0:=by
    obtain ⟨k,s,n,al,ks,t,a⟩:=x
    rw[nodeOk] at ho1
    simp only[ZG,ZT] at ho1
    exact ho1.1.1.1.1.1.1
   refine ⟨m::ms,?_,?_⟩
   ·rw[resKids,Zi hk,h3]
    dsimp only
    rw[h1]
   ·rw[Nds.bare,Nds.bare,Nds.inNs,h2,h4]
end
theorem Iq:∀(al:List AtP) (seen:List (List UInt8)),attrsOk (al.map AtP.bare) seen=attrsOk al seen
 | [],_=>rfl
 |a::t,seen=>by
  rw[Zw,attrsOk,attrsOk,Iq t]
  rfl
theorem ZfA (al:List AtP):plainAs (al.map AtP.bare)=plainAs al:=by
 unfold plainAs;rw[List.all_map];rfl
mutual
theorem VP:∀(n:Nd) (d:Nat),nodeOk d n.bare=nodeOk d n
 | .mk k s nm al ks t a,d=>by rw[Nd.bare,nodeOk,nodeOk,Iq,ZaP ks]
theorem ZaP:∀(ks:List Nd) (d:Nat) (data:Bool),kidsOk d data (Nds.bare ks)=kidsOk d data ks
 | [],d,data=>by rw[Nds.bare]
 |x::xs,d,data=>by
  rw[Nds.bare,kidsOk,kidsOk,ZaP xs,El,VP x]
  obtain ⟨k,s,nm,al,ks,t,a⟩:=x
  rw[Nd.bare]
  have h1:(al.map AtP.bare).isEmpty=al.isEmpty:=by cases al<;>rfl
  have h2:(Nds.bare ks).isEmpty=ks.isEmpty:=by cases ks<;>simp[Nds.bare]
  simp only[Nd.kind,Nd.text,Nd.space,Nd.name,Nd.attrs,Nd.kids,h1,h2]
  rfl
end
mutual
theorem Ia:∀n:Nd,n.bare.plain=n.plain
 | .mk k s nm al ks t a=>by rw[Nd.bare,Nd.plain,Nd.plain,ZfA,ZaU ks]
theorem ZaU:∀ks:List Nd,Nds.plain (Nds.bare ks)=Nds.plain ks
 | []=>by rw[Nds.bare]
 |x::xs=>by rw[Nds.bare,Nds.plain,Nds.plain,Ia x,ZaU xs]
end
mutual
theorem ZgM:∀(n:Nd) (d:Nat),nodeOk d n=true->n.inNs []=n
 | .mk k s nm al ks t a,d,h=>by
  rw[nodeOk] at h
  simp only[ZG,ZT,U0] at h
  obtain ⟨⟨⟨⟨⟨⟨rfl,hd⟩,rfl⟩,rfl⟩,hq⟩,ha⟩,hks⟩:=h
  rw[Nd.inNs,Zi rfl,Zeg ks d false hks]
theorem Zeg:∀(ks:List Nd) (d:Nat) (data:Bool),kidsOk d data ks=true->Nds.inNs [] ks=ks
 | [],d,data,_=>by rw[Nds.inNs]
 |x::xs,d,data,h=>by
  rw[kidsOk,ZG] at h
  rw[Nds.inNs,Zeg xs d _ h.2]
  by_cases hx:x.kind=1
  ·obtain ⟨k,s,nm,al,ks,t,a⟩:=x
   simp only[Nd.kind] at hx
   subst hx
   rw[Nd.inNs,Ze (by decide)]
  ·have h1:=h.1
   rw[Ze hx] at h1
   rw[ZgM x _ h1]
end
theorem Zgf (n:Nd) (h:nodeOk 1 n=true) (K:n.plain=true):∃m r,docP (docW n)= .ok m/\resP m []= .ok r/\r.bare=n.bare:=by
 obtain ⟨m,F,A⟩:=Zku n h;have J:nodeOk 1 m=true:=by rw[<-VP,A,VP];exact h
 have D:m.plain=true:=by rw[<-Ia,A,Ia];exact K
 obtain ⟨r,H,I⟩:=ZeJ (sc:= []) (ns:= []) (by decide) m 1 J D;refine ⟨m,r,F,H,?_⟩;rw[I,A,ZgM n.bare 1 (by rw[VP];exact h)]
end
end Go.Proofs.YtnlafkgkcnenfaaGreatDoor
