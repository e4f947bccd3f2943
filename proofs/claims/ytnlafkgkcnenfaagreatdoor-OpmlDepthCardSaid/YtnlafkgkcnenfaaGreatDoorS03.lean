/- Parts of the proof: contracts and plain laws. -/
import Derived.Test.YtnlafkgkcnenfaaGreatDoorS02
namespace Go.Proofs.YtnlafkgkcnenfaaGreatDoor
open Go Go.RowKit Go.WideMaps Go.Maps Tryz
set_option linter.unusedVariables false
set_option linter.unusedSimpArgs false
set_option maxRecDepth 100000
set_option maxHeartbeats 16000000
section
namespace Ord
section
variable {α κ:Type} (O:Ord α κ)
structure Semi (G:α->Prop):Prop where
 good:∀a b,O.id a=O.id b->G a->G b->G (O.op a b)
 comm:∀a b,O.id a=O.id b->G a->G b->O.op a b=O.op b a
 assoc:∀a b c,O.id a=O.id b->O.id b=O.id c->G a->G b->G c->O.op (O.op a b) c=O.op a (O.op b c)
 idem:∀a,G a->O.op a a=a
variable {O}
variable {G:α→Prop}
def UB (O:Ord α κ) (G:α->Prop) (l:List α) (k:κ) (u:α):Prop:=G u/\O.id u=k/\∀x∈l,O.id x=k->O.op x u=u
theorem Semi.le_trans (S:O.Semi G) {a b c:α} (h:O.id a=O.id b) (k:O.id b=O.id c) (D:G a) (F:G b) (H:G c) (q:O.op a b=b) (A:O.op b c=c):O.op a c=c:=by
 rw[<-A,<-S.assoc a b c h k D F H,q]
end
variable {α κ:Type} [DecidableEq κ] {O:Ord α κ} {G:α→Prop}
theorem got_none_iff (l:List α) (k:κ):O.got l k=none↔∀x∈l,O.id x≠k:=by
 unfold Ord.got;generalize q:(l.filter λx=>O.id x=k)=g;cases g with
 |nil=>simp only[fold1,true_iff];intro x A e;have:x∈l.filter λx=>decide (O.id x=k):=Y1.2 ⟨A,by simpa using e⟩;rw[q] at this;cases this
 |cons y t=>
  simp only[fold1];constructor
  ·intro h;cases h
  ·intro h;have:=Y1.1 (show y∈l.filter λx=>decide (O.id x=k) by rw[q];simp);exact absurd (by simpa using this.2) (h y this.1)
theorem got_isSome_iff (l:List α) (k:κ):(∃s,O.got l k=some s)↔∃x∈l,O.id x=k:=by
 rw[<-Option.isSome_iff_exists,<-Option.ne_none_iff_isSome,Ne,got_none_iff];simp
end Ord
end
section
variable {α:Type}
structure Ent where
 id:ByteArray
 title:ByteArray
 link:ByteArray
 content:ByteArray
 upd:Int
 deriving DecidableEq
structure Fd where
 path:List ByteArray
 id:ByteArray
 title:ByteArray
 link:ByteArray
 upd:Int
 ents:List Ent
 deriving DecidableEq
def eCells (e:Ent):List Value:= [.string e.id,.string e.title,.string e.link,.string e.content,nI e.upd]
def entJ (e:Ent):JV:= .arr [.str e.id,.str e.title,.str e.link,.str e.content,.int e.upd]
def feedJ (f:Fd):JV:= .arr [.arr (f.path.map .str),.str f.id,.str f.title,.str f.link,.int f.upd]
def entryKey (e:Ent):ByteArray:=(jwrite (entJ e)).1
def feedKey (f:Fd):ByteArray:=(jwrite (feedJ f)).1
def sCmp (x y:ByteArray):Int:=if Op.bytesLess x.toList y.toList then -1 else if x.toList=y.toList then 0 else 1
def iCmp (x y:Int):Int:=if x<y then -1 else if y<x then 1 else 0
def pathCmp:List ByteArray->List ByteArray->Int
 | [],[]=>0
 | [],_::_=> -1
 |_::_,[]=>1
 |a::x,b::y=>if sCmp a b=0 then pathCmp x y else sCmp a b
def entCmp (a b:Ent):Int:=if iCmp b.upd a.upd=0 then sCmp a.id b.id else iCmp b.upd a.upd
def feedCmp (a b:Fd):Int:=if pathCmp a.path b.path=0 then sCmp a.id b.id else pathCmp a.path b.path
theorem Vj:∀x:List UInt8,Op.bytesLess x x=false
 | []=>rfl
 |a::x=>by simp[Op.bytesLess,Vj x]
theorem ZfV (a b:UInt8) (x y:List UInt8):Op.bytesLess (a::x) (b::y)=true↔a<b\/(a=b/\Op.bytesLess x y=true):=by simp[Op.bytesLess]
theorem I4:∀x y z:List UInt8,Op.bytesLess x y=true->Op.bytesLess y z=true->Op.bytesLess x z=true
 | [],y,[],_,h=>by cases y<;>simp[Op.bytesLess] at h
 | [],_,_::_,_,_=>rfl
 |_::_,[],_,h,_=>by simp[Op.bytesLess] at h
 |_::_,_::_,[],_,h=>by simp[Op.bytesLess] at h
 |a::x,b::y,c::z,h,k=>by
  rw[ZfV] at h k|-
  rcases h with h|⟨rfl,h⟩<;>rcases k with k|⟨rfl,k⟩
  ·exact Or.inl (UInt8.lt_trans h k)
  ·exact Or.inl h
  ·exact Or.inl k
  ·exact Or.inr ⟨rfl,I4 x y z h k⟩
theorem Zc6:∀x y:List UInt8,Op.bytesLess x y=false->Op.bytesLess y x=false->x=y
 | [],[],_,_=>rfl
 | [],_::_,h,_=>by simp[Op.bytesLess] at h
 |_::_,[],_,h=>by simp[Op.bytesLess] at h
 |a::x,b::y,h,k=>by
  rw[Xu,Ne,ZfV] at h k
  have q:a=b:=by
   rcases Classical.em (a=b) with e|e
   ·exact e
   ·rcases UInt8.lt_or_lt_of_ne e with e|e
    ·exact absurd (Or.inl e) h
    ·exact absurd (Or.inl e) k
  subst q
  refine Zz (a:: ·) (Zc6 x y ?_ ?_)
  ·rw[Xu];exact λe=>h (Or.inr ⟨rfl,e⟩)
  ·rw[Xu];exact λe=>k (Or.inr ⟨rfl,e⟩)
structure IsCmp {α:Type} (c:α->α->Int):Prop where
 anti:∀a b,c b a= - c a b
 trans:∀a b d,c a b<=0->c b d<=0->c a d<=0
namespace IsCmp
variable {α:Type} {c:α→α→Int} (h:IsCmp c)
include h
theorem self (a:α):c a a=0:=by have:=h.anti a a;omega
theorem lt_trans (a b d:α) (q:c a b<0) (A:c b d<0):c a d<0:=by
 have D:=h.trans a b d (by omega) (by omega);rcases Classical.em (c a d=0) with e|e
 ·have F:=h.trans d a b (by have:=h.anti a d;omega) (by omega);have:=h.anti b d;omega
 ·omega
theorem zero_left (a b d:α) (A:c a b=0):c a d<=0↔c b d<=0:=
 ⟨λq=>h.trans b a d (by have:=h.anti a b;omega) q,λq=>h.trans a b d (by omega) q⟩
theorem zero_right (a b d:α) (A:c b d=0):c a b<=0↔c a d<=0:=
 ⟨λq=>h.trans a b d q (by omega),λq=>h.trans a d b q (by have:=h.anti b d;omega)⟩
end IsCmp
theorem IsCmp.lex {c d:α->α->Int} (q:IsCmp c) (F:IsCmp d):IsCmp λa b=>if c a b=0 then d a b else c a b where
 anti a b:=by
  have D:=q.anti a b;have A:=F.anti a b;by_cases h:c a b=0
  ·simp only[h,Zjw,show c b a=0 by omega];exact A
  ·simp only[Ze h,Ze (show ¬c b a=0 by omega)];exact D
 trans a b e D A:=by
  by_cases h:c a b=0
  ·rw[Zh h] at D;have H:=q.zero_left a b e h;have I:=q.zero_left b a e (by have:=q.anti a b;omega);by_cases k:c b e=0
   ·rw[Zh k] at A;have:c a e=0:=(by have e1:=H.2 (by omega);have:=q.trans e b a (by have:=q.anti b e;omega) (by have:=q.anti a b;omega);have:=q.anti a e;omega);rw[Zh this];exact F.trans a b e D A
   ·rw[Ze k] at A;by_cases g:c a e=0
    ·have:=(q.zero_right b a e g);have e1:=q.trans e a b (by have:=q.anti a e;omega) (by omega);have:=q.anti b e;omega
    ·rw[Ze g];exact H.2 A
  ·rw[Ze h] at D;by_cases k:c b e=0
   ·rw[Zh k] at A;by_cases g:c a e=0
    ·have e1:=q.trans b e a (by omega) (by have:=q.anti a e;omega);have:=q.anti a b;omega
    ·rw[Ze g];exact (q.zero_right a b e k).1 D
   ·rw[Ze k] at A;have:=q.lt_trans a b e (by omega) (by omega);rw[Ze (by omega)];omega
theorem ZjQ:IsCmp iCmp where
 anti a b:=by unfold iCmp;split<;>split<;>(try split)<;>omega
 trans a b d h1 h2:=by
  unfold iCmp at*
  repeat' split at h1
  all_goals (repeat' split at h2)
  all_goals (repeat' split)
  all_goals omega
theorem Zi4 (a b:ByteArray):sCmp a b<0↔Op.bytesLess a.toList b.toList=true:=by
 unfold sCmp;split
 ·rename_i h;simp[h]
 ·rename_i h;split<;>simp_all
theorem X8 (a b:ByteArray):sCmp a b=0↔a.toList=b.toList:=by
 unfold sCmp;split
 ·rename_i h;constructor
  ·intro q;cases q
  ·intro q;rw[q,Vj] at h;cases h
 ·split<;>simp_all
theorem V2:IsCmp sCmp where
 anti a b:=by
  unfold sCmp;by_cases h:Op.bytesLess a.toList b.toList=true
  ·have H:¬Op.bytesLess b.toList a.toList=true:=λk=>(by have:=I4 _ _ _ h k;rw[Vj] at this;cases this);have q:¬b.toList=a.toList:=λe=>(by rw[e,Vj] at h;cases h);rw[Zh h,Ze H,Ze q];rfl
  ·by_cases k:Op.bytesLess b.toList a.toList=true
   ·have q:¬a.toList=b.toList:=λe=>(by rw[e,Vj] at k;cases k);rw[Zh k,Ze h,Ze q]
   ·have e:=Zc6 a.toList b.toList (by simpa using h) (by simpa using k);rw[Ze h,Ze k,Zh e,Zh e.symm];rfl
 trans a b d A D:=by
  have F:∀x y:ByteArray,sCmp x y<=0↔Op.bytesLess x.toList y.toList=true\/x.toList=y.toList:=by intro x y;rw[<-Zi4,<-X8];omega
  rw[F] at*;rcases A with A|A
  ·rcases D with D|D
   ·exact Or.inl (I4 _ _ _ A D)
   ·rw[<-D];exact Or.inl A
  ·rw[A];exact D
theorem IsCmp.comap {β:Type} {c:β->β->Int} (h:IsCmp c) (f:α->β):IsCmp λa b=>c (f a) (f b):=⟨λa b=>h.anti _ _,λa b d=>h.trans _ _ _⟩
theorem IsCmp.swap {c:α->α->Int} (h:IsCmp c):IsCmp λa b=>c b a:=⟨λa b=>h.anti _ _,λa b d q A=>h.trans _ _ _ A q⟩
theorem Ki:∀a b,pathCmp b a= - pathCmp a b
 | [],[]=>rfl
 | [],_::_=>rfl
 |_::_,[]=>rfl
 |a::x,b::y=>by
  have q:=V2.anti a b
  unfold pathCmp
  by_cases h:sCmp a b=0
  ·rw[Zh h,Zh (by omega)];exact Ki x y
  ·rw[Ze h,Ze (by omega)];exact q
theorem Gf:∀a b d,pathCmp a b<=0->pathCmp b d<=0->pathCmp a d<=0
 | [],_,[],_,_=>by simp[pathCmp]
 | [],_,_::_,_,_=>by simp[pathCmp]
 |_::_,[],_,h,_=>by simp[pathCmp] at h
 |_::_,_::_,[],_,h=>by simp[pathCmp] at h
 |a::x,b::y,d::z,h,k=>by
  unfold pathCmp at h k|-
  by_cases e1:sCmp a b=0
  ·rw[Zh e1] at h
   have A:a.toList=b.toList:=(X8 a b).1 e1
   by_cases e2:sCmp b d=0
   ·rw[Zh e2] at k
    have q:b.toList=d.toList:=(X8 b d).1 e2
    rw[Zh ((X8 a d).2 (A.trans q))]
    exact Gf x y z h k
   ·rw[Ze e2] at k
    have e3:sCmp a d≠0:=λe=>e2 ((X8 b d).2 (A.symm.trans ((X8 a d).1 e)))
    rw[Ze e3]
    exact (V2.zero_left a b d e1).2 k
  ·rw[Ze e1] at h
   by_cases e2:sCmp b d=0
   ·rw[Zh e2] at k
    have q:b.toList=d.toList:=(X8 b d).1 e2
    have e3:sCmp a d≠0:=λe=>e1 ((X8 a b).2 (((X8 a d).1 e).trans q.symm))
    rw[Ze e3]
    exact (V2.zero_right a b d e2).1 h
   ·rw[Ze e2] at k
    have:=V2.lt_trans a b d (by omega) (by omega)
    rw[Ze (by omega)];omega
theorem ZfD:IsCmp pathCmp:=⟨Ki,Gf⟩
theorem toList_inj {a b:ByteArray} (h:a.toList=b.toList):a=b:=by
 rw[Q8,Q8] at h;cases a;cases b
 congr
 exact Array.toList_inj.1 h
theorem Zf9 {a b:ByteArray} (h:sCmp a b=0):a=b:=toList_inj ((X8 a b).1 h)
theorem QV:IsCmp entCmp:=IsCmp.lex (α:=Ent) (c:=λa b=>iCmp b.upd a.upd) (d:=λa b=>sCmp a.id b.id) ((ZjQ.comap λe:Ent=>e.upd).swap) (V2.comap λe:Ent=>e.id)
theorem VN:IsCmp feedCmp:=IsCmp.lex (α:=Fd) (c:=λa b=>pathCmp a.path b.path) (d:=λa b=>sCmp a.id b.id) (ZfD.comap λe:Fd=>e.path) (V2.comap λe:Fd=>e.id)
theorem ZgH {a b:Ent} (h:entCmp a b=0):a.id=b.id:=by
 unfold entCmp at h;split at h
 ·exact Zf9 h
 ·rename_i q;exact absurd h q
theorem Ze3 {a b:Fd} (h:feedCmp a b=0):a.id=b.id:=by
 unfold feedCmp at h;split at h
 ·exact Zf9 h
 ·rename_i q;exact absurd h q
def laterB (c:Int) (ka kb:ByteArray):Bool:=decide (c<0)||(decide (c=0) && Op.bytesLess ka.toList kb.toList)
def laterE (a b:Ent):Ent:=if laterB (iCmp a.upd b.upd) (entryKey a) (entryKey b) then b else a
def laterF (a b:Fd):Fd:={(if laterB (iCmp a.upd b.upd) (feedKey a) (feedKey b) then b else a) with ents:= []}
def ltE (a b:Ent):Bool:=decide (entCmp a b<0)
def ltF (a b:Fd):Bool:=decide (feedCmp a b<0)
theorem Zg8 (a b:Ent) (h:a.id=b.id):(laterE a b).id=b.id:=by unfold laterE;split<;>simp[h]
theorem Zg9 (a b:Fd) (h:a.id=b.id):(laterF a b).id=b.id:=by unfold laterF;simp only[];split<;>simp[h]
def ordE:Ord Ent ByteArray where
 id:=Ent.id
 op:=laterE
 lt:=ltE
 op_id:=Zg8
 irrefl a:=by simp[ltE,QV.self]
 trans a b c h1 h2:=by simp only[ltE,Yb] at*;exact QV.lt_trans a b c h1 h2
 total a b h:=by
  simp only[ltE,Yb]
  have h1:=QV.anti a b
  have h2:entCmp a b≠0:=λe=>h (ZgH e)
  omega
def joinF (g f:Fd):Fd:={laterF g f with ents:=f.ents.foldl ordE.put g.ents}
def ordF:Ord Fd ByteArray where
 id:=Fd.id
 op:=joinF
 lt:=ltF
 op_id a b h:=Zg9 a b h
 irrefl a:=by simp[ltF,VN.self]
 trans a b c h1 h2:=by simp only[ltF,Yb] at*;exact VN.lt_trans a b c h1 h2
 total a b h:=by
  simp only[ltF,Yb]
  have h1:=VN.anti a b
  have h2:feedCmp a b≠0:=λe=>h (Ze3 e)
  omega
end
section
def eok (e:Ent):Prop:=i64ok e.upd/\e.id.size+e.title.size+e.link.size+e.content.size<=16777216
attribute [local go_sem ↓] Go.wp_at_zero Go.wp_at_succ
end
section
theorem I7 (x y:Int) (w:Wq):
 Calls prog 152 #[nI x,nI y] w λe w'=>e= .returned (nI (if x<y then -1 else if y<x then 1 else 0))/\w'=w:=by
 go_enter func152,ntmps152;go_wp2
 all_goals go_ret
 all_goals exact ⟨by simp_all,rfl⟩
theorem VG (x y:ByteArray) (w:Wq):
 Calls prog 119 #[.string x,.string y] w λe w'=>e= .returned (nI (sCmp x y))/\w'=w:=by
 unfold sCmp;go_enter func119,ntmps119;go_wp2
 all_goals go_ret
 all_goals exact ⟨by simp_all,rfl⟩
theorem KJ (x y:Int) (v:Value) (w:Wq) (h:RSl w 1 v 2 [nI x,nI y]):
 Calls prog 117 #[v] w λe w'=>e= .returned (nI (if x=0 then y else x))/\w'=w:=by
 obtain ⟨_,A,c,rfl,R,Q,_,_⟩:=id h;obtain ⟨ad,rfl,K⟩:=h.at1 0 _ rfl;obtain ⟨I,J,F⟩:=h.at1 1 _ rfl;cases J;rw[add_zero] at K;have M:w.cell? ⟨ad.block,ad.off+1,none⟩=some (nI y):=F;clear F;by_cases D:x=0
 ·subst D;have q:(if (0:Int)=0 then y else 0)=y:=rfl;rw[q];by_cases H:y=0
  ·subst H;go_enter func117,ntmps117;go_wp2;refine IK 3 ?_;rw[rounds_succ];go_wp2;rw[rounds_succ];go_wp2;rw[rounds_succ];go_wp2
   all_goals go_ret
   all_goals exact ⟨rfl,rfl⟩
  ·have U:(y==0)=false:=(by simpa using H);go_enter func117,ntmps117;go_wp2;refine IK 2 ?_;rw[rounds_succ];go_wp2;rw[rounds_succ];go_wp2
   all_goals go_ret
   all_goals exact ⟨rfl,rfl⟩
 ·have S:(x==0)=false:=by simpa using D
  rw[Ze D];go_enter func117,ntmps117;go_wp2;refine IK 1 ?_;rw[rounds_succ];go_wp2
  all_goals go_ret
  all_goals exact ⟨rfl,rfl⟩
attribute [local go_sem ↓] Go.wp_at_zero Go.wp_at_succ
theorem Gy (a b:Ent) (w:Wq):
 Calls prog 114 #[.agg (eCells a).toArray,.agg (eCells b).toArray] w λx w'=>x= .returned (nI (entCmp a b))/\Ext w w':=by
 obtain ⟨F,Q,S,K,q⟩:=a;obtain ⟨H,R,U,M,A⟩:=b;unfold entCmp;obtain ⟨ci,I⟩:∃ci,iCmp A q=ci:=⟨_,rfl⟩;obtain ⟨cs,J⟩:∃cs,sCmp F H=cs:=⟨_,rfl⟩;simp only[I,J];have V:=gd (λw'=>I7 A q w');have Y:=gd (λw'=>VG F H w');rw[J] at Y;rw[show (if A<q then (-1:Int) else if q<A then 1 else 0)=ci from I] at V;have X:=gd (λv w' h=>KJ ci cs v w' h);obtain ⟨res,D⟩:∃res,(if ci=0 then cs else ci)=res:=⟨_,rfl⟩;rw[D] at X;rw[D];clear I J D;unfold eCells;go_enter func114,ntmps114;go_wp2
 go_region_held3 (λw'=>Ext w w'/\w'.cell? ⟨w.heap.size,0,none⟩=some (.string F)/\w'.cell? ⟨w.heap.size,4,none⟩=some (nI q)/\w'.cell? ⟨w.heap.size+1,0,none⟩=some (.string H)/\w'.cell? ⟨w.heap.size+1,4,none⟩=some (nI A))
  ((go_split_ands;refine ⟨?_,?_,?_,?_,?_⟩<;>first|assumption|((repeat (first|exact Ext.refl _|assumption|apply Ext.drew|apply Ext.alloc));done)|((refine Ext.trans ?_ (by assumption));(repeat (first|exact Ext.refl _|assumption|apply Ext.drew|apply Ext.alloc));done)|((refine Ext.cell (by assumption) ?_);first|assumption|(go_keep;done))|(go_keep;done)))
  (first|(go_at_call 152;refine (V.out _).mono ?_;rintro e w1 ⟨rfl,rfl⟩)|(go_at_call 119;refine (Y.out _).mono ?_;rintro e w2 ⟨rfl,rfl⟩)|(go_at_call 117;refine (X.out _ _ (Xi (e:=3) (fr:=(0,0)) (cs:= [nI ci,nI cs]) ?hg (by rfl) (by decide))).mono ?_;(case hg=>exact X6 w _ _ _);rintro e Z ⟨rfl,rfl⟩))
 go_wp2;go_ret;exact ⟨rfl,((((Ext.refl w).alloc _).alloc _).alloc _).drew⟩
end
theorem Zkd {l m:List UInt8} (h:str l=str m):l=m:=by
 have:=Zz (λs:ByteArray=>s.data.toList) h;simpa using this
theorem G1 {a b:ByteArray} (h:a.data.toList=b.data.toList):a=b:=by
 rw[<-Zad a,<-Zad b,h]
def hdr (f:Fd):Fd:={f with ents:= []}
section
variable {m n r:Nat}
def scalar (r:Nat):Prop:=r<55296\/(57344<=r/\r<=1114111)
theorem Gd (h:isChar r=true):scalar r:=by
 unfold isChar at h;unfold scalar;simp only[Yb] at h;omega
theorem Xz (h:n<256):(UInt8.ofNat n).toNat=n:=by simp[Nat.mod_eq_of_lt h]
theorem Zih (h:scalar r):1<=(encN r).length:=by
 unfold scalar at h;unfold encN;rw[Ze (by omega)]
 repeat' split
 all_goals simp
theorem VM (h:r<128):encN r= [UInt8.ofNat r]:=by
 unfold encN;rw[Ze (by omega),Zh h]
theorem Zky (h:128<=r) (k:r<2048):encN r= [UInt8.ofNat (192+r / 64),UInt8.ofNat (128+r % 64)]:=by
 unfold encN;rw[Ze (by omega),Ze (by omega),Zh k]
theorem Zkz (q:scalar r) (h:2048<=r) (k:r<65536):encN r= [UInt8.ofNat (224+r / 4096),UInt8.ofNat (128+r / 64 % 64),UInt8.ofNat (128+r % 64)]:=by
 unfold scalar at q;unfold encN;rw[Ze (by omega),Ze (by omega),Ze (by omega),Zh k]
theorem ZkA (q:scalar r) (h:65536<=r):encN r= [UInt8.ofNat (240+r / 262144),UInt8.ofNat (128+r / 4096 % 64),UInt8.ofNat (128+r / 64 % 64),UInt8.ofNat (128+r % 64)]:=by
 unfold scalar at q;unfold encN;rw[Ze (by omega),Ze (by omega),Ze (by omega),Ze (by omega)]
theorem Zb9 {l:List UInt8} (q:l≠ []) (h:Lib.decodeN l.length (l.getD 0 0).toNat (l.getD 1 0).toNat (l.getD 2 0).toNat (l.getD 3 0).toNat=(r,m)) (A:¬(r=65533/\m=1)):dec l=(r,m):=by
 unfold dec;rw[Ze q,U3,h,Ze A]
theorem Zb8 (h:scalar r) (t:List UInt8):dec (encN r++t)=(r,(encN r).length):=by
 have H:=h;unfold scalar at h;by_cases F:r<128
 ·rw[VM F];refine Zb9 (by simp) ?_ (by omega);have A:(([UInt8.ofNat r]++t).getD 0 0).toNat=r:=Xz (by omega);rw[A];unfold Lib.decodeN;rw[Zh F];rfl
 ·by_cases I:r<2048
  ·rw[Zky (by omega) I];refine Zb9 (by simp) ?_ (by simp);have A:(([UInt8.ofNat (192+r / 64),UInt8.ofNat (128+r % 64)]++t).getD 0 0).toNat=192+r / 64:=Xz (by omega);have e1:(([UInt8.ofNat (192+r / 64),UInt8.ofNat (128+r % 64)]++t).getD 1 0).toNat=128+r % 64:=Xz (by omega);have D:([UInt8.ofNat (192+r / 64),UInt8.ofNat (128+r % 64)]++t).length=t.length+2:=rfl;rw[A,e1,D];unfold Lib.decodeN;rw[Ze (by omega),Zh (by omega),Zh (by omega),show (192+r / 64) % 32*64+(128+r % 64) % 64=r by omega];rfl
  ·by_cases J:r<65536
   ·rw[Zkz H (by omega) J];refine Zb9 (by simp) ?_ (by simp);generalize q: [UInt8.ofNat (224+r / 4096),UInt8.ofNat (128+r / 64 % 64),UInt8.ofNat (128+r % 64)]=l;have A:((l++t).getD 0 0).toNat=224+r / 4096:=(by rw[<-q];exact Xz (by omega));have e1:((l++t).getD 1 0).toNat=128+r / 64 % 64:=(by rw[<-q];exact Xz (by omega));have e2:((l++t).getD 2 0).toNat=128+r % 64:=(by rw[<-q];exact Xz (by omega));have D:(l++t).length=t.length+3:=(by rw[<-q];rfl);rw[A,e1,e2,D];unfold Lib.decodeN;rw[Ze (by omega),Ze (by omega),Zh (by omega),Zh (by omega),show (224+r / 4096) % 16*4096+(128+r / 64 % 64) % 64*64+(128+r % 64) % 64=r by omega,<-q];rfl
   ·rw[ZkA H (by omega)];refine Zb9 (by simp) ?_ (by simp);generalize q: [UInt8.ofNat (240+r / 262144),UInt8.ofNat (128+r / 4096 % 64),UInt8.ofNat (128+r / 64 % 64),UInt8.ofNat (128+r % 64)]=l;have A:((l++t).getD 0 0).toNat=240+r / 262144:=(by rw[<-q];exact Xz (by omega));have e1:((l++t).getD 1 0).toNat=128+r / 4096 % 64:=(by rw[<-q];exact Xz (by omega));have e2:((l++t).getD 2 0).toNat=128+r / 64 % 64:=(by rw[<-q];exact Xz (by omega));have e3:((l++t).getD 3 0).toNat=128+r % 64:=(by rw[<-q];exact Xz (by omega));have D:(l++t).length=t.length+4:=(by rw[<-q];rfl);rw[A,e1,e2,e3,D];unfold Lib.decodeN;rw[Ze (by omega),Ze (by omega),Ze (by omega),Zh (by omega),Zh (by omega),show (240+r / 262144) % 8*262144+(128+r / 4096 % 64) % 64*4096+(128+r / 64 % 64) % 64*64+(128+r % 64) % 64=r by omega,<-q];rfl
theorem Iu:∀(k n:Nat) (l:List UInt8) (r m:Nat),refFrom k n l=(r,m)->m≠0->encN r=l.take m/\m<=l.length
 |0,n,l,r,m,h,hm=>by simp only[refFrom,Prod.mk.injEq] at h;exact absurd h.2.symm hm
 |k+1,n,l,r,m,h,hm=>by
  unfold refFrom at h
  split at h
  ·rename_i q
   split at h
   ·rename_i A
    simp only[Prod.mk.injEq] at h
    obtain ⟨rfl,rfl⟩:=h
    exact ⟨A,q.2⟩
   ·exact Iu k (n+1) l r m h hm
  ·simp only[Prod.mk.injEq] at h;exact absurd h.2.symm hm
theorem Zbd {l:List UInt8} (h:dec l=(r,m)) (q:m≠0):l=encN r++l.drop m:=by
 have A:l≠ []:=by intro e;rw[e] at h;simp only[dec,Zjw,Prod.mk.injEq] at h;exact q h.2.symm
 rw[<-Q1 l A] at h;have:=(Iu 4 1 l r m h q).1;rw[this,Xe]
def isText (l:List UInt8):Prop:=∃rs:List Nat,(∀r∈rs,isChar r=true)/\l=rs.flatMap encN
theorem VQ:isText []:=⟨[],by simp,rfl⟩
theorem Jz {l m:List UInt8} (h:isText l) (k:isText m):isText (l++m):=by
 obtain ⟨rs,q,rfl⟩:=h;obtain ⟨F,A,rfl⟩:=k;exact ⟨rs++F,λr D=>(Zt.1 D).elim (q r) (A r),by simp⟩
theorem Ez (h:isChar r=true):isText (encN r):=⟨[r],by simpa using h,by simp⟩
theorem Qb:∀(n at_:Nat) (l:List UInt8),l.length<=n->(checkGo n at_ l).2=0->isText l
 |0,_,l,hl,_=>by
  have e:l= []:=Zw (by omega)
  rw[e];exact VQ
 |n+1,at_,l,hl,h=>by
  by_cases D:l= []
  ·subst D;exact VQ
  ·rw[UM n at_ l D] at h
   by_cases q:(dec l).2=0
   ·rw[Zh q] at h;simp at h
   ·rw[Ze q] at h
    by_cases A:isChar (dec l).1=false
    ·rw[Zh A] at h;simp at h
    ·rw[Ze A] at h
     have F:=Zbd (l:=l) (r:=(dec l).1) (m:=(dec l).2) rfl q
     rw[F]
     refine Jz (Ez (by simpa using A)) (Qb n _ _ ?_ h)
     rw[Zj];omega
theorem I6:∀(rs:List Nat) (n at_:Nat),(∀r∈rs,isChar r=true)->(rs.flatMap encN).length<=n->(checkGo n at_ (rs.flatMap encN)).2=0
 | [],n,at_,_,_=>by rw[List.flatMap_nil,Za9]
 |r::rs,n,at_,h,hl=>by
  have q:isChar r=true:=h r (by simp)
  have D:=Zih (Gd q)
  have A:=Zb8 (Gd q) (rs.flatMap encN)
  rw[List.flatMap_cons] at hl|-
  rw[Zc] at hl
  obtain ⟨n,rfl⟩:∃k,n=k+1:=⟨n - 1,by omega⟩
  rw[UM n at_ _ (by intro e;have:=Zz List.length e;rw[Zc,ZK] at this;omega),A]
  rw[Ze (by simp only[];omega),Ze (by simp[q])]
  simp only[List.drop_left]
  exact I6 rs n _ (λr q=>h r (by simp[q])) (by omega)
theorem Zgr (l:List UInt8):(check l).2=0↔isText l:=
 ⟨Qb _ _ _ (Zb _),λ⟨rs,h,e⟩=>by subst e;exact I6 rs _ _ h (Zb _)⟩
theorem Xa {s:ByteArray} (h:validS s=true):collapse s=s:=by
 unfold validS at h;simp only[ZZ,JI] at h;rw[<-Zad (collapse s),h.2,Zad]
theorem Qq {s:ByteArray} (h:validS s=true):(checkS s).2=0:=by
 unfold validS at h;simp only[ZZ,Yb] at h;exact h.1
end
section
variable {i k:Nat} {α:Type}
def noS:ByteArray:=⟨#[]⟩
def zeroE:Ent:=⟨noS,noS,noS,noS,0⟩
def zeroF:Fd:=⟨[],noS,noS,noS,0,[]⟩
def inT (t:Int):Bool:=decide (-62135596800<=t) && decide (t<=253402300799)
def firstErr:List ByteArray->Nat
 | []=>0
 |s::t=>if (checkS s).2=0 then firstErr t else (checkS s).2
def strsE (e:Ent):List ByteArray:= [e.id,e.title,e.link,e.content]
def strsF (f:Fd):List ByteArray:=f.path++ [f.id,f.title,f.link]
def collE (e:Ent):Ent:=⟨collapse e.id,collapse e.title,collapse e.link,collapse e.content,e.upd⟩
def collF (f:Fd):Fd:=⟨f.path.map collapse,collapse f.id,collapse f.title,collapse f.link,f.upd,ordE.canon (f.ents.map collE)⟩
def errE (e:Ent):Nat:=if firstErr (strsE e)≠0 then firstErr (strsE e) else if collapse e.id=noS then 19 else if inT e.upd then 0 else 3
def errEs:List Ent->Nat
 | []=>0
 |e::t=>if errE e=0 then errEs t else errE e
def headF (f:Fd):Nat:=if firstErr (strsF f)≠0 then firstErr (strsF f) else if collapse f.id=noS\/(f.path.any λp=>decide (collapse p=noS))=true then 19 else if 64<f.path.length then 9 else if inT f.upd then 0 else 3
def errF (f:Fd):Nat:=if headF f=0 then errEs f.ents else headF f
def errFs:List Fd->Nat
 | []=>0
 |f::t=>if errF f=0 then errFs t else errF f
def normE (e:Ent):Ent:=if errE e=0 then collE e else zeroE
def normF (f:Fd):Fd:=if errF f=0 then collF f else zeroF
def normA (l:List Fd):List Fd:=if errFs l=0 then ordF.canon (l.map collF) else []
def okAt {α κ:Type} [DecidableEq κ] (ok:α->Bool) (O:Ord α κ) (l:List α) (i:Nat):Bool:=
 match l[i]? with
 |none=>true
 |some x=>ok x && (decide (i=0)||(match l[i - 1]? with|none=>true|some y=>O.lt y x)) && (l.take i).all λy=>decide (O.id y≠O.id x)
def okL {α κ:Type} [DecidableEq κ] (ok:α->Bool) (O:Ord α κ) (l:List α):Bool:=(List.range l.length).all (okAt ok O l)
def okE (e:Ent):Bool:=(strsE e).all validS && !decide (e.id=noS) && inT e.upd
def okH (f:Fd):Bool:=decide (f.path.length<=64) && (strsF f).all validS && !decide (f.id=noS) && inT f.upd && f.path.all λp=> !decide (p=noS)
def okF (f:Fd):Bool:=okH f && okL okE ordE f.ents
def okA (l:List Fd):Bool:=okL okF ordF l
section
variable {α κ:Type} [DecidableEq κ] {ok:α→Bool} {O:Ord α κ}
theorem UP {l:List α} (D:i<l.length):okAt ok O l i=true↔ok l[i]=true/\(∀h:0<i,O.lt l[i - 1] l[i]=true)/\∀j (A:j<i),O.id l[j]≠O.id l[i]:=by
 unfold okAt;rw[Zr D];simp only[ZZ,Bool.or_eq_true,Yb,Yq,and_assoc];refine and_congr Iff.rfl (and_congr ?_ ?_)
 ·rw[Zr (show i - 1<l.length by omega)];constructor
  ·rintro (h|h) q
   ·omega
   ·exact h
  ·intro h;rcases YY i with q|q
   ·exact Or.inl q
   ·exact Or.inr (h q)
 ·constructor
  ·intro h j A;refine h _ ?_;exact List.mem_take_iff_getElem.2 ⟨j,by omega,rfl⟩
  ·intro h x F;obtain ⟨j,A,rfl⟩:=List.mem_take_iff_getElem.1 F;exact h j (by omega)
theorem VX {l:List α}:okL ok O l=true↔(∀x∈l,ok x=true)/\O.sorted l/\l.Pairwise λa b=>O.id a≠O.id b:=by
 unfold okL;simp only[Yq,List.mem_range];constructor
 ·intro h;refine ⟨λx K=> ?_,?_,?_⟩
  ·obtain ⟨i,q,rfl⟩:=List.mem_iff_getElem.1 K;exact ((UP q).1 (h i q)).1
  ·refine Y7.2 λi j q F D=> ?_;have step:∀d i (A:i+d+1<l.length),O.lt l[i] l[i+d+1]=true:=by
    intro d
    induction d with
    |zero=>intro i A;exact ((UP A).1 (h (i+1) A)).2.1 (by omega)
    |succ d ih=>intro i A;have H:=ih i (by omega);have I:=((UP A).1 (h _ A)).2.1 (by omega);exact O.trans _ _ _ H I
   have:=step (j - i - 1) i (by omega);simpa [show i+(j - i - 1)+1=j by omega] using this
  ·exact Y7.2 λi j q F D=>((UP F).1 (h j F)).2.2 i D
 ·rintro ⟨H,I,J⟩ i q;rw[UP q];exact ⟨H _ (ZL q),λM=>Y7.1 I (i - 1) i (by omega) q (by omega),λj F=>Y7.1 J j i (by omega) q F⟩
end
theorem Zj1 {e:Ent}:okE e=true↔(∀s∈strsE e,validS s=true)/\e.id≠noS/\inT e.upd=true:=by
 unfold okE;simp only[ZZ,Yq,Vz,Jj,and_assoc,ne_eq]
theorem JR {f:Fd}:okH f=true↔f.path.length<=64/\(∀s∈strsF f,validS s=true)/\f.id≠noS/\inT f.upd=true/\∀p∈f.path,p≠noS:=by
 unfold okH;simp only[ZZ,Yq,Vz,Jj,Yb,and_assoc,ne_eq]
theorem Ue {f:Fd}:okF f=true↔okH f=true/\okL okE ordE f.ents=true:=by unfold okF;rw[ZZ]
theorem ZbH {κ:Type} [DecidableEq κ] {ok:α->Bool} {O:Ord α κ} {l:List α} (h:okL ok O l=true):O.canon l=l:=by
 have h:=VX.1 h;exact O.canon_self h.2.1 h.2.2
theorem Gc {l:List ByteArray}:firstErr l=0↔∀s∈l,(checkS s).2=0:=by
 induction l with
 |nil=>simp[firstErr]
 |cons s t ih=>
  unfold firstErr;by_cases h:(checkS s).2=0
  ·rw[Zh h,ih];simp[h]
  ·rw[Ze h];simp[h]
theorem Zas {l:List ByteArray} (h:k<l.length):firstErr (l.drop k)=if (checkS l[k]).2=0 then firstErr (l.drop (k+1)) else (checkS l[k]).2:=by
 rw[Zi h];rfl
theorem Zbj {e:Ent}:errE e=0↔firstErr (strsE e)=0/\collapse e.id≠noS/\inT e.upd=true:=by
 unfold errE;by_cases h:firstErr (strsE e)=0
 ·rw[Ze (by simpa using h)];by_cases k:collapse e.id=noS
  ·rw[Zh k];simp[k]
  ·rw[Ze k];simp[h,k]
 ·rw[Zh h];simp[h]
theorem Zfa {f:Fd}:headF f=0↔firstErr (strsF f)=0/\collapse f.id≠noS/\(∀p∈f.path,collapse p≠noS)/\f.path.length<=64/\inT f.upd=true:=by
 unfold headF;by_cases h:firstErr (strsF f)=0
 ·rw[Ze (by simpa using h)];by_cases k:collapse f.id=noS\/(f.path.any λp=>decide (collapse p=noS))=true
  ·rw[Zh k];constructor
   ·intro q;omega
   ·rintro ⟨_,F,H,_⟩;rcases k with k|k
    ·exact absurd k F
    ·obtain ⟨p,D,e⟩:=Xp.1 k;exact absurd (Y4 e) (H p D)
  ·rw[Ze k];have I:collapse f.id≠noS:=λe=>k (Or.inl e);have J:∀p∈f.path,collapse p≠noS:=λp D e=>k (Or.inr (Xp.2 ⟨p,D,YQ e⟩));by_cases g:64<f.path.length
   ·rw[Zh g];constructor
    ·intro q;omega
    ·rintro ⟨_,_,_,q,_⟩;omega
   ·rw[Ze g];have g':f.path.length<=64:=(by omega);by_cases A:inT f.upd=true
    ·rw[Zh A];exact ⟨λ_=>⟨h,I,J,g',A⟩,λ_=>rfl⟩
    ·rw[Ze A];exact ⟨λq=>by omega,λq=>absurd q.2.2.2.2 A⟩
 ·rw[Zh h];exact ⟨λq=>absurd q h,λq=>absurd q.1 h⟩
theorem Ei {l:List Ent}:errEs l=0↔∀e∈l,errE e=0:=by
 induction l with
 |nil=>simp[errEs]
 |cons s t ih=>
  unfold errEs;by_cases h:errE s=0
  ·rw[Zh h,ih];simp[h]
  ·rw[Ze h];simp[h]
theorem ZgK {f:Fd}:errF f=0↔headF f=0/\errEs f.ents=0:=by
 unfold errF;by_cases h:headF f=0
 ·rw[Zh h];simp[h]
 ·rw[Ze h];simp[h]
theorem Ej {l:List Fd}:errFs l=0↔∀e∈l,errF e=0:=by
 induction l with
 |nil=>simp[errFs]
 |cons s t ih=>
  unfold errFs;by_cases h:errF s=0
  ·rw[Zh h,ih];simp[h]
  ·rw[Ze h];simp[h]
theorem Zdb {e:Ent} (h:okE e=true):errE e=0/\collE e=e:=by
 obtain ⟨q,A,D⟩:=Zj1.1 h;have c1:=Xa (q e.id (by simp[strsE]));have c2:=Xa (q e.title (by simp[strsE]));have c3:=Xa (q e.link (by simp[strsE]));have c4:=Xa (q e.content (by simp[strsE]));refine ⟨Zbj.2 ⟨Gc.2 λs F=>Qq (q s F),by rw[c1];exact A,D⟩,?_⟩;unfold collE;rw[c1,c2,c3,c4]
theorem Kf {g:α->α}:∀{l:List α},(∀x∈l,g x=x)->l.map g=l
 | [],_=>rfl
 |x::t,h=>by rw[ZP,h x (by simp),Kf λy q=>h y (by simp[q])]
theorem Zdc {f:Fd} (h:okF f=true):errF f=0/\collF f=f:=by
 obtain ⟨K,F⟩:=Ue.1 h;obtain ⟨I,q,g3,g4,J⟩:=JR.1 K;have c1:=Xa (q f.id (by simp[strsF]));have c2:=Xa (q f.title (by simp[strsF]));have c3:=Xa (q f.link (by simp[strsF]));have c4:∀p∈f.path,collapse p=p:=λp A=>Xa (q p (by simp[strsF,A]));have H:=(VX.1 F).1;refine ⟨ZgK.2 ⟨Zfa.2 ⟨Gc.2 λs M=>Qq (q s M),by rw[c1];exact g3,λp A=>by rw[c4 p A];exact J p A,I,g4⟩,Ei.2 λe D=>(Zdb (H e D)).1⟩,?_⟩;unfold collF;rw[c1,c2,c3,Kf c4,Kf λe D=>(Zdb (H e D)).2,ZbH F]
theorem EL {l:List Fd} (h:okA l=true):errFs l=0/\normA l=l:=by
 have A:=(VX.1 h).1;have e:errFs l=0:=Ej.2 λf q=>(Zdc (A f q)).1;refine ⟨e,?_⟩;unfold normA;rw[Zh e,Kf λf q=>(Zdc (A f q)).2,ZbH h]
end
section
variable {B:Nat} {b w w':World} {v:Value}
theorem Ext.setBoth {a:Wq} (h:Below B a b) (p:Addr) (v:Value):Below B (a.setCell p v) (b.setCell p v):=by
 refine ⟨h.os,h.tape,h.output,?_,λk q=> ?_⟩
 ·simpa [World.setCell] using h.size
 ·simp only[World.setCell,Xd,h.block k q]
def setS (w:Wq):List (Addr×ByteArray)->Wq
 | []=>w
 |p::t=>setS (w.setCell p.1 (.string p.2)) t
theorem ZbQ:∀(l:List (Addr×ByteArray)) (w:Wq) (p:Addr×ByteArray),setS w (l++ [p])=(setS w l).setCell p.1 (.string p.2)
 | [],_,_=>rfl
 |q::t,w,p=>ZbQ t (w.setCell q.1 (.string q.2)) p
theorem Q2:∀(l:List (Addr×ByteArray)) (w:Wq),(setS w l).heap.size=w.heap.size
 | [],_=>rfl
 |p::t,w=>by rw[setS,Q2 t];simp[World.setCell]
theorem QI:∀(l:List (Addr×ByteArray)) (w:Wq) (a:Addr),(setS w l).frozen? a=w.frozen? a
 | [],_,_=>rfl
 |p::t,w,a=>by rw[setS,QI t,Xw]
theorem UT:∀(l:List (Addr×ByteArray)) (w:Wq) (a:Addr),(∀p∈l,p.1≠a)->(setS w l).cell? a=w.cell? a
 | [],_,_,_=>rfl
 |p::t,w,a,h=>by rw[setS,UT t _ a (λq A=>h q (by simp[A])),Y8 w p.1 a _ (h p (by simp))]
structure Ptrs (w:Wq) (v:Value) (ps:List (Addr×ByteArray)):Prop where
 row:RSl w 1 v ps.length (ps.map λp=>Value.pointer (some p.1))
 cells:∀p∈ps,w.cell? p.1=some (.string p.2)/\w.frozen? p.1=false
 size:∀p∈ps,p.2.size<=16777216
 apart:ps.Pairwise λp q=>p.1≠q.1
theorem I3 {a:Addr} (h:Below B w w') (A:w.heap.size<=B) (q:w.cell? a=some v):w'.cell? a=some v:=
 (Below.cell h (YE (ZS w a q) A)).trans q
theorem Js (v:Value) (ps:List (Addr×ByteArray)) (w:Wq) (hE:Env w) (h:Ptrs w v ps):
 Calls prog 103 #[v] w λe w'=>e= .returned (nI (firstErr (ps.map (·.2)):Nat))/\
  ((firstErr (ps.map (·.2))=0/\Below w.heap.size (setS w (ps.map λp=>(p.1,collapse p.2))) w')\/(firstErr (ps.map (·.2))≠0/\Ext w w')):=by
 obtain ⟨M,F,ht,hu⟩:=h;obtain ⟨_,A,c,rfl,hs,hl,_,_⟩:=id M;have hA:ps.length<=9223372036854775807:=Zu hs hl;clear hs hl;obtain ⟨E,R⟩:∃E,firstErr (ps.map (·.2))=E:=⟨_,rfl⟩;rw[R];go_enter func103,ntmps103;go_wp2;go_loopw [11] (λi wr=>∃k:Nat,k<=ps.length/\i=nI k/\Hid (E=firstErr ((ps.map (·.2)).drop k))/\Ext w wr) (λi _=>ps.length - (intOf i).toNat)
 case atStart=>exact ⟨0,Zk _,rfl,R.symm,Ext.refl _⟩
 case round=>
  obtain ⟨k,hk,rfl,hf,hx⟩:=hrel;by_cases D:k<ps.length
  ·obtain ⟨ad,rfl,I⟩:=(M.ext hx).at1 k (.pointer (some ps[k].1)) (by rw[YD,Zr D];rfl);have Q:=hx.cell (F ps[k] (ZL D)).1;have U:=Zas (l:=ps.map (·.2)) (k:=k) (by rw[Zs];exact D);rw[Ju] at U;have HC:=gd (Vf ps[k].2 wr (hE.ext hx) (by have:=ht ps[k] (ZL D);unfold maxLen;omega));obtain ⟨O,hO⟩:∃O,(checkS ps[k].2).1=O:=⟨_,rfl⟩;obtain ⟨K,hK⟩:∃K,(checkS ps[k].2).2=K:=⟨_,rfl⟩;obtain ⟨S,hS⟩:∃S,ps[k].2=S:=⟨_,rfl⟩;obtain ⟨a,ha⟩:∃a,ps[k].1=a:=⟨_,rfl⟩;rw[hK] at U;rw[hO,hK,hS] at HC;rw[hS,ha] at Q;rw[ha] at I;have H:=hf.out.trans U;clear U hf hO hK hS ha R;by_cases h0:K=0
   ·subst h0;rw[Zh rfl] at H;have HF:=gd H;clear H
    go_wp2_with (first|(go_at_call 150;refine (HC.out).mono ?_;rintro e w' ⟨rfl,hh⟩))
    go_roundw
    case rel=>exact ⟨k+1,D,by go_num,HF.out,hx.trans hh⟩
    case measure=>simp[intOf];omega
   ·have Y:((K:Int) !=0)=true:=(by simp;omega);rw[Ze h0] at H;subst H;have ho:(E=0/\Below w.heap.size (setS w (ps.map λp=>(p.1,collapse p.2))) w)\/E≠0:=Or.inr h0;clear ho;have H0:=gd h0;clear h0
    go_wp2_with (first|(go_at_call 150;refine (HC.out).mono ?_;rintro e w' ⟨rfl,hh⟩))
    go_ret;exact ⟨rfl,Or.inr ⟨H0.out,hx.trans hh⟩⟩
  ·have hd:k=ps.length:=(by omega);have H:=hf.out;rw[ZC (by rw[Zs];omega)] at H;have hn:E=0:=H;subst hn;subst hd;clear H D hf R hk;obtain ⟨wo,rfl⟩:∃wo:Wq,wo=wr:=⟨_,rfl⟩;go_wp2;go_loopw [28] (λi w2=>∃k:Nat,k<=ps.length/\i=nI k/\Below w.heap.size (setS w ((ps.take k).map λp=>(p.1,collapse p.2))) w2/\w.heap.size<=w2.heap.size) (λi _=>ps.length - (intOf i).toNat)
   case atStart=>exact ⟨0,Zk _,rfl,hx,hx.size⟩
   case round=>
    obtain ⟨k,hk,rfl,Y,hz⟩:=hrel;by_cases D:k<ps.length
    ·obtain ⟨Z,J⟩:∃Z,setS w ((ps.take k).map λp=>(p.1,collapse p.2))=Z:=⟨_,rfl⟩;have X:Z.heap.size=w.heap.size:=(by rw[<-J,Q2]);obtain ⟨ad,rfl,hc⟩:=M.at1 k (.pointer (some ps[k].1)) (by rw[YD,Zr D];rfl);have he:=F ps[k] (ZL D);have hg:Z.cell? ps[k].1=some (.string ps[k].2):=(by rw[<-J,UT,he.1];intro p hp;obtain ⟨q,hq,rfl⟩:=Z3.1 hp;obtain ⟨j,hj,rfl⟩:=List.mem_take_iff_getElem.1 hq;exact Y7.1 hu j k (by omega) D (by omega));have hm:Z.frozen? ps[k].1=false:=(by rw[<-J,QI];exact he.2);have hi:Z.cell? (ad.add k)=some (.pointer (some ps[k].1)):=(by rw[<-J,UT,hc];intro p hp e;obtain ⟨q,hq,rfl⟩:=Z3.1 hp;have:=(F q (Jb hq)).1;simp only at e;rw[e,hc] at this;cases this);have hB:ps[k].1.block<w.heap.size:=(by have:=ZS Z _ hg;omega);rw[J] at Y;have I:=I3 Y (Nat.le_of_eq X) hi;have Q:=I3 Y (Nat.le_of_eq X) hg;have hr:wr.frozen? ps[k].1=false:=(Jo Y hB).trans hm;have HT:Hid (setS w ((ps.take (k+1)).map λp=>(p.1,collapse p.2))=Z.setCell ps[k].1 (.string (collapse ps[k].2))):=(by show _=_;rw[Zx D,ZR,ZP,Yv,ZbQ,J]);have HC:=gd (Uu ps[k].2 wr (by have:=ht ps[k] (ZL D);omega));have HZ:=gd hz;have hy:=gd X;clear hz X he hg hm hi hc J;obtain ⟨a,ha⟩:∃a,ps[k].1=a:=⟨_,rfl⟩;obtain ⟨S,hS⟩:∃S,ps[k].2=S:=⟨_,rfl⟩;rw[ha] at I Q hr HT hB;rw[hS] at Q HT HC;clear ha hS
     go_wp2_with (first|(go_at_call 32;refine (HC.out).mono ?_;rintro e w3 ⟨rfl,V⟩;(have hw:=V.cell Q);(have hv:=(Jo V (YE hB HZ.out)).trans hr)))
     go_roundw
     case rel=>exact ⟨k+1,D,by go_num,by rw[HT.out];exact Ext.setBoth (Y.trans (Zgh V HZ.out)) _ _,by have:=V.size;have:=HZ.out;simp[World.setCell];omega⟩
     case measure=>simp[intOf];omega
    ·have hd:k=ps.length:=(by omega);subst hd;rw[ZT (Zb _)] at Y;clear D hk;go_wp2;go_ret;exact ⟨rfl,Y⟩
end
section
variable {c m n:Nat} {w:World} {xs:List Value}
theorem GD (t:Int) (w:Wq):
 Calls prog 105 #[nI t] w λe w'=>e= .returned (.bool (inT t))/\w=w':=by
 unfold inT;go_enter func105,ntmps105;go_wp2
 all_goals go_ret
 all_goals exact ⟨by simp_all<;>omega,rfl⟩
theorem RSl.at1' {size:Nat} {A:Option Addr} (h:RSl w size (.slice A m c) n xs) (k:Nat) (u:Value) (q:xs[k]? =some u):∃ad,A=some ad/\w.cell? (ad.add k)=some u:=h.at1 k u q
end
section
variable {P:Program} {cs:Array Value} {ty:TypeId} {w w' w1:World}
def eokS (e:Ent):Prop:=e.id.size<=16777216/\e.title.size<=16777216/\e.link.size<=16777216/\e.content.size<=16777216
theorem Zq (w:Wq) (o:Obj):(w.alloc o).heap.size=w.heap.size+1:=by show (w.heap.push o).size=_;simp
theorem Ext.boxedF {t:TypeId} (h:Ext (w.alloc (.cells cs t)) w') (i:Nat):w'.frozen? ⟨w.heap.size,i,none⟩=false:=
 ZX (h.heap (Zg w _)) i
theorem ZaV (w:Wq) (cs:Array Value) (t:TypeId) (fr:Nat×Nat) (i:Nat) (v:Value) (A:i<cs.size):(w.alloc (.cells cs t fr)).setCell ⟨w.heap.size,i,none⟩ v=w.alloc (.cells (cs.setIfInBounds i v) t fr):=by
 simp only[World.setCell,World.alloc]
 congr 1
 apply Array.ext_getElem?;intro k;rw[Xd];by_cases q:w.heap.size=k
 ·subst q;simp
 ·rw[Ze q];rcases Nat.lt_or_gt_of_ne q with h|h
  ·rw[YP (by simp;omega),YP (by simp;omega)]
  ·rw[Array.getElem?_push_lt h,Array.getElem?_push_lt h]
theorem JT (w:Wq) (cs:Array Value) (t:TypeId) (fr:Nat×Nat) (B C:Obj) (i:Nat) (v:Value) (A:i<cs.size):
 (((w.alloc (.cells cs t fr)).alloc B).alloc C).setCell ⟨w.heap.size,i,none⟩ v=((w.alloc (.cells (cs.setIfInBounds i v) t fr)).alloc B).alloc C:=by
 have q:∀(W:Wq) (O:Obj) (p:Addr) (u:Value),p.block<W.heap.size->(W.alloc O).setCell p u=(W.setCell p u).alloc O:=by
  intro W O p u D;simp only[World.setCell,World.alloc]
  congr 1
  apply Array.ext_getElem?;intro k;rw[Xd];rcases Nat.lt_trichotomy k W.heap.size with h|h|h
  ·rw[Array.getElem?_push_lt h,Array.getElem?_push_lt (by simpa using h)];simp[Array.getElem_modify];split<;>simp
  ·subst h;have:¬p.block=W.heap.size:=(by omega);have e1:(W.heap.push O)[W.heap.size]? =some O:=(by simp);have e2:∀f:Obj->Obj,((W.heap.modify p.block f).push O)[W.heap.size]? =some O:=by
    intro f;have:=Array.getElem?_push_size (xs:=W.heap.modify p.block f) (x:=O)
    rwa [Array.size_modify] at this
   rw[Ze this,e1,e2]
  ·rw[YP (by simp;omega),YP (by simp;omega)];split<;>rfl
 rw[q _ C _ _ (by simp;omega),q _ B _ _ (by simp),ZaV _ _ _ _ _ _ A]
theorem XY {A:Array Value} {t:TypeId} {fr:Nat×Nat} {B C:Obj} (d:Aft (((w.alloc (.cells A t fr)).alloc B).alloc C)) (i:Nat) (v:Value) (h:A[i]? =some v):d.w.cell? ⟨w.heap.size,i,none⟩=some v:=
 Ext.boxed (((Ext.refl _).alloc B).alloc C|>.trans d.ext) i v h
theorem ZhJ (w:Wq) (a0 h c0 q a b c d:ByteArray) (x:Value) (t:TypeId) (fr:Nat×Nat) (B C:Obj):
 setS (((w.alloc (.cells #[.string a0,.string h,.string c0,.string q,x] t fr)).alloc B).alloc C) [(⟨w.heap.size,0,none⟩,a),(⟨w.heap.size,1,none⟩,b),(⟨w.heap.size,2,none⟩,c),(⟨w.heap.size,3,none⟩,d)]
  =((w.alloc (.cells #[.string a,.string b,.string c,.string d,x] t fr)).alloc B).alloc C:=by
 simp only[setS];rw[JT _ _ _ _ _ _ _ _ (by simp),JT _ _ _ _ _ _ _ _ (by simp),JT _ _ _ _ _ _ _ _ (by simp),JT _ _ _ _ _ _ _ _ (by simp)];rfl
theorem Z6 {q:Func} {p u:Tmp} (h:q.results=#[.cell p ty,.tmp u]) (tmps:Array Value) (w:Wq) (g:Nat) (t:TypeId) (cs:Array Value) (fr:Nat×Nat) (d:TypeDesc)
 (H:tmps.getD p undef= .pointer (some ⟨g,0,none⟩)) (D:w.heap[g]? =some (.cells cs t fr))
 (I:P.underlying ty=some d) (A:(match d with| .struct _| .array _ _=>true|_=>false)=true) (F:(P.info? ty).map (·.size)=some cs.size):
 (results q tmps).run P w= .ok (.tuple #[.agg cs,tmps.getD u undef]) w:=by
 rw[results_cell_tmp h,H];simp[asAddr,run_loadVar_row w g t ty cs fr d D I A F]
theorem Zcp {cs:List Value} (h:∀u∈cs,u.oneCell'=true):cs.toArray.all (λu=>u.oneCell')=true:=by simpa using h
theorem JU:(prog.info? 76).map (λi=>i.size)=some 5:=by kernel_rfl
theorem XE (e:Ent):∀u∈eCells e,u.oneCell'=true:=by
 intro u h;simp[eCells] at h;rcases h with rfl|rfl|rfl|rfl|rfl<;>rfl
theorem Zcf {A B C:Obj} (q:Ext (((w.alloc A).alloc B).alloc C) w1):w1.heap[w.heap.size+1]? =some B:=by
 have h:(((w.alloc A).alloc B).alloc C).heap[w.heap.size+1]? =some B:=by
  rw[Below.heap_alloc _ _ _ (by simp)];have:=Zg (w.alloc A) B
  rwa [Zq] at this
 exact q.heap h
abbrev entW (w:Wq) (e:Ent):Wq:=((w.alloc (.cells (eCells e).toArray 76)).alloc (.cells (eCells zeroE).toArray 76)).alloc (.cells #[.pointer (some ⟨w.heap.size,0,none⟩),.pointer (some ⟨w.heap.size,1,none⟩),.pointer (some ⟨w.heap.size,2,none⟩),.pointer (some ⟨w.heap.size,3,none⟩)] 157)
theorem Zbh (w:Wq) (e:Ent) (A:eokS e):Ptrs (entW w e) (.slice (some ⟨w.heap.size+1+1,0,none⟩) 4 4) [(⟨w.heap.size,0,none⟩,e.id),(⟨w.heap.size,1,none⟩,e.title),(⟨w.heap.size,2,none⟩,e.link),(⟨w.heap.size,3,none⟩,e.content)]:=by
 obtain ⟨D,F,H,I⟩:=A;refine ⟨Xi (e:=157) (fr:=(0,0)) (cs:= [_,_,_,_]) (X6 w _ _ _) rfl (by decide),?_,?_,?_⟩
 ·have h:Ext (w.alloc (.cells (eCells e).toArray 76)) (entW w e):=((Ext.refl _).alloc _).alloc _;intro p q;simp only[ZF,Ya,Xs] at q;rcases q with rfl|rfl|rfl|rfl
  ·exact ⟨h.boxed 0 _ rfl,h.boxedF 0⟩
  ·exact ⟨h.boxed 1 _ rfl,h.boxedF 1⟩
  ·exact ⟨h.boxed 2 _ rfl,h.boxedF 2⟩
  ·exact ⟨h.boxed 3 _ rfl,h.boxedF 3⟩
 ·intro p q;simp only[ZF,Ya,Xs] at q;rcases q with rfl|rfl|rfl|rfl<;>assumption
 ·simp
theorem Zdj (e:Ent) (w:Wq) (D:Env w) (F:eokS e) (q:firstErr (strsE e)≠0):
 Calls prog 103 #[.slice (some ⟨w.heap.size+1+1,0,none⟩) 4 4] (entW w e) λx w'=>x= .returned (nI (firstErr (strsE e):Nat))/\Ext (entW w e) w':=by
 refine (Js _ _ _ (((D.alloc _).alloc _).alloc _) (Zbh w e F)).mono ?_;rintro x w' ⟨A,h⟩;refine ⟨A,?_⟩;rcases h with h|h
 ·exact absurd h.1 q
 ·exact h.2
theorem Ze2 (e:Ent) (w:Wq) (J:Env w) (K:eokS e) (H:firstErr (strsE e)=0):
 Calls prog 103 #[.slice (some ⟨w.heap.size+1+1,0,none⟩) 4 4] (entW w e) λx w'=>x= .returned (nI 0)/\Ext (entW w (collE e)) w':=by
 refine (Js _ _ _ (((J.alloc _).alloc _).alloc _) (Zbh w e K)).mono ?_;rintro x w' ⟨D,h⟩;have q:firstErr (List.map (·.2) [((⟨w.heap.size,0,none⟩:Addr),e.id),(⟨w.heap.size,1,none⟩,e.title),(⟨w.heap.size,2,none⟩,e.link),(⟨w.heap.size,3,none⟩,e.content)])=0:=H;rw[q] at D h;refine ⟨D,?_⟩;rcases h with h|h
 ·have I:=h.2;have e1:=ZhJ w e.id e.title e.link e.content (collapse e.id) (collapse e.title) (collapse e.link) (collapse e.content) (nI e.upd) 76 (0,0) (.cells (eCells zeroE).toArray 76) (.cells #[.pointer (some ⟨w.heap.size,0,none⟩),.pointer (some ⟨w.heap.size,1,none⟩),.pointer (some ⟨w.heap.size,2,none⟩),.pointer (some ⟨w.heap.size,3,none⟩)] 157);have F:Below (entW w e).heap.size (entW w (collE e)) w':=by have A:=I;simp only[ZP,Yv] at A;rw[show setS (entW w e) _=entW w (collE e) from e1] at A;exact A
  have e2:(entW w e).heap.size=(entW w (collE e)).heap.size:=by simp
  rw[e2] at F;exact F
 ·exact absurd rfl h.1
theorem KU {s:ByteArray} (h:s≠noS):s.toList.isEmpty=false:=by
 rw[List.isEmpty_eq_false_iff];intro e;exact h (toList_inj (e.trans (by rw[Q8];rfl)))
theorem Zav (e:Ent) (w:Wq) (V:Env w) (X:eokS e):
 Calls prog 106 #[.agg (eCells e).toArray] w λx w'=>x= .returned (.tuple #[.agg (eCells (normE e)).toArray,nI (errE e:Nat)])/\Ext w w':=by
 have S:Ext w (entW w e):=(((Ext.refl w).alloc _).alloc _).alloc _;have A:Ext w (entW w (collE e)):=(((Ext.refl w).alloc _).alloc _).alloc _;by_cases H:firstErr (strsE e)=0
 ·have I:=gd (Ze2 e w V X H);have J:=gd (λw'=>GD e.upd w');have K:=Zbj (e:=e);by_cases M:collapse e.id=noS
  ·have q:errE e=19:=(by unfold errE;rw[Ze (by simpa using H),Zh M]);have D:normE e=zeroE:=(by unfold normE;rw[Ze (by rw[q];decide)]);rw[q,D];unfold collE at I A;rw[M] at I A;clear q D H M K J;obtain ⟨id,title,link,content,upd⟩:=e;have J:=gd (λw'=>GD upd w');generalize collapse title=ct at*;generalize collapse link=cl at*;generalize collapse content=cc at*;unfold entW eCells zeroE noS at*;go_enter func106,ntmps106
   go_wp2_with (first|(go_at_call 103;refine (I.out).mono ?_;rintro e w1 ⟨rfl,h⟩;(have F:=Zcf h);(have c0:=XY ⟨_,h⟩ 0 _ rfl);(have c1:=XY ⟨_,h⟩ 1 _ rfl);(have c2:=XY ⟨_,h⟩ 2 _ rfl);(have c3:=XY ⟨_,h⟩ 3 _ rfl);(have c4:=XY ⟨_,h⟩ 4 _ rfl);dsimp only at c0 c1 c2 c3 c4)|(go_at_call 105;refine (J.out _).mono ?_;rintro e w2 ⟨rfl,rfl⟩)|(refine Zd rfl 76 (.tmp 2) (.tmp 20) rfl (w.heap.size+1) _ rfl rfl _ _ F JU rfl (Zcp (XE zeroE)) ?_))
   ((try simp only[Exit.inBlock,Exit.then]);refine Zl (Z6 rfl _ _ _ _ _ _ _ rfl (Zm _ _ _ _ _ _ F) underlying76 rfl JU) rfl ?_);exact ⟨rfl,(A.trans h).setRow (by omega) _⟩
  ·have R:=KU M;cases h2:inT e.upd with
   |false=>
    have q:errE e=3:=(by unfold errE;rw[Ze (by simpa using H),Ze M,h2];rfl);have D:normE e=zeroE:=(by unfold normE;rw[Ze (by rw[q];decide)]);rw[q,D];rw[h2] at J;unfold collE at I A;clear q D H M K h2;obtain ⟨id,title,link,content,upd⟩:=e;simp only at R I A J;generalize collapse id=ci at*;generalize collapse title=ct at*;generalize collapse link=cl at*;generalize collapse content=cc at*;unfold entW eCells zeroE noS at*;go_enter func106,ntmps106
    go_wp2_with (first|(go_at_call 103;refine (I.out).mono ?_;rintro e w1 ⟨rfl,h⟩;(have F:=Zcf h);(have c0:=XY ⟨_,h⟩ 0 _ rfl);(have c1:=XY ⟨_,h⟩ 1 _ rfl);(have c2:=XY ⟨_,h⟩ 2 _ rfl);(have c3:=XY ⟨_,h⟩ 3 _ rfl);(have c4:=XY ⟨_,h⟩ 4 _ rfl);dsimp only at c0 c1 c2 c3 c4)|(go_at_call 105;refine (J.out _).mono ?_;rintro e w2 ⟨rfl,rfl⟩)|(refine Zd rfl 76 (.tmp 2) (.tmp 26) rfl (w.heap.size+1) _ rfl rfl _ _ F JU rfl (Zcp (XE zeroE)) ?_))
    ((try simp only[Exit.inBlock,Exit.then]);refine Zl (Z6 rfl _ _ _ _ _ _ _ rfl (Zm _ _ _ _ _ _ F) underlying76 rfl JU) rfl ?_);exact ⟨rfl,(A.trans h).setRow (by omega) _⟩
   |true=>
    have q:errE e=0:=K.2 ⟨H,M,h2⟩;have D:normE e=collE e:=(by unfold normE;rw[Zh q]);rw[q,D];rw[h2] at J;unfold collE at I A|-;clear q D H M K h2;obtain ⟨id,title,link,content,upd⟩:=e;simp only at R I A J|-;generalize collapse id=ci at*;generalize collapse title=ct at*;generalize collapse link=cl at*;generalize collapse content=cc at*;unfold entW eCells zeroE noS at*;go_enter func106,ntmps106
    go_wp2_with (first|(go_at_call 103;refine (I.out).mono ?_;rintro e w1 ⟨rfl,h⟩;(have F:=Zcf h);(have c0:=XY ⟨_,h⟩ 0 _ rfl);(have c1:=XY ⟨_,h⟩ 1 _ rfl);(have c2:=XY ⟨_,h⟩ 2 _ rfl);(have c3:=XY ⟨_,h⟩ 3 _ rfl);(have c4:=XY ⟨_,h⟩ 4 _ rfl);dsimp only at c0 c1 c2 c3 c4)|(go_at_call 105;refine (J.out _).mono ?_;rintro e w2 ⟨rfl,rfl⟩)|(refine Zd rfl 76 (.tmp 2) (.tmp 27) rfl (w.heap.size+1) _ rfl rfl _ _ F JU rfl (Zcp (XE ⟨ci,ct,cl,cc,upd⟩)) ?_))
    ((try simp only[Exit.inBlock,Exit.then]);refine Zl (Z6 rfl _ _ _ _ _ _ _ rfl (Zm _ _ _ _ _ _ F) underlying76 rfl JU) rfl ?_);exact ⟨rfl,(A.trans h).setRow (by omega) _⟩
 ·have U:=gd (Zdj e w V X H);have q:errE e=firstErr (strsE e):=by unfold errE;rw[Zh H]
  have D:normE e=zeroE:=by unfold normE;rw[Ze (by rw[q];exact H)]
  rw[q,D];clear q D;obtain ⟨E,Q⟩:∃E,firstErr (strsE e)=E:=⟨_,rfl⟩;rw[Q] at U H|-;have Y:((E:Int) !=0)=true:=by simp;omega
  clear Q H;obtain ⟨id,title,link,content,upd⟩:=e;unfold entW eCells zeroE noS at*;go_enter func106,ntmps106
  go_wp2_with (first|(go_at_call 103;refine (U.out).mono ?_;rintro e w1 ⟨rfl,h⟩;(have F:=Zcf h))|(refine Zd rfl 76 (.tmp 2) (.tmp 14) rfl (w.heap.size+1) _ rfl rfl _ _ F JU rfl (Zcp (XE zeroE)) ?_))
  ((try simp only[Exit.inBlock,Exit.then]);refine Zl (Z6 rfl _ _ _ _ _ _ _ rfl (Zm _ _ _ _ _ _ F) underlying76 rfl JU) rfl ?_);exact ⟨rfl,(S.trans h).setRow (by omega) _⟩
end
section
attribute [local go_sem ↓] Go.wp_at_zero Go.wp_at_succ
end
section
attribute [local go_sem] calm1
end
def total (l:List ByteArray):Nat:=(l.map λs=>s.size).sum
section
variable {B k:Nat} {v:Value} {w w' wr:World}
section
variable {α κ:Type} (O:Ord α κ)
end
section
variable {α κ:Type} [DecidableEq κ] (O:Ord α κ)
end
def flatE (l:List Ent):List Value:=(l.map eCells).flatten
theorem Zbr (a b:List Ent):flatE (a++b)=flatE a++flatE b:=by unfold flatE;rw[ZR,Q9]
theorem ZgO (x:Ent):flatE [x]=eCells x:=by unfold flatE;simp
def REnts (w:Wq) (v:Value) (l:List Ent):Prop:=RSl w 5 v l.length (flatE l)
def OEnts (w:Wq) (B:Nat) (v:Value) (l:List Ent):Prop:=w.ownsRow B 76 5 v l.length (flatE l)
theorem OEnts.reads {l:List Ent} (h:OEnts w B v l):REnts w v l:=RSl.of_own h
theorem REnts.ext {l:List Ent} (h:REnts w v l) (q:Ext w w'):REnts w' v l:=RSl.ext h q
theorem OEnts.ext {l:List Ent} (h:OEnts w B v l) (q:Ext w w'):OEnts w' B v l:=Ye h q
theorem REnts.form {l:List Ent} (h:REnts w v l):∃A c,v= .slice A l.length c/\l.length<=c/\c<=maxLen:=by
 obtain ⟨_,A,c,e,q,D,_⟩:=h;exact ⟨A,c,e,q,D⟩
structure AtEnt (w:Wq) (p:Addr) (e:Ent):Prop where
 c0:w.cell? p=some (.string e.id)
 c1:w.cell? ⟨p.block,p.off+1,none⟩=some (.string e.title)
 c2:w.cell? ⟨p.block,p.off+2,none⟩=some (.string e.link)
 c3:w.cell? ⟨p.block,p.off+3,none⟩=some (.string e.content)
 c4:w.cell? ⟨p.block,p.off+4,none⟩=some (nI e.upd)
theorem REnts.at {l:List Ent} (h:REnts w v l) (D:k<l.length):∃ad c,v= .slice (some ad) l.length c/\AtEnt w (ad.add (k*5)) l[k]:=by
 obtain ⟨ad,c,e,A⟩:=RSl.elem (k:=5) (css:=l.map eCells) h (by decide) (by intro c A;obtain ⟨x,_,rfl⟩:=Z3.1 A;rfl) k (eCells l[k]) (by rw[YD,Zr D];rfl);rw[IG] at A;have q:∀i,0<i->(ad.add (k*5)).add i=⟨(ad.add (k*5)).block,(ad.add (k*5)).off+i,none⟩:=λi F=>Ze (by omega);refine ⟨ad,c,e,?_,?_,?_,?_,?_⟩
 ·have:=A 0 _ rfl;rwa [add_zero] at this
 ·have:=A 1 _ rfl;rwa [q _ (by decide)] at this
 ·have:=A 2 _ rfl;rwa [q _ (by decide)] at this
 ·have:=A 3 _ rfl;rwa [q _ (by decide)] at this
 ·have:=A 4 _ rfl;rwa [q _ (by decide)] at this
theorem G9:(prog.info? 76).map (λi=>(i.zero,i.size,i.bytes))=some (some (.agg #[eS,eS,eS,eS,nI 0]),5,72):=Ex
theorem El {A D:Array Value} {t:TypeId} {fr:Nat×Nat} (h:Ext (w.alloc (.cells A t fr)) wr):Ext (w.alloc (.cells D t fr)) (wr.setRow w.heap.size D):=by
 have q:Below (w.alloc (.cells A t fr)).heap.size (w.alloc (.cells A t fr)) wr:=h;refine ⟨q.os,q.tape,q.output,by have:=q.size;simp at this|-;simpa [World.setRow] using this,λk H=> ?_⟩;have F:k<w.heap.size+1:=by simpa using H
 by_cases e:k=w.heap.size
 ·subst e;rw[Zm wr w.heap.size A D t fr (h.heap (Zg w _)),Zg]
 ·rw[ZY _ _ _ _ e,q.block k (by simpa using F),Below.heap_alloc _ _ _ (by omega),Below.heap_alloc _ _ _ (by omega)]
end
section
variable {B B':Nat} {v:Value} {w:World}
theorem EI {a b:Ent} (h:eok a) (q:eok b):eok (laterE a b):=by unfold laterE;split<;>assumption
theorem E5:∀(l:List Ent) (e:Ent),(∀x∈l,eok x)->eok e->eok (ordE.scan l e).2
 | [],_,_,h=>h
 |x::t,e,hl,h=>by
  unfold Ord.scan
  split
  ·exact E5 t _ (λy q=>hl y (by simp[q])) (EI (hl x (by simp)) h)
  ·exact E5 t e (λy q=>hl y (by simp[q])) h
theorem E6:∀(l:List Ent) (e x:Ent),x∈(ordE.scan l e).1->x∈l
 | [],_,_,h=>by simp[Ord.scan] at h
 |y::t,e,x,h=>by
  unfold Ord.scan at h
  split at h
  ·exact ZE _ (E6 t _ x h)
  ·rcases ZF.1 h with h|h
   ·simp[h]
   ·exact ZE _ (E6 t _ x h)
theorem OEnts.mono {l:List Ent} (h:OEnts w B v l) (H:B'<=B):OEnts w B' v l:=by
 refine ⟨h.1,?_⟩;rcases h.2 with A|⟨g,cap,q,D,A,F⟩
 ·exact Or.inl A
 ·exact Or.inr ⟨g,cap,q,D,Zu H A,F⟩
theorem OEnts.nil (w:Wq) (B:Nat):OEnts w B sN []:=YL _ _ _ _
theorem OEnts.snoc {l:List Ent} {x:Ent} (h:w.ownsRow B 76 5 v (l.length+1) (flatE l++eCells x)):OEnts w B v (l++ [x]):=by
 unfold OEnts;rw[Zc,Zbr,ZgO];exact h
attribute [local go_sem] calm1
end
section
variable {B cap g i m:Nat} {b w w' w2:World} {fs:List ByteArray} {gv:List Value} {u u' v:Value}
def grp (l:List Ent) (s:ByteArray):List Ent:=l.filter λx=>decide (ordE.id x=s)
structure Grps (w:Wq) (B:Nat) (v:Value) (l:List Ent) (fs:List ByteArray) (gv:List Value):Prop where
 len:gv.length=fs.length
 row:w.ownsRow B 53 1 v gv.length gv
 each:∀(j:Nat) (s:ByteArray) (u:Value),fs[j]? =some s->gv[j]? =some u->OEnts w B u (grp l s)
 apart:∀(i j:Nat) (u u':Value),gv[i]? =some u->gv[j]? =some u'->i≠j->∀g,u.ownBlock=some g->u'.ownBlock≠some g
theorem Grps.ext {l:List Ent} (h:Grps w B v l fs gv) (q:Ext w w'):Grps w' B v l fs gv:=
 ⟨h.len,Ye h.row q,λj s u A D=>(h.each j s u A D).ext q,h.apart⟩
theorem Grps.nil (w:Wq) (B:Nat):Grps w B sN [] [] []:=⟨rfl,YL _ _ _ _,by simp,by simp⟩
def IdxMap (D:DataW Unit) (fs:List ByteArray):Prop:=
 IsMap D/\∀s:ByteArray,(Maps.has D (.string s.data.toList)=true↔s∈fs)/\∀j:Nat,fs[j]? =some s->D.atKey (.string s.data.toList) (.lit (.int .i64 0))= .lit (.int .i64 j)
theorem IdxMap.nil:IdxMap (.map []) []:=⟨isMap_empty,λs=>⟨by simp[Maps.has],by simp⟩⟩
theorem GE (s:List UInt8):WideAt.IsKeyLit (.string s):=trivial
theorem IdxMap.put {D:DataW Unit} {s:ByteArray} (h:IdxMap D fs) (M:s ∉ fs):IdxMap (D.put (.string s.data.toList) (.lit (.int .i64 (fs.length:Nat)))) (fs++ [s]):=by
 refine ⟨h.1.put _ _,λt=> ?_⟩;by_cases e:t=s
 ·subst e;refine ⟨⟨λ_=>by simp,λ_=>has_put_same h.1 (GE _) _⟩,λj q=> ?_⟩;rw[atKey_put_same h.1 (GE _)];have:j=fs.length:=by
   rcases Nat.lt_trichotomy j fs.length with A|A|A
   ·rw[Y6 A] at q;exact absurd (List.mem_of_getElem? q) M
   ·exact A
   ·rw[List.getElem?_eq_none (by simp;omega)] at q;cases q
  rw[this]
 ·have F:(Lit.string t.data.toList)≠ .string s.data.toList:=by intro H;injection H with H;exact e (G1 H)
  obtain ⟨A,K⟩:=h.2 t;rw[has_put_other F,A];refine ⟨by simp[e],λj q=> ?_⟩;rw[atKey_put_other F];refine K j ?_;rcases Xq j fs.length with I|I
  ·rwa [Y6 I] at q
  ·rw[Yl I] at q;rcases YY (j - fs.length) with J|J
   ·rw[J] at q;simp at q;exact absurd q.symm e
   ·rw[List.getElem?_eq_none (by simp;omega)] at q;cases q
theorem ZdD (l:List Ent) (x:Ent) (s:ByteArray):grp (l++ [x]) s=if ordE.id x=s then grp l s++ [x] else grp l s:=by
 unfold grp;rw[List.filter_append];by_cases h:ordE.id x=s
 ·rw[Zh h];simp[h]
 ·rw[Ze h];simp[h]
theorem Zd0 {l:List Ent} {s:ByteArray} (h:s ∉ ordE.firsts l):grp l s= []:=by
 unfold grp;rw[List.filter_eq_nil_iff];intro x q;simp only[Yb];intro e;exact h ((ordE.mem_firsts l s).2 ⟨x,q,e⟩)
theorem Ext.grown' {B:Nat} {a c:Wq} {row:Option Nat} (h:Ext a b) (q:b.grownBy c row) (D:∀g,row=some g->a.heap.size<=g):Ext a c:=
 Below.grown h q h.size λk A=>D k A
theorem Grps.grow {l:List Ent} {x:Ent} {s:ByteArray}
 (h:Grps w B (.slice (some ⟨g,0,none⟩) gv.length cap) l fs gv) (hk:fs.Pairwise (· ≠ ·)) (hi:fs[i]? =some s) (hu:gv[i]? =some u) (hx:ordE.id x=s)
 (Z:w2.ownsRow B 76 5 u' ((grp l s).length+1) (flatE (grp l s)++eCells x)) (hg:w.grownBy w2 u.ownBlock) (U:u'.ownBlock=u.ownBlock\/(∃W:Nat,w.heap.size<=W/\u'.ownBlock=some W)) (Y:u.ownBlock≠some g):
 Grps (w2.setCell ⟨g,i,none⟩ u') B (.slice (some ⟨g,0,none⟩) gv.length cap) (l++ [x]) fs (gv.set i u'):=by
 have X:=h.len;have hr:=h.row.lt g rfl;have hc:u'.ownBlock≠some g:=by
  rcases U with e|⟨W,hW,e⟩
  ·rw[e];exact Y
  ·rw[e];intro R;injection R with R;omega
 have hh:∀(j:Nat) (v:Value),gv[j]? =some v->j≠i->v.ownBlock=none\/v.ownBlock≠u.ownBlock:=by
  intro j v D H;cases A:v.ownBlock with
  |none=>exact Or.inl rfl
  |some b=>exact Or.inr λe=>h.apart j i v u D hu H b A e.symm
 have Q:=(h.row.kept hg (Or.inr λe=>Y e.symm));refine ⟨by rw[XD];exact X,?_,?_,?_⟩
 ·rw[XD];exact (Q.stored i u').1
 ·intro j t v H D;have hn:∀(m:Nat) (q:Value),gv[m]? =some q->(∃t,fs[m]? =some t)->q.ownBlock=none\/q.ownBlock≠some g:=by
   intro m q hq ⟨t',hl⟩;cases F:q.ownBlock with
   |none=>exact Or.inl rfl
   |some b=>
    refine Or.inr λe=> ?_;injection e with e;subst e;have h1:=(h.each m t' q hl hq).2;have S:=h.row.2;rcases h1 with ⟨rfl,_⟩|⟨b',c',ho,rfl,_,hf,_⟩
    ·cases F
    ·rcases S with ⟨S,_⟩|⟨g',hp,he,S,_,V,_⟩
     ·cases S
     ·cases S;cases F;rw[hf] at V;simp at V
  by_cases I:j=i
  ·subst I;rw[hi] at H;injection H with H;subst H;have A:v=u':=(by rw[List.getElem?_set] at D;have:j<gv.length:=(ZM.1 hu).1;simp[this] at D;exact D.symm);subst A;rw[ZdD,Zh hx];exact OEnts.snoc (Vq Z (a:=⟨g,j,none⟩) hc v)
  ·rw[List.getElem?_set_ne (λe=>I e.symm)] at D;have ht:t≠s:=by
    intro e;subst e;have h1:=Y7.1 hk;obtain ⟨p1,q1⟩:=ZM.1 hi;obtain ⟨p2,q2⟩:=ZM.1 H;rcases Nat.lt_or_gt_of_ne I with h3|h3
    ·exact h1 j i p2 p1 h3 (q2.trans q1.symm)
    ·exact h1 i j p1 p2 h3 (q1.trans q2.symm)
   rw[ZdD,Ze (by rw[hx];exact λe=>ht e.symm)];have h4:=(h.each j t v H D).kept hg (hh j v D I);refine Vq h4 (a:=⟨g,i,none⟩) ?_ u';rcases hn j v D ⟨t,H⟩ with e|e
   ·rw[e];simp
   ·exact e
 ·intro a b v v' D A K q hq;rw[List.getElem?_set] at D A;have hd:∀(m:Nat) (q':Value),gv[m]? =some q'->m≠i->∀b,u'.ownBlock=some b->q'.ownBlock≠some b:=by
   intro m q' F hm b J e;rcases U with R|⟨W,hW,R⟩
   ·rw[R] at J;exact h.apart i m u q' hu F (λe=>hm e.symm) b J e
   ·rw[R] at J;injection J with J;obtain ⟨pm,_⟩:=ZM.1 F;have h5:=h.each m (fs[m]'(by omega)) q' (Zr (by omega)) F;have:=(h5.lt b e).2;omega
  by_cases ha:i=a
  ·subst ha;have M:i<gv.length:=(ZM.1 hu).1;simp only[Zjw,Zh M,Y3] at D;subst D;rw[Ze K] at A;exact hd b v' A (λe=>K e.symm) q hq
  ·rw[Ze ha] at D;by_cases J:i=b
   ·subst J;have M:i<gv.length:=(ZM.1 hu).1;simp only[Zjw,Zh M,Y3] at A;subst A;intro e;exact hd a v D (λe=>ha e.symm) q e hq
   ·rw[Ze J] at A;exact h.apart a b v v' D A K q hq
theorem Grps.form {l:List Ent} (h:Grps w B v l fs gv):∃A c,v= .slice A gv.length c:=by
 rcases h.row.2 with ⟨q,F⟩|⟨g,cap,D,q,_⟩
 ·exact ⟨none,0,by rw[q,F]⟩
 ·exact ⟨_,_,q⟩
theorem Grps.kept {l:List Ent} (h:Grps w B v l fs gv) (F:w.grownBy w2 (some m)) (I:m<B):Grps w2 B v l fs gv:=by
 have q:∀{e:TypeId} {n size:Nat} {u:Value} {xs:List Value},w.ownsRow B e size u n xs->u.ownBlock=none\/u.ownBlock≠some m:=by
  intro e n size u xs H;cases hb:u.ownBlock with
  |none=>exact Or.inl rfl
  |some b=>refine Or.inr λe=> ?_;injection e with e;have:=(H.lt b hb).1;omega
 exact ⟨h.len,h.row.kept F (q h.row),λj s u A D=>(h.each j s u A D).kept F (q (h.each j s u A D)),h.apart⟩
theorem Grps.more {v':Value} {l:List Ent} {s:ByteArray}
 (h:Grps w B v l fs gv) (hs:grp l s= []) (J:w2.ownsRow B 53 1 v' (gv.length+1) (gv++ [sN])) (hg:w.grownBy w2 v.ownBlock):
 Grps w2 B v' l (fs++ [s]) (gv++ [sN]):=by
 have I:=h.len;refine ⟨by simp[I],by simpa using J,?_,?_⟩
 ·intro j t u F D;rcases Xq j gv.length with A|A
  ·rw[Y6 A] at D;rw[Y6 (by omega)] at F;have X:=h.each j t u F D;refine X.kept hg ?_;cases hu':u.ownBlock with
   |none=>exact Or.inl rfl
   |some b=>
    refine Or.inr λe=> ?_;rcases X.2 with ⟨rfl,_⟩|⟨b',c',V,rfl,_,R,_⟩
    ·cases hu'
    ·rcases h.row.2 with ⟨rfl,_⟩|⟨g',ha,M,rfl,_,H,_⟩
     ·cases e
     ·cases hu';cases e;rw[R] at H;simp at H
  ·rw[Yl A] at D;rw[Yl (by omega)] at F;have S:j - gv.length=0:=by
    rcases YY (j - gv.length) with Y|Y
    ·exact Y
    ·rw[List.getElem?_eq_none (by simp;omega)] at D;cases D
   rw[S] at D;rw[show j - fs.length=0 by omega] at F;simp at D F;subst D F;rw[hs];exact OEnts.nil _ _
 ·intro a b q Z hq U Q m K;have last:∀(n:Nat) (u:Value),(gv++ [Value.slice none 0 0])[n]? =some u->∀m,u.ownBlock=some m->gv[n]? =some u:=by
   intro n u D m K;rcases Xq n gv.length with A|A
   ·rwa [Y6 A] at D
   ·rw[Yl A] at D;have:=List.mem_of_getElem? D;simp at this;subst this;cases K
  intro e;exact h.apart a b q Z (last a q hq m K) (last b Z U m e) Q m K e
end
end Go.Proofs.YtnlafkgkcnenfaaGreatDoor
