/- Parts of the proof: contracts and plain laws. -/
import Derived.Test.YthlnaldahkgjnaaGreatDoorY01
namespace Go.Proofs.YthlnaldahkgjnaaGreatDoor
open Go
set_option linter.unusedVariables false
set_option linter.unusedSimpArgs false
set_option maxRecDepth 100000
set_option maxHeartbeats 16000000
section
namespace Ord
section
variable {α κ:Type} (O:Ord α κ)
structure Semi (G:α→Prop):Prop where
 good:∀a b,O.id a=O.id b→G a→G b→G (O.op a b)
 comm:∀a b,O.id a=O.id b→G a→G b→O.op a b=O.op b a
 assoc:∀a b c,O.id a=O.id b→O.id b=O.id c→G a→G b→G c→O.op (O.op a b) c=O.op a (O.op b c)
 idem:∀a,G a→O.op a a=a
variable {O}
variable {G:α→Prop}
theorem Semi.le_trans (S:O.Semi G) {a b c:α} (h:O.id a=O.id b) (k:O.id b=O.id c) (ha:G a) (hb:G b) (hc:G c) (h1:O.op a b=b) (h2:O.op b c=c):O.op a c=c:=by
 rw[←h2,←S.assoc a b c h k ha hb hc,h1]
end
variable {α κ:Type} [DecidableEq κ] {O:Ord α κ} {G:α→Prop}
theorem got_none_iff (l:List α) (k:κ):O.got l k=none↔∀x∈l,O.id x≠k:=by
 unfold Ord.got
 generalize hg:(l.filter fun x=>O.id x=k)=g
 cases g with
 |nil=>
  simp only[fold1,true_iff]
  intro x hx e
  have:x∈l.filter fun x=>decide (O.id x=k):=List.mem_filter.2 ⟨hx,by simpa using e⟩
  rw[hg] at this
  cases this
 |cons y t=>
  simp only[fold1]
  constructor
  ·intro h;cases h
  ·intro h
   have:=List.mem_filter.1 (show y∈l.filter fun x=>decide (O.id x=k) by rw[hg];simp)
   exact absurd (by simpa using this.2) (h y this.1)
theorem got_isSome_iff (l:List α) (k:κ):(∃s,O.got l k=some s)↔∃x∈l,O.id x=k:=by
 rw[←Option.isSome_iff_exists,←Option.ne_none_iff_isSome,Ne,got_none_iff]
 simp
end Ord
end
section
theorem quoteL_len (l:List UInt8):(quoteL l).length≤6*l.length+2:=by
 have:(l.flatMap qB).length≤6*l.length:=by
  induction l with
  |nil=>simp
  |cons b l ih=>rw[List.flatMap_cons,List.length_append,List.length_cons];have:=qB_len b;omega
 unfold quoteL
 rw[List.length_cons,List.length_append]
 simp only[List.length_cons,List.length_nil]
 omega
structure Ent where
 id:ByteArray
 title:ByteArray
 link:ByteArray
 content:ByteArray
 upd:Int
 deriving DecidableEq
structure Fd where
 path:List ByteArray
 id:ByteArray
 title:ByteArray
 link:ByteArray
 upd:Int
 ents:List Ent
 deriving DecidableEq
def eCells (e:Ent):List Value:= [.string e.id,.string e.title,.string e.link,.string e.content,.int .i64 e.upd]
def entJ (e:Ent):JV:= .arr [.str e.id,.str e.title,.str e.link,.str e.content,.int e.upd]
def entryKey (e:Ent):ByteArray:=(jwrite (entJ e)).1
def sCmp (x y:ByteArray):Int:=if Op.bytesLess x.toList y.toList then -1 else if x.toList=y.toList then 0 else 1
def iCmp (x y:Int):Int:=if x<y then -1 else if y<x then 1 else 0
def entCmp (a b:Ent):Int:=if iCmp b.upd a.upd=0 then sCmp a.id b.id else iCmp b.upd a.upd
theorem bl_irrefl:∀x:List UInt8,Op.bytesLess x x=false
 | []=>rfl
 |a::x=>by simp[Op.bytesLess,bl_irrefl x]
theorem bl_cons (a b:UInt8) (x y:List UInt8):Op.bytesLess (a::x) (b::y)=true↔a<b∨(a=b∧Op.bytesLess x y=true):=by simp[Op.bytesLess]
theorem bl_trans:∀x y z:List UInt8,Op.bytesLess x y=true→Op.bytesLess y z=true→Op.bytesLess x z=true
 | [],y,[],_,h=>by cases y<;>simp[Op.bytesLess] at h
 | [],_,_::_,_,_=>rfl
 |_::_,[],_,h,_=>by simp[Op.bytesLess] at h
 |_::_,_::_,[],_,h=>by simp[Op.bytesLess] at h
 |a::x,b::y,c::z,h,k=>by
  rw[bl_cons] at h k⊢
  rcases h with h|⟨rfl,h⟩<;>rcases k with k|⟨rfl,k⟩
  ·exact Or.inl (UInt8.lt_trans h k)
  ·exact Or.inl h
  ·exact Or.inl k
  ·exact Or.inr ⟨rfl,bl_trans x y z h k⟩
theorem bl_total:∀x y:List UInt8,Op.bytesLess x y=false→Op.bytesLess y x=false→x=y
 | [],[],_,_=>rfl
 | [],_::_,h,_=>by simp[Op.bytesLess] at h
 |_::_,[],_,h=>by simp[Op.bytesLess] at h
 |a::x,b::y,h,k=>by
  rw[Bool.eq_false_iff,Ne,bl_cons] at h k
  have hab:a=b:=by
   rcases Classical.em (a=b) with e|e
   ·exact e
   ·rcases UInt8.lt_or_lt_of_ne e with e|e
    ·exact absurd (Or.inl e) h
    ·exact absurd (Or.inl e) k
  subst hab
  refine congrArg (a:: ·) (bl_total x y ?_ ?_)
  ·rw[Bool.eq_false_iff];exact fun e=>h (Or.inr ⟨rfl,e⟩)
  ·rw[Bool.eq_false_iff];exact fun e=>k (Or.inr ⟨rfl,e⟩)
structure IsCmp {α:Type} (c:α→α→Int):Prop where
 anti:∀a b,c b a= - c a b
 trans:∀a b d,c a b≤0→c b d≤0→c a d≤0
namespace IsCmp
variable {α:Type} {c:α→α→Int} (h:IsCmp c)
include h
theorem self (a:α):c a a=0:=by have:=h.anti a a;omega
theorem lt_trans (a b d:α) (h1:c a b<0) (h2:c b d<0):c a d<0:=by
 have h3:=h.trans a b d (by omega) (by omega)
 rcases Classical.em (c a d=0) with e|e
 ·have h4:=h.trans d a b (by have:=h.anti a d;omega) (by omega)
  have:=h.anti b d
  omega
 ·omega
theorem zero_left (a b d:α) (h1:c a b=0):c a d≤0↔c b d≤0:=
 ⟨fun h2=>h.trans b a d (by have:=h.anti a b;omega) h2,fun h2=>h.trans a b d (by omega) h2⟩
theorem zero_right (a b d:α) (h1:c b d=0):c a b≤0↔c a d≤0:=
 ⟨fun h2=>h.trans a b d h2 (by omega),fun h2=>h.trans a d b h2 (by have:=h.anti b d;omega)⟩
end IsCmp
theorem IsCmp.lex {α:Type} {c d:α→α→Int} (hc:IsCmp c) (hd:IsCmp d):IsCmp fun a b=>if c a b=0 then d a b else c a b where
 anti a b:=by
  have h1:=hc.anti a b
  have h2:=hd.anti a b
  by_cases h:c a b=0
  ·simp only[h,if_true,show c b a=0 by omega];exact h2
  ·simp only[if_neg h,if_neg (show ¬c b a=0 by omega)];exact h1
 trans a b e h1 h2:=by
  by_cases h:c a b=0
  ·rw[if_pos h] at h1
   have hl:=hc.zero_left a b e h
   have hr:=hc.zero_left b a e (by have:=hc.anti a b;omega)
   by_cases k:c b e=0
   ·rw[if_pos k] at h2
    have:c a e=0:=by
     have e1:=hl.2 (by omega)
     have:=hc.trans e b a (by have:=hc.anti b e;omega) (by have:=hc.anti a b;omega)
     have:=hc.anti a e
     omega
    rw[if_pos this];exact hd.trans a b e h1 h2
   ·rw[if_neg k] at h2
    by_cases g:c a e=0
    ·have:=(hc.zero_right b a e g)
     have e1:=hc.trans e a b (by have:=hc.anti a e;omega) (by omega)
     have:=hc.anti b e
     omega
    ·rw[if_neg g];exact hl.2 h2
  ·rw[if_neg h] at h1
   by_cases k:c b e=0
   ·rw[if_pos k] at h2
    by_cases g:c a e=0
    ·have e1:=hc.trans b e a (by omega) (by have:=hc.anti a e;omega)
     have:=hc.anti a b
     omega
    ·rw[if_neg g];exact (hc.zero_right a b e k).1 h1
   ·rw[if_neg k] at h2
    have:=hc.lt_trans a b e (by omega) (by omega)
    rw[if_neg (by omega)];omega
theorem iCmp_is:IsCmp iCmp where
 anti a b:=by unfold iCmp;split<;>split<;>(try split)<;>omega
 trans a b d h1 h2:=by
  unfold iCmp at*
  repeat' split at h1
  all_goals (repeat' split at h2)
  all_goals (repeat' split)
  all_goals omega
theorem sCmp_neg (a b:ByteArray):sCmp a b<0↔Op.bytesLess a.toList b.toList=true:=by
 unfold sCmp
 split
 ·rename_i h;simp[h]
 ·rename_i h;split<;>simp_all
theorem sCmp_zero (a b:ByteArray):sCmp a b=0↔a.toList=b.toList:=by
 unfold sCmp
 split
 ·rename_i h
  constructor
  ·intro h';cases h'
  ·intro h';rw[h',bl_irrefl] at h;cases h
 ·split<;>simp_all
theorem sCmp_is:IsCmp sCmp where
 anti a b:=by
  unfold sCmp
  by_cases h:Op.bytesLess a.toList b.toList=true
  ·have hb:¬Op.bytesLess b.toList a.toList=true:=fun k=>by have:=bl_trans _ _ _ h k;rw[bl_irrefl] at this;cases this
   have hne:¬b.toList=a.toList:=fun e=>by rw[e,bl_irrefl] at h;cases h
   rw[if_pos h,if_neg hb,if_neg hne];rfl
  ·by_cases k:Op.bytesLess b.toList a.toList=true
   ·have hne:¬a.toList=b.toList:=fun e=>by rw[e,bl_irrefl] at k;cases k
    rw[if_pos k,if_neg h,if_neg hne]
   ·have e:=bl_total a.toList b.toList (by simpa using h) (by simpa using k)
    rw[if_neg h,if_neg k,if_pos e,if_pos e.symm];rfl
 trans a b d h1 h2:=by
  have key:∀x y:ByteArray,sCmp x y≤0↔Op.bytesLess x.toList y.toList=true∨x.toList=y.toList:=by
   intro x y
   rw[←sCmp_neg,←sCmp_zero]
   omega
  rw[key] at*
  rcases h1 with h1|h1
  ·rcases h2 with h2|h2
   ·exact Or.inl (bl_trans _ _ _ h1 h2)
   ·rw[←h2];exact Or.inl h1
  ·rw[h1];exact h2
theorem IsCmp.comap {α β:Type} {c:β→β→Int} (h:IsCmp c) (f:α→β):IsCmp fun a b=>c (f a) (f b):=⟨fun a b=>h.anti _ _,fun a b d=>h.trans _ _ _⟩
theorem IsCmp.swap {α:Type} {c:α→α→Int} (h:IsCmp c):IsCmp fun a b=>c b a:=⟨fun a b=>h.anti _ _,fun a b d h1 h2=>h.trans _ _ _ h2 h1⟩
theorem toList_inj {a b:ByteArray} (h:a.toList=b.toList):a=b:=by
 rw[ByteArray.toList_eq,ByteArray.toList_eq] at h
 cases a;cases b
 congr
 exact Array.toList_inj.1 h
theorem sCmp_eq {a b:ByteArray} (h:sCmp a b=0):a=b:=toList_inj ((sCmp_zero a b).1 h)
theorem entCmp_is:IsCmp entCmp:=IsCmp.lex (α:=Ent) (c:=fun a b=>iCmp b.upd a.upd) (d:=fun a b=>sCmp a.id b.id) ((iCmp_is.comap fun e:Ent=>e.upd).swap) (sCmp_is.comap fun e:Ent=>e.id)
theorem entCmp_id {a b:Ent} (h:entCmp a b=0):a.id=b.id:=by
 unfold entCmp at h
 split at h
 ·exact sCmp_eq h
 ·rename_i h';exact absurd h h'
def laterB (c:Int) (ka kb:ByteArray):Bool:=decide (c<0)||(decide (c=0) && Op.bytesLess ka.toList kb.toList)
def laterE (a b:Ent):Ent:=if laterB (iCmp a.upd b.upd) (entryKey a) (entryKey b) then b else a
def ltE (a b:Ent):Bool:=decide (entCmp a b<0)
theorem laterE_id (a b:Ent) (h:a.id=b.id):(laterE a b).id=b.id:=by unfold laterE;split<;>simp[h]
def ordE:Ord Ent ByteArray where
 id:=Ent.id
 op:=laterE
 lt:=ltE
 op_id:=laterE_id
 irrefl a:=by simp[ltE,entCmp_is.self]
 trans a b c h1 h2:=by simp only[ltE,decide_eq_true_eq] at*;exact entCmp_is.lt_trans a b c h1 h2
 total a b h:=by
  simp only[ltE,decide_eq_true_eq]
  have h1:=entCmp_is.anti a b
  have h2:entCmp a b≠0:=fun e=>h (entCmp_id e)
  omega
end
def vld (s:ByteArray):Bool:=Lib.validD s.data.toList
theorem data_inj {a b:ByteArray} (h:a.data.toList=b.data.toList):a=b:=by
 rw[←str_of a,←str_of b,h]
def pk {α:Type} (c:α→α→Int) (a b:α):α:=if c a b<0 then b else a
def scalar (r:Nat):Prop:=r<55296∨(57344≤r∧r≤1114111)
theorem isChar_scalar {r:Nat} (h:isChar r=true):scalar r:=by
 unfold isChar at h
 unfold scalar
 simp only[decide_eq_true_eq] at h
 omega
theorem toNat_ofNat {n:Nat} (h:n<256):(UInt8.ofNat n).toNat=n:=by simp[Nat.mod_eq_of_lt h]
theorem encN_len {r:Nat} (h:scalar r):1≤(encN r).length:=by
 unfold scalar at h
 unfold encN
 rw[if_neg (by omega)]
 repeat' split
 all_goals simp
theorem encN_ascii {r:Nat} (h:r<128):encN r= [UInt8.ofNat r]:=by
 unfold encN;rw[if_neg (by omega),if_pos h]
theorem encN_2 {r:Nat} (h:128≤r) (k:r<2048):encN r= [UInt8.ofNat (192+r / 64),UInt8.ofNat (128+r % 64)]:=by
 unfold encN;rw[if_neg (by omega),if_neg (by omega),if_pos k]
theorem encN_3 {r:Nat} (hs:scalar r) (h:2048≤r) (k:r<65536):encN r= [UInt8.ofNat (224+r / 4096),UInt8.ofNat (128+r / 64 % 64),UInt8.ofNat (128+r % 64)]:=by
 unfold scalar at hs
 unfold encN;rw[if_neg (by omega),if_neg (by omega),if_neg (by omega),if_pos k]
theorem encN_4 {r:Nat} (hs:scalar r) (h:65536≤r):encN r= [UInt8.ofNat (240+r / 262144),UInt8.ofNat (128+r / 4096 % 64),UInt8.ofNat (128+r / 64 % 64),UInt8.ofNat (128+r % 64)]:=by
 unfold scalar at hs
 unfold encN;rw[if_neg (by omega),if_neg (by omega),if_neg (by omega),if_neg (by omega)]
theorem dec_of {r m:Nat} {l:List UInt8} (hne:l≠ []) (h:Lib.decodeN l.length (l.getD 0 0).toNat (l.getD 1 0).toNat (l.getD 2 0).toNat (l.getD 3 0).toNat=(r,m)) (hm:¬(r=65533∧m=1)):dec l=(r,m):=by
 unfold dec
 rw[if_neg hne,decodeL_nat,h,if_neg hm]
theorem dec_enc {r:Nat} (h:scalar r) (t:List UInt8):dec (encN r++t)=(r,(encN r).length):=by
 have hs:=h
 unfold scalar at h
 by_cases h1:r<128
 ·rw[encN_ascii h1]
  refine dec_of (by simp) ?_ (by omega)
  have e0:(([UInt8.ofNat r]++t).getD 0 0).toNat=r:=toNat_ofNat (by omega)
  rw[e0]
  unfold Lib.decodeN
  rw[if_pos h1];rfl
 ·by_cases h2:r<2048
  ·rw[encN_2 (by omega) h2]
   refine dec_of (by simp) ?_ (by simp)
   have e0:(([UInt8.ofNat (192+r / 64),UInt8.ofNat (128+r % 64)]++t).getD 0 0).toNat=192+r / 64:=toNat_ofNat (by omega)
   have e1:(([UInt8.ofNat (192+r / 64),UInt8.ofNat (128+r % 64)]++t).getD 1 0).toNat=128+r % 64:=toNat_ofNat (by omega)
   have el:([UInt8.ofNat (192+r / 64),UInt8.ofNat (128+r % 64)]++t).length=t.length+2:=rfl
   rw[e0,e1,el]
   unfold Lib.decodeN
   rw[if_neg (by omega),if_pos (by omega),if_pos (by omega),show (192+r / 64) % 32*64+(128+r % 64) % 64=r by omega];rfl
  ·by_cases h3:r<65536
   ·rw[encN_3 hs (by omega) h3]
    refine dec_of (by simp) ?_ (by simp)
    generalize hl: [UInt8.ofNat (224+r / 4096),UInt8.ofNat (128+r / 64 % 64),UInt8.ofNat (128+r % 64)]=l
    have e0:((l++t).getD 0 0).toNat=224+r / 4096:=by rw[←hl];exact toNat_ofNat (by omega)
    have e1:((l++t).getD 1 0).toNat=128+r / 64 % 64:=by rw[←hl];exact toNat_ofNat (by omega)
    have e2:((l++t).getD 2 0).toNat=128+r % 64:=by rw[←hl];exact toNat_ofNat (by omega)
    have el:(l++t).length=t.length+3:=by rw[←hl];rfl
    rw[e0,e1,e2,el]
    unfold Lib.decodeN
    rw[if_neg (by omega),if_neg (by omega),if_pos (by omega),if_pos (by omega),show (224+r / 4096) % 16*4096+(128+r / 64 % 64) % 64*64+(128+r % 64) % 64=r by omega,←hl];rfl
   ·rw[encN_4 hs (by omega)]
    refine dec_of (by simp) ?_ (by simp)
    generalize hl: [UInt8.ofNat (240+r / 262144),UInt8.ofNat (128+r / 4096 % 64),UInt8.ofNat (128+r / 64 % 64),UInt8.ofNat (128+r % 64)]=l
    have e0:((l++t).getD 0 0).toNat=240+r / 262144:=by rw[←hl];exact toNat_ofNat (by omega)
    have e1:((l++t).getD 1 0).toNat=128+r / 4096 % 64:=by rw[←hl];exact toNat_ofNat (by omega)
    have e2:((l++t).getD 2 0).toNat=128+r / 64 % 64:=by rw[←hl];exact toNat_ofNat (by omega)
    have e3:((l++t).getD 3 0).toNat=128+r % 64:=by rw[←hl];exact toNat_ofNat (by omega)
    have el:(l++t).length=t.length+4:=by rw[←hl];rfl
    rw[e0,e1,e2,e3,el]
    unfold Lib.decodeN
    rw[if_neg (by omega),if_neg (by omega),if_neg (by omega),if_pos (by omega),if_pos (by omega),show (240+r / 262144) % 8*262144+(128+r / 4096 % 64) % 64*4096+(128+r / 64 % 64) % 64*64+(128+r % 64) % 64=r by omega,←hl];rfl
theorem refFrom_enc:∀(k n:Nat) (l:List UInt8) (r m:Nat),refFrom k n l=(r,m)→m≠0→encN r=l.take m∧m≤l.length
 |0,n,l,r,m,h,hm=>by simp only[refFrom,Prod.mk.injEq] at h;exact absurd h.2.symm hm
 |k+1,n,l,r,m,h,hm=>by
  unfold refFrom at h
  split at h
  ·rename_i h1
   split at h
   ·rename_i h2
    simp only[Prod.mk.injEq] at h
    obtain ⟨rfl,rfl⟩:=h
    exact ⟨h2,h1.2⟩
   ·exact refFrom_enc k (n+1) l r m h hm
  ·simp only[Prod.mk.injEq] at h;exact absurd h.2.symm hm
theorem dec_split {l:List UInt8} {r m:Nat} (h:dec l=(r,m)) (hm:m≠0):l=encN r++l.drop m:=by
 have hl:l≠ []:=by
  intro e
  rw[e] at h
  simp only[dec,if_true,Prod.mk.injEq] at h
  exact hm h.2.symm
 rw[←refDec_eq l hl] at h
 have:=(refFrom_enc 4 1 l r m h hm).1
 rw[this,List.take_append_drop]
def isText (l:List UInt8):Prop:=∃rs:List Nat,(∀r∈rs,isChar r=true)∧l=rs.flatMap encN
theorem isText_nil:isText []:=⟨[],by simp,rfl⟩
theorem isText_app {l m:List UInt8} (h:isText l) (k:isText m):isText (l++m):=by
 obtain ⟨rs,h1,rfl⟩:=h
 obtain ⟨ss,h2,rfl⟩:=k
 exact ⟨rs++ss,fun r hr=>(List.mem_append.1 hr).elim (h1 r) (h2 r),by simp⟩
theorem isText_enc {r:Nat} (h:isChar r=true):isText (encN r):=⟨[r],by simpa using h,by simp⟩
theorem isText_of_check:∀(n at_:Nat) (l:List UInt8),l.length≤n→(checkGo n at_ l).2=0→isText l
 |0,_,l,hl,_=>by
  have e:l= []:=List.eq_nil_of_length_eq_zero (by omega)
  rw[e];exact isText_nil
 |n+1,at_,l,hl,h=>by
  by_cases he:l= []
  ·subst he;exact isText_nil
  ·rw[check_step n at_ l he] at h
   by_cases h0:(dec l).2=0
   ·rw[if_pos h0] at h;simp at h
   ·rw[if_neg h0] at h
    by_cases hc:isChar (dec l).1=false
    ·rw[if_pos hc] at h;simp at h
    ·rw[if_neg hc] at h
     have hs:=dec_split (l:=l) (r:=(dec l).1) (m:=(dec l).2) rfl h0
     rw[hs]
     refine isText_app (isText_enc (by simpa using hc)) (isText_of_check n _ _ ?_ h)
     rw[List.length_drop];omega
theorem check_text:∀(rs:List Nat) (n at_:Nat),(∀r∈rs,isChar r=true)→(rs.flatMap encN).length≤n→(checkGo n at_ (rs.flatMap encN)).2=0
 | [],n,at_,_,_=>by rw[List.flatMap_nil,check_nil]
 |r::rs,n,at_,h,hl=>by
  have hr:isChar r=true:=h r (by simp)
  have h1:=encN_len (isChar_scalar hr)
  have hd:=dec_enc (isChar_scalar hr) (rs.flatMap encN)
  rw[List.flatMap_cons] at hl⊢
  rw[List.length_append] at hl
  obtain ⟨n,rfl⟩:∃k,n=k+1:=⟨n - 1,by omega⟩
  rw[check_step n at_ _ (by intro e;have:=congrArg List.length e;rw[List.length_append,List.length_nil] at this;omega),hd]
  rw[if_neg (by simp only[];omega),if_neg (by simp[hr])]
  simp only[List.drop_left]
  exact check_text rs n _ (fun r hr=>h r (by simp[hr])) (by omega)
theorem check_iff (l:List UInt8):(check l).2=0↔isText l:=
 ⟨isText_of_check _ _ _ (Nat.le_refl _),fun ⟨rs,h,e⟩=>by subst e;exact check_text rs _ _ h (Nat.le_refl _)⟩
theorem text_valid {l:List UInt8} (h:isText l):Lib.validD l=true:=by
 obtain ⟨rs,h,rfl⟩:=h
 induction rs with
 |nil=>rfl
 |cons r rs ih=>
  have hr:isChar r=true:=h r (by simp)
  have h1:=encN_len (isChar_scalar hr)
  have hd:=dec_enc (isChar_scalar hr) (rs.flatMap encN)
  rw[List.flatMap_cons]
  have hv:=valid_at (encN r++rs.flatMap encN) 0 (by rw[List.length_append];omega)
  rw[List.drop_zero,hd,if_neg (by simp only[];omega),Nat.zero_add,List.drop_left] at hv
  rw[hv]
  exact ih fun r hr=>h r (by simp[hr])
theorem check_valid {s:ByteArray} (h:validS s=true):(checkS s).2=0:=by
 unfold validS at h
 simp only[Bool.and_eq_true,decide_eq_true_eq] at h
 exact h.1
theorem utf8_of_check {s:ByteArray} (h:(checkS s).2=0):Lib.validD s.data.toList=true:=text_valid ((check_iff _).1 h)
section
def noS:ByteArray:=⟨#[]⟩
def zeroE:Ent:=⟨noS,noS,noS,noS,0⟩
def zeroF:Fd:=⟨[],noS,noS,noS,0,[]⟩
def inT (t:Int):Bool:=decide (-62135596800≤t) && decide (t≤253402300799)
def firstErr:List ByteArray→Nat
 | []=>0
 |s::t=>if (checkS s).2=0 then firstErr t else (checkS s).2
def strsE (e:Ent):List ByteArray:= [e.id,e.title,e.link,e.content]
def strsF (f:Fd):List ByteArray:=f.path++ [f.id,f.title,f.link]
def collE (e:Ent):Ent:=⟨collapse e.id,collapse e.title,collapse e.link,collapse e.content,e.upd⟩
def collF (f:Fd):Fd:=⟨f.path.map collapse,collapse f.id,collapse f.title,collapse f.link,f.upd,ordE.canon (f.ents.map collE)⟩
def errE (e:Ent):Nat:=if firstErr (strsE e)≠0 then firstErr (strsE e) else if collapse e.id=noS then 19 else if inT e.upd then 0 else 3
def errEs:List Ent→Nat
 | []=>0
 |e::t=>if errE e=0 then errEs t else errE e
def headF (f:Fd):Nat:=if firstErr (strsF f)≠0 then firstErr (strsF f) else if collapse f.id=noS∨(f.path.any fun p=>decide (collapse p=noS))=true then 19 else if 64<f.path.length then 9 else if inT f.upd then 0 else 3
def errF (f:Fd):Nat:=if headF f=0 then errEs f.ents else headF f
def normE (e:Ent):Ent:=if errE e=0 then collE e else zeroE
def normF (f:Fd):Fd:=if errF f=0 then collF f else zeroF
def okAt {α κ:Type} [DecidableEq κ] (ok:α→Bool) (O:Ord α κ) (l:List α) (i:Nat):Bool:=
 match l[i]? with
 |none=>true
 |some x=>ok x && (decide (i=0)||(match l[i - 1]? with|none=>true|some y=>O.lt y x)) && (l.take i).all fun y=>decide (O.id y≠O.id x)
def okL {α κ:Type} [DecidableEq κ] (ok:α→Bool) (O:Ord α κ) (l:List α):Bool:=(List.range l.length).all (okAt ok O l)
def okE (e:Ent):Bool:=(strsE e).all validS && !decide (e.id=noS) && inT e.upd
def okH (f:Fd):Bool:=decide (f.path.length≤64) && (strsF f).all validS && !decide (f.id=noS) && inT f.upd && f.path.all fun p=> !decide (p=noS)
def okF (f:Fd):Bool:=okH f && okL okE ordE f.ents
section
variable {α κ:Type} [DecidableEq κ] {ok:α→Bool} {O:Ord α κ}
theorem okAt_iff {l:List α} {i:Nat} (hi:i<l.length):okAt ok O l i=true↔ok l[i]=true∧(∀h:0<i,O.lt l[i - 1] l[i]=true)∧∀j (hj:j<i),O.id l[j]≠O.id l[i]:=by
 unfold okAt
 rw[List.getElem?_eq_getElem hi]
 simp only[Bool.and_eq_true,Bool.or_eq_true,decide_eq_true_eq,List.all_eq_true,and_assoc]
 refine and_congr Iff.rfl (and_congr ?_ ?_)
 ·rw[List.getElem?_eq_getElem (show i - 1<l.length by omega)]
  constructor
  ·rintro (h|h) h0
   ·omega
   ·exact h
  ·intro h
   rcases Nat.eq_zero_or_pos i with h0|h0
   ·exact Or.inl h0
   ·exact Or.inr (h h0)
 ·constructor
  ·intro h j hj
   refine h _ ?_
   exact List.mem_take_iff_getElem.2 ⟨j,by omega,rfl⟩
  ·intro h x hx
   obtain ⟨j,hj,rfl⟩:=List.mem_take_iff_getElem.1 hx
   exact h j (by omega)
theorem okL_iff {l:List α}:okL ok O l=true↔(∀x∈l,ok x=true)∧O.sorted l∧l.Pairwise fun a b=>O.id a≠O.id b:=by
 unfold okL
 simp only[List.all_eq_true,List.mem_range]
 constructor
 ·intro h
  refine ⟨fun x hx=> ?_,?_,?_⟩
  ·obtain ⟨i,hi,rfl⟩:=List.mem_iff_getElem.1 hx
   exact ((okAt_iff hi).1 (h i hi)).1
  ·refine List.pairwise_iff_getElem.2 fun i j hi hj hij=> ?_
   have step:∀d i (hd:i+d+1<l.length),O.lt l[i] l[i+d+1]=true:=by
    intro d
    induction d with
    |zero=>intro i hd;exact ((okAt_iff hd).1 (h (i+1) hd)).2.1 (by omega)
    |succ d ih=>
     intro i hd
     have h1:=ih i (by omega)
     have h2:=((okAt_iff hd).1 (h _ hd)).2.1 (by omega)
     exact O.trans _ _ _ h1 h2
   have:=step (j - i - 1) i (by omega)
   simpa [show i+(j - i - 1)+1=j by omega] using this
  ·exact List.pairwise_iff_getElem.2 fun i j hi hj hij=>((okAt_iff hj).1 (h j hj)).2.2 i hij
 ·rintro ⟨h1,h2,h3⟩ i hi
  rw[okAt_iff hi]
  exact ⟨h1 _ (List.getElem_mem hi),fun h0=>List.pairwise_iff_getElem.1 h2 (i - 1) i (by omega) hi (by omega),fun j hj=>List.pairwise_iff_getElem.1 h3 j i (by omega) hi hj⟩
end
theorem okE_iff {e:Ent}:okE e=true↔(∀s∈strsE e,validS s=true)∧e.id≠noS∧inT e.upd=true:=by
 unfold okE;simp only[Bool.and_eq_true,List.all_eq_true,Bool.not_eq_true',decide_eq_false_iff_not,and_assoc,ne_eq]
theorem okH_iff {f:Fd}:okH f=true↔f.path.length≤64∧(∀s∈strsF f,validS s=true)∧f.id≠noS∧inT f.upd=true∧∀p∈f.path,p≠noS:=by
 unfold okH;simp only[Bool.and_eq_true,List.all_eq_true,Bool.not_eq_true',decide_eq_false_iff_not,decide_eq_true_eq,and_assoc,ne_eq]
theorem okF_iff {f:Fd}:okF f=true↔okH f=true∧okL okE ordE f.ents=true:=by unfold okF;rw[Bool.and_eq_true]
theorem vld_of {s:ByteArray} (h:validS s=true):vld s=true:=utf8_of_check (check_valid h)
theorem firstErr_zero {l:List ByteArray}:firstErr l=0↔∀s∈l,(checkS s).2=0:=by
 induction l with
 |nil=>simp[firstErr]
 |cons s t ih=>
  unfold firstErr
  by_cases h:(checkS s).2=0
  ·rw[if_pos h,ih];simp[h]
  ·rw[if_neg h];simp[h]
theorem firstErr_drop {l:List ByteArray} {k:Nat} (hk:k<l.length):firstErr (l.drop k)=if (checkS l[k]).2=0 then firstErr (l.drop (k+1)) else (checkS l[k]).2:=by
 rw[List.drop_eq_getElem_cons hk];rfl
theorem errE_zero {e:Ent}:errE e=0↔firstErr (strsE e)=0∧collapse e.id≠noS∧inT e.upd=true:=by
 unfold errE
 by_cases h:firstErr (strsE e)=0
 ·rw[if_neg (by simpa using h)]
  by_cases k:collapse e.id=noS
  ·rw[if_pos k];simp[k]
  ·rw[if_neg k];simp[h,k]
 ·rw[if_pos h];simp[h]
theorem headF_zero {f:Fd}:headF f=0↔firstErr (strsF f)=0∧collapse f.id≠noS∧(∀p∈f.path,collapse p≠noS)∧f.path.length≤64∧inT f.upd=true:=by
 unfold headF
 by_cases h:firstErr (strsF f)=0
 ·rw[if_neg (by simpa using h)]
  by_cases k:collapse f.id=noS∨(f.path.any fun p=>decide (collapse p=noS))=true
  ·rw[if_pos k]
   constructor
   ·intro h';omega
   ·rintro ⟨_,h1,h2,_⟩
    rcases k with k|k
    ·exact absurd k h1
    ·obtain ⟨p,hp,e⟩:=List.any_eq_true.1 k;exact absurd (of_decide_eq_true e) (h2 p hp)
  ·rw[if_neg k]
   have k1:collapse f.id≠noS:=fun e=>k (Or.inl e)
   have k2:∀p∈f.path,collapse p≠noS:=fun p hp e=>k (Or.inr (List.any_eq_true.2 ⟨p,hp,decide_eq_true e⟩))
   by_cases g:64<f.path.length
   ·rw[if_pos g];constructor
    ·intro h';omega
    ·rintro ⟨_,_,_,h',_⟩;omega
   ·rw[if_neg g]
    have g':f.path.length≤64:=by omega
    by_cases hi:inT f.upd=true
    ·rw[if_pos hi];exact ⟨fun _=>⟨h,k1,k2,g',hi⟩,fun _=>rfl⟩
    ·rw[if_neg hi];exact ⟨fun h'=>by omega,fun h'=>absurd h'.2.2.2.2 hi⟩
 ·rw[if_pos h];exact ⟨fun h'=>absurd h' h,fun h'=>absurd h'.1 h⟩
theorem errEs_zero {l:List Ent}:errEs l=0↔∀e∈l,errE e=0:=by
 induction l with
 |nil=>simp[errEs]
 |cons s t ih=>
  unfold errEs
  by_cases h:errE s=0
  ·rw[if_pos h,ih];simp[h]
  ·rw[if_neg h];simp[h]
theorem errF_zero {f:Fd}:errF f=0↔headF f=0∧errEs f.ents=0:=by
 unfold errF
 by_cases h:headF f=0
 ·rw[if_pos h];simp[h]
 ·rw[if_neg h];simp[h]
end
def leapN (y:Nat):Bool:=(y % 4==0 && y % 100 !=0)||y % 400==0
def dimN (y m:Nat):Nat:=if m=2 then (if leapN y then 29 else 28) else if m=4∨m=6∨m=9∨m=11 then 30 else 31
def befN (y:Nat):Nat:=365*(y - 1)+(y - 1) / 4 - (y - 1) / 100+(y - 1) / 400
def lenN (y:Nat):Nat:=if leapN y then 366 else 365
theorem leapN_iff (y:Nat):leapN y=true↔(y % 4=0∧y % 100≠0)∨y % 400=0:=by simp[leapN]
theorem befN_succ (y:Nat) (h:1≤y):befN (y+1)=befN y+lenN y:=by
 obtain ⟨p,rfl⟩:∃p,y=p+1:=⟨y - 1,by omega⟩
 unfold befN lenN
 simp only[Nat.add_sub_cancel]
 have hl:=leapN_iff (p+1)
 have d4:(p+1) / 4=p / 4+if (p+1) % 4=0 then 1 else 0:=by split<;>omega
 have d1:(p+1) / 100=p / 100+if (p+1) % 100=0 then 1 else 0:=by split<;>omega
 have d0:(p+1) / 400=p / 400+if (p+1) % 400=0 then 1 else 0:=by split<;>omega
 have i1:(p+1) % 400=0→(p+1) % 100=0:=by omega
 have i2:(p+1) % 100=0→(p+1) % 4=0:=by omega
 have hle:p / 100≤365*p:=by omega
 rw[d4,d1,d0]
 generalize p / 4=a at*
 generalize p / 100=b at*
 generalize p / 400=c at*
 generalize (p+1) % 4=x at*
 generalize (p+1) % 100=u at*
 generalize (p+1) % 400=v at*
 cases hb:leapN (p+1) with
 |true=>
  rw[hb] at hl
  have hl:=hl.1 rfl
  simp only[if_true]
  split<;>split<;>split<;>omega
 |false=>
  rw[hb] at hl
  have hl:¬((x=0∧u≠0)∨v=0):=fun h=>by have:=hl.2 h;cases this
  simp only[Bool.false_eq_true,if_false]
  split<;>split<;>split<;>omega
def monN (y:Nat):Nat→Nat
 |0=>0
 |m+1=>monN y m+dimN y (m+1)
theorem monN_12 (y:Nat):monN y 12=lenN y:=by
 have:∀b:Bool,0+(if (1:Nat)=2 then (if b=true then 29 else 28) else if 1=4∨1=6∨1=9∨1=11 then 30 else 31)+(if b=true then 29 else 28)+31+30+31+30+31+31+30+31+30+31=if b=true then 366 else 365:=by decide
 exact this (leapN y)
theorem dimN_pos (y m:Nat):28≤dimN y m∧dimN y m≤31:=by
 unfold dimN
 repeat' split
 all_goals omega
theorem monN_mono (y:Nat) {a b:Nat} (h:a≤b):monN y a≤monN y b:=by
 induction h with
 |refl=>exact Nat.le_refl _
 |step _ ih=>exact Nat.le_trans ih (Nat.le_add_right _ _)
theorem befN_mono {a b:Nat} (ha:1≤a) (h:a≤b):befN a≤befN b:=by
 induction h with
 |refl=>exact Nat.le_refl _
 | @step m hm ih=>rw[befN_succ m (Nat.le_trans ha hm)];omega
def IsDate (n y m d:Nat):Prop:=1≤y∧1≤m∧m≤12∧1≤d∧d≤dimN y m∧n=befN y+monN y (m - 1)+(d - 1)
theorem IsDate.year {n y m d:Nat} (h:IsDate n y m d):befN y≤n∧n<befN (y+1):=by
 obtain ⟨hy,hm,hm2,hd,hd2,rfl⟩:=h
 refine ⟨by omega,?_⟩
 rw[befN_succ y hy,←monN_12 y]
 obtain ⟨k,rfl⟩:∃k,m=k+1:=⟨m - 1,by omega⟩
 have:=monN_mono y hm2
 rw[monN] at this
 rw[Nat.add_sub_cancel]
 omega
theorem IsDate.unique {n y m d y' m' d':Nat} (h:IsDate n y m d) (h':IsDate n y' m' d'):y=y'∧m=m'∧d=d':=by
 have a:=h.year
 have a':=h'.year
 have hy:y=y':=by
  rcases Nat.lt_trichotomy y y' with hl|hl|hl
  ·have:=befN_mono (a:=y+1) (b:=y') (by omega) hl;omega
  ·exact hl
  ·have:=befN_mono (a:=y'+1) (b:=y) (by omega) hl;omega
 subst hy
 obtain ⟨hy,hm,hm2,hd,hd2,rfl⟩:=h
 obtain ⟨_,hm',hm2',hd',hd2',he⟩:=h'
 obtain ⟨k,rfl⟩:∃k,m=k+1:=⟨m - 1,by omega⟩
 obtain ⟨k',rfl⟩:∃k,m'=k+1:=⟨m' - 1,by omega⟩
 rw[Nat.add_sub_cancel,Nat.add_sub_cancel] at he
 have hk:k=k':=by
  rcases Nat.lt_trichotomy k k' with hl|hl|hl
  ·have:=monN_mono y (a:=k+1) (b:=k') hl;rw[monN] at this;omega
  ·exact hl
  ·have:=monN_mono y (a:=k'+1) (b:=k) hl;rw[monN] at this;omega
 subst hk
 exact ⟨rfl,rfl,by omega⟩
def yearN (n:Nat):Nat:=
 let a:=n / 146097;let r:=n % 146097
 let b:=min (r / 36524) 3;let s:=r - b*36524
 let c:=min (s / 1461) 24;let t:=s - c*1461
 1+400*a+100*b+4*c+min (t / 365) 3
theorem befN_at (a b c e:Nat) (hb:b≤3) (hc:c≤24) (he:e≤3):befN (1+400*a+100*b+4*c+e)=146097*a+36524*b+1461*c+365*e:=by
 unfold befN
 have h4:(1+400*a+100*b+4*c+e - 1) / 4=100*a+25*b+c:=by omega
 have h1:(1+400*a+100*b+4*c+e - 1) / 100=4*a+b:=by omega
 have h0:(1+400*a+100*b+4*c+e - 1) / 400=a:=by omega
 rw[h4,h1,h0];omega
theorem yearN_ok (n:Nat):befN (yearN n)≤n∧n<befN (yearN n+1)∧1≤yearN n:=by
 obtain ⟨a,ha⟩:∃a,n / 146097=a:=⟨_,rfl⟩
 obtain ⟨r,hr⟩:∃r,n % 146097=r:=⟨_,rfl⟩
 have hn:n=146097*a+r∧r<146097:=by omega
 obtain ⟨b,hb⟩:∃b,min (r / 36524) 3=b:=⟨_,rfl⟩
 have hn2:=hn.2
 have hb2:b≤3∧36524*b≤r∧(b<3→r - b*36524<36524)∧r - b*36524≤36524:=by clear hn hr ha;omega
 obtain ⟨s,hs⟩:∃s,r - b*36524=s:=⟨_,rfl⟩
 rw[hs] at hb2
 have hrs:r=36524*b+s:=by clear hn hr ha hb hn2;omega
 have hs1:s≤36524:=hb2.2.2.2
 have hs2:=hb2.2.2.1
 obtain ⟨c,hc⟩:∃c,min (s / 1461) 24=c:=⟨_,rfl⟩
 have hc2:c≤24∧1461*c≤s∧s - c*1461<1461:=by clear hn hr ha hb hn2 hb2 hrs hs hs2;omega
 obtain ⟨t,ht⟩:∃t,s - c*1461=t:=⟨_,rfl⟩
 rw[ht] at hc2
 have hst:s=1461*c+t:=by clear hn hr ha hb hn2 hb2 hrs hs hs2 hc;omega
 have ht1:=hc2.2.2
 obtain ⟨e,he⟩:∃e,min (t / 365) 3=e:=⟨_,rfl⟩
 have he2:e≤3∧365*e≤t∧(t - 365*e<365∨(e=3∧t=1460)):=by clear hn hr ha hb hn2 hb2 hrs hs hs2 hc hst hc2 ht;omega
 have hy:yearN n=1+400*a+100*b+4*c+e:=by
  unfold yearN
  simp only[ha,hr,hb,hs,hc,ht,he]
 have hbef:=befN_at a b c e hb2.1 hc2.1 he2.1
 have hpos:1≤yearN n:=by rw[hy];omega
 rw[befN_succ _ hpos,hy,hbef]
 have hl:365≤lenN (1+400*a+100*b+4*c+e):=by unfold lenN;split<;>omega
 have hbb:=hb2.1
 have hcc:=hc2.1
 have heb:=he2.2.1
 have hn1:=hn.1
 clear hr ha hb hc he ht hs hbef hn
 refine ⟨by omega,?_,by omega⟩
 rcases he2.2.2 with h|⟨h3,h4⟩
 ·omega
 ·have:lenN (1+400*a+100*b+4*c+e)=366:=by
   unfold lenN
   rw[if_pos]
   rw[leapN_iff]
   by_cases hcc2:c=24
   ·have:b=3:=by omega
    right;omega
   ·left;omega
  omega
def monthGo (y:Nat):Nat→Nat→Nat→Nat×Nat
 |0,m,left=>(m,left)
 |k+1,m,left=>if dimN y m≤left then monthGo y k (m+1) (left - dimN y m) else (m,left)
theorem monthGo_ok (y:Nat):∀(k m left:Nat),1≤m→m+k=12→monN y (m - 1)+left<lenN y→
 1≤(monthGo y k m left).1∧(monthGo y k m left).1≤12∧(monthGo y k m left).2<dimN y (monthGo y k m left).1∧monN y ((monthGo y k m left).1 - 1)+(monthGo y k m left).2=monN y (m - 1)+left
 |0,m,left,h1,h2,h3=>by
  have:m=12:=by omega
  subst this
  have h12:monN y 11+dimN y 12=lenN y:=monN_12 y
  have h3:monN y 11+left<lenN y:=h3
  exact ⟨Nat.le_add_left 1 11,Nat.le_refl 12,by show left<dimN y 12;omega,rfl⟩
 |k+1,m,left,h1,h2,h3=>by
  unfold monthGo
  by_cases h:dimN y m≤left
  ·rw[if_pos h]
   have hm:monN y (m+1 - 1)=monN y (m - 1)+dimN y m:=by
    obtain ⟨j,rfl⟩:∃j,m=j+1:=⟨m - 1,by omega⟩
    rfl
   have:=monthGo_ok y k (m+1) (left - dimN y m) (by omega) (by omega) (by omega)
   rw[hm] at this
   refine ⟨this.1,this.2.1,this.2.2.1,?_⟩
   rw[this.2.2.2];omega
  ·rw[if_neg h]
   exact ⟨h1,by show m≤12;omega,by show left<dimN y m;omega,rfl⟩
def dateN (n:Nat):Nat×Nat×Nat:=
 let y:=yearN n;let p:=monthGo y 11 1 (n - befN y)
 (y,p.1,p.2+1)
theorem dateN_ok (n:Nat):IsDate n (dateN n).1 (dateN n).2.1 (dateN n).2.2:=by
 have hy:=yearN_ok n
 have hs:=befN_succ (yearN n) hy.2.2
 have:=monthGo_ok (yearN n) 11 1 (n - befN (yearN n)) (Nat.le_refl 1) rfl (by show 0+(n - befN (yearN n))<lenN (yearN n);omega)
 refine ⟨hy.2.2,this.1,this.2.1,Nat.le_add_left 1 _,this.2.2.1,?_⟩
 show n=befN (yearN n)+monN (yearN n) ((monthGo (yearN n) 11 1 (n - befN (yearN n))).1 - 1)+((monthGo (yearN n) 11 1 (n - befN (yearN n))).2+1 - 1)
 have h4:=this.2.2.2
 rw[show monN (yearN n) (1 - 1)=0 from rfl] at h4
 omega
theorem IsDate.eq {n y m d:Nat} (h:IsDate n y m d):dateN n=(y,m,d):=by
 obtain ⟨a,b,c⟩:=(dateN_ok n).unique h
 exact Prod.ext a (Prod.ext b c)
theorem IsDate.top {n y m d:Nat} (h:IsDate n y m d) (hn:n<3652059):y≤9999:=by
 have:=h.year
 have h2:befN 10000=3652059:=by decide
 by_cases hy:y≤9999
 ·exact hy
 ·have:=befN_mono (a:=10000) (b:=y) (by omega) (by omega);omega
def secsP (y m d h mi s:Nat):Option Int:=
 if 1≤y∧y≤9999∧1≤m∧m≤12∧1≤d∧d≤dimN y m∧h≤23∧mi≤59∧s≤59 then
  some (((befN y+monN y (m - 1)+(d - 1):Nat):Int)*86400 - 62135596800+((h*3600+mi*60+s:Nat):Int))
 else none
def dg (n:Nat):UInt8:=UInt8.ofNat (48+n % 10)
def pad2 (n:Nat):List UInt8:= [dg (n / 10),dg n]
def pad4 (n:Nat):List UInt8:= [dg (n / 1000),dg (n / 100),dg (n / 10),dg n]
def fmtD (y m d s:Nat):List UInt8:=pad4 y++45::(pad2 m++45::(pad2 d++84::(pad2 (s / 3600)++58::(pad2 (s / 60 % 60)++58::(pad2 (s % 60)++ [90])))))
def sinceN (t:Int):Nat:=(t+62135596800).toNat
def fmtL (t:Int):List UInt8:=fmtD (dateN (sinceN t / 86400)).1 (dateN (sinceN t / 86400)).2.1 (dateN (sinceN t / 86400)).2.2 (sinceN t % 86400)
theorem fmtL_len (t:Int):(fmtL t).length=20:=by
 unfold fmtL fmtD;simp[pad2,pad4]
def digP (l:List UInt8) (i:Nat):Option Nat:=match l[i]? with
 |some c=>if 48≤c.toNat∧c.toNat≤57 then some (c.toNat - 48) else none
 |none=>none
def numP (l:List UInt8) (at_:Nat):Nat→Option Nat
 |0=>some 0
 |w+1=>match numP l at_ w,digP l (at_+w) with
  |some n,some d=>some (n*10+d)
  |_,_=>none
def sepP (l:List UInt8) (i a b:Nat):Bool:=match l[i]? with
 |some c=>decide (c.toNat=a)||decide (c.toNat=b)
 |none=>false
def digsP (l:List UInt8):Nat→Nat→Nat
 |0,_=>0
 |k+1,i=>if (digP l i).isSome then digsP l k (i+1)+1 else 0
def fracP (l:List UInt8) (at_:Nat):Option Nat:=
 if sepP l at_ 46 46 then (if digsP l l.length (at_+1)=0 then none else some (at_+1+digsP l l.length (at_+1))) else some at_
def offP (l:List UInt8) (at_:Nat):Option Int:=
 if sepP l at_ 90 122 then (if l.length=at_+1 then some 0 else none)
 else match numP l (at_+1) 2,numP l (at_+4) 2 with
  |some h,some m=>if (sepP l at_ 43 45 && sepP l (at_+3) 58 58)=true∧h≤23∧m≤59∧l.length=at_+6 then some (if sepP l at_ 45 45 then -((h*3600+m*60:Nat):Int) else ((h*3600+m*60:Nat):Int)) else none
  |_,_=>none
def stampP (l:List UInt8):Option Int:=
 if (sepP l 4 45 45 && sepP l 7 45 45 && sepP l 10 84 116 && sepP l 13 58 58 && sepP l 16 58 58)=true then
  match numP l 0 4,numP l 5 2,numP l 8 2,numP l 11 2,numP l 14 2,numP l 17 2 with
  |some y,some m,some d,some h,some mi,some s=>secsP y m d h mi s
  |_,_,_,_,_,_=>none
 else none
def timeP (l:List UInt8):Option Int:=match stampP l,fracP l 19 with
 |some t,some at_=>match offP l at_ with
  |some o=>if inT (t - o) then some (t - o) else none
  |none=>none
 |_,_=>none
theorem dg_nat (n:Nat):(dg n).toNat=48+n % 10:=by unfold dg;rw[UInt8.toNat_ofNat'];omega
def kindJ:JO→Nat
 | .null _=>0
 | .bool _ _=>1
 | .int _ _=>2
 | .str _ _=>3
 | .arr _ _=>4
 | .obj _ _ _=>5
def atJ:JO→Nat
 | .null a=>a
 | .bool a _=>a
 | .int a _=>a
 | .str a _=>a
 | .arr a _=>a
 | .obj a _ _=>a
def sJ:JO→ByteArray
 | .str _ s=>s
 |_=>noS
def itemsJ:JO→List JO
 | .arr _ l=>l
 |_=> []
def lookG:List (ByteArray×Nat)→List JO→ByteArray→Option JO
 |k::ks,v::vs,name=>if k.1=name then some v else lookG ks vs name
 |_,_,_=>none
def getJ:JO→ByteArray→Option JO
 | .obj _ ks vs,name=>lookG ks vs name
 |_,_=>none
def memJ (j:JO) (name:ByteArray):Option JO:=match getJ j name with
 |some x=>if kindJ x=0 then none else some x
 |none=>none
def base1:List UInt8:= [104,116,116,112,115,58,47,47,106,115,111,110,102,101,101,100,46,111,114,103,47,118,101,114,115,105,111,110,47]
def nVersion:ByteArray:=⟨#[118,101,114,115,105,111,110]⟩
def nFeedUrl:ByteArray:=⟨#[102,101,101,100,95,117,114,108]⟩
def nHome:ByteArray:=⟨#[104,111,109,101,95,112,97,103,101,95,117,114,108]⟩
def nTitle:ByteArray:=⟨#[116,105,116,108,101]⟩
def nUpdated:ByteArray:=⟨#[95,117,112,100,97,116,101,100]⟩
def nItems:ByteArray:=⟨#[105,116,101,109,115]⟩
def nId:ByteArray:=⟨#[105,100]⟩
def nUrl:ByteArray:=⟨#[117,114,108]⟩
def nText:ByteArray:=⟨#[99,111,110,116,101,110,116,95,116,101,120,116]⟩
def nHtml:ByteArray:=⟨#[99,111,110,116,101,110,116,95,104,116,109,108]⟩
def nMod:ByteArray:=⟨#[100,97,116,101,95,109,111,100,105,102,105,101,100]⟩
def nPub:ByteArray:=⟨#[100,97,116,101,95,112,117,98,108,105,115,104,101,100]⟩
def v1:ByteArray:=⟨#[49]⟩
def v11:ByteArray:=⟨#[49,46,49]⟩
def versJ (j:JO):Option ByteArray:=match getJ j nVersion with
 |some x=>if sJ x=str (base1++ [49]) then some v1 else if sJ x=str (base1++ [49,46,49]) then some v11 else none
 |none=>none
def chkJ (j:JO):Bool→List ByteArray→Option (Nat×Nat)
 |_,[]=>none
 |num,n::t=>match memJ j n with
  |none=>chkJ j false t
  |some x=>if num=true∧kindJ x=2 then chkJ j false t else if kindJ x≠3 then some (atJ x,21) else if (checkS (sJ x)).2≠0 then some (atJ x,(checkS (sJ x)).2) else chkJ j false t
def textJ (j:JO) (name:ByteArray):ByteArray:=match memJ j name with
 |some (.int _ n)=>str (Lib.itoa n)
 |some x=>sJ x
 |none=>noS
def dateJ (j:JO):List ByteArray→Except (Nat×Nat) Int
 | []=> .ok (-62135596800)
 |n::t=>match memJ j n with
  |none=>dateJ j t
  |some x=>match timeP (collapse (sJ x)).data.toList with
   |some t=> .ok t
   |none=> .error (atJ x,20)
def entJO (j:JO):Ent:=⟨textJ j nId,textJ j nTitle,textJ j nUrl,(if (memJ j nText).isSome then textJ j nText else textJ j nHtml),0⟩
def entryJ (j:JO):Except (Nat×Nat) Ent:=
 if kindJ j≠5 then .error (atJ j,21)
 else match chkJ j true [nId,nTitle,nUrl,nText,nHtml,nMod,nPub] with
  |some e=> .error e
  |none=>if collapse (textJ j nId)=noS then .error (atJ j,19) else match dateJ j [nMod,nPub] with
   | .error e=> .error e
   | .ok t=> .ok {entJO j with upd:=t}
def entsJ:List JO→Except (Nat×Nat) (List Ent)
 | []=> .ok []
 |j::t=>match entryJ j with
  | .error e=> .error e
  | .ok x=>match entsJ t with
   | .error e=> .error e
   | .ok l=> .ok (x::l)
def feedId (j:JO):ByteArray:=if collapse (textJ j nFeedUrl)=noS then textJ j nHome else textJ j nFeedUrl
def decJ (j:JO):Except (Nat×Nat) Fd:=
 if versJ j=none then .error (atJ j,18)
 else match chkJ j false [nFeedUrl,nHome,nTitle,nUpdated] with
  |some e=> .error e
  |none=>if collapse (feedId j)=noS then .error (atJ j,19) else match dateJ j [nUpdated] with
   | .error e=> .error e
   | .ok t=>match memJ j nItems with
    |none=> .ok ⟨[],feedId j,textJ j nTitle,textJ j nHome,t,[]⟩
    |some x=>if kindJ x≠4 then .error (atJ x,21) else match entsJ (itemsJ x) with
     | .error e=> .error e
     | .ok l=> .ok ⟨[],feedId j,textJ j nTitle,textJ j nHome,t,l⟩
def optM (k s:ByteArray):List (ByteArray×ByteArray):=if s=noS then [] else [(k,s)]
def objS (l:List (ByteArray×ByteArray)):JV:= .obj (l.map Prod.fst) (l.map fun p=> .str p.2)
def entM (e:Ent):List (ByteArray×ByteArray):=(nId,e.id)::(optM nUrl e.link++(nTitle,e.title)::(optM nText e.content++ [(nMod,str (fmtL e.upd))]))
def feedM (f:Fd):List (ByteArray×ByteArray):=(nVersion,str (base1++ [49,46,49]))::(nTitle,f.title)::(optM nHome f.link++ [(nFeedUrl,f.id),(nUpdated,str (fmtL f.upd))])
def encJ (f:Fd):JV:= .obj ((feedM f).map Prod.fst++ [nItems]) ((feedM f).map (fun p=> .str p.2)++ [.arr (f.ents.map fun e=>objS (entM e))])
theorem isPrefixOf_iff {t l:List UInt8}:t.isPrefixOf l=true↔l.take t.length=t:=by
 rw[List.isPrefixOf_iff_prefix]
 exact ⟨fun h=>(List.prefix_iff_eq_take.1 h).symm,fun h=>List.prefix_iff_eq_take.2 h.symm⟩
theorem hasAt_long {s t:List UInt8} {k:Nat} (h:s.length<k+t.length) (ht:t≠ []):hasAt s k t=false:=by
 unfold hasAt
 cases hp:t.isPrefixOf (s.drop k) with
 |false=>rfl
 |true=>
  have h1:=congrArg List.length (isPrefixOf_iff.1 hp)
  have h2:0<t.length:=List.length_pos_iff.2 ht
  rw[List.length_take,List.length_drop] at h1
  omega
theorem hasAt_eq (s t:List UInt8) (k:Nat):hasAt s k t=((s.drop k).take t.length==t):=by
 unfold hasAt
 cases hp:t.isPrefixOf (s.drop k) with
 |true=>rw[isPrefixOf_iff.1 hp];simp
 |false=>
  have:(s.drop k).take t.length≠t:=fun e=>by rw[isPrefixOf_iff.2 e] at hp;cases hp
  simp[this]
def keeps (t:Tok):Prop:=t.kind≠3∨t.text≠ []
instance (t:Tok):Decidable (keeps t):=inferInstanceAs (Decidable (_∨_))
theorem dec_app {l:List UInt8} (r:List UInt8) (h:(dec l).2≠0):dec (l++r)=dec l∧scalar (dec l).1∧(encN (dec l).1).length=(dec l).2:=by
 have hs:=dec_split (l:=l) (r:=(dec l).1) (m:=(dec l).2) rfl h
 have hle:=dec_le l
 have hl:(encN (dec l).1).length=(dec l).2:=by
  have:=congrArg List.length hs
  rw[List.length_append,List.length_drop] at this
  omega
 have hsc:scalar (dec l).1:=by
  unfold scalar
  rcases Nat.lt_or_ge 1114111 (dec l).1 with h1|h1
  ·have:encN (dec l).1= []:=by unfold encN;rw[if_pos (Or.inl h1)]
   rw[this] at hl
   exact absurd hl.symm h
  ·by_cases h2:55296≤(dec l).1∧(dec l).1≤57343
   ·have:encN (dec l).1= []:=by unfold encN;rw[if_pos (Or.inr h2)]
    rw[this] at hl
    exact absurd hl.symm h
   ·omega
 refine ⟨?_,hsc,hl⟩
 calc dec (l++r)=dec (encN (dec l).1++(l.drop (dec l).2++r)):=by rw[←List.append_assoc,←hs]
  _=((dec l).1,(encN (dec l).1).length):=dec_enc hsc _
  _=dec l:=by rw[hl]
def eraseJ:JO→JV
 | .null _=> .null
 | .bool _ b=> .bool b
 | .int _ n=> .int n
 | .str _ s=> .str s
 | .arr _ l=> .arr (l.map eraseJ)
 | .obj _ ks vs=> .obj (ks.map Prod.fst) (vs.map eraseJ)
def jplain:Nat→JV→Prop
 |_,.str s=>Lib.validD s.data.toList=true
 |n+1,.arr l=>∀j∈l,jplain n j
 |n+1,.obj ks vs=>ks.length=vs.length∧ks.Nodup∧(∀k∈ks,Lib.validD k.data.toList=true)∧∀j∈vs,jplain n j
 |_,_=>False
def isU (l:List UInt8):Prop:=∃rs:List Nat,(∀r∈rs,scalar r)∧l=rs.flatMap encN
theorem isU_nil:isU []:=⟨[],by simp,rfl⟩
theorem isU_app {l m:List UInt8} (h:isU l) (k:isU m):isU (l++m):=by
 obtain ⟨a,ha,rfl⟩:=h
 obtain ⟨b,hb,rfl⟩:=k
 exact ⟨a++b,fun r hr=>(List.mem_append.1 hr).elim (ha r) (hb r),by simp⟩
theorem isU_enc {r:Nat} (h:scalar r):isU (encN r):=⟨[r],by simpa using h,by simp⟩
theorem utf_valid {l:List UInt8} (h:isU l):Lib.validD l=true:=by
 obtain ⟨rs,h,rfl⟩:=h
 induction rs with
 |nil=>rfl
 |cons r rs ih=>
  have hr:=h r (by simp)
  have h1:=encN_len hr
  have hd:=dec_enc hr (rs.flatMap encN)
  rw[List.flatMap_cons]
  have hv:=valid_at (encN r++rs.flatMap encN) 0 (by rw[List.length_append];omega)
  rw[List.drop_zero,hd,if_neg (by simp only[];omega),Nat.zero_add,List.drop_left] at hv
  rw[hv]
  exact ih fun r hr=>h r (by simp[hr])
theorem hexGo_lt {l:List UInt8} {i:Nat}:∀{k n:Nat},hexGo l i k=some n→n<16 ^ k∧(0<k→i+k≤l.length)
 |0,n,h=>by cases h;exact ⟨by decide,fun h=>absurd h (Nat.lt_irrefl _)⟩
 |k+1,n,h=>by
  unfold hexGo at h
  cases h1:hexGo l i k with
  |none=>rw[h1] at h;cases h
  |some m=>
   cases h2:l[i+k]? with
   |none=>rw[h1,h2] at h;cases h
   |some c=>
    rw[h1,h2] at h
    simp only at h
    by_cases h3:hexV c<16
    ·rw[if_pos h3] at h
     injection h with h
     have:=(hexGo_lt h1).1
     have h4:=(List.getElem?_eq_some_iff.1 h2).1
     refine ⟨by rw[Nat.pow_succ];omega,fun _=>by omega⟩
    ·rw[if_neg h3] at h;cases h
theorem unit_lt {l:List UInt8} {i n:Nat} (h:unitP l i=some n):n<65536∧i+6≤l.length:=by
 unfold unitP at h
 by_cases hc:l[i]? =some 92∧l[i+1]? =some 117
 ·rw[if_pos hc] at h
  have:=hexGo_lt h
  exact ⟨this.1,by have:=this.2 (by omega);omega⟩
 ·rw[if_neg hc] at h;cases h
theorem seq_ok {l:List UInt8} {i r n:Nat} (h:seqP l i=some (r,n)):scalar r∧(encN r).length≤n∧1≤n∧i+n≤l.length:=by
 unfold seqP at h
 cases hc:l[i+1]? with
 |none=>rw[hc] at h;cases h
 |some c=>
  rw[hc] at h
  simp only at h
  have hi:=(List.getElem?_eq_some_iff.1 hc).1
  have lo:∀r,r<128→scalar r∧(encN r).length=1:=fun r hr=>⟨Or.inl (by omega),by rw[encN_ascii hr];rfl⟩
  by_cases h1:c=34∨c=92∨c=47
  ·rw[if_pos h1] at h
   simp only[Option.some.injEq,Prod.mk.injEq] at h
   obtain ⟨rfl,rfl⟩:=h
   have:c.toNat<128:=by rcases h1 with rfl|rfl|rfl<;>decide
   obtain ⟨a,b⟩:=lo _ this
   exact ⟨a,by omega,by omega,by omega⟩
  ·rw[if_neg h1] at h
   by_cases h2:c=98∨c=102∨c=110∨c=114∨c=116
   ·have:∃x,x<128∧r=x∧n=2:=by
     rcases h2 with rfl|rfl|rfl|rfl|rfl<;>simp at h<;>obtain ⟨rfl,rfl⟩:=h<;>exact ⟨_,by decide,rfl,rfl⟩
    obtain ⟨x,hx,rfl,rfl⟩:=this
    obtain ⟨a,b⟩:=lo _ hx
    exact ⟨a,by omega,by omega,by omega⟩
   ·simp only[not_or] at h2
    rw[if_neg h2.1,if_neg h2.2.1,if_neg h2.2.2.1,if_neg h2.2.2.2.1,if_neg h2.2.2.2.2] at h
    cases hu:unitP l i with
    |none=>rw[hu] at h;cases h
    |some m=>
     rw[hu] at h
     simp only at h
     have hm:=unit_lt hu
     have len:∀r,scalar r→r<65536→(encN r).length≤3:=by
      intro r hs hr
      unfold encN
      repeat' split
      all_goals simp
      all_goals omega
     by_cases h3:55296≤m∧m≤56319
     ·rw[if_pos h3] at h
      cases hv:unitP l (i+6) with
      |none=>rw[hv] at h;cases h
      |some m2=>
       rw[hv] at h
       simp only at h
       have hm2:=unit_lt hv
       by_cases h4:56320≤m2∧m2≤57343
       ·rw[if_pos h4] at h
        simp only[Option.some.injEq,Prod.mk.injEq] at h
        obtain ⟨rfl,rfl⟩:=h
        have hs:scalar (65536+(m - 55296)*1024+m2 - 56320):=Or.inr (by omega)
        refine ⟨hs,?_,by omega,by omega⟩
        rw[encN_4 hs (by omega)];simp
       ·rw[if_neg h4] at h;cases h
     ·rw[if_neg h3] at h
      by_cases h4:56320≤m∧m≤57343
      ·rw[if_pos h4] at h;cases h
      ·rw[if_neg h4] at h
       simp only[Option.some.injEq,Prod.mk.injEq] at h
       obtain ⟨rfl,rfl⟩:=h
       have hs:scalar m:=by unfold scalar;omega
       have:=len m hs hm.1
       exact ⟨hs,by omega,by omega,by omega⟩
theorem strGo_ok {l:List UInt8}:∀(k i:Nat) (out t:List UInt8) (to_:Nat),strGo l k i out=some (t,to_)→isU out→out.length≤i→i≤l.length→isU t∧t.length≤to_∧i<to_∧to_≤l.length
 |0,_,_,_,_,h,_,_,_=>by cases h
 |k+1,i,out,t,to_,h,hu,ho,hi=>by
  unfold strGo at h
  by_cases h0:(dec (l.drop i)).2=0
  ·rw[if_pos h0] at h;cases h
  rw[if_neg h0] at h
  obtain ⟨-,hsc,hlen⟩:=dec_app [] h0
  have hle:=dec_le (l.drop i)
  rw[List.length_drop] at hle
  by_cases h1:(dec (l.drop i)).1<32
  ·rw[if_pos h1] at h;cases h
  rw[if_neg h1] at h
  by_cases h2:(dec (l.drop i)).1=34
  ·rw[if_pos h2] at h
   simp only[Option.some.injEq,Prod.mk.injEq] at h
   obtain ⟨rfl,rfl⟩:=h
   exact ⟨hu,by omega,by omega,by omega⟩
  rw[if_neg h2] at h
  by_cases h3:(dec (l.drop i)).1=92
  ·rw[if_pos h3] at h
   cases hs:seqP l i with
   |none=>rw[hs] at h;cases h
   |some p=>
    obtain ⟨r,n⟩:=p
    rw[hs] at h
    obtain ⟨a,b,c,d⟩:=seq_ok hs
    obtain ⟨e1,e2,e3,e4⟩:=strGo_ok k _ _ _ _ h (isU_app hu (isU_enc a)) (by rw[List.length_append];omega) d
    exact ⟨e1,e2,by omega,e4⟩
  ·rw[if_neg h3] at h
   obtain ⟨e1,e2,e3,e4⟩:=strGo_ok k _ _ _ _ h (isU_app hu (isU_enc hsc)) (by rw[List.length_append];omega) (by omega)
   exact ⟨e1,e2,by omega,e4⟩
theorem strP_ok {l t:List UInt8} {i to_:Nat} (h:strP l i=some (t,to_)):Lib.validD t=true∧t.length≤l.length∧i<to_∧to_≤l.length:=by
 unfold strP at h
 by_cases hc:l[i]? =some 34
 ·rw[if_pos hc] at h
  have hi:=(List.getElem?_eq_some_iff.1 hc).1
  obtain ⟨a,b,c,d⟩:=strGo_ok _ _ _ _ _ h isU_nil (Nat.zero_le _) hi
  exact ⟨utf_valid a,by omega,by omega,d⟩
 ·rw[if_neg hc] at h;cases h
theorem numV_ok {s:List UInt8} {n:Int} (h:numV s=some n): -9223372036854775808≤n∧n≤9223372036854775807:=by
 unfold numV at h
 simp only at h
 generalize (if s.head? =some 45 then s.tail else s)=d at h
 by_cases h1:d= []∨19<d.length∨(1<d.length∧d.head? =some 48)
 ·rw[if_pos h1] at h;cases h
 ·rw[if_neg h1] at h
  cases hv:decV d 0 with
  |none=>rw[hv] at h;cases h
  |some u=>
   rw[hv] at h
   simp only at h
   split at h<;>split at h<;>simp at h<;>omega
def GoodV (l:List UInt8) (V:Nat→Option (JO×Nat)):Prop:=∀i o to_,V i=some (o,to_)→jgood l.length o∧i<to_∧to_≤l.length
theorem has_lt {l t:List UInt8} {i:Nat} (h:hasAt l i t=true) (ht:t≠ []):i+t.length≤l.length:=by
 have h1:t<+:l.drop i:=List.isPrefixOf_iff_prefix.1 h
 have h2:=h1.length_le
 rw[List.length_drop] at h2
 have:=List.length_pos_iff.2 ht
 omega
theorem itemsGo_ok {l:List UInt8} {V:Nat→Option (JO×Nat)} (hV:GoodV l V):∀(k i:Nat) (acc vs:List JO) (to_:Nat),itemsGo l V k i acc=some (vs,to_)→(∀o∈acc,jgood l.length o)→acc.length≤i→i≤l.length→
 (∀o∈vs,jgood l.length o)∧vs.length≤to_∧i<to_∧to_≤l.length
 |0,_,_,_,_,h,_,_,_=>by cases h
 |k+1,i,acc,vs,to_,h,ha,hl,hi=>by
  unfold itemsGo at h
  cases hv:V (spAt l i) with
  |none=>rw[hv] at h;cases h
  |some p=>
   obtain ⟨o,t⟩:=p
   rw[hv] at h
   simp only at h
   obtain ⟨g1,g2,g3⟩:=hV _ _ _ hv
   have s1:=spAt_ge l i
   have s2:=spAt_ge l t
   have ha':∀x∈acc++ [o],jgood l.length x:=fun x hx=>by
    rcases List.mem_append.1 hx with hx|hx
    ·exact ha x hx
    ·rw[List.mem_singleton.1 hx];exact g1
   by_cases h1:hasAt l (spAt l t) [93]=true
   ·rw[if_pos h1] at h
    simp only[Option.some.injEq,Prod.mk.injEq] at h
    obtain ⟨rfl,rfl⟩:=h
    have:=has_lt h1 (by simp)
    simp only[List.length_append,List.length_cons,List.length_nil] at this⊢
    exact ⟨ha',by omega,by omega,by omega⟩
   ·rw[if_neg h1] at h
    by_cases h2:hasAt l (spAt l t) [44]=true
    ·rw[if_pos h2] at h
     have:=has_lt h2 (by simp)
     simp only[List.length_cons,List.length_nil] at this
     obtain ⟨a,b,c,d⟩:=itemsGo_ok hV k _ _ _ _ h ha' (by simp;omega) (by omega)
     exact ⟨a,b,by omega,d⟩
    ·rw[if_neg h2] at h;cases h
theorem keyP_ok {l:List UInt8} {i to_:Nat} {k:ByteArray} {ks:List (ByteArray×Nat)} (h:keyP l i ks=some (k,to_)):Lib.validD k.data.toList=true∧k.size≤l.length∧i<to_∧to_≤l.length:=by
 unfold keyP at h
 cases hs:strP l i with
 |none=>rw[hs] at h;cases h
 |some p=>
  obtain ⟨t,to2⟩:=p
  rw[hs] at h
  simp only at h
  obtain ⟨a,b,c,d⟩:=strP_ok hs
  by_cases h1:(ks.any fun p=>decide (p.1=str t))=true
  ·rw[if_pos h1] at h;cases h
  ·rw[if_neg h1] at h
   by_cases h2:hasAt l (spAt l to2) [58]=true
   ·rw[if_pos h2] at h
    simp only[Option.some.injEq,Prod.mk.injEq] at h
    obtain ⟨rfl,rfl⟩:=h
    have s:=spAt_ge l to2
    have:=has_lt h2 (by simp)
    simp only[List.length_cons,List.length_nil] at this
    refine ⟨by simpa [str] using a,by simpa [str,ByteArray.size] using b,by omega,by omega⟩
   ·rw[if_neg h2] at h;cases h
theorem memsGo_ok {l:List UInt8} {V:Nat→Option (JO×Nat)} (hV:GoodV l V):∀(f i:Nat) (ak:List (ByteArray×Nat)) (av:List JO) (ks:List (ByteArray×Nat)) (vs:List JO) (to_:Nat),memsGo l V f i ak av=some ((ks,vs),to_)→
 (∀k∈ak,k.2<l.length∧k.1.size≤l.length∧Lib.validD k.1.data.toList=true)→(∀o∈av,jgood l.length o)→ak.length=av.length→av.length≤i→i≤l.length→
 (∀k∈ks,k.2<l.length∧k.1.size≤l.length∧Lib.validD k.1.data.toList=true)∧(∀o∈vs,jgood l.length o)∧ks.length=vs.length∧vs.length≤to_∧i<to_∧to_≤l.length
 |0,_,_,_,_,_,_,h,_,_,_,_,_=>by cases h
 |f+1,i,ak,av,ks,vs,to_,h,hak,hav,hln,hl,hi=>by
  unfold memsGo at h
  cases hk:keyP l (spAt l i) ak with
  |none=>rw[hk] at h;cases h
  |some p=>
   obtain ⟨key,t0⟩:=p
   rw[hk] at h
   simp only at h
   obtain ⟨k1,k2,k3,k4⟩:=keyP_ok hk
   cases hv:V t0 with
   |none=>rw[hv] at h;cases h
   |some p=>
    obtain ⟨o,t⟩:=p
    rw[hv] at h
    simp only at h
    obtain ⟨g1,g2,g3⟩:=hV _ _ _ hv
    have s1:=spAt_ge l i
    have s2:=spAt_ge l t
    have hav':∀x∈av++ [o],jgood l.length x:=fun x hx=>by
     rcases List.mem_append.1 hx with hx|hx
     ·exact hav x hx
     ·rw[List.mem_singleton.1 hx];exact g1
    have hak':∀k∈ak++ [(key,spAt l i)],k.2<l.length∧k.1.size≤l.length∧Lib.validD k.1.data.toList=true:=fun x hx=>by
     rcases List.mem_append.1 hx with hx|hx
     ·exact hak x hx
     ·rw[List.mem_singleton.1 hx];exact ⟨by show spAt l i<_;omega,k2,k1⟩
    by_cases h1:hasAt l (spAt l t) [125]=true
    ·rw[if_pos h1] at h
     simp only[Option.some.injEq,Prod.mk.injEq] at h
     obtain ⟨⟨rfl,rfl⟩,rfl⟩:=h
     have:=has_lt h1 (by simp)
     simp only[List.length_append,List.length_cons,List.length_nil] at this⊢
     exact ⟨hak',hav',by omega,by omega,by omega,by omega⟩
    ·rw[if_neg h1] at h
     by_cases h2:hasAt l (spAt l t) [44]=true
     ·rw[if_pos h2] at h
      have:=has_lt h2 (by simp)
      simp only[List.length_cons,List.length_nil] at this
      obtain ⟨a,b,c,d,e,e2⟩:=memsGo_ok hV f _ _ _ _ _ _ h hak' hav' (by simp[hln]) (by simp;omega) (by omega)
      exact ⟨a,b,c,d,by omega,e2⟩
     ·rw[if_neg h2] at h;cases h
theorem listP_ok {l:List UInt8} {V:Nat→Option (JO×Nat)} (hV:GoodV l V) {i to_:Nat} {b:Bool} {o:JO} (hi:i<l.length) (h:listP l V i b=some (o,to_)):jgood l.length o∧i<to_∧to_≤l.length:=by
 unfold listP at h
 have s1:=spAt_ge l (i+1)
 have s2:=spAt_le (s:=l) (k:=i+1) (by omega)
 cases b with
 |true=>
  rw[if_pos rfl] at h
  by_cases h1:hasAt l (spAt l (i+1)) [125]=true
  ·rw[if_pos h1] at h
   simp only[Option.some.injEq,Prod.mk.injEq] at h
   obtain ⟨rfl,rfl⟩:=h
   have:=has_lt h1 (by simp)
   simp only[List.length_cons,List.length_nil] at this
   exact ⟨by simp[jgood,hi],by omega,by omega⟩
  ·rw[if_neg h1] at h
   cases hm:memsGo l V (l.length+1) (spAt l (i+1)) [] [] with
   |none=>rw[hm] at h;cases h
   |some p=>
    obtain ⟨⟨ks,vs⟩,t⟩:=p
    rw[hm] at h
    simp only[Option.some.injEq,Prod.mk.injEq] at h
    obtain ⟨rfl,rfl⟩:=h
    obtain ⟨a,b,c,d,e,e2⟩:=memsGo_ok hV _ _ _ _ _ _ _ hm (by simp) (by simp) rfl (Nat.zero_le _) s2
    exact ⟨by rw[jgood];exact ⟨hi,c,by omega,a,b⟩,by omega,e2⟩
 |false=>
  rw[if_neg (by decide)] at h
  by_cases h1:hasAt l (spAt l (i+1)) [93]=true
  ·rw[if_pos h1] at h
   simp only[Option.some.injEq,Prod.mk.injEq] at h
   obtain ⟨rfl,rfl⟩:=h
   have:=has_lt h1 (by simp)
   simp only[List.length_cons,List.length_nil] at this
   exact ⟨by simp[jgood,hi],by omega,by omega⟩
  ·rw[if_neg h1] at h
   cases hm:itemsGo l V (l.length+1) (spAt l (i+1)) [] with
   |none=>rw[hm] at h;cases h
   |some p=>
    obtain ⟨vs,t⟩:=p
    rw[hm] at h
    simp only[Option.some.injEq,Prod.mk.injEq] at h
    obtain ⟨rfl,rfl⟩:=h
    obtain ⟨a,b,c,d⟩:=itemsGo_ok hV _ _ _ _ _ hm (by simp) (Nat.zero_le _) s2
    exact ⟨by rw[jgood];exact ⟨hi,by omega,a⟩,by omega,d⟩
theorem valG_ok {l:List UInt8} {L:Nat→Bool→Option (JO×Nat)} {i to_:Nat} {o:JO} (hL:∀b o to_,i<l.length→L i b=some (o,to_)→jgood l.length o∧i<to_∧to_≤l.length) (h:valG l L i=some (o,to_)):jgood l.length o∧i<to_∧to_≤l.length:=by
 unfold valG at h
 cases hc:l[i]? with
 |none=>rw[hc] at h;cases h
 |some c=>
  rw[hc] at h
  simp only at h
  have hi:=(List.getElem?_eq_some_iff.1 hc).1
  by_cases h1:c=110
  ·rw[if_pos h1] at h
   split at h
   ·rename_i h2
    have:=has_lt h2 (by simp)
    simp only[Option.some.injEq,Prod.mk.injEq,List.length_cons,List.length_nil] at h this
    obtain ⟨rfl,rfl⟩:=h
    exact ⟨by simpa [jgood] using hi,by omega,by omega⟩
   ·cases h
  rw[if_neg h1] at h
  by_cases h1:c=116
  ·rw[if_pos h1] at h
   split at h
   ·rename_i h2
    have:=has_lt h2 (by simp)
    simp only[Option.some.injEq,Prod.mk.injEq,List.length_cons,List.length_nil] at h this
    obtain ⟨rfl,rfl⟩:=h
    exact ⟨by simpa [jgood] using hi,by omega,by omega⟩
   ·cases h
  rw[if_neg h1] at h
  by_cases h1:c=102
  ·rw[if_pos h1] at h
   split at h
   ·rename_i h2
    have:=has_lt h2 (by simp)
    simp only[Option.some.injEq,Prod.mk.injEq,List.length_cons,List.length_nil] at h this
    obtain ⟨rfl,rfl⟩:=h
    exact ⟨by simpa [jgood] using hi,by omega,by omega⟩
   ·cases h
  rw[if_neg h1] at h
  by_cases h1:c=34
  ·rw[if_pos h1] at h
   cases hs:strP l i with
   |none=>rw[hs] at h;cases h
   |some p=>
    obtain ⟨t,to2⟩:=p
    rw[hs] at h
    simp only[Option.some.injEq,Prod.mk.injEq] at h
    obtain ⟨rfl,rfl⟩:=h
    obtain ⟨a,b,c,d⟩:=strP_ok hs
    exact ⟨by rw[jgood];exact ⟨hi,by simpa [str,ByteArray.size] using b,by simpa [str] using a⟩,c,d⟩
  rw[if_neg h1] at h
  by_cases h1:c=91
  ·rw[if_pos h1] at h;exact hL _ _ _ hi h
  rw[if_neg h1] at h
  by_cases h1:c=123
  ·rw[if_pos h1] at h;exact hL _ _ _ hi h
  rw[if_neg h1] at h
  by_cases h1:c=45∨isDg c=true
  ·rw[if_pos h1] at h
   cases hs:numV ((l.drop i).takeWhile numeric) with
   |none=>rw[hs] at h;cases h
   |some n=>
    rw[hs] at h
    simp only[Option.some.injEq,Prod.mk.injEq] at h
    obtain ⟨rfl,rfl⟩:=h
    have hn:numeric c=true:=by
     unfold numeric
     rcases h1 with rfl|h1
     ·rfl
     ·rw[h1];rfl
    have hlen:=(List.takeWhile_sublist numeric (l:=l.drop i)).length_le
    rw[List.length_drop] at hlen
    have hpos:0<((l.drop i).takeWhile numeric).length:=by
     rw[List.drop_eq_getElem_cons hi,List.takeWhile_cons]
     have:l[i]=c:=by have:=List.getElem?_eq_getElem hi;rw[hc] at this;injection this with this;exact this.symm
     rw[this,if_pos hn];simp
    unfold numAt
    exact ⟨by rw[jgood];exact ⟨hi,numV_ok hs⟩,by omega,by omega⟩
  rw[if_neg h1] at h;cases h
theorem valP_ok (l:List UInt8):∀(f i:Nat) (o:JO) (to_:Nat),valP l f i=some (o,to_)→jgood l.length o∧i<to_∧to_≤l.length:=by
 intro f
 induction f with
 |zero=>
  intro i o to_ h
  have:=valG_ok (L:=fun _ _=>none) (by intro _ _ _ _ h;cases h) h
  have s:=spAt_ge l i
  exact ⟨this.1,by omega,this.2.2⟩
 |succ f ih=>
  intro i o to_ h
  have:=valG_ok (L:=fun a o=>listP l (valP l f) a o) (fun b o to_ hi hh=>listP_ok (fun i o t h=>ih i o t h) hi hh) h
  have s:=spAt_ge l i
  exact ⟨this.1,by omega,this.2.2⟩
theorem jsonP_ok {l:List UInt8} {o:JO} (h:jsonP l=some o):jgood l.length o:=by
 unfold jsonP at h
 cases hv:valP l 100 (if hasAt l 0 [239,187,191] then 3 else 0) with
 |none=>rw[hv] at h;cases h
 |some p=>
  obtain ⟨v,t⟩:=p
  rw[hv] at h
  simp only at h
  by_cases h1:spAt l t<l.length
  ·rw[if_pos h1] at h;cases h
  ·rw[if_neg h1] at h
   injection h with h
   subst h
   exact (valP_ok l 100 _ _ _ hv).1
end Go.Proofs.YthlnaldahkgjnaaGreatDoor
