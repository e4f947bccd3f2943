/- Parts of the proof: contracts and plain laws. -/
import Derived.Test.YthlnaldahkgjnaaGreatDoorProg
import Derived.Test.YthlnaldahkgjnaaGreatDoorZ01
namespace Go.Proofs.YthlnaldahkgjnaaGreatDoor
open Go Go.RowKit Go.Shelf _root_.Go.Proofs.Tryz
set_option linter.unusedVariables false
set_option linter.unusedSimpArgs false
set_option maxRecDepth 100000
set_option maxHeartbeats 16000000
section
structure Ord (α κ:Type) where
 id:α->κ
 op:α->α->α
 lt:α->α->Bool
 op_id:∀a b,id a=id b->id (op a b)=id b
 irrefl:∀a,lt a a=false
 trans:∀a b c,lt a b=true->lt b c=true->lt a c=true
 total:∀a b,id a≠id b->lt a b=true\/lt b a=true
namespace Ord
section
variable {α κ:Type} (O:Ord α κ)
def ins:List α->α->List α
 | [],e=> [e]
 |x::t,e=>if O.lt e x then e::x::t else x::ins t e
def sorted (S:List α):Prop:=S.Pairwise λa b=>O.lt a b=true
theorem sorted_unique:∀(S T:List α),O.sorted S->O.sorted T->(∀x,x∈S↔x∈T)->S=T
 | [],T,_,_,h=>by
  cases T with
  |nil=>rfl
  |cons b u=>exact absurd ((h b).2 (by simp)) (by simp)
 |a::t,[],_,_,h=>absurd ((h a).1 (by simp)) (by simp)
 |a::t,b::u,hS,hT,h=>by
  have j:=Jb.1 hS
  have A:=Jb.1 hT
  have G:a=b:=by
   have C:=(h a).1 (by simp)
   have D:=(h b).2 (by simp)
   rcases ZG.1 C with C|C
   ·exact C
   ·rcases ZG.1 D with D|D
    ·exact D.symm
    ·have:=O.trans a b a (j.1 b D) (A.1 a C)
     rw[O.irrefl] at this
     cases this
  subst G
  refine Zo (a:: ·) (sorted_unique t u j.2 A.2 λx=>⟨λF=> ?_,λF=> ?_⟩)
  ·rcases ZG.1 ((h x).1 (by simp[F])) with e|e
   ·subst e;have:=j.1 x F;rw[O.irrefl] at this;cases this
   ·exact e
  ·rcases ZG.1 ((h x).2 (by simp[F])) with e|e
   ·subst e;have:=A.1 x F;rw[O.irrefl] at this;cases this
   ·exact e
theorem foldl_id:∀(t:List α) (x:α),(∀y∈t,O.id y=O.id x)->O.id (t.foldl O.op x)=O.id x
 | [],_,_=>rfl
 |y::t,x,h=>by
  have j:=h y (by simp)
  have e:O.id (O.op x y)=O.id x:=by rw[O.op_id x y j.symm,j]
  show O.id (t.foldl O.op (O.op x y))=_
  rw[foldl_id t (O.op x y) (λz A=>by rw[e];exact h z (by simp[A])),e]
theorem mem_ins:∀(l:List α) (e x:α),x∈O.ins l e↔x=e\/x∈l
 | [],e,x=>by simp[ins]
 |y::t,e,x=>by
  unfold ins
  split
  ·simp
  ·simp only[ZG,mem_ins t e x]
   constructor
   ·rintro (h|h|h)<;>simp[h]
   ·rintro (h|h|h)<;>simp[h]
theorem ins_sorted:∀(l:List α) (e:α),O.sorted l->(∀x∈l,O.id x≠O.id e)->O.sorted (O.ins l e)
 | [],e,_,_=>by simp[ins,sorted]
 |y::t,e,hs,h=>by
  have C:=Jb.1 hs
  unfold ins
  split
  ·rename_i A
   refine Jb.2 ⟨λx D=> ?_,hs⟩
   rcases ZG.1 D with j|j
   ·rw[j];exact A
   ·exact O.trans _ _ _ A (C.1 x j)
  ·rename_i A
   have G:O.lt y e=true:=by
    rcases O.total e y (λj=>h y (by simp) j.symm) with F|F
    ·exact absurd F A
    ·exact F
   refine Jb.2 ⟨λx D=> ?_,ins_sorted t e C.2 λx D=>h x (by simp[D])⟩
   rcases (O.mem_ins t e x).1 D with j|j
   ·rw[j];exact G
   ·exact C.1 x j
end
variable {α κ:Type} [DecidableEq κ] (O:Ord α κ)
def scan:List α->α->List α×α
 | [],e=>([],e)
 |x::t,e=>if O.id x=O.id e then scan t (O.op x e) else (x::(scan t e).1,(scan t e).2)
def put (l:List α) (e:α):List α:=O.ins (O.scan l e).1 (O.scan l e).2
def canon (l:List α):List α:=l.foldl O.put []
def fold1:List α->Option α
 | []=>none
 |x::t=>some (t.foldl O.op x)
def got (l:List α) (k:κ):Option α:=O.fold1 (l.filter λx=>O.id x=k)
def firsts (l:List α):List κ:=l.foldl (λacc x=>if O.id x∈acc then acc else acc++ [O.id x]) []
theorem got_id {l:List α} {k:κ} {x:α} (h:O.got l k=some x):O.id x=k:=by
 unfold got at h;generalize C:(l.filter λx=>O.id x=k)=g at h;cases g with
 |nil=>cases h
 |cons y t=>
  have j:∀z∈y::t,O.id z=k:=by intro z A;rw[<-C] at A;simpa using (Jp.1 A).2
  simp only[fold1,ZQ] at h;rw[<-h,O.foldl_id t y (λz A=>by rw[j z (by simp[A]),j y (by simp)]),j y (by simp)]
theorem got_nil (k:κ):O.got [] k=none:=rfl
theorem got_snoc (l:List α) (e:α) (k:κ):O.got (l++ [e]) k=if O.id e=k then (match O.got l k with|none=>some e|some y=>some (O.op y e)) else O.got l k:=by
 unfold got;rw[List.filter_append];by_cases h:O.id e=k
 ·rw[Zi h];have: [e].filter (λx=>decide (O.id x=k))= [e]:=by simp[h]
  rw[this];cases l.filter λx=>O.id x=k with
  |nil=>rfl
  |cons y t=>simp[fold1,List.foldl_append]
 ·rw[Zf h];have: [e].filter (λx=>decide (O.id x=k))= []:=by simp[h]
  rw[this,Zhj]
theorem scan_fst:∀(l:List α) (e:α),(O.scan l e).1=l.filter λx=> !decide (O.id x=O.id e)
 | [],_=>rfl
 |x::t,e=>by
  unfold scan
  by_cases h:O.id x=O.id e
  ·rw[Zi h,scan_fst t (O.op x e),O.op_id x e h]
   simp[h]
  ·rw[Zf h]
   simp[h,scan_fst t e]
theorem scan_none:∀(l:List α) (e:α),(∀x∈l,O.id x≠O.id e)->(O.scan l e).2=e
 | [],_,_=>rfl
 |x::t,e,h=>by
  unfold scan
  rw[Zf (h x (by simp))]
  exact scan_none t e λy j=>h y (by simp[j])
theorem scan_one:∀(l:List α) (e y:α),y∈l->O.id y=O.id e->l.Pairwise (λa b=>O.id a≠O.id b)->(O.scan l e).2=O.op y e
 | [],_,_,h,_,_=>by simp at h
 |x::t,e,y,hy,hid,hp=>by
  have A:=Jb.1 hp
  unfold scan
  by_cases h:O.id x=O.id e
  ·have C:x=y:=by
    rcases ZG.1 hy with j|j
    ·exact j.symm
    ·exact absurd (h.trans hid.symm) (A.1 y j)
   subst C
   rw[Zi h]
   exact O.scan_none t _ λz F=>by rw[O.op_id x e h,<-h];exact (A.1 z F).symm
  ·rw[Zf h]
   have D:y∈t:=by
    rcases ZG.1 hy with j|j
    ·subst j;exact absurd hid h
    ·exact j
   exact scan_one t e y D hid A.2
def IsCanon (l S:List α):Prop:=O.sorted S/\∀x,x∈S↔O.got l (O.id x)=some x
theorem IsCanon.unique {l S T:List α} (h:O.IsCanon l S) (k:O.IsCanon l T):S=T:=
 O.sorted_unique S T h.1 k.1 λx=>(h.2 x).trans (k.2 x).symm
theorem IsCanon.ids {l S:List α} (h:O.IsCanon l S):S.Pairwise λa b=>O.id a≠O.id b:=by
 refine h.1.imp_of_mem λ{a b} D F j e=> ?_;have A:=(h.2 a).1 D;have C:=(h.2 b).1 F;rw[e,C] at A;injection A with A;rw[A,O.irrefl] at j;cases j
theorem IsCanon.put {l S:List α} (h:O.IsCanon l S) (e:α):O.IsCanon (l++ [e]) (O.put S e):=by
 have D:=h.ids;have j:O.id (O.scan S e).2=O.id e/\O.got (l++ [e]) (O.id e)=some (O.scan S e).2:=by
  rw[got_snoc,Zi rfl];cases hg:O.got l (O.id e) with
  |none=>have:(O.scan S e).2=e:=O.scan_none S e λx C H=>(by have:=(h.2 x).1 C;rw[H,hg] at this;cases this);rw[this];exact ⟨rfl,rfl⟩
  |some y=>have I:O.id y=O.id e:=O.got_id hg;have J:y∈S:=(h.2 y).2 (by rw[I];exact hg);rw[O.scan_one S e y J I D];exact ⟨O.op_id y e I,rfl⟩
 have G:∀x∈(O.scan S e).1,O.id x≠O.id (O.scan S e).2:=by intro x C;rw[scan_fst] at C;rw[j.1];simpa using (Jp.1 C).2
 refine ⟨O.ins_sorted _ _ ?_ G,λx=> ?_⟩
 ·rw[scan_fst];exact h.1.filter _
 ·unfold Ord.put;rw[mem_ins,scan_fst,Jp,h.2 x];by_cases C:O.id x=O.id e
  ·constructor
   ·rintro (rfl|⟨_,A⟩)
    ·rw[j.1];exact j.2
    ·simp[C] at A
   ·intro A;rw[C,j.2] at A;injection A with A;exact Or.inl A.symm
  ·have F:O.got (l++ [e]) (O.id x)=O.got l (O.id x):=(by rw[got_snoc,Zf (λF=>C F.symm)]);rw[F];constructor
   ·rintro (rfl|⟨A,_⟩)
    ·exact absurd j.1 C
    ·exact A
   ·intro A;exact Or.inr ⟨A,by simp[C]⟩
theorem IsCanon.foldl:∀(t l S:List α),O.IsCanon l S->O.IsCanon (l++t) (t.foldl O.put S)
 | [],l,S,h=>by simpa using h
 |e::t,l,S,h=>by
  have:=foldl t (l++ [e]) (O.put S e) (h.put O e)
  simpa using this
theorem isCanon_nil:O.IsCanon [] []:=⟨List.Pairwise.nil,λx=>by simp[got_nil]⟩
theorem canon_is (l:List α):O.IsCanon l (O.canon l):=by
 have h:=IsCanon.foldl O l [] [] O.isCanon_nil;rw[YF] at h;exact h
theorem canon_append (l t:List α):O.canon (l++t)=t.foldl O.put (O.canon l):=by unfold canon;rw[List.foldl_append]
theorem firsts_snoc (l:List α) (e:α):O.firsts (l++ [e])=if O.id e∈O.firsts l then O.firsts l else O.firsts l++ [O.id e]:=by
 unfold firsts;rw[List.foldl_append];rfl
theorem mem_firsts (l:List α) (k:κ):k∈O.firsts l↔∃x∈l,O.id x=k:=by
 suffices h:∀(n:Nat) (l:List α),l.length=n->∀k,k∈O.firsts l↔∃x∈l,O.id x=k from h _ l rfl k
 intro n
 induction n with
 |zero=>intro l F k;rw[ZI F];simp[firsts]
 |succ n ih=>
  intro l F k;obtain ⟨D,e,rfl⟩:∃D e,l=D++ [e]:=by
   rcases List.eq_nil_or_concat l with h|⟨D,e,h⟩
   ·subst h;simp at F
   ·exact ⟨D,e,by simpa using h⟩
  have C:=ih D (by simpa using F);rw[firsts_snoc];by_cases h:O.id e∈O.firsts D
  ·rw[Zi h,C k];constructor
   ·rintro ⟨x,j,A⟩;exact ⟨x,by simp[j],A⟩
   ·rintro ⟨x,j,A⟩;rcases ZZ.1 j with j|j
    ·exact ⟨x,j,A⟩
    ·simp at j;subst j;obtain ⟨y,H,G⟩:=(C (O.id x)).1 h;exact ⟨y,H,G.trans A⟩
  ·rw[Zf h,ZZ,C k];constructor
   ·rintro (⟨x,j,A⟩|j)
    ·exact ⟨x,by simp[j],A⟩
    ·simp at j;exact ⟨e,by simp,j.symm⟩
   ·rintro ⟨x,j,A⟩;rcases ZZ.1 j with j|j
    ·exact Or.inl ⟨x,j,A⟩
    ·simp at j;subst j;exact Or.inr (by simp[A])
theorem firsts_nodup (l:List α):(O.firsts l).Pairwise (· ≠ ·):=by
 suffices h:∀(n:Nat) (l:List α),l.length=n->(O.firsts l).Pairwise (· ≠ ·) from h _ l rfl
 intro n
 induction n with
 |zero=>intro l C;rw[ZI C];exact List.Pairwise.nil
 |succ n ih=>
  intro l C;obtain ⟨A,e,rfl⟩:∃A e,l=A++ [e]:=by
   rcases List.eq_nil_or_concat l with h|⟨A,e,h⟩
   ·subst h;simp at C
   ·exact ⟨A,e,by simpa using h⟩
  have j:=ih A (by simpa using C);rw[firsts_snoc];split
  ·exact j
  ·rename_i h;rw[List.pairwise_append];exact ⟨j,by simp,λa F b D=>by simp at D;subst D;rintro rfl;exact h F⟩
def joined (l:List α):List α:=(O.firsts l).filterMap (O.got l)
theorem mem_joined (l:List α) (x:α):x∈O.joined l↔O.got l (O.id x)=some x:=by
 unfold joined;rw[List.mem_filterMap];constructor
 ·rintro ⟨k,_,h⟩;rw[O.got_id h];exact h
 ·intro h;refine ⟨O.id x,(O.mem_firsts l _).2 ?_,h⟩;unfold got at h;generalize j:(l.filter λy=>O.id y=O.id x)=g at h;cases g with
  |nil=>cases h
  |cons y t=>have:y∈l.filter λz=>decide (O.id z=O.id x):=(by rw[j];simp);have:=Jp.1 this;exact ⟨y,this.1,by simpa using this.2⟩
theorem joined_ids (l:List α):(O.joined l).Pairwise λa b=>O.id a≠O.id b:=by
 unfold joined;rw[List.pairwise_filterMap];refine (O.firsts_nodup l).imp λ{a b} h x j y A=> ?_;rw[O.got_id j,O.got_id A];exact h
theorem sorted_joined (l S:List α) (C:S.Perm (O.joined l)) (D:S.Pairwise λa b=>O.lt b a=false):S=O.canon l:=by
 refine IsCanon.unique O ⟨?_,λx=>by rw[C.mem_iff];exact O.mem_joined l x⟩ (O.canon_is l);have j:S.Pairwise λa b=>O.id a≠O.id b:=(O.joined_ids l).perm C.symm λh=>h.symm;refine (D.and j).imp λ{a b} h=> ?_;rcases O.total a b h.2 with A|A
 ·exact A
 ·rw[h.1] at A;cases A
end Ord
end
section
namespace Ord
section
variable {α κ:Type} (O:Ord α κ)
structure Semi (G:α->Prop):Prop where
 good:∀a b,O.id a=O.id b->G a->G b->G (O.op a b)
 comm:∀a b,O.id a=O.id b->G a->G b->O.op a b=O.op b a
 assoc:∀a b c,O.id a=O.id b->O.id b=O.id c->G a->G b->G c->O.op (O.op a b) c=O.op a (O.op b c)
 idem:∀a,G a->O.op a a=a
variable {O}
variable {G:α→Prop}
theorem Semi.le_trans (S:O.Semi G) {a b c:α} (h:O.id a=O.id b) (k:O.id b=O.id c) (C:G a) (D:G b) (F:G c) (j:O.op a b=b) (A:O.op b c=c):O.op a c=c:=by
 rw[<-A,<-S.assoc a b c h k C D F,j]
end
variable {α κ:Type} [DecidableEq κ] {O:Ord α κ} {G:α→Prop}
theorem got_none_iff (l:List α) (k:κ):O.got l k=none↔∀x∈l,O.id x≠k:=by
 unfold Ord.got;generalize j:(l.filter λx=>O.id x=k)=g;cases g with
 |nil=>simp only[fold1,true_iff];intro x A e;have:x∈l.filter λx=>decide (O.id x=k):=Jp.2 ⟨A,by simpa using e⟩;rw[j] at this;cases this
 |cons y t=>
  simp only[fold1];constructor
  ·intro h;cases h
  ·intro h;have:=Jp.1 (show y∈l.filter λx=>decide (O.id x=k) by rw[j];simp);exact absurd (by simpa using this.2) (h y this.1)
theorem got_isSome_iff (l:List α) (k:κ):(∃s,O.got l k=some s)↔∃x∈l,O.id x=k:=by
 rw[<-Option.isSome_iff_exists,<-Option.ne_none_iff_isSome,Ne,got_none_iff];simp
end Ord
end
section
theorem XD (l:List UInt8):(quoteL l).length<=6*l.length+2:=by
 have:(l.flatMap qB).length<=6*l.length:=by
  induction l with
  |nil=>simp
  |cons b l ih=>rw[XU,Zj,Zr];have:=Zft b;omega
 unfold quoteL;rw[Zr,Zj];simp only[Zr,ZF];omega
structure Ent where
 id:ByteArray
 title:ByteArray
 link:ByteArray
 content:ByteArray
 upd:Int
 deriving DecidableEq
structure Fd where
 path:List ByteArray
 id:ByteArray
 title:ByteArray
 link:ByteArray
 upd:Int
 ents:List Ent
 deriving DecidableEq
def eCells (e:Ent):List Value:= [.string e.id,.string e.title,.string e.link,.string e.content,.int .i64 e.upd]
def entJ (e:Ent):JV:= .arr [.str e.id,.str e.title,.str e.link,.str e.content,.int e.upd]
def entryKey (e:Ent):ByteArray:=(jwrite (entJ e)).1
def sCmp (x y:ByteArray):Int:=if Op.bytesLess x.toList y.toList then -1 else if x.toList=y.toList then 0 else 1
def iCmp (x y:Int):Int:=if x<y then -1 else if y<x then 1 else 0
def pathCmp:List ByteArray->List ByteArray->Int
 | [],[]=>0
 | [],_::_=> -1
 |_::_,[]=>1
 |a::x,b::y=>if sCmp a b=0 then pathCmp x y else sCmp a b
def entCmp (a b:Ent):Int:=if iCmp b.upd a.upd=0 then sCmp a.id b.id else iCmp b.upd a.upd
theorem Jr:∀x:List UInt8,Op.bytesLess x x=false
 | []=>rfl
 |a::x=>by simp[Op.bytesLess,Jr x]
theorem ZcD (a b:UInt8) (x y:List UInt8):Op.bytesLess (a::x) (b::y)=true↔a<b\/(a=b/\Op.bytesLess x y=true):=by simp[Op.bytesLess]
theorem QB:∀x y z:List UInt8,Op.bytesLess x y=true->Op.bytesLess y z=true->Op.bytesLess x z=true
 | [],y,[],_,h=>by cases y<;>simp[Op.bytesLess] at h
 | [],_,_::_,_,_=>rfl
 |_::_,[],_,h,_=>by simp[Op.bytesLess] at h
 |_::_,_::_,[],_,h=>by simp[Op.bytesLess] at h
 |a::x,b::y,c::z,h,k=>by
  rw[ZcD] at h k|-
  rcases h with h|⟨rfl,h⟩<;>rcases k with k|⟨rfl,k⟩
  ·exact Or.inl (UInt8.lt_trans h k)
  ·exact Or.inl h
  ·exact Or.inl k
  ·exact Or.inr ⟨rfl,QB x y z h k⟩
theorem Ki:∀x y:List UInt8,Op.bytesLess x y=false->Op.bytesLess y x=false->x=y
 | [],[],_,_=>rfl
 | [],_::_,h,_=>by simp[Op.bytesLess] at h
 |_::_,[],_,h=>by simp[Op.bytesLess] at h
 |a::x,b::y,h,k=>by
  rw[Jq,Ne,ZcD] at h k
  have j:a=b:=by
   rcases Classical.em (a=b) with e|e
   ·exact e
   ·rcases UInt8.lt_or_lt_of_ne e with e|e
    ·exact absurd (Or.inl e) h
    ·exact absurd (Or.inl e) k
  subst j
  refine Zo (a:: ·) (Ki x y ?_ ?_)
  ·rw[Jq];exact λe=>h (Or.inr ⟨rfl,e⟩)
  ·rw[Jq];exact λe=>k (Or.inr ⟨rfl,e⟩)
structure IsCmp {α:Type} (c:α->α->Int):Prop where
 anti:∀a b,c b a= - c a b
 trans:∀a b d,c a b<=0->c b d<=0->c a d<=0
namespace IsCmp
variable {α:Type} {c:α→α→Int} (h:IsCmp c)
include h
theorem self (a:α):c a a=0:=by have:=h.anti a a;omega
theorem lt_trans (a b d:α) (j:c a b<0) (A:c b d<0):c a d<0:=by
 have C:=h.trans a b d (by omega) (by omega);rcases Classical.em (c a d=0) with e|e
 ·have D:=h.trans d a b (by have:=h.anti a d;omega) (by omega);have:=h.anti b d;omega
 ·omega
theorem zero_left (a b d:α) (A:c a b=0):c a d<=0↔c b d<=0:=
 ⟨λj=>h.trans b a d (by have:=h.anti a b;omega) j,λj=>h.trans a b d (by omega) j⟩
theorem zero_right (a b d:α) (A:c b d=0):c a b<=0↔c a d<=0:=
 ⟨λj=>h.trans a b d j (by omega),λj=>h.trans a d b j (by have:=h.anti b d;omega)⟩
end IsCmp
theorem IsCmp.lex {α:Type} {c d:α->α->Int} (j:IsCmp c) (D:IsCmp d):IsCmp λa b=>if c a b=0 then d a b else c a b where
 anti a b:=by
  have C:=j.anti a b;have A:=D.anti a b;by_cases h:c a b=0
  ·simp only[h,Eq,show c b a=0 by omega];exact A
  ·simp only[Zf h,Zf (show ¬c b a=0 by omega)];exact C
 trans a b e C A:=by
  by_cases h:c a b=0
  ·rw[Zi h] at C;have F:=j.zero_left a b e h;have G:=j.zero_left b a e (by have:=j.anti a b;omega);by_cases k:c b e=0
   ·rw[Zi k] at A;have:c a e=0:=(by have e1:=F.2 (by omega);have:=j.trans e b a (by have:=j.anti b e;omega) (by have:=j.anti a b;omega);have:=j.anti a e;omega);rw[Zi this];exact D.trans a b e C A
   ·rw[Zf k] at A;by_cases g:c a e=0
    ·have:=(j.zero_right b a e g);have e1:=j.trans e a b (by have:=j.anti a e;omega) (by omega);have:=j.anti b e;omega
    ·rw[Zf g];exact F.2 A
  ·rw[Zf h] at C;by_cases k:c b e=0
   ·rw[Zi k] at A;by_cases g:c a e=0
    ·have e1:=j.trans b e a (by omega) (by have:=j.anti a e;omega);have:=j.anti a b;omega
    ·rw[Zf g];exact (j.zero_right a b e k).1 C
   ·rw[Zf k] at A;have:=j.lt_trans a b e (by omega) (by omega);rw[Zf (by omega)];omega
theorem Zf1:IsCmp iCmp where
 anti a b:=by unfold iCmp;split<;>split<;>(try split)<;>omega
 trans a b d h1 h2:=by
  unfold iCmp at*
  repeat' split at h1
  all_goals (repeat' split at h2)
  all_goals (repeat' split)
  all_goals omega
theorem Zfy (a b:ByteArray):sCmp a b<0↔Op.bytesLess a.toList b.toList=true:=by
 unfold sCmp;split
 ·rename_i h;simp[h]
 ·rename_i h;split<;>simp_all
theorem XO (a b:ByteArray):sCmp a b=0↔a.toList=b.toList:=by
 unfold sCmp;split
 ·rename_i h;constructor
  ·intro j;cases j
  ·intro j;rw[j,Jr] at h;cases h
 ·split<;>simp_all
theorem VO:IsCmp sCmp where
 anti a b:=by
  unfold sCmp;by_cases h:Op.bytesLess a.toList b.toList=true
  ·have D:¬Op.bytesLess b.toList a.toList=true:=λk=>(by have:=QB _ _ _ h k;rw[Jr] at this;cases this);have j:¬b.toList=a.toList:=λe=>(by rw[e,Jr] at h;cases h);rw[Zi h,Zf D,Zf j];rfl
  ·by_cases k:Op.bytesLess b.toList a.toList=true
   ·have j:¬a.toList=b.toList:=λe=>(by rw[e,Jr] at k;cases k);rw[Zi k,Zf h,Zf j]
   ·have e:=Ki a.toList b.toList (by simpa using h) (by simpa using k);rw[Zf h,Zf k,Zi e,Zi e.symm];rfl
 trans a b d A C:=by
  have key:∀x y:ByteArray,sCmp x y<=0↔Op.bytesLess x.toList y.toList=true\/x.toList=y.toList:=by intro x y;rw[<-Zfy,<-XO];omega
  rw[key] at*;rcases A with A|A
  ·rcases C with C|C
   ·exact Or.inl (QB _ _ _ A C)
   ·rw[<-C];exact Or.inl A
  ·rw[A];exact C
theorem IsCmp.comap {α β:Type} {c:β->β->Int} (h:IsCmp c) (f:α->β):IsCmp λa b=>c (f a) (f b):=⟨λa b=>h.anti _ _,λa b d=>h.trans _ _ _⟩
theorem IsCmp.swap {α:Type} {c:α->α->Int} (h:IsCmp c):IsCmp λa b=>c b a:=⟨λa b=>h.anti _ _,λa b d j A=>h.trans _ _ _ A j⟩
theorem Q7:∀a b,pathCmp b a= - pathCmp a b
 | [],[]=>rfl
 | [],_::_=>rfl
 |_::_,[]=>rfl
 |a::x,b::y=>by
  have j:=VO.anti a b
  unfold pathCmp
  by_cases h:sCmp a b=0
  ·rw[Zi h,Zi (by omega)];exact Q7 x y
  ·rw[Zf h,Zf (by omega)];exact j
theorem VZ:∀a b d,pathCmp a b<=0->pathCmp b d<=0->pathCmp a d<=0
 | [],_,[],_,_=>by simp[pathCmp]
 | [],_,_::_,_,_=>by simp[pathCmp]
 |_::_,[],_,h,_=>by simp[pathCmp] at h
 |_::_,_::_,[],_,h=>by simp[pathCmp] at h
 |a::x,b::y,d::z,h,k=>by
  unfold pathCmp at h k|-
  by_cases e1:sCmp a b=0
  ·rw[Zi e1] at h
   have j:a.toList=b.toList:=(XO a b).1 e1
   by_cases e2:sCmp b d=0
   ·rw[Zi e2] at k
    have eb:b.toList=d.toList:=(XO b d).1 e2
    rw[Zi ((XO a d).2 (j.trans eb))]
    exact VZ x y z h k
   ·rw[Zf e2] at k
    have e3:sCmp a d≠0:=λe=>e2 ((XO b d).2 (j.symm.trans ((XO a d).1 e)))
    rw[Zf e3]
    exact (VO.zero_left a b d e1).2 k
  ·rw[Zf e1] at h
   by_cases e2:sCmp b d=0
   ·rw[Zi e2] at k
    have eb:b.toList=d.toList:=(XO b d).1 e2
    have e3:sCmp a d≠0:=λe=>e1 ((XO a b).2 (((XO a d).1 e).trans eb.symm))
    rw[Zf e3]
    exact (VO.zero_right a b d e2).1 h
   ·rw[Zf e2] at k
    have:=VO.lt_trans a b d (by omega) (by omega)
    rw[Zf (by omega)];omega
theorem Zci:IsCmp pathCmp:=⟨Q7,VZ⟩
theorem toList_inj {a b:ByteArray} (h:a.toList=b.toList):a=b:=by
 rw[Yx,Yx] at h;cases a;cases b
 congr
 exact Array.toList_inj.1 h
theorem Zam {a b:ByteArray} (h:sCmp a b=0):a=b:=toList_inj ((XO a b).1 h)
theorem K5:∀{a b:List ByteArray},pathCmp a b=0->a=b
 | [],[],_=>rfl
 | [],_::_,h=>by simp[pathCmp] at h
 |_::_,[],h=>by simp[pathCmp] at h
 |a::x,b::y,h=>by
  unfold pathCmp at h
  by_cases e:sCmp a b=0
  ·rw[Zi e] at h;rw[Zam e,K5 h]
  ·rw[Zf e] at h;exact absurd h e
theorem VG:IsCmp entCmp:=IsCmp.lex (α:=Ent) (c:=λa b=>iCmp b.upd a.upd) (d:=λa b=>sCmp a.id b.id) ((Zf1.comap λe:Ent=>e.upd).swap) (VO.comap λe:Ent=>e.id)
theorem Zc6 {a b:Ent} (h:entCmp a b=0):a.id=b.id:=by
 unfold entCmp at h;split at h
 ·exact Zam h
 ·rename_i j;exact absurd h j
def laterB (c:Int) (ka kb:ByteArray):Bool:=decide (c<0)||(decide (c=0) && Op.bytesLess ka.toList kb.toList)
def laterE (a b:Ent):Ent:=if laterB (iCmp a.upd b.upd) (entryKey a) (entryKey b) then b else a
def ltE (a b:Ent):Bool:=decide (entCmp a b<0)
theorem Zdt (a b:Ent) (h:a.id=b.id):(laterE a b).id=b.id:=by unfold laterE;split<;>simp[h]
def ordE:Ord Ent ByteArray where
 id:=Ent.id
 op:=laterE
 lt:=ltE
 op_id:=Zdt
 irrefl a:=by simp[ltE,VG.self]
 trans a b c h1 h2:=by simp only[ltE,Z6] at*;exact VG.lt_trans a b c h1 h2
 total a b h:=by
  simp only[ltE,Z6]
  have h1:=VG.anti a b
  have h2:entCmp a b≠0:=λe=>h (Zc6 e)
  omega
end
def vld (s:ByteArray):Bool:=Lib.validD s.data.toList
def goodE (e:Ent):Prop:=vld e.id=true/\vld e.title=true/\vld e.link=true/\vld e.content=true
theorem Zay {a b:ByteArray} (h:a.data.toList=b.data.toList):a=b:=by
 rw[<-GB a,<-GB b,h]
theorem IE {e:Ent} (h:goodE e):entryKey e=str (jtext (entJ e)):=by
 obtain ⟨j,A,C,D⟩:=h;unfold vld at j A C D;unfold entryKey jwrite;rw[Zi];unfold entJ;rw[Uw];simp[jvalid,j,A,C,D]
theorem Zb0 (s:ByteArray):jtext (.str s)=quoteL s.data.toList:=by rw[jtext]
theorem ZbY (n:Int):jtext (.int n)=Lib.itoa n:=by rw[jtext]
def pk {α:Type} (c:α->α->Int) (a b:α):α:=if c a b<0 then b else a
def scalar (r:Nat):Prop:=r<55296\/(57344<=r/\r<=1114111)
theorem JB {r:Nat} (h:isChar r=true):scalar r:=by
 unfold isChar at h;unfold scalar;simp only[Z6] at h;omega
theorem YV {n:Nat} (h:n<256):(UInt8.ofNat n).toNat=n:=by simp[Nat.mod_eq_of_lt h]
theorem Ks {r:Nat} (h:scalar r):1<=(encN r).length:=by
 unfold scalar at h;unfold encN;rw[Zf (by omega)]
 repeat' split
 all_goals simp
theorem Kr {r:Nat} (h:r<128):encN r= [UInt8.ofNat r]:=by
 unfold encN;rw[Zf (by omega),Zi h]
theorem ZgG {r:Nat} (h:128<=r) (k:r<2048):encN r= [UInt8.ofNat (192+r / 64),UInt8.ofNat (128+r % 64)]:=by
 unfold encN;rw[Zf (by omega),Zf (by omega),Zi k]
theorem ZgH {r:Nat} (j:scalar r) (h:2048<=r) (k:r<65536):encN r= [UInt8.ofNat (224+r / 4096),UInt8.ofNat (128+r / 64 % 64),UInt8.ofNat (128+r % 64)]:=by
 unfold scalar at j;unfold encN;rw[Zf (by omega),Zf (by omega),Zf (by omega),Zi k]
theorem Zex {r:Nat} (j:scalar r) (h:65536<=r):encN r= [UInt8.ofNat (240+r / 262144),UInt8.ofNat (128+r / 4096 % 64),UInt8.ofNat (128+r / 64 % 64),UInt8.ofNat (128+r % 64)]:=by
 unfold scalar at j;unfold encN;rw[Zf (by omega),Zf (by omega),Zf (by omega),Zf (by omega)]
theorem ET {r m:Nat} {l:List UInt8} (j:l≠ []) (h:Lib.decodeN l.length (l.getD 0 0).toNat (l.getD 1 0).toNat (l.getD 2 0).toNat (l.getD 3 0).toNat=(r,m)) (A:¬(r=65533/\m=1)):dec l=(r,m):=by
 unfold dec;rw[Zf j,UH,h,Zf A]
theorem G5 {r:Nat} (h:scalar r) (t:List UInt8):dec (encN r++t)=(r,(encN r).length):=by
 have F:=h;unfold scalar at h;by_cases D:r<128
 ·rw[Kr D];refine ET (by simp) ?_ (by omega);have A:(([UInt8.ofNat r]++t).getD 0 0).toNat=r:=YV (by omega);rw[A];unfold Lib.decodeN;rw[Zi D];rfl
 ·by_cases G:r<2048
  ·rw[ZgG (by omega) G];refine ET (by simp) ?_ (by simp);have A:(([UInt8.ofNat (192+r / 64),UInt8.ofNat (128+r % 64)]++t).getD 0 0).toNat=192+r / 64:=YV (by omega);have e1:(([UInt8.ofNat (192+r / 64),UInt8.ofNat (128+r % 64)]++t).getD 1 0).toNat=128+r % 64:=YV (by omega);have C:([UInt8.ofNat (192+r / 64),UInt8.ofNat (128+r % 64)]++t).length=t.length+2:=rfl;rw[A,e1,C];unfold Lib.decodeN;rw[Zf (by omega),Zi (by omega),Zi (by omega),show (192+r / 64) % 32*64+(128+r % 64) % 64=r by omega];rfl
  ·by_cases H:r<65536
   ·rw[ZgH F (by omega) H];refine ET (by simp) ?_ (by simp);generalize j: [UInt8.ofNat (224+r / 4096),UInt8.ofNat (128+r / 64 % 64),UInt8.ofNat (128+r % 64)]=l;have A:((l++t).getD 0 0).toNat=224+r / 4096:=(by rw[<-j];exact YV (by omega));have e1:((l++t).getD 1 0).toNat=128+r / 64 % 64:=(by rw[<-j];exact YV (by omega));have e2:((l++t).getD 2 0).toNat=128+r % 64:=(by rw[<-j];exact YV (by omega));have C:(l++t).length=t.length+3:=(by rw[<-j];rfl);rw[A,e1,e2,C];unfold Lib.decodeN;rw[Zf (by omega),Zf (by omega),Zi (by omega),Zi (by omega),show (224+r / 4096) % 16*4096+(128+r / 64 % 64) % 64*64+(128+r % 64) % 64=r by omega,<-j];rfl
   ·rw[Zex F (by omega)];refine ET (by simp) ?_ (by simp);generalize j: [UInt8.ofNat (240+r / 262144),UInt8.ofNat (128+r / 4096 % 64),UInt8.ofNat (128+r / 64 % 64),UInt8.ofNat (128+r % 64)]=l;have A:((l++t).getD 0 0).toNat=240+r / 262144:=(by rw[<-j];exact YV (by omega));have e1:((l++t).getD 1 0).toNat=128+r / 4096 % 64:=(by rw[<-j];exact YV (by omega));have e2:((l++t).getD 2 0).toNat=128+r / 64 % 64:=(by rw[<-j];exact YV (by omega));have e3:((l++t).getD 3 0).toNat=128+r % 64:=(by rw[<-j];exact YV (by omega));have C:(l++t).length=t.length+4:=(by rw[<-j];rfl);rw[A,e1,e2,e3,C];unfold Lib.decodeN;rw[Zf (by omega),Zf (by omega),Zf (by omega),Zi (by omega),Zi (by omega),show (240+r / 262144) % 8*262144+(128+r / 4096 % 64) % 64*4096+(128+r / 64 % 64) % 64*64+(128+r % 64) % 64=r by omega,<-j];rfl
theorem GU:∀(k n:Nat) (l:List UInt8) (r m:Nat),refFrom k n l=(r,m)->m≠0->encN r=l.take m/\m<=l.length
 |0,n,l,r,m,h,hm=>by simp only[refFrom,Prod.mk.injEq] at h;exact absurd h.2.symm hm
 |k+1,n,l,r,m,h,hm=>by
  unfold refFrom at h
  split at h
  ·rename_i j
   split at h
   ·rename_i A
    simp only[Prod.mk.injEq] at h
    obtain ⟨rfl,rfl⟩:=h
    exact ⟨A,j.2⟩
   ·exact GU k (n+1) l r m h hm
  ·simp only[Prod.mk.injEq] at h;exact absurd h.2.symm hm
theorem Eg {l:List UInt8} {r m:Nat} (h:dec l=(r,m)) (j:m≠0):l=encN r++l.drop m:=by
 have A:l≠ []:=by intro e;rw[e] at h;simp only[dec,Eq,Prod.mk.injEq] at h;exact j h.2.symm
 rw[<-EH l A] at h;have:=(GU 4 1 l r m h j).1;rw[this,List.take_append_drop]
def isText (l:List UInt8):Prop:=∃rs:List Nat,(∀r∈rs,isChar r=true)/\l=rs.flatMap encN
theorem Qs:isText []:=⟨[],by simp,rfl⟩
theorem KJ {l m:List UInt8} (h:isText l) (k:isText m):isText (l++m):=by
 obtain ⟨rs,j,rfl⟩:=h;obtain ⟨D,A,rfl⟩:=k;exact ⟨rs++D,λr C=>(ZZ.1 C).elim (j r) (A r),by simp⟩
theorem KK {r:Nat} (h:isChar r=true):isText (encN r):=⟨[r],by simpa using h,by simp⟩
theorem Vg:∀(n at_:Nat) (l:List UInt8),l.length<=n->(checkGo n at_ l).2=0->isText l
 |0,_,l,hl,_=>by
  have e:l= []:=ZI (by omega)
  rw[e];exact Qs
 |n+1,at_,l,hl,h=>by
  by_cases C:l= []
  ·subst C;exact Qs
  ·rw[Us n at_ l C] at h
   by_cases j:(dec l).2=0
   ·rw[Zi j] at h;simp at h
   ·rw[Zf j] at h
    by_cases A:isChar (dec l).1=false
    ·rw[Zi A] at h;simp at h
    ·rw[Zf A] at h
     have D:=Eg (l:=l) (r:=(dec l).1) (m:=(dec l).2) rfl j
     rw[D]
     refine KJ (KK (by simpa using A)) (Vg n _ _ ?_ h)
     rw[ZL];omega
theorem Kl:∀(rs:List Nat) (n at_:Nat),(∀r∈rs,isChar r=true)->(rs.flatMap encN).length<=n->(checkGo n at_ (rs.flatMap encN)).2=0
 | [],n,at_,_,_=>by rw[List.flatMap_nil,I6]
 |r::rs,n,at_,h,hl=>by
  have j:isChar r=true:=h r (by simp)
  have C:=Ks (JB j)
  have A:=G5 (JB j) (rs.flatMap encN)
  rw[XU] at hl|-
  rw[Zj] at hl
  obtain ⟨n,rfl⟩:∃k,n=k+1:=⟨n - 1,by omega⟩
  rw[Us n at_ _ (by intro e;have:=Zo List.length e;rw[Zj,ZF] at this;omega),A]
  rw[Zf (by simp only[];omega),Zf (by simp[j])]
  simp only[List.drop_left]
  exact Kl rs n _ (λr j=>h r (by simp[j])) (by omega)
theorem Gh (l:List UInt8):(check l).2=0↔isText l:=
 ⟨Vg _ _ _ (Zd _),λ⟨rs,h,e⟩=>by subst e;exact Kl rs _ _ h (Zd _)⟩
theorem Zcw {l:List UInt8} (h:isText l):Lib.validD l=true:=by
 obtain ⟨rs,h,rfl⟩:=h
 induction rs with
 |nil=>rfl
 |cons r rs ih=>have j:isChar r=true:=h r (by simp);have D:=Ks (JB j);have C:=G5 (JB j) (rs.flatMap encN);rw[XU];have A:=Iq (encN r++rs.flatMap encN) 0 (by rw[Zj];omega);rw[XQ,C,Zf (by simp only[];omega),Yf,List.drop_left] at A;rw[A];exact ih λr j=>h r (by simp[j])
theorem Zaw {s:ByteArray} (h:validS s=true):(checkS s).2=0:=by
 unfold validS at h;simp only[ZU,Z6] at h;exact h.1
theorem V7 {s:ByteArray} (h:(checkS s).2=0):Lib.validD s.data.toList=true:=Zcw ((Gh _).1 h)
section
def noS:ByteArray:=⟨#[]⟩
def zeroE:Ent:=⟨noS,noS,noS,noS,0⟩
def zeroF:Fd:=⟨[],noS,noS,noS,0,[]⟩
def inT (t:Int):Bool:=decide (-62135596800<=t) && decide (t<=253402300799)
def firstErr:List ByteArray->Nat
 | []=>0
 |s::t=>if (checkS s).2=0 then firstErr t else (checkS s).2
def strsE (e:Ent):List ByteArray:= [e.id,e.title,e.link,e.content]
def strsF (f:Fd):List ByteArray:=f.path++ [f.id,f.title,f.link]
def collE (e:Ent):Ent:=⟨collapse e.id,collapse e.title,collapse e.link,collapse e.content,e.upd⟩
def collF (f:Fd):Fd:=⟨f.path.map collapse,collapse f.id,collapse f.title,collapse f.link,f.upd,ordE.canon (f.ents.map collE)⟩
def errE (e:Ent):Nat:=if firstErr (strsE e)≠0 then firstErr (strsE e) else if collapse e.id=noS then 19 else if inT e.upd then 0 else 3
def errEs:List Ent->Nat
 | []=>0
 |e::t=>if errE e=0 then errEs t else errE e
def headF (f:Fd):Nat:=if firstErr (strsF f)≠0 then firstErr (strsF f) else if collapse f.id=noS\/(f.path.any λp=>decide (collapse p=noS))=true then 19 else if 64<f.path.length then 9 else if inT f.upd then 0 else 3
def errF (f:Fd):Nat:=if headF f=0 then errEs f.ents else headF f
def normE (e:Ent):Ent:=if errE e=0 then collE e else zeroE
def normF (f:Fd):Fd:=if errF f=0 then collF f else zeroF
def okAt {α κ:Type} [DecidableEq κ] (ok:α->Bool) (O:Ord α κ) (l:List α) (i:Nat):Bool:=
 match l[i]? with
 |none=>true
 |some x=>ok x && (decide (i=0)||(match l[i - 1]? with|none=>true|some y=>O.lt y x)) && (l.take i).all λy=>decide (O.id y≠O.id x)
def okL {α κ:Type} [DecidableEq κ] (ok:α->Bool) (O:Ord α κ) (l:List α):Bool:=(List.range l.length).all (okAt ok O l)
def okE (e:Ent):Bool:=(strsE e).all validS && !decide (e.id=noS) && inT e.upd
def okH (f:Fd):Bool:=decide (f.path.length<=64) && (strsF f).all validS && !decide (f.id=noS) && inT f.upd && f.path.all λp=> !decide (p=noS)
def okF (f:Fd):Bool:=okH f && okL okE ordE f.ents
section
variable {α κ:Type} [DecidableEq κ] {ok:α→Bool} {O:Ord α κ}
theorem US {l:List α} {i:Nat} (D:i<l.length):okAt ok O l i=true↔ok l[i]=true/\(∀h:0<i,O.lt l[i - 1] l[i]=true)/\∀j (C:j<i),O.id l[j]≠O.id l[i]:=by
 unfold okAt;rw[Zc D];simp only[ZU,Bool.or_eq_true,Z6,Yn,and_assoc];refine and_congr Iff.rfl (and_congr ?_ ?_)
 ·rw[Zc (show i - 1<l.length by omega)];constructor
  ·rintro (h|h) A
   ·omega
   ·exact h
  ·intro h;rcases YP i with A|A
   ·exact Or.inl A
   ·exact Or.inr (h A)
 ·constructor
  ·intro h j C;refine h _ ?_;exact List.mem_take_iff_getElem.2 ⟨j,by omega,rfl⟩
  ·intro h x F;obtain ⟨j,C,rfl⟩:=List.mem_take_iff_getElem.1 F;exact h j (by omega)
theorem ZcR {l:List α}:okL ok O l=true↔(∀x∈l,ok x=true)/\O.sorted l/\l.Pairwise λa b=>O.id a≠O.id b:=by
 unfold okL;simp only[Yn,List.mem_range];constructor
 ·intro h;refine ⟨λx J=> ?_,?_,?_⟩
  ·obtain ⟨i,A,rfl⟩:=List.mem_iff_getElem.1 J;exact ((US A).1 (h i A)).1
  ·refine Xj.2 λi j A F D=> ?_;have step:∀d i (C:i+d+1<l.length),O.lt l[i] l[i+d+1]=true:=by
    intro d
    induction d with
    |zero=>intro i C;exact ((US C).1 (h (i+1) C)).2.1 (by omega)
    |succ d ih=>intro i C;have G:=ih i (by omega);have H:=((US C).1 (h _ C)).2.1 (by omega);exact O.trans _ _ _ G H
   have:=step (j - i - 1) i (by omega);simpa [show i+(j - i - 1)+1=j by omega] using this
  ·exact Xj.2 λi j A F D=>((US F).1 (h j F)).2.2 i D
 ·rintro ⟨G,H,I⟩ i A;rw[US A];exact ⟨G _ (ZO A),λK=>Xj.1 H (i - 1) i (by omega) A (by omega),λj F=>Xj.1 I j i (by omega) A F⟩
end
theorem ZcQ {e:Ent}:okE e=true↔(∀s∈strsE e,validS s=true)/\e.id≠noS/\inT e.upd=true:=by
 unfold okE;simp only[ZU,Yn,Bool.not_eq_true',Gf,and_assoc,ne_eq]
theorem Um {f:Fd}:okH f=true↔f.path.length<=64/\(∀s∈strsF f,validS s=true)/\f.id≠noS/\inT f.upd=true/\∀p∈f.path,p≠noS:=by
 unfold okH;simp only[ZU,Yn,Bool.not_eq_true',Gf,Z6,and_assoc,ne_eq]
theorem Ul {f:Fd}:okF f=true↔okH f=true/\okL okE ordE f.ents=true:=by unfold okF;rw[ZU]
theorem ZfJ {s:ByteArray} (h:validS s=true):vld s=true:=V7 (Zaw h)
theorem VW {l:List ByteArray}:firstErr l=0↔∀s∈l,(checkS s).2=0:=by
 induction l with
 |nil=>simp[firstErr]
 |cons s t ih=>
  unfold firstErr;by_cases h:(checkS s).2=0
  ·rw[Zi h,ih];simp[h]
  ·rw[Zf h];simp[h]
theorem VV {l:List ByteArray} {k:Nat} (h:k<l.length):firstErr (l.drop k)=if (checkS l[k]).2=0 then firstErr (l.drop (k+1)) else (checkS l[k]).2:=by
 rw[Zx h];rfl
theorem Gn {e:Ent}:errE e=0↔firstErr (strsE e)=0/\collapse e.id≠noS/\inT e.upd=true:=by
 unfold errE;by_cases h:firstErr (strsE e)=0
 ·rw[Zf (by simpa using h)];by_cases k:collapse e.id=noS
  ·rw[Zi k];simp[k]
  ·rw[Zf k];simp[h,k]
 ·rw[Zi h];simp[h]
theorem ZbQ {f:Fd}:headF f=0↔firstErr (strsF f)=0/\collapse f.id≠noS/\(∀p∈f.path,collapse p≠noS)/\f.path.length<=64/\inT f.upd=true:=by
 unfold headF;by_cases h:firstErr (strsF f)=0
 ·rw[Zf (by simpa using h)];by_cases k:collapse f.id=noS\/(f.path.any λp=>decide (collapse p=noS))=true
  ·rw[Zi k];constructor
   ·intro j;omega
   ·rintro ⟨_,F,G,_⟩;rcases k with k|k
    ·exact absurd k F
    ·obtain ⟨p,C,e⟩:=IC.1 k;exact absurd (Yd e) (G p C)
  ·rw[Zf k];have H:collapse f.id≠noS:=λe=>k (Or.inl e);have I:∀p∈f.path,collapse p≠noS:=λp C e=>k (Or.inr (IC.2 ⟨p,C,Yg e⟩));by_cases g:64<f.path.length
   ·rw[Zi g];constructor
    ·intro j;omega
    ·rintro ⟨_,_,_,j,_⟩;omega
   ·rw[Zf g];have D:f.path.length<=64:=(by omega);by_cases A:inT f.upd=true
    ·rw[Zi A];exact ⟨λ_=>⟨h,H,I,D,A⟩,λ_=>rfl⟩
    ·rw[Zf A];exact ⟨λj=>by omega,λj=>absurd j.2.2.2.2 A⟩
 ·rw[Zi h];exact ⟨λj=>absurd j h,λj=>absurd j.1 h⟩
theorem Qn {l:List Ent}:errEs l=0↔∀e∈l,errE e=0:=by
 induction l with
 |nil=>simp[errEs]
 |cons s t ih=>
  unfold errEs;by_cases h:errE s=0
  ·rw[Zi h,ih];simp[h]
  ·rw[Zf h];simp[h]
theorem Em {f:Fd}:errF f=0↔headF f=0/\errEs f.ents=0:=by
 unfold errF;by_cases h:headF f=0
 ·rw[Zi h];simp[h]
 ·rw[Zf h];simp[h]
end
def leapN (y:Nat):Bool:=(y % 4==0 && y % 100 !=0)||y % 400==0
def dimN (y m:Nat):Nat:=if m=2 then (if leapN y then 29 else 28) else if m=4\/m=6\/m=9\/m=11 then 30 else 31
def befN (y:Nat):Nat:=365*(y - 1)+(y - 1) / 4 - (y - 1) / 100+(y - 1) / 400
def lenN (y:Nat):Nat:=if leapN y then 366 else 365
theorem VK (y:Nat):leapN y=true↔(y % 4=0/\y % 100≠0)\/y % 400=0:=by simp[leapN]
theorem Ur (y:Nat) (h:1<=y):befN (y+1)=befN y+lenN y:=by
 obtain ⟨p,rfl⟩:∃p,y=p+1:=⟨y - 1,by omega⟩;unfold befN lenN;simp only[Nat.add_sub_cancel];have j:=VK (p+1);have D:(p+1) / 4=p / 4+if (p+1) % 4=0 then 1 else 0:=by split<;>omega
 have C:(p+1) / 100=p / 100+if (p+1) % 100=0 then 1 else 0:=by split<;>omega
 have A:(p+1) / 400=p / 400+if (p+1) % 400=0 then 1 else 0:=by split<;>omega
 have G:(p+1) % 400=0->(p+1) % 100=0:=by omega
 have i2:(p+1) % 100=0->(p+1) % 4=0:=by omega
 have F:p / 100<=365*p:=by omega
 rw[D,C,A];generalize p / 4=a at*;generalize p / 100=b at*;generalize p / 400=c at*;generalize (p+1) % 4=x at*;generalize (p+1) % 100=u at*;generalize (p+1) % 400=v at*;cases hb:leapN (p+1) with
 |true=>rw[hb] at j;have j:=j.1 rfl;simp only[Eq];split<;>split<;>split<;>omega
 |false=>
  rw[hb] at j;have j:¬((x=0/\u≠0)\/v=0):=λh=>by have:=j.2 h;cases this
  simp only[Ja,ZgK];split<;>split<;>split<;>omega
def monN (y:Nat):Nat->Nat
 |0=>0
 |m+1=>monN y m+dimN y (m+1)
theorem G9 (y:Nat):monN y 12=lenN y:=by
 have:∀b:Bool,0+(if (1:Nat)=2 then (if b=true then 29 else 28) else if 1=4\/1=6\/1=9\/1=11 then 30 else 31)+(if b=true then 29 else 28)+31+30+31+30+31+31+30+31+30+31=if b=true then 366 else 365:=by decide
 exact this (leapN y)
theorem UP (y m:Nat):28<=dimN y m/\dimN y m<=31:=by
 unfold dimN
 repeat' split
 all_goals omega
theorem Ev (y:Nat) {a b:Nat} (h:a<=b):monN y a<=monN y b:=by
 induction h with
 |refl=>exact Zd _
 |step _ ih=>exact Zl ih (Nat.le_add_right _ _)
theorem IV {a b:Nat} (j:1<=a) (h:a<=b):befN a<=befN b:=by
 induction h with
 |refl=>exact Zd _
 | @step m hm ih=>rw[Ur m (Zl j hm)];omega
def IsDate (n y m d:Nat):Prop:=1<=y/\1<=m/\m<=12/\1<=d/\d<=dimN y m/\n=befN y+monN y (m - 1)+(d - 1)
theorem IsDate.year {n y m d:Nat} (h:IsDate n y m d):befN y<=n/\n<befN (y+1):=by
 obtain ⟨C,F,j,D,A,rfl⟩:=h;refine ⟨by omega,?_⟩;rw[Ur y C,<-G9 y];obtain ⟨k,rfl⟩:∃k,m=k+1:=⟨m - 1,by omega⟩;have:=Ev y j;rw[monN] at this;rw[Nat.add_sub_cancel];omega
def yearN (n:Nat):Nat:=
 let a:=n / 146097;let r:=n % 146097
 let b:=min (r / 36524) 3;let s:=r - b*36524
 let c:=min (s / 1461) 24;let t:=s - c*1461
 1+400*a+100*b+4*c+min (t / 365) 3
theorem ZcC (a b c e:Nat) (C:b<=3) (D:c<=24) (F:e<=3):befN (1+400*a+100*b+4*c+e)=146097*a+36524*b+1461*c+365*e:=by
 unfold befN;have A:(1+400*a+100*b+4*c+e - 1) / 4=100*a+25*b+c:=by omega
 have j:(1+400*a+100*b+4*c+e - 1) / 100=4*a+b:=by omega
 have h:(1+400*a+100*b+4*c+e - 1) / 400=a:=by omega
 rw[A,j,h];omega
theorem Ix (n:Nat):befN (yearN n)<=n/\n<befN (yearN n+1)/\1<=yearN n:=by
 obtain ⟨a,G⟩:∃a,n / 146097=a:=⟨_,rfl⟩;obtain ⟨r,I⟩:∃r,n % 146097=r:=⟨_,rfl⟩;have F:n=146097*a+r/\r<146097:=by omega
 obtain ⟨b,O⟩:∃b,min (r / 36524) 3=b:=⟨_,rfl⟩;have C:=F.2;have j:b<=3/\36524*b<=r/\(b<3->r - b*36524<36524)/\r - b*36524<=36524:=by clear F I G;omega
 obtain ⟨s,Q⟩:∃s,r - b*36524=s:=⟨_,rfl⟩;rw[Q] at j;have J:r=36524*b+s:=by clear F I G O C;omega
 have hi:s<=36524:=j.2.2.2;have K:=j.2.2.1;obtain ⟨c,S⟩:∃c,min (s / 1461) 24=c:=⟨_,rfl⟩;have A:c<=24/\1461*c<=s/\s - c*1461<1461:=by clear F I G O C j J Q K;omega
 obtain ⟨t,U⟩:∃t,s - c*1461=t:=⟨_,rfl⟩;rw[U] at A;have V:s=1461*c+t:=by clear F I G O C j J Q K S;omega
 have hj:=A.2.2;obtain ⟨e,Y⟩:∃e,min (t / 365) 3=e:=⟨_,rfl⟩;have H:e<=3/\365*e<=t/\(t - 365*e<365\/(e=3/\t=1460)):=by clear F I G O C j J Q K S V A U;omega
 have Z:yearN n=1+400*a+100*b+4*c+e:=by unfold yearN;simp only[G,I,O,Q,S,U,Y]
 have D:=ZcC a b c e j.1 A.1 H.1;have R:1<=yearN n:=by rw[Z];omega
 rw[Ur _ R,Z,D];have hl:365<=lenN (1+400*a+100*b+4*c+e):=by unfold lenN;split<;>omega
 have hd:=j.1;have hf:=A.1;have hg:=H.2.1;have hh:=F.1;clear I G O S Y U Q D F;refine ⟨by omega,?_,by omega⟩;rcases H.2.2 with h|⟨h3,h4⟩
 ·omega
 ·have:lenN (1+400*a+100*b+4*c+e)=366:=by
   unfold lenN;rw[Zi];rw[VK];by_cases X:c=24
   ·have:b=3:=(by omega);right;omega
   ·left;omega
  omega
def monthGo (y:Nat):Nat->Nat->Nat->Nat×Nat
 |0,m,left=>(m,left)
 |k+1,m,left=>if dimN y m<=left then monthGo y k (m+1) (left - dimN y m) else (m,left)
theorem KV (y:Nat):∀(k m left:Nat),1<=m->m+k=12->monN y (m - 1)+left<lenN y->
 1<=(monthGo y k m left).1/\(monthGo y k m left).1<=12/\(monthGo y k m left).2<dimN y (monthGo y k m left).1/\monN y ((monthGo y k m left).1 - 1)+(monthGo y k m left).2=monN y (m - 1)+left
 |0,m,left,h1,h2,A=>by
  have:m=12:=by omega
  subst this;have C:monN y 11+dimN y 12=lenN y:=G9 y;have A:monN y 11+left<lenN y:=A;exact ⟨Nat.le_add_left 1 11,Zd 12,by show left<dimN y 12;omega,rfl⟩
 |k+1,m,left,h1,h2,A=>by
  unfold monthGo;by_cases h:dimN y m<=left
  ·rw[Zi h];have D:monN y (m+1 - 1)=monN y (m - 1)+dimN y m:=(by obtain ⟨j,rfl⟩:∃j,m=j+1:=⟨m - 1,by omega⟩;rfl);have:=KV y k (m+1) (left - dimN y m) (by omega) (by omega) (by omega);rw[D] at this;refine ⟨this.1,this.2.1,this.2.2.1,?_⟩;rw[this.2.2.2];omega
  ·rw[Zf h];exact ⟨h1,by show m<=12;omega,by show left<dimN y m;omega,rfl⟩
def dateN (n:Nat):Nat×Nat×Nat:=
 let y:=yearN n;let p:=monthGo y 11 1 (n - befN y)
 (y,p.1,p.2+1)
theorem Zaz (n:Nat):IsDate n (dateN n).1 (dateN n).2.1 (dateN n).2.2:=by
 have h:=Ix n;have A:=Ur (yearN n) h.2.2;have:=KV (yearN n) 11 1 (n - befN (yearN n)) (Zd 1) rfl (by show 0+(n - befN (yearN n))<lenN (yearN n);omega);refine ⟨h.2.2,this.1,this.2.1,Nat.le_add_left 1 _,this.2.2.1,?_⟩;show n=befN (yearN n)+monN (yearN n) ((monthGo (yearN n) 11 1 (n - befN (yearN n))).1 - 1)+((monthGo (yearN n) 11 1 (n - befN (yearN n))).2+1 - 1);have j:=this.2.2.2;rw[show monN (yearN n) (1 - 1)=0 from rfl] at j;omega
theorem IsDate.top {n y m d:Nat} (h:IsDate n y m d) (C:n<3652059):y<=9999:=by
 have:=h.year;have A:befN 10000=3652059:=by decide
 by_cases j:y<=9999
 ·exact j
 ·have:=IV (a:=10000) (b:=y) (by omega) (by omega);omega
def secsP (y m d h mi s:Nat):Option Int:=
 if 1<=y/\y<=9999/\1<=m/\m<=12/\1<=d/\d<=dimN y m/\h<=23/\mi<=59/\s<=59 then
  some (((befN y+monN y (m - 1)+(d - 1):Nat):Int)*86400 - 62135596800+((h*3600+mi*60+s:Nat):Int))
 else none
def dg (n:Nat):UInt8:=UInt8.ofNat (48+n % 10)
def pad2 (n:Nat):List UInt8:= [dg (n / 10),dg n]
def pad4 (n:Nat):List UInt8:= [dg (n / 1000),dg (n / 100),dg (n / 10),dg n]
def fmtD (y m d s:Nat):List UInt8:=pad4 y++45::(pad2 m++45::(pad2 d++84::(pad2 (s / 3600)++58::(pad2 (s / 60 % 60)++58::(pad2 (s % 60)++ [90])))))
def sinceN (t:Int):Nat:=(t+62135596800).toNat
def fmtL (t:Int):List UInt8:=fmtD (dateN (sinceN t / 86400)).1 (dateN (sinceN t / 86400)).2.1 (dateN (sinceN t / 86400)).2.2 (sinceN t % 86400)
theorem ZeI (t:Int):(fmtL t).length=20:=by
 unfold fmtL fmtD;simp[pad2,pad4]
def digP (l:List UInt8) (i:Nat):Option Nat:=match l[i]? with
 |some c=>if 48<=c.toNat/\c.toNat<=57 then some (c.toNat - 48) else none
 |none=>none
def numP (l:List UInt8) (at_:Nat):Nat->Option Nat
 |0=>some 0
 |w+1=>match numP l at_ w,digP l (at_+w) with
  |some n,some d=>some (n*10+d)
  |_,_=>none
def sepP (l:List UInt8) (i a b:Nat):Bool:=match l[i]? with
 |some c=>decide (c.toNat=a)||decide (c.toNat=b)
 |none=>false
def digsP (l:List UInt8):Nat->Nat->Nat
 |0,_=>0
 |k+1,i=>if (digP l i).isSome then digsP l k (i+1)+1 else 0
def fracP (l:List UInt8) (at_:Nat):Option Nat:=
 if sepP l at_ 46 46 then (if digsP l l.length (at_+1)=0 then none else some (at_+1+digsP l l.length (at_+1))) else some at_
def offP (l:List UInt8) (at_:Nat):Option Int:=
 if sepP l at_ 90 122 then (if l.length=at_+1 then some 0 else none)
 else match numP l (at_+1) 2,numP l (at_+4) 2 with
  |some h,some m=>if (sepP l at_ 43 45 && sepP l (at_+3) 58 58)=true/\h<=23/\m<=59/\l.length=at_+6 then some (if sepP l at_ 45 45 then -((h*3600+m*60:Nat):Int) else ((h*3600+m*60:Nat):Int)) else none
  |_,_=>none
def stampP (l:List UInt8):Option Int:=
 if (sepP l 4 45 45 && sepP l 7 45 45 && sepP l 10 84 116 && sepP l 13 58 58 && sepP l 16 58 58)=true then
  match numP l 0 4,numP l 5 2,numP l 8 2,numP l 11 2,numP l 14 2,numP l 17 2 with
  |some y,some m,some d,some h,some mi,some s=>secsP y m d h mi s
  |_,_,_,_,_,_=>none
 else none
def timeP (l:List UInt8):Option Int:=match stampP l,fracP l 19 with
 |some t,some at_=>match offP l at_ with
  |some o=>if inT (t - o) then some (t - o) else none
  |none=>none
 |_,_=>none
theorem ZgE (n:Nat):(dg n).toNat=48+n % 10:=by unfold dg;rw[UInt8.toNat_ofNat'];omega
def kindJ:JO->Nat
 | .null _=>0
 | .bool _ _=>1
 | .int _ _=>2
 | .str _ _=>3
 | .arr _ _=>4
 | .obj _ _ _=>5
def atJ:JO->Nat
 | .null a=>a
 | .bool a _=>a
 | .int a _=>a
 | .str a _=>a
 | .arr a _=>a
 | .obj a _ _=>a
def sJ:JO->ByteArray
 | .str _ s=>s
 |_=>noS
def itemsJ:JO->List JO
 | .arr _ l=>l
 |_=> []
def lookG:List (ByteArray×Nat)->List JO->ByteArray->Option JO
 |k::ks,v::vs,name=>if k.1=name then some v else lookG ks vs name
 |_,_,_=>none
def getJ:JO->ByteArray->Option JO
 | .obj _ ks vs,name=>lookG ks vs name
 |_,_=>none
def memJ (j:JO) (name:ByteArray):Option JO:=match getJ j name with
 |some x=>if kindJ x=0 then none else some x
 |none=>none
def base1:List UInt8:= [104,116,116,112,115,58,47,47,106,115,111,110,102,101,101,100,46,111,114,103,47,118,101,114,115,105,111,110,47]
def nVersion:ByteArray:=⟨#[118,101,114,115,105,111,110]⟩
def nFeedUrl:ByteArray:=⟨#[102,101,101,100,95,117,114,108]⟩
def nHome:ByteArray:=⟨#[104,111,109,101,95,112,97,103,101,95,117,114,108]⟩
def nTitle:ByteArray:=⟨#[116,105,116,108,101]⟩
def nUpdated:ByteArray:=⟨#[95,117,112,100,97,116,101,100]⟩
def nItems:ByteArray:=⟨#[105,116,101,109,115]⟩
def nId:ByteArray:=⟨#[105,100]⟩
def nUrl:ByteArray:=⟨#[117,114,108]⟩
def nText:ByteArray:=⟨#[99,111,110,116,101,110,116,95,116,101,120,116]⟩
def nHtml:ByteArray:=⟨#[99,111,110,116,101,110,116,95,104,116,109,108]⟩
def nMod:ByteArray:=⟨#[100,97,116,101,95,109,111,100,105,102,105,101,100]⟩
def nPub:ByteArray:=⟨#[100,97,116,101,95,112,117,98,108,105,115,104,101,100]⟩
def v1:ByteArray:=⟨#[49]⟩
def v11:ByteArray:=⟨#[49,46,49]⟩
def versJ (j:JO):Option ByteArray:=match getJ j nVersion with
 |some x=>if sJ x=str (base1++ [49]) then some v1 else if sJ x=str (base1++ [49,46,49]) then some v11 else none
 |none=>none
def chkJ (j:JO):Bool->List ByteArray->Option (Nat×Nat)
 |_,[]=>none
 |num,n::t=>match memJ j n with
  |none=>chkJ j false t
  |some x=>if num=true/\kindJ x=2 then chkJ j false t else if kindJ x≠3 then some (atJ x,21) else if (checkS (sJ x)).2≠0 then some (atJ x,(checkS (sJ x)).2) else chkJ j false t
def textJ (j:JO) (name:ByteArray):ByteArray:=match memJ j name with
 |some (.int _ n)=>str (Lib.itoa n)
 |some x=>sJ x
 |none=>noS
def dateJ (j:JO):List ByteArray->Except (Nat×Nat) Int
 | []=> .ok (-62135596800)
 |n::t=>match memJ j n with
  |none=>dateJ j t
  |some x=>match timeP (collapse (sJ x)).data.toList with
   |some t=> .ok t
   |none=> .error (atJ x,20)
def entJO (j:JO):Ent:=⟨textJ j nId,textJ j nTitle,textJ j nUrl,(if (memJ j nText).isSome then textJ j nText else textJ j nHtml),0⟩
def entryJ (j:JO):Except (Nat×Nat) Ent:=
 if kindJ j≠5 then .error (atJ j,21)
 else match chkJ j true [nId,nTitle,nUrl,nText,nHtml,nMod,nPub] with
  |some e=> .error e
  |none=>if collapse (textJ j nId)=noS then .error (atJ j,19) else match dateJ j [nMod,nPub] with
   | .error e=> .error e
   | .ok t=> .ok {entJO j with upd:=t}
def entsJ:List JO->Except (Nat×Nat) (List Ent)
 | []=> .ok []
 |j::t=>match entryJ j with
  | .error e=> .error e
  | .ok x=>match entsJ t with
   | .error e=> .error e
   | .ok l=> .ok (x::l)
def feedId (j:JO):ByteArray:=if collapse (textJ j nFeedUrl)=noS then textJ j nHome else textJ j nFeedUrl
def decJ (j:JO):Except (Nat×Nat) Fd:=
 if versJ j=none then .error (atJ j,18)
 else match chkJ j false [nFeedUrl,nHome,nTitle,nUpdated] with
  |some e=> .error e
  |none=>if collapse (feedId j)=noS then .error (atJ j,19) else match dateJ j [nUpdated] with
   | .error e=> .error e
   | .ok t=>match memJ j nItems with
    |none=> .ok ⟨[],feedId j,textJ j nTitle,textJ j nHome,t,[]⟩
    |some x=>if kindJ x≠4 then .error (atJ x,21) else match entsJ (itemsJ x) with
     | .error e=> .error e
     | .ok l=> .ok ⟨[],feedId j,textJ j nTitle,textJ j nHome,t,l⟩
def optM (k s:ByteArray):List (ByteArray×ByteArray):=if s=noS then [] else [(k,s)]
def objS (l:List (ByteArray×ByteArray)):JV:= .obj (l.map Prod.fst) (l.map λp=> .str p.2)
def entM (e:Ent):List (ByteArray×ByteArray):=(nId,e.id)::(optM nUrl e.link++(nTitle,e.title)::(optM nText e.content++ [(nMod,str (fmtL e.upd))]))
def feedM (f:Fd):List (ByteArray×ByteArray):=(nVersion,str (base1++ [49,46,49]))::(nTitle,f.title)::(optM nHome f.link++ [(nFeedUrl,f.id),(nUpdated,str (fmtL f.upd))])
def encJ (f:Fd):JV:= .obj ((feedM f).map Prod.fst++ [nItems]) ((feedM f).map (λp=> .str p.2)++ [.arr (f.ents.map λe=>objS (entM e))])
theorem J6 (c:Int) (w:World):Calls prog 67 #[.int .u8 c] w λe w'=>e= .returned (.bool (isSp c))/\w=w':=by
 unfold isSp;go_enter func67,ntmps67;go_wp2
 all_goals (go_ret;refine ⟨?_,rfl⟩)
 all_goals (refine Zo (λb=>Ending.returned (.bool b)) (Xf.2 ?_);simp at* <;>omega)
theorem Xt (c:Int) (w:World):Calls prog 113 #[.int .u8 c] w λe w'=>e= .returned (.bool (isSp c))/\w=w':=by
 unfold isSp;go_enter func113,ntmps113;go_wp2
 all_goals (go_ret;refine ⟨?_,rfl⟩)
 all_goals (refine Zo (λb=>Ending.returned (.bool b)) (Xf.2 ?_);simp at* <;>omega)
theorem VC (r:Int) (w:World):Calls prog 115 #[.int .i32 r] w λe w'=>e= .returned (.bool (isChar r))/\w=w':=by
 unfold isChar;go_enter func115,ntmps115;go_wp2
 all_goals (go_ret;refine ⟨?_,rfl⟩)
 all_goals (refine Zo (λb=>Ending.returned (.bool b)) (Xf.2 ?_);simp at* <;>omega)
theorem V3 (r:Int) (w:World):Calls prog 128 #[.int .i64 r] w λe w'=>e= .returned (.bool (isChar r))/\w=w':=by
 unfold isChar;go_enter func128,ntmps128;go_wp2
 all_goals (go_ret;refine ⟨?_,rfl⟩)
 all_goals (refine Zo (λb=>Ending.returned (.bool b)) (Xf.2 ?_);simp at* <;>omega)
def lays103_ren:Go.Shelf.Ren:=⟨fun|103=>45|210=>86|206=>134|n=>n,fun|9=>9|4=>4|24=>38|3=>3|n=>n,fun|n=>n⟩
theorem lays103:Go.Proofs.Lays.n103 prog lays103_ren:={
 mixed:=by kernel_rfl
 f103:=func45.trans (Zo some (by kernel_rfl))
 f206:=func134.trans (Zo some (by kernel_rfl))
 f210:=func86.trans (Zo some (by kernel_rfl))
 t3:=underlying3
 a3:=isAgg3
 z3:=sizeOf3
 v3:=zeroValue3
 t4:=underlying4
 a4:=isAgg4
 z4:=sizeOf4
 v4:=zeroValue4
 t9:=underlying9
 a9:=isAgg9
 z9:=sizeOf9
 v9:=zeroValue9
 t24:=underlying38
 a24:=isAgg38
 z24:=sizeOf38
 v24:=zeroValue38}
open Go.RowKit in
theorem strings_CutPrefix (s p:ByteArray) (w:World):
 Calls prog 45 #[.string s,.string p] w λe w'=>e= .returned (.tuple #[.string ⟨(Lib.trimPrefix s.data.toList p.data.toList).toArray⟩,.bool (Lib.hasPrefix s.data.toList p.data.toList)])/\w'=w:=Any.strings_CutPrefix lays103 s p w
def lays104_ren:Go.Shelf.Ren:=⟨fun|104=>98|211=>141|207=>176|n=>n,fun|9=>9|4=>4|24=>38|3=>3|n=>n,fun|n=>n⟩
theorem lays104:Go.Proofs.Lays.n104 prog lays104_ren:={
 mixed:=by kernel_rfl
 f104:=func98.trans (Zo some (by kernel_rfl))
 f207:=func176.trans (Zo some (by kernel_rfl))
 f211:=func141.trans (Zo some (by kernel_rfl))
 t3:=underlying3
 a3:=isAgg3
 z3:=sizeOf3
 v3:=zeroValue3
 t4:=underlying4
 a4:=isAgg4
 z4:=sizeOf4
 v4:=zeroValue4
 t9:=underlying9
 a9:=isAgg9
 z9:=sizeOf9
 v9:=zeroValue9
 t24:=underlying38
 a24:=isAgg38
 z24:=sizeOf38
 v24:=zeroValue38}
open Go.RowKit in
theorem strings_CutSuffix (s p:ByteArray) (w:World) (h:s.size<=9223372036854775807):
 Calls prog 98 #[.string s,.string p] w λe w'=>e= .returned (.tuple #[.string ⟨(Lib.trimSuffix s.data.toList p.data.toList).toArray⟩,.bool (Lib.hasSuffix s.data.toList p.data.toList)])/\w'=w:=Any.strings_CutSuffix lays104 s p w h
def laysM171_ren:Go.Shelf.Ren:=⟨fun|171=>140|243=>175|246=>121|283=>161|284=>162|285=>163|286=>164|129=>186|317=>185|318=>187|319=>188|320=>189|337=>206|338=>207|n=>n,fun|3=>3|9=>9|2=>2|4=>4|171=>214|0=>0|53=>209|37=>115|5=>5|173=>217|212=>231|51=>232|20=>20|213=>233|46=>225|232=>260|233=>261|n=>n,fun|17=>0|18=>4|19=>5|n=>n⟩
theorem laysM171:Go.Proofs.LaysM.n171 prog laysM171_ren:={
 mixed:=by kernel_rfl
 f129:=func186.trans (Zo some (by kernel_rfl))
 f171:=func140.trans (Zo some (by kernel_rfl))
 f243:=func175.trans (Zo some (by kernel_rfl))
 f246:=func121.trans (Zo some (by kernel_rfl))
 f283:=func161.trans (Zo some (by kernel_rfl))
 f284:=func162.trans (Zo some (by kernel_rfl))
 f285:=func163.trans (Zo some (by kernel_rfl))
 f286:=func164.trans (Zo some (by kernel_rfl))
 f317:=func185.trans (Zo some (by kernel_rfl))
 f318:=func187.trans (Zo some (by kernel_rfl))
 f319:=func188.trans (Zo some (by kernel_rfl))
 f320:=func189.trans (Zo some (by kernel_rfl))
 f337:=func206.trans (Zo some (by kernel_rfl))
 f338:=func207.trans (Zo some (by kernel_rfl))
 t0:=underlying0
 a0:=isAgg0
 z0:=sizeOf0
 v0:=zeroValue0
 t2:=underlying2
 a2:=isAgg2
 z2:=sizeOf2
 v2:=zeroValue2
 t3:=underlying3
 a3:=isAgg3
 z3:=sizeOf3
 v3:=zeroValue3
 t4:=underlying4
 a4:=isAgg4
 z4:=sizeOf4
 v4:=zeroValue4
 t5:=underlying5
 a5:=isAgg5
 z5:=sizeOf5
 v5:=zeroValue5
 t9:=underlying9
 a9:=isAgg9
 z9:=sizeOf9
 v9:=zeroValue9
 t20:=underlying20
 a20:=isAgg20
 z20:=sizeOf20
 v20:=zeroValue20
 t37:=underlying115
 a37:=isAgg115
 z37:=sizeOf115
 v37:=zeroValue115
 t46:=underlying225
 a46:=isAgg225
 z46:=sizeOf225
 v46:=zeroValue225
 t51:=underlying232
 a51:=isAgg232
 z51:=sizeOf232
 v51:=zeroValue232
 t53:=underlying209
 a53:=isAgg209
 z53:=sizeOf209
 v53:=zeroValue209
 t171:=underlying214
 a171:=isAgg214
 z171:=sizeOf214
 v171:=zeroValue214
 t173:=underlying217
 a173:=isAgg217
 z173:=sizeOf217
 v173:=zeroValue217
 t212:=underlying231
 a212:=isAgg231
 z212:=sizeOf231
 v212:=zeroValue231
 t213:=underlying233
 a213:=isAgg233
 z213:=sizeOf233
 t232:=underlying260
 a232:=isAgg260
 z232:=sizeOf260
 v232:=zeroValue260
 t233:=underlying261
 a233:=isAgg261
 z233:=sizeOf261
 v233:=zeroValue261
 g17:=by kernel_rfl
 g18:=by kernel_rfl
 g19:=by kernel_rfl
 i0:=by kernel_rfl
 i2:=by kernel_rfl
 i3:=by kernel_rfl
 i4:=by kernel_rfl
 i5:=by kernel_rfl
 i9:=by kernel_rfl
 i20:=by kernel_rfl
 i37:=by kernel_rfl
 i46:=by kernel_rfl
 i51:=by kernel_rfl
 i53:=by kernel_rfl
 i171:=by kernel_rfl
 i173:=by kernel_rfl
 i212:=by kernel_rfl
 i232:=by kernel_rfl
 i233:=by kernel_rfl
 m17:=by kernel_rfl
 m18:=by kernel_rfl
 m19:=by kernel_rfl}
open Go.RowKit Go.Sort Go.Lib in
theorem strconv_Itoa (n : Int) (h0 : -9223372036854775808 ≤ n) (h1 : n ≤ 9223372036854775807) (w : World) (htab : Lib.TabIs prog w "internal/strconv.uint64pow10" .u64 Lib.pow10Tab) :
 Calls prog 140 #[.int .i64 n] w λe w'=>e= .returned (.string ⟨(Lib.itoa n).toArray⟩)/\∃k os,w'=grow (w.drewN k) os:=Any.strconv_Itoa laysM171 n h0 h1 w htab
def laysM173_ren:Go.Shelf.Ren:=⟨fun|173=>72|246=>121|283=>161|284=>162|285=>163|286=>164|129=>186|317=>185|318=>187|319=>188|320=>189|337=>206|338=>207|n=>n,fun|2=>2|3=>3|9=>9|4=>4|171=>214|0=>0|53=>209|37=>115|5=>5|173=>217|212=>231|51=>232|20=>20|213=>233|46=>225|232=>260|233=>261|n=>n,fun|17=>0|18=>4|19=>5|n=>n⟩
theorem laysM173:Go.Proofs.LaysM.n173 prog laysM173_ren:={
 mixed:=by kernel_rfl
 f129:=func186.trans (Zo some (by kernel_rfl))
 f173:=func72.trans (Zo some (by kernel_rfl))
 f246:=func121.trans (Zo some (by kernel_rfl))
 f283:=func161.trans (Zo some (by kernel_rfl))
 f284:=func162.trans (Zo some (by kernel_rfl))
 f285:=func163.trans (Zo some (by kernel_rfl))
 f286:=func164.trans (Zo some (by kernel_rfl))
 f317:=func185.trans (Zo some (by kernel_rfl))
 f318:=func187.trans (Zo some (by kernel_rfl))
 f319:=func188.trans (Zo some (by kernel_rfl))
 f320:=func189.trans (Zo some (by kernel_rfl))
 f337:=func206.trans (Zo some (by kernel_rfl))
 f338:=func207.trans (Zo some (by kernel_rfl))
 t0:=underlying0
 a0:=isAgg0
 z0:=sizeOf0
 v0:=zeroValue0
 t2:=underlying2
 a2:=isAgg2
 z2:=sizeOf2
 v2:=zeroValue2
 t3:=underlying3
 a3:=isAgg3
 z3:=sizeOf3
 v3:=zeroValue3
 t4:=underlying4
 a4:=isAgg4
 z4:=sizeOf4
 v4:=zeroValue4
 t5:=underlying5
 a5:=isAgg5
 z5:=sizeOf5
 v5:=zeroValue5
 t9:=underlying9
 a9:=isAgg9
 z9:=sizeOf9
 v9:=zeroValue9
 t20:=underlying20
 a20:=isAgg20
 z20:=sizeOf20
 v20:=zeroValue20
 t37:=underlying115
 a37:=isAgg115
 z37:=sizeOf115
 v37:=zeroValue115
 t46:=underlying225
 a46:=isAgg225
 z46:=sizeOf225
 v46:=zeroValue225
 t51:=underlying232
 a51:=isAgg232
 z51:=sizeOf232
 v51:=zeroValue232
 t53:=underlying209
 a53:=isAgg209
 z53:=sizeOf209
 v53:=zeroValue209
 t171:=underlying214
 a171:=isAgg214
 z171:=sizeOf214
 v171:=zeroValue214
 t173:=underlying217
 a173:=isAgg217
 z173:=sizeOf217
 v173:=zeroValue217
 t212:=underlying231
 a212:=isAgg231
 z212:=sizeOf231
 v212:=zeroValue231
 t213:=underlying233
 a213:=isAgg233
 z213:=sizeOf233
 t232:=underlying260
 a232:=isAgg260
 z232:=sizeOf260
 v232:=zeroValue260
 t233:=underlying261
 a233:=isAgg261
 z233:=sizeOf261
 v233:=zeroValue261
 g17:=by kernel_rfl
 g18:=by kernel_rfl
 g19:=by kernel_rfl
 i0:=by kernel_rfl
 i2:=by kernel_rfl
 i3:=by kernel_rfl
 i4:=by kernel_rfl
 i5:=by kernel_rfl
 i9:=by kernel_rfl
 i20:=by kernel_rfl
 i37:=by kernel_rfl
 i46:=by kernel_rfl
 i51:=by kernel_rfl
 i53:=by kernel_rfl
 i171:=by kernel_rfl
 i173:=by kernel_rfl
 i212:=by kernel_rfl
 i232:=by kernel_rfl
 i233:=by kernel_rfl
 m17:=by kernel_rfl
 m18:=by kernel_rfl
 m19:=by kernel_rfl}
open Go.RowKit Go.Sort Go.Lib in
theorem strconv_FormatInt_10 (n : Int) (h0 : -9223372036854775808 ≤ n) (h1 : n ≤ 9223372036854775807) (w : World) (htab : Lib.TabIs prog w "internal/strconv.uint64pow10" .u64 Lib.pow10Tab) :
 Calls prog 72 #[.int .i64 n,.int .i64 10] w λe w'=>e= .returned (.string ⟨(Lib.itoa n).toArray⟩)/\∃k os,w'=grow (w.drewN k) os:=Any.strconv_FormatInt_10 laysM173 n h0 h1 w htab
def lays197_ren:Go.Shelf.Ren:=⟨fun|197=>157|260=>184|n=>n,fun|9=>9|21=>21|3=>3|4=>4|5=>5|105=>171|119=>247|0=>0|46=>225|139=>250|138=>249|n=>n,fun|3=>1|4=>2|n=>n⟩
theorem lays197:Go.Proofs.Lays.n197 prog lays197_ren:={
 mixed:=by kernel_rfl
 f197:=func157.trans (Zo some (by kernel_rfl))
 f260:=func184.trans (Zo some (by kernel_rfl))
 t0:=underlying0
 a0:=isAgg0
 z0:=sizeOf0
 v0:=zeroValue0
 t3:=underlying3
 a3:=isAgg3
 z3:=sizeOf3
 v3:=zeroValue3
 t4:=underlying4
 a4:=isAgg4
 z4:=sizeOf4
 v4:=zeroValue4
 t5:=underlying5
 a5:=isAgg5
 z5:=sizeOf5
 v5:=zeroValue5
 t9:=underlying9
 a9:=isAgg9
 z9:=sizeOf9
 v9:=zeroValue9
 t21:=underlying21
 a21:=isAgg21
 z21:=sizeOf21
 v21:=zeroValue21
 t46:=underlying225
 a46:=isAgg225
 z46:=sizeOf225
 v46:=zeroValue225
 t105:=underlying171
 a105:=isAgg171
 z105:=sizeOf171
 v105:=zeroValue171
 t119:=underlying247
 a119:=isAgg247
 z119:=sizeOf247
 t138:=underlying249
 a138:=isAgg249
 z138:=sizeOf249
 v138:=zeroValue249
 t139:=underlying250
 a139:=isAgg250
 z139:=sizeOf250
 v139:=zeroValue250
 g3:=by kernel_rfl
 g4:=by kernel_rfl}
open Go.RowKit Go.Lib in
theorem utf8_DecodeRuneInString (s:ByteArray) (w:World) (h:Lib.Utf8Tabs 1 2 w):
 Calls prog 157 #[.string s] w λe w'=>e= .returned (.tuple #[.int .i32 (Lib.decodeGo s).1,.int .i64 (Lib.decodeGo s).2])/\Below w.heap.size w w':=Any.utf8_DecodeRuneInString lays197 s w h
def lays110_ren:Go.Shelf.Ren:=⟨fun|110=>75|109=>122|n=>n,fun|31=>29|9=>9|4=>4|3=>3|0=>0|n=>n,fun|n=>n⟩
theorem lays110:Go.Proofs.Lays.n110 prog lays110_ren:={
 mixed:=by kernel_rfl
 f109:=func122.trans (Zo some (by kernel_rfl))
 f110:=func75.trans (Zo some (by kernel_rfl))
 t0:=underlying0
 a0:=isAgg0
 z0:=sizeOf0
 v0:=zeroValue0
 t3:=underlying3
 a3:=isAgg3
 z3:=sizeOf3
 v3:=zeroValue3
 t4:=underlying4
 a4:=isAgg4
 z4:=sizeOf4
 v4:=zeroValue4
 t9:=underlying9
 a9:=isAgg9
 z9:=sizeOf9
 v9:=zeroValue9
 t31:=underlying29
 a31:=isAgg29
 z31:=sizeOf29
 v31:=zeroValue29}
open Go.Lib in
theorem slices_Contains_string (b h n c:Nat) (C:List ByteArray) (x:ByteArray) (w:World) (F:n<=C.length) (A:n<=9223372036854775807) (D:∀j,j<C.length->w.cell? ⟨b,h+j,none⟩=some (.string (C.getD j ByteArray.empty))):
 Calls prog 75 #[.slice (some ⟨b,h,none⟩) n c,.string x] w λe w'=>e= .returned (.bool (Lib.containsS (C.take n) x))/\w'=w:=Any.slices_Contains_string lays110 b h n c C x w F A D
open Go.Lib in
theorem slices_Contains_string_empty (a:Option Addr) (c:Nat) (x:ByteArray) (w:World):
 Calls prog 75 #[.slice a 0 c,.string x] w λe w'=>e= .returned (.bool false)/\w'=w:=Any.slices_Contains_string_empty lays110 a c x w
section
section
variable {P:Program} (w:World)
theorem Ie (base:Nat) (t F e:TypeId) (i:TypeInfo) (size:Nat) (C:P.underlying t=some (.slice e)) (A:P.info? e=some i)
 (v:Value) (n:Nat) (xs:List Value) (h:w.ownsRow base e size v n xs) (c:Nat):(Builtin.append_ #[t,t] F #[v,.slice none 0 c]).run P w= .ok v w:=by
 rcases h.2 with ⟨rfl,rfl⟩|⟨g,cap,D,rfl,_,_,j,_⟩
 ·simp[Builtin.append_,run_underlying C,sizeOf,typeInfo,A,Builtin.lenOf,Builtin.firstCells]
 ·simp[Builtin.append_,run_underlying C,sizeOf,typeInfo,A,Builtin.lenOf,Builtin.firstCells,j,storeCells]
theorem If (base:Nat) (t X e:TypeId) (i:TypeInfo) (z:Value) (size D:Nat) (ht:P.underlying t=some (.slice e)) (hi:P.info? e=some i) (hz:i.zero=some z)
 (O:i.size=size) (U:i.bytes=D) (V:z.cells.size=size) (R:0<size)
 (v:Value) (n:Nat) (xs:List Value) (G:w.ownsRow base e size v n xs)
 (u:Value) (m:Nat) (C:List Value) (hr:RSl w size u m C) (h1:∀y∈C,y.oneCell'=true)
 (S:n+m<=maxLen) (F:(n+m)*D<=140737488355328) (H:base<=w.heap.size):
 ∃v' w',(Builtin.append_ #[t,t] X #[v,u]).run P w= .ok v' w'/\w'.ownsRow base e size v' (n+m) (xs++C)/\w.grownBy w' v.ownBlock/\
  (v'.ownBlock=v.ownBlock\/v'.ownBlock=some w.heap.size):=by
 obtain ⟨J,A,c,rfl,hd,hb,hA,I⟩:=hr;rcases YP m with Y|Y
 ·subst Y;have hn:C= []:=ZI (by simpa using J);subst hn;cases A with
  |none=>exact ⟨v,w,Ie w base t X e i size ht hi v n xs G c,by simpa using G,World.grownBy.refl w _,.inl rfl⟩
  |some ad=>obtain ⟨v',w',K,Z,h3,_,h5⟩:=run_append_own_at (P:=P) w base t X e i z size D ht hi hz O U V R v n xs G ad 0 c [] (by simp) (λj u hu=>by simp at hu) h1 S F H;exact ⟨v',w',K,Z,h3,h5⟩
 ·have hl:0<C.length:=by rw[J];exact Nat.mul_pos Y R
  obtain ⟨ad,rfl,_⟩:=I 0 (C[0]) (Zc hl);have Q:∀j u,C[j]? =some u->w.cell? (ad.add j)=some u:=by intro j u hu;obtain ⟨ha,h,hc⟩:=I j u hu;injection h with h;subst h;exact hc
  obtain ⟨v',w',K,Z,h3,_,h5⟩:=run_append_own_at (P:=P) w base t X e i z size D ht hi hz O U V R v n xs G ad m c C J Q h1 S F H;exact ⟨v',w',K,Z,h3,h5⟩
theorem Qb {o:Oper} {a:Act} {K:Act->World->Prop} {Q:Exit->Act->World->Prop} (s x:Operand) (t:TypeId)
 (Z:o.op= .call {callee:= .builtin .append,args:=#[s,x],argTypes:=#[t,t]})
 (base:Nat) (e:TypeId) (i:TypeInfo) (z:Value) (size j:Nat) (ht:P.underlying t=some (.slice e)) (Y:P.info? e=some i) (hz:i.zero=some z)
 (F:i.size=size) (J:i.bytes=j) (R:z.cells.size=size) (O:0<size)
 (v:Value) (n:Nat) (xs:List Value) (hs:a.eval s=v) (G:w.ownsRow base e size v n xs)
 (u:Value) (m:Nat) (A:List Value) (hx:a.eval x=u) (hr:RSl w size u m A) (S:∀y∈A,y.oneCell'=true)
 (I:n+m<=maxLen) (C:(n+m)*j<=140737488355328) (D:base<=w.heap.size)
 (h:∀v' w',w'.ownsRow base e size v' (n+m) (xs++A)->w.grownBy w' v.ownBlock->(v'.ownBlock=v.ownBlock\/v'.ownBlock=some w.heap.size)->K (a.put o.dst v') w'):o.wp P a w K Q:=by
 obtain ⟨v',w',H,U,V,X⟩:=If (P:=P) w base t o.type e i z size j ht Y hz F J R O v n xs G u m A hr S I C D;unfold Oper.wp execOp;simp only[Z,resolve,invoke,builtin,Sem.run_bind,Sem.run_pure,Result.andThen_ok,List.map_toArray,Ym,Y6,hs,hx,H];exact h v' w' U V X
theorem Zq {ops:Array Oper} {rest:List Oper} {o:Oper} {a:Act} {Q:Exit->Act->World->Prop} (J:o.guard=none) (s x:Operand) (t:TypeId)
 (Y:o.op= .call {callee:= .builtin .append,args:=#[s,x],argTypes:=#[t,t]})
 (base:Nat) (e:TypeId) (i:TypeInfo) (z:Value) (size j:Nat) (ht:P.underlying t=some (.slice e)) (X:P.info? e=some i) (hz:i.zero=some z)
 (F:i.size=size) (I:i.bytes=j) (O:z.cells.size=size) (K:0<size)
 (v:Value) (n:Nat) (xs:List Value) (hs:a.eval s=v) (G:w.ownsRow base e size v n xs)
 (u:Value) (m:Nat) (A:List Value) (hx:a.eval x=u) (Z:RSl w size u m A) (R:∀y∈A,y.oneCell'=true)
 (H:n+m<=maxLen) (C:(n+m)*j<=140737488355328) (D:base<=w.heap.size)
 (h:∀v' w',w'.ownsRow base e size v' (n+m) (xs++A)->w.grownBy w' v.ownBlock->(v'.ownBlock=v.ownBlock\/v'.ownBlock=some w.heap.size)->wpList P ops Q rest (a.put o.dst v') w'):wpList P ops Q (o::rest) a w:=
 wpList_plain J λ_ hK=>Qb w s x t Y base e i z size j ht X hz F I O K v n xs hs G u m A hx Z R H C D λv' w' S U V=>hK _ _ (h v' w' S U V)
theorem Z5 {ops:Array Oper} {o:Oper} {a:Act} {K:Act->World->Prop} {Q:Exit->Act->World->Prop} {E:Prop} (J:o.guard=none) (s x:Operand) (t:TypeId)
 (V:o.op= .call {callee:= .builtin .append,args:=#[s,x],argTypes:=#[t,t]})
 (base:Nat) (e:TypeId) (i:TypeInfo) (z:Value) (size j:Nat) (Z:P.underlying t=some (.slice e)) (U:P.info? e=some i) (hz:i.zero=some z)
 (F:i.size=size) (I:i.bytes=j) (R:z.cells.size=size) (O:0<size)
 (v:Value) (n:Nat) (xs:List Value) (Y:a.eval s=v) (G:w.ownsRow base e size v n xs)
 (u:Value) (m:Nat) (A:List Value) (hx:a.eval x=u) (X:RSl w size u m A) (S:∀y∈A,y.oneCell'=true)
 (H:n+m<=maxLen) (C:(n+m)*j<=140737488355328) (D:base<=w.heap.size)
 (h:∀v' w',w'.ownsRow base e size v' (n+m) (xs++A)->w.grownBy w' v.ownBlock->(v'.ownBlock=v.ownBlock\/v'.ownBlock=some w.heap.size)->K (a.put o.dst v') w'):
 if Region.wanted o (yielded ops a.tmps)=true then Oper.wp P o a w K Q else E:=by
 have hw:Region.wanted o (yielded ops a.tmps)=true:=by simp[Region.wanted,J]
 rw[Zi hw];exact Qb w s x t V base e i z size j Z U hz F I R O v n xs Y G u m A hx X S H C D h
end
theorem Ext.app {a b c:World} {base n size:Nat} {e:TypeId} {v:Value} {xs:List Value} (h:Ext a b) (A:b.grownBy c v.ownBlock) (D:b.ownsRow base e size v n xs) (j:a.heap.size<=base):Ext a c:=
 Below.grown h A h.size λk C=>Zl j (D.lt k C).1
theorem ZY {w:World} {size n:Nat} {cs:List Value} {e:TypeId} (h:cs.length=n*size) (C:n<=maxLen):RSl (w.alloc (.cells cs.toArray e)) size (.slice (some ⟨w.heap.size,0,none⟩) n n) n cs:=by
 refine ⟨h,some ⟨w.heap.size,0,none⟩,n,rfl,Zd _,C,(λh=>by cases h),λj u D=>⟨_,rfl,?_⟩⟩;have A:(⟨w.heap.size,0,none⟩:Addr).add j=⟨w.heap.size,j,none⟩:=by unfold Addr.add;split<;>simp_all
 rw[A];rw[ZN (Zh w _)];simpa using D
theorem JC {w:World} {base size n:Nat} {cs:List Value} {e:TypeId} (j:base<=w.heap.size) (h:cs.length=n*size) (A:n<=maxLen):(w.alloc (.cells cs.toArray e)).ownsRow base e size (.slice (some ⟨w.heap.size,0,none⟩) n n) n cs:=
 ⟨h,.inr ⟨w.heap.size,n,cs.toArray,rfl,j,Zh w _,Zd _,A,by simpa using h,by rw[<-h];simp⟩⟩
theorem UI:(prog.info? 5).map (λi=>(i.zero,i.size,i.bytes))=some (some (.int .u8 0),1,1):=by kernel_rfl
end
end Go.Proofs.YthlnaldahkgjnaaGreatDoor
