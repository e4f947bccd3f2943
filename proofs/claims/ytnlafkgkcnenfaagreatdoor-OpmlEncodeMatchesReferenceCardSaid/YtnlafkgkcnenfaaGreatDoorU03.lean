/- Parts of the proof: contracts and plain laws. -/
import Derived.Test.YtnlafkgkcnenfaaGreatDoorU02
namespace Go.Proofs.YtnlafkgkcnenfaaGreatDoor
open Go Go.RowKit Go.WideMaps Go.Maps _root_.Go.Proofs.Tryz
set_option linter.unusedVariables false
set_option linter.unusedSimpArgs false
set_option maxRecDepth 100000
set_option maxHeartbeats 16000000
section
structure Ord (α κ:Type) where
 id:α->κ
 op:α->α->α
 lt:α->α->Bool
 op_id:∀a b,id a=id b->id (op a b)=id b
 irrefl:∀a,lt a a=false
 trans:∀a b c,lt a b=true->lt b c=true->lt a c=true
 total:∀a b,id a≠id b->lt a b=true\/lt b a=true
namespace Ord
section
variable {α κ:Type} (O:Ord α κ)
def ins:List α->α->List α
 | [],e=> [e]
 |x::t,e=>if O.lt e x then e::x::t else x::ins t e
def sorted (S:List α):Prop:=S.Pairwise λa b=>O.lt a b=true
theorem sorted_unique:∀(S T:List α),O.sorted S->O.sorted T->(∀x,x∈S↔x∈T)->S=T
 | [],T,_,_,h=>by
  cases T with
  |nil=>rfl
  |cons b u=>exact absurd ((h b).2 (by simp)) (by simp)
 |a::t,[],_,_,h=>absurd ((h a).1 (by simp)) (by simp)
 |a::t,b::u,hS,hT,h=>by
  have A:=XH.1 hS
  have D:=XH.1 hT
  have J:a=b:=by
   have F:=(h a).1 (by simp)
   have H:=(h b).2 (by simp)
   rcases ZH.1 F with F|F
   ·exact F
   ·rcases ZH.1 H with H|H
    ·exact H.symm
    ·have:=O.trans a b a (A.1 b H) (D.1 a F)
     rw[O.irrefl] at this
     cases this
  subst J
  refine Zz (a:: ·) (sorted_unique t u A.2 D.2 λx=>⟨λI=> ?_,λI=> ?_⟩)
  ·rcases ZH.1 ((h x).1 (by simp[I])) with e|e
   ·subst e;have:=A.1 x I;rw[O.irrefl] at this;cases this
   ·exact e
  ·rcases ZH.1 ((h x).2 (by simp[I])) with e|e
   ·subst e;have:=D.1 x I;rw[O.irrefl] at this;cases this
   ·exact e
theorem foldl_id:∀(t:List α) (x:α),(∀y∈t,O.id y=O.id x)->O.id (t.foldl O.op x)=O.id x
 | [],_,_=>rfl
 |y::t,x,h=>by
  have A:=h y (by simp)
  have e:O.id (O.op x y)=O.id x:=by rw[O.op_id x y A.symm,A]
  show O.id (t.foldl O.op (O.op x y))=_
  rw[foldl_id t (O.op x y) (λz D=>by rw[e];exact h z (by simp[D])),e]
theorem mem_ins:∀(l:List α) (e x:α),x∈O.ins l e↔x=e\/x∈l
 | [],e,x=>by simp[ins]
 |y::t,e,x=>by
  unfold ins
  split
  ·simp
  ·simp only[ZH,mem_ins t e x]
   constructor
   ·rintro (h|h|h)<;>simp[h]
   ·rintro (h|h|h)<;>simp[h]
theorem ins_sorted:∀(l:List α) (e:α),O.sorted l->(∀x∈l,O.id x≠O.id e)->O.sorted (O.ins l e)
 | [],e,_,_=>by simp[ins,sorted]
 |y::t,e,hs,h=>by
  have F:=XH.1 hs
  unfold ins
  split
  ·rename_i D
   refine XH.2 ⟨λx H=> ?_,hs⟩
   rcases ZH.1 H with A|A
   ·rw[A];exact D
   ·exact O.trans _ _ _ D (F.1 x A)
  ·rename_i D
   have J:O.lt y e=true:=by
    rcases O.total e y (λA=>h y (by simp) A.symm) with I|I
    ·exact absurd I D
    ·exact I
   refine XH.2 ⟨λx H=> ?_,ins_sorted t e F.2 λx H=>h x (by simp[H])⟩
   rcases (O.mem_ins t e x).1 H with A|A
   ·rw[A];exact J
   ·exact F.1 x A
end
variable {α κ:Type} [DecidableEq κ] (O:Ord α κ)
def scan:List α->α->List α×α
 | [],e=>([],e)
 |x::t,e=>if O.id x=O.id e then scan t (O.op x e) else (x::(scan t e).1,(scan t e).2)
def put (l:List α) (e:α):List α:=O.ins (O.scan l e).1 (O.scan l e).2
def canon (l:List α):List α:=l.foldl O.put []
def fold1:List α->Option α
 | []=>none
 |x::t=>some (t.foldl O.op x)
def got (l:List α) (k:κ):Option α:=O.fold1 (l.filter λx=>O.id x=k)
def firsts (l:List α):List κ:=l.foldl (λacc x=>if O.id x∈acc then acc else acc++ [O.id x]) []
theorem got_id {l:List α} {k:κ} {x:α} (h:O.got l k=some x):O.id x=k:=by
 unfold got at h;generalize F:(l.filter λx=>O.id x=k)=g at h;cases g with
 |nil=>cases h
 |cons y t=>
  have A:∀z∈y::t,O.id z=k:=by intro z D;rw[<-F] at D;simpa using (YW.1 D).2
  simp only[fold1,Y5] at h;rw[<-h,O.foldl_id t y (λz D=>by rw[A z (by simp[D]),A y (by simp)]),A y (by simp)]
theorem got_nil (k:κ):O.got [] k=none:=rfl
theorem got_snoc (l:List α) (e:α) (k:κ):O.got (l++ [e]) k=if O.id e=k then (match O.got l k with|none=>some e|some y=>some (O.op y e)) else O.got l k:=by
 unfold got;rw[List.filter_append];by_cases h:O.id e=k
 ·rw[Zi h];have: [e].filter (λx=>decide (O.id x=k))= [e]:=by simp[h]
  rw[this];cases l.filter λx=>O.id x=k with
  |nil=>rfl
  |cons y t=>simp[fold1,List.foldl_append]
 ·rw[Ze h];have: [e].filter (λx=>decide (O.id x=k))= []:=by simp[h]
  rw[this,ZV]
theorem scan_fst:∀(l:List α) (e:α),(O.scan l e).1=l.filter λx=> !decide (O.id x=O.id e)
 | [],_=>rfl
 |x::t,e=>by
  unfold scan
  by_cases h:O.id x=O.id e
  ·rw[Zi h,scan_fst t (O.op x e),O.op_id x e h]
   simp[h]
  ·rw[Ze h]
   simp[h,scan_fst t e]
theorem scan_none:∀(l:List α) (e:α),(∀x∈l,O.id x≠O.id e)->(O.scan l e).2=e
 | [],_,_=>rfl
 |x::t,e,h=>by
  unfold scan
  rw[Ze (h x (by simp))]
  exact scan_none t e λy A=>h y (by simp[A])
theorem scan_one:∀(l:List α) (e y:α),y∈l->O.id y=O.id e->l.Pairwise (λa b=>O.id a≠O.id b)->(O.scan l e).2=O.op y e
 | [],_,_,h,_,_=>by simp at h
 |x::t,e,y,hy,hid,hp=>by
  have D:=XH.1 hp
  unfold scan
  by_cases h:O.id x=O.id e
  ·have F:x=y:=by
    rcases ZH.1 hy with A|A
    ·exact A.symm
    ·exact absurd (h.trans hid.symm) (D.1 y A)
   subst F
   rw[Zi h]
   exact O.scan_none t _ λz I=>by rw[O.op_id x e h,<-h];exact (D.1 z I).symm
  ·rw[Ze h]
   have H:y∈t:=by
    rcases ZH.1 hy with A|A
    ·subst A;exact absurd hid h
    ·exact A
   exact scan_one t e y H hid D.2
def IsCanon (l S:List α):Prop:=O.sorted S/\∀x,x∈S↔O.got l (O.id x)=some x
theorem IsCanon.unique {l S T:List α} (h:O.IsCanon l S) (k:O.IsCanon l T):S=T:=
 O.sorted_unique S T h.1 k.1 λx=>(h.2 x).trans (k.2 x).symm
theorem IsCanon.ids {l S:List α} (h:O.IsCanon l S):S.Pairwise λa b=>O.id a≠O.id b:=by
 refine h.1.imp_of_mem λ{a b} H I A e=> ?_;have D:=(h.2 a).1 H;have F:=(h.2 b).1 I;rw[e,F] at D;injection D with D;rw[D,O.irrefl] at A;cases A
theorem IsCanon.put {l S:List α} (h:O.IsCanon l S) (e:α):O.IsCanon (l++ [e]) (O.put S e):=by
 have H:=h.ids;have A:O.id (O.scan S e).2=O.id e/\O.got (l++ [e]) (O.id e)=some (O.scan S e).2:=by
  rw[got_snoc,Zi rfl];cases hg:O.got l (O.id e) with
  |none=>have:(O.scan S e).2=e:=O.scan_none S e λx F K=>(by have:=(h.2 x).1 F;rw[K,hg] at this;cases this);rw[this];exact ⟨rfl,rfl⟩
  |some y=>have Q:O.id y=O.id e:=O.got_id hg;have R:y∈S:=(h.2 y).2 (by rw[Q];exact hg);rw[O.scan_one S e y R Q H];exact ⟨O.op_id y e Q,rfl⟩
 have J:∀x∈(O.scan S e).1,O.id x≠O.id (O.scan S e).2:=by intro x F;rw[scan_fst] at F;rw[A.1];simpa using (YW.1 F).2
 refine ⟨O.ins_sorted _ _ ?_ J,λx=> ?_⟩
 ·rw[scan_fst];exact h.1.filter _
 ·unfold Ord.put;rw[mem_ins,scan_fst,YW,h.2 x];by_cases F:O.id x=O.id e
  ·constructor
   ·rintro (rfl|⟨_,D⟩)
    ·rw[A.1];exact A.2
    ·simp[F] at D
   ·intro D;rw[F,A.2] at D;injection D with D;exact Or.inl D.symm
  ·have I:O.got (l++ [e]) (O.id x)=O.got l (O.id x):=(by rw[got_snoc,Ze (λI=>F I.symm)]);rw[I];constructor
   ·rintro (rfl|⟨D,_⟩)
    ·exact absurd A.1 F
    ·exact D
   ·intro D;exact Or.inr ⟨D,by simp[F]⟩
theorem IsCanon.foldl:∀(t l S:List α),O.IsCanon l S->O.IsCanon (l++t) (t.foldl O.put S)
 | [],l,S,h=>by simpa using h
 |e::t,l,S,h=>by
  have:=foldl t (l++ [e]) (O.put S e) (h.put O e)
  simpa using this
theorem isCanon_nil:O.IsCanon [] []:=⟨List.Pairwise.nil,λx=>by simp[got_nil]⟩
theorem canon_is (l:List α):O.IsCanon l (O.canon l):=by
 have h:=IsCanon.foldl O l [] [] O.isCanon_nil;rw[Z7] at h;exact h
theorem canon_append (l t:List α):O.canon (l++t)=t.foldl O.put (O.canon l):=by unfold canon;rw[List.foldl_append]
theorem firsts_snoc (l:List α) (e:α):O.firsts (l++ [e])=if O.id e∈O.firsts l then O.firsts l else O.firsts l++ [O.id e]:=by
 unfold firsts;rw[List.foldl_append];rfl
theorem mem_firsts (l:List α) (k:κ):k∈O.firsts l↔∃x∈l,O.id x=k:=by
 suffices h:∀(n:Nat) (l:List α),l.length=n->∀k,k∈O.firsts l↔∃x∈l,O.id x=k from h _ l rfl k
 intro n
 induction n with
 |zero=>intro l H k;rw[Zm H];simp[firsts]
 |succ n ih=>
  intro l H k;obtain ⟨l',e,rfl⟩:∃l' e,l=l'++ [e]:=by
   rcases List.eq_nil_or_concat l with h|⟨l',e,h⟩
   ·subst h;simp at H
   ·exact ⟨l',e,by simpa using h⟩
  have F:=ih l' (by simpa using H);rw[firsts_snoc];by_cases h:O.id e∈O.firsts l'
  ·rw[Zi h,F k];constructor
   ·rintro ⟨x,A,D⟩;exact ⟨x,by simp[A],D⟩
   ·rintro ⟨x,A,D⟩;rcases Zs.1 A with A|A
    ·exact ⟨x,A,D⟩
    ·simp at A;subst A;obtain ⟨y,J,I⟩:=(F (O.id x)).1 h;exact ⟨y,J,I.trans D⟩
  ·rw[Ze h,Zs,F k];constructor
   ·rintro (⟨x,A,D⟩|A)
    ·exact ⟨x,by simp[A],D⟩
    ·simp at A;exact ⟨e,by simp,A.symm⟩
   ·rintro ⟨x,A,D⟩;rcases Zs.1 A with A|A
    ·exact Or.inl ⟨x,A,D⟩
    ·simp at A;subst A;exact Or.inr (by simp[D])
theorem firsts_nodup (l:List α):(O.firsts l).Pairwise (· ≠ ·):=by
 suffices h:∀(n:Nat) (l:List α),l.length=n->(O.firsts l).Pairwise (· ≠ ·) from h _ l rfl
 intro n
 induction n with
 |zero=>intro l D;rw[Zm D];exact List.Pairwise.nil
 |succ n ih=>
  intro l D;obtain ⟨l',e,rfl⟩:∃l' e,l=l'++ [e]:=by
   rcases List.eq_nil_or_concat l with h|⟨l',e,h⟩
   ·subst h;simp at D
   ·exact ⟨l',e,by simpa using h⟩
  have A:=ih l' (by simpa using D);rw[firsts_snoc];split
  ·exact A
  ·rename_i h;rw[List.pairwise_append];exact ⟨A,by simp,λa H b F=>by simp at F;subst F;rintro rfl;exact h H⟩
def joined (l:List α):List α:=(O.firsts l).filterMap (O.got l)
theorem mem_joined (l:List α) (x:α):x∈O.joined l↔O.got l (O.id x)=some x:=by
 unfold joined;rw[List.mem_filterMap];constructor
 ·rintro ⟨k,_,h⟩;rw[O.got_id h];exact h
 ·intro h;refine ⟨O.id x,(O.mem_firsts l _).2 ?_,h⟩;unfold got at h;generalize A:(l.filter λy=>O.id y=O.id x)=g at h;cases g with
  |nil=>cases h
  |cons y t=>have:y∈l.filter λz=>decide (O.id z=O.id x):=(by rw[A];simp);have:=YW.1 this;exact ⟨y,this.1,by simpa using this.2⟩
theorem joined_ids (l:List α):(O.joined l).Pairwise λa b=>O.id a≠O.id b:=by
 unfold joined;rw[List.pairwise_filterMap];refine (O.firsts_nodup l).imp λ{a b} h x A y D=> ?_;rw[O.got_id A,O.got_id D];exact h
theorem sorted_joined (l S:List α) (F:S.Perm (O.joined l)) (H:S.Pairwise λa b=>O.lt b a=false):S=O.canon l:=by
 refine IsCanon.unique O ⟨?_,λx=>by rw[F.mem_iff];exact O.mem_joined l x⟩ (O.canon_is l);have A:S.Pairwise λa b=>O.id a≠O.id b:=(O.joined_ids l).perm F.symm λh=>h.symm;refine (H.and A).imp λ{a b} h=> ?_;rcases O.total a b h.2 with D|D
 ·exact D
 ·rw[h.1] at D;cases D
theorem got_of_mem {S:List α} (h:S.Pairwise λa b=>O.id a≠O.id b) {x:α} (D:x∈S):O.got S (O.id x)=some x:=by
 have:(S.filter λy=>decide (O.id y=O.id x))= [x]:=by
  induction S with
  |nil=>simp at D
  |cons y t ih=>
   have A:=XH.1 h;rcases ZH.1 D with e|e
   ·subst e;rw[List.filter_cons_of_pos (by simp),List.filter_eq_nil_iff.2];intro z F;simpa using (A.1 z F).symm
   ·rw[List.filter_cons_of_neg (by simpa using A.1 x e)];exact ih A.2 e
 unfold got;rw[this];rfl
theorem canon_self {S:List α} (I:O.sorted S) (H:S.Pairwise λa b=>O.id a≠O.id b):O.canon S=S:=by
 refine IsCanon.unique O (O.canon_is S) ⟨I,λx=>⟨O.got_of_mem H,λh=> ?_⟩⟩;have:x∈O.joined S:=(O.mem_joined S x).2 h;unfold got at h;generalize F:(S.filter λy=>O.id y=O.id x)=g at h;cases g with
 |nil=>cases h
 |cons y t=>
  have A:=YW.1 (show y∈S.filter λz=>decide (O.id z=O.id x) by rw[F];simp);have D:O.id y=O.id x:=by simpa using A.2
  have:=O.got_of_mem H A.1;unfold got at this;rw[D,F,h] at this;injection this with this;rw[this];exact A.1
theorem canon_canon (l:List α):O.canon (O.canon l)=O.canon l:=O.canon_self (O.canon_is l).1 ((O.canon_is l).ids)
end Ord
end
section
namespace Ord
section
variable {α κ:Type} (O:Ord α κ)
structure Semi (G:α->Prop):Prop where
 good:∀a b,O.id a=O.id b->G a->G b->G (O.op a b)
 comm:∀a b,O.id a=O.id b->G a->G b->O.op a b=O.op b a
 assoc:∀a b c,O.id a=O.id b->O.id b=O.id c->G a->G b->G c->O.op (O.op a b) c=O.op a (O.op b c)
 idem:∀a,G a->O.op a a=a
variable {O}
variable {G:α→Prop}
def UB (O:Ord α κ) (G:α->Prop) (l:List α) (k:κ) (u:α):Prop:=G u/\O.id u=k/\∀x∈l,O.id x=k->O.op x u=u
theorem Semi.le_trans (S:O.Semi G) {a b c:α} (h:O.id a=O.id b) (k:O.id b=O.id c) (F:G a) (H:G b) (hc:G c) (A:O.op a b=b) (D:O.op b c=c):O.op a c=c:=by
 rw[<-D,<-S.assoc a b c h k F H hc,A]
end
variable {α κ:Type} [DecidableEq κ] {O:Ord α κ} {G:α→Prop}
theorem got_none_iff (l:List α) (k:κ):O.got l k=none↔∀x∈l,O.id x≠k:=by
 unfold Ord.got;generalize A:(l.filter λx=>O.id x=k)=g;cases g with
 |nil=>simp only[fold1,true_iff];intro x D e;have:x∈l.filter λx=>decide (O.id x=k):=YW.2 ⟨D,by simpa using e⟩;rw[A] at this;cases this
 |cons y t=>
  simp only[fold1];constructor
  ·intro h;cases h
  ·intro h;have:=YW.1 (show y∈l.filter λx=>decide (O.id x=k) by rw[A];simp);exact absurd (by simpa using this.2) (h y this.1)
theorem got_isSome_iff (l:List α) (k:κ):(∃s,O.got l k=some s)↔∃x∈l,O.id x=k:=by
 rw[<-Option.isSome_iff_exists,<-Option.ne_none_iff_isSome,Ne,got_none_iff];simp
end Ord
end
section
structure Ent where
 id:ByteArray
 title:ByteArray
 link:ByteArray
 content:ByteArray
 upd:Int
 deriving DecidableEq
structure Fd where
 path:List ByteArray
 id:ByteArray
 title:ByteArray
 link:ByteArray
 upd:Int
 ents:List Ent
 deriving DecidableEq
def eCells (e:Ent):List Value:= [.string e.id,.string e.title,.string e.link,.string e.content,nI e.upd]
def entJ (e:Ent):JV:= .arr [.str e.id,.str e.title,.str e.link,.str e.content,.int e.upd]
def feedJ (f:Fd):JV:= .arr [.arr (f.path.map .str),.str f.id,.str f.title,.str f.link,.int f.upd]
def entryKey (e:Ent):ByteArray:=(jwrite (entJ e)).1
def feedKey (f:Fd):ByteArray:=(jwrite (feedJ f)).1
def sCmp (x y:ByteArray):Int:=if Op.bytesLess x.toList y.toList then -1 else if x.toList=y.toList then 0 else 1
def iCmp (x y:Int):Int:=if x<y then -1 else if y<x then 1 else 0
def pathCmp:List ByteArray->List ByteArray->Int
 | [],[]=>0
 | [],_::_=> -1
 |_::_,[]=>1
 |a::x,b::y=>if sCmp a b=0 then pathCmp x y else sCmp a b
def entCmp (a b:Ent):Int:=if iCmp b.upd a.upd=0 then sCmp a.id b.id else iCmp b.upd a.upd
def feedCmp (a b:Fd):Int:=if pathCmp a.path b.path=0 then sCmp a.id b.id else pathCmp a.path b.path
theorem Qd:∀x:List UInt8,Op.bytesLess x x=false
 | []=>rfl
 |a::x=>by simp[Op.bytesLess,Qd x]
theorem ZjI (a b:UInt8) (x y:List UInt8):Op.bytesLess (a::x) (b::y)=true↔a<b\/(a=b/\Op.bytesLess x y=true):=by simp[Op.bytesLess]
theorem ZbJ:∀x y z:List UInt8,Op.bytesLess x y=true->Op.bytesLess y z=true->Op.bytesLess x z=true
 | [],y,[],_,h=>by cases y<;>simp[Op.bytesLess] at h
 | [],_,_::_,_,_=>rfl
 |_::_,[],_,h,_=>by simp[Op.bytesLess] at h
 |_::_,_::_,[],_,h=>by simp[Op.bytesLess] at h
 |a::x,b::y,c::z,h,k=>by
  rw[ZjI] at h k|-
  rcases h with h|⟨rfl,h⟩<;>rcases k with k|⟨rfl,k⟩
  ·exact Or.inl (UInt8.lt_trans h k)
  ·exact Or.inl h
  ·exact Or.inl k
  ·exact Or.inr ⟨rfl,ZbJ x y z h k⟩
theorem Zf3:∀x y:List UInt8,Op.bytesLess x y=false->Op.bytesLess y x=false->x=y
 | [],[],_,_=>rfl
 | [],_::_,h,_=>by simp[Op.bytesLess] at h
 |_::_,[],_,h=>by simp[Op.bytesLess] at h
 |a::x,b::y,h,k=>by
  rw[Yv,Ne,ZjI] at h k
  have A:a=b:=by
   rcases Classical.em (a=b) with e|e
   ·exact e
   ·rcases UInt8.lt_or_lt_of_ne e with e|e
    ·exact absurd (Or.inl e) h
    ·exact absurd (Or.inl e) k
  subst A
  refine Zz (a:: ·) (Zf3 x y ?_ ?_)
  ·rw[Yv];exact λe=>h (Or.inr ⟨rfl,e⟩)
  ·rw[Yv];exact λe=>k (Or.inr ⟨rfl,e⟩)
structure IsCmp {α:Type} (c:α->α->Int):Prop where
 anti:∀a b,c b a= - c a b
 trans:∀a b d,c a b<=0->c b d<=0->c a d<=0
namespace IsCmp
variable {α:Type} {c:α→α→Int} (h:IsCmp c)
include h
theorem self (a:α):c a a=0:=by have:=h.anti a a;omega
theorem lt_trans (a b d:α) (A:c a b<0) (D:c b d<0):c a d<0:=by
 have F:=h.trans a b d om om;rcases Classical.em (c a d=0) with e|e
 ·have H:=h.trans d a b (by have:=h.anti a d;omega) om;have:=h.anti b d;omega
 ·omega
theorem zero_left (a b d:α) (D:c a b=0):c a d<=0↔c b d<=0:=
 ⟨λA=>h.trans b a d (by have:=h.anti a b;omega) A,λA=>h.trans a b d om A⟩
theorem zero_right (a b d:α) (D:c b d=0):c a b<=0↔c a d<=0:=
 ⟨λA=>h.trans a b d A om,λA=>h.trans a d b A (by have:=h.anti b d;omega)⟩
end IsCmp
theorem IsCmp.lex {α:Type} {c d:α->α->Int} (hc:IsCmp c) (F:IsCmp d):IsCmp λa b=>if c a b=0 then d a b else c a b where
 anti a b:=by
  have D:=hc.anti a b;have A:=F.anti a b;by_cases h:c a b=0
  ·simp only[h,Us,show c b a=0 by omega];exact A
  ·simp only[Ze h,Ze (show ¬c b a=0 by omega)];exact D
 trans a b e D A:=by
  by_cases h:c a b=0
  ·rw[Zi h] at D;have H:=hc.zero_left a b e h;have I:=hc.zero_left b a e (by have:=hc.anti a b;omega);by_cases k:c b e=0
   ·rw[Zi k] at A;have:c a e=0:=(by have e1:=H.2 om;have:=hc.trans e b a (by have:=hc.anti b e;omega) (by have:=hc.anti a b;omega);have:=hc.anti a e;omega);rw[Zi this];exact F.trans a b e D A
   ·rw[Ze k] at A;by_cases g:c a e=0
    ·have:=(hc.zero_right b a e g);have e1:=hc.trans e a b (by have:=hc.anti a e;omega) om;have:=hc.anti b e;omega
    ·rw[Ze g];exact H.2 A
  ·rw[Ze h] at D;by_cases k:c b e=0
   ·rw[Zi k] at A;by_cases g:c a e=0
    ·have e1:=hc.trans b e a om (by have:=hc.anti a e;omega);have:=hc.anti a b;omega
    ·rw[Ze g];exact (hc.zero_right a b e k).1 D
   ·rw[Ze k] at A;have:=hc.lt_trans a b e om om;rw[Ze om];omega
theorem Zfk:IsCmp iCmp where
 anti a b:=by unfold iCmp;split<;>split<;>(try split)<;>omega
 trans a b d h1 h2:=by
  unfold iCmp at*
  repeat' split at h1
  all_goals (repeat' split at h2)
  all_goals (repeat' split)
  all_goals omega
theorem ZhK (a b:ByteArray):sCmp a b<0↔Op.bytesLess a.toList b.toList=true:=by
 unfold sCmp;split
 ·rename_i h;simp[h]
 ·rename_i h;split<;>simp_all
theorem JC (a b:ByteArray):sCmp a b=0↔a.toList=b.toList:=by
 unfold sCmp;split
 ·rename_i h;constructor
  ·intro A;cases A
  ·intro A;rw[A,Qd] at h;cases h
 ·split<;>simp_all
theorem UI:IsCmp sCmp where
 anti a b:=by
  unfold sCmp;by_cases h:Op.bytesLess a.toList b.toList=true
  ·have I:¬Op.bytesLess b.toList a.toList=true:=λk=>(by have:=ZbJ _ _ _ h k;rw[Qd] at this;cases this);have A:¬b.toList=a.toList:=λe=>(by rw[e,Qd] at h;cases h);rw[Zi h,Ze I,Ze A];rfl
  ·by_cases k:Op.bytesLess b.toList a.toList=true
   ·have A:¬a.toList=b.toList:=λe=>(by rw[e,Qd] at k;cases k);rw[Zi k,Ze h,Ze A]
   ·have e:=Zf3 a.toList b.toList (by simpa using h) (by simpa using k);rw[Ze h,Ze k,Zi e,Zi e.symm];rfl
 trans a b d D F:=by
  have H:∀x y:ByteArray,sCmp x y<=0↔Op.bytesLess x.toList y.toList=true\/x.toList=y.toList:=by intro x y;rw[<-ZhK,<-JC];omega
  rw[H] at*;rcases D with D|D
  ·rcases F with F|F
   ·exact Or.inl (ZbJ _ _ _ D F)
   ·rw[<-F];exact Or.inl D
  ·rw[D];exact F
theorem IsCmp.comap {α β:Type} {c:β->β->Int} (h:IsCmp c) (f:α->β):IsCmp λa b=>c (f a) (f b):=⟨λa b=>h.anti _ _,λa b d=>h.trans _ _ _⟩
theorem IsCmp.swap {α:Type} {c:α->α->Int} (h:IsCmp c):IsCmp λa b=>c b a:=⟨λa b=>h.anti _ _,λa b d A D=>h.trans _ _ _ D A⟩
theorem IX:∀a b,pathCmp b a= - pathCmp a b
 | [],[]=>rfl
 | [],_::_=>rfl
 |_::_,[]=>rfl
 |a::x,b::y=>by
  have A:=UI.anti a b
  unfold pathCmp
  by_cases h:sCmp a b=0
  ·rw[Zi h,Zi om];exact IX x y
  ·rw[Ze h,Ze om];exact A
theorem Kq:∀a b d,pathCmp a b<=0->pathCmp b d<=0->pathCmp a d<=0
 | [],_,[],_,_=>by simp[pathCmp]
 | [],_,_::_,_,_=>by simp[pathCmp]
 |_::_,[],_,h,_=>by simp[pathCmp] at h
 |_::_,_::_,[],_,h=>by simp[pathCmp] at h
 |a::x,b::y,d::z,h,k=>by
  unfold pathCmp at h k|-
  by_cases e1:sCmp a b=0
  ·rw[Zi e1] at h
   have D:a.toList=b.toList:=(JC a b).1 e1
   by_cases e2:sCmp b d=0
   ·rw[Zi e2] at k
    have A:b.toList=d.toList:=(JC b d).1 e2
    rw[Zi ((JC a d).2 (D.trans A))]
    exact Kq x y z h k
   ·rw[Ze e2] at k
    have e3:sCmp a d≠0:=λe=>e2 ((JC b d).2 (D.symm.trans ((JC a d).1 e)))
    rw[Ze e3]
    exact (UI.zero_left a b d e1).2 k
  ·rw[Ze e1] at h
   by_cases e2:sCmp b d=0
   ·rw[Zi e2] at k
    have A:b.toList=d.toList:=(JC b d).1 e2
    have e3:sCmp a d≠0:=λe=>e1 ((JC a b).2 (((JC a d).1 e).trans A.symm))
    rw[Ze e3]
    exact (UI.zero_right a b d e2).1 h
   ·rw[Ze e2] at k
    have:=UI.lt_trans a b d om om
    rw[Ze om];omega
theorem ZcE:IsCmp pathCmp:=⟨IX,Kq⟩
theorem toList_inj {a b:ByteArray} (h:a.toList=b.toList):a=b:=by
 rw[Jp,Jp] at h;cases a;cases b
 congr
 exact Array.toList_inj.1 h
theorem Kf {a b:ByteArray} (h:sCmp a b=0):a=b:=toList_inj ((JC a b).1 h)
theorem ZcD:∀{a b:List ByteArray},pathCmp a b=0->a=b
 | [],[],_=>rfl
 | [],_::_,h=>by simp[pathCmp] at h
 |_::_,[],h=>by simp[pathCmp] at h
 |a::x,b::y,h=>by
  unfold pathCmp at h
  by_cases e:sCmp a b=0
  ·rw[Zi e] at h;rw[Kf e,ZcD h]
  ·rw[Ze e] at h;exact absurd h e
theorem G4:IsCmp entCmp:=IsCmp.lex (α:=Ent) (c:=λa b=>iCmp b.upd a.upd) (d:=λa b=>sCmp a.id b.id) ((Zfk.comap λe:Ent=>e.upd).swap) (UI.comap λe:Ent=>e.id)
theorem QE:IsCmp feedCmp:=IsCmp.lex (α:=Fd) (c:=λa b=>pathCmp a.path b.path) (d:=λa b=>sCmp a.id b.id) (ZcE.comap λe:Fd=>e.path) (UI.comap λe:Fd=>e.id)
theorem ZkD {a b:Ent} (h:entCmp a b=0):a.id=b.id:=by
 unfold entCmp at h;split at h
 ·exact Kf h
 ·rename_i A;exact absurd h A
theorem ZiE {a b:Fd} (h:feedCmp a b=0):a.id=b.id:=by
 unfold feedCmp at h;split at h
 ·exact Kf h
 ·rename_i A;exact absurd h A
def laterB (c:Int) (ka kb:ByteArray):Bool:=decide (c<0)||(decide (c=0) && Op.bytesLess ka.toList kb.toList)
def laterE (a b:Ent):Ent:=if laterB (iCmp a.upd b.upd) (entryKey a) (entryKey b) then b else a
def laterF (a b:Fd):Fd:={(if laterB (iCmp a.upd b.upd) (feedKey a) (feedKey b) then b else a) with ents:= []}
def ltE (a b:Ent):Bool:=decide (entCmp a b<0)
def ltF (a b:Fd):Bool:=decide (feedCmp a b<0)
theorem Zk9 (a b:Ent) (h:a.id=b.id):(laterE a b).id=b.id:=by unfold laterE;split<;>simp[h]
theorem Zla (a b:Fd) (h:a.id=b.id):(laterF a b).id=b.id:=by unfold laterF;simp only[];split<;>simp[h]
def ordE:Ord Ent ByteArray where
 id:=Ent.id
 op:=laterE
 lt:=ltE
 op_id:=Zk9
 irrefl a:=by simp[ltE,G4.self]
 trans a b c h1 h2:=by simp only[ltE,ZT] at*;exact G4.lt_trans a b c h1 h2
 total a b h:=by
  simp only[ltE,ZT]
  have h1:=G4.anti a b
  have h2:entCmp a b≠0:=λe=>h (ZkD e)
  omega
def joinF (g f:Fd):Fd:={laterF g f with ents:=f.ents.foldl ordE.put g.ents}
def ordF:Ord Fd ByteArray where
 id:=Fd.id
 op:=joinF
 lt:=ltF
 op_id a b h:=Zla a b h
 irrefl a:=by simp[ltF,QE.self]
 trans a b c h1 h2:=by simp only[ltF,ZT] at*;exact QE.lt_trans a b c h1 h2
 total a b h:=by
  simp only[ltF,ZT]
  have h1:=QE.anti a b
  have h2:feedCmp a b≠0:=λe=>h (ZiE e)
  omega
end
section
def eok (e:Ent):Prop:=i64ok e.upd/\e.id.size+e.title.size+e.link.size+e.content.size<=16777216
attribute [local go_sem ↓] Go.wp_at_zero Go.wp_at_succ
end
section
theorem KN (x y:Int) (w:Wq):
 Calls prog 152 #[nI x,nI y] w λe w'=>e= .returned (nI (if x<y then -1 else if y<x then 1 else 0))/\w'=w:=by
 go_enter func152,ntmps152;go_wp2
 all_goals go_ret
 all_goals exact ⟨by simp_all,rfl⟩
theorem Qu (x y:ByteArray) (w:Wq):
 Calls prog 119 #[.string x,.string y] w λe w'=>e= .returned (nI (sCmp x y))/\w'=w:=by
 unfold sCmp;go_enter func119,ntmps119;go_wp2
 all_goals go_ret
 all_goals exact ⟨by simp_all,rfl⟩
theorem Ep (x y:Int) (v:Value) (w:Wq) (h:RSl w 1 v 2 [nI x,nI y]):
 Calls prog 117 #[v] w λe w'=>e= .returned (nI (if x=0 then y else x))/\w'=w:=by
 obtain ⟨_,A,c,rfl,U,S,_,_⟩:=id h;obtain ⟨ad,rfl,Q⟩:=h.at1 0 _ rfl;obtain ⟨J,K,H⟩:=h.at1 1 _ rfl;cases K;rw[add_zero] at Q;have R:w.cell? ⟨ad.block,ad.off+1,none⟩=some (nI y):=H;clear H;by_cases F:x=0
 ·subst F;have D:(if (0:Int)=0 then y else 0)=y:=rfl;rw[D];by_cases I:y=0
  ·subst I;go_enter func117,ntmps117;go_wp2;refine Jo 3 ?_;rw[rounds_succ];go_wp2;rw[rounds_succ];go_wp2;rw[rounds_succ];go_wp2
   all_goals go_ret
   all_goals exact ⟨rfl,rfl⟩
  ·have X:(y==0)=false:=(by simpa using I);go_enter func117,ntmps117;go_wp2;refine Jo 2 ?_;rw[rounds_succ];go_wp2;rw[rounds_succ];go_wp2
   all_goals go_ret
   all_goals exact ⟨rfl,rfl⟩
 ·have V:(x==0)=false:=by simpa using F
  rw[Ze F];go_enter func117,ntmps117;go_wp2;refine Jo 1 ?_;rw[rounds_succ];go_wp2
  all_goals go_ret
  all_goals exact ⟨rfl,rfl⟩
attribute [local go_sem ↓] Go.wp_at_zero Go.wp_at_succ
theorem KO (a b:Ent) (w:Wq):
 Calls prog 114 #[.agg (eCells a).toArray,.agg (eCells b).toArray] w λx w'=>x= .returned (nI (entCmp a b))/\Ext w w':=by
 obtain ⟨H,S,V,Q,A⟩:=a;obtain ⟨I,U,X,R,D⟩:=b;unfold entCmp;obtain ⟨ci,J⟩:∃ci,iCmp D A=ci:=⟨_,rfl⟩;obtain ⟨cs,K⟩:∃cs,sCmp H I=cs:=⟨_,rfl⟩;simp only[J,K];have Y:=gd (λw'=>KN D A w');have HS:=gd (λw'=>Qu H I w');rw[K] at HS;rw[show (if D<A then (-1:Int) else if A<D then 1 else 0)=ci from J] at Y;have Z:=gd (λv w' h=>Ep ci cs v w' h);obtain ⟨res,F⟩:∃res,(if ci=0 then cs else ci)=res:=⟨_,rfl⟩;rw[F] at Z;rw[F];clear J K F;unfold eCells;go_enter func114,ntmps114;go_wp2
 go_region_held3 (λw'=>Ext w w'/\w'.cell? ⟨w.heap.size,0,none⟩=some (.string H)/\w'.cell? ⟨w.heap.size,4,none⟩=some (nI A)/\w'.cell? ⟨w.heap.size+1,0,none⟩=some (.string I)/\w'.cell? ⟨w.heap.size+1,4,none⟩=some (nI D))
  ((go_split_ands;refine ⟨?_,?_,?_,?_,?_⟩<;>first|assumption|((repeat (first|exact Ext.refl _|assumption|apply Ext.drew|apply Ext.alloc));done)|((refine Ext.trans ?_ (by assumption));(repeat (first|exact Ext.refl _|assumption|apply Ext.drew|apply Ext.alloc));done)|((refine Ext.cell (by assumption) ?_);first|assumption|(go_keep;done))|(go_keep;done)))
  (first|(go_at_call 152;refine (Y.out _).mono ?_;rintro e w1 ⟨rfl,rfl⟩)|(go_at_call 119;refine (HS.out _).mono ?_;rintro e w2 ⟨rfl,rfl⟩)|(go_at_call 117;refine (Z.out _ _ (Jb (e:=3) (fr:=(0,0)) (cs:= [nI ci,nI cs]) ?hg (by rfl) (by decide))).mono ?_;(case hg=>exact XR w _ _ _);rintro e w3 ⟨rfl,rfl⟩))
 go_wp2;go_ret;exact ⟨rfl,((((Ext.refl w).alloc _).alloc _).alloc _).drew⟩
end
section
variable {l:List UInt8}
theorem ZfO {m:List UInt8} (h:str l=str m):l=m:=by
 have:=Zz (λs:ByteArray=>s.data.toList) h;simpa using this
theorem JA {a b:ByteArray} (h:a.data.toList=b.data.toList):a=b:=by
 rw[<-Zal a,<-Zal b,h]
def hdr (f:Fd):Fd:={f with ents:= []}
end
section
variable {l:List UInt8} {m n r:Nat}
def scalar (r:Nat):Prop:=r<55296\/(57344<=r/\r<=1114111)
theorem Y0 (h:n<256):(UInt8.ofNat n).toNat=n:=by simp[Nat.mod_eq_of_lt h]
theorem X2 (h:r<128):encN r= [UInt8.ofNat r]:=by
 unfold encN;rw[Ze om,Zi h]
theorem Zpb (h:128<=r) (k:r<2048):encN r= [UInt8.ofNat (192+r / 64),UInt8.ofNat (128+r % 64)]:=by
 unfold encN;rw[Ze om,Ze om,Zi k]
theorem Zpc (A:scalar r) (h:2048<=r) (k:r<65536):encN r= [UInt8.ofNat (224+r / 4096),UInt8.ofNat (128+r / 64 % 64),UInt8.ofNat (128+r % 64)]:=by
 unfold scalar at A;unfold encN;rw[Ze om,Ze om,Ze om,Zi k]
theorem Zpd (A:scalar r) (h:65536<=r):encN r= [UInt8.ofNat (240+r / 262144),UInt8.ofNat (128+r / 4096 % 64),UInt8.ofNat (128+r / 64 % 64),UInt8.ofNat (128+r % 64)]:=by
 unfold scalar at A;unfold encN;rw[Ze om,Ze om,Ze om,Ze om]
theorem Zfa (A:l≠ []) (h:Lib.decodeN l.length (l.getD 0 0).toNat (l.getD 1 0).toNat (l.getD 2 0).toNat (l.getD 3 0).toNat=(r,m)) (D:¬(r=65533/\m=1)):dec l=(r,m):=by
 unfold dec;rw[Ze A,UM,h,Ze D]
theorem ZrC (h:scalar r) (t:List UInt8):dec (encN r++t)=(r,(encN r).length):=by
 have I:=h;unfold scalar at h;by_cases H:r<128
 ·rw[X2 H];refine Zfa (by simp) ?_ om;have D:(([UInt8.ofNat r]++t).getD 0 0).toNat=r:=Y0 om;rw[D];unfold Lib.decodeN;rw[Zi H];rfl
 ·by_cases J:r<2048
  ·rw[Zpb om J];refine Zfa (by simp) ?_ (by simp);have D:(([UInt8.ofNat (192+r / 64),UInt8.ofNat (128+r % 64)]++t).getD 0 0).toNat=192+r / 64:=Y0 om;have e1:(([UInt8.ofNat (192+r / 64),UInt8.ofNat (128+r % 64)]++t).getD 1 0).toNat=128+r % 64:=Y0 om;have F:([UInt8.ofNat (192+r / 64),UInt8.ofNat (128+r % 64)]++t).length=t.length+2:=rfl;rw[D,e1,F];unfold Lib.decodeN;rw[Ze om,Zi om,Zi om,show (192+r / 64) % 32*64+(128+r % 64) % 64=r by omega];rfl
  ·by_cases K:r<65536
   ·rw[Zpc I om K];refine Zfa (by simp) ?_ (by simp);generalize A: [UInt8.ofNat (224+r / 4096),UInt8.ofNat (128+r / 64 % 64),UInt8.ofNat (128+r % 64)]=l;have D:((l++t).getD 0 0).toNat=224+r / 4096:=(by rw[<-A];exact Y0 om);have e1:((l++t).getD 1 0).toNat=128+r / 64 % 64:=(by rw[<-A];exact Y0 om);have e2:((l++t).getD 2 0).toNat=128+r % 64:=(by rw[<-A];exact Y0 om);have F:(l++t).length=t.length+3:=(by rw[<-A];rfl);rw[D,e1,e2,F];unfold Lib.decodeN;rw[Ze om,Ze om,Zi om,Zi om,show (224+r / 4096) % 16*4096+(128+r / 64 % 64) % 64*64+(128+r % 64) % 64=r by omega,<-A];rfl
   ·rw[Zpd I om];refine Zfa (by simp) ?_ (by simp);generalize A: [UInt8.ofNat (240+r / 262144),UInt8.ofNat (128+r / 4096 % 64),UInt8.ofNat (128+r / 64 % 64),UInt8.ofNat (128+r % 64)]=l;have D:((l++t).getD 0 0).toNat=240+r / 262144:=(by rw[<-A];exact Y0 om);have e1:((l++t).getD 1 0).toNat=128+r / 4096 % 64:=(by rw[<-A];exact Y0 om);have e2:((l++t).getD 2 0).toNat=128+r / 64 % 64:=(by rw[<-A];exact Y0 om);have e3:((l++t).getD 3 0).toNat=128+r % 64:=(by rw[<-A];exact Y0 om);have F:(l++t).length=t.length+4:=(by rw[<-A];rfl);rw[D,e1,e2,e3,F];unfold Lib.decodeN;rw[Ze om,Ze om,Ze om,Zi om,Zi om,show (240+r / 262144) % 8*262144+(128+r / 4096 % 64) % 64*4096+(128+r / 64 % 64) % 64*64+(128+r % 64) % 64=r by omega,<-A];rfl
theorem ZaW:∀(k n:Nat) (l:List UInt8) (r m:Nat),refFrom k n l=(r,m)->m≠0->encN r=l.take m/\m<=l.length
 |0,n,l,r,m,h,hm=>by simp only[refFrom,Prod.mk.injEq] at h;exact absurd h.2.symm hm
 |k+1,n,l,r,m,h,hm=>by
  unfold refFrom at h
  split at h
  ·rename_i A
   split at h
   ·rename_i D
    simp only[Prod.mk.injEq] at h
    obtain ⟨rfl,rfl⟩:=h
    exact ⟨D,A.2⟩
   ·exact ZaW k (n+1) l r m h hm
  ·simp only[Prod.mk.injEq] at h;exact absurd h.2.symm hm
theorem G2 (h:dec l=(r,m)) (A:m≠0):l=encN r++l.drop m:=by
 have D:l≠ []:=by intro e;rw[e] at h;simp only[dec,Us,Prod.mk.injEq] at h;exact A h.2.symm
 rw[<-Ke l D] at h;have:=(ZaW 4 1 l r m h A).1;rw[this,Yz]
theorem Xq {s:ByteArray} (h:validS s=true):collapse s=s:=by
 unfold validS at h;simp only[ZG,JI] at h;rw[<-Zal (collapse s),h.2,Zal]
theorem VI {s:ByteArray} (h:validS s=true):(checkS s).2=0:=by
 unfold validS at h;simp only[ZG,ZT] at h;exact h.1
end
section
variable {f:Fd} {i k:Nat} {α κ:Type}
def noS:ByteArray:=⟨#[]⟩
def zeroE:Ent:=⟨noS,noS,noS,noS,0⟩
def zeroF:Fd:=⟨[],noS,noS,noS,0,[]⟩
def inT (t:Int):Bool:=decide (-62135596800<=t) && decide (t<=253402300799)
def firstErr:List ByteArray->Nat
 | []=>0
 |s::t=>if (checkS s).2=0 then firstErr t else (checkS s).2
def strsE (e:Ent):List ByteArray:= [e.id,e.title,e.link,e.content]
def strsF (f:Fd):List ByteArray:=f.path++ [f.id,f.title,f.link]
def collE (e:Ent):Ent:=⟨collapse e.id,collapse e.title,collapse e.link,collapse e.content,e.upd⟩
def collF (f:Fd):Fd:=⟨f.path.map collapse,collapse f.id,collapse f.title,collapse f.link,f.upd,ordE.canon (f.ents.map collE)⟩
def errE (e:Ent):Nat:=if firstErr (strsE e)≠0 then firstErr (strsE e) else if collapse e.id=noS then 19 else if inT e.upd then 0 else 3
def errEs:List Ent->Nat
 | []=>0
 |e::t=>if errE e=0 then errEs t else errE e
def headF (f:Fd):Nat:=if firstErr (strsF f)≠0 then firstErr (strsF f) else if collapse f.id=noS\/(f.path.any λp=>decide (collapse p=noS))=true then 19 else if 64<f.path.length then 9 else if inT f.upd then 0 else 3
def errF (f:Fd):Nat:=if headF f=0 then errEs f.ents else headF f
def errFs:List Fd->Nat
 | []=>0
 |f::t=>if errF f=0 then errFs t else errF f
def normE (e:Ent):Ent:=if errE e=0 then collE e else zeroE
def normF (f:Fd):Fd:=if errF f=0 then collF f else zeroF
def normA (l:List Fd):List Fd:=if errFs l=0 then ordF.canon (l.map collF) else []
def okAt {α κ:Type} [DecidableEq κ] (ok:α->Bool) (O:Ord α κ) (l:List α) (i:Nat):Bool:=
 match l[i]? with
 |none=>true
 |some x=>ok x && (decide (i=0)||(match l[i - 1]? with|none=>true|some y=>O.lt y x)) && (l.take i).all λy=>decide (O.id y≠O.id x)
def okL {α κ:Type} [DecidableEq κ] (ok:α->Bool) (O:Ord α κ) (l:List α):Bool:=(List.range l.length).all (okAt ok O l)
def okE (e:Ent):Bool:=(strsE e).all validS && !decide (e.id=noS) && inT e.upd
def okH (f:Fd):Bool:=decide (f.path.length<=64) && (strsF f).all validS && !decide (f.id=noS) && inT f.upd && f.path.all λp=> !decide (p=noS)
def okF (f:Fd):Bool:=okH f && okL okE ordE f.ents
def okA (l:List Fd):Bool:=okL okF ordF l
section
variable {α κ:Type} [DecidableEq κ] {ok:α→Bool} {O:Ord α κ}
theorem Ui {l:List α} (F:i<l.length):okAt ok O l i=true↔ok l[i]=true/\(∀h:0<i,O.lt l[i - 1] l[i]=true)/\∀j (D:j<i),O.id l[j]≠O.id l[i]:=by
 unfold okAt;rw[Zh F];simp only[ZG,Ik,ZT,Z6,and_assoc];refine and_congr Iff.rfl (and_congr ?_ ?_)
 ·rw[Zh (show i - 1<l.length by omega)];constructor
  ·rintro (h|h) A
   ·omega
   ·exact h
  ·intro h;rcases YL i with A|A
   ·exact Or.inl A
   ·exact Or.inr (h A)
 ·constructor
  ·intro h j D;refine h _ ?_;exact List.mem_take_iff_getElem.2 ⟨j,om,rfl⟩
  ·intro h x H;obtain ⟨j,D,rfl⟩:=List.mem_take_iff_getElem.1 H;exact h j om
theorem JM {l:List α}:okL ok O l=true↔(∀x∈l,ok x=true)/\O.sorted l/\l.Pairwise λa b=>O.id a≠O.id b:=by
 unfold okL;simp only[Z6,Ub];constructor
 ·intro h;refine ⟨λx Q=> ?_,?_,?_⟩
  ·obtain ⟨i,A,rfl⟩:=List.mem_iff_getElem.1 Q;exact ((Ui A).1 (h i A)).1
  ·refine Xh.2 λi j A H F=> ?_;have step:∀d i (D:i+d+1<l.length),O.lt l[i] l[i+d+1]=true:=by
    intro d
    induction d with
    |zero=>intro i D;exact ((Ui D).1 (h (i+1) D)).2.1 om
    |succ d ih=>intro i D;have I:=ih i om;have J:=((Ui D).1 (h _ D)).2.1 om;exact O.trans _ _ _ I J
   have:=step (j - i - 1) i om;simpa [show i+(j - i - 1)+1=j by omega] using this
  ·exact Xh.2 λi j A H F=>((Ui H).1 (h j H)).2.2 i F
 ·rintro ⟨I,J,K⟩ i A;rw[Ui A];exact ⟨I _ (ZL A),λR=>Xh.1 J (i - 1) i om A om,λj H=>Xh.1 K j i om A H⟩
end
theorem Zfu {e:Ent}:okE e=true↔(∀s∈strsE e,validS s=true)/\e.id≠noS/\inT e.upd=true:=by
 unfold okE;simp only[ZG,Z6,Jl,X9,and_assoc,ne_eq]
theorem Jf:okH f=true↔f.path.length<=64/\(∀s∈strsF f,validS s=true)/\f.id≠noS/\inT f.upd=true/\∀p∈f.path,p≠noS:=by
 unfold okH;simp only[ZG,Z6,Jl,X9,ZT,and_assoc,ne_eq]
theorem XW:okF f=true↔okH f=true/\okL okE ordE f.ents=true:=by unfold okF;rw[ZG]
theorem Kc [DecidableEq κ] {ok:α->Bool} {O:Ord α κ} {l:List α} (h:okL ok O l=true):O.canon l=l:=by
 have h:=JM.1 h;exact O.canon_self h.2.1 h.2.2
theorem JT {l:List ByteArray}:firstErr l=0↔∀s∈l,(checkS s).2=0:=by
 induction l with
 |nil=>simp[firstErr]
 |cons s t ih=>
  unfold firstErr;by_cases h:(checkS s).2=0
  ·rw[Zi h,ih];simp[h]
  ·rw[Ze h];simp[h]
theorem Zdi {l:List ByteArray} (h:k<l.length):firstErr (l.drop k)=if (checkS l[k]).2=0 then firstErr (l.drop (k+1)) else (checkS l[k]).2:=by
 rw[Zl h];rfl
theorem Ew {e:Ent}:errE e=0↔firstErr (strsE e)=0/\collapse e.id≠noS/\inT e.upd=true:=by
 unfold errE;by_cases h:firstErr (strsE e)=0
 ·rw[Ze (by simpa using h)];by_cases k:collapse e.id=noS
  ·rw[Zi k];simp[k]
  ·rw[Ze k];simp[h,k]
 ·rw[Zi h];simp[h]
theorem Zce:headF f=0↔firstErr (strsF f)=0/\collapse f.id≠noS/\(∀p∈f.path,collapse p≠noS)/\f.path.length<=64/\inT f.upd=true:=by
 unfold headF;by_cases h:firstErr (strsF f)=0
 ·rw[Ze (by simpa using h)];by_cases k:collapse f.id=noS\/(f.path.any λp=>decide (collapse p=noS))=true
  ·rw[Zi k];constructor
   ·intro A;omega
   ·rintro ⟨_,H,I,_⟩;rcases k with k|k
    ·exact absurd k H
    ·obtain ⟨p,F,e⟩:=Xm.1 k;exact absurd (YK e) (I p F)
  ·rw[Ze k];have J:collapse f.id≠noS:=λe=>k (Or.inl e);have K:∀p∈f.path,collapse p≠noS:=λp F e=>k (Or.inr (Xm.2 ⟨p,F,YG e⟩));by_cases g:64<f.path.length
   ·rw[Zi g];constructor
    ·intro A;omega
    ·rintro ⟨_,_,_,A,_⟩;omega
   ·rw[Ze g];have g':f.path.length<=64:=om;by_cases D:inT f.upd=true
    ·rw[Zi D];exact ⟨λ_=>⟨h,J,K,g',D⟩,λ_=>rfl⟩
    ·rw[Ze D];exact ⟨λA=>by omega,λA=>absurd A.2.2.2.2 D⟩
 ·rw[Zi h];exact ⟨λA=>absurd A h,λA=>absurd A.1 h⟩
theorem KT {l:List Ent}:errEs l=0↔∀e∈l,errE e=0:=by
 induction l with
 |nil=>simp[errEs]
 |cons s t ih=>
  unfold errEs;by_cases h:errE s=0
  ·rw[Zi h,ih];simp[h]
  ·rw[Ze h];simp[h]
theorem ZdV:errF f=0↔headF f=0/\errEs f.ents=0:=by
 unfold errF;by_cases h:headF f=0
 ·rw[Zi h];simp[h]
 ·rw[Ze h];simp[h]
theorem QD {l:List Fd}:errFs l=0↔∀e∈l,errF e=0:=by
 induction l with
 |nil=>simp[errFs]
 |cons s t ih=>
  unfold errFs;by_cases h:errF s=0
  ·rw[Zi h,ih];simp[h]
  ·rw[Ze h];simp[h]
theorem Zf7 {e:Ent} (h:okE e=true):errE e=0/\collE e=e:=by
 obtain ⟨A,D,F⟩:=Zfu.1 h;have c1:=Xq (A e.id (by simp[strsE]));have c2:=Xq (A e.title (by simp[strsE]));have c3:=Xq (A e.link (by simp[strsE]));have c4:=Xq (A e.content (by simp[strsE]));refine ⟨Ew.2 ⟨JT.2 λs H=>VI (A s H),by rw[c1];exact D,F⟩,?_⟩;unfold collE;rw[c1,c2,c3,c4]
theorem IT {α:Type} {g:α->α}:∀{l:List α},(∀x∈l,g x=x)->l.map g=l
 | [],_=>rfl
 |x::t,h=>by rw[Zw,h x (by simp),IT λy A=>h y (by simp[A])]
theorem ZbP (h:okF f=true):errF f=0/\collF f=f:=by
 obtain ⟨Q,H⟩:=XW.1 h;obtain ⟨J,A,g3,g4,K⟩:=Jf.1 Q;have c1:=Xq (A f.id (by simp[strsF]));have c2:=Xq (A f.title (by simp[strsF]));have c3:=Xq (A f.link (by simp[strsF]));have c4:∀p∈f.path,collapse p=p:=λp D=>Xq (A p (by simp[strsF,D]));have I:=(JM.1 H).1;refine ⟨ZdV.2 ⟨Zce.2 ⟨JT.2 λs R=>VI (A s R),by rw[c1];exact g3,λp D=>by rw[c4 p D];exact K p D,J,g4⟩,KT.2 λe F=>(Zf7 (I e F)).1⟩,?_⟩;unfold collF;rw[c1,c2,c3,IT c4,IT λe F=>(Zf7 (I e F)).2,Kc H]
theorem Zhk {l:List Fd} (h:okA l=true):errFs l=0/\normA l=l:=by
 have D:=(JM.1 h).1;have e:errFs l=0:=QD.2 λf A=>(ZbP (D f A)).1;refine ⟨e,?_⟩;unfold normA;rw[Zi e,IT λf A=>(ZbP (D f A)).2,Kc h]
end
section
variable {B:Nat} {v:Value} {w w':World}
theorem Ext.setBoth {B:Nat} {a b:Wq} (h:Below B a b) (p:Addr) (v:Value):Below B (a.setCell p v) (b.setCell p v):=by
 refine ⟨h.os,h.tape,h.output,?_,λk A=> ?_⟩
 ·simpa [World.setCell] using h.size
 ·simp only[World.setCell,Xv,h.block k A]
def setS (w:Wq):List (Addr×ByteArray)->Wq
 | []=>w
 |p::t=>setS (w.setCell p.1 (.string p.2)) t
theorem ZeL:∀(l:List (Addr×ByteArray)) (w:Wq) (p:Addr×ByteArray),setS w (l++ [p])=(setS w l).setCell p.1 (.string p.2)
 | [],_,_=>rfl
 |q::t,w,p=>ZeL t (w.setCell q.1 (.string q.2)) p
theorem Kg:∀(l:List (Addr×ByteArray)) (w:Wq),(setS w l).heap.size=w.heap.size
 | [],_=>rfl
 |p::t,w=>by rw[setS,Kg t];simp[World.setCell]
theorem GK:∀(l:List (Addr×ByteArray)) (w:Wq) (a:Addr),(setS w l).frozen? a=w.frozen? a
 | [],_,_=>rfl
 |p::t,w,a=>by rw[setS,GK t,XX]
theorem Vv:∀(l:List (Addr×ByteArray)) (w:Wq) (a:Addr),(∀p∈l,p.1≠a)->(setS w l).cell? a=w.cell? a
 | [],_,_,_=>rfl
 |p::t,w,a,h=>by rw[setS,Vv t _ a (λq A=>h q (by simp[A])),Xi w p.1 a _ (h p (by simp))]
structure Ptrs (w:Wq) (v:Value) (ps:List (Addr×ByteArray)):Prop where
 row:RSl w 1 v ps.length (ps.map λp=>Value.pointer (some p.1))
 cells:∀p∈ps,w.cell? p.1=some (.string p.2)/\w.frozen? p.1=false
 size:∀p∈ps,p.2.size<=16777216
 apart:ps.Pairwise λp q=>p.1≠q.1
theorem ZbI {a:Addr} (h:Below B w w') (A:w.heap.size<=B) (hc:w.cell? a=some v):w'.cell? a=some v:=
 (Below.cell h (YZ (ZW w a hc) A)).trans hc
theorem JX (v:Value) (ps:List (Addr×ByteArray)) (w:Wq) (hE:Env w) (h:Ptrs w v ps):
 Calls prog 103 #[v] w λe w'=>e= .returned (nI (firstErr (ps.map (·.2)):Nat))/\
  ((firstErr (ps.map (·.2))=0/\Below w.heap.size (setS w (ps.map λp=>(p.1,collapse p.2))) w')\/(firstErr (ps.map (·.2))≠0/\Ext w w')):=by
 obtain ⟨Q,F,ht,hu⟩:=h;obtain ⟨_,A,c,rfl,hs,hl,_,_⟩:=id Q;have hA:ps.length<=9223372036854775807:=Zp hs hl;clear hs hl;obtain ⟨E,U⟩:∃E,firstErr (ps.map (·.2))=E:=⟨_,rfl⟩;rw[U];go_enter func103,ntmps103;go_wp2;go_loopw [11] (λi wr=>∃k:Nat,k<=ps.length/\i=nI k/\Hid (E=firstErr ((ps.map (·.2)).drop k))/\Ext w wr) (λi _=>ps.length - (intOf i).toNat)
 case atStart=>exact ⟨0,Zj _,rfl,U.symm,Ext.refl _⟩
 case round=>
  obtain ⟨k,hk,rfl,hf,hx⟩:=hrel;by_cases D:k<ps.length
  ·obtain ⟨ad,rfl,I⟩:=(Q.ext hx).at1 k (.pointer (some ps[k].1)) (by rw[Yp,Zh D];rfl);have R:=hx.cell (F ps[k] (ZL D)).1;have V:=Zdi (l:=ps.map (·.2)) (k:=k) (by rw[Zq];exact D);rw[Xn] at V;have HC:=gd (V6 ps[k].2 wr (hE.ext hx) (by have:=ht ps[k] (ZL D);unfold maxLen;omega));obtain ⟨O,hO⟩:∃O,(checkS ps[k].2).1=O:=⟨_,rfl⟩;obtain ⟨K,hK⟩:∃K,(checkS ps[k].2).2=K:=⟨_,rfl⟩;obtain ⟨S,hS⟩:∃S,ps[k].2=S:=⟨_,rfl⟩;obtain ⟨a,ha⟩:∃a,ps[k].1=a:=⟨_,rfl⟩;rw[hK] at V;rw[hO,hK,hS] at HC;rw[hS,ha] at R;rw[ha] at I;have H:=hf.out.trans V;clear V hf hO hK hS ha U;by_cases h0:K=0
   ·subst h0;rw[Zi rfl] at H;have HF:=gd H;clear H
    go_wp2_with (first|(go_at_call 150;refine (HC.out).mono ?_;rintro e w' ⟨rfl,hh⟩))
    go_roundw
    case rel=>exact ⟨k+1,D,by go_num,HF.out,hx.trans hh⟩
    case measure=>simp[intOf];omega
   ·have Z:((K:Int) !=0)=true:=(by simp;omega);rw[Ze h0] at H;subst H;have ho:(E=0/\Below w.heap.size (setS w (ps.map λp=>(p.1,collapse p.2))) w)\/E≠0:=Or.inr h0;clear ho;have H0:=gd h0;clear h0
    go_wp2_with (first|(go_at_call 150;refine (HC.out).mono ?_;rintro e w' ⟨rfl,hh⟩))
    go_ret;exact ⟨rfl,Or.inr ⟨H0.out,hx.trans hh⟩⟩
  ·have hd:k=ps.length:=om;have H:=hf.out;rw[ZC (by rw[Zq];omega)] at H;have hn:E=0:=H;subst hn;subst hd;clear H D hf U hk;obtain ⟨wo,rfl⟩:∃wo:Wq,wo=wr:=⟨_,rfl⟩;go_wp2;go_loopw [28] (λi w2=>∃k:Nat,k<=ps.length/\i=nI k/\Below w.heap.size (setS w ((ps.take k).map λp=>(p.1,collapse p.2))) w2/\w.heap.size<=w2.heap.size) (λi _=>ps.length - (intOf i).toNat)
   case atStart=>exact ⟨0,Zj _,rfl,hx,hx.size⟩
   case round=>
    obtain ⟨k,hk,rfl,Z,hz⟩:=hrel;by_cases D:k<ps.length
    ·obtain ⟨wk,J⟩:∃wk,setS w ((ps.take k).map λp=>(p.1,collapse p.2))=wk:=⟨_,rfl⟩;have Y:wk.heap.size=w.heap.size:=(by rw[<-J,Kg]);obtain ⟨ad,rfl,hc⟩:=Q.at1 k (.pointer (some ps[k].1)) (by rw[Yp,Zh D];rfl);have he:=F ps[k] (ZL D);have hg:wk.cell? ps[k].1=some (.string ps[k].2):=(by rw[<-J,Vv,he.1];intro p hp;obtain ⟨q,hq,rfl⟩:=ZU.1 hp;obtain ⟨j,hj,rfl⟩:=List.mem_take_iff_getElem.1 hq;exact Xh.1 hu j k om D om);have hm:wk.frozen? ps[k].1=false:=(by rw[<-J,GK];exact he.2);have hi:wk.cell? (ad.add k)=some (.pointer (some ps[k].1)):=(by rw[<-J,Vv,hc];intro p hp e;obtain ⟨q,hq,rfl⟩:=ZU.1 hp;have:=(F q (Y4 hq)).1;simp only at e;rw[e,hc] at this;cases this);have hB:ps[k].1.block<w.heap.size:=(by have:=ZW wk _ hg;omega);rw[J] at Z;have I:=ZbI Z (Nat.le_of_eq Y) hi;have R:=ZbI Z (Nat.le_of_eq Y) hg;have hr:wr.frozen? ps[k].1=false:=(JP Z hB).trans hm;have HT:Hid (setS w ((ps.take (k+1)).map λp=>(p.1,collapse p.2))=wk.setCell ps[k].1 (.string (collapse ps[k].2))):=(by show _=_;rw[Zr D,ZS,Zw,Z2,ZeL,J]);have HC:=gd (ZqO ps[k].2 wr (by have:=ht ps[k] (ZL D);omega));have HZ:=gd hz;have hy:=gd Y;clear hz Y he hg hm hi hc J;obtain ⟨a,ha⟩:∃a,ps[k].1=a:=⟨_,rfl⟩;obtain ⟨S,hS⟩:∃S,ps[k].2=S:=⟨_,rfl⟩;rw[ha] at I R hr HT hB;rw[hS] at R HT HC;clear ha hS
     go_wp2_with (first|(go_at_call 32;refine (HC.out).mono ?_;rintro e w3 ⟨rfl,X⟩;have hw:=X.cell R;have hv:=(JP X (YZ hB HZ.out)).trans hr))
     go_roundw
     case rel=>exact ⟨k+1,D,by go_num,by rw[HT.out];exact Ext.setBoth (Z.trans (XF X HZ.out)) _ _,by have:=X.size;have:=HZ.out;simp[World.setCell];omega⟩
     case measure=>simp[intOf];omega
    ·have hd:k=ps.length:=om;subst hd;rw[ZQ (Zc _)] at Z;clear D hk;go_wp2;go_ret;exact ⟨rfl,Z⟩
end
theorem Vt (x y:ByteArray) (w:Wq):
 Calls prog 80 #[.string x,.string y] w λe w'=>e= .returned (nI (sCmp x y))/\w'=w:=by
 have A:sCmp x y=if Op.bytesLess x.toList y.toList=true then -1 else if (Op.bytesLess x.toList y.toList||x.toList==y.toList)=true then 0 else 1:=by
  unfold sCmp;by_cases h:Op.bytesLess x.toList y.toList=true
  ·rw[Zi h,Zi h]
  ·rw[Ze h,Ze h];simp only[Bool.not_eq_true] at h;simp[h]
 rw[A];clear A;go_enter func80,ntmps80;go_wp2
 all_goals go_ret
 all_goals exact ⟨by simp_all,rfl⟩
theorem KW (t:Int) (w:Wq):
 Calls prog 105 #[nI t] w λe w'=>e= .returned (.bool (inT t))/\w=w':=by
 unfold inT;go_enter func105,ntmps105;go_wp2
 all_goals go_ret
 all_goals exact ⟨by simp_all<;>omega,rfl⟩
theorem RSl.at1' {w:Wq} {size n c m:Nat} {A:Option Addr} {xs:List Value} (h:RSl w size (.slice A m c) n xs) (k:Nat) (u:Value) (D:xs[k]? =some u):∃ad,A=some ad/\w.cell? (ad.add k)=some u:=h.at1 k u D
section
variable {P:Program} {cs:List Value} {ty:TypeId} {w w1:World}
def eokS (e:Ent):Prop:=e.id.size<=16777216/\e.title.size<=16777216/\e.link.size<=16777216/\e.content.size<=16777216
theorem Zu (w:Wq) (o:Obj):(w.alloc o).heap.size=w.heap.size+1:=by show (w.heap.push o).size=_;simp
theorem Ext.boxedF {w w':Wq} {cs:Array Value} {t:TypeId} (h:Ext (w.alloc (.cells cs t)) w') (i:Nat):w'.frozen? ⟨w.heap.size,i,none⟩=false:=
 Z5 (h.heap (Zg w _)) i
theorem Zdv (w:Wq) (cs:Array Value) (t:TypeId) (fr:Nat×Nat) (i:Nat) (v:Value) (D:i<cs.size):(w.alloc (.cells cs t fr)).setCell ⟨w.heap.size,i,none⟩ v=w.alloc (.cells (cs.setIfInBounds i v) t fr):=by
 simp only[World.setCell,World.alloc]
 congr 1
 apply Array.ext_getElem?;intro k;rw[Xv];by_cases A:w.heap.size=k
 ·subst A;simp
 ·rw[Ze A];rcases Nat.lt_or_gt_of_ne A with h|h
  ·rw[Y3 (by simp;omega),Y3 (by simp;omega)]
  ·rw[Array.getElem?_push_lt h,Array.getElem?_push_lt h]
theorem Uk (w:Wq) (cs:Array Value) (t:TypeId) (fr:Nat×Nat) (B C:Obj) (i:Nat) (v:Value) (D:i<cs.size):
 (((w.alloc (.cells cs t fr)).alloc B).alloc C).setCell ⟨w.heap.size,i,none⟩ v=((w.alloc (.cells (cs.setIfInBounds i v) t fr)).alloc B).alloc C:=by
 have A:∀(W:Wq) (O:Obj) (p:Addr) (u:Value),p.block<W.heap.size->(W.alloc O).setCell p u=(W.setCell p u).alloc O:=by
  intro W O p u F;simp only[World.setCell,World.alloc]
  congr 1
  apply Array.ext_getElem?;intro k;rw[Xv];rcases Nat.lt_trichotomy k W.heap.size with h|h|h
  ·rw[Array.getElem?_push_lt h,Array.getElem?_push_lt (by simpa using h)];simp[Array.getElem_modify];split<;>simp
  ·subst h;have:¬p.block=W.heap.size:=om;have e1:(W.heap.push O)[W.heap.size]? =some O:=(by simp);have e2:∀f:Obj->Obj,((W.heap.modify p.block f).push O)[W.heap.size]? =some O:=by
    intro f;have:=Array.getElem?_push_size (xs:=W.heap.modify p.block f) (x:=O)
    rwa [Array.size_modify] at this
   rw[Ze this,e1,e2]
  ·rw[Y3 (by simp;omega),Y3 (by simp;omega)];split<;>rfl
 rw[A _ C _ _ (by simp;omega),A _ B _ _ (by simp),Zdv _ _ _ _ _ _ D]
theorem XI {A:Array Value} {t:TypeId} {fr:Nat×Nat} {B C:Obj} (d:Aft (((w.alloc (.cells A t fr)).alloc B).alloc C)) (i:Nat) (v:Value) (h:A[i]? =some v):d.w.cell? ⟨w.heap.size,i,none⟩=some v:=
 Ext.boxed (((Ext.refl _).alloc B).alloc C|>.trans d.ext) i v h
theorem ZlZ (w:Wq) (a0 b0 c0 h a b c d:ByteArray) (x:Value) (t:TypeId) (fr:Nat×Nat) (B C:Obj):
 setS (((w.alloc (.cells #[.string a0,.string b0,.string c0,.string h,x] t fr)).alloc B).alloc C) [(⟨w.heap.size,0,none⟩,a),(⟨w.heap.size,1,none⟩,b),(⟨w.heap.size,2,none⟩,c),(⟨w.heap.size,3,none⟩,d)]
  =((w.alloc (.cells #[.string a,.string b,.string c,.string d,x] t fr)).alloc B).alloc C:=by
 simp only[setS];rw[Uk _ _ _ _ _ _ _ _ (by simp),Uk _ _ _ _ _ _ _ _ (by simp),Uk _ _ _ _ _ _ _ _ (by simp),Uk _ _ _ _ _ _ _ _ (by simp)];rfl
theorem Yn {A:Func} {p u:Tmp} (h:A.results=#[.cell p ty,.tmp u]) (tmps:Array Value) (w:Wq) (g:Nat) (t:TypeId) (cs:Array Value) (fr:Nat×Nat) (d:TypeDesc)
 (I:tmps.getD p undef= .pointer (some ⟨g,0,none⟩)) (F:w.heap[g]? =some (.cells cs t fr))
 (J:P.underlying ty=some d) (D:(match d with| .struct _| .array _ _=>true|_=>false)=true) (H:(P.info? ty).map (·.size)=some cs.size):
 (results A tmps).run P w= .ok (.tuple #[.agg cs,tmps.getD u undef]) w:=by
 rw[results_cell_tmp h,I];simp[asAddr,run_loadVar_row w g t ty cs fr d F J D H]
theorem Zcz (h:∀u∈cs,u.oneCell'=true):cs.toArray.all (λu=>u.oneCell')=true:=by simpa using h
theorem Vw:(prog.info? 76).map (λi=>i.size)=some 5:=by kernel_rfl
theorem X1 (e:Ent):∀u∈eCells e,u.oneCell'=true:=by
 intro u h;simp[eCells] at h;rcases h with rfl|rfl|rfl|rfl|rfl<;>rfl
theorem Zfi {A B C:Obj} (D:Ext (((w.alloc A).alloc B).alloc C) w1):w1.heap[w.heap.size+1]? =some B:=by
 have h:(((w.alloc A).alloc B).alloc C).heap[w.heap.size+1]? =some B:=by
  rw[Below.heap_alloc _ _ _ (by simp)];have:=Zg (w.alloc A) B
  rwa [Zu] at this
 exact D.heap h
abbrev entW (w:Wq) (e:Ent):Wq:=((w.alloc (.cells (eCells e).toArray 76)).alloc (.cells (eCells zeroE).toArray 76)).alloc (.cells #[.pointer (some ⟨w.heap.size,0,none⟩),.pointer (some ⟨w.heap.size,1,none⟩),.pointer (some ⟨w.heap.size,2,none⟩),.pointer (some ⟨w.heap.size,3,none⟩)] 157)
theorem ZdT (w:Wq) (e:Ent) (D:eokS e):Ptrs (entW w e) (.slice (some ⟨w.heap.size+1+1,0,none⟩) 4 4) [(⟨w.heap.size,0,none⟩,e.id),(⟨w.heap.size,1,none⟩,e.title),(⟨w.heap.size,2,none⟩,e.link),(⟨w.heap.size,3,none⟩,e.content)]:=by
 obtain ⟨F,H,I,J⟩:=D;refine ⟨Jb (e:=157) (fr:=(0,0)) (cs:= [_,_,_,_]) (XR w _ _ _) rfl (by decide),?_,?_,?_⟩
 ·have h:Ext (w.alloc (.cells (eCells e).toArray 76)) (entW w e):=((Ext.refl _).alloc _).alloc _;intro p A;simp only[ZH,ZY,Y1] at A;rcases A with rfl|rfl|rfl|rfl
  ·exact ⟨h.boxed 0 _ rfl,h.boxedF 0⟩
  ·exact ⟨h.boxed 1 _ rfl,h.boxedF 1⟩
  ·exact ⟨h.boxed 2 _ rfl,h.boxedF 2⟩
  ·exact ⟨h.boxed 3 _ rfl,h.boxedF 3⟩
 ·intro p A;simp only[ZH,ZY,Y1] at A;rcases A with rfl|rfl|rfl|rfl<;>assumption
 ·simp
theorem Zgj (e:Ent) (w:Wq) (F:Env w) (H:eokS e) (A:firstErr (strsE e)≠0):
 Calls prog 103 #[.slice (some ⟨w.heap.size+1+1,0,none⟩) 4 4] (entW w e) λx w'=>x= .returned (nI (firstErr (strsE e):Nat))/\Ext (entW w e) w':=by
 refine (JX _ _ _ (((F.alloc _).alloc _).alloc _) (ZdT w e H)).mono ?_;rintro x w' ⟨D,h⟩;refine ⟨D,?_⟩;rcases h with h|h
 ·exact absurd h.1 A
 ·exact h.2
theorem ZiB (e:Ent) (w:Wq) (K:Env w) (Q:eokS e) (I:firstErr (strsE e)=0):
 Calls prog 103 #[.slice (some ⟨w.heap.size+1+1,0,none⟩) 4 4] (entW w e) λx w'=>x= .returned (nI 0)/\Ext (entW w (collE e)) w':=by
 refine (JX _ _ _ (((K.alloc _).alloc _).alloc _) (ZdT w e Q)).mono ?_;rintro x w' ⟨F,h⟩;have A:firstErr (List.map (·.2) [((⟨w.heap.size,0,none⟩:Addr),e.id),(⟨w.heap.size,1,none⟩,e.title),(⟨w.heap.size,2,none⟩,e.link),(⟨w.heap.size,3,none⟩,e.content)])=0:=I;rw[A] at F h;refine ⟨F,?_⟩;rcases h with h|h
 ·have J:=h.2;have e1:=ZlZ w e.id e.title e.link e.content (collapse e.id) (collapse e.title) (collapse e.link) (collapse e.content) (nI e.upd) 76 (0,0) (.cells (eCells zeroE).toArray 76) (.cells #[.pointer (some ⟨w.heap.size,0,none⟩),.pointer (some ⟨w.heap.size,1,none⟩),.pointer (some ⟨w.heap.size,2,none⟩),.pointer (some ⟨w.heap.size,3,none⟩)] 157);have H:Below (entW w e).heap.size (entW w (collE e)) w':=by have D:=J;simp only[Zw,Z2] at D;rw[show setS (entW w e) _=entW w (collE e) from e1] at D;exact D
  have e2:(entW w e).heap.size=(entW w (collE e)).heap.size:=by simp
  rw[e2] at H;exact H
 ·exact absurd rfl h.1
theorem VW {s:ByteArray} (h:s≠noS):s.toList.isEmpty=false:=by
 rw[List.isEmpty_eq_false_iff];intro e;exact h (toList_inj (e.trans (by rw[Jp];rfl)))
theorem Zdn (e:Ent) (w:Wq) (X:Env w) (Y:eokS e):
 Calls prog 106 #[.agg (eCells e).toArray] w λx w'=>x= .returned (.tuple #[.agg (eCells (normE e)).toArray,nI (errE e:Nat)])/\Ext w w':=by
 have U:Ext w (entW w e):=(((Ext.refl w).alloc _).alloc _).alloc _;have F:Ext w (entW w (collE e)):=(((Ext.refl w).alloc _).alloc _).alloc _;by_cases I:firstErr (strsE e)=0;have HB:=gd (ZiB e w X Y I);have J:=gd (λw'=>KW e.upd w');have K:=Ew (e:=e);by_cases Q:collapse e.id=noS
 focus
  have A:errE e=19:=by unfold errE;rw[Ze (by simpa using I),Zi Q]
  have D:normE e=zeroE:=by unfold normE;rw[Ze (by rw[A];decide)]
  rw[A,D]
  unfold collE at HB F
  rw[Q] at HB F
  clear A D I Q K J
  obtain ⟨id,title,link,content,upd⟩:=e
  have J:=gd (λw'=>KW upd w')
  generalize collapse title=ct at*
  generalize collapse link=cl at*
  generalize collapse content=cc at*
  unfold entW eCells zeroE noS at*
  go_enter func106,ntmps106
  go_wp2_with (first|(go_at_call 103;refine (HB.out).mono ?_;rintro e w1 ⟨rfl,h⟩;have H:=Zfi h;have c0:=XI ⟨_,h⟩ 0 _ rfl;have c1:=XI ⟨_,h⟩ 1 _ rfl;have c2:=XI ⟨_,h⟩ 2 _ rfl;have c3:=XI ⟨_,h⟩ 3 _ rfl;have c4:=XI ⟨_,h⟩ 4 _ rfl;dsimp only at c0 c1 c2 c3 c4)|(go_at_call 105;refine (J.out _).mono ?_;rintro e w2 ⟨rfl,rfl⟩)|(refine Zf rfl 76 (.tmp 2) (.tmp 20) rfl (w.heap.size+1) _ rfl rfl _ _ H Vw rfl (Zcz (X1 zeroE)) ?_))
 rotate_left
 have S:=VW Q;cases h2:inT e.upd
 focus
  have A:errE e=3:=by unfold errE;rw[Ze (by simpa using I),Ze Q,h2];rfl
  have D:normE e=zeroE:=by unfold normE;rw[Ze (by rw[A];decide)]
  rw[A,D]
  rw[h2] at J
  unfold collE at HB F
  clear A D I Q K h2
  obtain ⟨id,title,link,content,upd⟩:=e
  simp only at S HB F J
  generalize collapse id=ci at*
  generalize collapse title=ct at*
  generalize collapse link=cl at*
  generalize collapse content=cc at*
  unfold entW eCells zeroE noS at*
  go_enter func106,ntmps106
  go_wp2_with (first|(go_at_call 103;refine (HB.out).mono ?_;rintro e w1 ⟨rfl,h⟩;have H:=Zfi h;have c0:=XI ⟨_,h⟩ 0 _ rfl;have c1:=XI ⟨_,h⟩ 1 _ rfl;have c2:=XI ⟨_,h⟩ 2 _ rfl;have c3:=XI ⟨_,h⟩ 3 _ rfl;have c4:=XI ⟨_,h⟩ 4 _ rfl;dsimp only at c0 c1 c2 c3 c4)|(go_at_call 105;refine (J.out _).mono ?_;rintro e w2 ⟨rfl,rfl⟩)|(refine Zf rfl 76 (.tmp 2) (.tmp 26) rfl (w.heap.size+1) _ rfl rfl _ _ H Vw rfl (Zcz (X1 zeroE)) ?_))
 rotate_left
 focus
  have A:errE e=0:=K.2 ⟨I,Q,h2⟩
  have D:normE e=collE e:=by unfold normE;rw[Zi A]
  rw[A,D]
  rw[h2] at J
  unfold collE at HB F|-
  clear A D I Q K h2
  obtain ⟨id,title,link,content,upd⟩:=e
  simp only at S HB F J|-
  generalize collapse id=ci at*
  generalize collapse title=ct at*
  generalize collapse link=cl at*
  generalize collapse content=cc at*
  unfold entW eCells zeroE noS at*
  go_enter func106,ntmps106
  go_wp2_with (first|(go_at_call 103;refine (HB.out).mono ?_;rintro e w1 ⟨rfl,h⟩;have H:=Zfi h;have c0:=XI ⟨_,h⟩ 0 _ rfl;have c1:=XI ⟨_,h⟩ 1 _ rfl;have c2:=XI ⟨_,h⟩ 2 _ rfl;have c3:=XI ⟨_,h⟩ 3 _ rfl;have c4:=XI ⟨_,h⟩ 4 _ rfl;dsimp only at c0 c1 c2 c3 c4)|(go_at_call 105;refine (J.out _).mono ?_;rintro e w2 ⟨rfl,rfl⟩)|(refine Zf rfl 76 (.tmp 2) (.tmp 27) rfl (w.heap.size+1) _ rfl rfl _ _ H Vw rfl (Zcz (X1 ⟨ci,ct,cl,cc,upd⟩)) ?_))
 rotate_left
 ·have V:=gd (Zgj e w X Y I);have A:errE e=firstErr (strsE e):=by unfold errE;rw[Zi I]
  have D:normE e=zeroE:=by unfold normE;rw[Ze (by rw[A];exact I)]
  rw[A,D];clear A D;obtain ⟨E,R⟩:∃E,firstErr (strsE e)=E:=⟨_,rfl⟩;rw[R] at V I|-;have Z:((E:Int) !=0)=true:=by simp;omega
  clear R I;obtain ⟨id,title,link,content,upd⟩:=e;unfold entW eCells zeroE noS at*;go_enter func106,ntmps106
  go_wp2_with (first|(go_at_call 103;refine (V.out).mono ?_;rintro e w1 ⟨rfl,h⟩;have H:=Zfi h)|(refine Zf rfl 76 (.tmp 2) (.tmp 14) rfl (w.heap.size+1) _ rfl rfl _ _ H Vw rfl (Zcz (X1 zeroE)) ?_))
  ((try simp only[Exit.inBlock,Exit.then]);refine ZD (Yn rfl _ _ _ _ _ _ _ rfl (ZF _ _ _ _ _ _ H) underlying76 rfl Vw) rfl ?_);exact ⟨rfl,(U.trans h).setRow om _⟩
 all_goals
  ((try simp only[Exit.inBlock,Exit.then]);refine ZD (Yn rfl _ _ _ _ _ _ _ rfl (ZF _ _ _ _ _ _ H) underlying76 rfl Vw) rfl ?_)
  exact ⟨rfl,(F.trans h).setRow om _⟩
end
def total (l:List ByteArray):Nat:=(l.map λs=>s.size).sum
section
variable {w wr:World}
section
variable {α κ:Type} (O:Ord α κ)
end
section
variable {α κ:Type} [DecidableEq κ] (O:Ord α κ)
end
def flatE (l:List Ent):List Value:=(l.map eCells).flatten
theorem Zd3 (a b:List Ent):flatE (a++b)=flatE a++flatE b:=by unfold flatE;rw[ZS,UZ]
theorem ZkL (x:Ent):flatE [x]=eCells x:=by unfold flatE;simp
def REnts (w:Wq) (v:Value) (l:List Ent):Prop:=RSl w 5 v l.length (flatE l)
def OEnts (w:Wq) (B:Nat) (v:Value) (l:List Ent):Prop:=w.ownsRow B 76 5 v l.length (flatE l)
theorem OEnts.reads {w:Wq} {B:Nat} {v:Value} {l:List Ent} (h:OEnts w B v l):REnts w v l:=RSl.of_own h
theorem REnts.ext {w w':Wq} {v:Value} {l:List Ent} (h:REnts w v l) (A:Ext w w'):REnts w' v l:=RSl.ext h A
theorem OEnts.ext {w w':Wq} {B:Nat} {v:Value} {l:List Ent} (h:OEnts w B v l) (A:Ext w w'):OEnts w' B v l:=Ya h A
theorem REnts.form {w:Wq} {v:Value} {l:List Ent} (h:REnts w v l):∃A c,v= .slice A l.length c/\l.length<=c/\c<=maxLen:=by
 obtain ⟨_,A,c,e,D,F,_⟩:=h;exact ⟨A,c,e,D,F⟩
structure AtEnt (w:Wq) (p:Addr) (e:Ent):Prop where
 c0:w.cell? p=some (.string e.id)
 c1:w.cell? ⟨p.block,p.off+1,none⟩=some (.string e.title)
 c2:w.cell? ⟨p.block,p.off+2,none⟩=some (.string e.link)
 c3:w.cell? ⟨p.block,p.off+3,none⟩=some (.string e.content)
 c4:w.cell? ⟨p.block,p.off+4,none⟩=some (nI e.upd)
theorem REnts.at {w:Wq} {v:Value} {l:List Ent} (h:REnts w v l) {k:Nat} (D:k<l.length):∃ad c,v= .slice (some ad) l.length c/\AtEnt w (ad.add (k*5)) l[k]:=by
 obtain ⟨ad,c,e,hc⟩:=RSl.elem (k:=5) (css:=l.map eCells) h (by decide) (by intro c hc;obtain ⟨x,_,rfl⟩:=ZU.1 hc;rfl) k (eCells l[k]) (by rw[Yp,Zh D];rfl);rw[VF] at hc;have A:∀i,0<i->(ad.add (k*5)).add i=⟨(ad.add (k*5)).block,(ad.add (k*5)).off+i,none⟩:=λi F=>Ze om;refine ⟨ad,c,e,?_,?_,?_,?_,?_⟩
 ·have:=hc 0 _ rfl;rwa [add_zero] at this
 ·have:=hc 1 _ rfl;rwa [A _ (by decide)] at this
 ·have:=hc 2 _ rfl;rwa [A _ (by decide)] at this
 ·have:=hc 3 _ rfl;rwa [A _ (by decide)] at this
 ·have:=hc 4 _ rfl;rwa [A _ (by decide)] at this
theorem IN:(prog.info? 76).map (λi=>(i.zero,i.size,i.bytes))=some (some (.agg #[eS,eS,eS,eS,nI 0]),5,72):=Zcg
theorem ZbX {A F:Array Value} {t:TypeId} {fr:Nat×Nat} (h:Ext (w.alloc (.cells A t fr)) wr):Ext (w.alloc (.cells F t fr)) (wr.setRow w.heap.size F):=by
 have D:Below (w.alloc (.cells A t fr)).heap.size (w.alloc (.cells A t fr)) wr:=h;refine ⟨D.os,D.tape,D.output,by have:=D.size;simp at this|-;simpa [World.setRow] using this,λk I=> ?_⟩;have H:k<w.heap.size+1:=by simpa using I
 by_cases e:k=w.heap.size
 ·subst e;rw[ZF wr w.heap.size A F t fr (h.heap (Zg w _)),Zg]
 ·rw[Yf _ _ _ _ e,D.block k (by simpa using H),Below.heap_alloc _ _ _ om,Below.heap_alloc _ _ _ om]
end
section
theorem Zcr {a b:Ent} (h:eok a) (A:eok b):eok (laterE a b):=by unfold laterE;split<;>assumption
theorem ZcP:∀(l:List Ent) (e:Ent),(∀x∈l,eok x)->eok e->eok (ordE.scan l e).2
 | [],_,_,h=>h
 |x::t,e,hl,h=>by
  unfold Ord.scan
  split
  ·exact ZcP t _ (λy A=>hl y (by simp[A])) (Zcr (hl x (by simp)) h)
  ·exact ZcP t e (λy A=>hl y (by simp[A])) h
theorem ZcQ:∀(l:List Ent) (e x:Ent),x∈(ordE.scan l e).1->x∈l
 | [],_,_,h=>by simp[Ord.scan] at h
 |y::t,e,x,h=>by
  unfold Ord.scan at h
  split at h
  ·exact Zn _ (ZcQ t _ x h)
  ·rcases ZH.1 h with h|h
   ·simp[h]
   ·exact Zn _ (ZcQ t _ x h)
theorem OEnts.mono {w:Wq} {B B':Nat} {v:Value} {l:List Ent} (h:OEnts w B v l) (I:B'<=B):OEnts w B' v l:=by
 refine ⟨h.1,?_⟩;rcases h.2 with D|⟨g,cap,A,F,D,H⟩
 ·exact Or.inl D
 ·exact Or.inr ⟨g,cap,A,F,Zp I D,H⟩
theorem OEnts.nil (w:Wq) (B:Nat):OEnts w B sN []:=YF _ _ _ _
theorem OEnts.snoc {w:Wq} {B:Nat} {v:Value} {l:List Ent} {x:Ent} (h:w.ownsRow B 76 5 v (l.length+1) (flatE l++eCells x)):OEnts w B v (l++ [x]):=by
 unfold OEnts;rw[Zb,Zd3,ZkL];exact h
attribute [local go_sem] calm1
end
def grp (l:List Ent) (s:ByteArray):List Ent:=l.filter λx=>decide (ordE.id x=s)
structure Grps (w:Wq) (B:Nat) (v:Value) (l:List Ent) (fs:List ByteArray) (gv:List Value):Prop where
 len:gv.length=fs.length
 row:w.ownsRow B 53 1 v gv.length gv
 each:∀(j:Nat) (s:ByteArray) (u:Value),fs[j]? =some s->gv[j]? =some u->OEnts w B u (grp l s)
 apart:∀(i j:Nat) (u u':Value),gv[i]? =some u->gv[j]? =some u'->i≠j->∀g,u.ownBlock=some g->u'.ownBlock≠some g
theorem Grps.ext {w w':Wq} {B:Nat} {v:Value} {l:List Ent} {fs:List ByteArray} {gv:List Value} (h:Grps w B v l fs gv) (A:Ext w w'):Grps w' B v l fs gv:=
 ⟨h.len,Ya h.row A,λj s u D F=>(h.each j s u D F).ext A,h.apart⟩
theorem Grps.nil (w:Wq) (B:Nat):Grps w B sN [] [] []:=⟨rfl,YF _ _ _ _,by simp,by simp⟩
def IdxMap (D:DataW Unit) (fs:List ByteArray):Prop:=
 IsMap D/\∀s:ByteArray,(Maps.has D (.string s.data.toList)=true↔s∈fs)/\∀j:Nat,fs[j]? =some s->D.atKey (.string s.data.toList) (.lit (.int .i64 0))= .lit (.int .i64 j)
theorem IdxMap.nil:IdxMap (.map []) []:=⟨isMap_empty,λs=>⟨by simp[Maps.has],by simp⟩⟩
theorem K3 (s:List UInt8):WideAt.IsKeyLit (.string s):=trivial
theorem IdxMap.put {D:DataW Unit} {fs:List ByteArray} {s:ByteArray} (h:IdxMap D fs) (R:s ∉ fs):IdxMap (D.put (.string s.data.toList) (.lit (.int .i64 (fs.length:Nat)))) (fs++ [s]):=by
 refine ⟨h.1.put _ _,λt=> ?_⟩;by_cases e:t=s
 ·subst e;refine ⟨⟨λ_=>by simp,λ_=>has_put_same h.1 (K3 _) _⟩,λj A=> ?_⟩;rw[atKey_put_same h.1 (K3 _)];have:j=fs.length:=by
   rcases Nat.lt_trichotomy j fs.length with F|F|F
   ·rw[Xg F] at A;exact absurd (List.mem_of_getElem? A) R
   ·exact F
   ·rw[List.getElem?_eq_none (by simp;omega)] at A;cases A
  rw[this]
 ·have H:(Lit.string t.data.toList)≠ .string s.data.toList:=by intro I;injection I with I;exact e (JA I)
  obtain ⟨F,Q⟩:=h.2 t;rw[has_put_other H,F];refine ⟨by simp[e],λj A=> ?_⟩;rw[atKey_put_other H];refine Q j ?_;rcases Y9 j fs.length with J|J
  ·rwa [Xg J] at A
  ·rw[Yt J] at A;rcases YL (j - fs.length) with K|K
   ·rw[K] at A;simp at A;exact absurd A.symm e
   ·rw[List.getElem?_eq_none (by simp;omega)] at A;cases A
theorem ZgH (l:List Ent) (x:Ent) (s:ByteArray):grp (l++ [x]) s=if ordE.id x=s then grp l s++ [x] else grp l s:=by
 unfold grp;rw[List.filter_append];by_cases h:ordE.id x=s
 ·rw[Zi h];simp[h]
 ·rw[Ze h];simp[h]
theorem Zhc {l:List Ent} {s:ByteArray} (h:s ∉ ordE.firsts l):grp l s= []:=by
 unfold grp;rw[List.filter_eq_nil_iff];intro x A;simp only[ZT];intro e;exact h ((ordE.mem_firsts l s).2 ⟨x,A,e⟩)
theorem Ext.grown' {B:Nat} {a b c:Wq} {row:Option Nat} (h:Ext a b) (A:b.grownBy c row) (F:∀g,row=some g->a.heap.size<=g):Ext a c:=
 Below.grown h A h.size λk D=>F k D
theorem Grps.grow {w w2:Wq} {B g cap:Nat} {l:List Ent} {fs:List ByteArray} {gv:List Value} {x:Ent} {i:Nat} {u u':Value} {s:ByteArray}
 (h:Grps w B (.slice (some ⟨g,0,none⟩) gv.length cap) l fs gv) (hl:fs.Pairwise (· ≠ ·)) (hi:fs[i]? =some s) (hu:gv[i]? =some u) (hx:ordE.id x=s)
 (hc:w2.ownsRow B 76 5 u' ((grp l s).length+1) (flatE (grp l s)++eCells x)) (hg:w.grownBy w2 u.ownBlock) (V:u'.ownBlock=u.ownBlock\/(∃W:Nat,w.heap.size<=W/\u'.ownBlock=some W)) (Z:u.ownBlock≠some g):
 Grps (w2.setCell ⟨g,i,none⟩ u') B (.slice (some ⟨g,0,none⟩) gv.length cap) (l++ [x]) fs (gv.set i u'):=by
 have Y:=h.len;have hs:=h.row.lt g rfl;have hd:u'.ownBlock≠some g:=by
  rcases V with e|⟨W,hW,e⟩
  ·rw[e];exact Z
  ·rw[e];intro S;injection S with S;omega
 have hk:∀(j:Nat) (v:Value),gv[j]? =some v->j≠i->v.ownBlock=none\/v.ownBlock≠u.ownBlock:=by
  intro j v D H;cases A:v.ownBlock with
  |none=>exact Or.inl rfl
  |some b=>exact Or.inr λe=>h.apart j i v u D hu H b A e.symm
 have R:=(h.row.kept hg (Or.inr λe=>Z e.symm));refine ⟨by rw[Jt];exact Y,?_,?_,?_⟩
 ·rw[Jt];exact (R.stored i u').1
 ·intro j t v H D;have ho:∀(m:Nat) (q:Value),gv[m]? =some q->(∃t,fs[m]? =some t)->q.ownBlock=none\/q.ownBlock≠some g:=by
   intro m q hq ⟨t',hn⟩;cases F:q.ownBlock with
   |none=>exact Or.inl rfl
   |some b=>
    refine Or.inr λe=> ?_;injection e with e;subst e;have h1:=(h.each m t' q hn hq).2;have U:=h.row.2;rcases h1 with ⟨rfl,_⟩|⟨b',c',hp,rfl,_,hh,_⟩
    ·cases F
    ·rcases U with ⟨U,_⟩|⟨g',hr,hf,U,_,X,_⟩
     ·cases U
     ·cases U;cases F;rw[hh] at X;simp at X
  by_cases I:j=i
  ·subst I;rw[hi] at H;injection H with H;subst H;have A:v=u':=(by rw[List.getElem?_set] at D;have:j<gv.length:=(ZR.1 hu).1;simp[this] at D;exact D.symm);subst A;rw[ZgH,Zi hx];exact OEnts.snoc (Jy hc (a:=⟨g,j,none⟩) hd v)
  ·rw[List.getElem?_set_ne (λe=>I e.symm)] at D;have ht:t≠s:=by
    intro e;subst e;have h1:=Xh.1 hl;obtain ⟨p1,q1⟩:=ZR.1 hi;obtain ⟨p2,q2⟩:=ZR.1 H;rcases Nat.lt_or_gt_of_ne I with h3|h3
    ·exact h1 j i p2 p1 h3 (q2.trans q1.symm)
    ·exact h1 i j p1 p2 h3 (q1.trans q2.symm)
   rw[ZgH,Ze (by rw[hx];exact λe=>ht e.symm)];have h4:=(h.each j t v H D).kept hg (hk j v D I);refine Jy h4 (a:=⟨g,i,none⟩) ?_ u';rcases ho j v D ⟨t,H⟩ with e|e
   ·rw[e];simp
   ·exact e
 ·intro a b v v' D A K q hq;rw[List.getElem?_set] at D A;have he:∀(m:Nat) (q':Value),gv[m]? =some q'->m≠i->∀b,u'.ownBlock=some b->q'.ownBlock≠some b:=by
   intro m q' F hm b J e;rcases V with S|⟨W,hW,S⟩
   ·rw[S] at J;exact h.apart i m u q' hu F (λe=>hm e.symm) b J e
   ·rw[S] at J;injection J with J;obtain ⟨pm,_⟩:=ZR.1 F;have h5:=h.each m (fs[m]'(om)) q' (Zh om) F;have:=(h5.lt b e).2;omega
  by_cases ha:i=a
  ·subst ha;have Q:i<gv.length:=(ZR.1 hu).1;simp only[Us,Zi Q,Y5] at D;subst D;rw[Ze K] at A;exact he b v' A (λe=>K e.symm) q hq
  ·rw[Ze ha] at D;by_cases J:i=b
   ·subst J;have Q:i<gv.length:=(ZR.1 hu).1;simp only[Us,Zi Q,Y5] at A;subst A;intro e;exact he a v D (λe=>ha e.symm) q e hq
   ·rw[Ze J] at A;exact h.apart a b v v' D A K q hq
theorem Grps.form {w:Wq} {B:Nat} {v:Value} {l:List Ent} {fs:List ByteArray} {gv:List Value} (h:Grps w B v l fs gv):∃A c,v= .slice A gv.length c:=by
 rcases h.row.2 with ⟨D,H⟩|⟨g,cap,F,D,_⟩
 ·exact ⟨none,0,by rw[D,H]⟩
 ·exact ⟨_,_,D⟩
theorem Grps.kept {w w2:Wq} {B m:Nat} {v:Value} {l:List Ent} {fs:List ByteArray} {gv:List Value} (h:Grps w B v l fs gv) (H:w.grownBy w2 (some m)) (J:m<B):Grps w2 B v l fs gv:=by
 have A:∀{e:TypeId} {n size:Nat} {u:Value} {xs:List Value},w.ownsRow B e size u n xs->u.ownBlock=none\/u.ownBlock≠some m:=by
  intro e n size u xs I;cases hb:u.ownBlock with
  |none=>exact Or.inl rfl
  |some b=>refine Or.inr λe=> ?_;injection e with e;have:=(I.lt b hb).1;omega
 exact ⟨h.len,h.row.kept H (A h.row),λj s u D F=>(h.each j s u D F).kept H (A (h.each j s u D F)),h.apart⟩
theorem Grps.more {w w2:Wq} {B:Nat} {v v':Value} {l:List Ent} {fs:List ByteArray} {gv:List Value} {s:ByteArray}
 (h:Grps w B v l fs gv) (hs:grp l s= []) (J:w2.ownsRow B 53 1 v' (gv.length+1) (gv++ [sN])) (hg:w.grownBy w2 v.ownBlock):
 Grps w2 B v' l (fs++ [s]) (gv++ [sN]):=by
 have I:=h.len;refine ⟨by simp[I],by simpa using J,?_,?_⟩
 ·intro j t u F D;rcases Y9 j gv.length with A|A
  ·rw[Xg A] at D;rw[Xg om] at F;have Y:=h.each j t u F D;refine Y.kept hg ?_;cases hu':u.ownBlock with
   |none=>exact Or.inl rfl
   |some b=>
    refine Or.inr λe=> ?_;rcases Y.2 with ⟨rfl,_⟩|⟨b',c',X,rfl,_,S,_⟩
    ·cases hu'
    ·rcases h.row.2 with ⟨rfl,_⟩|⟨g',ha,Q,rfl,_,H,_⟩
     ·cases e
     ·cases hu';cases e;rw[S] at H;simp at H
  ·rw[Yt A] at D;rw[Yt om] at F;have U:j - gv.length=0:=by
    rcases YL (j - gv.length) with Z|Z
    ·exact Z
    ·rw[List.getElem?_eq_none (by simp;omega)] at D;cases D
   rw[U] at D;rw[show j - fs.length=0 by omega] at F;simp at D F;subst D F;rw[hs];exact OEnts.nil _ _
 ·intro a b q q' hq V R m K;have last:∀(n:Nat) (u:Value),(gv++ [Value.slice none 0 0])[n]? =some u->∀m,u.ownBlock=some m->gv[n]? =some u:=by
   intro n u D m K;rcases Y9 n gv.length with A|A
   ·rwa [Xg A] at D
   ·rw[Yt A] at D;have:=List.mem_of_getElem? D;simp at this;subst this;cases K
  intro e;exact h.apart a b q q' (last a q hq m K) (last b q' V m e) R m K e
end Go.Proofs.YtnlafkgkcnenfaaGreatDoor
