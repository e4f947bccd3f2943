/- Parts of the proof: contracts and plain laws. -/
import Derived.Test.YthlnaldahkgjnaaGreatDoorV22
namespace Go.Proofs.YthlnaldahkgjnaaGreatDoor
open Go Go.RowKit Go.ChangeShapes Go.WideShapes Go.ChangeAt Go.Joins Go.Deep
set_option linter.unusedVariables false
set_option linter.unusedSimpArgs false
set_option maxRecDepth 100000
set_option maxHeartbeats 16000000
section
namespace Ord
section
variable {α κ:Type} (O:Ord α κ)
variable {O}
variable {G:α→Prop}
def UB (O:Ord α κ) (G:α→Prop) (l:List α) (k:κ) (u:α):Prop:=G u∧O.id u=k∧∀x∈l,O.id x=k→O.op x u=u
theorem Semi.op_id' (_:O.Semi G) {a b:α} (h:O.id a=O.id b):O.id (O.op a b)=O.id a:=by rw[O.op_id a b h,h]
theorem Semi.le_left (S:O.Semi G) {a b:α} (h:O.id a=O.id b) (ha:G a) (hb:G b):O.op a (O.op a b)=O.op a b:=by
 rw[←S.assoc a a b rfl h ha ha hb,S.idem a ha]
theorem Semi.le_right (S:O.Semi G) {a b:α} (h:O.id a=O.id b) (ha:G a) (hb:G b):O.op b (O.op a b)=O.op a b:=by
 rw[S.comm a b h ha hb,S.le_left h.symm hb ha]
theorem Semi.fold (S:O.Semi G) (k:κ):∀(t:List α) (x:α),G x→O.id x=k→(∀y∈t,G y∧O.id y=k)→
 G (t.foldl O.op x)∧O.id (t.foldl O.op x)=k∧O.op x (t.foldl O.op x)=t.foldl O.op x∧(∀y∈t,O.op y (t.foldl O.op x)=t.foldl O.op x)∧
 ∀u,G u→O.id u=k→O.op x u=u→(∀y∈t,O.op y u=u)→O.op (t.foldl O.op x) u=u
 | [],x,hx,hk,_=>⟨hx,hk,S.idem x hx,by simp,fun u _ _ h _=>h⟩
 |y::t,x,hx,hk,h=>by
  have hy:=h y (by simp)
  have hxy:O.id x=O.id y:=hk.trans hy.2.symm
  have hz:O.id (O.op x y)=k:=by rw[S.op_id' hxy,hk]
  obtain ⟨h1,h2,h3,h4,h5⟩:=Semi.fold S k t (O.op x y) (S.good x y hxy hx hy.1) hz fun z hz=>h z (by simp[hz])
  refine ⟨h1,h2,?_,?_,?_⟩
  ·exact S.le_trans (hk.trans hz.symm) (hz.trans h2.symm) hx (S.good x y hxy hx hy.1) h1 (S.le_left hxy hx hy.1) h3
  ·intro z hz'
   rcases List.mem_cons.1 hz' with e|e
   ·subst e;exact S.le_trans (hy.2.trans hz.symm) (hz.trans h2.symm) hy.1 (S.good x z hxy hx hy.1) h1 (S.le_right hxy hx hy.1) h3
   ·exact h4 z e
  ·intro u hu hku hxu hall
   refine h5 u hu hku ?_ fun z hz=>hall z (by simp[hz])
   rw[S.assoc x y u hxy (hy.2.trans hku.symm) hx hy.1 hu,hall y (by simp),hxu]
end
variable {α κ:Type} [DecidableEq κ] {O:Ord α κ} {G:α→Prop}
theorem Semi.got_lub (S:O.Semi G) {l:List α} (hl:∀x∈l,G x) {k:κ} {s:α} (h:O.got l k=some s):UB O G l k s∧∀u,UB O G l k u→O.op s u=u:=by
 unfold Ord.got at h
 generalize hg:(l.filter fun x=>O.id x=k)=g at h
 have hm:∀x,x∈g↔x∈l∧O.id x=k:=by intro x;rw[←hg,List.mem_filter];simp
 cases g with
 |nil=>cases h
 |cons x t=>
  simp only[fold1,Option.some.injEq] at h
  have hx:=(hm x).1 (by simp)
  obtain ⟨h1,h2,h3,h4,h5⟩:=S.fold k t x (hl x hx.1) hx.2 fun y hy=>have:=(hm y).1 (by simp[hy]);⟨hl y this.1,this.2⟩
  rw[h] at h1 h2 h3 h4 h5
  refine ⟨⟨h1,h2,fun y hy hk=> ?_⟩,fun u hu=>h5 u hu.1 hu.2.1 (hu.2.2 x hx.1 hx.2) fun y hy=>have:=(hm y).1 (by simp[hy]);hu.2.2 y this.1 this.2⟩
  rcases List.mem_cons.1 ((hm y).2 ⟨hy,hk⟩) with e|e
  ·subst e;exact h3
  ·exact h4 y e
theorem Semi.canon_good (S:O.Semi G) {l:List α} (hl:∀x∈l,G x):∀x∈O.canon l,G x:=fun x hx=>(S.got_lub hl (((O.canon_is l).2 x).1 hx)).1.1
end Ord
end
section
namespace IsCmp
variable {α:Type} {c:α→α→Int} (h:IsCmp c)
include h
end IsCmp
theorem laterB_iff (x y:Int) (ka kb:ByteArray):laterB (iCmp x y) ka kb=true↔(if iCmp x y=0 then sCmp ka kb else iCmp x y)<0:=by
 unfold laterB
 simp only[Bool.or_eq_true,Bool.and_eq_true,decide_eq_true_eq]
 by_cases h:iCmp x y=0
 ·rw[if_pos h,sCmp_neg];simp[h]
 ·rw[if_neg h];simp[h]
end
theorem qB_prefix_all:((List.range 256).all fun i=>(List.range 256).all fun j=> !(qB (UInt8.ofNat i)).isPrefixOf (qB (UInt8.ofNat j))||i==j)=true:=by decide+kernel
theorem qB_prefix (b c:UInt8) (h:qB b<+:qB c):b=c:=by
 have h1:=List.all_eq_true.1 qB_prefix_all b.toNat (List.mem_range.2 b.toNat_lt)
 have h2:=List.all_eq_true.1 h1 c.toNat (List.mem_range.2 c.toNat_lt)
 simp only[UInt8.ofNat_toNat,Bool.or_eq_true,Bool.not_eq_true',beq_iff_eq] at h2
 rcases h2 with h2|h2
 ·rw[List.isPrefixOf_iff_prefix.2 h] at h2;cases h2
 ·exact UInt8.toNat_inj.1 h2
theorem qB_split {b c:UInt8} {x y:List UInt8} (h:qB b++x=qB c++y):b=c∧x=y:=by
 have h1:qB b<+:qB c++y:=⟨x,h⟩
 have h2:qB c<+:qB c++y:=⟨y,rfl⟩
 have hbc:b=c:=by
  rcases List.prefix_or_prefix_of_prefix h1 h2 with h'|h'
  ·exact qB_prefix b c h'
  ·exact (qB_prefix c b h').symm
 subst hbc
 exact ⟨rfl,List.append_cancel_left h⟩
theorem qB_head_all:((List.range 256).all fun i=>(qB (UInt8.ofNat i)).head? !=some 34 && (qB (UInt8.ofNat i)).head?.isSome)=true:=by decide+kernel
theorem qB_head (b:UInt8) (x y:List UInt8):qB b++x≠34::y:=by
 intro h
 have h1:=List.all_eq_true.1 qB_head_all b.toNat (List.mem_range.2 b.toNat_lt)
 simp only[UInt8.ofNat_toNat,Bool.and_eq_true,bne_iff_ne,ne_eq] at h1
 cases hq:qB b with
 |nil=>rw[hq] at h1;simp at h1
 |cons c t=>
  rw[hq] at h h1
  simp only[List.cons_append,List.cons.injEq] at h
  rw[h.1] at h1
  simp at h1
theorem flat_split:∀(l m r s:List UInt8),l.flatMap qB++34::r=m.flatMap qB++34::s→l=m∧r=s
 | [],[],r,s,h=>by simpa using h
 | [],c::m,r,s,h=>by
  simp only[List.flatMap_nil,List.nil_append,List.flatMap_cons,List.append_assoc] at h
  exact absurd h.symm (qB_head c _ _)
 |b::l,[],r,s,h=>by
  simp only[List.flatMap_nil,List.nil_append,List.flatMap_cons,List.append_assoc] at h
  exact absurd h (qB_head b _ _)
 |b::l,c::m,r,s,h=>by
  simp only[List.flatMap_cons,List.append_assoc] at h
  obtain ⟨e1,h1⟩:=qB_split h
  obtain ⟨e2,h2⟩:=flat_split l m r s h1
  exact ⟨by rw[e1,e2],h2⟩
theorem quote_split {l m r s:List UInt8} (h:quoteL l++r=quoteL m++s):l=m∧r=s:=by
 unfold quoteL at h
 simp only[List.cons_append,List.append_assoc,List.cons.injEq,true_and,List.nil_append] at h
 exact flat_split l m r s h
def goodE (e:Ent):Prop:=vld e.id=true∧vld e.title=true∧vld e.link=true∧vld e.content=true
theorem str_inj {l m:List UInt8} (h:str l=str m):l=m:=by
 have:=congrArg (fun s:ByteArray=>s.data.toList) h
 simpa using this
theorem entryKey_good {e:Ent} (h:goodE e):entryKey e=str (jtext (entJ e)):=by
 obtain ⟨h1,h2,h3,h4⟩:=h
 unfold vld at h1 h2 h3 h4
 unfold entryKey jwrite
 rw[if_pos]
 unfold entJ
 rw[jvalid_arr]
 simp[jvalid,h1,h2,h3,h4]
theorem jtext_str' (s:ByteArray):jtext (.str s)=quoteL s.data.toList:=by rw[jtext]
theorem jtext_int' (n:Int):jtext (.int n)=Lib.itoa n:=by rw[jtext]
theorem entryKey_inj {a b:Ent} (ha:goodE a) (hb:goodE b) (hu:a.upd=b.upd) (h:entryKey a=entryKey b):a=b:=by
 rw[entryKey_good ha,entryKey_good hb] at h
 have h:=str_inj h
 unfold entJ at h
 rw[jtext_arr,jtext_arr] at h
 simp only[List.map_cons,List.map_nil,jtext_str',jtext_int',commas,List.cons.injEq,true_and,List.append_assoc,List.cons_append] at h
 obtain ⟨e1,h⟩:=quote_split h
 simp only[List.cons.injEq,true_and] at h
 obtain ⟨e2,h⟩:=quote_split h
 simp only[List.cons.injEq,true_and] at h
 obtain ⟨e3,h⟩:=quote_split h
 simp only[List.cons.injEq,true_and] at h
 obtain ⟨e4,h⟩:=quote_split h
 cases a;cases b
 simp only at e1 e2 e3 e4 hu
 rw[data_inj e1,data_inj e2,data_inj e3,data_inj e4,hu]
theorem pk_assoc {α:Type} {c:α→α→Int} (h:IsCmp c) (a b d:α):pk c (pk c a b) d=pk c a (pk c b d):=by
 unfold pk
 by_cases h1:c a b<0<;>by_cases h2:c b d<0
 ·simp only[if_pos h1,if_pos h2,if_pos (h.lt_trans a b d h1 h2)]
 ·simp only[if_pos h1,if_neg h2]
 ·simp only[if_neg h1,if_pos h2]
 ·have h3:¬c a d<0:=by
   have:=h.trans d b a (by have:=h.anti b d;omega) (by have:=h.anti a b;omega)
   have:=h.anti a d
   omega
  simp only[if_neg h1,if_neg h2,if_neg h3]
theorem pk_comm {α:Type} {c:α→α→Int} (h:IsCmp c) (a b:α) (he:c a b=0→a=b):pk c a b=pk c b a:=by
 have:=h.anti a b
 unfold pk
 by_cases h1:c a b<0
 ·rw[if_pos h1,if_neg (by omega)]
 ·by_cases h2:c b a<0
  ·rw[if_neg h1,if_pos h2]
  ·rw[if_neg h1,if_neg h2];exact he (by omega)
theorem pk_self {α:Type} (c:α→α→Int) (a:α):pk c a a=a:=by unfold pk;split<;>rfl
theorem pk_either {α:Type} (c:α→α→Int) (a b:α):pk c a b=a∨pk c a b=b:=by unfold pk;split<;>simp
def keyCmpE (a b:Ent):Int:=if iCmp a.upd b.upd=0 then sCmp (entryKey a) (entryKey b) else iCmp a.upd b.upd
theorem keyCmpE_is:IsCmp keyCmpE:=IsCmp.lex (α:=Ent) (c:=fun a b=>iCmp a.upd b.upd) (d:=fun a b=>sCmp (entryKey a) (entryKey b)) (iCmp_is.comap fun e:Ent=>e.upd) (sCmp_is.comap fun e:Ent=>entryKey e)
theorem laterE_pk (a b:Ent):laterE a b=pk keyCmpE a b:=by
 have:laterB (iCmp a.upd b.upd) (entryKey a) (entryKey b)=true↔keyCmpE a b<0:=laterB_iff a.upd b.upd (entryKey a) (entryKey b)
 unfold laterE pk
 by_cases h:laterB (iCmp a.upd b.upd) (entryKey a) (entryKey b)=true
 ·rw[if_pos h,if_pos (this.1 h)]
 ·rw[if_neg h,if_neg (fun k=>h (this.2 k))]
theorem iCmp_zero {x y:Int} (h:iCmp x y=0):x=y:=by
 unfold iCmp at h
 by_cases h1:x<y
 ·rw[if_pos h1] at h;omega
 ·rw[if_neg h1] at h
  by_cases h2:y<x
  ·rw[if_pos h2] at h;omega
  ·omega
theorem keyCmpE_eq {a b:Ent} (ha:goodE a) (hb:goodE b) (h:keyCmpE a b=0):a=b:=by
 unfold keyCmpE at h
 split at h
 ·rename_i h';exact entryKey_inj ha hb (iCmp_zero h') (sCmp_eq h)
 ·rename_i h';exact absurd h h'
theorem semiE:ordE.Semi goodE where
 good a b _ ha hb:=by show goodE (laterE a b);rw[laterE_pk];rcases pk_either keyCmpE a b with h|h<;>rw[h]<;>assumption
 comm a b _ ha hb:=by show laterE a b=laterE b a;rw[laterE_pk,laterE_pk];exact pk_comm keyCmpE_is a b (keyCmpE_eq ha hb)
 assoc a b c _ _ _ _ _:=by show laterE (laterE a b) c=laterE a (laterE b c);simp only[laterE_pk];exact pk_assoc keyCmpE_is a b c
 idem a _:=by show laterE a a=a;rw[laterE_pk];exact pk_self _ a
theorem isSp_high {c:Nat} (h:128≤c):isSp (c:Int)=false:=by
 unfold isSp;simp only[decide_eq_false_iff_not];omega
theorem collGo_text:∀(rs:List Nat) (out:List UInt8) (g:Bool),(∀r∈rs,isChar r=true)→isText out→isText (collGo (rs.flatMap encN) out g)
 | [],out,g,_,h=>by rw[List.flatMap_nil];exact h
 |r::rs,out,g,hr,h=>by
  have h1:isChar r=true:=hr r (by simp)
  have hs:=isChar_scalar h1
  rw[List.flatMap_cons]
  by_cases ha:r<128∧isSp r=true
  ·rw[encN_ascii ha.1]
   show isText (collGo (UInt8.ofNat r::rs.flatMap encN) out g)
   rw[collGo,if_pos (by rw[toNat_ofNat (by omega)];exact ha.2)]
   exact collGo_text rs out _ (fun r h'=>hr r (by simp[h'])) h
  ·have hall:∀c∈encN r,isSp c.toNat=false:=by
    by_cases h2:r<128
    ·rw[encN_ascii h2]
     intro c hc
     simp only[List.mem_cons,List.mem_nil_iff,or_false] at hc
     subst hc
     rw[toNat_ofNat (by omega)]
     cases hb:isSp (r:Int) with
     |false=>rfl
     |true=>exact absurd ⟨h2,hb⟩ ha
    ·exact fun c hc=>isSp_high (encN_high hs (by omega) c hc)
   rw[collGo_run _ _ _ _ (by intro e;have:=encN_len hs;rw[e] at this;simp at this) hall]
   refine collGo_text rs _ _ (fun r h'=>hr r (by simp[h'])) (isText_app (isText_app h ?_) (isText_enc h1))
   cases g
   ·exact isText_nil
   ·exact ⟨[32],by simp[isChar],rfl⟩
theorem coll_text {l:List UInt8} (h:isText l):isText (coll l):=by
 obtain ⟨rs,h,rfl⟩:=h
 exact collGo_text rs [] false h isText_nil
def Fixed (out:List UInt8):Prop:=∀rest,collGo (out++rest) [] false=collGo rest out false
theorem collGo_fixed:∀(l out:List UInt8) (g:Bool),Fixed out→(g=true→out≠ [])→Fixed (collGo l out g)
 | [],out,g,h,_=>h
 |c::t,out,g,h,hg=>by
  unfold collGo
  by_cases hc:isSp c.toNat=true
  ·rw[if_pos hc]
   refine collGo_fixed t out _ h fun e=> ?_
   simpa using e
  ·rw[if_neg hc]
   refine collGo_fixed t _ false ?_ (by simp)
   intro rest
   cases g with
   |false=>
    simp only[Bool.false_eq_true,if_false,List.append_nil,List.append_assoc,List.cons_append,List.nil_append]
    rw[h,collGo,if_neg hc]
    simp
   |true=>
    have hne:out.isEmpty=false:=by simpa using hg rfl
    simp only[if_true,List.append_assoc,List.cons_append,List.nil_append]
    rw[h,collGo,if_pos (by decide),hne,collGo,if_neg hc]
    simp
theorem coll_coll (l:List UInt8):coll (coll l)=coll l:=by
 have h:=collGo_fixed l [] false (fun rest=>rfl) (by simp) []
 rw[List.append_nil] at h
 exact h
theorem collapse_collapse (s:ByteArray):collapse (collapse s)=collapse s:=by
 unfold collapse;rw[str_list,coll_coll]
theorem checkS_collapse {s:ByteArray} (h:(checkS s).2=0):(checkS (collapse s)).2=0:=by
 unfold checkS collapse at*
 rw[str_list,check_iff]
 exact coll_text ((check_iff _).1 h)
theorem valid_collapse {s:ByteArray} (h:(checkS s).2=0):validS (collapse s)=true:=by
 unfold validS
 rw[checkS_collapse h,collapse_collapse]
 simp
section
section
variable {α κ:Type} [DecidableEq κ] {ok:α→Bool} {O:Ord α κ}
end
theorem okE_good {e:Ent} (h:okE e=true):goodE e:=by
 have h:=(okE_iff.1 h).1
 exact ⟨vld_of (h _ (by simp[strsE])),vld_of (h _ (by simp[strsE])),vld_of (h _ (by simp[strsE])),vld_of (h _ (by simp[strsE]))⟩
theorem canon_okL {α κ:Type} [DecidableEq κ] {ok:α→Bool} {O:Ord α κ} {l:List α} (h:∀x∈O.canon l,ok x=true):okL ok O (O.canon l)=true:=
 okL_iff.2 ⟨h,(O.canon_is l).1,(O.canon_is l).ids⟩
theorem semiE':ordE.Semi (fun e=>okE e=true) where
 good a b _ ha hb:=by show okE (laterE a b)=true;rw[laterE_pk];rcases pk_either keyCmpE a b with h|h<;>rw[h]<;>assumption
 comm a b h ha hb:=semiE.comm a b h (okE_good ha) (okE_good hb)
 assoc a b c h k ha hb hc:=semiE.assoc a b c h k (okE_good ha) (okE_good hb) (okE_good hc)
 idem a ha:=semiE.idem a (okE_good ha)
theorem okE_coll {e:Ent} (h:errE e=0):okE (collE e)=true:=by
 obtain ⟨h1,h2,h3⟩:=errE_zero.1 h
 have h1:=firstErr_zero.1 h1
 refine okE_iff.2 ⟨fun s hs=> ?_,h2,h3⟩
 have:∃t∈strsE e,s=collapse t:=by
  simp only[strsE,collE,List.mem_cons,List.mem_nil_iff,or_false] at hs⊢
  rcases hs with rfl|rfl|rfl|rfl
  ·exact ⟨_,Or.inl rfl,rfl⟩
  ·exact ⟨_,Or.inr (Or.inl rfl),rfl⟩
  ·exact ⟨_,Or.inr (Or.inr (Or.inl rfl)),rfl⟩
  ·exact ⟨_,Or.inr (Or.inr (Or.inr rfl)),rfl⟩
 obtain ⟨t,ht,rfl⟩:=this
 exact valid_collapse (h1 t ht)
theorem okF_coll {f:Fd} (h:errF f=0):okF (collF f)=true:=by
 obtain ⟨h0,h5⟩:=errF_zero.1 h
 obtain ⟨h1,h2,h3,h4,h6⟩:=headF_zero.1 h0
 have h1:=firstErr_zero.1 h1
 have h5:=errEs_zero.1 h5
 refine okF_iff.2 ⟨okH_iff.2 ⟨by simpa [collF] using h4,fun s hs=> ?_,h2,h6,fun p hp=> ?_⟩,canon_okL (semiE'.canon_good fun x hx=> ?_)⟩
 ·have:∃t∈strsF f,s=collapse t:=by
   simp only[strsF,collF,List.mem_append,List.mem_map,List.mem_cons,List.mem_nil_iff,or_false] at hs⊢
   rcases hs with ⟨p,hp,rfl⟩|rfl|rfl|rfl
   ·exact ⟨p,Or.inl hp,rfl⟩
   ·exact ⟨_,Or.inr (Or.inl rfl),rfl⟩
   ·exact ⟨_,Or.inr (Or.inr (Or.inl rfl)),rfl⟩
   ·exact ⟨_,Or.inr (Or.inr (Or.inr rfl)),rfl⟩
  obtain ⟨t,ht,rfl⟩:=this
  exact valid_collapse (h1 t ht)
 ·obtain ⟨q,hq,rfl⟩:=List.mem_map.1 hp
  exact h3 q hq
 ·obtain ⟨q,hq,rfl⟩:=List.mem_map.1 hx
  exact okE_coll (h5 q hq)
end
section
theorem sizes_coll:∀l:List ByteArray,sizes (l.map collapse)≤sizes l
 | []=>Nat.le_refl _
 |s::t=>by
  have h:=sizes_coll t
  have a:=collapse_size s
  unfold sizes at*
  simp only[List.map_cons,List.sum_cons] at h⊢
  omega
theorem fok_coll {f:Fd} (h:fok f):fok (collF f):=by
 obtain ⟨h1,h2⟩:=h
 refine ⟨h1,?_⟩
 have a:=collapse_size f.id
 have b:=collapse_size f.title
 have c:=collapse_size f.link
 have d:=sizes_coll f.path
 show (f.path.map collapse).length+sizes (f.path.map collapse)+(collapse f.id).size+(collapse f.title).size+(collapse f.link).size≤16777216
 rw[List.length_map]
 omega
theorem fold_pick:∀(t:List Ent) (x:Ent),t.foldl laterE x∈x::t
 | [],x=>by simp
 |y::t,x=>by
  have h:=fold_pick t (laterE x y)
  rw[List.foldl_cons]
  rcases List.mem_cons.1 h with h|h
  ·rw[h]
   unfold laterE
   split<;>simp
  ·simp[h]
theorem canonE_mem {l:List Ent} {x:Ent} (h:x∈ordE.canon l):x∈l:=by
 have h1:=((ordE.canon_is l).2 x).1 h
 unfold Ord.got at h1
 cases hf:l.filter fun y=>decide (ordE.id y=ordE.id x) with
 |nil=>rw[hf] at h1;cases h1
 |cons y t=>
  rw[hf] at h1
  have h2:t.foldl laterE y=x:=by
   unfold Ord.fold1 at h1
   injection h1
  have h3:=fold_pick t y
  rw[h2,←hf] at h3
  exact (List.mem_filter.1 h3).1
section
variable {α κ:Type} (O:Ord α κ)
theorem ins_len:∀(l:List α) (e:α),(O.ins l e).length=l.length+1
 | [],_=>rfl
 |x::t,e=>by
  unfold Ord.ins
  split
  ·rfl
  ·rw[List.length_cons,ins_len t e,List.length_cons]
end
section
variable {α κ:Type} [DecidableEq κ] (O:Ord α κ)
theorem put_len (l:List α) (e:α):(O.put l e).length≤l.length+1:=by
 unfold Ord.put
 rw[ins_len,O.scan_fst]
 have:=List.length_filter_le (fun x=> !decide (O.id x=O.id e)) l
 omega
theorem fold_put_len:∀(l s:List α),(l.foldl O.put s).length≤s.length+l.length
 | [],s=>by simp
 |x::t,s=>by
  have h:=fold_put_len t (O.put s x)
  have:=put_len O s x
  rw[List.foldl_cons,List.length_cons]
  omega
theorem canon_len (l:List α):(O.canon l).length≤l.length:=by
 have:=fold_put_len O l []
 unfold Ord.canon
 simpa using this
end
theorem fokS_coll {f:Fd} (h:fokS f):fokS (collF f):=by
 refine ⟨fok_coll h.1,?_,fun e he=> ?_⟩
 ·show (ordE.canon (f.ents.map collE)).length≤1000000
  have:=canon_len ordE (f.ents.map collE)
  rw[List.length_map] at this
  have:=h.2.1
  omega
 ·obtain ⟨x,hx,rfl⟩:=List.mem_map.1 (canonE_mem (show e∈ordE.canon (f.ents.map collE) from he))
  exact eok_coll (h.2.2 x hx)
end
section
set_option linter.unusedSimpArgs false
theorem check_valid_err:∀(n a:Nat) (l:List UInt8),Lib.validD l=true→(checkGo n a l).2=0∨(checkGo n a l).2=6
 |0,_,_,_=>Or.inl rfl
 |n+1,a,l,hv=>by
  unfold checkGo
  by_cases hl:l= []
  ·rw[if_pos hl];exact Or.inl rfl
  ·rw[if_neg hl]
   have hva:=valid_at l 0 (List.length_pos_iff.2 hl)
   rw[List.drop_zero,hv] at hva
   have h0:(dec l).2≠0:=by intro h;rw[if_pos h] at hva;cases hva
   rw[if_neg h0,Nat.zero_add] at hva
   rw[if_neg h0]
   split
   ·exact Or.inr rfl
   ·exact check_valid_err n _ _ hva.symm
theorem checkS_err {s:ByteArray} (h:Lib.validD s.data.toList=true):(checkS s).2=0∨(checkS s).2=6:=check_valid_err _ _ _ h
theorem valid_noS:Lib.validD noS.data.toList=true:=by decide+kernel
theorem sJ_valid {N:Nat} {j:JO} (h:jgood N j):Lib.validD (sJ j).data.toList=true:=by
 cases j with
 |str a s=>rw[jgood] at h;exact h.2.2
 |_=>exact valid_noS
theorem atJ_lt {N:Nat} {j:JO} (h:jgood N j):atJ j<N:=by
 cases j<;>rw[jgood] at h<;>first|exact h.1|exact h
def okErr (N:Nat) (e:Nat×Nat):Prop:=e.1<N∧(e.2=18∨e.2=19∨e.2=20∨e.2=21∨e.2=6)
theorem chkJ_err {N:Nat} {j:JO} (h:jgood N j):∀{l:List ByteArray} {t:Bool} {e:Nat×Nat},chkJ j t l=some e→okErr N e
 | [],_,_,hc=>by simp[chkJ] at hc
 |n::l,t,e,hc=>by
  unfold chkJ at hc
  cases hm:memJ j n with
  |none=>rw[hm] at hc;exact chkJ_err h hc
  |some x=>
   rw[hm] at hc
   have hx:=memJ_in h hm
   simp only at hc
   split at hc
   ·exact chkJ_err h hc
   ·split at hc
    ·injection hc with hc;subst hc;exact ⟨atJ_lt hx,by simp⟩
    ·split at hc
     ·rename_i h0
      injection hc with hc;subst hc
      refine ⟨atJ_lt hx,?_⟩
      rcases checkS_err (sJ_valid hx) with h1|h1
      ·exact absurd h1 h0
      ·simp[h1]
     ·exact chkJ_err h hc
theorem dateJ_err {N:Nat} {j:JO} (h:jgood N j):∀{l:List ByteArray} {e:Nat×Nat},dateJ j l= .error e→okErr N e
 | [],_,hc=>by simp[dateJ] at hc
 |n::l,e,hc=>by
  unfold dateJ at hc
  cases hm:memJ j n with
  |none=>rw[hm] at hc;exact dateJ_err h hc
  |some x=>
   rw[hm] at hc
   simp only at hc
   split at hc
   ·cases hc
   ·injection hc with hc;subst hc;exact ⟨atJ_lt (memJ_in h hm),by simp⟩
theorem entryJ_err {N:Nat} {j:JO} (h:jgood N j) {e:Nat×Nat} (hc:entryJ j= .error e):okErr N e:=by
 unfold entryJ at hc
 split at hc
 ·injection hc with hc;subst hc;exact ⟨atJ_lt h,by simp⟩
 ·split at hc
  ·rename_i e' he
   injection hc with hc;subst hc;exact chkJ_err h he
  ·split at hc
   ·injection hc with hc;subst hc;exact ⟨atJ_lt h,by simp⟩
   ·split at hc
    ·rename_i e' he
     injection hc with hc;subst hc;exact dateJ_err h he
    ·cases hc
theorem entsJ_err {N:Nat}:∀{l:List JO} {e:Nat×Nat},(∀j∈l,jgood N j)→entsJ l= .error e→okErr N e
 | [],_,_,hc=>by simp[entsJ] at hc
 |j::t,e,h,hc=>by
  unfold entsJ at hc
  split at hc
  ·rename_i e' he
   injection hc with hc;subst hc;exact entryJ_err (h j (List.mem_cons_self ..)) he
  ·split at hc
   ·rename_i e' he
    injection hc with hc;subst hc;exact entsJ_err (fun x hx=>h x (List.mem_cons_of_mem _ hx)) he
   ·cases hc
theorem decJ_err {N:Nat} {j:JO} (h:jgood N j) {e:Nat×Nat} (hc:decJ j= .error e):okErr N e:=by
 unfold decJ at hc
 split at hc
 ·injection hc with hc;subst hc;exact ⟨atJ_lt h,by simp⟩
 ·split at hc
  ·rename_i e' he
   injection hc with hc;subst hc;exact chkJ_err h he
  ·split at hc
   ·injection hc with hc;subst hc;exact ⟨atJ_lt h,by simp⟩
   ·split at hc
    ·rename_i e' he
     injection hc with hc;subst hc;exact dateJ_err h he
    ·split at hc
     ·cases hc
     ·rename_i x hx
      have hg:=memJ_in h hx
      split at hc
      ·injection hc with hc;subst hc;exact ⟨atJ_lt hg,by simp⟩
      ·split at hc
       ·rename_i e' he
        injection hc with hc;subst hc
        refine entsJ_err (fun y hy=> ?_) he
        cases x with
        |arr a l=>rw[jgood] at hg;exact hg.2.2 y hy
        |_=>simp[itemsJ] at hy
       ·cases hc
end
section
set_option linter.unusedSimpArgs false
theorem norm_fokJ {f:Fd} (h:fokS f):fokS (normF f):=by
 unfold normF
 split
 ·exact fokS_coll h
 ·exact ⟨⟨⟨by decide,by decide⟩,by decide⟩,by decide,fun e he=>absurd he (by simp[zeroF])⟩
theorem okF_norm {f:Fd} (h:errF f=0):okF (normF f)=true:=by
 unfold normF
 rw[if_pos h]
 exact okF_coll h
theorem itsW_len {N:Nat} {j:JO} (h:jgood N j):(itsW j).length≤N:=by
 unfold itsW
 cases hm:memJ j nItems with
 |none=>exact Nat.zero_le _
 |some x=>
  have hg:=memJ_in h hm
  show (itemsJ x).length≤N
  cases x with
  |arr a l=>rw[jgood] at hg;exact hg.2.1
  |_=>exact Nat.zero_le _
theorem dec_norm {N:Nat} {j:JO} {f:Fd} (h:jgood N j) (hN:N≤5000) (hf:decJ j= .ok f):
 okF (normF f)=true∧(normF f).path= []∧fokS (normF f)∧smallJ (normF f)∧wrF 5000 (normF f)∧(normF f).ents.length≤10000:=by
 obtain ⟨h1,h2,h3⟩:=decJ_size (M:=5000) hN (by decide) h hf
 obtain ⟨hp,he⟩:=decJ_ok hf
 have hk:=(dec_small h (by omega) hf).1
 have ho:=okF_norm he
 have hz:(∀s∈ [(normF f).id,(normF f).title,(normF f).link],s.size≤5000)∧∀e∈(normF f).ents,∀s∈strsE e,s.size≤5000:=by
  unfold normF
  rw[if_pos he]
  refine ⟨fun s hs=> ?_,fun e hm s hs=> ?_⟩
  ·have a1:=h1 f.id (by simp)
   have a2:=h1 f.title (by simp)
   have a3:=h1 f.link (by simp)
   have b1:=collapse_size f.id
   have b2:=collapse_size f.title
   have b3:=collapse_size f.link
   simp only[collF,List.mem_cons,List.not_mem_nil,or_false] at hs
   rcases hs with rfl|rfl|rfl<;>omega
  ·obtain ⟨x,hx,rfl⟩:=List.mem_map.1 (canonE_mem (show e∈ordE.canon (f.ents.map collE) from hm))
   have hq:=h2 x hx
   unfold strsE collE at hs
   simp only[List.mem_cons,List.not_mem_nil,or_false] at hs
   rcases hs with rfl|rfl|rfl|rfl
   ·exact Nat.le_trans (collapse_size _) (hq _ (by simp[strsE]))
   ·exact Nat.le_trans (collapse_size _) (hq _ (by simp[strsE]))
   ·exact Nat.le_trans (collapse_size _) (hq _ (by simp[strsE]))
   ·exact Nat.le_trans (collapse_size _) (hq _ (by simp[strsE]))
 refine ⟨ho,collF_path hp,norm_fokJ hk,⟨fun s hs=>Nat.le_trans (hz.1 s hs) (by decide),fun e hm s hs=>Nat.le_trans (hz.2 e hm s hs) (by decide)⟩,okF_wr ho hz.1 hz.2,?_⟩
 unfold normF
 rw[if_pos he]
 show (ordE.canon (f.ents.map collE)).length≤10000
 have:=canon_len ordE (f.ents.map collE)
 rw[List.length_map] at this
 omega
end
section
set_option linter.unusedSimpArgs false
theorem law22_any (s:ByteArray) (w:World) (hE:Env w) (hs:s.size≤reachBytes):
 Calls Tryz.prog 7 #[.string s] w fun e w'=>e= .returned (.bool true)∧Ext w w':=by
 have HAL:=gd (fun (W':World) (h:Ext w W')=>alive18_any W' (hE.ext h))
 have HPS:=gd (parsed_any s w hs)
 cases hj:docJ s with
 |none=>
  rw[hj] at HPS
  clear hj
  go_enter Tryz.func7,Tryz.ntmps7
  go_wp2_with (first|(refine wpList_store_row rfl 25 (.tmp 3) (.tmp 15) rfl w2.heap.size #[.int .i64 0,.bool false,.int .i64 0,.string ⟨#[]⟩,.slice none 0 0,.slice none 0 0,.int .i64 0] rfl rfl _ _ hk2 size_valJ rfl oneJ ?_;rw[hs2])|(go_at_call 11;(have hz:=HAL.out _ hy2);(with_reducible refine Calls.mono hz ?_);clear hz;rintro e w3 ⟨rfl,hx3⟩;(have hy3:=hy2.trans hx3))|(go_at_call 10;(have hz:=HPS.out);(with_reducible refine Calls.mono hz ?_);clear hz;rintro e w2 ⟨rfl,hx2⟩;(obtain ⟨W2,hW2⟩:∃W0,w2.alloc (.cells #[.int .i64 0,.bool false,.int .i64 0,.string ⟨#[]⟩,.slice none 0 0,.slice none 0 0,.int .i64 0] 25)=W0:=⟨_,rfl⟩);(have hv2:Ext w2 W2:=by rw[←hW2];exact (Ext.refl _).alloc _);(have hb2:∀i v,(#[.int .i64 0,.bool false,.int .i64 0,.string ⟨#[]⟩,.slice none 0 0,.slice none 0 0,.int .i64 0]:Array Value)[i]? =some v→W2.cell? ⟨w2.heap.size,i,none⟩=some v:=fun i v h=>by rw[←hW2];exact (Ext.refl (w2.alloc _)).boxed i v h);(have HB2:Hid (∀W':World,Ext W2 W'→W'.cell? ⟨w2.heap.size,0,none⟩=some (.int .i64 0)∧W'.cell? ⟨w2.heap.size,1,none⟩=some (.bool false)∧W'.cell? ⟨w2.heap.size,2,none⟩=some (.int .i64 0)∧W'.cell? ⟨w2.heap.size,3,none⟩=some (.string ⟨#[]⟩)∧W'.cell? ⟨w2.heap.size,4,none⟩=some (.slice none 0 0)∧W'.cell? ⟨w2.heap.size,5,none⟩=some (.slice none 0 0)∧W'.cell? ⟨w2.heap.size,6,none⟩=some (.int .i64 0)):=gd fun W' h=>⟨h.cell (hb2 0 _ rfl),h.cell (hb2 1 _ rfl),h.cell (hb2 2 _ rfl),h.cell (hb2 3 _ rfl),h.cell (hb2 4 _ rfl),h.cell (hb2 5 _ rfl),h.cell (hb2 6 _ rfl)⟩);clear hb2;(have hs2:=hx2.trans hv2);(have hy2:=(Ext.refl w).trans hs2);(obtain ⟨q1_0_0,q1_0_1,q1_0_2,q1_0_3,q1_0_4,q1_0_5,q1_0_6⟩:=HB2.out _ (Ext.refl W2));(have hs2:W2.setRow w2.heap.size #[.int .i64 0,.bool false,.int .i64 0,.string ⟨#[]⟩,.slice none 0 0,.slice none 0 0,.int .i64 0]=W2:=by rw[←hW2,setRow_new18]);(have hk2:W2.heap[w2.heap.size]? =some (.cells #[.int .i64 0,.bool false,.int .i64 0,.string ⟨#[]⟩,.slice none 0 0,.slice none 0 0,.int .i64 0] 25 (0,0)):=by rw[←hW2];exact heap_alloc_new w2 _)))
  go_ret
  exact ⟨rfl,hy3⟩
 |some o=>
  rw[hj] at HPS
  have hs5:s.size≤5000∧jsonP s.data.toList=some o:=by
   unfold docJ at hj
   split at hj
   ·cases hj
   ·exact ⟨by omega,hj⟩
  have hgd:=jsonP_ok hs5.2
  rw[data_len] at hgd
  have HDE:=gd (fun (w':World) (cs:List Value) (hx:Ext w w') (hr:RJ w' o cs)=>jdecode_any 5000 o cs w' hr (jsz_good hs5.1 o hgd) (by decide) (hE.ext hx) (fun f hf=>(dec_small hgd (by omega) hf).1) (by have:=itsW_len hgd;omega))
  have hsp:0<s.size:=by have:=atJ_lt hgd;omega
  clear hj
  cases hd:decJ o with
  |error f=>
   rw[hd] at HDE
   obtain ⟨f1,f2⟩:=f
   obtain ⟨he1,he2⟩:=decJ_err hgd hd
   dsimp only at he1 he2
   clear hd hgd hs5
   have HD2:Hid (∀(w':World) (cs:List Value),Ext w w'→RJ w' o cs→Calls Tryz.prog 12 #[.agg cs.toArray] w' fun e w2=>e= .returned (.tuple #[.agg #[.slice none 0 0,.string ⟨#[]⟩,.string ⟨#[]⟩,.string ⟨#[]⟩,.int .i64 0,.slice none 0 0],.int .i64 (f1:Nat),.int .i64 (f2:Nat)])∧Ext w' w2):=HDE
   have hA:(0:Int)≤(f1:Int):=by omega
   have hB:decide (f1<s.size)=true:=decide_eq_true he1
   obtain ⟨E,hE2,hcs⟩:∃E:Int,(f2:Int)=E∧(E=18∨E=19∨E=20∨E=21∨E=6):=⟨_,rfl,by omega⟩
   rw[hE2] at HD2
   clear hE2 he2 HDE hsp
   rcases hcs with rfl|rfl|rfl|rfl|rfl
   all_goals go_enter Tryz.func7,Tryz.ntmps7
   all_goals go_wp2_with (first|(refine wpList_store_row rfl 32 (.tmp 5) (.tmp 23) rfl w3.heap.size #[.slice none 0 0,.string ⟨#[]⟩,.string ⟨#[]⟩,.string ⟨#[]⟩,.int .i64 0,.slice none 0 0] rfl rfl _ _ hk3 size_fd18 rfl oneF18 ?_;rw[hs3])|(go_at_call 11;(have hz:=HAL.out _ hy3);(with_reducible refine Calls.mono hz ?_);clear hz;rintro e w4 ⟨rfl,hx4⟩;(have hy4:=hy3.trans hx4))|(go_at_call 12;(have hz:=HD2.out _ _ hy2 HR2.out);(refine Calls.mono hz ?_);clear hz;rintro e w3 ⟨rfl,hx3⟩;(obtain ⟨W3,hW3⟩:∃W0,w3.alloc (.cells #[.slice none 0 0,.string ⟨#[]⟩,.string ⟨#[]⟩,.string ⟨#[]⟩,.int .i64 0,.slice none 0 0] 32)=W0:=⟨_,rfl⟩);(have hv3:Ext w3 W3:=by rw[←hW3];exact (Ext.refl _).alloc _);(have hb3:∀i v,(#[.slice none 0 0,.string ⟨#[]⟩,.string ⟨#[]⟩,.string ⟨#[]⟩,.int .i64 0,.slice none 0 0]:Array Value)[i]? =some v→W3.cell? ⟨w3.heap.size,i,none⟩=some v:=fun i v h=>by rw[←hW3];exact (Ext.refl (w3.alloc _)).boxed i v h);(have HB3:Hid (∀W':World,Ext W3 W'→W'.cell? ⟨w3.heap.size,0,none⟩=some (.slice none 0 0)∧W'.cell? ⟨w3.heap.size,1,none⟩=some (.string ⟨#[]⟩)∧W'.cell? ⟨w3.heap.size,2,none⟩=some (.string ⟨#[]⟩)∧W'.cell? ⟨w3.heap.size,3,none⟩=some (.string ⟨#[]⟩)∧W'.cell? ⟨w3.heap.size,4,none⟩=some (.int .i64 0)∧W'.cell? ⟨w3.heap.size,5,none⟩=some (.slice none 0 0)):=gd fun W' h=>⟨h.cell (hb3 0 _ rfl),h.cell (hb3 1 _ rfl),h.cell (hb3 2 _ rfl),h.cell (hb3 3 _ rfl),h.cell (hb3 4 _ rfl),h.cell (hb3 5 _ rfl)⟩);clear hb3;(have hs3:=hx3.trans hv3);(have hy3:=hy2.trans hs3);(have hc0_3:=(Ext.refl W2).trans hs3);(obtain ⟨q2_0_0,q2_0_1,q2_0_2,q2_0_3,q2_0_4,q2_0_5,q2_0_6⟩:=HB2.out _ hc0_3);clear q1_0_0 q1_0_1 q1_0_2 q1_0_3 q1_0_4 q1_0_5 q1_0_6;(obtain ⟨q2_1_0,q2_1_1,q2_1_2,q2_1_3,q2_1_4,q2_1_5⟩:=HB3.out _ (Ext.refl W3));(have hs3:W3.setRow w3.heap.size #[.slice none 0 0,.string ⟨#[]⟩,.string ⟨#[]⟩,.string ⟨#[]⟩,.int .i64 0,.slice none 0 0]=W3:=by rw[←hW3,setRow_new18]);(have hk3:W3.heap[w3.heap.size]? =some (.cells #[.slice none 0 0,.string ⟨#[]⟩,.string ⟨#[]⟩,.string ⟨#[]⟩,.int .i64 0,.slice none 0 0] 32 (0,0)):=by rw[←hW3];exact heap_alloc_new w3 _))|(go_at_call 10;(have hz:=HPS.out);(with_reducible refine Calls.mono hz ?_);clear hz;rintro e w2 ⟨⟨A,p,c,C,q,d,m,rfl,hnj⟩,hx2⟩;(obtain ⟨W2,hW2⟩:∃W0,w2.alloc (.cells #[.int .i64 (kindJ o:Nat),.bool (bJ o),.int .i64 (nJ o),.string (sJ o),.slice A p c,.slice C q d,.int .i64 (atJ o:Nat)] 25)=W0:=⟨_,rfl⟩);(have hv2:Ext w2 W2:=by rw[←hW2];exact (Ext.refl _).alloc _);(have hb2:∀i v,(#[.int .i64 (kindJ o:Nat),.bool (bJ o),.int .i64 (nJ o),.string (sJ o),.slice A p c,.slice C q d,.int .i64 (atJ o:Nat)]:Array Value)[i]? =some v→W2.cell? ⟨w2.heap.size,i,none⟩=some v:=fun i v h=>by rw[←hW2];exact (Ext.refl (w2.alloc _)).boxed i v h);(have HB2:Hid (∀W':World,Ext W2 W'→W'.cell? ⟨w2.heap.size,0,none⟩=some (.int .i64 (kindJ o:Nat))∧W'.cell? ⟨w2.heap.size,1,none⟩=some (.bool (bJ o))∧W'.cell? ⟨w2.heap.size,2,none⟩=some (.int .i64 (nJ o))∧W'.cell? ⟨w2.heap.size,3,none⟩=some (.string (sJ o))∧W'.cell? ⟨w2.heap.size,4,none⟩=some (.slice A p c)∧W'.cell? ⟨w2.heap.size,5,none⟩=some (.slice C q d)∧W'.cell? ⟨w2.heap.size,6,none⟩=some (.int .i64 (atJ o:Nat))):=gd fun W' h=>⟨h.cell (hb2 0 _ rfl),h.cell (hb2 1 _ rfl),h.cell (hb2 2 _ rfl),h.cell (hb2 3 _ rfl),h.cell (hb2 4 _ rfl),h.cell (hb2 5 _ rfl),h.cell (hb2 6 _ rfl)⟩);clear hb2;(have hs2:=hx2.trans hv2);(have hy2:=(Ext.refl w).trans hs2);(obtain ⟨q1_0_0,q1_0_1,q1_0_2,q1_0_3,q1_0_4,q1_0_5,q1_0_6⟩:=HB2.out _ (Ext.refl W2));(have HR2:Hid (RJ W2 o (wcells (kindJ o) (bJ o) (nJ o) (sJ o) (.slice A p c) (.slice C q d) (atJ o))):=gd (RJ.ext ⟨m,hnj.rj⟩ hv2));clear hnj))
   all_goals go_ret
   all_goals exact ⟨rfl,hy4⟩
  |ok f=>
   rw[hd] at HDE
   have he0:=(decJ_ok hd).2
   obtain ⟨o1,o2,o3,o4,o5,o6⟩:=dec_norm hgd hs5.1 hd
   clear hd hgd hsp hs5
   obtain ⟨G,hG⟩:∃G,normF f=G:=⟨_,rfl⟩
   rw[hG] at o1 o2 o3 o4 o5 o6
   have HNG:=gd (norm_ok o1)
   obtain ⟨P,hP⟩:∃P,G=P:=⟨_,rfl⟩
   obtain ⟨gpath,gid,gtitle,glink,gupd,gents⟩:=G
   have hgp:gpath= []:=o2
   subst hgp
   have hnx:gents.length≤16777216:=Nat.le_trans o6 (by decide)
   rw[hP] at o1 o2 o3 o4 o5 o6 HNG hG
   have HCH:Hid (∀(W':World) (A5:Option Addr) (c5:Nat) (B5:Option Addr) (d5:Nat),RdC W' ⟨.slice A5 0 c5,.slice B5 gents.length d5,⟨[],gid,gtitle,glink,gupd,gents⟩⟩→Calls Tryz.prog 23 #[.agg #[.slice A5 0 c5,.string gid,.string gtitle,.string glink,.int .i64 gupd,.slice B5 gents.length d5]] W' fun e w2=>e= .returned (.int .i64 0)∧Ext W' w2):=gd fun W' A5 c5 B5 d5 hr=>by
    have hz:=refCheckF_any ⟨.slice A5 0 c5,.slice B5 gents.length d5,⟨[],gid,gtitle,glink,gupd,gents⟩⟩ W' hr (by rw[hP];exact o3)
    exact hz.mono fun e w2 ⟨h1,h2⟩=>⟨by rw[h1,if_pos (by rw[hP];exact o1)],h2⟩
   have HWG:Hid (∀(W':World) (A5:Option Addr) (c5:Nat) (B5:Option Addr) (d5:Nat),Ext w W'→RdC W' ⟨.slice A5 0 c5,.slice B5 gents.length d5,⟨[],gid,gtitle,glink,gupd,gents⟩⟩→Calls Tryz.prog 20 #[.agg #[.slice A5 0 c5,.string gid,.string gtitle,.string glink,.int .i64 gupd,.slice B5 gents.length d5]] W' fun e w2=>e= .returned (.tuple #[.string (textF P),.int .i64 0])∧Ext W' w2):=gd fun W' A5 c5 B5 d5 h hr=>by
    have hz:=jfw_yes ⟨.slice A5 0 c5,.slice B5 gents.length d5,⟨[],gid,gtitle,glink,gupd,gents⟩⟩ W' (hE.ext h) hr (by rw[hP];exact o3) (by dsimp only;rw[hP];exact okJ_iff.2 ⟨o1,o2⟩) (by rw[hP];exact o4)
    exact hz.mono fun e w2 ⟨h1,h2⟩=>⟨by rw[h1,←hP],h2⟩
   have HSM:Hid (∀(W':World) (A5:Option Addr) (c5:Nat) (B5:Option Addr) (d5:Nat) (A6:Option Addr) (c6:Nat) (B6:Option Addr) (d6:Nat),RdC W' ⟨.slice A5 0 c5,.slice B5 gents.length d5,⟨[],gid,gtitle,glink,gupd,gents⟩⟩→RdC W' ⟨.slice A6 0 c6,.slice B6 gents.length d6,⟨[],gid,gtitle,glink,gupd,gents⟩⟩→Calls Tryz.prog 16 #[.agg #[.slice A5 0 c5,.string gid,.string gtitle,.string glink,.int .i64 gupd,.slice B5 gents.length d5],.agg #[.slice A6 0 c6,.string gid,.string gtitle,.string glink,.int .i64 gupd,.slice B6 gents.length d6]] W' fun e w2=>e= .returned (.bool true)∧Ext W' w2):=gd fun W' A5 c5 B5 d5 A6 c6 B6 d6 hr hr2=>by
    have hz:=refSame_any ⟨.slice A5 0 c5,.slice B5 gents.length d5,⟨[],gid,gtitle,glink,gupd,gents⟩⟩ ⟨.slice A6 0 c6,.slice B6 gents.length d6,⟨[],gid,gtitle,glink,gupd,gents⟩⟩ W' hr hr2 (Nat.zero_le _) hnx
    rw[decide_eq_true rfl] at hz
    exact hz
   have hrdc:∀{w2:World} {y:Fc},y.f=P→RdC w2 y→∃A5 c5 B5 d5,y=⟨.slice A5 0 c5,.slice B5 gents.length d5,⟨[],gid,gtitle,glink,gupd,gents⟩⟩:=by
    intro w2 y hy1 hy2
    obtain ⟨yp,yes,yf⟩:=y
    dsimp only at hy1
    rw[←hP] at hy1
    subst hy1
    obtain ⟨r0,r1⟩:=hy2
    dsimp only at r0 r1
    obtain ⟨A5,c5,rfl, -, -⟩:=r0.form
    obtain ⟨B5,d5,rfl, -, -⟩:=r1.form
    exact ⟨A5,c5,B5,d5,rfl⟩
   have HRD:Hid (∀W':World,Ext w W'→Calls Tryz.prog 24 #[.string (textF P)] W' fun e w2=>(∃A5 c5 B5 d5,e= .returned (.tuple #[.agg #[.slice A5 0 c5,.string gid,.string gtitle,.string glink,.int .i64 gupd,.slice B5 gents.length d5],.int .i64 0])∧RdC w2 ⟨.slice A5 0 c5,.slice B5 gents.length d5,⟨[],gid,gtitle,glink,gupd,gents⟩⟩)∧Ext W' w2):=gd fun W' h=>by
    obtain ⟨u,g1,g2,g3,g4,g5⟩:=back_law (by decide) (by decide) o1 o2 o5 o6
    refine Calls.mono (read18_any 5000 (textF P) u W' (hE.ext h) g5 g1 g3 (by decide) (fun f hf=>by rw[g2] at hf;injection hf with hf;rw[←hf];exact o3) (by omega)) ?_
    rintro e w2 ⟨hr,hx2⟩
    refine ⟨?_,hx2⟩
    rw[g2] at hr
    obtain ⟨y,rfl,hy1,hy2⟩:=hr
    rw[HNG.out.1] at hy1
    rw[HNG.out.2]
    obtain ⟨A5,c5,B5,d5,rfl⟩:=hrdc hy1 hy2
    exact ⟨A5,c5,B5,d5,rfl,hy2⟩
   have HD2:Hid (∀(w':World) (cs:List Value),Ext w w'→RJ w' o cs→Calls Tryz.prog 12 #[.agg cs.toArray] w' fun e w2=>(∃A5 c5 B5 d5,e= .returned (.tuple #[.agg #[.slice A5 0 c5,.string gid,.string gtitle,.string glink,.int .i64 gupd,.slice B5 gents.length d5],.int .i64 0,.int .i64 0])∧RdC w2 ⟨.slice A5 0 c5,.slice B5 gents.length d5,⟨[],gid,gtitle,glink,gupd,gents⟩⟩)∧Ext w' w2):=gd fun w' cs hx hr=>by
    refine Calls.mono (HDE.out w' cs hx hr) ?_
    rintro e w2 ⟨⟨y,rfl,hyf,hyr, -⟩,hx2⟩
    refine ⟨?_,hx2⟩
    rw[hG] at hyf
    rw[he0]
    obtain ⟨A5,c5,B5,d5,rfl⟩:=hrdc hyf hyr
    exact ⟨A5,c5,B5,d5,rfl,hyr⟩
   obtain ⟨T,hT⟩:∃T,textF P=T:=⟨_,rfl⟩
   rw[hT] at HRD
   simp only[hT] at HWG
   clear hT hrdc he0 o1 o2 o3 o4 o5 o6 HNG hnx HDE hG hE hs hP
   go_enter Tryz.func7,Tryz.ntmps7
   go_wp2_with (first|(go_at_call 23;(have hz:=HCH.out _ A5 c5 B5 d5 HY7.out);(with_reducible refine Calls.mono hz ?_);clear hz;rintro e w8 ⟨rfl,hx8⟩;(have hy8:=hy7.trans hx8))|(go_at_call 16;(have hz:=HSM.out _ A5 c5 B5 d5 A6 c6 B6 d6 HY6.out HZ6.out);(with_reducible refine Calls.mono hz ?_);clear hz;rintro e w7 ⟨rfl,hx7⟩;(have HY7:=gd (HY6.out.ext hx7));(have hy7:=hy6.trans hx7);(have hc0_7:=hc0_6.trans hx7);(obtain ⟨q6_0_0,q6_0_1,q6_0_2,q6_0_3,q6_0_4,q6_0_5,q6_0_6⟩:=HB2.out _ hc0_7);(have hc1_7:=hc1_6.trans hx7);(obtain ⟨q6_1_0,q6_1_1,q6_1_2,q6_1_3,q6_1_4,q6_1_5⟩:=HB3.out _ hc1_7);(have hc2_7:=hc2_6.trans hx7);(obtain ⟨q6_2_0,q6_2_1,q6_2_2,q6_2_3,q6_2_4,q6_2_5⟩:=HB5.out _ hc2_7);clear q5_0_0 q5_0_1 q5_0_2 q5_0_3 q5_0_4 q5_0_5 q5_0_6 q5_1_0 q5_1_1 q5_1_2 q5_1_3 q5_1_4 q5_1_5 q5_2_0 q5_2_1 q5_2_2 q5_2_3 q5_2_4 q5_2_5)|(go_at_call 11;(have hz:=HAL.out _ hy5);(with_reducible refine Calls.mono hz ?_);clear hz;rintro e w6 ⟨rfl,hx6⟩;(have HZ6:=gd (HZ5.out.ext hx6));(have HY6:=gd (HY5.out.ext hx6));(have hy6:=hy5.trans hx6);(have hc0_6:=hc0_5.trans hx6);(obtain ⟨q5_0_0,q5_0_1,q5_0_2,q5_0_3,q5_0_4,q5_0_5,q5_0_6⟩:=HB2.out _ hc0_6);(have hc1_6:=hc1_5.trans hx6);(obtain ⟨q5_1_0,q5_1_1,q5_1_2,q5_1_3,q5_1_4,q5_1_5⟩:=HB3.out _ hc1_6);(have hc2_6:=(Ext.refl W5).trans hx6);(obtain ⟨q5_2_0,q5_2_1,q5_2_2,q5_2_3,q5_2_4,q5_2_5⟩:=HB5.out _ hc2_6);clear q4_0_0 q4_0_1 q4_0_2 q4_0_3 q4_0_4 q4_0_5 q4_0_6 q4_1_0 q4_1_1 q4_1_2 q4_1_3 q4_1_4 q4_1_5 q4_2_0 q4_2_1 q4_2_2 q4_2_3 q4_2_4 q4_2_5)|(go_at_call 24;(have hz:=HRD.out _ hy4);(with_reducible refine Calls.mono hz ?_);clear hz;rintro e w5 ⟨⟨A6,c6,B6,d6,rfl,hrd⟩,hx5⟩;(obtain ⟨W5,hW5⟩:∃W0,w5.alloc (.cells #[.slice A6 0 c6,.string gid,.string gtitle,.string glink,.int .i64 gupd,.slice B6 gents.length d6] 32)=W0:=⟨_,rfl⟩);(have hv5:Ext w5 W5:=by rw[←hW5];exact (Ext.refl _).alloc _);(have hb5:∀i v,(#[.slice A6 0 c6,.string gid,.string gtitle,.string glink,.int .i64 gupd,.slice B6 gents.length d6]:Array Value)[i]? =some v→W5.cell? ⟨w5.heap.size,i,none⟩=some v:=fun i v h=>by rw[←hW5];exact (Ext.refl (w5.alloc _)).boxed i v h);(have HB5:Hid (∀W':World,Ext W5 W'→W'.cell? ⟨w5.heap.size,0,none⟩=some (.slice A6 0 c6)∧W'.cell? ⟨w5.heap.size,1,none⟩=some (.string gid)∧W'.cell? ⟨w5.heap.size,2,none⟩=some (.string gtitle)∧W'.cell? ⟨w5.heap.size,3,none⟩=some (.string glink)∧W'.cell? ⟨w5.heap.size,4,none⟩=some (.int .i64 gupd)∧W'.cell? ⟨w5.heap.size,5,none⟩=some (.slice B6 gents.length d6)):=gd fun W' h=>⟨h.cell (hb5 0 _ rfl),h.cell (hb5 1 _ rfl),h.cell (hb5 2 _ rfl),h.cell (hb5 3 _ rfl),h.cell (hb5 4 _ rfl),h.cell (hb5 5 _ rfl)⟩);clear hb5;(have hs5:=hx5.trans hv5);(have hy5:=hy4.trans hs5);(have hc0_5:=hc0_4.trans hs5);(obtain ⟨q4_0_0,q4_0_1,q4_0_2,q4_0_3,q4_0_4,q4_0_5,q4_0_6⟩:=HB2.out _ hc0_5);(have hc1_5:=hc1_4.trans hs5);(obtain ⟨q4_1_0,q4_1_1,q4_1_2,q4_1_3,q4_1_4,q4_1_5⟩:=HB3.out _ hc1_5);clear q3_0_0 q3_0_1 q3_0_2 q3_0_3 q3_0_4 q3_0_5 q3_0_6 q3_1_0 q3_1_1 q3_1_2 q3_1_3 q3_1_4 q3_1_5;(obtain ⟨q4_2_0,q4_2_1,q4_2_2,q4_2_3,q4_2_4,q4_2_5⟩:=HB5.out _ (Ext.refl W5));(have HZ5:=gd (hrd.ext hv5));(have HY5:=gd (HY4.out.ext hs5));clear hrd)|(go_at_call 20;(have hz:=HWG.out _ A5 c5 B5 d5 hy3 HY3.out);(with_reducible refine Calls.mono hz ?_);clear hz;rintro e w4 ⟨rfl,hx4⟩;(have HY4:=gd (HY3.out.ext hx4));(have hy4:=hy3.trans hx4);(have hc0_4:=hc0_3.trans hx4);(obtain ⟨q3_0_0,q3_0_1,q3_0_2,q3_0_3,q3_0_4,q3_0_5,q3_0_6⟩:=HB2.out _ hc0_4);(have hc1_4:=(Ext.refl W3).trans hx4);(obtain ⟨q3_1_0,q3_1_1,q3_1_2,q3_1_3,q3_1_4,q3_1_5⟩:=HB3.out _ hc1_4);clear q2_0_0 q2_0_1 q2_0_2 q2_0_3 q2_0_4 q2_0_5 q2_0_6 q2_1_0 q2_1_1 q2_1_2 q2_1_3 q2_1_4 q2_1_5)|(go_at_call 12;(have hz:=HD2.out _ _ hy2 HR2.out);(refine Calls.mono hz ?_);clear hz;rintro e w3 ⟨⟨A5,c5,B5,d5,rfl,hrd⟩,hx3⟩;(obtain ⟨W3,hW3⟩:∃W0,w3.alloc (.cells #[.slice A5 0 c5,.string gid,.string gtitle,.string glink,.int .i64 gupd,.slice B5 gents.length d5] 32)=W0:=⟨_,rfl⟩);(have hv3:Ext w3 W3:=by rw[←hW3];exact (Ext.refl _).alloc _);(have hb3:∀i v,(#[.slice A5 0 c5,.string gid,.string gtitle,.string glink,.int .i64 gupd,.slice B5 gents.length d5]:Array Value)[i]? =some v→W3.cell? ⟨w3.heap.size,i,none⟩=some v:=fun i v h=>by rw[←hW3];exact (Ext.refl (w3.alloc _)).boxed i v h);(have HB3:Hid (∀W':World,Ext W3 W'→W'.cell? ⟨w3.heap.size,0,none⟩=some (.slice A5 0 c5)∧W'.cell? ⟨w3.heap.size,1,none⟩=some (.string gid)∧W'.cell? ⟨w3.heap.size,2,none⟩=some (.string gtitle)∧W'.cell? ⟨w3.heap.size,3,none⟩=some (.string glink)∧W'.cell? ⟨w3.heap.size,4,none⟩=some (.int .i64 gupd)∧W'.cell? ⟨w3.heap.size,5,none⟩=some (.slice B5 gents.length d5)):=gd fun W' h=>⟨h.cell (hb3 0 _ rfl),h.cell (hb3 1 _ rfl),h.cell (hb3 2 _ rfl),h.cell (hb3 3 _ rfl),h.cell (hb3 4 _ rfl),h.cell (hb3 5 _ rfl)⟩);clear hb3;(have hs3:=hx3.trans hv3);(have hy3:=hy2.trans hs3);(have hc0_3:=(Ext.refl W2).trans hs3);(obtain ⟨q2_0_0,q2_0_1,q2_0_2,q2_0_3,q2_0_4,q2_0_5,q2_0_6⟩:=HB2.out _ hc0_3);clear q1_0_0 q1_0_1 q1_0_2 q1_0_3 q1_0_4 q1_0_5 q1_0_6;(obtain ⟨q2_1_0,q2_1_1,q2_1_2,q2_1_3,q2_1_4,q2_1_5⟩:=HB3.out _ (Ext.refl W3));(have HY3:=gd (hrd.ext hv3));clear hrd)|(go_at_call 10;(have hz:=HPS.out);(with_reducible refine Calls.mono hz ?_);clear hz;rintro e w2 ⟨⟨A,p,c,C,q,d,m,rfl,hnj⟩,hx2⟩;(obtain ⟨W2,hW2⟩:∃W0,w2.alloc (.cells #[.int .i64 (kindJ o:Nat),.bool (bJ o),.int .i64 (nJ o),.string (sJ o),.slice A p c,.slice C q d,.int .i64 (atJ o:Nat)] 25)=W0:=⟨_,rfl⟩);(have hv2:Ext w2 W2:=by rw[←hW2];exact (Ext.refl _).alloc _);(have hb2:∀i v,(#[.int .i64 (kindJ o:Nat),.bool (bJ o),.int .i64 (nJ o),.string (sJ o),.slice A p c,.slice C q d,.int .i64 (atJ o:Nat)]:Array Value)[i]? =some v→W2.cell? ⟨w2.heap.size,i,none⟩=some v:=fun i v h=>by rw[←hW2];exact (Ext.refl (w2.alloc _)).boxed i v h);(have HB2:Hid (∀W':World,Ext W2 W'→W'.cell? ⟨w2.heap.size,0,none⟩=some (.int .i64 (kindJ o:Nat))∧W'.cell? ⟨w2.heap.size,1,none⟩=some (.bool (bJ o))∧W'.cell? ⟨w2.heap.size,2,none⟩=some (.int .i64 (nJ o))∧W'.cell? ⟨w2.heap.size,3,none⟩=some (.string (sJ o))∧W'.cell? ⟨w2.heap.size,4,none⟩=some (.slice A p c)∧W'.cell? ⟨w2.heap.size,5,none⟩=some (.slice C q d)∧W'.cell? ⟨w2.heap.size,6,none⟩=some (.int .i64 (atJ o:Nat))):=gd fun W' h=>⟨h.cell (hb2 0 _ rfl),h.cell (hb2 1 _ rfl),h.cell (hb2 2 _ rfl),h.cell (hb2 3 _ rfl),h.cell (hb2 4 _ rfl),h.cell (hb2 5 _ rfl),h.cell (hb2 6 _ rfl)⟩);clear hb2;(have hs2:=hx2.trans hv2);(have hy2:=(Ext.refl w).trans hs2);(obtain ⟨q1_0_0,q1_0_1,q1_0_2,q1_0_3,q1_0_4,q1_0_5,q1_0_6⟩:=HB2.out _ (Ext.refl W2));(have HR2:Hid (RJ W2 o (wcells (kindJ o) (bJ o) (nJ o) (sJ o) (.slice A p c) (.slice C q d) (atJ o))):=gd (RJ.ext ⟨m,hnj.rj⟩ hv2));clear hnj))
   go_ret
   exact ⟨rfl,hy8⟩
end
theorem lifted22 (os:Os) (started:os.Started) (H:Type) (enc:TypeId×Value→H):
 ReturnsInHanded {} Tryz.checked os 7 .any (fun w args=>(Rows.jsonfeedIsStableSpec.pre enc Tryz.prog Tryz.f7 [] false w args∧laidMetH Tryz.prog laidAll w)∧sizedMet enc Tryz.prog Tryz.f7 (OpenSpec.ofChange Rows.jsonfeedIsStableSpec) false w args)
  (Rows.jsonfeedIsStableSpec.post enc Tryz.prog Tryz.f7 false true false false):=by
 refine returnsInHanded_of_change_and (C:=Tryz.checked) (X:=fun w _=>laidMetH Tryz.prog laidAll w) (fun _ _ _ hh h=>h.of_heap hh) own1 started (by kernel_rfl) Tryz.func7
  (ChangeSpec.witness_shaped (enc:=enc) (C:=Tryz.checked) (os:=os) (X:=fun w _=>laidMetH Tryz.prog laidAll w) false (World.laidAll Tryz.prog os laidAll) #[.string ⟨#[]⟩] 8 (World.laidAll_os _ _ _)
   (World.shaped_of_ZipB (by kernel_rfl) (by kernel_rfl)) (by kernel_rfl) (by kernel_rfl) (by kernel_rfl)
   (by rw[MakeChecks.laidMetH_plain _ _ _ (by kernel_rfl)];exact laidMet_laidAll _ (by kernel_rfl) (by kernel_rfl))) ?_
 intro W base args ds gs before hval0 hW hc hsz hL _
 have hval:∀(j:Nat) t v,Tryz.f7.params[j]? =some t→args[j]? =some v→Value.okWide Tryz.prog W .any base t v:=hval0
 have hW':=hW
 obtain ⟨p,q,hA0,hV,rfl,_,_⟩:=hW
 have hA:DataW.TrodAll enc Tryz.prog W 0 (fun _=>true) true Tryz.f7.params.toList args.toList ds p:=hA0
 rw[Tryz.params7] at hA hval
 obtain ⟨v0,d0,rfl,rfl,h0⟩:=trodAll_one hA
 obtain ⟨rfl,rfl⟩:=trodVars_none hV
 have h0k:=h0
 rw[MakeChecks.laidMetH_plain _ _ _ (by kernel_rfl)] at hL
 have hE:=env_of_laid hL
 have hwt:(DataW.weightsEach Tryz.prog [9] [d0]).all (· ≤reachBytes)=true:=by
  have h:=hsz
  rw[Tryz.params7] at h
  exact h
 have hwa:=List.all_eq_true.1 hwt
 have hw0:∀n∈d0.weights Tryz.prog 9,n≤reachBytes:=fun n hn=>of_decide_eq_true (hwa n (by simpa only[DataW.weightsEach,List.append_nil] using hn))
 clear hsz hwt hwa
 have hlt:∀x∈p,x.block<W.heap.size:=fun x hx=>by simpa using hW'.lt x (List.mem_append_left _ hx)
 obtain ⟨fuel0,hf0⟩:=h0
 obtain ⟨s0,rfl⟩:=okWide_string Tryz.underlying9 (hval 0 9 v0 rfl rfl)
 obtain ⟨q0,e0,u0,_⟩:=DataW.trod_string Tryz.underlying9 (show DataW.trod enc Tryz.prog W 0 (fun _=>true) true fuel0 9 [.string s0]=some (d0,p) from hf0)
 injection e0 with e0 _
 injection e0 with e0
 subst e0
 rw[(Prod.mk.inj u0).1] at hw0
 have hz0:s0.size≤reachBytes:=hw0 s0.size (by simp[DataW.weights])
 refine (law22_any s0 W hE hz0).mono fun e W' ⟨he,hx⟩=> ?_
 subst he
 have hB:Below W.heap.size W W':=hx
 refine ⟨_,rfl,_,_,_,[],p,[],hW',?_,?_,?_,hB.frame _,fun h=>by cases h⟩
 ·exact trodAll_mk1 (shut_bool Tryz.underlying4 _)
 ·exact trodAll_mk1 (Below.trod laidOut1 (by kernel_rfl) (of_decide_eq_true (by kernel_rfl)) h0k hB hlt)
 ·rfl
end Go.Proofs.YthlnaldahkgjnaaGreatDoor
