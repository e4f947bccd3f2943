/- Parts of the proof: contracts and plain laws. -/
import Derived.Lib.ItoaLen
import Derived.Lay
import Derived.SevenTiedAt
import Derived.Stop.Joined
import Derived.Lib.SmallJoins
import Derived.Deep.Fields
import Derived.Carry
import Derived.Lib.LaidU8
import Derived.Lib.LaidTab
import Derived.ProofKit
import Derived.LaidMore
import Derived.OpenShut
import Derived.Deep.Strs
import Derived.Test.YthlnaldahkgjnaaGreatDoorV01
import Derived.Test.YthlnaldahkgjnaaGreatDoorV02
import Derived.Test.YthlnaldahkgjnaaGreatDoorV03
import Derived.Test.YthlnaldahkgjnaaGreatDoorV04
import Derived.Test.YthlnaldahkgjnaaGreatDoorV05
import Derived.Test.YthlnaldahkgjnaaGreatDoorV06
import Derived.Test.YthlnaldahkgjnaaGreatDoorV07
import Derived.Test.YthlnaldahkgjnaaGreatDoorV08
import Derived.Test.YthlnaldahkgjnaaGreatDoorV09
import Derived.Test.YthlnaldahkgjnaaGreatDoorV10
import Derived.Test.YthlnaldahkgjnaaGreatDoorV11
import Derived.Test.YthlnaldahkgjnaaGreatDoorV12
import Derived.Test.YthlnaldahkgjnaaGreatDoorV13
import Derived.Test.YthlnaldahkgjnaaGreatDoorV14
import Derived.Test.YthlnaldahkgjnaaGreatDoorV15
import Derived.Test.YthlnaldahkgjnaaGreatDoorV16
import Derived.Test.YthlnaldahkgjnaaGreatDoorV17
import Derived.Test.YthlnaldahkgjnaaGreatDoorV18
import Derived.Test.YthlnaldahkgjnaaGreatDoorV19
import Derived.Test.YthlnaldahkgjnaaGreatDoorV20
import Derived.Test.YthlnaldahkgjnaaGreatDoorV31
namespace Go.Proofs.YthlnaldahkgjnaaGreatDoor
open Go Go.RowKit Go.ChangeShapes Go.WideShapes Go.Deep
set_option linter.unusedVariables false
set_option linter.unusedSimpArgs false
set_option maxRecDepth 100000
set_option maxHeartbeats 16000000
section
set_option linter.unusedSimpArgs false
theorem chkJ_congr {a b:JO}:∀{l:List ByteArray} {t:Bool},(∀n∈l,memJ a n=memJ b n)→chkJ a t l=chkJ b t l
 | [],_,_=>rfl
 |n::l,t,h=>by
  have h1:=h n (List.mem_cons_self ..)
  have ih:=fun t=>chkJ_congr (l:=l) (t:=t) fun m hm=>h m (List.mem_cons_of_mem _ hm)
  unfold chkJ
  rw[h1]
  cases memJ b n<;>simp only[ih]
theorem dateJ_congr {a b:JO}:∀{l:List ByteArray},(∀n∈l,memJ a n=memJ b n)→dateJ a l=dateJ b l
 | [],_=>rfl
 |n::l,h=>by
  have h1:=h n (List.mem_cons_self ..)
  have ih:=dateJ_congr (l:=l) fun m hm=>h m (List.mem_cons_of_mem _ hm)
  unfold dateJ
  rw[h1,ih]
theorem textJ_congr {a b:JO} {n:ByteArray} (h:memJ a n=memJ b n):textJ a n=textJ b n:=by
 unfold textJ
 rw[h]
theorem decJ_congr {a b:JO} (hv:getJ a nVersion=getJ b nVersion) (ha:atJ a=atJ b) (h:∀n∈ [nFeedUrl,nHome,nTitle,nUpdated,nItems],memJ a n=memJ b n):decJ a=decJ b:=by
 have e1:versJ a=versJ b:=by unfold versJ;rw[hv]
 have e2:chkJ a false [nFeedUrl,nHome,nTitle,nUpdated]=chkJ b false [nFeedUrl,nHome,nTitle,nUpdated]:=chkJ_congr fun n hn=>h n (show n∈ [nFeedUrl,nHome,nTitle,nUpdated]++ [nItems] from List.mem_append_left _ hn)
 have e3:textJ a nFeedUrl=textJ b nFeedUrl:=textJ_congr (h _ (by simp))
 have e4:textJ a nHome=textJ b nHome:=textJ_congr (h _ (by simp))
 have e5:textJ a nTitle=textJ b nTitle:=textJ_congr (h _ (by simp))
 have e6:dateJ a [nUpdated]=dateJ b [nUpdated]:=dateJ_congr fun n hn=>h n (by rw[List.mem_singleton.1 hn];simp)
 have e7:memJ a nItems=memJ b nItems:=h _ (by simp)
 have e8:feedId a=feedId b:=by unfold feedId;rw[e3,e4]
 unfold decJ
 rw[e1,e2,e4,e5,e6,e7,e8,ha]
abbrev ZL:=List ((ByteArray×Nat)×JO)
def lookZ (z:ZL) (n:ByteArray):Option JO:=lookG (z.map Prod.fst) (z.map Prod.snd) n
def objZ (a:Nat) (z:ZL):JO:= .obj a (z.map Prod.fst) (z.map Prod.snd)
theorem lookZ_cons (p:(ByteArray×Nat)×JO) (z:ZL) (n:ByteArray):lookZ (p::z) n=if p.1.1=n then some p.2 else lookZ z n:=rfl
theorem getJ_objZ (a:Nat) (z:ZL) (n:ByteArray):getJ (objZ a z) n=lookZ z n:=rfl
theorem memJ_of_look {a b:JO} {n:ByteArray} (h:getJ a n=getJ b n):memJ a n=memJ b n:=by unfold memJ;rw[h]
end
section
set_option linter.unusedSimpArgs false
theorem zeroF_fokJ:fokS zeroF:=⟨⟨⟨by decide,by decide⟩,by decide⟩,by decide,fun e he=>absurd he (by simp[zeroF])⟩
end
section
set_option linter.unusedSimpArgs false
abbrev Mm:=ByteArray×List Value×Int
def AllM (P:Mm→(ByteArray×Nat)×JO→Prop):List Mm→ZL→Prop
 | [],[]=>True
 |m::l,p::z=>P m p∧AllM P l z
 |_,_=>False
def relM (n:Nat) (w:World) (m:Mm) (p:(ByteArray×Nat)×JO):Prop:=m.1=p.1.1∧m.2.2=(p.1.2:Int)∧RJn n w p.2 m.2.1
theorem AllM.len {P:Mm→(ByteArray×Nat)×JO→Prop}:∀{l:List Mm} {z:ZL},AllM P l z→l.length=z.length
 | [],[],_=>rfl
 |_::_,_::_,h=>by rw[List.length_cons,List.length_cons,h.2.len]
 | [],_::_,h=>h.elim
 |_::_,[],h=>h.elim
theorem AllM.mono {P Q:Mm→(ByteArray×Nat)×JO→Prop} (hpq:∀m p,P m p→Q m p):∀{l:List Mm} {z:ZL},AllM P l z→AllM Q l z
 | [],[],_=>trivial
 |_::_,_::_,h=>⟨hpq _ _ h.1,h.2.mono hpq⟩
 | [],_::_,h=>h.elim
 |_::_,[],h=>h.elim
theorem allM_of {n:Nat} {w:World}:∀{ms:List Mm} {ks:List (ByteArray×Nat)} {vs:List JO},ms.map (fun m=>(m.1,m.2.2))=ks.map (fun k=>(k.1,(k.2:Int)))→ms.length=vs.length→
 (∀(i:Nat) (j:JO) (m:Mm),vs[i]? =some j→ms[i]? =some m→RJn n w j m.2.1)→AllM (relM n w) ms (ks.zip vs)
 |m::ms,k::ks,v::vs,h1,h2,h3=>by
  simp only[List.map_cons,List.cons.injEq,Prod.mk.injEq] at h1
  exact ⟨⟨h1.1.1,h1.1.2,h3 0 v m rfl rfl⟩,allM_of h1.2 (by simpa using h2) fun i j m hj hm=>h3 (i+1) j m hj hm⟩
 | [],[],[],_,_,_=>trivial
 | [],[],_::_,_,h2,_=>by simp at h2
 | [],_::_,_,h1,_,_=>by simp at h1
 |_::_,[],_,h1,_,_=>by simp at h1
 |_::_,_::_,[],_,h2,_=>by simp at h2
theorem AllM.get {P:Mm→(ByteArray×Nat)×JO→Prop}:∀{l:List Mm} {z:ZL} {i:Nat} {m:Mm} {p:(ByteArray×Nat)×JO},AllM P l z→l[i]? =some m→z[i]? =some p→P m p
 |_::_,_::_,0,_,_,h,h1,h2=>by injection h1 with h1;injection h2 with h2;subst h1;subst h2;exact h.1
 |_::_,_::_,i+1,_,_,h,h1,h2=>h.2.get h1 h2
 | [],[],_,_,_,_,h1,_=>by simp at h1
 | [],_::_,_,_,_,h,_,_=>h.elim
 |_::_,[],_,_,_,h,_,_=>h.elim
theorem AllM.keys {n:Nat} {w:World}:∀{l:List Mm} {z:ZL},AllM (relM n w) l z→l.map (fun m=>(m.1,m.2.2))=(z.map Prod.fst).map (fun k=>(k.1,(k.2:Int)))
 | [],[],_=>rfl
 |m::l,p::z,h=>by simp only[List.map_cons];rw[h.2.keys,h.1.1,h.1.2.1]
 | [],_::_,h=>h.elim
 |_::_,[],h=>h.elim
theorem AllM.rj {n a:Nat} {w:World} {l:List Mm} {z:ZL} {v:Value} (h:AllM (relM n w) l z) (hr:RSl w 9 v l.length (l.map mcell).flatten):RJ w (objZ a z) (wcells 5 false 0 noS (.slice none 0 0) v (a:Nat)):=by
 have hl:=h.len
 refine ⟨n+1,.slice none 0 0,v,rfl,⟨[],rfl,RSl.nil w 7,fun i j c hj _=>by simp[objZ,itemsJ] at hj⟩,⟨l,h.keys,by simp[objZ,vsJ,hl],?_,fun i j m hj hm=> ?_⟩,fun _=>rfl,fun e=>absurd rfl e⟩
 ·show RSl w 9 v (z.map Prod.snd).length _
  rw[List.length_map,←hl]
  exact hr
 ·have hj':(z.map Prod.snd)[i]? =some j:=hj
  rw[List.getElem?_map] at hj'
  cases hz:z[i]? with
  |none=>rw[hz] at hj';cases hj'
  |some p=>rw[hz] at hj';injection hj' with hj';subst hj';exact (h.get hm hz).2.2
theorem AllM.ext {n:Nat} {w w':World} {l:List Mm} {z:ZL} (h:AllM (relM n w) l z) (hx:Ext w w'):AllM (relM n w') l z:=h.mono fun m p ⟨a,b,c⟩=>⟨a,b,c.ext hx⟩
theorem AllM.more {n:Nat} {w:World} {l:List Mm} {z:ZL} (h:AllM (relM n w) l z):AllM (relM (n+1) w) l z:=h.mono fun m p ⟨a,b,c⟩=>⟨a,b,c.more (Nat.le_succ n)⟩
theorem AllM.lens {n:Nat} {w:World} {l:List Mm} {z:ZL} (h:AllM (relM n w) l z):∀c∈l.map mcell,c.length=9:=by
 intro c hc
 obtain ⟨m,hm,rfl⟩:=List.mem_map.1 hc
 obtain ⟨i,hi,rfl⟩:=List.mem_iff_getElem.1 hm
 have hz:i<z.length:=by rw[←h.len];exact hi
 have:=(h.get (List.getElem?_eq_getElem hi) (List.getElem?_eq_getElem hz)).2.2.len
 simp[mcell,this]
theorem parsed_obj {B:Nat} {w':World} {a:Nat} {ks:List (ByteArray×Nat)} {vs:List JO} {e:Ending} (h:PrsR B w' (some (.obj a ks vs)) e):
 ∃C d ms n,e= .returned (.tuple #[.agg #[.int .i64 5,.bool false,.int .i64 0,.string ⟨#[]⟩,.slice none 0 0,.slice C (List.length (α:=Mm) ms) d,.int .i64 (a:Nat)],.int .i64 1])∧RSl w' 9 (.slice C ms.length d) ms.length (ms.map mcell).flatten∧AllM (relM n w') ms (ks.zip vs)∧ms.length=vs.length:=by
 obtain ⟨A,p,c,C,q,d,m,rfl,hnj⟩:=h
 have hr:=hnj.rj
 cases m with
 |zero=>exact hr.elim
 |succ n=>
  obtain ⟨its,mv,hcs, -,⟨ms,hks,hml,hrow,hel⟩,hi0, -⟩:=hr
  have h4:=hi0 (by show (5:Nat)≠4;decide)
  subst h4
  have h1:Value.slice A p c= .slice none 0 0:=Option.some.inj (congrArg (fun l:List Value=>l[4]?) hcs)
  have h2:Value.slice C q d=mv:=Option.some.inj (congrArg (fun l:List Value=>l[5]?) hcs)
  subst h2
  have hrow':RSl w' 9 (.slice C q d) vs.length (ms.map mcell).flatten:=hrow
  have hml':ms.length=vs.length:=hml
  obtain ⟨_,A2,c2,e2, -⟩:=id hrow'
  injection e2 with e2 e3 e4
  subst e3
  rw[←hml'] at hrow'⊢
  refine ⟨C,d,ms,n,?_,hrow',allM_of hks hml hel,rfl⟩
  rw[h1]
  rfl
abbrev obC (a:Nat) (v:Value):Array Value:=#[.int .i64 5,.bool false,.int .i64 0,.string ⟨#[]⟩,.slice none 0 0,v,.int .i64 (a:Nat)]
structure NF (W2:World) (g8 g9 a:Nat) (v8 v9:Value) (l8 l9:List Mm) (W:World):Prop where
 ext:Ext W2 W
 b8:W.heap[g8]? =some (.cells (obC a v8) 25 (0,0))
 b9:W.heap[g9]? =some (.cells (obC a v9) 25 (0,0))
 o8:W.ownsRow W2.heap.size 56 9 v8 l8.length (l8.map mcell).flatten
 o9:W.ownsRow W2.heap.size 56 9 v9 l9.length (l9.map mcell).flatten
 ap:v8.ownBlock=none∨v8.ownBlock≠v9.ownBlock
section
variable {W2 W W':World} {g8 g9 a:Nat} {v8 v9 v':Value} {l8 l9:List Mm}
theorem own_ne_type {w:World} {b sz n g:Nat} {e e':TypeId} {v:Value} {xs:List Value} {cs:Array Value} {fr:Nat×Nat} (h:w.ownsRow b e sz v n xs) (hg:w.heap[g]? =some (.cells cs e' fr)) (hne:e≠e'):v.ownBlock≠some g:=by
 intro eq
 rcases h.2 with ⟨rfl,_⟩|⟨g',cap',cur',rfl,_,hb',_⟩
 ·cases eq
 ·have hgg:g'=g:=by simpa [Value.ownBlock] using eq
  subst hgg
  rw[hg] at hb'
  injection hb' with hb'
  injection hb' with _ hb'
  exact hne hb'.symm
end
def fdR (r:Except (Nat×Nat) Fd):Fd:=match r with
 | .error _=>zeroF
 | .ok f=>normF f
def atR (r:Except (Nat×Nat) Fd):Nat:=match r with
 | .error f=>f.1
 | .ok _=>0
def erR (r:Except (Nat×Nat) Fd):Nat:=match r with
 | .error f=>f.2
 | .ok f=>errF f
theorem dec_uni {w:World} {r:Except (Nat×Nat) Fd} {e:Ending} (h:DecR w r e):∃A c B d,e= .returned (.tuple #[.agg (cellsC ⟨.slice A (fdR r).path.length c,.slice B (fdR r).ents.length d,fdR r⟩).toArray,.int .i64 (atR r:Nat),.int .i64 (erR r:Nat)])∧RdC w ⟨.slice A (fdR r).path.length c,.slice B (fdR r).ents.length d,fdR r⟩:=by
 cases r with
 |error f=>exact ⟨none,0,none,0,h,RSl.nil w 1,RSl.nil w 5⟩
 |ok f=>
  obtain ⟨y,rfl,h1,h2,h3⟩:=h
  obtain ⟨yp,yes,yf⟩:=y
  dsimp only at h1
  subst h1
  obtain ⟨h20,h21⟩:=h2
  dsimp only at h20 h21
  obtain ⟨A,c,rfl, -, -⟩:=h20.form
  obtain ⟨B,d,rfl, -, -⟩:=h21.form
  exact ⟨A,c,B,d,rfl,h20,h21⟩
end
section
section
variable {H:Type} {enc:TypeId×Value→H} {P:Program} {w:World} {base:Nat} {spare:Nat→Bool} {held:Bool}
end
section
variable {H:Type} {enc:TypeId×Value→H} {P:Program} {w:World} {base:Nat} {spare:Nat→Bool} {held:Bool}
end
section
variable {H:Type} {enc:TypeId×Value→H} {w:World}
theorem u8_of_wf {n:Int} (h:(Lit.int .u8 n).wf=true):0≤n∧n≤255:=by
 have h':(decide (IntKind.min .u8≤n) && decide (n≤IntKind.max .u8))=true:=h
 rw[Bool.and_eq_true] at h'
 exact ⟨of_decide_eq_true h'.1,of_decide_eq_true h'.2⟩
end
end
end Go.Proofs.YthlnaldahkgjnaaGreatDoor
