/- Parts of the proof: contracts and plain laws. -/
import Derived.Test.YtnlafkgkcnenfaaGreatDoorR03
namespace Go.Proofs.YtnlafkgkcnenfaaGreatDoor
open Go Tryz
set_option linter.unusedVariables false
set_option linter.unusedSimpArgs false
set_option maxRecDepth 100000
set_option maxHeartbeats 16000000
def nmStart (r:Nat):Bool:=
 decide ((65<=r/\r<=90)\/(97<=r/\r<=122)\/r=95)||decide ((192<=r/\r<=767/\r≠215/\r≠247)\/(880<=r/\r<=8191/\r≠894))||
 decide (r=8204\/r=8205\/(8304<=r/\r<=8591)\/(11264<=r/\r<=12271)\/(12289<=r/\r<=55295))||decide ((63744<=r/\r<=64975)\/(65008<=r/\r<=65533)\/(65536<=r/\r<=983039))
def nmChar (r:Nat):Bool:=nmStart r||decide ((48<=r/\r<=57)\/r=45\/r=46\/r=183\/(768<=r/\r<=879)\/r=8255\/r=8256)
def nmOk (colon first:Bool) (r:Nat):Bool:=(colon && r==58)||(if first then nmStart r else nmChar r)
def nmGo (colon:Bool):Nat->Bool->List UInt8->Nat
 |0,_,_=>0
 |f+1,first,l=>if l= []\/(dec l).2=0\/nmOk colon first (dec l).1=false then 0 else (dec l).2+nmGo colon f false (l.drop (dec l).2)
def nmLen (colon:Bool) (l:List UInt8):Nat:=nmGo colon l.length true l
def isQ (l:List UInt8):Bool:=decide (0<l.length/\nmLen true l=l.length)
def isNm (l:List UInt8):Bool:=decide (0<l.length/\nmLen false l=l.length)
def hasAt (s:List UInt8) (at_:Nat) (t:List UInt8):Bool:=t.isPrefixOf (s.drop at_)
def spAt (s:List UInt8) (at_:Nat):Nat:=at_+((s.drop at_).takeWhile λc=>isSp c.toNat).length
def nmAt (s:List UInt8) (at_:Nat):Nat:=at_+nmLen true (s.drop at_)
def findIn (t:List UInt8):List UInt8->Nat->Option Nat
 | [],k=>if t= [] then some k else none
 |c::r,k=>if t.isPrefixOf (c::r) then some k else findIn t r (k+1)
def findAt (s:List UInt8) (at_:Nat) (t:List UInt8):Option Nat:=findIn t (s.drop at_) at_
def lns:List UInt8->List UInt8
 | []=> []
 | [c]=> [if c=13 then 10 else c]
 |c::d::r=>if c=13/\d=10 then lns (d::r) else (if c=13 then 10 else c)::lns (d::r)
def hexV (c:UInt8):Nat:=if 48<=c.toNat/\c.toNat<=57 then c.toNat - 48 else if 97<=c.toNat/\c.toNat<=102 then c.toNat - 97+10 else if 65<=c.toNat/\c.toNat<=70 then c.toNat - 65+10 else 16
def numGo (base:Nat):List UInt8->Nat->Option Nat
 | [],n=>some n
 |c::t,n=>if base<=hexV c then none else numGo base t (min (n*base+hexV c) 2000000)
def numL (base:Nat) (l:List UInt8):Option Nat:=if l= [] then none else numGo base l 0
def namedL (l:List UInt8):Option Nat:=
 if l= [108,116] then some 60 else if l= [103,116] then some 62 else if l= [97,109,112] then some 38 else if l= [97,112,111,115] then some 39 else if l= [113,117,111,116] then some 34 else none
def refRune (x:List UInt8):Option Nat:=
 match x with
 |35::c::t=>if c=120 then numL 16 t else numL 10 (c::t)
 |_=>namedL x
def refAt (s:List UInt8) (at_:Nat):Option (Nat×Nat):=
 let r:=s.drop at_
 if r.head? =some 38 then
  let x:=r.tail.takeWhile λc=>c !=59
  if x.length+1<r.length then match refRune x with
   |some n=>if isChar n then some (n,at_+x.length+2) else none
   |none=>none
  else none
 else none
abbrev PErr:=Nat×Nat
def spaced (l:List UInt8):List UInt8:=l.map λc=>if isSp c.toNat then 32 else c
def contGo (value:Bool) (s:List UInt8) (tz:Nat):Nat->Nat->List UInt8->Except PErr (List UInt8)
 |0,_,out=> .ok out
 |f+1,i,out=>
  if tz<=i then .ok out
  else if (s.drop i).head? =some 38 then match refAt (s.take tz) i with
   |some (r,e)=>contGo value s tz f e (out++encN r)
   |none=> .error (i,12)
  else
   let k:=(((s.take tz).drop i).takeWhile λc=>c !=38)
   contGo value s tz f (i+k.length) (out++(if value then spaced (lns k) else lns k))
def contP (value:Bool) (s:List UInt8) (from_ tz:Nat):Except PErr (List UInt8):=contGo value s tz (tz - from_+1) from_ []
def missP (s:List UInt8) (from_ at_:Nat):PErr:=if s.length<=at_ then (from_,8) else (at_,7)
structure AtP where
 space:List UInt8
 name:List UInt8
 value:List UInt8
 at_:Nat
 deriving DecidableEq
def attrP (s:List UInt8) (from_ at_:Nat):Except PErr (AtP×Nat):=
 let e:=nmAt s at_
 if e=at_ then .error (missP s from_ at_) else
 let name:=(s.drop at_).take (e - at_)
 let a:=spAt s e
 if hasAt s a [61]=false then .error (missP s from_ a) else
 let q:=spAt s (a+1)
 if hasAt s q [34]=false/\hasAt s q [39]=false then .error (missP s from_ q) else
 let c:=(s.drop q).headD 0
 let e2:=q+1+((s.drop (q+1)).takeWhile λd=>d !=c && d !=60).length
 match contP true s (q+1) e2 with
 | .error x=> .error x
 | .ok v=>
  if e2=s.length then .error (from_,8) else
  if (s.drop e2).head? =some 60 then .error (e2,7) else
  .ok (⟨[],name,v,at_⟩,e2+1)
structure Tok where
 kind:Nat
 name:List UInt8
 attrs:List AtP
 empty:Bool
 text:List UInt8
 at_:Nat
 deriving DecidableEq
def startGo (s:List UInt8) (from_:Nat) (name:List UInt8):Nat->Nat->List AtP->Except PErr (Tok×Nat)
 |0,_,_=> .error (from_,8)
 |f+1,at_,al=>
  let next:=spAt s at_
  if hasAt s next [62] then .ok (⟨1,name,al,false,[],from_⟩,next+1)
  else if hasAt s next [47,62] then .ok (⟨1,name,al,true,[],from_⟩,next+2)
  else if hasAt s next [47] then .error (missP s from_ (next+1))
  else if next=at_ then .error (missP s from_ at_)
  else match attrP s from_ next with
   | .error x=> .error x
   | .ok (a,e)=>if al.any λb=>b.name==a.name then .error (a.at_,10) else startGo s from_ name f e (al++ [a])
def startP (s:List UInt8) (from_:Nat):Except PErr (Tok×Nat):=
 let at_:=nmAt s (from_+1)
 if at_=from_+1 then .error (missP s from_ at_) else startGo s from_ ((s.drop (from_+1)).take (at_ - (from_+1))) (s.length+1) at_ []
def endP (s:List UInt8) (from_:Nat):Except PErr (Tok×Nat):=
 let at_:=nmAt s (from_+2)
 if from_+2<at_ then
  if hasAt s (spAt s at_) [62] then .ok (⟨2,(s.drop (from_+2)).take (at_ - (from_+2)),[],false,[],from_⟩,spAt s at_+1)
  else .error (missP s from_ (spAt s at_))
 else .error (missP s from_ at_)
def skipP (s:List UInt8) (from_:Nat) (n:Nat) (last:List UInt8):Except PErr Nat:=
 match findAt s (from_+n) last with
 |none=> .error (from_,8)
 |some i=> .ok (i+last.length)
def dataT (t:List UInt8) (at_:Nat):Tok:=⟨3,[],[],false,t,at_⟩
def constructP (s:List UInt8) (from_:Nat):Except PErr (Tok×Nat):=
 if hasAt s from_ [60,63] then (match skipP s from_ 2 [63,62] with| .error x=> .error x| .ok tz=> .ok (dataT [] 0,tz))
 else if hasAt s from_ [60,33,45,45] then (match skipP s from_ 4 [45,45,62] with| .error x=> .error x| .ok tz=> .ok (dataT [] 0,tz))
 else if hasAt s from_ [60,33,91,67,68,65,84,65,91] then (match skipP s from_ 9 [93,93,62] with| .error x=> .error x| .ok tz=> .ok (dataT (lns ((s.drop (from_+9)).take (tz - 3 - (from_+9)))) from_,tz))
 else if hasAt s from_ [60,33,68,79,67,84,89,80,69] then .error (from_,11)
 else if hasAt s from_ [60,33] then .error (from_,7)
 else if hasAt s from_ [60,47] then endP s from_
 else if hasAt s from_ [60] then startP s from_
 else
  let tz:=(findAt s from_ [60]).getD s.length
  match contP false s from_ tz with
  | .error x=> .error x
  | .ok v=> .ok (dataT v from_,tz)
def toksGo (s:List UInt8):Nat->Nat->List Tok->Except PErr (List Tok)
 |0,_,l=> .ok l
 |f+1,at_,l=>
  if s.length<=at_ then .ok l else
  match constructP s at_ with
  | .error x=> .error x
  | .ok (t,tz)=>toksGo s f tz (if t.kind≠3\/t.text≠ [] then l++ [t] else l)
def toksP (s:List UInt8):Except PErr (List Tok):=
 if (check s).2≠0 then .error (check s) else toksGo s (s.length+1) (if hasAt s 0 [239,187,191] then 3 else 0) []
inductive Nd where
 |mk (kind:Nat) (space name:List UInt8) (attrs:List AtP) (kids:List Nd) (text:List UInt8) (at_:Nat)
def Nd.kind:Nd->Nat| .mk k _ _ _ _ _ _=>k
def Nd.space:Nd->List UInt8| .mk _ s _ _ _ _ _=>s
def Nd.name:Nd->List UInt8| .mk _ _ n _ _ _ _=>n
def Nd.attrs:Nd->List AtP| .mk _ _ _ a _ _ _=>a
def Nd.kids:Nd->List Nd| .mk _ _ _ _ k _ _=>k
def Nd.text:Nd->List UInt8| .mk _ _ _ _ _ t _=>t
def Nd.at_:Nd->Nat| .mk _ _ _ _ _ _ a=>a
def charD (t:List UInt8) (at_:Nat):Nd:= .mk 1 [] [] [] [] t at_
def addText (ks:List Nd) (t:List UInt8) (at_:Nat):List Nd:=
 match ks.getLast? with
 |some (.mk 1 s n al kk u b)=>ks.dropLast++ [.mk 1 s n al kk (u++t) b]
 |_=>ks++ [charD t at_]
mutual
def elemP (fin:Nat):Nat->Nat->List Tok->Except PErr (Nd×List Tok)
 |0,_,_=> .error (fin,8)
 |_+1,_,[]=> .error (fin,8)
 |f+1,depth,t::r=>if 100<depth then .error (t.at_,9) else if t.empty then .ok (.mk 0 [] t.name t.attrs [] [] t.at_,r) else kidsP fin f depth t [] r
def kidsP (fin:Nat):Nat->Nat->Tok->List Nd->List Tok->Except PErr (Nd×List Tok)
 |0,_,_,_,_=> .error (fin,8)
 |_+1,_,_,_,[]=> .error (fin,8)
 |f+1,depth,t,ks,u::r=>
  if u.kind=2 then (if u.name≠t.name then .error (u.at_,14) else .ok (.mk 0 [] t.name t.attrs ks [] t.at_,r))
  else if u.kind=1 then match elemP fin f (depth+1) (u::r) with
   | .error x=> .error x
   | .ok (k,r')=>kidsP fin f depth t (ks++ [k]) r'
  else kidsP fin f depth t (addText ks u.text u.at_) r
end
def blankL (l:List UInt8):Bool:=l.all λc=>isSp c.toNat
def docGo (fin:Nat):Nat->Option Nd->List Tok->Except PErr Nd
 |0,_,_=> .error (fin,8)
 |_+1,none,[]=> .error (fin,8)
 |_+1,some n,[]=> .ok n
 |f+1,found,t::r=>
  if t.kind=1/\found.isSome then .error (t.at_,17)
  else if t.kind=2 then .error (t.at_,14)
  else if t.kind=3 then (if blankL t.text=false then .error (t.at_,7) else docGo fin f found r)
  else match elemP fin (2*(r.length+1)+2) 1 (t::r) with
   | .error x=> .error x
   | .ok (n,r')=>docGo fin f (some n) r'
def docP (s:List UInt8):Except PErr Nd:=
 match toksP s with
 | .error x=> .error x
 | .ok l=>docGo s.length (l.length+1) none l
def splitL (l:List UInt8):Option (List UInt8×List UInt8):=
 let p:=l.takeWhile λc=>c !=58
 if p.length<l.length then (if isNm p && isNm (l.drop (p.length+1)) then some (p,l.drop (p.length+1)) else none)
 else if isNm l then some ([],l) else none
def xmlnsL:List UInt8:= [120,109,108,110,115]
def xmlL:List UInt8:= [120,109,108]
def declL (name:List UInt8):Option (List UInt8):=
 match splitL name with
 |some (p,l)=>if p= []/\l=xmlnsL then some [] else if p=xmlnsL then some l else none
 |none=>none
def xmlSpaceL:List UInt8:= [104,116,116,112,58,47,47,119,119,119,46,119,51,46,111,114,103,47,88,77,76,47,49,57,57,56,47,110,97,109,101,115,112,97,99,101]
abbrev Scope:=List (List UInt8×List UInt8)
def lookL (sc:Scope) (p:List UInt8):Option (List UInt8):=
 if p=xmlL then some xmlSpaceL else match sc.reverse.find? λb=>decide (b.1=p) with
  |some b=>some b.2
  |none=>if p= [] then some [] else none
def declsGo:List AtP->Scope->Except PErr Scope
 | [],sc=> .ok sc
 |a::t,sc=>if (splitL a.name).isNone then .error (a.at_,13) else match declL a.name with
  |some d=>if d=xmlL\/d=xmlnsL\/(d≠ []/\a.value= []) then .error (a.at_,13) else declsGo t (sc++ [(d,a.value)])
  |none=>declsGo t sc
def attrsGo (sc:Scope):List AtP->List AtP->Except PErr (List AtP)
 | [],out=> .ok out
 |a::t,out=>if (declL a.name).isSome then attrsGo sc t out else
  let pl:=(splitL a.name).getD ([],[])
  match (if pl.1= [] then some [] else lookL sc pl.1) with
  |none=> .error (a.at_,13)
  |some sp=>if out.any λb=>b.space==sp && b.name==pl.2 then .error (a.at_,10) else attrsGo sc t (out++ [⟨sp,pl.2,a.value,a.at_⟩])
def headP (n:Nd) (sc:Scope):Except PErr (List UInt8×List UInt8×List AtP×Scope):=
 match splitL n.name with
 |none=> .error (n.at_,13)
 |some (p,l)=>if p=xmlnsL then .error (n.at_,13) else match declsGo n.attrs sc with
  | .error x=> .error x
  | .ok inner=>match lookL inner p with
   |none=> .error (n.at_,13)
   |some sp=>match attrsGo inner n.attrs [] with
    | .error x=> .error x
    | .ok al=> .ok (sp,l,al,inner)
mutual
def resP:Nd->Scope->Except PErr Nd
 | .mk k s n al ks t a,sc=>match headP (.mk k s n al ks t a) sc with
  | .error x=> .error x
  | .ok (sp,l,al',inner)=>match resKids ks inner with
   | .error x=> .error x
   | .ok ks'=> .ok (.mk 0 sp l al' ks' [] a)
def resKids:List Nd->Scope->Except PErr (List Nd)
 | [],_=> .ok []
 |k::t,sc=>match (if k.kind=0 then resP k sc else .ok k) with
  | .error x=> .error x
  | .ok k'=>match resKids t sc with
   | .error x=> .error x
   | .ok t'=> .ok (k'::t')
end
def treeP (s:List UInt8):Option Nd:=
 if 5000<s.length then none else match docP s with
  | .error _=>none
  | .ok n=>match resP n [] with
   | .error _=>none
   | .ok m=>some m
section
variable {k m:Nat} {s:List UInt8}
theorem Zih (h:k<s.length) (A:isSp (s[k].toNat)=true):spAt s k=spAt s (k+1):=by
 unfold spAt;rw[Zi h,YS,Zl A,Ze];omega
theorem Zii (h:k<s.length) (A:isSp (s[k].toNat)=false):spAt s k=k:=by
 unfold spAt;rw[Zi h,YS,Zg (by rw[A];simp)];rfl
theorem ZjG (h:s.length<=k):spAt s k=k:=by
 unfold spAt;rw[Zw h];rfl
theorem UF (h:k<=s.length):spAt s k<=s.length:=by
 unfold spAt;have A:=(YF (l:=s.drop k) (λc:UInt8=>isSp c.toNat)).length_le;rw[Zm] at A;omega
theorem Vj (s:List UInt8) (k:Nat):k<=spAt s k:=Nat.le_add_right _ _
theorem ZcY (n:Nat) (l:List UInt8) (m:Nat) (h:n<m):∀i,i<=n->acc (n+1) (l.take m) i=acc (n+1) l i
 |0,_=>by unfold acc;rw[Z0,Z0,List.getElem?_take_of_lt (by omega)]
 |i+1,hi=>by
  unfold acc
  rw[ZcY n l m h i (by omega),Z0,Z0,List.getElem?_take_of_lt (by omega)]
theorem Zar:∀(k n:Nat) (l:List UInt8),(refFrom k n l).2<=l.length
 |0,n,l=>Zh _
 |k+1,n,l=>by
  unfold refFrom
  split
  ·split
   ·rename_i h _;exact h.2
   ·exact Zar k (n+1) l
  ·exact Zh _
theorem Kw (l:List UInt8):∀(k n:Nat),1<=n->(refFrom k n l).2≠0->n<=(refFrom k n l).2/\∀K,(refFrom k n l).2<=K->refFrom k n (l.take K)=refFrom k n l
 |0,n,_,h=>by simp[refFrom] at h
 |k+1,n,hn,h=>by
  unfold refFrom at h|-
  by_cases F:n<=4/\n<=l.length
  ·rw[Zl F] at h|-
   have D:∀K,n<=K->acc n (l.take K) (n - 1)=acc n l (n - 1):=λK hK=>by
    obtain ⟨m,rfl⟩:∃m,n=m+1:=⟨n - 1,by omega⟩
    exact ZcY m l K (by omega) _ (by omega)
   by_cases H:encN (acc n l (n - 1))=l.take n
   ·rw[Zl H] at h|-
    refine ⟨Zb _,λK hK=> ?_⟩
    have A:n<=K:=hK
    rw[Zl ⟨F.1,by rw[ZG];omega⟩,D K A,List.take_take,Nat.min_eq_left A,Zl H]
   ·rw[Zg H] at h|-
    obtain ⟨J,I⟩:=Kw l k (n+1) (by omega) h
    refine ⟨by omega,λK hK=> ?_⟩
    have A:n<=K:=(by omega)
    have M:=Zar k (n+1) l
    rw[Zl ⟨F.1,by rw[ZG];omega⟩,D K A,List.take_take,Nat.min_eq_left A,Zg H]
    exact I K hK
  ·rw[Zg F] at h
   exact absurd rfl h
theorem Zbm {l:List UInt8} (h:(dec l).2≠0) (D:(dec l).2<=m):dec (l.take m)=dec l:=by
 have F:l≠ []:=λe=>by rw[e] at h;exact h rfl
 have e1:=Gb l F;have H:=UT l;have A:l.take m≠ []:=λe=>by have:=Zy List.length e;rw[ZG,ZT] at this;omega
 have e2:=Gb (l.take m) A;rw[<-e1] at h D;rw[<-e2,<-e1];exact (Kw l 4 1 (Zb _) h).2 m D
inductive NmPre (c:Bool):Bool->List UInt8->Nat->Prop where
 |zero (first:Bool) (l:List UInt8):NmPre c first l 0
 |step {first:Bool} {l:List UInt8} {k:Nat} (h0:(dec l).2≠0) (hok:nmOk c first (dec l).1=true) (t:NmPre c false (l.drop (dec l).2) k):NmPre c first l ((dec l).2+k)
theorem Uu (c:Bool) (f:Nat) (first:Bool):nmGo c f first []=0:=by cases f<;>simp[nmGo]
theorem K2 {c first:Bool} {f:Nat} {l:List UInt8} (h:(dec l).2≠0) (A:nmOk c first (dec l).1=true):nmGo c (f+1) first l=(dec l).2+nmGo c f false (l.drop (dec l).2):=by
 have D:l≠ []:=λe=>by rw[e] at h;exact h rfl
 rw[nmGo,Zg (by simp[D,h,A])]
theorem Vw {c first:Bool} {f:Nat} {l:List UInt8} (h:l= []\/(dec l).2=0\/nmOk c first (dec l).1=false):nmGo c f first l=0:=by
 cases f with
 |zero=>rfl
 |succ f=>rw[nmGo,Zl h]
theorem K1 (c:Bool):∀(n m:Nat) (first:Bool) (l:List UInt8),l.length<=n->l.length<=m->nmGo c n first l=nmGo c m first l
 |0,m,first,l,h,_=>by
  have F:l= []:=ZF (by omega)
  subst F
  rw[Uu,Uu]
 |n+1,0,first,l,_,h=>by
  have F:l= []:=ZF (by omega)
  subst F
  rw[Uu,Uu]
 |n+1,m+1,first,l,h1,h2=>by
  by_cases D:l= []\/(dec l).2=0\/nmOk c first (dec l).1=false
  ·rw[Vw D,Vw D]
  ·have A:(dec l).2≠0/\nmOk c first (dec l).1=true:=⟨λe=>D (Or.inr (Or.inl e)),by
    cases h:nmOk c first (dec l).1 with
    |true=>rfl
    |false=>exact absurd (Or.inr (Or.inr h)) D⟩
   rw[K2 A.1 A.2,K2 A.1 A.2,K1 c n m false _ (by rw[Zm];omega) (by rw[Zm];omega)]
theorem NmPre.go {c:Bool}:∀{first:Bool} {l:List UInt8} {k:Nat},NmPre c first l k->k<=l.length/\nmGo c l.length first l=k+nmGo c l.length (first && decide (k=0)) (l.drop k)
 |first,l,_,.zero _ _=>⟨Zh _,by simp⟩
 |first,l,_,.step (k:=k) h0 hok t=>by
  obtain ⟨A,D⟩:=t.go
  have H:=UT l
  rw[Zm] at A
  have h:l.length=(l.length - 1)+1:=by omega
  refine ⟨by omega,?_⟩
  have e1:nmGo c l.length first l=(dec l).2+nmGo c (l.length - 1) false (l.drop (dec l).2):=by
   rw[h]
   exact K2 h0 hok
  rw[e1,K1 c (l.length - 1) (l.drop (dec l).2).length false _ (by rw[Zm];omega) (Zb _),D,List.drop_drop]
  have F:(first && decide ((dec l).2+k=0))=(false && decide (k=0)):=by
   rw[Yf (show ¬(dec l).2+k=0 by omega)]
   simp
  rw[F,K1 c (l.drop (dec l).2).length l.length _ (l.drop ((dec l).2+k)) (by rw[Zm,Zm];omega) (by rw[Zm];omega)]
  omega
theorem NmPre.cut {c:Bool}:∀{first:Bool} {l:List UInt8} {k:Nat},NmPre c first l k->∀m,k<=m->NmPre c first (l.take m) k
 |first,l,_,.zero _ _,m,_=> .zero _ _
 |first,l,_,.step (k:=k) h0 hok t,m,hm=>by
  have h:dec (l.take m)=dec l:=Zbm h0 (by omega)
  have:=NmPre.step (c:=c) (first:=first) (l:=l.take m) (k:=k) (by rw[h];exact h0) (by rw[h];exact hok) (by rw[h,List.drop_take];exact t.cut (m - (dec l).2) (by omega))
  rw[h] at this
  exact this
theorem Zkl {l:List UInt8} (h:NmPre true true l k) (H:0<k):isQ (l.take k)=true:=by
 have D:=(h.cut k (Zb _)).go;have I:=h.go.1;unfold isQ nmLen;have A:(l.take k).length=k:=by rw[ZG];omega
 rw[A] at D;have F:nmGo true k true (l.take k)=k:=by rw[D.2,Zw (by rw[A];exact Zb _),Uu];rfl
 rw[A,F];simpa using H
theorem Zkm {l:List UInt8} (h:NmPre true true l k) (H:(dec (l.drop k)).2≠0) (F:nmOk true (decide (k=0)) (dec (l.drop k)).1=false):isQ (l.take (k+(dec (l.drop k)).2))=false:=by
 obtain ⟨n,K⟩:∃n,(dec (l.drop k)).2=n:=⟨_,rfl⟩;have D:=UT (l.drop k);rw[Zm] at D;have I:=(h.cut (k+n) (Nat.le_add_right _ _)).go;have J:(l.take (k+n)).length=k+n:=by rw[ZG];omega
 rw[J] at I;rw[K];have Q:(l.take (k+n)).drop k=(l.drop k).take n:=by rw[List.drop_take,Nat.add_sub_cancel_left]
 have A:dec ((l.drop k).take n)=dec (l.drop k):=Zbm H (by omega);have M:nmGo true (k+n) true (l.take (k+n))=k:=by rw[I.2,Q,Vw (Or.inr (Or.inr (by rw[A];simpa using F)))];rfl
 unfold isQ nmLen;rw[J,M];have:n≠0:=by rw[<-K];exact H
 rw[Yf (by omega)]
end
section
variable {i k:Nat} {s t:List UInt8}
theorem Jt {l:List UInt8}:t.isPrefixOf l=true↔l.take t.length=t:=by
 rw[List.isPrefixOf_iff_prefix];exact ⟨λh=>(Xn.1 h).symm,λh=>Xn.2 h.symm⟩
theorem Zaa (h:s.length<k+t.length) (D:t≠ []):hasAt s k t=false:=by
 unfold hasAt;cases hp:t.isPrefixOf (s.drop k) with
 |false=>rfl
 |true=>have A:=Zy List.length (Jt.1 hp);have F:0<t.length:=Gk.2 D;rw[ZG,Zm] at A;omega
theorem ZdG (s t:List UInt8) (k:Nat):hasAt s k t=((s.drop k).take t.length==t):=by
 unfold hasAt;cases hp:t.isPrefixOf (s.drop k) with
 |true=>rw[Jt.1 hp];simp
 |false=>
  have:(s.drop k).take t.length≠t:=λe=>by rw[Jt.2 e] at hp;cases hp
  simp[this]
theorem Zfm (h:k<s.length) (A:hasAt s k t=true):findAt s k t=some k:=by
 unfold findAt;unfold hasAt at A;rw[Zi h] at A|-;rw[findIn,Zl A]
theorem IM (h:k<s.length) (A:hasAt s k t=false):findAt s k t=findAt s (k+1) t:=by
 unfold findAt;unfold hasAt at A;rw[Zi h] at A|-;rw[findIn,Zg (by rw[A];simp)]
theorem IN (D:t≠ []):∀(l:List UInt8) (k:Nat),l.length<t.length->findIn t l k=none
 | [],k,_=>by rw[findIn,Zg D]
 |c::r,k,h=>by
  have A:t.isPrefixOf (c::r)=false:=by
   cases A:t.isPrefixOf (c::r) with
   |false=>rfl
   |true=>
    have F:=Zy List.length (Jt.1 A)
    rw[ZG] at F
    omega
  rw[findIn,Zg (by rw[A];simp)]
  exact IN D r (k+1) (by rw[Ze] at h;omega)
theorem Zfl (A:t≠ []) (h:s.length<k+t.length):findAt s k t=none:=
 IN A _ _ (by have:=Gk.2 A;rw[Zm];omega)
theorem Zbs:∀(l:List UInt8) (k i:Nat),findIn t l k=some i->k<=i/\i+t.length<=k+l.length
 | [],k,i,h=>by
  rw[findIn] at h
  split at h
  ·rename_i e
   injection h with h
   subst h e
   simp
  ·cases h
 |c::r,k,i,h=>by
  rw[findIn] at h
  split at h
  ·rename_i e
   injection h with h
   subst h
   have A:=Zy List.length (Jt.1 e)
   rw[ZG] at A
   exact ⟨Zb _,by omega⟩
  ·have:=Zbs r (k+1) i h
   rw[Ze]
   exact ⟨by omega,by omega⟩
theorem KS (A:k<=s.length) (h:findAt s k t=some i):k<=i/\i+t.length<=s.length:=by
 have:=Zbs _ _ _ h;rw[Zm] at this;exact ⟨this.1,by omega⟩
theorem Zi8 (h:k+1<s.length) (A:s[k]=13) (D:s[k+1]=10):lns (s.drop k)=lns (s.drop (k+1)):=by
 rw[Zi (show k<s.length by omega),Zi h,lns,Zl ⟨A,D⟩]
theorem KY (h:k<s.length) (D:∀A:k+1<s.length,¬(s[k]=13/\s[k+1]=10)):lns (s.drop k)=(if s[k]=13 then 10 else s[k])::lns (s.drop (k+1)):=by
 rw[Zi h];by_cases A:k+1<s.length
 ·rw[Zi A,lns,Zg (D A)]
 ·rw[Zw (by omega)];rfl
theorem Zkp (h:s.length<=k):lns (s.drop k)= []:=by
 rw[Zw h];rfl
theorem Kl:∀l:List UInt8,(lns l).length<=l.length
 | []=>Zb _
 | [c]=>Zb _
 |c::d::r=>by
  have h:=Kl (d::r)
  rw[lns]
  split
  ·rw[Ze (a:=c)];omega
  ·rw[Ze,Ze (a:=c)];omega
end
section
variable {i:Nat} {s:List UInt8}
theorem Kt {r e:Nat} (h:refAt s i=some (r,e)):i+2<=e/\e<=s.length:=by
 unfold refAt at h;dsimp only at h;split at h
 ·split at h
  ·rename_i A;have D:(s.drop i).length=s.length - i:=Zm;split at h
   ·split at h
    ·injection h with h;injection h with h2 h3;subst h3;omega
    ·cases h
   ·cases h
  ·cases h
 ·cases h
def plainAt (s:List UInt8) (tz i:Nat):List UInt8:=((s.take tz).drop i).takeWhile λc=>c !=38
theorem Vf {A:Nat} (I:i<A) (J:A<=s.length) (h:(s.drop i).head?≠some 38):0<(plainAt s A i).length:=by
 unfold plainAt;have D:i<(s.take A).length:=by rw[ZG];omega
 have F:i<s.length:=by omega
 rw[Zi D,YS,List.getElem_take];rw[Zi F,J3] at h;have H:s[i]≠38:=λe=>h (by rw[e]);rw[Zl (by simpa using H)];simp
theorem Va (value:Bool) (s:List UInt8) (A:Nat) (H:A<=s.length):∀(f g i:Nat) (out:List UInt8),A - i<f->A - i<g->contGo value s A f i out=contGo value s A g i out
 |0,_,_,_,h,_=>by omega
 |_+1,0,_,_,_,h=>by omega
 |f+1,g+1,i,out,h1,h2=>by
  unfold contGo
  by_cases F:A<=i
  ·rw[Zl F,Zl F]
  ·rw[Zg F,Zg F]
   by_cases D:(s.drop i).head? =some 38
   ·rw[Zl D,Zl D]
    cases hr:refAt (s.take A) i with
    |none=>rfl
    |some x=>
     obtain ⟨r,e⟩:=x
     have:=Kt hr
     exact Va value s A H f g e _ (by omega) (by omega)
   ·rw[Zg D,Zg D]
    have I:=Vf (by omega) H D
    exact Va value s A H f g (i+(plainAt s A i).length) _ (by omega) (by omega)
def contAt (value:Bool) (s:List UInt8) (tz i:Nat) (out:List UInt8):Except PErr (List UInt8):=contGo value s tz (tz - i+1) i out
theorem Zfd {value:Bool} {A:Nat} {out:List UInt8} (h:A<=i):contAt value s A i out= .ok out:=by
 unfold contAt contGo;rw[Zl h]
theorem Zfe {value:Bool} {h r e:Nat} {out:List UInt8} (F:h<=s.length) (H:i<h) (D:(s.drop i).head? =some 38) (A:refAt (s.take h) i=some (r,e)):contAt value s h i out=contAt value s h e (out++encN r):=by
 have:=Kt A;unfold contAt;rw[contGo,Zg (by omega),Zl D,A];exact Va value s h F _ _ _ _ (by omega) (by omega)
theorem Zfc {value:Bool} {h:Nat} {out:List UInt8} (F:i<h) (A:(s.drop i).head? =some 38) (D:refAt (s.take h) i=none):contAt value s h i out= .error (i,12):=by
 unfold contAt;rw[contGo,Zg (by omega),Zl A,D]
theorem Zcf {value:Bool} {h:Nat} {out:List UInt8} (D:h<=s.length) (F:i<h) (A:(s.drop i).head?≠some 38):
 contAt value s h i out=contAt value s h (i+(plainAt s h i).length) (out++(if value then spaced (lns (plainAt s h i)) else lns (plainAt s h i))):=by
 have H:=Vf F D A;unfold plainAt at H|-;unfold contAt;rw[contGo,Zg (by omega),Zg A];exact Va value s h D _ _ _ _ (by omega) (by omega)
theorem ZiD (value:Bool) (s:List UInt8) (from_ h:Nat):contP value s from_ h=contAt value s h from_ []:=rfl
end
section
variable {c k:Nat} {nm s t:List UInt8}
theorem Zcv (c:Bool):∀(f:Nat) (first:Bool) (l:List UInt8),nmGo c f first l<=l.length
 |0,_,_=>Zh _
 |f+1,first,l=>by
  rw[nmGo]
  split
  ·exact Zh _
  ·have A:=UT l
   have h:=Zcv c f false (l.drop (dec l).2)
   rw[Zm] at h
   omega
theorem Vd (h:k<=s.length):k<=nmAt s k/\nmAt s k<=s.length:=by
 unfold nmAt nmLen;have:=Zcv true (s.drop k).length true (s.drop k);rw[Zm] at this;rw[Zm];omega
theorem Xy (h:hasAt s k t=true):k+t.length<=s.length\/t= []:=by
 by_cases A:t= []
 ·exact Or.inr A
 ·refine Or.inl (Nat.le_of_not_lt λD=> ?_);rw[Zaa D A] at h;cases h
theorem Ua {c:UInt8} (h:hasAt s k [c]=true):∃D:k<s.length,s[k]=c:=by
 rcases Xy h with A|A
 ·have D:k<s.length:=A;refine ⟨D,?_⟩;rw[ZdG,Zi D] at h;have F: [s[k]]= [c]:=eq_of_beq h;injection F
 ·cases A
theorem XZ (value:Bool) (s:List UInt8) (z:Nat):∀(f i:Nat) (out:List UInt8) (x c:Nat),contGo value s z f i out= .error (x,c)->c=12
 |0,_,_,_,_,h=>by rw[contGo] at h;cases h
 |f+1,i,out,x,c,h=>by
  rw[contGo] at h
  split at h
  ·cases h
  ·split at h
   ·split at h
    ·exact XZ value s z f _ _ x c h
    ·injection h with h
     injection h with _ h
     exact h.symm
   ·exact XZ value s z f _ _ x c h
theorem Ga (s:List UInt8) (f k:Nat):(missP s f k).2=7\/(missP s f k).2=8:=by
 unfold missP;split
 ·exact Or.inr rfl
 ·exact Or.inl rfl
theorem Qs {f e:Nat} {a:AtP} (J:k<=s.length) (h:attrP s f k= .ok (a,e)):k<e/\e<=s.length/\a.at_=k/\a.space= []:=by
 unfold attrP at h;dsimp only at h;have K:=Vd J;split at h
 ·cases h
 ·split at h
  ·cases h
  ·rename_i I;have A:=Xy (t:= [61]) (by simpa using I);have D:spAt s (nmAt s k)+1<=s.length:=by
    rcases A with A|A
    ·exact A
    ·cases A
   split at h
   ·cases h
   ·have M:=UF D;split at h
    ·cases h
    ·split at h
     ·cases h
     ·split at h
      ·cases h
      ·rename_i Q _;injection h with h;injection h with ha he;subst he;refine ⟨?_,?_,by rw[<-ha],by rw[<-ha]⟩
       ·have:=Vj s (nmAt s k);have:=Vj s (spAt s (nmAt s k)+1);omega
       ·have F:=(YF (λd:UInt8=>d !=(List.drop (spAt s (spAt s (nmAt s k)+1)) s).headD 0 && d !=60) (l:=s.drop (spAt s (spAt s (nmAt s k)+1)+1))).length_le;rw[Zm] at F;have R:spAt s (spAt s (nmAt s k)+1)+1<=s.length:=by
         rename_i H _ _ _ _;rcases hb:hasAt s (spAt s (spAt s (nmAt s k)+1)) [34] with _|_
         ·rcases hb2:hasAt s (spAt s (spAt s (nmAt s k)+1)) [39] with _|_
          ·exact absurd ⟨hb,hb2⟩ H
          ·exact (Ua hb2).1
         ·exact (Ua hb).1
        omega
theorem Zbd {f x:Nat} (h:attrP s f k= .error (x,c)):c≠0:=by
 have A:∀a b:Nat,(missP s a b)=(x,c)->c≠0:=λa b e=>by have:=Ga s a b;rw[e] at this;omega
 unfold attrP at h;dsimp only at h;split at h
 ·injection h with h;exact A _ _ h
 ·split at h
  ·injection h with h;exact A _ _ h
  ·split at h
   ·injection h with h;exact A _ _ h
   ·split at h
    ·rename_i y D;obtain ⟨y1,y2⟩:=y;have:=XZ _ _ _ _ _ _ _ _ D;injection h with h;injection h with _ h;omega
    ·split at h
     ·injection h with h;injection h with _ h;omega
     ·split at h
      ·injection h with h;injection h with _ h;omega
      ·cases h
theorem Qa (s:List UInt8) (f:Nat) (nm:List UInt8):∀(n m k:Nat) (al:List AtP),k<=s.length->s.length - k<n->s.length - k<m->startGo s f nm n k al=startGo s f nm m k al
 |0,_,_,_,_,h,_=>by omega
 |_+1,0,_,_,_,_,h=>by omega
 |n+1,m+1,k,al,hk,h1,h2=>by
  unfold startGo
  dsimp only
  split
  ·rfl
  ·split
   ·rfl
   ·split
    ·rfl
    ·split
     ·rfl
     ·cases ha:attrP s f (spAt s k) with
      |error x=>rfl
      |ok ae=>
       obtain ⟨a,e⟩:=ae
       have A:=Qs (UF hk) ha
       have D:=Vj s k
       dsimp only
       split
       ·rfl
       ·exact Qa s f nm n m e _ A.2.1 (by omega) (by omega)
def startAt (s:List UInt8) (f:Nat) (nm:List UInt8) (k:Nat) (al:List AtP):Except PErr (Tok×Nat):=startGo s f nm (s.length - k+1) k al
theorem GY (s:List UInt8) (f:Nat) (nm:List UInt8) (k:Nat) (al:List AtP) (A:k<=s.length):startAt s f nm k al=
 if hasAt s (spAt s k) [62] then .ok (⟨1,nm,al,false,[],f⟩,spAt s k+1)
 else if hasAt s (spAt s k) [47,62] then .ok (⟨1,nm,al,true,[],f⟩,spAt s k+2)
 else if hasAt s (spAt s k) [47] then .error (missP s f (spAt s k+1))
 else if spAt s k=k then .error (missP s f k)
 else match attrP s f (spAt s k) with
  | .error x=> .error x
  | .ok (a,e)=>if al.any λb=>b.name==a.name then .error (a.at_,10) else startAt s f nm e (al++ [a]):=by
 unfold startAt;rw[startGo];(try dsimp only);split
 ·rfl
 ·split
  ·rfl
  ·split
   ·rfl
   ·split
    ·rfl
    ·cases ha:attrP s f (spAt s k) with
     |error x=>rfl
     |ok ae=>
      obtain ⟨a,e⟩:=ae;have h:=Qs (UF A) ha;have D:=Vj s k;dsimp only;split
      ·rfl
      ·exact Qa s f nm _ _ e _ h.2.1 (by omega) (by omega)
theorem IB (s:List UInt8) (f:Nat) (A:f+1<=s.length):startP s f=if nmAt s (f+1)=f+1 then .error (missP s f (nmAt s (f+1))) else startAt s f ((s.drop (f+1)).take (nmAt s (f+1) - (f+1))) (nmAt s (f+1)) []:=by
 have h:=Vd A;unfold startP;dsimp only;split
 ·rfl
 ·exact Qa s f _ _ _ _ _ h.2 (by omega) (by omega)
theorem I2 {f:Nat}:∀(n k:Nat) (al:List AtP) (x c:Nat),s.length - k<n->k<=s.length->startAt s f nm k al= .error (x,c)->c≠0
 |0,_,_,_,_,h,_,_=>by omega
 |n+1,k,al,x,c,hn,hk,h=>by
  have D:∀a b:Nat,(missP s a b)=(x,c)->c≠0:=λa b e=>by
   have:=Ga s a b
   rw[e] at this
   omega
  rw[GY s f nm k al hk] at h
  split at h
  ·cases h
  ·split at h
   ·cases h
   ·split at h
    ·injection h with h;exact D _ _ h
    ·split at h
     ·injection h with h;exact D _ _ h
     ·split at h
      ·rename_i y A
       obtain ⟨y1,y2⟩:=y
       have:=Zbd A
       injection h with h
       injection h with _ h
       omega
      ·rename_i a e A
       split at h
       ·injection h with h;injection h with _ h;omega
       ·have F:=Qs (UF hk) A
        have H:=Vj s k
        exact I2 n e _ x c (by omega) F.2.1 h
end
section
variable {c k n:Nat} {nm s:List UInt8}
theorem ZiJ (r:Nat):(encN r).length<=4:=by
 unfold encN
 (repeat' split)<;>simp
theorem GM (value:Bool) (s:List UInt8) (z:Nat) (D:z<=s.length):∀(f i:Nat) (out v:List UInt8),contGo value s z f i out= .ok v->v.length<=out.length+2*(z - i)
 |0,i,out,v,h=>by
  rw[contGo] at h
  injection h with h
  rw[<-h]
  omega
 |f+1,i,out,v,h=>by
  rw[contGo] at h
  split at h
  ·injection h with h
   rw[<-h]
   omega
  ·rename_i Q
   split at h
   ·split at h
    ·rename_i r e M
     have F:=Kt M
     rw[ZG] at F
     have A:=GM value s z D f e _ v h
     rw[Zd] at A
     have:=ZiJ r
     omega
    ·cases h
   ·rename_i J
    have K:=Vf (by omega) D J
    have A:=GM value s z D f _ _ v h
    have H:(if value then spaced (lns (plainAt s z i)) else lns (plainAt s z i)).length<=(plainAt s z i).length:=by
     split
     ·unfold spaced
      rw[Zk]
      exact Kl _
     ·exact Kl _
    have I:(plainAt s z i).length<=z - i:=by
     unfold plainAt
     have:=(YF (λc:UInt8=>c !=38) (l:=(s.take z).drop i)).length_le
     rw[Zm,ZG] at this
     omega
    rw[Zd] at A
    unfold plainAt at H I K
    omega
theorem Zbl {value:Bool} {v:List UInt8} {a z:Nat} (A:z<=s.length) (h:contP value s a z= .ok v):v.length<=2*(z - a):=by
 have:=GM value s z A _ _ _ _ h;simpa using this
def AtP.fits (n:Nat) (a:AtP):Prop:=a.space.length<=2*n/\a.name.length<=n/\a.value.length<=2*n/\a.at_<=n
theorem Ze2 {f e:Nat} {a:AtP} (H:k<=s.length) (h:attrP s f k= .ok (a,e)):a.fits s.length:=by
 unfold attrP at h;dsimp only at h;split at h
 ·cases h
 ·split at h
  ·cases h
  ·split at h
   ·cases h
   ·split at h
    ·cases h
    ·split at h
     ·cases h
     ·split at h
      ·cases h
      ·rename_i v A I _;injection h with h;injection h with ha he;subst ha;refine ⟨by simp,?_,?_,H⟩
       ·show (List.take _ (List.drop _ s)).length<=_;rw[ZG,Zm];omega
       ·have D:=(YF (λd:UInt8=>d !=(List.drop (spAt s (spAt s (nmAt s k)+1)) s).headD 0 && d !=60) (l:=s.drop (spAt s (spAt s (nmAt s k)+1)+1))).length_le;rw[Zm] at D;show v.length<=_;by_cases J:spAt s (spAt s (nmAt s k)+1)+1<=s.length
        ·have:=Zbl (by omega) A;omega
        ·have F:s.drop (spAt s (spAt s (nmAt s k)+1)+1)= []:=List.drop_eq_nil_of_le (by omega);rw[F] at A;unfold contP contGo at A;rw[Zl (by simp)] at A;injection A with A;rw[<-A];simp
structure Tok.fits (n:Nat) (t:Tok):Prop where
 name:t.name.length<=n
 cnt:t.attrs.length<=n
 attrs:∀a∈t.attrs,a.fits n
 at_:t.at_<=n
theorem ZaH {f:Nat} (A:nm.length<=s.length) (H:f<=s.length):∀(n k:Nat) (al:List AtP) (t:Tok) (e:Nat),s.length - k<n->k<=s.length->al.length<=k->(∀a∈al,a.fits s.length)->
 startAt s f nm k al= .ok (t,e)->k<e/\e<=s.length/\t.fits s.length/\t.kind=1/\t.text= []
 |0,_,_,_,_,h,_,_,_,_=>by omega
 |n+1,k,al,t,e,hn,hk,hal,hfit,h=>by
  have J:=UF (s:=s) hk;have S:=Vj s k;rw[GY s f nm k al hk] at h;split at h
  ·rename_i I;injection h with h;injection h with h1 h2;subst h1;obtain ⟨D,_⟩:=Ua I;exact ⟨by omega,by omega,⟨A,Zv hal hk,hfit,H⟩,rfl,rfl⟩
  ·split at h
   ·rename_i I;injection h with h;injection h with h1 h2;subst h1;rcases Xy I with D|D
    ·have M:spAt s k+2<=s.length:=D;exact ⟨by omega,by omega,⟨A,Zv hal hk,hfit,H⟩,rfl,rfl⟩
    ·cases D
   ·split at h
    ·cases h
    ·split at h
     ·cases h
     ·split at h
      ·cases h
      ·rename_i a e2 K;split at h
       ·cases h
       ·have D:=Qs J K;have Q:=Ze2 J K;have R:=ZaH A H n e2 _ t e (by omega) D.2.1 (by rw[Zd];show _+1<=_;omega) (by
         intro b F;rcases Zu.1 F with F|F
         ·exact hfit b F
         ·rw[Zo] at F;rw[F];exact Q) h
        exact ⟨by omega,R.2⟩
theorem Zij {f:Nat} {t:Tok} {e:Nat} (A:f+1<=s.length) (h:startP s f= .ok (t,e)):f<e/\e<=s.length/\t.fits s.length/\t.kind=1/\t.text= []:=by
 have D:=Vd A;rw[IB s f A] at h;split at h
 ·cases h
 ·have:=ZaH (by rw[ZG,Zm];omega) (by omega) _ _ _ t e (YW _) D.2 (Zh _) (by intro a F;cases F) h;exact ⟨by omega,this.2⟩
theorem Zf7 {f x:Nat} (A:f+1<=s.length) (h:startP s f= .error (x,c)):c≠0:=by
 have D:=Vd A;rw[IB s f A] at h;split at h
 ·have:=Ga s f (nmAt s (f+1));injection h with h;rw[h] at this;omega
 ·exact I2 _ _ _ x c (YW _) D.2 h
theorem Zkf {f:Nat} {t:Tok} {e:Nat} (D:f+2<=s.length) (h:endP s f= .ok (t,e)):f<e/\e<=s.length/\t.fits s.length/\t.kind=2/\t.text= []:=by
 have H:=Vd D;unfold endP at h;dsimp only at h;split at h
 ·split at h
  ·rename_i F;injection h with h;injection h with h2 h3;subst h2;obtain ⟨I,_⟩:=Ua F;have J:=Vj s (nmAt s (f+2));exact ⟨by omega,by omega,⟨by show (List.take _ (List.drop _ s)).length<=_;rw[ZG,Zm];omega,Zh _,(by intro a A;cases A),by show f<=_;omega⟩,rfl,rfl⟩
  ·cases h
 ·cases h
theorem ZiK {f x:Nat} (h:endP s f= .error (x,c)):c≠0:=by
 have A:∀a b:Nat,(missP s a b)=(x,c)->c≠0:=λa b e=>by have:=Ga s a b;rw[e] at this;omega
 unfold endP at h;dsimp only at h;split at h
 ·split at h
  ·cases h
  ·injection h with h;exact A _ _ h
 ·injection h with h;exact A _ _ h
theorem KD {f e:Nat} {l:List UInt8} (A:f+n<=s.length) (h:skipP s f n l= .ok e):f+n+l.length<=e/\e<=s.length:=by
 unfold skipP at h;split at h
 ·cases h
 ·rename_i i D;have:=KS A D;injection h with h;omega
theorem UO {f x:Nat} {l:List UInt8} (h:skipP s f n l= .error (x,c)):c=8/\x=f:=by
 unfold skipP at h;split at h
 ·injection h with h;injection h with h1 h2;exact ⟨h2.symm,h1.symm⟩
 ·cases h
theorem VN (t:List UInt8) (h:k<=n):(dataT t k).fits n:=⟨Zh _,Zh _,(by intro a A;cases A),h⟩
theorem E0 {f:Nat} {c:UInt8} (A:f<s.length) (D:hasAt s f [c]=false):f<(findAt s f [c]).getD s.length/\(findAt s f [c]).getD s.length<=s.length:=by
 rw[IM A D];cases h:findAt s (f+1) [c] with
 |none=>exact ⟨A,Zb _⟩
 |some i=>have:=KS (by omega) h;show f<i/\i<=_;have F:=this.2;omega
theorem XY {f:Nat} {t:Tok} {e:Nat} (K:f<s.length) (h:constructP s f= .ok (t,e)):
 f<e/\e<=s.length/\t.fits s.length/\t.text.length<=2*(e - f)/\(t.kind=1\/t.kind=2\/t.kind=3):=by
 unfold constructP at h;split at h
 ·rename_i F;split at h
  ·cases h
  ·rename_i J H;injection h with h;injection h with h1 h2;subst h1;subst h2;have A:f+2<=s.length:=(by rcases Xy F with A|A;exact A;cases A);have D:=KD A H;exact ⟨by omega,D.2,VN _ (Zh _),Zh _,Or.inr (Or.inr rfl)⟩
 ·split at h
  ·rename_i F;split at h
   ·cases h
   ·rename_i J H;injection h with h;injection h with h1 h2;subst h1;subst h2;have A:f+4<=s.length:=(by rcases Xy F with A|A;exact A;cases A);have D:=KD A H;exact ⟨by omega,D.2,VN _ (Zh _),Zh _,Or.inr (Or.inr rfl)⟩
  ·split at h
   ·rename_i F;split at h
    ·cases h
    ·rename_i J H;injection h with h;injection h with h1 h2;subst h1;subst h2;have A:f+9<=s.length:=(by rcases Xy F with A|A;exact A;cases A);have D:=KD A H;refine ⟨by omega,D.2,VN _ (by omega),?_,Or.inr (Or.inr rfl)⟩;show (lns _).length<=_;have:=Kl ((s.drop (f+9)).take (J - 3 - (f+9)));rw[ZG] at this;omega
   ·split at h
    ·cases h
    ·split at h
     ·cases h
     ·split at h
      ·rename_i F;have A:f+2<=s.length:=(by rcases Xy F with A|A;exact A;cases A);have D:=Zkf A h;exact ⟨D.1,D.2.1,D.2.2.1,by rw[D.2.2.2.2];exact Zh _,Or.inr (Or.inl D.2.2.2.1)⟩
      ·split at h
       ·have D:=Zij K h;exact ⟨D.1,D.2.1,D.2.2.1,by rw[D.2.2.2.2];exact Zh _,Or.inl D.2.2.2.1⟩
       ·rename_i F;have I:=E0 K (by simpa using F);dsimp only at h;split at h
        ·cases h
        ·rename_i v Q;injection h with h;injection h with h1 h2;subst h1;have M:=Zbl I.2 Q;rw[h2] at I M;exact ⟨I.1,I.2,VN _ (by omega),M,Or.inr (Or.inr rfl)⟩
theorem US {f x:Nat} (D:f<s.length) (h:constructP s f= .error (x,c)):c≠0:=by
 unfold constructP at h;split at h
 ·split at h
  ·rename_i y A;obtain ⟨y1,y2⟩:=y;have:=UO A;injection h with h;injection h with _ h;omega
  ·cases h
 ·split at h
  ·split at h
   ·rename_i y A;obtain ⟨y1,y2⟩:=y;have:=UO A;injection h with h;injection h with _ h;omega
   ·cases h
  ·split at h
   ·split at h
    ·rename_i y A;obtain ⟨y1,y2⟩:=y;have:=UO A;injection h with h;injection h with _ h;omega
    ·cases h
   ·split at h
    ·injection h with h;injection h with _ h;omega
    ·split at h
     ·injection h with h;injection h with _ h;omega
     ·split at h
      ·exact ZiK h
      ·split at h
       ·exact Zf7 D h
       ·dsimp only at h;split at h
        ·rename_i y A;obtain ⟨y1,y2⟩:=y;have:=XZ _ _ _ _ _ _ _ _ A;injection h with h;injection h with _ h;omega
        ·cases h
theorem QQ (s:List UInt8):∀(n m k:Nat) (l:List Tok),s.length - k<n->s.length - k<m->toksGo s n k l=toksGo s m k l
 |0,_,_,_,h,_=>by omega
 |_+1,0,_,_,_,h=>by omega
 |n+1,m+1,k,l,h1,h2=>by
  unfold toksGo
  split
  ·rfl
  ·cases hc:constructP s k with
   |error x=>rfl
   |ok te=>
    obtain ⟨t,e⟩:=te
    have:=XY (by omega) hc
    exact QQ s n m e _ (by omega) (by omega)
def keeps (t:Tok):Prop:=t.kind≠3\/t.text≠ []
instance (t:Tok):Decidable (keeps t):=inferInstanceAs (Decidable (_\/_))
def toksAt (s:List UInt8) (k:Nat) (l:List Tok):Except PErr (List Tok):=toksGo s (s.length - k+1) k l
theorem Qe {l:List Tok} (h:s.length<=k):toksAt s k l= .ok l:=by
 unfold toksAt toksGo;rw[Zl h]
theorem Vk {e:Nat} {l:List Tok} {t:Tok} (h:k<s.length) (A:constructP s k= .ok (t,e)):toksAt s k l=toksAt s e (if keeps t then l++ [t] else l):=by
 have:=XY h A;unfold toksAt;rw[toksGo,Zg (by omega),A];exact QQ s _ _ _ _ (by omega) (by omega)
theorem Qd {l:List Tok} {x:PErr} (h:k<s.length) (A:constructP s k= .error x):toksAt s k l= .error x:=by
 unfold toksAt;rw[toksGo,Zg (by omega),A]
theorem ZaL (s:List UInt8):toksP s=if (check s).2≠0 then .error (check s) else toksAt s (if hasAt s 0 [239,187,191] then 3 else 0) []:=by
 unfold toksP;split
 ·rfl
 ·split
  ·exact QQ s _ _ _ _ (by omega) (by omega)
  ·rfl
structure Toks.fits (n:Nat) (k:Nat) (l:List Tok):Prop where
 len:l.length<=k
 each:∀t∈l,t.fits n
 text:(l.map λt=>t.text.length).sum<=2*k
 kind:∀t∈l,t.kind=1\/t.kind=2\/t.kind=3
theorem Toks.fits.nil (n k:Nat):Toks.fits n k []:=⟨Zh _,(by intro t h;cases h),Zh _,(by intro t h;cases h)⟩
theorem Toks.fits.later {e:Nat} {l:List Tok} (h:Toks.fits n k l) (A:k<=e):Toks.fits n e l:=⟨Zv h.len A,h.each,Zv h.text (by omega),h.kind⟩
theorem Toks.fits.add {e:Nat} {l:List Tok} {t:Tok} (h:Toks.fits s.length k l) (H:k<s.length) (F:constructP s k= .ok (t,e)):Toks.fits s.length e (l++ [t]):=by
 have D:=XY H F;refine ⟨?_,?_,?_,?_⟩
 ·rw[Zd];have:=h.len;show _+1<=_;omega
 ·intro u A;rcases Zu.1 A with A|A
  ·exact h.each u A
  ·rw[Zo] at A;rw[A];exact D.2.2.1
 ·rw[ZK,Vl];have:=h.text;simp only[ZP,Yt,XH,List.sum_nil];omega
 ·intro u A;rcases Zu.1 A with A|A
  ·exact h.kind u A
  ·rw[Zo] at A;rw[A];exact D.2.2.2.2
theorem I3:∀(n k:Nat) (l L:List Tok),s.length - k<n->k<=s.length->Toks.fits s.length k l->toksAt s k l= .ok L->Toks.fits s.length s.length L
 |0,_,_,_,h,_,_,_=>by omega
 |n+1,k,l,L,hn,hk,hfit,h=>by
  by_cases A:s.length<=k
  ·rw[Qe A] at h
   injection h with h
   rw[<-h]
   exact hfit.later hk
  ·cases hc:constructP s k with
   |error x=>rw[Qd (by omega) hc] at h;cases h
   |ok te=>
    obtain ⟨t,e⟩:=te
    have D:=XY (by omega) hc
    rw[Vk (by omega) hc] at h
    refine I3 n e _ L (by omega) D.2.1 ?_ h
    split
    ·exact hfit.add (by omega) hc
    ·exact hfit.later (by omega)
theorem GZ {L:List Tok} (h:toksP s= .ok L):Toks.fits s.length s.length L:=by
 rw[ZaL] at h;split at h
 ·cases h
 ·refine I3 _ _ _ L (YW _) ?_ (Toks.fits.nil _ _) h;split
  ·rename_i D;rcases Xy D with A|A
   ·exact A
   ·cases A
  ·exact Zh _
end
section
variable {c d fin n:Nat} {s t:List UInt8}
theorem QC (fin f d:Nat):elemP fin f d []= .error (fin,8):=by cases f<;>rw[elemP]
theorem Kk (fin f d:Nat) (t:Tok) (ks:List Nd):kidsP fin f d t ks []= .error (fin,8):=by cases f<;>rw[kidsP]
theorem VC (fin:Nat):∀f:Nat,(∀(d:Nat) (l:List Tok) (n:Nd) (r:List Tok),elemP fin f d l= .ok (n,r)->∃m,0<m/\m<=l.length/\r=l.drop m)/\
 (∀(d:Nat) (t:Tok) (ks:List Nd) (l:List Tok) (n:Nd) (r:List Tok),kidsP fin f d t ks l= .ok (n,r)->∃m,0<m/\m<=l.length/\r=l.drop m)
 |0=>⟨λd l n r h=>(by rw[elemP] at h;cases h),λd t ks l n r h=>(by rw[kidsP] at h;cases h)⟩
 |f+1=>by
  obtain ⟨I,D⟩:=VC fin f;refine ⟨λd l n r h=> ?_,λd t ks l n r h=> ?_⟩
  ·cases l with
   |nil=>rw[elemP] at h;cases h
   |cons t l=>
    rw[elemP] at h;split at h
    ·cases h
    ·split at h
     ·injection h with h;injection h with H A;exact ⟨1,by omega,by simp,by rw[<-A];rfl⟩
     ·obtain ⟨m,H,A,F⟩:=D d t [] l n r h;exact ⟨m+1,by omega,by simpa using A,by rw[F];rfl⟩
  ·cases l with
   |nil=>rw[kidsP] at h;cases h
   |cons u l=>
    rw[kidsP] at h;split at h
    ·split at h
     ·cases h
     ·injection h with h;injection h with H A;exact ⟨1,by omega,by simp,by rw[<-A];rfl⟩
    ·split at h
     ·split at h
      ·cases h
      ·rename_i k r' M;obtain ⟨m,H,A,F⟩:=I _ _ _ _ M;obtain ⟨Q,R,K,J⟩:=D _ _ _ _ _ _ h;rw[F,List.drop_drop] at J;rw[F,Zm] at K;exact ⟨m+Q,by omega,by omega,J⟩
     ·obtain ⟨m,H,A,F⟩:=D _ _ _ _ _ _ h;exact ⟨m+1,by omega,by simpa using A,by rw[F];rfl⟩
theorem Q8 (fin:Nat):∀f:Nat,(∀(g d:Nat) (l:List Tok),2*l.length<=f->2*l.length<=g->elemP fin f d l=elemP fin g d l)/\
 (∀(g d:Nat) (t:Tok) (ks:List Nd) (l:List Tok),2*l.length+1<=f->2*l.length+1<=g->kidsP fin f d t ks l=kidsP fin g d t ks l)
 |0=>⟨λg d l h _=>(by
  have J:l= []:=List.length_eq_zero_iff.1 (by omega);rw[J,QC,QC]),λg d t ks l h _=>(by omega)⟩
 |f+1=>by
  obtain ⟨H,A⟩:=Q8 fin f;refine ⟨λg d l D F=> ?_,λg d t ks l D F=> ?_⟩
  ·cases l with
   |nil=>rw[QC,QC]
   |cons t l=>
    rw[Ze] at D F;cases g with
    |zero=>omega
    |succ g=>
     rw[elemP,elemP];split
     ·rfl
     ·split
      ·rfl
      ·exact A g d t [] l (by omega) (by omega)
  ·cases l with
   |nil=>rw[Kk,Kk]
   |cons u l=>
    rw[Ze] at D F;cases g with
    |zero=>omega
    |succ g=>
     rw[kidsP,kidsP];split
     ·rfl
     ·split
      ·rw[H g (d+1) (u::l) (by rw[Ze];omega) (by rw[Ze];omega)];cases he:elemP fin g (d+1) (u::l) with
       |error x=>rfl
       |ok kr=>obtain ⟨k,r⟩:=kr;obtain ⟨m,K,M,I⟩:=(VC fin g).1 _ _ _ _ he;have Q:r.length+1<=l.length+1:=(by rw[I,Zm,Ze];omega);exact A g d t _ r (by omega) (by omega)
      ·exact A g d t _ l (by omega) (by omega)
def elemAt (fin d:Nat) (l:List Tok):Except PErr (Nd×List Tok):=elemP fin (2*l.length) d l
def kidsAt (fin d:Nat) (t:Tok) (ks:List Nd) (l:List Tok):Except PErr (Nd×List Tok):=kidsP fin (2*l.length+1) d t ks l
theorem ZgQ (fin d:Nat) (t:Tok) (l:List Tok):elemAt fin d (t::l)=if 100<d then .error (t.at_,9) else if t.empty then .ok (.mk 0 [] t.name t.attrs [] [] t.at_,l) else kidsAt fin d t [] l:=by
 unfold elemAt kidsAt;rw[Ze,show 2*(l.length+1)=2*l.length+1+1 by omega,elemP]
theorem Zfx (fin d:Nat) (t:Tok) (ks:List Nd):kidsAt fin d t ks []= .error (fin,8):=Kk _ _ _ _ _
theorem Zfv (fin d:Nat) (t:Tok) (ks:List Nd) (u:Tok) (l:List Tok) (h:u.kind=2):kidsAt fin d t ks (u::l)=if u.name≠t.name then .error (u.at_,14) else .ok (.mk 0 [] t.name t.attrs ks [] t.at_,l):=by
 unfold kidsAt;rw[kidsP,Zl h]
theorem Zfw (fin d:Nat) (t:Tok) (ks:List Nd) (u:Tok) (l:List Tok) (A:u.kind=1):kidsAt fin d t ks (u::l)=match elemAt fin (d+1) (u::l) with| .error x=> .error x| .ok (k,r)=>kidsAt fin d t (ks++ [k]) r:=by
 unfold kidsAt elemAt;rw[kidsP,Zg (by omega),Zl A];rw[Ze];cases he:elemP fin (2*(l.length+1)) (d+1) (u::l) with
 |error x=>rfl
 |ok kr=>
  obtain ⟨k,r⟩:=kr;obtain ⟨m,D,F,h⟩:=(VC fin _).1 _ _ _ _ he;have H:r.length+1<=l.length+1:=by rw[h,Zm,Ze];omega
  exact (Q8 fin _).2 _ _ _ _ _ (by omega) (Zb _)
theorem ZdM (fin d:Nat) (t:Tok) (ks:List Nd) (u:Tok) (l:List Tok) (h:u.kind=3):kidsAt fin d t ks (u::l)=kidsAt fin d t (addText ks u.text u.at_) l:=by
 unfold kidsAt;rw[kidsP,Zg (by omega),Zg (by omega)];rw[Ze];exact (Q8 fin _).2 _ _ _ _ _ (by omega) (Zb _)
theorem QB {l r:List Tok} {n:Nd} (h:elemAt fin d l= .ok (n,r)):∃m,0<m/\m<=l.length/\r=l.drop m:=(VC fin _).1 _ _ _ _ h
theorem Zdp (fin:Nat):∀f:Nat,(∀(d:Nat) (l:List Tok) (x c:Nat),elemP fin f d l= .error (x,c)->c≠0)/\(∀(d:Nat) (t:Tok) (ks:List Nd) (l:List Tok) (x c:Nat),kidsP fin f d t ks l= .error (x,c)->c≠0)
 |0=>⟨λd l x c h=>(by rw[elemP] at h;injection h with h;injection h with _ h;omega),λd t ks l x c h=>(by rw[kidsP] at h;injection h with h;injection h with _ h;omega)⟩
 |f+1=>by
  obtain ⟨D,A⟩:=Zdp fin f
  refine ⟨λd l x c h=> ?_,λd t ks l x c h=> ?_⟩
  ·cases l with
   |nil=>rw[QC] at h;injection h with h;injection h with _ h;omega
   |cons t l=>
    rw[elemP] at h
    split at h
    ·injection h with h;injection h with _ h;omega
    ·split at h
     ·cases h
     ·exact A _ _ _ _ _ _ h
  ·cases l with
   |nil=>rw[Kk] at h;injection h with h;injection h with _ h;omega
   |cons u l=>
    rw[kidsP] at h
    split at h
    ·split at h
     ·injection h with h;injection h with _ h;omega
     ·cases h
    ·split at h
     ·split at h
      ·rename_i y F
       obtain ⟨y1,y2⟩:=y
       have:=D _ _ _ _ F
       injection h with h;injection h with _ h;omega
      ·exact A _ _ _ _ _ _ h
     ·exact A _ _ _ _ _ _ h
theorem GO {x:Nat} {l:List Tok} (h:elemAt fin d l= .error (x,c)):c≠0:=(Zdp fin _).1 _ _ _ _ h
theorem JG (fin f:Nat) (found:Option Nd) (t:Tok) (r:List Tok):docGo fin (f+1) found (t::r)=if t.kind=1/\found.isSome then .error (t.at_,17)
 else if t.kind=2 then .error (t.at_,14)
 else if t.kind=3 then (if blankL t.text=false then .error (t.at_,7) else docGo fin f found r)
 else match elemAt fin 1 (t::r) with
  | .error x=> .error x
  | .ok (n,r')=>docGo fin f (some n) r':=by
 have h:elemP fin (2*(r.length+1)+2) 1 (t::r)=elemAt fin 1 (t::r):=(Q8 fin _).1 _ _ _ (by rw[Ze];omega) (by rw[Ze];omega);cases found<;>(rw[docGo,h];try rfl)
theorem J8 (fin f:Nat) (found:Option Nd):docGo fin (f+1) found []=match found with|none=> .error (fin,8)|some n=> .ok n:=by cases found<;>rw[docGo]
theorem VP (fin:Nat):∀(f g:Nat) (found:Option Nd) (l:List Tok),l.length<f->l.length<g->docGo fin f found l=docGo fin g found l
 |0,_,_,_,h,_=>by omega
 |_+1,0,_,_,_,h=>by omega
 |f+1,g+1,found,l,h1,h2=>by
  cases l with
  |nil=>rw[J8,J8]
  |cons t r=>
   rw[Ze] at h1 h2
   rw[JG,JG]
   split
   ·rfl
   ·split
    ·rfl
    ·split
     ·split
      ·rfl
      ·exact VP fin f g found r (by omega) (by omega)
     ·cases he:elemAt fin 1 (t::r) with
      |error x=>rfl
      |ok nr=>
       obtain ⟨n,r'⟩:=nr
       obtain ⟨m,D,F,A⟩:=QB he
       have H:r'.length+1<=r.length+1:=(by rw[A,Zm,Ze];omega)
       exact VP fin f g _ r' (by omega) (by omega)
def docAt (fin:Nat) (found:Option Nd) (l:List Tok):Except PErr Nd:=docGo fin (l.length+1) found l
theorem ZgM (fin:Nat) (found:Option Nd):docAt fin found []=match found with|none=> .error (fin,8)|some n=> .ok n:=J8 _ _ _
theorem Zfg (fin:Nat) (found:Option Nd) (t:Tok) (r:List Tok):docAt fin found (t::r)=if t.kind=1/\found.isSome then .error (t.at_,17)
 else if t.kind=2 then .error (t.at_,14)
 else if t.kind=3 then (if blankL t.text=false then .error (t.at_,7) else docAt fin found r)
 else match elemAt fin 1 (t::r) with
  | .error x=> .error x
  | .ok (n,r')=>docAt fin (some n) r':=by
 unfold docAt;rw[JG];split
 ·rfl
 ·split
  ·rfl
  ·split
   ·split
    ·rfl
    ·exact VP fin _ _ _ _ (by rw[Ze];omega) (by omega)
   ·cases he:elemAt fin 1 (t::r) with
    |error x=>rfl
    |ok nr=>obtain ⟨n,r'⟩:=nr;obtain ⟨m,A,D,h⟩:=QB he;have F:r'.length+1<=r.length+1:=(by rw[h,Zm,Ze];omega);exact VP fin _ _ _ _ (by rw[Ze];omega) (by omega)
theorem Kc (s:List UInt8):docP s=match toksP s with| .error x=> .error x| .ok l=>docAt s.length none l:=rfl
def txts (l:List Tok):Nat:=(l.map λt=>t.text.length).sum
mutual
def Nd.fits (n:Nat):Nd->Prop
 | .mk k s nm al ks t a=>k<=1/\s.length<=2*n/\nm.length<=n/\al.length<=n/\(∀b∈al,b.fits n)/\ks.length<=n/\t.length<=2*n/\a<=n/\Nds.fits n ks
def Nds.fits (n:Nat):List Nd->Prop
 | []=>True
 |x::t=>x.fits n/\Nds.fits n t
end
theorem Nds.fits_iff:∀l:List Nd,Nds.fits n l↔∀x∈l,x.fits n
 | []=>by rw[Nds.fits];simp
 |x::t=>by rw[Nds.fits,Nds.fits_iff t];simp
def lastTxt (ks:List Nd) (c:Nat):Prop:=∀k s n al kk u b,ks.getLast? =some (.mk k s n al kk u b)->k=1->u.length<=c
theorem Zb7 {ks:List Nd} {a:Nat} (S:Nds.fits n ks) (Y:ks.length<n) (R:lastTxt ks c) (Z:c+t.length<=2*n) (M:a<=n):Nds.fits n (addText ks t a)/\(addText ks t a).length<=ks.length+1/\lastTxt (addText ks t a) (c+t.length):=by
 have F:=(Nds.fits_iff ks).1 S;unfold addText;split
 ·rename_i s nm al kk u b I;have U:ks≠ []:=by intro e;rw[e] at I;cases I
  have H:Nd.mk 1 s nm al kk u b∈ks:=List.mem_of_getLast? I;have hu:=R 1 s nm al kk u b I rfl;have D:=F _ H;rw[Nd.fits] at D;refine ⟨(Nds.fits_iff _).2 λx A=> ?_,?_,?_⟩
  ·rcases Zu.1 A with A|A
   ·exact F x (List.dropLast_subset _ A)
   ·rw[Zo.1 A,Nd.fits];refine ⟨D.1,D.2.1,D.2.2.1,D.2.2.2.1,D.2.2.2.2.1,D.2.2.2.2.2.1,?_,D.2.2.2.2.2.2.2⟩;rw[Zd];omega
  ·rw[Zd,List.length_dropLast];show _+1<=_;omega
  ·intro k' X V al' J u' K h _;rw[XQ] at h;simp only[Jw,Option.or] at h;injection h with h;injection h with _ _ _ _ _ e _;rw[<-e,Zd];omega
 ·refine ⟨(Nds.fits_iff _).2 λx A=> ?_,?_,?_⟩
  ·rcases Zu.1 A with A|A
   ·exact F x A
   ·rw[Zo.1 A];unfold charD;rw[Nd.fits];exact ⟨by omega,by simp,by simp,by simp,(by intro b Q;cases Q),by simp,by omega,M,by rw[Nds.fits];trivial⟩
  ·rw[Zd];exact Zb _
  ·intro k' X V al' J u' K h _;rw[XQ] at h;simp only[Jw,Option.or] at h;injection h with h;unfold charD at h;injection h with _ _ _ _ _ e _;rw[<-e];omega
theorem UQ (l:List Tok) (m:Nat):txts (l.drop m)<=txts l:=by
 unfold txts;have h:=Zy (λl=>(l.map λt:Tok=>t.text.length).sum) (YZ m l);simp only[ZK,Vl] at h;omega
theorem Xw (t:Tok) (l:List Tok):txts (t::l)=t.text.length+txts l:=by unfold txts;simp
theorem Zbt (fin n:Nat):∀f:Nat,(∀(d:Nat) (l:List Tok) (x:Nd) (r:List Tok),elemP fin f d l= .ok (x,r)->(∀t∈l,t.fits n)->txts l<=2*n->l.length<=n->x.fits n/\x.kind=0)/\
 (∀(d:Nat) (t:Tok) (ks:List Nd) (l:List Tok) (x:Nd) (r:List Tok) (c:Nat),kidsP fin f d t ks l= .ok (x,r)->t.fits n->(∀t∈l,t.fits n)->Nds.fits n ks->lastTxt ks c->c+txts l<=2*n->ks.length+l.length<=n->x.fits n/\x.kind=0)
 |0=>⟨λd l x r h=>(by rw[elemP] at h;cases h),λd t ks l x r c h=>(by rw[kidsP] at h;cases h)⟩
 |f+1=>by
  obtain ⟨Y,K⟩:=Zbt fin n f;refine ⟨λd l x r h I J F=> ?_,λd t ks l x r c h A I H hc J F=> ?_⟩
  ·cases l with
   |nil=>rw[elemP] at h;cases h
   |cons t l=>
    have A:=I t ZS;rw[elemP] at h;split at h
    ·cases h
    ·split at h
     ·injection h with h;injection h with R Z;subst R;rw[Nd.fits];exact ⟨⟨by omega,by simp,A.name,A.cnt,A.attrs,by simp,by simp,A.at_,by rw[Nds.fits];trivial⟩,rfl⟩
     ·refine K d t [] l x r 0 h A (λu V=>I u (ZJ _ V)) (by rw[Nds.fits];trivial) (by intro _ _ _ _ _ _ _ e;cases e) ?_ ?_
      ·rw[Xw] at J;omega
      ·rw[Ze] at F;show 0+_<=_;omega
  ·cases l with
   |nil=>rw[kidsP] at h;cases h
   |cons u l=>
    have V:=I u ZS;have U:∀v∈l,v.fits n:=λv X=>I v (ZJ _ X);rw[Ze] at F;rw[Xw] at J;rw[kidsP] at h;split at h
    ·split at h
     ·cases h
     ·injection h with h;injection h with R Z;subst R;rw[Nd.fits];exact ⟨⟨by omega,by simp,A.name,A.cnt,A.attrs,by omega,by simp,A.at_,H⟩,rfl⟩
    ·split at h
     ·split at h
      ·cases h
      ·rename_i k r' hk;obtain ⟨m,R,Z,S⟩:=(VC fin f).1 _ _ _ _ hk;have M:=Y _ _ _ _ hk I (by rw[Xw];omega) (by rw[Ze];omega);have h6:r'.length+1<=l.length+1:=(by rw[S,Zm,Ze];omega);have h7:=UQ (u::l) m;rw[<-S,Xw] at h7;refine K d t _ r' x r 0 h A (λv X=>I v (YV (by rw[<-S];exact X))) ((Nds.fits_iff _).2 λy Q=> ?_) ?_ (by omega) (by rw[Zd];show _+1+_<=_;omega)
       ·rcases Zu.1 Q with Q|Q
        ·exact (Nds.fits_iff _).1 H y Q
        ·rw[Zo.1 Q];exact M.1
       ·intro k' s' n' al' hb u' b' D e1;rw[XQ] at D;simp only[Jw,Option.or] at D;injection D with D;have:=M.2;rw[D] at this;have h9:k'=0:=this;omega
     ·have ha:=Zb7 (n:=n) (c:=c) (ks:=ks) (t:=u.text) (a:=u.at_) H (by omega) hc (by omega) V.at_;refine K d t _ l x r (c+u.text.length) h A U ha.1 ha.2.2 (by omega) (by omega)
theorem Zdi {l r:List Tok} {x:Nd} (h:elemAt fin d l= .ok (x,r)) (A:∀t∈l,t.fits n) (F:txts l<=2*n) (D:l.length<=n):x.fits n/\x.kind=0:=(Zbt fin n _).1 _ _ _ _ h A F D
theorem GN:∀(f:Nat) (found:Option Nd) (l:List Tok) (x:Nd),docGo fin f found l= .ok x->(∀y,found=some y->y.fits n/\y.kind=0)->(∀t∈l,t.fits n)->txts l<=2*n->l.length<=n->x.fits n/\x.kind=0
 |0,found,l,x,h,_,_,_,_=>by rw[docGo] at h;cases h
 |f+1,found,[],x,h,hf,_,_,_=>by
  rw[J8] at h
  cases found with
  |none=>cases h
  |some y=>
   injection h with h
   rw[<-h]
   exact hf y rfl
 |f+1,found,t::r,x,h,hf,hl,ht,hn=>by
  have F:=ht
  rw[Xw] at F
  have D:=hn
  rw[Ze] at D
  rw[JG] at h
  split at h
  ·cases h
  ·split at h
   ·cases h
   ·split at h
    ·split at h
     ·cases h
     ·exact GN f found r x h hf (λv H=>hl v (ZJ _ H)) (by omega) (by omega)
    ·split at h
     ·cases h
     ·rename_i y r' K
      obtain ⟨m,Q,R,A⟩:=QB K
      have I:=Zdi K hl ht hn
      have M:=UQ (t::r) m
      rw[<-A] at M
      have S:r'.length<=r.length+1:=(by rw[A,Zm,Ze];omega)
      exact GN f (some y) r' x h (by intro z J;injection J with J;rw[<-J];exact I) (λv H=>hl v (YV (by rw[<-A];exact H))) (by omega) (by omega)
theorem Zbo {x:Nd} (h:docP s= .ok x):x.fits s.length/\x.kind=0:=by
 rw[Kc] at h;split at h
 ·cases h
 ·rename_i l D;have A:=GZ D;exact GN _ none l x h (by intro y e;cases e) A.each A.text A.len
end
section
variable {N c i n:Nat} {sc:Scope} {sp:List UInt8}
theorem GX {l p q:List UInt8} (h:splitL l=some (p,q)):p.length<=l.length/\q.length<=l.length:=by
 unfold splitL at h;dsimp only at h;split at h
 ·split at h
  ·injection h with h;injection h with h1 h2;rw[<-h1,<-h2];exact ⟨(YF _).length_le,by rw[Zm];omega⟩
  ·cases h
 ·split at h
  ·injection h with h;injection h with h1 h2;rw[<-h1,<-h2];exact ⟨Zh _,Zb _⟩
  ·cases h
def Scope.fits (n:Nat) (sc:Scope):Prop:=∀b∈sc,b.2.length<=2*n
theorem ZbK {p v:List UInt8} (F:18<=n) (D:Scope.fits n sc) (h:lookL sc p=some v):v.length<=2*n:=by
 unfold lookL at h;split at h
 ·injection h with h;rw[<-h];show 36<=_;omega
 ·split at h
  ·rename_i b A;injection h with h;rw[<-h];exact D b (List.mem_reverse.1 (List.mem_of_find?_eq_some A))
  ·split at h
   ·injection h with h;rw[<-h];exact Zh _
   ·cases h
def lookTo (sc:Scope) (p:List UInt8) (i:Nat):Option (List UInt8):=
 match (sc.take i).reverse.find? λb=>decide (b.1=p) with
 |some b=>some b.2
 |none=>if p= [] then some [] else none
theorem Zi9 {p:List UInt8} (h:p≠xmlL):lookL sc p=lookTo sc p sc.length:=by
 unfold lookL lookTo;rw[Zg h,List.take_length]
 try rfl
theorem ZfF {p:List UInt8} (A:i<sc.length) (h:sc[i].1=p):lookTo sc p (i+1)=some sc[i].2:=by
 unfold lookTo;rw[Zq A,List.reverse_append,List.reverse_singleton,List.singleton_append,List.find?_cons_of_pos (by simpa using h)]
theorem ZdV {p:List UInt8} (A:i<sc.length) (h:sc[i].1≠p):lookTo sc p (i+1)=lookTo sc p i:=by
 unfold lookTo;rw[Zq A,List.reverse_append,List.reverse_singleton,List.singleton_append,List.find?_cons_of_neg (by simpa using h)]
theorem ZdW (sc:Scope) (p:List UInt8):lookTo sc p 0=if p= [] then some [] else none:=by
 unfold lookTo;rw[List.take_zero];rfl
theorem VO:∀(al:List AtP) (sc inner:Scope),declsGo al sc= .ok inner->(∀a∈al,a.fits n)->Scope.fits n sc->Scope.fits n inner/\inner.length<=sc.length+al.length
 | [],sc,inner,h,_,hs=>by
  rw[declsGo] at h
  injection h with h
  rw[<-h]
  exact ⟨hs,by omega⟩
 |a::t,sc,inner,h,ha,hs=>by
  have D:∀b∈t,b.fits n:=λb A=>ha b (ZJ _ A)
  rw[declsGo] at h
  split at h
  ·cases h
  ·split at h
   ·split at h
    ·cases h
    ·have:=VO t _ inner h D (by
      intro b A
      rcases Zu.1 A with A|A
      ·exact hs b A
      ·rw[Zo.1 A]
       exact (ha a ZS).2.2.1)
     rw[Zd] at this
     rw[Ze]
     refine ⟨this.1,Zv this.2 ?_⟩
     show _+1+_<=_
     omega
   ·have:=VO t sc inner h D hs
    rw[Ze]
    exact ⟨this.1,by omega⟩
theorem Qx {x:Nat}:∀(al:List AtP) (sc:Scope),declsGo al sc= .error (x,c)->c=13
 | [],sc,h=>by rw[declsGo] at h;cases h
 |a::t,sc,h=>by
  rw[declsGo] at h
  split at h
  ·injection h with h;injection h with _ h;exact h.symm
  ·split at h
   ·split at h
    ·injection h with h;injection h with _ h;exact h.symm
    ·exact Qx t _ h
   ·exact Qx t _ h
theorem Qt {x:Nat} (sc:Scope):∀(al out:List AtP),attrsGo sc al out= .error (x,c)->c≠0
 | [],out,h=>by rw[attrsGo] at h;cases h
 |a::t,out,h=>by
  rw[attrsGo] at h
  split at h
  ·exact Qt sc t out h
  ·dsimp only at h
   split at h
   ·injection h with h;injection h with _ h;omega
   ·split at h
    ·injection h with h;injection h with _ h;omega
    ·exact Qt sc t _ h
theorem VH (H:18<=n) (I:Scope.fits n sc):∀(al out r:List AtP),attrsGo sc al out= .ok r->(∀a∈al,a.fits n)->(∀a∈out,a.fits n)->(∀a∈r,a.fits n)/\r.length<=out.length+al.length
 | [],out,r,h,_,ho=>by
  rw[attrsGo] at h
  injection h with h
  rw[<-h]
  exact ⟨ho,by omega⟩
 |a::t,out,r,h,ha,ho=>by
  have D:=ha a ZS
  have J:∀b∈t,b.fits n:=λb F=>ha b (ZJ _ F)
  rw[attrsGo] at h
  rw[Ze]
  split at h
  ·have:=VH H I t out r h J ho
   exact ⟨this.1,by omega⟩
  ·dsimp only at h
   split at h
   ·cases h
   ·rename_i sp A
    split at h
    ·cases h
    ·have:=VH H I t _ r h J (by
      intro b F
      rcases Zu.1 F with F|F
      ·exact ho b F
      ·rw[Zo.1 F]
       refine ⟨?_,?_,D.2.2.1,D.2.2.2⟩
       ·show sp.length<=_
        split at A
        ·injection A with A
         rw[<-A]
         exact Zh _
        ·exact ZbK H I A
       ·show ((splitL a.name).getD ([],[])).2.length<=_
        cases hsl:splitL a.name with
        |none=>exact Zh _
        |some pq=>
         obtain ⟨p,q⟩:=pq
         exact Zv (GX hsl).2 D.2.1)
     rw[Zd] at this
     refine ⟨this.1,Zv this.2 ?_⟩
     show _+1+_<=_
     omega
theorem ZbI {n:Nd} {x:Nat} (h:headP n sc= .error (x,c)):c≠0:=by
 unfold headP at h;split at h
 ·injection h with h;injection h with _ h;omega
 ·split at h
  ·injection h with h;injection h with _ h;omega
  ·split at h
   ·rename_i y A;obtain ⟨y1,y2⟩:=y;have:=Qx _ _ A;injection h with h;injection h with _ h;omega
   ·split at h
    ·injection h with h;injection h with _ h;omega
    ·split at h
     ·rename_i y A;obtain ⟨y1,y2⟩:=y;have:=Qt _ _ _ A;injection h with h;injection h with _ h;omega
     ·cases h
theorem Zfs (Q:18<=N) {n:Nd} {inner:Scope} {l:List UInt8} {al:List AtP} (h:headP n sc= .ok (sp,l,al,inner)) (A:n.fits N) (U:Scope.fits N sc):
 sp.length<=2*N/\l.length<=N/\al.length<=N/\(∀a∈al,a.fits N)/\Scope.fits N inner/\inner.length<=sc.length+N:=by
 cases n with
 |mk k s nm at0 ks t a=>
  rw[Nd.fits] at A;unfold headP at h;simp only[Nd.name,Nd.attrs,Nd.at_] at h;split at h
  ·cases h
  ·rename_i p q J;split at h
   ·cases h
   ·split at h
    ·cases h
    ·rename_i K H;have D:=VO at0 sc K H A.2.2.2.2.1 U;split at h
     ·cases h
     ·rename_i V I;split at h
      ·cases h
      ·rename_i al' F;injection h with h;injection h with e1 h;injection h with e2 h;injection h with e3 e4;subst e1;subst e2;subst e3;subst e4;have M:=VH Q D.1 at0 [] al' F A.2.2.2.2.1 (by intro b S;cases S);have X:=A.2.2.2.1;refine ⟨ZbK Q D.1 I,Zv (GX J).2 A.2.2.1,?_,M.1,D.1,by omega⟩;have R:=M.2;simp only[ZT] at R;omega
mutual
theorem Zav {x c:Nat}:∀(n:Nd) (sc:Scope),resP n sc= .error (x,c)->c≠0
 | .mk k s n al ks t a,sc,h=>by
  rw[resP] at h
  split at h
  ·rename_i y hy
   obtain ⟨y1,y2⟩:=y
   have:=ZbI hy
   injection h with h;injection h with _ h;omega
  ·split at h
   ·rename_i y hy
    obtain ⟨y1,y2⟩:=y
    have:=IY ks _ hy
    injection h with h;injection h with _ h;omega
   ·cases h
theorem IY {x c:Nat}:∀(ks:List Nd) (sc:Scope),resKids ks sc= .error (x,c)->c≠0
 | [],sc,h=>by rw[resKids] at h;cases h
 |k::t,sc,h=>by
  rw[resKids] at h
  split at h
  ·rename_i y hy
   obtain ⟨y1,y2⟩:=y
   injection h with h
   injection h with e1 e2
   split at hy
   ·have:=Zav k sc hy
    omega
   ·cases hy
  ·split at h
   ·rename_i y hy
    obtain ⟨y1,y2⟩:=y
    have:=IY t sc hy
    injection h with h;injection h with _ h;omega
   ·cases h
end
mutual
theorem ZbW {N:Nat} (hN:18<=N):∀(n m:Nd) (sc:Scope),resP n sc= .ok m->n.fits N->Scope.fits N sc->m.fits N/\m.kind=0
 | .mk k s n al ks t a,m,sc,h,hn,hs=>by
  rw[resP] at h
  split at h
  ·cases h
  ·rename_i sp l al' inner hh
   have h1:=Zfs hN hh hn hs
   rw[Nd.fits] at hn
   split at h
   ·cases h
   ·rename_i ks' hk
    have h2:=Kz hN ks ks' inner hk hn.2.2.2.2.2.2.2.2 h1.2.2.2.2.1
    injection h with h
    subst h
    rw[Nd.fits]
    exact ⟨⟨by omega,h1.1,h1.2.1,h1.2.2.1,h1.2.2.2.1,by rw[h2.2];exact hn.2.2.2.2.2.1,by simp,hn.2.2.2.2.2.2.2.1,h2.1⟩,rfl⟩
theorem Kz {N:Nat} (hN:18<=N):∀(ks r:List Nd) (sc:Scope),resKids ks sc= .ok r->Nds.fits N ks->Scope.fits N sc->Nds.fits N r/\r.length=ks.length
 | [],r,sc,h,_,_=>by
  rw[resKids] at h
  injection h with h
  subst h
  exact ⟨by rw[Nds.fits];trivial,rfl⟩
 |k::t,r,sc,h,hk,hs=>by
  rw[Nds.fits] at hk
  rw[resKids] at h
  split at h
  ·cases h
  ·rename_i k' hk'
   split at h
   ·cases h
   ·rename_i t' ht'
    injection h with h
    subst h
    have h2:=Kz hN t t' sc ht' hk.2 hs
    refine ⟨?_,by rw[Ze,Ze,h2.2]⟩
    rw[Nds.fits]
    refine ⟨?_,h2.1⟩
    split at hk'
    ·exact (ZbW hN k k' sc hk' hk.1 hs).1
    ·injection hk' with hk'
     rw[<-hk']
     exact hk.1
end
end
section
variable {fin n:Nat} {s sp t:List UInt8} {sc:Scope}
def resAt (sc:Scope) (done rest:List Nd):Except PErr (List Nd):=
 match resKids rest sc with
 | .error x=> .error x
 | .ok t=> .ok (done++t)
theorem ZeD (sc:Scope) (ks:List Nd):resAt sc [] ks=resKids ks sc:=by
 unfold resAt;cases resKids ks sc<;>rfl
theorem Zh6 (sc:Scope) (done:List Nd):resAt sc done []= .ok done:=by
 unfold resAt;rw[resKids];dsimp only;rw[Ye]
theorem Zf4 {done t:List Nd} {k:Nd} (h:k.kind=0):resAt sc done (k::t)=match resP k sc with| .error x=> .error x| .ok k'=>resAt sc (done++ [k']) t:=by
 unfold resAt;rw[resKids,Zl h];cases resP k sc with
 |error x=>rfl
 |ok k'=>
  dsimp only;cases resKids t sc with
  |error x=>rfl
  |ok t'=>simp
theorem Zf5 {done t:List Nd} {k:Nd} (h:k.kind≠0):resAt sc done (k::t)=resAt sc (done++ [k]) t:=by
 unfold resAt;rw[resKids,Zg h];dsimp only;cases resKids t sc with
 |error x=>rfl
 |ok t'=>simp
theorem Qy:∀(al:List AtP) (sc inner:Scope),declsGo al sc= .ok inner->inner.length<=sc.length+al.length
 | [],sc,inner,h=>by
  rw[declsGo] at h
  injection h with h
  rw[<-h]
  omega
 |a::t,sc,inner,h=>by
  rw[declsGo] at h
  rw[Ze]
  split at h
  ·cases h
  ·split at h
   ·split at h
    ·cases h
    ·have:=Qy t _ inner h
     rw[Zd] at this
     refine Zv this ?_
     show _+1+_<=_
     omega
   ·have:=Qy t sc inner h
    omega
theorem Zhd {n:Nd} {inner:Scope} {l:List UInt8} {al:List AtP} (h:headP n sc= .ok (sp,l,al,inner)):inner.length<=sc.length+n.attrs.length:=by
 unfold headP at h;split at h
 ·cases h
 ·split at h
  ·cases h
  ·split at h
   ·cases h
   ·rename_i D A;split at h
    ·cases h
    ·split at h
     ·cases h
     ·injection h with h;injection h with _ h;injection h with _ h;injection h with _ h;rw[<-h];exact Qy _ _ _ A
mutual
def Nd.ht:Nd->Nat
 | .mk _ _ _ _ ks _ _=>1+Nds.ht ks
def Nds.ht:List Nd->Nat
 | []=>0
 |x::t=>max x.ht (Nds.ht t)
end
theorem Nds.ht_le:∀l:List Nd,Nds.ht l<=n↔∀x∈l,x.ht<=n
 | []=>by rw[Nds.ht];simp
 |x::t=>by rw[Nds.ht,Nat.max_le,Nds.ht_le t];simp
theorem Zab {l:List Nd} {x:Nd} (h:x∈l):x.ht<=Nds.ht l:=(Nds.ht_le l).1 (Zb _) x h
theorem ZeY {ks:List Nd} {a:Nat} (I:1<=n) (H:Nds.ht ks<=n):Nds.ht (addText ks t a)<=n:=by
 have A:=(Nds.ht_le ks).1 H;unfold addText;split
 ·rename_i s nm al kk u b F;have D:Nd.mk 1 s nm al kk u b∈ks:=List.mem_of_getLast? F;refine (Nds.ht_le _).2 λx h=> ?_;rcases Zu.1 h with h|h
  ·exact A x (List.dropLast_subset _ h)
  ·have:=A _ D;rw[Zo.1 h,Nd.ht];rw[Nd.ht] at this;exact this
 ·refine (Nds.ht_le _).2 λx h=> ?_;rcases Zu.1 h with h|h
  ·exact A x h
  ·rw[Zo.1 h];unfold charD;rw[Nd.ht,Nds.ht];omega
theorem Zgq (fin:Nat):∀f:Nat,(∀(d:Nat) (l:List Tok) (x:Nd) (r:List Tok),elemP fin f d l= .ok (x,r)->x.ht+d<=102)/\
 (∀(d:Nat) (t:Tok) (ks:List Nd) (l:List Tok) (x:Nd) (r:List Tok),kidsP fin f d t ks l= .ok (x,r)->d<=100->Nds.ht ks+d<=101->x.ht+d<=102)
 |0=>⟨λd l x r h=>(by rw[elemP] at h;cases h),λd t ks l x r h=>(by rw[kidsP] at h;cases h)⟩
 |f+1=>by
  obtain ⟨F,A⟩:=Zgq fin f;refine ⟨λd l x r h=> ?_,λd t ks l x r h H K=> ?_⟩
  ·cases l with
   |nil=>rw[elemP] at h;cases h
   |cons t l=>
    rw[elemP] at h;split at h
    ·cases h
    ·split at h
     ·injection h with h;injection h with h1 h2;subst h1;rw[Nd.ht,Nds.ht];omega
     ·exact A d t [] l x r h (by omega) (by rw[Nds.ht];omega)
  ·cases l with
   |nil=>rw[kidsP] at h;cases h
   |cons u l=>
    rw[kidsP] at h;split at h
    ·split at h
     ·cases h
     ·injection h with h;injection h with h1 h2;subst h1;rw[Nd.ht];omega
    ·split at h
     ·split at h
      ·cases h
      ·rename_i k r' I;have J:=F _ _ _ _ I;refine A d t _ r' x r h H ?_;have:Nds.ht (ks++ [k])<=101 - d:=(Nds.ht_le _).2 λy D=>by
        rcases Zu.1 D with D|D
        ·have:=Zab D;omega
        ·rw[Zo.1 D];omega
       omega
     ·refine A d t _ l x r h H ?_;have:=ZeY (n:=101 - d) (ks:=ks) (t:=u.text) (a:=u.at_) (by omega) (by omega);omega
theorem ET:∀(f:Nat) (found:Option Nd) (l:List Tok) (x:Nd),docGo fin f found l= .ok x->(∀y,found=some y->y.ht<=101)->x.ht<=101
 |0,found,l,x,h,_=>by rw[docGo] at h;cases h
 |f+1,found,[],x,h,hf=>by
  rw[J8] at h
  cases found with
  |none=>cases h
  |some y=>
   injection h with h
   rw[<-h]
   exact hf y rfl
 |f+1,found,t::r,x,h,hf=>by
  rw[JG] at h
  split at h
  ·cases h
  ·split at h
   ·cases h
   ·split at h
    ·split at h
     ·cases h
     ·exact ET f found r x h hf
    ·split at h
     ·cases h
     ·rename_i y r' D
      have F:=(Zgq fin _).1 _ _ _ _ D
      exact ET f (some y) r' x h (by intro z A;injection A with A;rw[<-A];omega)
theorem Zkb {x:Nd} (h:docP s= .ok x):x.ht<=101:=by
 rw[Kc] at h;split at h
 ·cases h
 ·exact ET _ none _ x h (by intro y e;cases e)
end
def opmlL:List UInt8:= [111,112,109,108]
def versionL:List UInt8:= [118,101,114,115,105,111,110]
def twoL:List UInt8:= [50,46,48]
def bodyL:List UInt8:= [98,111,100,121]
def outlineL:List UInt8:= [111,117,116,108,105,110,101]
def textL:List UInt8:= [116,101,120,116]
def titleL:List UInt8:= [116,105,116,108,101]
def xmlUrlL:List UInt8:= [120,109,108,85,114,108]
def htmlUrlL:List UInt8:= [104,116,109,108,85,114,108]
def attrIn (al:List AtP) (nm:List UInt8):Option (List UInt8):=(al.find? λa=>a.space== [] && a.name==nm).map AtP.value
def isEl (nm:List UInt8) (n:Nd):Bool:=n.kind==0 && n.space== [] && n.name==nm
def attrL (n:Nd) (nm:List UInt8):Option (List UInt8):=attrIn n.attrs nm
def nameL (n:Nd):List UInt8:=match attrL n textL with
 |some v=>v
 |none=>(attrL n titleL).getD []
def opFd (path:List ByteArray) (n:Nd) (id:List UInt8):Fd:=⟨path,str id,str (nameL n),str ((attrL n htmlUrlL).getD []), -62135596800,[]⟩
mutual
def visP:Nd->List ByteArray->Except PErr (List Fd)
 | .mk _ _ _ _ ks _ _,path=>visKs ks path
def visKs:List Nd->List ByteArray->Except PErr (List Fd)
 | [],_=> .ok []
 |k::t,path=>
  match (if isEl outlineL k then
   match attrL k xmlUrlL with
   |some id=>if coll id= [] then .error (k.at_,19) else .ok [opFd path k id]
   |none=>if coll (nameL k)= [] then .error (k.at_,19) else if 64<=path.length then .error (k.at_,9) else visP k (path++ [str (nameL k)])
   else .ok []:Except PErr (List Fd)) with
  | .error x=> .error x
  | .ok l=>match visKs t path with
   | .error x=> .error x
   | .ok m=> .ok (l++m)
end
def opmlP (n:Nd):Except PErr (List Fd):=
 if n.kind≠0\/n.space≠ []\/n.name≠opmlL\/attrL n versionL≠some twoL then .error (n.at_,18)
 else match n.kids.find? (isEl bodyL) with
  |none=> .error (n.at_,19)
  |some b=>visP b []
end Go.Proofs.YtnlafkgkcnenfaaGreatDoor
