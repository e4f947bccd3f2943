/- Parts of the proof: contracts and plain laws. -/
import Derived.Test.YtnlafkgkcnenfaaGreatDoorU03
namespace Go.Proofs.YtnlafkgkcnenfaaGreatDoor
open Go _root_.Go.Proofs.Tryz
set_option linter.unusedVariables false
set_option linter.unusedSimpArgs false
set_option maxRecDepth 100000
set_option maxHeartbeats 16000000
def nmStart (r:Nat):Bool:=
 decide ((65<=r/\r<=90)\/(97<=r/\r<=122)\/r=95)||decide ((192<=r/\r<=767/\r≠215/\r≠247)\/(880<=r/\r<=8191/\r≠894))||
 decide (r=8204\/r=8205\/(8304<=r/\r<=8591)\/(11264<=r/\r<=12271)\/(12289<=r/\r<=55295))||decide ((63744<=r/\r<=64975)\/(65008<=r/\r<=65533)\/(65536<=r/\r<=983039))
def nmChar (r:Nat):Bool:=nmStart r||decide ((48<=r/\r<=57)\/r=45\/r=46\/r=183\/(768<=r/\r<=879)\/r=8255\/r=8256)
def nmOk (colon first:Bool) (r:Nat):Bool:=(colon && r==58)||(if first then nmStart r else nmChar r)
def nmGo (colon:Bool):Nat->Bool->List UInt8->Nat
 |0,_,_=>0
 |f+1,first,l=>if l= []\/(dec l).2=0\/nmOk colon first (dec l).1=false then 0 else (dec l).2+nmGo colon f false (l.drop (dec l).2)
def nmLen (colon:Bool) (l:List UInt8):Nat:=nmGo colon l.length true l
def isQ (l:List UInt8):Bool:=decide (0<l.length/\nmLen true l=l.length)
def isNm (l:List UInt8):Bool:=decide (0<l.length/\nmLen false l=l.length)
def hasAt (s:List UInt8) (at_:Nat) (t:List UInt8):Bool:=t.isPrefixOf (s.drop at_)
def spAt (s:List UInt8) (at_:Nat):Nat:=at_+((s.drop at_).takeWhile λc=>isSp c.toNat).length
def nmAt (s:List UInt8) (at_:Nat):Nat:=at_+nmLen true (s.drop at_)
def findIn (t:List UInt8):List UInt8->Nat->Option Nat
 | [],k=>if t= [] then some k else none
 |c::r,k=>if t.isPrefixOf (c::r) then some k else findIn t r (k+1)
def findAt (s:List UInt8) (at_:Nat) (t:List UInt8):Option Nat:=findIn t (s.drop at_) at_
def lns:List UInt8->List UInt8
 | []=> []
 | [c]=> [if c=13 then 10 else c]
 |c::d::r=>if c=13/\d=10 then lns (d::r) else (if c=13 then 10 else c)::lns (d::r)
def hexV (c:UInt8):Nat:=if 48<=c.toNat/\c.toNat<=57 then c.toNat - 48 else if 97<=c.toNat/\c.toNat<=102 then c.toNat - 97+10 else if 65<=c.toNat/\c.toNat<=70 then c.toNat - 65+10 else 16
def numGo (base:Nat):List UInt8->Nat->Option Nat
 | [],n=>some n
 |c::t,n=>if base<=hexV c then none else numGo base t (min (n*base+hexV c) 2000000)
def numL (base:Nat) (l:List UInt8):Option Nat:=if l= [] then none else numGo base l 0
def namedL (l:List UInt8):Option Nat:=
 if l= [108,116] then some 60 else if l= [103,116] then some 62 else if l= [97,109,112] then some 38 else if l= [97,112,111,115] then some 39 else if l= [113,117,111,116] then some 34 else none
def refRune (x:List UInt8):Option Nat:=
 match x with
 |35::c::t=>if c=120 then numL 16 t else numL 10 (c::t)
 |_=>namedL x
def refAt (s:List UInt8) (at_:Nat):Option (Nat×Nat):=
 let r:=s.drop at_
 if r.head? =some 38 then
  let x:=r.tail.takeWhile λc=>c !=59
  if x.length+1<r.length then match refRune x with
   |some n=>if isChar n then some (n,at_+x.length+2) else none
   |none=>none
  else none
 else none
abbrev PErr:=Nat×Nat
def spaced (l:List UInt8):List UInt8:=l.map λc=>if isSp c.toNat then 32 else c
def contGo (value:Bool) (s:List UInt8) (tz:Nat):Nat->Nat->List UInt8->Except PErr (List UInt8)
 |0,_,out=> .ok out
 |f+1,i,out=>
  if tz<=i then .ok out
  else if (s.drop i).head? =some 38 then match refAt (s.take tz) i with
   |some (r,e)=>contGo value s tz f e (out++encN r)
   |none=> .error (i,12)
  else
   let k:=(((s.take tz).drop i).takeWhile λc=>c !=38)
   contGo value s tz f (i+k.length) (out++(if value then spaced (lns k) else lns k))
def contP (value:Bool) (s:List UInt8) (from_ tz:Nat):Except PErr (List UInt8):=contGo value s tz (tz - from_+1) from_ []
def missP (s:List UInt8) (from_ at_:Nat):PErr:=if s.length<=at_ then (from_,8) else (at_,7)
structure AtP where
 space:List UInt8
 name:List UInt8
 value:List UInt8
 at_:Nat
 deriving DecidableEq
def attrP (s:List UInt8) (from_ at_:Nat):Except PErr (AtP×Nat):=
 let e:=nmAt s at_
 if e=at_ then .error (missP s from_ at_) else
 let name:=(s.drop at_).take (e - at_)
 let a:=spAt s e
 if hasAt s a [61]=false then .error (missP s from_ a) else
 let q:=spAt s (a+1)
 if hasAt s q [34]=false/\hasAt s q [39]=false then .error (missP s from_ q) else
 let c:=(s.drop q).headD 0
 let e2:=q+1+((s.drop (q+1)).takeWhile λd=>d !=c && d !=60).length
 match contP true s (q+1) e2 with
 | .error x=> .error x
 | .ok v=>
  if e2=s.length then .error (from_,8) else
  if (s.drop e2).head? =some 60 then .error (e2,7) else
  .ok (⟨[],name,v,at_⟩,e2+1)
structure Tok where
 kind:Nat
 name:List UInt8
 attrs:List AtP
 empty:Bool
 text:List UInt8
 at_:Nat
 deriving DecidableEq
def startGo (s:List UInt8) (from_:Nat) (name:List UInt8):Nat->Nat->List AtP->Except PErr (Tok×Nat)
 |0,_,_=> .error (from_,8)
 |f+1,at_,al=>
  let next:=spAt s at_
  if hasAt s next [62] then .ok (⟨1,name,al,false,[],from_⟩,next+1)
  else if hasAt s next [47,62] then .ok (⟨1,name,al,true,[],from_⟩,next+2)
  else if hasAt s next [47] then .error (missP s from_ (next+1))
  else if next=at_ then .error (missP s from_ at_)
  else match attrP s from_ next with
   | .error x=> .error x
   | .ok (a,e)=>if al.any λb=>b.name==a.name then .error (a.at_,10) else startGo s from_ name f e (al++ [a])
def startP (s:List UInt8) (from_:Nat):Except PErr (Tok×Nat):=
 let at_:=nmAt s (from_+1)
 if at_=from_+1 then .error (missP s from_ at_) else startGo s from_ ((s.drop (from_+1)).take (at_ - (from_+1))) (s.length+1) at_ []
def endP (s:List UInt8) (from_:Nat):Except PErr (Tok×Nat):=
 let at_:=nmAt s (from_+2)
 if from_+2<at_ then
  if hasAt s (spAt s at_) [62] then .ok (⟨2,(s.drop (from_+2)).take (at_ - (from_+2)),[],false,[],from_⟩,spAt s at_+1)
  else .error (missP s from_ (spAt s at_))
 else .error (missP s from_ at_)
def skipP (s:List UInt8) (from_:Nat) (n:Nat) (last:List UInt8):Except PErr Nat:=
 match findAt s (from_+n) last with
 |none=> .error (from_,8)
 |some i=> .ok (i+last.length)
def dataT (t:List UInt8) (at_:Nat):Tok:=⟨3,[],[],false,t,at_⟩
def constructP (s:List UInt8) (from_:Nat):Except PErr (Tok×Nat):=
 if hasAt s from_ [60,63] then (match skipP s from_ 2 [63,62] with| .error x=> .error x| .ok tz=> .ok (dataT [] 0,tz))
 else if hasAt s from_ [60,33,45,45] then (match skipP s from_ 4 [45,45,62] with| .error x=> .error x| .ok tz=> .ok (dataT [] 0,tz))
 else if hasAt s from_ [60,33,91,67,68,65,84,65,91] then (match skipP s from_ 9 [93,93,62] with| .error x=> .error x| .ok tz=> .ok (dataT (lns ((s.drop (from_+9)).take (tz - 3 - (from_+9)))) from_,tz))
 else if hasAt s from_ [60,33,68,79,67,84,89,80,69] then .error (from_,11)
 else if hasAt s from_ [60,33] then .error (from_,7)
 else if hasAt s from_ [60,47] then endP s from_
 else if hasAt s from_ [60] then startP s from_
 else
  let tz:=(findAt s from_ [60]).getD s.length
  match contP false s from_ tz with
  | .error x=> .error x
  | .ok v=> .ok (dataT v from_,tz)
def toksGo (s:List UInt8):Nat->Nat->List Tok->Except PErr (List Tok)
 |0,_,l=> .ok l
 |f+1,at_,l=>
  if s.length<=at_ then .ok l else
  match constructP s at_ with
  | .error x=> .error x
  | .ok (t,tz)=>toksGo s f tz (if t.kind≠3\/t.text≠ [] then l++ [t] else l)
def toksP (s:List UInt8):Except PErr (List Tok):=
 if (check s).2≠0 then .error (check s) else toksGo s (s.length+1) (if hasAt s 0 [239,187,191] then 3 else 0) []
inductive Nd where
 |mk (kind:Nat) (space name:List UInt8) (attrs:List AtP) (kids:List Nd) (text:List UInt8) (at_:Nat)
def Nd.kind:Nd->Nat| .mk k _ _ _ _ _ _=>k
def Nd.space:Nd->List UInt8| .mk _ s _ _ _ _ _=>s
def Nd.name:Nd->List UInt8| .mk _ _ n _ _ _ _=>n
def Nd.attrs:Nd->List AtP| .mk _ _ _ a _ _ _=>a
def Nd.kids:Nd->List Nd| .mk _ _ _ _ k _ _=>k
def Nd.text:Nd->List UInt8| .mk _ _ _ _ _ t _=>t
def Nd.at_:Nd->Nat| .mk _ _ _ _ _ _ a=>a
def charD (t:List UInt8) (at_:Nat):Nd:= .mk 1 [] [] [] [] t at_
def addText (ks:List Nd) (t:List UInt8) (at_:Nat):List Nd:=
 match ks.getLast? with
 |some (.mk 1 s n al kk u b)=>ks.dropLast++ [.mk 1 s n al kk (u++t) b]
 |_=>ks++ [charD t at_]
mutual
def elemP (fin:Nat):Nat->Nat->List Tok->Except PErr (Nd×List Tok)
 |0,_,_=> .error (fin,8)
 |_+1,_,[]=> .error (fin,8)
 |f+1,depth,t::r=>if 100<depth then .error (t.at_,9) else if t.empty then .ok (.mk 0 [] t.name t.attrs [] [] t.at_,r) else kidsP fin f depth t [] r
def kidsP (fin:Nat):Nat->Nat->Tok->List Nd->List Tok->Except PErr (Nd×List Tok)
 |0,_,_,_,_=> .error (fin,8)
 |_+1,_,_,_,[]=> .error (fin,8)
 |f+1,depth,t,ks,u::r=>
  if u.kind=2 then (if u.name≠t.name then .error (u.at_,14) else .ok (.mk 0 [] t.name t.attrs ks [] t.at_,r))
  else if u.kind=1 then match elemP fin f (depth+1) (u::r) with
   | .error x=> .error x
   | .ok (k,r')=>kidsP fin f depth t (ks++ [k]) r'
  else kidsP fin f depth t (addText ks u.text u.at_) r
end
def blankL (l:List UInt8):Bool:=l.all λc=>isSp c.toNat
def docGo (fin:Nat):Nat->Option Nd->List Tok->Except PErr Nd
 |0,_,_=> .error (fin,8)
 |_+1,none,[]=> .error (fin,8)
 |_+1,some n,[]=> .ok n
 |f+1,found,t::r=>
  if t.kind=1/\found.isSome then .error (t.at_,17)
  else if t.kind=2 then .error (t.at_,14)
  else if t.kind=3 then (if blankL t.text=false then .error (t.at_,7) else docGo fin f found r)
  else match elemP fin (2*(r.length+1)+2) 1 (t::r) with
   | .error x=> .error x
   | .ok (n,r')=>docGo fin f (some n) r'
def docP (s:List UInt8):Except PErr Nd:=
 match toksP s with
 | .error x=> .error x
 | .ok l=>docGo s.length (l.length+1) none l
def splitL (l:List UInt8):Option (List UInt8×List UInt8):=
 let p:=l.takeWhile λc=>c !=58
 if p.length<l.length then (if isNm p && isNm (l.drop (p.length+1)) then some (p,l.drop (p.length+1)) else none)
 else if isNm l then some ([],l) else none
def xmlnsL:List UInt8:= [120,109,108,110,115]
def xmlL:List UInt8:= [120,109,108]
def declL (name:List UInt8):Option (List UInt8):=
 match splitL name with
 |some (p,l)=>if p= []/\l=xmlnsL then some [] else if p=xmlnsL then some l else none
 |none=>none
def xmlSpaceL:List UInt8:= [104,116,116,112,58,47,47,119,119,119,46,119,51,46,111,114,103,47,88,77,76,47,49,57,57,56,47,110,97,109,101,115,112,97,99,101]
abbrev Scope:=List (List UInt8×List UInt8)
def lookL (sc:Scope) (p:List UInt8):Option (List UInt8):=
 if p=xmlL then some xmlSpaceL else match sc.reverse.find? λb=>decide (b.1=p) with
  |some b=>some b.2
  |none=>if p= [] then some [] else none
def declsGo:List AtP->Scope->Except PErr Scope
 | [],sc=> .ok sc
 |a::t,sc=>if (splitL a.name).isNone then .error (a.at_,13) else match declL a.name with
  |some d=>if d=xmlL\/d=xmlnsL\/(d≠ []/\a.value= []) then .error (a.at_,13) else declsGo t (sc++ [(d,a.value)])
  |none=>declsGo t sc
def attrsGo (sc:Scope):List AtP->List AtP->Except PErr (List AtP)
 | [],out=> .ok out
 |a::t,out=>if (declL a.name).isSome then attrsGo sc t out else
  let pl:=(splitL a.name).getD ([],[])
  match (if pl.1= [] then some [] else lookL sc pl.1) with
  |none=> .error (a.at_,13)
  |some sp=>if out.any λb=>b.space==sp && b.name==pl.2 then .error (a.at_,10) else attrsGo sc t (out++ [⟨sp,pl.2,a.value,a.at_⟩])
def headP (n:Nd) (sc:Scope):Except PErr (List UInt8×List UInt8×List AtP×Scope):=
 match splitL n.name with
 |none=> .error (n.at_,13)
 |some (p,l)=>if p=xmlnsL then .error (n.at_,13) else match declsGo n.attrs sc with
  | .error x=> .error x
  | .ok inner=>match lookL inner p with
   |none=> .error (n.at_,13)
   |some sp=>match attrsGo inner n.attrs [] with
    | .error x=> .error x
    | .ok al=> .ok (sp,l,al,inner)
mutual
def resP:Nd->Scope->Except PErr Nd
 | .mk k s n al ks t a,sc=>match headP (.mk k s n al ks t a) sc with
  | .error x=> .error x
  | .ok (sp,l,al',inner)=>match resKids ks inner with
   | .error x=> .error x
   | .ok ks'=> .ok (.mk 0 sp l al' ks' [] a)
def resKids:List Nd->Scope->Except PErr (List Nd)
 | [],_=> .ok []
 |k::t,sc=>match (if k.kind=0 then resP k sc else .ok k) with
  | .error x=> .error x
  | .ok k'=>match resKids t sc with
   | .error x=> .error x
   | .ok t'=> .ok (k'::t')
end
def treeP (s:List UInt8):Option Nd:=
 if 5000<s.length then none else match docP s with
  | .error _=>none
  | .ok n=>match resP n [] with
   | .error _=>none
   | .ok m=>some m
section
variable {k m:Nat} {l s:List UInt8}
theorem Zl2 (h:k<s.length) (A:isSp (s[k].toNat)=true):spAt s k=spAt s (k+1):=by
 unfold spAt;rw[Zl h,Yi,Zi A,Zd];omega
theorem Zl3 (h:k<s.length) (A:isSp (s[k].toNat)=false):spAt s k=k:=by
 unfold spAt;rw[Zl h,Yi,Ze (by rw[A];simp)];rfl
theorem ZnN (h:s.length<=k):spAt s k=k:=by
 unfold spAt;rw[ZC h];rfl
theorem UJ (h:k<=s.length):spAt s k<=s.length:=by
 unfold spAt;have A:=(YE (l:=s.drop k) (λc:UInt8=>isSp c.toNat)).length_le;rw[Zk] at A;omega
theorem U9 (s:List UInt8) (k:Nat):k<=spAt s k:=Nat.le_add_right _ _
theorem ZfV (n:Nat) (l:List UInt8) (m:Nat) (h:n<m):∀i,i<=n->acc (n+1) (l.take m) i=acc (n+1) l i
 |0,_=>by unfold acc;rw[ZZ,ZZ,List.getElem?_take_of_lt om]
 |i+1,hi=>by
  unfold acc
  rw[ZfV n l m h i om,ZZ,ZZ,List.getElem?_take_of_lt om]
theorem ZcH:∀(k n:Nat) (l:List UInt8),(refFrom k n l).2<=l.length
 |0,n,l=>Zj _
 |k+1,n,l=>by
  unfold refFrom
  split
  ·split
   ·rename_i h _;exact h.2
   ·exact ZcH k (n+1) l
  ·exact Zj _
theorem I4 (l:List UInt8):∀(k n:Nat),1<=n->(refFrom k n l).2≠0->n<=(refFrom k n l).2/\∀K,(refFrom k n l).2<=K->refFrom k n (l.take K)=refFrom k n l
 |0,n,_,h=>by simp[refFrom] at h
 |k+1,n,hn,h=>by
  unfold refFrom at h|-
  by_cases F:n<=4/\n<=l.length
  ·rw[Zi F] at h|-
   have D:∀K,n<=K->acc n (l.take K) (n - 1)=acc n l (n - 1):=λK hK=>by
    obtain ⟨m,rfl⟩:∃m,n=m+1:=⟨n - 1,om⟩
    exact ZfV m l K om _ om
   by_cases H:encN (acc n l (n - 1))=l.take n
   ·rw[Zi H] at h|-
    refine ⟨Zc _,λK hK=> ?_⟩
    have A:n<=K:=hK
    rw[Zi ⟨F.1,by rw[ZM];omega⟩,D K A,List.take_take,Nat.min_eq_left A,Zi H]
   ·rw[Ze H] at h|-
    obtain ⟨J,I⟩:=I4 l k (n+1) om h
    refine ⟨om,λK hK=> ?_⟩
    have A:n<=K:=om
    have Q:=ZcH k (n+1) l
    rw[Zi ⟨F.1,by rw[ZM];omega⟩,D K A,List.take_take,Nat.min_eq_left A,Ze H]
    exact I K hK
  ·rw[Ze F] at h
   exact absurd rfl h
theorem ZdP (h:(dec l).2≠0) (D:(dec l).2<=m):dec (l.take m)=dec l:=by
 have F:l≠ []:=λe=>by rw[e] at h;exact h rfl
 have e1:=Ke l F;have H:=Ug l;have A:l.take m≠ []:=λe=>by have:=Zz List.length e;rw[ZM,ZK] at this;omega
 have e2:=Ke (l.take m) A;rw[<-e1] at h D;rw[<-e2,<-e1];exact (I4 l 4 1 (Zc _) h).2 m D
inductive NmPre (c:Bool):Bool->List UInt8->Nat->Prop where
 |zero (first:Bool) (l:List UInt8):NmPre c first l 0
 |step {first:Bool} {l:List UInt8} {k:Nat} (h0:(dec l).2≠0) (hok:nmOk c first (dec l).1=true) (t:NmPre c false (l.drop (dec l).2) k):NmPre c first l ((dec l).2+k)
theorem UP (c:Bool) (f:Nat) (first:Bool):nmGo c f first []=0:=by cases f<;>simp[nmGo]
theorem Ut {c first:Bool} {f:Nat} (h:(dec l).2≠0) (A:nmOk c first (dec l).1=true):nmGo c (f+1) first l=(dec l).2+nmGo c f false (l.drop (dec l).2):=by
 have D:l≠ []:=λe=>by rw[e] at h;exact h rfl
 rw[nmGo,Ze (by simp[D,h,A])]
theorem Js {c first:Bool} {f:Nat} (h:l= []\/(dec l).2=0\/nmOk c first (dec l).1=false):nmGo c f first l=0:=by
 cases f with
 |zero=>rfl
 |succ f=>rw[nmGo,Zi h]
theorem EL (c:Bool):∀(n m:Nat) (first:Bool) (l:List UInt8),l.length<=n->l.length<=m->nmGo c n first l=nmGo c m first l
 |0,m,first,l,h,_=>by
  have F:l= []:=Zm om
  subst F
  rw[UP,UP]
 |n+1,0,first,l,_,h=>by
  have F:l= []:=Zm om
  subst F
  rw[UP,UP]
 |n+1,m+1,first,l,h1,h2=>by
  by_cases D:l= []\/(dec l).2=0\/nmOk c first (dec l).1=false
  ·rw[Js D,Js D]
  ·have A:(dec l).2≠0/\nmOk c first (dec l).1=true:=⟨λe=>D (Or.inr (Or.inl e)),by
    cases h:nmOk c first (dec l).1 with
    |true=>rfl
    |false=>exact absurd (Or.inr (Or.inr h)) D⟩
   rw[Ut A.1 A.2,Ut A.1 A.2,EL c n m false _ (by rw[Zk];omega) (by rw[Zk];omega)]
theorem NmPre.go {c:Bool}:∀{first:Bool} {l:List UInt8} {k:Nat},NmPre c first l k->k<=l.length/\nmGo c l.length first l=k+nmGo c l.length (first && decide (k=0)) (l.drop k)
 |first,l,_,.zero _ _=>⟨Zj _,by simp⟩
 |first,l,_,.step (k:=k) h0 hok t=>by
  obtain ⟨A,D⟩:=t.go
  have H:=Ug l
  rw[Zk] at A
  have h:l.length=(l.length - 1)+1:=om
  refine ⟨om,?_⟩
  have e1:nmGo c l.length first l=(dec l).2+nmGo c (l.length - 1) false (l.drop (dec l).2):=by
   rw[h]
   exact Ut h0 hok
  rw[e1,EL c (l.length - 1) (l.drop (dec l).2).length false _ (by rw[Zk];omega) (Zc _),D,List.drop_drop]
  have F:(first && decide ((dec l).2+k=0))=(false && decide (k=0)):=by
   rw[Yd (show ¬(dec l).2+k=0 by omega)]
   simp
  rw[F,EL c (l.drop (dec l).2).length l.length _ (l.drop ((dec l).2+k)) (by rw[Zk,Zk];omega) (by rw[Zk];omega)]
  omega
theorem NmPre.cut {c:Bool}:∀{first:Bool} {l:List UInt8} {k:Nat},NmPre c first l k->∀m,k<=m->NmPre c first (l.take m) k
 |first,l,_,.zero _ _,m,_=> .zero _ _
 |first,l,_,.step (k:=k) h0 hok t,m,hm=>by
  have h:dec (l.take m)=dec l:=ZdP h0 om
  have:=NmPre.step (c:=c) (first:=first) (l:=l.take m) (k:=k) (by rw[h];exact h0) (by rw[h];exact hok) (by rw[h,List.drop_take];exact t.cut (m - (dec l).2) om)
  rw[h] at this
  exact this
theorem Zov (h:NmPre true true l k) (H:0<k):isQ (l.take k)=true:=by
 have D:=(h.cut k (Zc _)).go;have I:=h.go.1;unfold isQ nmLen;have A:(l.take k).length=k:=by rw[ZM];omega
 rw[A] at D;have F:nmGo true k true (l.take k)=k:=by rw[D.2,ZC (by rw[A];exact Zc _),UP];rfl
 rw[A,F];simpa using H
theorem Zow (h:NmPre true true l k) (H:(dec (l.drop k)).2≠0) (F:nmOk true (decide (k=0)) (dec (l.drop k)).1=false):isQ (l.take (k+(dec (l.drop k)).2))=false:=by
 obtain ⟨n,K⟩:∃n,(dec (l.drop k)).2=n:=⟨_,rfl⟩;have D:=Ug (l.drop k);rw[Zk] at D;have I:=(h.cut (k+n) (Nat.le_add_right _ _)).go;have J:(l.take (k+n)).length=k+n:=by rw[ZM];omega
 rw[J] at I;rw[K];have R:(l.take (k+n)).drop k=(l.drop k).take n:=by rw[List.drop_take,Nat.add_sub_cancel_left]
 have A:dec ((l.drop k).take n)=dec (l.drop k):=ZdP H om;have Q:nmGo true (k+n) true (l.take (k+n))=k:=by rw[I.2,R,Js (Or.inr (Or.inr (by rw[A];simpa using F)))];rfl
 unfold isQ nmLen;rw[J,Q];have:n≠0:=by rw[<-K];exact H
 rw[Yd om]
end
section
variable {i k:Nat} {l s t:List UInt8}
theorem JG:t.isPrefixOf l=true↔l.take t.length=t:=by
 rw[List.isPrefixOf_iff_prefix];exact ⟨λh=>(YQ.1 h).symm,λh=>YQ.2 h.symm⟩
theorem Zcd (h:s.length<k+t.length) (D:t≠ []):hasAt s k t=false:=by
 unfold hasAt;cases hp:t.isPrefixOf (s.drop k) with
 |false=>rfl
 |true=>have A:=Zz List.length (JG.1 hp);have F:0<t.length:=Xt.2 D;rw[ZM,Zk] at A;omega
theorem ZgK (s t:List UInt8) (k:Nat):hasAt s k t=((s.drop k).take t.length==t):=by
 unfold hasAt;cases hp:t.isPrefixOf (s.drop k) with
 |true=>rw[JG.1 hp];simp
 |false=>
  have:(s.drop k).take t.length≠t:=λe=>by rw[JG.2 e] at hp;cases hp
  simp[this]
theorem ZiH (h:k<s.length) (A:hasAt s k t=true):findAt s k t=some k:=by
 unfold findAt;unfold hasAt at A;rw[Zl h] at A|-;rw[findIn,Zi A]
theorem ZaH (h:k<s.length) (A:hasAt s k t=false):findAt s k t=findAt s (k+1) t:=by
 unfold findAt;unfold hasAt at A;rw[Zl h] at A|-;rw[findIn,Ze (by rw[A];simp)]
theorem ZaI {t:List UInt8} (D:t≠ []):∀(l:List UInt8) (k:Nat),l.length<t.length->findIn t l k=none
 | [],k,_=>by rw[findIn,Ze D]
 |c::r,k,h=>by
  have A:t.isPrefixOf (c::r)=false:=by
   cases A:t.isPrefixOf (c::r) with
   |false=>rfl
   |true=>
    have F:=Zz List.length (JG.1 A)
    rw[ZM] at F
    omega
  rw[findIn,Ze (by rw[A];simp)]
  exact ZaI D r (k+1) (by rw[Zd] at h;omega)
theorem ZiG (A:t≠ []) (h:s.length<k+t.length):findAt s k t=none:=
 ZaI A _ _ (by have:=Xt.2 A;rw[Zk];omega)
theorem ZdW {t:List UInt8}:∀(l:List UInt8) (k i:Nat),findIn t l k=some i->k<=i/\i+t.length<=k+l.length
 | [],k,i,h=>by
  rw[findIn] at h
  split at h
  ·rename_i e
   injection h with h
   subst h e
   simp
  ·cases h
 |c::r,k,i,h=>by
  rw[findIn] at h
  split at h
  ·rename_i e
   injection h with h
   subst h
   have A:=Zz List.length (JG.1 e)
   rw[ZM] at A
   exact ⟨Zc _,om⟩
  ·have:=ZdW r (k+1) i h
   rw[Zd]
   exact ⟨om,om⟩
theorem Ex (A:k<=s.length) (h:findAt s k t=some i):k<=i/\i+t.length<=s.length:=by
 have:=ZdW _ _ _ h;rw[Zk] at this;exact ⟨this.1,om⟩
theorem Zm8 (h:k+1<s.length) (A:s[k]=13) (D:s[k+1]=10):lns (s.drop k)=lns (s.drop (k+1)):=by
 rw[Zl (show k<s.length by omega),Zl h,lns,Zi ⟨A,D⟩]
theorem EI (h:k<s.length) (D:∀A:k+1<s.length,¬(s[k]=13/\s[k+1]=10)):lns (s.drop k)=(if s[k]=13 then 10 else s[k])::lns (s.drop (k+1)):=by
 rw[Zl h];by_cases A:k+1<s.length
 ·rw[Zl A,lns,Ze (D A)]
 ·rw[ZC om];rfl
theorem ZoB (h:s.length<=k):lns (s.drop k)= []:=by
 rw[ZC h];rfl
theorem IR:∀l:List UInt8,(lns l).length<=l.length
 | []=>Zc _
 | [c]=>Zc _
 |c::d::r=>by
  have h:=IR (d::r)
  rw[lns]
  split
  ·rw[Zd (a:=c)];omega
  ·rw[Zd,Zd (a:=c)];omega
end
section
variable {i r:Nat} {s:List UInt8}
theorem I1 {e:Nat} (h:refAt s i=some (r,e)):i+2<=e/\e<=s.length:=by
 unfold refAt at h;dsimp only at h;split at h
 ·split at h
  ·rename_i A;have D:(s.drop i).length=s.length - i:=Zk;split at h
   ·split at h
    ·injection h with h;injection h with h2 h3;subst h3;omega
    ·cases h
   ·cases h
  ·cases h
 ·cases h
def plainAt (s:List UInt8) (tz i:Nat):List UInt8:=((s.take tz).drop i).takeWhile λc=>c !=38
theorem VQ {A:Nat} (I:i<A) (J:A<=s.length) (h:(s.drop i).head?≠some 38):0<(plainAt s A i).length:=by
 unfold plainAt;have D:i<(s.take A).length:=by rw[ZM];omega
 have F:i<s.length:=om
 rw[Zl D,Yi,List.getElem_take];rw[Zl F,Il] at h;have H:s[i]≠38:=λe=>h (by rw[e]);rw[Zi (by simpa using H)];simp
theorem VK (value:Bool) (s:List UInt8) (A:Nat) (H:A<=s.length):∀(f g i:Nat) (out:List UInt8),A - i<f->A - i<g->contGo value s A f i out=contGo value s A g i out
 |0,_,_,_,h,_=>by omega
 |_+1,0,_,_,_,h=>by omega
 |f+1,g+1,i,out,h1,h2=>by
  unfold contGo
  by_cases F:A<=i
  ·rw[Zi F,Zi F]
  ·rw[Ze F,Ze F]
   by_cases D:(s.drop i).head? =some 38
   ·rw[Zi D,Zi D]
    cases hr:refAt (s.take A) i with
    |none=>rfl
    |some x=>
     obtain ⟨r,e⟩:=x
     have:=I1 hr
     exact VK value s A H f g e _ om om
   ·rw[Ze D,Ze D]
    have I:=VQ om H D
    exact VK value s A H f g (i+(plainAt s A i).length) _ om om
def contAt (value:Bool) (s:List UInt8) (tz i:Nat) (out:List UInt8):Except PErr (List UInt8):=contGo value s tz (tz - i+1) i out
theorem ZbQ {value:Bool} {A:Nat} {out:List UInt8} (h:A<=i):contAt value s A i out= .ok out:=by
 unfold contAt contGo;rw[Zi h]
theorem ZbR {value:Bool} {h e:Nat} {out:List UInt8} (F:h<=s.length) (H:i<h) (D:(s.drop i).head? =some 38) (A:refAt (s.take h) i=some (r,e)):contAt value s h i out=contAt value s h e (out++encN r):=by
 have:=I1 A;unfold contAt;rw[contGo,Ze om,Zi D,A];exact VK value s h F _ _ _ _ om om
theorem Zix {value:Bool} {h:Nat} {out:List UInt8} (F:i<h) (A:(s.drop i).head? =some 38) (D:refAt (s.take h) i=none):contAt value s h i out= .error (i,12):=by
 unfold contAt;rw[contGo,Ze om,Zi A,D]
theorem ID {value:Bool} {h:Nat} {out:List UInt8} (D:h<=s.length) (F:i<h) (A:(s.drop i).head?≠some 38):
 contAt value s h i out=contAt value s h (i+(plainAt s h i).length) (out++(if value then spaced (lns (plainAt s h i)) else lns (plainAt s h i))):=by
 have H:=VQ F D A;unfold plainAt at H|-;unfold contAt;rw[contGo,Ze om,Ze A];exact VK value s h D _ _ _ _ om om
theorem Zf9 (value:Bool) (s:List UInt8) (from_ h:Nat):contP value s from_ h=contAt value s h from_ []:=rfl
end
section
variable {c k:Nat} {s t:List UInt8}
theorem Zfs (c:Bool):∀(f:Nat) (first:Bool) (l:List UInt8),nmGo c f first l<=l.length
 |0,_,_=>Zj _
 |f+1,first,l=>by
  rw[nmGo]
  split
  ·exact Zj _
  ·have A:=Ug l
   have h:=Zfs c f false (l.drop (dec l).2)
   rw[Zk] at h
   omega
theorem U5 (h:k<=s.length):k<=nmAt s k/\nmAt s k<=s.length:=by
 unfold nmAt nmLen;have:=Zfs true (s.drop k).length true (s.drop k);rw[Zk] at this;rw[Zk];omega
theorem XT (h:hasAt s k t=true):k+t.length<=s.length\/t= []:=by
 by_cases A:t= []
 ·exact Or.inr A
 ·refine Or.inl (Nat.le_of_not_lt λD=> ?_);rw[Zcd D A] at h;cases h
theorem JK {c:UInt8} (h:hasAt s k [c]=true):∃D:k<s.length,s[k]=c:=by
 rcases XT h with A|A
 ·have D:k<s.length:=A;refine ⟨D,?_⟩;rw[ZgK,Zl D] at h;have F: [s[k]]= [c]:=eq_of_beq h;injection F
 ·cases A
theorem Vo (value:Bool) (s:List UInt8) (z:Nat):∀(f i:Nat) (out:List UInt8) (x c:Nat),contGo value s z f i out= .error (x,c)->c=12
 |0,_,_,_,_,h=>by rw[contGo] at h;cases h
 |f+1,i,out,x,c,h=>by
  rw[contGo] at h
  split at h
  ·cases h
  ·split at h
   ·split at h
    ·exact Vo value s z f _ _ x c h
    ·injection h with h
     injection h with _ h
     exact h.symm
   ·exact Vo value s z f _ _ x c h
theorem Kb (s:List UInt8) (f k:Nat):(missP s f k).2=7\/(missP s f k).2=8:=by
 unfold missP;split
 ·exact Or.inr rfl
 ·exact Or.inl rfl
theorem Qc {f e:Nat} {a:AtP} (J:k<=s.length) (h:attrP s f k= .ok (a,e)):k<e/\e<=s.length/\a.at_=k/\a.space= []:=by
 unfold attrP at h;dsimp only at h;have K:=U5 J;split at h
 ·cases h
 ·split at h
  ·cases h
  ·rename_i I;have A:=XT (t:= [61]) (by simpa using I);have D:spAt s (nmAt s k)+1<=s.length:=by
    rcases A with A|A
    ·exact A
    ·cases A
   split at h
   ·cases h
   ·have Q:=UJ D;split at h
    ·cases h
    ·split at h
     ·cases h
     ·split at h
      ·cases h
      ·rename_i R _;injection h with h;injection h with ha he;subst he;refine ⟨?_,?_,by rw[<-ha],by rw[<-ha]⟩
       ·have:=U9 s (nmAt s k);have:=U9 s (spAt s (nmAt s k)+1);omega
       ·have F:=(YE (λd:UInt8=>d !=(List.drop (spAt s (spAt s (nmAt s k)+1)) s).headD 0 && d !=60) (l:=s.drop (spAt s (spAt s (nmAt s k)+1)+1))).length_le;rw[Zk] at F;have S:spAt s (spAt s (nmAt s k)+1)+1<=s.length:=by
         rename_i H _ _ _ _;rcases hb:hasAt s (spAt s (spAt s (nmAt s k)+1)) [34] with _|_
         ·rcases hb2:hasAt s (spAt s (spAt s (nmAt s k)+1)) [39] with _|_
          ·exact absurd ⟨hb,hb2⟩ H
          ·exact (JK hb2).1
         ·exact (JK hb).1
        omega
theorem ZdE {f x:Nat} (h:attrP s f k= .error (x,c)):c≠0:=by
 have A:∀a b:Nat,(missP s a b)=(x,c)->c≠0:=λa b e=>by have:=Kb s a b;rw[e] at this;omega
 unfold attrP at h;dsimp only at h;split at h
 ·injection h with h;exact A _ _ h
 ·split at h
  ·injection h with h;exact A _ _ h
  ·split at h
   ·injection h with h;exact A _ _ h
   ·split at h
    ·rename_i y D;obtain ⟨y1,y2⟩:=y;have:=Vo _ _ _ _ _ _ _ _ D;injection h with h;injection h with _ h;omega
    ·split at h
     ·injection h with h;injection h with _ h;omega
     ·split at h
      ·injection h with h;injection h with _ h;omega
      ·cases h
theorem QR (s:List UInt8) (f:Nat) (nm:List UInt8):∀(n m k:Nat) (al:List AtP),k<=s.length->s.length - k<n->s.length - k<m->startGo s f nm n k al=startGo s f nm m k al
 |0,_,_,_,_,h,_=>by omega
 |_+1,0,_,_,_,_,h=>by omega
 |n+1,m+1,k,al,hk,h1,h2=>by
  unfold startGo
  dsimp only
  split
  ·rfl
  ·split
   ·rfl
   ·split
    ·rfl
    ·split
     ·rfl
     ·cases ha:attrP s f (spAt s k) with
      |error x=>rfl
      |ok ae=>
       obtain ⟨a,e⟩:=ae
       have A:=Qc (UJ hk) ha
       have D:=U9 s k
       dsimp only
       split
       ·rfl
       ·exact QR s f nm n m e _ A.2.1 om om
def startAt (s:List UInt8) (f:Nat) (nm:List UInt8) (k:Nat) (al:List AtP):Except PErr (Tok×Nat):=startGo s f nm (s.length - k+1) k al
theorem Uy (s:List UInt8) (f:Nat) (nm:List UInt8) (k:Nat) (al:List AtP) (A:k<=s.length):startAt s f nm k al=
 if hasAt s (spAt s k) [62] then .ok (⟨1,nm,al,false,[],f⟩,spAt s k+1)
 else if hasAt s (spAt s k) [47,62] then .ok (⟨1,nm,al,true,[],f⟩,spAt s k+2)
 else if hasAt s (spAt s k) [47] then .error (missP s f (spAt s k+1))
 else if spAt s k=k then .error (missP s f k)
 else match attrP s f (spAt s k) with
  | .error x=> .error x
  | .ok (a,e)=>if al.any λb=>b.name==a.name then .error (a.at_,10) else startAt s f nm e (al++ [a]):=by
 unfold startAt;rw[startGo];(try dsimp only);split
 ·rfl
 ·split
  ·rfl
  ·split
   ·rfl
   ·split
    ·rfl
    ·cases ha:attrP s f (spAt s k) with
     |error x=>rfl
     |ok ae=>
      obtain ⟨a,e⟩:=ae;have h:=Qc (UJ A) ha;have D:=U9 s k;dsimp only;split
      ·rfl
      ·exact QR s f nm _ _ e _ h.2.1 om om
theorem Qk (s:List UInt8) (f:Nat) (A:f+1<=s.length):startP s f=if nmAt s (f+1)=f+1 then .error (missP s f (nmAt s (f+1))) else startAt s f ((s.drop (f+1)).take (nmAt s (f+1) - (f+1))) (nmAt s (f+1)) []:=by
 have h:=U5 A;unfold startP;dsimp only;split
 ·rfl
 ·exact QR s f _ _ _ _ _ h.2 om om
theorem Za2 {s:List UInt8} {f:Nat} {nm:List UInt8}:∀(n k:Nat) (al:List AtP) (x c:Nat),s.length - k<n->k<=s.length->startAt s f nm k al= .error (x,c)->c≠0
 |0,_,_,_,_,h,_,_=>by omega
 |n+1,k,al,x,c,hn,hk,h=>by
  have D:∀a b:Nat,(missP s a b)=(x,c)->c≠0:=λa b e=>by
   have:=Kb s a b
   rw[e] at this
   omega
  rw[Uy s f nm k al hk] at h
  split at h
  ·cases h
  ·split at h
   ·cases h
   ·split at h
    ·injection h with h;exact D _ _ h
    ·split at h
     ·injection h with h;exact D _ _ h
     ·split at h
      ·rename_i y A
       obtain ⟨y1,y2⟩:=y
       have:=ZdE A
       injection h with h
       injection h with _ h
       omega
      ·rename_i a e A
       split at h
       ·injection h with h;injection h with _ h;omega
       ·have F:=Qc (UJ hk) A
        have H:=U9 s k
        exact Za2 n e _ x c om F.2.1 h
end
section
variable {c k n:Nat} {l s:List UInt8}
theorem Zmy (r:Nat):(encN r).length<=4:=by
 unfold encN
 (repeat' split)<;>simp
theorem KP (value:Bool) (s:List UInt8) (z:Nat) (D:z<=s.length):∀(f i:Nat) (out v:List UInt8),contGo value s z f i out= .ok v->v.length<=out.length+2*(z - i)
 |0,i,out,v,h=>by
  rw[contGo] at h
  injection h with h
  rw[<-h]
  omega
 |f+1,i,out,v,h=>by
  rw[contGo] at h
  split at h
  ·injection h with h
   rw[<-h]
   omega
  ·rename_i R
   split at h
   ·split at h
    ·rename_i r e Q
     have F:=I1 Q
     rw[ZM] at F
     have A:=KP value s z D f e _ v h
     rw[Zb] at A
     have:=Zmy r
     omega
    ·cases h
   ·rename_i J
    have K:=VQ om D J
    have A:=KP value s z D f _ _ v h
    have H:(if value then spaced (lns (plainAt s z i)) else lns (plainAt s z i)).length<=(plainAt s z i).length:=by
     split
     ·unfold spaced
      rw[Zq]
      exact IR _
     ·exact IR _
    have I:(plainAt s z i).length<=z - i:=by
     unfold plainAt
     have:=(YE (λc:UInt8=>c !=38) (l:=(s.take z).drop i)).length_le
     rw[Zk,ZM] at this
     omega
    rw[Zb] at A
    unfold plainAt at H I K
    omega
theorem ZdO {value:Bool} {v:List UInt8} {a z:Nat} (A:z<=s.length) (h:contP value s a z= .ok v):v.length<=2*(z - a):=by
 have:=KP value s z A _ _ _ _ h;simpa using this
def AtP.fits (n:Nat) (a:AtP):Prop:=a.space.length<=2*n/\a.name.length<=n/\a.value.length<=2*n/\a.at_<=n
theorem Zim {f e:Nat} {a:AtP} (H:k<=s.length) (h:attrP s f k= .ok (a,e)):a.fits s.length:=by
 unfold attrP at h;dsimp only at h;split at h
 ·cases h
 ·split at h
  ·cases h
  ·split at h
   ·cases h
   ·split at h
    ·cases h
    ·split at h
     ·cases h
     ·split at h
      ·cases h
      ·rename_i v A I _;injection h with h;injection h with ha he;subst ha;refine ⟨by simp,?_,?_,H⟩
       ·show (List.take _ (List.drop _ s)).length<=_;rw[ZM,Zk];omega
       ·have D:=(YE (λd:UInt8=>d !=(List.drop (spAt s (spAt s (nmAt s k)+1)) s).headD 0 && d !=60) (l:=s.drop (spAt s (spAt s (nmAt s k)+1)+1))).length_le;rw[Zk] at D;show v.length<=_;by_cases J:spAt s (spAt s (nmAt s k)+1)+1<=s.length
        ·have:=ZdO om A;omega
        ·have F:s.drop (spAt s (spAt s (nmAt s k)+1)+1)= []:=List.drop_eq_nil_of_le om;rw[F] at A;unfold contP contGo at A;rw[Zi (by simp)] at A;injection A with A;rw[<-A];simp
structure Tok.fits (n:Nat) (t:Tok):Prop where
 name:t.name.length<=n
 cnt:t.attrs.length<=n
 attrs:∀a∈t.attrs,a.fits n
 at_:t.at_<=n
theorem ZcX {s:List UInt8} {f:Nat} {nm:List UInt8} (A:nm.length<=s.length) (H:f<=s.length):∀(n k:Nat) (al:List AtP) (t:Tok) (e:Nat),s.length - k<n->k<=s.length->al.length<=k->(∀a∈al,a.fits s.length)->
 startAt s f nm k al= .ok (t,e)->k<e/\e<=s.length/\t.fits s.length/\t.kind=1/\t.text= []
 |0,_,_,_,_,h,_,_,_,_=>by omega
 |n+1,k,al,t,e,hn,hk,hal,hfit,h=>by
  have J:=UJ (s:=s) hk;have U:=U9 s k;rw[Uy s f nm k al hk] at h;split at h
  ·rename_i I;injection h with h;injection h with h1 h2;subst h1;obtain ⟨D,_⟩:=JK I;exact ⟨om,om,⟨A,Zp hal hk,hfit,H⟩,rfl,rfl⟩
  ·split at h
   ·rename_i I;injection h with h;injection h with h1 h2;subst h1;rcases XT I with D|D
    ·have Q:spAt s k+2<=s.length:=D;exact ⟨om,om,⟨A,Zp hal hk,hfit,H⟩,rfl,rfl⟩
    ·cases D
   ·split at h
    ·cases h
    ·split at h
     ·cases h
     ·split at h
      ·cases h
      ·rename_i a e2 K;split at h
       ·cases h
       ·have D:=Qc J K;have R:=Zim J K;have S:=ZcX A H n e2 _ t e om D.2.1 (by rw[Zb];show _+1<=_;omega) (by
         intro b F;rcases Zs.1 F with F|F
         ·exact hfit b F
         ·rw[Zo] at F;rw[F];exact R) h
        exact ⟨om,S.2⟩
theorem Zl4 {f:Nat} {t:Tok} {e:Nat} (A:f+1<=s.length) (h:startP s f= .ok (t,e)):f<e/\e<=s.length/\t.fits s.length/\t.kind=1/\t.text= []:=by
 have D:=U5 A;rw[Qk s f A] at h;split at h
 ·cases h
 ·have:=ZcX (by rw[ZM,Zk];omega) om _ _ _ t e (Yy _) D.2 (Zj _) (by intro a F;cases F) h;exact ⟨om,this.2⟩
theorem Zjx {f x:Nat} (A:f+1<=s.length) (h:startP s f= .error (x,c)):c≠0:=by
 have D:=U5 A;rw[Qk s f A] at h;split at h
 ·have:=Kb s f (nmAt s (f+1));injection h with h;rw[h] at this;omega
 ·exact Za2 _ _ _ x c (Yy _) D.2 h
theorem Zop {f:Nat} {t:Tok} {e:Nat} (D:f+2<=s.length) (h:endP s f= .ok (t,e)):f<e/\e<=s.length/\t.fits s.length/\t.kind=2/\t.text= []:=by
 have H:=U5 D;unfold endP at h;dsimp only at h;split at h
 ·split at h
  ·rename_i F;injection h with h;injection h with h2 h3;subst h2;obtain ⟨I,_⟩:=JK F;have J:=U9 s (nmAt s (f+2));exact ⟨om,om,⟨by show (List.take _ (List.drop _ s)).length<=_;rw[ZM,Zk];omega,Zj _,(by intro a A;cases A),by show f<=_;omega⟩,rfl,rfl⟩
  ·cases h
 ·cases h
theorem Zmz {f x:Nat} (h:endP s f= .error (x,c)):c≠0:=by
 have A:∀a b:Nat,(missP s a b)=(x,c)->c≠0:=λa b e=>by have:=Kb s a b;rw[e] at this;omega
 unfold endP at h;dsimp only at h;split at h
 ·split at h
  ·cases h
  ·injection h with h;exact A _ _ h
 ·injection h with h;exact A _ _ h
theorem Ea {f e:Nat} (A:f+n<=s.length) (h:skipP s f n l= .ok e):f+n+l.length<=e/\e<=s.length:=by
 unfold skipP at h;split at h
 ·cases h
 ·rename_i i D;have:=Ex A D;injection h with h;omega
theorem Vl {f x:Nat} (h:skipP s f n l= .error (x,c)):c=8/\x=f:=by
 unfold skipP at h;split at h
 ·injection h with h;injection h with h1 h2;exact ⟨h2.symm,h1.symm⟩
 ·cases h
theorem Qx (t:List UInt8) (h:k<=n):(dataT t k).fits n:=⟨Zj _,Zj _,(by intro a A;cases A),h⟩
theorem ZbY {f:Nat} {c:UInt8} (A:f<s.length) (D:hasAt s f [c]=false):f<(findAt s f [c]).getD s.length/\(findAt s f [c]).getD s.length<=s.length:=by
 rw[ZaH A D];cases h:findAt s (f+1) [c] with
 |none=>exact ⟨A,Zc _⟩
 |some i=>have:=Ex om h;show f<i/\i<=_;have F:=this.2;omega
theorem Jj {f:Nat} {t:Tok} {e:Nat} (K:f<s.length) (h:constructP s f= .ok (t,e)):
 f<e/\e<=s.length/\t.fits s.length/\t.text.length<=2*(e - f)/\(t.kind=1\/t.kind=2\/t.kind=3):=by
 unfold constructP at h;split at h
 ·rename_i F;split at h
  ·cases h
  ·rename_i J H;injection h with h;injection h with h1 h2;subst h1;subst h2;have A:f+2<=s.length:=(by rcases XT F with A|A;exact A;cases A);have D:=Ea A H;exact ⟨om,D.2,Qx _ (Zj _),Zj _,Or.inr (Or.inr rfl)⟩
 ·split at h
  ·rename_i F;split at h
   ·cases h
   ·rename_i J H;injection h with h;injection h with h1 h2;subst h1;subst h2;have A:f+4<=s.length:=(by rcases XT F with A|A;exact A;cases A);have D:=Ea A H;exact ⟨om,D.2,Qx _ (Zj _),Zj _,Or.inr (Or.inr rfl)⟩
  ·split at h
   ·rename_i F;split at h
    ·cases h
    ·rename_i J H;injection h with h;injection h with h1 h2;subst h1;subst h2;have A:f+9<=s.length:=(by rcases XT F with A|A;exact A;cases A);have D:=Ea A H;refine ⟨om,D.2,Qx _ om,?_,Or.inr (Or.inr rfl)⟩;show (lns _).length<=_;have:=IR ((s.drop (f+9)).take (J - 3 - (f+9)));rw[ZM] at this;omega
   ·split at h
    ·cases h
    ·split at h
     ·cases h
     ·split at h
      ·rename_i F;have A:f+2<=s.length:=(by rcases XT F with A|A;exact A;cases A);have D:=Zop A h;exact ⟨D.1,D.2.1,D.2.2.1,by rw[D.2.2.2.2];exact Zj _,Or.inr (Or.inl D.2.2.2.1)⟩
      ·split at h
       ·have D:=Zl4 K h;exact ⟨D.1,D.2.1,D.2.2.1,by rw[D.2.2.2.2];exact Zj _,Or.inl D.2.2.2.1⟩
       ·rename_i F;have I:=ZbY K (by simpa using F);dsimp only at h;split at h
        ·cases h
        ·rename_i v R;injection h with h;injection h with h1 h2;subst h1;have Q:=ZdO I.2 R;rw[h2] at I Q;exact ⟨I.1,I.2,Qx _ om,Q,Or.inr (Or.inr rfl)⟩
theorem Gm {f x:Nat} (D:f<s.length) (h:constructP s f= .error (x,c)):c≠0:=by
 unfold constructP at h;split at h
 ·split at h
  ·rename_i y A;obtain ⟨y1,y2⟩:=y;have:=Vl A;injection h with h;injection h with _ h;omega
  ·cases h
 ·split at h
  ·split at h
   ·rename_i y A;obtain ⟨y1,y2⟩:=y;have:=Vl A;injection h with h;injection h with _ h;omega
   ·cases h
  ·split at h
   ·split at h
    ·rename_i y A;obtain ⟨y1,y2⟩:=y;have:=Vl A;injection h with h;injection h with _ h;omega
    ·cases h
   ·split at h
    ·injection h with h;injection h with _ h;omega
    ·split at h
     ·injection h with h;injection h with _ h;omega
     ·split at h
      ·exact Zmz h
      ·split at h
       ·exact Zjx D h
       ·dsimp only at h;split at h
        ·rename_i y A;obtain ⟨y1,y2⟩:=y;have:=Vo _ _ _ _ _ _ _ _ A;injection h with h;injection h with _ h;omega
        ·cases h
theorem GO (s:List UInt8):∀(n m k:Nat) (l:List Tok),s.length - k<n->s.length - k<m->toksGo s n k l=toksGo s m k l
 |0,_,_,_,h,_=>by omega
 |_+1,0,_,_,_,h=>by omega
 |n+1,m+1,k,l,h1,h2=>by
  unfold toksGo
  split
  ·rfl
  ·cases hc:constructP s k with
   |error x=>rfl
   |ok te=>
    obtain ⟨t,e⟩:=te
    have:=Jj om hc
    exact GO s n m e _ om om
def keeps (t:Tok):Prop:=t.kind≠3\/t.text≠ []
instance (t:Tok):Decidable (keeps t):=inferInstanceAs (Decidable (_\/_))
def toksAt (s:List UInt8) (k:Nat) (l:List Tok):Except PErr (List Tok):=toksGo s (s.length - k+1) k l
theorem Vz {l:List Tok} (h:s.length<=k):toksAt s k l= .ok l:=by
 unfold toksAt toksGo;rw[Zi h]
theorem J9 {e:Nat} {l:List Tok} {t:Tok} (h:k<s.length) (hc:constructP s k= .ok (t,e)):toksAt s k l=toksAt s e (if keeps t then l++ [t] else l):=by
 have:=Jj h hc;unfold toksAt;rw[toksGo,Ze om,hc];exact GO s _ _ _ _ om om
theorem QU {l:List Tok} {x:PErr} (h:k<s.length) (hc:constructP s k= .error x):toksAt s k l= .error x:=by
 unfold toksAt;rw[toksGo,Ze om,hc]
theorem GP (s:List UInt8):toksP s=if (check s).2≠0 then .error (check s) else toksAt s (if hasAt s 0 [239,187,191] then 3 else 0) []:=by
 unfold toksP;split
 ·rfl
 ·split
  ·exact GO s _ _ _ _ om om
  ·rfl
structure Toks.fits (n:Nat) (k:Nat) (l:List Tok):Prop where
 len:l.length<=k
 each:∀t∈l,t.fits n
 text:(l.map λt=>t.text.length).sum<=2*k
 kind:∀t∈l,t.kind=1\/t.kind=2\/t.kind=3
theorem Toks.fits.nil (n k:Nat):Toks.fits n k []:=⟨Zj _,(by intro t h;cases h),Zj _,(by intro t h;cases h)⟩
theorem Toks.fits.later {n k e:Nat} {l:List Tok} (h:Toks.fits n k l) (A:k<=e):Toks.fits n e l:=⟨Zp h.len A,h.each,Zp h.text om,h.kind⟩
theorem Toks.fits.add {s:List UInt8} {k e:Nat} {l:List Tok} {t:Tok} (h:Toks.fits s.length k l) (F:k<s.length) (hc:constructP s k= .ok (t,e)):Toks.fits s.length e (l++ [t]):=by
 have D:=Jj F hc;refine ⟨?_,?_,?_,?_⟩
 ·rw[Zb];have:=h.len;show _+1<=_;omega
 ·intro u A;rcases Zs.1 A with A|A
  ·exact h.each u A
  ·rw[Zo] at A;rw[A];exact D.2.2.1
 ·rw[ZS,ZpW];have:=h.text;simp only[Zw,Z2,YM,List.sum_nil];omega
 ·intro u A;rcases Zs.1 A with A|A
  ·exact h.kind u A
  ·rw[Zo] at A;rw[A];exact D.2.2.2.2
theorem Za3 {s:List UInt8}:∀(n k:Nat) (l L:List Tok),s.length - k<n->k<=s.length->Toks.fits s.length k l->toksAt s k l= .ok L->Toks.fits s.length s.length L
 |0,_,_,_,h,_,_,_=>by omega
 |n+1,k,l,L,hn,hk,hfit,h=>by
  by_cases A:s.length<=k
  ·rw[Vz A] at h
   injection h with h
   rw[<-h]
   exact hfit.later hk
  ·cases hc:constructP s k with
   |error x=>rw[QU om hc] at h;cases h
   |ok te=>
    obtain ⟨t,e⟩:=te
    have D:=Jj om hc
    rw[J9 om hc] at h
    refine Za3 n e _ L om D.2.1 ?_ h
    split
    ·exact hfit.add om hc
    ·exact hfit.later om
theorem If {L:List Tok} (h:toksP s= .ok L):Toks.fits s.length s.length L:=by
 rw[GP] at h;split at h
 ·cases h
 ·refine Za3 _ _ _ L (Yy _) ?_ (Toks.fits.nil _ _) h;split
  ·rename_i D;rcases XT D with A|A
   ·exact A
   ·cases A
  ·exact Zj _
end
section
variable {c d fin n:Nat} {s t:List UInt8}
theorem Gv (fin f d:Nat):elemP fin f d []= .error (fin,8):=by cases f<;>rw[elemP]
theorem IQ (fin f d:Nat) (t:Tok) (ks:List Nd):kidsP fin f d t ks []= .error (fin,8):=by cases f<;>rw[kidsP]
theorem Qo (fin:Nat):∀f:Nat,(∀(d:Nat) (l:List Tok) (n:Nd) (r:List Tok),elemP fin f d l= .ok (n,r)->∃m,0<m/\m<=l.length/\r=l.drop m)/\
 (∀(d:Nat) (t:Tok) (ks:List Nd) (l:List Tok) (n:Nd) (r:List Tok),kidsP fin f d t ks l= .ok (n,r)->∃m,0<m/\m<=l.length/\r=l.drop m)
 |0=>⟨λd l n r h=>(by rw[elemP] at h;cases h),λd t ks l n r h=>(by rw[kidsP] at h;cases h)⟩
 |f+1=>by
  obtain ⟨I,D⟩:=Qo fin f;refine ⟨λd l n r h=> ?_,λd t ks l n r h=> ?_⟩
  ·cases l with
   |nil=>rw[elemP] at h;cases h
   |cons t l=>
    rw[elemP] at h;split at h
    ·cases h
    ·split at h
     ·injection h with h;injection h with H A;exact ⟨1,om,by simp,by rw[<-A];rfl⟩
     ·obtain ⟨m,H,A,F⟩:=D d t [] l n r h;exact ⟨m+1,om,by simpa using A,by rw[F];rfl⟩
  ·cases l with
   |nil=>rw[kidsP] at h;cases h
   |cons u l=>
    rw[kidsP] at h;split at h
    ·split at h
     ·cases h
     ·injection h with h;injection h with H A;exact ⟨1,om,by simp,by rw[<-A];rfl⟩
    ·split at h
     ·split at h
      ·cases h
      ·rename_i k r' Q;obtain ⟨m,H,A,F⟩:=I _ _ _ _ Q;obtain ⟨R,S,K,J⟩:=D _ _ _ _ _ _ h;rw[F,List.drop_drop] at J;rw[F,Zk] at K;exact ⟨m+R,om,om,J⟩
     ·obtain ⟨m,H,A,F⟩:=D _ _ _ _ _ _ h;exact ⟨m+1,om,by simpa using A,by rw[F];rfl⟩
theorem G8 (fin:Nat):∀f:Nat,(∀(g d:Nat) (l:List Tok),2*l.length<=f->2*l.length<=g->elemP fin f d l=elemP fin g d l)/\
 (∀(g d:Nat) (t:Tok) (ks:List Nd) (l:List Tok),2*l.length+1<=f->2*l.length+1<=g->kidsP fin f d t ks l=kidsP fin g d t ks l)
 |0=>⟨λg d l h _=>(by
  have J:l= []:=List.length_eq_zero_iff.1 om;rw[J,Gv,Gv]),λg d t ks l h _=>om⟩
 |f+1=>by
  obtain ⟨H,A⟩:=G8 fin f;refine ⟨λg d l D F=> ?_,λg d t ks l D F=> ?_⟩
  ·cases l with
   |nil=>rw[Gv,Gv]
   |cons t l=>
    rw[Zd] at D F;cases g with
    |zero=>omega
    |succ g=>
     rw[elemP,elemP];split
     ·rfl
     ·split
      ·rfl
      ·exact A g d t [] l om om
  ·cases l with
   |nil=>rw[IQ,IQ]
   |cons u l=>
    rw[Zd] at D F;cases g with
    |zero=>omega
    |succ g=>
     rw[kidsP,kidsP];split
     ·rfl
     ·split
      ·rw[H g (d+1) (u::l) (by rw[Zd];omega) (by rw[Zd];omega)];cases he:elemP fin g (d+1) (u::l) with
       |error x=>rfl
       |ok kr=>obtain ⟨k,r⟩:=kr;obtain ⟨m,K,Q,I⟩:=(Qo fin g).1 _ _ _ _ he;have R:r.length+1<=l.length+1:=(by rw[I,Zk,Zd];omega);exact A g d t _ r om om
      ·exact A g d t _ l om om
def elemAt (fin d:Nat) (l:List Tok):Except PErr (Nd×List Tok):=elemP fin (2*l.length) d l
def kidsAt (fin d:Nat) (t:Tok) (ks:List Nd) (l:List Tok):Except PErr (Nd×List Tok):=kidsP fin (2*l.length+1) d t ks l
theorem Ev (fin d:Nat) (t:Tok) (l:List Tok):elemAt fin d (t::l)=if 100<d then .error (t.at_,9) else if t.empty then .ok (.mk 0 [] t.name t.attrs [] [] t.at_,l) else kidsAt fin d t [] l:=by
 unfold elemAt kidsAt;rw[Zd,show 2*(l.length+1)=2*l.length+1+1 by omega,elemP]
theorem ZiV (fin d:Nat) (t:Tok) (ks:List Nd):kidsAt fin d t ks []= .error (fin,8):=IQ _ _ _ _ _
theorem Zco (fin d:Nat) (t:Tok) (ks:List Nd) (u:Tok) (l:List Tok) (h:u.kind=2):kidsAt fin d t ks (u::l)=if u.name≠t.name then .error (u.at_,14) else .ok (.mk 0 [] t.name t.attrs ks [] t.at_,l):=by
 unfold kidsAt;rw[kidsP,Zi h]
theorem Zcp (fin d:Nat) (t:Tok) (ks:List Nd) (u:Tok) (l:List Tok) (A:u.kind=1):kidsAt fin d t ks (u::l)=match elemAt fin (d+1) (u::l) with| .error x=> .error x| .ok (k,r)=>kidsAt fin d t (ks++ [k]) r:=by
 unfold kidsAt elemAt;rw[kidsP,Ze om,Zi A];rw[Zd];cases he:elemP fin (2*(l.length+1)) (d+1) (u::l) with
 |error x=>rfl
 |ok kr=>
  obtain ⟨k,r⟩:=kr;obtain ⟨m,D,F,h⟩:=(Qo fin _).1 _ _ _ _ he;have H:r.length+1<=l.length+1:=by rw[h,Zk,Zd];omega
  exact (G8 fin _).2 _ _ _ _ _ om (Zc _)
theorem ZaO (fin d:Nat) (t:Tok) (ks:List Nd) (u:Tok) (l:List Tok) (h:u.kind=3):kidsAt fin d t ks (u::l)=kidsAt fin d t (addText ks u.text u.at_) l:=by
 unfold kidsAt;rw[kidsP,Ze om,Ze om];rw[Zd];exact (G8 fin _).2 _ _ _ _ _ om (Zc _)
theorem Gu {l r:List Tok} {n:Nd} (h:elemAt fin d l= .ok (n,r)):∃m,0<m/\m<=l.length/\r=l.drop m:=(Qo fin _).1 _ _ _ _ h
theorem Zgo (fin:Nat):∀f:Nat,(∀(d:Nat) (l:List Tok) (x c:Nat),elemP fin f d l= .error (x,c)->c≠0)/\(∀(d:Nat) (t:Tok) (ks:List Nd) (l:List Tok) (x c:Nat),kidsP fin f d t ks l= .error (x,c)->c≠0)
 |0=>⟨λd l x c h=>(by rw[elemP] at h;injection h with h;injection h with _ h;omega),λd t ks l x c h=>(by rw[kidsP] at h;injection h with h;injection h with _ h;omega)⟩
 |f+1=>by
  obtain ⟨D,A⟩:=Zgo fin f
  refine ⟨λd l x c h=> ?_,λd t ks l x c h=> ?_⟩
  ·cases l with
   |nil=>rw[Gv] at h;injection h with h;injection h with _ h;omega
   |cons t l=>
    rw[elemP] at h
    split at h
    ·injection h with h;injection h with _ h;omega
    ·split at h
     ·cases h
     ·exact A _ _ _ _ _ _ h
  ·cases l with
   |nil=>rw[IQ] at h;injection h with h;injection h with _ h;omega
   |cons u l=>
    rw[kidsP] at h
    split at h
    ·split at h
     ·injection h with h;injection h with _ h;omega
     ·cases h
    ·split at h
     ·split at h
      ·rename_i y F
       obtain ⟨y1,y2⟩:=y
       have:=D _ _ _ _ F
       injection h with h;injection h with _ h;omega
      ·exact A _ _ _ _ _ _ h
     ·exact A _ _ _ _ _ _ h
theorem ZrI {x:Nat} {l:List Tok} (h:elemAt fin d l= .error (x,c)):c≠0:=(Zgo fin _).1 _ _ _ _ h
theorem JE (fin f:Nat) (found:Option Nd) (t:Tok) (r:List Tok):docGo fin (f+1) found (t::r)=if t.kind=1/\found.isSome then .error (t.at_,17)
 else if t.kind=2 then .error (t.at_,14)
 else if t.kind=3 then (if blankL t.text=false then .error (t.at_,7) else docGo fin f found r)
 else match elemAt fin 1 (t::r) with
  | .error x=> .error x
  | .ok (n,r')=>docGo fin f (some n) r':=by
 have h:elemP fin (2*(r.length+1)+2) 1 (t::r)=elemAt fin 1 (t::r):=(G8 fin _).1 _ _ _ (by rw[Zd];omega) (by rw[Zd];omega);cases found<;>(rw[docGo,h];try rfl)
theorem J6 (fin f:Nat) (found:Option Nd):docGo fin (f+1) found []=match found with|none=> .error (fin,8)|some n=> .ok n:=by cases found<;>rw[docGo]
theorem Qz (fin:Nat):∀(f g:Nat) (found:Option Nd) (l:List Tok),l.length<f->l.length<g->docGo fin f found l=docGo fin g found l
 |0,_,_,_,h,_=>by omega
 |_+1,0,_,_,_,h=>by omega
 |f+1,g+1,found,l,h1,h2=>by
  cases l with
  |nil=>rw[J6,J6]
  |cons t r=>
   rw[Zd] at h1 h2
   rw[JE,JE]
   split
   ·rfl
   ·split
    ·rfl
    ·split
     ·split
      ·rfl
      ·exact Qz fin f g found r om om
     ·cases he:elemAt fin 1 (t::r) with
      |error x=>rfl
      |ok nr=>
       obtain ⟨n,r'⟩:=nr
       obtain ⟨m,D,F,A⟩:=Gu he
       have H:r'.length+1<=r.length+1:=(by rw[A,Zk,Zd];omega)
       exact Qz fin f g _ r' om om
def docAt (fin:Nat) (found:Option Nd) (l:List Tok):Except PErr Nd:=docGo fin (l.length+1) found l
theorem ZdR (fin:Nat) (found:Option Nd):docAt fin found []=match found with|none=> .error (fin,8)|some n=> .ok n:=J6 _ _ _
theorem KQ (fin:Nat) (found:Option Nd) (t:Tok) (r:List Tok):docAt fin found (t::r)=if t.kind=1/\found.isSome then .error (t.at_,17)
 else if t.kind=2 then .error (t.at_,14)
 else if t.kind=3 then (if blankL t.text=false then .error (t.at_,7) else docAt fin found r)
 else match elemAt fin 1 (t::r) with
  | .error x=> .error x
  | .ok (n,r')=>docAt fin (some n) r':=by
 unfold docAt;rw[JE];split
 ·rfl
 ·split
  ·rfl
  ·split
   ·split
    ·rfl
    ·exact Qz fin _ _ _ _ (by rw[Zd];omega) om
   ·cases he:elemAt fin 1 (t::r) with
    |error x=>rfl
    |ok nr=>obtain ⟨n,r'⟩:=nr;obtain ⟨m,A,D,h⟩:=Gu he;have F:r'.length+1<=r.length+1:=(by rw[h,Zk,Zd];omega);exact Qz fin _ _ _ _ (by rw[Zd];omega) om
theorem QB (s:List UInt8):docP s=match toksP s with| .error x=> .error x| .ok l=>docAt s.length none l:=rfl
def txts (l:List Tok):Nat:=(l.map λt=>t.text.length).sum
mutual
def Nd.fits (n:Nat):Nd->Prop
 | .mk k s nm al ks t a=>k<=1/\s.length<=2*n/\nm.length<=n/\al.length<=n/\(∀b∈al,b.fits n)/\ks.length<=n/\t.length<=2*n/\a<=n/\Nds.fits n ks
def Nds.fits (n:Nat):List Nd->Prop
 | []=>True
 |x::t=>x.fits n/\Nds.fits n t
end
theorem Nds.fits_iff {n:Nat}:∀l:List Nd,Nds.fits n l↔∀x∈l,x.fits n
 | []=>by rw[Nds.fits];simp
 |x::t=>by rw[Nds.fits,Nds.fits_iff t];simp
def lastTxt (ks:List Nd) (c:Nat):Prop:=∀k s n al kk u b,ks.getLast? =some (.mk k s n al kk u b)->k=1->u.length<=c
theorem ZeZ {ks:List Nd} {a:Nat} (S:Nds.fits n ks) (Y:ks.length<n) (hc:lastTxt ks c) (Z:c+t.length<=2*n) (Q:a<=n):Nds.fits n (addText ks t a)/\(addText ks t a).length<=ks.length+1/\lastTxt (addText ks t a) (c+t.length):=by
 have F:=(Nds.fits_iff ks).1 S;unfold addText;split
 ·rename_i s nm al kk u b I;have U:ks≠ []:=by intro e;rw[e] at I;cases I
  have H:Nd.mk 1 s nm al kk u b∈ks:=List.mem_of_getLast? I;have hu:=hc 1 s nm al kk u b I rfl;have D:=F _ H;rw[Nd.fits] at D;refine ⟨(Nds.fits_iff _).2 λx A=> ?_,?_,?_⟩
  ·rcases Zs.1 A with A|A
   ·exact F x (List.dropLast_subset _ A)
   ·rw[Zo.1 A,Nd.fits];refine ⟨D.1,D.2.1,D.2.2.1,D.2.2.2.1,D.2.2.2.2.1,D.2.2.2.2.2.1,?_,D.2.2.2.2.2.2.2⟩;rw[Zb];omega
  ·rw[Zb,List.length_dropLast];show _+1<=_;omega
  ·intro k' X V al' J u' K h _;rw[XG] at h;simp only[X7,Option.or] at h;injection h with h;injection h with _ _ _ _ _ e _;rw[<-e,Zb];omega
 ·refine ⟨(Nds.fits_iff _).2 λx A=> ?_,?_,?_⟩
  ·rcases Zs.1 A with A|A
   ·exact F x A
   ·rw[Zo.1 A];unfold charD;rw[Nd.fits];exact ⟨om,by simp,by simp,by simp,(by intro b R;cases R),by simp,om,Q,by rw[Nds.fits];trivial⟩
  ·rw[Zb];exact Zc _
  ·intro k' X V al' J u' K h _;rw[XG] at h;simp only[X7,Option.or] at h;injection h with h;unfold charD at h;injection h with _ _ _ _ _ e _;rw[<-e];omega
theorem Kh (l:List Tok) (m:Nat):txts (l.drop m)<=txts l:=by
 unfold txts;have h:=Zz (λl=>(l.map λt:Tok=>t.text.length).sum) (Yz m l);simp only[ZS,ZpW] at h;omega
theorem JN (t:Tok) (l:List Tok):txts (t::l)=t.text.length+txts l:=by unfold txts;simp
theorem ZdY (fin n:Nat):∀f:Nat,(∀(d:Nat) (l:List Tok) (x:Nd) (r:List Tok),elemP fin f d l= .ok (x,r)->(∀t∈l,t.fits n)->txts l<=2*n->l.length<=n->x.fits n/\x.kind=0)/\
 (∀(d:Nat) (t:Tok) (ks:List Nd) (l:List Tok) (x:Nd) (r:List Tok) (c:Nat),kidsP fin f d t ks l= .ok (x,r)->t.fits n->(∀t∈l,t.fits n)->Nds.fits n ks->lastTxt ks c->c+txts l<=2*n->ks.length+l.length<=n->x.fits n/\x.kind=0)
 |0=>⟨λd l x r h=>(by rw[elemP] at h;cases h),λd t ks l x r c h=>(by rw[kidsP] at h;cases h)⟩
 |f+1=>by
  obtain ⟨Z,K⟩:=ZdY fin n f;refine ⟨λd l x r h I J F=> ?_,λd t ks l x r c h A I H hc J F=> ?_⟩
  ·cases l with
   |nil=>rw[elemP] at h;cases h
   |cons t l=>
    have A:=I t Zx;rw[elemP] at h;split at h
    ·cases h
    ·split at h
     ·injection h with h;injection h with S h2;subst S;rw[Nd.fits];exact ⟨⟨om,by simp,A.name,A.cnt,A.attrs,by simp,by simp,A.at_,by rw[Nds.fits];trivial⟩,rfl⟩
     ·refine K d t [] l x r 0 h A (λu X=>I u (Zn _ X)) (by rw[Nds.fits];trivial) (by intro _ _ _ _ _ _ _ e;cases e) ?_ ?_
      ·rw[JN] at J;omega
      ·rw[Zd] at F;show 0+_<=_;omega
  ·cases l with
   |nil=>rw[kidsP] at h;cases h
   |cons u l=>
    have X:=I u Zx;have V:∀v∈l,v.fits n:=λv Y=>I v (Zn _ Y);rw[Zd] at F;rw[JN] at J;rw[kidsP] at h;split at h
    ·split at h
     ·cases h
     ·injection h with h;injection h with S h2;subst S;rw[Nd.fits];exact ⟨⟨om,by simp,A.name,A.cnt,A.attrs,om,by simp,A.at_,H⟩,rfl⟩
    ·split at h
     ·split at h
      ·cases h
      ·rename_i k r' hk;obtain ⟨m,S,h2,U⟩:=(Qo fin f).1 _ _ _ _ hk;have Q:=Z _ _ _ _ hk I (by rw[JN];omega) (by rw[Zd];omega);have h6:r'.length+1<=l.length+1:=(by rw[U,Zk,Zd];omega);have h7:=Kh (u::l) m;rw[<-U,JN] at h7;refine K d t _ r' x r 0 h A (λv Y=>I v (Yq (by rw[<-U];exact Y))) ((Nds.fits_iff _).2 λy R=> ?_) ?_ om (by rw[Zb];show _+1+_<=_;omega)
       ·rcases Zs.1 R with R|R
        ·exact (Nds.fits_iff _).1 H y R
        ·rw[Zo.1 R];exact Q.1
       ·intro k' s' n' al' hb u' b' D e1;rw[XG] at D;simp only[X7,Option.or] at D;injection D with D;have:=Q.2;rw[D] at this;have h9:k'=0:=this;omega
     ·have ha:=ZeZ (n:=n) (c:=c) (ks:=ks) (t:=u.text) (a:=u.at_) H om hc om X.at_;refine K d t _ l x r (c+u.text.length) h A V ha.1 ha.2.2 om om
theorem Zgg {l r:List Tok} {x:Nd} (h:elemAt fin d l= .ok (x,r)) (A:∀t∈l,t.fits n) (F:txts l<=2*n) (D:l.length<=n):x.fits n/\x.kind=0:=(ZdY fin n _).1 _ _ _ _ h A F D
theorem KR {fin n:Nat}:∀(f:Nat) (found:Option Nd) (l:List Tok) (x:Nd),docGo fin f found l= .ok x->(∀y,found=some y->y.fits n/\y.kind=0)->(∀t∈l,t.fits n)->txts l<=2*n->l.length<=n->x.fits n/\x.kind=0
 |0,found,l,x,h,_,_,_,_=>by rw[docGo] at h;cases h
 |f+1,found,[],x,h,hf,_,_,_=>by
  rw[J6] at h
  cases found with
  |none=>cases h
  |some y=>
   injection h with h
   rw[<-h]
   exact hf y rfl
 |f+1,found,t::r,x,h,hf,hl,ht,hn=>by
  have F:=ht
  rw[JN] at F
  have D:=hn
  rw[Zd] at D
  rw[JE] at h
  split at h
  ·cases h
  ·split at h
   ·cases h
   ·split at h
    ·split at h
     ·cases h
     ·exact KR f found r x h hf (λv H=>hl v (Zn _ H)) om om
    ·split at h
     ·cases h
     ·rename_i y r' K
      obtain ⟨m,R,S,A⟩:=Gu K
      have I:=Zgg K hl ht hn
      have Q:=Kh (t::r) m
      rw[<-A] at Q
      have U:r'.length<=r.length+1:=(by rw[A,Zk,Zd];omega)
      exact KR f (some y) r' x h (by intro z J;injection J with J;rw[<-J];exact I) (λv H=>hl v (Yq (by rw[<-A];exact H))) om om
theorem Eu {x:Nd} (h:docP s= .ok x):x.fits s.length/\x.kind=0:=by
 rw[QB] at h;split at h
 ·cases h
 ·rename_i l D;have A:=If D;exact KR _ none l x h (by intro y e;cases e) A.each A.text A.len
end
section
variable {N c i n:Nat} {l p sp:List UInt8} {sc:Scope}
theorem Ie {q:List UInt8} (h:splitL l=some (p,q)):p.length<=l.length/\q.length<=l.length:=by
 unfold splitL at h;dsimp only at h;split at h
 ·split at h
  ·injection h with h;injection h with h1 h2;rw[<-h1,<-h2];exact ⟨(YE _).length_le,by rw[Zk];omega⟩
  ·cases h
 ·split at h
  ·injection h with h;injection h with h1 h2;rw[<-h1,<-h2];exact ⟨Zj _,Zc _⟩
  ·cases h
def Scope.fits (n:Nat) (sc:Scope):Prop:=∀b∈sc,b.2.length<=2*n
theorem Zen {v:List UInt8} (F:18<=n) (D:Scope.fits n sc) (h:lookL sc p=some v):v.length<=2*n:=by
 unfold lookL at h;split at h
 ·injection h with h;rw[<-h];show 36<=_;omega
 ·split at h
  ·rename_i b A;injection h with h;rw[<-h];exact D b (List.mem_reverse.1 (List.mem_of_find?_eq_some A))
  ·split at h
   ·injection h with h;rw[<-h];exact Zj _
   ·cases h
def lookTo (sc:Scope) (p:List UInt8) (i:Nat):Option (List UInt8):=
 match (sc.take i).reverse.find? λb=>decide (b.1=p) with
 |some b=>some b.2
 |none=>if p= [] then some [] else none
theorem Zm9 (h:p≠xmlL):lookL sc p=lookTo sc p sc.length:=by
 unfold lookL lookTo;rw[Ze h,List.take_length]
 try rfl
theorem Zi3 (A:i<sc.length) (h:sc[i].1=p):lookTo sc p (i+1)=some sc[i].2:=by
 unfold lookTo;rw[Zr A,List.reverse_append,List.reverse_singleton,List.singleton_append,List.find?_cons_of_pos (by simpa using h)]
theorem Zg7 (A:i<sc.length) (h:sc[i].1≠p):lookTo sc p (i+1)=lookTo sc p i:=by
 unfold lookTo;rw[Zr A,List.reverse_append,List.reverse_singleton,List.singleton_append,List.find?_cons_of_neg (by simpa using h)]
theorem Zg8 (sc:Scope) (p:List UInt8):lookTo sc p 0=if p= [] then some [] else none:=by
 unfold lookTo;rw[List.take_zero];rfl
theorem Qy {n:Nat}:∀(al:List AtP) (sc inner:Scope),declsGo al sc= .ok inner->(∀a∈al,a.fits n)->Scope.fits n sc->Scope.fits n inner/\inner.length<=sc.length+al.length
 | [],sc,inner,h,_,hs=>by
  rw[declsGo] at h
  injection h with h
  rw[<-h]
  exact ⟨hs,om⟩
 |a::t,sc,inner,h,ha,hs=>by
  have D:∀b∈t,b.fits n:=λb A=>ha b (Zn _ A)
  rw[declsGo] at h
  split at h
  ·cases h
  ·split at h
   ·split at h
    ·cases h
    ·have:=Qy t _ inner h D (by
      intro b A
      rcases Zs.1 A with A|A
      ·exact hs b A
      ·rw[Zo.1 A]
       exact (ha a Zx).2.2.1)
     rw[Zb] at this
     rw[Zd]
     refine ⟨this.1,Zp this.2 ?_⟩
     show _+1+_<=_
     omega
   ·have:=Qy t sc inner h D hs
    rw[Zd]
    exact ⟨this.1,om⟩
theorem Gq {x c:Nat}:∀(al:List AtP) (sc:Scope),declsGo al sc= .error (x,c)->c=13
 | [],sc,h=>by rw[declsGo] at h;cases h
 |a::t,sc,h=>by
  rw[declsGo] at h
  split at h
  ·injection h with h;injection h with _ h;exact h.symm
  ·split at h
   ·split at h
    ·injection h with h;injection h with _ h;exact h.symm
    ·exact Gq t _ h
   ·exact Gq t _ h
theorem Gj {x c:Nat} (sc:Scope):∀(al out:List AtP),attrsGo sc al out= .error (x,c)->c≠0
 | [],out,h=>by rw[attrsGo] at h;cases h
 |a::t,out,h=>by
  rw[attrsGo] at h
  split at h
  ·exact Gj sc t out h
  ·dsimp only at h
   split at h
   ·injection h with h;injection h with _ h;omega
   ·split at h
    ·injection h with h;injection h with _ h;omega
    ·exact Gj sc t _ h
theorem Qr {n:Nat} (H:18<=n) {sc:Scope} (I:Scope.fits n sc):∀(al out r:List AtP),attrsGo sc al out= .ok r->(∀a∈al,a.fits n)->(∀a∈out,a.fits n)->(∀a∈r,a.fits n)/\r.length<=out.length+al.length
 | [],out,r,h,_,ho=>by
  rw[attrsGo] at h
  injection h with h
  rw[<-h]
  exact ⟨ho,om⟩
 |a::t,out,r,h,ha,ho=>by
  have D:=ha a Zx
  have J:∀b∈t,b.fits n:=λb F=>ha b (Zn _ F)
  rw[attrsGo] at h
  rw[Zd]
  split at h
  ·have:=Qr H I t out r h J ho
   exact ⟨this.1,om⟩
  ·dsimp only at h
   split at h
   ·cases h
   ·rename_i sp A
    split at h
    ·cases h
    ·have:=Qr H I t _ r h J (by
      intro b F
      rcases Zs.1 F with F|F
      ·exact ho b F
      ·rw[Zo.1 F]
       refine ⟨?_,?_,D.2.2.1,D.2.2.2⟩
       ·show sp.length<=_
        split at A
        ·injection A with A
         rw[<-A]
         exact Zj _
        ·exact Zen H I A
       ·show ((splitL a.name).getD ([],[])).2.length<=_
        cases hsl:splitL a.name with
        |none=>exact Zj _
        |some pq=>
         obtain ⟨p,q⟩:=pq
         exact Zp (Ie hsl).2 D.2.1)
     rw[Zb] at this
     refine ⟨this.1,Zp this.2 ?_⟩
     show _+1+_<=_
     omega
theorem Zee {n:Nd} {x:Nat} (h:headP n sc= .error (x,c)):c≠0:=by
 unfold headP at h;split at h
 ·injection h with h;injection h with _ h;omega
 ·split at h
  ·injection h with h;injection h with _ h;omega
  ·split at h
   ·rename_i y A;obtain ⟨y1,y2⟩:=y;have:=Gq _ _ A;injection h with h;injection h with _ h;omega
   ·split at h
    ·injection h with h;injection h with _ h;omega
    ·split at h
     ·rename_i y A;obtain ⟨y1,y2⟩:=y;have:=Gj _ _ _ A;injection h with h;injection h with _ h;omega
     ·cases h
theorem ZiM (R:18<=N) {n:Nd} {inner:Scope} {al:List AtP} (h:headP n sc= .ok (sp,l,al,inner)) (A:n.fits N) (V:Scope.fits N sc):
 sp.length<=2*N/\l.length<=N/\al.length<=N/\(∀a∈al,a.fits N)/\Scope.fits N inner/\inner.length<=sc.length+N:=by
 cases n with
 |mk k s nm at0 ks t a=>
  rw[Nd.fits] at A;unfold headP at h;simp only[Nd.name,Nd.attrs,Nd.at_] at h;split at h
  ·cases h
  ·rename_i p q J;split at h
   ·cases h
   ·split at h
    ·cases h
    ·rename_i K H;have D:=Qy at0 sc K H A.2.2.2.2.1 V;split at h
     ·cases h
     ·rename_i X I;split at h
      ·cases h
      ·rename_i al' F;injection h with h;injection h with e1 h;injection h with e2 h;injection h with e3 e4;subst e1;subst e2;subst e3;subst e4;have Q:=Qr R D.1 at0 [] al' F A.2.2.2.2.1 (by intro b U;cases U);have Y:=A.2.2.2.1;refine ⟨Zen R D.1 I,Zp (Ie J).2 A.2.2.1,?_,Q.1,D.1,om⟩;have S:=Q.2;simp only[ZK] at S;omega
mutual
theorem ZcK {x c:Nat}:∀(n:Nd) (sc:Scope),resP n sc= .error (x,c)->c≠0
 | .mk k s n al ks t a,sc,h=>by
  rw[resP] at h
  split at h
  ·rename_i y hy
   obtain ⟨y1,y2⟩:=y
   have:=Zee hy
   injection h with h;injection h with _ h;omega
  ·split at h
   ·rename_i y hy
    obtain ⟨y1,y2⟩:=y
    have:=ZaY ks _ hy
    injection h with h;injection h with _ h;omega
   ·cases h
theorem ZaY {x c:Nat}:∀(ks:List Nd) (sc:Scope),resKids ks sc= .error (x,c)->c≠0
 | [],sc,h=>by rw[resKids] at h;cases h
 |k::t,sc,h=>by
  rw[resKids] at h
  split at h
  ·rename_i y hy
   obtain ⟨y1,y2⟩:=y
   injection h with h
   injection h with e1 e2
   split at hy
   ·have:=ZcK k sc hy
    omega
   ·cases hy
  ·split at h
   ·rename_i y hy
    obtain ⟨y1,y2⟩:=y
    have:=ZaY t sc hy
    injection h with h;injection h with _ h;omega
   ·cases h
end
mutual
theorem ZeI {N:Nat} (hN:18<=N):∀(n m:Nd) (sc:Scope),resP n sc= .ok m->n.fits N->Scope.fits N sc->m.fits N/\m.kind=0
 | .mk k s n al ks t a,m,sc,h,hn,hs=>by
  rw[resP] at h
  split at h
  ·cases h
  ·rename_i sp l al' inner hh
   have h1:=ZiM hN hh hn hs
   rw[Nd.fits] at hn
   split at h
   ·cases h
   ·rename_i ks' hk
    have h2:=I8 hN ks ks' inner hk hn.2.2.2.2.2.2.2.2 h1.2.2.2.2.1
    injection h with h
    subst h
    rw[Nd.fits]
    exact ⟨⟨by omega,h1.1,h1.2.1,h1.2.2.1,h1.2.2.2.1,by rw[h2.2];exact hn.2.2.2.2.2.1,by simp,hn.2.2.2.2.2.2.2.1,h2.1⟩,rfl⟩
theorem I8 {N:Nat} (hN:18<=N):∀(ks r:List Nd) (sc:Scope),resKids ks sc= .ok r->Nds.fits N ks->Scope.fits N sc->Nds.fits N r/\r.length=ks.length
 | [],r,sc,h,_,_=>by
  rw[resKids] at h
  injection h with h
  subst h
  exact ⟨by rw[Nds.fits];trivial,rfl⟩
 |k::t,r,sc,h,hk,hs=>by
  rw[Nds.fits] at hk
  rw[resKids] at h
  split at h
  ·cases h
  ·rename_i k' hk'
   split at h
   ·cases h
   ·rename_i t' ht'
    injection h with h
    subst h
    have h2:=I8 hN t t' sc ht' hk.2 hs
    refine ⟨?_,by rw[Zd,Zd,h2.2]⟩
    rw[Nds.fits]
    refine ⟨?_,h2.1⟩
    split at hk'
    ·exact (ZeI hN k k' sc hk' hk.1 hs).1
    ·injection hk' with hk'
     rw[<-hk']
     exact hk.1
end
end
section
variable {l s sp t:List UInt8} {n:Nat} {sc:Scope}
def resAt (sc:Scope) (done rest:List Nd):Except PErr (List Nd):=
 match resKids rest sc with
 | .error x=> .error x
 | .ok t=> .ok (done++t)
theorem ZhI (sc:Scope) (ks:List Nd):resAt sc [] ks=resKids ks sc:=by
 unfold resAt;cases resKids ks sc<;>rfl
theorem ZlU (sc:Scope) (done:List Nd):resAt sc done []= .ok done:=by
 unfold resAt;rw[resKids];dsimp only;rw[ZV]
theorem Zjr {done t:List Nd} {k:Nd} (h:k.kind=0):resAt sc done (k::t)=match resP k sc with| .error x=> .error x| .ok k'=>resAt sc (done++ [k']) t:=by
 unfold resAt;rw[resKids,Zi h];cases resP k sc with
 |error x=>rfl
 |ok k'=>
  dsimp only;cases resKids t sc with
  |error x=>rfl
  |ok t'=>simp
theorem Zjs {done t:List Nd} {k:Nd} (h:k.kind≠0):resAt sc done (k::t)=resAt sc (done++ [k]) t:=by
 unfold resAt;rw[resKids,Ze h];dsimp only;cases resKids t sc with
 |error x=>rfl
 |ok t'=>simp
theorem Gr:∀(al:List AtP) (sc inner:Scope),declsGo al sc= .ok inner->inner.length<=sc.length+al.length
 | [],sc,inner,h=>by
  rw[declsGo] at h
  injection h with h
  rw[<-h]
  omega
 |a::t,sc,inner,h=>by
  rw[declsGo] at h
  rw[Zd]
  split at h
  ·cases h
  ·split at h
   ·split at h
    ·cases h
    ·have:=Gr t _ inner h
     rw[Zb] at this
     refine Zp this ?_
     show _+1+_<=_
     omega
   ·have:=Gr t sc inner h
    omega
theorem ZkU {n:Nd} {inner:Scope} {al:List AtP} (h:headP n sc= .ok (sp,l,al,inner)):inner.length<=sc.length+n.attrs.length:=by
 unfold headP at h;split at h
 ·cases h
 ·split at h
  ·cases h
  ·split at h
   ·cases h
   ·rename_i D A;split at h
    ·cases h
    ·split at h
     ·cases h
     ·injection h with h;injection h with _ h;injection h with _ h;injection h with _ h;rw[<-h];exact Gr _ _ _ A
mutual
def Nd.ht:Nd->Nat
 | .mk _ _ _ _ ks _ _=>1+Nds.ht ks
def Nds.ht:List Nd->Nat
 | []=>0
 |x::t=>max x.ht (Nds.ht t)
end
theorem Nds.ht_le {n:Nat}:∀l:List Nd,Nds.ht l<=n↔∀x∈l,x.ht<=n
 | []=>by rw[Nds.ht];simp
 |x::t=>by rw[Nds.ht,Nat.max_le,Nds.ht_le t];simp
theorem Zcf {l:List Nd} {x:Nd} (h:x∈l):x.ht<=Nds.ht l:=(Nds.ht_le l).1 (Zc _) x h
theorem Zii {ks:List Nd} {a:Nat} (I:1<=n) (H:Nds.ht ks<=n):Nds.ht (addText ks t a)<=n:=by
 have A:=(Nds.ht_le ks).1 H;unfold addText;split
 ·rename_i s nm al kk u b F;have D:Nd.mk 1 s nm al kk u b∈ks:=List.mem_of_getLast? F;refine (Nds.ht_le _).2 λx h=> ?_;rcases Zs.1 h with h|h
  ·exact A x (List.dropLast_subset _ h)
  ·have:=A _ D;rw[Zo.1 h,Nd.ht];rw[Nd.ht] at this;exact this
 ·refine (Nds.ht_le _).2 λx h=> ?_;rcases Zs.1 h with h|h
  ·exact A x h
  ·rw[Zo.1 h];unfold charD;rw[Nd.ht,Nds.ht];omega
theorem ZjS (fin:Nat):∀f:Nat,(∀(d:Nat) (l:List Tok) (x:Nd) (r:List Tok),elemP fin f d l= .ok (x,r)->x.ht+d<=102)/\
 (∀(d:Nat) (t:Tok) (ks:List Nd) (l:List Tok) (x:Nd) (r:List Tok),kidsP fin f d t ks l= .ok (x,r)->d<=100->Nds.ht ks+d<=101->x.ht+d<=102)
 |0=>⟨λd l x r h=>(by rw[elemP] at h;cases h),λd t ks l x r h=>(by rw[kidsP] at h;cases h)⟩
 |f+1=>by
  obtain ⟨F,A⟩:=ZjS fin f;refine ⟨λd l x r h=> ?_,λd t ks l x r h H K=> ?_⟩
  ·cases l with
   |nil=>rw[elemP] at h;cases h
   |cons t l=>
    rw[elemP] at h;split at h
    ·cases h
    ·split at h
     ·injection h with h;injection h with h1 h2;subst h1;rw[Nd.ht,Nds.ht];omega
     ·exact A d t [] l x r h om (by rw[Nds.ht];omega)
  ·cases l with
   |nil=>rw[kidsP] at h;cases h
   |cons u l=>
    rw[kidsP] at h;split at h
    ·split at h
     ·cases h
     ·injection h with h;injection h with h1 h2;subst h1;rw[Nd.ht];omega
    ·split at h
     ·split at h
      ·cases h
      ·rename_i k r' I;have J:=F _ _ _ _ I;refine A d t _ r' x r h H ?_;have:Nds.ht (ks++ [k])<=101 - d:=(Nds.ht_le _).2 λy D=>by
        rcases Zs.1 D with D|D
        ·have:=Zcf D;omega
        ·rw[Zo.1 D];omega
       omega
     ·refine A d t _ l x r h H ?_;have:=Zii (n:=101 - d) (ks:=ks) (t:=u.text) (a:=u.at_) om om;omega
theorem ZbV {fin:Nat}:∀(f:Nat) (found:Option Nd) (l:List Tok) (x:Nd),docGo fin f found l= .ok x->(∀y,found=some y->y.ht<=101)->x.ht<=101
 |0,found,l,x,h,_=>by rw[docGo] at h;cases h
 |f+1,found,[],x,h,hf=>by
  rw[J6] at h
  cases found with
  |none=>cases h
  |some y=>
   injection h with h
   rw[<-h]
   exact hf y rfl
 |f+1,found,t::r,x,h,hf=>by
  rw[JE] at h
  split at h
  ·cases h
  ·split at h
   ·cases h
   ·split at h
    ·split at h
     ·cases h
     ·exact ZbV f found r x h hf
    ·split at h
     ·cases h
     ·rename_i y r' D
      have F:=(ZjS fin _).1 _ _ _ _ D
      exact ZbV f (some y) r' x h (by intro z A;injection A with A;rw[<-A];omega)
theorem ZjN {x:Nd} (h:docP s= .ok x):x.ht<=101:=by
 rw[QB] at h;split at h
 ·cases h
 ·exact ZbV _ none _ x h (by intro y e;cases e)
end
def opmlL:List UInt8:= [111,112,109,108]
def versionL:List UInt8:= [118,101,114,115,105,111,110]
def twoL:List UInt8:= [50,46,48]
def bodyL:List UInt8:= [98,111,100,121]
def outlineL:List UInt8:= [111,117,116,108,105,110,101]
def textL:List UInt8:= [116,101,120,116]
def titleL:List UInt8:= [116,105,116,108,101]
def xmlUrlL:List UInt8:= [120,109,108,85,114,108]
def htmlUrlL:List UInt8:= [104,116,109,108,85,114,108]
def attrIn (al:List AtP) (nm:List UInt8):Option (List UInt8):=(al.find? λa=>a.space== [] && a.name==nm).map AtP.value
def isEl (nm:List UInt8) (n:Nd):Bool:=n.kind==0 && n.space== [] && n.name==nm
def attrL (n:Nd) (nm:List UInt8):Option (List UInt8):=attrIn n.attrs nm
def nameL (n:Nd):List UInt8:=match attrL n textL with
 |some v=>v
 |none=>(attrL n titleL).getD []
def opFd (path:List ByteArray) (n:Nd) (id:List UInt8):Fd:=⟨path,str id,str (nameL n),str ((attrL n htmlUrlL).getD []), -62135596800,[]⟩
mutual
def visP:Nd->List ByteArray->Except PErr (List Fd)
 | .mk _ _ _ _ ks _ _,path=>visKs ks path
def visKs:List Nd->List ByteArray->Except PErr (List Fd)
 | [],_=> .ok []
 |k::t,path=>
  match (if isEl outlineL k then
   match attrL k xmlUrlL with
   |some id=>if coll id= [] then .error (k.at_,19) else .ok [opFd path k id]
   |none=>if coll (nameL k)= [] then .error (k.at_,19) else if 64<=path.length then .error (k.at_,9) else visP k (path++ [str (nameL k)])
   else .ok []:Except PErr (List Fd)) with
  | .error x=> .error x
  | .ok l=>match visKs t path with
   | .error x=> .error x
   | .ok m=> .ok (l++m)
end
def opmlP (n:Nd):Except PErr (List Fd):=
 if n.kind≠0\/n.space≠ []\/n.name≠opmlL\/attrL n versionL≠some twoL then .error (n.at_,18)
 else match n.kids.find? (isEl bodyL) with
  |none=> .error (n.at_,19)
  |some b=>visP b []
end Go.Proofs.YtnlafkgkcnenfaaGreatDoor
