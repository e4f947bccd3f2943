/- Parts of the proof: contracts and plain laws. -/
import Derived.Test.YtnlafkgkcnenfaaGreatDoorS03
namespace Go.Proofs.YtnlafkgkcnenfaaGreatDoor
open Go Tryz
set_option linter.unusedVariables false
set_option linter.unusedSimpArgs false
set_option maxRecDepth 100000
set_option maxHeartbeats 16000000
def nmStart (r:Nat):Bool:=
 decide ((65<=r/\r<=90)\/(97<=r/\r<=122)\/r=95)||decide ((192<=r/\r<=767/\r≠215/\r≠247)\/(880<=r/\r<=8191/\r≠894))||
 decide (r=8204\/r=8205\/(8304<=r/\r<=8591)\/(11264<=r/\r<=12271)\/(12289<=r/\r<=55295))||decide ((63744<=r/\r<=64975)\/(65008<=r/\r<=65533)\/(65536<=r/\r<=983039))
def nmChar (r:Nat):Bool:=nmStart r||decide ((48<=r/\r<=57)\/r=45\/r=46\/r=183\/(768<=r/\r<=879)\/r=8255\/r=8256)
def nmOk (colon first:Bool) (r:Nat):Bool:=(colon && r==58)||(if first then nmStart r else nmChar r)
def nmGo (colon:Bool):Nat->Bool->List UInt8->Nat
 |0,_,_=>0
 |f+1,first,l=>if l= []\/(dec l).2=0\/nmOk colon first (dec l).1=false then 0 else (dec l).2+nmGo colon f false (l.drop (dec l).2)
def nmLen (colon:Bool) (l:List UInt8):Nat:=nmGo colon l.length true l
def isQ (l:List UInt8):Bool:=decide (0<l.length/\nmLen true l=l.length)
def isNm (l:List UInt8):Bool:=decide (0<l.length/\nmLen false l=l.length)
def hasAt (s:List UInt8) (at_:Nat) (t:List UInt8):Bool:=t.isPrefixOf (s.drop at_)
def spAt (s:List UInt8) (at_:Nat):Nat:=at_+((s.drop at_).takeWhile λc=>isSp c.toNat).length
def nmAt (s:List UInt8) (at_:Nat):Nat:=at_+nmLen true (s.drop at_)
def findIn (t:List UInt8):List UInt8->Nat->Option Nat
 | [],k=>if t= [] then some k else none
 |c::r,k=>if t.isPrefixOf (c::r) then some k else findIn t r (k+1)
def findAt (s:List UInt8) (at_:Nat) (t:List UInt8):Option Nat:=findIn t (s.drop at_) at_
def lns:List UInt8->List UInt8
 | []=> []
 | [c]=> [if c=13 then 10 else c]
 |c::d::r=>if c=13/\d=10 then lns (d::r) else (if c=13 then 10 else c)::lns (d::r)
def hexV (c:UInt8):Nat:=if 48<=c.toNat/\c.toNat<=57 then c.toNat - 48 else if 97<=c.toNat/\c.toNat<=102 then c.toNat - 97+10 else if 65<=c.toNat/\c.toNat<=70 then c.toNat - 65+10 else 16
def numGo (base:Nat):List UInt8->Nat->Option Nat
 | [],n=>some n
 |c::t,n=>if base<=hexV c then none else numGo base t (min (n*base+hexV c) 2000000)
def numL (base:Nat) (l:List UInt8):Option Nat:=if l= [] then none else numGo base l 0
def namedL (l:List UInt8):Option Nat:=
 if l= [108,116] then some 60 else if l= [103,116] then some 62 else if l= [97,109,112] then some 38 else if l= [97,112,111,115] then some 39 else if l= [113,117,111,116] then some 34 else none
def refRune (x:List UInt8):Option Nat:=
 match x with
 |35::c::t=>if c=120 then numL 16 t else numL 10 (c::t)
 |_=>namedL x
def refAt (s:List UInt8) (at_:Nat):Option (Nat×Nat):=
 let r:=s.drop at_
 if r.head? =some 38 then
  let x:=r.tail.takeWhile λc=>c !=59
  if x.length+1<r.length then match refRune x with
   |some n=>if isChar n then some (n,at_+x.length+2) else none
   |none=>none
  else none
 else none
abbrev PErr:=Nat×Nat
def spaced (l:List UInt8):List UInt8:=l.map λc=>if isSp c.toNat then 32 else c
def contGo (value:Bool) (s:List UInt8) (tz:Nat):Nat->Nat->List UInt8->Except PErr (List UInt8)
 |0,_,out=> .ok out
 |f+1,i,out=>
  if tz<=i then .ok out
  else if (s.drop i).head? =some 38 then match refAt (s.take tz) i with
   |some (r,e)=>contGo value s tz f e (out++encN r)
   |none=> .error (i,12)
  else
   let k:=(((s.take tz).drop i).takeWhile λc=>c !=38)
   contGo value s tz f (i+k.length) (out++(if value then spaced (lns k) else lns k))
def contP (value:Bool) (s:List UInt8) (from_ tz:Nat):Except PErr (List UInt8):=contGo value s tz (tz - from_+1) from_ []
def missP (s:List UInt8) (from_ at_:Nat):PErr:=if s.length<=at_ then (from_,8) else (at_,7)
structure AtP where
 space:List UInt8
 name:List UInt8
 value:List UInt8
 at_:Nat
 deriving DecidableEq
def attrP (s:List UInt8) (from_ at_:Nat):Except PErr (AtP×Nat):=
 let e:=nmAt s at_
 if e=at_ then .error (missP s from_ at_) else
 let name:=(s.drop at_).take (e - at_)
 let a:=spAt s e
 if hasAt s a [61]=false then .error (missP s from_ a) else
 let q:=spAt s (a+1)
 if hasAt s q [34]=false/\hasAt s q [39]=false then .error (missP s from_ q) else
 let c:=(s.drop q).headD 0
 let e2:=q+1+((s.drop (q+1)).takeWhile λd=>d !=c && d !=60).length
 match contP true s (q+1) e2 with
 | .error x=> .error x
 | .ok v=>
  if e2=s.length then .error (from_,8) else
  if (s.drop e2).head? =some 60 then .error (e2,7) else
  .ok (⟨[],name,v,at_⟩,e2+1)
structure Tok where
 kind:Nat
 name:List UInt8
 attrs:List AtP
 empty:Bool
 text:List UInt8
 at_:Nat
 deriving DecidableEq
def startGo (s:List UInt8) (from_:Nat) (name:List UInt8):Nat->Nat->List AtP->Except PErr (Tok×Nat)
 |0,_,_=> .error (from_,8)
 |f+1,at_,al=>
  let next:=spAt s at_
  if hasAt s next [62] then .ok (⟨1,name,al,false,[],from_⟩,next+1)
  else if hasAt s next [47,62] then .ok (⟨1,name,al,true,[],from_⟩,next+2)
  else if hasAt s next [47] then .error (missP s from_ (next+1))
  else if next=at_ then .error (missP s from_ at_)
  else match attrP s from_ next with
   | .error x=> .error x
   | .ok (a,e)=>if al.any λb=>b.name==a.name then .error (a.at_,10) else startGo s from_ name f e (al++ [a])
def startP (s:List UInt8) (from_:Nat):Except PErr (Tok×Nat):=
 let at_:=nmAt s (from_+1)
 if at_=from_+1 then .error (missP s from_ at_) else startGo s from_ ((s.drop (from_+1)).take (at_ - (from_+1))) (s.length+1) at_ []
def endP (s:List UInt8) (from_:Nat):Except PErr (Tok×Nat):=
 let at_:=nmAt s (from_+2)
 if from_+2<at_ then
  if hasAt s (spAt s at_) [62] then .ok (⟨2,(s.drop (from_+2)).take (at_ - (from_+2)),[],false,[],from_⟩,spAt s at_+1)
  else .error (missP s from_ (spAt s at_))
 else .error (missP s from_ at_)
def skipP (s:List UInt8) (from_:Nat) (n:Nat) (last:List UInt8):Except PErr Nat:=
 match findAt s (from_+n) last with
 |none=> .error (from_,8)
 |some i=> .ok (i+last.length)
def dataT (t:List UInt8) (at_:Nat):Tok:=⟨3,[],[],false,t,at_⟩
def constructP (s:List UInt8) (from_:Nat):Except PErr (Tok×Nat):=
 if hasAt s from_ [60,63] then (match skipP s from_ 2 [63,62] with| .error x=> .error x| .ok tz=> .ok (dataT [] 0,tz))
 else if hasAt s from_ [60,33,45,45] then (match skipP s from_ 4 [45,45,62] with| .error x=> .error x| .ok tz=> .ok (dataT [] 0,tz))
 else if hasAt s from_ [60,33,91,67,68,65,84,65,91] then (match skipP s from_ 9 [93,93,62] with| .error x=> .error x| .ok tz=> .ok (dataT (lns ((s.drop (from_+9)).take (tz - 3 - (from_+9)))) from_,tz))
 else if hasAt s from_ [60,33,68,79,67,84,89,80,69] then .error (from_,11)
 else if hasAt s from_ [60,33] then .error (from_,7)
 else if hasAt s from_ [60,47] then endP s from_
 else if hasAt s from_ [60] then startP s from_
 else
  let tz:=(findAt s from_ [60]).getD s.length
  match contP false s from_ tz with
  | .error x=> .error x
  | .ok v=> .ok (dataT v from_,tz)
def toksGo (s:List UInt8):Nat->Nat->List Tok->Except PErr (List Tok)
 |0,_,l=> .ok l
 |f+1,at_,l=>
  if s.length<=at_ then .ok l else
  match constructP s at_ with
  | .error x=> .error x
  | .ok (t,tz)=>toksGo s f tz (if t.kind≠3\/t.text≠ [] then l++ [t] else l)
def toksP (s:List UInt8):Except PErr (List Tok):=
 if (check s).2≠0 then .error (check s) else toksGo s (s.length+1) (if hasAt s 0 [239,187,191] then 3 else 0) []
inductive Nd where
 |mk (kind:Nat) (space name:List UInt8) (attrs:List AtP) (kids:List Nd) (text:List UInt8) (at_:Nat)
def Nd.kind:Nd->Nat| .mk k _ _ _ _ _ _=>k
def Nd.space:Nd->List UInt8| .mk _ s _ _ _ _ _=>s
def Nd.name:Nd->List UInt8| .mk _ _ n _ _ _ _=>n
def Nd.attrs:Nd->List AtP| .mk _ _ _ a _ _ _=>a
def Nd.kids:Nd->List Nd| .mk _ _ _ _ k _ _=>k
def Nd.text:Nd->List UInt8| .mk _ _ _ _ _ t _=>t
def Nd.at_:Nd->Nat| .mk _ _ _ _ _ _ a=>a
def charD (t:List UInt8) (at_:Nat):Nd:= .mk 1 [] [] [] [] t at_
def addText (ks:List Nd) (t:List UInt8) (at_:Nat):List Nd:=
 match ks.getLast? with
 |some (.mk 1 s n al kk u b)=>ks.dropLast++ [.mk 1 s n al kk (u++t) b]
 |_=>ks++ [charD t at_]
mutual
def elemP (fin:Nat):Nat->Nat->List Tok->Except PErr (Nd×List Tok)
 |0,_,_=> .error (fin,8)
 |_+1,_,[]=> .error (fin,8)
 |f+1,depth,t::r=>if 100<depth then .error (t.at_,9) else if t.empty then .ok (.mk 0 [] t.name t.attrs [] [] t.at_,r) else kidsP fin f depth t [] r
def kidsP (fin:Nat):Nat->Nat->Tok->List Nd->List Tok->Except PErr (Nd×List Tok)
 |0,_,_,_,_=> .error (fin,8)
 |_+1,_,_,_,[]=> .error (fin,8)
 |f+1,depth,t,ks,u::r=>
  if u.kind=2 then (if u.name≠t.name then .error (u.at_,14) else .ok (.mk 0 [] t.name t.attrs ks [] t.at_,r))
  else if u.kind=1 then match elemP fin f (depth+1) (u::r) with
   | .error x=> .error x
   | .ok (k,r')=>kidsP fin f depth t (ks++ [k]) r'
  else kidsP fin f depth t (addText ks u.text u.at_) r
end
def blankL (l:List UInt8):Bool:=l.all λc=>isSp c.toNat
def docGo (fin:Nat):Nat->Option Nd->List Tok->Except PErr Nd
 |0,_,_=> .error (fin,8)
 |_+1,none,[]=> .error (fin,8)
 |_+1,some n,[]=> .ok n
 |f+1,found,t::r=>
  if t.kind=1/\found.isSome then .error (t.at_,17)
  else if t.kind=2 then .error (t.at_,14)
  else if t.kind=3 then (if blankL t.text=false then .error (t.at_,7) else docGo fin f found r)
  else match elemP fin (2*(r.length+1)+2) 1 (t::r) with
   | .error x=> .error x
   | .ok (n,r')=>docGo fin f (some n) r'
def docP (s:List UInt8):Except PErr Nd:=
 match toksP s with
 | .error x=> .error x
 | .ok l=>docGo s.length (l.length+1) none l
def splitL (l:List UInt8):Option (List UInt8×List UInt8):=
 let p:=l.takeWhile λc=>c !=58
 if p.length<l.length then (if isNm p && isNm (l.drop (p.length+1)) then some (p,l.drop (p.length+1)) else none)
 else if isNm l then some ([],l) else none
def xmlnsL:List UInt8:= [120,109,108,110,115]
def xmlL:List UInt8:= [120,109,108]
def declL (name:List UInt8):Option (List UInt8):=
 match splitL name with
 |some (p,l)=>if p= []/\l=xmlnsL then some [] else if p=xmlnsL then some l else none
 |none=>none
def xmlSpaceL:List UInt8:= [104,116,116,112,58,47,47,119,119,119,46,119,51,46,111,114,103,47,88,77,76,47,49,57,57,56,47,110,97,109,101,115,112,97,99,101]
abbrev Scope:=List (List UInt8×List UInt8)
def lookL (sc:Scope) (p:List UInt8):Option (List UInt8):=
 if p=xmlL then some xmlSpaceL else match sc.reverse.find? λb=>decide (b.1=p) with
  |some b=>some b.2
  |none=>if p= [] then some [] else none
def declsGo:List AtP->Scope->Except PErr Scope
 | [],sc=> .ok sc
 |a::t,sc=>if (splitL a.name).isNone then .error (a.at_,13) else match declL a.name with
  |some d=>if d=xmlL\/d=xmlnsL\/(d≠ []/\a.value= []) then .error (a.at_,13) else declsGo t (sc++ [(d,a.value)])
  |none=>declsGo t sc
def attrsGo (sc:Scope):List AtP->List AtP->Except PErr (List AtP)
 | [],out=> .ok out
 |a::t,out=>if (declL a.name).isSome then attrsGo sc t out else
  let pl:=(splitL a.name).getD ([],[])
  match (if pl.1= [] then some [] else lookL sc pl.1) with
  |none=> .error (a.at_,13)
  |some sp=>if out.any λb=>b.space==sp && b.name==pl.2 then .error (a.at_,10) else attrsGo sc t (out++ [⟨sp,pl.2,a.value,a.at_⟩])
def headP (n:Nd) (sc:Scope):Except PErr (List UInt8×List UInt8×List AtP×Scope):=
 match splitL n.name with
 |none=> .error (n.at_,13)
 |some (p,l)=>if p=xmlnsL then .error (n.at_,13) else match declsGo n.attrs sc with
  | .error x=> .error x
  | .ok inner=>match lookL inner p with
   |none=> .error (n.at_,13)
   |some sp=>match attrsGo inner n.attrs [] with
    | .error x=> .error x
    | .ok al=> .ok (sp,l,al,inner)
mutual
def resP:Nd->Scope->Except PErr Nd
 | .mk k s n al ks t a,sc=>match headP (.mk k s n al ks t a) sc with
  | .error x=> .error x
  | .ok (sp,l,al',inner)=>match resKids ks inner with
   | .error x=> .error x
   | .ok ks'=> .ok (.mk 0 sp l al' ks' [] a)
def resKids:List Nd->Scope->Except PErr (List Nd)
 | [],_=> .ok []
 |k::t,sc=>match (if k.kind=0 then resP k sc else .ok k) with
  | .error x=> .error x
  | .ok k'=>match resKids t sc with
   | .error x=> .error x
   | .ok t'=> .ok (k'::t')
end
def treeP (s:List UInt8):Option Nd:=
 if 5000<s.length then none else match docP s with
  | .error _=>none
  | .ok n=>match resP n [] with
   | .error _=>none
   | .ok m=>some m
section
variable {f k m:Nat} {s:List UInt8}
theorem ZhM (h:k<s.length) (q:isSp (s[k].toNat)=true):spAt s k=spAt s (k+1):=by
 unfold spAt;rw[Zi h,Z9,Zh q,Zf];omega
theorem ZhN (h:k<s.length) (q:isSp (s[k].toNat)=false):spAt s k=k:=by
 unfold spAt;rw[Zi h,Z9,Ze (by rw[q];simp)];rfl
theorem Zi9 (h:s.length<=k):spAt s k=k:=by
 unfold spAt;rw[ZC h];rfl
theorem Ux (h:k<=s.length):spAt s k<=s.length:=by
 unfold spAt;have q:=(Yp (l:=s.drop k) (λc:UInt8=>isSp c.toNat)).length_le;rw[Zj] at q;omega
theorem U9 (s:List UInt8) (k:Nat):k<=spAt s k:=Nat.le_add_right _ _
theorem ZcZ (n:Nat) (l:List UInt8) (m:Nat) (h:n<m):∀i,i<=n->acc (n+1) (l.take m) i=acc (n+1) l i
 |0,_=>by unfold acc;rw[Yk,Yk,List.getElem?_take_of_lt (by omega)]
 |i+1,hi=>by
  unfold acc
  rw[ZcZ n l m h i (by omega),Yk,Yk,List.getElem?_take_of_lt (by omega)]
theorem EV:∀(k n:Nat) (l:List UInt8),(refFrom k n l).2<=l.length
 |0,n,l=>Zk _
 |k+1,n,l=>by
  unfold refFrom
  split
  ·split
   ·rename_i h _;exact h.2
   ·exact EV k (n+1) l
  ·exact Zk _
theorem Km (l:List UInt8):∀(k n:Nat),1<=n->(refFrom k n l).2≠0->n<=(refFrom k n l).2/\∀K,(refFrom k n l).2<=K->refFrom k n (l.take K)=refFrom k n l
 |0,n,_,h=>by simp[refFrom] at h
 |k+1,n,hn,h=>by
  unfold refFrom at h|-
  by_cases D:n<=4/\n<=l.length
  ·rw[Zh D] at h|-
   have A:∀K,n<=K->acc n (l.take K) (n - 1)=acc n l (n - 1):=λK hK=>by
    obtain ⟨m,rfl⟩:∃m,n=m+1:=⟨n - 1,by omega⟩
    exact ZcZ m l K (by omega) _ (by omega)
   by_cases F:encN (acc n l (n - 1))=l.take n
   ·rw[Zh F] at h|-
    refine ⟨Zb _,λK hK=> ?_⟩
    have q:n<=K:=hK
    rw[Zh ⟨D.1,by rw[ZD];omega⟩,A K q,List.take_take,Nat.min_eq_left q,Zh F]
   ·rw[Ze F] at h|-
    obtain ⟨I,H⟩:=Km l k (n+1) (by omega) h
    refine ⟨by omega,λK hK=> ?_⟩
    have q:n<=K:=(by omega)
    have J:=EV k (n+1) l
    rw[Zh ⟨D.1,by rw[ZD];omega⟩,A K q,List.take_take,Nat.min_eq_left q,Ze F]
    exact H K hK
  ·rw[Ze D] at h
   exact absurd rfl h
theorem Zbc {l:List UInt8} (h:(dec l).2≠0) (A:(dec l).2<=m):dec (l.take m)=dec l:=by
 have D:l≠ []:=λe=>by rw[e] at h;exact h rfl
 have e1:=Q1 l D;have F:=Up l;have q:l.take m≠ []:=λe=>by have:=Zz List.length e;rw[ZD,ZK] at this;omega
 have e2:=Q1 (l.take m) q;rw[<-e1] at h A;rw[<-e2,<-e1];exact (Km l 4 1 (Zb _) h).2 m A
inductive NmPre (c:Bool):Bool->List UInt8->Nat->Prop where
 |zero (first:Bool) (l:List UInt8):NmPre c first l 0
 |step {first:Bool} {l:List UInt8} {k:Nat} (h0:(dec l).2≠0) (hok:nmOk c first (dec l).1=true) (t:NmPre c false (l.drop (dec l).2) k):NmPre c first l ((dec l).2+k)
theorem Un (c:Bool) (f:Nat) (first:Bool):nmGo c f first []=0:=by cases f<;>simp[nmGo]
theorem Vp {c first:Bool} {l:List UInt8} (h:(dec l).2≠0) (q:nmOk c first (dec l).1=true):nmGo c (f+1) first l=(dec l).2+nmGo c f false (l.drop (dec l).2):=by
 have A:l≠ []:=λe=>by rw[e] at h;exact h rfl
 rw[nmGo,Ze (by simp[A,h,q])]
theorem Jl {c first:Bool} {l:List UInt8} (h:l= []\/(dec l).2=0\/nmOk c first (dec l).1=false):nmGo c f first l=0:=by
 cases f with
 |zero=>rfl
 |succ f=>rw[nmGo,Zh h]
theorem KV (c:Bool):∀(n m:Nat) (first:Bool) (l:List UInt8),l.length<=n->l.length<=m->nmGo c n first l=nmGo c m first l
 |0,m,first,l,h,_=>by
  have D:l= []:=Zw (by omega)
  subst D
  rw[Un,Un]
 |n+1,0,first,l,_,h=>by
  have D:l= []:=Zw (by omega)
  subst D
  rw[Un,Un]
 |n+1,m+1,first,l,h1,h2=>by
  by_cases A:l= []\/(dec l).2=0\/nmOk c first (dec l).1=false
  ·rw[Jl A,Jl A]
  ·have q:(dec l).2≠0/\nmOk c first (dec l).1=true:=⟨λe=>A (Or.inr (Or.inl e)),by
    cases h:nmOk c first (dec l).1 with
    |true=>rfl
    |false=>exact absurd (Or.inr (Or.inr h)) A⟩
   rw[Vp q.1 q.2,Vp q.1 q.2,KV c n m false _ (by rw[Zj];omega) (by rw[Zj];omega)]
theorem NmPre.go {c:Bool}:∀{first:Bool} {l:List UInt8} {k:Nat},NmPre c first l k->k<=l.length/\nmGo c l.length first l=k+nmGo c l.length (first && decide (k=0)) (l.drop k)
 |first,l,_,.zero _ _=>⟨Zk _,by simp⟩
 |first,l,_,.step (k:=k) h0 hok t=>by
  obtain ⟨q,A⟩:=t.go
  have F:=Up l
  rw[Zj] at q
  have h:l.length=(l.length - 1)+1:=by omega
  refine ⟨by omega,?_⟩
  have e1:nmGo c l.length first l=(dec l).2+nmGo c (l.length - 1) false (l.drop (dec l).2):=by
   rw[h]
   exact Vp h0 hok
  rw[e1,KV c (l.length - 1) (l.drop (dec l).2).length false _ (by rw[Zj];omega) (Zb _),A,List.drop_drop]
  have D:(first && decide ((dec l).2+k=0))=(false && decide (k=0)):=by
   rw[YG (show ¬(dec l).2+k=0 by omega)]
   simp
  rw[D,KV c (l.drop (dec l).2).length l.length _ (l.drop ((dec l).2+k)) (by rw[Zj,Zj];omega) (by rw[Zj];omega)]
  omega
theorem NmPre.cut {c:Bool}:∀{first:Bool} {l:List UInt8} {k:Nat},NmPre c first l k->∀m,k<=m->NmPre c first (l.take m) k
 |first,l,_,.zero _ _,m,_=> .zero _ _
 |first,l,_,.step (k:=k) h0 hok t,m,hm=>by
  have h:dec (l.take m)=dec l:=Zbc h0 (by omega)
  have:=NmPre.step (c:=c) (first:=first) (l:=l.take m) (k:=k) (by rw[h];exact h0) (by rw[h];exact hok) (by rw[h,List.drop_take];exact t.cut (m - (dec l).2) (by omega))
  rw[h] at this
  exact this
theorem ZjS {l:List UInt8} (h:NmPre true true l k) (F:0<k):isQ (l.take k)=true:=by
 have A:=(h.cut k (Zb _)).go;have H:=h.go.1;unfold isQ nmLen;have q:(l.take k).length=k:=by rw[ZD];omega
 rw[q] at A;have D:nmGo true k true (l.take k)=k:=by rw[A.2,ZC (by rw[q];exact Zb _),Un];rfl
 rw[q,D];simpa using F
theorem ZjT {l:List UInt8} (h:NmPre true true l k) (F:(dec (l.drop k)).2≠0) (D:nmOk true (decide (k=0)) (dec (l.drop k)).1=false):isQ (l.take (k+(dec (l.drop k)).2))=false:=by
 obtain ⟨n,J⟩:∃n,(dec (l.drop k)).2=n:=⟨_,rfl⟩;have A:=Up (l.drop k);rw[Zj] at A;have H:=(h.cut (k+n) (Nat.le_add_right _ _)).go;have I:(l.take (k+n)).length=k+n:=by rw[ZD];omega
 rw[I] at H;rw[J];have M:(l.take (k+n)).drop k=(l.drop k).take n:=by rw[List.drop_take,Nat.add_sub_cancel_left]
 have q:dec ((l.drop k).take n)=dec (l.drop k):=Zbc F (by omega);have K:nmGo true (k+n) true (l.take (k+n))=k:=by rw[H.2,M,Jl (Or.inr (Or.inr (by rw[q];simpa using D)))];rfl
 unfold isQ nmLen;rw[I,K];have:n≠0:=by rw[<-J];exact F
 rw[YG (by omega)]
end
section
variable {i k:Nat} {s t:List UInt8}
theorem Jd {l:List UInt8}:t.isPrefixOf l=true↔l.take t.length=t:=by
 rw[List.isPrefixOf_iff_prefix];exact ⟨λh=>(Xh.1 h).symm,λh=>Xh.2 h.symm⟩
theorem Ev (h:s.length<k+t.length) (A:t≠ []):hasAt s k t=false:=by
 unfold hasAt;cases hp:t.isPrefixOf (s.drop k) with
 |false=>rfl
 |true=>have q:=Zz List.length (Jd.1 hp);have D:0<t.length:=Jm.2 A;rw[ZD,Zj] at q;omega
theorem ZdG (s t:List UInt8) (k:Nat):hasAt s k t=((s.drop k).take t.length==t):=by
 unfold hasAt;cases hp:t.isPrefixOf (s.drop k) with
 |true=>rw[Jd.1 hp];simp
 |false=>
  have:(s.drop k).take t.length≠t:=λe=>by rw[Jd.2 e] at hp;cases hp
  simp[this]
theorem Ze5 (h:k<s.length) (q:hasAt s k t=true):findAt s k t=some k:=by
 unfold findAt;unfold hasAt at q;rw[Zi h] at q|-;rw[findIn,Zh q]
theorem Il (h:k<s.length) (q:hasAt s k t=false):findAt s k t=findAt s (k+1) t:=by
 unfold findAt;unfold hasAt at q;rw[Zi h] at q|-;rw[findIn,Ze (by rw[q];simp)]
theorem Im (A:t≠ []):∀(l:List UInt8) (k:Nat),l.length<t.length->findIn t l k=none
 | [],k,_=>by rw[findIn,Ze A]
 |c::r,k,h=>by
  have q:t.isPrefixOf (c::r)=false:=by
   cases q:t.isPrefixOf (c::r) with
   |false=>rfl
   |true=>
    have D:=Zz List.length (Jd.1 q)
    rw[ZD] at D
    omega
  rw[findIn,Ze (by rw[q];simp)]
  exact Im A r (k+1) (by rw[Zf] at h;omega)
theorem Ze4 (q:t≠ []) (h:s.length<k+t.length):findAt s k t=none:=
 Im q _ _ (by have:=Jm.2 q;rw[Zj];omega)
theorem Zbl:∀(l:List UInt8) (k i:Nat),findIn t l k=some i->k<=i/\i+t.length<=k+l.length
 | [],k,i,h=>by
  rw[findIn] at h
  split at h
  ·rename_i e
   injection h with h
   subst h e
   simp
  ·cases h
 |c::r,k,i,h=>by
  rw[findIn] at h
  split at h
  ·rename_i e
   injection h with h
   subst h
   have q:=Zz List.length (Jd.1 e)
   rw[ZD] at q
   exact ⟨Zb _,by omega⟩
  ·have:=Zbl r (k+1) i h
   rw[Zf]
   exact ⟨by omega,by omega⟩
theorem KO (q:k<=s.length) (h:findAt s k t=some i):k<=i/\i+t.length<=s.length:=by
 have:=Zbl _ _ _ h;rw[Zj] at this;exact ⟨this.1,by omega⟩
theorem ZiH (h:k+1<s.length) (q:s[k]=13) (A:s[k+1]=10):lns (s.drop k)=lns (s.drop (k+1)):=by
 rw[Zi (show k<s.length by omega),Zi h,lns,Zh ⟨q,A⟩]
theorem KR (h:k<s.length) (A:∀q:k+1<s.length,¬(s[k]=13/\s[k+1]=10)):lns (s.drop k)=(if s[k]=13 then 10 else s[k])::lns (s.drop (k+1)):=by
 rw[Zi h];by_cases q:k+1<s.length
 ·rw[Zi q,lns,Ze (A q)]
 ·rw[ZC (by omega)];rfl
theorem ZjW (h:s.length<=k):lns (s.drop k)= []:=by
 rw[ZC h];rfl
theorem Ke:∀l:List UInt8,(lns l).length<=l.length
 | []=>Zb _
 | [c]=>Zb _
 |c::d::r=>by
  have h:=Ke (d::r)
  rw[lns]
  split
  ·rw[Zf (a:=c)];omega
  ·rw[Zf,Zf (a:=c)];omega
end
section
variable {i r:Nat} {s:List UInt8}
theorem Kk {e:Nat} (h:refAt s i=some (r,e)):i+2<=e/\e<=s.length:=by
 unfold refAt at h;dsimp only at h;split at h
 ·split at h
  ·rename_i q;have A:(s.drop i).length=s.length - i:=Zj;split at h
   ·split at h
    ·injection h with h;injection h with h2 h3;subst h3;omega
    ·cases h
   ·cases h
  ·cases h
 ·cases h
def plainAt (s:List UInt8) (tz i:Nat):List UInt8:=((s.take tz).drop i).takeWhile λc=>c !=38
theorem U6 {q:Nat} (H:i<q) (I:q<=s.length) (h:(s.drop i).head?≠some 38):0<(plainAt s q i).length:=by
 unfold plainAt;have A:i<(s.take q).length:=by rw[ZD];omega
 have D:i<s.length:=by omega
 rw[Zi A,Z9,List.getElem_take];rw[Zi D,JX] at h;have F:s[i]≠38:=λe=>h (by rw[e]);rw[Zh (by simpa using F)];simp
theorem U2 (value:Bool) (s:List UInt8) (q:Nat) (F:q<=s.length):∀(f g i:Nat) (out:List UInt8),q - i<f->q - i<g->contGo value s q f i out=contGo value s q g i out
 |0,_,_,_,h,_=>by omega
 |_+1,0,_,_,_,h=>by omega
 |f+1,g+1,i,out,h1,h2=>by
  unfold contGo
  by_cases D:q<=i
  ·rw[Zh D,Zh D]
  ·rw[Ze D,Ze D]
   by_cases A:(s.drop i).head? =some 38
   ·rw[Zh A,Zh A]
    cases hr:refAt (s.take q) i with
    |none=>rfl
    |some x=>
     obtain ⟨r,e⟩:=x
     have:=Kk hr
     exact U2 value s q F f g e _ (by omega) (by omega)
   ·rw[Ze A,Ze A]
    have H:=U6 (by omega) F A
    exact U2 value s q F f g (i+(plainAt s q i).length) _ (by omega) (by omega)
def contAt (value:Bool) (s:List UInt8) (tz i:Nat) (out:List UInt8):Except PErr (List UInt8):=contGo value s tz (tz - i+1) i out
theorem I9 {value:Bool} {q:Nat} {out:List UInt8} (h:q<=i):contAt value s q i out= .ok out:=by
 unfold contAt contGo;rw[Zh h]
theorem Ea {value:Bool} {h e:Nat} {out:List UInt8} (D:h<=s.length) (F:i<h) (A:(s.drop i).head? =some 38) (q:refAt (s.take h) i=some (r,e)):contAt value s h i out=contAt value s h e (out++encN r):=by
 have:=Kk q;unfold contAt;rw[contGo,Ze (by omega),Zh A,q];exact U2 value s h D _ _ _ _ (by omega) (by omega)
theorem ZeZ {value:Bool} {h:Nat} {out:List UInt8} (D:i<h) (q:(s.drop i).head? =some 38) (A:refAt (s.take h) i=none):contAt value s h i out= .error (i,12):=by
 unfold contAt;rw[contGo,Ze (by omega),Zh q,A]
theorem G0 {value:Bool} {h:Nat} {out:List UInt8} (A:h<=s.length) (D:i<h) (q:(s.drop i).head?≠some 38):
 contAt value s h i out=contAt value s h (i+(plainAt s h i).length) (out++(if value then spaced (lns (plainAt s h i)) else lns (plainAt s h i))):=by
 have F:=U6 D A q;unfold plainAt at F|-;unfold contAt;rw[contGo,Ze (by omega),Ze q];exact U2 value s h A _ _ _ _ (by omega) (by omega)
theorem Zdd (value:Bool) (s:List UInt8) (from_ h:Nat):contP value s from_ h=contAt value s h from_ []:=rfl
end
section
variable {c f k:Nat} {nm s t:List UInt8}
theorem Zcn (c:Bool):∀(f:Nat) (first:Bool) (l:List UInt8),nmGo c f first l<=l.length
 |0,_,_=>Zk _
 |f+1,first,l=>by
  rw[nmGo]
  split
  ·exact Zk _
  ·have q:=Up l
   have h:=Zcn c f false (l.drop (dec l).2)
   rw[Zj] at h
   omega
theorem U5 (h:k<=s.length):k<=nmAt s k/\nmAt s k<=s.length:=by
 unfold nmAt nmLen;have:=Zcn true (s.drop k).length true (s.drop k);rw[Zj] at this;rw[Zj];omega
theorem Xt (h:hasAt s k t=true):k+t.length<=s.length\/t= []:=by
 by_cases q:t= []
 ·exact Or.inr q
 ·refine Or.inl (Nat.le_of_not_lt λA=> ?_);rw[Ev A q] at h;cases h
theorem J3 {c:UInt8} (h:hasAt s k [c]=true):∃A:k<s.length,s[k]=c:=by
 rcases Xt h with q|q
 ·have A:k<s.length:=q;refine ⟨A,?_⟩;rw[ZdG,Zi A] at h;have D: [s[k]]= [c]:=eq_of_beq h;injection D
 ·cases q
theorem XO (value:Bool) (s:List UInt8) (z:Nat):∀(f i:Nat) (out:List UInt8) (x c:Nat),contGo value s z f i out= .error (x,c)->c=12
 |0,_,_,_,_,h=>by rw[contGo] at h;cases h
 |f+1,i,out,x,c,h=>by
  rw[contGo] at h
  split at h
  ·cases h
  ·split at h
   ·split at h
    ·exact XO value s z f _ _ x c h
    ·injection h with h
     injection h with _ h
     exact h.symm
   ·exact XO value s z f _ _ x c h
theorem Q0 (s:List UInt8) (f k:Nat):(missP s f k).2=7\/(missP s f k).2=8:=by
 unfold missP;split
 ·exact Or.inr rfl
 ·exact Or.inl rfl
theorem Qn {e:Nat} {a:AtP} (I:k<=s.length) (h:attrP s f k= .ok (a,e)):k<e/\e<=s.length/\a.at_=k/\a.space= []:=by
 unfold attrP at h;dsimp only at h;have J:=U5 I;split at h
 ·cases h
 ·split at h
  ·cases h
  ·rename_i H;have q:=Xt (t:= [61]) (by simpa using H);have A:spAt s (nmAt s k)+1<=s.length:=by
    rcases q with q|q
    ·exact q
    ·cases q
   split at h
   ·cases h
   ·have K:=Ux A;split at h
    ·cases h
    ·split at h
     ·cases h
     ·split at h
      ·cases h
      ·rename_i M _;injection h with h;injection h with ha he;subst he;refine ⟨?_,?_,by rw[<-ha],by rw[<-ha]⟩
       ·have:=U9 s (nmAt s k);have:=U9 s (spAt s (nmAt s k)+1);omega
       ·have D:=(Yp (λd:UInt8=>d !=(List.drop (spAt s (spAt s (nmAt s k)+1)) s).headD 0 && d !=60) (l:=s.drop (spAt s (spAt s (nmAt s k)+1)+1))).length_le;rw[Zj] at D;have Q:spAt s (spAt s (nmAt s k)+1)+1<=s.length:=by
         rename_i F _ _ _ _;rcases hb:hasAt s (spAt s (spAt s (nmAt s k)+1)) [34] with _|_
         ·rcases hb2:hasAt s (spAt s (spAt s (nmAt s k)+1)) [39] with _|_
          ·exact absurd ⟨hb,hb2⟩ F
          ·exact (J3 hb2).1
         ·exact (J3 hb).1
        omega
theorem Za3 {x:Nat} (h:attrP s f k= .error (x,c)):c≠0:=by
 have q:∀a b:Nat,(missP s a b)=(x,c)->c≠0:=λa b e=>by have:=Q0 s a b;rw[e] at this;omega
 unfold attrP at h;dsimp only at h;split at h
 ·injection h with h;exact q _ _ h
 ·split at h
  ·injection h with h;exact q _ _ h
  ·split at h
   ·injection h with h;exact q _ _ h
   ·split at h
    ·rename_i y A;obtain ⟨y1,y2⟩:=y;have:=XO _ _ _ _ _ _ _ _ A;injection h with h;injection h with _ h;omega
    ·split at h
     ·injection h with h;injection h with _ h;omega
     ·split at h
      ·injection h with h;injection h with _ h;omega
      ·cases h
theorem V4 (s:List UInt8) (f:Nat) (nm:List UInt8):∀(n m k:Nat) (al:List AtP),k<=s.length->s.length - k<n->s.length - k<m->startGo s f nm n k al=startGo s f nm m k al
 |0,_,_,_,_,h,_=>by omega
 |_+1,0,_,_,_,_,h=>by omega
 |n+1,m+1,k,al,hk,h1,h2=>by
  unfold startGo
  dsimp only
  split
  ·rfl
  ·split
   ·rfl
   ·split
    ·rfl
    ·split
     ·rfl
     ·cases ha:attrP s f (spAt s k) with
      |error x=>rfl
      |ok ae=>
       obtain ⟨a,e⟩:=ae
       have q:=Qn (Ux hk) ha
       have A:=U9 s k
       dsimp only
       split
       ·rfl
       ·exact V4 s f nm n m e _ q.2.1 (by omega) (by omega)
def startAt (s:List UInt8) (f:Nat) (nm:List UInt8) (k:Nat) (al:List AtP):Except PErr (Tok×Nat):=startGo s f nm (s.length - k+1) k al
theorem JB (s:List UInt8) (f:Nat) (nm:List UInt8) (k:Nat) (al:List AtP) (q:k<=s.length):startAt s f nm k al=
 if hasAt s (spAt s k) [62] then .ok (⟨1,nm,al,false,[],f⟩,spAt s k+1)
 else if hasAt s (spAt s k) [47,62] then .ok (⟨1,nm,al,true,[],f⟩,spAt s k+2)
 else if hasAt s (spAt s k) [47] then .error (missP s f (spAt s k+1))
 else if spAt s k=k then .error (missP s f k)
 else match attrP s f (spAt s k) with
  | .error x=> .error x
  | .ok (a,e)=>if al.any λb=>b.name==a.name then .error (a.at_,10) else startAt s f nm e (al++ [a]):=by
 unfold startAt;rw[startGo];(try dsimp only);split
 ·rfl
 ·split
  ·rfl
  ·split
   ·rfl
   ·split
    ·rfl
    ·cases ha:attrP s f (spAt s k) with
     |error x=>rfl
     |ok ae=>
      obtain ⟨a,e⟩:=ae;have h:=Qn (Ux q) ha;have A:=U9 s k;dsimp only;split
      ·rfl
      ·exact V4 s f nm _ _ e _ h.2.1 (by omega) (by omega)
theorem Vt (s:List UInt8) (f:Nat) (q:f+1<=s.length):startP s f=if nmAt s (f+1)=f+1 then .error (missP s f (nmAt s (f+1))) else startAt s f ((s.drop (f+1)).take (nmAt s (f+1) - (f+1))) (nmAt s (f+1)) []:=by
 have h:=U5 q;unfold startP;dsimp only;split
 ·rfl
 ·exact V4 s f _ _ _ _ _ h.2 (by omega) (by omega)
theorem IB:∀(n k:Nat) (al:List AtP) (x c:Nat),s.length - k<n->k<=s.length->startAt s f nm k al= .error (x,c)->c≠0
 |0,_,_,_,_,h,_,_=>by omega
 |n+1,k,al,x,c,hn,hk,h=>by
  have A:∀a b:Nat,(missP s a b)=(x,c)->c≠0:=λa b e=>by
   have:=Q0 s a b
   rw[e] at this
   omega
  rw[JB s f nm k al hk] at h
  split at h
  ·cases h
  ·split at h
   ·cases h
   ·split at h
    ·injection h with h;exact A _ _ h
    ·split at h
     ·injection h with h;exact A _ _ h
     ·split at h
      ·rename_i y q
       obtain ⟨y1,y2⟩:=y
       have:=Za3 q
       injection h with h
       injection h with _ h
       omega
      ·rename_i a e q
       split at h
       ·injection h with h;injection h with _ h;omega
       ·have D:=Qn (Ux hk) q
        have F:=U9 s k
        exact IB n e _ x c (by omega) D.2.1 h
end
section
variable {c f k n:Nat} {nm s:List UInt8}
theorem Zig (r:Nat):(encN r).length<=4:=by
 unfold encN
 (repeat' split)<;>simp
theorem Gz (value:Bool) (s:List UInt8) (z:Nat) (A:z<=s.length):∀(f i:Nat) (out v:List UInt8),contGo value s z f i out= .ok v->v.length<=out.length+2*(z - i)
 |0,i,out,v,h=>by
  rw[contGo] at h
  injection h with h
  rw[<-h]
  omega
 |f+1,i,out,v,h=>by
  rw[contGo] at h
  split at h
  ·injection h with h
   rw[<-h]
   omega
  ·rename_i M
   split at h
   ·split at h
    ·rename_i r e K
     have D:=Kk K
     rw[ZD] at D
     have q:=Gz value s z A f e _ v h
     rw[Zc] at q
     have:=Zig r
     omega
    ·cases h
   ·rename_i I
    have J:=U6 (by omega) A I
    have q:=Gz value s z A f _ _ v h
    have F:(if value then spaced (lns (plainAt s z i)) else lns (plainAt s z i)).length<=(plainAt s z i).length:=by
     split
     ·unfold spaced
      rw[Zs]
      exact Ke _
     ·exact Ke _
    have H:(plainAt s z i).length<=z - i:=by
     unfold plainAt
     have:=(Yp (λc:UInt8=>c !=38) (l:=(s.take z).drop i)).length_le
     rw[Zj,ZD] at this
     omega
    rw[Zc] at q
    unfold plainAt at F H J
    omega
theorem Zbb {value:Bool} {v:List UInt8} {a z:Nat} (q:z<=s.length) (h:contP value s a z= .ok v):v.length<=2*(z - a):=by
 have:=Gz value s z q _ _ _ _ h;simpa using this
def AtP.fits (n:Nat) (a:AtP):Prop:=a.space.length<=2*n/\a.name.length<=n/\a.value.length<=2*n/\a.at_<=n
theorem ZeR {e:Nat} {a:AtP} (F:k<=s.length) (h:attrP s f k= .ok (a,e)):a.fits s.length:=by
 unfold attrP at h;dsimp only at h;split at h
 ·cases h
 ·split at h
  ·cases h
  ·split at h
   ·cases h
   ·split at h
    ·cases h
    ·split at h
     ·cases h
     ·split at h
      ·cases h
      ·rename_i v q H _;injection h with h;injection h with ha he;subst ha;refine ⟨by simp,?_,?_,F⟩
       ·show (List.take _ (List.drop _ s)).length<=_;rw[ZD,Zj];omega
       ·have A:=(Yp (λd:UInt8=>d !=(List.drop (spAt s (spAt s (nmAt s k)+1)) s).headD 0 && d !=60) (l:=s.drop (spAt s (spAt s (nmAt s k)+1)+1))).length_le;rw[Zj] at A;show v.length<=_;by_cases I:spAt s (spAt s (nmAt s k)+1)+1<=s.length
        ·have:=Zbb (by omega) q;omega
        ·have D:s.drop (spAt s (spAt s (nmAt s k)+1)+1)= []:=List.drop_eq_nil_of_le (by omega);rw[D] at q;unfold contP contGo at q;rw[Zh (by simp)] at q;injection q with q;rw[<-q];simp
structure Tok.fits (n:Nat) (t:Tok):Prop where
 name:t.name.length<=n
 cnt:t.attrs.length<=n
 attrs:∀a∈t.attrs,a.fits n
 at_:t.at_<=n
theorem Zac (q:nm.length<=s.length) (F:f<=s.length):∀(n k:Nat) (al:List AtP) (t:Tok) (e:Nat),s.length - k<n->k<=s.length->al.length<=k->(∀a∈al,a.fits s.length)->
 startAt s f nm k al= .ok (t,e)->k<e/\e<=s.length/\t.fits s.length/\t.kind=1/\t.text= []
 |0,_,_,_,_,h,_,_,_,_=>by omega
 |n+1,k,al,t,e,hn,hk,hal,hfit,h=>by
  have I:=Ux (s:=s) hk;have R:=U9 s k;rw[JB s f nm k al hk] at h;split at h
  ·rename_i H;injection h with h;injection h with h1 h2;subst h1;obtain ⟨A,_⟩:=J3 H;exact ⟨by omega,by omega,⟨q,Zu hal hk,hfit,F⟩,rfl,rfl⟩
  ·split at h
   ·rename_i H;injection h with h;injection h with h1 h2;subst h1;rcases Xt H with A|A
    ·have K:spAt s k+2<=s.length:=A;exact ⟨by omega,by omega,⟨q,Zu hal hk,hfit,F⟩,rfl,rfl⟩
    ·cases A
   ·split at h
    ·cases h
    ·split at h
     ·cases h
     ·split at h
      ·cases h
      ·rename_i a e2 J;split at h
       ·cases h
       ·have A:=Qn I J;have M:=ZeR I J;have Q:=Zac q F n e2 _ t e (by omega) A.2.1 (by rw[Zc];show _+1<=_;omega) (by
         intro b D;rcases Zt.1 D with D|D
         ·exact hfit b D
         ·rw[Zo] at D;rw[D];exact M) h
        exact ⟨by omega,Q.2⟩
theorem ZhO {t:Tok} {e:Nat} (q:f+1<=s.length) (h:startP s f= .ok (t,e)):f<e/\e<=s.length/\t.fits s.length/\t.kind=1/\t.text= []:=by
 have A:=U5 q;rw[Vt s f q] at h;split at h
 ·cases h
 ·have:=Zac (by rw[ZD,Zj];omega) (by omega) _ _ _ t e (YK _) A.2 (Zk _) (by intro a D;cases D) h;exact ⟨by omega,this.2⟩
theorem ZfM {x:Nat} (q:f+1<=s.length) (h:startP s f= .error (x,c)):c≠0:=by
 have A:=U5 q;rw[Vt s f q] at h;split at h
 ·have:=Q0 s f (nmAt s (f+1));injection h with h;rw[h] at this;omega
 ·exact IB _ _ _ x c (YK _) A.2 h
theorem ZjM {t:Tok} {e:Nat} (A:f+2<=s.length) (h:endP s f= .ok (t,e)):f<e/\e<=s.length/\t.fits s.length/\t.kind=2/\t.text= []:=by
 have F:=U5 A;unfold endP at h;dsimp only at h;split at h
 ·split at h
  ·rename_i D;injection h with h;injection h with h2 h3;subst h2;obtain ⟨H,_⟩:=J3 D;have I:=U9 s (nmAt s (f+2));exact ⟨by omega,by omega,⟨by show (List.take _ (List.drop _ s)).length<=_;rw[ZD,Zj];omega,Zk _,(by intro a q;cases q),by show f<=_;omega⟩,rfl,rfl⟩
  ·cases h
 ·cases h
theorem Zii {x:Nat} (h:endP s f= .error (x,c)):c≠0:=by
 have q:∀a b:Nat,(missP s a b)=(x,c)->c≠0:=λa b e=>by have:=Q0 s a b;rw[e] at this;omega
 unfold endP at h;dsimp only at h;split at h
 ·split at h
  ·cases h
  ·injection h with h;exact q _ _ h
 ·injection h with h;exact q _ _ h
theorem Kt {e:Nat} {l:List UInt8} (q:f+n<=s.length) (h:skipP s f n l= .ok e):f+n+l.length<=e/\e<=s.length:=by
 unfold skipP at h;split at h
 ·cases h
 ·rename_i i A;have:=KO q A;injection h with h;omega
theorem UJ {x:Nat} {l:List UInt8} (h:skipP s f n l= .error (x,c)):c=8/\x=f:=by
 unfold skipP at h;split at h
 ·injection h with h;injection h with h1 h2;exact ⟨h2.symm,h1.symm⟩
 ·cases h
theorem VI (t:List UInt8) (h:k<=n):(dataT t k).fits n:=⟨Zk _,Zk _,(by intro a q;cases q),h⟩
theorem En {c:UInt8} (q:f<s.length) (A:hasAt s f [c]=false):f<(findAt s f [c]).getD s.length/\(findAt s f [c]).getD s.length<=s.length:=by
 rw[Il q A];cases h:findAt s (f+1) [c] with
 |none=>exact ⟨q,Zb _⟩
 |some i=>have:=KO (by omega) h;show f<i/\i<=_;have D:=this.2;omega
theorem XN {t:Tok} {e:Nat} (J:f<s.length) (h:constructP s f= .ok (t,e)):
 f<e/\e<=s.length/\t.fits s.length/\t.text.length<=2*(e - f)/\(t.kind=1\/t.kind=2\/t.kind=3):=by
 unfold constructP at h;split at h
 ·rename_i D;split at h
  ·cases h
  ·rename_i I F;injection h with h;injection h with h1 h2;subst h1;subst h2;have q:f+2<=s.length:=(by rcases Xt D with q|q;exact q;cases q);have A:=Kt q F;exact ⟨by omega,A.2,VI _ (Zk _),Zk _,Or.inr (Or.inr rfl)⟩
 ·split at h
  ·rename_i D;split at h
   ·cases h
   ·rename_i I F;injection h with h;injection h with h1 h2;subst h1;subst h2;have q:f+4<=s.length:=(by rcases Xt D with q|q;exact q;cases q);have A:=Kt q F;exact ⟨by omega,A.2,VI _ (Zk _),Zk _,Or.inr (Or.inr rfl)⟩
  ·split at h
   ·rename_i D;split at h
    ·cases h
    ·rename_i I F;injection h with h;injection h with h1 h2;subst h1;subst h2;have q:f+9<=s.length:=(by rcases Xt D with q|q;exact q;cases q);have A:=Kt q F;refine ⟨by omega,A.2,VI _ (by omega),?_,Or.inr (Or.inr rfl)⟩;show (lns _).length<=_;have:=Ke ((s.drop (f+9)).take (I - 3 - (f+9)));rw[ZD] at this;omega
   ·split at h
    ·cases h
    ·split at h
     ·cases h
     ·split at h
      ·rename_i D;have q:f+2<=s.length:=(by rcases Xt D with q|q;exact q;cases q);have A:=ZjM q h;exact ⟨A.1,A.2.1,A.2.2.1,by rw[A.2.2.2.2];exact Zk _,Or.inr (Or.inl A.2.2.2.1)⟩
      ·split at h
       ·have A:=ZhO J h;exact ⟨A.1,A.2.1,A.2.2.1,by rw[A.2.2.2.2];exact Zk _,Or.inl A.2.2.2.1⟩
       ·rename_i D;have H:=En J (by simpa using D);dsimp only at h;split at h
        ·cases h
        ·rename_i v M;injection h with h;injection h with h1 h2;subst h1;have K:=Zbb H.2 M;rw[h2] at H K;exact ⟨H.1,H.2,VI _ (by omega),K,Or.inr (Or.inr rfl)⟩
theorem UN {x:Nat} (A:f<s.length) (h:constructP s f= .error (x,c)):c≠0:=by
 unfold constructP at h;split at h
 ·split at h
  ·rename_i y q;obtain ⟨y1,y2⟩:=y;have:=UJ q;injection h with h;injection h with _ h;omega
  ·cases h
 ·split at h
  ·split at h
   ·rename_i y q;obtain ⟨y1,y2⟩:=y;have:=UJ q;injection h with h;injection h with _ h;omega
   ·cases h
  ·split at h
   ·split at h
    ·rename_i y q;obtain ⟨y1,y2⟩:=y;have:=UJ q;injection h with h;injection h with _ h;omega
    ·cases h
   ·split at h
    ·injection h with h;injection h with _ h;omega
    ·split at h
     ·injection h with h;injection h with _ h;omega
     ·split at h
      ·exact Zii h
      ·split at h
       ·exact ZfM A h
       ·dsimp only at h;split at h
        ·rename_i y q;obtain ⟨y1,y2⟩:=y;have:=XO _ _ _ _ _ _ _ _ q;injection h with h;injection h with _ h;omega
        ·cases h
theorem QM (s:List UInt8):∀(n m k:Nat) (l:List Tok),s.length - k<n->s.length - k<m->toksGo s n k l=toksGo s m k l
 |0,_,_,_,h,_=>by omega
 |_+1,0,_,_,_,h=>by omega
 |n+1,m+1,k,l,h1,h2=>by
  unfold toksGo
  split
  ·rfl
  ·cases hc:constructP s k with
   |error x=>rfl
   |ok te=>
    obtain ⟨t,e⟩:=te
    have:=XN (by omega) hc
    exact QM s n m e _ (by omega) (by omega)
def keeps (t:Tok):Prop:=t.kind≠3\/t.text≠ []
instance (t:Tok):Decidable (keeps t):=inferInstanceAs (Decidable (_\/_))
def toksAt (s:List UInt8) (k:Nat) (l:List Tok):Except PErr (List Tok):=toksGo s (s.length - k+1) k l
theorem UX {l:List Tok} (h:s.length<=k):toksAt s k l= .ok l:=by
 unfold toksAt toksGo;rw[Zh h]
theorem Uo {e:Nat} {l:List Tok} {t:Tok} (h:k<s.length) (q:constructP s k= .ok (t,e)):toksAt s k l=toksAt s e (if keeps t then l++ [t] else l):=by
 have:=XN h q;unfold toksAt;rw[toksGo,Ze (by omega),q];exact QM s _ _ _ _ (by omega) (by omega)
theorem V7 {l:List Tok} {x:PErr} (h:k<s.length) (q:constructP s k= .error x):toksAt s k l= .error x:=by
 unfold toksAt;rw[toksGo,Ze (by omega),q]
theorem Kv (s:List UInt8):toksP s=if (check s).2≠0 then .error (check s) else toksAt s (if hasAt s 0 [239,187,191] then 3 else 0) []:=by
 unfold toksP;split
 ·rfl
 ·split
  ·exact QM s _ _ _ _ (by omega) (by omega)
  ·rfl
structure Toks.fits (n:Nat) (k:Nat) (l:List Tok):Prop where
 len:l.length<=k
 each:∀t∈l,t.fits n
 text:(l.map λt=>t.text.length).sum<=2*k
 kind:∀t∈l,t.kind=1\/t.kind=2\/t.kind=3
theorem Toks.fits.nil (n k:Nat):Toks.fits n k []:=⟨Zk _,(by intro t h;cases h),Zk _,(by intro t h;cases h)⟩
theorem Toks.fits.later {e:Nat} {l:List Tok} (h:Toks.fits n k l) (q:k<=e):Toks.fits n e l:=⟨Zu h.len q,h.each,Zu h.text (by omega),h.kind⟩
theorem Toks.fits.add {e:Nat} {l:List Tok} {t:Tok} (h:Toks.fits s.length k l) (F:k<s.length) (D:constructP s k= .ok (t,e)):Toks.fits s.length e (l++ [t]):=by
 have A:=XN F D;refine ⟨?_,?_,?_,?_⟩
 ·rw[Zc];have:=h.len;show _+1<=_;omega
 ·intro u q;rcases Zt.1 q with q|q
  ·exact h.each u q
  ·rw[Zo] at q;rw[q];exact A.2.2.1
 ·rw[ZR,List.sum_append];have:=h.text;simp only[ZP,Yv,Uk,List.sum_nil];omega
 ·intro u q;rcases Zt.1 q with q|q
  ·exact h.kind u q
  ·rw[Zo] at q;rw[q];exact A.2.2.2.2
theorem IC:∀(n k:Nat) (l L:List Tok),s.length - k<n->k<=s.length->Toks.fits s.length k l->toksAt s k l= .ok L->Toks.fits s.length s.length L
 |0,_,_,_,h,_,_,_=>by omega
 |n+1,k,l,L,hn,hk,hfit,h=>by
  by_cases q:s.length<=k
  ·rw[UX q] at h
   injection h with h
   rw[<-h]
   exact hfit.later hk
  ·cases hc:constructP s k with
   |error x=>rw[V7 (by omega) hc] at h;cases h
   |ok te=>
    obtain ⟨t,e⟩:=te
    have A:=XN (by omega) hc
    rw[Uo (by omega) hc] at h
    refine IC n e _ L (by omega) A.2.1 ?_ h
    split
    ·exact hfit.add (by omega) hc
    ·exact hfit.later (by omega)
theorem GM {L:List Tok} (h:toksP s= .ok L):Toks.fits s.length s.length L:=by
 rw[Kv] at h;split at h
 ·cases h
 ·refine IC _ _ _ L (YK _) ?_ (Toks.fits.nil _ _) h;split
  ·rename_i A;rcases Xt A with q|q
   ·exact q
   ·cases q
  ·exact Zk _
end
section
variable {c d fin n:Nat} {s t:List UInt8}
theorem Qw (fin f d:Nat):elemP fin f d []= .error (fin,8):=by cases f<;>rw[elemP]
theorem Kd (fin f d:Nat) (t:Tok) (ks:List Nd):kidsP fin f d t ks []= .error (fin,8):=by cases f<;>rw[kidsP]
theorem Vv (fin:Nat):∀f:Nat,(∀(d:Nat) (l:List Tok) (n:Nd) (r:List Tok),elemP fin f d l= .ok (n,r)->∃m,0<m/\m<=l.length/\r=l.drop m)/\
 (∀(d:Nat) (t:Tok) (ks:List Nd) (l:List Tok) (n:Nd) (r:List Tok),kidsP fin f d t ks l= .ok (n,r)->∃m,0<m/\m<=l.length/\r=l.drop m)
 |0=>⟨λd l n r h=>(by rw[elemP] at h;cases h),λd t ks l n r h=>(by rw[kidsP] at h;cases h)⟩
 |f+1=>by
  obtain ⟨H,A⟩:=Vv fin f;refine ⟨λd l n r h=> ?_,λd t ks l n r h=> ?_⟩
  ·cases l with
   |nil=>rw[elemP] at h;cases h
   |cons t l=>
    rw[elemP] at h;split at h
    ·cases h
    ·split at h
     ·injection h with h;injection h with F q;exact ⟨1,by omega,by simp,by rw[<-q];rfl⟩
     ·obtain ⟨m,F,q,D⟩:=A d t [] l n r h;exact ⟨m+1,by omega,by simpa using q,by rw[D];rfl⟩
  ·cases l with
   |nil=>rw[kidsP] at h;cases h
   |cons u l=>
    rw[kidsP] at h;split at h
    ·split at h
     ·cases h
     ·injection h with h;injection h with F q;exact ⟨1,by omega,by simp,by rw[<-q];rfl⟩
    ·split at h
     ·split at h
      ·cases h
      ·rename_i k r' K;obtain ⟨m,F,q,D⟩:=H _ _ _ _ K;obtain ⟨M,Q,J,I⟩:=A _ _ _ _ _ _ h;rw[D,List.drop_drop] at I;rw[D,Zj] at J;exact ⟨m+M,by omega,by omega,I⟩
     ·obtain ⟨m,F,q,D⟩:=A _ _ _ _ _ _ h;exact ⟨m+1,by omega,by simpa using q,by rw[D];rfl⟩
theorem QZ (fin:Nat):∀f:Nat,(∀(g d:Nat) (l:List Tok),2*l.length<=f->2*l.length<=g->elemP fin f d l=elemP fin g d l)/\
 (∀(g d:Nat) (t:Tok) (ks:List Nd) (l:List Tok),2*l.length+1<=f->2*l.length+1<=g->kidsP fin f d t ks l=kidsP fin g d t ks l)
 |0=>⟨λg d l h _=>(by
  have I:l= []:=List.length_eq_zero_iff.1 (by omega);rw[I,Qw,Qw]),λg d t ks l h _=>(by omega)⟩
 |f+1=>by
  obtain ⟨F,q⟩:=QZ fin f;refine ⟨λg d l A D=> ?_,λg d t ks l A D=> ?_⟩
  ·cases l with
   |nil=>rw[Qw,Qw]
   |cons t l=>
    rw[Zf] at A D;cases g with
    |zero=>omega
    |succ g=>
     rw[elemP,elemP];split
     ·rfl
     ·split
      ·rfl
      ·exact q g d t [] l (by omega) (by omega)
  ·cases l with
   |nil=>rw[Kd,Kd]
   |cons u l=>
    rw[Zf] at A D;cases g with
    |zero=>omega
    |succ g=>
     rw[kidsP,kidsP];split
     ·rfl
     ·split
      ·rw[F g (d+1) (u::l) (by rw[Zf];omega) (by rw[Zf];omega)];cases he:elemP fin g (d+1) (u::l) with
       |error x=>rfl
       |ok kr=>obtain ⟨k,r⟩:=kr;obtain ⟨m,J,K,H⟩:=(Vv fin g).1 _ _ _ _ he;have M:r.length+1<=l.length+1:=(by rw[H,Zj,Zf];omega);exact q g d t _ r (by omega) (by omega)
      ·exact q g d t _ l (by omega) (by omega)
def elemAt (fin d:Nat) (l:List Tok):Except PErr (Nd×List Tok):=elemP fin (2*l.length) d l
def kidsAt (fin d:Nat) (t:Tok) (ks:List Nd) (l:List Tok):Except PErr (Nd×List Tok):=kidsP fin (2*l.length+1) d t ks l
theorem Vn (fin d:Nat) (t:Tok) (l:List Tok):elemAt fin d (t::l)=if 100<d then .error (t.at_,9) else if t.empty then .ok (.mk 0 [] t.name t.attrs [] [] t.at_,l) else kidsAt fin d t [] l:=by
 unfold elemAt kidsAt;rw[Zf,show 2*(l.length+1)=2*l.length+1+1 by omega,elemP]
theorem Zfe (fin d:Nat) (t:Tok) (ks:List Nd):kidsAt fin d t ks []= .error (fin,8):=Kd _ _ _ _ _
theorem VR (fin d:Nat) (t:Tok) (ks:List Nd) (u:Tok) (l:List Tok) (h:u.kind=2):kidsAt fin d t ks (u::l)=if u.name≠t.name then .error (u.at_,14) else .ok (.mk 0 [] t.name t.attrs ks [] t.at_,l):=by
 unfold kidsAt;rw[kidsP,Zh h]
theorem VT (fin d:Nat) (t:Tok) (ks:List Nd) (u:Tok) (l:List Tok) (q:u.kind=1):kidsAt fin d t ks (u::l)=match elemAt fin (d+1) (u::l) with| .error x=> .error x| .ok (k,r)=>kidsAt fin d t (ks++ [k]) r:=by
 unfold kidsAt elemAt;rw[kidsP,Ze (by omega),Zh q];rw[Zf];cases he:elemP fin (2*(l.length+1)) (d+1) (u::l) with
 |error x=>rfl
 |ok kr=>
  obtain ⟨k,r⟩:=kr;obtain ⟨m,A,D,h⟩:=(Vv fin _).1 _ _ _ _ he;have F:r.length+1<=l.length+1:=by rw[h,Zj,Zf];omega
  exact (QZ fin _).2 _ _ _ _ _ (by omega) (Zb _)
theorem ZdM (fin d:Nat) (t:Tok) (ks:List Nd) (u:Tok) (l:List Tok) (h:u.kind=3):kidsAt fin d t ks (u::l)=kidsAt fin d t (addText ks u.text u.at_) l:=by
 unfold kidsAt;rw[kidsP,Ze (by omega),Ze (by omega)];rw[Zf];exact (QZ fin _).2 _ _ _ _ _ (by omega) (Zb _)
theorem Qv {l r:List Tok} {n:Nd} (h:elemAt fin d l= .ok (n,r)):∃m,0<m/\m<=l.length/\r=l.drop m:=(Vv fin _).1 _ _ _ _ h
theorem Zdo (fin:Nat):∀f:Nat,(∀(d:Nat) (l:List Tok) (x c:Nat),elemP fin f d l= .error (x,c)->c≠0)/\(∀(d:Nat) (t:Tok) (ks:List Nd) (l:List Tok) (x c:Nat),kidsP fin f d t ks l= .error (x,c)->c≠0)
 |0=>⟨λd l x c h=>(by rw[elemP] at h;injection h with h;injection h with _ h;omega),λd t ks l x c h=>(by rw[kidsP] at h;injection h with h;injection h with _ h;omega)⟩
 |f+1=>by
  obtain ⟨A,q⟩:=Zdo fin f
  refine ⟨λd l x c h=> ?_,λd t ks l x c h=> ?_⟩
  ·cases l with
   |nil=>rw[Qw] at h;injection h with h;injection h with _ h;omega
   |cons t l=>
    rw[elemP] at h
    split at h
    ·injection h with h;injection h with _ h;omega
    ·split at h
     ·cases h
     ·exact q _ _ _ _ _ _ h
  ·cases l with
   |nil=>rw[Kd] at h;injection h with h;injection h with _ h;omega
   |cons u l=>
    rw[kidsP] at h
    split at h
    ·split at h
     ·injection h with h;injection h with _ h;omega
     ·cases h
    ·split at h
     ·split at h
      ·rename_i y D
       obtain ⟨y1,y2⟩:=y
       have:=A _ _ _ _ D
       injection h with h;injection h with _ h;omega
      ·exact q _ _ _ _ _ _ h
     ·exact q _ _ _ _ _ _ h
theorem GB {x:Nat} {l:List Tok} (h:elemAt fin d l= .error (x,c)):c≠0:=(Zdo fin _).1 _ _ _ _ h
theorem Jx (fin f:Nat) (found:Option Nd) (t:Tok) (r:List Tok):docGo fin (f+1) found (t::r)=if t.kind=1/\found.isSome then .error (t.at_,17)
 else if t.kind=2 then .error (t.at_,14)
 else if t.kind=3 then (if blankL t.text=false then .error (t.at_,7) else docGo fin f found r)
 else match elemAt fin 1 (t::r) with
  | .error x=> .error x
  | .ok (n,r')=>docGo fin f (some n) r':=by
 have h:elemP fin (2*(r.length+1)+2) 1 (t::r)=elemAt fin 1 (t::r):=(QZ fin _).1 _ _ _ (by rw[Zf];omega) (by rw[Zf];omega);cases found<;>(rw[docGo,h];try rfl)
theorem J1 (fin f:Nat) (found:Option Nd):docGo fin (f+1) found []=match found with|none=> .error (fin,8)|some n=> .ok n:=by cases found<;>rw[docGo]
theorem VK (fin:Nat):∀(f g:Nat) (found:Option Nd) (l:List Tok),l.length<f->l.length<g->docGo fin f found l=docGo fin g found l
 |0,_,_,_,h,_=>by omega
 |_+1,0,_,_,_,h=>by omega
 |f+1,g+1,found,l,h1,h2=>by
  cases l with
  |nil=>rw[J1,J1]
  |cons t r=>
   rw[Zf] at h1 h2
   rw[Jx,Jx]
   split
   ·rfl
   ·split
    ·rfl
    ·split
     ·split
      ·rfl
      ·exact VK fin f g found r (by omega) (by omega)
     ·cases he:elemAt fin 1 (t::r) with
      |error x=>rfl
      |ok nr=>
       obtain ⟨n,r'⟩:=nr
       obtain ⟨m,A,D,q⟩:=Qv he
       have F:r'.length+1<=r.length+1:=(by rw[q,Zj,Zf];omega)
       exact VK fin f g _ r' (by omega) (by omega)
def docAt (fin:Nat) (found:Option Nd) (l:List Tok):Except PErr Nd:=docGo fin (l.length+1) found l
theorem Zbf (fin:Nat) (found:Option Nd):docAt fin found []=match found with|none=> .error (fin,8)|some n=> .ok n:=J1 _ _ _
theorem Ee (fin:Nat) (found:Option Nd) (t:Tok) (r:List Tok):docAt fin found (t::r)=if t.kind=1/\found.isSome then .error (t.at_,17)
 else if t.kind=2 then .error (t.at_,14)
 else if t.kind=3 then (if blankL t.text=false then .error (t.at_,7) else docAt fin found r)
 else match elemAt fin 1 (t::r) with
  | .error x=> .error x
  | .ok (n,r')=>docAt fin (some n) r':=by
 unfold docAt;rw[Jx];split
 ·rfl
 ·split
  ·rfl
  ·split
   ·split
    ·rfl
    ·exact VK fin _ _ _ _ (by rw[Zf];omega) (by omega)
   ·cases he:elemAt fin 1 (t::r) with
    |error x=>rfl
    |ok nr=>obtain ⟨n,r'⟩:=nr;obtain ⟨m,q,A,h⟩:=Qv he;have D:r'.length+1<=r.length+1:=(by rw[h,Zj,Zf];omega);exact VK fin _ _ _ _ (by rw[Zf];omega) (by omega)
theorem QT (s:List UInt8):docP s=match toksP s with| .error x=> .error x| .ok l=>docAt s.length none l:=rfl
def txts (l:List Tok):Nat:=(l.map λt=>t.text.length).sum
mutual
def Nd.fits (n:Nat):Nd->Prop
 | .mk k s nm al ks t a=>k<=1/\s.length<=2*n/\nm.length<=n/\al.length<=n/\(∀b∈al,b.fits n)/\ks.length<=n/\t.length<=2*n/\a<=n/\Nds.fits n ks
def Nds.fits (n:Nat):List Nd->Prop
 | []=>True
 |x::t=>x.fits n/\Nds.fits n t
end
theorem Nds.fits_iff:∀l:List Nd,Nds.fits n l↔∀x∈l,x.fits n
 | []=>by rw[Nds.fits];simp
 |x::t=>by rw[Nds.fits,Nds.fits_iff t];simp
def lastTxt (ks:List Nd) (c:Nat):Prop:=∀k s n al kk u b,ks.getLast? =some (.mk k s n al kk u b)->k=1->u.length<=c
theorem ZbZ {ks:List Nd} {a:Nat} (R:Nds.fits n ks) (X:ks.length<n) (Q:lastTxt ks c) (Y:c+t.length<=2*n) (K:a<=n):Nds.fits n (addText ks t a)/\(addText ks t a).length<=ks.length+1/\lastTxt (addText ks t a) (c+t.length):=by
 have D:=(Nds.fits_iff ks).1 R;unfold addText;split
 ·rename_i s nm al kk u b H;have S:ks≠ []:=by intro e;rw[e] at H;cases H
  have F:Nd.mk 1 s nm al kk u b∈ks:=List.mem_of_getLast? H;have Z:=Q 1 s nm al kk u b H rfl;have A:=D _ F;rw[Nd.fits] at A;refine ⟨(Nds.fits_iff _).2 λx q=> ?_,?_,?_⟩
  ·rcases Zt.1 q with q|q
   ·exact D x (List.dropLast_subset _ q)
   ·rw[Zo.1 q,Nd.fits];refine ⟨A.1,A.2.1,A.2.2.1,A.2.2.2.1,A.2.2.2.2.1,A.2.2.2.2.2.1,?_,A.2.2.2.2.2.2.2⟩;rw[Zc];omega
  ·rw[Zc,List.length_dropLast];show _+1<=_;omega
  ·intro k' V U al' I u' J h _;rw[XH] at h;simp only[Ji,Option.or] at h;injection h with h;injection h with _ _ _ _ _ e _;rw[<-e,Zc];omega
 ·refine ⟨(Nds.fits_iff _).2 λx q=> ?_,?_,?_⟩
  ·rcases Zt.1 q with q|q
   ·exact D x q
   ·rw[Zo.1 q];unfold charD;rw[Nd.fits];exact ⟨by omega,by simp,by simp,by simp,(by intro b M;cases M),by simp,by omega,K,by rw[Nds.fits];trivial⟩
  ·rw[Zc];exact Zb _
  ·intro k' V U al' I u' J h _;rw[XH] at h;simp only[Ji,Option.or] at h;injection h with h;unfold charD at h;injection h with _ _ _ _ _ e _;rw[<-e];omega
theorem UK (l:List Tok) (m:Nat):txts (l.drop m)<=txts l:=by
 unfold txts;have h:=Zz (λl=>(l.map λt:Tok=>t.text.length).sum) (Xe m l);simp only[ZR,List.sum_append] at h;omega
theorem Xr (t:Tok) (l:List Tok):txts (t::l)=t.text.length+txts l:=by unfold txts;simp
theorem Zbm (fin n:Nat):∀f:Nat,(∀(d:Nat) (l:List Tok) (x:Nd) (r:List Tok),elemP fin f d l= .ok (x,r)->(∀t∈l,t.fits n)->txts l<=2*n->l.length<=n->x.fits n/\x.kind=0)/\
 (∀(d:Nat) (t:Tok) (ks:List Nd) (l:List Tok) (x:Nd) (r:List Tok) (c:Nat),kidsP fin f d t ks l= .ok (x,r)->t.fits n->(∀t∈l,t.fits n)->Nds.fits n ks->lastTxt ks c->c+txts l<=2*n->ks.length+l.length<=n->x.fits n/\x.kind=0)
 |0=>⟨λd l x r h=>(by rw[elemP] at h;cases h),λd t ks l x r c h=>(by rw[kidsP] at h;cases h)⟩
 |f+1=>by
  obtain ⟨X,J⟩:=Zbm fin n f;refine ⟨λd l x r h H I D=> ?_,λd t ks l x r c h q H F hc I D=> ?_⟩
  ·cases l with
   |nil=>rw[elemP] at h;cases h
   |cons t l=>
    have q:=H t ZH;rw[elemP] at h;split at h
    ·cases h
    ·split at h
     ·injection h with h;injection h with Q Y;subst Q;rw[Nd.fits];exact ⟨⟨by omega,by simp,q.name,q.cnt,q.attrs,by simp,by simp,q.at_,by rw[Nds.fits];trivial⟩,rfl⟩
     ·refine J d t [] l x r 0 h q (λu U=>H u (ZE _ U)) (by rw[Nds.fits];trivial) (by intro _ _ _ _ _ _ _ e;cases e) ?_ ?_
      ·rw[Xr] at I;omega
      ·rw[Zf] at D;show 0+_<=_;omega
  ·cases l with
   |nil=>rw[kidsP] at h;cases h
   |cons u l=>
    have U:=H u ZH;have S:∀v∈l,v.fits n:=λv V=>H v (ZE _ V);rw[Zf] at D;rw[Xr] at I;rw[kidsP] at h;split at h
    ·split at h
     ·cases h
     ·injection h with h;injection h with Q Y;subst Q;rw[Nd.fits];exact ⟨⟨by omega,by simp,q.name,q.cnt,q.attrs,by omega,by simp,q.at_,F⟩,rfl⟩
    ·split at h
     ·split at h
      ·cases h
      ·rename_i k r' hk;obtain ⟨m,Q,Y,R⟩:=(Vv fin f).1 _ _ _ _ hk;have K:=X _ _ _ _ hk H (by rw[Xr];omega) (by rw[Zf];omega);have h6:r'.length+1<=l.length+1:=(by rw[R,Zj,Zf];omega);have h7:=UK (u::l) m;rw[<-R,Xr] at h7;refine J d t _ r' x r 0 h q (λv V=>H v (YJ (by rw[<-R];exact V))) ((Nds.fits_iff _).2 λy M=> ?_) ?_ (by omega) (by rw[Zc];show _+1+_<=_;omega)
       ·rcases Zt.1 M with M|M
        ·exact (Nds.fits_iff _).1 F y M
        ·rw[Zo.1 M];exact K.1
       ·intro k' s' n' al' hb u' b' A e1;rw[XH] at A;simp only[Ji,Option.or] at A;injection A with A;have:=K.2;rw[A] at this;have h9:k'=0:=this;omega
     ·have Z:=ZbZ (n:=n) (c:=c) (ks:=ks) (t:=u.text) (a:=u.at_) F (by omega) hc (by omega) U.at_;refine J d t _ l x r (c+u.text.length) h q S Z.1 Z.2.2 (by omega) (by omega)
theorem Zdh {l r:List Tok} {x:Nd} (h:elemAt fin d l= .ok (x,r)) (q:∀t∈l,t.fits n) (D:txts l<=2*n) (A:l.length<=n):x.fits n/\x.kind=0:=(Zbm fin n _).1 _ _ _ _ h q D A
theorem GA:∀(f:Nat) (found:Option Nd) (l:List Tok) (x:Nd),docGo fin f found l= .ok x->(∀y,found=some y->y.fits n/\y.kind=0)->(∀t∈l,t.fits n)->txts l<=2*n->l.length<=n->x.fits n/\x.kind=0
 |0,found,l,x,h,_,_,_,_=>by rw[docGo] at h;cases h
 |f+1,found,[],x,h,hf,_,_,_=>by
  rw[J1] at h
  cases found with
  |none=>cases h
  |some y=>
   injection h with h
   rw[<-h]
   exact hf y rfl
 |f+1,found,t::r,x,h,hf,hl,ht,hn=>by
  have D:=ht
  rw[Xr] at D
  have A:=hn
  rw[Zf] at A
  rw[Jx] at h
  split at h
  ·cases h
  ·split at h
   ·cases h
   ·split at h
    ·split at h
     ·cases h
     ·exact GA f found r x h hf (λv F=>hl v (ZE _ F)) (by omega) (by omega)
    ·split at h
     ·cases h
     ·rename_i y r' J
      obtain ⟨m,M,Q,q⟩:=Qv J
      have H:=Zdh J hl ht hn
      have K:=UK (t::r) m
      rw[<-q] at K
      have R:r'.length<=r.length+1:=(by rw[q,Zj,Zf];omega)
      exact GA f (some y) r' x h (by intro z I;injection I with I;rw[<-I];exact H) (λv F=>hl v (YJ (by rw[<-q];exact F))) (by omega) (by omega)
theorem Zbg {x:Nd} (h:docP s= .ok x):x.fits s.length/\x.kind=0:=by
 rw[QT] at h;split at h
 ·cases h
 ·rename_i l A;have q:=GM A;exact GA _ none l x h (by intro y e;cases e) q.each q.text q.len
end
section
variable {N c i n:Nat} {p sp:List UInt8} {sc:Scope}
theorem GK {l q:List UInt8} (h:splitL l=some (p,q)):p.length<=l.length/\q.length<=l.length:=by
 unfold splitL at h;dsimp only at h;split at h
 ·split at h
  ·injection h with h;injection h with h1 h2;rw[<-h1,<-h2];exact ⟨(Yp _).length_le,by rw[Zj];omega⟩
  ·cases h
 ·split at h
  ·injection h with h;injection h with h1 h2;rw[<-h1,<-h2];exact ⟨Zk _,Zb _⟩
  ·cases h
def Scope.fits (n:Nat) (sc:Scope):Prop:=∀b∈sc,b.2.length<=2*n
theorem ZbD {v:List UInt8} (D:18<=n) (A:Scope.fits n sc) (h:lookL sc p=some v):v.length<=2*n:=by
 unfold lookL at h;split at h
 ·injection h with h;rw[<-h];show 36<=_;omega
 ·split at h
  ·rename_i b q;injection h with h;rw[<-h];exact A b (List.mem_reverse.1 (List.mem_of_find?_eq_some q))
  ·split at h
   ·injection h with h;rw[<-h];exact Zk _
   ·cases h
def lookTo (sc:Scope) (p:List UInt8) (i:Nat):Option (List UInt8):=
 match (sc.take i).reverse.find? λb=>decide (b.1=p) with
 |some b=>some b.2
 |none=>if p= [] then some [] else none
theorem ZiI (h:p≠xmlL):lookL sc p=lookTo sc p sc.length:=by
 unfold lookL lookTo;rw[Ze h,List.take_length]
 try rfl
theorem Zfm (q:i<sc.length) (h:sc[i].1=p):lookTo sc p (i+1)=some sc[i].2:=by
 unfold lookTo;rw[Zx q,List.reverse_append,List.reverse_singleton,List.singleton_append,List.find?_cons_of_pos (by simpa using h)]
theorem ZdV (q:i<sc.length) (h:sc[i].1≠p):lookTo sc p (i+1)=lookTo sc p i:=by
 unfold lookTo;rw[Zx q,List.reverse_append,List.reverse_singleton,List.singleton_append,List.find?_cons_of_neg (by simpa using h)]
theorem ZdW (sc:Scope) (p:List UInt8):lookTo sc p 0=if p= [] then some [] else none:=by
 unfold lookTo;rw[List.take_zero];rfl
theorem VJ:∀(al:List AtP) (sc inner:Scope),declsGo al sc= .ok inner->(∀a∈al,a.fits n)->Scope.fits n sc->Scope.fits n inner/\inner.length<=sc.length+al.length
 | [],sc,inner,h,_,hs=>by
  rw[declsGo] at h
  injection h with h
  rw[<-h]
  exact ⟨hs,by omega⟩
 |a::t,sc,inner,h,ha,hs=>by
  have A:∀b∈t,b.fits n:=λb q=>ha b (ZE _ q)
  rw[declsGo] at h
  split at h
  ·cases h
  ·split at h
   ·split at h
    ·cases h
    ·have:=VJ t _ inner h A (by
      intro b q
      rcases Zt.1 q with q|q
      ·exact hs b q
      ·rw[Zo.1 q]
       exact (ha a ZH).2.2.1)
     rw[Zc] at this
     rw[Zf]
     refine ⟨this.1,Zu this.2 ?_⟩
     show _+1+_<=_
     omega
   ·have:=VJ t sc inner h A hs
    rw[Zf]
    exact ⟨this.1,by omega⟩
theorem Qs {x:Nat}:∀(al:List AtP) (sc:Scope),declsGo al sc= .error (x,c)->c=13
 | [],sc,h=>by rw[declsGo] at h;cases h
 |a::t,sc,h=>by
  rw[declsGo] at h
  split at h
  ·injection h with h;injection h with _ h;exact h.symm
  ·split at h
   ·split at h
    ·injection h with h;injection h with _ h;exact h.symm
    ·exact Qs t _ h
   ·exact Qs t _ h
theorem Qo {x:Nat} (sc:Scope):∀(al out:List AtP),attrsGo sc al out= .error (x,c)->c≠0
 | [],out,h=>by rw[attrsGo] at h;cases h
 |a::t,out,h=>by
  rw[attrsGo] at h
  split at h
  ·exact Qo sc t out h
  ·dsimp only at h
   split at h
   ·injection h with h;injection h with _ h;omega
   ·split at h
    ·injection h with h;injection h with _ h;omega
    ·exact Qo sc t _ h
theorem VC (H:18<=n) (I:Scope.fits n sc):∀(al out r:List AtP),attrsGo sc al out= .ok r->(∀a∈al,a.fits n)->(∀a∈out,a.fits n)->(∀a∈r,a.fits n)/\r.length<=out.length+al.length
 | [],out,r,h,_,ho=>by
  rw[attrsGo] at h
  injection h with h
  rw[<-h]
  exact ⟨ho,by omega⟩
 |a::t,out,r,h,ha,ho=>by
  have D:=ha a ZH
  have J:∀b∈t,b.fits n:=λb F=>ha b (ZE _ F)
  rw[attrsGo] at h
  rw[Zf]
  split at h
  ·have:=VC H I t out r h J ho
   exact ⟨this.1,by omega⟩
  ·dsimp only at h
   split at h
   ·cases h
   ·rename_i sp A
    split at h
    ·cases h
    ·have:=VC H I t _ r h J (by
      intro b F
      rcases Zt.1 F with F|F
      ·exact ho b F
      ·rw[Zo.1 F]
       refine ⟨?_,?_,D.2.2.1,D.2.2.2⟩
       ·show sp.length<=_
        split at A
        ·injection A with A
         rw[<-A]
         exact Zk _
        ·exact ZbD H I A
       ·show ((splitL a.name).getD ([],[])).2.length<=_
        cases hsl:splitL a.name with
        |none=>exact Zk _
        |some pq=>
         obtain ⟨p,q⟩:=pq
         exact Zu (GK hsl).2 D.2.1)
     rw[Zc] at this
     refine ⟨this.1,Zu this.2 ?_⟩
     show _+1+_<=_
     omega
theorem ZbA {n:Nd} {x:Nat} (h:headP n sc= .error (x,c)):c≠0:=by
 unfold headP at h;split at h
 ·injection h with h;injection h with _ h;omega
 ·split at h
  ·injection h with h;injection h with _ h;omega
  ·split at h
   ·rename_i y q;obtain ⟨y1,y2⟩:=y;have:=Qs _ _ q;injection h with h;injection h with _ h;omega
   ·split at h
    ·injection h with h;injection h with _ h;omega
    ·split at h
     ·rename_i y q;obtain ⟨y1,y2⟩:=y;have:=Qo _ _ _ q;injection h with h;injection h with _ h;omega
     ·cases h
theorem Zfb (Q:18<=N) {n:Nd} {inner:Scope} {l:List UInt8} {al:List AtP} (h:headP n sc= .ok (sp,l,al,inner)) (A:n.fits N) (U:Scope.fits N sc):
 sp.length<=2*N/\l.length<=N/\al.length<=N/\(∀a∈al,a.fits N)/\Scope.fits N inner/\inner.length<=sc.length+N:=by
 cases n with
 |mk k s nm at0 ks t a=>
  rw[Nd.fits] at A;unfold headP at h;simp only[Nd.name,Nd.attrs,Nd.at_] at h;split at h
  ·cases h
  ·rename_i p q J;split at h
   ·cases h
   ·split at h
    ·cases h
    ·rename_i K H;have D:=VJ at0 sc K H A.2.2.2.2.1 U;split at h
     ·cases h
     ·rename_i V I;split at h
      ·cases h
      ·rename_i al' F;injection h with h;injection h with e1 h;injection h with e2 h;injection h with e3 e4;subst e1;subst e2;subst e3;subst e4;have M:=VC Q D.1 at0 [] al' F A.2.2.2.2.1 (by intro b S;cases S);have X:=A.2.2.2.1;refine ⟨ZbD Q D.1 I,Zu (GK J).2 A.2.2.1,?_,M.1,D.1,by omega⟩;have R:=M.2;simp only[ZK] at R;omega
mutual
theorem EZ {x c:Nat}:∀(n:Nd) (sc:Scope),resP n sc= .error (x,c)->c≠0
 | .mk k s n al ks t a,sc,h=>by
  rw[resP] at h
  split at h
  ·rename_i y hy
   obtain ⟨y1,y2⟩:=y
   have:=ZbA hy
   injection h with h;injection h with _ h;omega
  ·split at h
   ·rename_i y hy
    obtain ⟨y1,y2⟩:=y
    have:=Iw ks _ hy
    injection h with h;injection h with _ h;omega
   ·cases h
theorem Iw {x c:Nat}:∀(ks:List Nd) (sc:Scope),resKids ks sc= .error (x,c)->c≠0
 | [],sc,h=>by rw[resKids] at h;cases h
 |k::t,sc,h=>by
  rw[resKids] at h
  split at h
  ·rename_i y hy
   obtain ⟨y1,y2⟩:=y
   injection h with h
   injection h with e1 e2
   split at hy
   ·have:=EZ k sc hy
    omega
   ·cases hy
  ·split at h
   ·rename_i y hy
    obtain ⟨y1,y2⟩:=y
    have:=Iw t sc hy
    injection h with h;injection h with _ h;omega
   ·cases h
end
mutual
theorem ZbO {N:Nat} (hN:18<=N):∀(n m:Nd) (sc:Scope),resP n sc= .ok m->n.fits N->Scope.fits N sc->m.fits N/\m.kind=0
 | .mk k s n al ks t a,m,sc,h,hn,hs=>by
  rw[resP] at h
  split at h
  ·cases h
  ·rename_i sp l al' inner hh
   have h1:=Zfb hN hh hn hs
   rw[Nd.fits] at hn
   split at h
   ·cases h
   ·rename_i ks' hk
    have h2:=Kr hN ks ks' inner hk hn.2.2.2.2.2.2.2.2 h1.2.2.2.2.1
    injection h with h
    subst h
    rw[Nd.fits]
    exact ⟨⟨by omega,h1.1,h1.2.1,h1.2.2.1,h1.2.2.2.1,by rw[h2.2];exact hn.2.2.2.2.2.1,by simp,hn.2.2.2.2.2.2.2.1,h2.1⟩,rfl⟩
theorem Kr {N:Nat} (hN:18<=N):∀(ks r:List Nd) (sc:Scope),resKids ks sc= .ok r->Nds.fits N ks->Scope.fits N sc->Nds.fits N r/\r.length=ks.length
 | [],r,sc,h,_,_=>by
  rw[resKids] at h
  injection h with h
  subst h
  exact ⟨by rw[Nds.fits];trivial,rfl⟩
 |k::t,r,sc,h,hk,hs=>by
  rw[Nds.fits] at hk
  rw[resKids] at h
  split at h
  ·cases h
  ·rename_i k' hk'
   split at h
   ·cases h
   ·rename_i t' ht'
    injection h with h
    subst h
    have h2:=Kr hN t t' sc ht' hk.2 hs
    refine ⟨?_,by rw[Zf,Zf,h2.2]⟩
    rw[Nds.fits]
    refine ⟨?_,h2.1⟩
    split at hk'
    ·exact (ZbO hN k k' sc hk' hk.1 hs).1
    ·injection hk' with hk'
     rw[<-hk']
     exact hk.1
end
end
section
variable {fin n:Nat} {s sp t:List UInt8} {sc:Scope}
def resAt (sc:Scope) (done rest:List Nd):Except PErr (List Nd):=
 match resKids rest sc with
 | .error x=> .error x
 | .ok t=> .ok (done++t)
theorem Zep (sc:Scope) (ks:List Nd):resAt sc [] ks=resKids ks sc:=by
 unfold resAt;cases resKids ks sc<;>rfl
theorem ZhG (sc:Scope) (done:List Nd):resAt sc done []= .ok done:=by
 unfold resAt;rw[resKids];dsimp only;rw[Yi]
theorem ZfJ {done t:List Nd} {k:Nd} (h:k.kind=0):resAt sc done (k::t)=match resP k sc with| .error x=> .error x| .ok k'=>resAt sc (done++ [k']) t:=by
 unfold resAt;rw[resKids,Zh h];cases resP k sc with
 |error x=>rfl
 |ok k'=>
  dsimp only;cases resKids t sc with
  |error x=>rfl
  |ok t'=>simp
theorem ZfK {done t:List Nd} {k:Nd} (h:k.kind≠0):resAt sc done (k::t)=resAt sc (done++ [k]) t:=by
 unfold resAt;rw[resKids,Ze h];dsimp only;cases resKids t sc with
 |error x=>rfl
 |ok t'=>simp
theorem Qt:∀(al:List AtP) (sc inner:Scope),declsGo al sc= .ok inner->inner.length<=sc.length+al.length
 | [],sc,inner,h=>by
  rw[declsGo] at h
  injection h with h
  rw[<-h]
  omega
 |a::t,sc,inner,h=>by
  rw[declsGo] at h
  rw[Zf]
  split at h
  ·cases h
  ·split at h
   ·split at h
    ·cases h
    ·have:=Qt t _ inner h
     rw[Zc] at this
     refine Zu this ?_
     show _+1+_<=_
     omega
   ·have:=Qt t sc inner h
    omega
theorem ZgX {n:Nd} {inner:Scope} {l:List UInt8} {al:List AtP} (h:headP n sc= .ok (sp,l,al,inner)):inner.length<=sc.length+n.attrs.length:=by
 unfold headP at h;split at h
 ·cases h
 ·split at h
  ·cases h
  ·split at h
   ·cases h
   ·rename_i A q;split at h
    ·cases h
    ·split at h
     ·cases h
     ·injection h with h;injection h with _ h;injection h with _ h;injection h with _ h;rw[<-h];exact Qt _ _ _ q
mutual
def Nd.ht:Nd->Nat
 | .mk _ _ _ _ ks _ _=>1+Nds.ht ks
def Nds.ht:List Nd->Nat
 | []=>0
 |x::t=>max x.ht (Nds.ht t)
end
theorem Nds.ht_le:∀l:List Nd,Nds.ht l<=n↔∀x∈l,x.ht<=n
 | []=>by rw[Nds.ht];simp
 |x::t=>by rw[Nds.ht,Nat.max_le,Nds.ht_le t];simp
theorem Ew {l:List Nd} {x:Nd} (h:x∈l):x.ht<=Nds.ht l:=(Nds.ht_le l).1 (Zb _) x h
theorem ZeN {ks:List Nd} {a:Nat} (H:1<=n) (F:Nds.ht ks<=n):Nds.ht (addText ks t a)<=n:=by
 have q:=(Nds.ht_le ks).1 F;unfold addText;split
 ·rename_i s nm al kk u b D;have A:Nd.mk 1 s nm al kk u b∈ks:=List.mem_of_getLast? D;refine (Nds.ht_le _).2 λx h=> ?_;rcases Zt.1 h with h|h
  ·exact q x (List.dropLast_subset _ h)
  ·have:=q _ A;rw[Zo.1 h,Nd.ht];rw[Nd.ht] at this;exact this
 ·refine (Nds.ht_le _).2 λx h=> ?_;rcases Zt.1 h with h|h
  ·exact q x h
  ·rw[Zo.1 h];unfold charD;rw[Nd.ht,Nds.ht];omega
theorem Zf3 (fin:Nat):∀f:Nat,(∀(d:Nat) (l:List Tok) (x:Nd) (r:List Tok),elemP fin f d l= .ok (x,r)->x.ht+d<=102)/\
 (∀(d:Nat) (t:Tok) (ks:List Nd) (l:List Tok) (x:Nd) (r:List Tok),kidsP fin f d t ks l= .ok (x,r)->d<=100->Nds.ht ks+d<=101->x.ht+d<=102)
 |0=>⟨λd l x r h=>(by rw[elemP] at h;cases h),λd t ks l x r h=>(by rw[kidsP] at h;cases h)⟩
 |f+1=>by
  obtain ⟨D,q⟩:=Zf3 fin f;refine ⟨λd l x r h=> ?_,λd t ks l x r h F J=> ?_⟩
  ·cases l with
   |nil=>rw[elemP] at h;cases h
   |cons t l=>
    rw[elemP] at h;split at h
    ·cases h
    ·split at h
     ·injection h with h;injection h with h1 h2;subst h1;rw[Nd.ht,Nds.ht];omega
     ·exact q d t [] l x r h (by omega) (by rw[Nds.ht];omega)
  ·cases l with
   |nil=>rw[kidsP] at h;cases h
   |cons u l=>
    rw[kidsP] at h;split at h
    ·split at h
     ·cases h
     ·injection h with h;injection h with h1 h2;subst h1;rw[Nd.ht];omega
    ·split at h
     ·split at h
      ·cases h
      ·rename_i k r' H;have I:=D _ _ _ _ H;refine q d t _ r' x r h F ?_;have:Nds.ht (ks++ [k])<=101 - d:=(Nds.ht_le _).2 λy A=>by
        rcases Zt.1 A with A|A
        ·have:=Ew A;omega
        ·rw[Zo.1 A];omega
       omega
     ·refine q d t _ l x r h F ?_;have:=ZeN (n:=101 - d) (ks:=ks) (t:=u.text) (a:=u.at_) (by omega) (by omega);omega
theorem Ef:∀(f:Nat) (found:Option Nd) (l:List Tok) (x:Nd),docGo fin f found l= .ok x->(∀y,found=some y->y.ht<=101)->x.ht<=101
 |0,found,l,x,h,_=>by rw[docGo] at h;cases h
 |f+1,found,[],x,h,hf=>by
  rw[J1] at h
  cases found with
  |none=>cases h
  |some y=>
   injection h with h
   rw[<-h]
   exact hf y rfl
 |f+1,found,t::r,x,h,hf=>by
  rw[Jx] at h
  split at h
  ·cases h
  ·split at h
   ·cases h
   ·split at h
    ·split at h
     ·cases h
     ·exact Ef f found r x h hf
    ·split at h
     ·cases h
     ·rename_i y r' A
      have D:=(Zf3 fin _).1 _ _ _ _ A
      exact Ef f (some y) r' x h (by intro z q;injection q with q;rw[<-q];omega)
theorem ZjI {x:Nd} (h:docP s= .ok x):x.ht<=101:=by
 rw[QT] at h;split at h
 ·cases h
 ·exact Ef _ none _ x h (by intro y e;cases e)
end
def opmlL:List UInt8:= [111,112,109,108]
def versionL:List UInt8:= [118,101,114,115,105,111,110]
def twoL:List UInt8:= [50,46,48]
def bodyL:List UInt8:= [98,111,100,121]
def outlineL:List UInt8:= [111,117,116,108,105,110,101]
def textL:List UInt8:= [116,101,120,116]
def titleL:List UInt8:= [116,105,116,108,101]
def xmlUrlL:List UInt8:= [120,109,108,85,114,108]
def htmlUrlL:List UInt8:= [104,116,109,108,85,114,108]
def attrIn (al:List AtP) (nm:List UInt8):Option (List UInt8):=(al.find? λa=>a.space== [] && a.name==nm).map AtP.value
def isEl (nm:List UInt8) (n:Nd):Bool:=n.kind==0 && n.space== [] && n.name==nm
def attrL (n:Nd) (nm:List UInt8):Option (List UInt8):=attrIn n.attrs nm
def nameL (n:Nd):List UInt8:=match attrL n textL with
 |some v=>v
 |none=>(attrL n titleL).getD []
def opFd (path:List ByteArray) (n:Nd) (id:List UInt8):Fd:=⟨path,str id,str (nameL n),str ((attrL n htmlUrlL).getD []), -62135596800,[]⟩
mutual
def visP:Nd->List ByteArray->Except PErr (List Fd)
 | .mk _ _ _ _ ks _ _,path=>visKs ks path
def visKs:List Nd->List ByteArray->Except PErr (List Fd)
 | [],_=> .ok []
 |k::t,path=>
  match (if isEl outlineL k then
   match attrL k xmlUrlL with
   |some id=>if coll id= [] then .error (k.at_,19) else .ok [opFd path k id]
   |none=>if coll (nameL k)= [] then .error (k.at_,19) else if 64<=path.length then .error (k.at_,9) else visP k (path++ [str (nameL k)])
   else .ok []:Except PErr (List Fd)) with
  | .error x=> .error x
  | .ok l=>match visKs t path with
   | .error x=> .error x
   | .ok m=> .ok (l++m)
end
def opmlP (n:Nd):Except PErr (List Fd):=
 if n.kind≠0\/n.space≠ []\/n.name≠opmlL\/attrL n versionL≠some twoL then .error (n.at_,18)
 else match n.kids.find? (isEl bodyL) with
  |none=> .error (n.at_,19)
  |some b=>visP b []
end Go.Proofs.YtnlafkgkcnenfaaGreatDoor
