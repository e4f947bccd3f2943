/- Parts of the proof: contracts and plain laws. -/
import Derived.Test.YtnlafkgkcnenfaaGreatDoorP13
namespace Go.Proofs.YtnlafkgkcnenfaaGreatDoor
open Go Go.RowKit Tryz
set_option linter.unusedVariables false
set_option linter.unusedSimpArgs false
set_option maxRecDepth 100000
set_option maxHeartbeats 16000000
section
variable {sc:Scope}
theorem ZfL:∀(f:Nat) (first:Bool) (l:List UInt8),nmGo false f first l=l.length->∀c∈l,c≠58
 |0,first,l,h,c,hc=>by
  have:l= []:=Zv (by rw[<-h];rfl)
  rw[this] at hc;cases hc
 |f+1,first,l,h,c,hc=>by
  have R:l≠ []:=λe=>by rw[e] at hc;cases hc
  have K:0<l.length:=XI.2 R
  have A:(dec l).2≠0/\nmOk false first (dec l).1=true:=by
   by_cases F:l= []\/(dec l).2=0\/nmOk false first (dec l).1=false
   ·rw[Je F] at h
    omega
   ·refine ⟨λe=>F (Or.inr (Or.inl e)),?_⟩
    cases hk:nmOk false first (dec l).1 with
    |true=>rfl
    |false=>exact absurd (Or.inr (Or.inr hk)) F
  have Q:=J5 l
  rw[Uo A.1 A.2] at h
  have F:=Gu (l:=l) (r:=(dec l).1) (m:=(dec l).2) rfl A.1
  have I:=(ZdM [] A.1).2.1
  rw[F] at hc
  rcases Zu.1 hc with D|D
  ·rcases Xd (dec l).1 128 with H|H
   ·rw[JR H,Zo] at D
    intro e
    rw[D] at e
    have M:(dec l).1=58:=by
     have:=Zz UInt8.toNat e
     rw[Xf (by omega)] at this
     exact this
    have J:=A.2
    rw[M] at J
    cases first<;>revert J<;>decide
   ·have:=Zcx I H c D
    intro e
    rw[e] at this
    exact absurd this (by decide)
  ·exact ZfL f false _ (by rw[Zk];omega) c D
theorem VD {l:List UInt8} (h:isNm l=true):splitL l=some ([],l):=by
 have A:0<l.length/\nmLen false l=l.length:=by unfold isNm at h;simpa using h
 have D:=ZfL _ _ _ A.2;have H:(l.takeWhile λc=>c !=58)=l:=by
  have:=V6 (p:=λc=>c !=58) (x:=l) (r:= []) (λd F=>by have:=D d F;simpa using this) (λc t e=>by cases e)
  rwa [ZX] at this
 unfold splitL;dsimp only;rw[H,Zf (by omega),h];rfl
theorem ZaN {l:List UInt8} (h:isNm l=true) (A:l≠xmlnsL):declL l=none:=by
 unfold declL;rw[VD h];dsimp only;rw[Zf (λe=>A e.2),Zf (by decide)]
def plainAs (al:List AtP):Bool:=al.all λa=>isNm a.name && a.name !=xmlnsL
mutual
def Nd.plain:Nd->Bool
 | .mk k _ n al ks _ _=>k !=0||(isNm n && n !=xmlnsL && plainAs al && Nds.plain ks)
def Nds.plain:List Nd->Bool
 | []=>true
 |x::t=>x.plain && Nds.plain t
end
mutual
def Nd.inNs (ns:List UInt8):Nd->Nd
 | .mk k s n al ks t a=>if k=0 then .mk 0 ns n al (Nds.inNs ns ks) [] a else .mk k s n al ks t a
def Nds.inNs (ns:List UInt8):List Nd->List Nd
 | []=> []
 |x::t=>x.inNs ns::Nds.inNs ns t
end
theorem EH (sc:Scope):∀al:List AtP,plainAs al=true->declsGo al sc= .ok sc
 | [],_=>rfl
 |a::t,h=>by
  unfold plainAs at h
  rw[Zch,ZF,ZF] at h
  obtain ⟨⟨D,F⟩,H⟩:=h
  have A:a.name≠xmlnsL:=by simpa using F
  rw[declsGo,VD D,Zf (by simp),ZaN D A]
  exact EH sc t H
def AtP.noSp (a:AtP):AtP:=⟨[],a.name,a.value,a.at_⟩
theorem EG (sc:Scope):∀(al out:List AtP),plainAs al=true->attrsOk al (out.map AtP.name)=true->attrsGo sc al out= .ok (out++al.map AtP.noSp)
 | [],out,_,_=>by rw[attrsGo,Yr,ZX]
 |a::t,out,h,ho=>by
  unfold plainAs at h
  rw[Zch,ZF,ZF] at h
  obtain ⟨⟨F,H⟩,I⟩:=h
  have D:a.name≠xmlnsL:=by simpa using H
  rw[attrsOk] at ho
  simp only[ZF,JD] at ho
  have A:(out.any λb=>b.space== [] && b.name==a.name)=false:=by
   rw[List.any_eq_false]
   intro b J e
   have K:b.name=a.name:=by
    rw[ZF] at e
    simpa using e.2
   have:(out.map AtP.name).contains a.name=true:=by
    rw[Xs,<-K]
    exact Yc J
   rw[this] at ho
   cases ho.1.1.1.2
  have ih:=EG sc t (out++ [a.noSp]) I (by rw[ZO];exact ho.2)
  rw[attrsGo,ZaN F D,Zf (by simp),VD F]
  dsimp only[Option.getD]
  rw[Zi rfl]
  dsimp only
  rw[A,Zf (by simp)]
  show attrsGo sc t (out++ [a.noSp])=_
  rw[ih,ZL,ZN]
  rfl
theorem Zc8:∀(al:List AtP) (seen:List (List UInt8)),attrsOk al seen=true->(al.map AtP.noSp).map AtP.bare=al.map AtP.bare
 | [],_,_=>rfl
 |a::t,seen,h=>by
  rw[attrsOk] at h
  simp only[ZF] at h
  have A:a.space= []:=by simpa using h.1.1.1.1
  rw[ZL,ZL,ZL,Zc8 t _ h.2]
  unfold AtP.noSp AtP.bare
  rw[A]
theorem Zg7 {n:Nd} {ns:List UInt8} (A:lookL sc []=some ns) (D:isNm n.name=true) (H:n.name≠xmlnsL) (h:plainAs n.attrs=true) (F:attrsOk n.attrs []=true):
 headP n sc= .ok (ns,n.name,n.attrs.map AtP.noSp,sc):=by
 unfold headP;rw[VD D];dsimp only;rw[Zf (by decide),EH sc _ h];dsimp only;rw[A];dsimp only;rw[EG sc _ [] h F];rfl
mutual
theorem Zdn {sc:Scope} {ns:List UInt8} (hl:lookL sc []=some ns):∀(n:Nd) (d:Nat),nodeOk d n=true->n.plain=true->∃m,resP n sc= .ok m/\m.bare=n.bare.inNs ns
 | .mk k s nm al ks t a,d,ho,hp=>by
  rw[nodeOk] at ho
  simp only[ZF,ZV,UP] at ho
  obtain ⟨⟨⟨⟨⟨⟨rfl,hd⟩,rfl⟩,rfl⟩,hq⟩,ha⟩,hks⟩:=ho
  rw[Nd.plain] at hp
  simp only[bne_self_eq_false,Bool.false_or,ZF] at hp
  obtain ⟨⟨⟨hn,hx⟩,hal⟩,hkp⟩:=hp
  obtain ⟨ms,h1,h2⟩:=Kh hl ks d false hks hkp
  have hh:=Zg7 (n:= .mk 0 [] nm al ks [] a) hl hn (by simpa [Nd.name] using hx) hal ha
  refine ⟨.mk 0 ns nm (al.map AtP.noSp) ms [] a,?_,?_⟩
  ·rw[resP,hh]
   dsimp only
   rw[h1]
   rfl
  ·rw[Nd.bare,Nd.bare,Nd.inNs,Zi rfl,h2,Zc8 al [] ha]
theorem Kh {sc:Scope} {ns:List UInt8} (hl:lookL sc []=some ns):∀(ks:List Nd) (d:Nat) (data:Bool),kidsOk d data ks=true->Nds.plain ks=true->∃ms,resKids ks sc= .ok ms/\Nds.bare ms=Nds.inNs ns (Nds.bare ks)
 | [],d,data,_,_=>⟨[],rfl,rfl⟩
 |x::xs,d,data,ho,hp=>by
  rw[kidsOk,ZF] at ho
  rw[Nds.plain,ZF] at hp
  obtain ⟨ms,h1,h2⟩:=Kh hl xs d _ ho.2 hp.2
  by_cases hx:x.kind=1
  ·refine ⟨x::ms,?_,?_⟩
   ·rw[resKids,Zf (by omega)]
    dsimp only
    rw[h1]
   ·rw[Nds.bare,Nds.bare,Nds.inNs,h2]
    obtain ⟨k,s,n,al,ks,t,a⟩:=x
    simp only[Nd.kind] at hx
    subst hx
    rw[Nd.bare,Nd.inNs,Zf (by decide)]
  ·have ho1:=ho.1
   rw[Zf hx] at ho1
   obtain ⟨m,h3,h4⟩:=Zdn hl x (d+1) ho1 hp.1
   have hk:x.kind=0:=by
    obtain ⟨k,s,n,al,ks,t,a⟩:=x
    rw[nodeOk] at ho1
    simp only[ZF,ZV] at ho1
    exact ho1.1.1.1.1.1.1
   refine ⟨m::ms,?_,?_⟩
   ·rw[resKids,Zi hk,h3]
    dsimp only
    rw[h1]
   ·rw[Nds.bare,Nds.bare,Nds.inNs,h2,h4]
end
theorem Ie:∀(al:List AtP) (seen:List (List UInt8)),attrsOk (al.map AtP.bare) seen=attrsOk al seen
 | [],_=>rfl
 |a::t,seen=>by
  rw[ZL,attrsOk,attrsOk,Ie t]
  rfl
theorem Zd9 (al:List AtP):plainAs (al.map AtP.bare)=plainAs al:=by
 unfold plainAs;rw[List.all_map];rfl
mutual
theorem Vw:∀(n:Nd) (d:Nat),nodeOk d n.bare=nodeOk d n
 | .mk k s nm al ks t a,d=>by rw[Nd.bare,nodeOk,nodeOk,Ie,EX ks]
theorem EX:∀(ks:List Nd) (d:Nat) (data:Bool),kidsOk d data (Nds.bare ks)=kidsOk d data ks
 | [],d,data=>by rw[Nds.bare]
 |x::xs,d,data=>by
  rw[Nds.bare,kidsOk,kidsOk,EX xs,I1,Vw x]
  obtain ⟨k,s,nm,al,ks,t,a⟩:=x
  rw[Nd.bare]
  have h1:(al.map AtP.bare).isEmpty=al.isEmpty:=by cases al<;>rfl
  have h2:(Nds.bare ks).isEmpty=ks.isEmpty:=by cases ks<;>simp[Nds.bare]
  simp only[Nd.kind,Nd.text,Nd.space,Nd.name,Nd.attrs,Nd.kids,h1,h2]
  rfl
end
mutual
theorem KY:∀n:Nd,n.bare.plain=n.plain
 | .mk k s nm al ks t a=>by rw[Nd.bare,Nd.plain,Nd.plain,Zd9,E1 ks]
theorem E1:∀ks:List Nd,Nds.plain (Nds.bare ks)=Nds.plain ks
 | []=>by rw[Nds.bare]
 |x::xs=>by rw[Nds.bare,Nds.plain,Nds.plain,KY x,E1 xs]
end
mutual
theorem Zfi:∀(n:Nd) (d:Nat),nodeOk d n=true->n.inNs []=n
 | .mk k s nm al ks t a,d,h=>by
  rw[nodeOk] at h
  simp only[ZF,ZV,UP] at h
  obtain ⟨⟨⟨⟨⟨⟨rfl,hd⟩,rfl⟩,rfl⟩,hq⟩,ha⟩,hks⟩:=h
  rw[Nd.inNs,Zi rfl,ZcV ks d false hks]
theorem ZcV:∀(ks:List Nd) (d:Nat) (data:Bool),kidsOk d data ks=true->Nds.inNs [] ks=ks
 | [],d,data,_=>by rw[Nds.inNs]
 |x::xs,d,data,h=>by
  rw[kidsOk,ZF] at h
  rw[Nds.inNs,ZcV xs d _ h.2]
  by_cases hx:x.kind=1
  ·obtain ⟨k,s,nm,al,ks,t,a⟩:=x
   simp only[Nd.kind] at hx
   subst hx
   rw[Nd.inNs,Zf (by decide)]
  ·have h1:=h.1
   rw[Zf hx] at h1
   rw[Zfi x _ h1]
end
theorem Zks (n:Nd) (h:nodeOk 1 n=true) (K:n.plain=true):∃m r,docP (docW n)= .ok m/\resP m []= .ok r/\r.bare=n.bare:=by
 obtain ⟨m,F,A⟩:=Ziu n h;have J:nodeOk 1 m=true:=by rw[<-Vw,A,Vw];exact h
 have D:m.plain=true:=by rw[<-KY,A,KY];exact K
 obtain ⟨r,H,I⟩:=Zdn (sc:= []) (ns:= []) (by decide) m 1 J D;refine ⟨m,r,F,H,?_⟩;rw[I,A,Zfi n.bare 1 (by rw[Vw];exact h)]
end
section
variable {d:Nat} {path:List ByteArray} {s t:List UInt8} {α:Type}
def outl (f:Fd):Fd:=⟨f.path,f.id,f.title,f.link, -62135596800,[]⟩
theorem Iz (s:ByteArray):str (lst s)=s:=Es s
theorem ZeJ {s:ByteArray} (h:validS s=true) (F:s≠noS):coll (lst s)≠ []:=by
 intro e;have A:=Xo h;unfold collapse at A;have D:coll s.data.toList= []:=e;rw[D] at A;exact F A.symm
def Pref (path:List ByteArray) (f:Fd):Prop:=∃r,f.path=path++r
theorem Pref.len {f:Fd} (h:Pref path f):path.length<=f.path.length:=by
 obtain ⟨r,A⟩:=h;rw[A,Zc];omega
theorem Pref.eq {f:Fd} (h:Pref path f) (D:f.path.length=path.length):f.path=path:=by
 obtain ⟨r,A⟩:=h;have:r= []:=Zv (by rw[A,Zc] at D;omega);rw[A,this,ZX]
theorem Pref.next {f:Fd} (D:path.length=d) (h:Pref path f) (F:d<f.path.length):Pref (path++ [pathAt f d]) f:=by
 obtain ⟨r,A⟩:=h;cases r with
 |nil=>rw[A,ZX] at F;omega
 |cons c t=>
  refine ⟨t,?_⟩;have:pathAt f d=c:=by unfold pathAt;rw[A,<-D,Z1,Yp (Zb _),Nat.sub_self];rfl
  rw[this,A,ZN];rfl
theorem ZfV (path:List ByteArray) (a b:List ByteArray):pathCmp (path++a) (path++b)=pathCmp a b:=by
 induction path with
 |nil=>rfl
 |cons c t ih=>show pathCmp (c::(t++a)) (c::(t++b))=_;rw[pathCmp,Zi (VB.self c)];exact ih
def asc (l:List Fd):Prop:=l.Pairwise λa b=>pathCmp a.path b.path<=0
theorem Gq (Q:path.length=d):∀{l:List Fd},asc l->(∀x∈l,Pref path x)->
 (∀x∈l.takeWhile (λx=>decide (x.path.length=d)),x.path=path)/\(∀x∈l.drop (l.takeWhile λx=>decide (x.path.length=d)).length,d<x.path.length)
 | [],_,_=>⟨(by intro x h;cases h),(by intro x h;simp at h)⟩
 |a::t,hs,hp=>by
  have H:=hp a ZH;have D:=hs;unfold asc at D;rw[XT] at D;have ih:=Gq Q (l:=t) D.2 λx A=>hp x (ZD _ A);by_cases J:a.path.length=d
  ·rw[Yn,Zi (by simpa using J)];refine ⟨λx A=> ?_,λx A=> ?_⟩
   ·rcases ZJ.1 A with rfl|A
    ·exact H.eq (by omega)
    ·exact ih.1 x A
   ·rw[Ze,List.drop_succ_cons] at A;exact ih.2 x A
  ·rw[Yn,Zf (by simpa using J)];refine ⟨(by intro x h;cases h),λx A=> ?_⟩;have F:d<a.path.length:=(by have:=H.len;omega);rw[ZP,J0] at A;rcases ZJ.1 A with rfl|A
   ·exact F
   ·obtain ⟨r,M⟩:=hp x (ZD _ A);obtain ⟨q,K⟩:=H;have I:=D.1 x A;rw[K,M,ZfV] at I;cases r with
    |nil=>
     cases q with
     |nil=>rw[K,ZX] at F;omega
     |cons c q=>rw[pathCmp] at I;omega
    |cons c r=>rw[M,Zc,Ze];omega
def okX (f:Fd):Prop:=coll (lst f.id)≠ []/\(∀p∈f.path,coll (lst p)≠ [])/\f.path.length<=64
theorem Zh5 {f:Fd} (h:okH f=true):okX f:=by
 obtain ⟨F,A,H,J,I⟩:=Jv.1 h;refine ⟨ZeJ (A _ (by unfold strsF;simp)) H,λp D=>ZeJ (A p (by unfold strsF;simp[D])) (I p D),F⟩
theorem ZiX (f:Fd):isEl outlineL (feedN f)=true:=by unfold feedN;dsimp only;split<;>rfl
theorem ZlC (f:Fd):attrL (feedN f) xmlUrlL=some (lst f.id):=by unfold feedN;dsimp only;split<;>rfl
theorem Zjr (f:Fd):nameL (feedN f)=lst f.title:=by unfold feedN;dsimp only;split<;>rfl
theorem Zja (f:Fd):str ((attrL (feedN f) htmlUrlL).getD [])=f.link:=by
 unfold feedN;dsimp only;split
 ·rename_i h;show str []=f.link;have:lst f.link= []:=Zv h;rw[<-this,Iz]
 ·show str (lst f.link)=f.link;exact Iz _
theorem Zjz (f:Fd):opFd f.path (feedN f) (lst f.id)=outl f:=by
 unfold opFd outl;rw[Zjr,Zja,Iz,Iz]
theorem EZ (rest:List Nd):∀l:List Fd,(∀x∈l,x.path=path/\okX x)->visKs (l.map feedN++rest) path=moreF (l.map outl) (visKs rest path)
 | [],_=>(Vu _).symm
 |x::t,h=>by
  have D:=h x ZH
  have ih:=EZ rest t λy F=>h y (ZD _ F)
  have A:=Zbj (out:= []) (t:=t.map feedN++rest) (path:=path) (ZiX x) (ZlC x) D.2.1
  rw[Vu] at A
  rw[ZL,YH,A,ih,<-D.1,Zjz]
  cases visKs rest x.path with
  |error e=>rfl
  |ok m=>rfl
def foldN (s:ByteArray) (ks:List Nd):Nd:=withP (elemN outlineL ks) [(textL,lst s)]
theorem ZiY (s:ByteArray) (ks:List Nd):isEl outlineL (foldN s ks)=true:=rfl
theorem ZlD (s:ByteArray) (ks:List Nd):attrL (foldN s ks) xmlUrlL=none:=rfl
theorem Zc6 (s:ByteArray) (ks:List Nd):nameL (foldN s ks)=lst s:=rfl
def elems (ks:List Nd):Prop:=∀k∈ks,k.kind=0
theorem X0 {ks:List Nd} (h:elems ks):ks.filter (λk=> !(decide (k.kind=1) && k.text.isEmpty))=ks:=by
 rw[List.filter_eq_self];intro k A;rw[h k A];rfl
theorem ZlF {s:ByteArray} {ks:List Nd} (h:elems ks) (path:List ByteArray):visP (foldN s ks) path=visKs ks path:=by
 unfold foldN elemN withP;rw[visP,X0 h]
theorem ZeT (l:List Fd):elems (l.map feedN):=λk h=>by
 obtain ⟨f,_,rfl⟩:=ZT.1 h;unfold feedN;dsimp only;split<;>rfl
theorem ZiB {a b:List Nd} (h:elems a) (A:elems b):elems (a++b):=λk D=>(Zu.1 D).elim (h k) (A k)
theorem EJ (rec_:List Fd->List Nd) (d:Nat):∀(f:Nat) (l:List Fd),elems (foldsP rec_ d f l)
 |0,l=>(by rw[foldsP];intro k h;cases h)
 |f+1,[]=>(by rw[foldsP];intro k h;cases h)
 |f+1,x::t=>by
  rw[foldsP]
  intro k h
  rcases ZJ.1 h with rfl|h
  ·rfl
  ·exact EJ rec_ d f _ k h
theorem JQ:∀(f d:Nat) (l:List Fd),elems (outsP f d l)
 |0,d,l=>(by rw[outsP];intro k h;cases h)
 |f+1,d,l=>by
  rw[outsP]
  exact ZiB (ZeT _) (EJ _ _ _ _)
theorem Zam (x:Fd) (t:List Fd) (d:Nat):0<((x::t).takeWhile λy=>decide (pathAt y d=pathAt x d)).length:=by
 rw[Yn,Zi (by simp)];simp
theorem ZdT (x:Fd) (t:List Fd) (d:Nat):∀y∈(x::t).take ((x::t).takeWhile λy=>decide (pathAt y d=pathAt x d)).length,pathAt y d=pathAt x d:=by
 intro y h;rw[show (x::t).take ((x::t).takeWhile λy=>decide (pathAt y d=pathAt x d)).length=(x::t).takeWhile λy=>decide (pathAt y d=pathAt x d) from (Xg.1 (Jg _)).symm] at h;have:=List.all_takeWhile (p:=λy=>decide (pathAt y d=pathAt x d)) (l:=x::t);rw[Yj] at this;simpa using this y h
theorem Qc {a b:List Fd} (h:a.Sublist b) (A:asc b):asc a:=List.Pairwise.sublist h A
theorem Za5 {rec_:List Fd->List Nd} (Q:path.length=d)
 (D:∀(s:ByteArray) (g:List Fd),asc g->(∀x∈g,Pref (path++ [s]) x/\okX x)->elems (rec_ g)/\visKs (rec_ g) (path++ [s])= .ok (g.map outl)):
 ∀(f:Nat) (l:List Fd),l.length<f->asc l->(∀x∈l,Pref path x/\okX x/\d<x.path.length)->visKs (foldsP rec_ d f l) path= .ok (l.map outl)
 |0,l,h,_,_=>by omega
 |f+1,[],_,_,_=>(by rw[foldsP];exact Zdy path)
 |f+1,x::t,hf,hs,hl=>by
  obtain ⟨n,S⟩:∃n,((x::t).takeWhile λy=>decide (pathAt y d=pathAt x d)).length=n:=⟨_,rfl⟩;have I:=Zam x t d;have A:=ZdT x t d;rw[S] at I A;rw[foldsP];(try dsimp only);rw[S];have J:=hl x ZH;have R:=D (pathAt x d) ((x::t).take n) (Qc (List.take_sublist _ _) hs) λy K=>by have H:=hl y (Xx K);refine ⟨?_,H.2.1⟩;rw[<-A y K];exact H.1.next Q H.2.2
  have F:pathAt x d∈x.path:=by unfold pathAt;rw[Z1,Zm J.2.2];exact ZG _
  have ih:=Za5 Q D f ((x::t).drop n) (by rw[Ze] at hf;rw[Zk,Ze];omega) (Qc (List.drop_sublist _ _) hs) λy K=>hl y (Yz K);have M:=Zc4 (out:= []) (t:=foldsP rec_ d f ((x::t).drop n)) (path:=path) (ZiY (pathAt x d) (rec_ ((x::t).take n))) (ZlD _ _) (by rw[Zc6];exact J.2.1.2.1 _ F) (by have U:=J.2.1.2.2;have V:=J.2.2;omega);rw[Vu,Zc6,Iz,ZlF R.1,R.2] at M;show visKs (foldN (pathAt x d) (rec_ ((x::t).take n))::_) path=_;rw[M];dsimp only;rw[ih];unfold moreF;dsimp only;rw[Yu,<-ZO,YK]
theorem Zdg:∀(f d:Nat) (path:List ByteArray) (l:List Fd),path.length=d->65<=f+d->d<=64\/l= []->asc l->(∀x∈l,Pref path x/\okX x)->visKs (outsP f d l) path= .ok (l.map outl)
 |0,d,path,l,hd,hf,h64,hs,hl=>by
  have:l= []:=h64.resolve_left (by omega)
  subst this
  rw[outsP]
  exact Zdy path
 |f+1,d,path,l,hd,hf,h64,hs,hl=>by
  obtain ⟨n,F⟩:∃n,(l.takeWhile λx=>decide (x.path.length=d)).length=n:=⟨_,rfl⟩
  have H:=Gq hd hs λx h=>(hl x h).1
  have A:l.takeWhile (λx=>decide (x.path.length=d))=l.take n:=by rw[<-F];exact Xg.1 (Jg _)
  rw[F,A] at H
  rw[outsP,A,show (l.take n).length=n by rw[<-A,F],EZ _ (l.take n) λx h=>⟨H.1 x h,(hl x (Xx h)).2⟩,
   Za5 hd (λs g K D=>⟨JQ _ _ _,Zdg f (d+1) (path++ [s]) g (by rw[Zc,hd];rfl) (by omega) ?_ K D⟩) (l.length+1) (l.drop n) (by rw[Zk];omega) (Qc (List.drop_sublist _ _) hs) λx h=>⟨(hl x (Yz h)).1,(hl x (Yz h)).2,H.2 x h⟩]
  ·unfold moreF
   dsimp only
   rw[<-ZO,YK]
  ·cases g with
   |nil=>exact Or.inr rfl
   |cons y g=>
    left
    have J:=D y ZH
    have I:=J.1.len
    have M:=J.2.2.2
    rw[Zc,hd] at I
    simp only[Ze,ZP] at I
    omega
theorem ZdG {l:List Fd} (h:okA l=true):asc l:=by
 have H:=(Qt.1 h).2.1;refine List.Pairwise.imp ?_ H;intro a b A;have D:feedCmp a b<0:=by have F:ltF a b=true:=A;simpa [ltF] using F
 unfold feedCmp at D;split at D<;>omega
theorem Zkl (l:List Fd):(encP l).kids= [elemN headL [],elemN bodyL (outsP 66 0 l)]:=rfl
theorem ZjD {l:List Fd} (h:okA l=true):opmlP (encP l)= .ok (l.map outl):=by
 have A:=Zdg 66 0 [] l rfl (by omega) (Or.inl (by omega)) (ZdG h) λx F=>⟨⟨x.path,rfl⟩,Zh5 (JH.1 ((Qt.1 h).1 x F)).1⟩;unfold opmlP;rw[Zf (by rintro (e|e|e|e)<;>exact e rfl),Zkl];have D: [elemN headL [],elemN bodyL (outsP 66 0 l)].find? (isEl bodyL)=some (elemN bodyL (outsP 66 0 l)):=rfl;rw[D];dsimp only;unfold elemN;rw[visP,X0 (JQ _ _ _)];exact A
def okO {α:Type}:Except PErr α->Option α
 | .ok x=>some x
 | .error _=>none
theorem Zna {e:Except PErr α} {x:α} (h:okO e=okO (.ok x)):e= .ok x:=by
 cases e with
 |error a=>cases h
 |ok a=>injection h with h;rw[h]
theorem U6 (n:Nd) (nm:List UInt8):attrL n.bare nm=attrL n nm:=by
 obtain ⟨k,s,m,al,ks,t,a⟩:=n;rw[Nd.bare];unfold attrL attrIn;simp only[Nd.attrs]
 induction al with
 |nil=>rfl
 |cons b t ih=>
  rw[ZL,List.find?_cons,List.find?_cons];cases hb:(b.space== [] && b.name==nm) with
  |true=>rw[show (b.bare.space== [] && b.bare.name==nm)=true from hb];rfl
  |false=>rw[show (b.bare.space== [] && b.bare.name==nm)=false from hb];exact ih
theorem ZcY (nm:List UInt8) (n:Nd):isEl nm n.bare=isEl nm n:=by
 obtain ⟨k,s,m,al,ks,t,a⟩:=n;rw[Nd.bare];rfl
theorem Zbk (n:Nd):nameL n.bare=nameL n:=by unfold nameL;rw[U6,U6]
theorem Zjy (path:List ByteArray) (n:Nd) (id:List UInt8):opFd path n.bare id=opFd path n id:=by unfold opFd;rw[Zbk,U6]
mutual
theorem Zgu:∀(n:Nd) (path:List ByteArray),okO (visP n.bare path)=okO (visP n path)
 | .mk k s m al ks t a,path=>by
  rw[Nd.bare,visP,visP]
  exact ZbO ks path
theorem ZbO:∀(ks:List Nd) (path:List ByteArray),okO (visKs (Nds.bare ks) path)=okO (visKs ks path)
 | [],path=>by rw[Nds.bare]
 |x::xs,path=>by
  have ih:=ZbO xs path
  rw[Nds.bare,visKs,visKs,ZcY,U6,Zbk]
  have h1:okO (if isEl outlineL x=true then
   match attrL x xmlUrlL with
   |some id=>if coll id= [] then .error (x.bare.at_,19) else .ok [opFd path x.bare id]
   |none=>if coll (nameL x)= [] then .error (x.bare.at_,19) else if 64<=path.length then .error (x.bare.at_,9) else visP x.bare (path++ [str (nameL x)])
   else .ok []:Except PErr (List Fd))=okO (if isEl outlineL x=true then
    match attrL x xmlUrlL with
    |some id=>if coll id= [] then .error (x.at_,19) else .ok [opFd path x id]
    |none=>if coll (nameL x)= [] then .error (x.at_,19) else if 64<=path.length then .error (x.at_,9) else visP x (path++ [str (nameL x)])
   else .ok []:Except PErr (List Fd)):=by
   split
   ·split
    ·rw[Zjy]
     split<;>rfl
    ·split
     ·rfl
     ·split
      ·rfl
      ·exact Zgu x _
   ·rfl
  revert h1
  generalize (if isEl outlineL x=true then
   match attrL x xmlUrlL with
   |some id=>if coll id= [] then .error (x.bare.at_,19) else .ok [opFd path x.bare id]
   |none=>if coll (nameL x)= [] then .error (x.bare.at_,19) else if 64<=path.length then .error (x.bare.at_,9) else visP x.bare (path++ [str (nameL x)])
   else .ok []:Except PErr (List Fd))=A
  generalize (if isEl outlineL x=true then
   match attrL x xmlUrlL with
   |some id=>if coll id= [] then .error (x.at_,19) else .ok [opFd path x id]
   |none=>if coll (nameL x)= [] then .error (x.at_,19) else if 64<=path.length then .error (x.at_,9) else visP x (path++ [str (nameL x)])
   else .ok []:Except PErr (List Fd))=B
  revert ih
  generalize visKs (Nds.bare xs) path=C
  generalize visKs xs path=D
  intro h2 h1
  cases A with
  |error a=>
   cases B with
   |error b=>rfl
   |ok b=>cases h1
  |ok a=>
   cases B with
   |error b=>cases h1
   |ok b=>
    injection h1 with h1
    subst h1
    dsimp only
    cases C with
    |error c=>
     cases D with
     |error e=>rfl
     |ok e=>cases h2
    |ok c=>
     cases D with
     |error e=>cases h2
     |ok e=>
      injection h2 with h2
      subst h2
      rfl
end
theorem ZcE (nm:List UInt8):∀ks:List Nd,(Nds.bare ks).find? (isEl nm)=(ks.find? (isEl nm)).map Nd.bare
 | []=>by rw[Nds.bare];rfl
 |x::xs=>by
  rw[Nds.bare,List.find?_cons,List.find?_cons,ZcY,ZcE nm xs]
  cases isEl nm x<;>rfl
theorem Zdd (n:Nd):okO (opmlP n.bare)=okO (opmlP n):=by
 have A:=U6 n versionL;obtain ⟨k,s,m,al,ks,t,a⟩:=n;rw[Nd.bare] at A|-;unfold opmlP;rw[A];show okO (if k≠0\/s≠ []\/m≠opmlL\/attrL (Nd.mk k s m al ks t a) versionL≠some twoL then (.error (0,18):Except PErr (List Fd)) else match (Nds.bare ks).find? (isEl bodyL) with
  |none=> .error (0,19)
  |some b=>visP b [])=okO (if k≠0\/s≠ []\/m≠opmlL\/attrL (Nd.mk k s m al ks t a) versionL≠some twoL then (.error (a,18):Except PErr (List Fd)) else match ks.find? (isEl bodyL) with
  |none=> .error (a,19)
  |some b=>visP b [])
 rw[ZcE];by_cases h:k≠0\/s≠ []\/m≠opmlL\/attrL (Nd.mk k s m al ks t a) versionL≠some twoL
 ·rw[Zi h,Zi h];rfl
 ·rw[Zf h,Zf h];cases ks.find? (isEl bodyL) with
  |none=>rfl
  |some b=>exact Zgu b []
theorem Vo {s:ByteArray} (h:validS s=true):charsOk (lst s)=true:=by
 have A:=QW h;unfold checkS at A;exact YD A
def okC (f:Fd):Prop:=charsOk (lst f.id)=true/\charsOk (lst f.title)=true/\charsOk (lst f.link)=true/\∀p∈f.path,charsOk (lst p)=true
theorem Zmm {f:Fd} (h:okH f=true):okC f:=by
 obtain ⟨F,A,H,I,J⟩:=Jv.1 h;refine ⟨Vo (A _ (by unfold strsF;simp)),Vo (A _ (by unfold strsF;simp)),Vo (A _ (by unfold strsF;simp)),λp D=>Vo (A p (by unfold strsF;simp[D]))⟩
theorem Em:isQ outlineL=true:=by decide+kernel
theorem Zli:isQ typeL=true:=by decide+kernel
theorem ZhB:isQ textL=true:=by decide+kernel
theorem ZfX:isQ xmlUrlL=true:=by decide+kernel
theorem ZjI:isQ htmlUrlL=true:=by decide+kernel
theorem Znf:isQ opmlL=true:=by decide+kernel
theorem Zne:isQ headL=true:=by decide+kernel
theorem Znd:isQ bodyL=true:=by decide+kernel
theorem ZjJ:isQ versionL=true:=by decide+kernel
theorem Ei:isNm outlineL=true:=by decide+kernel
theorem ZkZ:isNm typeL=true:=by decide+kernel
theorem Zho:isNm textL=true:=by decide+kernel
theorem ZfI:isNm xmlUrlL=true:=by decide+kernel
theorem Zjo:isNm htmlUrlL=true:=by decide+kernel
theorem Zm9:isNm opmlL=true:=by decide+kernel
theorem Zm8:isNm headL=true:=by decide+kernel
theorem Zm7:isNm bodyL=true:=by decide+kernel
theorem Zjp:isNm versionL=true:=by decide+kernel
theorem ZmC:charsOk rssL=true:=by decide+kernel
theorem Znj:charsOk twoL=true:=by decide+kernel
theorem JX {a:Nat} {n:List UInt8} {al:List AtP} {ks:List Nd} (A:d<=100) (F:isQ n=true) (h:attrsOk al []=true) (D:kidsOk d false ks=true):nodeOk d (.mk 0 [] n al ks [] a)=true:=by
 rw[nodeOk,F,h,D,YD A];rfl
theorem Up {a:Nat} {n:List UInt8} {al:List AtP} {ks:List Nd} (D:isNm n=true) (F:(n !=xmlnsL)=true) (h:plainAs al=true) (A:Nds.plain ks=true):(Nd.mk 0 s n al ks t a).plain=true:=by
 rw[Nd.plain,D,F,h,A];rfl
theorem Zl8 {f:Fd} (h:okC f) (F:d<=100):nodeOk d (feedN f)=true/\(feedN f).plain=true:=by
 obtain ⟨A,D,H,I⟩:=h;unfold feedN;dsimp only;split
 ·refine ⟨JX F Em ?_ rfl,Up Ei (by decide) ?_ rfl⟩
  ·show attrsOk [⟨[],typeL,rssL,0⟩,⟨[],textL,lst f.title,0⟩,⟨[],xmlUrlL,lst f.id,0⟩] []=true;simp only[attrsOk,Zli,ZhB,ZfX,ZmC,A,D];decide
  ·show plainAs [⟨[],typeL,rssL,0⟩,⟨[],textL,lst f.title,0⟩,⟨[],xmlUrlL,lst f.id,0⟩]=true;simp only[plainAs,Zch,List.all_nil,ZkZ,Zho,ZfI];decide
 ·refine ⟨JX F Em ?_ rfl,Up Ei (by decide) ?_ rfl⟩
  ·show attrsOk [⟨[],typeL,rssL,0⟩,⟨[],textL,lst f.title,0⟩,⟨[],xmlUrlL,lst f.id,0⟩,⟨[],htmlUrlL,lst f.link,0⟩] []=true;simp only[attrsOk,Zli,ZhB,ZfX,ZjI,ZmC,A,D,H];decide
  ·show plainAs [⟨[],typeL,rssL,0⟩,⟨[],textL,lst f.title,0⟩,⟨[],xmlUrlL,lst f.id,0⟩,⟨[],htmlUrlL,lst f.link,0⟩]=true;simp only[plainAs,Zch,List.all_nil,ZkZ,Zho,ZfI,Zjo];decide
theorem Qq:∀(ks:List Nd) (data:Bool),elems ks->(∀k∈ks,nodeOk (d+1) k=true)->kidsOk d data ks=true
 | [],_,_,_=>rfl
 |x::xs,data,he,h=>by
  rw[kidsOk,Zf (by rw[he x ZH];decide),h x ZH,XC]
  exact Qq xs _ (λk A=>he k (ZD _ A)) λk A=>h k (ZD _ A)
theorem Qu:∀ks:List Nd,(∀k∈ks,k.plain=true)->Nds.plain ks=true
 | [],_=>rfl
 |x::xs,h=>by
  rw[Nds.plain,h x ZH,XC]
  exact Qu xs λk A=>h k (ZD _ A)
theorem Zl9 {s:ByteArray} {ks:List Nd} (H:charsOk (lst s)=true) (F:d<=100) (D:elems ks) (h:∀k∈ks,nodeOk (d+1) k=true/\k.plain=true):nodeOk d (foldN s ks)=true/\(foldN s ks).plain=true:=by
 have e1:foldN s ks= .mk 0 [] outlineL [⟨[],textL,lst s,0⟩] ks [] 0:=by unfold foldN elemN withP;rw[X0 D];rfl
 rw[e1];refine ⟨JX F Em ?_ (Qq ks false D λk A=>(h k A).1),Up Ei (by decide) ?_ (Qu ks λk A=>(h k A).2)⟩
 ·simp only[attrsOk,ZhB,H];decide
 ·simp only[plainAs,Zch,List.all_nil,Zho];decide
theorem Ze8 {rec_:List Fd->List Nd} {e:Nat} (J:path.length=d) (K:e<=100)
 (h:∀(s:ByteArray) (g:List Fd),asc g->(∀x∈g,Pref (path++ [s]) x/\okC x)->elems (rec_ g)/\∀k∈rec_ g,nodeOk (e+1) k=true/\k.plain=true):
 ∀(f:Nat) (l:List Fd),asc l->(∀x∈l,Pref path x/\okC x/\d<x.path.length)->∀k∈foldsP rec_ d f l,nodeOk e k=true/\k.plain=true
 |0,l,_,_=>(by rw[foldsP];intro k A;cases A)
 |f+1,[],_,_=>(by rw[foldsP];intro k A;cases A)
 |f+1,x::t,hs,hl=>by
  rw[foldsP];intro k A;rcases ZJ.1 A with rfl|A
  ·have H:=ZdT x t d;have M:=h (pathAt x d) ((x::t).take ((x::t).takeWhile λy=>decide (pathAt y d=pathAt x d)).length) (Qc (List.take_sublist _ _) hs) λy I=>(by have F:=hl y (Xx I);refine ⟨?_,F.2.1⟩;rw[<-H y I];exact F.1.next J F.2.2);have Q:=hl x ZH;have D:pathAt x d∈x.path:=(by unfold pathAt;rw[Z1,Zm Q.2.2];exact ZG _);exact Zl9 (Q.2.1.2.2.2 _ D) K M.1 M.2
  ·exact Ze8 J K h f _ (Qc (List.drop_sublist _ _) hs) (λy I=>hl y (Yz I)) k A
theorem Zh7:∀(f d e:Nat) (path:List ByteArray) (l:List Fd),path.length=d->f+e<=90->asc l->(∀x∈l,Pref path x/\okC x)->∀k∈outsP f d l,nodeOk e k=true/\k.plain=true
 |0,d,e,path,l,_,_,_,_=>(by rw[outsP];intro k h;cases h)
 |f+1,d,e,path,l,hd,hf,hs,hl=>by
  obtain ⟨n,H⟩:∃n,(l.takeWhile λx=>decide (x.path.length=d)).length=n:=⟨_,rfl⟩
  have I:=Gq hd hs λx A=>(hl x A).1
  have D:l.takeWhile (λx=>decide (x.path.length=d))=l.take n:=by rw[<-H];exact Xg.1 (Jg _)
  rw[H] at I
  rw[outsP,D,show (l.take n).length=n by rw[<-D,H]]
  intro k h
  rcases Zu.1 h with h|h
  ·obtain ⟨x,A,rfl⟩:=ZT.1 h
   exact Zl8 (hl x (Xx A)).2 (by omega)
  ·exact Ze8 hd (by omega) (λs g J F=>⟨JQ _ _ _,Zh7 f (d+1) (e+1) (path++ [s]) g (by rw[Zc,hd];rfl) (by omega) J F⟩) (l.length+1) (l.drop n) (Qc (List.drop_sublist _ _) hs) (λx A=>⟨(hl x (Yz A)).1,(hl x (Yz A)).2,I.2 x A⟩) k h
theorem ZlA {K:List Nd} (h:elems K):withP (elemN opmlL K) [(versionL,twoL)]= .mk 0 [] opmlL [⟨[],versionL,twoL,0⟩] K [] 0:=by
 unfold elemN;rw[X0 h];rfl
theorem Zky {l:List Fd} (h:okA l=true):nodeOk 1 (encP l)=true/\(encP l).plain=true:=by
 have J:=Zh7 66 0 3 [] l rfl (by omega) (ZdG h) λx M=>⟨⟨x.path,rfl⟩,Zmm (JH.1 ((Qt.1 h).1 x M)).1⟩;have K:=JQ 66 0 l;have e1:elemN bodyL (outsP 66 0 l)= .mk 0 [] bodyL [] (outsP 66 0 l) [] 0:=by unfold elemN;rw[X0 K]
 have F:nodeOk 2 (elemN bodyL (outsP 66 0 l))=true/\(elemN bodyL (outsP 66 0 l)).plain=true:=by rw[e1];exact ⟨JX (by omega) Znd rfl (Qq _ false K λk A=>(J k A).1),Up Zm7 (by decide) rfl (Qu _ λk A=>(J k A).2)⟩
 have H:nodeOk 2 (elemN headL [])=true/\(elemN headL []).plain=true:=⟨JX (by omega) Zne rfl rfl,Up Zm8 (by decide) rfl rfl⟩;have I:elems [elemN headL [],elemN bodyL (outsP 66 0 l)]:=λk A=>by
  rcases ZJ.1 A with rfl|A
  ·rfl
  ·rw[Zo.1 A];rfl
 have D:∀k∈ [elemN headL [],elemN bodyL (outsP 66 0 l)],nodeOk 2 k=true/\k.plain=true:=λk A=>by
  rcases ZJ.1 A with rfl|A
  ·exact H
  ·rw[Zo.1 A];exact F
 unfold encP;rw[ZlA I];refine ⟨JX (by omega) Znf ?_ (Qq _ false I λk A=>(D k A).1),Up Zm9 (by decide) ?_ (Qu _ λk A=>(D k A).2)⟩
 ·rw[attrsOk,ZjJ,Znj];rfl
 ·show plainAs [⟨[],versionL,twoL,0⟩]=true;unfold plainAs;rw[Zch,Zjp];rfl
theorem Zbo {l:List Fd} (h:okA l=true):∃m r,docP (docW (encP l))= .ok m/\resP m []= .ok r/\opmlP r= .ok (l.map outl):=by
 obtain ⟨D,F⟩:=Zky h;obtain ⟨m,r,H,I,J⟩:=Zks (encP l) D F;refine ⟨m,r,H,I,?_⟩;have A:=Zdd r;rw[J,Zdd,ZjD h] at A;exact Zna A.symm
end
section
variable {B c f g k m n:Nat} {P:Program} {a:Act} {e:TypeId} {o:Oper} {ops:Array Oper} {w:World}
section
variable {P:Program} {md:Region.Mode} {ops:Array Oper} {Q:Exit→Act→World→Prop} {S:World→Prop} {T:Array Bool→Act→World→Prop} {t:Nat}
def wpAnyC (P:Program) (md:Region.Mode) (ops:Array Oper) (Q:Exit->Act->Wq->Prop) (S:Wq->Prop) (T:Array Bool->Act->Wq->Prop):Nat->Array Bool->Act->Wq->Prop
 |0,listed,a,w=>T listed a w
 |f+1,listed,a,w=>(Region.ready md ops listed= []->Q .normal a w)/\
  ∀i∈Region.ready md ops listed,wpOp P ops Q i (λa' w'=>S w'/\wpAnyC P md ops Q S T f (listed.setIfInBounds i true) a' w') a w
theorem ZbU (D:∀L a w,T L a w->wpAnyT P md ops Q S t m L a w):∀(f k:Nat) (listed:Array Bool) (a:Act) (w:Wq),k=f+m->wpAnyC P md ops Q S T f listed a w->wpAnyT P md ops Q S t k listed a w
 |0,k,listed,a,w,hk,h=>by rw[hk,Ys];exact D _ _ _ h
 |f+1,k,listed,a,w,hk,h=>by
  rw[hk,show f+1+m=(f+m)+1 by omega]
  exact ⟨h.1,λi F=>JU (λa' w' A=>⟨λ_=>A.1,ZbU D f (f+m) _ a' w' rfl A.2⟩) (h.2 i F)⟩
theorem ZgC {l:List Oper} {listed:Array Bool} (H:k=f+m) (A:Array Bool) (R:Act->Act->Wq->Prop)
 (D:wpAnyC P md l.toArray Q S (λL a' w'=>L=A/\R a a' w') f listed a w) (F:∀a' w',R a a' w'->wpAnyT P md l.toArray Q S t m A a' w'):wpAnyT P md l.toArray Q S t k listed a w:=
 ZbU (λL a w h=>by obtain ⟨rfl,h⟩:=h;exact F a w h) f k listed a w H D
theorem ZbT (D:∀L a w,T L a w->wpAnyS P md ops Q S m L a w):∀(f k:Nat) (listed:Array Bool) (a:Act) (w:Wq),k=f+m->wpAnyC P md ops Q S T f listed a w->wpAnyS P md ops Q S k listed a w
 |0,k,listed,a,w,hk,h=>by rw[hk,Ys];exact D _ _ _ h
 |f+1,k,listed,a,w,hk,h=>by
  rw[hk,show f+1+m=(f+m)+1 by omega]
  exact ⟨h.1,λi F=>JU (λa' w' A=>⟨A.1,ZbT D f (f+m) _ a' w' rfl A.2⟩) (h.2 i F)⟩
theorem Zac {l:List Oper} {listed:Array Bool} (H:k=f+m) (A:Array Bool) (R:Act->Act->Wq->Prop)
 (D:wpAnyC P md l.toArray Q S (λL a' w'=>L=A/\R a a' w') f listed a w) (F:∀a' w',R a a' w'->wpAnyS P md l.toArray Q S m A a' w'):wpAnyS P md l.toArray Q S k listed a w:=
 ZbT (λL a w h=>by obtain ⟨rfl,h⟩:=h;exact F a w h) f k listed a w H D
section
variable {l:List Oper} {f:Nat} {listed:Array Bool} {a:Act} {w:World} {i j k:Nat} {oi oj ok:Oper}
end
end
section
variable {P:Program} {md:Region.Mode} {Q:Exit→Act→World→Prop} {S:World→Prop} {t:Nat} {l:List Oper} {f:Nat} {listed:Array Bool} {a:Act} {w:World} {i j:Nat} {oi oj:Oper}
theorem ZbV (M:l[i]? =some oi) (R:l[j]? =some oj) (V:Region.ready md l.toArray listed= [i,j])
 (H:∀K:Act->Wq->Prop,(∀a' w',((listed.setIfInBounds i true).getD t true=false->S w')->wpAnyT P md l.toArray Q S t f (listed.setIfInBounds i true) a' w'->K a' w')->if Region.wanted oi (yielded l.toArray a.tmps) then Oper.wp P oi a w K Q else K (a.put oi.dst undef) w)
 (I:∀K:Act->Wq->Prop,(∀a' w',((listed.setIfInBounds j true).getD t true=false->S w')->wpAnyT P md l.toArray Q S t f (listed.setIfInBounds j true) a' w'->K a' w')->if Region.wanted oj (yielded l.toArray a.tmps) then Oper.wp P oj a w K Q else K (a.put oj.dst undef) w):wpAnyT P md l.toArray Q S t (f+1) listed a w:=by
 refine ⟨λh=>(by rw[V] at h;cases h),λq A=> ?_⟩;have D:∀(q:Nat) (o:Oper),l[q]? =some o->(∀K:Act->Wq->Prop,(∀a' w',((listed.setIfInBounds q true).getD t true=false->S w')->wpAnyT P md l.toArray Q S t f (listed.setIfInBounds q true) a' w'->K a' w')->if Region.wanted o (yielded l.toArray a.tmps) then Oper.wp P o a w K Q else K (a.put o.dst undef) w)->
  wpOp P l.toArray Q q (λa' w'=>((listed.setIfInBounds q true).getD t true=false->S w')/\wpAnyT P md l.toArray Q S t f (listed.setIfInBounds q true) a' w') a w:=by
  intro q o X h
  have J:l.toArray[q]? =some o:=by rw[Yk];exact X
  have F:=h (λa' w'=>((listed.setIfInBounds q true).getD t true=false->S w')/\wpAnyT P md l.toArray Q S t f (listed.setIfInBounds q true) a' w') λ_ _ H I=>⟨H,I⟩
  unfold wpOp
  simp only[J]
  split
  ·rename_i U;rw[Zi U] at F;exact Or.inl F
  ·rename_i U;rw[Zf U] at F;exact F
 rw[V] at A;simp only[ZJ,Ya,Xn] at A;rcases A with A|A
 ·rw[A];exact D i oi M H
 ·rw[A];exact D j oj R I
theorem Vm (H:l[i]? =some oi) (M:Region.ready md l.toArray listed= [i])
 (D:∀K:Act->Wq->Prop,(∀a' w',((listed.setIfInBounds i true).getD t true=false->S w')->wpAnyT P md l.toArray Q S t f (listed.setIfInBounds i true) a' w'->K a' w')->if Region.wanted oi (yielded l.toArray a.tmps) then Oper.wp P oi a w K Q else K (a.put oi.dst undef) w):wpAnyT P md l.toArray Q S t (f+1) listed a w:=by
 refine ⟨λh=>(by rw[M] at h;cases h),λq J=> ?_⟩;rw[M] at J;rw[Zo.1 J];have F:l.toArray[i]? =some oi:=by rw[Yk];exact H
 have A:=D (λa' w'=>((listed.setIfInBounds i true).getD t true=false->S w')/\wpAnyT P md l.toArray Q S t f (listed.setIfInBounds i true) a' w') λ_ _ D R=>⟨D,R⟩;unfold wpOp;simp only[F];split
 ·rename_i I;rw[Zi I] at A;exact Or.inl A
 ·rename_i I;rw[Zf I] at A;exact A
theorem K8 (A:Region.ready md l.toArray listed= []) (h:Q .normal a w):wpAnyT P md l.toArray Q S t 0 listed a w:=⟨A,h⟩
end
theorem ZfR {size:Nat}:∀(vs:List Value) (j:Nat) (w:Wq) (xs:List Value),w.ownsRow B e size (.slice (some ⟨g,0,none⟩) n c) n xs->j+vs.length<=n*size->
 (w.setCells g j vs).ownsRow B e size (.slice (some ⟨g,0,none⟩) n c) n (xs.take j++vs++xs.drop (j+vs.length))
 | [],j,w,xs,h,_=>by rw[ZX,ZP,Nat.add_zero,YK];exact h
 |v::r,j,w,xs,h,hl=>by
  have A:=h.1;rw[Ze] at hl;have ih:=ZfR r (j+1) _ _ (Zh8 h (j:=j) (by omega) v) (by omega);have e1:(xs.set j v).take (j+1)=xs.take j++ [v]:=by rw[List.take_set,Zr (show j<xs.length by omega)];rw[List.set_append_right _ _ (by rw[ZK];omega)];rw[ZK,show j - min j xs.length=0 by omega];rfl
  have e2:(xs.set j v).drop (j+1+r.length)=xs.drop (j+(v::r).length):=by rw[Ze,show j+(r.length+1)=j+1+r.length by omega,List.drop_set_of_lt (by omega)]
  rw[e1,e2,ZN (xs.take j)] at ih;exact ih
theorem Qx (g:Nat):∀(vs:List Value) (j:Nat) (w:Wq),w.grownBy (w.setCells g j vs) (some g)
 | [],j,w=>(Ext.refl w).grown (some g)
 |v::r,j,w=>(Yx w ⟨g,j,none⟩ v).trans (Qx g r (j+1) _)
theorem VJ {K:Act->Wq->Prop} {Q:Exit->Act->Wq->Prop} {E:Prop} (H:o.guard=none) (ty:TypeId) (x y:Operand) (S:o.op= .store ty x y)
 (g A:Nat) (cells:Array Value) (Y:a.eval x= .pointer (some ⟨g,A,none⟩)) (Z:a.eval y= .agg cells)
 (I:(P.info? ty).map (·.size)=some cells.size) (M:∀j,j<cells.size->(w.cell? ⟨g,A+j,none⟩).isSome=true) (R:∀j,w.frozen? ⟨g,j,none⟩=false) (J:cells.all (·.oneCell')=true)
 (h:K (a.put o.dst undef) (w.setCells g A cells.toList)):if Region.wanted o (yielded ops a.tmps)=true then Oper.wp P o a w K Q else E:=by
 have X:Region.wanted o (yielded ops a.tmps)=true:=by simp[Region.wanted,H]
 rw[Zi X];have F:=run_storeCells_cells (P:=P) g A cells.toList 0 w (by simpa using M) (λj _=>R _) (λv V=>(Array.all_eq_true_iff_forall_mem.1 J) v (by simpa using V));have D:(storeVar ty ⟨g,A,none⟩ (.agg cells)).run P w= .ok () (w.setCells g A cells.toList):=by
  cases hq:P.info? ty with
  |none=>simp[hq] at I
  |some i=>have U:cells.size=i.size:=(by simp[hq] at I;omega);simp only[Nat.add_zero] at F;simp[storeVar,sizeOf,typeInfo,hq,Value.cells,U,F]
 unfold Oper.wp execOp;simp only[S,Y,Z,Instr.storeAt,Instr.sureAddr,Sem.run_bind,Sem.run_pure,Result.andThen_ok,D];exact h
end
section
variable {B C c cb d db f g i j k kc m n:Nat} {O:List Nc} {W b w w' wr:World} {e:TypeId} {l:List Fc} {u v v0:Value} {x:Fc} {xs:List Value} {y:Nc}
theorem Jc {s:Nat} (h:w.ownsRow B e s v n xs) (A:k<B):v.ownBlock≠some k:=λe=>by have:=(h.lt k e).1;omega
theorem HNs.grown {l:List Nc} {r:Option Nat} (h:HNs w B v l) (A:w.grownBy w' r) (F:v.ownBlock≠r) (D:awayNs r l):HNs w' B v l:=
 ⟨h.row.kept A (Or.inr F),RdNs.grown A l h.rd D,h.away⟩
theorem HNs.cell {l:List Nc} (h:HNs w B v l) (D:v.ownBlock≠some g) (A:awayNs (some g) l):HNs (w.setCell ⟨g,i,none⟩ u) B v l:=
 h.grown (Yx w ⟨g,i,none⟩ u) D A
theorem Zea (w:Wq) (l:Nat) (o:Obj):w.grownBy (w.putObj l o) (some l):=
 ⟨rfl,rfl,rfl,by rw[World.putObj_size];exact Zb _,λk _ h=>XY (λe=>h (by rw[e]))⟩
theorem Zl0 {a:Addr} (h:w.cell? a=some u):∃cs T fr,w.heap[a.block]? =some (.cells cs T fr):=by
 unfold World.cell? at h;split at h
 ·rename_i A;exact ⟨_,_,_,A⟩
 ·cases h
theorem RSl.notObj {size l:Nat} {o:Obj} (h:RSl w size v n xs) (J:w.heap[l]? =some o) (K:o.isCells=false):xs= []\/v.ownBlock≠some l:=by
 cases xs with
 |nil=>exact Or.inl rfl
 |cons u t=>
  right;obtain ⟨_,A,c,rfl,_,_,_,F⟩:=h;obtain ⟨ad,rfl,I⟩:=F 0 u rfl;obtain ⟨cs,T,fr,D⟩:=Zl0 I;intro e;have H:(ad.add 0).block=ad.block:=by rw[add_zero]
  rw[H] at D;simp only[Value.ownBlock,Xi] at e;rw[e,J] at D;cases D;cases K
mutual
theorem RdN.notObj {w:Wq} {l:Nat} {o:Obj} (hl:w.heap[l]? =some o) (ho:o.isCells=false):∀x:Nc,RdN w x->awayN (some l) x
 | .mk k s n al l0 ks kids t a,h=>by
  rw[RdN] at h
  rw[awayN]
  refine ⟨?_,?_,RdNs.notObj hl ho kids h.2.2⟩
  ·by_cases h0:l0= []
   ·exact Or.inl (by rw[h0];rfl)
   ·exact Or.inr ((RSl.notObj h.1 hl ho).resolve_left (J6 h0))
  ·by_cases h0:kids= []
   ·exact Or.inl (by rw[h0];rfl)
   ·exact Or.inr ((RSl.notObj h.2.1 hl ho).resolve_left (Za2 h0))
theorem RdNs.notObj {w:Wq} {l:Nat} {o:Obj} (hl:w.heap[l]? =some o) (ho:o.isCells=false):∀x:List Nc,RdNs w x->awayNs (some l) x
 | [],_=>by rw[awayNs];trivial
 |x::t,h=>by
  rw[RdNs] at h
  rw[awayNs]
  exact ⟨RdN.notObj hl ho x h.1,RdNs.notObj hl ho t h.2⟩
end
theorem Zbq {s l:Nat} {o:Obj} (h:w.ownsRow B e s v n xs) (D:w.heap[l]? =some o) (I:o.isCells=false):v.ownBlock≠some l:=by
 rcases h.2 with ⟨rfl,_⟩|⟨q,cap,F,rfl,_,H,_⟩
 ·simp[Value.ownBlock]
 ·intro A;simp only[Value.ownBlock,Xi] at A;subst A;rw[H] at D;cases D;cases I
theorem HNs.obj {l:Nat} {x:List Nc} {o o':Obj} (h:HNs w B v x) (A:w.heap[l]? =some o) (D:o.isCells=false):HNs (w.putObj l o') B v x:=
 h.grown (Zea w l o') (Zbq h.row A D) (RdNs.notObj A D x h.rd)
def newNs (B:Nat) (l:List Nc):Prop:=∀k,k<B->awayNs (some k) l
theorem newNs.nil (B:Nat):newNs B []:=λk _=>by rw[awayNs];trivial
theorem newNs.snoc {l:List Nc} {x:Nc} (h:newNs B l) (F:∀k,k<B->awayN (some k) x):newNs B (l++ [x]):=λk D=>(Z5 _).2 λy A=>by
 rcases Zu.1 A with A|A
 ·exact (Z5 l).1 (h k D) y A
 ·rw[Zo.1 A];exact F k D
theorem newNs.mono {l:List Nc} (h:newNs B l) (A:C<=B):newNs C l:=λk D=>h k (YT D A)
theorem Zfz {KB:Option Addr} {al:Value} {f:Fd} (h:w.ownsRow C 88 4 al n xs) (D:B<=C):(∀k,k<B->awayN (some k) (leafC KB kc al f))/\(∀k,k<B->awayN (some k) (leafC2 KB kc al f)):=by
 refine ⟨λk A=> ?_,λk A=> ?_⟩
 ·unfold leafC;rw[awayN];exact ⟨Or.inr (Jc h (by omega)),Or.inl rfl,by rw[awayNs];trivial⟩
 ·unfold leafC2;rw[awayN];exact ⟨Or.inr (Jc h (by omega)),Or.inl rfl,by rw[awayNs];trivial⟩
def foldC (al ks:Value) (kids:List Nc) (s:ByteArray):Nc:= .mk 0 [] outlineL al [pairA (textL,lst s)] ks kids [] 0
theorem ZkH {al ks:Value} {kids:List Nc} {s:ByteArray} (D:∀y∈kids,y.kind=0):(foldC al ks kids s).nd=withP (elemN outlineL (Nc.nds kids)) [(textL,lst s)]:=by
 have A:elems (Nc.nds kids):=λy h=>by rw[X1] at h;obtain ⟨z,F,rfl⟩:=ZT.1 h;rw[Zd1];exact D z F
 unfold elemN foldC;rw[X0 A,Nc.nd];rfl
theorem ZkI {al ks:Value} {kids:List Nc} {s:ByteArray} (h:w.ownsRow B 88 4 al 1 (flatA [pairA (textL,lst s)])) (A:w.ownsRow C 25 7 ks kids.length (flatN kids)) (D:RdNs w kids):RdN w (foldC al ks kids s):=by
 unfold foldC;rw[RdN];exact ⟨RSl.of_own h,RSl.of_own A,D⟩
theorem ZiO {D:Nat} {al ks:Value} {kids:List Nc} {s:ByteArray} {ys:List Value} (h:w.ownsRow B 88 4 al n xs) (I:D<=B) (F:w'.ownsRow C 25 7 ks m ys) (J:D<=C) (H:newNs D kids):∀k,k<D->awayN (some k) (foldC al ks kids s):=λk A=>by
 unfold foldC;rw[awayN];exact ⟨Or.inr (Jc h (by omega)),Or.inr (Jc F (by omega)),H k A⟩
theorem Zjd {s:ByteArray} (h:s.toList.isEmpty=true):s.size=0:=by
 rw[Z8] at h;rw[UP] at h;show s.data.size=0;rw[<-Array.length_toList,h];rfl
theorem Zjb {s:ByteArray} (h:s.toList.isEmpty=false):s.size≠0:=by
 rw[Z8] at h;intro e;have e:s.data.size=0:=e;rw[<-Array.length_toList] at e;rw[Zv e] at h;cases h
theorem ZhO (AB:Option Addr) (ac:Nat) (KB:Option Addr) (kc:Nat) (v:Value) (title id link:ByteArray) (w:Wq) (D:RAts w (.slice AB 3 ac) ([(typeL,rssL),(textL,lst title),(xmlUrlL,lst id)].map pairA)) (F:RStrs w v (pairS [(htmlUrlL,lst link)])):
 Calls prog 46 #[.agg #[nI 0,eS,.string ⟨#[111,117,116,108,105,110,101]⟩,.slice AB 3 ac,.slice KB 0 kc,eS,nI 0],v] w λe w'=>
  ∃A h,e= .returned (.agg #[nI 0,eS,.string ⟨#[111,117,116,108,105,110,101]⟩,.slice A 4 h,.slice KB 0 kc,eS,nI 0])/\w'.ownsRow w.heap.size 88 4 (.slice A 4 h) 4 (flatA ([(typeL,rssL),(textL,lst title),(xmlUrlL,lst id)].map pairA++ [(htmlUrlL,lst link)].map pairA))/\Ext w w':=
 Ew (.slice AB 3 ac) ([(typeL,rssL),(textL,lst title),(xmlUrlL,lst id)].map pairA) KB 0 kc v [(htmlUrlL,lst link)] w D F (by show 3+1<=1000000;omega)
theorem Zj9 (KB:Option Addr) (n kc:Nat) (v:Value) (name:ByteArray) (w:Wq) (h:RStrs w v (pairS [(textL,lst name)])):
 Calls prog 46 #[.agg #[nI 0,eS,.string ⟨#[111,117,116,108,105,110,101]⟩,sN,.slice KB n kc,eS,nI 0],v] w λe w'=>
  ∃AB ac,e= .returned (.agg #[nI 0,eS,.string ⟨#[111,117,116,108,105,110,101]⟩,.slice AB 1 ac,.slice KB n kc,eS,nI 0])/\w'.ownsRow w.heap.size 88 4 (.slice AB 1 ac) 1 (flatA [pairA (textL,lst name)])/\Ext w w':=
 Ew sN [] KB n kc v [(textL,lst name)] w (RAts.nil w) h (by show 0+1<=1000000;omega)
def ownN (d:Nat) (l:List Fd):Nat:=(l.takeWhile λx=>decide (x.path.length=d)).length
def okT:Nat->Nat->List Fd->Prop
 |0,_,_=>False
 |f+1,d,l=>(∀x∈l.drop (ownN d l),d<x.path.length)/\∀(v:Value) (L:List Fc),L.map Fc.f=l.drop (ownN d l)->∀g∈grps d (L.length+1) v L,okT f (d+1) (g.l.map Fc.f)
theorem Iu (d:Nat):∀(f:Nat) (v:Value) (l:List Fc),∀g∈grps d f v l,(∀y∈g.l,pathAt y.f d=g.name)/\g.l.Sublist l/\g.l≠ []
 |0,_,_,g,A=>by cases A
 |_+1,_,[],g,A=>by cases A
 |f+1,v,x::t,g,A=>by
  have F:0<runN d ((x::t).map Fc.f):=ZbB d x.f (t.map Fc.f)
  rw[grps] at A
  rcases ZJ.1 A with rfl|A
  ·refine ⟨λy J=> ?_,List.take_sublist _ _,?_⟩
   ·have h:=ZdT x.f (t.map Fc.f) d y.f
    refine h ?_
    have D:y.f∈((x::t).take (runN d ((x::t).map Fc.f))).map Fc.f:=Yc J
    rw[List.map_take] at D
    exact D
   ·intro e
    have:=Zz List.length e
    rw[ZK] at this
    simp only[Ze,ZP] at this
    omega
  ·obtain ⟨H,D,I⟩:=Iu d f _ _ g A
   exact ⟨H,D.trans (List.drop_sublist _ _),I⟩
theorem Zk8:∀(f d:Nat) (path:List ByteArray) (l:List Fd),path.length=d->65<=f+d->(f=0->l≠ [])->asc l->(∀x∈l,Pref path x/\x.path.length<=64)->okT f d l
 |0,d,path,l,hd,hf,hn,hs,hl=>by
  cases l with
  |nil=>exact absurd rfl (hn rfl)
  |cons x t=>
   have F:=(hl x ZH).1.len
   have H:=(hl x ZH).2
   omega
 |f+1,d,path,l,hd,hf,hn,hs,hl=>by
  have J:=Gq hd hs λx D=>(hl x D).1
  rw[okT]
  refine ⟨J.2,λv L M g Q=> ?_⟩
  obtain ⟨F,H,K⟩:=Iu d _ v L g Q
  have I:(g.l.map Fc.f).Sublist (l.drop (ownN d l)):=by rw[<-M];exact H.map _
  refine Zk8 f (d+1) (path++ [g.name]) _ (by rw[Zc,hd];rfl) (by omega) (λ_=>by simpa using K) (Qc (I.trans (List.drop_sublist _ _)) hs) λx D=> ?_
  have h:=I.subset D
  have A:=Yz h
  refine ⟨?_,(hl x A).2⟩
  obtain ⟨y,R,rfl⟩:=ZT.1 D
  rw[<-F y R]
  exact (hl y.f A).1.next hd (J.2 _ h)
theorem Zmo {l:List Fd} (h:okA l=true):okT 66 0 l:=
 Zk8 66 0 [] l rfl (by omega) (λe=>by cases e) (ZdG h) λx A=>⟨⟨x.path,rfl⟩,(Zh5 (JH.1 ((Qt.1 h).1 x A)).1).2.2⟩
structure OutI (d:Nat) (l:List Fc) (w:Wq) (v0:Value) (j:Nat) (u:Value) (O:List Nc) (wr:Wq):Prop where
 left:RFcs w v0 (l.drop j)
 le:j<=l.length
 dcell:wr.heap[w.heap.size]? =some (.cells #[nI (d:Nat)] 3 (0,0))
 ucell:wr.heap[w.heap.size+1]? =some (.cells #[u] 23 (0,0))
 nodes:HNs wr (w.heap.size+2) u O
 nds:Nc.nds O=((l.take j).map Fc.f).map feedN
 kinds:∀y∈O,y.kind=0
 ext:Ext w wr
 size:w.heap.size+2<=wr.heap.size
 own:ownN d (l.map Fc.f)=j+(((l.map Fc.f).drop j).takeWhile λx=>decide (x.path.length=d)).length
 new:newNs (w.heap.size+2) O
theorem OutI.next {D:Wq} {I u8:Value} (h:OutI d l w v0 j u O wr) (F:j<l.length) (S:l[j]=x) (V:RFcs w I (l.drop (j+1)))
 (J:D.heap[w.heap.size]? =some (.cells #[nI (d:Nat)] 3 (0,0))) (M:D.heap[w.heap.size+1]? =some (.cells #[u] 23 (0,0))) (R:HNs D (w.heap.size+2) u8 (O++ [y])) (Z:y.nd=feedN x.f) (U:y.kind=0) (Q:Ext w D)
 (Y:w.heap.size+2<=D.heap.size) (X:x.f.path.length=d) (K:∀k,k<w.heap.size+2->awayN (some k) y):OutI d l w I (j+1) u8 (O++ [y]) (D.setCell ⟨w.heap.size+1,0,none⟩ u8):=by
 have A:=h.new.snoc K;refine ⟨V,F,(Z3 D ⟨w.heap.size+1,0,none⟩ w.heap.size _ (by show w.heap.size≠w.heap.size+1;omega)).trans J,Yg D (w.heap.size+1) 0 _ _ _ M,R.cell (Jc R.row (by omega)) (A _ (by omega)),?_,?_,Q.setCell (by show w.heap.size<=w.heap.size+1;omega) _,by simpa [World.setCell] using Y,?_,A⟩
 ·rw[Jb,h.nds,Zr F,ZO,ZO,S]
  congr 1
  rw[Nc.nds,Nc.nds,Z];rfl
 ·intro z H;rcases Zu.1 H with H|H
  ·exact h.kinds z H
  ·rw[Zo.1 H];exact U
 ·rw[h.own];refine Zib (by rw[Zl];exact F) ?_;rw[XG,S];simpa using X
theorem OutI.ext_ (h:OutI d l w v0 j u O wr) (A:Ext wr w'):OutI d l w v0 j u O w':=
 ⟨h.left,h.le,A.heap h.dcell,A.heap h.ucell,h.nodes.ext A,h.nds,h.kinds,h.ext.trans A,Zx h.size A.size,h.own,h.new⟩
theorem OutI.stop (h:OutI d l w v0 j u O wr) (A:j<l.length) (F:l[j]=x) (D:x.f.path.length≠d):ownN d (l.map Fc.f)=j:=by
 rw[h.own];refine Zic (by rw[Zl];exact A) ?_;rw[XG,F];simpa using D
theorem OutI.full (h:OutI d l w v0 j u O wr) (A:l.length<=j):ownN d (l.map Fc.f)=j:=by
 rw[h.own];exact ZlM (by rw[Zl];exact A)
structure FolI (f d:Nat) (own:List Nd) (w:Wq) (cb db:Nat) (s:List Grp) (u:Value) (O:List Nc) (wr:Wq):Prop where
 ucell:wr.heap[w.heap.size+1]? =some (.cells #[u] 23 (0,0))
 dcell:wr.heap[w.heap.size]? =some (.cells #[nI (d:Nat)] 3 (0,0))
 nodes:HNs wr (w.heap.size+2) u O
 nds:Nc.nds O=own++s.map λg=>withP (elemN outlineL (outsP f (d+1) (g.l.map Fc.f))) [(textL,lst g.name)]
 kinds:∀y∈O,y.kind=0
 ext:Ext w wr
 size:w.heap.size+2<=wr.heap.size
 new:newNs (w.heap.size+2) O
 cb_:u.ownBlock≠some cb
 db_:u.ownBlock≠some db
 cbs:awayNs (some cb) O
 lts:w.heap.size+2<=cb/\w.heap.size+2<=db/\cb<wr.heap.size/\db<wr.heap.size
section
variable {f d cb db:Nat} {own:List Nd} {w wr:World} {s:List Grp} {u:Value} {O:List Nc}
theorem FolI.ext_ (h:FolI f d own w cb db s u O wr) (A:Ext wr w'):FolI f d own w cb db s u O w':=
 ⟨A.heap h.ucell,A.heap h.dcell,h.nodes.ext A,h.nds,h.kinds,h.ext.trans A,Zx h.size A.size,h.new,h.cb_,h.db_,h.cbs,h.lts.1,h.lts.2.1,YT h.lts.2.2.1 A.size,YT h.lts.2.2.2 A.size⟩
theorem FolI.cell (h:FolI f d own w cb db s u O wr) (v:Value):FolI f d own w cb db s u O (wr.setCell ⟨cb,0,none⟩ v):=by
 have A:=h.lts;refine ⟨(Z3 wr ⟨cb,0,none⟩ (w.heap.size+1) _ (by show w.heap.size+1≠cb;omega)).trans h.ucell,(Z3 wr ⟨cb,0,none⟩ w.heap.size _ (by show w.heap.size≠cb;omega)).trans h.dcell,h.nodes.cell h.cb_ h.cbs,h.nds,h.kinds,h.ext.setCell (by show w.heap.size<=cb;omega) _,by simpa [World.setCell] using h.size,h.new,h.cb_,h.db_,h.cbs,by simpa [World.setCell] using A⟩
theorem Ext.putObj {a:Wq} (h:Ext a b) {l:Nat} {o:Obj} (D:a.heap.size<=l):Ext a (b.putObj l o):=
 h.then ⟨rfl,rfl,rfl,by rw[World.putObj_size];exact Zb _,λk A=>XY (by omega)⟩
theorem FolI.obj {l:Nat} {o o':Obj} (h:FolI f d own w cb db s u O wr) (A:wr.heap[l]? =some o) (F:o.isCells=false) (D:w.heap.size+2<=l):FolI f d own w cb db s u O (wr.putObj l o'):=
 ⟨(XY (by omega)).trans h.ucell,(XY (by omega)).trans h.dcell,h.nodes.obj A F,h.nds,h.kinds,h.ext.putObj (by omega),by rw[World.putObj_size];exact h.size,h.new,h.cb_,h.db_,h.cbs,by rw[World.putObj_size];exact h.lts⟩
theorem FolI.next {D:Wq} {u8:Value} {g:Grp} (h:FolI f d own w cb db s u O wr) (V:Ext w D) (Q:D.heap[w.heap.size]? =some (.cells #[nI (d:Nat)] 3 (0,0))) (U:D.heap[w.heap.size+1]? =some (.cells #[u] 23 (0,0))) (X:HNs D (w.heap.size+2) u8 (O++ [y]))
 (Z:y.nd=withP (elemN outlineL (outsP f (d+1) (g.l.map Fc.f))) [(textL,lst g.name)]) (R:y.kind=0) (hs:wr.heap.size<=D.heap.size) (J:∀k,k<wr.heap.size->awayN (some k) y) (M:u8.ownBlock=u.ownBlock\/∀k,u8.ownBlock=some k->wr.heap.size<=k):
 FolI f d own w cb db (s++ [g]) u8 (O++ [y]) (D.setCell ⟨w.heap.size+1,0,none⟩ u8):=by
 have I:=h.lts;have Y:=h.size;have H:=h.new.snoc λk R=>J k (by omega);have F:∀k,k<wr.heap.size->u.ownBlock≠some k->u8.ownBlock≠some k:=λk R S e=>by
  rcases M with K|K
  ·exact S (by rw[<-K];exact e)
  ·have:=K k e;omega
 refine ⟨Yg D (w.heap.size+1) 0 _ _ _ U,(Z3 D ⟨w.heap.size+1,0,none⟩ w.heap.size _ (by show w.heap.size≠w.heap.size+1;omega)).trans Q,X.cell (Jc X.row (by omega)) (H _ (by omega)),?_,?_,V.setCell (by show w.heap.size<=w.heap.size+1;omega) _,?_,H,F cb I.2.2.1 h.cb_,F db I.2.2.2 h.db_,?_,I.1,I.2.1,?_,?_⟩
 ·rw[Jb,h.nds,ZO,ZN]
  congr 2
  rw[Nc.nds,Nc.nds,Z];rfl
 ·intro z A;rcases Zu.1 A with A|A
  ·exact h.kinds z A
  ·rw[Zo.1 A];exact R
 ·show _<=(D.setCell _ _).heap.size;simp[World.setCell];omega
 ·refine (Z5 _).2 λz A=> ?_;rcases Zu.1 A with A|A
  ·exact (Z5 O).1 h.cbs z A
  ·rw[Zo.1 A];exact J cb I.2.2.1
 ·simp[World.setCell];omega
 ·simp[World.setCell];omega
end
theorem FolI.start {F:Wq} (h:OutI d l w v0 j u O W) (D:Ext W F) (J:F.heap.size=W.heap.size+2):FolI f d (((l.take j).map Fc.f).map feedN) w W.heap.size (W.heap.size+1) [] u O F:=by
 have H:=h.size;have A:∀k,W.heap.size<=k->u.ownBlock≠some k:=λk I e=>by have:=(h.nodes.row.lt _ e).2;omega
 exact ⟨D.heap h.ucell,D.heap h.dcell,h.nodes.ext D,by rw[Yr,ZX];exact h.nds,h.kinds,h.ext.trans D,by omega,h.new,A _ (Zb _),A _ (Yh _),Gt (w:=W) (λg e=>by injection e with e;omega) O h.nodes.rd,H,by omega,by omega,by omega⟩
theorem FolI.kp {own:List Nd} {W':Wq} {s:List Grp} (h:FolI f d own w cb db s u O W) (D:Keep W W' (w.heap.size+1) u.ownBlock):Stays B W W'/\KpF w.heap.size cb db W W':=by
 have M:=h.lts;have K:=h.size;refine ⟨λk o _ H J=> ?_,D.os,D.tape,D.output,D.size,λk A=> ?_⟩
 ·have I:=Zbq h.nodes.row H J;refine D.heap H (λe=> ?_) (λe=>I e.symm);subst e;rw[h.ucell] at H;cases H;cases J
 ·have F:u.ownBlock≠some k:=by
   rcases A with A|A|A
   ·exact Jc h.nodes.row (by omega)
   ·rw[A];exact h.cb_
   ·rw[A];exact h.db_
  exact D.block k (by omega) (by omega) (λe=>F e.symm)
theorem ET (rec_:List Fd->List Nd) (d:Nat):∀(f g:Nat) (l:List Fd),l.length<f->l.length<g->foldsP rec_ d f l=foldsP rec_ d g l
 |0,_,l,h,_=>by omega
 |_,0,l,_,h=>by omega
 |f+1,g+1,[],_,_=>by rw[foldsP,foldsP]
 |f+1,g+1,x::t,hf,hg=>by
  have A:=Zam x t d
  rw[foldsP,foldsP]
  (try dsimp only)
  rw[ET rec_ d f g _ (by rw[Zk];rw[Ze] at hf|-;omega) (by rw[Zk];rw[Ze] at hg|-;omega)]
theorem FolI.done (h:FolI f d (((l.take j).map Fc.f).map feedN) w cb db (grps d ((l.drop j).length+1) v0 (l.drop j)) u O W) (F:ownN d (l.map Fc.f)=j):Nc.nds O=outsP (f+1) d (l.map Fc.f):=by
 have D:(l.map Fc.f).takeWhile (λx=>decide (x.path.length=d))=(l.map Fc.f).take j:=by rw[<-F];exact Xg.1 (Jg _)
 have A:((l.map Fc.f).takeWhile λx=>decide (x.path.length=d)).length=j:=F;rw[h.nds,outsP,A,D,List.map_take]
 congr 1
 rw[<-List.map_drop,ET _ d _ ((l.drop j).length+1) _ (by rw[Zl,Zk,Zl];omega) (by rw[Zl];omega),Za8 _ d _ v0]
def zeroNc:Nc:= .mk 0 [] [] sN [] sN [] [] 0
theorem Zke (w:Wq):RdN w zeroNc:=by
 unfold zeroNc;rw[RdN];exact ⟨RAts.nil w,RNs.nil w,by rw[RdNs];trivial⟩
theorem ZgF (r:Option Nat):awayN r zeroNc:=by
 unfold zeroNc;rw[awayN];exact ⟨Or.inl rfl,Or.inl rfl,by rw[awayNs];trivial⟩
theorem ZcL:∀l:List Nc,(flatN l).length=l.length*7
 | []=>rfl
 |x::t=>by
  have e:flatN (x::t)=cellsN x++flatN t:=by unfold flatN;simp
  rw[e,Zc,JO,ZcL t,Ze]
  omega
theorem HNs.put_last {z:Nc} (h:HNs w B (.slice (some ⟨g,0,none⟩) (O.length+1) c) (O++ [z])) (M:RdN w y) (J:awayN (some g) y):
 HNs (w.setCells g (O.length*7) (cellsN y)) B (.slice (some ⟨g,0,none⟩) (O.length+1) c) (O++ [y]):=by
 have F:=h.row;rw[Zc,VO,UZ,U0] at F;have H:=ZfR (cellsN y) (O.length*7) w _ F (by rw[JO];omega);have I:=ZcL O;rw[List.take_left' I,JO,Zw (by rw[Zc,I,JO];exact Zb _),ZX] at H;have K:=Qx g (cellsN y) (O.length*7) w;have A:∀x∈O++ [y],RdN w x/\awayN (some g) x:=λx D=>by
  rcases Zu.1 D with D|D
  ·exact ⟨(Xt _).1 h.rd x (Xw _ D),(Z5 _).1 h.away x (Xw _ D)⟩
  ·rw[Zo.1 D];exact ⟨M,J⟩
 refine ⟨?_,(Xt _).2 λx D=>RdN.grown K x (A x D).1 (A x D).2,(Z5 _).2 λx D=>(A x D).2⟩;rw[Zc,VO,UZ,U0];exact H
theorem Ext.puts {a:Wq} (A:a.heap.size<=g):∀(vs:List Value) (o:Nat) (b:Wq),Ext a b->Ext a (b.setCells g o vs)
 | [],_,_,h=>h
 |v::r,o,b,h=>Ext.puts A r (o+1) _ (h.setCell (by show a.heap.size<=g;exact A) v)
theorem Zki {r:Option Nat} {D:Nat} (h:∀k,k<D->awayN (some k) y) (F:RdN w y) (A:∀k,r=some k->k<D):awayN r y:=by
 cases r with
 |none=>exact Kv F
 |some k=>exact h k (A k rfl)
theorem FolI.leaf {A J:Nat} {own:List Nd} {Q D:Wq} {s:List Grp} {G:Grp} (h:FolI f d own w cb db s u O W) (V:Ext W Q)
 (M:D.ownsRow (w.heap.size+2) 25 7 (.slice (some ⟨A,0,none⟩) (O.length+1) J) (O.length+1) (flatN O++cellsN zeroNc)) (R:Q.grownBy D u.ownBlock) (H:(Value.slice (some ⟨A,0,none⟩) (O.length+1) J).ownBlock=u.ownBlock\/(Value.slice (some ⟨A,0,none⟩) (O.length+1) J).ownBlock=some Q.heap.size)
 (hy:RdN Q y) (K:∀k,k<W.heap.size->awayN (some k) y) (hf:y.nd=withP (elemN outlineL (outsP f (d+1) (G.l.map Fc.f))) [(textL,lst G.name)]) (Y:y.kind=0):
 Stays B W ((D.setCells A (O.length*7) (cellsN y)).setCell ⟨w.heap.size+1,0,none⟩ (.slice (some ⟨A,0,none⟩) (O.length+1) J))/\KpF w.heap.size cb db W ((D.setCells A (O.length*7) (cellsN y)).setCell ⟨w.heap.size+1,0,none⟩ (.slice (some ⟨A,0,none⟩) (O.length+1) J))/\
  FolI f d own w cb db (s++ [G]) (.slice (some ⟨A,0,none⟩) (O.length+1) J) (O++ [y]) ((D.setCells A (O.length*7) (cellsN y)).setCell ⟨w.heap.size+1,0,none⟩ (.slice (some ⟨A,0,none⟩) (O.length+1) J)):=by
 have hq:=h.size;have hr:=V.size;have F:∀k,u.ownBlock=some k->w.heap.size+2<=k/\k<W.heap.size:=λk e=>h.nodes.row.lt k e;have hn:w.heap.size+2<=A:=(M.lt A rfl).1;have Z:=h.nodes.ext V;have X:awayN u.ownBlock y:=Zki K hy λk e=>(F k e).2;have ha:=HNs.snoc Z (Zke Q) (ZgF _) M R H;have hm:RdN D y:=RdN.grown R y hy X;have hc:awayN (some A) y:=by
  rcases H with e|e
  ·have U:some A=u.ownBlock:=e;rw[U];exact X
  ·have U:some A=some Q.heap.size:=e;rw[U];exact XZ hy (Zb _)
 have hb:=ha.put_last hm hc;have I:=Qx A (cellsN y) (O.length*7) D;have hj:Ext w D:=Ext.app (h.ext.trans V) R Z.row (by omega);have hl:=Ext.puts (a:=w) (g:=A) (by omega) (cellsN y) (O.length*7) D hj;have ho:=R.size;have hp:=I.size;have hh:D.heap[w.heap.size+1]? =some (.cells #[u] 23 (0,0)):=(R.block _ (by omega) (λe=>by have:=(F _ e.symm).1;omega)).trans (V.heap h.ucell);have hd:D.heap[w.heap.size]? =some (.cells #[nI (d:Nat)] 3 (0,0)):=(R.block _ (by omega) (λe=>by have:=(F _ e.symm).1;omega)).trans (V.heap h.dcell);have hi:=(I.block (w.heap.size+1) (by omega) (λe=>by injection e with e;omega)).trans hh;have he:=(I.block w.heap.size (by omega) (λe=>by injection e with e;omega)).trans hd;have S:Keep W ((D.setCells A (O.length*7) (cellsN y)).setCell ⟨w.heap.size+1,0,none⟩ (.slice (some ⟨A,0,none⟩) (O.length+1) J)) (w.heap.size+1) u.ownBlock:=by
  refine ((((Keep.of_ext (w.heap.size+1) u.ownBlock V).trans (Keep.of_grown _ R) λk e=>Or.inl e).trans (Keep.of_grown _ I) λk e=> ?_).cell_ 0 _);injection e with e;subst e;rcases H with e|e
  ·exact Or.inl e.symm
  ·have U:some A=some Q.heap.size:=e;injection U with U;exact Or.inr (by omega)
 obtain ⟨k1,k2⟩:=h.kp (B:=B) S;refine ⟨k1,k2,h.next hl he hi hb hf Y (by omega) K ?_⟩;rcases H with e|e
 ·exact Or.inl e
 ·refine Or.inr λk Y=> ?_;rw[e] at Y;injection Y with Y;omega
theorem Zem (w:Wq) (a b:Addr) (u v:Value) (h:a.block≠b.block):(w.setCell a u).setCell b v=(w.setCell b v).setCell a u:=by
 unfold World.setCell
 congr 1
 apply Array.ext
 ·simp
 ·intro k F H;simp only[Array.getElem_modify];by_cases D:b.block=k
  ·by_cases A:a.block=k
   ·omega
   ·simp[D,A]
  ·by_cases A:a.block=k
   ·simp[D,A]
   ·simp[D,A]
theorem Ki (g:Nat) (a:Addr) (u:Value) (h:a.block≠g):∀(vs:List Value) (o:Nat) (w:Wq),(w.setCell a u).setCells g o vs=(w.setCells g o vs).setCell a u
 | [],_,_=>rfl
 |v::r,o,w=>by
  show ((w.setCell a u).setCell ⟨g,o,none⟩ v).setCells g (o+1) r=_
  rw[Zem w a ⟨g,o,none⟩ u v h,Ki g a u h r]
  rfl
theorem Zle {s:Nat} (h:w.ownsRow B e s v n xs) (F:0<n):∃g c,v= .slice (some ⟨g,0,none⟩) n c:=by
 rcases h.2 with ⟨rfl,D⟩|⟨g,cap,A,rfl,_⟩
 ·omega
 ·exact ⟨g,cap,rfl⟩
theorem FolI.len_ {own:List Nd} {s:List Grp} (h:FolI f d own w cb db s u O wr):O.length=own.length+s.length:=by
 have A:=Zz List.length h.nds;rw[Jm,Zc,Zl] at A;exact A
theorem Za4 (rec_:List Fd->List Nd) (d:Nat):∀(f:Nat) (l:List Fd),(foldsP rec_ d f l).length<=l.length
 |0,l=>by rw[foldsP];exact Zh _
 |f+1,[]=>by rw[foldsP];exact Zb _
 |f+1,x::t=>by
  have h:=Zam x t d
  rw[foldsP]
  (try dsimp only)
  have ih:=Za4 rec_ d f ((x::t).drop ((x::t).takeWhile λy=>decide (pathAt y d=pathAt x d)).length)
  rw[Zk] at ih
  rw[Ze] at ih|-
  rw[Ze] at*
  omega
theorem ZfQ:∀(f d:Nat) (l:List Fd),(outsP f d l).length<=l.length
 |0,d,l=>by rw[outsP];exact Zh _
 |f+1,d,l=>by
  have h:=Za4 (outsP f (d+1)) d (l.length+1) (l.drop (l.takeWhile λx=>decide (x.path.length=d)).length)
  have A:=(YF (λx:Fd=>decide (x.path.length=d)) (l:=l)).length_le
  rw[Zk] at h
  rw[outsP,Zc,Zl]
  omega
theorem Zfe (d:Nat):∀(f:Nat) (v:Value) (l:List Fc),(grps d f v l).length<=l.length
 |0,v,l=>by rw[grps];exact Zh _
 |f+1,v,[]=>by rw[grps];exact Zb _
 |f+1,v,x::t=>by
  have h:0<runN d ((x::t).map Fc.f):=ZbB d x.f (t.map Fc.f)
  rw[grps,Ze]
  have ih:=Zfe d f (loV (runN d ((x::t).map Fc.f)) v) ((x::t).drop (runN d ((x::t).map Fc.f)))
  rw[Zk] at ih
  rw[Ze] at ih|-
  omega
theorem ZjE {s:Nat} (h:w.ownsRow B e s (.slice (some ⟨g,0,none⟩) n c) n xs) (K:j<n*s):(w.cell? ⟨g,j,none⟩).isSome=true/\w.frozen? ⟨g,j,none⟩=false:=by
 obtain ⟨g',F,A,J,H⟩:=Zhy h;injection A with A;subst A;refine ⟨?_,Z2 H j⟩;have M:=h.1;obtain ⟨u,I⟩:∃u,xs[j]? =some u:=⟨xs[j]'(by omega),Zm _⟩;have D:=h.cells (g:=g) rfl j u I;rw[Zav] at D;rw[D];rfl
end
section
variable {a:Act} {d f i k n:Nat} {o:Oper} {v:Value} {w w':World}
def lstOf (n:Nat) (base:Array Bool) (done:List Nat):Array Bool:=Array.ofFn (n:=n) λj=>base.getD j.val false||done.contains j.val
def actOf (a0:Act) (hs:List Nat) (dst:Nat->Nat) (done:List Nat) (vs:Nat->Value):Act:=
 {a0 with tmps:=Array.ofFn (n:=a0.tmps.size) λk=>match hs.find? (λi=>dst i==k.val && done.contains i) with|some i=>vs i|none=>a0.tmps.getD k.val undef}
def upd (vs:Nat->Value) (i:Nat) (v:Value):Nat->Value:=λj=>if j=i then v else vs j
def subs:List Nat->List (List Nat)
 | []=> [[]]
 |x::t=>subs t++(subs t).map (x:: ·)
theorem EO (p:Nat->Bool):∀h:List Nat,h.filter p∈subs h
 | []=>by simp[subs]
 |x::t=>by
  have ih:=EO p t
  rw[subs,Zu,List.filter_cons]
  split
  ·exact Or.inr (ZT.2 ⟨_,ih,rfl⟩)
  ·exact Or.inl ih
theorem Zc3 {base:Array Bool} {d e:List Nat} (h:∀j,d.contains j=e.contains j):lstOf n base d=lstOf n base e:=by
 unfold lstOf
 congr 1
 funext j;rw[h]
theorem Zmi {base:Array Bool} {done:List Nat} (H:i<n):(lstOf n base done).setIfInBounds i true=lstOf n base (i::done):=by
 apply Array.ext
 ·simp[lstOf]
 ·intro k D F;simp only[lstOf,Array.size_setIfInBounds,Array.size_ofFn] at D F;rw[Array.getElem_setIfInBounds (by simpa [lstOf] using D)];simp only[lstOf,Array.getElem_ofFn];by_cases h:i=k
  ·subst h;simp
  ·have A:¬k=i:=λe=>h e.symm;simp[h,A]
theorem Ze3 {A:List Nat} {p:Nat->Bool} (D:i∈A) (F:p i=true) (H:∀j∈A,p j=true->j=i):A.find? p=some i:=by
 cases h:A.find? p with
 |none=>exact absurd F (by simpa using List.find?_eq_none.1 h i D)
 |some j=>rw[H j (List.mem_of_find?_eq_some h) (List.find?_some h)]
theorem Ed {p q:Nat->Bool}:∀{A:List Nat},(∀j∈A,p j=q j)->A.find? p=A.find? q
 | [],_=>rfl
 |x::t,h=>by rw[List.find?_cons,List.find?_cons,h x ZH,Ed λj D=>h j (ZD _ D)]
section
variable {a0:Act} {hs:List Nat} {dst:Nat→Nat} {done:List Nat} {vs:Nat→Value} {i k:Nat} {v:Value}
theorem ZlW (D:∀i∈hs,∀j∈hs,dst i=dst j->i=j) (I:i∈hs):(actOf a0 hs dst done vs).put (some (dst i)) v=actOf a0 hs dst (i::done) (upd vs i v):=by
 unfold actOf Act.put;simp only
 congr 1
 apply Array.ext
 ·simp
 ·intro k H K;simp only[Array.size_setIfInBounds,Array.size_ofFn] at H K;rw[Array.getElem_setIfInBounds (by simpa using H)];simp only[Array.getElem_ofFn];by_cases A:dst i=k
  ·rw[Zi A,Ze3 (i:=i) I (by simp[A]) (λj J F=>by
    simp only[ZF,JG] at F;exact D j J i I (F.1.trans A.symm))]
   simp[upd]
  ·rw[Zf A];have Q:hs.find? (λj=>dst j==k && (i::done).contains j)=hs.find? (λj=>dst j==k && done.contains j):=Ed λj J=>by
    by_cases h:dst j=k
    ·have:j≠i:=λe=>A (by rw[<-e];exact h);simp[h,this]
    ·have M:(dst j==k)=false:=(by simpa using h);rw[M,Yo,Yo]
   rw[Q];cases hf:hs.find? (λj=>dst j==k && done.contains j) with
   |none=>rfl
   |some j=>have F:=List.find?_some hf;simp only[ZF,JG] at F;have:j≠i:=λe=>A (by rw[<-e];exact F.1);simp[upd,this]
theorem ZlV (F:∀j∈hs,dst j≠k):(actOf a0 hs dst done vs).eval (.tmp k)=a0.eval (.tmp k):=by
 show (actOf a0 hs dst done vs).tmps.getD k undef=a0.tmps.getD k undef;unfold actOf;simp only;rw[JI,JI];by_cases h:k<a0.tmps.size
 ·rw[Array.getElem?_eq_getElem (by simpa using h),Array.getElem_ofFn];have A:hs.find? (λi=>dst i==k && done.contains i)=none:=List.find?_eq_none.2 λj D=>by have:=F j D;simp[this]
  simp only[A];rw[JI];rfl
 ·rw[Y8 (by simpa using h),Y8 (by omega)]
theorem ZlT (h:∀i∈hs,∀j∈hs,dst i=dst j->i=j) (D:i∈hs) (H:i∈done) (A:dst i<a0.tmps.size):(actOf a0 hs dst done vs).eval (.tmp (dst i))=vs i:=by
 show (actOf a0 hs dst done vs).tmps.getD (dst i) undef=vs i;unfold actOf;simp only;rw[JI,Array.getElem?_eq_getElem (by simpa using A),Array.getElem_ofFn,Ze3 (i:=i) D (by simp[H]) (λj I F=>by
  simp only[ZF,JG] at F;exact h j I i D F.1)]
 rfl
theorem ZlU:actOf a0 hs dst [] vs=a0:=by
 unfold actOf;cases a0 with
 |mk t d=>
  congr 1
  apply Array.ext
  ·simp
  ·intro k D h;simp only[Array.getElem_ofFn];have A:hs.find? (λi=>dst i==k && ([]:List Nat).contains i)=none:=List.find?_eq_none.2 λj _=>(by simp);simp only[A];rw[JI,Array.getElem?_eq_getElem h];rfl
end
theorem JS {A:Act} (h:A.eval (.tmp k)=v):A.tmps[k]?.getD undef=v:=by
 rw[<-JI];exact h
theorem EL {p:Nat->Bool} (H:p i=true):∀{A:List Nat},A.Nodup->i∈A->(A.filter λj=>p j && !(j==i)).length+1=(A.filter p).length
 |x::t,hn,hi=>by
  rw[List.nodup_cons] at hn
  rw[List.filter_cons,List.filter_cons]
  by_cases F:x=i
  ·subst F
   have J:t.filter (λj=>p j && !(j==x))=t.filter p:=List.filter_congr λj K=>by
    have:j≠x:=λe=>hn.1 (e▸K)
    simp[this]
   rw[J,H]
   simp
  ·have D:i∈t:=by
    rcases ZJ.1 hi with h|h
    ·exact absurd h.symm F
    ·exact h
   have ih:=EL H hn.2 D
   have I:(x==i)=false:=(by simpa using F)
   rw[I]
   simp only[Bool.not_false,Bool.and_true]
   split<;>(try simp only[Ze])<;>omega
section
variable {P:Program} {md:Region.Mode} {Q:Exit→Act→World→Prop} {S:World→Prop} {T:Array Bool→Act→World→Prop}
def relOk (md:Region.Mode) (l:List Oper) (base:Array Bool) (hs:List Nat) (D:Nat->List Nat):Bool:=
 (subs hs).all λd=>d.length==hs.length||(!(Region.ready md l.toArray (lstOf l.length base d)).isEmpty && (Region.ready md l.toArray (lstOf l.length base d)).all λi=>hs.contains i && !d.contains i && (D i).all d.contains)
theorem ZhP {l:List Oper} {H:List Nat} {dst:Nat->Nat} {D:Nat->List Nat} {F:Nat->Value->Wq->Prop} {base:Array Bool} {a0:Act} {W0:Wq} (hm:H.Nodup)
 (V:∀i∈H,∀j∈H,dst i=dst j->i=j) (hq:∀i∈H,dst i<a0.tmps.size) (hn:∀i∈H,i<l.length) (ho:relOk md l base H D=true)
 (hF:∀i∈H,∀v w w',F i v w->Ext w w'->F i v w') (hS:∀w',Ext W0 w'->S w')
 (hp:∀i∈H,∀(A:Act) (w':Wq) (vs:Nat->Value),Ext W0 w'->(∀k,(∀j∈H,dst j≠k)->A.eval (.tmp k)=a0.eval (.tmp k))->(∀j∈D i,A.eval (.tmp (dst j))=vs j/\F j (vs j) w')->
  wpOp P l.toArray Q i (λa2 w2=>∃v,a2=A.put (some (dst i)) v/\Ext w' w2/\F i v w2) A w')
 (Z:∀vs w',Ext W0 w'->(∀i∈H,F i (vs i) w')->T (lstOf l.length base H) (actOf a0 H dst H vs) w'):
 ∀(f:Nat) (done:List Nat) (vs:Nat->Value) (w':Wq),(∀i∈done,i∈H)->f=(H.filter λj=> !done.contains j).length->Ext W0 w'->(∀i∈done,F i (vs i) w')->
  wpAnyC P md l.toArray Q S T f (lstOf l.length base done) (actOf a0 H dst done vs) w':=by
 intro f
 induction f with
 |zero=>
  intro done vs w' I hf hx M;have U:∀i∈H,i∈done:=λi hi=>by have h0:=Zv hf.symm;have:=(List.filter_eq_nil_iff.1 h0) i hi;simpa using this
  have hc:∀j,done.contains j=H.contains j:=λj=>by rw[Y7,Xs,Xs];exact ⟨I j,U j⟩
  show T _ _ _;have ha:actOf a0 H dst done vs=actOf a0 H dst H vs:=by
   unfold actOf
   congr 1
   congr 1
   funext k;rw[Ed (p:=λi=>dst i==k.val && done.contains i) (q:=λi=>dst i==k.val && H.contains i) λj _=>by rw[hc]]
  rw[Zc3 hc,ha];exact Z vs w' hx λi hi=>M i (U i hi)
 |succ f ih=>
  intro done vs w' I hf hx M;obtain ⟨d,hd⟩:∃d,H.filter (λj=>done.contains j)=d:=⟨_,rfl⟩;have R:∀j,j∈d↔j∈done:=λj=>by rw[<-hd,Xe,Xs];exact ⟨λh=>h.2,λh=>⟨I j h,h⟩⟩
  have hc:∀j,done.contains j=d.contains j:=λj=>by rw[Y7,Xs,Xs];exact (R j).symm
  have hg:¬d.length=H.length:=λe=>by have h1:d=H:=(by rw[<-hd] at e|-;exact (List.filter_sublist).eq_of_length e);have h2:(H.filter λj=> !done.contains j)= []:=List.filter_eq_nil_iff.2 λj J=>(by have:j∈done:=(R j).1 (h1▸J);simp[this]);rw[h2] at hf;cases hf
  have hk:=Yj.1 ho d (by rw[<-hd];exact EO _ H);simp only[ZnC,ZF,JG,hg,false_or] at hk;rw[<-Zc3 hc] at hk;refine ⟨λh=>(by rw[h] at hk;exact absurd hk.1 (by simp)),λi hi=> ?_⟩;have he:=Yj.1 hk.2 i hi;simp only[ZF,JD] at he;obtain ⟨⟨h1,h2⟩,h3⟩:=he;have K:i∈H:=Xs.1 h1;have hh:i ∉ done:=λh=>by have:=Xs.2 ((R i).2 h);rw[this] at h2;cases h2
  have hD:∀j∈D i,j∈done:=λj J=>(R j).1 (Xs.1 (Yj.1 h3 j J));refine JU (λa2 w2 h=> ?_) (hp i K (actOf a0 H dst done vs) w' vs hx (λk hl=>ZlV hl) (λj J=>⟨ZlT V (I j (hD j J)) (hD j J) (hq j (I j (hD j J))),M j (hD j J)⟩));obtain ⟨v,rfl,Y,hv⟩:=h;refine ⟨hS w2 (hx.trans Y),?_⟩;rw[ZlW V K,Zmi (hn i K)];refine ih (i::done) (upd vs i v) w2 (λj J=> ?_) ?_ (hx.trans Y) (λj J=> ?_)
  ·rcases ZJ.1 J with rfl|J
   ·exact K
   ·exact I j J
  ·have h4:=EL (p:=λj=> !done.contains j) (i:=i) (by simpa using hh) hm K;have h5:(H.filter λj=> !(i::done).contains j)=H.filter λj=> !done.contains j && !(j==i):=List.filter_congr λj _=>(by rw[List.contains_cons,Bool.not_or,Bool.and_comm]);rw[h5];omega
  ·by_cases X:j=i
   ·subst X;simpa [upd] using hv
   ·have hb:j∈done:=(ZJ.1 J).resolve_left X;have:=hF j (I j hb) _ _ _ (M j hb) Y;simpa [upd,X] using this
theorem QF {l:List Oper} {listed:Array Bool} (H:List Nat) (dst:Nat->Nat) (D:Nat->List Nat) (F:Nat->Value->Wq->Prop) (hf:f=H.length) (Z:lstOf l.length listed []=listed) (M:H.Nodup)
 (K:∀i∈H,∀j∈H,dst i=dst j->i=j) (V:(H.all λi=>decide (dst i<a.tmps.size))=true) (hn:∀i∈H,i<l.length) (R:relOk md l listed H D=true)
 (Y:∀i∈H,∀v w w',F i v w->Ext w w'->F i v w') (hS:∀w',Ext w w'->S w')
 (U:∀i∈H,∀(A:Act) (w':Wq) (vs:Nat->Value),Ext w w'->(∀k,(∀j∈H,dst j≠k)->A.eval (.tmp k)=a.eval (.tmp k))->(∀j∈D i,A.eval (.tmp (dst j))=vs j/\F j (vs j) w')->
  wpOp P l.toArray Q i (λX w2=>∃v,X=A.put (some (dst i)) v/\Ext w' w2/\F i v w2) A w')
 (I:∀vs w',Ext w w'->(∀i∈H,F i (vs i) w')->T (lstOf l.length listed H) (actOf a H dst H vs) w'):wpAnyC P md l.toArray Q S T f listed a w:=by
 have h:=ZhP (T:=T) (base:=listed) (a0:=a) (W0:=w) M K (λi J=>Yt (Yj.1 V i J)) hn R Y hS U I f [] (λ_=>undef) w (by intro i J;cases J) (by rw[hf];exact (Zz List.length (List.filter_eq_self.2 λj _=>rfl)).symm) (Ext.refl w) (by intro i J;cases J);rw[ZlU,Z] at h;exact h
theorem Vy {l:List Oper} {A:Act} {F:Value->Wq->Prop} (S:l[i]? =some o) (U:o.dst=some d)
 (h:∀K:Act->Wq->Prop,(∀v w2,Ext w' w2->F v w2->K (A.put (some d) v) w2)->if Region.wanted o (yielded l.toArray A.tmps) then Oper.wp P o A w' K Q else K (A.put o.dst undef) w'):
 wpOp P l.toArray Q i (λH w2=>∃v,H=A.put (some d) v/\Ext w' w2/\F v w2) A w':=by
 have I:l.toArray[i]? =some o:=by rw[Yk];exact S
 have D:=h (λH w2=>∃v,H=A.put (some d) v/\Ext w' w2/\F v w2) λv w2 M R=>⟨v,rfl,M,R⟩;unfold wpOp;simp only[I];split
 ·rename_i J;rw[Zi J] at D;exact Or.inl D
 ·rename_i J;rw[Zf J] at D;exact D
end
end
end Go.Proofs.YtnlafkgkcnenfaaGreatDoor
