/- Parts of the proof: contracts and plain laws. -/
import Derived.Test.YtnlafkgkcnenfaaGreatDoorT12
namespace Go.Proofs.YtnlafkgkcnenfaaGreatDoor
open Go Go.RowKit Tryz
set_option linter.unusedVariables false
set_option linter.unusedSimpArgs false
set_option linter.unusedSimpArgs false
set_option maxRecDepth 100000
set_option maxHeartbeats 16000000
section
variable {d:Nat} {s t:List UInt8} {α:Type}
def outl (f:Fd):Fd:=⟨f.path,f.id,f.title,f.link, -62135596800,[]⟩
theorem KT (s:ByteArray):str (lst s)=s:=Ep s
theorem ZeR {s:ByteArray} (h:validS s=true) (F:s≠noS):coll (lst s)≠ []:=by
 intro e;have A:=Xe h;unfold collapse at A;have D:coll s.data.toList= []:=e;rw[D] at A;exact F A.symm
def Pref (path:List ByteArray) (f:Fd):Prop:=∃r,f.path=path++r
theorem Pref.len {path:List ByteArray} {f:Fd} (h:Pref path f):path.length<=f.path.length:=by
 obtain ⟨r,A⟩:=h;rw[A,Zc];omega
theorem Pref.eq {path:List ByteArray} {f:Fd} (h:Pref path f) (D:f.path.length=path.length):f.path=path:=by
 obtain ⟨r,A⟩:=h;have:r= []:=Zr (by rw[A,Zc] at D;omega);rw[A,this,ZX]
theorem Pref.next {path:List ByteArray} {f:Fd} {d:Nat} (D:path.length=d) (h:Pref path f) (F:d<f.path.length):Pref (path++ [pathAt f d]) f:=by
 obtain ⟨r,A⟩:=h;cases r with
 |nil=>rw[A,ZX] at F;omega
 |cons c t=>
  refine ⟨t,?_⟩;have:pathAt f d=c:=by unfold pathAt;rw[A,<-D,ZW,Ym (Zb _),Nat.sub_self];rfl
  rw[this,A,ZQ];rfl
theorem Zf5 (path:List ByteArray) (a b:List ByteArray):pathCmp (path++a) (path++b)=pathCmp a b:=by
 induction path with
 |nil=>rfl
 |cons c t ih=>show pathCmp (c::(t++a)) (c::(t++b))=_;rw[pathCmp,Zi (Vn.self c)];exact ih
def asc (l:List Fd):Prop:=l.Pairwise λa b=>pathCmp a.path b.path<=0
theorem VC {path:List ByteArray} {d:Nat} (R:path.length=d):∀{l:List Fd},asc l->(∀x∈l,Pref path x)->
 (∀x∈l.takeWhile (λx=>decide (x.path.length=d)),x.path=path)/\(∀x∈l.drop (l.takeWhile λx=>decide (x.path.length=d)).length,d<x.path.length)
 | [],_,_=>⟨(by intro x h;cases h),(by intro x h;simp at h)⟩
 |a::t,hs,hp=>by
  have H:=hp a ZF;have D:=hs;unfold asc at D;rw[Xs] at D;have ih:=VC R (l:=t) D.2 λx A=>hp x (Zu _ A);by_cases J:a.path.length=d
  ·rw[Yk,Zi (by simpa using J)];refine ⟨λx A=> ?_,λx A=> ?_⟩
   ·rcases ZK.1 A with rfl|A
    ·exact H.eq (by omega)
    ·exact ih.1 x A
   ·rw[Zd,List.drop_succ_cons] at A;exact ih.2 x A
  ·rw[Yk,Ze (by simpa using J)];refine ⟨(by intro x h;cases h),λx A=> ?_⟩;have F:d<a.path.length:=(by have:=H.len;omega);rw[ZM,Jm] at A;rcases ZK.1 A with rfl|A
   ·exact F
   ·obtain ⟨r,Q⟩:=hp x (Zu _ A);obtain ⟨q,K⟩:=H;have I:=D.1 x A;rw[K,Q,Zf5] at I;cases r with
    |nil=>
     cases q with
     |nil=>rw[K,ZX] at F;omega
     |cons c q=>rw[pathCmp] at I;omega
    |cons c r=>rw[Q,Zc,Zd];omega
def okX (f:Fd):Prop:=coll (lst f.id)≠ []/\(∀p∈f.path,coll (lst p)≠ [])/\f.path.length<=64
theorem Zif {f:Fd} (h:okH f=true):okX f:=by
 obtain ⟨F,A,H,J,I⟩:=X4.1 h;refine ⟨ZeR (A _ (by unfold strsF;simp)) H,λp D=>ZeR (A p (by unfold strsF;simp[D])) (I p D),F⟩
theorem Zjd (f:Fd):isEl outlineL (feedN f)=true:=by unfold feedN;dsimp only;split<;>rfl
theorem ZlM (f:Fd):attrL (feedN f) xmlUrlL=some (lst f.id):=by unfold feedN;dsimp only;split<;>rfl
theorem ZjH (f:Fd):nameL (feedN f)=lst f.title:=by unfold feedN;dsimp only;split<;>rfl
theorem Zjq (f:Fd):str ((attrL (feedN f) htmlUrlL).getD [])=f.link:=by
 unfold feedN;dsimp only;split
 ·rename_i h;show str []=f.link;have:lst f.link= []:=Zr h;rw[<-this,KT]
 ·show str (lst f.link)=f.link;exact KT _
theorem ZjP (f:Fd):opFd f.path (feedN f) (lst f.id)=outl f:=by
 unfold opFd outl;rw[ZjH,Zjq,KT,KT]
theorem EZ {path:List ByteArray} (rest:List Nd):∀l:List Fd,(∀x∈l,x.path=path/\okX x)->visKs (l.map feedN++rest) path=moreF (l.map outl) (visKs rest path)
 | [],_=>(Vg _).symm
 |x::t,h=>by
  have D:=h x ZF
  have ih:=EZ rest t λy F=>h y (Zu _ F)
  have A:=Zbo (out:= []) (t:=t.map feedN++rest) (path:=path) (Zjd x) (ZlM x) D.2.1
  rw[Vg] at A
  rw[Zw,YD,A,ih,<-D.1,ZjP]
  cases visKs rest x.path with
  |error e=>rfl
  |ok m=>rfl
def foldN (s:ByteArray) (ks:List Nd):Nd:=withP (elemN outlineL ks) [(textL,lst s)]
theorem Zje (s:ByteArray) (ks:List Nd):isEl outlineL (foldN s ks)=true:=rfl
theorem ZlN (s:ByteArray) (ks:List Nd):attrL (foldN s ks) xmlUrlL=none:=rfl
theorem Zdh (s:ByteArray) (ks:List Nd):nameL (foldN s ks)=lst s:=rfl
def elems (ks:List Nd):Prop:=∀k∈ks,k.kind=0
theorem XT {ks:List Nd} (h:elems ks):ks.filter (λk=> !(decide (k.kind=1) && k.text.isEmpty))=ks:=by
 rw[List.filter_eq_self];intro k A;rw[h k A];rfl
theorem ZlP {s:ByteArray} {ks:List Nd} (h:elems ks) (path:List ByteArray):visP (foldN s ks) path=visKs ks path:=by
 unfold foldN elemN withP;rw[visP,XT h]
theorem Ze1 (l:List Fd):elems (l.map feedN):=λk h=>by
 obtain ⟨f,_,rfl⟩:=ZS.1 h;unfold feedN;dsimp only;split<;>rfl
theorem ZiQ {a b:List Nd} (h:elems a) (A:elems b):elems (a++b):=λk D=>(Zx.1 D).elim (h k) (A k)
theorem EJ (rec_:List Fd->List Nd) (d:Nat):∀(f:Nat) (l:List Fd),elems (foldsP rec_ d f l)
 |0,l=>(by rw[foldsP];intro k h;cases h)
 |f+1,[]=>(by rw[foldsP];intro k h;cases h)
 |f+1,x::t=>by
  rw[foldsP]
  intro k h
  rcases ZK.1 h with rfl|h
  ·rfl
  ·exact EJ rec_ d f _ k h
theorem JI:∀(f d:Nat) (l:List Fd),elems (outsP f d l)
 |0,d,l=>(by rw[outsP];intro k h;cases h)
 |f+1,d,l=>by
  rw[outsP]
  exact ZiQ (Ze1 _) (EJ _ _ _ _)
theorem KN (x:Fd) (t:List Fd) (d:Nat):0<((x::t).takeWhile λy=>decide (pathAt y d=pathAt x d)).length:=by
 rw[Yk,Zi (by simp)];simp
theorem Zan (x:Fd) (t:List Fd) (d:Nat):∀y∈(x::t).take ((x::t).takeWhile λy=>decide (pathAt y d=pathAt x d)).length,pathAt y d=pathAt x d:=by
 intro y h;rw[show (x::t).take ((x::t).takeWhile λy=>decide (pathAt y d=pathAt x d)).length=(x::t).takeWhile λy=>decide (pathAt y d=pathAt x d) from (YX.1 (XG _)).symm] at h;have:=List.all_takeWhile (p:=λy=>decide (pathAt y d=pathAt x d)) (l:=x::t);rw[Yg] at this;simpa using this y h
theorem Ug {a b:List Fd} (h:a.Sublist b) (A:asc b):asc a:=List.Pairwise.sublist h A
theorem Za8 {rec_:List Fd->List Nd} {path:List ByteArray} {d:Nat} (R:path.length=d)
 (D:∀(s:ByteArray) (g:List Fd),asc g->(∀x∈g,Pref (path++ [s]) x/\okX x)->elems (rec_ g)/\visKs (rec_ g) (path++ [s])= .ok (g.map outl)):
 ∀(f:Nat) (l:List Fd),l.length<f->asc l->(∀x∈l,Pref path x/\okX x/\d<x.path.length)->visKs (foldsP rec_ d f l) path= .ok (l.map outl)
 |0,l,h,_,_=>by omega
 |f+1,[],_,_,_=>(by rw[foldsP];exact ZdH path)
 |f+1,x::t,hf,hs,hl=>by
  obtain ⟨n,U⟩:∃n,((x::t).takeWhile λy=>decide (pathAt y d=pathAt x d)).length=n:=⟨_,rfl⟩;have I:=KN x t d;have A:=Zan x t d;rw[U] at I A;rw[foldsP];(try dsimp only);rw[U];have J:=hl x ZF;have S:=D (pathAt x d) ((x::t).take n) (Ug (List.take_sublist _ _) hs) λy K=>by have H:=hl y (Y2 K);refine ⟨?_,H.2.1⟩;rw[<-A y K];exact H.1.next R H.2.2
  have F:pathAt x d∈x.path:=by unfold pathAt;rw[ZW,Zl J.2.2];exact ZE _
  have ih:=Za8 R D f ((x::t).drop n) (by rw[Zd] at hf;rw[Zj,Zd];omega) (Ug (List.drop_sublist _ _) hs) λy K=>hl y (Yr K);have Q:=Zdf (out:= []) (t:=foldsP rec_ d f ((x::t).drop n)) (path:=path) (Zje (pathAt x d) (rec_ ((x::t).take n))) (ZlN _ _) (by rw[Zdh];exact J.2.1.2.1 _ F) (by have V:=J.2.1.2.2;have X:=J.2.2;omega);rw[Vg,Zdh,KT,ZlP S.1,S.2] at Q;show visKs (foldN (pathAt x d) (rec_ ((x::t).take n))::_) path=_;rw[Q];dsimp only;rw[ih];unfold moreF;dsimp only;rw[Yt,<-ZN,Yy]
theorem Zdq:∀(f d:Nat) (path:List ByteArray) (l:List Fd),path.length=d->65<=f+d->d<=64\/l= []->asc l->(∀x∈l,Pref path x/\okX x)->visKs (outsP f d l) path= .ok (l.map outl)
 |0,d,path,l,hd,hf,h64,hs,hl=>by
  have:l= []:=h64.resolve_left (by omega)
  subst this
  rw[outsP]
  exact ZdH path
 |f+1,d,path,l,hd,hf,h64,hs,hl=>by
  obtain ⟨n,F⟩:∃n,(l.takeWhile λx=>decide (x.path.length=d)).length=n:=⟨_,rfl⟩
  have H:=VC hd hs λx h=>(hl x h).1
  have A:l.takeWhile (λx=>decide (x.path.length=d))=l.take n:=by rw[<-F];exact YX.1 (XG _)
  rw[F,A] at H
  rw[outsP,A,show (l.take n).length=n by rw[<-A,F],EZ _ (l.take n) λx h=>⟨H.1 x h,(hl x (Y2 h)).2⟩,
   Za8 hd (λs g K D=>⟨JI _ _ _,Zdq f (d+1) (path++ [s]) g (by rw[Zc,hd];rfl) (by omega) ?_ K D⟩) (l.length+1) (l.drop n) (by rw[Zj];omega) (Ug (List.drop_sublist _ _) hs) λx h=>⟨(hl x (Yr h)).1,(hl x (Yr h)).2,H.2 x h⟩]
  ·unfold moreF
   dsimp only
   rw[<-ZN,Yy]
  ·cases g with
   |nil=>exact Or.inr rfl
   |cons y g=>
    left
    have J:=D y ZF
    have I:=J.1.len
    have Q:=J.2.2.2
    rw[Zc,hd] at I
    simp only[Zd,ZM] at I
    omega
theorem Zal {l:List Fd} (h:okA l=true):asc l:=by
 have H:=(Uj.1 h).2.1;refine List.Pairwise.imp ?_ H;intro a b A;have D:feedCmp a b<0:=by have F:ltF a b=true:=A;simpa [ltF] using F
 unfold feedCmp at D;split at D<;>omega
theorem Zkw (l:List Fd):(encP l).kids= [elemN headL [],elemN bodyL (outsP 66 0 l)]:=rfl
theorem ZjT {l:List Fd} (h:okA l=true):opmlP (encP l)= .ok (l.map outl):=by
 have A:=Zdq 66 0 [] l rfl (by omega) (Or.inl (by omega)) (Zal h) λx F=>⟨⟨x.path,rfl⟩,Zif (Jf.1 ((Uj.1 h).1 x F)).1⟩;unfold opmlP;rw[Ze (by rintro (e|e|e|e)<;>exact e rfl),Zkw];have D: [elemN headL [],elemN bodyL (outsP 66 0 l)].find? (isEl bodyL)=some (elemN bodyL (outsP 66 0 l)):=rfl;rw[D];dsimp only;unfold elemN;rw[visP,XT (JI _ _ _)];exact A
theorem Zbs {l:List Fd} (h:okA l=true):okA (l.map outl)=true:=by
 obtain ⟨F,H,I⟩:=Uj.1 h;refine Uj.2 ⟨λx K=> ?_,?_,?_⟩
 ·obtain ⟨f,J,rfl⟩:=ZS.1 K;have D:=X4.1 (Jf.1 (F f J)).1;exact Jf.2 ⟨X4.2 ⟨D.1,D.2.1,D.2.2.1,(by show inT (-62135596800)=true;decide),D.2.2.2.2⟩,rfl⟩
 ·exact List.Pairwise.map _ (λa b A=>A) H
 ·exact List.Pairwise.map _ (λa b A=>A) I
def okO {α:Type}:Except PErr α->Option α
 | .ok x=>some x
 | .error _=>none
theorem Znl {e:Except PErr α} {x:α} (h:okO e=okO (.ok x)):e= .ok x:=by
 cases e with
 |error a=>cases h
 |ok a=>injection h with h;rw[h]
theorem UT (n:Nd) (nm:List UInt8):attrL n.bare nm=attrL n nm:=by
 obtain ⟨k,s,m,al,ks,t,a⟩:=n;rw[Nd.bare];unfold attrL attrIn;simp only[Nd.attrs]
 induction al with
 |nil=>rfl
 |cons b t ih=>
  rw[Zw,List.find?_cons,List.find?_cons];cases hb:(b.space== [] && b.name==nm) with
  |true=>rw[show (b.bare.space== [] && b.bare.name==nm)=true from hb];rfl
  |false=>rw[show (b.bare.space== [] && b.bare.name==nm)=false from hb];exact ih
theorem Zc9 (nm:List UInt8) (n:Nd):isEl nm n.bare=isEl nm n:=by
 obtain ⟨k,s,m,al,ks,t,a⟩:=n;rw[Nd.bare];rfl
theorem Zbp (n:Nd):nameL n.bare=nameL n:=by unfold nameL;rw[UT,UT]
theorem ZjO (path:List ByteArray) (n:Nd) (id:List UInt8):opFd path n.bare id=opFd path n id:=by unfold opFd;rw[Zbp,UT]
mutual
theorem Zgu:∀(n:Nd) (path:List ByteArray),okO (visP n.bare path)=okO (visP n path)
 | .mk k s m al ks t a,path=>by
  rw[Nd.bare,visP,visP]
  exact ZbS ks path
theorem ZbS:∀(ks:List Nd) (path:List ByteArray),okO (visKs (Nds.bare ks) path)=okO (visKs ks path)
 | [],path=>by rw[Nds.bare]
 |x::xs,path=>by
  have ih:=ZbS xs path
  rw[Nds.bare,visKs,visKs,Zc9,UT,Zbp]
  have h1:okO (if isEl outlineL x=true then
   match attrL x xmlUrlL with
   |some id=>if coll id= [] then .error (x.bare.at_,19) else .ok [opFd path x.bare id]
   |none=>if coll (nameL x)= [] then .error (x.bare.at_,19) else if 64<=path.length then .error (x.bare.at_,9) else visP x.bare (path++ [str (nameL x)])
   else .ok []:Except PErr (List Fd))=okO (if isEl outlineL x=true then
    match attrL x xmlUrlL with
    |some id=>if coll id= [] then .error (x.at_,19) else .ok [opFd path x id]
    |none=>if coll (nameL x)= [] then .error (x.at_,19) else if 64<=path.length then .error (x.at_,9) else visP x (path++ [str (nameL x)])
   else .ok []:Except PErr (List Fd)):=by
   split
   ·split
    ·rw[ZjO]
     split<;>rfl
    ·split
     ·rfl
     ·split
      ·rfl
      ·exact Zgu x _
   ·rfl
  revert h1
  generalize (if isEl outlineL x=true then
   match attrL x xmlUrlL with
   |some id=>if coll id= [] then .error (x.bare.at_,19) else .ok [opFd path x.bare id]
   |none=>if coll (nameL x)= [] then .error (x.bare.at_,19) else if 64<=path.length then .error (x.bare.at_,9) else visP x.bare (path++ [str (nameL x)])
   else .ok []:Except PErr (List Fd))=A
  generalize (if isEl outlineL x=true then
   match attrL x xmlUrlL with
   |some id=>if coll id= [] then .error (x.at_,19) else .ok [opFd path x id]
   |none=>if coll (nameL x)= [] then .error (x.at_,19) else if 64<=path.length then .error (x.at_,9) else visP x (path++ [str (nameL x)])
   else .ok []:Except PErr (List Fd))=B
  revert ih
  generalize visKs (Nds.bare xs) path=C
  generalize visKs xs path=D
  intro h2 h1
  cases A with
  |error a=>
   cases B with
   |error b=>rfl
   |ok b=>cases h1
  |ok a=>
   cases B with
   |error b=>cases h1
   |ok b=>
    injection h1 with h1
    subst h1
    dsimp only
    cases C with
    |error c=>
     cases D with
     |error e=>rfl
     |ok e=>cases h2
    |ok c=>
     cases D with
     |error e=>cases h2
     |ok e=>
      injection h2 with h2
      subst h2
      rfl
end
theorem ZcQ (nm:List UInt8):∀ks:List Nd,(Nds.bare ks).find? (isEl nm)=(ks.find? (isEl nm)).map Nd.bare
 | []=>by rw[Nds.bare];rfl
 |x::xs=>by
  rw[Nds.bare,List.find?_cons,List.find?_cons,Zc9,ZcQ nm xs]
  cases isEl nm x<;>rfl
theorem Zdo (n:Nd):okO (opmlP n.bare)=okO (opmlP n):=by
 have A:=UT n versionL;obtain ⟨k,s,m,al,ks,t,a⟩:=n;rw[Nd.bare] at A|-;unfold opmlP;rw[A];show okO (if k≠0\/s≠ []\/m≠opmlL\/attrL (Nd.mk k s m al ks t a) versionL≠some twoL then (.error (0,18):Except PErr (List Fd)) else match (Nds.bare ks).find? (isEl bodyL) with
  |none=> .error (0,19)
  |some b=>visP b [])=okO (if k≠0\/s≠ []\/m≠opmlL\/attrL (Nd.mk k s m al ks t a) versionL≠some twoL then (.error (a,18):Except PErr (List Fd)) else match ks.find? (isEl bodyL) with
  |none=> .error (a,19)
  |some b=>visP b [])
 rw[ZcQ];by_cases h:k≠0\/s≠ []\/m≠opmlL\/attrL (Nd.mk k s m al ks t a) versionL≠some twoL
 ·rw[Zi h,Zi h];rfl
 ·rw[Ze h,Ze h];cases ks.find? (isEl bodyL) with
  |none=>rfl
  |some b=>exact Zgu b []
theorem Va {s:ByteArray} (h:validS s=true):charsOk (lst s)=true:=by
 have A:=QG h;unfold checkS at A;exact YE A
def okC (f:Fd):Prop:=charsOk (lst f.id)=true/\charsOk (lst f.title)=true/\charsOk (lst f.link)=true/\∀p∈f.path,charsOk (lst p)=true
theorem Zmv {f:Fd} (h:okH f=true):okC f:=by
 obtain ⟨F,A,H,I,J⟩:=X4.1 h;refine ⟨Va (A _ (by unfold strsF;simp)),Va (A _ (by unfold strsF;simp)),Va (A _ (by unfold strsF;simp)),λp D=>Va (A p (by unfold strsF;simp[D]))⟩
theorem Ei:isQ outlineL=true:=by decide+kernel
theorem Zlt:isQ typeL=true:=by decide+kernel
theorem ZhG:isQ textL=true:=by decide+kernel
theorem Zf7:isQ xmlUrlL=true:=by decide+kernel
theorem ZjY:isQ htmlUrlL=true:=by decide+kernel
theorem Znq:isQ opmlL=true:=by decide+kernel
theorem Znp:isQ headL=true:=by decide+kernel
theorem Zno:isQ bodyL=true:=by decide+kernel
theorem ZjZ:isQ versionL=true:=by decide+kernel
theorem I4:isNm outlineL=true:=by decide+kernel
theorem Zla:isNm typeL=true:=by decide+kernel
theorem Zhr:isNm textL=true:=by decide+kernel
theorem ZfQ:isNm xmlUrlL=true:=by decide+kernel
theorem ZjE:isNm htmlUrlL=true:=by decide+kernel
theorem Znk:isNm opmlL=true:=by decide+kernel
theorem Znj:isNm headL=true:=by decide+kernel
theorem Zni:isNm bodyL=true:=by decide+kernel
theorem ZjF:isNm versionL=true:=by decide+kernel
theorem ZmM:charsOk rssL=true:=by decide+kernel
theorem Znw:charsOk twoL=true:=by decide+kernel
theorem JN {a:Nat} {n:List UInt8} {al:List AtP} {ks:List Nd} (A:d<=100) (F:isQ n=true) (h:attrsOk al []=true) (D:kidsOk d false ks=true):nodeOk d (.mk 0 [] n al ks [] a)=true:=by
 rw[nodeOk,F,h,D,YE A];rfl
theorem Ub {a:Nat} {n:List UInt8} {al:List AtP} {ks:List Nd} (D:isNm n=true) (F:(n !=xmlnsL)=true) (h:plainAs al=true) (A:Nds.plain ks=true):(Nd.mk 0 s n al ks t a).plain=true:=by
 rw[Nd.plain,D,F,h,A];rfl
theorem Zmh {f:Fd} (h:okC f) (F:d<=100):nodeOk d (feedN f)=true/\(feedN f).plain=true:=by
 obtain ⟨A,D,H,I⟩:=h;unfold feedN;dsimp only;split
 ·refine ⟨JN F Ei ?_ rfl,Ub I4 (by decide) ?_ rfl⟩
  ·show attrsOk [⟨[],typeL,rssL,0⟩,⟨[],textL,lst f.title,0⟩,⟨[],xmlUrlL,lst f.id,0⟩] []=true;simp only[attrsOk,Zlt,ZhG,Zf7,ZmM,A,D];decide
  ·show plainAs [⟨[],typeL,rssL,0⟩,⟨[],textL,lst f.title,0⟩,⟨[],xmlUrlL,lst f.id,0⟩]=true;simp only[plainAs,Zcr,List.all_nil,Zla,Zhr,ZfQ];decide
 ·refine ⟨JN F Ei ?_ rfl,Ub I4 (by decide) ?_ rfl⟩
  ·show attrsOk [⟨[],typeL,rssL,0⟩,⟨[],textL,lst f.title,0⟩,⟨[],xmlUrlL,lst f.id,0⟩,⟨[],htmlUrlL,lst f.link,0⟩] []=true;simp only[attrsOk,Zlt,ZhG,Zf7,ZjY,ZmM,A,D,H];decide
  ·show plainAs [⟨[],typeL,rssL,0⟩,⟨[],textL,lst f.title,0⟩,⟨[],xmlUrlL,lst f.id,0⟩,⟨[],htmlUrlL,lst f.link,0⟩]=true;simp only[plainAs,Zcr,List.all_nil,Zla,Zhr,ZfQ,ZjE];decide
theorem V8 {d:Nat}:∀(ks:List Nd) (data:Bool),elems ks->(∀k∈ks,nodeOk (d+1) k=true)->kidsOk d data ks=true
 | [],_,_,_=>rfl
 |x::xs,data,he,h=>by
  rw[kidsOk,Ze (by rw[he x ZF];decide),h x ZF,Xv]
  exact V8 xs _ (λk A=>he k (Zu _ A)) λk A=>h k (Zu _ A)
theorem Qc:∀ks:List Nd,(∀k∈ks,k.plain=true)->Nds.plain ks=true
 | [],_=>rfl
 |x::xs,h=>by
  rw[Nds.plain,h x ZF,Xv]
  exact Qc xs λk A=>h k (Zu _ A)
theorem Zmi {s:ByteArray} {ks:List Nd} (H:charsOk (lst s)=true) (F:d<=100) (D:elems ks) (h:∀k∈ks,nodeOk (d+1) k=true/\k.plain=true):nodeOk d (foldN s ks)=true/\(foldN s ks).plain=true:=by
 have e1:foldN s ks= .mk 0 [] outlineL [⟨[],textL,lst s,0⟩] ks [] 0:=by unfold foldN elemN withP;rw[XT D];rfl
 rw[e1];refine ⟨JN F Ei ?_ (V8 ks false D λk A=>(h k A).1),Ub I4 (by decide) ?_ (Qc ks λk A=>(h k A).2)⟩
 ·simp only[attrsOk,ZhG,H];decide
 ·simp only[plainAs,Zcr,List.all_nil,Zhr];decide
theorem Zfh {rec_:List Fd->List Nd} {path:List ByteArray} {d e:Nat} (J:path.length=d) (K:e<=100)
 (h:∀(s:ByteArray) (g:List Fd),asc g->(∀x∈g,Pref (path++ [s]) x/\okC x)->elems (rec_ g)/\∀k∈rec_ g,nodeOk (e+1) k=true/\k.plain=true):
 ∀(f:Nat) (l:List Fd),asc l->(∀x∈l,Pref path x/\okC x/\d<x.path.length)->∀k∈foldsP rec_ d f l,nodeOk e k=true/\k.plain=true
 |0,l,_,_=>(by rw[foldsP];intro k A;cases A)
 |f+1,[],_,_=>(by rw[foldsP];intro k A;cases A)
 |f+1,x::t,hs,hl=>by
  rw[foldsP];intro k A;rcases ZK.1 A with rfl|A
  ·have H:=Zan x t d;have Q:=h (pathAt x d) ((x::t).take ((x::t).takeWhile λy=>decide (pathAt y d=pathAt x d)).length) (Ug (List.take_sublist _ _) hs) λy I=>(by have F:=hl y (Y2 I);refine ⟨?_,F.2.1⟩;rw[<-H y I];exact F.1.next J F.2.2);have R:=hl x ZF;have D:pathAt x d∈x.path:=(by unfold pathAt;rw[ZW,Zl R.2.2];exact ZE _);exact Zmi (R.2.1.2.2.2 _ D) K Q.1 Q.2
  ·exact Zfh J K h f _ (Ug (List.drop_sublist _ _) hs) (λy I=>hl y (Yr I)) k A
theorem Zih:∀(f d e:Nat) (path:List ByteArray) (l:List Fd),path.length=d->f+e<=90->asc l->(∀x∈l,Pref path x/\okC x)->∀k∈outsP f d l,nodeOk e k=true/\k.plain=true
 |0,d,e,path,l,_,_,_,_=>(by rw[outsP];intro k h;cases h)
 |f+1,d,e,path,l,hd,hf,hs,hl=>by
  obtain ⟨n,H⟩:∃n,(l.takeWhile λx=>decide (x.path.length=d)).length=n:=⟨_,rfl⟩
  have I:=VC hd hs λx A=>(hl x A).1
  have D:l.takeWhile (λx=>decide (x.path.length=d))=l.take n:=by rw[<-H];exact YX.1 (XG _)
  rw[H] at I
  rw[outsP,D,show (l.take n).length=n by rw[<-D,H]]
  intro k h
  rcases Zx.1 h with h|h
  ·obtain ⟨x,A,rfl⟩:=ZS.1 h
   exact Zmh (hl x (Y2 A)).2 (by omega)
  ·exact Zfh hd (by omega) (λs g J F=>⟨JI _ _ _,Zih f (d+1) (e+1) (path++ [s]) g (by rw[Zc,hd];rfl) (by omega) J F⟩) (l.length+1) (l.drop n) (Ug (List.drop_sublist _ _) hs) (λx A=>⟨(hl x (Yr A)).1,(hl x (Yr A)).2,I.2 x A⟩) k h
theorem ZlK {K:List Nd} (h:elems K):withP (elemN opmlL K) [(versionL,twoL)]= .mk 0 [] opmlL [⟨[],versionL,twoL,0⟩] K [] 0:=by
 unfold elemN;rw[XT h];rfl
theorem ZgX {l:List Fd} (h:okA l=true):nodeOk 1 (encP l)=true/\(encP l).plain=true:=by
 have J:=Zih 66 0 3 [] l rfl (by omega) (Zal h) λx Q=>⟨⟨x.path,rfl⟩,Zmv (Jf.1 ((Uj.1 h).1 x Q)).1⟩;have K:=JI 66 0 l;have e1:elemN bodyL (outsP 66 0 l)= .mk 0 [] bodyL [] (outsP 66 0 l) [] 0:=by unfold elemN;rw[XT K]
 have F:nodeOk 2 (elemN bodyL (outsP 66 0 l))=true/\(elemN bodyL (outsP 66 0 l)).plain=true:=by rw[e1];exact ⟨JN (by omega) Zno rfl (V8 _ false K λk A=>(J k A).1),Ub Zni (by decide) rfl (Qc _ λk A=>(J k A).2)⟩
 have H:nodeOk 2 (elemN headL [])=true/\(elemN headL []).plain=true:=⟨JN (by omega) Znp rfl rfl,Ub Znj (by decide) rfl rfl⟩;have I:elems [elemN headL [],elemN bodyL (outsP 66 0 l)]:=λk A=>by
  rcases ZK.1 A with rfl|A
  ·rfl
  ·rw[Zo.1 A];rfl
 have D:∀k∈ [elemN headL [],elemN bodyL (outsP 66 0 l)],nodeOk 2 k=true/\k.plain=true:=λk A=>by
  rcases ZK.1 A with rfl|A
  ·exact H
  ·rw[Zo.1 A];exact F
 unfold encP;rw[ZlK I];refine ⟨JN (by omega) Znq ?_ (V8 _ false I λk A=>(D k A).1),Ub Znk (by decide) ?_ (Qc _ λk A=>(D k A).2)⟩
 ·rw[attrsOk,ZjZ,Znw];rfl
 ·show plainAs [⟨[],versionL,twoL,0⟩]=true;unfold plainAs;rw[Zcr,ZjF];rfl
theorem ZhB {l:List Fd} (h:okA l=true):∃m r,docP (docW (encP l))= .ok m/\resP m []= .ok r/\opmlP r= .ok (l.map outl):=by
 obtain ⟨D,F⟩:=ZgX h;obtain ⟨m,r,H,I,J⟩:=ZeZ (encP l) D F;refine ⟨m,r,H,I,?_⟩;have A:=Zdo r;rw[J,Zdo,ZjT h] at A;exact Znl A.symm
end
section
variable {P:Program} {a:Act} {f k m:Nat} {o:Oper} {ops:Array Oper} {w:World}
section
variable {P:Program} {md:Region.Mode} {ops:Array Oper} {Q:Exit→Act→World→Prop} {S:World→Prop} {T:Array Bool→Act→World→Prop} {t:Nat}
def wpAnyC (P:Program) (md:Region.Mode) (ops:Array Oper) (Q:Exit->Act->Wq->Prop) (S:Wq->Prop) (T:Array Bool->Act->Wq->Prop):Nat->Array Bool->Act->Wq->Prop
 |0,listed,a,w=>T listed a w
 |f+1,listed,a,w=>(Region.ready md ops listed= []->Q .normal a w)/\
  ∀i∈Region.ready md ops listed,wpOp P ops Q i (λa' w'=>S w'/\wpAnyC P md ops Q S T f (listed.setIfInBounds i true) a' w') a w
theorem Zb0 {m:Nat} (D:∀L a w,T L a w->wpAnyT P md ops Q S t m L a w):∀(f k:Nat) (listed:Array Bool) (a:Act) (w:Wq),k=f+m->wpAnyC P md ops Q S T f listed a w->wpAnyT P md ops Q S t k listed a w
 |0,k,listed,a,w,hk,h=>by rw[hk,YQ];exact D _ _ _ h
 |f+1,k,listed,a,w,hk,h=>by
  rw[hk,show f+1+m=(f+m)+1 by omega]
  exact ⟨h.1,λi F=>JL (λa' w' A=>⟨λ_=>A.1,Zb0 D f (f+m) _ a' w' rfl A.2⟩) (h.2 i F)⟩
theorem ZgB {l:List Oper} {listed:Array Bool} (H:k=f+m) (A:Array Bool) (R:Act->Act->Wq->Prop)
 (D:wpAnyC P md l.toArray Q S (λL a' w'=>L=A/\R a a' w') f listed a w) (F:∀a' w',R a a' w'->wpAnyT P md l.toArray Q S t m A a' w'):wpAnyT P md l.toArray Q S t k listed a w:=
 Zb0 (λL a w h=>by obtain ⟨rfl,h⟩:=h;exact F a w h) f k listed a w H D
theorem ZbZ {m:Nat} (D:∀L a w,T L a w->wpAnyS P md ops Q S m L a w):∀(f k:Nat) (listed:Array Bool) (a:Act) (w:Wq),k=f+m->wpAnyC P md ops Q S T f listed a w->wpAnyS P md ops Q S k listed a w
 |0,k,listed,a,w,hk,h=>by rw[hk,YQ];exact D _ _ _ h
 |f+1,k,listed,a,w,hk,h=>by
  rw[hk,show f+1+m=(f+m)+1 by omega]
  exact ⟨h.1,λi F=>JL (λa' w' A=>⟨A.1,ZbZ D f (f+m) _ a' w' rfl A.2⟩) (h.2 i F)⟩
theorem Zac {l:List Oper} {listed:Array Bool} (H:k=f+m) (A:Array Bool) (R:Act->Act->Wq->Prop)
 (D:wpAnyC P md l.toArray Q S (λL a' w'=>L=A/\R a a' w') f listed a w) (F:∀a' w',R a a' w'->wpAnyS P md l.toArray Q S m A a' w'):wpAnyS P md l.toArray Q S k listed a w:=
 ZbZ (λL a w h=>by obtain ⟨rfl,h⟩:=h;exact F a w h) f k listed a w H D
section
variable {l:List Oper} {f:Nat} {listed:Array Bool} {a:Act} {w:World} {i j k:Nat} {oi oj ok:Oper}
end
end
section
variable {P:Program} {md:Region.Mode} {Q:Exit→Act→World→Prop} {S:World→Prop} {t:Nat} {l:List Oper} {f:Nat} {listed:Array Bool} {a:Act} {w:World} {i j:Nat} {oi oj:Oper}
theorem Zb2 (R:l[i]? =some oi) (U:l[j]? =some oj) (X:Region.ready md l.toArray listed= [i,j])
 (H:∀K:Act->Wq->Prop,(∀a' w',((listed.setIfInBounds i true).getD t true=false->S w')->wpAnyT P md l.toArray Q S t f (listed.setIfInBounds i true) a' w'->K a' w')->if Region.wanted oi (yielded l.toArray a.tmps) then Oper.wp P oi a w K Q else K (a.put oi.dst undef) w)
 (I:∀K:Act->Wq->Prop,(∀a' w',((listed.setIfInBounds j true).getD t true=false->S w')->wpAnyT P md l.toArray Q S t f (listed.setIfInBounds j true) a' w'->K a' w')->if Region.wanted oj (yielded l.toArray a.tmps) then Oper.wp P oj a w K Q else K (a.put oj.dst undef) w):wpAnyT P md l.toArray Q S t (f+1) listed a w:=by
 refine ⟨λh=>(by rw[X] at h;cases h),λq A=> ?_⟩;have D:∀(q:Nat) (o:Oper),l[q]? =some o->(∀K:Act->Wq->Prop,(∀a' w',((listed.setIfInBounds q true).getD t true=false->S w')->wpAnyT P md l.toArray Q S t f (listed.setIfInBounds q true) a' w'->K a' w')->if Region.wanted o (yielded l.toArray a.tmps) then Oper.wp P o a w K Q else K (a.put o.dst undef) w)->
  wpOp P l.toArray Q q (λa' w'=>((listed.setIfInBounds q true).getD t true=false->S w')/\wpAnyT P md l.toArray Q S t f (listed.setIfInBounds q true) a' w') a w:=by
  intro q o Y h
  have J:l.toArray[q]? =some o:=by rw[Yh];exact Y
  have F:=h (λa' w'=>((listed.setIfInBounds q true).getD t true=false->S w')/\wpAnyT P md l.toArray Q S t f (listed.setIfInBounds q true) a' w') λ_ _ H I=>⟨H,I⟩
  unfold wpOp
  simp only[J]
  split
  ·rename_i V;rw[Zi V] at F;exact Or.inl F
  ·rename_i V;rw[Ze V] at F;exact F
 rw[X] at A;simp only[ZK,Z2,Xc] at A;rcases A with A|A
 ·rw[A];exact D i oi R H
 ·rw[A];exact D j oj U I
theorem Qp (H:l[i]? =some oi) (R:Region.ready md l.toArray listed= [i])
 (D:∀K:Act->Wq->Prop,(∀a' w',((listed.setIfInBounds i true).getD t true=false->S w')->wpAnyT P md l.toArray Q S t f (listed.setIfInBounds i true) a' w'->K a' w')->if Region.wanted oi (yielded l.toArray a.tmps) then Oper.wp P oi a w K Q else K (a.put oi.dst undef) w):wpAnyT P md l.toArray Q S t (f+1) listed a w:=by
 refine ⟨λh=>(by rw[R] at h;cases h),λq J=> ?_⟩;rw[R] at J;rw[Zo.1 J];have F:l.toArray[i]? =some oi:=by rw[Yh];exact H
 have A:=D (λa' w'=>((listed.setIfInBounds i true).getD t true=false->S w')/\wpAnyT P md l.toArray Q S t f (listed.setIfInBounds i true) a' w') λ_ _ D U=>⟨D,U⟩;unfold wpOp;simp only[F];split
 ·rename_i I;rw[Zi I] at A;exact Or.inl A
 ·rename_i I;rw[Ze I] at A;exact A
theorem Zb1 (A:Region.ready md l.toArray listed= []) (h:Q .normal a w):wpAnyT P md l.toArray Q S t 0 listed a w:=⟨A,h⟩
end
theorem Zf1 {B size n g c:Nat} {e:TypeId}:∀(vs:List Value) (j:Nat) (w:Wq) (xs:List Value),w.ownsRow B e size (.slice (some ⟨g,0,none⟩) n c) n xs->j+vs.length<=n*size->
 (w.setCells g j vs).ownsRow B e size (.slice (some ⟨g,0,none⟩) n c) n (xs.take j++vs++xs.drop (j+vs.length))
 | [],j,w,xs,h,_=>by rw[ZX,ZM,Nat.add_zero,Yy];exact h
 |v::r,j,w,xs,h,hl=>by
  have A:=h.1;rw[Zd] at hl;have ih:=Zf1 r (j+1) _ _ (Zii h (j:=j) (by omega) v) (by omega);have e1:(xs.set j v).take (j+1)=xs.take j++ [v]:=by rw[List.take_set,Zn (show j<xs.length by omega)];rw[List.set_append_right _ _ (by rw[ZL];omega)];rw[ZL,show j - min j xs.length=0 by omega];rfl
  have e2:(xs.set j v).drop (j+1+r.length)=xs.drop (j+(v::r).length):=by rw[Zd,show j+(r.length+1)=j+1+r.length by omega,List.drop_set_of_lt (by omega)]
  rw[e1,e2,ZQ (xs.take j)] at ih;exact ih
theorem Qf (g:Nat):∀(vs:List Value) (j:Nat) (w:Wq),w.grownBy (w.setCells g j vs) (some g)
 | [],j,w=>(Ext.refl w).grown (some g)
 |v::r,j,w=>(Yi w ⟨g,j,none⟩ v).trans (Qf g r (j+1) _)
theorem GL {K:Act->Wq->Prop} {Q:Exit->Act->Wq->Prop} {E:Prop} (H:o.guard=none) (ty:TypeId) (x y:Operand) (U:o.op= .store ty x y)
 (g A:Nat) (cells:Array Value) (Z:a.eval x= .pointer (some ⟨g,A,none⟩)) (hy:a.eval y= .agg cells)
 (I:(P.info? ty).map (·.size)=some cells.size) (R:∀j,j<cells.size->(w.cell? ⟨g,A+j,none⟩).isSome=true) (S:∀j,w.frozen? ⟨g,j,none⟩=false) (J:cells.all (·.oneCell')=true)
 (h:K (a.put o.dst undef) (w.setCells g A cells.toList)):if Region.wanted o (yielded ops a.tmps)=true then Oper.wp P o a w K Q else E:=by
 have Y:Region.wanted o (yielded ops a.tmps)=true:=by simp[Region.wanted,H]
 rw[Zi Y];have F:=run_storeCells_cells (P:=P) g A cells.toList 0 w (by simpa using R) (λj _=>S _) (λv X=>(Array.all_eq_true_iff_forall_mem.1 J) v (by simpa using X));have D:(storeVar ty ⟨g,A,none⟩ (.agg cells)).run P w= .ok () (w.setCells g A cells.toList):=by
  cases hq:P.info? ty with
  |none=>simp[hq] at I
  |some i=>have V:cells.size=i.size:=(by simp[hq] at I;omega);simp only[Nat.add_zero] at F;simp[storeVar,sizeOf,typeInfo,hq,Value.cells,V,F]
 unfold Oper.wp execOp;simp only[U,Z,hy,Instr.storeAt,Instr.sureAddr,Sem.run_bind,Sem.run_pure,Result.andThen_ok,D];exact h
end
section
variable {B C c g j k kc m n:Nat} {e:TypeId} {u v:Value} {w w':World} {xs:List Value} {y:Nc}
theorem X5 {s:Nat} (h:w.ownsRow B e s v n xs) (A:k<B):v.ownBlock≠some k:=λe=>by have:=(h.lt k e).1;omega
theorem HNs.grown {w w':Wq} {B:Nat} {v:Value} {l:List Nc} {r:Option Nat} (h:HNs w B v l) (A:w.grownBy w' r) (F:v.ownBlock≠r) (D:awayNs r l):HNs w' B v l:=
 ⟨h.row.kept A (Or.inr F),RdNs.grown A l h.rd D,h.away⟩
theorem HNs.cell {w:Wq} {B g i:Nat} {v u:Value} {l:List Nc} (h:HNs w B v l) (D:v.ownBlock≠some g) (A:awayNs (some g) l):HNs (w.setCell ⟨g,i,none⟩ u) B v l:=
 h.grown (Yi w ⟨g,i,none⟩ u) D A
theorem Zej (w:Wq) (l:Nat) (o:Obj):w.grownBy (w.putObj l o) (some l):=
 ⟨rfl,rfl,rfl,by rw[World.putObj_size];exact Zb _,λk _ h=>XQ (λe=>h (by rw[e]))⟩
theorem Zl9 {a:Addr} (h:w.cell? a=some u):∃cs T fr,w.heap[a.block]? =some (.cells cs T fr):=by
 unfold World.cell? at h;split at h
 ·rename_i A;exact ⟨_,_,_,A⟩
 ·cases h
theorem RSl.notObj {w:Wq} {size n l:Nat} {v:Value} {xs:List Value} {o:Obj} (h:RSl w size v n xs) (J:w.heap[l]? =some o) (K:o.isCells=false):xs= []\/v.ownBlock≠some l:=by
 cases xs with
 |nil=>exact Or.inl rfl
 |cons u t=>
  right;obtain ⟨_,A,c,rfl,_,_,_,F⟩:=h;obtain ⟨ad,rfl,I⟩:=F 0 u rfl;obtain ⟨cs,T,fr,D⟩:=Zl9 I;intro e;have H:(ad.add 0).block=ad.block:=by rw[add_zero]
  rw[H] at D;simp only[Value.ownBlock,Y8] at e;rw[e,J] at D;cases D;cases K
mutual
theorem RdN.notObj {w:Wq} {l:Nat} {o:Obj} (hl:w.heap[l]? =some o) (ho:o.isCells=false):∀x:Nc,RdN w x->awayN (some l) x
 | .mk k s n al l0 ks kids t a,h=>by
  rw[RdN] at h
  rw[awayN]
  refine ⟨?_,?_,RdNs.notObj hl ho kids h.2.2⟩
  ·by_cases h0:l0= []
   ·exact Or.inl (by rw[h0];rfl)
   ·exact Or.inr ((RSl.notObj h.1 hl ho).resolve_left (VH h0))
  ·by_cases h0:kids= []
   ·exact Or.inl (by rw[h0];rfl)
   ·exact Or.inr ((RSl.notObj h.2.1 hl ho).resolve_left (Za5 h0))
theorem RdNs.notObj {w:Wq} {l:Nat} {o:Obj} (hl:w.heap[l]? =some o) (ho:o.isCells=false):∀x:List Nc,RdNs w x->awayNs (some l) x
 | [],_=>by rw[awayNs];trivial
 |x::t,h=>by
  rw[RdNs] at h
  rw[awayNs]
  exact ⟨RdN.notObj hl ho x h.1,RdNs.notObj hl ho t h.2⟩
end
theorem Zbv {s l:Nat} {o:Obj} (h:w.ownsRow B e s v n xs) (D:w.heap[l]? =some o) (I:o.isCells=false):v.ownBlock≠some l:=by
 rcases h.2 with ⟨rfl,_⟩|⟨q,cap,F,rfl,_,H,_⟩
 ·simp[Value.ownBlock]
 ·intro A;simp only[Value.ownBlock,Y8] at A;subst A;rw[H] at D;cases D;cases I
theorem HNs.obj {w:Wq} {B l:Nat} {v:Value} {x:List Nc} {o o':Obj} (h:HNs w B v x) (A:w.heap[l]? =some o) (D:o.isCells=false):HNs (w.putObj l o') B v x:=
 h.grown (Zej w l o') (Zbv h.row A D) (RdNs.notObj A D x h.rd)
def newNs (B:Nat) (l:List Nc):Prop:=∀k,k<B->awayNs (some k) l
theorem newNs.nil (B:Nat):newNs B []:=λk _=>by rw[awayNs];trivial
theorem newNs.snoc {B:Nat} {l:List Nc} {x:Nc} (h:newNs B l) (F:∀k,k<B->awayN (some k) x):newNs B (l++ [x]):=λk D=>(Ys _).2 λy A=>by
 rcases Zx.1 A with A|A
 ·exact (Ys l).1 (h k D) y A
 ·rw[Zo.1 A];exact F k D
theorem newNs.mono {B C:Nat} {l:List Nc} (h:newNs B l) (A:C<=B):newNs C l:=λk D=>h k (YW D A)
theorem ZfH {KB:Option Addr} {al:Value} {f:Fd} (h:w.ownsRow C 88 4 al n xs) (D:B<=C):(∀k,k<B->awayN (some k) (leafC KB kc al f))/\(∀k,k<B->awayN (some k) (leafC2 KB kc al f)):=by
 refine ⟨λk A=> ?_,λk A=> ?_⟩
 ·unfold leafC;rw[awayN];exact ⟨Or.inr (X5 h (by omega)),Or.inl rfl,by rw[awayNs];trivial⟩
 ·unfold leafC2;rw[awayN];exact ⟨Or.inr (X5 h (by omega)),Or.inl rfl,by rw[awayNs];trivial⟩
def foldC (al ks:Value) (kids:List Nc) (s:ByteArray):Nc:= .mk 0 [] outlineL al [pairA (textL,lst s)] ks kids [] 0
theorem ZkQ {al ks:Value} {kids:List Nc} {s:ByteArray} (D:∀y∈kids,y.kind=0):(foldC al ks kids s).nd=withP (elemN outlineL (Nc.nds kids)) [(textL,lst s)]:=by
 have A:elems (Nc.nds kids):=λy h=>by rw[XW] at h;obtain ⟨z,F,rfl⟩:=ZS.1 h;rw[Zea];exact D z F
 unfold elemN foldC;rw[XT A,Nc.nd];rfl
theorem ZkR {al ks:Value} {kids:List Nc} {s:ByteArray} (h:w.ownsRow B 88 4 al 1 (flatA [pairA (textL,lst s)])) (A:w.ownsRow C 25 7 ks kids.length (flatN kids)) (D:RdNs w kids):RdN w (foldC al ks kids s):=by
 unfold foldC;rw[RdN];exact ⟨RSl.of_own h,RSl.of_own A,D⟩
theorem Zi4 {D:Nat} {al ks:Value} {kids:List Nc} {s:ByteArray} {ys:List Value} (h:w.ownsRow B 88 4 al n xs) (I:D<=B) (F:w'.ownsRow C 25 7 ks m ys) (J:D<=C) (H:newNs D kids):∀k,k<D->awayN (some k) (foldC al ks kids s):=λk A=>by
 unfold foldC;rw[awayN];exact ⟨Or.inr (X5 h (by omega)),Or.inr (X5 F (by omega)),H k A⟩
theorem Zjt {s:ByteArray} (h:s.toList.isEmpty=true):s.size=0:=by
 rw[Z5] at h;rw[UC] at h;show s.data.size=0;rw[<-Array.length_toList,h];rfl
theorem Zjr {s:ByteArray} (h:s.toList.isEmpty=false):s.size≠0:=by
 rw[Z5] at h;intro e;have e:s.data.size=0:=e;rw[<-Array.length_toList] at e;rw[Zr e] at h;cases h
theorem ZhX (AB:Option Addr) (ac:Nat) (KB:Option Addr) (kc:Nat) (v:Value) (title id link:ByteArray) (w:Wq) (D:RAts w (.slice AB 3 ac) ([(typeL,rssL),(textL,lst title),(xmlUrlL,lst id)].map pairA)) (F:RStrs w v (pairS [(htmlUrlL,lst link)])):
 Calls prog 46 #[.agg #[nI 0,eS,.string ⟨#[111,117,116,108,105,110,101]⟩,.slice AB 3 ac,.slice KB 0 kc,eS,nI 0],v] w λe w'=>
  ∃A h,e= .returned (.agg #[nI 0,eS,.string ⟨#[111,117,116,108,105,110,101]⟩,.slice A 4 h,.slice KB 0 kc,eS,nI 0])/\w'.ownsRow w.heap.size 88 4 (.slice A 4 h) 4 (flatA ([(typeL,rssL),(textL,lst title),(xmlUrlL,lst id)].map pairA++ [(htmlUrlL,lst link)].map pairA))/\Ext w w':=
 Ev (.slice AB 3 ac) ([(typeL,rssL),(textL,lst title),(xmlUrlL,lst id)].map pairA) KB 0 kc v [(htmlUrlL,lst link)] w D F (by show 3+1<=1000000;omega)
theorem Zkk (KB:Option Addr) (n kc:Nat) (v:Value) (name:ByteArray) (w:Wq) (h:RStrs w v (pairS [(textL,lst name)])):
 Calls prog 46 #[.agg #[nI 0,eS,.string ⟨#[111,117,116,108,105,110,101]⟩,sN,.slice KB n kc,eS,nI 0],v] w λe w'=>
  ∃AB ac,e= .returned (.agg #[nI 0,eS,.string ⟨#[111,117,116,108,105,110,101]⟩,.slice AB 1 ac,.slice KB n kc,eS,nI 0])/\w'.ownsRow w.heap.size 88 4 (.slice AB 1 ac) 1 (flatA [pairA (textL,lst name)])/\Ext w w':=
 Ev sN [] KB n kc v [(textL,lst name)] w (RAts.nil w) h (by show 0+1<=1000000;omega)
def ownN (d:Nat) (l:List Fd):Nat:=(l.takeWhile λx=>decide (x.path.length=d)).length
def okT:Nat->Nat->List Fd->Prop
 |0,_,_=>False
 |f+1,d,l=>(∀x∈l.drop (ownN d l),d<x.path.length)/\∀(v:Value) (L:List Fc),L.map Fc.f=l.drop (ownN d l)->∀g∈grps d (L.length+1) v L,okT f (d+1) (g.l.map Fc.f)
theorem KO (d:Nat):∀(f:Nat) (v:Value) (l:List Fc),∀g∈grps d f v l,(∀y∈g.l,pathAt y.f d=g.name)/\g.l.Sublist l/\g.l≠ []
 |0,_,_,g,A=>by cases A
 |_+1,_,[],g,A=>by cases A
 |f+1,v,x::t,g,A=>by
  have F:0<runN d ((x::t).map Fc.f):=ZbF d x.f (t.map Fc.f)
  rw[grps] at A
  rcases ZK.1 A with rfl|A
  ·refine ⟨λy J=> ?_,List.take_sublist _ _,?_⟩
   ·have h:=Zan x.f (t.map Fc.f) d y.f
    refine h ?_
    have D:y.f∈((x::t).take (runN d ((x::t).map Fc.f))).map Fc.f:=ZY J
    rw[List.map_take] at D
    exact D
   ·intro e
    have:=ZC List.length e
    rw[ZL] at this
    simp only[Zd,ZM] at this
    omega
  ·obtain ⟨H,D,I⟩:=KO d f _ _ g A
   exact ⟨H,D.trans (List.drop_sublist _ _),I⟩
theorem Zli:∀(f d:Nat) (path:List ByteArray) (l:List Fd),path.length=d->65<=f+d->(f=0->l≠ [])->asc l->(∀x∈l,Pref path x/\x.path.length<=64)->okT f d l
 |0,d,path,l,hd,hf,hn,hs,hl=>by
  cases l with
  |nil=>exact absurd rfl (hn rfl)
  |cons x t=>
   have F:=(hl x ZF).1.len
   have H:=(hl x ZF).2
   omega
 |f+1,d,path,l,hd,hf,hn,hs,hl=>by
  have J:=VC hd hs λx D=>(hl x D).1
  rw[okT]
  refine ⟨J.2,λv L Q g R=> ?_⟩
  obtain ⟨F,H,K⟩:=KO d _ v L g R
  have I:(g.l.map Fc.f).Sublist (l.drop (ownN d l)):=by rw[<-Q];exact H.map _
  refine Zli f (d+1) (path++ [g.name]) _ (by rw[Zc,hd];rfl) (by omega) (λ_=>by simpa using K) (Ug (I.trans (List.drop_sublist _ _)) hs) λx D=> ?_
  have h:=I.subset D
  have A:=Yr h
  refine ⟨?_,(hl x A).2⟩
  obtain ⟨y,S,rfl⟩:=ZS.1 D
  rw[<-F y S]
  exact (hl y.f A).1.next hd (J.2 _ h)
theorem Zmx {l:List Fd} (h:okA l=true):okT 66 0 l:=
 Zli 66 0 [] l rfl (by omega) (λe=>by cases e) (Zal h) λx A=>⟨⟨x.path,rfl⟩,(Zif (Jf.1 ((Uj.1 h).1 x A)).1).2.2⟩
structure OutI (d:Nat) (l:List Fc) (w:Wq) (v0:Value) (j:Nat) (u:Value) (O:List Nc) (wr:Wq):Prop where
 left:RFcs w v0 (l.drop j)
 le:j<=l.length
 dcell:wr.heap[w.heap.size]? =some (.cells #[nI (d:Nat)] 3 (0,0))
 ucell:wr.heap[w.heap.size+1]? =some (.cells #[u] 23 (0,0))
 nodes:HNs wr (w.heap.size+2) u O
 nds:Nc.nds O=((l.take j).map Fc.f).map feedN
 kinds:∀y∈O,y.kind=0
 ext:Ext w wr
 size:w.heap.size+2<=wr.heap.size
 own:ownN d (l.map Fc.f)=j+(((l.map Fc.f).drop j).takeWhile λx=>decide (x.path.length=d)).length
 new:newNs (w.heap.size+2) O
theorem OutI.next {d j:Nat} {l:List Fc} {w D:Wq} {v0 I u u8:Value} {O:List Nc} {wr:Wq} {x:Fc} {y:Nc} (h:OutI d l w v0 j u O wr) (F:j<l.length) (U:l[j]=x) (X:RFcs w I (l.drop (j+1)))
 (J:D.heap[w.heap.size]? =some (.cells #[nI (d:Nat)] 3 (0,0))) (Q:D.heap[w.heap.size+1]? =some (.cells #[u] 23 (0,0))) (S:HNs D (w.heap.size+2) u8 (O++ [y])) (hy:y.nd=feedN x.f) (V:y.kind=0) (R:Ext w D)
 (Z:w.heap.size+2<=D.heap.size) (Y:x.f.path.length=d) (K:∀k,k<w.heap.size+2->awayN (some k) y):OutI d l w I (j+1) u8 (O++ [y]) (D.setCell ⟨w.heap.size+1,0,none⟩ u8):=by
 have A:=h.new.snoc K;refine ⟨X,F,(ZZ D ⟨w.heap.size+1,0,none⟩ w.heap.size _ (by show w.heap.size≠w.heap.size+1;omega)).trans J,Yd D (w.heap.size+1) 0 _ _ _ Q,S.cell (X5 S.row (by omega)) (A _ (by omega)),?_,?_,R.setCell (by show w.heap.size<=w.heap.size+1;omega) _,by simpa [World.setCell] using Z,?_,A⟩
 ·rw[JE,h.nds,Zn F,ZN,ZN,U]
  congr 1
  rw[Nc.nds,Nc.nds,hy];rfl
 ·intro z H;rcases Zx.1 H with H|H
  ·exact h.kinds z H
  ·rw[Zo.1 H];exact V
 ·rw[h.own];refine Zim (by rw[Zm];exact F) ?_;rw[XD,U];simpa using Y
theorem OutI.ext_ {d j:Nat} {l:List Fc} {w:Wq} {v0 u:Value} {O:List Nc} {wr w':Wq} (h:OutI d l w v0 j u O wr) (A:Ext wr w'):OutI d l w v0 j u O w':=
 ⟨h.left,h.le,A.heap h.dcell,A.heap h.ucell,h.nodes.ext A,h.nds,h.kinds,h.ext.trans A,Zt h.size A.size,h.own,h.new⟩
theorem OutI.stop {d j:Nat} {l:List Fc} {w:Wq} {v0 u:Value} {O:List Nc} {wr:Wq} {x:Fc} (h:OutI d l w v0 j u O wr) (A:j<l.length) (F:l[j]=x) (D:x.f.path.length≠d):ownN d (l.map Fc.f)=j:=by
 rw[h.own];refine Zin (by rw[Zm];exact A) ?_;rw[XD,F];simpa using D
theorem OutI.full {d j:Nat} {l:List Fc} {w:Wq} {v0 u:Value} {O:List Nc} {wr:Wq} (h:OutI d l w v0 j u O wr) (A:l.length<=j):ownN d (l.map Fc.f)=j:=by
 rw[h.own];exact ZlW (by rw[Zm];exact A)
structure FolI (f d:Nat) (own:List Nd) (w:Wq) (cb db:Nat) (s:List Grp) (u:Value) (O:List Nc) (wr:Wq):Prop where
 ucell:wr.heap[w.heap.size+1]? =some (.cells #[u] 23 (0,0))
 dcell:wr.heap[w.heap.size]? =some (.cells #[nI (d:Nat)] 3 (0,0))
 nodes:HNs wr (w.heap.size+2) u O
 nds:Nc.nds O=own++s.map λg=>withP (elemN outlineL (outsP f (d+1) (g.l.map Fc.f))) [(textL,lst g.name)]
 kinds:∀y∈O,y.kind=0
 ext:Ext w wr
 size:w.heap.size+2<=wr.heap.size
 new:newNs (w.heap.size+2) O
 cb_:u.ownBlock≠some cb
 db_:u.ownBlock≠some db
 cbs:awayNs (some cb) O
 lts:w.heap.size+2<=cb/\w.heap.size+2<=db/\cb<wr.heap.size/\db<wr.heap.size
section
variable {f d cb db:Nat} {own:List Nd} {w wr:World} {s:List Grp} {u:Value} {O:List Nc}
theorem FolI.ext_ {w':Wq} (h:FolI f d own w cb db s u O wr) (A:Ext wr w'):FolI f d own w cb db s u O w':=
 ⟨A.heap h.ucell,A.heap h.dcell,h.nodes.ext A,h.nds,h.kinds,h.ext.trans A,Zt h.size A.size,h.new,h.cb_,h.db_,h.cbs,h.lts.1,h.lts.2.1,YW h.lts.2.2.1 A.size,YW h.lts.2.2.2 A.size⟩
theorem FolI.cell (h:FolI f d own w cb db s u O wr) (v:Value):FolI f d own w cb db s u O (wr.setCell ⟨cb,0,none⟩ v):=by
 have A:=h.lts;refine ⟨(ZZ wr ⟨cb,0,none⟩ (w.heap.size+1) _ (by show w.heap.size+1≠cb;omega)).trans h.ucell,(ZZ wr ⟨cb,0,none⟩ w.heap.size _ (by show w.heap.size≠cb;omega)).trans h.dcell,h.nodes.cell h.cb_ h.cbs,h.nds,h.kinds,h.ext.setCell (by show w.heap.size<=cb;omega) _,by simpa [World.setCell] using h.size,h.new,h.cb_,h.db_,h.cbs,by simpa [World.setCell] using A⟩
theorem Ext.putObj {a b:Wq} (h:Ext a b) {l:Nat} {o:Obj} (D:a.heap.size<=l):Ext a (b.putObj l o):=
 h.then ⟨rfl,rfl,rfl,by rw[World.putObj_size];exact Zb _,λk A=>XQ (by omega)⟩
theorem FolI.obj {l:Nat} {o o':Obj} (h:FolI f d own w cb db s u O wr) (A:wr.heap[l]? =some o) (F:o.isCells=false) (D:w.heap.size+2<=l):FolI f d own w cb db s u O (wr.putObj l o'):=
 ⟨(XQ (by omega)).trans h.ucell,(XQ (by omega)).trans h.dcell,h.nodes.obj A F,h.nds,h.kinds,h.ext.putObj (by omega),by rw[World.putObj_size];exact h.size,h.new,h.cb_,h.db_,h.cbs,by rw[World.putObj_size];exact h.lts⟩
theorem FolI.next {D:Wq} {u8:Value} {g:Grp} {y:Nc} (h:FolI f d own w cb db s u O wr) (X:Ext w D) (R:D.heap[w.heap.size]? =some (.cells #[nI (d:Nat)] 3 (0,0))) (V:D.heap[w.heap.size+1]? =some (.cells #[u] 23 (0,0))) (Y:HNs D (w.heap.size+2) u8 (O++ [y]))
 (hy:y.nd=withP (elemN outlineL (outsP f (d+1) (g.l.map Fc.f))) [(textL,lst g.name)]) (S:y.kind=0) (hs:wr.heap.size<=D.heap.size) (J:∀k,k<wr.heap.size->awayN (some k) y) (Q:u8.ownBlock=u.ownBlock\/∀k,u8.ownBlock=some k->wr.heap.size<=k):
 FolI f d own w cb db (s++ [g]) u8 (O++ [y]) (D.setCell ⟨w.heap.size+1,0,none⟩ u8):=by
 have I:=h.lts;have Z:=h.size;have H:=h.new.snoc λk S=>J k (by omega);have F:∀k,k<wr.heap.size->u.ownBlock≠some k->u8.ownBlock≠some k:=λk S U e=>by
  rcases Q with K|K
  ·exact U (by rw[<-K];exact e)
  ·have:=K k e;omega
 refine ⟨Yd D (w.heap.size+1) 0 _ _ _ V,(ZZ D ⟨w.heap.size+1,0,none⟩ w.heap.size _ (by show w.heap.size≠w.heap.size+1;omega)).trans R,Y.cell (X5 Y.row (by omega)) (H _ (by omega)),?_,?_,X.setCell (by show w.heap.size<=w.heap.size+1;omega) _,?_,H,F cb I.2.2.1 h.cb_,F db I.2.2.2 h.db_,?_,I.1,I.2.1,?_,?_⟩
 ·rw[JE,h.nds,ZN,ZQ]
  congr 2
  rw[Nc.nds,Nc.nds,hy];rfl
 ·intro z A;rcases Zx.1 A with A|A
  ·exact h.kinds z A
  ·rw[Zo.1 A];exact S
 ·show _<=(D.setCell _ _).heap.size;simp[World.setCell];omega
 ·refine (Ys _).2 λz A=> ?_;rcases Zx.1 A with A|A
  ·exact (Ys O).1 h.cbs z A
  ·rw[Zo.1 A];exact J cb I.2.2.1
 ·simp[World.setCell];omega
 ·simp[World.setCell];omega
end
theorem FolI.start {f d j:Nat} {l:List Fc} {w W F:Wq} {v0 u:Value} {O:List Nc} (h:OutI d l w v0 j u O W) (D:Ext W F) (J:F.heap.size=W.heap.size+2):FolI f d (((l.take j).map Fc.f).map feedN) w W.heap.size (W.heap.size+1) [] u O F:=by
 have H:=h.size;have A:∀k,W.heap.size<=k->u.ownBlock≠some k:=λk I e=>by have:=(h.nodes.row.lt _ e).2;omega
 exact ⟨D.heap h.ucell,D.heap h.dcell,h.nodes.ext D,by rw[Yc,ZX];exact h.nds,h.kinds,h.ext.trans D,by omega,h.new,A _ (Zb _),A _ (Yj _),Gf (w:=W) (λg e=>by injection e with e;omega) O h.nodes.rd,H,by omega,by omega,by omega⟩
theorem FolI.kp {f d cb db B:Nat} {own:List Nd} {w W W':Wq} {s:List Grp} {u:Value} {O:List Nc} (h:FolI f d own w cb db s u O W) (D:Keep W W' (w.heap.size+1) u.ownBlock):Stays B W W'/\KpF w.heap.size cb db W W':=by
 have Q:=h.lts;have K:=h.size;refine ⟨λk o _ H J=> ?_,D.os,D.tape,D.output,D.size,λk A=> ?_⟩
 ·have I:=Zbv h.nodes.row H J;refine D.heap H (λe=> ?_) (λe=>I e.symm);subst e;rw[h.ucell] at H;cases H;cases J
 ·have F:u.ownBlock≠some k:=by
   rcases A with A|A|A
   ·exact X5 h.nodes.row (by omega)
   ·rw[A];exact h.cb_
   ·rw[A];exact h.db_
  exact D.block k (by omega) (by omega) (λe=>F e.symm)
theorem ET (rec_:List Fd->List Nd) (d:Nat):∀(f g:Nat) (l:List Fd),l.length<f->l.length<g->foldsP rec_ d f l=foldsP rec_ d g l
 |0,_,l,h,_=>by omega
 |_,0,l,_,h=>by omega
 |f+1,g+1,[],_,_=>by rw[foldsP,foldsP]
 |f+1,g+1,x::t,hf,hg=>by
  have A:=KN x t d
  rw[foldsP,foldsP]
  (try dsimp only)
  rw[ET rec_ d f g _ (by rw[Zj];rw[Zd] at hf|-;omega) (by rw[Zj];rw[Zd] at hg|-;omega)]
theorem FolI.done {f d j cb db:Nat} {l:List Fc} {w W:Wq} {v0 u:Value} {O:List Nc} (h:FolI f d (((l.take j).map Fc.f).map feedN) w cb db (grps d ((l.drop j).length+1) v0 (l.drop j)) u O W) (F:ownN d (l.map Fc.f)=j):Nc.nds O=outsP (f+1) d (l.map Fc.f):=by
 have D:(l.map Fc.f).takeWhile (λx=>decide (x.path.length=d))=(l.map Fc.f).take j:=by rw[<-F];exact YX.1 (XG _)
 have A:((l.map Fc.f).takeWhile λx=>decide (x.path.length=d)).length=j:=F;rw[h.nds,outsP,A,D,List.map_take]
 congr 1
 rw[<-List.map_drop,ET _ d _ ((l.drop j).length+1) _ (by rw[Zm,Zj,Zm];omega) (by rw[Zm];omega),Zbc _ d _ v0]
def zeroNc:Nc:= .mk 0 [] [] sN [] sN [] [] 0
theorem Zkp (w:Wq):RdN w zeroNc:=by
 unfold zeroNc;rw[RdN];exact ⟨RAts.nil w,RNs.nil w,by rw[RdNs];trivial⟩
theorem ZgE (r:Option Nat):awayN r zeroNc:=by
 unfold zeroNc;rw[awayN];exact ⟨Or.inl rfl,Or.inl rfl,by rw[awayNs];trivial⟩
theorem ZcX:∀l:List Nc,(flatN l).length=l.length*7
 | []=>rfl
 |x::t=>by
  have e:flatN (x::t)=cellsN x++flatN t:=by unfold flatN;simp
  rw[e,Zc,JG,ZcX t,Zd]
  omega
theorem HNs.put_last {w:Wq} {B g c:Nat} {O:List Nc} {y z:Nc} (h:HNs w B (.slice (some ⟨g,0,none⟩) (O.length+1) c) (O++ [z])) (Q:RdN w y) (J:awayN (some g) y):
 HNs (w.setCells g (O.length*7) (cellsN y)) B (.slice (some ⟨g,0,none⟩) (O.length+1) c) (O++ [y]):=by
 have F:=h.row;rw[Zc,VB,UN,UO] at F;have H:=Zf1 (cellsN y) (O.length*7) w _ F (by rw[JG];omega);have I:=ZcX O;rw[List.take_left' I,JG,Zs (by rw[Zc,I,JG];exact Zb _),ZX] at H;have K:=Qf g (cellsN y) (O.length*7) w;have A:∀x∈O++ [y],RdN w x/\awayN (some g) x:=λx D=>by
  rcases Zx.1 D with D|D
  ·exact ⟨(Xo _).1 h.rd x (XP _ D),(Ys _).1 h.away x (XP _ D)⟩
  ·rw[Zo.1 D];exact ⟨Q,J⟩
 refine ⟨?_,(Xo _).2 λx D=>RdN.grown K x (A x D).1 (A x D).2,(Ys _).2 λx D=>(A x D).2⟩;rw[Zc,VB,UN,UO];exact H
theorem Ext.puts {a:Wq} {g:Nat} (A:a.heap.size<=g):∀(vs:List Value) (o:Nat) (b:Wq),Ext a b->Ext a (b.setCells g o vs)
 | [],_,_,h=>h
 |v::r,o,b,h=>Ext.puts A r (o+1) _ (h.setCell (by show a.heap.size<=g;exact A) v)
theorem Zkt {r:Option Nat} {D:Nat} (h:∀k,k<D->awayN (some k) y) (F:RdN w y) (A:∀k,r=some k->k<D):awayN r y:=by
 cases r with
 |none=>exact GY F
 |some k=>exact h k (A k rfl)
theorem FolI.leaf {f d cb db B A J:Nat} {own:List Nd} {w W R D:Wq} {s:List Grp} {u:Value} {O:List Nc} {G:Grp} {y:Nc} (h:FolI f d own w cb db s u O W) (X:Ext W R)
 (Q:D.ownsRow (w.heap.size+2) 25 7 (.slice (some ⟨A,0,none⟩) (O.length+1) J) (O.length+1) (flatN O++cellsN zeroNc)) (S:R.grownBy D u.ownBlock) (H:(Value.slice (some ⟨A,0,none⟩) (O.length+1) J).ownBlock=u.ownBlock\/(Value.slice (some ⟨A,0,none⟩) (O.length+1) J).ownBlock=some R.heap.size)
 (hy:RdN R y) (K:∀k,k<W.heap.size->awayN (some k) y) (hh:y.nd=withP (elemN outlineL (outsP f (d+1) (G.l.map Fc.f))) [(textL,lst G.name)]) (Z:y.kind=0):
 Stays B W ((D.setCells A (O.length*7) (cellsN y)).setCell ⟨w.heap.size+1,0,none⟩ (.slice (some ⟨A,0,none⟩) (O.length+1) J))/\KpF w.heap.size cb db W ((D.setCells A (O.length*7) (cellsN y)).setCell ⟨w.heap.size+1,0,none⟩ (.slice (some ⟨A,0,none⟩) (O.length+1) J))/\
  FolI f d own w cb db (s++ [G]) (.slice (some ⟨A,0,none⟩) (O.length+1) J) (O++ [y]) ((D.setCells A (O.length*7) (cellsN y)).setCell ⟨w.heap.size+1,0,none⟩ (.slice (some ⟨A,0,none⟩) (O.length+1) J)):=by
 have hr:=h.size;have hs:=X.size;have F:∀k,u.ownBlock=some k->w.heap.size+2<=k/\k<W.heap.size:=λk e=>h.nodes.row.lt k e;have ho:w.heap.size+2<=A:=(Q.lt A rfl).1;have ha:=h.nodes.ext X;have Y:awayN u.ownBlock y:=Zkt K hy λk e=>(F k e).2;have hb:=HNs.snoc ha (Zkp R) (ZgE _) Q S H;have hn:RdN D y:=RdN.grown S y hy Y;have hd:awayN (some A) y:=by
  rcases H with e|e
  ·have V:some A=u.ownBlock:=e;rw[V];exact Y
  ·have V:some A=some R.heap.size:=e;rw[V];exact XS hy (Zb _)
 have hc:=hb.put_last hn hd;have I:=Qf A (cellsN y) (O.length*7) D;have hl:Ext w D:=Ext.app (h.ext.trans X) S ha.row (by omega);have hm:=Ext.puts (a:=w) (g:=A) (by omega) (cellsN y) (O.length*7) D hl;have hp:=S.size;have hq:=I.size;have hi:D.heap[w.heap.size+1]? =some (.cells #[u] 23 (0,0)):=(S.block _ (by omega) (λe=>by have:=(F _ e.symm).1;omega)).trans (X.heap h.ucell);have he:D.heap[w.heap.size]? =some (.cells #[nI (d:Nat)] 3 (0,0)):=(S.block _ (by omega) (λe=>by have:=(F _ e.symm).1;omega)).trans (X.heap h.dcell);have hj:=(I.block (w.heap.size+1) (by omega) (λe=>by injection e with e;omega)).trans hi;have hf:=(I.block w.heap.size (by omega) (λe=>by injection e with e;omega)).trans he;have U:Keep W ((D.setCells A (O.length*7) (cellsN y)).setCell ⟨w.heap.size+1,0,none⟩ (.slice (some ⟨A,0,none⟩) (O.length+1) J)) (w.heap.size+1) u.ownBlock:=by
  refine ((((Keep.of_ext (w.heap.size+1) u.ownBlock X).trans (Keep.of_grown _ S) λk e=>Or.inl e).trans (Keep.of_grown _ I) λk e=> ?_).cell_ 0 _);injection e with e;subst e;rcases H with e|e
  ·exact Or.inl e.symm
  ·have V:some A=some R.heap.size:=e;injection V with V;exact Or.inr (by omega)
 obtain ⟨k1,k2⟩:=h.kp (B:=B) U;refine ⟨k1,k2,h.next hm hf hj hc hh Z (by omega) K ?_⟩;rcases H with e|e
 ·exact Or.inl e
 ·refine Or.inr λk Z=> ?_;rw[e] at Z;injection Z with Z;omega
theorem Zet (w:Wq) (a b:Addr) (u v:Value) (h:a.block≠b.block):(w.setCell a u).setCell b v=(w.setCell b v).setCell a u:=by
 unfold World.setCell
 congr 1
 apply Array.ext
 ·simp
 ·intro k F H;simp only[Array.getElem_modify];by_cases D:b.block=k
  ·by_cases A:a.block=k
   ·omega
   ·simp[D,A]
  ·by_cases A:a.block=k
   ·simp[D,A]
   ·simp[D,A]
theorem GK (g:Nat) (a:Addr) (u:Value) (h:a.block≠g):∀(vs:List Value) (o:Nat) (w:Wq),(w.setCell a u).setCells g o vs=(w.setCells g o vs).setCell a u
 | [],_,_=>rfl
 |v::r,o,w=>by
  show ((w.setCell a u).setCell ⟨g,o,none⟩ v).setCells g (o+1) r=_
  rw[Zet w a ⟨g,o,none⟩ u v h,GK g a u h r]
  rfl
theorem Zlp {s:Nat} (h:w.ownsRow B e s v n xs) (F:0<n):∃g c,v= .slice (some ⟨g,0,none⟩) n c:=by
 rcases h.2 with ⟨rfl,D⟩|⟨g,cap,A,rfl,_⟩
 ·omega
 ·exact ⟨g,cap,rfl⟩
theorem FolI.len_ {f d cb db:Nat} {own:List Nd} {w wr:Wq} {s:List Grp} {u:Value} {O:List Nc} (h:FolI f d own w cb db s u O wr):O.length=own.length+s.length:=by
 have A:=ZC List.length h.nds;rw[Je,Zc,Zm] at A;exact A
theorem Za7 (rec_:List Fd->List Nd) (d:Nat):∀(f:Nat) (l:List Fd),(foldsP rec_ d f l).length<=l.length
 |0,l=>by rw[foldsP];exact Zh _
 |f+1,[]=>by rw[foldsP];exact Zb _
 |f+1,x::t=>by
  have h:=KN x t d
  rw[foldsP]
  (try dsimp only)
  have ih:=Za7 rec_ d f ((x::t).drop ((x::t).takeWhile λy=>decide (pathAt y d=pathAt x d)).length)
  rw[Zj] at ih
  rw[Zd] at ih|-
  rw[Zd] at*
  omega
theorem Zf0:∀(f d:Nat) (l:List Fd),(outsP f d l).length<=l.length
 |0,d,l=>by rw[outsP];exact Zh _
 |f+1,d,l=>by
  have h:=Za7 (outsP f (d+1)) d (l.length+1) (l.drop (l.takeWhile λx=>decide (x.path.length=d)).length)
  have A:=(YG (λx:Fd=>decide (x.path.length=d)) (l:=l)).length_le
  rw[Zj] at h
  rw[outsP,Zc,Zm]
  omega
theorem Zfn (d:Nat):∀(f:Nat) (v:Value) (l:List Fc),(grps d f v l).length<=l.length
 |0,v,l=>by rw[grps];exact Zh _
 |f+1,v,[]=>by rw[grps];exact Zb _
 |f+1,v,x::t=>by
  have h:0<runN d ((x::t).map Fc.f):=ZbF d x.f (t.map Fc.f)
  rw[grps,Zd]
  have ih:=Zfn d f (loV (runN d ((x::t).map Fc.f)) v) ((x::t).drop (runN d ((x::t).map Fc.f)))
  rw[Zj] at ih
  rw[Zd] at ih|-
  omega
theorem ZjU {s:Nat} (h:w.ownsRow B e s (.slice (some ⟨g,0,none⟩) n c) n xs) (K:j<n*s):(w.cell? ⟨g,j,none⟩).isSome=true/\w.frozen? ⟨g,j,none⟩=false:=by
 obtain ⟨g',F,A,J,H⟩:=ZhD h;injection A with A;subst A;refine ⟨?_,Z1 H j⟩;have Q:=h.1;obtain ⟨u,I⟩:∃u,xs[j]? =some u:=⟨xs[j]'(by omega),Zl _⟩;have D:=h.cells (g:=g) rfl j u I;rw[Zaw] at D;rw[D];rfl
end
section
variable {a:Act} {d f i k n:Nat} {o:Oper} {v:Value} {w w':World}
def lstOf (n:Nat) (base:Array Bool) (done:List Nat):Array Bool:=Array.ofFn (n:=n) λj=>base.getD j.val false||done.contains j.val
def actOf (a0:Act) (hs:List Nat) (dst:Nat->Nat) (done:List Nat) (vs:Nat->Value):Act:=
 {a0 with tmps:=Array.ofFn (n:=a0.tmps.size) λk=>match hs.find? (λi=>dst i==k.val && done.contains i) with|some i=>vs i|none=>a0.tmps.getD k.val undef}
def upd (vs:Nat->Value) (i:Nat) (v:Value):Nat->Value:=λj=>if j=i then v else vs j
def subs:List Nat->List (List Nat)
 | []=> [[]]
 |x::t=>subs t++(subs t).map (x:: ·)
theorem EO (p:Nat->Bool):∀h:List Nat,h.filter p∈subs h
 | []=>by simp[subs]
 |x::t=>by
  have ih:=EO p t
  rw[subs,Zx,List.filter_cons]
  split
  ·exact Or.inr (ZS.2 ⟨_,ih,rfl⟩)
  ·exact Or.inl ih
theorem Zde {base:Array Bool} {d e:List Nat} (h:∀j,d.contains j=e.contains j):lstOf n base d=lstOf n base e:=by
 unfold lstOf
 congr 1
 funext j;rw[h]
theorem Zmr {base:Array Bool} {done:List Nat} (H:i<n):(lstOf n base done).setIfInBounds i true=lstOf n base (i::done):=by
 apply Array.ext
 ·simp[lstOf]
 ·intro k D F;simp only[lstOf,Array.size_setIfInBounds,Array.size_ofFn] at D F;rw[Array.getElem_setIfInBounds (by simpa [lstOf] using D)];simp only[lstOf,Array.getElem_ofFn];by_cases h:i=k
  ·subst h;simp
  ·have A:¬k=i:=λe=>h e.symm;simp[h,A]
theorem Zfc {A:List Nat} {p:Nat->Bool} (D:i∈A) (F:p i=true) (H:∀j∈A,p j=true->j=i):A.find? p=some i:=by
 cases h:A.find? p with
 |none=>exact absurd F (by simpa using List.find?_eq_none.1 h i D)
 |some j=>rw[H j (List.mem_of_find?_eq_some h) (List.find?_some h)]
theorem IY {p q:Nat->Bool}:∀{A:List Nat},(∀j∈A,p j=q j)->A.find? p=A.find? q
 | [],_=>rfl
 |x::t,h=>by rw[List.find?_cons,List.find?_cons,h x ZF,IY λj D=>h j (Zu _ D)]
section
variable {a0:Act} {hs:List Nat} {dst:Nat→Nat} {done:List Nat} {vs:Nat→Value} {i k:Nat} {v:Value}
theorem Zl6 (D:∀i∈hs,∀j∈hs,dst i=dst j->i=j) (I:i∈hs):(actOf a0 hs dst done vs).put (some (dst i)) v=actOf a0 hs dst (i::done) (upd vs i v):=by
 unfold actOf Act.put;simp only
 congr 1
 apply Array.ext
 ·simp
 ·intro k H K;simp only[Array.size_setIfInBounds,Array.size_ofFn] at H K;rw[Array.getElem_setIfInBounds (by simpa using H)];simp only[Array.getElem_ofFn];by_cases A:dst i=k
  ·rw[Zi A,Zfc (i:=i) I (by simp[A]) (λj J F=>by
    simp only[ZH,JQ] at F;exact D j J i I (F.1.trans A.symm))]
   simp[upd]
  ·rw[Ze A];have R:hs.find? (λj=>dst j==k && (i::done).contains j)=hs.find? (λj=>dst j==k && done.contains j):=IY λj J=>by
    by_cases h:dst j=k
    ·have:j≠i:=λe=>A (by rw[<-e];exact h);simp[h,this]
    ·have Q:(dst j==k)=false:=(by simpa using h);rw[Q,Yl,Yl]
   rw[R];cases hf:hs.find? (λj=>dst j==k && done.contains j) with
   |none=>rfl
   |some j=>have F:=List.find?_some hf;simp only[ZH,JQ] at F;have:j≠i:=λe=>A (by rw[<-e];exact F.1);simp[upd,this]
theorem Zl5 (F:∀j∈hs,dst j≠k):(actOf a0 hs dst done vs).eval (.tmp k)=a0.eval (.tmp k):=by
 show (actOf a0 hs dst done vs).tmps.getD k undef=a0.tmps.getD k undef;unfold actOf;simp only;rw[Jz,Jz];by_cases h:k<a0.tmps.size
 ·rw[Array.getElem?_eq_getElem (by simpa using h),Array.getElem_ofFn];have A:hs.find? (λi=>dst i==k && done.contains i)=none:=List.find?_eq_none.2 λj D=>by have:=F j D;simp[this]
  simp only[A];rw[Jz];rfl
 ·rw[Y1 (by simpa using h),Y1 (by omega)]
theorem Zl3 (h:∀i∈hs,∀j∈hs,dst i=dst j->i=j) (D:i∈hs) (H:i∈done) (A:dst i<a0.tmps.size):(actOf a0 hs dst done vs).eval (.tmp (dst i))=vs i:=by
 show (actOf a0 hs dst done vs).tmps.getD (dst i) undef=vs i;unfold actOf;simp only;rw[Jz,Array.getElem?_eq_getElem (by simpa using A),Array.getElem_ofFn,Zfc (i:=i) D (by simp[H]) (λj I F=>by
  simp only[ZH,JQ] at F;exact h j I i D F.1)]
 rfl
theorem Zl4:actOf a0 hs dst [] vs=a0:=by
 unfold actOf;cases a0 with
 |mk t d=>
  congr 1
  apply Array.ext
  ·simp
  ·intro k D h;simp only[Array.getElem_ofFn];have A:hs.find? (λi=>dst i==k && ([]:List Nat).contains i)=none:=List.find?_eq_none.2 λj _=>(by simp);simp only[A];rw[Jz,Array.getElem?_eq_getElem h];rfl
end
theorem JK {A:Act} (h:A.eval (.tmp k)=v):A.tmps[k]?.getD undef=v:=by
 rw[<-Jz];exact h
theorem EL {p:Nat->Bool} {i:Nat} (H:p i=true):∀{A:List Nat},A.Nodup->i∈A->(A.filter λj=>p j && !(j==i)).length+1=(A.filter p).length
 |x::t,hn,hi=>by
  rw[List.nodup_cons] at hn
  rw[List.filter_cons,List.filter_cons]
  by_cases F:x=i
  ·subst F
   have J:t.filter (λj=>p j && !(j==x))=t.filter p:=List.filter_congr λj K=>by
    have:j≠x:=λe=>hn.1 (e▸K)
    simp[this]
   rw[J,H]
   simp
  ·have D:i∈t:=by
    rcases ZK.1 hi with h|h
    ·exact absurd h.symm F
    ·exact h
   have ih:=EL H hn.2 D
   have I:(x==i)=false:=(by simpa using F)
   rw[I]
   simp only[Bool.not_false,Bool.and_true]
   split<;>(try simp only[Zd])<;>omega
section
variable {P:Program} {md:Region.Mode} {Q:Exit→Act→World→Prop} {S:World→Prop} {T:Array Bool→Act→World→Prop}
def relOk (md:Region.Mode) (l:List Oper) (base:Array Bool) (hs:List Nat) (D:Nat->List Nat):Bool:=
 (subs hs).all λd=>d.length==hs.length||(!(Region.ready md l.toArray (lstOf l.length base d)).isEmpty && (Region.ready md l.toArray (lstOf l.length base d)).all λi=>hs.contains i && !d.contains i && (D i).all d.contains)
theorem ZhY {l:List Oper} {H:List Nat} {dst:Nat->Nat} {D:Nat->List Nat} {F:Nat->Value->Wq->Prop} {base:Array Bool} {a0:Act} {W0:Wq} (ho:H.Nodup)
 (X:∀i∈H,∀j∈H,dst i=dst j->i=j) (hr:∀i∈H,dst i<a0.tmps.size) (hn:∀i∈H,i<l.length) (hp:relOk md l base H D=true)
 (hF:∀i∈H,∀v w w',F i v w->Ext w w'->F i v w') (hS:∀w',Ext W0 w'->S w')
 (hq:∀i∈H,∀(A:Act) (w':Wq) (vs:Nat->Value),Ext W0 w'->(∀k,(∀j∈H,dst j≠k)->A.eval (.tmp k)=a0.eval (.tmp k))->(∀j∈D i,A.eval (.tmp (dst j))=vs j/\F j (vs j) w')->
  wpOp P l.toArray Q i (λa2 w2=>∃v,a2=A.put (some (dst i)) v/\Ext w' w2/\F i v w2) A w')
 (hb:∀vs w',Ext W0 w'->(∀i∈H,F i (vs i) w')->T (lstOf l.length base H) (actOf a0 H dst H vs) w'):
 ∀(f:Nat) (done:List Nat) (vs:Nat->Value) (w':Wq),(∀i∈done,i∈H)->f=(H.filter λj=> !done.contains j).length->Ext W0 w'->(∀i∈done,F i (vs i) w')->
  wpAnyC P md l.toArray Q S T f (lstOf l.length base done) (actOf a0 H dst done vs) w':=by
 intro f
 induction f with
 |zero=>
  intro done vs w' I hf hx R;have V:∀i∈H,i∈done:=λi hi=>by have h0:=Zr hf.symm;have:=(List.filter_eq_nil_iff.1 h0) i hi;simpa using this
  have hc:∀j,done.contains j=H.contains j:=λj=>by rw[YZ,Xk,Xk];exact ⟨I j,V j⟩
  show T _ _ _;have ha:actOf a0 H dst done vs=actOf a0 H dst H vs:=by
   unfold actOf
   congr 1
   congr 1
   funext k;rw[IY (p:=λi=>dst i==k.val && done.contains i) (q:=λi=>dst i==k.val && H.contains i) λj _=>by rw[hc]]
  rw[Zde hc,ha];exact hb vs w' hx λi hi=>R i (V i hi)
 |succ f ih=>
  intro done vs w' I hf hx R;obtain ⟨d,hd⟩:∃d,H.filter (λj=>done.contains j)=d:=⟨_,rfl⟩;have U:∀j,j∈d↔j∈done:=λj=>by rw[<-hd,Y0,Xk];exact ⟨λh=>h.2,λh=>⟨I j h,h⟩⟩
  have hc:∀j,done.contains j=d.contains j:=λj=>by rw[YZ,Xk,Xk];exact (U j).symm
  have hh:¬d.length=H.length:=λe=>by have h1:d=H:=(by rw[<-hd] at e|-;exact (List.filter_sublist).eq_of_length e);have h2:(H.filter λj=> !done.contains j)= []:=List.filter_eq_nil_iff.2 λj J=>(by have:j∈done:=(U j).1 (h1▸J);simp[this]);rw[h2] at hf;cases hf
  have hk:=Yg.1 hp d (by rw[<-hd];exact EO _ H);simp only[ZnP,ZH,JQ,hh,false_or] at hk;rw[<-Zde hc] at hk;refine ⟨λh=>(by rw[h] at hk;exact absurd hk.1 (by simp)),λi hi=> ?_⟩;have hg:=Yg.1 hk.2 i hi;simp only[ZH,Jt] at hg;obtain ⟨⟨h1,h2⟩,h3⟩:=hg;have K:i∈H:=Xk.1 h1;have hl:i ∉ done:=λh=>by have:=Xk.2 ((U i).2 h);rw[this] at h2;cases h2
  have hD:∀j∈D i,j∈done:=λj J=>(U j).1 (Xk.1 (Yg.1 h3 j J));refine JL (λa2 w2 h=> ?_) (hq i K (actOf a0 H dst done vs) w' vs hx (λk hm=>Zl5 hm) (λj J=>⟨Zl3 X (I j (hD j J)) (hD j J) (hr j (I j (hD j J))),R j (hD j J)⟩));obtain ⟨v,rfl,Z,hv⟩:=h;refine ⟨hS w2 (hx.trans Z),?_⟩;rw[Zl6 X K,Zmr (hn i K)];refine ih (i::done) (upd vs i v) w2 (λj J=> ?_) ?_ (hx.trans Z) (λj J=> ?_)
  ·rcases ZK.1 J with rfl|J
   ·exact K
   ·exact I j J
  ·have h4:=EL (p:=λj=> !done.contains j) (i:=i) (by simpa using hl) ho K;have h5:(H.filter λj=> !(i::done).contains j)=H.filter λj=> !done.contains j && !(j==i):=List.filter_congr λj _=>(by rw[List.contains_cons,Bool.not_or,Bool.and_comm]);rw[h5];omega
  ·by_cases Y:j=i
   ·subst Y;simpa [upd] using hv
   ·have he:j∈done:=(ZK.1 J).resolve_left Y;have:=hF j (I j he) _ _ _ (R j he) Z;simpa [upd,Y] using this
theorem Qn {l:List Oper} {listed:Array Bool} (H:List Nat) (dst:Nat->Nat) (D:Nat->List Nat) (F:Nat->Value->Wq->Prop) (hf:f=H.length) (hL:lstOf l.length listed []=listed) (R:H.Nodup)
 (K:∀i∈H,∀j∈H,dst i=dst j->i=j) (X:(H.all λi=>decide (dst i<a.tmps.size))=true) (hn:∀i∈H,i<l.length) (U:relOk md l listed H D=true)
 (Z:∀i∈H,∀v w w',F i v w->Ext w w'->F i v w') (hS:∀w',Ext w w'->S w')
 (V:∀i∈H,∀(A:Act) (w':Wq) (vs:Nat->Value),Ext w w'->(∀k,(∀j∈H,dst j≠k)->A.eval (.tmp k)=a.eval (.tmp k))->(∀j∈D i,A.eval (.tmp (dst j))=vs j/\F j (vs j) w')->
  wpOp P l.toArray Q i (λY w2=>∃v,Y=A.put (some (dst i)) v/\Ext w' w2/\F i v w2) A w')
 (I:∀vs w',Ext w w'->(∀i∈H,F i (vs i) w')->T (lstOf l.length listed H) (actOf a H dst H vs) w'):wpAnyC P md l.toArray Q S T f listed a w:=by
 have h:=ZhY (T:=T) (base:=listed) (a0:=a) (W0:=w) R K (λi J=>Yw (Yg.1 X i J)) hn U Z hS V I f [] (λ_=>undef) w (by intro i J;cases J) (by rw[hf];exact (ZC List.length (List.filter_eq_self.2 λj _=>rfl)).symm) (Ext.refl w) (by intro i J;cases J);rw[Zl4,hL] at h;exact h
theorem Vl {l:List Oper} {A:Act} {F:Value->Wq->Prop} (U:l[i]? =some o) (V:o.dst=some d)
 (h:∀K:Act->Wq->Prop,(∀v w2,Ext w' w2->F v w2->K (A.put (some d) v) w2)->if Region.wanted o (yielded l.toArray A.tmps) then Oper.wp P o A w' K Q else K (A.put o.dst undef) w'):
 wpOp P l.toArray Q i (λH w2=>∃v,H=A.put (some d) v/\Ext w' w2/\F v w2) A w':=by
 have I:l.toArray[i]? =some o:=by rw[Yh];exact U
 have D:=h (λH w2=>∃v,H=A.put (some d) v/\Ext w' w2/\F v w2) λv w2 R S=>⟨v,rfl,R,S⟩;unfold wpOp;simp only[I];split
 ·rename_i J;rw[Zi J] at D;exact Or.inl D
 ·rename_i J;rw[Ze J] at D;exact D
end
end
end Go.Proofs.YtnlafkgkcnenfaaGreatDoor
