/- Parts of the proof: contracts and plain laws. -/
import Derived.Test.YtnlafkgkcnenfaaGreatDoorU24
import Derived.Test.YtnlafkgkcnenfaaGreatDoorU26
import Derived.Test.YtnlafkgkcnenfaaGreatDoorU33
namespace Go.Proofs.YtnlafkgkcnenfaaGreatDoor
open Go Go.RowKit Go.ChangeShapes Go.WideShapes Go.ChangeAt Go.Joins Go.Deep _root_.Go.Proofs.Tryz
set_option linter.unusedVariables false
set_option linter.unusedSimpArgs false
set_option maxRecDepth 100000
set_option maxHeartbeats 16000000
section
variable {α:Type}
theorem IS (s:ByteArray):str (lst s)=s:=Zal s
theorem Zk1 (f:Fd):isEl outlineL (feedN f)=true:=by unfold feedN;dsimp only;split<;>rfl
theorem ZnU (f:Fd):attrL (feedN f) xmlUrlL=some (lst f.id):=by unfold feedN;dsimp only;split<;>rfl
theorem Zlx (f:Fd):nameL (feedN f)=lst f.title:=by unfold feedN;dsimp only;split<;>rfl
theorem Zlg (f:Fd):str ((attrL (feedN f) htmlUrlL).getD [])=f.link:=by
 unfold feedN;dsimp only;split
 ·rename_i h;show str []=f.link;have:lst f.link= []:=Zm h;rw[<-this,IS]
 ·show str (lst f.link)=f.link;exact IS _
theorem ZlF (f:Fd):opFd f.path (feedN f) (lst f.id)=outl f:=by
 unfold opFd outl;rw[Zlx,Zlg,IS,IS]
theorem ZaS {path:List ByteArray} (rest:List Nd):∀l:List Fd,(∀x∈l,x.path=path/\okX x)->visKs (l.map feedN++rest) path=moreF (l.map outl) (visKs rest path)
 | [],_=>(VN _).symm
 |x::t,h=>by
  have D:=h x Zx
  have ih:=ZaS rest t λy F=>h y (Zn _ F)
  have A:=Zcu (out:= []) (t:=t.map feedN++rest) (path:=path) (Zk1 x) (ZnU x) D.2.1
  rw[VN] at A
  rw[Zw,ZX,A,ih,<-D.1,ZlF]
  cases visKs rest x.path with
  |error e=>rfl
  |ok m=>rfl
theorem Zk2 (s:ByteArray) (ks:List Nd):isEl outlineL (foldN s ks)=true:=rfl
theorem ZnV (s:ByteArray) (ks:List Nd):attrL (foldN s ks) xmlUrlL=none:=rfl
theorem Zer (s:ByteArray) (ks:List Nd):nameL (foldN s ks)=lst s:=rfl
theorem ZnY {s:ByteArray} {ks:List Nd} (h:elems ks) (path:List ByteArray):visP (foldN s ks) path=visKs ks path:=by
 unfold foldN elemN withP;rw[visP,Jd h]
theorem Zb8 {rec_:List Fd->List Nd} {path:List ByteArray} {d:Nat} (R:path.length=d)
 (D:∀(s:ByteArray) (g:List Fd),asc g->(∀x∈g,Pref (path++ [s]) x/\okX x)->elems (rec_ g)/\visKs (rec_ g) (path++ [s])= .ok (g.map outl)):
 ∀(f:Nat) (l:List Fd),l.length<f->asc l->(∀x∈l,Pref path x/\okX x/\d<x.path.length)->visKs (foldsP rec_ d f l) path= .ok (l.map outl)
 |0,l,h,_,_=>by omega
 |f+1,[],_,_,_=>(by rw[foldsP];exact ZeT path)
 |f+1,x::t,hf,hs,hl=>by
  obtain ⟨n,U⟩:∃n,((x::t).takeWhile λy=>decide (pathAt y d=pathAt x d)).length=n:=⟨_,rfl⟩;have I:=IJ x t d;have A:=Zbs x t d;rw[U] at I A;rw[foldsP];(try dsimp only);rw[U];have J:=hl x Zx;have S:=D (pathAt x d) ((x::t).take n) (UD (List.take_sublist _ _) hs) λy K=>by have H:=hl y (Y4 K);refine ⟨?_,H.2.1⟩;rw[<-A y K];exact H.1.next R H.2.2
  have F:pathAt x d∈x.path:=by unfold pathAt;rw[ZZ,Zh J.2.2];exact ZL _
  have ih:=Zb8 R D f ((x::t).drop n) (by rw[Zd] at hf;rw[Zk,Zd];omega) (UD (List.drop_sublist _ _) hs) λy K=>hl y (Yq K);have Q:=Zep (out:= []) (t:=foldsP rec_ d f ((x::t).drop n)) (path:=path) (Zk2 (pathAt x d) (rec_ ((x::t).take n))) (ZnV _ _) (by rw[Zer];exact J.2.1.2.1 _ F) (by have V:=J.2.1.2.2;have X:=J.2.2;omega);rw[VN,Zer,IS,ZnY S.1,S.2] at Q;show visKs (foldN (pathAt x d) (rec_ ((x::t).take n))::_) path=_;rw[Q];dsimp only;rw[ih];unfold moreF;dsimp only;rw[Z7,<-ZS,Yz]
theorem ZeA:∀(f d:Nat) (path:List ByteArray) (l:List Fd),path.length=d->65<=f+d->d<=64\/l= []->asc l->(∀x∈l,Pref path x/\okX x)->visKs (outsP f d l) path= .ok (l.map outl)
 |0,d,path,l,hd,hf,h64,hs,hl=>by
  have:l= []:=h64.resolve_left om
  subst this
  rw[outsP]
  exact ZeT path
 |f+1,d,path,l,hd,hf,h64,hs,hl=>by
  obtain ⟨n,F⟩:∃n,(l.takeWhile λx=>decide (x.path.length=d)).length=n:=⟨_,rfl⟩
  have H:=Qb hd hs λx h=>(hl x h).1
  have A:l.takeWhile (λx=>decide (x.path.length=d))=l.take n:=by rw[<-F];exact YQ.1 (Xx _)
  rw[F,A] at H
  rw[outsP,A,show (l.take n).length=n by rw[<-A,F],ZaS _ (l.take n) λx h=>⟨H.1 x h,(hl x (Y4 h)).2⟩,
   Zb8 hd (λs g K D=>⟨J1 _ _ _,ZeA f (d+1) (path++ [s]) g (by rw[Zb,hd];rfl) om ?_ K D⟩) (l.length+1) (l.drop n) (by rw[Zk];omega) (UD (List.drop_sublist _ _) hs) λx h=>⟨(hl x (Yq h)).1,(hl x (Yq h)).2,H.2 x h⟩]
  ·unfold moreF
   dsimp only
   rw[<-ZS,Yz]
  ·cases g with
   |nil=>exact Or.inr rfl
   |cons y g=>
    left
    have J:=D y Zx
    have I:=J.1.len
    have Q:=J.2.2.2
    rw[Zb,hd] at I
    simp only[Zd,ZK] at I
    omega
theorem Zmm (l:List Fd):(encP l).kids= [elemN headL [],elemN bodyL (outsP 66 0 l)]:=rfl
theorem ZlI {l:List Fd} (h:okA l=true):opmlP (encP l)= .ok (l.map outl):=by
 have A:=ZeA 66 0 [] l rfl om (Or.inl om) (Zbo h) λx F=>⟨⟨x.path,rfl⟩,ZjX (XW.1 ((JM.1 h).1 x F)).1⟩;unfold opmlP;rw[Ze (by rintro (e|e|e|e)<;>exact e rfl),Zmm];have D: [elemN headL [],elemN bodyL (outsP 66 0 l)].find? (isEl bodyL)=some (elemN bodyL (outsP 66 0 l)):=rfl;rw[D];dsimp only;unfold elemN;rw[visP,Jd (J1 _ _ _)];exact A
def okO {α:Type}:Except PErr α->Option α
 | .ok x=>some x
 | .error _=>none
theorem Zpr {e:Except PErr α} {x:α} (h:okO e=okO (.ok x)):e= .ok x:=by
 cases e with
 |error a=>cases h
 |ok a=>injection h with h;rw[h]
theorem Vm (n:Nd) (nm:List UInt8):attrL n.bare nm=attrL n nm:=by
 obtain ⟨k,s,m,al,ks,t,a⟩:=n;rw[Nd.bare];unfold attrL attrIn;simp only[Nd.attrs]
 induction al with
 |nil=>rfl
 |cons b t ih=>
  rw[Zw,List.find?_cons,List.find?_cons];cases hb:(b.space== [] && b.name==nm) with
  |true=>rw[show (b.bare.space== [] && b.bare.name==nm)=true from hb];rfl
  |false=>rw[show (b.bare.space== [] && b.bare.name==nm)=false from hb];exact ih
theorem Zei (nm:List UInt8) (n:Nd):isEl nm n.bare=isEl nm n:=by
 obtain ⟨k,s,m,al,ks,t,a⟩:=n;rw[Nd.bare];rfl
theorem Zcv (n:Nd):nameL n.bare=nameL n:=by unfold nameL;rw[Vm,Vm]
theorem ZlE (path:List ByteArray) (n:Nd) (id:List UInt8):opFd path n.bare id=opFd path n id:=by unfold opFd;rw[Zcv,Vm]
mutual
theorem Zh5:∀(n:Nd) (path:List ByteArray),okO (visP n.bare path)=okO (visP n path)
 | .mk k s m al ks t a,path=>by
  rw[Nd.bare,visP,visP]
  exact Zc0 ks path
theorem Zc0:∀(ks:List Nd) (path:List ByteArray),okO (visKs (Nds.bare ks) path)=okO (visKs ks path)
 | [],path=>by rw[Nds.bare]
 |x::xs,path=>by
  have ih:=Zc0 xs path
  rw[Nds.bare,visKs,visKs,Zei,Vm,Zcv]
  have h1:okO (if isEl outlineL x=true then
   match attrL x xmlUrlL with
   |some id=>if coll id= [] then .error (x.bare.at_,19) else .ok [opFd path x.bare id]
   |none=>if coll (nameL x)= [] then .error (x.bare.at_,19) else if 64<=path.length then .error (x.bare.at_,9) else visP x.bare (path++ [str (nameL x)])
   else .ok []:Except PErr (List Fd))=okO (if isEl outlineL x=true then
    match attrL x xmlUrlL with
    |some id=>if coll id= [] then .error (x.at_,19) else .ok [opFd path x id]
    |none=>if coll (nameL x)= [] then .error (x.at_,19) else if 64<=path.length then .error (x.at_,9) else visP x (path++ [str (nameL x)])
   else .ok []:Except PErr (List Fd)):=by
   split
   ·split
    ·rw[ZlE]
     split<;>rfl
    ·split
     ·rfl
     ·split
      ·rfl
      ·exact Zh5 x _
   ·rfl
  revert h1
  generalize (if isEl outlineL x=true then
   match attrL x xmlUrlL with
   |some id=>if coll id= [] then .error (x.bare.at_,19) else .ok [opFd path x.bare id]
   |none=>if coll (nameL x)= [] then .error (x.bare.at_,19) else if 64<=path.length then .error (x.bare.at_,9) else visP x.bare (path++ [str (nameL x)])
   else .ok []:Except PErr (List Fd))=A
  generalize (if isEl outlineL x=true then
   match attrL x xmlUrlL with
   |some id=>if coll id= [] then .error (x.at_,19) else .ok [opFd path x id]
   |none=>if coll (nameL x)= [] then .error (x.at_,19) else if 64<=path.length then .error (x.at_,9) else visP x (path++ [str (nameL x)])
   else .ok []:Except PErr (List Fd))=B
  revert ih
  generalize visKs (Nds.bare xs) path=C
  generalize visKs xs path=D
  intro h2 h1
  cases A with
  |error a=>
   cases B with
   |error b=>rfl
   |ok b=>cases h1
  |ok a=>
   cases B with
   |error b=>cases h1
   |ok b=>
    injection h1 with h1
    subst h1
    dsimp only
    cases C with
    |error c=>
     cases D with
     |error e=>rfl
     |ok e=>cases h2
    |ok c=>
     cases D with
     |error e=>cases h2
     |ok e=>
      injection h2 with h2
      subst h2
      rfl
end
theorem ZdX (nm:List UInt8):∀ks:List Nd,(Nds.bare ks).find? (isEl nm)=(ks.find? (isEl nm)).map Nd.bare
 | []=>by rw[Nds.bare];rfl
 |x::xs=>by
  rw[Nds.bare,List.find?_cons,List.find?_cons,Zei,ZdX nm xs]
  cases isEl nm x<;>rfl
theorem Zey (n:Nd):okO (opmlP n.bare)=okO (opmlP n):=by
 have h:=Vm n versionL;obtain ⟨k,s,m,al,ks,t,a⟩:=n;rw[Nd.bare] at h|-;unfold opmlP;rw[h];show okO (if k≠0\/s≠ []\/m≠opmlL\/attrL (Nd.mk k s m al ks t a) versionL≠some twoL then (.error (0,18):Except PErr (List Fd)) else match (Nds.bare ks).find? (isEl bodyL) with
  |none=> .error (0,19)
  |some b=>visP b [])=okO (if k≠0\/s≠ []\/m≠opmlL\/attrL (Nd.mk k s m al ks t a) versionL≠some twoL then (.error (a,18):Except PErr (List Fd)) else match ks.find? (isEl bodyL) with
  |none=> .error (a,19)
  |some b=>visP b [])
 rw[ZdX];by_cases hc:k≠0\/s≠ []\/m≠opmlL\/attrL (Nd.mk k s m al ks t a) versionL≠some twoL
 ·rw[Zi hc,Zi hc];rfl
 ·rw[Ze hc,Ze hc];cases ks.find? (isEl bodyL) with
  |none=>rfl
  |some b=>exact Zh5 b []
theorem Zji {l:List Fd} (h:okA l=true):∃m r,docP (docW (encP l))= .ok m/\resP m []= .ok r/\opmlP r= .ok (l.map outl):=by
 obtain ⟨D,F⟩:=Ziz h;obtain ⟨m,r,H,I,J⟩:=Zgf (encP l) D F;refine ⟨m,r,H,I,?_⟩;have A:=Zey r;rw[J,Zey,ZlI h] at A;exact Zpr A.symm
end
theorem ZlA (L:List Fd):okA (normA L)=true:=by
 unfold normA;split
 ·rename_i h;exact Znf h
 ·rfl
section
section
variable {P:Fd→Prop}
end
theorem Zbq (m:Nd):okA (decL m)=true:=by
 unfold decL;cases opmlP m with
 |error x=>rfl
 |ok l=>exact ZlA l
end
section
variable {L:List Fd} {c n:Nat}
theorem Zoh {A:Option Addr} (w:Wq) (H:ArcG w A n c L) (h:smA L):
 Calls prog 16 #[.agg #[.slice A n c]] w λe w'=>e= .returned (nI (if okA L=true then 0 else 22))/\Ext w w':=by
 obtain ⟨lc,rfl,rfl,D,F⟩:=H;exact Zdq _ lc w D F (λx I=>(h.1 x.f (Yc I)).1) (by have:=h.2;rw[Zq] at this;omega)
end
section
variable {N fin i j k r:Nat} {l s:List UInt8}
theorem Zgi (D:scalar r) {c:UInt8} (hc:c∈encN r) (h:c.toNat<128):encN r= [c]:=by
 by_cases A:r<128
 ·have e:=X2 A;rw[e] at hc|-;rw[Zo.1 hc]
 ·exact absurd (Qf D om c hc) om
theorem Kn:∀(I:List Nat) (b:List UInt8),(∀r∈I,isChar r=true)->isText (I.flatMap encN++b)->isText b
 | [],b,_,h=>by simpa using h
 |a::t,b,ha,h=>by
  obtain ⟨rs,K,A⟩:=h
  have D:=Xf (ha a Zx)
  rw[YV,Zt] at A
  have R:=Gw D
  cases rs with
  |nil=>
   have:=Zz List.length A
   rw[Zb,List.flatMap_nil,ZK] at this
   omega
  |cons r rs=>
   have F:=Xf (K r Zx)
   rw[YV] at A
   have J:=ZrC D (t.flatMap encN++b)
   have Q:=ZrC F (rs.flatMap encN)
   rw[A,Q] at J
   have e1:r=a:=(Prod.mk.inj J).1
   subst e1
   exact Kn t b (λx H=>ha x (Zn _ H)) ⟨rs,λx H=>K x (Zn _ H),List.append_cancel_left A⟩
theorem ZgU {a b:List UInt8} (F:isText a) (h:isText (a++b)):isText b:=by
 obtain ⟨A,D,rfl⟩:=F;exact Kn A b D h
theorem KZ:∀(rs:List Nat) (a:List UInt8) (c:UInt8) (b:List UInt8),(∀r∈rs,isChar r=true)->c.toNat<128->rs.flatMap encN=a++c::b->isText a/\isText [c]/\isText b
 | [],a,c,b,_,_,h=>by
  rw[List.flatMap_nil] at h
  exact absurd h.symm (by simp)
 |r::rs,a,c,b,hr,hc,h=>by
  have A:=hr r Zx
  have F:∀x∈rs,isChar x=true:=λx X=>hr x (Zn _ X)
  have V:=Xf A
  rw[YV] at h
  rcases List.append_eq_append_iff.1 h with ⟨Q,D,H⟩|⟨bs,D,H⟩
  ·obtain ⟨K,I⟩:=KZ rs Q c b F hc H
   rw[D]
   exact ⟨Ys (XD A) K,I⟩
  ·cases bs with
   |nil=>
    rw[ZV] at D
    obtain ⟨K,I⟩:=KZ rs [] c b F hc H.symm
    rw[<-D]
    exact ⟨XD A,I⟩
   |cons d bs=>
    injection H with H h3
    subst H
    have J:=Zgi V (c:=c) (by rw[D];simp) hc
    rw[J] at D
    have U:=Zz List.length D
    simp only[Zb,Zd,ZK] at U
    have R:a= []:=Zm om
    have S:bs= []:=Zm om
    subst R
    subst S
    exact ⟨Xa,by rw[<-J];exact XD A,rs,F,h3⟩
theorem Ze7 (H:isText s) (h:k<s.length) (hc:s[k].toNat<128):isText (s.take k)/\isText (s.take (k+1)):=by
 obtain ⟨rs,D,F⟩:=H;obtain ⟨A,I, -⟩:=KZ rs (s.take k) s[k] (s.drop (k+1)) D hc (by rw[<-Zl h,Yz,F]);refine ⟨A,?_⟩;rw[Zr h];exact Ys A I
theorem Zml (D:isText (s.take i)) (A:isText (s.take j)) (h:i<=j):isText ((s.take j).drop i):=by
 have e:s.take j=s.take i++(s.take j).drop i:=by have:=Yz i (s.take j);rw[List.take_take,Nat.min_eq_left h] at this;exact this.symm
 rw[e] at A;exact ZgU D A
theorem Zby {α:Type} (p:α->Bool):∀(l:List α) (h:(l.takeWhile p).length<l.length),p (l[(l.takeWhile p).length])=false
 | [],h=>by simp at h
 |x::t,h=>by
  cases hx:p x with
  |false=>simp[hx]
  |true=>
   simp only[Yi,hx,Us,Zd] at h|-
   simpa using Zby p t om
theorem ZpG:isText [10]:=⟨[10],by simp;decide,rfl⟩
theorem Zm7 {c:UInt8} (hc:c≠13):∀t:List UInt8,lns (c::t)=c::lns t
 | []=>by rw[lns,lns,Ze hc]
 |d::r=>by rw[lns,Ze (λh=>hc h.1),Ze hc]
theorem Zg6:∀(a t:List UInt8),(∀c∈a,c≠13)->lns (a++t)=a++lns t
 | [],_,_=>rfl
 |c::a,t,h=>by rw[ZX,Zm7 (h c Zx),Zg6 a t λd A=>h d (Zn _ A)];rfl
theorem Zct:∀(n:Nat) (l:List UInt8),l.length<=n->isText l->isText (lns l)
 |0,l,hl,_=>by
  rw[Zm (by omega:l.length=0),lns]
  exact Xa
 |n+1,l,hl,⟨rs,h1,h2⟩=>by
  cases rs with
  |nil=>
   rw[h2,List.flatMap_nil,lns]
   exact Xa
  |cons r rs=>
   have H:=h1 r Zx
   have J:isText (rs.flatMap encN):=⟨rs,λx K=>h1 x (Zn _ K),rfl⟩
   have I:=Xf H
   have Q:=Gw I
   rw[YV] at h2
   rw[h2,Zb] at hl
   have A:=Zct n (rs.flatMap encN) om J
   rw[h2]
   by_cases F:∀c∈encN r,c≠13
   ·rw[Zg6 _ _ F]
    exact Ys (XD H) A
   ·have D:∃c∈encN r,c=13:=GV λh=>F λc hc e=>h ⟨c,hc,e⟩
    obtain ⟨c,hc,rfl⟩:=D
    rw[Zgi I hc (by decide)]
    cases hq:rs.flatMap encN with
    |nil=>
     rw[ZV,lns]
     exact ZpG
    |cons d q=>
     rw[hq] at A
     show isText (lns (13::d::q))
     rw[lns]
     split
     ·exact A
     ·exact Ys ZpG A
theorem ZhR (h:isText l):isText (spaced l):=by
 obtain ⟨rs,D,rfl⟩:=h
 induction rs with
 |nil=>exact Xa
 |cons r rs ih=>
  have A:=D r Zx;have H:=Xf A;have e:spaced ((r::rs).flatMap encN)=spaced (encN r)++spaced (rs.flatMap encN):=by unfold spaced;rw[YV,ZS]
  rw[e];refine Ys ?_ (ih λx I=>D x (Zn _ I));by_cases F:r<128
  ·have e2:=X2 F;unfold spaced;rw[e2];simp only[Zw,Z2];split
   ·exact ⟨[32],by simp;decide,rfl⟩
   ·rw[<-e2];exact XD A
  ·have e3:spaced (encN r)=encN r:=by
    unfold spaced;refine (List.map_congr_left λc hc=> ?_).trans (List.map_id _);have:=Qf H om c hc;rw[Ze]
    ·rfl
    ·unfold isSp;simp only[ZT];omega
   rw[e3];exact XD A
theorem ZlR (H:isText s) {e:Nat} (h:refAt s i=some (r,e)):isText (encN r)/\isText (s.take e):=by
 unfold refAt at h;dsimp only at h;split at h
 ·split at h
  ·rename_i I;split at h
   ·rename_i n K;split at h
    ·rename_i hc;injection h with h;injection h with h1 h2;subst h1;refine ⟨XD hc,?_⟩;have A:((s.drop (i+1)).takeWhile λc=>c !=59).length<(s.drop (i+1)).length:=(by rw[List.tail_drop,Zk] at I;rw[Zk];omega);have D:=Zby _ _ A;rw[List.getElem_drop] at D;rw[Zk] at A;rw[List.tail_drop] at h2;have F:s[i+1+((s.drop (i+1)).takeWhile λc=>c !=59).length]'(om)=59:=(by simpa using D);have J:=(Ze7 H (k:=i+1+((s.drop (i+1)).takeWhile λc=>c !=59).length) om (by rw[F];decide)).2;rw[<-h2]
     rwa [show i+((s.drop (i+1)).takeWhile λc=>c !=59).length+2=i+1+((s.drop (i+1)).takeWhile λc=>c !=59).length+1 by omega]
    ·cases h
   ·cases h
  ·cases h
 ·cases h
theorem Gn (value:Bool) (s:List UInt8) {z:Nat} (D:isText (s.take z)):∀(f i:Nat) (out v:List UInt8),contGo value s z f i out= .ok v->isText ((s.take z).take i)->isText out->isText v
 |0,i,out,v,h,_,ho=>by
  rw[contGo] at h
  injection h with h
  rw[<-h]
  exact ho
 |f+1,i,out,v,h,hi,ho=>by
  rw[contGo] at h
  split at h
  ·injection h with h
   rw[<-h]
   exact ho
  ·split at h
   ·split at h
    ·rename_i r e R
     obtain ⟨F,I⟩:=ZlR D R
     exact Gn value s D f e _ v h I (Ys ho F)
    ·cases h
   ·dsimp only at h
    obtain ⟨k,H⟩:∃k,(((s.take z).drop i).takeWhile λc=>c !=38)=k:=⟨_,rfl⟩
    rw[H] at h
    have F:isText ((s.take z).take (i+k.length)):=by
     by_cases Q:i+k.length<(s.take z).length
     ·have J:(((s.take z).drop i).takeWhile λc=>c !=38).length<((s.take z).drop i).length:=(by rw[H,Zk];omega)
      have A:=Zby _ _ J
      simp only[H] at A
      rw[List.getElem_drop] at A
      exact (Ze7 D Q (by
       have K:(s.take z)[i+k.length]=38:=(by simpa using A)
       rw[K]
       decide)).1
     ·rw[ZQ om]
      exact D
    have I:k=((s.take z).take (i+k.length)).drop i:=by
     rw[List.drop_take,Nat.add_sub_cancel_left,<-H]
     exact (YQ.1 (Xx _))
    have A:=Zml hi F (Nat.le_add_right _ _)
    rw[<-I] at A
    refine Gn value s D f _ _ v h F (Ys ho ?_)
    split
    ·exact ZhR (Zct _ _ (Zc _) A)
    ·exact Zct _ _ (Zc _) A
theorem Zin (V:isText s) {f e:Nat} {a:AtP} (h:attrP s f k= .ok (a,e)):isText a.value:=by
 unfold attrP at h;dsimp only at h;split at h
 ·cases h
 ·split at h
  ·cases h
  ·split at h
   ·cases h
   ·rename_i U;split at h
    ·cases h
    ·rename_i v J;split at h
     ·cases h
     ·rename_i K;split at h
      ·cases h
      ·injection h with h;injection h with ha he;subst ha;show isText v;obtain ⟨q,S⟩:∃q,spAt s (spAt s (nmAt s k)+1)=q:=⟨_,rfl⟩;rw[S] at U J K;obtain ⟨A,R⟩:∃A:q<s.length,s[q]=34\/s[q]=39:=by
        cases h34:hasAt s q [34] with
        |true=>obtain ⟨x,y⟩:=JK h34;exact ⟨x,Or.inl y⟩
        |false=>cases h39:hasAt s q [39] with
         |true=>obtain ⟨x,y⟩:=JK h39;exact ⟨x,Or.inr y⟩
         |false=>exact absurd ⟨h34,h39⟩ U
       have Q:(s.drop q).headD 0=s[q]:=(by rw[Zl A];rfl);rw[Q] at J K;have H:s[q].toNat<128:=(by rcases R with e|e<;>rw[e]<;>decide);obtain ⟨n,I⟩:∃n,((s.drop (q+1)).takeWhile λd=>d !=s[q] && d !=60).length=n:=⟨_,rfl⟩;have Y:n<=s.length - (q+1):=(by have:=(YE (λd:UInt8=>d !=s[q] && d !=60) (l:=s.drop (q+1))).length_le;rw[I,Zk] at this;exact this);rw[I] at J K;have X:q+1+n<s.length:=om;have D:=Zby (λd:UInt8=>d !=s[q] && d !=60) (s.drop (q+1)) (by rw[I,Zk];omega);simp only[I] at D;rw[List.getElem_drop] at D;have Z:isText (s.take (q+1+n)):=(Ze7 V X (by
        by_cases F:s[q+1+n]=60
        ·rw[F];decide
        ·have:s[q+1+n]=s[q]:=(by have:=D;simp only[Bool.and_eq_false_iff,bne_eq_false_iff_eq] at this;exact this.resolve_right F);rw[this];exact H)).1
       refine Gn true s Z _ _ _ v J ?_ Xa;rw[List.take_take,Nat.min_eq_left om];exact (Ze7 V A H).2
def tokG (N:Nat) (t:Tok):Prop:=(∀a∈t.attrs,isText a.value)/\t.at_<N
theorem Ed {s:List UInt8} (D:isText s) {f:Nat} {nm:List UInt8}:∀(n k:Nat) (al:List AtP) (t:Tok) (e:Nat),s.length - k<n->k<=s.length->(∀a∈al,isText a.value)->
 startAt s f nm k al= .ok (t,e)->(∀a∈t.attrs,isText a.value)/\t.at_=f
 |0,_,_,_,_,h,_,_,_=>by omega
 |n+1,k,al,t,e,hn,hk,hal,h=>by
  have H:=UJ (s:=s) hk;have J:=U9 s k;rw[Uy s f nm k al hk] at h;split at h
  ·injection h with h;injection h with h1 h2;subst h1;exact ⟨hal,rfl⟩
  ·split at h
   ·injection h with h;injection h with h1 h2;subst h1;exact ⟨hal,rfl⟩
   ·split at h
    ·cases h
    ·split at h
     ·cases h
     ·split at h
      ·cases h
      ·rename_i a e2 F;split at h
       ·cases h
       ·have I:=Qc H F;exact Ed D n e2 _ t e om I.2.1 (λb A=>(Zs.1 A).elim (hal b) λA=>by rw[Zo.1 A];exact Zin D F) h
theorem Za9 (J:isText s) {f:Nat} {t:Tok} {e:Nat} (F:f<s.length) (h:constructP s f= .ok (t,e)):tokG s.length t:=by
 have H:∀u k,k<s.length->tokG s.length (dataT u k):=λu k I=>⟨(by intro a D;cases D),I⟩;unfold constructP at h;split at h
 ·split at h
  ·cases h
  ·injection h with h;injection h with A h2;subst A;exact H _ _ om
 ·split at h
  ·split at h
   ·cases h
   ·injection h with h;injection h with A h2;subst A;exact H _ _ om
  ·split at h
   ·split at h
    ·cases h
    ·injection h with h;injection h with A h2;subst A;exact H _ _ F
   ·split at h
    ·cases h
    ·split at h
     ·cases h
     ·split at h
      ·unfold endP at h;dsimp only at h;split at h
       ·split at h
        ·injection h with h;injection h with A h2;subst A;exact ⟨(by intro a D;cases D),F⟩
        ·cases h
       ·cases h
      ·split at h
       ·rw[Qk s f F] at h;split at h
        ·cases h
        ·have A:=U5 F;obtain ⟨K,Q⟩:=Ed J _ _ _ t e (Yy _) A.2 (by intro a D;cases D) h;exact ⟨K,om⟩
       ·dsimp only at h;split at h
        ·cases h
        ·injection h with h;injection h with A h2;subst A;exact H _ _ F
theorem Za4 {s:List UInt8} (D:isText s):∀(n k:Nat) (l L:List Tok),s.length - k<n->(∀t∈l,tokG s.length t)->toksAt s k l= .ok L->∀t∈L,tokG s.length t
 |0,_,_,_,h,_,_=>by omega
 |n+1,k,l,L,hn,hl,h=>by
  by_cases F:s.length<=k
  ·rw[Vz F] at h
   injection h with h
   rw[<-h]
   exact hl
  ·cases hc:constructP s k with
   |error x=>rw[QU om hc] at h;cases h
   |ok y=>
    obtain ⟨t,e⟩:=y
    have H:=Jj om hc
    rw[J9 om hc] at h
    refine Za4 D n e _ L om ?_ h
    split
    ·exact λu A=>(Zs.1 A).elim (hl u) λA=>by rw[Zo.1 A];exact Za9 D om hc
    ·exact hl
theorem ZjA {L:List Tok} (h:toksP s= .ok L):∀t∈L,tokG s.length t:=by
 rw[GP] at h;split at h
 ·cases h
 ·rename_i hc;exact Za4 (US _ 0 s (Zc _) (by have:=hc;unfold check at this;simpa using this)) _ _ _ L (Yy _) (by intro t A;cases A) h
mutual
def Nd.gd (N:Nat):Nd->Prop
 | .mk k s n al ks t a=>(∀x∈al,isText x.value)/\a<N/\Nds.gd N ks
def Nds.gd (N:Nat):List Nd->Prop
 | []=>True
 |x::t=>x.gd N/\Nds.gd N t
end
theorem Nds.gd_iff {N:Nat}:∀l:List Nd,Nds.gd N l↔∀x∈l,x.gd N
 | []=>by rw[Nds.gd];simp
 |x::t=>by rw[Nds.gd,Nds.gd_iff t];simp
theorem Zih {ks:List Nd} (h:Nds.gd N ks) (t:List UInt8) {a:Nat} (F:a<N):Nds.gd N (addText ks t a):=by
 rw[Nds.gd_iff] at h|-;unfold addText;split
 ·rename_i s nm al kk u b H;obtain ⟨ys,rfl⟩:=List.getLast?_eq_some_iff.1 H;rw[List.dropLast_concat];intro x A;rcases Zs.1 A with A|A
  ·exact h x (ZeY _ A)
  ·have D:=h (.mk 1 s nm al kk u b) (by simp);rw[Zo.1 A];rw[Nd.gd] at D|-;exact D
 ·intro x A;rcases Zs.1 A with A|A
  ·exact h x A
  ·rw[Zo.1 A];unfold charD;rw[Nd.gd,Nds.gd];exact ⟨(by intro y I;cases I),F,trivial⟩
theorem Zol:∀f:Nat,(∀(d:Nat) (l:List Tok) (x:Nd) (r:List Tok),elemP fin f d l= .ok (x,r)->(∀t∈l,tokG N t)->x.gd N/\∀t∈r,tokG N t)/\
 (∀(d:Nat) (t:Tok) (ks:List Nd) (l:List Tok) (x:Nd) (r:List Tok),kidsP fin f d t ks l= .ok (x,r)->tokG N t->Nds.gd N ks->(∀t∈l,tokG N t)->x.gd N/\∀t∈r,tokG N t):=by
 intro f
 induction f with
 |zero=>exact ⟨λd l x r h=>(by rw[elemP] at h;cases h),λd t ks l x r h=>(by rw[kidsP] at h;cases h)⟩
 |succ f ih=>
  obtain ⟨S,A⟩:=ih;refine ⟨λd l x r h D=> ?_,λd t ks l x r h J I D=> ?_⟩
  ·cases l with
   |nil=>rw[elemP] at h;cases h
   |cons t l=>
    have F:=D t Zx;have H:∀u∈l,tokG N u:=λu Q=>D u (Zn _ Q);rw[elemP] at h;split at h
    ·cases h
    ·split at h
     ·injection h with h;injection h with e1 e2;subst e1;subst e2;rw[Nd.gd,Nds.gd];exact ⟨⟨F.1,F.2,trivial⟩,H⟩
     ·exact A d t [] l x r h F (by rw[Nds.gd];trivial) H
  ·cases l with
   |nil=>rw[kidsP] at h;cases h
   |cons u l=>
    have F:=D u Zx;have H:∀u∈l,tokG N u:=λu Q=>D u (Zn _ Q);rw[kidsP] at h;split at h
    ·split at h
     ·cases h
     ·injection h with h;injection h with e1 e2;subst e1;subst e2;rw[Nd.gd];exact ⟨⟨J.1,J.2,I⟩,H⟩
    ·split at h
     ·split at h
      ·cases h
      ·rename_i k r' K;obtain ⟨U,V⟩:=S _ _ _ _ K D;refine A d t _ r' x r h J ?_ V;rw[Nds.gd_iff] at I|-;exact λy R=>(Zs.1 R).elim (I y) λR=>by rw[Zo.1 R];exact U
     ·exact A d t _ l x r h J (Zih I _ F.2) H
theorem Zms:∀(f:Nat) (found:Option Nd) (l:List Tok) (x:Nd),docGo fin f found l= .ok x->(∀y,found=some y->y.gd N)->(∀t∈l,tokG N t)->x.gd N:=by
 intro f
 induction f with
 |zero=>exact λfound l x h _ _=>by rw[docGo] at h;cases h
 |succ f ih=>
  intro found l x h D F;cases l with
  |nil=>
   rw[J6] at h;cases found with
   |none=>cases h
   |some y=>injection h with h;rw[<-h];exact D y rfl
  |cons t r=>
   have J:∀u∈r,tokG N u:=λu K=>F u (Zn _ K);rw[JE] at h;split at h
   ·cases h
   ·split at h
    ·cases h
    ·split at h
     ·split at h
      ·cases h
      ·exact ih found r x h D J
     ·split at h
      ·cases h
      ·rename_i y r' Q;obtain ⟨H,I⟩:=(Zol _).1 _ _ _ _ Q F;exact ih (some y) r' x h (by intro z A;injection A with A;rw[<-A];exact H) I
theorem Zok {x:Nd} (h:docP s= .ok x):x.gd s.length:=by
 rw[QB] at h;split at h
 ·cases h
 ·rename_i l A;exact Zms _ none l x h (by intro y e;cases e) (ZjA A)
theorem Qs {sc:Scope}:∀(al out r:List AtP),attrsGo sc al out= .ok r->(∀a∈al,isText a.value)->(∀a∈out,isText a.value)->∀a∈r,isText a.value
 | [],out,r,h,_,ho=>by
  rw[attrsGo] at h
  injection h with h
  rw[<-h]
  exact ho
 |a::t,out,r,h,ha,ho=>by
  have D:∀b∈t,isText b.value:=λb A=>ha b (Zn _ A)
  rw[attrsGo] at h
  split at h
  ·exact Qs t out r h D ho
  ·dsimp only at h
   split at h
   ·cases h
   ·split at h
    ·cases h
    ·exact Qs t _ r h D λb A=>(Zs.1 A).elim (ho b) λA=>by rw[Zo.1 A];exact ha a Zx
mutual
theorem Zj3 {N:Nat}:∀(n m:Nd) (sc:Scope),resP n sc= .ok m->n.gd N->m.gd N
 | .mk k s n al ks t a,m,sc,h,hg=>by
  rw[Nd.gd] at hg
  rw[resP] at h
  split at h
  ·cases h
  ·rename_i sp l al' inner hh
   split at h
   ·cases h
   ·rename_i ks' hk
    injection h with h
    subst h
    rw[Nd.gd]
    refine ⟨?_,hg.2.1,ZcJ ks ks' _ hk hg.2.2⟩
    unfold headP at hh
    simp only[Nd.name,Nd.attrs,Nd.at_] at hh
    split at hh
    ·cases hh
    ·split at hh
     ·cases hh
     ·split at hh
      ·cases hh
      ·split at hh
       ·cases hh
       ·split at hh
        ·cases hh
        ·rename_i al2 ha
         injection hh with hh
         injection hh with _ hh
         injection hh with _ hh
         injection hh with hh _
         rw[<-hh]
         exact Qs _ _ _ ha hg.1 (by intro b hb;cases hb)
theorem ZcJ {N:Nat}:∀(ks r:List Nd) (sc:Scope),resKids ks sc= .ok r->Nds.gd N ks->Nds.gd N r
 | [],r,sc,h,_=>by
  rw[resKids] at h
  injection h with h
  subst h
  rw[Nds.gd]
  trivial
 |k::t,r,sc,h,hg=>by
  rw[Nds.gd] at hg
  rw[resKids] at h
  split at h
  ·cases h
  ·rename_i k' hk'
   split at h
   ·cases h
   ·rename_i t' ht'
    injection h with h
    subst h
    rw[Nds.gd]
    refine ⟨?_,ZcJ t t' sc ht' hg.2⟩
    split at hk'
    ·exact Zj3 k k' sc hk' hg.1
    ·injection hk' with hk';rw[<-hk'];exact hg.1
end
theorem ZhY {m:Nd} (h:treeP s=some m):m.gd s.length:=by
 unfold treeP at h;split at h
 ·cases h
 ·split at h
  ·cases h
  ·rename_i n A;split at h
   ·cases h
   ·rename_i r D;injection h with h;subst h;exact Zj3 n r [] D (Zok A)
end
section
variable {d:Nat}
mutual
def Nd.cost:Nd->Nat
 | .mk _ _ _ al ks _ _=>100+6*(al.map λb=>b.value.length).sum+Nds.cost ks
def Nds.cost:List Nd->Nat
 | []=>0
 |x::t=>x.cost+Nds.cost t
end
theorem Zgb:∀a b:List Nd,Nds.cost (a++b)=Nds.cost a+Nds.cost b
 | [],b=>by rw[Nds.cost];simp
 |x::t,b=>by
  show Nds.cost (x::(t++b))=_
  rw[Nds.cost,Nds.cost,Zgb t b]
  omega
theorem Gp (p:Nd->Bool):∀l:List Nd,Nds.cost (l.filter p)<=Nds.cost l
 | []=>Zc _
 |x::t=>by
  have ih:=Gp p t
  rw[List.filter_cons]
  split<;>simp only[Nds.cost]<;>omega
theorem Zav {N:Nat}:∀al:List AtP,(∀b∈al,b.space= []/\b.name.length<=7/\b.value.length<=N/\b.at_=0)->(attrsW al).length<=al.length*11+6*(al.map λb=>b.value.length).sum
 | [],_=>Zj _
 |b::t,h=>by
  have ih:=Zav t λx A=>h x (Zn _ A)
  obtain ⟨_,F,H,_⟩:=h b Zx
  have I:=Zc4 true b.value
  have D:(attrW b).length<=6*b.value.length+11:=by
   unfold attrW
   simp only[Zb,Zd,ZK]
   omega
  show (attrW b++attrsW t).length<=_
  rw[Zb,Zd,Zw,YM]
  omega
mutual
theorem ZcU {N:Nat}:∀n:Nd,n.small N->(nodeW n).length<=n.cost
 | .mk k s n al ks t a,h=>by
  rw[Nd.small] at h
  obtain ⟨rfl,rfl,hn,ha,hb,hk,rfl,rfl,hs⟩:=h
  have ih:=ZaZ ks hs
  have h1:=Zav al hb
  rw[nodeW,Ze (by decide),Nd.cost]
  split
  ·simp only[Zb,Zd,ZK]
   omega
  ·simp only[Zb,Zd,ZK]
   omega
theorem ZaZ {N:Nat}:∀l:List Nd,Nds.small N l->(nodesW l).length<=Nds.cost l
 | [],_=>by rw[nodesW];exact Zj _
 |x::t,h=>by
  rw[Nds.small] at h
  have h1:=ZcU x h.1
  have h2:=ZaZ t h.2
  rw[nodesW,Zb,Nds.cost]
  omega
end
def cF (d:Nat) (x:Fd):Nat:=118+6*(x.title.size+x.id.size+x.link.size)+((x.path.drop d).map λp=>100+6*p.size).sum
theorem ZjJ {x:Fd} (h:d<x.path.length):cF d x=cF (d+1) x+(100+6*(pathAt x d).size):=by
 unfold cF pathAt;rw[Zl h,Zw,YM,ZZ,Zh h];show _+(100+6*(x.path[d]).size+_)=_;simp only[Option.getD_some];omega
theorem Zkn (d:Nat) (x:Fd):(feedN x).cost<=cF d x:=by
 have e1:∀s:ByteArray,(lst s).length=s.size:=λ_=>rfl;have h:(withP (elemN outlineL []) [(typeL,rssL),(textL,lst x.title),(xmlUrlL,lst x.id)]).cost=118+6*(x.title.size+x.id.size):=by show (Nd.mk 0 [] outlineL [pairA (typeL,rssL),pairA (textL,lst x.title),pairA (xmlUrlL,lst x.id)] [] [] 0).cost=_;rw[Nd.cost,Nds.cost];simp only[pairA,Zw,Z2,YM,List.sum_nil,e1];show 100+6*(3+_)+0=_;omega
 have A:(withP (withP (elemN outlineL []) [(typeL,rssL),(textL,lst x.title),(xmlUrlL,lst x.id)]) [(htmlUrlL,lst x.link)]).cost=118+6*(x.title.size+x.id.size+x.link.size):=by show (Nd.mk 0 [] outlineL [pairA (typeL,rssL),pairA (textL,lst x.title),pairA (xmlUrlL,lst x.id),pairA (htmlUrlL,lst x.link)] [] [] 0).cost=_;rw[Nd.cost,Nds.cost];simp only[pairA,Zw,Z2,YM,List.sum_nil,e1];show 100+6*(3+_)+0=_;omega
 unfold feedN cF;dsimp only;split
 ·rw[h];omega
 ·rw[A];omega
theorem ZnQ {α:Type} {f g:α->Nat}:∀(l:List α),(∀x∈l,f x<=g x)->(l.map f).sum<=(l.map g).sum
 | [],_=>Zc _
 |x::t,h=>by
  rw[Zw,Zw,YM,YM]
  have:=ZnQ t λy A=>h y (Zn _ A)
  have:=h x Zx
  omega
theorem Zb9 {rec_:List Fd->List Nd} {path:List ByteArray} {d:Nat} (J:path.length=d)
 (A:∀(s:ByteArray) (g:List Fd),asc g->(∀x∈g,Pref (path++ [s]) x)->Nds.cost (rec_ g)<=(g.map (cF (d+1))).sum):
 ∀(f:Nat) (l:List Fd),asc l->(∀x∈l,Pref path x/\d<x.path.length)->Nds.cost (foldsP rec_ d f l)<=(l.map (cF d)).sum
 |0,l,_,_=>(by rw[foldsP,Nds.cost];exact Zj _)
 |f+1,[],_,_=>(by rw[foldsP,Nds.cost];exact Zj _)
 |f+1,x::t,hs,hl=>by
  obtain ⟨n,K⟩:∃n,((x::t).takeWhile λy=>decide (pathAt y d=pathAt x d)).length=n:=⟨_,rfl⟩;have H:=IJ x t d;have h:=Zbs x t d;rw[K] at H h;rw[foldsP];(try dsimp only);rw[K,Nds.cost];have U:=A (pathAt x d) ((x::t).take n) (UD (List.take_sublist _ _) hs) λy F=>by have I:=hl y (Y4 F);rw[<-h y F];exact I.1.next J I.2
  have ih:=Zb9 J A f ((x::t).drop n) (UD (List.drop_sublist _ _) hs) λy F=>hl y (Yq F);have Q:(withP (elemN outlineL (rec_ ((x::t).take n))) [(textL,lst (pathAt x d))]).cost<=100+6*(pathAt x d).size+Nds.cost (rec_ ((x::t).take n)):=by show (Nd.mk 0 [] outlineL [pairA (textL,lst (pathAt x d))] ((rec_ ((x::t).take n)).filter λk=> !(decide (k.kind=1) && k.text.isEmpty)) [] 0).cost<=_;rw[Nd.cost];have:=Gp (λk=> !(decide (k.kind=1) && k.text.isEmpty)) (rec_ ((x::t).take n));simp only[pairA,Zw,Z2,YM,List.sum_nil];show 100+6*((pathAt x d).size+0)+_<=_;omega
  obtain ⟨D,rfl⟩:∃D,n=D+1:=⟨n - 1,om⟩;have R:(((x::t).take (D+1)).map (cF (d+1))).sum+(100+6*(pathAt x d).size)<=(((x::t).take (D+1)).map (cF d)).sum:=by rw[List.take_succ_cons,Zw,Zw,YM,YM,ZjJ (hl x Zx).2];have:=ZnQ (f:=cF (d+1)) (g:=cF d) (t.take D) λy F=>(by rw[ZjJ (hl y (Zn _ (Y4 F))).2];omega);omega
  have S:((x::t).map (cF d)).sum=(((x::t).take (D+1)).map (cF d)).sum+(((x::t).drop (D+1)).map (cF d)).sum:=by rw[<-ZpW,<-ZS,Yz]
  omega
theorem ZeB:∀(f d:Nat) (path:List ByteArray) (l:List Fd),path.length=d->asc l->(∀x∈l,Pref path x)->Nds.cost (outsP f d l)<=(l.map (cF d)).sum
 |0,d,path,l,_,_,_=>(by rw[outsP,Nds.cost];exact Zj _)
 |f+1,d,path,l,hd,hs,hl=>by
  obtain ⟨n,F⟩:∃n,(l.takeWhile λx=>decide (x.path.length=d)).length=n:=⟨_,rfl⟩
  have H:=Qb hd hs λx A=>hl x A
  have h:l.takeWhile (λx=>decide (x.path.length=d))=l.take n:=by rw[<-F];exact YQ.1 (Xx _)
  rw[F,h] at H
  rw[outsP,h,show (l.take n).length=n by rw[<-h,F],Zgb]
  have J:Nds.cost ((l.take n).map feedN)<=((l.take n).map (cF d)).sum:=by
   have:∀m:List Fd,Nds.cost (m.map feedN)<=(m.map (cF d)).sum:=λm=>by
    induction m with
    |nil=>rw[Z2,Nds.cost];exact Zj _
    |cons y m ih=>
     rw[Zw,Zw,YM,Nds.cost]
     have:=Zkn d y
     omega
   exact this _
  have K:=Zb9 hd (rec_:=outsP f (d+1)) (λs g I D=>ZeB f (d+1) (path++ [s]) g (by rw[Zb,hd];rfl) I D) (l.length+1) (l.drop n) (UD (List.drop_sublist _ _) hs) λx A=>⟨hl x (Yq A),H.2 x A⟩
  have Q:(l.map (cF d)).sum=((l.take n).map (cF d)).sum+((l.drop n).map (cF d)).sum:=by rw[<-ZpW,<-ZS,Yz]
  omega
theorem Zmv {l:List Fd} (h:okA l=true) (F:(encP l).small 10000):(encP l).cost<=318+(l.map (cF 0)).sum/\(docW (encP l)).length<=358+(l.map (cF 0)).sum:=by
 have H:=ZeB 66 0 [] l rfl (Zbo h) λx _=>⟨x.path,rfl⟩;have A:(encP l).cost<=318+(l.map (cF 0)).sum:=by
  have e:(encP l).cost=118+((elemN headL []).cost+((elemN bodyL (outsP 66 0 l)).cost+0)):=by show (Nd.mk 0 [] opmlL [pairA (versionL,twoL)] [elemN headL [],elemN bodyL (outsP 66 0 l)] [] 0).cost=_;rw[Nd.cost,Nds.cost,Nds.cost,Nds.cost];rfl
  have e2:(elemN headL []).cost=100:=by show (Nd.mk 0 [] headL [] [] [] 0).cost=100;rw[Nd.cost,Nds.cost];rfl
  have e3:(elemN bodyL (outsP 66 0 l)).cost<=100+Nds.cost (outsP 66 0 l):=by show (Nd.mk 0 [] bodyL [] ((outsP 66 0 l).filter λk=> !(decide (k.kind=1) && k.text.isEmpty)) [] 0).cost<=_;rw[Nd.cost];have:=Gp (λk=> !(decide (k.kind=1) && k.text.isEmpty)) (outsP 66 0 l);show 100+6*0+_<=_;omega
  omega
 refine ⟨A,?_⟩;have I:=ZcU _ F;unfold docW;rw[Zb,Zb];have D:headW.length=39:=rfl;rw[D];show 39+_+1<=_;omega
end
section
variable {M N:Nat}
mutual
theorem Zfe {N:Nat}:∀n:Nd,n.bare.fd N↔n.fd N
 | .mk k s nm al ks t a=>by
  rw[Nd.bare,Nd.fd,Nd.fd,Zgs ks,Zq]
  have h1:(Nds.bare ks).length=ks.length:=ZdI ks
  have h2:(∀b∈al.map AtP.bare,b.fd N)↔∀b∈al,b.fd N:=by
   constructor
   ·exact λh b hb=>h b.bare (Yc hb)
   ·intro h b hb
    obtain ⟨c,hc,rfl⟩:=ZU.1 hb
    exact h c hc
  rw[h1,h2]
theorem Zgs {N:Nat}:∀l:List Nd,Nds.fd N (Nds.bare l)↔Nds.fd N l
 | []=>by rw[Nds.bare]
 |x::t=>by rw[Nds.bare,Nds.fd,Nds.fd,Zfe x,Zgs t]
theorem ZdI:∀l:List Nd,(Nds.bare l).length=l.length
 | []=>by rw[Nds.bare]
 |x::t=>by rw[Nds.bare,Zd,Zd,ZdI t]
end
mutual
theorem ZbM:∀n:Nd,n.bare.cnt=n.cnt
 | .mk k s nm al ks t a=>by rw[Nd.bare,Nd.cnt,Nd.cnt,ZdM ks]
theorem ZdM:∀l:List Nd,Nds.cnt (Nds.bare l)=Nds.cnt l
 | []=>by rw[Nds.bare]
 |x::t=>by rw[Nds.bare,Nds.cnt,Nds.cnt,ZbM x,ZdM t]
end
theorem Zkp {l:List Fd} (h:okA l=true):distF l:=by
 obtain ⟨A, -,D⟩:=JM.1 h;have e:(l.map λf=>(collF f).id)=l.map Fd.id:=List.map_congr_left λf F=>by rw[(ZbP (A f F)).2]
 unfold distF;rw[e];exact List.pairwise_map.2 D
theorem Zjt {D:Except PErr Nd} {m F r r':Nd} (H:D= .ok m) (h:D= .ok F) (I:resP m []= .ok r) (A:resP F []= .ok r'):r'=r:=by
 rw[H] at h;injection h with h;subst h;rw[I] at A;injection A with A;exact A.symm
theorem RSl.away1 {w:Wq} {size n g:Nat} {v z:Value} {xs:List Value} {T:TypeId} {fr:Nat×Nat} (h:RSl w size v n xs) (U:w.heap[g]? =some (.cells #[z] T fr)) (S:∃j u,xs[j]? =some u/\(j≠0\/u≠z)):v.ownBlock≠some g:=by
 obtain ⟨V,A,c,rfl,X,Y,Z,K⟩:=h;obtain ⟨j,u,R,D⟩:=S;obtain ⟨ad,rfl,hc⟩:=K j u R;intro e;have e2:ad.block=g:=by injection e
 unfold World.cell? at hc;rw[U1,e2,U] at hc;dsimp only at hc;split at hc
 ·cases hc
 ·have Q:(ad.add j).off=ad.off+j:=by unfold Addr.add;split<;>simp_all
  rw[Q] at hc;obtain ⟨F,I⟩:=ZP.1 hc;have J:ad.off+j<1:=F;have H:ad.off+j=0:=om
  simp only[H] at I;rcases D with D|D
  ·omega
  ·exact D I.symm
theorem ArcG.setRow {w:Wq} {A:Option Addr} {n c g:Nat} {L:List Fd} {T:TypeId} {fr:Nat×Nat} (h:ArcG w A n c L) (H:w.heap[g]? =some (.cells #[sN] T fr)) (cs:Array Value):ArcG (w.setRow g cs) A n c L:=by
 obtain ⟨lc,J,K,I,D⟩:=h;refine ⟨lc,J,K,RSl.grown I (Yx w g cs) ?_,λy F=>(D y F).grown (Yx w g cs) ⟨?_,?_⟩⟩
 ·cases lc with
  |nil=>exact Or.inl rfl
  |cons x t=>exact Or.inr (RSl.away1 I H ⟨1,.string x.f.id,by simp[flatC,cellsC,fCells],Or.inl (by decide)⟩)
 ·cases hp:y.f.path with
  |nil=>exact Or.inl rfl
  |cons s t=>exact Or.inr (RSl.away1 (D y F).1 H ⟨0,.string s,by rw[hp];rfl,Or.inr (by intro e;cases e)⟩)
 ·cases hp:y.f.ents with
  |nil=>exact Or.inl rfl
  |cons s t=>exact Or.inr (RSl.away1 (D y F).2 H ⟨0,.string s.id,by rw[hp];rfl,Or.inr (by intro e;cases e)⟩)
theorem Zpx {n r:Nd} (s:ByteArray) (w:Wq) (hE:Env w) (hs:s.size<=40000000000) (hp:docP s.data.toList= .ok n) (hr:resP n []= .ok r) (hf:r.fd N) (hc:r.cnt<=M) (hN:N<=10000) (hM:M<=1000000) (U:∀l,opmlP r= .ok l->distF l\/LatF):
 Calls prog 19 #[.string s] w λe w'=>∃A n c,e= .returned (.tuple #[.agg #[.slice A n c],nI (decE r:Nat)])/\ArcG w' A n c (decL r)/\Ext w w':=by
 have hw:=ZN s;obtain ⟨W0,V⟩:∃W0,w.alloc (.cells #[sN] 31)=W0:=⟨_,rfl⟩;have hg:Ext w W0:=by rw[<-V];exact (Ext.refl w).alloc _
 have K:W0.heap[w.heap.size]? =some (.cells #[sN] 31):=by rw[<-V];exact Zg w _
 have H:=λw'=>I6 s w' om;have D:=(Eu hp).1;have X:=ZjN hp;rw[hw] at D;rw[hp] at H;have HP:=gd H;have hv:Hid (∀(x:Nc) (w':Wq),x.nd=n->RdN w' x->Calls prog 27 #[.agg (cellsN x).toArray] w' λe w2=>∃v,e= .returned v/\ResRet x w'.heap.size w2 v (.ok r)/\Ext w' w2):=λx w' hx hB=>by subst hx;rw[<-hr];exact GI s.size om x w' hB D X
 have HD:=gd (λ(w':Wq) (hx:Ext w w') (k p c q d a:Nat) (s n t:List UInt8) (A B:Option Addr) (h:NodeG w' k s n (.slice A p c) (.slice B q d) t a r)=>IE w' (hE.ext hx) h hf hc U hN hM);clear H hp D X hr hf hc U hE;go_enter func19,ntmps19
 go_wp2_with (first|(go_at_call 26;refine Za (HP.out _) ?_;rintro e w2 ⟨v2,rfl,⟨mc,rfl,hA,hb, -⟩,hD⟩;have I:=RdN.sl hb;obtain ⟨mk,ms,mn,hK,ml,hL,hH,mt,ma⟩:=mc;obtain ⟨⟨MA,hm,hl,Y⟩,⟨MB,hn,md,Z⟩⟩:=I;(simp only[Nc.al,Nc.ks] at Y Z);subst Y;subst Z;simp only[cellsN];have hh:=hD.alloc (.cells #[nI (mk:Nat),.string (str ms),.string (str mn),.slice MA hm hl,.slice MB hn md,.string (str mt),nI (ma:Nat)] 25);have hI:=hh.heap K;have hd:=RdN.ext ((Ext.refl w2).alloc (.cells #[nI (mk:Nat),.string (str ms),.string (str mn),.slice MA hm hl,.slice MB hn md,.string (str mt),nI (ma:Nat)] 25)) _ hb)|(go_at_call 27;have hq:=hv.out _ _ hA hd;simp only[cellsN] at hq;refine Za hq ?_;clear hq;rintro e4 w4 ⟨v4,rfl,hC,hF⟩;obtain ⟨zc,rfl,ha,F, -⟩:=hC.ok;have I:=RdN.sl F;obtain ⟨zk,zs,zn,hO,zl,hP,R,zt,za⟩:=zc;obtain ⟨⟨ZA,ht,ho,hj⟩,⟨ZB,hu,zd,hk⟩⟩:=I;(simp only[Nc.al,Nc.ks] at hj hk);subst hj;subst hk;simp only[cellsN];have J:=(hh.trans hF).alloc (.cells #[nI (zk:Nat),.string (str zs),.string (str zn),.slice ZA ht ho,.slice ZB hu zd,.string (str zt),nI (za:Nat)] 25);have hJ:=J.heap K;have he:NodeG _ _ _ _ _ _ _ _ r:=⟨zl,R,RdN.ext ((Ext.refl w4).alloc (.cells #[nI (zk:Nat),.string (str zs),.string (str zn),.slice ZA ht ho,.slice ZB hu zd,.string (str zt),nI (za:Nat)] 25)) _ F,ha⟩)|(go_at_call 12;refine Za (HD.out _ (hg.trans J) _ _ _ _ _ _ _ _ _ _ _ he) ?_;rintro e w6 ⟨S,n6,c6,rfl,hy,hG⟩;have hi:=(J.trans hG).alloc (.cells #[.slice S n6 c6] 31);have Q:=hi.heap K;have hz:=hy.ext ((Ext.refl w6).alloc (.cells #[.slice S n6 c6] 31)))|(refine Zf rfl 31 (.tmp 2) (.tmp 38) rfl w.heap.size _ rfl rfl _ _ Q Xl rfl GB ?_))
 ((try simp only[Exit.inBlock,Exit.then]);refine ZD (Yn rfl _ _ _ _ #[.slice S n6 c6] _ _ rfl (ZF _ _ _ #[.slice S n6 c6] _ _ Q) underlying31 rfl Xl) rfl ?_);exact ⟨S,n6,c6,rfl,hz.setRow Q _,(hg.trans hi).setRow (Zc _) _⟩
end
section
variable {N:Nat} {nm s:List UInt8} {path:List ByteArray}
theorem Ee {v:List UInt8} (h:isText v):(checkS (str v)).2=0:=by unfold checkS;rw[Z3];exact (Vd v).2 h
theorem Zf8 {v:List UInt8} (h:coll v≠ []):collapse (str v)≠noS:=by
 intro e;unfold collapse at e;rw[Z3] at e;have A:(str (coll v)).data.toList=noS.data.toList:=Zz (λb:ByteArray=>b.data.toList) e;rw[Z3] at A;exact h (A.trans rfl)
def okPath (path:List ByteArray):Prop:=∀p∈path,(checkS p).2=0/\collapse p≠noS
theorem Zhl {p:ByteArray} (h:okPath path) (D:(checkS p).2=0) (F:collapse p≠noS):okPath (path++ [p]):=λq A=>
 (Zs.1 A).elim (h q) λA=>by rw[Zo.1 A];exact ⟨D,F⟩
theorem ZfZ {al:List AtP} (h:∀x∈al,isText x.value) {v:List UInt8} (A:attrIn al nm=some v):isText v:=by
 unfold attrIn at A;cases hf:al.find? (λa=>a.space== [] && a.name==nm) with
 |none=>rw[hf] at A;cases A
 |some a=>rw[hf] at A;injection A with A;rw[<-A];exact h a (List.mem_of_find?_eq_some hf)
theorem Zeb {o:Option (List UInt8)} (h:∀v,o=some v->isText v):isText (o.getD []):=by
 cases o with
 |none=>exact Xa
 |some v=>exact h v rfl
theorem Zbr {n:Nd} (h:n.gd N) {v:List UInt8} (A:attrL n nm=some v):isText v:=by
 obtain ⟨k,s,n,al,ks,t,a⟩:=n;rw[Nd.gd] at h;exact ZfZ h.1 A
theorem ZjP {n:Nd} (h:n.gd N):isText (nameL n):=by
 unfold nameL;split
 ·rename_i v A;exact Zbr h A
 ·exact Zeb λv A=>Zbr h A
theorem ZmM {n:Nd} (h:n.gd N):n.at_<N:=by
 obtain ⟨k,s,n,al,ks,t,a⟩:=n;rw[Nd.gd] at h;exact h.2.1
def visGd (N:Nat) (r:Except PErr (List Fd)):Prop:=match r with
 | .ok l=>∀f∈l,errF f=0/\f.upd= -62135596800/\f.ents= []
 | .error x=>x.1<N/\(x.2=19\/x.2=9)
theorem ZoJ {k:Nd} (H:k.gd N) (I:okPath path) (U:path.length<=64) {id:List UInt8} (R:isText id) (hc:coll id≠ []):errF (opFd path k id)=0:=by
 have K:firstErr (strsF (opFd path k id))=0:=JT.2 λs A=>by
  rcases Zs.1 A with A|A
  ·exact (I s A).1
  ·simp only[opFd,ZH,ZY,Y1] at A;rcases A with rfl|rfl|rfl
   ·exact Ee R
   ·exact Ee (ZjP H)
   ·exact Ee (Zeb λv S=>Zbr H S)
 have Q:¬(collapse (opFd path k id).id=noS\/((opFd path k id).path.any λp=>decide (collapse p=noS))=true):=by
  rintro (h|h)
  ·exact Zf8 hc h
  ·obtain ⟨p,F,D⟩:=Xm.1 h;exact (I p F).2 (YK D)
 have J:headF (opFd path k id)=0:=by unfold headF;rw[Ze (by rw[K];simp),Ze Q,Ze (by show ¬64<path.length;omega)];rfl
 unfold errF;rw[J];rfl
mutual
theorem Zj5 {N:Nat}:∀(n:Nd) (path:List ByteArray),n.gd N->okPath path->path.length<=64->visGd N (visP n path)
 | .mk k s nm al ks t a,path,hg,hp,hl=>by
  rw[Nd.gd] at hg
  rw[visP]
  exact Zh2 ks path hg.2.2 hp hl
theorem Zh2 {N:Nat}:∀(ks:List Nd) (path:List ByteArray),Nds.gd N ks->okPath path->path.length<=64->visGd N (visKs ks path)
 | [],path,_,_,_=>by rw[visKs];intro f hf;cases hf
 |k::t,path,hg,hp,hl=>by
  rw[Nds.gd] at hg
  obtain ⟨hk,ht⟩:=hg
  have h1:=Zh2 t path ht hp hl
  have h2:=ZmM hk
  rw[visKs]
  split
  all_goals
   rename_i x hx
   have h0:=cast (Zz (visGd N) hx) (by
    split
    ·split
     ·rename_i id hid
      split
      ·exact ⟨h2,Or.inl rfl⟩
      ·rename_i hc
       intro f hf
       rw[Zo.1 hf]
       exact ⟨ZoJ hk hp hl (Zbr hk hid) hc,rfl,rfl⟩
     ·split
      ·exact ⟨h2,Or.inl rfl⟩
      ·rename_i hc
       split
       ·exact ⟨h2,Or.inr rfl⟩
       ·exact Zj5 k _ hk (Zhl hp (Ee (ZjP hk)) (Zf8 hc)) (by rw[Zb];show _+1<=_;omega)
    ·intro f hf;cases hf)
  ·exact h0
  ·split
   ·rename_i y hy;rw[hy] at h1;exact h1
   ·rename_i l2 hy
    rw[hy] at h1
    exact λf hf=>(Zs.1 hf).elim (h0 f) (h1 f)
end
theorem ZoA {n:Nd} (h:n.gd N):Nds.gd N n.kids:=by
 obtain ⟨k,s,n,al,ks,t,a⟩:=n;rw[Nd.gd] at h;exact h.2.2
def opGd (N:Nat) (r:Except PErr (List Fd)):Prop:=match r with
 | .ok l=>∀f∈l,errF f=0/\f.upd= -62135596800/\f.ents= []
 | .error x=>x.1<N/\(x.2=18\/x.2=19\/x.2=9)
theorem Zho {m:Nd} (h:m.gd N):opGd N (opmlP m):=by
 unfold opmlP;split
 ·exact ⟨ZmM h,Or.inl rfl⟩
 ·split
  ·exact ⟨ZmM h,Or.inr (Or.inl rfl)⟩
  ·rename_i b D;have A:=Zj5 b [] ((Nds.gd_iff _).1 (ZoA h) b (List.mem_of_find?_eq_some D)) (by intro p F;cases F) (Zj _);cases hr:visP b [] with
   |ok l=>rw[hr] at A;exact A
   |error x=>rw[hr] at A;exact ⟨A.1,Or.inr A.2⟩
theorem Zoi {m:Nd} (F:treeP s=some m) (A:decE m≠0):decAt m<s.length/\(decE m=18\/decE m=19\/decE m=9):=by
 have h:=Zho (ZhY F);unfold decE at A|-;unfold decAt;cases hr:opmlP m with
 |ok l=>rw[hr] at h A;exact absurd (QD.2 λf D=>(h f D).1) A
 |error x=>rw[hr] at h;exact h
def bareF (f:Fd):Prop:=f.upd= -62135596800/\f.ents= []
theorem Zir (a b:Fd) (h:bareF a) (A:bareF b):bareF (joinF a b):=by
 refine ⟨?_,?_⟩
 ·unfold joinF laterF;dsimp only;split
  ·exact A.1
  ·exact h.1
 ·unfold joinF;show b.ents.foldl ordE.put a.ents= [];rw[A.2,h.2];rfl
theorem Zko {m:Nd} (J:treeP s=some m):(decL m).map outl=decL m:=by
 have h:=Zho (ZhY J);have F:∀f∈decL m,bareF f:=by
  unfold decL;cases hr:opmlP m with
  |error x=>intro f A;cases A
  |ok l=>
   rw[hr] at h;show ∀f∈normA l,bareF f;unfold normA;split
   ·refine Zay Zir λx K=> ?_;obtain ⟨y,Q,rfl⟩:=ZU.1 K;obtain ⟨-,D,I⟩:=h y Q;refine ⟨D,?_⟩;unfold collF;rw[I];rfl
   ·intro f A;cases A
 conv=>rhs;rw[<-List.map_id (decL m)]
 refine List.map_congr_left λf A=> ?_;obtain ⟨H,D⟩:=F f A;obtain ⟨p,i,t,l,u,e⟩:=f;simp only at H D;subst H;subst D;rfl
theorem ZpE {x:Fd} (h:fokS x/\smF 10000 x) (H:x.path.length<=64):cF 0 x<=4026518:=by
 obtain ⟨-,D,J,K,Q⟩:=h;have F:∀l:List ByteArray,(∀p∈l,p.size<=10000)->(l.map λp=>100+6*p.size).sum<=l.length*60100:=λl=>by
  induction l with
  |nil=>intro _;exact Zj _
  |cons p l ih=>intro A;have:=ih λq I=>A q (Zn _ I);have:=A p Zx;rw[Zw,YM,Zd,Nat.add_mul];omega
 have R:=F x.path D;have S:x.path.length*60100<=64*60100:=Nat.mul_le_mul_right _ H;unfold cF;rw[Jm];omega
theorem ZeO {α:Type} {g:α->Nat} {c:Nat}:∀(l:List α),(∀x∈l,g x<=c)->(l.map g).sum<=l.length*c
 | [],_=>Zj _
 |x::t,h=>by
  rw[Zw,YM,Zd,Nat.add_mul]
  have:=ZeO t λy A=>h y (Zn _ A)
  have:=h x Zx
  omega
theorem Zmq {m:Nd} (A:m.fd 5000) (hc:m.cnt<=5000):(decL m).length<=5000:=by
 unfold decL;cases h:opmlP m with
 |error x=>exact Zj _
 |ok l=>obtain ⟨D, -⟩:=ZcA h A hc;have:=Zew l;show (normA l).length<=5000;omega
theorem ZlV {m:Nd} (Q:treeP s=some m):∃n r,docP (docW (encP (decL m)))= .ok n/\resP n []= .ok r/\opmlP r= .ok (decL m)/\r.fd 10000/\r.cnt<=1000000/\(docW (encP (decL m))).length<=40000000000:=by
 obtain ⟨-,K, -,hc⟩:=Ef Q;have h:=Zbq m;have F:=Ze8 K hc;have V:=Zko Q;have A:=Zmq K hc;obtain ⟨S,U⟩:=Ziz h;obtain ⟨n,r,H,I,J⟩:=Zgf (encP (decL m)) S U;obtain ⟨e1,e2, -,e4⟩:=ZdS (λx D=>(F.1 x D).2) F.2;obtain ⟨-,Z⟩:=Zmv h e1;have h6:=ZeO (g:=cF 0) (decL m) λx D=>ZpE (F.1 x D) (Jf.1 (XW.1 ((JM.1 h).1 x D)).1).1;have h7:(decL m).length*4026518<=5000*4026518:=Nat.mul_le_mul_right _ A;refine ⟨n,r,H,I,?_,?_,?_,om⟩
 ·obtain ⟨m',r',X,Y,R⟩:=Zji h;rw[Zjt H X I Y,V] at R;exact R
 ·rw[<-Zfe,J,Zfe];exact Nd.fits_fd _ e2
 ·rw[<-ZbM,J,ZbM];omega
end
section
variable {s:List UInt8}
theorem ZoO {m:Nd} (Y:treeP s=some m) (w:Wq) (V:Env w):
 Calls prog 19 #[.string (str (docW (encP (decL m))))] w λe w'=>∃A n c,e= .returned (.tuple #[.agg #[.slice A n c],nI 0])/\ArcG w' A n c (decL m)/\Ext w w':=by
 obtain ⟨n,r,I,Q,F,R,S,J⟩:=ZlV Y;have K:=Zhk (Zbq m);have H:=Zbq m;generalize decL m=L at*;obtain ⟨D,U⟩:∃D,docW (encP L)=D:=⟨_,rfl⟩;rw[U] at I J|-;have e1:decE r=0:=by unfold decE;rw[F];exact K.1
 have e2:decL r=L:=by unfold decL;rw[F];exact K.2
 refine Za (Zpx (str D) w V (by rw[YN];exact J) (by rw[Z3];exact I) Q R S (by decide) (by decide) (λk h=>Or.inl (by rw[F] at h;injection h with h;rw[<-h];exact Zkp H))) ?_;rintro e w' ⟨A,n,c,rfl,X,Z⟩;rw[e1,e2] at*;exact ⟨A,n,c,rfl,X,Z⟩
theorem Zlc (x:ByteArray) (w:Wq) (hE:Env w) (S:NmTabs w) (hs:x.size<=maxLen):
 Calls prog 5 #[.string x] w λe w'=>e= .returned (.bool true)/\Ext w w':=by
 have hi:=gd (λ(w':Wq) (h:Ext w w')=>ZfY w' (hE.ext h) (S.ext h));cases ht:treeP x.data.toList with
 |none=>
  have HT:=gd (Zl7 ht w hs);clear ht hE S hs;go_enter func5,ntmps5
  go_wp2_with (first|(go_at_call 10;have F:=HT.out;refine Za F ?_;clear F;rintro e w1 ⟨rfl,I⟩)|(refine Zf rfl 25 (.tmp 3) (.tmp 15) rfl w1.heap.size _ rfl rfl _ _ (Zg _ _) ZJ rfl Zno ?_;rw[Z0])|(go_at_call 11;have F:=hi.out _ (I.alloc (.cells #[nI 0,eS,eS,sN,sN,eS,nI 0] 25));refine Za F ?_;clear F;rintro e w2 ⟨rfl,H⟩))
  go_ret;exact ⟨rfl,(I.alloc _).trans H⟩
 |some m=>
  obtain ⟨-,hf, -,hc⟩:=Ef ht;have U:=Ze8 hf hc;have HT:=gd (Zap ht w hs);have HD:=gd (λ(w':Wq) (hx:Ext w w') (k p c q d a:Nat) (s n t:List UInt8) (A B:Option Addr) (h:NodeG w' k s n (.slice A p c) (.slice B q d) t a m)=>IE w' (hE.ext hx) h hf hc (λl hl=>Or.inr Zp0));by_cases he:decE m=0
  case neg=>
   obtain ⟨hq,hd⟩:=Zoi ht he;rw[ZN] at hq;generalize decL m=L at*;generalize decAt m=AT at*;generalize decE m=ER at*;have hB:(0:Int)<=(AT:Int):=om;have hC:(AT:Int)<(x.size:Int):=om;clear ht hE S hs hf hc U hq he;rcases hd with rfl|rfl|rfl
   all_goals
    go_enter func5,ntmps5
    go_wp2_with (first|(go_at_call 10;have F:=HT.out;refine Za F ?_;clear F;rintro e w1 ⟨k,s,n,A,p,c,B,q,d,t,a,rfl,hg,I⟩;obtain ⟨X,J⟩:∃X,w1.alloc (.cells #[nI (k:Nat),.string (str s),.string (str n),.slice A p c,.slice B q d,.string (str t),nI (a:Nat)] 25)=X:=⟨_,rfl⟩;(have H:Ext w1 X:=by rw[<-J];exact (Ext.refl w1).alloc _);(have hb:BxN X w1.heap.size k s n (.slice A p c) (.slice B q d) t a:=by rw[<-J];exact Zg w1 _);obtain ⟨c0,c1,c2,c3,c4,c5,c6⟩:=hb.cells;have HG:=gd (hg.ext H);have Q:=gd (I.trans H);clear hg hb I H)|(refine Zf rfl 25 (.tmp 3) (.tmp 15) rfl w1.heap.size _ rfl rfl _ _ (Zg _ _) ZJ rfl Zhm ?_;rw[Z0];rw[J])|(go_at_call 12;have F:=HD.out _ Q.out _ _ _ _ _ _ _ _ _ _ _ HG.out;refine Za F ?_;clear F;rintro e w3 ⟨A3,n3,d3,rfl,Y,hj⟩;have Z:=hj.alloc (.cells #[.slice A3 n3 d3] 31);clear Y c0 c1 c2 c3 c4 c5 c6)|(refine Zf rfl 31 (.tmp 5) (.tmp 23) rfl w3.heap.size _ rfl rfl _ _ (Zg _ _) Xl rfl IW ?_;rw[Z0])|(go_at_call 11;have F:=hi.out _ (Q.out.trans Z);refine Za F ?_;clear F;rintro e w5 ⟨rfl,R⟩))
    go_ret
    exact ⟨rfl,(Q.out.trans Z).trans R⟩
  have hr:=Zbq m;have hw:=gd (λ(w':Wq) (hx:Ext w w')=>ZoO ht w' (hE.ext hx));have HW:=gd (λ(w':Wq) (A:Option Addr) (n c:Nat) (hx:Ext w w') (g:ArcG w' A n c (decL m))=>Zj9 w' (hE.ext hx) (S.ext hx) g U);have ho:=gd (λ(w':Wq) (A B:Option Addr) (n c p d:Nat) (h1:ArcG w' A n c (decL m)) (h2:ArcG w' B p d (decL m))=>ZpZ w' h1 h2 U);have hn:=gd (λ(w':Wq) (A:Option Addr) (n c:Nat) (g:ArcG w' A n c (decL m))=>Zoh w' g U);simp only[decide_true] at ho;simp only[Zi hr] at HW hn;rw[he] at HD;generalize decL m=L at*;generalize decAt m=AT at*;generalize docW (encP L)=D at*;clear ht hE S hs hf hc U hr he;go_enter func5,ntmps5
  go_wp2_with (first|(go_at_call 10;have F:=HT.out;refine Za F ?_;clear F;rintro e w1 ⟨k,s,n,A,p,c,B,q,d,t,a,rfl,hg,I⟩;obtain ⟨X,J⟩:∃X,w1.alloc (.cells #[nI (k:Nat),.string (str s),.string (str n),.slice A p c,.slice B q d,.string (str t),nI (a:Nat)] 25)=X:=⟨_,rfl⟩;(have H:Ext w1 X:=by rw[<-J];exact (Ext.refl w1).alloc _);(have hb:BxN X w1.heap.size k s n (.slice A p c) (.slice B q d) t a:=by rw[<-J];exact Zg w1 _);obtain ⟨c0,c1,c2,c3,c4,c5,c6⟩:=hb.cells;have HG:=gd (hg.ext H);have Q:=gd (I.trans H);clear hg hb I H)|(refine Zf rfl 25 (.tmp 3) (.tmp 15) rfl w1.heap.size _ rfl rfl _ _ (Zg _ _) ZJ rfl Zhm ?_;rw[Z0];rw[J])|(go_at_call 12;have F:=HD.out _ Q.out _ _ _ _ _ _ _ _ _ _ _ HG.out;refine Za F ?_;clear F;rintro e w3 ⟨A3,n3,d3,rfl,Y,hj⟩;have Z:=hj.alloc (.cells #[.slice A3 n3 d3] 31);have hh:=gd (Y.ext ((Ext.refl w3).alloc (.cells #[.slice A3 n3 d3] 31)));have K:=Q.out.trans Z;have b3:=(Ext.refl (w3.alloc (.cells #[.slice A3 n3 d3] 31))).boxed 0 (.slice A3 n3 d3) rfl;clear Y c0 c1 c2 c3 c4 c5 c6)|(refine Zf rfl 31 (.tmp 5) (.tmp 23) rfl w3.heap.size _ rfl rfl _ _ (Zg _ _) Xl rfl IW ?_;rw[Z0])|(go_at_call 17;have F:=HW.out _ _ _ _ K hh.out;refine Za F ?_;clear F;rintro e w5 ⟨rfl,R⟩)|(go_at_call 19;have F:=hw.out _ (K.trans R);refine Za F ?_;clear F;rintro e w6 ⟨A6,n6,d6,rfl,hp,hy⟩;have hk:=hy.alloc (.cells #[.slice A6 n6 d6] 31);have hv:=gd hp;clear hp)|(refine Zf rfl 31 (.tmp 10) (.tmp 59) rfl w6.heap.size _ rfl rfl _ _ (Zg _ _) Xl rfl IW ?_;rw[Z0])|(go_at_call 11;have F:=hi.out _ ((K.trans R).trans hk);refine Za F ?_;clear F;rintro e w8 ⟨rfl,ha⟩;have n0:=((R.trans hk).trans ha).cell b3;have n1:=ha.boxed 0 _ rfl;have V:=(R.trans hk).trans ha;have hu:Ext w6 w8:=((Ext.refl _).alloc _).trans ha)|(go_at_call 14;have F:=ho.out w8 _ _ _ _ _ _ (hh.out.ext V) (hv.out.ext hu);refine Za F ?_;clear F;rintro e w9 ⟨rfl,hm⟩;have n2:=hm.cell n0)|(go_at_call 16;have F:=hn.out w9 _ _ _ (hh.out.ext (V.trans hm));refine Za F ?_;clear F;rintro e wa ⟨rfl,hA⟩))
  go_ret;exact ⟨rfl,(K.trans (V.trans hm)).trans hA⟩
end
theorem Zm6 (os:Os) (A:os.Started) (H:Type) (enc:TypeId×Value->H):
 ReturnsInHanded {} checked os 5 .any (λw args=>(Rows.opmlIsStableSpec.pre enc prog f5 [] false w args/\laidMetH prog laidAll w)/\sizedMet enc prog f5 (OpenSpec.ofChange Rows.opmlIsStableSpec) false w args)
  (Rows.opmlIsStableSpec.post enc prog f5 false true false false):=by
 refine returnsInHanded_of_change_and (C:=checked) (X:=λw _=>laidMetH prog laidAll w) (λ_ _ _ hh h=>h.of_heap hh) Zp1 A (by kernel_rfl) func5
  (ChangeSpec.witness_shaped (enc:=enc) (C:=checked) (os:=os) (X:=λw _=>laidMetH prog laidAll w) false (World.laidAll prog os laidAll) #[eS] 8 (World.laidAll_os _ _ _)
   (World.shaped_of_ZipB (by kernel_rfl) (by kernel_rfl)) (by kernel_rfl) (by kernel_rfl) (by kernel_rfl)
   (by rw[MakeChecks.laidMetH_plain _ _ _ (by kernel_rfl)];exact laidMet_laidAll _ (by kernel_rfl) (by kernel_rfl))) ?_
 intro W base args ds gs V I hW hc Q hL _;have D:∀(j:Nat) t v,f5.params[j]? =some t->args[j]? =some v->Value.okWide prog W .any base t v:=I;have K:=hW;obtain ⟨p,q,ha,hV,rfl,_,_⟩:=hW;have hA:DataW.TrodAll enc prog W 0 (λ_=>true) true f5.params.toList args.toList ds p:=ha;rw[params5] at hA D;obtain ⟨v0,Y,rfl,rfl,h0⟩:=trodAll_one hA;obtain ⟨rfl,rfl⟩:=trodVars_none hV;have Z:=h0;rw[MakeChecks.laidMetH_plain _ _ _ (by kernel_rfl)] at hL;have hE:=Zgk hL;have U:(DataW.weightsEach prog [9] [Y]).all (· <=reachBytes)=true:=by have h:=Q;rw[params5] at h;exact h
 have S:=Z6.1 U;have R:∀n∈Y.weights prog 9,n<=reachBytes:=λn hn=>YK (S n (by simpa only[DataW.weightsEach,ZV] using hn));clear Q U S;have hd:∀x∈p,x.block<W.heap.size:=λx hx=>by simpa using K.lt x (ZeY _ hx)
 obtain ⟨F,hb⟩:=h0;obtain ⟨s0,rfl⟩:=okWide_string underlying9 (D 0 9 v0 rfl rfl);obtain ⟨q0,J,u0,_⟩:=Zp8 underlying9 (show DataW.trod enc prog W 0 (λ_=>true) true F 9 [.string s0]=some (Y,p) from hb);injection J with J _;injection J with J;subst J;rw[(Prod.mk.inj u0).1] at R;have hf:s0.size<=maxLen:=by have h:=R s0.size (by simp[DataW.weights]);unfold reachBytes at h;unfold maxLen;omega
 refine (Zlc s0 W hE (Zjc hL) hf).mono λe W' ⟨he,hx⟩=> ?_;subst he;have hB:Below W.heap.size W W':=hx;refine ⟨_,rfl,_,_,_,[],p,[],K,?_,?_,?_,hB.frame _,λh=>by cases h⟩
 ·exact trodAll_mk1 (shut_bool underlying4 _)
 ·exact trodAll_mk1 (Below.trod Zm0 (by kernel_rfl) (YK (by kernel_rfl)) Z hB hd)
 ·rfl
end Go.Proofs.YtnlafkgkcnenfaaGreatDoor
