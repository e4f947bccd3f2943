/- Parts of the proof: contracts and plain laws. -/
import Derived.Test.YtnlafkgkcnenfaaGreatDoorU04
import Derived.Test.YtnlafkgkcnenfaaGreatDoorU05
namespace Go.Proofs.YtnlafkgkcnenfaaGreatDoor
open Go Go.RowKit _root_.Go.Proofs.Tryz
set_option linter.unusedVariables false
set_option linter.unusedSimpArgs false
set_option maxRecDepth 100000
set_option maxHeartbeats 16000000
section
variable {N fin:Nat} {nm s:List UInt8} {out:List Fd} {path:List ByteArray}
mutual
def Nd.cnt:Nd->Nat
 | .mk _ _ _ _ ks _ _=>1+Nds.cnt ks
def Nds.cnt:List Nd->Nat
 | []=>0
 |x::t=>x.cnt+Nds.cnt t
end
theorem Nds.cnt_app:∀a b:List Nd,Nds.cnt (a++b)=Nds.cnt a+Nds.cnt b
 | [],b=>by rw[Nds.cnt];simp
 |x::t,b=>by
  have h:=Nds.cnt_app t b
  show Nds.cnt (x::(t++b))=_
  rw[Nds.cnt,Nds.cnt,h]
  omega
theorem Zbp (x:Nd):Nds.cnt [x]=x.cnt:=by rw[Nds.cnt,Nds.cnt];omega
theorem Ze6 (x:Nd):1<=x.cnt:=by cases x;rw[Nd.cnt];omega
theorem ZfW (ks:List Nd) (t:List UInt8) (a:Nat):Nds.cnt (addText ks t a)<=Nds.cnt ks+1:=by
 unfold addText;split
 ·rename_i s nm al kk u b h;obtain ⟨ys,rfl⟩:=List.getLast?_eq_some_iff.1 h;rw[List.dropLast_concat,Nds.cnt_app,Nds.cnt_app,Zbp,Zbp,Nd.cnt,Nd.cnt];omega
 ·rw[Nds.cnt_app,Zbp];unfold charD;rw[Nd.cnt,Nds.cnt];omega
theorem Zmp (fin:Nat):∀f:Nat,(∀(d:Nat) (l:List Tok) (x:Nd) (r:List Tok),elemP fin f d l= .ok (x,r)->x.cnt+r.length<=l.length)/\
 (∀(d:Nat) (t:Tok) (ks:List Nd) (l:List Tok) (x:Nd) (r:List Tok),kidsP fin f d t ks l= .ok (x,r)->x.cnt+r.length<=1+Nds.cnt ks+l.length):=by
 intro f
 induction f with
 |zero=>exact ⟨λd l x r h=>(by rw[elemP] at h;cases h),λd t ks l x r h=>(by rw[kidsP] at h;cases h)⟩
 |succ f ih=>
  obtain ⟨H,A⟩:=ih;refine ⟨λd l x r h=> ?_,λd t ks l x r h=> ?_⟩
  ·cases l with
   |nil=>rw[elemP] at h;cases h
   |cons t l=>
    rw[elemP] at h;rw[Zd];split at h
    ·cases h
    ·split at h
     ·injection h with h;injection h with F D;subst F;subst D;rw[Nd.cnt,Nds.cnt];omega
     ·have:=A d t [] l x r h;rw[Nds.cnt] at this;omega
  ·cases l with
   |nil=>rw[kidsP] at h;cases h
   |cons u l=>
    rw[kidsP] at h;rw[Zd];split at h
    ·split at h
     ·cases h
     ·injection h with h;injection h with F D;subst F;subst D;rw[Nd.cnt];omega
    ·split at h
     ·split at h
      ·cases h
      ·rename_i k r' I;have F:=H _ _ _ _ I;have D:=A d t _ r' x r h;rw[Nds.cnt_app,Zbp] at D;rw[Zd] at F;omega
     ·have D:=A d t _ l x r h;have:=ZfW ks u.text u.at_;omega
theorem Zks:∀(f:Nat) (found:Option Nd) (l:List Tok) (x:Nd),docGo fin f found l= .ok x->(∀y,found=some y->y.cnt+l.length<=N)->l.length<=N->x.cnt<=N:=by
 intro f
 induction f with
 |zero=>exact λfound l x h _ _=>by rw[docGo] at h;cases h
 |succ f ih=>
  intro found l x h A I;cases l with
  |nil=>
   rw[J6] at h;cases found with
   |none=>cases h
   |some y=>injection h with h;rw[<-h];have:=A y rfl;rw[ZK] at this;omega
  |cons t r=>
   rw[Zd] at I A;rw[JE] at h;split at h
   ·cases h
   ·split at h
    ·cases h
    ·split at h
     ·split at h
      ·cases h
      ·exact ih found r x h (λy D=>by have:=A y D;omega) om
     ·split at h
      ·cases h
      ·rename_i y r' D;have F:=(Zmp fin _).1 _ _ _ _ D;rw[Zd] at F;exact ih (some y) r' x h (by intro z H;injection H with H;rw[<-H];omega) om
theorem Zmt {x:Nd} (h:docP s= .ok x):x.cnt<=s.length:=by
 rw[QB] at h;split at h
 ·cases h
 ·rename_i l A;have D:=(If A).len;have:=Zks (N:=l.length) _ none l x h (by intro y e;cases e) (Zc _);omega
mutual
theorem ZhJ:∀(n m:Nd) (sc:Scope),resP n sc= .ok m->m.cnt=n.cnt
 | .mk k s n al ks t a,m,sc,h=>by
  rw[resP] at h
  split at h
  ·cases h
  ·split at h
   ·cases h
   ·rename_i ks' hk
    have h2:=ZaX ks ks' _ hk
    injection h with h
    subst h
    rw[Nd.cnt,Nd.cnt,h2]
theorem ZaX:∀(ks r:List Nd) (sc:Scope),resKids ks sc= .ok r->Nds.cnt r=Nds.cnt ks
 | [],r,sc,h=>by
  rw[resKids] at h
  injection h with h
  subst h
  rfl
 |k::t,r,sc,h=>by
  rw[resKids] at h
  split at h
  ·cases h
  ·rename_i k' hk'
   split at h
   ·cases h
   ·rename_i t' ht'
    injection h with h
    subst h
    have h2:=ZaX t t' sc ht'
    have h1:k'.cnt=k.cnt:=by
     split at hk'
     ·exact ZhJ k k' sc hk'
     ·injection hk' with hk';rw[hk']
    rw[Nds.cnt,Nds.cnt,h1,h2]
end
theorem AtP.fits_mono {a b:Nat} (h:a<=b) {x:AtP} (A:x.fits a):x.fits b:=by
 unfold AtP.fits at*;omega
mutual
theorem Nd.fits_mono {a b:Nat} (h:a<=b):∀n:Nd,n.fits a->n.fits b
 | .mk k s nm al ks t at_,hn=>by
  rw[Nd.fits] at hn|-
  obtain ⟨h1,h2,h3,h4,h5,h6,h7,h8,h9⟩:=hn
  exact ⟨h1,by omega,by omega,by omega,λx hx=>AtP.fits_mono h (h5 x hx),by omega,by omega,by omega,Nds.fits_mono h ks h9⟩
theorem Nds.fits_mono {a b:Nat} (h:a<=b):∀l:List Nd,Nds.fits a l->Nds.fits b l
 | [],_=>by rw[Nds.fits];trivial
 |x::t,hn=>by
  rw[Nds.fits] at hn|-
  exact ⟨Nd.fits_mono h x hn.1,Nds.fits_mono h t hn.2⟩
end
def AtP.fd (n:Nat) (a:AtP):Prop:=a.space.length<=2*n/\a.name.length<=n/\a.value.length<=2*n
mutual
def Nd.fd (n:Nat):Nd->Prop
 | .mk k s nm al ks t a=>k<=1/\s.length<=2*n/\nm.length<=n/\al.length<=n/\(∀b∈al,b.fd n)/\ks.length<=n/\t.length<=2*n/\True/\Nds.fd n ks
def Nds.fd (n:Nat):List Nd->Prop
 | []=>True
 |x::t=>x.fd n/\Nds.fd n t
end
theorem Nds.fd_iff {n:Nat}:∀l:List Nd,Nds.fd n l↔∀x∈l,x.fd n
 | []=>by rw[Nds.fd];simp
 |x::t=>by rw[Nds.fd,Nds.fd_iff t];simp
mutual
theorem Nd.fits_fd {N:Nat}:∀n:Nd,n.fits N->n.fd N
 | .mk k s nm al ks t at_,hn=>by
  rw[Nd.fits] at hn
  rw[Nd.fd]
  obtain ⟨h1,h2,h3,h4,h5,h6,h7,h8,h9⟩:=hn
  exact ⟨h1,h2,h3,h4,λx hx=>⟨(h5 x hx).1,(h5 x hx).2.1,(h5 x hx).2.2.1⟩,h6,h7,trivial,Nds.fits_fd ks h9⟩
theorem Nds.fits_fd {N:Nat}:∀l:List Nd,Nds.fits N l->Nds.fd N l
 | [],_=>by rw[Nds.fd];trivial
 |x::t,hn=>by
  rw[Nds.fits] at hn
  rw[Nds.fd]
  exact ⟨Nd.fits_fd x hn.1,Nds.fits_fd t hn.2⟩
end
theorem Ef {m:Nd} (h:treeP s=some m):s.length<=5000/\m.fd 5000/\m.kind=0/\m.cnt<=5000:=by
 unfold treeP at h;split at h
 ·cases h
 ·rename_i Q;split at h
  ·cases h
  ·rename_i n D;split at h
   ·cases h
   ·rename_i r F;injection h with h;subst h;have H:=Eu D;have J:=Zmt D;have A:=ZeI (N:=5000) (by decide) n r [] F (Nd.fits_mono om n H.1) (by intro b I;cases I);have K:=ZhJ n r [] F;exact ⟨om,Nd.fits_fd _ A.1,A.2,om⟩
def moreF (out:List Fd):Except PErr (List Fd)->Except PErr (List Fd)
 | .ok m=> .ok (out++m)
 | .error x=> .error x
theorem ZjB {k:Nd} {t:List Nd} (h:isEl outlineL k=false):visKs (k::t) path=visKs t path:=by
 rw[visKs,Ze (by rw[h];simp)];dsimp only;cases visKs t path<;>rfl
theorem Eg (path:List ByteArray):∀ks:List Nd,visKs ks path=visKs (ks.filter (isEl outlineL)) path
 | []=>rfl
 |k::t=>by
  have ih:=Eg path t
  cases h:isEl outlineL k with
  |false=>rw[ZjB h,List.filter_cons_of_neg (by rw[h];simp),ih]
  |true=>rw[List.filter_cons_of_pos h,visKs,visKs,ih]
theorem Zcu {k:Nd} {t:List Nd} {id:List UInt8} (h:isEl outlineL k=true) (A:attrL k xmlUrlL=some id) (hc:coll id≠ []):moreF out (visKs (k::t) path)=moreF (out++ [opFd path k id]) (visKs t path):=by
 rw[visKs,Zi h];simp only[A,Ze hc];cases visKs t path with
 |error x=>rfl
 |ok m=>unfold moreF;simp
theorem Zls {k:Nd} {t:List Nd} {id:List UInt8} (h:isEl outlineL k=true) (A:attrL k xmlUrlL=some id) (hc:coll id= []):moreF out (visKs (k::t) path)= .error (k.at_,19):=by
 rw[visKs,Zi h];simp only[A,Zi hc];rfl
theorem Zhe {k:Nd} {t:List Nd} (h:isEl outlineL k=true) (A:attrL k xmlUrlL=none) (hc:coll (nameL k)= []):moreF out (visKs (k::t) path)= .error (k.at_,19):=by
 rw[visKs,Zi h];simp only[A,Zi hc];rfl
theorem Zi6 {k:Nd} {t:List Nd} (h:isEl outlineL k=true) (D:attrL k xmlUrlL=none) (hc:coll (nameL k)≠ []) (A:64<=path.length):moreF out (visKs (k::t) path)= .error (k.at_,9):=by
 rw[visKs,Zi h];simp only[D,Ze hc,Zi A];rfl
theorem Zep {k:Nd} {t:List Nd} (h:isEl outlineL k=true) (D:attrL k xmlUrlL=none) (hc:coll (nameL k)≠ []) (A:¬64<=path.length):
 moreF out (visKs (k::t) path)=match visP k (path++ [str (nameL k)]) with| .error x=> .error x| .ok l=>moreF (out++l) (visKs t path):=by
 rw[visKs,Zi h];simp only[D,Ze hc,Ze A];cases visP k (path++ [str (nameL k)]) with
 |error x=>rfl
 |ok l=>
  dsimp only;cases visKs t path with
  |error x=>rfl
  |ok m=>unfold moreF;simp
theorem Zlt (out:List Fd) (path:List ByteArray):moreF out (visKs [] path)= .ok out:=by rw[visKs];unfold moreF;simp
theorem VN (r:Except PErr (List Fd)):moreF [] r=r:=by cases r<;>rfl
structure opOk (N:Nat) (f:Fd):Prop where
 len:f.path.length<=64
 path:∀s∈f.path,s.size<=2*N
 id:f.id.size<=2*N
 title:f.title.size<=2*N
 link:f.link.size<=2*N
 upd:f.upd= -62135596800
 ents:f.ents= []
theorem Zik {al:List AtP} (h:∀b∈al,b.fd N) {v:List UInt8} (A:attrIn al nm=some v):v.length<=2*N:=by
 unfold attrIn at A;cases hf:al.find? (λa=>a.space== [] && a.name==nm) with
 |none=>rw[hf] at A;cases A
 |some a=>rw[hf] at A;injection A with A;rw[<-A];exact (h a (List.mem_of_find?_eq_some hf)).2.2
theorem GW {n:Nd} (h:n.fd N) {v:List UInt8} (A:attrL n nm=some v):v.length<=2*N:=by
 obtain ⟨k,s,m,al,ks,t,a⟩:=n;rw[Nd.fd] at h;exact Zik h.2.2.2.2.1 A
theorem ZgD {n:Nd} (h:n.fd N) (nm:List UInt8):((attrL n nm).getD []).length<=2*N:=by
 cases hv:attrL n nm with
 |none=>exact Zj _
 |some v=>exact GW h hv
theorem EK {n:Nd} (h:n.fd N):(nameL n).length<=2*N:=by
 unfold nameL;split
 ·rename_i v A;exact GW h A
 ·exact ZgD h titleL
theorem ZoK {n:Nd} (h:n.fd N) (D:path.length<=64) (F:∀s∈path,s.size<=2*N) {id:List UInt8} (A:attrL n xmlUrlL=some id):opOk N (opFd path n id):=by
 refine ⟨D,F,?_,?_,?_,rfl,rfl⟩
 ·show (str id).size<=_;rw[YN];exact GW h A
 ·show (str _).size<=_;rw[YN];exact EK h
 ·show (str _).size<=_;rw[YN];exact ZgD h _
mutual
theorem Zj6 (N:Nat):∀(n:Nd) (path:List ByteArray) (l:List Fd),visP n path= .ok l->n.fd N->path.length<=64->(∀s∈path,s.size<=2*N)->l.length<=n.cnt/\∀f∈l,opOk N f
 | .mk k s nm al ks t a,path,l,h,hn,hp,hs=>by
  rw[visP] at h
  rw[Nd.fd] at hn
  have h1:=Zh3 N ks path l h hn.2.2.2.2.2.2.2.2 hp hs
  rw[Nd.cnt]
  exact ⟨by omega,h1.2⟩
theorem Zh3 (N:Nat):∀(ks:List Nd) (path:List ByteArray) (l:List Fd),visKs ks path= .ok l->Nds.fd N ks->path.length<=64->(∀s∈path,s.size<=2*N)->l.length<=Nds.cnt ks/\∀f∈l,opOk N f
 | [],path,l,h,_,_,_=>by
  rw[visKs] at h
  injection h with h
  subst h
  exact ⟨Zj _,by intro f hf;cases hf⟩
 |k::t,path,l,h,hk,hp,hs=>by
  rw[visKs] at h
  rw[Nds.fd] at hk
  split at h
  ·cases h
  ·rename_i l1 h1
   split at h
   ·cases h
   ·rename_i l2 h2
    injection h with h
    subst h
    have q2:=Zh3 N t path l2 h2 hk.2 hp hs
    have q1:l1.length<=k.cnt/\∀f∈l1,opOk N f:=by
     split at h1
     ·split at h1
      ·rename_i id hid
       split at h1
       ·cases h1
       ·injection h1 with h1
        subst h1
        refine ⟨Ze6 k,λf hf=> ?_⟩
        rw[Zo.1 hf]
        exact ZoK hk.1 hp hs hid
      ·split at h1
       ·cases h1
       ·split at h1
        ·cases h1
        ·rename_i h64
         refine Zj6 N k _ l1 h1 hk.1 (by rw[Zb];show _+1<=_;omega) λu hu=> ?_
         rcases Zs.1 hu with hu|hu
         ·exact hs u hu
         ·rw[Zo.1 hu,YN]
          exact EK hk.1
     ·injection h1 with h1
      subst h1
      exact ⟨Zj _,by intro f hf;cases hf⟩
    rw[Nds.cnt,Zb]
    refine ⟨by omega,λf hf=> ?_⟩
    rcases Zs.1 hf with hf|hf
    ·exact q1.2 f hf
    ·exact q2.2 f hf
end
mutual
theorem Zc1 {x c:Nat}:∀(n:Nd) (path:List ByteArray),visP n path= .error (x,c)->c≠0
 | .mk k s nm al ks t a,path,h=>by
  rw[visP] at h
  exact ZeR ks path h
theorem ZeR {x c:Nat}:∀(ks:List Nd) (path:List ByteArray),visKs ks path= .error (x,c)->c≠0
 | [],path,h=>by rw[visKs] at h;cases h
 |k::t,path,h=>by
  rw[visKs] at h
  split at h
  ·rename_i y hy
   injection h with h
   subst h
   split at hy
   ·split at hy
    ·split at hy
     ·injection hy with hy;injection hy with _ hy;omega
     ·cases hy
    ·split at hy
     ·injection hy with hy;injection hy with _ hy;omega
     ·split at hy
      ·injection hy with hy;injection hy with _ hy;omega
      ·exact Zc1 k _ hy
   ·cases hy
  ·split at h
   ·rename_i y hy
    injection h with h
    subst h
    exact ZeR t path hy
   ·cases h
end
end
def wescB (v:Bool) (c:UInt8):List UInt8:=
 if c=38 then [38,97,109,112,59] else if c=60 then [38,108,116,59] else if c=62 then [38,103,116,59] else if c=13 then [38,35,49,51,59]
 else if v=false then [] else if c=34 then [38,113,117,111,116,59] else if c=9 then [38,35,57,59] else if c=10 then [38,35,49,48,59] else []
def wescC (v:Bool) (c:UInt8):List UInt8:=if wescB v c= [] then [c] else wescB v c
def wescL (v:Bool):List UInt8->List UInt8
 | []=> []
 |c::t=>wescC v c++wescL v t
def attrW (a:AtP):List UInt8:= [32]++a.name++ [61,34]++wescL true a.value++ [34]
def attrsW:List AtP->List UInt8
 | []=> []
 |a::t=>attrW a++attrsW t
mutual
def nodeW:Nd->List UInt8
 | .mk k _ n al ks t _=>if k=1 then wescL false t else [60]++n++attrsW al++(if ks.isEmpty then [47,62] else [62]++nodesW ks++ [60,47]++n++ [62])
def nodesW:List Nd->List UInt8
 | []=> []
 |x::t=>nodeW x++nodesW t
end
def headW:List UInt8:= [60,63,120,109,108,32,118,101,114,115,105,111,110,61,34,49,46,48,34,32,101,110,99,111,100,105,110,103,61,34,85,84,70,45,56,34,63,62,10]
def charsOk (l:List UInt8):Bool:=decide ((check l).2=0)
def attrsOk:List AtP->List (List UInt8)->Bool
 | [],_=>true
 |a::t,seen=>a.space.isEmpty && !(seen.contains a.name) && isQ a.name && charsOk a.value && attrsOk t (seen++ [a.name])
mutual
def nodeOk:Nat->Nd->Bool
 |d,.mk k s n al ks t _=>decide (k=0) && decide (d<=100) && s.isEmpty && t.isEmpty && isQ n && attrsOk al [] && kidsOk d false ks
def kidsOk:Nat->Bool->List Nd->Bool
 |_,_,[]=>true
 |d,data,k::t=>(if k.kind=1 then !data && !k.text.isEmpty && charsOk k.text && k.space.isEmpty && k.name.isEmpty && k.attrs.isEmpty && k.kids.isEmpty else nodeOk (d+1) k) && kidsOk d (decide (k.kind=1)) t
end
def docW (n:Nd):List UInt8:=headW++nodeW n++ [10]
def pairA (p:List UInt8×List UInt8):AtP:=⟨[],p.1,p.2,0⟩
def withP:Nd->List (List UInt8×List UInt8)->Nd
 | .mk k s n al ks t a,ps=> .mk k s n (al++ps.map pairA) ks t a
def elemN (n:List UInt8) (ks:List Nd):Nd:= .mk 0 [] n [] (ks.filter λk=> !(decide (k.kind=1) && k.text.isEmpty)) [] 0
def typeL:List UInt8:= [116,121,112,101]
def rssL:List UInt8:= [114,115,115]
def headL:List UInt8:= [104,101,97,100]
def lst (s:ByteArray):List UInt8:=s.data.toList
def feedN (f:Fd):Nd:=
 let n:=withP (elemN outlineL []) [(typeL,rssL),(textL,lst f.title),(xmlUrlL,lst f.id)]
 if f.link.size=0 then n else withP n [(htmlUrlL,lst f.link)]
def pathAt (f:Fd) (d:Nat):ByteArray:=f.path.getD d (str [])
def foldsP (rec:List Fd->List Nd) (d:Nat):Nat->List Fd->List Nd
 |0,_=> []
 |_+1,[]=> []
 |f+1,x::t=>
  let n:=((x::t).takeWhile λy=>decide (pathAt y d=pathAt x d)).length
  withP (elemN outlineL (rec ((x::t).take n))) [(textL,lst (pathAt x d))]::foldsP rec d f ((x::t).drop n)
def outsP:Nat->Nat->List Fd->List Nd
 |0,_,_=> []
 |f+1,d,l=>(l.takeWhile λx=>decide (x.path.length=d)).map feedN++foldsP (outsP f (d+1)) d (l.length+1) (l.drop (l.takeWhile λx=>decide (x.path.length=d)).length)
def encP (l:List Fd):Nd:=withP (elemN opmlL [elemN headL [],elemN bodyL (outsP 66 0 l)]) [(versionL,twoL)]
section
variable {c m n:Nat} {v:Value} {w:World} {α:Type}
theorem Zd2 (l:List Fc) (n:Nat):flatC l=flatC (l.take n)++flatC (l.drop n):=by rw[<-Zd1,Yz]
def hiV (n:Nat):Value->Value
 | .slice A _ c=> .slice (if c=0 then A else A.map (·.add (0*6))) n c
 |v=>v
def loV (n:Nat):Value->Value
 | .slice A m c=> .slice (if c=n then A else A.map (·.add (n*6))) (m - n) (c - n)
 |v=>v
theorem Zpz {A:Option Addr} (D:n<=c) (h:Wq):(Instr.slice 29 (.slice A m c) none (some (nI (n:Int))) none).run prog h= .ok (hiV n (.slice A m c)) h:=by
 rw[run_slice_h (P:=prog) (w:=h) 29 A m c Zah .i64 (n:Int) om om,ZcL];show Result.ok (sliced A 0 ((n:Int).toNat) c 6) h=_;rw[Int.toNat_natCast];rfl
theorem Zju {A:Option Addr} (D:n<=m) (h:Wq):(Instr.slice 29 (.slice A m c) (some (nI (n:Int))) none none).run prog h= .ok (loV n (.slice A m c)) h:=by
 rw[run_slice_l (P:=prog) (w:=h) 29 A m c Zah .i64 (n:Int) om om,ZcL];show Result.ok (sliced A ((n:Int).toNat) m c 6) h=_;rw[Int.toNat_natCast];rfl
theorem ZnD {l:List Fc} (n:Nat) (h:RFcs w v l) (V:n<=l.length):RFcs w (hiV n v) (l.take n):=by
 obtain ⟨S,A,c,rfl,U,I,J,K⟩:=h;have F:(l.take n).length=n:=by rw[ZM];omega
 unfold RFcs;rw[F];refine ⟨by rw[Ve,F],_,c,rfl,om,I,λe=> ?_,λj u H=> ?_⟩
 ·by_cases D:c=0
  ·exact D
  ·rw[Ze D] at e;exact J (by simpa using e)
 ·have R:(flatC l)[j]? =some u:=by rw[Zd2 l n,Xg (ZR.1 H).1];exact H
  obtain ⟨ad,Q,hc⟩:=K j u R;subst Q;refine ⟨ad,?_,hc⟩;by_cases D:c=0
  ·rw[Zi D]
  ·rw[Ze D];show some (ad.add (0*6))=some ad;rw[Xj,add_zero]
theorem I0 {l:List Fc} (n:Nat) (h:RFcs w v l) (Y:n<=l.length):RFcs w (loV n v) (l.drop n):=by
 obtain ⟨V,A,c,rfl,X,K,Q,R⟩:=h;have D:(l.drop n).length=l.length - n:=Zk;unfold RFcs;rw[D];refine ⟨by rw[Ve,D],_,c - n,rfl,om,Zp (Jz _ _) K,λe=> ?_,λj u J=> ?_⟩
 ·by_cases F:c=n
  ·omega
  ·rw[Ze F] at e;have:=Q (by simpa using e);omega
 ·have H:j<(flatC (l.drop n)).length:=(ZR.1 J).1;rw[Ve,D] at H;have I:(flatC (l.take n)).length=n*6:=by rw[Ve,ZM];congr 1;omega
  have U:(flatC l)[n*6+j]? =some u:=by rw[Zd2 l n,Yt om,I,show n*6+j - n*6=j by omega];exact J
  obtain ⟨ad,S,hc⟩:=R _ u U;subst S;have F:c≠n:=om
  refine ⟨ad.add (n*6),?_,?_⟩
  ·rw[Ze F];rfl
  ·rw[Qa];exact hc
def runN (d:Nat):List Fd->Nat
 | []=>0
 |x::t=>((x::t).takeWhile λy=>decide (pathAt y d=pathAt x d)).length
theorem ZcM (d:Nat) (x:Fd) (t:List Fd):0<runN d (x::t):=by
 show 0<((x::t).takeWhile λy=>decide (pathAt y d=pathAt x d)).length;rw[Yi,Zi (by simp)];exact Zig _
theorem ZoR (d:Nat) (l:List Fd):runN d l<=l.length:=by
 cases l with
 |nil=>exact Zc _
 |cons x t=>exact List.Sublist.length_le (YE _)
structure Grp where
 name:ByteArray
 v:Value
 l:List Fc
def grps (d:Nat):Nat->Value->List Fc->List Grp
 |0,_,_=> []
 |_+1,_,[]=> []
 |f+1,v,x::t=>⟨pathAt x.f d,hiV (runN d ((x::t).map Fc.f)) v,(x::t).take (runN d ((x::t).map Fc.f))⟩::grps d f (loV (runN d ((x::t).map Fc.f)) v) ((x::t).drop (runN d ((x::t).map Fc.f)))
theorem ZgJ {w:Wq} {d:Nat}:∀(f:Nat) (v:Value) (l:List Fc),RFcs w v l->∀g∈grps d f v l,RFcs w g.v g.l/\g.l≠ []/\∀y∈g.l,y∈l
 |0,_,_,_,g,A=>by cases A
 |_+1,_,[],_,g,A=>by cases A
 |f+1,v,x::t,h,g,A=>by
  have D:runN d ((x::t).map Fc.f)<=(x::t).length:=by have:=ZoR d ((x::t).map Fc.f);rwa [Zq] at this
  have H:0<runN d ((x::t).map Fc.f):=ZcM d x.f (t.map Fc.f)
  rw[grps] at A
  rcases ZH.1 A with rfl|A
  ·refine ⟨ZnD _ h D,?_,λy F=>Y4 F⟩
   intro e
   have:=Zz List.length e
   rw[ZM] at this
   simp only[Zd,ZK] at this D
   omega
  ·obtain ⟨I,J,K⟩:=ZgJ f _ _ (I0 _ h D) g A
   exact ⟨I,J,λy F=>Yq (K y F)⟩
theorem Zcc (rec:List Fd->List Nd) (d:Nat):∀(f:Nat) (v:Value) (l:List Fc),foldsP rec d f (l.map Fc.f)=(grps d f v l).map λg=>withP (elemN outlineL (rec (g.l.map Fc.f))) [(textL,lst g.name)]
 |0,_,_=>rfl
 |_+1,_,[]=>rfl
 |f+1,v,x::t=>by
  have ih:=Zcc rec d f (loV (runN d ((x::t).map Fc.f)) v) ((x::t).drop (runN d ((x::t).map Fc.f)))
  rw[List.map_drop] at ih
  rw[grps,Zw (f:=λg:Grp=>_),<-ih,Zw,foldsP]
  show _::_=_::_
  rw[List.map_take]
  rfl
theorem Zi5 {s xs:List α} {x:α} (h:(s++ [x])<+:xs):x∈xs:=h.subset (List.mem_append_right _ Zx)
end
theorem ZcI (s t:ByteArray) (k:Nat) (w:Wq) (H:s.size<=maxLen) (F:k<=maxLen) (J:t.size<=maxLen) (Q:0<t.size):
 Calls prog 98 #[.string s,nI (k:Nat),.string t] w λe w'=>e= .returned (.bool (hasAt s.data.toList k t.data.toList))/\w'=w:=by
 unfold maxLen at H F J;by_cases h:k+t.size<=s.size
 ·have A:(t.size:Int)<=(s.size:Int) - (k:Int):=om
  have D:(0:Int)<=(k:Int):=om
  have I:=λK=>ZhO s k t.size (t.size:Int) rfl h K;go_enter func98,ntmps98;go_wp2;go_ret;refine ⟨?_,rfl⟩;rw[ZgK,<-ZN t,<-XK,ZN,<-QT];rfl
 ·have A:¬(t.size:Int)<=(s.size:Int) - (k:Int):=om
  have D:(0:Int)<=(k:Int):=om
  have e:hasAt s.data.toList k t.data.toList=false:=Zcd (by rw[ZN,ZN];omega) (λe=>by have:=Zz List.length e;rw[ZN,ZK] at this;omega);rw[e];go_enter func98,ntmps98;go_wp2;go_ret;exact ⟨rfl,rfl⟩
theorem UH (s:ByteArray) (k:Nat) (w:Wq) (X:s.size<=80000000000) (U:k<=s.size):
 Calls prog 183 #[.string s,nI (k:Nat)] w λe w'=>e= .returned (nI (spAt s.data.toList k:Nat))/\w'=w:=by
 obtain ⟨R,I⟩:∃R,spAt s.data.toList k=R:=⟨_,rfl⟩;rw[I];go_enter func183,ntmps183;go_wp2;go_loopw [1] (λv wr=>∃j:Nat,j<=s.size/\v=nI j/\Hid (spAt s.data.toList j=R)/\wr=w) (λv _=>s.size - (intOf v).toNat)
 case atStart=>exact ⟨k,U,rfl,gd I,rfl⟩
 case round=>
  obtain ⟨j,V,rfl,A,rfl⟩:=hrel;by_cases D:j<s.size
  ·have Q:(0:Int)<=(j:Int):=om;have S:(j:Int)<(s.size:Int):=om;have J:j<s.data.toList.length:=(by rw[ZN];exact D);have F:s.data.toList[j]=s[j]:=(by rfl);cases hsp:isSp (s[j].toNat) with
   |true=>
    have K:=gd ((Zl2 J (by rw[F];exact hsp)).symm.trans A.out);clear A
    go_wp2_with (first|(go_at_call 100;refine Za (Y7 _ _) ?_;rintro e w2 ⟨rfl,rfl⟩))
    go_roundw
    case rel=>exact ⟨j+1,D,by go_num,K,by trivial⟩
    case measure=>simp[intOf];omega
   |false=>
    have h:=(Zl3 J (by rw[F];exact hsp)).symm.trans A.out;subst h;clear A
    go_wp2_with (first|(go_at_call 100;refine Za (Y7 _ _) ?_;rintro e w2 ⟨rfl,rfl⟩))
    go_ret;exact ⟨rfl,rfl⟩
  ·have H:j=s.size:=om;have h:=(ZnN (s:=s.data.toList) (k:=j) (by rw[ZN];omega)).symm.trans A.out;subst h;clear A;subst H;go_wp2;go_ret;exact ⟨rfl,rfl⟩
theorem ZhF (s t:ByteArray) (k:Nat) (w:Wq) (X:s.size<=80000000000) (S:k<=s.size) (Y:t.size<=80000000000) (Q:0<t.size):
 Calls prog 145 #[.string s,nI (k:Nat),.string t] w λe w'=>e= .returned (nI (match findAt s.data.toList k t.data.toList with|some i=>(i:Int)|none=> -1))/\w'=w:=by
 obtain ⟨R,I⟩:∃R,findAt s.data.toList k t.data.toList=R:=⟨_,rfl⟩;rw[I];have D:t.data.toList≠ []:=λe=>by have:=Zz List.length e;rw[ZN,ZK] at this;omega
 go_enter func145,ntmps145;go_wp2;go_loopw [7] (λv wr=>∃j:Nat,j<=s.size/\v=nI j/\Hid (findAt s.data.toList j t.data.toList=R)/\wr=w) (λv _=>s.size - (intOf v).toNat)
 case atStart=>exact ⟨k,S,rfl,gd I,rfl⟩
 case round=>
  obtain ⟨j,V,rfl,A,rfl⟩:=hrel;by_cases U:j+t.size<=s.size
  ·have H:(j:Int)<=(s.size:Int) - (t.size:Int):=om;have J:j<s.data.toList.length:=(by rw[ZN];omega);have F:=gd (λw'=>ZcI s t j w' (by unfold maxLen;omega) (by unfold maxLen;omega) (by unfold maxLen;omega) Q);cases hh:hasAt s.data.toList j t.data.toList with
   |true=>
    have h:=(ZiH J hh).symm.trans A.out;subst h;rw[hh] at F;clear A
    go_wp2_with (first|(go_at_call 98;refine Za (F.out _) ?_;rintro e w2 ⟨rfl,rfl⟩))
    go_ret;exact ⟨rfl,rfl⟩
   |false=>
    have K:=gd ((ZaH J hh).symm.trans A.out);rw[hh] at F;clear A
    go_wp2_with (first|(go_at_call 98;refine Za (F.out _) ?_;rintro e w2 ⟨rfl,rfl⟩))
    go_roundw
    case rel=>exact ⟨j+1,om,by go_num,K,by trivial⟩
    case measure=>simp[intOf];omega
  ·have H:¬(j:Int)<=(s.size:Int) - (t.size:Int):=om;have h:=(ZiG (s:=s.data.toList) (k:=j) D (by rw[ZN,ZN];omega)).symm.trans A.out;subst h;clear A;go_wp2;go_ret;exact ⟨rfl,rfl⟩
section
variable {P:Program} {a:Act} {w:World}
def toldR (R:Act->Wq->Prop):Exit->Act->Wq->Prop
 | .normal,a',w'=>R a' w'
 |_,_,_=>False
theorem GU {c:Code} {Q:Exit->Act->Wq->Prop} (R:Act->Wq->Prop) (A:∀a' w',R a' w'->Q .normal a' w') (D:c.wp P (toldR R) a w):c.wp P Q a w:=
 Code.wp_mono (λe a' w' h=>by cases e<;>first|exact A a' w' h|exact h.elim) D
end
def nmA (r:Nat):Bool:=decide ((65<=r/\r<=90)\/(97<=r/\r<=122)\/r=95)
def nmB (r:Nat):Bool:=decide ((192<=r/\r<=767/\r≠215/\r≠247)\/(880<=r/\r<=8191/\r≠894))
def nmC (r:Nat):Bool:=decide (r=8204\/r=8205\/(8304<=r/\r<=8591)\/(11264<=r/\r<=12271)\/(12289<=r/\r<=55295))
def nmD (r:Nat):Bool:=decide ((63744<=r/\r<=64975)\/(65008<=r/\r<=65533)\/(65536<=r/\r<=983039))
theorem Zne (r:Nat):nmStart r=(nmA r||nmB r||nmC r||nmD r):=rfl
def nmT1 (r:Nat) (w:Wq) (a':Act) (w':Wq):Prop:=∃v u7 u8 u9 u10 u11 u12 u13 u14 u15 u16 u17 u18 u19 u20 u21 u22 u23 u24:Value,v= .bool (nmA r)/\a'={tmps:=#[nI (r:Nat),undef,.bool false,v,undef,undef,undef,u7,u8,u9,u10,u11,u12,u13,u14,u15,u16,u17,u18,u19,u20,u21,u22,u23,u24,undef,undef,undef,undef,undef,undef,undef,undef,undef,undef,undef,undef,undef,undef,undef,undef,undef,undef,undef,undef,undef,undef,undef,undef,undef,undef,undef,undef,undef,undef,undef,undef,undef,undef,undef,undef,undef,undef,undef,undef,undef,undef,undef,undef,undef,undef,undef,undef,undef,undef,undef,undef,undef,undef,undef,undef,undef,undef,undef,undef,undef,undef,undef,undef,undef,undef,undef,undef,undef,undef,undef,undef,undef,undef,undef,undef,undef,undef,undef,undef,undef,undef,undef,undef,undef,undef,undef,undef],defers:= []}/\w=w'
def nmT2 (r:Nat) (u7 u8 u9 u10 u11 u12 u13 u14 u15 u16 u17 u18 u19 u20 u21 u22 u23 u24:Value) (w:Wq) (a':Act) (w':Wq):Prop:=∃v u25 u26 u27 u28 u29 u30 u31 u32 u33 u34 u35 u36 u37 u38 u39 u40 u41 u42 u43 u44 u45 u46 u47 u48 u49 u50:Value,v= .bool (nmB r)/\a'={tmps:=#[nI (r:Nat),undef,.bool false,.bool (nmA r),v,undef,undef,u7,u8,u9,u10,u11,u12,u13,u14,u15,u16,u17,u18,u19,u20,u21,u22,u23,u24,u25,u26,u27,u28,u29,u30,u31,u32,u33,u34,u35,u36,u37,u38,u39,u40,u41,u42,u43,u44,u45,u46,u47,u48,u49,u50,undef,undef,undef,undef,undef,undef,undef,undef,undef,undef,undef,undef,undef,undef,undef,undef,undef,undef,undef,undef,undef,undef,undef,undef,undef,undef,undef,undef,undef,undef,undef,undef,undef,undef,undef,undef,undef,undef,undef,undef,undef,undef,undef,undef,undef,undef,undef,undef,undef,undef,undef,undef,undef,undef,undef,undef,undef,undef,undef,undef,undef,undef],defers:= []}/\w=w'
def nmT3 (r:Nat) (u7 u8 u9 u10 u11 u12 u13 u14 u15 u16 u17 u18 u19 u20 u21 u22 u23 u24 u25 u26 u27 u28 u29 u30 u31 u32 u33 u34 u35 u36 u37 u38 u39 u40 u41 u42 u43 u44 u45 u46 u47 u48 u49 u50:Value) (w:Wq) (a':Act) (w':Wq):Prop:=∃v u51 u52 u53 u54 u55 u56 u57 u58 u59 u60 u61 u62 u63 u64 u65 u66 u67 u68 u69 u70 u71 u72 u73 u74 u75 u76 u77 u78 u79 u80:Value,v= .bool (nmC r)/\a'={tmps:=#[nI (r:Nat),undef,.bool false,.bool (nmA r),.bool (nmB r),v,undef,u7,u8,u9,u10,u11,u12,u13,u14,u15,u16,u17,u18,u19,u20,u21,u22,u23,u24,u25,u26,u27,u28,u29,u30,u31,u32,u33,u34,u35,u36,u37,u38,u39,u40,u41,u42,u43,u44,u45,u46,u47,u48,u49,u50,u51,u52,u53,u54,u55,u56,u57,u58,u59,u60,u61,u62,u63,u64,u65,u66,u67,u68,u69,u70,u71,u72,u73,u74,u75,u76,u77,u78,u79,u80,undef,undef,undef,undef,undef,undef,undef,undef,undef,undef,undef,undef,undef,undef,undef,undef,undef,undef,undef,undef,undef,undef,undef,undef,undef,undef,undef,undef,undef,undef,undef,undef],defers:= []}/\w=w'
def nmT4 (r:Nat) (u7 u8 u9 u10 u11 u12 u13 u14 u15 u16 u17 u18 u19 u20 u21 u22 u23 u24 u25 u26 u27 u28 u29 u30 u31 u32 u33 u34 u35 u36 u37 u38 u39 u40 u41 u42 u43 u44 u45 u46 u47 u48 u49 u50 u51 u52 u53 u54 u55 u56 u57 u58 u59 u60 u61 u62 u63 u64 u65 u66 u67 u68 u69 u70 u71 u72 u73 u74 u75 u76 u77 u78 u79 u80:Value) (w:Wq) (a':Act) (w':Wq):Prop:=∃v u81 u82 u83 u84 u85 u86 u87 u88 u89 u90 u91 u92 u93 u94 u95 u96 u97 u98 u99 u100 u101 u102:Value,v= .bool (nmD r)/\a'={tmps:=#[nI (r:Nat),undef,.bool false,.bool (nmA r),.bool (nmB r),.bool (nmC r),v,u7,u8,u9,u10,u11,u12,u13,u14,u15,u16,u17,u18,u19,u20,u21,u22,u23,u24,u25,u26,u27,u28,u29,u30,u31,u32,u33,u34,u35,u36,u37,u38,u39,u40,u41,u42,u43,u44,u45,u46,u47,u48,u49,u50,u51,u52,u53,u54,u55,u56,u57,u58,u59,u60,u61,u62,u63,u64,u65,u66,u67,u68,u69,u70,u71,u72,u73,u74,u75,u76,u77,u78,u79,u80,u81,u82,u83,u84,u85,u86,u87,u88,u89,u90,u91,u92,u93,u94,u95,u96,u97,u98,u99,u100,u101,u102,undef,undef,undef,undef,undef,undef,undef,undef,undef,undef],defers:= []}/\w=w'
theorem Uw (r:Nat) (w:Wq):Calls prog 213 #[nI (r:Nat)] w λe w'=>e= .returned (.bool (nmStart r))/\w'=w:=by
 rw[Zne];go_enter func213,ntmps213;refine wp_seq ?_;refine GU (λa' w'=>a'={tmps:=#[nI (r:Nat),undef,.bool false,undef,undef,undef,undef,undef,undef,undef,undef,undef,undef,undef,undef,undef,undef,undef,undef,undef,undef,undef,undef,undef,undef,undef,undef,undef,undef,undef,undef,undef,undef,undef,undef,undef,undef,undef,undef,undef,undef,undef,undef,undef,undef,undef,undef,undef,undef,undef,undef,undef,undef,undef,undef,undef,undef,undef,undef,undef,undef,undef,undef,undef,undef,undef,undef,undef,undef,undef,undef,undef,undef,undef,undef,undef,undef,undef,undef,undef,undef,undef,undef,undef,undef,undef,undef,undef,undef,undef,undef,undef,undef,undef,undef,undef,undef,undef,undef,undef,undef,undef,undef,undef,undef,undef,undef,undef,undef,undef,undef,undef,undef],defers:= []}/\w=w') ?_ (by go_wp2;exact ⟨rfl,rfl⟩);rintro _ _ ⟨rfl,rfl⟩;refine wp_seq ?_;refine GU (λa' w'=>nmT1 r w a' w') ?_ ?_
 case refine_2=>
  go_wp2
  all_goals try (first|((have h:r=95:=om);subst h)|((have h:r=215:=om);subst h)|((have h:r=247:=om);subst h)|((have h:r=894:=om);subst h)|((have h:r=8204:=om);subst h)|((have h:r=8205:=om);subst h))
  all_goals (refine ⟨_,_,_,_,_,_,_,_,_,_,_,_,_,_,_,_,_,_,_,?_,rfl,rfl⟩)
  all_goals (refine Zz Value.bool (Y2.2 ?_);unfold nmA;simp at* <;>omega)
 intro a' w' A;obtain ⟨_,u7,u8,u9,u10,u11,u12,u13,u14,u15,u16,u17,u18,u19,u20,u21,u22,u23,u24,rfl,rfl,rfl⟩:=A;refine wp_seq ?_;refine GU (λa' w'=>nmT2 r u7 u8 u9 u10 u11 u12 u13 u14 u15 u16 u17 u18 u19 u20 u21 u22 u23 u24 w a' w') ?_ ?_
 case refine_2=>
  go_wp2
  all_goals try (first|((have h:r=95:=om);subst h)|((have h:r=215:=om);subst h)|((have h:r=247:=om);subst h)|((have h:r=894:=om);subst h)|((have h:r=8204:=om);subst h)|((have h:r=8205:=om);subst h))
  all_goals (refine ⟨_,_,_,_,_,_,_,_,_,_,_,_,_,_,_,_,_,_,_,_,_,_,_,_,_,_,_,?_,rfl,rfl⟩)
  all_goals (refine Zz Value.bool (Y2.2 ?_);unfold nmB;simp at* <;>omega)
 intro a' w' A;obtain ⟨_,u25,u26,u27,u28,u29,u30,u31,u32,u33,u34,u35,u36,u37,u38,u39,u40,u41,u42,u43,u44,u45,u46,u47,u48,u49,u50,rfl,rfl,rfl⟩:=A;refine wp_seq ?_;refine GU (λa' w'=>nmT3 r u7 u8 u9 u10 u11 u12 u13 u14 u15 u16 u17 u18 u19 u20 u21 u22 u23 u24 u25 u26 u27 u28 u29 u30 u31 u32 u33 u34 u35 u36 u37 u38 u39 u40 u41 u42 u43 u44 u45 u46 u47 u48 u49 u50 w a' w') ?_ ?_
 case refine_2=>
  go_wp2
  all_goals try (first|((have h:r=95:=om);subst h)|((have h:r=215:=om);subst h)|((have h:r=247:=om);subst h)|((have h:r=894:=om);subst h)|((have h:r=8204:=om);subst h)|((have h:r=8205:=om);subst h))
  all_goals (refine ⟨_,_,_,_,_,_,_,_,_,_,_,_,_,_,_,_,_,_,_,_,_,_,_,_,_,_,_,_,_,_,_,?_,rfl,rfl⟩)
  all_goals (refine Zz Value.bool (Y2.2 ?_);unfold nmC;simp at* <;>omega)
 intro a' w' A;obtain ⟨_,u51,u52,u53,u54,u55,u56,u57,u58,u59,u60,u61,u62,u63,u64,u65,u66,u67,u68,u69,u70,u71,u72,u73,u74,u75,u76,u77,u78,u79,u80,rfl,rfl,rfl⟩:=A;refine wp_seq ?_;refine GU (λa' w'=>nmT4 r u7 u8 u9 u10 u11 u12 u13 u14 u15 u16 u17 u18 u19 u20 u21 u22 u23 u24 u25 u26 u27 u28 u29 u30 u31 u32 u33 u34 u35 u36 u37 u38 u39 u40 u41 u42 u43 u44 u45 u46 u47 u48 u49 u50 u51 u52 u53 u54 u55 u56 u57 u58 u59 u60 u61 u62 u63 u64 u65 u66 u67 u68 u69 u70 u71 u72 u73 u74 u75 u76 u77 u78 u79 u80 w a' w') ?_ ?_
 case refine_2=>
  go_wp2
  all_goals try (first|((have h:r=95:=om);subst h)|((have h:r=215:=om);subst h)|((have h:r=247:=om);subst h)|((have h:r=894:=om);subst h)|((have h:r=8204:=om);subst h)|((have h:r=8205:=om);subst h))
  all_goals (refine ⟨_,_,_,_,_,_,_,_,_,_,_,_,_,_,_,_,_,_,_,_,_,_,_,?_,rfl,rfl⟩)
  all_goals (refine Zz Value.bool (Y2.2 ?_);unfold nmD;simp at* <;>omega)
 intro a' w' A;obtain ⟨_,u81,u82,u83,u84,u85,u86,u87,u88,u89,u90,u91,u92,u93,u94,u95,u96,u97,u98,u99,u100,u101,u102,rfl,rfl,rfl⟩:=A;cases nmA r<;>cases nmB r<;>cases nmC r<;>cases nmD r
 all_goals (go_wp2;go_ret;exact ⟨rfl,rfl⟩)
section
variable {k r:Nat} {l:List UInt8}
theorem Ga (r:Nat) (w:Wq):Calls prog 212 #[nI (r:Nat)] w λe w'=>e= .returned (.bool (nmChar r))/\w'=w:=by
 have h:=gd (Uw r w);unfold nmChar;cases hs:nmStart r with
 |true=>
  rw[hs] at h;rw[Bool.true_or];clear hs;go_enter func212,ntmps212
  go_wp2_with (first|(go_at_call 213;refine Za h.out ?_;rintro e w2 ⟨rfl,rfl⟩))
  go_ret;exact ⟨rfl,rfl⟩
 |false=>
  rw[hs] at h;rw[Bool.false_or];clear hs;go_enter func212,ntmps212
  go_wp2_with (first|(go_at_call 213;refine Za h.out ?_;rintro e w2 ⟨rfl,rfl⟩))
  all_goals (go_ret;refine ⟨?_,rfl⟩)
  all_goals (refine Zz (λb=>Ending.returned (.bool b)) (Y2.2 ?_);simp at* <;>omega)
theorem NmPre.snoc {c:Bool}:∀{first:Bool} {l:List UInt8} {k:Nat},NmPre c first l k->(dec (l.drop k)).2≠0->nmOk c (first && decide (k=0)) (dec (l.drop k)).1=true->NmPre c first l (k+(dec (l.drop k)).2)
 |first,l,_,.zero _ _,h0,hok=>by
  rw[Jm] at*
  rw[YI]
  have:=NmPre.step (k:=0) h0 (by simpa using hok) (NmPre.zero false _)
  exact this
 |first,l,_,.step (k:=k) h0 hok0 t,h1,hok=>by
  have h:(first && decide ((dec l).2+k=0))=(false && decide (k=0)):=by
   rw[Yd (show ¬(dec l).2+k=0 by omega)]
   simp
  rw[h] at hok
  rw[<-List.drop_drop] at h1 hok|-
  have:=NmPre.step h0 hok0 (t.snoc h1 hok)
  rw[Nat.add_assoc]
  exact this
theorem Zch (h:NmPre true true l k) (H:k<l.length) (F:(dec (l.drop k)).2=0\/nmOk true (decide (k=0)) (dec (l.drop k)).1=false):isQ l=false/\nmLen true l=k:=by
 have A:=h.go.2;have e:=Js (c:=true) (f:=l.length) (first:=true && decide (k=0)) (l:=l.drop k) (Or.inr (by simpa using F));rw[e,Nat.add_zero] at A;refine ⟨?_,A⟩;have D:nmLen true l=k:=A;unfold isQ;rw[D];exact Yd om
theorem ZgR (h:NmPre true true l l.length):isQ l=decide (0<l.length)/\nmLen true l=l.length:=by
 have A:=h.go.2;rw[ZC (Zc _),UP] at A;refine ⟨?_,A⟩;unfold isQ nmLen;rw[A];simp
theorem Zja (first:Bool):nmOk true first 58=true:=rfl
theorem Zbu (h:r≠58) (first:Bool):nmOk true first r=if first then nmStart r else nmChar r:=by
 unfold nmOk;rw[Zv.2 h];simp
theorem IU (h:nmChar r=false):nmStart r=false:=by
 unfold nmChar at h;rw[Bool.or_eq_false_iff] at h;exact h.1
theorem Zjq (s:ByteArray) (w:Wq) (hs:s.size<=80000000000):
 Calls prog 180 #[.string s] w λe w'=>e= .returned (.bool (isQ s.data.toList))/\Ext w w':=by
 have hi:s.size<=maxLen:=by unfold maxLen;omega
 have hl:=ZN s;obtain ⟨R0,Y⟩:∃b,isQ s.data.toList=b:=⟨_,rfl⟩;rw[Y];have hc:=gd Y;clear Y;go_enter func180,ntmps180;go_wp2;go_loopw [3,4,5] (λv _ _ wr=>∃k:Nat,k<=s.size/\v=nI k/\Hid (NmPre true true s.data.toList k)/\Ext w wr) (λv _ _ _=>s.size - (intOf v).toNat)
 case atStart=>exact ⟨0,Zj _,rfl,gd (.zero _ _),Ext.refl _⟩
 case round=>
  obtain ⟨k,hk,rfl,hp,V⟩:=hrel;by_cases he:k<s.size
  ·have hd:=Ug (s.data.toList.drop k);rw[Zk,ZN] at hd;have S:=U7 s k wr he hi;have ha:((dec (s.data.toList.drop k)).2=0\/nmOk true (decide (k=0)) (dec (s.data.toList.drop k)).1=false)->R0=false:=λh=>hc.out.symm.trans (Zch hp.out (by rw[ZN];exact he) h).1;have Z:(dec (s.data.toList.drop k)).2≠0->nmOk true (decide (k=0)) (dec (s.data.toList.drop k)).1=true->NmPre true true s.data.toList (k+(dec (s.data.toList.drop k)).2):=λh1 h2=>hp.out.snoc h1 (by simpa using h2);obtain ⟨R,hR⟩:∃R,(dec (s.data.toList.drop k)).1=R:=⟨_,rfl⟩;obtain ⟨K,hK⟩:∃K,(dec (s.data.toList.drop k)).2=K:=⟨_,rfl⟩;rw[hR,hK] at S ha Z;rw[hK] at hd;have X:=gd S;have H:=gd ha;have F:=gd Z;have I:=gd (λw'=>Ga R w');have J:=gd (λw'=>Uw R w');clear S ha Z hR hK hp;by_cases h0:K=0
   ·subst h0;have U:=H.out (Or.inl rfl);subst U
    go_wp2_with (first|(go_at_call 139;refine Za X.out ?_;rintro e w2 ⟨rfl,A⟩))
    go_ret;exact ⟨rfl,V.trans A⟩
   ·have hb:((K:Int)==0)=false:=(by rw[Zv];omega);by_cases D:R=58
    ·subst D;have Q:=gd (F.out h0 (Zja _));clear H F I J;by_cases hz:k=0
     ·subst hz
      go_wp2_with (first|(go_at_call 139;refine Za X.out ?_;rintro e w2 ⟨rfl,A⟩))
      go_roundw
      case rel=>exact ⟨0+K,om,by go_num,Q,V.trans A⟩
      case measure=>simp[intOf];omega
     ·have hg:((k:Int)==0)=false:=by rw[Zv];omega
      go_wp2_with (first|(go_at_call 139;refine Za X.out ?_;rintro e w2 ⟨rfl,A⟩))
      go_roundw
      case rel=>exact ⟨k+K,om,by go_num,Q,V.trans A⟩
      case measure=>simp[intOf];omega
    ·have hm:((R:Int) !=58)=true:=(by simp;omega);cases hnc:nmChar R with
     |false=>
      have U:=H.out (Or.inr (by rw[Zbu D,hnc,IU hnc];simp));subst U;rw[hnc] at I;clear H F J D
      go_wp2_with (first|(go_at_call 139;refine Za X.out ?_;rintro e w2 ⟨rfl,A⟩)|(go_at_call 212;refine Za (I.out _) ?_;rintro e w3 ⟨rfl,rfl⟩))
      go_ret;exact ⟨rfl,V.trans A⟩
     |true=>
      rw[hnc] at I;by_cases hz:k=0
      ·subst hz;cases hns:nmStart R with
       |false=>
        have U:=H.out (Or.inr (by rw[Zbu D,hns];simp));subst U;rw[hns] at J;clear H F D
        go_wp2_with (first|(go_at_call 139;refine Za X.out ?_;rintro e w2 ⟨rfl,A⟩)|(go_at_call 212;refine Za (I.out _) ?_;rintro e w3 ⟨rfl,rfl⟩)|(go_at_call 213;refine Za (J.out _) ?_;rintro e w3 ⟨rfl,rfl⟩))
        go_ret;exact ⟨rfl,V.trans A⟩
       |true=>
        have Q:=gd (F.out h0 (by rw[Zbu D,hns];simp));rw[hns] at J;clear H F D
        go_wp2_with (first|(go_at_call 139;refine Za X.out ?_;rintro e w2 ⟨rfl,A⟩)|(go_at_call 212;refine Za (I.out _) ?_;rintro e w3 ⟨rfl,rfl⟩)|(go_at_call 213;refine Za (J.out _) ?_;rintro e w3 ⟨rfl,rfl⟩))
        go_roundw
        case rel=>exact ⟨0+K,om,by go_num,Q,V.trans A⟩
        case measure=>simp[intOf];omega
      ·have hg:((k:Int)==0)=false:=(by rw[Zv];omega);have Q:=gd (F.out h0 (by rw[Zbu D,hnc,Yd hz];simp));clear H F J D
       go_wp2_with (first|(go_at_call 139;refine Za X.out ?_;rintro e w2 ⟨rfl,A⟩)|(go_at_call 212;refine Za (I.out _) ?_;rintro e w3 ⟨rfl,rfl⟩))
       go_roundw
       case rel=>exact ⟨k+K,om,by go_num,Q,V.trans A⟩
       case measure=>simp[intOf];omega
  ·have hh:k=s.size:=om;subst hh;have U:=hc.out.symm.trans (ZgR (by rw[ZN];exact hp.out)).1;rw[ZN] at U;by_cases hz:0<s.size
   ·have hj:(0:Int)<(s.size:Int):=om;rw[YG hz] at U;subst U;go_wp2;go_ret;exact ⟨rfl,V⟩
   ·have hj:¬(0:Int)<(s.size:Int):=om;rw[Yd hz] at U;subst U;go_wp2;go_ret;exact ⟨rfl,V⟩
end
theorem GH (s:ByteArray) (k:Nat) (w:Wq) (hs:s.size<=80000000000) (hk:k<=s.size):
 Calls prog 182 #[.string s,nI (k:Nat)] w λe w'=>e= .returned (nI (nmAt s.data.toList k:Nat))/\Ext w w':=by
 have ho:s.size<=maxLen:=by unfold maxLen;omega
 obtain ⟨l,hl⟩:∃l,s.data.toList.drop k=l:=⟨_,rfl⟩;have hw:l.length=s.size - k:=by rw[<-hl,Zk,ZN]
 have V:nmAt s.data.toList k=k+nmLen true l:=by unfold nmAt;rw[hl]
 rw[V];obtain ⟨R0,Y⟩:∃n,k+nmLen true l=n:=⟨_,rfl⟩;rw[Y];have X:=gd Y;have HL:=gd hl;clear Y V hl;have ht:(0:Int)<=(k:Int):=om
 go_enter func182,ntmps182;go_wp2;go_loopw [5,6,7] (λv _ _ wr=>∃j:Nat,k+j<=s.size/\v=nI ((k+j:Nat):Int)/\Hid (NmPre true true l j)/\Ext w wr) (λv _ _ _=>s.size - (intOf v).toNat)
 case atStart=>exact ⟨0,hk,rfl,gd (.zero _ _),Ext.refl _⟩
 case round=>
  obtain ⟨j,hj,rfl,hp,hx⟩:=hrel;obtain ⟨J,S⟩:∃J,k+j=J:=⟨_,rfl⟩;by_cases hn:k+j<s.size
  ·have hd:s.data.toList.drop (k+j)=l.drop j:=(by rw[<-HL.out,List.drop_drop]);have hi:=Ug (l.drop j);rw[Zk] at hi;have D:=U7 s (k+j) wr hn ho;rw[hd] at D;have ha:j<l.length:=om;have he:((dec (l.drop j)).2=0\/nmOk true (decide (j=0)) (dec (l.drop j)).1=false)->R0=k+j:=λh=>(by rw[<-X.out,(Zch hp.out ha h).2]);have hc:(dec (l.drop j)).2≠0->nmOk true (decide (j=0)) (dec (l.drop j)).1=true->NmPre true true l (j+(dec (l.drop j)).2)/\isQ (l.take (j+(dec (l.drop j)).2))=true:=λh1 h2=>(by have h3:=hp.out.snoc h1 (by simpa using h2);exact ⟨h3,Zov h3 om⟩);have H:(dec (l.drop j)).2≠0->nmOk true (decide (j=0)) (dec (l.drop j)).1=false->isQ (l.take (j+(dec (l.drop j)).2))=false:=λh1 h2=>Zow hp.out h1 h2;obtain ⟨R,hR⟩:∃R,(dec (l.drop j)).1=R:=⟨_,rfl⟩;obtain ⟨K,hK⟩:∃K,(dec (l.drop j)).2=K:=⟨_,rfl⟩;rw[hR,hK] at D he hc H;rw[hK] at hi;have Z:(s.extract k (k+(j+K))).data.toList=l.take (j+K):=(by rw[XK,HL.out]);have HQ:=gd (λw'=>Zjq (s.extract k (k+(j+K))) w' (by
    have:(s.extract k (k+(j+K))).size=(s.extract k (k+(j+K))).data.toList.length:=rfl;rw[this,Z,ZM];omega))
   rw[Z] at HQ;have hy:∀wx,(Instr.slice 9 (.string s) (some (nI (k:Nat))) (some (nI ((J:Nat)+(K:Int)))) none).run prog wx= .ok (.string (s.extract k (k+(j+K)))) wx:=λwx=>(by have:=ZhO s k (j+K) ((j:Int)+(K:Int)) om om wx;rw[show ((k:Nat):Int)+((j:Int)+(K:Int))=((J:Nat):Int)+(K:Int) by omega] at this;exact this);have HC:=gd D;have F:=gd he;have Q:=gd hc;have A:=gd H;clear D he hc H hR hK hp hd Z;rw[S] at HC|-;have HJ:=gd S;have hu:(J:Int)<(s.size:Int):=om;have hv:J<s.size:=om;by_cases h0:K=0
   ·subst h0;have U:=F.out (Or.inl rfl);rw[S] at U;subst U;clear F Q A HQ S
    go_wp2_with (first|(go_at_call 139;refine Za HC.out ?_;rintro e w2 ⟨rfl,I⟩))
    go_ret;exact ⟨rfl,hx.trans I⟩
   ·have hb:((K:Int)==0)=false:=(by rw[Zv];omega);cases hok:nmOk true (decide (j=0)) R with
    |false=>
     have U:=F.out (Or.inr hok);rw[S] at U;subst U;rw[A.out h0 hok] at HQ;clear F Q A S hok
     go_wp2_with (first|(go_at_call 139;refine Za HC.out ?_;rintro e w2 ⟨rfl,I⟩)|(go_at_call 180;refine Za (HQ.out _) ?_;rintro e w3 ⟨rfl,hg⟩))
     go_ret;exact ⟨rfl,(hx.trans I).trans hg⟩
    |true=>
     obtain ⟨h1,h2⟩:=Q.out h0 hok;rw[h2] at HQ;have hm:=gd h1;clear F Q A S hok h1 h2
     go_wp2_with (first|(go_at_call 139;refine Za HC.out ?_;rintro e w2 ⟨rfl,I⟩)|(go_at_call 180;refine Za (HQ.out _) ?_;rintro e w3 ⟨rfl,hg⟩))
     go_roundw
     case rel=>have hh:=HJ.out;exact ⟨j+K,om,by rw[<-Nat.add_assoc,hh];go_num,hm,(hx.trans I).trans hg⟩
     case measure=>have hh:=HJ.out;simp[intOf];omega
  ·have U:R0=k+j:=(by have hq:=hp.out;have ha:j=l.length:=om;subst ha;rw[<-X.out,(ZgR hq).2]);rw[S] at U;subst U;have hr:¬((R0:Int)<(s.size:Int)):=om;rw[S];clear X hp;go_wp2;go_ret;exact ⟨rfl,hx⟩
theorem XP (s:ByteArray) (a b:Nat) (w:Wq) (D:s.size<=maxLen):
 Calls prog 184 #[.string s,nI (a:Nat),nI (b:Nat)] w λe w'=>
  e= .returned (.tuple #[nI ((missP s.data.toList a b).1:Nat),nI ((missP s.data.toList a b).2:Nat)])/\w'=w:=by
 unfold missP;rw[ZN];by_cases h:s.size<=b;have A:(s.size:Int)<=(b:Int):=om
 rw[Zi h]
 rotate_left
 have A:¬(s.size:Int)<=(b:Int):=om
 rw[Ze h]
 all_goals
  go_enter func184,ntmps184
  go_wp2
  go_ret2
  exact ⟨rfl,rfl⟩
theorem I5 (s:ByteArray) (w:Wq) (hs:s.size<=80000000000):
 Calls prog 142 #[.string s] w λe w'=>e= .returned (.string (str (lns s.data.toList)))/\Ext w w':=by
 obtain ⟨i0,Z,ha,hd,he⟩:=YH G9;have hn:=ZN s;go_enter func142,ntmps142;go_wp2;go_loopw [3,4] (λv i wr=>∃(k:Nat) (out:List UInt8),k<=s.size/\i=nI k/\Hid (out.length<=k)/\
  wr.ownsRow w.heap.size 5 1 v out.length (Lib.byteCells out)/\Hid (lns s.data.toList=out++lns (s.data.toList.drop k))/\Ext w wr) (λ_ i _=>s.size - (intOf i).toNat)
 case atStart=>exact ⟨0,[],Zj _,rfl,Zc _,YF _ _ _ _,rfl,Ext.refl _⟩
 case round=>
  obtain ⟨k,out,hk,rfl,H,I,hc,hx⟩:=hrel;have hp:=hx.size;have U:out.length<=k:=H.out;by_cases ho:k<s.size;have hl:k<s.data.toList.length:=om
  have hm:s.data.toList[k]=s[k]:=rfl;by_cases D:s[k]=13;have hb:(((s[k]).toNat:Int)==13)=true:=by rw[D];rfl
  by_cases h2:k+1<s.size;have hf:((k:Int)+1<(s.size:Int)):=om
  have hi:k+1<s.data.toList.length:=om
  by_cases Q:s[k+1]=10
  ·have hg:(((s[k+1]).toNat:Int)==10)=true:=(by rw[Q];rfl);have X:=gd (hc.out.trans (by rw[Zm8 hi D Q]));clear hc H D Q;go_wp2;go_roundw
   case rel=>exact ⟨k+1,out,om,by go_num,Nat.le_succ_of_le U,I,X,hx⟩
   case measure=>simp[intOf];omega
  have hg:(((s[k+1]).toNat:Int)==10)=false:=by rw[Zv];intro e;exact Q (Xc.1 (by simpa using (show (s[k+1]).toNat=10 by omega)))
  have X:=gd (hc.out.trans (by rw[EI hl (λ_ h=>Q h.2),Zi (show s.data.toList[k]=13 from D),List.append_cons]));have HL:Hid ((out++ [10]).length<=k+1):=by show _<=_;rw[Zb];exact Nat.succ_le_succ U
  clear hc H D Q
  rotate_left
  have hf:¬((k:Int)+1<(s.size:Int)):=om
  have X:=gd (hc.out.trans (by rw[EI hl (λh _=>h2 om),Zi (show s.data.toList[k]=13 from D),List.append_cons]));have HL:Hid ((out++ [10]).length<=k+1):=by show _<=_;rw[Zb];exact Nat.succ_le_succ U
  clear hc H D
  rotate_left
  ·have hb:(((s[k]).toNat:Int)==13)=false:=(by rw[Zv];intro e;exact D (Xc.1 (by simpa using (show (s[k]).toNat=13 by omega))));have X:=gd (hc.out.trans (by rw[EI hl (λ_ h=>D h.1),Ze (show ¬s.data.toList[k]=13 from D),List.append_cons]));rw[hm] at X;have HL:Hid ((out++ [s[k]]).length<=k+1):=(by show _<=_;rw[Zb];exact Nat.succ_le_succ U);clear hc H D;have J:=I;obtain ⟨_,A,c,rfl,hj,hh,_,_⟩:=RSl.of_own I
   go_wp2_with (first|(at_builtin;refine ZO _ rfl (.tmp 36) (.tmp 40) _ rfl w.heap.size 5 i0 _ 1 1 underlying94 Z ha hd he rfl om _ _ _ rfl (J.alloc _) _ 1 _ rfl (Yo (cs:= [.int .u8 s[k].toNat]) (by simp) (by unfold maxLen;omega)) (Vc [s[k]]) (by unfold maxLen;omega) om (by simp;omega) ?_;intro v1 w1 F S R))
   have Y:Ext w w1:=(hx.alloc _).app S (J.alloc _) (Zc _);have K:w1.ownsRow w.heap.size 5 1 v1 (out++ [s[k]]).length (Lib.byteCells (out++ [s[k]])):=(by rw[Yl,Zb];exact F);clear S R F;go_wp2;go_roundw
   case rel=>exact ⟨k+1,out++ [s[k]],om,by go_num,HL,K,X,Y⟩
   case measure=>simp[intOf];omega
  ·have V:lns s.data.toList=out:=(by rw[hc.out,ZoB om,ZV]);have HF:Hid (lns s.data.toList=out):=V;have kc:=Zga wr _ _ out I;clear V hc H;go_wp2;go_ret;exact ⟨by rw[<-HF.out];rfl,hx⟩
  all_goals
   have J:=I
   obtain ⟨_,A,c,rfl,hj,hh,_,_⟩:=RSl.of_own I
   go_wp2_with (first|(at_builtin;refine ZO _ rfl (.tmp 33) (.tmp 34) _ rfl w.heap.size 5 i0 _ 1 1 underlying94 Z ha hd he rfl om _ _ _ rfl (J.alloc _) _ 1 _ rfl (Yo (cs:= [.int .u8 10]) (by simp) (by unfold maxLen;omega)) (Vc [10]) (by unfold maxLen;omega) om (by simp;omega) ?_;intro v1 w1 F S R))
   have Y:Ext w w1:=(hx.alloc _).app S (J.alloc _) (Zc _)
   have K:w1.ownsRow w.heap.size 5 1 v1 (out++ [10]).length (Lib.byteCells (out++ [10])):=(by rw[Yl,Zb];exact F)
   clear S R F
   go_wp2
   go_roundw
   case rel=>exact ⟨k+1,out++ [10],om,by go_num,HL,K,X,Y⟩
   case measure=>simp[intOf];omega
def iopt (o:Option Nat):Int:=match o with|some n=>(n:Int)|none=> -1
theorem Zot (c:UInt8):hexV c<=16:=by
 unfold hexV;split
 ·omega
 ·split
  ·omega
  ·split<;>omega
theorem ZfD (c:UInt8) (w:Wq):Calls prog 232 #[.int .u8 (c.toNat:Nat)] w λe w'=>e= .returned (nI (hexV c:Nat))/\w'=w:=by
 obtain ⟨n,K⟩:∃n,c.toNat=n:=⟨_,rfl⟩;have R:n<256:=by rw[<-K];exact c.toNat_lt
 unfold hexV;rw[K];by_cases h:48<=n/\n<=57
 ·rw[Zi h];obtain ⟨h,A⟩:=h;have D:(48:Int)<=(n:Int):=om
  have F:(n:Int)<=57:=om
  go_enter func232,ntmps232;go_wp2;go_ret;exact ⟨by go_num,rfl⟩
 ·rw[Ze h];by_cases A:97<=n/\n<=102
  ·rw[Zi A];obtain ⟨A,H⟩:=A;have D:(48:Int)<=(n:Int):=om;have F:¬(n:Int)<=57:=om;have I:(97:Int)<=(n:Int):=om;have J:(n:Int)<=102:=om;clear h;go_enter func232,ntmps232;go_wp2;go_ret;exact ⟨by go_num,rfl⟩
  ·rw[Ze A];by_cases H:65<=n/\n<=70
   ·rw[Zi H];obtain ⟨H,S⟩:=H;have D:(48:Int)<=(n:Int):=om;have F:¬(n:Int)<=57:=om;have I:¬(97:Int)<=(n:Int):=om;have J:(65:Int)<=(n:Int):=om;have Q:(n:Int)<=70:=om;clear h A;go_enter func232,ntmps232;go_wp2;go_ret;exact ⟨by go_num,rfl⟩
   ·rw[Ze H];go_enter func232,ntmps232;go_wp2
    all_goals (go_ret;exact ⟨by go_num,rfl⟩)
theorem ZfG (s:ByteArray) (w:Wq):
 Calls prog 214 #[.string s] w λe w'=>e= .returned (nI (iopt (namedL s.data.toList)))/\w'=w:=by
 obtain ⟨R,h⟩:∃R,namedL s.data.toList=R:=⟨_,rfl⟩;rw[h];unfold namedL at h;go_enter func214,ntmps214;by_cases A:s.data.toList= [108,116]
 ·have b0:(s.toList== [108,116])=true:=by rw[Yb,A];rfl
  rw[Zi A] at h;subst h;clear A;go_wp2;go_ret;exact ⟨rfl,rfl⟩
 ·have b0:(s.toList== [108,116])=false:=by rw[Yb];simpa using A
  rw[Ze A] at h;clear A;by_cases D:s.data.toList= [103,116]
  ·have b1:(s.toList== [103,116])=true:=(by rw[Yb,D];rfl);rw[Zi D] at h;subst h;clear D;go_wp2;go_ret;exact ⟨rfl,rfl⟩
  ·have b1:(s.toList== [103,116])=false:=(by rw[Yb];simpa using D);rw[Ze D] at h;clear D;by_cases F:s.data.toList= [97,109,112]
   ·have b2:(s.toList== [97,109,112])=true:=(by rw[Yb,F];rfl);rw[Zi F] at h;subst h;clear F;go_wp2;go_ret;exact ⟨rfl,rfl⟩
   ·have b2:(s.toList== [97,109,112])=false:=(by rw[Yb];simpa using F);rw[Ze F] at h;clear F;by_cases H:s.data.toList= [97,112,111,115]
    ·have b3:(s.toList== [97,112,111,115])=true:=(by rw[Yb,H];rfl);rw[Zi H] at h;subst h;clear H;go_wp2;go_ret;exact ⟨rfl,rfl⟩
    ·have b3:(s.toList== [97,112,111,115])=false:=(by rw[Yb];simpa using H);rw[Ze H] at h;clear H;by_cases I:s.data.toList= [113,117,111,116]
     ·have b4:(s.toList== [113,117,111,116])=true:=(by rw[Yb,I];rfl);rw[Zi I] at h;subst h;clear I;go_wp2;go_ret;exact ⟨rfl,rfl⟩
     ·have b4:(s.toList== [113,117,111,116])=false:=(by rw[Yb];simpa using I);rw[Ze I] at h;clear I;subst h;go_wp2;go_ret;exact ⟨rfl,rfl⟩
theorem Kt (s:ByteArray) (base:Nat) (w:Wq) (hs:s.size<=80000000000) (hb:0<base) (V:base<=16):
 Calls prog 215 #[.string s,nI (base:Nat)] w λe w'=>e= .returned (nI (iopt (numL base s.data.toList)))/\w'=w:=by
 obtain ⟨R,H⟩:∃R,numL base s.data.toList=R:=⟨_,rfl⟩;rw[H];unfold numL at H;have he:=ZN s;go_enter func215,ntmps215;by_cases F:s.data.toList= []
 ·have b0:(s.toList== [])=true:=by rw[Yb,F];rfl
  rw[Zi F] at H;subst H;clear F;go_wp2;go_ret;exact ⟨rfl,rfl⟩
 ·have b0:(s.toList== [])=false:=by rw[Yb];simpa using F
  rw[Ze F] at H;clear F;go_wp2;go_loopw [5,6] (λv i wr=>∃(k n:Nat),k<=s.size/\v=nI n/\n<=2000000/\i=nI k/\Hid (numGo base (s.data.toList.drop k) n=R)/\wr=w) (λ_ i _=>s.size - (intOf i).toNat)
  case atStart=>exact ⟨0,0,Zj _,rfl,Zj _,rfl,gd H,rfl⟩
  case round=>
   obtain ⟨k,n,hk,rfl,hn,rfl,S,rfl⟩:=hrel;by_cases hf:k<s.size
   ·have hl:k<s.data.toList.length:=om;have h:=S.out;rw[Zl hl,numGo,show s.data.toList[k]=s[k] from rfl] at h;have Q:=gd (λw'=>ZfD s[k] w');have U:=Zot s[k];obtain ⟨d,hd⟩:∃d,hexV s[k]=d:=⟨_,rfl⟩;rw[hd] at h Q U;clear S hd;by_cases I:base<=d
    ·have X:(base:Int)<=(d:Int):=om;rw[Zi I] at h;subst h
     go_wp2_with (first|(go_at_call 232;refine Za (Q.out _) ?_;rintro e w2 ⟨rfl,rfl⟩))
     go_ret;exact ⟨rfl,rfl⟩
    ·have X:¬(base:Int)<=(d:Int):=om;rw[Ze I] at h;obtain ⟨m,Y⟩:∃m,n*base+d=m:=⟨_,rfl⟩;have ha:n*base<=2000000*16:=Nat.mul_le_mul hn V;rw[Y] at h;have Z:(n:Int)*(base:Int)+(d:Int)=(m:Int):=(by rw[<-Y];push_cast;rfl);have A:(n:Int)*(base:Int)=((n*base:Nat):Int):=(by push_cast;rfl);obtain ⟨nb,hc⟩:∃nb,n*base=nb:=⟨_,rfl⟩;rw[hc] at A ha Y;have hh:Value.int .i64 (wrap64 ((n:Int)*(base:Int)))=nI (nb:Nat):=Zz (Value.int .i64) ((IntWalk.wrap64_in _ (by rw[A];omega)).trans A);have HR:=gd h;clear h Z;by_cases hg:2000000<m
     ·have K:(2000000:Int)<(nb:Int)+(d:Int):=om;have D:Hid (numGo base (List.drop (k+1) s.data.toList) 2000000=R):=by have:=HR.out;rw[Nat.min_eq_right om] at this;exact this
      go_wp2_with (first|(go_at_call 232;refine Za (Q.out _) ?_;rintro e w2 ⟨rfl,rfl⟩))
      go_roundw
      case rel=>exact ⟨k+1,2000000,om,rfl,om,by go_num,D,by trivial⟩
      case measure=>simp[intOf];omega
     ·have K:¬(2000000:Int)<(nb:Int)+(d:Int):=om;have D:Hid (numGo base (List.drop (k+1) s.data.toList) m=R):=by have:=HR.out;rw[Nat.min_eq_left om] at this;exact this
      go_wp2_with (first|(go_at_call 232;refine Za (Q.out _) ?_;rintro e w2 ⟨rfl,rfl⟩))
      go_roundw
      case rel=>exact ⟨k+1,m,om,Zz (Value.int .i64) om,om,by go_num,D,by trivial⟩
      case measure=>simp[intOf];omega
   ·have J:R=some n:=(by rw[<-S.out,ZC om];rfl);subst J;clear S;go_wp2;go_ret;exact ⟨rfl,rfl⟩
section
variable {j k:Nat} {s:List UInt8}
def charO (o:Option Nat):Bool:=match o with|some n=>isChar n|none=>false
theorem Vu (o:Option Nat) (w:Wq):Calls prog 140 #[nI (iopt o)] w λe w'=>e= .returned (.bool (charO o))/\w'=w:=by
 have e:charO o=isChar (iopt o):=by cases o<;>rfl
 rw[e];refine (VY (iopt o) w).mono ?_;rintro e w' ⟨rfl,rfl⟩;exact ⟨rfl,rfl⟩
def refInner (s:List UInt8) (k:Nat):List UInt8:=(s.drop (k+1)).takeWhile λc=>c !=59
theorem ZlS (h:k<s.length) (A:s[k]≠38):refAt s k=none:=by
 unfold refAt;rw[Zl h];dsimp only;rw[Il,Ze (λe=>A (by injection e))]
theorem ZnE (h:k<s.length) (A:s[k]=38):
 refAt s k=if k+1+(refInner s k).length<s.length then (match refRune (refInner s k) with|some n=>if isChar n then some (n,k+1+(refInner s k).length+1) else none|none=>none) else none:=by
 unfold refAt refInner;rw[Zl h];dsimp only;rw[Il,Zi (by rw[A]),List.tail_cons,Zd,Zk];obtain ⟨x,D⟩:∃x,List.takeWhile (λc=>c !=59) (List.drop (k+1) s)=x:=⟨_,rfl⟩;rw[D];by_cases hc:k+1+x.length<s.length
 ·rw[Zi hc,Zi om,show k+x.length+2=k+1+x.length+1 by omega];rfl
 ·rw[Ze hc,Ze om]
theorem VD {p:UInt8->Bool} (h:k<s.length) (A:p s[k]=true):k+((s.drop k).takeWhile p).length=(k+1)+((s.drop (k+1)).takeWhile p).length:=by
 rw[Zl h,Yi,Zi A,Zd];omega
theorem VE {p:UInt8->Bool} (h:k<s.length) (A:p s[k]=false):k+((s.drop k).takeWhile p).length=k:=by
 rw[Zl h,Yi,A];rfl
theorem Zar {p:UInt8->Bool} (h:s.length<=k):k+((s.drop k).takeWhile p).length=k:=by
 rw[ZC h];rfl
theorem GL (s:ByteArray) (a b:Nat) (A B:Int) (F:A=a) (H:B=b) (h:a<=b) (I:b<=s.size) (D:Wq):
 (Instr.slice 9 (.string s) (some (nI A)) (some (nI B)) none).run prog D= .ok (.string (s.extract a b)) D:=by
 subst F H;rw[run_slice_string (P:=prog) (w:=D) 9 s .i64 .i64 _ _ underlying9 om om om];rw[show ((a:Nat):Int).toNat=a by omega,show ((b:Nat):Int).toNat=b by omega]
theorem ZhP (s:ByteArray) (b:Nat) (A:b<=s.size) (h:Wq):
 (Instr.slice 9 (.string s) none (some (nI (b:Nat))) none).run prog h= .ok (.string (s.extract 0 b)) h:=by
 rw[run_slice_string_h (P:=prog) (w:=h) 9 s underlying9 .i64 _ om om];rw[show ((b:Nat):Int).toNat=b by omega]
theorem Id (s:ByteArray) (a:Nat) (A:Int) (D:A=a) (F:a<=s.size) (h:Wq):
 (Instr.slice 9 (.string s) (some (nI A)) none none).run prog h= .ok (.string (s.extract a s.size)) h:=by
 subst D;rw[run_slice_string_l (P:=prog) (w:=h) 9 s underlying9 .i64 _ om om];rw[show ((a:Nat):Int).toNat=a by omega]
theorem KU (s:ByteArray) (a:Nat):(s.extract a s.size).data.toList=s.data.toList.drop a:=by
 by_cases h:a<=s.size
 ·have:=XK s a (s.size - a);rw[show a+(s.size - a)=s.size by omega] at this;rw[this,ZQ (by rw[Zk,ZN];omega)]
 ·rw[ZC (by rw[ZN];omega)];refine Zm ?_;rw[ZN,ByteArray.size_extract];omega
theorem ZfI {o:Option Nat} {A:Option (Nat×Nat)} (h:A=match o with|some n=>if isChar n then some (n,j+1) else none|none=>none):
 (charO o=true->∃n:Nat,iopt o=n/\A=some (n,j+1))/\(charO o=false->A=none):=by
 cases o with
 |none=>exact ⟨(λe=>by cases e),λ_=>h⟩
 |some n=>
  refine ⟨λe=>⟨n,rfl,?_⟩,λe=> ?_⟩
  ·rw[h];exact Zi e
  ·rw[h];exact Ze (by rw[show isChar n=false from e];simp)
def refAns (o:Option (Nat×Nat)):Value:=match o with|some (r,e)=> .tuple #[nI (r:Nat),nI (e:Nat),nI 0]|none=> .tuple #[nI 0,nI 0,nI 12]
theorem Zag (s:ByteArray) (k:Nat) (w:Wq) (hs:s.size<=80000000000) (hk:k<s.size):
 Calls prog 186 #[.string s,nI (k:Nat)] w λe w'=>e= .returned (refAns (refAt s.data.toList k))/\w'=w:=by
 have hz:=ZN s;have hM:¬(s.size:Int)<=(k:Int):=om
 have hN:¬(k:Int)<0:=om
 have hl:k<s.data.toList.length:=om
 by_cases H:s[k]=38
 ·have hb:(((s[k]).toNat:Int)==38)=true:=by rw[H];rfl
  have h:=ZnE hl H;have hc:k+((s.data.toList.drop k).takeWhile λc=>c !=59).length=k+1+(refInner s.data.toList k).length:=VD hl (by show (s[k] !=59)=true;rw[H];rfl);obtain ⟨E,hE⟩:∃E,k+1+(refInner s.data.toList k).length=E:=⟨_,rfl⟩;have hw:E<=s.size:=by rw[<-hE];have h1:=(YE (λc:UInt8=>c !=59) (l:=s.data.toList.drop (k+1))).length_le;rw[Zk] at h1;unfold refInner;omega
  have U:(s.extract (k+1) E).data.toList=refInner s.data.toList k:=by rw[<-hE,XK];exact (YQ.1 (Xx _)).symm
  have hm:(s.extract (k+1) E).size=E - (k+1):=by rw[<-ZN,U];omega
  rw[hE,hz] at h;rw[hE] at hc;obtain ⟨x,hv⟩:∃x,refInner s.data.toList k=x:=⟨_,rfl⟩;rw[hv] at h U;have hD:=GL s (k+1) E ((k:Int)+1) (E:Nat) om rfl om hw;obtain ⟨X,hX⟩:∃X,s.extract (k+1) E=X:=⟨_,rfl⟩;rw[hX] at hD hm U;have hL:k+1<=E:=om
  obtain ⟨A,J⟩:∃A,refAt s.data.toList k=A:=⟨_,rfl⟩;rw[J];rw[J] at h;have R:=gd h;have HE:=gd hc;clear H h hc hE hv hX J;go_enter func186,ntmps186;go_wp2;go_loopw [7] (λv wr=>∃j:Nat,j<=s.size/\v=nI j/\Hid (j+((s.data.toList.drop j).takeWhile λc=>c !=59).length=E)/\wr=w) (λv _=>s.size - (intOf v).toNat)
  case atStart=>exact ⟨k,om,rfl,HE,rfl⟩
  case round=>
   obtain ⟨j,hj,rfl,hr,rfl⟩:=hrel;by_cases hi:j<s.size;have hu:j<s.data.toList.length:=om;have hR:s.data.toList[j]=s[j]:=rfl;by_cases S:s[j]=59;have hy:(((s[j]).toNat:Int) !=59)=false:=(by rw[S];rfl);have he:j=E:=(VE (p:=λc=>c !=59) hu (by show (s[j] !=59)=false;rw[S];rfl)).symm.trans hr.out;subst he;have hO:((j:Int)==(s.size:Int))=false:=(by rw[Zv];omega);have hK:(j:Int)<(s.size:Int):=om;have h:=R.out;rw[Zi hi] at h;have HN:=gd (λw'=>ZfG X w');rw[U] at HN;clear S hr R HE;by_cases F:∃c t,x=35::c::t
   ·obtain ⟨c,t,K⟩:=F;have hp:X.size=t.length+2:=(by rw[<-ZN,U,K];rfl);have hG:(1:Int)<(X.size:Int):=om;have hH:0<X.size:=om;have hJ:1<X.size:=om;have hq:(0:Int)<(X.size:Int):=om;have e0:X[0]=35:=(by have:X.data.toList[0]'(by rw[ZN];omega)=35:=(by simp only[U,K,JQ]);exact this);have e1:X[1]=c:=(by have:X.data.toList[1]'(by rw[ZN];omega)=c:=(by simp only[U,K,List.getElem_cons_succ,JQ]);exact this);have hF:(((X[0]).toNat:Int)==35)=true:=(by rw[e0];rfl);have hP:=Id X 1 1 rfl om;have hQ:=Id X 2 2 rfl om;have hf:(X.extract 1 X.size).data.toList=c::t:=(by rw[KU,U,K];rfl);have hh:(X.extract 2 X.size).data.toList=t:=(by rw[KU,U,K];rfl);have V:=gd (λw'=>(Kt (X.extract 1 X.size) 10 w' (by rw[<-ZN,hf,Zd];omega) om om:Calls prog 215 #[.string (X.extract 1 X.size),nI 10] w' λe w2=>e= .returned (nI (iopt (numL 10 (X.extract 1 X.size).data.toList)))/\w2=w'));have Y:=gd (λw'=>(Kt (X.extract 2 X.size) 16 w' (by rw[<-ZN,hh];omega) om om:Calls prog 215 #[.string (X.extract 2 X.size),nI 16] w' λe w2=>e= .returned (nI (iopt (numL 16 (X.extract 2 X.size).data.toList)))/\w2=w'));rw[hf] at V;rw[hh] at Y;have ha:refRune x=if c=120 then numL 16 t else numL 10 (c::t):=(by rw[K];rfl)
    rw[ha] at h;clear hf hh ha U K e0 hm hp;by_cases D:c=120;have hd:(((X[1]).toNat:Int)==120)=true:=(by rw[e1,D];rfl);rw[Zi D] at h;obtain ⟨o,ho⟩:∃o,numL 16 t=o:=⟨_,rfl⟩;rw[ho] at h Y;have Q:=gd (λw'=>Vu o w');have Z:=gd (ZfI h);obtain ⟨I,hI⟩:∃I,iopt o=I:=⟨_,rfl⟩;rw[hI] at Q Z Y;clear hI h;cases hco:charO o;rw[hco] at Q;have J:=Z.out.2 hco;subst J
    rotate_left
    rw[hco] at Q;obtain ⟨n,hn,J⟩:=Z.out.1 hco;subst hn J
    rotate_left
    ·have hd:(((X[1]).toNat:Int)==120)=false:=(by rw[Zv];intro e;exact D (e1.symm.trans (Xc.1 (by simpa using (show (X[1]).toNat=120 by omega)))));rw[Ze D] at h;obtain ⟨o,ho⟩:∃o,numL 10 (c::t)=o:=⟨_,rfl⟩;rw[ho] at h V;have Q:=gd (λw'=>Vu o w');have Z:=gd (ZfI h);obtain ⟨I,hI⟩:∃I,iopt o=I:=⟨_,rfl⟩;rw[hI] at Q Z V;clear hI h;clear Y;cases hco:charO o;rw[hco] at Q;have J:=Z.out.2 hco;subst J
     rotate_left
     rw[hco] at Q;obtain ⟨n,hn,J⟩:=Z.out.1 hco;subst hn J
     all_goals
      clear ho hco D e1
      go_wp2_with (first|(go_at_call 214;refine Za (HN.out _) ?_;rintro e w2 ⟨rfl,rfl⟩)|(go_at_call 215;refine Za (V.out _) ?_;rintro e w2 ⟨rfl,rfl⟩)|(go_at_call 140;refine Za (Q.out _) ?_;rintro e w2 ⟨rfl,rfl⟩))
      go_ret3
      exact ⟨rfl,rfl⟩
    all_goals
     clear ho hco D e1
     go_wp2_with (first|(go_at_call 214;refine Za (HN.out _) ?_;rintro e w2 ⟨rfl,rfl⟩)|(go_at_call 215;(first|(with_reducible refine Za (V.out _) ?_)|(with_reducible refine Za (Y.out _) ?_));rintro e w2 ⟨rfl,rfl⟩)|(go_at_call 140;refine Za (Q.out _) ?_;rintro e w2 ⟨rfl,rfl⟩))
     go_ret3
     exact ⟨rfl,rfl⟩
   have ha:refRune x=namedL x:=by
    unfold refRune;split
    ·exact absurd ⟨_,_,rfl⟩ F
    ·rfl
   rw[ha] at h;have hg:¬(1:Int)<(X.size:Int)\/((1:Int)<(X.size:Int)/\∃h0:0<X.size,(((X[0]).toNat:Int)==35)=false):=by
    by_cases h1:(1:Int)<(X.size:Int)
    ·refine Or.inr ⟨h1,om,?_⟩;rw[Zv];intro e;have e0:X.data.toList[0]'(by rw[ZN];omega)=35:=Xc.1 (show (X[0]).toNat=35 by omega);refine F ⟨X.data.toList[1]'(by rw[ZN];omega),X.data.toList.drop 2,?_⟩;rw[<-U,<-e0,<-Zl,<-Zl,Jm]
    ·exact Or.inl h1
   obtain ⟨o,ho⟩:∃o,namedL x=o:=⟨_,rfl⟩;rw[ho] at h HN;have Q:=gd (λw'=>Vu o w');have Z:=gd (ZfI h);obtain ⟨I,hI⟩:∃I,iopt o=I:=⟨_,rfl⟩;rw[hI] at Q Z HN;clear hI h;clear F ha ho;cases hco:charO o;rw[hco] at Q;have J:=Z.out.2 hco;subst J;clear hco U;rcases hg with hg|⟨hg,hq,ht⟩
   rotate_left
   have hB:(0:Int)<(X.size:Int):=om
   rotate_left
   rw[hco] at Q;obtain ⟨n,hn,J⟩:=Z.out.1 hco;subst hn J;clear hco U;rcases hg with hg|⟨hg,hq,ht⟩
   rotate_left
   have hB:(0:Int)<(X.size:Int):=om
   rotate_left
   ·have hy:(((s[j]).toNat:Int) !=59)=true:=(by rw[Xk];intro e;exact S (Xc.1 (by simpa using (show (s[j]).toNat=59 by omega))));have HN:=gd ((VD (p:=λc=>c !=59) hu (by show (s[j] !=59)=true;simpa using S)).symm.trans hr.out);clear hr S;go_wp2;go_roundw
    case rel=>exact ⟨j+1,hi,by go_num,HN,by trivial⟩
    case measure=>simp[intOf];omega
   ·have he:j=E:=(Zar (p:=λc=>c !=59) om).symm.trans hr.out;have hC:j=s.size:=om;subst he;have h:=R.out;rw[Ze hi] at h;subst h;clear hr R HE;subst hC;go_wp2
    go_ret3
    exact ⟨rfl,rfl⟩
   all_goals
    go_wp2_with (first|(go_at_call 214;refine Za (HN.out _) ?_;rintro e w2 ⟨rfl,rfl⟩)|(go_at_call 140;refine Za (Q.out _) ?_;rintro e w2 ⟨rfl,rfl⟩))
    go_ret3
    exact ⟨rfl,rfl⟩
 ·have hb:(((s[k]).toNat:Int) !=38)=true:=by rw[Xk];intro e;exact H (Xc.1 (by simpa using (show (s[k]).toNat=38 by omega)))
  rw[ZlS hl H];clear H;go_enter func186,ntmps186;go_wp2
  go_ret3
  exact ⟨rfl,rfl⟩
end
section
variable {i j n r:Nat} {s:List UInt8}
theorem Ext.bytes {a w:Wq} (h:Ext a w) (e:TypeId) (s:ByteArray):Ext a (Lib.bytesWorld w e s):=by
 have D:=h.size;refine ⟨h.os,h.tape,h.output,?_,?_⟩
 ·rw[Lib.bytesWorld_size];omega
 ·intro k A;rw[Lib.bytesWorld_at_old w e s k om];exact h.block k A
structure BR (w:Wq) (g:Nat) (L:List UInt8):Prop where
 cell:∀j (hj:j<L.length),w.cell? ⟨g,j,none⟩=some (.int .u8 (L[j].toNat:Nat))
 froz:∀j,j<L.length->w.frozen? ⟨g,j,none⟩=false
theorem BR.bytes (w:Wq) (s:ByteArray):BR (Lib.bytesWorld w 5 s) w.heap.size s.data.toList:=by
 refine ⟨λj A=> ?_,λj A=> ?_⟩
 ·have h:j<s.size:=by rw[<-ZN];exact A
  rw[Lib.bytesWorld_cell w _ s j h,ZZ,Zh A];rfl
 ·have h:j<s.size:=by rw[<-ZN];exact A
  unfold World.frozen?;rw[show (Lib.bytesWorld w 5 s).heap[(⟨w.heap.size,j,none⟩:Addr).block]? =_ from Lib.bytesWorld_at_new w 5 s];have:s.size<=(Lib.bytesCells w 5 s).size:=by simp[Lib.bytesCells]
  simp;omega
theorem BR.set {w:Wq} {g j:Nat} {L:List UInt8} (h:BR w g L) (D:j<L.length) (b:UInt8):BR (w.setCell ⟨g,j,none⟩ (.int .u8 (b.toNat:Nat))) g (L.set j b):=by
 refine ⟨λi A=> ?_,λi A=> ?_⟩
 ·rw[Jt] at A;by_cases e:j=i
  ·subst e;rw[KJ _ _ _ (h.cell j D),List.getElem_set_self]
  ·rw[Xi _ _ _ _ (by intro e2;injection e2 with _ e3;exact e e3),h.cell i A,List.getElem_set_ne e]
 ·rw[Jt] at A;rw[XX];exact h.froz i A
theorem BR.conv {w:Wq} {g n c:Nat} {L:List UInt8} (h:BR w g L) (D:n=L.length):(convert 94 9 (.slice (some ⟨g,0,none⟩) n c)).run prog w= .ok (.string (str L)) w:=by
 subst D;exact run_convert_bytes_back w _ _ 5 ⟨g,0,none⟩ c L underlying94 underlying5 underlying9 λj A=>by rw[show (⟨g,0,none⟩:Addr).add j=⟨g,j,none⟩ from by unfold Addr.add;split<;>simp_all];exact h.cell j A
def finC (value:Bool) (l:List UInt8):List UInt8:=if value then spaced l else l
theorem ZiF (l:List UInt8):finC false l=l:=rfl
theorem Za1 (c:UInt8) (t:List UInt8):spaced (c::t)=(if isSp c.toNat then 32 else c)::spaced t:=rfl
theorem ZhQ {M F:List UInt8} (A:j<M.length) (D:isSp (M[j]).toNat=false) (h:M.take j++spaced (M.drop j)=F):M.take (j+1)++spaced (M.drop (j+1))=F:=by
 rw[<-h,Zl A,Za1,D,Zr A];simp only[YR,U4,Zt,List.singleton_append]
theorem Zjw {M F:List UInt8} (A:j<M.length) (D:isSp (M[j]).toNat=true) (h:M.take j++spaced (M.drop j)=F):(M.set j 32).take (j+1)++spaced ((M.set j 32).drop (j+1))=F:=by
 rw[<-h,Zl A,Za1,D,Zr (by rw[Jt];exact A),List.drop_set_of_lt om,List.getElem_set_self,List.take_set_of_le om];simp
def contAns (tz:Nat):Except PErr (List UInt8)->Value
 | .ok v=> .tuple #[.string (str v),nI (tz:Nat),nI 0]
 | .error (i,c)=> .tuple #[.string (str []),nI (i:Nat),nI (c:Nat)]
theorem Zk0 (h:isChar n=true):n<1114112:=by
 unfold isChar at h;have:=YK h;omega
theorem Zoo (r:Nat):(encN r).length<=4:=by
 unfold encN
 (repeat' split)<;>simp
theorem Zjo {e:Nat} (h:refAt s i=some (r,e)):isChar r=true:=by
 unfold refAt at h;dsimp only at h;split at h
 ·split at h
  ·split at h
   ·split at h
    ·rename_i A;injection h with h;injection h with h1 h2;subst h1;exact A
    ·cases h
   ·cases h
  ·cases h
 ·cases h
end
end Go.Proofs.YtnlafkgkcnenfaaGreatDoor
