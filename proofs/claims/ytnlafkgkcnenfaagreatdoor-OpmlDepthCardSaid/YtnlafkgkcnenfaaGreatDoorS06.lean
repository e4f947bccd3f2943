/- Parts of the proof: contracts and plain laws. -/
import Derived.Test.YtnlafkgkcnenfaaGreatDoorS04
import Derived.Test.YtnlafkgkcnenfaaGreatDoorS05
namespace Go.Proofs.YtnlafkgkcnenfaaGreatDoor
open Go Go.RowKit Tryz
set_option linter.unusedVariables false
set_option linter.unusedSimpArgs false
set_option maxRecDepth 100000
set_option maxHeartbeats 16000000
section
variable {N fin:Nat} {nm s:List UInt8} {out:List Fd} {path:List ByteArray}
mutual
def Nd.cnt:Nd->Nat
 | .mk _ _ _ _ ks _ _=>1+Nds.cnt ks
def Nds.cnt:List Nd->Nat
 | []=>0
 |x::t=>x.cnt+Nds.cnt t
end
theorem Nds.cnt_app:∀a b:List Nd,Nds.cnt (a++b)=Nds.cnt a+Nds.cnt b
 | [],b=>by rw[Nds.cnt];simp
 |x::t,b=>by
  have h:=Nds.cnt_app t b
  show Nds.cnt (x::(t++b))=_
  rw[Nds.cnt,Nds.cnt,h]
  omega
theorem IM (x:Nd):Nds.cnt [x]=x.cnt:=by rw[Nds.cnt,Nds.cnt];omega
theorem Zb7 (x:Nd):1<=x.cnt:=by cases x;rw[Nd.cnt];omega
theorem Zc0 (ks:List Nd) (t:List UInt8) (a:Nat):Nds.cnt (addText ks t a)<=Nds.cnt ks+1:=by
 unfold addText;split
 ·rename_i s nm al kk u b h;obtain ⟨q,rfl⟩:=List.getLast?_eq_some_iff.1 h;rw[List.dropLast_concat,Nds.cnt_app,Nds.cnt_app,IM,IM,Nd.cnt,Nd.cnt];omega
 ·rw[Nds.cnt_app,IM];unfold charD;rw[Nd.cnt,Nds.cnt];omega
theorem Zh6 (fin:Nat):∀f:Nat,(∀(d:Nat) (l:List Tok) (x:Nd) (r:List Tok),elemP fin f d l= .ok (x,r)->x.cnt+r.length<=l.length)/\
 (∀(d:Nat) (t:Tok) (ks:List Nd) (l:List Tok) (x:Nd) (r:List Tok),kidsP fin f d t ks l= .ok (x,r)->x.cnt+r.length<=1+Nds.cnt ks+l.length):=by
 intro f
 induction f with
 |zero=>exact ⟨λd l x r h=>(by rw[elemP] at h;cases h),λd t ks l x r h=>(by rw[kidsP] at h;cases h)⟩
 |succ f ih=>
  obtain ⟨F,q⟩:=ih;refine ⟨λd l x r h=> ?_,λd t ks l x r h=> ?_⟩
  ·cases l with
   |nil=>rw[elemP] at h;cases h
   |cons t l=>
    rw[elemP] at h;rw[Zf];split at h
    ·cases h
    ·split at h
     ·injection h with h;injection h with D A;subst D;subst A;rw[Nd.cnt,Nds.cnt];omega
     ·have:=q d t [] l x r h;rw[Nds.cnt] at this;omega
  ·cases l with
   |nil=>rw[kidsP] at h;cases h
   |cons u l=>
    rw[kidsP] at h;rw[Zf];split at h
    ·split at h
     ·cases h
     ·injection h with h;injection h with D A;subst D;subst A;rw[Nd.cnt];omega
    ·split at h
     ·split at h
      ·cases h
      ·rename_i k r' H;have D:=F _ _ _ _ H;have A:=q d t _ r' x r h;rw[Nds.cnt_app,IM] at A;rw[Zf] at D;omega
     ·have A:=q d t _ l x r h;have:=Zc0 ks u.text u.at_;omega
theorem Zgx:∀(f:Nat) (found:Option Nd) (l:List Tok) (x:Nd),docGo fin f found l= .ok x->(∀y,found=some y->y.cnt+l.length<=N)->l.length<=N->x.cnt<=N:=by
 intro f
 induction f with
 |zero=>exact λfound l x h _ _=>by rw[docGo] at h;cases h
 |succ f ih=>
  intro found l x h q H;cases l with
  |nil=>
   rw[J1] at h;cases found with
   |none=>cases h
   |some y=>injection h with h;rw[<-h];have:=q y rfl;rw[ZK] at this;omega
  |cons t r=>
   rw[Zf] at H q;rw[Jx] at h;split at h
   ·cases h
   ·split at h
    ·cases h
    ·split at h
     ·split at h
      ·cases h
      ·exact ih found r x h (λy A=>by have:=q y A;omega) (by omega)
     ·split at h
      ·cases h
      ·rename_i y r' A;have D:=(Zh6 fin _).1 _ _ _ _ A;rw[Zf] at D;exact ih (some y) r' x h (by intro z F;injection F with F;rw[<-F];omega) (by omega)
theorem Zic {x:Nd} (h:docP s= .ok x):x.cnt<=s.length:=by
 rw[QT] at h;split at h
 ·cases h
 ·rename_i l q;have A:=(GM q).len;have:=Zgx (N:=l.length) _ none l x h (by intro y e;cases e) (Zb _);omega
mutual
theorem Zeq:∀(n m:Nd) (sc:Scope),resP n sc= .ok m->m.cnt=n.cnt
 | .mk k s n al ks t a,m,sc,h=>by
  rw[resP] at h
  split at h
  ·cases h
  ·split at h
   ·cases h
   ·rename_i ks' hk
    have h2:=Iv ks ks' _ hk
    injection h with h
    subst h
    rw[Nd.cnt,Nd.cnt,h2]
theorem Iv:∀(ks r:List Nd) (sc:Scope),resKids ks sc= .ok r->Nds.cnt r=Nds.cnt ks
 | [],r,sc,h=>by
  rw[resKids] at h
  injection h with h
  subst h
  rfl
 |k::t,r,sc,h=>by
  rw[resKids] at h
  split at h
  ·cases h
  ·rename_i k' hk'
   split at h
   ·cases h
   ·rename_i t' ht'
    injection h with h
    subst h
    have h2:=Iv t t' sc ht'
    have h1:k'.cnt=k.cnt:=by
     split at hk'
     ·exact Zeq k k' sc hk'
     ·injection hk' with hk';rw[hk']
    rw[Nds.cnt,Nds.cnt,h1,h2]
end
theorem AtP.fits_mono {a b:Nat} (h:a<=b) {x:AtP} (q:x.fits a):x.fits b:=by
 unfold AtP.fits at*;omega
mutual
theorem Nd.fits_mono {a b:Nat} (h:a<=b):∀n:Nd,n.fits a->n.fits b
 | .mk k s nm al ks t at_,hn=>by
  rw[Nd.fits] at hn|-
  obtain ⟨h1,h2,h3,h4,h5,h6,h7,h8,h9⟩:=hn
  exact ⟨h1,by omega,by omega,by omega,λx hx=>AtP.fits_mono h (h5 x hx),by omega,by omega,by omega,Nds.fits_mono h ks h9⟩
theorem Nds.fits_mono {a b:Nat} (h:a<=b):∀l:List Nd,Nds.fits a l->Nds.fits b l
 | [],_=>by rw[Nds.fits];trivial
 |x::t,hn=>by
  rw[Nds.fits] at hn|-
  exact ⟨Nd.fits_mono h x hn.1,Nds.fits_mono h t hn.2⟩
end
theorem Zag {m:Nd} (h:treeP s=some m):s.length<=5000/\m.fits 5000/\m.kind=0/\m.cnt<=5000:=by
 unfold treeP at h;split at h
 ·cases h
 ·rename_i K;split at h
  ·cases h
  ·rename_i n A;split at h
   ·cases h
   ·rename_i r D;injection h with h;subst h;have F:=Zbg A;have I:=Zic A;have q:=ZbO (N:=5000) (by decide) n r [] D (Nd.fits_mono (by omega) n F.1) (by intro b H;cases H);have J:=Zeq n r [] D;exact ⟨by omega,q.1,q.2,by omega⟩
def moreF (out:List Fd):Except PErr (List Fd)->Except PErr (List Fd)
 | .ok m=> .ok (out++m)
 | .error x=> .error x
theorem ZfO {k:Nd} {t:List Nd} (h:isEl outlineL k=false):visKs (k::t) path=visKs t path:=by
 rw[visKs,Ze (by rw[h];simp)];dsimp only;cases visKs t path<;>rfl
theorem Kw (path:List ByteArray):∀ks:List Nd,visKs ks path=visKs (ks.filter (isEl outlineL)) path
 | []=>rfl
 |k::t=>by
  have ih:=Kw path t
  cases h:isEl outlineL k with
  |false=>rw[ZfO h,List.filter_cons_of_neg (by rw[h];simp),ih]
  |true=>rw[List.filter_cons_of_pos h,visKs,visKs,ih]
theorem Zfq {k:Nd} {t:List Nd} {id:List UInt8} (h:isEl outlineL k=true) (A:attrL k xmlUrlL=some id) (q:coll id≠ []):moreF out (visKs (k::t) path)=moreF (out++ [opFd path k id]) (visKs t path):=by
 rw[visKs,Zh h];simp only[A,Ze q];cases visKs t path with
 |error x=>rfl
 |ok m=>unfold moreF;simp
theorem Zhp {k:Nd} {t:List Nd} {id:List UInt8} (h:isEl outlineL k=true) (A:attrL k xmlUrlL=some id) (q:coll id= []):moreF out (visKs (k::t) path)= .error (k.at_,19):=by
 rw[visKs,Zh h];simp only[A,Zh q];rfl
theorem Zd2 {k:Nd} {t:List Nd} (h:isEl outlineL k=true) (A:attrL k xmlUrlL=none) (q:coll (nameL k)= []):moreF out (visKs (k::t) path)= .error (k.at_,19):=by
 rw[visKs,Zh h];simp only[A,Zh q];rfl
theorem Zfp {k:Nd} {t:List Nd} (h:isEl outlineL k=true) (D:attrL k xmlUrlL=none) (A:coll (nameL k)≠ []) (q:64<=path.length):moreF out (visKs (k::t) path)= .error (k.at_,9):=by
 rw[visKs,Zh h];simp only[D,Ze A,Zh q];rfl
theorem Zhr {k:Nd} {t:List Nd} (h:isEl outlineL k=true) (D:attrL k xmlUrlL=none) (A:coll (nameL k)≠ []) (q:¬64<=path.length):
 moreF out (visKs (k::t) path)=match visP k (path++ [str (nameL k)]) with| .error x=> .error x| .ok l=>moreF (out++l) (visKs t path):=by
 rw[visKs,Zh h];simp only[D,Ze A,Ze q];cases visP k (path++ [str (nameL k)]) with
 |error x=>rfl
 |ok l=>
  dsimp only;cases visKs t path with
  |error x=>rfl
  |ok m=>unfold moreF;simp
theorem Zhq (out:List Fd) (path:List ByteArray):moreF out (visKs [] path)= .ok out:=by rw[visKs];unfold moreF;simp
theorem Zd3 (r:Except PErr (List Fd)):moreF [] r=r:=by cases r<;>rfl
structure opOk (N:Nat) (f:Fd):Prop where
 len:f.path.length<=64
 path:∀s∈f.path,s.size<=2*N
 id:f.id.size<=2*N
 title:f.title.size<=2*N
 link:f.link.size<=2*N
 upd:f.upd= -62135596800
 ents:f.ents= []
theorem ZeP {al:List AtP} (h:∀b∈al,b.fits N) {v:List UInt8} (q:attrIn al nm=some v):v.length<=2*N:=by
 unfold attrIn at q;cases hf:al.find? (λa=>a.space== [] && a.name==nm) with
 |none=>rw[hf] at q;cases q
 |some a=>rw[hf] at q;injection q with q;rw[<-q];exact (h a (List.mem_of_find?_eq_some hf)).2.2.1
theorem QQ {n:Nd} (h:n.fits N) {v:List UInt8} (q:attrL n nm=some v):v.length<=2*N:=by
 obtain ⟨k,s,m,al,ks,t,a⟩:=n;rw[Nd.fits] at h;exact ZeP h.2.2.2.2.1 q
theorem Zdz {n:Nd} (h:n.fits N) (nm:List UInt8):((attrL n nm).getD []).length<=2*N:=by
 cases hv:attrL n nm with
 |none=>exact Zk _
 |some v=>exact QQ h hv
theorem KT {n:Nd} (h:n.fits N):(nameL n).length<=2*N:=by
 unfold nameL;split
 ·rename_i v q;exact QQ h q
 ·exact Zdz h titleL
theorem Zj6 {n:Nd} (h:n.fits N) (A:path.length<=64) (D:∀s∈path,s.size<=2*N) {id:List UInt8} (q:attrL n xmlUrlL=some id):opOk N (opFd path n id):=by
 refine ⟨A,D,?_,?_,?_,rfl,rfl⟩
 ·show (str id).size<=_;rw[Yu];exact QQ h q
 ·show (str _).size<=_;rw[Yu];exact KT h
 ·show (str _).size<=_;rw[Yu];exact Zdz h _
mutual
theorem Zgc (N:Nat):∀(n:Nd) (path:List ByteArray) (l:List Fd),visP n path= .ok l->n.fits N->path.length<=64->(∀s∈path,s.size<=2*N)->l.length<=n.cnt/\∀f∈l,opOk N f
 | .mk k s nm al ks t a,path,l,h,hn,hp,hs=>by
  rw[visP] at h
  rw[Nd.fits] at hn
  have h1:=Zez N ks path l h hn.2.2.2.2.2.2.2.2 hp hs
  rw[Nd.cnt]
  exact ⟨by omega,h1.2⟩
theorem Zez (N:Nat):∀(ks:List Nd) (path:List ByteArray) (l:List Fd),visKs ks path= .ok l->Nds.fits N ks->path.length<=64->(∀s∈path,s.size<=2*N)->l.length<=Nds.cnt ks/\∀f∈l,opOk N f
 | [],path,l,h,_,_,_=>by
  rw[visKs] at h
  injection h with h
  subst h
  exact ⟨Zk _,by intro f hf;cases hf⟩
 |k::t,path,l,h,hk,hp,hs=>by
  rw[visKs] at h
  rw[Nds.fits] at hk
  split at h
  ·cases h
  ·rename_i l1 h1
   split at h
   ·cases h
   ·rename_i l2 h2
    injection h with h
    subst h
    have q2:=Zez N t path l2 h2 hk.2 hp hs
    have q1:l1.length<=k.cnt/\∀f∈l1,opOk N f:=by
     split at h1
     ·split at h1
      ·rename_i id hid
       split at h1
       ·cases h1
       ·injection h1 with h1
        subst h1
        refine ⟨Zb7 k,λf hf=> ?_⟩
        rw[Zo.1 hf]
        exact Zj6 hk.1 hp hs hid
      ·split at h1
       ·cases h1
       ·split at h1
        ·cases h1
        ·rename_i h64
         refine Zgc N k _ l1 h1 hk.1 (by rw[Zc];show _+1<=_;omega) λu hu=> ?_
         rcases Zt.1 hu with hu|hu
         ·exact hs u hu
         ·rw[Zo.1 hu,Yu]
          exact KT hk.1
     ·injection h1 with h1
      subst h1
      exact ⟨Zk _,by intro f hf;cases hf⟩
    rw[Nds.cnt,Zc]
    refine ⟨by omega,λf hf=> ?_⟩
    rcases Zt.1 hf with hf|hf
    ·exact q1.2 f hf
    ·exact q2.2 f hf
end
mutual
theorem Kx {x c:Nat}:∀(n:Nd) (path:List ByteArray),visP n path= .error (x,c)->c≠0
 | .mk k s nm al ks t a,path,h=>by
  rw[visP] at h
  exact ZbU ks path h
theorem ZbU {x c:Nat}:∀(ks:List Nd) (path:List ByteArray),visKs ks path= .error (x,c)->c≠0
 | [],path,h=>by rw[visKs] at h;cases h
 |k::t,path,h=>by
  rw[visKs] at h
  split at h
  ·rename_i y hy
   injection h with h
   subst h
   split at hy
   ·split at hy
    ·split at hy
     ·injection hy with hy;injection hy with _ hy;omega
     ·cases hy
    ·split at hy
     ·injection hy with hy;injection hy with _ hy;omega
     ·split at hy
      ·injection hy with hy;injection hy with _ hy;omega
      ·exact Kx k _ hy
   ·cases hy
  ·split at h
   ·rename_i y hy
    injection h with h
    subst h
    exact ZbU t path hy
   ·cases h
end
end
def wescB (v:Bool) (c:UInt8):List UInt8:=
 if c=38 then [38,97,109,112,59] else if c=60 then [38,108,116,59] else if c=62 then [38,103,116,59] else if c=13 then [38,35,49,51,59]
 else if v=false then [] else if c=34 then [38,113,117,111,116,59] else if c=9 then [38,35,57,59] else if c=10 then [38,35,49,48,59] else []
def wescC (v:Bool) (c:UInt8):List UInt8:=if wescB v c= [] then [c] else wescB v c
def wescL (v:Bool):List UInt8->List UInt8
 | []=> []
 |c::t=>wescC v c++wescL v t
def attrW (a:AtP):List UInt8:= [32]++a.name++ [61,34]++wescL true a.value++ [34]
def attrsW:List AtP->List UInt8
 | []=> []
 |a::t=>attrW a++attrsW t
mutual
def nodeW:Nd->List UInt8
 | .mk k _ n al ks t _=>if k=1 then wescL false t else [60]++n++attrsW al++(if ks.isEmpty then [47,62] else [62]++nodesW ks++ [60,47]++n++ [62])
def nodesW:List Nd->List UInt8
 | []=> []
 |x::t=>nodeW x++nodesW t
end
def headW:List UInt8:= [60,63,120,109,108,32,118,101,114,115,105,111,110,61,34,49,46,48,34,32,101,110,99,111,100,105,110,103,61,34,85,84,70,45,56,34,63,62,10]
def charsOk (l:List UInt8):Bool:=decide ((check l).2=0)
def attrsOk:List AtP->List (List UInt8)->Bool
 | [],_=>true
 |a::t,seen=>a.space.isEmpty && !(seen.contains a.name) && isQ a.name && charsOk a.value && attrsOk t (seen++ [a.name])
mutual
def nodeOk:Nat->Nd->Bool
 |d,.mk k s n al ks t _=>decide (k=0) && decide (d<=100) && s.isEmpty && t.isEmpty && isQ n && attrsOk al [] && kidsOk d false ks
def kidsOk:Nat->Bool->List Nd->Bool
 |_,_,[]=>true
 |d,data,k::t=>(if k.kind=1 then !data && !k.text.isEmpty && charsOk k.text && k.space.isEmpty && k.name.isEmpty && k.attrs.isEmpty && k.kids.isEmpty else nodeOk (d+1) k) && kidsOk d (decide (k.kind=1)) t
end
def docW (n:Nd):List UInt8:=headW++nodeW n++ [10]
def pairA (p:List UInt8×List UInt8):AtP:=⟨[],p.1,p.2,0⟩
def withP:Nd->List (List UInt8×List UInt8)->Nd
 | .mk k s n al ks t a,ps=> .mk k s n (al++ps.map pairA) ks t a
def elemN (n:List UInt8) (ks:List Nd):Nd:= .mk 0 [] n [] (ks.filter λk=> !(decide (k.kind=1) && k.text.isEmpty)) [] 0
def typeL:List UInt8:= [116,121,112,101]
def rssL:List UInt8:= [114,115,115]
def headL:List UInt8:= [104,101,97,100]
def lst (s:ByteArray):List UInt8:=s.data.toList
def feedN (f:Fd):Nd:=
 let n:=withP (elemN outlineL []) [(typeL,rssL),(textL,lst f.title),(xmlUrlL,lst f.id)]
 if f.link.size=0 then n else withP n [(htmlUrlL,lst f.link)]
def pathAt (f:Fd) (d:Nat):ByteArray:=f.path.getD d (str [])
def foldsP (rec:List Fd->List Nd) (d:Nat):Nat->List Fd->List Nd
 |0,_=> []
 |_+1,[]=> []
 |f+1,x::t=>
  let n:=((x::t).takeWhile λy=>decide (pathAt y d=pathAt x d)).length
  withP (elemN outlineL (rec ((x::t).take n))) [(textL,lst (pathAt x d))]::foldsP rec d f ((x::t).drop n)
def outsP:Nat->Nat->List Fd->List Nd
 |0,_,_=> []
 |f+1,d,l=>(l.takeWhile λx=>decide (x.path.length=d)).map feedN++foldsP (outsP f (d+1)) d (l.length+1) (l.drop (l.takeWhile λx=>decide (x.path.length=d)).length)
def encP (l:List Fd):Nd:=withP (elemN opmlL [elemN headL [],elemN bodyL (outsP 66 0 l)]) [(versionL,twoL)]
section
variable {c d m n:Nat} {l:List Fc} {v:Value} {w:World} {α:Type}
theorem Zbq (l:List Fc) (n:Nat):flatC l=flatC (l.take n)++flatC (l.drop n):=by rw[<-Zbp,Xe]
def hiV (n:Nat):Value->Value
 | .slice A _ c=> .slice (if c=0 then A else A.map (·.add (0*6))) n c
 |v=>v
def loV (n:Nat):Value->Value
 | .slice A m c=> .slice (if c=n then A else A.map (·.add (n*6))) (m - n) (c - n)
 |v=>v
theorem Zi3 {A:Option Addr} (q:n<=c) (h:Wq):(Instr.slice 29 (.slice A m c) none (some (nI (n:Int))) none).run prog h= .ok (hiV n (.slice A m c)) h:=by
 rw[run_slice_h (P:=prog) (w:=h) 29 A m c KZ .i64 (n:Int) (by omega) (by omega),E0];show Result.ok (sliced A 0 ((n:Int).toNat) c 6) h=_;rw[Int.toNat_natCast];rfl
theorem ZcQ {A:Option Addr} (q:n<=m) (h:Wq):(Instr.slice 29 (.slice A m c) (some (nI (n:Int))) none none).run prog h= .ok (loV n (.slice A m c)) h:=by
 rw[run_slice_l (P:=prog) (w:=h) 29 A m c KZ .i64 (n:Int) (by omega) (by omega),E0];show Result.ok (sliced A ((n:Int).toNat) m c 6) h=_;rw[Int.toNat_natCast];rfl
theorem ZiV (n:Nat) (h:RFcs w v l) (U:n<=l.length):RFcs w (hiV n v) (l.take n):=by
 obtain ⟨R,A,c,rfl,S,H,I,J⟩:=h;have D:(l.take n).length=n:=by rw[ZD];omega
 unfold RFcs;rw[D];refine ⟨by rw[UC,D],_,c,rfl,by omega,H,λe=> ?_,λj u F=> ?_⟩
 ·by_cases q:c=0
  ·exact q
  ·rw[Ze q] at e;exact I (by simpa using e)
 ·have Q:(flatC l)[j]? =some u:=by rw[Zbq l n,Y6 (ZM.1 F).1];exact F
  obtain ⟨ad,K,M⟩:=J j u Q;subst K;refine ⟨ad,?_,M⟩;by_cases q:c=0
  ·rw[Zh q]
  ·rw[Ze q];show some (ad.add (0*6))=some ad;rw[Xf,add_zero]
theorem QE (n:Nat) (h:RFcs w v l) (X:n<=l.length):RFcs w (loV n v) (l.drop n):=by
 obtain ⟨U,A,c,rfl,V,J,K,M⟩:=h;have q:(l.drop n).length=l.length - n:=Zj;unfold RFcs;rw[q];refine ⟨by rw[UC,q],_,c - n,rfl,by omega,Zu (GQ _ _) J,λe=> ?_,λj u I=> ?_⟩
 ·by_cases D:c=n
  ·omega
  ·rw[Ze D] at e;have:=K (by simpa using e);omega
 ·have F:j<(flatC (l.drop n)).length:=(ZM.1 I).1;rw[UC,q] at F;have H:(flatC (l.take n)).length=n*6:=by rw[UC,ZD];congr 1;omega
  have S:(flatC l)[n*6+j]? =some u:=by rw[Zbq l n,Yl (by omega),H,show n*6+j - n*6=j by omega];exact I
  obtain ⟨ad,Q,R⟩:=M _ u S;subst Q;have D:c≠n:=by omega
  refine ⟨ad.add (n*6),?_,?_⟩
  ·rw[Ze D];rfl
  ·rw[Vi];exact R
def runN (d:Nat):List Fd->Nat
 | []=>0
 |x::t=>((x::t).takeWhile λy=>decide (pathAt y d=pathAt x d)).length
theorem E1 (d:Nat) (x:Fd) (t:List Fd):0<runN d (x::t):=by
 show 0<((x::t).takeWhile λy=>decide (pathAt y d=pathAt x d)).length;rw[Z9,Zh (by simp)];exact ZeM _
theorem Zkb (d:Nat) (l:List Fd):runN d l<=l.length:=by
 cases l with
 |nil=>exact Zb _
 |cons x t=>exact List.Sublist.length_le (Yp _)
structure Grp where
 name:ByteArray
 v:Value
 l:List Fc
def grps (d:Nat):Nat->Value->List Fc->List Grp
 |0,_,_=> []
 |_+1,_,[]=> []
 |f+1,v,x::t=>⟨pathAt x.f d,hiV (runN d ((x::t).map Fc.f)) v,(x::t).take (runN d ((x::t).map Fc.f))⟩::grps d f (loV (runN d ((x::t).map Fc.f)) v) ((x::t).drop (runN d ((x::t).map Fc.f)))
theorem ZdF:∀(f:Nat) (v:Value) (l:List Fc),RFcs w v l->∀g∈grps d f v l,RFcs w g.v g.l/\g.l≠ []/\∀y∈g.l,y∈l
 |0,_,_,_,g,q=>by cases q
 |_+1,_,[],_,g,q=>by cases q
 |f+1,v,x::t,h,g,q=>by
  have A:runN d ((x::t).map Fc.f)<=(x::t).length:=by have:=Zkb d ((x::t).map Fc.f);rwa [Zs] at this
  have F:0<runN d ((x::t).map Fc.f):=E1 d x.f (t.map Fc.f)
  rw[grps] at q
  rcases ZF.1 q with rfl|q
  ·refine ⟨ZiV _ h A,?_,λy D=>Jb D⟩
   intro e
   have:=Zz List.length e
   rw[ZD] at this
   simp only[Zf,ZK] at this A
   omega
  ·obtain ⟨H,I,J⟩:=ZdF f _ _ (QE _ h A) g q
   exact ⟨H,I,λy D=>YJ (J y D)⟩
theorem Eu (rec:List Fd->List Nd) (d:Nat):∀(f:Nat) (v:Value) (l:List Fc),foldsP rec d f (l.map Fc.f)=(grps d f v l).map λg=>withP (elemN outlineL (rec (g.l.map Fc.f))) [(textL,lst g.name)]
 |0,_,_=>rfl
 |_+1,_,[]=>rfl
 |f+1,v,x::t=>by
  have ih:=Eu rec d f (loV (runN d ((x::t).map Fc.f)) v) ((x::t).drop (runN d ((x::t).map Fc.f)))
  rw[List.map_drop] at ih
  rw[grps,ZP (f:=λg:Grp=>_),<-ih,ZP,foldsP]
  show _::_=_::_
  rw[List.map_take]
  rfl
theorem Zfo {s xs:List α} {x:α} (h:(s++ [x])<+:xs):x∈xs:=h.subset (List.mem_append_right _ ZH)
end
theorem EW (s t:ByteArray) (k:Nat) (w:Wq) (F:s.size<=maxLen) (D:k<=maxLen) (I:t.size<=maxLen) (K:0<t.size):
 Calls prog 98 #[.string s,nI (k:Nat),.string t] w λe w'=>e= .returned (.bool (hasAt s.data.toList k t.data.toList))/\w'=w:=by
 unfold maxLen at F D I;by_cases h:k+t.size<=s.size
 ·have q:(t.size:Int)<=(s.size:Int) - (k:Int):=by omega
  have A:(0:Int)<=(k:Int):=by omega
  have H:=λJ=>Zet s k t.size (t.size:Int) rfl h J;go_enter func98,ntmps98;go_wp2;go_ret;refine ⟨?_,rfl⟩;rw[ZdG,<-ZI t,<-Xk,ZI,<-GL];rfl
 ·have q:¬(t.size:Int)<=(s.size:Int) - (k:Int):=by omega
  have A:(0:Int)<=(k:Int):=by omega
  have e:hasAt s.data.toList k t.data.toList=false:=Ev (by rw[ZI,ZI];omega) (λe=>by have:=Zz List.length e;rw[ZI,ZK] at this;omega);rw[e];go_enter func98,ntmps98;go_wp2;go_ret;exact ⟨rfl,rfl⟩
theorem Uh (s:ByteArray) (k:Nat) (w:Wq) (U:s.size<=16777216) (Q:k<=s.size):
 Calls prog 183 #[.string s,nI (k:Nat)] w λe w'=>e= .returned (nI (spAt s.data.toList k:Nat))/\w'=w:=by
 obtain ⟨R,H⟩:∃R,spAt s.data.toList k=R:=⟨_,rfl⟩;rw[H];go_enter func183,ntmps183;go_wp2;go_loopw [1] (λv wr=>∃j:Nat,j<=s.size/\v=nI j/\Hid (spAt s.data.toList j=R)/\wr=w) (λv _=>s.size - (intOf v).toNat)
 case atStart=>exact ⟨k,Q,rfl,gd H,rfl⟩
 case round=>
  obtain ⟨j,S,rfl,q,rfl⟩:=hrel;by_cases A:j<s.size
  ·have K:(0:Int)<=(j:Int):=(by omega);have M:(j:Int)<(s.size:Int):=(by omega);have I:j<s.data.toList.length:=(by rw[ZI];exact A);have D:s.data.toList[j]=s[j]:=(by rfl);cases hsp:isSp (s[j].toNat) with
   |true=>
    have J:=gd ((ZhM I (by rw[D];exact hsp)).symm.trans q.out);clear q
    go_wp2_with (first|(go_at_call 100;(with_reducible refine Za (Xn _ _) ?_);rintro e w2 ⟨rfl,rfl⟩))
    go_roundw
    case rel=>exact ⟨j+1,A,by go_num,J,by trivial⟩
    case measure=>simp[intOf];omega
   |false=>
    have h:=(ZhN I (by rw[D];exact hsp)).symm.trans q.out;subst h;clear q
    go_wp2_with (first|(go_at_call 100;(with_reducible refine Za (Xn _ _) ?_);rintro e w2 ⟨rfl,rfl⟩))
    go_ret;exact ⟨rfl,rfl⟩
  ·have F:j=s.size:=(by omega);have h:=(Zi9 (s:=s.data.toList) (k:=j) (by rw[ZI];omega)).symm.trans q.out;subst h;clear q;subst F;go_wp2;go_ret;exact ⟨rfl,rfl⟩
theorem Zem (s t:ByteArray) (k:Nat) (w:Wq) (U:s.size<=16777216) (M:k<=s.size) (V:t.size<=16777216) (K:0<t.size):
 Calls prog 145 #[.string s,nI (k:Nat),.string t] w λe w'=>e= .returned (nI (match findAt s.data.toList k t.data.toList with|some i=>(i:Int)|none=> -1))/\w'=w:=by
 obtain ⟨R,H⟩:∃R,findAt s.data.toList k t.data.toList=R:=⟨_,rfl⟩;rw[H];have A:t.data.toList≠ []:=λe=>by have:=Zz List.length e;rw[ZI,ZK] at this;omega
 go_enter func145,ntmps145;go_wp2;go_loopw [7] (λv wr=>∃j:Nat,j<=s.size/\v=nI j/\Hid (findAt s.data.toList j t.data.toList=R)/\wr=w) (λv _=>s.size - (intOf v).toNat)
 case atStart=>exact ⟨k,M,rfl,gd H,rfl⟩
 case round=>
  obtain ⟨j,S,rfl,q,rfl⟩:=hrel;by_cases Q:j+t.size<=s.size
  ·have F:(j:Int)<=(s.size:Int) - (t.size:Int):=(by omega);have I:j<s.data.toList.length:=(by rw[ZI];omega);have D:=gd (λw'=>EW s t j w' (by unfold maxLen;omega) (by unfold maxLen;omega) (by unfold maxLen;omega) K);cases hh:hasAt s.data.toList j t.data.toList with
   |true=>
    have h:=(Ze5 I hh).symm.trans q.out;subst h;rw[hh] at D;clear q
    go_wp2_with (first|(go_at_call 98;(with_reducible refine Za (D.out _) ?_);rintro e w2 ⟨rfl,rfl⟩))
    go_ret;exact ⟨rfl,rfl⟩
   |false=>
    have J:=gd ((Il I hh).symm.trans q.out);rw[hh] at D;clear q
    go_wp2_with (first|(go_at_call 98;(with_reducible refine Za (D.out _) ?_);rintro e w2 ⟨rfl,rfl⟩))
    go_roundw
    case rel=>exact ⟨j+1,by omega,by go_num,J,by trivial⟩
    case measure=>simp[intOf];omega
  ·have F:¬(j:Int)<=(s.size:Int) - (t.size:Int):=(by omega);have h:=(Ze4 (s:=s.data.toList) (k:=j) A (by rw[ZI,ZI];omega)).symm.trans q.out;subst h;clear q;go_wp2;go_ret;exact ⟨rfl,rfl⟩
section
variable {P:Program} {a:Act} {w:World}
def toldR (R:Act->Wq->Prop):Exit->Act->Wq->Prop
 | .normal,a',w'=>R a' w'
 |_,_,_=>False
theorem QP {c:Code} {Q:Exit->Act->Wq->Prop} (R:Act->Wq->Prop) (q:∀a' w',R a' w'->Q .normal a' w') (A:c.wp P (toldR R) a w):c.wp P Q a w:=
 Code.wp_mono (λe a' w' h=>by cases e<;>first|exact q a' w' h|exact h.elim) A
end
def nmA (r:Nat):Bool:=decide ((65<=r/\r<=90)\/(97<=r/\r<=122)\/r=95)
def nmB (r:Nat):Bool:=decide ((192<=r/\r<=767/\r≠215/\r≠247)\/(880<=r/\r<=8191/\r≠894))
def nmC (r:Nat):Bool:=decide (r=8204\/r=8205\/(8304<=r/\r<=8591)\/(11264<=r/\r<=12271)\/(12289<=r/\r<=55295))
def nmD (r:Nat):Bool:=decide ((63744<=r/\r<=64975)\/(65008<=r/\r<=65533)\/(65536<=r/\r<=983039))
theorem ZiM (r:Nat):nmStart r=(nmA r||nmB r||nmC r||nmD r):=rfl
def nmT1 (r:Nat) (w:Wq) (a':Act) (w':Wq):Prop:=∃v u7 u8 u9 u10 u11 u12 u13 u14 u15 u16 u17 u18 u19 u20 u21 u22 u23 u24:Value,v= .bool (nmA r)/\a'={tmps:=#[nI (r:Nat),undef,.bool false,v,undef,undef,undef,u7,u8,u9,u10,u11,u12,u13,u14,u15,u16,u17,u18,u19,u20,u21,u22,u23,u24,undef,undef,undef,undef,undef,undef,undef,undef,undef,undef,undef,undef,undef,undef,undef,undef,undef,undef,undef,undef,undef,undef,undef,undef,undef,undef,undef,undef,undef,undef,undef,undef,undef,undef,undef,undef,undef,undef,undef,undef,undef,undef,undef,undef,undef,undef,undef,undef,undef,undef,undef,undef,undef,undef,undef,undef,undef,undef,undef,undef,undef,undef,undef,undef,undef,undef,undef,undef,undef,undef,undef,undef,undef,undef,undef,undef,undef,undef,undef,undef,undef,undef,undef,undef,undef,undef,undef,undef],defers:= []}/\w=w'
def nmT2 (r:Nat) (u7 u8 u9 u10 u11 u12 u13 u14 u15 u16 u17 u18 u19 u20 u21 u22 u23 u24:Value) (w:Wq) (a':Act) (w':Wq):Prop:=∃v u25 u26 u27 u28 u29 u30 u31 u32 u33 u34 u35 u36 u37 u38 u39 u40 u41 u42 u43 u44 u45 u46 u47 u48 u49 u50:Value,v= .bool (nmB r)/\a'={tmps:=#[nI (r:Nat),undef,.bool false,.bool (nmA r),v,undef,undef,u7,u8,u9,u10,u11,u12,u13,u14,u15,u16,u17,u18,u19,u20,u21,u22,u23,u24,u25,u26,u27,u28,u29,u30,u31,u32,u33,u34,u35,u36,u37,u38,u39,u40,u41,u42,u43,u44,u45,u46,u47,u48,u49,u50,undef,undef,undef,undef,undef,undef,undef,undef,undef,undef,undef,undef,undef,undef,undef,undef,undef,undef,undef,undef,undef,undef,undef,undef,undef,undef,undef,undef,undef,undef,undef,undef,undef,undef,undef,undef,undef,undef,undef,undef,undef,undef,undef,undef,undef,undef,undef,undef,undef,undef,undef,undef,undef,undef,undef,undef,undef,undef,undef,undef,undef,undef],defers:= []}/\w=w'
def nmT3 (r:Nat) (u7 u8 u9 u10 u11 u12 u13 u14 u15 u16 u17 u18 u19 u20 u21 u22 u23 u24 u25 u26 u27 u28 u29 u30 u31 u32 u33 u34 u35 u36 u37 u38 u39 u40 u41 u42 u43 u44 u45 u46 u47 u48 u49 u50:Value) (w:Wq) (a':Act) (w':Wq):Prop:=∃v u51 u52 u53 u54 u55 u56 u57 u58 u59 u60 u61 u62 u63 u64 u65 u66 u67 u68 u69 u70 u71 u72 u73 u74 u75 u76 u77 u78 u79 u80:Value,v= .bool (nmC r)/\a'={tmps:=#[nI (r:Nat),undef,.bool false,.bool (nmA r),.bool (nmB r),v,undef,u7,u8,u9,u10,u11,u12,u13,u14,u15,u16,u17,u18,u19,u20,u21,u22,u23,u24,u25,u26,u27,u28,u29,u30,u31,u32,u33,u34,u35,u36,u37,u38,u39,u40,u41,u42,u43,u44,u45,u46,u47,u48,u49,u50,u51,u52,u53,u54,u55,u56,u57,u58,u59,u60,u61,u62,u63,u64,u65,u66,u67,u68,u69,u70,u71,u72,u73,u74,u75,u76,u77,u78,u79,u80,undef,undef,undef,undef,undef,undef,undef,undef,undef,undef,undef,undef,undef,undef,undef,undef,undef,undef,undef,undef,undef,undef,undef,undef,undef,undef,undef,undef,undef,undef,undef,undef],defers:= []}/\w=w'
def nmT4 (r:Nat) (u7 u8 u9 u10 u11 u12 u13 u14 u15 u16 u17 u18 u19 u20 u21 u22 u23 u24 u25 u26 u27 u28 u29 u30 u31 u32 u33 u34 u35 u36 u37 u38 u39 u40 u41 u42 u43 u44 u45 u46 u47 u48 u49 u50 u51 u52 u53 u54 u55 u56 u57 u58 u59 u60 u61 u62 u63 u64 u65 u66 u67 u68 u69 u70 u71 u72 u73 u74 u75 u76 u77 u78 u79 u80:Value) (w:Wq) (a':Act) (w':Wq):Prop:=∃v u81 u82 u83 u84 u85 u86 u87 u88 u89 u90 u91 u92 u93 u94 u95 u96 u97 u98 u99 u100 u101 u102:Value,v= .bool (nmD r)/\a'={tmps:=#[nI (r:Nat),undef,.bool false,.bool (nmA r),.bool (nmB r),.bool (nmC r),v,u7,u8,u9,u10,u11,u12,u13,u14,u15,u16,u17,u18,u19,u20,u21,u22,u23,u24,u25,u26,u27,u28,u29,u30,u31,u32,u33,u34,u35,u36,u37,u38,u39,u40,u41,u42,u43,u44,u45,u46,u47,u48,u49,u50,u51,u52,u53,u54,u55,u56,u57,u58,u59,u60,u61,u62,u63,u64,u65,u66,u67,u68,u69,u70,u71,u72,u73,u74,u75,u76,u77,u78,u79,u80,u81,u82,u83,u84,u85,u86,u87,u88,u89,u90,u91,u92,u93,u94,u95,u96,u97,u98,u99,u100,u101,u102,undef,undef,undef,undef,undef,undef,undef,undef,undef,undef],defers:= []}/\w=w'
theorem J6 (r:Nat) (w:Wq):Calls prog 213 #[nI (r:Nat)] w λe w'=>e= .returned (.bool (nmStart r))/\w'=w:=by
 rw[ZiM];go_enter func213,ntmps213;refine wp_seq ?_;refine QP (λa' w'=>a'={tmps:=#[nI (r:Nat),undef,.bool false,undef,undef,undef,undef,undef,undef,undef,undef,undef,undef,undef,undef,undef,undef,undef,undef,undef,undef,undef,undef,undef,undef,undef,undef,undef,undef,undef,undef,undef,undef,undef,undef,undef,undef,undef,undef,undef,undef,undef,undef,undef,undef,undef,undef,undef,undef,undef,undef,undef,undef,undef,undef,undef,undef,undef,undef,undef,undef,undef,undef,undef,undef,undef,undef,undef,undef,undef,undef,undef,undef,undef,undef,undef,undef,undef,undef,undef,undef,undef,undef,undef,undef,undef,undef,undef,undef,undef,undef,undef,undef,undef,undef,undef,undef,undef,undef,undef,undef,undef,undef,undef,undef,undef,undef,undef,undef,undef,undef,undef,undef],defers:= []}/\w=w') ?_ (by go_wp2;exact ⟨rfl,rfl⟩);rintro _ _ ⟨rfl,rfl⟩;refine wp_seq ?_;refine QP (λa' w'=>nmT1 r w a' w') ?_ ?_
 case refine_2=>
  go_wp2
  all_goals try (first|((have h:r=95:=(by omega));subst h)|((have h:r=215:=(by omega));subst h)|((have h:r=247:=(by omega));subst h)|((have h:r=894:=(by omega));subst h)|((have h:r=8204:=(by omega));subst h)|((have h:r=8205:=(by omega));subst h))
  all_goals (refine ⟨_,_,_,_,_,_,_,_,_,_,_,_,_,_,_,_,_,_,_,?_,rfl,rfl⟩)
  all_goals (refine Zz Value.bool (Y0.2 ?_);unfold nmA;simp at* <;>omega)
 intro a' w' q;obtain ⟨_,u7,u8,u9,u10,u11,u12,u13,u14,u15,u16,u17,u18,u19,u20,u21,u22,u23,u24,rfl,rfl,rfl⟩:=q;refine wp_seq ?_;refine QP (λa' w'=>nmT2 r u7 u8 u9 u10 u11 u12 u13 u14 u15 u16 u17 u18 u19 u20 u21 u22 u23 u24 w a' w') ?_ ?_
 case refine_2=>
  go_wp2
  all_goals try (first|((have h:r=95:=(by omega));subst h)|((have h:r=215:=(by omega));subst h)|((have h:r=247:=(by omega));subst h)|((have h:r=894:=(by omega));subst h)|((have h:r=8204:=(by omega));subst h)|((have h:r=8205:=(by omega));subst h))
  all_goals (refine ⟨_,_,_,_,_,_,_,_,_,_,_,_,_,_,_,_,_,_,_,_,_,_,_,_,_,_,_,?_,rfl,rfl⟩)
  all_goals (refine Zz Value.bool (Y0.2 ?_);unfold nmB;simp at* <;>omega)
 intro a' w' q;obtain ⟨_,u25,u26,u27,u28,u29,u30,u31,u32,u33,u34,u35,u36,u37,u38,u39,u40,u41,u42,u43,u44,u45,u46,u47,u48,u49,u50,rfl,rfl,rfl⟩:=q;refine wp_seq ?_;refine QP (λa' w'=>nmT3 r u7 u8 u9 u10 u11 u12 u13 u14 u15 u16 u17 u18 u19 u20 u21 u22 u23 u24 u25 u26 u27 u28 u29 u30 u31 u32 u33 u34 u35 u36 u37 u38 u39 u40 u41 u42 u43 u44 u45 u46 u47 u48 u49 u50 w a' w') ?_ ?_
 case refine_2=>
  go_wp2
  all_goals try (first|((have h:r=95:=(by omega));subst h)|((have h:r=215:=(by omega));subst h)|((have h:r=247:=(by omega));subst h)|((have h:r=894:=(by omega));subst h)|((have h:r=8204:=(by omega));subst h)|((have h:r=8205:=(by omega));subst h))
  all_goals (refine ⟨_,_,_,_,_,_,_,_,_,_,_,_,_,_,_,_,_,_,_,_,_,_,_,_,_,_,_,_,_,_,_,?_,rfl,rfl⟩)
  all_goals (refine Zz Value.bool (Y0.2 ?_);unfold nmC;simp at* <;>omega)
 intro a' w' q;obtain ⟨_,u51,u52,u53,u54,u55,u56,u57,u58,u59,u60,u61,u62,u63,u64,u65,u66,u67,u68,u69,u70,u71,u72,u73,u74,u75,u76,u77,u78,u79,u80,rfl,rfl,rfl⟩:=q;refine wp_seq ?_;refine QP (λa' w'=>nmT4 r u7 u8 u9 u10 u11 u12 u13 u14 u15 u16 u17 u18 u19 u20 u21 u22 u23 u24 u25 u26 u27 u28 u29 u30 u31 u32 u33 u34 u35 u36 u37 u38 u39 u40 u41 u42 u43 u44 u45 u46 u47 u48 u49 u50 u51 u52 u53 u54 u55 u56 u57 u58 u59 u60 u61 u62 u63 u64 u65 u66 u67 u68 u69 u70 u71 u72 u73 u74 u75 u76 u77 u78 u79 u80 w a' w') ?_ ?_
 case refine_2=>
  go_wp2
  all_goals try (first|((have h:r=95:=(by omega));subst h)|((have h:r=215:=(by omega));subst h)|((have h:r=247:=(by omega));subst h)|((have h:r=894:=(by omega));subst h)|((have h:r=8204:=(by omega));subst h)|((have h:r=8205:=(by omega));subst h))
  all_goals (refine ⟨_,_,_,_,_,_,_,_,_,_,_,_,_,_,_,_,_,_,_,_,_,_,_,?_,rfl,rfl⟩)
  all_goals (refine Zz Value.bool (Y0.2 ?_);unfold nmD;simp at* <;>omega)
 intro a' w' q;obtain ⟨_,u81,u82,u83,u84,u85,u86,u87,u88,u89,u90,u91,u92,u93,u94,u95,u96,u97,u98,u99,u100,u101,u102,rfl,rfl,rfl⟩:=q;cases nmA r<;>cases nmB r<;>cases nmC r<;>cases nmD r
 all_goals (go_wp2;go_ret;exact ⟨rfl,rfl⟩)
section
variable {k r:Nat}
theorem Qe (r:Nat) (w:Wq):Calls prog 212 #[nI (r:Nat)] w λe w'=>e= .returned (.bool (nmChar r))/\w'=w:=by
 have h:=gd (J6 r w);unfold nmChar;cases hs:nmStart r with
 |true=>
  rw[hs] at h;rw[Bool.true_or];clear hs;go_enter func212,ntmps212
  go_wp2_with (first|(go_at_call 213;(with_reducible refine Za h.out ?_);rintro e w2 ⟨rfl,rfl⟩))
  go_ret;exact ⟨rfl,rfl⟩
 |false=>
  rw[hs] at h;rw[Bool.false_or];clear hs;go_enter func212,ntmps212
  go_wp2_with (first|(go_at_call 213;(with_reducible refine Za h.out ?_);rintro e w2 ⟨rfl,rfl⟩))
  all_goals (go_ret;refine ⟨?_,rfl⟩)
  all_goals (refine Zz (λb=>Ending.returned (.bool b)) (Y0.2 ?_);simp at* <;>omega)
theorem NmPre.snoc {c:Bool}:∀{first:Bool} {l:List UInt8} {k:Nat},NmPre c first l k->(dec (l.drop k)).2≠0->nmOk c (first && decide (k=0)) (dec (l.drop k)).1=true->NmPre c first l (k+(dec (l.drop k)).2)
 |first,l,_,.zero _ _,h0,hok=>by
  rw[JH] at*
  rw[Ym]
  have:=NmPre.step (k:=0) h0 (by simpa using hok) (NmPre.zero false _)
  exact this
 |first,l,_,.step (k:=k) h0 hok0 t,h1,hok=>by
  have h:(first && decide ((dec l).2+k=0))=(false && decide (k=0)):=by
   rw[YG (show ¬(dec l).2+k=0 by omega)]
   simp
  rw[h] at hok
  rw[<-List.drop_drop] at h1 hok|-
  have:=NmPre.step h0 hok0 (t.snoc h1 hok)
  rw[Nat.add_assoc]
  exact this
theorem Ey {l:List UInt8} (h:NmPre true true l k) (F:k<l.length) (D:(dec (l.drop k)).2=0\/nmOk true (decide (k=0)) (dec (l.drop k)).1=false):isQ l=false/\nmLen true l=k:=by
 have q:=h.go.2;have e:=Jl (c:=true) (f:=l.length) (first:=true && decide (k=0)) (l:=l.drop k) (Or.inr (by simpa using D));rw[e,Nat.add_zero] at q;refine ⟨?_,q⟩;have A:nmLen true l=k:=q;unfold isQ;rw[A];exact YG (by omega)
theorem ZdK {l:List UInt8} (h:NmPre true true l l.length):isQ l=decide (0<l.length)/\nmLen true l=l.length:=by
 have q:=h.go.2;rw[ZC (Zb _),Un] at q;refine ⟨?_,q⟩;unfold isQ nmLen;rw[q];simp
theorem Zfu (first:Bool):nmOk true first 58=true:=rfl
theorem IP (h:r≠58) (first:Bool):nmOk true first r=if first then nmStart r else nmChar r:=by
 unfold nmOk;rw[Zy.2 h];simp
theorem Kg (h:nmChar r=false):nmStart r=false:=by
 unfold nmChar at h;rw[Bool.or_eq_false_iff] at h;exact h.1
theorem ZfI (s:ByteArray) (w:Wq) (hs:s.size<=16777216):
 Calls prog 180 #[.string s] w λe w'=>e= .returned (.bool (isQ s.data.toList))/\Ext w w':=by
 have hh:s.size<=maxLen:=by unfold maxLen;omega
 have hj:=ZI s;obtain ⟨R0,V⟩:∃b,isQ s.data.toList=b:=⟨_,rfl⟩;rw[V];have ha:=gd V;clear V;go_enter func180,ntmps180;go_wp2;go_loopw [3,4,5] (λv _ _ wr=>∃k:Nat,k<=s.size/\v=nI k/\Hid (NmPre true true s.data.toList k)/\Ext w wr) (λv _ _ _=>s.size - (intOf v).toNat)
 case atStart=>exact ⟨0,Zk _,rfl,gd (.zero _ _),Ext.refl _⟩
 case round=>
  obtain ⟨k,hk,rfl,hp,S⟩:=hrel;by_cases hd:k<s.size
  ·have hc:=Up (s.data.toList.drop k);rw[Zj,ZI] at hc;have M:=Uv s k wr hd hh;have Y:((dec (s.data.toList.drop k)).2=0\/nmOk true (decide (k=0)) (dec (s.data.toList.drop k)).1=false)->R0=false:=λh=>ha.out.symm.trans (Ey hp.out (by rw[ZI];exact hd) h).1;have X:(dec (s.data.toList.drop k)).2≠0->nmOk true (decide (k=0)) (dec (s.data.toList.drop k)).1=true->NmPre true true s.data.toList (k+(dec (s.data.toList.drop k)).2):=λh1 h2=>hp.out.snoc h1 (by simpa using h2);obtain ⟨R,hR⟩:∃R,(dec (s.data.toList.drop k)).1=R:=⟨_,rfl⟩;obtain ⟨K,hK⟩:∃K,(dec (s.data.toList.drop k)).2=K:=⟨_,rfl⟩;rw[hR,hK] at M Y X;rw[hK] at hc;have U:=gd M;have F:=gd Y;have D:=gd X;have H:=gd (λw'=>Qe R w');have I:=gd (λw'=>J6 R w');clear M Y X hR hK hp;by_cases h0:K=0
   ·subst h0;have Q:=F.out (Or.inl rfl);subst Q
    go_wp2_with (first|(go_at_call 139;(with_reducible refine Za U.out ?_);rintro e w2 ⟨rfl,q⟩))
    go_ret;exact ⟨rfl,S.trans q⟩
   ·have hb:((K:Int)==0)=false:=(by rw[Zy];omega);by_cases A:R=58
    ·subst A;have J:=gd (D.out h0 (Zfu _));clear F D H I;by_cases Z:k=0
     ·subst Z
      go_wp2_with (first|(go_at_call 139;(with_reducible refine Za U.out ?_);rintro e w2 ⟨rfl,q⟩))
      go_roundw
      case rel=>exact ⟨0+K,by omega,by go_num,J,S.trans q⟩
      case measure=>simp[intOf];omega
     ·have he:((k:Int)==0)=false:=by rw[Zy];omega
      go_wp2_with (first|(go_at_call 139;(with_reducible refine Za U.out ?_);rintro e w2 ⟨rfl,q⟩))
      go_roundw
      case rel=>exact ⟨k+K,by omega,by go_num,J,S.trans q⟩
      case measure=>simp[intOf];omega
    ·have hl:((R:Int) !=58)=true:=(by simp;omega);cases hnc:nmChar R with
     |false=>
      have Q:=F.out (Or.inr (by rw[IP A,hnc,Kg hnc];simp));subst Q;rw[hnc] at H;clear F D I A
      go_wp2_with (first|(go_at_call 139;(with_reducible refine Za U.out ?_);rintro e w2 ⟨rfl,q⟩)|(go_at_call 212;(with_reducible refine Za (H.out _) ?_);rintro e w3 ⟨rfl,rfl⟩))
      go_ret;exact ⟨rfl,S.trans q⟩
     |true=>
      rw[hnc] at H;by_cases Z:k=0
      ·subst Z;cases hns:nmStart R with
       |false=>
        have Q:=F.out (Or.inr (by rw[IP A,hns];simp));subst Q;rw[hns] at I;clear F D A
        go_wp2_with (first|(go_at_call 139;(with_reducible refine Za U.out ?_);rintro e w2 ⟨rfl,q⟩)|(go_at_call 212;(with_reducible refine Za (H.out _) ?_);rintro e w3 ⟨rfl,rfl⟩)|(go_at_call 213;(with_reducible refine Za (I.out _) ?_);rintro e w3 ⟨rfl,rfl⟩))
        go_ret;exact ⟨rfl,S.trans q⟩
       |true=>
        have J:=gd (D.out h0 (by rw[IP A,hns];simp));rw[hns] at I;clear F D A
        go_wp2_with (first|(go_at_call 139;(with_reducible refine Za U.out ?_);rintro e w2 ⟨rfl,q⟩)|(go_at_call 212;(with_reducible refine Za (H.out _) ?_);rintro e w3 ⟨rfl,rfl⟩)|(go_at_call 213;(with_reducible refine Za (I.out _) ?_);rintro e w3 ⟨rfl,rfl⟩))
        go_roundw
        case rel=>exact ⟨0+K,by omega,by go_num,J,S.trans q⟩
        case measure=>simp[intOf];omega
      ·have he:((k:Int)==0)=false:=(by rw[Zy];omega);have J:=gd (D.out h0 (by rw[IP A,hnc,YG Z];simp));clear F D I A
       go_wp2_with (first|(go_at_call 139;(with_reducible refine Za U.out ?_);rintro e w2 ⟨rfl,q⟩)|(go_at_call 212;(with_reducible refine Za (H.out _) ?_);rintro e w3 ⟨rfl,rfl⟩))
       go_roundw
       case rel=>exact ⟨k+K,by omega,by go_num,J,S.trans q⟩
       case measure=>simp[intOf];omega
  ·have hg:k=s.size:=(by omega);subst hg;have Q:=ha.out.symm.trans (ZdK (by rw[ZI];exact hp.out)).1;rw[ZI] at Q;by_cases Z:0<s.size
   ·have hi:(0:Int)<(s.size:Int):=(by omega);rw[YQ Z] at Q;subst Q;go_wp2;go_ret;exact ⟨rfl,S⟩
   ·have hi:¬(0:Int)<(s.size:Int):=(by omega);rw[YG Z] at Q;subst Q;go_wp2;go_ret;exact ⟨rfl,S⟩
end
theorem QG (s:ByteArray) (k:Nat) (w:Wq) (hs:s.size<=16777216) (hk:k<=s.size):
 Calls prog 182 #[.string s,nI (k:Nat)] w λe w'=>e= .returned (nI (nmAt s.data.toList k:Nat))/\Ext w w':=by
 have hm:s.size<=maxLen:=by unfold maxLen;omega
 obtain ⟨l,hl⟩:∃l,s.data.toList.drop k=l:=⟨_,rfl⟩;have hu:l.length=s.size - k:=by rw[<-hl,Zj,ZI]
 have S:nmAt s.data.toList k=k+nmLen true l:=by unfold nmAt;rw[hl]
 rw[S];obtain ⟨R0,V⟩:∃n,k+nmLen true l=n:=⟨_,rfl⟩;rw[V];have U:=gd V;have HL:=gd hl;clear V S hl;have hq:(0:Int)<=(k:Int):=by omega
 go_enter func182,ntmps182;go_wp2;go_loopw [5,6,7] (λv _ _ wr=>∃j:Nat,k+j<=s.size/\v=nI ((k+j:Nat):Int)/\Hid (NmPre true true l j)/\Ext w wr) (λv _ _ _=>s.size - (intOf v).toNat)
 case atStart=>exact ⟨0,hk,rfl,gd (.zero _ _),Ext.refl _⟩
 case round=>
  obtain ⟨j,hj,rfl,hp,hx⟩:=hrel;obtain ⟨J,M⟩:∃J,k+j=J:=⟨_,rfl⟩;by_cases hi:k+j<s.size
  ·have hd:s.data.toList.drop (k+j)=l.drop j:=(by rw[<-HL.out,List.drop_drop]);have hg:=Up (l.drop j);rw[Zj] at hg;have A:=Uv s (k+j) wr hi hm;rw[hd] at A;have Y:j<l.length:=(by omega);have ha:((dec (l.drop j)).2=0\/nmOk true (decide (j=0)) (dec (l.drop j)).1=false)->R0=k+j:=λh=>(by rw[<-U.out,(Ey hp.out Y h).2]);have Z:(dec (l.drop j)).2≠0->nmOk true (decide (j=0)) (dec (l.drop j)).1=true->NmPre true true l (j+(dec (l.drop j)).2)/\isQ (l.take (j+(dec (l.drop j)).2))=true:=λh1 h2=>(by have h3:=hp.out.snoc h1 (by simpa using h2);exact ⟨h3,ZjS h3 (by omega)⟩);have F:(dec (l.drop j)).2≠0->nmOk true (decide (j=0)) (dec (l.drop j)).1=false->isQ (l.take (j+(dec (l.drop j)).2))=false:=λh1 h2=>ZjT hp.out h1 h2;obtain ⟨R,hR⟩:∃R,(dec (l.drop j)).1=R:=⟨_,rfl⟩;obtain ⟨K,hK⟩:∃K,(dec (l.drop j)).2=K:=⟨_,rfl⟩;rw[hR,hK] at A ha Z F;rw[hK] at hg;have X:(s.extract k (k+(j+K))).data.toList=l.take (j+K):=(by rw[Xk,HL.out]);have HQ:=gd (λw'=>ZfI (s.extract k (k+(j+K))) w' (by
    have:(s.extract k (k+(j+K))).size=(s.extract k (k+(j+K))).data.toList.length:=rfl;rw[this,X,ZD];omega))
   rw[X] at HQ;have hv:∀wx,(Instr.slice 9 (.string s) (some (nI (k:Nat))) (some (nI ((J:Nat)+(K:Int)))) none).run prog wx= .ok (.string (s.extract k (k+(j+K)))) wx:=λwx=>(by have:=Zet s k (j+K) ((j:Int)+(K:Int)) (by omega) (by omega) wx;rw[show ((k:Nat):Int)+((j:Int)+(K:Int))=((J:Nat):Int)+(K:Int) by omega] at this;exact this);have HC:=gd A;have D:=gd ha;have I:=gd Z;have q:=gd F;clear A ha Z F hR hK hp hd X;rw[M] at HC|-;have HJ:=gd M;have hr:(J:Int)<(s.size:Int):=(by omega);have ht:J<s.size:=(by omega);by_cases h0:K=0
   ·subst h0;have Q:=D.out (Or.inl rfl);rw[M] at Q;subst Q;clear D I q HQ M
    go_wp2_with (first|(go_at_call 139;(with_reducible refine Za HC.out ?_);rintro e w2 ⟨rfl,H⟩))
    go_ret;exact ⟨rfl,hx.trans H⟩
   ·have hb:((K:Int)==0)=false:=(by rw[Zy];omega);cases hok:nmOk true (decide (j=0)) R with
    |false=>
     have Q:=D.out (Or.inr hok);rw[M] at Q;subst Q;rw[q.out h0 hok] at HQ;clear D I q M hok
     go_wp2_with (first|(go_at_call 139;(with_reducible refine Za HC.out ?_);rintro e w2 ⟨rfl,H⟩)|(go_at_call 180;(with_reducible refine Za (HQ.out _) ?_);rintro e w3 ⟨rfl,hc⟩))
     go_ret;exact ⟨rfl,(hx.trans H).trans hc⟩
    |true=>
     obtain ⟨h1,h2⟩:=I.out h0 hok;rw[h2] at HQ;have hh:=gd h1;clear D I q M hok h1 h2
     go_wp2_with (first|(go_at_call 139;(with_reducible refine Za HC.out ?_);rintro e w2 ⟨rfl,H⟩)|(go_at_call 180;(with_reducible refine Za (HQ.out _) ?_);rintro e w3 ⟨rfl,hc⟩))
     go_roundw
     case rel=>have he:=HJ.out;exact ⟨j+K,by omega,by rw[<-Nat.add_assoc,he];go_num,hh,(hx.trans H).trans hc⟩
     case measure=>have he:=HJ.out;simp[intOf];omega
  ·have Q:R0=k+j:=(by have hn:=hp.out;have Y:j=l.length:=(by omega);subst Y;rw[<-U.out,(ZdK hn).2]);rw[M] at Q;subst Q;have ho:¬((R0:Int)<(s.size:Int)):=(by omega);rw[M];clear U hp;go_wp2;go_ret;exact ⟨rfl,hx⟩
theorem Xo (s:ByteArray) (a b:Nat) (w:Wq) (A:s.size<=maxLen):
 Calls prog 184 #[.string s,nI (a:Nat),nI (b:Nat)] w λe w'=>
  e= .returned (.tuple #[nI ((missP s.data.toList a b).1:Nat),nI ((missP s.data.toList a b).2:Nat)])/\w'=w:=by
 unfold missP;rw[ZI];by_cases h:s.size<=b
 ·have q:(s.size:Int)<=(b:Int):=by omega
  rw[Zh h];go_enter func184,ntmps184;go_wp2
  go_ret2
  exact ⟨rfl,rfl⟩
 ·have q:¬(s.size:Int)<=(b:Int):=by omega
  rw[Ze h];go_enter func184,ntmps184;go_wp2
  go_ret2
  exact ⟨rfl,rfl⟩
theorem Kn (s:ByteArray) (w:Wq) (hs:s.size<=16777216):
 Calls prog 142 #[.string s] w λe w'=>e= .returned (.string (str (lns s.data.toList)))/\Ext w w':=by
 obtain ⟨i0,Y,Z,ha,hd⟩:=Yw Ka;have hm:=ZI s;go_enter func142,ntmps142;go_wp2;go_loopw [3,4] (λv i wr=>∃(k:Nat) (out:List UInt8),k<=s.size/\i=nI k/\Hid (out.length<=k)/\
  wr.ownsRow w.heap.size 5 1 v out.length (Lib.byteCells out)/\Hid (lns s.data.toList=out++lns (s.data.toList.drop k))/\Ext w wr) (λ_ i _=>s.size - (intOf i).toNat)
 case atStart=>exact ⟨0,[],Zk _,rfl,Zb _,YL _ _ _ _,rfl,Ext.refl _⟩
 case round=>
  obtain ⟨k,out,hk,rfl,J,F,S,hx⟩:=hrel;have ho:=hx.size;have U:out.length<=k:=J.out;by_cases hn:k<s.size
  ·have hl:k<s.data.toList.length:=(by omega);have hj:s.data.toList[k]=s[k]:=rfl;by_cases H:s[k]=13
   ·have hb:(((s[k]).toNat:Int)==13)=true:=(by rw[H];rfl);by_cases h2:k+1<s.size
    ·have hg:((k:Int)+1<(s.size:Int)):=(by omega);have hi:k+1<s.data.toList.length:=(by omega);by_cases Q:s[k+1]=10
     ·have hh:(((s[k+1]).toNat:Int)==10)=true:=(by rw[Q];rfl);have V:=gd (S.out.trans (by rw[ZiH hi H Q]));clear S J H Q;go_wp2;go_roundw
      case rel=>exact ⟨k+1,out,by omega,by go_num,Nat.le_succ_of_le U,F,V,hx⟩
      case measure=>simp[intOf];omega
     ·have hh:(((s[k+1]).toNat:Int)==10)=false:=(by rw[Zy];intro e;exact Q (YF.1 (by simpa using (show (s[k+1]).toNat=10 by omega))));have V:=gd (S.out.trans (by rw[KR hl (λ_ h=>Q h.2),Zh (show s.data.toList[k]=13 from H),List.append_cons]));have HL:Hid ((out++ [10]).length<=k+1):=(by show _<=_;rw[Zc];exact Nat.succ_le_succ U);clear S J H Q;have D:=F;obtain ⟨_,A,c,rfl,hf,he,_,_⟩:=RSl.of_own F
      go_wp2_with (first|(at_builtin;refine ZJ _ rfl (.tmp 33) (.tmp 34) _ rfl w.heap.size 5 i0 _ 1 1 underlying94 Y Z ha hd rfl (by omega) _ _ _ rfl (D.alloc _) _ 1 _ rfl (Yn (cs:= [.int .u8 10]) (by simp) (by unfold maxLen;omega)) (KF [10]) (by unfold maxLen;omega) (by omega) (by simp;omega) ?_;intro v1 w1 q M K))
      have R:Ext w w1:=(hx.alloc _).app M (D.alloc _) (Zb _);have I:w1.ownsRow w.heap.size 5 1 v1 (out++ [10]).length (Lib.byteCells (out++ [10])):=(by rw[Y2,Zc];exact q);clear M K q;go_wp2;go_roundw
      case rel=>exact ⟨k+1,out++ [10],by omega,by go_num,HL,I,V,R⟩
      case measure=>simp[intOf];omega
    ·have hg:¬((k:Int)+1<(s.size:Int)):=(by omega);have V:=gd (S.out.trans (by rw[KR hl (λh _=>h2 (by omega)),Zh (show s.data.toList[k]=13 from H),List.append_cons]));have HL:Hid ((out++ [10]).length<=k+1):=(by show _<=_;rw[Zc];exact Nat.succ_le_succ U);clear S J H;have D:=F;obtain ⟨_,A,c,rfl,hf,he,_,_⟩:=RSl.of_own F
     go_wp2_with (first|(at_builtin;refine ZJ _ rfl (.tmp 33) (.tmp 34) _ rfl w.heap.size 5 i0 _ 1 1 underlying94 Y Z ha hd rfl (by omega) _ _ _ rfl (D.alloc _) _ 1 _ rfl (Yn (cs:= [.int .u8 10]) (by simp) (by unfold maxLen;omega)) (KF [10]) (by unfold maxLen;omega) (by omega) (by simp;omega) ?_;intro v1 w1 q M K))
     have R:Ext w w1:=(hx.alloc _).app M (D.alloc _) (Zb _);have I:w1.ownsRow w.heap.size 5 1 v1 (out++ [10]).length (Lib.byteCells (out++ [10])):=(by rw[Y2,Zc];exact q);clear M K q;go_wp2;go_roundw
     case rel=>exact ⟨k+1,out++ [10],by omega,by go_num,HL,I,V,R⟩
     case measure=>simp[intOf];omega
   ·have hb:(((s[k]).toNat:Int)==13)=false:=(by rw[Zy];intro e;exact H (YF.1 (by simpa using (show (s[k]).toNat=13 by omega))));have V:=gd (S.out.trans (by rw[KR hl (λ_ h=>H h.1),Ze (show ¬s.data.toList[k]=13 from H),List.append_cons]));rw[hj] at V;have HL:Hid ((out++ [s[k]]).length<=k+1):=(by show _<=_;rw[Zc];exact Nat.succ_le_succ U);clear S J H;have D:=F;obtain ⟨_,A,c,rfl,hf,he,_,_⟩:=RSl.of_own F
    go_wp2_with (first|(at_builtin;refine ZJ _ rfl (.tmp 36) (.tmp 40) _ rfl w.heap.size 5 i0 _ 1 1 underlying94 Y Z ha hd rfl (by omega) _ _ _ rfl (D.alloc _) _ 1 _ rfl (Yn (cs:= [.int .u8 s[k].toNat]) (by simp) (by unfold maxLen;omega)) (KF [s[k]]) (by unfold maxLen;omega) (by omega) (by simp;omega) ?_;intro v1 w1 q M K))
    have R:Ext w w1:=(hx.alloc _).app M (D.alloc _) (Zb _);have I:w1.ownsRow w.heap.size 5 1 v1 (out++ [s[k]]).length (Lib.byteCells (out++ [s[k]])):=(by rw[Y2,Zc];exact q);clear M K q;go_wp2;go_roundw
    case rel=>exact ⟨k+1,out++ [s[k]],by omega,by go_num,HL,I,V,R⟩
    case measure=>simp[intOf];omega
  ·have X:lns s.data.toList=out:=(by rw[S.out,ZjW (by omega),Yi]);have HF:Hid (lns s.data.toList=out):=X;have kc:=Zh9 wr _ _ out F;clear X S J;go_wp2;go_ret;exact ⟨by rw[<-HF.out];rfl,hx⟩
def iopt (o:Option Nat):Int:=match o with|some n=>(n:Int)|none=> -1
theorem ZjP (c:UInt8):hexV c<=16:=by
 unfold hexV;split
 ·omega
 ·split
  ·omega
  ·split<;>omega
theorem ZcI (c:UInt8) (w:Wq):Calls prog 232 #[.int .u8 (c.toNat:Nat)] w λe w'=>e= .returned (nI (hexV c:Nat))/\w'=w:=by
 obtain ⟨n,J⟩:∃n,c.toNat=n:=⟨_,rfl⟩;have M:n<256:=by rw[<-J];exact c.toNat_lt
 unfold hexV;rw[J];by_cases h:48<=n/\n<=57
 ·rw[Zh h];obtain ⟨h,q⟩:=h;have A:(48:Int)<=(n:Int):=by omega
  have D:(n:Int)<=57:=by omega
  go_enter func232,ntmps232;go_wp2;go_ret;exact ⟨by go_num,rfl⟩
 ·rw[Ze h];by_cases q:97<=n/\n<=102
  ·rw[Zh q];obtain ⟨q,F⟩:=q;have A:(48:Int)<=(n:Int):=(by omega);have D:¬(n:Int)<=57:=(by omega);have H:(97:Int)<=(n:Int):=(by omega);have I:(n:Int)<=102:=(by omega);clear h;go_enter func232,ntmps232;go_wp2;go_ret;exact ⟨by go_num,rfl⟩
  ·rw[Ze q];by_cases F:65<=n/\n<=70
   ·rw[Zh F];obtain ⟨F,Q⟩:=F;have A:(48:Int)<=(n:Int):=(by omega);have D:¬(n:Int)<=57:=(by omega);have H:¬(97:Int)<=(n:Int):=(by omega);have I:(65:Int)<=(n:Int):=(by omega);have K:(n:Int)<=70:=(by omega);clear h q;go_enter func232,ntmps232;go_wp2;go_ret;exact ⟨by go_num,rfl⟩
   ·rw[Ze F];go_enter func232,ntmps232;go_wp2
    all_goals (go_ret;exact ⟨by go_num,rfl⟩)
theorem ZcK (s:ByteArray) (w:Wq):
 Calls prog 214 #[.string s] w λe w'=>e= .returned (nI (iopt (namedL s.data.toList)))/\w'=w:=by
 obtain ⟨R,h⟩:∃R,namedL s.data.toList=R:=⟨_,rfl⟩;rw[h];unfold namedL at h;go_enter func214,ntmps214;by_cases q:s.data.toList= [108,116]
 ·have I:(s.toList== [108,116])=true:=by rw[Z2,q];rfl
  rw[Zh q] at h;subst h;clear q;go_wp2;go_ret;exact ⟨rfl,rfl⟩
 ·have I:(s.toList== [108,116])=false:=by rw[Z2];simpa using q
  rw[Ze q] at h;clear q;by_cases A:s.data.toList= [103,116]
  ·have J:(s.toList== [103,116])=true:=(by rw[Z2,A];rfl);rw[Zh A] at h;subst h;clear A;go_wp2;go_ret;exact ⟨rfl,rfl⟩
  ·have J:(s.toList== [103,116])=false:=(by rw[Z2];simpa using A);rw[Ze A] at h;clear A;by_cases D:s.data.toList= [97,109,112]
   ·have K:(s.toList== [97,109,112])=true:=(by rw[Z2,D];rfl);rw[Zh D] at h;subst h;clear D;go_wp2;go_ret;exact ⟨rfl,rfl⟩
   ·have K:(s.toList== [97,109,112])=false:=(by rw[Z2];simpa using D);rw[Ze D] at h;clear D;by_cases F:s.data.toList= [97,112,111,115]
    ·have M:(s.toList== [97,112,111,115])=true:=(by rw[Z2,F];rfl);rw[Zh F] at h;subst h;clear F;go_wp2;go_ret;exact ⟨rfl,rfl⟩
    ·have M:(s.toList== [97,112,111,115])=false:=(by rw[Z2];simpa using F);rw[Ze F] at h;clear F;by_cases H:s.data.toList= [113,117,111,116]
     ·have Q:(s.toList== [113,117,111,116])=true:=(by rw[Z2,H];rfl);rw[Zh H] at h;subst h;clear H;go_wp2;go_ret;exact ⟨rfl,rfl⟩
     ·have Q:(s.toList== [113,117,111,116])=false:=(by rw[Z2];simpa using H);rw[Ze H] at h;clear H;subst h;go_wp2;go_ret;exact ⟨rfl,rfl⟩
theorem Gi (s:ByteArray) (base:Nat) (w:Wq) (hs:s.size<=16777216) (hb:0<base) (S:base<=16):
 Calls prog 215 #[.string s,nI (base:Nat)] w λe w'=>e= .returned (nI (iopt (numL base s.data.toList)))/\w'=w:=by
 obtain ⟨R,F⟩:∃R,numL base s.data.toList=R:=⟨_,rfl⟩;rw[F];unfold numL at F;have ha:=ZI s;go_enter func215,ntmps215;by_cases D:s.data.toList= []
 ·have b0:(s.toList== [])=true:=by rw[Z2,D];rfl
  rw[Zh D] at F;subst F;clear D;go_wp2;go_ret;exact ⟨rfl,rfl⟩
 ·have b0:(s.toList== [])=false:=by rw[Z2];simpa using D
  rw[Ze D] at F;clear D;go_wp2;go_loopw [5,6] (λv i wr=>∃(k n:Nat),k<=s.size/\v=nI n/\n<=2000000/\i=nI k/\Hid (numGo base (s.data.toList.drop k) n=R)/\wr=w) (λ_ i _=>s.size - (intOf i).toNat)
  case atStart=>exact ⟨0,0,Zk _,rfl,Zk _,rfl,gd F,rfl⟩
  case round=>
   obtain ⟨k,n,hk,rfl,hn,rfl,M,rfl⟩:=hrel;by_cases hc:k<s.size
   ·have hl:k<s.data.toList.length:=(by omega);have h:=M.out;rw[Zi hl,numGo,show s.data.toList[k]=s[k] from rfl] at h;have K:=gd (λw'=>ZcI s[k] w');have Q:=ZjP s[k];obtain ⟨d,hd⟩:∃d,hexV s[k]=d:=⟨_,rfl⟩;rw[hd] at h K Q;clear M hd;by_cases H:base<=d
    ·have U:(base:Int)<=(d:Int):=(by omega);rw[Zh H] at h;subst h
     go_wp2_with (first|(go_at_call 232;(with_reducible refine Za (K.out _) ?_);rintro e w2 ⟨rfl,rfl⟩))
     go_ret;exact ⟨rfl,rfl⟩
    ·have U:¬(base:Int)<=(d:Int):=(by omega);rw[Ze H] at h;obtain ⟨m,V⟩:∃m,n*base+d=m:=⟨_,rfl⟩;have Y:n*base<=2000000*16:=Nat.mul_le_mul hn S;rw[V] at h;have X:(n:Int)*(base:Int)+(d:Int)=(m:Int):=(by rw[<-V];push_cast;rfl);have q:(n:Int)*(base:Int)=((n*base:Nat):Int):=(by push_cast;rfl);obtain ⟨nb,Z⟩:∃nb,n*base=nb:=⟨_,rfl⟩;rw[Z] at q Y V;have hf:Value.int .i64 (wrap64 ((n:Int)*(base:Int)))=nI (nb:Nat):=Zz (Value.int .i64) ((IntWalk.wrap64_in _ (by rw[q];omega)).trans q);have HR:=gd h;clear h X;by_cases he:2000000<m
     ·have J:(2000000:Int)<(nb:Int)+(d:Int):=(by omega);have A:Hid (numGo base (List.drop (k+1) s.data.toList) 2000000=R):=by have:=HR.out;rw[Nat.min_eq_right (by omega)] at this;exact this
      go_wp2_with (first|(go_at_call 232;(with_reducible refine Za (K.out _) ?_);rintro e w2 ⟨rfl,rfl⟩))
      go_roundw
      case rel=>exact ⟨k+1,2000000,by omega,rfl,by omega,by go_num,A,by trivial⟩
      case measure=>simp[intOf];omega
     ·have J:¬(2000000:Int)<(nb:Int)+(d:Int):=(by omega);have A:Hid (numGo base (List.drop (k+1) s.data.toList) m=R):=by have:=HR.out;rw[Nat.min_eq_left (by omega)] at this;exact this
      go_wp2_with (first|(go_at_call 232;(with_reducible refine Za (K.out _) ?_);rintro e w2 ⟨rfl,rfl⟩))
      go_roundw
      case rel=>exact ⟨k+1,m,by omega,Zz (Value.int .i64) (by omega),by omega,by go_num,A,by trivial⟩
      case measure=>simp[intOf];omega
   ·have I:R=some n:=(by rw[<-M.out,ZC (by omega)];rfl);subst I;clear M;go_wp2;go_ret;exact ⟨rfl,rfl⟩
section
variable {j k:Nat} {s:List UInt8}
def charO (o:Option Nat):Bool:=match o with|some n=>isChar n|none=>false
theorem US (o:Option Nat) (w:Wq):Calls prog 140 #[nI (iopt o)] w λe w'=>e= .returned (.bool (charO o))/\w'=w:=by
 have e:charO o=isChar (iopt o):=by cases o<;>rfl
 rw[e];refine (Vb (iopt o) w).mono ?_;rintro e w' ⟨rfl,rfl⟩;exact ⟨rfl,rfl⟩
def refInner (s:List UInt8) (k:Nat):List UInt8:=(s.drop (k+1)).takeWhile λc=>c !=59
theorem ZhF (h:k<s.length) (q:s[k]≠38):refAt s k=none:=by
 unfold refAt;rw[Zi h];dsimp only;rw[JX,Ze (λe=>q (by injection e))]
theorem ZiW (h:k<s.length) (q:s[k]=38):
 refAt s k=if k+1+(refInner s k).length<s.length then (match refRune (refInner s k) with|some n=>if isChar n then some (n,k+1+(refInner s k).length+1) else none|none=>none) else none:=by
 unfold refAt refInner;rw[Zi h];dsimp only;rw[JX,Zh (by rw[q]),List.tail_cons,Zf,Zj];obtain ⟨x,D⟩:∃x,List.takeWhile (λc=>c !=59) (List.drop (k+1) s)=x:=⟨_,rfl⟩;rw[D];by_cases A:k+1+x.length<s.length
 ·rw[Zh A,Zh (by omega),show k+x.length+2=k+1+x.length+1 by omega];rfl
 ·rw[Ze A,Ze (by omega)]
theorem J8 {p:UInt8->Bool} (h:k<s.length) (q:p s[k]=true):k+((s.drop k).takeWhile p).length=(k+1)+((s.drop (k+1)).takeWhile p).length:=by
 rw[Zi h,Z9,Zh q,Zf];omega
theorem JC {p:UInt8->Bool} (h:k<s.length) (q:p s[k]=false):k+((s.drop k).takeWhile p).length=k:=by
 rw[Zi h,Z9,q];rfl
theorem Q4 {p:UInt8->Bool} (h:s.length<=k):k+((s.drop k).takeWhile p).length=k:=by
 rw[ZC h];rfl
theorem QJ (s:ByteArray) (a b:Nat) (A B:Int) (D:A=a) (F:B=b) (h:a<=b) (H:b<=s.size) (q:Wq):
 (Instr.slice 9 (.string s) (some (nI A)) (some (nI B)) none).run prog q= .ok (.string (s.extract a b)) q:=by
 subst D F;rw[run_slice_string (P:=prog) (w:=q) 9 s .i64 .i64 _ _ underlying9 (by omega) (by omega) (by omega)];rw[show ((a:Nat):Int).toNat=a by omega,show ((b:Nat):Int).toNat=b by omega]
theorem Zeu (s:ByteArray) (b:Nat) (q:b<=s.size) (h:Wq):
 (Instr.slice 9 (.string s) none (some (nI (b:Nat))) none).run prog h= .ok (.string (s.extract 0 b)) h:=by
 rw[run_slice_string_h (P:=prog) (w:=h) 9 s underlying9 .i64 _ (by omega) (by omega)];rw[show ((b:Nat):Int).toNat=b by omega]
theorem GJ (s:ByteArray) (a:Nat) (A:Int) (q:A=a) (D:a<=s.size) (h:Wq):
 (Instr.slice 9 (.string s) (some (nI A)) none none).run prog h= .ok (.string (s.extract a s.size)) h:=by
 subst q;rw[run_slice_string_l (P:=prog) (w:=h) 9 s underlying9 .i64 _ (by omega) (by omega)];rw[show ((a:Nat):Int).toNat=a by omega]
theorem GC (s:ByteArray) (a:Nat):(s.extract a s.size).data.toList=s.data.toList.drop a:=by
 by_cases h:a<=s.size
 ·have:=Xk s a (s.size - a);rw[show a+(s.size - a)=s.size by omega] at this;rw[this,ZT (by rw[Zj,ZI];omega)]
 ·rw[ZC (by rw[ZI];omega)];refine Zw ?_;rw[ZI,ByteArray.size_extract];omega
theorem ZcN {o:Option Nat} {A:Option (Nat×Nat)} (h:A=match o with|some n=>if isChar n then some (n,j+1) else none|none=>none):
 (charO o=true->∃n:Nat,iopt o=n/\A=some (n,j+1))/\(charO o=false->A=none):=by
 cases o with
 |none=>exact ⟨(λe=>by cases e),λ_=>h⟩
 |some n=>
  refine ⟨λe=>⟨n,rfl,?_⟩,λe=> ?_⟩
  ·rw[h];exact Zh e
  ·rw[h];exact Ze (by rw[show isChar n=false from e];simp)
def refAns (o:Option (Nat×Nat)):Value:=match o with|some (r,e)=> .tuple #[nI (r:Nat),nI (e:Nat),nI 0]|none=> .tuple #[nI 0,nI 0,nI 12]
theorem KY (s:ByteArray) (k:Nat) (w:Wq) (hs:s.size<=16777216) (hk:k<s.size):
 Calls prog 186 #[.string s,nI (k:Nat)] w λe w'=>e= .returned (refAns (refAt s.data.toList k))/\w'=w:=by
 have hy:=ZI s;have hL:¬(s.size:Int)<=(k:Int):=by omega
 have hM:¬(k:Int)<0:=by omega
 have hl:k<s.data.toList.length:=by omega
 by_cases J:s[k]=38
 ·have hb:(((s[k]).toNat:Int)==38)=true:=by rw[J];rfl
  have h:=ZiW hl J;have ha:k+((s.data.toList.drop k).takeWhile λc=>c !=59).length=k+1+(refInner s.data.toList k).length:=J8 hl (by show (s[k] !=59)=true;rw[J];rfl);obtain ⟨E,hE⟩:∃E,k+1+(refInner s.data.toList k).length=E:=⟨_,rfl⟩;have hv:E<=s.size:=by rw[<-hE];have h1:=(Yp (λc:UInt8=>c !=59) (l:=s.data.toList.drop (k+1))).length_le;rw[Zj] at h1;unfold refInner;omega
  have V:(s.extract (k+1) E).data.toList=refInner s.data.toList k:=by rw[<-hE,Xk];exact (Xh.1 (JK _)).symm
  have hi:(s.extract (k+1) E).size=E - (k+1):=by rw[<-ZI,V];omega
  rw[hE,hy] at h;rw[hE] at ha;obtain ⟨x,hu⟩:∃x,refInner s.data.toList k=x:=⟨_,rfl⟩;rw[hu] at h V;have hC:=QJ s (k+1) E ((k:Int)+1) (E:Nat) (by omega) rfl (by omega) hv;obtain ⟨X,hX⟩:∃X,s.extract (k+1) E=X:=⟨_,rfl⟩;rw[hX] at hC hi V;have hK:k+1<=E:=by omega
  obtain ⟨A,K⟩:∃A,refAt s.data.toList k=A:=⟨_,rfl⟩;rw[K];rw[K] at h;have Q:=gd h;have HE:=gd ha;clear J h ha hE hu hX K;go_enter func186,ntmps186;go_wp2;go_loopw [7] (λv wr=>∃j:Nat,j<=s.size/\v=nI j/\Hid (j+((s.data.toList.drop j).takeWhile λc=>c !=59).length=E)/\wr=w) (λv _=>s.size - (intOf v).toNat)
  case atStart=>exact ⟨k,by omega,rfl,HE,rfl⟩
  case round=>
   obtain ⟨j,hj,rfl,hr,rfl⟩:=hrel;by_cases hh:j<s.size
   ·have ht:j<s.data.toList.length:=(by omega);have hQ:s.data.toList[j]=s[j]:=rfl;by_cases U:s[j]=59
    ·have hw:(((s[j]).toNat:Int) !=59)=false:=(by rw[U];rfl);have hd:j=E:=(JC (p:=λc=>c !=59) ht (by show (s[j] !=59)=false;rw[U];rfl)).symm.trans hr.out;subst hd;have hN:((j:Int)==(s.size:Int))=false:=(by rw[Zy];omega);have hJ:(j:Int)<(s.size:Int):=(by omega);have h:=Q.out;rw[Zh hh] at h;have R:=gd (λw'=>ZcK X w');rw[V] at R;clear U hr Q HE;by_cases F:∃c t,x=35::c::t
     ·obtain ⟨c,t,M⟩:=F;have hm:X.size=t.length+2:=(by rw[<-ZI,V,M];rfl);have hF:(1:Int)<(X.size:Int):=(by omega);have hG:0<X.size:=(by omega);have hH:1<X.size:=(by omega);have hp:(0:Int)<(X.size:Int):=(by omega);have e0:X[0]=35:=(by have:X.data.toList[0]'(by rw[ZI];omega)=35:=(by simp only[V,M,Jp]);exact this);have e1:X[1]=c:=(by have:X.data.toList[1]'(by rw[ZI];omega)=c:=(by simp only[V,M,List.getElem_cons_succ,Jp]);exact this);have hD:(((X[0]).toNat:Int)==35)=true:=(by rw[e0];rfl);have hO:=GJ X 1 1 rfl (by omega);have hP:=GJ X 2 2 rfl (by omega);have he:(X.extract 1 X.size).data.toList=c::t:=(by rw[GC,V,M];rfl);have hf:(X.extract 2 X.size).data.toList=t:=(by rw[GC,V,M];rfl);have H:=gd (λw'=>(Gi (X.extract 1 X.size) 10 w' (by rw[<-ZI,he,Zf];omega) (by omega) (by omega):Calls prog 215 #[.string (X.extract 1 X.size),nI 10] w' λe w2=>e= .returned (nI (iopt (numL 10 (X.extract 1 X.size).data.toList)))/\w2=w'));have S:=gd (λw'=>(Gi (X.extract 2 X.size) 16 w' (by rw[<-ZI,hf];omega) (by omega) (by omega):Calls prog 215 #[.string (X.extract 2 X.size),nI 16] w' λe w2=>e= .returned (nI (iopt (numL 16 (X.extract 2 X.size).data.toList)))/\w2=w'));rw[he] at H;rw[hf] at S;have Z:refRune x=if c=120 then numL 16 t else numL 10 (c::t):=(by rw[M];rfl)
      rw[Z] at h;clear he hf Z V M e0 hi hm;by_cases q:c=120
      ·have hc:(((X[1]).toNat:Int)==120)=true:=(by rw[e1,q];rfl);rw[Zh q] at h;obtain ⟨o,ho⟩:∃o,numL 16 t=o:=⟨_,rfl⟩;rw[ho] at h S;have D:=gd (λw'=>US o w');have Y:=gd (ZcN h);obtain ⟨I,hI⟩:∃I,iopt o=I:=⟨_,rfl⟩;rw[hI] at D Y S;clear hI h;cases hco:charO o with
       |true=>
        rw[hco] at D;obtain ⟨n,hn,K⟩:=Y.out.1 hco;subst hn K;clear ho hco q e1
        go_wp2_with (first|(go_at_call 214;(with_reducible refine Za (R.out _) ?_);rintro e w2 ⟨rfl,rfl⟩)|(go_at_call 215;(first|(with_reducible refine Za (H.out _) ?_)|(with_reducible refine Za (S.out _) ?_));rintro e w2 ⟨rfl,rfl⟩)|(go_at_call 140;(with_reducible refine Za (D.out _) ?_);rintro e w2 ⟨rfl,rfl⟩))
        go_ret3
        exact ⟨rfl,rfl⟩
       |false=>
        rw[hco] at D;have K:=Y.out.2 hco;subst K;clear ho hco q e1
        go_wp2_with (first|(go_at_call 214;(with_reducible refine Za (R.out _) ?_);rintro e w2 ⟨rfl,rfl⟩)|(go_at_call 215;(first|(with_reducible refine Za (H.out _) ?_)|(with_reducible refine Za (S.out _) ?_));rintro e w2 ⟨rfl,rfl⟩)|(go_at_call 140;(with_reducible refine Za (D.out _) ?_);rintro e w2 ⟨rfl,rfl⟩))
        go_ret3
        exact ⟨rfl,rfl⟩
      ·have hc:(((X[1]).toNat:Int)==120)=false:=(by rw[Zy];intro e;exact q (e1.symm.trans (YF.1 (by simpa using (show (X[1]).toNat=120 by omega)))));rw[Ze q] at h;obtain ⟨o,ho⟩:∃o,numL 10 (c::t)=o:=⟨_,rfl⟩;rw[ho] at h H;have D:=gd (λw'=>US o w');have Y:=gd (ZcN h);obtain ⟨I,hI⟩:∃I,iopt o=I:=⟨_,rfl⟩;rw[hI] at D Y H;clear hI h;clear S;cases hco:charO o with
       |true=>
        rw[hco] at D;obtain ⟨n,hn,K⟩:=Y.out.1 hco;subst hn K;clear ho hco q e1
        go_wp2_with (first|(go_at_call 214;(with_reducible refine Za (R.out _) ?_);rintro e w2 ⟨rfl,rfl⟩)|(go_at_call 215;(with_reducible refine Za (H.out _) ?_);rintro e w2 ⟨rfl,rfl⟩)|(go_at_call 140;(with_reducible refine Za (D.out _) ?_);rintro e w2 ⟨rfl,rfl⟩))
        go_ret3
        exact ⟨rfl,rfl⟩
       |false=>
        rw[hco] at D;have K:=Y.out.2 hco;subst K;clear ho hco q e1
        go_wp2_with (first|(go_at_call 214;(with_reducible refine Za (R.out _) ?_);rintro e w2 ⟨rfl,rfl⟩)|(go_at_call 215;(with_reducible refine Za (H.out _) ?_);rintro e w2 ⟨rfl,rfl⟩)|(go_at_call 140;(with_reducible refine Za (D.out _) ?_);rintro e w2 ⟨rfl,rfl⟩))
        go_ret3
        exact ⟨rfl,rfl⟩
     ·have Z:refRune x=namedL x:=by
       unfold refRune;split
       ·exact absurd ⟨_,_,rfl⟩ F
       ·rfl
      rw[Z] at h;have hg:¬(1:Int)<(X.size:Int)\/((1:Int)<(X.size:Int)/\∃h0:0<X.size,(((X[0]).toNat:Int)==35)=false):=by
       by_cases h1:(1:Int)<(X.size:Int)
       ·refine Or.inr ⟨h1,by omega,?_⟩;rw[Zy];intro e;have e0:X.data.toList[0]'(by rw[ZI];omega)=35:=YF.1 (show (X[0]).toNat=35 by omega);refine F ⟨X.data.toList[1]'(by rw[ZI];omega),X.data.toList.drop 2,?_⟩;rw[<-V,<-e0,<-Zi,<-Zi,JH]
       ·exact Or.inl h1
      obtain ⟨o,ho⟩:∃o,namedL x=o:=⟨_,rfl⟩;rw[ho] at h R;have D:=gd (λw'=>US o w');have Y:=gd (ZcN h);obtain ⟨I,hI⟩:∃I,iopt o=I:=⟨_,rfl⟩;rw[hI] at D Y R;clear hI h;clear F Z ho;cases hco:charO o with
      |true=>
       rw[hco] at D;obtain ⟨n,hn,K⟩:=Y.out.1 hco;subst hn K;clear hco V;rcases hg with hg|⟨hg,hp,hq⟩
       ·go_wp2_with (first|(go_at_call 214;(with_reducible refine Za (R.out _) ?_);rintro e w2 ⟨rfl,rfl⟩)|(go_at_call 140;(with_reducible refine Za (D.out _) ?_);rintro e w2 ⟨rfl,rfl⟩))
        go_ret3
        exact ⟨rfl,rfl⟩
       ·have hz:(0:Int)<(X.size:Int):=by omega
        go_wp2_with (first|(go_at_call 214;(with_reducible refine Za (R.out _) ?_);rintro e w2 ⟨rfl,rfl⟩)|(go_at_call 140;(with_reducible refine Za (D.out _) ?_);rintro e w2 ⟨rfl,rfl⟩))
        go_ret3
        exact ⟨rfl,rfl⟩
      |false=>
       rw[hco] at D;have K:=Y.out.2 hco;subst K;clear hco V;rcases hg with hg|⟨hg,hp,hq⟩
       ·go_wp2_with (first|(go_at_call 214;(with_reducible refine Za (R.out _) ?_);rintro e w2 ⟨rfl,rfl⟩)|(go_at_call 140;(with_reducible refine Za (D.out _) ?_);rintro e w2 ⟨rfl,rfl⟩))
        go_ret3
        exact ⟨rfl,rfl⟩
       ·have hz:(0:Int)<(X.size:Int):=by omega
        go_wp2_with (first|(go_at_call 214;(with_reducible refine Za (R.out _) ?_);rintro e w2 ⟨rfl,rfl⟩)|(go_at_call 140;(with_reducible refine Za (D.out _) ?_);rintro e w2 ⟨rfl,rfl⟩))
        go_ret3
        exact ⟨rfl,rfl⟩
    ·have hw:(((s[j]).toNat:Int) !=59)=true:=(by rw[YI];intro e;exact U (YF.1 (by simpa using (show (s[j]).toNat=59 by omega))));have R:=gd ((J8 (p:=λc=>c !=59) ht (by show (s[j] !=59)=true;simpa using U)).symm.trans hr.out);clear hr U;go_wp2;go_roundw
     case rel=>exact ⟨j+1,hh,by go_num,R,by trivial⟩
     case measure=>simp[intOf];omega
   ·have hd:j=E:=(Q4 (p:=λc=>c !=59) (by omega)).symm.trans hr.out;have hB:j=s.size:=(by omega);subst hd;have h:=Q.out;rw[Ze hh] at h;subst h;clear hr Q HE;subst hB;go_wp2
    go_ret3
    exact ⟨rfl,rfl⟩
 ·have hb:(((s[k]).toNat:Int) !=38)=true:=by rw[YI];intro e;exact J (YF.1 (by simpa using (show (s[k]).toNat=38 by omega)))
  rw[ZhF hl J];clear J;go_enter func186,ntmps186;go_wp2
  go_ret3
  exact ⟨rfl,rfl⟩
end
section
variable {c g i j n r:Nat} {s:List UInt8} {w:World}
theorem Ext.bytes {a:Wq} (h:Ext a w) (e:TypeId) (s:ByteArray):Ext a (Lib.bytesWorld w e s):=by
 have A:=h.size;refine ⟨h.os,h.tape,h.output,?_,?_⟩
 ·rw[Lib.bytesWorld_size];omega
 ·intro k q;rw[Lib.bytesWorld_at_old w e s k (by omega)];exact h.block k q
structure BR (w:Wq) (g:Nat) (L:List UInt8):Prop where
 cell:∀j (hj:j<L.length),w.cell? ⟨g,j,none⟩=some (.int .u8 (L[j].toNat:Nat))
 froz:∀j,j<L.length->w.frozen? ⟨g,j,none⟩=false
theorem BR.bytes (w:Wq) (s:ByteArray):BR (Lib.bytesWorld w 5 s) w.heap.size s.data.toList:=by
 refine ⟨λj q=> ?_,λj q=> ?_⟩
 ·have h:j<s.size:=by rw[<-ZI];exact q
  rw[Lib.bytesWorld_cell w _ s j h,Yk,Zr q];rfl
 ·have h:j<s.size:=by rw[<-ZI];exact q
  unfold World.frozen?;rw[show (Lib.bytesWorld w 5 s).heap[(⟨w.heap.size,j,none⟩:Addr).block]? =_ from Lib.bytesWorld_at_new w 5 s];have:s.size<=(Lib.bytesCells w 5 s).size:=by simp[Lib.bytesCells]
  simp;omega
theorem BR.set {L:List UInt8} (h:BR w g L) (A:j<L.length) (b:UInt8):BR (w.setCell ⟨g,j,none⟩ (.int .u8 (b.toNat:Nat))) g (L.set j b):=by
 refine ⟨λi q=> ?_,λi q=> ?_⟩
 ·rw[XD] at q;by_cases e:j=i
  ·subst e;rw[Gt _ _ _ (h.cell j A),List.getElem_set_self]
  ·rw[Y8 _ _ _ _ (by intro e2;injection e2 with _ e3;exact e e3),h.cell i q,List.getElem_set_ne e]
 ·rw[XD] at q;rw[Xw];exact h.froz i q
theorem BR.conv {L:List UInt8} (h:BR w g L) (A:n=L.length):(convert 94 9 (.slice (some ⟨g,0,none⟩) n c)).run prog w= .ok (.string (str L)) w:=by
 subst A;exact run_convert_bytes_back w _ _ 5 ⟨g,0,none⟩ c L underlying94 underlying5 underlying9 λj q=>by rw[show (⟨g,0,none⟩:Addr).add j=⟨g,j,none⟩ from by unfold Addr.add;split<;>simp_all];exact h.cell j q
def finC (value:Bool) (l:List UInt8):List UInt8:=if value then spaced l else l
theorem Em (l:List UInt8):finC false l=l:=rfl
theorem Iy (c:UInt8) (t:List UInt8):spaced (c::t)=(if isSp c.toNat then 32 else c)::spaced t:=rfl
theorem Iz {M F:List UInt8} (q:j<M.length) (A:isSp (M[j]).toNat=false) (h:M.take j++spaced (M.drop j)=F):M.take (j+1)++spaced (M.drop (j+1))=F:=by
 rw[<-h,Zi q,Iy,A,Zx q];simp only[JG,ZkC,ZN,List.singleton_append]
theorem Zab {M F:List UInt8} (q:j<M.length) (A:isSp (M[j]).toNat=true) (h:M.take j++spaced (M.drop j)=F):(M.set j 32).take (j+1)++spaced ((M.set j 32).drop (j+1))=F:=by
 rw[<-h,Zi q,Iy,A,Zx (by rw[XD];exact q),List.drop_set_of_lt (by omega),List.getElem_set_self,List.take_set_of_le (by omega)];simp
def contAns (tz:Nat):Except PErr (List UInt8)->Value
 | .ok v=> .tuple #[.string (str v),nI (tz:Nat),nI 0]
 | .error (i,c)=> .tuple #[.string (str []),nI (i:Nat),nI (c:Nat)]
theorem Zg2 (h:isChar n=true):n<1114112:=by
 unfold isChar at h;have:=Y4 h;omega
theorem ZjL (r:Nat):(encN r).length<=4:=by
 unfold encN
 (repeat' split)<;>simp
theorem ZfG {e:Nat} (h:refAt s i=some (r,e)):isChar r=true:=by
 unfold refAt at h;dsimp only at h;split at h
 ·split at h
  ·split at h
   ·split at h
    ·rename_i q;injection h with h;injection h with h1 h2;subst h1;exact q
    ·cases h
   ·cases h
  ·cases h
 ·cases h
end
end Go.Proofs.YtnlafkgkcnenfaaGreatDoor
