/- Parts of the proof: contracts and plain laws. -/
import Derived.Test.YtnlafkgkcnenfaaGreatDoorProg
import Derived.Test.YtnlafkgkcnenfaaGreatDoorTie
import Derived.Test.YtnlafkgkcnenfaaGreatDoorCards
import Derived.Test.YtnlafkgkcnenfaaGreatDoorRows
import Derived.Shelf.SlSortCmp.InsertionK
import Derived.Shelf.SlSortCmp.SiftDownK
import Derived.Shelf.SlSortCmp.HeapSortK
import Derived.Shelf.SlSortCmp.MedianK
import Derived.Shelf.SlSortCmp.PivotK
import Derived.Shelf.SlSortCmp.ReverseRangeK
import Derived.Shelf.SlSortCmp.PartialInsertionK
import Derived.Shelf.SlSortCmp.PartitionEqualK
import Derived.Shelf.SlSortCmp.PartitionK
import Derived.Shelf.SlSortCmp.PdqK
import Derived.Shelf.SlSortCmp.WholeK
import Derived.Shelf.SlSortCmp.NoneTotal
import Derived.Test.YtnlafkgkcnenfaaGreatDoorS28
namespace Go.Proofs.YtnlafkgkcnenfaaGreatDoor
open Go Go.Shelf Go.RowKit Go.ChangeShapes Go.WideShapes Go.ChangeAt Go.Joins Go.Deep _root_.Go.Proofs.Tryz
set_option linter.unusedVariables false
set_option linter.unusedSimpArgs false
set_option maxRecDepth 100000
set_option maxHeartbeats 16000000
section
variable {f k:Nat} {s:List UInt8}
def headD:List UInt8:= [60,111,112,109,108,32,118,101,114,115,105,111,110,61,39,50,46,48,39,62,60,98,111,100,121,62]
def openD:List UInt8:= [60,111,117,116,108,105,110,101,32,116,101,120,116,61,39,97,39,62]
def leafD:List UInt8:= [60,111,117,116,108,105,110,101,32,120,109,108,85,114,108,61,39,102,39,47,62]
def closeD:List UInt8:= [60,47,111,117,116,108,105,110,101,62]
def tailD:List UInt8:= [60,47,98,111,100,121,62,60,47,111,112,109,108,62]
def rep (k:Nat) (x:List UInt8):List UInt8:=(List.replicate k x).flatten
def docD (k:Nat):List UInt8:=headD++(rep k openD++(leafD++(rep k closeD++tailD)))
def feedD (k:Nat):Fd:=⟨List.replicate k (str [97]),str [102],str [],str [], -62135596800,[]⟩
theorem Vs (k:Nat) (x:List UInt8):rep (k+1) x=x++rep k x:=by unfold rep;rw[List.replicate_succ,Jh]
theorem Kq (x:List UInt8):∀k,(rep k x).length=x.length*k
 |0=>rfl
 |k+1=>by rw[Vs,Zc,Kq x k,Nat.mul_succ,Nat.add_comm]
theorem EY (x y:List UInt8):∀(i k:Nat),i<=k->(rep k x++y).drop (x.length*i)=rep (k - i) x++y
 |0,k,_=>rfl
 |i+1,0,h=>by omega
 |i+1,k+1,h=>by
  rw[Vs,ZN,Nat.mul_succ,Nat.add_comm,<-List.drop_drop,List.drop_left,EY x y i k (by omega)]
  congr 2
  omega
theorem ZeS {r:List UInt8} {an v:List UInt8} (K:isQ an=true) (R:∀d∈wescL true v,d≠39) (h:s.drop k=an++([61,39]++(wescL true v++(39::r)))) (U:k<=s.length):
 attrP s f k= .ok (⟨[],an,v,k⟩,k+an.length+2+(wescL true v).length+1):=by
 have F:=Zd7 K (c:=61) ⟨by decide,by decide⟩ h;have J:=(Qz K).1;have A:=Jg (x:=an) h;have q:=Ja A;have D:=Ja q;have H:=Jg (x:=wescL true v) D;have l1:=QD A;have l2:=QD q;have V:=QD H;have S:((s.drop (k+an.length+1+1)).takeWhile λd=>d !=39 && d !=60)=wescL true v:=by
  rw[D];refine Vw (x:=wescL true v) (r:=39::r) (λd I=> ?_) λc t e=> ?_
  ·have:=Zaj d I;simp[this.1,R d I]
  ·injection e with e _;subst e;rfl
 have M:=Eb (v:=true) D (by omega);unfold attrP;dsimp only;rw[F,Ze (by omega),Uy A (by decide),Ze (by rw[Jt (t:= [61]) A];simp),Uy q (by decide),Ze (by rw[Jt (t:= [39]) q];simp)];have Q:(s.drop (k+an.length+1)).headD 0=39:=by rw[q];rfl
 rw[Q,S,M];dsimp only;rw[Ze (by omega),Ze (by rw[H];simp),h,Nat.add_sub_cancel_left,List.take_left]
theorem K8 {n an v r:List UInt8} (e:Bool) (M:isQ n=true) (V:isQ an=true) (hv:∀d∈wescL true v,d≠39) (h:s.drop k=60::(n++(32::(an++([61,39]++(wescL true v++(39::((if e then [47,62] else [62])++r)))))))):
 constructP s k= .ok (⟨1,n,[⟨[],an,v,k+1+n.length+1⟩],e,[],k⟩,k+1+n.length+1+an.length+2+(wescL true v).length+1+(if e then 2 else 1)):=by
 obtain ⟨c,n',J⟩:=Kb M;have hq:=M;rw[J] at hq;obtain ⟨e1,e2,e3,e4,e5⟩:=Kc hq;obtain ⟨c',H,A⟩:=Kb V;have K:=V;rw[A] at K;obtain ⟨f1,f2,f3,f4,f5⟩:=Kc K;have hc:=(Qz M).1;have D:s.drop k=60::c::(n'++(32::(an++([61,39]++(wescL true v++(39::((if e then [47,62] else [62])++r))))))):=by rw[h,J];rfl
 have hk:=QD h;have Q:=Ja h;have R:=Jg (x:=n) Q;have Y:=Zd7 M (c:=32) ⟨by decide,by decide⟩ Q;have l4:=QD R;have S:=Ja R;have X:=ZeS (f:=k) V hv S (by omega);have h6:=Jg (x:=wescL true v) (Ja (Ja (Jg (x:=an) S)));have l6:=QD h6;have U:=Ja h6;have Z:spAt s (k+1+n.length)=k+1+n.length+1:=by
  unfold spAt;rw[R,A];have:((32::((c'::H)++([61,39]++(wescL true v++(39::((if e then [47,62] else [62])++r)))))).takeWhile λc=>isSp c.toNat)= [32]:=by rw[Z9,Zh (by decide),X5,Z9,Ze (by rw[f4];simp)]
  rw[this];rfl
 have q:s.drop (k+1+n.length+1)=c'::(H++([61,39]++(wescL true v++(39::((if e then [47,62] else [62])++r))))):=by rw[S,A];rfl
 have hb:startAt s k n (k+1+n.length) []=startAt s k n (k+1+n.length+1+an.length+2+(wescL true v).length+1) [⟨[],an,v,k+1+n.length+1⟩]:=by rw[JB s k n _ _ (by omega),Z,Ze (by rw[VP q (Ne.symm f5)];simp),Ze (by rw[VP q (Ne.symm f3)];simp),Ze (by rw[VP q (Ne.symm f3)];simp),Ze (by omega),X];rfl
 have I:startAt s k n (k+1+n.length+1+an.length+2+(wescL true v).length+1) [⟨[],an,v,k+1+n.length+1⟩]= .ok (⟨1,n,[⟨[],an,v,k+1+n.length+1⟩],e,[],k⟩,k+1+n.length+1+an.length+2+(wescL true v).length+1+(if e then 2 else 1)):=by
  have hp:k+1+n.length+1+an.length+1+1+(wescL true v).length+1=k+1+n.length+1+an.length+2+(wescL true v).length+1:=by omega
  rw[hp] at U;rw[JB s k n _ _ (by omega)];cases e with
  |true=>have F:s.drop (k+1+n.length+1+an.length+2+(wescL true v).length+1)=47::62::r:=U;rw[Uy F (by decide),Ze (by rw[VP F (by decide)];simp),Zh (Jt (t:= [47,62]) F)];rfl
  |false=>have F:s.drop (k+1+n.length+1+an.length+2+(wescL true v).length+1)=62::r:=U;rw[Uy F (by decide),Zh (Jt (t:= [62]) F)];rfl
 unfold constructP;rw[Ze (by rw[XK D (Ne.symm e1)];simp),Ze (by rw[XK D (Ne.symm e2)];simp),Ze (by rw[XK D (Ne.symm e2)];simp),Ze (by rw[XK D (Ne.symm e2)];simp),Ze (by rw[XK D (Ne.symm e2)];simp),Ze (by rw[XK D (Ne.symm e3)];simp),Zh (Jt (t:= [60]) h)];rw[Vt s k (by omega),Y,Ze (by omega),Q,Nat.add_sub_cancel_left,List.take_left,hb];exact I
theorem Zb2 (k i:Nat) (h:i<=k):(docD k).drop (26+18*i)=rep (k - i) openD++(leafD++(rep k closeD++tailD)):=by
 have q:(docD k).drop 26=rep k openD++(leafD++(rep k closeD++tailD)):=by unfold docD;exact List.drop_left (l₁:=headD)
 rw[<-List.drop_drop,q];exact EY openD _ i k h
theorem Zc2 (k j:Nat) (h:j<=k):(docD k).drop (26+18*k+21+10*j)=rep (k - j) closeD++tailD:=by
 have q:=Zb2 k k (Zb k);rw[Nat.sub_self] at q;have A:(docD k).drop (26+18*k+21)=rep k closeD++tailD:=Jg (x:=leafD) q;rw[<-List.drop_drop,A];exact EY closeD _ j k h
theorem Vm (k:Nat):(docD k).length=61+28*k:=by
 unfold docD;rw[Zc,Zc,Zc,Zc,Kq,Kq];show 26+(18*k+(21+(10*k+14)))=_;omega
def opT (i:Nat):Tok:=⟨1,outlineL,[⟨[],textL,[97],26+18*i+9⟩],false,[],26+18*i⟩
def lfT (k:Nat):Tok:=⟨1,outlineL,[⟨[],xmlUrlL,[102],26+18*k+9⟩],true,[],26+18*k⟩
def clT (k j:Nat):Tok:=⟨2,outlineL,[],false,[],26+18*k+21+10*j⟩
def tkD (k:Nat):Nat->List Tok
 |0=> [lfT k]
 |r+1=>opT (k - (r+1))::(tkD k r++ [clT k r])
def ndD (k:Nat):Nat->Nd
 |0=> .mk 0 [] outlineL [⟨[],xmlUrlL,[102],26+18*k+9⟩] [] [] (26+18*k)
 |r+1=> .mk 0 [] outlineL [⟨[],textL,[97],26+18*(k - (r+1))+9⟩] [ndD k r] [] (26+18*(k - (r+1)))
theorem Zla:isQ textL=true:=by decide+kernel
theorem Zlj:isQ xmlUrlL=true:=by decide+kernel
theorem Zlk:isQ versionL=true:=by decide+kernel
theorem Zkn:isQ bodyL=true:=by decide+kernel
theorem Zko:isQ opmlL=true:=by decide+kernel
theorem Zh8 (k i:Nat) (h:i<k):constructP (docD k) (26+18*i)= .ok (opT i,26+18*(i+1)):=by
 have q:=Zb2 k i (by omega);rw[show k - i=(k - i - 1)+1 by omega,Vs,ZN] at q;have A:=K8 (s:=docD k) (n:=outlineL) (an:=textL) (v:= [97]) (k:=26+18*i) false UH Zla (by decide) q;refine A.trans ?_;show Except.ok ((⟨1,outlineL,[⟨[],textL,[97],26+18*i+1+7+1⟩],false,[],26+18*i⟩:Tok),26+18*i+1+7+1+4+2+1+1+1)=_;unfold opT;rw[show 26+18*i+1+7+1=26+18*i+9 by omega,show 26+18*i+9+4+2+1+1+1=26+18*(i+1) by omega]
theorem Zh7 (k:Nat):constructP (docD k) (26+18*k)= .ok (lfT k,26+18*k+21):=by
 have h:=Zb2 k k (Zb _);rw[Nat.sub_self] at h;have q:=K8 (s:=docD k) (n:=outlineL) (an:=xmlUrlL) (v:= [102]) (k:=26+18*k) true UH Zlj (by decide) h;refine q.trans ?_;show Except.ok ((⟨1,outlineL,[⟨[],xmlUrlL,[102],26+18*k+1+7+1⟩],true,[],26+18*k⟩:Tok),26+18*k+1+7+1+6+2+1+1+2)=_;unfold lfT;rw[show 26+18*k+1+7+1=26+18*k+9 by omega,show 26+18*k+9+6+2+1+1+2=26+18*k+21 by omega]
theorem Zgt (k j:Nat) (h:j<k):constructP (docD k) (26+18*k+21+10*j)= .ok (clT k j,26+18*k+21+10*(j+1)):=by
 have q:=Zc2 k j (by omega);rw[show k - j=(k - j - 1)+1 by omega,Vs,ZN] at q;have A:=Eh (s:=docD k) (n:=outlineL) (k:=26+18*k+21+10*j) UH q;refine A.trans ?_;show Except.ok ((⟨2,outlineL,[],false,[],26+18*k+21+10*j⟩:Tok),26+18*k+21+10*j+2+7+1)=_;unfold clT;rw[show 26+18*k+21+10*j+2+7+1=26+18*k+21+10*(j+1) by omega]
theorem Zek (k:Nat):∀r,r<=k->reads (docD k) (26+18*(k - r)) (26+18*k+21+10*r) (tkD k r)
 |0,_=>reads.one (by rw[Vm];omega) (Zh7 k) (J4 (by show 1≠3;decide))
 |r+1,h=>by
  have q:=Zh8 k (k - (r+1)) (by omega)
  rw[show k - (r+1)+1=k - r by omega] at q
  exact (reads.one (by rw[Vm];omega) q (J4 (by show 1≠3;decide))).trans ((Zek k r (by omega)).trans (reads.one (by rw[Vm];omega) (Zgt k r (by omega)) (J4 (by show 2≠3;decide))))
theorem Zgb (k:Nat):∀r,∃u l,tkD k r=u::l/\u.kind=1
 |0=>⟨_,_,rfl,rfl⟩
 |r+1=>⟨_,_,rfl,rfl⟩
theorem ZfY (k fin:Nat):∀(r d:Nat) (rest:List Tok),d+r<=100->elemAt fin d (tkD k r++rest)= .ok (ndD k r,rest)
 |0,d,rest,h=>by
  show elemAt fin d (lfT k::rest)=_
  rw[Vn,Ze (by omega),Zh (show (lfT k).empty=true from rfl)]
  rfl
 |r+1,d,rest,h=>by
  show elemAt fin d (opT (k - (r+1))::((tkD k r++ [clT k r])++rest))=_
  obtain ⟨u,l,A,q⟩:=Zgb k r
  have ih:=ZfY k fin r (d+1) ([clT k r]++rest) (by omega)
  rw[Vn,Ze (by omega),Ze (show ¬(opT (k - (r+1))).empty=true from λe=>by cases e),ZN]
  rw[A] at ih|-
  rw[X5] at ih|-
  rw[VT _ _ _ _ _ _ q,ih]
  dsimp only
  show kidsAt fin d (opT (k - (r+1))) ([]++ [ndD k r]) (clT k r::rest)=_
  rw[VR _ _ _ _ _ _ rfl,Ze (λe=>e rfl)]
  rfl
def bodyD (k:Nat):Nd:= .mk 0 [] bodyL [] [ndD k k] [] 20
def rootD (k:Nat):Nd:= .mk 0 [] opmlL [⟨[],versionL,twoL,6⟩] [bodyD k] [] 0
theorem Zgv (k:Nat):toksP (docD k)= .ok ((⟨1,opmlL,[⟨[],versionL,twoL,6⟩],false,[],0⟩:Tok)::(⟨1,bodyL,[],false,[],20⟩:Tok)::(tkD k k++ [⟨2,bodyL,[],false,[],26+18*k+21+10*k⟩,⟨2,opmlL,[],false,[],26+18*k+21+10*k+7⟩])):=by
 have S:=Vm k;have J:isText (docD k):=by
  have M:∀(x:List UInt8),isText x->∀n,isText (rep n x):=λx R n=>by
   induction n with
   |zero=>exact VQ
   |succ n ih=>rw[Vs];exact Jz R ih
  unfold docD;exact Jz (JY _ (by decide)) (Jz (M _ (JY _ (by decide)) k) (Jz (JY _ (by decide)) (Jz (M _ (JY _ (by decide)) k) (JY _ (by decide)))))
 have F:=(Zgr _).2 J;have A:(docD k).drop 0=headD++(rep k openD++(leafD++(rep k closeD++tailD))):=rfl;have c0:constructP (docD k) 0= .ok ((⟨1,opmlL,[⟨[],versionL,twoL,6⟩],false,[],0⟩:Tok),20):=K8 (s:=docD k) (n:=opmlL) (an:=versionL) (v:=twoL) (k:=0) false Zko Zlk (by decide) A;have D:(docD k).drop 20=60::(bodyL++(attrsW []++((if false then [47,62] else [62])++(rep k openD++(leafD++(rep k closeD++tailD)))))):=Jg (x:=headD.take 20) A;have q:constructP (docD k) 20= .ok ((⟨1,bodyL,[],false,[],20⟩:Tok),26):=Zjd (s:=docD k) false Zkn rfl D;have H:=Zc2 k k (Zb k);rw[Nat.sub_self] at H;have cb:constructP (docD k) (26+18*k+21+10*k)= .ok ((⟨2,bodyL,[],false,[],26+18*k+21+10*k⟩:Tok),26+18*k+21+10*k+7):=Eh (s:=docD k) (n:=bodyL) Zkn H;have I:(docD k).drop (26+18*k+21+10*k+7)=tailD.drop 7:=Jg (x:=tailD.take 7) H;have Q:constructP (docD k) (26+18*k+21+10*k+7)= .ok ((⟨2,opmlL,[],false,[],26+18*k+21+10*k+7⟩:Tok),26+18*k+21+10*k+7+7):=Eh (s:=docD k) (n:=opmlL) Zko I;have K:=Zek k k (Zb k);rw[Nat.sub_self] at K;have h:=(reads.one (by omega) c0 (J4 (by show 1≠3;decide))).trans ((reads.one (by omega) q (J4 (by show 1≠3;decide))).trans (K.trans ((reads.one (by omega) cb (J4 (by show 2≠3;decide))).trans (reads.one (by omega) Q (J4 (by show 2≠3;decide))))));rw[Kv,Ze (by rw[F];simp),Ze (by rw[VP A (by decide)];simp),h [],UX (by omega)];rfl
theorem Zib (k:Nat) (A:k<=79):docP (docD k)= .ok (rootD k):=by
 rw[QT,Zgv k];dsimp only;obtain ⟨u,l,q,h⟩:=Zgb k k;have ih:=ZfY k (docD k).length k 3 [⟨2,bodyL,[],false,[],26+18*k+21+10*k⟩,⟨2,opmlL,[],false,[],26+18*k+21+10*k+7⟩] (by omega);rw[Ee,Ze (by simp),Ze (by decide),Ze (by decide),Vn,Ze (by decide),Ze (by decide),VT _ _ _ _ _ _ rfl,Vn,Ze (by decide),Ze (by decide)];rw[q] at ih|-;rw[X5] at ih|-;rw[VT _ _ _ _ _ _ h,ih];dsimp only;rw[VR _ _ _ _ _ _ rfl,Ze (λe=>e rfl)];dsimp only;rw[VR _ _ _ _ _ _ rfl,Ze (λe=>e rfl)];dsimp only;rw[Zbf];rfl
theorem ZiZ (k:Nat):∀r,resP (ndD k r) []= .ok (ndD k r)
 |0=>by
  unfold ndD
  rw[resP,show headP (.mk 0 [] outlineL [⟨[],xmlUrlL,[102],26+18*k+9⟩] [] [] (26+18*k)) []= .ok ([],outlineL,[⟨[],xmlUrlL,[102],26+18*k+9⟩],[]) by kernel_rfl]
  dsimp only
  rw[resKids]
 |r+1=>by
  have ih:=ZiZ k r
  have h:(ndD k r).kind=0:=by cases r<;>rfl
  unfold ndD
  rw[resP,show headP (.mk 0 [] outlineL [⟨[],textL,[97],26+18*(k - (r+1))+9⟩] [ndD k r] [] (26+18*(k - (r+1)))) []= .ok ([],outlineL,[⟨[],textL,[97],26+18*(k - (r+1))+9⟩],[]) by kernel_rfl]
  dsimp only
  rw[resKids,Zh h,ih]
  dsimp only
  rw[resKids]
theorem Zi0 (k:Nat):resP (rootD k) []= .ok (rootD k):=by
 have A:resP (bodyD k) []= .ok (bodyD k):=by
  have q:(ndD k k).kind=0:=by cases k<;>rfl
  unfold bodyD;rw[resP,show headP (.mk 0 [] bodyL [] [ndD k k] [] 20) []= .ok ([],bodyL,[],[]) by kernel_rfl];dsimp only;rw[resKids,Zh q,ZiZ];dsimp only;rw[resKids]
 have h:(bodyD k).kind=0:=rfl;unfold rootD;rw[resP,show headP (.mk 0 [] opmlL [⟨[],versionL,twoL,6⟩] [bodyD k] [] 0) []= .ok ([],opmlL,[⟨[],versionL,twoL,6⟩],[]) by kernel_rfl];dsimp only;rw[resKids,Zh h,A];dsimp only;rw[resKids]
theorem Zgw (k:Nat) (h:k<=79):treeP (docD k)=some (rootD k):=by
 unfold treeP;rw[Ze (by rw[Vm];omega),Zib k h];dsimp only;rw[Zi0]
def pathD (n:Nat):List ByteArray:=List.replicate n (str [97])
theorem ES (n:Nat):pathD n++ [str [97]]=pathD (n+1):=by unfold pathD;rw[List.replicate_succ']
theorem Zjk (k:Nat):visKs [ndD k 0] (pathD k)= .ok [feedD k]:=by
 rw[visKs,visKs,Zh (show isEl outlineL (ndD k 0)=true from rfl),show attrL (ndD k 0) xmlUrlL=some [102] from rfl];dsimp only;rw[Ze (by decide)];rfl
theorem Zjj (k r:Nat) (path:List ByteArray) (h:¬64<=path.length):visKs [ndD k (r+1)] path=match visKs [ndD k r] (path++ [str [97]]) with| .error x=> .error x| .ok l=> .ok (l++ []):=by
 rw[visKs,visKs,Zh (show isEl outlineL (ndD k (r+1))=true from rfl),show attrL (ndD k (r+1)) xmlUrlL=none from rfl];dsimp only;rw[show nameL (ndD k (r+1))= [97] from rfl,Ze (by decide),Ze h];have e:visP (ndD k (r+1)) (path++ [str [97]])=visKs [ndD k r] (path++ [str [97]]):=by show visP (.mk 0 [] outlineL _ [ndD k r] [] _) _=_;rw[visP]
 rw[e]
 try rfl
theorem Zji (k r:Nat) (path:List ByteArray) (h:64<=path.length):visKs [ndD k (r+1)] path= .error (26+18*(k - (r+1)),9):=by
 rw[visKs,visKs,Zh (show isEl outlineL (ndD k (r+1))=true from rfl),show attrL (ndD k (r+1)) xmlUrlL=none from rfl];dsimp only;rw[show nameL (ndD k (r+1))= [97] from rfl,Ze (by decide),Zh h];rfl
theorem Zjl (k:Nat) (q:k<=64):∀r,r<=k->visKs [ndD k r] (pathD (k - r))= .ok [feedD k]
 |0,_=>Zjk k
 |r+1,h=>by
  have ih:=Zjl k q r (by omega)
  rw[Zjj k r _ (by unfold pathD;rw[List.length_replicate];omega),ES,show k - (r+1)+1=k - r by omega,ih]
  rfl
theorem Zgd (k:Nat) (A:64<k):∀r,r<=k->k - r<=64->visKs [ndD k r] (pathD (k - r))= .error (26+18*64,9)
 |0,_,h2=>by omega
 |r+1,h,h2=>by
  by_cases q:k - (r+1)=64
  ·rw[Zji k r _ (by unfold pathD;rw[List.length_replicate];omega),q]
  ·have ih:=Zgd k A r (by omega) (by omega)
   rw[Zjj k r _ (by unfold pathD;rw[List.length_replicate];omega),ES,show k - (r+1)+1=k - r by omega,ih]
theorem Zer (k:Nat):opmlP (rootD k)=visKs [ndD k k] (pathD (k - k)):=by
 unfold opmlP;rw[Ze (by rintro (e|e|e|e)<;>exact e rfl),show (rootD k).kids.find? (isEl bodyL)=some (bodyD k) from rfl];dsimp only;unfold bodyD;rw[visP,Nat.sub_self];rfl
theorem IN (k:Nat) (h:k<=64):opmlP (rootD k)= .ok [feedD k]:=by rw[Zer];exact Zjl k h k (Zb _)
theorem G2 (k:Nat) (h:64<k):opmlP (rootD k)= .error (1178,9):=by rw[Zer];exact Zgd k h k (Zb _) (by omega)
theorem Zdq (k:Nat) (D:k<=64):okA [feedD k]=true:=by
 have q:∀s∈strsF (feedD k),validS s=true:=λs h=>by
  rcases Zt.1 h with h|h
  ·rw[List.eq_of_mem_replicate h];decide+kernel
  ·simp only[feedD,ZF,Ya,Xs] at h;rcases h with rfl|rfl|rfl<;>decide+kernel
 have A:okF (feedD k)=true:=Ue.2 ⟨JR.2 ⟨by unfold feedD;rw[List.length_replicate];exact D,q,(show str [102]≠noS from λe=>by have:=Zz ByteArray.size e;revert this;decide),(show inT (-62135596800)=true by decide),λp F=>by
  rw[List.eq_of_mem_replicate F];intro e;have:=Zz ByteArray.size e;revert this;decide⟩,by unfold feedD;rfl⟩
 refine VX.2 ⟨λx H=>by rw[Zo.1 H];exact A,List.pairwise_singleton _ _,List.pairwise_singleton _ _⟩
end
def lays105_ren:Go.Shelf.Ren:=⟨fun|105=>25|212=>51|99=>52|165=>53|166=>54|170=>55|169=>56|263=>92|264=>93|206=>94|240=>95|241=>96|276=>137|277=>138|n=>n,fun|9=>9|3=>3|4=>4|20=>20|0=>0|46=>89|109=>90|5=>5|72=>96|76=>100|51=>141|146=>142|53=>144|148=>145|70=>93|37=>94|75=>99|127=>147|164=>190|80=>103|n=>n,fun|n=>n⟩
theorem lays105:Go.Proofs.Lays.n105 prog lays105_ren:={
 mixed:=by kernel_rfl
 f99:=func52.trans (Zz some (by kernel_rfl))
 f105:=func25.trans (Zz some (by kernel_rfl))
 f165:=func53.trans (Zz some (by kernel_rfl))
 f166:=func54.trans (Zz some (by kernel_rfl))
 f169:=func56.trans (Zz some (by kernel_rfl))
 f170:=func55.trans (Zz some (by kernel_rfl))
 f206:=func94.trans (Zz some (by kernel_rfl))
 f212:=func51.trans (Zz some (by kernel_rfl))
 f240:=func95.trans (Zz some (by kernel_rfl))
 f241:=func96.trans (Zz some (by kernel_rfl))
 f263:=func92.trans (Zz some (by kernel_rfl))
 f264:=func93.trans (Zz some (by kernel_rfl))
 f276:=func137.trans (Zz some (by kernel_rfl))
 f277:=func138.trans (Zz some (by kernel_rfl))
 t0:=underlying0
 a0:=isAgg0
 z0:=sizeOf0
 v0:=zeroValue0
 t3:=underlying3
 a3:=isAgg3
 z3:=sizeOf3
 v3:=zeroValue3
 t4:=underlying4
 a4:=isAgg4
 z4:=sizeOf4
 v4:=zeroValue4
 t5:=underlying5
 a5:=isAgg5
 z5:=sizeOf5
 v5:=zeroValue5
 t9:=underlying9
 a9:=isAgg9
 z9:=sizeOf9
 v9:=zeroValue9
 t20:=underlying20
 a20:=isAgg20
 z20:=sizeOf20
 v20:=zeroValue20
 t37:=underlying94
 a37:=isAgg94
 z37:=sizeOf94
 v37:=zeroValue94
 t46:=underlying89
 a46:=isAgg89
 z46:=sizeOf89
 v46:=zeroValue89
 t51:=underlying141
 a51:=isAgg141
 z51:=sizeOf141
 v51:=zeroValue141
 t53:=underlying144
 a53:=isAgg144
 z53:=sizeOf144
 v53:=zeroValue144
 t70:=underlying93
 a70:=isAgg93
 z70:=sizeOf93
 v70:=zeroValue93
 t72:=underlying96
 a72:=isAgg96
 z72:=sizeOf96
 v72:=zeroValue96
 t75:=underlying99
 a75:=isAgg99
 z75:=sizeOf99
 v75:=zeroValue99
 t76:=underlying100
 a76:=isAgg100
 z76:=sizeOf100
 v76:=zeroValue100
 t109:=underlying90
 a109:=isAgg90
 z109:=sizeOf90
 v109:=zeroValue90
 t127:=underlying147
 a127:=isAgg147
 z127:=sizeOf147
 v127:=zeroValue147
 t146:=underlying142
 a146:=isAgg142
 z146:=sizeOf142
 v146:=zeroValue142
 t148:=underlying145
 a148:=isAgg145
 z148:=sizeOf145
 v148:=zeroValue145
 t164:=underlying190
 a164:=isAgg190
 z164:=sizeOf190
 v164:=zeroValue190}
theorem Tryz.Builder_Extra_105:Builder.Extra prog lays105_ren:={
 sizeBuilder:=by kernel_rfl
 liesBuilder:=by kernel_rfl
 t5:=underlying5
 a5:=isAgg5
 z5:=sizeOf5
 v5:=zeroValue5
 infoByte:=by kernel_rfl
 cellsByte:=by kernel_rfl
 sizeByte:=by kernel_rfl
 neB5:=by decide}
open Go.RowKit Go.Lib in
theorem strings_Repeat (s:ByteArray) (c:Nat) (w:Wq) (q:c<=9223372036854775807) (h:s.size*c<=140737488355328):
 Calls prog 25 #[.string s,nI c] w λe w'=>e= .returned (.string ⟨(Lib.repeatL s.data.toList c).toArray⟩)/\Below w.heap.size w w':=Any.strings_Repeat lays105 Tryz.Builder_Extra_105 s c w q h
section
variable {c k n:Nat} {w:World}
theorem ZiX (x:List UInt8):∀k,Lib.repeatL x k=rep k x
 |0=>rfl
 |k+1=>by
  rw[Vs,<-ZiX x k]
  rfl
theorem Zeo (x:List UInt8) (k:Nat) (w:Wq) (A:k<=100) (D:x.length<=100):
 Calls prog 25 #[.string ⟨x.toArray⟩,nI (k:Nat)] w λe w'=>e= .returned (.string (str (rep k x)))/\Ext w w':=by
 have h:=strings_Repeat ⟨x.toArray⟩ k w (by omega) (by
  have e:(⟨x.toArray⟩:ByteArray).size=x.length:=by simp[ByteArray.size]
  rw[e];have:x.length*k<=100*100:=Nat.mul_le_mul D A;omega)
 refine Za h ?_;rintro e w' ⟨rfl,q⟩;refine ⟨?_,q⟩;show Ending.returned (.string ⟨(Lib.repeatL x.toArray.toList k).toArray⟩)=_;rw[ZiX];rfl
theorem Zh1 {A:Option Addr} (h:ArcG w A n c [feedD k]):n=1/\∃ad F D,A=some ad/\w.cell? ad=some (.slice F k D):=by
 obtain ⟨lc,J,I,K,M⟩:=h;have Q:lc.length=1:=by have:=Zz List.length I;rwa [Zs] at this
 obtain ⟨y,rfl⟩:∃y,lc= [y]:=by
  match lc,Q with
  | [y],_=>exact ⟨y,rfl⟩
 have S:y.f=feedD k:=by simpa using I
 obtain ⟨ad,U,e,q⟩:=RFcs.at K (k:=0) (by show 0<1;decide);rw[Xf,add_zero] at q;have q:AtFc w ad y:=q;injection e with e1 e2 e3;obtain ⟨F,D,R, -, -⟩:=(M y ZH).1.form;have H:=q.c0;rw[R,S] at H;exact ⟨J,ad,F,D,e1,by rw[H];unfold feedD;rw[List.length_replicate]⟩
theorem Zha (n:Int) (w:Wq) (hE:Env w) (hp:NmTabs w) (hn:0<=n/\n<=255):
 Calls prog 9 #[.int .u8 n] w λe w'=>e= .returned (.bool true)/\Ext w w':=by
 obtain ⟨h0,hy⟩:=hn;obtain ⟨m,rfl⟩:∃m:Nat,n=(m:Int):=⟨n.toNat,by omega⟩;obtain ⟨k,hk⟩:∃k,m % 80=k:=⟨_,rfl⟩;have hA:(m:Int) % 80=(k:Int):=by omega
 have hr:k<=79:=by omega
 have U:=gd (λ(w':Wq)=>Zeo openD k w' (by omega) (by decide));have S:=gd (λ(w':Wq)=>Zeo closeD k w' (by omega) (by decide));have ht:=Kq openD k;have hs:=Kq closeD k;obtain ⟨RO,Y⟩:∃RO,str (rep k openD)=RO:=⟨_,rfl⟩;obtain ⟨RC,X⟩:∃RC,str (rep k closeD)=RC:=⟨_,rfl⟩;have hC:RO.size<=1422:=by rw[<-Y,Yu,ht];show 18*k<=_;omega
 have hB:RC.size<=790:=by rw[<-X,Yu,hs];show 10*k<=_;omega
 rw[Y] at U;rw[X] at S;unfold openD at U;unfold closeD at S;have hi:=gd Y;have hh:=gd X;clear hk Y X ht hs;have ha:Hid ((((((⟨#[60,111,112,109,108,32,118,101,114,115,105,111,110,61,39,50,46,48,39,62,60,98,111,100,121,62]⟩:ByteArray)++RO)++⟨#[60,111,117,116,108,105,110,101,32,120,109,108,85,114,108,61,39,102,39,47,62]⟩)++RC)++⟨#[60,47,98,111,100,121,62,60,47,111,112,109,108,62]⟩:ByteArray).data.toList=docD k):=gd (by
  rw[<-hi.out,<-hh.out];simp only[ByteArray.data_append,Array.toList_append,Z5];unfold docD headD leafD tailD;simp only[ZN])
 have hc:=Zgw k hr;obtain ⟨-,fM, -,cM⟩:=Zag hc;have hj:=gd (λ(s:ByteArray) (w':Wq) (h:s.data.toList=docD k)=>Ia (s:=s) (m:=rootD k) (by rw[h];exact hc) w' (by rw[<-ZI s,h,Vm];unfold maxLen;omega));have hf:=gd (λ(w':Wq) (h:Ext w w')=>Zc1 w' (hE.ext h) (hp.ext h));have HD:=gd (λ(w':Wq) (hx:Ext w w') (k1 p c q d a:Nat) (s n t:List UInt8) (A B:Option Addr) (h:NodeG w' k1 s n (.slice A p c) (.slice B q d) t a (rootD k))=>Ed w' (hE.ext hx) h fM cM (λl hl=>by
  by_cases D:k<=64
  ·rw[IN k D] at hl;injection hl with hl;rw[<-hl];exact Or.inl (Zb 1)
  ·rw[G2 k (by omega)] at hl;cases hl))
 have ho:decL (rootD k)=if k<=64 then [feedD k] else []:=by
  unfold decL;by_cases D:k<=64
  ·rw[IN k D,Zh D];exact (EL (Zdq k D)).2
  ·rw[G2 k (by omega),Ze D]
 have hq:decAt (rootD k)=if k<=64 then 0 else 1178:=by
  unfold decAt;by_cases D:k<=64
  ·rw[IN k D,Zh D]
  ·rw[G2 k (by omega),Ze D]
 have hm:decE (rootD k)=if k<=64 then 0 else 9:=by
  unfold decE;by_cases D:k<=64
  ·rw[IN k D,Zh D];exact (EL (Zdq k D)).1
  ·rw[G2 k (by omega),Ze D]
 simp only[ho,hq,hm] at HD;clear ho hq hm hc fM cM hE hp;by_cases D:k<=64
 ·simp only[Zh D] at HD;have hv:¬(64:Int)<(k:Int):=by omega
  go_enter func9,ntmps9
  go_wp2_with (first|(go_at_call 25;first|(with_reducible refine Za (U.out _) ?_;rintro e w1 ⟨rfl,hd⟩)|(with_reducible refine Za (S.out _) ?_;rintro e w2 ⟨rfl,he⟩))|(go_at_call 10;refine Za (hj.out _ _ ha.out) ?_;rintro e J ⟨k1,s,n,A,p,c,B,q,d,t,a,rfl,hg,K⟩;(obtain ⟨V,H⟩:∃V,J.alloc (.cells #[nI (k1:Nat),.string (str s),.string (str n),.slice A p c,.slice B q d,.string (str t),nI (a:Nat)] 25)=V:=⟨_,rfl⟩);(have I:Ext J V:=by rw[<-H];exact (Ext.refl J).alloc _);(have hb:BxN V J.heap.size k1 s n (.slice A p c) (.slice B q d) t a:=by rw[<-H];exact Zg J _);(obtain ⟨c0,c1,c2,c3,c4,c5,c6⟩:=hb.cells);(have HG:=gd (hg.ext I));(have F:=gd (((hd.trans he).trans K).trans I));clear hg hb K I)|(refine Zd rfl 25 (.tmp 6) (.tmp 26) rfl J.heap.size _ rfl rfl _ _ (Zg _ _) Zv rfl Zd9 ?_;rw[ZW];rw[H])|(go_at_call 12;(have R:=HD.out _ F.out _ _ _ _ _ _ _ _ _ _ _ HG.out);(with_reducible refine Za R ?_);clear R;rintro e w5 ⟨A5,n5,d5,rfl,Z,M⟩;(obtain ⟨hw,ad,pv,pc,hu,g0⟩:=Zh1 Z);subst hw;subst hu;clear Z c0 c1 c2 c3 c4 c5 c6)|(refine Zd rfl 31 (.tmp 8) (.tmp 31) rfl w5.heap.size _ rfl rfl _ _ (Zg _ _) YU rfl IR ?_;rw[ZW])|(go_at_call 11;(have R:=hf.out _ ((F.out.trans M).alloc (.cells #[.slice (some ad) 1 d5] 31)));(with_reducible refine Za R ?_);clear R;rintro e w9 ⟨rfl,Q⟩;(have n0:=Q.boxed 0 _ rfl);(have g1:=(((Ext.refl w5).alloc (.cells #[.slice (some ad) 1 d5] 31)).trans Q).cell g0)))
  go_ret;exact ⟨rfl,((F.out.trans M).alloc _).trans Q⟩
 ·simp only[Ze D] at HD;have hv:(64:Int)<(k:Int):=by omega
  go_enter func9,ntmps9
  go_wp2_with (first|(go_at_call 25;first|(with_reducible refine Za (U.out _) ?_;rintro e w1 ⟨rfl,hd⟩)|(with_reducible refine Za (S.out _) ?_;rintro e w2 ⟨rfl,he⟩))|(go_at_call 10;refine Za (hj.out _ _ ha.out) ?_;rintro e J ⟨k1,s,n,A,p,c,B,q,d,t,a,rfl,hg,K⟩;(obtain ⟨V,H⟩:∃V,J.alloc (.cells #[nI (k1:Nat),.string (str s),.string (str n),.slice A p c,.slice B q d,.string (str t),nI (a:Nat)] 25)=V:=⟨_,rfl⟩);(have I:Ext J V:=by rw[<-H];exact (Ext.refl J).alloc _);(have hb:BxN V J.heap.size k1 s n (.slice A p c) (.slice B q d) t a:=by rw[<-H];exact Zg J _);(obtain ⟨c0,c1,c2,c3,c4,c5,c6⟩:=hb.cells);(have HG:=gd (hg.ext I));(have F:=gd (((hd.trans he).trans K).trans I));clear hg hb K I)|(refine Zd rfl 25 (.tmp 6) (.tmp 26) rfl J.heap.size _ rfl rfl _ _ (Zg _ _) Zv rfl Zd9 ?_;rw[ZW];rw[H])|(go_at_call 12;(have R:=HD.out _ F.out _ _ _ _ _ _ _ _ _ _ _ HG.out);(with_reducible refine Za R ?_);clear R;rintro e w5 ⟨A5,n5,d5,rfl,Z,M⟩;clear Z c0 c1 c2 c3 c4 c5 c6)|(refine Zd rfl 31 (.tmp 8) (.tmp 31) rfl w5.heap.size _ rfl rfl _ _ (Zg _ _) YU rfl IR ?_;rw[ZW])|(go_at_call 11;(have R:=hf.out _ ((F.out.trans M).alloc (.cells #[.slice A5 n5 d5] 31)));(with_reducible refine Za R ?_);clear R;rintro e w9 ⟨rfl,Q⟩))
  go_ret;exact ⟨rfl,((F.out.trans M).alloc _).trans Q⟩
end
section
variable {P:Program} {W:World} {cs:Array Value} {e:TypeId} {g:Nat} {α:Type}
abbrev laidAll : List (String × DataW Unit) := [("math/bits.deBruijn32tab", Rows.laid_math_bits_deBruijn32tab), ("math/bits.deBruijn64tab", Rows.laid_math_bits_deBruijn64tab), ("internal/strconv.uint64pow10", Rows.laid_internal_strconv_uint64pow10), ("unicode/utf8.acceptRanges", Rows.laid_unicode_utf8_acceptRanges), ("feedvault/text.startRanges", Rows.laid_feedvault_text_startRanges), ("feedvault/text.moreRanges", Rows.laid_feedvault_text_moreRanges), ("feedvault/jsonstring.letters", Rows.laid_feedvault_jsonstring_letters), ("unicode/utf8.first", Rows.laid_unicode_utf8_first)]
theorem Zff:Rows.laid_unicode_utf8_first=Lib.firstData:=by kernel_rfl
theorem ZdP:(Rows.laid_unicode_utf8_acceptRanges:DataW Unit)=Lib.acceptData:=by kernel_rfl
theorem ZiC:(Rows.laid_internal_strconv_uint64pow10:DataW Unit)=Lib.tabData .u64 Lib.pow10Tab:=by kernel_rfl
theorem ZiB:(Rows.laid_feedvault_jsonstring_letters:DataW Unit)= .agg [.agg [.lit (.int .u8 98),.lit (.int .u8 8)],.agg [.lit (.int .u8 102),.lit (.int .u8 12)],.agg [.lit (.int .u8 110),.lit (.int .u8 10)],.agg [.lit (.int .u8 114),.lit (.int .u8 13)],.agg [.lit (.int .u8 116),.lit (.int .u8 9)]]:=rfl
theorem Zk3 : prog.globalNamed "feedvault/jsonstring.letters" = some 6 := by kernel_rfl
theorem gDb : prog.globalNamed "math/bits.deBruijn64tab" = some 8 := by kernel_rfl
theorem Qx {n:String} (A:P.globalNamed n=some g) (h:W.var? P n=some cs):∃t fr,W.heap[g]? =some (.cells cs t fr):=by
 unfold World.var? at h;rw[A] at h;simp only[Option.bind_some] at h;split at h
 ·rename_i q t fr D;injection h with h;subst h;exact ⟨t,fr,D⟩
 ·cases h
theorem ZkL {l:List α} (h:l.length=10):∃a b c d e f g i j k,l= [a,b,c,d,e,f,g,i,j,k]:=by
 match l,h with
 | [a,b,c,d,e,f,g,i,j,k],_=>exact ⟨a,b,c,d,e,f,g,i,j,k,rfl⟩
theorem Zdk (h:laidMet prog laidAll W):Env W:=by
 have r5 := VB h (n := "unicode/utf8.first") (.tail _ (.tail _ (.tail _ (.tail _ (.tail _ (.tail _ (.tail _ (.head _))))))))
 have r3 := VB h (n := "unicode/utf8.acceptRanges") (.tail _ (.tail _ (.tail _ (.head _))))
 have r2 := VB h (n := "internal/strconv.uint64pow10") (.tail _ (.tail _ (.head _)))
 have r4 := VB h (n := "feedvault/jsonstring.letters") (.tail _ (.tail _ (.tail _ (.tail _ (.tail _ (.tail _ (.head _)))))))
 have r1 := VB h (n := "math/bits.deBruijn64tab") (.tail _ (.head _))
 rw[Zff] at r5;rw[ZdP] at r3;rw[ZiC] at r2;rw[ZiB] at r4;refine ⟨?_,?_,?_,?_⟩
 ·exact utf8Tabs_of_reads (ρ:=lays197_ren) {lays197 with} ⟨by kernel_rfl,by kernel_rfl,by kernel_rfl,by kernel_rfl,by kernel_rfl,by kernel_rfl,by kernel_rfl⟩ r5 r3
 ·obtain ⟨g,t,cs,fuel,p,hg,hty,hvar,hd⟩:=r2;obtain rfl:=YO (Zk4.symm.trans hg);obtain rfl:=YO ((show (prog.globals[5]?).map (·.type)=some 298 by kernel_rfl).symm.trans hty);unfold Lib.TabIs;rw[hvar,<-Lib.cells_of_tab underlying298 underlying144 (by kernel_rfl) (by kernel_rfl) hd]
 ·obtain ⟨g,t,cs,fuel,p,hg,hty,hvar,hd⟩:=r1;obtain rfl:=YO (gDb.symm.trans hg);obtain ⟨t',fr,hh⟩:=Qx gDb hvar;have:=(ZG.1 hh).1;omega
 ·obtain ⟨g,t,cs,fuel,p,hg,hty,hvar,hd⟩:=r4;obtain rfl:=YO (Zk3.symm.trans hg);obtain rfl:=YO ((show (prog.globals[6]?).map (·.type)=some 301 by kernel_rfl).symm.trans hty);obtain ⟨t',fr,hh⟩:=Qx Zk3 hvar;have c2:prog.cellsOf 300=2:=by kernel_rfl
  have c10:prog.cellsOf 301=10:=by kernel_rfl
  obtain ⟨xs,m,hf,hx,hlen,hxl,hel⟩:=DataW.trod_array underlying301 hd;rw[c10] at hlen;obtain ⟨l⟩:=cs;obtain ⟨a,b,c,d,e,f,g,i,j,k,hl⟩:=ZkL hlen;have hl':l= [a,b,c,d,e,f,g,i,j,k]:=hl;subst hl';have part:∀(q:Nat) (z1 z2:Int),q<5->
   ([.agg [.lit (.int .u8 98),.lit (.int .u8 8)],.agg [.lit (.int .u8 102),.lit (.int .u8 12)],.agg [.lit (.int .u8 110),.lit (.int .u8 10)],.agg [.lit (.int .u8 114),.lit (.int .u8 13)],.agg [.lit (.int .u8 116),.lit (.int .u8 9)]]:List (DataW Unit))[q]? =some (Lib.tabData .u8 [z1,z2])->
   (([a,b,c,d,e,f,g,i,j,k]:List Value).drop (q*2)).take 2= [.int .u8 z1,.int .u8 z2]:=by
   intro q z1 z2 hq hz
   obtain ⟨fuel',dd,pp,hdi,he⟩:=Lib.array_elem underlying301 hd q hq
   obtain rfl:=YO (hz.symm.trans hdi)
   rw[c2] at he
   have:=Lib.cells_of_tab underlying300 underlying5 (by kernel_rfl) c2 he
   simpa using this
  have p0:=part 0 98 8 (by decide) rfl;have p1:=part 1 102 12 (by decide) rfl;have p2:=part 2 110 10 (by decide) rfl;have p3:=part 3 114 13 (by decide) rfl;have p4:=part 4 116 9 (by decide) rfl;simp at p0 p1 p2 p3 p4;obtain ⟨rfl,rfl⟩:=p0;obtain ⟨rfl,rfl⟩:=p1;obtain ⟨rfl,rfl⟩:=p2;obtain ⟨rfl,rfl⟩:=p3;obtain ⟨rfl,rfl⟩:=p4;exact ⟨t',fr,hh⟩
theorem Zef:∀(L:List (Nat×Nat)) (l:List Value),l.length=L.length*2->(∀(q:Nat) (h:q<L.length),(l.drop (q*2)).take 2= [.int .i32 (L[q].1:Nat),.int .i32 (L[q].2:Nat)])->l=L.flatMap λp=> [Value.int .i32 (p.1:Nat),Value.int .i32 (p.2:Nat)]
 | [],l,hl,_=>by
  rw[ZK,Xf] at hl
  exact Zw hl
 |p::t,l,hl,h=>by
  have A:=h 0 (ZeM _)
  rw[Xf,JH] at A
  rw[Zf] at hl
  have ih:=Zef t (l.drop 2) (by rw[Zj];omega) (λq F=>by
   have D:=h (q+1) (Nat.succ_lt_succ F)
   rw[List.drop_drop]
   rw[show 2+q*2=(q+1)*2 by omega]
   exact D)
  rw[<-Xe 2 l,A,ih,List.flatMap_cons]
  rfl
theorem Zeg {nm:String} {t:TypeId} {L:List (Nat×Nat)} (U:prog.globalNamed nm=some g) (K:(prog.globals[g]?).map (·.type)=some t) (X:prog.underlying t=some (.array L.length e)) (Y:prog.underlying e=some (.array 2 21)) (R:prog.cellsOf e=2) (ct:prog.cellsOf t=L.length*2)
 (h:Lib.VarReads prog W nm (.agg (L.map λp=> .agg [.lit (.int .i32 (p.1:Nat)),.lit (.int .i32 (p.2:Nat))]))):∃ty fr,W.heap[g]? =some (.cells (pairCells L) ty fr):=by
 obtain ⟨g',t',cs,fuel,p,J,M,H,S⟩:=h;obtain rfl:=YO (U.symm.trans J);obtain rfl:=YO (K.symm.trans M);obtain ⟨ty,fr,hh⟩:=Qx U H;obtain ⟨xs,m,hf,hx,A,ha,Z⟩:=DataW.trod_array X S;rw[ct] at A;have Q:=Zef L cs.toList A λq V=>by obtain ⟨I,dd,pp,F,D⟩:=Lib.array_elem X S q V;rw[YD,Zr V] at F;obtain rfl:=YO F;rw[R] at D;exact Lib.cells_of_tab (zs:= [(L[q].1:Nat),(L[q].2:Nat)]) Y underlying21 (by kernel_rfl) R D
 refine ⟨ty,fr,?_⟩;rw[hh];have:cs=pairCells L:=by unfold pairCells;rw[<-Q]
 rw[this]
theorem Zfg:(Rows.laid_feedvault_text_startRanges:DataW Unit)= .agg (startL.map λp=> .agg [.lit (.int .i32 (p.1:Nat)),.lit (.int .i32 (p.2:Nat))]):=rfl
theorem Zg7:(Rows.laid_feedvault_text_moreRanges:DataW Unit)= .agg (moreL.map λp=> .agg [.lit (.int .i32 (p.1:Nat)),.lit (.int .i32 (p.2:Nat))]):=rfl
theorem Zfw (h:laidMet prog laidAll W):NmTabs W:=by
 have r1 := VB h (n := "feedvault/text.startRanges") (.tail _ (.tail _ (.tail _ (.tail _ (.head _)))))
 have r2 := VB h (n := "feedvault/text.moreRanges") (.tail _ (.tail _ (.tail _ (.tail _ (.tail _ (.head _))))))
 rw[Zfg] at r1;rw[Zg7] at r2;exact ⟨Zeg (by kernel_rfl) (by kernel_rfl) (t:=286) (e:=284) underlying286 underlying284 (by kernel_rfl) (by kernel_rfl) r1,Zeg (by kernel_rfl) (by kernel_rfl) (t:=285) (e:=284) underlying285 underlying284 (by kernel_rfl) (by kernel_rfl) r2⟩
theorem Zlh:ownKnob prog.godebug=none:=by kernel_rfl
theorem ZiA:laidOutB prog=true:=by kernel_rfl
end
section
section
variable {H:Type} {enc:TypeId×Value→H} {P:Program} {w:World} {base:Nat} {spare:Nat→Bool} {held:Bool}
end
section
variable {H:Type} {enc:TypeId×Value→H} {P:Program} {w:World} {base:Nat} {spare:Nat→Bool} {held:Bool}
end
section
variable {H:Type} {enc:TypeId×Value→H} {w:World}
theorem Zjg {n:Int} (h:(Lit.int .u8 n).wf=true):0<=n/\n<=255:=by
 have q:(decide (IntKind.min .u8<=n) && decide (n<=IntKind.max .u8))=true:=h;rw[ZZ] at q;exact ⟨Y4 q.1,Y4 q.2⟩
end
end
theorem ZiG (os:Os) (D:os.Started) (H:Type) (enc:TypeId×Value->H):
 ReturnsInHanded {} checked os 9 .any (λw args=>(Rows.opmlDepthSpec.pre enc prog f9 [] false w args/\laidMetH prog laidAll w)/\sizedMet enc prog f9 (OpenSpec.ofChange Rows.opmlDepthSpec) false w args)
  (Rows.opmlDepthSpec.post enc prog f9 false true false false):=by
 refine returnsInHanded_of_change_and (C:=checked) (X:=λw _=>laidMetH prog laidAll w) (λ_ _ _ hh h=>h.of_heap hh) Zlh D (by kernel_rfl) func9
  (ChangeSpec.witness_shaped (enc:=enc) (C:=checked) (os:=os) (X:=λw _=>laidMetH prog laidAll w) false (World.laidAll prog os laidAll) #[.int .u8 0] 8 (World.laidAll_os _ _ _)
   (World.shaped_of_ZipB (by kernel_rfl) (by kernel_rfl)) (by kernel_rfl) (by kernel_rfl) (by kernel_rfl)
   (by rw[MakeChecks.laidMetH_plain _ _ _ (by kernel_rfl)];exact laidMet_laidAll _ (by kernel_rfl) (by kernel_rfl))) ?_
 intro W base args ds gs S J hW hc M Y _;have F:∀(j:Nat) t v,f9.params[j]? =some t->args[j]? =some v->Value.okWide prog W .any base t v:=J;have K:=hW;obtain ⟨p,q,V,hV,rfl,_,_⟩:=hW;have hA:DataW.TrodAll enc prog W 0 (λ_=>true) true f9.params.toList args.toList ds p:=V;rw[params9] at hA F;obtain ⟨v0,d0,rfl,rfl,h0⟩:=trodAll_one hA;obtain ⟨rfl,rfl⟩:=trodVars_none hV;have U:=h0;rw[MakeChecks.laidMetH_plain _ _ _ (by kernel_rfl)] at Y;have hE:=Zdk Y;have R:(DataW.weightsEach prog [5] [d0]).all (· <=reachBytes)=true:=by have h:=M;rw[params9] at h;exact h
 have hb:=Yq.1 R;clear M R hb;have ha:∀x∈p,x.block<W.heap.size:=λx hx=>by simpa using K.lt x (Zll _ hx)
 obtain ⟨I,Z⟩:=h0;obtain ⟨n0,rfl⟩:=okWide_int underlying5 (F 0 5 v0 rfl rfl);obtain ⟨m0,A,_,Q⟩:=DataW.trod_int underlying5 (show DataW.trod enc prog W 0 (λ_=>true) true I 5 [.int .u8 n0]=some (d0,p) from Z);injection A with A _;injection A with _ A;subst A;refine (Zha n0 W hE (Zfw Y) (Zjg Q)).mono λe W' ⟨he,hx⟩=> ?_;subst he;have hB:Below W.heap.size W W':=hx;refine ⟨_,rfl,_,_,_,[],p,[],K,?_,?_,?_,hB.frame _,λh=>by cases h⟩
 ·exact trodAll_mk1 (shut_bool underlying4 _)
 ·exact trodAll_mk1 (Below.trod ZiA (by kernel_rfl) (Y4 (by kernel_rfl)) U hB ha)
 ·rfl
theorem Zcq:(Rows.opmlDepthRow.wf (OpenSpec.ofChange Rows.opmlDepthSpec))=true:=by kernel_rfl
theorem Zcr:(laidOutB prog)=true:=by kernel_rfl
theorem Zcs:(mapsRowed prog)=true:=by kernel_rfl
theorem Zct:(f9.params.all (prog.readableRec ·))=true:=by kernel_rfl
theorem Zcu:(namedTie prog Rows.opmlDepthRow.named Rows.opmlDepthSpec.vars)=true:=by kernel_rfl
theorem Zcv:((Rows.opmlDepthRow.stops== []))=true:=by kernel_rfl
theorem Zcw:((prog.stops== []))=true:=by kernel_rfl
theorem Zcx:((Rows.opmlDepthRow.knobs== []))=true:=by kernel_rfl
theorem Zcy:((prog.stopKnobs== []))=true:=by kernel_rfl
theorem Zcz:((Rows.opmlDepthRow.inPlace==prog.inPlace 9))=true:=by kernel_rfl
theorem Zax:((Rows.opmlDepthRow.unfollowed==prog.unfollowed 9))=true:=by kernel_rfl
theorem Zay:((Rows.opmlDepthRow.recurses==prog.recurses 9))=true:=by kernel_rfl
theorem Zaz:((Rows.opmlDepthRow.named==prog.varsNamed 9))=true:=by kernel_rfl
theorem ZaA:((Rows.opmlDepthRow.maps==(f9.params.toList++Rows.opmlDepthSpec.plain.varTypes prog).any (prog.mapsRec ·)))=true:=by kernel_rfl
theorem ZaB:((Rows.opmlDepthRow.ifaces==(f9.params.toList++Rows.opmlDepthSpec.plain.varTypes prog).any (prog.ifacesRec ·)))=true:=by kernel_rfl
theorem ZaC:((Rows.opmlDepthRow.mapsOut==prog.mapsAmong f9.resultTypes.toList))=true:=by kernel_rfl
theorem ZaD:((Rows.opmlDepthRow.loops==(f9.params.toList++Rows.opmlDepthSpec.plain.varTypes prog).any (prog.loopsFrom ·)))=true:=by kernel_rfl
theorem ZaE:((Rows.opmlDepthRow.wideKeys==(f9.params.toList++Rows.opmlDepthSpec.plain.varTypes prog++f9.resultTypes.toList).any (prog.wideKeysFrom ·)))=true:=by kernel_rfl
theorem ZaF:(Rows.opmlDepthSpec.vars.all (prog.varReadable ·))=true:=by kernel_rfl
theorem ZaG:(f9.resultTypes.all (λt=>prog.readableRec t && decide (t<prog.types.size)))=true:=by kernel_rfl
theorem ZaH:((Rows.opmlDepthRow.ifacesOut==f9.resultTypes.toList.any (prog.ifacesRec ·)))=true:=by kernel_rfl
theorem ZaI:((Rows.opmlDepthRow.loopsOut==f9.resultTypes.toList.any (prog.loopsFrom ·)))=true:=by kernel_rfl
theorem ZaJ:((Rows.opmlDepthRow.plainKeys==prog.plainKeys))=true:=by kernel_rfl
theorem ZaK:(Rows.opmlDepthRow.shortTexts.isNone)=true:=by kernel_rfl
theorem ZaL:(prog.stopsHeard)=true:=by kernel_rfl
theorem ZaM:(prog.mayEnter)=true:=by kernel_rfl
theorem ZaN:((Rows.opmlDepthRow.lifted==prog.liftsFinal))=true:=by kernel_rfl
theorem ZaO:((prog.make==some Rows.opmlDepthRow.make))=true:=by kernel_rfl
theorem ZaP:((Rows.opmlDepthRow.kinds==(if Rows.opmlDepthRow.domain.isEmpty then [] else f9.params.toList.map λt=>match prog.underlying t with|some (.int k)=>some k|_=>none)))=true:=by kernel_rfl
theorem ZaQ:((Rows.opmlDepthRow.pinned==Rows.opmlDepthRow.pinnedBy))=true:=by kernel_rfl
theorem ZaR:((Rows.opmlDepthRow.veiled==(f9.params.toList++Rows.opmlDepthSpec.plain.varTypes prog++f9.resultTypes.toList).any (prog.veiledRec ·)))=true:=by kernel_rfl
theorem ZaS:(Rows.opmlDepthRow.veiledFits prog f9.params.toList (f9.params.toList++Rows.opmlDepthSpec.plain.varTypes prog++f9.resultTypes.toList))=true:=by kernel_rfl
theorem Ir : prog.funcNamed "feedvault/feedvaultlaw19.OpmlDepth" = some 9 := by kernel_rfl
theorem Zfj:f9.isInstance prog Rows.opmlDepthRow.origin Rows.opmlDepthRow.targs:=Y4 (by kernel_rfl)
theorem Zfl:f9.isWrapper prog Rows.opmlDepthRow.wrapper Rows.opmlDepthRow.mainSum:=by unfold Func.isWrapper;first|(rw[Zh (by decide+kernel)];kernel_rfl)|(rw[Ze (by decide+kernel)];exact ⟨rfl,rfl⟩)
theorem ZiD:Rows.opmlDepthRow.wfByText (OpenSpec.ofChange Rows.opmlDepthSpec)=true:=by kernel_rfl
theorem Zfk : prog.mainIs = some (true, "fc646f4ec087820d56142a8d3af391f2978304ac98ac4e0c4d0ed1d31e8fe297".toList) := by kernel_rfl
theorem ZdS:false=prog.looks []:=by kernel_rfl
theorem Zau:([5].all λu=> !prog.wantsStandIn u)=true:=by kernel_rfl
theorem Zfi:false=Rows.opmlDepthRow.goesBy prog:=by kernel_rfl
theorem YM {a b:Bool} (h:a=true) (k:b=true):(a && b)=true:=by rw[h,k];rfl
theorem ZdQ:joinedFacts prog 9 f9 Rows.opmlDepthSpec Rows.opmlDepthRow=true:=by
 unfold joinedFacts;exact YM (YM (YM (YM (YM (YM (YM (YM (YM (YM (YM (YM (YM (YM (YM (YM (YM (YM (YM (YM (YM (YM (YM (YM (YM (YM (YM (YM (YM (YM (YM Zcq Zcr) Zcs) Zct) Zcu) Zcv) Zcw) Zcx) Zcy) Zcz) Zax) Zay) Zaz) ZaA) ZaB) ZaC) ZaD) ZaE) ZaF) ZaG) ZaH) ZaI) ZaJ) ZaK) ZaL) ZaM) ZaN) ZaO) ZaP) ZaQ) ZaR) ZaS
theorem ZdR:Rows.OpmlDepthSaid:=
 OpenClaim.holds_of_wide 9 f9 rfl rfl rfl rfl rfl rfl rfl ⟨rfl,rfl,rfl,rfl,rfl⟩ rfl rfl rfl rfl rfl Ir func9 ZdQ
  Zfj Zfl
  (λos h H enc _=>ZiG os h H enc)
theorem opmlDepth_holds:Rows.OpmlDepthCardSaid:=
 Claim7.holds_tied_plain_at .later [] [.data, .data, .data, .data, .data, .data, .data, .pinned] true (true, "fc646f4ec087820d56142a8d3af391f2978304ac98ac4e0c4d0ed1d31e8fe297") false ZdR (fun _ h => by cases h) ZiD (fun _ h => by cases h) opmlDepth_row_tie rfl ⟨rfl, rfl⟩ Zfk rfl
  (λf fn hf hfn=>by
   obtain rfl:f=9:=YO (Ir.symm.trans hf)|>.symm
   obtain rfl:fn=f9:=(YO (func9.symm.trans hfn)).symm
   exact ⟨ZdS,λj t ht=>by
    rw[params9] at ht
    have hm:t∈ [5]:=(by simpa using Array.mem_of_getElem? ht)
    exact (show prog.wantsStandIn t=false by simpa using Yq.1 Zau t hm)⟩)
  Zfi
#print axioms opmlDepth_holds
end Go.Proofs.YtnlafkgkcnenfaaGreatDoor
