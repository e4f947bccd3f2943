/- Parts of the proof: contracts and plain laws. -/
import Derived.Test.YtmfinhgobjbecaaGreatDoorA09
namespace Go.Proofs.YtmfinhgobjbecaaGreatDoor
open Go Go.RowKit _root_.Go.Proofs.Tryz
set_option linter.unusedVariables false
set_option linter.unusedSimpArgs false
set_option maxRecDepth 100000
set_option maxHeartbeats 16000000
theorem Z2 (s:ByteArray) (w:Wq) (U:s.size<=140737488351232):
 Calls prog 48 #[.string s] w λe w'=>e= .returned (.bool (validS s))/\Ext w w':=by
 have I:s.size<=maxLen:=by unfold maxLen;omega
 have A:=VD s w I;obtain ⟨K,hK⟩:∃K,(checkS s).2=K:=⟨_,rfl⟩;obtain ⟨R,H⟩:∃R,collapse s=R:=⟨_,rfl⟩;have C:validS s=(decide (K=0) && (R.data.toList==s.data.toList)):=by unfold validS;rw[hK,H]
 have h:=λw'=>Xg s w' U;rw[hK] at A;rw[H] at h;rw[C];clear C hK H;have O:=gd A;have Q:=gd h;clear A h;by_cases F:K=0
 ·subst F;go_enter func48,ntmps48
  go_wp2_with (first|(go_at_call 99;refine (O.out).mono ?_;rintro e w' ⟨rfl,J⟩)|(go_at_call 72;refine (Q.out _).mono ?_;rintro e w' ⟨rfl,D⟩))
  go_ret;exact ⟨by simp[VI],J.trans D⟩
 ·have V:((K:Int)==0)=false:=by rw[ZqW];omega
  have S:decide (K=0)=false:=by simp[F]
  rw[S];clear S F;go_enter func48,ntmps48
  go_wp2_with (first|(go_at_call 99;refine (O.out).mono ?_;rintro e w' ⟨rfl,J⟩)|(go_at_call 72;refine (Q.out _).mono ?_;rintro e w' ⟨rfl,D⟩))
  go_ret;exact ⟨by simp,J⟩
theorem U5 {r:Nat} (F:scalar r) (h:128<=r):∀c∈encN r,128<=c.toNat:=by
 unfold scalar at F;unfold encN;rw[ZqH om,ZqH om];intro c A;by_cases C:r<2048
 ·rw[ZqN C] at A;simp only[Zq1,Zri,ZrD] at A;rcases A with rfl|rfl<;>rw[ZP om]<;>omega
 ·rw[ZqH C] at A;by_cases D:r<65536
  ·rw[ZqN D] at A;simp only[Zq1,Zri,ZrD] at A;rcases A with rfl|rfl|rfl<;>rw[ZP om]<;>omega
  ·rw[ZqH D] at A;simp only[Zq1,Zri,ZrD] at A;rcases A with rfl|rfl|rfl|rfl<;>rw[ZP om]<;>omega
theorem Ki:∀(bs rest out:List UInt8) (g:Bool),bs≠ []->(∀c∈bs,isSp c.toNat=false)->collGo (bs++rest) out g=collGo rest (out++(if g then [32] else [])++bs) false
 | [],_,_,_,h,_=>absurd rfl h
 | [c],rest,out,g,_,h=>by
  show collGo (c::rest) out g=_
  rw[collGo,ZqH (by simp[h c (by simp)])]
 |c::d::bs,rest,out,g,_,h=>by
  show collGo (c::((d::bs)++rest)) out g=_
  rw[collGo,ZqH (by simp[h c (by simp)]),Ki (d::bs) rest _ false (by simp) λx A=>h x (by simp only[Zq1] at A|-;exact Or.inr A)]
  simp
theorem Z0 {s:ByteArray} (h:validS s=true):collapse s=s:=by
 unfold validS at h;simp only[ZqZ,ZsE] at h;rw[<-VH (collapse s),h.2,VH]
theorem UM (t:Int) (w:Wq):
 Calls prog 49 #[nI t] w λe w'=>e= .returned (.bool (inT t))/\w=w':=by
 unfold inT;go_enter func49,ntmps49;go_wp2
 all_goals go_ret
 all_goals exact ⟨by simp_all<;>omega,rfl⟩
section
section
variable {α κ:Type} (O:Ord α κ)
end
section
variable {α κ:Type} [DecidableEq κ] (O:Ord α κ)
end
theorem AtEnt.ext {w w':Wq} {p:Addr} {e:Ent} (h:AtEnt w p e) (A:Ext w w'):AtEnt w' p e:=⟨A.cell h.c0,A.cell h.c1,A.cell h.c2,A.cell h.c3,A.cell h.c4⟩
end
theorem QN (l:List UInt8) (i n:Nat) (h:l[i]? =some (dg n)):digP l i=some (n % 10):=by
 unfold digP;rw[h];simp only[Zmz];rw[ZqN om];congr 1;omega
theorem Zl8 (t:Int) (h:inT t=true):timeP (fmtL t)=some t:=by
 have ht: -62135596800<=t/\t<=253402300799:=by simpa [inT] using h
 have C:=Zb3 (sinceN t / 86400);have J:sinceN t / 86400<3652059:=by unfold sinceN;omega
 have S:=C.top J;have hu:(sinceN t:Int)=t+62135596800:=by unfold sinceN;omega
 unfold fmtL;obtain ⟨q,hq⟩:∃q,dateN (sinceN t / 86400)=q:=⟨_,rfl⟩;rw[hq] at C S|-;obtain ⟨y,m,d⟩:=q;simp only at C S|-;have hl:fmtD y m d (sinceN t % 86400)=(let s:=sinceN t % 86400; [dg (y / 1000),dg (y / 100),dg (y / 10),dg y,45,dg (m / 10),dg m,45,dg (d / 10),dg d,84,dg (s / 3600 / 10),dg (s / 3600),58,dg (s / 60 % 60 / 10),dg (s / 60 % 60),58,dg (s % 60 / 10),dg (s % 60),90]):=by unfold fmtD;simp[pad2,pad4]
 rw[hl];generalize sinceN t=u at*;obtain ⟨U,O,Q,H,I,hn⟩:=C;have Z:=(JK y m).2;simp only;generalize hs:u % 86400=s;have ha:s<86400:=om
 have n4:numP [dg (y / 1000),dg (y / 100),dg (y / 10),dg y,45,dg (m / 10),dg m,45,dg (d / 10),dg d,84,dg (s / 3600 / 10),dg (s / 3600),58,dg (s / 60 % 60 / 10),dg (s / 60 % 60),58,dg (s % 60 / 10),dg (s % 60),90] 0 4=some y:=by
  have V:∀(l:List UInt8) (x:Nat),x<10000->l[0]? =some (dg (x / 1000))->l[1]? =some (dg (x / 100))->l[2]? =some (dg (x / 10))->l[3]? =some (dg x)->numP l 0 4=some x:=by intro l x hx X D F Y;simp only[numP,ZrH,QN l 0 _ X,QN l 1 _ D,QN l 2 _ F,QN l 3 _ Y,Zsm];omega
  exact V _ y om rfl rfl rfl rfl
 have A:∀(l:List UInt8) (i x:Nat),x<100->l[i]? =some (dg (x / 10))->l[i+1]? =some (dg x)->numP l i 2=some x:=by intro l i x hx D F;simp only[numP,Nat.add_zero,QN _ i _ D,QN _ (i+1) _ F,Zsm];omega
 have R:stampP [dg (y / 1000),dg (y / 100),dg (y / 10),dg y,45,dg (m / 10),dg m,45,dg (d / 10),dg d,84,dg (s / 3600 / 10),dg (s / 3600),58,dg (s / 60 % 60 / 10),dg (s / 60 % 60),58,dg (s % 60 / 10),dg (s % 60),90]=some t:=by
  unfold stampP;rw[n4,A _ 5 m om rfl rfl,A _ 8 d om rfl rfl,A _ 11 (s / 3600) om rfl rfl,A _ 14 (s / 60 % 60) om rfl rfl,A _ 17 (s % 60) om rfl rfl,ZqN (by simp[sepP])];simp only;unfold secsP;rw[ZqN (by refine ⟨U,S,O,Q,H,I,?_,?_,?_⟩<;>omega),<-hn]
  congr 1;omega
 unfold timeP;rw[R];have hf:fracP [dg (y / 1000),dg (y / 100),dg (y / 10),dg y,45,dg (m / 10),dg m,45,dg (d / 10),dg d,84,dg (s / 3600 / 10),dg (s / 3600),58,dg (s / 60 % 60 / 10),dg (s / 60 % 60),58,dg (s % 60 / 10),dg (s % 60),90] 19=some 19:=by unfold fracP;rw[ZqH (by simp[sepP])]
 rw[hf];have ho:offP [dg (y / 1000),dg (y / 100),dg (y / 10),dg y,45,dg (m / 10),dg m,45,dg (d / 10),dg d,84,dg (s / 3600 / 10),dg (s / 3600),58,dg (s / 60 % 60 / 10),dg (s / 60 % 60),58,dg (s % 60 / 10),dg (s % 60),90] 19=some 0:=by unfold offP;rw[ZqN (by simp[sepP])];rfl
 simp only[ho,Int.sub_zero,h,Zsy]
theorem YX {s x r:List UInt8} {k:Nat} (h:s.drop k=x++r):s.drop (k+x.length)=r:=by
 rw[<-List.drop_drop,h,List.drop_left]
theorem Jv {s r:List UInt8} {c:UInt8} {k:Nat} (h:s.drop k=c::r):s.drop (k+1)=r:=YX (x:= [c]) h
theorem Qp {s r:List UInt8} {c:UInt8} {k:Nat} (h:s.drop k=c::r):k<s.length:=by
 rcases ZrJ k s.length with A|A
 ·exact A
 ·rw[Zq3 A] at h;cases h
theorem Zjl {s x:List UInt8} {k:Nat} (h:s.drop k=x) (A:k<=s.length):k+x.length=s.length:=by
 have:=ZqS List.length h;rw[ZqP] at this;omega
theorem Zkb {s x r:List UInt8} {k:Nat} (h:s.drop k=x++r) (A:k<=s.length):k+x.length<=s.length:=by
 have:=Zjl h A;rw[ZqG] at this;omega
theorem Ub {s t r:List UInt8} {k:Nat} (h:s.drop k=t++r):hasAt s k t=true:=by
 unfold hasAt;rw[h,List.isPrefixOf_iff_prefix];exact List.prefix_append _ _
theorem Jm {s r t:List UInt8} {c d:UInt8} {k:Nat} (h:s.drop k=c::r) (A:d≠c):hasAt s k (d::t)=false:=by
 unfold hasAt;rw[h];have:(d==c)=false:=by simpa using A
 simp[List.isPrefixOf,this]
theorem Xw {s r t:List UInt8} {c c2 d A:UInt8} {k:Nat} (h:s.drop k=c::c2::r) (C:A≠c2):hasAt s k (d::A::t)=false:=by
 unfold hasAt;rw[h];have:(A==c2)=false:=by simpa using C
 simp[List.isPrefixOf,this]
theorem Eg {s r:List UInt8} {c:UInt8} {k:Nat} (h:s.drop k=c::r) (A:isSp c.toNat=false):spAt s k=k:=by
 unfold spAt;rw[h,Zr4,ZqH (by rw[A];simp)];rfl
theorem Zp2 {s r:List UInt8} {c:UInt8} {k:Nat} (h:s.drop k=32::c::r) (A:isSp c.toNat=false):spAt s k=k+1:=by
 unfold spAt;rw[h,Zr4,ZqN (by decide),Zr4,ZqH (by rw[A];simp)];rfl
theorem It (c:UInt8):UInt8.ofNat c.toNat=c:=by simp
theorem E5 {c:UInt8} (t:List UInt8) (h:c.toNat<128):dec (c::t)=(c.toNat,1):=by
 have A:=QL (r:=c.toNat) (Or.inl om) t;rw[Yl h,It] at A;exact A
theorem ZcK {b:Bool} {r:Nat} (h:nmOk true false r=false):nmOk true b r=false:=by
 cases b with
 |false=>exact h
 |true=>unfold nmOk nmChar at h;unfold nmOk;simp only[Bool.or_eq_false_iff,ZrW,ZsJ] at h;simp only[Zsy,Bool.or_eq_false_iff];exact ⟨h.1,h.2.1⟩
def ends (c:UInt8):Prop:=c.toNat<128/\nmOk true false c.toNat=false
theorem ZnE {c:UInt8} (C:ends c) (r:List UInt8):∀(f:Nat) (first:Bool) (l:List UInt8),nmGo true f first l=l.length->l.length<=f->∀g,l.length<g->nmGo true g first (l++c::r)=l.length
 |0,first,l,_,hl,g,hg=>by
  have:l= []:=ZqX om
  subst this
  refine YH (Or.inr (Or.inr ?_))
  rw[Zrl,E5 r C.1]
  exact ZcK C.2
 |f+1,first,l,h,hl,g,hg=>by
  by_cases I:l= []
  ·subst I
   refine YH (Or.inr (Or.inr ?_))
   rw[Zrl,E5 r C.1]
   exact ZcK C.2
  ·have J:0<l.length:=Zr3.2 I
   have A:(dec l).2≠0/\nmOk true first (dec l).1=true:=by
    by_cases H:l= []\/(dec l).2=0\/nmOk true first (dec l).1=false
    ·rw[YH H] at h
     omega
    ·refine ⟨λe=>H (Or.inr (Or.inl e)),?_⟩
     cases hk:nmOk true first (dec l).1 with
     |true=>rfl
     |false=>exact absurd (Or.inr (Or.inr hk)) H
   have D:=(Ze1 (c::r) A.1).1
   have F:=Xi l
   rw[XQ A.1 A.2] at h
   obtain ⟨g,rfl⟩:∃m,g=m+1:=⟨g - 1,om⟩
   rw[XQ (by rw[D];exact A.1) (by rw[D];exact A.2),D,List.drop_append_of_le_length F]
   have O:=ZnE C r f false (l.drop (dec l).2) (by rw[ZqP];omega) (by rw[ZqP];omega) g (by rw[ZqP];omega)
   rw[O,ZqP]
   omega
theorem Kw {l:List UInt8} (h:isQ l=true):0<l.length/\nmGo true l.length true l=l.length:=by
 unfold isQ nmLen at h;simpa using h
theorem ZnF {s n r:List UInt8} {c:UInt8} {k:Nat} (C:isQ n=true) (A:ends c) (h:s.drop k=n++c::r):nmAt s k=k+n.length:=by
 unfold nmAt nmLen;rw[h,ZnE A r n.length true n (Kw C).2 (ZqE _) _ (by rw[ZqG,ZqK];omega)]
theorem ZgC {c:UInt8} {t:List UInt8} (h:isQ (c::t)=true):c≠63/\c≠33/\c≠47/\isSp c.toNat=false/\c≠62:=by
 have F:=(Kw h).2;have A:∀d:UInt8,d.toNat<128->nmOk true true d.toNat=false->c≠d:=λd H I e=>by subst e;rw[YH (Or.inr (Or.inr (by rw[E5 t H];exact I))),ZqK] at F;omega
 refine ⟨A 63 (by decide) (by decide),A 33 (by decide) (by decide),A 47 (by decide) (by decide),?_,A 62 (by decide) (by decide)⟩;have D:=A 32 (by decide) (by decide);have a2:=A 9 (by decide) (by decide);have a3:=A 10 (by decide) (by decide);have a4:=A 13 (by decide) (by decide);unfold isSp;rw[Zr0];intro e;have C:∀n:Nat,n<256->(c.toNat:Int)=n->c=UInt8.ofNat n:=λn J e=>by
  have:c.toNat=n:=om
  rw[<-this,It]
 rcases e with e|e|e|e
 ·exact D (C 32 (by decide) e)
 ·exact a2 (C 9 (by decide) e)
 ·exact a3 (C 10 (by decide) e)
 ·exact a4 (C 13 (by decide) e)
theorem ZgA {l:List UInt8} (h:isQ l=true):∃c t,l=c::t:=by
 cases l with
 |nil=>exact absurd (Kw h).1 (by simp)
 |cons c t=>exact ⟨c,t,rfl⟩
theorem ZeP (v:Bool) (c:UInt8) (h:wescB v c≠ []):∃x:List UInt8,wescB v c=38::(x++ [59])/\(∀d∈x,(d !=59)=true)/\refRune x=some c.toNat/\isChar (c.toNat:Int)=true/\c.toNat<128:=by
 unfold wescB at h|-;by_cases A:c=38
 ·subst A;exact ⟨[97,109,112],rfl,by decide,by decide,by decide,by decide⟩
 rw[ZqH A] at h|-;by_cases C:c=60
 ·subst C;exact ⟨[108,116],rfl,by decide,by decide,by decide,by decide⟩
 rw[ZqH C] at h|-;by_cases D:c=62
 ·subst D;exact ⟨[103,116],rfl,by decide,by decide,by decide,by decide⟩
 rw[ZqH D] at h|-;by_cases F:c=13
 ·subst F;exact ⟨[35,49,51],rfl,by decide,by decide,by decide,by decide⟩
 rw[ZqH F] at h|-;by_cases H:v=false
 ·rw[ZqN H] at h;exact absurd rfl h
 rw[ZqH H] at h|-;by_cases I:c=34
 ·subst I;exact ⟨[113,117,111,116],rfl,by decide,by decide,by decide,by decide⟩
 rw[ZqH I] at h|-;by_cases J:c=9
 ·subst J;exact ⟨[35,57],rfl,by decide,by decide,by decide,by decide⟩
 rw[ZqH J] at h|-;by_cases O:c=10
 ·subst O;exact ⟨[35,49,48],rfl,by decide,by decide,by decide,by decide⟩
 rw[ZqH O] at h;exact absurd rfl h
theorem XZ {v:Bool} {c:UInt8} (h:wescB v c= []):c≠38/\c≠60/\c≠62/\c≠13/\(v=true->c≠34/\c≠9/\c≠10):=by
 unfold wescB at h;by_cases A:c=38
 ·rw[ZqN A] at h;cases h
 rw[ZqH A] at h;by_cases C:c=60
 ·rw[ZqN C] at h;cases h
 rw[ZqH C] at h;by_cases D:c=62
 ·rw[ZqN D] at h;cases h
 rw[ZqH D] at h;by_cases F:c=13
 ·rw[ZqN F] at h;cases h
 rw[ZqH F] at h;refine ⟨A,C,D,F,λO=> ?_⟩;rw[ZqH (by rw[O];simp)] at h;by_cases H:c=34
 ·rw[ZqN H] at h;cases h
 rw[ZqH H] at h;by_cases I:c=9
 ·rw[ZqN I] at h;cases h
 rw[ZqH I] at h;by_cases J:c=10
 ·rw[ZqN J] at h;cases h
 exact ⟨H,I,J⟩
theorem Zdf (v:Bool):∀a b:List UInt8,wescL v (a++b)=wescL v a++wescL v b
 | [],b=>rfl
 |c::t,b=>by
  show wescC v c++wescL v (t++b)=(wescC v c++wescL v t)++wescL v b
  rw[Zdf v t b,ZqY]
theorem KO {v:Bool}:∀{l:List UInt8},(∀c∈l,wescB v c= [])->wescL v l=l
 | [],_=>rfl
 |c::t,h=>by
  show wescC v c++wescL v t=c::t
  unfold wescC
  rw[ZqN (h c Zq6),KO λd A=>h d (Zq7 _ A)]
  rfl
theorem Zdh {v:Bool}:∀{l:List UInt8},∀d∈wescL v l,d≠60/\d≠62/\(v=true->d≠34)
 | [],d,h=>by cases h
 |c::t,d,h=>by
  have F:d∈wescC v c++wescL v t:=h
  rcases Zq0.1 F with A|A
  ·unfold wescC at A
   by_cases D:wescB v c= []
   ·rw[ZqN D,ZqU] at A
    subst A
    have:=XZ D
    exact ⟨this.2.1,this.2.2.1,λH=>(this.2.2.2.2 H).1⟩
   ·rw[ZqH D] at A
    have C:∀e∈wescB v c,e≠60/\e≠62/\e≠34:=by
     unfold wescB
     repeat' split
     all_goals decide
    have:=C d A
    exact ⟨this.1,this.2.1,λ_=>this.2.2⟩
  ·exact Zdh d A
theorem Zh0 {v:Bool} {l:List UInt8} (h:wescL v l= []):l= []:=by
 cases l with
 |nil=>rfl
 |cons c t=>
  have A:wescC v c++wescL v t= []:=h;unfold wescC at A;by_cases C:wescB v c= []
  ·rw[ZqN C] at A;cases A
  ·rw[ZqH C] at A;exact absurd (List.append_eq_nil_iff.1 A).1 C
theorem Vg {p:UInt8->Bool}:∀{x r:List UInt8},(∀d∈x,p d=true)->(∀c t,r=c::t->p c=false)->(x++r).takeWhile p=x
 | [],r,_,hr=>by
  cases r with
  |nil=>rfl
  |cons c t=>rw[Zrl,Zr4,ZqH (by rw[hr c t rfl];simp)]
 |d::x,r,h,hr=>by rw[Zrp,Zr4,ZqN (h d Zq6),Vg (λe A=>h e (Zq7 _ A)) hr]
theorem ZpZ {z x r:List UInt8} {i n:Nat} (h:z.drop i=38::(x++ [59])++r) (F:∀d∈x,(d !=59)=true) (C:refRune x=some n) (A:isChar (n:Int)=true):refAt z i=some (n,i+x.length+2):=by
 unfold refAt;dsimp only;rw[h];have D:((38::(x++ [59])++r:List UInt8).tail.takeWhile λc=>c !=59)=x:=by show ((x++ [59]++r).takeWhile λc=>c !=59)=x;rw[ZqY];exact Vg F λc t e=>by injection e with e _;subst e;rfl
 rw[D,ZqN (show (38::(x++ [59])++r:List UInt8).head? =some 38 from rfl),ZqN (by simp only[Zrp,ZqK,ZqG,Zq5];omega),C];dsimp only;rw[ZqN A]
theorem Zej:∀{l:List UInt8},(∀c∈l,c≠13)->lns l=l
 | [],_=>rfl
 | [c],h=>by rw[lns,ZqH (h c Zq6)]
 |c::d::r,h=>by
  have A:=h c Zq6
  rw[lns,ZqH (λe=>A e.1),ZqH A,Zej λe C=>h e (Zq7 _ C)]
theorem Eh:∀{l:List UInt8},(∀c∈l,c≠13/\c≠9/\c≠10)->spaced l=l
 | [],_=>rfl
 |c::t,h=>by
  unfold spaced at*
  have C:=h c Zq6
  have ih:=Eh (l:=t) λe F=>h e (Zq7 _ F)
  unfold spaced at ih
  rw[Zq8,ih]
  split
  ·rename_i D
   unfold isSp at D
   rw[Zrd] at D
   have A:∀n:Nat,n<256->(c.toNat:Int)=n->c=UInt8.ofNat n:=λn H e=>by
    have:c.toNat=n:=om
    rw[<-this,It]
   rcases D with e|e|e|e
   ·rw[A 32 (by decide) e];rfl
   ·exact absurd (A 9 (by decide) e) C.2.1
   ·exact absurd (A 10 (by decide) e) C.2.2
   ·exact absurd (A 13 (by decide) e) C.1
  ·rfl
theorem ZhN (p:UInt8->Bool) (l:List UInt8):∃a b,l=a++b/\(∀c∈a,p c=true)/\(b= []\/∃c t,b=c::t/\p c=false):=by
 induction l with
 |nil=>exact ⟨[],[],rfl,(by intro c h;cases h),Or.inl rfl⟩
 |cons c t ih=>
  cases hp:p c with
  |false=>exact ⟨[],c::t,rfl,(by intro c h;cases h),Or.inr ⟨c,t,rfl,hp⟩⟩
  |true=>
   obtain ⟨a,b,C,D,F⟩:=ih;refine ⟨c::a,b,by rw[C];rfl,λd A=> ?_,F⟩;rcases Zq1.1 A with A|A
   ·rw[A];exact hp
   ·exact D d A
theorem E3 (v:Bool) (s:List UInt8):∀(n:Nat) (t:List UInt8),t.length<n->∀(i J:Nat) (r out:List UInt8),s.drop i=wescL v t++r->J=i+(wescL v t).length->J<=s.length->contAt v s J i out= .ok (out++t)
 |0,t,h,_,_,_,_,_,_,_=>by omega
 |n+1,t,h,i,J,r,out,hd,hto,hle=>by
  obtain ⟨a,b,rfl,ha,hb⟩:=ZhN (λc=>decide (wescB v c= [])) t
  have C:∀c∈a,wescB v c= []:=λc D=>by simpa using ha c D
  rw[ZqG] at h
  rw[Zdf,KO C] at hd hto
  rw[ZqG] at hto
  have A:(s.take J).drop i=a++wescL v b:=by rw[List.drop_take,hd,show J - i=(a++wescL v b).length by rw[ZqG];omega,List.take_left]
  by_cases H:a= []
  ·subst H
   rcases hb with rfl|⟨c,t',rfl,D⟩
   ·rw[Zb0 (by rw[hto];simp[wescL])]
    simp
   ·have F:wescB v c≠ []:=(by simpa using D)
    obtain ⟨x,I,V,X,Y,Z⟩:=ZeP v c F
    have U:wescL v (c::t')=38::(x++ [59])++wescL v t':=by
     show wescC v c++wescL v t'=_
     unfold wescC
     rw[ZqH F,I]
    rw[Zrl] at A hd|-
    rw[U] at hd A hto
    have hl:(38::(x++ [59])++wescL v t':List UInt8).length=x.length+2+(wescL v t').length:=(by simp only[Zrp,ZqK,ZqG,Zq5];omega)
    rw[hl] at hto
    rw[Zq5] at hto h
    rw[ZqK] at h
    rw[Zb1 hle om (by rw[hd];rfl) (ZpZ A V X Y)]
    have R:s.drop (i+x.length+2)=wescL v t'++r:=by
     have:=YX (x:=38::(x++ [59])) (by rw[hd,ZqY])
     rw[<-this]
     congr 1
     simp only[ZqK,ZqG,Zq5];omega
    rw[E3 v s n t' om _ _ r _ R om hle,Yl Z,It]
    simp
  ·have he:0<a.length:=Zr3.2 H
   have hh:(s.drop i).head?≠some 38:=by
    rw[hd]
    cases a with
    |nil=>exact absurd rfl H
    |cons c a=>
     intro e
     have Q:some c=some 38:=e
     injection Q with Q
     exact (XZ (C c Zq6)).1 Q
   have hp:plainAt s J i=a:=by
    unfold plainAt
    rw[A]
    refine Vg (λc D=>by have:=(XZ (C c D)).1;simpa using this) λc t0 e=> ?_
    rcases hb with rfl|⟨O,t',rfl,D⟩
    ·cases e
    ·have F:wescB v O≠ []:=(by simpa using D)
     obtain ⟨x,I, -⟩:=ZeP v O F
     have U:wescL v (O::t')=38::(x++ [59])++wescL v t':=by
      show wescC v O++wescL v t'=_
      unfold wescC
      rw[ZqH F,I]
     rw[U] at e
     injection e with e _
     subst e
     rfl
   rw[Iz hle om hh,hp,Zej λc D=>(XZ (C c D)).2.2.2.1]
   have S:(if v=true then spaced a else a)=a:=by
    split
    ·rename_i hv
     exact Eh λc D=>⟨(XZ (C c D)).2.2.2.1,((XZ (C c D)).2.2.2.2 hv).2⟩
    ·rfl
   rw[S,E3 v s n b om _ _ r _ (YX (by rw[hd,ZqY])) om hle,ZqY]
theorem Zb2 {v:Bool} {s t r:List UInt8} {i:Nat} (h:s.drop i=wescL v t++r) (A:i<=s.length):contP v s i (i+(wescL v t).length)= .ok t:=by
 rw[Zf4];exact E3 v s _ t (ZrB _) i _ r [] h rfl (Zkb h A)
theorem Zko {s r:List UInt8} {f k:Nat} {a:AtP} (J:isQ a.name=true) (h:s.drop k=a.name++([61,34]++(wescL true a.value++(34::r)))) (U:k<=s.length):
 attrP s f k= .ok (⟨[],a.name,a.value,k⟩,k+a.name.length+2+(wescL true a.value).length+1):=by
 have F:=ZnF J (c:=61) ⟨by decide,by decide⟩ h;have I:=(Kw J).1;have C:=YX (x:=a.name) h;have A:=Jv C;have D:=Jv A;have H:=YX (x:=wescL true a.value) D;have V:=Qp C;have l2:=Qp A;have X:=Qp H;have S:((s.drop (k+a.name.length+1+1)).takeWhile λd=>d !=34 && d !=60)=wescL true a.value:=by
  rw[D];refine Vg (x:=wescL true a.value) (r:=34::r) (λd Q=> ?_) λc t e=> ?_
  ·have:=Zdh d Q;simp[this.1,this.2.2 rfl]
  ·injection e with e _;subst e;rfl
 have O:=Zb2 (v:=true) D om;unfold attrP;dsimp only;rw[F,ZqH om,Eg C (by decide),ZqH (by rw[Ub (t:= [61]) C];simp),Eg A (by decide),ZqH (by rw[Ub (t:= [34]) A];simp)];have R:(s.drop (k+a.name.length+1)).headD 0=34:=by rw[A];rfl
 rw[R,S,O];dsimp only;rw[ZqH om,ZqH (by rw[H];simp),h,Nat.add_sub_cancel_left,List.take_left]
def attrAts:List AtP->Nat->List AtP
 | [],_=> []
 |a::t,k=>⟨[],a.name,a.value,k+1⟩::attrAts t (k+(attrW a).length)
theorem Zkn (a:AtP):(attrW a).length=1+a.name.length+2+(wescL true a.value).length+1:=by
 unfold attrW;simp only[ZqG,ZqK,Zq5]
theorem ZbL {s:List UInt8} {f:Nat} {nm A:List UInt8}:∀(al done:List AtP) (k:Nat),attrsOk al (done.map AtP.name)=true->s.drop k=attrsW al++A->k<=s.length->
 startAt s f nm k done=startAt s f nm (k+(attrsW al).length) (done++attrAts al k)
 | [],done,k,_,_,_=>by show _=startAt s f nm (k+0) (done++ []);rw[Zrb];rfl
 |a::t,done,k,ho,h,hk=>by
  rw[attrsOk] at ho;simp only[ZqZ,Zsj] at ho;obtain ⟨⟨⟨⟨h1,S⟩,H⟩,h4⟩,X⟩:=ho;obtain ⟨c,n',U⟩:=ZgA H;have V:=H;rw[U] at V;obtain ⟨e1,e2,e3,e4,e5⟩:=ZgC V;have I:s.drop k=32::(a.name++([61,34]++(wescL true a.value++(34::(attrsW t++A))))):=by rw[h];show (attrW a++attrsW t)++A=_;unfold attrW;simp only[ZqY,Zrp,Zrl]
  have F:s.drop k=32::c::(n'++([61,34]++(wescL true a.value++(34::(attrsW t++A))))):=by rw[I,U];rfl
  have J:=Jv I;have C:=Jv F;have R:=Zp2 F e4;have hc:=Qp I;have Y:=Zko (f:=f) H J om;have D:(done.any λb=>b.name==a.name)=false:=by rw[List.any_eq_false];intro b Z e;have he:b.name=a.name:=(by simpa using e);have:(done.map AtP.name).contains a.name=true:=(by rw[Zr7,<-he];exact Zrv Z);rw[this] at S;cases S
  rw[Xj s f nm k done hk,R,ZqH (by rw[Jm C (Ne.symm e5)];simp),ZqH (by rw[Jm C (Ne.symm e3)];simp),ZqH (by rw[Jm C (Ne.symm e3)];simp),ZqH om,Y];dsimp only;rw[D,ZqH (by simp)];have Q:k+1+a.name.length+2+(wescL true a.value).length+1=k+(attrW a).length:=by rw[Zkn];omega
  have O:s.drop (k+(attrW a).length)=attrsW t++A:=by refine YX ?_;rw[h];show (attrW a++attrsW t)++A=_;rw[ZqY]
  rw[Q,ZbL t _ _ (by rw[Zrf];exact X) O (Zkb (r:=attrsW t++A) (by rw[h];show (attrW a++attrsW t)++A=_;rw[ZqY]) hk)];show _=startAt s f nm (k+(attrW a++attrsW t).length) (done++(⟨[],a.name,a.value,k+1⟩::attrAts t (k+(attrW a).length)));rw[ZqG,ZqY,Nat.add_assoc];rfl
theorem ZaB:∀(al:List AtP) (c:UInt8) (r:List UInt8),ends c->∃d r',attrsW al++c::r=d::r'/\ends d
 | [],c,r,h=>⟨c,r,rfl,h⟩
 |a::t,c,r,_=>by
  refine ⟨32,_,rfl,?_⟩
  exact ⟨by decide,by decide⟩
theorem Zkp {s A:List UInt8} {k:Nat} {al:List AtP} (h:s.drop k=attrsW al++A) (C:k<=s.length):k+(attrsW al).length<=s.length:=Zkb h C
theorem ZhS {s n r:List UInt8} {al:List AtP} {k:Nat} (e:Bool) (O:isQ n=true) (Z:attrsOk al []=true) (h:s.drop k=60::(n++(attrsW al++((if e then [47,62] else [62])++r)))):
 constructP s k= .ok (⟨1,n,attrAts al (k+1+n.length),e,[],k⟩,k+1+n.length+(attrsW al).length+(if e then 2 else 1)):=by
 obtain ⟨c,n',J⟩:=ZgA O;have Y:=O;rw[J] at Y;obtain ⟨e1,e2,e3,e4,e5⟩:=ZgC Y;have X:=(Kw O).1;have A:s.drop k=60::c::(n'++(attrsW al++((if e then [47,62] else [62])++r))):=by rw[h,J];rfl
 have hk:=Qp h;have ht:∃d r',attrsW al++((if e then [47,62] else [62])++r)=d::r'/\ends d:=by
  cases e with
  |true=>exact ZaB al 47 _ ⟨by decide,by decide⟩
  |false=>exact ZaB al 62 _ ⟨by decide,by decide⟩
 obtain ⟨d,r',hdr,R⟩:=ht;have D:=Jv h;have Q:=YX (x:=n) D;rw[hdr] at D;have S:=ZnF O R D;have H:k+1+n.length<=s.length:=Zkb D om;have U:=ZbL (f:=k) (nm:=n) al [] (k+1+n.length) Z Q H;have V:=YX (x:=attrsW al) Q;have I:=Zkp Q H;have F:startAt s k n (k+1+n.length+(attrsW al).length) (attrAts al (k+1+n.length))= .ok (⟨1,n,attrAts al (k+1+n.length),e,[],k⟩,k+1+n.length+(attrsW al).length+(if e then 2 else 1)):=by
  rw[Xj s k n _ _ I];cases e with
  |true=>have C:s.drop (k+1+n.length+(attrsW al).length)=47::62::r:=V;rw[Eg C (by decide),ZqH (by rw[Jm C (by decide)];simp),ZqN (Ub (t:= [47,62]) C)];rfl
  |false=>have C:s.drop (k+1+n.length+(attrsW al).length)=62::r:=V;rw[Eg C (by decide),ZqN (Ub (t:= [62]) C)];rfl
 unfold constructP;rw[ZqH (by rw[Xw A (Ne.symm e1)];simp),ZqH (by rw[Xw A (Ne.symm e2)];simp),ZqH (by rw[Xw A (Ne.symm e2)];simp),ZqH (by rw[Xw A (Ne.symm e2)];simp),ZqH (by rw[Xw A (Ne.symm e2)];simp),ZqH (by rw[Xw A (Ne.symm e3)];simp),ZqN (Ub (t:= [60]) h)];rw[JE s k om,S,ZqH om,D,Nat.add_sub_cancel_left,List.take_left,U];exact F
theorem ZmL {s n r:List UInt8} {k:Nat} (F:isQ n=true) (h:s.drop k=60::47::(n++62::r)):constructP s k= .ok (⟨2,n,[],false,[],k⟩,k+2+n.length+1):=by
 have H:=(Kw F).1;have A:=Jv (Jv h);have C:=ZnF F (c:=62) ⟨by decide,by decide⟩ A;have D:=YX (x:=n) A;unfold constructP;rw[ZqH (by rw[Xw h (by decide)];simp),ZqH (by rw[Xw h (by decide)];simp),ZqH (by rw[Xw h (by decide)];simp),ZqH (by rw[Xw h (by decide)];simp),ZqH (by rw[Xw h (by decide)];simp),ZqN (Ub (t:= [60,47]) h)];unfold endP;dsimp only;rw[show k+2=k+1+1 from rfl,C,ZqN om,Eg D (by decide),ZqN (Ub (t:= [62]) D),A,Nat.add_sub_cancel_left,List.take_left]
theorem Zcj:∀(x r:List UInt8) (k:Nat),(∀d∈x,d≠60)->findIn [60] (x++60::r) k=some (k+x.length)
 | [],r,k,_=>by
  rw[Zrl,findIn,ZqN (by simp[List.isPrefixOf])]
  rfl
 |c::x,r,k,h=>by
  have C:=h c Zq6
  have A:((60:UInt8)==c)=false:=by simpa using Ne.symm C
  rw[Zrp,findIn,ZqH (by simp[List.isPrefixOf,A]),Zcj x r (k+1) λd D=>h d (Zq7 _ D),ZqK]
  congr 1
  omega
theorem Zck:∀(x:List UInt8) (k:Nat),(∀d∈x,d≠60)->findIn [60] x k=none
 | [],k,_=>by rw[findIn,ZqH (by simp)]
 |c::x,k,h=>by
  have C:=h c Zq6
  have A:((60:UInt8)==c)=false:=by simpa using Ne.symm C
  rw[findIn,ZqH (by simp[List.isPrefixOf,A]),Zck x (k+1) λd D=>h d (Zq7 _ D)]
theorem Zav {s t r:List UInt8} {k:Nat} (R:t≠ []) (h:s.drop k=wescL false t++r) (Q:r= []\/∃r',r=60::r') (I:k<=s.length):constructP s k= .ok (dataT t k,k+(wescL false t).length):=by
 have H:∀d∈wescL false t,d≠60:=λd O=>(Zdh d O).1;have D:(findAt s k [60]).getD s.length=k+(wescL false t).length:=by
  unfold findAt;rw[h];rcases Q with rfl|⟨r',rfl⟩
  ·rw[Zrb,Zck _ _ H];exact (Zjl (by rw[h,Zrb]) I).symm
  ·rw[Zcj _ _ _ H];rfl
 have J:=Zb2 h I;obtain ⟨c,w,F⟩:∃c w,wescL false t=c::w:=by
  cases hx:wescL false t with
  |nil=>exact absurd (Zh0 hx) R
  |cons c w=>exact ⟨c,w,rfl⟩
 have A:(60:UInt8)≠c:=λe=>H c (by rw[F];exact Zq6) e.symm;have C:s.drop k=c::(w++r):=by rw[h,F];rfl
 unfold constructP;rw[ZqH (by rw[Jm C A];simp),ZqH (by rw[Jm C A];simp),ZqH (by rw[Jm C A];simp),ZqH (by rw[Jm C A];simp),ZqH (by rw[Jm C A];simp),ZqH (by rw[Jm C A];simp),ZqH (by rw[Jm C A];simp)];dsimp only;rw[D,J]
def AtP.bare (a:AtP):AtP:=⟨a.space,a.name,a.value,0⟩
mutual
def Nd.bare:Nd->Nd
 | .mk k s n al ks t _=> .mk k s n (al.map AtP.bare) (Nds.bare ks) t 0
def Nds.bare:List Nd->List Nd
 | []=> []
 |x::t=>x.bare::Nds.bare t
end
theorem U2 (n:Nd):n.bare.kind=n.kind:=by cases n;rw[Nd.bare];rfl
theorem Im:∀(al:List AtP) (seen:List (List UInt8)) (k:Nat),attrsOk al seen=true->(attrAts al k).map AtP.bare=al.map AtP.bare
 | [],_,_,_=>rfl
 |a::t,seen,k,h=>by
  rw[attrsOk] at h
  simp only[ZqZ] at h
  have A:a.space= []:=by simpa using h.1.1.1.1
  rw[attrAts,Zq8,Zq8,Im t _ _ h.2]
  unfold AtP.bare
  rw[A]
theorem reads.nil (s:List UInt8) (k:Nat):reads s k k []:=λl=>by rw[Zrb]
theorem reads.trans {s:List UInt8} {a b c:Nat} {L M:List Tok} (h:reads s a b L) (A:reads s b c M):reads s a c (L++M):=λl=>by rw[h,A,ZqY]
theorem reads.one {s:List UInt8} {k e:Nat} {t:Tok} (A:k<s.length) (h:constructP s k= .ok (t,e)) (C:keeps t):reads s k e [t]:=λl=>by rw[YY A h,ZqN C]
theorem Zai {t:Tok} (h:t.kind≠3):keeps t:=Or.inl h
theorem Ky {t:List UInt8} {k:Nat} (h:t≠ []):keeps (dataT t k):=Or.inr h
theorem ZfU {done:List Nd} {t:List UInt8} {a:Nat} (h:∀x,done.getLast? =some x->x.kind≠1):addText done t a=done++ [charD t a]:=by
 unfold addText;split
 ·rename_i s n al kk u b A;exact absurd rfl (h _ A)
 ·rfl
theorem ZcL {d:Nat} {n:Nd} (h:nodeOk d n=true):∃r,nodeW n=60::r:=by
 obtain ⟨k,s,nm,al,ks,t,a⟩:=n;rw[nodeOk] at h;simp only[ZqZ,Zrd] at h;rw[nodeW,ZqH om];exact ⟨_,rfl⟩
mutual
theorem Zeq (s:List UInt8):∀(n:Nd) (d k:Nat) (r:List UInt8),nodeOk d n=true->s.drop k=nodeW n++r->
 ∃t L m,reads s k (k+(nodeW n).length) (t::L)/\t.kind=1/\m.bare=n.bare/\∀fin rest,elemAt fin d ((t::L)++rest)= .ok (m,rest)
 | .mk kd sp nm al ks tx at_,d,k,r,ho,h=>by
  rw[nodeOk] at ho
  simp only[ZqZ,Zrd,Zsi] at ho
  obtain ⟨⟨⟨⟨⟨⟨rfl,hd⟩,rfl⟩,rfl⟩,hq⟩,ha⟩,hks⟩:=ho
  have hbare:=Im al [] (k+1+nm.length) ha
  rw[nodeW,ZqH (by decide)] at h|-
  cases ks with
  |nil=>
   have h':s.drop k=60::(nm++(attrsW al++((if true then [47,62] else [62])++r))):=by
    rw[h]
    simp only[List.isEmpty_nil,Zsy,ZqY,Zrp,Zrl]
   have hc:=ZhS true hq ha h'
   refine ⟨⟨1,nm,attrAts al (k+1+nm.length),true,[],k⟩,[],.mk 0 [] nm (attrAts al (k+1+nm.length)) [] [] k,?_,rfl,?_,λfin rest=> ?_⟩
   ·have hr:=reads.one (Qp h') hc (Zai (by simp))
    have hlen:k+1+nm.length+(attrsW al).length+(if true=true then 2 else 1)=k+([60]++nm++attrsW al++(if ([]:List Nd).isEmpty=true then [47,62] else [62]++nodesW []++ [60,47]++nm++ [62])).length:=by
     simp only[List.isEmpty_nil,Zsy,ZqG,ZqK,Zq5]
     omega
    rw[hlen] at hr
    exact hr
   ·rw[Nd.bare,Nd.bare,hbare]
   ·rw[Zrp,E7,ZqH (by omega),ZqN rfl]
    rfl
  |cons x xs=>
   have h':s.drop k=60::(nm++(attrsW al++((if false then [47,62] else [62])++(nodesW (x::xs)++(60::47::(nm++62::r)))))):=by
    rw[h]
    simp only[List.isEmpty_cons,ZrW,ZsJ,ZqY,Zrp,Zrl]
   have hc:=ZhS false hq ha h'
   have h1:s.drop (k+1+nm.length+(attrsW al).length+1)=nodesW (x::xs)++(60::47::(nm++62::r)):=YX (x:= [62]) (YX (x:=attrsW al) (YX (x:=nm) (Jv h')))
   obtain ⟨L,ms,hL,hms,hk⟩:=Zeg s (x::xs) d false _ _ hks h1
   have h2:=YX (x:=nodesW (x::xs)) h1
   have hce:=ZmL hq h2
   have r1:=reads.one (Qp h') hc (Zai (by simp))
   have r3:=reads.one (Qp h2) hce (Zai (by simp))
   refine ⟨⟨1,nm,attrAts al (k+1+nm.length),false,[],k⟩,L++ [⟨2,nm,[],false,[],k+1+nm.length+(attrsW al).length+1+(nodesW (x::xs)).length⟩],.mk 0 [] nm (attrAts al (k+1+nm.length)) ms [] k,?_,rfl,?_,λfin rest=> ?_⟩
   ·have hr:=(r1.trans hL).trans r3
    have hlen:k+1+nm.length+(attrsW al).length+1+(nodesW (x::xs)).length+2+nm.length+1=k+([60]++nm++attrsW al++(if (x::xs).isEmpty=true then [47,62] else [62]++nodesW (x::xs)++ [60,47]++nm++ [62])).length:=by
     simp only[List.isEmpty_cons,ZrW,ZsJ,ZqG,ZqK,Zq5]
     omega
    rw[hlen] at hr
    exact hr
   ·rw[Nd.bare,Nd.bare,hbare,hms]
   ·rw[Zrp,E7,ZqH (by omega),ZqH (by simp),ZqY,hk fin _ [] _ (λ_ x hx=>by cases hx),Zrl,Zrp,ZcB _ _ _ _ _ _ rfl,ZqH (by simp)]
    rfl
theorem Zeg (s:List UInt8):∀(ks:List Nd) (d:Nat) (data:Bool) (k:Nat) (r:List UInt8),kidsOk d data ks=true->s.drop k=nodesW ks++60::r->
 ∃L ms,reads s k (k+(nodesW ks).length) L/\Nds.bare ms=Nds.bare ks/\∀fin tok done rest,(data=false->∀x,done.getLast? =some x->x.kind≠1)->kidsAt fin d tok done (L++rest)=kidsAt fin d tok (done++ms) rest
 | [],d,data,k,r,_,_=>⟨[],[],(by rw[nodesW];exact reads.nil s k),rfl,λfin tok done rest _=>by rw[Zrl,Zrb]⟩
 |x::xs,d,data,k,r,ho,h=>by
  rw[kidsOk,ZqZ] at ho
  obtain ⟨ho,hxs⟩:=ho
  have h1:s.drop k=nodeW x++(nodesW xs++60::r):=by rw[h,nodesW,ZqY]
  have h2:=YX (x:=nodeW x) h1
  obtain ⟨L2,ms2,hL2,hms2,hk2⟩:=Zeg s xs d _ _ _ hxs h2
  have hlen:k+(nodeW x).length+(nodesW xs).length=k+(nodesW (x::xs)).length:=by rw[nodesW,ZqG];omega
  rw[hlen] at hL2
  by_cases hx:x.kind=1
  ·rw[ZqN hx] at ho
   obtain ⟨kd,sp,nm,al,ks,tx,at_⟩:=x
   simp only[Nd.kind] at hx
   subst hx
   simp only[Nd.space,Nd.name,Nd.attrs,Nd.kids,Nd.text,ZqZ,Zsj,Zsi,List.isEmpty_eq_false_iff] at ho
   obtain ⟨⟨⟨⟨⟨⟨hdata,htx⟩,hch⟩,rfl⟩,rfl⟩,rfl⟩,rfl⟩:=ho
   rw[nodeW,ZqN rfl] at h1 hL2
   have hkl:k<=s.length:=by
    rcases ZrJ k s.length with hh|hh
    ·omega
    ·rw[Zq3 hh] at h
     have:=ZqS List.length h
     rw[ZqG,ZqK,Zq5] at this
     omega
   have hne:∃r',nodesW xs++60::r=60::r':=by
    cases xs with
    |nil=>exact ⟨r,by rw[nodesW];rfl⟩
    |cons y ys=>
     rw[kidsOk,ZqZ] at hxs
     have hy:=hxs.1
     by_cases hyk:y.kind=1
     ·rw[ZqN hyk] at hy
      simp[Nd.kind] at hy
     ·rw[ZqH hyk] at hy
      obtain ⟨r',hr'⟩:=ZcL hy
      rw[nodesW,hr']
      exact ⟨_,rfl⟩
   have hc:=Zav htx h1 (Or.inr hne) hkl
   have hkl2:k<s.length:=by
    cases hw:wescL false tx with
    |nil=>exact absurd (Zh0 hw) htx
    |cons c w=>rw[hw] at h1;exact Qp h1
   have r1:=reads.one hkl2 hc (Ky htx)
   refine ⟨[dataT tx k]++L2,charD tx k::ms2,r1.trans hL2,?_,λfin tok done rest hdone=> ?_⟩
   ·rw[Nds.bare,Nds.bare,hms2]
    unfold charD
    rw[Nd.bare,Nd.bare]
   ·rw[ZqY,Zrp,Zrl,ZaS _ _ _ _ _ _ rfl]
    have ha:=ZfU (t:=tx) (a:=k) (hdone hdata)
    show kidsAt fin d tok (addText done tx k) _=_
    rw[ha,hk2 fin tok _ rest (λe=>absurd e (by simp[Nd.kind])),ZqY]
    rfl
  ·rw[ZqH hx] at ho
   have hdx:decide (x.kind=1)=false:=by simpa using hx
   obtain ⟨t,L,m,hL,ht,hm,he⟩:=Zeq s x (d+1) k _ ho h1
   refine ⟨(t::L)++L2,m::ms2,hL.trans hL2,?_,λfin tok done rest hdone=> ?_⟩
   ·rw[Nds.bare,Nds.bare,hms2,hm]
   ·rw[ZqY,Zrp,ZcC _ _ _ _ _ _ ht,<-Zrp,he]
    dsimp only
    rw[hk2 fin tok _ rest (λ_ y hy=> ?_),ZqY]
    ·rfl
    ·rw[Zsa] at hy
     simp only[Zsh,Option.or] at hy
     injection hy with hy
     rw[<-hy,<-U2,hm,U2]
     exact hx
end
theorem Zly {b:Bool} {r:Nat} (h:nmOk true b r=true):isChar (r:Int)=true:=by
 unfold nmOk nmChar nmStart at h;unfold isChar;rw[Zrd];cases b<;>simp only[Zr2,ZsI,Zrd,ZsE,Zsy,ZrW,ZsJ] at h<;>omega
theorem Zj8:∀(f:Nat) (first:Bool) (l:List UInt8),nmGo true f first l=l.length->isText l
 |0,first,l,h=>by
  have:l= []:=ZqX (by rw[<-h];rfl)
  rw[this];exact Zy
 |f+1,first,l,h=>by
  by_cases D:l= []
  ·rw[D];exact Zy
  ·have F:0<l.length:=Zr3.2 D
   have A:(dec l).2≠0/\nmOk true first (dec l).1=true:=by
    by_cases C:l= []\/(dec l).2=0\/nmOk true first (dec l).1=false
    ·rw[YH C] at h
     omega
    ·refine ⟨λe=>C (Or.inr (Or.inl e)),?_⟩
     cases hk:nmOk true first (dec l).1 with
     |true=>rfl
     |false=>exact absurd (Or.inr (Or.inr hk)) C
   have H:=Xi l
   rw[XQ A.1 A.2] at h
   have C:=QM (l:=l) (r:=(dec l).1) (m:=(dec l).2) rfl A.1
   rw[C]
   exact Zs (Z1 (Zly A.2)) (Zj8 f false _ (by rw[ZqP];omega))
theorem ZgD {l:List UInt8} (h:isQ l=true):isText l:=Zj8 _ _ _ (Kw h).2
theorem Yy:∀l:List UInt8,(∀c∈l,c.toNat<128/\isChar (c.toNat:Int)=true)->isText l
 | [],_=>Zy
 |c::t,h=>by
  have C:=h c Zq6
  have A:=Z1 C.2
  rw[Yl C.1,It] at A
  exact Zs (l:= [c]) A (Yy t λd D=>h d (Zq7 _ D))
theorem ZjJ (v:Bool) (c:UInt8):isText (wescB v c):=by
 unfold wescB
 repeat' split
 all_goals exact Yy _ (by decide)
theorem ZeQ (v:Bool) {l:List UInt8} (h:isText l):isText (wescL v l):=by
 obtain ⟨rs,F,rfl⟩:=h
 induction rs with
 |nil=>exact Zy
 |cons r rs ih=>
  have D:=F r Zq6;rw[ZrU,Zdf];refine Zs ?_ (ih λx J=>F x (Zq7 _ J));have I:=ZU D;rcases ZrJ r 128 with C|C
  ·rw[Yl C];show isText (wescC v (UInt8.ofNat r)++ []);rw[Zrb];unfold wescC;split
   ·rw[<-Yl C];exact Z1 D
   ·exact ZjJ v _
  ·rw[KO λc H=> ?_]
   ·exact Z1 D
   ·have O:=U5 I C c H;have A:∀d:UInt8,d.toNat<128->c≠d:=λd Q e=>(by subst e;omega);unfold wescB;rw[ZqH (A 38 (by decide)),ZqH (A 60 (by decide)),ZqH (A 62 (by decide)),ZqH (A 13 (by decide)),ZqH (A 34 (by decide)),ZqH (A 9 (by decide)),ZqH (A 10 (by decide))];split<;>rfl
theorem Iu {l:List UInt8} (h:charsOk l=true):isText l:=(XN l).1 (by unfold charsOk at h;simpa using h)
theorem ZbM:∀(al:List AtP) (seen:List (List UInt8)),attrsOk al seen=true->isText (attrsW al)
 | [],_,_=>Zy
 |a::t,seen,h=>by
  rw[attrsOk] at h
  simp only[ZqZ] at h
  rw[attrsW]
  unfold attrW
  refine Zs (Zs (Zs (Zs (Zs ?_ (ZgD h.1.1.2)) ?_) (ZeQ true (Iu h.1.2))) ?_) (ZbM t _ h.2)
  all_goals exact Yy _ (by decide)
mutual
theorem Zer:∀(n:Nd) (d:Nat),nodeOk d n=true->isText (nodeW n)
 | .mk kd sp nm al ks tx at_,d,h=>by
  rw[nodeOk] at h
  simp only[ZqZ,Zrd] at h
  have ha:=ZbM al [] h.1.2
  have hq:=ZgD h.1.1.2
  have hk:=Zeh ks d false h.2
  rw[nodeW,ZqH (by omega)]
  refine Zs (Zs (Zs (Yy _ (by decide)) hq) ha) ?_
  split
  ·exact Yy _ (by decide)
  ·exact Zs (Zs (Zs (Zs (Yy _ (by decide)) hk) (Yy _ (by decide))) hq) (Yy _ (by decide))
theorem Zeh:∀(ks:List Nd) (d:Nat) (data:Bool),kidsOk d data ks=true->isText (nodesW ks)
 | [],_,_,_=>Zy
 |x::xs,d,data,h=>by
  rw[kidsOk,ZqZ] at h
  have h2:=Zeh xs d _ h.2
  rw[nodesW]
  refine Zs ?_ h2
  have h1:=h.1
  by_cases hx:x.kind=1
  ·rw[ZqN hx] at h1
   simp only[ZqZ] at h1
   have hc:=h1.1.1.1.1.2
   obtain ⟨kd,sp,nm,al,ks,tx,at_⟩:=x
   simp only[Nd.kind] at hx
   rw[nodeW,ZqN hx]
   exact ZeQ false (Iu hc)
  ·rw[ZqH hx] at h1
   exact Zer x _ h1
end
theorem ZkJ (n:Nd) (h:nodeOk 1 n=true):∃m,docP (docW n)= .ok m/\m.bare=n.bare:=by
 obtain ⟨s,V⟩:∃s,docW n=s:=⟨_,rfl⟩;have O:isText s:=by rw[<-V];unfold docW;exact Zs (Zs (Yy _ (by decide)) (Zer n 1 h)) (Yy _ (by decide))
 obtain ⟨nr,U⟩:=ZcL h;have D:s.drop 0=headW++(nodeW n++ [10]):=by rw[<-V];unfold docW;rw[ZqY];rfl
 have A:s.drop 38=10::(nodeW n++ [10]):=YX (x:=headW.take 38) D;have F:=Jv A;have H:=YX (x:=nodeW n) F;have S:=Qp (r:= []) H;have J:=Zjl (x:= [10]) H om;have Q:=Qp A;have c0:constructP s 0= .ok (dataT [] 0,38):=by
  have X:skipP s 0 2 [63,62]= .ok 38:=by unfold skipP findAt;have R:s.drop (0+2)=headW.drop 2++(nodeW n++ [10]):=YX (x:=headW.take 2) D;rw[R];rfl
  unfold constructP;rw[ZqN (Ub (t:= [60,63]) D),X]
 have c1:constructP s 38= .ok (dataT [10] 38,39):=Zav (t:= [10]) (by simp) A (Or.inr ⟨nr++ [10],by rw[U];rfl⟩) om;obtain ⟨t,L,m,Y,ht,hm,he⟩:=Zeq s n 1 39 [10] h F;have c3:constructP s (39+(nodeW n).length)= .ok (dataT [10] (39+(nodeW n).length),39+(nodeW n).length+1):=Zav (t:= [10]) (r:= []) (by simp) H (Or.inl rfl) om;have I:toksP s= .ok (dataT [10] 38::((t::L)++ [dataT [10] (39+(nodeW n).length)])):=by
  rw[Vf,ZqH (by rw[(XN s).2 O];simp),Jm (c:=60) (d:=239) D (by decide),ZqH (by simp),YY om c0,ZqH (by unfold keeps dataT;simp),
   (reads.one Q c1 (Ky (by simp))) [],Y,(reads.one S c3 (Ky (by simp))),XW (by rw[List.length_singleton] at J;omega)]
  simp
 refine ⟨m,?_,hm⟩;rw[V,Js,I];dsimp only;have Z:blankL [10]=true:=by decide
 have C:∀(fin k:Nat) (found:Option Nd) (r:List Tok),docAt fin found (dataT [10] k::r)=docAt fin found r:=λfin k found r=>by rw[Kn,ZqH (by unfold dataT;simp),ZqH (by unfold dataT;simp),ZqN (show (dataT [10] k).kind=3 from rfl),ZqH (by show ¬blankL [10]=false;rw[Z];simp)]
 rw[C,Zrp,Kn,ZqH (by simp),ZqH om,ZqH om,<-Zrp,he];dsimp only;rw[C,Zd3]
theorem Zg8:∀(f:Nat) (first:Bool) (l:List UInt8),nmGo false f first l=l.length->∀c∈l,c≠58
 |0,first,l,h,c,hc=>by
  have:l= []:=ZqX (by rw[<-h];rfl)
  rw[this] at hc;cases hc
 |f+1,first,l,h,c,hc=>by
  have R:l≠ []:=λe=>by rw[e] at hc;cases hc
  have J:0<l.length:=Zr3.2 R
  have A:(dec l).2≠0/\nmOk false first (dec l).1=true:=by
   by_cases D:l= []\/(dec l).2=0\/nmOk false first (dec l).1=false
   ·rw[YH D] at h
    omega
   ·refine ⟨λe=>D (Or.inr (Or.inl e)),?_⟩
    cases hk:nmOk false first (dec l).1 with
    |true=>rfl
    |false=>exact absurd (Or.inr (Or.inr hk)) D
  have Q:=Xi l
  rw[XQ A.1 A.2] at h
  have D:=QM (l:=l) (r:=(dec l).1) (m:=(dec l).2) rfl A.1
  have H:=(Ze1 [] A.1).2.1
  rw[D] at hc
  rcases Zq0.1 hc with C|C
  ·rcases ZrJ (dec l).1 128 with F|F
   ·rw[Yl F,ZqU] at C
    intro e
    rw[C] at e
    have O:(dec l).1=58:=by
     have:=ZqS UInt8.toNat e
     rw[ZP om] at this
     exact this
    have I:=A.2
    rw[O] at I
    cases first<;>revert I<;>decide
   ·have:=U5 H F c C
    intro e
    rw[e] at this
    exact absurd this (by decide)
  ·exact Zg8 f false _ (by rw[ZqP];omega) c C
theorem Jl {l:List UInt8} (h:isNm l=true):splitL l=some ([],l):=by
 have A:0<l.length/\nmLen false l=l.length:=by unfold isNm at h;simpa using h
 have C:=Zg8 _ _ _ A.2;have F:(l.takeWhile λc=>c !=58)=l:=by
  have:=Vg (p:=λc=>c !=58) (x:=l) (r:= []) (λd D=>by have:=C d D;simpa using this) (λc t e=>by cases e)
  rwa [Zrb] at this
 unfold splitL;dsimp only;rw[F,ZqH om,h];rfl
theorem Zb4 {l:List UInt8} (h:isNm l=true) (A:l≠xmlnsL):declL l=none:=by
 unfold declL;rw[Jl h];dsimp only;rw[ZqH (λe=>A e.2),ZqH (by decide)]
mutual
def Nd.inNs (ns:List UInt8):Nd->Nd
 | .mk k s n al ks t a=>if k=0 then .mk 0 ns n al (Nds.inNs ns ks) [] a else .mk k s n al ks t a
def Nds.inNs (ns:List UInt8):List Nd->List Nd
 | []=> []
 |x::t=>x.inNs ns::Nds.inNs ns t
end
theorem ZaG (sc:Scope):∀al:List AtP,plainAs al=true->declsGo al sc= .ok sc
 | [],_=>rfl
 |a::t,h=>by
  unfold plainAs at h
  rw[ZsK,ZqZ,ZqZ] at h
  obtain ⟨⟨C,D⟩,F⟩:=h
  have A:a.name≠xmlnsL:=by simpa using D
  rw[declsGo,Jl C,ZqH (by simp),Zb4 C A]
  exact ZaG sc t F
def AtP.noSp (a:AtP):AtP:=⟨[],a.name,a.value,a.at_⟩
theorem ZaC (sc:Scope):∀(al out:List AtP),plainAs al=true->attrsOk al (out.map AtP.name)=true->attrsGo sc al out= .ok (out++al.map AtP.noSp)
 | [],out,_,_=>by rw[attrsGo,Zrz,Zrb]
 |a::t,out,h,ho=>by
  unfold plainAs at h
  rw[ZsK,ZqZ,ZqZ] at h
  obtain ⟨⟨D,F⟩,H⟩:=h
  have C:a.name≠xmlnsL:=by simpa using F
  rw[attrsOk] at ho
  simp only[ZqZ,Zsj] at ho
  have A:(out.any λb=>b.space== [] && b.name==a.name)=false:=by
   rw[List.any_eq_false]
   intro b I e
   have J:b.name=a.name:=by
    rw[ZqZ] at e
    simpa using e.2
   have:(out.map AtP.name).contains a.name=true:=by
    rw[Zr7,<-J]
    exact Zrv I
   rw[this] at ho
   cases ho.1.1.1.2
  have ih:=ZaC sc t (out++ [a.noSp]) H (by rw[Zrf];exact ho.2)
  rw[attrsGo,Zb4 D C,ZqH (by simp),Jl D]
  dsimp only[Option.getD]
  rw[ZqN rfl]
  dsimp only
  rw[A,ZqH (by simp)]
  show attrsGo sc t (out++ [a.noSp])=_
  rw[ih,Zq8,ZqY]
  rfl
theorem Zep:∀(al:List AtP) (seen:List (List UInt8)),attrsOk al seen=true->(al.map AtP.noSp).map AtP.bare=al.map AtP.bare
 | [],_,_=>rfl
 |a::t,seen,h=>by
  rw[attrsOk] at h
  simp only[ZqZ] at h
  have A:a.space= []:=by simpa using h.1.1.1.1
  rw[Zq8,Zq8,Zq8,Zep t _ h.2]
  unfold AtP.noSp AtP.bare
  rw[A]
theorem ZiB {n:Nd} {sc:Scope} {ns:List UInt8} (A:lookL sc []=some ns) (C:isNm n.name=true) (F:n.name≠xmlnsL) (h:plainAs n.attrs=true) (D:attrsOk n.attrs []=true):
 headP n sc= .ok (ns,n.name,n.attrs.map AtP.noSp,sc):=by
 unfold headP;rw[Jl C];dsimp only;rw[ZqH (by decide),ZaG sc _ h];dsimp only;rw[A];dsimp only;rw[ZaC sc _ [] h D];rfl
mutual
theorem ZlS {sc:Scope} {ns:List UInt8} (hl:lookL sc []=some ns):∀(n:Nd) (d:Nat),nodeOk d n=true->n.plain=true->∃m,resP n sc= .ok m/\m.bare=n.bare.inNs ns
 | .mk k s nm al ks t a,d,ho,hp=>by
  rw[nodeOk] at ho
  simp only[ZqZ,Zrd,Zsi] at ho
  obtain ⟨⟨⟨⟨⟨⟨rfl,hd⟩,rfl⟩,rfl⟩,hq⟩,ha⟩,hks⟩:=ho
  rw[Nd.plain] at hp
  simp only[bne_self_eq_false,Bool.false_or,ZqZ] at hp
  obtain ⟨⟨⟨hn,hx⟩,hal⟩,hkp⟩:=hp
  obtain ⟨ms,h1,h2⟩:=UP hl ks d false hks hkp
  have hh:=ZiB (n:= .mk 0 [] nm al ks [] a) hl hn (by simpa [Nd.name] using hx) hal ha
  refine ⟨.mk 0 ns nm (al.map AtP.noSp) ms [] a,?_,?_⟩
  ·rw[resP,hh]
   dsimp only
   rw[h1]
   rfl
  ·rw[Nd.bare,Nd.bare,Nd.inNs,ZqN rfl,h2,Zep al [] ha]
theorem UP {sc:Scope} {ns:List UInt8} (hl:lookL sc []=some ns):∀(ks:List Nd) (d:Nat) (data:Bool),kidsOk d data ks=true->Nds.plain ks=true->∃ms,resKids ks sc= .ok ms/\Nds.bare ms=Nds.inNs ns (Nds.bare ks)
 | [],d,data,_,_=>⟨[],rfl,rfl⟩
 |x::xs,d,data,ho,hp=>by
  rw[kidsOk,ZqZ] at ho
  rw[Nds.plain,ZqZ] at hp
  obtain ⟨ms,h1,h2⟩:=UP hl xs d _ ho.2 hp.2
  by_cases hx:x.kind=1
  ·refine ⟨x::ms,?_,?_⟩
   ·rw[resKids,ZqH (by omega)]
    dsimp only
    rw[h1]
   ·rw[Nds.bare,Nds.bare,Nds.inNs,h2]
    obtain ⟨k,s,n,al,ks,t,a⟩:=x
    simp only[Nd.kind] at hx
    subst hx
    rw[Nd.bare,Nd.inNs,ZqH (by decide)]
  ·have ho1:=ho.1
   rw[ZqH hx] at ho1
   obtain ⟨m,h3,h4⟩:=ZlS hl x (d+1) ho1 hp.1
   have hk:x.kind=0:=by
    obtain ⟨k,s,n,al,ks,t,a⟩:=x
    rw[nodeOk] at ho1
    simp only[ZqZ,Zrd] at ho1
    exact ho1.1.1.1.1.1.1
   refine ⟨m::ms,?_,?_⟩
   ·rw[resKids,ZqN hk,h3]
    dsimp only
    rw[h1]
   ·rw[Nds.bare,Nds.bare,Nds.inNs,h2,h4]
end
theorem Io:∀(al:List AtP) (seen:List (List UInt8)),attrsOk (al.map AtP.bare) seen=attrsOk al seen
 | [],_=>rfl
 |a::t,seen=>by
  rw[Zq8,attrsOk,attrsOk,Io t]
  rfl
theorem Zfr (al:List AtP):plainAs (al.map AtP.bare)=plainAs al:=by
 unfold plainAs;rw[List.all_map];rfl
mutual
theorem Zg9:∀(n:Nd) (d:Nat),nodeOk d n.bare=nodeOk d n
 | .mk k s nm al ks t a,d=>by rw[Nd.bare,nodeOk,nodeOk,Io,Uc ks]
theorem Uc:∀(ks:List Nd) (d:Nat) (data:Bool),kidsOk d data (Nds.bare ks)=kidsOk d data ks
 | [],d,data=>by rw[Nds.bare]
 |x::xs,d,data=>by
  rw[Nds.bare,kidsOk,kidsOk,Uc xs,U2,Zg9 x]
  obtain ⟨k,s,nm,al,ks,t,a⟩:=x
  rw[Nd.bare]
  have h1:(al.map AtP.bare).isEmpty=al.isEmpty:=by cases al<;>rfl
  have h2:(Nds.bare ks).isEmpty=ks.isEmpty:=by cases ks<;>simp[Nds.bare]
  simp only[Nd.kind,Nd.text,Nd.space,Nd.name,Nd.attrs,Nd.kids,h1,h2]
  rfl
end
mutual
theorem Zjm:∀n:Nd,n.bare.plain=n.plain
 | .mk k s nm al ks t a=>by rw[Nd.bare,Nd.plain,Nd.plain,Zfr,Ui ks]
theorem Ui:∀ks:List Nd,Nds.plain (Nds.bare ks)=Nds.plain ks
 | []=>by rw[Nds.bare]
 |x::xs=>by rw[Nds.bare,Nds.plain,Nds.plain,Zjm x,Ui xs]
end
theorem Ud (s:ByteArray):str (lst s)=s:=VH s
theorem Zf0 {s:ByteArray} (h:validS s=true) (D:s≠noS):coll (lst s)≠ []:=by
 intro e;have A:=Z0 h;unfold collapse at A;have C:coll s.data.toList= []:=e;rw[C] at A;exact D A.symm
def okO {α:Type}:Except PErr α->Option α
 | .ok x=>some x
 | .error _=>none
theorem ZpQ {α:Type} {e:Except PErr α} {x:α} (h:okO e=okO (.ok x)):e= .ok x:=by
 cases e with
 |error a=>cases h
 |ok a=>injection h with h;rw[h]
theorem Kc (n:Nd) (nm:List UInt8):attrL n.bare nm=attrL n nm:=by
 obtain ⟨k,s,m,al,ks,t,a⟩:=n;rw[Nd.bare];unfold attrL attrIn;simp only[Nd.attrs]
 induction al with
 |nil=>rfl
 |cons b t ih=>
  rw[Zq8,List.find?_cons,List.find?_cons];cases hb:(b.space== [] && b.name==nm) with
  |true=>rw[show (b.bare.space== [] && b.bare.name==nm)=true from hb];rfl
  |false=>rw[show (b.bare.space== [] && b.bare.name==nm)=false from hb];exact ih
section
set_option linter.unusedSimpArgs false
theorem Zjn {l:List UInt8} (h:∀c∈l,32<c.toNat):coll l=l:=by
 by_cases A:l= []
 ·subst A;rfl
 ·have:=Ki l [] [] false A λc C=>by have:=h c C;simp only[isSp,Zr0];omega
  rw[Zrb] at this;unfold coll;rw[this];simp[collGo]
end
section
theorem ZmG {nm sp:List UInt8} {K:List Nd} (S:isNm nm=true) (X:nm≠xmlnsL) (V:sp≠ []) (A:nodeOk 1 (.mk 0 [] nm [⟨[],xmlnsL,sp,0⟩] K [] 0)=true) (U:Nds.plain K=true):
 ∃m r,docP (docW (.mk 0 [] nm [⟨[],xmlnsL,sp,0⟩] K [] 0))= .ok m/\resP m []= .ok r/\r.bare= .mk 0 sp nm [] (Nds.inNs sp (Nds.bare K)) [] 0:=by
 obtain ⟨m,J,H⟩:=ZkJ _ A;obtain ⟨k,s,n,al,ks,t,a⟩:=m;rw[Nd.bare,Nd.bare] at H;injection H with e1 e2 e3 e4 e5 e6 e7;subst e1;subst e2;subst e3;subst e6;cases al with
 |nil=>simp at e4
 |cons b t=>
  cases t with
  |cons c t=>simp at e4
  |nil=>
   simp only[Zq8,Zrz,Zsw,and_true] at e4;obtain ⟨b1,b2,b3,b4⟩:=b;unfold AtP.bare at e4;injection e4 with e41 e42 e43 e44;dsimp only at e41 e42 e43;subst e41;subst e42;subst e43;rw[nodeOk] at A;simp only[ZqZ] at A;have C:kidsOk 1 false ks=true:=(by rw[<-Uc,e5,Uc];exact A.2);have D:Nds.plain ks=true:=(by rw[<-Ui,e5,Ui];exact U);have F:splitL xmlnsL=some ([],xmlnsL):=(by decide+kernel);have h:declL xmlnsL=some []:=(by decide+kernel);have I:lookL [([],b3)] []=some b3:=(by unfold lookL;rw[ZqH (by decide)];rfl);obtain ⟨ms,O,Q⟩:=UP I ks 1 false C D;refine ⟨_,.mk 0 b3 n [] ms [] a,J,?_,?_⟩
   ·rw[resP];have R:headP (.mk 0 [] n [⟨[],xmlnsL,b3,b4⟩] ks [] a) []= .ok (b3,n,[],[([],b3)]):=(by unfold headP;simp only[Nd.name,Nd.attrs];rw[Jl S];dsimp only;rw[ZqH (by decide),declsGo,F];dsimp only;rw[ZqH (by simp),h];dsimp only;rw[ZqH (by rintro (e|e|e)<;>first|exact absurd e (by decide)|exact e.1 rfl),declsGo];dsimp only;rw[List.nil_append,I];dsimp only;rw[attrsGo,h,ZqN (by rfl),attrsGo]);rw[R];dsimp only;rw[O]
   ·rw[Nd.bare,Q,e5];rfl
mutual
theorem En:∀n:Nd,n.bare.txt=n.txt
 | .mk k s nm al ks t a=>by rw[Nd.bare,Nd.txt,Nd.txt,ZeL ks]
theorem ZeL:∀ks:List Nd,Nds.txt (Nds.bare ks)=Nds.txt ks
 | []=>by rw[Nds.bare]
 |x::xs=>by rw[Nds.bare,Nds.txt,Nds.txt,En x,ZeL xs]
end
theorem Zne (sp nm:List UInt8) (n:Nd):isE sp nm n.bare=isE sp nm n:=by
 obtain ⟨k,s,m,al,ks,t,a⟩:=n;rw[Nd.bare];rfl
theorem Y6:∀l:List Nd,Nds.bare l=l.map Nd.bare
 | []=>by rw[Nds.bare];rfl
 |x::t=>by rw[Nds.bare,Y6 t];rfl
theorem JO (sp nm:List UInt8) (n:Nd):kidsE sp nm n.bare=(kidsE sp nm n).map Nd.bare:=by
 obtain ⟨k,s,m,al,ks,t,a⟩:=n;rw[Nd.bare];unfold kidsE;simp only[Nd.kids];rw[Y6,List.filter_map]
 congr 1
 exact List.filter_congr λx _=>Zne sp nm x
theorem ZaO (sp nm:List UInt8) (n:Nd):firstT sp nm n.bare=firstT sp nm n:=by
 unfold firstT;rw[JO,List.head?_map];cases (kidsE sp nm n).head? with
 |none=>rfl
 |some k=>exact ZqS some (En k)
theorem XX (nm:List UInt8) (n:Nd):txtOf nm n.bare=txtOf nm n:=by unfold txtOf;rw[ZaO]
theorem Zim (n:Nd):contN n.bare=contN n:=by unfold contN;rw[ZaO,XX]
theorem ZgX (n:Nd):linkOk n.bare=linkOk n:=by unfold linkOk;rw[Kc,Kc]
theorem ZcG (n:Nd):linkN n.bare=linkN n:=by
 unfold linkN;rw[JO,List.find?_map];have:(linkOk∘Nd.bare)=linkOk:=funext ZgX;rw[this];cases (kidsE atomL linkL n).find? linkOk with
 |none=>rfl
 |some k=>exact ZqS (λo=>Option.getD o []) (Kc k hrefL)
theorem ZdX (n:Nd):okO (comA n.bare)=okO (comA n):=by
 unfold comA;rw[XX,JO,List.head?_map];split
 ·rfl
 ·cases (kidsE atomL updatedL n).head? with
  |none=>rfl
  |some k=>dsimp only[Option.map];rw[En];cases timeP (coll k.txt)<;>rfl
theorem ZkM (n:Nd) (t:Int):entA n.bare t=entA n t:=by unfold entA;rw[XX,XX,ZcG,Zim]
theorem Zcb:∀l:List Nd,okO (entsA (l.map Nd.bare))=okO (entsA l)
 | []=>rfl
 |k::l=>by
  have ih:=Zcb l
  have h:=ZdX k
  rw[Zq8,entsA,entsA]
  cases hA:comA k.bare with
  |error x=>
   cases hB:comA k with
   |error y=>rfl
   |ok y=>rw[hA,hB] at h;cases h
  |ok x=>
   cases hB:comA k with
   |error y=>rw[hA,hB] at h;cases h
   |ok y=>
    rw[hA,hB] at h
    injection h with h
    subst h
    dsimp only
    cases hC:entsA (l.map Nd.bare) with
    |error z=>
     cases hD:entsA l with
     |error u=>rfl
     |ok u=>rw[hC,hD] at ih;cases ih
    |ok z=>
     cases hD:entsA l with
     |error u=>rw[hC,hD] at ih;cases ih
     |ok u=>
      rw[hC,hD] at ih
      injection ih with ih
      subst ih
      dsimp only
      rw[ZkM]
theorem ZkE (n:Nd):okO (decA n.bare)=okO (decA n):=by
 have h:=ZdX n;have A:=Zcb (kidsE atomL entryL n);have e1:n.bare.kind=n.kind/\n.bare.space=n.space/\n.bare.name=n.name:=by cases n;rw[Nd.bare];exact ⟨rfl,rfl,rfl⟩
 unfold decA;rw[e1.1,e1.2.1,e1.2.2];split
 ·rfl
 ·rw[JO];cases hA:comA n.bare with
  |error x=>
   cases hB:comA n with
   |error y=>rfl
   |ok y=>rw[hA,hB] at h;cases h
  |ok x=>
   cases hB:comA n with
   |error y=>rw[hA,hB] at h;cases h
   |ok y=>
    rw[hA,hB] at h;injection h with h;subst h;dsimp only;cases hC:entsA ((kidsE atomL entryL n).map Nd.bare) with
    |error z=>
     cases hD:entsA (kidsE atomL entryL n) with
     |error u=>rfl
     |ok u=>rw[hC,hD] at A;cases A
    |ok z=>
     cases hD:entsA (kidsE atomL entryL n) with
     |error u=>rw[hC,hD] at A;cases A
     |ok u=>rw[hC,hD] at A;injection A with A;subst A;dsimp only;unfold fdA;rw[XX,XX,ZcG]
def textR (nm s:List UInt8):Nd:= .mk 0 atomL nm [] (if s= [] then [] else [charD s 0]) [] 0
def linkR (s:List UInt8):Nd:= .mk 0 atomL linkL [⟨[],hrefL,s,0⟩] [] [] 0
theorem ZhT (nm s:List UInt8):(textN nm s).bare.inNs atomL=textR nm s:=by
 rw[JZ];unfold textR;cases s with
 |nil=>rfl
 |cons c t=>rfl
theorem Xp (nm s:List UInt8):(textR nm s).txt=s:=by
 unfold textR;rw[Nd.txt,ZqH (by decide)];cases s with
 |nil=>rfl
 |cons c t=>rw[ZqH (by simp)];unfold charD;rw[Nds.txt,Nds.txt,Nd.txt,ZqN rfl,Zrb]
theorem JN (ns:List UInt8):∀l:List Nd,Nds.inNs ns l=l.map (Nd.inNs ns)
 | []=>by rw[Nds.inNs];rfl
 |x::t=>by rw[Nds.inNs,JN ns t];rfl
def fieldsR (id title link:ByteArray) (t:Int) (more:List Nd):List Nd:=
 textR idL (lst id)::textR titleL (lst title)::((if link.size=0 then [] else [linkR (lst link)])++textR updatedL (fmtL t)::more)
theorem QS (id title link:ByteArray) (t:Int) (more:List Nd):
 Nds.inNs atomL (Nds.bare (fieldsN id title link t more))=fieldsR id title link t (Nds.inNs atomL (Nds.bare more)):=by
 rw[Y6,JN,Y6,JN];unfold fieldsN fieldsR;simp only[Zq8,Zrf,ZhT];split<;>rfl
def otherN (more:List Nd):Prop:=∀x∈more,isE atomL idL x=false/\isE atomL titleL x=false/\isE atomL linkL x=false/\isE atomL updatedL x=false
theorem Zgl {f:Nd->Bool} {l:List Nd} (h:∀x∈l,f x=false):l.filter f= []:=by
 rw[List.filter_eq_nil_iff];intro x A;rw[h x A];decide
section
variable {id title link:ByteArray} {t:Int} {more:List Nd} {n:Nd}
theorem ZmY (h:n.kids=fieldsR id title link t more):txtOf idL n=lst id:=by
 unfold txtOf firstT kidsE;rw[h];unfold fieldsR;rw[List.filter_cons_of_pos (by rfl)];exact Xp idL (lst id)
theorem Zgq (h:n.kids=fieldsR id title link t more):txtOf titleL n=lst title:=by
 unfold txtOf firstT kidsE;rw[h];unfold fieldsR;rw[List.filter_cons_of_neg (by show ¬(false=true);decide),List.filter_cons_of_pos (by rfl)];exact Xp titleL (lst title)
theorem Zcp {nm:List UInt8} (F:n.kids=fieldsR id title link t more) (h:(idL==nm)=false) (A:(titleL==nm)=false) (C:(linkL==nm)=false) (D:(updatedL==nm)=false):
 kidsE atomL nm n=more.filter (isE atomL nm):=by
 unfold kidsE;rw[F];unfold fieldsR;have e:∀(m s:List UInt8),(m==nm)=false->¬isE atomL nm (textR m s)=true:=λm s H=>by unfold isE textR;simp only[Nd.kind,Nd.space,Nd.name,H,Bool.and_false];decide
 rw[List.filter_cons_of_neg (e _ _ h),List.filter_cons_of_neg (e _ _ A),List.filter_append,List.filter_cons_of_neg (e _ _ D)];split
 ·rfl
 ·rw[List.filter_cons_of_neg,List.filter_nil,Zrl];unfold isE linkR;simp only[Nd.kind,Nd.space,Nd.name,C,Bool.and_false];decide
theorem ZjX (F:n.kids=fieldsR id title link t more) (I:otherN more):str (linkN n)=link:=by
 have e:∀(m s:List UInt8),(m==linkL)=false->¬isE atomL linkL (textR m s)=true:=λm s H=>by unfold isE textR;simp only[Nd.kind,Nd.space,Nd.name,H,Bool.and_false];decide
 have C:kidsE atomL linkL n=if link.size=0 then [] else [linkR (lst link)]:=by unfold kidsE;rw[F];unfold fieldsR;rw[List.filter_cons_of_neg (e _ _ (by decide)),List.filter_cons_of_neg (e _ _ (by decide)),List.filter_append,List.filter_cons_of_neg (e _ _ (by decide)),Zgl λx J=>(I x J).2.2.1,Zrb];split<;>rfl
 unfold linkN;rw[C];split
 ·rename_i k h;split at h
  ·cases h
  ·have A:linkOk (linkR (lst link))=true:=rfl;rw[List.find?_cons_of_pos A] at h;injection h with h;subst h;exact Ud link
 ·rename_i h;split at h
  ·rename_i D;have:lst link= []:=ZqX D;rw[<-this];exact Ud link
  ·have A:linkOk (linkR (lst link))=true:=rfl;rw[List.find?_cons_of_pos A] at h;cases h
theorem Zmv (t:Int):coll (fmtL t)=fmtL t:=Zjn λc h=>(ZmW t c h).1
theorem ZmX (A:n.kids=fieldsR id title link t more) (C:coll (lst id)≠ []) (F:inT t=true):comA n= .ok t:=by
 have e:∀(m s:List UInt8),(m==updatedL)=false->¬isE atomL updatedL (textR m s)=true:=λm s D=>by unfold isE textR;simp only[Nd.kind,Nd.space,Nd.name,D,Bool.and_false];decide
 have h:(kidsE atomL updatedL n).head? =some (textR updatedL (fmtL t)):=by unfold kidsE;rw[A];unfold fieldsR;rw[List.filter_cons_of_neg (e _ _ (by decide)),List.filter_cons_of_neg (e _ _ (by decide)),List.filter_append,List.filter_cons_of_pos (by rfl)];split<;>rfl
 unfold comA;rw[ZmY A,ZqH C,h];dsimp only;rw[Xp,Zmv,Zl8 t F]
end
def entRs (e:Ent):Nd:= .mk 0 atomL entryL [] (fieldsR e.id e.title e.link e.upd (if e.content.size=0 then [] else [textR contentL (lst e.content)])) [] 0
theorem ZjV (e:Ent):(entN e).bare.inNs atomL=entRs e:=by
 rw[Zby,Nd.bare,Nd.inNs,ZqN rfl,QS];unfold entRs moreN;split
 ·rfl
 ·rw[Nds.bare,Nds.bare,Nds.inNs,Nds.inNs,ZhT];rfl
theorem ZkL {e:Ent} (h:okE e=true):comA (entRs e)= .ok e.upd/\entA (entRs e) e.upd=e:=by
 obtain ⟨F,H,I⟩:=Q6.1 h;have A:(entRs e).kids=fieldsR e.id e.title e.link e.upd (if e.content.size=0 then [] else [textR contentL (lst e.content)]):=rfl;have O:otherN (if e.content.size=0 then [] else [textR contentL (lst e.content)]):=by
  intro x C;split at C
  ·cases C
  ·rw[ZqU.1 C];exact ⟨rfl,rfl,rfl,rfl⟩
 refine ⟨ZmX A (Zf0 (F _ (by unfold strsE;simp)) H) I,?_⟩;unfold entA;rw[ZmY A,Zgq A,ZjX A O,Ud,Ud];have J:str (contN (entRs e))=e.content:=by
  unfold contN txtOf firstT;rw[Zcp A (by decide) (by decide) (by decide) (by decide),Zcp A (by decide) (by decide) (by decide) (by decide)];split
  ·rename_i D;have:lst e.content= []:=ZqX D;show str []=_;rw[<-this];exact Ud _
  ·rw[List.filter_cons_of_pos (by rfl)];show str (textR contentL (lst e.content)).txt=_;rw[Xp];exact Ud _
 rw[J]
theorem Zca:∀{l:List Ent},(∀e∈l,okE e=true)->entsA (l.map entRs)= .ok l
 | [],_=>rfl
 |e::t,h=>by
  have A:=ZkL (h e Zq6)
  rw[Zq8,entsA,A.1]
  dsimp only
  rw[Zca λx C=>h x (Zq7 _ C)]
  dsimp only
  rw[A.2]
def feedR (f:Fd):Nd:= .mk 0 atomL feedL [] (fieldsR f.id f.title f.link f.upd (f.ents.map entRs)) [] 0
theorem Zir {f:Fd} (h:okF f=true) (J:f.path= []):decA (feedR f)= .ok f:=by
 have A:(feedR f).kids=fieldsR f.id f.title f.link f.upd (f.ents.map entRs):=rfl;have I:otherN (f.ents.map entRs):=by intro x F;obtain ⟨e,_,rfl⟩:=Zrr.1 F;exact ⟨rfl,rfl,rfl,rfl⟩
 obtain ⟨O,H,g3,g4,Q⟩:=YF.1 (YE.1 h).1;have C:=(Q9.1 (YE.1 h).2).1;unfold decA;rw[ZqH (by rintro (e|e|e)<;>exact e rfl),ZmX A (Zf0 (H _ (by unfold strsF;simp)) g3) g4];dsimp only;have D:kidsE atomL entryL (feedR f)=f.ents.map entRs:=by rw[Zcp A (by decide) (by decide) (by decide) (by decide),List.filter_eq_self];intro x F;obtain ⟨e,_,rfl⟩:=Zrr.1 F;rfl
 rw[D,Zca C];dsimp only;unfold fdA;rw[ZmY A,Zgq A,ZjX A I,Ud,Ud,<-J]
theorem ZnC:isNm feedL=true:=by decide+kernel
theorem Kb {f:Fd} (h:okF f=true) (Q:f.path= []):∃m r,docP (docW (encA f))= .ok m/\resP m []= .ok r/\decA r= .ok f:=by
 obtain ⟨C,F⟩:=Ze5 h;rw[Vt] at C|-;obtain ⟨m,r,H,I,J⟩:=ZmG ZnC (by decide) (by decide) C F;refine ⟨m,r,H,I,?_⟩;have A:=ZkE r;rw[J,QS] at A;have O:Nds.inNs atomL (Nds.bare (f.ents.map entN))=f.ents.map entRs:=by rw[Y6,JN,ZsX,ZsX];exact List.map_congr_left λe _=>ZjV e
 rw[O] at A;have D:=Zir h Q;unfold feedR at D;rw[D] at A;exact ZpQ A.symm
end
theorem Zdy (e:Ent) (w:Wq) (Y:eokS e):
 Calls prog 50 #[.agg (eCells e).toArray] w λx w'=>x= .returned (nI (if okE e=true then 0 else 22))/\Ext w w':=by
 obtain ⟨R,H⟩:∃R:Int,(if (validS e.id && (validS e.title && (validS e.link && (validS e.content && true))) && !decide (e.id=noS) && inT e.upd)=true then 0 else 22)=R:=⟨_,rfl⟩;rw[show (if okE e=true then (0:Int) else 22)=R from H];obtain ⟨s0,Z,s2,s3⟩:=Y;have Q:=gd (λw'=>Z2 e.id w' om);have S:=gd (λw'=>Z2 e.title w' om);have U:=gd (λw'=>Z2 e.link w' om);have V:=gd (λw'=>Z2 e.content w' om);have X:=gd (λw'=>UM e.upd w');have h4:e.id.toList.isEmpty=decide (e.id=noS):=by
  by_cases h:e.id=noS
  ·rw[h,ZrC];rfl
  ·rw[JQ h,Zre h]
 clear s0 Z s2 s3;obtain ⟨id,title,link,content,upd⟩:=e;unfold eCells;dsimp only at*;generalize validS id=b0 at*;generalize validS title=b1 at*;generalize validS link=b2 at*;generalize validS content=b3 at*;generalize decide (id=noS)=b4 at*;generalize inT upd=b5 at*;cases b0;rotate_left;cases b1;rotate_left;cases b2;rotate_left;cases b3;rotate_left;cases b4;cases b5
 all_goals
  simp at H
  subst H
  go_enter func50,ntmps50
  go_wp2_with (first|(go_at_call 48;(with_reducible refine ZqD (Q.out _) ?_);rintro e w1 ⟨rfl,A⟩;have k1:=A.boxed 1 _ rfl)|(go_at_call 48;(with_reducible refine ZqD (S.out _) ?_);rintro e w2 ⟨rfl,I⟩;have C:=A.trans I;have k2:=C.boxed 2 _ rfl)|(go_at_call 48;(with_reducible refine ZqD (U.out _) ?_);rintro e w3 ⟨rfl,J⟩;have D:=C.trans J;have k3:=D.boxed 3 _ rfl)|(go_at_call 48;(with_reducible refine ZqD (V.out _) ?_);rintro e w4 ⟨rfl,O⟩;have F:=D.trans O;have k4:=F.boxed 0 _ rfl;have k5:=F.boxed 4 _ rfl)|(go_at_call 49;refine ZqD (X.out _) ?_;rintro e w5 ⟨rfl,rfl⟩))
  go_ret
  exact ⟨rfl,((Ext.refl _).alloc _).trans (by assumption)⟩
end Go.Proofs.YtmfinhgobjbecaaGreatDoor
