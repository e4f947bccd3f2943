/- Parts of the proof: contracts and plain laws. -/
import Derived.Test.YthlnaldahkgjnaaGreatDoorZ03
namespace Go.Proofs.YthlnaldahkgjnaaGreatDoor
open Go Go.RowKit Go.WideMaps Go.Maps _root_.Go.Proofs.Tryz
set_option linter.unusedVariables false
set_option linter.unusedSimpArgs false
set_option maxRecDepth 100000
set_option maxHeartbeats 16000000
section
attribute [local go_sem] Zgt strOfNums_size
def i64ok (n:Int):Prop:= -9223372036854775808<=n/\n<=9223372036854775807
def itoaS (n:Int):ByteArray:=str (Lib.itoa n)
theorem QK (u:Nat) (h:u<10):Lib.decDigits u= [UInt8.ofNat (48+u)]:=by rw[Lib.decDigits,dif_pos h]
theorem UY (u:Nat) (h:¬u<10):Lib.decDigits u=Lib.decDigits (u / 10)++ [UInt8.ofNat (48+u % 10)]:=by rw[Lib.decDigits,dif_neg h]
theorem ZbG (n:Int) (h:i64ok n):(Lib.decDigits n.natAbs).length<=21:=by
 have:=Lib.itoa_length_le n h.1 h.2;unfold Lib.itoa at this;split at this
 ·simp at this;omega
 ·rwa [show n.toNat=n.natAbs by omega] at this
theorem Ee (x:Int) (d:Nat) (l:List UInt8) (h:x.toNat=d):strOfNums [x]++str l=str (UInt8.ofNat d::l):=by
 subst h;exact Xi (by simp[Uz])
theorem Xn (x:Int) (h:i64ok x):wrap64 x=x:=by unfold wrap64;have:=h.1;have:=h.2;omega
theorem Zd3 (n:Int) (l:List UInt8) (j:n<0) (h:l=Lib.decDigits n.natAbs):({data:=#[45]}:ByteArray)++str l=itoaS n:=by
 unfold itoaS Lib.itoa;rw[Zi j,h];exact Xi (by simp)
theorem Zcj (n:Int) (l:List UInt8) (j:0<=n) (h:l=Lib.decDigits n.natAbs):str l=itoaS n:=by
 unfold itoaS Lib.itoa;rw[Zf (by omega),h,show n.toNat=n.natAbs by omega]
theorem GF (n:Int) (w:World) (Z:i64ok n):
 Calls prog 80 #[.int .i64 n] w λe w'=>e= .returned (.string (itoaS n))/\Ext w w':=by
 have J:=ZbG n Z;obtain ⟨R,X⟩:∃R,itoaS n=R:=⟨_,rfl⟩;rw[X];have Q:=gd X;have H:=gd J;have HN:=gd Z;clear X J Z;go_enter func80,ntmps80;go_wp2;go_loopw [3,4,5] (λv m _ wr=>∃(x:Int) (l:List UInt8),m= .int .i64 x/\v= .string (str l)/\Hid (i64ok x)/\Hid (Lib.decDigits x.natAbs++l=Lib.decDigits n.natAbs)/\Ext w wr) (λ_ m _ _=>(intOf m).natAbs)
 case atStart=>exact ⟨n,[],rfl,rfl,HN,by show _=_;simp,Ext.refl _⟩
 case round=>
  obtain ⟨x,l,rfl,rfl,A,S,U⟩:=hrel;have Y:l.length<=21:=by have h1:=Zo List.length S.out;have h2:=H.out;rw[Zj] at h1;omega
  by_cases C:x.natAbs<10
  ·have D:x= -9\/x= -8\/x= -7\/x= -6\/x= -5\/x= -4\/x= -3\/x= -2\/x= -1\/x=0\/x=1\/x=2\/x=3\/x=4\/x=5\/x=6\/x=7\/x=8\/x=9:=(by omega);have O:Hid ((UInt8.ofNat (48+x.natAbs))::l=Lib.decDigits n.natAbs):=(by show _=_;rw[<-S.out,QK _ C];rfl);have hc:l.length<100:=(by omega);clear H S C Y HN;by_cases K:n<0
   ·have V:Hid (({data:=#[45]}:ByteArray)++str ((UInt8.ofNat (48+x.natAbs))::l)=R):=(by show _=_;rw[Zd3 n _ K O.out,Q.out]);clear Q A;rcases D with rfl|rfl|rfl|rfl|rfl|rfl|rfl|rfl|rfl|rfl|rfl|rfl|rfl|rfl|rfl|rfl|rfl|rfl|rfl
    all_goals go_wp2
    all_goals go_ret
    all_goals exact ⟨by rw[<-V.out];rfl,by repeat (first|exact U|apply Ext.drew|apply Ext.alloc)⟩
   ·have V:Hid (str ((UInt8.ofNat (48+x.natAbs))::l)=R):=(by show _=_;rw[Zcj n _ (by omega) O.out,Q.out]);clear Q A;rcases D with rfl|rfl|rfl|rfl|rfl|rfl|rfl|rfl|rfl|rfl|rfl|rfl|rfl|rfl|rfl|rfl|rfl|rfl|rfl
    all_goals go_wp2
    all_goals go_ret
    all_goals exact ⟨by rw[<-V.out];rfl,by repeat (first|exact U|apply Ext.drew|apply Ext.alloc)⟩
  ·have O:Hid (Lib.decDigits (x.natAbs / 10)++(UInt8.ofNat (48+x.natAbs % 10)::l)=Lib.decDigits n.natAbs):=(by show _=_;rw[<-S.out,UY _ C,Yl];rfl);by_cases F:0<=x
   ·obtain ⟨a,rfl⟩:=Int.eq_ofNat_of_zero_le F;have I:=A.out.2;have ha:10<=(a:Int):=(by omega);have G:Hid ((a:Int)<=9223372036854775807):=I;clear I C F;go_wp2;have j:i64ok ((a:Int) / 10):=(by have:=G.out;unfold i64ok;omega);refine ⟨⟨(a:Int) / 10,UInt8.ofNat (48+a % 10)::l,by rw[Xn _ j],by rw[Ee _ (48+a % 10) l (by omega)],j,?_,U.alloc _⟩,?_⟩
    ·have h:=O.out;rw[show ((a:Int)).natAbs=a by omega] at h;show _=_;rw[show ((a:Int) / 10).natAbs=a / 10 by omega];exact h
    ·rw[Xn _ j];simp[intOf];omega
   ·obtain ⟨a,rfl⟩:∃a:Nat,x= -(a:Int):=⟨x.natAbs,by omega⟩;have I:=A.out.1;have ha:10<=(a:Int):=(by omega);have G:Hid (-9223372036854775808<= -(a:Int)):=I;clear I C F;go_wp2
    all_goals have j:i64ok (-((a:Int) / 10)):=by have:=G.out;unfold i64ok;omega
    all_goals refine ⟨⟨-((a:Int) / 10),UInt8.ofNat (48+a % 10)::l,by rw[Xn _ j],by rw[Ee _ (48+a % 10) l (by omega)],j,?_,U.alloc _⟩,by rw[Xn _ j];simp[intOf];omega⟩
    all_goals have h:=O.out
    all_goals rw[show (-(a:Int)).natAbs=a by omega] at h
    all_goals (show _=_)
    all_goals rw[show (-((a:Int) / 10)).natAbs=a / 10 by omega]
    all_goals exact h
theorem VX (n:Int) (w:World) (j:Env w) (h:i64ok n):
 Calls prog 72 #[.int .i64 n,.int .i64 10] w λe w'=>e= .returned (.string (itoaS n))/\Ext w w':=by
 refine (strconv_FormatInt_10 n h.1 h.2 w j.pow).mono ?_;rintro e w' ⟨rfl,k,os,rfl⟩;exact ⟨rfl,Lib.below_grow _ w (Zd _) k os⟩
end
def vcells (k:Int) (b:Bool) (n:Int) (s:ByteArray) (its:Value) (at_:Int):List Value:= [.int .i64 k,.bool b,.int .i64 n,.string s,its,.slice none 0 0,.int .i64 at_]
def ocells (ms:Value) (at_:Int):List Value:= [.int .i64 5,.bool false,.int .i64 0,.string ⟨#[]⟩,.slice none 0 0,ms,.int .i64 at_]
def mcell (m:ByteArray×List Value×Int):List Value:= .string m.1::(m.2.1++ [.int .i64 m.2.2])
def RVn:Nat->World->JV->List Value->Prop
 |0,_,_,_=>False
 |n+1,w,j,cs=>∃a:Int,match j with
  | .null=>cs=vcells 0 false 0 ⟨#[]⟩ (.slice none 0 0) a
  | .bool b=>cs=vcells 1 b 0 ⟨#[]⟩ (.slice none 0 0) a
  | .int x=>cs=vcells 2 false x ⟨#[]⟩ (.slice none 0 0) a
  | .str s=>cs=vcells 3 false 0 s (.slice none 0 0) a
  | .obj ks vs=>∃(v:Value) (ms:List (ByteArray×List Value×Int)),cs=ocells v a/\ms.map Prod.fst=ks/\ms.length=vs.length/\RSl w 9 v vs.length (ms.map mcell).flatten/\∀(i:Nat) (j:JV) (m:ByteArray×List Value×Int),vs[i]? =some j->ms[i]? =some m->RVn n w j m.2.1
  | .arr l=>∃(v:Value) (css:List (List Value)),cs=vcells 4 false 0 ⟨#[]⟩ v a/\css.length=l.length/\RSl w 7 v l.length css.flatten/\∀(i:Nat) (j:JV) (c:List Value),l[i]? =some j->css[i]? =some c->RVn n w j c
def RV (w:World) (j:JV) (cs:List Value):Prop:=∃n,RVn n w j cs
theorem RVn.ext {w w':World} (A:Ext w w'):∀(n:Nat) (j:JV) (cs:List Value),RVn n w j cs->RVn n w' j cs
 |0,_,_,h=>h.elim
 |n+1,j,cs,⟨a,h⟩=>by
  refine ⟨a,?_⟩
  cases j with
  |arr l=>
   obtain ⟨v,css,C,D,F,G⟩:=h
   exact ⟨v,css,C,D,F.ext A,λi j c I H=>RVn.ext A n j c (G i j c I H)⟩
  |obj ks vs=>
   obtain ⟨v,ms,C,D,F,G,J⟩:=h
   exact ⟨v,ms,C,D,F,G.ext A,λi j c I H=>RVn.ext A n j c.2.1 (J i j c I H)⟩
  |_=>exact h
theorem RVn.more {w:World}:∀(n m:Nat) (j:JV) (cs:List Value),n<=m->RVn n w j cs->RVn m w j cs
 |0,_,_,_,_,h=>h.elim
 |n+1,0,_,_,h,_=>by omega
 |n+1,m+1,j,cs,hnm,⟨a,h⟩=>by
  refine ⟨a,?_⟩
  cases j with
  |arr l=>
   obtain ⟨v,css,A,C,D,F⟩:=h
   exact ⟨v,css,A,C,D,λi j c H G=>RVn.more n m j c (by omega) (F i j c H G)⟩
  |obj ks vs=>
   obtain ⟨v,ms,A,C,D,F,I⟩:=h
   exact ⟨v,ms,A,C,D,F,λi j c H G=>RVn.more n m j c.2.1 (by omega) (I i j c H G)⟩
  |_=>exact h
theorem RV.ext {w w':World} {j:JV} {cs:List Value} (h:RV w j cs) (A:Ext w w'):RV w' j cs:=let ⟨n,h⟩:=h;⟨n,h.ext A⟩
theorem RVn.len {w:World} {n:Nat} {j:JV} {cs:List Value} (h:RVn n w j cs):cs.length=7:=by
 cases n with
 |zero=>exact h.elim
 |succ n=>
  obtain ⟨a,h⟩:=h;cases j with
  |arr l=>obtain ⟨v,css,rfl,_⟩:=h;rfl
  |obj ks vs=>obtain ⟨v,ms,rfl,_⟩:=h;rfl
  |_=>subst h;rfl
theorem Jx (n:Nat) (j:JV) (cs:List Value) (w:World) (h:RVn n w j cs):
 Calls prog 177 #[.agg cs.toArray] w λe w'=>e= .returned (.bool true)/\Ext w w':=by
 cases n with
 |zero=>exact h.elim
 |succ n=>
  obtain ⟨a,h⟩:=h;cases j with
  |arr l=>
   obtain ⟨v,css,rfl,G,F,_⟩:=h;obtain ⟨_,A,c,rfl,D,C,_,_⟩:=F;unfold vcells;go_enter func177,ntmps177;go_wp2
   all_goals go_ret
   all_goals exact ⟨by first|rfl|(refine Zo (λb=>Ending.returned (.bool b)) ?_;simp_all),by repeat (first|exact Ext.refl _|apply Ext.drew|apply Ext.alloc|(refine Ext.setCell ?_ (by simp) _))⟩
  |obj ks vs=>
   obtain ⟨v,ms,rfl, -, -,F,_⟩:=h;obtain ⟨_,A,c,rfl,D,C,_,_⟩:=F;unfold ocells;go_enter func177,ntmps177;go_wp2
   all_goals go_ret
   all_goals exact ⟨by first|rfl|(refine Zo (λb=>Ending.returned (.bool b)) ?_;simp_all),by repeat (first|exact Ext.refl _|apply Ext.drew|apply Ext.alloc|(refine Ext.setCell ?_ (by simp) _))⟩
  |null=>
   subst h;unfold vcells;go_enter func177,ntmps177;go_wp2
   all_goals go_ret
   all_goals exact ⟨by first|rfl|(refine Zo (λb=>Ending.returned (.bool b)) ?_;simp_all),by repeat (first|exact Ext.refl _|apply Ext.drew|apply Ext.alloc|(refine Ext.setCell ?_ (by simp) _))⟩
  |bool b=>
   subst h;unfold vcells;go_enter func177,ntmps177;go_wp2
   all_goals go_ret
   all_goals exact ⟨by first|rfl|(refine Zo (λb=>Ending.returned (.bool b)) ?_;simp_all),by repeat (first|exact Ext.refl _|apply Ext.drew|apply Ext.alloc|(refine Ext.setCell ?_ (by simp) _))⟩
  |int x=>
   subst h;unfold vcells;go_enter func177,ntmps177;go_wp2
   all_goals go_ret
   all_goals exact ⟨by first|rfl|(refine Zo (λb=>Ending.returned (.bool b)) ?_;simp_all),by repeat (first|exact Ext.refl _|apply Ext.drew|apply Ext.alloc|(refine Ext.setCell ?_ (by simp) _))⟩
  |str t=>
   subst h;unfold vcells;go_enter func177,ntmps177;go_wp2
   all_goals go_ret
   all_goals exact ⟨by first|rfl|(refine Zo (λb=>Ending.returned (.bool b)) ?_;simp_all),by repeat (first|exact Ext.refl _|apply Ext.drew|apply Ext.alloc|(refine Ext.setCell ?_ (by simp) _))⟩
def bJ:JO->Bool
 | .bool _ b=>b
 |_=>false
def nJ:JO->Int
 | .int _ n=>n
 |_=>0
def ksJ:JO->List (ByteArray×Nat)
 | .obj _ ks _=>ks
 |_=> []
def vsJ:JO->List JO
 | .obj _ _ vs=>vs
 |_=> []
def wcells (k:Int) (b:Bool) (n:Int) (s:ByteArray) (its ms:Value) (a:Int):List Value:= [.int .i64 k,.bool b,.int .i64 n,.string s,its,ms,.int .i64 a]
def RIts (w:World) (P:JO->List Value->Prop) (v:Value) (l:List JO):Prop:=∃css:List (List Value),css.length=l.length/\RSl w 7 v l.length css.flatten/\∀(i:Nat) (j:JO) (c:List Value),l[i]? =some j->css[i]? =some c->P j c
def RMems (w:World) (P:JO->List Value->Prop) (v:Value) (ks:List (ByteArray×Nat)) (vs:List JO):Prop:=
 ∃ms:List (ByteArray×List Value×Int),ms.map (λm=>(m.1,m.2.2))=ks.map (λk=>(k.1,(k.2:Int)))/\ms.length=vs.length/\RSl w 9 v vs.length (ms.map mcell).flatten/\∀(i:Nat) (j:JO) (m:ByteArray×List Value×Int),vs[i]? =some j->ms[i]? =some m->P j m.2.1
def RJn:Nat->World->JO->List Value->Prop
 |0,_,_,_=>False
 |n+1,w,j,cs=>∃its ms:Value,cs=wcells (kindJ j) (bJ j) (nJ j) (sJ j) its ms (atJ j)/\RIts w (RJn n w) its (itemsJ j)/\RMems w (RJn n w) ms (ksJ j) (vsJ j)/\
  (kindJ j≠4->its= .slice none 0 0)/\(kindJ j≠5->ms= .slice none 0 0)
def RJ (w:World) (j:JO) (cs:List Value):Prop:=∃n,RJn n w j cs
theorem RIts.mono {w w':World} {P Q:JO->List Value->Prop} {v:Value} {l:List JO} (h:RIts w P v l) (I:Ext w w') (A:∀j c,P j c->Q j c):RIts w' Q v l:=by
 obtain ⟨css,C,D,F⟩:=h;exact ⟨css,C,D.ext I,λi j c H G=>A _ _ (F i j c H G)⟩
theorem RMems.mono {w w':World} {P Q:JO->List Value->Prop} {v:Value} {ks:List (ByteArray×Nat)} {vs:List JO} (h:RMems w P v ks vs) (J:Ext w w') (A:∀j c,P j c->Q j c):RMems w' Q v ks vs:=by
 obtain ⟨css,C,D,F,G⟩:=h;exact ⟨css,C,D,F.ext J,λi j c I H=>A _ _ (G i j c I H)⟩
theorem RJn.ext {w w':World} (A:Ext w w'):∀{n:Nat} {j:JO} {cs:List Value},RJn n w j cs->RJn n w' j cs
 |0,_,_,h=>h.elim
 |n+1,j,cs,⟨its,ms,h1,h2,h3,h4,h5⟩=>⟨its,ms,h1,h2.mono A λ_ _ h=>h.ext A,h3.mono A λ_ _ h=>h.ext A,h4,h5⟩
theorem RJn.more {w:World}:∀{n m:Nat} {j:JO} {cs:List Value},n<=m->RJn n w j cs->RJn m w j cs
 |0,_,_,_,_,h=>h.elim
 |n+1,0,_,_,h,_=>by omega
 |n+1,m+1,j,cs,hnm,⟨its,ms,h1,h2,h3,h4,h5⟩=>⟨its,ms,h1,h2.mono (Ext.refl w) λ_ _ h=>h.more (Nat.le_of_succ_le_succ hnm),h3.mono (Ext.refl w) λ_ _ h=>h.more (Nat.le_of_succ_le_succ hnm),h4,h5⟩
theorem RJ.ext {w w':World} {j:JO} {cs:List Value} (h:RJ w j cs) (A:Ext w w'):RJ w' j cs:=let ⟨n,h⟩:=h;⟨n,h.ext A⟩
theorem RJn.cells {w:World} {n:Nat} {j:JO} {cs:List Value} (h:RJn n w j cs):∃A p c B q d,cs=wcells (kindJ j) (bJ j) (nJ j) (sJ j) (.slice A p c) (.slice B q d) (atJ j):=by
 cases n with
 |zero=>exact h.elim
 |succ n=>obtain ⟨its,ms,rfl,⟨_,_,C,_⟩,⟨_,_,_,D,_⟩,_⟩:=h;obtain ⟨_,A,c,rfl,_⟩:=C;obtain ⟨_,B,d,rfl,_⟩:=D;exact ⟨_,_,_,_,_,_,rfl⟩
theorem RJ.cells {w:World} {j:JO} {cs:List Value} (h:RJ w j cs):∃A p c B q d,cs=wcells (kindJ j) (bJ j) (nJ j) (sJ j) (.slice A p c) (.slice B q d) (atJ j):=let ⟨_,h⟩:=h;h.cells
theorem RJn.len {w:World} {n:Nat} {j:JO} {cs:List Value} (h:RJn n w j cs):cs.length=7:=by
 obtain ⟨_,_,_,_,_,_,rfl⟩:=h.cells;rfl
theorem Vd {k:Int} {b:Bool} {n:Int} {s:ByteArray} {A B:Option Addr} {p c q d:Nat} {a:Int}:∀u∈wcells k b n s (.slice A p c) (.slice B q d) a,u.oneCell'=true:=by
 intro u h;simp[wcells] at h;rcases h with rfl|rfl|rfl|rfl|rfl|rfl|rfl<;>rfl
theorem RJn.leaf {w:World} {n:Nat} {j:JO} (h:itemsJ j= []/\ksJ j= []/\vsJ j= []):RJn (n+1) w j (wcells (kindJ j) (bJ j) (nJ j) (sJ j) (.slice none 0 0) (.slice none 0 0) (atJ j)):=by
 refine ⟨_,_,rfl,?_,?_,λ_=>rfl,λ_=>rfl⟩
 ·rw[h.1];exact ⟨[],rfl,RSl.nil w 7,λi j c h _=>by simp at h⟩
 ·rw[h.2.1,h.2.2];exact ⟨[],rfl,rfl,RSl.nil w 9,λi j c h _=>by simp at h⟩
theorem RJ.null (w:World):RJ w (.null 0) (wcells 0 false 0 ⟨#[]⟩ (.slice none 0 0) (.slice none 0 0) 0):=⟨1,RJn.leaf (j:= .null 0) ⟨rfl,rfl,rfl⟩⟩
section
section
variable {P:Program}
end
theorem Ext.setRow {a b:World} (h:Ext a b) {g:Nat} (j:a.heap.size<=g) (cs:Array Value):Ext a (b.setRow g cs):=
 h.then ⟨rfl,rfl,rfl,by simp[World.setRow],λk A=>ZD b g k cs (by omega)⟩
theorem X7 {w:World} {base size n:Nat} {e:TypeId} {v:Value} {xs:List Value} (h:w.ownsRow base e size v n xs) {g:Nat} (C:g<base) (cs:Array Value):(w.setRow g cs).ownsRow base e size v n xs:=by
 refine h.kept (row:=some g) ⟨rfl,rfl,rfl,by simp[World.setRow],λk _ j=>ZD w g k cs (λe=>j (by rw[e]))⟩ (Or.inr λA=> ?_);have:=(h.lt g A).1;omega
theorem Xl (w:World) (A B C:Obj):(((w.alloc A).alloc B).alloc C).heap[w.heap.size+1+1]? =some C:=by
 have h:=Zh ((w.alloc A).alloc B) C;have e:((w.alloc A).alloc B).heap.size=w.heap.size+1+1:=by show ((w.heap.push A).push B).size=_;simp
 rwa [e] at h
theorem UT {w:World} {g n size:Nat} {cs:List Value} {e:TypeId} {fr:Nat×Nat} (C:w.heap[g]? =some (.cells cs.toArray e fr)) (h:cs.length=n*size) (D:n<=maxLen):RSl w size (.slice (some ⟨g,0,none⟩) n n) n cs:=by
 refine ⟨h,some ⟨g,0,none⟩,n,rfl,Zd _,D,(λh=>by cases h),λj u F=>⟨_,rfl,?_⟩⟩;have A:(⟨g,0,none⟩:Addr).add j=⟨g,j,none⟩:=by unfold Addr.add;split<;>simp_all
 rw[A,ZN C];simpa using F
theorem RSl.at1 {w:World} {size n c m:Nat} {A:Option Addr} {xs:List Value} (h:RSl w size (.slice A m c) n xs) (k:Nat) (u:Value) (C:xs[k]? =some u):∃ad,A=some ad/\w.cell? (ad.add k)=some u:=by
 obtain ⟨_,D,F,e,_,_,_,j⟩:=h;cases e;exact j k u C
theorem IU (a:Addr) (m n:Nat):(a.add m).add n=a.add (m+n):=by
 unfold Addr.add;by_cases h:m=0<;>by_cases j:n=0<;>simp_all [Nat.add_assoc]
theorem RSl.elem {w:World} {k:Nat} {v:Value} {n:Nat} {css:List (List Value)} (h:RSl w k v n css.flatten) (S:0<k) (F:∀c∈css,c.length=k) (i:Nat) (c:List Value) (D:css[i]? =some c):
 ∃ad cap,v= .slice (some ad) n cap/\∀j u,c[j]? =some u->w.cell? ((ad.add (k*i)).add j)=some u:=by
 obtain ⟨_,A,cap,rfl,_,_,R,C⟩:=h;have key:∀(l:List (List Value)) (i:Nat) (c:List Value) (j:Nat) (u:Value),(∀c∈l,c.length=k)->l[i]? =some c->c[j]? =some u->l.flatten[k*i+j]? =some u:=by
  intro l
  induction l with
  |nil=>intro i c j u _ h;simp at h
  |cons x l ih=>
   intro i c j u F D G;have Q:x.length=k:=F x (by simp);cases i with
   |zero=>simp at D;subst D;have O:j<x.length:=(by have:=(ZE.mp G).1;exact this);simpa [List.getElem?_append,O] using (ZE.mp G).2
   |succ i=>have:=ih i c j u (λc h=>F c (by simp[h])) (by simpa using D) G;simp only[List.flatten_cons];have e:k*(i+1)+j=x.length+(k*i+j):=(by rw[Q,Nat.mul_succ];omega);rw[e,ZK (by omega)];simpa using this
 have K:c.length=k:=F c (List.mem_of_getElem? D);have J:0<c.length:=by omega
 obtain ⟨ad,rfl,_⟩:=C _ _ (key css i c 0 c[0] F D (Zc J));refine ⟨ad,cap,rfl,λj u G=> ?_⟩;obtain ⟨I,h,H⟩:=C _ _ (key css i c j u F D G);injection h with h;subst h;rw[IU];exact H
theorem Ext.boxed {w w':World} {cs:Array Value} {t:TypeId} {fr:Nat×Nat} (h:Ext (w.alloc (.cells cs t fr)) w') (i:Nat) (v:Value) (j:cs[i]? =some v):w'.cell? ⟨w.heap.size,i,none⟩=some v:=
 h.cell (p:=⟨w.heap.size,i,none⟩) (by rw[Zb _ _ _ cs t fr (Zh w _)];exact j)
end
theorem Qu (s:List UInt8):WideAt.IsKeyLit (.string s):=trivial
theorem Qt:Keyed prog 9:=string_keyed underlying9
theorem Ext.grown' {B:Nat} {a b c:World} {row:Option Nat} (h:Ext a b) (j:b.grownBy c row) (C:∀g,row=some g->a.heap.size<=g):Ext a c:=
 Below.grown h j h.size λk A=>C k A
def SeenMap (D:DataW Unit) (p:ByteArray->Bool):Prop:=
 IsMap D/\∀s:ByteArray,D.atKey (.string s.data.toList) (.lit (.bool false))= .lit (.bool (p s))
theorem SeenMap.nil:SeenMap (.map []) (λ_=>false):=⟨isMap_empty,λ_=>rfl⟩
theorem SeenMap.put {D:DataW Unit} {p q:ByteArray->Bool} {s:ByteArray} (h:SeenMap D p) (C:∀t,q t=(p t||decide (s=t))):SeenMap (D.put (.string s.data.toList) (.lit (.bool true))) q:=by
 refine ⟨h.1.put _ _,λt=> ?_⟩;rw[C];by_cases e:s=t
 ·subst e;rw[atKey_put_same h.1 (Qu _)];simp
 ·have A:(Lit.string t.data.toList)≠ .string s.data.toList:=by intro j;injection j with j;exact e (Zay j).symm
  rw[atKey_put_other A,h.2 t];simp[e]
theorem Qw {P:Program} {e:TypeId} (j:P.underlying e=some .bool) {v:Value} {z:DataW Unit×List MemPlace} (h:plainElem P e v=some z):∃b:Bool,v= .bool b/\z=(.lit (.bool b),[]):=by
 unfold plainElem at h;rw[j] at h;cases v<;>simp at h;exact ⟨_,rfl,h.symm⟩
theorem ZfK (w:World):(zeroValue 4).run prog w= .ok (.bool false) w:=by kernel_rfl
theorem EI {w:World} {b n:Nat} {D:DataW Unit} {p:ByteArray->Bool} {s:ByteArray} (C:w.ownsMap prog 9 (plainElem prog 4) b n D) (h:SeenMap D p) (F:s.size<=maxLen):
 (Instr.lookup 192 (.map (some b)) (.string s) false).run prog w= .ok (.bool (p s)) w:=by
 obtain ⟨v,ps,j,G⟩:=C.lookup Qt underlying192 (ZfK w) (plainElem_bool underlying4 false) (keyOf_string_mk underlying9 F);obtain ⟨c,rfl,A⟩:=Qw underlying4 G;rw[h.2 s] at A;simp only[Prod.mk.injEq,DataW.lit.injEq,Lit.bool.injEq] at A;rw[j,A.1]
def ValidSaid (n:Nat):Prop:=∀(j:JV) (cs:List Value) (w:World) (d:Nat),RVn n w j cs->jok j->Env w->1<=d->d<=101->
 Calls prog 144 #[.agg cs.toArray,.int .i64 (d:Nat)] w λe w'=>e= .returned (.bool (jvalid j d))/\Ext w w'
theorem RVn.shape {w:World} {n:Nat} {j:JV} {cs:List Value} (h:RVn n w j cs):∃k b x s A m c B p q a,cs= [.int .i64 k,.bool b,.int .i64 x,.string s,.slice A m c,.slice B p q,.int .i64 a]:=by
 cases n with
 |zero=>exact h.elim
 |succ n=>
  obtain ⟨a,h⟩:=h;cases j with
  |arr l=>obtain ⟨v,css,rfl,_,⟨_,A,c,rfl,_⟩,_⟩:=h;exact ⟨_,_,_,_,_,_,_,_,_,_,_,rfl⟩
  |obj ks vs=>obtain ⟨v,ms,rfl,_,_,⟨_,A,c,rfl,_⟩,_⟩:=h;exact ⟨_,_,_,_,_,_,_,_,_,_,_,rfl⟩
  |_=>subst h;exact ⟨_,_,_,_,_,_,_,_,_,_,_,rfl⟩
theorem Zed (n:Nat) (ih:ValidSaid n) (l:List JV) (cs:List Value) (w:World) (d:Nat) (h:RVn (n+1) w (.arr l) cs) (V:jok (.arr l)) (hE:Env w) (hd:1<=d) (hR:d<=101):
 Calls prog 144 #[.agg cs.toArray,.int .i64 (d:Nat)] w λe w'=>e= .returned (.bool (jvalid (.arr l) d))/\Ext w w':=by
 obtain ⟨a,v,css,rfl,hH,hr,O⟩:=h;rw[G7] at V;rw[Uw];have hL:=hr;obtain ⟨_,A,c,rfl,hS,hI,_,_⟩:=hL;have hm:=λw' (hu:Env w')=>XL ⟨#[]⟩ w' hu (by simp[ByteArray.size]);have hU:Lib.validD (⟨#[]⟩:ByteArray).data.toList=true:=by decide
 have ht:=gd hm;have ho:=gd ih;have hn:=gd O;have hq:=gd V;have hs:=gd (λw' (J:Ext w w')=>Jx (n+1) (.arr l) (vcells 4 false 0 ⟨#[]⟩ (.slice A l.length c) a) w' ⟨a,_,css,rfl,hH,hr.ext J,λi j c hj Z=>(O i j c hj Z).ext J⟩);have hT:= @run_makeMap prog;have hh:∀c∈css,c.length=7:=by intro c Z;obtain ⟨i,hi,rfl⟩:=List.mem_iff_getElem.1 Z;exact (O i l[i] css[i] (Zc (by omega)) (Zc hi)).len
 have hp:=gd hh;clear hm ih O V hh;by_cases hg:d<=100
 ·have hJ:decide ((100:Int)<(d:Nat))=false:=by simp;omega
  have ha:=gd hg;unfold vcells at*;go_enter func144,ntmps144
  go_wp2_with (first|(go_at_call 177;refine (hs.out _ ((Ext.refl _).alloc _)).mono ?_;rintro e w1 ⟨rfl,D⟩;(have hP:=D.boxed 3 _ rfl))|(go_at_call 178;refine (ht.out _ ((hE.alloc _).ext D)).mono ?_;rintro e w2 ⟨rfl,F⟩;(have hQ:=F.cell (D.boxed 4 _ rfl));(have hw:=F.cell (D.boxed 5 _ rfl))))
  go_loopw [36] (λi wr=>∃k:Nat,k<=l.length/\i= .int .i64 k/\Hid ((l.all λj=>jvalid j (d+1))=((l.drop k).all λj=>jvalid j (d+1)))/\Ext w2 wr) (λi _=>l.length - (intOf i).toNat)
  case atStart=>exact ⟨0,Zt _,rfl,rfl,Ext.refl _⟩
  case round=>
   obtain ⟨k,hk,rfl,H,J⟩:=hrel;by_cases hl:k<l.length
   ·have hf:k<css.length:=(by omega);have K:=hn.out k l[k] css[k] (Zc hl) (Zc hf);obtain ⟨ad,cap,hA,C⟩:=RSl.elem (hr.ext ((((Ext.refl w).alloc _).trans D).trans (F.trans J))) (by omega) hp.out k css[k] (Zc hf);injection hA with hA1 hA2 hA3;subst hA1;clear hA2 hA3;rw[Y7] at C;obtain ⟨x0,x1,x2,x3,x4,x5,x6,y4,y5,y6,x7,Z⟩:=K.shape;rw[Z] at C;have hy:=C 0 _ rfl;have hz:=C 1 _ rfl;have hB:=C 2 _ rfl;have hC:=C 3 _ rfl;have hD:=C 4 _ rfl;have hF:=C 5 _ rfl;have hG:=C 6 _ rfl;rw[add_zero] at hy;have R:∀i,0<i->(ad.add (k*7)).add i=⟨(ad.add (k*7)).block,(ad.add (k*7)).off+i,none⟩:=λi hi=>Zf (by omega);rw[R _ (by omega)] at hz hB hC hD hF hG;clear R;rw[Z] at K;clear C;have hv:=hE.ext ((((Ext.refl w).alloc _).trans D).trans (F.trans J));have Q:=K.ext ((((Ext.refl w).alloc _).trans D).trans (F.trans J));have S:=hq.out l[k] (ZO _);have hM:IntKind.i64.wrap ((d:Int)+1)=((d+1:Nat):Int):=(by rw[IntKind.wrap];simp[IntKind.signed,IntKind.bits];omega);have I:=H.out.trans (by rw[Zx hl,List.all_cons]:_=(jvalid l[k] (d+1) && (l.drop (k+1)).all λj=>jvalid j (d+1)));have G:=gd I;have hb:=gd S;have he:=gd Q;clear H I S K Q;have X:wrap64 ((k:Int)+1)=((k+1:Nat):Int):=(by rw[maxLen] at hI;rw[Xn _ ⟨by omega,by omega⟩];rfl);have hN:=(((Ext.refl w).alloc _).trans D).trans (F.trans J)
    go_wp2_with (first|(go_at_call 144;refine (ho.out l[k] _ _ (d+1) (he.out.ext ((Ext.refl _).alloc _)) hb.out (hv.alloc _) (by omega) (by omega)).mono ?_;rintro e w3 ⟨rfl,Y⟩))
    ·go_ret;refine ⟨?_,(hN.alloc _).trans Y⟩;have h1:=G.out
     simp_all
    ·go_roundw
     case rel=>first|exact ⟨k+1,by omega,by rw[X],by have h1:=G.out;simp_all [Hid],(J.alloc _).trans Y⟩|((repeat apply Ye);exact ⟨⟨k+1,by omega,by rw[X],by have h1:=G.out;simp_all [Hid],(J.alloc _).trans Y⟩,rfl⟩)
     case measure=>rw[X];simp[intOf];omega
   ·have hK:k=l.length:=(by omega);subst hK;have U:=gd (H.out.trans (by simp:_=true));have hO:=((Ext.refl wr).alloc (.map #[] 0)).cell (J.cell hw);go_wp2;refine Xe 1 ?_;rw[rounds_succ];go_wp2;go_ret;refine ⟨by rw[U.out];simp[ha.out],?_⟩;exact (((((Ext.refl w).alloc _).trans D).trans (F.trans J)).alloc _)
 ·have hJ:decide ((100:Int)<(d:Nat))=true:=by simp;omega
  have ha:=gd hg;unfold vcells at*;go_enter func144,ntmps144;go_wp2;go_ret;exact ⟨by simp,(Ext.refl _).alloc _⟩
theorem Vv {w:World} {ad:Addr} {key:ByteArray} {cs:List Value} {at_:Int} {k:Nat} (F:cs.length=7) (h:∀j u,(mcell (key,cs,at_))[j]? =some u->w.cell? ((ad.add (k*9)).add j)=some u):
 w.cell? (ad.add (k*9))=some (.string key)/\(∀j u,cs[j]? =some u->w.cell? ⟨(ad.add (k*9)).block,(ad.add (k*9)).off+(j+1),none⟩=some u)/\w.cell? ⟨(ad.add (k*9)).block,(ad.add (k*9)).off+8,none⟩=some (.int .i64 at_):=by
 have A:∀i,0<i->(ad.add (k*9)).add i=⟨(ad.add (k*9)).block,(ad.add (k*9)).off+i,none⟩:=λi G=>Zf (by omega);refine ⟨?_,λj u D=> ?_,?_⟩
 ·have:=h 0 _ rfl
  rwa [add_zero] at this
 ·have C:j<cs.length:=(ZE.1 D).1;have:=h (j+1) u (by show (cs++ [_])[j]? =some u;rw[Z2 C];exact D)
  rwa [A _ (by omega)] at this
 ·have:=h 8 (.int .i64 at_) (by show (cs++ [_])[7]? =_;rw[ZK (by omega),F];rfl)
  rwa [A _ (by omega)] at this
theorem Zef (n:Nat) (ih:ValidSaid n) (ks:List ByteArray) (vs:List JV) (cs:List Value) (w:World) (d:Nat) (h:RVn (n+1) w (.obj ks vs) cs) (hQ:jok (.obj ks vs)) (hE:Env w) (hd:1<=d) (gr:d<=101):
 Calls prog 144 #[.agg cs.toArray,.int .i64 (d:Nat)] w λe w'=>e= .returned (.bool (jvalid (.obj ks vs) d))/\Ext w w':=by
 obtain ⟨a,v,ms,rfl,ho,gj,hr,X⟩:=h;rw[G8] at hQ;obtain ⟨gs,hP,hL,hR⟩:=hQ;rw[U1];have gk:=hr;obtain ⟨_,A,c,rfl,gi,hl,_,_⟩:=gk;have he:(⟨#[]⟩:ByteArray).size<=16777216:=by simp[ByteArray.size]
 have S:=λw' (gc:Env w')=>XL ⟨#[]⟩ w' gc he;have hS:Lib.validD (⟨#[]⟩:ByteArray).data.toList=true:=by decide
 rw[hS] at S;have h9:=gd S;have h8:=gd (λw' (hx:Ext w w')=>Jx (n+1) (.obj ks vs) (ocells (.slice A vs.length c) a) w' ⟨a,_,ms,rfl,ho,gj,hr.ext hx,λi j c hj hc=>(X i j c hj hc).ext hx⟩);have gt:= @run_makeMap prog;have hO:∀c∈ms.map mcell,c.length=9:=by intro c hc;obtain ⟨m,hm,rfl⟩:=Yq.1 hc;obtain ⟨i,hi,rfl⟩:=List.mem_iff_getElem.1 hm;have:=(X i vs[i] ms[i] (Zc (by omega)) (Zc hi)).len;simp[mcell,this]
 have h2:=gd hO;have hX:=gd ih;have hW:=gd X;have ga:=gd hR;have hZ:=gd ho;have h5:=gd hP;have h0:=gd hL;have HR:=gd hr;have HE:=gd hE;clear hO ih X hR ho hP hL S hS he;by_cases hJ:d<=100
 ·have gf:decide ((100:Int)<(d:Nat))=false:=by simp;omega
  have hf:=gd hJ;unfold ocells at*;go_enter func144,ntmps144
  go_wp2_with (first|(go_at_call 177;refine (h8.out _ ((Ext.refl _).alloc _)).mono ?_;rintro e w1 ⟨rfl,U⟩;(have go:=U.boxed 3 _ rfl))|(go_at_call 178;refine (h9.out _ ((HE.out.alloc _).ext U)).mono ?_;rintro e w2 ⟨rfl,ht⟩;(have gp:=ht.cell (U.boxed 4 _ rfl));(have gq:=((Ext.refl w2).alloc (.map #[] 0)).cell (ht.cell (U.boxed 5 _ rfl)))))
  refine Xe 1 ?_;rw[rounds_succ];go_wp2;go_loopw [50] (λi wr=>∃(k:Nat) (D:DataW Unit),k<=vs.length/\i= .int .i64 k/\wr.ownsMap prog 9 (plainElem prog 4) w2.heap.size k D/\Hid (SeenMap D (λs=>(ks.take k).any (λe=>decide (e=s))))/\Hid ((vs.all λj=>jvalid j (d+1))=((vs.drop k).all λj=>jvalid j (d+1)))/\Ext w2 wr) (λi _=>vs.length - (intOf i).toNat)
  case atStart=>exact ⟨0,.map [],Zt _,rfl,World.ownsMap_made _ _ _ _,gd SeenMap.nil,rfl,(Ext.refl _).alloc _⟩
  case round=>
   obtain ⟨k,D,hk,rfl,hM,hD,K,hx⟩:=hrel;have hU:Ext w w2:=(((Ext.refl w).alloc _).trans U).trans ht;have V:Ext w wr:=hU.trans hx;by_cases hp:k<vs.length
   ·have hh:k<ms.length:=(by omega);have hn:k<ks.length:=(by omega);have Q:=hW.out k vs[k] ms[k] (Zc hp) (Zc hh);obtain ⟨ad,cap,hA,F⟩:=RSl.elem (HR.out.ext V) (by omega) h2.out k (mcell ms[k]) (by rw[ZT,Zc hh];rfl);injection hA with hA1 hA2 hA3;subst hA1;clear hA2 hA3;rw[Y7] at F;have O:ks[k]=ms[k].1:=(by have h1:(ms.map Prod.fst)[k]? =ks[k]?:=(by rw[hZ.out]);rw[ZT,Zc hh,Zc hn] at h1;injection h1 with h1;exact h1.symm);have J:(ks.take k).any (λe=>decide (e=ks[k]))=false:=(by rw[List.any_eq_false];intro x hx hu;have hu:x=ks[k]:=(by simpa using hu);obtain ⟨j,hj,gg⟩:=List.mem_take_iff_getElem.1 hx;have:=(Xj.1 (List.nodup_iff_pairwise_ne.1 h5.out)) j k (by omega) hn (by omega);exact this (gg.trans hu));have hs:=Zy hn;have I:=h0.out ks[k] (ZO _);have ha:=ga.out vs[k] (ZO _);have R:=K.out.trans (by rw[Zx hp,List.all_cons]:_=(jvalid vs[k] (d+1) && (vs.drop (k+1)).all λj=>jvalid j (d+1)));obtain ⟨M,hG⟩:∃M,ms[k]=M:=⟨_,rfl⟩;rw[hG] at F Q O;obtain ⟨key,cv,at_⟩:=M;dsimp only at O Q;rw[O] at J hs I;have hN:=Q.len;obtain ⟨x0,x1,x2,x3,x4,x5,x6,y4,y5,y6,x7,hc⟩:=Q.shape;subst hc;obtain ⟨c0,cv_,c8⟩:=Vv hN F;have c1:=cv_ 0 _ rfl;have c2:=cv_ 1 _ rfl;have c3:=cv_ 2 _ rfl;have c4:=cv_ 3 _ rfl;have c5:=cv_ 4 _ rfl;have c6:=cv_ 5 _ rfl;have c7:=cv_ 6 _ rfl;simp only[Yf,Nat.reduceAdd] at c1 c2 c3 c4 c5 c6 c7;have hq:key.size<=maxLen:=(by have:=I.1;unfold maxLen;omega);have hw:=gd (keyOf_string_mk underlying9 hq:keyOf prog 9 (.string key)=some (.string key.data.toList));have hB:Hid (SeenMap (D.put (.string key.data.toList) (.lit (.bool true))) (λs=>(ks.take (k+1)).any (λe=>decide (e=s)))):=gd (hD.out.put λt=>by rw[hs,List.any_append];simp);obtain ⟨W1,hI⟩:∃W1,wr.alloc (.cells #[.string key,.int .i64 x0,.bool x1,.int .i64 x2,.string x3,.slice x4 x5 x6,.slice y4 y5 y6,.int .i64 x7,.int .i64 at_] 56)=W1:=⟨_,rfl⟩;have G:Ext wr W1:=(by rw[<-hI];exact (Ext.refl _).alloc _);have ge:=EI (hM.kept (G.grown none) (by simp)) hD.out hq;simp only[J] at ge;have H:Hid (∀i u wz,#[Value.string key,.int .i64 x0,.bool x1,.int .i64 x2,.string x3,.slice x4 x5 x6,.slice y4 y5 y6,.int .i64 x7,.int .i64 at_][i]? =some u->Ext W1 wz->wz.cell? ⟨wr.heap.size,i,none⟩=some u):=gd (λi u wz h hz=>Ext.boxed (w:=wr) (by rw[hI];exact hz) i u h);have hC:=gd (XL key W1 (HE.out.ext (V.trans G)) I.1);rw[I.2] at hC;have h7:=gd (Q.ext (V.trans G));have hy:=gd ha;have Z:=gd R;have HM:=gd (hM.kept (G.grown none) (by simp));have hF:=gd (V.trans G);have gb:=gd (hx.trans G);have hY:Hid (k<maxLen):=gd (by have:=gi;have:=hl;omega);have hT:wrap64 ((k:Int)+1)=((k+1:Nat):Int):=(by rw[maxLen] at hl;rw[Xn _ ⟨by omega,by omega⟩];rfl);have gm:IntKind.i64.wrap ((d:Int)+1)=((d+1:Nat):Int):=(by rw[IntKind.wrap];simp[IntKind.signed,IntKind.bits];omega);have b0:=H.out 0 _ W1 rfl (Ext.refl _);clear K R ha Q F cv_ hN I hq J hs O hG hM G hD hl
    go_wp2_with (first|(go_at_call 178;(have hz:=hC.out);(with_reducible refine Za hz ?_);clear hz;rintro e w3 ⟨rfl,C⟩;(have b1:=H.out 1 _ w3 rfl C);(have b2:=H.out 2 _ w3 rfl C);(have b3:=H.out 3 _ w3 rfl C);(have b4:=H.out 4 _ w3 rfl C);(have b5:=H.out 5 _ w3 rfl C);(have b6:=H.out 6 _ w3 rfl C);(have b7:=H.out 7 _ w3 rfl C);(have h6:=gd (h7.out.ext C));(have hV:=gd (HE.out.ext (hF.out.trans C))))|(go_at_call 144;(have hz:=hX.out vs[k] _ w3 (d+1) h6.out hy.out hV.out (by omega) (by omega));(rw[show ((d+1:Nat):Int)=(d:Int)+1 from rfl] at hz);(with_reducible refine Za hz ?_);clear hz;rintro e w4 ⟨rfl,Y⟩;(have d0:=H.out 0 _ w4 rfl (C.trans Y));(have h3:=gd (HM.out.kept ((C.trans Y).grown none) (by simp))))|(at_mapUpdate;(refine Zhs _ rfl (.tmp 72) (.tmp 74) (.const (.bool true)) 192 rfl 9 4 Qt underlying192 _ w2.heap.size k D rfl h3.out hY.out _ _ _ rfl rfl hw.out _ [] (plainElem_bool underlying4 true) ?_);intro w5 hH hK))
    ·go_ret;refine ⟨?_,hF.out.trans (C.trans Y)⟩;have h1:=Z.out
     simp_all
    ·have gn:Ext w2 w5:=Ext.grown' (B:=0) (gb.out.trans (C.trans Y)) hK (λb hb=>by cases hb;exact Zd _);have h4:=gd hH;have hv:Hid ((vs.all λj=>jvalid j (d+1))=((vs.drop (k+1)).all λj=>jvalid j (d+1))):=(by have h1:=Z.out;simp_all [Hid]);clear hH hK;go_roundw
     case rel=>exact ⟨k+1,_,hp,by rw[hT],h4.out,hB,hv,gn⟩
     case measure=>rw[hT];simp[intOf];omega
   ·have gh:k=vs.length:=(by omega);subst gh;have hg:=gd (K.out.trans (by simp:_=true));clear K;go_wp2;go_ret;exact ⟨by rw[hg.out];simp[hf.out],V⟩
 ·have gf:decide ((100:Int)<(d:Nat))=true:=by simp;omega
  have hf:=gd hJ;unfold ocells at*;go_enter func144,ntmps144;go_wp2;go_ret;exact ⟨by simp[hf.out],(Ext.refl _).alloc _⟩
theorem Va (k:Int) (b:Bool) (x:Int) (s:ByteArray) (a:Int) (w:World) (d:Nat) (S:Env w) (U:s.size<=16777216) (hk:0<=k) (hb:k<=5) (hd:1<=d) (Y:d<=101)
 (G:∀w',Calls prog 177 #[.agg (vcells k b x s (.slice none 0 0) a).toArray] w' λe R=>e= .returned (.bool true)/\Ext w' R):
 Calls prog 144 #[.agg (vcells k b x s (.slice none 0 0) a).toArray,.int .i64 (d:Nat)] w λe w'=>e= .returned (.bool (decide (d<=100) && Lib.validD s.data.toList))/\Ext w w':=by
 have I:=λw' (K:Env w')=>XL s w' K U;have C:=gd I;have D:=gd G;have Z:decide (k<0)=false:=by simp;omega
 have ha:decide (5<k)=false:=by simp;omega
 have hc:= @run_makeMap prog;clear I G U;by_cases F:d<=100
 ·have Q:decide ((100:Int)<(d:Nat))=false:=by simp;omega
  have A:=gd F;unfold vcells at*;have key:∀J:Bool,Lib.validD s.data.toList=J->Calls prog 144 #[.agg #[.int .i64 k,.bool b,.int .i64 x,.string s,.slice none 0 0,.slice none 0 0,.int .i64 a],.int .i64 (d:Nat)] w λe w'=>e= .returned (.bool J)/\Ext w w':=by
   intro J H;rw[H] at C;clear H;go_enter func144,ntmps144;cases J
   ·go_wp2_with (first|(go_at_call 177;refine (D.out _).mono ?_;rintro e w1 ⟨rfl,h⟩;(have O:=h.boxed 3 _ rfl))|(go_at_call 178;refine (C.out _ ((S.alloc _).ext h)).mono ?_;rintro e w2 ⟨rfl,j⟩))
    go_ret;exact ⟨rfl,(((Ext.refl w).alloc _).trans h).trans j⟩
   ·go_wp2_with (first|(go_at_call 177;refine (D.out _).mono ?_;rintro e w1 ⟨rfl,h⟩;(have O:=h.boxed 3 _ rfl))|(go_at_call 178;refine (C.out _ ((S.alloc _).ext h)).mono ?_;rintro e w2 ⟨rfl,j⟩;(have V:=j.cell (h.boxed 4 _ rfl));(have X:=((Ext.refl w2).alloc (.map #[] 0)).cell (j.cell (h.boxed 5 _ rfl)))))
    refine Xe 1 ?_;rw[rounds_succ];go_wp2;refine Xe 1 ?_;rw[rounds_succ];go_wp2;go_ret;exact ⟨rfl,((((Ext.refl w).alloc _).trans h).trans j).alloc _⟩
  refine (key _ rfl).mono ?_;rintro e w' ⟨rfl,hx⟩;exact ⟨by simp[A.out],hx⟩
 ·have Q:decide ((100:Int)<(d:Nat))=true:=by simp;omega
  have A:=gd F;unfold vcells at*;go_enter func144,ntmps144;go_wp2;go_ret;exact ⟨by simp[A.out],(Ext.refl _).alloc _⟩
theorem Zg4:Lib.validD (⟨#[]⟩:ByteArray).data.toList=true:=by decide
theorem Ir:∀n,ValidSaid n
 |0,_,_,_,_,h,_,_,_,_=>h.elim
 |n+1,j,cs,w,d,h,hok,hE,hd,hd1=>by
  cases j with
  |arr l=>exact Zed n (Ir n) l cs w d h hok hE hd hd1
  |obj ks vs=>exact Zef n (Ir n) ks vs cs w d h hok hE hd hd1
  |null=>
   obtain ⟨a,rfl⟩:=h
   refine (Va 0 false 0 ⟨#[]⟩ a w d hE (by simp[ByteArray.size]) (by omega) (by omega) hd hd1 λw'=>Jx (n+1) .null _ w' ⟨a,rfl⟩).mono ?_
   rintro e w' ⟨rfl,A⟩
   exact ⟨by rw[Zg4,ZfN];simp[jvalid],A⟩
  |bool b=>
   obtain ⟨a,rfl⟩:=h
   refine (Va 1 b 0 ⟨#[]⟩ a w d hE (by simp[ByteArray.size]) (by omega) (by omega) hd hd1 λw'=>Jx (n+1) (.bool b) _ w' ⟨a,rfl⟩).mono ?_
   rintro e w' ⟨rfl,A⟩
   exact ⟨by rw[Zg4,ZfN];simp[jvalid],A⟩
  |int x=>
   obtain ⟨a,rfl⟩:=h
   refine (Va 2 false x ⟨#[]⟩ a w d hE (by simp[ByteArray.size]) (by omega) (by omega) hd hd1 λw'=>Jx (n+1) (.int x) _ w' ⟨a,rfl⟩).mono ?_
   rintro e w' ⟨rfl,A⟩
   exact ⟨by rw[Zg4,ZfN];simp[jvalid],A⟩
  |str s=>
   obtain ⟨a,rfl⟩:=h
   refine (Va 3 false 0 s a w d hE (by simpa [jok] using hok) (by omega) (by omega) hd hd1 λw'=>Jx (n+1) (.str s) _ w' ⟨a,rfl⟩).mono ?_
   rintro e w' ⟨rfl,A⟩
   exact ⟨by simp[jvalid],A⟩
theorem ZbX (j:JV) (cs:List Value) (w:World) (h:RV w j cs) (A:jok j) (D:Env w):
 Calls prog 103 #[.agg cs.toArray] w λe w'=>e= .returned (.int .i64 (if jvalid j 1 then 0 else 22))/\Ext w w':=by
 obtain ⟨n,h⟩:=h;obtain ⟨G,I,J,K,O,Q,R,U,V,X,S,F⟩:=h.shape;subst F;have H:=gd (λw' (C:Ext w w')=>Ir n j _ w' 1 (h.ext C) A (D.ext C) (by omega) (by omega));clear h A D;go_enter func103,ntmps103
 go_wp2_with (go_at_call 144;refine (H.out _ ((Ext.refl w).alloc _)).mono ?_;rintro e w' ⟨rfl,C⟩)
 all_goals go_ret
 all_goals exact ⟨by simp_all,((Ext.refl w).alloc _).trans C⟩
def KeepsT (T:TypeId) (w w':World):Prop:=∀(k:Nat) (cs:Array Value) (t:TypeId) (fr:Nat×Nat),w.heap[k]? =some (Obj.cells cs t fr)->t≠T->t≠5->w'.heap[k]? =some (Obj.cells cs t fr)
theorem J7 {T:TypeId} (C:BT T) (B b:Nat) (bs:List Value) (w:World) (h:Lib.IsBuilder T 5 B b bs w):
 Calls prog 116 #[.pointer (some ⟨b,0,none⟩)] w λe w'=>e= .returned (.tuple #[])/\(Lib.BuilderAt T 5 B b (.pointer (some ⟨b,0,none⟩)) bs w'/\Below B w w'/\KeepsT T w w'):=by
 rcases h with h|h
 ·refine (X9 C b w h.cell0 h.shape h.frozen0).mono ?_;rintro e w' ⟨rfl,rfl⟩;refine ⟨rfl,h.used _,(IB B w).setCell (p:=⟨b,0,none⟩) h.1 _,?_⟩;intro k cs t fr j A F;rw[Below.heap_setCell _ _ _ _ (λe=> ?_)]
  ·exact j
  ·obtain ⟨_,v,D,_⟩:=h;simp at e;subst e;rw[D] at j;simp only[ZQ,Obj.cells.injEq] at j;exact A j.2.1.symm
 ·refine (Jd C b w h.cell0).mono ?_;rintro e w' ⟨rfl,rfl⟩;exact ⟨rfl,h,IB B _,λ_ _ _ _ j _ _=>j⟩
theorem XY {T:TypeId} (hT:BT T) (B b:Nat) (bs:List Value) (c:Int) (w:World) (h:Lib.IsBuilder T 5 B b bs w) (hc:bs.length+1<=140737488355328) (he:B<=w.heap.size):
 Calls prog 69 #[.pointer (some ⟨b,0,none⟩),.int .u8 c] w λe w'=>e= .returned .nilIface/\(Lib.BuilderAt T 5 B b (.pointer (some ⟨b,0,none⟩)) (bs++ [.int .u8 c]) w'/\Below B w w'/\KeepsT T w w'):=by
 obtain ⟨i0,hi,Z,ha,hb⟩:=Yr UI;go_enter func69,ntmps69
 go_wp2_with (go_at_call 116;refine (J7 hT B b bs _ h).mono ?_)
 rintro e w1 ⟨rfl,h1,H,S⟩;obtain ⟨hB,v,D,F,Y⟩:=h1;have c0:w1.cell? ⟨b,0,none⟩=some (.pointer (some ⟨b,0,none⟩)):=by rw[ZN D];rfl
 have c1:w1.cell? ⟨b,1,none⟩=some v:=by rw[ZN D];rfl
 go_wp2_with (at_builtin;refine wpList_append_own _ rfl _ _ 115 rfl B 5 i0 (.int .u8 0) 1 1 underlying115 hi Z ha hb rfl (by decide) _ _ _ rfl (F.alloc _) ⟨w1.heap.size,0,none⟩ 1 1 [.int .u8 c] rfl rfl ?c1 ?c2 ?c3 ?c4 ?c5 ?_)
 case c1=>
  intro j u O
  match j,O with
  |0,O=>simp at O;subst O;simp[Addr.add]
 case c2=>intro u hu;simp at hu;subst hu;rfl
 case c3=>unfold maxLen;omega
 case c4=>omega
 case c5=>have:=H.size;simp;omega
 intro v' w2 G A _;have X:b<w1.heap.size:=by
  rcases YG b w1.heap.size with Q|Q
  ·exact Q
  ·simp[Xh Q] at D
 have I:w2.heap[b]? =some (.cells #[.pointer (some ⟨b,0,none⟩),v] T (0,0)):=by rw[A.block b (by simp;omega) (λe=>Y e.symm),Lib.alloc_old w1 _ b X];exact D
 have d0:w2.cell? ⟨b,0,none⟩=some (.pointer (some ⟨b,0,none⟩)):=by rw[ZN I];rfl
 have d1:w2.cell? ⟨b,1,none⟩=some v:=by rw[ZN I];rfl
 have f1:w2.frozen? ⟨b,1,none⟩=false:=ZH I 1;obtain ⟨g,cap,rfl⟩:∃g cap,v'= .slice (some ⟨g,0,none⟩) (bs.length+1) cap:=by
  rcases G.2 with ⟨_,h0⟩|⟨g,cap,hd,hv,_⟩
  ·omega
  ·exact ⟨g,cap,hv⟩
 go_wp2;go_ret;refine ⟨rfl,?_,?_,?_⟩
 ·exact Lib.BuilderAt.put (T:=T) (e:=5) hB I (bs':=bs++ [.int .u8 c]) (by simpa using G) hT.ne
 ·exact ((H.alloc (by have:=H.size;omega) _).grown A (by have:=H.size;simp;omega) (λk R=>(F.lt k R).1)).setCell (p:=⟨b,1,none⟩) hB _
 ·intro k cs t fr R J K;have C:=S k cs t fr R J K;have U:k≠b:=by rintro rfl;rw[D] at C;simp only[ZQ,Obj.cells.injEq] at C;exact J C.2.1.symm
  have V:k<w1.heap.size:=(Ze.1 C).1;rw[Below.heap_setCell _ _ _ _ (λe=>U (by simpa using e))];rw[A.block k (by simp;omega) (λe=>Lib.ownBlock_ne F C K e.symm),Lib.alloc_old w1 _ k V];exact C
theorem Vm {T:TypeId} (hT:BT T) (B b:Nat) (bs:List Value) (s:ByteArray) (w:World) (h:Lib.IsBuilder T 5 B b bs w) (hb:bs.length+s.size<=140737488355328) (hd:B<=w.heap.size):
 Calls prog 145 #[.pointer (some ⟨b,0,none⟩),.string s] w λe w'=>e= .returned (.tuple #[.int .i64 s.size,.nilIface])/\(Lib.BuilderAt T 5 B b (.pointer (some ⟨b,0,none⟩)) (bs++Lib.strCells s) w'/\Below B w w'/\KeepsT T w w'):=by
 obtain ⟨i0,hi,Y,Z,ha⟩:=Yr UI;go_enter func145,ntmps145
 go_wp2_with (go_at_call 116;refine (J7 hT B b bs _ h).mono ?_)
 rintro e w1 ⟨rfl,h1,H,Q⟩;obtain ⟨hB,v,C,D,V⟩:=h1;have c0:w1.cell? ⟨b,0,none⟩=some (.pointer (some ⟨b,0,none⟩)):=by rw[ZN C];rfl
 have c1:w1.cell? ⟨b,1,none⟩=some v:=by rw[ZN C];rfl
 go_wp2_with (at_builtin;refine Lib.wpList_append_own_string _ rfl _ _ 115 9 rfl B 5 i0 underlying115 underlying9 hi Y Z ha _ _ _ rfl D s rfl ?c3 ?c4 ?c5 ?_)
 case c3=>unfold maxLen;omega
 case c4=>omega
 case c5=>have:=H.size;omega
 intro v' w2 F j _;have U:b<w1.heap.size:=by
  rcases YG b w1.heap.size with K|K
  ·exact K
  ·simp[Xh K] at C
 have G:w2.heap[b]? =some (.cells #[.pointer (some ⟨b,0,none⟩),v] T (0,0)):=by rw[j.block b U (λe=>V e.symm)];exact C
 have d0:w2.cell? ⟨b,0,none⟩=some (.pointer (some ⟨b,0,none⟩)):=by rw[ZN G];rfl
 have d1:w2.cell? ⟨b,1,none⟩=some v:=by rw[ZN G];rfl
 have f1:w2.frozen? ⟨b,1,none⟩=false:=ZH G 1;obtain ⟨ao,n',cap,rfl⟩:∃ao n' cap,v'= .slice ao n' cap:=by
  rcases F.2 with ⟨X,_⟩|⟨g,cap,hc,X,_⟩
  ·exact ⟨_,_,_,X⟩
  ·exact ⟨_,_,_,X⟩
 go_wp2
 go_ret2
 refine ⟨rfl,?_,?_,?_⟩
 ·exact Lib.BuilderAt.put (T:=T) (e:=5) hB G (bs':=bs++Lib.strCells s) (by simpa [Lib.strCells_length] using F) hT.ne
 ·exact (H.grown j (by have:=H.size;omega) (λk O=>(D.lt k O).1)).setCell (p:=⟨b,1,none⟩) hB _
 ·intro k cs t fr O I J;have A:=Q k cs t fr O I J;have R:k≠b:=by rintro rfl;rw[C] at A;simp only[ZQ,Obj.cells.injEq] at A;exact I A.2.1.symm
  have S:k<w1.heap.size:=(Ze.1 A).1;rw[Below.heap_setCell _ _ _ _ (λe=>R (by simpa using e))];rw[j.block k S (λe=>Lib.ownBlock_ne D A J e.symm)];exact A
abbrev WB (B b:Nat) (bs:List Value) (w:World):Prop:=Lib.IsBuilder 161 5 B b bs w
theorem Zfc (s:ByteArray) (B b:Nat) (bs:List Value) (w:World) (U:Env w) (J:s.size<=16777216) (S:WB B b bs w) (A:B<=w.heap.size) (X:bs.length+(quoteS s).1.size<=140737488355328):
 Calls prog 147 #[.pointer (some ⟨b,0,none⟩),.string s] w λe w'=>e= .returned (.tuple #[])/\(WB B b (bs++Lib.byteCells (quoteS s).1.data.toList) w'/\Below B w w'/\KeepsT 161 w w'):=by
 have I:=ZdN s w U J;generalize V:quoteS s=Q at*;clear V J;obtain ⟨q,e⟩:=Q;have K:=gd I;clear I;go_enter func147,ntmps147
 go_wp2_with (first|(go_at_call 180;refine K.out.mono ?_;rintro e w1 ⟨rfl,j⟩;(have D:=YT S j);(have C:=Zl A j.size))|(go_at_call 145;refine (Vm Xv _ _ _ _ _ D X C).mono ?_;rintro e w2 ⟨rfl,F,H,G⟩))
 ((try simp only[Exit.inBlock,Exit.then]);refine bodyPost_end (results_none rfl _ _ _) rfl ?_);exact ⟨rfl,Or.inr F,(Xb j A).trans H,λk cs t fr h O R=>G k cs t fr (j.heap h) O R⟩
theorem Zfb (s:ByteArray) (B b:Nat) (bs:List Value) (w:World) (F:Env w) (H:s.size<=16777216) (D:WB B b bs w) (h:B<=w.heap.size) (G:bs.length+(quoteS s).1.size<=140737488355328):
 Calls prog 147 #[.pointer (some ⟨b,0,none⟩),.string s] w λe w'=>e= .returned (.tuple #[])/\(WB B b (bs++Lib.byteCells (quoteS s).1.data.toList) w'/\Below B w w'):=
 (Zfc s B b bs w F H D h G).mono λ_ _ ⟨j,A,C,_⟩=>⟨j,A,C⟩
theorem ZbZ:jtext .null= [110,117,108,108]:=by simp[jtext]
theorem KQ (b:Bool):jtext (.bool b)=if b then [116,114,117,101] else [102,97,108,115,101]:=by simp[jtext]
theorem Es (n:Int):jtext (.int n)=Lib.itoa n:=by simp[jtext]
theorem Et (s:ByteArray):jtext (.str s)=quoteL s.data.toList:=by simp[jtext]
theorem KA (x:Bool) (w:World):Calls prog 146 #[.bool x] w λe w'=>e= .returned (.string (str (jtext (.bool x))))/\w'=w:=by
 have h:Calls prog 179 #[.bool x] w λe w'=>e= .returned (.string (str (jtext (.bool x))))/\w'=w:=by
  go_enter func179,ntmps179;cases x
  ·go_wp2;go_ret;exact ⟨by rw[KQ];rfl,rfl⟩
  ·go_wp2;go_ret;exact ⟨by rw[KQ];rfl,rfl⟩
 go_enter func146,ntmps146
 go_wp2_with (go_at_call 179;refine h.mono ?_;rintro e w1 ⟨rfl,rfl⟩)
 go_ret;exact ⟨rfl,rfl⟩
def ValueSaid (n:Nat):Prop:=∀(j:JV) (cs:List Value) (w0 w:World) (B b:Nat) (bs:List Value) (d:Nat),RVn n w0 j cs->jok j->jvalid j d=true->Env w0->Ext w0 w->w0.heap.size<=B->
 WB B b bs w->B<=w.heap.size->bs.length+(jtext j).length<=140737488355328->
 Calls prog 104 #[.pointer (some ⟨b,0,none⟩),.agg cs.toArray] w λe w'=>e= .returned (.tuple #[])/\(WB B b (bs++Lib.byteCells (jtext j)) w'/\Below B w w')
theorem Vb (n:Nat) (j:JV) (cs:List Value) (w0 w:World) (B b:Nat) (bs:List Value) (d:Nat) (C:RVn n w0 j cs) (G:jok j) (K:jvalid j d=true) (hE:Env w0) (hx:Ext w0 w) (h0:w0.heap.size<=B)
 (Y:WB B b bs w) (Q:B<=w.heap.size) (V:bs.length+(jtext j).length<=140737488355328) (hj:∀l,j≠ .arr l) (ha:∀ks vs,j≠ .obj ks vs):
 Calls prog 104 #[.pointer (some ⟨b,0,none⟩),.agg cs.toArray] w λe w'=>e= .returned (.tuple #[])/\(WB B b (bs++Lib.byteCells (jtext j)) w'/\Below B w w'):=by
 have S:=hE.ext hx;cases n with
 |zero=>exact C.elim
 |succ n=>
  obtain ⟨a,C⟩:=C;have O:=λo=>YT Y ((Ext.refl w).alloc o);have h:∀o,B<=(w.alloc o).heap.size:=λo=>Zl Q ((Ext.refl w).alloc o).size;have F:∀o,Below B w (w.alloc o):=λo=>Xb ((Ext.refl w).alloc o) Q;cases j with
  |arr l=>exact absurd rfl (hj l)
  |obj ks vs=>exact absurd rfl (ha ks vs)
  |null=>
   subst C;rw[ZbZ] at*;unfold vcells;go_enter func104,ntmps104
   go_wp2_with (go_at_call 145;refine (Xz Xv _ _ _ _ _ (O _) (by exact V) (h _)).mono ?_;rintro e w2 ⟨rfl,A,D⟩)
   ((try simp only[Exit.inBlock,Exit.then]);refine bodyPost_end (results_none rfl _ _ _) rfl ?_);exact ⟨rfl,A,(F _).trans D⟩
  |bool x=>
   subst C;unfold vcells;have X:=gd (KA x);generalize jtext (.bool x)=tx at*;clear G K;go_enter func104,ntmps104
   go_wp2_with fail
   go_region_with (first|(go_at_call 146;refine (X.out _).mono ?_;rintro e w1 ⟨rfl,rfl⟩)|(go_at_call 145;refine (Xz Xv _ _ _ _ _ (YT Y ((Ext.refl w).alloc _).drew) (by exact V) (h _)).mono ?_;rintro e w2 ⟨rfl,A,D⟩))
   all_goals ((try simp only[Exit.inBlock]);refine bodyPost_end (results_none rfl _ _ _) rfl ?_)
   all_goals exact ⟨rfl,A,(F _).drew.trans D⟩
  |int x=>
   subst C;unfold vcells;have X:=gd (λw' I=>VX x w' I (by simpa [jok,i64ok] using G));rw[Es] at*;have U:itoaS x=str (Lib.itoa x):=rfl;rw[U] at X;clear U;generalize Lib.itoa x=tx at*;clear G K;go_enter func104,ntmps104
   go_wp2_with fail
   go_region_with (first|(go_at_call 72;refine (X.out _ (S.alloc _).drew).mono ?_;rintro e w1 ⟨rfl,J⟩)|(go_at_call 145;refine (Xz Xv _ _ _ _ _ (YT Y (((Ext.refl w).alloc _).drew.trans J)) (by exact V) (Zl (h _) J.size)).mono ?_;rintro e w2 ⟨rfl,A,D⟩))
   all_goals ((try simp only[Exit.inBlock]);refine bodyPost_end (results_none rfl _ _ _) rfl ?_)
   all_goals exact ⟨rfl,A,(F _).drew.trans ((Xb J (h _)).trans D)⟩
  |str s=>
   subst C;unfold vcells;have hQ:quoteS s=(str (jtext (.str s)),0):=(by unfold quoteS;rw[Et,Zi];rw[jvalid] at K;simp at K;exact K.2);have H:=λw' I Z R=>Zfb s B b bs w' I (by simpa [jok] using G) Z R (by rw[hQ];exact V);rw[hQ] at H;have HS:=gd H;clear H hQ G K V;go_enter func104,ntmps104
   go_wp2_with (go_at_call 147;refine (HS.out _ (S.alloc _) (O _) (h _)).mono ?_;rintro e w2 ⟨rfl,A,D⟩)
   ((try simp only[Exit.inBlock,Exit.then]);refine bodyPost_end (results_none rfl _ _ _) rfl ?_);exact ⟨rfl,A,(F _).trans D⟩
theorem Zen: [Value.int IntKind.u8 44]=Lib.byteCells [44]:=rfl
theorem Zgz: [Value.int IntKind.u8 93]=Lib.byteCells [93]:=rfl
theorem Vq (L:List (List UInt8)) (k:Nat) (h:k<L.length):commas (L.take (k+1))=(if k=0 then [] else commas (L.take k)++ [44])++L[k]:=by
 rw[Zy h,UG];by_cases j:k=0
 ·subst j;simp
 ·have:L.take k≠ []:=by
   intro A;have:=Zo List.length A;rw[YR] at this;simp at this;rcases this with h|h
   ·exact j h
   ·subst h;simp at*
  rw[Zf this,Zf j];simp
theorem Ed (L:List (List UInt8)):∀k,k<=L.length->(commas (L.take k)).length<=(commas L).length:=by
 have step:∀k,k<L.length->(commas (L.take k)).length<=(commas (L.take (k+1))).length:=by
  intro k h;rw[Vq L k h];by_cases A:k=0
  ·subst A;simp[commas]
  ·rw[Zf A];simp only[Zj];omega
 have j:∀n k,k+n=L.length->(commas (L.take k)).length<=(commas L).length:=by
  intro n
  induction n with
  |zero=>intro k h;rw[ZC (by omega)];exact Zd _
  |succ n ih=>intro k h;exact Zl (step k (by omega)) (ih (k+1) (by omega))
 intro k h;exact j (L.length - k) k (by omega)
theorem Ze9 (n:Nat) (ih:ValueSaid n) (l:List JV) (A:Option Addr) (c:Nat) (css:List (List Value)) (w0 w:World) (B b:Nat) (bs:List Value) (d:Nat) (gc:css.length=l.length)
 (hr:RSl w0 7 (.slice A l.length c) l.length css.flatten) (hm:∀(i:Nat) (j:JV) (c:List Value),l[i]? =some j->css[i]? =some c->RVn n w0 j c) (hJ:∀j∈l,jok j) (hv:∀j∈l,jvalid j d=true) (hE:Env w0) (hx:Ext w0 w) (h0:w0.heap.size<=B)
 (hB:WB B b bs w) (hy:B<=w.heap.size) (hl:bs.length+(commas (l.map jtext)).length+2<=140737488355328):
 Calls prog 148 #[.pointer (some ⟨b,0,none⟩),.int .u8 91,.int .u8 93,.slice A l.length c,.func (.func 104) #[.pointer (some ⟨b,0,none⟩)] #[]] w
  λe w'=>e= .returned (.tuple #[])/\(WB B b (bs++Lib.byteCells (91::(commas (l.map jtext)++ [93]))) w'/\Below B w w'):=by
 obtain ⟨_,A',c',hS,ge,h6,_,_⟩:=id hr;injection hS with h1 h2 h3;subst h1 h3;have hH:∀c∈css,c.length=7:=by intro c hc;obtain ⟨i,hi,rfl⟩:=List.mem_iff_getElem.1 hc;exact (hm i l[i] css[i] (Zc (by omega)) (Zc hi)).len
 have hQ:=gd hH;have ht:=gd ih;have hP:=gd hm;have hR:=gd hJ;have HV:=gd hv;have HL:=gd hl;have hD:∀k,k<=(l.map jtext).length->bs.length+(commas ((l.map jtext).take k)).length+2<=140737488355328:=λk hk=>by have:=Ed _ k hk;omega
 have hq:=gd hD;clear hH ih hm hJ hv hD hl;go_enter func148,ntmps148
 go_wp2_with (go_at_call 69;refine (Xr Xv _ _ _ _ _ hB (by have:=HL.out;omega) hy).mono ?_;rintro e w1 ⟨rfl,hT,h9⟩)
 go_loopw [19] (λi wr=>∃k:Nat,k<=l.length/\i= .int .i64 k/\WB B b (bs++Lib.byteCells (91::commas ((l.map jtext).take k))) wr/\Below B w wr) (λi _=>l.length - (intOf i).toNat)
 case atStart=>exact ⟨0,Zt _,rfl,hT,h9⟩
 case round=>
  obtain ⟨k,hk,rfl,U,J⟩:=hrel;have hN:Ext w0 wr:=hx.then (Xb J h0);have hg:=Zl hy J.size;by_cases I:k<l.length
  ·have hC:k<css.length:=(by omega);have V:=hP.out k l[k] css[k] (Zc I) (Zc hC);obtain ⟨ad,cap,hA,h⟩:=RSl.elem (hr.ext hN) (by omega) hQ.out k css[k] (Zc hC);injection hA with hA1 hA2 hA3;subst hA1;clear hA2 hA3;rw[Y7] at h;obtain ⟨x0,x1,x2,x3,x4,x5,x6,y4,y5,y6,x7,hc⟩:=V.shape;rw[hc] at h;have hV:=h 0 _ rfl;have hW:=h 1 _ rfl;have hX:=h 2 _ rfl;have hY:=h 3 _ rfl;have hZ:=h 4 _ rfl;have h4:=h 5 _ rfl;have h5:=h 6 _ rfl;rw[add_zero] at hV;have hb:∀i,0<i->(ad.add (k*7)).add i=⟨(ad.add (k*7)).block,(ad.add (k*7)).off+i,none⟩:=λi hi=>Zf (by omega);rw[hb _ (by omega)] at hW hX hY hZ h4 h5;clear hb;rw[hc] at V;clear h;have hL:wrap64 ((k:Int)+1)=((k+1:Nat):Int):=(by rw[maxLen] at h6;rw[Xn _ ⟨by omega,by omega⟩];rfl);have hu:=gd V;have hd:=hR.out l[k] (ZO _);have hK:=HV.out l[k] (ZO _);have X:=Vq (l.map jtext) k (by simpa using I);have O:=hq.out (k+1) (by rw[ZS];exact I);rw[List.getElem_map] at X;rw[X] at O;clear V;have hp:=gd O;have hs:=gd X;have ha:=gd hd;have hw:=gd hK;have Z:∀o,Ext wr (wr.alloc o):=λo=>(Ext.refl wr).alloc o;have hh:∀o,Below B wr (wr.alloc o):=λo=>Xb (Z o) hg;have hf:∀o,B<=(wr.alloc o).heap.size:=λo=>Zl hg (Z o).size;clear X O hd hK;have hI:l.length - (intOf (Value.int IntKind.i64 (wrap64 ((k:Int)+1)))).toNat<l.length - (intOf (Value.int IntKind.i64 (k:Int))).toNat:=(by rw[hL];exact Nat.sub_lt_sub_left I (YY k));have hM:=Zo (Value.int .i64) hL;have hF:k+1<=l.length:=I;rcases YP k with C|C
   ·have h7:decide (0<k)=false:=Ya (by rw[C];exact Nat.lt_irrefl 0);have D:commas (List.take (k+1) (List.map jtext l))=jtext l[k]:=(by rw[hs.out,Zi C];rfl);have Q:commas (List.take k (List.map jtext l))= []:=(by have:∀m,m=0->commas (List.take m (List.map jtext l))= []:=(by rintro m rfl;rfl);exact this k C);have K:bs.length+(jtext l[k]).length+2<=140737488355328:=(by have:=hp.out;rw[Zi C] at this;exact this);have Y:Hid ((bs++Lib.byteCells (91::commas (List.take k (List.map jtext l)))).length+(jtext l[k]).length<=140737488355328):=(by unfold Hid;rw[Q,Zj,Yt];simp only[Zr,ZF];omega);have gb:=gd Y;have he:=gd D;have hO:=gd Q;clear C D Q K
    go_wp2_with (go_at_call 104;refine (ht.out l[k] _ w0 _ B b _ d hu.out ha.out hw.out hE (hN.alloc _) h0 (YT U (Z _)) (hf _) Y.out).mono ?_;rintro e w2 ⟨rfl,H,G⟩)
    have R:WB B b (bs++Lib.byteCells (91::commas ((l.map jtext).take (k+1)))) w2:=(by rw[he.out];have h2:=H;rw[hO.out,Yl,<-ZJ] at h2;exact h2);have ho:=J.trans ((hh _).trans G);go_roundw
    case rel=>exact ⟨k+1,hF,hM,R,ho⟩
    case measure=>exact hI
   ·have h7:decide (0<k)=true:=Yg C;have hn:k≠0:=Nat.pos_iff_ne_zero.1 C;have D:commas (List.take (k+1) (List.map jtext l))=commas (List.take k (List.map jtext l))++ [44]++jtext l[k]:=(by rw[hs.out,Zf hn]);have K:bs.length+(commas (List.take k (List.map jtext l))++ [44]++jtext l[k]).length+2<=140737488355328:=(by have:=hp.out;rw[Zf hn] at this;exact this);rw[Zj,Zj] at K;simp only[Zr,ZF] at K;have Y:Hid ((bs++Lib.byteCells (91::commas (List.take k (List.map jtext l)))++ [Value.int .u8 44]).length+(jtext l[k]).length<=140737488355328):=(by unfold Hid;rw[Zj,Zj,Yt];simp only[Zr,ZF];omega);have hj:Hid ((bs++Lib.byteCells (91::commas (List.take k (List.map jtext l)))).length+1<=140737488355328):=(by unfold Hid;rw[Zj,Yt];simp only[Zr];omega);have he:=gd D;clear C D K hn
    go_wp2_with (first|(go_at_call 69;refine (XY Xv _ _ _ _ _ (YT U (Z _)) hj.out (hf _)).mono ?_;rintro e w2 ⟨rfl,H,G,h8⟩;(have hz:=Zl (hf _) G.size);(have F:=h8 _ _ _ _ (Zh wr _) (by decide) (by decide));(have gf:=(Zb _ _ 0 _ _ _ F));(have gg:=(Zb _ _ 1 _ _ _ F));(have gh:=(Zb _ _ 2 _ _ _ F));(have gi:=(Zb _ _ 3 _ _ _ F));(have gj:=(Zb _ _ 4 _ _ _ F));(have gk:=(Zb _ _ 5 _ _ _ F));(have gm:=(Zb _ _ 6 _ _ _ F)))|(go_at_call 104;refine (ht.out l[k] _ w0 _ B b _ d hu.out ha.out hw.out hE (hx.then (Xb (J.trans ((hh _).trans G)) h0)) h0 (Or.inr H) hz Y.out).mono ?_;rintro e w3 ⟨rfl,hU,ga⟩))
    have R:WB B b (bs++Lib.byteCells (91::commas ((l.map jtext).take (k+1)))) w3:=(by rw[he.out];have h2:=hU;rw[Yl,Yl,Zen,<-ZJ,<-ZJ] at h2;simpa using h2);have ho:=J.trans ((hh _).trans (G.trans ga));go_roundw
    case rel=>exact ⟨k+1,hF,hM,R,ho⟩
    case measure=>exact hI
  ·have hG:(l.map jtext).take k=l.map jtext:=ZC (by rw[ZS];exact Nat.not_lt.1 I);rw[hG] at U;have hj:Hid ((bs++Lib.byteCells (91::commas (l.map jtext))).length+1<=140737488355328):=(by unfold Hid;rw[Zj,Yt];have:=HL.out;simp only[Zr];omega);clear hq HL hG
   go_wp2_with (go_at_call 69;refine (Xr Xv _ _ _ _ _ U hj.out hg).mono ?_;rintro e w2 ⟨rfl,H,G⟩)
   ((try simp only[Exit.inBlock,Exit.then]);refine bodyPost_end (results_none rfl _ _ _) rfl ?_);refine ⟨rfl,?_,J.trans G⟩;rw[Zgz,Yl,<-ZJ] at H;exact H
theorem Zeg (n:Nat) (ih:ValueSaid n) (l:List JV) (cs:List Value) (w0 w:World) (B b:Nat) (bs:List Value) (d:Nat) (Q:RVn (n+1) w0 (.arr l) cs) (h:jok (.arr l)) (H:jvalid (.arr l) d=true) (Z:Env w0) (hx:Ext w0 w) (X:w0.heap.size<=B)
 (Y:WB B b bs w) (j:B<=w.heap.size) (O:bs.length+(jtext (.arr l)).length<=140737488355328):
 Calls prog 104 #[.pointer (some ⟨b,0,none⟩),.agg cs.toArray] w λe w'=>e= .returned (.tuple #[])/\(WB B b (bs++Lib.byteCells (jtext (.arr l))) w'/\Below B w w'):=by
 obtain ⟨a,v,css,rfl,K,U,F⟩:=Q;obtain ⟨_,A,c,rfl,hb,ha,_,_⟩:=id U;rw[G7] at h;rw[Uw] at H;rw[UR] at O|-;simp only[ZU,Yn] at H;have G:bs.length+(commas (l.map jtext)).length+2<=140737488355328:=by simp only[Zr,Zj,ZF] at O;omega
 have V:=gd (λw' (R:Ext w0 w') I C=>Ze9 n ih l A c css w0 w' B b bs (d+1) K U F h H.2 Z R X I C G);have D:∀o,Below B w (w.alloc o):=λo=>Xb ((Ext.refl w).alloc o) j;clear h H F O G ih;unfold vcells;go_enter func104,ntmps104
 go_wp2_with (go_at_call 148;refine (V.out _ (hx.alloc _) (YT Y ((Ext.refl w).alloc _)) (Zl j ((Ext.refl w).alloc _).size)).mono ?_;rintro e w2 ⟨rfl,J,S⟩)
 ((try simp only[Exit.inBlock,Exit.then]);refine bodyPost_end (results_none rfl _ _ _) rfl ?_);exact ⟨rfl,J,(D _).trans S⟩
theorem Zgy: [Value.int IntKind.u8 58]=Lib.byteCells [58]:=rfl
theorem ZfP: [Value.int IntKind.u8 125]=Lib.byteCells [125]:=rfl
theorem Zds (k:ByteArray) (t:List UInt8):(keyed k t).length=(quoteL k.data.toList).length+1+t.length:=by
 rw[keyed,Zj,Zr];omega
theorem KU (n:Nat) (ih:ValueSaid n) (j:JV) (key:ByteArray) (cv:List Value) (at_:Int) (w0 w:World) (B b:Nat) (bs:List Value) (d:Nat) (H:RVn n w0 j cv) (V:jok j) (hv:jvalid j d=true) (hk:key.size<=16777216/\Lib.validD key.data.toList=true) (hE:Env w0) (hx:Ext w0 w) (h0:w0.heap.size<=B)
 (hB:WB B b bs w) (G:B<=w.heap.size) (hl:bs.length+(keyed key (jtext j)).length<=140737488355328):
 Calls prog 150 #[.pointer (some ⟨b,0,none⟩),.agg (mcell (key,cv,at_)).toArray] w λe w'=>e= .returned (.tuple #[])/\(WB B b (bs++Lib.byteCells (keyed key (jtext j))) w'/\Below B w w'):=by
 rw[Zds] at hl;have hi:=hE.ext hx;obtain ⟨x0,x1,x2,x3,x4,x5,x6,y4,y5,y6,x7,hc⟩:=H.shape;subst hc;obtain ⟨O,hO⟩:∃O,Obj.cells #[Value.string key,.int .i64 x0,.bool x1,.int .i64 x2,.string x3,.slice x4 x5 x6,.slice y4 y5 y6,.int .i64 x7,.int .i64 at_] 56=O:=⟨_,rfl⟩;have D:Ext w (w.alloc O):=(Ext.refl w).alloc O;have K:Below B w (w.alloc O):=Xb D G;have hq:quoteS key=(str (quoteL key.data.toList),0):=by unfold quoteS;rw[Zi hk.2]
 have X:(str (quoteL key.data.toList)).size=(quoteL key.data.toList).length:=by rw[<-Zn,Yz]
 have A:=Zfc key B b bs (w.alloc O) (hi.ext D) hk.1 (YT hB D) (Zl G D.size) (by rw[hq];show bs.length+(str (quoteL key.data.toList)).size<=_;rw[X];omega);rw[hq] at A;dsimp only at A;rw[Yz] at A;have hj:(w.alloc O).heap[w.heap.size]? =some O:=Zh w _;have F:Hid ((bs++Lib.byteCells (quoteL key.data.toList)).length+1<=140737488355328/\(bs++Lib.byteCells (quoteL key.data.toList)++ [Value.int .u8 58]).length+(jtext j).length<=140737488355328):=by
  refine ⟨?_,?_⟩
  ·rw[Zj,Yt];omega
  ·rw[Zj,Zj,Yt];simp only[Zr,ZF];omega
 have R:keyed key (jtext j)=quoteL key.data.toList++([58]++jtext j):=rfl;have Q:∀w',WB B b (bs++Lib.byteCells (quoteL key.data.toList)++ [Value.int .u8 58]++Lib.byteCells (jtext j)) w'->WB B b (bs++Lib.byteCells (keyed key (jtext j))) w':=by intro w' h;rw[R,ZJ,ZJ,<-Zgy,<-Yl,<-Yl];exact h
 have Z:=gd Q;have he:=gd A;have ha:=gd ih;have hd:=gd H;have hb:=gd V;have HV:=gd hv;clear Q R A ih H V hv X hq hl hk;subst hO;unfold mcell;go_enter func150,ntmps150
 go_wp2_with (first|(go_at_call 147;refine he.out.mono ?_;rintro e w1 ⟨rfl,hf,I,S⟩;(have hm:=S _ _ _ _ hj (by decide) (by decide));(have Y:=Zl (Zl G D.size) I.size))|(go_at_call 69;refine (XY Xv _ _ _ _ _ hf F.out.1 Y).mono ?_;rintro e w2 ⟨rfl,hg,J,U⟩;(have hn:=Zl Y J.size);(have C:=U _ _ _ _ hm (by decide) (by decide));(have hp:=(Zb _ _ 1 _ _ _ C));(have hr:=(Zb _ _ 2 _ _ _ C));(have hs:=(Zb _ _ 3 _ _ _ C));(have ht:=(Zb _ _ 4 _ _ _ C));(have hu:=(Zb _ _ 5 _ _ _ C));(have hw:=(Zb _ _ 6 _ _ _ C));(have hy:=(Zb _ _ 7 _ _ _ C)))|(go_at_call 104;refine (ha.out j _ w0 _ B b _ d hd.out hb.out HV.out hE (hx.then (Xb ((K.trans I).trans J) h0)) h0 (Or.inr hg) hn F.out.2).mono ?_;rintro e w3 ⟨rfl,hh,ho⟩))
 ((try simp only[Exit.inBlock,Exit.then]);refine bodyPost_end (results_none rfl _ _ _) rfl ?_);exact ⟨rfl,Z.out _ hh,((K.trans I).trans J).trans ho⟩
theorem Zfa (n:Nat) (ih:ValueSaid n) (ks:List ByteArray) (l:List JV) (A:Option Addr) (c:Nat) (ms:List (ByteArray×List Value×Int)) (w0 w:World) (B b:Nat) (bs:List Value) (d:Nat) (gt:ms.length=l.length) (hb:ms.map Prod.fst=ks) (gm:ks.length=l.length) (hN:∀k∈ks,k.size<=16777216/\Lib.validD k.data.toList=true)
 (hr:RSl w0 9 (.slice A l.length c) l.length (ms.map mcell).flatten) (hs:∀(i:Nat) (j:JV) (m:ByteArray×List Value×Int),l[i]? =some j->ms[i]? =some m->RVn n w0 j m.2.1) (hR:∀j∈l,jok j) (hv:∀j∈l,jvalid j d=true) (hE:Env w0) (hx:Ext w0 w) (h0:w0.heap.size<=B)
 (hB:WB B b bs w) (hH:B<=w.heap.size) (hl:bs.length+(commas (List.zipWith keyed ks (l.map jtext))).length+2<=140737488355328):
 Calls prog 149 #[.pointer (some ⟨b,0,none⟩),.int .u8 123,.int .u8 125,.slice A l.length c,.func (.func 150) #[.pointer (some ⟨b,0,none⟩)] #[]] w
  λe w'=>e= .returned (.tuple #[])/\(WB B b (bs++Lib.byteCells (123::(commas (List.zipWith keyed ks (l.map jtext))++ [125]))) w'/\Below B w w'):=by
 obtain ⟨_,A',c',h7,gs,gi,_,_⟩:=id hr;injection h7 with h1 h2 h3;subst h1 h3;have hP:∀c∈ms.map mcell,c.length=9:=by intro c hc;obtain ⟨m,hm,rfl⟩:=Yq.1 hc;obtain ⟨i,hi,rfl⟩:=List.mem_iff_getElem.1 hm;have:=(hs i l[i] ms[i] (Zc (by omega)) (Zc hi)).len;simp[mcell,this]
 have hW:(List.zipWith keyed ks (l.map jtext)).length=l.length:=by rw[List.length_zipWith,ZS,gm,Nat.min_self]
 have h5:=gd hP;have hC:=gd ih;have hY:=gd hs;have h6:=gd hR;have HV:=gd hv;have HL:=gd hl;have h4:=gd hN;have hZ:=gd hb;have hh:=gd hW;have hK:∀k,k<=(List.zipWith keyed ks (l.map jtext)).length->bs.length+(commas ((List.zipWith keyed ks (l.map jtext)).take k)).length+2<=140737488355328:=λk hk=>by have:=Ed _ k hk;omega
 have hy:=gd hK;clear hP ih hs hR hv hK hl hN hb hW;go_enter func149,ntmps149
 go_wp2_with (go_at_call 69;refine (Xr Xv _ _ _ _ _ hB (by have:=HL.out;omega) hH).mono ?_;rintro e w1 ⟨rfl,h8,gn⟩)
 go_loopw [19] (λi wr=>∃k:Nat,k<=l.length/\i= .int .i64 k/\WB B b (bs++Lib.byteCells (123::commas ((List.zipWith keyed ks (l.map jtext)).take k))) wr/\Below B w wr) (λi _=>l.length - (intOf i).toNat)
 case atStart=>exact ⟨0,Zt _,rfl,h8,gn⟩
 case round=>
  obtain ⟨k,hk,rfl,Z,O⟩:=hrel;have hV:Ext w0 wr:=hx.then (Xb O h0);have hn:=Zl hH O.size;by_cases K:k<l.length
  ·have hp:k<ms.length:=(by omega);have gk:k<ks.length:=(by omega);have J:=hY.out k l[k] ms[k] (Zc K) (Zc hp);obtain ⟨ad,cap,hA,h⟩:=RSl.elem (hr.ext hV) (by omega) h5.out k (mcell ms[k]) (by rw[ZT,Zc hp];rfl);injection hA with hA1 hA2 hA3;subst hA1;clear hA2 hA3;rw[Y7] at h;have H:ks[k]=ms[k].1:=(by have h1:(ms.map Prod.fst)[k]? =ks[k]?:=(by rw[hZ.out]);rw[ZT,Zc hp,Zc gk] at h1;injection h1 with h1;exact h1.symm);have X:=h4.out ks[k] (ZO _);have S:=Vq (List.zipWith keyed ks (l.map jtext)) k (by rw[hh.out];exact K);rw[List.getElem_zipWith,List.getElem_map] at S;obtain ⟨M,hI⟩:∃M,ms[k]=M:=⟨_,rfl⟩;rw[hI] at h J H;obtain ⟨key,cv,at_⟩:=M;dsimp only at H J;rw[H] at X S;have hO:=J.len;obtain ⟨x0,x1,x2,x3,x4,x5,x6,y4,y5,y6,x7,hc⟩:=J.shape;subst hc;obtain ⟨gq,cv_,gr⟩:=Vv hO h;have ga:=cv_ 0 _ rfl;have gb:=cv_ 1 _ rfl;have gc:=cv_ 2 _ rfl;have ge:=cv_ 3 _ rfl;have gf:=cv_ 4 _ rfl;have gg:=cv_ 5 _ rfl;have gh:=cv_ 6 _ rfl;simp only[Yf,Nat.reduceAdd] at ga gb gc ge gf gg gh;clear h cv_ hO H hI;have hT:wrap64 ((k:Int)+1)=((k+1:Nat):Int):=(by rw[maxLen] at gi;rw[Xn _ ⟨by omega,by omega⟩];rfl);have hF:=gd J;have hD:=gd X;have hf:=h6.out l[k] (ZO _);have hS:=HV.out l[k] (ZO _);have R:=hy.out (k+1) (by rw[hh.out];exact K);rw[S] at R;clear J;have hw:=gd R;have hz:=gd S;have he:=gd hf;have hG:=gd hS;have hd:∀o,Ext wr (wr.alloc o):=λo=>(Ext.refl wr).alloc o;have ho:∀o,Below B wr (wr.alloc o):=λo=>Xb (hd o) hn;have hj:∀o,B<=(wr.alloc o).heap.size:=λo=>Zl hn (hd o).size;clear S R hf hS X;have hQ:l.length - (intOf (Value.int IntKind.i64 (wrap64 ((k:Int)+1)))).toNat<l.length - (intOf (Value.int IntKind.i64 (k:Int))).toNat:=(by rw[hT];exact Nat.sub_lt_sub_left K (YY k));have hU:=Zo (Value.int .i64) hT;have hL:k+1<=l.length:=K;rcases YP k with C|C
   ·have gj:decide (0<k)=false:=Ya (by rw[C];exact Nat.lt_irrefl 0);have F:commas (List.take (k+1) (List.zipWith keyed ks (l.map jtext)))=keyed key (jtext l[k]):=(by rw[hz.out,Zi C];rfl);have U:commas (List.take k (List.zipWith keyed ks (l.map jtext)))= []:=(by have:∀m,m=0->commas (List.take m (List.zipWith keyed ks (l.map jtext)))= []:=(by rintro m rfl;rfl);exact this k C);have Q:bs.length+(keyed key (jtext l[k])).length+2<=140737488355328:=(by have:=hw.out;rw[Zi C] at this;exact this);have ha:Hid ((bs++Lib.byteCells (123::commas (List.take k (List.zipWith keyed ks (l.map jtext))))).length+(keyed key (jtext l[k])).length<=140737488355328):=(by unfold Hid;rw[U,Zj,Yt];simp only[Zr,ZF];omega);have gp:=gd ha;have hg:=gd F;have hX:=gd U;clear C F U Q
    go_wp2_with (go_at_call 150;refine (KU n hC.out l[k] key _ at_ w0 _ B b _ d hF.out he.out hG.out hD.out hE (hV.alloc _) h0 (YT Z (hd _)) (hj _) ha.out).mono ?_;rintro e w2 ⟨rfl,I,G⟩)
    have V:WB B b (bs++Lib.byteCells (123::commas ((List.zipWith keyed ks (l.map jtext)).take (k+1)))) w2:=(by rw[hg.out];have h2:=I;rw[hX.out,Yl,<-ZJ] at h2;exact h2);have hu:=O.trans ((ho _).trans G);go_roundw
    case rel=>exact ⟨k+1,hL,hU,V,hu⟩
    case measure=>exact hQ
   ·have gj:decide (0<k)=true:=Yg C;have ht:k≠0:=Nat.pos_iff_ne_zero.1 C;have F:commas (List.take (k+1) (List.zipWith keyed ks (l.map jtext)))=commas (List.take k (List.zipWith keyed ks (l.map jtext)))++ [44]++keyed key (jtext l[k]):=(by rw[hz.out,Zf ht]);have Q:bs.length+(commas (List.take k (List.zipWith keyed ks (l.map jtext)))++ [44]++keyed key (jtext l[k])).length+2<=140737488355328:=(by have:=hw.out;rw[Zf ht] at this;exact this);rw[Zj,Zj] at Q;simp only[Zr,ZF] at Q;have ha:Hid ((bs++Lib.byteCells (123::commas (List.take k (List.zipWith keyed ks (l.map jtext))))++ [Value.int .u8 44]).length+(keyed key (jtext l[k])).length<=140737488355328):=(by unfold Hid;rw[Zj,Zj,Yt];simp only[Zr,ZF];omega);have hq:Hid ((bs++Lib.byteCells (123::commas (List.take k (List.zipWith keyed ks (l.map jtext))))).length+1<=140737488355328):=(by unfold Hid;rw[Zj,Yt];simp only[Zr];omega);have hg:=gd F;clear C F Q ht
    go_wp2_with (first|(go_at_call 69;refine (XY Xv _ _ _ _ _ (YT Z (hd _)) hq.out (hj _)).mono ?_;rintro e w2 ⟨rfl,I,G,hb⟩;(have hJ:=Zl (hj _) G.size);(have D:=hb _ _ _ _ (Zh wr _) (by decide) (by decide));(have gu:=(Zb _ _ 0 _ _ _ D));(have gw:=(Zb _ _ 1 _ _ _ D));(have gx:=(Zb _ _ 2 _ _ _ D));(have gy:=(Zb _ _ 3 _ _ _ D));(have gz:=(Zb _ _ 4 _ _ _ D));(have gA:=(Zb _ _ 5 _ _ _ D));(have gB:=(Zb _ _ 6 _ _ _ D));(have gC:=(Zb _ _ 7 _ _ _ D));(have gD:=(Zb _ _ 8 _ _ _ D)))|(go_at_call 150;refine (KU n hC.out l[k] key _ at_ w0 _ B b _ d hF.out he.out hG.out hD.out hE (hx.then (Xb (O.trans ((ho _).trans G)) h0)) h0 (Or.inr I) hJ ha.out).mono ?_;rintro e w3 ⟨rfl,h9,go⟩))
    have V:WB B b (bs++Lib.byteCells (123::commas ((List.zipWith keyed ks (l.map jtext)).take (k+1)))) w3:=(by rw[hg.out];have h2:=h9;rw[Yl,Yl,Zen,<-ZJ,<-ZJ] at h2;simpa using h2);have hu:=O.trans ((ho _).trans (G.trans go));go_roundw
    case rel=>exact ⟨k+1,hL,hU,V,hu⟩
    case measure=>exact hQ
  ·have hM:(List.zipWith keyed ks (l.map jtext)).take k=List.zipWith keyed ks (l.map jtext):=ZC (by rw[hh.out];exact Nat.not_lt.1 K);rw[hM] at Z;have hq:Hid ((bs++Lib.byteCells (123::commas (List.zipWith keyed ks (l.map jtext)))).length+1<=140737488355328):=(by unfold Hid;rw[Zj,Yt];have:=HL.out;simp only[Zr];omega);clear hy HL hM
   go_wp2_with (go_at_call 69;refine (Xr Xv _ _ _ _ _ Z hq.out hn).mono ?_;rintro e w2 ⟨rfl,I,G⟩)
   ((try simp only[Exit.inBlock,Exit.then]);refine bodyPost_end (results_none rfl _ _ _) rfl ?_);refine ⟨rfl,?_,O.trans G⟩;rw[ZfP,Yl,<-ZJ] at I;exact I
theorem Zeh (n:Nat) (ih:ValueSaid n) (ks:List ByteArray) (vs:List JV) (cs:List Value) (w0 w:World) (B b:Nat) (bs:List Value) (d:Nat) (X:RVn (n+1) w0 (.obj ks vs) cs) (K:jok (.obj ks vs)) (Q:jvalid (.obj ks vs) d=true) (hE:Env w0) (hx:Ext w0 w) (h0:w0.heap.size<=B)
 (hB:WB B b bs w) (h:B<=w.heap.size) (U:bs.length+(jtext (.obj ks vs)).length<=140737488355328):
 Calls prog 104 #[.pointer (some ⟨b,0,none⟩),.agg cs.toArray] w λe w'=>e= .returned (.tuple #[])/\(WB B b (bs++Lib.byteCells (jtext (.obj ks vs))) w'/\Below B w w'):=by
 obtain ⟨a,v,ms,rfl,G,J,hr,D⟩:=X;obtain ⟨_,A,c,rfl,hb,ha,_,_⟩:=id hr;rw[G8] at K;obtain ⟨F,V,H,O⟩:=K;rw[U1] at Q;rw[VJ] at U|-;simp only[ZU,Yn] at Q;have I:bs.length+(commas (List.zipWith keyed ks (vs.map jtext))).length+2<=140737488355328:=by simp only[Zr,Zj,ZF] at U;omega
 have HJ:=gd (λw' (Y:Ext w0 w') R j=>Zfa n ih ks vs A c ms w0 w' B b bs (d+1) J G F H hr D O Q.2 hE Y h0 R j I);have C:∀o,Below B w (w.alloc o):=λo=>Xb ((Ext.refl w).alloc o) h;clear F V H O G J Q D U I ih;unfold ocells;go_enter func104,ntmps104
 go_wp2_with (go_at_call 149;refine (HJ.out _ (hx.alloc _) (YT hB ((Ext.refl w).alloc _)) (Zl h ((Ext.refl w).alloc _).size)).mono ?_;rintro e w2 ⟨rfl,S,Z⟩)
 ((try simp only[Exit.inBlock,Exit.then]);refine bodyPost_end (results_none rfl _ _ _) rfl ?_);exact ⟨rfl,S,(C _).trans Z⟩
theorem Is:∀n,ValueSaid n
 |0,_,_,_,_,_,_,_,_,h,_,_,_,_,_,_,_,_=>h.elim
 |n+1,j,cs,w0,w,B,b,bs,d,h,hok,hv,hE,hx,h0,hB,hBw,hl=>by
  cases j with
  |arr l=>exact Zeg n (Is n) l cs w0 w B b bs d h hok hv hE hx h0 hB hBw hl
  |obj ks vs=>exact Zeh n (Is n) ks vs cs w0 w B b bs d h hok hv hE hx h0 hB hBw hl
  |null=>exact Vb (n+1) _ cs w0 w B b bs d h hok hv hE hx h0 hB hBw hl (by simp) (by simp)
  |bool x=>exact Vb (n+1) _ cs w0 w B b bs d h hok hv hE hx h0 hB hBw hl (by simp) (by simp)
  |int x=>exact Vb (n+1) _ cs w0 w B b bs d h hok hv hE hx h0 hB hBw hl (by simp) (by simp)
  |str s=>exact Vb (n+1) _ cs w0 w B b bs d h hok hv hE hx h0 hB hBw hl (by simp) (by simp)
end Go.Proofs.YthlnaldahkgjnaaGreatDoor
