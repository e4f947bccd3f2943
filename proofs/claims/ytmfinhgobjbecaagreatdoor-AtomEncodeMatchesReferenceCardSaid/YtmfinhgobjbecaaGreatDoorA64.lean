/- Parts of the proof: contracts and plain laws. -/
import Derived.Test.YtmfinhgobjbecaaGreatDoorA61
import Derived.Test.YtmfinhgobjbecaaGreatDoorA62
import Derived.Test.YtmfinhgobjbecaaGreatDoorA63
namespace Go.Proofs.YtmfinhgobjbecaaGreatDoor
open Go Go.RowKit _root_.Go.Proofs.Tryz
set_option linter.unusedVariables false
set_option linter.unusedSimpArgs false
set_option maxRecDepth 100000
set_option maxHeartbeats 16000000
theorem AtNc.ext {w w':Wq} {q:Addr} {x:Nc} (h:AtNc w q x) (A:Ext w w'):AtNc w' q x:=⟨A.cell h.c0,A.cell h.c1,A.cell h.c2,A.cell h.c3,A.cell h.c4,A.cell h.c5,A.cell h.c6⟩
theorem IsDate.unique {n y m d C m' D:Nat} (h:IsDate n y m d) (F:IsDate n C m' D):y=C/\m=m'/\d=D:=by
 have a:=h.year;have a':=F.year;have J:y=C:=by
  rcases Nat.lt_trichotomy y C with A|A|A
  ·have:=ZdP (a:=y+1) (b:=C) om A;omega
  ·exact A
  ·have:=ZdP (a:=C+1) (b:=y) om A;omega
 subst J;obtain ⟨J,Y,V,X,Q,rfl⟩:=h;obtain ⟨_,U,I,O,H,R⟩:=F;obtain ⟨k,rfl⟩:∃k,m=k+1:=⟨m - 1,om⟩;obtain ⟨k',rfl⟩:∃k,m'=k+1:=⟨m' - 1,om⟩;rw[Nat.add_sub_cancel,Nat.add_sub_cancel] at R;have S:k=k':=by
  rcases Nat.lt_trichotomy k k' with A|A|A
  ·have:=Zem y (a:=k+1) (b:=k') A;rw[monN] at this;omega
  ·exact A
  ·have:=Zem y (a:=k'+1) (b:=k) A;rw[monN] at this;omega
 subst S;exact ⟨rfl,rfl,om⟩
theorem IsDate.eq {n y m d:Nat} (h:IsDate n y m d):dateN n=(y,m,d):=by
 obtain ⟨a,b,c⟩:=(Zb3 n).unique h;exact Prod.ext a (Prod.ext b c)
theorem Zv9 {N:Nat}:∀l:List Nd,Nds.smT N l↔∀x∈l,x.smT N
 | []=>by rw[Nds.smT];simp
 |x::t=>by rw[Nds.smT,Zv9 t];simp
section
set_option linter.unusedSimpArgs false
theorem Zwm:(#[Value.int .i64 0,.string ⟨#[]⟩,.string ⟨#[]⟩,.slice none 0 0,.slice none 0 0,.string ⟨#[]⟩,.int .i64 0]).all (λu=>u.oneCell')=true:=by simp[Value.oneCell']
theorem Zwj (x:Fc) (w:World) (hE:Env w) (hr:RdC w x) (hk:fokS x.f) (ha:okF x.f=false\/okF x.f=true/\0<x.f.path.length):
 Calls prog 15 #[.agg (cellsC x).toArray] w λe w'=>e= .returned (.tuple #[.agg #[.int .i64 0,.string ⟨#[]⟩,.string ⟨#[]⟩,.slice none 0 0,.slice none 0 0,.string ⟨#[]⟩,.int .i64 0],.int .i64 22])/\Ext w w':=by
 have O:=gd (λ(w':World) (h:Ext w w')=>Zg2 x w' (hE.ext h) (hr.ext h) hk);obtain ⟨C,Y⟩:∃C:Int,(if okF x.f=true then (0:Int) else 22)=C:=⟨_,rfl⟩;rw[Y] at O;have hb:C=22\/C=0/\0<x.f.path.length:=by
  rcases ha with h|⟨h,h2⟩
  ·rw[h] at Y;exact Or.inl Y.symm
  ·rw[h] at Y;exact Or.inr ⟨Y.symm,h2⟩
 clear Y ha;obtain ⟨xp,hh,⟨A,X,D,J,R,I⟩⟩:=x;obtain ⟨hd,he⟩:=hr;dsimp only at*;obtain ⟨xA,xc,rfl, -, -⟩:=hd.form;obtain ⟨xB,xd,rfl, -, -⟩:=he.form;clear hk;unfold cellsC fCells at O|-;dsimp only at O|-;obtain ⟨W0,V⟩:∃W0,(w.alloc (.cells #[.slice xA A.length xc,.string X,.string D,.string J,.int .i64 R,.slice xB I.length xd] 32)).alloc (.cells #[.int .i64 0,.string ⟨#[]⟩,.string ⟨#[]⟩,.slice none 0 0,.slice none 0 0,.string ⟨#[]⟩,.int .i64 0] 25)=W0:=⟨_,rfl⟩;have U:Ext w W0:=by rw[<-V];exact ((Ext.refl w).alloc _).alloc _
 have hc:W0.heap[w.heap.size+1]? =some (.cells #[.int .i64 0,.string ⟨#[]⟩,.string ⟨#[]⟩,.slice none 0 0,.slice none 0 0,.string ⟨#[]⟩,.int .i64 0] 25 (0,0)):=by
  rw[<-V];have:=ZqJ (w.alloc (.cells #[.slice xA A.length xc,.string X,.string D,.string J,.int .i64 R,.slice xB I.length xd] 32)) (.cells #[.int .i64 0,.string ⟨#[]⟩,.string ⟨#[]⟩,.slice none 0 0,.slice none 0 0,.string ⟨#[]⟩,.int .i64 0] 25)
  rwa [Zd] at this
 have F:∀i v,(#[.slice xA A.length xc,.string X,.string D,.string J,.int .i64 R,.slice xB I.length xd]:Array Value)[i]? =some v->W0.cell? ⟨w.heap.size,i,none⟩=some v:=λi v h=>by rw[<-V];exact ((Ext.refl (w.alloc _)).alloc _).boxed i v h
 have c0:=F 0 _ rfl;have c1:=F 1 _ rfl;have c2:=F 2 _ rfl;have c3:=F 3 _ rfl;have c4:=F 4 _ rfl;have c5:=F 5 _ rfl;clear F;have S:=gd U;have Z:=gd hc;clear U hc hd he hE;rcases hb with rfl|⟨rfl,hg⟩
 case inl=>
  go_enter func15,ntmps15
  go_wp2_with (first|(go_at_call 37;have hz:=O.out W0 S.out;refine ZqD hz ?_;clear hz;rintro e w2 ⟨rfl,H⟩;have d0:=H.cell c0;have Q:=H.heap Z.out)|(refine ZqF rfl 25 (.tmp 2) (.tmp 19) rfl (w.heap.size+1) #[.int .i64 0,.string ⟨#[]⟩,.string ⟨#[]⟩,.slice none 0 0,.slice none 0 0,.string ⟨#[]⟩,.int .i64 0] rfl rfl _ _ Q Ze rfl Zwm ?_))
  ((try simp only[Exit.inBlock,Exit.then]);refine ZqT (Zl rfl _ _ _ _ _ _ _ rfl (ZqV _ _ _ _ _ _ Q) underlying25 rfl Ze) rfl ?_);exact ⟨rfl,(S.out.trans H).setRow (ZrF _) _⟩
 case inr=>
  have hf:(0:Int)<(A.length:Int):=om
  go_enter func15,ntmps15
  go_wp2_with (first|(go_at_call 37;have hz:=O.out W0 S.out;refine ZqD hz ?_;clear hz;rintro e w2 ⟨rfl,H⟩;have d0:=H.cell c0;have Q:=H.heap Z.out)|(refine ZqF rfl 25 (.tmp 2) (.tmp 19) rfl (w.heap.size+1) #[.int .i64 0,.string ⟨#[]⟩,.string ⟨#[]⟩,.slice none 0 0,.slice none 0 0,.string ⟨#[]⟩,.int .i64 0] rfl rfl _ _ Q Ze rfl Zwm ?_))
  ((try simp only[Exit.inBlock,Exit.then]);refine ZqT (Zl rfl _ _ _ _ _ _ _ rfl (ZqV _ _ _ _ _ _ Q) underlying25 rfl Ze) rfl ?_);exact ⟨rfl,(S.out.trans H).setRow (ZrF _) _⟩
end
theorem Zwx {l:List Nc} {j:Nat} (h:j<l.length):(Nc.nds l).take (j+1)=(Nc.nds l).take j++ [l[j].nd]:=by
 rw[Yc,ZqQ (by rw[Zq9];exact h),ZsF]
section
set_option linter.unusedSimpArgs false
theorem ZvD {f:Fd} (h:okA17 f=false):okF f=false\/okF f=true/\0<f.path.length:=by
 unfold okA17 at h;rw[Bool.and_eq_false_iff] at h;rcases h with h|h
 ·exact Or.inl h
 ·by_cases A:okF f=true
  ·exact Or.inr ⟨A,Zr3.2 (of_decide_eq_false h)⟩
  ·exact Or.inl (by simpa using A)
theorem ZwD (x:Fc) (w:World) (U:Env w) (X:RdC w x) (V:fokS x.f) (I:okA17 x.f=false):
 Calls prog 17 #[.agg (cellsC x).toArray] w λe w'=>e= .returned (.tuple #[.string ⟨#[]⟩,.int .i64 22])/\Ext w w':=by
 have C:=gd (λ(w':World) (h:Ext w w')=>Zwj x w' (U.ext h) (X.ext h) V (ZvD I));obtain ⟨xp,ha,⟨H,S,A,F,Q,D⟩⟩:=x;obtain ⟨J,O⟩:=X;dsimp only at*;obtain ⟨Z,xc,rfl, -, -⟩:=J.form;obtain ⟨xB,xd,rfl, -, -⟩:=O.form;unfold cellsC fCells at C|-;dsimp only at C|-;clear V I J O U;go_enter func17,ntmps17
 go_wp2_with (first|(go_at_call 15;have Y:=C.out _ ((Ext.refl w).alloc (.cells #[.slice Z H.length xc,.string S,.string A,.string F,.int .i64 Q,.slice xB D.length xd] 32));(refine ZqD Y ?_);clear Y;rintro e w2 ⟨rfl,R⟩))
 go_ret2
 exact ⟨rfl,(((Ext.refl w).alloc _).trans R).alloc _⟩
end
theorem Zvw {v:Bool} {c:UInt8} {l:List UInt8} {d:UInt8} (h:wescB v c=d::l):wescC v c=d::l:=by unfold wescC;rw[h,ZqH (by simp)]
theorem Zwp {v:Bool} {c:UInt8} (h:wescB v c= []):wescC v c= [c]:=by unfold wescC;rw[ZqN h]
theorem Zwr (v:Bool) (c:UInt8):(wescC v c).length<=6:=by
 have:=ZeO v c;unfold wescC;split
 ·show 1<=6;omega
 ·exact this
theorem ZvA (v:Bool) (s:ByteArray) (w:World) (hs:s.size<=80000000000):
 Calls prog 140 #[.string s,.bool v] w λe w'=>e= .returned (.string (str (wescL v s.data.toList)))/\Ext w w':=by
 obtain ⟨i0,hd,he,hf,hg⟩:=ZrE Ju;have hu:=Zb s;go_enter func140,ntmps140;go_wp2;go_loopw [5,6] (λu i wr=>∃(k:Nat) (out:List UInt8),k<=s.size/\i= .int .i64 k/\Hid (out.length<=6*k)/\wr.ownsRow w.heap.size 5 1 u out.length (Lib.byteCells out)/\Hid (wescL v (s.data.toList.take k)=out)/\Ext w wr) (λ_ i _=>s.size - (intOf i).toNat)
 case atStart=>exact ⟨0,[],ZqO _,rfl,ZqE _,Zrt _ _ _ _,rfl,Ext.refl _⟩
 case round=>
  obtain ⟨k,out,hk,rfl,R,S,hc,hx⟩:=hrel;have hy:=hx.size;have hv:out.length<=6*k:=R.out;by_cases hj:k<s.size
  ·have X:=ZjK v s k hj;rw[hc.out] at X;have hb:=Zwr v s[k];obtain ⟨L,h⟩:∃L,wescC v s[k]=L:=⟨_,rfl⟩;rw[h] at X hb;have hi:=gd X;have HL:Hid ((out++L).length<=6*(k+1)):=(by show _<=_;rw[ZqG];omega);clear X hb hc R;have D:=S;obtain ⟨_,A,c,rfl,hw,ht,_,_⟩:=RSl.of_own S;by_cases H:s[k]=38;have hp:((s[k].toNat:Int)==38)=true:=Vk H;have U:L= [38,97,109,112,59]:=h.symm.trans (Zvw (Zoc v H))
   rotate_left
   have hp:((s[k].toNat:Int)==38)=false:=XL H;by_cases I:s[k]=60;have hq:((s[k].toNat:Int)==60)=true:=Vk I;have U:L= [38,108,116,59]:=h.symm.trans (Zvw (Zod v I))
   rotate_left
   have hq:((s[k].toNat:Int)==60)=false:=XL I;by_cases J:s[k]=62;have hr:((s[k].toNat:Int)==62)=true:=Vk J;have U:L= [38,103,116,59]:=h.symm.trans (Zvw (Zoe v J))
   rotate_left
   have hr:((s[k].toNat:Int)==62)=false:=XL J;by_cases F:s[k]=13;have hn:((s[k].toNat:Int)==13)=true:=Vk F;have U:L= [38,35,49,51,59]:=h.symm.trans (Zvw (Zoa v F))
   rotate_left
   have hn:((s[k].toNat:Int)==13)=false:=XL F;cases v;have U:L= [s[k]]:=h.symm.trans (Zwp (Zpe H I J F))
   rotate_left
   by_cases Q:s[k]=34;have ho:((s[k].toNat:Int)==34)=true:=Vk Q;have U:L= [38,113,117,111,116,59]:=h.symm.trans (Zvw (Zob Q))
   rotate_left
   have ho:((s[k].toNat:Int)==34)=false:=XL Q;by_cases h9:s[k]=9;have q9:((s[k].toNat:Int)==9)=true:=Vk h9;have U:L= [38,35,57,59]:=h.symm.trans (Zvw (Zpd h9))
   rotate_left
   have q9:((s[k].toNat:Int)==9)=false:=XL h9;by_cases O:s[k]=10;have hm:((s[k].toNat:Int)==10)=true:=Vk O;have U:L= [38,35,49,48,59]:=h.symm.trans (Zvw (Zn9 O))
   rotate_left
   have hm:((s[k].toNat:Int)==10)=false:=XL O;have U:L= [s[k]]:=h.symm.trans (Zwp (Zpf H I J F Q h9 O))
   all_goals
    (try clear H)
    (try clear I)
    (try clear J)
    (try clear F)
    (try clear Q)
    (try clear h9)
    (try clear O)
    have hh:=gd U
    clear U h
    go_wp2_with (first|(at_builtin;refine Lib.wpList_append_own_string _ rfl _ _ 145 9 rfl w.heap.size 5 i0 underlying145 underlying9 hd he hf hg _ _ _ rfl D _ rfl (by show _+_<=maxLen;unfold maxLen;simp[ByteArray.size];omega) (by simp[ByteArray.size];omega) om ?_;intro v1 w1 C V Y)|(at_builtin;refine Za _ rfl (.tmp 17) (.tmp 19) _ rfl w.heap.size 5 i0 _ 1 1 underlying145 hd he hf hg rfl om _ _ _ rfl (D.alloc _) _ 1 _ rfl (Zj (cs:= [.int .u8 s[k].toNat]) (by simp) (by unfold maxLen;omega)) (JA [s[k]]) (by unfold maxLen;omega) om (by simp;omega) ?_;intro v1 w1 C V Y))
    have hl:Ext w w1:=(by first|exact hx.app V D (ZqE _)|exact (hx.alloc _).app V (D.alloc _) (ZqE _))
    have ha:w1.ownsRow w.heap.size 5 1 v1 (out++L).length (Lib.byteCells (out++L)):=(by rw[hh.out,Zf,ZqG];exact C)
    clear V Y C
    go_wp2
    go_roundw
    case rel=>exact ⟨k+1,out++L,om,by go_num,HL,ha,hi,hl⟩
    case measure=>simp[intOf];omega
  ·have Z:wescL v s.data.toList=out:=(by rw[<-hc.out,Zq4 om]);have HF:=gd Z;have kc:=U4 wr _ _ out S;clear Z hc R;go_wp2;go_ret;exact ⟨by rw[HF.out];rfl,hx⟩
theorem ZvE (s:ByteArray) (w:World) (F:s.size<=maxLen):
 Calls prog 171 #[.string s] w λe w'=>e= .returned (.bool (charsOk s.data.toList))/\Ext w w':=by
 have A:=VD s w F;have C:charsOk s.data.toList=decide ((checkS s).2=0):=rfl;generalize (checkS s).1=a at A;generalize (checkS s).2=b at A C;rw[C];have H:=gd A;have D:((b:Int)==0)=decide (b=0):=by
  by_cases h:b=0
  ·rw[h];rfl
  ·rw[Zre h,ZqW];omega
 rw[<-D];clear D A C;go_enter func171,ntmps171
 go_wp2_with (go_at_call 99;refine ZqD H.out ?_;rintro e w' ⟨rfl,I⟩)
 go_ret;exact ⟨rfl,I⟩
theorem Zvt {N:Nat} {x:Nc} {w:World} (J:x.nd.smT N) (I:RdN w x):∃k n A c l B d kids t,x= .mk k [] n (.slice A (List.length l) c) l (.slice B (List.length kids) d) kids t 0/\k<=1/\n.length<=7/\l.length<=4/\kids.length<=N/\t.length<=N/\
 (∀b∈l,b.space= []/\b.name.length<=7/\b.value.length<=N/\b.at_=0)/\RAts w (.slice A l.length c) l/\RNs w (.slice B kids.length d) kids/\∀y∈kids,RdN w y/\y.nd.smT N:=by
 obtain ⟨k,s,n,al,l,ks,kids,t,a⟩:=x;rw[RdN] at I;obtain ⟨F,H,R⟩:=I;rw[Nc.nd,Nd.smT] at J;obtain ⟨C,rfl,S,V,Q,h,U,rfl,D⟩:=J;obtain ⟨A,c,rfl, -, -⟩:=F.form;obtain ⟨B,d,rfl, -, -⟩:=RNs.form H;rw[Y8] at h;exact ⟨k,n,A,c,l,B,d,kids,t,rfl,C,S,om,h,U,Q,F,H,λy O=>⟨(ZD kids).1 R y O,(Zv9 _).1 D y.nd (by rw[Yc];exact Zrv O)⟩⟩
def bxK (q:Int) (n:List UInt8) (al ks:Value) (t:List UInt8):List Value:= [.int .i64 q,.string (str []),.string (str n),al,ks,.string (str t),.int .i64 0]
theorem ZvH (k:Nat) (n:List UInt8) (al ks:Value) (l:List AtP) (kids:List Nc) (t:List UInt8):cellsN (.mk k [] n al l ks kids t 0)=bxK (k:Nat) n al ks t:=rfl
theorem ZvM (n:List UInt8) (al ks:Value) (l:List AtP) (kids:List Nc) (t:List UInt8):cellsN (.mk 0 [] n al l ks kids t 0)=bxK 0 n al ks t:=rfl
theorem ZvZ (n:List UInt8) (al ks:Value) (l:List AtP) (kids:List Nc) (t:List UInt8):cellsN (.mk 1 [] n al l ks kids t 0)=bxK 1 n al ks t:=rfl
theorem Zvi {w W:World} {q:Int} {n t:List UInt8} {al ks:Value} (h:Ext (w.alloc (.cells (bxK q n al ks t).toArray 25)) W):W.cell? ⟨w.heap.size,0,none⟩=some (.int .i64 q)/\W.cell? ⟨w.heap.size,1,none⟩=some (.string (str []))/\W.cell? ⟨w.heap.size,2,none⟩=some (.string (str n))/\
 W.cell? ⟨w.heap.size,3,none⟩=some al/\W.cell? ⟨w.heap.size,4,none⟩=some ks/\W.cell? ⟨w.heap.size,5,none⟩=some (.string (str t))/\W.cell? ⟨w.heap.size,6,none⟩=some (.int .i64 0):=by
 have A:=h.heap (ZqJ w (.cells (bxK q n al ks t).toArray 25));refine ⟨?_,?_,?_,?_,?_,?_,?_⟩<;>(rw[ZqI _ _ _ _ _ _ A];rfl)
theorem Zvz {N:Nat} {w:World} {B:Option Addr} {d j:Nat} {kids:List Nc} (h:RNs w (.slice B kids.length d) kids) (Q:∀y∈kids,RdN w y/\y.nd.smT N) (H:j<kids.length):
 ∃b k n A c l D F ks t,B=some b/\k<=1/\kids[j]= .mk k [] n (.slice A (List.length l) c) l (.slice D (List.length ks) F) ks t 0/\∀W,Ext w W->W.cell? (b.add (j*7))=some (.int .i64 (k:Nat))/\W.cell? ⟨(b.add (j*7)).block,(b.add (j*7)).off+1,none⟩=some (.string (str []))/\
  W.cell? ⟨(b.add (j*7)).block,(b.add (j*7)).off+2,none⟩=some (.string (str n))/\W.cell? ⟨(b.add (j*7)).block,(b.add (j*7)).off+3,none⟩=some (.slice A l.length c)/\W.cell? ⟨(b.add (j*7)).block,(b.add (j*7)).off+4,none⟩=some (.slice D ks.length F)/\
  W.cell? ⟨(b.add (j*7)).block,(b.add (j*7)).off+5,none⟩=some (.string (str t))/\W.cell? ⟨(b.add (j*7)).block,(b.add (j*7)).off+6,none⟩=some (.int .i64 0):=by
 obtain ⟨b,X,e,C⟩:=h.at H;injection e with e1 e2 e3;obtain ⟨S,U⟩:=Q _ (Zq2 H);obtain ⟨k,n,A,c,l,D,F,ks,t,I,R, -⟩:=Zvt U S;rw[I] at C;exact ⟨b,k,n,A,c,l,D,F,ks,t,e1,R,I,λW V=>by obtain ⟨a0,J,a2,a3,a4,a5,O⟩:=C.ext V;exact ⟨a0,J,a2,a3,a4,a5,O⟩⟩
mutual
def Nd.depT:Nd->Nat
 | .mk k _ _ _ ks _ _=>if k=1 then 0 else Nds.depT ks+1
def Nds.depT:List Nd->Nat
 | []=>0
 |x::t=>max x.depT (Nds.depT t)
end
theorem ZvY (x:Nd):∀a:List Nd,Nds.depT (a++ [x])=max (Nds.depT a) x.depT
 | []=>by simp[Nds.depT]
 |y::t=>by
  show Nds.depT (y::(t++ [x]))=_
  rw[Nds.depT,Nds.depT,ZvY x t,Nat.max_assoc]
mutual
theorem ZwA:∀n:Nd,n.depT<=n.ht
 | .mk k s n al ks t a=>by
  have:=ZvO ks
  rw[Nd.depT,Nd.ht]
  split<;>omega
theorem ZvO:∀l:List Nd,Nds.depT l<=Nds.ht l
 | []=>by rw[Nds.depT];omega
 |x::t=>by
  have h1:=ZwA x
  have h2:=ZvO t
  rw[Nds.depT,Nds.ht]
  omega
end
theorem Zwl {l:List Nc} {j:Nat} (h:j<l.length):l[j].nd.ht<=Nds.ht (Nc.nds l):=Zaf (by rw[Yc];exact Zrv (Zq2 h))
mutual
theorem Zwk:∀(n:Nd) (d:Nat),nodeOk d n=true->n.depT+d<=101
 | .mk k s n al ks t a,d,h=>by
  rw[nodeOk] at h
  simp only[ZqZ,Zrd] at h
  have:=Zv1 ks d false h.1.1.1.1.1.2 h.2
  rw[Nd.depT]
  split<;>omega
theorem Zv1:∀(l:List Nd) (d:Nat) (b:Bool),d<=100->kidsOk d b l=true->Nds.depT l+d<=100
 | [],d,b,hd,_=>by rw[Nds.depT];omega
 |x::t,d,b,hd,h=>by
  rw[kidsOk,ZqZ] at h
  have h2:=Zv1 t d _ hd h.2
  have h1:x.depT+d<=100:=by
   by_cases hk:x.kind=1
   ·obtain ⟨k,s,n,al,ks,t',a⟩:=x
    rw[Nd.depT,ZqN (show k=1 from hk)]
    omega
   ·have h3:=h.1
    rw[ZqH hk] at h3
    have:=Zwk x (d+1) h3
    omega
  rw[Nds.depT]
  omega
end
def txtOk (n:Nd):Bool:= !n.text.isEmpty && charsOk n.text && n.space.isEmpty && n.name.isEmpty && n.attrs.isEmpty && n.kids.isEmpty
def nodOk (d:Nat) (n:Nd):Bool:=if n.kind=1 then txtOk n else nodeOk d n
theorem ZvK:∀(n:Nd) (d:Nat),nodeOk d n=true->isQ n.name=true/\attrsOk n.attrs []=true/\n.kind=0/\n.text= []/\kidsOk d false n.kids=true
 | .mk k s n al ks t a,d,h=>by
  rw[nodeOk] at h
  simp only[ZqZ,Zrd] at h
  exact ⟨h.1.1.2,h.1.2,h.1.1.1.1.1.1,(Zsi.1 h.1.1.1.2:t= []),h.2⟩
theorem ZvI:∀(l:List Nd) (d:Nat) (b:Bool),kidsOk d b l=true->(∀y∈l,nodOk (d+1) y=true)/\∀(j:Nat) (h:j+1<l.length),¬(l[j].kind=1/\l[j+1].kind=1)
 | [],d,b,_=>⟨λy C=>(by cases C),λj h=>absurd h (Nat.not_lt_zero _)⟩
 |x::t,d,b,h=>by
  rw[kidsOk,ZqZ] at h
  obtain ⟨I,J⟩:=ZvI t d _ h.2
  refine ⟨λy C=> ?_,λj H=> ?_⟩
  ·rcases Zq1.1 C with rfl|C
   ·unfold nodOk
    have A:=h.1
    split at A
    ·rename_i D
     rw[ZqN D]
     unfold txtOk
     simp only[ZqZ] at A|-
     exact ⟨⟨⟨⟨⟨A.1.1.1.1.1.2,A.1.1.1.1.2⟩,A.1.1.1.2⟩,A.1.1.2⟩,A.1.2⟩,A.2⟩
    ·rename_i D
     rw[ZqH D]
     exact A
   ·exact I y C
  ·cases j with
   |succ j=>exact J j (by simpa using H)
   |zero=>
    rintro ⟨e1,e2⟩
    cases t with
    |nil=>simp at H
    |cons z t=>
     have A:=h.2
     rw[kidsOk,ZqZ] at A
     have F:=A.1
     rw[ZqN (show z.kind=1 from e2)] at F
     simp[show x.kind=1 from e1] at F
theorem ZvT (N:Nat) (hN:N<=16777216):∀(h:Nat) (x:Nc) (w:World),h<=1000->x.nd.ht<=h->x.nd.smT N->RdN w x->
 Calls prog 138 #[.agg (cellsN x).toArray] w λe w'=>e= .returned (.int .i64 (x.nd.depT:Nat))/\Ext w w':=by
 intro h
 induction h with
 |zero=>intro x w _ hq;have:=Zm5 x.nd;omega
 |succ h ih=>
 intro x w hh hd hs hr;obtain ⟨k,n,A,c,O,B,d,kids,t,rfl,hm,hn,hl,hk,X,hb,hA,hK,hY⟩:=Zvt hs hr;rcases (show k=0\/k=1 by omega) with rfl|rfl
 rotate_left
 ·have Z:=(Ext.refl w).alloc (.cells (bxK 1 n (.slice A O.length c) (.slice B kids.length d) t).toArray 25);obtain ⟨b0,b1,b2,b3,b4,b5,b6⟩:=Zvi (Ext.refl (w.alloc (.cells (bxK 1 n (.slice A O.length c) (.slice B kids.length d) t).toArray 25)));rw[Nc.nd,Nd.depT,ZqN rfl,ZvZ];simp only[bxK] at Z b0 b1 b2 b3 b4 b5 b6|-;clear ih hd hs hr hn hl hk hb hA hK hY X;go_enter func138,ntmps138;go_wp2;go_ret;exact ⟨rfl,Z⟩
 have U:Nds.ht (Nc.nds kids)<=h:=by rw[Nc.nd,Nd.ht] at hd;omega
 have hf:=gd (λx w=>ih x w om);have HY:=gd hY;have HK:=gd hK;have HD:Hid (Nds.depT (Nc.nds kids)<=1000):=gd (by have:=ZvO (Nc.nds kids);omega);have he:=gd U;have hv:kids.length<=16777216:=om
 have HX:=gd ((Ext.refl w).alloc (.cells (bxK 0 n (.slice A O.length c) (.slice B kids.length d) t).toArray 25));have S:=Zvi (Ext.refl (w.alloc (.cells (bxK 0 n (.slice A O.length c) (.slice B kids.length d) t).toArray 25)));have Q:=gd (λW=> @Zvi w W 0 n t (.slice A O.length c) (.slice B kids.length d));simp only[bxK] at HX S Q;obtain ⟨b0,b1,b2,b3,b4,b5,b6⟩:=S;rw[Nc.nd,Nd.depT,ZqH (by decide),ZvM];simp only[bxK];clear ih hh hd hs hr hn hl hk hb hA hK hY U X hm;go_enter func138,ntmps138;go_wp2;go_loopw [3,4] (λm i wr=>∃j:Nat,j<=kids.length/\i= .int .i64 j/\m= .int .i64 (Nds.depT ((Nc.nds kids).take j):Nat)/\Ext (w.alloc (.cells (bxK 0 n (.slice A O.length c) (.slice B kids.length d) t).toArray 25)) wr) (λ_ i _=>kids.length - (intOf i).toNat)
 case atStart=>exact ⟨0,ZqO _,rfl,rfl,Ext.refl _⟩
 case round=>
  obtain ⟨j,hj,rfl,rfl,H⟩:=hrel;obtain ⟨d0,d1,d2,d3,d4,d5,d6⟩:=Q.out _ H;have J:=gd (HX.out.trans H);have hg:=gd H;clear b0 b1 b2 b3 b4 b5 b6 H;by_cases C:j<kids.length
  ·obtain ⟨b,yq,yn,YA,yc,yl,YB,yd,yk,yt,rfl, -,hy,R⟩:=Zvz HK.out HY.out C;obtain ⟨a0,a1,a2,a3,a4,a5,a6⟩:=R _ J.out;have hp:(0:Int)<=(j:Int):=om;have hu:(j:Int)<(kids.length:Int):=om;obtain ⟨ha,hc⟩:=HY.out kids[j] (Zq2 C);have Y:=Zwx C;have V:kids[j].nd.ht<=h:=ZqM (Zwl C) he.out;have I:Hid (Nds.depT ((Nc.nds kids).take (j+1))=max (Nds.depT ((Nc.nds kids).take j)) kids[j].nd.depT):=gd (by rw[Y,ZvY]);have F:=gd (λw' (hx:Ext w w')=>hf.out kids[j] w' V hc (RdN.ext hx _ ha));rw[hy] at F I;simp only[ZvH,bxK] at F;generalize Nd.depT _=D at F I;clear ha hc Y V R hy
   go_wp2_with (go_at_call 138;refine ZqD (F.out _ J.out) ?_;rintro e w3 ⟨rfl,ho⟩)
   go_roundw
   case rel=>exact ⟨j+1,C,by go_num,(by rw[I.out];congr 1;omega),hg.out.trans ho⟩
   case measure=>simp[intOf];omega
  ·have hi:j=kids.length:=om;subst hi;have hd:=HD.out;rw[Zq4 (by rw[Y8];exact ZqE _)];go_wp2;go_ret;exact ⟨by congr 1,J.out⟩
theorem ZuV (a b:List UInt8):str a++str b=str (a++b):=by
 have h:(str a++str b).data=(str (a++b)).data:=by rw[ByteArray.data_append];apply Array.toList_inj.1;rw[Array.toList_append,Zg,Zg,Zg]
 cases hx:str a++str b;cases hy:str (a++b);rw[hx,hy] at h;simpa using h
theorem Zws (P h E:List UInt8):str P++((⟨#[32]⟩:ByteArray)++str h++⟨#[61,34]⟩++str E++⟨#[34]⟩)=str (P++([32]++h++ [61,34]++E++ [34])):=by
 rw[<-ZuV,<-ZuV,<-ZuV,<-ZuV,<-ZuV];rfl
theorem Zwz (P n:List UInt8):str P++(⟨#[60,47]⟩:ByteArray)++str n++⟨#[62]⟩=str (P++ [60,47]++n++ [62]):=by
 rw[<-ZuV,<-ZuV,<-ZuV];rfl
theorem ZvN {w:World} {v:Value} {l:List AtP} (h:RAts w v l) {j:Nat} (H:j<l.length) (F:l[j].at_=0) (I:l[j].space= []):∃ad c,v= .slice (some ad) l.length c/\∀W,Ext w W->W.cell? (ad.add (j*4))=some (.string (str []))/\W.cell? ⟨(ad.add (j*4)).block,(ad.add (j*4)).off+1,none⟩=some (.string (str l[j].name))/\
 W.cell? ⟨(ad.add (j*4)).block,(ad.add (j*4)).off+2,none⟩=some (.string (str l[j].value))/\W.cell? ⟨(ad.add (j*4)).block,(ad.add (j*4)).off+3,none⟩=some (.int .i64 0):=by
 obtain ⟨ad,c,e,C⟩:=RAts.at h H;refine ⟨ad,c,e,λW A=> ?_⟩;obtain ⟨a0,D,a2,a3⟩:=C;rw[I] at a0;rw[F] at a3;exact ⟨A.cell a0,A.cell D,A.cell a2,A.cell a3⟩
theorem Zv0 (N:Nat) (hN:N<=16777216):∀(h:Nat) (x:Nc) (w:World),x.nd.ht<=h->x.nd.smT N->(nodeW x.nd).length<=140737488355328->RdN w x->
 Calls prog 98 #[.agg (cellsN x).toArray] w λe w'=>e= .returned (.string (str (nodeW x.nd)))/\Ext w w':=by
 intro h
 induction h with
 |zero=>intro x w hd;have:=Zm5 x.nd;omega
 |succ h ih=>
 intro x w hd hs O hr;obtain ⟨k,n,A,c,C,B,d,kids,t,rfl,hW,hn,hl,hk,hF,hb,hA,hK,hY⟩:=Zvt hs hr;rcases (show k=0\/k=1 by omega) with rfl|rfl
 rotate_left
 ·have hI:=(Ext.refl w).alloc (.cells (bxK 1 n (.slice A C.length c) (.slice B kids.length d) t).toArray 25);obtain ⟨b0,b1,b2,b3,b4,b5,b6⟩:=Zvi (Ext.refl (w.alloc (.cells (bxK 1 n (.slice A C.length c) (.slice B kids.length d) t).toArray 25)));have HE:=gd (λw'=>ZvA false (str t) w' (by rw[Zo];omega));simp only[Zg] at HE;rw[Nc.nd,nodeW,ZqN rfl,ZvZ];simp only[bxK] at hI b0 b1 b2 b3 b4 b5 b6|-;clear ih hd hs hr hn hl hk hb hA hK hY hF O;go_enter func98,ntmps98
  go_wp2_with (go_at_call 140;refine ZqD (HE.out _) ?_;rintro e w3 ⟨rfl,hq⟩)
  go_ret;exact ⟨rfl,hI.trans hq⟩
 have hB:Nds.ht (Nc.nds kids)<=h:=by rw[Nc.nd,Nd.ht] at hd;omega
 have hO:=gd ih;have HY:=gd hY;have HK:=gd hK;have HA:=gd hA;have HB:=gd hb;have hM:=gd hB;have hZ:kids.length<=16777216:=om
 have HX:=gd ((Ext.refl w).alloc (.cells (bxK 0 n (.slice A C.length c) (.slice B kids.length d) t).toArray 25));have hz:=Zvi (Ext.refl (w.alloc (.cells (bxK 0 n (.slice A C.length c) (.slice B kids.length d) t).toArray 25)));have hg:=gd (λW=> @Zvi w W 0 n t (.slice A C.length c) (.slice B kids.length d));simp only[bxK] at HX hz hg;obtain ⟨b0,b1,b2,b3,b4,b5,b6⟩:=hz;rw[Nc.nd] at O|-;rw[nodeW,ZqH (by decide)] at O|-;rw[ZvM];simp only[bxK];have Q:1+n.length+(attrsW C).length+(nodesW (Nc.nds kids)).length<=140737488355328:=by
  simp only[ZqG,ZqK,Zq5] at O;split at O
  ·rename_i he;have e0:Nc.nds kids= []:=(by simpa using he);rw[e0,nodesW];simp only[ZqK,Zq5] at O|-;omega
  ·simp only[ZqG,ZqK,Zq5] at O;omega
 have hG:¬9223372036854775807<1+n.length:=om
 obtain ⟨R,U⟩:∃R,([60]++n++attrsW C++if (Nc.nds kids).isEmpty=true then [47,62] else [62]++nodesW (Nc.nds kids)++ [60,47]++n++ [62])=R:=⟨_,rfl⟩;rw[U];have HR:=gd U;clear U;clear ih hd hs hr hk hb hA hK hY hB O hF hW;go_enter func98,ntmps98;go_wp2;go_loopw [3,4] (λu i wr=>∃j:Nat,j<=C.length/\i= .int .i64 j/\u= .string (str (60::(n++attrsW (C.take j))))/\Ext (w.alloc (.cells (bxK 0 n (.slice A C.length c) (.slice B kids.length d) t).toArray 25)) wr) (λ_ i _=>C.length - (intOf i).toNat)
 case atStart=>exact ⟨0,ZqO _,rfl,(ZqS Value.string ((ZuV [60] n).trans (by rw[List.take_zero,attrsW,Zrb];rfl))),Ext.refl _⟩
 case round=>
  obtain ⟨j,hj,rfl,rfl,J⟩:=hrel;obtain ⟨d0,d1,d2,d3,d4,d5,d6⟩:=hg.out _ J;have hw:=gd (HX.out.trans J);have hu:=gd J;clear b0 b1 b2 b3 b4 b5 b6 J;by_cases H:j<C.length
  ·have hc:=HB.out C[j] (Zq2 H);obtain ⟨ad,c',hv,Y⟩:=ZvN HA.out H hc.2.2.2 hc.1;injection hv with hv1 hv2 hv3;subst hv1;clear hv2 hv3;obtain ⟨a0,a1,a2,a3⟩:=Y _ hw.out;have hD:(0:Int)<=(j:Int):=om;have hV:(j:Int)<(C.length:Int):=om;have I:=ZfW H;have F:=Zkq C (j+1);obtain ⟨bn,ho⟩:∃y,C[j].name=y:=⟨_,rfl⟩;obtain ⟨bv,hf⟩:∃y,C[j].value=y:=⟨_,rfl⟩;have hX:bv.length<=N:=(by rw[<-hf];exact hc.2.2.1);have HE:=gd (λw'=>ZvA true (str bv) w' (by rw[Zo];omega));simp only[Zg] at HE;rw[I] at F;unfold attrW at I F;rw[ho,hf] at I F;rw[ho] at a1;rw[hf] at a2;clear hc Y;generalize wescL true bv=E at HE I F;obtain ⟨P,hP⟩:∃P,60::(n++attrsW (C.take j))=P:=⟨_,rfl⟩;have X:P.length=1+n.length+(attrsW (C.take j)).length:=(by rw[<-hP,ZqK,ZqG];omega);simp only[ZqG,ZqK,Zq5] at F;have g1:¬9223372036854775807<1+bn.length:=om;have g2:¬9223372036854775807<1+bn.length+2:=om;have g3:¬9223372036854775807<1+bn.length+2+E.length:=om;have g4:¬9223372036854775807<1+bn.length+2+E.length+1:=om;have g5:¬9223372036854775807<P.length+(1+bn.length+2+E.length+1):=om;have V:Hid (60::(n++attrsW (C.take (j+1)))=P++([32]++bn++ [61,34]++E++ [34])):=gd (by rw[I,<-hP];simp);rw[hP];have q1:∀d:Aft wr,d.w.cell? ⟨w.heap.size,3,none⟩=some (.slice (some ad) C.length c):=Aft.cell d3;have q2:∀d:Aft wr,d.w.cell? ⟨(ad.add (j*4)).block,(ad.add (j*4)).off+1,none⟩=some (.string (str bn)):=Aft.cell a1;have q3:∀d:Aft wr,d.w.cell? ⟨(ad.add (j*4)).block,(ad.add (j*4)).off+2,none⟩=some (.string (str bv)):=Aft.cell a2;clear I F hP X Q hG hX ho hf;go_wp2;refine rA ?_
   repeat (first|go_big_quiet_step ((go_at_call 140;with_reducible exact Zi (HE.out _)))|quiet_step ((go_at_call 140;with_reducible exact Zi (HE.out _))))
   refine Zru ?_;rintro _ ⟨hU,rfl⟩;go_wp2;go_roundw
   case rel=>exact ⟨j+1,H,by go_num,ZqS Value.string ((Zws P bn E).trans (by rw[V.out])),hu.out.trans hU.ext⟩
   case measure=>simp[intOf];omega
  ·have hp:j=C.length:=om;subst hp;rw[Zq4 (ZqE _)];obtain ⟨P,hP⟩:∃P,60::(n++attrsW C)=P:=⟨_,rfl⟩;have X:P.length=1+n.length+(attrsW C).length:=(by rw[<-hP,ZqK,ZqG];omega);rw[hP];have e0: [60]++n++attrsW C=P:=(by rw[<-hP];simp);have U:=HR.out;rw[e0] at U;have g1:¬9223372036854775807<P.length+2:=om;have g2:¬9223372036854775807<P.length+1:=om;clear hP e0 hG H;by_cases Z:kids.length=0
   ·have hE:kids= []:=ZqX Z;have q2:((kids.length:Int)==0)=true:=(by rw[Z];rfl);rw[hE,Nc.nds] at U
    replace U:P++ [47,62]=R:=U
    have hh:=gd U;clear Z hE Q X U HR;go_wp2;go_ret;exact ⟨ZqS (λs=>Ending.returned (.string s)) ((ZuV P [47,62]).trans (by rw[hh.out])),hw.out⟩
   ·have q2:((kids.length:Int)==0)=false:=(by rw[ZqW];omega);have hH:(Nc.nds kids).isEmpty=false:=(by cases kids with|nil=>exact absurd rfl Z|cons y t=>rw[Nc.nds];rfl);rw[hH,ZqH (by simp)] at U;have hh:=gd U;clear Z hH U HR;go_wp2;go_loopw [3,5] (λu i wr=>∃j:Nat,j<=kids.length/\i= .int .i64 j/\u= .string (str (P++ [62]++nodesW ((Nc.nds kids).take j)))/\Ext (w.alloc (.cells (bxK 0 n (.slice A C.length c) (.slice B kids.length d) t).toArray 25)) wr) (λ_ i _=>kids.length - (intOf i).toNat)
    case atStart=>exact ⟨0,ZqO _,rfl,ZqS Value.string ((ZuV P [62]).trans (by rw[List.take_zero,nodesW,Zrb])),hu.out⟩
    case round=>
     obtain ⟨j,hj,rfl,rfl,J⟩:=hrel;obtain ⟨e0,e1,e2,e3,e4,e5,e6⟩:=hg.out _ J;have hi:=gd (HX.out.trans J);have hT:=gd J;clear d0 d1 d2 d3 d4 d5 d6 J;by_cases H:j<kids.length
     ·obtain ⟨b,yq,yn,YA,yc,yl,YB,yd,yk,yt,rfl, -,hy,Y⟩:=Zvz HK.out HY.out H;obtain ⟨a0,a1,a2,a3,a4,a5,a6⟩:=Y _ hi.out;have hD:(0:Int)<=(j:Int):=om;have hV:(j:Int)<(kids.length:Int):=om;obtain ⟨hJ,hL⟩:=HY.out kids[j] (Zq2 H);have I:=Zha H;have F:=Zlz (Nc.nds kids) (j+1);rw[I,ZqG] at F;have hC:kids[j].nd.ht<=h:=ZqM (Zwl H) hM.out;have ha:=gd (λw' (hx:Ext w w')=>hO.out kids[j] w' hC hL om (RdN.ext hx _ hJ));obtain ⟨S,hS⟩:∃S,P++ [62]++nodesW ((Nc.nds kids).take j)=S:=⟨_,rfl⟩;have hm:S.length=P.length+1+(nodesW ((Nc.nds kids).take j)).length:=(by rw[<-hS,ZqG,ZqG];rfl);have V:Hid (P++ [62]++nodesW ((Nc.nds kids).take (j+1))=S++nodeW kids[j].nd):=gd (by rw[I,<-hS];simp);rw[hS];rw[hy] at ha V F;simp only[ZvH,bxK] at ha;generalize nodeW _=D at ha V F;have g3:¬9223372036854775807<S.length+D.length:=om;clear hJ hL I hC Y hy hS hm F Q X
      go_wp2_with (go_at_call 98;refine ZqD (ha.out _ hi.out) ?_;rintro e w3 ⟨rfl,hq⟩)
      go_roundw
      case rel=>exact ⟨j+1,H,by go_num,ZqS Value.string ((ZuV S D).trans (by rw[V.out])),hT.out.trans hq⟩
      case measure=>simp[intOf];omega
     ·have hp:j=kids.length:=om;subst hp;rw[Zq4 (by rw[Y8];exact ZqE _)];obtain ⟨S,hS⟩:∃S,P++ [62]++nodesW (Nc.nds kids)=S:=⟨_,rfl⟩;have hm:S.length=P.length+1+(nodesW (Nc.nds kids)).length:=(by rw[<-hS,ZqG,ZqG];rfl);have hQ:Hid (S++ [60,47]++n++ [62]=R):=gd (by rw[<-hh.out,<-hS];simp);rw[hS];have g3:¬9223372036854775807<S.length+2:=om;have g4:¬9223372036854775807<S.length+2+n.length:=om;have g5:¬9223372036854775807<S.length+2+n.length+1:=om;clear hS hm Q X;go_wp2;go_ret;exact ⟨ZqS (λs=>Ending.returned (.string s)) ((Zwz S n).trans (by rw[hQ.out])),hi.out⟩
theorem ZvX:∀(l:List AtP) (seen:List (List UInt8)),attrsOk l seen=true->∀(j:Nat) (h:j<l.length),isQ l[j].name=true/\charsOk l[j].value=true/\l[j].name ∉ seen/\∀(i:Nat) (A:i<j),(l[i]'(om)).name≠l[j].name
 | [],_,_,j,h=>absurd h (Nat.not_lt_zero _)
 |a::t,seen,h,j,hj=>by
  rw[attrsOk] at h
  simp only[ZqZ,Zsj,List.contains_eq_mem,Zr0] at h
  cases j with
  |zero=>exact ⟨h.1.1.2,h.1.2,h.1.1.1.2,λi A=>absurd A (Nat.not_lt_zero _)⟩
  |succ j=>
   obtain ⟨D,F,C,H⟩:=ZvX t _ h.2 j (by simpa using hj)
   refine ⟨D,F,λI=>C (ZrZ _ I),λi A=> ?_⟩
   cases i with
   |zero=>exact λe=>C (List.mem_append_right _ (ZqU.2 e.symm))
   |succ i=>exact H i om
theorem ZvQ:(prog.info? 53).map (λi=>i.size)=some 4:=by kernel_rfl
theorem Zwf (A B C:ByteArray):(#[.string A,.string B,.string C,.int .i64 0]:Array Value).all (λu=>u.oneCell')=true:=by simp[Value.oneCell']
theorem ZvV (N:Nat) (hN:N<=16777216):∀(h:Nat) (x:Nc) (dp:Nat) (w:World),x.nd.ht<=h->x.nd.smT N->nodOk dp x.nd=true->RdN w x->
 Calls prog 139 #[.agg (cellsN x).toArray] w λe w'=>e= .returned (.bool true)/\Ext w w':=by
 intro h
 induction h with
 |zero=>intro x dp w hd;have:=Zm5 x.nd;omega
 |succ h ih=>
 intro x dp w hd hs D hr;obtain ⟨k,n,A,c,H,B,d,kids,t,rfl,gl,hn,hl,hk,hU,hb,hA,hK,hY⟩:=Zvt hs hr;rcases (show k=0\/k=1 by omega) with rfl|rfl
 rotate_left
 ·rw[Nc.nd] at D;unfold nodOk txtOk at D;rw[ZqN (show (Nd.mk 1 [] n H (Nc.nds kids) t 0).kind=1 from rfl)] at D;simp only[Nd.text,Nd.name,Nd.space,Nd.attrs,Nd.kids,ZqZ,Zsj,Zsi] at D;obtain ⟨⟨⟨⟨⟨o1,o2⟩, -⟩,o3⟩,o4⟩,o5⟩:=D;have o6:kids= []:=by
   cases kids with
   |nil=>rfl
   |cons y z=>rw[Nc.nds] at o5;simp at o5
  have gr:t≠ []:=by intro e;rw[e] at o1;simp at o1
  subst o3;subst o4;subst o6;have q2:=JX gr;have n0:=Xh;have HC:=gd (λw'=>ZvE (str t) w' (by rw[Zo];unfold maxLen;omega));simp only[Zg,o2] at HC;have h3:=(Ext.refl w).alloc (.cells (bxK 1 [] (.slice A ([]:List AtP).length c) (.slice B ([]:List Nc).length d) t).toArray 25);have I:=gd (λW=> @Zvi w W 1 [] t (.slice A ([]:List AtP).length c) (.slice B ([]:List Nc).length d));obtain ⟨b0,b1,b2,b3,b4,b5,b6⟩:=I.out _ (Ext.refl _);rw[ZvZ];simp only[bxK,Zq5] at h3 I b0 b1 b2 b3 b4 b5 b6|-;clear ih hd hs hr hn hl hk hb hA hK hY hU o1 o2 o5;go_enter func139,ntmps139
  go_wp2_with (go_at_call 171;refine ZqD (HC.out _) ?_;rintro e w3 ⟨rfl,C⟩;obtain ⟨c0,c1,c2,c3,c4,c5,c6⟩:=I.out _ C)
  go_ret;exact ⟨rfl,h3.trans C⟩
 rw[Nc.nd] at D;unfold nodOk at D;rw[ZqH (show ¬(Nd.mk 0 [] n H (Nc.nds kids) t 0).kind=1 from Nat.zero_ne_one)] at D;obtain ⟨hq,hG, -,h2,hm⟩:=ZvK _ _ D;obtain ⟨ho,Y⟩:=ZvI _ _ _ hm;clear D hm;have D:=ho;clear ho;simp only[Nd.name,Nd.attrs,Nd.kids,Nd.text] at hq hG D h2 Y;subst h2;have hJ:Hid (∀(j:Nat) (h:j+1<kids.length),¬((kids[j]'(om)).nd.kind=1/\kids[j+1].nd.kind=1)):=gd (λj h=>by
  have h1:=Y j (by rw[Y8];exact h);have e1:(Nc.nds kids)[j]'(by rw[Y8];omega)=(kids[j]'(om)).nd:=by simp[Yc]
  have e2:(Nc.nds kids)[j+1]'(by rw[Y8];omega)=kids[j+1].nd:=by simp[Yc]
  rwa [e1,e2] at h1)
 have hR:Nds.ht (Nc.nds kids)<=h:=by rw[Nc.nd,Nd.ht] at hd;omega
 have ga:=gd ih;have HY:=gd hY;have HK:=gd hK;have HA:=gd hA;have HB:=gd hb;have gc:=gd (ZvX H [] hG);have ge:=gd (λj (hj:j<kids.length)=>D kids[j].nd (by rw[Yc];exact Zrv (Zq2 hj)));have h9:=gd hR;have gu:kids.length<=16777216:=om
 have HQ:=gd (λw'=>Zjw (str n) w' (by rw[Zo];omega));simp only[Zg,hq] at HQ;have HX:=gd ((Ext.refl w).alloc (.cells (bxK 0 n (.slice A H.length c) (.slice B kids.length d) []).toArray 25));have hQ:=Zvi (Ext.refl (w.alloc (.cells (bxK 0 n (.slice A H.length c) (.slice B kids.length d) []).toArray 25)));have I:=gd (λW=> @Zvi w W 0 n [] (.slice A H.length c) (.slice B kids.length d));simp only[bxK] at HX hQ I;obtain ⟨b0,b1,b2,b3,b4,b5,b6⟩:=hQ;rw[ZvM];simp only[bxK];have n0:=Xh;clear ih hd hs hr hk hb hA hK hY hR hq hG D hn Y hU gl;go_enter func139,ntmps139
 go_wp2_with (go_at_call 172;refine ZqD (HQ.out _) ?_;rintro e w3 ⟨rfl,C⟩)
 go_loopw [3] (λi wr=>∃j:Nat,j<=H.length/\i= .int .i64 j/\Ext (w.alloc (.cells (bxK 0 n (.slice A H.length c) (.slice B kids.length d) []).toArray 25)) wr) (λi _=>H.length - (intOf i).toNat)
 case atStart=>exact ⟨0,ZqO _,rfl,C⟩
 case round=>
  obtain ⟨j,hj,rfl,Q⟩:=hrel;obtain ⟨d0,d1,d2,d3,d4,d5,d6⟩:=I.out _ Q;have hP:=gd (HX.out.trans Q);have hz:=gd Q;clear b0 b1 b2 b3 b4 b5 b6 Q C;by_cases F:j<H.length
  ·have Z:=HB.out H[j] (Zq2 F);obtain ⟨ad,c',hv,O⟩:=ZvN HA.out F Z.2.2.2 Z.1;injection hv with hv1 hv2 hv3;subst hv1;clear hv2 hv3;obtain ⟨a0,a1,a2,a3⟩:=O _ hP.out;obtain ⟨o1,o2, -,o4⟩:=gc.out j F;have hT:(0:Int)<=(j:Int):=om;have gj:(j:Int)<(H.length:Int):=om;obtain ⟨bn,hf⟩:∃y,H[j].name=y:=⟨_,rfl⟩;obtain ⟨bv,hD⟩:∃y,H[j].value=y:=⟨_,rfl⟩;rw[hf] at a1 o1;rw[hD] at a2 o2;have gi:bn.length<=7:=(by rw[<-hf];exact Z.2.1);have gp:bv.length<=N:=(by rw[<-hD];exact Z.2.2.1);have hO:=gd (λw'=>Zjw (str bn) w' (by rw[Zo];omega));have hM:=gd (λw'=>ZvE (str bv) w' (by rw[Zo];unfold maxLen;omega));simp only[Zg,o1,o2] at hO hM;have gb:Hid (∀i (hi:i<j),((str (H[i]'(om)).name).toList==(str bn).toList)=false):=gd λi hi=>(by rw[Z8];have:=o4 i hi;rw[hf] at this;simpa using this);clear o1 o2 o4 hf hD Z O gi gp
   go_wp2_with (first|(refine ZqF rfl 53 (.tmp 4) (.tmp 70) rfl wr.heap.size _ rfl rfl _ _ (ZqJ _ _) ZvQ rfl (Zwf _ _ _) ?_;rw[Zh];obtain ⟨W2,he⟩:∃W2,wr.alloc (.cells #[.string (str []),.string (str bn),.string (str bv),.int .i64 0] 53)=W2:=⟨_,rfl⟩;rw[he];(have h4:Ext wr W2:=by rw[<-he];exact (Ext.refl wr).alloc _);(have hg:=λW (R:Ext W2 W)=>R.heap (show W2.heap[wr.heap.size]? =_ by rw[<-he];exact ZqJ wr (.cells #[.string (str []),.string (str bn),.string (str bv),.int .i64 0] 53)));have c0:=λW (R:Ext W2 W)=>(Zrc (hg W R) 0).trans rfl;have c1:=λW (R:Ext W2 W)=>(Zrc (hg W R) 1).trans rfl;have c2:=λW (R:Ext W2 W)=>(Zrc (hg W R) 2).trans rfl;have g0:=c0 _ (Ext.refl _);have g1:=c1 _ (Ext.refl _))|(go_at_call 172;refine ZqD (hO.out _) ?_;rintro e w4 ⟨rfl,hh⟩;have g2:=c2 _ hh)|(go_at_call 171;refine ZqD (hM.out _) ?_;rintro e w5 ⟨rfl,hH⟩))
   have X:=gd (h4.trans (hh.trans hH));have h8:=gd (λW (R:Ext w5 W)=>c1 W ((hh.trans hH).trans R));clear g0 g1 g2 c0 c1 c2 hg h4 hh hH he d0 d1 d2 d3 d4 d5 d6 a0 a1 a2 a3;obtain ⟨wP,gq⟩:∃wP:World,wP=wr:=⟨_,rfl⟩;subst gq;go_loopw [5] (λi wq=>∃q:Nat,q<=j/\i= .int .i64 q/\Ext w5 wq) (λi _=>j - (intOf i).toNat)
   case atStart=>exact ⟨0,ZqO _,rfl,Ext.refl _⟩
   case round=>
    obtain ⟨q,gx,rfl,hc⟩:=hrel;by_cases hW:q<j
    ·have hX:q<H.length:=om;have hC:=HB.out H[q] (Zq2 hX);obtain ⟨gs,gt,hv,O⟩:=ZvN HA.out hX hC.2.2.2 hC.1;injection hv with hv1 hv2 hv3;injection hv1 with hv1;subst hv1;clear hv2 hv3;obtain ⟨e0,e1,e2,e3⟩:=O _ (hP.out.trans (X.out.trans hc));have gw:=gb.out q hW;obtain ⟨f0,f1,f2,f3,f4,f5,f6⟩:=I.out _ (hz.out.trans (X.out.trans hc));have g1:=h8.out _ hc;have gm:(0:Int)<=(q:Int):=om;have gn:(q:Int)<(H.length:Int):=om;have r1:∀d:Aft wr,d.w.cell? ⟨w.heap.size,3,none⟩=some (.slice (some ad) H.length c):=Aft.cell f3;have r2:∀d:Aft wr,d.w.cell? ⟨(ad.add (q*4)).block,(ad.add (q*4)).off+1,none⟩=some (.string (str H[q].name)):=Aft.cell e1;have r3:∀d:Aft wr,d.w.cell? ⟨wP.heap.size,1,none⟩=some (.string (str bn)):=Aft.cell g1;generalize H[q].name=qn at*;clear O hC f0 f1 f2 f3 f4 f5 f6 e0 e1 e2 e3 g1;go_wp2;refine rA ?_
     repeat (first|go_big_quiet_step (fail)|quiet_step (fail))
     refine Zru ?_;rintro _ ⟨gh,rfl⟩;go_wp2;go_roundw
     case rel=>exact ⟨q+1,hW,by go_num,hc.trans gh.ext⟩
     case measure=>simp[intOf];omega
    ·have go:q=j:=om;subst go;go_wp2;go_roundw
     case rel=>exact ⟨q+1,F,by go_num,hz.out.trans (X.out.trans hc)⟩
     case measure=>simp[intOf];omega
  ·have hF:j=H.length:=om;subst hF;go_wp2;go_loopw [6] (λi wr=>∃j:Nat,j<=kids.length/\i= .int .i64 j/\Ext (w.alloc (.cells (bxK 0 n (.slice A H.length c) (.slice B kids.length d) []).toArray 25)) wr) (λi _=>kids.length - (intOf i).toNat)
   case atStart=>exact ⟨0,ZqO _,rfl,hz.out⟩
   case round=>
    obtain ⟨j,hj,rfl,Q⟩:=hrel;obtain ⟨e0,e1,e2,e3,e4,e5,e6⟩:=I.out _ Q;have J:=gd (HX.out.trans Q);have U:=gd Q;clear d0 d1 d2 d3 d4 d5 d6 Q;by_cases F:j<kids.length
    ·obtain ⟨b,yq,yn,YA,yc,yl,YB,yd,yk,yt,rfl,gz,hy,O⟩:=Zvz HK.out HY.out F;obtain ⟨a0,a1,a2,a3,a4,a5,a6⟩:=O _ J.out;have hT:(0:Int)<=(j:Int):=om;have gj:(j:Int)<(kids.length:Int):=om;obtain ⟨h6,h7⟩:=HY.out kids[j] (Zq2 F);have hS:kids[j].nd.ht<=h:=ZqM (Zwl F) h9.out;have V:=gd (λw' (R:Ext w w')=>ga.out kids[j] (dp+1) w' hS h7 (ge.out j F) (RdN.ext R _ h6));have hu:=gd (λW R=>(O W R).1);have hw:=gd (λW R=>(I.out W R).2.2.2.2.1);rw[hy] at V;simp only[ZvH,bxK] at V;have gg:Hid (yq=kids[j].nd.kind):=gd (by rw[hy];rfl);have hV:0<j->∃(q:Nat) (yp:Nat),j=q+1/\(yq=1->yp=0)/\∀W,Ext w W->W.cell? (b.add (q*7))=some (.int .i64 (yp:Nat)):=λh0=>(by obtain ⟨q,rfl⟩:∃q,j=q+1:=⟨j - 1,om⟩;obtain ⟨b2,yp,pn,PA,pc,pl,PB,pd,pk,pt,hB,hI,hp,S⟩:=Zvz HK.out HY.out (show q<kids.length by omega);injection hB with hB;subst hB;refine ⟨q,yp,rfl,λe=> ?_,λW R=>(S W R).1⟩;have h1:=hJ.out q F;have e1:yp=(kids[q]'(om)).nd.kind:=(by rw[hp];rfl);rw[<-e1,<-gg.out] at h1;omega);have gf:=gd hV;clear h6 h7 hS O hy hV;rcases (show yq=0\/yq=1 by omega) with rfl|rfl
     ·by_cases ha:0<j;have hE:(0:Int)<(j:Int):=om
      rotate_left
      have hE:¬(0:Int)<(j:Int):=om
      all_goals
       clear ha
       go_wp2_with (go_at_call 139;refine ZqD (V.out _ J.out) ?_;rintro e w3 ⟨rfl,C⟩;have p0:=hu.out _ (J.out.trans C);have p4:=hw.out _ (U.out.trans C))
       go_roundw
       case rel=>exact ⟨j+1,F,by go_num,U.out.trans C⟩
       case measure=>simp[intOf];omega
     ·by_cases ha:0<j
      ·obtain ⟨q,yp,gk,hI,S⟩:=gf.out ha;have h5:=hI rfl;subst h5;have hL:=gd S;have hE:(0:Int)<(j:Int):=om;have hZ:(j:Int) - 1=(q:Int):=om;have gy:IntKind.i64.wrap ((j:Int) - 1)=(q:Int):=(by rw[IntWalk.i64_in _ om];exact hZ);have gm:(0:Int)<=(q:Int):=om;have gn:(q:Int)<(kids.length:Int):=om;clear ha hI S gk
       go_wp2_with (go_at_call 139;refine ZqD (V.out _ J.out) ?_;rintro e w3 ⟨rfl,C⟩;have p0:=hu.out _ (J.out.trans C);have p1:=hL.out _ (J.out.trans C);have p4:=hw.out _ (U.out.trans C))
       go_roundw
       case rel=>exact ⟨j+1,F,by go_num,U.out.trans C⟩
       case measure=>simp[intOf];omega
      ·have hE:¬(0:Int)<(j:Int):=om;clear ha
       go_wp2_with (go_at_call 139;refine ZqD (V.out _ J.out) ?_;rintro e w3 ⟨rfl,C⟩;have p0:=hu.out _ (J.out.trans C);have p4:=hw.out _ (U.out.trans C))
       go_roundw
       case rel=>exact ⟨j+1,F,by go_num,U.out.trans C⟩
       case measure=>simp[intOf];omega
    ·have hF:j=kids.length:=om;subst hF;go_wp2;go_ret;exact ⟨rfl,J.out⟩
theorem ZvS (N:Nat) (R:N<=16777216) (x:Nc) (w:World) (H:x.nd.ht<=1000) (Q:x.nd.smT N) (C:nodeOk 1 x.nd=true) (O:RdN w x):
 Calls prog 97 #[.agg (cellsN x).toArray] w λe w'=>e= .returned (.int .i64 0)/\Ext w w':=by
 have hd:=Zwk _ _ C;have h:=(ZvK _ _ C).2.2.1;have X:=gd (λw' (S:Ext w w')=>ZvT N R 1000 x w' (by decide) H Q (RdN.ext S _ O));have Y:=gd (λw' (S:Ext w w')=>ZvV N R 1000 x 1 w' H Q (by unfold nodOk;rw[ZqH om];exact C) (RdN.ext S _ O));have ha:¬(100:Int)<(x.nd.depT:Int):=om
 obtain ⟨k,n,A,c,V,B,d,kids,t,rfl, -⟩:=Zvt Q O;rw[Nc.nd] at h
 replace h:k=0:=h
 subst h;simp only[ZvM,bxK] at*;generalize Nd.depT _=D at*;have J:=gd ((Ext.refl w).alloc (.cells (bxK 0 n (.slice A V.length c) (.slice B kids.length d) t).toArray 25));have F:=gd (λW=> @Zvi w W 0 n t (.slice A V.length c) (.slice B kids.length d));obtain ⟨b0,b1,b2,b3,b4,b5,Z⟩:=F.out _ (Ext.refl _);simp only[bxK] at J b0 b1 b2 b3 b4 b5 Z F;clear Q C O hd R H;go_enter func97,ntmps97
 go_wp2_with (first|(go_at_call 138;refine ZqD (X.out _ J.out) ?_;rintro e w3 ⟨rfl,I⟩;obtain ⟨d0,d1,d2,d3,d4,d5,d6⟩:=F.out _ I)|(go_at_call 139;refine ZqD (Y.out _ (J.out.trans I)) ?_;rintro e w4 ⟨rfl,U⟩))
 go_ret;exact ⟨rfl,(J.out.trans I).trans U⟩
section
set_option linter.unusedSimpArgs false
attribute [local go_sem] calm1
theorem ZwF (n:List UInt8):(#[.int .i64 0,.string ⟨#[]⟩,.string (str n),.slice none 0 0,.slice none 0 0,.string ⟨#[]⟩,.int .i64 0]:Array Value).all (λu=>u.oneCell')=true:=by simp[Value.oneCell']
theorem ZvF (nm:List UInt8) (v:Value) (l:List Nc) (w:World) (hv:RNs w v l) (hk:∀y∈l,RdN w y/\(y.kind=0\/y.kind=1)) (hn:l.length<=16777216):
 Calls prog 44 #[.string (str nm),v] w λe w'=>∃ks,e= .returned (.agg (cellsN (.mk 0 [] nm (.slice none 0 0) [] ks (l.filter keepC) [] 0)).toArray)/\w'.ownsRow w.heap.size 25 7 ks (l.filter keepC).length (flatN (l.filter keepC))/\Ext w w':=by
 obtain ⟨i0,hE,hL,hM,hN⟩:=ZrE Xn;obtain ⟨A,c,hR, -, -⟩:=RNs.form hv;subst hR;have HV:=gd hv;have HK:=gd hk;have HN:=gd hn;clear hv hk hn;go_enter func44,ntmps44
 go_wp2_with (first|(refine ZqF rfl 25 (.tmp 5) (.tmp 8) rfl (w.heap.size+1) _ rfl rfl _ _ (ZI w _ _) Ze rfl (ZwF nm) ?_))
 go_loopw [6] (λv wr=>∃(j:Nat) (u:Value),j<=l.length/\v= .int .i64 j/\EbX wr (w.heap.size+1) nm u/\wr.heap[w.heap.size]? =some (.cells #[.int .i64 0,.string ⟨#[]⟩,.string ⟨#[]⟩,.slice none 0 0,.slice none 0 0,.string ⟨#[]⟩,.int .i64 0] 25 (0,0))/\wr.ownsRow (w.heap.size+2) 25 7 u ((l.take j).filter keepC).length (flatN ((l.take j).filter keepC))/\Ext w wr/\w.heap.size+2<=wr.heap.size) (λv _=>l.length - (intOf v).toNat)
 case atStart=>exact ⟨0,.slice none 0 0,ZqO _,rfl,ZqV _ _ _ _ _ _ (ZI w _ _),(Zrn _ _ _ _ om).trans ((Zsz _ _ (by rw[Zd];omega)).trans (ZqJ w _)),Zrt _ _ _ _,(((Ext.refl w).alloc _).alloc _).setRow om _,(by have h:=(ZG ((w.alloc (.cells #[.int .i64 0,.string ⟨#[]⟩,.string ⟨#[]⟩,.slice none 0 0,.slice none 0 0,.string ⟨#[]⟩,.int .i64 0] 25)).alloc (.cells #[.int .i64 0,.string ⟨#[]⟩,.string ⟨#[]⟩,.slice none 0 0,.slice none 0 0,.string ⟨#[]⟩,.int .i64 0] 25)) (w.heap.size+1) #[.int .i64 0,.string ⟨#[]⟩,.string (str nm),.slice none 0 0,.slice none 0 0,.string ⟨#[]⟩,.int .i64 0]).size;rw[Zd,Zd] at h;exact h)⟩
 case round=>
  obtain ⟨j,u,hj,rfl,hb,hp,Q,hx,hws⟩:=hrel;obtain ⟨U,uc,rfl⟩:=Zp Q;obtain ⟨d0,d1,d2,d3,d4,d5,d6,d7⟩:=hb.cells;by_cases X:j<l.length
  ·obtain ⟨b,c',hv,hl⟩:=HV.out.at X;injection hv with hv1 hv2 hv3;subst hv1;clear hv2 hv3;have hY:=HN.out;have hW:(0:Int)<=(j:Int):=om;have hX:(j:Int)<(l.length:Int):=om;have ho:=ZkT X;have hm:=ZkS X;have hB:((l.take j).filter keepC).length<=j:=ZqM (List.length_filter_le _ _) (by rw[Zra];omega);obtain ⟨O,hO⟩:∃O,(l.take j).filter keepC=O:=⟨_,rfl⟩;rw[hO] at Q ho hm hB;simp only[hO] at d4 hb;obtain ⟨hI,hy⟩:=HK.out l[j] (Zq2 X);have hF:=RdN.sl hI;obtain ⟨y,hJ⟩:∃y,l[j]=y:=⟨_,rfl⟩;rw[hJ] at hl ho hm hF hy;obtain ⟨yk,ys,yn,hZ,yl,h0,D,Y,ya⟩:=y;obtain ⟨⟨YA,ym,yc,hG⟩,⟨YB,H,yd,hH⟩⟩:=hF;simp only[Nc.al,Nc.ks,Nc.kind] at hG hH hy;subst hG;subst hH;have hC:=hl;obtain ⟨z0, -⟩:=hC;obtain ⟨a0,a1,a2,a3,a4,a5,a6⟩:=hl.ext hx;simp only[Nc.kind,Nc.space,Nc.name,Nc.al,Nc.ks,Nc.text,Nc.at_] at a0 a1 a2 a3 a4 a5 a6 z0;have hr:=ZH (x:= .mk yk ys yn (.slice YA ym yc) yl (.slice YB H yd) D Y ya) ⟨⟨_,_,_,rfl⟩,⟨_,_,_,rfl⟩⟩;have hA:=gd ho;have hP:=gd hm;obtain ⟨HM,HB⟩:=Va (n:=O.length) om;have HM:=gd HM;have HB:=gd HB;have I:=gd (show EbX wr (w.heap.size+1) nm (.slice U O.length uc) from hb);have ht:=gd hp;have F:=gd Q;have HX:=gd hx;have Z:=gd hws;clear ho hm hI hJ hx Q hb hp hws hO hB hl;rcases hy with rfl|rfl
   ·replace a0:wr.cell? (b.add (j*7))=some (.int .i64 0):=a0
    have hs:=gd (hA.out (by unfold keepC;simp[Nc.kind]));go_wp2;obtain ⟨q,hq⟩:∃q,b.add (j*7)=q:=⟨_,rfl⟩;have ha:q.block<wr.heap.size:=(by rw[<-hq];exact ZrL wr _ a0);have hV:q.block<w.heap.size:=(by rw[<-hq];exact ZrL w _ z0);rw[hq] at a0 a1 a2 a3 a4 a5 a6;refine rN ?_;change wpAny _ _ _ _ _ _ _ (World.drew _);refine tH 0 (.pointer (some ⟨w.heap.size+1,4,none⟩)) ?_;refine tH 2 (.slice (some b) l.length c) ?_;refine tH 3 (.int .i64 j) ?_;refine Yn (i:=1) (v:= .slice U O.length uc) (λw'=>EbX w' (w.heap.size+1) nm (.slice U O.length uc)/\w'.heap[q.block]? =wr.heap[q.block]?) 9 rfl (by kernel_rfl) (λ_ _ _ h=>h) (Or.inl ⟨by rfl,λw' S=>by have hU:=S.1.cells.2.2.2.2.1;go_simp⟩) ⟨I.out,rfl⟩ ?_;refine tT 4 (.pointer (some (b.add (j*7)))) rfl (λw' S=>by go_simp) ⟨I.out,rfl⟩ ?_;rw[hq];refine tT 5 (.agg #[.int .i64 0,.string (str ys),.string (str yn),.slice YA ym yc,.slice YB H yd,.string (str Y),.int .i64 (ya:Nat)]) rfl (λw' S=>by
     have e0:=(Zrs (a:=q) S.2).trans a0;have e1:=(Zrs (a:=⟨q.block,q.off+1,none⟩) S.2).trans a1;have e2:=(Zrs (a:=⟨q.block,q.off+2,none⟩) S.2).trans a2;have e3:=(Zrs (a:=⟨q.block,q.off+3,none⟩) S.2).trans a3;have e4:=(Zrs (a:=⟨q.block,q.off+4,none⟩) S.2).trans a4;have e5:=(Zrs (a:=⟨q.block,q.off+5,none⟩) S.2).trans a5;have e6:=(Zrs (a:=⟨q.block,q.off+6,none⟩) S.2).trans a6;go_simp) ⟨I.out,rfl⟩ ?_
    refine YZ 9 [] (AtIx.cons rfl AtIx.nil) [6,7,8] (AtIx.cons rfl (AtIx.cons rfl (AtIx.cons rfl AtIx.nil))) rfl (by kernel_rfl) ?_;have hw:=(Ext.refl wr).drew;have C:Ext wr (wr.drew.alloc (.cells #[.int .i64 0,.string (str ys),.string (str yn),.slice YA ym yc,.slice YB H yd,.string (str Y),.int .i64 (ya:Nat)] 25)):=hw.alloc _;have hf:w.heap.size+1<wr.heap.size:=(by have:=Z.out;omega);refine Zq (λK hK=> ?_);go_simp;refine hK _ _ ⟨C.heap I.out,Zsz _ _ ha⟩ ?_;clear hK K;have he:=gd (Zt F.out C);have hd:Hid (RSl (wr.drew.alloc (.cells #[.int .i64 0,.string (str ys),.string (str yn),.slice YA ym yc,.slice YB H yd,.string (str Y),.int .i64 (ya:Nat)] 25)) 7 (.slice (some ⟨wr.heap.size,0,none⟩) 1 1) 1 (cellsN (.mk 0 ys yn (.slice YA ym yc) yl (.slice YB H yd) D Y ya))):=gd (Zj (w:=wr.drew) (cs:=cellsN (.mk 0 ys yn (.slice YA ym yc) yl (.slice YB H yd) D Y ya)) rfl (by decide));refine Zq (λK hK=> ?_);refine Zk _ (by rfl) (.tmp 30) (.tmp 35) _ (by rfl) (w.heap.size+2) 25 i0 _ 7 112 underlying23 hE hL hM hN rfl (by decide) _ O.length (flatN O) (by rfl) he.out _ 1 (cellsN (.mk 0 ys yn (.slice YA ym yc) yl (.slice YB H yd) D Y ya)) (by rfl) hd.out hr HM.out HB.out (ZqM Z.out C.size) ?_;intro v9 w9 R J hD;have V:EbX w9 (w.heap.size+1) nm (.slice U O.length uc):=(J.block _ (Zrx hf C.size) (λe=>by have:=(F.out.lt _ e.symm).1;omega)).trans (C.heap I.out);have hz:=(J.block _ (Zrx (Nat.lt_of_succ_lt hf) C.size) (λe=>by have:=(F.out.lt _ e.symm).1;omega)).trans (C.heap ht.out);have hi:w9.heap[q.block]? =wr.heap[q.block]?:=(J.block _ (Zrx ha C.size) (λe=>by have:=(F.out.lt _ e.symm).1;omega)).trans (Zsz _ _ ha);refine hK _ _ ⟨V,hi⟩ ?_;clear hK K;refine Zq (λK hK=> ?_);go_simp;refine hK _ _ ⟨V,hi⟩ ?_;clear hK K;refine YJ ?_;obtain ⟨V9,c9,hu⟩:=Zp R;subst hu;obtain ⟨g0,g1,g2,g3,g4,g5,g6,g7⟩:=V.cells;have hg:=hs.out;have hh:(O++ [Nc.mk 0 ys yn (.slice YA ym yc) yl (.slice YB H yd) D Y ya]).length=O.length+1:=(by rw[ZqG];rfl);go_wp2;go_roundw
    case rel=>
     refine ⟨j+1,.slice V9 (O.length+1) c9,X,by go_num,Zrh w9 (w.heap.size+1) 4 _ _ _ V,(ZrN w9 ⟨w.heap.size+1,4,none⟩ w.heap.size _ (by show w.heap.size≠w.heap.size+1;omega)).trans hz,?_,(Ext.app (HX.out.trans C) J he.out om).setCell (by show _<=w.heap.size+1;omega) _,?_⟩
     ·rw[hg,hh,Xm,Yq];exact ZsM R (by show w.heap.size+1<_;omega) _
     ·have h1:=J.size;have h2:=C.size;have h3:=Z.out;have h4:=ZqM h2 h1;clear h1 h2;simp[World.setCell];omega
    case measure=>simp[intOf];omega
   ·replace a0:wr.cell? (b.add (j*7))=some (.int .i64 1):=a0
    by_cases hc:Y= []
    ·have n0:=Xh;have hQ:=gd hc;rw[hc] at a5;clear hc;go_wp2;have hg:=hP.out (by unfold keepC;simp[Nc.kind,Nc.text,hQ.out]);go_roundw
     case rel=>refine ⟨j+1,.slice U O.length uc,X,by go_num,I.out,ht.out,?_,HX.out,Z.out⟩;rw[hg];exact F.out
     case measure=>simp[intOf];omega
    ·have q2:=JX hc;have hs:=gd (hA.out (by unfold keepC;simp[Nc.kind,Nc.text,hc]));clear hc;go_wp2;obtain ⟨q,hq⟩:∃q,b.add (j*7)=q:=⟨_,rfl⟩;have ha:q.block<wr.heap.size:=(by rw[<-hq];exact ZrL wr _ a0);have hV:q.block<w.heap.size:=(by rw[<-hq];exact ZrL w _ z0);rw[hq] at a0 a1 a2 a3 a4 a5 a6;refine rN ?_;change wpAny _ _ _ _ _ _ _ (World.drew _);refine tH 0 (.pointer (some ⟨w.heap.size+1,4,none⟩)) ?_;refine tH 2 (.slice (some b) l.length c) ?_;refine tH 3 (.int .i64 j) ?_;refine Yn (i:=1) (v:= .slice U O.length uc) (λw'=>EbX w' (w.heap.size+1) nm (.slice U O.length uc)/\w'.heap[q.block]? =wr.heap[q.block]?) 9 rfl (by kernel_rfl) (λ_ _ _ h=>h) (Or.inl ⟨by rfl,λw' S=>by have hU:=S.1.cells.2.2.2.2.1;go_simp⟩) ⟨I.out,rfl⟩ ?_;refine tT 4 (.pointer (some (b.add (j*7)))) rfl (λw' S=>by go_simp) ⟨I.out,rfl⟩ ?_;rw[hq];refine tT 5 (.agg #[.int .i64 1,.string (str ys),.string (str yn),.slice YA ym yc,.slice YB H yd,.string (str Y),.int .i64 (ya:Nat)]) rfl (λw' S=>by
      have e0:=(Zrs (a:=q) S.2).trans a0;have e1:=(Zrs (a:=⟨q.block,q.off+1,none⟩) S.2).trans a1;have e2:=(Zrs (a:=⟨q.block,q.off+2,none⟩) S.2).trans a2;have e3:=(Zrs (a:=⟨q.block,q.off+3,none⟩) S.2).trans a3;have e4:=(Zrs (a:=⟨q.block,q.off+4,none⟩) S.2).trans a4;have e5:=(Zrs (a:=⟨q.block,q.off+5,none⟩) S.2).trans a5;have e6:=(Zrs (a:=⟨q.block,q.off+6,none⟩) S.2).trans a6;go_simp) ⟨I.out,rfl⟩ ?_
     refine YZ 9 [] (AtIx.cons rfl AtIx.nil) [6,7,8] (AtIx.cons rfl (AtIx.cons rfl (AtIx.cons rfl AtIx.nil))) rfl (by kernel_rfl) ?_;have hw:=(Ext.refl wr).drew;have C:Ext wr (wr.drew.alloc (.cells #[.int .i64 1,.string (str ys),.string (str yn),.slice YA ym yc,.slice YB H yd,.string (str Y),.int .i64 (ya:Nat)] 25)):=hw.alloc _;have hf:w.heap.size+1<wr.heap.size:=(by have:=Z.out;omega);refine Zq (λK hK=> ?_);go_simp;refine hK _ _ ⟨C.heap I.out,Zsz _ _ ha⟩ ?_;clear hK K;have he:=gd (Zt F.out C);have hd:Hid (RSl (wr.drew.alloc (.cells #[.int .i64 1,.string (str ys),.string (str yn),.slice YA ym yc,.slice YB H yd,.string (str Y),.int .i64 (ya:Nat)] 25)) 7 (.slice (some ⟨wr.heap.size,0,none⟩) 1 1) 1 (cellsN (.mk 1 ys yn (.slice YA ym yc) yl (.slice YB H yd) D Y ya))):=gd (Zj (w:=wr.drew) (cs:=cellsN (.mk 1 ys yn (.slice YA ym yc) yl (.slice YB H yd) D Y ya)) rfl (by decide));refine Zq (λK hK=> ?_);refine Zk _ (by rfl) (.tmp 30) (.tmp 35) _ (by rfl) (w.heap.size+2) 25 i0 _ 7 112 underlying23 hE hL hM hN rfl (by decide) _ O.length (flatN O) (by rfl) he.out _ 1 (cellsN (.mk 1 ys yn (.slice YA ym yc) yl (.slice YB H yd) D Y ya)) (by rfl) hd.out hr HM.out HB.out (ZqM Z.out C.size) ?_;intro v9 w9 R J hD;have V:EbX w9 (w.heap.size+1) nm (.slice U O.length uc):=(J.block _ (Zrx hf C.size) (λe=>by have:=(F.out.lt _ e.symm).1;omega)).trans (C.heap I.out);have hz:=(J.block _ (Zrx (Nat.lt_of_succ_lt hf) C.size) (λe=>by have:=(F.out.lt _ e.symm).1;omega)).trans (C.heap ht.out);have hi:w9.heap[q.block]? =wr.heap[q.block]?:=(J.block _ (Zrx ha C.size) (λe=>by have:=(F.out.lt _ e.symm).1;omega)).trans (Zsz _ _ ha);refine hK _ _ ⟨V,hi⟩ ?_;clear hK K;refine Zq (λK hK=> ?_);go_simp;refine hK _ _ ⟨V,hi⟩ ?_;clear hK K;refine YJ ?_;obtain ⟨V9,c9,hu⟩:=Zp R;subst hu;obtain ⟨g0,g1,g2,g3,g4,g5,g6,g7⟩:=V.cells;have hg:=hs.out;have hh:(O++ [Nc.mk 1 ys yn (.slice YA ym yc) yl (.slice YB H yd) D Y ya]).length=O.length+1:=(by rw[ZqG];rfl);go_wp2;go_roundw
     case rel=>
      refine ⟨j+1,.slice V9 (O.length+1) c9,X,by go_num,Zrh w9 (w.heap.size+1) 4 _ _ _ V,(ZrN w9 ⟨w.heap.size+1,4,none⟩ w.heap.size _ (by show w.heap.size≠w.heap.size+1;omega)).trans hz,?_,(Ext.app (HX.out.trans C) J he.out om).setCell (by show _<=w.heap.size+1;omega) _,?_⟩
      ·rw[hg,hh,Xm,Yq];exact ZsM R (by show w.heap.size+1<_;omega) _
      ·have h1:=J.size;have h2:=C.size;have h3:=Z.out;have h4:=ZqM h2 h1;clear h1 h2;simp[World.setCell];omega
     case measure=>simp[intOf];omega
  ·have hT:j=l.length:=om;subst hT;rw[List.take_length] at Q;simp only[List.take_length] at hb d4;clear X hj;have F:=gd Q;have HX:=gd hx;clear Q hx hb
   go_wp2_with (first|(refine ZqF rfl 25 (.tmp 4) (.tmp 38) rfl w.heap.size _ rfl rfl _ _ hp Ze rfl ZnN ?_))
   ((try simp only[Exit.inBlock,Exit.then]);refine ZqT (ZrO rfl _ _ _ _ _ _ _ rfl (ZqV _ _ _ _ _ _ hp) underlying25 rfl Ze) rfl ?_);exact ⟨_,rfl,Xy (Yh F.out om _) om,HX.out.setRow (ZqE _) _⟩
end
section
set_option linter.unusedSimpArgs false
theorem Zvy (nm s:List UInt8) (w:World):
 Calls prog 43 #[.string (str nm),.string (str s)] w λe w'=>∃y,e= .returned (.agg (cellsN y).toArray)/\NdOf w' y (textN nm s)/\(∀k,k<w.heap.size->awayN (some k) y)/\Ext w w':=by
 obtain ⟨W1,A⟩:∃W1,w.alloc (.cells #[.int .i64 0,.string ⟨#[]⟩,.string ⟨#[]⟩,.slice none 0 0,.slice none 0 0,.string ⟨#[]⟩,.int .i64 0] 25)=W1:=⟨_,rfl⟩;have H:Ext w W1:=by rw[<-A];exact (Ext.refl w).alloc _
 have J:W1.heap[w.heap.size]? =some (.cells #[.int .i64 0,.string ⟨#[]⟩,.string ⟨#[]⟩,.slice none 0 0,.slice none 0 0,.string ⟨#[]⟩,.int .i64 0] 25 (0,0)):=by rw[<-A];exact ZqJ w _
 have F:w.heap.size<W1.heap.size:=by rw[<-A,Zd];omega
 have Q:=gd H;have R:=gd J;have D:=gd F;have O:=gd (λ(U:World)=>ZvF nm (.slice (some ⟨U.heap.size,0,none⟩) 1 1) [txtC s] (U.alloc (.cells #[.int .i64 1,.string ⟨#[]⟩,.string ⟨#[]⟩,.slice none 0 0,.slice none 0 0,.string (str s),.int .i64 0] 25)) (by show RSl _ 7 _ 1 (flatN [txtC s]);rw[Yq];exact Zj (n:=1) (cs:=cellsN (txtC s)) rfl (by decide)) (λy V=>by rw[ZqU.1 V];exact ⟨rdT s _,Or.inr rfl⟩) (by simp));clear H J F;go_enter func43,ntmps43
 go_wp2_with (first|(go_at_call 44;(refine ZqD (O.out W1) ?_);rintro e w3 ⟨ks,rfl,C,S⟩;obtain ⟨Y,kc,rfl⟩:=Zp C;have h:=((Ext.refl W1).alloc (.cells #[.int .i64 1,.string ⟨#[]⟩,.string ⟨#[]⟩,.slice none 0 0,.slice none 0 0,.string (str s),.int .i64 0] 25)).trans S;have I:=h.heap R.out)|(refine ZqF rfl 25 (.tmp 4) (.tmp 9) rfl w.heap.size _ rfl rfl _ _ I Ze rfl ZnN ?_))
 ((try simp only[Exit.inBlock,Exit.then]);refine ZqT (ZrO rfl _ _ _ _ _ _ _ rfl (ZqV _ _ _ _ _ _ I) underlying25 rfl Ze) rfl ?_);refine ⟨txN nm s _,rfl,⟨Zp6 (RSl.of_own (Yh C (by have:=D.out;rw[Zd];omega) _)),rfl,Zp5 _ _ _⟩,λk Z=>Zn7 (λe=>by have X:=(C.lt k e.symm).1;have q1:=D.out;rw[Zd] at X;omega),(Q.out.trans h).setRow (ZqE _) _⟩
end
section
attribute [local go_sem] calm1
theorem Zwy {ps:List (List UInt8×List UInt8)} {j:Nat} (h:j<ps.length):(pairS ps)[2*j]? =some (str ps[j].1)/\(pairS ps)[2*j+1]? =some (str ps[j].2):=by
 have e:pairS ps=pairS (ps.take j)++pairS (ps.drop j):=by unfold pairS;rw[<-ZsP,<-Zrf,ZrR]
 have A:(pairS (ps.take j)).length=2*j:=by rw[Zew,Zra];omega
 rw[Zjj h] at e;rw[e];refine ⟨?_,?_⟩
 ·rw[ZrP om,A,Nat.sub_self];rfl
 ·rw[ZrP om,A,show 2*j+1 - 2*j=1 by omega];rfl
theorem ZvL (n:List UInt8) (al:Value) (F:List AtP) (m2 d:Nat) (B0:Option Addr) (v:Value) (ps:List (List UInt8×List UInt8)) (w:World) (ha:RAts w al F) (hv:RStrs w v (pairS ps)) (hn:F.length+ps.length<=1000000):
 Calls prog 45 #[.agg #[.int .i64 0,.string ⟨#[]⟩,.string (str n),al,.slice B0 m2 d,.string ⟨#[]⟩,.int .i64 0],v] w λe w'=>
  ∃AB ac,e= .returned (.agg #[.int .i64 0,.string ⟨#[]⟩,.string (str n),.slice AB (F.length+ps.length) ac,.slice B0 m2 d,.string ⟨#[]⟩,.int .i64 0])/\w'.ownsRow w.heap.size 53 4 (.slice AB (F.length+ps.length) ac) (F.length+ps.length) (flatA (F++ps.map pairA))/\Ext w w':=by
 obtain ⟨i0,hC,hE,hF,hG⟩:=ZrE Zfd;obtain ⟨A,c,hX, -, -⟩:=ha.form;subst hX;obtain ⟨D,dc,h3, -, -⟩:=RStrs.form hv;subst h3;have hk:=Zew ps;obtain ⟨q,hq⟩:∃q,(pairS ps).length=q:=⟨_,rfl⟩;rw[hq] at hv hk|-;have hO:=gd hk;obtain ⟨W1,U⟩:∃W1,(w.alloc (.cells #[.int .i64 0,.string ⟨#[]⟩,.string (str n),.slice A F.length c,.slice B0 m2 d,.string ⟨#[]⟩,.int .i64 0] 25)).alloc (.cells #[.int .i64 0,.string ⟨#[]⟩,.string ⟨#[]⟩,.slice none 0 0,.slice none 0 0,.string ⟨#[]⟩,.int .i64 0] 25)=W1:=⟨_,rfl⟩;have he:Ext w W1:=by rw[<-U];exact ((Ext.refl w).alloc _).alloc _
 have hi:BxN W1 w.heap.size 0 [] n (.slice A F.length c) (.slice B0 m2 d) [] 0:=by rw[<-U];exact (Zsz _ _ (by rw[Zd];omega)).trans (ZqJ w _)
 have hI:W1.heap[w.heap.size+1]? =some (.cells #[.int .i64 0,.string ⟨#[]⟩,.string ⟨#[]⟩,.slice none 0 0,.slice none 0 0,.string ⟨#[]⟩,.int .i64 0] 25 (0,0)):=by rw[<-U];exact ZI w _ _
 have hd:W1.heap.size=w.heap.size+2:=by rw[<-U,Zd,Zd]
 have b3:=hi.cells.2.2.2.1;have hQ:=gd he;have hL:=gd hi;have hU:=gd hI;have hg:=gd hd;have HV:=gd (hv.ext he);have HN:=gd hn;have hr:=gd (Y9 (w:=W1) (base:=W1.heap.size) (e:=53) (size:=4) (n:=0) (cs:= []) (ZqE _) rfl (by decide));have HA:=gd ((ha.ext he).ext ((Ext.refl W1).alloc (.cells #[] 53)));have hV:=((Ext.refl W1).alloc (.cells #[] 53)).cell b3;clear he hi hI hd ha hv hk hq;go_enter func45,ntmps45;have h0:F.length+ps.length<=1000000:=HN.out
 go_wp2_with (first|(at_builtin;refine Za _ rfl (.tmp 7) (.tmp 9) _ rfl W1.heap.size 53 i0 _ 4 56 underlying22 hC hE hF hG rfl (by decide) _ 0 [] rfl hr.out _ F.length (flatA F) rfl HA.out (Ziw F) (by unfold maxLen;omega) om (by rw[Zd];omega) ?_;intro v9 w9 C S V))
 have hT:=gd (Ext.app ((Ext.refl W1).alloc (.cells #[] 53)) S hr.out (ZqE _));rw[ZrH,Zrl] at C;have hN:=gd C;clear S V C U b3 hV;go_wp2;go_loopw [5,6] (λu v wr=>∃(j t:Nat),j<=ps.length/\v= .int .i64 t/\t=2*j/\wr.ownsRow W1.heap.size 53 4 u (F.length+j) (flatA (F++(ps.take j).map pairA))/\Ext W1 wr) (λ_ v _=>q - (intOf v).toNat)
 case atStart=>exact ⟨0,0,ZqO _,rfl,rfl,(by rw[List.take_zero,Zrz,Zrb];exact hN.out),hT.out⟩
 case round=>
  obtain ⟨j,t,hj,rfl,ht,I,hx⟩:=hrel;have h1:=hO.out;obtain ⟨G,gc,rfl⟩:=Zp I;have h0:F.length+ps.length<=1000000:=HN.out;by_cases hc:j<ps.length
  ·obtain ⟨e1,e2⟩:=Zwy hc;rw[<-ht] at e1 e2;obtain ⟨ad,hz,J⟩:=RSl.at1' HV.out t (.string (str ps[j].1)) (by rw[Zrq,e1];rfl);obtain ⟨h6,R,O⟩:=RSl.at1' HV.out (t+1) (.string (str ps[j].2)) (by rw[Zrq,e2];rfl);rw[hz] at R;injection R with R;subst R;subst hz;have hl:(ps.take (j+1)).map pairA=(ps.take j).map pairA++ [pairA ps[j]]:=(by rw[ZqQ hc,Zrf];rfl);obtain ⟨p,hp⟩:∃p,ps[j]=p:=⟨_,rfl⟩;rw[hp] at J O hl;have hY:=J;have J:=hx.cell J;have O:=hx.cell O;have hP:=gd hl;have hf:=gd I;have hh:=gd hx;have g0:(0:Int)<=(t:Int):=om;have g1:(t:Int)<(q:Int):=om;have g2:(t:Int)+1<(q:Int):=om;have g3:(0:Int)<=(t:Int)+1:=om;have h5:t<=2000000:=om;have HT:=gd ht;have h8:IntKind.i64.wrap ((t:Int)+1)=(t:Int)+1:=IntWalk.i64_in _ om;have hA:ad.add (t+1)=⟨ad.block,ad.off+(t+1),none⟩:=ZqH om;rw[hA] at O;have q1:∀d:Aft wr,d.w.cell? (ad.add t)=some (.string (str p.1)):=Aft.cell J;have q2:∀d:Aft wr,d.w.cell? (ad.add (t+1))=some (.string (str p.2)):=Aft.cell O;clear hl hp I hx e1 e2 ht h1;go_wp2;refine rN ?_;change wpAny _ _ _ _ _ _ _ (World.drew _);have hm:=(Ext.refl wr).drew;have hW:ad.block<W1.heap.size:=(by have h:=ZrL W1 _ hY;rwa [Xt] at h);have H:wr.drew.cell? (ad.add t)=some (.string (str p.1))/\wr.drew.cell? ⟨ad.block,ad.off+(t+1),none⟩=some (.string (str p.2)):=⟨hm.cell J,hm.cell O⟩;refine ZE (λw'=>w'.cell? (ad.add t)=some (.string (str p.1))/\w'.cell? ⟨ad.block,ad.off+(t+1),none⟩=some (.string (str p.2))) ?_;refine tG 0 (.slice G (F.length+j) gc) H ?_;refine tG 1 (.slice (some ad) q dc) H ?_;refine tG 2 (.int .i64 ((t:Int))) H ?_;refine tG 3 (.pointer (some (ad.add t))) H ?_;refine tS 4 (.string (str p.1)) rfl (λw' hS=>by have q1:=hS.1;go_simp) H ?_;refine tG 5 (.slice (some ad) q dc) H ?_;refine tG 6 (.int .i64 ((t:Int))) H ?_;refine tG 7 (.int .i64 ((t:Int)+1)) H ?_;refine tS 8 (.pointer (some (ad.add (t+1)))) rfl (λw' hS=>by go_simp) H ?_;refine tS 9 (.string (str p.2)) rfl (λw' hS=>by have q1:=hS.2;go_simp) H ?_;refine tG 10 (.agg #[.string ⟨#[]⟩,.string (str p.1),.string (str p.2),.int .i64 0]) H ?_;go_simp;refine sS 11 λK hK=> ?_;go_simp;have Q:=hm.alloc (.cells #[.string ⟨#[]⟩,.string (str p.1),.string (str p.2),.int .i64 0] 53);refine hK _ _ ⟨Q.cell J,Q.cell O⟩ ?_;clear hK K;have ho:Hid (RSl (wr.drew.alloc (.cells #[.string ⟨#[]⟩,.string (str p.1),.string (str p.2),.int .i64 0] 53)) 4 (.slice (some ⟨wr.heap.size,0,none⟩) 1 1) 1 (cellsA (pairA p))):=gd (Zj (w:=wr.drew) (n:=1) (cs:=cellsA (pairA p)) rfl (by decide));have hs:=gd (Zt hf.out Q);refine sS 12 λK hK=> ?_;refine Zk _ (by rfl) (.tmp 18) (.tmp 29) _ (by rfl) W1.heap.size 53 i0 _ 4 56 underlying22 hC hE hF hG rfl (by decide) _ (F.length+j) (flatA (F++(ps.take j).map pairA)) (by rfl) hs.out _ 1 (cellsA (pairA p)) (by rfl) ho.out (XM _) (by unfold maxLen;omega) om (hh.out.trans Q).size ?_;intro v9 w9 C S V;have h4:Ext W1 w9:=Ext.app (hh.out.trans Q) S hs.out (ZqE _);have hb:w9.heap[ad.block]? =(wr.drew.alloc (.cells #[.string ⟨#[]⟩,.string (str p.1),.string (str p.2),.int .i64 0] 53)).heap[ad.block]?:=S.block _ (Zrx hW (hh.out.trans Q).size) (λe=>by have:=(hf.out.lt _ e.symm).1;omega);have hy:w9.cell? (ad.add t)=some (.string (str p.1))/\w9.cell? ⟨ad.block,ad.off+(t+1),none⟩=some (.string (str p.2)):=⟨(Zrs (by rw[Xt];exact hb)).trans (Q.cell J),(Zrs (a:=⟨ad.block,ad.off+(t+1),none⟩) hb).trans (Q.cell O)⟩;obtain ⟨V9,c9,h2⟩:=Zp C;subst h2;have hu:Hid (w9.ownsRow W1.heap.size 53 4 (.slice V9 (F.length+j+1) c9) (F.length+(j+1)) (flatA (F++(ps.take (j+1)).map pairA))):=(by show w9.ownsRow _ _ _ _ _ _;rw[hP.out,<-ZqY,QT,QV];exact C);have hw:=gd h4;refine hK _ _ hy ?_;clear hK K C S V;refine sS 13 λK hK=> ?_;go_simp;refine hK _ _ hy ?_;clear hK K;refine sE ?_;go_wp2;go_roundw
   case rel=>exact ⟨j+1,t+2,hc,by go_num,(by have:=HT.out;omega),hu.out,hw.out⟩
   case measure=>simp[intOf];omega
  ·have hZ:j=ps.length:=om;subst hZ;rw[List.take_length] at I;have h7:¬2*(ps.length:Int)+1<2*(ps.length:Int):=om;have HO:=gd I;have Z:=hL.out.ext hx;have hJ:=hx.heap hU.out;obtain ⟨b0,b1,b2,b3,b4,b5,b6⟩:=Z.cells;obtain ⟨-, -,f3, -⟩:=Z.frozen;obtain ⟨W5,Y⟩:∃W5,wr.setCell ⟨w.heap.size,3,none⟩ (.slice G (F.length+ps.length) gc)=W5:=⟨_,rfl⟩;have hB:BxN W5 w.heap.size 0 [] n (.slice G (F.length+ps.length) gc) (.slice B0 m2 d) [] 0:=(by rw[<-Y];exact Z.attrs _);have hH:W5.heap[w.heap.size+1]? =some (.cells #[.int .i64 0,.string ⟨#[]⟩,.string ⟨#[]⟩,.slice none 0 0,.slice none 0 0,.string ⟨#[]⟩,.int .i64 0] 25 (0,0)):=(by rw[<-Y];exact (ZrN wr ⟨w.heap.size,3,none⟩ (w.heap.size+1) _ (by show w.heap.size+1≠w.heap.size;omega)).trans hJ);have hd:=hg.out;have X:W5.ownsRow W1.heap.size 53 4 (.slice G (F.length+ps.length) gc) (F.length+ps.length) (flatA (F++ps.map pairA)):=(by rw[<-Y];exact ZsM I (by show w.heap.size<_;omega) _);have hD:Ext w W5:=(by rw[<-Y];exact (hQ.out.trans hx).setCell (ZqE _) _);obtain ⟨e0,e1,e2,e3,e4,e5,e6⟩:=hB.cells;have hM:=gd X;have hR:=gd hD;clear I hx Z hJ X hD hB hc hj hd
   go_wp2_with (first|(refine ZqF rfl 25 (.tmp 4) (.tmp 33) rfl (w.heap.size+1) _ rfl rfl _ _ hH Ze rfl Zz ?_))
   ((try simp only[Exit.inBlock,Exit.then]);refine ZqT (ZrO rfl _ _ _ _ _ _ _ rfl (ZqV _ _ _ _ _ _ hH) underlying25 rfl Ze) rfl ?_);exact ⟨_,_,rfl,Xy (Yh hM.out (by rw[hg.out];omega) _) (by rw[hg.out];omega),hR.out.setRow (ZrF _) _⟩
end
section
set_option linter.unusedSimpArgs false
theorem Zv5 {Y m l L:Nat} (A:1<=m) (C:m<=12) (Q:monN Y (m - 1)+l=L) (J:L<lenN Y) (O:dimN Y m<=l):m<12/\monN Y (m+1 - 1)+(l - dimN Y m)=L:=by
 have D:monN Y 11+dimN Y 12=lenN Y:=Zbz Y;obtain ⟨j,rfl⟩:∃j,m=j+1:=⟨m - 1,om⟩;have F:monN Y (j+1+1 - 1)=monN Y (j+1 - 1)+dimN Y (j+1):=rfl;refine ⟨?_,om⟩;rcases ZrJ (j+1) 12 with h|h
 ·exact h
 ·obtain rfl:j=11:=om
  have H:monN Y (11+1 - 1)=monN Y 11:=rfl;have I:dimN Y (11+1)=dimN Y 12:=rfl;omega
theorem Zwg (n:Nat) (w:World) (h:n<3652059):
 Calls prog 132 #[.int .i64 ((n:Int) - 719162)] w λe w'=>e= .returned (.tuple #[.int .i64 ((dateN n).1:Nat),.int .i64 ((dateN n).2.1:Nat),.int .i64 ((dateN n).2.2:Nat),.int .i64 0])/\w'=w:=by
 have a1:¬(n:Int) - 719162< -719162:=om
 have a2:¬2932896<(n:Int) - 719162:=om
 obtain ⟨R,hR⟩:∃R,dateN n=R:=⟨_,rfl⟩;rw[hR];have HR:=gd hR;have hN:=gd h;clear hR;go_enter func132,ntmps132;go_wp2;obtain ⟨wP,hh⟩:∃wP:World,wP=w:=⟨_,rfl⟩;subst hh;go_loopw [6,7] (λl y wr=>∃left k:Nat,1<=k/\k<=9999/\left<=n/\Hid (befN k+left=n)/\l= .int .i64 (left:Nat)/\y= .int .i64 (k:Nat)/\wr=wP) (λ_ y _=>10000 - (intOf y).toNat)
 case atStart=>exact ⟨n,1,om,om,om,by show 0+n=n;omega,rfl,rfl,rfl⟩
 case round=>
  obtain ⟨left,k,X,hk,hi,O,rfl,rfl,rfl⟩:=hrel;have Z:=gd (λw'=>Za3 k w' X hk);have J:=gd (Jz k X);obtain ⟨E,hE⟩:∃E,lenN k=E:=⟨_,rfl⟩;have A:E=if leapN k then 366 else 365:=by rw[<-hE];rfl
  rw[hE] at J;by_cases hb:left<E
  ·have HD:=gd (λ(m:Nat) (h3:1<=m) (h4:m<=12) w'=>by have:=GO k m w';rw[Xv ⟨X,hk,h3,h4⟩] at this;exact this);have HK:Hid (1<=k):=X;have hd:Hid (left<lenN k):=(by rw[hE];exact hb);have go:∀(b:Bool) (E':Nat),leapN k=b->E=E'->(left:Int)<(E':Int):=(by rintro b E' _ rfl;omega);cases hl:leapN k with
   |true=>
    rw[hl] at Z A;simp only[Zsy] at A;have b1:(left:Int)<366:=om;clear hE A J hb hl go
    go_wp2_with (first|(go_at_call 165;refine ZqD (Z.out _) ?_;rintro e w1 ⟨rfl,rfl⟩))
    obtain ⟨wQ,hc⟩:∃wQ:World,wQ=w1:=⟨_,rfl⟩;subst hc;go_loopw [6,9] (λl m wr=>∃l' m':Nat,1<=m'/\m'<=12/\l'<=left/\l= .int .i64 (l':Nat)/\m= .int .i64 (m':Nat)/\Hid (monN k (m' - 1)+l'=left)/\wr=wQ) (λ_ m _=>13 - (intOf m).toNat)
    case atStart=>exact ⟨left,1,om,om,om,rfl,rfl,by show 0+left=left;omega,rfl⟩
    case round=>
     obtain ⟨l',m',H,I,hf,rfl,rfl,Y,rfl⟩:=hrel;have C:=gd (HD.out m' H I);by_cases F:dimN k m'<=l'
     ·obtain ⟨hg,V⟩:=Zv5 H I Y.out hd.out F;have Q:=gd V;obtain ⟨D,S⟩:∃D,dimN k m'=D:=⟨_,rfl⟩;rw[S] at C F Q;have b2:(D:Int)<=(l':Int):=om;clear S Y V
      go_wp2_with (first|(go_at_call 166;refine ZqD (C.out _) ?_;rintro e w1 ⟨rfl,rfl⟩))
      go_roundw
      case rel=>exact ⟨l' - D,m'+1,om,om,om,by refine ZqS (Value.int .i64) ?_;omega,by go_num,Q,trivial⟩
      case measure=>simp[intOf];omega
     ·have U:Hid (R=(k,m',l'+1)):=(by show _=_;rw[<-HR.out];refine IsDate.eq ⟨HK.out,H,I,om,om,?_⟩;have h1:=O.out;have h2:=Y.out;omega);obtain ⟨D,S⟩:∃D,dimN k m'=D:=⟨_,rfl⟩;rw[S] at C F;have b2:¬(D:Int)<=(l':Int):=om;clear S Y
      go_wp2_with (first|(go_at_call 166;refine ZqD (C.out _) ?_;rintro e w1 ⟨rfl,rfl⟩))
      ((try simp only[Exit.inBlock,Exit.then]);refine ZqT (ZfD rfl _ _ _) rfl ?_);exact ⟨by rw[U.out];rfl,rfl⟩
   |false=>
    rw[hl] at Z A;simp only[ZrW,ZsJ] at A;have b1:(left:Int)<365:=om;clear hE A J hb hl go
    go_wp2_with (first|(go_at_call 165;refine ZqD (Z.out _) ?_;rintro e w1 ⟨rfl,rfl⟩))
    obtain ⟨wQ,hc⟩:∃wQ:World,wQ=w1:=⟨_,rfl⟩;subst hc;go_loopw [6,9] (λl m wr=>∃l' m':Nat,1<=m'/\m'<=12/\l'<=left/\l= .int .i64 (l':Nat)/\m= .int .i64 (m':Nat)/\Hid (monN k (m' - 1)+l'=left)/\wr=wQ) (λ_ m _=>13 - (intOf m).toNat)
    case atStart=>exact ⟨left,1,om,om,om,rfl,rfl,by show 0+left=left;omega,rfl⟩
    case round=>
     obtain ⟨l',m',H,I,hf,rfl,rfl,Y,rfl⟩:=hrel;have C:=gd (HD.out m' H I);by_cases F:dimN k m'<=l'
     ·obtain ⟨hg,V⟩:=Zv5 H I Y.out hd.out F;have Q:=gd V;obtain ⟨D,S⟩:∃D,dimN k m'=D:=⟨_,rfl⟩;rw[S] at C F Q;have b2:(D:Int)<=(l':Int):=om;clear S Y V
      go_wp2_with (first|(go_at_call 166;refine ZqD (C.out _) ?_;rintro e w1 ⟨rfl,rfl⟩))
      go_roundw
      case rel=>exact ⟨l' - D,m'+1,om,om,om,by refine ZqS (Value.int .i64) ?_;omega,by go_num,Q,trivial⟩
      case measure=>simp[intOf];omega
     ·have U:Hid (R=(k,m',l'+1)):=(by show _=_;rw[<-HR.out];refine IsDate.eq ⟨HK.out,H,I,om,om,?_⟩;have h1:=O.out;have h2:=Y.out;omega);obtain ⟨D,S⟩:∃D,dimN k m'=D:=⟨_,rfl⟩;rw[S] at C F;have b2:¬(D:Int)<=(l':Int):=om;clear S Y
      go_wp2_with (first|(go_at_call 166;refine ZqD (C.out _) ?_;rintro e w1 ⟨rfl,rfl⟩))
      ((try simp only[Exit.inBlock,Exit.then]);refine ZqT (ZfD rfl _ _ _) rfl ?_);exact ⟨by rw[U.out];rfl,rfl⟩
  ·have he:k+1<=9999:=by
    have h1:=J.out;have h2:=O.out;have h3:befN 10000=3652059:=(by decide);have h4:=hN.out;rcases ZrJ k 9999 with h|h
    ·exact h
    ·obtain rfl:k=9999:=om;have h5:befN (9999+1)=befN 10000:=rfl;omega
   have ha:Hid (befN (k+1)+(left - E)=n):=(by show _=_;have h1:=J.out;have h2:=O.out;omega);cases hl:leapN k with
   |true=>
    rw[hl] at Z A;simp only[Zsy] at A;have b1:¬(left:Int)<366:=om;subst A;clear hE J hl O hN
    go_wp2_with (first|(go_at_call 165;refine ZqD (Z.out _) ?_;rintro e w1 ⟨rfl,rfl⟩))
    go_roundw
    case rel=>exact ⟨left - 366,k+1,om,he,om,ha,by refine ZqS (Value.int .i64) ?_;omega,by go_num,trivial⟩
    case measure=>simp[intOf];omega
   |false=>
    rw[hl] at Z A;simp only[ZrW,ZsJ] at A;have b1:¬(left:Int)<365:=om;subst A;clear hE J hl O hN
    go_wp2_with (first|(go_at_call 165;refine ZqD (Z.out _) ?_;rintro e w1 ⟨rfl,rfl⟩))
    go_roundw
    case rel=>exact ⟨left - 365,k+1,om,he,om,ha,by refine ZqS (Value.int .i64) ?_;omega,by go_num,trivial⟩
    case measure=>simp[intOf];omega
end
end Go.Proofs.YtmfinhgobjbecaaGreatDoor
