/- Parts of the proof: contracts and plain laws. -/
import Derived.Test.YtnlafkgkcnenfaaGreatDoorProg
import Derived.Test.YtnlafkgkcnenfaaGreatDoorU23
import Derived.Test.YtnlafkgkcnenfaaGreatDoorU25
namespace Go.Proofs.YtnlafkgkcnenfaaGreatDoor
open Go Go.RowKit _root_.Go.Proofs.Tryz
set_option linter.unusedVariables false
set_option linter.unusedSimpArgs false
set_option maxRecDepth 100000
set_option maxHeartbeats 16000000
theorem Zuz {k:IntKind} {a b:Int} (h:a=b):Ending.returned (.int k a)= .returned (.int k b):=by rw[h]
section
variable {P:Program} {a:Act} {o:Oper} {ops:Array Oper} {rest:List Oper} {w:World}
instance (W:World):Nonempty (Aft W):=⟨⟨W,Ext.refl W⟩⟩
theorem Zrr {Q:Exit->Act->Wq->Prop} (F:o.guard=none) (ty:TypeId) (x y:Operand) (S:o.op= .store ty x y)
 (g:Nat) (cells:Array Value) (U:a.eval x= .pointer (some ⟨g,0,none⟩)) (V:a.eval y= .agg cells)
 (t:TypeId) (A:Array Value) (H:w.heap[g]? =some (.cells A t (0,0))) (R:(P.info? ty).map (·.size)=some cells.size)
 (D:A.size=cells.size) (J:cells.all (·.oneCell')=true)
 (h:∀W:Wq,W.heap[g]? =some (.cells cells t (0,0))->(∀b:Wq,Ext b w->b.heap.size<=g->Ext b W)->(∀k,k≠g->W.heap[k]? =w.heap[k]?)->wpList P ops Q rest (a.put o.dst undef) W):wpList P ops Q (o::rest) a w:=
 Zf F ty x y S g cells U V t A H R D J (h _ (ZF _ _ _ _ _ _ H) (λb K X=>K.then ⟨rfl,rfl,rfl,by simp[World.setRow],λk I=>Yf w g k cells om⟩) λk I=>Yf w g k cells I)
end
section
variable {v:Value} {w:World}
section
variable {P:Program} {ops:Array Oper} {W:World}
end
section
variable {P:Program} {ops:Array Oper} {md:Region.Mode} {W:World} {p n:Nat} {d:Option Tmp}
theorem ZrB {f:FuncId} {args:Array Value} (h:Calls P f args w λe w'=>e= .returned v/\Ext w w'):Calls P f args w λe w'=>e= .returned v/\∃e:Aft w,w'=e.w:=
 h.mono λ_ w' ⟨D,A⟩=>⟨D,⟨w',A⟩,rfl⟩
end
end
theorem Zt3 (l:List UInt8) (k:Nat) (h:l.length<=k):Lib.validD (l.drop k)=true:=by
 rw[ZC h];rfl
theorem ZtO (c:UInt8) (h:letterN c.toNat=0) (D:32<=c.toNat):escB c= []:=by
 unfold letterN at h;unfold escB;by_cases A:c.toNat=34\/c.toNat=92
 ·rw[Zi A] at h;omega
 ·rw[Ze A,Zi D]
theorem ZtV (c:UInt8) (h:letterN c.toNat≠0):qB c= [92,UInt8.ofNat (letterN c.toNat)]:=by
 unfold qB;rw[Zgq c h,Ze (by simp)]
theorem ZuK (c:UInt8) (h:letterN c.toNat=0) (A:c.toNat<32):qB c= [92,117,48,48,hexD (c.toNat / 16),hexD (c.toNat % 16)]:=by
 unfold qB;rw[ZmD c h A,Ze (by simp)]
theorem Zuy (c:UInt8) (h:letterN c.toNat=0) (A:32<=c.toNat):qB c= [c]:=by
 unfold qB;rw[ZtO c h A,Zi rfl]
theorem Zto (n:Nat) (w:Wq):Calls prog 241 #[.int .u8 (n:Nat)] w λe w'=>e= .returned (.int .u8 (letterN n:Nat))/\w=w':=by
 obtain ⟨L,h⟩:∃L,letterN n=L:=⟨_,rfl⟩;rw[h];have A:=gd h;clear h;go_enter func241,ntmps241;go_wp2
 all_goals (go_ret;refine ⟨Zuz ?_,rfl⟩)
 all_goals (rw[<-A.out];unfold letterN;simp at*;(repeat' split)<;>omega)
theorem Zsa (s:ByteArray) (w:Wq) (hs:s.size<=16777216):
 Calls prog 240 #[.string s] w λe w'=>e= .returned (.bool (Lib.validD s.data.toList))/\Ext w w':=by
 have Z:s.size<=maxLen:=by unfold maxLen;omega
 obtain ⟨V,Y⟩:∃V,Lib.validD s.data.toList=V:=⟨_,rfl⟩;rw[Y];have HV:=gd Y;clear Y;go_enter func240,ntmps240;go_wp2;go_loopw [3,4,5] (λv _ _ wr=>∃k:Nat,k<=s.size/\v=nI k/\Hid (V=Lib.validD (s.data.toList.drop k))/\Ext w wr) (λv _ _ _=>s.size - (intOf v).toNat)
 case atStart=>exact ⟨0,Zj _,rfl,HV.out.symm,Ext.refl _⟩
 case round=>
  obtain ⟨k,hk,rfl,hc,hx⟩:=hrel;by_cases J:k<s.size
  ·have Q:=ZnW s.data.toList k (by rw[ZN];exact J);have I:=Ug (s.data.toList.drop k);rw[Zk,ZN] at I;have D:=U7 s k wr J Z;have F:=hc.out.trans Q;clear hc Q;obtain ⟨R,hR⟩:∃R,(dec (s.data.toList.drop k)).1=R:=⟨_,rfl⟩;obtain ⟨K,hK⟩:∃K,(dec (s.data.toList.drop k)).2=K:=⟨_,rfl⟩;rw[hR,hK] at D;rw[hK] at I F;clear hR hK;have HC:=gd D;have S:=gd F;clear D F;by_cases h0:K=0
   ·subst h0;have A:=S.out;rw[Zi rfl] at A;have U:=gd A;clear A S
    go_wp2_with (first|(go_at_call 139;refine (HC.out).mono ?_;rintro e w' ⟨rfl,H⟩))
    go_ret;exact ⟨by rw[U.out];rfl,hx.trans H⟩
   ·have hb:((K:Int)==0)=false:=(by rw[Zv];omega);have X:Hid (V=Lib.validD (s.data.toList.drop (k+K))):=(by have h:=S.out;rw[Ze h0] at h;exact h);clear S
    go_wp2_with (first|(go_at_call 139;refine (HC.out).mono ?_;rintro e w' ⟨rfl,H⟩))
    go_roundw
    case rel=>exact ⟨k+K,om,by go_num,X,hx.trans H⟩
    case measure=>simp[intOf];omega
  ·have A:V=true:=(by rw[hc.out,Zt3 _ _ (by rw[ZN];omega)]);have U:=gd A;clear A hc;go_wp2;go_ret;exact ⟨by rw[U.out];rfl,hx⟩
theorem Zud (n:Nat) (A:n<16) (h:n<({data:=#[48,49,50,51,52,53,54,55,56,57,97,98,99,100,101,102]}:ByteArray).size):({data:=#[48,49,50,51,52,53,54,55,56,57,97,98,99,100,101,102]}:ByteArray)[n]=hexD n:=by
 have hc:n=0\/n=1\/n=2\/n=3\/n=4\/n=5\/n=6\/n=7\/n=8\/n=9\/n=10\/n=11\/n=12\/n=13\/n=14\/n=15:=om
 rcases hc with rfl|rfl|rfl|rfl|rfl|rfl|rfl|rfl|rfl|rfl|rfl|rfl|rfl|rfl|rfl|rfl<;>rfl
theorem Ztn (n:Nat) (h:n<256):letterN n<256:=by
 unfold letterN
 repeat' split
 all_goals omega
theorem Zr9 (s:ByteArray) (w:Wq) (hs:s.size<=16777216):
 Calls prog 229 #[.string s] w λe w'=>e= .returned (.tuple #[.string (quoteS s).1,nI ((quoteS s).2:Nat)])/\Ext w w':=by
 have Y:=Zsa s w hs;obtain ⟨V,hV⟩:∃V,Lib.validD s.data.toList=V:=⟨_,rfl⟩;rw[hV] at Y;have hq:quoteS s=if V then (str (quoteL s.data.toList),0) else (str [],5):=by unfold quoteS;rw[hV]
 rw[hq];clear hq hV;have hh:=gd Y;clear Y;obtain ⟨i0,hd,he,hf,hg⟩:=YH G9;cases V
 ·go_enter func229,ntmps229
  go_wp2_with (go_at_call 240;refine (hh.out).mono ?_;rintro e w' ⟨rfl,hx⟩)
  go_ret2
  exact ⟨rfl,hx⟩
 ·obtain ⟨Q,hQ⟩:∃Q,quoteL s.data.toList=Q:=⟨_,rfl⟩;rw[hQ];have HQ:=gd hQ;clear hQ;simp only[Us];go_enter func229,ntmps229
  go_wp2_with (go_at_call 240;refine (hh.out).mono ?_;rintro e w' ⟨rfl,hx⟩)
  have ht:=hx.size;go_loopw [4,5,6] (λv i _ wr=>∃k:Nat,k<=s.size/\i=nI k/\wr.ownsRow w.heap.size 5 1 v (qPre s.data.toList k).length (Lib.byteCells (qPre s.data.toList k))/\Ext w wr) (λ_ i _ _=>s.size - (intOf i).toNat)
  case atStart=>exact ⟨0,Zj _,rfl,Jx (cs:= [.int .u8 34]) ht (by simp) (by unfold maxLen;omega),hx.alloc _⟩
  case round=>
   obtain ⟨k,hk,rfl,S,Z⟩:=hrel;have hA:=Z.size;have hz:=ZnB s.data.toList k;by_cases hp:k<s.size
   ·have H:=ZlN s k hp;have F:=S;obtain ⟨_,A,c,rfl,hr,hn,_,_⟩:=RSl.of_own S;have U:=Zto s[k].toNat;have hw:=Ue s[k];by_cases hl:letterN s[k].toNat=0
    ·rw[hl] at U;have hc:=gd U;clear U;by_cases hm:s[k].toNat<32
     ·rw[ZuK _ hl hm] at H
      replace H:=gd H
      have HL:=gd hl;clear hl
      go_wp2_with (go_at_call 241;refine (hc.out _).mono ?_;rintro e w' ⟨rfl,rfl⟩)
      obtain ⟨a,ha⟩:∃a,s[k].toNat / 16=a:=⟨_,rfl⟩;obtain ⟨b,hb⟩:∃b,s[k].toNat % 16=b:=⟨_,rfl⟩;rw[ha,hb] at H;have hu:(a:Int)<16:=om;have hv:(b:Int)<16:=om;have hB:IntKind.u8.wrap ((s[k].toNat:Int) / 16)=(a:Int):=(by rw[IntKind.wrap_u8];omega);have hC:((s[k].toNat:Int)).tmod 16=(b:Int):=(by rw[Int.tmod_eq_emod_of_nonneg om];omega);clear ha hb
      go_region_law (refine Z1 _ rfl (.tmp 36) (.tmp 43) _ rfl w.heap.size 5 i0 _ 1 1 underlying94 hd he hf hg rfl om _ _ _ rfl ((F.alloc _).drew) _ 6 _ rfl (RSl.ext (Yo (by simp) (by unfold maxLen;omega)) (Ext.refl _).drew) (by intro y X;simp at X;rcases X with rfl|rfl|rfl|rfl|rfl<;>rfl) (by unfold maxLen;omega) om (by simp;omega) ?_;intro v1 K h J I)
      all_goals have R:Ext w K:=((Z.alloc _).drew).app J (F.alloc _).drew (Zc _)
      all_goals rw[Zud a om,Zud b om] at h
      all_goals have D:K.ownsRow w.heap.size 5 1 v1 (qPre s.data.toList (k+1)).length (Lib.byteCells (qPre s.data.toList (k+1))):=(by rw[H.out,Yl,Zb];exact h)
      all_goals clear J I h
      all_goals go_wp2
      all_goals go_roundw
      all_goals first|exact ⟨k+1,om,by go_num,D,R⟩|(simp[intOf];omega)|((repeat apply Gf);exact ⟨⟨k+1,om,by go_num,D,R⟩,rfl⟩)
     ·rw[Zuy _ hl om] at H
      replace H:=gd H
      have HL:=gd hl;clear hl
      go_wp2_with (first|(go_at_call 241;refine (hc.out _).mono ?_;rintro e w' ⟨rfl,rfl⟩)|(at_builtin;refine ZO _ rfl (.tmp 20) (.tmp 22) _ rfl w.heap.size 5 i0 _ 1 1 underlying94 hd he hf hg rfl om _ _ _ rfl (F.alloc _) _ 1 _ rfl (Yo (cs:= [.int .u8 s[k].toNat]) (by simp) (by unfold maxLen;omega)) (by intro y X;simp at X;(first|(rcases X with rfl|rfl<;>rfl)|(subst X;rfl))) (by unfold maxLen;omega) om (by simp;omega) ?_;intro v1 K h J I))
      have R:Ext w K:=(Z.alloc _).app J (F.alloc _) (Zc _);have D:K.ownsRow w.heap.size 5 1 v1 (qPre s.data.toList (k+1)).length (Lib.byteCells (qPre s.data.toList (k+1))):=(by rw[H.out,Yl,Zb];exact h);clear J I h;go_wp2;go_roundw
      case rel=>first|exact ⟨k+1,om,by go_num,D,R⟩|((repeat apply Gf);exact ⟨⟨k+1,om,by go_num,D,R⟩,rfl⟩)
      case measure=>simp[intOf];omega
    ·rw[ZtV _ hl] at H
     replace H:=gd H
     have hi:=Ztn s[k].toNat (XJ _);obtain ⟨N,hN⟩:∃N,letterN s[k].toNat=N:=⟨_,rfl⟩;rw[hN] at U H hl hi;have hc:=gd U;have hb:((N:Int) !=0)=true:=(by rw[Xk];omega);clear U hN hl
     go_wp2_with (first|(go_at_call 241;refine (hc.out _).mono ?_;rintro e w' ⟨rfl,rfl⟩)|(at_builtin;refine ZO _ rfl (.tmp 28) (.tmp 31) _ rfl w.heap.size 5 i0 _ 1 1 underlying94 hd he hf hg rfl om _ _ _ rfl (F.alloc _) _ 2 _ rfl (Yo (cs:= [.int .u8 92,.int .u8 (N:Nat)]) (by simp) (by unfold maxLen;omega)) (by intro y X;simp at X;(first|(rcases X with rfl|rfl<;>rfl)|(subst X;rfl))) (by unfold maxLen;omega) om (by simp;omega) ?_;intro v1 K h J I))
     have R:Ext w K:=(Z.alloc _).app J (F.alloc _) (Zc _);have D:K.ownsRow w.heap.size 5 1 v1 (qPre s.data.toList (k+1)).length (Lib.byteCells (qPre s.data.toList (k+1))):=(by rw[H.out,Yl,Zb];rw[show Lib.byteCells [92,UInt8.ofNat N]= [Value.int .u8 92,Value.int .u8 (N:Nat)] from by simp[Lib.byteCells,Nat.mod_eq_of_lt hi]];exact h);clear J I h;go_wp2;go_roundw
     case rel=>first|exact ⟨k+1,om,by go_num,D,R⟩|((repeat apply Gf);exact ⟨⟨k+1,om,by go_num,D,R⟩,rfl⟩)
     case measure=>simp[intOf];omega
   ·have ho:k=s.size:=om;subst ho;have hj:Hid (str (qPre s.data.toList s.size++ [34])=str Q):=(by show _=_;rw[<-HQ.out,<-ZnA];rfl);have F:=S;obtain ⟨_,A,c,rfl,hr,hn,_,_⟩:=RSl.of_own S
    go_wp2_with (at_builtin;refine ZO _ rfl (.tmp 45) (.tmp 46) _ rfl w.heap.size 5 i0 _ 1 1 underlying94 hd he hf hg rfl om _ _ _ rfl (F.alloc _) _ 1 _ rfl (Yo (cs:= [.int .u8 34]) (by simp) (by unfold maxLen;omega)) (by intro y X;simp at X;subst X;rfl) (by unfold maxLen;omega) om (by simp;omega) ?_;intro v1 K h J I;have R:Ext w K:=(Z.alloc _).app J (F.alloc _) (Zc _);have kc:=Zga K w.heap.size v1 (qPre s.data.toList s.size++ [34]) (by rw[Yl,Zb];exact h);rw[hj.out] at kc;clear J I h)
    go_ret2
    exact ⟨rfl,R⟩
section
attribute [local go_sem] ZoY strOfNums_size
theorem Zsw (u:Nat) (h:u<10):Lib.decDigits u= [UInt8.ofNat (48+u)]:=by rw[Lib.decDigits,dif_pos h]
theorem Zs8 (u:Nat) (h:¬u<10):Lib.decDigits u=Lib.decDigits (u / 10)++ [UInt8.ofNat (48+u % 10)]:=by rw[Lib.decDigits,dif_neg h]
theorem Zs9 (n:Int) (h:i64ok n):(Lib.decDigits n.natAbs).length<=21:=by
 have:=Lib.itoa_length_le n h.1 h.2;unfold Lib.itoa at this;split at this
 ·simp at this;omega
 ·rwa [show n.toNat=n.natAbs by omega] at this
theorem Zsr (x:Int) (d:Nat) (l:List UInt8) (h:x.toNat=d):strOfNums [x]++str l=str (UInt8.ofNat d::l):=by
 subst h;exact Vb (by simp[Ql])
theorem ZtX (n:Int) (l:List UInt8) (A:n<0) (h:l=Lib.decDigits n.natAbs):({data:=#[45]}:ByteArray)++str l=itoaS n:=by
 unfold itoaS Lib.itoa;rw[Zi A,h];exact Vb (by simp)
theorem Ztu (n:Int) (l:List UInt8) (A:0<=n) (h:l=Lib.decDigits n.natAbs):str l=itoaS n:=by
 unfold itoaS Lib.itoa;rw[Ze om,h,show n.toNat=n.natAbs by omega]
theorem ZrQ (n:Int) (w:Wq) (hn:i64ok n):
 Calls prog 210 #[nI n] w λe w'=>e= .returned (.string (itoaS n))/\Ext w w':=by
 have S:=Zs9 n hn;obtain ⟨R,hR⟩:∃R,itoaS n=R:=⟨_,rfl⟩;rw[hR];have X:=gd hR;have K:=gd S;have HN:=gd hn;clear hR S hn;go_enter func210,ntmps210;go_wp2;go_loopw [3,4,5] (λv m _ wr=>∃(x:Int) (l:List UInt8),m=nI x/\v= .string (str l)/\Hid (i64ok x)/\Hid (Lib.decDigits x.natAbs++l=Lib.decDigits n.natAbs)/\Ext w wr) (λ_ m _ _=>(intOf m).natAbs)
 case atStart=>exact ⟨n,[],rfl,rfl,HN,by show _=_;simp,Ext.refl _⟩
 case round=>
  obtain ⟨x,l,rfl,rfl,D,Y,Z⟩:=hrel;have hc:l.length<=21:=by have h1:=Zz List.length Y.out;have h2:=K.out;rw[Zb] at h1;omega
  by_cases F:x.natAbs<10
  ·have H:x= -9\/x= -8\/x= -7\/x= -6\/x= -5\/x= -4\/x= -3\/x= -2\/x= -1\/x=0\/x=1\/x=2\/x=3\/x=4\/x=5\/x=6\/x=7\/x=8\/x=9:=om;have V:Hid ((UInt8.ofNat (48+x.natAbs))::l=Lib.decDigits n.natAbs):=(by show _=_;rw[<-Y.out,Zsw _ F];rfl);have he:l.length<100:=om;clear K Y F hc HN;by_cases U:n<0
   ·have HF:Hid (({data:=#[45]}:ByteArray)++str ((UInt8.ofNat (48+x.natAbs))::l)=R):=(by show _=_;rw[ZtX n _ U V.out,X.out]);clear X D;rcases H with rfl|rfl|rfl|rfl|rfl|rfl|rfl|rfl|rfl|rfl|rfl|rfl|rfl|rfl|rfl|rfl|rfl|rfl|rfl
    all_goals go_wp2
    all_goals go_ret
    all_goals exact ⟨by rw[<-HF.out];rfl,by repeat (first|exact Z|apply Ext.drew|apply Ext.alloc)⟩
   ·have HF:Hid (str ((UInt8.ofNat (48+x.natAbs))::l)=R):=(by show _=_;rw[Ztu n _ om V.out,X.out]);clear X D;rcases H with rfl|rfl|rfl|rfl|rfl|rfl|rfl|rfl|rfl|rfl|rfl|rfl|rfl|rfl|rfl|rfl|rfl|rfl|rfl
    all_goals go_wp2
    all_goals go_ret
    all_goals exact ⟨by rw[<-HF.out];rfl,by repeat (first|exact Z|apply Ext.drew|apply Ext.alloc)⟩
  ·have V:Hid (Lib.decDigits (x.natAbs / 10)++(UInt8.ofNat (48+x.natAbs % 10)::l)=Lib.decDigits n.natAbs):=(by show _=_;rw[<-Y.out,Zs8 _ F,Zt];rfl);by_cases I:0<=x
   ·obtain ⟨a,rfl⟩:=Int.eq_ofNat_of_zero_le I;have Q:=D.out.2;have ha:10<=(a:Int):=om;have J:Hid ((a:Int)<=9223372036854775807):=Q;clear Q F I;go_wp2;have A:i64ok ((a:Int) / 10):=(by have:=J.out;unfold i64ok;omega);refine ⟨⟨(a:Int) / 10,UInt8.ofNat (48+a % 10)::l,by rw[Q6 _ A],by rw[Zsr _ (48+a % 10) l om],A,?_,Z.alloc _⟩,?_⟩
    ·have h:=V.out;rw[show ((a:Int)).natAbs=a by omega] at h;show _=_;rw[show ((a:Int) / 10).natAbs=a / 10 by omega];exact h
    ·rw[Q6 _ A];simp[intOf];omega
   ·obtain ⟨a,rfl⟩:∃a:Nat,x= -(a:Int):=⟨x.natAbs,om⟩;have Q:=D.out.1;have ha:10<=(a:Int):=om;have J:Hid (-9223372036854775808<= -(a:Int)):=Q;clear Q F I;go_wp2
    all_goals have A:i64ok (-((a:Int) / 10)):=by have:=J.out;unfold i64ok;omega
    all_goals refine ⟨⟨-((a:Int) / 10),UInt8.ofNat (48+a % 10)::l,by rw[Q6 _ A],by rw[Zsr _ (48+a % 10) l om],A,?_,Z.alloc _⟩,by rw[Q6 _ A];simp[intOf];omega⟩
    all_goals have h:=V.out
    all_goals rw[show (-(a:Int)).natAbs=a by omega] at h
    all_goals (show _=_)
    all_goals rw[show (-((a:Int) / 10)).natAbs=a / 10 by omega]
    all_goals exact h
end
theorem Zrx (v:Value) (l:List ByteArray) (w:Wq) (h:RSl w 1 v l.length (l.map Value.string)) (hs:∀s∈l,s.size<=16777216):
 Calls prog 121 #[v] w λe w'=>e= .returned (nI (firstErr l:Nat))/\Ext w w':=by
 obtain ⟨_,A,c,rfl,V,R,_,_⟩:=id h;have hc:l.length<=9223372036854775807:=Zp V R;clear V R;obtain ⟨E,F⟩:∃E,firstErr l=E:=⟨_,rfl⟩;rw[F];go_enter func121,ntmps121;go_wp2;go_loopw [3] (λi wr=>∃k:Nat,k<=l.length/\i=nI k/\Hid (E=firstErr (l.drop k))/\Ext w wr) (λi _=>l.length - (intOf i).toNat)
 case atStart=>exact ⟨0,Zj _,rfl,F.symm,Ext.refl _⟩
 case round=>
  obtain ⟨k,hk,rfl,X,Y⟩:=hrel;by_cases H:k<l.length
  ·obtain ⟨ad,rfl,I⟩:=(h.ext Y).at1 k (.string l[k]) (by rw[Yp,Zh H];rfl);have J:=Zdi (l:=l) (k:=k) H;have Z:=gd (I2 l[k] wr (by have:=hs l[k] (ZL H);unfold maxLen;omega));obtain ⟨O,hO⟩:∃O,(checkS l[k]).1=O:=⟨_,rfl⟩;obtain ⟨K,hK⟩:∃K,(checkS l[k]).2=K:=⟨_,rfl⟩;obtain ⟨S,hS⟩:∃S,l[k]=S:=⟨_,rfl⟩;rw[hK] at J;rw[hO,hK,hS] at Z;rw[hS] at I;have D:=X.out.trans J;clear J X hO hK hS F;by_cases h0:K=0
   ·subst h0;rw[Zi rfl] at D;have HF:=gd D;clear D
    go_wp2_with (first|(go_at_call 97;refine (Z.out).mono ?_;rintro e w' ⟨rfl,Q⟩))
    go_roundw
    case rel=>exact ⟨k+1,H,by go_num,HF.out,Y.trans Q⟩
    case measure=>simp[intOf];omega
   ·have hb:((K:Int) !=0)=true:=(by simp;omega);rw[Ze h0] at D;subst D;clear h0
    go_wp2_with (first|(go_at_call 97;refine (Z.out).mono ?_;rintro e w' ⟨rfl,Q⟩))
    go_ret;exact ⟨rfl,Y.trans Q⟩
  ·have ha:k=l.length:=om;have D:=X.out;rw[ZC om] at D;have U:E=0:=D;subst U;clear D X F;go_wp2;go_ret;exact ⟨rfl,Y⟩
section
theorem Zrt (s:ByteArray) (w:Wq) (h:s.size<=16777216):
 Calls prog 120 #[.string s] w λe w'=>e= .returned (.string (collapse s))/\Ext w w':=Zbl s w om
attribute [local go_sem] calm1
end
def qAll (l:List ByteArray):ByteArray:=if l.all vld then str (commas (l.map λs=>quoteL s.data.toList)) else noS
theorem Zr4 (l:List ByteArray):(commas (l.map λs=>quoteL s.data.toList)).length<=6*total l+3*l.length:=by
 induction l with
 |nil=>simp[commas,total]
 |cons s t ih=>
  have h:=Vs s.data.toList;rw[ZN] at h;cases t with
  |nil=>simp[commas,total];omega
  |cons u r=>have e:total (s::u::r)=s.size+total (u::r):=(by simp[total]);rw[e];simp only[Zw,commas,Zb,Zd] at ih|-;omega
theorem ZtF (l:List ByteArray) (k:Nat):total (l.take k)<=total l:=by
 induction l generalizing k with
 |nil=>simp[total]
 |cons s t ih=>
  cases k with
  |zero=>simp[total]
  |succ k=>have:=ih k;simp[total] at this|-;omega
theorem Zqc (a b:List UInt8):str a++str b=str (a++b):=by
 apply Vb;rw[Z3,ByteArray.data_append,Array.toList_append,Z3,Z3]
theorem Zuo {l:List ByteArray} {s:ByteArray} (h:s∈l) (A:vld s=false):qAll l=noS:=by
 unfold qAll;rw[Ze];simp only[Z6];intro D;rw[D s h] at A;cases A
theorem Zrf (v:Value) (l:List ByteArray) (w:Wq) (h:RSl w 1 v l.length (l.map Value.string)) (ht:total l<=16777216) (hn:l.length<=1000000):
 Calls prog 209 #[v] w λe w'=>e= .returned (.string (qAll l))/\Ext w w':=by
 obtain ⟨_,A,c,rfl,hj,hh,_,_⟩:=id h;clear hj hh;obtain ⟨R,hR⟩:∃R,qAll l=R:=⟨_,rfl⟩;rw[hR];have HR:=gd hR;have HT:=gd ht;clear hR ht;go_enter func209,ntmps209;go_wp2;go_loopw [3,4] (λu i wr=>∃(k:Nat) (S:ByteArray),k<=l.length/\i=nI k/\u= .string S/\Hid (S=str (commas ((l.take k).map λs=>quoteL s.data.toList))/\(l.take k).all vld=true)/\S.size<=110000000/\Ext w wr) (λ_ i _=>l.length - (intOf i).toNat)
 case atStart=>exact ⟨0,_,Zj _,rfl,rfl,⟨rfl,rfl⟩,by decide,Ext.refl _⟩
 case round=>
  obtain ⟨k,S,hk,rfl,rfl,K,hr,hx⟩:=hrel;by_cases H:k<l.length
  ·obtain ⟨ad,rfl,Y⟩:=(h.ext hx).at1 k (.string l[k]) (by rw[Yp,Zh H];rfl);have hd:l[k].size<=total l:=by
    have:∀(l:List ByteArray) (s:ByteArray),s∈l->s.size<=total l:=by
     intro l
     induction l with
     |nil=>intro s h;simp at h
     |cons u t ih=>
      intro s h;have e:total (u::t)=u.size+total t:=(by simp[total]);rcases ZH.1 h with h|h
      ·subst h;omega
      ·have:=ih s h;omega
    exact this l _ (ZL H)
   have HQ:=gd (Zr9 l[k] wr (by have:=HT.out;omega));have I:=ZL H;have U:l.take (k+1)=l.take k++ [l[k]]:=Zr H;have hc:=Zr4 (l.take (k+1));have he:=ZtF l (k+1);have Z:=Vs l[k].data.toList;rw[ZN] at Z;cases hv:vld l[k] with
   |false=>
    have hq:quoteS l[k]=(str [],5):=(by unfold quoteS;rw[Ze];unfold vld at hv;rw[hv];decide);rw[hq] at HQ;have HB:=gd (HR.out.symm.trans (Zuo I hv));generalize l[k]=s at*;clear hd I U hc he Z hv hq K HR
    go_wp2_with (first|(go_at_call 229;refine (HQ.out).mono ?_;rintro e w' ⟨rfl,J⟩))
    go_ret;exact ⟨by rw[HB.out];rfl,hx.trans J⟩
   |true=>
    have hq:quoteS l[k]=(str (quoteL l[k].data.toList),0):=(by unfold quoteS;unfold vld at hv;rw[Zi hv]);rw[hq] at HQ;have D:(if k=0 then str (quoteL l[k].data.toList) else S++str [44]++str (quoteL l[k].data.toList))=str (commas ((l.take (k+1)).map λs=>quoteL s.data.toList)):=by
     rw[U,ZS,Zw,Z2,Zaz];by_cases h0:k=0
     ·subst h0;simp
     ·have hm:(l.take k).map (λs=>quoteL s.data.toList)≠ []:=(by intro e;have:=Zz List.length e;rw[Zq,ZM,ZK] at this;omega);rw[Ze h0,Ze hm,K.out.1,Zqc,Zqc];simp
    have V:(l.take (k+1)).all vld=true:=(by rw[U,List.all_append,K.out.2];simp[hv]);have HN:=gd (V7 D V);have hg:(str (quoteL l[k].data.toList)).size<=100663300:=(by rw[YN];have:=HT.out;omega);have ha:(str (commas ((l.take (k+1)).map λs=>quoteL s.data.toList))).size<=110000000:=(by rw[YN];have:=HT.out;have hl:(l.take (k+1)).length<=1000000:=(by rw[ZM];omega);omega);have hf:=gd ha;clear D V U hc he Z hv hq I hd ha;generalize l[k]=s at*;generalize str (quoteL s.data.toList)=Q at*;have ho:S.size+Q.size<=9223372036854775807:=om;by_cases h0:k=0
    ·subst h0;have hb:S=str []:=K.out.1.trans rfl;have D:S++Q=Q:=(by rw[hb];apply Vb;simp);have F:=gd D;clear D hb K;rw[add_zero] at Y
     go_wp2_with (first|(go_at_call 229;refine (HQ.out).mono ?_;rintro e w' ⟨rfl,J⟩))
     go_roundw
     case rel=>exact ⟨0+1,_,H,by go_num,rfl,⟨F.out.trans HN.out.1,HN.out.2⟩,by rw[F.out];exact Zp hg (by decide),hx.trans J⟩
     case measure=>simp[intOf];omega
    ·have hp:(0:Int)<(k:Int):=om;have D:=HN.out.1;rw[Ze h0] at D;have hu:S.size+1<=9223372036854775807:=om;have hw:S.size+1+Q.size<=9223372036854775807:=om;have hs:(S++str [44]).size=S.size+1:=(by rw[Zdf];rfl);have F:=gd D;clear D K h0
     go_wp2_with (first|(go_at_call 229;refine (HQ.out).mono ?_;rintro e w' ⟨rfl,J⟩))
     go_roundw
     case rel=>exact ⟨k+1,_,H,by go_num,rfl,⟨F.out,HN.out.2⟩,by rw[show (S++⟨#[44]⟩++Q:ByteArray)=_ from F.out];exact hf.out,hx.trans J⟩
     case measure=>simp[intOf];omega
  ·have hi:k=l.length:=om;subst hi;rw[ZQ (Zc _)] at K;have X:R=S:=(by rw[<-HR.out,K.out.1];unfold qAll;rw[Zi K.out.2]);have HF:=gd X;clear K X HR;go_wp2;go_ret;exact ⟨by rw[HF.out];rfl,hx⟩
theorem ZrE {l:List ByteArray} (h:l.all vld=true):qAll l=str (commas (l.map λs=>quoteL s.data.toList)):=by unfold qAll;rw[Zi h]
theorem Zsz {l:List ByteArray} (h:l.all vld=true) (A:l≠ []):(qAll l).toList.isEmpty=false:=by
 rw[ZrE h,Yb,Z3];cases l with
 |nil=>exact absurd rfl A
 |cons s t=>
  cases t with
  |nil=>rfl
  |cons u r=>rfl
theorem ZrO {l:List ByteArray} (A:total l<=16777216) (h:l.length<=1000000):(qAll l).size<=110000000:=by
 unfold qAll;split
 ·rw[YN];have:=Zr4 l;omega
 ·decide
section
section
variable {α κ:Type} (O:Ord α κ)
theorem Ztd:∀(l:List α) (e:α) (k:Nat) (A:k<l.length),(∀x∈l.take k,O.lt e x=false)->O.lt e l[k]=true->O.ins l e=l.take k++e::l.drop k
 | [],_,k,A,_,_=>by simp at A
 |y::t,e,0,_,_,h=>by
  unfold Ord.ins
  rw[Zi (by simpa using h)]
  rfl
 |y::t,e,k+1,A,h,h2=>by
  unfold Ord.ins
  rw[Ze (by simp[h y (by simp)])]
  rw[Ztd t e k (by simpa using A) (λx D=>h x (by simp[D])) (by simpa using h2)]
  rfl
theorem Zr6:∀(l:List α) (e:α),(∀x∈l,O.lt e x=false)->O.ins l e=l++ [e]
 | [],_,_=>rfl
 |y::t,e,h=>by
  unfold Ord.ins
  rw[Ze (by simp[h y (by simp)]),Zr6 t e λx A=>h x (by simp[A])]
  rfl
end
section
variable {α κ:Type} [DecidableEq κ] (O:Ord α κ)
theorem ZqS:∀(l:List α) (e:α),O.id (O.scan l e).2=O.id e
 | [],_=>rfl
 |x::t,e=>by
  unfold Ord.scan
  by_cases h:O.id x=O.id e
  ·rw[Zi h,ZqS t,O.op_id x e h]
  ·rw[Ze h];exact ZqS t e
theorem ZrF:∀(l:List α) (e x:α),O.scan (l++ [x]) e=if O.id x=O.id e then ((O.scan l e).1,O.op x (O.scan l e).2) else ((O.scan l e).1++ [x],(O.scan l e).2)
 | [],e,x=>by simp only[Z7,Ord.scan]
 |y::t,e,x=>by
  show O.scan (y::(t++ [x])) e=_
  unfold Ord.scan
  by_cases h:O.id y=O.id e
  ·rw[Zi h,Zi h,ZrF t (O.op y e) x,O.op_id y e h]
  ·rw[Ze h,Ze h,ZrF t e x]
   by_cases A:O.id x=O.id e
   ·rw[Zi A,Zi A]
   ·rw[Ze A,Ze A];rfl
end
end
theorem ZqP (x:Nc) (sp nm:List UInt8) (w:Wq) (h:RAts w x.al x.attrs) (S:isSl x.ks) (hn:x.attrs.length<=80000000000):
 Calls prog 35 #[.agg (cellsN x).toArray,.string (str sp),.string (str nm)] w λe w'=>e= .returned (lookAns (attrN x.attrs sp nm))/\Ext w w':=by
 obtain ⟨k,s,n,al,l,ks,kids,t,a⟩:=x;simp only[Nc.al,Nc.attrs,Nc.ks] at h S hn;obtain ⟨A,c,rfl, -, -⟩:=h.form;obtain ⟨B,m,d,rfl⟩:=S;simp only[cellsN,Nc.attrs];obtain ⟨R,V⟩:∃R,attrN l sp nm=R:=⟨_,rfl⟩;rw[V];have Z:Hid (attrN (l.drop 0) sp nm=R):=V;clear V;have K:=(Ext.refl w).alloc (.cells #[nI (k:Nat),.string (str s),.string (str n),.slice A l.length c,.slice B m d,.string (str t),nI (a:Nat)] 25);go_enter func35,ntmps35;go_wp2;go_loopw [8] (λv wr=>∃j:Nat,j<=l.length/\v=nI j/\Hid (attrN (l.drop j) sp nm=R)/\Ext (w.alloc (.cells #[nI (k:Nat),.string (str s),.string (str n),.slice A l.length c,.slice B m d,.string (str t),nI (a:Nat)] 25)) wr) (λv _=>l.length - (intOf v).toNat)
 case atStart=>exact ⟨0,Zj _,rfl,Z,Ext.refl _⟩
 case round=>
  obtain ⟨j,hj,rfl,U,Q⟩:=hrel;have b3:wr.cell? ⟨w.heap.size,3,none⟩=some (.slice A l.length c):=Q.boxed 3 _ rfl;by_cases F:j<l.length
  ·obtain ⟨ad,c',hv,I⟩:=(RAts.ext h (K.trans Q)).at F;injection hv with hv1 hv2 hv3;subst hv1;clear hv2 hv3;have ha:(0:Int)<=(j:Int):=om;have hb:(j:Int)<(l.length:Int):=om;have D:=U.out;cases hq:(l[j].space==sp && l[j].name==nm) with
   |true=>
    rw[Zkb F hq] at D;obtain ⟨x,H⟩:∃x,l[j]=x:=⟨_,rfl⟩;rw[H] at I hq D;obtain ⟨a0,a1,a2,a3⟩:=I;rw[ZG] at hq;have q1:((str x.space).toList==(str sp).toList)=true:=(by rw[Jr];exact hq.1);have q2:((str x.name).toList==(str nm).toList)=true:=(by rw[Jr];exact hq.2);subst D;clear U hq H;go_wp2
    go_ret2
    exact ⟨rfl,K.trans Q⟩
   |false=>
    rw[Zil F hq] at D;obtain ⟨x,H⟩:∃x,l[j]=x:=⟨_,rfl⟩;rw[H] at I hq;obtain ⟨a0,a1,a2,a3⟩:=I;have Y:=gd D;clear U D H;cases q1:((str x.space).toList==(str sp).toList) with
    |false=>
     clear hq;go_wp2;go_roundw
     case rel=>exact ⟨j+1,F,by go_num,Y,Q⟩
     case measure=>simp[intOf];omega
    |true=>
     have q2:((str x.name).toList==(str nm).toList)=false:=(by rw[Jr] at q1|-;rw[q1,XL] at hq;exact hq);clear hq;go_wp2;go_roundw
     case rel=>exact ⟨j+1,F,by go_num,Y,Q⟩
     case measure=>simp[intOf];omega
  ·have X:j=l.length:=om;have J:=U.out;rw[Zka om] at J;subst J;clear U;subst X;go_wp2
   go_ret2
   exact ⟨rfl,K.trans Q⟩
theorem Zry (x:Nc) (sp nm:List UInt8) (w:Wq) (h:RdN w x) (hn:x.kids.length<=80000000000):
 Calls prog 36 #[.agg (cellsN x).toArray,.string (str sp),.string (str nm)] w λe w'=>∃v,e= .returned v/\RNs w' v (x.kids.filter (isKid sp nm))/\Ext w w':=by
 obtain ⟨i0,hm,hp,hq,hr⟩:=YH Vh;obtain ⟨k,s,n,al,l,ks,kids,t,a⟩:=x;rw[RdN] at h;obtain ⟨ha,X,hf⟩:=h;simp only[Nc.kids] at hn;obtain ⟨A,c,rfl, -, -⟩:=ha.form;obtain ⟨B,d,rfl, -, -⟩:=RNs.form X;simp only[cellsN,Nc.kids];have hg:RNs w (.slice B kids.length d) kids:=X;have hb:=gd ((XC kids).1 hf);clear X hf;have hi:=(Ext.refl w).alloc (.cells #[nI (k:Nat),.string (str s),.string (str n),.slice A l.length c,.slice B kids.length d,.string (str t),nI (a:Nat)] 25);go_enter func36,ntmps36;go_wp2;go_loopw [7,8] (λu v wr=>∃j:Nat,j<=kids.length/\v=nI j/\wr.ownsRow (w.heap.size+1) 25 7 u ((kids.take j).filter (isKid sp nm)).length (flatN ((kids.take j).filter (isKid sp nm)))/\Ext (w.alloc (.cells #[nI (k:Nat),.string (str s),.string (str n),.slice A l.length c,.slice B kids.length d,.string (str t),nI (a:Nat)] 25)) wr) (λ_ v _=>kids.length - (intOf v).toNat)
 case atStart=>exact ⟨0,Zj _,rfl,YF _ _ _ _,Ext.refl _⟩
 case round=>
  obtain ⟨j,hj,rfl,D,R⟩:=hrel;have b4:wr.cell? ⟨w.heap.size,4,none⟩=some (.slice B kids.length d):=R.boxed 4 _ rfl;by_cases H:j<kids.length
  ·obtain ⟨ad,c',hv,hd⟩:=(RNs.ext hg (hi.trans R)).at H;injection hv with hv1 hv2 hv3;subst hv1;clear hv2 hv3;have hu:(0:Int)<=(j:Int):=om;have hw:(j:Int)<(kids.length:Int):=om;have K:=ZhX (f:=isKid sp nm) H;have Q:=Xp (RdN.sl (hb.out kids[j] (ZL H)));have hh:=RdN.sl (hb.out kids[j] (ZL H));obtain ⟨F,hF⟩:∃F,(kids.take j).filter (isKid sp nm)=F:=⟨_,rfl⟩;have hc:F.length<=80000000000:=(by have:=(List.filter_sublist (p:=isKid sp nm) (l:=kids.take j)).length_le;rw[ZM] at this;rw[<-hF];omega);rw[hF] at K D;obtain ⟨x,hk⟩:∃x,kids[j]=x:=⟨_,rfl⟩;rw[hk] at hd K Q hh;obtain ⟨xk,xs,xn,hz,xl,hA,Z,xt,xa⟩:=x;obtain ⟨⟨XA,xm,xc,S⟩,⟨XB,hs,xd,V⟩⟩:=hh;simp only[Nc.al,Nc.ks] at S V;subst S;subst V;obtain ⟨a0,a1,a2,a3,a4,a5,a6⟩:=hd;simp only[Nc.kind,Nc.space,Nc.name,Nc.al,Nc.ks,Nc.text,Nc.at_] at a0 a1 a2 a3 a4 a5 a6;have J:=gd K;obtain ⟨HM,HB⟩:=Vj hc;have HM:=gd HM;have HB:=gd HB;obtain ⟨U,uc,rfl⟩:=Ym D;have hws:w.heap.size+1<=wr.heap.size:=(by have:=R.size;rwa [Zu] at this);clear K hk hF hc;by_cases he:xk=0
   ·subst he;cases q1:((str xs).toList==(str sp).toList) with
    |true=>
     cases q2:((str xn).toList==(str nm).toList) with
     |true=>
      go_wp2_with (first|(at_builtin;refine ZO _ rfl (.tmp 43) (.tmp 49) _ rfl (w.heap.size+1) 25 i0 _ 7 112 underlying23 hm hp hq hr rfl (by decide) _ _ _ rfl (D.alloc _) _ 1 (cellsN (.mk 0 xs xn (.slice XA xm xc) xl (.slice XB hs xd) Z xt xa)) rfl (Yo rfl (by decide)) Q HM.out HB.out ?_ ?_;(rw[Zu];omega);intro v9 w9 Y hl ht))
      go_roundw
      case rel=>refine ⟨j+1,H,by go_num,?_,Ext.app (R.alloc _) hl (D.alloc _) (by rw[Zu];omega)⟩;have I:=J.out;rw[Zi (by unfold isKid;simp only[Nc.kind,Nc.space,Nc.name];rw[Jr] at q1 q2;rw[q1,q2];rfl)] at I;rw[I,Vf,Vg,Zb];exact Y
      case measure=>simp[intOf];omega
     |false=>
      go_wp2;go_roundw
      case rel=>refine ⟨j+1,H,by go_num,?_,R⟩;have I:=J.out;rw[Ze (by unfold isKid;simp only[Nc.kind,Nc.space,Nc.name];rw[Jr] at q2;rw[q2];simp)] at I;rw[I,ZV];exact D
      case measure=>simp[intOf];omega
    |false=>
     go_wp2;go_roundw
     case rel=>refine ⟨j+1,H,by go_num,?_,R⟩;have I:=J.out;rw[Ze (by unfold isKid;simp only[Nc.kind,Nc.space,Nc.name];rw[Jr] at q1;rw[q1];simp)] at I;rw[I,ZV];exact D
     case measure=>simp[intOf];omega
   ·have hy:((xk:Int)==0)=false:=(by rw[Zv];omega);go_wp2;go_roundw
    case rel=>refine ⟨j+1,H,by go_num,?_,R⟩;have I:=J.out;rw[Ze (by unfold isKid;simp only[Nc.kind,Nc.space,Nc.name];simp[he])] at I;rw[I,ZV];exact D
    case measure=>simp[intOf];omega
  ·have ho:j=kids.length:=om;subst ho;rw[ZQ (Zc _)] at D;go_wp2;go_ret;exact ⟨_,rfl,RSl.of_own D,hi.trans R⟩
theorem Zt2:str textL=⟨#[116,101,120,116]⟩:=rfl
theorem ZtE:str titleL=⟨#[116,105,116,108,101]⟩:=rfl
theorem ZsI:str htmlUrlL=⟨#[104,116,109,108,85,114,108]⟩:=rfl
theorem ZsJ:str versionL=⟨#[118,101,114,115,105,111,110]⟩:=rfl
theorem ZrH (l:List UInt8) (w:Wq) (H:l.length<=16777216):
 Calls prog 71 #[.string (str l)] w λe w'=>e= .returned (.bool (decide (coll l= [])))/\Ext w w':=by
 have h:=Zrt (str l) w (by rw[YN];exact H);unfold collapse at h;rw[Z3] at h;cases hc:decide (coll l= []);have D:=gd h;have F:=V4 (of_decide_eq_false hc)
 rotate_left
 rw[YK hc] at h;have D:=gd h;have F:=UK
 all_goals
  clear h hc
  go_enter func71,ntmps71
  go_wp2_with (first|(go_at_call 120;refine Za D.out ?_;rintro e w' ⟨rfl,A⟩))
  go_ret
  exact ⟨rfl,A⟩
theorem ZsG (x:Nc) (w:Wq) (h:RAts w x.al x.attrs) (K:isSl x.ks) (S:x.attrs.length<=16777216):
 Calls prog 72 #[.agg (cellsN x).toArray] w λe w'=>e= .returned (.string (str (attrFst x.attrs [textL,titleL])))/\Ext w w':=by
 obtain ⟨k,s,n,al,l,ks,kids,t,a⟩:=x;simp only[Nc.al,Nc.attrs,Nc.ks] at h K S;obtain ⟨A,c,rfl, -, -⟩:=h.form;obtain ⟨B,m,d,rfl⟩:=K;simp only[cellsN,Nc.attrs];have I:=(Ext.refl w).alloc (.cells #[nI (k:Nat),.string (str s),.string (str n),.slice A l.length c,.slice B m d,.string (str t),nI (a:Nat)] 25);have H:=λ(nm:List UInt8) w' (U:Ext w w')=>ZqP (.mk k s n (.slice A l.length c) l (.slice B m d) kids t a) [] nm w' (RAts.ext h U) ⟨_,_,_,rfl⟩ (Zp S (by decide));simp only[cellsN,Nc.attrs] at H;have F:=H textL;have J:=H titleL;simp only[Vy,Zt2,ZtE] at F J;unfold attrFst;cases h1:attrN l [] textL;rw[h1] at F;unfold lookAns at F;dsimp only at F|-;rw[Gi,<-Ip];have Q:=gd F;cases h2:attrN l [] titleL
 rotate_left
 rename_i v
 rotate_left
 ·rename_i v;rw[h1] at F;unfold lookAns at F;dsimp only at F|-;have Q:=gd F;clear F J H h1;go_enter func72,ntmps72
  go_wp2_with (first|(go_at_call 35;with_reducible refine Za (Q.out _ I) ?_;rintro e w' ⟨rfl,D⟩))
  go_ret;exact ⟨rfl,I.trans D⟩
 all_goals
  rw[h2] at J
  unfold lookAns at J
  dsimp only[Option.getD] at J|-
  have HB:=gd J
  clear F J H h1 h2
  go_enter func72,ntmps72
  go_wp2_with (first|(go_at_call 35;first|(with_reducible refine Za (Q.out _ I) ?_;rintro e w' ⟨rfl,D⟩;clear Q;have b0:=D.boxed 0 _ rfl;have b1:=D.boxed 1 _ rfl;have b2:=D.boxed 2 _ rfl;have b3:=D.boxed 3 _ rfl;have b4:=D.boxed 4 _ rfl;have b5:=D.boxed 5 _ rfl;have V:=D.boxed 6 _ rfl)|(with_reducible refine Za (HB.out _ (I.trans D)) ?_;rintro e w2 ⟨rfl,R⟩)))
  go_ret
  exact ⟨rfl,(I.trans D).trans R⟩
section
variable {w:World}
theorem Ztp (o:Option (List UInt8)):∃b,lookAns o= .tuple #[.string (str (o.getD [])),.bool b]:=by
 cases o with
 |none=>exact ⟨false,rfl⟩
 |some v=>exact ⟨true,rfl⟩
theorem Zt9 (l:List Nd) (j:Nat):Nds.cnt (l.take j)<=Nds.cnt l:=by
 have h:=Nds.cnt_app (l.take j) (l.drop j);rw[Yz] at h;omega
theorem Zt8 (a:List Nd) (x:Nd):Nds.cnt (a++ [x])=Nds.cnt a+x.cnt:=by rw[Nds.cnt_app,Zbp]
theorem HFs.join {w w3:Wq} {B:Nat} {v v3:Value} {l m:List Fc} (h:HFs w B v l) (K:∀x∈m,RdC w x) (I:∀x∈m,awayC x v.ownBlock)
 (F:w3.ownsRow B 55 6 v3 (l.length+m.length) (flatC l++flatC m)) (J:w.grownBy w3 v.ownBlock) (H:v3.ownBlock=v.ownBlock\/v3.ownBlock=some w.heap.size):HFs w3 B v3 (l++m):=by
 have D:∀y∈l++m,RdC w y/\awayC y v.ownBlock:=by
  intro y A;rcases Zs.1 A with A|A
  ·exact ⟨h.rd y A,h.away y A⟩
  ·exact ⟨K y A,I y A⟩
 refine ⟨?_,λy A=>(D y A).1.grown J (D y A).2,λy A=> ?_⟩
 ·unfold OFcs;rw[Zd1,Zb];exact F
 ·rcases H with e|e
  ·rw[e];exact (D y A).2
  ·rw[e];exact GX (D y A).1 (Zc _)
theorem HFs.mono {w:Wq} {B B':Nat} {v:Value} {l:List Fc} (h:HFs w B v l) (A:B'<=B):HFs w B' v l:=⟨OFcs.mono h.row A,h.rd,h.away⟩
theorem Ztb {l:List Fc} (h:∀x∈l,RdC w x):∀u∈flatC l,u.oneCell'=true:=by
 intro u A;unfold flatC at A;obtain ⟨cs,D,A⟩:=Zdh.1 A;obtain ⟨x,F,rfl⟩:=ZU.1 D;exact Jv (RdC.sl (h x F)) u A
def OutsRet (w w':Wq) (v:Value):Except PErr (List Fd)->Prop
 | .ok l=>∃u O,v= .tuple #[u,nI 0,nI 0]/\HFs w' w.heap.size u O/\O.map Fc.f=l/\∀r,r<w.heap.size->∀x∈O,awayC x (some r)
 | .error (y,c)=>v= .tuple #[sN,nI (y:Nat),nI (c:Nat)]
structure OutInv (w W1 wr:Wq) (path:List ByteArray) (R:Except PErr (List Fd)) (L:List Nc) (j:Nat) (u:Value) (O:List Fc):Prop where
 own:HFs wr W1.heap.size u O
 cnt:O.length<=Nds.cnt ((Nc.nds L).take j)
 far:∀r,r<w.heap.size->∀x∈O,awayC x (some r)
 left:moreF (O.map Fc.f) (visKs ((Nc.nds L).drop j) path)=R
 ext:Ext W1 wr
end
theorem Zs2 (N M:Nat) (hN:N<=10000) (hM:M<=1000000):∀(h:Nat) (x:Nc) (pv:Value) (path:List ByteArray) (w:Wq),x.nd.ht<=h->x.nd.fd N->x.nd.cnt<=M->RdN w x->RStrs w pv path->path.length<=64->
 Calls prog 37 #[.agg (cellsN x).toArray,pv] w λe w'=>∃v,e= .returned v/\OutsRet w w' v (visP x.nd path)/\Ext w w':=by
 intro h
 induction h with
 |zero=>intro x pv path w gy;exact absurd (ZiO x.nd) om
 |succ h ih=>
 intro x pv path w gy hB gn hr hp fp;obtain ⟨i0,fl,fA,h9,fB⟩:=YH ZmT;obtain ⟨s0,gX,gY,gZ,g0⟩:=YH ZkZ;obtain ⟨k,s,n,al,l0,ks,kids,t,a⟩:=x;have fq:=hr;rw[RdN] at hr;obtain ⟨fi,fn,fm⟩:=hr;have gB:=(XC kids).1 fm;rw[Nc.nd] at gy hB gn|-;rw[Nd.ht] at gy;rw[Nd.fd] at hB;rw[Nd.cnt] at gn;rw[visP,Eg,<-QJ];have fk:=hB.2.2.2.2.2.2.2.2;have fS:kids.length<=N:=by have:=hB.2.2.2.2.2.1;rwa [Jw] at this
 obtain ⟨A,c,fP, -, -⟩:=fi.form;obtain ⟨B,d,fT, -, -⟩:=RNs.form fn;obtain ⟨PA,pc,rfl, -, -⟩:=hp.form;have gI:=gd (λw' (hx:Ext w w')=>Zry (.mk k s n al l0 ks kids t a) [] outlineL w' (RdN.ext hx _ fq) (by show kids.length<=_;omega));simp only[cellsN,Nc.kids,Vy,Va] at gI|-;obtain ⟨L,hL⟩:∃L,kids.filter (isKid [] outlineL)=L:=⟨_,rfl⟩;have gk:∀y∈L,y∈kids/\isEl outlineL y.nd=true:=λy hy=>by rw[<-hL,YW] at hy;exact ⟨hy.1,by rw[<-ZgP];exact hy.2⟩
 have HY:=gd (λy (hy:y∈L)=>(⟨gB y (gk y hy).1,(Nds.fd_iff _).1 fk y.nd (by rw[Je];exact Yc (gk y hy).1),(by
  have:=Zcf (x:=y.nd) (l:=Nc.nds kids) (by rw[Je];exact Yc (gk y hy).1);omega),(gk y hy).2⟩:RdN w y/\y.nd.fd N/\y.nd.ht<=h/\isEl outlineL y.nd=true))
 have fI:Hid (Nds.cnt (Nc.nds L)<=M):=gd (by
  have h1:=ZbN (isEl outlineL) (Nc.nds kids);rw[<-QJ,hL] at h1;omega)
 have fJ:Hid (L.length<=N):=gd (by
  have:=(List.filter_sublist (p:=isKid [] outlineL) (l:=kids)).length_le;rw[hL] at this;omega)
 rw[hL] at gI|-;have fF:=gd ih;have HP:=gd hp;subst fP;subst fT;have gO:=gd fp;obtain ⟨R,hR⟩:∃R,visKs (Nc.nds L) path=R:=⟨_,rfl⟩;rw[hR];have HR:=gd hR;have fr:=(Ext.refl w).alloc (.cells #[nI (k:Nat),.string (str s),.string (str n),.slice A l0.length c,.slice B kids.length d,.string (str t),nI (a:Nat)] 25);have g4:=gd fr;clear ih hp hL gk gB fm fn fi fq fk hB gn gy hR fS fp fr;go_enter func37,ntmps37
 go_wp2_with (first|(go_at_call 36;refine Za (gI.out _ g4.out) ?_;rintro e W1 ⟨kv,rfl,hT,ft⟩;obtain ⟨U,uc,fo, -, -⟩:=RNs.form hT;subst fo))
 have g5:=gd (g4.out.trans ft);have fG:Hid (RNs W1 (.slice U L.length uc) L):=gd hT;clear hT ft;go_loopw [7,9] (λu v wr=>∃(j:Nat) (O:List Fc),j<=L.length/\v=nI j/\OutInv w W1 wr path R L j u O) (λ_ v _=>L.length - (intOf v).toNat)
 case atStart=>exact ⟨0,[],Zj _,rfl,HFs.nil _ _,Zj _,(by intro r _ x hx;cases hx),(by rw[Jm];exact (VN _).trans HR.out),Ext.refl _⟩
 case round=>
  obtain ⟨j,O,hj,rfl,hd⟩:=hrel;have f4:=fJ.out;have gT:=g5.out.trans hd.ext;by_cases h5:j<L.length;obtain ⟨ad,c',hv,fj⟩:=(RNs.ext fG.out hd.ext).at h5;injection hv with hv1 hv2 hv3;subst hv1;clear hv2 hv3;have f0:(0:Int)<=(j:Int):=om
  have f6:(j:Int)<(L.length:Int):=om
  obtain ⟨hD,h8,gW,gV⟩:=HY.out L[j] (ZL h5);have gp:=Zhg h5;have gu:=Zr8 h5;have gR:O.length+L[j].nd.cnt<=Nds.cnt ((Nc.nds L).take (j+1)):=by rw[gu,Zt8];have:=hd.cnt;omega
  have go:O.length+L[j].nd.cnt<=M:=by have:=Zt9 (Nc.nds L) (j+1);have:=fI.out;omega
  have hu:=hd.left;rw[gp] at hu;have fy:=ZiI h8;have hG:=RdN.sl hD;have gU:=Ze6 L[j].nd;obtain ⟨y,fz⟩:∃y,L[j]=y:=⟨_,rfl⟩;rw[fz] at fj hD h8 gW gV gR go hu fy hG gU;have hE:attrL y.nd xmlUrlL=attrN y.attrs [] xmlUrlL:=Zf0 y _;have g9:(attrL y.nd htmlUrlL).getD []=(attrN y.attrs [] htmlUrlL).getD []:=by rw[Zf0]
  have fe:=Znb y;have gx:=ZpD y;have gE:(nameL y.nd).length<=16777216:=by have:=EK h8;omega
  have gD:∀v,attrN y.attrs [] xmlUrlL=some v->v.length<=16777216:=λv hv=>by have:=GW h8 (hE.trans hv);omega
  have gF:=Zj6 N y.nd;have g7:=gd gE;have g3:=gd gF;have hg:=gd (λw' (hx:Ext w w')=>ZqP y [] xmlUrlL w' ((RdN.ats hD).ext hx) hG.2 om);have ga:=gd (λw' (hx:Ext w w')=>ZqP y [] htmlUrlL w' ((RdN.ats hD).ext hx) hG.2 om);have hI:=gd (λw' (hx:Ext w w')=>ZsG y w' ((RdN.ats hD).ext hx) hG.2 om);have f3:=gd hD;have gL:Hid (∀(pv:Value) (path:List ByteArray) (w':Wq),Ext w w'->RStrs w' pv path->path.length<=64->Calls prog 37 #[.agg (cellsN y).toArray,pv] w' λe w2=>∃v,e= .returned v/\OutsRet w' w2 v (visP y.nd path)/\Ext w' w2):=gd (λpv path w' hx h1 h2=>fF.out y pv path w' gW h8 om (RdN.ext hx _ hD) h1 h2);rw[<-fe] at hI;have I:=gd hu;have h3:=gd gV;have HE:=gd hE;have gw:=gd g9;have hO:=gd gD;have Q:=gd hd;have gP:=gd gU;have gJ:=gd gR;have gb:=gd go;have he:=gd gT;clear gp gu hu fz h8 gW gV fy hE g9 fe gE gD gF hd hD gU gR go;obtain ⟨⟨YA,ym,yc,fw⟩,⟨YB,hU,yd,fx⟩⟩:=hG;obtain ⟨K9,hK⟩:∃K9,y.nd=K9:=⟨_,rfl⟩;obtain ⟨NM,hX⟩:∃NM,nameL y.nd=NM:=⟨_,rfl⟩;obtain ⟨XU,fh⟩:∃XU,attrN y.attrs [] xmlUrlL=XU:=⟨_,rfl⟩;obtain ⟨HU,fb⟩:∃HU,attrN y.attrs [] htmlUrlL=HU:=⟨_,rfl⟩;rw[hX] at g7 hI;rw[fh] at hg HE hO;rw[fb] at ga gw;rw[hK] at g3 gL I h3 HE gw gP gJ gb gx hX;have hA:=gd hX;obtain ⟨yk,ys,yn,f8,yl,f9,fX,yt,ya⟩:=y;simp only[Nc.al,Nc.ks] at fw fx;subst fw;subst fx;obtain ⟨a0,a1,a2,a3,a4,a5,a6⟩:=fj;simp only[Nc.kind,Nc.space,Nc.name,Nc.al,Nc.ks,Nc.text,Nc.at_,cellsN] at a0 a1 a2 a3 a4 a5 a6 hg ga hI gL gx;have gG:=gd gx;simp only[Vy,ZhV,ZsI] at hg ga;clear gx hK hX fh fb;obtain ⟨W2,hq⟩:∃W2,wr.alloc (.cells #[nI (yk:Nat),.string (str ys),.string (str yn),.slice YA ym yc,.slice YB hU yd,.string (str yt),nI (ya:Nat)] 25)=W2:=⟨_,rfl⟩;have fu:Ext wr W2:=by rw[<-hq];exact (Ext.refl wr).alloc _
  have gQ:BxN W2 wr.heap.size yk ys yn (.slice YA ym yc) (.slice YB hU yd) yt ya:=by rw[<-hq];exact Zg wr _
  have gC:W2.heap.size=wr.heap.size+1:=by rw[<-hq,Zu]
  have f2:=gd gC;have Z:=gd fu;have hH:=gd gQ;obtain ⟨c0,c1,c2,c3,c4,c5,c6⟩:=gQ.cells;clear fu gQ gC;obtain ⟨lb,gS⟩:=Ztp HU;rw[gS] at ga;cases XU;have h9:attrL K9 xmlUrlL=none:=HE.out;unfold lookAns at hg;dsimp only at hg;have hn:=gd (λw'=>ZrH NM w' g7.out);by_cases hc:coll NM= [];rw[YG hc] at hn;have h4:R= .error (ya,19):=by have h1:=I.out;rw[Zhe h3.out HE.out (by rw[hA.out];exact hc),gG.out] at h1;exact h1.symm
  clear hO I h9
  rotate_left
  rw[Yd hc] at hn;by_cases gi:64<=path.length;have h4:R= .error (ya,9):=by have h1:=I.out;rw[Zi6 h3.out HE.out (by rw[hA.out];exact hc) gi,gG.out] at h1;exact h1.symm
  have hb:(64:Int)<=(path.length:Int):=om
  clear hO I h9 gi
  rotate_left
  ·have hP:=I.out;rw[Zep h3.out HE.out (by rw[hA.out];exact hc) gi,hA.out] at hP;have hb:¬(64:Int)<=(path.length:Int):=om;have HN:=gd hP;have fC:=gd gi;clear hO I hP hc gi h9;obtain ⟨OA,oc,rfl⟩:=Ym Q.out.own.row
   go_wp2_with (first|(refine Zf rfl 25 (.tmp 10) (.tmp 29) rfl wr.heap.size _ rfl rfl _ _ (Zg _ _) ZJ rfl YU ?_;rw[Z0];rw[hq])|(go_at_call 35;refine Za (hg.out _ (he.out.trans Z.out)) ?_;rintro e W3 ⟨rfl,X⟩;obtain ⟨d0,d1,d2,d3,d4,d5,d6⟩:=(hH.out.ext X).cells)|(go_at_call 72;refine Za (hI.out _ ((he.out.trans Z.out).trans X)) ?_;rintro e W4 ⟨rfl,D⟩)|(go_at_call 71;refine Za (hn.out _) ?_;rintro e W5 ⟨rfl,hC⟩))
   have V:=(X.trans D).trans hC;have hW:=gd (Z.out.trans V);have Y:=gd (he.out.trans (Z.out.trans V));have H:=gd (hH.out.ext V);have gf:=gd (Q.out.own.ext (Z.out.trans V));clear a0 a1 a2 a3 a4 a5 a6 c0 c1 c2 c3 c4 c5 c6 d0 d1 d2 d3 d4 d5 d6 gS X D hC V hq hb;refine rN ?_;change wpAny _ _ _ _ _ _ _ (World.drew _);have h7:=(Ext.refl W5).drew;have hk:=H.out.ext h7;refine YD (λw'=>BxN w' wr.heap.size yk ys yn (.slice YA ym yc) (.slice YB hU yd) yt ya) ?_;refine tS 0 (.agg #[nI (yk:Nat),.string (str ys),.string (str yn),.slice YA ym yc,.slice YB hU yd,.string (str yt),nI (ya:Nat)]) rfl (λw' hS=>by obtain ⟨q0,q1,q2,q3,q4,q5,q6⟩:=BxN.cells hS;go_simp) hk ?_;refine tG 2 (.slice PA path.length pc) hk ?_;refine tS 4 (.agg #[nI (yk:Nat),.string (str ys),.string (str yn),.slice YA ym yc,.slice YB hU yd,.string (str yt),nI (ya:Nat)]) rfl (λw' hS=>by obtain ⟨q0,q1,q2,q3,q4,q5,q6⟩:=BxN.cells hS;go_simp) hk ?_;go_simp;refine sS 1 λK hK=> ?_;go_simp;have hm:=h7.alloc (.cells #[] 9);refine hK _ _ (H.out.ext hm) ?_;clear hK K;have hJ:=gd (Jx (w:=W5.drew) (base:=W5.heap.size) (e:=9) (size:=1) (n:=0) (cs:= []) (Zc _) rfl (by decide));have hh:=gd (ZeN (n:=0) (m:=path.length) (by have:=gO.out;omega));refine sS 3 λK hK=> ?_;refine Z1 _ (by rfl) (.tmp 68) (.tmp 69) _ (by rfl) W5.heap.size 9 s0 _ 1 16 underlying52 gX gY gZ g0 rfl (by decide) _ 0 [] (by rfl) hJ.out (.slice PA path.length pc) path.length (path.map Value.string) (by rfl) (HP.out.ext (Y.out.trans hm)) (Zan _) hh.out.1 hh.out.2 hm.size ?_;intro v4 w4 S gr gm;have D:Ext W5 w4:=Ext.app hm gr hJ.out (Zc _);rw[YI,Z7] at S;obtain ⟨PB,pb,rfl⟩:=Ym S;have gg:=gd S;have fM:=gd D;clear S gr gm hJ hh;refine hK _ _ (H.out.ext D) ?_;clear hK K;refine sS 5 λK hK=> ?_;go_simp;go_at_call 72;have hz:=hI.out w4 (Y.out.trans D)
   with_reducible refine Za hz ?_
   clear hz;rintro e w6 ⟨rfl,h6⟩;have hi:=D.trans h6;refine hK _ _ (H.out.ext hi) ?_;clear hK K;refine sS 6 λK hK=> ?_;go_simp;have hl:=hi.alloc (.cells #[.string (str NM)] 9);refine hK _ _ (H.out.ext hl) ?_;clear hK K;have gN:=gd (Ya gg.out (h6.alloc (.cells #[.string (str NM)] 9)));have hV:Hid (RSl (w6.alloc (.cells #[.string (str NM)] 9)) 1 (.slice (some ⟨w6.heap.size,0,none⟩) 1 1) 1 ([str NM].map Value.string)):=gd (Yo rfl (by decide));have hh:=gd (ZeN (n:=path.length) (m:=1) (by have:=gO.out;omega));refine sS 7 λK hK=> ?_;refine Z1 _ (by rfl) (.tmp 70) (.tmp 73) _ (by rfl) W5.heap.size 9 s0 _ 1 16 underlying52 gX gY gZ g0 rfl (by decide) _ path.length (path.map Value.string) (by rfl) gN.out _ 1 ([str NM].map Value.string) (by rfl) hV.out (Zan _) hh.out.1 hh.out.2 hl.size ?_;intro v8 w8 ha hQ hY;have hw:Ext W5 w8:=Ext.app hl hQ gN.out (Zc _);obtain ⟨PC,fU,rfl⟩:=Ym ha;have fg:RStrs w8 (.slice PC (path.length+1) fU) (path++ [str NM]):=(by unfold RStrs;rw[ZS,Zb];exact RSl.of_own ha);have fL:=gd fg;clear ha hQ hY gN hV hh fg;refine hK _ _ (H.out.ext hw) ?_;clear hK K;refine sS 8 λK hK=> ?_;go_simp;go_at_call 37;have hz:=gL.out _ _ w8 (Y.out.trans hw) fL.out (by rw[Zb];have:=fC.out;simp only[Zd,ZK];omega)
   with_reducible refine Za hz ?_
   clear hz;rintro e w9 ⟨v9,rfl,hf,fv⟩;have J:=hw.trans fv;cases hv:visP K9 (path++ [str NM]) with
   |error yc9=>
    obtain ⟨y9,c9⟩:=yc9;have fQ:=Zc1 K9 _ hv;have f5:((c9:Int) !=0)=true:=(by rw[Xk];omega);have h4:R= .error (y9,c9):=(by have h1:=HN.out;rw[hv] at h1;exact h1.symm);rw[hv] at hf;unfold OutsRet at hf;dsimp only at hf;subst hf;subst h4;clear hv fQ HN;refine hK _ _ (H.out.ext J) ?_;clear hK K;refine sS 9 λK hK=> ?_;go_simp;refine hK _ _ (H.out.ext J) ?_;clear hK K;refine tG 10 sN (H.out.ext J) ?_;refine tG 11 (nI (y9:Nat)) (H.out.ext J) ?_;refine tG 12 (nI (c9:Nat)) (H.out.ext J) ?_;go_simp;refine sS 13 λK hK=> ?_;go_simp;refine hK _ _ (H.out.ext J) ?_;clear hK K;refine sS 14 λK hK=> ?_;go_simp;refine hK _ _ (H.out.ext J) ?_;clear hK K;refine sS 15 λK hK=> ?_;go_simp;refine hK _ _ (H.out.ext J) ?_;clear hK K;refine sE ?_;go_wp2
    go_ret3
    exact ⟨_,rfl,rfl,Y.out.trans J⟩
   |ok l9=>
    have gs:=Zh4 K9 _ _ hv;rw[hv] at hf HN;unfold OutsRet at hf;dsimp only at hf;obtain ⟨u9,O9,rfl,gj,fO,hs⟩:=hf;subst fO;rw[Zq] at gs;obtain ⟨UA,fV,rfl⟩:=Ym gj.row;have g2:=gd gj;have gM:=gd (gf.out.ext J);have fH:=gd gs;have f1:=gd hs;have ho:=H.out.ext J;have fZ:=gd (Y.out.trans J);have gz:=gd ((Q.out.ext.trans hW.out).trans J);have gH:Hid (∀x∈O9,awayC x (Value.slice OA O.length oc).ownBlock):=gd (λx hx=>by
     cases hob:(Value.slice OA O.length oc).ownBlock with
     |none=>exact ZbG (gj.rd x hx)
     |some g=>
      exact hs g (YZ (gf.out.row.lt g hob).2 hw.size) x hx)
    have gh:Hid (∀u∈flatC O9,u.oneCell'=true):=gd (Ztb gj.rd);have ge:=gd (ZkI (n:=O.length) (m:=O9.length) (by have:=gb.out;omega));have gc:Hid (∀r,r<w.heap.size->∀x∈O9,awayC x (some r)):=gd (λr hr x hx=>hs r (YZ hr (Y.out.trans hw).size) x hx);clear hv gs gj hs;refine hK _ _ ho ?_;clear hK K;refine sS 9 λK hK=> ?_;go_simp;refine hK _ _ ho ?_;clear hK K;refine tG 10 (.slice UA O9.length fV) ho ?_;refine tG 11 (nI 0) ho ?_;refine tG 12 (nI 0) ho ?_;go_simp;refine sS 13 λK hK=> ?_;go_simp;refine hK _ _ ho ?_;clear hK K;refine sS 14 λK hK=> ?_;go_simp;refine hK _ _ ho ?_;clear hK K;refine sS 15 λK hK=> ?_;go_simp;refine hK _ _ ho ?_;clear hK K;refine sE ?_;clear ho J fv hw h7 hk D h6 hi hl hm
    go_wp2_with (first|(at_builtin;refine ZO _ rfl (.tmp 83) (.tmp 84) _ rfl W1.heap.size 55 i0 _ 6 104 underlying29 fl fA h9 fB rfl (by decide) _ O.length (flatC O) rfl gM.out.row _ O9.length (flatC O9) rfl (RSl.of_own g2.out.row) gh.out ge.out.1 ge.out.2 gz.out.size ?_;intro f7 fW hZ gq gl;have g1:=gd (HFs.join gM.out g2.out.rd gH.out hZ gq gl);have g6:Hid (Ext W1 fW):=gd (Ext.app gz.out gq gM.out.row (Zc _));clear hZ gq gl))
    go_roundw
    case rel=>exact ⟨j+1,O++O9,h5,by go_num,g1.out,(by rw[Zb];have:=gJ.out;have:=fH.out;omega),(λr hr x hx=>(Zs.1 hx).elim (Q.out.far r hr x) (gc.out r hr x)),(by rw[ZS];exact HN.out),g6.out⟩
    case measure=>simp[intOf];omega
  ·rename_i id;unfold lookAns at hg;dsimp only at hg;have gA:=hO.out id rfl;have hn:=gd (λw'=>ZrH id w' gA);clear gA;by_cases hc:coll id= []
   ·rw[YG hc] at hn;have h4:R= .error (ya,19):=(by have h1:=I.out;rw[Zls h3.out HE.out hc,gG.out] at h1;exact h1.symm);clear hO I;subst h4
    go_wp2_with (first|(refine Zf rfl 25 (.tmp 10) (.tmp 29) rfl wr.heap.size _ rfl rfl _ _ (Zg _ _) ZJ rfl YU ?_;rw[Z0];rw[hq])|(go_at_call 35;refine Za (hg.out _ (he.out.trans Z.out)) ?_;rintro e W3 ⟨rfl,X⟩;obtain ⟨d0,d1,d2,d3,d4,d5,d6⟩:=(hH.out.ext X).cells)|(go_at_call 71;refine Za (hn.out _) ?_;rintro e W4 ⟨rfl,D⟩;have e6:=D.cell d6))
    go_region
    go_wp2
    go_ret3
    exact ⟨_,rfl,rfl,(((he.out.trans Z.out).trans X).trans D).drew⟩
   ·skip
    have hP:=I.out;rw[Zcu h3.out HE.out hc] at hP;rw[Yd hc] at hn;have HN:=gd hP;clear hO I hP hc;obtain ⟨OA,oc,rfl⟩:=Ym Q.out.own.row
    go_wp2_with (first|(refine Zf rfl 25 (.tmp 10) (.tmp 29) rfl wr.heap.size _ rfl rfl _ _ (Zg _ _) ZJ rfl YU ?_;rw[Z0];rw[hq])|(go_at_call 35;first|(with_reducible refine Za (hg.out _ (he.out.trans Z.out)) ?_;rintro e W3 ⟨rfl,X⟩;obtain ⟨d0,d1,d2,d3,d4,d5,d6⟩:=(hH.out.ext X).cells;clear hg)|(with_reducible refine Za (ga.out _ (((he.out.trans Z.out).trans X).trans D)) ?_;rintro e W5 ⟨rfl,hC⟩))|(go_at_call 71;refine Za (hn.out _) ?_;rintro e W4 ⟨rfl,D⟩;obtain ⟨e0,e1,e2,e3,e4,e5,e6⟩:=(hH.out.ext (X.trans D)).cells))
    have V:=(X.trans D).trans hC;have fY:=gd V;have hW:=gd (Z.out.trans V);have Y:=gd (he.out.trans (Z.out.trans V));have H:=gd (hH.out.ext V);have gf:=gd (Q.out.own.ext (Z.out.trans V));obtain ⟨h0,fa⟩:∃q,HU.getD []=q:=⟨_,rfl⟩;rw[fa] at gw|-;clear a0 a1 a2 a3 a4 a5 a6 c0 c1 c2 c3 c4 c5 c6 d0 d1 d2 d3 d4 d5 d6 e0 e1 e2 e3 e4 e5 e6 gS fa X D hC V hq;refine rN ?_;change wpAny _ _ _ _ _ _ _ (World.drew _);have h7:=(Ext.refl W5).drew;have hk:=H.out.ext h7;refine YD (λw'=>BxN w' wr.heap.size yk ys yn (.slice YA ym yc) (.slice YB hU yd) yt ya) ?_;refine tG 0 (.slice OA O.length oc) hk ?_;refine tG 2 (.slice PA path.length pc) hk ?_;refine tG 4 (.string (str id)) hk ?_;refine tS 5 (.agg #[nI (yk:Nat),.string (str ys),.string (str yn),.slice YA ym yc,.slice YB hU yd,.string (str yt),nI (ya:Nat)]) rfl (λw' hS=>by obtain ⟨q0,q1,q2,q3,q4,q5,q6⟩:=BxN.cells hS;go_simp) hk ?_;refine tG 7 (.string (str h0)) hk ?_;go_simp;refine sS 1 λK hK=> ?_;go_simp;have hm:=h7.alloc (.cells #[] 9);refine hK _ _ (H.out.ext hm) ?_;clear hK K;have hJ:=gd (Jx (w:=W5.drew) (base:=W5.heap.size) (e:=9) (size:=1) (n:=0) (cs:= []) (Zc _) rfl (by decide));have hh:=gd (ZeN (n:=0) (m:=path.length) (by have:=gO.out;omega));refine sS 3 λK hK=> ?_;refine Z1 _ (by rfl) (.tmp 46) (.tmp 47) _ (by rfl) W5.heap.size 9 s0 _ 1 16 underlying52 gX gY gZ g0 rfl (by decide) _ 0 [] (by rfl) hJ.out (.slice PA path.length pc) path.length (path.map Value.string) (by rfl) (HP.out.ext (Y.out.trans hm)) (Zan _) hh.out.1 hh.out.2 hm.size ?_;intro v4 w4 S gr gm;have D:Ext W5 w4:=Ext.app hm gr hJ.out (Zc _);rw[YI,Z7] at S;obtain ⟨PB,pb,rfl⟩:=Ym S;have gg:=gd S;have fM:=gd D;clear S gr gm hJ hh;refine hK _ _ (H.out.ext D) ?_;clear hK K;refine sS 6 λK hK=> ?_;go_simp;go_at_call 72;have hz:=hI.out w4 (Y.out.trans D)
    with_reducible refine Za hz ?_
    clear hz;rintro e w6 ⟨rfl,h6⟩;have hi:=D.trans h6;refine hK _ _ (H.out.ext hi) ?_;clear hK K;refine sS 8 λK hK=> ?_;go_simp;refine hK _ _ (H.out.ext hi) ?_;clear hK K;refine sS 9 λK hK=> ?_;go_simp;have hl:=hi.alloc (.cells #[.slice PB path.length pb,.string (str id),.string (str NM),.string (str h0),nI (-62135596800),sN] 55);refine hK _ _ (H.out.ext hl) ?_;clear hK K;have HF:Hid (opFd path K9 id=⟨path,str id,str NM,str h0, -62135596800,[]⟩):=gd (by unfold opFd;rw[hA.out,gw.out]);obtain ⟨F,hF⟩:∃F:Fc,F=⟨.slice PB path.length pb,sN,⟨path,str id,str NM,str h0, -62135596800,[]⟩⟩:=⟨_,rfl⟩;have fD:=gd hF;have gh:Hid (∀u∈cellsC F,u.oneCell'=true):=gd (by rw[hF];exact Jv ⟨⟨_,_,_,rfl⟩,⟨_,_,_,rfl⟩⟩);have hV:Hid (RSl (w6.alloc (.cells #[.slice PB path.length pb,.string (str id),.string (str NM),.string (str h0),nI (-62135596800),sN] 55)) 6 (.slice (some ⟨w6.heap.size,0,none⟩) 1 1) 1 (cellsC F)):=gd (by rw[hF];exact Yo rfl (by decide));have ge:=gd (ZkI (n:=O.length) (m:=1) (by have:=gb.out;have:=gP.out;omega));have gK:=gd (gf.out.ext hl);have fK:Hid (RdC (w6.alloc (.cells #[.slice PB path.length pb,.string (str id),.string (str NM),.string (str h0),nI (-62135596800),sN] 55)) F):=gd (by rw[hF];exact ⟨RSl.of_own (Ya (Ya gg.out h6) ((Ext.refl w6).alloc _)),RSl.nil _ 5⟩);have gH:Hid (awayC F (Value.slice OA O.length oc).ownBlock):=gd (by
     rw[hF];refine ⟨?_,Or.inl rfl⟩;by_cases gt:path= []
     ·exact Or.inl gt
     ·exact Or.inr (Ziq gf.out.row gg.out (by simpa using gt)))
    have gc:Hid (∀r,r<w.heap.size->awayC F (some r)):=gd (λr hr=>by
     rw[hF];refine ⟨?_,Or.inl rfl⟩;by_cases gt:path= []
     ·exact Or.inl gt
     ·exact Or.inr (ZkG gg.out (by simpa using gt) (YZ hr Y.out.size)))
    clear hF;refine sS 10 λK hK=> ?_;refine Z1 _ (by rfl) (.tmp 45) (.tmp 54) _ (by rfl) W1.heap.size 55 i0 _ 6 104 underlying29 fl fA h9 fB rfl (by decide) _ O.length (flatC O) (by rfl) gK.out.row _ 1 (cellsC F) (by rfl) hV.out gh.out ge.out.1 ge.out.2 (((Q.out.ext.trans hW.out).trans hl).size) ?_;intro v8 w8 ha hQ hY;have fc:=HFs.snoc gK.out fK.out gH.out ha hQ hY;have hw:Ext W1 w8:=Ext.app ((Q.out.ext.trans hW.out).trans hl) hQ gK.out.row (Zc _);have g8:=(H.out.ext hl).grown hQ (λe=>by have:=(Q.out.own.row.lt _ e).2;omega);obtain ⟨OB,ob,rfl⟩:=Ym ha;have fE:=gd fc;have fN:=gd hw;clear ha hQ hY fc hw;refine hK _ _ g8 ?_;clear hK K;refine sS 11 λK hK=> ?_;go_simp;refine hK _ _ g8 ?_;clear hK K;refine sE ?_;go_wp2;go_roundw
    case rel=>exact ⟨j+1,O++ [F],h5,by go_num,fE.out,(by rw[Zb,V8];have:=gJ.out;have:=gP.out;omega),(λr hr x hx=>(Zs.1 hx).elim (Q.out.far r hr x) λh=>by rw[Zo.1 h];exact gc.out r hr),(by rw[ZS,List.map_singleton,fD.out,<-HF.out];exact HN.out),fN.out⟩
    case measure=>simp[intOf];omega
  ·have fR:j=L.length:=om;subst fR;have ff:=hd.left;rw[ZC (by rw[Jw];omega),Zlt] at ff;subst ff;have Q:=gd hd;have he:=gd gT;clear hd gT HR;go_wp2
   go_ret3
   exact ⟨_,rfl,⟨_,O,rfl,HFs.mono Q.out.own g5.out.size,rfl,Q.out.far⟩,he.out⟩
  all_goals
   subst h4
   go_wp2_with (first|(refine Zf rfl 25 (.tmp 10) (.tmp 29) rfl wr.heap.size _ rfl rfl _ _ (Zg _ _) ZJ rfl YU ?_;rw[Z0];rw[hq])|(go_at_call 35;refine Za (hg.out _ (he.out.trans Z.out)) ?_;rintro e W3 ⟨rfl,X⟩;obtain ⟨d0,d1,d2,d3,d4,d5,d6⟩:=(hH.out.ext X).cells)|(go_at_call 72;refine Za (hI.out _ ((he.out.trans Z.out).trans X)) ?_;rintro e W4 ⟨rfl,D⟩)|(go_at_call 71;refine Za (hn.out _) ?_;rintro e W5 ⟨rfl,hC⟩;have e6:=(D.trans hC).cell d6))
   go_region
   go_wp2
   go_ret3
   exact ⟨_,rfl,rfl,((((he.out.trans Z.out).trans X).trans D).trans hC).drew⟩
section
variable {f:Fd}
theorem Zsy (h:f.path.all vld=true) (k: [f.id,f.title,f.link].all vld=true):
 feedKey f=str [91,91]++qAll f.path++str [93,44]++qAll [f.id,f.title,f.link]++str [44]++itoaS f.upd++str [93]:=by
 have A:goodH f:=by simp only[KI,List.all_nil,ZqD,ZG] at k;exact ⟨λp D=>Z6.1 h p D,k⟩
 rw[IG A,ZrE h,ZrE k];unfold itoaS;rw[Zqc,Zqc,Zqc,Zqc,Zqc,Zqc]
 congr 1
 unfold feedJ;rw[J7];simp only[Zw,Z2,J7,K1,Zcl,JR];have e:(f.path.map (jtext∘JV.str))=f.path.map λs=>quoteL s.data.toList:=List.map_congr_left λs _=>K1 s;rw[e];simp only[commas,Zt,ZX,Z7]
theorem ZrR (h:f.path.all vld=false\/ [f.id,f.title,f.link].all vld=false):feedKey f=noS:=by
 unfold feedKey jwrite feedJ;rw[QG,Ze]
 ·rfl
 ·intro I;simp only[KI,List.all_nil,ZqD,ZG,QG,List.all_map] at I;obtain ⟨_,⟨_,A⟩,D,F,H,_⟩:=I;have q1:f.path.all vld=true:=by rw[Z6] at A|-;intro p J;have:=A p J;simpa [jvalid,vld] using this
  have q2: [f.id,f.title,f.link].all vld=true:=by simp only[jvalid] at D F H;simp only[KI,List.all_nil,ZqD,ZG,vld];exact ⟨D,F,H⟩
  rcases h with h|h
  ·rw[q1] at h;cases h
  ·rw[q2] at h;cases h
theorem Zr0 (l:List ByteArray):total l=sizes l:=rfl
theorem Zqe (p es:Value) (f:Fd) (w:Wq) (hf:fok f) (hd:f.path.length<=1000000) (hp:RStrs w p f.path) (he:isSl es):
 Calls prog 174 #[.agg (fCells p es f).toArray] w λx w'=>x= .returned (.string (feedKey f))/\Ext w w':=by
 obtain ⟨hi,H⟩:=hf;obtain ⟨A,c,rfl, -, -⟩:=hp.form;obtain ⟨B,m,d,rfl⟩:=he;have K:=gd (Zrf _ f.path _ (hp.ext ((Ext.refl w).alloc (.cells (fCells (.slice A f.path.length c) (.slice B m d) f).toArray 55))) (by rw[Zr0];omega) hd);have U:total [f.id,f.title,f.link]<=16777216:=by simp[total];omega
 have V:=gd (λ(w':Wq) (v:Value) (h:RSl w' 1 v 3 [.string f.id,.string f.title,.string f.link])=>Zrf v [f.id,f.title,f.link] w' h U (by simp));have HD:=gd (λw'=>ZrQ f.upd w' hi);have ha:=ZrO (l:=f.path) (by rw[Zr0];omega) hd;have S:=ZrO U (by simp);have Z:(itoaS f.upd).size<=21:=by unfold itoaS;rw[YN];exact Lib.itoa_length_le f.upd hi.1 hi.2
 have J:f.path.all vld=false->¬f.path= []:=λh e=>by rw[e] at h;cases h
 cases hv: [f.id,f.title,f.link].all vld
 ·have X:=ZrR (Or.inr hv);have Y:qAll [f.id,f.title,f.link]=noS:=by unfold qAll;rw[hv];rfl
  rw[Y] at V;rw[X];clear X Y hv ha S Z U HD H hp J;generalize qAll f.path=P at*;obtain ⟨path,id,title,link,upd,ents⟩:=f;unfold fCells noS at*;dsimp only at*;go_enter func174,ntmps174
  go_wp2_with (first|(go_at_call 209;have H:=K.out;(with_reducible refine Za H ?_);clear H;rintro e w1 ⟨rfl,F⟩;have k1:=F.boxed 1 _ rfl;have k2:=F.boxed 2 _ rfl;have k3:=F.boxed 3 _ rfl)|(go_at_call 209;(have H:=V.out _ _ (Yo (w:=w1) (size:=1) (n:=3) (e:=9) (cs:= [.string id,.string title,.string link]) rfl (by decide)));(with_reducible refine Za H ?_);clear H;rintro e w2 ⟨rfl,I⟩))
  go_ret;exact ⟨rfl,(((Ext.refl w).alloc _).trans F).trans (((Ext.refl w1).alloc _).trans I)⟩
 have hj:=Zsz hv (by simp);cases hv2:f.path.all vld
 ·have X:=ZrR (Or.inl hv2);have Y:qAll f.path=noS:=by unfold qAll;rw[hv2];rfl
  have hb:(0:Int)<(f.path.length:Int):=by have:=Xt.2 (J hv2);omega
  rw[Y] at K;rw[X];clear X Y hv hv2 ha S Z U HD H hp J;generalize qAll [f.id,f.title,f.link]=Q at*;obtain ⟨path,id,title,link,upd,ents⟩:=f;unfold fCells noS at*;dsimp only at*;go_enter func174,ntmps174
  go_wp2_with (first|(go_at_call 209;have H:=K.out;(with_reducible refine Za H ?_);clear H;rintro e w1 ⟨rfl,F⟩;have k1:=F.boxed 1 _ rfl;have k2:=F.boxed 2 _ rfl;have k3:=F.boxed 3 _ rfl)|(go_at_call 209;(have H:=V.out _ _ (Yo (w:=w1) (size:=1) (n:=3) (e:=9) (cs:= [.string id,.string title,.string link]) rfl (by decide)));(with_reducible refine Za H ?_);clear H;rintro e w2 ⟨rfl,I⟩;have k0:=(F.trans (((Ext.refl w1).alloc _).trans I)).boxed 0 _ rfl))
  go_ret;exact ⟨rfl,(((Ext.refl w).alloc _).trans F).trans (((Ext.refl w1).alloc _).trans I)⟩
 have X:=Zsy hv2 hv;rw[X];have z1:2+(qAll f.path).size<=9223372036854775807:=om
 have z2:2+(qAll f.path).size+2<=9223372036854775807:=om
 have z3:2+(qAll f.path).size+2+(qAll [f.id,f.title,f.link]).size<=9223372036854775807:=om
 have z4:2+(qAll f.path).size+2+(qAll [f.id,f.title,f.link]).size+1<=9223372036854775807:=om
 have z5:2+(qAll f.path).size+2+(qAll [f.id,f.title,f.link]).size+1+(itoaS f.upd).size<=9223372036854775807:=om
 have z6:2+(qAll f.path).size+2+(qAll [f.id,f.title,f.link]).size+1+(itoaS f.upd).size+1<=9223372036854775807:=om
 clear X hv U H J ha S Z;rcases YL f.path.length with R|R;have hc:f.path= []:=Zm R;have Y:qAll f.path=⟨#[]⟩:=by rw[hc];rfl
 have hb:¬(0:Int)<(f.path.length:Int):=om
 rw[Y] at K z1 z2 z3 z4 z5 z6|-;clear Y hc hv2 hp R;generalize qAll [f.id,f.title,f.link]=Q at*
 rotate_left
 have hh:=Zsz hv2 (λe=>by rw[e] at R;simp at R);clear hv2 hp;generalize qAll [f.id,f.title,f.link]=Q at*;generalize qAll f.path=P at*
 all_goals
  generalize itoaS f.upd=D at*
  obtain ⟨path,id,title,link,upd,ents⟩:=f
  unfold fCells at*
  dsimp only at*
  go_enter func174,ntmps174
  go_wp2_with (first|(go_at_call 209;have H:=K.out;(with_reducible refine Za H ?_);clear H;rintro e w1 ⟨rfl,F⟩;have k1:=F.boxed 1 _ rfl;have k2:=F.boxed 2 _ rfl;have k3:=F.boxed 3 _ rfl)|(go_at_call 209;(have H:=V.out _ _ (Yo (w:=w1) (size:=1) (n:=3) (e:=9) (cs:= [.string id,.string title,.string link]) rfl (by decide)));(with_reducible refine Za H ?_);clear H;rintro e w2 ⟨rfl,I⟩;have k0:=(F.trans (((Ext.refl w1).alloc _).trans I)).boxed 0 _ rfl;have k4:=(F.trans (((Ext.refl w1).alloc _).trans I)).boxed 4 _ rfl)|(go_at_call 210;refine (HD.out _).mono ?_;rintro e w3 ⟨rfl,hg⟩))
  go_ret
  exact ⟨rfl,((((Ext.refl w).alloc _).trans F).trans (((Ext.refl w1).alloc _).trans I)).trans hg⟩
end
end Go.Proofs.YtnlafkgkcnenfaaGreatDoor
