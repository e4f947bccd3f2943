/- Parts of the proof: contracts and plain laws. -/
import Derived.Test.YtmfinhgobjbecaaGreatDoorProg
import Derived.Test.YtmfinhgobjbecaaGreatDoorA25
namespace Go.Proofs.YtmfinhgobjbecaaGreatDoor
open Go Go.RowKit _root_.Go.Proofs.Tryz
set_option linter.unusedVariables false
set_option linter.unusedSimpArgs false
set_option maxRecDepth 100000
set_option maxHeartbeats 16000000
theorem Zo8 {k:IntKind} {a b:Int} (h:a=b):Ending.returned (.int k a)= .returned (.int k b):=by rw[h]
instance (W:World):Nonempty (Aft W):=⟨⟨W,Ext.refl W⟩⟩
theorem Vh {P:Program} {ops:Array Oper} {rest:List Oper} {o:Oper} {a:Act} {w:Wq} {Q:Exit->Act->Wq->Prop} (D:o.guard=none) (ty:TypeId) (x y:Operand) (R:o.op= .store ty x y)
 (g:Nat) (cells:Array Value) (S:a.eval x= .pointer (some ⟨g,0,none⟩)) (U:a.eval y= .agg cells)
 (t:TypeId) (A:Array Value) (F:w.heap[g]? =some (.cells A t (0,0))) (O:(P.info? ty).map (·.size)=some cells.size)
 (C:A.size=cells.size) (I:cells.all (·.oneCell')=true)
 (h:∀W:Wq,W.heap[g]? =some (.cells cells t (0,0))->(∀b:Wq,Ext b w->b.heap.size<=g->Ext b W)->(∀k,k≠g->W.heap[k]? =w.heap[k]?)->wpList P ops Q rest (a.put o.dst undef) W):wpList P ops Q (o::rest) a w:=
 ZqF D ty x y R g cells S U t A F O C I (h _ (ZqV _ _ _ _ _ _ F) (λb J V=>J.then ⟨rfl,rfl,rfl,by simp[World.setRow],λk H=>Zrn w g k cells om⟩) λk H=>Zrn w g k cells H)
theorem Zqv {w:Wq} {g:Nat} {a b c d e f:Value} {t:TypeId} {fr:Nat×Nat} (h:w.heap[g]? =some (.cells #[a,b,c,d,e,f] t fr)):
 w.cell? ⟨g,0,none⟩=some a/\w.cell? ⟨g,1,none⟩=some b/\w.cell? ⟨g,2,none⟩=some c/\w.cell? ⟨g,3,none⟩=some d/\w.cell? ⟨g,4,none⟩=some e/\w.cell? ⟨g,5,none⟩=some f:=by
 refine ⟨?_,?_,?_,?_,?_,?_⟩<;>(rw[ZqI _ _ _ _ _ _ h];rfl)
section
section
variable {P:Program} {ops:Array Oper} {W:World}
end
section
variable {P:Program} {ops:Array Oper} {md:Region.Mode} {W:World} {p n:Nat} {d:Option Tmp}
theorem Qq {f:FuncId} {args:Array Value} {w:Wq} {v:Value} (h:Calls P f args w λe w'=>e= .returned v/\Ext w w'):Calls P f args w λe w'=>e= .returned v/\∃e:Aft w,w'=e.w:=
 h.mono λ_ w' ⟨C,A⟩=>⟨C,⟨w',A⟩,rfl⟩
end
end
theorem Zmd (l:List UInt8) (k:Nat) (h:l.length<=k):Lib.validD (l.drop k)=true:=by
 rw[Zq3 h];rfl
theorem ZkP (c:UInt8) (h:letterN c.toNat=0) (C:32<=c.toNat):escB c= []:=by
 unfold letterN at h;unfold escB;by_cases A:c.toNat=34\/c.toNat=92
 ·rw[ZqN A] at h;omega
 ·rw[ZqH A,ZqN C]
theorem ZlK (c:UInt8) (h:letterN c.toNat≠0):qB c= [92,UInt8.ofNat (letterN c.toNat)]:=by
 unfold qB;rw[ZaH c h,ZqH (by simp)]
theorem ZpV (c:UInt8) (h:letterN c.toNat=0) (A:c.toNat<32):qB c= [92,117,48,48,hexD (c.toNat / 16),hexD (c.toNat % 16)]:=by
 unfold qB;rw[Zgg c h A,ZqH (by simp)]
theorem Zo4 (c:UInt8) (h:letterN c.toNat=0) (A:32<=c.toNat):qB c= [c]:=by
 unfold qB;rw[ZkP c h A,ZqN rfl]
theorem Zi7 (n:Nat) (w:Wq):Calls prog 226 #[.int .u8 (n:Nat)] w λe w'=>e= .returned (.int .u8 (letterN n:Nat))/\w=w':=by
 obtain ⟨L,h⟩:∃L,letterN n=L:=⟨_,rfl⟩;rw[h];have A:=gd h;clear h;go_enter func226,ntmps226;go_wp2
 all_goals (go_ret;refine ⟨Zo8 ?_,rfl⟩)
 all_goals (rw[<-A.out];unfold letterN;simp at*;(repeat' split)<;>omega)
theorem ZcR (s:ByteArray) (w:Wq) (hs:s.size<=16777216):
 Calls prog 225 #[.string s] w λe w'=>e= .returned (.bool (Lib.validD s.data.toList))/\Ext w w':=by
 have Y:s.size<=maxLen:=by unfold maxLen;omega
 obtain ⟨V,X⟩:∃V,Lib.validD s.data.toList=V:=⟨_,rfl⟩;rw[X];have HV:=gd X;clear X;go_enter func225,ntmps225;go_wp2;go_loopw [3,4,5] (λv _ _ wr=>∃k:Nat,k<=s.size/\v=nI k/\Hid (V=Lib.validD (s.data.toList.drop k))/\Ext w wr) (λv _ _ _=>s.size - (intOf v).toNat)
 case atStart=>exact ⟨0,ZqO _,rfl,HV.out.symm,Ext.refl _⟩
 case round=>
  obtain ⟨k,hk,rfl,Q,Z⟩:=hrel;by_cases I:k<s.size
  ·have J:=ZhZ s.data.toList k (by rw[Zb];exact I);have H:=Xi (s.data.toList.drop k);rw[ZqP,Zb] at H;have C:=XC s k wr I Y;have D:=Q.out.trans J;clear Q J;obtain ⟨R,hR⟩:∃R,(dec (s.data.toList.drop k)).1=R:=⟨_,rfl⟩;obtain ⟨K,hK⟩:∃K,(dec (s.data.toList.drop k)).2=K:=⟨_,rfl⟩;rw[hR,hK] at C;rw[hK] at H D;clear hR hK;have HC:=gd C;have O:=gd D;clear C D;by_cases h0:K=0
   ·subst h0;have A:=O.out;rw[ZqN rfl] at A;have S:=gd A;clear A O
    go_wp2_with (first|(go_at_call 52;refine (HC.out).mono ?_;rintro e w' ⟨rfl,F⟩))
    go_ret;exact ⟨by rw[S.out];rfl,Z.trans F⟩
   ·have hb:((K:Int)==0)=false:=(by rw[ZqW];omega);have U:Hid (V=Lib.validD (s.data.toList.drop (k+K))):=(by have h:=O.out;rw[ZqH h0] at h;exact h);clear O
    go_wp2_with (first|(go_at_call 52;refine (HC.out).mono ?_;rintro e w' ⟨rfl,F⟩))
    go_roundw
    case rel=>exact ⟨k+K,om,by go_num,U,Z.trans F⟩
    case measure=>simp[intOf];omega
  ·have A:V=true:=(by rw[Q.out,Zmd _ _ (by rw[Zb];omega)]);have S:=gd A;clear A Q;go_wp2;go_ret;exact ⟨by rw[S.out];rfl,Z⟩
theorem Zm4 (n:Nat) (C:n<16) (h:n<({data:=#[48,49,50,51,52,53,54,55,56,57,97,98,99,100,101,102]}:ByteArray).size):({data:=#[48,49,50,51,52,53,54,55,56,57,97,98,99,100,101,102]}:ByteArray)[n]=hexD n:=by
 have A:n=0\/n=1\/n=2\/n=3\/n=4\/n=5\/n=6\/n=7\/n=8\/n=9\/n=10\/n=11\/n=12\/n=13\/n=14\/n=15:=om
 rcases A with rfl|rfl|rfl|rfl|rfl|rfl|rfl|rfl|rfl|rfl|rfl|rfl|rfl|rfl|rfl|rfl<;>rfl
theorem Zi6 (n:Nat) (h:n<256):letterN n<256:=by
 unfold letterN
 repeat' split
 all_goals omega
theorem ZcQ (s:ByteArray) (w:Wq) (hs:s.size<=16777216):
 Calls prog 212 #[.string s] w λe w'=>e= .returned (.tuple #[.string (quoteS s).1,nI ((quoteS s).2:Nat)])/\Ext w w':=by
 have X:=ZcR s w hs;obtain ⟨V,hV⟩:∃V,Lib.validD s.data.toList=V:=⟨_,rfl⟩;rw[hV] at X;have hq:quoteS s=if V then (str (quoteL s.data.toList),0) else (str [],5):=by unfold quoteS;rw[hV]
 rw[hq];clear hq hV;have hh:=gd X;clear X;obtain ⟨i0,hd,he,hf,hg⟩:=ZrE Ju;cases V
 ·go_enter func212,ntmps212
  go_wp2_with (go_at_call 225;refine (hh.out).mono ?_;rintro e w' ⟨rfl,hx⟩)
  go_ret2
  exact ⟨rfl,hx⟩
 ·obtain ⟨Q,hQ⟩:∃Q,quoteL s.data.toList=Q:=⟨_,rfl⟩;rw[hQ];have HQ:=gd hQ;clear hQ;simp only[Zsy];go_enter func212,ntmps212
  go_wp2_with (go_at_call 225;refine (hh.out).mono ?_;rintro e w' ⟨rfl,hx⟩)
  have ht:=hx.size;go_loopw [4,5,6] (λv i _ wr=>∃k:Nat,k<=s.size/\i=nI k/\wr.ownsRow w.heap.size 5 1 v (qPre s.data.toList k).length (Lib.byteCells (qPre s.data.toList k))/\Ext w wr) (λ_ i _ _=>s.size - (intOf i).toNat)
  case atStart=>exact ⟨0,ZqO _,rfl,Y9 (cs:= [.int .u8 34]) ht (by simp) (by unfold maxLen;omega),hx.alloc _⟩
  case round=>
   obtain ⟨k,hk,rfl,R,Y⟩:=hrel;have hA:=Y.size;have hz:=Zhj s.data.toList k;by_cases hp:k<s.size
   ·have F:=ZeB s k hp;have D:=R;obtain ⟨_,A,c,rfl,hr,hn,_,_⟩:=RSl.of_own R;have S:=Zi7 s[k].toNat;have hw:=Xd s[k];by_cases Z:letterN s[k].toNat=0
    ·rw[Z] at S;have hc:=gd S;clear S;by_cases hm:s[k].toNat<32
     ·rw[ZpV _ Z hm] at F
      replace F:=gd F
      have HL:=gd Z;clear Z
      go_wp2_with (go_at_call 226;refine (hc.out _).mono ?_;rintro e w' ⟨rfl,rfl⟩)
      obtain ⟨a,ha⟩:∃a,s[k].toNat / 16=a:=⟨_,rfl⟩;obtain ⟨b,hb⟩:∃b,s[k].toNat % 16=b:=⟨_,rfl⟩;rw[ha,hb] at F;have hu:(a:Int)<16:=om;have hv:(b:Int)<16:=om;have hB:IntKind.u8.wrap ((s[k].toNat:Int) / 16)=(a:Int):=(by rw[IntKind.wrap_u8];omega);have hC:((s[k].toNat:Int)).tmod 16=(b:Int):=(by rw[Int.tmod_eq_emod_of_nonneg om];omega);clear ha hb
      go_region_law (refine Zk _ rfl (.tmp 36) (.tmp 43) _ rfl w.heap.size 5 i0 _ 1 1 underlying145 hd he hf hg rfl om _ _ _ rfl ((D.alloc _).drew) _ 6 _ rfl (RSl.ext (Zj (by simp) (by unfold maxLen;omega)) (Ext.refl _).drew) (by intro y U;simp at U;rcases U with rfl|rfl|rfl|rfl|rfl<;>rfl) (by unfold maxLen;omega) om (by simp;omega) ?_;intro v1 J h I H)
      all_goals have O:Ext w J:=((Y.alloc _).drew).app I (D.alloc _).drew (ZqE _)
      all_goals rw[Zm4 a om,Zm4 b om] at h
      all_goals have C:J.ownsRow w.heap.size 5 1 v1 (qPre s.data.toList (k+1)).length (Lib.byteCells (qPre s.data.toList (k+1))):=(by rw[F.out,Zf,ZqG];exact h)
      all_goals clear I H h
      all_goals go_wp2
      all_goals go_roundw
      all_goals first|exact ⟨k+1,om,by go_num,C,O⟩|(simp[intOf];omega)|((repeat apply Zsb);exact ⟨⟨k+1,om,by go_num,C,O⟩,rfl⟩)
     ·rw[Zo4 _ Z om] at F
      replace F:=gd F
      have HL:=gd Z;clear Z
      go_wp2_with (first|(go_at_call 226;refine (hc.out _).mono ?_;rintro e w' ⟨rfl,rfl⟩)|(at_builtin;refine Za _ rfl (.tmp 20) (.tmp 22) _ rfl w.heap.size 5 i0 _ 1 1 underlying145 hd he hf hg rfl om _ _ _ rfl (D.alloc _) _ 1 _ rfl (Zj (cs:= [.int .u8 s[k].toNat]) (by simp) (by unfold maxLen;omega)) (by intro y U;simp at U;(first|(rcases U with rfl|rfl<;>rfl)|(subst U;rfl))) (by unfold maxLen;omega) om (by simp;omega) ?_;intro v1 J h I H))
      have O:Ext w J:=(Y.alloc _).app I (D.alloc _) (ZqE _);have C:J.ownsRow w.heap.size 5 1 v1 (qPre s.data.toList (k+1)).length (Lib.byteCells (qPre s.data.toList (k+1))):=(by rw[F.out,Zf,ZqG];exact h);clear I H h;go_wp2;go_roundw
      case rel=>first|exact ⟨k+1,om,by go_num,C,O⟩|((repeat apply Zsb);exact ⟨⟨k+1,om,by go_num,C,O⟩,rfl⟩)
      case measure=>simp[intOf];omega
    ·rw[ZlK _ Z] at F
     replace F:=gd F
     have hi:=Zi6 s[k].toNat (Z6 _);obtain ⟨N,hN⟩:∃N,letterN s[k].toNat=N:=⟨_,rfl⟩;rw[hN] at S F Z hi;have hc:=gd S;have hb:((N:Int) !=0)=true:=(by rw[ZrQ];omega);clear S hN Z
     go_wp2_with (first|(go_at_call 226;refine (hc.out _).mono ?_;rintro e w' ⟨rfl,rfl⟩)|(at_builtin;refine Za _ rfl (.tmp 28) (.tmp 31) _ rfl w.heap.size 5 i0 _ 1 1 underlying145 hd he hf hg rfl om _ _ _ rfl (D.alloc _) _ 2 _ rfl (Zj (cs:= [.int .u8 92,.int .u8 (N:Nat)]) (by simp) (by unfold maxLen;omega)) (by intro y U;simp at U;(first|(rcases U with rfl|rfl<;>rfl)|(subst U;rfl))) (by unfold maxLen;omega) om (by simp;omega) ?_;intro v1 J h I H))
     have O:Ext w J:=(Y.alloc _).app I (D.alloc _) (ZqE _);have C:J.ownsRow w.heap.size 5 1 v1 (qPre s.data.toList (k+1)).length (Lib.byteCells (qPre s.data.toList (k+1))):=(by rw[F.out,Zf,ZqG];rw[show Lib.byteCells [92,UInt8.ofNat N]= [Value.int .u8 92,Value.int .u8 (N:Nat)] from by simp[Lib.byteCells,Nat.mod_eq_of_lt hi]];exact h);clear I H h;go_wp2;go_roundw
     case rel=>first|exact ⟨k+1,om,by go_num,C,O⟩|((repeat apply Zsb);exact ⟨⟨k+1,om,by go_num,C,O⟩,rfl⟩)
     case measure=>simp[intOf];omega
   ·have ho:k=s.size:=om;subst ho;have hj:Hid (str (qPre s.data.toList s.size++ [34])=str Q):=(by show _=_;rw[<-HQ.out,<-Zhi];rfl);have D:=R;obtain ⟨_,A,c,rfl,hr,hn,_,_⟩:=RSl.of_own R
    go_wp2_with (at_builtin;refine Za _ rfl (.tmp 45) (.tmp 46) _ rfl w.heap.size 5 i0 _ 1 1 underlying145 hd he hf hg rfl om _ _ _ rfl (D.alloc _) _ 1 _ rfl (Zj (cs:= [.int .u8 34]) (by simp) (by unfold maxLen;omega)) (by intro y U;simp at U;subst U;rfl) (by unfold maxLen;omega) om (by simp;omega) ?_;intro v1 J h I H;have O:Ext w J:=(Y.alloc _).app I (D.alloc _) (ZqE _);have kc:=U4 J w.heap.size v1 (qPre s.data.toList s.size++ [34]) (by rw[Zf,ZqG];exact h);rw[hj.out] at kc;clear I H h)
    go_ret2
    exact ⟨rfl,O⟩
section
namespace Ord
section
variable {α κ:Type} (O:Ord α κ)
end
variable {α κ:Type} [DecidableEq κ] (O:Ord α κ)
theorem canon_append (l t:List α):O.canon (l++t)=t.foldl O.put (O.canon l):=by unfold canon;rw[List.foldl_append]
end Ord
end
section
attribute [local go_sem] Zph strOfNums_size
theorem Zin (n:Int) (h:i64ok n):(Lib.decDigits n.natAbs).length<=21:=by
 have:=Lib.itoa_length_le n h.1 h.2;unfold Lib.itoa at this;split at this
 ·simp at this;omega
 ·rwa [show n.toNat=n.natAbs by omega] at this
theorem ZdZ (x:Int) (d:Nat) (l:List UInt8) (h:x.toNat=d):strOfNums [x]++str l=str (UInt8.ofNat d::l):=by
 subst h;exact Yj (by simp[JY])
theorem ZlY (n:Int) (l:List UInt8) (A:n<0) (h:l=Lib.decDigits n.natAbs):({data:=#[45]}:ByteArray)++str l=itoaS n:=by
 unfold itoaS Lib.itoa;rw[ZqN A,h];exact Yj (by simp)
theorem Zjo (n:Int) (l:List UInt8) (A:0<=n) (h:l=Lib.decDigits n.natAbs):str l=itoaS n:=by
 unfold itoaS Lib.itoa;rw[ZqH om,h,show n.toNat=n.natAbs by omega]
theorem Zf8 (n:Int) (w:World) (hn:i64ok n):
 Calls prog 196 #[.int .i64 n] w λe w'=>e= .returned (.string (itoaS n))/\Ext w w':=by
 have Q:=Zin n hn;obtain ⟨R,hR⟩:∃R,itoaS n=R:=⟨_,rfl⟩;rw[hR];have V:=gd hR;have J:=gd Q;have HN:=gd hn;clear hR Q hn;go_enter func196,ntmps196;go_wp2;go_loopw [3,4,5] (λv m _ wr=>∃(x:Int) (l:List UInt8),m= .int .i64 x/\v= .string (str l)/\Hid (i64ok x)/\Hid (Lib.decDigits x.natAbs++l=Lib.decDigits n.natAbs)/\Ext w wr) (λ_ m _ _=>(intOf m).natAbs)
 case atStart=>exact ⟨n,[],rfl,rfl,HN,by show _=_;simp,Ext.refl _⟩
 case round=>
  obtain ⟨x,l,rfl,rfl,C,X,Y⟩:=hrel;have hc:l.length<=21:=by have h1:=ZqS List.length X.out;have h2:=J.out;rw[ZqG] at h1;omega
  by_cases D:x.natAbs<10
  ·have F:x= -9\/x= -8\/x= -7\/x= -6\/x= -5\/x= -4\/x= -3\/x= -2\/x= -1\/x=0\/x=1\/x=2\/x=3\/x=4\/x=5\/x=6\/x=7\/x=8\/x=9:=om;have U:Hid ((UInt8.ofNat (48+x.natAbs))::l=Lib.decDigits n.natAbs):=(by show _=_;rw[<-X.out,IC _ D];rfl);have he:l.length<100:=om;clear J X D hc HN;by_cases S:n<0
   ·have Z:Hid (({data:=#[45]}:ByteArray)++str ((UInt8.ofNat (48+x.natAbs))::l)=R):=(by show _=_;rw[ZlY n _ S U.out,V.out]);clear V C;rcases F with rfl|rfl|rfl|rfl|rfl|rfl|rfl|rfl|rfl|rfl|rfl|rfl|rfl|rfl|rfl|rfl|rfl|rfl|rfl
    all_goals go_wp2
    all_goals go_ret
    all_goals exact ⟨by rw[<-Z.out];rfl,by repeat (first|exact Y|apply Ext.drew|apply Ext.alloc)⟩
   ·have Z:Hid (str ((UInt8.ofNat (48+x.natAbs))::l)=R):=(by show _=_;rw[Zjo n _ om U.out,V.out]);clear V C;rcases F with rfl|rfl|rfl|rfl|rfl|rfl|rfl|rfl|rfl|rfl|rfl|rfl|rfl|rfl|rfl|rfl|rfl|rfl|rfl
    all_goals go_wp2
    all_goals go_ret
    all_goals exact ⟨by rw[<-Z.out];rfl,by repeat (first|exact Y|apply Ext.drew|apply Ext.alloc)⟩
  ·have U:Hid (Lib.decDigits (x.natAbs / 10)++(UInt8.ofNat (48+x.natAbs % 10)::l)=Lib.decDigits n.natAbs):=(by show _=_;rw[<-X.out,Vq _ D,ZqY];rfl);by_cases H:0<=x
   ·obtain ⟨a,rfl⟩:=Int.eq_ofNat_of_zero_le H;have O:=C.out.2;have ha:10<=(a:Int):=om;have I:Hid ((a:Int)<=9223372036854775807):=O;clear O D H;go_wp2;have A:i64ok ((a:Int) / 10):=(by have:=I.out;unfold i64ok;omega);refine ⟨⟨(a:Int) / 10,UInt8.ofNat (48+a % 10)::l,by rw[Z9 _ A],by rw[ZdZ _ (48+a % 10) l om],A,?_,Y.alloc _⟩,?_⟩
    ·have h:=U.out;rw[show ((a:Int)).natAbs=a by omega] at h;show _=_;rw[show ((a:Int) / 10).natAbs=a / 10 by omega];exact h
    ·rw[Z9 _ A];simp[intOf];omega
   ·obtain ⟨a,rfl⟩:∃a:Nat,x= -(a:Int):=⟨x.natAbs,om⟩;have O:=C.out.1;have ha:10<=(a:Int):=om;have I:Hid (-9223372036854775808<= -(a:Int)):=O;clear O D H;go_wp2
    all_goals have A:i64ok (-((a:Int) / 10)):=by have:=I.out;unfold i64ok;omega
    all_goals refine ⟨⟨-((a:Int) / 10),UInt8.ofNat (48+a % 10)::l,by rw[Z9 _ A],by rw[ZdZ _ (48+a % 10) l om],A,?_,Y.alloc _⟩,by rw[Z9 _ A];simp[intOf];omega⟩
    all_goals have h:=U.out
    all_goals rw[show (-(a:Int)).natAbs=a by omega] at h
    all_goals (show _=_)
    all_goals rw[show (-((a:Int) / 10)).natAbs=a / 10 by omega]
    all_goals exact h
end
theorem VO (v:Value) (l:List ByteArray) (w:Wq) (h:RSl w 1 v l.length (l.map Value.string)) (hs:∀s∈l,s.size<=16777216):
 Calls prog 76 #[v] w λe w'=>e= .returned (nI (firstErr l:Nat))/\Ext w w':=by
 obtain ⟨_,A,c,rfl,U,Q,_,_⟩:=id h;have hc:l.length<=9223372036854775807:=ZqM U Q;clear U Q;obtain ⟨E,D⟩:∃E,firstErr l=E:=⟨_,rfl⟩;rw[D];go_enter func76,ntmps76;go_wp2;go_loopw [3] (λi wr=>∃k:Nat,k<=l.length/\i=nI k/\Hid (E=firstErr (l.drop k))/\Ext w wr) (λi _=>l.length - (intOf i).toNat)
 case atStart=>exact ⟨0,ZqO _,rfl,D.symm,Ext.refl _⟩
 case round=>
  obtain ⟨k,hk,rfl,V,X⟩:=hrel;by_cases F:k<l.length
  ·obtain ⟨ad,rfl,H⟩:=(h.ext X).at1 k (.string l[k]) (by rw[Zrq,ZqL F];rfl);have I:=GJ (l:=l) (k:=k) F;have Y:=gd (VD l[k] wr (by have:=hs l[k] (Zq2 F);unfold maxLen;omega));obtain ⟨O,hO⟩:∃O,(checkS l[k]).1=O:=⟨_,rfl⟩;obtain ⟨K,hK⟩:∃K,(checkS l[k]).2=K:=⟨_,rfl⟩;obtain ⟨S,hS⟩:∃S,l[k]=S:=⟨_,rfl⟩;rw[hK] at I;rw[hO,hK,hS] at Y;rw[hS] at H;have C:=V.out.trans I;clear I V hO hK hS D;by_cases Z:K=0
   ·subst Z;rw[ZqN rfl] at C;have HF:=gd C;clear C
    go_wp2_with (first|(go_at_call 99;refine (Y.out).mono ?_;rintro e w' ⟨rfl,J⟩))
    go_roundw
    case rel=>exact ⟨k+1,F,by go_num,HF.out,X.trans J⟩
    case measure=>simp[intOf];omega
   ·have hb:((K:Int) !=0)=true:=(by simp;omega);rw[ZqH Z] at C;subst C;clear Z
    go_wp2_with (first|(go_at_call 99;refine (Y.out).mono ?_;rintro e w' ⟨rfl,J⟩))
    go_ret;exact ⟨rfl,X.trans J⟩
  ·have ha:k=l.length:=om;have C:=V.out;rw[Zq3 om] at C;have R:E=0:=C;subst R;clear C V D;go_wp2;go_ret;exact ⟨rfl,X⟩
section
abbrev entR (w:Wq) (e:Ent):Wq:=((w.alloc (.cells (eCells e).toArray 61)).alloc (.cells (eCells zeroE).toArray 61)).alloc (.cells #[.string e.id,.string e.title,.string e.link,.string e.content] 9)
theorem Zfw (e:Ent) (w:Wq) (A:eokS e):
 Calls prog 76 #[.slice (some ⟨w.heap.size+1+1,0,none⟩) 4 4] (entR w e) λx w'=>x= .returned (nI (firstErr (strsE e):Nat))/\Ext (entR w e) w':=
 VO _ (strsE e) _ (Yr (e:=9) (fr:=(0,0)) (cs:= [_,_,_,_]) (Z5 w _ _ _) rfl (by decide)) (by
  obtain ⟨C,D,F,H⟩:=A;intro s h;simp only[strsE,Zq1,Zri,ZrD] at h;rcases h with rfl|rfl|rfl|rfl<;>assumption)
theorem KH (s:ByteArray) (w:Wq) (h:s.size<=16777216):
 Calls prog 72 #[.string s] w λe w'=>e= .returned (.string (collapse s))/\Ext w w':=Xg s w om
attribute [local go_sem] calm1
theorem Zfx (e:Ent) (w:Wq) (hE:Env w) (hs:eokS e):
 Calls prog 77 #[.agg (eCells e).toArray] w λx w'=>x= .returned (.tuple #[.agg (eCells (normE e)).toArray,nI (errE e:Nat)])/\Ext w w':=by
 have Y:=gd (Zfw e w hs);have hk:Ext w (entR w e):=(((Ext.refl w).alloc _).alloc _).alloc _;by_cases R:firstErr (strsE e)=0
 focus
  rw[R] at Y
  have hf:=U6 (e:=e)
  have HF:=gd hf
  clear hf
  obtain ⟨s1,s2,s3,s4⟩:=hs
  obtain ⟨id,title,link,content,upd⟩:=e
  simp only at s1 s2 s3 s4
  unfold entR eCells zeroE noS at*
  go_enter func77,ntmps77
  go_wp2_with (first|(go_at_call 76;refine (Y.out).mono ?_;rintro e w1 ⟨rfl,D⟩;have I:=Zae D;have c0:=ZN ⟨_,D⟩ 0 _ rfl;have c1:=ZN ⟨_,D⟩ 1 _ rfl;have c2:=ZN ⟨_,D⟩ 2 _ rfl;have c3:=ZN ⟨_,D⟩ 3 _ rfl;have c4:=ZN ⟨_,D⟩ 4 _ rfl;dsimp only at c0 c1 c2 c3 c4))
  have a0:∀d:Aft w1,d.w.cell? ⟨w.heap.size,0,none⟩=some (.string id):=Aft.cell c0
  have a1:∀d:Aft w1,d.w.cell? ⟨w.heap.size,1,none⟩=some (.string title):=Aft.cell c1
  have a2:∀d:Aft w1,d.w.cell? ⟨w.heap.size,2,none⟩=some (.string link):=Aft.cell c2
  have a3:∀d:Aft w1,d.w.cell? ⟨w.heap.size,3,none⟩=some (.string content):=Aft.cell c3
  have a4:∀d:Aft w1,d.w.cell? ⟨w.heap.size,4,none⟩=some (nI upd):=Aft.cell c4
  have hi:∀d:Aft w1,d.w.heap[w.heap.size+1]? =some (.cells #[eS,eS,eS,eS,nI 0] 61):=λd=>d.ext.heap I
  clear c0 c1 c2 c3 c4 I
  refine Jd 15 (.cells #[eS,eS,eS,eS,nI 0] 61) _ (by kernel_rfl) rfl (by kernel_rfl) (λa w K h=>by go_simp;exact h) ?_
  repeat (refine Xr (λK hK=> ?_);go_simp;first|(refine hK _ ?_;clear hK K)|(apply Zsb;refine ⟨λ_=> ?_,hK _ ?_⟩;(go_at_call 72;exact Qq (KH _ _ (by assumption)));clear hK K))
  refine X0 ?_
  intro g c hg Q
  refine Vh rfl 61 (.tmp 5) (.tmp 34) rfl g _ rfl rfl _ _ Q ZQ rfl (Vc (Zr ⟨collapse id,collapse title,collapse link,collapse content,upd⟩)) ?_
  intro W3 hd ha _
  have U:Ext w1 W3:=ha w1 c.ext hg
  have X:=hi ⟨W3,U⟩
  have e4:=a4 ⟨W3,U⟩
  dsimp only at X e4
  obtain ⟨d0,d1,d2,d3,d4⟩:=Zou hd
  clear Q ha hd a0 a1 a2 a3 a4 hi
  have hj:∀n,errE ⟨id,title,link,content,upd⟩=n->n≠0->normE ⟨id,title,link,content,upd⟩=zeroE:=λn h h'=>by unfold normE;rw[h,ZqH h']
  have he:errE ⟨id,title,link,content,upd⟩=if collapse id=noS then 19 else if inT upd then 0 else 3:=by unfold errE;rw[ZqH (by simpa using R)]
  have H:=gd hj
  have J:=gd he
  clear hj he R HF Y
  by_cases V:collapse id=noS
 focus
  have C:=J.out
  rw[ZqN V] at C
  have A:=H.out _ C (by decide)
  have hm:(collapse id).toList= []:=by rw[V,ZrC];rfl
  have Z:=gd (Zr9 C A)
  clear C A V J H
  go_wp2_with (first|(refine ZqF rfl 61 (.tmp 2) (.tmp 38) rfl (w.heap.size+1) _ rfl rfl _ _ X ZQ rfl (Vc (Zr zeroE)) ?_))
 rotate_left
 have hm:=JQ V;have C:=J.out;rw[ZqH V] at C;clear J V;by_cases O:upd< -62135596800
 focus
  have A:errE ⟨id,title,link,content,upd⟩=3:=by rw[C,ZqH];unfold inT;simp;omega
  have F:=H.out _ A (by decide)
  have Z:=gd (Zr9 A F)
  have hl:=Zrj O
  clear C A F H
  go_wp2_with (first|(refine ZqF rfl 61 (.tmp 2) (.tmp 47) rfl (w.heap.size+1) _ rfl rfl _ _ X ZQ rfl (Vc (Zr zeroE)) ?_))
 rotate_left
 have hl:=Zre O;by_cases S:253402300799<upd
 focus
  have A:errE ⟨id,title,link,content,upd⟩=3:=by rw[C,ZqH];unfold inT;simp;omega
  have F:=H.out _ A (by decide)
  have Z:=gd (Zr9 A F)
  have hh:=Zrj S
  clear C A F H O
  go_wp2_with (first|(refine ZqF rfl 61 (.tmp 2) (.tmp 47) rfl (w.heap.size+1) _ rfl rfl _ _ X ZQ rfl (Vc (Zr zeroE)) ?_))
 rotate_left
 focus
  have hh:=Zre S
  have A:errE ⟨id,title,link,content,upd⟩=0:=by rw[C,ZqN];unfold inT;simp;omega
  have F:normE ⟨id,title,link,content,upd⟩=⟨collapse id,collapse title,collapse link,collapse content,upd⟩:=by unfold normE;rw[ZqN A];rfl
  have Z:=gd (Zr9 A F)
  clear C A F H O S
  go_wp2_with (first|(refine ZqF rfl 61 (.tmp 2) (.tmp 48) rfl (w.heap.size+1) _ rfl rfl _ _ X ZQ rfl (Vc (Zr ⟨collapse id,collapse title,collapse link,collapse content,upd⟩)) ?_))
 rotate_left
 ·have C:errE e=firstErr (strsE e):=by unfold errE;rw[ZqN R]
  have A:normE e=zeroE:=by unfold normE;rw[ZqH (by rw[C];exact R)]
  rw[C,A];clear C A;obtain ⟨E,hc⟩:∃E,firstErr (strsE e)=E:=⟨_,rfl⟩;rw[hc] at Y R|-;have hb:((E:Int) !=0)=true:=by simp;omega
  clear hc R;obtain ⟨id,title,link,content,upd⟩:=e;unfold entR eCells zeroE noS at*;go_enter func77,ntmps77
  go_wp2_with (first|(go_at_call 76;refine (Y.out).mono ?_;rintro e w1 ⟨rfl,D⟩;have I:=Zae D)|(refine ZqF rfl 61 (.tmp 2) (.tmp 18) rfl (w.heap.size+1) _ rfl rfl _ _ I ZQ rfl (Vc (Zr zeroE)) ?_))
  ((try simp only[Exit.inBlock,Exit.then]);refine ZqT (Zl rfl _ _ _ _ _ _ _ rfl (ZqV _ _ _ _ _ _ I) underlying61 rfl ZQ) rfl ?_);exact ⟨rfl,(hk.trans D).setRow om _⟩
 all_goals
  ((try simp only[Exit.inBlock,Exit.then]);refine ZqT (Zl rfl _ _ _ _ _ _ _ rfl (ZqV _ _ _ _ _ _ X) underlying61 rfl ZQ) rfl ?_)
  exact ⟨by rw[Z.out.1,Z.out.2];rfl,((hk.trans D).trans U).setRow om _⟩
end
def qAll (l:List ByteArray):ByteArray:=if l.all vld then str (commas (l.map λs=>quoteL s.data.toList)) else noS
theorem ZbX (l:List ByteArray):(commas (l.map λs=>quoteL s.data.toList)).length<=6*total l+3*l.length:=by
 induction l with
 |nil=>simp[commas,total]
 |cons s t ih=>
  have h:=XS s.data.toList;rw[Zb] at h;cases t with
  |nil=>simp[commas,total];omega
  |cons u r=>have e:total (s::u::r)=s.size+total (u::r):=(by simp[total]);rw[e];simp only[Zq8,commas,ZqG,ZqK] at ih|-;omega
theorem ZjG (l:List ByteArray) (k:Nat):total (l.take k)<=total l:=by
 induction l generalizing k with
 |nil=>simp[total]
 |cons s t ih=>
  cases k with
  |zero=>simp[total]
  |succ k=>have:=ih k;simp[total] at this|-;omega
theorem Gf (a b:List UInt8):str a++str b=str (a++b):=by
 apply Yj;rw[Zg,ByteArray.data_append,Array.toList_append,Zg,Zg]
theorem ZnS {l:List ByteArray} {s:ByteArray} (h:s∈l) (A:vld s=false):qAll l=noS:=by
 unfold qAll;rw[ZqH];simp only[Zrm];intro C;rw[C s h] at A;cases A
theorem Zdz (v:Value) (l:List ByteArray) (w:Wq) (h:RSl w 1 v l.length (l.map Value.string)) (ht:total l<=16777216) (hn:l.length<=1000000):
 Calls prog 195 #[v] w λe w'=>e= .returned (.string (qAll l))/\Ext w w':=by
 obtain ⟨_,A,c,rfl,hj,hh,_,_⟩:=id h;clear hj hh;obtain ⟨R,hR⟩:∃R,qAll l=R:=⟨_,rfl⟩;rw[hR];have HR:=gd hR;have HT:=gd ht;clear hR ht;go_enter func195,ntmps195;go_wp2;go_loopw [3,4] (λu i wr=>∃(k:Nat) (S:ByteArray),k<=l.length/\i=nI k/\u= .string S/\Hid (S=str (commas ((l.take k).map λs=>quoteL s.data.toList))/\(l.take k).all vld=true)/\S.size<=110000000/\Ext w wr) (λ_ i _=>l.length - (intOf i).toNat)
 case atStart=>exact ⟨0,_,ZqO _,rfl,rfl,⟨rfl,rfl⟩,by decide,Ext.refl _⟩
 case round=>
  obtain ⟨k,S,hk,rfl,rfl,J,hr,hx⟩:=hrel;by_cases F:k<l.length
  ·obtain ⟨ad,rfl,X⟩:=(h.ext hx).at1 k (.string l[k]) (by rw[Zrq,ZqL F];rfl);have hd:l[k].size<=total l:=by
    have:∀(l:List ByteArray) (s:ByteArray),s∈l->s.size<=total l:=by
     intro l
     induction l with
     |nil=>intro s h;simp at h
     |cons u t ih=>
      intro s h;have e:total (u::t)=u.size+total t:=(by simp[total]);rcases Zq1.1 h with h|h
      ·subst h;omega
      ·have:=ih s h;omega
    exact this l _ (Zq2 F)
   have HQ:=gd (ZcQ l[k] wr (by have:=HT.out;omega));have H:=Zq2 F;have O:l.take (k+1)=l.take k++ [l[k]]:=ZqQ F;have hc:=ZbX (l.take (k+1));have he:=ZjG l (k+1);have Y:=XS l[k].data.toList;rw[Zb] at Y;cases hv:vld l[k] with
   |false=>
    have hq:quoteS l[k]=(str [],5):=(by unfold quoteS;rw[ZqH];unfold vld at hv;rw[hv];decide);rw[hq] at HQ;have HB:=gd (HR.out.symm.trans (ZnS H hv));generalize l[k]=s at*;clear hd H O hc he Y hv hq J HR
    go_wp2_with (first|(go_at_call 212;refine (HQ.out).mono ?_;rintro e w' ⟨rfl,I⟩))
    go_ret;exact ⟨by rw[HB.out];rfl,hx.trans I⟩
   |true=>
    have hq:quoteS l[k]=(str (quoteL l[k].data.toList),0):=(by unfold quoteS;unfold vld at hv;rw[ZqN hv]);rw[hq] at HQ;have C:(if k=0 then str (quoteL l[k].data.toList) else S++str [44]++str (quoteL l[k].data.toList))=str (commas ((l.take (k+1)).map λs=>quoteL s.data.toList)):=by
     rw[O,Zrf,Zq8,Zrz,V6];by_cases Z:k=0
     ·subst Z;simp
     ·have hm:(l.take k).map (λs=>quoteL s.data.toList)≠ []:=(by intro e;have:=ZqS List.length e;rw[Zq9,Zra,Zq5] at this;omega);rw[ZqH Z,ZqH hm,J.out.1,Gf,Gf];simp
    have U:(l.take (k+1)).all vld=true:=(by rw[O,List.all_append,J.out.2];simp[hv]);have HN:=gd (Zr9 C U);have hg:(str (quoteL l[k].data.toList)).size<=100663300:=(by rw[Zo];have:=HT.out;omega);have ha:(str (commas ((l.take (k+1)).map λs=>quoteL s.data.toList))).size<=110000000:=(by rw[Zo];have:=HT.out;have hl:(l.take (k+1)).length<=1000000:=(by rw[Zra];omega);omega);have hf:=gd ha;clear C U O hc he Y hv hq H hd ha;generalize l[k]=s at*;generalize str (quoteL s.data.toList)=Q at*;have ho:S.size+Q.size<=9223372036854775807:=om;by_cases Z:k=0
    ·subst Z;have hb:S=str []:=J.out.1.trans rfl;have C:S++Q=Q:=(by rw[hb];apply Yj;simp);have D:=gd C;clear C hb J;rw[add_zero] at X
     go_wp2_with (first|(go_at_call 212;refine (HQ.out).mono ?_;rintro e w' ⟨rfl,I⟩))
     go_roundw
     case rel=>exact ⟨0+1,_,F,by go_num,rfl,⟨D.out.trans HN.out.1,HN.out.2⟩,by rw[D.out];exact ZqM hg (by decide),hx.trans I⟩
     case measure=>simp[intOf];omega
    ·have hp:(0:Int)<(k:Int):=om;have C:=HN.out.1;rw[ZqH Z] at C;have hu:S.size+1<=9223372036854775807:=om;have hw:S.size+1+Q.size<=9223372036854775807:=om;have hs:(S++str [44]).size=S.size+1:=(by rw[ZsL];rfl);have D:=gd C;clear C J Z
     go_wp2_with (first|(go_at_call 212;refine (HQ.out).mono ?_;rintro e w' ⟨rfl,I⟩))
     go_roundw
     case rel=>exact ⟨k+1,_,F,by go_num,rfl,⟨D.out,HN.out.2⟩,by rw[show (S++⟨#[44]⟩++Q:ByteArray)=_ from D.out];exact hf.out,hx.trans I⟩
     case measure=>simp[intOf];omega
  ·have hi:k=l.length:=om;subst hi;rw[Zq4 (ZqE _)] at J;have V:R=S:=(by rw[<-HR.out,J.out.1];unfold qAll;rw[ZqN J.out.2]);have HF:=gd V;clear J V HR;go_wp2;go_ret;exact ⟨by rw[HF.out];rfl,hx⟩
theorem Zez {l:List ByteArray} (h:l.all vld=true):qAll l=str (commas (l.map λs=>quoteL s.data.toList)):=by unfold qAll;rw[ZqN h]
theorem Ze6 {e:Ent} (h:(strsE e).all vld=false):entryKey e=noS:=by
 unfold entryKey jwrite entJ;rw[Vu];rw[ZqH]
 ·rfl
 ·simp only[strsE,vld,ZsK,List.all_nil,ZsY] at h;simp only[jvalid,ZsK,List.all_nil,ZsY];simp;intro A C D;simpa [A,C,D] using h
theorem Zk2 {e:Ent} (h:(strsE e).all vld=true):goodE e:=by
 simp only[strsE,ZsK,List.all_nil,ZsY,ZqZ] at h;exact h
theorem Zdp {e:Ent} (h:(strsE e).all vld=true):entryKey e=str [91]++qAll (strsE e)++str [44]++itoaS e.upd++str [93]:=by
 rw[UL (Zk2 h),Zez h];unfold itoaS;rw[Gf,Gf,Gf,Gf]
 congr 1
 unfold entJ strsE;rw[U9];simp only[Zq8,Zrz,Zcy,Zcx,commas,ZqY,Zrp,Zrl]
theorem Zo3 {l:List ByteArray} (h:l.all vld=true) (A:l≠ []):(qAll l).toList.isEmpty=false:=by
 rw[Zez h,Zn,Zg];cases l with
 |nil=>exact absurd rfl A
 |cons s t=>
  cases t with
  |nil=>rfl
  |cons u r=>rfl
theorem ZlJ {l:List ByteArray} (A:total l<=16777216) (h:l.length<=1000000):(qAll l).size<=110000000:=by
 unfold qAll;split
 ·rw[Zo];have:=ZbX l;omega
 ·decide
theorem VR (e:Ent) (w:Wq) (O:eok e):
 Calls prog 160 #[.agg (eCells e).toArray] w λx w'=>x= .returned (.string (entryKey e))/\Ext w w':=by
 obtain ⟨J,X⟩:=O;have H:RSl ((w.alloc (.cells (eCells e).toArray 61)).alloc (.cells #[.string e.id,.string e.title,.string e.link,.string e.content] 9)) 1 (.slice (some ⟨w.heap.size+1,0,none⟩) 4 4) 4 [.string e.id,.string e.title,.string e.link,.string e.content]:=by
  have:=Zj (w:=w.alloc (.cells (eCells e).toArray 61)) (size:=1) (n:=4) (e:=9) (cs:= [.string e.id,.string e.title,.string e.link,.string e.content]) rfl (by decide)
  rwa [Zd] at this
 have h:total (strsE e)<=16777216:=by simp[total,strsE];omega
 have F:=gd (Zdz _ (strsE e) _ H h (by simp[strsE]));have U:=gd (λw'=>Zf8 e.upd w' J);have R:=ZlJ h (by simp[strsE]);have I:(itoaS e.upd).size<=21:=by unfold itoaS;rw[Zo];exact Lib.itoa_length_le e.upd J.1 J.2
 cases hv:(strsE e).all vld with
 |false=>
  have C:=Ze6 hv;have V:qAll (strsE e)=noS:=by unfold qAll;rw[hv];rfl
  rw[V] at F;rw[C];clear C V hv R I h U H X;obtain ⟨id,title,link,content,upd⟩:=e;unfold eCells noS at*;dsimp only at*;go_enter func160,ntmps160
  go_wp2_with (first|(go_at_call 195;refine (F.out).mono ?_;rintro e w1 ⟨rfl,A⟩))
  go_ret;exact ⟨rfl,(((Ext.refl w).alloc _).alloc _).trans A⟩
 |true=>
  have C:=Zdp hv;have Y:=Zo3 hv (by simp[strsE]);rw[C];clear C hv h H X;generalize qAll (strsE e)=Q at*;generalize itoaS e.upd=D at*;obtain ⟨id,title,link,content,upd⟩:=e;unfold eCells at*;dsimp only at*;have Z:1+Q.size<=9223372036854775807:=om
  have z2:1+Q.size+1<=9223372036854775807:=om
  have z3:1+Q.size+1+D.size<=9223372036854775807:=om
  have z4:1+Q.size+1+D.size+1<=9223372036854775807:=om
  go_enter func160,ntmps160
  go_wp2_with (first|(go_at_call 195;refine (F.out).mono ?_;rintro e w1 ⟨rfl,A⟩;have c4:=A.cell (p:=⟨w.heap.size,4,none⟩) (((Ext.refl _).alloc _:Ext (w.alloc _) _).boxed 4 _ rfl))|(go_at_call 196;refine (U.out _).mono ?_;rintro e w2 ⟨rfl,S⟩))
  go_ret;exact ⟨rfl,((((Ext.refl w).alloc _).alloc _).trans A).trans S⟩
theorem ZiO (x y:Int) (ka kb:ByteArray):laterB (iCmp x y) ka kb=(decide (x<y)||(decide (y=x) && !(Op.bytesLess kb.toList ka.toList||kb.toList==ka.toList))):=by
 have D:(!(Op.bytesLess kb.toList ka.toList||kb.toList==ka.toList))=Op.bytesLess ka.toList kb.toList:=by
  cases h:Op.bytesLess ka.toList kb.toList with
  |true=>
   have A:Op.bytesLess kb.toList ka.toList=false:=by
    cases h':Op.bytesLess kb.toList ka.toList with
    |false=>rfl
    |true=>have:=Ir _ _ _ h h';rw[XJ] at this;cases this
   have C:(kb.toList==ka.toList)=false:=(by rw[ZqW];intro e;rw[e,XJ] at h;cases h);rw[A,C];rfl
  |false=>
   cases h':Op.bytesLess kb.toList ka.toList with
   |true=>rfl
   |false=>have:=ZbR _ _ h' h;rw[this];simp
 rw[D];unfold laterB iCmp;by_cases A:x<y
 ·simp[A]
 ·by_cases C:y<x
  ·have:¬y=x:=om;simp[A,C,this]
  ·have:y=x:=om;simp[this]
theorem Jw (a b r:Ent) (w:Wq) (ha:eok a) (hb:eok b) (Y:(a.upd<b.upd/\b=r)\/(¬a.upd<b.upd/\(b.upd==a.upd)=true/\(!(Op.bytesLess (entryKey b).toList (entryKey a).toList||(entryKey b).toList==(entryKey a).toList))=true/\b=r)\/(¬a.upd<b.upd/\(b.upd==a.upd)=true/\(!(Op.bytesLess (entryKey b).toList (entryKey a).toList||(entryKey b).toList==(entryKey a).toList))=false/\a=r)\/(¬a.upd<b.upd/\(b.upd==a.upd)=false/\a=r)):
 Calls prog 125 #[.agg (eCells a).toArray,.agg (eCells b).toArray] w λx w'=>x= .returned (.agg (eCells r).toArray)/\Ext w w':=by
 have V:=gd (λw'=>VR a w' ha);have X:=gd (λw'=>VR b w' hb);generalize entryKey a=ka at*;generalize entryKey b=kb at*;clear ha hb;rcases Y with ⟨h,Z⟩|⟨h,h2,hT,Z⟩|⟨h,h2,hT,Z⟩|⟨h,h2,Z⟩;have hd:=Zrj h
 rotate_left
 iterate 3
  have hd:=Zre h
  rotate_left
 all_goals
  subst Z
  obtain ⟨R,D,H,A,O⟩:=a
  obtain ⟨S,F,I,C,Q⟩:=b
  unfold eCells at*
  dsimp only at*
  go_enter func125,ntmps125
  go_wp2
  obtain ⟨W,J⟩:∃W,W=((w.alloc (.cells #[.string R,.string D,.string H,.string A,nI O] 61)).alloc (.cells #[.string S,.string F,.string I,.string C,nI Q] 61)).alloc (.cells #[eS,eS,eS,eS,nI 0] 61):=⟨_,rfl⟩
  rw[<-J]
  have he:Ext w W:=by rw[J];exact (((Ext.refl w).alloc _).alloc _).alloc _
  have hc:∀d:Aft W,d.w.heap[w.heap.size+1+1]? =some (.cells #[eS,eS,eS,eS,nI 0] 61):=by rw[J];exact λd=>d.ext.heap (Z5 w _ _ _)
  have a0:∀d:Aft W,d.w.cell? ⟨w.heap.size,0,none⟩=some (.string R):=by rw[J];exact λd=>ZN d 0 _ rfl
  have a1:∀d:Aft W,d.w.cell? ⟨w.heap.size,1,none⟩=some (.string D):=by rw[J];exact λd=>ZN d 1 _ rfl
  have a2:∀d:Aft W,d.w.cell? ⟨w.heap.size,2,none⟩=some (.string H):=by rw[J];exact λd=>ZN d 2 _ rfl
  have a3:∀d:Aft W,d.w.cell? ⟨w.heap.size,3,none⟩=some (.string A):=by rw[J];exact λd=>ZN d 3 _ rfl
  have a4:∀d:Aft W,d.w.cell? ⟨w.heap.size,4,none⟩=some (nI O):=by rw[J];exact λd=>ZN d 4 _ rfl
  have b0:∀d:Aft W,d.w.cell? ⟨w.heap.size+1,0,none⟩=some (.string S):=by rw[J];exact λd=>X3 d 0 _ rfl
  have b1:∀d:Aft W,d.w.cell? ⟨w.heap.size+1,1,none⟩=some (.string F):=by rw[J];exact λd=>X3 d 1 _ rfl
  have b2:∀d:Aft W,d.w.cell? ⟨w.heap.size+1,2,none⟩=some (.string I):=by rw[J];exact λd=>X3 d 2 _ rfl
  have b3:∀d:Aft W,d.w.cell? ⟨w.heap.size+1,3,none⟩=some (.string C):=by rw[J];exact λd=>X3 d 3 _ rfl
  have b4:∀d:Aft W,d.w.cell? ⟨w.heap.size+1,4,none⟩=some (nI Q):=by rw[J];exact λd=>X3 d 4 _ rfl
  clear J
  refine rA ?_
  repeat (first|go_big_quiet_step ((first|(go_at_call 160;with_reducible exact Zi (V.out _))|(go_at_call 160;with_reducible exact Zi (X.out _))))|quiet_step ((first|(go_at_call 160;with_reducible exact Zi (V.out _))|(go_at_call 160;with_reducible exact Zi (X.out _)))))
  refine Zru ?_
  rintro _ ⟨d1,rfl⟩
  have U:=hc d1
  go_wp2_with (first|(refine ZqF rfl 61 (.tmp 4) (.tmp 24) rfl (w.heap.size+1+1) _ rfl rfl _ _ U ZQ rfl (Vc (Zr ⟨S,F,I,C,Q⟩)) ?_)|(refine ZqF rfl 61 (.tmp 4) (.tmp 25) rfl (w.heap.size+1+1) _ rfl rfl _ _ U ZQ rfl (Vc (Zr ⟨R,D,H,A,O⟩)) ?_))
  ((try simp only[Exit.inBlock,Exit.then]);refine ZqT (ZrO rfl _ _ _ _ _ _ _ rfl (ZqV _ _ _ _ _ _ U) underlying61 rfl ZQ) rfl ?_)
  exact ⟨rfl,(he.trans d1.ext).setRow om _⟩
theorem Zfy (a b:Ent) (w:Wq) (D:eok a) (F:eok b):
 Calls prog 125 #[.agg (eCells a).toArray,.agg (eCells b).toArray] w λx w'=>x= .returned (.agg (eCells (laterE a b)).toArray)/\Ext w w':=by
 have C:=ZiO a.upd b.upd (entryKey a) (entryKey b);by_cases h:a.upd<b.upd
 ·have e:laterE a b=b:=by unfold laterE;rw[C,ZqN];simp[h]
  rw[e];exact Jw a b b w D F (Or.inl ⟨h,rfl⟩)
 ·cases h2:(b.upd==a.upd) with
  |false=>have A:¬b.upd=a.upd:=(by simpa using h2);have e:laterE a b=a:=(by unfold laterE;rw[C,ZqH];simp[h,A]);rw[e];exact Jw a b a w D F (Or.inr (Or.inr (Or.inr ⟨h,h2,rfl⟩)))
  |true=>
   have A:b.upd=a.upd:=(by simpa using h2);cases hT:(!(Op.bytesLess (entryKey b).toList (entryKey a).toList||(entryKey b).toList==(entryKey a).toList)) with
   |true=>have e:laterE a b=b:=(by unfold laterE;rw[C,hT,ZqN];simp[A]);rw[e];exact Jw a b b w D F (Or.inr (Or.inl ⟨h,h2,hT,rfl⟩))
   |false=>have e:laterE a b=a:=(by unfold laterE;rw[C,hT,ZqH];simp[A]);rw[e];exact Jw a b a w D F (Or.inr (Or.inr (Or.inl ⟨h,h2,hT,rfl⟩)))
section
section
variable {α κ:Type} (O:Ord α κ)
theorem Znc:∀(l:List α) (e:α) (k:Nat) (A:k<l.length),(∀x∈l.take k,O.lt e x=false)->O.lt e l[k]=true->O.ins l e=l.take k++e::l.drop k
 | [],_,k,A,_,_=>by simp at A
 |y::t,e,0,_,_,h=>by
  unfold Ord.ins
  rw[ZqN (by simpa using h)]
  rfl
 |y::t,e,k+1,A,h,h2=>by
  unfold Ord.ins
  rw[ZqH (by simp[h y (by simp)])]
  rw[Znc t e k (by simpa using A) (λx C=>h x (by simp[C])) (by simpa using h2)]
  rfl
theorem Zgz:∀(l:List α) (e:α),(∀x∈l,O.lt e x=false)->O.ins l e=l++ [e]
 | [],_,_=>rfl
 |y::t,e,h=>by
  unfold Ord.ins
  rw[ZqH (by simp[h y (by simp)]),Zgz t e λx A=>h x (by simp[A])]
  rfl
end
section
variable {α κ:Type} [DecidableEq κ] (O:Ord α κ)
theorem Qx:∀(l:List α) (e:α),O.id (O.scan l e).2=O.id e
 | [],_=>rfl
 |x::t,e=>by
  unfold Ord.scan
  by_cases h:O.id x=O.id e
  ·rw[ZqN h,Qx t,O.op_id x e h]
  ·rw[ZqH h];exact Qx t e
theorem Zap:∀(l:List α) (e x:α),O.scan (l++ [x]) e=if O.id x=O.id e then ((O.scan l e).1,O.op x (O.scan l e).2) else ((O.scan l e).1++ [x],(O.scan l e).2)
 | [],e,x=>by simp only[Zrl,Ord.scan]
 |y::t,e,x=>by
  show O.scan (y::(t++ [x])) e=_
  unfold Ord.scan
  by_cases h:O.id y=O.id e
  ·rw[ZqN h,ZqN h,Zap t (O.op y e) x,O.op_id y e h]
  ·rw[ZqH h,ZqH h,Zap t e x]
   by_cases A:O.id x=O.id e
   ·rw[ZqN A,ZqN A]
   ·rw[ZqH A,ZqH A];rfl
end
end
section
theorem Zc0:∀(l:List Ent) (e:Ent),(∀x∈l,eok x)->eok e->eok (ordE.scan l e).2
 | [],_,_,h=>h
 |x::t,e,hl,h=>by
  unfold Ord.scan
  split
  ·exact Zc0 t _ (λy A=>hl y (by simp[A])) (ZcD (hl x (by simp)) h)
  ·exact Zc0 t e (λy A=>hl y (by simp[A])) h
theorem Zc1:∀(l:List Ent) (e:Ent),(ordE.scan l e).1.length<=l.length
 | [],_=>ZqE _
 |x::t,e=>by
  unfold Ord.scan
  split
  ·have:=Zc1 t (ordE.op x e);simp;omega
  ·have:=Zc1 t e;simp;omega
attribute [local go_sem] calm1
theorem Zjq (v:Value) (l:List Ent) (e:Ent) (w:Wq) (h:REnts w v l) (hl:∀x∈l,eok x) (he:eok e) (hn:l.length<=1000000):
 Calls prog 78 #[v,.agg (eCells e).toArray] w λx w'=>∃v',x= .returned v'/\OEnts w' w.heap.size v' (ordE.put l e)/\Ext w w':=by
 obtain ⟨i0,hz,hB,hC,hD⟩:=ZrE U8;obtain ⟨A,c,rfl,go,gk⟩:=h.form;have h8:=gd (λk=>Zc0 (l.take k) e (λx hx=>hl x (Zs2 hx)) he);have hU:=gd (λk=>Zc1 (l.take k) e);have HL:=gd hl;clear go gk hl;go_enter func78,ntmps78;go_wp2;go_loopw [5,6] (λu i wr=>∃k:Nat,k<=l.length/\i=nI k/\OEnts wr (w.heap.size+1) u (ordE.scan (l.take k) e).1/\Ext (w.alloc (.cells (eCells (ordE.scan (l.take k) e).2).toArray 61)) wr) (λ_ i _=>l.length - (intOf i).toNat)
 case atStart=>exact ⟨0,ZqO _,rfl,OEnts.nil _ _,Ext.refl _⟩
 case round=>
  obtain ⟨k,hk,rfl,hh,hx⟩:=hrel;by_cases hm:k<l.length
  ·have hN:Ext w wr:=((Ext.refl w).alloc _).trans hx;obtain ⟨ad,c',hv,hG⟩:=(h.ext hN).at hm;injection hv with hv1 hv2 hv3;subst hv1;clear hv2 hv3;have hi:=Zap ordE (l.take k) e l[k];rw[<-ZqQ hm] at hi;have h2:=Qx ordE (l.take k) e;have hM:=HL.out l[k] (Zq2 hm);have hE:=h8.out k;have hu:=hU.out k;rw[Zra] at hu;obtain ⟨R,hR⟩:∃R,(ordE.scan (l.take k) e).1=R:=⟨_,rfl⟩;obtain ⟨E,ht⟩:∃E,(ordE.scan (l.take k) e).2=E:=⟨_,rfl⟩;rw[hR,ht] at hi;rw[ht] at h2 hE hx;rw[hR] at hu hh;obtain ⟨S,hS⟩:∃S,ordE.scan (l.take (k+1)) e=S:=⟨_,rfl⟩;rw[hS] at hi;rw[<-h2] at hi;obtain ⟨x,hO⟩:∃x,l[k]=x:=⟨_,rfl⟩;rw[hO] at hi hG hM;have HS:=gd hS;have hj:=gd (λw'=>Zfy x E w' hM hE);have gi:R.length<=1000000:=om;clear hS hR ht h2 hO hM hE hu;have ge:(0:Int)<=(k:Int):=om;have gn:(k:Int)<(l.length:Int):=om;obtain ⟨a0,a1,a2,a3,a4⟩:=hG;obtain ⟨Y,D,H,C,Q⟩:=E;obtain ⟨ha,J,V,F,Z⟩:=x;simp only at a0 a1 a2 a3 a4;have q0:∀d:Aft wr,d.w.cell? (ad.add (k*5))=some (.string ha):=Aft.cell a0;have b0:∀d:Aft wr,d.w.cell? ⟨w.heap.size,0,none⟩=some (.string Y):=λd=>(hx.trans d.ext).boxed 0 _ rfl;cases hid:(ha.toList==Y.toList) with
   |true=>
    have hp:ha=Y:=toList_inj (by simpa using hid);rw[ZqN (show ordE.id ⟨ha,J,V,F,Z⟩=ordE.id ⟨Y,D,H,C,Q⟩ from hp)] at hi;have hV:=gd hi;clear hi hp;obtain ⟨r,hr⟩:∃r,laterE ⟨ha,J,V,F,Z⟩ ⟨Y,D,H,C,Q⟩=r:=⟨_,rfl⟩;have HR:=gd hr;rw[hr] at hj;clear hr;unfold eCells at hj;dsimp only at hj;go_wp2;refine rA ?_
    repeat (first|go_big_quiet_step (fail)|quiet_step (fail))
    refine Zru ?_;rintro _ ⟨d1,rfl⟩;have I:=hx.trans d1.ext;have U:=hh.ext d1.ext;have c0:∀d:Aft d1.w,d.w.cell? (ad.add (k*5))=some (.string ha):=λd=>(d1.ext.trans d.ext).cell a0;have c1:∀d:Aft d1.w,d.w.cell? ⟨(ad.add (k*5)).block,(ad.add (k*5)).off+1,none⟩=some (.string J):=λd=>(d1.ext.trans d.ext).cell a1;have c2:∀d:Aft d1.w,d.w.cell? ⟨(ad.add (k*5)).block,(ad.add (k*5)).off+2,none⟩=some (.string V):=λd=>(d1.ext.trans d.ext).cell a2;have c3:∀d:Aft d1.w,d.w.cell? ⟨(ad.add (k*5)).block,(ad.add (k*5)).off+3,none⟩=some (.string F):=λd=>(d1.ext.trans d.ext).cell a3;have c4:∀d:Aft d1.w,d.w.cell? ⟨(ad.add (k*5)).block,(ad.add (k*5)).off+4,none⟩=some (nI Z):=λd=>(d1.ext.trans d.ext).cell a4;have e0:∀d:Aft d1.w,d.w.cell? ⟨w.heap.size,0,none⟩=some (.string Y):=λd=>(I.trans d.ext).boxed 0 _ rfl;have e1:∀d:Aft d1.w,d.w.cell? ⟨w.heap.size,1,none⟩=some (.string D):=λd=>(I.trans d.ext).boxed 1 _ rfl;have e2:∀d:Aft d1.w,d.w.cell? ⟨w.heap.size,2,none⟩=some (.string H):=λd=>(I.trans d.ext).boxed 2 _ rfl;have e3:∀d:Aft d1.w,d.w.cell? ⟨w.heap.size,3,none⟩=some (.string C):=λd=>(I.trans d.ext).boxed 3 _ rfl;have e4:∀d:Aft d1.w,d.w.cell? ⟨w.heap.size,4,none⟩=some (nI Q):=λd=>(I.trans d.ext).boxed 4 _ rfl;have ga:∀d:Aft d1.w,d.w.heap[w.heap.size]? =some (.cells (eCells ⟨Y,D,H,C,Q⟩).toArray 61):=λd=>(I.trans d.ext).heap (ZqJ w _);clear q0 b0 a0 a1 a2 a3 a4 hid;go_wp2;refine QH 6 (by kernel_rfl) (by kernel_rfl) ?_
    repeat (refine Xr (λK hK=> ?_);go_simp;first|(refine hK _ ?_;clear hK K)|(apply Zsb;refine ⟨λ_=> ?_,hK _ ?_⟩;(go_at_call 125;exact Qq (hj.out _));clear hK K))
    refine X0 ?_;intro d;have gj:=ga d;have gs:=I.trans d.ext;have gp:=U.ext d.ext;clear c0 c1 c2 c3 c4 e0 e1 e2 e3 e4 ga;refine ZqF rfl 61 (.tmp 3) (.tmp 29) rfl w.heap.size _ rfl rfl _ _ gj ZQ rfl (Vc (Zr r)) ?_;go_wp2;go_roundw
    case rel=>
     have hS:=HS.out;have hF:=hV.out;have hR:=HR.out;refine ⟨k+1,om,by go_num,?_,?_⟩
     ·rw[hS,hF];exact Yh gp om _
     ·rw[hS,hF];show Ext (w.alloc (.cells (eCells (laterE _ _)).toArray 61)) _;rw[hR];exact Zcf gs
    case measure=>simp[intOf];omega
   |false=>
    have hp:¬ha=Y:=(by intro e';rw[e'] at hid;simp at hid);rw[ZqH (show ¬ordE.id ⟨ha,J,V,F,Z⟩=ordE.id ⟨Y,D,H,C,Q⟩ from hp)] at hi;have hV:=gd hi;clear hi hp hj;go_wp2;refine rA ?_
    repeat (first|go_big_quiet_step (fail)|quiet_step (fail))
    refine Zru ?_;rintro _ ⟨d1,rfl⟩;have I:=hx.trans d1.ext;have U:=hh.ext d1.ext;have c0:=d1.ext.cell a0;have c1:=d1.ext.cell a1;have c2:=d1.ext.cell a2;have c3:=d1.ext.cell a3;have c4:=d1.ext.cell a4;clear q0 b0 a0 a1 a2 a3 a4 hid;unfold OEnts at U;have hJ:R.length+1<=maxLen:=(by unfold maxLen;omega);have hI:(R.length+1)*72<=140737488355328:=om;have gx:w.heap.size+1<=d1.w.heap.size:=(by have:=I.size;simpa using this);have hs:=gd hJ;have hq:=gd hI;clear hJ hI
    go_wp2_with (first|(at_builtin;refine Za _ rfl (.tmp 30) (.tmp 35) _ rfl (w.heap.size+1) 61 i0 _ 5 72 underlying30 hz hB hC hD rfl (by decide) _ _ _ rfl (U.alloc _) _ 1 (eCells ⟨ha,J,V,F,Z⟩) rfl (Zj rfl (by decide)) (Zr _) hs.out hq.out ?cb ?_;(case cb=>simp;omega);intro v2 w2 hb gl gu))
    have gq:Ext (w.alloc (.cells (eCells ⟨Y,D,H,C,Q⟩).toArray 61)) w2:=Ext.app (I.alloc _) gl (U.alloc _) (by simp);go_roundw
    case rel=>
     have hS:=HS.out;have hF:=hV.out;refine ⟨k+1,om,by go_num,?_,?_⟩
     ·rw[hS,hF];exact OEnts.snoc hb
     ·rw[hS,hF];exact gq
    case measure=>simp[intOf];omega
  ·have hZ:k=l.length:=om;subst hZ;rw[Zq4 (ZqE _)] at hh hx;have hu:=hU.out l.length;rw[Zq4 (ZqE _)] at hu;obtain ⟨R,hR⟩:∃R,(ordE.scan l e).1=R:=⟨_,rfl⟩;obtain ⟨E,ht⟩:∃E,(ordE.scan l e).2=E:=⟨_,rfl⟩;have hT:ordE.put l e=ordE.ins R E:=(by unfold Ord.put;rw[hR,ht]);rw[hR] at hh hu;rw[ht] at hx;have HP:=gd hT;have gi:R.length<=1000000:=om;clear hT hR ht hu h8 hU HL hm hk hn h;obtain ⟨A2,c2,rfl,_,_⟩:=hh.reads.form;have hL:=hh.reads;obtain ⟨wo,hP⟩:∃wo:Wq,wo=wr:=⟨_,rfl⟩;have hA:Ext (w.alloc (.cells (eCells E).toArray 61)) wo:=(by rw[hP];exact hx);have gh:REnts wo (.slice A2 R.length c2) R:=(by rw[hP];exact hL);have gt:Ext wo wr:=(by rw[hP];exact Ext.refl _);clear hP hx hh hL;obtain ⟨Y,D,H,C,Q⟩:=E;have b0:wo.cell? ⟨w.heap.size,0,none⟩=some (.string Y):=hA.boxed 0 _ rfl;have b1:wo.cell? ⟨w.heap.size,1,none⟩=some (.string D):=hA.boxed 1 _ rfl;have b2:wo.cell? ⟨w.heap.size,2,none⟩=some (.string H):=hA.boxed 2 _ rfl;have b3:wo.cell? ⟨w.heap.size,3,none⟩=some (.string C):=hA.boxed 3 _ rfl;have b4:wo.cell? ⟨w.heap.size,4,none⟩=some (nI Q):=hA.boxed 4 _ rfl;have B0:=gd b0;have B1:=gd b1;have B2:=gd b2;have B3:=gd b3;have B4:=gd b4;clear b0 b1 b2 b3 b4;go_wp2;go_loopw [7,8,9] (λo dn i w2=>∃(k:Nat) (done:Bool) (out:List Ent),k<=R.length/\i=nI k/\dn= .bool done/\OEnts w2 wo.heap.size o out/\Ext wo w2/\out.length<=k+1/\
    Hid ((done=false->out=R.take k/\∀x∈R.take k,ordE.lt ⟨Y,D,H,C,Q⟩ x=false)/\(done=true->out++R.drop k=ordE.ins R ⟨Y,D,H,C,Q⟩))) (λ_ _ i _=>R.length - (intOf i).toNat)
   case atStart=>exact ⟨0,false,[],ZqO _,rfl,rfl,OEnts.nil _ _,gt,by simp,⟨λ_=>⟨rfl,by simp⟩,λh=>by cases h⟩⟩
   case round=>
    obtain ⟨k,done,out,hk,rfl,rfl,hb,O,gf,hg⟩:=hrel;by_cases hm:k<R.length
    ·obtain ⟨ad,c',hv,hG⟩:=gh.at hm;injection hv with hv1 hv2 hv3;subst hv1;clear hv2 hv3;have h3:=ZqQ hm;have hX:=ZqR hm;have hY:=Znc ordE R ⟨Y,D,H,C,Q⟩ k hm;obtain ⟨x,hO⟩:∃x,R[k]=x:=⟨_,rfl⟩;rw[hO] at hG h3 hX hY;have h9:=gd h3;have h5:=gd hX;have gg:=gd hY;have hd:=gd (λw'=>Za0 ⟨Y,D,H,C,Q⟩ x w');have hQ:ordE.lt ⟨Y,D,H,C,Q⟩ x=decide (entCmp ⟨Y,D,H,C,Q⟩ x<0):=rfl;have hj:=gd hQ;clear h3 hX hY hQ hO;obtain ⟨cc,gb⟩:∃cc,entCmp ⟨Y,D,H,C,Q⟩ x=cc:=⟨_,rfl⟩;rw[gb] at hd hj;clear gb;have ge:(0:Int)<=(k:Int):=om;have gn:(k:Int)<(R.length:Int):=om;obtain ⟨a0,a1,a2,a3,a4⟩:=hG;have b0:=B0.out;have b1:=B1.out;have b2:=B2.out;have b3:=B3.out;have b4:=B4.out;obtain ⟨ha,J,V,F,Z⟩:=x;simp only at a0 a1 a2 a3 a4;unfold eCells at hd;dsimp only at hd;have hq:Hid ((out.length+1)*72<=140737488355328):=gd om;have h4:Hid ((out.length+1+1)*72<=140737488355328):=gd om;have h6:Hid (out.length+1+1<=maxLen):=gd (by unfold maxLen;omega);have hs:Hid (out.length+1<=maxLen):=gd (by unfold maxLen;omega);have h7:=gd gf;clear gf;cases done with
     |true=>
      have X:=hg.out.2 rfl;have HI:=gd X;clear hg X;have f0:∀d:Aft wr,d.w.cell? (ad.add (k*5))=some (.string ha):=λd=>(O.trans d.ext).cell a0;have f1:∀d:Aft wr,d.w.cell? ⟨(ad.add (k*5)).block,(ad.add (k*5)).off+1,none⟩=some (.string J):=λd=>(O.trans d.ext).cell a1;have f2:∀d:Aft wr,d.w.cell? ⟨(ad.add (k*5)).block,(ad.add (k*5)).off+2,none⟩=some (.string V):=λd=>(O.trans d.ext).cell a2;have f3:∀d:Aft wr,d.w.cell? ⟨(ad.add (k*5)).block,(ad.add (k*5)).off+3,none⟩=some (.string F):=λd=>(O.trans d.ext).cell a3;have f4:∀d:Aft wr,d.w.cell? ⟨(ad.add (k*5)).block,(ad.add (k*5)).off+4,none⟩=some (nI Z):=λd=>(O.trans d.ext).cell a4;have g0:∀d:Aft wr,d.w.cell? ⟨w.heap.size,0,none⟩=some (.string Y):=λd=>(O.trans d.ext).cell b0;have g1:∀d:Aft wr,d.w.cell? ⟨w.heap.size,1,none⟩=some (.string D):=λd=>(O.trans d.ext).cell b1;have g2:∀d:Aft wr,d.w.cell? ⟨w.heap.size,2,none⟩=some (.string H):=λd=>(O.trans d.ext).cell b2;have g3:∀d:Aft wr,d.w.cell? ⟨w.heap.size,3,none⟩=some (.string C):=λd=>(O.trans d.ext).cell b3;have g4:∀d:Aft wr,d.w.cell? ⟨w.heap.size,4,none⟩=some (nI Q):=λd=>(O.trans d.ext).cell b4;go_wp2;refine rA ?_
      repeat (first|go_big_quiet_step ((first|(go_at_call 51;with_reducible exact Zi (hd.out _))))|quiet_step ((first|(go_at_call 51;with_reducible exact Zi (hd.out _)))))
      refine Zru ?_;rintro _ ⟨d1,rfl⟩;have I:=O.trans d1.ext;have U:=hb.ext d1.ext;clear f0 f1 f2 f3 f4 g0 g1 g2 g3 g4;have p0:=I.cell a0;have p1:=I.cell a1;have p2:=I.cell a2;have p3:=I.cell a3;have p4:=I.cell a4;have r0:=I.cell b0;have r1:=I.cell b1;have r2:=I.cell b2;have r3:=I.cell b3;have r4:=I.cell b4;unfold OEnts at U
      go_wp2_with (first|(at_builtin;refine Za _ rfl (.tmp 58) (.tmp 63) _ rfl wo.heap.size 61 i0 _ 5 72 underlying30 hz hB hC hD rfl (by decide) _ _ _ rfl (U.alloc _) _ 1 (eCells ⟨ha,J,V,F,Z⟩) rfl (Zj rfl (by decide)) (Zr _) hs.out hq.out ?_ ?_;(have:=I.size;simp;omega);intro v3 w3 hc hw hH))
      have hf:Ext wo w3:=Ext.app (I.alloc _) hw (U.alloc _) (ZqE _);go_roundw
      case rel=>exact ⟨k+1,true,out++ [⟨ha,J,V,F,Z⟩],om,by go_num,rfl,OEnts.snoc hc,hf,by have:=h7.out;simp;omega,⟨(λh=>by cases h),λ_=>by rw[ZqY,List.singleton_append,<-h5.out];exact HI.out⟩⟩
      case measure=>simp[intOf];omega
     |false=>
      have X:=hg.out.1 rfl;have HI:=gd X;clear hg X;by_cases gc:cc<0
      ·have hW:=Zrj gc;have f0:∀d:Aft wr,d.w.cell? (ad.add (k*5))=some (.string ha):=λd=>(O.trans d.ext).cell a0;have f1:∀d:Aft wr,d.w.cell? ⟨(ad.add (k*5)).block,(ad.add (k*5)).off+1,none⟩=some (.string J):=λd=>(O.trans d.ext).cell a1;have f2:∀d:Aft wr,d.w.cell? ⟨(ad.add (k*5)).block,(ad.add (k*5)).off+2,none⟩=some (.string V):=λd=>(O.trans d.ext).cell a2;have f3:∀d:Aft wr,d.w.cell? ⟨(ad.add (k*5)).block,(ad.add (k*5)).off+3,none⟩=some (.string F):=λd=>(O.trans d.ext).cell a3;have f4:∀d:Aft wr,d.w.cell? ⟨(ad.add (k*5)).block,(ad.add (k*5)).off+4,none⟩=some (nI Z):=λd=>(O.trans d.ext).cell a4;have g0:∀d:Aft wr,d.w.cell? ⟨w.heap.size,0,none⟩=some (.string Y):=λd=>(O.trans d.ext).cell b0;have g1:∀d:Aft wr,d.w.cell? ⟨w.heap.size,1,none⟩=some (.string D):=λd=>(O.trans d.ext).cell b1;have g2:∀d:Aft wr,d.w.cell? ⟨w.heap.size,2,none⟩=some (.string H):=λd=>(O.trans d.ext).cell b2;have g3:∀d:Aft wr,d.w.cell? ⟨w.heap.size,3,none⟩=some (.string C):=λd=>(O.trans d.ext).cell b3;have g4:∀d:Aft wr,d.w.cell? ⟨w.heap.size,4,none⟩=some (nI Q):=λd=>(O.trans d.ext).cell b4;go_wp2;refine rA ?_
       repeat (first|go_big_quiet_step ((first|(go_at_call 51;with_reducible exact Zi (hd.out _))))|quiet_step ((first|(go_at_call 51;with_reducible exact Zi (hd.out _)))))
       refine Zru ?_;rintro _ ⟨d1,rfl⟩;have I:=O.trans d1.ext;have U:=hb.ext d1.ext;clear f0 f1 f2 f3 f4 g0 g1 g2 g3 g4;have p0:=I.cell a0;have p1:=I.cell a1;have p2:=I.cell a2;have p3:=I.cell a3;have p4:=I.cell a4;have r0:=I.cell b0;have r1:=I.cell b1;have r2:=I.cell b2;have r3:=I.cell b3;have r4:=I.cell b4;unfold OEnts at U
       go_wp2_with (first|(at_builtin;refine Za _ rfl (.tmp 54) (.tmp 56) _ rfl wo.heap.size 61 i0 _ 5 72 underlying30 hz hB hC hD rfl (by decide) _ _ _ rfl (U.alloc _) _ 1 (eCells ⟨Y,D,H,C,Q⟩) rfl (Zj rfl (by decide)) (Zr _) hs.out hq.out ?_ ?_;(have:=I.size;simp;omega);intro v3 w3 hc hw hH;have hf:Ext wo w3:=Ext.app (I.alloc _) hw (U.alloc _) (ZqE _);have s0:=hf.cell a0;have s1:=hf.cell a1;have s2:=hf.cell a2;have s3:=hf.cell a3;have s4:=hf.cell a4)|(at_builtin;refine Za _ rfl (.tmp 58) (.tmp 63) _ rfl wo.heap.size 61 i0 _ 5 72 underlying30 hz hB hC hD rfl (by decide) _ _ _ rfl (hc.alloc _) _ 1 (eCells ⟨ha,J,V,F,Z⟩) rfl (Zj rfl (by decide)) (Zr _) h6.out h4.out ?_ ?_;(have:=hf.size;simp;omega);intro v4 w4 h0 gm gw;have gr:Ext wo w4:=Ext.app (hf.alloc _) gm (hc.alloc _) (ZqE _)))
       go_roundw
       case rel=>
        have e1:w4.ownsRow wo.heap.size 61 5 v4 ((out++([⟨Y,D,H,C,Q⟩]:List Ent)).length+1) (flatE (out++([⟨Y,D,H,C,Q⟩]:List Ent))++eCells ⟨ha,J,V,F,Z⟩):=(by rw[ZqG,Zd9,Zea];exact h0);refine ⟨k+1,true,(out++ [⟨Y,D,H,C,Q⟩])++ [⟨ha,J,V,F,Z⟩],om,by go_num,rfl,OEnts.snoc e1,gr,?_,⟨(λh=>by cases h),λ_=> ?_⟩⟩
        ·have h1:=HI.out.1;rw[h1];simp;omega
        ·have h1:=HI.out;rw[gg.out h1.2 (by rw[hj.out];exact hW),h5.out,h1.1];simp
       case measure=>simp[intOf];omega
      ·have hW:=Zre gc;have f0:∀d:Aft wr,d.w.cell? (ad.add (k*5))=some (.string ha):=λd=>(O.trans d.ext).cell a0;have f1:∀d:Aft wr,d.w.cell? ⟨(ad.add (k*5)).block,(ad.add (k*5)).off+1,none⟩=some (.string J):=λd=>(O.trans d.ext).cell a1;have f2:∀d:Aft wr,d.w.cell? ⟨(ad.add (k*5)).block,(ad.add (k*5)).off+2,none⟩=some (.string V):=λd=>(O.trans d.ext).cell a2;have f3:∀d:Aft wr,d.w.cell? ⟨(ad.add (k*5)).block,(ad.add (k*5)).off+3,none⟩=some (.string F):=λd=>(O.trans d.ext).cell a3;have f4:∀d:Aft wr,d.w.cell? ⟨(ad.add (k*5)).block,(ad.add (k*5)).off+4,none⟩=some (nI Z):=λd=>(O.trans d.ext).cell a4;have g0:∀d:Aft wr,d.w.cell? ⟨w.heap.size,0,none⟩=some (.string Y):=λd=>(O.trans d.ext).cell b0;have g1:∀d:Aft wr,d.w.cell? ⟨w.heap.size,1,none⟩=some (.string D):=λd=>(O.trans d.ext).cell b1;have g2:∀d:Aft wr,d.w.cell? ⟨w.heap.size,2,none⟩=some (.string H):=λd=>(O.trans d.ext).cell b2;have g3:∀d:Aft wr,d.w.cell? ⟨w.heap.size,3,none⟩=some (.string C):=λd=>(O.trans d.ext).cell b3;have g4:∀d:Aft wr,d.w.cell? ⟨w.heap.size,4,none⟩=some (nI Q):=λd=>(O.trans d.ext).cell b4;go_wp2;refine rA ?_
       repeat (first|go_big_quiet_step ((first|(go_at_call 51;with_reducible exact Zi (hd.out _))))|quiet_step ((first|(go_at_call 51;with_reducible exact Zi (hd.out _)))))
       refine Zru ?_;rintro _ ⟨d1,rfl⟩;have I:=O.trans d1.ext;have U:=hb.ext d1.ext;clear f0 f1 f2 f3 f4 g0 g1 g2 g3 g4;have p0:=I.cell a0;have p1:=I.cell a1;have p2:=I.cell a2;have p3:=I.cell a3;have p4:=I.cell a4;have r0:=I.cell b0;have r1:=I.cell b1;have r2:=I.cell b2;have r3:=I.cell b3;have r4:=I.cell b4;unfold OEnts at U
       go_wp2_with (first|(at_builtin;refine Za _ rfl (.tmp 58) (.tmp 63) _ rfl wo.heap.size 61 i0 _ 5 72 underlying30 hz hB hC hD rfl (by decide) _ _ _ rfl (U.alloc _) _ 1 (eCells ⟨ha,J,V,F,Z⟩) rfl (Zj rfl (by decide)) (Zr _) hs.out hq.out ?_ ?_;(have:=I.size;simp;omega);intro v3 w3 hc hw hH;have hf:Ext wo w3:=Ext.app (I.alloc _) hw (U.alloc _) (ZqE _)))
       go_roundw
       case rel=>
        refine ⟨k+1,false,out++ [⟨ha,J,V,F,Z⟩],om,by go_num,rfl,OEnts.snoc hc,hf,by have:=h7.out;simp;omega,⟨λ_=>⟨by rw[h9.out,HI.out.1],?_⟩,(λh=>by cases h)⟩⟩;intro y hy;rw[h9.out] at hy;rcases Zq0.1 hy with hy|hy
        ·exact HI.out.2 y hy
        ·simp only[Zq1,Zri,ZrD] at hy;rw[hy,hj.out];exact hW
       case measure=>simp[intOf];omega
    ·have hZ:k=R.length:=om;subst hZ;have hN:Ext w wo:=((Ext.refl w).alloc _).trans hA;have hws:=hN.size;cases done with
     |true=>have X:=hg.out.2 rfl;rw[Zq3 (ZqE _),Zrb] at X;have ho:ordE.put l e=out:=HP.out.trans X.symm;have HF:=gd ho;clear ho hg X;go_wp2;go_ret;exact ⟨_,rfl,by rw[HF.out];exact hb.mono hws,hN.trans O⟩
     |false=>
      have X:=hg.out.1 rfl;rw[Zq4 (ZqE _)] at X;have ho:ordE.put l e=out++ [⟨Y,D,H,C,Q⟩]:=(by rw[HP.out,Zgz ordE R _ X.2,X.1]);have HF:=gd ho;clear ho hg X;have r0:=O.cell B0.out;have r1:=O.cell B1.out;have r2:=O.cell B2.out;have r3:=O.cell B3.out;have r4:=O.cell B4.out;have hJ:out.length+1<=maxLen:=(by unfold maxLen;omega);have hI:(out.length+1)*72<=140737488355328:=om;have hs:=gd hJ;have hq:=gd hI;clear hJ hI;unfold OEnts at hb
      go_wp2_with (first|(at_builtin;refine Za _ rfl (.tmp 67) (.tmp 69) _ rfl wo.heap.size 61 i0 _ 5 72 underlying30 hz hB hC hD rfl (by decide) _ _ _ rfl (hb.alloc _) _ 1 (eCells ⟨Y,D,H,C,Q⟩) rfl (Zj rfl (by decide)) (Zr _) hs.out hq.out ?_ ?_;(have:=O.size;simp;omega);intro v3 w3 hc hw hH;have hf:Ext wo w3:=Ext.app (O.alloc _) hw (hb.alloc _) (ZqE _)))
      go_ret;exact ⟨_,rfl,by rw[HF.out];exact (OEnts.snoc hc).mono hws,hN.trans hf⟩
end
theorem Zfs (x:Nc) (sp nm:List UInt8) (w:Wq) (h:RAts w x.al x.attrs) (Q:isSl x.ks) (hn:x.attrs.length<=80000000000):
 Calls prog 120 #[.agg (cellsN x).toArray,.string (str sp),.string (str nm)] w λe w'=>e= .returned (lookAns (attrN x.attrs sp nm))/\Ext w w':=by
 obtain ⟨k,s,n,al,l,ks,kids,t,a⟩:=x;simp only[Nc.al,Nc.attrs,Nc.ks] at h Q hn;obtain ⟨A,c,rfl, -, -⟩:=h.form;obtain ⟨B,m,d,rfl⟩:=Q;simp only[cellsN,Nc.attrs];obtain ⟨R,U⟩:∃R,attrN l sp nm=R:=⟨_,rfl⟩;rw[U];have Y:Hid (attrN (l.drop 0) sp nm=R):=U;clear U;have J:=(Ext.refl w).alloc (.cells #[nI (k:Nat),.string (str s),.string (str n),.slice A l.length c,.slice B m d,.string (str t),nI (a:Nat)] 25);go_enter func120,ntmps120;go_wp2;go_loopw [8] (λv wr=>∃j:Nat,j<=l.length/\v=nI j/\Hid (attrN (l.drop j) sp nm=R)/\Ext (w.alloc (.cells #[nI (k:Nat),.string (str s),.string (str n),.slice A l.length c,.slice B m d,.string (str t),nI (a:Nat)] 25)) wr) (λv _=>l.length - (intOf v).toNat)
 case atStart=>exact ⟨0,ZqO _,rfl,Y,Ext.refl _⟩
 case round=>
  obtain ⟨j,hj,rfl,S,O⟩:=hrel;have b3:wr.cell? ⟨w.heap.size,3,none⟩=some (.slice A l.length c):=O.boxed 3 _ rfl;by_cases D:j<l.length
  ·obtain ⟨ad,c',hv,H⟩:=(RAts.ext h (J.trans O)).at D;injection hv with hv1 hv2 hv3;subst hv1;clear hv2 hv3;have ha:(0:Int)<=(j:Int):=om;have hb:(j:Int)<(l.length:Int):=om;have C:=S.out;cases hq:(l[j].space==sp && l[j].name==nm) with
   |true=>
    rw[ZdN D hq] at C;obtain ⟨x,F⟩:∃x,l[j]=x:=⟨_,rfl⟩;rw[F] at H hq C;obtain ⟨a0,Z,a2,a3⟩:=H;rw[ZqZ] at hq;have q1:((str x.space).toList==(str sp).toList)=true:=(by rw[Z8];exact hq.1);have q2:((str x.name).toList==(str nm).toList)=true:=(by rw[Z8];exact hq.2);subst C;clear S hq F;go_wp2
    go_ret2
    exact ⟨rfl,J.trans O⟩
   |false=>
    rw[ZbK D hq] at C;obtain ⟨x,F⟩:∃x,l[j]=x:=⟨_,rfl⟩;rw[F] at H hq;obtain ⟨a0,Z,a2,a3⟩:=H;have X:=gd C;clear S C F;cases q1:((str x.space).toList==(str sp).toList) with
    |false=>
     clear hq;go_wp2;go_roundw
     case rel=>exact ⟨j+1,D,by go_num,X,O⟩
     case measure=>simp[intOf];omega
    |true=>
     have q2:((str x.name).toList==(str nm).toList)=false:=(by rw[Z8] at q1|-;rw[q1,Zr2] at hq;exact hq);clear hq;go_wp2;go_roundw
     case rel=>exact ⟨j+1,D,by go_num,X,O⟩
     case measure=>simp[intOf];omega
  ·have V:j=l.length:=om;have I:=S.out;rw[ZdM om] at I;subst I;clear S;subst V;go_wp2
   go_ret2
   exact ⟨rfl,J.trans O⟩
theorem VP (x:Nc) (sp nm:List UInt8) (w:Wq) (h:RdN w x) (hn:x.kids.length<=80000000000):
 Calls prog 32 #[.agg (cellsN x).toArray,.string (str sp),.string (str nm)] w λe w'=>∃v,e= .returned v/\RNs w' v (x.kids.filter (isKid sp nm))/\Ext w w':=by
 obtain ⟨i0,hl,ho,hp,hq⟩:=ZrE Xn;obtain ⟨k,s,n,al,l,ks,kids,t,a⟩:=x;rw[RdN] at h;obtain ⟨ha,V,he⟩:=h;simp only[Nc.kids] at hn;obtain ⟨A,c,rfl, -, -⟩:=ha.form;obtain ⟨B,d,rfl, -, -⟩:=RNs.form V;simp only[cellsN,Nc.kids];have hf:RNs w (.slice B kids.length d) kids:=V;have Z:=gd ((ZD kids).1 he);clear V he;have hh:=(Ext.refl w).alloc (.cells #[nI (k:Nat),.string (str s),.string (str n),.slice A l.length c,.slice B kids.length d,.string (str t),nI (a:Nat)] 25);go_enter func32,ntmps32;go_wp2;go_loopw [7,8] (λu v wr=>∃j:Nat,j<=kids.length/\v=nI j/\wr.ownsRow (w.heap.size+1) 25 7 u ((kids.take j).filter (isKid sp nm)).length (flatN ((kids.take j).filter (isKid sp nm)))/\Ext (w.alloc (.cells #[nI (k:Nat),.string (str s),.string (str n),.slice A l.length c,.slice B kids.length d,.string (str t),nI (a:Nat)] 25)) wr) (λ_ v _=>kids.length - (intOf v).toNat)
 case atStart=>exact ⟨0,ZqO _,rfl,Zrt _ _ _ _,Ext.refl _⟩
 case round=>
  obtain ⟨j,hj,rfl,C,Q⟩:=hrel;have b4:wr.cell? ⟨w.heap.size,4,none⟩=some (.slice B kids.length d):=Q.boxed 4 _ rfl;by_cases D:j<kids.length
  ·obtain ⟨ad,c',hv,hc⟩:=(RNs.ext hf (hh.trans Q)).at D;injection hv with hv1 hv2 hv3;subst hv1;clear hv2 hv3;have ht:(0:Int)<=(j:Int):=om;have hu:(j:Int)<(kids.length:Int):=om;have J:=Zbb (f:=isKid sp nm) D;have O:=ZH (RdN.sl (Z.out kids[j] (Zq2 D)));have hg:=RdN.sl (Z.out kids[j] (Zq2 D));obtain ⟨F,hF⟩:∃F,(kids.take j).filter (isKid sp nm)=F:=⟨_,rfl⟩;have hb:F.length<=80000000000:=(by have:=(List.filter_sublist (p:=isKid sp nm) (l:=kids.take j)).length_le;rw[Zra] at this;rw[<-hF];omega);rw[hF] at J C;obtain ⟨x,hi⟩:∃x,kids[j]=x:=⟨_,rfl⟩;rw[hi] at hc J O hg;obtain ⟨xk,xs,xn,hy,xl,hz,Y,xt,xa⟩:=x;obtain ⟨⟨XA,xm,xc,R⟩,⟨XB,hr,xd,S⟩⟩:=hg;simp only[Nc.al,Nc.ks] at R S;subst R;subst S;obtain ⟨a0,a1,a2,a3,a4,a5,a6⟩:=hc;simp only[Nc.kind,Nc.space,Nc.name,Nc.al,Nc.ks,Nc.text,Nc.at_] at a0 a1 a2 a3 a4 a5 a6;have I:=gd J;obtain ⟨HM,HB⟩:=Va hb;have HM:=gd HM;have HB:=gd HB;obtain ⟨U,uc,rfl⟩:=Zp C;have hws:w.heap.size+1<=wr.heap.size:=(by have:=Q.size;rwa [Zd] at this);clear J hi hF hb;by_cases hd:xk=0
   ·subst hd;cases q1:((str xs).toList==(str sp).toList) with
    |true=>
     cases q2:((str xn).toList==(str nm).toList) with
     |true=>
      go_wp2_with (first|(at_builtin;refine Za _ rfl (.tmp 43) (.tmp 49) _ rfl (w.heap.size+1) 25 i0 _ 7 112 underlying23 hl ho hp hq rfl (by decide) _ _ _ rfl (C.alloc _) _ 1 (cellsN (.mk 0 xs xn (.slice XA xm xc) xl (.slice XB hr xd) Y xt xa)) rfl (Zj rfl (by decide)) O HM.out HB.out ?_ ?_;(rw[Zd];omega);intro v9 w9 X hk hs))
      go_roundw
      case rel=>refine ⟨j+1,D,by go_num,?_,Ext.app (Q.alloc _) hk (C.alloc _) (by rw[Zd];omega)⟩;have H:=I.out;rw[ZqN (by unfold isKid;simp only[Nc.kind,Nc.space,Nc.name];rw[Z8] at q1 q2;rw[q1,q2];rfl)] at H;rw[H,Xm,Yq,ZqG];exact X
      case measure=>simp[intOf];omega
     |false=>
      go_wp2;go_roundw
      case rel=>refine ⟨j+1,D,by go_num,?_,Q⟩;have H:=I.out;rw[ZqH (by unfold isKid;simp only[Nc.kind,Nc.space,Nc.name];rw[Z8] at q2;rw[q2];simp)] at H;rw[H,Zrb];exact C
      case measure=>simp[intOf];omega
    |false=>
     go_wp2;go_roundw
     case rel=>refine ⟨j+1,D,by go_num,?_,Q⟩;have H:=I.out;rw[ZqH (by unfold isKid;simp only[Nc.kind,Nc.space,Nc.name];rw[Z8] at q1;rw[q1];simp)] at H;rw[H,Zrb];exact C
     case measure=>simp[intOf];omega
   ·have hw:((xk:Int)==0)=false:=(by rw[ZqW];omega);go_wp2;go_roundw
    case rel=>refine ⟨j+1,D,by go_num,?_,Q⟩;have H:=I.out;rw[ZqH (by unfold isKid;simp only[Nc.kind,Nc.space,Nc.name];simp[hd])] at H;rw[H,Zrb];exact C
    case measure=>simp[intOf];omega
  ·have hm:j=kids.length:=om;subst hm;rw[Zq4 (ZqE _)] at C;go_wp2;go_ret;exact ⟨_,rfl,RSl.of_own C,hh.trans Q⟩
def v11:ByteArray:=⟨#[49,46,49]⟩
section
set_option linter.unusedSimpArgs false
theorem VE {N M:Nat} (H:N<=4000000) (x:Nc) (sp nm:List UInt8) (w:World) (h:NcOk w N M x):
 Calls prog 32 #[.agg (cellsN x).toArray,.string (str sp),.string (str nm)] w λe w'=>∃A c l,e= .returned (.slice A l.length c)/\KidsA w' N M sp nm x A c l/\Ext w w':=by
 have J:=h.kids_len;refine ZqD (VP x sp nm w h.rd om) ?_;rintro e w' ⟨v,rfl,C,D⟩;have I:=(List.filter_sublist (p:=isKid sp nm) (l:=x.kids)).length_le;obtain ⟨A,c,rfl, -, -⟩:=RNs.form C;exact ⟨A,c,_,rfl,⟨C,λy F=>(h.ext D).kid (ZrK.1 F).1,Qm sp nm x,om⟩,D⟩
theorem Zn4:str idL=⟨#[105,100]⟩:=rfl
theorem ZhQ:str titleL=⟨#[116,105,116,108,101]⟩:=rfl
theorem ZfI:str contentL=⟨#[99,111,110,116,101,110,116]⟩:=rfl
theorem ZfJ:str summaryL=⟨#[115,117,109,109,97,114,121]⟩:=rfl
end
section
section
variable {P:Program} {md:Region.Mode} {ops:Array Oper} {Q:Exit→Act→World→Prop} {S:World→Prop} {T:Array Bool→Act→World→Prop} {t:Nat}
theorem Zdj {m:Nat} (C:∀L a w,T L a w->wpAnyS P md ops Q S m L a w):∀(f k:Nat) (listed:Array Bool) (a:Act) (w:Wq),k=f+m->wpAnyC P md ops Q S T f listed a w->wpAnyS P md ops Q S k listed a w
 |0,k,listed,a,w,hk,h=>by rw[hk,ZrH];exact C _ _ _ h
 |f+1,k,listed,a,w,hk,h=>by
  rw[hk,show f+1+m=(f+m)+1 by omega]
  exact ⟨h.1,λi D=>ZsH (λa' w' A=>⟨A.1,Zdj C f (f+m) _ a' w' rfl A.2⟩) (h.2 i D)⟩
theorem Zh3 {m f k:Nat} {l:List Oper} {listed:Array Bool} {a:Act} {w:Wq} (F:k=f+m) (A:Array Bool) (R:Act->Act->Wq->Prop)
 (C:wpAnyC P md l.toArray Q S (λL a' w'=>L=A/\R a a' w') f listed a w) (D:∀a' w',R a a' w'->wpAnyS P md l.toArray Q S m A a' w'):wpAnyS P md l.toArray Q S k listed a w:=
 Zdj (λL a w h=>by obtain ⟨rfl,h⟩:=h;exact D a w h) f k listed a w F C
section
variable {l:List Oper} {f:Nat} {listed:Array Bool} {a:Act} {w:World} {i j k:Nat} {oi oj ok:Oper}
end
end
section
variable {P:Program} {md:Region.Mode} {Q:Exit→Act→World→Prop} {S:World→Prop} {t:Nat} {l:List Oper} {f:Nat} {listed:Array Bool} {a:Act} {w:World} {i j:Nat} {oi oj:Oper}
end
end
theorem Zhb (l:List UInt8) (a:Nat):numP l a 1=digP l a:=by
 unfold numP numP;cases digP l (a+0)<;>simp_all
end Go.Proofs.YtmfinhgobjbecaaGreatDoor
