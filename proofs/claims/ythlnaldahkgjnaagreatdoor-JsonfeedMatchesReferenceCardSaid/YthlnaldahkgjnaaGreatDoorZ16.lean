/- Parts of the proof: contracts and plain laws. -/
import Derived.Test.YthlnaldahkgjnaaGreatDoorZ15
namespace Go.Proofs.YthlnaldahkgjnaaGreatDoor
open Go Go.RowKit _root_.Go.Proofs.Tryz
set_option linter.unusedVariables false
set_option linter.unusedSimpArgs false
set_option maxRecDepth 100000
set_option maxHeartbeats 16000000
section
set_option linter.unusedSimpArgs false
attribute [local go_sem] calm1
theorem KX {s:List UInt8} {k:Nat} (h:k<s.length) (j:numeric s[k]=true):numAt s k=numAt s (k+1):=by
 unfold numAt;rw[Zx h,ZbC,j];simp only[Eq,Zr];omega
theorem Zcd {s:List UInt8} {k:Nat} (h:k<s.length) (j:numeric s[k]=false):numAt s k=k:=by
 unfold numAt;rw[Zx h,ZbC,j];rfl
theorem ZdD {s:List UInt8} {k:Nat} (h:s.length<=k):numAt s k=k:=by
 unfold numAt;rw[ZB h];rfl
theorem Zfm {s:List UInt8} {k:Nat} (h:k<=s.length):numAt s k<=s.length:=by
 unfold numAt;have:=(List.takeWhile_sublist numeric (l:=s.drop k)).length_le;rw[ZL] at this;omega
theorem Zgr {l:List UInt8} {L:Nat->Bool->Option (JO×Nat)} {i:Nat} {c:UInt8} (H:l[i]? =some c):valG l L i=
 if c.toNat=110 then (if hasAt l i [110,117,108,108] then some (.null i,i+4) else none)
 else if c.toNat=116 then (if hasAt l i [116,114,117,101] then some (.bool i true,i+4) else none)
 else if c.toNat=102 then (if hasAt l i [102,97,108,115,101] then some (.bool i false,i+5) else none)
 else if c.toNat=34 then (match strP l i with
  |some (t,to_)=>some (.str i (str t),to_)
  |none=>none)
 else if c.toNat=91 then L i false
 else if c.toNat=123 then L i true
 else if c.toNat=45\/(48<=c.toNat/\c.toNat<=57) then (match numV ((l.drop i).takeWhile numeric) with
  |some n=>some (.int i n,numAt l i)
  |none=>none)
 else none:=by
 have e:∀n:Nat,n<256->(c=UInt8.ofNat n↔c.toNat=n):=λn J=>XT J;have j:c=110↔c.toNat=110:=e 110 (by decide);have A:c=116↔c.toNat=116:=e 116 (by decide);have h:c=102↔c.toNat=102:=e 102 (by decide);have D:c=34↔c.toNat=34:=e 34 (by decide);have G:c=91↔c.toNat=91:=e 91 (by decide);have C:c=123↔c.toNat=123:=e 123 (by decide);have F:c=45↔c.toNat=45:=e 45 (by decide);have I:isDg c=true↔(48<=c.toNat/\c.toNat<=57):=by unfold isDg;rw[decide_eq_true_iff]
 unfold valG;rw[H];simp only[j,A,h,D,G,C,F,I]
 repeat' split
 all_goals first|rfl|simp_all
theorem Ip {B:Nat} {w':World} {o:Option (JO×Nat)} {e:Ending} (h:ValR B w' o e):∃(K n a x y:Int) (k:Bool) (s:ByteArray) (A C:Option Addr) (p c q d:Nat),e= .returned (.agg #[.int .i64 K,.bool k,.int .i64 n,.string s,.slice A p c,.slice C q d,.int .i64 a,.int .i64 x,.int .i64 y]):=by
 cases o with
 |none=>obtain ⟨a,x,j,rfl⟩:=h;exact ⟨_,_,_,_,_,_,_,_,_,_,_,_,_,rfl⟩
 |some p=>obtain ⟨A,a,c,C,q,d,n,rfl, -⟩:=h;exact ⟨_,_,_,_,_,_,_,_,_,_,_,_,_,rfl⟩
theorem ValR.keep {B:Nat} {w' w2:World} {o:Option (JO×Nat)} {e:Ending} (h:ValR B w' o e) (k:KF B w' w2):ValR B w2 o e:=by
 cases o with
 |none=>exact h
 |some p=>obtain ⟨A,a,c,C,q,d,n,j,D⟩:=h;exact ⟨A,a,c,C,q,d,n,j,D.keep k⟩
def ReadL (s:ByteArray) (D:Nat) (L:Nat->Bool->Option (JO×Nat)):Prop:=
 (100<D/\∀i b,L i b=none)\/(D<=100/\∀(i:Nat) (b:Bool) (w:World),i<s.size->s.data.toList[i]? =some (if b then 123 else 91)->
  Calls prog 110 #[.string s,.int .i64 (i:Nat),.int .i64 (D:Nat)] w λe w'=>ValR w.heap.size w' (L i b) e/\Ext w w')
theorem KN (s:ByteArray) (a D:Nat) (L:Nat->Bool->Option (JO×Nat)) (w:World) (ha:a<=s.size) (Q:ReadL s D L) (hs:s.size<=80000000000):
 Calls prog 64 #[.string s,.int .i64 (a:Nat),.int .i64 (D:Nat)] w λe w'=>ValR w.heap.size w' (valG s.data.toList L (spAt s.data.toList a)) e/\Ext w w':=by
 have J:=gd (λw'=>XC s a w' hs ha);have hP:spAt s.data.toList a<=s.size:=by have:=Up (s:=s.data.toList) (k:=a) (by rw[Zn];exact ha);rwa [Zn] at this
 obtain ⟨P,hJ⟩:∃P,spAt s.data.toList a=P:=⟨_,rfl⟩;rw[hJ] at J hP|-;have HW:=gd (λw'=>Ju s P w');have hS:∀w',Ext (w.alloc (.cells #[.int .i64 0,.bool false,.int .i64 0,.string ⟨#[]⟩,.slice none 0 0,.slice none 0 0,.int .i64 0,.int .i64 0,.int .i64 0] 109)) w'->w'.heap[w.heap.size]? =some (.cells #[.int .i64 0,.bool false,.int .i64 0,.string ⟨#[]⟩,.slice none 0 0,.slice none 0 0,.int .i64 0,.int .i64 0,.int .i64 0] 109 (0,0)):=λw' hx=>hx.heap (Zh w _);have H:=gd hS;obtain ⟨R,Y⟩:∃R,valG s.data.toList L P=R:=⟨_,rfl⟩;rw[Y];clear hS hJ;by_cases hk:P<s.size
 case neg=>
  have hn:R=none:=by rw[<-Y];unfold valG;rw[List.getElem?_eq_none (by rw[Zn];omega)]
  subst hn;have h1:(s.size:Int)<=(P:Int):=by omega
  clear Y Q hk;go_enter func64,ntmps64
  go_wp2_with (first|(refine Zg rfl 109 (.tmp 6) (.tmp 22) rfl w.heap.size _ rfl rfl _ _ (H.out _ A) Z0 rfl JF ?_)|(go_at_call 107;(have G:=HW.out);(with_reducible refine Za (G _) ?_);clear G;rintro e w5 ⟨⟨b,x,U,rfl⟩,A⟩)|(go_at_call 65;(with_reducible refine Za (J.out _) ?_);rintro e w4 ⟨rfl,F⟩;subst F))
  ((try simp only[Exit.inBlock,Exit.then]);refine Zm (Zz rfl _ _ _ _ _ _ _ rfl (Zk _ _ _ _ _ _ (H.out _ A)) underlying109 rfl Z0) rfl ?_);exact ⟨⟨b,x,U,rfl⟩,(((Ext.refl w).alloc _).trans A).setRow (Zd _) _⟩
 have hK:P<s.data.toList.length:=by rw[Zn];exact hk
 have I:s.data.toList[P]? =some s[P]:=Zc hK;have C:=Zgr (L:=L) I;rw[Y] at C;obtain ⟨x,hx⟩:∃x,s[P].toNat=x:=⟨_,rfl⟩;rw[hx] at C;have h5:(s[P].toNat:Int)=(x:Int):=by rw[hx]
 have i0:(0:Int)<=(P:Int):=by omega
 have i1:(P:Int)<(s.size:Int):=by omega
 have i2:¬(s.size:Int)<=(P:Int):=by omega
 by_cases hu:x=110
 ·subst hu;rw[Zi rfl] at C;have K:=gd (λw'=>Gu s ⟨#[110,117,108,108]⟩ P 0 false w' hs hP (by decide) (by decide));cases hh:hasAt s.data.toList P (⟨#[110,117,108,108]⟩:ByteArray).data.toList with
  |true=>
   rw[hh] at K;rw[Zi (show hasAt s.data.toList P [110,117,108,108]=true from hh)] at C;subst C;clear Y Q I hh;go_enter func64,ntmps64
   go_wp2_with (first|(refine Zg rfl 109 (.tmp 6) (.tmp 31) rfl w.heap.size _ rfl rfl _ _ (H.out _ A) Z0 rfl JF ?_)|(go_at_call 108;(have G:=K.out);(with_reducible refine Za (G _) ?_);clear G;rintro e w5 ⟨S,A⟩;(replace S:e= .returned (.agg #[.int .i64 0,.bool false,.int .i64 0,.string ⟨#[]⟩,.slice none 0 0,.slice none 0 0,.int .i64 (P:Nat),.int .i64 ((P+(⟨#[110,117,108,108]⟩:ByteArray).size:Nat):Int),.int .i64 0]):=S);subst S)|(go_at_call 65;(with_reducible refine Za (J.out _) ?_);rintro e w4 ⟨rfl,F⟩;subst F))
   ((try simp only[Exit.inBlock,Exit.then]);refine Zm (Zz rfl _ _ _ _ _ _ _ rfl (Zk _ _ _ _ _ _ (H.out _ A)) underlying109 rfl Z0) rfl ?_);exact ⟨⟨none,0,0,none,0,0,1,rfl,NJn.leaf (j:= .null P) ⟨rfl,rfl,rfl⟩⟩,(((Ext.refl w).alloc _).trans A).setRow (Zd _) _⟩
  |false=>
   rw[hh] at K;rw[Zf (show ¬hasAt s.data.toList P [110,117,108,108]=true by rw[show hasAt s.data.toList P [110,117,108,108]=false from hh];decide)] at C;subst C;clear Y Q I hh;go_enter func64,ntmps64
   go_wp2_with (first|(refine Zg rfl 109 (.tmp 6) (.tmp 31) rfl w.heap.size _ rfl rfl _ _ (H.out _ A) Z0 rfl JF ?_)|(go_at_call 108;(have G:=K.out);(with_reducible refine Za (G _) ?_);clear G;rintro e w5 ⟨⟨b,x,U,rfl⟩,A⟩)|(go_at_call 65;(with_reducible refine Za (J.out _) ?_);rintro e w4 ⟨rfl,F⟩;subst F))
   ((try simp only[Exit.inBlock,Exit.then]);refine Zm (Zz rfl _ _ _ _ _ _ _ rfl (Zk _ _ _ _ _ _ (H.out _ A)) underlying109 rfl Z0) rfl ?_);exact ⟨⟨b,x,U,rfl⟩,(((Ext.refl w).alloc _).trans A).setRow (Zd _) _⟩
 rw[Zf hu] at C;have hX:¬(x:Int)=110:=by omega
 by_cases hw:x=116
 ·subst hw;rw[Zi rfl] at C;have K:=gd (λw'=>Gu s ⟨#[116,114,117,101]⟩ P 1 true w' hs hP (by decide) (by decide));cases hh:hasAt s.data.toList P (⟨#[116,114,117,101]⟩:ByteArray).data.toList with
  |true=>
   rw[hh] at K;rw[Zi (show hasAt s.data.toList P [116,114,117,101]=true from hh)] at C;subst C;clear Y Q I hh;go_enter func64,ntmps64
   go_wp2_with (first|(refine Zg rfl 109 (.tmp 6) (.tmp 37) rfl w.heap.size _ rfl rfl _ _ (H.out _ A) Z0 rfl JF ?_)|(go_at_call 108;(have G:=K.out);(with_reducible refine Za (G _) ?_);clear G;rintro e w5 ⟨S,A⟩;(replace S:e= .returned (.agg #[.int .i64 1,.bool true,.int .i64 0,.string ⟨#[]⟩,.slice none 0 0,.slice none 0 0,.int .i64 (P:Nat),.int .i64 ((P+(⟨#[116,114,117,101]⟩:ByteArray).size:Nat):Int),.int .i64 0]):=S);subst S)|(go_at_call 65;(with_reducible refine Za (J.out _) ?_);rintro e w4 ⟨rfl,F⟩;subst F))
   ((try simp only[Exit.inBlock,Exit.then]);refine Zm (Zz rfl _ _ _ _ _ _ _ rfl (Zk _ _ _ _ _ _ (H.out _ A)) underlying109 rfl Z0) rfl ?_);exact ⟨⟨none,0,0,none,0,0,1,rfl,NJn.leaf (j:= .bool P true) ⟨rfl,rfl,rfl⟩⟩,(((Ext.refl w).alloc _).trans A).setRow (Zd _) _⟩
  |false=>
   rw[hh] at K;rw[Zf (show ¬hasAt s.data.toList P [116,114,117,101]=true by rw[show hasAt s.data.toList P [116,114,117,101]=false from hh];decide)] at C;subst C;clear Y Q I hh;go_enter func64,ntmps64
   go_wp2_with (first|(refine Zg rfl 109 (.tmp 6) (.tmp 37) rfl w.heap.size _ rfl rfl _ _ (H.out _ A) Z0 rfl JF ?_)|(go_at_call 108;(have G:=K.out);(with_reducible refine Za (G _) ?_);clear G;rintro e w5 ⟨⟨b,x,U,rfl⟩,A⟩)|(go_at_call 65;(with_reducible refine Za (J.out _) ?_);rintro e w4 ⟨rfl,F⟩;subst F))
   ((try simp only[Exit.inBlock,Exit.then]);refine Zm (Zz rfl _ _ _ _ _ _ _ rfl (Zk _ _ _ _ _ _ (H.out _ A)) underlying109 rfl Z0) rfl ?_);exact ⟨⟨b,x,U,rfl⟩,(((Ext.refl w).alloc _).trans A).setRow (Zd _) _⟩
 rw[Zf hw] at C;have hY:¬(x:Int)=116:=by omega
 by_cases ht:x=102
 ·subst ht;rw[Zi rfl] at C;have K:=gd (λw'=>Gu s ⟨#[102,97,108,115,101]⟩ P 1 false w' hs hP (by decide) (by decide));cases hh:hasAt s.data.toList P (⟨#[102,97,108,115,101]⟩:ByteArray).data.toList with
  |true=>
   rw[hh] at K;rw[Zi (show hasAt s.data.toList P [102,97,108,115,101]=true from hh)] at C;subst C;clear Y Q I hh;go_enter func64,ntmps64
   go_wp2_with (first|(refine Zg rfl 109 (.tmp 6) (.tmp 43) rfl w.heap.size _ rfl rfl _ _ (H.out _ A) Z0 rfl JF ?_)|(go_at_call 108;(have G:=K.out);(with_reducible refine Za (G _) ?_);clear G;rintro e w5 ⟨S,A⟩;(replace S:e= .returned (.agg #[.int .i64 1,.bool false,.int .i64 0,.string ⟨#[]⟩,.slice none 0 0,.slice none 0 0,.int .i64 (P:Nat),.int .i64 ((P+(⟨#[102,97,108,115,101]⟩:ByteArray).size:Nat):Int),.int .i64 0]):=S);subst S)|(go_at_call 65;(with_reducible refine Za (J.out _) ?_);rintro e w4 ⟨rfl,F⟩;subst F))
   ((try simp only[Exit.inBlock,Exit.then]);refine Zm (Zz rfl _ _ _ _ _ _ _ rfl (Zk _ _ _ _ _ _ (H.out _ A)) underlying109 rfl Z0) rfl ?_);exact ⟨⟨none,0,0,none,0,0,1,rfl,NJn.leaf (j:= .bool P false) ⟨rfl,rfl,rfl⟩⟩,(((Ext.refl w).alloc _).trans A).setRow (Zd _) _⟩
  |false=>
   rw[hh] at K;rw[Zf (show ¬hasAt s.data.toList P [102,97,108,115,101]=true by rw[show hasAt s.data.toList P [102,97,108,115,101]=false from hh];decide)] at C;subst C;clear Y Q I hh;go_enter func64,ntmps64
   go_wp2_with (first|(refine Zg rfl 109 (.tmp 6) (.tmp 43) rfl w.heap.size _ rfl rfl _ _ (H.out _ A) Z0 rfl JF ?_)|(go_at_call 108;(have G:=K.out);(with_reducible refine Za (G _) ?_);clear G;rintro e w5 ⟨⟨b,x,U,rfl⟩,A⟩)|(go_at_call 65;(with_reducible refine Za (J.out _) ?_);rintro e w4 ⟨rfl,F⟩;subst F))
   ((try simp only[Exit.inBlock,Exit.then]);refine Zm (Zz rfl _ _ _ _ _ _ _ rfl (Zk _ _ _ _ _ _ (H.out _ A)) underlying109 rfl Z0) rfl ?_);exact ⟨⟨b,x,U,rfl⟩,(((Ext.refl w).alloc _).trans A).setRow (Zd _) _⟩
 rw[Zf ht] at C;have hW:¬(x:Int)=102:=by omega
 by_cases hF:x=34
 ·subst hF;rw[Zi rfl] at C;have hi:s.data.toList[P]? =some 34:=by rw[I];exact Zo some ((XT (n:=34) (by decide)).2 hx)
  have hp:=gd (λw'=>GW s P w' hs hk hi);cases hst:strP s.data.toList P with
  |none=>
   rw[hst] at hp C;subst C;clear Y Q I hi hst;go_enter func64,ntmps64
   go_wp2_with (first|(refine Zg rfl 109 (.tmp 6) (.tmp 57) rfl w.heap.size _ rfl rfl _ _ (H.out _ A) Z0 rfl JF ?_)|(go_at_call 109;(have G:=hp.out);(with_reducible refine Za (G _) ?_);clear G;rintro e w5 ⟨⟨b,x,U,rfl⟩,A⟩;(have hV:((x:Int) !=0)=true:=by rw[Yj];omega))|(go_at_call 65;(with_reducible refine Za (J.out _) ?_);rintro e w4 ⟨rfl,F⟩;subst F))
   ((try simp only[Exit.inBlock,Exit.then]);refine Zm (Zz rfl _ _ _ _ _ _ _ rfl (Zk _ _ _ _ _ _ (H.out _ A)) underlying109 rfl Z0) rfl ?_);exact ⟨⟨b,x,U,rfl⟩,(((Ext.refl w).alloc _).trans A).setRow (Zd _) _⟩
  |some p=>
   obtain ⟨t,z⟩:=p;rw[hst] at hp C;subst C;clear Y Q I hi hst;go_enter func64,ntmps64
   go_wp2_with (first|(refine Zg rfl 109 (.tmp 6) (.tmp 62) rfl w.heap.size _ rfl rfl _ _ (H.out _ A) Z0 rfl JF ?_)|(go_at_call 109;(have G:=hp.out);(with_reducible refine Za (G _) ?_);clear G;rintro e w5 ⟨he,A⟩;(replace he:e= .returned (.tuple #[.string (str t),.int .i64 (z:Nat),.int .i64 0]):=he);subst he)|(go_at_call 65;(with_reducible refine Za (J.out _) ?_);rintro e w4 ⟨rfl,F⟩;subst F))
   ((try simp only[Exit.inBlock,Exit.then]);refine Zm (Zz rfl _ _ _ _ _ _ _ rfl (Zk _ _ _ _ _ _ (H.out _ A)) underlying109 rfl Z0) rfl ?_);exact ⟨⟨none,0,0,none,0,0,1,rfl,NJn.leaf (j:= .str P (str t)) ⟨rfl,rfl,rfl⟩⟩,(((Ext.refl w).alloc _).trans A).setRow (Zd _) _⟩
 rw[Zf hF] at C;have h7:¬(x:Int)=34:=by omega
 by_cases hG:x=91
 ·subst hG;rw[Zi rfl] at C;subst C;have hb:s.data.toList[P]? =some (if false then 123 else 91):=by rw[I];exact Zo some ((XT (n:=91) (by decide)).2 hx)
  rcases Q with ⟨hD,Q⟩|⟨hD,Q⟩
  ·rw[Q P false];have hC:(100:Int)<(D:Int):=(by omega);clear Y Q I hb hD;go_enter func64,ntmps64
   go_wp2_with (first|(go_at_call 65;(with_reducible refine Za (J.out _) ?_);rintro e w4 ⟨rfl,F⟩;subst F))
   first|(((try simp only[Exit.inBlock,Exit.then]);refine Zm (Zz rfl _ _ _ _ _ _ _ rfl (Zh _ _) underlying109 rfl Z0) rfl ?_);exact ⟨⟨P,9,by decide,rfl⟩,(Ext.refl w).alloc _⟩)
  ·have HL:=gd (λw'=>Q P false w' hk hb);have hC:¬(100:Int)<(D:Int):=(by omega);clear Y Q I hb hD;go_enter func64,ntmps64
   go_wp2_with (first|(refine Zg rfl 109 (.tmp 6) (.tmp 73) rfl w.heap.size _ rfl rfl _ _ (H.out _ A) Z0 rfl JF ?_)|(go_at_call 110;(have G:=HL.out);(with_reducible refine Za (G _) ?_);clear G;rintro e w5 ⟨hv,A⟩;(obtain ⟨K9,n9,a9,x9,y9,k9,s9,A9,C9,p9,c9,q9,d9,hE⟩:=Ip hv);(have hB:=gd hv);clear hv;subst hE)|(go_at_call 65;(with_reducible refine Za (J.out _) ?_);rintro e w4 ⟨rfl,F⟩;subst F))
   ((try simp only[Exit.inBlock,Exit.then]);refine Zm (Zz rfl _ _ _ _ _ _ _ rfl (Zk _ _ _ _ _ _ (H.out _ A)) underlying109 rfl Z0) rfl ?_);exact ⟨(hB.out.keep (KF.setRow _ _ _ (by rw[Zp];omega))).mono (by rw[Zp];omega),(((Ext.refl w).alloc _).trans A).setRow (Zd _) _⟩
 rw[Zf hG] at C;have h8:¬(x:Int)=91:=by omega
 by_cases hy:x=123
 ·subst hy;rw[Zi rfl] at C;subst C;have hb:s.data.toList[P]? =some (if true then 123 else 91):=by rw[I];exact Zo some ((XT (n:=123) (by decide)).2 hx)
  rcases Q with ⟨hD,Q⟩|⟨hD,Q⟩
  ·rw[Q P true];have hC:(100:Int)<(D:Int):=(by omega);clear Y Q I hb hD;go_enter func64,ntmps64
   go_wp2_with (first|(go_at_call 65;(with_reducible refine Za (J.out _) ?_);rintro e w4 ⟨rfl,F⟩;subst F))
   first|(((try simp only[Exit.inBlock,Exit.then]);refine Zm (Zz rfl _ _ _ _ _ _ _ rfl (Zh _ _) underlying109 rfl Z0) rfl ?_);exact ⟨⟨P,9,by decide,rfl⟩,(Ext.refl w).alloc _⟩)
  ·have HL:=gd (λw'=>Q P true w' hk hb);have hC:¬(100:Int)<(D:Int):=(by omega);clear Y Q I hb hD;go_enter func64,ntmps64
   go_wp2_with (first|(refine Zg rfl 109 (.tmp 6) (.tmp 73) rfl w.heap.size _ rfl rfl _ _ (H.out _ A) Z0 rfl JF ?_)|(go_at_call 110;(have G:=HL.out);(with_reducible refine Za (G _) ?_);clear G;rintro e w5 ⟨hv,A⟩;(obtain ⟨K9,n9,a9,x9,y9,k9,s9,A9,C9,p9,c9,q9,d9,hE⟩:=Ip hv);(have hB:=gd hv);clear hv;subst hE)|(go_at_call 65;(with_reducible refine Za (J.out _) ?_);rintro e w4 ⟨rfl,F⟩;subst F))
   ((try simp only[Exit.inBlock,Exit.then]);refine Zm (Zz rfl _ _ _ _ _ _ _ rfl (Zk _ _ _ _ _ _ (H.out _ A)) underlying109 rfl Z0) rfl ?_);exact ⟨(hB.out.keep (KF.setRow _ _ _ (by rw[Zp];omega))).mono (by rw[Zp];omega),(((Ext.refl w).alloc _).trans A).setRow (Zd _) _⟩
 rw[Zf hy] at C;have hZ:¬(x:Int)=123:=by omega
 by_cases V:x=45\/(48<=x/\x<=57)
 case neg=>
  rw[Zf V] at C;subst C;have h6:((x:Int) !=45)=true:=by rw[Yj];omega
  have hm:(x:Int)<48\/(¬(x:Int)<48/\57<(x:Int)):=by omega
  clear Y Q I V;rcases hm with w1|⟨w1,w2⟩
  all_goals go_enter func64,ntmps64
  all_goals go_wp2_with (first|(refine Zg rfl 109 (.tmp 6) (.tmp 92) rfl w.heap.size _ rfl rfl _ _ (H.out _ A) Z0 rfl JF ?_)|(go_at_call 107;(have G:=HW.out);(with_reducible refine Za (G _) ?_);clear G;rintro e w5 ⟨⟨b,x,U,rfl⟩,A⟩)|(go_at_call 65;(with_reducible refine Za (J.out _) ?_);rintro e w4 ⟨rfl,F⟩;subst F))
  all_goals ((try simp only[Exit.inBlock,Exit.then]);refine Zm (Zz rfl _ _ _ _ _ _ _ rfl (Zk _ _ _ _ _ _ (H.out _ A)) underlying109 rfl Z0) rfl ?_)
  all_goals exact ⟨⟨b,x,U,rfl⟩,(((Ext.refl w).alloc _).trans A).setRow (Zd _) _⟩
 rw[Zi V] at C;have hM:numeric s[P]=true:=by
  unfold numeric isDg;rcases V with h|h
  ·have e:s[P]=45:=(XT (n:=45) (by decide)).2 (by rw[hx];exact h);rw[e];rfl
  ·rw[Yg (by rw[hx];exact h)];rfl
 obtain ⟨N,hN⟩:∃N,numAt s.data.toList P=N:=⟨_,rfl⟩;have hI:N<=s.size:=by rw[<-hN];have:=Zfm (s:=s.data.toList) (k:=P) (by omega);rwa [Zn] at this
 have hH:P<N:=by rw[<-hN,KX hK hM];unfold numAt;omega
 have hU:=λwx=>Zd6 s P N (P:Nat) (N:Nat) rfl rfl (by omega) hI wx;obtain ⟨d,hd⟩:∃d,s.extract P N=d:=⟨_,rfl⟩;have hr:d.data.toList=(s.data.toList.drop P).takeWhile numeric:=by
  have h1:=XI s P (N - P);rw[show P+(N - P)=N by omega,hd] at h1;rw[h1];have h2:N - P=((s.data.toList.drop P).takeWhile numeric).length:=by rw[<-hN];unfold numAt;omega
  rw[h2];exact (List.prefix_iff_eq_take.1 (List.takeWhile_prefix _)).symm
 have hO:0<d.size:=by
  rw[<-Zn,hr];have h2:N - P=((s.data.toList.drop P).takeWhile numeric).length:=by rw[<-hN];unfold numAt;omega
  omega
 have hA:d.size<=80000000000:=by
  rw[<-Zn,hr];have h2:N - P=((s.data.toList.drop P).takeWhile numeric).length:=by rw[<-hN];unfold numAt;omega
  omega
 rw[hd] at hU;rw[<-hr,hN] at C;have Z:=gd (λw'=>ZaT d w' hA hO);have HN:=gd hN;have hm:(x:Int)=45\/(((x:Int) !=45)=true/\¬(x:Int)<48/\¬57<(x:Int)):=by
  rcases V with h|h
  ·exact Or.inl (by omega)
  ·exact Or.inr ⟨by rw[Yj];omega,by omega,by omega⟩
 have i3:¬s.size<=P:=by omega
 have hq:=gd C;have h0:=gd hH;clear Y Q I V hr hO hA hN hd hM C;rcases hm with w1|⟨w1,w2,w3⟩
 all_goals (
  go_enter func64,ntmps64
  go_wp2_with (first|(go_at_call 65;(with_reducible refine Za (J.out _) ?_);rintro e w4 ⟨rfl,F⟩;subst F))
  go_loopw [10] (λv wr=>∃j:Nat,P<=j/\j<=s.size/\v= .int .i64 (j:Nat)/\Hid (numAt s.data.toList j=N)/\Ext w wr/\Hid (wr.heap[w.heap.size]? =some (.cells #[.int .i64 0,.bool false,.int .i64 0,.string ⟨#[]⟩,.slice none 0 0,.slice none 0 0,.int .i64 0,.int .i64 0,.int .i64 0] 109 (0,0)))) (λv _=>s.size - (intOf v).toNat)
  case atStart=>exact ⟨P,Zd _,hP,rfl,HN.out,(Ext.refl w).alloc _,H.out _ (Ext.refl _)⟩
  case round=>
   obtain ⟨j,h3,h4,rfl,hf,ho,X⟩:=hrel
   by_cases hQ:j<s.size
   ·have hl:j<s.data.toList.length:=(by rw[Zn];exact hQ)
    have g0:(0:Int)<=(j:Int):=(by omega)
    have g1:(j:Int)<(s.size:Int):=(by omega)
    have hg:=gd (λw'=>Zab s[j] w')
    cases hnn:numeric s[j] with
    |true=>
     rw[hnn] at hg
     have hT:Hid (numAt s.data.toList (j+1)=N):=(KX hl hnn).symm.trans hf.out
     clear hnn hf
     go_wp2_with (first|(go_at_call 111;(with_reducible refine Za (hg.out _) ?_);rintro e w4 ⟨rfl,rfl⟩))
     go_roundw
     case rel=>exact ⟨j+1,by omega,hQ,by go_num,hT,ho,X⟩
     case measure=>simp[intOf];omega
    |false=>
     rw[hnn] at hg
     have hj:j=N:=(Zcd hl hnn).symm.trans hf.out
     clear hnn hf
     subst hj
     cases hnv:numV d.data.toList with
     |none=>
      rw[hnv] at Z
      have O:R=none:=(by rw[hq.out,hnv])
      subst O
      clear hnv
      go_wp2_with (first|(refine Zg rfl 109 (.tmp 6) (.tmp 117) rfl w.heap.size _ rfl rfl _ _ X.out Z0 rfl JF ?_)|(go_at_call 112;(have G:=Z.out);(with_reducible refine Za (G _) ?_);clear G;rintro e w5 ⟨⟨y,rfl⟩,rfl⟩)|(go_at_call 111;(have G:=hg.out);(with_reducible refine Za (G _) ?_);clear G;rintro e w4 ⟨rfl,rfl⟩))
      ((try simp only[Exit.inBlock,Exit.then]);refine Zm (Zz rfl _ _ _ _ _ _ _ rfl (Zk _ _ _ _ _ _ X.out) underlying109 rfl Z0) rfl ?_)
      exact ⟨⟨P,15,by decide,rfl⟩,ho.setRow (Zd _) _⟩
     |some n=>
      rw[hnv] at Z
      have O:=hq.out
      rw[hnv] at O
      subst O
      clear hnv
      go_wp2_with (first|(refine Zg rfl 109 (.tmp 6) (.tmp 122) rfl w.heap.size _ rfl rfl _ _ X.out Z0 rfl JF ?_)|(go_at_call 112;(have G:=Z.out);(with_reducible refine Za (G _) ?_);clear G;rintro e w5 ⟨hc,rfl⟩;(replace hc:e= .returned (.tuple #[.int .i64 n,.bool true]):=hc);subst hc)|(go_at_call 111;(have G:=hg.out);(with_reducible refine Za (G _) ?_);clear G;rintro e w4 ⟨rfl,rfl⟩))
      ((try simp only[Exit.inBlock,Exit.then]);refine Zm (Zz rfl _ _ _ _ _ _ _ rfl (Zk _ _ _ _ _ _ X.out) underlying109 rfl Z0) rfl ?_)
      exact ⟨⟨none,0,0,none,0,0,1,rfl,NJn.leaf (j:= .int P n) ⟨rfl,rfl,rfl⟩⟩,ho.setRow (Zd _) _⟩
   ·have g1:¬(j:Int)<(s.size:Int):=(by omega)
    have hj:j=N:=(ZdD (by rw[Zn];omega)).symm.trans hf.out
    clear hf
    subst hj
    cases hnv:numV d.data.toList with
    |none=>
     rw[hnv] at Z
     have O:R=none:=(by rw[hq.out,hnv])
     subst O
     clear hnv
     go_wp2_with (first|(refine Zg rfl 109 (.tmp 6) (.tmp 117) rfl w.heap.size _ rfl rfl _ _ X.out Z0 rfl JF ?_)|(go_at_call 112;(have G:=Z.out);(with_reducible refine Za (G _) ?_);clear G;rintro e w5 ⟨⟨y,rfl⟩,rfl⟩))
     ((try simp only[Exit.inBlock,Exit.then]);refine Zm (Zz rfl _ _ _ _ _ _ _ rfl (Zk _ _ _ _ _ _ X.out) underlying109 rfl Z0) rfl ?_)
     exact ⟨⟨P,15,by decide,rfl⟩,ho.setRow (Zd _) _⟩
    |some n=>
     rw[hnv] at Z
     have O:=hq.out
     rw[hnv] at O
     subst O
     clear hnv
     go_wp2_with (first|(refine Zg rfl 109 (.tmp 6) (.tmp 122) rfl w.heap.size _ rfl rfl _ _ X.out Z0 rfl JF ?_)|(go_at_call 112;(have G:=Z.out);(with_reducible refine Za (G _) ?_);clear G;rintro e w5 ⟨hc,rfl⟩;(replace hc:e= .returned (.tuple #[.int .i64 n,.bool true]):=hc);subst hc))
     ((try simp only[Exit.inBlock,Exit.then]);refine Zm (Zz rfl _ _ _ _ _ _ _ rfl (Zk _ _ _ _ _ _ X.out) underlying109 rfl Z0) rfl ?_)
     exact ⟨⟨none,0,0,none,0,0,1,rfl,NJn.leaf (j:= .int P n) ⟨rfl,rfl,rfl⟩⟩,ho.setRow (Zd _) _⟩)
end
section
set_option linter.unusedSimpArgs false
attribute [local go_sem] calm1
theorem Zfd (s:ByteArray) (C:s.size<=80000000000):∀(f D:Nat),f+D=101->∀(a:Nat) (w:World),a<=s.size->
 Calls prog 64 #[.string s,.int .i64 (a:Nat),.int .i64 (D:Nat)] w λe w'=>ValR w.heap.size w' (valP s.data.toList f a) e/\Ext w w':=by
 intro f
 induction f with
 |zero=>intro D J a w A;exact KN s a D _ w A (Or.inl ⟨by omega,λ_ _=>rfl⟩) C
 |succ f ih=>
  intro D J a w A;have G:ReadV s D (valP s.data.toList f):=⟨λa w A=>ih (D+1) (by omega) a w A,λa j to_ h=>by
   have F:=(Zaq s.data.toList f a j to_ h).2;rw[Zn] at F;exact F⟩
  refine KN s a D _ w A (Or.inr ⟨by omega,λi b w I H=> ?_⟩) C;cases b with
  |false=>exact Ze3 s i D _ w (by omega) I H G (by omega) C
  |true=>exact Ze6 s i D _ w (by omega) I H G (by omega) C
def ParR (B n:Nat) (w':World) (o:Option JO) (e:Ending):Prop:=match o with
 |some j=>∃A p c C q d m,e= .returned (.tuple #[.agg #[.int .i64 (kindJ j:Nat),.bool (bJ j),.int .i64 (nJ j),.string (sJ j),.slice A p c,.slice C q d,.int .i64 (atJ j:Nat)],.int .i64 (n:Nat),.int .i64 0])/\NJn m B w' j (wcells (kindJ j) (bJ j) (nJ j) (sJ j) (.slice A p c) (.slice C q d) (atJ j))
 |none=>∃a x:Nat,x≠0/\e= .returned (.tuple #[.agg #[.int .i64 0,.bool false,.int .i64 0,.string ⟨#[]⟩,.slice none 0 0,.slice none 0 0,.int .i64 0],.int .i64 (a:Nat),.int .i64 (x:Nat)])
theorem Zch {K n a:Int} {k:Bool} {s:ByteArray} {A B:Option Addr} {p c q d:Nat}:(#[Value.int .i64 K,.bool k,.int .i64 n,.string s,.slice A p c,.slice B q d,.int .i64 a]).all (λu=>u.oneCell')=true:=by simp[Value.oneCell']
theorem Zdr (s:ByteArray) (Z:Nat) (F:Bool) (w:World) (hs:s.size<=80000000000) (hb:hasAt s.data.toList 0 (⟨#[239,187,191]⟩:ByteArray).data.toList=F) (hA:Z=if F then 3 else 0):
 Calls prog 27 #[.string s] w λe w'=>ParR w.heap.size s.size w' (jsonP s.data.toList) e/\Ext w w':=by
 have HH:Hid (∀w',Calls prog 63 #[.string s,.int .i64 0,.string ⟨#[239,187,191]⟩] w' λe w2=>e= .returned (.bool F)/\w2=w'):=λw'=>by have:=Ji s ⟨#[239,187,191]⟩ 0 w' (by unfold maxLen;omega) (by unfold maxLen;omega) (by unfold maxLen;decide) (by decide);rw[hb] at this;exact this
 have X:Z<=s.size:=by
  cases F with
  |true=>have:=Jt (l:=s.data.toList) (t:= [239,187,191]) (i:=0) hb (by decide);rw[Zn] at this;simp only[Zr,ZF] at this;subst hA;exact this
  |false=>subst hA;exact Zt _
 have HV:Hid (∀w',Calls prog 64 #[.string s,.int .i64 (if F then 3 else 0),.int .i64 1] w' λe w2=>ValR w'.heap.size w2 (valP s.data.toList 100 Z) e/\Ext w' w2):=λw'=>by have:=Zfd s hs 100 1 rfl Z w' X;rw[hA] at this|-;cases F<;>exact this
 have V:jsonP s.data.toList=match valP s.data.toList 100 Z with
  |some (v,to_)=>if spAt s.data.toList to_<s.data.toList.length then none else some v
  |none=>none:=by
  unfold jsonP;rw[show hasAt s.data.toList 0 [239,187,191]=F from hb,hA];rfl
 obtain ⟨R,hR⟩:∃R,jsonP s.data.toList=R:=⟨_,rfl⟩;rw[hR] at V|-;have hg:∀w',Ext (w.alloc (.cells #[.int .i64 0,.bool false,.int .i64 0,.string ⟨#[]⟩,.slice none 0 0,.slice none 0 0,.int .i64 0] 25)) w'->w'.heap[w.heap.size]? =some (.cells #[.int .i64 0,.bool false,.int .i64 0,.string ⟨#[]⟩,.slice none 0 0,.slice none 0 0,.int .i64 0] 25 (0,0)):=λw' hx=>hx.heap (Zh w _);have ha:=gd hg;clear hg hb hR;cases hv:valP s.data.toList 100 Z with
 |none=>
  rw[hv] at HV V;subst V;clear hv hA X;cases F
  all_goals go_enter func27,ntmps27
  all_goals go_wp2_with (first|(go_at_call 63;(have D:=HH.out);(with_reducible refine Za (D _) ?_);clear D;rintro e w4 ⟨rfl,U⟩;subst U)|(go_at_call 64;(have D:=HV.out (w.alloc (.cells #[.int .i64 0,.bool false,.int .i64 0,.string ⟨#[]⟩,.slice none 0 0,.slice none 0 0,.int .i64 0] 25)));refine Za D ?_;clear D;rintro e J ⟨⟨b,x,hn,rfl⟩,G⟩;(have hp:((x:Int) !=0)=true:=by rw[Yj];omega)))
  all_goals (
   have K:(J.alloc (.cells #[.int .i64 0,.bool false,.int .i64 0,.string ⟨#[]⟩,.slice none 0 0,.slice none 0 0,.int .i64 0,.int .i64 (b:Nat),.int .i64 (x:Nat)] 109)).drew.heap[J.heap.size]? =some (.cells #[.int .i64 0,.bool false,.int .i64 0,.string ⟨#[]⟩,.slice none 0 0,.slice none 0 0,.int .i64 0,.int .i64 (b:Nat),.int .i64 (x:Nat)] 109 (0,0)):=Zh J _
   have hl:Ext (J.alloc (.cells #[.int .i64 0,.bool false,.int .i64 0,.string ⟨#[]⟩,.slice none 0 0,.slice none 0 0,.int .i64 0,.int .i64 (b:Nat),.int .i64 (x:Nat)] 109)) (J.alloc (.cells #[.int .i64 0,.bool false,.int .i64 0,.string ⟨#[]⟩,.slice none 0 0,.slice none 0 0,.int .i64 0,.int .i64 (b:Nat),.int .i64 (x:Nat)] 109)).drew:=(Ext.refl _).drew
   have hh:=ha.out _ ((G.alloc (.cells #[.int .i64 0,.bool false,.int .i64 0,.string ⟨#[]⟩,.slice none 0 0,.slice none 0 0,.int .i64 0,.int .i64 (b:Nat),.int .i64 (x:Nat)] 109)).trans hl)
   refine rN ?_
   change wpAny _ _ _ _ _ _ _ (World.drew _)
   refine Yi (λw'=>w'.heap[J.heap.size]? =some (.cells #[.int .i64 0,.bool false,.int .i64 0,.string ⟨#[]⟩,.slice none 0 0,.slice none 0 0,.int .i64 0,.int .i64 (b:Nat),.int .i64 (x:Nat)] 109 (0,0))) ?_
   refine tG 0 (.agg #[.int .i64 0,.bool false,.int .i64 0,.string ⟨#[]⟩,.slice none 0 0,.slice none 0 0,.int .i64 0]) K ?_
   refine tG 1 (.pointer (some ⟨J.heap.size,7,none⟩)) K ?_
   refine tS 2 (.int .i64 (b:Nat)) rfl (λw' hS=>by have hq:=Zb _ _ 7 _ _ _ hS;go_simp) K ?_
   refine tG 3 (.pointer (some ⟨J.heap.size,8,none⟩)) K ?_
   refine tS 4 (.int .i64 (x:Nat)) rfl (λw' hS=>by have hq:=Zb _ _ 8 _ _ _ hS;go_simp) K ?_
   go_simp
   refine Zv (i:=5) rfl (by kernel_rfl) (λK2 H=> ?_)
   refine Z4 rfl 25 (.tmp 2) (.tmp 15) rfl w.heap.size #[.int .i64 0,.bool false,.int .i64 0,.string ⟨#[]⟩,.slice none 0 0,.slice none 0 0,.int .i64 0] rfl rfl _ _ hh Xq rfl Zch ?_
   have hi:w.heap.size<J.heap.size:=(by have:=G.size;rw[Zp] at this;omega)
   have hc:=(ZD _ w.heap.size J.heap.size #[.int .i64 0,.bool false,.int .i64 0,.string ⟨#[]⟩,.slice none 0 0,.slice none 0 0,.int .i64 0] (Nat.ne_of_gt hi)).trans K
   refine H _ _ hc ?_
   clear H K2
   refine Zv (i:=6) rfl (by kernel_rfl) (λK2 H=> ?_)
   go_simp
   refine H _ _ hc ?_
   clear H K2
   refine Zv (i:=7) rfl (by kernel_rfl) (λK2 H=> ?_)
   go_simp
   refine H _ _ hc ?_
   clear H K2
   refine sE ?_
   go_wp2
   ((try simp only[Exit.inBlock,Exit.then]);refine Zm (Zw rfl _ _ _ _ _ _ _ rfl (Zk _ _ _ _ _ _ hh) underlying25 rfl Xq) rfl ?_)
   exact ⟨⟨b,x,hn,rfl⟩,((((Ext.refl w).alloc _).trans G).alloc _|>.trans hl).setRow (Zd _) _⟩)
 |some pr=>
  obtain ⟨j,z⟩:=pr;have ho:z<=s.size:=by have:=(Zaq s.data.toList 100 Z j z hv).2.2;rwa [Zn] at this
  rw[hv] at HV V;simp only[Zn] at V;have I:=λw'=>XC s z w' hs ho;obtain ⟨Q,hQ⟩:∃Q,spAt s.data.toList z=Q:=⟨_,rfl⟩;rw[hQ] at V I;have hf:=gd I;by_cases Y:Q<s.size
  ·rw[Zi Y] at V;subst V;have hk:(Q:Int)<(s.size:Int):=(by omega);clear hv hA X hQ I Y;cases F
   all_goals go_enter func27,ntmps27
   all_goals go_wp2_with (first|(refine Zg rfl 25 (.tmp 2) (.tmp 28) rfl w.heap.size _ rfl rfl _ _ O.out Xq rfl Zch ?_)|(go_at_call 63;(have D:=HH.out);(with_reducible refine Za (D _) ?_);clear D;rintro e w4 ⟨rfl,U⟩;subst U)|(go_at_call 64;(have D:=HV.out (w.alloc (.cells #[.int .i64 0,.bool false,.int .i64 0,.string ⟨#[]⟩,.slice none 0 0,.slice none 0 0,.int .i64 0] 25)));refine Za D ?_;clear D;rintro e J ⟨⟨A,p,c,C,q,d,m,rfl,S⟩,G⟩;(have he:=gd S);clear S;(have h:=Zh J (.cells #[.int .i64 (kindJ j:Nat),.bool (bJ j),.int .i64 (nJ j),.string (sJ j),.slice A p c,.slice C q d,.int .i64 (atJ j:Nat),.int .i64 (z:Nat),.int .i64 0] 109));(have hm:=gd h);(have O:=gd (ha.out _ (G.alloc (.cells #[.int .i64 (kindJ j:Nat),.bool (bJ j),.int .i64 (nJ j),.string (sJ j),.slice A p c,.slice C q d,.int .i64 (atJ j:Nat),.int .i64 (z:Nat),.int .i64 0] 109))));(have q0:=Zb _ _ 0 _ _ _ h);(have q1:=Zb _ _ 1 _ _ _ h);(have q2:=Zb _ _ 2 _ _ _ h);(have q3:=Zb _ _ 3 _ _ _ h);(have q4:=Zb _ _ 4 _ _ _ h);(have q5:=Zb _ _ 5 _ _ _ h);(have q6:=Zb _ _ 6 _ _ _ h);(have q7:=Zb _ _ 7 _ _ _ h);(have q8:=Zb _ _ 8 _ _ _ h);clear h)|(go_at_call 65;(have D:=hf.out);(with_reducible refine Za (D _) ?_);clear D;rintro e w6 ⟨rfl,hd⟩;subst hd))
   all_goals ((try simp only[Exit.inBlock,Exit.then]);refine Zm (Zw rfl _ _ _ _ _ _ _ rfl (Zk _ _ _ _ _ _ O.out) underlying25 rfl Xq) rfl ?_)
   all_goals exact ⟨⟨Q,17,by decide,rfl⟩,((((Ext.refl w).alloc _).trans G).alloc _).setRow (Zd _) _⟩
  ·rw[Zf Y] at V;subst V;have hk:¬(Q:Int)<(s.size:Int):=(by omega);clear hv hA X hQ I Y;cases F
   all_goals go_enter func27,ntmps27
   all_goals go_wp2_with (first|(refine Zg rfl 25 (.tmp 2) (.tmp 31) rfl w.heap.size _ rfl rfl _ _ O.out Xq rfl Zch ?_)|(go_at_call 63;(have D:=HH.out);(with_reducible refine Za (D _) ?_);clear D;rintro e w4 ⟨rfl,U⟩;subst U)|(go_at_call 64;(have D:=HV.out (w.alloc (.cells #[.int .i64 0,.bool false,.int .i64 0,.string ⟨#[]⟩,.slice none 0 0,.slice none 0 0,.int .i64 0] 25)));refine Za D ?_;clear D;rintro e J ⟨⟨A,p,c,C,q,d,m,rfl,S⟩,G⟩;(have he:=gd S);clear S;(have h:=Zh J (.cells #[.int .i64 (kindJ j:Nat),.bool (bJ j),.int .i64 (nJ j),.string (sJ j),.slice A p c,.slice C q d,.int .i64 (atJ j:Nat),.int .i64 (z:Nat),.int .i64 0] 109));(have hm:=gd h);(have O:=gd (ha.out _ (G.alloc (.cells #[.int .i64 (kindJ j:Nat),.bool (bJ j),.int .i64 (nJ j),.string (sJ j),.slice A p c,.slice C q d,.int .i64 (atJ j:Nat),.int .i64 (z:Nat),.int .i64 0] 109))));(have q0:=Zb _ _ 0 _ _ _ h);(have q1:=Zb _ _ 1 _ _ _ h);(have q2:=Zb _ _ 2 _ _ _ h);(have q3:=Zb _ _ 3 _ _ _ h);(have q4:=Zb _ _ 4 _ _ _ h);(have q5:=Zb _ _ 5 _ _ _ h);(have q6:=Zb _ _ 6 _ _ _ h);(have q7:=Zb _ _ 7 _ _ _ h);(have q8:=Zb _ _ 8 _ _ _ h);clear h)|(go_at_call 65;(have D:=hf.out);(with_reducible refine Za (D _) ?_);clear D;rintro e w6 ⟨rfl,hd⟩;subst hd))
   all_goals ((try simp only[Exit.inBlock,Exit.then]);refine Zm (Zw rfl _ _ _ _ _ _ _ rfl (Zk _ _ _ _ _ _ O.out) underlying25 rfl Xq) rfl ?_)
   all_goals exact ⟨⟨A,p,c,C,q,d,m,rfl,((he.out.keep (KF.of ((Ext.refl _).alloc _))).keep (KF.setRow _ _ _ (by rw[Zp];omega))).mono (by rw[Zp];omega)⟩,((((Ext.refl w).alloc _).trans G).alloc _).setRow (Zd _) _⟩
theorem ZbW (s:ByteArray) (w:World) (h:s.size<=80000000000):
 Calls prog 27 #[.string s] w λe w'=>ParR w.heap.size s.size w' (jsonP s.data.toList) e/\Ext w w':=
 Zdr s _ _ w h rfl rfl
end
section
set_option linter.unusedSimpArgs false
def docJ (s:ByteArray):Option JO:=if 5000<s.size then none else jsonP s.data.toList
def PrsR (B:Nat) (w':World) (o:Option JO) (e:Ending):Prop:=match o with
 |some j=>∃A p c C q d m,e= .returned (.tuple #[.agg #[.int .i64 (kindJ j:Nat),.bool (bJ j),.int .i64 (nJ j),.string (sJ j),.slice A p c,.slice C q d,.int .i64 (atJ j:Nat)],.int .i64 1])/\NJn m B w' j (wcells (kindJ j) (bJ j) (nJ j) (sJ j) (.slice A p c) (.slice C q d) (atJ j))
 |none=>e= .returned (.tuple #[.agg #[.int .i64 0,.bool false,.int .i64 0,.string ⟨#[]⟩,.slice none 0 0,.slice none 0 0,.int .i64 0],.int .i64 0])
theorem Qv (s:ByteArray) (w:World) (U:s.size<=reachBytes):
 Calls prog 10 #[.string s] w λe w'=>PrsR (w.heap.size+1) w' (docJ s) e/\Ext w w':=by
 have F:(w.alloc (.cells #[.int .i64 0,.bool false,.int .i64 0,.string ⟨#[]⟩,.slice none 0 0,.slice none 0 0,.int .i64 0] 25)).heap[w.heap.size]? =some (.cells #[.int .i64 0,.bool false,.int .i64 0,.string ⟨#[]⟩,.slice none 0 0,.slice none 0 0,.int .i64 0] 25 (0,0)):=Zh w _;by_cases O:5000<s.size
 ·have G:docJ s=none:=Zi O;rw[G];have Q:(5000:Int)<(s.size:Int):=by omega
  clear G;go_enter func10,ntmps10
  go_wp2_with (refine Zg rfl 25 (.tmp 2) (.tmp 10) rfl w.heap.size #[.int .i64 0,.bool false,.int .i64 0,.string ⟨#[]⟩,.slice none 0 0,.slice none 0 0,.int .i64 0] rfl rfl _ _ F Xq rfl Zch ?_)
  ((try simp only[Exit.inBlock,Exit.then]);refine Zm (ZW rfl _ _ _ _ _ _ _ rfl (Zk _ _ _ _ _ _ F) underlying25 rfl Xq) rfl ?_);exact ⟨rfl,((Ext.refl w).alloc _).setRow (Zd _) _⟩
 ·have G:docJ s=jsonP s.data.toList:=Zf O;rw[G];have Q:¬(5000:Int)<(s.size:Int):=by omega
  have J:=gd (ZbW s (w.alloc (.cells #[.int .i64 0,.bool false,.int .i64 0,.string ⟨#[]⟩,.slice none 0 0,.slice none 0 0,.int .i64 0] 25)) (by omega));clear G O;cases hj:jsonP s.data.toList with
  |none=>
   rw[hj] at J;clear hj;go_enter func10,ntmps10
   go_wp2_with (first|(go_at_call 27;(have I:=J.out);(refine Za I ?_);clear I;rintro e w1 ⟨⟨a,x,R,rfl⟩,D⟩;(have S:((x:Int) !=0)=true:=by rw[Yj];omega);(have h:=(D.alloc (.cells #[.int .i64 0,.bool false,.int .i64 0,.string ⟨#[]⟩,.slice none 0 0,.slice none 0 0,.int .i64 0] 25)).heap F))|(refine Zg rfl 25 (.tmp 2) (.tmp 19) rfl w.heap.size #[.int .i64 0,.bool false,.int .i64 0,.string ⟨#[]⟩,.slice none 0 0,.slice none 0 0,.int .i64 0] rfl rfl _ _ h Xq rfl Zch ?_))
   ((try simp only[Exit.inBlock,Exit.then]);refine Zm (ZW rfl _ _ _ _ _ _ _ rfl (Zk _ _ _ _ _ _ h) underlying25 rfl Xq) rfl ?_);exact ⟨rfl,((((Ext.refl w).alloc _).trans D).alloc _).setRow (Zd _) _⟩
  |some j=>
   rw[hj] at J;clear hj;go_enter func10,ntmps10
   go_wp2_with (first|(go_at_call 27;(have I:=J.out);(refine Za I ?_);clear I;rintro e w1 ⟨⟨A,p,c,C,q,d,m,rfl,H⟩,D⟩;(have K:=gd H);clear H;(have h:=(D.alloc (.cells #[.int .i64 (kindJ j:Nat),.bool (bJ j),.int .i64 (nJ j),.string (sJ j),.slice A p c,.slice C q d,.int .i64 (atJ j:Nat)] 25)).heap F))|(refine Zg rfl 25 (.tmp 2) (.tmp 20) rfl w.heap.size #[.int .i64 (kindJ j:Nat),.bool (bJ j),.int .i64 (nJ j),.string (sJ j),.slice A p c,.slice C q d,.int .i64 (atJ j:Nat)] rfl rfl _ _ h Xq rfl Zch ?_))
   ((try simp only[Exit.inBlock,Exit.then]);refine Zm (ZW rfl _ _ _ _ #[.int .i64 (kindJ j:Nat),.bool (bJ j),.int .i64 (nJ j),.string (sJ j),.slice A p c,.slice C q d,.int .i64 (atJ j:Nat)] _ _ rfl (Zk _ _ _ _ _ _ h) underlying25 rfl Xq) rfl ?_);refine ⟨⟨A,p,c,C,q,d,m,rfl,(K.out.mono ?_).keep ((KF.of ((Ext.refl w1).alloc _)).trans (KF.setRow _ _ _ (YY _)))⟩,((((Ext.refl w).alloc _).trans D).alloc _).setRow (Zd _) _⟩;rw[Zp];exact Zd _
end
section
set_option linter.unusedSimpArgs false
attribute [local go_sem] calm1
theorem Yu {b:Nat} {cs:List Value} {o:Option (Nat×Nat)} {W:World} (h:RdAt b cs o W) (j:cs.length=7):W.cell? ⟨b,7,none⟩=some (.int .i64 (faultA o:Nat))/\W.cell? ⟨b,8,none⟩=some (.int .i64 (faultE o:Nat))/\∀i,W.frozen? ⟨b,i,none⟩=false:=by
 refine ⟨?_,?_,λi=>ZH h.1 i⟩
 ·rw[ZN h.1];simp[ZK,j]
 ·rw[ZN h.1];simp[ZK,j]
theorem Zag {b:Nat} {cs:List Value} {o f:Option (Nat×Nat)} {W:World} (h:RdAt b cs o W) (A:cs.length=7) (j:∀e,f=some e->e.2≠0):RdAt b cs f ((W.setCell ⟨b,7,none⟩ (.int .i64 (faultA f:Nat))).setCell ⟨b,8,none⟩ (.int .i64 (faultE f:Nat))):=by
 refine ⟨?_,j⟩;rw[ZR _ _ _ _ _ _ (ZR _ _ _ _ _ _ h.1)]
 congr 2
 simp[List.setIfInBounds_toArray,List.set_append_right,A]
theorem Zaf {b:Nat} {cs:List Value} {o:Option (Nat×Nat)} {W:World} (h:RdAt b cs o W) (A:cs.length=7) (v:Value):(W.setCell ⟨b,7,none⟩ v).cell? ⟨b,8,none⟩=some (.int .i64 (faultE o:Nat))/\(W.setCell ⟨b,7,none⟩ v).frozen? ⟨b,8,none⟩=false:=by
 have j:=ZR _ _ 7 _ _ v h.1;refine ⟨?_,ZH j 8⟩;rw[ZN j];simp[ZK,A,List.setIfInBounds_toArray,List.set_append_right]
theorem EB {w:World} {B size n g:Nat} {e T:TypeId} {v:Value} {xs:List Value} {cs:Array Value} {fr:Nat×Nat} (j:w.ownsRow B e size v n xs) (A:w.heap[g]? =some (.cells cs T fr)) (D:T≠e):v.ownBlock≠some g:=by
 rcases j.2 with ⟨rfl,_⟩|⟨q,cap,C,rfl,_,F,_⟩
 ·simp[Value.ownBlock]
 ·intro h;simp only[Value.ownBlock,ZQ] at h;subst h;rw[F] at A;simp only[ZQ,Obj.cells.injEq] at A;exact D A.2.1.symm
theorem XK {w:World} {B size n:Nat} {e T:TypeId} {v:Value} {xs:List Value} {cs:Array Value} {fr:Nat×Nat} {p:Addr} (h:w.ownsRow B e size v n xs) (A:w.heap[p.block]? =some (.cells cs T fr)) (j:T≠e) (u:Value):(w.setCell p u).ownsRow B e size v n xs:=
 h.kept (row:=some p.block) (Bar.setCell w p u) (Or.inr (EB h A j))
theorem J9 {w w':World} {B size n g:Nat} {e T:TypeId} {v:Value} {xs:List Value} {cs:Array Value} {fr:Nat×Nat} (j:w.ownsRow B e size v n xs) (D:w.grownBy w' v.ownBlock) (A:w.heap[g]? =some (.cells cs T fr)) (C:T≠e):w'.heap[g]? =some (.cells cs T fr):=
 (D.block g (Ze.1 A).1 (λh=>EB j A C h.symm)).trans A
theorem DF.fault {w W:World} {b fb rb:Nat} {cs:List Value} {o o':Option (Nat×Nat)} {F:Fc} (H:DF w b fb rb cs o F W) (h:o=o'):DF w b fb rb cs o' F W:=h▸H
theorem Er {j:JO} (h:kindJ j≠4):itemsJ j= []:=by cases j<;>first|rfl|exact absurd rfl h
end
section
set_option linter.unusedSimpArgs false
theorem Zf6 (N:Nat) (j:JO) (cs:List Value) (w:World) (h:RJ w j cs) (hg:jsz N j) (hN:N<=16777216) (hE:Env w) (hv:versJ j≠none) (hk:∀f,decJ j= .ok f->fokS f) (gq:(itsW j).length<=1000000) (hB:(collapse (firstJ j [nFeedUrl])).toList.isEmpty=true) (hI:(memJ j nItems).isSome=false):
 Calls prog 12 #[.agg cs.toArray] w λe w'=>DecR w' (decJ j) e/\Ext w w':=by
 obtain ⟨fW,hP⟩:=Option.ne_none_iff_exists'.1 hv;have hU:=gd (λw' (hx:Ext w w')=>Xm j cs w w' h hx);rw[hP] at hU;have g7:=gd (λ(b:Nat) (hb:w.heap.size<=b)=>(⟨h,hg,hN,hE,hb⟩:DC w N b j cs));have hl:=gd h;have gb:=gd (λf hf=>XN (f:=f) hv hf);have fk:=gd (λ(t:Int) (E:List Ent) h1 h2 h3 h4=>XV (t:=t) (E:=E) hv h1 h2 h3 h4);have fd:=gd hk;have g8:=gd hE;have HG:=gd hg;obtain ⟨i0,fP,fT,fU,fV⟩:=Yr XB;obtain ⟨A,p,c,B,q,d,hc⟩:=h.cells;obtain ⟨K,hK⟩:∃a,kindJ j=a:=⟨_,rfl⟩;obtain ⟨Bb,gn⟩:∃a,bJ j=a:=⟨_,rfl⟩;obtain ⟨Nn,gr⟩:∃a,nJ j=a:=⟨_,rfl⟩;obtain ⟨Ss,gs⟩:∃a,sJ j=a:=⟨_,rfl⟩;obtain ⟨At,gm⟩:∃a,atJ j=a:=⟨_,rfl⟩;rw[hK,gn,gr,gs,gm] at hc;unfold wcells at hc;have ga:=gd hc;rw[hc] at hU;obtain ⟨W1,hy⟩:∃W1,(w.alloc (.cells #[.int .i64 K,.bool Bb,.int .i64 Nn,.string Ss,.slice A p c,.slice B q d,.int .i64 At] 25)).alloc (.cells #[.slice none 0 0,.string ⟨#[]⟩,.string ⟨#[]⟩,.string ⟨#[]⟩,.int .i64 0,.slice none 0 0] 32)=W1:=⟨_,rfl⟩;have gS:Ext w W1:=by rw[<-hy];exact ((Ext.refl w).alloc _).alloc _
 have Q:W1.heap[w.heap.size]? =some (.cells #[.int .i64 K,.bool Bb,.int .i64 Nn,.string Ss,.slice A p c,.slice B q d,.int .i64 At] 25 (0,0)):=by rw[<-hy];exact ((Ext.refl _).alloc _).heap (Zh w _)
 have gF:W1.heap[w.heap.size+1]? =some (.cells (cellsC zeroC).toArray 32 (0,0)):=by rw[<-hy];exact YN w _ _
 have gR:W1.heap.size=w.heap.size+2:=by rw[<-hy,Zp,Zp]
 have c0:=Zb _ _ 0 _ _ _ Q;have c1:=Zb _ _ 1 _ _ _ Q;have c2:=Zb _ _ 2 _ _ _ Q;have c3:=Zb _ _ 3 _ _ _ Q;have c4:=Zb _ _ 4 _ _ _ Q;have c5:=Zb _ _ 5 _ _ _ Q;have c6:=Zb _ _ 6 _ _ _ Q;have hV:=gd gS;have fl:=gd gF;have hT:=gd gR;have fJ:Hid (idW j=if collapse (firstJ j [nFeedUrl])=noS then firstJ j [nHome] else firstJ j [nFeedUrl]):=rfl;have hC:∀n,(firstJ j [n]).size<=16777216:=λn=>by
  rw[Xk];cases Z:memJ j n with
  |none=>exact Zt _
  |some y=>exact Zl (Jk (YM hg Z)) hN
 have hM:(idW j).size<=16777216:=by unfold idW;split<;>exact hC _
 have fL:=gd hC;have fm:=gd hM;obtain ⟨R,hR⟩:∃R,decJ j=R:=⟨_,rfl⟩;rw[hR];have gh:=gd hR;obtain ⟨L,hL⟩:∃L,itsW j=L:=⟨_,rfl⟩;have gp:headWJ j=orF (orF (orF (chkJ j false [nFeedUrl,nHome,nTitle,nUpdated]) (reqF j (idW j))) (faultD (dateJ j [nUpdated]))) (itemK j):=rfl;have hG:=λw'=>Xc (firstJ j [nFeedUrl]) w' (by have:=hC nFeedUrl;omega);have hA:(collapse (firstJ j [nFeedUrl])).toList.isEmpty=true/\Hid ((cellsC (F0 j)).toArray.setIfInBounds 1 (.string (firstJ j [nHome]))=(cellsC (FE j 0 [] (.slice none 0 0))).toArray)\/
  (collapse (firstJ j [nFeedUrl])).toList.isEmpty=false/\Hid (F0 j=FE j 0 [] (.slice none 0 0)):=by
  by_cases hb:collapse (firstJ j [nFeedUrl])=noS
  ·refine Or.inl ⟨by rw[hb];exact Xo [],?_⟩
   show _=_
   unfold FE idW
   rw[Zi hb]
   rfl
  ·refine Or.inr ⟨XS hb,?_⟩
   show _=_
   unfold F0 FE idW
   rw[Zf hb]
 have hY:((memJ j nItems).isSome=false/\Hid (memJ j nItems=none/\itemK j=none/\L= []))\/∃x,(memJ j nItems).isSome=true/\Hid (memJ j nItems=some x/\L=itemsJ x)/\(((((kindJ x:Nat):Int) !=4)=false/\Hid (itemK j=none))\/((((kindJ x:Nat):Int) !=4)=true/\Hid (itemK j=some (atJ x,21)))):=by
  cases Z:memJ j nItems with
  |none=>exact Or.inl ⟨rfl,rfl,by unfold itemK;rw[Z],by rw[<-hL];unfold itsW;rw[Z]⟩
  |some x=>
   refine Or.inr ⟨x,rfl,⟨rfl,by rw[<-hL];unfold itsW;rw[Z]⟩,?_⟩;by_cases h4:kindJ x=4
   ·exact Or.inl ⟨by rw[h4];rfl,by show _=_;unfold itemK;rw[Z];exact Zf (by simpa using h4)⟩
   ·exact Or.inr ⟨by rw[Yj];omega,by show _=_;unfold itemK;rw[Z];exact Zi h4⟩
 have h8:=gd hG;have fh:Hid (L.length<=1000000):=by show _<=_;rw[<-hL];exact gq
 have HL:=gd hL;have fg:=gd gp;clear h hg hE hv hP hk hc gS Q gF gR hC hM hR hL gp hG gq hK gn gr gs gm;rw[ga.out];rcases hA with ⟨gx,ft⟩|⟨gx,fu⟩
 rotate_left
 ·rw[gx] at hB;cases hB
 rcases hY with ⟨hX,Z⟩|⟨x,hX,Z,⟨fv,hk⟩|⟨fv,hk⟩⟩
 rotate_left
 ·rw[hX] at hI;cases hI
 ·rw[hX] at hI;cases hI
 clear hB hI
 all_goals (
  go_enter func12,ntmps12
  go_wp2_with (first|(go_at_call 34;(refine Za (UL j cs w2.heap.size _ (atJ y) 21 w _ hl.out X.rd (by decide)) ?_);rintro e fZ ⟨rfl,gI,hF⟩;(have fB:=X.turn I hF gI);(have i4:=Zb _ _ 4 _ _ _ (hF.heap hn (by have:=fi.out;omega))))|(go_at_call 33;(refine Za (UN j cs w2.heap.size _ nItems w _ hl.out hi.ext hi.rd) ?_);rintro e h7 ⟨⟨y,cy,rfl,fz,gE⟩,gT⟩;(obtain ⟨A1,gj,B1,q2,d2,n1,css,gz,gy,gQ,gA⟩:=U9 fz);(unfold wcells at gz);subst gz;(have hD:=hi.next gT);(have hn:=Zh h7 (.cells #[.int .i64 (kindJ y:Nat),.bool (bJ y),.int .i64 (nJ y),.string (sJ y),.slice A1 (itemsJ y).length gj,.slice B1 q2 d2,.int .i64 (atJ y:Nat)] 25));(have X:=hD.next ((Ext.refl h7).alloc (.cells #[.int .i64 (kindJ y:Nat),.bool (bJ y),.int .i64 (nJ y),.string (sJ y),.slice A1 (itemsJ y).length gj,.slice B1 q2 d2,.int .i64 (atJ y:Nat)] 25)));(have fi:Hid (w2.heap.size<h7.heap.size):=(Ze.1 hD.rd.1).1);(have i0:=Zb _ _ 0 _ _ _ hn);(have i4:=Zb _ _ 4 _ _ _ hn);(have i6:=Zb _ _ 6 _ _ _ hn))|(go_at_call 32;(refine Za (Gj ha hd.ext hd.rd [nUpdated] (by decide) _ (by first|rfl|exact (Zp _ _).symm|(simp;done))) ?_);rintro e fY ⟨t,rfl,ht,gH,gu⟩;(have HT:=gd ht);clear ht;(have hh:=hd.turn I gu gH);(have g4:=(hh.cell 4 (v:= .int .i64 0) rfl).1);(have fN:=(hh.cell 4 rfl).2);(have hi:=hh.set I 4 (.int .i64 t) (F':=FE j t [] (.slice none 0 0)) rfl))|(go_at_call 31;(refine Za (XJ j cs w2.heap.size _ (idW j) w _ hl.out H.ext H.rd fm.out) ?_);rintro e fX ⟨rfl,gG,gt⟩;(have hd:=H.turn I gt gG))|(go_at_call 30;(refine Za (h8.out _) ?_);rintro e w9 ⟨rfl,fA⟩;(have hj:=gc.next fA);(have g1:=(hj.cell 1 (v:= .string (firstJ j [nFeedUrl])) rfl).1);(have fM:=(hj.cell 1 rfl).2);(have g3:=(hj.cell 3 (v:= .string (firstJ j [nHome])) rfl).1);(first|(have H:=hj.set I 1 (.string (firstJ j [nHome])) (F':=FE j 0 [] (.slice none 0 0)) ft.out;(have e1:=(H.cell 1 (v:= .string (idW j)) rfl).1))|(have H:DF w w2.heap.size U.heap.size (w.heap.size+1) cs _ (FE j 0 [] (.slice none 0 0)) w9:=(by rw[<-fu.out];exact hj);(have e1:=(H.cell 1 (v:= .string (idW j)) rfl).1);clear g1)))|(go_at_call 29;(refine Za (Xu ha gX h0 [nHome] (by decide) _ (by first|rfl|exact (Zp _ _).symm|(simp;done))) ?_);rintro e U ⟨rfl,gY⟩;(have fc:=Zh U (.cells #[.slice none 0 0,.string (firstJ j [nFeedUrl]),.string (firstJ j [nTitle]),.string (firstJ j [nHome]),.int .i64 0,.slice none 0 0] 32));(have h5:=gY.alloc (.cells #[.slice none 0 0,.string (firstJ j [nFeedUrl]),.string (firstJ j [nTitle]),.string (firstJ j [nHome]),.int .i64 0,.slice none 0 0] 32));(have fD:w2.heap.size<U.heap.size:=Z3 (Ze.1 h0.1).1 gY.size);(have I:DK w w2.heap.size U.heap.size (w.heap.size+1):=(by have q1:=hT.out;have q2:=D.size;exact ⟨by omega,by omega,by omega,by omega,by omega,by omega⟩));(have gc:DF w w2.heap.size U.heap.size (w.heap.size+1) cs _ (F0 j) _:=⟨h0.ext h5,fc,h5.heap gO,gX.trans h5⟩);(have g0:=(gc.cell 1 (v:= .string (firstJ j [nFeedUrl])) rfl).1))|(go_at_call 29;(refine Za (Xu ha gW gK [nTitle] (by decide) _ (by first|rfl|exact (Zp _ _).symm|(simp;done))) ?_);rintro e w6 ⟨rfl,hu⟩;(have gX:=gW.trans hu);(have h0:=gK.ext hu);(have gO:=hu.heap gN))|(go_at_call 29;(refine Za (Xu ha gV gJ [nFeedUrl] (by decide) _ (by first|rfl|exact (Zp _ _).symm|(simp;done))) ?_);rintro e w5 ⟨rfl,hs⟩;(have gW:=gV.trans hs);(have gK:=gJ.ext hs);(have gN:=hs.heap gM))|(go_at_call 28;(refine Za (VE ha gU fy [nFeedUrl,nHome,nTitle,nUpdated] (by decide) _ (by first|rfl|exact (Zp _ _).symm|(simp;done))) ?_);rintro e w4 ⟨rfl,gJ,gw⟩;(have gV:=Bar.ext gU gw ha.hb);(have gM:=gw.heap gL (by have q1:=hT.out;have q2:=D.size;omega)))|(go_at_call 14;(have hz:=hU.out W1 hV.out);(refine Za hz ?_);clear hz;rintro e w2 ⟨rfl,D⟩;(have q0:=Ext.cell D c0);(have q1:=Ext.cell D c1);(have q2:=Ext.cell D c2);(have q3:=Ext.cell D c3);(have q4:=Ext.cell D c4);(have q5:=Ext.cell D c5);(have q6:=Ext.cell D c6);(have ha:=g7.out w2.heap.size (Zl hV.out.size D.size));(have hQ:=(Ext.refl w2).alloc (.cells #[.int .i64 K,.bool Bb,.int .i64 Nn,.string Ss,.slice A p c,.slice B q d,.int .i64 At,.int .i64 0,.int .i64 0] 67));(have gU:=(hV.out.trans D).trans hQ);(have gL:=(D.trans hQ).heap fl.out);(have fy:RdAt w2.heap.size cs none (w2.alloc (.cells #[.int .i64 K,.bool Bb,.int .i64 Nn,.string Ss,.slice A p c,.slice B q d,.int .i64 At,.int .i64 0,.int .i64 0] 67)):=⟨(by rw[ga.out];exact Zh w2 _),λe he=>(by cases he)⟩))))
 focus
  have fS:kindJ y=0:=gE.elim (λe=>by rw[Z.out.1] at e;cases e) λe=>e.2
  have fq:itemsJ y=L:=by rw[Er (by omega),Z.out.2.2]
  subst fq
  have ge:=X.fault (o':=headWJ j) (by rw[fg.out,Z.out.2.1,Y9];rfl)
  have fI:Hid (itemsJ y≠ []->jsz N y):=λh=>absurd Z.out.2.2 h
  clear X gE
 all_goals (
  have fC:(itemsJ y).length<=1000000:=fh.out
  have fK:=gd gQ
  have fH:=gd gA
  have fG:=gd gy
  have gf:=gd ge
  clear gQ gA gy ge i0 i4 i6 hn
  go_loopw [74] (λi wr=>∃(k:Nat) (E:List Ent) (eA:Option Addr) (ec:Nat) (O:Option (Nat×Nat)),k<=(itemsJ y).length/\i= .int .i64 (k:Nat)/\Hid (E.length=k)/\Hid (DF w w2.heap.size U.heap.size (w.heap.size+1) cs O (FE j t E (.slice eA E.length ec)) wr)/\Hid (OEnts wr w.heap.size (.slice eA E.length ec) E)/\Hid (∀(i:Nat) (e:Ent) (x:JO),E[i]? =some e->(itemsJ y)[i]? =some x->EntR x e)/\Hid (O=orF (headWJ j) (firstFs ((itemsJ y).take k)))) (λi _=>(itemsJ y).length - (intOf i).toNat)
  case atStart=>exact ⟨0,[],none,0,headWJ j,Zt _,rfl,rfl,gf.out,OEnts.nil _ _,(λi e x he _=>by simp at he),(by rw[List.take_zero];exact (Y9 _).symm)⟩
  case round=>
   obtain ⟨k,E,eA,ec,O,hk,rfl,fp,V,HO,g9,hO⟩:=hrel
   by_cases gD:k<(itemsJ y).length
   ·rw[Z.out.2.2] at gD;exact absurd gD (Nat.not_lt_zero _)
   ·have fQ:k=(itemsJ y).length:=(by omega)
    have fR:¬(k:Int)<((itemsJ y).length:Int):=(by omega)
    cases O with
    |none=>
     have ho:cs.length=7:=(by obtain ⟨_,_,_,_,_,_,e⟩:=hl.out.cells;rw[e];rfl)
     obtain ⟨r7,r8, -⟩:=Yu V.out.rd ho
     simp only[faultA,faultE] at r7 r8
     have go:=fp.out
     have hZ:=fk.out t E (by rw[HL.out,hO.out,ZC (by omega)]) HT.out (by rw[HL.out];omega) (by rw[HL.out];exact g9.out)
     have gB:=fd.out _ hZ
     have hp:R= .ok ⟨[],idW j,firstJ j [nTitle],firstJ j [nHome],t,E⟩:=(by rw[<-gh.out];exact hZ)
     subst hp
     have gP:RdC wr (FE j t E (.slice eA E.length ec)):=⟨RSl.nil wr 1,OEnts.reads HO.out⟩
     have fj:=gd (XW (FE j t E (.slice eA E.length ec)) wr (g8.out.ext V.out.ext) gB gP)
     have e0:=(V.out.cell 0 (v:= .slice none 0 0) rfl).1
     have e1:=(V.out.cell 1 (v:= .string (idW j)) rfl).1
     have e2:=(V.out.cell 2 (v:= .string (firstJ j [nTitle])) rfl).1
     have e3:=(V.out.cell 3 (v:= .string (firstJ j [nHome])) rfl).1
     have e4:=(V.out.cell 4 (v:= .int .i64 t) rfl).1
     have e5:=(V.out.cell 5 (v:= .slice eA E.length ec) rfl).1
     have fw:U.heap.size<wr.heap.size:=(Ze.1 V.out.fb).1
     have fx:w.heap.size+1<wr.heap.size:=(Ze.1 V.out.rb).1
     have ff:=I.fr
     clear hZ gB gP ho go
     go_wp2_with (first|(refine Zg rfl 32 (.tmp 2) (.tmp 127) rfl (w.heap.size+1) #[.slice A9 m9 c9,.string C.id,.string C.title,.string C.link,.int .i64 C.upd,.slice B9 o9 d9] rfl rfl _ _ hJ ZA rfl YQ ?_)|(refine Zg rfl 32 (.tmp 8) (.tmp 125) rfl U.heap.size #[.slice A9 m9 c9,.string C.id,.string C.title,.string C.link,.int .i64 C.upd,.slice B9 o9 d9] rfl rfl _ _ G ZA rfl YQ ?_;(have n0:=Zb _ _ 0 _ _ _ (Zk S U.heap.size _ #[.slice A9 m9 c9,.string C.id,.string C.title,.string C.link,.int .i64 C.upd,.slice B9 o9 d9] _ _ G));(have n1:=Zb _ _ 1 _ _ _ (Zk S U.heap.size _ #[.slice A9 m9 c9,.string C.id,.string C.title,.string C.link,.int .i64 C.upd,.slice B9 o9 d9] _ _ G));(have n2:=Zb _ _ 2 _ _ _ (Zk S U.heap.size _ #[.slice A9 m9 c9,.string C.id,.string C.title,.string C.link,.int .i64 C.upd,.slice B9 o9 d9] _ _ G));(have n3:=Zb _ _ 3 _ _ _ (Zk S U.heap.size _ #[.slice A9 m9 c9,.string C.id,.string C.title,.string C.link,.int .i64 C.upd,.slice B9 o9 d9] _ _ G));(have n4:=Zb _ _ 4 _ _ _ (Zk S U.heap.size _ #[.slice A9 m9 c9,.string C.id,.string C.title,.string C.link,.int .i64 C.upd,.slice B9 o9 d9] _ _ G));(have n5:=Zb _ _ 5 _ _ _ (Zk S U.heap.size _ #[.slice A9 m9 c9,.string C.id,.string C.title,.string C.link,.int .i64 C.upd,.slice B9 o9 d9] _ _ G)))|(go_at_call 36;(have hz:=fj.out);(refine Za hz ?_);clear hz;rintro e S ⟨Y,rfl,g5,h6,g2,hr⟩;(have g6:=h6.sl);(obtain ⟨yp,f0,C⟩:=Y);(obtain ⟨⟨A9,m9,c9,h9⟩,⟨B9,o9,d9,gk⟩⟩:=g6);(dsimp only at h9 gk);(subst h9);(subst gk);(have fn:=gd g5);(have fo:=gd h6);(have gi:=gd g2);clear g5 h6 g2;(unfold cellsC fCells);(dsimp only);(have G:=hr.heap V.out.fb);(have hJ:=(ZD S U.heap.size (w.heap.size+1) #[.slice A9 m9 c9,.string C.id,.string C.title,.string C.link,.int .i64 C.upd,.slice B9 o9 d9] ff.symm).trans (hr.heap V.out.rb))))
     ((try simp only[Exit.inBlock,Exit.then]);refine Zm (Zw rfl _ _ _ _ #[.slice A9 m9 c9,.string C.id,.string C.title,.string C.link,.int .i64 C.upd,.slice B9 o9 d9] _ _ rfl (Zk _ _ _ _ _ _ hJ) underlying32 rfl ZA) rfl ?_)
     refine ⟨⟨⟨.slice A9 m9 c9,.slice B9 o9 d9,C⟩,rfl,fn.out,?_,⟨⟨_,_,_,rfl⟩,⟨_,_,_,rfl⟩⟩⟩,((V.out.ext.trans hr).setRow I.kf _).setRow I.kr _⟩
     exact (fo.out.grown (Yh _ _ _) (gi.out _ fw)).grown (Yh _ _ _) (gi.out _ fx)
    |some f=>
     have hw:=V.out
     have ho:cs.length=7:=(by obtain ⟨_,_,_,_,_,_,e⟩:=hl.out.cells;rw[e];rfl)
     have fF:f.2≠0:=hw.rd.2 f rfl
     obtain ⟨r7,r8, -⟩:=Yu hw.rd ho
     have fO:(((f.2:Nat):Int) !=0)=true:=(by rw[Yj];omega)
     have fE:¬((f.2:Nat):Int)=0:=(by omega)
     have gg:=gd hw
     have hp:R= .error f:=(by rw[<-gh.out];exact gb.out f (by rw[HL.out];exact Xd (k:=k) hO.out.symm))
     subst hp
     obtain ⟨fa,fe⟩:=f
     simp only[faultA,faultE] at r7 r8
     clear hw ho
     go_wp2
     have gZ:=(Ext.refl wr).drew
     have F:(wr).drew.cell? ⟨w2.heap.size,7,none⟩=some (.int .i64 (fa:Nat))/\(wr).drew.cell? ⟨w2.heap.size,8,none⟩=some (.int .i64 (fe:Nat)):=⟨r7,r8⟩
     have gC:=gZ.heap gg.out.rb
     refine rN ?_
     change wpAny _ _ _ _ _ _ _ (World.drew _)
     refine Yi (λw'=>w'.cell? ⟨w2.heap.size,7,none⟩=some (.int .i64 (fa:Nat))/\w'.cell? ⟨w2.heap.size,8,none⟩=some (.int .i64 (fe:Nat))) ?_
     refine tS 0 (.agg (cellsC zeroC).toArray) rfl (λw' hS=>by go_simp;rfl) F ?_
     refine tG 1 (.pointer (some ⟨w2.heap.size,0,none⟩)) F ?_
     refine tG 2 (.pointer (some ⟨w2.heap.size,0,none⟩)) F ?_
     refine tG 3 (.pointer (some ⟨w2.heap.size,7,none⟩)) F ?_
     go_simp
     refine tS 4 (.int .i64 (fa:Nat)) rfl (λw' hS=>by have hq:=hS.1;go_simp) F ?_
     refine tG 5 (.pointer (some ⟨w2.heap.size,0,none⟩)) F ?_
     refine tG 6 (.pointer (some ⟨w2.heap.size,0,none⟩)) F ?_
     go_simp
     refine tG 7 (.pointer (some ⟨w2.heap.size,8,none⟩)) F ?_
     refine tS 8 (.int .i64 (fe:Nat)) rfl (λw' hS=>by have hq:=hS.2;go_simp) F ?_
     go_simp
     refine Zv (i:=9) rfl (by kernel_rfl) (λK2 J=> ?_)
     refine Z4 rfl 32 (.tmp 2) (.tmp 113) rfl (w.heap.size+1) (cellsC zeroC).toArray rfl rfl _ _ gC ZA rfl YQ ?_
     have hH:w.heap.size+1<w2.heap.size:=(by have q1:=hT.out;have q2:=D.size;omega)
     have hW:=Z9 ((Zu (a:=⟨w2.heap.size,7,none⟩) (ZD (wr).drew (w.heap.size+1) w2.heap.size (cellsC zeroC).toArray (Nat.ne_of_gt hH))).trans F.1) ((Zu (a:=⟨w2.heap.size,8,none⟩) (ZD (wr).drew (w.heap.size+1) w2.heap.size (cellsC zeroC).toArray (Nat.ne_of_gt hH))).trans F.2)
     refine J _ _ hW ?_
     clear J K2
     refine Zv (i:=10) rfl (by kernel_rfl) (λK2 J=> ?_)
     go_simp
     refine J _ _ hW ?_
     clear J K2
     refine Zv (i:=11) rfl (by kernel_rfl) (λK2 J=> ?_)
     go_simp
     refine J _ _ hW ?_
     clear J K2
     refine sE ?_
     go_wp2
     ((try simp only[Exit.inBlock,Exit.then]);refine Zm (Zw rfl _ _ _ _ _ _ _ rfl (Zk _ _ _ _ _ _ gC) underlying32 rfl ZA) rfl ?_)
     exact ⟨rfl,(gg.out.ext.trans gZ).setRow (ZM _) _⟩
 )
end
end Go.Proofs.YthlnaldahkgjnaaGreatDoor
