/- Parts of the proof: contracts and plain laws. -/
import Derived.Shelf.SlSortCmp.InsertionK
import Derived.Shelf.SlSortCmp.SiftDownK
import Derived.Shelf.SlSortCmp.HeapSortK
import Derived.Shelf.SlSortCmp.MedianK
import Derived.Shelf.SlSortCmp.PivotK
import Derived.Shelf.SlSortCmp.ReverseRangeK
import Derived.Shelf.SlSortCmp.PartialInsertionK
import Derived.Shelf.SlSortCmp.PartitionEqualK
import Derived.Shelf.SlSortCmp.PartitionK
import Derived.Shelf.SlSortCmp.PdqK
import Derived.Shelf.SlSortCmp.WholeK
import Derived.Shelf.SlSortCmp.NoneTotal
import Derived.Test.YtmfinhgobjbecaaGreatDoorA13
namespace Go.Proofs.YtmfinhgobjbecaaGreatDoor
open Go Go.RowKit Go.Shelf Go.Sort _root_.Go.Proofs.Tryz
set_option linter.unusedVariables false
set_option linter.unusedSimpArgs false
set_option maxRecDepth 100000
set_option maxHeartbeats 16000000
section
set_option linter.unusedSimpArgs false
theorem E8 (T:ByteArray):T.toList.isEmpty=decide (T.size=0):=by
 rw[show T.toList=T.data.toList from ZrC _,<-Zb,ZrG,Zsi,Zrd];exact ⟨λh=>by rw[h];rfl,ZqX⟩
theorem ZeW {T:ByteArray} {i:Nat} (h:i<T.size):(T[i]'h).toNat=(T.data.toList[i]'(by rw[Zb];exact h)).toNat:=rfl
def fracE (l:List UInt8):Nat×Bool:=if sepP l 0 46 46 then (1+digsP l l.length 1,decide (0<digsP l l.length 1)) else (0,true)
theorem Zfb (T:ByteArray) (w:World) (hs:T.size<=16777216):
 Calls prog 111 #[.string T] w λe w'=>e= .returned (.tuple #[.string (str (T.data.toList.drop (fracE T.data.toList).1)),.bool (fracE T.data.toList).2])/\w'=w:=by
 have U:=E8 T;by_cases Z:T.size=0
 ·have hl:T.data.toList= []:=ZqX (by rw[Zb];exact Z);have S:fracE T.data.toList=(0,true):=by rw[hl];rfl
  rw[S];simp only[Zsf,VH];rw[Zrj Z] at U;clear hl S Z;go_enter func111,ntmps111;go_wp2
  go_ret2
  exact ⟨rfl,rfl⟩
 ·have H:0<T.size:=om
  rw[Zre Z] at U;have hf:(0:Int)<(T.size:Int):=om
  have A:=Gb (l:=T.data.toList) (i:=0) 46 46 (by rw[Zb];exact H);rw[<-ZeW H] at A;obtain ⟨x,hx⟩:∃x,(T[0]'H).toNat=x:=⟨_,rfl⟩;rw[hx] at A;have hh:(((T[0]'H).toNat:Nat):Int)=(x:Int):=by rw[hx]
  by_cases R:x=46
  ·have S:fracE T.data.toList=(1+digsP T.data.toList T.data.toList.length 1,decide (0<digsP T.data.toList T.data.toList.length 1)):=(by unfold fracE;rw[A,R];rfl);have hb:=ID (l:=T.data.toList) T.data.toList.length 1 (by rw[Zb];exact H);rw[S];simp only;obtain ⟨D,hD⟩:∃D,digsP T.data.toList T.data.toList.length 1=D:=⟨_,rfl⟩;rw[hD] at hb|-;rw[Zb] at hb;have HD:=gd hD;subst R;clear S A Z hx hD;go_enter func111,ntmps111;go_wp2;obtain ⟨wP,he⟩:∃wP:World,wP=w:=⟨_,rfl⟩;subst he;go_loopw [4] (λv wr=>∃k:Nat,1<=k/\k<=T.size/\v= .int .i64 (k:Nat)/\Hid (k+digsP T.data.toList T.data.toList.length k=1+D)/\wr=wP) (λv _=>T.size - (intOf v).toNat)
   case atStart=>exact ⟨1,om,om,rfl,by show _=_;rw[HD.out],rfl⟩
   case round=>
    obtain ⟨k,hg,hk,rfl,I,rfl⟩:=hrel;have C:(digP T.data.toList k).isSome=false->k=1+D:=λh=>(by have:=I.out;rw[JJ h] at this;exact this);by_cases Q:k<T.size
    ·have hd:=Ze3 (l:=T.data.toList) (i:=k) (by rw[Zb];exact Q);rw[<-ZeW Q] at hd;obtain ⟨y,hy⟩:∃y,(T[k]'Q).toNat=y:=⟨_,rfl⟩;rw[hy] at hd;have hi:(((T[k]'Q).toNat:Nat):Int)=(y:Int):=(by rw[hy]);have b0:(0:Int)<=(k:Int):=om;have b1:(k:Int)<(T.size:Int):=om;by_cases F:48<=y/\y<=57
     ·have ha:Hid (k+1+digsP T.data.toList T.data.toList.length (k+1)=1+D):=(by show _=_;rw[<-I.out];obtain ⟨q,hq⟩:∃q,T.data.toList.length=q+1:=⟨T.data.toList.length - 1,by rw[Zb];omega⟩;have h2:=Km (l:=T.data.toList) (k:=q) (i:=k) (by rw[hd,ZqN F];rfl);have h3:=Vr (l:=T.data.toList) q T.data.toList.length (k+1) om om;rw[hq] at h3|-;omega);have c1:(48:Int)<=(y:Int):=om;have c2:(y:Int)<=57:=om;clear hd I C hy F;go_wp2;go_roundw
      case rel=>exact ⟨k+1,om,Q,by go_num,ha,trivial⟩
      case measure=>simp[intOf];omega
     ·have J:=C (by rw[hd,ZqH F];rfl);have hc:=IM T k om;have Y:¬(48:Int)<=(y:Int)\/((48:Int)<=(y:Int)/\¬(y:Int)<=57):=om;have O:decide ((1:Int)<(k:Int))=decide (0<D):=(by rw[ZrG,Zrd,Zrd];omega);have V:=gd J;have X:=gd O;clear hd I C hy F J O;rcases Y with c1|⟨c1,c2⟩
      all_goals go_wp2
      all_goals go_ret2
      all_goals exact ⟨by rw[<-V.out,<-X.out];simp,rfl⟩
    ·obtain rfl:k=T.size:=om;have J:=C (by rw[JI (by rw[Zb];exact ZqE _)];rfl);have hc:=IM T T.size (ZqE _);have O:decide ((1:Int)<(T.size:Int))=decide (0<D):=(by rw[ZrG,Zrd,Zrd];omega);have V:=gd J;have X:=gd O;clear I C J O;go_wp2
     go_ret2
     exact ⟨by rw[<-V.out,<-X.out];simp,rfl⟩
  ·have S:fracE T.data.toList=(0,true):=(by unfold fracE;rw[A];simp[R]);rw[S];simp only[Zsf,VH];have q1:((x:Int) !=46)=true:=(by rw[ZrQ];omega);clear S A Z hx R;go_enter func111,ntmps111;go_wp2
   go_ret2
   exact ⟨rfl,rfl⟩
end
section
set_option linter.unusedSimpArgs false
theorem OI.cell {w:World} {B:Nat} {v:Value} {l:List Nat} (h:OI w B v l) (F:0<l.length):∃g cap,v= .slice (some ⟨g,0,none⟩) l.length cap/\∀j (A:j<l.length),w.cell? ⟨g,j,none⟩=some (.int .i64 (l[j]:Nat)):=by
 rcases h.2 with ⟨rfl,D⟩|⟨g,cap,C,rfl,D,H,I,J,O,Q⟩
 ·omega
 ·refine ⟨g,cap,rfl,λj A=> ?_⟩;have:=World.ownsRow.cells (g:=g) h rfl j (.int .i64 (l[j]:Nat)) (by rw[ints,Zrq,ZqL A];rfl)
  rwa [show (⟨g,0,none⟩:Addr).add j=⟨g,j,none⟩ from by unfold Addr.add;split<;>simp_all] at this
theorem OI.two {w:World} {B:Nat} {v:Value} {a b:Nat} (h:OI w B v [a,b]):∃g cap,v= .slice (some ⟨g,0,none⟩) 2 cap/\w.cell? ⟨g,0,none⟩=some (.int .i64 (a:Nat))/\w.cell? ⟨g,1,none⟩=some (.int .i64 (b:Nat)):=by
 obtain ⟨g,cap,rfl,A⟩:=h.cell (by simp);exact ⟨g,cap,rfl,A 0 (by simp),A 1 (by simp)⟩
theorem OI.six {w:World} {B:Nat} {v:Value} {a b c d e f:Nat} (h:OI w B v [a,b,c,d,e,f]):∃g cap,v= .slice (some ⟨g,0,none⟩) 6 cap/\w.cell? ⟨g,0,none⟩=some (.int .i64 (a:Nat))/\w.cell? ⟨g,1,none⟩=some (.int .i64 (b:Nat))/\
 w.cell? ⟨g,2,none⟩=some (.int .i64 (c:Nat))/\w.cell? ⟨g,3,none⟩=some (.int .i64 (d:Nat))/\w.cell? ⟨g,4,none⟩=some (.int .i64 (e:Nat))/\w.cell? ⟨g,5,none⟩=some (.int .i64 (f:Nat)):=by
 obtain ⟨g,cap,rfl,A⟩:=h.cell (by simp);exact ⟨g,cap,rfl,A 0 (by simp),A 1 (by simp),A 2 (by simp),A 3 (by simp),A 4 (by simp),A 5 (by simp)⟩
def OffR (l:List UInt8) (e:Ending):Prop:=e= .returned (match offP l 0 with|some x=> .tuple #[.int .i64 x,.bool true]|none=> .tuple #[.int .i64 0,.bool false])
theorem Zje (T:ByteArray) (w:World) (hs:T.size<=16777216):
 Calls prog 112 #[.string T] w λe w'=>OffR T.data.toList e/\Ext w w':=by
 have Z:=E8 T;by_cases h0:T.size=0
 ·have hl:T.data.toList= []:=ZqX (by rw[Zb];exact h0);have D:offP T.data.toList 0=none:=by rw[hl];rfl
  rw[Zrj h0] at Z;have hw:T.toList= []:=by rw[show T.toList=T.data.toList from ZrC _,hl]
  unfold OffR;rw[D];clear hl D h0;go_enter func112,ntmps112;go_wp2
  go_ret2
  exact ⟨rfl,Ext.refl _⟩
 ·have hc:0<T.size:=om
  rw[Zre h0] at Z;have hA:(0:Int)<(T.size:Int):=om
  have R:0<T.data.toList.length:=by rw[Zb];exact hc
  have O:=Gb (l:=T.data.toList) (i:=0) 90 122 R;have S:=Gb (l:=T.data.toList) (i:=0) 43 45 R;have J:=Gb (l:=T.data.toList) (i:=0) 45 45 R;rw[<-ZeW hc] at O S J;obtain ⟨x,hx⟩:∃x,(T[0]'hc).toNat=x:=⟨_,rfl⟩;rw[hx] at O S J;have hu:(((T[0]'hc).toNat:Nat):Int)=(x:Int):=by rw[hx]
  have A:∀c:UInt8,T.toList= [c]↔(T.size=1/\x=c.toNat):=by
   intro c;rw[show T.toList=T.data.toList from ZrC _];have hb:T.data.toList[0]=T[0]'hc:=rfl;constructor
   ·intro h;have h1:=ZqS List.length h;rw[Zb] at h1;have Y:T.data.toList[0]? =some c:=(by rw[h];rfl);rw[ZqL R,hb] at Y;injection Y with Y;exact ⟨h1,by rw[<-hx,Y]⟩
   ·rintro ⟨h1,Y⟩;have h3:T.data.toList.length=1:=(by rw[Zb];exact h1);have h4:T[0]'hc=c:=ZrY.1 (hx.trans Y)
    match hl:T.data.toList,h3 with
    | [d],_=>rw[<-h4,<-hb];simp[hl]
  by_cases I:T.size=1/\(x=90\/x=122)
  ·have D:offP T.data.toList 0=some 0:=(by unfold offP;rw[O,ZqN (by rcases I.2 with h|h<;>simp[h]),ZqN (by rw[Zb];omega)]);unfold OffR;rw[D];rcases I with ⟨h1,Y|Y⟩
   ·have hz:T.toList= [90]:=(A 90).2 ⟨h1,Y⟩;clear D O S J A hx hu h0 Z R;go_enter func112,ntmps112;go_wp2
    go_ret2
    exact ⟨rfl,Ext.refl _⟩
   ·have hz:T.toList= [122]:=(A 122).2 ⟨h1,Y⟩;clear D O S J A hx hu h0 Z R;go_enter func112,ntmps112;go_wp2
    go_ret2
    exact ⟨rfl,Ext.refl _⟩
  ·have hw:(T.toList== [90])=false:=(by rw[ZqW];exact λh=>I ⟨((A 90).1 h).1,Or.inl ((A 90).1 h).2⟩);have hB:(T.toList== [122])=false:=(by rw[ZqW];exact λh=>I ⟨((A 122).1 h).1,Or.inr ((A 122).1 h).2⟩);by_cases C:x=43\/x=45
   ·have X:sepP T.data.toList 0 90 122=false:=(by rw[O];rcases C with h|h<;>rw[h]<;>rfl);have hf:sepP T.data.toList 0 43 45=true:=(by rw[S];rcases C with h|h<;>rw[h]<;>rfl);have D:=ZbC T.data.toList 0 X;rw[hf,J] at D;have ht:=IM T 1 om;rw[show ((1:Nat):Int)=1 from rfl] at ht;obtain ⟨M,hM⟩:∃M,str (T.data.toList.drop 1)=M:=⟨_,rfl⟩;rw[hM] at ht;have ha:M.data.toList=T.data.toList.drop 1:=(by rw[<-hM,Zg]);have hi:M.size=T.size - 1:=(by rw[<-hM,Zo,ZqP,Zb]);have hg:=Zqy M.data.toList;rw[ha,QZ,QZ,Zar] at hg;have F:=gd (λw' (V:Value) (hV:RSl w' 1 V 2 (ints [2,2]))=>Zcr M ⟨#[58]⟩ [2,2] V w' om hV (by decide) (by decide) (by decide) (by decide));rw[show ((⟨#[58]⟩:ByteArray).data.toList.map UInt8.toNat)= [58] from rfl] at F;have hr:RSl (w.alloc (.cells #[.int .i64 2,.int .i64 2] 3)) 1 (.slice (some ⟨w.heap.size,0,none⟩) 2 2) 2 (ints [2,2]):=Zj (cs:= [.int .i64 2,.int .i64 2]) rfl (by decide)
    replace F:=gd (F.out _ _ hr)
    rw[ha] at F;have q1:((x:Int) !=43 && (x:Int) !=45)=false:=(by rcases C with h|h<;>rw[h]<;>rfl);have hj:(grpG (T.data.toList.drop 1) [58] [2,2] 0 0=none/\offP T.data.toList 0=none)\/(∃h m,h<100/\m<100/\6<=T.size/\grpG (T.data.toList.drop 1) [58] [2,2] 0 0=some ([h,m],5)/\
     offP T.data.toList 0=if h<=23/\m<=59/\T.data.toList.length=6 then some (if x=45 then -((h*3600+m*60:Nat):Int) else ((h*3600+m*60:Nat):Int)) else none):=by
     rw[hg,D]
     rw[show 0+1=1+0 from rfl,show 0+4=1+3 from rfl,show 0+3=1+2 from rfl]
     cases h1:numP T.data.toList (1+0) 2 with
     |none=>exact Or.inl ⟨rfl,rfl⟩
     |some h=>
      cases Y:numP T.data.toList (1+3) 2 with
      |none=>exact Or.inl ⟨rfl,rfl⟩
      |some m=>
       cases h3:sepP T.data.toList (1+2) 58 58 with
       |false=>exact Or.inl ⟨rfl,by simp⟩
       |true=>
        refine Or.inr ⟨h,m,Xx h1,Xx Y,?_,rfl,by simp⟩
        rcases ZrJ T.data.toList.length 6 with h6|h6
        ·rw[Vz om om] at Y;cases Y
        ·rwa [Zb] at h6
    clear D O S J A hx h0 R I X hf hg hM;rcases hj with ⟨hq,D⟩|⟨h,m,hh,hm,hy,hk,D⟩
    ·rw[hq] at F;unfold OffR;rw[D];simp only[GrpR] at F;clear D ha hi hq;go_enter func112,ntmps112;rcases C with rfl|rfl
     all_goals go_wp2_with (first|(go_at_call 109;have hz:=F.out;refine ZqD hz ?_;clear hz;rintro e w1 ⟨rfl,hd⟩))
     all_goals go_ret2
     all_goals exact ⟨rfl,((Ext.refl w).alloc _).trans hd⟩
    ·rw[hk] at F;obtain ⟨Q,hQ⟩:∃Q,str (M.data.toList.drop 5)=Q:=⟨_,rfl⟩;have hp:Q.size=T.size - 6:=(by rw[<-hQ,Zo,ZqP,ha,ZqP,Zb];omega);have U:=E8 Q;simp only[GrpR,hQ] at F;rw[Zb] at D;by_cases H:h<=23/\m<=59/\T.size=6
     ·rw[ZqN H] at D;unfold OffR;rw[D];obtain ⟨g1,g2,g3⟩:=H;rw[Zrj (show Q.size=0 by omega)] at U;have c1:¬23<(h:Int):=om;have c2:¬59<(m:Int):=om;clear D ha hk hQ hp hi;go_enter func112,ntmps112;rcases C with rfl|rfl
      all_goals go_wp2_with (first|(go_at_call 109;have hz:=F.out;refine ZqD hz ?_;clear hz;rintro e w1 ⟨⟨v,rfl,he⟩,hd⟩;obtain ⟨g,cap,rfl,d0,d1⟩:=he.two;clear he))
      all_goals go_region
      all_goals go_wp2
      all_goals go_ret2
      ·exact ⟨by refine ZqS (λt=>Ending.returned (.tuple #[.int .i64 t,.bool true])) ?_;first|rfl|omega,(((Ext.refl w).alloc _).trans hd).drew⟩
      ·exact ⟨by refine ZqS (λt=>Ending.returned (.tuple #[.int .i64 t,.bool true])) ?_;first|rfl|omega,(((Ext.refl w).alloc _).trans hd).drew⟩
     ·rw[ZqH H] at D;unfold OffR;rw[D];have hn:(Q.toList.isEmpty=false)\/(Q.toList.isEmpty=true/\23<(h:Int))\/(Q.toList.isEmpty=true/\¬23<(h:Int)/\59<(m:Int)):=by
       by_cases h0:Q.size=0
       ·rw[Zrj h0] at U;by_cases ho:23<(h:Int)
        ·exact Or.inr (Or.inl ⟨U,ho⟩)
        ·refine Or.inr (Or.inr ⟨U,ho,?_⟩);by_cases hv:59<(m:Int)
         ·exact hv
         ·exact absurd ⟨om,om,om⟩ H
       ·rw[Zre h0] at U;exact Or.inl U
      clear D ha hk hQ hp hi H U;go_enter func112,ntmps112;rcases C with rfl|rfl
      all_goals rcases hn with c0|⟨c0,c1⟩|⟨c0,c1,c2⟩
      all_goals go_wp2_with (first|(go_at_call 109;have hz:=F.out;refine ZqD hz ?_;clear hz;rintro e w1 ⟨⟨v,rfl,he⟩,hd⟩;obtain ⟨g,cap,rfl,d0,d1⟩:=he.two;clear he))
      all_goals go_ret2
      all_goals exact ⟨rfl,((Ext.refl w).alloc _).trans hd⟩
   ·have D:offP T.data.toList 0=none:=by
     have hf:sepP T.data.toList 0 43 45=false:=(by rw[S];simp only[not_or] at C;simp[C]);cases X:sepP T.data.toList 0 90 122 with
     |true=>unfold offP;rw[X,ZqN rfl,ZqH];intro h;rw[Zb] at h;rw[O] at X;exact I ⟨h,by simpa using X⟩
     |false=>exact Zhc X (Or.inl hf)
    unfold OffR;rw[D];have q1:((x:Int) !=43)=true:=(by rw[ZrQ];omega);have q2:((x:Int) !=45)=true:=(by rw[ZrQ];omega);clear D O S J A hx h0 R I C;go_enter func112,ntmps112;go_wp2
    go_ret2
    exact ⟨rfl,Ext.refl _⟩
end
section
set_option linter.unusedSimpArgs false
theorem Zp3 (S:ByteArray) (a:Nat) (h:a<=S.size):(str (S.data.toList.drop a)).data.toList=S.data.toList.drop a/\(str (S.data.toList.drop a)).size=S.size - a:=⟨Zg _,by rw[Zo,ZqP,Zb]⟩
theorem ZmZ (l:List UInt8) (h:19<=l.length):fracP l 19=if (fracE (l.drop 19)).2 then some (19+(fracE (l.drop 19)).1) else none:=by
 unfold fracP fracE;rw[Zar,Zb6];cases sepP l (19+0) 46 46 with
 |false=>rfl
 |true=>
  simp only[Zsy];rw[show 19+1=20 from rfl];rw[Vr (l:=l) l.length (l.drop 19).length 20 om (by rw[ZqP];omega)];generalize digsP l (l.drop 19).length 20=D;by_cases A:D=0
  ·subst A;rfl
  ·rw[ZqH A,Zrj om];simp;omega
theorem Zm0 (l:List UInt8):(fracE l).1<=l.length:=by
 unfold fracE;cases h:sepP l 0 46 46 with
 |false=>exact ZqO _
 |true=>
  rw[ZqN rfl];have C:0<l.length:=by
   rcases ZrJ 0 l.length with A|A
   ·exact A
   ·rw[ZhD 46 46 A] at h;cases h
  exact ID l.length 1 C
attribute [local go_sem] calm1
theorem ZhV (S:ByteArray) (w:World) (hs:S.size<=16777216):
 Calls prog 63 #[.string S] w λe w'=>TimeR S.data.toList e/\Ext w w':=by
 have hi:=Zas S.data.toList;have ho:RSl (w.alloc (.cells #[.int .i64 4,.int .i64 2,.int .i64 2,.int .i64 2,.int .i64 2,.int .i64 2] 3)) 1 (.slice (some ⟨w.heap.size,0,none⟩) 6 6) 6 (ints [4,2,2,2,2,2]):=Zj (cs:= [.int .i64 4,.int .i64 2,.int .i64 2,.int .i64 2,.int .i64 2,.int .i64 2]) rfl (by decide);have U:=gd (Zcr S ⟨#[45,45,116,58,58]⟩ [4,2,2,2,2,2] _ _ hs ho (by decide) (by decide) (by decide) (by decide));rw[show ((⟨#[45,45,116,58,58]⟩:ByteArray).data.toList.map UInt8.toNat)= [45,45,116,58,58] from rfl] at U;have R:=Zqz S.data.toList;cases hgr:grpG S.data.toList [45,45,116,58,58] [4,2,2,2,2,2] 0 0 with
 |none=>
  rw[hgr] at U R;simp only[GrpR] at U;have hp:stampP S.data.toList=none:=by
   rw[hi];cases hsp:sepsP S.data.toList with
   |false=>rfl
   |true=>
    rw[hsp,ZqN rfl] at R;rw[ZqN rfl,ZhB];cases h0:numP S.data.toList 0 4 with
    |none=>rfl
    |some y=>cases h1:numP S.data.toList 5 2 with
     |none=>rfl
     |some m=>cases h2:numP S.data.toList 8 2 with
      |none=>rfl
      |some d=>cases h3:numP S.data.toList 11 2 with
       |none=>rfl
       |some h=>cases h4:numP S.data.toList 14 2 with
        |none=>rfl
        |some mi=>cases h5:numP S.data.toList 17 2 with
         |none=>rfl
         |some s=>rw[h0,h1,h2,h3,h4,h5] at R;cases R
  have H:=Ul hp;have HR:Hid (∀e,TimeR S.data.toList e=∃x:Int,x≠0/\e= .returned (.tuple #[.int .i64 0,.int .i64 x])):=gd (λe=>by unfold TimeR;rw[H]);clear hi R hgr hp H;go_enter func63,ntmps63
  go_wp2_with (first|(go_at_call 109;have C:=U.out;refine ZqD C ?_;clear C;rintro e w1 ⟨rfl,V⟩))
  go_ret2
  exact ⟨by rw[HR.out];exact ⟨20,by decide,rfl⟩,((Ext.refl w).alloc _).trans V⟩
 |some p=>
  rw[hgr] at R U;have hl:∃y m d h mi s,p=([y,m,d,h,mi,s],19)/\y<10000/\m<100/\d<100/\h<100/\mi<100/\s<100/\19<=S.size/\stampP S.data.toList=secsI (y:Int) (m:Int) (d:Int) (h:Int) (mi:Int) (s:Int):=by
   cases hsp:sepsP S.data.toList with
   |false=>rw[hsp] at R;cases R
   |true=>
    rw[hsp,ZqN rfl] at R;rw[hsp,ZqN rfl] at hi;cases h0:numP S.data.toList 0 4 with
    |none=>rw[h0] at R;cases R
    |some y=>cases h1:numP S.data.toList 5 2 with
     |none=>rw[h0,h1] at R;cases R
     |some m=>cases h2:numP S.data.toList 8 2 with
      |none=>rw[h0,h1,h2] at R;cases R
      |some d=>cases h3:numP S.data.toList 11 2 with
       |none=>rw[h0,h1,h2,h3] at R;cases R
       |some h=>cases h4:numP S.data.toList 14 2 with
        |none=>rw[h0,h1,h2,h3,h4] at R;cases R
        |some mi=>cases h5:numP S.data.toList 17 2 with
         |none=>rw[h0,h1,h2,h3,h4,h5] at R;cases R
         |some s=>
          rw[h0,h1,h2,h3,h4,h5] at R hi;injection R with R;refine ⟨y,m,d,h,mi,s,R,Xx h0,Xx h1,Xx h2,Xx h3,Xx h4,Xx h5,?_,hi⟩;rcases ZrJ S.data.toList.length 19 with h6|h6
          ·rw[Vz om om] at h5;cases h5
          ·rwa [Zb] at h6
  obtain ⟨y,m,d,h,mi,s,rfl,hy,hm,hd,hh,hE,hG,ht,A⟩:=hl;have hfr:=ZmZ S.data.toList (by rw[Zb];exact ht);obtain ⟨hj,hq⟩:=Zp3 S 19 ht;obtain ⟨Q,hQ⟩:∃Q,str (S.data.toList.drop 19)=Q:=⟨_,rfl⟩;rw[hQ] at hj hq;have hA:=Zm0 Q.data.toList;have he:=gd (λw'=>Zfb Q w' om);rw[<-hj] at hfr;obtain ⟨F,hF⟩:∃F,(fracE Q.data.toList).1=F:=⟨_,rfl⟩;obtain ⟨fb,hx⟩:∃b,(fracE Q.data.toList).2=b:=⟨_,rfl⟩;rw[hF,hx] at hfr he;rw[hF,Zb,hq] at hA;obtain ⟨Z,hZ⟩:∃Z,str (Q.data.toList.drop F)=Z:=⟨_,rfl⟩;have hu:Z.data.toList=S.data.toList.drop (19+F):=by rw[<-hZ,Zg,hj,List.drop_drop]
  have hv:Z.size<=16777216:=by rw[<-hZ,Zo,ZqP,Zb];omega
  rw[hZ] at he;have J:=gd (λw'=>Zje Z w' hv);have hn:offP Z.data.toList 0=offP S.data.toList (19+F):=by rw[hu,ZlA _ _ _ (by rw[Zb];omega),Nat.add_zero]
  unfold OffR at J;rw[hn] at J;have hf:=gd (λw'=>Zhz (y:Int) (m:Int) (d:Int) (h:Int) (mi:Int) (s:Int) w');simp only[GrpR,hQ] at U;have hD:(y:Int)<=9999:=om
  clear R hgr hi hA hj hq hF hx hZ hu hv hn ho hQ;have hO:∃(O:Int) (ob:Bool),Hid (∀w':World,Calls prog 112 #[.string Z] w' λe hC=>e= .returned (.tuple #[.int .i64 O,.bool ob])/\Ext w' hC)/\offP S.data.toList (19+F)=if ob then some O else none:=by
   cases hoo:offP S.data.toList (19+F) with
   |none=>rw[hoo] at J;exact ⟨0,false,J,rfl⟩
   |some x=>rw[hoo] at J;exact ⟨x,true,J,rfl⟩
  clear J;obtain ⟨O,ob,J,Y⟩:=hO;cases hsec:secsI (y:Int) (m:Int) (d:Int) (h:Int) (mi:Int) (s:Int) with
  |none=>
   rw[hsec] at A hf;have H:=Ul A;have HR:Hid (∀e,TimeR S.data.toList e=∃x:Int,x≠0/\e= .returned (.tuple #[.int .i64 0,.int .i64 x])):=gd (λe=>by unfold TimeR;rw[H]);clear H A hsec hfr Y;go_enter func63,ntmps63
   go_wp2_with (first|(go_at_call 109;have C:=U.out;refine ZqD C ?_;clear C;rintro e w1 ⟨⟨v,rfl,I⟩,V⟩;obtain ⟨g,cap,rfl,d0,d1,d2,d3,d4,d5⟩:=I.six;clear I))
   have z0:∀D:Aft w1,D.w.cell? ⟨g,0,none⟩=some (.int .i64 (y:Nat)):=Aft.cell d0;have z1:∀D:Aft w1,D.w.cell? ⟨g,1,none⟩=some (.int .i64 (m:Nat)):=Aft.cell d1;have z2:∀D:Aft w1,D.w.cell? ⟨g,2,none⟩=some (.int .i64 (d:Nat)):=Aft.cell d2;have z3:∀D:Aft w1,D.w.cell? ⟨g,3,none⟩=some (.int .i64 (h:Nat)):=Aft.cell d3;have z4:∀D:Aft w1,D.w.cell? ⟨g,4,none⟩=some (.int .i64 (mi:Nat)):=Aft.cell d4;have z5:∀D:Aft w1,D.w.cell? ⟨g,5,none⟩=some (.int .i64 (s:Nat)):=Aft.cell d5;clear d0 d1 d2 d3 d4 d5;refine rA ?_
   repeat (quiet_step ((go_at_call 110;with_reducible exact ZX (hf.out _))))
   refine Zru ?_;rintro _ ⟨D,rfl⟩;have hc:=D.ext;clear z0 z1 z2 z3 z4 z5
   go_wp2_with (first|(go_at_call 111;have C:=he.out D.w;refine ZqD C ?_;clear C;rintro e w3 ⟨rfl,ha⟩;subst ha)|(go_at_call 112;have C:=J.out D.w;refine ZqD C ?_;clear C;rintro e w4 ⟨rfl,hb⟩))
   go_ret2
   exact ⟨by rw[HR.out];exact ⟨20,by decide,rfl⟩,((((Ext.refl w).alloc _).trans V).trans hc).trans hb⟩
  |some t=>
   have hk:=ZhA hsec;rw[hsec] at A hf;clear hsec;cases fb with
   |false=>
    have H:=Zbd hfr;have HR:Hid (∀e,TimeR S.data.toList e=∃x:Int,x≠0/\e= .returned (.tuple #[.int .i64 0,.int .i64 x])):=gd (λe=>by unfold TimeR;rw[H]);clear H A hfr Y hk;go_enter func63,ntmps63
    go_wp2_with (first|(go_at_call 109;have C:=U.out;refine ZqD C ?_;clear C;rintro e w1 ⟨⟨v,rfl,I⟩,V⟩;obtain ⟨g,cap,rfl,d0,d1,d2,d3,d4,d5⟩:=I.six;clear I))
    have z0:∀D:Aft w1,D.w.cell? ⟨g,0,none⟩=some (.int .i64 (y:Nat)):=Aft.cell d0;have z1:∀D:Aft w1,D.w.cell? ⟨g,1,none⟩=some (.int .i64 (m:Nat)):=Aft.cell d1;have z2:∀D:Aft w1,D.w.cell? ⟨g,2,none⟩=some (.int .i64 (d:Nat)):=Aft.cell d2;have z3:∀D:Aft w1,D.w.cell? ⟨g,3,none⟩=some (.int .i64 (h:Nat)):=Aft.cell d3;have z4:∀D:Aft w1,D.w.cell? ⟨g,4,none⟩=some (.int .i64 (mi:Nat)):=Aft.cell d4;have z5:∀D:Aft w1,D.w.cell? ⟨g,5,none⟩=some (.int .i64 (s:Nat)):=Aft.cell d5;clear d0 d1 d2 d3 d4 d5;refine rA ?_
    repeat (quiet_step ((go_at_call 110;with_reducible exact ZX (hf.out _))))
    refine Zru ?_;rintro _ ⟨D,rfl⟩;have hc:=D.ext;clear z0 z1 z2 z3 z4 z5
    go_wp2_with (first|(go_at_call 111;have C:=he.out D.w;refine ZqD C ?_;clear C;rintro e w3 ⟨rfl,ha⟩;subst ha)|(go_at_call 112;have C:=J.out D.w;refine ZqD C ?_;clear C;rintro e w4 ⟨rfl,hb⟩))
    go_ret2
    exact ⟨by rw[HR.out];exact ⟨20,by decide,rfl⟩,((((Ext.refl w).alloc _).trans V).trans hc).trans hb⟩
   |true=>
    rw[ZqN rfl] at hfr;have H:=KM A hfr;cases ob with
    |false=>
     rw[ZqH (by decide)] at Y;rw[Y] at H;have HR:Hid (∀e,TimeR S.data.toList e=∃x:Int,x≠0/\e= .returned (.tuple #[.int .i64 0,.int .i64 x])):=gd (λe=>by unfold TimeR;rw[H]);clear H A hfr Y hk;go_enter func63,ntmps63
     go_wp2_with (first|(go_at_call 109;have C:=U.out;refine ZqD C ?_;clear C;rintro e w1 ⟨⟨v,rfl,I⟩,V⟩;obtain ⟨g,cap,rfl,d0,d1,d2,d3,d4,d5⟩:=I.six;clear I))
     have z0:∀D:Aft w1,D.w.cell? ⟨g,0,none⟩=some (.int .i64 (y:Nat)):=Aft.cell d0;have z1:∀D:Aft w1,D.w.cell? ⟨g,1,none⟩=some (.int .i64 (m:Nat)):=Aft.cell d1;have z2:∀D:Aft w1,D.w.cell? ⟨g,2,none⟩=some (.int .i64 (d:Nat)):=Aft.cell d2;have z3:∀D:Aft w1,D.w.cell? ⟨g,3,none⟩=some (.int .i64 (h:Nat)):=Aft.cell d3;have z4:∀D:Aft w1,D.w.cell? ⟨g,4,none⟩=some (.int .i64 (mi:Nat)):=Aft.cell d4;have z5:∀D:Aft w1,D.w.cell? ⟨g,5,none⟩=some (.int .i64 (s:Nat)):=Aft.cell d5;clear d0 d1 d2 d3 d4 d5;refine rA ?_
     repeat (quiet_step ((go_at_call 110;with_reducible exact ZX (hf.out _))))
     refine Zru ?_;rintro _ ⟨D,rfl⟩;have hc:=D.ext;clear z0 z1 z2 z3 z4 z5
     go_wp2_with (first|(go_at_call 111;have C:=he.out D.w;refine ZqD C ?_;clear C;rintro e w3 ⟨rfl,ha⟩;subst ha)|(go_at_call 112;have C:=J.out D.w;refine ZqD C ?_;clear C;rintro e w4 ⟨rfl,hb⟩))
     go_ret2
     exact ⟨by rw[HR.out];exact ⟨20,by decide,rfl⟩,((((Ext.refl w).alloc _).trans V).trans hc).trans hb⟩
    |true=>
     rw[ZqN rfl] at Y;have hB:=Zfl Y;rw[Y] at H;simp only at H;have hw:wrap64 (t - O)=t - O:=Z9 _ ⟨om,om⟩;cases hT:inT (t - O) with
     |true=>
      rw[hT,ZqN rfl] at H;have HR:Hid (∀e,TimeR S.data.toList e=(e= .returned (.tuple #[.int .i64 (t - O),.int .i64 0]))):=gd (λe=>by unfold TimeR;rw[H]);have hr: -62135596800<=t - O/\t - O<=253402300799:=(by simpa [inT] using hT);obtain ⟨X,hX⟩:∃X,t - O=X:=⟨_,rfl⟩;rw[hX] at hr HR hw;have q1:¬X< -62135596800:=om;have q2:¬253402300799<X:=om;clear H A hfr Y hk hB hT hr;go_enter func63,ntmps63
      go_wp2_with (first|(go_at_call 109;have C:=U.out;refine ZqD C ?_;clear C;rintro e w1 ⟨⟨v,rfl,I⟩,V⟩;obtain ⟨g,cap,rfl,d0,d1,d2,d3,d4,d5⟩:=I.six;clear I))
      have z0:∀D:Aft w1,D.w.cell? ⟨g,0,none⟩=some (.int .i64 (y:Nat)):=Aft.cell d0;have z1:∀D:Aft w1,D.w.cell? ⟨g,1,none⟩=some (.int .i64 (m:Nat)):=Aft.cell d1;have z2:∀D:Aft w1,D.w.cell? ⟨g,2,none⟩=some (.int .i64 (d:Nat)):=Aft.cell d2;have z3:∀D:Aft w1,D.w.cell? ⟨g,3,none⟩=some (.int .i64 (h:Nat)):=Aft.cell d3;have z4:∀D:Aft w1,D.w.cell? ⟨g,4,none⟩=some (.int .i64 (mi:Nat)):=Aft.cell d4;have z5:∀D:Aft w1,D.w.cell? ⟨g,5,none⟩=some (.int .i64 (s:Nat)):=Aft.cell d5;clear d0 d1 d2 d3 d4 d5;refine rA ?_
      repeat (quiet_step ((go_at_call 110;with_reducible exact ZX (hf.out _))))
      refine Zru ?_;rintro _ ⟨D,rfl⟩;have hc:=D.ext;clear z0 z1 z2 z3 z4 z5
      go_wp2_with (first|(go_at_call 111;have C:=he.out D.w;refine ZqD C ?_;clear C;rintro e w3 ⟨rfl,ha⟩;subst ha)|(go_at_call 112;have C:=J.out D.w;refine ZqD C ?_;clear C;rintro e w4 ⟨rfl,hb⟩))
      go_ret2
      exact ⟨by rw[HR.out];rfl,((((Ext.refl w).alloc _).trans V).trans hc).trans hb⟩
     |false=>
      rw[hT,ZqH (by decide)] at H;have HR:Hid (∀e,TimeR S.data.toList e=∃x:Int,x≠0/\e= .returned (.tuple #[.int .i64 0,.int .i64 x])):=gd (λe=>by unfold TimeR;rw[H]);have hr:t - O< -62135596800\/(¬t - O< -62135596800/\253402300799<t - O):=(by have:¬(-62135596800<=t - O/\t - O<=253402300799):=λh=>(by rw[show inT (t - O)=true by simpa [inT] using h] at hT;cases hT);omega);obtain ⟨X,hX⟩:∃X,t - O=X:=⟨_,rfl⟩;rw[hX] at hr hw;clear H A hfr Y hk hB hT;rcases hr with q1|⟨q1,q2⟩
      all_goals
       go_enter func63,ntmps63
       go_wp2_with (first|(go_at_call 109;have C:=U.out;refine ZqD C ?_;clear C;rintro e w1 ⟨⟨v,rfl,I⟩,V⟩;obtain ⟨g,cap,rfl,d0,d1,d2,d3,d4,d5⟩:=I.six;clear I))
       have z0:∀D:Aft w1,D.w.cell? ⟨g,0,none⟩=some (.int .i64 (y:Nat)):=Aft.cell d0
       have z1:∀D:Aft w1,D.w.cell? ⟨g,1,none⟩=some (.int .i64 (m:Nat)):=Aft.cell d1
       have z2:∀D:Aft w1,D.w.cell? ⟨g,2,none⟩=some (.int .i64 (d:Nat)):=Aft.cell d2
       have z3:∀D:Aft w1,D.w.cell? ⟨g,3,none⟩=some (.int .i64 (h:Nat)):=Aft.cell d3
       have z4:∀D:Aft w1,D.w.cell? ⟨g,4,none⟩=some (.int .i64 (mi:Nat)):=Aft.cell d4
       have z5:∀D:Aft w1,D.w.cell? ⟨g,5,none⟩=some (.int .i64 (s:Nat)):=Aft.cell d5
       clear d0 d1 d2 d3 d4 d5
       refine rA ?_
       repeat (quiet_step ((go_at_call 110;with_reducible exact ZX (hf.out _))))
       refine Zru ?_
       rintro _ ⟨D,rfl⟩
       have hc:=D.ext
       clear z0 z1 z2 z3 z4 z5
       go_wp2_with (first|(go_at_call 111;have C:=he.out D.w;refine ZqD C ?_;clear C;rintro e w3 ⟨rfl,ha⟩;subst ha)|(go_at_call 112;have C:=J.out D.w;refine ZqD C ?_;clear C;rintro e w4 ⟨rfl,hb⟩))
       go_ret2
       exact ⟨by rw[HR.out];exact ⟨3,by decide,rfl⟩,((((Ext.refl w).alloc _).trans V).trans hc).trans hb⟩
end
abbrev Bar (b:Nat) (w w':World):Prop:=w.grownBy w' (some b)
theorem Bar.refl (b:Nat) (w:World):Bar b w w:=(Ext.refl w).grown _
theorem Bar.trans {b:Nat} {u v w:World} (h:Bar b u v) (k:Bar b v w):Bar b u w:=
 ⟨k.os.trans h.os,k.tape.trans h.tape,k.output.trans h.output,ZqM h.size k.size,λi A C=>(k.block i (Zrx A h.size) C).trans (h.block i A C)⟩
theorem Bar.of {b:Nat} {u v:World} (h:Ext u v):Bar b u v:=h.grown _
theorem Bar.ext {b:Nat} {u v w:World} (h:Ext u v) (k:Bar b v w) (A:u.heap.size<=b):Ext u w:=
 Below.grown h k h.size λi C=>by cases C;exact A
theorem Bar.heap {b k:Nat} {u v:World} {o:Obj} (h:Bar b u v) (A:u.heap[k]? =some o) (C:k≠b):v.heap[k]? =some o:=
 (h.block k (Zrg.1 A).1 (by simpa using C)).trans A
theorem Bar.setCell (w:World) (p:Addr) (u:Value):Bar p.block w (w.setCell p u):=by
 refine ⟨rfl,rfl,rfl,by simp[World.setCell],λk A h=> ?_⟩;rw[Below.heap_setCell _ _ _ _ (λe=>h (by rw[e]))]
theorem IV {w w':World} {B size n b:Nat} {e T:TypeId} {v:Value} {xs:List Value} {cs:Array Value} {fr:Nat×Nat} (h:w.ownsRow B e size v n xs) (C:Bar b w w') (A:w.heap[b]? =some (.cells cs T fr)) (J:e≠T):w'.ownsRow B e size v n xs:=by
 refine h.kept (row:=some b) C ?_;rcases h.2 with ⟨rfl,_⟩|⟨g',cap,H,rfl,_,D,_⟩
 ·exact Or.inl rfl
 ·refine Or.inr λI=> ?_;have F:g'=b:=by simp[Value.ownBlock] at I;omega
  subst F;rw[D] at A;injection A with A;injection A with _ A;exact J A
section
set_option linter.unusedSimpArgs false
theorem ZlW {w:World} {b:Nat} {v0 v1 v2 v3 u a0 A a2 a3:Value} {T:TypeId} (h:w.heap[b]? =some (.cells #[v0,v1,v2,v3,u] T (0,0))):(w.setCells b 0 [a0,A,a2,a3]).heap[b]? =some (.cells #[a0,A,a2,a3,u] T (0,0)):=by
 have C:(w.setCell ⟨b,0,none⟩ a0).heap[b]? =some (.cells #[a0,v1,v2,v3,u] T (0,0)):=Zrh _ _ _ _ _ _ h;have D:((w.setCell ⟨b,0,none⟩ a0).setCell ⟨b,1,none⟩ A).heap[b]? =some (.cells #[a0,A,v2,v3,u] T (0,0)):=Zrh _ _ _ _ _ _ C;have F:(((w.setCell ⟨b,0,none⟩ a0).setCell ⟨b,1,none⟩ A).setCell ⟨b,2,none⟩ a2).heap[b]? =some (.cells #[a0,A,a2,v3,u] T (0,0)):=Zrh _ _ _ _ _ _ D;exact Zrh _ _ _ _ _ _ F
theorem ZhE (w:World) (b:Nat) (a0 h a2 a3:Value):Bar b w (w.setCells b 0 [a0,h,a2,a3]):=
 ((Bar.setCell w ⟨b,0,none⟩ a0).trans (Bar.setCell _ ⟨b,1,none⟩ h)).trans ((Bar.setCell _ ⟨b,2,none⟩ a2).trans (Bar.setCell _ ⟨b,3,none⟩ a3))
def ComR (n:Nd) (b:Nat) (u:Value) (T:TypeId) (e:Ending) (w':World):Prop:=match comA n with
 | .error p=>e= .returned (.tuple #[.int .i64 (p.1:Nat),.int .i64 (p.2:Nat)])
 | .ok t=>e= .returned (.tuple #[.int .i64 0,.int .i64 0])/\w'.heap[b]? =some (.cells #[.string (str (txtOf idL n)),.string (str (txtOf titleL n)),.string (str (linkN n)),.int .i64 t,u] T (0,0))
def dstR:Nat->Nat|2=>12|3=>13|5=>15|6=>16|8=>18|_=>19
def depR:Nat->List Nat|3=> [2]|6=> [5]|9=> [3,6,8]|_=> []
def FR (x:Nc) (b:Nat) (i:Nat) (v:Value) (w:World):Prop:=match i with
 |2=>∃zb,v= .slice (some ⟨zb,0,none⟩) 1 1/\RSl w 1 v 1 (strsA [idL])
 |3=>v= .string (str (txtOf idL x.nd))
 |5=>∃zb,v= .slice (some ⟨zb,0,none⟩) 1 1/\RSl w 1 v 1 (strsA [titleL])
 |6=>v= .string (str (txtOf titleL x.nd))
 |8=>v= .string (str (linkN x.nd))
 |_=>v= .agg #[.string (str (txtOf idL x.nd)),.string (str (txtOf titleL x.nd)),.string (str (linkN x.nd)),.int .i64 (-62135596800)]
theorem Zpp {x:Nc} {b:Nat}:∀(i:Nat) (v:Value) (w w':World),FR x b i v w->Ext w w'->FR x b i v w':=by
 intro i v w w' h D;unfold FR at*;split at h
 ·obtain ⟨zb,A,C⟩:=h;exact ⟨zb,A,RSl.ext C D⟩
 ·exact h
 ·obtain ⟨zb,A,C⟩:=h;exact ⟨zb,A,RSl.ext C D⟩
 all_goals exact h
theorem ZhF:(prog.info? 63).map (λi=>i.size)=some 4:=by kernel_rfl
theorem ZnM {a b c:ByteArray} {t:Int}:(#[Value.string a,.string b,.string c,.int .i64 t]).all (λu=>u.oneCell')=true:=by simp[Value.oneCell']
theorem ZaE {N M Bd:Nat} (hN:N<=4000000) (hM:M<=1000000) (h0:Bd<=16777216) (x:Nc) (b:Nat) (T:TypeId) (v0 v1 v2 v3 u:Value) (z w:World) (hz:Ext z w) (gb:z.heap.size<=b) (h:NcOk z N M x) (hL:comOk N M Bd x.nd)
 (hb:w.heap[b]? =some (.cells #[v0,v1,v2,v3,u] T (0,0))):
 Calls prog 27 #[.pointer (some ⟨b,0,none⟩),.agg (cellsN x).toArray] w λe w'=>ComR x.nd b u T e w'/\Bar b w w':=by
 have J:b<w.heap.size:=(Zrg.1 hb).1;have h6:(str (txtOf idL x.nd)).size<=16777216:=by rw[Zo];exact ZqM (hL.txtOf (by decide)) h0
 have ho:=gd (λ(v:Value) (Q:List (List UInt8)) (w':World) (U:Ext z w') (hv:RSl w' 1 v Q.length (strsA Q)) (gw:Q.length<=1000)=>ZaF hN hM x v Q w' (h.ext U) hv gw);have hC:=gd (λ(w':World) (U:Ext z w')=>Zny hN x w' (h.ext U));have ha:=λ(w':World) (U:Ext z w')=>Zaj hN x atomL updatedL w' (h.ext U);simp only[Xo,Ek] at ha;have gl:=gd (λ(y:Nc) (w':World) (hy:NcOk w' N M y)=>IU N hN y w' hy.fd hy.rd (hy.txt hN hM));have gg:=gd (λ(y:Nd) (hy:y∈kidsE atomL updatedL x.nd)=>(show (str y.txt).size<=16777216 by
  obtain ⟨k1,k2,k3⟩:=Ji hy;rw[Zo];exact ZqM (hL.fl y k1 k2 (by rw[k3];decide)) h0))
 obtain ⟨A,n,c,B,m,d,h5, -, -⟩:=ZR x (RdN.sl h.rd);rw[h5] at ho hC ha|-;have gi:=gd ha;obtain ⟨W0,h3⟩:∃W0,w.alloc (.cells #[.int .i64 (x.kind:Nat),.string (str x.space),.string (str x.name),.slice A n c,.slice B m d,.string (str x.text),.int .i64 (x.at_:Nat)] 25)=W0:=⟨_,rfl⟩;have hR:Ext w W0:=by rw[<-h3];exact (Ext.refl w).alloc _
 have Z:BxN W0 w.heap.size x.kind x.space x.name (.slice A n c) (.slice B m d) x.text x.at_:=by rw[<-h3];exact ZqJ w _
 have hE:=gd hR;have he:=gd Z;have hW:=gd (hR.heap hb);have ge:=gd J;have HZ:=gd hz;have gn:=gd gb;have gh:=gd h6;clear h5 h hR Z hb hz gb h6 ha J hL;go_enter func27,ntmps27;go_wp2;refine rN ?_;change wpAny _ _ _ _ _ _ _ (World.drew _);have Y:=(Ext.refl W0).drew;refine Yn (i:=0) (v:= .pointer (some ⟨b,0,none⟩)) (λw'=>Ext W0 w') 11 rfl (by kernel_rfl) (λ_ _ _ h=>h) (Or.inl ⟨by rfl,λw' hS=>by go_simp⟩) Y ?_;refine tT 1 (.agg #[.int .i64 (x.kind:Nat),.string (str x.space),.string (str x.name),.slice A n c,.slice B m d,.string (str x.text),.int .i64 (x.at_:Nat)]) rfl (λw' hS=>by obtain ⟨q0,q1,q2,q3,q4,q5,q6⟩:=(he.out.ext hS).cells;go_simp) Y ?_;refine tT 4 (.agg #[.int .i64 (x.kind:Nat),.string (str x.space),.string (str x.name),.slice A n c,.slice B m d,.string (str x.text),.int .i64 (x.at_:Nat)]) rfl (λw' hS=>by obtain ⟨q0,q1,q2,q3,q4,q5,q6⟩:=(he.out.ext hS).cells;go_simp) Y ?_;refine tT 7 (.agg #[.int .i64 (x.kind:Nat),.string (str x.space),.string (str x.name),.slice A n c,.slice B m d,.string (str x.text),.int .i64 (x.at_:Nat)]) rfl (λw' hS=>by obtain ⟨q0,q1,q2,q3,q4,q5,q6⟩:=(he.out.ext hS).cells;go_simp) Y ?_;go_simp;refine QG (m:=2) (f:=6) rfl #[true,true,true,true,true,true,true,true,true,true,false,false] (λa0 a' w'=>∃(x1 x2:Value),a'=((((((a0.put (some 12) x1).put (some 13) (.string (str (txtOf idL x.nd)))).put (some 15) x2).put (some 16) (.string (str (txtOf titleL x.nd)))).put (some 18) (.string (str (linkN x.nd))))).put (some 19) (.agg #[.string (str (txtOf idL x.nd)),.string (str (txtOf titleL x.nd)),.string (str (linkN x.nd)),.int .i64 (-62135596800)])/\Ext W0 w') ?_ ?_
 ·refine Jy [2,3,5,6,8,9] dstR depR (FR x b) rfl (by kernel_rfl) (by decide) (by decide) (by kernel_rfl) (by decide) (by kernel_rfl) (λi _=>Zpp i) (λw' U=>Y.trans U) ?_ ?_
  ·intro i hi A1 w' vs U D C;have hH:=gd (HZ.out.trans (hE.out.trans (Y.trans U)));simp only[Zq1,Zri,ZrD] at hi;rcases hi with rfl|rfl|rfl|rfl|rfl|rfl
   ·clear D C U;refine Jq rfl rfl (λK hK=> ?_);go_simp;exact hK _ _ ((Ext.refl w').alloc _) ⟨_,rfl,Zj (w:=w') (n:=1) (cs:=strsA [idL]) rfl (by decide)⟩
   ·have e1:A1.tmps[11]?.getD undef= .agg #[.int .i64 (x.kind:Nat),.string (str x.space),.string (str x.name),.slice A n c,.slice B m d,.string (str x.text),.int .i64 (x.at_:Nat)]:=YM ((D 11 (by decide)).trans rfl);obtain ⟨e2,zb,e0,O⟩:=C 2 (by simp[depR]);have e2:A1.tmps[12]?.getD undef=vs 2:=YM e2;rw[e0] at e2 O;clear D C U;refine Jq rfl rfl (λK hK=> ?_);go_simp;go_at_call 29;refine ZqD (ho.out _ [idL] w' hH.out O (by decide)) ?_;rintro e V ⟨rfl,hv⟩;rw[E1];exact hK _ _ hv rfl
   ·clear D C U;refine Jq rfl rfl (λK hK=> ?_);go_simp;exact hK _ _ ((Ext.refl w').alloc _) ⟨_,rfl,Zj (w:=w') (n:=1) (cs:=strsA [titleL]) rfl (by decide)⟩
   ·have e1:A1.tmps[14]?.getD undef= .agg #[.int .i64 (x.kind:Nat),.string (str x.space),.string (str x.name),.slice A n c,.slice B m d,.string (str x.text),.int .i64 (x.at_:Nat)]:=YM ((D 14 (by decide)).trans rfl);obtain ⟨e2,zb,e0,O⟩:=C 5 (by simp[depR]);have e2:A1.tmps[15]?.getD undef=vs 5:=YM e2;rw[e0] at e2 O;clear D C U;refine Jq rfl rfl (λK hK=> ?_);go_simp;go_at_call 29;refine ZqD (ho.out _ [titleL] w' hH.out O (by decide)) ?_;rintro e V ⟨rfl,hv⟩;rw[E1];exact hK _ _ hv rfl
   ·have e1:A1.tmps[17]?.getD undef= .agg #[.int .i64 (x.kind:Nat),.string (str x.space),.string (str x.name),.slice A n c,.slice B m d,.string (str x.text),.int .i64 (x.at_:Nat)]:=YM ((D 17 (by decide)).trans rfl);clear D C U;refine Jq rfl rfl (λK hK=> ?_);go_simp;go_at_call 61;refine ZqD (hC.out w' hH.out) ?_;rintro e V ⟨rfl,hv⟩;exact hK _ _ hv rfl
   ·obtain ⟨e1,f1⟩:=C 3 (by simp[depR]);obtain ⟨e2,f2⟩:=C 6 (by simp[depR]);obtain ⟨e3,f3⟩:=C 8 (by simp[depR]);have e1:A1.tmps[13]?.getD undef=vs 3:=YM e1;have e2:A1.tmps[16]?.getD undef=vs 6:=YM e2;have e3:A1.tmps[18]?.getD undef=vs 8:=YM e3;have gr:vs 3= .string (str (txtOf idL x.nd)):=f1;have gs:vs 6= .string (str (txtOf titleL x.nd)):=f2;have gt:vs 8= .string (str (linkN x.nd)):=f3;rw[gr] at e1;rw[gs] at e2;rw[gt] at e3;clear D C U f1 f2 f3;refine Jq rfl rfl (λK hK=> ?_);go_simp;exact hK _ _ (Ext.refl _) rfl
  ·intro vs w' U hf;have e3':vs 3= .string (str (txtOf idL x.nd)):=hf 3 (by decide);have go:vs 6= .string (str (txtOf titleL x.nd)):=hf 6 (by decide);have gp:vs 8= .string (str (linkN x.nd)):=hf 8 (by decide);have gq:vs 9= .agg #[.string (str (txtOf idL x.nd)),.string (str (txtOf titleL x.nd)),.string (str (linkN x.nd)),.int .i64 (-62135596800)]:=hf 9 (by decide);exact ⟨by kernel_rfl,vs 2,vs 5,by rw[<-gq,<-e3',<-go,<-gp];kernel_rfl,Y.trans U⟩
 rintro a' w3 ⟨x1,x2,rfl,I⟩;have hs:=I.heap hW.out;refine Xk (i:=10) rfl (by kernel_rfl) (λK hK=> ?_);go_simp;refine hK _ _ (λ_=>I) ?_;clear hK K;refine Xk (i:=11) rfl (by kernel_rfl) (λK hK=> ?_);refine ZdF rfl 63 (.tmp 20) (.tmp 19) rfl b 0 #[.string (str (txtOf idL x.nd)),.string (str (txtOf titleL x.nd)),.string (str (linkN x.nd)),.int .i64 (-62135596800)] rfl rfl ZhF (λj hj=>(by rw[Zrc hs];match j,hj with|0,_=>rfl|1,_=>rfl|2,_=>rfl|3,_=>rfl)) (λj=>Zrk hs j) ZnM ?_;refine hK _ _ (λh=>absurd (show true=false from h) (by decide)) ?_;clear hK K;refine KP (by kernel_rfl) ?_;have hm:Hid ((w3.setCells b 0 [.string (str (txtOf idL x.nd)),.string (str (txtOf titleL x.nd)),.string (str (linkN x.nd)),.int .i64 (-62135596800)]).heap[b]? =some (.cells #[.string (str (txtOf idL x.nd)),.string (str (txtOf titleL x.nd)),.string (str (linkN x.nd)),.int .i64 (-62135596800),u] T (0,0))):=gd (ZlW hs);have hc:Hid (Bar b w (w3.setCells b 0 [.string (str (txtOf idL x.nd)),.string (str (txtOf titleL x.nd)),.string (str (linkN x.nd)),.int .i64 (-62135596800)])):=gd ((Bar.of (hE.out.trans I)).trans (ZhE _ _ _ _ _ _));have hO:w.heap.size≠b:=by have:=ge.out;omega
 have R:Hid (BxN (w3.setCells b 0 [.string (str (txtOf idL x.nd)),.string (str (txtOf titleL x.nd)),.string (str (linkN x.nd)),.int .i64 (-62135596800)]) w.heap.size x.kind x.space x.name (.slice A n c) (.slice B m d) x.text x.at_):=gd (Bar.heap (ZhE _ _ _ _ _ _) (he.out.ext I) hO);obtain ⟨W1,h4⟩:∃W1,w3.setCells b 0 [.string (str (txtOf idL x.nd)),.string (str (txtOf titleL x.nd)),.string (str (linkN x.nd)),.int .i64 (-62135596800)]=W1:=⟨_,rfl⟩;rw[h4] at hm hc R;have gm:=gd (Bar.ext HZ.out hc.out gn.out);have gA:=gd hO;have k0:=ZqI _ _ 0 _ _ _ hm.out;obtain ⟨g0,g1,g2,g3,g4,g5,g6⟩:=R.out.cells;have F:=Jr (str (txtOf idL x.nd)) W1 (ZqM gh.out (by decide));unfold collapse at F;rw[Zg] at F;clear I hs hO Y hW he hE ho hC
 try rw[h4]
 by_cases J:coll (txtOf idL x.nd)= []
 ·have H:comA x.nd= .error (x.nd.at_,19):=by unfold comA;rw[ZqN J]
  have hI:x.nd.at_=x.at_:=by cases x;rw[Nc.nd];rfl
  rw[J] at F;have hn:=gd F;have gy:=Xh;clear J F
  go_wp2_with (first|(go_at_call 62;refine ZqD hn.out ?_;rintro e w4 ⟨rfl,X⟩;obtain ⟨d0,d1,d2,d3,d4,d5,d6⟩:=(R.out.ext X).cells))
  go_ret2
  unfold ComR;rw[H,hI];exact ⟨rfl,hc.out.trans (Bar.of X)⟩
 ·have hn:=gd F;have gy:=JX J;have hA:=gd J;clear J F
  go_wp2_with (first|(go_at_call 28;have hz:=gi.out _ (gm.out.trans X);refine ZqD hz ?_;clear hz;rintro e w5 ⟨KA,kc,l,rfl,gu,h8⟩)|(go_at_call 62;refine ZqD hn.out ?_;rintro e w4 ⟨rfl,X⟩;obtain ⟨d0,d1,d2,d3,d4,d5,d6⟩:=(R.out.ext X).cells;have k1:=ZqI _ _ 0 _ _ _ (X.heap hm.out)))
  obtain ⟨O,hP,S,h7⟩:=gu;have hg:=X.trans h8;have hG:=gd hg;have hX:=gd (hg.heap hm.out);clear d0 d1 d2 d3 d4 d5 d6 g0 g1 g2 g3 g4 g5 g6 k0 k1 X h8 hg hn R h7;cases l with
  |nil=>
   have H:comA x.nd= .ok (-62135596800):=(by unfold comA;rw[ZqH hA.out,<-S];rfl);have hd:=gd H;clear O hP S H;go_loopw [32] (λu wr=>u= .int .i64 0/\wr=w5) (λu _=>0)
   case atStart=>exact ⟨rfl,rfl⟩
   case round=>
    obtain ⟨rfl,rfl⟩:=hrel;go_wp2
    go_ret2
    unfold ComR;rw[hd.out];exact ⟨⟨rfl,hX.out⟩,hc.out.trans (Bar.of hG.out)⟩
  |cons y l'=>
   have ga:=gg.out y.nd (by rw[<-S];exact Zq6);have H:comA x.nd=(match timeP (coll y.nd.txt) with|some t=> .ok t|none=> .error (y.nd.at_,20)):=(by unfold comA;rw[ZqH hA.out,<-S];rfl);have hd:=gd H;have gk:=gd O;have gj:=gd hP;have hp:=gd ga;clear O hP S H ga;go_loopw [32] (λu wr=>u= .int .i64 0/\wr=w5) (λu _=>0)
   case atStart=>exact ⟨rfl,rfl⟩
   case round=>
    obtain ⟨rfl,rfl⟩:=hrel;obtain ⟨gB,c',hQ,hI⟩:=gk.out.at (k:=0) (Nat.zero_lt_succ _);injection hQ with hv1 hQ hv3;subst hv1;clear hQ hv3;have hy:=gj.out y Zq6;have gx:0<(y::l').length:=(by rw[ZqK];omega);obtain ⟨ln,ht⟩:∃ln,(y::l').length=ln:=⟨_,rfl⟩;rw[ht] at gx;have gz:(0:Int)<(ln:Int):=om
    try rw[ht]
    have h9:y.nd.at_=y.at_:=(by cases y;rw[Nc.nd];rfl);obtain ⟨YA,ym,yc,YB,gc,yd,hV,hT,hU⟩:=ZR y (RdN.sl hy.rd);obtain ⟨a0,a1,a2,a3,a4,a5,a6⟩:=hI;simp only[Zsk,Zsl,add_zero] at a0 a1 a2 a3 a4 a5 a6;rw[hT] at a3;rw[hU] at a4;obtain ⟨W2,hr⟩:∃W2,wr.alloc (.cells #[.int .i64 (y.kind:Nat),.string (str y.space),.string (str y.name),.slice YA ym yc,.slice YB gc yd,.string (str y.text),.int .i64 (y.at_:Nat)] 25)=W2:=⟨_,rfl⟩;have I:Ext wr W2:=(by rw[<-hr];exact (Ext.refl wr).alloc _);have Z:BxN W2 wr.heap.size y.kind y.space y.name (.slice YA ym yc) (.slice YB gc yd) y.text y.at_:=(by rw[<-hr];exact ZqJ wr _);obtain ⟨c0,c1,c2,c3,c4,c5,c6⟩:=Z.cells;have hw:=gl.out y W2 (hy.ext I);rw[hV] at hw;have hZ:=gd hw;have hF:=gd I;have gf:=gd Z;have hu:(str (coll y.nd.txt)).size<=16777216:=(by have:=ZO (str y.nd.txt);unfold collapse at this;rw[Zg] at this;exact ZqM this hp.out);have hY:=gd (λ(w':World)=>(show Calls prog 62 #[.string (str y.nd.txt)] w' λe w2=>e= .returned (.string (str (coll y.nd.txt)))/\Ext w' w2 from by
     have h:=Jr (str y.nd.txt) w' (ZqM hp.out (by decide));unfold collapse at h;rw[Zg] at h;exact h))
    cases htp:timeP (coll y.nd.txt) with
    |none=>
     have hD:=gd (λ(w':World)=>(show Calls prog 63 #[.string (str (coll y.nd.txt))] w' λe w2=>(∃q:Int,q≠0/\e= .returned (.tuple #[.int .i64 0,.int .i64 q]))/\Ext w' w2 from ZqD (ZhV _ w' hu) λe w2 ⟨h1,h2⟩=>⟨by unfold TimeR at h1;rw[Zg,htp] at h1;exact h1,h2⟩));have hB:Hid (comA x.nd= .error (y.nd.at_,20)):=gd (by rw[hd.out,htp]);clear Z I hy hT hU hV hw ht htp hu hd hp
     go_wp2_with (first|(go_at_call 63;refine ZqD (hD.out _) ?_;rintro e w8 ⟨⟨q,hq,rfl⟩,hl⟩;obtain ⟨s0,s1,s2,s3,s4,s5,s6⟩:=(gf.out.ext ((hh.trans hk).trans hl)).cells)|(go_at_call 62;refine ZqD (hY.out _) ?_;rintro e w7 ⟨rfl,hk⟩)|(go_at_call 64;refine ZqD hZ.out ?_;rintro e w6 ⟨rfl,hh⟩)|(refine ZqF rfl 25 (.tmp 7) (.tmp 35) rfl wr.heap.size _ rfl rfl _ _ (ZqJ _ _) Ze rfl Zz ?_;rw[Zh];rw[hr]))
     go_ret2
     unfold ComR;rw[hB.out,h9];exact ⟨rfl,hc.out.trans (Bar.of ((hG.out.trans hF.out).trans ((hh.trans hk).trans hl)))⟩
    |some t=>
     have hD:=gd (λ(w':World)=>(show Calls prog 63 #[.string (str (coll y.nd.txt))] w' λe w2=>e= .returned (.tuple #[.int .i64 t,.int .i64 0])/\Ext w' w2 from ZqD (ZhV _ w' hu) λe w2 ⟨h1,h2⟩=>⟨by unfold TimeR at h1;rw[Zg,htp] at h1;exact h1,h2⟩));have hB:Hid (comA x.nd= .ok t):=gd (by rw[hd.out,htp]);clear Z I hy hT hU hV hw ht htp hu hd hp
     go_wp2_with (first|(go_at_call 63;refine ZqD (hD.out _) ?_;rintro e w8 ⟨rfl,hl⟩;have hJ:=(hF.out.trans ((hh.trans hk).trans hl)).heap hX.out;have k3:=ZqI _ _ 3 _ _ _ hJ;have k4:=Zrk hJ 3)|(go_at_call 62;refine ZqD (hY.out _) ?_;rintro e w7 ⟨rfl,hk⟩)|(go_at_call 64;refine ZqD hZ.out ?_;rintro e w6 ⟨rfl,hh⟩)|(refine ZqF rfl 25 (.tmp 7) (.tmp 35) rfl wr.heap.size _ rfl rfl _ _ (ZqJ _ _) Ze rfl Zz ?_;rw[Zh];rw[hr]))
     go_ret2
     unfold ComR;rw[hB.out];exact ⟨⟨rfl,Zrh _ _ _ _ _ _ hJ⟩,hc.out.trans ((Bar.of ((hG.out.trans hF.out).trans ((hh.trans hk).trans hl))).trans (Bar.setCell _ _ _))⟩
end
def laysSlF06_f119_ren:Go.Shelf.Ren:=⟨fun|6=>119|15=>158|14=>157|28=>192|29=>193|20=>184|21=>185|22=>186|23=>187|24=>188|25=>189|26=>190|27=>191|46=>207|47=>208|48=>209|49=>210|50=>211|57=>224|n=>n,fun|22=>30|24=>61|25=>95|3=>3|39=>223|0=>0|53=>254|55=>256|4=>4|46=>248|45=>247|50=>218|5=>5|9=>9|66=>270|70=>274|76=>292|77=>96|n=>n,fun|n=>n⟩
theorem laysSlF06_f119:Go.Proofs.SlLaysF0.n6 prog laysSlF06_f119_ren:={
 mixed:=by kernel_rfl
 f6:=⟨f119.name,by decide,func119.trans (ZqS some (by kernel_rfl))⟩
 f14:=⟨f157.name,by decide,func157.trans (ZqS some (by kernel_rfl))⟩
 f15:=func158.trans (ZqS some (by kernel_rfl))
 f20:=⟨f184.name,by decide,func184.trans (ZqS some (by kernel_rfl))⟩
 f21:=⟨f185.name,by decide,func185.trans (ZqS some (by kernel_rfl))⟩
 f22:=⟨f186.name,by decide,func186.trans (ZqS some (by kernel_rfl))⟩
 f23:=⟨f187.name,by decide,func187.trans (ZqS some (by kernel_rfl))⟩
 f24:=⟨f188.name,by decide,func188.trans (ZqS some (by kernel_rfl))⟩
 f25:=⟨f189.name,by decide,func189.trans (ZqS some (by kernel_rfl))⟩
 f26:=⟨f190.name,by decide,func190.trans (ZqS some (by kernel_rfl))⟩
 f27:=⟨f191.name,by decide,func191.trans (ZqS some (by kernel_rfl))⟩
 f28:=func192.trans (ZqS some (by kernel_rfl))
 f29:=func193.trans (ZqS some (by kernel_rfl))
 f46:=⟨f207.name,by decide,func207.trans (ZqS some (by kernel_rfl))⟩
 f47:=func208.trans (ZqS some (by kernel_rfl))
 f48:=func209.trans (ZqS some (by kernel_rfl))
 f49:=⟨f210.name,by decide,func210.trans (ZqS some (by kernel_rfl))⟩
 f50:=⟨f211.name,by decide,func211.trans (ZqS some (by kernel_rfl))⟩
 f57:=⟨f224.name,by decide,func224.trans (ZqS some (by kernel_rfl))⟩
 t0:=underlying0
 a0:=isAgg0
 z0:=sizeOf0
 v0:=zeroValue0
 t3:=underlying3
 a3:=isAgg3
 z3:=sizeOf3
 v3:=zeroValue3
 t4:=underlying4
 a4:=isAgg4
 z4:=sizeOf4
 v4:=zeroValue4
 t5:=underlying5
 a5:=isAgg5
 z5:=sizeOf5
 v5:=zeroValue5
 t9:=underlying9
 a9:=isAgg9
 z9:=sizeOf9
 v9:=zeroValue9
 t22:=underlying30
 a22:=isAgg30
 z22:=sizeOf30
 v22:=zeroValue30
 t25:=underlying95
 a25:=isAgg95
 z25:=sizeOf95
 v25:=zeroValue95
 t39:=underlying223
 a39:=isAgg223
 z39:=sizeOf223
 v39:=zeroValue223
 t45:=underlying247
 a45:=isAgg247
 z45:=sizeOf247
 v45:=zeroValue247
 t46:=underlying248
 a46:=isAgg248
 z46:=sizeOf248
 v46:=zeroValue248
 t50:=underlying218
 a50:=isAgg218
 z50:=sizeOf218
 v50:=zeroValue218
 t53:=underlying254
 a53:=isAgg254
 z53:=sizeOf254
 v53:=zeroValue254
 t55:=underlying256
 a55:=isAgg256
 z55:=sizeOf256
 v55:=zeroValue256
 t66:=underlying270
 a66:=isAgg270
 z66:=sizeOf270
 v66:=zeroValue270
 t70:=underlying274
 a70:=isAgg274
 z70:=sizeOf274
 v70:=zeroValue274
 t76:=underlying292
 a76:=isAgg292
 z76:=sizeOf292
 v76:=zeroValue292
 t77:=underlying96
 a77:=isAgg96
 z77:=sizeOf96
 v77:=zeroValue96}
open Go.RowKit Go.Lib Go.Sort in
theorem slices_SortFunc_f119 {α:Type} [Inhabited α] (k:Nat) (J:∀w,(isAgg 61).run prog w= .ok true w) (V:∀w,(Go.sizeOf 61).run prog w= .ok k w) (enc:α->List Value) (U:∀x,(enc x).length=k) (Q:∀x,∀v∈enc x,v.oneCell'=true) (F:α->α->Int) (S:SWO (ltOf F)) (g:Nat) (cb:Array Value) (h A cap:Nat) (d:Array α) (w:Wq) (O:∀args w,(callFunc g args).run prog w= .ok (.enter g args) w) (D:CmpLays prog g cb enc k F h A d.size w) (R:HoldsK enc k w h A d) (C:h<w.heap.size) (I:d.size<4611686018427387904):
 Calls prog 119 #[.slice (some ⟨h,A,none⟩) d.size cap,.func (.func g) #[] cb] w λe w'=>
  e= .returned (.tuple #[])/\∃H n os,PermIn 0 d.size d H/\SortedIn (ltOf F) 0 d.size H/\w'=sortWorldK enc k w h A n H os:=AnyQ.slices_SortFunc laysSlF06_f119 k J V enc U Q F S g cb h A cap d w O D R C I
open Go.RowKit Go.Lib Go.Sort in
theorem slices_SortFunc_none_f119 {α:Type} [Inhabited α] (p:Option Addr) (cap:Nat) (h:Value) (w:Wq):
 Calls prog 119 #[.slice p 0 cap,h] w λe w'=>e= .returned (.tuple #[])/\w'=w:=AnyF.slices_SortFunc_none laysSlF06_f119 p cap h w
section
theorem Zad {α:Type} (enc:α->List Value) (k:Nat) (h:∀x,(enc x).length=k):∀(l:List α),(l.map enc).flatten.length=l.length*k
 | []=>by simp
 |x::l=>by rw[Zq8,ZsB,ZqG,h,Zad enc k h l,ZqK,Nat.add_mul];omega
section
variable {α:Type} [Inhabited α] (enc:α→List Value) (k:Nat)
theorem ZjW:∀(l:List (List Value)) (i:Nat) (c:List Value) (j:Nat) (u:Value),(∀c∈l,c.length=k)->l[i]? =some c->c[j]? =some u->l.flatten[k*i+j]? =some u
 | [],i,c,j,u,_,h,_=>by simp at h
 |x::l,i,c,j,u,hl,hc,hu=>by
  have C:x.length=k:=hl x (by simp)
  cases i with
  |zero=>
   simp at hc
   subst hc
   have A:j<x.length:=(Zrw.mp hu).1
   simpa [List.getElem?_append,A] using (Zrw.mp hu).2
  |succ i=>
   have:=ZjW l i c j u (λc h=>hl c (by simp[h])) (by simpa using hc) hu
   simp only[ZsB]
   have e:k*(i+1)+j=x.length+(k*i+j):=(by rw[C,Nat.mul_succ];omega)
   rw[e,ZrP om]
   simpa using this
theorem Zgn (D:∀x,(enc x).length=k) (d:Array α) (t:Nat) (h:t<d.size*k):(d.toList.map enc).flatten[t]? =some ((flatK enc k d)[t]!):=by
 have A:0<k:=by
  rcases ZrX k with e|e
  ·rw[e] at h;omega
  ·exact e
 have C:t / k<d.size:=Nat.div_lt_of_lt_mul (by rw[Zst];exact h);have I:t % k<k:=Nat.mod_lt _ A;rw[get_flatK enc k d t h];have e1:(enc d[t / k]!)[t % k]? =some (enc d[t / k]!)[t % k]! :=by
  have F:t % k<(enc d[t / k]!).length:=by rw[D];exact I
  rw[getElem!_pos (enc d[t / k]!) (t % k) F,ZqL F]
 have e2:(d.toList.map enc)[t / k]? =some (enc d[t / k]!):=by rw[Zrq,ZqL (by simpa using C)];simp[getElem!_pos d (t / k) C]
 have:=ZjW k (d.toList.map enc) (t / k) _ (t % k) _ (by intro c H;obtain ⟨x,_,rfl⟩:=Zrr.1 H;exact D x) e2 e1
 rwa [Nat.div_add_mod] at this
theorem Zfc (C:∀x,(enc x).length=k) {w:World} {B:Nat} {e:TypeId} {g cap:Nat} {d:Array α} (h:w.ownsRow B e k (.slice (some ⟨g,0,none⟩) d.size cap) d.size (d.toList.map enc).flatten):HoldsK enc k w g 0 d:=by
 intro j A;rw[size_flatK] at A;rw[ZrH];exact ⟨by rw[h.cellAt j A,Zgn enc k C d j A];rfl,h.frozenAt j⟩
theorem Zhd (S:∀x,(enc x).length=k) {w:World} {B:Nat} {e:TypeId} {g cap m:Nat} {d A:Array α} {os:Array Obj} (h:w.ownsRow B e k (.slice (some ⟨g,0,none⟩) d.size cap) d.size (d.toList.map enc).flatten) (I:A.size=d.size):
 (sortWorldK enc k w g 0 m A os).ownsRow B e k (.slice (some ⟨g,0,none⟩) d.size cap) d.size (A.toList.map enc).flatten/\w.grownBy (sortWorldK enc k w g 0 m A os) (some g):=by
 rcases h.2 with ⟨H,_⟩|⟨g',X,O,H,Z,Y,F,Q,R,V⟩
 ·simp at H
 ·simp only[Value.slice.injEq,Zsm,Addr.mk.injEq,and_true,true_and] at H;obtain ⟨rfl,rfl⟩:=H;have D:g<w.heap.size:=(Zrg.1 Y).1;have ha:d.size*k<=cap*k:=Nat.mul_le_mul_right k F;have C:(sortWorldK enc k w g 0 m A os).heap[g]? =some (.cells (putCells id 0 (flatK enc k A) O) e):=by unfold sortWorldK putRowK putRow mapBlock grow;rw[Array.getElem?_append_left (by simpa [Sort.ahead] using D),Zr6,ZqN rfl];show Option.map _ (w.heap[g]?)=_;rw[Y];rfl
  refine ⟨⟨by rw[Zad enc k S];simp[I],.inr ⟨g,cap,_,rfl,Z,C,F,Q,by simpa [putCells] using R,?_⟩⟩,⟨rfl,rfl,rfl,size_sortWorldK_c enc k w g 0 m A os,λj hj U=> ?_⟩⟩
  ·apply List.ext_getElem?;intro t;rw[List.getElem?_take];by_cases J:t<d.size*k
   ·rw[ZqN J,Zgn enc k S A t (by rw[I];exact J)];rw[Array.getElem?_toList];unfold putCells;rw[Array.getElem?_mapIdx,Array.getElem?_eq_getElem om];simp[I,J]
   ·rw[ZqH J,List.getElem?_eq_none (by rw[Zad enc k S];simp[I];omega)]
  ·unfold sortWorldK putRowK putRow mapBlock grow;rw[Array.getElem?_append_left (by simpa [Sort.ahead] using hj),Zr6,ZqH (λe=>U (by rw[e]))];rfl
end
theorem Zp4 {α:Type} {c:α->α->Int} (h:IsCmp c):SWO (ltOf c) where
 irrefl x:=by unfold ltOf;rw[h.self];rfl
 trans x y z h1 h2:=by unfold ltOf at*;simp only[Zrd] at*;exact h.lt_trans x y z h1 h2
 ntrans x y z h1 h2:=by unfold ltOf at*;simp only[Zr0] at*;have:=h.trans z y x (by have:=h.anti y z;omega) (by have:=h.anti x y;omega);have:=h.anti x z;omega
instance:Inhabited Ent:=⟨zeroE⟩
theorem ZpG (w:World):(isAgg 61).run prog w= .ok true w:=by kernel_rfl
theorem Zqq (w:World):(Go.sizeOf 61).run prog w= .ok 5 w:=by kernel_rfl
theorem ZmO (args:Array Value) (w:World):(callFunc 86 args).run prog w= .ok (.enter 86 args) w:=enters_of func86 (by kernel_rfl) rfl args w
attribute [local go_sem ↓] Go.wp_at_zero Go.wp_at_succ
theorem GH (a b:Ent) (w:World):
 Calls prog 86 #[.agg (eCells a).toArray,.agg (eCells b).toArray] w λx w'=>x= .returned (.int .i64 (entCmp a b))/\∃q os,w'=grow (w.drewN q) os:=by
 obtain ⟨F,R,U,O,A⟩:=a;obtain ⟨H,S,V,Q,C⟩:=b;unfold entCmp;obtain ⟨ci,I⟩:∃ci,iCmp C A=ci:=⟨_,rfl⟩;obtain ⟨cs,J⟩:∃cs,sCmp F H=cs:=⟨_,rfl⟩;simp only[I,J];have X:=gd (λw'=>Kh C A w');have Z:=gd (λw'=>ZbW F H w');rw[J] at Z;rw[show (if C<A then (-1:Int) else if A<C then 1 else 0)=ci from I] at X;have Y:=gd (λv w' h=>ZdU ci cs v w' h);obtain ⟨res,D⟩:∃res,(if ci=0 then cs else ci)=res:=⟨_,rfl⟩;rw[D] at Y;rw[D];clear I J D;unfold eCells;go_enter func86,ntmps86;go_wp2
 go_region_held3 (λw'=>Ext w w'/\w'.cell? ⟨w.heap.size,0,none⟩=some (.string F)/\w'.cell? ⟨w.heap.size,4,none⟩=some (.int .i64 A)/\w'.cell? ⟨w.heap.size+1,0,none⟩=some (.string H)/\w'.cell? ⟨w.heap.size+1,4,none⟩=some (.int .i64 C))
  ((go_split_ands;refine ⟨?_,?_,?_,?_,?_⟩<;>first|assumption|((repeat (first|exact Ext.refl _|assumption|apply Ext.drew|apply Ext.alloc));done)|((refine Ext.trans ?_ (by assumption));(repeat (first|exact Ext.refl _|assumption|apply Ext.drew|apply Ext.alloc));done)|((refine Ext.cell (by assumption) ?_);first|assumption|(go_keep;done))|(go_keep;done)))
  (first|(go_at_call 128;refine (X.out _).mono ?_;rintro e w1 ⟨rfl,rfl⟩)|(go_at_call 129;refine (Z.out _).mono ?_;rintro e w2 ⟨rfl,rfl⟩)|(go_at_call 127;refine (Y.out _ _ (Yr (e:=3) (fr:=(0,0)) (cs:= [.int .i64 ci,.int .i64 cs]) ?hg (by rfl) (by decide))).mono ?_;(case hg=>exact Z5 w _ _ _);rintro e w3 ⟨rfl,rfl⟩))
 go_wp2;go_ret;exact ⟨rfl,1,_,by rw[alloc_eq_grow,alloc_eq_grow,alloc_eq_grow,grow_grow,grow_grow];rfl⟩
theorem Zl2 (v:Value) (l:List Ent) (w:World) (B:Nat) (h:OEnts w B v l) (hn:l.length<=1000000):
 Calls prog 119 #[v,.func (.func 86) #[] #[]] w λe w'=>e= .returned (.tuple #[])/\
  ∃l':List Ent,l'.Perm l/\l'.Pairwise (λa b=>ordE.lt b a=false)/\OEnts w' B v l'/\w.grownBy w' v.ownBlock:=by
 rcases ZrX l.length with H|H
 ·have J:l= []:=ZqX H;subst J;obtain ⟨A,c,rfl,_,_⟩:=h.reads.form;refine (slices_SortFunc_none_f119 (α:=Ent) A c _ w).mono ?_;rintro e w' ⟨rfl,rfl⟩;exact ⟨rfl,[],List.Perm.refl _,List.Pairwise.nil,h,World.grownBy.refl _ _⟩
 ·obtain ⟨g,cap,rfl,hb,Y⟩:=World.ownsRow.form h H;have O:w.ownsRow B 61 5 (.slice (some ⟨g,0,none⟩) l.toArray.size cap) l.toArray.size (l.toArray.toList.map eCells).flatten:=by simpa [OEnts,flatE] using h
  have V:=slices_SortFunc_f119 5 ZpG Zqq eCells (λ_=>rfl) (λx=>Zr x) entCmp (Zp4 QQ) 86 #[] g 0 cap l.toArray w ZmO
   (λm os dk X x y=>GH x y _) (Zfc eCells 5 (λ_=>rfl) O) Y (by simp;omega)
  refine V.mono ?_;rintro e w' ⟨rfl,D,n,os,U,hs,rfl⟩;have F:D.size=l.toArray.size:=U.1;have S:=Zhd eCells 5 (λ_=>rfl) (m:=n) (os:=os) O F;have C:D.toList.Perm l:=by
   have:=U.2.2;have J:l.length=D.toList.length:=(by simpa using F.symm);simp at this
   rwa [J,Zq4 (ZqE _)] at this
  refine ⟨rfl,D.toList,C,?_,?_,S.2⟩
  ·rw[Zsd];intro i j Z R I;have Q:=hs i j (ZqO _) I (by rw[<-F];simpa using R);rw[getElem!_pos D j (by simpa using R),getElem!_pos D i (by simpa using Z)] at Q;simpa [ltOf,ordE,ltE] using Q
  ·unfold OEnts;have e1:D.toList.length=l.length:=C.length_eq;rw[e1];have:=S.1;simpa [flatE] using this
end
theorem ZnZ:prog.underlying 30=some (.slice (prog.elem 30)):=by kernel_rfl
theorem Zo9 (w:World):(Go.sizeOf (prog.elem 30)).run prog w= .ok 5 w:=by kernel_rfl
theorem Zqr {w:World} {A:Option Addr} {c:Nat} {x:Ent} {t:List Ent} (h:REnts w (.slice A (t.length+1) c) (x::t)):
 ∃J,(∀F:World,(Instr.slice 30 (.slice A (t.length+1) c) (some (.int .i64 1)) none none).run prog F= .ok J F)/\REnts w J t:=by
 refine ⟨sliced A 1 (t.length+1) c 5,λF=> ?_,?_⟩
 ·rw[run_slice_l (P:=prog) (w:=F) 30 A (t.length+1) c ZnZ .i64 1 om om];rw[Zo9];rfl
 ·obtain ⟨Q,Z,c',e,R,I,S,U⟩:=h;injection e with e1 e2 e3;subst e1 e3;clear e2;have X:(flatE t).length=t.length*5:=by have:(flatE (x::t)).length=(t.length+1)*5:=(by simpa using Q);have e:flatE (x::t)=eCells x++flatE t:=(by unfold flatE;simp);rw[e,ZqG] at this;have e5:(eCells x).length=5:=rfl;omega
  refine ⟨X,?_⟩;have C:∀j u,(flatE t)[j]? =some u->∃ad,A=some ad/\w.cell? (ad.add (5+j))=some u:=by intro j u D;refine U (5+j) u ?_;have e:flatE (x::t)=eCells x++flatE t:=(by unfold flatE;simp);rw[e,ZrP (by show 5<=5+j;omega)];simpa [eCells] using D
  unfold sliced;have hn:t.length+1<=c:=by simpa using R
  by_cases V:c=1
  ·have Y:t= []:=ZqX om;subst Y;exact ⟨_,_,rfl,by simp,ZqM (ZsV _ _) I,λ_=>by omega,λj u D=>by simp[flatE] at D⟩
  ·cases A with
   |none=>have:=S rfl;omega
   |some ad=>refine ⟨some (ad.add 5),c - 1,by rw[ZqH V];rfl,om,ZqM (ZsV _ _) I,(λe=>by cases e),λj u D=>⟨_,rfl,?_⟩⟩;obtain ⟨O,e,H⟩:=C j u D;injection e with e;subst e;rw[QJ];exact H
def jE (l:List Ent) (s:ByteArray):Ent:=(ordE.got l s).getD zeroE
theorem Zcv (l:List Ent):ordE.joined l=(ordE.firsts l).map (jE l):=by
 have C:∀fs:List ByteArray,(∀s∈fs,s∈ordE.firsts l)->fs.filterMap (ordE.got l)=fs.map (jE l):=by
  intro fs
  induction fs with
  |nil=>intro _;rfl
  |cons s t ih=>intro h;obtain ⟨x,D⟩:=(Ord.got_isSome_iff (O:=ordE) l s).2 ((ordE.mem_firsts l s).1 (h s (by simp)));rw[List.filterMap_cons_some D,Zq8,ih λs A=>h s (by simp[A])];unfold jE;rw[D];rfl
 exact C _ λs A=>A
theorem ZoN {l:List Ent} {s:ByteArray} {x:Ent} {t:List Ent} (h:grp l s=x::t):jE l s=t.foldl laterE x:=by
 unfold jE Ord.got;have A:(l.filter λx=>decide (ordE.id x=s))=x::t:=h;rw[A];rfl
theorem Zm2 {l:List Ent} {s:ByteArray} (h:s∈ordE.firsts l):∃x t,grp l s=x::t:=by
 obtain ⟨x,A,e⟩:=(ordE.mem_firsts l s).1 h;have:x∈grp l s:=by unfold grp;exact ZrK.2 ⟨A,by simpa using e⟩
 cases hg:grp l s with
 |nil=>rw[hg] at this;simp at this
 |cons y t=>exact ⟨y,t,rfl⟩
theorem Zgp:∀(t:List Ent) (x:Ent),eok x->(∀y∈t,eok y)->eok (t.foldl laterE x)
 | [],_,h,_=>h
 |y::t,x,h,ht=>Zgp t _ (ZcD h (ht y (by simp))) λz A=>ht z (by simp[A])
def LatE:Prop:=∀(a b:Ent) (w:World),Env w->eok a->eok b->Calls prog 118 #[.agg (eCells a).toArray,.agg (eCells b).toArray] w λx w'=>x= .returned (.agg (eCells (laterE a b)).toArray)/\Ext w w'
theorem ZqA:LatE:=λa b w h A C=>ZcE a b w h A C
theorem ZeY (v:Value) (l:List Ent) (w:World) (hE:Env w) (h:REnts w v l) (hl:∀x∈l,eok x) (hn:l.length<=1000000) (h7:l.length<=1\/LatE):
 Calls prog 70 #[v] w λx w'=>∃v',x= .returned v'/\OEnts w' w.heap.size v' (ordE.canon l)/\Ext w w':=by
 obtain ⟨i0,gF,gN,gO,gP⟩:=ZrE U8;have h3:=gd (Zgr v l w h (λx hx=>by have:=(hl x hx).2;omega) hn);have gh:=gd (Zcl l);have HL:=gd hl;have gk:=gd h7;clear hl h7;go_enter func70,ntmps70
 go_wp2_with (go_at_call 116;refine (h3.out).mono ?_;rintro e w1 ⟨v1,gv,rfl,hG,hZ⟩;obtain ⟨A1,c1,hX⟩:=hG.form;subst hX)
 have ga:=hG.len;have gA:=gh.out;have gD:gv.length<=1000000:=om
 have HG:=gd hG;have hq:=gd ga;clear hG ga gA;go_loopw [3,12] (λo i wr=>∃k:Nat,k<=gv.length/\i= .int .i64 k/\OEnts wr w1.heap.size o (((ordE.firsts l).take k).map (jE l))/\Ext w1 wr) (λ_ i _=>gv.length - (intOf i).toNat)
 case atStart=>exact ⟨0,ZqO _,rfl,OEnts.nil _ _,Ext.refl _⟩
 case round=>
  obtain ⟨k,hk,rfl,R,hx⟩:=hrel;by_cases hS:k<gv.length
  ·have hi:=HG.out.ext hx;obtain ⟨g,cap,hv,_,_⟩:=hi.row.form om;injection hv with hX hv2 hv3;subst hX;have gC:wr.cell? ⟨g,k,none⟩=some gv[k]:=(by rw[hv3] at hi;rw[hi.row.cellAt k om];exact ZqL hS);have X:k<(ordE.firsts l).length:=(by rw[<-hq.out];exact hS);have hB:(ordE.firsts l)[k]∈ordE.firsts l:=Zq2 X;have hb:=hi.each k (ordE.firsts l)[k] gv[k] (ZqL X) (ZqL hS);obtain ⟨x,t,V⟩:=Zm2 hB;have gb:=ZoN V;rw[V] at hb;have hW:((ordE.firsts l).take (k+1)).map (jE l)=((ordE.firsts l).take k).map (jE l)++ [jE l (ordE.firsts l)[k]]:=(by rw[ZqQ X,Zrf];rfl);rw[gb] at hW;have gn:=gd hW;have hH:∀y∈x::t,eok y:=λy hy=>HL.out y (by rw[<-V] at hy;exact (ZrK.1 hy).1);have hD:t.length+1<=l.length:=(by have:=ZjY l (ordE.firsts l)[k];rw[V] at this;simpa using this);have gW:t.length+1<=1000000:=om;have h5:=gd hD;clear hD;obtain ⟨u,hu⟩:∃u,gv[k]=u:=⟨_,rfl⟩;rw[hu] at hb gC;obtain ⟨A2,c2,gI,_,_⟩:=hb.reads.form;subst gI;have hC:REnts wr (.slice A2 (t.length+1) c2) (x::t):=hb.reads;obtain ⟨v2,gV,hL⟩:=Zqr hC;obtain ⟨ad,c3,gJ,ha⟩:=hb.reads.at (k:=0) (by simp);injection gJ with hv5 hv6 hv7;subst hv5;rw[Zsl] at ha;have hj:ad.add 0=ad:=add_zero ad;rw[hj] at ha;obtain ⟨a0,a1,a2,a3,a4⟩:=ha;simp only[Zsk] at a0 a1 a2 a3 a4;have gl:=gd hL;have hI:=gd hH;obtain ⟨A3,c4,gK,_,_⟩:=hL.form;subst gK;have gS:=gd hu;clear hi hv2 hv3 hv6 hv7 hB V gb hW hb hC hH hL hu hj X;obtain ⟨U,gL⟩:∃U:World,U=wr:=⟨_,rfl⟩;subst gL;have gy:=gl.out;go_wp2;go_loopw [22] (λi w2=>∃m:Nat,m<=t.length/\i= .int .i64 m/\Ext (U.alloc (.cells (eCells ((t.take m).foldl laterE x)).toArray 61)) w2) (λi _=>t.length - (intOf i).toNat)
   case atStart=>exact ⟨0,ZqO _,rfl,by dsimp only[List.take_zero,List.foldl_nil];exact Ext.refl _⟩
   case round=>
    obtain ⟨m,hm,rfl,I⟩:=hrel;have Z:Ext U wr:=((Ext.refl U).alloc _).trans I;by_cases gc:m<t.length
    ·obtain ⟨gT,c5,hY,ha⟩:=(gy.ext Z).at gc;injection hY with hY hv10 hv11;subst hY;clear hv10 hv11;have hN:(t.take (m+1)).foldl laterE x=laterE ((t.take m).foldl laterE x) t[m]:=(by rw[ZqQ gc,List.foldl_append];rfl);have hM:=Zgp (t.take m) x (hI.out x (by simp)) λy hy=>hI.out y (Zq7 _ (Zs2 hy));have h0:=hI.out t[m] (by simp);obtain ⟨E,hK⟩:∃E,(t.take m).foldl laterE x=E:=⟨_,rfl⟩;obtain ⟨y,hy⟩:∃y,t[m]=y:=⟨_,rfl⟩;rw[hK,hy] at hN;rw[hK] at hM I;rw[hy] at h0 ha;have gi:=gd hN;have ht:=gd (λ(w':World) (gu:Env w')=>(gk.out.resolve_left (by have:=h5.out;omega)) E y w' gu hM h0);obtain ⟨r,hr⟩:∃r,laterE E y=r:=⟨_,rfl⟩;have HR:=gd hr;rw[hr] at ht;have gw:Env wr:=hE.ext (hZ.trans (hx.trans Z));have h8:=λ(d:World) (hd:Ext wr d)=>(I.trans hd).heap (ZqJ U _);have gg:=gd h8;have go:=gd I;clear hN hK hy hr hM h0 h8;obtain ⟨h6,Y,hh,Q,hA⟩:=E;obtain ⟨H,C,D,A,F⟩:=y;obtain ⟨gp,gq,gr,gs,gt⟩:=ha;simp only at gp gq gr gs gt;have gR:(0:Int)<=(m:Int):=om;have gU:(m:Int)<(t.length:Int):=om;have he:Ext (U.alloc (.cells (eCells ⟨h6,Y,hh,Q,hA⟩).toArray 61)) (wr.alloc (.cells #[.string H,.string C,.string D,.string A,.int .i64 F] 61)):=I.alloc _;have hf:Ext (wr.alloc (.cells (eCells ⟨H,C,D,A,F⟩).toArray 61)) (wr.alloc (.cells #[.string H,.string C,.string D,.string A,.int .i64 F] 61)):=Ext.refl _;have e0:(wr.alloc (.cells #[.string H,.string C,.string D,.string A,.int .i64 F] 61)).cell? ⟨U.heap.size,0,none⟩=some (.string h6):=he.boxed 0 _ rfl;have e1:(wr.alloc (.cells #[.string H,.string C,.string D,.string A,.int .i64 F] 61)).cell? ⟨U.heap.size,1,none⟩=some (.string Y):=he.boxed 1 _ rfl;have e2:(wr.alloc (.cells #[.string H,.string C,.string D,.string A,.int .i64 F] 61)).cell? ⟨U.heap.size,2,none⟩=some (.string hh):=he.boxed 2 _ rfl;have e3:(wr.alloc (.cells #[.string H,.string C,.string D,.string A,.int .i64 F] 61)).cell? ⟨U.heap.size,3,none⟩=some (.string Q):=he.boxed 3 _ rfl;have e4:(wr.alloc (.cells #[.string H,.string C,.string D,.string A,.int .i64 F] 61)).cell? ⟨U.heap.size,4,none⟩=some (.int .i64 hA):=he.boxed 4 _ rfl;have y0:(wr.alloc (.cells #[.string H,.string C,.string D,.string A,.int .i64 F] 61)).cell? ⟨wr.heap.size,0,none⟩=some (.string H):=hf.boxed 0 _ rfl;have y1:(wr.alloc (.cells #[.string H,.string C,.string D,.string A,.int .i64 F] 61)).cell? ⟨wr.heap.size,1,none⟩=some (.string C):=hf.boxed 1 _ rfl;have y2:(wr.alloc (.cells #[.string H,.string C,.string D,.string A,.int .i64 F] 61)).cell? ⟨wr.heap.size,2,none⟩=some (.string D):=hf.boxed 2 _ rfl;have y3:(wr.alloc (.cells #[.string H,.string C,.string D,.string A,.int .i64 F] 61)).cell? ⟨wr.heap.size,3,none⟩=some (.string A):=hf.boxed 3 _ rfl;have y4:(wr.alloc (.cells #[.string H,.string C,.string D,.string A,.int .i64 F] 61)).cell? ⟨wr.heap.size,4,none⟩=some (.int .i64 F):=hf.boxed 4 _ rfl;have gx:Env (wr.alloc (.cells #[.string H,.string C,.string D,.string A,.int .i64 F] 61)):=gw.ext ((Ext.refl wr).alloc _);unfold eCells at ht;dsimp only at ht;clear he hf
     go_wp2_with (first|(refine ZqF rfl 61 (.tmp 6) (.tmp 28) rfl U.heap.size _ rfl rfl _ _ gz ZQ rfl (Vc (Zr r)) ?_)|(go_at_call 118;refine (ht.out _ gx).mono ?_;rintro e w3 ⟨rfl,hw⟩;have gM:=go.out.trans (((Ext.refl wr).alloc _).trans hw);have gz:=gg.out w3 (((Ext.refl wr).alloc _).trans hw)))
     go_roundw
     case rel=>have hR:=HR.out;have hF:=gi.out;refine ⟨m+1,om,by go_num,?_⟩;rw[hF,hR];exact Zcf gM
     case measure=>simp[intOf];omega
    ·have gH:m=t.length:=om;subst gH;rw[Zq4 (ZqE _)] at I;obtain ⟨r,hr⟩:∃r,t.foldl laterE x=r:=⟨_,rfl⟩;rw[hr] at I;have HR:=gd hr;clear hr;have e0:wr.cell? ⟨U.heap.size,0,none⟩=some (.string r.id):=I.boxed 0 _ rfl;have e1:wr.cell? ⟨U.heap.size,1,none⟩=some (.string r.title):=I.boxed 1 _ rfl;have e2:wr.cell? ⟨U.heap.size,2,none⟩=some (.string r.link):=I.boxed 2 _ rfl;have e3:wr.cell? ⟨U.heap.size,3,none⟩=some (.string r.content):=I.boxed 3 _ rfl;have e4:wr.cell? ⟨U.heap.size,4,none⟩=some (.int .i64 r.upd):=I.boxed 4 _ rfl;have S:=R.ext Z;have gf:=hx.trans Z;have hQ:(((ordE.firsts l).take k).map (jE l)).length=k:=(by have:=hq.out;rw[Zq9,Zra];omega);unfold OEnts at S;have h1:Hid (((((ordE.firsts l).take k).map (jE l)).length+1)*72<=140737488355328):=gd (by rw[hQ];omega);have h4:Hid ((((ordE.firsts l).take k).map (jE l)).length+1<=maxLen):=gd (by rw[hQ];unfold maxLen;omega);obtain ⟨O,hO⟩:∃O,((ordE.firsts l).take k).map (jE l)=O:=⟨_,rfl⟩;rw[hO] at S hQ h1 h4;have HO:=gd hO;clear hO
     go_wp2_with (first|(at_builtin;refine Za _ rfl (.tmp 30) (.tmp 32) _ rfl w1.heap.size 61 i0 _ 5 72 underlying30 gF gN gO gP rfl (by decide) _ _ _ rfl (S.alloc _) _ 1 (eCells r) rfl (Zj rfl (by decide)) (Zr _) h4.out h1.out ?_ ?_;(have:=gf.size;simp;omega);intro v3 w3 hU gB gQ;have hw:Ext w1 w3:=Ext.app (gf.alloc _) gB (S.alloc _) (ZqE _)))
     go_roundw
     case rel=>have hT:=gn.out;have hO:=HO.out;have hR:=HR.out;refine ⟨k+1,om,by go_num,?_,hw⟩;rw[hT,hO,hR];exact OEnts.snoc hU
     case measure=>simp[intOf];omega
  ·have gG:k=gv.length:=om;subst gG;have X:(ordE.firsts l).take gv.length=ordE.firsts l:=Zq4 (by rw[hq.out];exact ZqE _);rw[X,<-Zcv] at R;have hP:(ordE.joined l).length<=1000000:=(by rw[Zcv,Zq9,<-hq.out];exact gD);have ho:=λl'=>ordE.sorted_joined l l';obtain ⟨J,hJ⟩:∃J,ordE.joined l=J:=⟨_,rfl⟩;rw[hJ] at R hP ho;have h2:=gd ho;have hws:=hZ.size;have h9:∀g,u3.ownBlock=some g->w.heap.size<=g:=λg hg=>ZqM hws (World.ownsRow.lt R g hg).1;have ge:=Zl2 u3 J wr w1.heap.size R hP;obtain ⟨A9,c9,rfl,_,_⟩:=R.reads.form;have gm:=gd ge;have gj:=gd h9;clear ge ho hJ X hP h9
   go_wp2_with (go_at_call 119;have hz:=gm.out;refine ZqD hz ?_;clear hz;rintro e w9 ⟨rfl,l',hp,hs,hV,gE⟩)
   go_ret;have hc:=h2.out l' hp hs;subst hc;exact ⟨_,rfl,hV.mono hws,Ext.grown' (B:=0) (hZ.trans hx) gE gj.out⟩
theorem Zf3 (v:Value) (l:List Ent) (w:World) (C:Env w) (h:REnts w v l) (D:∀x∈l,eok x) (F:l.length<=1000000):
 Calls prog 70 #[v] w λx w'=>∃A,x= .returned A/\OEnts w' w.heap.size A (ordE.canon l)/\Ext w w':=ZeY v l w C h D F (Or.inr ZqA)
end Go.Proofs.YtmfinhgobjbecaaGreatDoor
