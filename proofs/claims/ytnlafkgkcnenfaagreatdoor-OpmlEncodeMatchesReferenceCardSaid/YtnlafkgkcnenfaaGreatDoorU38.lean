/- Parts of the proof: contracts and plain laws. -/
import Derived.Test.YtnlafkgkcnenfaaGreatDoorU18
import Derived.Test.YtnlafkgkcnenfaaGreatDoorU25
import Derived.Test.YtnlafkgkcnenfaaGreatDoorU26
namespace Go.Proofs.YtnlafkgkcnenfaaGreatDoor
open Go Go.RowKit _root_.Go.Proofs.Tryz
set_option linter.unusedVariables false
set_option linter.unusedSimpArgs false
set_option maxRecDepth 100000
set_option maxHeartbeats 16000000
section
variable {f:Fd} {k:Nat}
def ewide (e:Ent):Prop:=i64ok e.upd/\e.id.size<=reachBytes/\e.title.size<=reachBytes/\e.link.size<=reachBytes/\e.content.size<=reachBytes
def fwide (f:Fd):Prop:=i64ok f.upd/\f.path.length<=reachBytes/\(∀s∈f.path,s.size<=reachBytes)/\f.id.size<=reachBytes/\f.title.size<=reachBytes/\f.link.size<=reachBytes/\f.ents.length<=reachBytes/\∀e∈f.ents,ewide e
def capN (n:Nat):Nat:=1+min n 9000
def bigE (e:Ent):Nat:=capN (e.id.size+e.title.size+e.link.size+e.content.size)
def bigP (l:List ByteArray):Nat:=(l.map λs=>capN s.size).sum
def bigEs (l:List Ent):Nat:=(l.map bigE).sum
def bigH (f:Fd):Nat:=capN (f.id.size+f.title.size+f.link.size)
def bigF (f:Fd):Nat:=bigH f+bigP f.path+bigEs f.ents
def bigL (l:List Fd):Nat:=(l.map bigF).sum
theorem Zr2:∀{l:List ByteArray},bigP l<=5000->l.length+sizes l<=bigP l
 | [],_=>by simp[sizes,bigP]
 |s::t,h=>by
  have e:bigP (s::t)=capN s.size+bigP t:=by unfold bigP;simp
  have e2:sizes (s::t)=s.size+sizes t:=by unfold sizes;simp
  rw[e] at h|-
  have ih:=Zr2 (l:=t) om
  unfold capN at h|-
  rw[e2,Zd]
  omega
theorem Zsq:∀(l:List Ent),l.length<=bigEs l
 | []=>by simp
 |s::t=>by
  have e:bigEs (s::t)=bigE s+bigEs t:=by unfold bigEs;simp
  have ih:=Zsq t
  rw[e,Zd]
  unfold bigE capN
  omega
theorem Zt5 {l:List Ent} {e:Ent} (h:e∈l):bigE e<=bigEs l:=ZoD (ZU.2 ⟨e,h,rfl⟩)
theorem ZsL {l:List Fd} (h:f∈l):bigF f<=bigL l:=ZoD (ZU.2 ⟨f,h,rfl⟩)
theorem Zs6 {e:Ent} (h:bigE e<=5000):e.id.size+e.title.size+e.link.size+e.content.size<=5000:=by
 unfold bigE capN at h;omega
theorem ZtY {e:Ent} (A:i64ok e.upd) (h:bigE e<=5000):eok e:=⟨A,by have:=Zs6 h;omega⟩
theorem ZtZ (D:fwide f) (h:bigF f<=5000):fokS f:=by
 have H:bigH f+bigP f.path+bigEs f.ents<=5000:=h;have J:=Zr2 (l:=f.path) om;have F:bigH f<=5000:=om
 unfold bigH capN at F;have I:=Zsq f.ents;refine ⟨⟨D.1,om⟩,om,λe A=>ZtY (D.2.2.2.2.2.2.2 e A).1 ?_⟩;have:=Zt5 A;omega
theorem ZtM {l:List Fc} (h:k<l.length):bigL ((l.take (k+1)).map Fc.f)=bigL ((l.take k).map Fc.f)+bigF l[k].f:=by
 rw[Zr h];unfold bigL;simp only[ZS,ZpW,Zw,Z2,YM,List.sum_nil,Nat.add_zero]
theorem Zuu (l:List Fc) (k:Nat):bigL ((l.take k).map Fc.f)<=bigL (l.map Fc.f):=by
 have e:bigL (l.map Fc.f)=bigL ((l.take k).map Fc.f)+bigL ((l.drop k).map Fc.f):=by unfold bigL;rw[<-ZpW,<-ZS,<-ZS,Yz]
 omega
theorem ZtN {l:List ByteArray} (h:k<l.length):bigP (l.take (k+1))=bigP (l.take k)+capN l[k].size:=by
 rw[Zr h];unfold bigP;simp only[ZS,ZpW,Zw,Z2,YM,List.sum_nil,Nat.add_zero]
theorem Zs7 {l:List Ent} (h:k<l.length):bigEs (l.take (k+1))=bigEs (l.take k)+bigE l[k]:=by
 rw[Zr h];unfold bigEs;simp only[ZS,ZpW,Zw,Z2,YM,List.sum_nil,Nat.add_zero]
theorem Zt6 (l:List Ent) (k:Nat):bigEs (l.take k)<=bigEs l:=by
 have e:bigEs l=bigEs (l.take k)+bigEs (l.drop k):=by unfold bigEs;rw[<-ZpW,<-ZS,Yz]
 omega
theorem ZtG (n:Nat):capN n<=9001:=by unfold capN;omega
theorem ZtL {l:List Fc} (D:∀x∈l,fwide x.f) (h:bigL (l.map Fc.f)<=5000):∀x∈l,fokS x.f:=λx A=>ZtZ (D x A) (Zp (ZsL (ZU.2 ⟨x,A,rfl⟩)) h)
end
section
variable {l:List UInt8}
theorem Zrv {v:Bool} {c:UInt8} {d:UInt8} (h:wescB v c=d::l):wescC v c=d::l:=by unfold wescC;rw[h,Ze (by simp)]
theorem ZtK {v:Bool} {c:UInt8} (h:wescB v c= []):wescC v c= [c]:=by unfold wescC;rw[Zi h]
theorem Zt4 (v:Bool) (c:UInt8):(wescC v c).length<=6:=by
 have:=ZeU v c;unfold wescC;split
 ·show 1<=6;omega
 ·exact this
theorem Zsk (v:Bool) (s:ByteArray) (w:Wq) (hs:s.size<=80000000000):
 Calls prog 136 #[.string s,.bool v] w λe w'=>e= .returned (.string (str (wescL v s.data.toList)))/\Ext w w':=by
 obtain ⟨i0,he,hf,hg,hh⟩:=YH G9;have hv:=ZN s;go_enter func136,ntmps136;go_wp2;go_loopw [5,6] (λu i wr=>∃(k:Nat) (out:List UInt8),k<=s.size/\i=nI k/\Hid (out.length<=6*k)/\wr.ownsRow w.heap.size 5 1 u out.length (Lib.byteCells out)/\Hid (wescL v (s.data.toList.take k)=out)/\Ext w wr) (λ_ i _=>s.size - (intOf i).toNat)
 case atStart=>exact ⟨0,[],Zj _,rfl,Zc _,YF _ _ _ _,rfl,Ext.refl _⟩
 case round=>
  obtain ⟨k,out,hk,rfl,S,U,hc,hx⟩:=hrel;have hz:=hx.size;have hw:out.length<=6*k:=S.out;by_cases hl:k<s.size
  ·have Y:=ZjD v s k hl;rw[hc.out] at Y;have hd:=Zt4 v s[k];obtain ⟨L,h⟩:∃L,wescC v s[k]=L:=⟨_,rfl⟩;rw[h] at Y hd;have hj:=gd Y;have HL:Hid ((out++L).length<=6*(k+1)):=(by show _<=_;rw[Zb];omega);clear Y hd hc S;have F:=U;obtain ⟨_,A,c,rfl,hy,hu,_,_⟩:=RSl.of_own U;by_cases I:s[k]=38;have hq:((s[k].toNat:Int)==38)=true:=Qt I;have V:L= [38,97,109,112,59]:=h.symm.trans (Zrv (Zn2 v I))
   rotate_left
   have hq:((s[k].toNat:Int)==38)=false:=Un I;by_cases J:s[k]=60;have hr:((s[k].toNat:Int)==60)=true:=Qt J;have V:L= [38,108,116,59]:=h.symm.trans (Zrv (Zn3 v J))
   rotate_left
   have hr:((s[k].toNat:Int)==60)=false:=Un J;by_cases K:s[k]=62;have ht:((s[k].toNat:Int)==62)=true:=Qt K;have V:L= [38,103,116,59]:=h.symm.trans (Zrv (Zn4 v K))
   rotate_left
   have ht:((s[k].toNat:Int)==62)=false:=Un K;by_cases H:s[k]=13;have ho:((s[k].toNat:Int)==13)=true:=Qt H;have V:L= [38,35,49,51,59]:=h.symm.trans (Zrv (Zn0 v H))
   rotate_left
   have ho:((s[k].toNat:Int)==13)=false:=Un H;cases v;have V:L= [s[k]]:=h.symm.trans (ZtK (ZoV I J K H))
   rotate_left
   by_cases R:s[k]=34;have hp:((s[k].toNat:Int)==34)=true:=Qt R;have V:L= [38,113,117,111,116,59]:=h.symm.trans (Zrv (Zn1 R))
   rotate_left
   have hp:((s[k].toNat:Int)==34)=false:=Un R;by_cases h9:s[k]=9;have q9:((s[k].toNat:Int)==9)=true:=Qt h9;have V:L= [38,35,57,59]:=h.symm.trans (Zrv (ZoU h9))
   rotate_left
   have q9:((s[k].toNat:Int)==9)=false:=Un h9;by_cases Q:s[k]=10;have hn:((s[k].toNat:Int)==10)=true:=Qt Q;have V:L= [38,35,49,48,59]:=h.symm.trans (Zrv (ZnZ Q))
   rotate_left
   have hn:((s[k].toNat:Int)==10)=false:=Un Q;have V:L= [s[k]]:=h.symm.trans (ZtK (ZoW I J K H R h9 Q))
   all_goals
    (try clear I)
    (try clear J)
    (try clear K)
    (try clear H)
    (try clear R)
    (try clear h9)
    (try clear Q)
    have hi:=gd V
    clear V h
    go_wp2_with (first|(at_builtin;refine Lib.wpList_append_own_string _ rfl _ _ 94 9 rfl w.heap.size 5 i0 underlying94 underlying9 he hf hg hh _ _ _ rfl F _ rfl (by show _+_<=maxLen;unfold maxLen;simp[ByteArray.size];omega) (by simp[ByteArray.size];omega) om ?_;intro v1 w1 D X Z)|(at_builtin;refine ZO _ rfl (.tmp 17) (.tmp 19) _ rfl w.heap.size 5 i0 _ 1 1 underlying94 he hf hg hh rfl om _ _ _ rfl (F.alloc _) _ 1 _ rfl (Yo (cs:= [.int .u8 s[k].toNat]) (by simp) (by unfold maxLen;omega)) (Vc [s[k]]) (by unfold maxLen;omega) om (by simp;omega) ?_;intro v1 w1 D X Z))
    have hm:Ext w w1:=(by first|exact hx.app X F (Zc _)|exact (hx.alloc _).app X (F.alloc _) (Zc _))
    have hb:w1.ownsRow w.heap.size 5 1 v1 (out++L).length (Lib.byteCells (out++L)):=(by rw[hi.out,Yl,Zb];exact D)
    clear X Z D
    go_wp2
    go_roundw
    case rel=>exact ⟨k+1,out++L,om,by go_num,HL,hb,hj,hm⟩
    case measure=>simp[intOf];omega
  ·have ha:wescL v s.data.toList=out:=(by rw[<-hc.out,ZQ om]);have HF:=gd ha;have kc:=Zga wr _ _ out U;clear ha hc S;go_wp2;go_ret;exact ⟨by rw[HF.out];rfl,hx⟩
theorem ZsA (s:ByteArray) (w:Wq) (F:s.size<=maxLen):
 Calls prog 179 #[.string s] w λe w'=>e= .returned (.bool (charsOk s.data.toList))/\Ext w w':=by
 have A:=I2 s w F;have hc:charsOk s.data.toList=decide ((checkS s).2=0):=rfl;generalize (checkS s).1=a at A;generalize (checkS s).2=b at A hc;rw[hc];have H:=gd A;have D:((b:Int)==0)=decide (b=0):=by
  by_cases h:b=0
  ·rw[h];rfl
  ·rw[Yd h,Zv];omega
 rw[<-D];clear D A hc;go_enter func179,ntmps179
 go_wp2_with (go_at_call 97;refine Za H.out ?_;rintro e w' ⟨rfl,I⟩)
 go_ret;exact ⟨rfl,I⟩
end
section
variable {N j:Nat} {w:World}
theorem Zp5 {x:Nc} (J:x.nd.small N) (I:RdN w x):∃n A c l B d kids,x= .mk 0 [] n (.slice A (List.length l) c) l (.slice B (List.length kids) d) kids [] 0/\n.length<=7/\l.length<=4/\kids.length<=N/\
 (∀b∈l,b.space= []/\b.name.length<=7/\b.value.length<=N/\b.at_=0)/\RAts w (.slice A l.length c) l/\RNs w (.slice B kids.length d) kids/\∀y∈kids,RdN w y/\y.nd.small N:=by
 obtain ⟨k,s,n,al,l,ks,kids,t,a⟩:=x;rw[RdN] at I;obtain ⟨F,H,R⟩:=I;rw[Nc.nd,Nd.small] at J;obtain ⟨rfl,rfl,U,S,Q,h,rfl,rfl,D⟩:=J;obtain ⟨A,c,rfl, -, -⟩:=F.form;obtain ⟨B,d,rfl, -, -⟩:=RNs.form H;rw[Jw] at h;exact ⟨n,A,c,l,B,d,kids,rfl,U,S,h,Q,F,H,λy K=>⟨(XC kids).1 R y K,(QQ _).1 D y.nd (by rw[Je];exact Yc K)⟩⟩
mutual
def Nd.dep:Nd->Nat
 | .mk _ _ _ _ ks _ _=>Nds.dep ks+1
def Nds.dep:List Nd->Nat
 | []=>0
 |x::t=>max x.dep (Nds.dep t)
end
theorem Zr5 (x:Nd):∀a:List Nd,Nds.dep (a++ [x])=max (Nds.dep a) x.dep
 | []=>by simp[Nds.dep]
 |y::t=>by
  show Nds.dep (y::(t++ [x]))=_
  rw[Nds.dep,Nds.dep,Zr5 x t,Nat.max_assoc]
theorem ZuI (a b:List Nd):Nds.dep a<=Nds.dep (a++b):=by
 induction a with
 |nil=>exact Zj _
 |cons x t ih=>show Nds.dep (x::t)<=Nds.dep (x::(t++b));rw[Nds.dep,Nds.dep];omega
theorem Zsu {l:List Nc} (h:j<l.length):l[j].nd.dep<=Nds.dep (Nc.nds l):=by
 have A:=Zr5 l[j].nd ((Nc.nds l).take j);rw[<-Zr8 h] at A;have D:=ZuI ((Nc.nds l).take (j+1)) ((Nc.nds l).drop (j+1));rw[Yz] at D;omega
mutual
theorem Zsv {N:Nat}:∀(n:Nd) (d:Nat),n.small N->nodeOk d n=true->n.dep+d<=101
 | .mk k s n al ks t a,d,hs,h=>by
  rw[Nd.small] at hs
  rw[nodeOk] at h
  simp only[ZG,ZT] at h
  have:=ZtH ks d false h.1.1.1.1.1.2 hs.2.2.2.2.2.2.2.2 h.2
  rw[Nd.dep]
  omega
theorem ZtH {N:Nat}:∀(l:List Nd) (d:Nat) (b:Bool),d<=100->Nds.small N l->kidsOk d b l=true->Nds.dep l+d<=100
 | [],d,b,hd,_,_=>by rw[Nds.dep];omega
 |x::t,d,b,hd,hs,h=>by
  rw[Nds.small] at hs
  have hk:x.kind≠1:=by
   obtain ⟨k,s,n,al,ks,t,a⟩:=x
   have h1:=hs.1
   rw[Nd.small] at h1
   rw[show (Nd.mk k s n al ks t a).kind=k from rfl,h1.1]
   decide
  rw[kidsOk,Ze hk,ZG] at h
  have h1:=Zsv x (d+1) hs.1 h.1
  have h2:=ZtH t d _ hd hs.2 h.2
  rw[Nds.dep]
  omega
end
mutual
theorem Ztq {N:Nat}:∀(n:Nd) (d:Nat),n.small N->nodeOk d n=true->isQ n.name=true/\attrsOk n.attrs []=true/\∀y∈n.kids,nodeOk (d+1) y=true
 | .mk k s n al ks t a,d,hs,h=>by
  rw[Nd.small] at hs
  rw[nodeOk] at h
  simp only[ZG] at h
  exact ⟨h.1.1.2,h.1.2,Zr7 ks d false hs.2.2.2.2.2.2.2.2 h.2⟩
theorem Zr7 {N:Nat}:∀(l:List Nd) (d:Nat) (b:Bool),Nds.small N l->kidsOk d b l=true->∀y∈l,nodeOk (d+1) y=true
 | [],d,b,_,_=>λy hy=>by cases hy
 |x::t,d,b,hs,h=>λy hy=>by
  rw[Nds.small] at hs
  have hk:x.kind≠1:=by
   obtain ⟨k,s,n,al,ks,t,a⟩:=x
   have h1:=hs.1
   rw[Nd.small] at h1
   rw[show (Nd.mk k s n al ks t a).kind=k from rfl,h1.1]
   decide
  rw[kidsOk,Ze hk,ZG] at h
  rcases ZH.1 hy with rfl|hy
  ·exact h.1
  ·exact Zr7 t d _ hs.2 h.2 y hy
end
end
section
variable {N d j:Nat} {w W:World}
def bxE (n:List UInt8) (al ks:Value):List Value:= [nI 0,.string (str []),.string (str n),al,ks,.string (str []),nI 0]
theorem Zqg (n:List UInt8) (al ks:Value) (l:List AtP) (kids:List Nc):cellsN (.mk 0 [] n al l ks kids [] 0)=bxE n al ks:=rfl
theorem Zqf {n:List UInt8} {al ks:Value} (h:Ext (w.alloc (.cells (bxE n al ks).toArray 25)) W):W.cell? ⟨w.heap.size,0,none⟩=some (nI 0)/\W.cell? ⟨w.heap.size,1,none⟩=some (.string (str []))/\W.cell? ⟨w.heap.size,2,none⟩=some (.string (str n))/\
 W.cell? ⟨w.heap.size,3,none⟩=some al/\W.cell? ⟨w.heap.size,4,none⟩=some ks/\W.cell? ⟨w.heap.size,5,none⟩=some (.string (str []))/\W.cell? ⟨w.heap.size,6,none⟩=some (nI 0):=by
 have A:=h.heap (Zg w (.cells (bxE n al ks).toArray 25));refine ⟨?_,?_,?_,?_,?_,?_,?_⟩<;>(rw[YO _ _ _ _ _ _ A];rfl)
theorem ZrM {B:Option Addr} {kids:List Nc} (h:RNs w (.slice B kids.length d) kids) (Q:∀y∈kids,RdN w y/\y.nd.small N) (H:j<kids.length):
 ∃b n A c l B' F ks,B=some b/\kids[j]= .mk 0 [] n (.slice A (List.length l) c) l (.slice B' (List.length ks) F) ks [] 0/\∀W,Ext w W->W.cell? (b.add (j*7))=some (nI 0)/\W.cell? ⟨(b.add (j*7)).block,(b.add (j*7)).off+1,none⟩=some (.string (str []))/\
  W.cell? ⟨(b.add (j*7)).block,(b.add (j*7)).off+2,none⟩=some (.string (str n))/\W.cell? ⟨(b.add (j*7)).block,(b.add (j*7)).off+3,none⟩=some (.slice A l.length c)/\W.cell? ⟨(b.add (j*7)).block,(b.add (j*7)).off+4,none⟩=some (.slice B' ks.length F)/\
  W.cell? ⟨(b.add (j*7)).block,(b.add (j*7)).off+5,none⟩=some (.string (str []))/\W.cell? ⟨(b.add (j*7)).block,(b.add (j*7)).off+6,none⟩=some (nI 0):=by
 obtain ⟨b,V,e,D⟩:=h.at H;injection e with e1 e2 e3;obtain ⟨R,S⟩:=Q _ (ZL H);obtain ⟨n,A,c,l,B',F,ks,I, -⟩:=Zp5 S R;rw[I] at D;exact ⟨b,n,A,c,l,B',F,ks,e1,I,λW U=>by obtain ⟨a0,J,a2,a3,a4,a5,K⟩:=D.ext U;exact ⟨a0,J,a2,a3,a4,a5,K⟩⟩
theorem ZsB (N:Nat) (hN:N<=16777216):∀(h:Nat) (x:Nc) (w:Wq),h<=1000->x.nd.dep<=h->x.nd.small N->RdN w x->
 Calls prog 134 #[.agg (cellsN x).toArray] w λe w'=>e= .returned (nI (x.nd.dep:Nat))/\Ext w w':=by
 intro h
 induction h with
 |zero=>intro x w _ hf;obtain ⟨k,s,n,al,l0,ks,kids,t,a⟩:=x;rw[Nc.nd,Nd.dep] at hf;omega
 |succ h ih=>
 intro x w hh hd hs hr;obtain ⟨n,A,c,l0,B,d,kids,rfl,hn,hl,hk,hb,hA,hK,hY⟩:=Zp5 hs hr;have U:Nds.dep (Nc.nds kids)<=h:=by rw[Nc.nd,Nd.dep] at hd;omega
 have hc:=gd (λx w=>ih x w om);have HY:=gd hY;have HK:=gd hK;have HD:Hid (Nds.dep (Nc.nds kids)<=1000):=gd om;have ha:=gd U;have hp:kids.length<=16777216:=om
 have HX:=gd ((Ext.refl w).alloc (.cells (bxE n (.slice A l0.length c) (.slice B kids.length d)).toArray 25));have S:=Zqf (Ext.refl (w.alloc (.cells (bxE n (.slice A l0.length c) (.slice B kids.length d)).toArray 25)));have Q:=gd (λW=> @Zqf w W n (.slice A l0.length c) (.slice B kids.length d));simp only[bxE] at HX S Q;obtain ⟨b0,b1,b2,b3,b4,b5,b6⟩:=S;rw[Nc.nd,Nd.dep];simp only[Zqg,bxE];clear ih hh hd hs hr hn hl hk hb hA hK hY U;go_enter func134,ntmps134;go_wp2;go_loopw [3,4] (λm i wr=>∃j:Nat,j<=kids.length/\i=nI j/\m=nI (Nds.dep ((Nc.nds kids).take j):Nat)/\Ext (w.alloc (.cells (bxE n (.slice A l0.length c) (.slice B kids.length d)).toArray 25)) wr) (λ_ i _=>kids.length - (intOf i).toNat)
 case atStart=>exact ⟨0,Zj _,rfl,rfl,Ext.refl _⟩
 case round=>
  obtain ⟨j,hj,rfl,rfl,I⟩:=hrel;obtain ⟨d0,d1,d2,d3,d4,d5,d6⟩:=Q.out _ I;have K:=gd (HX.out.trans I);have he:=gd I;clear b0 b1 b2 b3 b4 b5 b6 I;by_cases F:j<kids.length
  ·obtain ⟨b,yn,YA,yc,yl,YB,yd,yk,rfl,hy,R⟩:=ZrM HK.out HY.out F;obtain ⟨a0,a1,a2,a3,a4,a5,a6⟩:=R _ K.out;have hm:(0:Int)<=(j:Int):=om;have ho:(j:Int)<(kids.length:Int):=om;obtain ⟨Y,Z⟩:=HY.out kids[j] (ZL F);have X:=Zr8 F;have V:kids[j].nd.dep<=h:=Zp (Zsu F) ha.out;have J:Hid (Nds.dep ((Nc.nds kids).take (j+1))=max (Nds.dep ((Nc.nds kids).take j)) kids[j].nd.dep):=gd (by rw[X,Zr5]);have H:=gd (λw' (hx:Ext w w')=>hc.out kids[j] w' V Z (RdN.ext hx _ Y));rw[hy] at H J;simp only[Zqg,bxE] at H;generalize Nd.dep _=D at H J;clear Y Z X V R hy
   go_wp2_with (go_at_call 134;refine Za (H.out _ K.out) ?_;rintro e w3 ⟨rfl,hi⟩)
   go_roundw
   case rel=>exact ⟨j+1,F,by go_num,(by rw[J.out];congr 1;omega),he.out.trans hi⟩
   case measure=>simp[intOf];omega
  ·have hg:j=kids.length:=om;subst hg;have hd:=HD.out;rw[ZQ (by rw[Jw];exact Zc _)];go_wp2;go_ret;exact ⟨by congr 1,K.out⟩
end
section
variable {j:Nat} {v:Value} {w:World}
theorem Zp6 (a b:List UInt8):str a++str b=str (a++b):=by
 have h:(str a++str b).data=(str (a++b)).data:=by rw[ByteArray.data_append];apply Array.toList_inj.1;rw[Array.toList_append,Z3,Z3,Z3]
 cases hx:str a++str b;cases hy:str (a++b);rw[hx,hy] at h;simpa using h
theorem Zt7 (P h E:List UInt8):str P++((⟨#[32]⟩:ByteArray)++str h++⟨#[61,34]⟩++str E++⟨#[34]⟩)=str (P++([32]++h++ [61,34]++E++ [34])):=by
 rw[<-Zp6,<-Zp6,<-Zp6,<-Zp6,<-Zp6];rfl
theorem Zuv (P n:List UInt8):str P++(⟨#[60,47]⟩:ByteArray)++str n++⟨#[62]⟩=str (P++ [60,47]++n++ [62]):=by
 rw[<-Zp6,<-Zp6,<-Zp6];rfl
theorem Zr1 {l:List AtP} (h:RAts w v l) (I:j<l.length) (H:l[j].at_=0) (J:l[j].space= []):∃ad c,v= .slice (some ad) l.length c/\∀W,Ext w W->W.cell? (ad.add (j*4))=some (.string (str []))/\W.cell? ⟨(ad.add (j*4)).block,(ad.add (j*4)).off+1,none⟩=some (.string (str l[j].name))/\
 W.cell? ⟨(ad.add (j*4)).block,(ad.add (j*4)).off+2,none⟩=some (.string (str l[j].value))/\W.cell? ⟨(ad.add (j*4)).block,(ad.add (j*4)).off+3,none⟩=some (nI 0):=by
 obtain ⟨ad,c,e,D⟩:=RAts.at h I;refine ⟨ad,c,e,λW A=> ?_⟩;obtain ⟨a0,F,a2,a3⟩:=D;rw[J] at a0;rw[H] at a3;exact ⟨A.cell a0,A.cell F,A.cell a2,A.cell a3⟩
theorem Zs1 (N:Nat) (hN:N<=16777216):∀(h:Nat) (x:Nc) (w:Wq),x.nd.dep<=h->x.nd.small N->(nodeW x.nd).length<=140737488355328->RdN w x->
 Calls prog 91 #[.agg (cellsN x).toArray] w λe w'=>e= .returned (.string (str (nodeW x.nd)))/\Ext w w':=by
 intro h
 induction h with
 |zero=>intro x w hd;obtain ⟨k,s,n,al,l0,ks,kids,t,a⟩:=x;rw[Nc.nd,Nd.dep] at hd;omega
 |succ h ih=>
 intro x w hd hs K hr;obtain ⟨n,A,c,l0,B,d,kids,rfl,hn,hl,hk,hb,hA,hK,hY⟩:=Zp5 hs hr;have hw:Nds.dep (Nc.nds kids)<=h:=by rw[Nc.nd,Nd.dep] at hd;omega
 have hI:=gd ih;have HY:=gd hY;have HK:=gd hK;have HA:=gd hA;have HB:=gd hb;have hH:=gd hw;have hU:kids.length<=16777216:=om
 have HX:=gd ((Ext.refl w).alloc (.cells (bxE n (.slice A l0.length c) (.slice B kids.length d)).toArray 25));have hu:=Zqf (Ext.refl (w.alloc (.cells (bxE n (.slice A l0.length c) (.slice B kids.length d)).toArray 25)));have hg:=gd (λW=> @Zqf w W n (.slice A l0.length c) (.slice B kids.length d));simp only[bxE] at HX hu hg;obtain ⟨b0,b1,b2,b3,b4,b5,b6⟩:=hu;rw[Nc.nd] at K|-;rw[nodeW,Ze (by decide)] at K|-;simp only[Zqg,bxE];have Q:1+n.length+(attrsW l0).length+(nodesW (Nc.nds kids)).length<=140737488355328:=by
  simp only[Zb,Zd,ZK] at K;split at K
  ·rename_i he;have e0:Nc.nds kids= []:=(by simpa using he);rw[e0,nodesW];simp only[Zd,ZK] at K|-;omega
  ·simp only[Zb,Zd,ZK] at K;omega
 have hD:¬9223372036854775807<1+n.length:=om
 obtain ⟨R,U⟩:∃R,([60]++n++attrsW l0++if (Nc.nds kids).isEmpty=true then [47,62] else [62]++nodesW (Nc.nds kids)++ [60,47]++n++ [62])=R:=⟨_,rfl⟩;rw[U];have HR:=gd U;clear U;clear ih hd hs hr hk hb hA hK hY hw K;go_enter func91,ntmps91;go_wp2;go_loopw [3,4] (λu i wr=>∃j:Nat,j<=l0.length/\i=nI j/\u= .string (str (60::(n++attrsW (l0.take j))))/\Ext (w.alloc (.cells (bxE n (.slice A l0.length c) (.slice B kids.length d)).toArray 25)) wr) (λ_ i _=>l0.length - (intOf i).toNat)
 case atStart=>exact ⟨0,Zj _,rfl,(Zz Value.string ((Zp6 [60] n).trans (by rw[List.take_zero,attrsW,ZV];rfl))),Ext.refl _⟩
 case round=>
  obtain ⟨j,hj,rfl,rfl,J⟩:=hrel;obtain ⟨d0,d1,d2,d3,d4,d5,d6⟩:=hg.out _ J;have ht:=gd (HX.out.trans J);have hq:=gd J;clear b0 b1 b2 b3 b4 b5 b6 J;by_cases H:j<l0.length
  ·have hc:=HB.out l0[j] (ZL H);obtain ⟨ad,c',hv,Y⟩:=Zr1 HA.out H hc.2.2.2 hc.1;injection hv with hv1 hv2 hv3;subst hv1;clear hv2 hv3;obtain ⟨a0,a1,a2,a3⟩:=Y _ ht.out;have hB:(0:Int)<=(j:Int):=om;have hO:(j:Int)<(l0.length:Int):=om;have I:=Zf2 H;have F:=Zkf l0 (j+1);obtain ⟨bn,ho⟩:∃y,l0[j].name=y:=⟨_,rfl⟩;obtain ⟨bv,hf⟩:∃y,l0[j].value=y:=⟨_,rfl⟩;have hQ:bv.length<=N:=(by rw[<-hf];exact hc.2.2.1);have HE:=gd (λw'=>Zsk true (str bv) w' (by rw[YN];omega));simp only[Z3] at HE;rw[I] at F;unfold attrW at I F;rw[ho,hf] at I F;rw[ho] at a1;rw[hf] at a2;clear hc Y;generalize wescL true bv=E at HE I F;obtain ⟨P,hP⟩:∃P,60::(n++attrsW (l0.take j))=P:=⟨_,rfl⟩;have X:P.length=1+n.length+(attrsW (l0.take j)).length:=(by rw[<-hP,Zd,Zb];omega);simp only[Zb,Zd,ZK] at F;have g1:¬9223372036854775807<1+bn.length:=om;have g2:¬9223372036854775807<1+bn.length+2:=om;have g3:¬9223372036854775807<1+bn.length+2+E.length:=om;have g4:¬9223372036854775807<1+bn.length+2+E.length+1:=om;have g5:¬9223372036854775807<P.length+(1+bn.length+2+E.length+1):=om;have V:Hid (60::(n++attrsW (l0.take (j+1)))=P++([32]++bn++ [61,34]++E++ [34])):=gd (by rw[I,<-hP];simp);rw[hP];have q1:∀d:Aft wr,d.w.cell? ⟨w.heap.size,3,none⟩=some (.slice (some ad) l0.length c):=Aft.cell d3;have q2:∀d:Aft wr,d.w.cell? ⟨(ad.add (j*4)).block,(ad.add (j*4)).off+1,none⟩=some (.string (str bn)):=Aft.cell a1;have q3:∀d:Aft wr,d.w.cell? ⟨(ad.add (j*4)).block,(ad.add (j*4)).off+2,none⟩=some (.string (str bv)):=Aft.cell a2;clear I F hP X Q hD hQ ho hf;go_wp2;refine rA ?_
   repeat (first|go_big_quiet_step ((go_at_call 136;with_reducible exact ZE (HE.out _)))|quiet_step ((go_at_call 136;with_reducible exact ZE (HE.out _))))
   refine Z9 ?_;rintro _ ⟨hM,rfl⟩;go_wp2;go_roundw
   case rel=>exact ⟨j+1,H,by go_num,Zz Value.string ((Zt7 P bn E).trans (by rw[V.out])),hq.out.trans hM.ext⟩
   case measure=>simp[intOf];omega
  ·have hp:j=l0.length:=om;subst hp;rw[ZQ (Zc _)];obtain ⟨P,hP⟩:∃P,60::(n++attrsW l0)=P:=⟨_,rfl⟩;have X:P.length=1+n.length+(attrsW l0).length:=(by rw[<-hP,Zd,Zb];omega);rw[hP];have e0: [60]++n++attrsW l0=P:=(by rw[<-hP];simp);have U:=HR.out;rw[e0] at U;have g1:¬9223372036854775807<P.length+2:=om;have g2:¬9223372036854775807<P.length+1:=om;clear hP e0 hD H;by_cases Z:kids.length=0
   ·have hC:kids= []:=Zm Z;have q2:((kids.length:Int)==0)=true:=(by rw[Z];rfl);rw[hC,Nc.nds] at U
    replace U:P++ [47,62]=R:=U
    have hh:=gd U;clear Z hC Q X U HR;go_wp2;go_ret;exact ⟨Zz (λs=>Ending.returned (.string s)) ((Zp6 P [47,62]).trans (by rw[hh.out])),ht.out⟩
   ·have q2:((kids.length:Int)==0)=false:=(by rw[Zv];omega);have hE:(Nc.nds kids).isEmpty=false:=(by cases kids with|nil=>exact absurd rfl Z|cons y t=>rw[Nc.nds];rfl);rw[hE,Ze (by simp)] at U;have hh:=gd U;clear Z hE U HR;go_wp2;go_loopw [3,5] (λu i wr=>∃j:Nat,j<=kids.length/\i=nI j/\u= .string (str (P++ [62]++nodesW ((Nc.nds kids).take j)))/\Ext (w.alloc (.cells (bxE n (.slice A l0.length c) (.slice B kids.length d)).toArray 25)) wr) (λ_ i _=>kids.length - (intOf i).toNat)
    case atStart=>exact ⟨0,Zj _,rfl,Zz Value.string ((Zp6 P [62]).trans (by rw[List.take_zero,nodesW,ZV])),hq.out⟩
    case round=>
     obtain ⟨j,hj,rfl,rfl,J⟩:=hrel;obtain ⟨e0,e1,e2,e3,e4,e5,e6⟩:=hg.out _ J;have hi:=gd (HX.out.trans J);have hL:=gd J;clear d0 d1 d2 d3 d4 d5 d6 J;by_cases H:j<kids.length
     ·obtain ⟨b,yn,YA,yc,yl,YB,yd,yk,rfl,hy,Y⟩:=ZrM HK.out HY.out H;obtain ⟨a0,a1,a2,a3,a4,a5,a6⟩:=Y _ hi.out;have hB:(0:Int)<=(j:Int):=om;have hO:(j:Int)<(kids.length:Int):=om;obtain ⟨hF,hG⟩:=HY.out kids[j] (ZL H);have I:=Zhj H;have F:=Zlz (Nc.nds kids) (j+1);rw[I,Zb] at F;have hz:kids[j].nd.dep<=h:=Zp (Zsu H) hH.out;have ha:=gd (λw' (hx:Ext w w')=>hI.out kids[j] w' hz hG om (RdN.ext hx _ hF));obtain ⟨S,hS⟩:∃S,P++ [62]++nodesW ((Nc.nds kids).take j)=S:=⟨_,rfl⟩;have hm:S.length=P.length+1+(nodesW ((Nc.nds kids).take j)).length:=(by rw[<-hS,Zb,Zb];rfl);have V:Hid (P++ [62]++nodesW ((Nc.nds kids).take (j+1))=S++nodeW kids[j].nd):=gd (by rw[I,<-hS];simp);rw[hS];rw[hy] at ha V F;simp only[Zqg,bxE] at ha;generalize nodeW _=D at ha V F;have g3:¬9223372036854775807<S.length+D.length:=om;clear hF hG I hz Y hy hS hm F Q X
      go_wp2_with (go_at_call 91;refine Za (ha.out _ hi.out) ?_;rintro e w3 ⟨rfl,hT⟩)
      go_roundw
      case rel=>exact ⟨j+1,H,by go_num,Zz Value.string ((Zp6 S D).trans (by rw[V.out])),hL.out.trans hT⟩
      case measure=>simp[intOf];omega
     ·have hp:j=kids.length:=om;subst hp;rw[ZQ (by rw[Jw];exact Zc _)];obtain ⟨S,hS⟩:∃S,P++ [62]++nodesW (Nc.nds kids)=S:=⟨_,rfl⟩;have hm:S.length=P.length+1+(nodesW (Nc.nds kids)).length:=(by rw[<-hS,Zb,Zb];rfl);have hJ:Hid (S++ [60,47]++n++ [62]=R):=gd (by rw[<-hh.out,<-hS];simp);rw[hS];have g3:¬9223372036854775807<S.length+2:=om;have g4:¬9223372036854775807<S.length+2+n.length:=om;have g5:¬9223372036854775807<S.length+2+n.length+1:=om;clear hS hm Q X;go_wp2;go_ret;exact ⟨Zz (λs=>Ending.returned (.string s)) ((Zuv S n).trans (by rw[hJ.out])),hi.out⟩
end
theorem Zsp:∀(l:List AtP) (seen:List (List UInt8)),attrsOk l seen=true->∀(j:Nat) (h:j<l.length),isQ l[j].name=true/\charsOk l[j].value=true/\l[j].name ∉ seen/\∀(i:Nat) (A:i<j),(l[i]'(om)).name≠l[j].name
 | [],_,_,j,h=>absurd h (Nat.not_lt_zero _)
 |a::t,seen,h,j,hj=>by
  rw[attrsOk] at h
  simp only[ZG,Jl,List.contains_eq_mem,X9] at h
  cases j with
  |zero=>exact ⟨h.1.1.2,h.1.2,h.1.1.1.2,λi A=>absurd A (Nat.not_lt_zero _)⟩
  |succ j=>
   obtain ⟨F,H,D,I⟩:=Zsp t _ h.2 j (by simpa using hj)
   refine ⟨F,H,λJ=>D (ZeY _ J),λi A=> ?_⟩
   cases i with
   |zero=>exact λe=>D (List.mem_append_right _ (Zo.2 e.symm))
   |succ i=>exact I i om
theorem Zse:(prog.info? 88).map (λi=>i.size)=some 4:=by kernel_rfl
theorem Ztr (A B C:ByteArray):(#[.string A,.string B,.string C,nI 0]:Array Value).all (λu=>u.oneCell')=true:=by simp[Value.oneCell']
theorem Zsn (N:Nat) (hN:N<=16777216):∀(h:Nat) (x:Nc) (dp:Nat) (w:Wq),x.nd.dep<=h->x.nd.small N->nodeOk dp x.nd=true->RdN w x->
 Calls prog 135 #[.agg (cellsN x).toArray] w λe w'=>e= .returned (.bool true)/\Ext w w':=by
 intro h
 induction h with
 |zero=>intro x dp w hd;obtain ⟨k,s,n,al,l0,ks,kids,t,a⟩:=x;rw[Nc.nd,Nd.dep] at hd;omega
 |succ h ih=>
 intro x dp w hd hs J hr;obtain ⟨hq,ha,J⟩:=Ztq _ _ hs J;obtain ⟨n,A,c,l0,B,d,kids,rfl,hn,hl,hk,hb,hA,hK,hY⟩:=Zp5 hs hr;rw[Nc.nd] at hq ha J;simp only[Nd.name,Nd.attrs,Nd.kids] at hq ha J;have hB:Nds.dep (Nc.nds kids)<=h:=by rw[Nc.nd,Nd.dep] at hd;omega
 have hP:=gd ih;have HY:=gd hY;have HK:=gd hK;have HA:=gd hA;have HB:=gd hb;have hR:=gd (Zsp l0 [] ha);have hS:=gd (λj (hj:j<kids.length)=>J kids[j].nd (by rw[Je];exact Yc (ZL hj)));have hM:=gd hB;have h4:kids.length<=16777216:=om
 have HQ:=gd (λw'=>Zjq (str n) w' (by rw[YN];omega));simp only[Z3,hq] at HQ;have HX:=gd ((Ext.refl w).alloc (.cells (bxE n (.slice A l0.length c) (.slice B kids.length d)).toArray 25));have hz:=Zqf (Ext.refl (w.alloc (.cells (bxE n (.slice A l0.length c) (.slice B kids.length d)).toArray 25)));have Q:=gd (λW=> @Zqf w W n (.slice A l0.length c) (.slice B kids.length d));simp only[bxE] at HX hz Q;obtain ⟨b0,b1,b2,b3,b4,b5,b6⟩:=hz;simp only[Zqg,bxE];have n0:=UK;clear ih hd hs hr hk hb hA hK hY hB hq ha J hn;go_enter func135,ntmps135
 go_wp2_with (go_at_call 180;refine Za (HQ.out _) ?_;rintro e w3 ⟨rfl,K⟩)
 go_loopw [3] (λi wr=>∃j:Nat,j<=l0.length/\i=nI j/\Ext (w.alloc (.cells (bxE n (.slice A l0.length c) (.slice B kids.length d)).toArray 25)) wr) (λi _=>l0.length - (intOf i).toNat)
 case atStart=>exact ⟨0,Zj _,rfl,K⟩
 case round=>
  obtain ⟨j,hj,rfl,H⟩:=hrel;obtain ⟨d0,d1,d2,d3,d4,d5,d6⟩:=Q.out _ H;have hw:=gd (HX.out.trans H);have hf:=gd H;clear b0 b1 b2 b3 b4 b5 b6 H K;by_cases D:j<l0.length
  ·have S:=HB.out l0[j] (ZL D);obtain ⟨ad,c',hv,F⟩:=Zr1 HA.out D S.2.2.2 S.1;injection hv with hv1 hv2 hv3;subst hv1;clear hv2 hv3;obtain ⟨a0,a1,a2,a3⟩:=F _ hw.out;obtain ⟨o1,o2, -,o4⟩:=hR.out j D;have hD:(0:Int)<=(j:Int):=om;have hV:(j:Int)<(l0.length:Int):=om;obtain ⟨bn,Y⟩:∃y,l0[j].name=y:=⟨_,rfl⟩;obtain ⟨bv,hh⟩:∃y,l0[j].value=y:=⟨_,rfl⟩;rw[Y] at a1 o1;rw[hh] at a2 o2;have hU:bn.length<=7:=(by rw[<-Y];exact S.2.1);have h0:bv.length<=N:=(by rw[<-hh];exact S.2.2.1);have ht:=gd (λw'=>Zjq (str bn) w' (by rw[YN];omega));have hp:=gd (λw'=>ZsA (str bv) w' (by rw[YN];unfold maxLen;omega));simp only[Z3,o1,o2] at ht hp;have hQ:Hid (∀i (hi:i<j),((str (l0[i]'(om)).name).toList==(str bn).toList)=false):=gd λi hi=>(by rw[Jr];have:=o4 i hi;rw[Y] at this;simpa using this);clear o1 o2 o4 Y hh S F hU h0
   go_wp2_with (first|(refine Zf rfl 88 (.tmp 4) (.tmp 70) rfl wr.heap.size _ rfl rfl _ _ (Zg _ _) Zse rfl (Ztr _ _ _) ?_;rw[Z0];obtain ⟨W2,X⟩:∃W2,wr.alloc (.cells #[.string (str []),.string (str bn),.string (str bv),nI 0] 88)=W2:=⟨_,rfl⟩;rw[X];(have hG:Ext wr W2:=by rw[<-X];exact (Ext.refl wr).alloc _);(have Z:=λW (I:Ext W2 W)=>I.heap (show W2.heap[wr.heap.size]? =_ by rw[<-X];exact Zg wr (.cells #[.string (str []),.string (str bn),.string (str bv),nI 0] 88)));have c0:=λW (I:Ext W2 W)=>(Zy (Z W I) 0).trans rfl;have c1:=λW (I:Ext W2 W)=>(Zy (Z W I) 1).trans rfl;have c2:=λW (I:Ext W2 W)=>(Zy (Z W I) 2).trans rfl;have g0:=c0 _ (Ext.refl _);have g1:=c1 _ (Ext.refl _))|(go_at_call 180;refine Za (ht.out _) ?_;rintro e w4 ⟨rfl,hc⟩;have g2:=c2 _ hc)|(go_at_call 179;refine Za (hp.out _) ?_;rintro e w5 ⟨rfl,ho⟩))
   have R:=gd (hG.trans (hc.trans ho));have hL:=gd (λW (I:Ext w5 W)=>c1 W ((hc.trans ho).trans I));clear g0 g1 g2 c0 c1 c2 Z hG hc ho X d0 d1 d2 d3 d4 d5 d6 a0 a1 a2 a3;obtain ⟨wP,h1⟩:∃wP:Wq,wP=wr:=⟨_,rfl⟩;subst h1;go_loopw [5] (λi wq=>∃q:Nat,q<=j/\i=nI q/\Ext w5 wq) (λi _=>j - (intOf i).toNat)
   case atStart=>exact ⟨0,Zj _,rfl,Ext.refl _⟩
   case round=>
    obtain ⟨q,h8,rfl,U⟩:=hrel;by_cases hE:q<j
    ·have hF:q<l0.length:=om;have hg:=HB.out l0[q] (ZL hF);obtain ⟨h2,h3,hv,F⟩:=Zr1 HA.out hF hg.2.2.2 hg.1;injection hv with hv1 hv2 hv3;injection hv1 with hv1;subst hv1;clear hv2 hv3;obtain ⟨e0,e1,e2,e3⟩:=F _ (hw.out.trans (R.out.trans U));have h5:=hQ.out q hE;obtain ⟨f0,f1,f2,f3,f4,f5,f6⟩:=Q.out _ (hf.out.trans (R.out.trans U));have g1:=hL.out _ U;have h6:(0:Int)<=(q:Int):=om;have h7:(q:Int)<(l0.length:Int):=om;have r1:∀d:Aft wr,d.w.cell? ⟨w.heap.size,3,none⟩=some (.slice (some ad) l0.length c):=Aft.cell f3;have r2:∀d:Aft wr,d.w.cell? ⟨(ad.add (q*4)).block,(ad.add (q*4)).off+1,none⟩=some (.string (str l0[q].name)):=Aft.cell e1;have r3:∀d:Aft wr,d.w.cell? ⟨wP.heap.size,1,none⟩=some (.string (str bn)):=Aft.cell g1;generalize l0[q].name=qn at*;clear F hg f0 f1 f2 f3 f4 f5 f6 e0 e1 e2 e3 g1;go_wp2;refine rA ?_
     repeat (first|go_big_quiet_step (fail)|quiet_step (fail))
     refine Z9 ?_;rintro _ ⟨hT,rfl⟩;go_wp2;go_roundw
     case rel=>exact ⟨q+1,hE,by go_num,U.trans hT.ext⟩
     case measure=>simp[intOf];omega
    ·have hZ:q=j:=om;subst hZ;go_wp2;go_roundw
     case rel=>exact ⟨q+1,D,by go_num,hf.out.trans (R.out.trans U)⟩
     case measure=>simp[intOf];omega
  ·have hm:j=l0.length:=om;subst hm;go_wp2;go_loopw [6] (λi wr=>∃j:Nat,j<=kids.length/\i=nI j/\Ext (w.alloc (.cells (bxE n (.slice A l0.length c) (.slice B kids.length d)).toArray 25)) wr) (λi _=>kids.length - (intOf i).toNat)
   case atStart=>exact ⟨0,Zj _,rfl,hf.out⟩
   case round=>
    obtain ⟨j,hj,rfl,H⟩:=hrel;obtain ⟨e0,e1,e2,e3,e4,e5,e6⟩:=Q.out _ H;have V:=gd (HX.out.trans H);have hu:=gd H;clear d0 d1 d2 d3 d4 d5 d6 H;by_cases D:j<kids.length
    ·obtain ⟨b,yn,YA,yc,yl,YB,yd,yk,rfl,hy,F⟩:=ZrM HK.out HY.out D;obtain ⟨a0,a1,a2,a3,a4,a5,a6⟩:=F _ V.out;have hD:(0:Int)<=(j:Int):=om;have hV:(j:Int)<(kids.length:Int):=om;obtain ⟨hH,hI⟩:=HY.out kids[j] (ZL D);have hC:kids[j].nd.dep<=h:=Zp (Zsu D) hM.out;have he:=gd (λw' (I:Ext w w')=>hP.out kids[j] (dp+1) w' hC hI (hS.out j D) (RdN.ext I _ hH));have hJ:=gd (λW I=>(F W I).1);have hO:=gd (λW I=>(Q.out W I).2.2.2.2.1);rw[hy] at he;simp only[Zqg,bxE] at he;clear hH hI hC F hy;by_cases hW:0<j;have hX:(0:Int)<(j:Int):=om
     rotate_left
     have hX:¬(0:Int)<(j:Int):=om
     all_goals
      clear hW
      go_wp2_with (go_at_call 135;refine Za (he.out _ V.out) ?_;rintro e w3 ⟨rfl,K⟩;have p0:=hJ.out _ (V.out.trans K);have p4:=hO.out _ (hu.out.trans K))
      go_roundw
      case rel=>exact ⟨j+1,D,by go_num,hu.out.trans K⟩
      case measure=>simp[intOf];omega
    ·have hm:j=kids.length:=om;subst hm;go_wp2;go_ret;exact ⟨rfl,V.out⟩
theorem Zsi (N:Nat) (Q:N<=16777216) (x:Nc) (w:Wq) (I:x.nd.small N) (F:nodeOk 1 x.nd=true) (K:RdN w x):
 Calls prog 90 #[.agg (cellsN x).toArray] w λe w'=>e= .returned (nI 0)/\Ext w w':=by
 have Y:=Zsv _ _ I F;have U:=gd (λw' (R:Ext w w')=>ZsB N Q 100 x w' (by decide) om I (RdN.ext R _ K));have V:=gd (λw' (R:Ext w w')=>Zsn N Q 100 x 1 w' om I F (RdN.ext R _ K));have Z:¬(100:Int)<(x.nd.dep:Int):=om
 obtain ⟨n,A,c,l0,B,d,kids,rfl, -⟩:=Zp5 I K;simp only[Zqg,bxE] at*;generalize Nd.dep _=D at*;have J:=gd ((Ext.refl w).alloc (.cells (bxE n (.slice A l0.length c) (.slice B kids.length d)).toArray 25));have h:=gd (λW=> @Zqf w W n (.slice A l0.length c) (.slice B kids.length d));obtain ⟨b0,b1,b2,b3,b4,b5,X⟩:=h.out _ (Ext.refl _);simp only[bxE] at J b0 b1 b2 b3 b4 b5 X h;clear I F K Y Q;go_enter func90,ntmps90
 go_wp2_with (first|(go_at_call 134;refine Za (U.out _ J.out) ?_;rintro e w3 ⟨rfl,H⟩;obtain ⟨d0,d1,d2,d3,d4,d5,d6⟩:=h.out _ H)|(go_at_call 135;refine Za (V.out _ (J.out.trans H)) ?_;rintro e w4 ⟨rfl,S⟩))
 go_ret;exact ⟨rfl,(J.out.trans H).trans S⟩
section
variable {j:Nat}
theorem ZuJ {a b:List Nc} (h:Nc.nds a=Nc.nds b) (A:j<a.length) (D:j<b.length):a[j].nd=b[j].nd:=by
 rw[Je,Je] at h;have:=Zz (λl=>l[j]?) h;simpa [A,D] using this
theorem ZsH (N:Nat) (hN:N<=16777216):∀(h:Nat) (x y:Nc) (w:Wq),x.nd.dep<=h->x.nd.small N->x.nd=y.nd->RdN w x->RdN w y->
 Calls prog 24 #[.agg (cellsN x).toArray,.agg (cellsN y).toArray,.bool true] w λe w'=>e= .returned (.bool true)/\Ext w w':=by
 intro h
 induction h with
 |zero=>intro x y w hd;obtain ⟨k,s,n,al,l0,ks,kids,t,a⟩:=x;rw[Nc.nd,Nd.dep] at hd;omega
 |succ h ih=>
 intro x y w hd hs he hr hI;obtain ⟨n2,A2,c2,l2,B2,d2,D,rfl, -, -, -, -,hB,hm,hC⟩:=Zp5 (N:=N) (he▸hs) hI;obtain ⟨n,A,c,l0,B,d,kids,rfl,hn,hl,hk,hb,hA,hK,hY⟩:=Zp5 hs hr;have hF:Nds.dep (Nc.nds kids)<=h:=by rw[Nc.nd,Nd.dep] at hd;omega
 rw[Nc.nd,Nc.nd] at he;injection he with _ _ e1 e2 e3;subst e1;subst e2;have J:D.length=kids.length:=by rw[<-Jw kids,e3,Jw]
 rw[J] at hm;have hU:=gd ih;have HY:=gd hY;have HK:=gd hK;have HA:=gd hA;have hw:=gd hC;have hV:=gd (show RNs w (.slice B2 D.length d2) D by rw[J];exact hm);have hQ:=gd hB;have HB:=gd hb;have hT:=gd e3;have hW:=gd J;have hS:=gd hF;have h5:kids.length<=16777216:=om
 obtain ⟨w1,hf⟩:∃w1,w.alloc (.cells (bxE n (.slice A l0.length c) (.slice B kids.length d)).toArray 25)=w1:=⟨_,rfl⟩;obtain ⟨w2,hg⟩:∃w2,w1.alloc (.cells (bxE n (.slice A2 l0.length c2) (.slice B2 kids.length d2)).toArray 25)=w2:=⟨_,rfl⟩;have hJ:Ext w w1:=by rw[<-hf];exact (Ext.refl w).alloc _
 have K:Ext w1 w2:=by rw[<-hg];exact (Ext.refl w1).alloc _
 have HX:=gd (hJ.trans K);have hh:=gd (λW (X:Ext w2 W)=> @Zqf w W n (.slice A l0.length c) (.slice B kids.length d) (by rw[hf];exact K.trans X));have Y:=gd (λW (X:Ext w2 W)=> @Zqf w1 W n (.slice A2 l0.length c2) (.slice B2 kids.length d2) (by rw[hg];exact X));obtain ⟨b0,b1,b2,b3,b4,b5,b6⟩:=hh.out _ (Ext.refl _);obtain ⟨c0,c1,hZ,c3,c4,c5,c6⟩:=Y.out _ (Ext.refl _);simp only[bxE] at hf hg;simp only[Zqg,bxE];rw[J];have q1:((str n).toList !=(str n).toList)=false:=by simp
 have q2:((str []).toList !=(str []).toList)=false:=by simp
 have q3:((l0.length:Int) !=(l0.length:Int))=false:=by simp
 have q4:((kids.length:Int) !=(kids.length:Int))=false:=by simp
 clear ih hd hs hr hI hk hb hA hK hY hB hm hC hF hn J e3 hJ K;go_enter func24,ntmps24;go_wp2;go_loopw [7] (λi wr=>∃j:Nat,j<=l0.length/\i=nI j/\Ext w2 wr) (λi _=>l0.length - (intOf i).toNat)
 case atStart=>exact ⟨0,Zj _,rfl,Ext.refl _⟩
 case round=>
  obtain ⟨j,hj,rfl,H⟩:=hrel;obtain ⟨d0,d1,h1,d3,d4,d5,d6⟩:=hh.out _ H;obtain ⟨f0,f1,f2,f3,f4,f5,f6⟩:=Y.out _ H;have hu:=gd (HX.out.trans H);have hi:=gd H;clear b0 b1 b2 b3 b4 b5 b6 c0 c1 hZ c3 c4 c5 c6 H hf hg;by_cases F:j<l0.length
  ·have U:=HB.out l0[j] (ZL F);obtain ⟨ad,c',hv,Q⟩:=Zr1 HA.out F U.2.2.2 U.1;injection hv with hv1 hv2 hv3;subst hv1;clear hv2 hv3;obtain ⟨h4,c',hv,I⟩:=Zr1 hQ.out F U.2.2.2 U.1;injection hv with hv1 hv2 hv3;subst hv1;clear hv2 hv3;obtain ⟨bn,hD⟩:∃y,l0[j].name=y:=⟨_,rfl⟩;obtain ⟨bv,hE⟩:∃y,l0[j].value=y:=⟨_,rfl⟩;rw[hD,hE] at Q I;have hH:(0:Int)<=(j:Int):=om;have h3:(j:Int)<(l0.length:Int):=om;have r1:((str bn).toList !=(str bn).toList)=false:=(by simp);have r2:((str bv).toList !=(str bv).toList)=false:=(by simp);obtain ⟨a0,a1,a2,a3⟩:=Q _ hu.out;have ht:=gd I;have hR:=gd (λW X=>(Y.out W X).2.2.2.1);clear U Q I hD hE
   go_wp2_with (first|(refine Zf rfl 88 (.tmp 8) (.tmp 76) rfl wr.heap.size _ rfl rfl _ _ (Zg _ _) Zse rfl (Ztr _ _ _) ?_;rw[Z0];obtain ⟨S,ho⟩:∃S,wr.alloc (.cells #[.string (str []),.string (str bn),.string (str bv),nI 0] 88)=S:=⟨_,rfl⟩;rw[ho];(have K:Ext wr S:=by rw[<-ho];exact (Ext.refl wr).alloc _);(have h2:=λW (X:Ext S W)=>X.heap (show S.heap[wr.heap.size]? =_ by rw[<-ho];exact Zg wr (.cells #[.string (str []),.string (str bn),.string (str bv),nI 0] 88)));obtain ⟨k0,k1,k2,k3⟩:=ht.out _ (hu.out.trans K);have k4:=hR.out _ (hi.out.trans K))|(refine Zf rfl 88 (.tmp 9) (.tmp 81) rfl S.heap.size _ rfl rfl _ _ (Zg _ _) Zse rfl (Ztr _ _ _) ?_;rw[Z0];obtain ⟨W3,hp⟩:∃W3,S.alloc (.cells #[.string (str []),.string (str bn),.string (str bv),nI 0] 88)=W3:=⟨_,rfl⟩;rw[hp];(have hL:Ext S W3:=by rw[<-hp];exact (Ext.refl S).alloc _);(have hc:W3.heap[S.heap.size]? =some (.cells #[.string (str []),.string (str bn),.string (str bv),nI 0] 88 (0,0)):=by rw[<-hp];exact Zg S _);have ha:=h2 _ hL;have m0:=(Zy hc 0).trans rfl;have m1:=(Zy hc 1).trans rfl;have m2:=(Zy hc 2).trans rfl;have m3:=(Zy hc 3).trans rfl;have h6:=(Zy ha 0).trans rfl;have l1:=(Zy ha 1).trans rfl;have l2:=(Zy ha 2).trans rfl;have l3:=(Zy ha 3).trans rfl))
   go_roundw
   case rel=>exact ⟨j+1,F,by go_num,hi.out.trans (K.trans hL)⟩
   case measure=>simp[intOf];omega
  ·have hq:j=l0.length:=om;subst hq;go_wp2;go_loopw [10] (λi wr=>∃j:Nat,j<=kids.length/\i=nI j/\Ext w2 wr) (λi _=>kids.length - (intOf i).toNat)
   case atStart=>exact ⟨0,Zj _,rfl,hi.out⟩
   case round=>
    obtain ⟨j,hj,rfl,H⟩:=hrel;have g4:=(hh.out _ H).2.2.2.2.1;have k4:=(Y.out _ H).2.2.2.2.1;have R:=gd (HX.out.trans H);have hX:=gd H;clear d0 d1 h1 d3 d4 d5 d6 f0 f1 f2 f3 f4 f5 f6 H;by_cases F:j<kids.length
    ·have V:j<D.length:=(by rw[hW.out];exact F);obtain ⟨b,yn,YA,yc,yl,YB,yd,yk,rfl,hy,Q⟩:=ZrM HK.out HY.out F;obtain ⟨b2,zn,ZA,zc,zl,ZB,zd,zk,rfl,hz,I⟩:=ZrM hV.out hw.out V;obtain ⟨a0,a1,a2,a3,a4,a5,a6⟩:=Q _ R.out;obtain ⟨p0,p1,p2,p3,p4,p5,p6⟩:=I _ R.out;have hH:(0:Int)<=(j:Int):=om;have h3:(j:Int)<(kids.length:Int):=om;obtain ⟨hM,hO⟩:=HY.out kids[j] (ZL F);obtain ⟨hP, -⟩:=hw.out D[j] (ZL V);have hG:kids[j].nd.dep<=h:=Zp (Zsu F) hS.out;have Z:=gd (λw' (X:Ext w w')=>hU.out kids[j] D[j] w' hG hO (ZuJ hT.out F V) (RdN.ext X _ hM) (RdN.ext X _ hP));rw[hy,hz] at Z;simp only[Zqg,bxE] at Z;have r1:∀dd:Aft wr,dd.w.cell? ⟨w.heap.size,4,none⟩=some (.slice (some b) kids.length d):=Aft.cell g4;have r2:∀dd:Aft wr,dd.w.cell? ⟨w1.heap.size,4,none⟩=some (.slice (some b2) kids.length d2):=Aft.cell k4;have s0:=Aft.cell a0;have s1:=Aft.cell a1;have s2:=Aft.cell a2;have s3:=Aft.cell a3;have s4:=Aft.cell a4;have s5:=Aft.cell a5;have s6:=Aft.cell a6;have u0:=Aft.cell p0;have u1:=Aft.cell p1;have u2:=Aft.cell p2;have u3:=Aft.cell p3;have u4:=Aft.cell p4;have u5:=Aft.cell p5;have u6:=Aft.cell p6;clear hM hO hP hG Q I hy hz;go_wp2;refine rA ?_
     repeat (first|go_big_quiet_step ((go_at_call 24;with_reducible exact ZE (Z.out _ (R.out.trans (Aft.ext _)))))|quiet_step ((go_at_call 24;with_reducible exact ZE (Z.out _ (R.out.trans (Aft.ext _))))))
     refine Z9 ?_;rintro _ ⟨h0,rfl⟩;go_wp2;go_roundw
     case rel=>exact ⟨j+1,F,by go_num,hX.out.trans h0.ext⟩
     case measure=>simp[intOf];omega
    ·have hq:j=kids.length:=om;subst hq;go_wp2;go_ret;exact ⟨rfl,R.out⟩
end
section
attribute [local go_sem] calm1
theorem ZuQ (n:List UInt8):(#[nI 0,eS,.string (str n),sN,sN,eS,nI 0]:Array Value).all (λu=>u.oneCell')=true:=by simp[Value.oneCell']
theorem ZrV (N:Nat) (nm:List UInt8) (v:Value) (l:List Nc) (w:Wq) (hv:RNs w v l) (hk:∀y∈l,RdN w y/\y.nd.small N) (hn:l.length<=16777216):
 Calls prog 47 #[.string (str nm),v] w λe w'=>∃ks,e= .returned (.agg #[nI 0,eS,.string (str nm),sN,ks,eS,nI 0])/\w'.ownsRow w.heap.size 25 7 ks l.length (flatN l)/\Ext w w':=by
 obtain ⟨i0,hr,hw,hz,hA⟩:=YH Vh;obtain ⟨A,c,hp, -, -⟩:=RNs.form hv;subst hp;have HV:=gd hv;have HK:=gd hk;have HN:=gd hn;clear hv hk hn;go_enter func47,ntmps47
 go_wp2_with (first|(refine Zf rfl 25 (.tmp 5) (.tmp 8) rfl (w.heap.size+1) _ rfl rfl _ _ (YS w _ _) ZJ rfl (ZuQ nm) ?_))
 go_loopw [6] (λv wr=>∃(j:Nat) (u:Value),j<=l.length/\v=nI j/\EbX wr (w.heap.size+1) nm u/\wr.heap[w.heap.size]? =some (.cells #[nI 0,eS,eS,sN,sN,eS,nI 0] 25 (0,0))/\wr.ownsRow (w.heap.size+2) 25 7 u j (flatN (l.take j))/\Ext w wr/\w.heap.size+2<=wr.heap.size) (λv _=>l.length - (intOf v).toNat)
 case atStart=>exact ⟨0,sN,Zj _,rfl,ZF _ _ _ _ _ _ (YS w _ _),(Yf _ _ _ _ om).trans ((Uc _ _ (by rw[Zu];omega)).trans (Zg w _)),YF _ _ _ _,(((Ext.refl w).alloc _).alloc _).setRow om _,(by have h:=(Yx ((w.alloc (.cells #[nI 0,eS,eS,sN,sN,eS,nI 0] 25)).alloc (.cells #[nI 0,eS,eS,sN,sN,eS,nI 0] 25)) (w.heap.size+1) #[nI 0,eS,.string (str nm),sN,sN,eS,nI 0]).size;rw[Zu,Zu] at h;exact h)⟩
 case round=>
  obtain ⟨j,u,hj,rfl,Y,ha,H,hx,hws⟩:=hrel;obtain ⟨U,uc,rfl⟩:=Ym H;obtain ⟨d0,d1,d2,d3,d4,d5,d6,d7⟩:=Y.cells;by_cases Z:j<l.length
  ·obtain ⟨b,yn,YA,yc,S,YB,yd,R,rfl,hy,hg⟩:=ZrM HV.out HK.out Z;have hF:=HN.out;have hD:(0:Int)<=(j:Int):=om;have hE:(j:Int)<(l.length:Int):=om;have hd:=ZiL Z;rw[hy] at hd;have hm:=gd hd;obtain ⟨HM,HB⟩:=Vj (n:=j) om;have HM:=gd HM;have HB:=gd HB;obtain ⟨a0,a1,a2,a3,a4,a5,a6⟩:=hg _ hx;have hi:=Xp (x:= .mk 0 [] yn (.slice YA S.length yc) S (.slice YB R.length yd) R [] 0) ⟨⟨_,_,_,rfl⟩,⟨_,_,_,rfl⟩⟩;have I:=gd Y;have ho:=gd ha;have F:=gd H;have HX:=gd hx;have hb:=gd hws;have HA:=gd hg;clear hd hy hx H Y ha hws;go_wp2;obtain ⟨q,hq⟩:∃q,b.add (j*7)=q:=⟨_,rfl⟩;have hc:q.block<wr.heap.size:=(by rw[<-hq];exact ZW wr _ a0);have hH:q.block<w.heap.size:=(by rw[<-hq];exact ZW w _ (HA.out _ (Ext.refl w)).1);rw[hq] at a0 a1 a2 a3 a4 a5 a6;refine rN ?_;change wpAny _ _ _ _ _ _ _ (World.drew _);refine tH 0 (.pointer (some ⟨w.heap.size+1,4,none⟩)) ?_;refine tH 2 (.slice (some b) l.length c) ?_;refine tH 3 (nI j) ?_;refine XS (i:=1) (v:= .slice U j uc) (λw'=>EbX w' (w.heap.size+1) nm (.slice U j uc)/\w'.heap[q.block]? =wr.heap[q.block]?) 9 rfl (by kernel_rfl) (λ_ _ _ h=>h) (Or.inl ⟨by rfl,λw' V=>by have hG:=V.1.cells.2.2.2.2.1;go_simp⟩) ⟨I.out,rfl⟩ ?_;refine tT 4 (.pointer (some (b.add (j*7)))) rfl (λw' V=>by go_simp) ⟨I.out,rfl⟩ ?_;rw[hq];refine tT 5 (.agg #[nI 0,.string (str []),.string (str yn),.slice YA S.length yc,.slice YB R.length yd,.string (str []),nI 0]) rfl (λw' V=>by
    have e0:=(Z8 (a:=q) V.2).trans a0;have e1:=(Z8 (a:=⟨q.block,q.off+1,none⟩) V.2).trans a1;have e2:=(Z8 (a:=⟨q.block,q.off+2,none⟩) V.2).trans a2;have e3:=(Z8 (a:=⟨q.block,q.off+3,none⟩) V.2).trans a3;have e4:=(Z8 (a:=⟨q.block,q.off+4,none⟩) V.2).trans a4;have e5:=(Z8 (a:=⟨q.block,q.off+5,none⟩) V.2).trans a5;have e6:=(Z8 (a:=⟨q.block,q.off+6,none⟩) V.2).trans a6;go_simp) ⟨I.out,rfl⟩ ?_
   refine XQ 9 [] (AtIx.cons rfl AtIx.nil) [6,7,8] (AtIx.cons rfl (AtIx.cons rfl (AtIx.cons rfl AtIx.nil))) rfl (by kernel_rfl) ?_;have hu:=(Ext.refl wr).drew;have D:Ext wr (wr.drew.alloc (.cells #[nI 0,.string (str []),.string (str yn),.slice YA S.length yc,.slice YB R.length yd,.string (str []),nI 0] 25)):=hu.alloc _;have hh:w.heap.size+1<wr.heap.size:=(by have:=hb.out;omega);refine Yg (λK hK=> ?_);go_simp;refine hK _ _ ⟨D.heap I.out,Uc _ _ hc⟩ ?_;clear hK K;have hf:=gd (Ya F.out D);have he:Hid (RSl (wr.drew.alloc (.cells #[nI 0,.string (str []),.string (str yn),.slice YA S.length yc,.slice YB R.length yd,.string (str []),nI 0] 25)) 7 (.slice (some ⟨wr.heap.size,0,none⟩) 1 1) 1 (cellsN (.mk 0 [] yn (.slice YA S.length yc) S (.slice YB R.length yd) R [] 0))):=gd (Yo (w:=wr.drew) (cs:=cellsN (.mk 0 [] yn (.slice YA S.length yc) S (.slice YB R.length yd) R [] 0)) rfl (by decide));refine Yg (λK hK=> ?_);refine Z1 _ (by rfl) (.tmp 30) (.tmp 35) _ (by rfl) (w.heap.size+2) 25 i0 _ 7 112 underlying23 hr hw hz hA rfl (by decide) _ j (flatN (l.take j)) (by rfl) hf.out _ 1 (cellsN (.mk 0 [] yn (.slice YA S.length yc) S (.slice YB R.length yd) R [] 0)) (by rfl) he.out hi HM.out HB.out (Zp hb.out D.size) ?_;intro v9 w9 Q J hC;have X:EbX w9 (w.heap.size+1) nm (.slice U j uc):=(J.block _ (YZ hh D.size) (λe=>by have:=(F.out.lt _ e.symm).1;omega)).trans (D.heap I.out);have hB:=(J.block _ (YZ (Nat.lt_of_succ_lt hh) D.size) (λe=>by have:=(F.out.lt _ e.symm).1;omega)).trans (D.heap ho.out);have hl:w9.heap[q.block]? =wr.heap[q.block]?:=(J.block _ (YZ hc D.size) (λe=>by have:=(F.out.lt _ e.symm).1;omega)).trans (Uc _ _ hc);refine hK _ _ ⟨X,hl⟩ ?_;clear hK K;refine Yg (λK hK=> ?_);go_simp;refine hK _ _ ⟨X,hl⟩ ?_;clear hK K;refine X0 ?_;obtain ⟨V9,c9,ht⟩:=Ym Q;subst ht;obtain ⟨g0,g1,g2,g3,g4,g5,g6,g7⟩:=X.cells;go_wp2;go_roundw
   case rel=>
    refine ⟨j+1,.slice V9 (j+1) c9,Z,by go_num,Yh w9 (w.heap.size+1) 4 _ _ _ X,(Z4 w9 ⟨w.heap.size+1,4,none⟩ w.heap.size _ (by show w.heap.size≠w.heap.size+1;omega)).trans hB,?_,(Ext.app (HX.out.trans D) J hf.out om).setCell (by show _<=w.heap.size+1;omega) _,?_⟩
    ·rw[hm.out];exact Zp2 Q (by show w.heap.size+1<_;omega) _
    ·have h1:=J.size;have h2:=D.size;have h3:=hb.out;have h4:=Zp h2 h1;clear h1 h2;simp[World.setCell];omega
   case measure=>simp[intOf];omega
  ·have hs:j=l.length:=om;subst hs;rw[List.take_length] at H;clear Z hj;have F:=gd H;have HX:=gd hx;clear H hx Y
   go_wp2_with (first|(refine Zf rfl 25 (.tmp 4) (.tmp 38) rfl w.heap.size _ rfl rfl _ _ ha ZJ rfl ZpO ?_))
   ((try simp only[Exit.inBlock,Exit.then]);refine ZD (Xe rfl _ _ _ _ _ _ _ rfl (ZF _ _ _ _ _ _ ha) underlying25 rfl ZJ) rfl ?_);exact ⟨_,rfl,X4 (Jk F.out om _) om,HX.out.setRow (Zc _) _⟩
end
section
variable {j:Nat}
attribute [local go_sem] calm1
theorem Zun {ps:List (List UInt8×List UInt8)} (h:j<ps.length):(pairS ps)[2*j]? =some (str ps[j].1)/\(pairS ps)[2*j+1]? =some (str ps[j].2):=by
 have e:pairS ps=pairS (ps.take j)++pairS (ps.drop j):=by unfold pairS;rw[<-UZ,<-ZS,Yz]
 have A:(pairS (ps.take j)).length=2*j:=by rw[ZeE,ZM];omega
 rw[Zjk h] at e;rw[e];refine ⟨?_,?_⟩
 ·rw[Yt om,A,Nat.sub_self];rfl
 ·rw[Yt om,A,show 2*j+1 - 2*j=1 by omega];rfl
theorem ZrZ (n:List UInt8) (al:Value) (l0:List AtP) (m2 d:Nat) (B0:Option Addr) (v:Value) (ps:List (List UInt8×List UInt8)) (w:Wq) (ha:RAts w al l0) (hv:RStrs w v (pairS ps)) (hn:l0.length+ps.length<=1000000):
 Calls prog 49 #[.agg #[nI 0,eS,.string (str n),al,.slice B0 m2 d,eS,nI 0],v] w λe w'=>
  ∃AB ac,e= .returned (.agg #[nI 0,eS,.string (str n),.slice AB (l0.length+ps.length) ac,.slice B0 m2 d,eS,nI 0])/\w'.ownsRow w.heap.size 88 4 (.slice AB (l0.length+ps.length) ac) (l0.length+ps.length) (flatA (l0++ps.map pairA))/\Ext w w':=by
 obtain ⟨i0,hD,hF,hG,hH⟩:=YH Zfl;obtain ⟨A,c,hY, -, -⟩:=ha.form;subst hY;obtain ⟨D,dc,h4, -, -⟩:=RStrs.form hv;subst h4;have hl:=ZeE ps;obtain ⟨q,hq⟩:∃q,(pairS ps).length=q:=⟨_,rfl⟩;rw[hq] at hv hl|-;have hP:=gd hl;obtain ⟨W1,V⟩:∃W1,(w.alloc (.cells #[nI 0,eS,.string (str n),.slice A l0.length c,.slice B0 m2 d,eS,nI 0] 25)).alloc (.cells #[nI 0,eS,eS,sN,sN,eS,nI 0] 25)=W1:=⟨_,rfl⟩;have hf:Ext w W1:=by rw[<-V];exact ((Ext.refl w).alloc _).alloc _
 have hk:BxN W1 w.heap.size 0 [] n (.slice A l0.length c) (.slice B0 m2 d) [] 0:=by rw[<-V];exact (Uc _ _ (by rw[Zu];omega)).trans (Zg w _)
 have hJ:W1.heap[w.heap.size+1]? =some (.cells #[nI 0,eS,eS,sN,sN,eS,nI 0] 25 (0,0)):=by rw[<-V];exact YS w _ _
 have he:W1.heap.size=w.heap.size+2:=by rw[<-V,Zu,Zu]
 have b3:=hk.cells.2.2.2.1;have hR:=gd hf;have hM:=gd hk;have hV:=gd hJ;have hh:=gd he;have HV:=gd (hv.ext hf);have HN:=gd hn;have hs:=gd (Jx (w:=W1) (base:=W1.heap.size) (e:=88) (size:=4) (n:=0) (cs:= []) (Zc _) rfl (by decide));have HA:=gd ((ha.ext hf).ext ((Ext.refl W1).alloc (.cells #[] 88)));have hW:=((Ext.refl W1).alloc (.cells #[] 88)).cell b3;clear hf hk hJ he ha hv hl hq;go_enter func49,ntmps49;have h1:l0.length+ps.length<=1000000:=HN.out
 go_wp2_with (first|(at_builtin;refine ZO _ rfl (.tmp 7) (.tmp 9) _ rfl W1.heap.size 88 i0 _ 4 56 underlying22 hD hF hG hH rfl (by decide) _ 0 [] rfl hs.out _ l0.length (flatA l0) rfl HA.out (ZiJ l0) (by unfold maxLen;omega) om (by rw[Zu];omega) ?_;intro v9 w9 F U X))
 have hU:=gd (Ext.app ((Ext.refl W1).alloc (.cells #[] 88)) U hs.out (Zc _));rw[YI,Z7] at F;have hO:=gd F;clear U X F V b3 hW;go_wp2;go_loopw [5,6] (λu v wr=>∃(j t:Nat),j<=ps.length/\v=nI t/\t=2*j/\wr.ownsRow W1.heap.size 88 4 u (l0.length+j) (flatA (l0++(ps.take j).map pairA))/\Ext W1 wr) (λ_ v _=>q - (intOf v).toNat)
 case atStart=>exact ⟨0,0,Zj _,rfl,rfl,(by rw[List.take_zero,Z2,ZV];exact hO.out),hU.out⟩
 case round=>
  obtain ⟨j,t,hj,rfl,ht,I,hx⟩:=hrel;have h2:=hP.out;obtain ⟨G,gc,rfl⟩:=Ym I;have h1:l0.length+ps.length<=1000000:=HN.out;by_cases hd:j<ps.length
  ·obtain ⟨e1,e2⟩:=Zun hd;rw[<-ht] at e1 e2;obtain ⟨ad,hA,J⟩:=RSl.at1' HV.out t (.string (str ps[j].1)) (by rw[Yp,e1];rfl);obtain ⟨h7,S,Q⟩:=RSl.at1' HV.out (t+1) (.string (str ps[j].2)) (by rw[Yp,e2];rfl);rw[hA] at S;injection S with S;subst S;subst hA;have hm:(ps.take (j+1)).map pairA=(ps.take j).map pairA++ [pairA ps[j]]:=(by rw[Zr hd,ZS];rfl);obtain ⟨p,hp⟩:∃p,ps[j]=p:=⟨_,rfl⟩;rw[hp] at J Q hm;have hZ:=J;have J:=hx.cell J;have Q:=hx.cell Q;have hQ:=gd hm;have hg:=gd I;have hi:=gd hx;have g0:(0:Int)<=(t:Int):=om;have g1:(t:Int)<(q:Int):=om;have g2:(t:Int)+1<(q:Int):=om;have g3:(0:Int)<=(t:Int)+1:=om;have h6:t<=2000000:=om;have HT:=gd ht;have h9:IntKind.i64.wrap ((t:Int)+1)=(t:Int)+1:=IntWalk.i64_in _ om;have hB:ad.add (t+1)=⟨ad.block,ad.off+(t+1),none⟩:=Ze om;rw[hB] at Q;have q1:∀d:Aft wr,d.w.cell? (ad.add t)=some (.string (str p.1)):=Aft.cell J;have q2:∀d:Aft wr,d.w.cell? (ad.add (t+1))=some (.string (str p.2)):=Aft.cell Q;clear hm hp I hx e1 e2 ht h2;go_wp2;refine rN ?_;change wpAny _ _ _ _ _ _ _ (World.drew _);have ho:=(Ext.refl wr).drew;have hX:ad.block<W1.heap.size:=(by have h:=ZW W1 _ hZ;rwa [U1] at h);have H:wr.drew.cell? (ad.add t)=some (.string (str p.1))/\wr.drew.cell? ⟨ad.block,ad.off+(t+1),none⟩=some (.string (str p.2)):=⟨ho.cell J,ho.cell Q⟩;refine YD (λw'=>w'.cell? (ad.add t)=some (.string (str p.1))/\w'.cell? ⟨ad.block,ad.off+(t+1),none⟩=some (.string (str p.2))) ?_;refine tG 0 (.slice G (l0.length+j) gc) H ?_;refine tG 1 (.slice (some ad) q dc) H ?_;refine tG 2 (nI ((t:Int))) H ?_;refine tG 3 (.pointer (some (ad.add t))) H ?_;refine tS 4 (.string (str p.1)) rfl (λw' hS=>by have q1:=hS.1;go_simp) H ?_;refine tG 5 (.slice (some ad) q dc) H ?_;refine tG 6 (nI ((t:Int))) H ?_;refine tG 7 (nI ((t:Int)+1)) H ?_;refine tS 8 (.pointer (some (ad.add (t+1)))) rfl (λw' hS=>by go_simp) H ?_;refine tS 9 (.string (str p.2)) rfl (λw' hS=>by have q1:=hS.2;go_simp) H ?_;refine tG 10 (.agg #[eS,.string (str p.1),.string (str p.2),nI 0]) H ?_;go_simp;refine sS 11 λK hK=> ?_;go_simp;have R:=ho.alloc (.cells #[eS,.string (str p.1),.string (str p.2),nI 0] 88);refine hK _ _ ⟨R.cell J,R.cell Q⟩ ?_;clear hK K;have hr:Hid (RSl (wr.drew.alloc (.cells #[eS,.string (str p.1),.string (str p.2),nI 0] 88)) 4 (.slice (some ⟨wr.heap.size,0,none⟩) 1 1) 1 (cellsA (pairA p))):=gd (Yo (w:=wr.drew) (n:=1) (cs:=cellsA (pairA p)) rfl (by decide));have hu:=gd (Ya hg.out R);refine sS 12 λK hK=> ?_;refine Z1 _ (by rfl) (.tmp 18) (.tmp 29) _ (by rfl) W1.heap.size 88 i0 _ 4 56 underlying22 hD hF hG hH rfl (by decide) _ (l0.length+j) (flatA (l0++(ps.take j).map pairA)) (by rfl) hu.out _ 1 (cellsA (pairA p)) (by rfl) hr.out (Uo _) (by unfold maxLen;omega) om (hi.out.trans R).size ?_;intro v9 w9 F U X;have h5:Ext W1 w9:=Ext.app (hi.out.trans R) U hu.out (Zc _);have hb:w9.heap[ad.block]? =(wr.drew.alloc (.cells #[eS,.string (str p.1),.string (str p.2),nI 0] 88)).heap[ad.block]?:=U.block _ (YZ hX (hi.out.trans R).size) (λe=>by have:=(hg.out.lt _ e.symm).1;omega);have hz:w9.cell? (ad.add t)=some (.string (str p.1))/\w9.cell? ⟨ad.block,ad.off+(t+1),none⟩=some (.string (str p.2)):=⟨(Z8 (by rw[U1];exact hb)).trans (R.cell J),(Z8 (a:=⟨ad.block,ad.off+(t+1),none⟩) hb).trans (R.cell Q)⟩;obtain ⟨V9,c9,h3⟩:=Ym F;subst h3;have hw:Hid (w9.ownsRow W1.heap.size 88 4 (.slice V9 (l0.length+j+1) c9) (l0.length+(j+1)) (flatA (l0++(ps.take (j+1)).map pairA))):=(by show w9.ownsRow _ _ _ _ _ _;rw[hQ.out,<-Zt,G5,G7];exact F);have hy:=gd h5;refine hK _ _ hz ?_;clear hK K F U X;refine sS 13 λK hK=> ?_;go_simp;refine hK _ _ hz ?_;clear hK K;refine sE ?_;go_wp2;go_roundw
   case rel=>exact ⟨j+1,t+2,hd,by go_num,(by have:=HT.out;omega),hw.out,hy.out⟩
   case measure=>simp[intOf];omega
  ·have h0:j=ps.length:=om;subst h0;rw[List.take_length] at I;have h8:¬2*(ps.length:Int)+1<2*(ps.length:Int):=om;have HO:=gd I;have hc:=hM.out.ext hx;have hL:=hx.heap hV.out;obtain ⟨b0,b1,b2,b3,b4,b5,b6⟩:=hc.cells;obtain ⟨-, -,f3, -⟩:=hc.frozen;obtain ⟨W5,Z⟩:∃W5,wr.setCell ⟨w.heap.size,3,none⟩ (.slice G (l0.length+ps.length) gc)=W5:=⟨_,rfl⟩;have hC:BxN W5 w.heap.size 0 [] n (.slice G (l0.length+ps.length) gc) (.slice B0 m2 d) [] 0:=(by rw[<-Z];exact hc.attrs _);have hI:W5.heap[w.heap.size+1]? =some (.cells #[nI 0,eS,eS,sN,sN,eS,nI 0] 25 (0,0)):=(by rw[<-Z];exact (Z4 wr ⟨w.heap.size,3,none⟩ (w.heap.size+1) _ (by show w.heap.size+1≠w.heap.size;omega)).trans hL);have he:=hh.out;have Y:W5.ownsRow W1.heap.size 88 4 (.slice G (l0.length+ps.length) gc) (l0.length+ps.length) (flatA (l0++ps.map pairA)):=(by rw[<-Z];exact Zp2 I (by show w.heap.size<_;omega) _);have hE:Ext w W5:=(by rw[<-Z];exact (hR.out.trans hx).setCell (Zc _) _);obtain ⟨e0,e1,e2,e3,e4,e5,e6⟩:=hC.cells;have hN:=gd Y;have hT:=gd hE;clear I hx hc hL Y hE hC hd hj he
   go_wp2_with (first|(refine Zf rfl 25 (.tmp 4) (.tmp 33) rfl (w.heap.size+1) _ rfl rfl _ _ hI ZJ rfl YU ?_))
   ((try simp only[Exit.inBlock,Exit.then]);refine ZD (Xe rfl _ _ _ _ _ _ _ rfl (ZF _ _ _ _ _ _ hI) underlying25 rfl ZJ) rfl ?_);exact ⟨_,_,rfl,X4 (Jk hN.out (by rw[hh.out];omega) _) (by rw[hh.out];omega),hT.out.setRow (Yu _) _⟩
end
section
variable {B C N kc m n:Nat} {f:Fd} {u:Value} {w wr:World} {xs:List Value} {y:Nc}
def FO (f d:Nat) (M:List Fd):List Nd:=foldsP (outsP f (d+1)) d (M.length+1) M
theorem ZuF (f d:Nat):FO f d []= []:=by unfold FO;rw[foldsP]
theorem Zut (f d:Nat) (x:Fd) (t:List Fd):FO f d (x::t)=withP (elemN outlineL (outsP f (d+1) ((x::t).take (runN d (x::t))))) [(textL,lst (pathAt x d))]::FO f d ((x::t).drop (runN d (x::t))):=by
 have h:=ZcM d x t;unfold FO;rw[foldsP]
 congr 1
 exact ZaK _ d _ _ _ (by rw[Zk];show _ - runN d (x::t)<_;rw[Zd];omega) (Yy _)
theorem Zux (f d:Nat) (L:List Fd):outsP (f+1) d L=(L.take (ownN d L)).map feedN++FO f d (L.drop (ownN d L)):=by
 have h:L.takeWhile (λx=>decide (x.path.length=d))=L.take (ownN d L):=YQ.1 (Xx _);rw[outsP,h,show (L.take (ownN d L)).length=ownN d L by rw[<-h];rfl]
 congr 1
 unfold FO;exact ZaK _ d _ _ _ (by rw[Zk];omega) (Yy _)
def FolR (w:Wq) (R:List Nd) (e:Ending) (w':Wq):Prop:=∃u O,e= .returned u/\HNs w' w.heap.size u O/\Nc.nds O=R/\newNs w.heap.size O/\Ext w w'
structure FoI (w:Wq) (u:Value) (O:List Nc) (R:List Nd) (wr:Wq):Prop where
 nodes:HNs wr w.heap.size u O
 nds:Nc.nds O=R
 new:newNs w.heap.size O
 ext:Ext w wr
 len:O.length<=16777216
theorem FoI.ext_ {w:Wq} {u:Value} {O:List Nc} {R:List Nd} {wr w':Wq} (h:FoI w u O R wr) (A:Ext wr w'):FoI w u O R w':=⟨h.nodes.ext A,h.nds,h.new,h.ext.trans A,h.len⟩
theorem FoI.snoc {w:Wq} {u u9:Value} {O:List Nc} {R:List Nd} {wr F:Wq} {y:Nc} (h:FoI w u O R wr) (Q:RdN wr y) (K:∀k,k<w.heap.size->awayN (some k) y) (I:awayN u.ownBlock y)
 (A:F.ownsRow w.heap.size 25 7 u9 (O.length+1) (flatN O++cellsN y)) (H:wr.grownBy F u.ownBlock) (D:u9.ownBlock=u.ownBlock\/u9.ownBlock=some wr.heap.size) (J:O.length+1<=16777216):FoI w u9 (O++ [y]) (R++ [y.nd]) F:=
 ⟨h.nodes.snoc Q I A H D,by rw[JY,h.nds,Nc.nds,Nc.nds],h.new.snoc K,Ext.app h.ext H h.nodes.row (Zc _),by rw[Zb];exact J⟩
theorem FoI.row {w:Wq} {u:Value} {O:List Nc} {R:List Nd} {wr W:Wq} (h:FoI w u O R wr) (A:Ext wr W) {g:Nat} (D:wr.heap.size<=g) (cs:Array Value):FoI w u O R (W.setRow g cs):=by
 have F:=h.ext.size;refine ⟨(h.nodes.ext A).grown (Yx W g cs) (λe=>by have:=(h.nodes.row.lt _ e).2;omega) (GY (w:=wr) (λk e=>by injection e with e;omega) O h.nodes.rd),h.nds,h.new,(h.ext.trans A).setRow om _,h.len⟩
theorem Zst {al:Value} {ys:List Value} {KB:Option Addr} (h:w.ownsRow B 25 7 u n xs) (F:w.ownsRow C 88 4 al m ys) (A:ys≠ []):
 awayN u.ownBlock (leafC KB kc al f)/\awayN u.ownBlock (leafC2 KB kc al f):=by
 have D:=ZeC F h (by decide) A;refine ⟨?_,?_⟩
 ·unfold leafC;rw[awayN];exact ⟨Or.inr D,Or.inl rfl,by rw[awayNs];trivial⟩
 ·unfold leafC2;rw[awayN];exact ⟨Or.inr D,Or.inl rfl,by rw[awayNs];trivial⟩
theorem ZtJ (h:n<=16777216):n+1<=maxLen/\(n+1)*112<=140737488355328:=by unfold maxLen;omega
theorem ZrP (l0:List AtP) (al:Value) (KB:Option Addr) (n kc:Nat) (v:Value) (ps:List (List UInt8×List UInt8)) (w:Wq) (h:RAts w al l0) (D:RStrs w v (pairS ps)) (A:l0.length+ps.length<=1000000):
 Calls prog 49 #[.agg #[nI 0,eS,.string ⟨#[111,117,116,108,105,110,101]⟩,al,.slice KB n kc,eS,nI 0],v] w λe w'=>
  ∃AB ac,e= .returned (.agg #[nI 0,eS,.string ⟨#[111,117,116,108,105,110,101]⟩,.slice AB (l0.length+ps.length) ac,.slice KB n kc,eS,nI 0])/\w'.ownsRow w.heap.size 88 4 (.slice AB (l0.length+ps.length) ac) (l0.length+ps.length) (flatA (l0++ps.map pairA))/\Ext w w':=
 ZrZ outlineL al l0 n kc KB v ps w h D A
theorem ZtC (v:Value) (title id:ByteArray) (w:Wq) (h:RStrs w v (pairS [(typeL,rssL),(textL,lst title),(xmlUrlL,lst id)])):
 Calls prog 49 #[.agg #[nI 0,eS,.string ⟨#[111,117,116,108,105,110,101]⟩,sN,sN,eS,nI 0],v] w λe w'=>
  ∃AB ac,e= .returned (.agg #[nI 0,eS,.string ⟨#[111,117,116,108,105,110,101]⟩,.slice AB 3 ac,sN,eS,nI 0])/\w'.ownsRow w.heap.size 88 4 (.slice AB 3 ac) 3 (flatA ([(typeL,rssL),(textL,lst title),(xmlUrlL,lst id)].map pairA))/\Ext w w':=
 ZrP [] sN none 0 0 v [(typeL,rssL),(textL,lst title),(xmlUrlL,lst id)] w (RAts.nil w) h (by show 0+3<=1000000;omega)
theorem Zs4 (AB:Option Addr) (ac:Nat) (v:Value) (title id link:ByteArray) (w:Wq) (D:RAts w (.slice AB 3 ac) ([(typeL,rssL),(textL,lst title),(xmlUrlL,lst id)].map pairA)) (F:RStrs w v (pairS [(htmlUrlL,lst link)])):
 Calls prog 49 #[.agg #[nI 0,eS,.string ⟨#[111,117,116,108,105,110,101]⟩,.slice AB 3 ac,sN,eS,nI 0],v] w λe w'=>
  ∃A h,e= .returned (.agg #[nI 0,eS,.string ⟨#[111,117,116,108,105,110,101]⟩,.slice A 4 h,sN,eS,nI 0])/\w'.ownsRow w.heap.size 88 4 (.slice A 4 h) 4 (flatA ([(typeL,rssL),(textL,lst title),(xmlUrlL,lst id)].map pairA++ [(htmlUrlL,lst link)].map pairA))/\Ext w w':=
 ZrP ([(typeL,rssL),(textL,lst title),(xmlUrlL,lst id)].map pairA) (.slice AB 3 ac) none 0 0 v [(htmlUrlL,lst link)] w D F (by show 3+1<=1000000;omega)
theorem ZtB (KB:Option Addr) (n kc:Nat) (v:Value) (name:ByteArray) (w:Wq) (h:RStrs w v (pairS [(textL,lst name)])):
 Calls prog 49 #[.agg #[nI 0,eS,.string ⟨#[111,117,116,108,105,110,101]⟩,sN,.slice KB n kc,eS,nI 0],v] w λe w'=>
  ∃AB ac,e= .returned (.agg #[nI 0,eS,.string ⟨#[111,117,116,108,105,110,101]⟩,.slice AB 1 ac,.slice KB n kc,eS,nI 0])/\w'.ownsRow w.heap.size 88 4 (.slice AB 1 ac) 1 (flatA [pairA (textL,lst name)])/\Ext w w':=
 ZrP [] sN KB n kc v [(textL,lst name)] w (RAts.nil w) h (by show 0+1<=1000000;omega)
theorem Ztz (N:Nat) (v:Value) (l:List Nc) (w:Wq) (F:RNs w v l) (A:∀y∈l,RdN w y/\y.nd.small N) (D:l.length<=16777216):Calls prog 47 #[.string ⟨#[111,117,116,108,105,110,101]⟩,v] w λe w'=>
 ∃KB kc,e= .returned (.agg #[nI 0,eS,.string ⟨#[111,117,116,108,105,110,101]⟩,sN,.slice KB l.length kc,eS,nI 0])/\w'.ownsRow w.heap.size 25 7 (.slice KB l.length kc) l.length (flatN l)/\Ext w w':=by
 refine Za (ZrV N outlineL v l w F A D) ?_;rintro e w' ⟨ks,rfl,h,H⟩;obtain ⟨KB,kc,rfl⟩:=Ym h;exact ⟨KB,kc,rfl,h,H⟩
theorem ZtD (h:y.nd.small N):y.kind=0:=by
 obtain ⟨k,s,n,al,l0,ks,kids,t,a⟩:=y;rw[Nc.nd,Nd.small] at h;exact h.1
theorem ZtP {X V w5 D U:Wq} {u2 H F:Value} {O2 h:List Nc} {R2:List Nd} {S:ByteArray} (hI:FoI w u O2 R2 wr) (hc:Ext wr X) (ha:HNs V X.heap.size u2 h) (K:newNs X.heap.size h) (h4:Ext X V) (I:w5.ownsRow V.heap.size 25 7 H h.length (flatN h)) (Y:Ext V w5) (A:Ext w5 D)
 (J:U.ownsRow D.heap.size 88 4 F 1 (flatA [pairA (textL,lst S)])) (Z:Ext D U):FoI w u O2 R2 U/\RdN U (foldC F H h S)/\(∀k,k<w.heap.size->awayN (some k) (foldC F H h S))/\awayN u.ownBlock (foldC F H h S):=by
 have s1:=hI.ext.size;have s2:=hc.size;have s4:=h4.size;have s5:=Y.size;have s6:=A.size;have R:RdN U (foldC F H h S):=ZmL J (Ya I (A.trans Z)) (RdNs.ext ((Y.trans A).trans Z) h ha.rd);have Q:∀k,k<wr.heap.size->awayN (some k) (foldC F H h S):=ZkQ J om I om (K.mono s2);exact ⟨hI.ext_ (hc.trans (h4.trans (Y.trans (A.trans Z)))),R,λk hk=>Q k om,Zmk Q R (λk e=>(hI.nodes.row.lt k e).2)⟩
end
end Go.Proofs.YtnlafkgkcnenfaaGreatDoor
