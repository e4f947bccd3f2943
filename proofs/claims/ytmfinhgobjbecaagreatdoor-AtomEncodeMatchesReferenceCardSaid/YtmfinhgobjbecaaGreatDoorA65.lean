/- Parts of the proof: contracts and plain laws. -/
import Derived.Test.YtmfinhgobjbecaaGreatDoorA64
namespace Go.Proofs.YtmfinhgobjbecaaGreatDoor
open Go Go.RowKit _root_.Go.Proofs.Tryz
set_option linter.unusedVariables false
set_option linter.unusedSimpArgs false
set_option maxRecDepth 100000
set_option maxHeartbeats 16000000
section
set_option linter.unusedSimpArgs false
attribute [local go_sem] Zph strOfNums_size
def pdN (n:Nat):Nat->List UInt8
 |0=> []
 |k+1=>dg (n / 10 ^ k)::pdN n k
theorem Zwn (n:Nat):∀k,(pdN n k).length=k
 |0=>rfl
 |k+1=>by rw[pdN,ZqK,Zwn]
theorem ZvP (n width:Nat) (w:World) (hw:width<=4) (V:n<10 ^ width):
 Calls prog 133 #[.int .i64 (n:Nat),.int .i64 (width:Nat)] w λe w'=>e= .returned (.string (str (pdN n width)))/\Ext w w':=by
 have hb:n<10000:=Zrx V (Nat.pow_le_pow_right om hw);have HN:=gd V;clear V;go_enter func133,ntmps133;go_wp2;go_loopw [0,5] (λx s wr=>∃k m:Nat,k<=width/\m<=9999/\Hid (m=n / 10 ^ k)/\x= .int .i64 (m:Nat)/\s= .string (str (pdN n k))/\Ext w wr) (λ_ s _=>width - (match s with| .string b=>b.size|_=>0))
 case atStart=>exact ⟨0,n,om,om,by show n=n / 1;simp,rfl,rfl,Ext.refl _⟩
 case round=>
  obtain ⟨k,m,hk,hm,A,rfl,rfl,Y⟩:=hrel;have h:(str (pdN n k)).size=k:=by simp[str,ByteArray.size,Zwn]
  by_cases H:k<width
  ·obtain ⟨c,J⟩:∃c,m % 10=c:=⟨_,rfl⟩;have O:(m:Int) % 10=(c:Int):=om;obtain ⟨d,Q⟩:∃d,m / 10=d:=⟨_,rfl⟩;have R:(m:Int) / 10=(d:Int):=om;have D:d<=9999:=om;have ha:c<=9:=om;have F:Hid (d=n / 10 ^ (k+1)):=(by show _=_;rw[<-Q,A.out,Nat.div_div_eq_div_mul,Nat.pow_succ]);have C:Hid (str (pdN n (k+1))=str (UInt8.ofNat (48+c)::pdN n k)):=(by show _=_;rw[pdN,<-A.out,<-J];rfl);obtain ⟨S,I⟩:∃S,pdN n k=S:=⟨_,rfl⟩;rw[I] at h C;simp only[I];have b2:(k:Int)<(width:Int):=om;have X:((str S).size:Int)=(k:Int):=(by rw[h]);clear A I;rcases ZrX m with Z|Z
   ·have b1:¬(0:Int)<(m:Int):=om;obtain rfl:c=0:=om;obtain rfl:d=0:=om;subst Z;rw[show ((0:Nat):Int)=0 from rfl];clear J Q O R b1;go_wp2;go_roundw
    case rel=>exact ⟨k+1,0,H,D,F,rfl,by rw[C.out];exact ZqS Value.string (ZdZ _ _ _ rfl),Y.alloc _⟩
    case measure=>show width - (strOfNums [48]++str S).size<width - (str S).size;rw[ZsL,h];simp[strOfNums_size];omega
   ·have b1:(0:Int)<(m:Int):=om;clear J Q;go_wp2;go_roundw
    case rel=>exact ⟨k+1,d,H,D,F,rfl,by rw[C.out];exact ZqS Value.string (ZdZ _ _ _ om),Y.alloc _⟩
    case measure=>show width - (strOfNums [48+(c:Int)]++str S).size<width - (str S).size;rw[ZsL,h];simp[strOfNums_size];omega
  ·obtain rfl:k=width:=om;have U:m=0:=(by rw[A.out];exact Nat.div_eq_of_lt HN.out);subst U;have b1:¬(0:Int)<((0:Nat):Int):=om;have X:((str (pdN n k)).size:Int)=(k:Int):=(by rw[h]);rw[show ((0:Nat):Int)=0 from rfl];go_wp2;go_ret;exact ⟨rfl,Y⟩
end
section
set_option linter.unusedSimpArgs false
theorem Zvu (n:Nat) (w:World) (A:n<100):
 Calls prog 133 #[.int .i64 (n:Nat),.int .i64 2] w λe w'=>e= .returned (.string (str (pad2 n)))/\Ext w w':=by
 have h:=ZvP n 2 w om A;have e:pdN n 2=pad2 n:=by simp[pdN,pad2]
 rwa [e] at h
theorem Zv7 (n:Nat) (w:World) (A:n<10000):
 Calls prog 133 #[.int .i64 (n:Nat),.int .i64 4] w λe w'=>e= .returned (.string (str (pad4 n)))/\Ext w w':=by
 have h:=ZvP n 4 w om A;have e:pdN n 4=pad4 n:=by simp[pdN,pad4]
 rwa [e] at h
theorem ZvU (t:Int) (w:World) (ht:inT t=true):
 Calls prog 89 #[.int .i64 t] w λe w'=>e= .returned (.tuple #[.string (str (fmtL t)),.int .i64 0])/\Ext w w':=by
 obtain ⟨hu,Y⟩:=ZlZ ht;have hr: -62135596800<=t/\t<=253402300799:=by simpa [inT] using ht
 have C:=Zb3 (sinceN t / 86400);have S:=C.top Y;have U:=gd (λw'=>Zwg (sinceN t / 86400) w' Y);have I:fmtL t=fmtD (dateN (sinceN t / 86400)).1 (dateN (sinceN t / 86400)).2.1 (dateN (sinceN t / 86400)).2.2 (sinceN t % 86400):=rfl;obtain ⟨N,X⟩:∃N,sinceN t / 86400=N:=⟨_,rfl⟩;obtain ⟨s,hs⟩:∃s,sinceN t % 86400=s:=⟨_,rfl⟩;obtain ⟨u,A⟩:∃u,sinceN t=u:=⟨_,rfl⟩;have hE:(u:Int) / 86400=(N:Int):=by rw[A] at X;omega
 have hF:(u:Int) % 86400=(s:Int):=by rw[A] at hs;omega
 have hG:s<86400:=om
 rw[X,hs] at I;rw[X] at C S U Y;rw[A] at hu;have hJ:t+62135596800=(u:Int):=hu.symm;have hI:(u:Int)<=315537897599:=om
 obtain ⟨q,hq⟩:∃q,dateN N=q:=⟨_,rfl⟩;rw[hq] at C S U I;obtain ⟨y,m,d⟩:=q;simp only at C S U I;have hm:m<100:=by have:=C.2.2.1;omega
 have hk:d<100:=by have:=C.2.2.2.2.1;have:=(JK y m).2;omega
 have S:y<10000:=om
 obtain ⟨D,O⟩:∃x,s / 3600=x:=⟨_,rfl⟩;obtain ⟨V,J⟩:∃x,s / 60=x:=⟨_,rfl⟩;obtain ⟨F,Q⟩:∃x,V % 60=x:=⟨_,rfl⟩;obtain ⟨H,R⟩:∃x,s % 60=x:=⟨_,rfl⟩;rw[fmtD,J,O,Q,R] at I;have hH:(s:Int)<=86399:=om
 have h3:((s:Int) / 3600)=(D:Int):=om
 have hA:((s:Int) / 60)=(V:Int):=om
 have hB:((V:Int) % 60)=(F:Int):=om
 have h6:((s:Int) % 60)=(H:Int):=om
 have hh:D<100:=om
 have hi:F<100:=om
 have hj:H<100:=om
 have hC:(V:Int)<=86399:=om
 have a1:¬t< -62135596800:=om
 have a2:¬253402300799<t:=om
 have hD:(N:Int)<=3652058:=om
 have hc:=gd (λw'=>Zv7 y w' S);have hf:=gd (λw'=>Zvu m w' hm);have he:=gd (λw'=>Zvu d w' hk);have Z:=gd (λw'=>Zvu D w' hh);have ha:=gd (λw'=>Zvu F w' hi);have hb:=gd (λw'=>Zvu H w' hj);have z4:(str (pad4 y)).size=4:=rfl;have z2:∀n,(str (pad2 n)).size=2:=λ_=>rfl;have zm:=z2 m;have zd:=z2 d;have z1:=z2 D;have z22:=z2 F;have z3:=z2 H;have hg:Hid (str (pad4 y)++⟨#[45]⟩++str (pad2 m)++⟨#[45]⟩++str (pad2 d)++⟨#[84]⟩++str (pad2 D)++⟨#[58]⟩++str (pad2 F)++⟨#[58]⟩++str (pad2 H)++⟨#[90]⟩=str (fmtL t)):=by show _=_;rw[I];refine Yj ?_;simp
 generalize str (pad4 y)=P4 at*;generalize str (pad2 m)=Pm at*;generalize str (pad2 d)=Pd at*;generalize str (pad2 D)=P1 at*;generalize str (pad2 F)=P2 at*;generalize str (pad2 H)=P3 at*;clear X hs A hq C I ht hu hr O J Q R z2 Y;go_enter func89,ntmps89
 go_wp2_with (first|(go_at_call 132;have h:=U.out w;refine ZqD h ?_;clear h;rintro e w0 ⟨rfl,rfl⟩)|(go_at_call 133;have h:=hc.out w0;(with_reducible refine ZqD h ?_);clear h;rintro e w1 ⟨rfl,hl⟩)|(go_at_call 133;have h:=hf.out w1;(with_reducible refine ZqD h ?_);clear h;rintro e w2 ⟨rfl,ho⟩)|(go_at_call 133;have h:=he.out w2;(with_reducible refine ZqD h ?_);clear h;rintro e w3 ⟨rfl,hp⟩)|(go_at_call 133;have h:=Z.out w3;(with_reducible refine ZqD h ?_);clear h;rintro e w4 ⟨rfl,hv⟩)|(go_at_call 133;have h:=ha.out w4;(with_reducible refine ZqD h ?_);clear h;rintro e w5 ⟨rfl,hw⟩)|(go_at_call 133;have h:=hb.out w5;(with_reducible refine ZqD h ?_);clear h;rintro e w6 ⟨rfl,hx⟩))
 go_ret2
 exact ⟨by rw[<-hg.out];rfl,((((hl.trans ho).trans hp).trans hv).trans hw).trans hx⟩
end
section
set_option linter.unusedSimpArgs false
theorem Zwi (v:Value) (link:List UInt8) (w:World) (C:RStrs w v (pairS [(hrefL,link)])):
 Calls prog 45 #[.agg #[.int .i64 0,.string ⟨#[]⟩,.string ⟨#[108,105,110,107]⟩,.slice none 0 0,.slice none 0 0,.string ⟨#[]⟩,.int .i64 0],v] w λe w'=>
  ∃h A,e= .returned (.agg #[.int .i64 0,.string ⟨#[]⟩,.string ⟨#[108,105,110,107]⟩,.slice h 1 A,.slice none 0 0,.string ⟨#[]⟩,.int .i64 0])/\w'.ownsRow w.heap.size 53 4 (.slice h 1 A) 1 (flatA [pairA (hrefL,link)])/\Ext w w':=
 ZvL linkL (.slice none 0 0) [] 0 0 none v [(hrefL,link)] w (RAts.nil w) C (by show 0+1<=1000000;omega)
def dstR1:Nat->Nat|2=>8|5=>11|_=>12
theorem ZvB (id title link:List UInt8) (hH:ByteArray) (t:Int) (w:World) (ht:inT t=true):
 Calls prog 42 #[.agg #[.string (str id),.string (str title),.string (str link),.string hH,.int .i64 t]] w λe w'=>∃A c l,e= .returned (.slice A (List.length l) c)/\HNs w' w.heap.size (.slice A (List.length l) c) l/\(∀y∈l,y.kind=0/\∀k,k<w.heap.size->awayN (some k) y)/\l.map Nc.nd=fieldsL id title link t []/\Ext w w':=by
 obtain ⟨i0,hN,hR,hT,hU⟩:=ZrE Xn;obtain ⟨W0,hI⟩:∃W0,w.alloc (.cells #[.string (str id),.string (str title),.string (str link),.string hH,.int .i64 t] 61)=W0:=⟨_,rfl⟩;have ga:Ext w W0:=by rw[<-hI];exact (Ext.refl w).alloc _
 have hZ:W0.heap[w.heap.size]? =some (.cells #[.string (str id),.string (str title),.string (str link),.string hH,.int .i64 t] 61 (0,0)):=by rw[<-hI];exact ZqJ w _
 have D:=gd ga;have H:=gd hZ;have hA:=gd Zvy;have hW:=gd (λ(w':World)=>ZvU t w' ht);clear ga hZ ht;go_enter func42,ntmps42;go_wp2;refine rN ?_;change wpAny _ _ _ _ _ _ _ (World.drew _);have Y:=(Ext.refl W0).drew;refine Yn (i:=0) (v:= .pointer (some ⟨w.heap.size,0,none⟩)) (λw'=>Ext W0 w') 7 rfl (by kernel_rfl) (λ_ _ _ h=>h) (Or.inl ⟨by rfl,λw' hS=>by go_simp⟩) Y ?_;refine tT 1 (.string (str id)) rfl (λw' hS=>by have q0:=ZqI _ _ 0 _ _ _ (Ext.heap hS H.out);have q1:=ZqI _ _ 1 _ _ _ (Ext.heap hS H.out);have q2:=ZqI _ _ 2 _ _ _ (Ext.heap hS H.out);go_simp) Y ?_;refine tT 3 (.pointer (some ⟨w.heap.size,1,none⟩)) rfl (λw' hS=>by go_simp) Y ?_;refine tT 4 (.string (str title)) rfl (λw' hS=>by have q0:=ZqI _ _ 0 _ _ _ (Ext.heap hS H.out);have q1:=ZqI _ _ 1 _ _ _ (Ext.heap hS H.out);have q2:=ZqI _ _ 2 _ _ _ (Ext.heap hS H.out);go_simp) Y ?_;go_simp;refine QG (m:=1) (f:=3) rfl #[true,true,true,true,true,true,true,false] (λa0 a' w'=>∃(x1 x2:Value) (zb:Nat) (y1 y2:Nc),a'=(((a0.put (some 8) x1).put (some 11) x2).put (some 12) (.slice (some ⟨zb,0,none⟩) 2 2))/\Ext W0 w'/\HNs w' W0.heap.size (.slice (some ⟨zb,0,none⟩) 2 2) [y1,y2]/\NK W0.heap.size y1 (textN idL id)/\NK W0.heap.size y2 (textN titleL title)) ?_ ?_
 ·refine Jy [2,5,6] dstR1 dep1 (FE1 id title W0.heap.size) rfl (by kernel_rfl) (by decide) (by decide) (by kernel_rfl) (by decide) (by kernel_rfl) (λi _=>Zol i) (λw' hx=>Y.trans hx) ?_ ?_
  ·intro i hi A1 w' vs hx S R;have hG:=gd (Y.trans hx).size;simp only[Zq1,Zri,ZrD] at hi;rcases hi with rfl|rfl|rfl
   ·have e1:A1.tmps[7]?.getD undef= .string (str id):=YM ((S 7 (by decide)).trans rfl);clear S R hx;refine Jq rfl rfl (λK hK=> ?_);go_simp;go_at_call 43;refine ZqD (hA.out idL id w') ?_;rintro e V ⟨y,rfl,I,hJ,hv⟩;exact hK _ _ hv ⟨y,rfl,I,I.kind,I.nd,λk O=>hJ k (Zrx O hG.out)⟩
   ·have e1:A1.tmps[10]?.getD undef= .string (str title):=YM ((S 10 (by decide)).trans rfl);clear S R hx;refine Jq rfl rfl (λK hK=> ?_);go_simp;go_at_call 43;refine ZqD (hA.out titleL title w') ?_;rintro e V ⟨y,rfl,I,hJ,hv⟩;exact hK _ _ hv ⟨y,rfl,I,I.kind,I.nd,λk O=>hJ k (Zrx O hG.out)⟩
   ·obtain ⟨e1,y1,e1',f1,g1⟩:=R 2 (by simp[dep1]);obtain ⟨e2,y2,e2',f2,g2⟩:=R 5 (by simp[dep1]);have e1:A1.tmps[8]?.getD undef=vs 2:=YM e1;have e2:A1.tmps[11]?.getD undef=vs 5:=YM e2;obtain ⟨P,p,r,Q,q,s,gc, -, -⟩:=ZR y1 (RdN.sl f1.rd);obtain ⟨P2,p2,r2,Q2,q2,s2,ge, -, -⟩:=ZR y2 (RdN.sl f2.rd);rw[e1',gc] at e1;rw[e2',ge] at e2;clear S R hx e1' e2';refine Jq rfl rfl (λK hK=> ?_);go_simp;refine hK _ _ ((Ext.refl w').alloc _) ⟨_,y1,y2,rfl,⟨?_,?_,?_⟩,g1,g2⟩
    ·have gg:flatN [y1,y2]=cellsN y1++cellsN y2:=(by unfold flatN;simp);rw[gg,gc,ge];exact World.ownsRow_lit w' _ 2 hG.out (by decide) rfl
    ·exact (ZD _).2 λy I=>RdN.ext ((Ext.refl w').alloc _) _ (by rcases Zq1.1 I with rfl|I;exact f1.rd;rw[ZqU.1 I];exact f2.rd)
    ·exact (Zx _).2 λy I=>Yo (by rcases Zq1.1 I with rfl|I;exact f1.rd;rw[ZqU.1 I];exact f2.rd) (ZqE _)
  ·intro vs w' hx hf;obtain ⟨zb,y1,y2,h1,h2,h3,h4⟩:=hf 6 (by decide);exact ⟨by kernel_rfl,vs 2,vs 5,zb,y1,y2,by rw[<-h1];kernel_rfl,Y.trans hx,by rw[<-h1];exact h2,h3,h4⟩
 rintro a' w2 ⟨x1,x2,zb,y1,y2,rfl,hu,h7,he,hg⟩;refine Xk (i:=7) rfl (by kernel_rfl) (λK hK=> ?_);go_simp;refine hK _ _ (λ_=>hu) ?_;clear hK K;refine KP (by kernel_rfl) ?_;clear Y
 try rw[hI]
 by_cases hd:link= []
 ·have q4:(str link).toList.isEmpty=true:=by rw[hd];exact Xh
  have hF:=gd hd;clear hd;have k2:=ZqI _ _ 2 _ _ _ (Ext.heap hu H.out);have hl:=gd h7;have hb:=gd hu;have k3:=ZqI _ _ 4 _ _ _ (Ext.heap hb.out H.out)
  go_wp2_with (first|(go_at_call 43;(refine ZqD (hA.out updatedL (fmtL t) w7) ?_);rintro e w8 ⟨J,rfl,C,ho,hP⟩;obtain ⟨P8,p8,r8,Q8,q8,s8,hz, -, -⟩:=ZR J (RdN.sl C.rd);rw[hz];have U:=hw.trans hP;have X:=hb.out.trans U;have hr:=HNs.ext hl.out (U.trans ((Ext.refl w8).alloc (.cells #[.int .i64 (J.kind:Nat),.string (str J.space),.string (str J.name),.slice P8 p8 r8,.slice Q8 q8 s8,.string (str J.text),.int .i64 (J.at_:Nat)] 25)));have Z:=gd hr;have hs:=hw.size;have hm:=gd hs;clear hr hs)|(go_at_call 89;(refine ZqD (hW.out w2) ?_);rintro e w7 ⟨rfl,hw⟩)|(at_builtin;refine Za _ rfl (.tmp 30) (.tmp 33) _ rfl W0.heap.size 25 i0 _ 7 112 underlying23 hN hR hT hU rfl (by decide) _ 2 (flatN [y1,y2]) rfl Z.out.row _ 1 (cellsN J) rfl (by rw[hz];exact Zj rfl (by decide)) (ZH (RdN.sl C.rd)) (by decide) (by decide) ?_ ?_;((have q1:=X.size);simp;omega);intro v9 w9 F hp hn;have hM:=HNs.snoc (x:=J) Z.out (RdN.ext ((Ext.refl w8).alloc _) _ C.rd) (U1 ho C.rd (λk e=>Zrx (hl.out.row.lt k e).2 hm.out)) F hp hn;obtain ⟨A9,c9,hO⟩:=Zp F;subst hO;have hQ:=Ext.app (X.alloc _) hp Z.out.row (ZqE _);have ha:=gd hM))
  go_ret;have hq:([y1,y2]++ [J]).length=3:=rfl;refine ⟨A9,c9,[y1,y2]++ [J],(by rw[hq];rfl),⟨Xy ha.out.row D.out.size,ha.out.rd,ha.out.away⟩,?_,?_,D.out.trans hQ⟩
  ·intro y I;simp only[Zq0,Zq1,Zri,ZrD] at I;rcases I with (rfl|rfl)|rfl
   ·exact ⟨he.1,λk O=>he.2.2 k (Zrx O D.out.size)⟩
   ·exact ⟨hg.1,λk O=>hg.2.2 k (Zrx O D.out.size)⟩
   ·exact ⟨C.kind,λk O=>ho k (Zrx O (ZqM D.out.size (ZqM hb.out.size hm.out)))⟩
  ·unfold fieldsL;rw[ZqN hF.out];simp[he.2.1,hg.2.1,C.nd]
 ·have q4:=JX hd;have hF:=gd hd;clear hd;have k2:=ZqI _ _ 2 _ _ _ (Ext.heap hu H.out);have hl:=gd h7;have hb:=gd hu
  go_wp2_with (first|(go_at_call 43;(refine ZqD (hA.out updatedL (fmtL t) w7) ?_);rintro e w8 ⟨J,rfl,C,ho,hP⟩;obtain ⟨P8,p8,r8,Q8,q8,s8,hz, -, -⟩:=ZR J (RdN.sl C.rd);rw[hz];have U:=hw.trans hP;have X:=hY.out.trans U;have hr:=HNs.ext hX.out (U.trans ((Ext.refl w8).alloc (.cells #[.int .i64 (J.kind:Nat),.string (str J.space),.string (str J.name),.slice P8 p8 r8,.slice Q8 q8 s8,.string (str J.text),.int .i64 (J.at_:Nat)] 25)));have Z:=gd hr;have hs:=hw.size;have hm:=gd hs;clear hr hs)|(go_at_call 89;(refine ZqD (hW.out w5) ?_);rintro e w7 ⟨rfl,hw⟩)|(at_builtin;refine Za _ rfl (.tmp 30) (.tmp 33) _ rfl W0.heap.size 25 i0 _ 7 112 underlying23 hN hR hT hU rfl (by decide) _ 3 (flatN ([y1,y2]++ [yl])) rfl Z.out.row _ 1 (cellsN J) rfl (by rw[hz];exact Zj rfl (by decide)) (ZH (RdN.sl C.rd)) (by decide) (by decide) ?_ ?_;((have q1:=X.size);simp;omega);intro v9 w9 F hp hn;have hM:=HNs.snoc (x:=J) Z.out (RdN.ext ((Ext.refl w8).alloc _) _ C.rd) (U1 ho C.rd (λk e=>Zrx (hX.out.row.lt k e).2 hm.out)) F hp hn;obtain ⟨A9,c9,hO⟩:=Zp F;subst hO;have hQ:=Ext.app (X.alloc _) hp Z.out.row (ZqE _);have ha:=gd hM)|(go_at_call 45;(refine ZqD (Zwi _ link _ (Zj (w:=w2) (n:=2) (cs:= [.string (str hrefL),.string (str link)]) rfl (by decide))) ?_);rintro e w4 ⟨LA,lc,rfl,h8,gi⟩;obtain ⟨yl,hB⟩:∃yl:Nc,(.mk 0 [] linkL (.slice LA 1 lc) [pairA (hrefL,link)] (.slice none 0 0) [] [] 0)=yl:=⟨_,rfl⟩;have hE:Ext w2 w4:=((Ext.refl w2).alloc _).trans gi;(have gf:cellsN yl= [.int .i64 0,.string ⟨#[]⟩,.string ⟨#[108,105,110,107]⟩,.slice LA 1 lc,.slice none 0 0,.string ⟨#[]⟩,.int .i64 0]:=by rw[<-hB];rfl);(have h6:NdOf w4 yl (linkE link):=by rw[<-hB];exact ⟨by rw[RdN];exact ⟨RSl.of_own h8,RNs.nil w4,by rw[RdNs];trivial⟩,rfl,by rw[Nc.nd];rfl⟩);(have h0:∀k,k<w2.heap.size->awayN (some k) yl:=λk O=>by rw[<-hB,awayN];exact ⟨Or.inr (λe=>by have q0:=(h8.lt k e).1;rw[Zd] at q0;omega),Or.inl rfl,by rw[awayNs];trivial⟩);have h9:=HNs.ext hl.out (hE.trans ((Ext.refl w4).alloc (.cells #[.int .i64 0,.string ⟨#[]⟩,.string ⟨#[108,105,110,107]⟩,.slice LA 1 lc,.slice none 0 0,.string ⟨#[]⟩,.int .i64 0] 25)));have hj:=gd h9;have hC:=gd hE;have hh:=gd h6;have hV:=gd h0;clear h9 h6 h0 hB)|(at_builtin;refine Za _ rfl (.tmp 16) (.tmp 22) _ rfl W0.heap.size 25 i0 _ 7 112 underlying23 hN hR hT hU rfl (by decide) _ 2 (flatN [y1,y2]) rfl hj.out.row _ 1 (cellsN yl) rfl (by rw[gf];exact Zj rfl (by decide)) (ZH (RdN.sl hh.out.rd)) (by decide) (by decide) ?_ ?_;((have q1:=(hb.out.trans hC.out).size);simp;omega);intro v5 w5 hc hL hD;have h5:=HNs.snoc (x:=yl) hj.out (RdN.ext ((Ext.refl w4).alloc _) _ hh.out.rd) (U1 hV.out hh.out.rd (λk e=>(hl.out.row.lt k e).2)) hc hL hD;obtain ⟨A5,c5,gh⟩:=Zp hc;subst gh;have gb:=Ext.app ((hb.out.trans hC.out).alloc _) hL hj.out.row (ZqE _);have hX:=gd h5;have hY:=gd gb;have k4:=ZqI _ _ 4 _ _ _ (Ext.heap gb H.out);clear h5 hc hL hD))
  go_ret;have hq:([y1,y2]++ [yl]++ [J]).length=4:=rfl;refine ⟨A9,c9,[y1,y2]++ [yl]++ [J],(by rw[hq];rfl),⟨Xy ha.out.row D.out.size,ha.out.rd,ha.out.away⟩,?_,?_,D.out.trans hQ⟩
  ·intro y I;simp only[Zq0,Zq1,Zri,ZrD] at I;rcases I with ((rfl|rfl)|rfl)|rfl
   ·exact ⟨he.1,λk O=>he.2.2 k (Zrx O D.out.size)⟩
   ·exact ⟨hg.1,λk O=>hg.2.2 k (Zrx O D.out.size)⟩
   ·exact ⟨hh.out.kind,λk O=>hV.out k (Zrx O (D.out.trans hb.out).size)⟩
   ·exact ⟨C.kind,λk O=>ho k (Zrx O (ZqM D.out.size (ZqM hY.out.size hm.out)))⟩
  ·unfold fieldsL;rw[ZqH hF.out];simp[he.2.1,hg.2.1,hh.out.nd,C.nd]
end
section
set_option linter.unusedSimpArgs false
theorem Zwo (x:Fc) (w:World) (hr:RdC w x) (hk:fokS x.f) (ha:okF x.f=false\/okF x.f=true/\0<x.f.path.length):
 Calls prog 16 #[.agg (cellsC x).toArray] w λe w'=>e= .returned (.tuple #[.agg #[.int .i64 0,.string ⟨#[]⟩,.string ⟨#[]⟩,.slice none 0 0,.slice none 0 0,.string ⟨#[]⟩,.int .i64 0],.int .i64 22])/\Ext w w':=by
 have O:=gd (λ(w':World) (h:Ext w w')=>X9 x w' (hr.ext h) hk);obtain ⟨C,Y⟩:∃C:Int,(if okF x.f=true then (0:Int) else 22)=C:=⟨_,rfl⟩;rw[Y] at O;have hb:C=22\/C=0/\0<x.f.path.length:=by
  rcases ha with h|⟨h,h2⟩
  ·rw[h] at Y;exact Or.inl Y.symm
  ·rw[h] at Y;exact Or.inr ⟨Y.symm,h2⟩
 clear Y ha;obtain ⟨xp,hh,⟨A,X,D,J,R,I⟩⟩:=x;obtain ⟨hd,he⟩:=hr;dsimp only at*;obtain ⟨xA,xc,rfl, -, -⟩:=hd.form;obtain ⟨xB,xd,rfl, -, -⟩:=he.form;clear hk;unfold cellsC fCells at O|-;dsimp only at O|-;obtain ⟨W0,V⟩:∃W0,(w.alloc (.cells #[.slice xA A.length xc,.string X,.string D,.string J,.int .i64 R,.slice xB I.length xd] 32)).alloc (.cells #[.int .i64 0,.string ⟨#[]⟩,.string ⟨#[]⟩,.slice none 0 0,.slice none 0 0,.string ⟨#[]⟩,.int .i64 0] 25)=W0:=⟨_,rfl⟩;have U:Ext w W0:=by rw[<-V];exact ((Ext.refl w).alloc _).alloc _
 have hc:W0.heap[w.heap.size+1]? =some (.cells #[.int .i64 0,.string ⟨#[]⟩,.string ⟨#[]⟩,.slice none 0 0,.slice none 0 0,.string ⟨#[]⟩,.int .i64 0] 25 (0,0)):=by
  rw[<-V];have:=ZqJ (w.alloc (.cells #[.slice xA A.length xc,.string X,.string D,.string J,.int .i64 R,.slice xB I.length xd] 32)) (.cells #[.int .i64 0,.string ⟨#[]⟩,.string ⟨#[]⟩,.slice none 0 0,.slice none 0 0,.string ⟨#[]⟩,.int .i64 0] 25)
  rwa [Zd] at this
 have F:∀i v,(#[.slice xA A.length xc,.string X,.string D,.string J,.int .i64 R,.slice xB I.length xd]:Array Value)[i]? =some v->W0.cell? ⟨w.heap.size,i,none⟩=some v:=λi v h=>by rw[<-V];exact ((Ext.refl (w.alloc _)).alloc _).boxed i v h
 have c0:=F 0 _ rfl;have c1:=F 1 _ rfl;have c2:=F 2 _ rfl;have c3:=F 3 _ rfl;have c4:=F 4 _ rfl;have c5:=F 5 _ rfl;clear F;have S:=gd U;have Z:=gd hc;clear U hc hd he;rcases hb with rfl|⟨rfl,hg⟩
 case inl=>
  go_enter func16,ntmps16
  go_wp2_with (first|(go_at_call 20;have hz:=O.out W0 S.out;refine ZqD hz ?_;clear hz;rintro e w2 ⟨rfl,H⟩;have d0:=H.cell c0;have Q:=H.heap Z.out)|(refine ZqF rfl 25 (.tmp 2) (.tmp 16) rfl (w.heap.size+1) #[.int .i64 0,.string ⟨#[]⟩,.string ⟨#[]⟩,.slice none 0 0,.slice none 0 0,.string ⟨#[]⟩,.int .i64 0] rfl rfl _ _ Q Ze rfl Zwm ?_))
  ((try simp only[Exit.inBlock,Exit.then]);refine ZqT (Zl rfl _ _ _ _ _ _ _ rfl (ZqV _ _ _ _ _ _ Q) underlying25 rfl Ze) rfl ?_);exact ⟨rfl,(S.out.trans H).setRow (ZrF _) _⟩
 case inr=>
  have hf:(0:Int)<(A.length:Int):=om
  go_enter func16,ntmps16
  go_wp2_with (first|(go_at_call 20;have hz:=O.out W0 S.out;refine ZqD hz ?_;clear hz;rintro e w2 ⟨rfl,H⟩;have d0:=H.cell c0;have Q:=H.heap Z.out)|(refine ZqF rfl 25 (.tmp 2) (.tmp 16) rfl (w.heap.size+1) #[.int .i64 0,.string ⟨#[]⟩,.string ⟨#[]⟩,.slice none 0 0,.slice none 0 0,.string ⟨#[]⟩,.int .i64 0] rfl rfl _ _ Q Ze rfl Zwm ?_))
  ((try simp only[Exit.inBlock,Exit.then]);refine ZqT (Zl rfl _ _ _ _ _ _ _ rfl (ZqV _ _ _ _ _ _ Q) underlying25 rfl Ze) rfl ?_);exact ⟨rfl,(S.out.trans H).setRow (ZrF _) _⟩
theorem Zvx (a b c:List UInt8) (t:Int) (m k:List Nd):fieldsL a b c t m++k=fieldsL a b c t (m++k):=by unfold fieldsL;simp
theorem Zvv (nm:List UInt8) (v:Value) (l:List Nc) (w:World) (F:RNs w v l) (C:∀y∈l,RdN w y/\y.kind=0) (D:l.length<=16777216):
 Calls prog 44 #[.string (str nm),v] w λe w'=>∃ks,e= .returned (.agg (cellsN (.mk 0 [] nm (.slice none 0 0) [] ks l [] 0)).toArray)/\w'.ownsRow w.heap.size 25 7 ks l.length (flatN l)/\Ext w w':=by
 have h:=ZvF nm v l w F (λy A=>⟨(C y A).1,Or.inl (C y A).2⟩) D;have e:l.filter keepC=l:=List.filter_eq_self.2 (λy A=>by unfold keepC;simp[(C y A).2])
 rwa [e] at h
theorem Zwh (h:Option Addr) (n A:Nat) (v:Value) (w:World) (F:RStrs w v (pairS [(xmlnsL,atomL)])):
 Calls prog 45 #[.agg #[.int .i64 0,.string (str []),.string (str feedL),.slice none 0 0,.slice h n A,.string (str []),.int .i64 0],v] w λe w'=>
  ∃C D,e= .returned (.agg #[.int .i64 0,.string ⟨#[]⟩,.string (str feedL),.slice C 1 D,.slice h n A,.string ⟨#[]⟩,.int .i64 0])/\w'.ownsRow w.heap.size 53 4 (.slice C 1 D) 1 (flatA [pairA (xmlnsL,atomL)])/\Ext w w':=
 ZvL feedL (.slice none 0 0) [] n A h v [(xmlnsL,atomL)] w (RAts.nil w) F (by show 0+1<=1000000;omega)
theorem Zv8 (x:Fc) (w:World) (hr:RdC w x) (hk:fokS x.f) (gH:okF x.f=true) (hp:x.f.path= []) (hu:inT x.f.upd=true) (gL:∀e∈x.f.ents,inT e.upd=true) (gx:x.f.ents.length<=1000000):
 Calls prog 16 #[.agg (cellsC x).toArray] w λe w'=>∃y,e= .returned (.tuple #[.agg (cellsN y).toArray,.int .i64 0])/\NdOf w' y (encA x.f)/\Ext w w':=by
 obtain ⟨i0,h5,gh,gi,gj⟩:=ZrE Xn;have hL:=gd (λ(w':World) (h:Ext w w')=>(show Calls prog 20 #[.agg (cellsC x).toArray] w' λe w2=>e= .returned (.int .i64 0)/\Ext w' w2 from by
  have:=X9 x w' (hr.ext h) hk;rw[ZqN gH] at this;exact this))
 obtain ⟨xp,fe,⟨g8,g7,hV,gk,hn,D⟩⟩:=x;obtain ⟨gM,gc⟩:=hr;dsimp only at*;subst hp;obtain ⟨xA,xc,rfl, -, -⟩:=gM.form;obtain ⟨xB,xd,rfl, -, -⟩:=gc.form;clear hk gH;unfold cellsC fCells at hL|-;dsimp only[List.length_nil] at hL|-;obtain ⟨hP,rfl⟩:=KL g7;obtain ⟨hR,rfl⟩:=KL hV;obtain ⟨hQ,rfl⟩:=KL gk;obtain ⟨W0,h2⟩:∃W0,(w.alloc (.cells #[.slice xA 0 xc,.string (str hP),.string (str hR),.string (str hQ),.int .i64 hn,.slice xB D.length xd] 32)).alloc (.cells #[.int .i64 0,.string ⟨#[]⟩,.string ⟨#[]⟩,.slice none 0 0,.slice none 0 0,.string ⟨#[]⟩,.int .i64 0] 25)=W0:=⟨_,rfl⟩;have hY:Ext w W0:=by rw[<-h2];exact ((Ext.refl w).alloc _).alloc _
 have gI:W0.heap[w.heap.size+1]? =some (.cells #[.int .i64 0,.string ⟨#[]⟩,.string ⟨#[]⟩,.slice none 0 0,.slice none 0 0,.string ⟨#[]⟩,.int .i64 0] 25 (0,0)):=by rw[<-h2];exact ZI w _ _
 have X:W0.heap[w.heap.size]? =some (.cells #[.slice xA 0 xc,.string (str hP),.string (str hR),.string (str hQ),.int .i64 hn,.slice xB D.length xd] 32 (0,0)):=by rw[<-h2];exact ((Ext.refl _).alloc _).heap (ZqJ w _)
 have c0:=ZqI _ _ 0 _ _ _ X;have c1:=ZqI _ _ 1 _ _ _ X;have c2:=ZqI _ _ 2 _ _ _ X;have c3:=ZqI _ _ 3 _ _ _ X;have c4:=ZqI _ _ 4 _ _ _ X;have c5:=ZqI _ _ 5 _ _ _ X;have h1:=gd hY;have gp:=gd gI;have hK:=gd X;have gV:=gd gc;have gX:=gd gL;have gl:=gd gx;have gn:=gd (λ(w':World)=>ZvB hP hR hQ ⟨#[]⟩ hn w' hu);clear hY gI X gM gc gL gx;go_enter func16,ntmps16
 go_wp2_with (first|(go_at_call 20;have hz:=hL.out W0 h1.out;refine ZqD hz ?_;clear hz;rintro e w2 ⟨rfl,ge⟩;have hc:=ge.heap hK.out;have d0:=ZqI _ _ 0 _ _ _ hc;have d1:=ZqI _ _ 1 _ _ _ hc;have d2:=ZqI _ _ 2 _ _ _ hc;have d3:=ZqI _ _ 3 _ _ _ hc;have d4:=ZqI _ _ 4 _ _ _ hc;have d5:=ZqI _ _ 5 _ _ _ hc)|(go_at_call 42;(refine ZqD (gn.out w2) ?_);rintro e w3 ⟨FA,fc,fl,rfl,gG,gD,gF,gN⟩))
 have gr:=gd ge;have gY:=gd gN;have gU:=gd gG;have gQ:=gd gD;have gS:=gd gF;have HU:=gd hu;clear c0 c1 c2 c3 c4 c5 d0 d1 d2 d3 d4 d5 hc ge gN gG gD gF hu hL gn;go_loopw [4,5] (λr u wr=>∃(j:Nat) (A:Option Addr) (c:Nat) (L:List Nc),j<=D.length/\r= .slice A L.length c/\u= .int .i64 j/\Hid (HNs wr w2.heap.size (.slice A L.length c) L)/\Hid (L.map Nc.nd=fieldsL hP hR hQ hn ((D.take j).map entN))/\Hid (∀y∈L,y.kind=0/\∀k,k<w2.heap.size->awayN (some k) y)/\Hid (Ext w2 wr)) (λ_ u _=>D.length - (intOf u).toNat)
 case atStart=>exact ⟨0,FA,fc,fl,ZqO _,rfl,rfl,gd gU.out,gd (by rw[gS.out];rfl),gd gQ.out,gd gY.out⟩
 case round=>
  obtain ⟨j,A,c,L,hj,rfl,rfl,ho,hN,hM,hx⟩:=hrel;have R:=gr.out.trans hx.out;have gu:=R.heap hK.out;have d5:=ZqI _ _ 5 _ _ _ gu;have gE:L.length<=1000004:=by have Z:=ZqS List.length hN.out;have q1:=gl.out;rw[Zq9] at Z;unfold fieldsL at Z;simp only[ZqG,ZqK,Zq9,Zra] at Z;split at Z<;>simp only[ZqK,Zq5] at Z<;>omega
  have ht:=gd gE;clear gE gu;by_cases hD:j<D.length
  ·obtain ⟨ad,c',hv,gs⟩:=(REnts.ext gV.out (h1.out.trans R)).at hD;injection hv with hv1 hv2 hv3;subst hv1;clear hv2 hv3;have fd:=gl.out;have g9:(0:Int)<=(j:Int):=om;have fa:(j:Int)<(D.length:Int):=om;have ga:=ZqQ hD;have hU:=gX.out _ (Zq2 hD);obtain ⟨e,gw⟩:∃e,D[j]=e:=⟨_,rfl⟩;rw[gw] at gs ga hU;obtain ⟨g0,g2,g1,gZ,hS⟩:=e;obtain ⟨hH,rfl⟩:=KL g0;obtain ⟨hJ,rfl⟩:=KL g2;obtain ⟨hI,rfl⟩:=KL g1;obtain ⟨ha,rfl⟩:=KL gZ;obtain ⟨a0,a1,a2,a3,a4⟩:=gs;simp only at a0 a1 a2 a3 a4 hU;have gq:=gd ga;have gm:=gd (λ(w':World)=>ZvB hH hJ hI (str ha) hS w' hU);clear ga hU gw;by_cases hq:ha= []
   ·have q4:(str ha).toList.isEmpty=true:=(by rw[hq];exact Xh);have hZ:=gd hq;clear hq
    focus
     go_wp2_with (first|(go_at_call 42;(refine ZqD (gm.out wr) ?_);rintro e w7 ⟨TA,tc,F,rfl,hf,he,hE,O⟩;have h3:=(R.trans O).heap hK.out;have p5:=ZqI _ _ 5 _ _ _ h3;have p3:=O.cell a3;have gJ:=HNs.reads hf;have hl:∀y∈F,RdN w7 y/\y.kind=0:=λy C=>⟨(ZD _).1 hf.rd y C,(he y C).1⟩;have hW:∀y∈F,∀k,k<wr.heap.size->awayN (some k) y:=λy C=>(he y C).2;(have h7:F.length<=4:=(by have Z:=ZqS List.length hE;rw[Zq9] at Z;rw[Z];unfold fieldsL;split<;>simp));(have U:F.length<=16777216:=ZqM h7 (by decide)))|(go_at_call 44;(refine ZqD (Zvv entryL _ F w7 gJ hl U) ?_);rintro e w8 ⟨ks,rfl,Q,I⟩;obtain ⟨S,V,rfl⟩:=Zp Q;(have H:NdOf w8 (Nc.mk 0 [] entryL (.slice none 0 0) [] (.slice S F.length V) F [] 0) (entN ⟨str hH,str hJ,str hI,str ha,hS⟩):=⟨(by rw[RdN];exact ⟨RAts.nil _,RSl.of_own Q,(ZD _).2 λy C=>RdN.ext I _ (hl y C).1⟩),rfl,(Ze4 λy C=>(hl y C).2).trans (by rw[hE];unfold entN;rw[Zaa,Zj6,ZqN hZ.out])⟩);(have hd:∀k,k<wr.heap.size->awayN (some k) (Nc.mk 0 [] entryL (.slice none 0 0) [] (.slice S F.length V) F [] 0):=λk hk=>(by rw[awayN];exact ⟨Or.inl rfl,Or.inr (λe=>by have Z:=(Q.lt k e).1;have q1:=(O).size;omega),(Zx _).2 λy C=>hW y C k hk⟩));obtain ⟨y8,hh⟩:∃y8,(Nc.mk 0 [] entryL (.slice none 0 0) [] (.slice S F.length V) F [] 0)=y8:=⟨_,rfl⟩;(have hB:cellsN y8= [.int .i64 0,.string ⟨#[]⟩,.string (str entryL),.slice none 0 0,.slice S F.length V,.string ⟨#[]⟩,.int .i64 0]:=by rw[<-hh];rfl);rw[hh] at H hd|-;(rw[hB]);have hg:=hx.out.trans ((O).trans (I.trans ((Ext.refl w8).alloc (.cells #[.int .i64 0,.string ⟨#[]⟩,.string (str entryL),.slice none 0 0,.slice S F.length V,.string ⟨#[]⟩,.int .i64 0] 25))));(have hb:=gd (HNs.ext ho.out ((O).trans (I.trans ((Ext.refl w8).alloc (.cells #[.int .i64 0,.string ⟨#[]⟩,.string (str entryL),.slice none 0 0,.slice S F.length V,.string ⟨#[]⟩,.int .i64 0] 25))))));have hw:=gd hg;clear hg hh)|(at_builtin;refine Za _ rfl (.tmp 57) (.tmp 60) _ rfl w2.heap.size 25 i0 _ 7 112 underlying23 h5 gh gi gj rfl (by decide) _ L.length (flatN L) rfl hb.out.row _ 1 (cellsN y8) rfl (by rw[hB];exact Zj rfl (by decide)) (ZH (RdN.sl H.rd)) (by have Z:=ht.out;unfold maxLen;omega) (by have Z:=ht.out;omega) hw.out.size ?_;intro v9 w9 J hC hA;have h4:=HNs.snoc (x:=y8) hb.out (RdN.ext ((Ext.refl w8).alloc _) _ H.rd) (U1 hd H.rd (λk e=>(ho.out.row.lt k e).2)) J hC hA;obtain ⟨A9,c9,gb⟩:=Zp J;subst gb;have hG:=Ext.app hw.out hC hb.out.row (ZqE _)))
     have Y:(L++ [y8]).length=L.length+1:=(by rw[ZqG];rfl)
     go_roundw
     case rel=>
      refine ⟨j+1,A9,c9,L++ [y8],hD,by rw[Y],by go_num,gd (by rw[Y];exact h4),gd ?_,gd ?_,gd hG⟩
      ·rw[gq.out,Zrf,Zrf,hN.out,Zq8,Zrz,Zq8,Zrz,H.nd,Zvx]
      ·intro y C
       rcases Zq0.1 C with C|C
       ·exact hM.out y C
       ·rw[ZqU.1 C];exact ⟨H.kind,λk hk=>hd k (Zrx hk hx.out.size)⟩
     case measure=>simp[intOf];omega
   ·have q4:=JX hq;have hZ:=gd hq;clear hq
    focus
     go_wp2_with (first|(go_at_call 42;(refine ZqD (gm.out wr) ?_);rintro e w7 ⟨TA,tc,F,rfl,hf,he,hE,O⟩;have h3:=(R.trans O).heap hK.out;have p5:=ZqI _ _ 5 _ _ _ h3;have p3:=O.cell a3;have gJ:=HNs.reads hf;have hl:∀y∈F,RdN w7 y/\y.kind=0:=λy C=>⟨(ZD _).1 hf.rd y C,(he y C).1⟩;have hW:∀y∈F,∀k,k<wr.heap.size->awayN (some k) y:=λy C=>(he y C).2;(have h7:F.length<=4:=(by have Z:=ZqS List.length hE;rw[Zq9] at Z;rw[Z];unfold fieldsL;split<;>simp));(have U:F.length<=16777216:=ZqM h7 (by decide)))|(go_at_call 43;(refine ZqD (Zvy contentL ha w7) ?_);rintro e wa ⟨y7,rfl,hs,gz,gf⟩;obtain ⟨P7,p7,r7,Q7,q7,s7,gO, -, -⟩:=ZR y7 (RdN.sl hs.rd);(rw[gO]);have hi:Hid (Ext wa (wa.alloc (.cells #[.int .i64 (y7.kind:Nat),.string (str y7.space),.string (str y7.name),.slice P7 p7 r7,.slice Q7 q7 s7,.string (str y7.text),.int .i64 (y7.at_:Nat)] 25))):=gd ((Ext.refl wa).alloc _);have h0:=gd (HNs.ext hf (gf.trans hi.out)))|(at_builtin;refine Za _ rfl (.tmp 47) (.tmp 55) _ rfl wr.heap.size 25 i0 _ 7 112 underlying23 h5 gh gi gj rfl (by decide) _ F.length (flatN F) rfl h0.out.row _ 1 (cellsN y7) rfl (by rw[gO];exact Zj rfl (by decide)) (ZH (RdN.sl hs.rd)) (by unfold maxLen;omega) om ((O.trans gf).trans hi.out).size ?_;intro vb wb hF gA gt;have gB:=HNs.snoc (x:=y7) h0.out (RdN.ext hi.out _ hs.rd) (U1 gz hs.rd (λk e=>(hf.row.lt k e).2)) hF gA gt;obtain ⟨SA,sc,g6⟩:=Zp hF;subst g6;(have h6:(F++ [y7]).length=F.length+1:=by rw[ZqG];rfl);have gg:=Ext.app ((O.trans gf).trans hi.out) gA h0.out.row (ZqE _);have h9:RNs wb (.slice SA (F.length+1) sc) (F++ [y7]):=HNs.reads gB;(have hT:∀y∈F++ [y7],RdN wb y/\y.kind=0:=λy C=>⟨(ZD _).1 gB.rd y C,(Zq0.1 C).elim (λh=>(he y h).1) (λh=>by rw[ZqU.1 h];exact hs.kind)⟩);(have gy:∀y∈F++ [y7],∀k,k<wr.heap.size->awayN (some k) y:=λy C k hk=>(Zq0.1 C).elim (λh=>(he y h).2 k hk) (λh=>by rw[ZqU.1 h];exact gz k (Zrx hk O.size)));(have U:(F++ [y7]).length<=16777216:=by rw[h6];omega);obtain ⟨kb,hX⟩:∃kb,F++ [y7]=kb:=⟨_,rfl⟩;(have g3:kb.map Nc.nd=fieldsL hH hJ hI hS [textN contentL ha]:=by rw[<-hX,Zrf,hE,Zq8,Zrz,hs.nd,Zvx];rfl);rw[<-h6] at h9|-;rw[hX] at h9 hT gy U|-;clear h6)|(go_at_call 44;(refine ZqD (Zvv entryL _ kb wb h9 hT U) ?_);rintro e w8 ⟨ks,rfl,Q,I⟩;obtain ⟨S,V,rfl⟩:=Zp Q;(have H:NdOf w8 (Nc.mk 0 [] entryL (.slice none 0 0) [] (.slice S kb.length V) kb [] 0) (entN ⟨str hH,str hJ,str hI,str ha,hS⟩):=⟨(by rw[RdN];exact ⟨RAts.nil _,RSl.of_own Q,(ZD _).2 λy C=>RdN.ext I _ (hT y C).1⟩),rfl,(Ze4 λy C=>(hT y C).2).trans (by rw[g3];unfold entN;rw[Zaa,Zj6,ZqH hZ.out])⟩);(have hd:∀k,k<wr.heap.size->awayN (some k) (Nc.mk 0 [] entryL (.slice none 0 0) [] (.slice S kb.length V) kb [] 0):=λk hk=>(by rw[awayN];exact ⟨Or.inl rfl,Or.inr (λe=>by have Z:=(Q.lt k e).1;have q1:=(gg).size;omega),(Zx _).2 λy C=>gy y C k hk⟩));obtain ⟨y8,hh⟩:∃y8,(Nc.mk 0 [] entryL (.slice none 0 0) [] (.slice S kb.length V) kb [] 0)=y8:=⟨_,rfl⟩;(have hB:cellsN y8= [.int .i64 0,.string ⟨#[]⟩,.string (str entryL),.slice none 0 0,.slice S kb.length V,.string ⟨#[]⟩,.int .i64 0]:=by rw[<-hh];rfl);rw[hh] at H hd|-;(rw[hB]);have hg:=hx.out.trans ((gg).trans (I.trans ((Ext.refl w8).alloc (.cells #[.int .i64 0,.string ⟨#[]⟩,.string (str entryL),.slice none 0 0,.slice S kb.length V,.string ⟨#[]⟩,.int .i64 0] 25))));(have hb:=gd (HNs.ext ho.out ((gg).trans (I.trans ((Ext.refl w8).alloc (.cells #[.int .i64 0,.string ⟨#[]⟩,.string (str entryL),.slice none 0 0,.slice S kb.length V,.string ⟨#[]⟩,.int .i64 0] 25))))));have hw:=gd hg;clear hg hh)|(at_builtin;refine Za _ rfl (.tmp 57) (.tmp 60) _ rfl w2.heap.size 25 i0 _ 7 112 underlying23 h5 gh gi gj rfl (by decide) _ L.length (flatN L) rfl hb.out.row _ 1 (cellsN y8) rfl (by rw[hB];exact Zj rfl (by decide)) (ZH (RdN.sl H.rd)) (by have Z:=ht.out;unfold maxLen;omega) (by have Z:=ht.out;omega) hw.out.size ?_;intro v9 w9 J hC hA;have h4:=HNs.snoc (x:=y8) hb.out (RdN.ext ((Ext.refl w8).alloc _) _ H.rd) (U1 hd H.rd (λk e=>(ho.out.row.lt k e).2)) J hC hA;obtain ⟨A9,c9,gb⟩:=Zp J;subst gb;have hG:=Ext.app hw.out hC hb.out.row (ZqE _)))
     have Y:(L++ [y8]).length=L.length+1:=(by rw[ZqG];rfl)
     go_roundw
     case rel=>
      refine ⟨j+1,A9,c9,L++ [y8],hD,by rw[Y],by go_num,gd (by rw[Y];exact h4),gd ?_,gd ?_,gd hG⟩
      ·rw[gq.out,Zrf,Zrf,hN.out,Zq8,Zrz,Zq8,Zrz,H.nd,Zvx]
      ·intro y C
       rcases Zq0.1 C with C|C
       ·exact hM.out y C
       ·rw[ZqU.1 C];exact ⟨H.kind,λk hk=>hd k (Zrx hk hx.out.size)⟩
     case measure=>simp[intOf];omega
  ·have gC:j=D.length:=om;have h8:=hN.out;rw[gC,Zq4 (ZqE _)] at h8;have fb:¬(j:Int)<(D.length:Int):=om;have gT:=gd h8;have hO:=gd R;have gW:=gd ((Zrg.1 gp.out).1);have gK:=HNs.reads ho.out;have U:∀y∈L,RdN wr y/\y.kind=0:=λy C=>⟨(ZD _).1 ho.out.rd y C,(hM.out y C).1⟩;have gR:=gd (Zvv feedL _ L wr gK U (by have:=ht.out;omega));have go:=gd U;clear gC h8 R gK U
   go_wp2_with (first|(go_at_call 45;(refine ZqD (Zwh S L.length V _ (w8.alloc (.cells #[.string (str xmlnsL),.string (str atomL)] 9)) (Zj (n:=2) (cs:= [.string (str xmlnsL),.string (str atomL)]) rfl (by decide))) ?_);rintro e w9 ⟨LA,lc,rfl,g5,hg⟩;have hm:=((Ext.refl w8).alloc (.cells #[.string (str xmlnsL),.string (str atomL)] 9)).trans hg;have gP:=(hO.out.trans (I.trans hm)).heap gp.out)|(go_at_call 44;(refine ZqD gR.out ?_);rintro e w8 ⟨ks,rfl,Q,I⟩;obtain ⟨S,V,rfl⟩:=Zp Q;(rw[show cellsN (Nc.mk 0 [] feedL (.slice none 0 0) [] (.slice S L.length V) L [] 0)= [.int .i64 0,.string (str []),.string (str feedL),.slice none 0 0,.slice S L.length V,.string (str []),.int .i64 0] from rfl]))|(refine ZqF rfl 25 (.tmp 2) (.tmp 65) rfl (w.heap.size+1) _ rfl rfl _ _ gP Ze rfl Zz ?_))
   ((try simp only[Exit.inBlock,Exit.then]);refine ZqT (Zl rfl _ _ _ _ _ _ _ rfl (ZqV _ _ _ _ _ _ gP) underlying25 rfl Ze) rfl ?_);have g4:(Nc.mk 0 [] feedL (.slice none 0 0) [] (.slice S L.length V) L [] 0).nd=elemN feedL (L.map Nc.nd):=Ze4 λy C=>(go.out y C).2;have s0:=gW.out;have s2:=gr.out.size;have s5:=hO.out.size;have s8:=(hO.out.trans I).size;refine ⟨.mk 0 [] feedL (.slice LA 1 lc) [pairA (xmlnsL,atomL)] (.slice S L.length V) L [] 0,rfl,⟨?_,rfl,?_⟩,(h1.out.trans (hO.out.trans (I.trans hm))).setRow (ZrF _) _⟩
   ·rw[RdN];refine ⟨RSl.of_own (Yh g5 (by rw[Zd];omega) _),RSl.of_own (Yh (Zt Q hm) om _),(ZD _).2 λy C=>RdN.grown (ZG _ _ _) y (RdN.ext (I.trans hm) _ (go.out y C).1) ?_⟩;exact (hM.out y C).2 _ om
   ·unfold encA;dsimp only;rw[Zaa,<-gT.out,<-g4,Nc.nd,Nc.nd];rfl
end
theorem ZvW (N:Nat) (R:N<=16777216) (x:Nc) (w:World) (F:x.nd.ht<=1000) (Q:x.nd.smT N) (I:nodeOk 1 x.nd=true) (S:(docW x.nd).length<=140737488355328) (O:RdN w x):
 Calls prog 47 #[.agg (cellsN x).toArray] w λe w'=>e= .returned (.tuple #[.string (str (docW x.nd)),.int .i64 0])/\Ext w w':=by
 have hl:(docW x.nd).length=headW.length+(nodeW x.nd).length+1:=by unfold docW;rw[ZqG,ZqG];rfl
 have hh:headW.length=39:=rfl;have Y:=gd (λw' (U:Ext w w')=>ZvS N R x w' F Q I (RdN.ext U _ O));have Z:=gd (λw' (U:Ext w w')=>Zv0 N R 1000 x w' F Q om (RdN.ext U _ O));have h:docW x.nd=headW++nodeW x.nd++ [10]:=rfl;rw[h];have g1:¬9223372036854775807<39+(nodeW x.nd).length:=om
 have g2:¬9223372036854775807<39+(nodeW x.nd).length+1:=om
 obtain ⟨k,n,A,c,X,B,d,kids,t,rfl, -⟩:=Zvt Q O;simp only[ZvH,bxK] at*;generalize nodeW _=D at*;have J:=gd ((Ext.refl w).alloc (.cells (bxK (k:Nat) n (.slice A X.length c) (.slice B kids.length d) t).toArray 25));have C:=gd (λW=> @Zvi w W (k:Nat) n t (.slice A X.length c) (.slice B kids.length d));obtain ⟨b0,b1,b2,b3,b4,b5,b6⟩:=C.out _ (Ext.refl _);simp only[bxK] at J b0 b1 b2 b3 b4 b5 b6 C;clear Q I O R S hl hh h F;go_enter func47,ntmps47
 go_wp2_with (first|(go_at_call 97;refine ZqD (Y.out _ J.out) ?_;rintro e w3 ⟨rfl,H⟩;obtain ⟨d0,d1,d2,d3,d4,d5,d6⟩:=C.out _ H)|(go_at_call 98;refine ZqD (Z.out _ (J.out.trans H)) ?_;rintro e w4 ⟨rfl,V⟩))
 go_ret2
 exact ⟨ZqS (λs=>Ending.returned (.tuple #[.string s,.int .i64 0])) (by rw[<-ZuV,<-ZuV];rfl),(J.out.trans H).trans V⟩
section
set_option linter.unusedSimpArgs false
mutual
theorem Zwt:∀(n:Nd) (d:Nat),nodeOk d n=true->n.ht+d<=102
 | .mk k s n al ks t a,d,h=>by
  rw[nodeOk] at h
  simp only[ZqZ,Zrd] at h
  have:=Zwu ks d false h.1.1.1.1.1.2 h.2
  rw[Nd.ht]
  omega
theorem Zwu:∀(l:List Nd) (d:Nat) (b:Bool),d<=100->kidsOk d b l=true->Nds.ht l+d<=101
 | [],d,b,hd,_=>by rw[Nds.ht];omega
 |x::t,d,b,hd,h=>by
  rw[kidsOk,ZqZ] at h
  have h2:=Zwu t d _ hd h.2
  have h1:x.ht+d<=101:=by
   by_cases hk:x.kind=1
   ·have h3:=h.1
    rw[ZqN hk] at h3
    obtain ⟨k,s,n,al,ks,t',a⟩:=x
    simp only[ZqZ] at h3
    have h4:ks= []:=Zsi.1 h3.2
    rw[h4,Nd.ht,Nds.ht]
    omega
   ·have h3:=h.1
    rw[ZqH hk] at h3
    have:=Zwt x (d+1) h3
    omega
  rw[Nds.ht]
  omega
end
theorem ZwE (x:Fc) (w:World) (V:RdC w x) (U:fokS x.f) (I:okA17 x.f=false):
 Calls prog 18 #[.agg (cellsC x).toArray] w λe w'=>e= .returned (.tuple #[.string ⟨#[]⟩,.int .i64 22])/\Ext w w':=by
 have C:=gd (λ(w':World) (h:Ext w w')=>Zwo x w' (V.ext h) U (ZvD I));obtain ⟨xp,ha,⟨H,S,A,F,Q,D⟩⟩:=x;obtain ⟨J,O⟩:=V;dsimp only at*;obtain ⟨Y,xc,rfl, -, -⟩:=J.form;obtain ⟨Z,xd,rfl, -, -⟩:=O.form;unfold cellsC fCells at C|-;dsimp only at C|-;clear U I J O;go_enter func18,ntmps18
 go_wp2_with (first|(go_at_call 16;have X:=C.out _ ((Ext.refl w).alloc (.cells #[.slice Y H.length xc,.string S,.string A,.string F,.int .i64 Q,.slice Z D.length xd] 32));(refine ZqD X ?_);clear X;rintro e w2 ⟨rfl,R⟩))
 go_ret2
 exact ⟨rfl,(((Ext.refl w).alloc _).trans R).alloc _⟩
theorem ZwC (x:Fc) (w:World) (hr:RdC w x) (hk:fokS x.f) (O:okA17 x.f=true) (hs:szA 10000 9996 x.f):
 Calls prog 18 #[.agg (cellsC x).toArray] w λe w'=>e= .returned (.tuple #[.string (textA x.f),.int .i64 0])/\Ext w w':=by
 obtain ⟨I,hp⟩:=XR.1 O;obtain ⟨hu,hg⟩:=Zfm I;obtain ⟨s2, -, -,s4⟩:=Zb8 (N:=10000) hs (by decide) (by decide) (by decide);have hd:x.f.ents.length<=1000000:=by have:=hs.2.2;omega
 have F:=gd (λ(w':World) (h:Ext w w')=>Zv8 x w' (hr.ext h) hk I hp hu hg hd);have H:=(Ze5 I).1;have hc:(docW (encA x.f)).length<=140737488355328:=ZqM s4 (by decide);have he:(encA x.f).ht<=1000:=by have:=Zwt _ _ H;omega
 have ha:=gd (λ(y:Nc) (w':World) (hx:y.nd=encA x.f) (hm:RdN w' y)=>ZvW 10000 (by decide) y w' (by rw[hx];exact he) (by rw[hx];exact s2) (by rw[hx];exact H) (by rw[hx];exact hc) hm);obtain ⟨T,hT⟩:∃T,encA x.f=T:=⟨_,rfl⟩;unfold textA;simp only[hT] at F ha H|-;clear he hT s2 s4 hs I hp hu hg hd hc O;obtain ⟨xp,hv,⟨Y,hq,J,X,hi,V⟩⟩:=x;obtain ⟨hh,D⟩:=hr;dsimp only at*;obtain ⟨xA,xc,rfl, -, -⟩:=hh.form;obtain ⟨xB,xd,rfl, -, -⟩:=D.form;unfold cellsC fCells at F|-;dsimp only at F|-;clear hk hh D;have Z:=gd ((Ext.refl w).alloc (.cells #[.slice xA Y.length xc,.string hq,.string J,.string X,.int .i64 hi,.slice xB V.length xd] 32));go_enter func18,ntmps18
 go_wp2_with (first|(go_at_call 47;refine ZqD (HW.out _ hl.out) ?_;rintro e w3 ⟨rfl,ho⟩)|(refine ZqF rfl 25 (.tmp 4) (.tmp 9) rfl w1.heap.size _ rfl rfl _ _ (ZqJ _ _) Ze rfl Zz ?_;rw[Zh];rw[Q])|(go_at_call 16;(refine ZqD (F.out _ Z.out) ?_);rintro e w1 ⟨x,rfl,⟨U, -,S⟩,D⟩;have hn:=RdN.sl U;have HW:=gd (λ(w':World) (h:Ext w1 w')=>ha.out x w' S (RdN.ext h _ U));rw[S] at HW;obtain ⟨k,s,n,al,l0,ks,kids,t,a⟩:=x;obtain ⟨⟨A,m,c,hb⟩,⟨B,m2,d,hf⟩⟩:=hn;simp only[Nc.al,Nc.ks] at hb hf;subst hb;subst hf;simp only[cellsN] at HW|-;obtain ⟨W2,Q⟩:∃W2,w1.alloc (.cells #[.int .i64 (k:Nat),.string (str s),.string (str n),.slice A m c,.slice B m2 d,.string (str t),.int .i64 (a:Nat)] 25)=W2:=⟨_,rfl⟩;(have R:Ext w1 W2:=by rw[<-Q];exact (Ext.refl w1).alloc _);(have C:W2.heap[w1.heap.size]? =some (.cells #[.int .i64 (k:Nat),.string (str s),.string (str n),.slice A m c,.slice B m2 d,.string (str t),.int .i64 (a:Nat)] 25 (0,0)):=by rw[<-Q];exact ZqJ w1 _);have c0:=ZqI _ _ 0 _ _ _ C;have c1:=ZqI _ _ 1 _ _ _ C;have c2:=ZqI _ _ 2 _ _ _ C;have c3:=ZqI _ _ 3 _ _ _ C;have c4:=ZqI _ _ 4 _ _ _ C;have c5:=ZqI _ _ 5 _ _ _ C;have c6:=ZqI _ _ 6 _ _ _ C;have hj:=gd ((Z.out.trans D).trans R);have hl:=gd R;clear S U D R C H))
 go_ret2
 exact ⟨rfl,hj.out.trans ho⟩
end
theorem ZwB {a b:List Nc} (h:Nc.nds a=Nc.nds b) {j:Nat} (A:j<a.length) (C:j<b.length):a[j].nd=b[j].nd:=by
 rw[Yc,Yc] at h;have:=ZqS (λl=>l[j]?) h;simpa [A,C] using this
theorem ZvG (N:Nat) (hN:N<=16777216):∀(h:Nat) (x y:Nc) (w:World),x.nd.ht<=h->x.nd.smT N->x.nd=y.nd->RdN w x->RdN w y->
 Calls prog 19 #[.agg (cellsN x).toArray,.agg (cellsN y).toArray,.bool true] w λe w'=>e= .returned (.bool true)/\Ext w w':=by
 intro h
 induction h with
 |zero=>intro x y w hd;have:=Zm5 x.nd;omega
 |succ h ih=>
 intro x y w hd hs he hr hJ;obtain ⟨k2,n2,A2,c2,l2,B2,d2,C,t2,rfl, -, -, -, -, -, -,hC,hm,hD⟩:=Zvt (N:=N) (he▸hs) hJ;obtain ⟨k,n,A,c,O,B,d,kids,t,rfl,h5,hn,hl,hk,h6,hb,hA,hK,hY⟩:=Zvt hs hr;have hG:Nds.ht (Nc.nds kids)<=h:=by rw[Nc.nd,Nd.ht] at hd;omega
 rw[Nc.nd,Nc.nd] at he;injection he with e0 es e1 e2 e3 e4 e5;subst e0;subst e1;subst e2;subst e4;have I:C.length=kids.length:=by rw[<-Y8 kids,e3,Y8]
 rw[I] at hm;have hV:=gd ih;have HY:=gd hY;have HK:=gd hK;have HA:=gd hA;have hB:=gd hD;have hW:=gd (show RNs w (.slice B2 C.length d2) C by rw[I];exact hm);have hR:=gd hC;have HB:=gd hb;have hU:=gd e3;have hX:=gd I;have hT:=gd hG;have h8:kids.length<=16777216:=om
 obtain ⟨w1,hf⟩:∃w1,w.alloc (.cells (bxK (k:Nat) n (.slice A O.length c) (.slice B kids.length d) t).toArray 25)=w1:=⟨_,rfl⟩;obtain ⟨w2,hg⟩:∃w2,w1.alloc (.cells (bxK (k:Nat) n (.slice A2 O.length c2) (.slice B2 kids.length d2) t).toArray 25)=w2:=⟨_,rfl⟩;have hL:Ext w w1:=by rw[<-hf];exact (Ext.refl w).alloc _
 have J:Ext w1 w2:=by rw[<-hg];exact (Ext.refl w1).alloc _
 have HX:=gd (hL.trans J);have hh:=gd (λW (X:Ext w2 W)=> @Zvi w W (k:Nat) n t (.slice A O.length c) (.slice B kids.length d) (by rw[hf];exact J.trans X));have Y:=gd (λW (X:Ext w2 W)=> @Zvi w1 W (k:Nat) n t (.slice A2 O.length c2) (.slice B2 kids.length d2) (by rw[hg];exact X));obtain ⟨b0,b1,b2,b3,b4,b5,b6⟩:=hh.out _ (Ext.refl _);obtain ⟨c0,c1,h0,c3,c4,c5,c6⟩:=Y.out _ (Ext.refl _);simp only[bxK] at hf hg;simp only[ZvH,bxK];rw[I];have q1:((str n).toList !=(str n).toList)=false:=by simp
 have q2:((str []).toList !=(str []).toList)=false:=by simp
 have q5:((str t).toList !=(str t).toList)=false:=by simp
 have q6:((k:Int) !=(k:Int))=false:=by simp
 have q3:((O.length:Int) !=(O.length:Int))=false:=by simp
 have q4:((kids.length:Int) !=(kids.length:Int))=false:=by simp
 clear ih hd hs hr hJ hk hb hA hK hY hC hm hD hG hn I e3 hL J h5 h6 es e5;go_enter func19,ntmps19;go_wp2;go_loopw [7] (λi wr=>∃j:Nat,j<=O.length/\i= .int .i64 j/\Ext w2 wr) (λi _=>O.length - (intOf i).toNat)
 case atStart=>exact ⟨0,ZqO _,rfl,Ext.refl _⟩
 case round=>
  obtain ⟨j,hj,rfl,F⟩:=hrel;obtain ⟨d0,d1,h2,d3,d4,d5,d6⟩:=hh.out _ F;obtain ⟨f0,f1,f2,f3,f4,f5,f6⟩:=Y.out _ F;have hw:=gd (HX.out.trans F);have hi:=gd F;clear b0 b1 b2 b3 b4 b5 b6 c0 c1 h0 c3 c4 c5 c6 F hf hg;by_cases D:j<O.length
  ·have U:=HB.out O[j] (Zq2 D);obtain ⟨ad,c',hv,Q⟩:=ZvN HA.out D U.2.2.2 U.1;injection hv with hv1 hv2 hv3;subst hv1;clear hv2 hv3;obtain ⟨h7,c',hv,H⟩:=ZvN hR.out D U.2.2.2 U.1;injection hv with hv1 hv2 hv3;subst hv1;clear hv2 hv3;obtain ⟨bn,hE⟩:∃y,O[j].name=y:=⟨_,rfl⟩;obtain ⟨bv,hF⟩:∃y,O[j].value=y:=⟨_,rfl⟩;rw[hE,hF] at Q H;have hI:(0:Int)<=(j:Int):=om;have h4:(j:Int)<(O.length:Int):=om;have r1:((str bn).toList !=(str bn).toList)=false:=(by simp);have r2:((str bv).toList !=(str bv).toList)=false:=(by simp);obtain ⟨a0,a1,a2,a3⟩:=Q _ hw.out;have hu:=gd H;have hS:=gd (λW X=>(Y.out W X).2.2.2.1);clear U Q H hE hF
   go_wp2_with (first|(refine ZqF rfl 53 (.tmp 8) (.tmp 76) rfl wr.heap.size _ rfl rfl _ _ (ZqJ _ _) ZvQ rfl (Zwf _ _ _) ?_;rw[Zh];obtain ⟨S,ho⟩:∃S,wr.alloc (.cells #[.string (str []),.string (str bn),.string (str bv),.int .i64 0] 53)=S:=⟨_,rfl⟩;rw[ho];(have J:Ext wr S:=by rw[<-ho];exact (Ext.refl wr).alloc _);(have h3:=λW (X:Ext S W)=>X.heap (show S.heap[wr.heap.size]? =_ by rw[<-ho];exact ZqJ wr (.cells #[.string (str []),.string (str bn),.string (str bv),.int .i64 0] 53)));obtain ⟨k0,k1,k2,k3⟩:=hu.out _ (hw.out.trans J);have k4:=hS.out _ (hi.out.trans J))|(refine ZqF rfl 53 (.tmp 9) (.tmp 81) rfl S.heap.size _ rfl rfl _ _ (ZqJ _ _) ZvQ rfl (Zwf _ _ _) ?_;rw[Zh];obtain ⟨W3,hp⟩:∃W3,S.alloc (.cells #[.string (str []),.string (str bn),.string (str bv),.int .i64 0] 53)=W3:=⟨_,rfl⟩;rw[hp];(have hM:Ext S W3:=by rw[<-hp];exact (Ext.refl S).alloc _);(have hc:W3.heap[S.heap.size]? =some (.cells #[.string (str []),.string (str bn),.string (str bv),.int .i64 0] 53 (0,0)):=by rw[<-hp];exact ZqJ S _);have ha:=h3 _ hM;have m0:=(Zrc hc 0).trans rfl;have m1:=(Zrc hc 1).trans rfl;have m2:=(Zrc hc 2).trans rfl;have m3:=(Zrc hc 3).trans rfl;have h9:=(Zrc ha 0).trans rfl;have l1:=(Zrc ha 1).trans rfl;have l2:=(Zrc ha 2).trans rfl;have l3:=(Zrc ha 3).trans rfl))
   go_roundw
   case rel=>exact ⟨j+1,D,by go_num,hi.out.trans (J.trans hM)⟩
   case measure=>simp[intOf];omega
  ·have hq:j=O.length:=om;subst hq;go_wp2;go_loopw [10] (λi wr=>∃j:Nat,j<=kids.length/\i= .int .i64 j/\Ext w2 wr) (λi _=>kids.length - (intOf i).toNat)
   case atStart=>exact ⟨0,ZqO _,rfl,hi.out⟩
   case round=>
    obtain ⟨j,hj,rfl,F⟩:=hrel;have g4:=(hh.out _ F).2.2.2.2.1;have k4:=(Y.out _ F).2.2.2.2.1;have R:=gd (HX.out.trans F);have hZ:=gd F;clear d0 d1 h2 d3 d4 d5 d6 f0 f1 f2 f3 f4 f5 f6 F;by_cases D:j<kids.length
    ·have V:j<C.length:=(by rw[hX.out];exact D);obtain ⟨b,yq,yn,YA,yc,yl,YB,yd,yk,yt,rfl, -,hy,Q⟩:=Zvz HK.out HY.out D;obtain ⟨b2,zq,zn,ZA,zc,zl,ZB,zd,zk,zt,rfl, -,hz,H⟩:=Zvz hW.out hB.out V;obtain ⟨a0,a1,a2,a3,a4,a5,a6⟩:=Q _ R.out;obtain ⟨p0,p1,p2,p3,p4,p5,p6⟩:=H _ R.out;have hI:(0:Int)<=(j:Int):=om;have h4:(j:Int)<(kids.length:Int):=om;obtain ⟨hO,hP⟩:=HY.out kids[j] (Zq2 D);obtain ⟨hQ, -⟩:=hB.out C[j] (Zq2 V);have hH:kids[j].nd.ht<=h:=ZqM (Zwl D) hT.out;have Z:=gd (λw' (X:Ext w w')=>hV.out kids[j] C[j] w' hH hP (ZwB hU.out D V) (RdN.ext X _ hO) (RdN.ext X _ hQ));rw[hy,hz] at Z;simp only[ZvH,bxK] at Z;have r1:∀dd:Aft wr,dd.w.cell? ⟨w.heap.size,4,none⟩=some (.slice (some b) kids.length d):=Aft.cell g4;have r2:∀dd:Aft wr,dd.w.cell? ⟨w1.heap.size,4,none⟩=some (.slice (some b2) kids.length d2):=Aft.cell k4;have s0:=Aft.cell a0;have s1:=Aft.cell a1;have s2:=Aft.cell a2;have s3:=Aft.cell a3;have s4:=Aft.cell a4;have s5:=Aft.cell a5;have s6:=Aft.cell a6;have u0:=Aft.cell p0;have u1:=Aft.cell p1;have u2:=Aft.cell p2;have u3:=Aft.cell p3;have u4:=Aft.cell p4;have u5:=Aft.cell p5;have u6:=Aft.cell p6;clear hO hP hQ hH Q H hy hz;go_wp2;refine rA ?_
     repeat (first|go_big_quiet_step ((go_at_call 19;with_reducible exact Zi (Z.out _ (R.out.trans (Aft.ext _)))))|quiet_step ((go_at_call 19;with_reducible exact Zi (Z.out _ (R.out.trans (Aft.ext _))))))
     refine Zru ?_;rintro _ ⟨h1,rfl⟩;go_wp2;go_roundw
     case rel=>exact ⟨j+1,D,by go_num,hZ.out.trans h1.ext⟩
     case measure=>simp[intOf];omega
    ·have hq:j=kids.length:=om;subst hq;go_wp2;go_ret;exact ⟨rfl,R.out⟩
end Go.Proofs.YtmfinhgobjbecaaGreatDoor
