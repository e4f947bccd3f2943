/- Parts of the proof: contracts and plain laws. -/
import Derived.Deep.MidRow
import Derived.Lib.AppendZerosOnto
import Derived.Lib.SliceRun
import Derived.Test.YtmfinhgobjbecaaGreatDoorA60
import Derived.Test.YtmfinhgobjbecaaGreatDoorA21
namespace Go.Proofs.YtmfinhgobjbecaaGreatDoor
open Go Go.RowKit Go.ChangeShapes Go.WideShapes Go.Deep _root_.Go.Proofs.Tryz
set_option linter.unusedVariables false
set_option linter.unusedSimpArgs false
set_option maxRecDepth 100000
set_option maxHeartbeats 16000000
def flatC (l:List Fc):List Value:=(l.map cellsC).flatten
def RFcs (w:Wq) (v:Value) (l:List Fc):Prop:=RSl w 6 v l.length (flatC l)
theorem RFcs.ext {w w':Wq} {v:Value} {l:List Fc} (h:RFcs w v l) (A:Ext w w'):RFcs w' v l:=RSl.ext h A
theorem RFcs.form {w:Wq} {v:Value} {l:List Fc} (h:RFcs w v l):∃A c,v= .slice A l.length c/\l.length<=c/\c<=maxLen:=by
 obtain ⟨_,A,c,e,C,D,_⟩:=h;exact ⟨A,c,e,C,D⟩
structure AtFc (w:Wq) (q:Addr) (x:Fc):Prop where
 c0:w.cell? q=some x.p
 c1:w.cell? ⟨q.block,q.off+1,none⟩=some (.string x.f.id)
 c2:w.cell? ⟨q.block,q.off+2,none⟩=some (.string x.f.title)
 c3:w.cell? ⟨q.block,q.off+3,none⟩=some (.string x.f.link)
 c4:w.cell? ⟨q.block,q.off+4,none⟩=some (nI x.f.upd)
 c5:w.cell? ⟨q.block,q.off+5,none⟩=some x.es
theorem RFcs.at {w:Wq} {v:Value} {l:List Fc} (h:RFcs w v l) {k:Nat} (D:k<l.length):∃ad c,v= .slice (some ad) l.length c/\AtFc w (ad.add (k*6)) l[k]:=by
 obtain ⟨ad,c,e,C⟩:=RSl.elem (k:=6) (css:=l.map cellsC) h (by decide) (by intro c C;obtain ⟨x,_,rfl⟩:=Zrr.1 C;rfl) k (cellsC l[k]) (by rw[Zrq,ZqL D];rfl);rw[Zst] at C;have A:∀i,0<i->(ad.add (k*6)).add i=⟨(ad.add (k*6)).block,(ad.add (k*6)).off+i,none⟩:=λi F=>ZqH om;refine ⟨ad,c,e,?_,?_,?_,?_,?_,?_⟩
 ·have:=C 0 _ rfl;rwa [add_zero] at this
 ·have:=C 1 _ rfl;rwa [A _ (by decide)] at this
 ·have:=C 2 _ rfl;rwa [A _ (by decide)] at this
 ·have:=C 3 _ rfl;rwa [A _ (by decide)] at this
 ·have:=C 4 _ rfl;rwa [A _ (by decide)] at this
 ·have:=C 5 _ rfl;rwa [A _ (by decide)] at this
def ewide (e:Ent):Prop:=i64ok e.upd/\e.id.size<=reachBytes/\e.title.size<=reachBytes/\e.link.size<=reachBytes/\e.content.size<=reachBytes
def fwide (f:Fd):Prop:=i64ok f.upd/\f.path.length<=reachBytes/\(∀s∈f.path,s.size<=reachBytes)/\f.id.size<=reachBytes/\f.title.size<=reachBytes/\f.link.size<=reachBytes/\f.ents.length<=reachBytes/\∀e∈f.ents,ewide e
def capN (n:Nat):Nat:=1+min n 9000
def bigE (e:Ent):Nat:=capN (e.id.size+e.title.size+e.link.size+e.content.size)
def bigP (l:List ByteArray):Nat:=(l.map λs=>capN s.size).sum
def bigEs (l:List Ent):Nat:=(l.map bigE).sum
def bigH (f:Fd):Nat:=capN (f.id.size+f.title.size+f.link.size)
def bigF (f:Fd):Nat:=bigH f+bigP f.path+bigEs f.ents
def bigL (l:List Fd):Nat:=(l.map bigF).sum
theorem ZoQ {l:List Nat} {n:Nat} (h:n∈l):n<=l.sum:=by
 induction l with
 |nil=>simp at h
 |cons x t ih=>
  rw[List.sum_cons];rcases Zq1.1 h with h|h
  ·omega
  ·have:=ih h;omega
theorem ZbQ:∀{l:List ByteArray},bigP l<=5000->l.length+sizes l<=bigP l
 | [],_=>by simp[sizes,bigP]
 |s::t,h=>by
  have e:bigP (s::t)=capN s.size+bigP t:=by unfold bigP;simp
  have e2:sizes (s::t)=s.size+sizes t:=by unfold sizes;simp
  rw[e] at h|-
  have ih:=ZbQ (l:=t) om
  unfold capN at h|-
  rw[e2,ZqK]
  omega
theorem E0:∀(l:List Ent),l.length<=bigEs l
 | []=>by simp
 |s::t=>by
  have e:bigEs (s::t)=bigE s+bigEs t:=by unfold bigEs;simp
  have ih:=E0 t
  rw[e,ZqK]
  unfold bigE capN
  omega
theorem ZfY {l:List Ent} {e:Ent} (h:e∈l):bigE e<=bigEs l:=ZoQ (Zrr.2 ⟨e,h,rfl⟩)
theorem Zif {e:Ent} (h:bigE e<=5000):e.id.size+e.title.size+e.link.size+e.content.size<=5000:=by
 unfold bigE capN at h;omega
theorem Zl0 {e:Ent} (A:i64ok e.upd) (h:bigE e<=5000):eok e:=⟨A,by have:=Zif h;omega⟩
theorem Zl1 {f:Fd} (C:fwide f) (h:bigF f<=5000):fokS f:=by
 have F:bigH f+bigP f.path+bigEs f.ents<=5000:=h;have I:=ZbQ (l:=f.path) om;have D:bigH f<=5000:=om
 unfold bigH capN at D;have H:=E0 f.ents;refine ⟨⟨C.1,om⟩,om,λe A=>Zl0 (C.2.2.2.2.2.2.2 e A).1 ?_⟩;have:=ZfY A;omega
theorem Zks {l:List Fc} {k:Nat} (h:k<l.length):bigL ((l.take (k+1)).map Fc.f)=bigL ((l.take k).map Fc.f)+bigF l[k].f:=by
 rw[ZqQ h];unfold bigL;simp only[Zrf,ZsS,Zq8,Zrz,List.sum_cons,List.sum_nil,Nat.add_zero]
theorem Zot (l:List Fc) (k:Nat):bigL ((l.take k).map Fc.f)<=bigL (l.map Fc.f):=by
 have e:bigL (l.map Fc.f)=bigL ((l.take k).map Fc.f)+bigL ((l.drop k).map Fc.f):=by unfold bigL;rw[<-ZsS,<-Zrf,<-Zrf,ZrR]
 omega
theorem Zkt {l:List ByteArray} {k:Nat} (h:k<l.length):bigP (l.take (k+1))=bigP (l.take k)+capN l[k].size:=by
 rw[ZqQ h];unfold bigP;simp only[Zrf,ZsS,Zq8,Zrz,List.sum_cons,List.sum_nil,Nat.add_zero]
theorem Zig {l:List Ent} {k:Nat} (h:k<l.length):bigEs (l.take (k+1))=bigEs (l.take k)+bigE l[k]:=by
 rw[ZqQ h];unfold bigEs;simp only[Zrf,ZsS,Zq8,Zrz,List.sum_cons,List.sum_nil,Nat.add_zero]
theorem Zmo (l:List Ent) (k:Nat):bigEs (l.take k)<=bigEs l:=by
 have e:bigEs l=bigEs (l.take k)+bigEs (l.drop k):=by unfold bigEs;rw[<-ZsS,<-Zrf,ZrR]
 omega
theorem ZjP (n:Nat):capN n<=9001:=by unfold capN;omega
theorem Zof {a b:Nat} (h:a<=140737488351232) (A:b<=140737488351232):wrap64 ((a:Int)+(b:Int))=(a:Int)+(b:Int):=Z9 _ ⟨om,om⟩
theorem Zog {a b c:Nat} (h:a<=140737488351232) (A:b<=140737488351232) (C:c<=140737488351232):wrap64 ((a:Int)+(b:Int)+(c:Int))=(a:Int)+(b:Int)+(c:Int):=Z9 _ ⟨om,om⟩
theorem Zpl {a b c d:Nat} (h:a<=140737488351232) (A:b<=140737488351232) (C:c<=140737488351232) (D:d<=140737488351232):wrap64 ((a:Int)+(b:Int)+(c:Int)+(d:Int))=(a:Int)+(b:Int)+(c:Int)+(d:Int):=Z9 _ ⟨om,om⟩
theorem Zpo {a:Nat} (h:a<=1000000000000000):wrap64 (a:Int)=(a:Int):=Z9 _ ⟨om,om⟩
theorem Zpm {M:Int} (h:0<=M) (A:M<=9000):wrap64 (1+M)=1+M:=Z9 _ ⟨om,om⟩
theorem Zpn {q:Nat} {M:Int} (h:q<=2000000000000000000) (A:0<=M) (C:M<=9000):wrap64 ((q:Int)+(1+M))=(q:Int)+(1+M):=Z9 _ ⟨om,om⟩
theorem ZfL (v:Value) (l:List Fc) (w:World) (hr:RFcs w v l) (ga:∀x∈l,RdC w x) (hn:l.length<=reachBytes) (hk:∀x∈l,fwide x.f):
 Calls prog 36 #[.agg #[v]] w λe w'=>e= .returned (.int .i64 (if 5000<bigL (l.map Fc.f) then 1 else 0))/\Ext w w':=by
 obtain ⟨A,c,rfl,gy,gu⟩:=hr.form;have HK:=gd hk;have gp:=gd ga;obtain ⟨R,hR⟩:∃R:Int,(if 5000<bigL (l.map Fc.f) then 1 else 0)=R:=⟨_,rfl⟩;rw[hR];have HR:=gd hR;unfold reachBytes at hn;clear gy gu hk ga hR;go_enter func36,ntmps36;go_wp2;go_loopw [3,13] (λu i wr=>∃(k n:Nat),k<=l.length/\i= .int .i64 k/\u= .int .i64 n/\n<=5000/\Hid (n=bigL ((l.take k).map Fc.f))/\Ext w wr) (λ_ i _=>l.length - (intOf i).toNat)
 case atStart=>exact ⟨0,0,ZqO _,rfl,rfl,by decide,gd rfl,(Ext.refl _).alloc _⟩
 case round=>
  obtain ⟨k,n,hk,rfl,rfl,h0,ho,hx⟩:=hrel;by_cases ha:k<l.length
  ·obtain ⟨ad,c',hv,hf⟩:=(hr.ext hx).at ha;injection hv with hv1 hv2 hv3;subst hv1;clear hv2 hv3;have hh:l[k]∈l:=Zq2 ha;have gb:=(gp.out _ hh).ext hx;have hX:=HK.out _ hh;have O:=Zks ha;rw[<-ho.out] at O;have hY:=Zot l (k+1);obtain ⟨x,gj⟩:∃x,l[k]=x:=⟨_,rfl⟩;rw[gj] at hf gb hX O;have hQ:=gd O;have hL:=gd hY;clear gj O hY hh ho;obtain ⟨k1,k2,k3,k4,k5,k6,k7,k8⟩:=hX;unfold reachBytes at k2 k4 k5 k6 k7;have gn:=gd k3;have go:=gd k8;obtain ⟨xp,gE,⟨D,Q,F,H,X,C⟩⟩:=x;obtain ⟨hI,hJ⟩:=gb;dsimp only at*;obtain ⟨xA,xc,rfl, -, -⟩:=hI.form;obtain ⟨xB,xd,rfl, -, -⟩:=hJ.form;have gr:=gd hI;have gs:=gd hJ;have HX:=gd hx;obtain ⟨a0,a1,a2,a3,a4,a5⟩:=hf;dsimp only at a0 a1 a2 a3 a4 a5;have hz:(0:Int)<=(k:Int):=om;have hU:(k:Int)<(l.length:Int):=om;have hp:wrap64 ((Q.size:Int)+(F.size:Int))=(Q.size:Int)+(F.size:Int):=Zof k4 k5;have ht:wrap64 ((Q.size:Int)+(F.size:Int)+(H.size:Int))=(Q.size:Int)+(F.size:Int)+(H.size:Int):=Zog k4 k5 k6;clear k1 k3 k8 hI hJ;obtain ⟨S0,hG⟩:∃S0,Q.size+F.size+H.size=S0:=⟨_,rfl⟩;have hO:=gd hG;have hy:(Q.size:Int)+(F.size:Int)+(H.size:Int)=(S0:Int):=om;obtain ⟨wB,gA⟩:∃wB:World,wB=wr:=⟨_,rfl⟩;subst gA;have gh:Ext w (wB.alloc (.cells #[.slice xA D.length xc,.string Q,.string F,.string H,.int .i64 X,.slice xB C.length xd] 32)):=hx.alloc _;have hS:=gd gh;have gk:Hid (∀w',Ext (wB.alloc (.cells #[.slice xA D.length xc,.string Q,.string F,.string H,.int .i64 X,.slice xB C.length xd] 32)) w'->w'.cell? ⟨wB.heap.size,5,none⟩=some (.slice xB C.length xd)):=gd λw' h=>h.boxed 5 _ rfl;clear gh;go_wp2;clear hp ht a0 a1 a2 a3 a4 a5;go_loopw [3,35] (λu i wr=>∃(j m:Nat),j<=D.length/\i= .int .i64 j/\u= .int .i64 m/\m<=14001+9001*j/\Hid (m=n+capN S0+bigP (D.take j))/\Ext (wB.alloc (.cells #[.slice xA D.length xc,.string Q,.string F,.string H,.int .i64 X,.slice xB C.length xd] 32)) wr) (λ_ i _=>D.length - (intOf i).toNat)
   case atStart=>exact ⟨0,n+capN S0,ZqO _,rfl,ZqS (Value.int .i64) (by unfold capN;omega),by have:=ZjP S0;omega,gd rfl,Ext.refl _⟩
   case round=>
    obtain ⟨j,m,hj,rfl,rfl,hZ,hm,hu⟩:=hrel;by_cases Z:j<D.length
    ·obtain ⟨ae,c2,e2,hc⟩:=((gr.out.ext ((Ext.refl _).alloc _)).ext hu).at Z;injection e2 with e2 e2' e2'';subst e2;clear e2' e2'';have hl:=gn.out _ (Zq2 Z);unfold reachBytes at hl;have O:=Zkt Z;obtain ⟨s,hs⟩:∃s,D[j]=s:=⟨_,rfl⟩;rw[hs] at hc hl O;have gq:=gd O;have hz:(0:Int)<=(j:Int):=om;have hU:(j:Int)<(D.length:Int):=om;clear hs O;go_wp2;go_roundw
     case rel=>exact ⟨j+1,m+capN s.size,Z,by go_num,ZqS (Value.int .i64) (by unfold capN;omega),by have:=ZjP s.size;omega,gd (by have:=hm.out;have:=gq.out;omega),hu⟩
     case measure=>simp[intOf];omega
    ·have gw:j=D.length:=om;subst gw;rw[Zq4 (ZqE _)] at hm;have b5:=gk.out _ hu;obtain ⟨wC,gB⟩:∃wC:World,wC=wr:=⟨_,rfl⟩;subst gB;have hC:=gd hu;go_wp2;go_loopw [3,49] (λu i wr=>∃(j q:Nat),j<=C.length/\i= .int .i64 j/\u= .int .i64 q/\q<=14001+9001*D.length/\Hid (q=m+bigEs (C.take j))/\Ext wC wr) (λ_ i _=>C.length - (intOf i).toNat)
     case atStart=>exact ⟨0,m,ZqO _,rfl,rfl,om,gd rfl,Ext.refl _⟩
     case round=>
      obtain ⟨j,q,hV,rfl,rfl,h9,hi,hw⟩:=hrel;by_cases S:j<C.length
      ·obtain ⟨ae,c2,e2,hf⟩:=(((gs.out.ext ((Ext.refl _).alloc _)).ext hC.out).ext hw).at S;injection e2 with e2 e2' e2'';subst e2;clear e2' e2'';have hl:=go.out _ (Zq2 S);have O:=Zig S;have hA:=Zmo C (j+1);obtain ⟨e,he⟩:∃e,C[j]=e:=⟨_,rfl⟩;rw[he] at hf hl O;have hP:=gd O;have hN:=gd hA;clear he O hA;obtain ⟨hD,U,Y,I,hT⟩:=e;obtain ⟨_,g1,g2,g3,g4⟩:=hl;unfold reachBytes at g1 g2 g3 g4;obtain ⟨p0,p1,p2,p3,p4⟩:=hf;dsimp only at g1 g2 g3 g4 p0 p1 p2 p3 p4;have hz:(0:Int)<=(j:Int):=om;have hU:(j:Int)<(C.length:Int):=om;obtain ⟨S1,hH⟩:∃S1,hD.size+U.size+Y.size+I.size=S1:=⟨_,rfl⟩;have hE:bigE ⟨hD,U,Y,I,hT⟩=capN S1:=(by rw[<-hH];rfl);have gC:(hD.size:Int)+(U.size:Int)+(Y.size:Int)+(I.size:Int)=(S1:Int):=om;have hB:q<=2000000000000000000:=om;have hK:=gd S;have gD:j<=1000000000000000:=om;by_cases J:5000<q+capN S1
       ·have hg:(5000:Int)<(q:Int)+(1+min (S1:Int) 9000):=(by unfold capN at J;omega);have hF:R=1:=(by rw[<-HR.out,ZqN];have h1:=hQ.out;have h2:=hL.out;have h3:=hi.out;have h4:=hm.out;have h5:=hP.out;have h6:=hN.out;rw[hE] at h5;have h7:bigF ⟨D,Q,F,H,X,C⟩=capN S0+bigP D+bigEs C:=(by unfold bigF bigH;rw[<-hO.out]);omega);subst hF;obtain ⟨M,hM⟩:∃M:Int,min (S1:Int) 9000=M:=⟨_,rfl⟩;have hb:0<=M:=om;have hd:M<=9000:=om;rw[hM] at hg;have HM:=gd hM;have V:S1<=1000000000000000:=om;have gg:=ZqS (Value.int .i64) (Zpo V);have ge:=ZqS (Value.int .i64) (Zpm hb hd);have gf:=ZqS (Value.int .i64) (Zpn hB hb hd);clear J hE hH V;have hp:=ZqS (Value.int .i64) (Zof g1 g2);have ht:=ZqS (Value.int .i64) (Zog g1 g2 g3);have gc:=ZqS (Value.int .i64) (Zpl g1 g2 g3 g4);clear g1 g2 g3 g4 k2 k4 k5 k6 k7 hn hG hy hZ h9 h0 hV S Z hj hk ha;go_wp2;go_ret;exact ⟨rfl,(hS.out.trans hC.out).trans (hw.alloc _)⟩
       ·have hg:¬(5000:Int)<(q:Int)+(1+min (S1:Int) 9000):=(by unfold capN at J;omega);have gl:=gd J;have gm:=gd hE;obtain ⟨M,hM⟩:∃M:Int,min (S1:Int) 9000=M:=⟨_,rfl⟩;have hb:0<=M:=om;have hd:M<=9000:=om;rw[hM] at hg;have HM:=gd hM;have V:S1<=1000000000000000:=om;have gg:=ZqS (Value.int .i64) (Zpo V);have ge:=ZqS (Value.int .i64) (Zpm hb hd);have gf:=ZqS (Value.int .i64) (Zpn hB hb hd);clear J hE hH V;have hp:=ZqS (Value.int .i64) (Zof g1 g2);have ht:=ZqS (Value.int .i64) (Zog g1 g2 g3);have gc:=ZqS (Value.int .i64) (Zpl g1 g2 g3 g4);clear g1 g2 g3 g4 k2 k4 k5 k6 k7 hn hG hy hZ h9 h0 hV S Z hj hk ha;go_wp2;clear hp ht gc gg ge gf;go_roundw
        case rel=>refine ⟨j+1,q+capN S1,hK.out,by go_num,ZqS (Value.int .i64) (by have:=HM.out;unfold capN;omega),by have:=gl.out;omega,gd ?_,hw.alloc _⟩;have h3:=hi.out;have h5:=hP.out;rw[gm.out] at h5;omega
        case measure=>simp[intOf];have:=hK.out;omega
      ·have hW:j=C.length:=om;subst hW;rw[Zq4 (ZqE _)] at hi;have h7:bigF ⟨D,Q,F,H,X,C⟩=capN S0+bigP D+bigEs C:=(by unfold bigF bigH;rw[<-hO.out]);have hq:q=bigL ((l.take (k+1)).map Fc.f):=(by have h1:=hQ.out;have h3:=hi.out;have h4:=hm.out;rw[h7] at h1;omega);have HQ:=gd hq;have gi:=(hS.out.trans hC.out).trans hw;clear hq h7 hi;by_cases J:5000<q
       ·have hg:(5000:Int)<(q:Int):=om;have hF:R=1:=(by rw[<-HR.out,ZqN];have h2:=hL.out;have:=HQ.out;omega);subst hF;clear J;go_wp2;go_ret;exact ⟨rfl,gi⟩
       ·have hg:¬(5000:Int)<(q:Int):=om;have gz:q<=5000:=om;clear J;go_wp2;go_roundw
        case rel=>exact ⟨k+1,q,ha,by go_num,rfl,gz,HQ,gi⟩
        case measure=>simp[intOf];omega
  ·have gx:k=l.length:=om;subst gx;have h8:=ho.out;rw[Zq4 (ZqE _)] at h8;have gt:R=0:=(by rw[<-HR.out,ZqH];omega);subst gt;clear h8 ho;go_wp2;go_ret;exact ⟨rfl,hx⟩
theorem Zpc {f:Fd} (h:¬5000<bigF f):szA 5000 5000 f:=by
 have H:bigH f+bigP f.path+bigEs f.ents<=5000:=by unfold bigF at h;omega
 have F:bigH f<=5000:=om
 unfold bigH capN at F;have J:=E0 f.ents;refine ⟨λs A=> ?_,λe D s A=> ?_,om⟩
 ·simp only[Zq1,List.not_mem_nil,ZrD] at A;rcases A with rfl|rfl|rfl<;>omega
 ·have I:=ZfY D;have C:bigE e<=5000:=om
  unfold bigE capN at C;unfold strsE at A;simp only[Zq1,List.not_mem_nil,ZrD] at A;rcases A with rfl|rfl|rfl|rfl<;>omega
section
set_option linter.unusedSimpArgs false
theorem Qo (x:Fc) (w:World) (X:RdC w x) (hw:fwide x.f):
 Calls prog 14 #[.agg (cellsC x).toArray] w λe w'=>e= .returned (.bool (decide (5000<bigF x.f)))/\Ext w w':=by
 have S:=ZbU X.sl;have I:=gd (λ(w':World) (h:Ext w w')=>ZfL (.slice (some ⟨w'.heap.size,0,none⟩) 1 1) [x] (w'.alloc (.cells (cellsC x).toArray 32)) (Zj (w:=w') (n:=1) (cs:=cellsC x) (by rfl) (by decide)) (λy Y=>by rw[ZqU.1 Y];exact (X.ext h).ext ((Ext.refl _).alloc _)) (by show 1<=reachBytes;unfold reachBytes;decide) (λy Y=>by rw[ZqU.1 Y];exact hw));have Z:bigL ([x].map Fc.f)=bigF x.f:=by unfold bigL;simp
 rw[Z] at I;obtain ⟨b,R⟩:∃b,bigF x.f=b:=⟨_,rfl⟩;rw[R] at I|-;clear Z R S hw;obtain ⟨xp,ha,⟨H,V,A,F,J,D⟩⟩:=x;obtain ⟨U,C⟩:=X;dsimp only at*;obtain ⟨xA,xc,rfl, -, -⟩:=U.form;obtain ⟨xB,xd,rfl, -, -⟩:=C.form;unfold cellsC fCells at I|-;dsimp only at I|-;clear U C;by_cases Q:5000<b
 ·rw[ZqN Q] at I;rw[Zrj Q];clear Q;go_enter func14,ntmps14
  go_wp2_with (first|(go_at_call 36;have O:=I.out _ ((Ext.refl w).alloc (.cells #[.slice xA H.length xc,.string V,.string A,.string F,.int .i64 J,.slice xB D.length xd] 32));(rw[Zd] at O);(refine ZqD O ?_);clear O;rintro e w1 ⟨rfl,C⟩))
  go_ret;exact ⟨rfl,(((Ext.refl w).alloc _).alloc _).trans C⟩
 ·rw[ZqH Q] at I;rw[Zre Q];clear Q;go_enter func14,ntmps14
  go_wp2_with (first|(go_at_call 36;have O:=I.out _ ((Ext.refl w).alloc (.cells #[.slice xA H.length xc,.string V,.string A,.string F,.int .i64 J,.slice xB D.length xd] 32));(rw[Zd] at O);(refine ZqD O ?_);clear O;rintro e w1 ⟨rfl,C⟩))
  go_ret;exact ⟨rfl,(((Ext.refl w).alloc _).alloc _).trans C⟩
end
section
theorem Zpr {α:Type} {cs:Array α} (h:cs.size=5):∃c0 c1 c2 c3 c4,cs=#[c0,c1,c2,c3,c4]:=by
 obtain ⟨l⟩:=cs
 match l,h with
 | [c0,c1,c2,c3,c4],_=>exact ⟨c0,c1,c2,c3,c4,rfl⟩
instance openEnt:Inhabited Ent:=⟨zeroE⟩
theorem Zeb {α:Type} {k:Nat} (C:0<k):∀(css:List (List α)),(∀c∈css,c.length=k)->∀j,css.flatten[j]? =(css[j / k]?).bind λc=>c[j % k]?
 | [],_,j=>by simp
 |c::t,h,j=>by
  have D:c.length=k:=h c (by simp)
  rw[ZsB]
  by_cases A:j<k
  ·rw[Zsq om,Nat.div_eq_of_lt A,Nat.mod_eq_of_lt A]
   rfl
  ·rw[ZrP om,D,Zeb C t (λx F=>h x (by simp[F]))]
   have e1:j / k=(j - k) / k+1:=by
    have:=Nat.div_eq_sub_div C (show k<=j by omega)
    omega
   have e2:j % k=(j - k) % k:=Nat.mod_eq_sub_mod om
   rw[e1,e2,List.getElem?_cons_succ]
theorem Ed {w:World} {k:Nat} (J:0<k) {a:Addr} {len cap:Nat} (css:Nat->List Value) (O:len<=cap) (Q:cap<=maxLen)
 (h:∀i,i<len->(css i).length=k/\∀j,j<k->w.cell? ((a.add (i*k)).add j)=(css i)[j]?):RSl w k (.slice (some a) len cap) len ((List.range len).map css).flatten:=by
 have A:∀c∈(List.range len).map css,c.length=k:=by intro c R;obtain ⟨i,D,rfl⟩:=Zrr.1 R;exact (h i (Zsu.1 D)).1
 refine ⟨?_,some a,cap,rfl,O,Q,(λe=>by cases e),λj u C=>⟨a,rfl,?_⟩⟩
 ·clear Q O;have I:∀(l:List (List Value)),(∀c∈l,c.length=k)->l.flatten.length=l.length*k:=by
   intro l
   induction l with
   |nil=>intro _;simp
   |cons c t ih=>intro h;rw[ZsB,ZqG,h c (by simp),ih λx S=>h x (by simp[S]),ZqK,Nat.succ_mul];omega
  rw[I _ A];simp
 ·rw[Zeb J _ A] at C;by_cases D:j / k<len
  ·have e:((List.range len).map css)[j / k]? =some (css (j / k)):=(by simp[D]);rw[e] at C;have H:(css (j / k))[j % k]? =some u:=C;have F:=(h (j / k) D).2 (j % k) (Nat.mod_lt _ J);rw[QJ] at F;have e2:j / k*k+j % k=j:=(by rw[Zst];exact Nat.div_add_mod j k);rw[e2] at F;rw[F,H]
  ·have e:((List.range len).map css)[j / k]? =none:=(by simp;omega);rw[e] at C;cases C
theorem JP {H:Type} {P:Program} {e:TypeId} {n:Nat}:∀{l:List (DataW H)} {d:DataW H},d∈l->n∈d.weights P e->n∈DataW.weightsAll P e l
 | [],_,h,_=>by simp at h
 |x::t,d,h,hn=>by
  unfold DataW.weightsAll
  rcases Zq1.1 h with h|h
  ·subst h;exact ZrZ _ hn
  ·exact List.mem_append_right _ (JP h hn)
section
variable {H:Type} {enc:TypeId×Value→H} {P:Program} {w:World} {base:Nat} {spare:Nat→Bool} {held:Bool}
theorem Zqt {t:TypeId} {D F I J O:Field} {fuel:Nat} {cs:List Value} {x:DataW H×List MemPlace} (Z:P.underlying t=some (.struct #[D,F,I,J,O])) (C:oneCellFields P #[D,F,I,J,O]=true) (Y:P.cellsOf t=5)
 (h:DataW.trod enc P w base spare held fuel t cs=some x):
 ∃(v0 v1 v2 v3 v4:Value) (R y1 y2 S U:DataW H×List MemPlace) (n:Nat),cs= [v0,v1,v2,v3,v4]/\x.1= .agg [R.1,y1.1,y2.1,S.1,U.1]/\
  DataW.trod enc P w base spare held n D.type [v0]=some R/\DataW.trod enc P w base spare held n F.type [v1]=some y1/\DataW.trod enc P w base spare held n I.type [v2]=some y2/\DataW.trod enc P w base spare held n J.type [v3]=some S/\DataW.trod enc P w base spare held n O.type [v4]=some U:=by
 obtain ⟨xs,n,_,hx,X,Q,A⟩:=DataW.trod_struct Z h;obtain ⟨o0,k0⟩:=hone_of C 0 D rfl;obtain ⟨o1,k1⟩:=hone_of C 1 F rfl;obtain ⟨o2,k2⟩:=hone_of C 2 I rfl;obtain ⟨o3,k3⟩:=hone_of C 3 J rfl;obtain ⟨o4,k4⟩:=hone_of C 4 O rfl;rw[Y] at X;obtain ⟨c0,c1,c2,c3,c4,V⟩:=Zpr (cs:=cs.toArray) (by simpa using X);have V:cs= [c0,c1,c2,c3,c4]:=by simpa using ZqS Array.toList V
 subst V
 match xs,Q with
 | [R,y1,y2,S,U],_=>exact ⟨c0,c1,c2,c3,c4,R,y1,y2,S,U,n,rfl,by rw[hx];rfl,by simpa [Value.cells,o0,k0] using A 0 D rfl,by simpa [Value.cells,o1,k1] using A 1 F rfl,by simpa [Value.cells,o2,k2] using A 2 I rfl,by simpa [Value.cells,o3,k3] using A 3 J rfl,by simpa [Value.cells,o4,k4] using A 4 O rfl⟩
theorem Zps {α:Type} {cs:Array α} (h:cs.size=6):∃c0 c1 c2 c3 c4 c5,cs=#[c0,c1,c2,c3,c4,c5]:=by
 obtain ⟨l⟩:=cs
 match l,h with
 | [c0,c1,c2,c3,c4,c5],_=>exact ⟨c0,c1,c2,c3,c4,c5,rfl⟩
theorem Zqu {t:TypeId} {D F I J O Q:Field} {fuel:Nat} {cs:List Value} {x:DataW H×List MemPlace} (hs:P.underlying t=some (.struct #[D,F,I,J,O,Q])) (C:oneCellFields P #[D,F,I,J,O,Q]=true) (hC:P.cellsOf t=6)
 (h:DataW.trod enc P w base spare held fuel t cs=some x):
 ∃(v0 v1 v2 v3 v4 v5:Value) (S y1 y2 U V X:DataW H×List MemPlace) (n:Nat),cs= [v0,v1,v2,v3,v4,v5]/\x.1= .agg [S.1,y1.1,y2.1,U.1,V.1,X.1]/\
  DataW.trod enc P w base spare held n D.type [v0]=some S/\DataW.trod enc P w base spare held n F.type [v1]=some y1/\DataW.trod enc P w base spare held n I.type [v2]=some y2/\DataW.trod enc P w base spare held n J.type [v3]=some U/\DataW.trod enc P w base spare held n O.type [v4]=some V/\DataW.trod enc P w base spare held n Q.type [v5]=some X:=by
 obtain ⟨xs,n,_,hx,Z,R,A⟩:=DataW.trod_struct hs h;obtain ⟨o0,k0⟩:=hone_of C 0 D rfl;obtain ⟨o1,k1⟩:=hone_of C 1 F rfl;obtain ⟨o2,k2⟩:=hone_of C 2 I rfl;obtain ⟨o3,k3⟩:=hone_of C 3 J rfl;obtain ⟨o4,k4⟩:=hone_of C 4 O rfl;obtain ⟨o5,k5⟩:=hone_of C 5 Q rfl;rw[hC] at Z;obtain ⟨c0,c1,c2,c3,c4,c5,Y⟩:=Zps (cs:=cs.toArray) (by simpa using Z);have Y:cs= [c0,c1,c2,c3,c4,c5]:=by simpa using ZqS Array.toList Y
 subst Y
 match xs,R with
 | [S,y1,y2,U,V,X],_=>exact ⟨c0,c1,c2,c3,c4,c5,S,y1,y2,U,V,X,n,rfl,by rw[hx];rfl,by simpa [Value.cells,o0,k0] using A 0 D rfl,by simpa [Value.cells,o1,k1] using A 1 F rfl,by simpa [Value.cells,o2,k2] using A 2 I rfl,by simpa [Value.cells,o3,k3] using A 3 J rfl,by simpa [Value.cells,o4,k4] using A 4 O rfl,by simpa [Value.cells,o5,k5] using A 5 Q rfl⟩
end
section
variable {H:Type} {enc:TypeId×Value→H} {P:Program} {w:World} {base:Nat} {spare:Nat→Bool} {held:Bool}
end
theorem Zag {n:Int} (h:(Lit.int .i64 n).wf=true):i64ok n:=by
 have A:(decide (IntKind.min .i64<=n) && decide (n<=IntKind.max .i64))=true:=h;rw[ZqZ] at A;exact ⟨Zro A.1,Zro A.2⟩
section
variable {H:Type} {enc:TypeId×Value→H} {w:World}
theorem ZnP {fuel:Nat} {cs:List Value} {x:DataW H×List MemPlace} (h:DataW.trod enc prog w 0 (λ_=>true) true fuel 61 cs=some x):
 ∃e:Ent,cs=eCells e/\i64ok e.upd/\((∀n∈x.1.weights prog 61,n<=reachBytes)->ewide e):=by
 obtain ⟨c0,c1,c2,c3,c4,Y,y1,y2,Z,y4,n,rfl,C,D,F,I,J,O⟩:=Zqt underlying61 (by kernel_rfl) (by kernel_rfl) h;obtain ⟨s0,e0,w0,b0⟩:=Zsv underlying9 D;obtain ⟨R,e1,w1,b1⟩:=Zsv underlying9 F;obtain ⟨S,e2,w2,b2⟩:=Zsv underlying9 I;obtain ⟨U,e3,V,b3⟩:=Zsv underlying9 J;obtain ⟨Q,e4,X,b4⟩:=DataW.trod_int underlying2 O;injection e0 with e0;injection e1 with e1;injection e2 with e2;injection e3 with e3;injection e4 with e4;subst e0 e1 e2 e3 e4;clear D F I J O;rw[w0,w1,w2,V,X] at C;refine ⟨⟨s0,R,S,U,Q⟩,rfl,Zag b4,λA=> ?_⟩;rw[C] at A;simp[DataW.weightsEach,DataW.weights,underlying61] at A;exact ⟨Zag b4,A.1,A.2.1,A.2.2.1,A.2.2.2⟩
theorem ZlF {fuel:Nat} {v:Value} {x:DataW H×List MemPlace} (h:DataW.trod enc prog w 0 (λ_=>true) true fuel 30 [v]=some x):
 ∃l:List Ent,REnts w v l/\((∀n∈x.1.weights prog 30,n<=reachBytes)->l.length<=reachBytes/\∀e∈l,ewide e):=by
 rcases open_slice underlying30 h with ⟨F,V⟩|⟨a,len,cap,m,n,D,Pl,F,_,hl,hm,J,V,R⟩
 ·injection F with F;subst F;exact ⟨[],RSl.nil w 5,λ_=>⟨ZqO _,by simp⟩⟩
 ·injection F with F;subst F;simp only[Zsy] at J;have O:=J.symm;subst O;have Z:prog.cellsOf 61=5:=by kernel_rfl
  have Q:prog.bytesOf 61=72:=by kernel_rfl
  obtain ⟨E,U⟩:=choose_lt (α:=Ent) (n:=len) (p:=λi e=>(∀j,j<5->w.cell? ((a.add (i*5)).add j)=(eCells e)[j]?)/\((∀n∈(D i).weights prog 61,n<=reachBytes)->ewide e)) (λi C=>by
   obtain ⟨X,S,Y⟩:=R i om;obtain ⟨e,rfl,_,I⟩:=ZnP Y;rw[Z] at S;obtain ⟨_,_,A⟩:=World.cells?_some S;exact ⟨e,A,I⟩)
  refine ⟨(List.range len).map E,?_,λI=> ?_⟩
  ·have:=Ed (w:=w) (k:=5) (by decide) (a:=a) (len:=len) (cap:=cap) (λi=>eCells (E i)) hl hm (λi C=>⟨rfl,(U i C).1⟩);unfold REnts flatE;rw[Zq9,ZsW,ZsX];exact this
  ·rw[V] at I;simp only[DataW.weights,underlying30,Q,Zq9,ZsW] at I;refine ⟨?_,λe he=> ?_⟩
   ·have:=I _ (Zq6 ..);rw[Zq9,ZsW];omega
   ·obtain ⟨i,C,rfl⟩:=Zrr.1 he;have C:=Zsu.1 C;refine (U i C).2 λn hn=>I n (Zq7 _ (ZrZ _ (JP (Zrr.2 ⟨i,Zsu.2 C,rfl⟩) hn)))
theorem Zji {fuel:Nat} {v:Value} {x:DataW H×List MemPlace} (h:DataW.trod enc prog w 0 (λ_=>true) true fuel 29 [v]=some x):
 ∃l:List ByteArray,RStrs w v l/\((∀n∈x.1.weights prog 29,n<=reachBytes)->l.length<=reachBytes/\∀s∈l,s.size<=reachBytes):=by
 rcases open_strs underlying29 underlying9 (by kernel_rfl) h with ⟨A,S⟩|⟨a,len,cap,m,C,A,_,U,V,D,S,O⟩
 ·injection A with A;subst A;exact ⟨[],RSl.nil w 1,λ_=>⟨ZqO _,by simp⟩⟩
 ·injection A with A;subst A;simp only[Zsy] at D;have F:=D.symm;subst F;have J:prog.bytesOf 9=16:=by kernel_rfl
  refine ⟨(List.range len).map C,?_,λI=> ?_⟩
  ·have:=Ed (w:=w) (k:=1) (by decide) (a:=a) (len:=len) (cap:=cap) (λi=> [.string (C i)]) U V (λi R=>⟨rfl,λj Y=>by
    have Q:j=0:=om;subst Q;rw[add_zero,Nat.mul_one];exact (O i om).1⟩)
   unfold RStrs;rw[Zq9,ZsW,ZsX];have e:((List.range len).map λi=> [Value.string (C i)]).flatten=(List.range len).map (Value.string∘C):=by
    generalize List.range len=r
    induction r with
    |nil=>rfl
    |cons i t ih=>simp[ih]
   rw[<-e];exact this
  ·rw[S] at I;simp only[DataW.weights,underlying29,J,Zq9,ZsW] at I;refine ⟨?_,λs X=> ?_⟩
   ·have:=I _ (Zq6 ..);rw[Zq9,ZsW];omega
   ·obtain ⟨i,R,rfl⟩:=Zrr.1 X;have:=I (C i).size (Zq7 _ (ZrZ _ (JP (Zrr.2 ⟨i,R,rfl⟩) (by simp[DataW.weights]))));exact this
theorem Zfn {fuel:Nat} {cs:List Value} {x:DataW H×List MemPlace} (h:DataW.trod enc prog w 0 (λ_=>true) true fuel 32 cs=some x):
 ∃f:Fc,cs=cellsC f/\RdC w f/\((∀n∈x.1.weights prog 32,n<=reachBytes)->fwide f.f):=by
 obtain ⟨c0,c1,c2,c3,c4,c5,y0,y1,y2,y3,y4,y5,n,rfl,I,J,O,Q,R,S,U⟩:=Zqu underlying32 (by kernel_rfl) (by kernel_rfl) h;obtain ⟨l0,r0,q0⟩:=Zji J;obtain ⟨V,e1,w1,b1⟩:=Zsv underlying9 O;obtain ⟨X,e2,w2,b2⟩:=Zsv underlying9 Q;obtain ⟨Y,e3,w3,b3⟩:=Zsv underlying9 R;obtain ⟨n4,e4,w4,b4⟩:=DataW.trod_int underlying2 S;obtain ⟨l5,r5,q5⟩:=ZlF U;injection e1 with e1;injection e2 with e2;injection e3 with e3;injection e4 with e4;subst e1 e2 e3 e4;clear J O Q R S U;rw[w1,w2,w3,w4] at I;refine ⟨⟨c0,c5,⟨l0,V,X,Y,n4,l5⟩⟩,rfl,⟨r0,r5⟩,λA=> ?_⟩;rw[I] at A;simp only[DataW.weights,underlying32,DataW.weightsEach,Zq8,Zrz,Zrb,Zrl] at A;have D:=q0 λn C=>A n (ZrZ _ C);have F:=q5 λn C=>A n (by simp[C]);have Z:V.size<=reachBytes:=A _ (by simp);have g2:X.size<=reachBytes:=A _ (by simp);have g3:Y.size<=reachBytes:=A _ (by simp);exact ⟨Zag b4,D.1,D.2,Z,g2,g3,F.1,F.2⟩
end
end
section
set_option linter.unusedSimpArgs false
theorem ZfF {f:Fd} (H:fwide f) (h:¬5000<bigF f):fokS f/\szA 10000 9996 f:=by
 obtain ⟨C,D,J⟩:=Zpc h;have I:bigH f+bigP f.path+bigEs f.ents<=5000:=by unfold bigF at h;omega
 exact ⟨Zl1 H om,λs A=>ZqM (C s A) (by decide),λe F s A=>ZqM (D e F s A) (by decide),om⟩
end
end Go.Proofs.YtmfinhgobjbecaaGreatDoor
