/- Parts of the proof: contracts and plain laws. -/
import Derived.Test.YtmfinhgobjbecaaGreatDoorA20
import Derived.Test.YtmfinhgobjbecaaGreatDoorA22
import Derived.Test.YtmfinhgobjbecaaGreatDoorA24
namespace Go.Proofs.YtmfinhgobjbecaaGreatDoor
open Go Go.RowKit _root_.Go.Proofs.Tryz
set_option linter.unusedVariables false
set_option linter.unusedSimpArgs false
set_option maxRecDepth 100000
set_option maxHeartbeats 16000000
section
namespace Ord
section
variable {α κ:Type} (O:Ord α κ)
end
variable {α κ:Type} [DecidableEq κ] (O:Ord α κ)
theorem got_of_mem {S:List α} (h:S.Pairwise λa b=>O.id a≠O.id b) {x:α} (C:x∈S):O.got S (O.id x)=some x:=by
 have:(S.filter λy=>decide (O.id y=O.id x))= [x]:=by
  induction S with
  |nil=>simp at C
  |cons y t ih=>
   have A:=Zsr.1 h;rcases Zq1.1 C with e|e
   ·subst e;rw[List.filter_cons_of_pos (by simp),List.filter_eq_nil_iff.2];intro z D;simpa using (A.1 z D).symm
   ·rw[List.filter_cons_of_neg (by simpa using A.1 x e)];exact ih A.2 e
 unfold got;rw[this];rfl
theorem canon_self {S:List α} (H:O.sorted S) (F:S.Pairwise λa b=>O.id a≠O.id b):O.canon S=S:=by
 refine IsCanon.unique O (O.canon_is S) ⟨H,λx=>⟨O.got_of_mem F,λh=> ?_⟩⟩;have:x∈O.joined S:=(O.mem_joined S x).2 h;unfold got at h;generalize D:(S.filter λy=>O.id y=O.id x)=g at h;cases g with
 |nil=>cases h
 |cons y t=>
  have A:=ZrK.1 (show y∈S.filter λz=>decide (O.id z=O.id x) by rw[D];simp);have C:O.id y=O.id x:=by simpa using A.2
  have:=O.got_of_mem F A.1;unfold got at this;rw[C,D,h] at this;injection this with this;rw[this];exact A.1
end Ord
end
section
section
variable {α κ:Type} [DecidableEq κ] {ok:α→Bool} {O:Ord α κ}
end
theorem ZlB {α κ:Type} [DecidableEq κ] {ok:α->Bool} {O:Ord α κ} {l:List α} (h:okL ok O l=true):O.canon l=l:=by
 have h:=Q9.1 h;exact O.canon_self h.2.1 h.2.2
theorem YQ {l:List ByteArray}:firstErr l=0↔∀s∈l,(checkS s).2=0:=by
 induction l with
 |nil=>simp[firstErr]
 |cons s t ih=>
  unfold firstErr;by_cases h:(checkS s).2=0
  ·rw[ZqN h,ih];simp[h]
  ·rw[ZqH h];simp[h]
theorem Ku {f:Fd}:headF f=0↔firstErr (strsF f)=0/\collapse f.id≠noS/\(∀p∈f.path,collapse p≠noS)/\f.path.length<=64/\inT f.upd=true:=by
 unfold headF;by_cases h:firstErr (strsF f)=0
 ·rw[ZqH (by simpa using h)];by_cases k:collapse f.id=noS\/(f.path.any λp=>decide (collapse p=noS))=true
  ·rw[ZqN k];constructor
   ·intro A;omega
   ·rintro ⟨_,F,H,_⟩;rcases k with k|k
    ·exact absurd k F
    ·obtain ⟨p,D,e⟩:=Zsc.1 k;exact absurd (Zro e) (H p D)
  ·rw[ZqH k];have I:collapse f.id≠noS:=λe=>k (Or.inl e);have J:∀p∈f.path,collapse p≠noS:=λp D e=>k (Or.inr (Zsc.2 ⟨p,D,Zrj e⟩));by_cases g:64<f.path.length
   ·rw[ZqN g];constructor
    ·intro A;omega
    ·rintro ⟨_,_,_,A,_⟩;omega
   ·rw[ZqH g];have g':f.path.length<=64:=om;by_cases C:inT f.upd=true
    ·rw[ZqN C];exact ⟨λ_=>⟨h,I,J,g',C⟩,λ_=>rfl⟩
    ·rw[ZqH C];exact ⟨λA=>by omega,λA=>absurd A.2.2.2.2 C⟩
 ·rw[ZqN h];exact ⟨λA=>absurd A h,λA=>absurd A.1 h⟩
theorem E9 {f:Fd}:errF f=0↔headF f=0/\errEs f.ents=0:=by
 unfold errF;by_cases h:headF f=0
 ·rw[ZqN h];simp[h]
 ·rw[ZqH h];simp[h]
theorem Zf1 {e:Ent} (h:okE e=true):errE e=0/\collE e=e:=by
 obtain ⟨A,C,D⟩:=Q6.1 h;have c1:=Z0 (A e.id (by simp[strsE]));have c2:=Z0 (A e.title (by simp[strsE]));have c3:=Z0 (A e.link (by simp[strsE]));have c4:=Z0 (A e.content (by simp[strsE]));refine ⟨U6.2 ⟨YQ.2 λs F=>J7 (A s F),by rw[c1];exact C,D⟩,?_⟩;unfold collE;rw[c1,c2,c3,c4]
theorem ZcH {α:Type} {g:α->α}:∀{l:List α},(∀x∈l,g x=x)->l.map g=l
 | [],_=>rfl
 |x::t,h=>by rw[Zq8,h x (by simp),ZcH λy A=>h y (by simp[A])]
theorem Zmw {f:Fd} (h:okF f=true):errF f=0/\collF f=f:=by
 obtain ⟨O,F⟩:=YE.1 h;obtain ⟨I,A,g3,g4,J⟩:=YF.1 O;have c1:=Z0 (A f.id (by simp[strsF]));have c2:=Z0 (A f.title (by simp[strsF]));have c3:=Z0 (A f.link (by simp[strsF]));have c4:∀p∈f.path,collapse p=p:=λp C=>Z0 (A p (by simp[strsF,C]));have H:=(Q9.1 F).1;refine ⟨E9.2 ⟨Ku.2 ⟨YQ.2 λs Q=>J7 (A s Q),by rw[c1];exact g3,λp C=>by rw[c4 p C];exact J p C,I,g4⟩,JM.2 λe D=>(Zf1 (H e D)).1⟩,?_⟩;unfold collF;rw[c1,c2,c3,ZcH c4,ZcH λe D=>(Zf1 (H e D)).2,ZlB F]
end
mutual
theorem fdB {N:Nat}:∀n:Nd,n.bare.fd N↔n.fd N
 | .mk k s nm al ks t a=>by
  have e1:(∀b∈al.map AtP.bare,b.fd N)↔∀b∈al,b.fd N:=by
   constructor
   ·intro h b hb
    exact h b.bare (Zrv hb)
   ·intro h b hb
    obtain ⟨c,hc,rfl⟩:=Zrr.1 hb
    exact h c hc
  have e2:(Nds.bare ks).length=ks.length:=by rw[Y6,Zq9]
  rw[Nd.bare,Nd.fd,Nd.fd,e1,e2,ZpE ks,Zq9]
theorem ZpE {N:Nat}:∀l:List Nd,Nds.fd N (Nds.bare l)↔Nds.fd N l
 | []=>by rw[Nds.bare]
 |x::t=>by rw[Nds.bare,Nds.fd,Nds.fd,fdB x,ZpE t]
end
mutual
theorem Zqa:∀n:Nd,n.bare.cnt=n.cnt
 | .mk k s nm al ks t a=>by rw[Nd.bare,Nd.cnt,Nd.cnt,Zmu ks]
theorem Zmu:∀l:List Nd,Nds.cnt (Nds.bare l)=Nds.cnt l
 | []=>by rw[Nds.bare]
 |x::t=>by rw[Nds.bare,Nds.cnt,Nds.cnt,Zqa x,Zmu t]
end
mutual
theorem ZoJ {N:Nat} {ns:List UInt8} (hs:ns.length<=2*N):∀n:Nd,n.fd N->(n.inNs ns).fd N
 | .mk k s nm al ks t a,h=>by
  rw[Nd.inNs]
  split
  ·rw[Nd.fd] at h|-
   obtain ⟨h1,h2,h3,h4,h5,h6,h7,h8,h9⟩:=h
   refine ⟨by decide,hs,h3,h4,h5,?_,ZqO _,trivial,Zct hs ks h9⟩
   rw[JN,Zq9]
   exact h6
  ·exact h
theorem Zct {N:Nat} {ns:List UInt8} (hs:ns.length<=2*N):∀l:List Nd,Nds.fd N l->Nds.fd N (Nds.inNs ns l)
 | [],_=>by rw[Nds.inNs,Nds.fd];trivial
 |x::t,h=>by
  rw[Nds.fd] at h
  rw[Nds.inNs,Nds.fd]
  exact ⟨ZoJ hs x h.1,Zct hs t h.2⟩
end
mutual
theorem Zm7 (ns:List UInt8):∀n:Nd,(n.inNs ns).cnt=n.cnt
 | .mk k s nm al ks t a=>by
  rw[Nd.inNs]
  split
  ·rw[Nd.cnt,Nd.cnt,Zah ns ks]
  ·rfl
theorem Zah (ns:List UInt8):∀l:List Nd,Nds.cnt (Nds.inNs ns l)=Nds.cnt l
 | []=>by rw[Nds.inNs]
 |x::t=>by rw[Nds.inNs,Nds.cnt,Nds.cnt,Zm7 ns x,Zah ns t]
end
theorem ZaJ {B:Nat} {id title link:ByteArray} {t:Int} {more:List Nd} (F:20<=B) (A:id.size<=B) (C:title.size<=B) (D:∀k∈more,k.name≠entryL->k.txt.length<=B):∀k∈fieldsR id title link t more,k.name≠entryL->k.txt.length<=B:=by
 intro k h H;unfold fieldsR at h;simp only[Zq1,Zq0] at h;rcases h with rfl|rfl|h|rfl|h
 ·rw[Xp];exact A
 ·rw[Xp];exact C
 ·split at h
  ·cases h
  ·rw[ZqU.1 h];unfold linkR;rw[Nd.txt,ZqH (by decide),Nds.txt];exact ZqO _
 ·rw[Xp,Zgo];exact F
 ·exact D k h H
theorem Zqb {N M B:Nat} {n:Nd} (h:comOk N M B n.bare):comOk N M B n:=by
 obtain ⟨D,F,H,C⟩:=h;refine ⟨(fdB n).1 D,by rw[<-Zqa];exact F,by rw[<-U2];exact H,λk I A J=> ?_⟩;rw[<-En];obtain ⟨kk,s,nm,al,ks,t,a⟩:=n;rw[Nd.bare] at C;have e1:k.bare.name=k.name:=by cases k;rw[Nd.bare];rfl
 exact C k.bare (by show k.bare∈Nds.bare ks;rw[Y6];exact Zrv I) (by rw[U2];exact A) (by rw[e1];exact J)
theorem amB {N M B:Nat} {n:Nd} (h:amOk N M B n.bare):amOk N M B n:=by
 refine ⟨Zqb h.com,λk A=>Zqb (h.en k.bare ?_)⟩;rw[JO];exact Zrv A
theorem Zqc {N M B:Nat} {nm:List UInt8} {l:List Nd} (h:(Nd.mk 0 atomL nm [] l [] 0).fd N) (A:(Nd.mk 0 atomL nm [] l [] 0).cnt<=M) (C:∀k∈l,k.name≠entryL->k.txt.length<=B):comOk N M B (.mk 0 atomL nm [] l [] 0):=
 ⟨h,A,rfl,λk D _ F=>C k D F⟩
theorem ZmS {N M B:Nat} {f:Fd} (C:(feedR f).fd N) (O:(feedR f).cnt<=M) (J:20<=B) (R:f.id.size<=B) (S:f.title.size<=B) (U:∀e∈f.ents,∀s∈strsE e,s.size<=B):amOk N M B (feedR f):=by
 refine ⟨Zqc C O (ZaJ J R S λk A Q=> ?_),λk A=> ?_⟩
 ·obtain ⟨e,_,rfl⟩:=Zrr.1 A;exact absurd rfl Q
 ·obtain ⟨I,X,D⟩:=Ji A;have H:=Ze9 C I;have F:=Zii O I;have h:k∈fieldsR f.id f.title f.link f.upd (f.ents.map entRs):=I;unfold fieldsR at h;simp only[Zq1,Zq0] at h;rcases h with rfl|rfl|h|rfl|h
  ·exact absurd D (show idL≠entryL by decide)
  ·exact absurd D (show titleL≠entryL by decide)
  ·split at h
   ·cases h
   ·rw[ZqU.1 h] at D;exact absurd D (show linkL≠entryL by decide)
  ·exact absurd D (show updatedL≠entryL by decide)
  ·obtain ⟨e,V,rfl⟩:=Zrr.1 h;have C:=U e V;refine Zqc H F (ZaJ J (C _ (by unfold strsE;simp)) (C _ (by unfold strsE;simp)) λk A Q=> ?_);split at A
   ·cases A
   ·rw[ZqU.1 A,Xp];exact C _ (by unfold strsE;simp)
theorem Zkr {M K:Nat} {f:Fd} (X:okF f=true) (hp:f.path= []) (F:szA M K f) (D:M<=10000) (hK:K<=9996):
 ∃m r,docP (docW (encA f))= .ok m/\resP m []= .ok r/\decA r= .ok f/\amOk 10000 1000000 10000 r/\(docW (encA f)).length<=40000000000/\(encA f).fits 10000:=by
 obtain ⟨h1,h2⟩:=Ze5 X;obtain ⟨s1,Y,s3,s4⟩:=Zb8 (N:=10000) F D om (by decide);have Q:=Kb X hp;have A:=h1;rw[Vt] at A;obtain ⟨m,r,J,S,U⟩:=ZmG ZnC (by decide) (by decide) A h2;rw[<-Vt] at J;obtain ⟨m2,r2,H,I,k3⟩:=Q;rw[J] at H;injection H with H;subst H;rw[S] at I;injection I with I;subst I;have V:Nds.inNs atomL (Nds.bare (f.ents.map entN))=f.ents.map entRs:=by rw[Y6,JN,ZsX,ZsX];exact List.map_congr_left λe _=>ZjV e
 rw[QS,V] at U;have hR:r.bare=feedR f:=U;have R:feedR f= .mk 0 atomL feedL [] (Nds.inNs atomL (Nds.bare (fieldsN f.id f.title f.link f.upd (f.ents.map entN)))) [] 0:=by rw[QS,V];rfl
 have h:=Nd.fits_fd _ Y;have C:=s3;rw[Vt] at h C;rw[Nd.fd] at h;rw[Nd.cnt] at C;have O:=Zct (N:=10000) (ns:=atomL) (by decide) _ ((ZpE _).2 h.2.2.2.2.2.2.2.2);refine ⟨m,r,J,S,k3,amB ?_,?_,Y⟩
 ·rw[hR];obtain ⟨Z,z2,z3⟩:=F;refine ZmS ?_ ?_ (by decide) (ZqM (Z _ (by simp)) D) (ZqM (Z _ (by simp)) D) (λe he s F=>ZqM (z2 e he s F) D)
  ·rw[R,Nd.fd];refine ⟨by decide,by decide,by decide,ZqO _,(by intro b Q;cases Q),?_,ZqO _,trivial,O⟩;rw[JN,Zq9,Y6,Zq9];exact h.2.2.2.2.2.1
  ·rw[R,Nd.cnt,Zah,Zmu];omega
 ·have:(8+10*K)*(6*10000+40)<=(8+10*9996)*(6*10000+40):=Nat.mul_le_mul_right _ om;omega
theorem Zes {f:Fd} (h:okF f=true):normF f=f/\errF f=0:=by
 obtain ⟨A,C⟩:=Zmw h;refine ⟨?_,A⟩;unfold normF;rw[ZqN A,C]
section
set_option linter.unusedSimpArgs false
theorem ZaD {w:World} {ad:Addr} {g j:Nat} {cs:Array Value} {T:TypeId} {fr:Nat×Nat} {u:Value} (D:w.heap[g]? =some (.cells cs T fr)) (A:ad.block=g) (h:w.cell? (ad.add j)=some u):cs[ad.off+j]? =some u:=by
 unfold World.cell? at h;rw[Xt,A,D] at h;dsimp only at h;split at h
 ·cases h
 ·have C:(ad.add j).off=ad.off+j:=by unfold Addr.add;split<;>simp_all
  rw[C] at h;exact h
theorem RSl.nil_any {w w':World} {C:Nat} {v:Value} (h:RSl w C v 0 []):RSl w' C v 0 []:=by
 obtain ⟨D,A,c,rfl,F,H,I,O⟩:=h;exact ⟨D,A,c,rfl,F,H,I,λj u J=>by simp at J⟩
theorem REnts.setZero {w:World} {v:Value} {l:List Ent} {g:Nat} {T:TypeId} {fr:Nat×Nat} (h:REnts w v l) (J:w.heap[g]? =some (.cells #[.slice none 0 0,.string ⟨#[]⟩,.string ⟨#[]⟩,.string ⟨#[]⟩,.int .i64 0,.slice none 0 0] T fr)) (cs:Array Value):REnts (w.setRow g cs) v l:=by
 cases l with
 |nil=>exact RSl.nil_any h
 |cons x t=>
  obtain ⟨R,A,c,rfl,S,U,V,F⟩:=h;obtain ⟨ad,rfl,q0⟩:=F 0 (.string x.id) rfl;obtain ⟨O,D,q3⟩:=F 3 (.string x.content) rfl;injection D with D;subst D;have H:ad.block≠g:=λI=>by
   have C:=ZaD J I q0;have r3:=ZaD J I q3
   match ad.off,C,r3 with
   |0,C,_=>simp at C
   |1,_,r3=>simp at r3
   |2,_,r3=>simp at r3
   |3,_,r3=>simp at r3
   |4,C,_=>simp at C
   |5,C,_=>simp at C
   |n+6,C,_=>simp at C
  refine ⟨R,some ad,c,rfl,S,U,V,λj u Z=> ?_⟩;obtain ⟨Q,e2,X⟩:=F j u Z;injection e2 with e2;subst e2;refine ⟨ad,rfl,?_⟩;have Y:(w.setRow g cs).cell? (ad.add j)=w.cell? (ad.add j):=Zrs (by rw[Xt];exact Zrn w g ad.block cs H);rw[Y];exact X
theorem Zjp {N M Bd:Nat} {n r:Nd} {f:Fd} (s:ByteArray) (w:World) (hE:Env w) (hs:s.size<=40000000000) (hp:docP s.data.toList= .ok n) (hr:resP n []= .ok r) (ha:amOk N M Bd r) (hN:N<=4000000) (hM:M<=1000000) (hL:Bd<=16777216) (hd:decA r= .ok f) (hn:fokS f) (hb:f.path= []):
 Calls prog 21 #[.string s] w λe w'=>(∃y:Fc,e= .returned (.tuple #[.agg (cellsC y).toArray,.int .i64 (errF f:Nat)])/\y.f=normF f/\RdC w' y)/\Ext w w':=by
 have hO:=Zb s;have hQ:=Vy hb;obtain ⟨W0,hm⟩:∃W0,w.alloc (.cells #[.slice none 0 0,.string ⟨#[]⟩,.string ⟨#[]⟩,.string ⟨#[]⟩,.int .i64 0,.slice none 0 0] 32)=W0:=⟨_,rfl⟩;have hz:Ext w W0:=by rw[<-hm];exact (Ext.refl w).alloc _
 have hh:W0.heap[w.heap.size]? =some (.cells #[.slice none 0 0,.string ⟨#[]⟩,.string ⟨#[]⟩,.string ⟨#[]⟩,.int .i64 0,.slice none 0 0] 32 (0,0)):=by rw[<-hm];exact ZqJ w _
 have Z:=λw'=>I9 s w' om;have J:=(QO hp).1;have ho:=ZjU hp;rw[hO] at J;rw[hp] at Z;have HP:=gd Z;have hI:Hid (∀(x:Nc) (w':World),x.nd=n->RdN w' x->Calls prog 26 #[.agg (cellsN x).toArray] w' λe w2=>∃v,e= .returned v/\ResRet x w'.heap.size w2 v (.ok r)/\Ext w' w2):=λx w' hx hR=>by subst hx;rw[<-hr];exact Qv s.size om x w' hR J ho
 have HD:=gd (λ(w':World) (hx:Ext w w') (k p c q d a:Nat) (s n t:List UInt8) (A B:Option Addr) (h:TrA N M w' r k s n A p c B q d t a)=>(show Calls prog 11 #[.agg #[.int .i64 (k:Nat),.string (str s),.string (str n),.slice A p c,.slice B q d,.string (str t),.int .i64 (a:Nat)]] w' λe w2=>DecA w2 (.ok f) e/\Ext w' w2 from by rw[<-hd];exact VX hN hM hL (hE.ext hx) h ha (λg hg=>by rw[hd] at hg;injection hg with hg;rw[<-hg];exact hn)));have hk:=gd ha;clear Z hp J ho hr hd hn hE ha;go_enter func21,ntmps21
 go_wp2_with (first|(refine ZqF rfl 32 (.tmp 2) (.tmp 38) rfl w.heap.size #[.slice A5 H.length c5,.string X,.string C,.string F,.int .i64 I,.slice B5 D.length d5] rfl rfl _ _ hi Ge rfl Zjh ?_)|(go_at_call 11;(refine ZqD (HD.out _ (hz.trans he) _ _ _ _ _ _ _ _ _ _ _ hy) ?_);rintro e w6 ⟨⟨y,rfl,hf,hX, -⟩,hV⟩;obtain ⟨yp,h3,⟨H,X,C,F,I,D⟩⟩:=y;obtain ⟨U,V⟩:=hX;(dsimp only at hf U V);obtain ⟨A5,c5,rfl, -, -⟩:=U.form;obtain ⟨B5,d5,rfl, -, -⟩:=V.form;have hl:=gd hf;have hJ:=gd U;have hK:=gd V;(unfold cellsC fCells;dsimp only);have hB:=(he.trans hV).alloc (.cells #[.slice A5 H.length c5,.string X,.string C,.string F,.int .i64 I,.slice B5 D.length d5] 32);have hi:=hB.heap hh;clear hf U V)|(go_at_call 26;have hq:=hI.out _ _ hP hw;simp only[cellsN] at hq;refine ZqD hq ?_;clear hq;rintro e4 w4 ⟨v4,rfl,hS,hU⟩;obtain ⟨zc,rfl,O,Y, -⟩:=hS.ok;have hc:=RdN.sl Y;obtain ⟨zk,zs,zn,h4,zl,h5,hj,zt,za⟩:=zc;obtain ⟨⟨ZA,R,Q,hC⟩,⟨ZB,S,zd,hD⟩⟩:=hc;(simp only[Nc.al,Nc.ks] at hC hD);subst hC;subst hD;simp only[cellsN];have he:=(hA.trans hU).alloc (.cells #[.int .i64 (zk:Nat),.string (str zs),.string (str zn),.slice ZA R Q,.slice ZB S zd,.string (str zt),.int .i64 (za:Nat)] 25);have h0:=he.heap hh;(have hy:TrA N M (w4.alloc (.cells #[.int .i64 (zk:Nat),.string (str zs),.string (str zn),.slice ZA R Q,.slice ZB S zd,.string (str zt),.int .i64 (za:Nat)] 25)) r zk zs zn ZA R Q ZB S zd zt za:=⟨.mk zk zs zn (.slice ZA R Q) zl (.slice ZB S zd) hj zt za,rfl,O,RdN.ext ((Ext.refl w4).alloc (.cells #[.int .i64 (zk:Nat),.string (str zs),.string (str zn),.slice ZA R Q,.slice ZB S zd,.string (str zt),.int .i64 (za:Nat)] 25)) _ Y,by rw[O];exact hk.out.com.fd,by rw[O];exact hk.out.com.cnt⟩))|(go_at_call 25;refine ZqD (HP.out _) ?_;rintro e w2 ⟨v2,rfl,⟨mc,rfl,hP,hv, -⟩,hT⟩;have hc:=RdN.sl hv;obtain ⟨mk,ms,mn,h1,ml,h2,hY,mt,ma⟩:=mc;obtain ⟨⟨MA,hG,hF,ht⟩,⟨MB,hH,md,hu⟩⟩:=hc;(simp only[Nc.al,Nc.ks] at ht hu);subst ht;subst hu;simp only[cellsN];have hA:=hT.alloc (.cells #[.int .i64 (mk:Nat),.string (str ms),.string (str mn),.slice MA hG hF,.slice MB hH md,.string (str mt),.int .i64 (ma:Nat)] 25);have hZ:=hA.heap hh;have hw:=RdN.ext ((Ext.refl w2).alloc (.cells #[.int .i64 (mk:Nat),.string (str ms),.string (str mn),.slice MA hG hF,.slice MB hH md,.string (str mt),.int .i64 (ma:Nat)] 25)) _ hv))
 ((try simp only[Exit.inBlock,Exit.then]);refine ZqT (Zl rfl _ _ _ _ #[.slice A5 H.length c5,.string X,.string C,.string F,.int .i64 I,.slice B5 D.length d5] _ _ rfl (ZqV _ _ _ _ _ _ hi) underlying32 rfl Ge) rfl ?_);have hW:H= []:=by have h:=ZqS Fd.path hl.out;rw[hQ] at h;exact h
 subst hW;refine ⟨⟨⟨.slice A5 0 c5,.slice B5 D.length d5,⟨[],X,C,F,I,D⟩⟩,rfl,hl.out,RSl.nil_any hJ.out,?_⟩,(hz.trans hB).setRow (ZqE _) _⟩;exact (hK.out.ext ((Ext.refl w6).alloc _)).setZero hi _
theorem ZeC {f:Fd} (h:okF f=true) (A:f.path= []) (Q:fokS f) (R:szA 10000 9996 f) (w:World) (O:Env w):
 Calls prog 21 #[.string (textA f)] w λe w'=>(∃y:Fc,e= .returned (.tuple #[.agg (cellsC y).toArray,.int .i64 0])/\y.f=f/\RdC w' y)/\Ext w w':=by
 obtain ⟨m,r,D,F,H,I,J, -⟩:=Zkr h A R (by decide) (by decide);have C:=Zjp (textA f) w O (by unfold textA;rw[Zo];exact J) (by unfold textA;rw[Zg];exact D) F I (by decide) (by decide) (by decide) H Q A;rw[(Zes h).1,(Zes h).2] at C;exact C
end
end Go.Proofs.YtmfinhgobjbecaaGreatDoor
