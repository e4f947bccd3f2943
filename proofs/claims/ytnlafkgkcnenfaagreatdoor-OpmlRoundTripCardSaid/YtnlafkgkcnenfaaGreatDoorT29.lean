/- Parts of the proof: contracts and plain laws. -/
import Derived.Test.YtnlafkgkcnenfaaGreatDoorTie
import Derived.Test.YtnlafkgkcnenfaaGreatDoorCards
import Derived.Test.YtnlafkgkcnenfaaGreatDoorRows
import Derived.Test.YtnlafkgkcnenfaaGreatDoorT28
namespace Go.Proofs.YtnlafkgkcnenfaaGreatDoor
open Go Go.RowKit Go.Joins Go.ChangeShapes Go.WideShapes Go.ChangeAt Go.Deep _root_.Go.Proofs.Tryz
set_option linter.unusedVariables false
set_option linter.unusedSimpArgs false
set_option linter.unusedSimpArgs false
set_option maxRecDepth 100000
set_option maxHeartbeats 16000000
theorem Zba {r1 A:List Fd->List Nd} (h:∀l,r1 (l.map outl)=A l) (d:Nat):∀(f:Nat) (l:List Fd),foldsP r1 d f (l.map outl)=foldsP A d f l
 |0,_=>rfl
 |_+1,[]=>rfl
 |f+1,x::t=>by
  have e:outl x::t.map outl=(x::t).map outl:=rfl
  have D:∀y,pathAt (outl y) d=pathAt y d:=λ_=>rfl
  rw[Zw,foldsP,foldsP]
  simp only[e,List.takeWhile_map,Zm,D,Function.comp_def,<-List.map_take,<-List.map_drop,h]
  rw[Zba h d f]
theorem Zds:∀(f d:Nat) (l:List Fd),outsP f d (l.map outl)=outsP f d l
 |0,_,_=>rfl
 |f+1,d,l=>by
  have h:∀y,feedN (outl y)=feedN y:=λ_=>rfl
  have A:∀y,(outl y).path=y.path:=λ_=>rfl
  rw[outsP,outsP]
  simp only[List.takeWhile_map,Zm,Function.comp_def,A,<-List.map_drop,X1,h]
  rw[Zba (λl=>Zds f (d+1) l)]
theorem ZiR (l:List Fd):encP (l.map outl)=encP l:=by unfold encP;rw[Zds]
section
variable {d:Nat}
mutual
def Nd.cost:Nd->Nat
 | .mk _ _ _ al ks _ _=>100+6*(al.map λb=>b.value.length).sum+Nds.cost ks
def Nds.cost:List Nd->Nat
 | []=>0
 |x::t=>x.cost+Nds.cost t
end
theorem ZeV:∀a b:List Nd,Nds.cost (a++b)=Nds.cost a+Nds.cost b
 | [],b=>by rw[Nds.cost];simp
 |x::t,b=>by
  show Nds.cost (x::(t++b))=_
  rw[Nds.cost,Nds.cost,ZeV t b]
  omega
theorem QJ (p:Nd->Bool):∀l:List Nd,Nds.cost (l.filter p)<=Nds.cost l
 | []=>Zb _
 |x::t=>by
  have ih:=QJ p t
  rw[List.filter_cons]
  split<;>simp only[Nds.cost]<;>omega
theorem Ey {N:Nat}:∀al:List AtP,(∀b∈al,b.space= []/\b.name.length<=7/\b.value.length<=N/\b.at_=0)->(attrsW al).length<=al.length*11+6*(al.map λb=>b.value.length).sum
 | [],_=>Zh _
 |b::t,h=>by
  have ih:=Ey t λx A=>h x (Zu _ A)
  obtain ⟨_,F,H,_⟩:=h b ZF
  have I:=ZbW true b.value
  have D:(attrW b).length<=6*b.value.length+11:=by
   unfold attrW
   simp only[Zc,Zd,ZM]
   omega
  show (attrW b++attrsW t).length<=_
  rw[Zc,Zd,Zw,Yn]
  omega
mutual
theorem ZbM {N:Nat}:∀n:Nd,n.small N->(nodeW n).length<=n.cost
 | .mk k s n al ks t a,h=>by
  rw[Nd.small] at h
  obtain ⟨rfl,rfl,hn,ha,hb,hk,rfl,rfl,hs⟩:=h
  have ih:=E7 ks hs
  have h1:=Ey al hb
  rw[nodeW,Ze (by decide),Nd.cost]
  split
  ·simp only[Zc,Zd,ZM]
   omega
  ·simp only[Zc,Zd,ZM]
   omega
theorem E7 {N:Nat}:∀l:List Nd,Nds.small N l->(nodesW l).length<=Nds.cost l
 | [],_=>by rw[nodesW];exact Zh _
 |x::t,h=>by
  rw[Nds.small] at h
  have h1:=ZbM x h.1
  have h2:=E7 t h.2
  rw[nodesW,Zc,Nds.cost]
  omega
end
mutual
theorem ZeQ:∀n:Nd,100*n.cnt<=n.cost
 | .mk k s n al ks t a=>by
  have ih:=ZcD ks
  rw[Nd.cnt,Nd.cost]
  omega
theorem ZcD:∀l:List Nd,100*Nds.cnt l<=Nds.cost l
 | []=>by rw[Nds.cnt];exact Zh _
 |x::t=>by
  have h1:=ZeQ x
  have h2:=ZcD t
  rw[Nds.cnt,Nds.cost]
  omega
end
def cF (d:Nat) (x:Fd):Nat:=118+6*(x.title.size+x.id.size+x.link.size)+((x.path.drop d).map λp=>100+6*p.size).sum
theorem Zh2 {x:Fd} (h:d<x.path.length):cF d x=cF (d+1) x+(100+6*(pathAt x d).size):=by
 unfold cF pathAt;rw[Zk h,Zw,Yn,ZW,Zl h];show _+(100+6*(x.path[d]).size+_)=_;simp only[Option.getD_some];omega
theorem ZiC (d:Nat) (x:Fd):(feedN x).cost<=cF d x:=by
 have e1:∀s:ByteArray,(lst s).length=s.size:=λ_=>rfl;have h:(withP (elemN outlineL []) [(typeL,rssL),(textL,lst x.title),(xmlUrlL,lst x.id)]).cost=118+6*(x.title.size+x.id.size):=by show (Nd.mk 0 [] outlineL [pairA (typeL,rssL),pairA (textL,lst x.title),pairA (xmlUrlL,lst x.id)] [] [] 0).cost=_;rw[Nd.cost,Nds.cost];simp only[pairA,Zw,Yc,Yn,List.sum_nil,e1];show 100+6*(3+_)+0=_;omega
 have A:(withP (withP (elemN outlineL []) [(typeL,rssL),(textL,lst x.title),(xmlUrlL,lst x.id)]) [(htmlUrlL,lst x.link)]).cost=118+6*(x.title.size+x.id.size+x.link.size):=by show (Nd.mk 0 [] outlineL [pairA (typeL,rssL),pairA (textL,lst x.title),pairA (xmlUrlL,lst x.id),pairA (htmlUrlL,lst x.link)] [] [] 0).cost=_;rw[Nd.cost,Nds.cost];simp only[pairA,Zw,Yc,Yn,List.sum_nil,e1];show 100+6*(3+_)+0=_;omega
 unfold feedN cF;dsimp only;split
 ·rw[h];omega
 ·rw[A];omega
theorem ZlI {α:Type} {f g:α->Nat}:∀(l:List α),(∀x∈l,f x<=g x)->(l.map f).sum<=(l.map g).sum
 | [],_=>Zb _
 |x::t,h=>by
  rw[Zw,Zw,Yn,Yn]
  have:=ZlI t λy A=>h y (Zu _ A)
  have:=h x ZF
  omega
theorem Za9 {rec_:List Fd->List Nd} {path:List ByteArray} {d:Nat} (J:path.length=d)
 (A:∀(s:ByteArray) (g:List Fd),asc g->(∀x∈g,Pref (path++ [s]) x)->Nds.cost (rec_ g)<=(g.map (cF (d+1))).sum):
 ∀(f:Nat) (l:List Fd),asc l->(∀x∈l,Pref path x/\d<x.path.length)->Nds.cost (foldsP rec_ d f l)<=(l.map (cF d)).sum
 |0,l,_,_=>(by rw[foldsP,Nds.cost];exact Zh _)
 |f+1,[],_,_=>(by rw[foldsP,Nds.cost];exact Zh _)
 |f+1,x::t,hs,hl=>by
  obtain ⟨n,K⟩:∃n,((x::t).takeWhile λy=>decide (pathAt y d=pathAt x d)).length=n:=⟨_,rfl⟩;have H:=KN x t d;have h:=Zan x t d;rw[K] at H h;rw[foldsP];(try dsimp only);rw[K,Nds.cost];have U:=A (pathAt x d) ((x::t).take n) (Ug (List.take_sublist _ _) hs) λy F=>by have I:=hl y (Y2 F);rw[<-h y F];exact I.1.next J I.2
  have ih:=Za9 J A f ((x::t).drop n) (Ug (List.drop_sublist _ _) hs) λy F=>hl y (Yr F);have Q:(withP (elemN outlineL (rec_ ((x::t).take n))) [(textL,lst (pathAt x d))]).cost<=100+6*(pathAt x d).size+Nds.cost (rec_ ((x::t).take n)):=by show (Nd.mk 0 [] outlineL [pairA (textL,lst (pathAt x d))] ((rec_ ((x::t).take n)).filter λk=> !(decide (k.kind=1) && k.text.isEmpty)) [] 0).cost<=_;rw[Nd.cost];have:=QJ (λk=> !(decide (k.kind=1) && k.text.isEmpty)) (rec_ ((x::t).take n));simp only[pairA,Zw,Yc,Yn,List.sum_nil];show 100+6*((pathAt x d).size+0)+_<=_;omega
  obtain ⟨D,rfl⟩:∃D,n=D+1:=⟨n - 1,by omega⟩;have R:(((x::t).take (D+1)).map (cF (d+1))).sum+(100+6*(pathAt x d).size)<=(((x::t).take (D+1)).map (cF d)).sum:=by rw[List.take_succ_cons,Zw,Zw,Yn,Yn,Zh2 (hl x ZF).2];have:=ZlI (f:=cF (d+1)) (g:=cF d) (t.take D) λy F=>(by rw[Zh2 (hl y (Zu _ (Y2 F))).2];omega);omega
  have S:((x::t).map (cF d)).sum=(((x::t).take (D+1)).map (cF d)).sum+(((x::t).drop (D+1)).map (cF d)).sum:=by rw[<-Jw,<-ZN,Yy]
  omega
theorem Zdr:∀(f d:Nat) (path:List ByteArray) (l:List Fd),path.length=d->asc l->(∀x∈l,Pref path x)->Nds.cost (outsP f d l)<=(l.map (cF d)).sum
 |0,d,path,l,_,_,_=>(by rw[outsP,Nds.cost];exact Zh _)
 |f+1,d,path,l,hd,hs,hl=>by
  obtain ⟨n,F⟩:∃n,(l.takeWhile λx=>decide (x.path.length=d)).length=n:=⟨_,rfl⟩
  have H:=VC hd hs λx A=>hl x A
  have h:l.takeWhile (λx=>decide (x.path.length=d))=l.take n:=by rw[<-F];exact YX.1 (XG _)
  rw[F,h] at H
  rw[outsP,h,show (l.take n).length=n by rw[<-h,F],ZeV]
  have J:Nds.cost ((l.take n).map feedN)<=((l.take n).map (cF d)).sum:=by
   have:∀m:List Fd,Nds.cost (m.map feedN)<=(m.map (cF d)).sum:=λm=>by
    induction m with
    |nil=>rw[Yc,Nds.cost];exact Zh _
    |cons y m ih=>
     rw[Zw,Zw,Yn,Nds.cost]
     have:=ZiC d y
     omega
   exact this _
  have K:=Za9 hd (rec_:=outsP f (d+1)) (λs g I D=>Zdr f (d+1) (path++ [s]) g (by rw[Zc,hd];rfl) I D) (l.length+1) (l.drop n) (Ug (List.drop_sublist _ _) hs) λx A=>⟨hl x (Yr A),H.2 x A⟩
  have Q:(l.map (cF d)).sum=((l.take n).map (cF d)).sum+((l.drop n).map (cF d)).sum:=by rw[<-Jw,<-ZN,Yy]
  omega
theorem ZkD {l:List Fd} (h:okA l=true) (F:(encP l).small 10000):(encP l).cost<=318+(l.map (cF 0)).sum/\(docW (encP l)).length<=358+(l.map (cF 0)).sum:=by
 have H:=Zdr 66 0 [] l rfl (Zal h) λx _=>⟨x.path,rfl⟩;have A:(encP l).cost<=318+(l.map (cF 0)).sum:=by
  have e:(encP l).cost=118+((elemN headL []).cost+((elemN bodyL (outsP 66 0 l)).cost+0)):=by show (Nd.mk 0 [] opmlL [pairA (versionL,twoL)] [elemN headL [],elemN bodyL (outsP 66 0 l)] [] 0).cost=_;rw[Nd.cost,Nds.cost,Nds.cost,Nds.cost];rfl
  have e2:(elemN headL []).cost=100:=by show (Nd.mk 0 [] headL [] [] [] 0).cost=100;rw[Nd.cost,Nds.cost];rfl
  have e3:(elemN bodyL (outsP 66 0 l)).cost<=100+Nds.cost (outsP 66 0 l):=by show (Nd.mk 0 [] bodyL [] ((outsP 66 0 l).filter λk=> !(decide (k.kind=1) && k.text.isEmpty)) [] 0).cost<=_;rw[Nd.cost];have:=QJ (λk=> !(decide (k.kind=1) && k.text.isEmpty)) (outsP 66 0 l);show 100+6*0+_<=_;omega
  omega
 refine ⟨A,?_⟩;have I:=ZbM _ F;unfold docW;rw[Zc,Zc];have D:headW.length=39:=rfl;rw[D];show 39+_+1<=_;omega
end
theorem Zm1 {x:Fd} (h:bigF x<=5000):cF 0 x<=118*bigF x:=by
 have F:x.id.size+x.title.size+x.link.size+1<=bigH x:=by
  have:bigH x<=5000:=by unfold bigF at h;omega
  unfold bigH capN at*;omega
 have A:∀l:List ByteArray,bigP l<=5000->(l.map λp=>100+6*p.size).sum<=118*bigP l:=λl=>by
  induction l with
  |nil=>intro _;exact Zh _
  |cons p l ih=>intro D;have e:bigP (p::l)=capN p.size+bigP l:=(by unfold bigP;rw[Zw,Yn]);rw[e] at D|-;have:=ih (by omega);rw[Zw,Yn];unfold capN at*;omega
 have H:=A x.path (by unfold bigF at h;omega);unfold cF;rw[Jm];unfold bigF;omega
theorem ZiJ {l:List Fd} (h:okA l=true) (A:bigL l<=5000) (F:(encP l).small 10000):(encP l).cost<=590318/\(docW (encP l)).length<=600000/\(encP l).cnt<=5903:=by
 obtain ⟨J,K⟩:=ZkD h F;have I:(l.map (cF 0)).sum<=118*bigL l:=by
  have D:∀m:List Fd,bigL m<=5000->(m.map (cF 0)).sum<=118*bigL m:=λm=>by
   induction m with
   |nil=>intro _;exact Zh _
   |cons y m ih=>intro H;have e:bigL (y::m)=bigF y+bigL m:=(by unfold bigL;rw[Zw,Yn]);rw[e] at H|-;have:=ih (by omega);have:=Zm1 (x:=y) (by omega);rw[Zw,Yn];omega
  exact D l A
 exact ⟨by omega,by omega,by have:=ZeQ (encP l);omega⟩
section
variable {M N:Nat}
mutual
theorem ZdZ {N:Nat}:∀n:Nd,n.bare.fd N↔n.fd N
 | .mk k s nm al ks t a=>by
  rw[Nd.bare,Nd.fd,Nd.fd,Ze9 ks,Zm]
  have h1:(Nds.bare ks).length=ks.length:=Zcw ks
  have h2:(∀b∈al.map AtP.bare,b.fd N)↔∀b∈al,b.fd N:=by
   constructor
   ·exact λh b hb=>h b.bare (ZY hb)
   ·intro h b hb
    obtain ⟨c,hc,rfl⟩:=ZS.1 hb
    exact h c hc
  rw[h1,h2]
theorem Ze9 {N:Nat}:∀l:List Nd,Nds.fd N (Nds.bare l)↔Nds.fd N l
 | []=>by rw[Nds.bare]
 |x::t=>by rw[Nds.bare,Nds.fd,Nds.fd,ZdZ x,Ze9 t]
theorem Zcw:∀l:List Nd,(Nds.bare l).length=l.length
 | []=>by rw[Nds.bare]
 |x::t=>by rw[Nds.bare,Zd,Zd,Zcw t]
end
mutual
theorem ZaK:∀n:Nd,n.bare.cnt=n.cnt
 | .mk k s nm al ks t a=>by rw[Nd.bare,Nd.cnt,Nd.cnt,ZcC ks]
theorem ZcC:∀l:List Nd,Nds.cnt (Nds.bare l)=Nds.cnt l
 | []=>by rw[Nds.bare]
 |x::t=>by rw[Nds.bare,Nds.cnt,Nds.cnt,ZaK x,ZcC t]
end
theorem ZiD {l:List Fd} (h:okA l=true):distF l:=by
 obtain ⟨A, -,D⟩:=Uj.1 h;have e:(l.map λf=>(collF f).id)=l.map Fd.id:=List.map_congr_left λf F=>by rw[(ZaM (A f F)).2]
 unfold distF;rw[e];exact List.pairwise_map.2 D
theorem ZhO {D:Except PErr Nd} {m F r r':Nd} (H:D= .ok m) (h:D= .ok F) (I:resP m []= .ok r) (A:resP F []= .ok r'):r'=r:=by
 rw[H] at h;injection h with h;subst h;rw[I] at A;injection A with A;exact A.symm
theorem ZhN {l:List Fd} (h:okA l=true) (U:bigL l<=5000) (I:smA l):∃m r,docP (docW (encP l))= .ok m/\resP m []= .ok r/\opmlP r= .ok (l.map outl)/\r.fd 10000/\r.cnt<=10000/\(docW (encP l)).length<=600000:=by
 obtain ⟨Q,R⟩:=ZgX h;obtain ⟨m,r,D,F,H⟩:=ZeZ (encP l) Q R;have A:=ZcK (λx V=>(I.1 x V).2) I.2;obtain ⟨-,K,Z⟩:=ZiJ h U A.1;refine ⟨m,r,D,F,?_,?_,?_,K⟩
 ·have S:=ZhB h;obtain ⟨m',r',X,Y,J⟩:=S;rw[ZhO D X F Y] at J;exact J
 ·rw[<-ZdZ,H,ZdZ];exact Nd.fits_fd _ A.2.1
 ·rw[<-ZaK,H,ZaK];omega
theorem RSl.away1 {w:Wq} {size n g:Nat} {v z:Value} {xs:List Value} {T:TypeId} {fr:Nat×Nat} (h:RSl w size v n xs) (V:w.heap[g]? =some (.cells #[z] T fr)) (U:∃j u,xs[j]? =some u/\(j≠0\/u≠z)):v.ownBlock≠some g:=by
 obtain ⟨X,A,c,rfl,Y,Z,h4,Q⟩:=h;obtain ⟨j,u,S,F⟩:=U;obtain ⟨ad,rfl,D⟩:=Q j u S;intro e;have e2:ad.block=g:=by injection e
 unfold World.cell? at D;rw[UD,e2,V] at D;dsimp only at D;split at D
 ·cases D
 ·have R:(ad.add j).off=ad.off+j:=by unfold Addr.add;split<;>simp_all
  rw[R] at D;obtain ⟨H,J⟩:=Zv.1 D;have K:ad.off+j<1:=H;have I:ad.off+j=0:=by omega
  simp only[I] at J;rcases F with F|F
  ·omega
  ·exact F J.symm
theorem ArcG.setRow {w:Wq} {A:Option Addr} {n c g:Nat} {L:List Fd} {T:TypeId} {fr:Nat×Nat} (h:ArcG w A n c L) (H:w.heap[g]? =some (.cells #[sN] T fr)) (cs:Array Value):ArcG (w.setRow g cs) A n c L:=by
 obtain ⟨lc,J,K,I,D⟩:=h;refine ⟨lc,J,K,RSl.grown I (Yo w g cs) ?_,λy F=>(D y F).grown (Yo w g cs) ⟨?_,?_⟩⟩
 ·cases lc with
  |nil=>exact Or.inl rfl
  |cons x t=>exact Or.inr (RSl.away1 I H ⟨1,.string x.f.id,by simp[flatC,cellsC,fCells],Or.inl (by decide)⟩)
 ·cases hp:y.f.path with
  |nil=>exact Or.inl rfl
  |cons s t=>exact Or.inr (RSl.away1 (D y F).1 H ⟨0,.string s,by rw[hp];rfl,Or.inr (by intro e;cases e)⟩)
 ·cases hp:y.f.ents with
  |nil=>exact Or.inl rfl
  |cons s t=>exact Or.inr (RSl.away1 (D y F).2 H ⟨0,.string s.id,by rw[hp];rfl,Or.inr (by intro e;cases e)⟩)
theorem Znr {n r:Nd} (s:ByteArray) (w:Wq) (hE:Env w) (hs:s.size<=40000000000) (hp:docP s.data.toList= .ok n) (hr:resP n []= .ok r) (hf:r.fd N) (hc:r.cnt<=M) (hN:N<=10000) (hM:M<=1000000) (U:∀l,opmlP r= .ok l->distF l\/LatF):
 Calls prog 19 #[.string s] w λe w'=>∃A n c,e= .returned (.tuple #[.agg #[.slice A n c],nI (decE r:Nat)])/\ArcG w' A n c (decL r)/\Ext w w':=by
 have hw:=ZO s;obtain ⟨W0,V⟩:∃W0,w.alloc (.cells #[sN] 31)=W0:=⟨_,rfl⟩;have hg:Ext w W0:=by rw[<-V];exact (Ext.refl w).alloc _
 have K:W0.heap[w.heap.size]? =some (.cells #[sN] 31):=by rw[<-V];exact Zg w _
 have H:=λw'=>Ix s w' (by omega);have D:=(IU hp).1;have X:=Zh7 hp;rw[hw] at D;rw[hp] at H;have HP:=gd H;have hv:Hid (∀(x:Nc) (w':Wq),x.nd=n->RdN w' x->Calls prog 27 #[.agg (cellsN x).toArray] w' λe w2=>∃v,e= .returned v/\ResRet x w'.heap.size w2 v (.ok r)/\Ext w' w2):=λx w' hx hB=>by subst hx;rw[<-hr];exact QY s.size (by omega) x w' hB D X
 have HD:=gd (λ(w':Wq) (hx:Ext w w') (k p c q d a:Nat) (s n t:List UInt8) (A B:Option Addr) (h:NodeG w' k s n (.slice A p c) (.slice B q d) t a r)=>ZaS w' (hE.ext hx) h hf hc U hN hM);clear H hp D X hr hf hc U hE;go_enter func19,ntmps19
 go_wp2_with (first|(go_at_call 26;(with_reducible refine Za (HP.out _) ?_);rintro e w2 ⟨v2,rfl,⟨mc,rfl,hA,hb, -⟩,hD⟩;(have I:=RdN.sl hb);(obtain ⟨mk,ms,mn,hK,ml,hL,hH,mt,ma⟩:=mc);(obtain ⟨⟨MA,hm,hl,Y⟩,⟨MB,hn,md,Z⟩⟩:=I);(simp only[Nc.al,Nc.ks] at Y Z);subst Y;subst Z;simp only[cellsN];(have hh:=hD.alloc (.cells #[nI (mk:Nat),.string (str ms),.string (str mn),.slice MA hm hl,.slice MB hn md,.string (str mt),nI (ma:Nat)] 25));(have hI:=hh.heap K);(have hd:=RdN.ext ((Ext.refl w2).alloc (.cells #[nI (mk:Nat),.string (str ms),.string (str mn),.slice MA hm hl,.slice MB hn md,.string (str mt),nI (ma:Nat)] 25)) _ hb))|(go_at_call 27;(have hq:=hv.out _ _ hA hd);simp only[cellsN] at hq;(with_reducible refine Za hq ?_);clear hq;rintro e4 w4 ⟨v4,rfl,hC,hF⟩;(obtain ⟨zc,rfl,ha,F, -⟩:=hC.ok);(have I:=RdN.sl F);(obtain ⟨zk,zs,zn,hO,zl,hP,R,zt,za⟩:=zc);(obtain ⟨⟨ZA,ht,ho,hj⟩,⟨ZB,hu,zd,hk⟩⟩:=I);(simp only[Nc.al,Nc.ks] at hj hk);subst hj;subst hk;simp only[cellsN];(have J:=(hh.trans hF).alloc (.cells #[nI (zk:Nat),.string (str zs),.string (str zn),.slice ZA ht ho,.slice ZB hu zd,.string (str zt),nI (za:Nat)] 25));(have hJ:=J.heap K);(have he:NodeG _ _ _ _ _ _ _ _ r:=⟨zl,R,RdN.ext ((Ext.refl w4).alloc (.cells #[nI (zk:Nat),.string (str zs),.string (str zn),.slice ZA ht ho,.slice ZB hu zd,.string (str zt),nI (za:Nat)] 25)) _ F,ha⟩))|(go_at_call 12;(with_reducible refine Za (HD.out _ (hg.trans J) _ _ _ _ _ _ _ _ _ _ _ he) ?_);rintro e w6 ⟨S,n6,c6,rfl,hy,hG⟩;(have hi:=(J.trans hG).alloc (.cells #[.slice S n6 c6] 31));(have Q:=hi.heap K);(have hz:=hy.ext ((Ext.refl w6).alloc (.cells #[.slice S n6 c6] 31))))|(refine Zf rfl 31 (.tmp 2) (.tmp 38) rfl w.heap.size _ rfl rfl _ _ Q Xy rfl Vt ?_))
 ((try simp only[Exit.inBlock,Exit.then]);refine Zy (Yp rfl _ _ _ _ #[.slice S n6 c6] _ _ rfl (Zz _ _ _ #[.slice S n6 c6] _ _ Q) underlying31 rfl Xy) rfl ?_);exact ⟨S,n6,c6,rfl,hz.setRow Q _,(hg.trans hi).setRow (Zb _) _⟩
end
section
structure OutB (w:Wq) (b:Nat) (u:Value) (O:List Fc):Prop where
 bk:w.heap[b]? =some (.cells #[u] 31)
 hf:HFs w (b+1) u O
 far:∀x∈O,awayC x (some b)
section
variable {w w' w5:World} {b:Nat} {u u':Value} {O O':List Fc}
theorem OutB.ext (h:OutB w b u O) (A:Ext w w'):OutB w' b u O:=⟨A.heap h.bk,h.hf.ext A,h.far⟩
theorem OutB.row_ne (h:OutB w b u O) {k:Nat} (A:k<=b):u.ownBlock≠some k:=λe=>by
 have:=(h.hf.row.lt k e).1;omega
theorem OutB.cell (h:OutB w b u O):w.cell? ⟨b,0,none⟩=some u/\w.frozen? ⟨b,0,none⟩=false:=⟨by rw[Jl h.bk];rfl,YN h.bk 0⟩
theorem OutB.store (h:OutB w b u O) (H:w.grownBy w5 u.ownBlock) (F:HFs w5 (b+1) u' O') (A:∀x∈O',awayC x (some b)):OutB (w5.setCell ⟨b,0,none⟩ u') b u' O':=by
 have D:w5.heap[b]? =w.heap[b]?:=H.block b (Zv.1 h.bk).1 (λe=>h.row_ne (Zb _) e.symm);exact ⟨block_setCell (D.trans h.bk) _,F.setCell (YK b) A,A⟩
end
theorem Gu:(prog.info? 31).map (λi=>i.size)=some 1:=by kernel_rfl
theorem ZbC (v:Value) (l:List Fc) (w:Wq) (hr:RFcs w v l) (gc:∀x∈l,RdC w x) (hk:∀x∈l,x.f.path.length<=16777216) (hn:l.length<=1000000):
 Calls prog 18 #[.agg #[v]] w λe w'=>∃A n c lc,e= .returned (.agg #[.slice A n c])/\(n=lc.length/\lc.map Fc.f=(l.map Fc.f).map outl/\RFcs w' (.slice A n c) lc/\∀y∈lc,RdC w' y)/\Ext w w':=by
 obtain ⟨A,c,rfl, -, -⟩:=hr.form;obtain ⟨i0,gs,gx,gy,gz⟩:=Yu Zbg;obtain ⟨s0,gA,gB,gC,gD⟩:=Yu I1;have HR:=gd hr;have hC:=gd gc;have HK:=gd hk;have hw:Ext w (((w.alloc (.cells #[.slice A l.length c] 31)).alloc (.cells #[sN] 31)).alloc (.cells #[sN] 31)):=(((Ext.refl w).alloc _).alloc _).alloc _;have hU:=gd hw;have ga:=(((Ext.refl (w.alloc (.cells #[.slice A l.length c] 31))).alloc (.cells #[sN] 31)).alloc (.cells #[sN] 31)).heap (Zg w _);have gb:=((Ext.refl ((w.alloc (.cells #[.slice A l.length c] 31)).alloc (.cells #[sN] 31))).alloc (.cells #[sN] 31)).heap (YI w _ _);have hG:=Zg ((w.alloc (.cells #[.slice A l.length c] 31)).alloc (.cells #[sN] 31)) (.cells #[sN] 31);simp only[Zp] at hG;have gm:=gd ga;have gn:=gd gb;have go:=gd hG;clear hr gc hk hw ga gb hG;go_enter func18,ntmps18;go_wp2;go_loopw [4] (λi wr=>∃(j:Nat) (u:Value) (O:List Fc),j<=l.length/\i=nI j/\OutB wr (w.heap.size+1+1) u O/\wr.cell? ⟨w.heap.size,0,none⟩=some (.slice A l.length c)/\wr.heap[w.heap.size+1]? =some (.cells #[sN] 31)/\
  Hid (O.map Fc.f=((l.take j).map Fc.f).map outl)/\Hid (O.length=j)/\Hid (∀x∈O,awayC x (some (w.heap.size+1)))/\Ext w wr) (λi _=>l.length - (intOf i).toNat)
 case atStart=>exact ⟨0,sN,[],Zh _,rfl,⟨go.out,HFs.nil _ _,by intro x hx;cases hx⟩,(Zq gm.out 0).trans rfl,gn.out,rfl,rfl,(by intro x hx;cases hx),hU.out⟩
 case round=>
  obtain ⟨j,u,O,hj,rfl,hO,h6,hl,hY,hZ,hu,hx⟩:=hrel;obtain ⟨OA,oc,gw⟩:=Yf hO.hf.row;subst gw;by_cases ho:j<l.length
  ·obtain ⟨ad,c',hv,hE⟩:=(HR.out.ext hx).at ho;injection hv with hv1 hv2 hv3;subst hv1;clear hv2 hv3;have hb:l[j]∈l:=ZE ho;have ge:=(hC.out _ hb).ext hx;have hm:=HK.out _ hb;have hH:(l.take (j+1)).map Fc.f=(l.take j).map Fc.f++ [l[j].f]:=(by rw[Zn ho,ZN];rfl);obtain ⟨x,gf⟩:∃x,l[j]=x:=⟨_,rfl⟩;rw[gf] at hE ge hm hH;have hT:=gd hH;clear gf hH hb;obtain ⟨xp,gJ,⟨D,S,H,I,hz,hh⟩⟩:=x;obtain ⟨hp,hI⟩:=ge;dsimp only at hE hp hI hm hT;obtain ⟨xA,xc,rfl, -, -⟩:=hp.form;obtain ⟨xB,xd,rfl, -, -⟩:=hI.form;obtain ⟨a0,a1,a2,a3,a4,a5⟩:=hE;dsimp only at a0 a1 a2 a3 a4 a5;have gG:(0:Int)<=(j:Int):=(by omega);have gI:(j:Int)<(l.length:Int):=(by omega);have gp:=gd hp;have HO:=gd hO;have hV:=gd hx;have gh:=gd h6;have hM:=gd hl;have gj:=gd hm;have h5:=hO.cell.1;obtain ⟨W5,h0⟩:∃W5,wr.alloc (.cells #[.slice xA D.length xc,.string S,.string H,.string I,nI hz,.slice xB hh.length xd] 55)=W5:=⟨_,rfl⟩;have hJ:Ext wr W5:=(by rw[<-h0];exact (Ext.refl wr).alloc _);have h4:W5.heap[wr.heap.size]? =some (.cells #[.slice xA D.length xc,.string S,.string H,.string I,nI hz,.slice xB hh.length xd] 55):=(by rw[<-h0];exact Zg wr _);have V:=gd hJ;obtain ⟨b0,b1,b2,b3,b4,b5⟩:=ZgP h4;have f0:=hJ.cell h5;have R:Hid (∀w',Ext W5 w'->w'.cell? ⟨w.heap.size+1+1,0,none⟩=some (.slice OA O.length oc)/\w'.cell? ⟨wr.heap.size,0,none⟩=some (.slice xA D.length xc)/\w'.cell? ⟨wr.heap.size,1,none⟩=some (.string S)/\w'.cell? ⟨wr.heap.size,2,none⟩=some (.string H)/\w'.cell? ⟨wr.heap.size,3,none⟩=some (.string I)):=gd λw' h=>⟨h.cell f0,h.cell b0,h.cell b1,h.cell b2,h.cell b3⟩;clear hO hl hm hp hI hJ hx h4 h5;go_wp2;refine rN ?_;change wpAny _ _ _ _ _ _ _ (World.drew _);have ha:=(Ext.refl W5).drew;refine tH 0 (.pointer (some ⟨w.heap.size+1+1,0,none⟩)) ?_;refine tH 3 (.pointer (some ⟨wr.heap.size,0,none⟩)) ?_;refine tH 6 (.pointer (some ⟨wr.heap.size,1,none⟩)) ?_;refine tH 8 (.pointer (some ⟨wr.heap.size,2,none⟩)) ?_;refine tH 10 (.pointer (some ⟨wr.heap.size,3,none⟩)) ?_;go_simp;refine Xq (i:=1) (v:= .slice OA O.length oc) (λw'=>w'.cell? ⟨w.heap.size+1+1,0,none⟩=some (.slice OA O.length oc)/\w'.cell? ⟨wr.heap.size,0,none⟩=some (.slice xA D.length xc)/\w'.cell? ⟨wr.heap.size,1,none⟩=some (.string S)/\w'.cell? ⟨wr.heap.size,2,none⟩=some (.string H)/\w'.cell? ⟨wr.heap.size,3,none⟩=some (.string I)) 16 rfl (by kernel_rfl) (λ_ _ _ h=>h) (Or.inl ⟨by rfl,λw' hS=>by have hq:=hS.1;go_simp⟩) (R.out _ ha) ?_;refine tT 4 (.slice xA D.length xc) rfl (λw' hS=>by have hq:=hS.2.1;go_simp) (R.out _ ha) ?_;refine tT 7 (.string S) rfl (λw' hS=>by have hq:=hS.2.2.1;go_simp) (R.out _ ha) ?_;refine tT 9 (.string H) rfl (λw' hS=>by have hq:=hS.2.2.2.1;go_simp) (R.out _ ha) ?_;refine tT 11 (.string I) rfl (λw' hS=>by have hq:=hS.2.2.2.2;go_simp) (R.out _ ha) ?_;go_simp;refine JP (i:=2) rfl (by kernel_rfl) (λK hK=> ?_);go_simp;have hg:=ha.alloc (.cells #[] 9);refine hK _ _ (R.out _ hg) ?_;clear hK K;have hB:=gd (Ul (w:=W5.drew) (base:=W5.heap.size) (e:=9) (size:=1) (n:=0) (cs:= []) (Zb _) rfl (by decide));have hD:=gd (Er (n:=0) (m:=D.length) (by have:=gj.out;omega));refine JP (i:=5) rfl (by kernel_rfl) (λK hK=> ?_);refine Z4 _ (by rfl) (.tmp 21) (.tmp 23) _ (by rfl) W5.heap.size 9 s0 _ 1 16 underlying52 gA gB gC gD rfl (by decide) _ 0 [] (by rfl) hB.out (.slice xA D.length xc) D.length (D.map Value.string) (by rfl) (gp.out.ext (V.out.trans hg)) (VL _) hD.out.1 hD.out.2 hg.size ?_;intro v4 w4 U h7 h3;have he:Ext W5 w4:=Ext.app hg h7 hB.out (Zb _);rw[YQ,Yt] at U;obtain ⟨PB,pb,gr⟩:=Yf U;subst gr;have hA:=gd U;have gH:=gd he;clear U h7 h3 hB hD;refine hK _ _ (R.out _ he) ?_;clear hK K;refine JP (i:=12) rfl (by kernel_rfl) (λK hK=> ?_);go_simp;refine hK _ _ (R.out _ he) ?_;clear hK K;refine Xm 16 [] (AtIx.cons rfl AtIx.nil) [13,14,15] (AtIx.cons rfl (AtIx.cons rfl (AtIx.cons rfl AtIx.nil))) rfl (by kernel_rfl) ?_;refine Z6 (λK hK=> ?_);go_simp;have Z:=he.alloc (.cells #[.slice PB D.length pb,.string S,.string H,.string I,nI (-62135596800),sN] 55);refine hK _ _ (R.out _ Z) ?_;clear hK K;obtain ⟨F,hF⟩:∃F:Fc,F=⟨.slice PB D.length pb,sN,⟨D,S,H,I, -62135596800,[]⟩⟩:=⟨_,rfl⟩;have gi:=gd hF;have hR:Hid (∀u∈cellsC F,u.oneCell'=true):=gd (by rw[hF];exact Jd ⟨⟨_,_,_,rfl⟩,⟨_,_,_,rfl⟩⟩);have hQ:Hid (RSl (w4.alloc (.cells #[.slice PB D.length pb,.string S,.string H,.string I,nI (-62135596800),sN] 55)) 6 (.slice (some ⟨w4.heap.size,0,none⟩) 1 1) 1 (cellsC F)):=gd (by rw[hF];exact Yq rfl (by decide));have hP:=gd (IW (n:=O.length) (m:=1) (by have:=hZ.out;omega));have Q:=gd (HO.out.ext (V.out.trans Z));have hC:Hid (RdC (w4.alloc (.cells #[.slice PB D.length pb,.string S,.string H,.string I,nI (-62135596800),sN] 55)) F):=gd (by rw[hF];exact ⟨RSl.of_own (Ye hA.out ((Ext.refl w4).alloc _)),RSl.nil _ 5⟩);have hs:Hid (∀r,r<W5.heap.size->awayC F (some r)):=gd (λr hr=>by
    rw[hF];refine ⟨?_,Or.inl rfl⟩;by_cases hd:D= []
    ·exact Or.inl hd
    ·exact Or.inr (ZcO hA.out (by simpa using hd) hr))
   have gg:Hid (awayC F (Value.slice OA O.length oc).ownBlock):=gd (by
    rw[hF];refine ⟨?_,Or.inl rfl⟩;by_cases hd:D= []
    ·exact Or.inl hd
    ·exact Or.inr (ZaB (HO.out.ext V.out).hf.row hA.out (by simpa using hd)))
   clear hF;refine Z6 (λK hK=> ?_);refine Z4 _ (by rfl) (.tmp 20) (.tmp 32) _ (by rfl) (w.heap.size+1+1+1) 55 i0 _ 6 104 underlying29 gs gx gy gz rfl (by decide) _ O.length (flatC O) (by rfl) Q.out.hf.row _ 1 (cellsC F) (by rfl) hQ.out hR.out hP.out.1 hP.out.2 (by have:=(Zv.1 Q.out.bk).1;simp only[nI,sN] at this⊢;omega) ?_;intro v8 w8 Y X ht;have hW:=HFs.snoc Q.out.hf hC.out gg.out Y X ht;obtain ⟨OB,ob,gu⟩:=Yf Y;subst gu;have J:∀(k i:Nat) (y:Value),k<=w.heap.size+1+1\/k=wr.heap.size->W5.cell? ⟨k,i,none⟩=some y->w8.cell? ⟨k,i,none⟩=some y:=λk i y hk hc=>by
    refine X.cell (Z.cell hc) λe=> ?_;rcases hk with hk|hk
    ·exact Q.out.row_ne hk e.symm
    ·have h1:=(HO.out.hf.row.lt k e.symm).2;omega
   have h8:w.heap.size+1+1<W5.heap.size:=(by have h1:=(Zv.1 HO.out.bk).1;have h2:=V.out.size;omega);have hX:=Q.out.store X hW (λx hx=>(Zx.1 hx).elim (Q.out.far x) λh=>by rw[Zo.1 h];exact hs.out _ h8);have hi:w8.cell? ⟨w.heap.size+1+1,0,none⟩=some (.slice OA O.length oc)/\w8.cell? ⟨wr.heap.size,0,none⟩=some (.slice xA D.length xc)/\w8.cell? ⟨wr.heap.size,1,none⟩=some (.string S)/\w8.cell? ⟨wr.heap.size,2,none⟩=some (.string H)/\w8.cell? ⟨wr.heap.size,3,none⟩=some (.string I):=(by obtain ⟨e0,e1,e2,e3,e4⟩:=R.out _ (Ext.refl W5);exact ⟨J _ _ _ (Or.inl (Zb _)) e0,J _ _ _ (Or.inr rfl) e1,J _ _ _ (Or.inr rfl) e2,J _ _ _ (Or.inr rfl) e3,J _ _ _ (Or.inr rfl) e4⟩);have gl:=gd hX;have gE:=hi.1;have gF:w8.frozen? ⟨w.heap.size+1+1,0,none⟩=false:=(World.frozen?_of_block (a:=⟨w.heap.size+1+1,0,none⟩) (X.block (w.heap.size+1+1) (by have:=(Zv.1 Q.out.bk).1;omega) (λe=>Q.out.row_ne (Zb _) e.symm))).trans Q.out.cell.2;have gq:Hid (Ext w w8):=gd (Ext.app (hV.out.trans (V.out.trans Z)) X Q.out.hf.row (by have:=hV.out.size;have:=hU.out.size;simp only[Zp] at this;omega));have hL:Hid (w8.cell? ⟨w.heap.size,0,none⟩=some (.slice (some ad) l.length c)):=gd (J _ _ _ (Or.inl (by omega)) (V.out.cell gh.out));have hN:Hid (w8.heap[w.heap.size+1]? =some (.cells #[sN] 31)):=gd ((X.block (w.heap.size+1) (by have:=(Zv.1 hM.out).1;have h2:=(V.out.trans Z).size;simp only[nI,sN] at h2⊢;omega) (λe=>Q.out.row_ne (by omega) e.symm)).trans ((V.out.trans Z).heap hM.out));refine hK _ _ hi ?_;clear hK K Y X ht hW hX J;refine Z6 (λK hK=> ?_);go_simp;refine hK _ _ hi ?_;clear hK K;refine Xz ?_;clear Z he hg ha hi f0 b0 b1 b2 b3 b4 b5 h6;go_wp2;go_roundw
   case rel=>
    refine ⟨j+1,_,O++ [F],ho,by go_num,gl.out,(YP _ _ _ _ (by intro e;injection e with e;omega)).trans hL.out,(ZZ _ _ _ _ (by show w.heap.size+1≠w.heap.size+1+1;omega)).trans hN.out,gd ?_,gd ?_,gd ?_,gq.out.setCell (by show w.heap.size<=w.heap.size+1+1;omega) _⟩
    ·rw[ZN,hY.out,hT.out,ZN];rw[gi.out];rfl
    ·rw[Zc,hZ.out];rfl
    ·exact λy hy=>(Zx.1 hy).elim (hu.out y) λh=>by rw[Zo.1 h];exact hs.out _ (by omega)
   case measure=>simp[intOf];omega
  ·have gt:j=l.length:=(by omega);subst gt;have f0:=hO.cell.1;have HO:=gd hO;have HX:=gd hx;have h9:(Value.slice OA O.length oc).ownBlock≠some (w.heap.size+1):=hO.row_ne (Yj _);have gk:=gd h9;clear hO hx h9
   go_wp2_with (first|(refine Zf rfl 31 (.tmp 2) (.tmp 35) rfl (w.heap.size+1) _ rfl rfl _ _ hl Gu rfl Vt ?_))
   ((try simp only[Exit.inBlock,Exit.then]);refine Zy (XR rfl _ _ _ _ _ _ _ rfl (Zz _ _ _ _ _ _ hl) underlying31 rfl Gu) rfl ?_);refine ⟨OA,O.length,oc,O,rfl,⟨rfl,?_,RSl.grown (RSl.of_own HO.out.hf.row) (Yo _ _ _) (Or.inr λe=>gk.out e),λy hy=>(HO.out.hf.rd y hy).grown (Yo _ _ _) (hu.out y hy)⟩,HX.out.setRow (Yj _) _⟩;rw[hY.out,ZR (Zb _)]
end
def PathOwn (w:Wq) (B:Nat) (y:Fc):Prop:=y.f.path= []\/w.ownsRow B 9 1 y.p y.f.path.length (y.f.path.map Value.string)
theorem PathOwn.grown {w w':Wq} {B:Nat} {y:Fc} {r:Option Nat} (h:PathOwn w B y) (F:w.grownBy w' r) (D:awayC y r):PathOwn w' B y:=by
 rcases h with h|h
 ·exact Or.inl h
 ·rcases D.1 with A|A
  ·exact Or.inl A
  ·exact Or.inr (h.kept F (Or.inr A))
theorem PathOwn.ext {w w':Wq} {B:Nat} {y:Fc} (h:PathOwn w B y) (A:Ext w w'):PathOwn w' B y:=h.imp id λh=>Ye h A
theorem ZfZ (v:Value) (l:List Fc) (w:Wq) (hr:RFcs w v l) (h6:∀x∈l,RdC w x) (hk:∀x∈l,x.f.path.length<=16777216) (hn:l.length<=1000000):
 Calls prog 23 #[.agg #[v]] w λe w'=>∃A n c lc,e= .returned (.agg #[.slice A n c])/\(n=lc.length/\lc.map Fc.f=(l.map Fc.f).map outl/\HFs w' w.heap.size (.slice A n c) lc/\∀y∈lc,PathOwn w' w.heap.size y)/\Ext w w':=by
 obtain ⟨A,c,rfl, -, -⟩:=hr.form;obtain ⟨i0,gp,gs,gt,gu⟩:=Yu Zbg;obtain ⟨s0,gF,gG,gH,gI⟩:=Yu I1;have HR:=gd hr;have he:=gd h6;have HK:=gd hk;have hp:Ext w (((w.alloc (.cells #[.slice A l.length c] 31)).alloc (.cells #[sN] 31)).alloc (.cells #[sN] 31)):=(((Ext.refl w).alloc _).alloc _).alloc _;have hT:=gd hp;have h4:=(((Ext.refl (w.alloc (.cells #[.slice A l.length c] 31))).alloc (.cells #[sN] 31)).alloc (.cells #[sN] 31)).heap (Zg w _);have h5:=((Ext.refl ((w.alloc (.cells #[.slice A l.length c] 31)).alloc (.cells #[sN] 31))).alloc (.cells #[sN] 31)).heap (YI w _ _);have hC:=Zg ((w.alloc (.cells #[.slice A l.length c] 31)).alloc (.cells #[sN] 31)) (.cells #[sN] 31);simp only[Zp] at hC;have gi:=gd h4;have gj:=gd h5;have gk:=gd hC;clear hr h6 hk hp h4 h5 hC;go_enter func23,ntmps23;go_wp2;go_loopw [9] (λi wr=>∃(j:Nat) (u:Value) (O:List Fc),j<=l.length/\i=nI j/\OutB wr (w.heap.size+1+1) u O/\wr.cell? ⟨w.heap.size,0,none⟩=some (.slice A l.length c)/\wr.heap[w.heap.size+1]? =some (.cells #[sN] 31)/\
  Hid (O.map Fc.f=((l.take j).map Fc.f).map outl)/\Hid (O.length=j)/\Hid (∀x∈O,awayC x (some (w.heap.size+1)))/\Hid (∀x∈O,PathOwn wr w.heap.size x)/\Ext w wr) (λi _=>l.length - (intOf i).toNat)
 case atStart=>exact ⟨0,sN,[],Zh _,rfl,⟨gk.out,HFs.nil _ _,by intro x V;cases V⟩,(Zq gi.out 0).trans rfl,gj.out,rfl,rfl,(by intro x V;cases V),(by intro x V;cases V),hT.out⟩
 case round=>
  obtain ⟨j,u,O,hj,rfl,hO,hY,hg,hV,hW,hb,h3,V⟩:=hrel;obtain ⟨OA,oc,gr⟩:=Yf hO.hf.row;subst gr;by_cases hi:j<l.length
  ·obtain ⟨ad,c',hv,hu⟩:=(HR.out.ext V).at hi;injection hv with hv1 hv2 hv3;subst hv1;clear hv2 hv3;have hc:l[j]∈l:=ZE hi;have h7:=(he.out _ hc).ext V;have hh:=HK.out _ hc;have hD:(l.take (j+1)).map Fc.f=(l.take j).map Fc.f++ [l[j].f]:=(by rw[Zn hi,ZN];rfl);obtain ⟨x,ga⟩:∃x,l[j]=x:=⟨_,rfl⟩;rw[ga] at hu h7 hh hD;have hS:=gd hD;clear ga hD hc;obtain ⟨xp,gJ,⟨D,R,H,I,hq,hd⟩⟩:=x;obtain ⟨hl,hE⟩:=h7;dsimp only at hu hl hE hh hS;obtain ⟨xA,xc,rfl, -, -⟩:=hl.form;obtain ⟨xB,xd,rfl, -, -⟩:=hE.form;obtain ⟨a0,a1,a2,a3,a4,a5⟩:=hu;dsimp only at a0 a1 a2 a3 a4 a5;have gy:(0:Int)<=(j:Int):=(by omega);have gE:(j:Int)<(l.length:Int):=(by omega);have gl:=gd hl;have HO:=gd hO;have hs:=gd V;have gb:=gd hY;have hL:=gd hg;have gf:=gd hh;have hA:=hO.cell.1;obtain ⟨W5,hX⟩:∃W5,wr.alloc (.cells #[.slice xA D.length xc,.string R,.string H,.string I,nI hq,.slice xB hd.length xd] 55)=W5:=⟨_,rfl⟩;have hG:Ext wr W5:=(by rw[<-hX];exact (Ext.refl wr).alloc _);have hw:W5.heap[wr.heap.size]? =some (.cells #[.slice xA D.length xc,.string R,.string H,.string I,nI hq,.slice xB hd.length xd] 55):=(by rw[<-hX];exact Zg wr _);have Z:=gd hG;obtain ⟨b0,b1,b2,b3,b4,b5⟩:=ZgP hw;have f0:=hG.cell hA;have gA:Hid (∀w',Ext W5 w'->w'.cell? ⟨w.heap.size+1+1,0,none⟩=some (.slice OA O.length oc)/\w'.cell? ⟨wr.heap.size,0,none⟩=some (.slice xA D.length xc)/\w'.cell? ⟨wr.heap.size,1,none⟩=some (.string R)/\w'.cell? ⟨wr.heap.size,2,none⟩=some (.string H)/\w'.cell? ⟨wr.heap.size,3,none⟩=some (.string I)):=gd λw' h=>⟨h.cell f0,h.cell b0,h.cell b1,h.cell b2,h.cell b3⟩;have gc:=gd (λ(w':Wq) (h:Ext wr w')=>Gg _ D.length (D.map Value.string) w' (gl.out.ext h) (VL _) (by have:=gf.out;omega));have hI:=gd hw;have hJ:=gd hA;clear hO hg hh hl hE hG V hw b1 b2 b3 b4 b5 f0 hA
   go_wp2_with (first|(go_at_call 33;(have hz:=gc.out _ Z.out);(with_reducible refine Za hz ?_);clear hz;rintro e w6 ⟨v6,rfl,K,h8⟩;(obtain ⟨PB,pb,gn⟩:=Yf K);subst gn;(have ha:=h8.heap hI.out);(obtain ⟨y0,y1,y2,y3,y4,y5⟩:=ZgP ha);(have z0:=YN ha 0);(have z4:=YN ha 4);(have z5:=YN ha 5);(obtain ⟨W7,ht⟩:∃W7,(((w6.setCell ⟨wr.heap.size,0,none⟩ (.slice PB D.length pb)).setCell ⟨wr.heap.size,4,none⟩ (nI (-62135596800))).setCell ⟨wr.heap.size,5,none⟩ sN)=W7:=⟨_,rfl⟩);(have go:W7.heap[wr.heap.size]? =some (.cells #[.slice PB D.length pb,.string R,.string H,.string I,nI (-62135596800),sN] 55):=by rw[<-ht];exact block_setCell (block_setCell (block_setCell ha _) _) _);(have h9:Ext wr W7:=by rw[<-ht];exact (((Z.out.trans h8).setCell (Zb _) _).setCell (Zb _) _).setCell (Zb _) _);(have ho:w6.grownBy W7 (some wr.heap.size):=by rw[<-ht];exact ((Yi w6 ⟨wr.heap.size,0,none⟩ _).trans (Yi _ ⟨wr.heap.size,4,none⟩ _)).trans (Yi _ ⟨wr.heap.size,5,none⟩ _));(have f0:=h9.cell hJ.out);(obtain ⟨c0,gB,gC,c3,c4,c5⟩:=ZgP go);(have U:=h9.alloc (.cells #[.slice PB D.length pb,.string R,.string H,.string I,nI (-62135596800),sN] 55));(obtain ⟨F,hF⟩:∃F:Fc,F=⟨.slice PB D.length pb,sN,⟨D,R,H,I, -62135596800,[]⟩⟩:=⟨_,rfl⟩);(have ge:=gd hF);(have hR:Hid (∀u∈cellsC F,u.oneCell'=true):=gd (by rw[hF];exact Jd ⟨⟨_,_,_,rfl⟩,⟨_,_,_,rfl⟩⟩));(have hP:Hid (RSl (W7.alloc (.cells #[.slice PB D.length pb,.string R,.string H,.string I,nI (-62135596800),sN] 55)) 6 (.slice (some ⟨W7.heap.size,0,none⟩) 1 1) 1 (cellsC F)):=gd (by rw[hF];exact Yq rfl (by decide)));(have hN:=gd (IW (n:=O.length) (m:=1) (by have:=hW.out;omega)));(have J:=gd (HO.out.ext U));(have gD:wr.heap.size<W5.heap.size:=(Zv.1 hI.out).1);(have he:Hid (RdC (W7.alloc (.cells #[.slice PB D.length pb,.string R,.string H,.string I,nI (-62135596800),sN] 55)) F):=gd (by rw[hF];refine ⟨(RSl.grown (RSl.of_own K) ho (Or.inr λe=> ?_)).ext ((Ext.refl W7).alloc _),RSl.nil _ 5⟩;have:=(K.lt _ e).1;omega));(have gg:Hid (PathOwn (W7.alloc (.cells #[.slice PB D.length pb,.string R,.string H,.string I,nI (-62135596800),sN] 55)) w.heap.size F):=gd (by rw[hF];refine Or.inr (XM (Ye (K.kept ho (Or.inr λe=> ?_)) ((Ext.refl W7).alloc _)) (Zt hs.out.size Z.out.size));have:=(K.lt _ e).1;omega));(have Y:Hid (∀r,r<W5.heap.size->awayC F (some r)):=gd (λr hr=>by rw[hF];refine ⟨Or.inr λe=> ?_,Or.inl rfl⟩;have:=(K.lt _ e).1;omega));(have hH:Hid (awayC F (Value.slice OA O.length oc).ownBlock):=gd (by cases hB:(Value.slice OA O.length oc).ownBlock with|none=>exact GX he.out|some g=>exact Y.out g (by have:=(HO.out.hf.row.lt g hB).2;have:=Z.out.size;omega)));clear hF)|(at_builtin;refine ZP _ rfl (.tmp 20) (.tmp 22) _ rfl (w.heap.size+1+1+1) 55 i0 _ 6 104 underlying29 gp gs gt gu rfl (by decide) _ O.length (flatC O) rfl J.out.hf.row _ 1 (cellsC F) rfl hP.out hR.out hN.out.1 hN.out.2 (by have:=(Zv.1 J.out.bk).1;omega) ?_;intro v8 w8 S Q hm;(have hU:=HFs.snoc J.out.hf he.out hH.out S Q hm);(obtain ⟨OB,ob,hB⟩:=Yf S);subst hB;(have hZ:w.heap.size+1+1<W5.heap.size:=by have h1:=(Zv.1 HO.out.bk).1;have h2:=Z.out.size;omega);(have hQ:=gd (J.out.store Q hU (λx V=>(Zx.1 V).elim (J.out.far x) λh=>by rw[Zo.1 h];exact Y.out _ hZ)));(have gw:=Q.cell (U.cell hJ.out) (λe=>J.out.row_ne (Zb _) e.symm));(have gx:w8.frozen? ⟨w.heap.size+1+1,0,none⟩=false:=(World.frozen?_of_block (a:=⟨w.heap.size+1+1,0,none⟩) (Q.block (w.heap.size+1+1) (by have:=(Zv.1 J.out.bk).1;omega) (λe=>J.out.row_ne (Zb _) e.symm))).trans J.out.cell.2);(have gm:Hid (Ext w w8):=gd (Ext.app (hs.out.trans U) Q J.out.hf.row (by have:=hs.out.size;have:=hT.out.size;simp only[Zp] at this;omega)));(have hK:Hid (w8.cell? ⟨w.heap.size,0,none⟩=some (.slice (some ad) l.length c)):=gd (Q.cell (U.cell gb.out) (λe=>J.out.row_ne (by show w.heap.size<=_;omega) e.symm)));(have hM:Hid (w8.heap[w.heap.size+1]? =some (.cells #[sN] 31)):=gd ((Q.block (w.heap.size+1) (by have:=(Zv.1 hL.out).1;have:=U.size;omega) (λe=>J.out.row_ne (by omega) e.symm)).trans (U.heap hL.out)));(have gh:Hid (∀y∈O++ [F],PathOwn (w8.setCell ⟨w.heap.size+1+1,0,none⟩ (.slice OB (O.length+1) ob)) w.heap.size y):=gd (λy X=>by refine PathOwn.grown ?_ (Yi _ _ _) (hQ.out.far y X);exact (Zx.1 X).elim (λX=>((h3.out y X).ext U).grown Q (J.out.hf.away y X)) (λX=>by rw[Zo.1 X];exact gg.out.grown Q hH.out)));clear S Q hm hU))
   clear y0 y1 y2 y3 y4 y5 z0 z4 z5 b0;go_roundw
   case rel=>
    refine ⟨j+1,_,O++ [F],hi,by go_num,hQ.out,(YP _ _ _ _ (by intro e;injection e with e;omega)).trans hK.out,(ZZ _ _ _ _ (by show w.heap.size+1≠w.heap.size+1+1;omega)).trans hM.out,gd ?_,gd ?_,gd ?_,gh,gm.out.setCell (by show w.heap.size<=w.heap.size+1+1;omega) _⟩
    ·rw[ZN,hV.out,hS.out,ZN];rw[ge.out];rfl
    ·rw[Zc,hW.out];rfl
    ·exact λy X=>(Zx.1 X).elim (hb.out y) λh=>by rw[Zo.1 h];exact Y.out _ (by omega)
   case measure=>simp[intOf];omega
  ·have gq:j=l.length:=(by omega);subst gq;have f0:=hO.cell.1;have HO:=gd hO;have HX:=gd V;have h0:(Value.slice OA O.length oc).ownBlock≠some (w.heap.size+1):=hO.row_ne (Yj _);have gz:=gd h0;clear hO V h0 hY
   go_wp2_with (first|(refine Zf rfl 31 (.tmp 2) (.tmp 26) rfl (w.heap.size+1) _ rfl rfl _ _ hg Gu rfl Vt ?_))
   ((try simp only[Exit.inBlock,Exit.then]);refine Zy (XR rfl _ _ _ _ _ _ _ rfl (Zz _ _ _ _ _ _ hg) underlying31 rfl Gu) rfl ?_);refine ⟨OA,O.length,oc,O,rfl,⟨rfl,?_,HFs.setRow HO.out.hf (by omega) (by omega) hb.out _,λy X=>(h3.out y X).grown (Yo _ _ _) (hb.out y X)⟩,HX.out.setRow (Yj _) _⟩;rw[hV.out,ZR (Zb _)]
section
variable {L:List Fd} {l:List Fc} {n:Nat}
theorem ZeL:∀l:List Fd,l.length<=bigL l
 | []=>Zh _
 |f::t=>by
  have h:=ZeL t
  have e:bigL (f::t)=bigF f+bigL t:=by unfold bigL;rw[Zw,Yn]
  have A:1<=bigF f:=by unfold bigF bigH capN;omega
  rw[e,Zd]
  omega
theorem ZaH (h:capN n<=5000):n<=5000:=by unfold capN at h;omega
theorem Zka {f:Fd} (h:bigF f<=5000):smF 10000 f:=by
 have A:capN (f.id.size+f.title.size+f.link.size)<=5000:=by unfold bigF bigH at h;omega
 have F:=ZaH A;refine ⟨λp D=> ?_,by omega,by omega,by omega⟩;have H:capN p.size<=bigP f.path:=Zao (ZS.2 ⟨p,D,rfl⟩);have I:=ZaH (n:=p.size) (by unfold bigF at h;omega);omega
theorem Zj9 (D:∀x∈l,fwide x.f) (h:bigL (l.map Fc.f)<=5000):smA (l.map Fc.f):=by
 refine ⟨λf A=> ?_,by have:=ZeL (l.map Fc.f);omega⟩;obtain ⟨x,F,rfl⟩:=ZS.1 A;exact ⟨Ziw D h x F,Zka (Zt (ZeK A) h)⟩
theorem ZlB (h:smA L):smA (L.map outl):=by
 refine ⟨λf H=> ?_,by rw[Zm];exact h.2⟩;obtain ⟨g,I,rfl⟩:=ZS.1 H;obtain ⟨A,D⟩:=h.1 g I;exact ⟨⟨⟨⟨by show (-9223372036854775808:Int)<= -62135596800;decide,by show (-62135596800:Int)<=9223372036854775807;decide⟩,A.1.2⟩,Zh _,by intro e F;cases F⟩,D⟩
end
section
variable {c d q:Nat}
theorem ZlX {a b:Nat} (h:a<=140737488351232) (A:b<=140737488351232):wrap64 ((a:Int)+(b:Int))=(a:Int)+(b:Int):=Up _ ⟨by omega,by omega⟩
theorem ZlY {a b:Nat} (h:a<=140737488351232) (A:b<=140737488351232) (D:c<=140737488351232):wrap64 ((a:Int)+(b:Int)+(c:Int))=(a:Int)+(b:Int)+(c:Int):=Up _ ⟨by omega,by omega⟩
theorem ZmQ {a b:Nat} (h:a<=140737488351232) (A:b<=140737488351232) (D:c<=140737488351232) (F:d<=140737488351232):wrap64 ((a:Int)+(b:Int)+(c:Int)+(d:Int))=(a:Int)+(b:Int)+(c:Int)+(d:Int):=Up _ ⟨by omega,by omega⟩
theorem ZmT {a:Nat} (h:a<=1000000000000000):wrap64 (a:Int)=(a:Int):=Up _ ⟨by omega,by omega⟩
theorem ZmR {M:Int} (h:0<=M) (A:M<=9000):wrap64 (1+M)=1+M:=Up _ ⟨by omega,by omega⟩
theorem ZmS {M:Int} (h:q<=2000000000000000000) (A:0<=M) (D:M<=9000):wrap64 ((q:Int)+(1+M))=(q:Int)+(1+M):=Up _ ⟨by omega,by omega⟩
theorem Zev (v:Value) (l:List Fc) (w:Wq) (hr:RFcs w v l) (gb:∀x∈l,RdC w x) (hn:l.length<=reachBytes) (hk:∀x∈l,fwide x.f):
 Calls prog 15 #[.agg #[v]] w λe w'=>e= .returned (nI (if 5000<bigL (l.map Fc.f) then 1 else 0))/\Ext w w':=by
 obtain ⟨A,c,rfl,gz,gw⟩:=hr.form;have HK:=gd hk;have gq:=gd gb;obtain ⟨R,hR⟩:∃R:Int,(if 5000<bigL (l.map Fc.f) then 1 else 0)=R:=⟨_,rfl⟩;rw[hR];have HR:=gd hR;unfold reachBytes at hn;clear gz gw hk gb hR;go_enter func15,ntmps15;go_wp2;go_loopw [3,13] (λu i wr=>∃(k n:Nat),k<=l.length/\i=nI k/\u=nI n/\n<=5000/\Hid (n=bigL ((l.take k).map Fc.f))/\Ext w wr) (λ_ i _=>l.length - (intOf i).toNat)
 case atStart=>exact ⟨0,0,Zh _,rfl,rfl,by decide,gd rfl,(Ext.refl _).alloc _⟩
 case round=>
  obtain ⟨k,n,hk,rfl,rfl,h8,hp,hx⟩:=hrel;by_cases hb:k<l.length
  ·obtain ⟨ad,c',hv,hg⟩:=(hr.ext hx).at hb;injection hv with hv1 hv2 hv3;subst hv1;clear hv2 hv3;have hi:l[k]∈l:=ZE hb;have gc:=(gq.out _ hi).ext hx;have hY:=HK.out _ hi;have Q:=Zix hb;rw[<-hp.out] at Q;have hZ:=Zl7 l (k+1);obtain ⟨x,gk⟩:∃x,l[k]=x:=⟨_,rfl⟩;rw[gk] at hg gc hY Q;have hS:=gd Q;have hN:=gd hZ;clear gk Q hZ hi hp;obtain ⟨k1,k2,k3,k4,k5,k6,k7,k8⟩:=hY;unfold reachBytes at k2 k4 k5 k6 k7;have go:=gd k3;have gp:=gd k8;obtain ⟨xp,gF,⟨F,S,H,I,Y,D⟩⟩:=x;obtain ⟨hJ,hK⟩:=gc;dsimp only at*;obtain ⟨xA,xc,rfl, -, -⟩:=hJ.form;obtain ⟨xB,xd,rfl, -, -⟩:=hK.form;have gs:=gd hJ;have gt:=gd hK;have HX:=gd hx;obtain ⟨a0,a1,a2,a3,a4,a5⟩:=hg;dsimp only at a0 a1 a2 a3 a4 a5;have hA:(0:Int)<=(k:Int):=(by omega);have hV:(k:Int)<(l.length:Int):=(by omega);have ht:wrap64 ((S.size:Int)+(H.size:Int))=(S.size:Int)+(H.size:Int):=ZlX k4 k5;have hu:wrap64 ((S.size:Int)+(H.size:Int)+(I.size:Int))=(S.size:Int)+(H.size:Int)+(I.size:Int):=ZlY k4 k5 k6;clear k1 k3 k8 hJ hK;obtain ⟨S0,hH⟩:∃S0,S.size+H.size+I.size=S0:=⟨_,rfl⟩;have hP:=gd hH;have hz:(S.size:Int)+(H.size:Int)+(I.size:Int)=(S0:Int):=(by omega);obtain ⟨wB,gB⟩:∃wB:Wq,wB=wr:=⟨_,rfl⟩;subst gB;have gi:Ext w (wB.alloc (.cells #[.slice xA F.length xc,.string S,.string H,.string I,nI Y,.slice xB D.length xd] 55)):=hx.alloc _;have hT:=gd gi;have gl:Hid (∀w',Ext (wB.alloc (.cells #[.slice xA F.length xc,.string S,.string H,.string I,nI Y,.slice xB D.length xd] 55)) w'->w'.cell? ⟨wB.heap.size,5,none⟩=some (.slice xB D.length xd)):=gd λw' h=>h.boxed 5 _ rfl;clear gi;go_wp2;clear ht hu a0 a1 a2 a3 a4 a5;go_loopw [3,35] (λu i wr=>∃(j m:Nat),j<=F.length/\i=nI j/\u=nI m/\m<=14001+9001*j/\Hid (m=n+capN S0+bigP (F.take j))/\Ext (wB.alloc (.cells #[.slice xA F.length xc,.string S,.string H,.string I,nI Y,.slice xB D.length xd] 55)) wr) (λ_ i _=>F.length - (intOf i).toNat)
   case atStart=>exact ⟨0,n+capN S0,Zh _,rfl,ZC (Value.int .i64) (by unfold capN;omega),by have:=Zh3 S0;omega,gd rfl,Ext.refl _⟩
   case round=>
    obtain ⟨j,m,hj,rfl,rfl,h0,ho,hw⟩:=hrel;by_cases ha:j<F.length
    ·obtain ⟨ae,c2,e2,hc⟩:=((gs.out.ext ((Ext.refl _).alloc _)).ext hw).at ha;injection e2 with e2 e2' e2'';subst e2;clear e2' e2'';have hm:=go.out _ (ZE ha);unfold reachBytes at hm;have Q:=Ziy ha;obtain ⟨s,hs⟩:∃s,F[j]=s:=⟨_,rfl⟩;rw[hs] at hc hm Q;have gr:=gd Q;have hA:(0:Int)<=(j:Int):=(by omega);have hV:(j:Int)<(F.length:Int):=(by omega);clear hs Q;go_wp2;go_roundw
     case rel=>exact ⟨j+1,m+capN s.size,ha,by go_num,ZC (Value.int .i64) (by unfold capN;omega),by have:=Zh3 s.size;omega,gd (by have:=ho.out;have:=gr.out;omega),hw⟩
     case measure=>simp[intOf];omega
    ·have gx:j=F.length:=(by omega);subst gx;rw[ZR (Zb _)] at ho;have b5:=gl.out _ hw;obtain ⟨wC,gC⟩:∃wC:Wq,wC=wr:=⟨_,rfl⟩;subst gC;have hD:=gd hw;go_wp2;go_loopw [3,49] (λu i wr=>∃(j q:Nat),j<=D.length/\i=nI j/\u=nI q/\q<=14001+9001*F.length/\Hid (q=m+bigEs (D.take j))/\Ext wC wr) (λ_ i _=>D.length - (intOf i).toNat)
     case atStart=>exact ⟨0,m,Zh _,rfl,rfl,by omega,gd rfl,Ext.refl _⟩
     case round=>
      obtain ⟨j,q,hW,rfl,rfl,ga,hl,hy⟩:=hrel;by_cases U:j<D.length
      ·obtain ⟨ae,c2,e2,hg⟩:=(((gt.out.ext ((Ext.refl _).alloc _)).ext hD.out).ext hy).at U;injection e2 with e2 e2' e2'';subst e2;clear e2' e2'';have hm:=gp.out _ (ZE U);have Q:=ZgO U;have hB:=Zkv D (j+1);obtain ⟨e,he⟩:∃e,D[j]=e:=⟨_,rfl⟩;rw[he] at hg hm Q;have hQ:=gd Q;have hO:=gd hB;clear he Q hB;obtain ⟨hF,V,Z,J,hU⟩:=e;obtain ⟨_,g1,g2,g3,g4⟩:=hm;unfold reachBytes at g1 g2 g3 g4;obtain ⟨p0,p1,p2,p3,p4⟩:=hg;dsimp only at g1 g2 g3 g4 p0 p1 p2 p3 p4;have hA:(0:Int)<=(j:Int):=(by omega);have hV:(j:Int)<(D.length:Int):=(by omega);obtain ⟨S1,hI⟩:∃S1,hF.size+V.size+Z.size+J.size=S1:=⟨_,rfl⟩;have hE:bigE ⟨hF,V,Z,J,hU⟩=capN S1:=(by rw[<-hI];rfl);have gD:(hF.size:Int)+(V.size:Int)+(Z.size:Int)+(J.size:Int)=(S1:Int):=(by omega);have hC:q<=2000000000000000000:=(by omega);have hL:=gd U;have gE:j<=1000000000000000:=(by omega);by_cases K:5000<q+capN S1
       ·have hh:(5000:Int)<(q:Int)+(1+min (S1:Int) 9000):=(by unfold capN at K;omega);have hG:R=1:=(by rw[<-HR.out,Zi];have h1:=hS.out;have h2:=hN.out;have h3:=hl.out;have h4:=ho.out;have h5:=hQ.out;have h6:=hO.out;rw[hE] at h5;have h7:bigF ⟨F,S,H,I,Y,D⟩=capN S0+bigP F+bigEs D:=(by unfold bigF bigH;rw[<-hP.out]);omega);subst hG;obtain ⟨M,hM⟩:∃M:Int,min (S1:Int) 9000=M:=⟨_,rfl⟩;have hd:0<=M:=(by omega);have hf:M<=9000:=(by omega);rw[hM] at hh;have HM:=gd hM;have X:S1<=1000000000000000:=(by omega);have gh:=ZC (Value.int .i64) (ZmT X);have gf:=ZC (Value.int .i64) (ZmR hd hf);have gg:=ZC (Value.int .i64) (ZmS hC hd hf);clear K hE hI X;have ht:=ZC (Value.int .i64) (ZlX g1 g2);have hu:=ZC (Value.int .i64) (ZlY g1 g2 g3);have ge:=ZC (Value.int .i64) (ZmQ g1 g2 g3 g4);clear g1 g2 g3 g4 k2 k4 k5 k6 k7 hn hH hz h0 ga h8 hW U ha hj hk hb;go_wp2;go_ret;exact ⟨rfl,(hT.out.trans hD.out).trans (hy.alloc _)⟩
       ·have hh:¬(5000:Int)<(q:Int)+(1+min (S1:Int) 9000):=(by unfold capN at K;omega);have gm:=gd K;have gn:=gd hE;obtain ⟨M,hM⟩:∃M:Int,min (S1:Int) 9000=M:=⟨_,rfl⟩;have hd:0<=M:=(by omega);have hf:M<=9000:=(by omega);rw[hM] at hh;have HM:=gd hM;have X:S1<=1000000000000000:=(by omega);have gh:=ZC (Value.int .i64) (ZmT X);have gf:=ZC (Value.int .i64) (ZmR hd hf);have gg:=ZC (Value.int .i64) (ZmS hC hd hf);clear K hE hI X;have ht:=ZC (Value.int .i64) (ZlX g1 g2);have hu:=ZC (Value.int .i64) (ZlY g1 g2 g3);have ge:=ZC (Value.int .i64) (ZmQ g1 g2 g3 g4);clear g1 g2 g3 g4 k2 k4 k5 k6 k7 hn hH hz h0 ga h8 hW U ha hj hk hb;go_wp2;clear ht hu ge gh gf gg;go_roundw
        case rel=>refine ⟨j+1,q+capN S1,hL.out,by go_num,ZC (Value.int .i64) (by have:=HM.out;unfold capN;omega),by have:=gm.out;omega,gd ?_,hy.alloc _⟩;have h3:=hl.out;have h5:=hQ.out;rw[gn.out] at h5;omega
        case measure=>simp[intOf];have:=hL.out;omega
      ·have hX:j=D.length:=(by omega);subst hX;rw[ZR (Zb _)] at hl;have h7:bigF ⟨F,S,H,I,Y,D⟩=capN S0+bigP F+bigEs D:=(by unfold bigF bigH;rw[<-hP.out]);have hq:q=bigL ((l.take (k+1)).map Fc.f):=(by have h1:=hS.out;have h3:=hl.out;have h4:=ho.out;rw[h7] at h1;omega);have HQ:=gd hq;have gj:=(hT.out.trans hD.out).trans hy;clear hq h7 hl;by_cases K:5000<q
       ·have hh:(5000:Int)<(q:Int):=(by omega);have hG:R=1:=(by rw[<-HR.out,Zi];have h2:=hN.out;have:=HQ.out;omega);subst hG;clear K;go_wp2;go_ret;exact ⟨rfl,gj⟩
       ·have hh:¬(5000:Int)<(q:Int):=(by omega);have gA:q<=5000:=(by omega);clear K;go_wp2;go_roundw
        case rel=>exact ⟨k+1,q,hb,by go_num,rfl,gA,HQ,gj⟩
        case measure=>simp[intOf];omega
  ·have gy:k=l.length:=(by omega);subst gy;have h9:=hp.out;rw[ZR (Zb _)] at h9;have gu:R=0:=(by rw[<-HR.out,Ze];omega);subst gu;clear h9 hp;go_wp2;go_ret;exact ⟨rfl,hx⟩
end
section
variable {L:List Fd} {c n:Nat}
theorem ZfY {A:Option Addr} (w:Wq) (h:ArcG w A n c L) (K:smA L):
 Calls prog 23 #[.agg #[.slice A n c]] w λe w'=>∃D H F,e= .returned (.agg #[.slice D H F])/\ArcG w' D H F (L.map outl)/\Ext w w':=by
 obtain ⟨lc,rfl,rfl,R,S⟩:=h;refine Za (ZfZ _ lc w R S (λx I=>by have:=(K.1 x.f (ZY I)).1.1.2;omega) (by have:=K.2;rw[Zm] at this;omega)) ?_;rintro e w' ⟨D,H,F,J,rfl,⟨U,V,Q,X⟩,I⟩;exact ⟨D,H,F,rfl,⟨J,U,V,RSl.of_own Q.row,Q.rd⟩,I⟩
theorem ZhC {A:Option Addr} (w:Wq) (h:ArcG w A n c L) (K:smA L):
 Calls prog 18 #[.agg #[.slice A n c]] w λe w'=>∃D H F,e= .returned (.agg #[.slice D H F])/\ArcG w' D H F (L.map outl)/\Ext w w':=by
 obtain ⟨lc,rfl,rfl,Q,R⟩:=h;refine Za (ZbC _ lc w Q R (λx I=>by have:=(K.1 x.f (ZY I)).1.1.2;omega) (by have:=K.2;rw[Zm] at this;omega)) ?_;rintro e w' ⟨D,H,F,J,rfl,⟨S,U,V,X⟩,I⟩;exact ⟨D,H,F,rfl,⟨J,S,U,V,X⟩,I⟩
theorem ZmC {l:List Fd} (h:okA l=true) (X:bigL l<=5000) (Z:smA l) (w:Wq) (V:Env w):
 Calls prog 19 #[.string (str (docW (encP l)))] w λe w'=>∃A n c,e= .returned (.tuple #[.agg #[.slice A n c],nI 0])/\ArcG w' A n c (l.map outl)/\Ext w w':=by
 obtain ⟨m,r,I,K,H,Q,R,S⟩:=ZhN h X Z;obtain ⟨D,U⟩:∃D,docW (encP l)=D:=⟨_,rfl⟩;rw[U] at I S|-;have J:=ZfV (Zbs h);have e1:decE r=0:=by unfold decE;rw[H];exact J.1
 have e2:decL r=l.map outl:=by unfold decL;rw[H];exact J.2
 refine Za (Znr (str D) w V (by rw[YH];omega) (by rw[Yb];exact I) K Q R (by decide) (by decide) (λk F=>Or.inl (by rw[H] at F;injection F with F;rw[<-F];exact ZiD (Zbs h)))) ?_;rintro e w' ⟨A,n,c,rfl,Y,hx⟩;rw[e1,e2.symm] at*;exact ⟨A,n,c,rfl,by rw[e2] at Y;rwa [e2],hx⟩
theorem Zjm (vp:Value) (S:List Fc) (w:Wq) (hE:Env w) (hk:NmTabs w) (hd:RFcs w vp S) (hl:∀y∈S,RdC w y) (hA:S.length<=reachBytes) (hm:∀y∈S,fwide y.f):
 Calls prog 7 #[.agg #[vp]] w λe w'=>e= .returned (.bool true)/\Ext w w':=by
 obtain ⟨pA,pc,hO, -, -⟩:=hd.form;subst hO;obtain ⟨W1,hu⟩:∃W1,w.alloc (.cells #[.slice pA S.length pc] 31)=W1:=⟨_,rfl⟩;have R:Ext w W1:=by rw[<-hu];exact (Ext.refl _).alloc _
 have cp:W1.cell? ⟨w.heap.size,0,none⟩=some (.slice pA S.length pc):=by rw[<-hu];exact (Ext.refl _).boxed 0 _ rfl
 have HC:Hid (∀W':Wq,Ext W1 W'->W'.cell? ⟨w.heap.size,0,none⟩=some (.slice pA S.length pc)):=gd λW' h=>h.cell cp;have hi:=gd R;have he:=gd (λ(W':Wq) (h:Ext W1 W')=>ZeG W' (hE.ext (R.trans h)) (hk.ext (R.trans h)));have U:=gd (λ(W':Wq) (h:Ext W1 W')=>Zev _ S W' (hd.ext (R.trans h)) (λy hy=>(hl y hy).ext (R.trans h)) hA hm);have hx:ArcG w pA S.length pc (S.map Fc.f):=⟨S,rfl,rfl,hd,hl⟩;have X:=gd (λ(W':Wq) (h:Ext W1 W')=>hx.ext (R.trans h));have I:¬5000<bigL (S.map Fc.f)->smA (S.map Fc.f):=λh=>Zj9 hm (by omega);have HE:=gd (λ(W':Wq) (h:Ext W1 W')=>hE.ext (R.trans h));have hp:=gd (λ(W':Wq) (h:Ext W1 W')=>hk.ext (R.trans h));obtain ⟨P,hP⟩:∃P,S.map Fc.f=P:=⟨_,rfl⟩;rw[hP] at I;simp only[hP] at U X;clear hP hx hd hl hA hm hE hk R;by_cases h1:5000<bigL P
 ·simp only[Zi h1] at U;clear h1 I;go_enter func7,ntmps7
  go_wp2_with (first|(go_at_call 15;(with_reducible refine Za (U.out _ (Ext.refl _)) ?_);rintro e w1 ⟨rfl,J⟩)|(go_at_call 11;(with_reducible refine Za (he.out _ J) ?_);rintro e w2 ⟨rfl,V⟩))
  go_ret;exact ⟨rfl,hi.out.trans (J.trans V)⟩
 have I:=I h1;have hc:=gd (λ(W':Wq) (h:Ext W1 W')=>Zma W' (X.out W' h) I);simp only[Ze h1] at U;by_cases h3:okA P=true
 case neg=>
  simp only[Ze h3] at hc;clear h1 h3 I;go_enter func7,ntmps7
  go_wp2_with (first|(go_at_call 15;(with_reducible refine Za (U.out _ (Ext.refl _)) ?_);rintro e w1 ⟨rfl,J⟩;(have d0:=HC.out _ J))|(go_at_call 16;(with_reducible refine Za (hc.out _ J) ?_);rintro e w2 ⟨rfl,V⟩)|(go_at_call 11;(with_reducible refine Za (he.out _ (J.trans V)) ?_);rintro e w3 ⟨rfl,hQ⟩))
  go_ret;exact ⟨rfl,hi.out.trans ((J.trans V).trans hQ)⟩
 have hh:=gd (λ(W':Wq) (h:Ext W1 W')=>Zez W' (HE.out W' h) (hp.out W' h) (X.out W' h) I);simp only[Zi h3] at hc hh;have hn:=ZlB I;have hz:=Zbs h3;have hg:=gd (λ(W':Wq) (h:Ext W1 W')=>ZmC h3 (by omega) I W' (HE.out W' h));have Y:=gd (λ(W':Wq) (A:Option Addr) (n c:Nat) (h:Ext W1 W') (g:ArcG W' A n c (P.map outl))=>Zez W' (HE.out W' h) (hp.out W' h) g hn);simp only[Zi hz] at Y;have hr:=gd (λ(W':Wq) (h:Ext W1 W')=>ZfY W' (X.out W' h) I);have hs:=gd (λ(W':Wq) (h:Ext W1 W')=>ZhC W' (X.out W' h) I);have hf:=gd (λ(W':Wq) (A B:Option Addr) (n c m d:Nat) (g:ArcG W' A n c (P.map outl)) (k:ArcG W' B m d (P.map outl))=>ZnS W' g k hn);simp only[decide_true] at hf;obtain ⟨D,hD⟩:∃D,docW (encP P)=D:=⟨_,rfl⟩;obtain ⟨D2,hj⟩:∃D,docW (encP (P.map outl))=D:=⟨_,rfl⟩;have ht:D2=D:=by rw[<-hj,<-hD,ZiR]
 simp only[hD] at hh hg;simp only[hj] at Y;have HQ:Hid (((str D).toList==(str D2).toList)=true):=gd (by rw[ht];simp);obtain ⟨L,hL⟩:∃L,P.map outl=L:=⟨_,rfl⟩;simp only[hL] at hg Y hr hs hf;clear h1 h3 I hn hz hD hj ht hL;go_enter func7,ntmps7
 go_wp2_with (first|(go_at_call 15;(with_reducible refine Za (U.out _ (Ext.refl _)) ?_);rintro e w1 ⟨rfl,J⟩;(have d0:=HC.out _ J))|(go_at_call 16;(with_reducible refine Za (hc.out _ J) ?_);rintro e w2 ⟨rfl,V⟩;(have Z:=J.trans V);(have d1:=HC.out _ Z))|(go_at_call 17;first|(with_reducible refine Za (hh.out _ Z) ?_;rintro e w5 ⟨rfl,hR⟩;have ha:=Z.trans hR;have j0:=HC.out _ ha)|(with_reducible refine Za (Y.out _ _ _ _ Q hw) ?_;rintro e w7 ⟨rfl,hH⟩;have hb:=Q.trans hH;have k0:=HC.out _ hb)|(with_reducible refine Za (Y.out _ _ _ _ (hb.trans hI) hN) ?_;rintro e w9 ⟨rfl,hB⟩;have hU:=hH.trans (hI.trans hB)))|(go_at_call 19;(with_reducible refine Za (hg.out _ ha) ?_);rintro e w6 ⟨A6,n6,c6,rfl,hM,hT⟩;(have Q:=(ha.trans hT).alloc (.cells #[.slice A6 n6 c6] 31));(have hw:=hM.ext ((Ext.refl w6).alloc (.cells #[.slice A6 n6 c6] 31)));(have b6:=(Ext.refl (w6.alloc (.cells #[.slice A6 n6 c6] 31))).boxed 0 (.slice A6 n6 c6) rfl);(have j1:=HC.out _ Q))|(go_at_call 23;(with_reducible refine Za (hr.out _ hb) ?_);rintro e w8 ⟨A8,n8,c8,rfl,hN,hI⟩))
 have HB:Hid (∀w':Wq,Ext (w6.alloc (.cells #[.slice A6 n6 c6] 31)) w'->w'.cell? ⟨w6.heap.size,0,none⟩=some (.slice A6 n6 c6)):=gd λw' h=>h.cell b6;refine rN ?_;change wpAny _ _ _ _ _ _ _ (World.drew _);have hJ:=hU.drew;have hq:=HQ.out;refine Yx (λw'=>Ext (w6.alloc (.cells #[.slice A6 n6 c6] 31)) w') ?_;refine sS 0 λK hK=> ?_;go_simp;go_at_call 11
 with_reducible refine Za (he.out _ (Q.trans hJ)) ?_
 rintro e hY ⟨rfl,hC⟩;have F:=hJ.trans hC;refine hK _ _ F ?_;clear hK K;refine tG 1 (.bool true) F ?_;refine tG 2 (nI 0) F ?_;refine tG 3 (.bool true) F ?_;refine tG 4 (.bool true) F ?_;go_simp;refine tG 5 (.bool true) F ?_;refine tG 6 (nI 0) F ?_;refine tG 7 (.bool true) F ?_;refine tG 8 (.bool true) F ?_;go_simp;refine tG 9 (.bool true) F ?_;refine tG 10 (nI 0) F ?_;refine tG 11 (.bool true) F ?_;refine tG 12 (.bool true) F ?_;go_simp;refine tG 13 (.bool true) F ?_;refine tG 14 (nI 0) F ?_;refine tG 15 (.bool true) F ?_;refine tG 16 (.bool true) F ?_;go_simp;refine tG 17 (.bool true) F ?_;refine tS 18 (.agg #[.slice A6 n6 c6]) rfl (λw' hS=>by have q0:=HB.out _ hS;go_simp) F ?_;refine tS 19 (.agg #[.slice pA S.length pc]) rfl (λw' hS=>by have q0:=HC.out _ (Q.trans hS);go_simp) F ?_;go_simp;refine sS 20 λK hK=> ?_;go_simp;go_at_call 18
 with_reducible refine Za (hs.out _ (Q.trans F)) ?_
 rintro e hZ ⟨hV,hX,hW,rfl,hv,hF⟩;have ho:=F.trans hF;refine hK _ _ ho ?_;clear hK K;refine sS 21 λK hK=> ?_;go_simp;go_at_call 14
 with_reducible refine Za (hf.out _ _ _ _ _ _ _ (hw.ext ho) hv) ?_
 rintro e h0 ⟨rfl,hG⟩;have H:=ho.trans hG;refine hK _ _ H ?_;clear hK K;refine tG 22 (.bool true) H ?_;go_simp;refine tG 23 (.bool true) H ?_;refine tG 24 (.string (str D)) H ?_;refine tG 25 (.string (str D2)) H ?_;refine tG 26 (.bool true) H ?_;refine tG 27 (.bool true) H ?_;go_simp;refine tG 28 (.bool true) H ?_;refine tG 29 (.string (str D)) H ?_;refine tG 30 (.string (str D2)) H ?_;refine tG 31 (.bool true) H ?_;refine tG 32 (.bool true) H ?_;go_simp;refine sS 33 λK hK=> ?_;go_simp;refine hK _ _ H ?_;clear hK K;refine sE ?_;go_wp2;go_ret;exact ⟨rfl,hi.out.trans (Q.trans H)⟩
end
section
variable {P:Program} {W:World} {e:TypeId} {g:Nat} {α:Type}
abbrev laidAll : List (String × DataW Unit) := [("math/bits.deBruijn32tab", Rows.laid_math_bits_deBruijn32tab), ("math/bits.deBruijn64tab", Rows.laid_math_bits_deBruijn64tab), ("internal/strconv.uint64pow10", Rows.laid_internal_strconv_uint64pow10), ("unicode/utf8.acceptRanges", Rows.laid_unicode_utf8_acceptRanges), ("feedvault/text.startRanges", Rows.laid_feedvault_text_startRanges), ("feedvault/text.moreRanges", Rows.laid_feedvault_text_moreRanges), ("feedvault/jsonstring.letters", Rows.laid_feedvault_jsonstring_letters), ("unicode/utf8.first", Rows.laid_unicode_utf8_first)]
theorem Zhe:Rows.laid_unicode_utf8_first=Lib.firstData:=by kernel_rfl
theorem ZfC:(Rows.laid_unicode_utf8_acceptRanges:DataW Unit)=Lib.acceptData:=by kernel_rfl
theorem Zk3:(Rows.laid_internal_strconv_uint64pow10:DataW Unit)=Lib.tabData .u64 Lib.pow10Tab:=by kernel_rfl
theorem Zk2:(Rows.laid_feedvault_jsonstring_letters:DataW Unit)= .agg [.agg [.lit (.int .u8 98),.lit (.int .u8 8)],.agg [.lit (.int .u8 102),.lit (.int .u8 12)],.agg [.lit (.int .u8 110),.lit (.int .u8 10)],.agg [.lit (.int .u8 114),.lit (.int .u8 13)],.agg [.lit (.int .u8 116),.lit (.int .u8 9)]]:=rfl
theorem ZnB : prog.globalNamed "feedvault/jsonstring.letters" = some 6 := by kernel_rfl
theorem gDb : prog.globalNamed "math/bits.deBruijn64tab" = some 8 := by kernel_rfl
theorem QP {n:String} {cs:Array Value} (D:P.globalNamed n=some g) (h:W.var? P n=some cs):∃t fr,W.heap[g]? =some (.cells cs t fr):=by
 unfold World.var? at h;rw[D] at h;simp only[Option.bind_some] at h;split at h
 ·rename_i A t fr F;injection h with h;subst h;exact ⟨t,fr,F⟩
 ·cases h
theorem Znh {l:List α} (h:l.length=10):∃a b c d e f g i j k,l= [a,b,c,d,e,f,g,i,j,k]:=by
 match l,h with
 | [a,b,c,d,e,f,g,i,j,k],_=>exact ⟨a,b,c,d,e,f,g,i,j,k,rfl⟩
theorem Ze3 (h:laidMet prog laidAll W):Env W:=by
 have r5 := VQ h (n := "unicode/utf8.first") (.tail _ (.tail _ (.tail _ (.tail _ (.tail _ (.tail _ (.tail _ (.head _))))))))
 have r3 := VQ h (n := "unicode/utf8.acceptRanges") (.tail _ (.tail _ (.tail _ (.head _))))
 have r2 := VQ h (n := "internal/strconv.uint64pow10") (.tail _ (.tail _ (.head _)))
 have r4 := VQ h (n := "feedvault/jsonstring.letters") (.tail _ (.tail _ (.tail _ (.tail _ (.tail _ (.tail _ (.head _)))))))
 have r1 := VQ h (n := "math/bits.deBruijn64tab") (.tail _ (.head _))
 rw[Zhe] at r5;rw[ZfC] at r3;rw[Zk3] at r2;rw[Zk2] at r4;refine ⟨?_,?_,?_,?_⟩
 ·exact utf8Tabs_of_reads (ρ:=lays197_ren) {lays197 with} ⟨by kernel_rfl,by kernel_rfl,by kernel_rfl,by kernel_rfl,by kernel_rfl,by kernel_rfl,by kernel_rfl⟩ r5 r3
 ·obtain ⟨g,t,cs,fuel,p,hg,hty,hvar,hd⟩:=r2;obtain rfl:=YS (ZnC.symm.trans hg);obtain rfl:=YS ((show (prog.globals[5]?).map (·.type)=some 298 by kernel_rfl).symm.trans hty);unfold Lib.TabIs;rw[hvar,<-Lib.cells_of_tab underlying298 underlying144 (by kernel_rfl) (by kernel_rfl) hd]
 ·obtain ⟨g,t,cs,fuel,p,hg,hty,hvar,hd⟩:=r1;obtain rfl:=YS (gDb.symm.trans hg);obtain ⟨t',fr,hh⟩:=QP gDb hvar;have:=(Zv.1 hh).1;omega
 ·obtain ⟨g,t,cs,fuel,p,hg,hty,hvar,hd⟩:=r4;obtain rfl:=YS (ZnB.symm.trans hg);obtain rfl:=YS ((show (prog.globals[6]?).map (·.type)=some 301 by kernel_rfl).symm.trans hty);obtain ⟨t',fr,hh⟩:=QP ZnB hvar;have c2:prog.cellsOf 300=2:=by kernel_rfl
  have c10:prog.cellsOf 301=10:=by kernel_rfl
  obtain ⟨xs,m,hf,hx,hlen,hxl,hel⟩:=DataW.trod_array underlying301 hd;rw[c10] at hlen;obtain ⟨l⟩:=cs;obtain ⟨a,b,c,d,e,f,g,i,j,k,hl⟩:=Znh hlen;have hl':l= [a,b,c,d,e,f,g,i,j,k]:=hl;subst hl';have part:∀(q:Nat) (z1 z2:Int),q<5->
   ([.agg [.lit (.int .u8 98),.lit (.int .u8 8)],.agg [.lit (.int .u8 102),.lit (.int .u8 12)],.agg [.lit (.int .u8 110),.lit (.int .u8 10)],.agg [.lit (.int .u8 114),.lit (.int .u8 13)],.agg [.lit (.int .u8 116),.lit (.int .u8 9)]]:List (DataW Unit))[q]? =some (Lib.tabData .u8 [z1,z2])->
   (([a,b,c,d,e,f,g,i,j,k]:List Value).drop (q*2)).take 2= [.int .u8 z1,.int .u8 z2]:=by
   intro q z1 z2 hq hz
   obtain ⟨fuel',dd,pp,hdi,he⟩:=Lib.array_elem underlying301 hd q hq
   obtain rfl:=YS (hz.symm.trans hdi)
   rw[c2] at he
   have:=Lib.cells_of_tab underlying300 underlying5 (by kernel_rfl) c2 he
   simpa using this
  have p0:=part 0 98 8 (by decide) rfl;have p1:=part 1 102 12 (by decide) rfl;have p2:=part 2 110 10 (by decide) rfl;have p3:=part 3 114 13 (by decide) rfl;have p4:=part 4 116 9 (by decide) rfl;simp at p0 p1 p2 p3 p4;obtain ⟨rfl,rfl⟩:=p0;obtain ⟨rfl,rfl⟩:=p1;obtain ⟨rfl,rfl⟩:=p2;obtain ⟨rfl,rfl⟩:=p3;obtain ⟨rfl,rfl⟩:=p4;exact ⟨t',fr,hh⟩
theorem Zf3:∀(L:List (Nat×Nat)) (l:List Value),l.length=L.length*2->(∀(q:Nat) (h:q<L.length),(l.drop (q*2)).take 2= [.int .i32 (L[q].1:Nat),.int .i32 (L[q].2:Nat)])->l=L.flatMap λp=> [Value.int .i32 (p.1:Nat),Value.int .i32 (p.2:Nat)]
 | [],l,hl,_=>by
  rw[ZM,Xa] at hl
  exact Zr hl
 |p::t,l,hl,h=>by
  have A:=h 0 (ZgF _)
  rw[Xa,Jm] at A
  rw[Zd] at hl
  have ih:=Zf3 t (l.drop 2) (by rw[Zj];omega) (λq F=>by
   have D:=h (q+1) (Nat.succ_lt_succ F)
   rw[List.drop_drop]
   rw[show 2+q*2=(q+1)*2 by omega]
   exact D)
  rw[<-Yy 2 l,A,ih,List.flatMap_cons]
  rfl
theorem Zf4 {nm:String} {t:TypeId} {L:List (Nat×Nat)} (V:prog.globalNamed nm=some g) (K:(prog.globals[g]?).map (·.type)=some t) (Y:prog.underlying t=some (.array L.length e)) (Z:prog.underlying e=some (.array 2 21)) (S:prog.cellsOf e=2) (ct:prog.cellsOf t=L.length*2)
 (h:Lib.VarReads prog W nm (.agg (L.map λp=> .agg [.lit (.int .i32 (p.1:Nat)),.lit (.int .i32 (p.2:Nat))]))):∃ty fr,W.heap[g]? =some (.cells (pairCells L) ty fr):=by
 obtain ⟨g',t',cs,fuel,p,J,Q,H,U⟩:=h;obtain rfl:=YS (V.symm.trans J);obtain rfl:=YS (K.symm.trans Q);obtain ⟨ty,fr,hh⟩:=QP V H;obtain ⟨xs,m,hf,hx,A,hb,ha⟩:=DataW.trod_array Y U;rw[ct] at A;have R:=Zf3 L cs.toList A λq X=>by obtain ⟨I,dd,pp,F,D⟩:=Lib.array_elem Y U q X;rw[Yz,Zl X] at F;obtain rfl:=YS F;rw[S] at D;exact Lib.cells_of_tab (zs:= [(L[q].1:Nat),(L[q].2:Nat)]) Z underlying21 (by kernel_rfl) S D
 refine ⟨ty,fr,?_⟩;rw[hh];have:cs=pairCells L:=by unfold pairCells;rw[<-R]
 rw[this]
theorem Zhf:(Rows.laid_feedvault_text_startRanges:DataW Unit)= .agg (startL.map λp=> .agg [.lit (.int .i32 (p.1:Nat)),.lit (.int .i32 (p.2:Nat))]):=rfl
theorem Zjj:(Rows.laid_feedvault_text_moreRanges:DataW Unit)= .agg (moreL.map λp=> .agg [.lit (.int .i32 (p.1:Nat)),.lit (.int .i32 (p.2:Nat))]):=rfl
theorem Zhu (h:laidMet prog laidAll W):NmTabs W:=by
 have r1 := VQ h (n := "feedvault/text.startRanges") (.tail _ (.tail _ (.tail _ (.tail _ (.head _)))))
 have r2 := VQ h (n := "feedvault/text.moreRanges") (.tail _ (.tail _ (.tail _ (.tail _ (.tail _ (.head _))))))
 rw[Zhf] at r1;rw[Zjj] at r2;exact ⟨Zf4 (by kernel_rfl) (by kernel_rfl) (t:=286) (e:=284) underlying286 underlying284 (by kernel_rfl) (by kernel_rfl) r1,Zf4 (by kernel_rfl) (by kernel_rfl) (t:=285) (e:=284) underlying285 underlying284 (by kernel_rfl) (by kernel_rfl) r2⟩
theorem ZnT:ownKnob prog.godebug=none:=by kernel_rfl
theorem Zk1:laidOutB prog=true:=by kernel_rfl
end
end Go.Proofs.YtnlafkgkcnenfaaGreatDoor
