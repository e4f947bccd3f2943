/- Parts of the proof: contracts and plain laws. -/
import Derived.Shelf.SlSortCmp.InsertionK
import Derived.Shelf.SlSortCmp.SiftDownK
import Derived.Shelf.SlSortCmp.HeapSortK
import Derived.Shelf.SlSortCmp.MedianK
import Derived.Shelf.SlSortCmp.PivotK
import Derived.Shelf.SlSortCmp.ReverseRangeK
import Derived.Shelf.SlSortCmp.PartialInsertionK
import Derived.Shelf.SlSortCmp.PartitionEqualK
import Derived.Shelf.SlSortCmp.PartitionK
import Derived.Shelf.SlSortCmp.PdqK
import Derived.Shelf.SlSortCmp.WholeK
import Derived.Shelf.SlSortCmp.NoneTotal
import Derived.Test.YthlnaldahkgjnaaGreatDoorZ10
namespace Go.Proofs.YthlnaldahkgjnaaGreatDoor
open Go Go.RowKit Go.Shelf Go.Sort _root_.Go.Proofs.Tryz
set_option linter.unusedVariables false
set_option linter.unusedSimpArgs false
set_option maxRecDepth 100000
set_option maxHeartbeats 16000000
theorem Zdb (N:Nat) (x:JO) (cs:List Value) (b:Nat) (o:Option (Nat×Nat)) (w0 w:World) (h:RJ w0 x cs) (hg:jsz N x) (hN:N<=16777216) (hE:Env w0) (hs:Ext w0 w) (hl:w0.heap.size<=b) (hr:RdAt b cs o w) (h5:kindJ x≠5):
 Calls prog 35 #[.pointer (some ⟨b,0,none⟩)] w λe w'=>∃E:Ent,e= .returned (.agg (eCells E).toArray)/\EntR x E/\RdAt b cs (orF o (entF x)) w'/\Bar b w w':=by
 have Z:memJ x nId=none:=by unfold memJ;rw[E2 h5]
 have V:b<w.heap.size:=(Ze.1 hr.1).1;have hB:(((kindJ x:Nat):Int) !=5)=true:=by simp;omega
 have Q:idS x=firstJ x [nId]:=by unfold idS;rw[Z]
 have Y:idF x=chkJ x false [nId]:=by unfold idF;rw[Z]
 have X:(firstJ x [nId]).size<=16777216:=by rw[Xk,Z];exact Zt _
 obtain ⟨A,p,c,B,q,d,U⟩:=h.cells;have R:=((Ext.refl w).alloc (.cells #[.string ⟨#[]⟩,.string ⟨#[]⟩,.string ⟨#[]⟩,.string ⟨#[]⟩,.int .i64 0] 64)).heap hr.1;rw[U] at R;have c0:(w.alloc (.cells #[.string ⟨#[]⟩,.string ⟨#[]⟩,.string ⟨#[]⟩,.string ⟨#[]⟩,.int .i64 0] 64)).cell? ⟨b,0,none⟩=some (.int .i64 (kindJ x:Nat)):=Zb _ _ 0 _ _ _ R;have c6:(w.alloc (.cells #[.string ⟨#[]⟩,.string ⟨#[]⟩,.string ⟨#[]⟩,.string ⟨#[]⟩,.int .i64 0] 64)).cell? ⟨b,6,none⟩=some (.int .i64 (atJ x:Nat)):=Zb _ _ 6 _ _ _ R;clear R U;have F:entF x=orF (some (atJ x,21)) (orF (chkJ x false [nId]) (orF (chkJ x false [nTitle,nUrl,nText,nHtml,nMod,nPub]) (orF (reqF x (firstJ x [nId])) (faultD (dateJ x [nMod,nPub]))))):=by unfold entF;rw[Zi h5,Q,Y]
 rw[F];have hj:=gd Q;clear F Y Q h5;go_enter func35,ntmps35
 go_wp2_with (first|(refine Zg rfl 64 (.tmp 2) (.tmp 64) rfl w.heap.size _ rfl rfl _ _ j.rb Z7 rfl (UD (Z1 ⟨firstJ x [nId],firstJ x [nTitle],firstJ x [nUrl],firstJ x [nText,nHtml],t⟩)) ?_)|(go_at_call 32;(refine Za (QJ C hh [nMod,nPub] (by decide) _ (by first|rfl|exact (Zp _ _).symm|(simp;done))) ?_);rintro e hD ⟨t,rfl,ht,D⟩;(have g5:=(D.cell 4 rfl).1);(have hz:=(D.cell 4 rfl).2);(have j:=D.set C 4 (.int .i64 t) (E':=⟨firstJ x [nId],firstJ x [nTitle],firstJ x [nUrl],firstJ x [nText,nHtml],t⟩) rfl);(have r0:=(j.cell 0 rfl).1);(have r1:=(j.cell 1 rfl).1);(have r2:=(j.cell 2 rfl).1);(have r3:=(j.cell 3 rfl).1);(have r4:=(j.cell 4 rfl).1))|(go_at_call 29;(refine Za (Xa C hf [nText,nHtml] (by decide) _ (by first|rfl|exact (Zp _ _).symm|(simp;done))) ?_);rintro e w9 ⟨rfl,I⟩;(have J:=I.set C 1 (.string (firstJ x [nTitle])) (E':=⟨firstJ x [nId],firstJ x [nTitle],noS,noS,0⟩) rfl);(have O:=J.set C 2 (.string (firstJ x [nUrl])) (E':=⟨firstJ x [nId],firstJ x [nTitle],firstJ x [nUrl],noS,0⟩) rfl);(have hh:=O.set C 3 (.string (firstJ x [nText,nHtml])) (E':=⟨firstJ x [nId],firstJ x [nTitle],firstJ x [nUrl],firstJ x [nText,nHtml],0⟩) rfl);(have g2:=(I.cell 1 rfl).1);(have hw:=(I.cell 1 rfl).2);(have g3:=(J.cell 2 rfl).1);(have hx:=(J.cell 2 rfl).2);(have g4:=(O.cell 3 rfl).1);(have hy:=(O.cell 3 rfl).2))|(go_at_call 29;(refine Za (Xa C he [nUrl] (by decide) _ (by first|rfl|exact (Zp _ _).symm|(simp;done))) ?_);rintro e w8 ⟨rfl,hf⟩)|(go_at_call 29;(refine Za (Xa C hd [nTitle] (by decide) _ (by first|rfl|exact (Zp _ _).symm|(simp;done))) ?_);rintro e w7 ⟨rfl,he⟩)|(go_at_call 31;(refine Za (Uo C H _ X) ?_);rintro e w6 ⟨rfl,hd⟩)|(go_at_call 28;(refine Za (Js C hi [nTitle,nUrl,nText,nHtml,nMod,nPub] (by decide) _ (by first|rfl|exact (Zp _ _).symm|(simp;done))) ?_);rintro e w5 ⟨rfl,H⟩;(have g1:=(H.cell 0 rfl).1);(have hv:=(H.cell 0 rfl).2))|(go_at_call 29;(refine Za (Xa C hb [nId] (by decide) _ (by first|rfl|exact (Zp _ _).symm|(simp;done))) ?_);rintro e w4 ⟨rfl,G⟩;(have g0:=(G.cell 0 rfl).1);(have hu:=(G.cell 0 rfl).2);(have hi:=G.set C 0 (.string (firstJ x [nId])) (E':=⟨firstJ x [nId],noS,noS,noS,0⟩) rfl))|(go_at_call 28;(refine Za (Js C (ha.next ((Ext.refl w2).alloc _)) [nId] (by decide) _ (by first|rfl|exact (Zp _ _).symm|(simp;done))) ?_);rintro e w3 ⟨rfl,hb⟩)|(go_at_call 33;(refine Za (G6 C H0 nId) ?_);rintro e w2 ⟨⟨y,cy,rfl,hq,hA⟩,hC,ha⟩;(rw[Z]);(obtain ⟨A1,p1,q1,B1,p2,q2,U⟩:=hq.cells);(unfold wcells at U);(generalize kindJ y=K,bJ y=Bb,nJ y=Nn,sJ y=Ss,atJ y=At at U);subst U)|(go_at_call 34;(refine Za (UL x cs b o (atJ x) 21 w0 _ h (hr.ext ((Ext.refl w).alloc _)) (by decide)) ?_);rintro e wa ⟨rfl,hp,ho⟩;(obtain ⟨C,H0⟩:=ZgY h hg hN hE hs hl V hp ho)))
 ((try simp only[Exit.inBlock,Exit.then]);refine Zm (Zz rfl _ _ _ _ _ _ _ rfl (Zk _ _ _ _ _ _ j.rb) underlying64 rfl Z7) rfl ?_);refine ⟨⟨firstJ x [nId],firstJ x [nTitle],firstJ x [nUrl],firstJ x [nText,nHtml],t⟩,rfl,⟨hj.out.symm,rfl,rfl,rfl,ht⟩,?_,?_⟩
 ·have S:=j.rd;simp only[Xw] at S;exact ⟨by rw[ZD _ _ _ _ (Nat.ne_of_lt (Z3 C.hbw C.hrw))];exact S.1,S.2⟩
 ·exact ⟨j.bar.os,j.bar.tape,j.bar.output,by have:=j.bar.size;simpa [World.setRow] using this,λk R hn=>by rw[ZD _ _ _ _ (Nat.ne_of_lt R)];exact j.bar.block k R hn⟩
theorem U0 (N:Nat) (x:JO) (cs:List Value) (b:Nat) (o:Option (Nat×Nat)) (w0 w:World) (h:RJ w0 x cs) (G:jsz N x) (F:N<=16777216) (D:Env w0) (A:Ext w0 w) (j:w0.heap.size<=b) (H:RdAt b cs o w):
 Calls prog 35 #[.pointer (some ⟨b,0,none⟩)] w λe w'=>∃E:Ent,e= .returned (.agg (eCells E).toArray)/\EntR x E/\RdAt b cs (orF o (entF x)) w'/\Bar b w w':=by
 by_cases C:kindJ x=5
 ·cases hm:memJ x nId with
  |none=>exact ZbJ N x cs b o w0 w h G F D A j H C hm
  |some z=>
   cases z with
   |int ia n=>exact Zda N x cs b o w0 w h G F D A j H C ia n hm
   |null a=>exact UQ N x cs b o w0 w h G F D A j H C _ hm (by show (0:Nat)≠2;decide)
   |bool a v=>exact UQ N x cs b o w0 w h G F D A j H C _ hm (by show (1:Nat)≠2;decide)
   |str a s=>exact UQ N x cs b o w0 w h G F D A j H C _ hm (by show (3:Nat)≠2;decide)
   |arr a l=>exact UQ N x cs b o w0 w h G F D A j H C _ hm (by show (4:Nat)≠2;decide)
   |obj a k v=>exact UQ N x cs b o w0 w h G F D A j H C _ hm (by show (5:Nat)≠2;decide)
 ·exact Zdb N x cs b o w0 w h G F D A j H C
theorem XR {x:JO} {n:ByteArray} (h:chk1 x n=none):firstJ x [n]=textJ x n:=by
 unfold chk1 at h;rw[Xk];unfold textJ;cases hm:memJ x n with
 |none=>rfl
 |some y=>
  rw[hm] at h;simp only at h;by_cases j:kindJ y≠3
  ·rw[Zi j] at h;cases h
  ·cases y<;>first|rfl|exact absurd (show (2:Nat)≠3 by decide) j
theorem EQ {x:JO}:∀(l:List ByteArray),chkJ x false l=none->∀n∈l,chk1 x n=none
 | [],_,n,j=>by cases j
 |m::t,h,n,j=>by
  rw[Qg] at h
  cases hc:chk1 x m with
  |some e=>rw[hc] at h;cases h
  |none=>
   rw[hc] at h
   rcases ZG.1 j with rfl|j
   ·exact hc
   ·exact EQ t h n j
theorem ZcE (x:JO) (n:ByteArray) (t:List ByteArray):chkJ x true (n::t)=orF (match memJ x n with
 |some (.int _ _)=>none
 |_=>chkJ x false [n]) (chkJ x false t):=by
 have e:chkJ x true (n::t)=match memJ x n with
  |none=>chkJ x false t
  |some y=>if true=true/\kindJ y=2 then chkJ x false t else if kindJ y≠3 then some (atJ y,21) else if (checkS (sJ y)).2≠0 then some (atJ y,(checkS (sJ y)).2) else chkJ x false t:=rfl
 rw[e,QH];unfold chk1;cases hm:memJ x n with
 |none=>rfl
 |some y=>cases y<;>simp[kindJ,orF]<;>(try (split<;>rfl))
theorem ZeU (x:JO):(match memJ x nId with
 |some (.int _ _)=>none
 |_=>chkJ x false [nId])=idF x:=rfl
theorem ZaP {x:JO} (h:idF x=none):idS x=textJ x nId:=by
 unfold idF at h;unfold idS;cases hm:memJ x nId with
 |none=>unfold textJ;rw[hm,Xk,hm]
 |some y=>
  rw[hm] at h;cases y with
  |int a n=>unfold textJ;rw[hm];rfl
  |_=>exact XR (by rw[<-QH];exact h)
theorem EV (x:JO):entF x=match entryJ x with
 | .ok _=>none
 | .error e=>some e:=by
 unfold entF entryJ;by_cases h:kindJ x≠5
 ·rw[Zi h,Zi h];rfl
 ·rw[Zf h,Zf h,ZcE,ZeU];cases hi:idF x with
  |some e=>rfl
  |none=>
   rw[ZaP hi];cases h6:chkJ x false [nTitle,nUrl,nText,nHtml,nMod,nPub] with
   |some e=>rfl
   |none=>
    unfold reqF;by_cases j:collapse (textJ x nId)=noS
    ·simp only[orF,Zi j]
    ·simp only[orF,Zf j];cases dateJ x [nMod,nPub]<;>rfl
theorem ZfW {x:JO} {E e:Ent} (h:EntR x E) (j:entryJ x= .ok e):E=e:=by
 have Q:=EV x;rw[j] at Q;unfold entryJ at j;by_cases D:kindJ x≠5
 ·rw[Zi D] at j;cases j
 ·rw[Zf D,ZcE,ZeU] at j;cases hi:idF x with
  |some e=>rw[hi] at j;cases j
  |none=>
   rw[hi] at j;cases h6:chkJ x false [nTitle,nUrl,nText,nHtml,nMod,nPub] with
   |some e=>rw[h6] at j;cases j
   |none=>
    rw[h6] at j;simp only[orF] at j;by_cases F:collapse (textJ x nId)=noS
    ·rw[Zi F] at j;cases j
    ·rw[Zf F] at j;cases hd:dateJ x [nMod,nPub] with
     |error e=>rw[hd] at j;cases j
     |ok t=>
      rw[hd] at j;simp only at j;injection j with j;subst j;obtain ⟨H,I,J,K,O⟩:=h;have A:=EQ _ h6;have S:=XR (A nTitle (by simp));have U:=XR (A nUrl (by simp));have G:=XR (A nText (by simp));have R:=XR (A nHtml (by simp));have C:firstJ x [nText,nHtml]=if (memJ x nText).isSome then textJ x nText else textJ x nHtml:=by
       have e1:firstJ x [nText,nHtml]=match memJ x nText with
        |some y=>sJ y
        |none=>firstJ x [nHtml]:=rfl
       rw[e1];cases hmt:memJ x nText with
       |none=>simpa using R
       |some y=>rw[Xk,hmt] at G;simpa using G
      obtain ⟨a,b,c,d,u⟩:=E;simp only[entJO] at*;rw[H,I,J,K,O t hd,ZaP hi,S,U,C]
theorem EJ:∀(l:List (Addr×ByteArray)) (w:World) (p:Addr×ByteArray) (u:Value),p∈l->(l.Pairwise λp q=>p.1≠q.1)->w.cell? p.1=some u->(setS w l).cell? p.1=some (.string p.2)
 | [],_,_,_,h,_,_=>by simp at h
 |q::t,w,p,u,h,hap,hu=>by
  have j:=Jb.1 hap
  rcases ZG.1 h with h|h
  ·subst h
   rw[setS,Uy t _ _ λr C=>(j.1 r C).symm]
   exact Qe _ _ _ hu
  ·have A:q.1≠p.1:=j.1 p h
   rw[setS]
   exact EJ t _ p u h j.2 (by rw[YL w q.1 p.1 _ A];exact hu)
theorem Ext.setS {a:World}:∀(l:List (Addr×ByteArray)) {b:World},Ext a b->(∀p∈l,a.heap.size<=p.1.block)->Ext a (setS b l)
 | [],_,h,_=>h
 |p::t,b,h,hl=>Ext.setS t (h.setCell (hl p (by simp)) _) λq j=>hl q (by simp[j])
def ptrsAt (g:Nat):Nat->List ByteArray->List (Addr×ByteArray)
 |_,[]=> []
 |i,s::t=>(⟨g,i,none⟩,s)::ptrsAt g (i+1) t
theorem U5 (g:Nat):∀(l:List ByteArray) (i:Nat),(ptrsAt g i l).length=l.length
 | [],_=>rfl
 |s::t,i=>by rw[ptrsAt,Zr,U5 g t,Zr]
theorem U4 (g:Nat):∀(l:List ByteArray) (i k:Nat),(ptrsAt g i l)[k]? =l[k]?.map λs=>(⟨g,i+k,none⟩,s)
 | [],_,_=>by simp[ptrsAt]
 |s::t,i,0=>by simp[ptrsAt]
 |s::t,i,k+1=>by
  rw[ptrsAt,List.getElem?_cons_succ,U4 g t,List.getElem?_cons_succ]
  rw[show i+1+k=i+(k+1) by omega]
theorem Ux {g i:Nat} {l:List ByteArray} {p:Addr×ByteArray} (h:p∈ptrsAt g i l):∃k s,l[k]? =some s/\p=(⟨g,i+k,none⟩,s):=by
 obtain ⟨k,j⟩:=List.mem_iff_getElem?.1 h;rw[U4] at j;cases hl:l[k]? with
 |none=>rw[hl] at j;cases j
 |some s=>rw[hl] at j;injection j with j;exact ⟨k,s,hl,j.symm⟩
theorem K8 (g:Nat):∀(l:List ByteArray) (i:Nat),(ptrsAt g i l).map (·.2)=l
 | [],_=>rfl
 |s::t,i=>by rw[ptrsAt,Ym,K8 g t]
theorem K7 (g:Nat) (h:ByteArray->ByteArray):∀(l:List ByteArray) (i:Nat),(ptrsAt g i l).map (λp=>(p.1,h p.2))=ptrsAt g i (l.map h)
 | [],_=>rfl
 |s::t,i=>by rw[ptrsAt,Ym,K7 g h t,Ym,ptrsAt]
theorem Q8 (g:Nat):∀(l:List ByteArray) (i:Nat),(ptrsAt g i l).Pairwise λp q=>p.1≠q.1
 | [],_=>List.Pairwise.nil
 |s::t,i=>by
  rw[ptrsAt,Jb]
  refine ⟨λp j=> ?_,Q8 g t _⟩
  obtain ⟨k,s,_,rfl⟩:=Ux j
  intro e
  have h:=Zo Addr.off e
  simp only at h
  omega
def ptrsF (g b:Nat) (l:List ByteArray) (x y z:ByteArray):List (Addr×ByteArray):=ptrsAt g 0 l++ [(⟨b,1,none⟩,x),(⟨b,2,none⟩,y),(⟨b,3,none⟩,z)]
theorem ZdI (g b:Nat) (l:List ByteArray) (x y z:ByteArray):(ptrsF g b l x y z).length=l.length+3:=by unfold ptrsF;rw[Zj,U5];rfl
theorem Gx (g b:Nat) (l:List ByteArray) (x y z:ByteArray):(ptrsF g b l x y z).map (·.2)=l++ [x,y,z]:=by unfold ptrsF;rw[Yp,K8];rfl
theorem ZdJ (g b:Nat) (h:ByteArray->ByteArray) (l:List ByteArray) (x y z:ByteArray):(ptrsF g b l x y z).map (λp=>(p.1,h p.2))=ptrsF g b (l.map h) (h x) (h y) (h z):=by unfold ptrsF;rw[Yp,K7];rfl
theorem GR {g b:Nat} (h:g≠b) (l:List ByteArray) (x y z:ByteArray):(ptrsF g b l x y z).Pairwise λp q=>p.1≠q.1:=by
 unfold ptrsF;rw[List.pairwise_append];refine ⟨Q8 g l 0,by simp,λp C q j=> ?_⟩;obtain ⟨k,s,_,rfl⟩:=Ux C;simp only[ZG,YD,YK] at j;intro e;have A:=Zo Addr.block e;rcases j with rfl|rfl|rfl<;>exact h A
theorem ED {g b:Nat} {l:List ByteArray} {x y z:ByteArray} {p:Addr×ByteArray} (h:p∈ptrsF g b l x y z):p.1.block=g\/p.1.block=b:=by
 unfold ptrsF at h;rcases ZZ.1 h with h|h
 ·obtain ⟨k,s,_,rfl⟩:=Ux h;exact Or.inl rfl
 ·simp only[ZG,YD,YK] at h;rcases h with rfl|rfl|rfl<;>exact Or.inr rfl
theorem ZdK {w w1:World} {g b cap:Nat} {A:Option Addr} {l:List ByteArray} {x y z x0 y0 z0:ByteArray} {p e t:Value} {ll:List ByteArray} (F:g≠b) (hl:ll.length=l.length)
 (hA:0<l.length->A=some ⟨g,0,none⟩) (hr:RStrs w (.slice A l.length cap) ll)
 (U:w.cell? ⟨b,0,none⟩=some p) (V:w.cell? ⟨b,1,none⟩=some (.string x0)) (X:w.cell? ⟨b,2,none⟩=some (.string y0)) (Y:w.cell? ⟨b,3,none⟩=some (.string z0)) (Z:w.cell? ⟨b,4,none⟩=some t) (h5:w.cell? ⟨b,5,none⟩=some e)
 (R:Ext (setS w (ptrsF g b l x y z)) w1):
 RStrs w1 (.slice A l.length cap) l/\w1.cell? ⟨b,0,none⟩=some p/\w1.cell? ⟨b,1,none⟩=some (.string x)/\w1.cell? ⟨b,2,none⟩=some (.string y)/\w1.cell? ⟨b,3,none⟩=some (.string z)/\w1.cell? ⟨b,4,none⟩=some t/\w1.cell? ⟨b,5,none⟩=some e:=by
 have O:=GR F l x y z;have D:∀(i:Nat) (u:Value),(i=0\/i=4\/i=5)->w.cell? ⟨b,i,none⟩=some u->w1.cell? ⟨b,i,none⟩=some u:=by
  intro i u hi h;refine R.cell ?_;rw[Uy _ _ _ λq C=> ?_]
  ·exact h
  ·unfold ptrsF at C;rcases ZZ.1 C with C|C
   ·obtain ⟨k,s,_,rfl⟩:=Ux C;intro e;exact F (Zo Addr.block e)
   ·simp only[ZG,YD,YK] at C;intro e;have S:=Zo Addr.off e;rcases C with rfl|rfl|rfl<;>simp only at S<;>omega
 have H:∀(q:Addr×ByteArray) (u:Value),q∈ptrsF g b l x y z->w.cell? q.1=some u->w1.cell? q.1=some (.string q.2):=λq u C h=>R.cell (EJ _ _ q u C O h);refine ⟨?_,D 0 p (Or.inl rfl) U,H (⟨b,1,none⟩,x) _ (by simp[ptrsF]) V,H (⟨b,2,none⟩,y) _ (by simp[ptrsF]) X,H (⟨b,3,none⟩,z) _ (by simp[ptrsF]) Y,D 4 t (Or.inr (Or.inl rfl)) Z,D 5 e (Or.inr (Or.inr rfl)) h5⟩;obtain ⟨q1,A',c',e1,q2,q3,q4,q5⟩:=hr;injection e1 with e1 e2 e3;subst e1 e3;refine ⟨by simp,A,cap,rfl,by omega,q3,q4,λj u h=> ?_⟩;rw[ZT] at h;cases hlj:l[j]? with
 |none=>rw[hlj] at h;cases h
 |some s=>
  rw[hlj] at h;injection h with h;subst h;have hb:j<l.length:=(ZE.1 hlj).1;have I:=hA (by omega);subst I;refine ⟨_,rfl,?_⟩;have G:j<ll.length:=by omega
  obtain ⟨ad,J,Q⟩:=q5 j (.string ll[j]) (by rw[ZT,Zc G];rfl);injection J with J;subst J;have K:(⟨g,0,none⟩:Addr).add j=⟨g,j,none⟩:=by unfold Addr.add;split<;>simp_all
  rw[K] at Q|-;refine H (⟨g,j,none⟩,s) _ ?_ Q;unfold ptrsF;refine List.mem_append_left _ (List.mem_iff_getElem?.2 ⟨j,?_⟩);rw[U4,hlj];simp
theorem Vk:∀(l:List (Addr×ByteArray)) (w:World) (k:Nat),(∀p∈l,p.1.block≠k)->(setS w l).heap[k]? =w.heap[k]?
 | [],_,_,_=>rfl
 |p::t,w,k,h=>by
  rw[setS,Vk t _ k λq j=>h q (by simp[j])]
  simp only[World.setCell,YZ]
  rw[Zf (h p (by simp))]
theorem V6 (w:World) (a:Addr) (v:Value):w.grownBy (w.setCell a v) (some a.block):=
 ⟨rfl,rfl,rfl,by simp[World.setCell],λk _ h=>Zs w a k v λe=>h (by rw[e])⟩
theorem Yh (w:World) (g:Nat) (cs:Array Value):w.grownBy (w.setRow g cs) (some g):=
 ⟨rfl,rfl,rfl,by simp[World.setRow],λk _ h=>ZD w g k cs λe=>h (by rw[e])⟩
theorem ZeG {W:World} {B g b cap:Nat} {A:Option Addr} {v:Value} {l:List ByteArray} {x y z:ByteArray} (F:g≠b) (R:0<l.length->A=some ⟨g,0,none⟩)
 (j:W.ownsRow B 9 1 (.slice A l.length cap) l.length (l.map Value.string))
 (K:W.cell? ⟨b,1,none⟩=some (.string x)) (O:W.cell? ⟨b,2,none⟩=some (.string y)) (Q:W.cell? ⟨b,3,none⟩=some (.string z)) (H:W.frozen? ⟨b,1,none⟩=false) (I:W.frozen? ⟨b,2,none⟩=false) (J:W.frozen? ⟨b,3,none⟩=false)
 (U:∀s∈l++ [x,y,z],s.size<=16777216) (C:RSl W 1 v (l.length+3) ((ptrsF g b l x y z).map λp=>Value.pointer (some p.1))):Ptrs W v (ptrsF g b l x y z):=by
 refine ⟨by rw[ZdI];exact C,λp h=> ?_,λp h=> ?_,GR F l x y z⟩
 ·unfold ptrsF at h;rcases ZZ.1 h with h|h
  ·obtain ⟨k,s,G,rfl⟩:=Ux h;have S:k<l.length:=(ZE.1 G).1;have D:=R (by omega);subst D;have V:0+k=k:=(by omega);simp only[V];refine ⟨?_,j.frozenAt k⟩;rw[j.cellAt k (by omega),ZT,G];rfl
  ·simp only[ZG,YD,YK] at h;rcases h with rfl|rfl|rfl
   ·exact ⟨K,H⟩
   ·exact ⟨O,I⟩
   ·exact ⟨Q,J⟩
 ·refine U _ ?_;have:p.2∈(ptrsF g b l x y z).map (·.2):=Yq.2 ⟨p,h,rfl⟩
  rwa [Gx] at this
theorem Zbi (g:Nat) (l:List ByteArray) (k:Nat) (j:k<l.length):((ptrsAt g 0 l).take (k+1)).map (λp=>Value.pointer (some p.1))=((ptrsAt g 0 l).take k).map (λp=>Value.pointer (some p.1))++ [.pointer (some ⟨g,k,none⟩)]:=by
 have h:k<(ptrsAt g 0 l).length:=by rw[U5];exact j
 rw[Zy h,Yp];have e:=U4 g l 0 k;rw[Zc h,Zc j] at e;injection e with e;rw[e];simp
theorem Kw:∀(l:List Ent) (k:Nat) (j:k<l.length),(∀e∈l.take k,errE e=0)->errE l[k]≠0->errEs l=errE l[k]
 | [],k,j,_,_=>by simp at j
 |e::t,0,_,_,h=>by simp only[errEs];rw[Zf (by simpa using h)];rfl
 |e::t,k+1,j,h,h2=>by
  simp only[errEs]
  rw[Zi (h e (by simp)),Kw t k (by simpa using j) (λx A=>h x (by simp[A])) (by simpa using h2)]
  rfl
theorem Jf {w:World} {g n c:Nat} {A:Option Addr} {l:List ByteArray} (x:ByteArray) (S:n=l.length) (K:0<l.length->A=some ⟨g,0,none⟩) (h:RStrs w (.slice A n c) l) (O:l.length<=9223372036854775807):
 Calls prog 75 #[.slice A n c,.string x] w λe w'=>e= .returned (.bool (l.any λs=>decide (s=x)))/\w'=w:=by
 subst S;rcases YP l.length with D|D
 ·have R:=ZI D;subst R;exact slices_Contains_string_empty A c x w
 ·have F:=K D;subst F;have Q:∀j,j<l.length->w.cell? ⟨g,0+j,none⟩=some (.string (l.getD j ByteArray.empty)):=by intro j I;obtain ⟨_,V,X,e,_,_,_,q⟩:=h;injection e with e1 e2 e3;subst e1;obtain ⟨ad,G,C⟩:=q j (.string l[j]) (by rw[ZT,Zc I];rfl);injection G with G;subst G;have H:(⟨g,0,none⟩:Addr).add j=⟨g,0+j,none⟩:=(by unfold Addr.add;split<;>simp_all);rw[H] at C;rw[C,YA,Zc I];rfl
  refine (slices_Contains_string g 0 l.length c l x w (Zd _) O Q).mono ?_;rintro e w' ⟨rfl,rfl⟩;refine ⟨?_,rfl⟩;rw[ZC (Zd _)];refine Zo (λb=>Ending.returned (.bool b)) ?_;rw[Xf,Lib.containsS_iff,IC];constructor
  ·intro h;exact ⟨x,h,by simp⟩
  ·rintro ⟨s,U,e⟩;have J:s=x:=(by simpa using e);rw[<-J];exact U
def laysSlF06_f126_ren:Go.Shelf.Ren:=⟨fun|6=>126|15=>169|14=>168|28=>200|29=>186|20=>192|21=>193|22=>194|23=>195|24=>196|25=>197|26=>198|27=>199|46=>208|47=>209|48=>210|49=>211|50=>212|57=>213|n=>n,fun|22=>30|24=>64|25=>104|3=>3|39=>225|0=>0|53=>232|55=>209|4=>4|46=>238|45=>237|50=>220|5=>5|9=>9|66=>252|70=>256|76=>262|77=>77|n=>n,fun|n=>n⟩
theorem laysSlF06_f126:Go.Proofs.SlLaysF0.n6 prog laysSlF06_f126_ren:={
 mixed:=by kernel_rfl
 f6:=⟨f126.name,by decide,func126.trans (Zo some (by kernel_rfl))⟩
 f14:=⟨f168.name,by decide,func168.trans (Zo some (by kernel_rfl))⟩
 f15:=func169.trans (Zo some (by kernel_rfl))
 f20:=⟨f192.name,by decide,func192.trans (Zo some (by kernel_rfl))⟩
 f21:=⟨f193.name,by decide,func193.trans (Zo some (by kernel_rfl))⟩
 f22:=⟨f194.name,by decide,func194.trans (Zo some (by kernel_rfl))⟩
 f23:=⟨f195.name,by decide,func195.trans (Zo some (by kernel_rfl))⟩
 f24:=⟨f196.name,by decide,func196.trans (Zo some (by kernel_rfl))⟩
 f25:=⟨f197.name,by decide,func197.trans (Zo some (by kernel_rfl))⟩
 f26:=⟨f198.name,by decide,func198.trans (Zo some (by kernel_rfl))⟩
 f27:=⟨f199.name,by decide,func199.trans (Zo some (by kernel_rfl))⟩
 f28:=func200.trans (Zo some (by kernel_rfl))
 f29:=func186.trans (Zo some (by kernel_rfl))
 f46:=⟨f208.name,by decide,func208.trans (Zo some (by kernel_rfl))⟩
 f47:=func209.trans (Zo some (by kernel_rfl))
 f48:=func210.trans (Zo some (by kernel_rfl))
 f49:=⟨f211.name,by decide,func211.trans (Zo some (by kernel_rfl))⟩
 f50:=⟨f212.name,by decide,func212.trans (Zo some (by kernel_rfl))⟩
 f57:=⟨f213.name,by decide,func213.trans (Zo some (by kernel_rfl))⟩
 t0:=underlying0
 a0:=isAgg0
 z0:=sizeOf0
 v0:=zeroValue0
 t3:=underlying3
 a3:=isAgg3
 z3:=sizeOf3
 v3:=zeroValue3
 t4:=underlying4
 a4:=isAgg4
 z4:=sizeOf4
 v4:=zeroValue4
 t5:=underlying5
 a5:=isAgg5
 z5:=sizeOf5
 v5:=zeroValue5
 t9:=underlying9
 a9:=isAgg9
 z9:=sizeOf9
 v9:=zeroValue9
 t22:=underlying30
 a22:=isAgg30
 z22:=sizeOf30
 v22:=zeroValue30
 t25:=underlying104
 a25:=isAgg104
 z25:=sizeOf104
 v25:=zeroValue104
 t39:=underlying225
 a39:=isAgg225
 z39:=sizeOf225
 v39:=zeroValue225
 t45:=underlying237
 a45:=isAgg237
 z45:=sizeOf237
 v45:=zeroValue237
 t46:=underlying238
 a46:=isAgg238
 z46:=sizeOf238
 v46:=zeroValue238
 t50:=underlying220
 a50:=isAgg220
 z50:=sizeOf220
 v50:=zeroValue220
 t53:=underlying232
 a53:=isAgg232
 z53:=sizeOf232
 v53:=zeroValue232
 t55:=underlying209
 a55:=isAgg209
 z55:=sizeOf209
 v55:=zeroValue209
 t66:=underlying252
 a66:=isAgg252
 z66:=sizeOf252
 v66:=zeroValue252
 t70:=underlying256
 a70:=isAgg256
 z70:=sizeOf256
 v70:=zeroValue256
 t76:=underlying262
 a76:=isAgg262
 z76:=sizeOf262
 v76:=zeroValue262
 t77:=underlying77
 a77:=isAgg77
 z77:=sizeOf77
 v77:=zeroValue77}
open Go.RowKit Go.Lib Go.Sort in
theorem slices_SortFunc_f126 {α:Type} [Inhabited α] (k:Nat) (H:∀w,(isAgg 64).run prog w= .ok true w) (R:∀w,(Go.sizeOf 64).run prog w= .ok k w) (enc:α->List Value) (Q:∀x,(enc x).length=k) (J:∀x,∀v∈enc x,v.oneCell'=true) (D:α->α->Int) (O:SWO (ltOf D)) (g:Nat) (cb:Array Value) (h j cap:Nat) (d:Array α) (w:World) (I:∀args w,(callFunc g args).run prog w= .ok (.enter g args) w) (C:CmpLays prog g cb enc k D h j d.size w) (K:HoldsK enc k w h j d) (A:h<w.heap.size) (G:d.size<4611686018427387904):
 Calls prog 126 #[.slice (some ⟨h,j,none⟩) d.size cap,.func (.func g) #[] cb] w λe w'=>
  e= .returned (.tuple #[])/\∃F n os,PermIn 0 d.size d F/\SortedIn (ltOf D) 0 d.size F/\w'=sortWorldK enc k w h j n F os:=AnyQ.slices_SortFunc laysSlF06_f126 k H R enc Q J D O g cb h j cap d w I C K A G
open Go.RowKit Go.Lib Go.Sort in
theorem slices_SortFunc_none_f126 {α:Type} [Inhabited α] (p:Option Addr) (cap:Nat) (h:Value) (w:World):
 Calls prog 126 #[.slice p 0 cap,h] w λe w'=>e= .returned (.tuple #[])/\w'=w:=AnyF.slices_SortFunc_none laysSlF06_f126 p cap h w
section
theorem Gs {α:Type} (enc:α->List Value) (k:Nat) (h:∀x,(enc x).length=k):∀(l:List α),(l.map enc).flatten.length=l.length*k
 | []=>by simp
 |x::l=>by rw[Ym,List.flatten_cons,Zj,h,Gs enc k h l,Zr,Nat.add_mul];omega
section
variable {α:Type} [Inhabited α] (enc:α→List Value) (k:Nat)
theorem ZcK:∀(l:List (List Value)) (i:Nat) (c:List Value) (j:Nat) (u:Value),(∀c∈l,c.length=k)->l[i]? =some c->c[j]? =some u->l.flatten[k*i+j]? =some u
 | [],i,c,j,u,_,h,_=>by simp at h
 |x::l,i,c,j,u,hl,hc,hu=>by
  have C:x.length=k:=hl x (by simp)
  cases i with
  |zero=>
   simp at hc
   subst hc
   have A:j<x.length:=(ZE.mp hu).1
   simpa [List.getElem?_append,A] using (ZE.mp hu).2
  |succ i=>
   have:=ZcK l i c j u (λc h=>hl c (by simp[h])) (by simpa using hc) hu
   simp only[List.flatten_cons]
   have e:k*(i+1)+j=x.length+(k*i+j):=(by rw[C,Nat.mul_succ];omega)
   rw[e,ZK (by omega)]
   simpa using this
theorem ZaL (C:∀x,(enc x).length=k) (d:Array α) (t:Nat) (h:t<d.size*k):(d.toList.map enc).flatten[t]? =some ((flatK enc k d)[t]!):=by
 have j:0<k:=by
  rcases YP k with e|e
  ·rw[e] at h;omega
  ·exact e
 have A:t / k<d.size:=Nat.div_lt_of_lt_mul (by rw[Y7];exact h);have G:t % k<k:=Nat.mod_lt _ j;rw[get_flatK enc k d t h];have e1:(enc d[t / k]!)[t % k]? =some (enc d[t / k]!)[t % k]! :=by
  have D:t % k<(enc d[t / k]!).length:=by rw[C];exact G
  rw[getElem!_pos (enc d[t / k]!) (t % k) D,Zc D]
 have e2:(d.toList.map enc)[t / k]? =some (enc d[t / k]!):=by rw[ZT,Zc (by simpa using A)];simp[getElem!_pos d (t / k) A]
 have:=ZcK k (d.toList.map enc) (t / k) _ (t % k) _ (by intro c F;obtain ⟨x,_,rfl⟩:=Yq.1 F;exact C x) e2 e1
 rwa [Nat.div_add_mod] at this
theorem E3 (C:∀x,(enc x).length=k) {w:World} {B:Nat} {e:TypeId} {g cap:Nat} {d:Array α} (h:w.ownsRow B e k (.slice (some ⟨g,0,none⟩) d.size cap) d.size (d.toList.map enc).flatten):HoldsK enc k w g 0 d:=by
 intro j A;rw[size_flatK] at A;rw[Yf];exact ⟨by rw[h.cellAt j A,ZaL enc k C d j A];rfl,h.frozenAt j⟩
theorem Zbh (Q:∀x,(enc x).length=k) {w:World} {B:Nat} {e:TypeId} {g cap m:Nat} {d A:Array α} {os:Array Obj} (h:w.ownsRow B e k (.slice (some ⟨g,0,none⟩) d.size cap) d.size (d.toList.map enc).flatten) (H:A.size=d.size):
 (sortWorldK enc k w g 0 m A os).ownsRow B e k (.slice (some ⟨g,0,none⟩) d.size cap) d.size (A.toList.map enc).flatten/\w.grownBy (sortWorldK enc k w g 0 m A os) (some g):=by
 rcases h.2 with ⟨G,_⟩|⟨g',U,J,G,X,V,F,K,O,S⟩
 ·simp at G
 ·simp only[Value.slice.injEq,ZQ,Addr.mk.injEq,and_true,true_and] at G;obtain ⟨rfl,rfl⟩:=G;have D:g<w.heap.size:=(Ze.1 V).1;have Z:d.size*k<=cap*k:=Nat.mul_le_mul_right k F;have C:(sortWorldK enc k w g 0 m A os).heap[g]? =some (.cells (putCells id 0 (flatK enc k A) J) e):=by unfold sortWorldK putRowK putRow mapBlock grow;rw[Array.getElem?_append_left (by simpa [Sort.ahead] using D),YZ,Zi rfl];show Option.map _ (w.heap[g]?)=_;rw[V];rfl
  refine ⟨⟨by rw[Gs enc k Q];simp[H],.inr ⟨g,cap,_,rfl,X,C,F,K,by simpa [putCells] using O,?_⟩⟩,⟨rfl,rfl,rfl,size_sortWorldK_c enc k w g 0 m A os,λj Y R=> ?_⟩⟩
  ·apply List.ext_getElem?;intro t;rw[List.getElem?_take];by_cases I:t<d.size*k
   ·rw[Zi I,ZaL enc k Q A t (by rw[H];exact I)];rw[Array.getElem?_toList];unfold putCells;rw[Array.getElem?_mapIdx,Array.getElem?_eq_getElem (by omega)];simp[H,I]
   ·rw[Zf I,List.getElem?_eq_none (by rw[Gs enc k Q];simp[H];omega)]
  ·unfold sortWorldK putRowK putRow mapBlock grow;rw[Array.getElem?_append_left (by simpa [Sort.ahead] using Y),YZ,Zf (λe=>R (by rw[e]))];rfl
end
theorem Zg3 {α:Type} {c:α->α->Int} (h:IsCmp c):SWO (ltOf c) where
 irrefl x:=by unfold ltOf;rw[h.self];rfl
 trans x y z h1 h2:=by unfold ltOf at*;simp only[Z6] at*;exact h.lt_trans x y z h1 h2
 ntrans x y z h1 h2:=by unfold ltOf at*;simp only[Gf] at*;have:=h.trans z y x (by have:=h.anti y z;omega) (by have:=h.anti x y;omega);have:=h.anti x z;omega
instance:Inhabited Ent:=⟨zeroE⟩
theorem ZgL (w:World):(isAgg 64).run prog w= .ok true w:=by kernel_rfl
theorem Zhg (w:World):(Go.sizeOf 64).run prog w= .ok 5 w:=by kernel_rfl
theorem ZeB (args:Array Value) (w:World):(callFunc 94 args).run prog w= .ok (.enter 94 args) w:=enters_of func94 (by kernel_rfl) rfl args w
attribute [local go_sem ↓] Go.wp_at_zero Go.wp_at_succ
theorem VU (a b:Ent) (w:World):
 Calls prog 94 #[.agg (eCells a).toArray,.agg (eCells b).toArray] w λx w'=>x= .returned (.int .i64 (entCmp a b))/\∃q os,w'=grow (w.drewN q) os:=by
 obtain ⟨D,O,R,I,j⟩:=a;obtain ⟨F,Q,S,J,A⟩:=b;unfold entCmp;obtain ⟨ci,G⟩:∃ci,iCmp A j=ci:=⟨_,rfl⟩;obtain ⟨cs,H⟩:∃cs,sCmp D F=cs:=⟨_,rfl⟩;simp only[G,H];have U:=gd (λw'=>Qi A j w');have X:=gd (λw'=>Km D F w');rw[H] at X;rw[show (if A<j then (-1:Int) else if j<A then 1 else 0)=ci from G] at U;have V:=gd (λv w' h=>Eb ci cs v w' h);obtain ⟨K,C⟩:∃K,(if ci=0 then cs else ci)=K:=⟨_,rfl⟩;rw[C] at V;rw[C];clear G H C;unfold eCells;go_enter func94,ntmps94;go_wp2
 go_region_held3 (λw'=>Ext w w'/\w'.cell? ⟨w.heap.size,0,none⟩=some (.string D)/\w'.cell? ⟨w.heap.size,4,none⟩=some (.int .i64 j)/\w'.cell? ⟨w.heap.size+1,0,none⟩=some (.string F)/\w'.cell? ⟨w.heap.size+1,4,none⟩=some (.int .i64 A))
  ((go_split_ands;refine ⟨?_,?_,?_,?_,?_⟩<;>first|assumption|((repeat (first|exact Ext.refl _|assumption|apply Ext.drew|apply Ext.alloc));done)|((refine Ext.trans ?_ (by assumption));(repeat (first|exact Ext.refl _|assumption|apply Ext.drew|apply Ext.alloc));done)|((refine Ext.cell (by assumption) ?_);first|assumption|(go_keep;done))|(go_keep;done)))
  (first|(go_at_call 137;refine (U.out _).mono ?_;rintro e w1 ⟨rfl,rfl⟩)|(go_at_call 138;refine (X.out _).mono ?_;rintro e w2 ⟨rfl,rfl⟩)|(go_at_call 136;refine (V.out _ _ (UT (e:=3) (fr:=(0,0)) (cs:= [.int .i64 ci,.int .i64 cs]) ?hg (by rfl) (by decide))).mono ?_;(case hg=>exact Xl w _ _ _);rintro e Y ⟨rfl,rfl⟩))
 go_wp2;go_ret;exact ⟨rfl,1,_,by rw[alloc_eq_grow,alloc_eq_grow,alloc_eq_grow,grow_grow,grow_grow];rfl⟩
theorem Zd8 (v:Value) (l:List Ent) (w:World) (B:Nat) (h:OEnts w B v l) (hn:l.length<=1000000):
 Calls prog 126 #[v,.func (.func 94) #[] #[]] w λe w'=>e= .returned (.tuple #[])/\
  ∃J:List Ent,J.Perm l/\J.Pairwise (λa b=>ordE.lt b a=false)/\OEnts w' B v J/\w.grownBy w' v.ownBlock:=by
 rcases YP l.length with G|G
 ·have I:l= []:=ZI G;subst I;obtain ⟨A,c,rfl,_,_⟩:=h.reads.form;refine (slices_SortFunc_none_f126 (α:=Ent) A c _ w).mono ?_;rintro e w' ⟨rfl,rfl⟩;exact ⟨rfl,[],List.Perm.refl _,List.Pairwise.nil,h,World.grownBy.refl _ _⟩
 ·obtain ⟨g,cap,rfl,hb,X⟩:=World.ownsRow.form h G;have K:w.ownsRow B 64 5 (.slice (some ⟨g,0,none⟩) l.toArray.size cap) l.toArray.size (l.toArray.toList.map eCells).flatten:=by simpa [OEnts,flatE] using h
  have U:=slices_SortFunc_f126 5 ZgL Zhg eCells (λ_=>rfl) (λx=>Z1 x) entCmp (Zg3 VG) 94 #[] g 0 cap l.toArray w ZeB
   (λm os dk V x y=>VU x y _) (E3 eCells 5 (λ_=>rfl) K) X (by simp;omega)
  refine U.mono ?_;rintro e w' ⟨rfl,D,n,os,S,Z,rfl⟩;have F:D.size=l.toArray.size:=S.1;have R:=Zbh eCells 5 (λ_=>rfl) (m:=n) (os:=os) K F;have C:D.toList.Perm l:=by
   have:=S.2.2;have I:l.length=D.toList.length:=(by simpa using F.symm);simp at this
   rwa [I,ZC (Zd _)] at this
  refine ⟨rfl,D.toList,C,?_,?_,R.2⟩
  ·rw[Xj];intro i j Y Q H;have O:=Z i j (Zt _) H (by rw[<-F];simpa using Q);rw[getElem!_pos D j (by simpa using Q),getElem!_pos D i (by simpa using Y)] at O;simpa [ltOf,ordE,ltE] using O
  ·unfold OEnts;have e1:D.toList.length=l.length:=C.length_eq;rw[e1];have:=R.1;simpa [flatE] using this
end
theorem Zfx:prog.underlying 30=some (.slice (prog.elem 30)):=by kernel_rfl
theorem Zgl (w:World):(Go.sizeOf (prog.elem 30)).run prog w= .ok 5 w:=by kernel_rfl
theorem Zhh {w:World} {A:Option Addr} {c:Nat} {x:Ent} {t:List Ent} (h:REnts w (.slice A (t.length+1) c) (x::t)):
 ∃v',(∀F:World,(Instr.slice 30 (.slice A (t.length+1) c) (some (.int .i64 1)) none none).run prog F= .ok v' F)/\REnts w v' t:=by
 refine ⟨sliced A 1 (t.length+1) c 5,λF=> ?_,?_⟩
 ·rw[run_slice_l (P:=prog) (w:=F) 30 A (t.length+1) c Zfx .i64 1 (by omega) (by omega)];rw[Zgl];rfl
 ·obtain ⟨J,V,X,e,K,H,O,Q⟩:=h;injection e with e1 e2 e3;subst e1 e3;clear e2;have S:(flatE t).length=t.length*5:=by have:(flatE (x::t)).length=(t.length+1)*5:=(by simpa using J);have e:flatE (x::t)=eCells x++flatE t:=(by unfold flatE;simp);rw[e,Zj] at this;have e5:(eCells x).length=5:=rfl;omega
  refine ⟨S,?_⟩;have C:∀j u,(flatE t)[j]? =some u->∃ad,A=some ad/\w.cell? (ad.add (5+j))=some u:=by intro j u D;refine Q (5+j) u ?_;have e:flatE (x::t)=eCells x++flatE t:=(by unfold flatE;simp);rw[e,ZK (by show 5<=5+j;omega)];simpa [eCells] using D
  unfold sliced;have Y:t.length+1<=c:=by simpa using K
  by_cases R:c=1
  ·have U:t= []:=ZI (by omega);subst U;exact ⟨_,_,rfl,by simp,Zl (Nat.sub_le _ _) H,λ_=>by omega,λj u D=>by simp[flatE] at D⟩
  ·cases A with
   |none=>have:=O rfl;omega
   |some ad=>refine ⟨some (ad.add 5),c - 1,by rw[Zf R];rfl,by omega,Zl (Nat.sub_le _ _) H,(λe=>by cases e),λj u D=>⟨_,rfl,?_⟩⟩;obtain ⟨I,e,G⟩:=C j u D;injection e with e;subst e;rw[IU];exact G
def jE (l:List Ent) (s:ByteArray):Ent:=(ordE.got l s).getD zeroE
theorem KO (l:List Ent):ordE.joined l=(ordE.firsts l).map (jE l):=by
 have key:∀fs:List ByteArray,(∀s∈fs,s∈ordE.firsts l)->fs.filterMap (ordE.got l)=fs.map (jE l):=by
  intro fs
  induction fs with
  |nil=>intro _;rfl
  |cons s t ih=>intro h;obtain ⟨x,A⟩:=(Ord.got_isSome_iff (O:=ordE) l s).2 ((ordE.mem_firsts l s).1 (h s (by simp)));rw[List.filterMap_cons_some A,Ym,ih λs j=>h s (by simp[j])];unfold jE;rw[A];rfl
 exact key _ λs j=>j
theorem Zf4 {l:List Ent} {s:ByteArray} {x:Ent} {t:List Ent} (h:grp l s=x::t):jE l s=t.foldl laterE x:=by
 unfold jE Ord.got;have j:(l.filter λx=>decide (ordE.id x=s))=x::t:=h;rw[j];rfl
theorem ZeN {l:List Ent} {s:ByteArray} (h:s∈ordE.firsts l):∃x t,grp l s=x::t:=by
 obtain ⟨x,j,e⟩:=(ordE.mem_firsts l s).1 h;have:x∈grp l s:=by unfold grp;exact Jp.2 ⟨j,by simpa using e⟩
 cases hg:grp l s with
 |nil=>rw[hg] at this;simp at this
 |cons y t=>exact ⟨y,t,rfl⟩
theorem ZaM:∀(t:List Ent) (x:Ent),eok x->(∀y∈t,eok y)->eok (t.foldl laterE x)
 | [],_,h,_=>h
 |y::t,x,h,ht=>ZaM t _ (KS h (ht y (by simp))) λz j=>ht z (by simp[j])
def LatE:Prop:=∀(a b:Ent) (w:World),Env w->eok a->eok b->Calls prog 125 #[.agg (eCells a).toArray,.agg (eCells b).toArray] w λx w'=>x= .returned (.agg (eCells (laterE a b)).toArray)/\Ext w w'
theorem Zhp:LatE:=λa b w h j A=>KT a b w h j A
theorem ER (v:Value) (l:List Ent) (w:World) (hE:Env w) (h:REnts w v l) (hl:∀x∈l,eok x) (hn:l.length<=1000000) (h5:l.length<=1\/LatE):
 Calls prog 78 #[v] w λx w'=>∃v',x= .returned v'/\OEnts w' w.heap.size v' (ordE.canon l)/\Ext w w':=by
 obtain ⟨i0,gE,gM,gN,gO⟩:=Yr XB;have h1:=gd (ZaN v l w h (λx hx=>by have:=(hl x hx).2;omega) hn);have gf:=gd (Kz l);have HL:=gd hl;have gi:=gd h5;clear hl h5;go_enter func78,ntmps78
 go_wp2_with (go_at_call 123;refine (h1.out).mono ?_;rintro e w1 ⟨v1,gv,rfl,hG,hX⟩;(obtain ⟨A1,c1,hV⟩:=hG.form);subst hV)
 have h8:=hG.len;have gz:=gf.out;have gC:gv.length<=1000000:=by omega
 have HG:=gd hG;have hj:=gd h8;clear hG h8 gz;go_loopw [3,12] (λo i wr=>∃k:Nat,k<=gv.length/\i= .int .i64 k/\OEnts wr w1.heap.size o (((ordE.firsts l).take k).map (jE l))/\Ext w1 wr) (λ_ i _=>gv.length - (intOf i).toNat)
 case atStart=>exact ⟨0,Zt _,rfl,OEnts.nil _ _,Ext.refl _⟩
 case round=>
  obtain ⟨k,hk,rfl,K,hx⟩:=hrel;by_cases hP:k<gv.length
  ·have hf:=HG.out.ext hx;obtain ⟨g,cap,hv,_,_⟩:=hf.row.form (by omega);injection hv with hV hv2 hv3;subst hV;have gB:wr.cell? ⟨g,k,none⟩=some gv[k]:=(by rw[hv3] at hf;rw[hf.row.cellAt k (by omega)];exact Zc hP);have U:k<(ordE.firsts l).length:=(by rw[<-hj.out];exact hP);have hw:(ordE.firsts l)[k]∈ordE.firsts l:=ZO U;have Z:=hf.each k (ordE.firsts l)[k] gv[k] (Zc U) (Zc hP);obtain ⟨x,t,S⟩:=ZeN hw;have h9:=Zf4 S;rw[S] at Z;have hU:((ordE.firsts l).take (k+1)).map (jE l)=((ordE.firsts l).take k).map (jE l)++ [jE l (ordE.firsts l)[k]]:=(by rw[Zy U,Yp];rfl);rw[h9] at hU;have gm:=gd hU;have hC:∀y∈x::t,eok y:=λy hy=>HL.out y (by rw[<-S] at hy;exact (Jp.1 hy).1);have hB:t.length+1<=l.length:=(by have:=ZcL l (ordE.firsts l)[k];rw[S] at this;simpa using this);have gV:t.length+1<=1000000:=(by omega);have h3:=gd hB;clear hB;obtain ⟨u,hu⟩:∃u,gv[k]=u:=⟨_,rfl⟩;rw[hu] at Z gB;obtain ⟨A2,c2,gH,_,_⟩:=Z.reads.form;subst gH;have hA:REnts wr (.slice A2 (t.length+1) c2) (x::t):=Z.reads;obtain ⟨v2,gU,hI⟩:=Zhh hA;obtain ⟨ad,c3,gI,Y⟩:=Z.reads.at (k:=0) (by simp);injection gI with hv5 hv6 hv7;subst hv5;rw[Nat.zero_mul] at Y;have hh:ad.add 0=ad:=add_zero ad;rw[hh] at Y;obtain ⟨a0,a1,a2,a3,a4⟩:=Y;simp only[List.getElem_cons_zero] at a0 a1 a2 a3 a4;have gj:=gd hI;have hD:=gd hC;obtain ⟨A3,c4,gJ,_,_⟩:=hI.form;subst gJ;have gR:=gd hu;clear hf hv2 hv3 hv6 hv7 hw S h9 hU Z hA hC hI hu hh U;obtain ⟨R,gK⟩:∃R:World,R=wr:=⟨_,rfl⟩;subst gK;have gx:=gj.out;go_wp2;go_loopw [22] (λi w2=>∃m:Nat,m<=t.length/\i= .int .i64 m/\Ext (R.alloc (.cells (eCells ((t.take m).foldl laterE x)).toArray 64)) w2) (λi _=>t.length - (intOf i).toNat)
   case atStart=>exact ⟨0,Zt _,rfl,by dsimp only[List.take_zero,List.foldl_nil];exact Ext.refl _⟩
   case round=>
    obtain ⟨m,hm,rfl,H⟩:=hrel;have X:Ext R wr:=((Ext.refl R).alloc _).trans H;by_cases ga:m<t.length
    ·obtain ⟨gS,c5,hW,Y⟩:=(gx.ext X).at ga;injection hW with hW hv10 hv11;subst hW;clear hv10 hv11;have hL:(t.take (m+1)).foldl laterE x=laterE ((t.take m).foldl laterE x) t[m]:=(by rw[Zy ga,List.foldl_append];rfl);have hK:=ZaM (t.take m) x (hD.out x (by simp)) λy hy=>hD.out y (EN _ (Zhr hy));have hY:=hD.out t[m] (by simp);obtain ⟨E,hH⟩:∃E,(t.take m).foldl laterE x=E:=⟨_,rfl⟩;obtain ⟨y,hy⟩:∃y,t[m]=y:=⟨_,rfl⟩;rw[hH,hy] at hL;rw[hH] at hK H;rw[hy] at hY Y;have gg:=gd hL;have ho:=gd (λ(w':World) (gt:Env w')=>(gi.out.resolve_left (by have:=h3.out;omega)) E y w' gt hK hY);obtain ⟨r,hr⟩:∃r,laterE E y=r:=⟨_,rfl⟩;have HR:=gd hr;rw[hr] at ho;have gu:Env wr:=hE.ext (hX.trans (hx.trans X));have h6:=λ(d:World) (hd:Ext wr d)=>(H.trans hd).heap (Zh R _);have ge:=gd h6;have gn:=gd H;clear hL hH hy hr hK hY h6;obtain ⟨h4,V,he,I,ht⟩:=E;obtain ⟨G,A,C,j,D⟩:=y;obtain ⟨go,gp,gq,gr,gs⟩:=Y;simp only at go gp gq gr gs;have gQ:(0:Int)<=(m:Int):=(by omega);have gT:(m:Int)<(t.length:Int):=(by omega);have ha:Ext (R.alloc (.cells (eCells ⟨h4,V,he,I,ht⟩).toArray 64)) (wr.alloc (.cells #[.string G,.string A,.string C,.string j,.int .i64 D] 64)):=H.alloc _;have hb:Ext (wr.alloc (.cells (eCells ⟨G,A,C,j,D⟩).toArray 64)) (wr.alloc (.cells #[.string G,.string A,.string C,.string j,.int .i64 D] 64)):=Ext.refl _;have e0:(wr.alloc (.cells #[.string G,.string A,.string C,.string j,.int .i64 D] 64)).cell? ⟨R.heap.size,0,none⟩=some (.string h4):=ha.boxed 0 _ rfl;have e1:(wr.alloc (.cells #[.string G,.string A,.string C,.string j,.int .i64 D] 64)).cell? ⟨R.heap.size,1,none⟩=some (.string V):=ha.boxed 1 _ rfl;have e2:(wr.alloc (.cells #[.string G,.string A,.string C,.string j,.int .i64 D] 64)).cell? ⟨R.heap.size,2,none⟩=some (.string he):=ha.boxed 2 _ rfl;have e3:(wr.alloc (.cells #[.string G,.string A,.string C,.string j,.int .i64 D] 64)).cell? ⟨R.heap.size,3,none⟩=some (.string I):=ha.boxed 3 _ rfl;have e4:(wr.alloc (.cells #[.string G,.string A,.string C,.string j,.int .i64 D] 64)).cell? ⟨R.heap.size,4,none⟩=some (.int .i64 ht):=ha.boxed 4 _ rfl;have y0:(wr.alloc (.cells #[.string G,.string A,.string C,.string j,.int .i64 D] 64)).cell? ⟨wr.heap.size,0,none⟩=some (.string G):=hb.boxed 0 _ rfl;have y1:(wr.alloc (.cells #[.string G,.string A,.string C,.string j,.int .i64 D] 64)).cell? ⟨wr.heap.size,1,none⟩=some (.string A):=hb.boxed 1 _ rfl;have y2:(wr.alloc (.cells #[.string G,.string A,.string C,.string j,.int .i64 D] 64)).cell? ⟨wr.heap.size,2,none⟩=some (.string C):=hb.boxed 2 _ rfl;have y3:(wr.alloc (.cells #[.string G,.string A,.string C,.string j,.int .i64 D] 64)).cell? ⟨wr.heap.size,3,none⟩=some (.string j):=hb.boxed 3 _ rfl;have y4:(wr.alloc (.cells #[.string G,.string A,.string C,.string j,.int .i64 D] 64)).cell? ⟨wr.heap.size,4,none⟩=some (.int .i64 D):=hb.boxed 4 _ rfl;have gw:Env (wr.alloc (.cells #[.string G,.string A,.string C,.string j,.int .i64 D] 64)):=gu.ext ((Ext.refl wr).alloc _);unfold eCells at ho;dsimp only at ho;clear ha hb
     go_wp2_with (first|(refine Zg rfl 64 (.tmp 6) (.tmp 28) rfl R.heap.size _ rfl rfl _ _ gy Z7 rfl (UD (Z1 r)) ?_)|(go_at_call 125;refine (ho.out _ gw).mono ?_;rintro e w3 ⟨rfl,hq⟩;(have gL:=gn.out.trans (((Ext.refl wr).alloc _).trans hq));(have gy:=ge.out w3 (((Ext.refl wr).alloc _).trans hq))))
     go_roundw
     case rel=>have hR:=HR.out;have hF:=gg.out;refine ⟨m+1,by omega,by go_num,?_⟩;rw[hF,hR];exact Kx gL
     case measure=>simp[intOf];omega
    ·have gG:m=t.length:=(by omega);subst gG;rw[ZC (Zd _)] at H;obtain ⟨r,hr⟩:∃r,t.foldl laterE x=r:=⟨_,rfl⟩;rw[hr] at H;have HR:=gd hr;clear hr;have e0:wr.cell? ⟨R.heap.size,0,none⟩=some (.string r.id):=H.boxed 0 _ rfl;have e1:wr.cell? ⟨R.heap.size,1,none⟩=some (.string r.title):=H.boxed 1 _ rfl;have e2:wr.cell? ⟨R.heap.size,2,none⟩=some (.string r.link):=H.boxed 2 _ rfl;have e3:wr.cell? ⟨R.heap.size,3,none⟩=some (.string r.content):=H.boxed 3 _ rfl;have e4:wr.cell? ⟨R.heap.size,4,none⟩=some (.int .i64 r.upd):=H.boxed 4 _ rfl;have Q:=K.ext X;have gc:=hx.trans X;have hN:(((ordE.firsts l).take k).map (jE l)).length=k:=(by have:=hj.out;rw[ZS,YR];omega);unfold OEnts at Q;have hZ:Hid (((((ordE.firsts l).take k).map (jE l)).length+1)*72<=140737488355328):=gd (by rw[hN];omega);have h2:Hid ((((ordE.firsts l).take k).map (jE l)).length+1<=maxLen):=gd (by rw[hN];unfold maxLen;omega);obtain ⟨O,hO⟩:∃O,((ordE.firsts l).take k).map (jE l)=O:=⟨_,rfl⟩;rw[hO] at Q hN hZ h2;have HO:=gd hO;clear hO
     go_wp2_with (first|(at_builtin;refine Zq _ rfl (.tmp 30) (.tmp 32) _ rfl w1.heap.size 64 i0 _ 5 72 underlying30 gE gM gN gO rfl (by decide) _ _ _ rfl (Q.alloc _) _ 1 (eCells r) rfl (ZY rfl (by decide)) (Z1 _) h2.out hZ.out ?_ ?_;(have:=gc.size;simp;omega);intro v3 w3 hQ gA gP;(have hq:Ext w1 w3:=Ext.app (gc.alloc _) gA (Q.alloc _) (Zd _))))
     go_roundw
     case rel=>have hT:=gm.out;have hO:=HO.out;have hR:=HR.out;refine ⟨k+1,by omega,by go_num,?_,hq⟩;rw[hT,hO,hR];exact OEnts.snoc hQ
     case measure=>simp[intOf];omega
  ·have gF:k=gv.length:=(by omega);subst gF;have U:(ordE.firsts l).take gv.length=ordE.firsts l:=ZC (by rw[hj.out];exact Zd _);rw[U,<-KO] at K;have hM:(ordE.joined l).length<=1000000:=(by rw[KO,ZS,<-hj.out];exact gC);have hi:=λl'=>ordE.sorted_joined l l';obtain ⟨J,hJ⟩:∃J,ordE.joined l=J:=⟨_,rfl⟩;rw[hJ] at K hM hi;have h0:=gd hi;have hws:=hX.size;have h7:∀g,u3.ownBlock=some g->w.heap.size<=g:=λg hg=>Zl hws (World.ownsRow.lt K g hg).1;have gb:=Zd8 u3 J wr w1.heap.size K hM;obtain ⟨A9,c9,rfl,_,_⟩:=K.reads.form;have gk:=gd gb;have gh:=gd h7;clear gb hi hJ U hM h7
   go_wp2_with (go_at_call 126;(have hz:=gk.out);(with_reducible refine Za hz ?_);clear hz;rintro e w9 ⟨rfl,l',hp,hs,hS,gD⟩)
   go_ret;have hc:=h0.out l' hp hs;subst hc;exact ⟨_,rfl,hS.mono hws,Ext.grown' (B:=0) (hX.trans hx) gD gh.out⟩
theorem Zax (v:Value) (l:List Ent) (w:World) (j:Env w) (h:REnts w v l) (A:∀x∈l,eok x) (C:l.length<=1000000):
 Calls prog 78 #[v] w λx w'=>∃v',x= .returned v'/\OEnts w' w.heap.size v' (ordE.canon l)/\Ext w w':=ER v l w j h A C (Or.inr Zhp)
theorem Zf2:(prog.info? 129).map (λi=>(i.zero,i.size,i.bytes))=some (some (.pointer none),1,8):=by kernel_rfl
theorem Zgq (l:List ByteArray):∀u∈l.map Value.string,u.oneCell'=true:=by
 intro u h;obtain ⟨s,_,rfl⟩:=Yq.1 h;rfl
def zeroC:Fc:=⟨.slice none 0 0,.slice none 0 0,zeroF⟩
theorem Iy (w:World):RdC w zeroC:=⟨RSl.nil w 1,RSl.nil w 5⟩
theorem Qz (g:Option Nat):awayC zeroC g:=⟨Or.inl rfl,Or.inl rfl⟩
theorem E0 {W:World} {v:Value} {g b:Nat} {l:List ByteArray} {x y z:ByteArray} (D:Env W) (F:Ptrs W v (ptrsF g b l x y z)) (C:firstErr (l++ [x,y,z])≠0):
 Calls prog 74 #[v] W λe w'=>e= .returned (.int .i64 (firstErr (l++ [x,y,z]):Nat))/\Ext W w':=by
 refine (X4 v _ W D F).mono ?_;rintro e w' ⟨j,A⟩;rw[Gx] at j A;exact ⟨j,A.elim (λh=>absurd h.1 C) λh=>h.2⟩
theorem ZaJ {W:World} {v:Value} {g b cap:Nat} {A:Option Addr} {l:List ByteArray} {x y z:ByteArray} {p e t:Value} (Z:Env W) (hP:Ptrs W v (ptrsF g b l x y z)) (F:g≠b)
 (Y:0<l.length->A=some ⟨g,0,none⟩) (hr:RStrs W (.slice A l.length cap) l)
 (J:W.cell? ⟨b,0,none⟩=some p) (R:W.cell? ⟨b,1,none⟩=some (.string x)) (S:W.cell? ⟨b,2,none⟩=some (.string y)) (U:W.cell? ⟨b,3,none⟩=some (.string z)) (V:W.cell? ⟨b,4,none⟩=some t) (X:W.cell? ⟨b,5,none⟩=some e) (Q:W.frozen? ⟨b,5,none⟩=false)
 (hz:firstErr (l++ [x,y,z])=0):
 Calls prog 74 #[v] W λu w'=>u= .returned (.int .i64 0)/\RStrs w' (.slice A l.length cap) (l.map collapse)/\
  (w'.cell? ⟨b,0,none⟩=some p/\w'.cell? ⟨b,1,none⟩=some (.string (collapse x))/\w'.cell? ⟨b,2,none⟩=some (.string (collapse y))/\w'.cell? ⟨b,3,none⟩=some (.string (collapse z))/\w'.cell? ⟨b,4,none⟩=some t/\w'.cell? ⟨b,5,none⟩=some e)/\
  w'.frozen? ⟨b,5,none⟩=false/\(∀a:World,Ext a W->a.heap.size<=g->a.heap.size<=b->Ext a w')/\(∀k o,k≠g->k≠b->W.heap[k]? =some o->w'.heap[k]? =some o):=by
 refine (X4 v _ W Z hP).mono ?_;rintro u w' ⟨O,j⟩;rw[Gx,hz] at O j;rw[ZdJ] at j;rcases j with ⟨_,j⟩|⟨j,_⟩
 ·have C:Ext (setS W (ptrsF g b (l.map collapse) (collapse x) (collapse y) (collapse z))) w':=by unfold Ext;rw[VQ];exact j
  have h:l.length=(l.map collapse).length:=by simp
  have K:=ZdK (l:=l.map collapse) (x:=collapse x) (y:=collapse y) (z:=collapse z) (A:=A) (cap:=cap) (ll:=l) F h (by rw[<-h];exact Y) (by rw[<-h];exact hr) J R S U V X C;rw[<-h] at K;obtain ⟨s0,s1⟩:=K;have D:b<W.heap.size:=YS W _ J;refine ⟨O,s0,s1,?_,λa ha hc hb=> ?_,λk o G H ho=> ?_⟩
  ·rw[XP C (by rw[VQ];exact D),VB];exact Q
  ·refine Ext.trans (Ext.setS _ ha λq I=> ?_) C;rcases ED I with e|e<;>rw[e]<;>assumption
  ·refine C.heap ?_;rw[Vk _ _ _ λq I=> ?_]
   ·exact ho
   ·rcases ED I with e|e<;>rw[e]
    ·exact λe=>G e.symm
    ·exact λe=>H e.symm
 ·exact absurd rfl j
theorem XW (x:Fc) (w:World) (hE:Env w) (hk:fokS x.f) (hr:RdC w x):
 Calls prog 36 #[.agg (cellsC x).toArray] w λe w'=>∃y:Fc,e= .returned (.tuple #[.agg (cellsC y).toArray,.int .i64 (errF x.f:Nat)])/\y.f=normF x.f/\RdC w' y/\(∀g,g<w.heap.size->awayC y (some g))/\Ext w w':=by
 obtain ⟨i0,hJ,hM,hm,hQ⟩:=Yr Zf2;obtain ⟨i1,fC,fH,fI,fJ⟩:=Yr XB;obtain ⟨p,es,f⟩:=x;obtain ⟨F,hF⟩:∃F,f=F:=⟨_,rfl⟩;obtain ⟨EF,gn⟩:∃n,errF F=n:=⟨_,rfl⟩;obtain ⟨NF,go⟩:∃n,normF F=n:=⟨_,rfl⟩;have e1:errF f=EF:=by rw[hF];exact gn
 have e2:normF f=NF:=by rw[hF];exact go
 simp only[e1,e2];have hU:=gd gn;have hR:=gd go;clear e1 e2 gn go;have hp:Hid (∀n,errF F=n->n≠0->normF F=zeroF):=gd λn h h'=>by unfold normF;rw[h,Zf h']
 obtain ⟨path,id,title,link,upd,ents⟩:=f;obtain ⟨gc,gb⟩:=hr;obtain ⟨⟨fG,fa⟩,gW,gu⟩:=hk;simp only at gc gb fa gW gu;have fO:path.length<=16777216:=by omega
 have ft:Hid (∀s∈path++ [id,title,link],s.size<=16777216):=gd (by
  intro s hs;rcases ZZ.1 hs with hs|hs
  ·have:=Xp hs;omega
  ·simp only[ZG,YD,YK] at hs;rcases hs with rfl|rfl|rfl<;>omega)
 have gH:=gd gu;have gE:=gd (λ(w':World) (h:Ext w w')=>Zc1 p path.length (path.map Value.string) w' (gc.ext h) (Zgq path) (by omega));have fo:=gd gb;have HF:=gd hF;obtain ⟨pA,pc,gx,_,_⟩:=gc.form;obtain ⟨eA,ec,fA,_,_⟩:=gb.form;subst gx fA;clear gc gb gu fa fG hF;unfold cellsC fCells;dsimp only;go_enter func36,ntmps36
 go_wp2_with (go_at_call 73;refine (gE.out _ (((Ext.refl w).alloc _).alloc _)).mono ?_;rintro e w1 ⟨p1,rfl,hK,h7⟩;(obtain ⟨A1,S,gx⟩:∃A c,p1= .slice A path.length c:=(by obtain ⟨A,c,e,_⟩:=(RSl.of_own hK).2;exact ⟨A,c,e⟩));subst gx;(have hf:=((Ext.refl _).alloc _).trans h7);(have c0:=hf.boxed 0 _ rfl);(have c1:=hf.boxed 1 _ rfl);(have c2:=hf.boxed 2 _ rfl);(have c3:=hf.boxed 3 _ rfl);(have c4:=hf.boxed 4 _ rfl);(have c5:=hf.boxed 5 _ rfl);(have f0:=hf.boxedF 0);(have f1:=hf.boxedF 1);(have f2:=hf.boxedF 2);(have f3:=hf.boxedF 3);(have f5:=hf.boxedF 5))
 obtain ⟨W1,Q⟩:∃W,W=w1.setCell ⟨w.heap.size,0,none⟩ (.slice A1 path.length S):=⟨_,rfl⟩;rw[<-Q];have hw:w1.ownsRow (w.heap.size+2) 9 1 (.slice A1 path.length S) path.length (path.map Value.string):=Q6 hK (by rw[Zp,Zp];exact Zd _);have b0:W1.cell? ⟨w.heap.size,0,none⟩=some (.slice A1 path.length S):=by rw[Q];exact Qe _ _ _ c0
 have b1:W1.cell? ⟨w.heap.size,1,none⟩=some (.string id):=by rw[Q,YL _ _ _ _ (by simp)];exact c1
 have b2:W1.cell? ⟨w.heap.size,2,none⟩=some (.string title):=by rw[Q,YL _ _ _ _ (by simp)];exact c2
 have b3:W1.cell? ⟨w.heap.size,3,none⟩=some (.string link):=by rw[Q,YL _ _ _ _ (by simp)];exact c3
 have b4:W1.cell? ⟨w.heap.size,4,none⟩=some (.int .i64 upd):=by rw[Q,YL _ _ _ _ (by simp)];exact c4
 have b5:W1.cell? ⟨w.heap.size,5,none⟩=some (.slice eA ents.length ec):=by rw[Q,YL _ _ _ _ (by simp)];exact c5
 have g1:W1.frozen? ⟨w.heap.size,1,none⟩=false:=by rw[Q,XG];exact f1
 have g2:W1.frozen? ⟨w.heap.size,2,none⟩=false:=by rw[Q,XG];exact f2
 have g3:W1.frozen? ⟨w.heap.size,3,none⟩=false:=by rw[Q,XG];exact f3
 have g5:W1.frozen? ⟨w.heap.size,5,none⟩=false:=by rw[Q,XG];exact f5
 have D:W1.ownsRow (w.heap.size+2) 9 1 (.slice A1 path.length S) path.length (path.map Value.string):=by rw[Q];exact ownsRow_setCell_other hw (a:=⟨w.heap.size,0,none⟩) (λe=>absurd (hw.lt _ e).1 (show ¬(w.heap.size+2<=w.heap.size) by omega)) _
 have fc:W1.heap[w.heap.size+1]? =some (.cells #[.slice none 0 0,.string ⟨#[]⟩,.string ⟨#[]⟩,.string ⟨#[]⟩,.int .i64 0,.slice none 0 0] 32):=by
  rw[Q,Zs _ _ _ _ (by simp)];refine h7.heap ?_;have:=Zh (w.alloc (.cells #[.slice pA path.length pc,.string id,.string title,.string link,.int .i64 upd,.slice eA ents.length ec] 32)) (.cells #[.slice none 0 0,.string ⟨#[]⟩,.string ⟨#[]⟩,.string ⟨#[]⟩,.int .i64 0,.slice none 0 0] 32)
  rwa [Zp] at this
 have gC:Ext w W1:=by rw[Q];exact Ext.setCell ((((Ext.refl w).alloc _).alloc _).trans h7) (Zd _) _
 have gQ:=hE.ext gC;have fR:w.heap.size+2<=W1.heap.size:=by rw[Q];have:=h7.size;rw[Zp,Zp] at this;show w.heap.size+2<=(w1.heap.modify _ _).size;rw[Array.size_modify];exact this
 obtain ⟨g,gX,fN⟩:∃g,(0<path.length->A1=some ⟨g,0,none⟩)/\w.heap.size+2<=g:=by
  rcases YP path.length with h0|h0
  ·exact ⟨w.heap.size+2,λh=>by omega,Zd _⟩
  ·obtain ⟨g,cap,e,hb,_⟩:=World.ownsRow.form D h0;injection e with e1 e2 e3;exact ⟨g,λ_=>e1,hb⟩
 have gf:=gd D;have hu:=gd gX;have ho:=gd gC;have gJ:=gd gQ;clear Q hK hw D c0 c1 c2 c3 c4 c5 f0 f1 f2 f3 f5 hf h7 gC gQ gX gE;go_loopw [4,19] (λo i wr=>∃k:Nat,k<=path.length/\i= .int .i64 k/\wr.ownsRow W1.heap.size 129 1 o k (((ptrsAt g 0 path).take k).map λq=>Value.pointer (some q.1))/\Ext W1 wr) (λ_ i _=>path.length - (intOf i).toNat)
 case atStart=>exact ⟨0,Zt _,rfl,Yc _ _ _ _,Ext.refl _⟩
 case round=>
  obtain ⟨k,hk,rfl,D,hx⟩:=hrel;by_cases hG:k<path.length
  ·have gk:=hu.out (by omega);subst gk;have d0:=hx.cell b0;have gZ:(0:Int)<=(k:Int):=(by omega);have g0:(k:Int)<(path.length:Int):=(by omega);have gy:=Zbi g path k hG;obtain ⟨X,hX⟩:∃X,((ptrsAt g 0 path).take k).map (λq=>Value.pointer (some q.1))=X:=⟨_,rfl⟩;rw[hX] at D gy;have fp:=gd gy;have hg:Hid ((k+1)*8<=140737488355328):=gd (by omega);have hh:Hid (k+1<=maxLen):=gd (by unfold maxLen;omega);have I:=gd D;have hc:=gd hx;have hws:=hx.size;clear gy hX D
   go_wp2_with (first|(at_builtin;refine Zq _ rfl (.tmp 22) (.tmp 27) _ rfl W1.heap.size 129 i0 _ 1 8 underlying128 hJ hM hm hQ rfl (by decide) _ k X rfl (I.out.alloc _) _ 1 [.pointer (some ⟨g,k,none⟩)] rfl (ZY rfl (by decide)) (by intro y hy;simp at hy;subst hy;rfl) hh.out hg.out ?_ ?_;(simp;omega);intro v3 w3 j Y hj;(have C:Ext W1 w3:=Ext.app (hc.out.alloc _) Y (I.out.alloc _) (Zd _))))
   go_roundw
   case rel=>exact ⟨k+1,hG,by go_num,by rw[fp.out];exact j,C⟩
   case measure=>simp[intOf];omega
  have gw:k=path.length:=by omega
  subst gw;rw[ZC (by rw[U5];exact Zd _)] at D;have d0:=hx.cell b0;have d1:=hx.cell b1;have d2:=hx.cell b2;have d3:=hx.cell b3;have d4:=hx.cell b4;have d5:=hx.cell b5;obtain ⟨X,hX⟩:∃X,(ptrsAt g 0 path).map (λq=>Value.pointer (some q.1))=X:=⟨_,rfl⟩;rw[hX] at D;have g7:(ptrsF g w.heap.size path id title link).map (λq=>Value.pointer (some q.1))=X++ [.pointer (some ⟨w.heap.size,1,none⟩),.pointer (some ⟨w.heap.size,2,none⟩),.pointer (some ⟨w.heap.size,3,none⟩)]:=by unfold ptrsF;rw[Yp,hX];rfl
  have fn:=gd g7;have I:=gd D;have hc:=gd hx;have hws:=hx.size;have hg:Hid ((path.length+3)*8<=140737488355328):=gd (by omega);have hh:Hid (path.length+3<=maxLen):=gd (by unfold maxLen;omega);have gg:g≠w.heap.size:=by omega
  have hP:∀(w4:World) (v4:Value),Ext W1 w4->w4.ownsRow W1.heap.size 129 1 v4 (path.length+3) (X++ [.pointer (some ⟨w.heap.size,1,none⟩),.pointer (some ⟨w.heap.size,2,none⟩),.pointer (some ⟨w.heap.size,3,none⟩)])->Ptrs w4 v4 (ptrsF g w.heap.size path id title link):=by intro w4 v4 J hL;have gq:w.heap.size<W1.heap.size:=(by omega);refine ZeG (A:=A1) (cap:=S) gg hu.out (Yw gf.out J) (J.cell b1) (J.cell b2) (J.cell b3) ((XP J gq).trans g1) ((XP J gq).trans g2) ((XP J gq).trans g3) ft.out ?_;rw[fn.out];exact RSl.of_own hL
  have HP:=gd hP;have gh:RStrs W1 (.slice A1 path.length S) path:=RSl.of_own gf.out;have fq:=gd gh;have HB:=gd (Z9 b0 (Z9 b1 (Z9 b2 (Z9 b3 (Z9 b4 b5)))));have fk:=gd g5;have hY:=gd fc;clear hX g7 D hP gh b0 b1 b2 b3 b4 b5 g1 g2 g3 g5 fc hx;by_cases h0:firstErr (path++ [id,title,link])=0;have gY:errF F=if collapse id=noS\/(path.any λp=>decide (collapse p=noS))=true then 19 else if 64<path.length then 9 else if inT upd=true then errEs ents else 3:=by
   rw[<-HF.out];unfold errF headF strsF;simp only[h0,ne_eq,not_true_eq_false,ZgK];split
   ·rfl
   ·split
    ·rfl
    ·split<;>rfl
  have hV:=gd gY;have h3:((path.map collapse).any λs=>decide (s=⟨#[]⟩))=path.any λp=>decide (collapse p=noS):=by rw[List.any_map];rfl
  obtain ⟨Bp,gm⟩:∃B,(path.any λp=>decide (collapse p=noS))=B:=⟨_,rfl⟩;rw[gm] at h3;have hB:=gd h3;have gD:=gd gm;have HT:=gd (λw'=>Qr upd w');have hI:=gd (λ(w4:World) (v4:Value) (J:Ext W1 w4) hL=>ZaJ (W:=w4) (v:=v4) (g:=g) (b:=w.heap.size) (cap:=S) (A:=A1) (l:=path) (x:=id) (y:=title) (z:=link) (gJ.out.ext J) (HP.out w4 v4 J hL) gg hu.out (fq.out.ext J) (J.cell HB.out.1) (J.cell HB.out.2.1) (J.cell HB.out.2.2.1) (J.cell HB.out.2.2.2.1) (J.cell HB.out.2.2.2.2.1) (J.cell HB.out.2.2.2.2.2) ((XP J (show w.heap.size<W1.heap.size by omega)).trans fk.out) h0);clear gY h3 gm h0;obtain ⟨ci,h9⟩:∃c,collapse id=c:=⟨_,rfl⟩;obtain ⟨ct,gs⟩:∃c,collapse title=c:=⟨_,rfl⟩;obtain ⟨cl,gr⟩:∃c,collapse link=c:=⟨_,rfl⟩;rw[h9,gs,gr] at hI;rw[h9] at hV;have ff:=gd h9;have fg:=gd gs;have gF:=gd gr;clear h9 gs gr;by_cases hS:ci=noS
  focus
   subst hS
   have fE:noS.toList= []:=(by rw[Yx];rfl)
   unfold noS at hI
   have he:errF F=19:=by
    rw[hV.out]
    rw[Zi (Or.inl rfl)]
   have HN:=gd (hp.out _ he (by decide))
   have hd:=hU.out.symm.trans he
   subst hd
   clear he
   go_wp2_with (first|(at_builtin;refine Zq _ rfl (.tmp 30) (.tmp 34) _ rfl W1.heap.size 129 i0 _ 1 8 underlying128 hJ hM hm hQ rfl (by decide) _ path.length X rfl (I.out.alloc _) _ 3 [.pointer (some ⟨w.heap.size,1,none⟩),.pointer (some ⟨w.heap.size,2,none⟩),.pointer (some ⟨w.heap.size,3,none⟩)] rfl (ZY rfl (by decide)) (by intro y hy;simp at hy;rcases hy with rfl|rfl|rfl<;>rfl) hh.out hg.out ?_ ?_;(simp;omega);intro v3 w3 j Y hj;(have C:Ext W1 w3:=Ext.app (hc.out.alloc _) Y (I.out.alloc _) (Zd _)))|(go_at_call 74;(have H:=hI.out _ _ C j);(with_reducible refine Za H ?_);clear H;rintro e w5 ⟨rfl,K,⟨q0,q1,q2,q3,q4,q5⟩,f5,ha,Z⟩;(have hl:Ext w w5:=ha w (ho.out.trans C) (by omega) (Zd _));(have U:=Z (w.heap.size+1) _ (by omega) (by omega) (C.heap hY.out));(have HC:=gd (Jf (w:=w5) (g:=g) (n:=path.length) (c:=S) (A:=A1) (l:=path.map collapse) ⟨#[]⟩ (by simp) (by simpa using hu.out) K (by simp;omega)));rw[hB.out] at HC;clear ha Z)|(refine Zg rfl 32 (.tmp 2) (.tmp 51) rfl (w.heap.size+1) _ rfl rfl _ _ U ZA rfl YQ ?_))
  rotate_left
  have fE:=XS hS;have gK:=gd hS;clear hS;cases Bp;have gS:¬(ci=noS\/(path.any λp=>decide (collapse p=noS))=true):=by
   rintro (h|h)
   ·exact gK.out h
   ·rw[gD.out] at h;cases h
  have gj:=gd gS;clear gS;by_cases ga:64<path.length
  focus
   have gU:(64:Int)<(path.length:Int):=(by omega)
   have he:errF F=9:=by
    rw[hV.out]
    rw[Zf gj.out,Zi ga]
   have HN:=gd (hp.out _ he (by decide))
   have hd:=hU.out.symm.trans he
   subst hd
   clear he
   go_wp2_with (first|(at_builtin;refine Zq _ rfl (.tmp 30) (.tmp 34) _ rfl W1.heap.size 129 i0 _ 1 8 underlying128 hJ hM hm hQ rfl (by decide) _ path.length X rfl (I.out.alloc _) _ 3 [.pointer (some ⟨w.heap.size,1,none⟩),.pointer (some ⟨w.heap.size,2,none⟩),.pointer (some ⟨w.heap.size,3,none⟩)] rfl (ZY rfl (by decide)) (by intro y hy;simp at hy;rcases hy with rfl|rfl|rfl<;>rfl) hh.out hg.out ?_ ?_;(simp;omega);intro v3 w3 j Y hj;(have C:Ext W1 w3:=Ext.app (hc.out.alloc _) Y (I.out.alloc _) (Zd _)))|(go_at_call 74;(have H:=hI.out _ _ C j);(with_reducible refine Za H ?_);clear H;rintro e w5 ⟨rfl,K,⟨q0,q1,q2,q3,q4,q5⟩,f5,ha,Z⟩;(have hl:Ext w w5:=ha w (ho.out.trans C) (by omega) (Zd _));(have U:=Z (w.heap.size+1) _ (by omega) (by omega) (C.heap hY.out));(have HC:=gd (Jf (w:=w5) (g:=g) (n:=path.length) (c:=S) (A:=A1) (l:=path.map collapse) ⟨#[]⟩ (by simp) (by simpa using hu.out) K (by simp;omega)));rw[hB.out] at HC;clear ha Z)|(go_at_call 75;(have H:=HC.out);(with_reducible refine Za H ?_);clear H;rintro e w6 ⟨rfl,rfl⟩)|(refine Zg rfl 32 (.tmp 2) (.tmp 57) rfl (w.heap.size+1) _ rfl rfl _ _ U ZA rfl YQ ?_))
  rotate_left
  have gU:¬(64:Int)<(path.length:Int):=by omega
  cases hti:inT upd
  focus
   rw[hti] at HT
   have he:errF F=3:=by
    rw[hV.out]
    rw[Zf gj.out,Zf ga,hti];rfl
   have HN:=gd (hp.out _ he (by decide))
   have hd:=hU.out.symm.trans he
   subst hd
   clear he
   go_wp2_with (first|(at_builtin;refine Zq _ rfl (.tmp 30) (.tmp 34) _ rfl W1.heap.size 129 i0 _ 1 8 underlying128 hJ hM hm hQ rfl (by decide) _ path.length X rfl (I.out.alloc _) _ 3 [.pointer (some ⟨w.heap.size,1,none⟩),.pointer (some ⟨w.heap.size,2,none⟩),.pointer (some ⟨w.heap.size,3,none⟩)] rfl (ZY rfl (by decide)) (by intro y hy;simp at hy;rcases hy with rfl|rfl|rfl<;>rfl) hh.out hg.out ?_ ?_;(simp;omega);intro v3 w3 j Y hj;(have C:Ext W1 w3:=Ext.app (hc.out.alloc _) Y (I.out.alloc _) (Zd _)))|(go_at_call 74;(have H:=hI.out _ _ C j);(with_reducible refine Za H ?_);clear H;rintro e w5 ⟨rfl,K,⟨q0,q1,q2,q3,q4,q5⟩,f5,ha,Z⟩;(have hl:Ext w w5:=ha w (ho.out.trans C) (by omega) (Zd _));(have U:=Z (w.heap.size+1) _ (by omega) (by omega) (C.heap hY.out));(have HC:=gd (Jf (w:=w5) (g:=g) (n:=path.length) (c:=S) (A:=A1) (l:=path.map collapse) ⟨#[]⟩ (by simp) (by simpa using hu.out) K (by simp;omega)));rw[hB.out] at HC;clear ha Z)|(go_at_call 75;(have H:=HC.out);(with_reducible refine Za H ?_);clear H;rintro e w6 ⟨rfl,rfl⟩)|(go_at_call 76;refine (HT.out _).mono ?_;rintro e w6 ⟨rfl,rfl⟩)|(refine Zg rfl 32 (.tmp 2) (.tmp 63) rfl (w.heap.size+1) _ rfl rfl _ _ U ZA rfl YQ ?_))
  rotate_left
  ·rw[hti] at HT;have he:errF F=errEs ents:=(by rw[hV.out,Zf gj.out,Zf ga,hti,Zi rfl]);have hd:=hU.out.symm.trans he;subst hd;have gG:=gd he;clear he hti ga
   go_wp2_with (first|(at_builtin;refine Zq _ rfl (.tmp 30) (.tmp 34) _ rfl W1.heap.size 129 i0 _ 1 8 underlying128 hJ hM hm hQ rfl (by decide) _ path.length X rfl (I.out.alloc _) _ 3 [.pointer (some ⟨w.heap.size,1,none⟩),.pointer (some ⟨w.heap.size,2,none⟩),.pointer (some ⟨w.heap.size,3,none⟩)] rfl (ZY rfl (by decide)) (by intro y hy;simp at hy;rcases hy with rfl|rfl|rfl<;>rfl) hh.out hg.out ?_ ?_;(simp;omega);intro v3 w3 j Y hj;(have C:Ext W1 w3:=Ext.app (hc.out.alloc _) Y (I.out.alloc _) (Zd _)))|(go_at_call 74;(have H:=hI.out _ _ C j);(with_reducible refine Za H ?_);clear H;rintro e w5 ⟨rfl,K,⟨q0,q1,q2,q3,q4,q5⟩,f5,ha,Z⟩;(have hl:Ext w w5:=ha w (ho.out.trans C) (by omega) (Zd _));(have U:=Z (w.heap.size+1) _ (by omega) (by omega) (C.heap hY.out));(have HC:=gd (Jf (w:=w5) (g:=g) (n:=path.length) (c:=S) (A:=A1) (l:=path.map collapse) ⟨#[]⟩ (by simp) (by simpa using hu.out) K (by simp;omega)));rw[hB.out] at HC;clear ha Z)|(go_at_call 75;(have H:=HC.out);(with_reducible refine Za H ?_);clear H;rintro e w6 ⟨rfl,rfl⟩)|(go_at_call 76;refine (HT.out _).mono ?_;rintro e w6 ⟨rfl,rfl⟩))
   have gO:=gd hl;have gN:=gd K;have fh:=gd (hE.ext hl);have HC:=();have hH:=gd (Z9 q0 (Z9 q1 (Z9 q2 (Z9 q3 (Z9 q4 q5)))));have fj:=gd f5;have gP:=gd U;have fP:w.heap.size+2<=w6.heap.size:=(by have:=(Ze.1 U).1;omega);clear C j Y hj K q0 q1 q2 q3 q4 q5 f5 U hl;go_loopw [7,67] (λo i wr=>∃k:Nat,k<=ents.length/\i= .int .i64 k/\OEnts wr w6.heap.size o ((ents.take k).map collE)/\Hid (∀e∈ents.take k,errE e=0)/\Ext w6 wr) (λ_ i _=>ents.length - (intOf i).toNat)
   case atStart=>exact ⟨0,Zt _,rfl,OEnts.nil _ _,gd (by simp),Ext.refl _⟩
   case round=>
    obtain ⟨k,hk,rfl,D,hD,hx⟩:=hrel;have fb:Ext w wr:=gO.out.trans hx;by_cases hG:k<ents.length
    ·obtain ⟨ad,c',hv,gR⟩:=(fo.out.ext fb).at hG;injection hv with hv1 hv2 hv3;subst hv1;clear hv2 hv3;have gz:=Zy hG;have h4:=Kw ents k hG hD.out;have gt:=gH.out _ (ZO hG);obtain ⟨e,gV⟩:∃e,ents[k]=e:=⟨_,rfl⟩;rw[gV] at gR gz h4 gt;have g4:eokS e:=(by obtain ⟨_,h⟩:=gt;exact ⟨by omega,by omega,by omega,by omega⟩);have hW:=gd (λ(w':World) (h:Ext w w')=>II e w' (hE.ext h) g4);have fu:=gd gz;have gi:=gd h4;have ho:=gd fb;have hc:=gd hx;have I:=gd D;have h6:((ents.take k).map collE).length=k:=(by rw[ZS,YR];omega);have hg:Hid ((((ents.take k).map collE).length+1)*72<=140737488355328):=gd (by rw[h6];omega);have hh:Hid (((ents.take k).map collE).length+1<=maxLen):=gd (by rw[h6];unfold maxLen;omega);have gZ:(0:Int)<=(k:Int):=(by omega);have g0:(k:Int)<(ents.length:Int):=(by omega);have hws:=hx.size;clear gz h4 gt g4 gV D h6;obtain ⟨a0,a1,a2,a3,a4⟩:=gR;obtain ⟨E,hZ⟩:∃E,errE e=E:=⟨_,rfl⟩;rw[hZ] at hW gi;have ge:=gd hZ;obtain ⟨N,hN⟩:∃N,normE e=N:=⟨_,rfl⟩;rw[hN] at hW;have fm:=gd hN;clear hN hZ;obtain ⟨O,hO⟩:∃O,(ents.take k).map collE=O:=⟨_,rfl⟩;rw[hO] at I hg hh;have HO:=gd hO;clear hO;obtain ⟨h1,V,hi,G,hC⟩:=e;simp only at a0 a1 a2 a3 a4;unfold eCells at hW;dsimp only at hW;by_cases h2:E=0
     ·subst h2
      go_wp2_with (first|(go_at_call 77;(have H:=hW.out _ (ho.out.trans ((Ext.refl wr).alloc (.cells #[.string h1,.string V,.string hi,.string G,.int .i64 hC] 64))));(with_reducible refine Za H ?_);clear H;rintro e w8 ⟨rfl,gA⟩;(have ht:=((Ext.refl wr).alloc (.cells #[.string h1,.string V,.string hi,.string G,.int .i64 hC] 64)).trans gA);(have gL:=gd (OEnts.ext I.out ht));(have fv:=gd (hc.out.trans ht));(have fQ:=ht.size))|(at_builtin;refine Zq _ rfl (.tmp 80) (.tmp 82) _ rfl w6.heap.size 64 i1 _ 5 72 underlying30 fC fH fI fJ rfl (by decide) _ _ (flatE O) rfl ((Yw gL.out ((Ext.refl _).alloc _)).alloc _) _ 1 (eCells N) rfl (UT (e:=64) (fr:=(0,0)) (cs:=eCells N) (Ep _ _ _) rfl (by decide)) (Z1 _) hh.out hg.out ?_ ?_;(simp;omega);intro v9 w9 hA fB fL;(have gB:Ext w6 w9:=Ext.app ((fv.out.alloc _).alloc _) fB ((Yw gL.out ((Ext.refl _).alloc _)).alloc _) (Zd _))))
      go_roundw
      case rel=>
       have fx:N=collE ⟨h1,V,hi,G,hC⟩:=(by rw[<-fm.out];unfold normE;rw[Zi ge.out]);have hT:=fu.out;have hO:=HO.out;refine ⟨k+1,hG,by go_num,?_,gd λx hx=> ?_,gB⟩
       ·rw[hT,Yp,hO,Ym,Y6,<-fx];exact OEnts.snoc hA
       ·rw[hT] at hx;rcases ZZ.1 hx with hx|hx
        ·exact hD.out x hx
        ·rw[Z8.1 hx];exact ge.out
      case measure=>simp[intOf];omega
     ·have hb:((E:Int) !=0)=true:=(by simp;omega);have he:errF F=E:=gG.out.trans (gi.out h2);have HN:=gd (hp.out _ he h2);have fi:=gd (gi.out h2);clear he h2
      go_wp2_with (first|(go_at_call 77;(have H:=hW.out _ (ho.out.trans ((Ext.refl wr).alloc (.cells #[.string h1,.string V,.string hi,.string G,.int .i64 hC] 64))));(with_reducible refine Za H ?_);clear H;rintro e w8 ⟨rfl,gA⟩;(have ht:=((Ext.refl wr).alloc (.cells #[.string h1,.string V,.string hi,.string G,.int .i64 hC] 64)).trans gA);(have fd:=(((hc.out.trans ht).alloc (.cells (eCells N).toArray 64))).heap gP.out))|(refine Zg rfl 32 (.tmp 2) (.tmp 78) rfl (w.heap.size+1) _ rfl rfl _ _ fd ZA rfl YQ ?_))
      ((try simp only[Exit.inBlock,Exit.then]);refine Zm (ZW rfl _ _ _ _ _ _ _ rfl (Zk _ _ _ _ _ _ fd) underlying32 rfl ZA) rfl ?_);exact ⟨zeroC,by rw[fi.out];rfl,HN.out.symm.trans hR.out,Iy _,λ_ _=>Qz _,((ho.out.trans ht).alloc _).setRow (by omega) _⟩
    ·have gw:k=ents.length:=(by omega);subst gw;rw[ZC (Zd _)] at D hD;have h5:errEs ents=0:=Qn.2 hD.out;have g6:normF F=collF F:=(by unfold normF;rw[Zi (gG.out.trans h5)]);have gT:collF F=⟨path.map collapse,ci,ct,cl,upd,ordE.canon (ents.map collE)⟩:=(by rw[<-HF.out,<-ff.out,<-fg.out,<-gF.out];rfl);have fl:=gd (g6.trans gT);have h8:=gd (Zax _ (ents.map collE) wr (fh.out.ext hx) D.reads (λx hx=>by
      obtain ⟨e,he,rfl⟩:=Yq.1 hx;exact QR (gH.out e he)) (by rw[ZS];exact gW))
     have q0:=hx.cell hH.out.1;have gI:=gd h5;have hc:=gd hx;have hws:=hx.size;have fz:w.heap.size<w6.heap.size:=(by omega);clear g6 gT h5 D hD
     go_wp2_with (first|(go_at_call 78;(have H:=h8.out);(with_reducible refine Za H ?_);clear H;rintro e w9 ⟨fM,rfl,hA,gB⟩;(obtain ⟨zA,zc,fK,_,_⟩:=hA.reads.form);subst fK;(have R:=hc.out.trans gB);(have r0:=R.cell hH.out.1);(have r1:=R.cell hH.out.2.1);(have r2:=R.cell hH.out.2.2.1);(have r3:=R.cell hH.out.2.2.2.1);(have r4:=R.cell hH.out.2.2.2.2.1);(have r5:=R.cell hH.out.2.2.2.2.2);(have s5:=(XP R fz).trans fj.out);(have fe:=R.heap gP.out);(have gM:=gd hA))|(refine Zg rfl 32 (.tmp 2) (.tmp 88) rfl (w.heap.size+1) _ rfl rfl _ _ ((Zs _ _ _ _ (by simp)).trans fe) ZA rfl YQ ?_))
     ((try simp only[Exit.inBlock,Exit.then]);refine Zm (ZW rfl _ _ _ _ _ _ _ rfl (Zk _ _ _ _ _ _ ((Zs _ _ _ _ (by simp)).trans fe)) underlying32 rfl ZA) rfl ?_);have g9:=gN.out.ext R;have g8:=gM.out.reads;have fD:=gM.out.lt;have gp:∀q,q<w.heap.size+2->awayC ⟨.slice A1 path.length S,.slice zA (ordE.canon (ents.map collE)).length zc,⟨path.map collapse,ci,ct,cl,upd,ordE.canon (ents.map collE)⟩⟩ (some q):=by
      intro q hq;refine ⟨?_,Or.inr λe=> ?_⟩
      ·rcases YP path.length with h|h
       ·exact Or.inl (by rw[ZI h];rfl)
       ·refine Or.inr λe=> ?_;have gk:=hu.out h;subst gk;injection e with e;simp only at e;omega
      ·have:=(fD q e).1;omega
     have fF:RdC w9 ⟨.slice A1 path.length S,.slice zA (ordE.canon (ents.map collE)).length zc,⟨path.map collapse,ci,ct,cl,upd,ordE.canon (ents.map collE)⟩⟩:=⟨g9,g8⟩;refine ⟨⟨.slice A1 path.length S,.slice zA (ordE.canon (ents.map collE)).length zc,⟨path.map collapse,ci,ct,cl,upd,ordE.canon (ents.map collE)⟩⟩,by rw[gI.out];rfl,fl.out.symm.trans hR.out,(fF.grown (V6 _ _ _) (gp _ (by simp))).grown (Yh _ _ _) (gp _ (by simp)),λq hq=>gp q (by omega),?_⟩;exact (Ext.setCell (gO.out.trans R) (Zd _) _).setRow (by omega) _
  focus
   have he:errF F=19:=by
    rw[hV.out]
    rw[Zi (Or.inr gD.out)]
   have HN:=gd (hp.out _ he (by decide))
   have hd:=hU.out.symm.trans he
   subst hd
   clear he
   go_wp2_with (first|(at_builtin;refine Zq _ rfl (.tmp 30) (.tmp 34) _ rfl W1.heap.size 129 i0 _ 1 8 underlying128 hJ hM hm hQ rfl (by decide) _ path.length X rfl (I.out.alloc _) _ 3 [.pointer (some ⟨w.heap.size,1,none⟩),.pointer (some ⟨w.heap.size,2,none⟩),.pointer (some ⟨w.heap.size,3,none⟩)] rfl (ZY rfl (by decide)) (by intro y hy;simp at hy;rcases hy with rfl|rfl|rfl<;>rfl) hh.out hg.out ?_ ?_;(simp;omega);intro v3 w3 j Y hj;(have C:Ext W1 w3:=Ext.app (hc.out.alloc _) Y (I.out.alloc _) (Zd _)))|(go_at_call 74;(have H:=hI.out _ _ C j);(with_reducible refine Za H ?_);clear H;rintro e w5 ⟨rfl,K,⟨q0,q1,q2,q3,q4,q5⟩,f5,ha,Z⟩;(have hl:Ext w w5:=ha w (ho.out.trans C) (by omega) (Zd _));(have U:=Z (w.heap.size+1) _ (by omega) (by omega) (C.heap hY.out));(have HC:=gd (Jf (w:=w5) (g:=g) (n:=path.length) (c:=S) (A:=A1) (l:=path.map collapse) ⟨#[]⟩ (by simp) (by simpa using hu.out) K (by simp;omega)));rw[hB.out] at HC;clear ha Z)|(go_at_call 75;(have H:=HC.out);(with_reducible refine Za H ?_);clear H;rintro e w6 ⟨rfl,rfl⟩)|(refine Zg rfl 32 (.tmp 2) (.tmp 51) rfl (w.heap.size+1) _ rfl rfl _ _ U ZA rfl YQ ?_))
  rotate_left
  ·have hb:((firstErr (path++ [id,title,link]):Int) !=0)=true:=(by simp;omega);have he:errF F=firstErr (path++ [id,title,link]):=(by rw[<-HF.out];unfold errF headF strsF;rw[Zi h0,Zf h0]);have hn:=hp.out _ he h0;have hd:=hU.out.symm.trans he;obtain ⟨E,hZ⟩:∃E,firstErr (path++ [id,title,link])=E:=⟨_,rfl⟩;have h8:=gd (λ(w4:World) (v4:Value) fw fy=>E0 (W:=w4) (v:=v4) (g:=g) (b:=w.heap.size) fw fy h0);rw[hZ] at h8 hb h0 hd;have HN:=gd hn;clear hZ he hn h0;subst hd
   go_wp2_with (first|(at_builtin;refine Zq _ rfl (.tmp 30) (.tmp 34) _ rfl W1.heap.size 129 i0 _ 1 8 underlying128 hJ hM hm hQ rfl (by decide) _ path.length X rfl (I.out.alloc _) _ 3 [.pointer (some ⟨w.heap.size,1,none⟩),.pointer (some ⟨w.heap.size,2,none⟩),.pointer (some ⟨w.heap.size,3,none⟩)] rfl (ZY rfl (by decide)) (by intro y hy;simp at hy;rcases hy with rfl|rfl|rfl<;>rfl) hh.out hg.out ?_ ?_;(simp;omega);intro v3 w3 j Y hj;(have C:Ext W1 w3:=Ext.app (hc.out.alloc _) Y (I.out.alloc _) (Zd _)))|(go_at_call 74;(have H:=h8.out _ _ (gJ.out.ext C) (HP.out _ _ C j));(with_reducible refine Za H ?_);clear H;rintro e w5 ⟨rfl,hl⟩;(have U:=(C.trans hl).heap hY.out))|(refine Zg rfl 32 (.tmp 2) (.tmp 40) rfl (w.heap.size+1) _ rfl rfl _ _ U ZA rfl YQ ?_))
   ((try simp only[Exit.inBlock,Exit.then]);refine Zm (ZW rfl _ _ _ _ _ _ _ rfl (Zk _ _ _ _ _ _ U) underlying32 rfl ZA) rfl ?_);exact ⟨zeroC,rfl,HN.out.symm.trans hR.out,Iy _,λ_ _=>Qz _,((ho.out.trans C).trans hl).setRow (by omega) _⟩
  all_goals
   ((try simp only[Exit.inBlock,Exit.then]);refine Zm (ZW rfl _ _ _ _ _ _ _ rfl (Zk _ _ _ _ _ _ U) underlying32 rfl ZA) rfl ?_)
   exact ⟨zeroC,rfl,HN.out.symm.trans hR.out,Iy _,λ_ _=>Qz _,hl.setRow (by omega) _⟩
end Go.Proofs.YthlnaldahkgjnaaGreatDoor
