/- Parts of the proof: contracts and plain laws. -/
import Derived.Test.YtmfinhgobjbecaaGreatDoorA06
namespace Go.Proofs.YtmfinhgobjbecaaGreatDoor
open Go Go.RowKit _root_.Go.Proofs.Tryz
set_option linter.unusedVariables false
set_option linter.unusedSimpArgs false
set_option maxRecDepth 100000
set_option maxHeartbeats 16000000
theorem Zfj (c:Bool):∀(f:Nat) (first:Bool) (l:List UInt8),nmGo c f first l<=l.length
 |0,_,_=>ZqO _
 |f+1,first,l=>by
  rw[nmGo]
  split
  ·exact ZqO _
  ·have A:=Xi l
   have h:=Zfj c f false (l.drop (dec l).2)
   rw[ZqP] at h
   omega
theorem X7 {s:List UInt8} {k:Nat} (h:k<=s.length):k<=nmAt s k/\nmAt s k<=s.length:=by
 unfold nmAt nmLen;have:=Zfj true (s.drop k).length true (s.drop k);rw[ZqP] at this;rw[ZqP];omega
theorem Ya {s t:List UInt8} {k:Nat} (h:hasAt s k t=true):k+t.length<=s.length\/t= []:=by
 by_cases A:t= []
 ·exact Or.inr A
 ·refine Or.inl (Nat.le_of_not_lt λC=> ?_);rw[Zcs C A] at h;cases h
theorem Y7 {s:List UInt8} {k:Nat} {c:UInt8} (h:hasAt s k [c]=true):∃C:k<s.length,s[k]=c:=by
 rcases Ya h with A|A
 ·have C:k<s.length:=A;refine ⟨C,?_⟩;rw[Zgt,ZqR C] at h;have D: [s[k]]= [c]:=eq_of_beq h;injection D
 ·cases A
theorem JH (value:Bool) (s:List UInt8) (z:Nat):∀(f i:Nat) (out:List UInt8) (x c:Nat),contGo value s z f i out= .error (x,c)->c=12
 |0,_,_,_,_,h=>by rw[contGo] at h;cases h
 |f+1,i,out,x,c,h=>by
  rw[contGo] at h
  split at h
  ·cases h
  ·split at h
   ·split at h
    ·exact JH value s z f _ _ x c h
    ·injection h with h
     injection h with _ h
     exact h.symm
   ·exact JH value s z f _ _ x c h
theorem QY (s:List UInt8) (f k:Nat):(missP s f k).2=7\/(missP s f k).2=8:=by
 unfold missP;split
 ·exact Or.inr rfl
 ·exact Or.inl rfl
theorem JF {s:List UInt8} {f k e:Nat} {a:AtP} (I:k<=s.length) (h:attrP s f k= .ok (a,e)):k<e/\e<=s.length/\a.at_=k/\a.space= []:=by
 unfold attrP at h;dsimp only at h;have J:=X7 I;split at h
 ·cases h
 ·split at h
  ·cases h
  ·rename_i H;have A:=Ya (t:= [61]) (by simpa using H);have C:spAt s (nmAt s k)+1<=s.length:=by
    rcases A with A|A
    ·exact A
    ·cases A
   split at h
   ·cases h
   ·have O:=XE C;split at h
    ·cases h
    ·split at h
     ·cases h
     ·split at h
      ·cases h
      ·rename_i Q _;injection h with h;injection h with ha he;subst he;refine ⟨?_,?_,by rw[<-ha],by rw[<-ha]⟩
       ·have:=Jc s (nmAt s k);have:=Jc s (spAt s (nmAt s k)+1);omega
       ·have D:=(Zr1 (λd:UInt8=>d !=(List.drop (spAt s (spAt s (nmAt s k)+1)) s).headD 0 && d !=60) (l:=s.drop (spAt s (spAt s (nmAt s k)+1)+1))).length_le;rw[ZqP] at D;have R:spAt s (spAt s (nmAt s k)+1)+1<=s.length:=by
         rename_i F _ _ _ _;rcases hb:hasAt s (spAt s (spAt s (nmAt s k)+1)) [34] with _|_
         ·rcases hb2:hasAt s (spAt s (spAt s (nmAt s k)+1)) [39] with _|_
          ·exact absurd ⟨hb,hb2⟩ F
          ·exact (Y7 hb2).1
         ·exact (Y7 hb).1
        omega
theorem ZdO {s:List UInt8} {f k x c:Nat} (h:attrP s f k= .error (x,c)):c≠0:=by
 have A:∀a b:Nat,(missP s a b)=(x,c)->c≠0:=λa b e=>by have:=QY s a b;rw[e] at this;omega
 unfold attrP at h;dsimp only at h;split at h
 ·injection h with h;exact A _ _ h
 ·split at h
  ·injection h with h;exact A _ _ h
  ·split at h
   ·injection h with h;exact A _ _ h
   ·split at h
    ·rename_i y C;obtain ⟨y1,y2⟩:=y;have:=JH _ _ _ _ _ _ _ _ C;injection h with h;injection h with _ h;omega
    ·split at h
     ·injection h with h;injection h with _ h;omega
     ·split at h
      ·injection h with h;injection h with _ h;omega
      ·cases h
theorem VG (s:List UInt8) (f:Nat) (nm:List UInt8):∀(n m k:Nat) (al:List AtP),k<=s.length->s.length - k<n->s.length - k<m->startGo s f nm n k al=startGo s f nm m k al
 |0,_,_,_,_,h,_=>by omega
 |_+1,0,_,_,_,_,h=>by omega
 |n+1,m+1,k,al,hk,h1,h2=>by
  unfold startGo
  dsimp only
  split
  ·rfl
  ·split
   ·rfl
   ·split
    ·rfl
    ·split
     ·rfl
     ·cases ha:attrP s f (spAt s k) with
      |error x=>rfl
      |ok ae=>
       obtain ⟨a,e⟩:=ae
       have A:=JF (XE hk) ha
       have C:=Jc s k
       dsimp only
       split
       ·rfl
       ·exact VG s f nm n m e _ A.2.1 om om
def startAt (s:List UInt8) (f:Nat) (nm:List UInt8) (k:Nat) (al:List AtP):Except PErr (Tok×Nat):=startGo s f nm (s.length - k+1) k al
theorem Xj (s:List UInt8) (f:Nat) (nm:List UInt8) (k:Nat) (al:List AtP) (A:k<=s.length):startAt s f nm k al=
 if hasAt s (spAt s k) [62] then .ok (⟨1,nm,al,false,[],f⟩,spAt s k+1)
 else if hasAt s (spAt s k) [47,62] then .ok (⟨1,nm,al,true,[],f⟩,spAt s k+2)
 else if hasAt s (spAt s k) [47] then .error (missP s f (spAt s k+1))
 else if spAt s k=k then .error (missP s f k)
 else match attrP s f (spAt s k) with
  | .error x=> .error x
  | .ok (a,e)=>if al.any λb=>b.name==a.name then .error (a.at_,10) else startAt s f nm e (al++ [a]):=by
 unfold startAt;rw[startGo];(try dsimp only);split
 ·rfl
 ·split
  ·rfl
  ·split
   ·rfl
   ·split
    ·rfl
    ·cases ha:attrP s f (spAt s k) with
     |error x=>rfl
     |ok ae=>
      obtain ⟨a,e⟩:=ae;have h:=JF (XE A) ha;have C:=Jc s k;dsimp only;split
      ·rfl
      ·exact VG s f nm _ _ e _ h.2.1 om om
theorem JE (s:List UInt8) (f:Nat) (A:f+1<=s.length):startP s f=if nmAt s (f+1)=f+1 then .error (missP s f (nmAt s (f+1))) else startAt s f ((s.drop (f+1)).take (nmAt s (f+1) - (f+1))) (nmAt s (f+1)) []:=by
 have h:=X7 A;unfold startP;dsimp only;split
 ·rfl
 ·exact VG s f _ _ _ _ _ h.2 om om
theorem Zba {s:List UInt8} {f:Nat} {nm:List UInt8}:∀(n k:Nat) (al:List AtP) (x c:Nat),s.length - k<n->k<=s.length->startAt s f nm k al= .error (x,c)->c≠0
 |0,_,_,_,_,h,_,_=>by omega
 |n+1,k,al,x,c,hn,hk,h=>by
  have C:∀a b:Nat,(missP s a b)=(x,c)->c≠0:=λa b e=>by
   have:=QY s a b
   rw[e] at this
   omega
  rw[Xj s f nm k al hk] at h
  split at h
  ·cases h
  ·split at h
   ·cases h
   ·split at h
    ·injection h with h;exact C _ _ h
    ·split at h
     ·injection h with h;exact C _ _ h
     ·split at h
      ·rename_i y A
       obtain ⟨y1,y2⟩:=y
       have:=ZdO A
       injection h with h
       injection h with _ h
       omega
      ·rename_i a e A
       split at h
       ·injection h with h;injection h with _ h;omega
       ·have D:=JF (XE hk) A
        have F:=Jc s k
        exact Zba n e _ x c om D.2.1 h
def AttrRet (v:Value):Except PErr (AtP×Nat)->Prop
 | .ok (a,n)=>v= .tuple #[.agg (cellsA a).toArray,nI (n:Nat),nI 0]
 | .error (x,c)=>∃a,v= .tuple #[.agg (cellsA a).toArray,nI (x:Nat),nI (c:Nat)]
theorem Z7:(prog.info? 53).map (λi=>i.size)=some 4:=by kernel_rfl
theorem JS (a:AtP):(cellsA a).toArray.all (λu=>u.oneCell')=true:=Vc (XM a)
def BxA (w:Wq) (g:Nat) (a:AtP):Prop:=w.heap[g]? =some (.cells #[.string (str a.space),.string (str a.name),.string (str a.value),nI (a.at_:Nat)] 53 (0,0))
theorem BxA.ext {w w':Wq} {g:Nat} {a:AtP} (h:BxA w g a) (A:Ext w w'):BxA w' g a:=A.heap h
theorem BxA.cells {w:Wq} {g:Nat} {a:AtP} (h:BxA w g a):w.cell? ⟨g,0,none⟩=some (.string (str a.space))/\w.cell? ⟨g,1,none⟩=some (.string (str a.name))/\w.cell? ⟨g,2,none⟩=some (.string (str a.value))/\w.cell? ⟨g,3,none⟩=some (nI (a.at_:Nat))/\
 w.frozen? ⟨g,1,none⟩=false/\w.frozen? ⟨g,2,none⟩=false:=by
 refine ⟨?_,?_,?_,?_,Zrk h 1,Zrk h 2⟩<;>(rw[ZqI _ _ _ _ _ _ h];rfl)
theorem BxA.name {w:Wq} {g:Nat} {a:AtP} (h:BxA w g a) (n:List UInt8):BxA (w.setCell ⟨g,1,none⟩ (.string (str n))) g ⟨a.space,n,a.value,a.at_⟩:=Zrh w g 1 _ _ _ h
theorem BxA.value {w:Wq} {g:Nat} {a:AtP} (h:BxA w g a) (n:List UInt8):BxA (w.setCell ⟨g,2,none⟩ (.string (str n))) g ⟨a.space,a.name,n,a.at_⟩:=Zrh w g 2 _ _ _ h
theorem BxA.other {w:Wq} {g g' i:Nat} {a:AtP} {v:Value} (h:BxA w g a) (A:g≠g'):BxA (w.setCell ⟨g',i,none⟩ v) g a:=(ZrN w ⟨g',i,none⟩ g v A).trans h
theorem BxA.alloc1 (w:Wq) (a b:AtP):BxA ((w.alloc (.cells (cellsA a).toArray 53)).alloc (.cells (cellsA b).toArray 53)) w.heap.size a:=
 Ext.heap ((Ext.refl _).alloc _) (ZqJ w _)
theorem BxA.alloc2 (w:Wq) (a b:AtP):BxA ((w.alloc (.cells (cellsA a).toArray 53)).alloc (.cells (cellsA b).toArray 53)) (w.heap.size+1) b:=by
 have:=ZqJ (w.alloc (.cells (cellsA a).toArray 53)) (.cells (cellsA b).toArray 53)
 rwa [Zd] at this
theorem Zhk (s:ByteArray) (f k:Nat) (w:Wq) (hs:s.size<=80000000000) (hf:f<=s.size) (hk:k<=s.size):
 Calls prog 176 #[.string s,nI (f:Nat),nI (k:Nat)] w λe w'=>∃v,e= .returned v/\AttrRet v (attrP s.data.toList f k)/\Ext w w':=by
 have hK:s.size<=maxLen:=by unfold maxLen;omega
 have hD:=Zb s;obtain ⟨R,h⟩:∃R,attrP s.data.toList f k=R:=⟨_,rfl⟩;rw[h];unfold attrP at h;dsimp only at h;have HN:=gd (λw'=>Qu s k w' hs hk);have hE:=X7 (s:=s.data.toList) (k:=k) om;obtain ⟨E,hP⟩:∃E,nmAt s.data.toList k=E:=⟨_,rfl⟩;rw[hP] at HN h hE;rw[hD] at hE;clear hP;have hv:=gd (BxA.alloc2 w ⟨[],[],[],0⟩ ⟨[],[],[],k⟩);have hw:=gd (BxA.alloc1 w ⟨[],[],[],0⟩ ⟨[],[],[],k⟩);have hz:=gd (((Ext.refl w).alloc (.cells (cellsA ⟨[],[],[],0⟩).toArray 53)).alloc (.cells (cellsA ⟨[],[],[],k⟩).toArray 53));by_cases hB:E=k
 ·rw[ZqN hB] at h;subst hB;have hb:((E:Int)==(E:Int))=true:=by simp
  have HM:=gd (λw'=>Yf s f E w' hK);obtain ⟨x,c,hd⟩:∃x c,missP s.data.toList f E=(x,c):=⟨_,_,rfl⟩;rw[hd] at h HM;subst h;clear hd;go_enter func176,ntmps176
  go_wp2_with (first|(go_at_call 173;refine ZqD (HN.out _) ?_;rintro e w2 ⟨rfl,I⟩;have Q:=hv.out.ext I;have V:=hw.out.ext I;obtain ⟨b0,b1,b2,b3,b4,b5⟩:=Q.cells)|(go_at_call 175;refine ZqD (HM.out _) ?_;rintro e w3 ⟨rfl,rfl⟩)|(refine ZqF rfl 53 (.tmp 6) (.tmp 35) rfl w.heap.size _ rfl rfl _ _ V Z7 rfl (JS ⟨[],[],[],E⟩) ?_))
  ((try simp only[Exit.inBlock,Exit.then]);refine ZqT (Zc rfl _ _ _ _ _ _ _ rfl (ZqV _ _ _ _ _ _ V) underlying53 rfl Z7) rfl ?_);exact ⟨_,rfl,⟨⟨[],[],[],E⟩,rfl⟩,((hz.out.trans I).setRow (ZqE _) _)⟩
 rw[ZqH hB] at h;have hb:((E:Int)==(k:Int))=false:=by rw[ZqW];omega
 have hH:=Qz s k E (k:Nat) (E:Nat) rfl rfl hE.1 hE.2;obtain ⟨O,hJ⟩:∃O,(s.data.toList.drop k).take (E - k)=O:=⟨_,rfl⟩;rw[hJ] at h;have ge:∀wx,(Instr.slice 9 (.string s) (some (nI (k:Nat))) (some (nI (E:Nat))) none).run prog wx= .ok (.string (str O)) wx:=λwx=>by
  rw[hH wx]
  congr 2
  refine Yj ?_;rw[Zg,<-hJ,<-ZW,show k+(E - k)=E by omega]
 have hx:=gd (λw'=>Jb s E w' hs hE.2);have hA:=XE (s:=s.data.toList) (k:=E) om;obtain ⟨A,hM⟩:∃A,spAt s.data.toList E=A:=⟨_,rfl⟩;rw[hM] at hx h hA;rw[hD] at hA;clear hB hH hJ hM;have HH:=gd (λw'=>ZS s [61] A w' hs om (by decide) (by decide));cases hh:hasAt s.data.toList A [61]
 ·rw[hh] at HH h;rw[ZqN rfl] at h;clear hh;have HM:=gd (λw'=>Yf s f A w' hK);obtain ⟨x,c,hd⟩:∃x c,missP s.data.toList f A=(x,c):=⟨_,_,rfl⟩;rw[hd] at h HM;subst h;clear hd;go_enter func176,ntmps176
  go_wp2_with (first|(go_at_call 173;refine ZqD (HN.out _) ?_;rintro e w2 ⟨rfl,I⟩;have Q:=hv.out.ext I;have V:=hw.out.ext I;obtain ⟨b0,b1,b2,b3,b4,b5⟩:=Q.cells;have F:=Q.name O;(have D:BxA (w2.setCell ⟨w.heap.size+1,1,none⟩ (.string (str O))) w.heap.size _:=V.other om);(have ha:Ext w (w2.setCell ⟨w.heap.size+1,1,none⟩ (.string (str O))):=(hz.out.trans I).setCell (by show _<=w.heap.size+1;omega) _);have H:=gd ha;clear ha;obtain ⟨c0,c1,c2,c3,c4,c5⟩:=F.cells)|(go_at_call 174;(first|(with_reducible refine ZqD (hx.out _) ?_));rintro e w3 ⟨rfl,rfl⟩)|(go_at_call 101;(first|(with_reducible refine ZqD (HH.out _) ?_));rintro e w3 ⟨rfl,rfl⟩)|(go_at_call 175;refine ZqD (HM.out _) ?_;rintro e w3 ⟨rfl,rfl⟩)|(refine ZqF rfl 53 (.tmp 6) (.tmp 57) rfl w.heap.size _ rfl rfl _ _ D Z7 rfl (JS ⟨[],O,[],k⟩) ?_))
  ((try simp only[Exit.inBlock,Exit.then]);refine ZqT (Zc rfl _ _ _ _ _ _ _ rfl (ZqV _ _ _ _ _ _ D) underlying53 rfl Z7) rfl ?_);exact ⟨_,rfl,⟨⟨[],O,[],k⟩,rfl⟩,(H.out.setRow (ZqE _) _)⟩
 obtain ⟨hN,_⟩:=Y7 hh;rw[hD] at hN;rw[hh] at HH h;rw[ZqH (by simp)] at h;clear hh;have hy:=gd (λw'=>Jb s (A+1) w' hs hN);have hq:=XE (s:=s.data.toList) (k:=A+1) om;obtain ⟨q,hZ⟩:∃q,spAt s.data.toList (A+1)=q:=⟨_,rfl⟩;rw[hZ] at hy h hq;rw[hD] at hq;rw[show ((A+1:Nat):Int)=(A:Int)+1 by omega] at hy;have hl:=gd (λw'=>ZS s [34] q w' hs om (by decide) (by decide));have hu:=gd (λw'=>ZS s [39] q w' hs om (by decide) (by decide));clear hZ;by_cases he:hasAt s.data.toList q [34]=false/\hasAt s.data.toList q [39]=false
 ·rw[ZqN he] at h;rw[he.1] at hl;rw[he.2] at hu;clear he;have HM:=gd (λw'=>Yf s f q w' hK);obtain ⟨x,c,hd⟩:∃x c,missP s.data.toList f q=(x,c):=⟨_,_,rfl⟩;rw[hd] at h HM;subst h;clear hd;go_enter func176,ntmps176
  go_wp2_with (first|(go_at_call 173;refine ZqD (HN.out _) ?_;rintro e w2 ⟨rfl,I⟩;have Q:=hv.out.ext I;have V:=hw.out.ext I;obtain ⟨b0,b1,b2,b3,b4,b5⟩:=Q.cells;have F:=Q.name O;(have D:BxA (w2.setCell ⟨w.heap.size+1,1,none⟩ (.string (str O))) w.heap.size _:=V.other om);(have ha:Ext w (w2.setCell ⟨w.heap.size+1,1,none⟩ (.string (str O))):=(hz.out.trans I).setCell (by show _<=w.heap.size+1;omega) _);have H:=gd ha;clear ha;obtain ⟨c0,c1,c2,c3,c4,c5⟩:=F.cells)|(go_at_call 174;(first|(with_reducible refine ZqD (hx.out _) ?_)|(with_reducible refine ZqD (hy.out _) ?_));rintro e w3 ⟨rfl,rfl⟩)|(go_at_call 101;(first|(with_reducible refine ZqD (HH.out _) ?_)|(with_reducible refine ZqD (hl.out _) ?_)|(with_reducible refine ZqD (hu.out _) ?_));rintro e w3 ⟨rfl,rfl⟩)|(go_at_call 175;refine ZqD (HM.out _) ?_;rintro e w3 ⟨rfl,rfl⟩)|(refine ZqF rfl 53 (.tmp 6) (.tmp 81) rfl w.heap.size _ rfl rfl _ _ D Z7 rfl (JS ⟨[],O,[],k⟩) ?_))
  ((try simp only[Exit.inBlock,Exit.then]);refine ZqT (Zc rfl _ _ _ _ _ _ _ rfl (ZqV _ _ _ _ _ _ D) underlying53 rfl Z7) rfl ?_);exact ⟨_,rfl,⟨⟨[],O,[],k⟩,rfl⟩,(H.out.setRow (ZqE _) _)⟩
 rw[ZqH he] at h;cases h34:hasAt s.data.toList q [34];cases h39:hasAt s.data.toList q [39]
 ·exact absurd ⟨h34,h39⟩ he
 obtain ⟨hX,ht⟩:=Y7 h39;have hY:q<s.size:=om
 have hg:s[q]≠60:=by rw[show s[q]=39 from ht];decide
 rw[h34] at hl;rw[h39] at hu;clear h34 h39 ht
 rotate_left
 obtain ⟨hX,ht⟩:=Y7 h34;have hY:q<s.size:=om
 have hg:s[q]≠60:=by rw[show s[q]=34 from ht];decide
 rw[h34] at hl;clear h34 ht
 all_goals
  clear he
  have h9:q<s.data.toList.length:=om
  have hU:(s.data.toList.drop q).headD 0=s[q]:=by rw[ZqR h9];rfl
  rw[hU] at h
  clear hU
  obtain ⟨c,hc⟩:∃c,s[q]=c:=⟨_,rfl⟩
  rw[hc] at h hg
  have hI:=gd hc
  clear hc
  have hO:q+1+((s.data.toList.drop (q+1)).takeWhile λd=>d !=c && d !=60).length<=s.size:=by
   have h1:=(Zr1 (λd:UInt8=>d !=c && d !=60) (l:=s.data.toList.drop (q+1))).length_le
   rw[ZqP] at h1
   omega
  obtain ⟨E2,hn⟩:∃E2,q+1+((s.data.toList.drop (q+1)).takeWhile λd=>d !=c && d !=60).length=E2:=⟨_,rfl⟩
  rw[hn] at h hO
  have h8:q+1<=E2:=om
  have hm:=gd hn
  have Y:=gd (λw'=>Qs s (q+1) E2 true w' hs h8 hO)
  rw[show ((q+1:Nat):Int)=(q:Int)+1 by omega] at Y
  have HR:=gd h
  clear h hn
  go_enter func176,ntmps176
  go_wp2_with (first|(go_at_call 173;refine ZqD (HN.out _) ?_;rintro e w2 ⟨rfl,I⟩;have Q:=hv.out.ext I;have V:=hw.out.ext I;obtain ⟨b0,b1,b2,b3,b4,b5⟩:=Q.cells;have F:=Q.name O;(have D:BxA (w2.setCell ⟨w.heap.size+1,1,none⟩ (.string (str O))) w.heap.size _:=V.other om);(have ha:Ext w (w2.setCell ⟨w.heap.size+1,1,none⟩ (.string (str O))):=(hz.out.trans I).setCell (by show _<=w.heap.size+1;omega) _);have H:=gd ha;clear ha;obtain ⟨c0,c1,c2,c3,c4,c5⟩:=F.cells)|(go_at_call 174;(first|(with_reducible refine ZqD (hx.out _) ?_)|(with_reducible refine ZqD (hy.out _) ?_));rintro e w3 ⟨rfl,rfl⟩)|(go_at_call 101;(first|(with_reducible refine ZqD (HH.out _) ?_)|(with_reducible refine ZqD (hl.out _) ?_)|(with_reducible refine ZqD (hu.out _) ?_));rintro e w3 ⟨rfl,rfl⟩))
  go_loopw [10] (λv wr=>∃j:Nat,q+1<=j/\j<=s.size/\v=nI j/\Hid (j+((s.data.toList.drop j).takeWhile λd=>d !=c && d !=60).length=E2)/\Ext (w2.setCell ⟨w.heap.size+1,1,none⟩ (.string (str O))) wr) (λv _=>s.size - (intOf v).toNat)
  case atStart=>exact ⟨q+1,ZqE _,om,by go_num,hm,Ext.refl _⟩
  case round=>
   obtain ⟨j,gc,gb,rfl,hj,hF⟩:=hrel
   replace F:=F.ext hF
   replace D:=D.ext hF
   replace H:=gd (H.out.trans hF)
   clear b0 b1 b2 b3 b4 b5 c0 c1 c2 c3 c4 c5 Q V
   by_cases h7:j<s.size
   have h6:(j:Int)<(s.size:Int):=om
   have hr:j<s.data.toList.length:=om
   have hi:s.data.toList[j]=s[j]:=rfl
   by_cases X:s[j]=c
   focus
    have hp:j=E2:=(J4 (p:=λd=>d !=c && d !=60) hr (by rw[hi,X];simp)).symm.trans hj.out
    subst hp
    have hT:(((s[j]).toNat:Int) !=((s[q]).toNat:Int))=false:=(by rw[X,hI.out];simp)
    have hL:=gd X
    clear hj hm hi X
    go_wp2
    refine rA ?_
    repeat (first|go_big_quiet_step (skip)|quiet_step (skip))
    refine Zru ?_
    rintro _ ⟨dd,rfl⟩
    replace F:=F.ext dd.ext
    replace D:=D.ext dd.ext
    replace H:=gd (H.out.trans dd.ext)
    have h:=HR.out
    obtain ⟨C,hC⟩:∃C,contP true s.data.toList (q+1) j=C:=⟨_,rfl⟩
    rw[hC] at h Y
    cases C
   rename_i xc
   rotate_left
   ·rename_i v
    dsimp only at h
    have ho:(s.data.toList.drop j).head?≠some 60:=by
     rw[ZqR hr,ZsR]
     intro e
     injection e with e
     exact hg (hL.out.symm.trans e)
    rw[ZqH om,ZqH ho] at h
    subst h
    have hS:(((s[j]).toNat:Int)==60)=false:=by
     rw[ZqW]
     intro e
     exact hg (hL.out.symm.trans (ZrY.1 (by simpa using (show (s[j]).toNat=60 by omega))))
    have hW:((j:Int)==(s.size:Int))=false:=(by rw[ZqW];omega)
    clear hC HR ho
    go_wp2_with (first|(go_at_call 147;refine ZqD (Y.out _) ?_;rintro e w4 ⟨rfl,J⟩;simp only[contAns];have Z:=F.ext J;have U:=D.ext J;obtain ⟨d0,d1,d2,d3,d4,d5⟩:=Z.cells;have h3:=Z.value v;(have hQ:BxA (w4.setCell ⟨w.heap.size+1,2,none⟩ (.string (str v))) w.heap.size _:=U.other om);(have h2:=gd ((H.out.trans J).setCell (p:=⟨w.heap.size+1,2,none⟩) (by show _<=w.heap.size+1;omega) (.string (str v))));obtain ⟨e0,e1,e2,e3,e4,e5⟩:=h3.cells)|(refine ZqF rfl 53 (.tmp 6) (.tmp 135) rfl w.heap.size _ rfl rfl _ _ hQ Z7 rfl (JS ⟨[],O,v,k⟩) ?_))
    ((try simp only[Exit.inBlock,Exit.then]);refine ZqT (Zc rfl _ _ _ _ _ _ _ rfl (ZqV _ _ _ _ _ _ hQ) underlying53 rfl Z7) rfl ?_)
    exact ⟨_,rfl,rfl,(h2.out.setRow (ZqE _) _)⟩
   by_cases S:s[j]=60
   focus
    have hp:j=E2:=(J4 (p:=λd=>d !=c && d !=60) hr (by rw[hi,S];simp)).symm.trans hj.out
    subst hp
    have hT:(((s[j]).toNat:Int) !=((s[q]).toNat:Int))=true:=by
     rw[ZrQ,hI.out]
     intro e
     exact X (ZrY.1 om)
    have h4:(((s[j]).toNat:Int) !=60)=false:=(by rw[S];rfl)
    have hG:=gd S
    clear hj hm hi X S
    go_wp2
    refine rA ?_
    repeat (first|go_big_quiet_step (skip)|quiet_step (skip))
    refine Zru ?_
    rintro _ ⟨dd,rfl⟩
    replace F:=F.ext dd.ext
    replace D:=D.ext dd.ext
    replace H:=gd (H.out.trans dd.ext)
    have h:=HR.out
    obtain ⟨C,hC⟩:∃C,contP true s.data.toList (q+1) j=C:=⟨_,rfl⟩
    rw[hC] at h Y
    cases C
   rename_i xc
   rotate_left
   ·rename_i v
    dsimp only at h
    have ho:(s.data.toList.drop j).head? =some 60:=(by rw[ZqR hr,ZsR];exact ZqS some hG.out)
    rw[ZqH om,ZqN ho] at h
    subst h
    have hS:(((s[j]).toNat:Int)==60)=true:=(by rw[hG.out];rfl)
    have hW:((j:Int)==(s.size:Int))=false:=(by rw[ZqW];omega)
    clear hC HR ho
    go_wp2_with (first|(go_at_call 147;refine ZqD (Y.out _) ?_;rintro e w4 ⟨rfl,J⟩;simp only[contAns];have Z:=F.ext J;have U:=D.ext J;obtain ⟨d0,d1,d2,d3,d4,d5⟩:=Z.cells)|(refine ZqF rfl 53 (.tmp 6) (.tmp 131) rfl w.heap.size _ rfl rfl _ _ U Z7 rfl (JS ⟨[],O,[],k⟩) ?_))
    ((try simp only[Exit.inBlock,Exit.then]);refine ZqT (Zc rfl _ _ _ _ _ _ _ rfl (ZqV _ _ _ _ _ _ U) underlying53 rfl Z7) rfl ?_)
    exact ⟨_,rfl,⟨⟨[],O,[],k⟩,rfl⟩,((H.out.trans J).setRow (ZqE _) _)⟩
   ·have HJ:=gd ((J3 (p:=λd=>d !=c && d !=60) hr (by rw[hi];simp[X,S])).symm.trans hj.out)
    have hT:(((s[j]).toNat:Int) !=((s[q]).toNat:Int))=true:=by
     rw[ZrQ,hI.out]
     intro e
     exact X (ZrY.1 om)
    have h4:(((s[j]).toNat:Int) !=60)=true:=by
     rw[ZrQ]
     intro e
     exact S (ZrY.1 (by simpa using (show (s[j]).toNat=60 by omega)))
    clear hj hm hi X S
    go_wp2
    refine rA ?_
    repeat (first|go_big_quiet_step (skip)|quiet_step (skip))
    refine Zru ?_
    rintro _ ⟨dd,rfl⟩
    go_wp2
    go_roundw
    case rel=>exact ⟨j+1,om,h7,by go_num,HJ,hF.trans dd.ext⟩
    case measure=>simp[intOf];omega
   focus
    have h6:¬(j:Int)<(s.size:Int):=om
    have hp:j=E2:=(Zax (p:=λd=>d !=c && d !=60) om).symm.trans hj.out
    subst hp
    have hV:j=s.size:=om
    have ga:((j:Int)==(s.size:Int))=true:=(by rw[ZsE];omega)
    have h0:=gd hV
    clear hV
    clear hj hm
    go_wp2
    refine rA ?_
    repeat (first|go_big_quiet_step (skip)|quiet_step (skip))
    refine Zru ?_
    rintro _ ⟨dd,rfl⟩
    replace F:=F.ext dd.ext
    replace D:=D.ext dd.ext
    replace H:=gd (H.out.trans dd.ext)
    have h:=HR.out
    obtain ⟨C,hC⟩:∃C,contP true s.data.toList (q+1) j=C:=⟨_,rfl⟩
    rw[hC] at h Y
    cases C
   rename_i xc
   rotate_left
   ·rename_i v
    dsimp only at h
    rw[ZqN (by have:=h0.out;omega)] at h
    subst h
    clear hC HR
    go_wp2_with (first|(go_at_call 147;refine ZqD (Y.out _) ?_;rintro e w4 ⟨rfl,J⟩;simp only[contAns];have Z:=F.ext J;have U:=D.ext J;obtain ⟨d0,d1,d2,d3,d4,d5⟩:=Z.cells)|(refine ZqF rfl 53 (.tmp 6) (.tmp 125) rfl w.heap.size _ rfl rfl _ _ U Z7 rfl (JS ⟨[],O,[],k⟩) ?_))
    ((try simp only[Exit.inBlock,Exit.then]);refine ZqT (Zc rfl _ _ _ _ _ _ _ rfl (ZqV _ _ _ _ _ _ U) underlying53 rfl Z7) rfl ?_)
    exact ⟨_,rfl,⟨⟨[],O,[],k⟩,rfl⟩,((H.out.trans J).setRow (ZqE _) _)⟩
   all_goals
    obtain ⟨x,cc⟩:=xc
    have h5:=JH _ _ _ _ _ _ _ _ hC
    subst h5
    dsimp only at h
    subst h
    clear hC HR
    go_wp2_with (first|(go_at_call 147;refine ZqD (Y.out _) ?_;rintro e w4 ⟨rfl,J⟩;simp only[contAns];have Z:=F.ext J;have U:=D.ext J;obtain ⟨d0,d1,d2,d3,d4,d5⟩:=Z.cells)|(refine ZqF rfl 53 (.tmp 6) (.tmp 118) rfl w.heap.size _ rfl rfl _ _ U Z7 rfl (JS ⟨[],O,[],k⟩) ?_))
    ((try simp only[Exit.inBlock,Exit.then]);refine ZqT (Zc rfl _ _ _ _ _ _ _ rfl (ZqV _ _ _ _ _ _ U) underlying53 rfl Z7) rfl ?_)
    exact ⟨_,rfl,⟨⟨[],O,[],k⟩,rfl⟩,((H.out.trans J).setRow (ZqE _) _)⟩
def BxT (w:Wq) (g:Nat) (x:Tc):Prop:=w.heap[g]? =some (.cells #[nI (x.t.kind:Nat),.string (str x.t.name),x.al,.bool x.t.empty,.string (str x.t.text),nI (x.t.at_:Nat)] 110 (0,0))
theorem BxT.ext {w w':Wq} {g:Nat} {x:Tc} (h:BxT w g x) (A:Ext w w'):BxT w' g x:=A.heap h
theorem BxT.cells {w:Wq} {g:Nat} {x:Tc} (h:BxT w g x):w.cell? ⟨g,0,none⟩=some (nI (x.t.kind:Nat))/\w.cell? ⟨g,1,none⟩=some (.string (str x.t.name))/\w.cell? ⟨g,2,none⟩=some x.al/\w.cell? ⟨g,3,none⟩=some (.bool x.t.empty)/\
 w.cell? ⟨g,4,none⟩=some (.string (str x.t.text))/\w.cell? ⟨g,5,none⟩=some (nI (x.t.at_:Nat))/\w.frozen? ⟨g,1,none⟩=false/\w.frozen? ⟨g,2,none⟩=false/\w.frozen? ⟨g,3,none⟩=false:=by
 refine ⟨?_,?_,?_,?_,?_,?_,Zrk h 1,Zrk h 2,Zrk h 3⟩<;>(rw[ZqI _ _ _ _ _ _ h];rfl)
theorem BxT.name {w:Wq} {g:Nat} {x:Tc} (h:BxT w g x) (n:List UInt8):BxT (w.setCell ⟨g,1,none⟩ (.string (str n))) g ⟨x.al,⟨x.t.kind,n,x.t.attrs,x.t.empty,x.t.text,x.t.at_⟩⟩:=Zrh w g 1 _ _ _ h
theorem BxT.attrs {w:Wq} {g:Nat} {x:Tc} (h:BxT w g x) (al:Value) (l:List AtP):BxT (w.setCell ⟨g,2,none⟩ al) g ⟨al,⟨x.t.kind,x.t.name,l,x.t.empty,x.t.text,x.t.at_⟩⟩:=Zrh w g 2 _ _ _ h
theorem BxT.empty {w:Wq} {g:Nat} {x:Tc} (h:BxT w g x) (b:Bool):BxT (w.setCell ⟨g,3,none⟩ (.bool b)) g ⟨x.al,⟨x.t.kind,x.t.name,x.t.attrs,b,x.t.text,x.t.at_⟩⟩:=Zrh w g 3 _ _ _ h
theorem BxT.other {w:Wq} {g g' i:Nat} {x:Tc} {v:Value} (h:BxT w g x) (A:g≠g'):BxT (w.setCell ⟨g',i,none⟩ v) g x:=(ZrN w ⟨g',i,none⟩ g v A).trans h
def nilT (k f:Nat):Tc:=⟨sN,⟨k,[],[],false,[],f⟩⟩
theorem BxT.alloc1 (w:Wq) (x y:Tc):BxT ((w.alloc (.cells (cellsT x).toArray 110)).alloc (.cells (cellsT y).toArray 110)) w.heap.size x:=
 Ext.heap ((Ext.refl _).alloc _) (ZqJ w _)
theorem BxT.alloc2 (w:Wq) (x y:Tc):BxT ((w.alloc (.cells (cellsT x).toArray 110)).alloc (.cells (cellsT y).toArray 110)) (w.heap.size+1) y:=by
 have:=ZqJ (w.alloc (.cells (cellsT x).toArray 110)) (.cells (cellsT y).toArray 110)
 rwa [Zd] at this
theorem Zm:(prog.info? 110).map (λi=>i.size)=some 6:=by kernel_rfl
theorem Yb (x:Tc) (h:x.al.oneCell'=true):(cellsT x).toArray.all (λu=>u.oneCell')=true:=by
 refine Vc ?_;intro u A;simp only[cellsT,Zq1,Zri,ZrD] at A;rcases A with rfl|rfl|rfl|rfl|rfl|rfl<;>first|rfl|exact h
def TokRet (B:Nat) (w:Wq) (v:Value):Except PErr (Tok×Nat)->Prop
 | .ok (t,n)=>∃al,v= .tuple #[.agg (cellsT ⟨al,t⟩).toArray,nI (n:Nat),nI 0]/\RAts w al t.attrs/\∀g,al.ownBlock=some g->B<=g
 | .error (y,c)=>∃x:Tc,v= .tuple #[.agg (cellsT x).toArray,nI (y:Nat),nI (c:Nat)]/\x.al.oneCell'=true
theorem Yw {w:Wq} {base size n:Nat} {e:TypeId} {v:Value} {xs:List Value} (h:w.ownsRow base e size v n xs):∀g,v.ownBlock=some g->base<=g:=λg A=>(h.lt g A).1
theorem Zat (s:ByteArray) (a b:Nat) (A B:Int) (L:List UInt8) (F:A=a) (H:B=b) (h:a<=b) (D:b<=s.size) (I:(s.data.toList.drop a).take (b - a)=L):
 ∀C,(Instr.slice 9 (.string s) (some (nI A)) (some (nI B)) none).run prog C= .ok (.string (str L)) C:=λC=>by
 rw[Qz s a b A B F H h D C]
 congr 2
 refine Yj ?_;rw[Zg,<-I,<-ZW,show a+(b - a)=b by omega]
theorem Zju (s:ByteArray) (f:Nat) (w:Wq) (hs:s.size<=80000000000) (hf:f+2<=s.size):
 Calls prog 144 #[.string s,nI (f:Nat)] w λe w'=>∃v,e= .returned v/\TokRet w.heap.size w' v (endP s.data.toList f)/\Ext w w':=by
 have hg:s.size<=maxLen:=by unfold maxLen;omega
 have he:=Zb s;obtain ⟨R,D⟩:∃R,endP s.data.toList f=R:=⟨_,rfl⟩;rw[D];unfold endP at D;dsimp only at D;have HN:=gd (λw'=>Qu s (f+2) w' hs hf);have hE:=X7 (s:=s.data.toList) (k:=f+2) om;obtain ⟨E,hd⟩:∃E,nmAt s.data.toList (f+2)=E:=⟨_,rfl⟩;rw[hd] at HN D hE;rw[he] at hE;clear hd;rw[show ((f+2:Nat):Int)=(f:Int)+2 by omega] at HN;have Q:=gd (BxT.alloc2 w (nilT 0 0) (nilT 2 f));have S:=gd (BxT.alloc1 w (nilT 0 0) (nilT 2 f));have V:=gd (((Ext.refl w).alloc (.cells (cellsT (nilT 0 0)).toArray 110)).alloc (.cells (cellsT (nilT 2 f)).toArray 110));by_cases Z:f+2<E
 ·rw[ZqN Z] at D;have hb:(f:Int)+2<(E:Int):=om
  obtain ⟨I,ha⟩:∃I,(s.data.toList.drop (f+2)).take (E - (f+2))=I:=⟨_,rfl⟩;have hi:=Zat s (f+2) E ((f:Int)+2) (E:Nat) I om rfl hE.1 hE.2 ha;rw[ha] at D;have U:=gd (λw'=>Jb s E w' hs hE.2);have hA:=XE (s:=s.data.toList) (k:=E) om;obtain ⟨A,hc⟩:∃A,spAt s.data.toList E=A:=⟨_,rfl⟩;rw[hc] at U D hA;rw[he] at hA;clear Z ha hc;have HH:=gd (λw'=>ZS s [62] A w' hs om (by decide) (by decide));cases hh:hasAt s.data.toList A [62] with
  |true=>
   rw[hh] at HH D;rw[ZqN rfl] at D;subst D;clear hh;go_enter func144,ntmps144
   go_wp2_with (first|(go_at_call 173;refine ZqD (HN.out _) ?_;rintro e w2 ⟨rfl,C⟩;have F:=Q.out.ext C;have H:=S.out.ext C;obtain ⟨b0,b1,b2,b3,b4,b5,b6,b7,b8⟩:=F.cells;have Y:=F.name I;(have J:BxT (w2.setCell ⟨w.heap.size+1,1,none⟩ (.string (str I))) w.heap.size _:=H.other om);(have X:=gd ((V.out.trans C).setCell (p:=⟨w.heap.size+1,1,none⟩) (by show _<=w.heap.size+1;omega) (.string (str I))));obtain ⟨c0,c1,c2,c3,c4,c5,c6,c7,c8⟩:=Y.cells)|(go_at_call 174;refine ZqD (U.out _) ?_;rintro e w3 ⟨rfl,rfl⟩)|(go_at_call 101;refine ZqD (HH.out _) ?_;rintro e w3 ⟨rfl,rfl⟩)|(refine ZqF rfl 110 (.tmp 4) (.tmp 33) rfl w.heap.size _ rfl rfl _ _ J Zm rfl (Yb ⟨sN,⟨2,I,[],false,[],f⟩⟩ rfl) ?_))
   ((try simp only[Exit.inBlock,Exit.then]);refine ZqT (Zc rfl _ _ _ _ _ _ _ rfl (ZqV _ _ _ _ _ _ J) underlying110 rfl Zm) rfl ?_);exact ⟨_,rfl,⟨_,rfl,RAts.nil _,(by intro g h;cases h)⟩,X.out.setRow (ZqE _) _⟩
  |false=>
   rw[hh] at HH D;rw[ZqH (by simp)] at D;clear hh;have HM:=gd (λw'=>Yf s f A w' hg);obtain ⟨x,c,O⟩:∃x c,missP s.data.toList f A=(x,c):=⟨_,_,rfl⟩;rw[O] at D HM;subst D;clear O;go_enter func144,ntmps144
   go_wp2_with (first|(go_at_call 173;refine ZqD (HN.out _) ?_;rintro e w2 ⟨rfl,C⟩;have F:=Q.out.ext C;have H:=S.out.ext C;obtain ⟨b0,b1,b2,b3,b4,b5,b6,b7,b8⟩:=F.cells;have Y:=F.name I;(have J:BxT (w2.setCell ⟨w.heap.size+1,1,none⟩ (.string (str I))) w.heap.size _:=H.other om);(have X:=gd ((V.out.trans C).setCell (p:=⟨w.heap.size+1,1,none⟩) (by show _<=w.heap.size+1;omega) (.string (str I))));obtain ⟨c0,c1,c2,c3,c4,c5,c6,c7,c8⟩:=Y.cells)|(go_at_call 174;refine ZqD (U.out _) ?_;rintro e w3 ⟨rfl,rfl⟩)|(go_at_call 101;refine ZqD (HH.out _) ?_;rintro e w3 ⟨rfl,rfl⟩)|(go_at_call 175;refine ZqD (HM.out _) ?_;rintro e w3 ⟨rfl,rfl⟩)|(refine ZqF rfl 110 (.tmp 4) (.tmp 43) rfl w.heap.size _ rfl rfl _ _ J Zm rfl (Yb ⟨sN,⟨2,I,[],false,[],f⟩⟩ rfl) ?_))
   ((try simp only[Exit.inBlock,Exit.then]);refine ZqT (Zc rfl _ _ _ _ _ _ _ rfl (ZqV _ _ _ _ _ _ J) underlying110 rfl Zm) rfl ?_);exact ⟨_,rfl,⟨⟨sN,⟨2,I,[],false,[],f⟩⟩,rfl,rfl⟩,X.out.setRow (ZqE _) _⟩
 ·rw[ZqH Z] at D;have hb:¬(f:Int)+2<(E:Int):=om
  have HM:=gd (λw'=>Yf s f E w' hg);obtain ⟨x,c,O⟩:∃x c,missP s.data.toList f E=(x,c):=⟨_,_,rfl⟩;rw[O] at D HM;subst D;clear O;go_enter func144,ntmps144
  go_wp2_with (first|(go_at_call 173;refine ZqD (HN.out _) ?_;rintro e w2 ⟨rfl,C⟩;have F:=Q.out.ext C;have H:=S.out.ext C;obtain ⟨b0,b1,b2,b3,b4,b5,b6,b7,b8⟩:=F.cells)|(go_at_call 175;refine ZqD (HM.out _) ?_;rintro e w3 ⟨rfl,rfl⟩)|(refine ZqF rfl 110 (.tmp 4) (.tmp 43) rfl w.heap.size _ rfl rfl _ _ H Zm rfl (Yb (nilT 2 f) rfl) ?_))
  ((try simp only[Exit.inBlock,Exit.then]);refine ZqT (Zc rfl _ _ _ _ _ _ _ rfl (ZqV _ _ _ _ _ _ H) underlying110 rfl Zm) rfl ?_);exact ⟨_,rfl,⟨nilT 2 f,rfl,rfl⟩,(V.out.trans C).setRow (ZqE _) _⟩
section
attribute [local go_sem] calm1
theorem Ye {w:Wq} {base size n:Nat} {e:TypeId} {v:Value} {xs:List Value} (h:w.ownsRow base e size v n xs) {g:Nat} (D:g<base) (i:Nat) (u:Value):(w.setCell ⟨g,i,none⟩ u).ownsRow base e size v n xs:=by
 refine h.kept (row:=some g) ⟨rfl,rfl,rfl,by simp[World.setCell],λk _ A=>ZrN w ⟨g,i,none⟩ k u (λe=>A (by rw[e]))⟩ (Or.inr λC=> ?_);have:=(h.lt g C).1;omega
theorem ZoY {w:Wq} {base size n:Nat} {e:TypeId} {v:Value} {xs:List Value} (h:w.ownsRow base e size v n xs):v.oneCell'=true:=by
 rcases h.2 with ⟨rfl,_⟩|⟨g,cap,A,rfl,_⟩<;>rfl
theorem Zp {w:Wq} {base size n:Nat} {e:TypeId} {v:Value} {xs:List Value} (h:w.ownsRow base e size v n xs):∃A c,v= .slice A n c:=by
 rcases h.2 with ⟨rfl,rfl⟩|⟨g,cap,C,rfl,_⟩
 ·exact ⟨none,0,rfl⟩
 ·exact ⟨_,cap,rfl⟩
theorem BxT.grown {a b:Wq} {g:Nat} {x:Tc} {r:Option Nat} (h:BxT a g x) (A:a.grownBy b r) (C:r≠some g):BxT b g x:=
 (A.block g (Zrg.1 h).1 (λe=>C (by rw[<-e]))).trans h
theorem Zfd:(prog.info? 53).map (λi=>(i.zero,i.size,i.bytes))=some (some (.agg #[eS,eS,eS,nI 0]),4,56):=by kernel_rfl
theorem ZfA (s:ByteArray) (f:Nat) (w:Wq) (hs:s.size<=80000000000) (hf:f+1<=s.size):
 Calls prog 145 #[.string s,nI (f:Nat)] w λe w'=>∃v,e= .returned v/\TokRet w.heap.size w' v (startP s.data.toList f)/\Ext w w':=by
 have hU:s.size<=maxLen:=by unfold maxLen;omega
 obtain ⟨i0,gz,gL,gM,gN⟩:=ZrE Zfd;have hO:=Zb s;obtain ⟨R,hR⟩:∃R,startP s.data.toList f=R:=⟨_,rfl⟩;rw[hR];rw[JE s.data.toList f om] at hR;have HN:=gd (λw'=>Qu s (f+1) w' hs hf);have hE:=X7 (s:=s.data.toList) (k:=f+1) om;obtain ⟨E,h9⟩:∃E,nmAt s.data.toList (f+1)=E:=⟨_,rfl⟩;rw[h9] at HN hR hE;rw[hO] at hE;clear h9;rw[show ((f+1:Nat):Int)=(f:Int)+1 by omega] at HN;have hA:=gd (BxT.alloc2 w (nilT 0 0) (nilT 1 f));have hC:=gd (BxT.alloc1 w (nilT 0 0) (nilT 1 f));have hD:=gd (((Ext.refl w).alloc (.cells (cellsT (nilT 0 0)).toArray 110)).alloc (.cells (cellsT (nilT 1 f)).toArray 110));by_cases ho:E=f+1
 ·rw[ZqN ho] at hR;have hb:((E:Int)==(f:Int)+1)=true:=by rw[ZsE];omega
  have HM:=gd (λw'=>Yf s f E w' hU);obtain ⟨x,c,Z⟩:∃x c,missP s.data.toList f E=(x,c):=⟨_,_,rfl⟩;rw[Z] at hR HM;subst hR;clear Z ho;go_enter func145,ntmps145
  go_wp2_with (first|(go_at_call 173;refine ZqD (HN.out _) ?_;rintro e w2 ⟨rfl,O⟩;have ha:=hA.out.ext O;have X:=hC.out.ext O;obtain ⟨b0,b1,b2,b3,b4,b5,b6,b7,b8⟩:=ha.cells)|(go_at_call 175;refine ZqD (HM.out _) ?_;rintro e w3 ⟨rfl,rfl⟩)|(refine ZqF rfl 110 (.tmp 4) (.tmp 37) rfl w.heap.size _ rfl rfl _ _ X Zm rfl (Yb (nilT 1 f) rfl) ?_))
  ((try simp only[Exit.inBlock,Exit.then]);refine ZqT (Zc rfl _ _ _ _ _ _ _ rfl (ZqV _ _ _ _ _ _ X) underlying110 rfl Zm) rfl ?_);exact ⟨_,rfl,⟨nilT 1 f,rfl,rfl⟩,(hD.out.trans O).setRow (ZqE _) _⟩
 ·rw[ZqH ho] at hR;have hb:((E:Int)==(f:Int)+1)=false:=by rw[ZqW];omega
  obtain ⟨H,hJ⟩:∃H,(s.data.toList.drop (f+1)).take (E - (f+1))=H:=⟨_,rfl⟩;have gF:=Zat s (f+1) E ((f:Int)+1) (E:Nat) H om rfl hE.1 hE.2 hJ;rw[hJ] at hR;have HR:=gd hR;clear ho hJ hR;go_enter func145,ntmps145
  go_wp2_with (first|(go_at_call 173;refine ZqD (HN.out _) ?_;rintro e w2 ⟨rfl,O⟩;have ha:=hA.out.ext O;have X:=hC.out.ext O;obtain ⟨b0,b1,b2,b3,b4,b5,b6,b7,b8⟩:=ha.cells))
  have h6:=ha.name H;have gc:BxT (w2.setCell ⟨w.heap.size+1,1,none⟩ (.string (str H))) w.heap.size _:=X.other om;have gg:=(hD.out.trans O).setCell (p:=⟨w.heap.size+1,1,none⟩) (by show _<=w.heap.size+1;omega) (.string (str H));have gf:w.heap.size+2<=w2.heap.size:=by have h1:=O.size;rw[Zd,Zd] at h1;omega
  clear b0 b1 b2 b3 b4 b5 b6 b7 b8 ha X hA hC hD gF hb;go_loopw [8] (λv wr=>∃(k:Nat) (l:List AtP) (al:Value),k<=s.size/\v=nI k/\Hid (startAt s.data.toList f H k l=R)/\BxT wr (w.heap.size+1) ⟨al,⟨1,H,l,false,[],f⟩⟩/\BxT wr w.heap.size (nilT 0 0)/\wr.ownsRow (w.heap.size+2) 53 4 al l.length (flatA l)/\Ext w wr/\w.heap.size+2<=wr.heap.size/\Hid (l.length<=k)) (λv _=>s.size - (intOf v).toNat)
  case atStart=>exact ⟨E,[],sN,hE.2,rfl,HR,h6,gc,Zrt _ _ _ _,gg,by simpa using gf,ZqO _⟩
  case round=>
   clear h6 gc gg gf;obtain ⟨k,l,al,hk,rfl,hr,hB,I,F,hx,gV,he⟩:=hrel;have C:=hr.out;rw[Xj s.data.toList f H k l om] at C;have V:=gd (λw'=>Jb s k w' hs hk);have hN:=XE (s:=s.data.toList) (k:=k) om;have gB:=Jc s.data.toList k;obtain ⟨N,ga⟩:∃N,spAt s.data.toList k=N:=⟨_,rfl⟩;rw[ga] at V C hN gB;rw[hO] at hN;clear ga hr;have HA:=gd (λw'=>ZS s [62] N w' hs om (by decide) (by decide));have S:=gd (λw'=>ZS s [47,62] N w' hs om (by decide) (by decide));have HC:=gd (λw'=>ZS s [47] N w' hs om (by decide) (by decide));obtain ⟨b0,b1,b2,b3,b4,b5,b6,b7,b8⟩:=hB.cells;have D:=ZoY F;dsimp only at b0 b1 b2 b3 b4 b5;cases h1:hasAt s.data.toList N [62] with
   |true=>
    rw[h1,ZqN rfl] at C;rw[h1] at HA;subst C;clear h1
    go_wp2_with (first|(go_at_call 174;refine ZqD (V.out _) ?_;rintro e w3 ⟨rfl,rfl⟩)|(go_at_call 101;(first|(with_reducible refine ZqD (HA.out _) ?_)|(with_reducible refine ZqD (S.out _) ?_)|(with_reducible refine ZqD (HC.out _) ?_));rintro e w3 ⟨rfl,rfl⟩)|(refine ZqF rfl 110 (.tmp 4) (.tmp 53) rfl w.heap.size _ rfl rfl _ _ I Zm rfl (Yb ⟨al,⟨1,H,l,false,[],f⟩⟩ D) ?_))
    ((try simp only[Exit.inBlock,Exit.then]);refine ZqT (Zc rfl _ _ _ _ _ _ _ rfl (ZqV _ _ _ _ _ _ I) underlying110 rfl Zm) rfl ?_);exact ⟨_,rfl,⟨al,rfl,RSl.of_own (Yh F om _),(λg hg=>by have:=Yw F g hg;omega)⟩,hx.setRow (ZqE _) _⟩
   |false=>
    rw[h1,ZqH (by simp)] at C;rw[h1] at HA;clear h1;cases h2:hasAt s.data.toList N [47,62] with
    |true=>
     rw[h2,ZqN rfl] at C;rw[h2] at S;subst C;have ha:=hB.empty true;have X:BxT (wr.setCell ⟨w.heap.size+1,3,none⟩ (.bool true)) w.heap.size _:=I.other om;have hX:=Ye F (g:=w.heap.size+1) om 3 (.bool true);have O:=hx.setCell (p:=⟨w.heap.size+1,3,none⟩) (by show _<=w.heap.size+1;omega) (.bool true);obtain ⟨c0,c1,c2,c3,c4,c5,c6,c7,c8⟩:=ha.cells;dsimp only at c0 c1 c2 c3 c4 c5;clear h2
     go_wp2_with (first|(go_at_call 174;refine ZqD (V.out _) ?_;rintro e w3 ⟨rfl,rfl⟩)|(go_at_call 101;(first|(with_reducible refine ZqD (HA.out _) ?_)|(with_reducible refine ZqD (S.out _) ?_)|(with_reducible refine ZqD (HC.out _) ?_));rintro e w3 ⟨rfl,rfl⟩)|(refine ZqF rfl 110 (.tmp 4) (.tmp 61) rfl w.heap.size _ rfl rfl _ _ X Zm rfl (Yb ⟨al,⟨1,H,l,true,[],f⟩⟩ D) ?_))
     ((try simp only[Exit.inBlock,Exit.then]);refine ZqT (Zc rfl _ _ _ _ _ _ _ rfl (ZqV _ _ _ _ _ _ X) underlying110 rfl Zm) rfl ?_);exact ⟨_,rfl,⟨al,rfl,RSl.of_own (Yh hX om _),(λg hg=>by have:=Yw F g hg;omega)⟩,O.setRow (ZqE _) _⟩
    |false=>
     rw[h2,ZqH (by simp)] at C;rw[h2] at S;clear h2;cases h3:hasAt s.data.toList N [47] with
     |true=>
      have gR:=Ya h3;rw[h3,ZqN rfl] at C;rw[h3] at HC;have HM:=gd (λw'=>Yf s f (N+1) w' hU);rw[show ((N+1:Nat):Int)=(N:Int)+1 by omega] at HM;obtain ⟨x,c,Z⟩:∃x c,missP s.data.toList f (N+1)=(x,c):=⟨_,_,rfl⟩;rw[Z] at C HM;subst C;clear Z h3
      go_wp2_with (first|(go_at_call 174;refine ZqD (V.out _) ?_;rintro e w3 ⟨rfl,rfl⟩)|(go_at_call 101;(first|(with_reducible refine ZqD (HA.out _) ?_)|(with_reducible refine ZqD (S.out _) ?_)|(with_reducible refine ZqD (HC.out _) ?_));rintro e w3 ⟨rfl,rfl⟩)|(go_at_call 175;refine ZqD (HM.out _) ?_;rintro e w3 ⟨rfl,rfl⟩)|(refine ZqF rfl 110 (.tmp 4) (.tmp 76) rfl w.heap.size _ rfl rfl _ _ I Zm rfl (Yb ⟨al,⟨1,H,l,false,[],f⟩⟩ D) ?_))
      ((try simp only[Exit.inBlock,Exit.then]);refine ZqT (Zc rfl _ _ _ _ _ _ _ rfl (ZqV _ _ _ _ _ _ I) underlying110 rfl Zm) rfl ?_);exact ⟨_,rfl,⟨⟨al,⟨1,H,l,false,[],f⟩⟩,rfl,D⟩,hx.setRow (ZqE _) _⟩
     |false=>
      rw[h3,ZqH (by simp)] at C;rw[h3] at HC;clear h3;by_cases hp:N=k
      ·rw[ZqN hp] at C;have gi:((N:Int)==(k:Int))=true:=(by rw[ZsE];omega);have HM:=gd (λw'=>Yf s f k w' hU);obtain ⟨x,c,Z⟩:∃x c,missP s.data.toList f k=(x,c):=⟨_,_,rfl⟩;rw[Z] at C HM;subst C;clear Z hp
       go_wp2_with (first|(go_at_call 174;refine ZqD (V.out _) ?_;rintro e w3 ⟨rfl,rfl⟩)|(go_at_call 101;(first|(with_reducible refine ZqD (HA.out _) ?_)|(with_reducible refine ZqD (S.out _) ?_)|(with_reducible refine ZqD (HC.out _) ?_));rintro e w3 ⟨rfl,rfl⟩)|(go_at_call 175;refine ZqD (HM.out _) ?_;rintro e w3 ⟨rfl,rfl⟩)|(refine ZqF rfl 110 (.tmp 4) (.tmp 90) rfl w.heap.size _ rfl rfl _ _ I Zm rfl (Yb ⟨al,⟨1,H,l,false,[],f⟩⟩ D) ?_))
       ((try simp only[Exit.inBlock,Exit.then]);refine ZqT (Zc rfl _ _ _ _ _ _ _ rfl (ZqV _ _ _ _ _ _ I) underlying110 rfl Zm) rfl ?_);exact ⟨_,rfl,⟨⟨al,⟨1,H,l,false,[],f⟩⟩,rfl,D⟩,hx.setRow (ZqE _) _⟩
      ·rw[ZqH hp] at C;have gi:((N:Int)==(k:Int))=false:=(by rw[ZqW];omega);clear hp;have hc:=gd (λw'=>Zhk s f N w' hs om hN);cases J:attrP s.data.toList f N with
       |error xc=>
        obtain ⟨x,c⟩:=xc;have gy:=ZdO J;have gS:((c:Int) !=0)=true:=(by rw[ZrQ];omega);rw[J] at C hc;dsimp only at C;subst C;clear J gy
        go_wp2_with (first|(go_at_call 174;refine ZqD (V.out _) ?_;rintro e w3 ⟨rfl,rfl⟩)|(go_at_call 101;(first|(with_reducible refine ZqD (HA.out _) ?_)|(with_reducible refine ZqD (S.out _) ?_)|(with_reducible refine ZqD (HC.out _) ?_));rintro e w3 ⟨rfl,rfl⟩)|(go_at_call 176;refine ZqD (hc.out _) ?_;rintro e w5 ⟨v5,rfl,⟨a5,rfl⟩,hj⟩;simp only[cellsA];have Q:=hj.alloc (.cells #[.string (str a5.space),.string (str a5.name),.string (str a5.value),nI (a5.at_:Nat)] 53);have hm:=hB.ext Q;have hd:=I.ext Q;obtain ⟨c0,c1,c2,c3,c4,c5,c6,c7,c8⟩:=hm.cells)|(refine ZqF rfl 110 (.tmp 4) (.tmp 103) rfl w.heap.size _ rfl rfl _ _ hd Zm rfl (Yb ⟨al,⟨1,H,l,false,[],f⟩⟩ D) ?_))
        ((try simp only[Exit.inBlock,Exit.then]);refine ZqT (Zc rfl _ _ _ _ _ _ _ rfl (ZqV _ _ _ _ _ _ hd) underlying110 rfl Zm) rfl ?_);exact ⟨_,rfl,⟨⟨al,⟨1,H,l,false,[],f⟩⟩,rfl,D⟩,(hx.trans Q).setRow (ZqE _) _⟩
       |ok ae=>
   obtain ⟨⟨sp,an,av,gu⟩,e⟩:=ae;obtain ⟨gC,hQ,hM,gl⟩:=JF om J;rw[hO] at hQ;dsimp only at hM gl;have gh:N=gu:=hM.symm;clear hM;subst gh;subst gl;rw[J] at C hc;dsimp only at C;obtain ⟨A,c,rfl⟩:=Zp F;have gb:k<e:=om;have HE:=gd (show e<=s.size/\k<e/\l.length+1<=e from ⟨hQ,gb,by have:=he.out;omega⟩);have hl:=gd C;clear J gC hQ C gb
   go_wp2_with (first|(go_at_call 174;refine ZqD (V.out _) ?_;rintro e w3 ⟨rfl,h3⟩;have hG:=h3.symm;clear h3;subst hG)|(go_at_call 101;(first|(with_reducible refine ZqD (HA.out _) ?_)|(with_reducible refine ZqD (S.out _) ?_)|(with_reducible refine ZqD (HC.out _) ?_));rintro e w3 ⟨rfl,h3⟩;have hG:=h3.symm;clear h3;subst hG)|(go_at_call 176;refine ZqD (hc.out _) ?_;rintro e5 w5 ⟨v5,rfl,hP,hj⟩;(replace hP:v5=_:=hP);subst hP;simp only[cellsA]))
   obtain ⟨wP,gI⟩:∃wP:Wq,wP=wr:=⟨_,rfl⟩;subst gI;obtain ⟨W,hW⟩:∃W,w5.alloc (.cells #[.string (str []),.string (str an),.string (str av),nI (N:Nat)] 53)=W:=⟨_,rfl⟩;have Q:Ext wP W:=(by rw[<-hW];exact hj.alloc _);have hH:BxA W w5.heap.size ⟨[],an,av,N⟩:=(by rw[<-hW];exact ZqJ _ _);rw[hW];have hm:=hB.ext Q;have hd:=I.ext Q;have hY:=Zt F Q;have gm:=hx.trans Q;have gD:=Q.size;obtain ⟨g5,gj⟩:∃g,w5.heap.size=g:=⟨_,rfl⟩;have gp:=gd (show w.heap.size+2<=g5 by have:=hj.size;omega);rw[gj] at hH|-;clear hW gj hj Q b0 b1 b2 b3 b4 b5 b6 b7 b8 hB I F hx V HA S HC hc gi;go_loopw [19] (λv w7=>∃i:Nat,i<=l.length/\v=nI i/\Hid (∀t,t<i->∀ht:t<l.length,l[t].name≠an)/\Ext W w7) (λv _=>l.length - (intOf v).toNat)
   case atStart=>exact ⟨0,ZqO _,rfl,(by intro t ht;omega),Ext.refl _⟩
   case round=>
    obtain ⟨i,hi,rfl,hV,Y⟩:=hrel;have gU:l.length<=80000000000:=(by have:=he.out;omega);have hn:=hm.ext Y;have hL:=hd.ext Y;have hI:=hH.ext Y;have U:=Zt hY Y;obtain ⟨b0,b1,b2,b3,b4,b5,b6,b7,b8⟩:=hn.cells;dsimp only at b0 b1 b2 b3 b4 b5;obtain ⟨a0,a1,a2,a3, -⟩:=hI.cells;dsimp only at a0 a1 a2 a3;by_cases hT:i<l.length
    ·obtain ⟨ad,c',hv,J⟩:=RAts.at (RSl.of_own U) hT;injection hv with hv1 hv2 hv3;subst hv1;clear hv2 hv3;obtain ⟨x,hZ⟩:∃x,l[i]=x:=⟨_,rfl⟩;rw[hZ] at J;have e1:=J.c1;have gP:(0:Int)<=(i:Int):=om;have gT:(i:Int)<(l.length:Int):=om;have q2:∀d:Aft wr,d.w.cell? ⟨w.heap.size+1,2,none⟩=some (.slice (some ad) l.length c):=Aft.cell b2;have q1:∀d:Aft wr,d.w.cell? ⟨(ad.add (i*4)).block,(ad.add (i*4)).off+1,none⟩=some (.string (str x.name)):=Aft.cell e1;have qa:∀d:Aft wr,d.w.cell? ⟨g5,1,none⟩=some (.string (str an)):=Aft.cell a1;have hF:=gd hZ;clear hZ J e1;cases hid:((str x.name).toList==(str an).toList) with
     |true=>
      have gx:R= .error (N,10):=by
       have h0:=hl.out;rw[ZqN ?_] at h0
       ·exact h0.symm
       ·rw[Zsc];refine ⟨x,by rw[<-hF.out];exact Zq2 hT,?_⟩;have h1:str x.name=str an:=toList_inj (by simpa using hid);have h2:=ZqS (λz:ByteArray=>z.data.toList) h1;simp only[Zg] at h2;simpa using h2
      subst gx;clear hl hF;go_wp2;refine rA ?_
      repeat (first|go_big_quiet_step (skip)|quiet_step (skip))
      refine Zru ?_;rintro _ ⟨d1,rfl⟩;have gJ:=Y.trans d1.ext;clear q1 q2 qa b0 b1 b2 b3 b4 b5 b6 b7 b8 a0 a1 a2 a3 hid hn hL hI;go_wp2;have hz:=gJ.drew;have ge:=hd.ext hz;obtain ⟨p0,p1,p2,p3,p4,p5, -, -, -⟩:=(hm.ext hz).cells;dsimp only at p0 p1 p2 p3 p4 p5;have pa:d1.w.drew.cell? ⟨g5,3,none⟩=some (nI (N:Nat)):=(hH.ext hz).cells.2.2.2.1;have hw:g5≠w.heap.size:=(by have:=gp.out;omega);have pb:=(Zrs (a:=⟨g5,3,none⟩) (Zrn d1.w.drew w.heap.size g5 (cellsT ⟨.slice (some ad) l.length c,⟨1,H,l,false,[],f⟩⟩).toArray hw)).trans pa;refine rN ?_;change wpAny _ _ _ _ _ _ _ (World.drew _);refine tH 1 (.pointer (some ⟨g5,3,none⟩)) ?_;refine Yn (i:=2) (v:=nI (N:Nat)) (λw'=>w'.cell? ⟨g5,3,none⟩=some (nI (N:Nat))) 4 rfl (by kernel_rfl) (λ_ _ _ h=>h) (Or.inl ⟨by rfl,λw' hS=>by have hq:w'.cell? ⟨g5,3,none⟩=some (nI (N:Nat)):=hS;go_simp⟩) pa ?_;go_simp;refine YZ 4 [5] (AtIx.cons rfl (AtIx.cons rfl AtIx.nil)) [0,3] (AtIx.cons rfl (AtIx.cons rfl AtIx.nil)) rfl (by kernel_rfl) ?_;refine (Zq ?_:wpListS _ _ _ _ _ (_::_) _ _);intro K hK;go_simp;refine hK _ _ pa ?_;clear hK K;refine (Zq ?_:wpListS _ _ _ _ _ (_::_) _ _);intro K hK;refine Zu rfl 110 (.tmp 4) (.tmp 122) rfl w.heap.size _ rfl rfl _ _ ge Zm rfl (Yb ⟨.slice (some ad) l.length c,⟨1,H,l,false,[],f⟩⟩ rfl) ?_;refine hK _ _ pb ?_;clear hK K;refine YJ ?_;clear p0 p1 p2 p3 p4 p5 pa pb;go_wp2;((try simp only[Exit.inBlock,Exit.then]);refine ZqT (Zc rfl _ _ _ _ _ _ _ rfl (ZqV _ _ _ _ _ _ ge) underlying110 rfl Zm) rfl ?_);exact ⟨_,rfl,⟨⟨.slice (some ad) l.length c,⟨1,H,l,false,[],f⟩⟩,rfl,rfl⟩,(gm.trans hz).setRow (ZqE _) _⟩
     |false=>
      have hw:x.name≠an:=(by intro h;rw[h] at hid;simp at hid);have gr:=gd hw;clear hw;go_wp2;refine rA ?_
      repeat (first|go_big_quiet_step (skip)|quiet_step (skip))
      refine Zru ?_;rintro _ ⟨d1,rfl⟩;clear q1 q2 qa;go_wp2;go_roundw
      case rel=>
       refine ⟨i+1,om,by go_num,?_,Y.trans d1.ext⟩;intro t ht gH;by_cases gG:t<i
       ·exact hV.out t gG gH
       ·have:t=i:=om;subst this;rw[hF.out];exact gr.out
      case measure=>simp[intOf];omega
    ·have gA:i=l.length:=om;subst gA;have gQ:¬(l.length:Int)<(l.length:Int):=om;have gs:Hid (startAt s.data.toList f H e (l++ [⟨[],an,av,N⟩])=R):=by
      have h0:=hl.out;rw[ZqH ?_] at h0
      ·exact h0
      ·intro h;obtain ⟨y,hy,gK⟩:=Zsc.1 h;obtain ⟨t,ht,rfl⟩:=List.getElem_of_mem hy;exact hV.out t ht ht (by simpa using gK)
     have h4:=gd U;have gn:=gd hn;have gt:=gd hL;have gq:=gd (show l.length+1<=maxLen by have:=he.out;unfold maxLen;omega);have go:=gd (show (l.length+1)*56<=140737488355328 by have:=he.out;omega);have gE:=Y.size;have h5:=gd (show w.heap.size+2<=wr.heap.size+1 by omega);have gk:=Yw U;clear hl hV U hn hL hI he hi hT gD gE
     go_wp2_with (first|(at_builtin;refine Za _ rfl (.tmp 126) (.tmp 128) _ rfl (w.heap.size+2) 53 i0 _ 4 56 underlying22 gz gL gM gN rfl (by decide) _ _ _ rfl (h4.out.alloc _) _ 1 (cellsA ⟨[],an,av,N⟩) rfl (Zj rfl (by decide)) (XM _) gq.out go.out ?_ ?_;(rw[Zd];exact h5.out);intro v9 w9 hh hu gO;obtain ⟨A9,c9,rfl⟩:=Zp hh;(have h8:=(gn.out.ext ((Ext.refl _).alloc _)).grown hu (λe=>by have:=gk _ e;omega));(have gw:=(gt.out.ext ((Ext.refl _).alloc _)).grown hu (λe=>by have:=gk _ e;omega));obtain ⟨c0,c1,c2,c3,c4,c5,c6,c7,c8⟩:=h8.cells))
     go_roundw
     case rel=>
      have hE:=HE.out;refine ⟨e,l++ [⟨[],an,av,N⟩],_,hE.1,rfl,gs,h8.attrs _ _,gw.other om,?_,?_,?_,?_⟩
      ·rw[QT,QV,ZqG];exact Ye hh om _ _
      ·exact (Ext.app ((gm.trans Y).alloc _) hu (h4.out.alloc _) om).setCell (by show _<=w.heap.size+1;omega) _
      ·have:=hu.size;rw[Zd] at this;have h7:=h5.out;show _<=(w9.setCell ⟨w.heap.size+1,2,none⟩ (.slice A9 (l.length+1) c9)).heap.size;rw[show (w9.setCell ⟨w.heap.size+1,2,none⟩ (.slice A9 (l.length+1) c9)).heap.size=w9.heap.size by simp[World.setCell]];omega
      ·rw[ZqG];exact hE.2.2
     case measure=>have hE:=HE.out;simp[intOf];omega
end
theorem ZmJ (r:Nat):(encN r).length<=4:=by
 unfold encN
 (repeat' split)<;>simp
theorem Kk (value:Bool) (s:List UInt8) (z:Nat) (C:z<=s.length):∀(f i:Nat) (out v:List UInt8),contGo value s z f i out= .ok v->v.length<=out.length+2*(z - i)
 |0,i,out,v,h=>by
  rw[contGo] at h
  injection h with h
  rw[<-h]
  omega
 |f+1,i,out,v,h=>by
  rw[contGo] at h
  split at h
  ·injection h with h
   rw[<-h]
   omega
  ·rename_i Q
   split at h
   ·split at h
    ·rename_i r e O
     have D:=IY O
     rw[Zra] at D
     have A:=Kk value s z C f e _ v h
     rw[ZqG] at A
     have:=ZmJ r
     omega
    ·cases h
   ·rename_i I
    have J:=Uh om C I
    have A:=Kk value s z C f _ _ v h
    have F:(if value then spaced (lns (plainAt s z i)) else lns (plainAt s z i)).length<=(plainAt s z i).length:=by
     split
     ·unfold spaced
      rw[Zq9]
      exact IR _
     ·exact IR _
    have H:(plainAt s z i).length<=z - i:=by
     unfold plainAt
     have:=(Zr1 (λc:UInt8=>c !=38) (l:=(s.take z).drop i)).length_le
     rw[ZqP,Zra] at this
     omega
    rw[ZqG] at A
    unfold plainAt at F H J
    omega
theorem Zd0 {value:Bool} {s v:List UInt8} {a z:Nat} (A:z<=s.length) (h:contP value s a z= .ok v):v.length<=2*(z - a):=by
 have:=Kk value s z A _ _ _ _ h;simpa using this
def AtP.fits (n:Nat) (a:AtP):Prop:=a.space.length<=2*n/\a.name.length<=n/\a.value.length<=2*n/\a.at_<=n
theorem Zic {s:List UInt8} {f k e:Nat} {a:AtP} (F:k<=s.length) (h:attrP s f k= .ok (a,e)):a.fits s.length:=by
 unfold attrP at h;dsimp only at h;split at h
 ·cases h
 ·split at h
  ·cases h
  ·split at h
   ·cases h
   ·split at h
    ·cases h
    ·split at h
     ·cases h
     ·split at h
      ·cases h
      ·rename_i v A H _;injection h with h;injection h with ha he;subst ha;refine ⟨by simp,?_,?_,F⟩
       ·show (List.take _ (List.drop _ s)).length<=_;rw[Zra,ZqP];omega
       ·have C:=(Zr1 (λd:UInt8=>d !=(List.drop (spAt s (spAt s (nmAt s k)+1)) s).headD 0 && d !=60) (l:=s.drop (spAt s (spAt s (nmAt s k)+1)+1))).length_le;rw[ZqP] at C;show v.length<=_;by_cases I:spAt s (spAt s (nmAt s k)+1)+1<=s.length
        ·have:=Zd0 om A;omega
        ·have D:s.drop (spAt s (spAt s (nmAt s k)+1)+1)= []:=List.drop_eq_nil_of_le om;rw[D] at A;unfold contP contGo at A;rw[ZqN (by simp)] at A;injection A with A;rw[<-A];simp
structure Tok.fits (n:Nat) (t:Tok):Prop where
 name:t.name.length<=n
 cnt:t.attrs.length<=n
 attrs:∀a∈t.attrs,a.fits n
 at_:t.at_<=n
theorem Zc4 {s:List UInt8} {f:Nat} {nm:List UInt8} (A:nm.length<=s.length) (F:f<=s.length):∀(n k:Nat) (al:List AtP) (t:Tok) (e:Nat),s.length - k<n->k<=s.length->al.length<=k->(∀a∈al,a.fits s.length)->
 startAt s f nm k al= .ok (t,e)->k<e/\e<=s.length/\t.fits s.length/\t.kind=1/\t.text= []
 |0,_,_,_,_,h,_,_,_,_=>by omega
 |n+1,k,al,t,e,hn,hk,hal,hfit,h=>by
  have I:=XE (s:=s) hk;have S:=Jc s k;rw[Xj s f nm k al hk] at h;split at h
  ·rename_i H;injection h with h;injection h with h1 h2;subst h1;obtain ⟨C,_⟩:=Y7 H;exact ⟨om,om,⟨A,ZqM hal hk,hfit,F⟩,rfl,rfl⟩
  ·split at h
   ·rename_i H;injection h with h;injection h with h1 h2;subst h1;rcases Ya H with C|C
    ·have O:spAt s k+2<=s.length:=C;exact ⟨om,om,⟨A,ZqM hal hk,hfit,F⟩,rfl,rfl⟩
    ·cases C
   ·split at h
    ·cases h
    ·split at h
     ·cases h
     ·split at h
      ·cases h
      ·rename_i a e2 J;split at h
       ·cases h
       ·have C:=JF I J;have Q:=Zic I J;have R:=Zc4 A F n e2 _ t e om C.2.1 (by rw[ZqG];show _+1<=_;omega) (by
         intro b D;rcases Zq0.1 D with D|D
         ·exact hfit b D
         ·rw[ZqU] at D;rw[D];exact Q) h
        exact ⟨om,R.2⟩
theorem Zl5 {s:List UInt8} {f:Nat} {t:Tok} {e:Nat} (A:f+1<=s.length) (h:startP s f= .ok (t,e)):f<e/\e<=s.length/\t.fits s.length/\t.kind=1/\t.text= []:=by
 have C:=X7 A;rw[JE s f A] at h;split at h
 ·cases h
 ·have:=Zc4 (by rw[Zra,ZqP];omega) om _ _ _ t e (ZrB _) C.2 (ZqO _) (by intro a D;cases D) h;exact ⟨om,this.2⟩
theorem ZjB {s:List UInt8} {f x c:Nat} (A:f+1<=s.length) (h:startP s f= .error (x,c)):c≠0:=by
 have C:=X7 A;rw[JE s f A] at h;split at h
 ·have:=QY s f (nmAt s (f+1));injection h with h;rw[h] at this;omega
 ·exact Zba _ _ _ x c (ZrB _) C.2 h
theorem ZoE {s:List UInt8} {f:Nat} {t:Tok} {e:Nat} (C:f+2<=s.length) (h:endP s f= .ok (t,e)):f<e/\e<=s.length/\t.fits s.length/\t.kind=2/\t.text= []:=by
 have F:=X7 C;unfold endP at h;dsimp only at h;split at h
 ·split at h
  ·rename_i D;injection h with h;injection h with h2 h3;subst h2;obtain ⟨H,_⟩:=Y7 D;have I:=Jc s (nmAt s (f+2));exact ⟨om,om,⟨by show (List.take _ (List.drop _ s)).length<=_;rw[Zra,ZqP];omega,ZqO _,(by intro a A;cases A),by show f<=_;omega⟩,rfl,rfl⟩
  ·cases h
 ·cases h
theorem ZmK {s:List UInt8} {f x c:Nat} (h:endP s f= .error (x,c)):c≠0:=by
 have A:∀a b:Nat,(missP s a b)=(x,c)->c≠0:=λa b e=>by have:=QY s a b;rw[e] at this;omega
 unfold endP at h;dsimp only at h;split at h
 ·split at h
  ·cases h
  ·injection h with h;exact A _ _ h
 ·injection h with h;exact A _ _ h
theorem Ef {s:List UInt8} {f n e:Nat} {l:List UInt8} (A:f+n<=s.length) (h:skipP s f n l= .ok e):f+n+l.length<=e/\e<=s.length:=by
 unfold skipP at h;split at h
 ·cases h
 ·rename_i i C;have:=Zab A C;injection h with h;omega
theorem JD {s:List UInt8} {f n x c:Nat} {l:List UInt8} (h:skipP s f n l= .error (x,c)):c=8/\x=f:=by
 unfold skipP at h;split at h
 ·injection h with h;injection h with h1 h2;exact ⟨h2.symm,h1.symm⟩
 ·cases h
theorem Vn {n k:Nat} (t:List UInt8) (h:k<=n):(dataT t k).fits n:=⟨ZqO _,ZqO _,(by intro a A;cases A),h⟩
theorem Ks {s:List UInt8} {f:Nat} {c:UInt8} (A:f<s.length) (C:hasAt s f [c]=false):f<(findAt s f [c]).getD s.length/\(findAt s f [c]).getD s.length<=s.length:=by
 rw[ZaM A C];cases h:findAt s (f+1) [c] with
 |none=>exact ⟨A,ZqE _⟩
 |some i=>have:=Zab om h;show f<i/\i<=_;have D:=this.2;omega
theorem Yi {s:List UInt8} {f:Nat} {t:Tok} {e:Nat} (J:f<s.length) (h:constructP s f= .ok (t,e)):
 f<e/\e<=s.length/\t.fits s.length/\t.text.length<=2*(e - f)/\(t.kind=1\/t.kind=2\/t.kind=3):=by
 unfold constructP at h;split at h
 ·rename_i D;split at h
  ·cases h
  ·rename_i I F;injection h with h;injection h with h1 h2;subst h1;subst h2;have A:f+2<=s.length:=(by rcases Ya D with A|A;exact A;cases A);have C:=Ef A F;exact ⟨om,C.2,Vn _ (ZqO _),ZqO _,Or.inr (Or.inr rfl)⟩
 ·split at h
  ·rename_i D;split at h
   ·cases h
   ·rename_i I F;injection h with h;injection h with h1 h2;subst h1;subst h2;have A:f+4<=s.length:=(by rcases Ya D with A|A;exact A;cases A);have C:=Ef A F;exact ⟨om,C.2,Vn _ (ZqO _),ZqO _,Or.inr (Or.inr rfl)⟩
  ·split at h
   ·rename_i D;split at h
    ·cases h
    ·rename_i I F;injection h with h;injection h with h1 h2;subst h1;subst h2;have A:f+9<=s.length:=(by rcases Ya D with A|A;exact A;cases A);have C:=Ef A F;refine ⟨om,C.2,Vn _ om,?_,Or.inr (Or.inr rfl)⟩;show (lns _).length<=_;have:=IR ((s.drop (f+9)).take (I - 3 - (f+9)));rw[Zra] at this;omega
   ·split at h
    ·cases h
    ·split at h
     ·cases h
     ·split at h
      ·rename_i D;have A:f+2<=s.length:=(by rcases Ya D with A|A;exact A;cases A);have C:=ZoE A h;exact ⟨C.1,C.2.1,C.2.2.1,by rw[C.2.2.2.2];exact ZqO _,Or.inr (Or.inl C.2.2.2.1)⟩
      ·split at h
       ·have C:=Zl5 J h;exact ⟨C.1,C.2.1,C.2.2.1,by rw[C.2.2.2.2];exact ZqO _,Or.inl C.2.2.2.1⟩
       ·rename_i D;have H:=Ks J (by simpa using D);dsimp only at h;split at h
        ·cases h
        ·rename_i v Q;injection h with h;injection h with h1 h2;subst h1;have O:=Zd0 H.2 Q;rw[h2] at H O;exact ⟨H.1,H.2,Vn _ om,O,Or.inr (Or.inr rfl)⟩
theorem V8 {s:List UInt8} {f x c:Nat} (C:f<s.length) (h:constructP s f= .error (x,c)):c≠0:=by
 unfold constructP at h;split at h
 ·split at h
  ·rename_i y A;obtain ⟨y1,y2⟩:=y;have:=JD A;injection h with h;injection h with _ h;omega
  ·cases h
 ·split at h
  ·split at h
   ·rename_i y A;obtain ⟨y1,y2⟩:=y;have:=JD A;injection h with h;injection h with _ h;omega
   ·cases h
  ·split at h
   ·split at h
    ·rename_i y A;obtain ⟨y1,y2⟩:=y;have:=JD A;injection h with h;injection h with _ h;omega
    ·cases h
   ·split at h
    ·injection h with h;injection h with _ h;omega
    ·split at h
     ·injection h with h;injection h with _ h;omega
     ·split at h
      ·exact ZmK h
      ·split at h
       ·exact ZjB C h
       ·dsimp only at h;split at h
        ·rename_i y A;obtain ⟨y1,y2⟩:=y;have:=JH _ _ _ _ _ _ _ _ A;injection h with h;injection h with _ h;omega
        ·cases h
theorem QC (s:List UInt8):∀(n m k:Nat) (l:List Tok),s.length - k<n->s.length - k<m->toksGo s n k l=toksGo s m k l
 |0,_,_,_,h,_=>by omega
 |_+1,0,_,_,_,h=>by omega
 |n+1,m+1,k,l,h1,h2=>by
  unfold toksGo
  split
  ·rfl
  ·cases hc:constructP s k with
   |error x=>rfl
   |ok te=>
    obtain ⟨t,e⟩:=te
    have:=Yi om hc
    exact QC s n m e _ om om
def keeps (t:Tok):Prop:=t.kind≠3\/t.text≠ []
instance (t:Tok):Decidable (keeps t):=inferInstanceAs (Decidable (_\/_))
def toksAt (s:List UInt8) (k:Nat) (l:List Tok):Except PErr (List Tok):=toksGo s (s.length - k+1) k l
theorem XW {s:List UInt8} {k:Nat} {l:List Tok} (h:s.length<=k):toksAt s k l= .ok l:=by
 unfold toksAt toksGo;rw[ZqN h]
theorem YY {s:List UInt8} {k e:Nat} {l:List Tok} {t:Tok} (h:k<s.length) (A:constructP s k= .ok (t,e)):toksAt s k l=toksAt s e (if keeps t then l++ [t] else l):=by
 have:=Yi h A;unfold toksAt;rw[toksGo,ZqH om,A];exact QC s _ _ _ _ om om
theorem J1 {s:List UInt8} {k:Nat} {l:List Tok} {x:PErr} (h:k<s.length) (A:constructP s k= .error x):toksAt s k l= .error x:=by
 unfold toksAt;rw[toksGo,ZqH om,A]
theorem Vf (s:List UInt8):toksP s=if (check s).2≠0 then .error (check s) else toksAt s (if hasAt s 0 [239,187,191] then 3 else 0) []:=by
 unfold toksP;split
 ·rfl
 ·split
  ·exact QC s _ _ _ _ om om
  ·rfl
structure Toks.fits (n:Nat) (k:Nat) (l:List Tok):Prop where
 len:l.length<=k
 each:∀t∈l,t.fits n
 text:(l.map λt=>t.text.length).sum<=2*k
 kind:∀t∈l,t.kind=1\/t.kind=2\/t.kind=3
theorem Toks.fits.nil (n k:Nat):Toks.fits n k []:=⟨ZqO _,(by intro t h;cases h),ZqO _,(by intro t h;cases h)⟩
theorem Toks.fits.later {n k e:Nat} {l:List Tok} (h:Toks.fits n k l) (A:k<=e):Toks.fits n e l:=⟨ZqM h.len A,h.each,ZqM h.text om,h.kind⟩
theorem Toks.fits.add {s:List UInt8} {k e:Nat} {l:List Tok} {t:Tok} (h:Toks.fits s.length k l) (F:k<s.length) (D:constructP s k= .ok (t,e)):Toks.fits s.length e (l++ [t]):=by
 have C:=Yi F D;refine ⟨?_,?_,?_,?_⟩
 ·rw[ZqG];have:=h.len;show _+1<=_;omega
 ·intro u A;rcases Zq0.1 A with A|A
  ·exact h.each u A
  ·rw[ZqU] at A;rw[A];exact C.2.2.1
 ·rw[Zrf,ZsS];have:=h.text;simp only[Zq8,Zrz,List.sum_cons,List.sum_nil];omega
 ·intro u A;rcases Zq0.1 A with A|A
  ·exact h.kind u A
  ·rw[ZqU] at A;rw[A];exact C.2.2.2.2
theorem Zbe {s:List UInt8}:∀(n k:Nat) (l L:List Tok),s.length - k<n->k<=s.length->Toks.fits s.length k l->toksAt s k l= .ok L->Toks.fits s.length s.length L
 |0,_,_,_,h,_,_,_=>by omega
 |n+1,k,l,L,hn,hk,hfit,h=>by
  by_cases A:s.length<=k
  ·rw[XW A] at h
   injection h with h
   rw[<-h]
   exact hfit.later hk
  ·cases hc:constructP s k with
   |error x=>rw[J1 om hc] at h;cases h
   |ok te=>
    obtain ⟨t,e⟩:=te
    have C:=Yi om hc
    rw[YY om hc] at h
    refine Zbe n e _ L om C.2.1 ?_ h
    split
    ·exact hfit.add om hc
    ·exact hfit.later om
theorem VJ {s:List UInt8} {L:List Tok} (h:toksP s= .ok L):Toks.fits s.length s.length L:=by
 rw[Vf] at h;split at h
 ·cases h
 ·refine Zbe _ _ _ L (ZrB _) ?_ (Toks.fits.nil _ _) h;split
  ·rename_i C;rcases Ya C with A|A
   ·exact A
   ·cases A
  ·exact ZqO _
def sizes (l:List ByteArray):Nat:=(l.map ByteArray.size).sum
def fok (f:Fd):Prop:=i64ok f.upd/\f.path.length+sizes f.path+f.id.size+f.title.size+f.link.size<=16777216
theorem Yd {l:List ByteArray} {s:ByteArray} (h:s∈l):s.size<=sizes l:=by
 induction l with
 |nil=>simp at h
 |cons x t ih=>
  have e:sizes (x::t)=x.size+sizes t:=by unfold sizes;simp
  rcases Zq1.1 h with rfl|h
  ·omega
  ·have:=ih h;omega
theorem ZI (w:Wq) (A B:Obj):((w.alloc A).alloc B).heap[w.heap.size+1]? =some B:=by
 have:=ZqJ (w.alloc A) B
 rwa [Zd] at this
structure Fc where
 p:Value
 es:Value
 f:Fd
def cellsC (x:Fc):List Value:=fCells x.p x.es x.f
def isSl (v:Value):Prop:=∃A n c,v= .slice A n c
def slC (x:Fc):Prop:=isSl x.p/\isSl x.es
theorem ZbU {x:Fc} (h:slC x):∀u∈cellsC x,u.oneCell'=true:=by
 obtain ⟨p,es,f⟩:=x;obtain ⟨⟨A,n,c,C⟩,⟨B,m,d,D⟩⟩:=h;simp only at C D;subst C D;intro u F;simp only[cellsC,fCells,Zq1,Zri,ZrD] at F;rcases F with rfl|rfl|rfl|rfl|rfl|rfl<;>rfl
def RdC (w:Wq) (x:Fc):Prop:=RStrs w x.p x.f.path/\REnts w x.es x.f.ents
theorem RdC.ext {w w':Wq} {x:Fc} (h:RdC w x) (A:Ext w w'):RdC w' x:=⟨h.1.ext A,h.2.ext A⟩
theorem RdC.sl {w:Wq} {x:Fc} (h:RdC w x):slC x:=by
 obtain ⟨A,c,e,_⟩:=h.1.form;obtain ⟨B,d,C,_⟩:=h.2.form;exact ⟨⟨A,_,c,e⟩,⟨B,_,d,C⟩⟩
theorem KD {A:Option Addr} {n c:Nat} {B:Option Addr} {m d:Nat} {i t l:ByteArray} {u:Int}:(#[Value.slice A n c,.string i,.string t,.string l,nI u,.slice B m d]).all (λu=>u.oneCell')=true:=
 Vc (ZbU (x:=⟨.slice A n c,.slice B m d,⟨[],i,t,l,u,[]⟩⟩) ⟨⟨_,_,_,rfl⟩,⟨_,_,_,rfl⟩⟩)
theorem RSl.grown {w w':Wq} {size n:Nat} {v:Value} {xs:List Value} {r:Option Nat} (h:RSl w size v n xs) (R:w.grownBy w' r) (C:xs= []\/v.ownBlock≠r):RSl w' size v n xs:=by
 obtain ⟨F,A,c,rfl,H,I,J,O⟩:=h;refine ⟨F,A,c,rfl,H,I,J,λj u D=> ?_⟩;obtain ⟨ad,rfl,Q⟩:=O j u D;refine ⟨ad,rfl,R.cell Q ?_⟩;rw[Xt];rcases C with C|C
 ·subst C;simp at D
 ·exact C
theorem RSl.old {w:Wq} {size n:Nat} {v:Value} {xs:List Value} (h:RSl w size v n xs) (C:xs≠ []):∃g,v.ownBlock=some g/\g<w.heap.size:=by
 obtain ⟨H,A,c,rfl,I,J,O,D⟩:=h;cases xs with
 |nil=>exact absurd rfl C
 |cons u t=>
  obtain ⟨ad,rfl,F⟩:=D 0 u rfl;refine ⟨ad.block,rfl,?_⟩;have:=ZrL w _ F
  rwa [Xt] at this
def awayC (x:Fc) (r:Option Nat):Prop:=(x.f.path= []\/x.p.ownBlock≠r)/\(x.f.ents= []\/x.es.ownBlock≠r)
theorem RdC.grown {w w':Wq} {x:Fc} {r:Option Nat} (h:RdC w x) (C:w.grownBy w' r) (A:awayC x r):RdC w' x:=
 ⟨RSl.grown h.1 C (A.1.imp (λe=>by rw[e];rfl) λe=>e),RSl.grown h.2 C (A.2.imp (λe=>by rw[e];rfl) λe=>e)⟩
section
theorem V4:∀(l out:List UInt8) (g:Bool),(collGo l out g).length<=out.length+l.length+(if g=true then 1 else 0)
 | [],out,g=>by simp only[collGo,Zq5];omega
 |c::t,out,g=>by
  simp only[collGo]
  by_cases h:isSp c.toNat=true
  ·rw[ZqN h]
   have:=V4 t out (!out.isEmpty)
   rw[ZqK]
   split at this<;>omega
  ·rw[ZqH h]
   have:=V4 t (out++(if g=true then [32] else [])++ [c]) false
   simp only[ZrW,ZsJ,ZqG,ZqK,Zq5] at this
   rw[ZqK]
   cases g
   ·simp only[ZrW,ZsJ,Zq5] at this|-;omega
   ·simp only[Zsy,ZqK,Zq5] at this|-;omega
theorem ZO (s:ByteArray):(collapse s).size<=s.size:=by
 unfold collapse coll;rw[Zo];have:=V4 s.data.toList [] false;simp only[ZrW,ZsJ,Zq5] at this;rw[Zb] at this;omega
theorem Zcd {e:Ent} (h:eok e):eok (collE e):=by
 obtain ⟨A,C⟩:=h;refine ⟨A,?_⟩;have a:=ZO e.id;have b:=ZO e.title;have c:=ZO e.link;have d:=ZO e.content;show (collapse e.id).size+(collapse e.title).size+(collapse e.link).size+(collapse e.content).size<=16777216;omega
section
variable {α κ:Type} (O:Ord α κ)
end
section
variable {α κ:Type} [DecidableEq κ] (O:Ord α κ)
end
def fokS (f:Fd):Prop:=fok f/\f.ents.length<=1000000/\∀e∈f.ents,eok e
end
end Go.Proofs.YtmfinhgobjbecaaGreatDoor
