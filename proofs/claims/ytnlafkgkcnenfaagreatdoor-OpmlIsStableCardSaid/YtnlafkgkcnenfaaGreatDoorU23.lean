/- Parts of the proof: contracts and plain laws. -/
import Derived.Test.YtnlafkgkcnenfaaGreatDoorProg
import Derived.Test.YtnlafkgkcnenfaaGreatDoorU15
namespace Go.Proofs.YtnlafkgkcnenfaaGreatDoor
open Go Go.RowKit Go.Shelf _root_.Go.Proofs.Tryz
set_option linter.unusedVariables false
set_option linter.unusedSimpArgs false
set_option maxRecDepth 100000
set_option maxHeartbeats 16000000
theorem Env.drew {w:Wq} (h:Env w):Env w.drew:=h.ext (Ext.refl w).drew
def laysM173_ren:Go.Shelf.Ren:=⟨fun|173=>220|246=>237|283=>243|284=>244|285=>245|286=>246|129=>170|317=>248|318=>249|319=>250|320=>251|337=>252|338=>253|n=>n,fun|2=>2|3=>3|9=>9|4=>4|171=>292|0=>0|53=>144|37=>94|5=>5|173=>294|212=>298|51=>141|20=>20|213=>299|46=>89|232=>302|233=>303|n=>n,fun|17=>5|18=>7|19=>8|n=>n⟩
theorem laysM173:Go.Proofs.LaysM.n173 prog laysM173_ren:={
 mixed:=by kernel_rfl
 f129:=func170.trans (Zz some (by kernel_rfl))
 f173:=func220.trans (Zz some (by kernel_rfl))
 f246:=func237.trans (Zz some (by kernel_rfl))
 f283:=func243.trans (Zz some (by kernel_rfl))
 f284:=func244.trans (Zz some (by kernel_rfl))
 f285:=func245.trans (Zz some (by kernel_rfl))
 f286:=func246.trans (Zz some (by kernel_rfl))
 f317:=func248.trans (Zz some (by kernel_rfl))
 f318:=func249.trans (Zz some (by kernel_rfl))
 f319:=func250.trans (Zz some (by kernel_rfl))
 f320:=func251.trans (Zz some (by kernel_rfl))
 f337:=func252.trans (Zz some (by kernel_rfl))
 f338:=func253.trans (Zz some (by kernel_rfl))
 t0:=underlying0
 a0:=isAgg0
 z0:=sizeOf0
 v0:=zeroValue0
 t2:=underlying2
 a2:=isAgg2
 z2:=sizeOf2
 v2:=zeroValue2
 t3:=underlying3
 a3:=isAgg3
 z3:=sizeOf3
 v3:=zeroValue3
 t4:=underlying4
 a4:=isAgg4
 z4:=sizeOf4
 v4:=zeroValue4
 t5:=underlying5
 a5:=isAgg5
 z5:=sizeOf5
 v5:=zeroValue5
 t9:=underlying9
 a9:=isAgg9
 z9:=sizeOf9
 v9:=zeroValue9
 t20:=underlying20
 a20:=isAgg20
 z20:=sizeOf20
 v20:=zeroValue20
 t37:=underlying94
 a37:=isAgg94
 z37:=sizeOf94
 v37:=zeroValue94
 t46:=underlying89
 a46:=isAgg89
 z46:=sizeOf89
 v46:=zeroValue89
 t51:=underlying141
 a51:=isAgg141
 z51:=sizeOf141
 v51:=zeroValue141
 t53:=underlying144
 a53:=isAgg144
 z53:=sizeOf144
 v53:=zeroValue144
 t171:=underlying292
 a171:=isAgg292
 z171:=sizeOf292
 v171:=zeroValue292
 t173:=underlying294
 a173:=isAgg294
 z173:=sizeOf294
 v173:=zeroValue294
 t212:=underlying298
 a212:=isAgg298
 z212:=sizeOf298
 v212:=zeroValue298
 t213:=underlying299
 a213:=isAgg299
 z213:=sizeOf299
 t232:=underlying302
 a232:=isAgg302
 z232:=sizeOf302
 v232:=zeroValue302
 t233:=underlying303
 a233:=isAgg303
 z233:=sizeOf303
 v233:=zeroValue303
 g17:=by kernel_rfl
 g18:=by kernel_rfl
 g19:=by kernel_rfl
 i0:=by kernel_rfl
 i2:=by kernel_rfl
 i3:=by kernel_rfl
 i4:=by kernel_rfl
 i5:=by kernel_rfl
 i9:=by kernel_rfl
 i20:=by kernel_rfl
 i37:=by kernel_rfl
 i46:=by kernel_rfl
 i51:=by kernel_rfl
 i53:=by kernel_rfl
 i171:=by kernel_rfl
 i173:=by kernel_rfl
 i212:=by kernel_rfl
 i232:=by kernel_rfl
 i233:=by kernel_rfl
 m17:=by kernel_rfl
 m18:=by kernel_rfl
 m19:=by kernel_rfl}
open Go.RowKit Go.Sort Go.Lib in
theorem strconv_FormatInt_10 (n : Int) (h0 : -9223372036854775808 ≤ n) (h1 : n ≤ 9223372036854775807) (w : World) (htab : Lib.TabIs prog w "internal/strconv.uint64pow10" .u64 Lib.pow10Tab) :
 Calls prog 220 #[.int .i64 n,.int .i64 10] w λe w'=>e= .returned (.string ⟨(Lib.itoa n).toArray⟩)/\∃k os,w'=grow (w.drewN k) os:=Any.strconv_FormatInt_10 laysM173 n h0 h1 w htab
theorem J5:BT 245:=⟨by kernel_rfl,by decide⟩
def quoteS (s:ByteArray):ByteArray×Nat:=if Lib.validD s.data.toList then (str (quoteL s.data.toList),0) else (str [],5)
theorem ZnW (l:List UInt8) (k:Nat) (F:k<l.length):Lib.validD (l.drop k)=if (dec (l.drop k)).2=0 then false else Lib.validD (l.drop (k+(dec (l.drop k)).2)):=by
 have A:l.drop k≠ []:=by intro h;have:=Zz List.length h;simp at this;omega
 rw[Lib.validD_step _ A];have D:dec (l.drop k)=if (Lib.decodeL (l.drop k)).1=65533/\(Lib.decodeL (l.drop k)).2=1 then (0,0) else Lib.decodeL (l.drop k):=by unfold dec;rw[Ze A]
 by_cases h:(Lib.decodeL (l.drop k)).1=65533/\(Lib.decodeL (l.drop k)).2=1
 ·rw[Zi h] at D|-;rw[D];rfl
 ·rw[Ze h] at D|-;rw[D,Ze,List.drop_drop];rw[UM];have:=(Gs (l.drop k).length ((l.drop k).getD 0 0).toNat ((l.drop k).getD 1 0).toNat ((l.drop k).getD 2 0).toNat ((l.drop k).getD 3 0).toNat (Xt.2 A)).1;omega
def letterN (c:Nat):Nat:=if c=34\/c=92 then c else if c=8 then 98 else if c=9 then 116 else if c=10 then 110 else if c=12 then 102 else if c=13 then 114 else 0
theorem Zgq (c:UInt8) (h:letterN c.toNat≠0):escB c= [92,UInt8.ofNat (letterN c.toNat)]:=by
 unfold letterN at h|-;unfold escB;by_cases A:c.toNat=34\/c.toNat=92
 ·rw[Zi A,Zi A];simp
 ·rw[Ze A] at h|-;rw[Ze A];have hc:c.toNat=8\/c.toNat=9\/c.toNat=10\/c.toNat=12\/c.toNat=13:=by by_cases a:c.toNat=8<;>by_cases b:c.toNat=9<;>by_cases d:c.toNat=10<;>by_cases e:c.toNat=12<;>by_cases f:c.toNat=13<;>simp_all
  rcases hc with e|e|e|e|e<;>rw[e]<;>rfl
theorem ZmD (c:UInt8) (h:letterN c.toNat=0) (D:c.toNat<32):escB c= [92,117,48,48,hexD (c.toNat / 16),hexD (c.toNat % 16)]:=by
 unfold letterN at h;unfold escB;by_cases A:c.toNat=34\/c.toNat=92
 ·omega
 ·rw[Ze A] at h|-;rw[Ze om];by_cases a:c.toNat=8
  ·rw[Zi a] at h;omega
  ·rw[Ze a] at h|-;by_cases b:c.toNat=9
   ·rw[Zi b] at h;omega
   ·rw[Ze b] at h;by_cases d:c.toNat=10
    ·rw[Zi d] at h;omega
    ·rw[Ze d] at h;by_cases e:c.toNat=12
     ·rw[Zi e] at h;omega
     ·rw[Ze e] at h|-;by_cases f:c.toNat=13
      ·rw[Zi f] at h;omega
      ·rw[Ze d,Ze f,Ze b]
theorem Zgp (c:UInt8):(escB c).length<=6:=by
 unfold escB
 repeat' split
 all_goals simp
theorem Zny (c:UInt8):(qB c).length<=6:=by
 unfold qB;split
 ·simp
 ·exact Zgp c
theorem ZmI (l:List UInt8):(l.flatMap qB).length<=6*l.length:=by
 induction l with
 |nil=>simp
 |cons c t ih=>have:=Zny c;simp only[YV,Zb,Zd];omega
def qPre (l:List UInt8) (k:Nat):List UInt8:=34::(l.take k).flatMap qB
theorem ZlN (s:ByteArray) (k:Nat) (h:k<s.size):qPre s.data.toList (k+1)=qPre s.data.toList k++qB s[k]:=by
 unfold qPre;rw[Zr (by rw[ZN];exact h)];simp;rfl
theorem ZnB (l:List UInt8) (k:Nat):(qPre l k).length<=1+6*k:=by
 unfold qPre;have h:=ZmI (l.take k);have A:(l.take k).length<=k:=List.length_take_le _ _;simp only[Zd];omega
theorem ZnA (l:List UInt8):qPre l l.length++ [34]=quoteL l:=by
 unfold qPre quoteL;simp
def lays196_ren:Go.Shelf.Ren:=⟨fun|196=>235|259=>242|n=>n,fun|9=>9|4=>4|3=>3|5=>5|12=>12|119=>287|0=>0|46=>89|139=>290|138=>289|53=>144|n=>n,fun|3=>3|4=>4|n=>n⟩
theorem lays196:Go.Proofs.Lays.n196 prog lays196_ren:={
 mixed:=by kernel_rfl
 f196:=func235.trans (Zz some (by kernel_rfl))
 f259:=func242.trans (Zz some (by kernel_rfl))
 t0:=underlying0
 a0:=isAgg0
 z0:=sizeOf0
 v0:=zeroValue0
 t3:=underlying3
 a3:=isAgg3
 z3:=sizeOf3
 v3:=zeroValue3
 t4:=underlying4
 a4:=isAgg4
 z4:=sizeOf4
 v4:=zeroValue4
 t5:=underlying5
 a5:=isAgg5
 z5:=sizeOf5
 v5:=zeroValue5
 t9:=underlying9
 a9:=isAgg9
 z9:=sizeOf9
 v9:=zeroValue9
 t12:=underlying12
 a12:=isAgg12
 z12:=sizeOf12
 v12:=zeroValue12
 t46:=underlying89
 a46:=isAgg89
 z46:=sizeOf89
 v46:=zeroValue89
 t53:=underlying144
 a53:=isAgg144
 z53:=sizeOf144
 v53:=zeroValue144
 t119:=underlying287
 a119:=isAgg287
 z119:=sizeOf287
 t138:=underlying289
 a138:=isAgg289
 z138:=sizeOf289
 v138:=zeroValue289
 t139:=underlying290
 a139:=isAgg290
 z139:=sizeOf290
 v139:=zeroValue290
 g3:=by kernel_rfl
 g4:=by kernel_rfl}
open Go.RowKit in
theorem utf8_ValidString (s:ByteArray) (w:Wq) (A:s.size<=9223372036854775807) (h:Lib.Utf8Tabs 3 4 w):
 Calls prog 235 #[.string s] w λe w'=>e= .returned (.bool (Lib.validD s.data.toList))/\Below w.heap.size w w':=Any.utf8_ValidString lays196 s w A h
section
theorem UW (s:ByteArray) (w:Wq) (h:Env w) (A:s.size<=16777216):
 Calls prog 235 #[.string s] w λe w'=>e= .returned (.bool (Lib.validD s.data.toList))/\Ext w w':=
 utf8_ValidString s w om h.utf8
theorem Zo0 (n:Nat) (h:n<16):({data:=#[48,49,50,51,52,53,54,55,56,57,97,98,99,100,101,102]}:ByteArray).extract ((n:Int)).toNat ((n:Int)+1).toNat=str [hexD n]:=by
 have hc:n=0\/n=1\/n=2\/n=3\/n=4\/n=5\/n=6\/n=7\/n=8\/n=9\/n=10\/n=11\/n=12\/n=13\/n=14\/n=15:=om
 rcases hc with rfl|rfl|rfl|rfl|rfl|rfl|rfl|rfl|rfl|rfl|rfl|rfl|rfl|rfl|rfl|rfl<;>exact Vb (by decide)
theorem Zos (x:Int) (a b:Nat) (D:a<16) (F:b<16) (h:x / 16=(a:Int)) (A:x % 16=(b:Int)):
 ({data:=#[92,117,48,48]}:ByteArray)++({data:=#[48,49,50,51,52,53,54,55,56,57,97,98,99,100,101,102]}:ByteArray).extract (x / 16).toNat (x / 16+1).toNat++({data:=#[48,49,50,51,52,53,54,55,56,57,97,98,99,100,101,102]}:ByteArray).extract (x % 16).toNat (x % 16+1).toNat=str [92,117,48,48,hexD a,hexD b]:=by
 rw[h,A,Zo0 a D,Zo0 b F];rfl
attribute [local go_sem] Zo8 Zpi Zpj Zpk Zpl Zpm
theorem ZiC (c:UInt8) (w:Wq) (hE:Env w):
 Calls prog 247 #[.int .u8 (c.toNat:Nat)] w λe w'=>e= .returned (.string (str (escB c)))/\Ext w w':=by
 obtain ⟨L,Q⟩:∃L,escB c=L:=⟨_,rfl⟩;rw[Q];have D:=gd Q;clear Q;obtain ⟨x,R⟩:∃x:Int,(c.toNat:Int)=x:=⟨_,rfl⟩;have S:=Ue c;rw[R] at S|-;have hh:0<=x:=om
 have F:=gd R;clear R;obtain ⟨t,fr,A⟩:=hE.letters;by_cases hq:x=34\/x=92
 ·have H:Hid (L= [92,UInt8.ofNat x.toNat]):=by show _=_;have:=F.out;rw[<-D.out];unfold escB;rw[Zi om,show x.toNat=c.toNat by omega];simp
  clear F D;rcases hq with rfl|rfl
  all_goals go_enter func247,ntmps247
  all_goals go_wp2
  all_goals go_ret
  all_goals exact ⟨by rw[H.out];rfl,by repeat (first|exact Ext.refl _|apply Ext.drew|apply Ext.alloc|(refine Ext.setCell ?_ (by simp) _))⟩
 ·have I:(x==34)=false:=by rw[Zv];omega
  have J:(x==92)=false:=by rw[Zv];omega
  clear hq;by_cases hg:32<=x
  ·have H:Hid (L= []):=(by show _=_;have:=F.out;rw[Zv] at I J;rw[<-D.out];unfold escB;rw[Ze om,Zi om]);go_enter func247,ntmps247;go_wp2
   all_goals go_ret
   all_goals exact ⟨by rw[H.out];rfl,Ext.refl _⟩
  ·have K:(x=8\/x=9\/x=10\/x=12\/x=13)\/(x≠8/\x≠9/\x≠10/\x≠12/\x≠13):=om;rcases K with K|K
   ·have H:Hid (L= [92,UInt8.ofNat (letterN x.toNat)]):=(by show _=_;have:=F.out;rw[<-D.out,Zgq c (by rcases K with h|h|h|h|h<;>(rw[show c.toNat=x.toNat by omega,h];decide)),show c.toNat=x.toNat by omega]);clear F D;clear I J;rcases K with rfl|rfl|rfl|rfl|rfl
    all_goals go_enter func247,ntmps247
    all_goals go_wp2_with (refine wpList_load_row rfl 301 _ rfl 6 rfl t _ fr _ A underlying301 rfl (by kernel_rfl) ?_)
    all_goals refine Jo 5 ?_
    all_goals rw[rounds_succ]
    all_goals go_wp2
    all_goals try rw[rounds_succ]
    all_goals try go_wp2
    all_goals try rw[rounds_succ]
    all_goals try go_wp2
    all_goals try rw[rounds_succ]
    all_goals try go_wp2
    all_goals try rw[rounds_succ]
    all_goals try go_wp2
    all_goals go_ret
    all_goals exact ⟨by rw[H.out,Ql];rfl,by repeat (first|exact Ext.refl _|apply Ext.drew|apply Ext.alloc|(refine Ext.setCell ?_ (by simp) _))⟩
   ·obtain ⟨n8,n9,Y,Z,hc⟩:=K;obtain ⟨a,ha⟩:∃a,c.toNat / 16=a:=⟨_,rfl⟩;obtain ⟨b,hb⟩:∃b,c.toNat % 16=b:=⟨_,rfl⟩;have X:=F.out;have H:Hid (L= [92,117,48,48,hexD a,hexD b]):=(by show _=_;rw[Zv] at I J;rw[<-D.out,ZmD c (by unfold letterN;(repeat' split)<;>omega) om,ha,hb]);have m8:((8:Int)==x)=false:=(by rw[Zv];omega);have m9:((9:Int)==x)=false:=(by rw[Zv];omega);have hi:((10:Int)==x)=false:=(by rw[Zv];omega);have hj:((12:Int)==x)=false:=(by rw[Zv];omega);have hk:((13:Int)==x)=false:=(by rw[Zv];omega);have U:Hid (x / 16=(a:Int)):=(by show _=_;omega);have V:Hid (x % 16=(b:Int)):=(by show _=_;omega);have hd:(a:Int)<16:=om;have he:(b:Int)<16:=om;clear F D n8 n9 Y Z hc ha hb X;go_enter func247,ntmps247
    go_wp2_with (refine wpList_load_row rfl 301 _ rfl 6 rfl t _ fr _ A underlying301 rfl (by kernel_rfl) ?_)
    refine Jo 6 ?_;rw[rounds_succ];go_wp2;rw[rounds_succ];go_wp2;rw[rounds_succ];go_wp2;rw[rounds_succ];go_wp2;rw[rounds_succ];go_wp2;rw[rounds_succ];go_wp2
    go_region
    have ht:=Zos x a b om om U.out V.out;rw[ht,<-H.out];clear ht;go_wp2;go_ret;exact ⟨rfl,by repeat (first|exact Ext.refl _|apply Ext.drew|apply Ext.alloc|(refine Ext.setCell ?_ (by simp) _))⟩
end
theorem ZlQ (s:ByteArray) (w:Wq) (hE:Env w) (hs:s.size<=16777216):
 Calls prog 238 #[.string s] w λe w'=>e= .returned (.tuple #[.string (quoteS s).1,nI ((quoteS s).2:Nat)])/\Ext w w':=by
 have R:=UW s w hE hs;obtain ⟨V,hV⟩:∃V,Lib.validD s.data.toList=V:=⟨_,rfl⟩;rw[hV] at R;have U:quoteS s=if V then (str (quoteL s.data.toList),0) else (str [],5):=by unfold quoteS;rw[hV]
 rw[U];clear U hV;have Z:=gd R;clear R;cases V
 ·go_enter func238,ntmps238
  go_wp2_with (go_at_call 235;refine (Z.out).mono ?_;rintro e w' ⟨rfl,hx⟩)
  go_ret2
  exact ⟨rfl,hx⟩
 ·obtain ⟨Q,hQ⟩:∃Q,quoteL s.data.toList=Q:=⟨_,rfl⟩;rw[hQ];have HQ:=gd hQ;clear hQ;simp only[Us];go_enter func238,ntmps238
  go_wp2_with (go_at_call 235;refine (Z.out).mono ?_;rintro e w1 ⟨rfl,hx⟩)
  refine (Jc w1.heap.size _ [] _ _ (Lib.fresh_isBuilder _ _ _) (by simp) (by simp)).mono ?_;rintro e w2 ⟨rfl,hr,ho⟩;have hw:Ext w w2:=(hx.alloc _).then (XF ho hx.size);have ht:w1.heap.size<=w2.heap.size:=by have:=ho.size;simp at this;omega
  have hj:=hx.size;go_wp2;go_loopw [5,6,7,14] (λfr _ _ i wr=>∃k f:Nat,k<=s.size/\f<=k/\i=nI k/\fr=nI f/\Lib.IsBuilder 96 5 w1.heap.size w1.heap.size (Lib.byteCells (qPre s.data.toList f)) wr/\
   Hid (qPre s.data.toList k=qPre s.data.toList f++(s.data.toList.drop f).take (k - f))/\Ext w wr/\w1.heap.size<=wr.heap.size) (λ_ _ _ i _=>s.size - (intOf i).toNat)
  case atStart=>exact ⟨0,0,Zj _,Zj _,rfl,rfl,hr,by show _=_;simp,hw,ht⟩
  case round=>
   obtain ⟨k,f,hk,hf,rfl,rfl,hB,U,X,ha⟩:=hrel;have hz:=ZnB s.data.toList f;have hu:=hE.ext X;by_cases hn:k<s.size
   ·have H:=ZiC s[k] wr hu;have A:=ZlN s k hn;have J:=ZhL s f k hf hn;obtain ⟨E,hi⟩:∃E,escB s[k]=E:=⟨_,rfl⟩;have hc:=Zgp s[k];unfold qB at A;rw[hi] at H A hc;have Y:=gd H;by_cases hh:E= []
    ·subst hh;rw[Zi rfl] at A;have he:Hid (qPre s.data.toList (k+1)=qPre s.data.toList f++(s.data.toList.drop f).take (k+1 - f)):=(by show _=_;rw[A,U.out,J,Zt]);have D:(str ([]:List UInt8)).toList.isEmpty=true:=UN [];have hd:=gd D;clear H A J hi U D hc
     go_wp2_with (go_at_call 247;refine (Y.out).mono ?_;rintro e w' ⟨rfl,F⟩;have D:=hd.out)
     go_roundw
     case rel=>exact ⟨k+1,f,om,om,by go_num,rfl,Xd hB F,he,X.trans F,Zp ha F.size⟩
     case measure=>simp[intOf];omega
    ·rw[Ze hh] at A;have he:Hid (Lib.byteCells (qPre s.data.toList (k+1))=Lib.byteCells (qPre s.data.toList f)++Lib.byteCells (s.extract f k++str E).data.toList):=(by show _=_;rw[A,U.out,JS,U3 s f k hf,Z3,Zt,Yl]);have D:(str E).toList.isEmpty=false:=(by rw[UN];cases E<;>simp_all);have hd:=gd D;have K:(s.extract f k++str E).size<=16777216+6:=(by have:(s.extract f k++str E).size=(s.extract f k++str E).data.toList.length:=rfl;rw[this,JS,U3 s f k hf,Z3,Zb,ZM,Zk,ZN];omega);have hg:=gd K;clear H A J hi U D hh K
     go_wp2_with (go_at_call 247;refine (Y.out).mono ?_;rintro e w' ⟨rfl,F⟩;have D:=hd.out)
     have hp:=Xd hB F;have hA:=F.size;refine (Xo _ _ _ _ _ hp (by rw[YT];have:=hg.out;omega) om).mono ?_;rintro e w4 ⟨rfl,I,S⟩;rw[<-he.out] at I;go_wp2;have hl:Ext w w4:=(X.trans F).then (XF S hj);have hy:=S.size;go_roundw
     case rel=>exact ⟨k+1,k+1,om,om,by go_num,by go_num,I,by show _=_;simp,hl,om⟩
     case measure=>simp[intOf];omega
   ·have hm:k=s.size:=om;have K:(s.extract f s.size++str [34]).size<=16777216+6:=(by have:(s.extract f s.size++str [34]).size=(s.extract f s.size++str [34]).data.toList.length:=rfl;rw[this,JS,Gx,Z3,Zb,Zk,ZN];simp;omega);have hb:Lib.byteCells (qPre s.data.toList f)++Lib.byteCells (s.extract f s.size++str [34]).data.toList=Lib.byteCells Q:=by
     rw[<-Yl,JS,Gx,Z3]
     congr 1
     have h:=U.out;rw[hm,ZQ (by rw[Zk,ZN];omega)] at h;rw[<-Zt,<-h,<-HQ.out,<-ZnA];rfl
    have HF:=gd hb;have hg:=gd K;clear hb U hm K
    go_wp2_with (go_at_call 54;refine (Xo _ _ _ (s.extract f s.size++str [34]) _ hB (by rw[YT];have:=hg.out;omega) ha).mono ?_;rintro e w4 ⟨rfl,I,S⟩)
    rw[HF.out] at I;have hy:=S.size;have hl:Ext w w4:=X.then (XF S hj)
    go_wp2_with (go_at_call 56;refine (JD _ _ _ _ I om).mono ?_;rintro e w5 ⟨rfl,hv⟩)
    go_ret2
    exact ⟨rfl,hl.then (XF hv hj)⟩
section
attribute [local go_sem] ZoY strOfNums_size
def itoaS (n:Int):ByteArray:=str (Lib.itoa n)
theorem Zdk (n:Int) (w:Wq) (A:Env w) (h:i64ok n):
 Calls prog 220 #[nI n,nI 10] w λe w'=>e= .returned (.string (itoaS n))/\Ext w w':=by
 refine (strconv_FormatInt_10 n h.1 h.2 w A.pow).mono ?_;rintro e w' ⟨rfl,k,os,rfl⟩;exact ⟨rfl,Lib.below_grow _ w (Zc _) k os⟩
end
theorem Zaz:∀(l:List (List UInt8)) (t:List UInt8),commas (l++ [t])=if l= [] then t else commas l++44::t
 | [],t=>by simp[commas]
 | [u],t=>by simp[commas]
 |u::v::r,t=>by
  have ih:=Zaz (v::r) t
  simp only[ZX] at ih|-
  rw[Ze (by simp)] at ih|-
  simp only[commas,ih,Zt,ZX]
def jok:JV->Prop
 | .int n=> -9223372036854775808<=n/\n<=9223372036854775807
 | .str s=>s.size<=16777216
 | .arr l=>∀j∈l,jok j
 |_=>True
theorem J7 (l:List JV):jtext (.arr l)=91::(commas (l.map jtext)++ [93]):=by rw[jtext]
theorem QG (d:Nat) (l:List JV):jvalid (.arr l) d=(decide (d<=100) && l.all λj=>jvalid j (d+1)):=by rw[jvalid];simp[List.all_map]
theorem Zbt (l:List JV):jok (.arr l)=∀j∈l,jok j:=by rw[jok]
theorem RVn.ext {w w':Wq} (A:Ext w w'):∀(n:Nat) (j:JV) (cs:List Value),RVn n w j cs->RVn n w' j cs
 |0,_,_,h=>h.elim
 |n+1,j,cs,⟨a,h⟩=>by
  refine ⟨a,?_⟩
  cases j with
  |arr l=>
   obtain ⟨v,css,D,F,H,I⟩:=h
   exact ⟨v,css,D,F,H.ext A,λi j c J hc=>RVn.ext A n j c (I i j c J hc)⟩
  |_=>exact h
theorem RV.ext {w w':Wq} {j:JV} {cs:List Value} (h:RV w j cs) (A:Ext w w'):RV w' j cs:=let ⟨n,h⟩:=h;⟨n,h.ext A⟩
theorem RVn.len {w:Wq} {n:Nat} {j:JV} {cs:List Value} (h:RVn n w j cs):cs.length=7:=by
 cases n with
 |zero=>exact h.elim
 |succ n=>
  obtain ⟨a,h⟩:=h;cases j with
  |arr l=>obtain ⟨v,css,rfl,_⟩:=h;rfl
  |_=>subst h;rfl
theorem ZqR (n:Nat) (j:JV) (cs:List Value) (w:Wq) (h:RVn n w j cs):
 Calls prog 234 #[.agg cs.toArray] w λe w'=>e= .returned (.bool true)/\Ext w w':=by
 cases n with
 |zero=>exact h.elim
 |succ n=>
  obtain ⟨a,h⟩:=h;cases j with
  |arr l=>
   obtain ⟨v,css,rfl,D,I,_⟩:=h;obtain ⟨_,A,c,rfl,H,F,_,_⟩:=I;unfold vcells;go_enter func234,ntmps234;go_wp2
   all_goals go_ret
   all_goals exact ⟨by first|rfl|(refine Zz (λb=>Ending.returned (.bool b)) ?_;simp_all),by repeat (first|exact Ext.refl _|apply Ext.drew|apply Ext.alloc|(refine Ext.setCell ?_ (by simp) _))⟩
  |null=>
   subst h;unfold vcells;go_enter func234,ntmps234;go_wp2
   all_goals go_ret
   all_goals exact ⟨by first|rfl|(refine Zz (λb=>Ending.returned (.bool b)) ?_;simp_all),by repeat (first|exact Ext.refl _|apply Ext.drew|apply Ext.alloc|(refine Ext.setCell ?_ (by simp) _))⟩
  |bool b=>
   subst h;unfold vcells;go_enter func234,ntmps234;go_wp2
   all_goals go_ret
   all_goals exact ⟨by first|rfl|(refine Zz (λb=>Ending.returned (.bool b)) ?_;simp_all),by repeat (first|exact Ext.refl _|apply Ext.drew|apply Ext.alloc|(refine Ext.setCell ?_ (by simp) _))⟩
  |int x=>
   subst h;unfold vcells;go_enter func234,ntmps234;go_wp2
   all_goals go_ret
   all_goals exact ⟨by first|rfl|(refine Zz (λb=>Ending.returned (.bool b)) ?_;simp_all),by repeat (first|exact Ext.refl _|apply Ext.drew|apply Ext.alloc|(refine Ext.setCell ?_ (by simp) _))⟩
  |str t=>
   subst h;unfold vcells;go_enter func234,ntmps234;go_wp2
   all_goals go_ret
   all_goals exact ⟨by first|rfl|(refine Zz (λb=>Ending.returned (.bool b)) ?_;simp_all),by repeat (first|exact Ext.refl _|apply Ext.drew|apply Ext.alloc|(refine Ext.setCell ?_ (by simp) _))⟩
def ValidSaid (n:Nat):Prop:=∀(j:JV) (cs:List Value) (w:Wq) (d:Nat),RVn n w j cs->jok j->Env w->1<=d->d<=101->
 Calls prog 218 #[.agg cs.toArray,nI (d:Nat)] w λe w'=>e= .returned (.bool (jvalid j d))/\Ext w w'
theorem RVn.shape {w:Wq} {n:Nat} {j:JV} {cs:List Value} (h:RVn n w j cs):∃k b x s A m c a,cs= [nI k,.bool b,nI x,.string s,.slice A m c,sN,nI a]:=by
 cases n with
 |zero=>exact h.elim
 |succ n=>
  obtain ⟨a,h⟩:=h;cases j with
  |arr l=>obtain ⟨v,css,rfl,_,⟨_,A,c,rfl,_⟩,_⟩:=h;exact ⟨_,_,_,_,_,_,_,_,rfl⟩
  |_=>subst h;exact ⟨_,_,_,_,_,_,_,_,rfl⟩
theorem Zl9 (n:Nat) (ih:ValidSaid n) (l:List JV) (cs:List Value) (w:Wq) (d:Nat) (h:RVn (n+1) w (.arr l) cs) (Z:jok (.arr l)) (hE:Env w) (hd:1<=d) (hT:d<=101):
 Calls prog 218 #[.agg cs.toArray,nI (d:Nat)] w λe w'=>e= .returned (.bool (jvalid (.arr l) d))/\Ext w w':=by
 obtain ⟨a,v,css,rfl,hJ,hr,S⟩:=h;rw[Zbt] at Z;rw[QG];have hN:=hr;obtain ⟨_,A,c,rfl,hU,hK,_,_⟩:=hN;have ho:=λw' (hw:Env w')=>UW ⟨#[]⟩ w' hw (by simp[ByteArray.size]);have hW:Lib.validD (⟨#[]⟩:ByteArray).data.toList=true:=by decide
 have hv:=gd ho;have hq:=gd ih;have hp:=gd S;have ht:=gd Z;have hu:=gd (λw' (Q:Ext w w')=>ZqR (n+1) (.arr l) (vcells 4 false 0 ⟨#[]⟩ (.slice A l.length c) a) w' ⟨a,_,css,rfl,hJ,hr.ext Q,λi j c hj hc=>(S i j c hj hc).ext Q⟩);have hV:= @run_makeMap prog;have hm:∀c∈css,c.length=7:=by intro c hc;obtain ⟨i,hi,rfl⟩:=List.mem_iff_getElem.1 hc;exact (S i l[i] css[i] (Zh om) (Zh hi)).len
 have hs:=gd hm;clear ho ih S Z hm;by_cases hl:d<=100
 ·have hL:decide ((100:Int)<(d:Nat))=false:=by simp;omega
  have he:=gd hl;unfold vcells at*;go_enter func218,ntmps218
  go_wp2_with (first|(go_at_call 234;refine (hu.out _ ((Ext.refl _).alloc _)).mono ?_;rintro e w1 ⟨rfl,F⟩;have hR:=F.boxed 3 _ rfl)|(go_at_call 235;refine (hv.out _ ((hE.alloc _).ext F)).mono ?_;rintro e w2 ⟨rfl,H⟩;have hS:=H.cell (F.boxed 4 _ rfl);have hz:=H.cell (F.boxed 5 _ rfl)))
  go_loopw [36] (λi wr=>∃k:Nat,k<=l.length/\i=nI k/\Hid ((l.all λj=>jvalid j (d+1))=((l.drop k).all λj=>jvalid j (d+1)))/\Ext w2 wr) (λi _=>l.length - (intOf i).toNat)
  case atStart=>exact ⟨0,Zj _,rfl,rfl,Ext.refl _⟩
  case round=>
   obtain ⟨k,hk,rfl,J,Q⟩:=hrel;by_cases hn:k<l.length
   ·have hh:k<css.length:=om;have R:=hp.out k l[k] css[k] (Zh hn) (Zh hh);obtain ⟨ad,cap,hA,D⟩:=RSl.elem (hr.ext ((((Ext.refl w).alloc _).trans F).trans (H.trans Q))) om hs.out k css[k] (Zh hh);injection hA with hA1 hA2 hA3;subst hA1;clear hA2 hA3;rw[VF] at D;obtain ⟨x0,x1,x2,x3,x4,x5,x6,x7,hc⟩:=R.shape;rw[hc] at D;have hB:=D 0 _ rfl;have hC:=D 1 _ rfl;have hD:=D 2 _ rfl;have hF:=D 3 _ rfl;have hG:=D 4 _ rfl;have hH:=D 5 _ rfl;have hI:=D 6 _ rfl;rw[add_zero] at hB;have V:∀i,0<i->(ad.add (k*7)).add i=⟨(ad.add (k*7)).block,(ad.add (k*7)).off+i,none⟩:=λi hi=>Ze om;rw[V _ om] at hC hD hF hG hH hI;clear V;rw[hc] at R;clear D;have hy:=hE.ext ((((Ext.refl w).alloc _).trans F).trans (H.trans Q));have U:=R.ext ((((Ext.refl w).alloc _).trans F).trans (H.trans Q));have X:=ht.out l[k] (ZL _);have hO:IntKind.i64.wrap ((d:Int)+1)=((d+1:Nat):Int):=(by rw[IntKind.wrap];simp[IntKind.signed,IntKind.bits];omega);have K:=J.out.trans (by rw[Zl hn,KI]:_=(jvalid l[k] (d+1) && (l.drop (k+1)).all λj=>jvalid j (d+1)));have I:=gd K;have hf:=gd X;have hg:=gd U;clear J K X R U;have ha:wrap64 ((k:Int)+1)=((k+1:Nat):Int):=(by rw[maxLen] at hK;rw[Q6 _ ⟨om,om⟩];rfl);have hP:=(((Ext.refl w).alloc _).trans F).trans (H.trans Q)
    go_wp2_with (first|(go_at_call 218;refine (hq.out l[k] _ _ (d+1) (hg.out.ext ((Ext.refl _).alloc _)) hf.out (hy.alloc _) om om).mono ?_;rintro e w3 ⟨rfl,hb⟩))
    ·go_ret;refine ⟨?_,(hP.alloc _).trans hb⟩;have h1:=I.out
     simp_all
    ·go_roundw
     case rel=>first|exact ⟨k+1,om,by rw[ha],by have h1:=I.out;simp_all [Hid],(Q.alloc _).trans hb⟩|((repeat apply Gf);exact ⟨⟨k+1,om,by rw[ha],by have h1:=I.out;simp_all [Hid],(Q.alloc _).trans hb⟩,rfl⟩)
     case measure=>rw[ha];simp[intOf];omega
   ·have hM:k=l.length:=om;subst hM;have Y:=gd (J.out.trans (by simp:_=true));have hQ:=((Ext.refl wr).alloc (.map #[] 0)).cell (Q.cell hz);go_wp2;refine Jo 1 ?_;rw[rounds_succ];go_wp2;go_ret;refine ⟨by rw[Y.out];simp[he.out],?_⟩;exact (((((Ext.refl w).alloc _).trans F).trans (H.trans Q)).alloc _)
 ·have hL:decide ((100:Int)<(d:Nat))=true:=by simp;omega
  have he:=gd hl;unfold vcells at*;go_enter func218,ntmps218;go_wp2;go_ret;exact ⟨by simp,(Ext.refl _).alloc _⟩
theorem QV (k:Int) (b:Bool) (x:Int) (s:ByteArray) (a:Int) (w:Wq) (d:Nat) (Y:Env w) (Z:s.size<=16777216) (hk:0<=k) (hg:k<=5) (hd:1<=d) (hc:d<=101)
 (J:∀w',Calls prog 234 #[.agg (vcells k b x s sN a).toArray] w' λe X=>e= .returned (.bool true)/\Ext w' X):
 Calls prog 218 #[.agg (vcells k b x s sN a).toArray,nI (d:Nat)] w λe w'=>e= .returned (.bool (decide (d<=100) && Lib.validD s.data.toList))/\Ext w w':=by
 have Q:=λw' (R:Env w')=>UW s w' R Z;have F:=gd Q;have H:=gd J;have he:decide (k<0)=false:=by simp;omega
 have hf:decide (5<k)=false:=by simp;omega
 have hh:= @run_makeMap prog;clear Q J Z;by_cases I:d<=100
 ·have U:decide ((100:Int)<(d:Nat))=false:=by simp;omega
  have D:=gd I;unfold vcells at*;have V:∀vb:Bool,Lib.validD s.data.toList=vb->Calls prog 218 #[.agg #[nI k,.bool b,nI x,.string s,sN,sN,nI a],nI (d:Nat)] w λe w'=>e= .returned (.bool vb)/\Ext w w':=by
   intro vb K;rw[K] at F;clear K;go_enter func218,ntmps218;cases vb
   ·go_wp2_with (first|(go_at_call 234;refine (H.out _).mono ?_;rintro e w1 ⟨rfl,h⟩;have S:=h.boxed 3 _ rfl)|(go_at_call 235;refine (F.out _ ((Y.alloc _).ext h)).mono ?_;rintro e w2 ⟨rfl,A⟩))
    go_ret;exact ⟨rfl,(((Ext.refl w).alloc _).trans h).trans A⟩
   ·go_wp2_with (first|(go_at_call 234;refine (H.out _).mono ?_;rintro e w1 ⟨rfl,h⟩;have S:=h.boxed 3 _ rfl)|(go_at_call 235;refine (F.out _ ((Y.alloc _).ext h)).mono ?_;rintro e w2 ⟨rfl,A⟩;have ha:=A.cell (h.boxed 4 _ rfl);have hb:=((Ext.refl w2).alloc (.map #[] 0)).cell (A.cell (h.boxed 5 _ rfl))))
    refine Jo 1 ?_;rw[rounds_succ];go_wp2;refine Jo 1 ?_;rw[rounds_succ];go_wp2;go_ret;exact ⟨rfl,((((Ext.refl w).alloc _).trans h).trans A).alloc _⟩
  refine (V _ rfl).mono ?_;rintro e w' ⟨rfl,hx⟩;exact ⟨by simp[D.out],hx⟩
 ·have U:decide ((100:Int)<(d:Nat))=true:=by simp;omega
  have D:=gd I;unfold vcells at*;go_enter func218,ntmps218;go_wp2;go_ret;exact ⟨by simp[D.out],(Ext.refl _).alloc _⟩
theorem ZpC:Lib.validD (⟨#[]⟩:ByteArray).data.toList=true:=by decide
theorem Zh0:∀n,ValidSaid n
 |0,_,_,_,_,h,_,_,_,_=>h.elim
 |n+1,j,cs,w,d,h,hok,hE,hd,hd1=>by
  cases j with
  |arr l=>exact Zl9 n (Zh0 n) l cs w d h hok hE hd hd1
  |null=>
   obtain ⟨a,rfl⟩:=h
   refine (QV 0 false 0 ⟨#[]⟩ a w d hE (by simp[ByteArray.size]) om om hd hd1 λw'=>ZqR (n+1) .null _ w' ⟨a,rfl⟩).mono ?_
   rintro e w' ⟨rfl,A⟩
   exact ⟨by rw[ZpC,ZqD];simp[jvalid],A⟩
  |bool b=>
   obtain ⟨a,rfl⟩:=h
   refine (QV 1 b 0 ⟨#[]⟩ a w d hE (by simp[ByteArray.size]) om om hd hd1 λw'=>ZqR (n+1) (.bool b) _ w' ⟨a,rfl⟩).mono ?_
   rintro e w' ⟨rfl,A⟩
   exact ⟨by rw[ZpC,ZqD];simp[jvalid],A⟩
  |int x=>
   obtain ⟨a,rfl⟩:=h
   refine (QV 2 false x ⟨#[]⟩ a w d hE (by simp[ByteArray.size]) om om hd hd1 λw'=>ZqR (n+1) (.int x) _ w' ⟨a,rfl⟩).mono ?_
   rintro e w' ⟨rfl,A⟩
   exact ⟨by rw[ZpC,ZqD];simp[jvalid],A⟩
  |str s=>
   obtain ⟨a,rfl⟩:=h
   refine (QV 3 false 0 s a w d hE (by simpa [jok] using hok) om om hd hd1 λw'=>ZqR (n+1) (.str s) _ w' ⟨a,rfl⟩).mono ?_
   rintro e w' ⟨rfl,A⟩
   exact ⟨by simp[jvalid],A⟩
theorem ZiQ (j:JV) (cs:List Value) (w:Wq) (h:RV w j cs) (A:jok j) (F:Env w):
 Calls prog 193 #[.agg cs.toArray] w λe w'=>e= .returned (nI (if jvalid j 1 then 0 else 22))/\Ext w w':=by
 obtain ⟨n,h⟩:=h;obtain ⟨I,J,K,Q,R,S,U,V,hc⟩:=h.shape;subst hc;have H:=gd (λw' (D:Ext w w')=>Zh0 n j _ w' 1 (h.ext D) A (F.ext D) om om);clear h A F;go_enter func193,ntmps193
 go_wp2_with (go_at_call 218;refine (H.out _ ((Ext.refl w).alloc _)).mono ?_;rintro e w' ⟨rfl,D⟩)
 all_goals go_ret
 all_goals exact ⟨by simp_all,((Ext.refl w).alloc _).trans D⟩
theorem ZmZ (s:ByteArray) (B b:Nat) (bs:List Value) (w:Wq) (U:Env w) (K:s.size<=16777216) (S:WB B b bs w) (A:B<=w.heap.size) (X:bs.length+(quoteS s).1.size<=140737488355328):
 Calls prog 221 #[.pointer (some ⟨b,0,none⟩),.string s] w λe w'=>e= .returned (.tuple #[])/\(WB B b (bs++Lib.byteCells (quoteS s).1.data.toList) w'/\Below B w w'):=by
 have J:=ZlQ s w U K;generalize V:quoteS s=Q at*;clear V K;obtain ⟨q,e⟩:=Q;have R:=gd J;clear J;go_enter func221,ntmps221
 go_wp2_with (first|(go_at_call 238;refine R.out.mono ?_;rintro e w1 ⟨rfl,h⟩;have F:=Xd S h;have D:=Zp A h.size)|(go_at_call 54;refine (XM J5 _ _ _ _ _ F X D).mono ?_;rintro e w2 ⟨rfl,H,I⟩))
 ((try simp only[Exit.inBlock,Exit.then]);refine bodyPost_end (results_none rfl _ _ _) rfl ?_);exact ⟨rfl,H,(XF h A).trans I⟩
theorem ZiR:jtext .null= [110,117,108,108]:=by simp[jtext]
theorem Zck (b:Bool):jtext (.bool b)=if b then [116,114,117,101] else [102,97,108,115,101]:=by simp[jtext]
theorem Zej (n:Int):jtext (.int n)=Lib.itoa n:=by simp[jtext]
theorem Ka (s:ByteArray):jtext (.str s)=quoteL s.data.toList:=by simp[jtext]
theorem Zca (x:Bool) (w:Wq):Calls prog 219 #[.bool x] w λe w'=>e= .returned (.string (str (jtext (.bool x))))/\w'=w:=by
 have h:Calls prog 236 #[.bool x] w λe w'=>e= .returned (.string (str (jtext (.bool x))))/\w'=w:=by
  go_enter func236,ntmps236;cases x
  ·go_wp2;go_ret;exact ⟨by rw[Zck];rfl,rfl⟩
  ·go_wp2;go_ret;exact ⟨by rw[Zck];rfl,rfl⟩
 go_enter func219,ntmps219
 go_wp2_with (go_at_call 236;refine h.mono ?_;rintro e w1 ⟨rfl,rfl⟩)
 go_ret;exact ⟨rfl,rfl⟩
def ValueSaid (n:Nat):Prop:=∀(j:JV) (cs:List Value) (w0 w:Wq) (B b:Nat) (bs:List Value) (d:Nat),RVn n w0 j cs->jok j->jvalid j d=true->Env w0->Ext w0 w->w0.heap.size<=B->
 WB B b bs w->B<=w.heap.size->bs.length+(jtext j).length<=140737488355328->
 Calls prog 194 #[.pointer (some ⟨b,0,none⟩),.agg cs.toArray] w λe w'=>e= .returned (.tuple #[])/\(WB B b (bs++Lib.byteCells (jtext j)) w'/\Below B w w')
theorem QW (n:Nat) (j:JV) (cs:List Value) (w0 w:Wq) (B b:Nat) (bs:List Value) (d:Nat) (D:RVn n w0 j cs) (I:jok j) (R:jvalid j d=true) (hE:Env w0) (hx:Ext w0 w) (h0:w0.heap.size<=B)
 (hB:WB B b bs w) (U:B<=w.heap.size) (Z:bs.length+(jtext j).length<=140737488355328) (hj:∀l,j≠ .arr l):
 Calls prog 194 #[.pointer (some ⟨b,0,none⟩),.agg cs.toArray] w λe w'=>e= .returned (.tuple #[])/\(WB B b (bs++Lib.byteCells (jtext j)) w'/\Below B w w'):=by
 have X:=hE.ext hx;cases n with
 |zero=>exact D.elim
 |succ n=>
  obtain ⟨a,D⟩:=D;have S:=λo=>Xd hB ((Ext.refl w).alloc o);have h:∀o,B<=(w.alloc o).heap.size:=λo=>Zp U ((Ext.refl w).alloc o).size;have H:∀o,Below B w (w.alloc o):=λo=>XF ((Ext.refl w).alloc o) U;cases j with
  |arr l=>exact absurd rfl (hj l)
  |null=>
   subst D;rw[ZiR] at*;unfold vcells;go_enter func194,ntmps194
   go_wp2_with (go_at_call 54;refine (XM J5 _ _ _ _ _ (S _) (by exact Z) (h _)).mono ?_;rintro e w2 ⟨rfl,A,F⟩)
   ((try simp only[Exit.inBlock,Exit.then]);refine bodyPost_end (results_none rfl _ _ _) rfl ?_);exact ⟨rfl,A,(H _).trans F⟩
  |bool x=>
   subst D;unfold vcells;have HF:=gd (Zca x);generalize jtext (.bool x)=tx at*;clear I R;go_enter func194,ntmps194
   go_wp2_with fail
   go_region_with (first|(go_at_call 219;refine (HF.out _).mono ?_;rintro e w1 ⟨rfl,rfl⟩)|(go_at_call 54;refine (XM J5 _ _ _ _ _ (Xd hB ((Ext.refl w).alloc _).drew) (by exact Z) (h _)).mono ?_;rintro e w2 ⟨rfl,A,F⟩))
   all_goals ((try simp only[Exit.inBlock]);refine bodyPost_end (results_none rfl _ _ _) rfl ?_)
   all_goals exact ⟨rfl,A,(H _).drew.trans F⟩
  |int x=>
   subst D;unfold vcells;have HF:=gd (λw' K=>Zdk x w' K (by simpa [jok,i64ok] using I));rw[Zej] at*;have Y:itoaS x=str (Lib.itoa x):=rfl;rw[Y] at HF;clear Y;generalize Lib.itoa x=tx at*;clear I R;go_enter func194,ntmps194
   go_wp2_with fail
   go_region_with (first|(go_at_call 220;refine (HF.out _ (X.alloc _).drew).mono ?_;rintro e w1 ⟨rfl,Q⟩)|(go_at_call 54;refine (XM J5 _ _ _ _ _ (Xd hB (((Ext.refl w).alloc _).drew.trans Q)) (by exact Z) (Zp (h _) Q.size)).mono ?_;rintro e w2 ⟨rfl,A,F⟩))
   all_goals ((try simp only[Exit.inBlock]);refine bodyPost_end (results_none rfl _ _ _) rfl ?_)
   all_goals exact ⟨rfl,A,(H _).drew.trans ((XF Q (h _)).trans F)⟩
  |str s=>
   subst D;unfold vcells;have hQ:quoteS s=(str (jtext (.str s)),0):=(by unfold quoteS;rw[Ka,Zi];rw[jvalid] at R;simp at R;exact R.2);have J:=λw' K ha V=>ZmZ s B b bs w' K (by simpa [jok] using I) ha V (by rw[hQ];exact Z);rw[hQ] at J;have HS:=gd J;clear J hQ I R Z;go_enter func194,ntmps194
   go_wp2_with (go_at_call 221;refine (HS.out _ (X.alloc _) (S _) (h _)).mono ?_;rintro e w2 ⟨rfl,A,F⟩)
   ((try simp only[Exit.inBlock,Exit.then]);refine bodyPost_end (results_none rfl _ _ _) rfl ?_);exact ⟨rfl,A,(H _).trans F⟩
theorem Zo6: [Value.int IntKind.u8 44]=Lib.byteCells [44]:=rfl
theorem Zo7: [Value.int IntKind.u8 93]=Lib.byteCells [93]:=rfl
theorem ZaA (L:List (List UInt8)) (k:Nat) (h:k<L.length):commas (L.take (k+1))=(if k=0 then [] else commas (L.take k)++ [44])++L[k]:=by
 rw[Zr h,Zaz];by_cases A:k=0
 ·subst A;simp
 ·have:L.take k≠ []:=by
   intro D;have:=Zz List.length D;rw[ZM] at this;simp at this;rcases this with h|h
   ·exact A h
   ·subst h;simp at*
  rw[Ze this,Ze A];simp
theorem Zkm (L:List (List UInt8)):∀k,k<=L.length->(commas (L.take k)).length<=(commas L).length:=by
 have step:∀k,k<L.length->(commas (L.take k)).length<=(commas (L.take (k+1))).length:=by
  intro k h;rw[ZaA L k h];by_cases D:k=0
  ·subst D;simp[commas]
  ·rw[Ze D];simp only[Zb];omega
 have A:∀n k,k+n=L.length->(commas (L.take k)).length<=(commas L).length:=by
  intro n
  induction n with
  |zero=>intro k h;rw[ZQ om];exact Zc _
  |succ n ih=>intro k h;exact Zp (step k om) (ih (k+1) om)
 intro k h;exact A (L.length - k) k om
theorem ZmY (n:Nat) (ih:ValueSaid n) (l:List JV) (A:Option Addr) (c:Nat) (css:List (List Value)) (w0 w:Wq) (B b:Nat) (bs:List Value) (d:Nat) (gf:css.length=l.length)
 (hr:RSl w0 7 (.slice A l.length c) l.length css.flatten) (ho:∀(i:Nat) (j:JV) (c:List Value),l[i]? =some j->css[i]? =some c->RVn n w0 j c) (hL:∀j∈l,jok j) (hv:∀j∈l,jvalid j d=true) (hE:Env w0) (hx:Ext w0 w) (h0:w0.heap.size<=B)
 (hB:WB B b bs w) (hC:B<=w.heap.size) (hl:bs.length+(commas (l.map jtext)).length+2<=140737488355328):
 Calls prog 222 #[.pointer (some ⟨b,0,none⟩),.int .u8 91,.int .u8 93,.slice A l.length c,.func (.func 194) #[.pointer (some ⟨b,0,none⟩)] #[]] w
  λe w'=>e= .returned (.tuple #[])/\(WB B b (bs++Lib.byteCells (91::(commas (l.map jtext)++ [93]))) w'/\Below B w w'):=by
 obtain ⟨_,A',c',hU,gg,h8,_,_⟩:=id hr;injection hU with h1 h2 h3;subst h1 h3;have hJ:∀c∈css,c.length=7:=by intro c hc;obtain ⟨i,hi,rfl⟩:=List.mem_iff_getElem.1 hc;exact (ho i l[i] css[i] (Zh om) (Zh hi)).len
 have hS:=gd hJ;have hw:=gd ih;have hR:=gd ho;have hT:=gd hL;have HV:=gd hv;have HL:=gd hl;have hG:∀k,k<=(l.map jtext).length->bs.length+(commas ((l.map jtext).take k)).length+2<=140737488355328:=λk hk=>by have:=Zkm _ k hk;omega
 have ht:=gd hG;clear hJ ih ho hL hv hG hl;go_enter func222,ntmps222
 go_wp2_with (go_at_call 62;refine (JZ J5 _ _ _ _ _ hB (by have:=HL.out;omega) hC).mono ?_;rintro e w1 ⟨rfl,hV,gb⟩)
 go_loopw [19] (λi wr=>∃k:Nat,k<=l.length/\i=nI k/\WB B b (bs++Lib.byteCells (91::commas ((l.map jtext).take k))) wr/\Below B w wr) (λi _=>l.length - (intOf i).toNat)
 case atStart=>exact ⟨0,Zj _,rfl,hV,gb⟩
 case round=>
  obtain ⟨k,hk,rfl,X,Q⟩:=hrel;have hP:Ext w0 wr:=hx.then (XF Q h0);have hj:=Zp hC Q.size;by_cases K:k<l.length
  ·have hF:k<css.length:=om;have Y:=hR.out k l[k] css[k] (Zh K) (Zh hF);obtain ⟨ad,cap,hA,h⟩:=RSl.elem (hr.ext hP) om hS.out k css[k] (Zh hF);injection hA with hA1 hA2 hA3;subst hA1;clear hA2 hA3;rw[VF] at h;obtain ⟨x0,x1,x2,x3,x4,x5,x6,x7,hc⟩:=Y.shape;rw[hc] at h;have hX:=h 0 _ rfl;have hY:=h 1 _ rfl;have hZ:=h 2 _ rfl;have h4:=h 3 _ rfl;have h5:=h 4 _ rfl;have h6:=h 5 _ rfl;have h7:=h 6 _ rfl;rw[add_zero] at hX;have he:∀i,0<i->(ad.add (k*7)).add i=⟨(ad.add (k*7)).block,(ad.add (k*7)).off+i,none⟩:=λi hi=>Ze om;rw[he _ om] at hY hZ h4 h5 h6 h7;clear he;rw[hc] at Y;clear h;have hN:wrap64 ((k:Int)+1)=((k+1:Nat):Int):=(by rw[maxLen] at h8;rw[Q6 _ ⟨om,om⟩];rfl);have hy:=gd Y;have hf:=hT.out l[k] (ZL _);have hM:=HV.out l[k] (ZL _);have Z:=ZaA (l.map jtext) k (by simpa using K);have S:=ht.out (k+1) (by rw[Zq];exact K);rw[Xn] at Z;rw[Z] at S;clear Y;have hs:=gd S;have hu:=gd Z;have hd:=gd hf;have hz:=gd hM;have hb:∀o,Ext wr (wr.alloc o):=λo=>(Ext.refl wr).alloc o;have hm:∀o,Below B wr (wr.alloc o):=λo=>XF (hb o) hj;have hh:∀o,B<=(wr.alloc o).heap.size:=λo=>Zp hj (hb o).size;clear Z S hf hM;have hK:l.length - (intOf (Value.int IntKind.i64 (wrap64 ((k:Int)+1)))).toNat<l.length - (intOf (Value.int IntKind.i64 (k:Int))).toNat:=(by rw[hN];exact Nat.sub_lt_sub_left K (Yy k));have hO:=Zz (Value.int .i64) hN;have hH:k+1<=l.length:=K;rcases YL k with D|D
   ·have h9:decide (0<k)=false:=Yd (by rw[D];exact Nat.lt_irrefl 0);have F:commas (List.take (k+1) (List.map jtext l))=jtext l[k]:=(by rw[hu.out,Zi D];rfl);have U:commas (List.take k (List.map jtext l))= []:=(by have:∀m,m=0->commas (List.take m (List.map jtext l))= []:=(by rintro m rfl;rfl);exact this k D);have R:bs.length+(jtext l[k]).length+2<=140737488355328:=(by have:=hs.out;rw[Zi D] at this;exact this);have ha:Hid ((bs++Lib.byteCells (91::commas (List.take k (List.map jtext l)))).length+(jtext l[k]).length<=140737488355328):=(by unfold Hid;rw[U,Zb,YT];simp only[Zd,ZK];omega);have ge:=gd ha;have hg:=gd F;have hQ:=gd U;clear D F U R
    go_wp2_with (go_at_call 194;refine (hw.out l[k] _ w0 _ B b _ d hy.out hd.out hz.out hE (hP.alloc _) h0 (Xd X (hb _)) (hh _) ha.out).mono ?_;rintro e w2 ⟨rfl,J,I⟩)
    have V:WB B b (bs++Lib.byteCells (91::commas ((l.map jtext).take (k+1)))) w2:=(by rw[hg.out];have h2:=J;rw[hQ.out,Zt,<-Yl] at h2;exact h2);have hq:=Q.trans ((hm _).trans I);go_roundw
    case rel=>exact ⟨k+1,hH,hO,V,hq⟩
    case measure=>exact hK
   ·have h9:decide (0<k)=true:=YG D;have hp:k≠0:=Nat.pos_iff_ne_zero.1 D;have F:commas (List.take (k+1) (List.map jtext l))=commas (List.take k (List.map jtext l))++ [44]++jtext l[k]:=(by rw[hu.out,Ze hp]);have R:bs.length+(commas (List.take k (List.map jtext l))++ [44]++jtext l[k]).length+2<=140737488355328:=(by have:=hs.out;rw[Ze hp] at this;exact this);rw[Zb,Zb] at R;simp only[Zd,ZK] at R;have ha:Hid ((bs++Lib.byteCells (91::commas (List.take k (List.map jtext l)))++ [Value.int .u8 44]).length+(jtext l[k]).length<=140737488355328):=(by unfold Hid;rw[Zb,Zb,YT];simp only[Zd,ZK];omega);have hn:Hid ((bs++Lib.byteCells (91::commas (List.take k (List.map jtext l)))).length+1<=140737488355328):=(by unfold Hid;rw[Zb,YT];simp only[Zd];omega);have hg:=gd F;clear D F R hp
    go_wp2_with (first|(go_at_call 62;refine (UX J5 _ _ _ _ _ (Xd X (hb _)) hn.out (hh _)).mono ?_;rintro e w2 ⟨rfl,J,I,ga⟩;have hD:=Zp (hh _) I.size;(have H:=ga _ _ _ _ (Zg wr _) (by decide) (by decide));have gh:=(YO _ _ 0 _ _ _ H);have gi:=(YO _ _ 1 _ _ _ H);have gj:=(YO _ _ 2 _ _ _ H);have gk:=(YO _ _ 3 _ _ _ H);have gl:=(YO _ _ 4 _ _ _ H);have gm:=(YO _ _ 5 _ _ _ H);have gn:=(YO _ _ 6 _ _ _ H))|(go_at_call 194;refine (hw.out l[k] _ w0 _ B b _ d hy.out hd.out hz.out hE (hx.then (XF (Q.trans ((hm _).trans I)) h0)) h0 (Or.inr J) hD ha.out).mono ?_;rintro e w3 ⟨rfl,hW,gc⟩))
    have V:WB B b (bs++Lib.byteCells (91::commas ((l.map jtext).take (k+1)))) w3:=(by rw[hg.out];have h2:=hW;rw[Zt,Zt,Zo6,<-Yl,<-Yl] at h2;simpa using h2);have hq:=Q.trans ((hm _).trans (I.trans gc));go_roundw
    case rel=>exact ⟨k+1,hH,hO,V,hq⟩
    case measure=>exact hK
  ·have hI:(l.map jtext).take k=l.map jtext:=ZQ (by rw[Zq];exact Nat.not_lt.1 K);rw[hI] at X;have hn:Hid ((bs++Lib.byteCells (91::commas (l.map jtext))).length+1<=140737488355328):=(by unfold Hid;rw[Zb,YT];have:=HL.out;simp only[Zd];omega);clear ht HL hI
   go_wp2_with (go_at_call 62;refine (JZ J5 _ _ _ _ _ X hn.out hj).mono ?_;rintro e w2 ⟨rfl,J,I⟩)
   ((try simp only[Exit.inBlock,Exit.then]);refine bodyPost_end (results_none rfl _ _ _) rfl ?_);refine ⟨rfl,?_,Q.trans I⟩;rw[Zo7,Zt,<-Yl] at J;exact J
theorem Zma (n:Nat) (ih:ValueSaid n) (l:List JV) (cs:List Value) (w0 w:Wq) (B b:Nat) (bs:List Value) (d:Nat) (V:RVn (n+1) w0 (.arr l) cs) (h:jok (.arr l)) (K:jvalid (.arr l) d=true) (hE:Env w0) (hx:Ext w0 w) (h0:w0.heap.size<=B)
 (hB:WB B b bs w) (D:B<=w.heap.size) (U:bs.length+(jtext (.arr l)).length<=140737488355328):
 Calls prog 194 #[.pointer (some ⟨b,0,none⟩),.agg cs.toArray] w λe w'=>e= .returned (.tuple #[])/\(WB B b (bs++Lib.byteCells (jtext (.arr l))) w'/\Below B w w'):=by
 obtain ⟨a,v,css,rfl,S,Z,I⟩:=V;obtain ⟨_,A,c,rfl,hb,ha,_,_⟩:=id Z;rw[Zbt] at h;rw[QG] at K;rw[J7] at U|-;simp only[ZG,Z6] at K;have J:bs.length+(commas (l.map jtext)).length+2<=140737488355328:=by simp only[Zd,Zb,ZK] at U;omega
 have HJ:=gd (λw' (X:Ext w0 w') Q F=>ZmY n ih l A c css w0 w' B b bs (d+1) S Z I h K.2 hE X h0 Q F J);have H:∀o,Below B w (w.alloc o):=λo=>XF ((Ext.refl w).alloc o) D;clear h K I U J ih;unfold vcells;go_enter func194,ntmps194
 go_wp2_with (go_at_call 222;refine (HJ.out _ (hx.alloc _) (Xd hB ((Ext.refl w).alloc _)) (Zp D ((Ext.refl w).alloc _).size)).mono ?_;rintro e w2 ⟨rfl,R,Y⟩)
 ((try simp only[Exit.inBlock,Exit.then]);refine bodyPost_end (results_none rfl _ _ _) rfl ?_);exact ⟨rfl,R,(H _).trans Y⟩
theorem Zh1:∀n,ValueSaid n
 |0,_,_,_,_,_,_,_,_,h,_,_,_,_,_,_,_,_=>h.elim
 |n+1,j,cs,w0,w,B,b,bs,d,h,hok,hv,hE,hx,h0,hB,hBw,hl=>by
  cases j with
  |arr l=>exact Zma n (Zh1 n) l cs w0 w B b bs d h hok hv hE hx h0 hB hBw hl
  |null=>exact QW (n+1) _ cs w0 w B b bs d h hok hv hE hx h0 hB hBw hl (by simp)
  |bool x=>exact QW (n+1) _ cs w0 w B b bs d h hok hv hE hx h0 hB hBw hl (by simp)
  |int x=>exact QW (n+1) _ cs w0 w B b bs d h hok hv hE hx h0 hB hBw hl (by simp)
  |str s=>exact QW (n+1) _ cs w0 w B b bs d h hok hv hE hx h0 hB hBw hl (by simp)
theorem ZgN:(prog.info? 211).map (λi=>(i.zero,i.size,i.bytes))=some (some (.agg #[nI 0,.bool false,nI 0,eS,sN,sN,nI 0]),7,96):=by kernel_rfl
theorem Zki (v:Value) (n:Nat) (xs:List Value) (w:Wq) (h:RSl w 7 v n xs) (h1:∀u∈xs,u.oneCell'=true) (F:n*96<=140737488355328):
 Calls prog 191 #[v] w λe w'=>∃v',e= .returned v'/\w'.ownsRow w.heap.size 211 7 v' n xs/\Ext w w':=by
 obtain ⟨i0,hi,U,V,X⟩:=YH ZgN;obtain ⟨hl,A,c,rfl,I,Q,hA,K⟩:=id h;have H:Hid ((0+n)*96<=140737488355328):=by rw[YI];exact F
 have S:0+n<=maxLen:=by rw[YI];exact Zp I Q
 clear F;have hq:∀(w:Wq) (a:Option Addr) (n c Y J:Nat),(binOp .eql 208 (.slice a n c) (.slice none Y J)).run prog w= .ok (.bool a.isNone) w:=λw a n c Y J=>Lib.run_eql_slice_nil w _ _ a n c Y J underlying208;cases A with
 |none=>have hn:n=0:=Nat.le_zero.1 (hA rfl▸I);subst hn;have hx:xs= []:=Zm (by rw[hl]);subst hx;go_enter func191,ntmps191;go_wp2;go_ret;exact ⟨_,rfl,YF _ _ _ _,Ext.refl _⟩
 |some ad=>
  go_enter func191,ntmps191
  go_wp2_with (at_builtin;refine ZO _ rfl (.tmp 5) (.tmp 6) _ rfl w.heap.size 211 i0 _ 7 96 underlying208 hi U V X rfl (by decide) _ _ [] rfl (Jx (cs:= []) (Zc _) rfl (by decide)) _ n xs rfl (h.ext ((Ext.refl w).alloc _)) h1 S H.out ((Ext.refl w).alloc _).size ?_;intro v1 w2 D R Z)
  go_ret;rw[YI] at D;exact ⟨v1,rfl,D,((Ext.refl w).alloc _).app R (Jx (cs:= []) (size:=7) (n:=0) (Zc _) rfl (by decide)) (Zc _)⟩
section
variable {c m:Nat} {cs:List Value}
theorem ZiS (j:JV) (cs:List Value) (w:Wq) (h:RV w j cs) (H:jok j) (Z:Env w) (U:(jtext j).length<=140737488355328):
 Calls prog 155 #[.agg cs.toArray] w λe w'=>e= .returned (.tuple #[.string (jwrite j).1,nI ((jwrite j).2:Nat)])/\Ext w w':=by
 have F:=gd (λw' (K:Ext w w')=>ZiQ j cs w' (h.ext K) H (Z.ext K));obtain ⟨n,h⟩:=h;obtain ⟨x0,x1,x2,x3,x4,x5,x6,x7,hc⟩:=h.shape;subst hc;by_cases I:jvalid j 1=true
 ·have D:jwrite j=(str (jtext j),0):=by rw[jwrite,Zi I]
  have J:=gd (λw0 w' (K:Ext w w0) B b bs (X:Ext w0 w') h0 hB S V=>Zh1 n j _ w0 w' B b bs 1 (h.ext K) H I (Z.ext K) X h0 hB S V);rw[Zi I] at F;have HL:=gd U;rw[D];clear I D U h H;go_enter func155,ntmps155
  go_wp2_with (first|(go_at_call 193;refine (F.out _ ((Ext.refl w).alloc _)).mono ?_;rintro e w1 ⟨rfl,A⟩;have ha:=((Ext.refl w1).alloc (.cells #[.pointer none,sN] 245)).cell (A.boxed 0 _ rfl);have hb:=((Ext.refl w1).alloc (.cells #[.pointer none,sN] 245)).cell (A.boxed 1 _ rfl);have hd:=((Ext.refl w1).alloc (.cells #[.pointer none,sN] 245)).cell (A.boxed 2 _ rfl);have he:=((Ext.refl w1).alloc (.cells #[.pointer none,sN] 245)).cell (A.boxed 3 _ rfl);have hf:=((Ext.refl w1).alloc (.cells #[.pointer none,sN] 245)).cell (A.boxed 4 _ rfl);have hg:=((Ext.refl w1).alloc (.cells #[.pointer none,sN] 245)).cell (A.boxed 5 _ rfl);have hh:=((Ext.refl w1).alloc (.cells #[.pointer none,sN] 245)).cell (A.boxed 6 _ rfl))|(go_at_call 194;refine (J.out w1 _ (((Ext.refl w).alloc _).trans A) w1.heap.size w1.heap.size [] ((Ext.refl w1).alloc _) (Zc _) (Lib.fresh_isBuilder _ _ _) ((Ext.refl w1).alloc _).size (by simpa using HL.out)).mono ?_;rintro e w2 ⟨rfl,R,Q⟩)|(go_at_call 56;refine (Q7 J5 _ _ _ _ R (Zp ((Ext.refl w1).alloc _).size Q.size)).mono ?_;rintro e w3 ⟨rfl,Y⟩))
  go_ret2
  exact ⟨rfl,(((Ext.refl w).alloc _).trans A).then (XF ((((Ext.refl w1).alloc _).then Q).then Y) (((Ext.refl w).alloc _).trans A).size)⟩
 ·have D:jwrite j=(⟨#[]⟩,22):=by rw[jwrite,Ze I]
  rw[Ze I] at F;rw[D];clear I D U h H;go_enter func155,ntmps155
  go_wp2_with (go_at_call 193;refine (F.out _ ((Ext.refl w).alloc _)).mono ?_;rintro e w1 ⟨rfl,A⟩)
  go_ret2
  exact ⟨rfl,((Ext.refl w).alloc _).trans A⟩
theorem ZgV (s:ByteArray) (w:Wq):
 Calls prog 192 #[.string s] w λe w'=>e= .returned (.agg (vcells 3 false 0 s sN 0).toArray)/\Ext w w':=by
 go_enter func192,ntmps192;go_wp2;((try simp only[Exit.inBlock,Exit.then]);refine ZD (Xe rfl _ _ _ _ _ _ _ rfl (Zg _ _) underlying211 rfl rfl) rfl ?_);exact ⟨rfl,(Ext.refl w).alloc _⟩
theorem ZmX (x:Int) (w:Wq):
 Calls prog 156 #[nI x] w λe w'=>e= .returned (.agg (vcells 2 false x ⟨#[]⟩ sN 0).toArray)/\Ext w w':=by
 go_enter func156,ntmps156;go_wp2;((try simp only[Exit.inBlock,Exit.then]);refine ZD (Xe rfl _ _ _ _ _ _ _ rfl (Zg _ _) underlying211 rfl rfl) rfl ?_);exact ⟨rfl,(Ext.refl w).alloc _⟩
theorem VC {k:Int} {b:Bool} {n:Int} {s:ByteArray} {A:Option Addr} {a:Int}:∀u∈vcells k b n s (.slice A m c) a,u.oneCell'=true:=by
 intro u h;simp[vcells] at h;rcases h with rfl|rfl|rfl|rfl|rfl|rfl|rfl<;>rfl
theorem RVn.one {w:Wq} {n:Nat} {j:JV} {cs:List Value} (h:RVn n w j cs):∀u∈cs,u.oneCell'=true:=by
 obtain ⟨D,F,H,I,J,K,Q,R,rfl⟩:=h.shape;exact VC (a:=R) (n:=H) (k:=D) (b:=F) (s:=I) (A:=J) (m:=K) (c:=Q)
theorem Zgy {css:List (List Value)} (h:∀c∈css,∀u∈c,u.oneCell'=true):∀u∈css.flatten,u.oneCell'=true:=by
 intro u A;obtain ⟨c,hc,A⟩:=Zdh.1 A;exact h c hc u A
def RVs (w:Wq) (v:Value) (l:List JV) (css:List (List Value)):Prop:=css.length=l.length/\RSl w 7 v l.length css.flatten/\∃n,∀(i:Nat) (j:JV) (c:List Value),l[i]? =some j->css[i]? =some c->RVn n w j c
theorem ZhM:(prog.info? 211).map (λi=>i.size)=some 7:=by kernel_rfl
theorem Zoe (h:∀u∈cs,u.oneCell'=true):cs.toArray.all (λu=>u.oneCell')=true:=by simpa using h
theorem K0 (v:Value) (l:List JV) (css:List (List Value)) (w:Wq) (h:RVs w v l css) (D:l.length*96<=140737488355328):
 Calls prog 153 #[v] w λe w'=>∃cs,e= .returned (.agg cs.toArray)/\RV w' (.arr l) cs/\Ext w w':=by
 obtain ⟨V,hr,n,I⟩:=h;have F:∀u∈css.flatten,u.oneCell'=true:=Zgy λc hc=>by obtain ⟨i,Y,rfl⟩:=List.mem_iff_getElem.1 hc;exact (I i l[i] css[i] (Zh om) (Zh Y)).one
 have X:=gd (λw' (hx:Ext w w')=>Zki v l.length css.flatten w' (hr.ext hx) F D);have S:=gd I;clear I F D;go_enter func153,ntmps153
 go_wp2_with (first|(go_at_call 191;refine (X.out _ ((Ext.refl w).alloc _)).mono ?_;rintro e w1 ⟨v',rfl,H,K⟩;obtain ⟨_,R,U,rfl,_⟩:=id (RSl.of_own H);have J:=K.heap (Zg w _))|(refine Zf rfl 211 (.tmp 2) (.tmp 5) rfl w.heap.size _ rfl rfl _ _ J ZhM rfl (Zoe (VC (k:=4) (b:=false) (n:=0) (s:=⟨#[]⟩) (A:=R) (m:=l.length) (c:=U) (a:=0))) ?_))
 ((try simp only[Exit.inBlock,Exit.then]);refine ZD (Xe rfl _ _ _ _ _ _ _ rfl (ZF _ _ _ _ _ _ J) underlying211 rfl ZhM) rfl ?_);have Q:Ext w (w1.setRow w.heap.size #[Value.int .i64 4,.bool false,nI 0,eS,.slice R l.length U,sN,nI 0]):=(((Ext.refl w).alloc _).trans K).setRow (Zc _) _;exact ⟨vcells 4 false 0 ⟨#[]⟩ (.slice R l.length U) 0,rfl,⟨n+1,0,_,css,rfl,V,RSl.of_own (Jk H (by show w.heap.size<(w.heap.push _).size;simp) _),λi j c Z hc=>(S.out i j c Z hc).ext Q⟩,Q⟩
theorem Gz:∃i0,prog.info? 211=some i0/\i0.zero=some (.agg #[nI 0,.bool false,nI 0,eS,sN,sN,nI 0])/\i0.size=7/\i0.bytes=96:=YH ZgN
theorem Qm (v:Value) (l:List ByteArray) (w:Wq) (h:RSl w 1 v l.length (l.map Value.string)) (J:l.length*96<=1407374883553):
 Calls prog 154 #[v] w λe w'=>∃v',e= .returned v'/\w'.ownsRow w.heap.size 211 7 v' l.length (l.map strCells).flatten/\Ext w w':=by
 obtain ⟨_,A,c,rfl,hc,Q,_,_⟩:=id h;obtain ⟨i0,ha,hl,hm,hn⟩:=Gz;go_enter func154,ntmps154;go_wp2;go_loopw [3,8] (λv i wr=>∃k:Nat,k<=l.length/\i=nI k/\wr.ownsRow w.heap.size 211 7 v k ((l.take k).map strCells).flatten/\Ext w wr) (λ_ i _=>l.length - (intOf i).toNat)
 case atStart=>exact ⟨0,Zj _,rfl,YF _ _ _ _,Ext.refl _⟩
 case round=>
  obtain ⟨k,hk,rfl,D,U⟩:=hrel;by_cases I:k<l.length
  ·obtain ⟨ad,rfl,X⟩:=(h.ext U).at1 k (.string l[k]) (by rw[Yp,Zh I];rfl);have S:wrap64 ((k:Int)+1)=((k+1:Nat):Int):=(by rw[maxLen] at Q;rw[Q6 _ ⟨om,om⟩];rfl);have hi:=Zz (Value.int .i64) S;have hf:l.length - (intOf (Value.int IntKind.i64 (wrap64 ((k:Int)+1)))).toNat<l.length - (intOf (Value.int IntKind.i64 (k:Int))).toNat:=(by rw[S];exact Nat.sub_lt_sub_left I (Yy k));have R:k+1<=l.length:=I;have V:Hid ((k+1)*96<=140737488355328):=(by unfold Hid;omega);have hd:Hid (k+1<=maxLen):=Zp R (Zp hc Q);have hh:((l.take k).map strCells).flatten++strCells l[k]=((l.take (k+1)).map strCells).flatten:=(by rw[Zr I,ZS,UZ];simp);clear J
   go_wp2_with (first|(go_at_call 192;refine (ZgV _ _).mono ?_;rintro e w1 ⟨Y,K⟩;(replace Y:e= .returned (.agg #[nI 3,.bool false,nI 0,.string l[k],sN,sN,nI 0]):=Y);subst Y;have F:=Ya D K;have hg:=Zp U.size K.size)|(at_builtin;refine ZO _ rfl (.tmp 12) (.tmp 15) _ rfl w.heap.size 211 i0 _ 7 96 underlying208 ha hl hm hn rfl (by decide) _ _ _ rfl (F.alloc _) _ 1 (strCells l[k]) rfl (Yo rfl (by decide)) VC hd.out V.out ?cb ?_;(case cb=>exact Zp hg ((Ext.refl w1).alloc _).size);intro v1 w2 H Z ho))
   have hj:Ext w w2:=((U.trans K).alloc _).app Z (F.alloc _) (Zc _);rw[hh] at H;go_roundw
   case rel=>exact ⟨k+1,R,hi,H,hj⟩
   case measure=>exact hf
  ·have hb:k=l.length:=om;subst hb;rw[ZQ (Zc _)] at D;clear J;go_wp2;go_ret;exact ⟨_,rfl,D,U⟩
theorem ZfN (w:Wq) (s:ByteArray):RVn 1 w (.str s) (strCells s):=⟨0,rfl⟩
def intCells (x:Int):List Value:=vcells 2 false x ⟨#[]⟩ sN 0
end
section
theorem Vs (l:List UInt8):(quoteL l).length<=6*l.length+2:=by
 have:(l.flatMap qB).length<=6*l.length:=by
  induction l with
  |nil=>simp
  |cons b l ih=>rw[YV,Zb,Zd];have:=Zny b;omega
 unfold quoteL;rw[Zd,Zb];simp only[Zd,ZK];omega
namespace IsCmp
variable {α:Type} {c:α→α→Int} (h:IsCmp c)
include h
end IsCmp
end
section
variable {f:Fd}
def vld (s:ByteArray):Bool:=Lib.validD s.data.toList
def goodH (f:Fd):Prop:=(∀p∈f.path,vld p=true)/\vld f.id=true/\vld f.title=true/\vld f.link=true
theorem IG (h:goodH f):feedKey f=str (jtext (feedJ f)):=by
 obtain ⟨A,D,F,H⟩:=h;unfold vld at A D F H;unfold feedKey jwrite;rw[Zi];unfold feedJ;rw[QG];simp[jvalid,D,F,H];exact A
theorem K1 (s:ByteArray):jtext (.str s)=quoteL s.data.toList:=by rw[jtext]
theorem Zcl (n:Int):jtext (.int n)=Lib.itoa n:=by rw[jtext]
end
section
variable {w:World}
theorem GZ {B:Array Value} {t:TypeId} {fr:Nat×Nat} {A C:Obj} (d:Aft (((w.alloc A).alloc (.cells B t fr)).alloc C)) (i:Nat) (v:Value) (D:B[i]? =some v):d.w.cell? ⟨w.heap.size+1,i,none⟩=some v:=by
 have h:=Ext.boxed (w:=w.alloc A) (((Ext.refl _).alloc C).trans d.ext) i v D
 rwa [Zu] at h
end
section
theorem ZkV (x y:Int):iCmp x y= -1\/iCmp x y=0\/iCmp x y=1:=by
 unfold iCmp;split
 ·exact Or.inl rfl
 ·split
  ·exact Or.inr (Or.inr rfl)
  ·exact Or.inr (Or.inl rfl)
attribute [local go_sem ↓] Go.wp_at_zero Go.wp_at_succ
end
theorem ZmG (f:Fd) (h:fok f):jok (feedJ f):=by
 obtain ⟨D,H⟩:=h;unfold feedJ;rw[Zbt];intro j A;simp only[ZH,ZY,Y1] at A;rcases A with rfl|rfl|rfl|rfl|rfl
 ·rw[Zbt];intro j A;obtain ⟨s,F,rfl⟩:=ZU.1 A;have:=XZ F;simp only[jok];omega
 ·simp only[jok];omega
 ·simp only[jok];omega
 ·simp only[jok];omega
 ·simp only[jok];exact D
theorem ZeF:∀l:List ByteArray,(commas ((l.map JV.str).map jtext)).length<=8*sizes l+3*l.length
 | []=>by simp[commas]
 | [s]=>by
  have a:=Vs s.data.toList
  rw[ZN] at a
  simp only[Zw,Z2,Ka,commas]
  unfold sizes
  simp
  omega
 |s::t::r=>by
  have a:=Vs s.data.toList
  rw[ZN] at a
  have ih:=ZeF (t::r)
  have e:sizes (s::t::r)=s.size+sizes (t::r):=by unfold sizes;simp
  rw[e]
  simp only[Zw,Ka,commas,Zb,Zd] at ih|-
  omega
theorem ZkH (f:Fd) (h:fok f):(jtext (feedJ f)).length<=140737488355328:=by
 obtain ⟨A,D⟩:=h;unfold feedJ;rw[J7];have a:=Vs f.id.data.toList;have b:=Vs f.title.data.toList;have c:=Vs f.link.data.toList;have p:=ZeF f.path;have g:=Lib.itoa_length_le f.upd A.1 A.2;rw[ZN] at a b c;simp only[Zw,Z2,J7,Ka,Zej,commas,Zd,Zb,ZK] at p|-;omega
theorem ZhZ (p es:Value) (f:Fd) (w:Wq):Calls prog 108 #[.agg (fCells p es f).toArray] w λx w'=>x= .returned (nI f.upd)/\Ext w w':=by
 unfold fCells;go_enter func108,ntmps108;go_wp2;go_ret;exact ⟨rfl,(Ext.refl _).alloc _⟩
section
variable {B:Nat} {cs:List Value} {v:Value} {w w2 w3:World}
theorem ZhU {l:List ByteArray} (h:w.ownsRow B 211 7 v l.length (l.map strCells).flatten):RVs w v (l.map .str) (l.map strCells):=by
 refine ⟨by simp,by have:=RSl.of_own h;rwa [Zq],1,λi j c A hc=> ?_⟩;rw[Yp] at A hc;cases hl:l[i]? with
 |none=>rw[hl] at A;cases A
 |some s=>rw[hl] at A hc;cases A;cases hc;exact ZfN _ _
theorem Zoz {ps:List JV} {a b c:ByteArray} {t:Int} (h:RV w (.arr ps) cs)
 (D:w.ownsRow B 211 7 v 5 ((cs++([a,b,c].map strCells).flatten)++intCells t)):
 RVs w v [.arr ps,.str a,.str b,.str c,.int t] [cs,strCells a,strCells b,strCells c,intCells t]:=by
 obtain ⟨n,h⟩:=h;cases n with
 |zero=>exact h.elim
 |succ n=>
  refine ⟨rfl,?_,n+1,λi j c A hc=> ?_⟩
  ·have:=RSl.of_own D;simpa using this
  ·match i with
   |0=>simp at A hc;subst A hc;exact h
   |1|2|3=>simp at A hc;subst A hc;exact ⟨0,rfl⟩
   |4=>simp at A hc;subst A hc;exact ⟨0,rfl⟩
   |i+5=>simp at A
theorem UR (w:Wq) (A B:Obj):((w.alloc A).alloc B).heap[w.heap.size+1]? =some B:=by
 have:=Zg (w.alloc A) B
 rwa [show (w.alloc A).heap.size=w.heap.size+1 by show (w.heap.push A).size=_;simp] at this
theorem Znr {O:Obj} (A:cs.length=7) (h:Ext ((w2.alloc (.cells cs.toArray 211)).alloc O) w3):
 w3.ownsRow w2.heap.size 211 7 (.slice (some ⟨w2.heap.size,0,none⟩) 1 1) 1 cs:=
 Ya (Ya (Jx (w:=w2) (base:=w2.heap.size) (e:=211) (size:=7) (n:=1) (cs:=cs) (Zc _) om (by decide)) ((Ext.refl _).alloc O)) h
theorem Zns {O:Obj} (D:cs.length=7) (A:Ext ((w2.alloc O).alloc (.cells cs.toArray 211)) w3):
 w3.ownsRow w2.heap.size 211 7 (.slice (some ⟨w2.heap.size+1,0,none⟩) 1 1) 1 cs:=by
 have h:(w2.alloc O).heap.size=w2.heap.size+1:=by show (w2.heap.push O).size=_;simp
 have:=Ya (Jx (w:=w2.alloc O) (base:=w2.heap.size) (e:=211) (size:=7) (n:=1) (cs:=cs) om om (by decide)) A
 rwa [h] at this
theorem Zba (w:Wq) (A B:Obj):((w.alloc A).alloc B).heap[w.heap.size]? =some A:=((Ext.refl (w.alloc A)).alloc B).heap (Zg w A)
theorem Znt (A:cs.length=7) (h:Ext (w2.alloc (.cells cs.toArray 211)) w3):
 w3.ownsRow w2.heap.size 211 7 (.slice (some ⟨w2.heap.size,0,none⟩) 1 1) 1 cs:=
 Ya (Jx (w:=w2) (base:=w2.heap.size) (e:=211) (size:=7) (n:=1) (cs:=cs) (Zc _) om (by decide)) h
theorem Zhq (A:cs.length=7) (h:w2.heap.size<=w3.heap.size):
 (w3.alloc (.cells cs.toArray 211)).ownsRow w2.heap.size 211 7 (.slice (some ⟨w3.heap.size,0,none⟩) 1 1) 1 cs:=
 Jx (w:=w3) (base:=w2.heap.size) (e:=211) (size:=7) (n:=1) (cs:=cs) h om (by decide)
theorem GM (l:List ByteArray):∀u∈(l.map strCells).flatten,u.oneCell'=true:=
 Zgy λc hc=>by obtain ⟨s,_,rfl⟩:=ZU.1 hc;exact VC
attribute [local go_sem ↓] Go.wp_at_zero Go.wp_at_succ
theorem ZaD (p es:Value) (f:Fd) (w:Wq) (hE:Env w) (hd:fok f) (hp:RStrs w p f.path):
 Calls prog 109 #[.agg (fCells p es f).toArray] w λx w'=>x= .returned (.string (feedKey f))/\Ext w w':=by
 obtain ⟨i0,hc,hf,hg,hh⟩:=Gz;have hC:Hid (feedKey f=(jwrite (feedJ f)).1):=gd rfl;obtain ⟨path,id,title,link,upd,ents⟩:=f;have HP:=gd (λ(w':Wq) (h:Ext w w')=>Qm p path w' (hp.ext h) (by have:=hd.2;simp at this;omega));have HS:=gd (λ(w':Wq) (v:Value) (h:RSl w' 1 v 3 [.string id,.string title,.string link])=>Qm v [id,title,link] w' h (by show 3*96<=1407374883553;decide));have hw:=λw' cs h=>ZiS (feedJ ⟨path,id,title,link,upd,ents⟩) cs w' h;have hD:=gd (λw' cs h hF=>hw w' cs h (ZmG _ hd) hF (ZkH _ hd));have hH:path.length<=16777216:=by have:=hd.2;simp at this;omega
 have hq:Hid (path.length*96<=140737488355328):=gd om;have hM:=gd hd;have hO:=gd hp;have hB:=gd hE;clear hw hH hd hp hE;unfold fCells;dsimp only;have hN:=gd (HP.out ((w.alloc (.cells #[p,.string id,.string title,.string link,nI upd,es] 55)).drew) ((Ext.refl w).alloc _).drew);go_enter func109,ntmps109;go_wp2
 go_region_held3 (λw'=>Ext w w'/\w'.cell? ⟨w.heap.size,0,none⟩=some p/\w'.cell? ⟨w.heap.size,1,none⟩=some (.string id)/\w'.cell? ⟨w.heap.size,2,none⟩=some (.string title)/\w'.cell? ⟨w.heap.size,3,none⟩=some (.string link)/\w'.cell? ⟨w.heap.size,4,none⟩=some (nI upd))
  ((go_split_ands;refine ⟨?_,?_,?_,?_,?_,?_⟩<;>first|assumption|((repeat (first|exact Ext.refl _|assumption|apply Ext.drew|apply Ext.alloc));done)|((refine Ext.trans ?_ (by assumption));(repeat (first|exact Ext.refl _|assumption|apply Ext.drew|apply Ext.alloc));done)|((refine Ext.cell (by assumption) ?_);first|assumption|(go_keep;done))|(go_keep;done)))
  (first|(go_at_call 154;(with_reducible refine Za (HP.out _ ?_) ?_);(focus ((repeat (first|exact Ext.refl _|assumption|exact And.left (by assumption)|apply Ext.drew|apply Ext.alloc));done));rintro e w1 ⟨v1,rfl,X,hi⟩;(have ht:=gd hi))|(go_at_call 153;(first|refine (K0 _ _ _ _ (ZhU X) (by rw[Zq];exact hq.out)).mono ?_|refine (K0 _ _ _ _ (ZhU (Ya X ((Ext.refl _).alloc _))) (by rw[Zq];exact hq.out)).mono ?_);rintro e w2 ⟨hP,rfl,hx,Z⟩;(obtain ⟨n2,hm⟩:=hx);(obtain ⟨x0,x1,x2,x3,x4,x5,x6,x7,hu⟩:=hm.shape);subst hu;(have hr:=gd (show RV _ _ _ from ⟨n2,hm⟩));clear hm;(have hL:=gd X);clear X;(first|(have R:=gd (ht.out.trans Z))|(have R:=gd (ht.out.trans (((Ext.refl w1).alloc _).trans Z)))))|(go_at_call 154;(have hK:=hr);(with_reducible refine Za (HS.out _ _ ?_) ?_);(focus (exact Jb (e:=9) (fr:=(0,0)) (cs:= [.string id,.string title,.string link]) (by first|exact Zg _ _|exact UR _ _ _|exact Zba _ _ _|exact Z.heap (Zg _ _)|exact (Z.alloc _).heap (Zg _ _)|exact (hi.trans Z).heap (Zg _ _)|exact ((hi.trans Z).alloc _).heap (Zg _ _)|exact (hi.trans Z).heap (UR _ _ _)|exact ((hi.trans Z).alloc _).heap (UR _ _ _)) rfl (by decide)));rintro e w3 ⟨v3,rfl,S,I⟩)|((have D:=gd (Znr (cs:= [nI x0,.bool x1,nI x2,.string x3,.slice x4 x5 x6,sN,nI x7]) rfl I));refine Z1 _ (by rfl) (.tmp 10) (.tmp 18) _ (by rfl) w2.heap.size 211 i0 _ 7 96 underlying208 hc hf hg hh rfl (by decide) _ 1 [nI x0,.bool x1,nI x2,.string x3,.slice x4 x5 x6,sN,nI x7] (by rfl) D.out v3 3 (([id,title,link].map strCells).flatten) (by rfl) (RSl.of_own S) (GM _) (by decide) (by decide) ((((Ext.refl w2).alloc _).alloc _).trans I).size ?_;intro v4 w4 A K J;(obtain ⟨g4,ha,Y,_⟩:=X6 A (by decide));subst Y;(have Q:=gd A);(have F:Ext w2 w4:=Ext.app ((((Ext.refl w2).alloc _).alloc _).trans I) K D.out (Zc _));(have U:=gd F);clear A K J;(have H:=R.out.trans F);(have hb:Ext w w4:=Ext.trans (by first|exact ((Ext.refl w).alloc _).drew|exact (((Ext.refl w).alloc _).drew.alloc _)|exact (((Ext.refl w).alloc _).alloc _).drew) H);(have V:Hid (Ext w w2):=gd (Ext.trans (by first|exact ((Ext.refl w).alloc _).drew|exact (((Ext.refl w).alloc _).drew.alloc _)|exact (((Ext.refl w).alloc _).alloc _).drew) R.out));(have hl:=H);clear H F)|((have D:=gd (Zns (cs:= [nI x0,.bool x1,nI x2,.string x3,.slice x4 x5 x6,sN,nI x7]) rfl I));refine Z1 _ (by rfl) (.tmp 10) (.tmp 18) _ (by rfl) w2.heap.size 211 i0 _ 7 96 underlying208 hc hf hg hh rfl (by decide) _ 1 [nI x0,.bool x1,nI x2,.string x3,.slice x4 x5 x6,sN,nI x7] (by rfl) D.out v3 3 (([id,title,link].map strCells).flatten) (by rfl) (RSl.of_own S) (GM _) (by decide) (by decide) ((((Ext.refl w2).alloc _).alloc _).trans I).size ?_;intro v4 w4 A K J;(obtain ⟨g4,ha,Y,_⟩:=X6 A (by decide));subst Y;(have Q:=gd A);(have F:Ext w2 w4:=Ext.app ((((Ext.refl w2).alloc _).alloc _).trans I) K D.out (Zc _));(have U:=gd F);clear A K J;(have H:=R.out.trans F);(have hb:Ext w w4:=Ext.trans (by first|exact ((Ext.refl w).alloc _).drew|exact (((Ext.refl w).alloc _).drew.alloc _)|exact (((Ext.refl w).alloc _).alloc _).drew) H);(have V:Hid (Ext w w2):=gd (Ext.trans (by first|exact ((Ext.refl w).alloc _).drew|exact (((Ext.refl w).alloc _).drew.alloc _)|exact (((Ext.refl w).alloc _).alloc _).drew) R.out));(have hl:=H);clear H F)|((have D:=gd (Znt (cs:= [nI x0,.bool x1,nI x2,.string x3,.slice x4 x5 x6,sN,nI x7]) rfl I));refine Z1 _ (by rfl) (.tmp 10) (.tmp 18) _ (by rfl) w2.heap.size 211 i0 _ 7 96 underlying208 hc hf hg hh rfl (by decide) _ 1 [nI x0,.bool x1,nI x2,.string x3,.slice x4 x5 x6,sN,nI x7] (by rfl) D.out v3 3 (([id,title,link].map strCells).flatten) (by rfl) (RSl.of_own S) (GM _) (by decide) (by decide) (((Ext.refl w2).alloc _).trans I).size ?_;intro v4 w4 A K J;(obtain ⟨g4,ha,Y,_⟩:=X6 A (by decide));subst Y;(have Q:=gd A);(have F:Ext w2 w4:=Ext.app (((Ext.refl w2).alloc _).trans I) K D.out (Zc _));(have U:=gd F);clear A K J;(have H:=R.out.trans F);(have hb:Ext w w4:=Ext.trans (by first|exact ((Ext.refl w).alloc _).drew|exact (((Ext.refl w).alloc _).drew.alloc _)|exact (((Ext.refl w).alloc _).alloc _).drew) H);(have V:Hid (Ext w w2):=gd (Ext.trans (by first|exact ((Ext.refl w).alloc _).drew|exact (((Ext.refl w).alloc _).drew.alloc _)|exact (((Ext.refl w).alloc _).alloc _).drew) R.out));(have hl:=H);clear H F)|((have D:=gd (Zhq (w2:=w2) (w3:=w3) (cs:= [nI x0,.bool x1,nI x2,.string x3,.slice x4 x5 x6,sN,nI x7]) rfl (((Ext.refl w2).alloc _).trans I).size));refine Z1 _ (by rfl) (.tmp 10) (.tmp 18) _ (by rfl) w2.heap.size 211 i0 _ 7 96 underlying208 hc hf hg hh rfl (by decide) _ 1 [nI x0,.bool x1,nI x2,.string x3,.slice x4 x5 x6,sN,nI x7] (by rfl) D.out v3 3 (([id,title,link].map strCells).flatten) (by rfl) (RSl.of_own (Ya S ((Ext.refl _).alloc _))) (GM _) (by decide) (by decide) ((((Ext.refl w2).alloc _).trans I).alloc _).size ?_;intro v4 w4 A K J;(obtain ⟨g4,ha,Y,_⟩:=X6 A (by decide));subst Y;(have Q:=gd A);(have F:Ext w2 w4:=Ext.app ((((Ext.refl w2).alloc _).trans I).alloc _) K D.out (Zc _));(have U:=gd F);clear A K J;(have H:=R.out.trans F);(have hb:Ext w w4:=Ext.trans (by first|exact ((Ext.refl w).alloc _).drew|exact (((Ext.refl w).alloc _).drew.alloc _)|exact (((Ext.refl w).alloc _).alloc _).drew) H);(have V:Hid (Ext w w2):=gd (Ext.trans (by first|exact ((Ext.refl w).alloc _).drew|exact (((Ext.refl w).alloc _).drew.alloc _)|exact (((Ext.refl w).alloc _).alloc _).drew) R.out));(have hl:=H);clear H F)|((have D:=gd (Zhq (w2:=w2) (w3:=w3) (cs:= [nI x0,.bool x1,nI x2,.string x3,.slice x4 x5 x6,sN,nI x7]) rfl I.size));refine Z1 _ (by rfl) (.tmp 10) (.tmp 18) _ (by rfl) w2.heap.size 211 i0 _ 7 96 underlying208 hc hf hg hh rfl (by decide) _ 1 [nI x0,.bool x1,nI x2,.string x3,.slice x4 x5 x6,sN,nI x7] (by rfl) D.out v3 3 (([id,title,link].map strCells).flatten) (by rfl) (RSl.of_own (Ya S ((Ext.refl _).alloc _))) (GM _) (by decide) (by decide) (I.alloc _).size ?_;intro v4 w4 A K J;(obtain ⟨g4,ha,Y,_⟩:=X6 A (by decide));subst Y;(have Q:=gd A);(have F:Ext w2 w4:=Ext.app (I.alloc _) K D.out (Zc _));(have U:=gd F);clear A K J;(have H:=R.out.trans F);(have hb:Ext w w4:=Ext.trans (by first|exact ((Ext.refl w).alloc _).drew|exact (((Ext.refl w).alloc _).drew.alloc _)|exact (((Ext.refl w).alloc _).alloc _).drew) H);(have V:Hid (Ext w w2):=gd (Ext.trans (by first|exact ((Ext.refl w).alloc _).drew|exact (((Ext.refl w).alloc _).drew.alloc _)|exact (((Ext.refl w).alloc _).alloc _).drew) R.out));(have hl:=H);clear H F))
 go_wp2_with (first|(go_at_call 156;refine (ZmX _ _).mono ?_;rintro e w5 ⟨he,hk⟩;(replace he:e= .returned (.agg #[nI 2,.bool false,nI upd,eS,sN,sN,nI 0]):=he);subst he)|(at_builtin;refine ZO _ rfl (.tmp 21) (.tmp 25) _ rfl w2.heap.size 211 i0 _ 7 96 underlying208 hc hf hg hh rfl (by decide) _ (1+3) _ rfl (Ya (Ya Q.out hk) ((Ext.refl _).alloc _)) _ 1 (intCells upd) rfl (Yo rfl (by decide)) VC (by decide) (by decide) ?_ ?_;(have:=(U.out.trans hk).size;simp;omega);intro v6 w6 ho hG hJ;have hj:=Ext.app ((U.out.trans hk).alloc _) hG (Ya (Ya Q.out hk) ((Ext.refl _).alloc _)) (Zc _))|(go_at_call 153;(have hz:=K0 _ _ _ _ (Zoz (hr.out.ext hj) ho) (by show 5*96<=140737488355328;decide));refine Za hz ?_;clear hz;rintro e w7 ⟨hQ,rfl,hy,hA⟩;obtain ⟨n7,hn⟩:=hy;obtain ⟨y0,y1,y2,y3,y4,y5,y6,y7,hv⟩:=hn.shape;subst hv;have hs:=gd (show RV _ _ _ from ⟨n7,hn⟩);clear hn)|(go_at_call 155;have hz:=hD.out _ _ hs.out (hB.out.ext (V.out.trans (hj.trans hA)));refine Za hz ?_;clear hz;rintro e w8 ⟨rfl,hI⟩))
 all_goals go_ret
 all_goals exact ⟨by rw[hC.out];rfl,V.out.trans (hj.trans (hA.trans hI))⟩
end
end Go.Proofs.YtnlafkgkcnenfaaGreatDoor
