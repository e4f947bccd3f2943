/- Parts of the proof: contracts and plain laws. -/
import Derived.Test.YtmfinhgobjbecaaGreatDoorA02
namespace Go.Proofs.YtmfinhgobjbecaaGreatDoor
open Go Go.RowKit _root_.Go.Proofs.Tryz
set_option linter.unusedVariables false
set_option linter.unusedSimpArgs false
set_option maxRecDepth 100000
set_option maxHeartbeats 16000000
section
theorem YN (s:ByteArray) (w:Wq) (h:Env w) (A:s.size<=16777216):
 Calls prog 232 #[.string s] w λe w'=>e= .returned (.bool (Lib.validD s.data.toList))/\Ext w w':=
 utf8_ValidString s w om h.utf8
theorem ZpI (w:Wq):(Instr.index 310 (.agg #[.int .u8 98,.int .u8 8,.int .u8 102,.int .u8 12,.int .u8 110,.int .u8 10,.int .u8 114,.int .u8 13,.int .u8 116,.int .u8 9]) (nI 0)).run prog w= .ok (.agg #[.int .u8 98,.int .u8 8]) w:=by kernel_rfl
theorem ZpJ (w:Wq):(Instr.index 310 (.agg #[.int .u8 98,.int .u8 8,.int .u8 102,.int .u8 12,.int .u8 110,.int .u8 10,.int .u8 114,.int .u8 13,.int .u8 116,.int .u8 9]) (nI 1)).run prog w= .ok (.agg #[.int .u8 102,.int .u8 12]) w:=by kernel_rfl
theorem ZpK (w:Wq):(Instr.index 310 (.agg #[.int .u8 98,.int .u8 8,.int .u8 102,.int .u8 12,.int .u8 110,.int .u8 10,.int .u8 114,.int .u8 13,.int .u8 116,.int .u8 9]) (nI 2)).run prog w= .ok (.agg #[.int .u8 110,.int .u8 10]) w:=by kernel_rfl
theorem ZpL (w:Wq):(Instr.index 310 (.agg #[.int .u8 98,.int .u8 8,.int .u8 102,.int .u8 12,.int .u8 110,.int .u8 10,.int .u8 114,.int .u8 13,.int .u8 116,.int .u8 9]) (nI 3)).run prog w= .ok (.agg #[.int .u8 114,.int .u8 13]) w:=by kernel_rfl
theorem ZpM (w:Wq):(Instr.index 310 (.agg #[.int .u8 98,.int .u8 8,.int .u8 102,.int .u8 12,.int .u8 110,.int .u8 10,.int .u8 114,.int .u8 13,.int .u8 116,.int .u8 9]) (nI 4)).run prog w= .ok (.agg #[.int .u8 116,.int .u8 9]) w:=by kernel_rfl
theorem Zpj (n:Nat) (A:n<16):({data:=#[48,49,50,51,52,53,54,55,56,57,97,98,99,100,101,102]}:ByteArray).extract ((n:Int)).toNat ((n:Int)+1).toNat=str [hexD n]:=by
 have h:n=0\/n=1\/n=2\/n=3\/n=4\/n=5\/n=6\/n=7\/n=8\/n=9\/n=10\/n=11\/n=12\/n=13\/n=14\/n=15:=om
 rcases h with rfl|rfl|rfl|rfl|rfl|rfl|rfl|rfl|rfl|rfl|rfl|rfl|rfl|rfl|rfl|rfl<;>exact Yj (by decide)
theorem ZoH (x:Int) (a b:Nat) (C:a<16) (D:b<16) (h:x / 16=(a:Int)) (A:x % 16=(b:Int)):
 ({data:=#[92,117,48,48]}:ByteArray)++({data:=#[48,49,50,51,52,53,54,55,56,57,97,98,99,100,101,102]}:ByteArray).extract (x / 16).toNat (x / 16+1).toNat++({data:=#[48,49,50,51,52,53,54,55,56,57,97,98,99,100,101,102]}:ByteArray).extract (x % 16).toNat (x % 16+1).toNat=str [92,117,48,48,hexD a,hexD b]:=by
 rw[h,A,Zpj a C,Zpj b D];rfl
theorem Zpw (w:Wq) (a b:Int) (n:Nat) (h:n=w.heap.size):(convert 145 9 (.slice (some ⟨n,0,none⟩) 2 2)).run prog (w.alloc (.cells #[.int .u8 a,.int .u8 b] 5))= .ok (.string (strOfNums [a,b])) (w.alloc (.cells #[.int .u8 a,.int .u8 b] 5)):=by subst h;exact Zpi w a b
attribute [local go_sem] Zpw ZpI ZpJ ZpK ZpL ZpM
theorem Zip (c:UInt8) (w:Wq) (hE:Env w):
 Calls prog 240 #[.int .u8 (c.toNat:Nat)] w λe w'=>e= .returned (.string (str (escB c)))/\Ext w w':=by
 obtain ⟨L,O⟩:∃L,escB c=L:=⟨_,rfl⟩;rw[O];have C:=gd O;clear O;obtain ⟨x,Q⟩:∃x:Int,(c.toNat:Int)=x:=⟨_,rfl⟩;have R:=Xd c;rw[Q] at R|-;have hg:0<=x:=om
 have D:=gd Q;clear Q;obtain ⟨t,fr,A⟩:=hE.letters;by_cases hq:x=34\/x=92
 ·have F:Hid (L= [92,UInt8.ofNat x.toNat]):=by show _=_;have:=D.out;rw[<-C.out];unfold escB;rw[ZqN om,show x.toNat=c.toNat by omega];simp
  clear D C;rcases hq with rfl|rfl
  all_goals go_enter func240,ntmps240
  all_goals go_wp2
  all_goals go_ret
  all_goals exact ⟨by rw[F.out];rfl,by repeat (first|exact Ext.refl _|apply Ext.drew|apply Ext.alloc|(refine Ext.setCell ?_ (by simp) _))⟩
 ·have H:(x==34)=false:=by rw[ZqW];omega
  have I:(x==92)=false:=by rw[ZqW];omega
  clear hq;by_cases he:32<=x
  ·have F:Hid (L= []):=(by show _=_;have:=D.out;rw[ZqW] at H I;rw[<-C.out];unfold escB;rw[ZqH om,ZqN om]);go_enter func240,ntmps240;go_wp2
   all_goals go_ret
   all_goals exact ⟨by rw[F.out];rfl,Ext.refl _⟩
  ·have J:(x=8\/x=9\/x=10\/x=12\/x=13)\/(x≠8/\x≠9/\x≠10/\x≠12/\x≠13):=om;rcases J with J|J
   ·have F:Hid (L= [92,UInt8.ofNat (letterN x.toNat)]):=(by show _=_;have:=D.out;rw[<-C.out,ZaH c (by rcases J with h|h|h|h|h<;>(rw[show c.toNat=x.toNat by omega,h];decide)),show c.toNat=x.toNat by omega]);clear D C;clear H I;rcases J with rfl|rfl|rfl|rfl|rfl
    all_goals go_enter func240,ntmps240
    all_goals go_wp2_with (refine wpList_load_row rfl 310 _ rfl 5 rfl t _ fr _ A underlying310 rfl (by kernel_rfl) ?_)
    all_goals refine Zsg 5 ?_
    all_goals rw[rounds_succ]
    all_goals go_wp2
    all_goals try rw[rounds_succ]
    all_goals try go_wp2
    all_goals try rw[rounds_succ]
    all_goals try go_wp2
    all_goals try rw[rounds_succ]
    all_goals try go_wp2
    all_goals try rw[rounds_succ]
    all_goals try go_wp2
    all_goals go_ret
    all_goals exact ⟨by rw[F.out,JY];rfl,by repeat (first|exact Ext.refl _|apply Ext.drew|apply Ext.alloc|(refine Ext.setCell ?_ (by simp) _))⟩
   ·obtain ⟨n8,n9,X,Y,Z⟩:=J;obtain ⟨a,ha⟩:∃a,c.toNat / 16=a:=⟨_,rfl⟩;obtain ⟨b,hb⟩:∃b,c.toNat % 16=b:=⟨_,rfl⟩;have V:=D.out;have F:Hid (L= [92,117,48,48,hexD a,hexD b]):=(by show _=_;rw[ZqW] at H I;rw[<-C.out,Zgg c (by unfold letterN;(repeat' split)<;>omega) om,ha,hb]);have m8:((8:Int)==x)=false:=(by rw[ZqW];omega);have m9:((9:Int)==x)=false:=(by rw[ZqW];omega);have hh:((10:Int)==x)=false:=(by rw[ZqW];omega);have hi:((12:Int)==x)=false:=(by rw[ZqW];omega);have hj:((13:Int)==x)=false:=(by rw[ZqW];omega);have S:Hid (x / 16=(a:Int)):=(by show _=_;omega);have U:Hid (x % 16=(b:Int)):=(by show _=_;omega);have hc:(a:Int)<16:=om;have hd:(b:Int)<16:=om;clear D C n8 n9 X Y Z ha hb V;go_enter func240,ntmps240
    go_wp2_with (refine wpList_load_row rfl 310 _ rfl 5 rfl t _ fr _ A underlying310 rfl (by kernel_rfl) ?_)
    refine Zsg 6 ?_;rw[rounds_succ];go_wp2;rw[rounds_succ];go_wp2;rw[rounds_succ];go_wp2;rw[rounds_succ];go_wp2;rw[rounds_succ];go_wp2;rw[rounds_succ];go_wp2
    go_region
    have ht:=ZoH x a b om om S.out U.out;rw[ht,<-F.out];clear ht;go_wp2;go_ret;exact ⟨rfl,by repeat (first|exact Ext.refl _|apply Ext.drew|apply Ext.alloc|(refine Ext.setCell ?_ (by simp) _))⟩
end
theorem Jh (l:List UInt8):(str l).toList.isEmpty=l.isEmpty:=by rw[Zn,Zg]
theorem Jt (s:ByteArray) (f k:Nat) (h:f<=k):(s.extract f k).data.toList=(s.data.toList.drop f).take (k - f):=by
 simp
theorem Xb (a b:ByteArray):(a++b).data.toList=a.data.toList++b.data.toList:=by simp
theorem ZhC (s:ByteArray) (f k:Nat) (h:f<=k) (A:k<s.size):(s.data.toList.drop f).take (k+1 - f)=(s.data.toList.drop f).take (k - f)++ [s[k]]:=by
 rw[show k+1 - f=(k - f)+1 by omega,ZqQ (by rw[ZqP,Zb];omega)];simp only[List.getElem_drop]
 congr 2
 have:f+(k - f)=k:=om
 simp only[this];rfl
theorem Zt {w w':Wq} {base size n:Nat} {e:TypeId} {v:Value} {xs:List Value} (h:w.ownsRow base e size v n xs) (A:Ext w w'):w'.ownsRow base e size v n xs:=
 h.kept (A.grown none) (by cases v.ownBlock<;>simp)
theorem ZF {T e:TypeId} {B b:Nat} {bs:List Value} {w w':Wq} (h:Lib.IsBuilder T e B b bs w) (D:Ext w w'):Lib.IsBuilder T e B b bs w':=by
 rcases h with ⟨F,v,H,A,C⟩|⟨F,v,H,A,C⟩
 ·exact Or.inl ⟨F,v,D.heap H,Zt A D,C⟩
 ·exact Or.inr ⟨F,v,D.heap H,Zt A D,C⟩
theorem ZlN (s:ByteArray) (w:Wq) (hE:Env w) (hs:s.size<=16777216):
 Calls prog 234 #[.string s] w λe w'=>e= .returned (.tuple #[.string (quoteS s).1,nI ((quoteS s).2:Nat)])/\Ext w w':=by
 have O:=YN s w hE hs;obtain ⟨V,hV⟩:∃V,Lib.validD s.data.toList=V:=⟨_,rfl⟩;rw[hV] at O;have S:quoteS s=if V then (str (quoteL s.data.toList),0) else (str [],5):=by unfold quoteS;rw[hV]
 rw[S];clear S hV;have Y:=gd O;clear O;cases V
 ·go_enter func234,ntmps234
  go_wp2_with (go_at_call 232;refine (Y.out).mono ?_;rintro e w' ⟨rfl,hx⟩)
  go_ret2
  exact ⟨rfl,hx⟩
 ·obtain ⟨Q,hQ⟩:∃Q,quoteL s.data.toList=Q:=⟨_,rfl⟩;rw[hQ];have HQ:=gd hQ;clear hQ;simp only[Zsy];go_enter func234,ntmps234
  go_wp2_with (go_at_call 232;refine (Y.out).mono ?_;rintro e w1 ⟨rfl,hx⟩)
  refine (Yt w1.heap.size _ [] _ _ (Lib.fresh_isBuilder _ _ _) (by simp) (by simp)).mono ?_;rintro e w2 ⟨rfl,hp,hn⟩;have hv:Ext w w2:=(hx.alloc _).then (ZrV hn hx.size);have hr:w1.heap.size<=w2.heap.size:=by have:=hn.size;simp at this;omega
  have hi:=hx.size;go_wp2;go_loopw [5,6,7,14] (λfr _ _ i wr=>∃k f:Nat,k<=s.size/\f<=k/\i=nI k/\fr=nI f/\Lib.IsBuilder 147 5 w1.heap.size w1.heap.size (Lib.byteCells (qPre s.data.toList f)) wr/\
   Hid (qPre s.data.toList k=qPre s.data.toList f++(s.data.toList.drop f).take (k - f))/\Ext w wr/\w1.heap.size<=wr.heap.size) (λ_ _ _ i _=>s.size - (intOf i).toNat)
  case atStart=>exact ⟨0,0,ZqO _,ZqO _,rfl,rfl,hp,by show _=_;simp,hv,hr⟩
  case round=>
   obtain ⟨k,f,hk,hf,rfl,rfl,hB,S,U,Z⟩:=hrel;have hy:=Zhj s.data.toList f;have ht:=hE.ext U;by_cases hm:k<s.size
   ·have F:=Zip s[k] wr ht;have A:=ZeB s k hm;have I:=ZhC s f k hf hm;obtain ⟨E,hh⟩:∃E,escB s[k]=E:=⟨_,rfl⟩;have hb:=Zgh s[k];unfold qB at A;rw[hh] at F A hb;have X:=gd F;by_cases hg:E= []
    ·subst hg;rw[ZqN rfl] at A;have hd:Hid (qPre s.data.toList (k+1)=qPre s.data.toList f++(s.data.toList.drop f).take (k+1 - f)):=(by show _=_;rw[A,S.out,I,ZqY]);have C:(str ([]:List UInt8)).toList.isEmpty=true:=Jh [];have hc:=gd C;clear F A I hh S C hb
     go_wp2_with (go_at_call 240;refine (X.out).mono ?_;rintro e w' ⟨rfl,D⟩;have C:=hc.out)
     go_roundw
     case rel=>exact ⟨k+1,f,om,om,by go_num,rfl,ZF hB D,hd,U.trans D,ZqM Z D.size⟩
     case measure=>simp[intOf];omega
    ·rw[ZqH hg] at A;have hd:Hid (Lib.byteCells (qPre s.data.toList (k+1))=Lib.byteCells (qPre s.data.toList f)++Lib.byteCells (s.extract f k++str E).data.toList):=(by show _=_;rw[A,S.out,Xb,Jt s f k hf,Zg,ZqY,Zf]);have C:(str E).toList.isEmpty=false:=(by rw[Jh];cases E<;>simp_all);have hc:=gd C;have J:(s.extract f k++str E).size<=16777216+6:=(by have:(s.extract f k++str E).size=(s.extract f k++str E).data.toList.length:=rfl;rw[this,Xb,Jt s f k hf,Zg,ZqG,Zra,ZqP,Zb];omega);have he:=gd J;clear F A I hh S C hg J
     go_wp2_with (go_at_call 240;refine (X.out).mono ?_;rintro e w' ⟨rfl,D⟩;have C:=hc.out)
     have ho:=ZF hB D;have hz:=D.size;refine (ZZ _ _ _ _ _ ho (by rw[Zw];have:=he.out;omega) om).mono ?_;rintro e w4 ⟨rfl,H,R⟩;rw[<-hd.out] at H;go_wp2;have hj:Ext w w4:=(U.trans D).then (ZrV R hi);have hw:=R.size;go_roundw
     case rel=>exact ⟨k+1,k+1,om,om,by go_num,by go_num,H,by show _=_;simp,hj,om⟩
     case measure=>simp[intOf];omega
   ·have hl:k=s.size:=om;have J:(s.extract f s.size++str [34]).size<=16777216+6:=(by have:(s.extract f s.size++str [34]).size=(s.extract f s.size++str [34]).data.toList.length:=rfl;rw[this,Xb,Qi,Zg,ZqG,ZqP,Zb];simp;omega);have ha:Lib.byteCells (qPre s.data.toList f)++Lib.byteCells (s.extract f s.size++str [34]).data.toList=Lib.byteCells Q:=by
     rw[<-Zf,Xb,Qi,Zg]
     congr 1
     have h:=S.out;rw[hl,Zq4 (by rw[ZqP,Zb];omega)] at h;rw[<-ZqY,<-h,<-HQ.out,<-Zhi];rfl
    have HF:=gd ha;have he:=gd J;clear ha S hl J
    go_wp2_with (go_at_call 92;refine (ZZ _ _ _ (s.extract f s.size++str [34]) _ hB (by rw[Zw];have:=he.out;omega) Z).mono ?_;rintro e w4 ⟨rfl,H,R⟩)
    rw[HF.out] at H;have hw:=R.size;have hj:Ext w w4:=U.then (ZrV R hi)
    go_wp2_with (go_at_call 96;refine (Ys _ _ _ _ H om).mono ?_;rintro e w5 ⟨rfl,hu⟩)
    go_ret2
    exact ⟨rfl,hj.then (ZrV hu hi)⟩
theorem XH {T:TypeId} (hT:BT T) (B b:Nat) (bs:List Value) (s:ByteArray) (w:Wq) (h:Lib.IsBuilder T 5 B b bs w) (hd:bs.length+s.size<=140737488355328) (hf:B<=w.heap.size):
 Calls prog 92 #[.pointer (some ⟨b,0,none⟩),.string s] w λe w'=>e= .returned (.tuple #[nI s.size,.nilIface])/\(Lib.BuilderAt T 5 B b (.pointer (some ⟨b,0,none⟩)) (bs++Lib.strCells s) w'/\Below B w w'/\KeepsT T w w'):=by
 obtain ⟨i0,hi,ha,hb,hc⟩:=ZrE Ju;go_enter func92,ntmps92
 go_wp2_with (go_at_call 135;refine (Jo hT B b bs _ h).mono ?_)
 rintro e w1 ⟨rfl,h1,J,U⟩;obtain ⟨hB,v,D,F,Z⟩:=h1;have c0:w1.cell? ⟨b,0,none⟩=some (.pointer (some ⟨b,0,none⟩)):=by rw[Zrc D];rfl
 have c1:w1.cell? ⟨b,1,none⟩=some v:=by rw[Zrc D];rfl
 go_wp2_with (at_builtin;refine Lib.wpList_append_own_string _ rfl _ _ 145 9 rfl B 5 i0 underlying145 underlying9 hi ha hb hc _ _ _ rfl F s rfl ?c3 ?c4 ?c5 ?_)
 case c3=>unfold maxLen;omega
 case c4=>omega
 case c5=>have:=J.size;omega
 intro v' w2 H A _;have Y:b<w1.heap.size:=by
  rcases ZrJ b w1.heap.size with R|R
  ·exact R
  ·simp[ZrT R] at D
 have I:w2.heap[b]? =some (.cells #[.pointer (some ⟨b,0,none⟩),v] T (0,0)):=by rw[A.block b Y (λe=>Z e.symm)];exact D
 have d0:w2.cell? ⟨b,0,none⟩=some (.pointer (some ⟨b,0,none⟩)):=by rw[Zrc I];rfl
 have d1:w2.cell? ⟨b,1,none⟩=some v:=by rw[Zrc I];rfl
 have f1:w2.frozen? ⟨b,1,none⟩=false:=Zrk I 1;obtain ⟨ao,n',cap,rfl⟩:∃ao n' cap,v'= .slice ao n' cap:=by
  rcases H.2 with ⟨hv,_⟩|⟨g,cap,he,hv,_⟩
  ·exact ⟨_,_,_,hv⟩
  ·exact ⟨_,_,_,hv⟩
 go_wp2
 go_ret2
 refine ⟨rfl,?_,?_,?_⟩
 ·exact Lib.BuilderAt.put (T:=T) (e:=5) hB I (bs':=bs++Lib.strCells s) (by simpa [Lib.strCells_length] using H) hT.ne
 ·exact (J.grown A (by have:=J.size;omega) (λk S=>(F.lt k S).1)).setCell (p:=⟨b,1,none⟩) hB _
 ·intro k cs t fr S O Q;have C:=U k cs t fr S O Q;have V:k≠b:=by rintro rfl;rw[D] at C;simp only[Zsm,Obj.cells.injEq] at C;exact O C.2.1.symm
  have X:k<w1.heap.size:=(Zrg.1 C).1;rw[Below.heap_setCell _ _ _ _ (λe=>V (by simpa using e))];rw[A.block k X (λe=>Lib.ownBlock_ne F C Q e.symm)];exact C
structure BKeep (B:Nat) (w w':Wq):Prop where
 below:Below B w w'
 keeps:KeepsT 147 w w'
theorem BKeep.refl (B:Nat) (w:Wq):BKeep B w w:=⟨ZsT B w,λ_ _ _ _ h _ _=>h⟩
theorem BKeep.trans {B:Nat} {a b c:Wq} (h:BKeep B a b) (A:BKeep B b c):BKeep B a c:=⟨h.below.trans A.below,λk cs t fr F C D=>A.keeps k cs t fr (h.keeps k cs t fr F C D) C D⟩
theorem BKeep.of_ext {B:Nat} {a b:Wq} (h:Ext a b) (A:B<=a.heap.size):BKeep B a b:=⟨ZrV h.below A,λk cs t fr C _ _=>h.heap C⟩
theorem BKeep.then_ext {B:Nat} {a b c:Wq} (h:BKeep B a b) (A:Ext b c) (C:B<=a.heap.size):BKeep B a c:=h.trans (BKeep.of_ext A (ZqM C h.below.size))
theorem BKeep.ext {B:Nat} {z a b:Wq} (h:Ext z a) (A:BKeep B a b) (C:z.heap.size<=B):Ext z b:=h.then (ZrV A.below C)
theorem BKeep.size {B:Nat} {a b:Wq} (h:BKeep B a b) (A:B<=a.heap.size):B<=b.heap.size:=ZqM A h.below.size
theorem bwS (B b:Nat) (l:List UInt8) (s:ByteArray) (w:Wq) (h:Lib.IsBuilder 147 5 B b (Lib.byteCells l) w) (A:l.length+s.size<=140737488355328) (C:B<=w.heap.size):
 Calls prog 92 #[.pointer (some ⟨b,0,none⟩),.string s] w λe w'=>e= .returned (.tuple #[nI s.size,.nilIface])/\Lib.IsBuilder 147 5 B b (Lib.byteCells (l++s.data.toList)) w'/\BKeep B w w':=
 (XH U3 B b _ s w h (by rw[Lib.byteCells_length];exact A) C).mono λ_ _ ⟨D,F,H,I⟩=>⟨D,(by rw[Zf];exact Or.inr F),H,I⟩
theorem bwB (B b:Nat) (l:List UInt8) (c:UInt8) (w:Wq) (h:Lib.IsBuilder 147 5 B b (Lib.byteCells l) w) (A:l.length+1<=140737488355328) (C:B<=w.heap.size):
 Calls prog 95 #[.pointer (some ⟨b,0,none⟩),.int .u8 (c.toNat:Nat)] w λe w'=>e= .returned .nilIface/\Lib.IsBuilder 147 5 B b (Lib.byteCells (l++ [c])) w'/\BKeep B w w':=
 (YD U3 B b _ _ w h (by rw[Lib.byteCells_length];exact A) C).mono λ_ _ ⟨D,F,H,I⟩=>⟨D,(by rw[Zf];exact Or.inr F),H,I⟩
def nmStart (r:Nat):Bool:=
 decide ((65<=r/\r<=90)\/(97<=r/\r<=122)\/r=95)||decide ((192<=r/\r<=767/\r≠215/\r≠247)\/(880<=r/\r<=8191/\r≠894))||
 decide (r=8204\/r=8205\/(8304<=r/\r<=8591)\/(11264<=r/\r<=12271)\/(12289<=r/\r<=55295))||decide ((63744<=r/\r<=64975)\/(65008<=r/\r<=65533)\/(65536<=r/\r<=983039))
def nmChar (r:Nat):Bool:=nmStart r||decide ((48<=r/\r<=57)\/r=45\/r=46\/r=183\/(768<=r/\r<=879)\/r=8255\/r=8256)
def nmOk (colon first:Bool) (r:Nat):Bool:=(colon && r==58)||(if first then nmStart r else nmChar r)
def nmGo (colon:Bool):Nat->Bool->List UInt8->Nat
 |0,_,_=>0
 |f+1,first,l=>if l= []\/(dec l).2=0\/nmOk colon first (dec l).1=false then 0 else (dec l).2+nmGo colon f false (l.drop (dec l).2)
def nmLen (colon:Bool) (l:List UInt8):Nat:=nmGo colon l.length true l
def isQ (l:List UInt8):Bool:=decide (0<l.length/\nmLen true l=l.length)
def isNm (l:List UInt8):Bool:=decide (0<l.length/\nmLen false l=l.length)
def hasAt (s:List UInt8) (at_:Nat) (t:List UInt8):Bool:=t.isPrefixOf (s.drop at_)
def spAt (s:List UInt8) (at_:Nat):Nat:=at_+((s.drop at_).takeWhile λc=>isSp c.toNat).length
def nmAt (s:List UInt8) (at_:Nat):Nat:=at_+nmLen true (s.drop at_)
def findIn (t:List UInt8):List UInt8->Nat->Option Nat
 | [],k=>if t= [] then some k else none
 |c::r,k=>if t.isPrefixOf (c::r) then some k else findIn t r (k+1)
def findAt (s:List UInt8) (at_:Nat) (t:List UInt8):Option Nat:=findIn t (s.drop at_) at_
def lns:List UInt8->List UInt8
 | []=> []
 | [c]=> [if c=13 then 10 else c]
 |c::d::r=>if c=13/\d=10 then lns (d::r) else (if c=13 then 10 else c)::lns (d::r)
def hexV (c:UInt8):Nat:=if 48<=c.toNat/\c.toNat<=57 then c.toNat - 48 else if 97<=c.toNat/\c.toNat<=102 then c.toNat - 97+10 else if 65<=c.toNat/\c.toNat<=70 then c.toNat - 65+10 else 16
def numGo (base:Nat):List UInt8->Nat->Option Nat
 | [],n=>some n
 |c::t,n=>if base<=hexV c then none else numGo base t (min (n*base+hexV c) 2000000)
def numL (base:Nat) (l:List UInt8):Option Nat:=if l= [] then none else numGo base l 0
def namedL (l:List UInt8):Option Nat:=
 if l= [108,116] then some 60 else if l= [103,116] then some 62 else if l= [97,109,112] then some 38 else if l= [97,112,111,115] then some 39 else if l= [113,117,111,116] then some 34 else none
def refRune (x:List UInt8):Option Nat:=
 match x with
 |35::c::t=>if c=120 then numL 16 t else numL 10 (c::t)
 |_=>namedL x
def refAt (s:List UInt8) (at_:Nat):Option (Nat×Nat):=
 let r:=s.drop at_
 if r.head? =some 38 then
  let x:=r.tail.takeWhile λc=>c !=59
  if x.length+1<r.length then match refRune x with
   |some n=>if isChar n then some (n,at_+x.length+2) else none
   |none=>none
  else none
 else none
abbrev PErr:=Nat×Nat
def spaced (l:List UInt8):List UInt8:=l.map λc=>if isSp c.toNat then 32 else c
def contGo (value:Bool) (s:List UInt8) (tz:Nat):Nat->Nat->List UInt8->Except PErr (List UInt8)
 |0,_,out=> .ok out
 |f+1,i,out=>
  if tz<=i then .ok out
  else if (s.drop i).head? =some 38 then match refAt (s.take tz) i with
   |some (r,e)=>contGo value s tz f e (out++encN r)
   |none=> .error (i,12)
  else
   let k:=(((s.take tz).drop i).takeWhile λc=>c !=38)
   contGo value s tz f (i+k.length) (out++(if value then spaced (lns k) else lns k))
def contP (value:Bool) (s:List UInt8) (from_ tz:Nat):Except PErr (List UInt8):=contGo value s tz (tz - from_+1) from_ []
def missP (s:List UInt8) (from_ at_:Nat):PErr:=if s.length<=at_ then (from_,8) else (at_,7)
structure AtP where
 space:List UInt8
 name:List UInt8
 value:List UInt8
 at_:Nat
 deriving DecidableEq
def attrP (s:List UInt8) (from_ at_:Nat):Except PErr (AtP×Nat):=
 let e:=nmAt s at_
 if e=at_ then .error (missP s from_ at_) else
 let name:=(s.drop at_).take (e - at_)
 let a:=spAt s e
 if hasAt s a [61]=false then .error (missP s from_ a) else
 let q:=spAt s (a+1)
 if hasAt s q [34]=false/\hasAt s q [39]=false then .error (missP s from_ q) else
 let c:=(s.drop q).headD 0
 let e2:=q+1+((s.drop (q+1)).takeWhile λd=>d !=c && d !=60).length
 match contP true s (q+1) e2 with
 | .error x=> .error x
 | .ok v=>
  if e2=s.length then .error (from_,8) else
  if (s.drop e2).head? =some 60 then .error (e2,7) else
  .ok (⟨[],name,v,at_⟩,e2+1)
structure Tok where
 kind:Nat
 name:List UInt8
 attrs:List AtP
 empty:Bool
 text:List UInt8
 at_:Nat
 deriving DecidableEq
def startGo (s:List UInt8) (from_:Nat) (name:List UInt8):Nat->Nat->List AtP->Except PErr (Tok×Nat)
 |0,_,_=> .error (from_,8)
 |f+1,at_,al=>
  let next:=spAt s at_
  if hasAt s next [62] then .ok (⟨1,name,al,false,[],from_⟩,next+1)
  else if hasAt s next [47,62] then .ok (⟨1,name,al,true,[],from_⟩,next+2)
  else if hasAt s next [47] then .error (missP s from_ (next+1))
  else if next=at_ then .error (missP s from_ at_)
  else match attrP s from_ next with
   | .error x=> .error x
   | .ok (a,e)=>if al.any λb=>b.name==a.name then .error (a.at_,10) else startGo s from_ name f e (al++ [a])
def startP (s:List UInt8) (from_:Nat):Except PErr (Tok×Nat):=
 let at_:=nmAt s (from_+1)
 if at_=from_+1 then .error (missP s from_ at_) else startGo s from_ ((s.drop (from_+1)).take (at_ - (from_+1))) (s.length+1) at_ []
def endP (s:List UInt8) (from_:Nat):Except PErr (Tok×Nat):=
 let at_:=nmAt s (from_+2)
 if from_+2<at_ then
  if hasAt s (spAt s at_) [62] then .ok (⟨2,(s.drop (from_+2)).take (at_ - (from_+2)),[],false,[],from_⟩,spAt s at_+1)
  else .error (missP s from_ (spAt s at_))
 else .error (missP s from_ at_)
def skipP (s:List UInt8) (from_:Nat) (n:Nat) (last:List UInt8):Except PErr Nat:=
 match findAt s (from_+n) last with
 |none=> .error (from_,8)
 |some i=> .ok (i+last.length)
def dataT (t:List UInt8) (at_:Nat):Tok:=⟨3,[],[],false,t,at_⟩
def constructP (s:List UInt8) (from_:Nat):Except PErr (Tok×Nat):=
 if hasAt s from_ [60,63] then (match skipP s from_ 2 [63,62] with| .error x=> .error x| .ok tz=> .ok (dataT [] 0,tz))
 else if hasAt s from_ [60,33,45,45] then (match skipP s from_ 4 [45,45,62] with| .error x=> .error x| .ok tz=> .ok (dataT [] 0,tz))
 else if hasAt s from_ [60,33,91,67,68,65,84,65,91] then (match skipP s from_ 9 [93,93,62] with| .error x=> .error x| .ok tz=> .ok (dataT (lns ((s.drop (from_+9)).take (tz - 3 - (from_+9)))) from_,tz))
 else if hasAt s from_ [60,33,68,79,67,84,89,80,69] then .error (from_,11)
 else if hasAt s from_ [60,33] then .error (from_,7)
 else if hasAt s from_ [60,47] then endP s from_
 else if hasAt s from_ [60] then startP s from_
 else
  let tz:=(findAt s from_ [60]).getD s.length
  match contP false s from_ tz with
  | .error x=> .error x
  | .ok v=> .ok (dataT v from_,tz)
def toksGo (s:List UInt8):Nat->Nat->List Tok->Except PErr (List Tok)
 |0,_,l=> .ok l
 |f+1,at_,l=>
  if s.length<=at_ then .ok l else
  match constructP s at_ with
  | .error x=> .error x
  | .ok (t,tz)=>toksGo s f tz (if t.kind≠3\/t.text≠ [] then l++ [t] else l)
def toksP (s:List UInt8):Except PErr (List Tok):=
 if (check s).2≠0 then .error (check s) else toksGo s (s.length+1) (if hasAt s 0 [239,187,191] then 3 else 0) []
inductive Nd where
 |mk (kind:Nat) (space name:List UInt8) (attrs:List AtP) (kids:List Nd) (text:List UInt8) (at_:Nat)
def Nd.kind:Nd->Nat| .mk k _ _ _ _ _ _=>k
def Nd.space:Nd->List UInt8| .mk _ s _ _ _ _ _=>s
def Nd.name:Nd->List UInt8| .mk _ _ n _ _ _ _=>n
def Nd.attrs:Nd->List AtP| .mk _ _ _ a _ _ _=>a
def Nd.kids:Nd->List Nd| .mk _ _ _ _ k _ _=>k
def Nd.text:Nd->List UInt8| .mk _ _ _ _ _ t _=>t
def Nd.at_:Nd->Nat| .mk _ _ _ _ _ _ a=>a
def charD (t:List UInt8) (at_:Nat):Nd:= .mk 1 [] [] [] [] t at_
def addText (ks:List Nd) (t:List UInt8) (at_:Nat):List Nd:=
 match ks.getLast? with
 |some (.mk 1 s n al kk u b)=>ks.dropLast++ [.mk 1 s n al kk (u++t) b]
 |_=>ks++ [charD t at_]
mutual
def elemP (fin:Nat):Nat->Nat->List Tok->Except PErr (Nd×List Tok)
 |0,_,_=> .error (fin,8)
 |_+1,_,[]=> .error (fin,8)
 |f+1,depth,t::r=>if 100<depth then .error (t.at_,9) else if t.empty then .ok (.mk 0 [] t.name t.attrs [] [] t.at_,r) else kidsP fin f depth t [] r
def kidsP (fin:Nat):Nat->Nat->Tok->List Nd->List Tok->Except PErr (Nd×List Tok)
 |0,_,_,_,_=> .error (fin,8)
 |_+1,_,_,_,[]=> .error (fin,8)
 |f+1,depth,t,ks,u::r=>
  if u.kind=2 then (if u.name≠t.name then .error (u.at_,14) else .ok (.mk 0 [] t.name t.attrs ks [] t.at_,r))
  else if u.kind=1 then match elemP fin f (depth+1) (u::r) with
   | .error x=> .error x
   | .ok (k,r')=>kidsP fin f depth t (ks++ [k]) r'
  else kidsP fin f depth t (addText ks u.text u.at_) r
end
def blankL (l:List UInt8):Bool:=l.all λc=>isSp c.toNat
def docGo (fin:Nat):Nat->Option Nd->List Tok->Except PErr Nd
 |0,_,_=> .error (fin,8)
 |_+1,none,[]=> .error (fin,8)
 |_+1,some n,[]=> .ok n
 |f+1,found,t::r=>
  if t.kind=1/\found.isSome then .error (t.at_,17)
  else if t.kind=2 then .error (t.at_,14)
  else if t.kind=3 then (if blankL t.text=false then .error (t.at_,7) else docGo fin f found r)
  else match elemP fin (2*(r.length+1)+2) 1 (t::r) with
   | .error x=> .error x
   | .ok (n,r')=>docGo fin f (some n) r'
def docP (s:List UInt8):Except PErr Nd:=
 match toksP s with
 | .error x=> .error x
 | .ok l=>docGo s.length (l.length+1) none l
def splitL (l:List UInt8):Option (List UInt8×List UInt8):=
 let p:=l.takeWhile λc=>c !=58
 if p.length<l.length then (if isNm p && isNm (l.drop (p.length+1)) then some (p,l.drop (p.length+1)) else none)
 else if isNm l then some ([],l) else none
def xmlnsL:List UInt8:= [120,109,108,110,115]
def xmlL:List UInt8:= [120,109,108]
def declL (name:List UInt8):Option (List UInt8):=
 match splitL name with
 |some (p,l)=>if p= []/\l=xmlnsL then some [] else if p=xmlnsL then some l else none
 |none=>none
def xmlSpaceL:List UInt8:= [104,116,116,112,58,47,47,119,119,119,46,119,51,46,111,114,103,47,88,77,76,47,49,57,57,56,47,110,97,109,101,115,112,97,99,101]
abbrev Scope:=List (List UInt8×List UInt8)
def lookL (sc:Scope) (p:List UInt8):Option (List UInt8):=
 if p=xmlL then some xmlSpaceL else match sc.reverse.find? λb=>decide (b.1=p) with
  |some b=>some b.2
  |none=>if p= [] then some [] else none
def declsGo:List AtP->Scope->Except PErr Scope
 | [],sc=> .ok sc
 |a::t,sc=>if (splitL a.name).isNone then .error (a.at_,13) else match declL a.name with
  |some d=>if d=xmlL\/d=xmlnsL\/(d≠ []/\a.value= []) then .error (a.at_,13) else declsGo t (sc++ [(d,a.value)])
  |none=>declsGo t sc
def attrsGo (sc:Scope):List AtP->List AtP->Except PErr (List AtP)
 | [],out=> .ok out
 |a::t,out=>if (declL a.name).isSome then attrsGo sc t out else
  let pl:=(splitL a.name).getD ([],[])
  match (if pl.1= [] then some [] else lookL sc pl.1) with
  |none=> .error (a.at_,13)
  |some sp=>if out.any λb=>b.space==sp && b.name==pl.2 then .error (a.at_,10) else attrsGo sc t (out++ [⟨sp,pl.2,a.value,a.at_⟩])
def headP (n:Nd) (sc:Scope):Except PErr (List UInt8×List UInt8×List AtP×Scope):=
 match splitL n.name with
 |none=> .error (n.at_,13)
 |some (p,l)=>if p=xmlnsL then .error (n.at_,13) else match declsGo n.attrs sc with
  | .error x=> .error x
  | .ok inner=>match lookL inner p with
   |none=> .error (n.at_,13)
   |some sp=>match attrsGo inner n.attrs [] with
    | .error x=> .error x
    | .ok al=> .ok (sp,l,al,inner)
mutual
def resP:Nd->Scope->Except PErr Nd
 | .mk k s n al ks t a,sc=>match headP (.mk k s n al ks t a) sc with
  | .error x=> .error x
  | .ok (sp,l,al',inner)=>match resKids ks inner with
   | .error x=> .error x
   | .ok ks'=> .ok (.mk 0 sp l al' ks' [] a)
def resKids:List Nd->Scope->Except PErr (List Nd)
 | [],_=> .ok []
 |k::t,sc=>match (if k.kind=0 then resP k sc else .ok k) with
  | .error x=> .error x
  | .ok k'=>match resKids t sc with
   | .error x=> .error x
   | .ok t'=> .ok (k'::t')
end
def treeP (s:List UInt8):Option Nd:=
 if 5000<s.length then none else match docP s with
  | .error _=>none
  | .ok n=>match resP n [] with
   | .error _=>none
   | .ok m=>some m
theorem Zl3 {s:List UInt8} {k:Nat} (h:k<s.length) (A:isSp (s[k].toNat)=true):spAt s k=spAt s (k+1):=by
 unfold spAt;rw[ZqR h,Zr4,ZqN A,ZqK];omega
theorem Zl4 {s:List UInt8} {k:Nat} (h:k<s.length) (A:isSp (s[k].toNat)=false):spAt s k=k:=by
 unfold spAt;rw[ZqR h,Zr4,ZqH (by rw[A];simp)];rfl
theorem Zn1 {s:List UInt8} {k:Nat} (h:s.length<=k):spAt s k=k:=by
 unfold spAt;rw[Zq3 h];rfl
theorem XE {s:List UInt8} {k:Nat} (h:k<=s.length):spAt s k<=s.length:=by
 unfold spAt;have A:=(Zr1 (l:=s.drop k) (λc:UInt8=>isSp c.toNat)).length_le;rw[ZqP] at A;omega
theorem Jc (s:List UInt8) (k:Nat):k<=spAt s k:=Nat.le_add_right _ _
theorem ZfS (n:Nat) (l:List UInt8) (m:Nat) (h:n<m):∀i,i<=n->acc (n+1) (l.take m) i=acc (n+1) l i
 |0,_=>by unfold acc;rw[Zry,Zry,List.getElem?_take_of_lt om]
 |i+1,hi=>by
  unfold acc
  rw[ZfS n l m h i om,Zry,Zry,List.getElem?_take_of_lt om]
theorem ZcS:∀(k n:Nat) (l:List UInt8),(refFrom k n l).2<=l.length
 |0,n,l=>ZqO _
 |k+1,n,l=>by
  unfold refFrom
  split
  ·split
   ·rename_i h _;exact h.2
   ·exact ZcS k (n+1) l
  ·exact ZqO _
theorem I6 (l:List UInt8):∀(k n:Nat),1<=n->(refFrom k n l).2≠0->n<=(refFrom k n l).2/\∀K,(refFrom k n l).2<=K->refFrom k n (l.take K)=refFrom k n l
 |0,n,_,h=>by simp[refFrom] at h
 |k+1,n,hn,h=>by
  unfold refFrom at h|-
  by_cases D:n<=4/\n<=l.length
  ·rw[ZqN D] at h|-
   have C:∀K,n<=K->acc n (l.take K) (n - 1)=acc n l (n - 1):=λK hK=>by
    obtain ⟨m,rfl⟩:∃m,n=m+1:=⟨n - 1,om⟩
    exact ZfS m l K om _ om
   by_cases F:encN (acc n l (n - 1))=l.take n
   ·rw[ZqN F] at h|-
    refine ⟨ZqE _,λK hK=> ?_⟩
    have A:n<=K:=hK
    rw[ZqN ⟨D.1,by rw[Zra];omega⟩,C K A,List.take_take,Nat.min_eq_left A,ZqN F]
   ·rw[ZqH F] at h|-
    obtain ⟨I,H⟩:=I6 l k (n+1) om h
    refine ⟨om,λK hK=> ?_⟩
    have A:n<=K:=om
    have J:=ZcS k (n+1) l
    rw[ZqN ⟨D.1,by rw[Zra];omega⟩,C K A,List.take_take,Nat.min_eq_left A,ZqH F]
    exact H K hK
  ·rw[ZqH D] at h
   exact absurd rfl h
theorem Zd1 {l:List UInt8} {m:Nat} (h:(dec l).2≠0) (C:(dec l).2<=m):dec (l.take m)=dec l:=by
 have D:l≠ []:=λe=>by rw[e] at h;exact h rfl
 have e1:=Ga l D;have F:=Xi l;have A:l.take m≠ []:=λe=>by have:=ZqS List.length e;rw[Zra,Zq5] at this;omega
 have e2:=Ga (l.take m) A;rw[<-e1] at h C;rw[<-e2,<-e1];exact (I6 l 4 1 (ZqE _) h).2 m C
inductive NmPre (c:Bool):Bool->List UInt8->Nat->Prop where
 |zero (first:Bool) (l:List UInt8):NmPre c first l 0
 |step {first:Bool} {l:List UInt8} {k:Nat} (h0:(dec l).2≠0) (hok:nmOk c first (dec l).1=true) (t:NmPre c false (l.drop (dec l).2) k):NmPre c first l ((dec l).2+k)
theorem Jk (c:Bool) (f:Nat) (first:Bool):nmGo c f first []=0:=by cases f<;>simp[nmGo]
theorem XQ {c first:Bool} {f:Nat} {l:List UInt8} (h:(dec l).2≠0) (A:nmOk c first (dec l).1=true):nmGo c (f+1) first l=(dec l).2+nmGo c f false (l.drop (dec l).2):=by
 have C:l≠ []:=λe=>by rw[e] at h;exact h rfl
 rw[nmGo,ZqH (by simp[C,h,A])]
theorem YH {c first:Bool} {f:Nat} {l:List UInt8} (h:l= []\/(dec l).2=0\/nmOk c first (dec l).1=false):nmGo c f first l=0:=by
 cases f with
 |zero=>rfl
 |succ f=>rw[nmGo,ZqN h]
theorem Zal (c:Bool):∀(n m:Nat) (first:Bool) (l:List UInt8),l.length<=n->l.length<=m->nmGo c n first l=nmGo c m first l
 |0,m,first,l,h,_=>by
  have D:l= []:=ZqX om
  subst D
  rw[Jk,Jk]
 |n+1,0,first,l,_,h=>by
  have D:l= []:=ZqX om
  subst D
  rw[Jk,Jk]
 |n+1,m+1,first,l,h1,h2=>by
  by_cases C:l= []\/(dec l).2=0\/nmOk c first (dec l).1=false
  ·rw[YH C,YH C]
  ·have A:(dec l).2≠0/\nmOk c first (dec l).1=true:=⟨λe=>C (Or.inr (Or.inl e)),by
    cases h:nmOk c first (dec l).1 with
    |true=>rfl
    |false=>exact absurd (Or.inr (Or.inr h)) C⟩
   rw[XQ A.1 A.2,XQ A.1 A.2,Zal c n m false _ (by rw[ZqP];omega) (by rw[ZqP];omega)]
theorem NmPre.go {c:Bool}:∀{first:Bool} {l:List UInt8} {k:Nat},NmPre c first l k->k<=l.length/\nmGo c l.length first l=k+nmGo c l.length (first && decide (k=0)) (l.drop k)
 |first,l,_,.zero _ _=>⟨ZqO _,by simp⟩
 |first,l,_,.step (k:=k) h0 hok t=>by
  obtain ⟨A,C⟩:=t.go
  have F:=Xi l
  rw[ZqP] at A
  have h:l.length=(l.length - 1)+1:=om
  refine ⟨om,?_⟩
  have e1:nmGo c l.length first l=(dec l).2+nmGo c (l.length - 1) false (l.drop (dec l).2):=by
   rw[h]
   exact XQ h0 hok
  rw[e1,Zal c (l.length - 1) (l.drop (dec l).2).length false _ (by rw[ZqP];omega) (ZqE _),C,List.drop_drop]
  have D:(first && decide ((dec l).2+k=0))=(false && decide (k=0)):=by
   rw[Zre (show ¬(dec l).2+k=0 by omega)]
   simp
  rw[D,Zal c (l.drop (dec l).2).length l.length _ (l.drop ((dec l).2+k)) (by rw[ZqP,ZqP];omega) (by rw[ZqP];omega)]
  omega
theorem NmPre.cut {c:Bool}:∀{first:Bool} {l:List UInt8} {k:Nat},NmPre c first l k->∀m,k<=m->NmPre c first (l.take m) k
 |first,l,_,.zero _ _,m,_=> .zero _ _
 |first,l,_,.step (k:=k) h0 hok t,m,hm=>by
  have h:dec (l.take m)=dec l:=Zd1 h0 om
  have:=NmPre.step (c:=c) (first:=first) (l:=l.take m) (k:=k) (by rw[h];exact h0) (by rw[h];exact hok) (by rw[h,List.drop_take];exact t.cut (m - (dec l).2) om)
  rw[h] at this
  exact this
theorem ZoL {l:List UInt8} {k:Nat} (h:NmPre true true l k) (F:0<k):isQ (l.take k)=true:=by
 have C:=(h.cut k (ZqE _)).go;have H:=h.go.1;unfold isQ nmLen;have A:(l.take k).length=k:=by rw[Zra];omega
 rw[A] at C;have D:nmGo true k true (l.take k)=k:=by rw[C.2,Zq3 (by rw[A];exact ZqE _),Jk];rfl
 rw[A,D];simpa using F
theorem ZoM {l:List UInt8} {k:Nat} (h:NmPre true true l k) (F:(dec (l.drop k)).2≠0) (D:nmOk true (decide (k=0)) (dec (l.drop k)).1=false):isQ (l.take (k+(dec (l.drop k)).2))=false:=by
 obtain ⟨n,J⟩:∃n,(dec (l.drop k)).2=n:=⟨_,rfl⟩;have C:=Xi (l.drop k);rw[ZqP] at C;have H:=(h.cut (k+n) (Nat.le_add_right _ _)).go;have I:(l.take (k+n)).length=k+n:=by rw[Zra];omega
 rw[I] at H;rw[J];have Q:(l.take (k+n)).drop k=(l.drop k).take n:=by rw[List.drop_take,Nat.add_sub_cancel_left]
 have A:dec ((l.drop k).take n)=dec (l.drop k):=Zd1 F om;have O:nmGo true (k+n) true (l.take (k+n))=k:=by rw[H.2,Q,YH (Or.inr (Or.inr (by rw[A];simpa using D)))];rfl
 unfold isQ nmLen;rw[I,O];have:n≠0:=by rw[<-J];exact F
 rw[Zre om]
theorem YW {t l:List UInt8}:t.isPrefixOf l=true↔l.take t.length=t:=by
 rw[List.isPrefixOf_iff_prefix];exact ⟨λh=>(ZsG.1 h).symm,λh=>ZsG.2 h.symm⟩
theorem Zcs {s t:List UInt8} {k:Nat} (h:s.length<k+t.length) (C:t≠ []):hasAt s k t=false:=by
 unfold hasAt;cases hp:t.isPrefixOf (s.drop k) with
 |false=>rfl
 |true=>have A:=ZqS List.length (YW.1 hp);have D:0<t.length:=Zr3.2 C;rw[Zra,ZqP] at A;omega
theorem Zgt (s t:List UInt8) (k:Nat):hasAt s k t=((s.drop k).take t.length==t):=by
 unfold hasAt;cases hp:t.isPrefixOf (s.drop k) with
 |true=>rw[YW.1 hp];simp
 |false=>
  have:(s.drop k).take t.length≠t:=λe=>by rw[YW.2 e] at hp;cases hp
  simp[this]
theorem Ziv {s t:List UInt8} {k:Nat} (h:k<s.length) (A:hasAt s k t=true):findAt s k t=some k:=by
 unfold findAt;unfold hasAt at A;rw[ZqR h] at A|-;rw[findIn,ZqN A]
theorem ZaM {s t:List UInt8} {k:Nat} (h:k<s.length) (A:hasAt s k t=false):findAt s k t=findAt s (k+1) t:=by
 unfold findAt;unfold hasAt at A;rw[ZqR h] at A|-;rw[findIn,ZqH (by rw[A];simp)]
theorem ZaN {t:List UInt8} (C:t≠ []):∀(l:List UInt8) (k:Nat),l.length<t.length->findIn t l k=none
 | [],k,_=>by rw[findIn,ZqH C]
 |c::r,k,h=>by
  have A:t.isPrefixOf (c::r)=false:=by
   cases A:t.isPrefixOf (c::r) with
   |false=>rfl
   |true=>
    have D:=ZqS List.length (YW.1 A)
    rw[Zra] at D
    omega
  rw[findIn,ZqH (by rw[A];simp)]
  exact ZaN C r (k+1) (by rw[ZqK] at h;omega)
theorem Ziu {s t:List UInt8} {k:Nat} (A:t≠ []) (h:s.length<k+t.length):findAt s k t=none:=
 ZaN A _ _ (by have:=Zr3.2 A;rw[ZqP];omega)
theorem Zd5 {t:List UInt8}:∀(l:List UInt8) (k i:Nat),findIn t l k=some i->k<=i/\i+t.length<=k+l.length
 | [],k,i,h=>by
  rw[findIn] at h
  split at h
  ·rename_i e
   injection h with h
   subst h e
   simp
  ·cases h
 |c::r,k,i,h=>by
  rw[findIn] at h
  split at h
  ·rename_i e
   injection h with h
   subst h
   have A:=ZqS List.length (YW.1 e)
   rw[Zra] at A
   exact ⟨ZqE _,om⟩
  ·have:=Zd5 r (k+1) i h
   rw[ZqK]
   exact ⟨om,om⟩
theorem Zab {s t:List UInt8} {k i:Nat} (A:k<=s.length) (h:findAt s k t=some i):k<=i/\i+t.length<=s.length:=by
 have:=Zd5 _ _ _ h;rw[ZqP] at this;exact ⟨this.1,om⟩
theorem ZnA {s:List UInt8} {k:Nat} (h:k+1<s.length) (A:s[k]=13) (C:s[k+1]=10):lns (s.drop k)=lns (s.drop (k+1)):=by
 rw[ZqR (show k<s.length by omega),ZqR h,lns,ZqN ⟨A,C⟩]
theorem Zak {s:List UInt8} {k:Nat} (h:k<s.length) (C:∀A:k+1<s.length,¬(s[k]=13/\s[k+1]=10)):lns (s.drop k)=(if s[k]=13 then 10 else s[k])::lns (s.drop (k+1)):=by
 rw[ZqR h];by_cases A:k+1<s.length
 ·rw[ZqR A,lns,ZqH (C A)]
 ·rw[Zq3 om];rfl
theorem ZoO {s:List UInt8} {k:Nat} (h:s.length<=k):lns (s.drop k)= []:=by
 rw[Zq3 h];rfl
theorem IR:∀l:List UInt8,(lns l).length<=l.length
 | []=>ZqE _
 | [c]=>ZqE _
 |c::d::r=>by
  have h:=IR (d::r)
  rw[lns]
  split
  ·rw[ZqK (a:=c)];omega
  ·rw[ZqK,ZqK (a:=c)];omega
theorem IY {s:List UInt8} {i r e:Nat} (h:refAt s i=some (r,e)):i+2<=e/\e<=s.length:=by
 unfold refAt at h;dsimp only at h;split at h
 ·split at h
  ·rename_i A;have C:(s.drop i).length=s.length - i:=ZqP;split at h
   ·split at h
    ·injection h with h;injection h with h2 h3;subst h3;omega
    ·cases h
   ·cases h
  ·cases h
 ·cases h
def plainAt (s:List UInt8) (tz i:Nat):List UInt8:=((s.take tz).drop i).takeWhile λc=>c !=38
theorem Uh {s:List UInt8} {A i:Nat} (H:i<A) (I:A<=s.length) (h:(s.drop i).head?≠some 38):0<(plainAt s A i).length:=by
 unfold plainAt;have C:i<(s.take A).length:=by rw[Zra];omega
 have D:i<s.length:=om
 rw[ZqR C,Zr4,List.getElem_take];rw[ZqR D,ZsR] at h;have F:s[i]≠38:=λe=>h (by rw[e]);rw[ZqN (by simpa using F)];simp
theorem J8 (value:Bool) (s:List UInt8) (A:Nat) (F:A<=s.length):∀(f g i:Nat) (out:List UInt8),A - i<f->A - i<g->contGo value s A f i out=contGo value s A g i out
 |0,_,_,_,h,_=>by omega
 |_+1,0,_,_,_,h=>by omega
 |f+1,g+1,i,out,h1,h2=>by
  unfold contGo
  by_cases D:A<=i
  ·rw[ZqN D,ZqN D]
  ·rw[ZqH D,ZqH D]
   by_cases C:(s.drop i).head? =some 38
   ·rw[ZqN C,ZqN C]
    cases hr:refAt (s.take A) i with
    |none=>rfl
    |some x=>
     obtain ⟨r,e⟩:=x
     have:=IY hr
     exact J8 value s A F f g e _ om om
   ·rw[ZqH C,ZqH C]
    have H:=Uh om F C
    exact J8 value s A F f g (i+(plainAt s A i).length) _ om om
def contAt (value:Bool) (s:List UInt8) (tz i:Nat) (out:List UInt8):Except PErr (List UInt8):=contGo value s tz (tz - i+1) i out
theorem Zb0 {value:Bool} {s:List UInt8} {A i:Nat} {out:List UInt8} (h:A<=i):contAt value s A i out= .ok out:=by
 unfold contAt contGo;rw[ZqN h]
theorem Zb1 {value:Bool} {s:List UInt8} {h i r e:Nat} {out:List UInt8} (D:h<=s.length) (F:i<h) (C:(s.drop i).head? =some 38) (A:refAt (s.take h) i=some (r,e)):contAt value s h i out=contAt value s h e (out++encN r):=by
 have:=IY A;unfold contAt;rw[contGo,ZqH om,ZqN C,A];exact J8 value s h D _ _ _ _ om om
theorem Zij {value:Bool} {s:List UInt8} {h i:Nat} {out:List UInt8} (D:i<h) (A:(s.drop i).head? =some 38) (C:refAt (s.take h) i=none):contAt value s h i out= .error (i,12):=by
 unfold contAt;rw[contGo,ZqH om,ZqN A,C]
theorem Iz {value:Bool} {s:List UInt8} {h i:Nat} {out:List UInt8} (C:h<=s.length) (D:i<h) (A:(s.drop i).head?≠some 38):
 contAt value s h i out=contAt value s h (i+(plainAt s h i).length) (out++(if value then spaced (lns (plainAt s h i)) else lns (plainAt s h i))):=by
 have F:=Uh D C A;unfold plainAt at F|-;unfold contAt;rw[contGo,ZqH om,ZqH A];exact J8 value s h C _ _ _ _ om om
theorem Zf4 (value:Bool) (s:List UInt8) (from_ h:Nat):contP value s from_ h=contAt value s h from_ []:=rfl
inductive JV where
 |null
 |bool (b:Bool)
 |int (n:Int)
 |str (s:ByteArray)
 |arr (l:List JV)
 |obj (ks:List ByteArray) (vs:List JV)
def commas:List (List UInt8)->List UInt8
 | []=> []
 | [t]=>t
 |t::u::r=>t++44::commas (u::r)
theorem V6:∀(l:List (List UInt8)) (t:List UInt8),commas (l++ [t])=if l= [] then t else commas l++44::t
 | [],t=>by simp[commas]
 | [u],t=>by simp[commas]
 |u::v::r,t=>by
  have ih:=V6 (v::r) t
  simp only[Zrp] at ih|-
  rw[ZqH (by simp)] at ih|-
  simp only[commas,ih,ZqY,Zrp]
def keyed (k:ByteArray) (t:List UInt8):List UInt8:=quoteL k.data.toList++58::t
def jtext:JV->List UInt8
 | .null=> [110,117,108,108]
 | .bool b=>if b then [116,114,117,101] else [102,97,108,115,101]
 | .int n=>Lib.itoa n
 | .str s=>quoteL s.data.toList
 | .arr l=>91::(commas (l.map jtext)++ [93])
 | .obj ks vs=>123::(commas (List.zipWith keyed ks (vs.map jtext))++ [125])
def jvalid:JV->Nat->Bool
 | .str s,depth=>decide (depth<=100) && Lib.validD s.data.toList
 | .arr l,depth=>decide (depth<=100) && (l.map λj=>jvalid j (depth+1)).all id
 | .obj _ vs,depth=>decide (depth<=100) && (vs.map λj=>jvalid j (depth+1)).all id
 |_,depth=>decide (depth<=100)
def jok:JV->Prop
 | .int n=> -9223372036854775808<=n/\n<=9223372036854775807
 | .str s=>s.size<=16777216
 | .arr l=>∀j∈l,jok j
 | .obj ks vs=>ks.length=vs.length/\ks.Nodup/\(∀k∈ks,k.size<=16777216/\Lib.validD k.data.toList=true)/\∀j∈vs,jok j
 |_=>True
def jwrite (j:JV):ByteArray×Nat:=if jvalid j 1 then (str (jtext j),0) else (⟨#[]⟩,22)
theorem U9 (l:List JV):jtext (.arr l)=91::(commas (l.map jtext)++ [93]):=by rw[jtext]
theorem Vu (d:Nat) (l:List JV):jvalid (.arr l) d=(decide (d<=100) && l.all λj=>jvalid j (d+1)):=by rw[jvalid];simp[List.all_map]
theorem Zle (ks:List ByteArray) (vs:List JV):jtext (.obj ks vs)=123::(commas (List.zipWith keyed ks (vs.map jtext))++ [125]):=by rw[jtext]
theorem Zcz (d:Nat) (ks:List ByteArray) (vs:List JV):jvalid (.obj ks vs) d=(decide (d<=100) && vs.all λj=>jvalid j (d+1)):=by rw[jvalid];simp[List.all_map]
theorem Zj4 (ks:List ByteArray) (vs:List JV):jok (.obj ks vs)=(ks.length=vs.length/\ks.Nodup/\(∀k∈ks,k.size<=16777216/\Lib.validD k.data.toList=true)/\∀j∈vs,jok j):=by rw[jok]
theorem Zff (l:List JV):jok (.arr l)=∀j∈l,jok j:=by rw[jok]
section
structure Ord (α κ:Type) where
 id:α->κ
 op:α->α->α
 lt:α->α->Bool
 op_id:∀a b,id a=id b->id (op a b)=id b
 irrefl:∀a,lt a a=false
 trans:∀a b c,lt a b=true->lt b c=true->lt a c=true
 total:∀a b,id a≠id b->lt a b=true\/lt b a=true
namespace Ord
section
variable {α κ:Type} (O:Ord α κ)
def ins:List α->α->List α
 | [],e=> [e]
 |x::t,e=>if O.lt e x then e::x::t else x::ins t e
def sorted (S:List α):Prop:=S.Pairwise λa b=>O.lt a b=true
theorem sorted_unique:∀(S T:List α),O.sorted S->O.sorted T->(∀x,x∈S↔x∈T)->S=T
 | [],T,_,_,h=>by
  cases T with
  |nil=>rfl
  |cons b u=>exact absurd ((h b).2 (by simp)) (by simp)
 |a::t,[],_,_,h=>absurd ((h a).1 (by simp)) (by simp)
 |a::t,b::u,hS,hT,h=>by
  have A:=Zsr.1 hS
  have C:=Zsr.1 hT
  have I:a=b:=by
   have D:=(h a).1 (by simp)
   have F:=(h b).2 (by simp)
   rcases Zq1.1 D with D|D
   ·exact D
   ·rcases Zq1.1 F with F|F
    ·exact F.symm
    ·have:=O.trans a b a (A.1 b F) (C.1 a D)
     rw[O.irrefl] at this
     cases this
  subst I
  refine ZqS (a:: ·) (sorted_unique t u A.2 C.2 λx=>⟨λH=> ?_,λH=> ?_⟩)
  ·rcases Zq1.1 ((h x).1 (by simp[H])) with e|e
   ·subst e;have:=A.1 x H;rw[O.irrefl] at this;cases this
   ·exact e
  ·rcases Zq1.1 ((h x).2 (by simp[H])) with e|e
   ·subst e;have:=C.1 x H;rw[O.irrefl] at this;cases this
   ·exact e
theorem foldl_id:∀(t:List α) (x:α),(∀y∈t,O.id y=O.id x)->O.id (t.foldl O.op x)=O.id x
 | [],_,_=>rfl
 |y::t,x,h=>by
  have A:=h y (by simp)
  have e:O.id (O.op x y)=O.id x:=by rw[O.op_id x y A.symm,A]
  show O.id (t.foldl O.op (O.op x y))=_
  rw[foldl_id t (O.op x y) (λz C=>by rw[e];exact h z (by simp[C])),e]
theorem mem_ins:∀(l:List α) (e x:α),x∈O.ins l e↔x=e\/x∈l
 | [],e,x=>by simp[ins]
 |y::t,e,x=>by
  unfold ins
  split
  ·simp
  ·simp only[Zq1,mem_ins t e x]
   constructor
   ·rintro (h|h|h)<;>simp[h]
   ·rintro (h|h|h)<;>simp[h]
theorem ins_sorted:∀(l:List α) (e:α),O.sorted l->(∀x∈l,O.id x≠O.id e)->O.sorted (O.ins l e)
 | [],e,_,_=>by simp[ins,sorted]
 |y::t,e,hs,h=>by
  have D:=Zsr.1 hs
  unfold ins
  split
  ·rename_i C
   refine Zsr.2 ⟨λx F=> ?_,hs⟩
   rcases Zq1.1 F with A|A
   ·rw[A];exact C
   ·exact O.trans _ _ _ C (D.1 x A)
  ·rename_i C
   have I:O.lt y e=true:=by
    rcases O.total e y (λA=>h y (by simp) A.symm) with H|H
    ·exact absurd H C
    ·exact H
   refine Zsr.2 ⟨λx F=> ?_,ins_sorted t e D.2 λx F=>h x (by simp[F])⟩
   rcases (O.mem_ins t e x).1 F with A|A
   ·rw[A];exact I
   ·exact D.1 x A
end
variable {α κ:Type} [DecidableEq κ] (O:Ord α κ)
def scan:List α->α->List α×α
 | [],e=>([],e)
 |x::t,e=>if O.id x=O.id e then scan t (O.op x e) else (x::(scan t e).1,(scan t e).2)
def put (l:List α) (e:α):List α:=O.ins (O.scan l e).1 (O.scan l e).2
def canon (l:List α):List α:=l.foldl O.put []
def fold1:List α->Option α
 | []=>none
 |x::t=>some (t.foldl O.op x)
def got (l:List α) (k:κ):Option α:=O.fold1 (l.filter λx=>O.id x=k)
def firsts (l:List α):List κ:=l.foldl (λacc x=>if O.id x∈acc then acc else acc++ [O.id x]) []
theorem got_id {l:List α} {k:κ} {x:α} (h:O.got l k=some x):O.id x=k:=by
 unfold got at h;generalize D:(l.filter λx=>O.id x=k)=g at h;cases g with
 |nil=>cases h
 |cons y t=>
  have A:∀z∈y::t,O.id z=k:=by intro z C;rw[<-D] at C;simpa using (ZrK.1 C).2
  simp only[fold1,Zsm] at h;rw[<-h,O.foldl_id t y (λz C=>by rw[A z (by simp[C]),A y (by simp)]),A y (by simp)]
theorem got_nil (k:κ):O.got [] k=none:=rfl
theorem got_snoc (l:List α) (e:α) (k:κ):O.got (l++ [e]) k=if O.id e=k then (match O.got l k with|none=>some e|some y=>some (O.op y e)) else O.got l k:=by
 unfold got;rw[List.filter_append];by_cases h:O.id e=k
 ·rw[ZqN h];have: [e].filter (λx=>decide (O.id x=k))= [e]:=by simp[h]
  rw[this];cases l.filter λx=>O.id x=k with
  |nil=>rfl
  |cons y t=>simp[fold1,List.foldl_append]
 ·rw[ZqH h];have: [e].filter (λx=>decide (O.id x=k))= []:=by simp[h]
  rw[this,Zrb]
theorem scan_fst:∀(l:List α) (e:α),(O.scan l e).1=l.filter λx=> !decide (O.id x=O.id e)
 | [],_=>rfl
 |x::t,e=>by
  unfold scan
  by_cases h:O.id x=O.id e
  ·rw[ZqN h,scan_fst t (O.op x e),O.op_id x e h]
   simp[h]
  ·rw[ZqH h]
   simp[h,scan_fst t e]
theorem scan_none:∀(l:List α) (e:α),(∀x∈l,O.id x≠O.id e)->(O.scan l e).2=e
 | [],_,_=>rfl
 |x::t,e,h=>by
  unfold scan
  rw[ZqH (h x (by simp))]
  exact scan_none t e λy A=>h y (by simp[A])
theorem scan_one:∀(l:List α) (e y:α),y∈l->O.id y=O.id e->l.Pairwise (λa b=>O.id a≠O.id b)->(O.scan l e).2=O.op y e
 | [],_,_,h,_,_=>by simp at h
 |x::t,e,y,hy,hid,hp=>by
  have C:=Zsr.1 hp
  unfold scan
  by_cases h:O.id x=O.id e
  ·have D:x=y:=by
    rcases Zq1.1 hy with A|A
    ·exact A.symm
    ·exact absurd (h.trans hid.symm) (C.1 y A)
   subst D
   rw[ZqN h]
   exact O.scan_none t _ λz H=>by rw[O.op_id x e h,<-h];exact (C.1 z H).symm
  ·rw[ZqH h]
   have F:y∈t:=by
    rcases Zq1.1 hy with A|A
    ·subst A;exact absurd hid h
    ·exact A
   exact scan_one t e y F hid C.2
def IsCanon (l S:List α):Prop:=O.sorted S/\∀x,x∈S↔O.got l (O.id x)=some x
theorem IsCanon.unique {l S T:List α} (h:O.IsCanon l S) (k:O.IsCanon l T):S=T:=
 O.sorted_unique S T h.1 k.1 λx=>(h.2 x).trans (k.2 x).symm
theorem IsCanon.ids {l S:List α} (h:O.IsCanon l S):S.Pairwise λa b=>O.id a≠O.id b:=by
 refine h.1.imp_of_mem λ{a b} F H A e=> ?_;have C:=(h.2 a).1 F;have D:=(h.2 b).1 H;rw[e,D] at C;injection C with C;rw[C,O.irrefl] at A;cases A
theorem IsCanon.put {l S:List α} (h:O.IsCanon l S) (e:α):O.IsCanon (l++ [e]) (O.put S e):=by
 have F:=h.ids;have A:O.id (O.scan S e).2=O.id e/\O.got (l++ [e]) (O.id e)=some (O.scan S e).2:=by
  rw[got_snoc,ZqN rfl];cases hg:O.got l (O.id e) with
  |none=>have:(O.scan S e).2=e:=O.scan_none S e λx D J=>(by have:=(h.2 x).1 D;rw[J,hg] at this;cases this);rw[this];exact ⟨rfl,rfl⟩
  |some y=>have Q:O.id y=O.id e:=O.got_id hg;have R:y∈S:=(h.2 y).2 (by rw[Q];exact hg);rw[O.scan_one S e y R Q F];exact ⟨O.op_id y e Q,rfl⟩
 have I:∀x∈(O.scan S e).1,O.id x≠O.id (O.scan S e).2:=by intro x D;rw[scan_fst] at D;rw[A.1];simpa using (ZrK.1 D).2
 refine ⟨O.ins_sorted _ _ ?_ I,λx=> ?_⟩
 ·rw[scan_fst];exact h.1.filter _
 ·unfold Ord.put;rw[mem_ins,scan_fst,ZrK,h.2 x];by_cases D:O.id x=O.id e
  ·constructor
   ·rintro (rfl|⟨_,C⟩)
    ·rw[A.1];exact A.2
    ·simp[D] at C
   ·intro C;rw[D,A.2] at C;injection C with C;exact Or.inl C.symm
  ·have H:O.got (l++ [e]) (O.id x)=O.got l (O.id x):=(by rw[got_snoc,ZqH (λH=>D H.symm)]);rw[H];constructor
   ·rintro (rfl|⟨C,_⟩)
    ·exact absurd A.1 D
    ·exact C
   ·intro C;exact Or.inr ⟨C,by simp[D]⟩
theorem IsCanon.foldl:∀(t l S:List α),O.IsCanon l S->O.IsCanon (l++t) (t.foldl O.put S)
 | [],l,S,h=>by simpa using h
 |e::t,l,S,h=>by
  have:=foldl t (l++ [e]) (O.put S e) (h.put O e)
  simpa using this
theorem isCanon_nil:O.IsCanon [] []:=⟨List.Pairwise.nil,λx=>by simp[got_nil]⟩
theorem canon_is (l:List α):O.IsCanon l (O.canon l):=by
 have h:=IsCanon.foldl O l [] [] O.isCanon_nil;rw[Zrl] at h;exact h
theorem firsts_snoc (l:List α) (e:α):O.firsts (l++ [e])=if O.id e∈O.firsts l then O.firsts l else O.firsts l++ [O.id e]:=by
 unfold firsts;rw[List.foldl_append];rfl
theorem mem_firsts (l:List α) (k:κ):k∈O.firsts l↔∃x∈l,O.id x=k:=by
 suffices h:∀(n:Nat) (l:List α),l.length=n->∀k,k∈O.firsts l↔∃x∈l,O.id x=k from h _ l rfl k
 intro n
 induction n with
 |zero=>intro l F k;rw[ZqX F];simp[firsts]
 |succ n ih=>
  intro l F k;obtain ⟨l',e,rfl⟩:∃l' e,l=l'++ [e]:=by
   rcases List.eq_nil_or_concat l with h|⟨l',e,h⟩
   ·subst h;simp at F
   ·exact ⟨l',e,by simpa using h⟩
  have D:=ih l' (by simpa using F);rw[firsts_snoc];by_cases h:O.id e∈O.firsts l'
  ·rw[ZqN h,D k];constructor
   ·rintro ⟨x,A,C⟩;exact ⟨x,by simp[A],C⟩
   ·rintro ⟨x,A,C⟩;rcases Zq0.1 A with A|A
    ·exact ⟨x,A,C⟩
    ·simp at A;subst A;obtain ⟨y,I,H⟩:=(D (O.id x)).1 h;exact ⟨y,I,H.trans C⟩
  ·rw[ZqH h,Zq0,D k];constructor
   ·rintro (⟨x,A,C⟩|A)
    ·exact ⟨x,by simp[A],C⟩
    ·simp at A;exact ⟨e,by simp,A.symm⟩
   ·rintro ⟨x,A,C⟩;rcases Zq0.1 A with A|A
    ·exact Or.inl ⟨x,A,C⟩
    ·simp at A;subst A;exact Or.inr (by simp[C])
theorem firsts_nodup (l:List α):(O.firsts l).Pairwise (· ≠ ·):=by
 suffices h:∀(n:Nat) (l:List α),l.length=n->(O.firsts l).Pairwise (· ≠ ·) from h _ l rfl
 intro n
 induction n with
 |zero=>intro l C;rw[ZqX C];exact List.Pairwise.nil
 |succ n ih=>
  intro l C;obtain ⟨l',e,rfl⟩:∃l' e,l=l'++ [e]:=by
   rcases List.eq_nil_or_concat l with h|⟨l',e,h⟩
   ·subst h;simp at C
   ·exact ⟨l',e,by simpa using h⟩
  have A:=ih l' (by simpa using C);rw[firsts_snoc];split
  ·exact A
  ·rename_i h;rw[List.pairwise_append];exact ⟨A,by simp,λa F b D=>by simp at D;subst D;rintro rfl;exact h F⟩
def joined (l:List α):List α:=(O.firsts l).filterMap (O.got l)
theorem mem_joined (l:List α) (x:α):x∈O.joined l↔O.got l (O.id x)=some x:=by
 unfold joined;rw[List.mem_filterMap];constructor
 ·rintro ⟨k,_,h⟩;rw[O.got_id h];exact h
 ·intro h;refine ⟨O.id x,(O.mem_firsts l _).2 ?_,h⟩;unfold got at h;generalize A:(l.filter λy=>O.id y=O.id x)=g at h;cases g with
  |nil=>cases h
  |cons y t=>have:y∈l.filter λz=>decide (O.id z=O.id x):=(by rw[A];simp);have:=ZrK.1 this;exact ⟨y,this.1,by simpa using this.2⟩
theorem joined_ids (l:List α):(O.joined l).Pairwise λa b=>O.id a≠O.id b:=by
 unfold joined;rw[List.pairwise_filterMap];refine (O.firsts_nodup l).imp λ{a b} h x A y C=> ?_;rw[O.got_id A,O.got_id C];exact h
theorem sorted_joined (l S:List α) (D:S.Perm (O.joined l)) (F:S.Pairwise λa b=>O.lt b a=false):S=O.canon l:=by
 refine IsCanon.unique O ⟨?_,λx=>by rw[D.mem_iff];exact O.mem_joined l x⟩ (O.canon_is l);have A:S.Pairwise λa b=>O.id a≠O.id b:=(O.joined_ids l).perm D.symm λh=>h.symm;refine (F.and A).imp λ{a b} h=> ?_;rcases O.total a b h.2 with C|C
 ·exact C
 ·rw[h.1] at C;cases C
end Ord
end
section
namespace Ord
section
variable {α κ:Type} (O:Ord α κ)
structure Semi (G:α->Prop):Prop where
 good:∀a b,O.id a=O.id b->G a->G b->G (O.op a b)
 comm:∀a b,O.id a=O.id b->G a->G b->O.op a b=O.op b a
 assoc:∀a b c,O.id a=O.id b->O.id b=O.id c->G a->G b->G c->O.op (O.op a b) c=O.op a (O.op b c)
 idem:∀a,G a->O.op a a=a
variable {O}
variable {G:α→Prop}
theorem Semi.le_trans (S:O.Semi G) {a b c:α} (h:O.id a=O.id b) (k:O.id b=O.id c) (D:G a) (F:G b) (H:G c) (A:O.op a b=b) (C:O.op b c=c):O.op a c=c:=by
 rw[<-C,<-S.assoc a b c h k D F H,A]
end
variable {α κ:Type} [DecidableEq κ] {O:Ord α κ} {G:α→Prop}
theorem got_none_iff (l:List α) (k:κ):O.got l k=none↔∀x∈l,O.id x≠k:=by
 unfold Ord.got;generalize A:(l.filter λx=>O.id x=k)=g;cases g with
 |nil=>simp only[fold1,true_iff];intro x C e;have:x∈l.filter λx=>decide (O.id x=k):=ZrK.2 ⟨C,by simpa using e⟩;rw[A] at this;cases this
 |cons y t=>
  simp only[fold1];constructor
  ·intro h;cases h
  ·intro h;have:=ZrK.1 (show y∈l.filter λx=>decide (O.id x=k) by rw[A];simp);exact absurd (by simpa using this.2) (h y this.1)
theorem got_isSome_iff (l:List α) (k:κ):(∃s,O.got l k=some s)↔∃x∈l,O.id x=k:=by
 rw[<-Option.isSome_iff_exists,<-Option.ne_none_iff_isSome,Ne,got_none_iff];simp
end Ord
end
section
theorem XS (l:List UInt8):(quoteL l).length<=6*l.length+2:=by
 have:(l.flatMap qB).length<=6*l.length:=by
  induction l with
  |nil=>simp
  |cons b l ih=>rw[ZrU,ZqG,ZqK];have:=ZnT b;omega
 unfold quoteL;rw[ZqK,ZqG];simp only[ZqK,Zq5];omega
structure Ent where
 id:ByteArray
 title:ByteArray
 link:ByteArray
 content:ByteArray
 upd:Int
 deriving DecidableEq
structure Fd where
 path:List ByteArray
 id:ByteArray
 title:ByteArray
 link:ByteArray
 upd:Int
 ents:List Ent
 deriving DecidableEq
def eCells (e:Ent):List Value:= [.string e.id,.string e.title,.string e.link,.string e.content,nI e.upd]
def entJ (e:Ent):JV:= .arr [.str e.id,.str e.title,.str e.link,.str e.content,.int e.upd]
def entryKey (e:Ent):ByteArray:=(jwrite (entJ e)).1
def sCmp (x y:ByteArray):Int:=if Op.bytesLess x.toList y.toList then -1 else if x.toList=y.toList then 0 else 1
def iCmp (x y:Int):Int:=if x<y then -1 else if y<x then 1 else 0
def pathCmp:List ByteArray->List ByteArray->Int
 | [],[]=>0
 | [],_::_=> -1
 |_::_,[]=>1
 |a::x,b::y=>if sCmp a b=0 then pathCmp x y else sCmp a b
def entCmp (a b:Ent):Int:=if iCmp b.upd a.upd=0 then sCmp a.id b.id else iCmp b.upd a.upd
theorem XJ:∀x:List UInt8,Op.bytesLess x x=false
 | []=>rfl
 |a::x=>by simp[Op.bytesLess,XJ x]
theorem ZjO (a b:UInt8) (x y:List UInt8):Op.bytesLess (a::x) (b::y)=true↔a<b\/(a=b/\Op.bytesLess x y=true):=by simp[Op.bytesLess]
theorem Ir:∀x y z:List UInt8,Op.bytesLess x y=true->Op.bytesLess y z=true->Op.bytesLess x z=true
 | [],y,[],_,h=>by cases y<;>simp[Op.bytesLess] at h
 | [],_,_::_,_,_=>rfl
 |_::_,[],_,h,_=>by simp[Op.bytesLess] at h
 |_::_,_::_,[],_,h=>by simp[Op.bytesLess] at h
 |a::x,b::y,c::z,h,k=>by
  rw[ZjO] at h k|-
  rcases h with h|⟨rfl,h⟩<;>rcases k with k|⟨rfl,k⟩
  ·exact Or.inl (UInt8.lt_trans h k)
  ·exact Or.inl h
  ·exact Or.inl k
  ·exact Or.inr ⟨rfl,Ir x y z h k⟩
theorem ZbR:∀x y:List UInt8,Op.bytesLess x y=false->Op.bytesLess y x=false->x=y
 | [],[],_,_=>rfl
 | [],_::_,h,_=>by simp[Op.bytesLess] at h
 |_::_,[],_,h=>by simp[Op.bytesLess] at h
 |a::x,b::y,h,k=>by
  rw[Zr8,Ne,ZjO] at h k
  have A:a=b:=by
   rcases Classical.em (a=b) with e|e
   ·exact e
   ·rcases UInt8.lt_or_lt_of_ne e with e|e
    ·exact absurd (Or.inl e) h
    ·exact absurd (Or.inl e) k
  subst A
  refine ZqS (a:: ·) (ZbR x y ?_ ?_)
  ·rw[Zr8];exact λe=>h (Or.inr ⟨rfl,e⟩)
  ·rw[Zr8];exact λe=>k (Or.inr ⟨rfl,e⟩)
structure IsCmp {α:Type} (c:α->α->Int):Prop where
 anti:∀a b,c b a= - c a b
 trans:∀a b d,c a b<=0->c b d<=0->c a d<=0
namespace IsCmp
variable {α:Type} {c:α→α→Int} (h:IsCmp c)
include h
theorem self (a:α):c a a=0:=by have:=h.anti a a;omega
theorem lt_trans (a b d:α) (A:c a b<0) (C:c b d<0):c a d<0:=by
 have D:=h.trans a b d om om;rcases Classical.em (c a d=0) with e|e
 ·have F:=h.trans d a b (by have:=h.anti a d;omega) om;have:=h.anti b d;omega
 ·omega
theorem zero_left (a b d:α) (C:c a b=0):c a d<=0↔c b d<=0:=
 ⟨λA=>h.trans b a d (by have:=h.anti a b;omega) A,λA=>h.trans a b d om A⟩
theorem zero_right (a b d:α) (C:c b d=0):c a b<=0↔c a d<=0:=
 ⟨λA=>h.trans a b d A om,λA=>h.trans a d b A (by have:=h.anti b d;omega)⟩
end IsCmp
theorem IsCmp.lex {α:Type} {c d:α->α->Int} (A:IsCmp c) (F:IsCmp d):IsCmp λa b=>if c a b=0 then d a b else c a b where
 anti a b:=by
  have D:=A.anti a b;have C:=F.anti a b;by_cases h:c a b=0
  ·simp only[h,Zsy,show c b a=0 by omega];exact C
  ·simp only[ZqH h,ZqH (show ¬c b a=0 by omega)];exact D
 trans a b e D C:=by
  by_cases h:c a b=0
  ·rw[ZqN h] at D;have H:=A.zero_left a b e h;have I:=A.zero_left b a e (by have:=A.anti a b;omega);by_cases k:c b e=0
   ·rw[ZqN k] at C;have:c a e=0:=(by have e1:=H.2 om;have:=A.trans e b a (by have:=A.anti b e;omega) (by have:=A.anti a b;omega);have:=A.anti a e;omega);rw[ZqN this];exact F.trans a b e D C
   ·rw[ZqH k] at C;by_cases g:c a e=0
    ·have:=(A.zero_right b a e g);have e1:=A.trans e a b (by have:=A.anti a e;omega) om;have:=A.anti b e;omega
    ·rw[ZqH g];exact H.2 C
  ·rw[ZqH h] at D;by_cases k:c b e=0
   ·rw[ZqN k] at C;by_cases g:c a e=0
    ·have e1:=A.trans b e a om (by have:=A.anti a e;omega);have:=A.anti a b;omega
    ·rw[ZqH g];exact (A.zero_right a b e k).1 D
   ·rw[ZqH k] at C;have:=A.lt_trans a b e om om;rw[ZqH om];omega
theorem Zj1:IsCmp iCmp where
 anti a b:=by unfold iCmp;split<;>split<;>(try split)<;>omega
 trans a b d h1 h2:=by
  unfold iCmp at*
  repeat' split at h1
  all_goals (repeat' split at h2)
  all_goals (repeat' split)
  all_goals omega
theorem Zhy (a b:ByteArray):sCmp a b<0↔Op.bytesLess a.toList b.toList=true:=by
 unfold sCmp;split
 ·rename_i h;simp[h]
 ·rename_i h;split<;>simp_all
theorem YR (a b:ByteArray):sCmp a b=0↔a.toList=b.toList:=by
 unfold sCmp;split
 ·rename_i h;constructor
  ·intro A;cases A
  ·intro A;rw[A,XJ] at h;cases h
 ·split<;>simp_all
theorem VF:IsCmp sCmp where
 anti a b:=by
  unfold sCmp;by_cases h:Op.bytesLess a.toList b.toList=true
  ·have H:¬Op.bytesLess b.toList a.toList=true:=λk=>(by have:=Ir _ _ _ h k;rw[XJ] at this;cases this);have A:¬b.toList=a.toList:=λe=>(by rw[e,XJ] at h;cases h);rw[ZqN h,ZqH H,ZqH A];rfl
  ·by_cases k:Op.bytesLess b.toList a.toList=true
   ·have A:¬a.toList=b.toList:=λe=>(by rw[e,XJ] at k;cases k);rw[ZqN k,ZqH h,ZqH A]
   ·have e:=ZbR a.toList b.toList (by simpa using h) (by simpa using k);rw[ZqH h,ZqH k,ZqN e,ZqN e.symm];rfl
 trans a b d C D:=by
  have F:∀x y:ByteArray,sCmp x y<=0↔Op.bytesLess x.toList y.toList=true\/x.toList=y.toList:=by intro x y;rw[<-Zhy,<-YR];omega
  rw[F] at*;rcases C with C|C
  ·rcases D with D|D
   ·exact Or.inl (Ir _ _ _ C D)
   ·rw[<-D];exact Or.inl C
  ·rw[C];exact D
theorem IsCmp.comap {α β:Type} {c:β->β->Int} (h:IsCmp c) (f:α->β):IsCmp λa b=>c (f a) (f b):=⟨λa b=>h.anti _ _,λa b d=>h.trans _ _ _⟩
theorem IsCmp.swap {α:Type} {c:α->α->Int} (h:IsCmp c):IsCmp λa b=>c b a:=⟨λa b=>h.anti _ _,λa b d A C=>h.trans _ _ _ C A⟩
theorem IW:∀a b,pathCmp b a= - pathCmp a b
 | [],[]=>rfl
 | [],_::_=>rfl
 |_::_,[]=>rfl
 |a::x,b::y=>by
  have A:=VF.anti a b
  unfold pathCmp
  by_cases h:sCmp a b=0
  ·rw[ZqN h,ZqN om];exact IW x y
  ·rw[ZqH h,ZqH om];exact A
theorem GN:∀a b d,pathCmp a b<=0->pathCmp b d<=0->pathCmp a d<=0
 | [],_,[],_,_=>by simp[pathCmp]
 | [],_,_::_,_,_=>by simp[pathCmp]
 |_::_,[],_,h,_=>by simp[pathCmp] at h
 |_::_,_::_,[],_,h=>by simp[pathCmp] at h
 |a::x,b::y,d::z,h,k=>by
  unfold pathCmp at h k|-
  by_cases e1:sCmp a b=0
  ·rw[ZqN e1] at h
   have C:a.toList=b.toList:=(YR a b).1 e1
   by_cases e2:sCmp b d=0
   ·rw[ZqN e2] at k
    have A:b.toList=d.toList:=(YR b d).1 e2
    rw[ZqN ((YR a d).2 (C.trans A))]
    exact GN x y z h k
   ·rw[ZqH e2] at k
    have e3:sCmp a d≠0:=λe=>e2 ((YR b d).2 (C.symm.trans ((YR a d).1 e)))
    rw[ZqH e3]
    exact (VF.zero_left a b d e1).2 k
  ·rw[ZqH e1] at h
   by_cases e2:sCmp b d=0
   ·rw[ZqN e2] at k
    have A:b.toList=d.toList:=(YR b d).1 e2
    have e3:sCmp a d≠0:=λe=>e1 ((YR a b).2 (((YR a d).1 e).trans A.symm))
    rw[ZqH e3]
    exact (VF.zero_right a b d e2).1 h
   ·rw[ZqH e2] at k
    have:=VF.lt_trans a b d om om
    rw[ZqH om];omega
theorem Zjk:IsCmp pathCmp:=⟨IW,GN⟩
theorem toList_inj {a b:ByteArray} (h:a.toList=b.toList):a=b:=by
 rw[ZrC,ZrC] at h;cases a;cases b
 congr
 exact Array.toList_inj.1 h
theorem ZbF {a b:ByteArray} (h:sCmp a b=0):a=b:=toList_inj ((YR a b).1 h)
theorem ZcN:∀{a b:List ByteArray},pathCmp a b=0->a=b
 | [],[],_=>rfl
 | [],_::_,h=>by simp[pathCmp] at h
 |_::_,[],h=>by simp[pathCmp] at h
 |a::x,b::y,h=>by
  unfold pathCmp at h
  by_cases e:sCmp a b=0
  ·rw[ZqN e] at h;rw[ZbF e,ZcN h]
  ·rw[ZqH e] at h;exact absurd h e
theorem QQ:IsCmp entCmp:=IsCmp.lex (α:=Ent) (c:=λa b=>iCmp b.upd a.upd) (d:=λa b=>sCmp a.id b.id) ((Zj1.comap λe:Ent=>e.upd).swap) (VF.comap λe:Ent=>e.id)
theorem ZkN {a b:Ent} (h:entCmp a b=0):a.id=b.id:=by
 unfold entCmp at h;split at h
 ·exact ZbF h
 ·rename_i A;exact absurd h A
def laterB (c:Int) (ka kb:ByteArray):Bool:=decide (c<0)||(decide (c=0) && Op.bytesLess ka.toList kb.toList)
def laterE (a b:Ent):Ent:=if laterB (iCmp a.upd b.upd) (entryKey a) (entryKey b) then b else a
def ltE (a b:Ent):Bool:=decide (entCmp a b<0)
theorem Zli (a b:Ent) (h:a.id=b.id):(laterE a b).id=b.id:=by unfold laterE;split<;>simp[h]
def ordE:Ord Ent ByteArray where
 id:=Ent.id
 op:=laterE
 lt:=ltE
 op_id:=Zli
 irrefl a:=by simp[ltE,QQ.self]
 trans a b c h1 h2:=by simp only[ltE,Zrd] at*;exact QQ.lt_trans a b c h1 h2
 total a b h:=by
  simp only[ltE,Zrd]
  have h1:=QQ.anti a b
  have h2:entCmp a b≠0:=λe=>h (ZkN e)
  omega
end
theorem ZcT (s t:ByteArray) (k:Nat) (w:Wq) (F:s.size<=maxLen) (D:k<=maxLen) (I:t.size<=maxLen) (O:0<t.size):
 Calls prog 101 #[.string s,nI (k:Nat),.string t] w λe w'=>e= .returned (.bool (hasAt s.data.toList k t.data.toList))/\w'=w:=by
 unfold maxLen at F D I;by_cases h:k+t.size<=s.size
 ·have A:(t.size:Int)<=(s.size:Int) - (k:Int):=om
  have C:(0:Int)<=(k:Int):=om
  have H:=λJ=>ZhH s k t.size (t.size:Int) rfl h J;go_enter func101,ntmps101;go_wp2;go_ret;refine ⟨?_,rfl⟩;rw[Zgt,<-Zb t,<-ZW,Zb,<-VI];rfl
 ·have A:¬(t.size:Int)<=(s.size:Int) - (k:Int):=om
  have C:(0:Int)<=(k:Int):=om
  have e:hasAt s.data.toList k t.data.toList=false:=Zcs (by rw[Zb,Zb];omega) (λe=>by have:=ZqS List.length e;rw[Zb,Zq5] at this;omega);rw[e];go_enter func101,ntmps101;go_wp2;go_ret;exact ⟨rfl,rfl⟩
theorem Jb (s:ByteArray) (k:Nat) (w:Wq) (V:s.size<=80000000000) (S:k<=s.size):
 Calls prog 174 #[.string s,nI (k:Nat)] w λe w'=>e= .returned (nI (spAt s.data.toList k:Nat))/\w'=w:=by
 obtain ⟨R,H⟩:∃R,spAt s.data.toList k=R:=⟨_,rfl⟩;rw[H];go_enter func174,ntmps174;go_wp2;go_loopw [1] (λv wr=>∃j:Nat,j<=s.size/\v=nI j/\Hid (spAt s.data.toList j=R)/\wr=w) (λv _=>s.size - (intOf v).toNat)
 case atStart=>exact ⟨k,S,rfl,gd H,rfl⟩
 case round=>
  obtain ⟨j,U,rfl,A,rfl⟩:=hrel;by_cases C:j<s.size
  ·have O:(0:Int)<=(j:Int):=om;have Q:(j:Int)<(s.size:Int):=om;have I:j<s.data.toList.length:=(by rw[Zb];exact C);have D:s.data.toList[j]=s[j]:=(by rfl);cases hsp:isSp (s[j].toNat) with
   |true=>
    have J:=gd ((Zl3 I (by rw[D];exact hsp)).symm.trans A.out);clear A
    go_wp2_with (first|(go_at_call 103;refine ZqD (ZT _ _) ?_;rintro e w2 ⟨rfl,rfl⟩))
    go_roundw
    case rel=>exact ⟨j+1,C,by go_num,J,by trivial⟩
    case measure=>simp[intOf];omega
   |false=>
    have h:=(Zl4 I (by rw[D];exact hsp)).symm.trans A.out;subst h;clear A
    go_wp2_with (first|(go_at_call 103;refine ZqD (ZT _ _) ?_;rintro e w2 ⟨rfl,rfl⟩))
    go_ret;exact ⟨rfl,rfl⟩
  ·have F:j=s.size:=om;have h:=(Zn1 (s:=s.data.toList) (k:=j) (by rw[Zb];omega)).symm.trans A.out;subst h;clear A;subst F;go_wp2;go_ret;exact ⟨rfl,rfl⟩
theorem Zhr (s t:ByteArray) (k:Nat) (w:Wq) (V:s.size<=80000000000) (Q:k<=s.size) (X:t.size<=80000000000) (O:0<t.size):
 Calls prog 146 #[.string s,nI (k:Nat),.string t] w λe w'=>e= .returned (nI (match findAt s.data.toList k t.data.toList with|some i=>(i:Int)|none=> -1))/\w'=w:=by
 obtain ⟨R,H⟩:∃R,findAt s.data.toList k t.data.toList=R:=⟨_,rfl⟩;rw[H];have C:t.data.toList≠ []:=λe=>by have:=ZqS List.length e;rw[Zb,Zq5] at this;omega
 go_enter func146,ntmps146;go_wp2;go_loopw [7] (λv wr=>∃j:Nat,j<=s.size/\v=nI j/\Hid (findAt s.data.toList j t.data.toList=R)/\wr=w) (λv _=>s.size - (intOf v).toNat)
 case atStart=>exact ⟨k,Q,rfl,gd H,rfl⟩
 case round=>
  obtain ⟨j,U,rfl,A,rfl⟩:=hrel;by_cases S:j+t.size<=s.size
  ·have F:(j:Int)<=(s.size:Int) - (t.size:Int):=om;have I:j<s.data.toList.length:=(by rw[Zb];omega);have D:=gd (λw'=>ZcT s t j w' (by unfold maxLen;omega) (by unfold maxLen;omega) (by unfold maxLen;omega) O);cases hh:hasAt s.data.toList j t.data.toList with
   |true=>
    have h:=(Ziv I hh).symm.trans A.out;subst h;rw[hh] at D;clear A
    go_wp2_with (first|(go_at_call 101;refine ZqD (D.out _) ?_;rintro e w2 ⟨rfl,rfl⟩))
    go_ret;exact ⟨rfl,rfl⟩
   |false=>
    have J:=gd ((ZaM I hh).symm.trans A.out);rw[hh] at D;clear A
    go_wp2_with (first|(go_at_call 101;refine ZqD (D.out _) ?_;rintro e w2 ⟨rfl,rfl⟩))
    go_roundw
    case rel=>exact ⟨j+1,om,by go_num,J,by trivial⟩
    case measure=>simp[intOf];omega
  ·have F:¬(j:Int)<=(s.size:Int) - (t.size:Int):=om;have h:=(Ziu (s:=s.data.toList) (k:=j) C (by rw[Zb,Zb];omega)).symm.trans A.out;subst h;clear A;go_wp2;go_ret;exact ⟨rfl,rfl⟩
def toldR (R:Act->Wq->Prop):Exit->Act->Wq->Prop
 | .normal,a',w'=>R a' w'
 |_,_,_=>False
theorem QI {P:Program} {c:Code} {Q:Exit->Act->Wq->Prop} {a:Act} {w:Wq} (R:Act->Wq->Prop) (A:∀a' w',R a' w'->Q .normal a' w') (C:c.wp P (toldR R) a w):c.wp P Q a w:=
 Code.wp_mono (λe a' w' h=>by cases e<;>first|exact A a' w' h|exact h.elim) C
end Go.Proofs.YtmfinhgobjbecaaGreatDoor
