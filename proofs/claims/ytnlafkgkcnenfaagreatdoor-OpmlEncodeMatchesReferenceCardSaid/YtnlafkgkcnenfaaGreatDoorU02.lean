/- Parts of the proof: contracts and plain laws. -/
import Derived.Test.YtnlafkgkcnenfaaGreatDoorU01
namespace Go.Proofs.YtnlafkgkcnenfaaGreatDoor
open Go Go.RowKit _root_.Go.Proofs.Tryz
set_option linter.unusedVariables false
set_option linter.unusedSimpArgs false
set_option maxRecDepth 100000
set_option maxHeartbeats 16000000
section
variable {T:TypeId}
theorem Iu:(prog.info? 96).map (λi=>i.size)=some 2:=by kernel_rfl
theorem Zmo:prog.cellsOf 5=1:=by kernel_rfl
structure BT (T:TypeId):Prop where
 lies:liesAt prog prog.depth T (2 / prog.cellsOf T) 0 96 1=true
 ne:T≠5
theorem Qe:BT 96:=⟨by kernel_rfl,by decide⟩
theorem Ud (D:BT T) (b:Nat) (w:Wq) (A:w.cell? ⟨b,0,none⟩=some (.pointer (some ⟨b,0,none⟩))):
 Calls prog 95 #[.pointer (some ⟨b,0,none⟩)] w λe w'=>e= .returned (.tuple #[])/\w'=w:=by
 obtain ⟨j,h,_⟩:=Option.map_eq_some_iff.1 Iu;go_enter func95,ntmps95;go_wp2;rw[Lib.run_neq_ptr_same w _ underlying93 h];go_wp2;go_end0;exact ⟨rfl,rfl⟩
theorem J4 (F:BT T) (b:Nat) (w:Wq) (I:w.cell? ⟨b,0,none⟩=some (.pointer none)) (h:w.shape? b=some (T,2)) (H:w.frozen? ⟨b,0,none⟩=false):
 Calls prog 95 #[.pointer (some ⟨b,0,none⟩)] w λe w'=>e= .returned (.tuple #[])/\w'=w.setCell ⟨b,0,none⟩ (.pointer (some ⟨b,0,none⟩)):=by
 obtain ⟨j,D,A⟩:=Option.map_eq_some_iff.1 Iu;go_enter func95,ntmps95;go_wp2;rw[Lib.run_to_unsafe w ⟨b,0,none⟩ underlying93 underlying190 D (by rw[A];decide) h (Nat.zero_lt_succ 1)];simp only[Result.andThen];rw[Oper.upon_value];go_wp2;rw[run_callFunc_extern func137 (by kernel_rfl) (by kernel_rfl) (by kernel_rfl) (e:=Extern.AbiNoEscape.same) (by kernel_rfl)];rw[Lib.run_noEscape];simp only[Result.andThen];rw[Oper.upon_value];go_wp2;rw[Lib.run_from_unsafe w ⟨b,0,none⟩ underlying190 underlying93 D h F.lies];simp only[Result.andThen];rw[Oper.upon_value];go_wp2;go_end0;exact ⟨rfl,rfl⟩
theorem VG (A:BT T) (B b:Nat) (bs:List Value) (w:Wq) (h:Lib.IsBuilder T 5 B b bs w):
 Calls prog 95 #[.pointer (some ⟨b,0,none⟩)] w λe w'=>e= .returned (.tuple #[])/\(Lib.BuilderAt T 5 B b (.pointer (some ⟨b,0,none⟩)) bs w'/\Below B w w'):=by
 rcases h with h|h
 ·refine (J4 A b w h.cell0 h.shape h.frozen0).mono ?_;rintro e w' ⟨rfl,rfl⟩;exact ⟨rfl,h.used _,(Zdg B w).setCell (p:=⟨b,0,none⟩) h.1 _⟩
 ·refine (Ud A b w h.cell0).mono ?_;rintro e w' ⟨rfl,rfl⟩;exact ⟨rfl,h,Zdg B _⟩
theorem ZfU (Q:BT T) (B b:Nat) (bs:List Value) (w:Wq) (h:Lib.IsBuilder T 5 B b bs w):
 Calls prog 55 #[.pointer (some ⟨b,0,none⟩)] w λe w'=>e= .returned (nI bs.length)/\w'=w:=by
 obtain ⟨p,K,v,D,A,J⟩:∃p,Lib.BuilderAt T 5 B b p bs w:=by
  rcases h with h|h
  ·exact ⟨_,h⟩
  ·exact ⟨_,h⟩
 obtain ⟨ao,cap,rfl⟩:∃ao cap,v= .slice ao bs.length cap:=by
  rcases A.2 with ⟨F,I⟩|⟨g,cap,H,F,_⟩
  ·exact ⟨none,0,by rw[F,I]⟩
  ·exact ⟨_,_,F⟩
 have c1:w.cell? ⟨b,1,none⟩=some (.slice ao bs.length cap):=by rw[Zy D];rfl
 go_enter func55,ntmps55;go_wp2;go_ret;exact ⟨rfl,rfl⟩
theorem Im (Z:BT T) (B b:Nat) (bs:List Value) (c:Int) (w:Wq) (h:Lib.IsBuilder T 5 B b bs w) (ha:bs.length+1<=140737488355328) (hc:B<=w.heap.size):
 Calls prog 62 #[.pointer (some ⟨b,0,none⟩),.int .u8 c] w λe w'=>e= .returned .nilIface/\(Lib.BuilderAt T 5 B b (.pointer (some ⟨b,0,none⟩)) (bs++ [.int .u8 c]) w'/\Below B w w'):=by
 obtain ⟨i0,hi,U,V,X⟩:=YH G9;go_enter func62,ntmps62
 go_wp2_with (go_at_call 95;refine (VG Z B b bs _ h).mono ?_)
 rintro e w1 ⟨rfl,h1,F⟩;obtain ⟨Y,v,I,J,S⟩:=h1;have c0:w1.cell? ⟨b,0,none⟩=some (.pointer (some ⟨b,0,none⟩)):=by rw[Zy I];rfl
 have c1:w1.cell? ⟨b,1,none⟩=some v:=by rw[Zy I];rfl
 go_wp2_with (at_builtin;refine wpList_append_own _ rfl _ _ 94 rfl B 5 i0 (.int .u8 0) 1 1 underlying94 hi U V X rfl (by decide) _ _ _ rfl (J.alloc _) ⟨w1.heap.size,0,none⟩ 1 1 [.int .u8 c] rfl rfl ?c1 ?c2 ?c3 ?c4 ?c5 ?_)
 case c1=>
  intro j u K
  match j,K with
  |0,K=>simp at K;subst K;simp[Addr.add]
 case c2=>intro u hu;simp at hu;subst hu;rfl
 case c3=>unfold maxLen;omega
 case c4=>omega
 case c5=>have:=F.size;simp;omega
 intro v' w2 D A _;have R:b<w1.heap.size:=by
  rcases Y9 b w1.heap.size with Q|Q
  ·exact Q
  ·simp[Y3 Q] at I
 have H:w2.heap[b]? =some (.cells #[.pointer (some ⟨b,0,none⟩),v] T (0,0)):=by rw[A.block b (by simp;omega) (λe=>S e.symm),Lib.alloc_old w1 _ b R];exact I
 have d0:w2.cell? ⟨b,0,none⟩=some (.pointer (some ⟨b,0,none⟩)):=by rw[Zy H];rfl
 have d1:w2.cell? ⟨b,1,none⟩=some v:=by rw[Zy H];rfl
 have f1:w2.frozen? ⟨b,1,none⟩=false:=Z5 H 1;obtain ⟨g,cap,rfl⟩:∃g cap,v'= .slice (some ⟨g,0,none⟩) (bs.length+1) cap:=by
  rcases D.2 with ⟨_,h0⟩|⟨g,cap,hb,hv,_⟩
  ·omega
  ·exact ⟨g,cap,hv⟩
 go_wp2;go_ret;refine ⟨rfl,?_,?_⟩
 ·exact Lib.BuilderAt.put (T:=T) (e:=5) Y H (bs':=bs++ [.int .u8 c]) (by simpa using D) Z.ne
 ·exact ((F.alloc (by have:=F.size;omega) _).grown A (by have:=F.size;simp;omega) (λk hk=>(J.lt k hk).1)).setCell (p:=⟨b,1,none⟩) Y _
theorem Kj (Z:BT T) (B b:Nat) (bs:List Value) (s:ByteArray) (w:Wq) (h:Lib.IsBuilder T 5 B b bs w) (ha:bs.length+s.size<=140737488355328) (hc:B<=w.heap.size):
 Calls prog 54 #[.pointer (some ⟨b,0,none⟩),.string s] w λe w'=>e= .returned (.tuple #[nI s.size,.nilIface])/\(Lib.BuilderAt T 5 B b (.pointer (some ⟨b,0,none⟩)) (bs++Lib.strCells s) w'/\Below B w w'):=by
 obtain ⟨i0,hi,U,V,X⟩:=YH G9;go_enter func54,ntmps54
 go_wp2_with (go_at_call 95;refine (VG Z B b bs _ h).mono ?_)
 rintro e w1 ⟨rfl,h1,J⟩;obtain ⟨Y,v,H,I,R⟩:=h1;have c0:w1.cell? ⟨b,0,none⟩=some (.pointer (some ⟨b,0,none⟩)):=by rw[Zy H];rfl
 have c1:w1.cell? ⟨b,1,none⟩=some v:=by rw[Zy H];rfl
 go_wp2_with (at_builtin;refine Lib.wpList_append_own_string _ rfl _ _ 94 9 rfl B 5 i0 underlying94 underlying9 hi U V X _ _ _ rfl I s rfl ?c3 ?c4 ?c5 ?_)
 case c3=>unfold maxLen;omega
 case c4=>omega
 case c5=>have:=J.size;omega
 intro v' w2 D A _;have Q:b<w1.heap.size:=by
  rcases Y9 b w1.heap.size with K|K
  ·exact K
  ·simp[Y3 K] at H
 have F:w2.heap[b]? =some (.cells #[.pointer (some ⟨b,0,none⟩),v] T (0,0)):=by rw[A.block b Q (λe=>R e.symm)];exact H
 have d0:w2.cell? ⟨b,0,none⟩=some (.pointer (some ⟨b,0,none⟩)):=by rw[Zy F];rfl
 have d1:w2.cell? ⟨b,1,none⟩=some v:=by rw[Zy F];rfl
 have f1:w2.frozen? ⟨b,1,none⟩=false:=Z5 F 1;obtain ⟨ao,n',cap,rfl⟩:∃ao n' cap,v'= .slice ao n' cap:=by
  rcases D.2 with ⟨S,_⟩|⟨g,cap,hb,S,_⟩
  ·exact ⟨_,_,_,S⟩
  ·exact ⟨_,_,_,S⟩
 go_wp2
 go_ret2
 refine ⟨rfl,?_,?_⟩
 ·exact Lib.BuilderAt.put (T:=T) (e:=5) Y F (bs':=bs++Lib.strCells s) (by simpa [Lib.strCells_length] using D) Z.ne
 ·exact (J.grown A (by have:=J.size;omega) (λk hk=>(I.lt k hk).1)).setCell (p:=⟨b,1,none⟩) Y _
theorem ZbA (hT:BT T) (B b:Nat) (l:List UInt8) (w:Wq) (h:Lib.IsBuilder T 5 B b (Lib.byteCells l) w) (R:l≠ []):
 Calls prog 56 #[.pointer (some ⟨b,0,none⟩)] w λe w'=>e= .returned (.string ⟨l.toArray⟩)/\Below B w w':=by
 obtain ⟨p,hB,v,H,D,Z⟩:∃p,Lib.BuilderAt T 5 B b p (Lib.byteCells l) w:=by
  rcases h with h|h
  ·exact ⟨_,h⟩
  ·exact ⟨_,h⟩
 have K:l.length≠0:=by simpa using R
 rw[Lib.byteCells_length] at D;obtain ⟨g,cap,A,rfl,F,X,Y,I,V,Q⟩:∃g cap A,v= .slice (some ⟨g,0,none⟩) l.length cap/\B<=g/\w.heap[g]? =some (.cells A 5 (0,0))/\l.length<=cap/\cap<=maxLen/\A.size=cap*1/\A.toList.take (l.length*1)=Lib.byteCells l:=by
  rcases D.2 with ⟨_,hz⟩|⟨g,cap,A,hv,r⟩
  ·exact absurd hz K
  ·exact ⟨g,cap,A,hv,r⟩
 have c1:w.drew.cell? ⟨b,1,none⟩=some (.slice (some ⟨g,0,none⟩) l.length cap):=by have:w.drew.heap[b]? =some (.cells #[p,.slice (some ⟨g,0,none⟩) l.length cap] T (0,0)):=H;rw[Zy this];rfl
 have S:(Builtin.unsafeSliceData_ #[94] 147 #[.slice (some ⟨g,0,none⟩) l.length cap]).run prog w.drew= .ok (.pointer (some ⟨g,0,none⟩)) w.drew:=
  Lib.run_unsafeSliceData_row _ _ _ _ _ _ om
 have U:(Builtin.unsafeString_ #[147,3] 9 #[.pointer (some ⟨g,0,none⟩),nI l.length]).run prog w.drew= .ok (.string ⟨l.toArray⟩) (w.drew.freeze ⟨g,0,none⟩ l.length):=by refine Lib.run_unsafeString_row w.drew 147 3 9 5 underlying147 Zmo g A.size (by have J:w.drew.heap[g]? =some (.cells A 5 (0,0)):=X;simp[World.shape?,J]) l R om (by unfold maxLen at I;omega) ?_;intro j x hx;have:=D.cells (g:=g) rfl j (.int .u8 x.toNat) (by simp[Lib.byteCells,hx]);exact this
 go_enter func56,ntmps56;go_wp2
 go_region
 all_goals (go_wp2;go_ret;exact ⟨rfl,Lib.below_freeze (Below.drew (Zdg B w)) (p:=⟨g,0,none⟩) F _⟩)
theorem Ul (h:BT T) (W:Wq) (q:Option Addr):(Builtin.unsafeString_ #[147,3] 9 #[.pointer q,nI 0]).run prog W= .ok (.string .empty) W:=
 Lib.run_unsafeString_none W _ _ _ q
theorem KH (D:BT T) (B b:Nat) (p:Value) (w:Wq) (h:w.heap[b]? =some (.cells #[p,sN] T (0,0))):
 Calls prog 56 #[.pointer (some ⟨b,0,none⟩)] w λe w'=>e= .returned eS/\Below B w w':=by
 have F:=Ul D;have c1:w.drew.cell? ⟨b,1,none⟩=some sN:=by have:w.drew.heap[b]? =some (.cells #[p,sN] T (0,0)):=h;rw[Zy this];rfl
 have A:(Builtin.unsafeSliceData_ #[94] 147 #[sN]).run prog w.drew= .ok (.pointer none) w.drew:=rfl;go_enter func56,ntmps56;go_wp2
 go_region
 all_goals (go_wp2;go_ret;exact ⟨rfl,Below.drew (Zdg B w)⟩)
theorem Gc (K:BT T) (B b g:Nat) (p:Value) (h:Array Value) (w:Wq) (F:B<=w.heap.size) (A:w.heap[b]? =some (.cells #[p,.slice (some ⟨g,0,none⟩) 0 0] T (0,0))) (R:w.heap[g]? =some (.cells h 5 (0,0))):
 Calls prog 56 #[.pointer (some ⟨b,0,none⟩)] w λe w'=>e= .returned eS/\Below B w w':=by
 have Q:=Ul K;have I:b<w.heap.size:=by
  rcases Y9 b w.heap.size with D|D
  ·exact D
  ·simp[Y3 D] at A
 have c1:w.drew.cell? ⟨b,1,none⟩=some (.slice (some ⟨g,0,none⟩) 0 0):=by have:w.drew.heap[b]? =some (.cells #[p,.slice (some ⟨g,0,none⟩) 0 0] T (0,0)):=A;rw[Zy this];rfl
 have J:(Builtin.unsafeSliceData_ #[94] 147 #[.slice (some ⟨g,0,none⟩) 0 0]).run prog w.drew= .ok (.pointer (some ⟨w.drew.heap.size,0,none⟩)) (w.drew.alloc (.view ⟨g,0,none⟩ 5)):=
  Lib.run_unsafeSliceData_zero w.drew _ _ 5 underlying147 ⟨g,0,none⟩ 0 (5,h.size) (by have H:w.drew.heap[g]? =some (.cells h 5 (0,0)):=R;simp[World.shape?,H])
 have c2:(w.drew.alloc (.view ⟨g,0,none⟩ 5)).cell? ⟨b,1,none⟩=some (.slice (some ⟨g,0,none⟩) 0 0):=by have:(w.drew.alloc (.view ⟨g,0,none⟩ 5)).heap[b]? =_:=(Lib.alloc_old w.drew _ b I).trans A;rw[Zy this];rfl
 have c3:(w.alloc (.view ⟨g,0,none⟩ 5)).drew.cell? ⟨b,1,none⟩=some (.slice (some ⟨g,0,none⟩) 0 0):=c2;have c0:w.cell? ⟨b,1,none⟩=some (.slice (some ⟨g,0,none⟩) 0 0):=c1;go_enter func56,ntmps56;go_wp2
 go_region
 all_goals (go_wp2;go_ret;exact ⟨rfl,(Below.drew (Zdg B w)).alloc F _⟩)
theorem Ki (F:BT T) (B b g cap:Nat) (p:Value) (w:Wq) (h:cap≠0) (A:w.heap[b]? =some (.cells #[p,.slice (some ⟨g,0,none⟩) 0 cap] T (0,0))):
 Calls prog 56 #[.pointer (some ⟨b,0,none⟩)] w λe w'=>e= .returned eS/\Below B w w':=by
 have H:=Ul F;have c1:w.drew.cell? ⟨b,1,none⟩=some (.slice (some ⟨g,0,none⟩) 0 cap):=by have:w.drew.heap[b]? =some (.cells #[p,.slice (some ⟨g,0,none⟩) 0 cap] T (0,0)):=A;rw[Zy this];rfl
 have D:(Builtin.unsafeSliceData_ #[94] 147 #[.slice (some ⟨g,0,none⟩) 0 cap]).run prog w.drew= .ok (.pointer (some ⟨g,0,none⟩)) w.drew:=
  Lib.run_unsafeSliceData_row _ _ _ _ _ _ h
 clear h;go_enter func56,ntmps56;go_wp2
 go_region
 all_goals (go_wp2;go_ret;exact ⟨rfl,Below.drew (Zdg B w)⟩)
theorem Ge (J:BT T) (B b:Nat) (w:Wq) (h:Lib.IsBuilder T 5 B b [] w) (I:B<=w.heap.size):
 Calls prog 56 #[.pointer (some ⟨b,0,none⟩)] w λe w'=>e= .returned eS/\Below B w w':=by
 obtain ⟨p,S,v,A,F,R⟩:∃p,Lib.BuilderAt T 5 B b p [] w:=by
  rcases h with h|h
  ·exact ⟨_,h⟩
  ·exact ⟨_,h⟩
 rcases F.2 with ⟨rfl,_⟩|⟨g,cap,H,rfl,K,Q,_,_,_,_⟩
 ·exact KH J B b p w A
 ·by_cases D:cap=0
  ·subst D;exact Gc J B b g p H w I A Q
  ·exact Ki J B b g cap p w D A
theorem KG (D:BT T) (B b:Nat) (l:List UInt8) (w:Wq) (h:Lib.IsBuilder T 5 B b (Lib.byteCells l) w) (A:B<=w.heap.size):
 Calls prog 56 #[.pointer (some ⟨b,0,none⟩)] w λe w'=>e= .returned (.string ⟨l.toArray⟩)/\Below B w w':=by
 cases l with
 |nil=>exact Ge D B b w h A
 |cons x r=>exact ZbA D B b (x::r) w h (by simp)
end
section
variable {T:TypeId}
theorem ZbU (s:ByteArray) (w:Wq) (h:Env w):Calls prog 216 #[.string s] w λe w'=>e= .returned (.tuple #[.int .i32 (Lib.decodeGo s).1,nI (Lib.decodeGo s).2])/\Ext w w':=
 utf8_DecodeRuneInString s w h.utf8
theorem Ze3 (A:BT T) (B b:Nat) (bs:List Value) (w:Wq) (h:Lib.IsBuilder T 5 B b bs w):
 Calls prog 55 #[.pointer (some ⟨b,0,none⟩)] w λe w'=>e= .returned (nI bs.length)/\w'=w:=ZfU A B b bs w h
theorem JZ (J:BT T) (B b:Nat) (bs:List Value) (c:Int) (w:Wq) (h:Lib.IsBuilder T 5 B b bs w) (A:bs.length+1<=140737488355328) (D:B<=w.heap.size):
 Calls prog 62 #[.pointer (some ⟨b,0,none⟩),.int .u8 c] w λe w'=>e= .returned .nilIface/\(Lib.IsBuilder T 5 B b (bs++ [.int .u8 c]) w'/\Below B w w'):=
 (Im J B b bs c w h A D).mono λ_ _ ⟨F,H,I⟩=>⟨F,Or.inr H,I⟩
theorem XM (J:BT T) (B b:Nat) (bs:List Value) (s:ByteArray) (w:Wq) (h:Lib.IsBuilder T 5 B b bs w) (A:bs.length+s.size<=140737488355328) (D:B<=w.heap.size):
 Calls prog 54 #[.pointer (some ⟨b,0,none⟩),.string s] w λe w'=>e= .returned (.tuple #[nI s.size,.nilIface])/\(Lib.IsBuilder T 5 B b (bs++Lib.byteCells s.data.toList) w'/\Below B w w'):=
 (Kj J B b bs s w h A D).mono λ_ _ ⟨F,H,I⟩=>⟨F,Or.inr H,I⟩
theorem Q7 (D:BT T) (B b:Nat) (l:List UInt8) (w:Wq) (h:Lib.IsBuilder T 5 B b (Lib.byteCells l) w) (A:B<=w.heap.size):
 Calls prog 56 #[.pointer (some ⟨b,0,none⟩)] w λe w'=>e= .returned (.string (str l))/\Below B w w':=KG D B b l w h A
theorem ZbK (B b:Nat) (bs:List Value) (w:Wq) (h:Lib.IsBuilder 96 5 B b bs w):
 Calls prog 55 #[.pointer (some ⟨b,0,none⟩)] w λe w'=>e= .returned (nI bs.length)/\w'=w:=Ze3 Qe B b bs w h
theorem Jc (B b:Nat) (bs:List Value) (c:Int) (w:Wq) (h:Lib.IsBuilder 96 5 B b bs w) (A:bs.length+1<=140737488355328) (D:B<=w.heap.size):
 Calls prog 62 #[.pointer (some ⟨b,0,none⟩),.int .u8 c] w λe w'=>e= .returned .nilIface/\(Lib.IsBuilder 96 5 B b (bs++ [.int .u8 c]) w'/\Below B w w'):=JZ Qe B b bs c w h A D
theorem Xo (B b:Nat) (bs:List Value) (s:ByteArray) (w:Wq) (h:Lib.IsBuilder 96 5 B b bs w) (A:bs.length+s.size<=140737488355328) (D:B<=w.heap.size):
 Calls prog 54 #[.pointer (some ⟨b,0,none⟩),.string s] w λe w'=>e= .returned (.tuple #[nI s.size,.nilIface])/\(Lib.IsBuilder 96 5 B b (bs++Lib.byteCells s.data.toList) w'/\Below B w w'):=XM Qe B b bs s w h A D
theorem JD (B b:Nat) (l:List UInt8) (w:Wq) (h:Lib.IsBuilder 96 5 B b (Lib.byteCells l) w) (A:B<=w.heap.size):
 Calls prog 56 #[.pointer (some ⟨b,0,none⟩)] w λe w'=>e= .returned (.string (str l))/\Below B w w':=Q7 Qe B b l w h A
end
theorem Zge (s:ByteArray) (D:s.data.toList≠ []):Lib.decodeGo s=Lib.decodeL s.data.toList:=by
 unfold Lib.decodeGo Lib.decodeL;have A:s.size≠0:=by intro h;apply D;apply Zm;simpa using h
 rw[Ze A]
theorem Gx (t:ByteArray) (k:Nat):(t.extract k t.size).data.toList=t.data.toList.drop k:=by
 simp[ZQ]
theorem Zo9 (s:ByteArray) (k:Nat) (A:k<s.size):Lib.decodeGo (s.extract k s.size)=Lib.decodeL (s.data.toList.drop k):=by
 rw[Zge,Gx];rw[Gx];intro h;have:=Zz List.length h;simp at this;have:s.data.size=s.size:=rfl;omega
def decVal (d:Nat×Nat):Value:= .tuple #[.int .i32 (d.1:Nat),nI (d.2:Nat)]
theorem Ky (s:ByteArray) (k:Nat) (w:Wq) (U:Env w) (V:k<s.size) (X:s.size<=maxLen):
 Calls prog 188 #[.string s,nI (k:Nat)] w λe w'=>e= .returned (decVal (dec (s.data.toList.drop k)))/\Ext w w':=by
 have J:=Zo9 s k V;have F:s.data.toList.drop k≠ []:=by intro h;have:=Zz List.length h;simp at this;have:s.data.size=s.size:=rfl;omega
 obtain ⟨R,H⟩:∃R,(Lib.decodeL (s.data.toList.drop k)).1=R:=⟨_,rfl⟩;obtain ⟨K,hK⟩:∃K,(Lib.decodeL (s.data.toList.drop k)).2=K:=⟨_,rfl⟩;have hc:=ZbU (s.extract k s.size) w U;rw[J,H,hK] at hc;have A:dec (s.data.toList.drop k)=if R=65533/\K=1 then (0,0) else (R,K):=by unfold dec;rw[Ze F,H,hK,<-H,<-hK]
 rw[A];clear A hK H F J;unfold maxLen at X;have Q:=gd hc;clear hc;by_cases D:R=65533/\K=1;obtain ⟨rfl,rfl⟩:=D
 rotate_left
 by_cases I:R=65533;have Z:((K:Int)==1)=false:=by rw[Zv];omega
 have S:((R:Int)==65533)=true:=by simp[I]
 have A:(if R=65533/\K=1 then ((0,0):Nat×Nat) else (R,K))=(R,K):=Ze D;rw[A];clear A D I
 rotate_left
 have S:((R:Int)==65533)=false:=by rw[Zv];omega
 have A:(if R=65533/\K=1 then ((0,0):Nat×Nat) else (R,K))=(R,K):=Ze D;rw[A];clear A D I
 all_goals
  go_enter func188,ntmps188
  go_wp2_with (go_at_call 216;refine (Q.out).mono ?_;rintro e w' ⟨rfl,Y⟩)
  all_goals go_ret2
  all_goals exact ⟨rfl,Y⟩
theorem ZN (s:ByteArray):s.data.toList.length=s.size:=rfl
theorem V6 (s:ByteArray) (w:Wq) (hE:Env w) (hs:s.size<=maxLen):
 Calls prog 150 #[.string s] w λe w'=>e= .returned (.tuple #[nI ((checkS s).1:Nat),nI ((checkS s).2:Nat)])/\Ext w w':=by
 have hd:=hs;unfold maxLen at hs;go_enter func150,ntmps150;go_wp2;go_loopw [4,5,6] (λv _ _ wr=>∃k:Nat,k<=s.size/\v=nI k/\Hid (checkS s=checkGo s.data.toList.length k (s.data.toList.drop k))/\Ext w wr) (λv _ _ _=>s.size - (intOf v).toNat)
 case atStart=>exact ⟨0,Zj _,rfl,rfl,Ext.refl _⟩
 case round=>
  obtain ⟨k,hk,rfl,hc,Y⟩:=hrel;by_cases V:k<s.size
  ·have X:=Zf4 s.data.toList k (by rw[ZN];exact V);have U:=Ug (s.data.toList.drop k);rw[Zk,ZN] at U;have D:=Ky s k wr (hE.ext Y) V hd;unfold decVal at D;have I:=hc.out.trans X;clear hc X;obtain ⟨R,hR⟩:∃R,(dec (s.data.toList.drop k)).1=R:=⟨_,rfl⟩;obtain ⟨K,hK⟩:∃K,(dec (s.data.toList.drop k)).2=K:=⟨_,rfl⟩;rw[hR,hK] at D I;rw[hK] at U;clear hR hK;have Z:=gd D;have J:=gd I;clear D I;by_cases h0:K=0
   ·subst h0;have A:=J.out;rw[Zi rfl] at A;have Q:=gd A;clear A J
    go_wp2_with (first|(go_at_call 188;refine (Z.out).mono ?_;rintro e w' ⟨rfl,F⟩))
    go_ret2
    exact ⟨by rw[Q.out];rfl,Y.trans F⟩
   ·have hb:((K:Int)==0)=false:=(by rw[Zv];omega);by_cases H:isChar R=false
    ·have A:=J.out;rw[Ze h0,Zi H] at A;have Q:=gd A;clear A J
     go_wp2_with (first|(go_at_call 188;refine (Z.out).mono ?_;rintro e w' ⟨rfl,F⟩)|(go_at_call 189;refine (GN _ _).mono ?_;rintro e w' ⟨rfl,rfl⟩))
     go_ret2
     exact ⟨by rw[Q.out];rfl,Y.trans F⟩
    ·have he:isChar R=true:=(by simpa using H);have ha:Hid (checkS s=checkGo s.data.toList.length (k+K) (s.data.toList.drop (k+K))):=(by have h:=J.out;rw[Ze h0,Ze H] at h;exact h);clear J H
     go_wp2_with (first|(go_at_call 188;refine (Z.out).mono ?_;rintro e w' ⟨rfl,F⟩)|(go_at_call 189;refine (GN _ _).mono ?_;rintro e w' ⟨rfl,rfl⟩))
     go_roundw
     case rel=>exact ⟨k+K,om,by go_num,ha,Y.trans F⟩
     case measure=>simp[intOf];omega
  ·have S:k=s.size:=om;have A:checkS s=(s.size,0):=(by rw[hc.out,ZdK _ _ (by rw[ZN];omega),S]);have Q:=gd A;clear A hc S;go_wp2
   go_ret2
   exact ⟨by rw[Q.out];rfl,Y⟩
theorem ZdN (l out:List UInt8) (g:Bool) (k:Nat) (h:k<l.length):collGo (l.drop k) out g=if isSp (l[k]).toNat then collGo (l.drop (k+1)) out (!out.isEmpty) else collGo (l.drop (k+1)) (out++(if g then [32] else [])++ [l[k]]) false:=by
 rw[Zl h];rfl
theorem Yl (a b:List UInt8):Lib.byteCells (a++b)=Lib.byteCells a++Lib.byteCells b:=by simp[Lib.byteCells]
theorem YT (a:List UInt8):(Lib.byteCells a).length=a.length:=by simp[Lib.byteCells]
theorem ZjL (s:ByteArray) (out:List UInt8) (g:Bool) (k:Nat) (A:k<s.size) (h:isSp (s[k].toNat)=true):collGo (s.data.toList.drop k) out g=collGo (s.data.toList.drop (k+1)) out (!out.isEmpty):=by
 rw[ZdN _ _ _ k (by rw[ZN];exact A)];exact Zi h
theorem ZjK (s:ByteArray) (out:List UInt8) (g:Bool) (k:Nat) (A:k<s.size) (h:isSp (s[k].toNat)=false):collGo (s.data.toList.drop k) out g=collGo (s.data.toList.drop (k+1)) (out++(if g then [32] else [])++ [s[k]]) false:=by
 rw[ZdN _ _ _ k (by rw[ZN];exact A)];exact Ze (by rw[Bool.not_eq_true];exact h)
theorem ZqO (s:ByteArray) (w:Wq) (hs:s.size<=140737488351232):
 Calls prog 32 #[.string s] w λe w'=>e= .returned (.string (collapse s))/\Ext w w':=by
 go_enter func32,ntmps32;go_wp2;go_loopw [4,5,8] (λv _ i wr=>∃(k:Nat) (out:List UInt8) (g:Bool),k<=s.size/\i=nI k/\v= .bool g/\out.length+(if g then 1 else 0)<=k/\
  Lib.IsBuilder 96 5 w.heap.size w.heap.size (Lib.byteCells out) wr/\Hid (coll s.data.toList=collGo (s.data.toList.drop k) out g)/\Ext w wr) (λ_ _ i _=>s.size - (intOf i).toNat)
 case atStart=>exact ⟨0,[],false,Zj _,rfl,rfl,by simp,Lib.fresh_isBuilder _ _ _,rfl,(Ext.refl _).alloc _⟩
 case round=>
  obtain ⟨k,out,g,hk,rfl,rfl,h,K,hc,J⟩:=hrel;have H:=J.size;by_cases R:k<s.size
  ·by_cases F:isSp (s[k]).toNat=true
   ·have X:=gd (hc.out.trans (ZjL s out g k R F));have A:out.length<=k:=(by split at h<;>omega);have Q:decide (0<(Lib.byteCells out).length)= !out.isEmpty:=(by rw[YT];cases out<;>simp);have HG:=gd Q;clear hc Q h
    go_wp2_with (first|(go_at_call 61;refine (UU _ _).mono ?_;rintro e w' ⟨rfl,rfl⟩)|(go_at_call 55;refine (ZbK _ _ _ _ K).mono ?_;rintro e w' ⟨rfl,rfl⟩))
    go_roundw
    case rel=>exact ⟨k+1,out,!out.isEmpty,om,by go_num,by rw[HG.out],by split<;>omega,K,X,J⟩
    case measure=>simp[intOf];omega
   ·have S:isSp (s[k]).toNat=false:=(by simpa using F);have X:=gd (hc.out.trans (ZjK s out g k R S));clear hc F;cases g
    ·have A:out.length<=k:=(by simpa using h);clear h
     go_wp2_with (first|(go_at_call 61;refine (UU _ _).mono ?_;rintro e w' ⟨rfl,rfl⟩)|(go_at_call 62;refine (Jc _ _ _ _ _ K (by rw[YT];omega) H).mono ?_;rintro e w' ⟨rfl,Y,I⟩))
     go_roundw
     case rel=>exact ⟨k+1,out++ [s[k]],false,om,by go_num,rfl,by simp;omega,by rw[Yl];exact Y,by simpa using X,J.then I⟩
     case measure=>simp[intOf];omega
    ·have A:out.length+1<=k:=(by simpa using h);clear h
     go_wp2_with fail
     refine (UU _ _).mono ?_;rintro e w' ⟨rfl,rfl⟩
     go_wp2_with fail
     refine (Jc _ _ _ _ _ K (by rw[YT];omega) H).mono ?_;rintro e w1 ⟨rfl,Z,V⟩;have U:=(J.then V).size
     go_wp2_with fail
     refine (Jc _ _ _ _ _ Z (by simp[YT];omega) U).mono ?_;rintro e w2 ⟨rfl,ha,hd⟩
     go_wp2_with fail
     go_roundw
     case rel=>exact ⟨k+1,out++ [32]++ [s[k]],false,om,by go_num,rfl,by simp;omega,by rw[Yl,Yl];exact ha,by simpa using X,(J.then V).then hd⟩
     case measure=>simp[intOf];omega
  ·have hb:k=s.size:=om;have D:coll s.data.toList=out:=(by rw[hc.out,ZC (by rw[ZN];omega)];rfl);have HF:Hid (str out=collapse s):=(by unfold collapse;rw[D];rfl);clear D hc hb
   go_wp2_with (go_at_call 56;refine (JD _ _ _ _ K H).mono ?_;rintro e w' ⟨rfl,I⟩)
   go_ret;exact ⟨by rw[<-HF.out];rfl,J.then I⟩
theorem ZdA (s:ByteArray) (w:Wq) (X:Env w) (Y:s.size<=140737488351232):
 Calls prog 178 #[.string s] w λe w'=>e= .returned (.bool (validS s))/\Ext w w':=by
 have J:s.size<=maxLen:=by unfold maxLen;omega
 have A:=V6 s w X J;obtain ⟨K,hK⟩:∃K,(checkS s).2=K:=⟨_,rfl⟩;obtain ⟨R,I⟩:∃R,collapse s=R:=⟨_,rfl⟩;have D:validS s=(decide (K=0) && (R.data.toList==s.data.toList)):=by unfold validS;rw[hK,I]
 have h:=λw'=>ZqO s w' Y;rw[hK] at A;rw[I] at h;rw[D];clear D hK I;have S:=gd A;have U:=gd h;clear A h;by_cases H:K=0
 ·subst H;go_enter func178,ntmps178
  go_wp2_with (first|(go_at_call 150;refine (S.out).mono ?_;rintro e w' ⟨rfl,Q⟩)|(go_at_call 32;refine (U.out _).mono ?_;rintro e w' ⟨rfl,F⟩))
  go_ret;exact ⟨by simp[QT],Q.trans F⟩
 ·have Z:((K:Int)==0)=false:=by rw[Zv];omega
  have V:decide (K=0)=false:=by simp[H]
  rw[V];clear V H;go_enter func178,ntmps178
  go_wp2_with (first|(go_at_call 150;refine (S.out).mono ?_;rintro e w' ⟨rfl,Q⟩)|(go_at_call 32;refine (U.out _).mono ?_;rintro e w' ⟨rfl,F⟩))
  go_ret;exact ⟨by simp,Q⟩
def encN (r:Nat):List UInt8:=
 if 1114111<r\/(55296<=r/\r<=57343) then []
 else if r<128 then [UInt8.ofNat r]
 else if r<2048 then [UInt8.ofNat (192+r / 64),UInt8.ofNat (128+r % 64)]
 else if r<65536 then [UInt8.ofNat (224+r / 4096),UInt8.ofNat (128+r / 64 % 64),UInt8.ofNat (128+r % 64)]
 else [UInt8.ofNat (240+r / 262144),UInt8.ofNat (128+r / 4096 % 64),UInt8.ofNat (128+r / 64 % 64),UInt8.ofNat (128+r % 64)]
def accStart (n:Nat) (b:Nat):Nat:=if n=2 then b % 32 else if n=3 then b % 16 else if n=4 then b % 8 else b
def acc (n:Nat) (l:List UInt8):Nat->Nat
 |0=>accStart n (l.getD 0 0).toNat
 |i+1=>acc n l i*64+(l.getD (i+1) 0).toNat % 64
def refFrom:Nat->Nat->List UInt8->Nat×Nat
 |0,_,_=>(0,0)
 |k+1,n,l=>if n<=4/\n<=l.length then (if encN (acc n l (n - 1))=l.take n then (acc n l (n - 1),n) else refFrom k (n+1) l) else (0,0)
def refDec (l:List UInt8):Nat×Nat:=refFrom 4 1 l
theorem XJ (x:UInt8):x.toNat<256:=x.toNat_lt
theorem Ju (x:UInt8) (n:Nat) (h:n<256):UInt8.ofNat n=x↔n=x.toNat:=by
 constructor
 ·rintro rfl;simp[Nat.mod_eq_of_lt h]
 ·rintro rfl;simp
theorem Zon (a:UInt8):encN a.toNat= [a]↔a.toNat<128:=by
 have A:=XJ a;unfold encN;rw[Ze om];by_cases h:a.toNat<128
 ·rw[Zi h];simp[h]
 ·rw[Ze h,Zi om];simp[h]
theorem Zpa (a b:UInt8):encN (a.toNat % 32*64+b.toNat % 64)= [a,b]↔(a.toNat / 32=6/\b.toNat / 64=2)/\128<=a.toNat % 32*64+b.toNat % 64:=by
 have A:=XJ a;have D:=XJ b;unfold encN;rw[Ze om];by_cases h:a.toNat % 32*64+b.toNat % 64<128
 ·rw[Zi h];simp;omega
 ·rw[Ze h,Zi om];simp only[Xb,and_true];rw[Ju _ _ om,Ju _ _ om];omega
theorem ZpK (a b c:UInt8):encN ((a.toNat % 16*64+b.toNat % 64)*64+c.toNat % 64)= [a,b,c]↔(a.toNat / 16=14/\b.toNat / 64=2/\c.toNat / 64=2)/\
 2048<=(a.toNat % 16*64+b.toNat % 64)*64+c.toNat % 64/\((a.toNat % 16*64+b.toNat % 64)*64+c.toNat % 64<55296\/57344<=(a.toNat % 16*64+b.toNat % 64)*64+c.toNat % 64):=by
 have F:=XJ a;have H:=XJ b;have hc:=XJ c;unfold encN;generalize I:(a.toNat % 16*64+b.toNat % 64)*64+c.toNat % 64=r;by_cases A:1114111<r\/(55296<=r/\r<=57343)
 ·rw[Zi A];simp;omega
 ·rw[Ze A];by_cases h:r<128
  ·rw[Zi h];simp;omega
  ·rw[Ze h];by_cases D:r<2048
   ·rw[Zi D];simp;omega
   ·rw[Ze D,Zi om];simp only[Xb,and_true];rw[Ju _ _ om,Ju _ _ om,Ju _ _ om];omega
theorem ZpY (a b c d:UInt8):encN (((a.toNat % 8*64+b.toNat % 64)*64+c.toNat % 64)*64+d.toNat % 64)= [a,b,c,d]↔(a.toNat / 8=30/\b.toNat / 64=2/\c.toNat / 64=2/\d.toNat / 64=2)/\
 65536<=((a.toNat % 8*64+b.toNat % 64)*64+c.toNat % 64)*64+d.toNat % 64/\((a.toNat % 8*64+b.toNat % 64)*64+c.toNat % 64)*64+d.toNat % 64<=1114111:=by
 have H:=XJ a;have I:=XJ b;have hc:=XJ c;have J:=XJ d;unfold encN;generalize K:((a.toNat % 8*64+b.toNat % 64)*64+c.toNat % 64)*64+d.toNat % 64=r;by_cases A:1114111<r\/(55296<=r/\r<=57343)
 ·rw[Zi A];simp;omega
 ·rw[Ze A];by_cases h:r<128
  ·rw[Zi h];simp;omega
  ·rw[Ze h];by_cases D:r<2048
   ·rw[Zi D];simp;omega
   ·rw[Ze D];by_cases F:r<65536
    ·rw[Zi F];simp;omega
    ·rw[Ze F];simp only[Xb,and_true];rw[Ju _ _ om,Ju _ _ om,Ju _ _ om,Ju _ _ om];omega
theorem Ke (l:List UInt8) (A:l≠ []):refDec l=dec l:=by
 have F:1<=l.length:=Xt.2 A;unfold dec;rw[Ze A,UM]
 match l,A with
 | [a],_=>have h:=XJ a;simp[refDec,refFrom,acc,accStart,Lib.decodeN,Zon];split<;>simp;omega
 | [a,b],_=>
  have h:=XJ a;have D:=XJ b;simp[refDec,refFrom,acc,accStart,Lib.decodeN,Zon,Zpa]
  repeat' split
  all_goals (simp at*;try omega)
 | [a,b,c],_=>
  have h:=XJ a;have D:=XJ b;have hc:=XJ c;simp[refDec,refFrom,acc,accStart,Lib.decodeN,Zon,Zpa,ZpK]
  repeat' split
  all_goals (simp at*;try omega)
 |a::b::c::d::t,_=>
  have h:=XJ a;have D:=XJ b;have hc:=XJ c;have H:=XJ d;simp[refDec,refFrom,acc,accStart,Lib.decodeN,Zon,Zpa,ZpK,ZpY]
  repeat' split
  all_goals (simp at*;try omega)
theorem Qw (w:Wq) (xs:List Int) (n:Nat) (h:xs.length=n):
 (convert 94 9 (.slice (some ⟨w.heap.size,0,none⟩) n n)).run prog (w.alloc (.cells (xs.map (Value.int .u8)).toArray 5))= .ok (.string (strOfNums xs)) (w.alloc (.cells (xs.map (Value.int .u8)).toArray 5)):=by
 refine run_convert_bytes_arg _ _ 5 underlying94 underlying5 _ 0 n n xs h (λi A=> ?_) _ underlying9;have:=Zg w (.cells (xs.map (Value.int .u8)).toArray 5);rw[YI,Zy this];simp[Zh (show i<xs.length by omega),List.getD]
theorem ZoY (w:Wq) (a:Int):(convert 94 9 (.slice (some ⟨w.heap.size,0,none⟩) 1 1)).run prog (w.alloc (.cells #[.int .u8 a] 5))= .ok (.string (strOfNums [a])) (w.alloc (.cells #[.int .u8 a] 5)):=Qw w [a] 1 rfl
theorem ZoZ (w:Wq) (a b:Int):(convert 94 9 (.slice (some ⟨w.heap.size,0,none⟩) 2 2)).run prog (w.alloc (.cells #[.int .u8 a,.int .u8 b] 5))= .ok (.string (strOfNums [a,b])) (w.alloc (.cells #[.int .u8 a,.int .u8 b] 5)):=Qw w [a,b] 2 rfl
theorem ZpH (w:Wq) (a b c:Int):(convert 94 9 (.slice (some ⟨w.heap.size,0,none⟩) 3 3)).run prog (w.alloc (.cells #[.int .u8 a,.int .u8 b,.int .u8 c] 5))= .ok (.string (strOfNums [a,b,c])) (w.alloc (.cells #[.int .u8 a,.int .u8 b,.int .u8 c] 5)):=Qw w [a,b,c] 3 rfl
theorem ZpI (w:Wq) (a b c d:Int):(convert 94 9 (.slice (some ⟨w.heap.size,0,none⟩) 4 4)).run prog (w.alloc (.cells #[.int .u8 a,.int .u8 b,.int .u8 c,.int .u8 d] 5))= .ok (.string (strOfNums [a,b,c,d])) (w.alloc (.cells #[.int .u8 a,.int .u8 b,.int .u8 c,.int .u8 d] 5)):=Qw w [a,b,c,d] 4 rfl
theorem Ql (xs:List Int):strOfNums xs=str (xs.map λn=>UInt8.ofNat n.toNat):=rfl
theorem ZhO (s:ByteArray) (k n:Nat) (m:Int) (D:m=n) (h:k+n<=s.size) (A:Wq):
 (Instr.slice 9 (.string s) (some (nI (k:Nat))) (some (nI ((k:Nat)+m))) none).run prog A= .ok (.string (s.extract k (k+n))) A:=by
 subst D;rw[run_slice_string (P:=prog) (w:=A) 9 s .i64 .i64 _ _ underlying9 om om om];rw[show ((k:Int)+(n:Int)).toNat=k+n by omega,show ((k:Nat):Int).toNat=k by omega]
theorem XK (s:ByteArray) (k n:Nat):(s.extract k (k+n)).data.toList=(s.data.toList.drop k).take n:=by
 simp[Nat.add_sub_cancel_left]
theorem Zj4 (L:List UInt8) (t:ByteArray):((str L).toList==t.toList)=decide (L=t.data.toList):=by
 rw[QT,Z3,Y2];simp
section
attribute [local go_sem] ZoY ZoZ ZpH ZpI
theorem Kr (r:Nat) (w:Wq) (D:r<4294967296):
 Calls prog 181 #[nI (r:Nat)] w λe w'=>e= .returned (.string (str (encN r)))/\Ext w w':=by
 obtain ⟨L,A⟩:∃L,encN r=L:=⟨_,rfl⟩;rw[A];obtain ⟨x,h⟩:∃x:Int,(r:Int)=x:=⟨_,rfl⟩;rw[h];have J:0<=x:=om
 have K:x<4294967296:=om
 have H:=gd h;have I:=gd D;have F:=gd A;clear h D A;go_enter func181,ntmps181;go_wp2
 all_goals go_ret
 all_goals (refine ⟨Zz (λl=>Ending.returned (.string l)) ?_,by repeat (first|exact Ext.refl _|apply Ext.alloc)⟩)
 all_goals have h:=H.out
 all_goals (rw[<-F.out];unfold encN)
 all_goals first|(rw[Zi om];rfl)|(rw[Ze om,Ze om,Ze om,Zi om];simp only[Ql,Zw,Z2,show (224+x / 4096).toNat=224+r / 4096 by omega,show (128+x / 64 % 64).toNat=128+r / 64 % 64 by omega,show (128+x % 64).toNat=128+r % 64 by omega])|(rw[Ze om,Ze om,Ze om,Ze om];simp only[Ql,Zw,Z2,show (240+x / 262144).toNat=240+r / 262144 by omega,show (128+x / 4096 % 64).toNat=128+r / 4096 % 64 by omega,show (128+x / 64 % 64).toNat=128+r / 64 % 64 by omega,show (128+x % 64).toNat=128+r % 64 by omega])|(rw[Ze om,Zi om];simp only[Ql,Zw,Z2,show x.toNat=r by omega])|(rw[Ze om,Ze om,Zi om];simp only[Ql,Zw,Z2,show (192+x / 64).toNat=192+r / 64 by omega,show (128+x % 64).toNat=128+r % 64 by omega])
theorem UG (x:Int) (w:Wq) (A:0<=x) (D:x<4294967296):
 Calls prog 181 #[nI x] w λe w'=>e= .returned (.string (str (encN x.toNat)))/\Ext w w':=by
 have h:=Kr x.toNat w om
 rwa [Int.toNat_of_nonneg A] at h
end
theorem Ue (x:UInt8):(x.toNat:Int)<256:=by have:=XJ x;omega
theorem UE (s:ByteArray) (k i:Nat) (h:k+i<s.size):(s.data.toList.drop k).getD i 0=s[k+i]:=by
 rw[ZZ,List.getElem?_drop,Zh (by rw[ZN];exact h)];rfl
theorem Zbw (s:ByteArray) (k n:Nat) (I:1<=n) (A:n<=4) (J:k+n<=s.size) (x:Int) (H:acc n (s.data.toList.drop k) (n - 1)=x.toNat)
 (D:dec (s.data.toList.drop k)=refFrom (5 - n) n (s.data.toList.drop k)) (h:((str (encN x.toNat)).toList==(s.extract k (k+n)).toList)=true):dec (s.data.toList.drop k)=(x.toNat,n):=by
 rw[Zj4,XK,ZT] at h;obtain ⟨m,F⟩:∃m,5 - n=m+1:=⟨4 - n,om⟩;rw[D,F,refFrom,Zi ⟨A,by rw[Zk,ZN];omega⟩,H,Zi h]
theorem ZfJ (s:ByteArray) (k n:Nat) (J:1<=n) (F:n<=4) (K:k+n<=s.size) (x:Int) (I:acc n (s.data.toList.drop k) (n - 1)=x.toNat)
 (D:dec (s.data.toList.drop k)=refFrom (5 - n) n (s.data.toList.drop k)) (A:((str (encN x.toNat)).toList==(s.extract k (k+n)).toList)=false):Hid (dec (s.data.toList.drop k)=refFrom (5 - (n+1)) (n+1) (s.data.toList.drop k)):=by
 rw[Zj4,XK,X9] at A;obtain ⟨m,H⟩:∃m,5 - n=m+1:=⟨4 - n,om⟩;have h:5 - (n+1)=m:=om
 rw[h];rw[H,refFrom,Zi ⟨F,by rw[Zk,ZN];omega⟩,I,Ze A] at D;exact D
theorem U7 (s:ByteArray) (k:Nat) (w:Wq) (hk:k<s.size) (hs:s.size<=maxLen):
 Calls prog 139 #[.string s,nI (k:Nat)] w λe w'=>e= .returned (.tuple #[nI ((dec (s.data.toList.drop k)).1:Nat),nI ((dec (s.data.toList.drop k)).2:Nat)])/\Ext w w':=by
 unfold maxLen at hs;have hb:s.data.toList.drop k≠ []:=by intro h;have:=Zz List.length h;rw[Zk,ZN] at this;simp at this;omega
 have Y:Hid (dec (s.data.toList.drop k)=refFrom 4 1 (s.data.toList.drop k)):=(Ke _ hb).symm;clear hb;obtain ⟨l,U⟩:∃l,s.data.toList.drop k=l:=⟨_,rfl⟩;have HL:=gd U;rw[U] at Y|-;clear U;have he:decide (s.size<=k)=false:=by simp;omega
 have hc:decide ((k:Int)<0)=false:=by simp
 go_enter func139,ntmps139;go_wp2;go_loopw [6,7,8] (λv _ _ wr=>∃n:Nat,1<=n/\n<=5/\k+n<=s.size+1/\v=nI n/\Hid (dec l=refFrom (5 - n) n l)/\Ext w wr) (λv _ _ _=>5 - (intOf v).toNat)
 case atStart=>exact ⟨1,om,om,om,rfl,Y,Ext.refl _⟩
 case round=>
  obtain ⟨n,h1,h5,hn,rfl,V,S⟩:=hrel;clear Y he hc;by_cases ha:n<=4/\k+n<=s.size
  ·obtain ⟨h4,H⟩:=ha;have X:n=1\/n=2\/n=3\/n=4:=om;rcases X with rfl|rfl|rfl|rfl
   ·clear h1 h5 h4 hn;have b0:=Ue (s[k]'(om));have D:Hid (acc 1 (s.data.toList.drop k) (1 - 1)=(s[k].toNat:Int).toNat):=(by show _=_;simp only[acc,accStart,show 1 - 1=0 from rfl,UE s k 0 om];simp);go_wp2;refine Jo 1 ?_;rw[rounds_succ];go_wp2;have J:(k:Int)+1<=s.size:=om;have I:0<=(k:Int)+1:=om;have K:(k:Int)<=(k:Int)+1:=om;have Q:IntKind.i64.wrap ((k:Int)+1)=(k:Int)+1:=IntWalk.i64_in _ om;have R:((k:Int)+1).toNat=k+1:=om
    go_region_with (go_at_call 181;refine (UG _ _ om om).mono ?_;rintro e w' ⟨rfl,F⟩)
    clear J I K Q R;go_wp2
    all_goals have Z:((str (encN (s[k].toNat:Int).toNat)).toList==(s.extract k (k+1)).toList)=true\/((str (encN (s[k].toNat:Int).toNat)).toList==(s.extract k (k+1)).toList)=false:=by first|exact Or.inl ‹_› |exact Or.inr ‹_›
    all_goals have U:=HL.out
    all_goals subst U
    all_goals first|(have A:=Zbw s k 1 om om H _ D.out V.out ‹_›;go_ret2;exact ⟨by rw[A];exact Zbx (by simp only[];omega) rfl,(S.drew).trans F⟩)|(have A:=ZfJ s k 1 om om H _ D.out V.out ‹_›;go_roundw;(case rel=>(first|exact ⟨1+1,om,om,om,rfl,A,(S.drew).trans F⟩|((repeat apply Gf);exact ⟨⟨1+1,om,om,om,rfl,A,(S.drew).trans F⟩,rfl⟩)));(case measure=>simp[intOf]))
   ·clear h1 h5 h4 hn;have b0:=Ue (s[k]'(om));have b1:=Ue (s[k+1]'(om));have D:Hid (acc 2 (s.data.toList.drop k) (2 - 1)=((s[k].toNat:Int) % 32*64+(s[k+1].toNat:Int) % 64).toNat):=(by show _=_;simp only[acc,accStart,show 2 - 1=1 from rfl,UE s k 0 om,UE s k 1 om];simp;omega);go_wp2;refine Jo 2 ?_;rw[rounds_succ];go_wp2;rw[rounds_succ];go_wp2;have J:(k:Int)+2<=s.size:=om;have I:0<=(k:Int)+2:=om;have K:(k:Int)<=(k:Int)+2:=om;have Q:IntKind.i64.wrap ((k:Int)+2)=(k:Int)+2:=IntWalk.i64_in _ om;have R:((k:Int)+2).toNat=k+2:=om
    go_region_with (go_at_call 181;refine (UG _ _ om om).mono ?_;rintro e w' ⟨rfl,F⟩)
    clear J I K Q R;go_wp2
    all_goals have Z:((str (encN ((s[k].toNat:Int) % 32*64+(s[k+1].toNat:Int) % 64).toNat)).toList==(s.extract k (k+2)).toList)=true\/((str (encN ((s[k].toNat:Int) % 32*64+(s[k+1].toNat:Int) % 64).toNat)).toList==(s.extract k (k+2)).toList)=false:=by first|exact Or.inl ‹_› |exact Or.inr ‹_›
    all_goals have U:=HL.out
    all_goals subst U
    all_goals first|(have A:=Zbw s k 2 om om H _ D.out V.out ‹_›;go_ret2;exact ⟨by rw[A];exact Zbx (by simp only[];omega) rfl,(S.drew).trans F⟩)|(have A:=ZfJ s k 2 om om H _ D.out V.out ‹_›;go_roundw;(case rel=>(first|exact ⟨2+1,om,om,om,rfl,A,(S.drew).trans F⟩|((repeat apply Gf);exact ⟨⟨2+1,om,om,om,rfl,A,(S.drew).trans F⟩,rfl⟩)));(case measure=>simp[intOf]))
   ·clear h1 h5 h4 hn;have b0:=Ue (s[k]'(om));have b1:=Ue (s[k+1]'(om));have b2:=Ue (s[k+2]'(om));have D:Hid (acc 3 (s.data.toList.drop k) (3 - 1)=(((s[k].toNat:Int) % 16*64+(s[k+1].toNat:Int) % 64)*64+(s[k+2].toNat:Int) % 64).toNat):=(by show _=_;simp only[acc,accStart,show 3 - 1=2 from rfl,UE s k 0 om,UE s k 1 om,UE s k 2 om];simp;omega);go_wp2;refine Jo 3 ?_;rw[rounds_succ];go_wp2;rw[rounds_succ];go_wp2;rw[rounds_succ];go_wp2;have J:(k:Int)+3<=s.size:=om;have I:0<=(k:Int)+3:=om;have K:(k:Int)<=(k:Int)+3:=om;have Q:IntKind.i64.wrap ((k:Int)+3)=(k:Int)+3:=IntWalk.i64_in _ om;have R:((k:Int)+3).toNat=k+3:=om
    go_region_with (go_at_call 181;refine (UG _ _ om om).mono ?_;rintro e w' ⟨rfl,F⟩)
    clear J I K Q R;go_wp2
    all_goals have Z:((str (encN (((s[k].toNat:Int) % 16*64+(s[k+1].toNat:Int) % 64)*64+(s[k+2].toNat:Int) % 64).toNat)).toList==(s.extract k (k+3)).toList)=true\/((str (encN (((s[k].toNat:Int) % 16*64+(s[k+1].toNat:Int) % 64)*64+(s[k+2].toNat:Int) % 64).toNat)).toList==(s.extract k (k+3)).toList)=false:=by first|exact Or.inl ‹_› |exact Or.inr ‹_›
    all_goals have U:=HL.out
    all_goals subst U
    all_goals first|(have A:=Zbw s k 3 om om H _ D.out V.out ‹_›;go_ret2;exact ⟨by rw[A];exact Zbx (by simp only[];omega) rfl,(S.drew).trans F⟩)|(have A:=ZfJ s k 3 om om H _ D.out V.out ‹_›;go_roundw;(case rel=>(first|exact ⟨3+1,om,om,om,rfl,A,(S.drew).trans F⟩|((repeat apply Gf);exact ⟨⟨3+1,om,om,om,rfl,A,(S.drew).trans F⟩,rfl⟩)));(case measure=>simp[intOf]))
   ·clear h1 h5 h4 hn;have b0:=Ue (s[k]'(om));have b1:=Ue (s[k+1]'(om));have b2:=Ue (s[k+2]'(om));have b3:=Ue (s[k+3]'(om));have D:Hid (acc 4 (s.data.toList.drop k) (4 - 1)=((((s[k].toNat:Int) % 8*64+(s[k+1].toNat:Int) % 64)*64+(s[k+2].toNat:Int) % 64)*64+(s[k+3].toNat:Int) % 64).toNat):=(by show _=_;simp only[acc,accStart,show 4 - 1=3 from rfl,UE s k 0 om,UE s k 1 om,UE s k 2 om,UE s k 3 om];simp;omega);go_wp2;refine Jo 4 ?_;rw[rounds_succ];go_wp2;rw[rounds_succ];go_wp2;rw[rounds_succ];go_wp2;rw[rounds_succ];go_wp2;have J:(k:Int)+4<=s.size:=om;have I:0<=(k:Int)+4:=om;have K:(k:Int)<=(k:Int)+4:=om;have Q:IntKind.i64.wrap ((k:Int)+4)=(k:Int)+4:=IntWalk.i64_in _ om;have R:((k:Int)+4).toNat=k+4:=om
    go_region_with (go_at_call 181;refine (UG _ _ om om).mono ?_;rintro e w' ⟨rfl,F⟩)
    clear J I K Q R;go_wp2
    all_goals have Z:((str (encN ((((s[k].toNat:Int) % 8*64+(s[k+1].toNat:Int) % 64)*64+(s[k+2].toNat:Int) % 64)*64+(s[k+3].toNat:Int) % 64).toNat)).toList==(s.extract k (k+4)).toList)=true\/((str (encN ((((s[k].toNat:Int) % 8*64+(s[k+1].toNat:Int) % 64)*64+(s[k+2].toNat:Int) % 64)*64+(s[k+3].toNat:Int) % 64).toNat)).toList==(s.extract k (k+4)).toList)=false:=by first|exact Or.inl ‹_› |exact Or.inr ‹_›
    all_goals have U:=HL.out
    all_goals subst U
    all_goals first|(have A:=Zbw s k 4 om om H _ D.out V.out ‹_›;go_ret2;exact ⟨by rw[A];exact Zbx (by simp only[];omega) rfl,(S.drew).trans F⟩)|(have A:=ZfJ s k 4 om om H _ D.out V.out ‹_›;go_roundw;(case rel=>(first|exact ⟨4+1,om,om,om,rfl,A,(S.drew).trans F⟩|((repeat apply Gf);exact ⟨⟨4+1,om,om,om,rfl,A,(S.drew).trans F⟩,rfl⟩)));(case measure=>simp[intOf]))
  ·have A:dec l=(0,0):=by
    rw[V.out];have hf:l.length=s.size - k:=(by rw[<-HL.out,Zk,ZN]);cases h:5 - n with
    |zero=>rfl
    |succ m=>rw[refFrom,Ze om]
   have HF:=gd A;clear A V;by_cases h6:n=5
   ·subst h6;go_wp2
    all_goals go_ret2
    all_goals exact ⟨by rw[HF.out];rfl,S⟩
   ·have h7:s.size<k+n:=om;clear ha h6;go_wp2
    all_goals go_ret2
    all_goals exact ⟨by rw[HF.out];rfl,S⟩
theorem I2 (s:ByteArray) (w:Wq) (hs:s.size<=maxLen):
 Calls prog 97 #[.string s] w λe w'=>e= .returned (.tuple #[nI ((checkS s).1:Nat),nI ((checkS s).2:Nat)])/\Ext w w':=by
 have hd:=hs;unfold maxLen at hs;go_enter func97,ntmps97;go_wp2;go_loopw [4,5,6] (λv _ _ wr=>∃k:Nat,k<=s.size/\v=nI k/\Hid (checkS s=checkGo s.data.toList.length k (s.data.toList.drop k))/\Ext w wr) (λv _ _ _=>s.size - (intOf v).toNat)
 case atStart=>exact ⟨0,Zj _,rfl,rfl,Ext.refl _⟩
 case round=>
  obtain ⟨k,hk,rfl,hc,X⟩:=hrel;by_cases U:k<s.size
  ·have V:=Zf4 s.data.toList k (by rw[ZN];exact U);have S:=Ug (s.data.toList.drop k);rw[Zk,ZN] at S;have D:=U7 s k wr U hd;have I:=hc.out.trans V;clear hc V;obtain ⟨R,hR⟩:∃R,(dec (s.data.toList.drop k)).1=R:=⟨_,rfl⟩;obtain ⟨K,hK⟩:∃K,(dec (s.data.toList.drop k)).2=K:=⟨_,rfl⟩;rw[hR,hK] at D I;rw[hK] at S;clear hR hK;have Y:=gd D;have J:=gd I;clear D I;by_cases h0:K=0
   ·subst h0;have A:=J.out;rw[Zi rfl] at A;have Q:=gd A;clear A J
    go_wp2_with (first|(go_at_call 139;refine (Y.out).mono ?_;rintro e w' ⟨rfl,F⟩))
    go_ret2
    exact ⟨by rw[Q.out];rfl,X.trans F⟩
   ·have hb:((K:Int)==0)=false:=(by rw[Zv];omega);by_cases H:isChar R=false
    ·have A:=J.out;rw[Ze h0,Zi H] at A;have Q:=gd A;clear A J
     go_wp2_with (first|(go_at_call 139;refine (Y.out).mono ?_;rintro e w' ⟨rfl,F⟩)|(go_at_call 140;refine (VY _ _).mono ?_;rintro e w' ⟨rfl,rfl⟩))
     go_ret2
     exact ⟨by rw[Q.out];rfl,X.trans F⟩
    ·have he:isChar R=true:=(by simpa using H);have Z:Hid (checkS s=checkGo s.data.toList.length (k+K) (s.data.toList.drop (k+K))):=(by have h:=J.out;rw[Ze h0,Ze H] at h;exact h);clear J H
     go_wp2_with (first|(go_at_call 139;refine (Y.out).mono ?_;rintro e w' ⟨rfl,F⟩)|(go_at_call 140;refine (VY _ _).mono ?_;rintro e w' ⟨rfl,rfl⟩))
     go_roundw
     case rel=>exact ⟨k+K,om,by go_num,Z,X.trans F⟩
     case measure=>simp[intOf];omega
  ·have ha:k=s.size:=om;have A:checkS s=(k,0):=(by rw[hc.out,ZdK _ _ (by rw[ZN];omega)]);have Q:=gd A;clear A hc ha;go_wp2
   go_ret2
   exact ⟨by rw[Q.out];rfl,X⟩
theorem Vc (l:List UInt8):∀y∈Lib.byteCells l,y.oneCell'=true:=by
 intro y h;simp[Lib.byteCells] at h;obtain ⟨b,_,rfl⟩:=h;rfl
theorem Zga (w:Wq) (base:Nat) (v:Value) (l:List UInt8) (h:w.ownsRow base 5 1 v l.length (Lib.byteCells l)):
 (convert 94 9 v).run prog w= .ok (.string (str l)) w:=by
 rcases h.2 with ⟨rfl,F⟩|⟨g,cap,D,rfl,_⟩
 ·have:l= []:=Zm F;subst this;exact run_convert_bytes_nil w _ 5 underlying94 underlying5 0 0 _ underlying9
 ·have:=run_convert_bytes_arg (P:=prog) w _ 5 underlying94 underlying5 g 0 l.length cap (l.map λb=>(b.toNat:Int)) (by simp) (λi A=> ?_) 9 underlying9
  ·rw[this];have e:strOfNums (l.map λb=>(b.toNat:Int))=str l:=(by rw[Ql,JR];refine Zz str ((List.map_congr_left ?_).trans (List.map_id l));intro x _;simp);rw[e]
  ·have hc:=h.cells (g:=g) rfl i (.int .u8 (l[i].toNat)) (by simp[Lib.byteCells,Zh A]);rw[show (⟨g,0,none⟩:Addr).add i=⟨g,0+i,none⟩ from by unfold Addr.add;split<;>simp_all] at hc;rw[hc];simp[List.getD,Zh A]
def gapOf (l:List UInt8) (k:Nat) (out:List UInt8):Bool:=decide (0<k) && isSp (l.getD (k - 1) 0).toNat && !out.isEmpty
theorem Zpe (s:ByteArray) (out:List UInt8) (k:Nat) (A:k<s.size) (h:isSp (s[k].toNat)=true):gapOf s.data.toList (k+1) out= !out.isEmpty:=by
 unfold gapOf;have:s.data.toList.getD (k+1 - 1) 0=s[k]:=by rw[Nat.add_sub_cancel,ZZ,Zh (by rw[ZN];exact A)];rfl
 rw[this,h];simp
theorem Zcb (s:ByteArray) (out:List UInt8) (k:Nat) (A:k<s.size) (h:isSp (s[k].toNat)=false):gapOf s.data.toList (k+1) out=false:=by
 unfold gapOf;have:s.data.toList.getD (k+1 - 1) 0=s[k]:=by rw[Nat.add_sub_cancel,ZZ,Zh (by rw[ZN];exact A)];rfl
 rw[this,h];simp
theorem Zbl (s:ByteArray) (w:Wq) (hs:s.size<=140737488351232):
 Calls prog 120 #[.string s] w λe w'=>e= .returned (.string (collapse s))/\Ext w w':=by
 obtain ⟨i0,Z,hd,he,hf⟩:=YH G9;go_enter func120,ntmps120;go_wp2;go_loopw [3,4] (λv i wr=>∃(k:Nat) (out:List UInt8),k<=s.size/\i=nI k/\Hid (out.length+(if gapOf s.data.toList k out then 1 else 0)<=k)/\
  wr.ownsRow w.heap.size 5 1 v out.length (Lib.byteCells out)/\Hid (coll s.data.toList=collGo (s.data.toList.drop k) out (gapOf s.data.toList k out))/\Ext w wr) (λ_ i _=>s.size - (intOf i).toNat)
 case atStart=>exact ⟨0,[],Zj _,rfl,by show _<=_;simp[gapOf],YF _ _ _ _,rfl,Ext.refl _⟩
 case round=>
  obtain ⟨k,out,hk,rfl,I,S,hc,hx⟩:=hrel;have hB:=hx.size;have hz:out.length<=k:=by have:=I.out;omega
  by_cases V:k<s.size
  ·by_cases hb:isSp (s[k]).toNat=true
   ·have X:=gd (hc.out.trans (ZjL s out _ k V hb));rw[<-Zpe s out k V hb] at X;have Y:Hid (out.length+(if gapOf s.data.toList (k+1) out then 1 else 0)<=k+1):=(by show _<=_;split<;>omega);clear hc I
    go_wp2_with (go_at_call 100;refine (Y7 _ _).mono ?_;rintro e w' ⟨rfl,rfl⟩)
    go_roundw
    case rel=>exact ⟨k+1,out,om,by go_num,Y,S,X,hx⟩
    case measure=>simp[intOf];omega
   ·have U:isSp (s[k]).toNat=false:=(by simpa using hb);have hn:=Zcb s;have Q:=hc.out.trans (ZjK s out _ k V U);cases hg:gapOf s.data.toList k out
    ·rw[hg] at Q;simp only[YR,U4,ZV] at Q;rw[<-Zcb s (out++ [s[k]]) k V U] at Q;have X:=gd Q;have Y:Hid ((out++ [s[k]]).length+(if gapOf s.data.toList (k+1) (out++ [s[k]]) then 1 else 0)<=k+1):=(by show _<=_;rw[Zcb s _ k V U];simp;omega);clear hc I Q hn hb;have H:=S;obtain ⟨_,A,c,rfl,hv,hr,_,_⟩:=RSl.of_own S;unfold gapOf at hg;have hi:k=0\/(∃j,k=j+1/\isSp (s.data.toList.getD j 0).toNat=false)\/(∃j,k=j+1/\isSp (s.data.toList.getD j 0).toNat=true/\out= []):=by
      cases k with
      |zero=>exact Or.inl rfl
      |succ j=>
       simp at hg;cases h:isSp (s.data.toList.getD j 0).toNat
       ·exact Or.inr (Or.inl ⟨j,rfl,h⟩)
       ·exact Or.inr (Or.inr ⟨j,rfl,h,by simpa using hg (by simpa using h)⟩)
     clear hg;rcases hi with rfl|⟨j,rfl,hj⟩|⟨j,rfl,hj,rfl⟩
     ·go_wp2_with (first|(go_at_call 100;refine (Y7 _ _).mono ?_;rintro e w' ⟨rfl,rfl⟩)|(at_builtin;refine ZO _ rfl (.tmp 33) (.tmp 37) _ rfl w.heap.size 5 i0 _ 1 1 underlying94 Z hd he hf rfl om _ _ _ rfl (H.alloc _) _ 1 _ rfl (Yo (cs:= [.int .u8 s[0].toNat]) (by simp) (by unfold maxLen;omega)) (Vc [s[0]]) (by unfold maxLen;omega) om (by simp;omega) ?_;intro v1 w1 D J K))
      have R:Ext w w1:=(hx.alloc _).app J (H.alloc _) (Zc _);have F:w1.ownsRow w.heap.size 5 1 v1 (out++ [s[0]]).length (Lib.byteCells (out++ [s[0]])):=(by rw[Yl,Zb];exact D);clear J K D;go_wp2;go_roundw
      case rel=>first|exact ⟨0+1,out++ [s[0]],om,by go_num,Y,F,X,R⟩|((repeat apply Gf);exact ⟨⟨0+1,out++ [s[0]],om,by go_num,Y,F,X,R⟩,rfl⟩)
      case measure=>simp[intOf];omega
     ·have ho:isSp (s[j].toNat)=false:=by rw[<-hj,ZZ,Zh (by rw[ZN];omega)];rfl
      go_wp2_with (first|(go_at_call 100;refine (Y7 _ _).mono ?_;rintro e w' ⟨rfl,rfl⟩)|(at_builtin;refine ZO _ rfl (.tmp 33) (.tmp 37) _ rfl w.heap.size 5 i0 _ 1 1 underlying94 Z hd he hf rfl om _ _ _ rfl (H.alloc _) _ 1 _ rfl (Yo (cs:= [.int .u8 s[j+1].toNat]) (by simp) (by unfold maxLen;omega)) (Vc [s[j+1]]) (by unfold maxLen;omega) om (by simp;omega) ?_;intro v1 w1 D J K))
      have R:Ext w w1:=(hx.alloc _).app J (H.alloc _) (Zc _);have F:w1.ownsRow w.heap.size 5 1 v1 (out++ [s[j+1]]).length (Lib.byteCells (out++ [s[j+1]])):=(by rw[Yl,Zb];exact D);clear J K D;go_wp2;go_roundw
      case rel=>first|exact ⟨j+1+1,out++ [s[j+1]],om,by go_num,Y,F,X,R⟩|((repeat apply Gf);exact ⟨⟨j+1+1,out++ [s[j+1]],om,by go_num,Y,F,X,R⟩,rfl⟩)
      case measure=>simp[intOf];omega
     ·have ho:isSp (s[j].toNat)=true:=by rw[<-hj,ZZ,Zh (by rw[ZN];omega)];rfl
      go_wp2_with (first|(go_at_call 100;refine (Y7 _ _).mono ?_;rintro e w' ⟨rfl,rfl⟩)|(at_builtin;refine ZO _ rfl (.tmp 33) (.tmp 37) _ rfl w.heap.size 5 i0 _ 1 1 underlying94 Z hd he hf rfl om _ _ _ rfl (H.alloc _) _ 1 _ rfl (Yo (cs:= [.int .u8 s[j+1].toNat]) (by simp) (by unfold maxLen;omega)) (Vc [s[j+1]]) (by unfold maxLen;omega) om (by simp;omega) ?_;intro v1 w1 D J K))
      have R:Ext w w1:=(hx.alloc _).app J (H.alloc _) (Zc _);have F:w1.ownsRow w.heap.size 5 1 v1 (([]:List UInt8)++ [s[j+1]]).length (Lib.byteCells (([]:List UInt8)++ [s[j+1]])):=(by rw[Yl,Zb];exact D);clear J K D;go_wp2;go_roundw
      case rel=>first|exact ⟨j+1+1,([]:List UInt8)++ [s[j+1]],om,by go_num,Y,F,X,R⟩|((repeat apply Gf);exact ⟨⟨j+1+1,([]:List UInt8)++ [s[j+1]],om,by go_num,Y,F,X,R⟩,rfl⟩)
      case measure=>simp[intOf];omega
    ·rw[hg] at Q I;simp only[Us] at Q I;have hu:=I.out;rw[<-Zcb s (out++ [32]++ [s[k]]) k V U] at Q;have X:=gd Q;have Y:Hid ((out++ [32]++ [s[k]]).length+(if gapOf s.data.toList (k+1) (out++ [32]++ [s[k]]) then 1 else 0)<=k+1):=(by show _<=_;rw[Zcb s _ k V U];simp;omega);clear hc I Q hn hb;have H:=S;obtain ⟨_,A,c,rfl,hv,hr,_,_⟩:=RSl.of_own S;unfold gapOf at hg;simp only[ZG,ZT] at hg;obtain ⟨⟨ht,hj⟩,hp⟩:=hg;obtain ⟨j,rfl⟩:∃j,k=j+1:=⟨k - 1,om⟩;rw[Nat.add_sub_cancel] at hj;have ho:isSp (s[j].toNat)=true:=(by rw[<-hj,ZZ,Zh (by rw[ZN];omega)];rfl);have hw:0<out.length:=by
      cases out with
      |nil=>simp at hp
      |cons a t=>simp
     clear ht hj hp
     go_wp2_with (first|(go_at_call 100;refine (Y7 _ _).mono ?_;rintro e w' ⟨rfl,rfl⟩)|(at_builtin;refine ZO _ rfl (.tmp 30) (.tmp 31) _ rfl w.heap.size 5 i0 _ 1 1 underlying94 Z hd he hf rfl om _ _ _ rfl (H.alloc _) _ 1 _ rfl (Yo (cs:= [.int .u8 32]) (by simp) (by unfold maxLen;omega)) (by intro y hy;simp at hy;subst hy;rfl) (by unfold maxLen;omega) om (by simp;omega) ?_;intro v1 w1 D J K;have hA:w.heap.size<=w1.heap.size:=((hx.alloc _).app J (H.alloc _) (Zc _)).size)|(at_builtin;refine ZO _ rfl (.tmp 33) (.tmp 37) _ rfl w.heap.size 5 i0 _ 1 1 underlying94 Z hd he hf rfl om _ _ _ rfl (D.alloc _) _ 1 _ rfl (Yo (cs:= [.int .u8 s[j+1].toNat]) (by simp) (by unfold maxLen;omega)) (Vc [s[j+1]]) (by unfold maxLen;omega) om (by simp;omega) ?_;intro v2 w2 F hm hl))
     have R:Ext w w1:=(hx.alloc _).app J (H.alloc _) (Zc _);have hq:Ext w w2:=(R.alloc _).app hm (D.alloc _) (Zc _);have ha:w2.ownsRow w.heap.size 5 1 v2 (out++ [32]++ [s[j+1]]).length (Lib.byteCells (out++ [32]++ [s[j+1]])):=(by rw[Yl,Yl,Zb,Zb];exact F);clear J K D hm hl F;go_wp2;go_roundw
     case rel=>first|exact ⟨j+1+1,out++ [32]++ [s[j+1]],om,by go_num,Y,ha,X,hq⟩|((repeat apply Gf);exact ⟨⟨j+1+1,out++ [32]++ [s[j+1]],om,by go_num,Y,ha,X,hq⟩,rfl⟩)
     case measure=>simp[intOf];omega
  ·have hh:coll s.data.toList=out:=(by rw[hc.out,ZC (by rw[ZN];omega)];rfl);have HF:Hid (str out=collapse s):=(by unfold collapse;rw[hh];rfl);have kc:=Zga wr _ _ out S;clear hh hc I;go_wp2;go_ret;exact ⟨by rw[<-HF.out];rfl,hx⟩
def hexD (n:Nat):UInt8:=UInt8.ofNat (if n<10 then 48+n else 87+n)
def escB (c:UInt8):List UInt8:=
 if c.toNat=34\/c.toNat=92 then [92,c]
 else if 32<=c.toNat then []
 else if c.toNat=8 then [92,98] else if c.toNat=12 then [92,102] else if c.toNat=10 then [92,110] else if c.toNat=13 then [92,114] else if c.toNat=9 then [92,116]
 else [92,117,48,48,hexD (c.toNat / 16),hexD (c.toNat % 16)]
def qB (c:UInt8):List UInt8:=if escB c= [] then [c] else escB c
def quoteL (l:List UInt8):List UInt8:=34::(l.flatMap qB++ [34])
section
theorem Zpi (w:Wq):(Instr.index 301 (.agg #[.int .u8 98,.int .u8 8,.int .u8 102,.int .u8 12,.int .u8 110,.int .u8 10,.int .u8 114,.int .u8 13,.int .u8 116,.int .u8 9]) (nI 0)).run prog w= .ok (.agg #[.int .u8 98,.int .u8 8]) w:=by kernel_rfl
theorem Zpj (w:Wq):(Instr.index 301 (.agg #[.int .u8 98,.int .u8 8,.int .u8 102,.int .u8 12,.int .u8 110,.int .u8 10,.int .u8 114,.int .u8 13,.int .u8 116,.int .u8 9]) (nI 1)).run prog w= .ok (.agg #[.int .u8 102,.int .u8 12]) w:=by kernel_rfl
theorem Zpk (w:Wq):(Instr.index 301 (.agg #[.int .u8 98,.int .u8 8,.int .u8 102,.int .u8 12,.int .u8 110,.int .u8 10,.int .u8 114,.int .u8 13,.int .u8 116,.int .u8 9]) (nI 2)).run prog w= .ok (.agg #[.int .u8 110,.int .u8 10]) w:=by kernel_rfl
theorem Zpl (w:Wq):(Instr.index 301 (.agg #[.int .u8 98,.int .u8 8,.int .u8 102,.int .u8 12,.int .u8 110,.int .u8 10,.int .u8 114,.int .u8 13,.int .u8 116,.int .u8 9]) (nI 3)).run prog w= .ok (.agg #[.int .u8 114,.int .u8 13]) w:=by kernel_rfl
theorem Zpm (w:Wq):(Instr.index 301 (.agg #[.int .u8 98,.int .u8 8,.int .u8 102,.int .u8 12,.int .u8 110,.int .u8 10,.int .u8 114,.int .u8 13,.int .u8 116,.int .u8 9]) (nI 4)).run prog w= .ok (.agg #[.int .u8 116,.int .u8 9]) w:=by kernel_rfl
theorem Zo8 (w:Wq) (a b:Int) (n:Nat) (h:n=w.heap.size):(convert 94 9 (.slice (some ⟨n,0,none⟩) 2 2)).run prog (w.alloc (.cells #[.int .u8 a,.int .u8 b] 5))= .ok (.string (strOfNums [a,b])) (w.alloc (.cells #[.int .u8 a,.int .u8 b] 5)):=by subst h;exact ZoZ w a b
attribute [local go_sem] Zo8 Zpi Zpj Zpk Zpl Zpm
end
section
variable {B base n:Nat} {T e:TypeId} {v:Value} {w w':World} {xs:List Value}
theorem UN (l:List UInt8):(str l).toList.isEmpty=l.isEmpty:=by rw[Yb,Z3]
theorem U3 (s:ByteArray) (f k:Nat) (h:f<=k):(s.extract f k).data.toList=(s.data.toList.drop f).take (k - f):=by
 simp
theorem JS (a b:ByteArray):(a++b).data.toList=a.data.toList++b.data.toList:=by simp
theorem ZhL (s:ByteArray) (f k:Nat) (h:f<=k) (A:k<s.size):(s.data.toList.drop f).take (k+1 - f)=(s.data.toList.drop f).take (k - f)++ [s[k]]:=by
 rw[show k+1 - f=(k - f)+1 by omega,Zr (by rw[Zk,ZN];omega)];simp only[List.getElem_drop]
 congr 2
 have:f+(k - f)=k:=om
 simp only[this];rfl
theorem Ya {size:Nat} (h:w.ownsRow base e size v n xs) (A:Ext w w'):w'.ownsRow base e size v n xs:=
 h.kept (A.grown none) (by cases v.ownBlock<;>simp)
theorem Xd {b:Nat} {bs:List Value} (h:Lib.IsBuilder T e B b bs w) (F:Ext w w'):Lib.IsBuilder T e B b bs w':=by
 rcases h with ⟨H,v,I,A,D⟩|⟨H,v,I,A,D⟩
 ·exact Or.inl ⟨H,v,F.heap I,Ya A F,D⟩
 ·exact Or.inr ⟨H,v,F.heap I,Ya A F,D⟩
end
section
attribute [local go_sem] ZoY strOfNums_size
def i64ok (n:Int):Prop:= -9223372036854775808<=n/\n<=9223372036854775807
theorem Q6 (x:Int) (h:i64ok x):wrap64 x=x:=by unfold wrap64;have:=h.1;have:=h.2;omega
end
inductive JV where
 |null
 |bool (b:Bool)
 |int (n:Int)
 |str (s:ByteArray)
 |arr (l:List JV)
def commas:List (List UInt8)->List UInt8
 | []=> []
 | [t]=>t
 |t::u::r=>t++44::commas (u::r)
def jtext:JV->List UInt8
 | .null=> [110,117,108,108]
 | .bool b=>if b then [116,114,117,101] else [102,97,108,115,101]
 | .int n=>Lib.itoa n
 | .str s=>quoteL s.data.toList
 | .arr l=>91::(commas (l.map jtext)++ [93])
def jvalid:JV->Nat->Bool
 | .str s,depth=>decide (depth<=100) && Lib.validD s.data.toList
 | .arr l,depth=>decide (depth<=100) && (l.map λj=>jvalid j (depth+1)).all id
 |_,depth=>decide (depth<=100)
def jwrite (j:JV):ByteArray×Nat:=if jvalid j 1 then (str (jtext j),0) else (⟨#[]⟩,22)
def vcells (k:Int) (b:Bool) (n:Int) (s:ByteArray) (its:Value) (at_:Int):List Value:= [nI k,.bool b,nI n,.string s,its,sN,nI at_]
def RVn:Nat->Wq->JV->List Value->Prop
 |0,_,_,_=>False
 |n+1,w,j,cs=>∃a:Int,match j with
  | .null=>cs=vcells 0 false 0 ⟨#[]⟩ sN a
  | .bool b=>cs=vcells 1 b 0 ⟨#[]⟩ sN a
  | .int x=>cs=vcells 2 false x ⟨#[]⟩ sN a
  | .str s=>cs=vcells 3 false 0 s sN a
  | .arr l=>∃(v:Value) (css:List (List Value)),cs=vcells 4 false 0 ⟨#[]⟩ v a/\css.length=l.length/\RSl w 7 v l.length css.flatten/\∀(i:Nat) (j:JV) (c:List Value),l[i]? =some j->css[i]? =some c->RVn n w j c
def RV (w:Wq) (j:JV) (cs:List Value):Prop:=∃n,RVn n w j cs
section
variable {base g n:Nat} {cs xs:List Value} {e:TypeId} {v:Value} {w:World}
section
variable {P:Program}
end
theorem Ext.setRow {a b:Wq} (h:Ext a b) {g:Nat} (A:a.heap.size<=g) (cs:Array Value):Ext a (b.setRow g cs):=
 h.then ⟨rfl,rfl,rfl,by simp[World.setRow],λk D=>Yf b g k cs om⟩
theorem Jk {size:Nat} (h:w.ownsRow base e size v n xs) (F:g<base) (cs:Array Value):(w.setRow g cs).ownsRow base e size v n xs:=by
 refine h.kept (row:=some g) ⟨rfl,rfl,rfl,by simp[World.setRow],λk _ A=>Yf w g k cs (λe=>A (by rw[e]))⟩ (Or.inr λD=> ?_);have:=(h.lt g D).1;omega
theorem XR (w:Wq) (A B C:Obj):(((w.alloc A).alloc B).alloc C).heap[w.heap.size+1+1]? =some C:=by
 have h:=Zg ((w.alloc A).alloc B) C;have e:((w.alloc A).alloc B).heap.size=w.heap.size+1+1:=by show ((w.heap.push A).push B).size=_;simp
 rwa [e] at h
theorem Jb {size:Nat} {fr:Nat×Nat} (D:w.heap[g]? =some (.cells cs.toArray e fr)) (h:cs.length=n*size) (F:n<=maxLen):RSl w size (.slice (some ⟨g,0,none⟩) n n) n cs:=by
 refine ⟨h,some ⟨g,0,none⟩,n,rfl,Zc _,F,(λh=>by cases h),λj u H=>⟨_,rfl,?_⟩⟩;have A:(⟨g,0,none⟩:Addr).add j=⟨g,j,none⟩:=by unfold Addr.add;split<;>simp_all
 rw[A,Zy D];simpa using H
theorem RSl.at1 {w:Wq} {size n c m:Nat} {A:Option Addr} {xs:List Value} (h:RSl w size (.slice A m c) n xs) (k:Nat) (u:Value) (F:xs[k]? =some u):∃ad,A=some ad/\w.cell? (ad.add k)=some u:=by
 obtain ⟨_,H,I,e,_,_,_,D⟩:=h;cases e;exact D k u F
theorem Qa (a:Addr) (m n:Nat):(a.add m).add n=a.add (m+n):=by
 unfold Addr.add;by_cases h:m=0<;>by_cases A:n=0<;>simp_all [Nat.add_assoc]
theorem RSl.elem {w:Wq} {k:Nat} {v:Value} {n:Nat} {css:List (List Value)} (h:RSl w k v n css.flatten) (X:0<k) (F:∀c∈css,c.length=k) (i:Nat) (c:List Value) (hc:css[i]? =some c):
 ∃ad cap,v= .slice (some ad) n cap/\∀j u,c[j]? =some u->w.cell? ((ad.add (k*i)).add j)=some u:=by
 obtain ⟨_,A,cap,rfl,_,_,V,D⟩:=h;have I:∀(l:List (List Value)) (i:Nat) (c:List Value) (j:Nat) (u:Value),(∀c∈l,c.length=k)->l[i]? =some c->c[j]? =some u->l.flatten[k*i+j]? =some u:=by
  intro l
  induction l with
  |nil=>intro i c j u _ h;simp at h
  |cons x l ih=>
   intro i c j u F hc H;have U:x.length=k:=F x (by simp);cases i with
   |zero=>simp at hc;subst hc;have S:j<x.length:=(by have:=(ZR.mp H).1;exact this);simpa [List.getElem?_append,S] using (ZR.mp H).2
   |succ i=>have:=ih i c j u (λc h=>F c (by simp[h])) (by simpa using hc) H;simp only[Um];have e:k*(i+1)+j=x.length+(k*i+j):=(by rw[U,Nat.mul_succ];omega);rw[e,Yt om];simpa using this
 have R:c.length=k:=F c (List.mem_of_getElem? hc);have Q:0<c.length:=om
 obtain ⟨ad,rfl,_⟩:=D _ _ (I css i c 0 c[0] F hc (Zh Q));refine ⟨ad,cap,rfl,λj u H=> ?_⟩;obtain ⟨K,h,J⟩:=D _ _ (I css i c j u F hc H);injection h with h;subst h;rw[Qa];exact J
theorem Ext.boxed {w w':Wq} {cs:Array Value} {t:TypeId} {fr:Nat×Nat} (h:Ext (w.alloc (.cells cs t fr)) w') (i:Nat) (v:Value) (A:cs[i]? =some v):w'.cell? ⟨w.heap.size,i,none⟩=some v:=
 h.cell (p:=⟨w.heap.size,i,none⟩) (by rw[YO _ _ _ cs t fr (Zg w _)];exact A)
end
abbrev WB (B b:Nat) (bs:List Value) (w:Wq):Prop:=Lib.IsBuilder 245 5 B b bs w
section
variable {T:TypeId}
def KeepsT (T:TypeId) (w w':Wq):Prop:=∀(k:Nat) (cs:Array Value) (t:TypeId) (fr:Nat×Nat),w.heap[k]? =some (Obj.cells cs t fr)->t≠T->t≠5->w'.heap[k]? =some (Obj.cells cs t fr)
theorem UY (F:BT T) (B b:Nat) (bs:List Value) (w:Wq) (h:Lib.IsBuilder T 5 B b bs w):
 Calls prog 95 #[.pointer (some ⟨b,0,none⟩)] w λe w'=>e= .returned (.tuple #[])/\(Lib.BuilderAt T 5 B b (.pointer (some ⟨b,0,none⟩)) bs w'/\Below B w w'/\KeepsT T w w'):=by
 rcases h with h|h
 ·refine (J4 F b w h.cell0 h.shape h.frozen0).mono ?_;rintro e w' ⟨rfl,rfl⟩;refine ⟨rfl,h.used _,(Zdg B w).setCell (p:=⟨b,0,none⟩) h.1 _,?_⟩;intro k cs t fr A D I;rw[Below.heap_setCell _ _ _ _ (λe=> ?_)]
  ·exact A
  ·obtain ⟨_,v,H,_⟩:=h;simp at e;subst e;rw[H] at A;simp only[Y5,Obj.cells.injEq] at A;exact D A.2.1.symm
 ·refine (Ud F b w h.cell0).mono ?_;rintro e w' ⟨rfl,rfl⟩;exact ⟨rfl,h,Zdg B _,λ_ _ _ _ A _ _=>A⟩
theorem UX (hT:BT T) (B b:Nat) (bs:List Value) (c:Int) (w:Wq) (h:Lib.IsBuilder T 5 B b bs w) (hf:bs.length+1<=140737488355328) (hh:B<=w.heap.size):
 Calls prog 62 #[.pointer (some ⟨b,0,none⟩),.int .u8 c] w λe w'=>e= .returned .nilIface/\(Lib.BuilderAt T 5 B b (.pointer (some ⟨b,0,none⟩)) (bs++ [.int .u8 c]) w'/\Below B w w'/\KeepsT T w w'):=by
 obtain ⟨i0,hi,hc,hd,he⟩:=YH G9;go_enter func62,ntmps62
 go_wp2_with (go_at_call 95;refine (UY hT B b bs _ h).mono ?_)
 rintro e w1 ⟨rfl,h1,J,X⟩;obtain ⟨hB,v,F,H,hb⟩:=h1;have c0:w1.cell? ⟨b,0,none⟩=some (.pointer (some ⟨b,0,none⟩)):=by rw[Zy F];rfl
 have c1:w1.cell? ⟨b,1,none⟩=some v:=by rw[Zy F];rfl
 go_wp2_with (at_builtin;refine wpList_append_own _ rfl _ _ 94 rfl B 5 i0 (.int .u8 0) 1 1 underlying94 hi hc hd he rfl (by decide) _ _ _ rfl (H.alloc _) ⟨w1.heap.size,0,none⟩ 1 1 [.int .u8 c] rfl rfl ?c1 ?c2 ?c3 ?c4 ?c5 ?_)
 case c1=>
  intro j u S
  match j,S with
  |0,S=>simp at S;subst S;simp[Addr.add]
 case c2=>intro u hu;simp at hu;subst hu;rfl
 case c3=>unfold maxLen;omega
 case c4=>omega
 case c5=>have:=J.size;simp;omega
 intro v' w2 I A _;have ha:b<w1.heap.size:=by
  rcases Y9 b w1.heap.size with U|U
  ·exact U
  ·simp[Y3 U] at F
 have K:w2.heap[b]? =some (.cells #[.pointer (some ⟨b,0,none⟩),v] T (0,0)):=by rw[A.block b (by simp;omega) (λe=>hb e.symm),Lib.alloc_old w1 _ b ha];exact F
 have d0:w2.cell? ⟨b,0,none⟩=some (.pointer (some ⟨b,0,none⟩)):=by rw[Zy K];rfl
 have d1:w2.cell? ⟨b,1,none⟩=some v:=by rw[Zy K];rfl
 have f1:w2.frozen? ⟨b,1,none⟩=false:=Z5 K 1;obtain ⟨g,cap,rfl⟩:∃g cap,v'= .slice (some ⟨g,0,none⟩) (bs.length+1) cap:=by
  rcases I.2 with ⟨_,h0⟩|⟨g,cap,hg,hv,_⟩
  ·omega
  ·exact ⟨g,cap,hv⟩
 go_wp2;go_ret;refine ⟨rfl,?_,?_,?_⟩
 ·exact Lib.BuilderAt.put (T:=T) (e:=5) hB K (bs':=bs++ [.int .u8 c]) (by simpa using I) hT.ne
 ·exact ((J.alloc (by have:=J.size;omega) _).grown A (by have:=J.size;simp;omega) (λk V=>(H.lt k V).1)).setCell (p:=⟨b,1,none⟩) hB _
 ·intro k cs t fr V Q R;have D:=X k cs t fr V Q R;have Y:k≠b:=by rintro rfl;rw[F] at D;simp only[Y5,Obj.cells.injEq] at D;exact Q D.2.1.symm
  have Z:k<w1.heap.size:=(ZP.1 D).1;rw[Below.heap_setCell _ _ _ _ (λe=>Y (by simpa using e))];rw[A.block k (by simp;omega) (λe=>Lib.ownBlock_ne H D R e.symm),Lib.alloc_old w1 _ k Z];exact D
end
theorem ZmV:(prog.info? 9).map (λi=>(i.zero,i.size,i.bytes))=some (some eS,1,16):=by kernel_rfl
theorem G0 (v:Value) (n:Nat) (xs:List Value) (w:Wq) (h:RSl w 1 v n xs) (h1:∀u∈xs,u.oneCell'=true) (F:n*16<=140737488355328):
 Calls prog 33 #[v] w λe w'=>∃v',e= .returned v'/\w'.ownsRow w.heap.size 9 1 v' n xs/\Ext w w':=by
 obtain ⟨i0,hi,U,V,X⟩:=YH ZmV;obtain ⟨hl,A,c,rfl,I,Q,hA,K⟩:=id h;have H:Hid ((0+n)*16<=140737488355328):=by rw[YI];exact F
 have S:0+n<=maxLen:=by rw[YI];exact Zp I Q
 clear F;have hq:∀(w:Wq) (a:Option Addr) (n c Y J:Nat),(binOp .eql 52 (.slice a n c) (.slice none Y J)).run prog w= .ok (.bool a.isNone) w:=λw a n c Y J=>Lib.run_eql_slice_nil w _ _ a n c Y J underlying52;cases A with
 |none=>have hn:n=0:=Nat.le_zero.1 (hA rfl▸I);subst hn;have hx:xs= []:=Zm (by rw[hl]);subst hx;go_enter func33,ntmps33;go_wp2;go_ret;exact ⟨_,rfl,YF _ _ _ _,Ext.refl _⟩
 |some ad=>
  go_enter func33,ntmps33
  go_wp2_with (at_builtin;refine ZO _ rfl (.tmp 5) (.tmp 6) _ rfl w.heap.size 9 i0 _ 1 16 underlying52 hi U V X rfl (by decide) _ _ [] rfl (Jx (cs:= []) (Zc _) rfl (by decide)) _ n xs rfl (h.ext ((Ext.refl w).alloc _)) h1 S H.out ((Ext.refl w).alloc _).size ?_;intro v1 w2 D R Z)
  go_ret;rw[YI] at D;exact ⟨v1,rfl,D,((Ext.refl w).alloc _).app R (Jx (cs:= []) (size:=1) (n:=0) (Zc _) rfl (by decide)) (Zc _)⟩
theorem Zeh:(prog.info? 55).map (λi=>(i.zero,i.size,i.bytes))=some (some (.agg #[sN,eS,eS,eS,nI 0,sN]),6,104):=by kernel_rfl
theorem Zcg:(prog.info? 76).map (λi=>(i.zero,i.size,i.bytes))=some (some (.agg #[eS,eS,eS,eS,nI 0]),5,72):=by kernel_rfl
theorem Zf5 (v:Value) (n:Nat) (xs:List Value) (w:Wq) (h:RSl w 5 v n xs) (h1:∀u∈xs,u.oneCell'=true) (F:n*72<=140737488355328):
 Calls prog 66 #[v] w λe w'=>∃v',e= .returned v'/\w'.ownsRow w.heap.size 76 5 v' n xs/\Ext w w':=by
 obtain ⟨i0,hi,U,V,X⟩:=YH Zcg;obtain ⟨hl,A,c,rfl,I,Q,hA,K⟩:=id h;have H:Hid ((0+n)*72<=140737488355328):=by rw[YI];exact F
 have S:0+n<=maxLen:=by rw[YI];exact Zp I Q
 clear F;have hq:∀(w:Wq) (a:Option Addr) (n c Y J:Nat),(binOp .eql 53 (.slice a n c) (.slice none Y J)).run prog w= .ok (.bool a.isNone) w:=λw a n c Y J=>Lib.run_eql_slice_nil w _ _ a n c Y J underlying53;cases A with
 |none=>have hn:n=0:=Nat.le_zero.1 (hA rfl▸I);subst hn;have hx:xs= []:=Zm (by rw[hl]);subst hx;go_enter func66,ntmps66;go_wp2;go_ret;exact ⟨_,rfl,YF _ _ _ _,Ext.refl _⟩
 |some ad=>
  go_enter func66,ntmps66
  go_wp2_with (at_builtin;refine ZO _ rfl (.tmp 5) (.tmp 6) _ rfl w.heap.size 76 i0 _ 5 72 underlying53 hi U V X rfl (by decide) _ _ [] rfl (Jx (cs:= []) (Zc _) rfl (by decide)) _ n xs rfl (h.ext ((Ext.refl w).alloc _)) h1 S H.out ((Ext.refl w).alloc _).size ?_;intro v1 w2 D R Z)
  go_ret;rw[YI] at D;exact ⟨v1,rfl,D,((Ext.refl w).alloc _).app R (Jx (cs:= []) (size:=5) (n:=0) (Zc _) rfl (by decide)) (Zc _)⟩
def strCells (s:ByteArray):List Value:=vcells 3 false 0 s sN 0
end Go.Proofs.YtnlafkgkcnenfaaGreatDoor
