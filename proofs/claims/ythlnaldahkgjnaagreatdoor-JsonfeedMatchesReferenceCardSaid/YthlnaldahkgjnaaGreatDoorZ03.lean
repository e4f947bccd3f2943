/- Parts of the proof: contracts and plain laws. -/
import Derived.Test.YthlnaldahkgjnaaGreatDoorProg
import Derived.Test.YthlnaldahkgjnaaGreatDoorZ02
namespace Go.Proofs.YthlnaldahkgjnaaGreatDoor
open Go Go.RowKit Go.Shelf _root_.Go.Proofs.Tryz
set_option linter.unusedVariables false
set_option linter.unusedSimpArgs false
set_option maxRecDepth 100000
set_option maxHeartbeats 16000000
theorem QE:(prog.info? 117).map (λi=>i.size)=some 2:=by kernel_rfl
theorem Zeo:prog.cellsOf 5=1:=by kernel_rfl
structure BT (T:TypeId):Prop where
 lies:liesAt prog prog.depth T (2 / prog.cellsOf T) 0 117 1=true
 ne:T≠5
theorem QD:BT 117:=⟨by kernel_rfl,by decide⟩
theorem Xv:BT 161:=⟨by kernel_rfl,by decide⟩
theorem Jd {T:TypeId} (C:BT T) (b:Nat) (w:World) (A:w.cell? ⟨b,0,none⟩=some (.pointer (some ⟨b,0,none⟩))):
 Calls prog 116 #[.pointer (some ⟨b,0,none⟩)] w λe w'=>e= .returned (.tuple #[])/\w'=w:=by
 obtain ⟨j,h,_⟩:=Option.map_eq_some_iff.1 QE;go_enter func116,ntmps116;go_wp2;rw[Lib.run_neq_ptr_same w _ underlying114 h];go_wp2;go_end0;exact ⟨rfl,rfl⟩
theorem X9 {T:TypeId} (D:BT T) (b:Nat) (w:World) (G:w.cell? ⟨b,0,none⟩=some (.pointer none)) (h:w.shape? b=some (T,2)) (F:w.frozen? ⟨b,0,none⟩=false):
 Calls prog 116 #[.pointer (some ⟨b,0,none⟩)] w λe w'=>e= .returned (.tuple #[])/\w'=w.setCell ⟨b,0,none⟩ (.pointer (some ⟨b,0,none⟩)):=by
 obtain ⟨j,C,A⟩:=Option.map_eq_some_iff.1 QE;go_enter func116,ntmps116;go_wp2;rw[Lib.run_to_unsafe w ⟨b,0,none⟩ underlying114 underlying211 C (by rw[A];decide) h (Nat.zero_lt_succ 1)];simp only[Result.andThen];rw[Oper.upon_value];go_wp2;rw[run_callFunc_extern func159 (by kernel_rfl) (by kernel_rfl) (by kernel_rfl) (e:=Extern.AbiNoEscape.same) (by kernel_rfl)];rw[Lib.run_noEscape];simp only[Result.andThen];rw[Oper.upon_value];go_wp2;rw[Lib.run_from_unsafe w ⟨b,0,none⟩ underlying211 underlying114 C h D.lies];simp only[Result.andThen];rw[Oper.upon_value];go_wp2;go_end0;exact ⟨rfl,rfl⟩
theorem UE {T:TypeId} (j:BT T) (B b:Nat) (bs:List Value) (w:World) (h:Lib.IsBuilder T 5 B b bs w):
 Calls prog 116 #[.pointer (some ⟨b,0,none⟩)] w λe w'=>e= .returned (.tuple #[])/\(Lib.BuilderAt T 5 B b (.pointer (some ⟨b,0,none⟩)) bs w'/\Below B w w'):=by
 rcases h with h|h
 ·refine (X9 j b w h.cell0 h.shape h.frozen0).mono ?_;rintro e w' ⟨rfl,rfl⟩;exact ⟨rfl,h.used _,(IB B w).setCell (p:=⟨b,0,none⟩) h.1 _⟩
 ·refine (Jd j b w h.cell0).mono ?_;rintro e w' ⟨rfl,rfl⟩;exact ⟨rfl,h,IB B _⟩
theorem Zat {T:TypeId} (J:BT T) (B b:Nat) (bs:List Value) (w:World) (h:Lib.IsBuilder T 5 B b bs w):
 Calls prog 68 #[.pointer (some ⟨b,0,none⟩)] w λe w'=>e= .returned (.int .i64 bs.length)/\w'=w:=by
 obtain ⟨p,I,v,C,j,H⟩:∃p,Lib.BuilderAt T 5 B b p bs w:=by
  rcases h with h|h
  ·exact ⟨_,h⟩
  ·exact ⟨_,h⟩
 obtain ⟨A,cap,rfl⟩:∃A cap,v= .slice A bs.length cap:=by
  rcases j.2 with ⟨D,G⟩|⟨g,cap,F,D,_⟩
  ·exact ⟨none,0,by rw[D,G]⟩
  ·exact ⟨_,_,D⟩
 have c1:w.cell? ⟨b,1,none⟩=some (.slice A bs.length cap):=by rw[ZN C];rfl
 go_enter func68,ntmps68;go_wp2;go_ret;exact ⟨rfl,rfl⟩
theorem QA {T:TypeId} (V:BT T) (B b:Nat) (bs:List Value) (c:Int) (w:World) (h:Lib.IsBuilder T 5 B b bs w) (X:bs.length+1<=140737488355328) (ha:B<=w.heap.size):
 Calls prog 69 #[.pointer (some ⟨b,0,none⟩),.int .u8 c] w λe w'=>e= .returned .nilIface/\(Lib.BuilderAt T 5 B b (.pointer (some ⟨b,0,none⟩)) (bs++ [.int .u8 c]) w'/\Below B w w'):=by
 obtain ⟨i0,hi,Q,R,S⟩:=Yr UI;go_enter func69,ntmps69
 go_wp2_with (go_at_call 116;refine (UE V B b bs _ h).mono ?_)
 rintro e w1 ⟨rfl,h1,D⟩;obtain ⟨U,v,G,H,O⟩:=h1;have c0:w1.cell? ⟨b,0,none⟩=some (.pointer (some ⟨b,0,none⟩)):=by rw[ZN G];rfl
 have c1:w1.cell? ⟨b,1,none⟩=some v:=by rw[ZN G];rfl
 go_wp2_with (at_builtin;refine wpList_append_own _ rfl _ _ 115 rfl B 5 i0 (.int .u8 0) 1 1 underlying115 hi Q R S rfl (by decide) _ _ _ rfl (H.alloc _) ⟨w1.heap.size,0,none⟩ 1 1 [.int .u8 c] rfl rfl ?c1 ?c2 ?c3 ?c4 ?c5 ?_)
 case c1=>
  intro j u I
  match j,I with
  |0,I=>simp at I;subst I;simp[Addr.add]
 case c2=>intro u Y;simp at Y;subst Y;rfl
 case c3=>unfold maxLen;omega
 case c4=>omega
 case c5=>have:=D.size;simp;omega
 intro v' w2 C A _;have K:b<w1.heap.size:=by
  rcases YG b w1.heap.size with J|J
  ·exact J
  ·simp[Xh J] at G
 have F:w2.heap[b]? =some (.cells #[.pointer (some ⟨b,0,none⟩),v] T (0,0)):=by rw[A.block b (by simp;omega) (λe=>O e.symm),Lib.alloc_old w1 _ b K];exact G
 have d0:w2.cell? ⟨b,0,none⟩=some (.pointer (some ⟨b,0,none⟩)):=by rw[ZN F];rfl
 have d1:w2.cell? ⟨b,1,none⟩=some v:=by rw[ZN F];rfl
 have f1:w2.frozen? ⟨b,1,none⟩=false:=ZH F 1;obtain ⟨g,cap,rfl⟩:∃g cap,v'= .slice (some ⟨g,0,none⟩) (bs.length+1) cap:=by
  rcases C.2 with ⟨_,h0⟩|⟨g,cap,Z,hv,_⟩
  ·omega
  ·exact ⟨g,cap,hv⟩
 go_wp2;go_ret;refine ⟨rfl,?_,?_⟩
 ·exact Lib.BuilderAt.put (T:=T) (e:=5) U F (bs':=bs++ [.int .u8 c]) (by simpa using C) V.ne
 ·exact ((D.alloc (by have:=D.size;omega) _).grown A (by have:=D.size;simp;omega) (λk hk=>(H.lt k hk).1)).setCell (p:=⟨b,1,none⟩) U _
theorem VT {T:TypeId} (V:BT T) (B b:Nat) (bs:List Value) (s:ByteArray) (w:World) (h:Lib.IsBuilder T 5 B b bs w) (X:bs.length+s.size<=140737488355328) (ha:B<=w.heap.size):
 Calls prog 145 #[.pointer (some ⟨b,0,none⟩),.string s] w λe w'=>e= .returned (.tuple #[.int .i64 s.size,.nilIface])/\(Lib.BuilderAt T 5 B b (.pointer (some ⟨b,0,none⟩)) (bs++Lib.strCells s) w'/\Below B w w'):=by
 obtain ⟨i0,hi,O,Q,R⟩:=Yr UI;go_enter func145,ntmps145
 go_wp2_with (go_at_call 116;refine (UE V B b bs _ h).mono ?_)
 rintro e w1 ⟨rfl,h1,G⟩;obtain ⟨U,v,D,F,J⟩:=h1;have c0:w1.cell? ⟨b,0,none⟩=some (.pointer (some ⟨b,0,none⟩)):=by rw[ZN D];rfl
 have c1:w1.cell? ⟨b,1,none⟩=some v:=by rw[ZN D];rfl
 go_wp2_with (at_builtin;refine Lib.wpList_append_own_string _ rfl _ _ 115 9 rfl B 5 i0 underlying115 underlying9 hi O Q R _ _ _ rfl F s rfl ?c3 ?c4 ?c5 ?_)
 case c3=>unfold maxLen;omega
 case c4=>omega
 case c5=>have:=G.size;omega
 intro v' w2 A j _;have I:b<w1.heap.size:=by
  rcases YG b w1.heap.size with H|H
  ·exact H
  ·simp[Xh H] at D
 have C:w2.heap[b]? =some (.cells #[.pointer (some ⟨b,0,none⟩),v] T (0,0)):=by rw[j.block b I (λe=>J e.symm)];exact D
 have d0:w2.cell? ⟨b,0,none⟩=some (.pointer (some ⟨b,0,none⟩)):=by rw[ZN C];rfl
 have d1:w2.cell? ⟨b,1,none⟩=some v:=by rw[ZN C];rfl
 have f1:w2.frozen? ⟨b,1,none⟩=false:=ZH C 1;obtain ⟨S,Y,cap,rfl⟩:∃S Y cap,v'= .slice S Y cap:=by
  rcases A.2 with ⟨K,_⟩|⟨g,cap,Z,K,_⟩
  ·exact ⟨_,_,_,K⟩
  ·exact ⟨_,_,_,K⟩
 go_wp2
 go_ret2
 refine ⟨rfl,?_,?_⟩
 ·exact Lib.BuilderAt.put (T:=T) (e:=5) U C (bs':=bs++Lib.strCells s) (by simpa [Lib.strCells_length] using A) V.ne
 ·exact (G.grown j (by have:=G.size;omega) (λk hk=>(F.lt k hk).1)).setCell (p:=⟨b,1,none⟩) U _
theorem Ke {T:TypeId} (hT:BT T) (B b:Nat) (l:List UInt8) (w:World) (h:Lib.IsBuilder T 5 B b (Lib.byteCells l) w) (K:l≠ []):
 Calls prog 70 #[.pointer (some ⟨b,0,none⟩)] w λe w'=>e= .returned (.string ⟨l.toArray⟩)/\Below B w w':=by
 obtain ⟨p,hB,v,F,C,V⟩:∃p,Lib.BuilderAt T 5 B b p (Lib.byteCells l) w:=by
  rcases h with h|h
  ·exact ⟨_,h⟩
  ·exact ⟨_,h⟩
 have I:l.length≠0:=by simpa using K
 rw[Lib.byteCells_length] at C;obtain ⟨g,cap,A,rfl,D,S,U,G,R,J⟩:∃g cap A,v= .slice (some ⟨g,0,none⟩) l.length cap/\B<=g/\w.heap[g]? =some (.cells A 5 (0,0))/\l.length<=cap/\cap<=maxLen/\A.size=cap*1/\A.toList.take (l.length*1)=Lib.byteCells l:=by
  rcases C.2 with ⟨_,Z⟩|⟨g,cap,A,X,r⟩
  ·exact absurd Z I
  ·exact ⟨g,cap,A,X,r⟩
 have c1:w.drew.cell? ⟨b,1,none⟩=some (.slice (some ⟨g,0,none⟩) l.length cap):=by have:w.drew.heap[b]? =some (.cells #[p,.slice (some ⟨g,0,none⟩) l.length cap] T (0,0)):=F;rw[ZN this];rfl
 have O:(Builtin.unsafeSliceData_ #[115] 174 #[.slice (some ⟨g,0,none⟩) l.length cap]).run prog w.drew= .ok (.pointer (some ⟨g,0,none⟩)) w.drew:=
  Lib.run_unsafeSliceData_row _ _ _ _ _ _ (by omega)
 have Q:(Builtin.unsafeString_ #[174,3] 9 #[.pointer (some ⟨g,0,none⟩),.int .i64 l.length]).run prog w.drew= .ok (.string ⟨l.toArray⟩) (w.drew.freeze ⟨g,0,none⟩ l.length):=by refine Lib.run_unsafeString_row w.drew 174 3 9 5 underlying174 Zeo g A.size (by have H:w.drew.heap[g]? =some (.cells A 5 (0,0)):=S;simp[World.shape?,H]) l K (by omega) (by unfold maxLen at G;omega) ?_;intro j x Y;have:=C.cells (g:=g) rfl j (.int .u8 x.toNat) (by simp[Lib.byteCells,Y]);exact this
 go_enter func70,ntmps70;go_wp2
 go_region
 all_goals (go_wp2;go_ret;exact ⟨rfl,Lib.below_freeze (Below.drew (IB B w)) (p:=⟨g,0,none⟩) D _⟩)
theorem Jn {T:TypeId} (h:BT T) (W:World) (q:Option Addr):(Builtin.unsafeString_ #[174,3] 9 #[.pointer q,.int .i64 0]).run prog W= .ok (.string .empty) W:=
 Lib.run_unsafeString_none W _ _ _ q
theorem Qd {T:TypeId} (A:BT T) (B b:Nat) (p:Value) (w:World) (h:w.heap[b]? =some (.cells #[p,.slice none 0 0] T (0,0))):
 Calls prog 70 #[.pointer (some ⟨b,0,none⟩)] w λe w'=>e= .returned (.string ⟨#[]⟩)/\Below B w w':=by
 have C:=Jn A;have c1:w.drew.cell? ⟨b,1,none⟩=some (.slice none 0 0):=by have:w.drew.heap[b]? =some (.cells #[p,.slice none 0 0] T (0,0)):=h;rw[ZN this];rfl
 have j:(Builtin.unsafeSliceData_ #[115] 174 #[.slice none 0 0]).run prog w.drew= .ok (.pointer none) w.drew:=rfl;go_enter func70,ntmps70;go_wp2
 go_region
 all_goals (go_wp2;go_ret;exact ⟨rfl,Below.drew (IB B w)⟩)
theorem Vl {T:TypeId} (H:BT T) (B b g:Nat) (p:Value) (h:Array Value) (w:World) (C:B<=w.heap.size) (j:w.heap[b]? =some (.cells #[p,.slice (some ⟨g,0,none⟩) 0 0] T (0,0))) (J:w.heap[g]? =some (.cells h 5 (0,0))):
 Calls prog 70 #[.pointer (some ⟨b,0,none⟩)] w λe w'=>e= .returned (.string ⟨#[]⟩)/\Below B w w':=by
 have I:=Jn H;have F:b<w.heap.size:=by
  rcases YG b w.heap.size with A|A
  ·exact A
  ·simp[Xh A] at j
 have c1:w.drew.cell? ⟨b,1,none⟩=some (.slice (some ⟨g,0,none⟩) 0 0):=by have:w.drew.heap[b]? =some (.cells #[p,.slice (some ⟨g,0,none⟩) 0 0] T (0,0)):=j;rw[ZN this];rfl
 have G:(Builtin.unsafeSliceData_ #[115] 174 #[.slice (some ⟨g,0,none⟩) 0 0]).run prog w.drew= .ok (.pointer (some ⟨w.drew.heap.size,0,none⟩)) (w.drew.alloc (.view ⟨g,0,none⟩ 5)):=
  Lib.run_unsafeSliceData_zero w.drew _ _ 5 underlying174 ⟨g,0,none⟩ 0 (5,h.size) (by have D:w.drew.heap[g]? =some (.cells h 5 (0,0)):=J;simp[World.shape?,D])
 have c2:(w.drew.alloc (.view ⟨g,0,none⟩ 5)).cell? ⟨b,1,none⟩=some (.slice (some ⟨g,0,none⟩) 0 0):=by have:(w.drew.alloc (.view ⟨g,0,none⟩ 5)).heap[b]? =_:=(Lib.alloc_old w.drew _ b F).trans j;rw[ZN this];rfl
 have c3:(w.alloc (.view ⟨g,0,none⟩ 5)).drew.cell? ⟨b,1,none⟩=some (.slice (some ⟨g,0,none⟩) 0 0):=c2;have c0:w.cell? ⟨b,1,none⟩=some (.slice (some ⟨g,0,none⟩) 0 0):=c1;go_enter func70,ntmps70;go_wp2
 go_region
 all_goals (go_wp2;go_ret;exact ⟨rfl,(Below.drew (IB B w)).alloc C _⟩)
theorem VS {T:TypeId} (C:BT T) (B b g cap:Nat) (p:Value) (w:World) (h:cap≠0) (j:w.heap[b]? =some (.cells #[p,.slice (some ⟨g,0,none⟩) 0 cap] T (0,0))):
 Calls prog 70 #[.pointer (some ⟨b,0,none⟩)] w λe w'=>e= .returned (.string ⟨#[]⟩)/\Below B w w':=by
 have D:=Jn C;have c1:w.drew.cell? ⟨b,1,none⟩=some (.slice (some ⟨g,0,none⟩) 0 cap):=by have:w.drew.heap[b]? =some (.cells #[p,.slice (some ⟨g,0,none⟩) 0 cap] T (0,0)):=j;rw[ZN this];rfl
 have A:(Builtin.unsafeSliceData_ #[115] 174 #[.slice (some ⟨g,0,none⟩) 0 cap]).run prog w.drew= .ok (.pointer (some ⟨g,0,none⟩)) w.drew:=
  Lib.run_unsafeSliceData_row _ _ _ _ _ _ h
 clear h;go_enter func70,ntmps70;go_wp2
 go_region
 all_goals (go_wp2;go_ret;exact ⟨rfl,Below.drew (IB B w)⟩)
theorem Vn {T:TypeId} (G:BT T) (B b:Nat) (w:World) (h:Lib.IsBuilder T 5 B b [] w) (F:B<=w.heap.size):
 Calls prog 70 #[.pointer (some ⟨b,0,none⟩)] w λe w'=>e= .returned (.string ⟨#[]⟩)/\Below B w w':=by
 obtain ⟨p,K,v,j,C,J⟩:∃p,Lib.BuilderAt T 5 B b p [] w:=by
  rcases h with h|h
  ·exact ⟨_,h⟩
  ·exact ⟨_,h⟩
 rcases C.2 with ⟨rfl,_⟩|⟨g,cap,D,rfl,H,I,_,_,_,_⟩
 ·exact Qd G B b p w j
 ·by_cases A:cap=0
  ·subst A;exact Vl G B b g p D w F j I
  ·exact VS G B b g cap p w A j
theorem Qc {T:TypeId} (A:BT T) (B b:Nat) (l:List UInt8) (w:World) (h:Lib.IsBuilder T 5 B b (Lib.byteCells l) w) (j:B<=w.heap.size):
 Calls prog 70 #[.pointer (some ⟨b,0,none⟩)] w λe w'=>e= .returned (.string ⟨l.toArray⟩)/\Below B w w':=by
 cases l with
 |nil=>exact Vn A B b w h j
 |cons x r=>exact Ke A B b (x::r) w h (by simp)
theorem Kp (s:ByteArray) (w:World) (h:Env w):Calls prog 157 #[.string s] w λe w'=>e= .returned (.tuple #[.int .i32 (Lib.decodeGo s).1,.int .i64 (Lib.decodeGo s).2])/\Ext w w':=
 utf8_DecodeRuneInString s w h.utf8
theorem EO {T:TypeId} (j:BT T) (B b:Nat) (bs:List Value) (w:World) (h:Lib.IsBuilder T 5 B b bs w):
 Calls prog 68 #[.pointer (some ⟨b,0,none⟩)] w λe w'=>e= .returned (.int .i64 bs.length)/\w'=w:=Zat j B b bs w h
theorem Xr {T:TypeId} (G:BT T) (B b:Nat) (bs:List Value) (c:Int) (w:World) (h:Lib.IsBuilder T 5 B b bs w) (j:bs.length+1<=140737488355328) (A:B<=w.heap.size):
 Calls prog 69 #[.pointer (some ⟨b,0,none⟩),.int .u8 c] w λe w'=>e= .returned .nilIface/\(Lib.IsBuilder T 5 B b (bs++ [.int .u8 c]) w'/\Below B w w'):=
 (QA G B b bs c w h j A).mono λ_ _ ⟨C,D,F⟩=>⟨C,Or.inr D,F⟩
theorem Xz {T:TypeId} (G:BT T) (B b:Nat) (bs:List Value) (s:ByteArray) (w:World) (h:Lib.IsBuilder T 5 B b bs w) (j:bs.length+s.size<=140737488355328) (A:B<=w.heap.size):
 Calls prog 145 #[.pointer (some ⟨b,0,none⟩),.string s] w λe w'=>e= .returned (.tuple #[.int .i64 s.size,.nilIface])/\(Lib.IsBuilder T 5 B b (bs++Lib.byteCells s.data.toList) w'/\Below B w w'):=
 (VT G B b bs s w h j A).mono λ_ _ ⟨C,D,F⟩=>⟨C,Or.inr D,F⟩
theorem Vf {T:TypeId} (A:BT T) (B b:Nat) (l:List UInt8) (w:World) (h:Lib.IsBuilder T 5 B b (Lib.byteCells l) w) (j:B<=w.heap.size):
 Calls prog 70 #[.pointer (some ⟨b,0,none⟩)] w λe w'=>e= .returned (.string (str l))/\Below B w w':=Qc A B b l w h j
theorem Kj (B b:Nat) (bs:List Value) (w:World) (h:Lib.IsBuilder 117 5 B b bs w):
 Calls prog 68 #[.pointer (some ⟨b,0,none⟩)] w λe w'=>e= .returned (.int .i64 bs.length)/\w'=w:=EO QD B b bs w h
theorem Xy (B b:Nat) (bs:List Value) (c:Int) (w:World) (h:Lib.IsBuilder 117 5 B b bs w) (j:bs.length+1<=140737488355328) (A:B<=w.heap.size):
 Calls prog 69 #[.pointer (some ⟨b,0,none⟩),.int .u8 c] w λe w'=>e= .returned .nilIface/\(Lib.IsBuilder 117 5 B b (bs++ [.int .u8 c]) w'/\Below B w w'):=Xr QD B b bs c w h j A
theorem Je (B b:Nat) (bs:List Value) (s:ByteArray) (w:World) (h:Lib.IsBuilder 117 5 B b bs w) (j:bs.length+s.size<=140737488355328) (A:B<=w.heap.size):
 Calls prog 145 #[.pointer (some ⟨b,0,none⟩),.string s] w λe w'=>e= .returned (.tuple #[.int .i64 s.size,.nilIface])/\(Lib.IsBuilder 117 5 B b (bs++Lib.byteCells s.data.toList) w'/\Below B w w'):=Xz QD B b bs s w h j A
theorem UF (B b:Nat) (l:List UInt8) (w:World) (h:Lib.IsBuilder 117 5 B b (Lib.byteCells l) w) (j:B<=w.heap.size):
 Calls prog 70 #[.pointer (some ⟨b,0,none⟩)] w λe w'=>e= .returned (.string (str l))/\Below B w w':=Vf QD B b l w h j
theorem ZaB (s:ByteArray) (A:s.data.toList≠ []):Lib.decodeGo s=Lib.decodeL s.data.toList:=by
 unfold Lib.decodeGo Lib.decodeL;have j:s.size≠0:=by intro h;apply A;apply ZI;simpa using h
 rw[Zf j]
theorem QS (t:ByteArray) (k:Nat):(t.extract k t.size).data.toList=t.data.toList.drop k:=by
 simp[ZC]
theorem ZgD (s:ByteArray) (k:Nat) (j:k<s.size):Lib.decodeGo (s.extract k s.size)=Lib.decodeL (s.data.toList.drop k):=by
 rw[ZaB,QS];rw[QS];intro h;have:=Zo List.length h;simp at this;have:s.data.size=s.size:=rfl;omega
def decVal (d:Nat×Nat):Value:= .tuple #[.int .i32 (d.1:Nat),.int .i64 (d.2:Nat)]
theorem IP (s:ByteArray) (k:Nat) (w:World) (O:Env w) (Q:k<s.size) (S:s.size<=maxLen):
 Calls prog 114 #[.string s,.int .i64 (k:Nat)] w λe w'=>e= .returned (decVal (dec (s.data.toList.drop k)))/\Ext w w':=by
 have H:=ZgD s k Q;have C:s.data.toList.drop k≠ []:=by intro h;have:=Zo List.length h;simp at this;have:s.data.size=s.size:=rfl;omega
 obtain ⟨R,D⟩:∃R,(Lib.decodeL (s.data.toList.drop k)).1=R:=⟨_,rfl⟩;obtain ⟨K,hK⟩:∃K,(Lib.decodeL (s.data.toList.drop k)).2=K:=⟨_,rfl⟩;have G:=Kp (s.extract k s.size) w O;rw[H,D,hK] at G;have j:dec (s.data.toList.drop k)=if R=65533/\K=1 then (0,0) else (R,K):=by unfold dec;rw[Zf C,D,hK,<-D,<-hK]
 rw[j];clear j hK D C H;unfold maxLen at S;have I:=gd G;clear G;by_cases A:R=65533/\K=1;obtain ⟨rfl,rfl⟩:=A
 rotate_left
 by_cases F:R=65533;have V:((K:Int)==1)=false:=by rw[ZV];omega
 have J:((R:Int)==65533)=true:=by simp[F]
 have j:(if R=65533/\K=1 then ((0,0):Nat×Nat) else (R,K))=(R,K):=Zf A;rw[j];clear j A F
 rotate_left
 have J:((R:Int)==65533)=false:=by rw[ZV];omega
 have j:(if R=65533/\K=1 then ((0,0):Nat×Nat) else (R,K))=(R,K):=Zf A;rw[j];clear j A F
 all_goals
  go_enter func114,ntmps114
  go_wp2_with (go_at_call 157;refine (I.out).mono ?_;rintro e w' ⟨rfl,U⟩)
  all_goals go_ret2
  all_goals exact ⟨rfl,U⟩
theorem Zn (s:ByteArray):s.data.toList.length=s.size:=rfl
theorem UO (s:ByteArray) (w:World) (hE:Env w) (hs:s.size<=maxLen):
 Calls prog 66 #[.string s] w λe w'=>e= .returned (.tuple #[.int .i64 ((checkS s).1:Nat),.int .i64 ((checkS s).2:Nat)])/\Ext w w':=by
 have Z:=hs;unfold maxLen at hs;go_enter func66,ntmps66;go_wp2;go_loopw [4,5,6] (λv _ _ wr=>∃k:Nat,k<=s.size/\v= .int .i64 k/\Hid (checkS s=checkGo s.data.toList.length k (s.data.toList.drop k))/\Ext w wr) (λv _ _ _=>s.size - (intOf v).toNat)
 case atStart=>exact ⟨0,Zt _,rfl,rfl,Ext.refl _⟩
 case round=>
  obtain ⟨k,hk,rfl,U,S⟩:=hrel;by_cases O:k<s.size
  ·have Q:=Zav s.data.toList k (by rw[Zn];exact O);have J:=Gk (s.data.toList.drop k);rw[ZL,Zn] at J;have A:=IP s k wr (hE.ext S) O Z;unfold decVal at A;have F:=U.out.trans Q;clear U Q;obtain ⟨R,hR⟩:∃R,(dec (s.data.toList.drop k)).1=R:=⟨_,rfl⟩;obtain ⟨K,hK⟩:∃K,(dec (s.data.toList.drop k)).2=K:=⟨_,rfl⟩;rw[hR,hK] at A F;rw[hK] at J;clear hR hK;have V:=gd A;have G:=gd F;clear A F;by_cases Y:K=0
   ·subst Y;have j:=G.out;rw[Zi rfl] at j;have H:=gd j;clear j G
    go_wp2_with (first|(go_at_call 114;refine (V.out).mono ?_;rintro e w' ⟨rfl,C⟩))
    go_ret2
    exact ⟨by rw[H.out];rfl,S.trans C⟩
   ·have hb:((K:Int)==0)=false:=(by rw[ZV];omega);by_cases D:isChar R=false
    ·have j:=G.out;rw[Zf Y,Zi D] at j;have H:=gd j;clear j G
     go_wp2_with (first|(go_at_call 114;refine (V.out).mono ?_;rintro e w' ⟨rfl,C⟩)|(go_at_call 115;refine (VC _ _).mono ?_;rintro e w' ⟨rfl,rfl⟩))
     go_ret2
     exact ⟨by rw[H.out];rfl,S.trans C⟩
    ·have ha:isChar R=true:=(by simpa using D);have X:Hid (checkS s=checkGo s.data.toList.length (k+K) (s.data.toList.drop (k+K))):=(by have h:=G.out;rw[Zf Y,Zf D] at h;exact h);clear G D
     go_wp2_with (first|(go_at_call 114;refine (V.out).mono ?_;rintro e w' ⟨rfl,C⟩)|(go_at_call 115;refine (VC _ _).mono ?_;rintro e w' ⟨rfl,rfl⟩))
     go_roundw
     case rel=>exact ⟨k+K,by omega,by go_num,X,S.trans C⟩
     case measure=>simp[intOf];omega
  ·have I:k=s.size:=(by omega);have j:checkS s=(s.size,0):=(by rw[U.out,IZ _ _ (by rw[Zn];omega),I]);have H:=gd j;clear j U I;go_wp2
   go_ret2
   exact ⟨by rw[H.out];rfl,S⟩
theorem Ec (l out:List UInt8) (g:Bool) (k:Nat) (h:k<l.length):collGo (l.drop k) out g=if isSp (l[k]).toNat then collGo (l.drop (k+1)) out (!out.isEmpty) else collGo (l.drop (k+1)) (out++(if g then [32] else [])++ [l[k]]) false:=by
 rw[Zx h];rfl
theorem ZJ (a b:List UInt8):Lib.byteCells (a++b)=Lib.byteCells a++Lib.byteCells b:=by simp[Lib.byteCells]
theorem Yt (a:List UInt8):(Lib.byteCells a).length=a.length:=by simp[Lib.byteCells]
theorem ZcG (s:ByteArray) (out:List UInt8) (g:Bool) (k:Nat) (j:k<s.size) (h:isSp (s[k].toNat)=true):collGo (s.data.toList.drop k) out g=collGo (s.data.toList.drop (k+1)) out (!out.isEmpty):=by
 rw[Ec _ _ _ k (by rw[Zn];exact j)];exact Zi h
theorem ZcF (s:ByteArray) (out:List UInt8) (g:Bool) (k:Nat) (j:k<s.size) (h:isSp (s[k].toNat)=false):collGo (s.data.toList.drop k) out g=collGo (s.data.toList.drop (k+1)) (out++(if g then [32] else [])++ [s[k]]) false:=by
 rw[Ec _ _ _ k (by rw[Zn];exact j)];exact Zf (by rw[Bool.not_eq_true];exact h)
theorem Xc (s:ByteArray) (w:World) (hs:s.size<=140737488351232):
 Calls prog 30 #[.string s] w λe w'=>e= .returned (.string (collapse s))/\Ext w w':=by
 go_enter func30,ntmps30;go_wp2;go_loopw [4,5,8] (λv _ i wr=>∃(k:Nat) (out:List UInt8) (g:Bool),k<=s.size/\i= .int .i64 k/\v= .bool g/\out.length+(if g then 1 else 0)<=k/\
  Lib.IsBuilder 117 5 w.heap.size w.heap.size (Lib.byteCells out) wr/\Hid (coll s.data.toList=collGo (s.data.toList.drop k) out g)/\Ext w wr) (λ_ _ i _=>s.size - (intOf i).toNat)
 case atStart=>exact ⟨0,[],false,Zt _,rfl,rfl,by simp,Lib.fresh_isBuilder _ _ _,rfl,(Ext.refl _).alloc _⟩
 case round=>
  obtain ⟨k,out,g,hk,rfl,rfl,h,I,G,H⟩:=hrel;have D:=H.size;by_cases K:k<s.size
  ·by_cases C:isSp (s[k]).toNat=true
   ·have S:=gd (G.out.trans (ZcG s out g k K C));have j:out.length<=k:=(by split at h<;>omega);have J:decide (0<(Lib.byteCells out).length)= !out.isEmpty:=(by rw[Yt];cases out<;>simp);have HG:=gd J;clear G J h
    go_wp2_with (first|(go_at_call 67;refine (J6 _ _).mono ?_;rintro e w' ⟨rfl,rfl⟩)|(go_at_call 68;refine (Kj _ _ _ _ I).mono ?_;rintro e w' ⟨rfl,rfl⟩))
    go_roundw
    case rel=>exact ⟨k+1,out,!out.isEmpty,by omega,by go_num,by rw[HG.out],by split<;>omega,I,S,H⟩
    case measure=>simp[intOf];omega
   ·have O:isSp (s[k]).toNat=false:=(by simpa using C);have S:=gd (G.out.trans (ZcF s out g k K O));clear G C;cases g
    ·have j:out.length<=k:=(by simpa using h);clear h
     go_wp2_with (first|(go_at_call 67;refine (J6 _ _).mono ?_;rintro e w' ⟨rfl,rfl⟩)|(go_at_call 69;refine (Xy _ _ _ _ _ I (by rw[Yt];omega) D).mono ?_;rintro e w' ⟨rfl,U,F⟩))
     go_roundw
     case rel=>exact ⟨k+1,out++ [s[k]],false,by omega,by go_num,rfl,by simp;omega,by rw[ZJ];exact U,by simpa using S,H.then F⟩
     case measure=>simp[intOf];omega
    ·have j:out.length+1<=k:=(by simpa using h);clear h
     go_wp2_with fail
     refine (J6 _ _).mono ?_;rintro e w' ⟨rfl,rfl⟩
     go_wp2_with fail
     refine (Xy _ _ _ _ _ I (by rw[Yt];omega) D).mono ?_;rintro e w1 ⟨rfl,V,R⟩;have Q:=(H.then R).size
     go_wp2_with fail
     refine (Xy _ _ _ _ _ V (by simp[Yt];omega) Q).mono ?_;rintro e w2 ⟨rfl,X,Z⟩
     go_wp2_with fail
     go_roundw
     case rel=>exact ⟨k+1,out++ [32]++ [s[k]],false,by omega,by go_num,rfl,by simp;omega,by rw[ZJ,ZJ];exact X,by simpa using S,(H.then R).then Z⟩
     case measure=>simp[intOf];omega
  ·have Y:k=s.size:=(by omega);have A:coll s.data.toList=out:=(by rw[G.out,ZB (by rw[Zn];omega)];rfl);have HF:Hid (str out=collapse s):=(by unfold collapse;rw[A];rfl);clear A G Y
   go_wp2_with (go_at_call 70;refine (UF _ _ _ _ I D).mono ?_;rintro e w' ⟨rfl,F⟩)
   go_ret;exact ⟨by rw[<-HF.out];rfl,H.then F⟩
theorem IQ (s:ByteArray) (w:World) (Q:Env w) (S:s.size<=140737488351232):
 Calls prog 135 #[.string s] w λe w'=>e= .returned (.bool (validS s))/\Ext w w':=by
 have G:s.size<=maxLen:=by unfold maxLen;omega
 have j:=UO s w Q G;obtain ⟨K,hK⟩:∃K,(checkS s).2=K:=⟨_,rfl⟩;obtain ⟨R,F⟩:∃R,collapse s=R:=⟨_,rfl⟩;have A:validS s=(decide (K=0) && (R.data.toList==s.data.toList)):=by unfold validS;rw[hK,F]
 have h:=λw'=>Xc s w' S;rw[hK] at j;rw[F] at h;rw[A];clear A hK F;have I:=gd j;have J:=gd h;clear j h;by_cases D:K=0
 ·subst D;go_enter func135,ntmps135
  go_wp2_with (first|(go_at_call 66;refine (I.out).mono ?_;rintro e w' ⟨rfl,H⟩)|(go_at_call 30;refine (J.out _).mono ?_;rintro e w' ⟨rfl,C⟩))
  go_ret;exact ⟨by simp[UA],H.trans C⟩
 ·have U:((K:Int)==0)=false:=by rw[ZV];omega
  have O:decide (K=0)=false:=by simp[D]
  rw[O];clear O D;go_enter func135,ntmps135
  go_wp2_with (first|(go_at_call 66;refine (I.out).mono ?_;rintro e w' ⟨rfl,H⟩)|(go_at_call 30;refine (J.out _).mono ?_;rintro e w' ⟨rfl,C⟩))
  go_ret;exact ⟨by simp,H⟩
theorem UW (w:World) (xs:List Int) (n:Nat) (h:xs.length=n):
 (convert 115 9 (.slice (some ⟨w.heap.size,0,none⟩) n n)).run prog (w.alloc (.cells (xs.map (Value.int .u8)).toArray 5))= .ok (.string (strOfNums xs)) (w.alloc (.cells (xs.map (Value.int .u8)).toArray 5)):=by
 refine run_convert_bytes_arg _ _ 5 underlying115 underlying5 _ 0 n n xs h (λi j=> ?_) _ underlying9;have:=Zh w (.cells (xs.map (Value.int .u8)).toArray 5);rw[Yf,ZN this];simp[Zc (show i<xs.length by omega),List.getD]
theorem Zgt (w:World) (a:Int):(convert 115 9 (.slice (some ⟨w.heap.size,0,none⟩) 1 1)).run prog (w.alloc (.cells #[.int .u8 a] 5))= .ok (.string (strOfNums [a])) (w.alloc (.cells #[.int .u8 a] 5)):=UW w [a] 1 rfl
theorem Zgu (w:World) (a b:Int):(convert 115 9 (.slice (some ⟨w.heap.size,0,none⟩) 2 2)).run prog (w.alloc (.cells #[.int .u8 a,.int .u8 b] 5))= .ok (.string (strOfNums [a,b])) (w.alloc (.cells #[.int .u8 a,.int .u8 b] 5)):=UW w [a,b] 2 rfl
theorem Zg5 (w:World) (a b c:Int):(convert 115 9 (.slice (some ⟨w.heap.size,0,none⟩) 3 3)).run prog (w.alloc (.cells #[.int .u8 a,.int .u8 b,.int .u8 c] 5))= .ok (.string (strOfNums [a,b,c])) (w.alloc (.cells #[.int .u8 a,.int .u8 b,.int .u8 c] 5)):=UW w [a,b,c] 3 rfl
theorem Zg6 (w:World) (a b c d:Int):(convert 115 9 (.slice (some ⟨w.heap.size,0,none⟩) 4 4)).run prog (w.alloc (.cells #[.int .u8 a,.int .u8 b,.int .u8 c,.int .u8 d] 5))= .ok (.string (strOfNums [a,b,c,d])) (w.alloc (.cells #[.int .u8 a,.int .u8 b,.int .u8 c,.int .u8 d] 5)):=UW w [a,b,c,d] 4 rfl
theorem Uz (xs:List Int):strOfNums xs=str (xs.map λn=>UInt8.ofNat n.toNat):=rfl
theorem ZfE (s:ByteArray) (k n:Nat) (m:Int) (A:m=n) (h:k+n<=s.size) (j:World):
 (Instr.slice 9 (.string s) (some (.int .i64 (k:Nat))) (some (.int .i64 ((k:Nat)+m))) none).run prog j= .ok (.string (s.extract k (k+n))) j:=by
 subst A;rw[run_slice_string (P:=prog) (w:=j) 9 s .i64 .i64 _ _ underlying9 (by omega) (by omega) (by omega)];rw[show ((k:Int)+(n:Int)).toNat=k+n by omega,show ((k:Nat):Int).toNat=k by omega]
theorem XI (s:ByteArray) (k n:Nat):(s.extract k (k+n)).data.toList=(s.data.toList.drop k).take n:=by
 simp[Nat.add_sub_cancel_left]
theorem ZcV (L:List UInt8) (t:ByteArray):((str L).toList==t.toList)=decide (L=t.data.toList):=by
 rw[UA,Yz,Xf];simp
section
attribute [local go_sem] Zgt Zgu Zg5 Zg6
theorem UM (r:Nat) (w:World) (A:r<4294967296):
 Calls prog 155 #[.int .i64 (r:Nat)] w λe w'=>e= .returned (.string (str (encN r)))/\Ext w w':=by
 obtain ⟨L,j⟩:∃L,encN r=L:=⟨_,rfl⟩;rw[j];obtain ⟨x,h⟩:∃x:Int,(r:Int)=x:=⟨_,rfl⟩;rw[h];have G:0<=x:=by omega
 have H:x<4294967296:=by omega
 have D:=gd h;have F:=gd A;have C:=gd j;clear h A j;go_enter func155,ntmps155;go_wp2
 all_goals go_ret
 all_goals (refine ⟨Zo (λl=>Ending.returned (.string l)) ?_,by repeat (first|exact Ext.refl _|apply Ext.alloc)⟩)
 all_goals have h:=D.out
 all_goals (rw[<-C.out];unfold encN)
 all_goals first|(rw[Zi (by omega)];rfl)|(rw[Zf (by omega),Zf (by omega),Zf (by omega),Zi (by omega)];simp only[Uz,Ym,Y6,show (224+x / 4096).toNat=224+r / 4096 by omega,show (128+x / 64 % 64).toNat=128+r / 64 % 64 by omega,show (128+x % 64).toNat=128+r % 64 by omega])|(rw[Zf (by omega),Zf (by omega),Zf (by omega),Zf (by omega)];simp only[Uz,Ym,Y6,show (240+x / 262144).toNat=240+r / 262144 by omega,show (128+x / 4096 % 64).toNat=128+r / 4096 % 64 by omega,show (128+x / 64 % 64).toNat=128+r / 64 % 64 by omega,show (128+x % 64).toNat=128+r % 64 by omega])|(rw[Zf (by omega),Zi (by omega)];simp only[Uz,Ym,Y6,show x.toNat=r by omega])|(rw[Zf (by omega),Zf (by omega),Zi (by omega)];simp only[Uz,Ym,Y6,show (192+x / 64).toNat=192+r / 64 by omega,show (128+x % 64).toNat=128+r % 64 by omega])
theorem JD (x:Int) (w:World) (j:0<=x) (A:x<4294967296):
 Calls prog 155 #[.int .i64 x] w λe w'=>e= .returned (.string (str (encN x.toNat)))/\Ext w w':=by
 have h:=UM x.toNat w (by omega)
 rwa [Int.toNat_of_nonneg j] at h
end
theorem X3 (x:UInt8):(x.toNat:Int)<256:=by have:=Y8 x;omega
theorem JA (s:ByteArray) (k i:Nat) (h:k+i<s.size):(s.data.toList.drop k).getD i 0=s[k+i]:=by
 rw[YA,List.getElem?_drop,Zc (by rw[Zn];exact h)];rfl
theorem Kb (s:ByteArray) (k n:Nat) (F:1<=n) (j:n<=4) (G:k+n<=s.size) (x:Int) (D:acc n (s.data.toList.drop k) (n - 1)=x.toNat)
 (A:dec (s.data.toList.drop k)=refFrom (5 - n) n (s.data.toList.drop k)) (h:((str (encN x.toNat)).toList==(s.extract k (k+n)).toList)=true):dec (s.data.toList.drop k)=(x.toNat,n):=by
 rw[ZcV,XI,Z6] at h;obtain ⟨m,C⟩:∃m,5 - n=m+1:=⟨4 - n,by omega⟩;rw[A,C,refFrom,Zi ⟨j,by rw[ZL,Zn];omega⟩,D,Zi h]
theorem Zak (s:ByteArray) (k n:Nat) (G:1<=n) (C:n<=4) (H:k+n<=s.size) (x:Int) (F:acc n (s.data.toList.drop k) (n - 1)=x.toNat)
 (A:dec (s.data.toList.drop k)=refFrom (5 - n) n (s.data.toList.drop k)) (j:((str (encN x.toNat)).toList==(s.extract k (k+n)).toList)=false):Hid (dec (s.data.toList.drop k)=refFrom (5 - (n+1)) (n+1) (s.data.toList.drop k)):=by
 rw[ZcV,XI,Gf] at j;obtain ⟨m,D⟩:∃m,5 - n=m+1:=⟨4 - n,by omega⟩;have h:5 - (n+1)=m:=by omega
 rw[h];rw[D,refFrom,Zi ⟨C,by rw[ZL,Zn];omega⟩,F,Zf j] at A;exact A
theorem U7 (s:ByteArray) (k:Nat) (w:World) (hk:k<s.size) (hs:s.size<=maxLen):
 Calls prog 127 #[.string s,.int .i64 (k:Nat)] w λe w'=>e= .returned (.tuple #[.int .i64 ((dec (s.data.toList.drop k)).1:Nat),.int .i64 ((dec (s.data.toList.drop k)).2:Nat)])/\Ext w w':=by
 unfold maxLen at hs;have Y:s.data.toList.drop k≠ []:=by intro h;have:=Zo List.length h;rw[ZL,Zn] at this;simp at this;omega
 have S:Hid (dec (s.data.toList.drop k)=refFrom 4 1 (s.data.toList.drop k)):=(EH _ Y).symm;clear Y;obtain ⟨l,O⟩:∃l,s.data.toList.drop k=l:=⟨_,rfl⟩;have V:=gd O;rw[O] at S|-;clear O;have ha:decide (s.size<=k)=false:=by simp;omega
 have Z:decide ((k:Int)<0)=false:=by simp
 go_enter func127,ntmps127;go_wp2;go_loopw [6,7,8] (λv _ _ wr=>∃n:Nat,1<=n/\n<=5/\k+n<=s.size+1/\v= .int .i64 n/\Hid (dec l=refFrom (5 - n) n l)/\Ext w wr) (λv _ _ _=>5 - (intOf v).toNat)
 case atStart=>exact ⟨1,by omega,by omega,by omega,rfl,S,Ext.refl _⟩
 case round=>
  obtain ⟨n,h1,h5,hn,rfl,Q,K⟩:=hrel;clear S ha Z;by_cases X:n<=4/\k+n<=s.size
  ·obtain ⟨h4,D⟩:=X;have R:n=1\/n=2\/n=3\/n=4:=(by omega);rcases R with rfl|rfl|rfl|rfl
   ·clear h1 h5 h4 hn;have b0:=X3 (s[k]'(by omega));have A:Hid (acc 1 (s.data.toList.drop k) (1 - 1)=(s[k].toNat:Int).toNat):=(by show _=_;simp only[acc,accStart,show 1 - 1=0 from rfl,JA s k 0 (by omega)];simp);go_wp2;refine Xe 1 ?_;rw[rounds_succ];go_wp2;have G:(k:Int)+1<=s.size:=(by omega);have F:0<=(k:Int)+1:=(by omega);have H:(k:Int)<=(k:Int)+1:=(by omega);have I:IntKind.i64.wrap ((k:Int)+1)=(k:Int)+1:=IntWalk.i64_in _ (by omega);have J:((k:Int)+1).toNat=k+1:=by omega
    go_region_with (go_at_call 155;refine (JD _ _ (by omega) (by omega)).mono ?_;rintro e w' ⟨rfl,C⟩)
    clear G F H I J;go_wp2
    all_goals have U:((str (encN (s[k].toNat:Int).toNat)).toList==(s.extract k (k+1)).toList)=true\/((str (encN (s[k].toNat:Int).toNat)).toList==(s.extract k (k+1)).toList)=false:=by first|exact Or.inl ‹_› |exact Or.inr ‹_›
    all_goals have O:=V.out
    all_goals subst O
    all_goals first|(have j:=Kb s k 1 (by omega) (by omega) D _ A.out Q.out ‹_›;go_ret2;exact ⟨by rw[j];exact Kd (by simp only[];omega) rfl,(K.drew).trans C⟩)|(have j:=Zak s k 1 (by omega) (by omega) D _ A.out Q.out ‹_›;go_roundw;(case rel=>(first|exact ⟨1+1,by omega,by omega,by omega,rfl,j,(K.drew).trans C⟩|((repeat apply Ye);exact ⟨⟨1+1,by omega,by omega,by omega,rfl,j,(K.drew).trans C⟩,rfl⟩)));(case measure=>simp[intOf]))
   ·clear h1 h5 h4 hn;have b0:=X3 (s[k]'(by omega));have b1:=X3 (s[k+1]'(by omega));have A:Hid (acc 2 (s.data.toList.drop k) (2 - 1)=((s[k].toNat:Int) % 32*64+(s[k+1].toNat:Int) % 64).toNat):=(by show _=_;simp only[acc,accStart,show 2 - 1=1 from rfl,JA s k 0 (by omega),JA s k 1 (by omega)];simp;omega);go_wp2;refine Xe 2 ?_;rw[rounds_succ];go_wp2;rw[rounds_succ];go_wp2;have G:(k:Int)+2<=s.size:=(by omega);have F:0<=(k:Int)+2:=(by omega);have H:(k:Int)<=(k:Int)+2:=(by omega);have I:IntKind.i64.wrap ((k:Int)+2)=(k:Int)+2:=IntWalk.i64_in _ (by omega);have J:((k:Int)+2).toNat=k+2:=by omega
    go_region_with (go_at_call 155;refine (JD _ _ (by omega) (by omega)).mono ?_;rintro e w' ⟨rfl,C⟩)
    clear G F H I J;go_wp2
    all_goals have U:((str (encN ((s[k].toNat:Int) % 32*64+(s[k+1].toNat:Int) % 64).toNat)).toList==(s.extract k (k+2)).toList)=true\/((str (encN ((s[k].toNat:Int) % 32*64+(s[k+1].toNat:Int) % 64).toNat)).toList==(s.extract k (k+2)).toList)=false:=by first|exact Or.inl ‹_› |exact Or.inr ‹_›
    all_goals have O:=V.out
    all_goals subst O
    all_goals first|(have j:=Kb s k 2 (by omega) (by omega) D _ A.out Q.out ‹_›;go_ret2;exact ⟨by rw[j];exact Kd (by simp only[];omega) rfl,(K.drew).trans C⟩)|(have j:=Zak s k 2 (by omega) (by omega) D _ A.out Q.out ‹_›;go_roundw;(case rel=>(first|exact ⟨2+1,by omega,by omega,by omega,rfl,j,(K.drew).trans C⟩|((repeat apply Ye);exact ⟨⟨2+1,by omega,by omega,by omega,rfl,j,(K.drew).trans C⟩,rfl⟩)));(case measure=>simp[intOf]))
   ·clear h1 h5 h4 hn;have b0:=X3 (s[k]'(by omega));have b1:=X3 (s[k+1]'(by omega));have b2:=X3 (s[k+2]'(by omega));have A:Hid (acc 3 (s.data.toList.drop k) (3 - 1)=(((s[k].toNat:Int) % 16*64+(s[k+1].toNat:Int) % 64)*64+(s[k+2].toNat:Int) % 64).toNat):=(by show _=_;simp only[acc,accStart,show 3 - 1=2 from rfl,JA s k 0 (by omega),JA s k 1 (by omega),JA s k 2 (by omega)];simp;omega);go_wp2;refine Xe 3 ?_;rw[rounds_succ];go_wp2;rw[rounds_succ];go_wp2;rw[rounds_succ];go_wp2;have G:(k:Int)+3<=s.size:=(by omega);have F:0<=(k:Int)+3:=(by omega);have H:(k:Int)<=(k:Int)+3:=(by omega);have I:IntKind.i64.wrap ((k:Int)+3)=(k:Int)+3:=IntWalk.i64_in _ (by omega);have J:((k:Int)+3).toNat=k+3:=by omega
    go_region_with (go_at_call 155;refine (JD _ _ (by omega) (by omega)).mono ?_;rintro e w' ⟨rfl,C⟩)
    clear G F H I J;go_wp2
    all_goals have U:((str (encN (((s[k].toNat:Int) % 16*64+(s[k+1].toNat:Int) % 64)*64+(s[k+2].toNat:Int) % 64).toNat)).toList==(s.extract k (k+3)).toList)=true\/((str (encN (((s[k].toNat:Int) % 16*64+(s[k+1].toNat:Int) % 64)*64+(s[k+2].toNat:Int) % 64).toNat)).toList==(s.extract k (k+3)).toList)=false:=by first|exact Or.inl ‹_› |exact Or.inr ‹_›
    all_goals have O:=V.out
    all_goals subst O
    all_goals first|(have j:=Kb s k 3 (by omega) (by omega) D _ A.out Q.out ‹_›;go_ret2;exact ⟨by rw[j];exact Kd (by simp only[];omega) rfl,(K.drew).trans C⟩)|(have j:=Zak s k 3 (by omega) (by omega) D _ A.out Q.out ‹_›;go_roundw;(case rel=>(first|exact ⟨3+1,by omega,by omega,by omega,rfl,j,(K.drew).trans C⟩|((repeat apply Ye);exact ⟨⟨3+1,by omega,by omega,by omega,rfl,j,(K.drew).trans C⟩,rfl⟩)));(case measure=>simp[intOf]))
   ·clear h1 h5 h4 hn;have b0:=X3 (s[k]'(by omega));have b1:=X3 (s[k+1]'(by omega));have b2:=X3 (s[k+2]'(by omega));have b3:=X3 (s[k+3]'(by omega));have A:Hid (acc 4 (s.data.toList.drop k) (4 - 1)=((((s[k].toNat:Int) % 8*64+(s[k+1].toNat:Int) % 64)*64+(s[k+2].toNat:Int) % 64)*64+(s[k+3].toNat:Int) % 64).toNat):=(by show _=_;simp only[acc,accStart,show 4 - 1=3 from rfl,JA s k 0 (by omega),JA s k 1 (by omega),JA s k 2 (by omega),JA s k 3 (by omega)];simp;omega);go_wp2;refine Xe 4 ?_;rw[rounds_succ];go_wp2;rw[rounds_succ];go_wp2;rw[rounds_succ];go_wp2;rw[rounds_succ];go_wp2;have G:(k:Int)+4<=s.size:=(by omega);have F:0<=(k:Int)+4:=(by omega);have H:(k:Int)<=(k:Int)+4:=(by omega);have I:IntKind.i64.wrap ((k:Int)+4)=(k:Int)+4:=IntWalk.i64_in _ (by omega);have J:((k:Int)+4).toNat=k+4:=by omega
    go_region_with (go_at_call 155;refine (JD _ _ (by omega) (by omega)).mono ?_;rintro e w' ⟨rfl,C⟩)
    clear G F H I J;go_wp2
    all_goals have U:((str (encN ((((s[k].toNat:Int) % 8*64+(s[k+1].toNat:Int) % 64)*64+(s[k+2].toNat:Int) % 64)*64+(s[k+3].toNat:Int) % 64).toNat)).toList==(s.extract k (k+4)).toList)=true\/((str (encN ((((s[k].toNat:Int) % 8*64+(s[k+1].toNat:Int) % 64)*64+(s[k+2].toNat:Int) % 64)*64+(s[k+3].toNat:Int) % 64).toNat)).toList==(s.extract k (k+4)).toList)=false:=by first|exact Or.inl ‹_› |exact Or.inr ‹_›
    all_goals have O:=V.out
    all_goals subst O
    all_goals first|(have j:=Kb s k 4 (by omega) (by omega) D _ A.out Q.out ‹_›;go_ret2;exact ⟨by rw[j];exact Kd (by simp only[];omega) rfl,(K.drew).trans C⟩)|(have j:=Zak s k 4 (by omega) (by omega) D _ A.out Q.out ‹_›;go_roundw;(case rel=>(first|exact ⟨4+1,by omega,by omega,by omega,rfl,j,(K.drew).trans C⟩|((repeat apply Ye);exact ⟨⟨4+1,by omega,by omega,by omega,rfl,j,(K.drew).trans C⟩,rfl⟩)));(case measure=>simp[intOf]))
  ·have j:dec l=(0,0):=by
    rw[Q.out];have hb:l.length=s.size - k:=(by rw[<-V.out,ZL,Zn]);cases h:5 - n with
    |zero=>rfl
    |succ m=>rw[refFrom,Zf (by omega)]
   have HF:=gd j;clear j Q;by_cases h6:n=5
   ·subst h6;go_wp2
    all_goals go_ret2
    all_goals exact ⟨by rw[HF.out];rfl,K⟩
   ·have h7:s.size<k+n:=(by omega);clear X h6;go_wp2
    all_goals go_ret2
    all_goals exact ⟨by rw[HF.out];rfl,K⟩
theorem Ga (s:ByteArray) (w:World) (hs:s.size<=maxLen):
 Calls prog 79 #[.string s] w λe w'=>e= .returned (.tuple #[.int .i64 ((checkS s).1:Nat),.int .i64 ((checkS s).2:Nat)])/\Ext w w':=by
 have Z:=hs;unfold maxLen at hs;go_enter func79,ntmps79;go_wp2;go_loopw [4,5,6] (λv _ _ wr=>∃k:Nat,k<=s.size/\v= .int .i64 k/\Hid (checkS s=checkGo s.data.toList.length k (s.data.toList.drop k))/\Ext w wr) (λv _ _ _=>s.size - (intOf v).toNat)
 case atStart=>exact ⟨0,Zt _,rfl,rfl,Ext.refl _⟩
 case round=>
  obtain ⟨k,hk,rfl,Q,S⟩:=hrel;by_cases J:k<s.size
  ·have O:=Zav s.data.toList k (by rw[Zn];exact J);have I:=Gk (s.data.toList.drop k);rw[ZL,Zn] at I;have A:=U7 s k wr J Z;have F:=Q.out.trans O;clear Q O;obtain ⟨R,hR⟩:∃R,(dec (s.data.toList.drop k)).1=R:=⟨_,rfl⟩;obtain ⟨K,hK⟩:∃K,(dec (s.data.toList.drop k)).2=K:=⟨_,rfl⟩;rw[hR,hK] at A F;rw[hK] at I;clear hR hK;have U:=gd A;have G:=gd F;clear A F;by_cases X:K=0
   ·subst X;have j:=G.out;rw[Zi rfl] at j;have H:=gd j;clear j G
    go_wp2_with (first|(go_at_call 127;refine (U.out).mono ?_;rintro e w' ⟨rfl,C⟩))
    go_ret2
    exact ⟨by rw[H.out];rfl,S.trans C⟩
   ·have hb:((K:Int)==0)=false:=(by rw[ZV];omega);by_cases D:isChar R=false
    ·have j:=G.out;rw[Zf X,Zi D] at j;have H:=gd j;clear j G
     go_wp2_with (first|(go_at_call 127;refine (U.out).mono ?_;rintro e w' ⟨rfl,C⟩)|(go_at_call 128;refine (V3 _ _).mono ?_;rintro e w' ⟨rfl,rfl⟩))
     go_ret2
     exact ⟨by rw[H.out];rfl,S.trans C⟩
    ·have ha:isChar R=true:=(by simpa using D);have V:Hid (checkS s=checkGo s.data.toList.length (k+K) (s.data.toList.drop (k+K))):=(by have h:=G.out;rw[Zf X,Zf D] at h;exact h);clear G D
     go_wp2_with (first|(go_at_call 127;refine (U.out).mono ?_;rintro e w' ⟨rfl,C⟩)|(go_at_call 128;refine (V3 _ _).mono ?_;rintro e w' ⟨rfl,rfl⟩))
     go_roundw
     case rel=>exact ⟨k+K,by omega,by go_num,V,S.trans C⟩
     case measure=>simp[intOf];omega
  ·have Y:k=s.size:=(by omega);have j:checkS s=(k,0):=(by rw[Q.out,IZ _ _ (by rw[Zn];omega)]);have H:=gd j;clear j Q Y;go_wp2
   go_ret2
   exact ⟨by rw[H.out];rfl,S⟩
theorem VD (l:List UInt8):∀y∈Lib.byteCells l,y.oneCell'=true:=by
 intro y h;simp[Lib.byteCells] at h;obtain ⟨b,_,rfl⟩:=h;rfl
theorem Vr (w:World) (base:Nat) (v:Value) (l:List UInt8) (h:w.ownsRow base 5 1 v l.length (Lib.byteCells l)):
 (convert 115 9 v).run prog w= .ok (.string (str l)) w:=by
 rcases h.2 with ⟨rfl,D⟩|⟨g,cap,C,rfl,_⟩
 ·have:l= []:=ZI D;subst this;exact run_convert_bytes_nil w _ 5 underlying115 underlying5 0 0 _ underlying9
 ·have:=run_convert_bytes_arg (P:=prog) w _ 5 underlying115 underlying5 g 0 l.length cap (l.map λb=>(b.toNat:Int)) (by simp) (λi A=> ?_) 9 underlying9
  ·rw[this];have e:strOfNums (l.map λb=>(b.toNat:Int))=str l:=(by rw[Uz,Vo];refine Zo str ((List.map_congr_left ?_).trans (List.map_id l));intro x _;simp);rw[e]
  ·have j:=h.cells (g:=g) rfl i (.int .u8 (l[i].toNat)) (by simp[Lib.byteCells,Zc A]);rw[show (⟨g,0,none⟩:Addr).add i=⟨g,0+i,none⟩ from by unfold Addr.add;split<;>simp_all] at j;rw[j];simp[List.getD,Zc A]
def gapOf (l:List UInt8) (k:Nat) (out:List UInt8):Bool:=decide (0<k) && isSp (l.getD (k - 1) 0).toNat && !out.isEmpty
theorem ZgJ (s:ByteArray) (out:List UInt8) (k:Nat) (j:k<s.size) (h:isSp (s[k].toNat)=true):gapOf s.data.toList (k+1) out= !out.isEmpty:=by
 unfold gapOf;have:s.data.toList.getD (k+1 - 1) 0=s[k]:=by rw[Nat.add_sub_cancel,YA,Zc (by rw[Zn];exact j)];rfl
 rw[this,h];simp
theorem KC (s:ByteArray) (out:List UInt8) (k:Nat) (j:k<s.size) (h:isSp (s[k].toNat)=false):gapOf s.data.toList (k+1) out=false:=by
 unfold gapOf;have:s.data.toList.getD (k+1 - 1) 0=s[k]:=by rw[Nat.add_sub_cancel,YA,Zc (by rw[Zn];exact j)];rfl
 rw[this,h];simp
theorem Vi (s:ByteArray) (w:World) (hs:s.size<=140737488351232):
 Calls prog 81 #[.string s] w λe w'=>e= .returned (.string (collapse s))/\Ext w w':=by
 obtain ⟨i0,V,Z,ha,hb⟩:=Yr UI;go_enter func81,ntmps81;go_wp2;go_loopw [3,4] (λv i wr=>∃(k:Nat) (out:List UInt8),k<=s.size/\i= .int .i64 k/\Hid (out.length+(if gapOf s.data.toList k out then 1 else 0)<=k)/\
  wr.ownsRow w.heap.size 5 1 v out.length (Lib.byteCells out)/\Hid (coll s.data.toList=collGo (s.data.toList.drop k) out (gapOf s.data.toList k out))/\Ext w wr) (λ_ i _=>s.size - (intOf i).toNat)
 case atStart=>exact ⟨0,[],Zt _,rfl,by show _<=_;simp[gapOf],Yc _ _ _ _,rfl,Ext.refl _⟩
 case round=>
  obtain ⟨k,out,hk,rfl,G,O,hc,hx⟩:=hrel;have hw:=hx.size;have hu:out.length<=k:=by have:=G.out;omega
  by_cases R:k<s.size
  ·by_cases Y:isSp (s[k]).toNat=true
   ·have S:=gd (hc.out.trans (ZcG s out _ k R Y));rw[<-ZgJ s out k R Y] at S;have U:Hid (out.length+(if gapOf s.data.toList (k+1) out then 1 else 0)<=k+1):=(by show _<=_;split<;>omega);clear hc G
    go_wp2_with (go_at_call 113;refine (Xt _ _).mono ?_;rintro e w' ⟨rfl,rfl⟩)
    go_roundw
    case rel=>exact ⟨k+1,out,by omega,by go_num,U,O,S,hx⟩
    case measure=>simp[intOf];omega
   ·have Q:isSp (s[k]).toNat=false:=(by simpa using Y);have hi:=KC s;have J:=hc.out.trans (ZcF s out _ k R Q);cases hg:gapOf s.data.toList k out
    ·rw[hg] at J;simp only[Ja,ZgK,Zhj] at J;rw[<-KC s (out++ [s[k]]) k R Q] at J;have S:=gd J;have U:Hid ((out++ [s[k]]).length+(if gapOf s.data.toList (k+1) (out++ [s[k]]) then 1 else 0)<=k+1):=(by show _<=_;rw[KC s _ k R Q];simp;omega);clear hc G J hi Y;have F:=O;obtain ⟨_,A,c,rfl,hr,ho,_,_⟩:=RSl.of_own O;unfold gapOf at hg;have he:k=0\/(∃j,k=j+1/\isSp (s.data.toList.getD j 0).toNat=false)\/(∃j,k=j+1/\isSp (s.data.toList.getD j 0).toNat=true/\out= []):=by
      cases k with
      |zero=>exact Or.inl rfl
      |succ j=>
       simp at hg;cases h:isSp (s.data.toList.getD j 0).toNat
       ·exact Or.inr (Or.inl ⟨j,rfl,h⟩)
       ·exact Or.inr (Or.inr ⟨j,rfl,h,by simpa using hg (by simpa using h)⟩)
     clear hg;rcases he with rfl|⟨j,rfl,hj⟩|⟨j,rfl,hj,rfl⟩
     ·go_wp2_with (first|(go_at_call 113;refine (Xt _ _).mono ?_;rintro e w' ⟨rfl,rfl⟩)|(at_builtin;refine Zq _ rfl (.tmp 33) (.tmp 37) _ rfl w.heap.size 5 i0 _ 1 1 underlying115 V Z ha hb rfl (by omega) _ _ _ rfl (F.alloc _) _ 1 _ rfl (ZY (cs:= [.int .u8 s[0].toNat]) (by simp) (by unfold maxLen;omega)) (VD [s[0]]) (by unfold maxLen;omega) (by omega) (by simp;omega) ?_;intro v1 w1 C H I))
      have K:Ext w w1:=(hx.alloc _).app H (F.alloc _) (Zd _);have D:w1.ownsRow w.heap.size 5 1 v1 (out++ [s[0]]).length (Lib.byteCells (out++ [s[0]])):=(by rw[ZJ,Zj];exact C);clear H I C;go_wp2;go_roundw
      case rel=>first|exact ⟨0+1,out++ [s[0]],by omega,by go_num,U,D,S,K⟩|((repeat apply Ye);exact ⟨⟨0+1,out++ [s[0]],by omega,by go_num,U,D,S,K⟩,rfl⟩)
      case measure=>simp[intOf];omega
     ·have hl:isSp (s[j].toNat)=false:=by rw[<-hj,YA,Zc (by rw[Zn];omega)];rfl
      go_wp2_with (first|(go_at_call 113;refine (Xt _ _).mono ?_;rintro e w' ⟨rfl,rfl⟩)|(at_builtin;refine Zq _ rfl (.tmp 33) (.tmp 37) _ rfl w.heap.size 5 i0 _ 1 1 underlying115 V Z ha hb rfl (by omega) _ _ _ rfl (F.alloc _) _ 1 _ rfl (ZY (cs:= [.int .u8 s[j+1].toNat]) (by simp) (by unfold maxLen;omega)) (VD [s[j+1]]) (by unfold maxLen;omega) (by omega) (by simp;omega) ?_;intro v1 w1 C H I))
      have K:Ext w w1:=(hx.alloc _).app H (F.alloc _) (Zd _);have D:w1.ownsRow w.heap.size 5 1 v1 (out++ [s[j+1]]).length (Lib.byteCells (out++ [s[j+1]])):=(by rw[ZJ,Zj];exact C);clear H I C;go_wp2;go_roundw
      case rel=>first|exact ⟨j+1+1,out++ [s[j+1]],by omega,by go_num,U,D,S,K⟩|((repeat apply Ye);exact ⟨⟨j+1+1,out++ [s[j+1]],by omega,by go_num,U,D,S,K⟩,rfl⟩)
      case measure=>simp[intOf];omega
     ·have hl:isSp (s[j].toNat)=true:=by rw[<-hj,YA,Zc (by rw[Zn];omega)];rfl
      go_wp2_with (first|(go_at_call 113;refine (Xt _ _).mono ?_;rintro e w' ⟨rfl,rfl⟩)|(at_builtin;refine Zq _ rfl (.tmp 33) (.tmp 37) _ rfl w.heap.size 5 i0 _ 1 1 underlying115 V Z ha hb rfl (by omega) _ _ _ rfl (F.alloc _) _ 1 _ rfl (ZY (cs:= [.int .u8 s[j+1].toNat]) (by simp) (by unfold maxLen;omega)) (VD [s[j+1]]) (by unfold maxLen;omega) (by omega) (by simp;omega) ?_;intro v1 w1 C H I))
      have K:Ext w w1:=(hx.alloc _).app H (F.alloc _) (Zd _);have D:w1.ownsRow w.heap.size 5 1 v1 (([]:List UInt8)++ [s[j+1]]).length (Lib.byteCells (([]:List UInt8)++ [s[j+1]])):=(by rw[ZJ,Zj];exact C);clear H I C;go_wp2;go_roundw
      case rel=>first|exact ⟨j+1+1,([]:List UInt8)++ [s[j+1]],by omega,by go_num,U,D,S,K⟩|((repeat apply Ye);exact ⟨⟨j+1+1,([]:List UInt8)++ [s[j+1]],by omega,by go_num,U,D,S,K⟩,rfl⟩)
      case measure=>simp[intOf];omega
    ·rw[hg] at J G;simp only[Eq] at J G;have hq:=G.out;rw[<-KC s (out++ [32]++ [s[k]]) k R Q] at J;have S:=gd J;have U:Hid ((out++ [32]++ [s[k]]).length+(if gapOf s.data.toList (k+1) (out++ [32]++ [s[k]]) then 1 else 0)<=k+1):=(by show _<=_;rw[KC s _ k R Q];simp;omega);clear hc G J hi Y;have F:=O;obtain ⟨_,A,c,rfl,hr,ho,_,_⟩:=RSl.of_own O;unfold gapOf at hg;simp only[ZU,Z6] at hg;obtain ⟨⟨hp,hj⟩,hm⟩:=hg;obtain ⟨j,rfl⟩:∃j,k=j+1:=⟨k - 1,by omega⟩;rw[Nat.add_sub_cancel] at hj;have hl:isSp (s[j].toNat)=true:=(by rw[<-hj,YA,Zc (by rw[Zn];omega)];rfl);have ht:0<out.length:=by
      cases out with
      |nil=>simp at hm
      |cons a t=>simp
     clear hp hj hm
     go_wp2_with (first|(go_at_call 113;refine (Xt _ _).mono ?_;rintro e w' ⟨rfl,rfl⟩)|(at_builtin;refine Zq _ rfl (.tmp 30) (.tmp 31) _ rfl w.heap.size 5 i0 _ 1 1 underlying115 V Z ha hb rfl (by omega) _ _ _ rfl (F.alloc _) _ 1 _ rfl (ZY (cs:= [.int .u8 32]) (by simp) (by unfold maxLen;omega)) (by intro y hy;simp at hy;subst hy;rfl) (by unfold maxLen;omega) (by omega) (by simp;omega) ?_;intro v1 w1 C H I;have hv:w.heap.size<=w1.heap.size:=((hx.alloc _).app H (F.alloc _) (Zd _)).size)|(at_builtin;refine Zq _ rfl (.tmp 33) (.tmp 37) _ rfl w.heap.size 5 i0 _ 1 1 underlying115 V Z ha hb rfl (by omega) _ _ _ rfl (C.alloc _) _ 1 _ rfl (ZY (cs:= [.int .u8 s[j+1].toNat]) (by simp) (by unfold maxLen;omega)) (VD [s[j+1]]) (by unfold maxLen;omega) (by omega) (by simp;omega) ?_;intro v2 w2 D hh hf))
     have K:Ext w w1:=(hx.alloc _).app H (F.alloc _) (Zd _);have hn:Ext w w2:=(K.alloc _).app hh (C.alloc _) (Zd _);have X:w2.ownsRow w.heap.size 5 1 v2 (out++ [32]++ [s[j+1]]).length (Lib.byteCells (out++ [32]++ [s[j+1]])):=(by rw[ZJ,ZJ,Zj,Zj];exact D);clear H I C hh hf D;go_wp2;go_roundw
     case rel=>first|exact ⟨j+1+1,out++ [32]++ [s[j+1]],by omega,by go_num,U,X,S,hn⟩|((repeat apply Ye);exact ⟨⟨j+1+1,out++ [32]++ [s[j+1]],by omega,by go_num,U,X,S,hn⟩,rfl⟩)
     case measure=>simp[intOf];omega
  ·have hd:coll s.data.toList=out:=(by rw[hc.out,ZB (by rw[Zn];omega)];rfl);have HF:Hid (str out=collapse s):=(by unfold collapse;rw[hd];rfl);have kc:=Vr wr _ _ out O;clear hd hc G;go_wp2;go_ret;exact ⟨by rw[<-HF.out];rfl,hx⟩
theorem Zca (n:Nat) (w:World):Calls prog 182 #[.int .u8 (n:Nat)] w λe w'=>e= .returned (.int .u8 (letterN n:Nat))/\w=w':=by
 obtain ⟨L,h⟩:∃L,letterN n=L:=⟨_,rfl⟩;rw[h];have j:=gd h;clear h;go_enter func182,ntmps182;go_wp2
 all_goals (go_ret;refine ⟨Zgk ?_,rfl⟩)
 all_goals (rw[<-j.out];unfold letterN;simp at*;(repeat' split)<;>omega)
theorem Ib (s:ByteArray) (w:World) (hs:s.size<=16777216):
 Calls prog 181 #[.string s] w λe w'=>e= .returned (.bool (Lib.validD s.data.toList))/\Ext w w':=by
 have U:s.size<=maxLen:=by unfold maxLen;omega
 obtain ⟨V,S⟩:∃V,Lib.validD s.data.toList=V:=⟨_,rfl⟩;rw[S];have HV:=gd S;clear S;go_enter func181,ntmps181;go_wp2;go_loopw [3,4,5] (λv _ _ wr=>∃k:Nat,k<=s.size/\v= .int .i64 k/\Hid (V=Lib.validD (s.data.toList.drop k))/\Ext w wr) (λv _ _ _=>s.size - (intOf v).toNat)
 case atStart=>exact ⟨0,Zt _,rfl,HV.out.symm,Ext.refl _⟩
 case round=>
  obtain ⟨k,hk,rfl,J,X⟩:=hrel;by_cases G:k<s.size
  ·have H:=Iq s.data.toList k (by rw[Zn];exact G);have F:=Gk (s.data.toList.drop k);rw[ZL,Zn] at F;have A:=U7 s k wr G U;have C:=J.out.trans H;clear J H;obtain ⟨R,hR⟩:∃R,(dec (s.data.toList.drop k)).1=R:=⟨_,rfl⟩;obtain ⟨K,hK⟩:∃K,(dec (s.data.toList.drop k)).2=K:=⟨_,rfl⟩;rw[hR,hK] at A;rw[hK] at F C;clear hR hK;have Y:=gd A;have I:=gd C;clear A C;by_cases Z:K=0
   ·subst Z;have j:=I.out;rw[Zi rfl] at j;have O:=gd j;clear j I
    go_wp2_with (first|(go_at_call 127;refine (Y.out).mono ?_;rintro e w' ⟨rfl,D⟩))
    go_ret;exact ⟨by rw[O.out];rfl,X.trans D⟩
   ·have hb:((K:Int)==0)=false:=(by rw[ZV];omega);have Q:Hid (V=Lib.validD (s.data.toList.drop (k+K))):=(by have h:=I.out;rw[Zf Z] at h;exact h);clear I
    go_wp2_with (first|(go_at_call 127;refine (Y.out).mono ?_;rintro e w' ⟨rfl,D⟩))
    go_roundw
    case rel=>exact ⟨k+K,by omega,by go_num,Q,X.trans D⟩
    case measure=>simp[intOf];omega
  ·have j:V=true:=(by rw[J.out,Zee _ _ (by rw[Zn];omega)]);have O:=gd j;clear j J;go_wp2;go_ret;exact ⟨by rw[O.out];rfl,X⟩
def qPre (l:List UInt8) (k:Nat):List UInt8:=34::(l.take k).flatMap qB
theorem EG (s:ByteArray) (k:Nat) (h:k<s.size):qPre s.data.toList (k+1)=qPre s.data.toList k++qB s[k]:=by
 unfold qPre;rw[Zy (by rw[Zn];exact h)];simp;rfl
theorem Zbk (l:List UInt8) (k:Nat):(qPre l k).length<=1+6*k:=by
 unfold qPre;have h:=ZeH (l.take k);have j:(l.take k).length<=k:=List.length_take_le _ _;simp only[Zr];omega
theorem Zbj (l:List UInt8):qPre l l.length++ [34]=quoteL l:=by
 unfold qPre quoteL;simp
theorem ZeQ (n:Nat) (A:n<16) (h:n<({data:=#[48,49,50,51,52,53,54,55,56,57,97,98,99,100,101,102]}:ByteArray).size):({data:=#[48,49,50,51,52,53,54,55,56,57,97,98,99,100,101,102]}:ByteArray)[n]=hexD n:=by
 have j:n=0\/n=1\/n=2\/n=3\/n=4\/n=5\/n=6\/n=7\/n=8\/n=9\/n=10\/n=11\/n=12\/n=13\/n=14\/n=15:=by omega
 rcases j with rfl|rfl|rfl|rfl|rfl|rfl|rfl|rfl|rfl|rfl|rfl|rfl|rfl|rfl|rfl|rfl<;>rfl
theorem Zb9 (n:Nat) (h:n<256):letterN n<256:=by
 unfold letterN
 repeat' split
 all_goals omega
theorem Ia (s:ByteArray) (w:World) (hs:s.size<=16777216):
 Calls prog 153 #[.string s] w λe w'=>e= .returned (.tuple #[.string (quoteS s).1,.int .i64 ((quoteS s).2:Nat)])/\Ext w w':=by
 have R:=Ib s w hs;obtain ⟨V,hV⟩:∃V,Lib.validD s.data.toList=V:=⟨_,rfl⟩;rw[hV] at R;have hq:quoteS s=if V then (str (quoteL s.data.toList),0) else (str [],5):=by unfold quoteS;rw[hV]
 rw[hq];clear hq hV;have he:=gd R;clear R;obtain ⟨i0,Y,Z,hc,hd⟩:=Yr UI;cases V
 ·go_enter func153,ntmps153
  go_wp2_with (go_at_call 181;refine (he.out).mono ?_;rintro e w' ⟨rfl,hx⟩)
  go_ret2
  exact ⟨rfl,hx⟩
 ·obtain ⟨Q,hQ⟩:∃Q,quoteL s.data.toList=Q:=⟨_,rfl⟩;rw[hQ];have HQ:=gd hQ;clear hQ;simp only[Eq];go_enter func153,ntmps153
  go_wp2_with (go_at_call 181;refine (he.out).mono ?_;rintro e w' ⟨rfl,hx⟩)
  have ho:=hx.size;go_loopw [4,5,6] (λv i _ wr=>∃k:Nat,k<=s.size/\i= .int .i64 k/\wr.ownsRow w.heap.size 5 1 v (qPre s.data.toList k).length (Lib.byteCells (qPre s.data.toList k))/\Ext w wr) (λ_ i _ _=>s.size - (intOf i).toNat)
  case atStart=>exact ⟨0,Zt _,rfl,JC (cs:= [.int .u8 34]) ho (by simp) (by unfold maxLen;omega),hx.alloc _⟩
  case round=>
   obtain ⟨k,hk,rfl,J,S⟩:=hrel;have hv:=S.size;have hu:=Zbk s.data.toList k;by_cases hm:k<s.size
   ·have D:=EG s k hm;have C:=J;obtain ⟨_,A,c,rfl,hn,hi,_,_⟩:=RSl.of_own J;have K:=Zca s[k].toNat;have ht:=X3 s[k];by_cases U:letterN s[k].toNat=0
    ·rw[U] at K;have X:=gd K;clear K;by_cases hh:s[k].toNat<32
     ·rw[ZgW _ U hh] at D
      replace D:=gd D
      have HL:=gd U;clear U
      go_wp2_with (go_at_call 182;refine (X.out _).mono ?_;rintro e w' ⟨rfl,rfl⟩)
      obtain ⟨a,ha⟩:∃a,s[k].toNat / 16=a:=⟨_,rfl⟩;obtain ⟨b,hb⟩:∃b,s[k].toNat % 16=b:=⟨_,rfl⟩;rw[ha,hb] at D;have hp:(a:Int)<16:=(by omega);have hr:(b:Int)<16:=(by omega);have hw:IntKind.u8.wrap ((s[k].toNat:Int) / 16)=(a:Int):=(by rw[IntKind.wrap_u8];omega);have hz:((s[k].toNat:Int)).tmod 16=(b:Int):=(by rw[Int.tmod_eq_emod_of_nonneg (by omega)];omega);clear ha hb
      go_region_law (refine Z5 _ rfl (.tmp 36) (.tmp 43) _ rfl w.heap.size 5 i0 _ 1 1 underlying115 Y Z hc hd rfl (by omega) _ _ _ rfl ((C.alloc _).drew) _ 6 _ rfl (RSl.ext (ZY (by simp) (by unfold maxLen;omega)) (Ext.refl _).drew) (by intro y O;simp at O;rcases O with rfl|rfl|rfl|rfl|rfl<;>rfl) (by unfold maxLen;omega) (by omega) (by simp;omega) ?_;intro v1 H h G F)
      all_goals have I:Ext w H:=((S.alloc _).drew).app G (C.alloc _).drew (Zd _)
      all_goals rw[ZeQ a (by omega),ZeQ b (by omega)] at h
      all_goals have j:H.ownsRow w.heap.size 5 1 v1 (qPre s.data.toList (k+1)).length (Lib.byteCells (qPre s.data.toList (k+1))):=(by rw[D.out,ZJ,Zj];exact h)
      all_goals clear G F h
      all_goals go_wp2
      all_goals go_roundw
      all_goals first|exact ⟨k+1,by omega,by go_num,j,I⟩|(simp[intOf];omega)|((repeat apply Ye);exact ⟨⟨k+1,by omega,by go_num,j,I⟩,rfl⟩)
     ·rw[Zgj _ U (by omega)] at D
      replace D:=gd D
      have HL:=gd U;clear U
      go_wp2_with (first|(go_at_call 182;refine (X.out _).mono ?_;rintro e w' ⟨rfl,rfl⟩)|(at_builtin;refine Zq _ rfl (.tmp 20) (.tmp 22) _ rfl w.heap.size 5 i0 _ 1 1 underlying115 Y Z hc hd rfl (by omega) _ _ _ rfl (C.alloc _) _ 1 _ rfl (ZY (cs:= [.int .u8 s[k].toNat]) (by simp) (by unfold maxLen;omega)) (by intro y O;simp at O;(first|(rcases O with rfl|rfl<;>rfl)|(subst O;rfl))) (by unfold maxLen;omega) (by omega) (by simp;omega) ?_;intro v1 H h G F))
      have I:Ext w H:=(S.alloc _).app G (C.alloc _) (Zd _);have j:H.ownsRow w.heap.size 5 1 v1 (qPre s.data.toList (k+1)).length (Lib.byteCells (qPre s.data.toList (k+1))):=(by rw[D.out,ZJ,Zj];exact h);clear G F h;go_wp2;go_roundw
      case rel=>first|exact ⟨k+1,by omega,by go_num,j,I⟩|((repeat apply Ye);exact ⟨⟨k+1,by omega,by go_num,j,I⟩,rfl⟩)
      case measure=>simp[intOf];omega
    ·rw[ZdM _ U] at D
     replace D:=gd D
     have hf:=Zb9 s[k].toNat (Y8 _);obtain ⟨N,hN⟩:∃N,letterN s[k].toNat=N:=⟨_,rfl⟩;rw[hN] at K D U hf;have X:=gd K;have hb:((N:Int) !=0)=true:=(by rw[Yj];omega);clear K hN U
     go_wp2_with (first|(go_at_call 182;refine (X.out _).mono ?_;rintro e w' ⟨rfl,rfl⟩)|(at_builtin;refine Zq _ rfl (.tmp 28) (.tmp 31) _ rfl w.heap.size 5 i0 _ 1 1 underlying115 Y Z hc hd rfl (by omega) _ _ _ rfl (C.alloc _) _ 2 _ rfl (ZY (cs:= [.int .u8 92,.int .u8 (N:Nat)]) (by simp) (by unfold maxLen;omega)) (by intro y O;simp at O;(first|(rcases O with rfl|rfl<;>rfl)|(subst O;rfl))) (by unfold maxLen;omega) (by omega) (by simp;omega) ?_;intro v1 H h G F))
     have I:Ext w H:=(S.alloc _).app G (C.alloc _) (Zd _);have j:H.ownsRow w.heap.size 5 1 v1 (qPre s.data.toList (k+1)).length (Lib.byteCells (qPre s.data.toList (k+1))):=(by rw[D.out,ZJ,Zj];rw[show Lib.byteCells [92,UInt8.ofNat N]= [Value.int .u8 92,Value.int .u8 (N:Nat)] from by simp[Lib.byteCells,Nat.mod_eq_of_lt hf]];exact h);clear G F h;go_wp2;go_roundw
     case rel=>first|exact ⟨k+1,by omega,by go_num,j,I⟩|((repeat apply Ye);exact ⟨⟨k+1,by omega,by go_num,j,I⟩,rfl⟩)
     case measure=>simp[intOf];omega
   ·have hj:k=s.size:=(by omega);subst hj;have hg:Hid (str (qPre s.data.toList s.size++ [34])=str Q):=(by show _=_;rw[<-HQ.out,<-Zbj];rfl);have C:=J;obtain ⟨_,A,c,rfl,hn,hi,_,_⟩:=RSl.of_own J
    go_wp2_with (at_builtin;refine Zq _ rfl (.tmp 45) (.tmp 46) _ rfl w.heap.size 5 i0 _ 1 1 underlying115 Y Z hc hd rfl (by omega) _ _ _ rfl (C.alloc _) _ 1 _ rfl (ZY (cs:= [.int .u8 34]) (by simp) (by unfold maxLen;omega)) (by intro y O;simp at O;subst O;rfl) (by unfold maxLen;omega) (by omega) (by simp;omega) ?_;intro v1 H h G F;have I:Ext w H:=(S.alloc _).app G (C.alloc _) (Zd _);have kc:=Vr H w.heap.size v1 (qPre s.data.toList s.size++ [34]) (by rw[ZJ,Zj];exact h);rw[hg.out] at kc;clear G F h)
    go_ret2
    exact ⟨rfl,I⟩
def lays196_ren:Go.Shelf.Ren:=⟨fun|196=>178|259=>203|n=>n,fun|9=>9|4=>4|3=>3|5=>5|12=>12|119=>247|0=>0|46=>225|139=>250|138=>249|53=>209|n=>n,fun|3=>1|4=>2|n=>n⟩
theorem lays196:Go.Proofs.Lays.n196 prog lays196_ren:={
 mixed:=by kernel_rfl
 f196:=func178.trans (Zo some (by kernel_rfl))
 f259:=func203.trans (Zo some (by kernel_rfl))
 t0:=underlying0
 a0:=isAgg0
 z0:=sizeOf0
 v0:=zeroValue0
 t3:=underlying3
 a3:=isAgg3
 z3:=sizeOf3
 v3:=zeroValue3
 t4:=underlying4
 a4:=isAgg4
 z4:=sizeOf4
 v4:=zeroValue4
 t5:=underlying5
 a5:=isAgg5
 z5:=sizeOf5
 v5:=zeroValue5
 t9:=underlying9
 a9:=isAgg9
 z9:=sizeOf9
 v9:=zeroValue9
 t12:=underlying12
 a12:=isAgg12
 z12:=sizeOf12
 v12:=zeroValue12
 t46:=underlying225
 a46:=isAgg225
 z46:=sizeOf225
 v46:=zeroValue225
 t53:=underlying209
 a53:=isAgg209
 z53:=sizeOf209
 v53:=zeroValue209
 t119:=underlying247
 a119:=isAgg247
 z119:=sizeOf247
 t138:=underlying249
 a138:=isAgg249
 z138:=sizeOf249
 v138:=zeroValue249
 t139:=underlying250
 a139:=isAgg250
 z139:=sizeOf250
 v139:=zeroValue250
 g3:=by kernel_rfl
 g4:=by kernel_rfl}
open Go.RowKit in
theorem utf8_ValidString (s:ByteArray) (w:World) (j:s.size<=9223372036854775807) (h:Lib.Utf8Tabs 1 2 w):
 Calls prog 178 #[.string s] w λe w'=>e= .returned (.bool (Lib.validD s.data.toList))/\Below w.heap.size w w':=Any.utf8_ValidString lays196 s w j h
section
theorem XL (s:ByteArray) (w:World) (h:Env w) (j:s.size<=16777216):
 Calls prog 178 #[.string s] w λe w'=>e= .returned (.bool (Lib.validD s.data.toList))/\Ext w w':=
 utf8_ValidString s w (by omega) h.utf8
theorem ZgM (w:World):(Instr.index 259 (.agg #[.int .u8 98,.int .u8 8,.int .u8 102,.int .u8 12,.int .u8 110,.int .u8 10,.int .u8 114,.int .u8 13,.int .u8 116,.int .u8 9]) (.int .i64 0)).run prog w= .ok (.agg #[.int .u8 98,.int .u8 8]) w:=by kernel_rfl
theorem ZgN (w:World):(Instr.index 259 (.agg #[.int .u8 98,.int .u8 8,.int .u8 102,.int .u8 12,.int .u8 110,.int .u8 10,.int .u8 114,.int .u8 13,.int .u8 116,.int .u8 9]) (.int .i64 1)).run prog w= .ok (.agg #[.int .u8 102,.int .u8 12]) w:=by kernel_rfl
theorem ZgO (w:World):(Instr.index 259 (.agg #[.int .u8 98,.int .u8 8,.int .u8 102,.int .u8 12,.int .u8 110,.int .u8 10,.int .u8 114,.int .u8 13,.int .u8 116,.int .u8 9]) (.int .i64 2)).run prog w= .ok (.agg #[.int .u8 110,.int .u8 10]) w:=by kernel_rfl
theorem ZgP (w:World):(Instr.index 259 (.agg #[.int .u8 98,.int .u8 8,.int .u8 102,.int .u8 12,.int .u8 110,.int .u8 10,.int .u8 114,.int .u8 13,.int .u8 116,.int .u8 9]) (.int .i64 3)).run prog w= .ok (.agg #[.int .u8 114,.int .u8 13]) w:=by kernel_rfl
theorem ZgQ (w:World):(Instr.index 259 (.agg #[.int .u8 98,.int .u8 8,.int .u8 102,.int .u8 12,.int .u8 110,.int .u8 10,.int .u8 114,.int .u8 13,.int .u8 116,.int .u8 9]) (.int .i64 4)).run prog w= .ok (.agg #[.int .u8 116,.int .u8 9]) w:=by kernel_rfl
theorem Zgv (n:Nat) (j:n<16):({data:=#[48,49,50,51,52,53,54,55,56,57,97,98,99,100,101,102]}:ByteArray).extract ((n:Int)).toNat ((n:Int)+1).toNat=str [hexD n]:=by
 have h:n=0\/n=1\/n=2\/n=3\/n=4\/n=5\/n=6\/n=7\/n=8\/n=9\/n=10\/n=11\/n=12\/n=13\/n=14\/n=15:=by omega
 rcases h with rfl|rfl|rfl|rfl|rfl|rfl|rfl|rfl|rfl|rfl|rfl|rfl|rfl|rfl|rfl|rfl<;>exact Xi (by decide)
theorem ZfZ (x:Int) (a b:Nat) (A:a<16) (C:b<16) (h:x / 16=(a:Int)) (j:x % 16=(b:Int)):
 ({data:=#[92,117,48,48]}:ByteArray)++({data:=#[48,49,50,51,52,53,54,55,56,57,97,98,99,100,101,102]}:ByteArray).extract (x / 16).toNat (x / 16+1).toNat++({data:=#[48,49,50,51,52,53,54,55,56,57,97,98,99,100,101,102]}:ByteArray).extract (x % 16).toNat (x % 16+1).toNat=str [92,117,48,48,hexD a,hexD b]:=by
 rw[h,j,Zgv a A,Zgv b C];rfl
theorem ZgA (w:World) (a b:Int) (n:Nat) (h:n=w.heap.size):(convert 115 9 (.slice (some ⟨n,0,none⟩) 2 2)).run prog (w.alloc (.cells #[.int .u8 a,.int .u8 b] 5))= .ok (.string (strOfNums [a,b])) (w.alloc (.cells #[.int .u8 a,.int .u8 b] 5)):=by subst h;exact Zgu w a b
attribute [local go_sem] ZgA ZgM ZgN ZgO ZgP ZgQ
theorem ZbK (c:UInt8) (w:World) (hE:Env w):
 Calls prog 204 #[.int .u8 (c.toNat:Nat)] w λe w'=>e= .returned (.string (str (escB c)))/\Ext w w':=by
 obtain ⟨L,I⟩:∃L,escB c=L:=⟨_,rfl⟩;rw[I];have A:=gd I;clear I;obtain ⟨x,J⟩:∃x:Int,(c.toNat:Int)=x:=⟨_,rfl⟩;have K:=X3 c;rw[J] at K|-;have he:0<=x:=by omega
 have C:=gd J;clear J;obtain ⟨t,fr,j⟩:=hE.letters;by_cases hq:x=34\/x=92
 ·have D:Hid (L= [92,UInt8.ofNat x.toNat]):=by show _=_;have:=C.out;rw[<-A.out];unfold escB;rw[Zi (by omega),show x.toNat=c.toNat by omega];simp
  clear C A;rcases hq with rfl|rfl
  all_goals go_enter func204,ntmps204
  all_goals go_wp2
  all_goals go_ret
  all_goals exact ⟨by rw[D.out];rfl,by repeat (first|exact Ext.refl _|apply Ext.drew|apply Ext.alloc|(refine Ext.setCell ?_ (by simp) _))⟩
 ·have F:(x==34)=false:=by rw[ZV];omega
  have G:(x==92)=false:=by rw[ZV];omega
  clear hq;by_cases hd:32<=x
  ·have D:Hid (L= []):=(by show _=_;have:=C.out;rw[ZV] at F G;rw[<-A.out];unfold escB;rw[Zf (by omega),Zi (by omega)]);go_enter func204,ntmps204;go_wp2
   all_goals go_ret
   all_goals exact ⟨by rw[D.out];rfl,Ext.refl _⟩
  ·have H:(x=8\/x=9\/x=10\/x=12\/x=13)\/(x≠8/\x≠9/\x≠10/\x≠12/\x≠13):=(by omega);rcases H with H|H
   ·have D:Hid (L= [92,UInt8.ofNat (letterN x.toNat)]):=(by show _=_;have:=C.out;rw[<-A.out,GI c (by rcases H with h|h|h|h|h<;>(rw[show c.toNat=x.toNat by omega,h];decide)),show c.toNat=x.toNat by omega]);clear C A;clear F G;rcases H with rfl|rfl|rfl|rfl|rfl
    all_goals go_enter func204,ntmps204
    all_goals go_wp2_with (refine wpList_load_row rfl 259 _ rfl 3 rfl t _ fr _ j underlying259 rfl (by kernel_rfl) ?_)
    all_goals refine Xe 5 ?_
    all_goals rw[rounds_succ]
    all_goals go_wp2
    all_goals try rw[rounds_succ]
    all_goals try go_wp2
    all_goals try rw[rounds_succ]
    all_goals try go_wp2
    all_goals try rw[rounds_succ]
    all_goals try go_wp2
    all_goals try rw[rounds_succ]
    all_goals try go_wp2
    all_goals go_ret
    all_goals exact ⟨by rw[D.out,Uz];rfl,by repeat (first|exact Ext.refl _|apply Ext.drew|apply Ext.alloc|(refine Ext.setCell ?_ (by simp) _))⟩
   ·obtain ⟨n8,n9,S,U,V⟩:=H;obtain ⟨a,X⟩:∃a,c.toNat / 16=a:=⟨_,rfl⟩;obtain ⟨b,Z⟩:∃b,c.toNat % 16=b:=⟨_,rfl⟩;have R:=C.out;have D:Hid (L= [92,117,48,48,hexD a,hexD b]):=(by show _=_;rw[ZV] at F G;rw[<-A.out,ZaG c (by unfold letterN;(repeat' split)<;>omega) (by omega),X,Z]);have m8:((8:Int)==x)=false:=(by rw[ZV];omega);have m9:((9:Int)==x)=false:=(by rw[ZV];omega);have hg:((10:Int)==x)=false:=(by rw[ZV];omega);have hh:((12:Int)==x)=false:=(by rw[ZV];omega);have hi:((13:Int)==x)=false:=(by rw[ZV];omega);have O:Hid (x / 16=(a:Int)):=(by show _=_;omega);have Q:Hid (x % 16=(b:Int)):=(by show _=_;omega);have Y:(a:Int)<16:=(by omega);have hc:(b:Int)<16:=(by omega);clear C A n8 n9 S U V X Z R;go_enter func204,ntmps204
    go_wp2_with (refine wpList_load_row rfl 259 _ rfl 3 rfl t _ fr _ j underlying259 rfl (by kernel_rfl) ?_)
    refine Xe 6 ?_;rw[rounds_succ];go_wp2;rw[rounds_succ];go_wp2;rw[rounds_succ];go_wp2;rw[rounds_succ];go_wp2;rw[rounds_succ];go_wp2;rw[rounds_succ];go_wp2
    go_region
    have ht:=ZfZ x a b (by omega) (by omega) O.out Q.out;rw[ht,<-D.out];clear ht;go_wp2;go_ret;exact ⟨rfl,by repeat (first|exact Ext.refl _|apply Ext.drew|apply Ext.alloc|(refine Ext.setCell ?_ (by simp) _))⟩
end
theorem Xo (l:List UInt8):(str l).toList.isEmpty=l.isEmpty:=by rw[XE,Yz]
theorem QU (s:ByteArray) (f k:Nat) (h:f<=k):(s.extract f k).data.toList=(s.data.toList.drop f).take (k - f):=by
 simp
theorem QF (a b:ByteArray):(a++b).data.toList=a.data.toList++b.data.toList:=by simp
theorem ZfA (s:ByteArray) (f k:Nat) (h:f<=k) (j:k<s.size):(s.data.toList.drop f).take (k+1 - f)=(s.data.toList.drop f).take (k - f)++ [s[k]]:=by
 rw[show k+1 - f=(k - f)+1 by omega,Zy (by rw[ZL,Zn];omega)];simp only[List.getElem_drop]
 congr 2
 have:f+(k - f)=k:=by omega
 simp only[this];rfl
theorem Yw {w w':World} {base size n:Nat} {e:TypeId} {v:Value} {xs:List Value} (h:w.ownsRow base e size v n xs) (j:Ext w w'):w'.ownsRow base e size v n xs:=
 h.kept (j.grown none) (by cases v.ownBlock<;>simp)
theorem YT {T e:TypeId} {B b:Nat} {bs:List Value} {w w':World} (h:Lib.IsBuilder T e B b bs w) (C:Ext w w'):Lib.IsBuilder T e B b bs w':=by
 rcases h with ⟨D,v,F,j,A⟩|⟨D,v,F,j,A⟩
 ·exact Or.inl ⟨D,v,C.heap F,Yw j C,A⟩
 ·exact Or.inr ⟨D,v,C.heap F,Yw j C,A⟩
theorem ZdN (s:ByteArray) (w:World) (hE:Env w) (hs:s.size<=16777216):
 Calls prog 180 #[.string s] w λe w'=>e= .returned (.tuple #[.string (quoteS s).1,.int .i64 ((quoteS s).2:Nat)])/\Ext w w':=by
 have I:=XL s w hE hs;obtain ⟨V,hV⟩:∃V,Lib.validD s.data.toList=V:=⟨_,rfl⟩;rw[hV] at I;have K:quoteS s=if V then (str (quoteL s.data.toList),0) else (str [],5):=by unfold quoteS;rw[hV]
 rw[K];clear K hV;have S:=gd I;clear I;cases V
 ·go_enter func180,ntmps180
  go_wp2_with (go_at_call 178;refine (S.out).mono ?_;rintro e w' ⟨rfl,hx⟩)
  go_ret2
  exact ⟨rfl,hx⟩
 ·obtain ⟨Q,hQ⟩:∃Q,quoteL s.data.toList=Q:=⟨_,rfl⟩;rw[hQ];have HQ:=gd hQ;clear hQ;simp only[Eq];go_enter func180,ntmps180
  go_wp2_with (go_at_call 178;refine (S.out).mono ?_;rintro e w1 ⟨rfl,hx⟩)
  refine (Xy w1.heap.size _ [] _ _ (Lib.fresh_isBuilder _ _ _) (by simp) (by simp)).mono ?_;rintro e w2 ⟨rfl,hm,hj⟩;have hr:Ext w w2:=(hx.alloc _).then (Xb hj hx.size);have hn:w1.heap.size<=w2.heap.size:=by have:=hj.size;simp at this;omega
  have he:=hx.size;go_wp2;go_loopw [5,6,7,14] (λfr _ _ i wr=>∃k f:Nat,k<=s.size/\f<=k/\i= .int .i64 k/\fr= .int .i64 f/\Lib.IsBuilder 117 5 w1.heap.size w1.heap.size (Lib.byteCells (qPre s.data.toList f)) wr/\
   Hid (qPre s.data.toList k=qPre s.data.toList f++(s.data.toList.drop f).take (k - f))/\Ext w wr/\w1.heap.size<=wr.heap.size) (λ_ _ _ i _=>s.size - (intOf i).toNat)
  case atStart=>exact ⟨0,0,Zt _,Zt _,rfl,rfl,hm,by show _=_;simp,hr,hn⟩
  case round=>
   obtain ⟨k,f,hk,hf,rfl,rfl,hB,K,O,U⟩:=hrel;have hu:=Zbk s.data.toList f;have ho:=hE.ext O;by_cases hi:k<s.size
   ·have D:=ZbK s[k] wr ho;have j:=EG s k hi;have G:=ZfA s f k hf hi;obtain ⟨E,hd⟩:∃E,escB s[k]=E:=⟨_,rfl⟩;have Y:=ZaH s[k];unfold qB at j;rw[hd] at D j Y;have R:=gd D;by_cases hc:E= []
    ·subst hc;rw[Zi rfl] at j;have ha:Hid (qPre s.data.toList (k+1)=qPre s.data.toList f++(s.data.toList.drop f).take (k+1 - f)):=(by show _=_;rw[j,K.out,G,Yl]);have A:(str ([]:List UInt8)).toList.isEmpty=true:=Xo [];have Z:=gd A;clear D j G hd K A Y
     go_wp2_with (go_at_call 204;refine (R.out).mono ?_;rintro e w' ⟨rfl,C⟩;have A:=Z.out)
     go_roundw
     case rel=>exact ⟨k+1,f,by omega,by omega,by go_num,rfl,YT hB C,ha,O.trans C,Zl U C.size⟩
     case measure=>simp[intOf];omega
    ·rw[Zf hc] at j;have ha:Hid (Lib.byteCells (qPre s.data.toList (k+1))=Lib.byteCells (qPre s.data.toList f)++Lib.byteCells (s.extract f k++str E).data.toList):=(by show _=_;rw[j,K.out,QF,QU s f k hf,Yz,Yl,ZJ]);have A:(str E).toList.isEmpty=false:=(by rw[Xo];cases E<;>simp_all);have Z:=gd A;have H:(s.extract f k++str E).size<=16777216+6:=(by have:(s.extract f k++str E).size=(s.extract f k++str E).data.toList.length:=rfl;rw[this,QF,QU s f k hf,Yz,Zj,YR,ZL,Zn];omega);have hb:=gd H;clear D j G hd K A hc H
     go_wp2_with (go_at_call 204;refine (R.out).mono ?_;rintro e w' ⟨rfl,C⟩;have A:=Z.out)
     have hl:=YT hB C;have hv:=C.size;refine (Je _ _ _ _ _ hl (by rw[Yt];have:=hb.out;omega) (by omega)).mono ?_;rintro e w4 ⟨rfl,F,J⟩;rw[<-ha.out] at F;go_wp2;have hg:Ext w w4:=(O.trans C).then (Xb J he);have ht:=J.size;go_roundw
     case rel=>exact ⟨k+1,k+1,by omega,by omega,by go_num,by go_num,F,by show _=_;simp,hg,by omega⟩
     case measure=>simp[intOf];omega
   ·have hh:k=s.size:=(by omega);have H:(s.extract f s.size++str [34]).size<=16777216+6:=(by have:(s.extract f s.size++str [34]).size=(s.extract f s.size++str [34]).data.toList.length:=rfl;rw[this,QF,QS,Yz,Zj,ZL,Zn];simp;omega);have X:Lib.byteCells (qPre s.data.toList f)++Lib.byteCells (s.extract f s.size++str [34]).data.toList=Lib.byteCells Q:=by
     rw[<-ZJ,QF,QS,Yz]
     congr 1
     have h:=K.out;rw[hh,ZC (by rw[ZL,Zn];omega)] at h;rw[<-Yl,<-h,<-HQ.out,<-Zbj];rfl
    have HF:=gd X;have hb:=gd H;clear X K hh H
    go_wp2_with (go_at_call 145;refine (Je _ _ _ (s.extract f s.size++str [34]) _ hB (by rw[Yt];have:=hb.out;omega) U).mono ?_;rintro e w4 ⟨rfl,F,J⟩)
    rw[HF.out] at F;have ht:=J.size;have hg:Ext w w4:=O.then (Xb J he)
    go_wp2_with (go_at_call 70;refine (UF _ _ _ _ F (by omega)).mono ?_;rintro e w5 ⟨rfl,hp⟩)
    go_ret2
    exact ⟨rfl,hg.then (Xb hp he)⟩
end Go.Proofs.YthlnaldahkgjnaaGreatDoor
