/- Parts of the proof: contracts and plain laws. -/
import Derived.Test.YtnlafkgkcnenfaaGreatDoorProg
import Derived.Test.YtnlafkgkcnenfaaGreatDoorS01
namespace Go.Proofs.YtnlafkgkcnenfaaGreatDoor
open Go Go.RowKit Go.Shelf Tryz
set_option linter.unusedVariables false
set_option linter.unusedSimpArgs false
set_option maxRecDepth 100000
set_option maxHeartbeats 16000000
section
variable {T:TypeId}
theorem GV:(prog.info? 96).map (λi=>i.size)=some 2:=by kernel_rfl
theorem Zh5:prog.cellsOf 5=1:=by kernel_rfl
structure BT (T:TypeId):Prop where
 lies:liesAt prog prog.depth T (2 / prog.cellsOf T) 0 96 1=true
 ne:T≠5
theorem Vk:BT 96:=⟨by kernel_rfl,by decide⟩
theorem JL (A:BT T) (b:Nat) (w:Wq) (q:w.cell? ⟨b,0,none⟩=some (.pointer (some ⟨b,0,none⟩))):
 Calls prog 95 #[.pointer (some ⟨b,0,none⟩)] w λe w'=>e= .returned (.tuple #[])/\w'=w:=by
 obtain ⟨j,h,_⟩:=Option.map_eq_some_iff.1 GV;go_enter func95,ntmps95;go_wp2;rw[Lib.run_neq_ptr_same w _ underlying93 h];go_wp2;go_end0;exact ⟨rfl,rfl⟩
theorem JE (D:BT T) (b:Nat) (w:Wq) (H:w.cell? ⟨b,0,none⟩=some (.pointer none)) (h:w.shape? b=some (T,2)) (F:w.frozen? ⟨b,0,none⟩=false):
 Calls prog 95 #[.pointer (some ⟨b,0,none⟩)] w λe w'=>e= .returned (.tuple #[])/\w'=w.setCell ⟨b,0,none⟩ (.pointer (some ⟨b,0,none⟩)):=by
 obtain ⟨j,A,q⟩:=Option.map_eq_some_iff.1 GV;go_enter func95,ntmps95;go_wp2;rw[Lib.run_to_unsafe w ⟨b,0,none⟩ underlying93 underlying190 A (by rw[q];decide) h (Nat.zero_lt_succ 1)];simp only[Result.andThen];rw[Oper.upon_value];go_wp2;rw[run_callFunc_extern func137 (by kernel_rfl) (by kernel_rfl) (by kernel_rfl) (e:=Extern.AbiNoEscape.same) (by kernel_rfl)];rw[Lib.run_noEscape];simp only[Result.andThen];rw[Oper.upon_value];go_wp2;rw[Lib.run_from_unsafe w ⟨b,0,none⟩ underlying190 underlying93 A h D.lies];simp only[Result.andThen];rw[Oper.upon_value];go_wp2;go_end0;exact ⟨rfl,rfl⟩
theorem UZ (q:BT T) (B b:Nat) (bs:List Value) (w:Wq) (h:Lib.IsBuilder T 5 B b bs w):
 Calls prog 95 #[.pointer (some ⟨b,0,none⟩)] w λe w'=>e= .returned (.tuple #[])/\(Lib.BuilderAt T 5 B b (.pointer (some ⟨b,0,none⟩)) bs w'/\Below B w w'):=by
 rcases h with h|h
 ·refine (JE q b w h.cell0 h.shape h.frozen0).mono ?_;rintro e w' ⟨rfl,rfl⟩;exact ⟨rfl,h.used _,(Zar B w).setCell (p:=⟨b,0,none⟩) h.1 _⟩
 ·refine (JL q b w h.cell0).mono ?_;rintro e w' ⟨rfl,rfl⟩;exact ⟨rfl,h,Zar B _⟩
theorem ZcY (K:BT T) (B b:Nat) (bs:List Value) (w:Wq) (h:Lib.IsBuilder T 5 B b bs w):
 Calls prog 55 #[.pointer (some ⟨b,0,none⟩)] w λe w'=>e= .returned (nI bs.length)/\w'=w:=by
 obtain ⟨p,J,v,A,q,I⟩:∃p,Lib.BuilderAt T 5 B b p bs w:=by
  rcases h with h|h
  ·exact ⟨_,h⟩
  ·exact ⟨_,h⟩
 obtain ⟨ao,cap,rfl⟩:∃ao cap,v= .slice ao bs.length cap:=by
  rcases q.2 with ⟨D,H⟩|⟨g,cap,F,D,_⟩
  ·exact ⟨none,0,by rw[D,H]⟩
  ·exact ⟨_,_,D⟩
 have c1:w.cell? ⟨b,1,none⟩=some (.slice ao bs.length cap):=by rw[Zp A];rfl
 go_enter func55,ntmps55;go_wp2;go_ret;exact ⟨rfl,rfl⟩
theorem GP (X:BT T) (B b:Nat) (bs:List Value) (c:Int) (w:Wq) (h:Lib.IsBuilder T 5 B b bs w) (Y:bs.length+1<=140737488355328) (hb:B<=w.heap.size):
 Calls prog 62 #[.pointer (some ⟨b,0,none⟩),.int .u8 c] w λe w'=>e= .returned .nilIface/\(Lib.BuilderAt T 5 B b (.pointer (some ⟨b,0,none⟩)) (bs++ [.int .u8 c]) w'/\Below B w w'):=by
 obtain ⟨i0,hi,R,S,U⟩:=Yw Ka;go_enter func62,ntmps62
 go_wp2_with (go_at_call 95;refine (UZ X B b bs _ h).mono ?_)
 rintro e w1 ⟨rfl,h1,D⟩;obtain ⟨V,v,H,I,Q⟩:=h1;have c0:w1.cell? ⟨b,0,none⟩=some (.pointer (some ⟨b,0,none⟩)):=by rw[Zp H];rfl
 have c1:w1.cell? ⟨b,1,none⟩=some v:=by rw[Zp H];rfl
 go_wp2_with (at_builtin;refine wpList_append_own _ rfl _ _ 94 rfl B 5 i0 (.int .u8 0) 1 1 underlying94 hi R S U rfl (by decide) _ _ _ rfl (I.alloc _) ⟨w1.heap.size,0,none⟩ 1 1 [.int .u8 c] rfl rfl ?c1 ?c2 ?c3 ?c4 ?c5 ?_)
 case c1=>
  intro j u J
  match j,J with
  |0,J=>simp at J;subst J;simp[Addr.add]
 case c2=>intro u Z;simp at Z;subst Z;rfl
 case c3=>unfold maxLen;omega
 case c4=>omega
 case c5=>have:=D.size;simp;omega
 intro v' w2 A q _;have M:b<w1.heap.size:=by
  rcases Xq b w1.heap.size with K|K
  ·exact K
  ·simp[YP K] at H
 have F:w2.heap[b]? =some (.cells #[.pointer (some ⟨b,0,none⟩),v] T (0,0)):=by rw[q.block b (by simp;omega) (λe=>Q e.symm),Lib.alloc_old w1 _ b M];exact H
 have d0:w2.cell? ⟨b,0,none⟩=some (.pointer (some ⟨b,0,none⟩)):=by rw[Zp F];rfl
 have d1:w2.cell? ⟨b,1,none⟩=some v:=by rw[Zp F];rfl
 have f1:w2.frozen? ⟨b,1,none⟩=false:=ZX F 1;obtain ⟨g,cap,rfl⟩:∃g cap,v'= .slice (some ⟨g,0,none⟩) (bs.length+1) cap:=by
  rcases A.2 with ⟨_,h0⟩|⟨g,cap,ha,hv,_⟩
  ·omega
  ·exact ⟨g,cap,hv⟩
 go_wp2;go_ret;refine ⟨rfl,?_,?_⟩
 ·exact Lib.BuilderAt.put (T:=T) (e:=5) V F (bs':=bs++ [.int .u8 c]) (by simpa using A) X.ne
 ·exact ((D.alloc (by have:=D.size;omega) _).grown q (by have:=D.size;simp;omega) (λk hk=>(I.lt k hk).1)).setCell (p:=⟨b,1,none⟩) V _
theorem Q7 (X:BT T) (B b:Nat) (bs:List Value) (s:ByteArray) (w:Wq) (h:Lib.IsBuilder T 5 B b bs w) (Y:bs.length+s.size<=140737488355328) (hb:B<=w.heap.size):
 Calls prog 54 #[.pointer (some ⟨b,0,none⟩),.string s] w λe w'=>e= .returned (.tuple #[nI s.size,.nilIface])/\(Lib.BuilderAt T 5 B b (.pointer (some ⟨b,0,none⟩)) (bs++Lib.strCells s) w'/\Below B w w'):=by
 obtain ⟨i0,hi,R,S,U⟩:=Yw Ka;go_enter func54,ntmps54
 go_wp2_with (go_at_call 95;refine (UZ X B b bs _ h).mono ?_)
 rintro e w1 ⟨rfl,h1,I⟩;obtain ⟨V,v,F,H,M⟩:=h1;have c0:w1.cell? ⟨b,0,none⟩=some (.pointer (some ⟨b,0,none⟩)):=by rw[Zp F];rfl
 have c1:w1.cell? ⟨b,1,none⟩=some v:=by rw[Zp F];rfl
 go_wp2_with (at_builtin;refine Lib.wpList_append_own_string _ rfl _ _ 94 9 rfl B 5 i0 underlying94 underlying9 hi R S U _ _ _ rfl H s rfl ?c3 ?c4 ?c5 ?_)
 case c3=>unfold maxLen;omega
 case c4=>omega
 case c5=>have:=I.size;omega
 intro v' w2 A q _;have K:b<w1.heap.size:=by
  rcases Xq b w1.heap.size with J|J
  ·exact J
  ·simp[YP J] at F
 have D:w2.heap[b]? =some (.cells #[.pointer (some ⟨b,0,none⟩),v] T (0,0)):=by rw[q.block b K (λe=>M e.symm)];exact F
 have d0:w2.cell? ⟨b,0,none⟩=some (.pointer (some ⟨b,0,none⟩)):=by rw[Zp D];rfl
 have d1:w2.cell? ⟨b,1,none⟩=some v:=by rw[Zp D];rfl
 have f1:w2.frozen? ⟨b,1,none⟩=false:=ZX D 1;obtain ⟨ao,Z,cap,rfl⟩:∃ao Z cap,v'= .slice ao Z cap:=by
  rcases A.2 with ⟨Q,_⟩|⟨g,cap,ha,Q,_⟩
  ·exact ⟨_,_,_,Q⟩
  ·exact ⟨_,_,_,Q⟩
 go_wp2
 go_ret2
 refine ⟨rfl,?_,?_⟩
 ·exact Lib.BuilderAt.put (T:=T) (e:=5) V D (bs':=bs++Lib.strCells s) (by simpa [Lib.strCells_length] using A) X.ne
 ·exact (I.grown q (by have:=I.size;omega) (λk hk=>(H.lt k hk).1)).setCell (p:=⟨b,1,none⟩) V _
theorem IV (hT:BT T) (B b:Nat) (l:List UInt8) (w:Wq) (h:Lib.IsBuilder T 5 B b (Lib.byteCells l) w) (M:l≠ []):
 Calls prog 56 #[.pointer (some ⟨b,0,none⟩)] w λe w'=>e= .returned (.string ⟨l.toArray⟩)/\Below B w w':=by
 obtain ⟨p,hB,v,F,A,X⟩:∃p,Lib.BuilderAt T 5 B b p (Lib.byteCells l) w:=by
  rcases h with h|h
  ·exact ⟨_,h⟩
  ·exact ⟨_,h⟩
 have J:l.length≠0:=by simpa using M
 rw[Lib.byteCells_length] at A;obtain ⟨g,cap,q,rfl,D,U,V,H,S,K⟩:∃g cap q,v= .slice (some ⟨g,0,none⟩) l.length cap/\B<=g/\w.heap[g]? =some (.cells q 5 (0,0))/\l.length<=cap/\cap<=maxLen/\q.size=cap*1/\q.toList.take (l.length*1)=Lib.byteCells l:=by
  rcases A.2 with ⟨_,hz⟩|⟨g,cap,q,Y,r⟩
  ·exact absurd hz J
  ·exact ⟨g,cap,q,Y,r⟩
 have c1:w.drew.cell? ⟨b,1,none⟩=some (.slice (some ⟨g,0,none⟩) l.length cap):=by have:w.drew.heap[b]? =some (.cells #[p,.slice (some ⟨g,0,none⟩) l.length cap] T (0,0)):=F;rw[Zp this];rfl
 have Q:(Builtin.unsafeSliceData_ #[94] 147 #[.slice (some ⟨g,0,none⟩) l.length cap]).run prog w.drew= .ok (.pointer (some ⟨g,0,none⟩)) w.drew:=
  Lib.run_unsafeSliceData_row _ _ _ _ _ _ (by omega)
 have R:(Builtin.unsafeString_ #[147,3] 9 #[.pointer (some ⟨g,0,none⟩),nI l.length]).run prog w.drew= .ok (.string ⟨l.toArray⟩) (w.drew.freeze ⟨g,0,none⟩ l.length):=by refine Lib.run_unsafeString_row w.drew 147 3 9 5 underlying147 Zh5 g q.size (by have I:w.drew.heap[g]? =some (.cells q 5 (0,0)):=U;simp[World.shape?,I]) l M (by omega) (by unfold maxLen at H;omega) ?_;intro j x Z;have:=A.cells (g:=g) rfl j (.int .u8 x.toNat) (by simp[Lib.byteCells,Z]);exact this
 go_enter func56,ntmps56;go_wp2
 go_region
 all_goals (go_wp2;go_ret;exact ⟨rfl,Lib.below_freeze (Below.drew (Zar B w)) (p:=⟨g,0,none⟩) D _⟩)
theorem JW (h:BT T) (W:Wq) (q:Option Addr):(Builtin.unsafeString_ #[147,3] 9 #[.pointer q,nI 0]).run prog W= .ok (.string .empty) W:=
 Lib.run_unsafeString_none W _ _ _ q
theorem Gs (A:BT T) (B b:Nat) (p:Value) (w:Wq) (h:w.heap[b]? =some (.cells #[p,sN] T (0,0))):
 Calls prog 56 #[.pointer (some ⟨b,0,none⟩)] w λe w'=>e= .returned eS/\Below B w w':=by
 have D:=JW A;have c1:w.drew.cell? ⟨b,1,none⟩=some sN:=by have:w.drew.heap[b]? =some (.cells #[p,sN] T (0,0)):=h;rw[Zp this];rfl
 have q:(Builtin.unsafeSliceData_ #[94] 147 #[sN]).run prog w.drew= .ok (.pointer none) w.drew:=rfl;go_enter func56,ntmps56;go_wp2
 go_region
 all_goals (go_wp2;go_ret;exact ⟨rfl,Below.drew (Zar B w)⟩)
theorem Qg (J:BT T) (B b g:Nat) (p:Value) (h:Array Value) (w:Wq) (D:B<=w.heap.size) (q:w.heap[b]? =some (.cells #[p,.slice (some ⟨g,0,none⟩) 0 0] T (0,0))) (M:w.heap[g]? =some (.cells h 5 (0,0))):
 Calls prog 56 #[.pointer (some ⟨b,0,none⟩)] w λe w'=>e= .returned eS/\Below B w w':=by
 have K:=JW J;have H:b<w.heap.size:=by
  rcases Xq b w.heap.size with A|A
  ·exact A
  ·simp[YP A] at q
 have c1:w.drew.cell? ⟨b,1,none⟩=some (.slice (some ⟨g,0,none⟩) 0 0):=by have:w.drew.heap[b]? =some (.cells #[p,.slice (some ⟨g,0,none⟩) 0 0] T (0,0)):=q;rw[Zp this];rfl
 have I:(Builtin.unsafeSliceData_ #[94] 147 #[.slice (some ⟨g,0,none⟩) 0 0]).run prog w.drew= .ok (.pointer (some ⟨w.drew.heap.size,0,none⟩)) (w.drew.alloc (.view ⟨g,0,none⟩ 5)):=
  Lib.run_unsafeSliceData_zero w.drew _ _ 5 underlying147 ⟨g,0,none⟩ 0 (5,h.size) (by have F:w.drew.heap[g]? =some (.cells h 5 (0,0)):=M;simp[World.shape?,F])
 have c2:(w.drew.alloc (.view ⟨g,0,none⟩ 5)).cell? ⟨b,1,none⟩=some (.slice (some ⟨g,0,none⟩) 0 0):=by have:(w.drew.alloc (.view ⟨g,0,none⟩ 5)).heap[b]? =_:=(Lib.alloc_old w.drew _ b H).trans q;rw[Zp this];rfl
 have c3:(w.alloc (.view ⟨g,0,none⟩ 5)).drew.cell? ⟨b,1,none⟩=some (.slice (some ⟨g,0,none⟩) 0 0):=c2;have c0:w.cell? ⟨b,1,none⟩=some (.slice (some ⟨g,0,none⟩) 0 0):=c1;go_enter func56,ntmps56;go_wp2
 go_region
 all_goals (go_wp2;go_ret;exact ⟨rfl,(Below.drew (Zar B w)).alloc D _⟩)
theorem Q5 (D:BT T) (B b g cap:Nat) (p:Value) (w:Wq) (h:cap≠0) (q:w.heap[b]? =some (.cells #[p,.slice (some ⟨g,0,none⟩) 0 cap] T (0,0))):
 Calls prog 56 #[.pointer (some ⟨b,0,none⟩)] w λe w'=>e= .returned eS/\Below B w w':=by
 have F:=JW D;have c1:w.drew.cell? ⟨b,1,none⟩=some (.slice (some ⟨g,0,none⟩) 0 cap):=by have:w.drew.heap[b]? =some (.cells #[p,.slice (some ⟨g,0,none⟩) 0 cap] T (0,0)):=q;rw[Zp this];rfl
 have A:(Builtin.unsafeSliceData_ #[94] 147 #[.slice (some ⟨g,0,none⟩) 0 cap]).run prog w.drew= .ok (.pointer (some ⟨g,0,none⟩)) w.drew:=
  Lib.run_unsafeSliceData_row _ _ _ _ _ _ h
 clear h;go_enter func56,ntmps56;go_wp2
 go_region
 all_goals (go_wp2;go_ret;exact ⟨rfl,Below.drew (Zar B w)⟩)
theorem Qj (I:BT T) (B b:Nat) (w:Wq) (h:Lib.IsBuilder T 5 B b [] w) (H:B<=w.heap.size):
 Calls prog 56 #[.pointer (some ⟨b,0,none⟩)] w λe w'=>e= .returned eS/\Below B w w':=by
 obtain ⟨p,Q,v,q,D,M⟩:∃p,Lib.BuilderAt T 5 B b p [] w:=by
  rcases h with h|h
  ·exact ⟨_,h⟩
  ·exact ⟨_,h⟩
 rcases D.2 with ⟨rfl,_⟩|⟨g,cap,F,rfl,J,K,_,_,_,_⟩
 ·exact Gs I B b p w q
 ·by_cases A:cap=0
  ·subst A;exact Qg I B b g p F w H q K
  ·exact Q5 I B b g cap p w A q
theorem Gr (A:BT T) (B b:Nat) (l:List UInt8) (w:Wq) (h:Lib.IsBuilder T 5 B b (Lib.byteCells l) w) (q:B<=w.heap.size):
 Calls prog 56 #[.pointer (some ⟨b,0,none⟩)] w λe w'=>e= .returned (.string ⟨l.toArray⟩)/\Below B w w':=by
 cases l with
 |nil=>exact Qj A B b w h q
 |cons x r=>exact IV A B b (x::r) w h (by simp)
end
section
variable {T:TypeId}
theorem Ec (s:ByteArray) (w:Wq) (h:Env w):Calls prog 216 #[.string s] w λe w'=>e= .returned (.tuple #[.int .i32 (Lib.decodeGo s).1,nI (Lib.decodeGo s).2])/\Ext w w':=
 utf8_DecodeRuneInString s w h.utf8
theorem Zb4 (q:BT T) (B b:Nat) (bs:List Value) (w:Wq) (h:Lib.IsBuilder T 5 B b bs w):
 Calls prog 55 #[.pointer (some ⟨b,0,none⟩)] w λe w'=>e= .returned (nI bs.length)/\w'=w:=ZcY q B b bs w h
theorem Gw (I:BT T) (B b:Nat) (bs:List Value) (c:Int) (w:Wq) (h:Lib.IsBuilder T 5 B b bs w) (q:bs.length+1<=140737488355328) (A:B<=w.heap.size):
 Calls prog 62 #[.pointer (some ⟨b,0,none⟩),.int .u8 c] w λe w'=>e= .returned .nilIface/\(Lib.IsBuilder T 5 B b (bs++ [.int .u8 c]) w'/\Below B w w'):=
 (GP I B b bs c w h q A).mono λ_ _ ⟨D,F,H⟩=>⟨D,Or.inr F,H⟩
theorem Qp (I:BT T) (B b:Nat) (bs:List Value) (s:ByteArray) (w:Wq) (h:Lib.IsBuilder T 5 B b bs w) (q:bs.length+s.size<=140737488355328) (A:B<=w.heap.size):
 Calls prog 54 #[.pointer (some ⟨b,0,none⟩),.string s] w λe w'=>e= .returned (.tuple #[nI s.size,.nilIface])/\(Lib.IsBuilder T 5 B b (bs++Lib.byteCells s.data.toList) w'/\Below B w w'):=
 (Q7 I B b bs s w h q A).mono λ_ _ ⟨D,F,H⟩=>⟨D,Or.inr F,H⟩
theorem IH (A:BT T) (B b:Nat) (l:List UInt8) (w:Wq) (h:Lib.IsBuilder T 5 B b (Lib.byteCells l) w) (q:B<=w.heap.size):
 Calls prog 56 #[.pointer (some ⟨b,0,none⟩)] w λe w'=>e= .returned (.string (str l))/\Below B w w':=Gr A B b l w h q
theorem I5 (B b:Nat) (bs:List Value) (w:Wq) (h:Lib.IsBuilder 96 5 B b bs w):
 Calls prog 55 #[.pointer (some ⟨b,0,none⟩)] w λe w'=>e= .returned (nI bs.length)/\w'=w:=Zb4 Vk B b bs w h
theorem Jc (B b:Nat) (bs:List Value) (c:Int) (w:Wq) (h:Lib.IsBuilder 96 5 B b bs w) (q:bs.length+1<=140737488355328) (A:B<=w.heap.size):
 Calls prog 62 #[.pointer (some ⟨b,0,none⟩),.int .u8 c] w λe w'=>e= .returned .nilIface/\(Lib.IsBuilder 96 5 B b (bs++ [.int .u8 c]) w'/\Below B w w'):=Gw Vk B b bs c w h q A
theorem XZ (B b:Nat) (bs:List Value) (s:ByteArray) (w:Wq) (h:Lib.IsBuilder 96 5 B b bs w) (q:bs.length+s.size<=140737488355328) (A:B<=w.heap.size):
 Calls prog 54 #[.pointer (some ⟨b,0,none⟩),.string s] w λe w'=>e= .returned (.tuple #[nI s.size,.nilIface])/\(Lib.IsBuilder 96 5 B b (bs++Lib.byteCells s.data.toList) w'/\Below B w w'):=Qp Vk B b bs s w h q A
theorem JM (B b:Nat) (l:List UInt8) (w:Wq) (h:Lib.IsBuilder 96 5 B b (Lib.byteCells l) w) (q:B<=w.heap.size):
 Calls prog 56 #[.pointer (some ⟨b,0,none⟩)] w λe w'=>e= .returned (.string (str l))/\Below B w w':=IH Vk B b l w h q
end
theorem Zdg (s:ByteArray) (A:s.data.toList≠ []):Lib.decodeGo s=Lib.decodeL s.data.toList:=by
 unfold Lib.decodeGo Lib.decodeL;have q:s.size≠0:=by intro h;apply A;apply Zw;simpa using h
 rw[Ze q]
theorem Ek (t:ByteArray) (k:Nat):(t.extract k t.size).data.toList=t.data.toList.drop k:=by
 simp[ZT]
theorem Zkw (s:ByteArray) (k:Nat) (q:k<s.size):Lib.decodeGo (s.extract k s.size)=Lib.decodeL (s.data.toList.drop k):=by
 rw[Zdg,Ek];rw[Ek];intro h;have:=Zz List.length h;simp at this;have:s.data.size=s.size:=rfl;omega
def decVal (d:Nat×Nat):Value:= .tuple #[.int .i32 (d.1:Nat),nI (d.2:Nat)]
theorem Gk (s:ByteArray) (k:Nat) (w:Wq) (U:Env w) (V:k<s.size) (X:s.size<=maxLen):
 Calls prog 188 #[.string s,nI (k:Nat)] w λe w'=>e= .returned (decVal (dec (s.data.toList.drop k)))/\Ext w w':=by
 have Q:=Zkw s k V;have D:s.data.toList.drop k≠ []:=by intro h;have:=Zz List.length h;simp at this;have:s.data.size=s.size:=rfl;omega
 obtain ⟨R,H⟩:∃R,(Lib.decodeL (s.data.toList.drop k)).1=R:=⟨_,rfl⟩;obtain ⟨K,hK⟩:∃K,(Lib.decodeL (s.data.toList.drop k)).2=K:=⟨_,rfl⟩;have M:=Ec (s.extract k s.size) w U;rw[Q,H,hK] at M;have q:dec (s.data.toList.drop k)=if R=65533/\K=1 then (0,0) else (R,K):=by unfold dec;rw[Ze D,H,hK,<-H,<-hK]
 rw[q];clear q hK H D Q;unfold maxLen at X;have I:=gd M;clear M;by_cases A:R=65533/\K=1
 ·obtain ⟨rfl,rfl⟩:=A;go_enter func188,ntmps188
  go_wp2_with (go_at_call 216;refine (I.out).mono ?_;rintro e w' ⟨rfl,F⟩)
  all_goals go_ret2
  all_goals exact ⟨rfl,F⟩
 ·by_cases J:R=65533
  ·have Y:((K:Int)==1)=false:=(by rw[Zy];omega);have S:((R:Int)==65533)=true:=(by simp[J]);have q:(if R=65533/\K=1 then ((0,0):Nat×Nat) else (R,K))=(R,K):=Ze A;rw[q];clear q A J;go_enter func188,ntmps188
   go_wp2_with (go_at_call 216;refine (I.out).mono ?_;rintro e w' ⟨rfl,F⟩)
   all_goals go_ret2
   all_goals exact ⟨rfl,F⟩
  ·have S:((R:Int)==65533)=false:=(by rw[Zy];omega);have q:(if R=65533/\K=1 then ((0,0):Nat×Nat) else (R,K))=(R,K):=Ze A;rw[q];clear q A J;go_enter func188,ntmps188
   go_wp2_with (go_at_call 216;refine (I.out).mono ?_;rintro e w' ⟨rfl,F⟩)
   all_goals go_ret2
   all_goals exact ⟨rfl,F⟩
theorem ZI (s:ByteArray):s.data.toList.length=s.size:=rfl
theorem Vf (s:ByteArray) (w:Wq) (hE:Env w) (hs:s.size<=maxLen):
 Calls prog 150 #[.string s] w λe w'=>e= .returned (.tuple #[nI ((checkS s).1:Nat),nI ((checkS s).2:Nat)])/\Ext w w':=by
 have ha:=hs;unfold maxLen at hs;go_enter func150,ntmps150;go_wp2;go_loopw [4,5,6] (λv _ _ wr=>∃k:Nat,k<=s.size/\v=nI k/\Hid (checkS s=checkGo s.data.toList.length k (s.data.toList.drop k))/\Ext w wr) (λv _ _ _=>s.size - (intOf v).toNat)
 case atStart=>exact ⟨0,Zk _,rfl,rfl,Ext.refl _⟩
 case round=>
  obtain ⟨k,hk,rfl,X,V⟩:=hrel;by_cases S:k<s.size
  ·have U:=Zc8 s.data.toList k (by rw[ZI];exact S);have Q:=Up (s.data.toList.drop k);rw[Zj,ZI] at Q;have A:=Gk s k wr (hE.ext V) S ha;unfold decVal at A;have H:=X.out.trans U;clear X U;obtain ⟨R,hR⟩:∃R,(dec (s.data.toList.drop k)).1=R:=⟨_,rfl⟩;obtain ⟨K,hK⟩:∃K,(dec (s.data.toList.drop k)).2=K:=⟨_,rfl⟩;rw[hR,hK] at A H;rw[hK] at Q;clear hR hK;have Y:=gd A;have I:=gd H;clear A H;by_cases h0:K=0
   ·subst h0;have q:=I.out;rw[Zh rfl] at q;have J:=gd q;clear q I
    go_wp2_with (first|(go_at_call 188;refine (Y.out).mono ?_;rintro e w' ⟨rfl,D⟩))
    go_ret2
    exact ⟨by rw[J.out];rfl,V.trans D⟩
   ·have hb:((K:Int)==0)=false:=(by rw[Zy];omega);by_cases F:isChar R=false
    ·have q:=I.out;rw[Ze h0,Zh F] at q;have J:=gd q;clear q I
     go_wp2_with (first|(go_at_call 188;refine (Y.out).mono ?_;rintro e w' ⟨rfl,D⟩)|(go_at_call 189;refine (QL _ _).mono ?_;rintro e w' ⟨rfl,rfl⟩))
     go_ret2
     exact ⟨by rw[J.out];rfl,V.trans D⟩
    ·have hd:isChar R=true:=(by simpa using F);have Z:Hid (checkS s=checkGo s.data.toList.length (k+K) (s.data.toList.drop (k+K))):=(by have h:=I.out;rw[Ze h0,Ze F] at h;exact h);clear I F
     go_wp2_with (first|(go_at_call 188;refine (Y.out).mono ?_;rintro e w' ⟨rfl,D⟩)|(go_at_call 189;refine (QL _ _).mono ?_;rintro e w' ⟨rfl,rfl⟩))
     go_roundw
     case rel=>exact ⟨k+K,by omega,by go_num,Z,V.trans D⟩
     case measure=>simp[intOf];omega
  ·have M:k=s.size:=(by omega);have q:checkS s=(s.size,0):=(by rw[X.out,Za8 _ _ (by rw[ZI];omega),M]);have J:=gd q;clear q X M;go_wp2
   go_ret2
   exact ⟨by rw[J.out];rfl,V⟩
theorem Zba (l out:List UInt8) (g:Bool) (k:Nat) (h:k<l.length):collGo (l.drop k) out g=if isSp (l[k]).toNat then collGo (l.drop (k+1)) out (!out.isEmpty) else collGo (l.drop (k+1)) (out++(if g then [32] else [])++ [l[k]]) false:=by
 rw[Zi h];rfl
theorem Y2 (a b:List UInt8):Lib.byteCells (a++b)=Lib.byteCells a++Lib.byteCells b:=by simp[Lib.byteCells]
theorem Xx (a:List UInt8):(Lib.byteCells a).length=a.length:=by simp[Lib.byteCells]
theorem ZjF (s:ByteArray) (out:List UInt8) (g:Bool) (k:Nat) (q:k<s.size) (h:isSp (s[k].toNat)=true):collGo (s.data.toList.drop k) out g=collGo (s.data.toList.drop (k+1)) out (!out.isEmpty):=by
 rw[Zba _ _ _ k (by rw[ZI];exact q)];exact Zh h
theorem ZjE (s:ByteArray) (out:List UInt8) (g:Bool) (k:Nat) (q:k<s.size) (h:isSp (s[k].toNat)=false):collGo (s.data.toList.drop k) out g=collGo (s.data.toList.drop (k+1)) (out++(if g then [32] else [])++ [s[k]]) false:=by
 rw[Zba _ _ _ k (by rw[ZI];exact q)];exact Ze (by rw[Bool.not_eq_true];exact h)
theorem Uu (s:ByteArray) (w:Wq) (hs:s.size<=140737488351232):
 Calls prog 32 #[.string s] w λe w'=>e= .returned (.string (collapse s))/\Ext w w':=by
 go_enter func32,ntmps32;go_wp2;go_loopw [4,5,8] (λv _ i wr=>∃(k:Nat) (out:List UInt8) (g:Bool),k<=s.size/\i=nI k/\v= .bool g/\out.length+(if g then 1 else 0)<=k/\
  Lib.IsBuilder 96 5 w.heap.size w.heap.size (Lib.byteCells out) wr/\Hid (coll s.data.toList=collGo (s.data.toList.drop k) out g)/\Ext w wr) (λ_ _ i _=>s.size - (intOf i).toNat)
 case atStart=>exact ⟨0,[],false,Zk _,rfl,rfl,by simp,Lib.fresh_isBuilder _ _ _,rfl,(Ext.refl _).alloc _⟩
 case round=>
  obtain ⟨k,out,g,hk,rfl,rfl,h,K,I,J⟩:=hrel;have F:=J.size;by_cases Q:k<s.size
  ·by_cases D:isSp (s[k]).toNat=true
   ·have V:=gd (I.out.trans (ZjF s out g k Q D));have q:out.length<=k:=(by split at h<;>omega);have M:decide (0<(Lib.byteCells out).length)= !out.isEmpty:=(by rw[Xx];cases out<;>simp);have HG:=gd M;clear I M h
    go_wp2_with (first|(go_at_call 61;refine (Us _ _).mono ?_;rintro e w' ⟨rfl,rfl⟩)|(go_at_call 55;refine (I5 _ _ _ _ K).mono ?_;rintro e w' ⟨rfl,rfl⟩))
    go_roundw
    case rel=>exact ⟨k+1,out,!out.isEmpty,by omega,by go_num,by rw[HG.out],by split<;>omega,K,V,J⟩
    case measure=>simp[intOf];omega
   ·have R:isSp (s[k]).toNat=false:=(by simpa using D);have V:=gd (I.out.trans (ZjE s out g k Q R));clear I D;cases g
    ·have q:out.length<=k:=(by simpa using h);clear h
     go_wp2_with (first|(go_at_call 61;refine (Us _ _).mono ?_;rintro e w' ⟨rfl,rfl⟩)|(go_at_call 62;refine (Jc _ _ _ _ _ K (by rw[Xx];omega) F).mono ?_;rintro e w' ⟨rfl,X,H⟩))
     go_roundw
     case rel=>exact ⟨k+1,out++ [s[k]],false,by omega,by go_num,rfl,by simp;omega,by rw[Y2];exact X,by simpa using V,J.then H⟩
     case measure=>simp[intOf];omega
    ·have q:out.length+1<=k:=(by simpa using h);clear h
     go_wp2_with fail
     refine (Us _ _).mono ?_;rintro e w' ⟨rfl,rfl⟩
     go_wp2_with fail
     refine (Jc _ _ _ _ _ K (by rw[Xx];omega) F).mono ?_;rintro e w1 ⟨rfl,Y,U⟩;have S:=(J.then U).size
     go_wp2_with fail
     refine (Jc _ _ _ _ _ Y (by simp[Xx];omega) S).mono ?_;rintro e w2 ⟨rfl,Z,hb⟩
     go_wp2_with fail
     go_roundw
     case rel=>exact ⟨k+1,out++ [32]++ [s[k]],false,by omega,by go_num,rfl,by simp;omega,by rw[Y2,Y2];exact Z,by simpa using V,(J.then U).then hb⟩
     case measure=>simp[intOf];omega
  ·have ha:k=s.size:=(by omega);have A:coll s.data.toList=out:=(by rw[I.out,ZC (by rw[ZI];omega)];rfl);have HF:Hid (str out=collapse s):=(by unfold collapse;rw[A];rfl);clear A I ha
   go_wp2_with (go_at_call 56;refine (JM _ _ _ _ K F).mono ?_;rintro e w' ⟨rfl,H⟩)
   go_ret;exact ⟨by rw[<-HF.out];rfl,J.then H⟩
theorem Za0 (s:ByteArray) (w:Wq) (U:Env w) (V:s.size<=140737488351232):
 Calls prog 178 #[.string s] w λe w'=>e= .returned (.bool (validS s))/\Ext w w':=by
 have I:s.size<=maxLen:=by unfold maxLen;omega
 have q:=Vf s w U I;obtain ⟨K,hK⟩:∃K,(checkS s).2=K:=⟨_,rfl⟩;obtain ⟨R,H⟩:∃R,collapse s=R:=⟨_,rfl⟩;have A:validS s=(decide (K=0) && (R.data.toList==s.data.toList)):=by unfold validS;rw[hK,H]
 have h:=λw'=>Uu s w' V;rw[hK] at q;rw[H] at h;rw[A];clear A hK H;have M:=gd q;have Q:=gd h;clear q h;by_cases F:K=0
 ·subst F;go_enter func178,ntmps178
  go_wp2_with (first|(go_at_call 150;refine (M.out).mono ?_;rintro e w' ⟨rfl,J⟩)|(go_at_call 32;refine (Q.out _).mono ?_;rintro e w' ⟨rfl,D⟩))
  go_ret;exact ⟨by simp[GL],J.trans D⟩
 ·have X:((K:Int)==0)=false:=by rw[Zy];omega
  have S:decide (K=0)=false:=by simp[F]
  rw[S];clear S F;go_enter func178,ntmps178
  go_wp2_with (first|(go_at_call 150;refine (M.out).mono ?_;rintro e w' ⟨rfl,J⟩)|(go_at_call 32;refine (Q.out _).mono ?_;rintro e w' ⟨rfl,D⟩))
  go_ret;exact ⟨by simp,J⟩
def encN (r:Nat):List UInt8:=
 if 1114111<r\/(55296<=r/\r<=57343) then []
 else if r<128 then [UInt8.ofNat r]
 else if r<2048 then [UInt8.ofNat (192+r / 64),UInt8.ofNat (128+r % 64)]
 else if r<65536 then [UInt8.ofNat (224+r / 4096),UInt8.ofNat (128+r / 64 % 64),UInt8.ofNat (128+r % 64)]
 else [UInt8.ofNat (240+r / 262144),UInt8.ofNat (128+r / 4096 % 64),UInt8.ofNat (128+r / 64 % 64),UInt8.ofNat (128+r % 64)]
def accStart (n:Nat) (b:Nat):Nat:=if n=2 then b % 32 else if n=3 then b % 16 else if n=4 then b % 8 else b
def acc (n:Nat) (l:List UInt8):Nat->Nat
 |0=>accStart n (l.getD 0 0).toNat
 |i+1=>acc n l i*64+(l.getD (i+1) 0).toNat % 64
def refFrom:Nat->Nat->List UInt8->Nat×Nat
 |0,_,_=>(0,0)
 |k+1,n,l=>if n<=4/\n<=l.length then (if encN (acc n l (n - 1))=l.take n then (acc n l (n - 1),n) else refFrom k (n+1) l) else (0,0)
def refDec (l:List UInt8):Nat×Nat:=refFrom 4 1 l
theorem Xj (x:UInt8):x.toNat<256:=x.toNat_lt
theorem X0 (x:UInt8) (n:Nat) (h:n<256):UInt8.ofNat n=x↔n=x.toNat:=by
 constructor
 ·rintro rfl;simp[Nat.mod_eq_of_lt h]
 ·rintro rfl;simp
theorem ZjK (a:UInt8):encN a.toNat= [a]↔a.toNat<128:=by
 have q:=Xj a;unfold encN;rw[Ze (by omega)];by_cases h:a.toNat<128
 ·rw[Zh h];simp[h]
 ·rw[Ze h,Zh (by omega)];simp[h]
theorem Zkx (a b:UInt8):encN (a.toNat % 32*64+b.toNat % 64)= [a,b]↔(a.toNat / 32=6/\b.toNat / 64=2)/\128<=a.toNat % 32*64+b.toNat % 64:=by
 have q:=Xj a;have A:=Xj b;unfold encN;rw[Ze (by omega)];by_cases h:a.toNat % 32*64+b.toNat % 64<128
 ·rw[Zh h];simp;omega
 ·rw[Ze h,Zh (by omega)];simp only[List.cons.injEq,and_true];rw[X0 _ _ (by omega),X0 _ _ (by omega)];omega
theorem Zk2 (a b c:UInt8):encN ((a.toNat % 16*64+b.toNat % 64)*64+c.toNat % 64)= [a,b,c]↔(a.toNat / 16=14/\b.toNat / 64=2/\c.toNat / 64=2)/\
 2048<=(a.toNat % 16*64+b.toNat % 64)*64+c.toNat % 64/\((a.toNat % 16*64+b.toNat % 64)*64+c.toNat % 64<55296\/57344<=(a.toNat % 16*64+b.toNat % 64)*64+c.toNat % 64):=by
 have D:=Xj a;have F:=Xj b;have H:=Xj c;unfold encN;generalize I:(a.toNat % 16*64+b.toNat % 64)*64+c.toNat % 64=r;by_cases q:1114111<r\/(55296<=r/\r<=57343)
 ·rw[Zh q];simp;omega
 ·rw[Ze q];by_cases h:r<128
  ·rw[Zh h];simp;omega
  ·rw[Ze h];by_cases A:r<2048
   ·rw[Zh A];simp;omega
   ·rw[Ze A,Zh (by omega)];simp only[List.cons.injEq,and_true];rw[X0 _ _ (by omega),X0 _ _ (by omega),X0 _ _ (by omega)];omega
theorem Zlg (a b c d:UInt8):encN (((a.toNat % 8*64+b.toNat % 64)*64+c.toNat % 64)*64+d.toNat % 64)= [a,b,c,d]↔(a.toNat / 8=30/\b.toNat / 64=2/\c.toNat / 64=2/\d.toNat / 64=2)/\
 65536<=((a.toNat % 8*64+b.toNat % 64)*64+c.toNat % 64)*64+d.toNat % 64/\((a.toNat % 8*64+b.toNat % 64)*64+c.toNat % 64)*64+d.toNat % 64<=1114111:=by
 have F:=Xj a;have H:=Xj b;have I:=Xj c;have J:=Xj d;unfold encN;generalize K:((a.toNat % 8*64+b.toNat % 64)*64+c.toNat % 64)*64+d.toNat % 64=r;by_cases q:1114111<r\/(55296<=r/\r<=57343)
 ·rw[Zh q];simp;omega
 ·rw[Ze q];by_cases h:r<128
  ·rw[Zh h];simp;omega
  ·rw[Ze h];by_cases A:r<2048
   ·rw[Zh A];simp;omega
   ·rw[Ze A];by_cases D:r<65536
    ·rw[Zh D];simp;omega
    ·rw[Ze D];simp only[List.cons.injEq,and_true];rw[X0 _ _ (by omega),X0 _ _ (by omega),X0 _ _ (by omega),X0 _ _ (by omega)];omega
theorem Q1 (l:List UInt8) (q:l≠ []):refDec l=dec l:=by
 have D:1<=l.length:=Jm.2 q;unfold dec;rw[Ze q,U3]
 match l,q with
 | [a],_=>have h:=Xj a;simp[refDec,refFrom,acc,accStart,Lib.decodeN,ZjK];split<;>simp;omega
 | [a,b],_=>
  have h:=Xj a;have A:=Xj b;simp[refDec,refFrom,acc,accStart,Lib.decodeN,ZjK,Zkx]
  repeat' split
  all_goals (simp at*;try omega)
 | [a,b,c],_=>
  have h:=Xj a;have A:=Xj b;have F:=Xj c;simp[refDec,refFrom,acc,accStart,Lib.decodeN,ZjK,Zkx,Zk2]
  repeat' split
  all_goals (simp at*;try omega)
 |a::b::c::d::t,_=>
  have h:=Xj a;have A:=Xj b;have F:=Xj c;have H:=Xj d;simp[refDec,refFrom,acc,accStart,Lib.decodeN,ZjK,Zkx,Zk2,Zlg]
  repeat' split
  all_goals (simp at*;try omega)
theorem VH (w:Wq) (xs:List Int) (n:Nat) (h:xs.length=n):
 (convert 94 9 (.slice (some ⟨w.heap.size,0,none⟩) n n)).run prog (w.alloc (.cells (xs.map (Value.int .u8)).toArray 5))= .ok (.string (strOfNums xs)) (w.alloc (.cells (xs.map (Value.int .u8)).toArray 5)):=by
 refine run_convert_bytes_arg _ _ 5 underlying94 underlying5 _ 0 n n xs h (λi q=> ?_) _ underlying9;have:=Zg w (.cells (xs.map (Value.int .u8)).toArray 5);rw[Ym,Zp this];simp[Zr (show i<xs.length by omega),List.getD]
theorem Zkk (w:Wq) (a:Int):(convert 94 9 (.slice (some ⟨w.heap.size,0,none⟩) 1 1)).run prog (w.alloc (.cells #[.int .u8 a] 5))= .ok (.string (strOfNums [a])) (w.alloc (.cells #[.int .u8 a] 5)):=VH w [a] 1 rfl
theorem Zkl (w:Wq) (a b:Int):(convert 94 9 (.slice (some ⟨w.heap.size,0,none⟩) 2 2)).run prog (w.alloc (.cells #[.int .u8 a,.int .u8 b] 5))= .ok (.string (strOfNums [a,b])) (w.alloc (.cells #[.int .u8 a,.int .u8 b] 5)):=VH w [a,b] 2 rfl
theorem ZkZ (w:Wq) (a b c:Int):(convert 94 9 (.slice (some ⟨w.heap.size,0,none⟩) 3 3)).run prog (w.alloc (.cells #[.int .u8 a,.int .u8 b,.int .u8 c] 5))= .ok (.string (strOfNums [a,b,c])) (w.alloc (.cells #[.int .u8 a,.int .u8 b,.int .u8 c] 5)):=VH w [a,b,c] 3 rfl
theorem Zk0 (w:Wq) (a b c d:Int):(convert 94 9 (.slice (some ⟨w.heap.size,0,none⟩) 4 4)).run prog (w.alloc (.cells #[.int .u8 a,.int .u8 b,.int .u8 c,.int .u8 d] 5))= .ok (.string (strOfNums [a,b,c,d])) (w.alloc (.cells #[.int .u8 a,.int .u8 b,.int .u8 c,.int .u8 d] 5)):=VH w [a,b,c,d] 4 rfl
theorem QK (xs:List Int):strOfNums xs=str (xs.map λn=>UInt8.ofNat n.toNat):=rfl
theorem Zet (s:ByteArray) (k n:Nat) (m:Int) (A:m=n) (h:k+n<=s.size) (q:Wq):
 (Instr.slice 9 (.string s) (some (nI (k:Nat))) (some (nI ((k:Nat)+m))) none).run prog q= .ok (.string (s.extract k (k+n))) q:=by
 subst A;rw[run_slice_string (P:=prog) (w:=q) 9 s .i64 .i64 _ _ underlying9 (by omega) (by omega) (by omega)];rw[show ((k:Int)+(n:Int)).toNat=k+n by omega,show ((k:Nat):Int).toNat=k by omega]
theorem Xk (s:ByteArray) (k n:Nat):(s.extract k (k+n)).data.toList=(s.data.toList.drop k).take n:=by
 simp[Nat.add_sub_cancel_left]
theorem Zga (L:List UInt8) (t:ByteArray):((str L).toList==t.toList)=decide (L=t.data.toList):=by
 rw[GL,Z5,Y0];simp
section
attribute [local go_sem] Zkk Zkl ZkZ Zk0
theorem Gg (r:Nat) (w:Wq) (A:r<4294967296):
 Calls prog 181 #[nI (r:Nat)] w λe w'=>e= .returned (.string (str (encN r)))/\Ext w w':=by
 obtain ⟨L,q⟩:∃L,encN r=L:=⟨_,rfl⟩;rw[q];obtain ⟨x,h⟩:∃x:Int,(r:Int)=x:=⟨_,rfl⟩;rw[h];have I:0<=x:=by omega
 have J:x<4294967296:=by omega
 have F:=gd h;have H:=gd A;have D:=gd q;clear h A q;go_enter func181,ntmps181;go_wp2
 all_goals go_ret
 all_goals (refine ⟨Zz (λl=>Ending.returned (.string l)) ?_,by repeat (first|exact Ext.refl _|apply Ext.alloc)⟩)
 all_goals have h:=F.out
 all_goals (rw[<-D.out];unfold encN)
 all_goals first|(rw[Zh (by omega)];rfl)|(rw[Ze (by omega),Ze (by omega),Ze (by omega),Zh (by omega)];simp only[QK,ZP,Yv,show (224+x / 4096).toNat=224+r / 4096 by omega,show (128+x / 64 % 64).toNat=128+r / 64 % 64 by omega,show (128+x % 64).toNat=128+r % 64 by omega])|(rw[Ze (by omega),Ze (by omega),Ze (by omega),Ze (by omega)];simp only[QK,ZP,Yv,show (240+x / 262144).toNat=240+r / 262144 by omega,show (128+x / 4096 % 64).toNat=128+r / 4096 % 64 by omega,show (128+x / 64 % 64).toNat=128+r / 64 % 64 by omega,show (128+x % 64).toNat=128+r % 64 by omega])|(rw[Ze (by omega),Zh (by omega)];simp only[QK,ZP,Yv,show x.toNat=r by omega])|(rw[Ze (by omega),Ze (by omega),Zh (by omega)];simp only[QK,ZP,Yv,show (192+x / 64).toNat=192+r / 64 by omega,show (128+x % 64).toNat=128+r % 64 by omega])
theorem Ug (x:Int) (w:Wq) (q:0<=x) (A:x<4294967296):
 Calls prog 181 #[nI x] w λe w'=>e= .returned (.string (str (encN x.toNat)))/\Ext w w':=by
 have h:=Gg x.toNat w (by omega)
 rwa [Int.toNat_of_nonneg q] at h
end
theorem Uc (x:UInt8):(x.toNat:Int)<256:=by have:=Xj x;omega
theorem Ud (s:ByteArray) (k i:Nat) (h:k+i<s.size):(s.data.toList.drop k).getD i 0=s[k+i]:=by
 rw[Yk,List.getElem?_drop,Zr (by rw[ZI];exact h)];rfl
theorem IS (s:ByteArray) (k n:Nat) (H:1<=n) (q:n<=4) (I:k+n<=s.size) (x:Int) (F:acc n (s.data.toList.drop k) (n - 1)=x.toNat)
 (A:dec (s.data.toList.drop k)=refFrom (5 - n) n (s.data.toList.drop k)) (h:((str (encN x.toNat)).toList==(s.extract k (k+n)).toList)=true):dec (s.data.toList.drop k)=(x.toNat,n):=by
 rw[Zga,Xk,Yb] at h;obtain ⟨m,D⟩:∃m,5 - n=m+1:=⟨4 - n,by omega⟩;rw[A,D,refFrom,Zh ⟨q,by rw[Zj,ZI];omega⟩,F,Zh h]
theorem ZcO (s:ByteArray) (k n:Nat) (I:1<=n) (D:n<=4) (J:k+n<=s.size) (x:Int) (H:acc n (s.data.toList.drop k) (n - 1)=x.toNat)
 (A:dec (s.data.toList.drop k)=refFrom (5 - n) n (s.data.toList.drop k)) (q:((str (encN x.toNat)).toList==(s.extract k (k+n)).toList)=false):Hid (dec (s.data.toList.drop k)=refFrom (5 - (n+1)) (n+1) (s.data.toList.drop k)):=by
 rw[Zga,Xk,Jj] at q;obtain ⟨m,F⟩:∃m,5 - n=m+1:=⟨4 - n,by omega⟩;have h:5 - (n+1)=m:=by omega
 rw[h];rw[F,refFrom,Zh ⟨D,by rw[Zj,ZI];omega⟩,H,Ze q] at A;exact A
theorem Uv (s:ByteArray) (k:Nat) (w:Wq) (hk:k<s.size) (hs:s.size<=maxLen):
 Calls prog 139 #[.string s,nI (k:Nat)] w λe w'=>e= .returned (.tuple #[nI ((dec (s.data.toList.drop k)).1:Nat),nI ((dec (s.data.toList.drop k)).2:Nat)])/\Ext w w':=by
 unfold maxLen at hs;have ha:s.data.toList.drop k≠ []:=by intro h;have:=Zz List.length h;rw[Zj,ZI] at this;simp at this;omega
 have V:Hid (dec (s.data.toList.drop k)=refFrom 4 1 (s.data.toList.drop k)):=(Q1 _ ha).symm;clear ha;obtain ⟨l,R⟩:∃l,s.data.toList.drop k=l:=⟨_,rfl⟩;have Y:=gd R;rw[R] at V|-;clear R;have hc:decide (s.size<=k)=false:=by simp;omega
 have hb:decide ((k:Int)<0)=false:=by simp
 go_enter func139,ntmps139;go_wp2;go_loopw [6,7,8] (λv _ _ wr=>∃n:Nat,1<=n/\n<=5/\k+n<=s.size+1/\v=nI n/\Hid (dec l=refFrom (5 - n) n l)/\Ext w wr) (λv _ _ _=>5 - (intOf v).toNat)
 case atStart=>exact ⟨1,by omega,by omega,by omega,rfl,V,Ext.refl _⟩
 case round=>
  obtain ⟨n,h1,h5,hn,rfl,S,Q⟩:=hrel;clear V hc hb;by_cases Z:n<=4/\k+n<=s.size
  ·obtain ⟨h4,F⟩:=Z;have U:n=1\/n=2\/n=3\/n=4:=(by omega);rcases U with rfl|rfl|rfl|rfl
   ·clear h1 h5 h4 hn;have b0:=Uc (s[k]'(by omega));have A:Hid (acc 1 (s.data.toList.drop k) (1 - 1)=(s[k].toNat:Int).toNat):=(by show _=_;simp only[acc,accStart,show 1 - 1=0 from rfl,Ud s k 0 (by omega)];simp);go_wp2;refine IK 1 ?_;rw[rounds_succ];go_wp2;have I:(k:Int)+1<=s.size:=(by omega);have H:0<=(k:Int)+1:=(by omega);have J:(k:Int)<=(k:Int)+1:=(by omega);have K:IntKind.i64.wrap ((k:Int)+1)=(k:Int)+1:=IntWalk.i64_in _ (by omega);have M:((k:Int)+1).toNat=k+1:=by omega
    go_region_with (go_at_call 181;refine (Ug _ _ (by omega) (by omega)).mono ?_;rintro e w' ⟨rfl,D⟩)
    clear I H J K M;go_wp2
    all_goals have X:((str (encN (s[k].toNat:Int).toNat)).toList==(s.extract k (k+1)).toList)=true\/((str (encN (s[k].toNat:Int).toNat)).toList==(s.extract k (k+1)).toList)=false:=by first|exact Or.inl ‹_› |exact Or.inr ‹_›
    all_goals have R:=Y.out
    all_goals subst R
    all_goals first|(have q:=IS s k 1 (by omega) (by omega) F _ A.out S.out ‹_›;go_ret2;exact ⟨by rw[q];exact IT (by simp only[];omega) rfl,(Q.drew).trans D⟩)|(have q:=ZcO s k 1 (by omega) (by omega) F _ A.out S.out ‹_›;go_roundw;(case rel=>(first|exact ⟨1+1,by omega,by omega,by omega,rfl,q,(Q.drew).trans D⟩|((repeat apply Exists.intro);exact ⟨⟨1+1,by omega,by omega,by omega,rfl,q,(Q.drew).trans D⟩,rfl⟩)));(case measure=>simp[intOf]))
   ·clear h1 h5 h4 hn;have b0:=Uc (s[k]'(by omega));have b1:=Uc (s[k+1]'(by omega));have A:Hid (acc 2 (s.data.toList.drop k) (2 - 1)=((s[k].toNat:Int) % 32*64+(s[k+1].toNat:Int) % 64).toNat):=(by show _=_;simp only[acc,accStart,show 2 - 1=1 from rfl,Ud s k 0 (by omega),Ud s k 1 (by omega)];simp;omega);go_wp2;refine IK 2 ?_;rw[rounds_succ];go_wp2;rw[rounds_succ];go_wp2;have I:(k:Int)+2<=s.size:=(by omega);have H:0<=(k:Int)+2:=(by omega);have J:(k:Int)<=(k:Int)+2:=(by omega);have K:IntKind.i64.wrap ((k:Int)+2)=(k:Int)+2:=IntWalk.i64_in _ (by omega);have M:((k:Int)+2).toNat=k+2:=by omega
    go_region_with (go_at_call 181;refine (Ug _ _ (by omega) (by omega)).mono ?_;rintro e w' ⟨rfl,D⟩)
    clear I H J K M;go_wp2
    all_goals have X:((str (encN ((s[k].toNat:Int) % 32*64+(s[k+1].toNat:Int) % 64).toNat)).toList==(s.extract k (k+2)).toList)=true\/((str (encN ((s[k].toNat:Int) % 32*64+(s[k+1].toNat:Int) % 64).toNat)).toList==(s.extract k (k+2)).toList)=false:=by first|exact Or.inl ‹_› |exact Or.inr ‹_›
    all_goals have R:=Y.out
    all_goals subst R
    all_goals first|(have q:=IS s k 2 (by omega) (by omega) F _ A.out S.out ‹_›;go_ret2;exact ⟨by rw[q];exact IT (by simp only[];omega) rfl,(Q.drew).trans D⟩)|(have q:=ZcO s k 2 (by omega) (by omega) F _ A.out S.out ‹_›;go_roundw;(case rel=>(first|exact ⟨2+1,by omega,by omega,by omega,rfl,q,(Q.drew).trans D⟩|((repeat apply Exists.intro);exact ⟨⟨2+1,by omega,by omega,by omega,rfl,q,(Q.drew).trans D⟩,rfl⟩)));(case measure=>simp[intOf]))
   ·clear h1 h5 h4 hn;have b0:=Uc (s[k]'(by omega));have b1:=Uc (s[k+1]'(by omega));have b2:=Uc (s[k+2]'(by omega));have A:Hid (acc 3 (s.data.toList.drop k) (3 - 1)=(((s[k].toNat:Int) % 16*64+(s[k+1].toNat:Int) % 64)*64+(s[k+2].toNat:Int) % 64).toNat):=(by show _=_;simp only[acc,accStart,show 3 - 1=2 from rfl,Ud s k 0 (by omega),Ud s k 1 (by omega),Ud s k 2 (by omega)];simp;omega);go_wp2;refine IK 3 ?_;rw[rounds_succ];go_wp2;rw[rounds_succ];go_wp2;rw[rounds_succ];go_wp2;have I:(k:Int)+3<=s.size:=(by omega);have H:0<=(k:Int)+3:=(by omega);have J:(k:Int)<=(k:Int)+3:=(by omega);have K:IntKind.i64.wrap ((k:Int)+3)=(k:Int)+3:=IntWalk.i64_in _ (by omega);have M:((k:Int)+3).toNat=k+3:=by omega
    go_region_with (go_at_call 181;refine (Ug _ _ (by omega) (by omega)).mono ?_;rintro e w' ⟨rfl,D⟩)
    clear I H J K M;go_wp2
    all_goals have X:((str (encN (((s[k].toNat:Int) % 16*64+(s[k+1].toNat:Int) % 64)*64+(s[k+2].toNat:Int) % 64).toNat)).toList==(s.extract k (k+3)).toList)=true\/((str (encN (((s[k].toNat:Int) % 16*64+(s[k+1].toNat:Int) % 64)*64+(s[k+2].toNat:Int) % 64).toNat)).toList==(s.extract k (k+3)).toList)=false:=by first|exact Or.inl ‹_› |exact Or.inr ‹_›
    all_goals have R:=Y.out
    all_goals subst R
    all_goals first|(have q:=IS s k 3 (by omega) (by omega) F _ A.out S.out ‹_›;go_ret2;exact ⟨by rw[q];exact IT (by simp only[];omega) rfl,(Q.drew).trans D⟩)|(have q:=ZcO s k 3 (by omega) (by omega) F _ A.out S.out ‹_›;go_roundw;(case rel=>(first|exact ⟨3+1,by omega,by omega,by omega,rfl,q,(Q.drew).trans D⟩|((repeat apply Exists.intro);exact ⟨⟨3+1,by omega,by omega,by omega,rfl,q,(Q.drew).trans D⟩,rfl⟩)));(case measure=>simp[intOf]))
   ·clear h1 h5 h4 hn;have b0:=Uc (s[k]'(by omega));have b1:=Uc (s[k+1]'(by omega));have b2:=Uc (s[k+2]'(by omega));have b3:=Uc (s[k+3]'(by omega));have A:Hid (acc 4 (s.data.toList.drop k) (4 - 1)=((((s[k].toNat:Int) % 8*64+(s[k+1].toNat:Int) % 64)*64+(s[k+2].toNat:Int) % 64)*64+(s[k+3].toNat:Int) % 64).toNat):=(by show _=_;simp only[acc,accStart,show 4 - 1=3 from rfl,Ud s k 0 (by omega),Ud s k 1 (by omega),Ud s k 2 (by omega),Ud s k 3 (by omega)];simp;omega);go_wp2;refine IK 4 ?_;rw[rounds_succ];go_wp2;rw[rounds_succ];go_wp2;rw[rounds_succ];go_wp2;rw[rounds_succ];go_wp2;have I:(k:Int)+4<=s.size:=(by omega);have H:0<=(k:Int)+4:=(by omega);have J:(k:Int)<=(k:Int)+4:=(by omega);have K:IntKind.i64.wrap ((k:Int)+4)=(k:Int)+4:=IntWalk.i64_in _ (by omega);have M:((k:Int)+4).toNat=k+4:=by omega
    go_region_with (go_at_call 181;refine (Ug _ _ (by omega) (by omega)).mono ?_;rintro e w' ⟨rfl,D⟩)
    clear I H J K M;go_wp2
    all_goals have X:((str (encN ((((s[k].toNat:Int) % 8*64+(s[k+1].toNat:Int) % 64)*64+(s[k+2].toNat:Int) % 64)*64+(s[k+3].toNat:Int) % 64).toNat)).toList==(s.extract k (k+4)).toList)=true\/((str (encN ((((s[k].toNat:Int) % 8*64+(s[k+1].toNat:Int) % 64)*64+(s[k+2].toNat:Int) % 64)*64+(s[k+3].toNat:Int) % 64).toNat)).toList==(s.extract k (k+4)).toList)=false:=by first|exact Or.inl ‹_› |exact Or.inr ‹_›
    all_goals have R:=Y.out
    all_goals subst R
    all_goals first|(have q:=IS s k 4 (by omega) (by omega) F _ A.out S.out ‹_›;go_ret2;exact ⟨by rw[q];exact IT (by simp only[];omega) rfl,(Q.drew).trans D⟩)|(have q:=ZcO s k 4 (by omega) (by omega) F _ A.out S.out ‹_›;go_roundw;(case rel=>(first|exact ⟨4+1,by omega,by omega,by omega,rfl,q,(Q.drew).trans D⟩|((repeat apply Exists.intro);exact ⟨⟨4+1,by omega,by omega,by omega,rfl,q,(Q.drew).trans D⟩,rfl⟩)));(case measure=>simp[intOf]))
  ·have q:dec l=(0,0):=by
    rw[S.out];have he:l.length=s.size - k:=(by rw[<-Y.out,Zj,ZI]);cases h:5 - n with
    |zero=>rfl
    |succ m=>rw[refFrom,Ze (by omega)]
   have HF:=gd q;clear q S;by_cases h6:n=5
   ·subst h6;go_wp2
    all_goals go_ret2
    all_goals exact ⟨by rw[HF.out];rfl,Q⟩
   ·have h7:s.size<k+n:=(by omega);clear Z h6;go_wp2
    all_goals go_ret2
    all_goals exact ⟨by rw[HF.out];rfl,Q⟩
theorem ZcH (s:ByteArray) (w:Wq) (hs:s.size<=maxLen):
 Calls prog 97 #[.string s] w λe w'=>e= .returned (.tuple #[nI ((checkS s).1:Nat),nI ((checkS s).2:Nat)])/\Ext w w':=by
 have hd:=hs;unfold maxLen at hs;go_enter func97,ntmps97;go_wp2;go_loopw [4,5,6] (λv _ _ wr=>∃k:Nat,k<=s.size/\v=nI k/\Hid (checkS s=checkGo s.data.toList.length k (s.data.toList.drop k))/\Ext w wr) (λv _ _ _=>s.size - (intOf v).toNat)
 case atStart=>exact ⟨0,Zk _,rfl,rfl,Ext.refl _⟩
 case round=>
  obtain ⟨k,hk,rfl,U,V⟩:=hrel;by_cases Q:k<s.size
  ·have S:=Zc8 s.data.toList k (by rw[ZI];exact Q);have M:=Up (s.data.toList.drop k);rw[Zj,ZI] at M;have A:=Uv s k wr Q hd;have H:=U.out.trans S;clear U S;obtain ⟨R,hR⟩:∃R,(dec (s.data.toList.drop k)).1=R:=⟨_,rfl⟩;obtain ⟨K,hK⟩:∃K,(dec (s.data.toList.drop k)).2=K:=⟨_,rfl⟩;rw[hR,hK] at A H;rw[hK] at M;clear hR hK;have X:=gd A;have I:=gd H;clear A H;by_cases Z:K=0
   ·subst Z;have q:=I.out;rw[Zh rfl] at q;have J:=gd q;clear q I
    go_wp2_with (first|(go_at_call 139;refine (X.out).mono ?_;rintro e w' ⟨rfl,D⟩))
    go_ret2
    exact ⟨by rw[J.out];rfl,V.trans D⟩
   ·have hb:((K:Int)==0)=false:=(by rw[Zy];omega);by_cases F:isChar R=false
    ·have q:=I.out;rw[Ze Z,Zh F] at q;have J:=gd q;clear q I
     go_wp2_with (first|(go_at_call 139;refine (X.out).mono ?_;rintro e w' ⟨rfl,D⟩)|(go_at_call 140;refine (Vb _ _).mono ?_;rintro e w' ⟨rfl,rfl⟩))
     go_ret2
     exact ⟨by rw[J.out];rfl,V.trans D⟩
    ·have he:isChar R=true:=(by simpa using F);have Y:Hid (checkS s=checkGo s.data.toList.length (k+K) (s.data.toList.drop (k+K))):=(by have h:=I.out;rw[Ze Z,Ze F] at h;exact h);clear I F
     go_wp2_with (first|(go_at_call 139;refine (X.out).mono ?_;rintro e w' ⟨rfl,D⟩)|(go_at_call 140;refine (Vb _ _).mono ?_;rintro e w' ⟨rfl,rfl⟩))
     go_roundw
     case rel=>exact ⟨k+K,by omega,by go_num,Y,V.trans D⟩
     case measure=>simp[intOf];omega
  ·have ha:k=s.size:=(by omega);have q:checkS s=(k,0):=(by rw[U.out,Za8 _ _ (by rw[ZI];omega)]);have J:=gd q;clear q U ha;go_wp2
   go_ret2
   exact ⟨by rw[J.out];rfl,V⟩
theorem KF (l:List UInt8):∀y∈Lib.byteCells l,y.oneCell'=true:=by
 intro y h;simp[Lib.byteCells] at h;obtain ⟨b,_,rfl⟩:=h;rfl
theorem Zh9 (w:Wq) (base:Nat) (v:Value) (l:List UInt8) (h:w.ownsRow base 5 1 v l.length (Lib.byteCells l)):
 (convert 94 9 v).run prog w= .ok (.string (str l)) w:=by
 rcases h.2 with ⟨rfl,F⟩|⟨g,cap,D,rfl,_⟩
 ·have:l= []:=Zw F;subst this;exact run_convert_bytes_nil w _ 5 underlying94 underlying5 0 0 _ underlying9
 ·have:=run_convert_bytes_arg (P:=prog) w _ 5 underlying94 underlying5 g 0 l.length cap (l.map λb=>(b.toNat:Int)) (by simp) (λi A=> ?_) 9 underlying9
  ·rw[this];have e:strOfNums (l.map λb=>(b.toNat:Int))=str l:=(by rw[QK,ZeL];refine Zz str ((List.map_congr_left ?_).trans (List.map_id l));intro x _;simp);rw[e]
  ·have q:=h.cells (g:=g) rfl i (.int .u8 (l[i].toNat)) (by simp[Lib.byteCells,Zr A]);rw[show (⟨g,0,none⟩:Addr).add i=⟨g,0+i,none⟩ from by unfold Addr.add;split<;>simp_all] at q;rw[q];simp[List.getD,Zr A]
def hexD (n:Nat):UInt8:=UInt8.ofNat (if n<10 then 48+n else 87+n)
def escB (c:UInt8):List UInt8:=
 if c.toNat=34\/c.toNat=92 then [92,c]
 else if 32<=c.toNat then []
 else if c.toNat=8 then [92,98] else if c.toNat=12 then [92,102] else if c.toNat=10 then [92,110] else if c.toNat=13 then [92,114] else if c.toNat=9 then [92,116]
 else [92,117,48,48,hexD (c.toNat / 16),hexD (c.toNat % 16)]
def qB (c:UInt8):List UInt8:=if escB c= [] then [c] else escB c
def quoteL (l:List UInt8):List UInt8:=34::(l.flatMap qB++ [34])
section
theorem ZkG (w:Wq):(Instr.index 301 (.agg #[.int .u8 98,.int .u8 8,.int .u8 102,.int .u8 12,.int .u8 110,.int .u8 10,.int .u8 114,.int .u8 13,.int .u8 116,.int .u8 9]) (nI 0)).run prog w= .ok (.agg #[.int .u8 98,.int .u8 8]) w:=by kernel_rfl
theorem ZkH (w:Wq):(Instr.index 301 (.agg #[.int .u8 98,.int .u8 8,.int .u8 102,.int .u8 12,.int .u8 110,.int .u8 10,.int .u8 114,.int .u8 13,.int .u8 116,.int .u8 9]) (nI 1)).run prog w= .ok (.agg #[.int .u8 102,.int .u8 12]) w:=by kernel_rfl
theorem ZkI (w:Wq):(Instr.index 301 (.agg #[.int .u8 98,.int .u8 8,.int .u8 102,.int .u8 12,.int .u8 110,.int .u8 10,.int .u8 114,.int .u8 13,.int .u8 116,.int .u8 9]) (nI 2)).run prog w= .ok (.agg #[.int .u8 110,.int .u8 10]) w:=by kernel_rfl
theorem ZkJ (w:Wq):(Instr.index 301 (.agg #[.int .u8 98,.int .u8 8,.int .u8 102,.int .u8 12,.int .u8 110,.int .u8 10,.int .u8 114,.int .u8 13,.int .u8 116,.int .u8 9]) (nI 3)).run prog w= .ok (.agg #[.int .u8 114,.int .u8 13]) w:=by kernel_rfl
theorem ZkK (w:Wq):(Instr.index 301 (.agg #[.int .u8 98,.int .u8 8,.int .u8 102,.int .u8 12,.int .u8 110,.int .u8 10,.int .u8 114,.int .u8 13,.int .u8 116,.int .u8 9]) (nI 4)).run prog w= .ok (.agg #[.int .u8 116,.int .u8 9]) w:=by kernel_rfl
theorem Zkv (w:Wq) (a b:Int) (n:Nat) (h:n=w.heap.size):(convert 94 9 (.slice (some ⟨n,0,none⟩) 2 2)).run prog (w.alloc (.cells #[.int .u8 a,.int .u8 b] 5))= .ok (.string (strOfNums [a,b])) (w.alloc (.cells #[.int .u8 a,.int .u8 b] 5)):=by subst h;exact Zkl w a b
attribute [local go_sem] Zkv ZkG ZkH ZkI ZkJ ZkK
end
section
variable {B base n:Nat} {T e:TypeId} {v:Value} {w w':World} {xs:List Value}
theorem Qy (l:List UInt8):(str l).toList.isEmpty=l.isEmpty:=by rw[Z2,Z5]
theorem G4 (s:ByteArray) (f k:Nat) (h:f<=k):(s.extract f k).data.toList=(s.data.toList.drop f).take (k - f):=by
 simp
theorem UL (a b:ByteArray):(a++b).data.toList=a.data.toList++b.data.toList:=by simp
theorem Zi5 (s:ByteArray) (f k:Nat) (h:f<=k) (q:k<s.size):(s.data.toList.drop f).take (k+1 - f)=(s.data.toList.drop f).take (k - f)++ [s[k]]:=by
 rw[show k+1 - f=(k - f)+1 by omega,Zx (by rw[Zj,ZI];omega)];simp only[List.getElem_drop]
 congr 2
 have:f+(k - f)=k:=by omega
 simp only[this];rfl
theorem Ye {size:Nat} (h:w.ownsRow base e size v n xs) (q:Ext w w'):w'.ownsRow base e size v n xs:=
 h.kept (q.grown none) (by cases v.ownBlock<;>simp)
theorem Ul {b:Nat} {bs:List Value} (h:Lib.IsBuilder T e B b bs w) (D:Ext w w'):Lib.IsBuilder T e B b bs w':=by
 rcases h with ⟨F,v,H,q,A⟩|⟨F,v,H,q,A⟩
 ·exact Or.inl ⟨F,v,D.heap H,Ye q D,A⟩
 ·exact Or.inr ⟨F,v,D.heap H,Ye q D,A⟩
end
section
attribute [local go_sem] Zkk strOfNums_size
def i64ok (n:Int):Prop:= -9223372036854775808<=n/\n<=9223372036854775807
theorem Zgg (x:Int) (h:i64ok x):wrap64 x=x:=by unfold wrap64;have:=h.1;have:=h.2;omega
end
inductive JV where
 |null
 |bool (b:Bool)
 |int (n:Int)
 |str (s:ByteArray)
 |arr (l:List JV)
def commas:List (List UInt8)->List UInt8
 | []=> []
 | [t]=>t
 |t::u::r=>t++44::commas (u::r)
def jtext:JV->List UInt8
 | .null=> [110,117,108,108]
 | .bool b=>if b then [116,114,117,101] else [102,97,108,115,101]
 | .int n=>Lib.itoa n
 | .str s=>quoteL s.data.toList
 | .arr l=>91::(commas (l.map jtext)++ [93])
def jvalid:JV->Nat->Bool
 | .str s,depth=>decide (depth<=100) && Lib.validD s.data.toList
 | .arr l,depth=>decide (depth<=100) && (l.map λj=>jvalid j (depth+1)).all id
 |_,depth=>decide (depth<=100)
def jwrite (j:JV):ByteArray×Nat:=if jvalid j 1 then (str (jtext j),0) else (⟨#[]⟩,22)
def vcells (k:Int) (b:Bool) (n:Int) (s:ByteArray) (its:Value) (at_:Int):List Value:= [nI k,.bool b,nI n,.string s,its,sN,nI at_]
def RVn:Nat->Wq->JV->List Value->Prop
 |0,_,_,_=>False
 |n+1,w,j,cs=>∃a:Int,match j with
  | .null=>cs=vcells 0 false 0 ⟨#[]⟩ sN a
  | .bool b=>cs=vcells 1 b 0 ⟨#[]⟩ sN a
  | .int x=>cs=vcells 2 false x ⟨#[]⟩ sN a
  | .str s=>cs=vcells 3 false 0 s sN a
  | .arr l=>∃(v:Value) (css:List (List Value)),cs=vcells 4 false 0 ⟨#[]⟩ v a/\css.length=l.length/\RSl w 7 v l.length css.flatten/\∀(i:Nat) (j:JV) (c:List Value),l[i]? =some j->css[i]? =some c->RVn n w j c
def RV (w:Wq) (j:JV) (cs:List Value):Prop:=∃n,RVn n w j cs
section
variable {b w w':World} {base c g k m n:Nat} {cs:Array Value} {e:TypeId} {v:Value} {xs:List Value}
section
variable {P:Program}
end
theorem Ext.setRow {a:Wq} (h:Ext a b) (q:a.heap.size<=g) (cs:Array Value):Ext a (b.setRow g cs):=
 h.then ⟨rfl,rfl,rfl,by simp[World.setRow],λk A=>ZY b g k cs (by omega)⟩
theorem Jf {size:Nat} (h:w.ownsRow base e size v n xs) (D:g<base) (cs:Array Value):(w.setRow g cs).ownsRow base e size v n xs:=by
 refine h.kept (row:=some g) ⟨rfl,rfl,rfl,by simp[World.setRow],λk _ q=>ZY w g k cs (λe=>q (by rw[e]))⟩ (Or.inr λA=> ?_);have:=(h.lt g A).1;omega
theorem X6 (w:Wq) (A B C:Obj):(((w.alloc A).alloc B).alloc C).heap[w.heap.size+1+1]? =some C:=by
 have h:=Zg ((w.alloc A).alloc B) C;have e:((w.alloc A).alloc B).heap.size=w.heap.size+1+1:=by show ((w.heap.push A).push B).size=_;simp
 rwa [e] at h
theorem Xi {size:Nat} {cs:List Value} {fr:Nat×Nat} (A:w.heap[g]? =some (.cells cs.toArray e fr)) (h:cs.length=n*size) (D:n<=maxLen):RSl w size (.slice (some ⟨g,0,none⟩) n n) n cs:=by
 refine ⟨h,some ⟨g,0,none⟩,n,rfl,Zb _,D,(λh=>by cases h),λj u F=>⟨_,rfl,?_⟩⟩;have q:(⟨g,0,none⟩:Addr).add j=⟨g,j,none⟩:=by unfold Addr.add;split<;>simp_all
 rw[q,Zp A];simpa using F
theorem RSl.at1 {size:Nat} {A:Option Addr} (h:RSl w size (.slice A m c) n xs) (k:Nat) (u:Value) (D:xs[k]? =some u):∃ad,A=some ad/\w.cell? (ad.add k)=some u:=by
 obtain ⟨_,F,H,e,_,_,_,q⟩:=h;cases e;exact q k u D
theorem Vi (a:Addr) (m n:Nat):(a.add m).add n=a.add (m+n):=by
 unfold Addr.add;by_cases h:m=0<;>by_cases q:n=0<;>simp_all [Nat.add_assoc]
theorem RSl.elem {css:List (List Value)} (h:RSl w k v n css.flatten) (V:0<k) (F:∀c∈css,c.length=k) (i:Nat) (c:List Value) (D:css[i]? =some c):
 ∃ad cap,v= .slice (some ad) n cap/\∀j u,c[j]? =some u->w.cell? ((ad.add (k*i)).add j)=some u:=by
 obtain ⟨_,A,cap,rfl,_,_,U,q⟩:=h;have I:∀(l:List (List Value)) (i:Nat) (c:List Value) (j:Nat) (u:Value),(∀c∈l,c.length=k)->l[i]? =some c->c[j]? =some u->l.flatten[k*i+j]? =some u:=by
  intro l
  induction l with
  |nil=>intro i c j u _ h;simp at h
  |cons x l ih=>
   intro i c j u F D H;have S:x.length=k:=F x (by simp);cases i with
   |zero=>simp at D;subst D;have R:j<x.length:=(by have:=(ZM.mp H).1;exact this);simpa [List.getElem?_append,R] using (ZM.mp H).2
   |succ i=>have:=ih i c j u (λc h=>F c (by simp[h])) (by simpa using D) H;simp only[Jh];have e:k*(i+1)+j=x.length+(k*i+j):=(by rw[S,Nat.mul_succ];omega);rw[e,Yl (by omega)];simpa using this
 have Q:c.length=k:=F c (List.mem_of_getElem? D);have M:0<c.length:=by omega
 obtain ⟨ad,rfl,_⟩:=q _ _ (I css i c 0 c[0] F D (Zr M));refine ⟨ad,cap,rfl,λj u H=> ?_⟩;obtain ⟨K,h,J⟩:=q _ _ (I css i c j u F D H);injection h with h;subst h;rw[Vi];exact J
theorem Ext.boxed {t:TypeId} {fr:Nat×Nat} (h:Ext (w.alloc (.cells cs t fr)) w') (i:Nat) (v:Value) (q:cs[i]? =some v):w'.cell? ⟨w.heap.size,i,none⟩=some v:=
 h.cell (p:=⟨w.heap.size,i,none⟩) (by rw[Xc _ _ _ cs t fr (Zg w _)];exact q)
end
abbrev WB (B b:Nat) (bs:List Value) (w:Wq):Prop:=Lib.IsBuilder 245 5 B b bs w
section
variable {T:TypeId}
def KeepsT (T:TypeId) (w w':Wq):Prop:=∀(k:Nat) (cs:Array Value) (t:TypeId) (fr:Nat×Nat),w.heap[k]? =some (Obj.cells cs t fr)->t≠T->t≠5->w'.heap[k]? =some (Obj.cells cs t fr)
theorem Ut (D:BT T) (B b:Nat) (bs:List Value) (w:Wq) (h:Lib.IsBuilder T 5 B b bs w):
 Calls prog 95 #[.pointer (some ⟨b,0,none⟩)] w λe w'=>e= .returned (.tuple #[])/\(Lib.BuilderAt T 5 B b (.pointer (some ⟨b,0,none⟩)) bs w'/\Below B w w'/\KeepsT T w w'):=by
 rcases h with h|h
 ·refine (JE D b w h.cell0 h.shape h.frozen0).mono ?_;rintro e w' ⟨rfl,rfl⟩;refine ⟨rfl,h.used _,(Zar B w).setCell (p:=⟨b,0,none⟩) h.1 _,?_⟩;intro k cs t fr q A H;rw[Below.heap_setCell _ _ _ _ (λe=> ?_)]
  ·exact q
  ·obtain ⟨_,v,F,_⟩:=h;simp at e;subst e;rw[F] at q;simp only[Y3,Obj.cells.injEq] at q;exact A q.2.1.symm
 ·refine (JL D b w h.cell0).mono ?_;rintro e w' ⟨rfl,rfl⟩;exact ⟨rfl,h,Zar B _,λ_ _ _ _ q _ _=>q⟩
theorem Q6 (hT:BT T) (B b:Nat) (bs:List Value) (c:Int) (w:Wq) (h:Lib.IsBuilder T 5 B b bs w) (hd:bs.length+1<=140737488355328) (hf:B<=w.heap.size):
 Calls prog 62 #[.pointer (some ⟨b,0,none⟩),.int .u8 c] w λe w'=>e= .returned .nilIface/\(Lib.BuilderAt T 5 B b (.pointer (some ⟨b,0,none⟩)) (bs++ [.int .u8 c]) w'/\Below B w w'/\KeepsT T w w'):=by
 obtain ⟨i0,hi,ha,hb,hc⟩:=Yw Ka;go_enter func62,ntmps62
 go_wp2_with (go_at_call 95;refine (Ut hT B b bs _ h).mono ?_)
 rintro e w1 ⟨rfl,h1,I,U⟩;obtain ⟨hB,v,D,F,Z⟩:=h1;have c0:w1.cell? ⟨b,0,none⟩=some (.pointer (some ⟨b,0,none⟩)):=by rw[Zp D];rfl
 have c1:w1.cell? ⟨b,1,none⟩=some v:=by rw[Zp D];rfl
 go_wp2_with (at_builtin;refine wpList_append_own _ rfl _ _ 94 rfl B 5 i0 (.int .u8 0) 1 1 underlying94 hi ha hb hc rfl (by decide) _ _ _ rfl (F.alloc _) ⟨w1.heap.size,0,none⟩ 1 1 [.int .u8 c] rfl rfl ?c1 ?c2 ?c3 ?c4 ?c5 ?_)
 case c1=>
  intro j u Q
  match j,Q with
  |0,Q=>simp at Q;subst Q;simp[Addr.add]
 case c2=>intro u hu;simp at hu;subst hu;rfl
 case c3=>unfold maxLen;omega
 case c4=>omega
 case c5=>have:=I.size;simp;omega
 intro v' w2 H q _;have Y:b<w1.heap.size:=by
  rcases Xq b w1.heap.size with R|R
  ·exact R
  ·simp[YP R] at D
 have J:w2.heap[b]? =some (.cells #[.pointer (some ⟨b,0,none⟩),v] T (0,0)):=by rw[q.block b (by simp;omega) (λe=>Z e.symm),Lib.alloc_old w1 _ b Y];exact D
 have d0:w2.cell? ⟨b,0,none⟩=some (.pointer (some ⟨b,0,none⟩)):=by rw[Zp J];rfl
 have d1:w2.cell? ⟨b,1,none⟩=some v:=by rw[Zp J];rfl
 have f1:w2.frozen? ⟨b,1,none⟩=false:=ZX J 1;obtain ⟨g,cap,rfl⟩:∃g cap,v'= .slice (some ⟨g,0,none⟩) (bs.length+1) cap:=by
  rcases H.2 with ⟨_,h0⟩|⟨g,cap,he,hv,_⟩
  ·omega
  ·exact ⟨g,cap,hv⟩
 go_wp2;go_ret;refine ⟨rfl,?_,?_,?_⟩
 ·exact Lib.BuilderAt.put (T:=T) (e:=5) hB J (bs':=bs++ [.int .u8 c]) (by simpa using H) hT.ne
 ·exact ((I.alloc (by have:=I.size;omega) _).grown q (by have:=I.size;simp;omega) (λk S=>(F.lt k S).1)).setCell (p:=⟨b,1,none⟩) hB _
 ·intro k cs t fr S K M;have A:=U k cs t fr S K M;have V:k≠b:=by rintro rfl;rw[D] at A;simp only[Y3,Obj.cells.injEq] at A;exact K A.2.1.symm
  have X:k<w1.heap.size:=(ZG.1 A).1;rw[Below.heap_setCell _ _ _ _ (λe=>V (by simpa using e))];rw[q.block k (by simp;omega) (λe=>Lib.ownBlock_ne F A M e.symm),Lib.alloc_old w1 _ k X];exact A
end
theorem Ziy:(prog.info? 9).map (λi=>(i.zero,i.size,i.bytes))=some (some eS,1,16):=by kernel_rfl
theorem KI (v:Value) (n:Nat) (xs:List Value) (w:Wq) (h:RSl w 1 v n xs) (Y:∀u∈xs,u.oneCell'=true) (D:n*16<=140737488355328):
 Calls prog 33 #[v] w λe w'=>∃v',e= .returned v'/\w'.ownsRow w.heap.size 9 1 v' n xs/\Ext w w':=by
 obtain ⟨i0,hi,R,S,U⟩:=Yw Ziy;obtain ⟨hl,A,c,rfl,H,K,Z,J⟩:=id h;have F:Hid ((0+n)*16<=140737488355328):=by rw[Ym];exact D
 have Q:0+n<=maxLen:=by rw[Ym];exact Zu H K
 clear D;have hq:∀(w:Wq) (a:Option Addr) (n c V I:Nat),(binOp .eql 52 (.slice a n c) (.slice none V I)).run prog w= .ok (.bool a.isNone) w:=λw a n c V I=>Lib.run_eql_slice_nil w _ _ a n c V I underlying52;cases A with
 |none=>have hn:n=0:=Nat.le_zero.1 (Z rfl▸H);subst hn;have hx:xs= []:=Zw (by rw[hl]);subst hx;go_enter func33,ntmps33;go_wp2;go_ret;exact ⟨_,rfl,YL _ _ _ _,Ext.refl _⟩
 |some ad=>
  go_enter func33,ntmps33
  go_wp2_with (at_builtin;refine ZJ _ rfl (.tmp 5) (.tmp 6) _ rfl w.heap.size 9 i0 _ 1 16 underlying52 hi R S U rfl (by decide) _ _ [] rfl (JS (cs:= []) (Zb _) rfl (by decide)) _ n xs rfl (h.ext ((Ext.refl w).alloc _)) Y Q F.out ((Ext.refl w).alloc _).size ?_;intro v1 w2 q M X)
  go_ret;rw[Ym] at q;exact ⟨v1,rfl,q,((Ext.refl w).alloc _).app M (JS (cs:= []) (size:=1) (n:=0) (Zb _) rfl (by decide)) (Zb _)⟩
theorem ZbB:(prog.info? 55).map (λi=>(i.zero,i.size,i.bytes))=some (some (.agg #[sN,eS,eS,eS,nI 0,sN]),6,104):=by kernel_rfl
theorem Ex:(prog.info? 76).map (λi=>(i.zero,i.size,i.bytes))=some (some (.agg #[eS,eS,eS,eS,nI 0]),5,72):=by kernel_rfl
theorem Zc9 (v:Value) (n:Nat) (xs:List Value) (w:Wq) (h:RSl w 5 v n xs) (Y:∀u∈xs,u.oneCell'=true) (D:n*72<=140737488355328):
 Calls prog 66 #[v] w λe w'=>∃v',e= .returned v'/\w'.ownsRow w.heap.size 76 5 v' n xs/\Ext w w':=by
 obtain ⟨i0,hi,R,S,U⟩:=Yw Ex;obtain ⟨hl,A,c,rfl,H,K,Z,J⟩:=id h;have F:Hid ((0+n)*72<=140737488355328):=by rw[Ym];exact D
 have Q:0+n<=maxLen:=by rw[Ym];exact Zu H K
 clear D;have hq:∀(w:Wq) (a:Option Addr) (n c V I:Nat),(binOp .eql 53 (.slice a n c) (.slice none V I)).run prog w= .ok (.bool a.isNone) w:=λw a n c V I=>Lib.run_eql_slice_nil w _ _ a n c V I underlying53;cases A with
 |none=>have hn:n=0:=Nat.le_zero.1 (Z rfl▸H);subst hn;have hx:xs= []:=Zw (by rw[hl]);subst hx;go_enter func66,ntmps66;go_wp2;go_ret;exact ⟨_,rfl,YL _ _ _ _,Ext.refl _⟩
 |some ad=>
  go_enter func66,ntmps66
  go_wp2_with (at_builtin;refine ZJ _ rfl (.tmp 5) (.tmp 6) _ rfl w.heap.size 76 i0 _ 5 72 underlying53 hi R S U rfl (by decide) _ _ [] rfl (JS (cs:= []) (Zb _) rfl (by decide)) _ n xs rfl (h.ext ((Ext.refl w).alloc _)) Y Q F.out ((Ext.refl w).alloc _).size ?_;intro v1 w2 q M X)
  go_ret;rw[Ym] at q;exact ⟨v1,rfl,q,((Ext.refl w).alloc _).app M (JS (cs:= []) (size:=5) (n:=0) (Zb _) rfl (by decide)) (Zb _)⟩
def strCells (s:ByteArray):List Value:=vcells 3 false 0 s sN 0
section
structure Ord (α κ:Type) where
 id:α->κ
 op:α->α->α
 lt:α->α->Bool
 op_id:∀a b,id a=id b->id (op a b)=id b
 irrefl:∀a,lt a a=false
 trans:∀a b c,lt a b=true->lt b c=true->lt a c=true
 total:∀a b,id a≠id b->lt a b=true\/lt b a=true
namespace Ord
section
variable {α κ:Type} (O:Ord α κ)
def ins:List α->α->List α
 | [],e=> [e]
 |x::t,e=>if O.lt e x then e::x::t else x::ins t e
def sorted (S:List α):Prop:=S.Pairwise λa b=>O.lt a b=true
theorem sorted_unique:∀(S T:List α),O.sorted S->O.sorted T->(∀x,x∈S↔x∈T)->S=T
 | [],T,_,_,h=>by
  cases T with
  |nil=>rfl
  |cons b u=>exact absurd ((h b).2 (by simp)) (by simp)
 |a::t,[],_,_,h=>absurd ((h a).1 (by simp)) (by simp)
 |a::t,b::u,hS,hT,h=>by
  have q:=XG.1 hS
  have A:=XG.1 hT
  have I:a=b:=by
   have D:=(h a).1 (by simp)
   have F:=(h b).2 (by simp)
   rcases ZF.1 D with D|D
   ·exact D
   ·rcases ZF.1 F with F|F
    ·exact F.symm
    ·have:=O.trans a b a (q.1 b F) (A.1 a D)
     rw[O.irrefl] at this
     cases this
  subst I
  refine Zz (a:: ·) (sorted_unique t u q.2 A.2 λx=>⟨λH=> ?_,λH=> ?_⟩)
  ·rcases ZF.1 ((h x).1 (by simp[H])) with e|e
   ·subst e;have:=q.1 x H;rw[O.irrefl] at this;cases this
   ·exact e
  ·rcases ZF.1 ((h x).2 (by simp[H])) with e|e
   ·subst e;have:=A.1 x H;rw[O.irrefl] at this;cases this
   ·exact e
theorem foldl_id:∀(t:List α) (x:α),(∀y∈t,O.id y=O.id x)->O.id (t.foldl O.op x)=O.id x
 | [],_,_=>rfl
 |y::t,x,h=>by
  have q:=h y (by simp)
  have e:O.id (O.op x y)=O.id x:=by rw[O.op_id x y q.symm,q]
  show O.id (t.foldl O.op (O.op x y))=_
  rw[foldl_id t (O.op x y) (λz A=>by rw[e];exact h z (by simp[A])),e]
theorem mem_ins:∀(l:List α) (e x:α),x∈O.ins l e↔x=e\/x∈l
 | [],e,x=>by simp[ins]
 |y::t,e,x=>by
  unfold ins
  split
  ·simp
  ·simp only[ZF,mem_ins t e x]
   constructor
   ·rintro (h|h|h)<;>simp[h]
   ·rintro (h|h|h)<;>simp[h]
theorem ins_sorted:∀(l:List α) (e:α),O.sorted l->(∀x∈l,O.id x≠O.id e)->O.sorted (O.ins l e)
 | [],e,_,_=>by simp[ins,sorted]
 |y::t,e,hs,h=>by
  have D:=XG.1 hs
  unfold ins
  split
  ·rename_i A
   refine XG.2 ⟨λx F=> ?_,hs⟩
   rcases ZF.1 F with q|q
   ·rw[q];exact A
   ·exact O.trans _ _ _ A (D.1 x q)
  ·rename_i A
   have I:O.lt y e=true:=by
    rcases O.total e y (λq=>h y (by simp) q.symm) with H|H
    ·exact absurd H A
    ·exact H
   refine XG.2 ⟨λx F=> ?_,ins_sorted t e D.2 λx F=>h x (by simp[F])⟩
   rcases (O.mem_ins t e x).1 F with q|q
   ·rw[q];exact I
   ·exact D.1 x q
end
variable {α κ:Type} [DecidableEq κ] (O:Ord α κ)
def scan:List α->α->List α×α
 | [],e=>([],e)
 |x::t,e=>if O.id x=O.id e then scan t (O.op x e) else (x::(scan t e).1,(scan t e).2)
def put (l:List α) (e:α):List α:=O.ins (O.scan l e).1 (O.scan l e).2
def canon (l:List α):List α:=l.foldl O.put []
def fold1:List α->Option α
 | []=>none
 |x::t=>some (t.foldl O.op x)
def got (l:List α) (k:κ):Option α:=O.fold1 (l.filter λx=>O.id x=k)
def firsts (l:List α):List κ:=l.foldl (λacc x=>if O.id x∈acc then acc else acc++ [O.id x]) []
theorem got_id {l:List α} {k:κ} {x:α} (h:O.got l k=some x):O.id x=k:=by
 unfold got at h;generalize D:(l.filter λx=>O.id x=k)=g at h;cases g with
 |nil=>cases h
 |cons y t=>
  have q:∀z∈y::t,O.id z=k:=by intro z A;rw[<-D] at A;simpa using (Y1.1 A).2
  simp only[fold1,Y3] at h;rw[<-h,O.foldl_id t y (λz A=>by rw[q z (by simp[A]),q y (by simp)]),q y (by simp)]
theorem got_nil (k:κ):O.got [] k=none:=rfl
theorem got_snoc (l:List α) (e:α) (k:κ):O.got (l++ [e]) k=if O.id e=k then (match O.got l k with|none=>some e|some y=>some (O.op y e)) else O.got l k:=by
 unfold got;rw[List.filter_append];by_cases h:O.id e=k
 ·rw[Zh h];have: [e].filter (λx=>decide (O.id x=k))= [e]:=by simp[h]
  rw[this];cases l.filter λx=>O.id x=k with
  |nil=>rfl
  |cons y t=>simp[fold1,List.foldl_append]
 ·rw[Ze h];have: [e].filter (λx=>decide (O.id x=k))= []:=by simp[h]
  rw[this,Yi]
theorem scan_fst:∀(l:List α) (e:α),(O.scan l e).1=l.filter λx=> !decide (O.id x=O.id e)
 | [],_=>rfl
 |x::t,e=>by
  unfold scan
  by_cases h:O.id x=O.id e
  ·rw[Zh h,scan_fst t (O.op x e),O.op_id x e h]
   simp[h]
  ·rw[Ze h]
   simp[h,scan_fst t e]
theorem scan_none:∀(l:List α) (e:α),(∀x∈l,O.id x≠O.id e)->(O.scan l e).2=e
 | [],_,_=>rfl
 |x::t,e,h=>by
  unfold scan
  rw[Ze (h x (by simp))]
  exact scan_none t e λy q=>h y (by simp[q])
theorem scan_one:∀(l:List α) (e y:α),y∈l->O.id y=O.id e->l.Pairwise (λa b=>O.id a≠O.id b)->(O.scan l e).2=O.op y e
 | [],_,_,h,_,_=>by simp at h
 |x::t,e,y,hy,hid,hp=>by
  have A:=XG.1 hp
  unfold scan
  by_cases h:O.id x=O.id e
  ·have D:x=y:=by
    rcases ZF.1 hy with q|q
    ·exact q.symm
    ·exact absurd (h.trans hid.symm) (A.1 y q)
   subst D
   rw[Zh h]
   exact O.scan_none t _ λz H=>by rw[O.op_id x e h,<-h];exact (A.1 z H).symm
  ·rw[Ze h]
   have F:y∈t:=by
    rcases ZF.1 hy with q|q
    ·subst q;exact absurd hid h
    ·exact q
   exact scan_one t e y F hid A.2
def IsCanon (l S:List α):Prop:=O.sorted S/\∀x,x∈S↔O.got l (O.id x)=some x
theorem IsCanon.unique {l S T:List α} (h:O.IsCanon l S) (k:O.IsCanon l T):S=T:=
 O.sorted_unique S T h.1 k.1 λx=>(h.2 x).trans (k.2 x).symm
theorem IsCanon.ids {l S:List α} (h:O.IsCanon l S):S.Pairwise λa b=>O.id a≠O.id b:=by
 refine h.1.imp_of_mem λ{a b} F H q e=> ?_;have A:=(h.2 a).1 F;have D:=(h.2 b).1 H;rw[e,D] at A;injection A with A;rw[A,O.irrefl] at q;cases q
theorem IsCanon.put {l S:List α} (h:O.IsCanon l S) (e:α):O.IsCanon (l++ [e]) (O.put S e):=by
 have F:=h.ids;have q:O.id (O.scan S e).2=O.id e/\O.got (l++ [e]) (O.id e)=some (O.scan S e).2:=by
  rw[got_snoc,Zh rfl];cases hg:O.got l (O.id e) with
  |none=>have:(O.scan S e).2=e:=O.scan_none S e λx D J=>(by have:=(h.2 x).1 D;rw[J,hg] at this;cases this);rw[this];exact ⟨rfl,rfl⟩
  |some y=>have K:O.id y=O.id e:=O.got_id hg;have M:y∈S:=(h.2 y).2 (by rw[K];exact hg);rw[O.scan_one S e y M K F];exact ⟨O.op_id y e K,rfl⟩
 have I:∀x∈(O.scan S e).1,O.id x≠O.id (O.scan S e).2:=by intro x D;rw[scan_fst] at D;rw[q.1];simpa using (Y1.1 D).2
 refine ⟨O.ins_sorted _ _ ?_ I,λx=> ?_⟩
 ·rw[scan_fst];exact h.1.filter _
 ·unfold Ord.put;rw[mem_ins,scan_fst,Y1,h.2 x];by_cases D:O.id x=O.id e
  ·constructor
   ·rintro (rfl|⟨_,A⟩)
    ·rw[q.1];exact q.2
    ·simp[D] at A
   ·intro A;rw[D,q.2] at A;injection A with A;exact Or.inl A.symm
  ·have H:O.got (l++ [e]) (O.id x)=O.got l (O.id x):=(by rw[got_snoc,Ze (λH=>D H.symm)]);rw[H];constructor
   ·rintro (rfl|⟨A,_⟩)
    ·exact absurd q.1 D
    ·exact A
   ·intro A;exact Or.inr ⟨A,by simp[D]⟩
theorem IsCanon.foldl:∀(t l S:List α),O.IsCanon l S->O.IsCanon (l++t) (t.foldl O.put S)
 | [],l,S,h=>by simpa using h
 |e::t,l,S,h=>by
  have:=foldl t (l++ [e]) (O.put S e) (h.put O e)
  simpa using this
theorem isCanon_nil:O.IsCanon [] []:=⟨List.Pairwise.nil,λx=>by simp[got_nil]⟩
theorem canon_is (l:List α):O.IsCanon l (O.canon l):=by
 have h:=IsCanon.foldl O l [] [] O.isCanon_nil;rw[Xl] at h;exact h
theorem canon_append (l t:List α):O.canon (l++t)=t.foldl O.put (O.canon l):=by unfold canon;rw[List.foldl_append]
theorem firsts_snoc (l:List α) (e:α):O.firsts (l++ [e])=if O.id e∈O.firsts l then O.firsts l else O.firsts l++ [O.id e]:=by
 unfold firsts;rw[List.foldl_append];rfl
theorem mem_firsts (l:List α) (k:κ):k∈O.firsts l↔∃x∈l,O.id x=k:=by
 suffices h:∀(n:Nat) (l:List α),l.length=n->∀k,k∈O.firsts l↔∃x∈l,O.id x=k from h _ l rfl k
 intro n
 induction n with
 |zero=>intro l F k;rw[Zw F];simp[firsts]
 |succ n ih=>
  intro l F k;obtain ⟨l',e,rfl⟩:∃l' e,l=l'++ [e]:=by
   rcases List.eq_nil_or_concat l with h|⟨l',e,h⟩
   ·subst h;simp at F
   ·exact ⟨l',e,by simpa using h⟩
  have D:=ih l' (by simpa using F);rw[firsts_snoc];by_cases h:O.id e∈O.firsts l'
  ·rw[Zh h,D k];constructor
   ·rintro ⟨x,q,A⟩;exact ⟨x,by simp[q],A⟩
   ·rintro ⟨x,q,A⟩;rcases Zt.1 q with q|q
    ·exact ⟨x,q,A⟩
    ·simp at q;subst q;obtain ⟨y,I,H⟩:=(D (O.id x)).1 h;exact ⟨y,I,H.trans A⟩
  ·rw[Ze h,Zt,D k];constructor
   ·rintro (⟨x,q,A⟩|q)
    ·exact ⟨x,by simp[q],A⟩
    ·simp at q;exact ⟨e,by simp,q.symm⟩
   ·rintro ⟨x,q,A⟩;rcases Zt.1 q with q|q
    ·exact Or.inl ⟨x,q,A⟩
    ·simp at q;subst q;exact Or.inr (by simp[A])
theorem firsts_nodup (l:List α):(O.firsts l).Pairwise (· ≠ ·):=by
 suffices h:∀(n:Nat) (l:List α),l.length=n->(O.firsts l).Pairwise (· ≠ ·) from h _ l rfl
 intro n
 induction n with
 |zero=>intro l A;rw[Zw A];exact List.Pairwise.nil
 |succ n ih=>
  intro l A;obtain ⟨l',e,rfl⟩:∃l' e,l=l'++ [e]:=by
   rcases List.eq_nil_or_concat l with h|⟨l',e,h⟩
   ·subst h;simp at A
   ·exact ⟨l',e,by simpa using h⟩
  have q:=ih l' (by simpa using A);rw[firsts_snoc];split
  ·exact q
  ·rename_i h;rw[List.pairwise_append];exact ⟨q,by simp,λa F b D=>by simp at D;subst D;rintro rfl;exact h F⟩
def joined (l:List α):List α:=(O.firsts l).filterMap (O.got l)
theorem mem_joined (l:List α) (x:α):x∈O.joined l↔O.got l (O.id x)=some x:=by
 unfold joined;rw[List.mem_filterMap];constructor
 ·rintro ⟨k,_,h⟩;rw[O.got_id h];exact h
 ·intro h;refine ⟨O.id x,(O.mem_firsts l _).2 ?_,h⟩;unfold got at h;generalize q:(l.filter λy=>O.id y=O.id x)=g at h;cases g with
  |nil=>cases h
  |cons y t=>have:y∈l.filter λz=>decide (O.id z=O.id x):=(by rw[q];simp);have:=Y1.1 this;exact ⟨y,this.1,by simpa using this.2⟩
theorem joined_ids (l:List α):(O.joined l).Pairwise λa b=>O.id a≠O.id b:=by
 unfold joined;rw[List.pairwise_filterMap];refine (O.firsts_nodup l).imp λ{a b} h x q y A=> ?_;rw[O.got_id q,O.got_id A];exact h
theorem sorted_joined (l S:List α) (D:S.Perm (O.joined l)) (F:S.Pairwise λa b=>O.lt b a=false):S=O.canon l:=by
 refine IsCanon.unique O ⟨?_,λx=>by rw[D.mem_iff];exact O.mem_joined l x⟩ (O.canon_is l);have q:S.Pairwise λa b=>O.id a≠O.id b:=(O.joined_ids l).perm D.symm λh=>h.symm;refine (F.and q).imp λ{a b} h=> ?_;rcases O.total a b h.2 with A|A
 ·exact A
 ·rw[h.1] at A;cases A
theorem got_of_mem {S:List α} (h:S.Pairwise λa b=>O.id a≠O.id b) {x:α} (A:x∈S):O.got S (O.id x)=some x:=by
 have:(S.filter λy=>decide (O.id y=O.id x))= [x]:=by
  induction S with
  |nil=>simp at A
  |cons y t ih=>
   have q:=XG.1 h;rcases ZF.1 A with e|e
   ·subst e;rw[List.filter_cons_of_pos (by simp),List.filter_eq_nil_iff.2];intro z D;simpa using (q.1 z D).symm
   ·rw[List.filter_cons_of_neg (by simpa using q.1 x e)];exact ih q.2 e
 unfold got;rw[this];rfl
theorem canon_self {S:List α} (H:O.sorted S) (F:S.Pairwise λa b=>O.id a≠O.id b):O.canon S=S:=by
 refine IsCanon.unique O (O.canon_is S) ⟨H,λx=>⟨O.got_of_mem F,λh=> ?_⟩⟩;have:x∈O.joined S:=(O.mem_joined S x).2 h;unfold got at h;generalize D:(S.filter λy=>O.id y=O.id x)=g at h;cases g with
 |nil=>cases h
 |cons y t=>
  have q:=Y1.1 (show y∈S.filter λz=>decide (O.id z=O.id x) by rw[D];simp);have A:O.id y=O.id x:=by simpa using q.2
  have:=O.got_of_mem F q.1;unfold got at this;rw[A,D,h] at this;injection this with this;rw[this];exact q.1
theorem canon_canon (l:List α):O.canon (O.canon l)=O.canon l:=O.canon_self (O.canon_is l).1 ((O.canon_is l).ids)
end Ord
end
end Go.Proofs.YtnlafkgkcnenfaaGreatDoor
