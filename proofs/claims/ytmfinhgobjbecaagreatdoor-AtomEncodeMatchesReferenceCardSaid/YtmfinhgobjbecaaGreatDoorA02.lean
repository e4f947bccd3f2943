/- Parts of the proof: contracts and plain laws. -/
import Derived.Test.YtmfinhgobjbecaaGreatDoorProg
import Derived.Test.YtmfinhgobjbecaaGreatDoorA01
namespace Go.Proofs.YtmfinhgobjbecaaGreatDoor
open Go Go.RowKit Go.Shelf _root_.Go.Proofs.Tryz
set_option linter.unusedVariables false
set_option linter.unusedSimpArgs false
set_option maxRecDepth 100000
set_option maxHeartbeats 16000000
theorem Is:(prog.info? 147).map (λi=>i.size)=some 2:=by kernel_rfl
theorem Zms:prog.cellsOf 5=1:=by kernel_rfl
structure BT (T:TypeId):Prop where
 lies:liesAt prog prog.depth T (2 / prog.cellsOf T) 0 147 1=true
 ne:T≠5
theorem U3:BT 147:=⟨by kernel_rfl,by decide⟩
theorem Yp:BT 266:=⟨by kernel_rfl,by decide⟩
theorem Xs {T:TypeId} (C:BT T) (b:Nat) (w:Wq) (A:w.cell? ⟨b,0,none⟩=some (.pointer (some ⟨b,0,none⟩))):
 Calls prog 135 #[.pointer (some ⟨b,0,none⟩)] w λe w'=>e= .returned (.tuple #[])/\w'=w:=by
 obtain ⟨j,h,_⟩:=Option.map_eq_some_iff.1 Is;go_enter func135,ntmps135;go_wp2;rw[Lib.run_neq_ptr_same w _ underlying144 h];go_wp2;go_end0;exact ⟨rfl,rfl⟩
theorem Xl {T:TypeId} (D:BT T) (b:Nat) (w:Wq) (H:w.cell? ⟨b,0,none⟩=some (.pointer none)) (h:w.shape? b=some (T,2)) (F:w.frozen? ⟨b,0,none⟩=false):
 Calls prog 135 #[.pointer (some ⟨b,0,none⟩)] w λe w'=>e= .returned (.tuple #[])/\w'=w.setCell ⟨b,0,none⟩ (.pointer (some ⟨b,0,none⟩)):=by
 obtain ⟨j,C,A⟩:=Option.map_eq_some_iff.1 Is;go_enter func135,ntmps135;go_wp2;rw[Lib.run_to_unsafe w ⟨b,0,none⟩ underlying144 underlying229 C (by rw[A];decide) h (Nat.zero_lt_succ 1)];simp only[Result.andThen];rw[Oper.upon_value];go_wp2;rw[run_callFunc_extern func170 (by kernel_rfl) (by kernel_rfl) (by kernel_rfl) (e:=Extern.AbiNoEscape.same) (by kernel_rfl)];rw[Lib.run_noEscape];simp only[Result.andThen];rw[Oper.upon_value];go_wp2;rw[Lib.run_from_unsafe w ⟨b,0,none⟩ underlying229 underlying144 C h D.lies];simp only[Result.andThen];rw[Oper.upon_value];go_wp2;go_end0;exact ⟨rfl,rfl⟩
theorem J5 {T:TypeId} (A:BT T) (B b:Nat) (bs:List Value) (w:Wq) (h:Lib.IsBuilder T 5 B b bs w):
 Calls prog 135 #[.pointer (some ⟨b,0,none⟩)] w λe w'=>e= .returned (.tuple #[])/\(Lib.BuilderAt T 5 B b (.pointer (some ⟨b,0,none⟩)) bs w'/\Below B w w'):=by
 rcases h with h|h
 ·refine (Xl A b w h.cell0 h.shape h.frozen0).mono ?_;rintro e w' ⟨rfl,rfl⟩;exact ⟨rfl,h.used _,(ZsT B w).setCell (p:=⟨b,0,none⟩) h.1 _⟩
 ·refine (Xs A b w h.cell0).mono ?_;rintro e w' ⟨rfl,rfl⟩;exact ⟨rfl,h,ZsT B _⟩
theorem ZfR {T:TypeId} (Q:BT T) (B b:Nat) (bs:List Value) (w:Wq) (h:Lib.IsBuilder T 5 B b bs w):
 Calls prog 108 #[.pointer (some ⟨b,0,none⟩)] w λe w'=>e= .returned (nI bs.length)/\w'=w:=by
 obtain ⟨p,O,v,D,A,J⟩:∃p,Lib.BuilderAt T 5 B b p bs w:=by
  rcases h with h|h
  ·exact ⟨_,h⟩
  ·exact ⟨_,h⟩
 obtain ⟨C,cap,rfl⟩:∃C cap,v= .slice C bs.length cap:=by
  rcases A.2 with ⟨F,I⟩|⟨g,cap,H,F,_⟩
  ·exact ⟨none,0,by rw[F,I]⟩
  ·exact ⟨_,_,F⟩
 have c1:w.cell? ⟨b,1,none⟩=some (.slice C bs.length cap):=by rw[Zrc D];rfl
 go_enter func108,ntmps108;go_wp2;go_ret;exact ⟨rfl,rfl⟩
theorem KS {T:TypeId} (Y:BT T) (B b:Nat) (bs:List Value) (c:Int) (w:Wq) (h:Lib.IsBuilder T 5 B b bs w) (Z:bs.length+1<=140737488355328) (hb:B<=w.heap.size):
 Calls prog 95 #[.pointer (some ⟨b,0,none⟩),.int .u8 c] w λe w'=>e= .returned .nilIface/\(Lib.BuilderAt T 5 B b (.pointer (some ⟨b,0,none⟩)) (bs++ [.int .u8 c]) w'/\Below B w w'):=by
 obtain ⟨i0,hi,S,U,V⟩:=ZrE Ju;go_enter func95,ntmps95
 go_wp2_with (go_at_call 135;refine (J5 Y B b bs _ h).mono ?_)
 rintro e w1 ⟨rfl,h1,D⟩;obtain ⟨X,v,H,I,R⟩:=h1;have c0:w1.cell? ⟨b,0,none⟩=some (.pointer (some ⟨b,0,none⟩)):=by rw[Zrc H];rfl
 have c1:w1.cell? ⟨b,1,none⟩=some v:=by rw[Zrc H];rfl
 go_wp2_with (at_builtin;refine wpList_append_own _ rfl _ _ 145 rfl B 5 i0 (.int .u8 0) 1 1 underlying145 hi S U V rfl (by decide) _ _ _ rfl (I.alloc _) ⟨w1.heap.size,0,none⟩ 1 1 [.int .u8 c] rfl rfl ?c1 ?c2 ?c3 ?c4 ?c5 ?_)
 case c1=>
  intro j u J
  match j,J with
  |0,J=>simp at J;subst J;simp[Addr.add]
 case c2=>intro u hu;simp at hu;subst hu;rfl
 case c3=>unfold maxLen;omega
 case c4=>omega
 case c5=>have:=D.size;simp;omega
 intro v' w2 C A _;have Q:b<w1.heap.size:=by
  rcases ZrJ b w1.heap.size with O|O
  ·exact O
  ·simp[ZrT O] at H
 have F:w2.heap[b]? =some (.cells #[.pointer (some ⟨b,0,none⟩),v] T (0,0)):=by rw[A.block b (by simp;omega) (λe=>R e.symm),Lib.alloc_old w1 _ b Q];exact H
 have d0:w2.cell? ⟨b,0,none⟩=some (.pointer (some ⟨b,0,none⟩)):=by rw[Zrc F];rfl
 have d1:w2.cell? ⟨b,1,none⟩=some v:=by rw[Zrc F];rfl
 have f1:w2.frozen? ⟨b,1,none⟩=false:=Zrk F 1;obtain ⟨g,cap,rfl⟩:∃g cap,v'= .slice (some ⟨g,0,none⟩) (bs.length+1) cap:=by
  rcases C.2 with ⟨_,h0⟩|⟨g,cap,ha,hv,_⟩
  ·omega
  ·exact ⟨g,cap,hv⟩
 go_wp2;go_ret;refine ⟨rfl,?_,?_⟩
 ·exact Lib.BuilderAt.put (T:=T) (e:=5) X F (bs':=bs++ [.int .u8 c]) (by simpa using C) Y.ne
 ·exact ((D.alloc (by have:=D.size;omega) _).grown A (by have:=D.size;simp;omega) (λk hk=>(I.lt k hk).1)).setCell (p:=⟨b,1,none⟩) X _
theorem Gj {T:TypeId} (Z:BT T) (B b:Nat) (bs:List Value) (s:ByteArray) (w:Wq) (h:Lib.IsBuilder T 5 B b bs w) (ha:bs.length+s.size<=140737488355328) (hc:B<=w.heap.size):
 Calls prog 92 #[.pointer (some ⟨b,0,none⟩),.string s] w λe w'=>e= .returned (.tuple #[nI s.size,.nilIface])/\(Lib.BuilderAt T 5 B b (.pointer (some ⟨b,0,none⟩)) (bs++Lib.strCells s) w'/\Below B w w'):=by
 obtain ⟨i0,hi,S,U,V⟩:=ZrE Ju;go_enter func92,ntmps92
 go_wp2_with (go_at_call 135;refine (J5 Z B b bs _ h).mono ?_)
 rintro e w1 ⟨rfl,h1,I⟩;obtain ⟨Y,v,F,H,Q⟩:=h1;have c0:w1.cell? ⟨b,0,none⟩=some (.pointer (some ⟨b,0,none⟩)):=by rw[Zrc F];rfl
 have c1:w1.cell? ⟨b,1,none⟩=some v:=by rw[Zrc F];rfl
 go_wp2_with (at_builtin;refine Lib.wpList_append_own_string _ rfl _ _ 145 9 rfl B 5 i0 underlying145 underlying9 hi S U V _ _ _ rfl H s rfl ?c3 ?c4 ?c5 ?_)
 case c3=>unfold maxLen;omega
 case c4=>omega
 case c5=>have:=I.size;omega
 intro v' w2 C A _;have O:b<w1.heap.size:=by
  rcases ZrJ b w1.heap.size with J|J
  ·exact J
  ·simp[ZrT J] at F
 have D:w2.heap[b]? =some (.cells #[.pointer (some ⟨b,0,none⟩),v] T (0,0)):=by rw[A.block b O (λe=>Q e.symm)];exact F
 have d0:w2.cell? ⟨b,0,none⟩=some (.pointer (some ⟨b,0,none⟩)):=by rw[Zrc D];rfl
 have d1:w2.cell? ⟨b,1,none⟩=some v:=by rw[Zrc D];rfl
 have f1:w2.frozen? ⟨b,1,none⟩=false:=Zrk D 1;obtain ⟨X,n',cap,rfl⟩:∃X n' cap,v'= .slice X n' cap:=by
  rcases C.2 with ⟨R,_⟩|⟨g,cap,hb,R,_⟩
  ·exact ⟨_,_,_,R⟩
  ·exact ⟨_,_,_,R⟩
 go_wp2
 go_ret2
 refine ⟨rfl,?_,?_⟩
 ·exact Lib.BuilderAt.put (T:=T) (e:=5) Y D (bs':=bs++Lib.strCells s) (by simpa [Lib.strCells_length] using C) Z.ne
 ·exact (I.grown A (by have:=I.size;omega) (λk hk=>(H.lt k hk).1)).setCell (p:=⟨b,1,none⟩) Y _
theorem ZbH {T:TypeId} (hT:BT T) (B b:Nat) (l:List UInt8) (w:Wq) (h:Lib.IsBuilder T 5 B b (Lib.byteCells l) w) (Q:l≠ []):
 Calls prog 96 #[.pointer (some ⟨b,0,none⟩)] w λe w'=>e= .returned (.string ⟨l.toArray⟩)/\Below B w w':=by
 obtain ⟨p,hB,v,F,C,Y⟩:∃p,Lib.BuilderAt T 5 B b p (Lib.byteCells l) w:=by
  rcases h with h|h
  ·exact ⟨_,h⟩
  ·exact ⟨_,h⟩
 have J:l.length≠0:=by simpa using Q
 rw[Lib.byteCells_length] at C;obtain ⟨g,cap,A,rfl,D,V,X,H,U,O⟩:∃g cap A,v= .slice (some ⟨g,0,none⟩) l.length cap/\B<=g/\w.heap[g]? =some (.cells A 5 (0,0))/\l.length<=cap/\cap<=maxLen/\A.size=cap*1/\A.toList.take (l.length*1)=Lib.byteCells l:=by
  rcases C.2 with ⟨_,hz⟩|⟨g,cap,A,Z,r⟩
  ·exact absurd hz J
  ·exact ⟨g,cap,A,Z,r⟩
 have c1:w.drew.cell? ⟨b,1,none⟩=some (.slice (some ⟨g,0,none⟩) l.length cap):=by have:w.drew.heap[b]? =some (.cells #[p,.slice (some ⟨g,0,none⟩) l.length cap] T (0,0)):=F;rw[Zrc this];rfl
 have R:(Builtin.unsafeSliceData_ #[145] 200 #[.slice (some ⟨g,0,none⟩) l.length cap]).run prog w.drew= .ok (.pointer (some ⟨g,0,none⟩)) w.drew:=
  Lib.run_unsafeSliceData_row _ _ _ _ _ _ om
 have S:(Builtin.unsafeString_ #[200,3] 9 #[.pointer (some ⟨g,0,none⟩),nI l.length]).run prog w.drew= .ok (.string ⟨l.toArray⟩) (w.drew.freeze ⟨g,0,none⟩ l.length):=by refine Lib.run_unsafeString_row w.drew 200 3 9 5 underlying200 Zms g A.size (by have I:w.drew.heap[g]? =some (.cells A 5 (0,0)):=V;simp[World.shape?,I]) l Q om (by unfold maxLen at H;omega) ?_;intro j x hx;have:=C.cells (g:=g) rfl j (.int .u8 x.toNat) (by simp[Lib.byteCells,hx]);exact this
 go_enter func96,ntmps96;go_wp2
 go_region
 all_goals (go_wp2;go_ret;exact ⟨rfl,Lib.below_freeze (Below.drew (ZsT B w)) (p:=⟨g,0,none⟩) D _⟩)
theorem XG {T:TypeId} (h:BT T) (W:Wq) (q:Option Addr):(Builtin.unsafeString_ #[200,3] 9 #[.pointer q,nI 0]).run prog W= .ok (.string .empty) W:=
 Lib.run_unsafeString_none W _ _ _ q
theorem G0 {T:TypeId} (C:BT T) (B b:Nat) (p:Value) (w:Wq) (h:w.heap[b]? =some (.cells #[p,sN] T (0,0))):
 Calls prog 96 #[.pointer (some ⟨b,0,none⟩)] w λe w'=>e= .returned eS/\Below B w w':=by
 have D:=XG C;have c1:w.drew.cell? ⟨b,1,none⟩=some sN:=by have:w.drew.heap[b]? =some (.cells #[p,sN] T (0,0)):=h;rw[Zrc this];rfl
 have A:(Builtin.unsafeSliceData_ #[145] 200 #[sN]).run prog w.drew= .ok (.pointer none) w.drew:=rfl;go_enter func96,ntmps96;go_wp2
 go_region
 all_goals (go_wp2;go_ret;exact ⟨rfl,Below.drew (ZsT B w)⟩)
theorem VV {T:TypeId} (J:BT T) (B b g:Nat) (p:Value) (h:Array Value) (w:Wq) (D:B<=w.heap.size) (A:w.heap[b]? =some (.cells #[p,.slice (some ⟨g,0,none⟩) 0 0] T (0,0))) (Q:w.heap[g]? =some (.cells h 5 (0,0))):
 Calls prog 96 #[.pointer (some ⟨b,0,none⟩)] w λe w'=>e= .returned eS/\Below B w w':=by
 have O:=XG J;have H:b<w.heap.size:=by
  rcases ZrJ b w.heap.size with C|C
  ·exact C
  ·simp[ZrT C] at A
 have c1:w.drew.cell? ⟨b,1,none⟩=some (.slice (some ⟨g,0,none⟩) 0 0):=by have:w.drew.heap[b]? =some (.cells #[p,.slice (some ⟨g,0,none⟩) 0 0] T (0,0)):=A;rw[Zrc this];rfl
 have I:(Builtin.unsafeSliceData_ #[145] 200 #[.slice (some ⟨g,0,none⟩) 0 0]).run prog w.drew= .ok (.pointer (some ⟨w.drew.heap.size,0,none⟩)) (w.drew.alloc (.view ⟨g,0,none⟩ 5)):=
  Lib.run_unsafeSliceData_zero w.drew _ _ 5 underlying200 ⟨g,0,none⟩ 0 (5,h.size) (by have F:w.drew.heap[g]? =some (.cells h 5 (0,0)):=Q;simp[World.shape?,F])
 have c2:(w.drew.alloc (.view ⟨g,0,none⟩ 5)).cell? ⟨b,1,none⟩=some (.slice (some ⟨g,0,none⟩) 0 0):=by have:(w.drew.alloc (.view ⟨g,0,none⟩ 5)).heap[b]? =_:=(Lib.alloc_old w.drew _ b H).trans A;rw[Zrc this];rfl
 have c3:(w.alloc (.view ⟨g,0,none⟩ 5)).drew.cell? ⟨b,1,none⟩=some (.slice (some ⟨g,0,none⟩) 0 0):=c2;have c0:w.cell? ⟨b,1,none⟩=some (.slice (some ⟨g,0,none⟩) 0 0):=c1;go_enter func96,ntmps96;go_wp2
 go_region
 all_goals (go_wp2;go_ret;exact ⟨rfl,(Below.drew (ZsT B w)).alloc D _⟩)
theorem Gi {T:TypeId} (D:BT T) (B b g cap:Nat) (p:Value) (w:Wq) (h:cap≠0) (A:w.heap[b]? =some (.cells #[p,.slice (some ⟨g,0,none⟩) 0 cap] T (0,0))):
 Calls prog 96 #[.pointer (some ⟨b,0,none⟩)] w λe w'=>e= .returned eS/\Below B w w':=by
 have F:=XG D;have c1:w.drew.cell? ⟨b,1,none⟩=some (.slice (some ⟨g,0,none⟩) 0 cap):=by have:w.drew.heap[b]? =some (.cells #[p,.slice (some ⟨g,0,none⟩) 0 cap] T (0,0)):=A;rw[Zrc this];rfl
 have C:(Builtin.unsafeSliceData_ #[145] 200 #[.slice (some ⟨g,0,none⟩) 0 cap]).run prog w.drew= .ok (.pointer (some ⟨g,0,none⟩)) w.drew:=
  Lib.run_unsafeSliceData_row _ _ _ _ _ _ h
 clear h;go_enter func96,ntmps96;go_wp2
 go_region
 all_goals (go_wp2;go_ret;exact ⟨rfl,Below.drew (ZsT B w)⟩)
theorem VW {T:TypeId} (I:BT T) (B b:Nat) (w:Wq) (h:Lib.IsBuilder T 5 B b [] w) (H:B<=w.heap.size):
 Calls prog 96 #[.pointer (some ⟨b,0,none⟩)] w λe w'=>e= .returned eS/\Below B w w':=by
 obtain ⟨p,R,v,A,D,Q⟩:∃p,Lib.BuilderAt T 5 B b p [] w:=by
  rcases h with h|h
  ·exact ⟨_,h⟩
  ·exact ⟨_,h⟩
 rcases D.2 with ⟨rfl,_⟩|⟨g,cap,F,rfl,J,O,_,_,_,_⟩
 ·exact G0 I B b p w A
 ·by_cases C:cap=0
  ·subst C;exact VV I B b g p F w H A O
  ·exact Gi I B b g cap p w C A
theorem GZ {T:TypeId} (C:BT T) (B b:Nat) (l:List UInt8) (w:Wq) (h:Lib.IsBuilder T 5 B b (Lib.byteCells l) w) (A:B<=w.heap.size):
 Calls prog 96 #[.pointer (some ⟨b,0,none⟩)] w λe w'=>e= .returned (.string ⟨l.toArray⟩)/\Below B w w':=by
 cases l with
 |nil=>exact VW C B b w h A
 |cons x r=>exact ZbH C B b (x::r) w h (by simp)
def KeepsT (T:TypeId) (w w':Wq):Prop:=∀(k:Nat) (cs:Array Value) (t:TypeId) (fr:Nat×Nat),w.heap[k]? =some (Obj.cells cs t fr)->t≠T->t≠5->w'.heap[k]? =some (Obj.cells cs t fr)
theorem Jo {T:TypeId} (D:BT T) (B b:Nat) (bs:List Value) (w:Wq) (h:Lib.IsBuilder T 5 B b bs w):
 Calls prog 135 #[.pointer (some ⟨b,0,none⟩)] w λe w'=>e= .returned (.tuple #[])/\(Lib.BuilderAt T 5 B b (.pointer (some ⟨b,0,none⟩)) bs w'/\Below B w w'/\KeepsT T w w'):=by
 rcases h with h|h
 ·refine (Xl D b w h.cell0 h.shape h.frozen0).mono ?_;rintro e w' ⟨rfl,rfl⟩;refine ⟨rfl,h.used _,(ZsT B w).setCell (p:=⟨b,0,none⟩) h.1 _,?_⟩;intro k cs t fr A C H;rw[Below.heap_setCell _ _ _ _ (λe=> ?_)]
  ·exact A
  ·obtain ⟨_,v,F,_⟩:=h;simp at e;subst e;rw[F] at A;simp only[Zsm,Obj.cells.injEq] at A;exact C A.2.1.symm
 ·refine (Xs D b w h.cell0).mono ?_;rintro e w' ⟨rfl,rfl⟩;exact ⟨rfl,h,ZsT B _,λ_ _ _ _ A _ _=>A⟩
theorem YD {T:TypeId} (hT:BT T) (B b:Nat) (bs:List Value) (c:Int) (w:Wq) (h:Lib.IsBuilder T 5 B b bs w) (he:bs.length+1<=140737488355328) (hg:B<=w.heap.size):
 Calls prog 95 #[.pointer (some ⟨b,0,none⟩),.int .u8 c] w λe w'=>e= .returned .nilIface/\(Lib.BuilderAt T 5 B b (.pointer (some ⟨b,0,none⟩)) (bs++ [.int .u8 c]) w'/\Below B w w'/\KeepsT T w w'):=by
 obtain ⟨i0,hi,hb,hc,hd⟩:=ZrE Ju;go_enter func95,ntmps95
 go_wp2_with (go_at_call 135;refine (Jo hT B b bs _ h).mono ?_)
 rintro e w1 ⟨rfl,h1,I,V⟩;obtain ⟨hB,v,D,F,ha⟩:=h1;have c0:w1.cell? ⟨b,0,none⟩=some (.pointer (some ⟨b,0,none⟩)):=by rw[Zrc D];rfl
 have c1:w1.cell? ⟨b,1,none⟩=some v:=by rw[Zrc D];rfl
 go_wp2_with (at_builtin;refine wpList_append_own _ rfl _ _ 145 rfl B 5 i0 (.int .u8 0) 1 1 underlying145 hi hb hc hd rfl (by decide) _ _ _ rfl (F.alloc _) ⟨w1.heap.size,0,none⟩ 1 1 [.int .u8 c] rfl rfl ?c1 ?c2 ?c3 ?c4 ?c5 ?_)
 case c1=>
  intro j u R
  match j,R with
  |0,R=>simp at R;subst R;simp[Addr.add]
 case c2=>intro u hu;simp at hu;subst hu;rfl
 case c3=>unfold maxLen;omega
 case c4=>omega
 case c5=>have:=I.size;simp;omega
 intro v' w2 H A _;have Z:b<w1.heap.size:=by
  rcases ZrJ b w1.heap.size with S|S
  ·exact S
  ·simp[ZrT S] at D
 have J:w2.heap[b]? =some (.cells #[.pointer (some ⟨b,0,none⟩),v] T (0,0)):=by rw[A.block b (by simp;omega) (λe=>ha e.symm),Lib.alloc_old w1 _ b Z];exact D
 have d0:w2.cell? ⟨b,0,none⟩=some (.pointer (some ⟨b,0,none⟩)):=by rw[Zrc J];rfl
 have d1:w2.cell? ⟨b,1,none⟩=some v:=by rw[Zrc J];rfl
 have f1:w2.frozen? ⟨b,1,none⟩=false:=Zrk J 1;obtain ⟨g,cap,rfl⟩:∃g cap,v'= .slice (some ⟨g,0,none⟩) (bs.length+1) cap:=by
  rcases H.2 with ⟨_,h0⟩|⟨g,cap,hf,hv,_⟩
  ·omega
  ·exact ⟨g,cap,hv⟩
 go_wp2;go_ret;refine ⟨rfl,?_,?_,?_⟩
 ·exact Lib.BuilderAt.put (T:=T) (e:=5) hB J (bs':=bs++ [.int .u8 c]) (by simpa using H) hT.ne
 ·exact ((I.alloc (by have:=I.size;omega) _).grown A (by have:=I.size;simp;omega) (λk U=>(F.lt k U).1)).setCell (p:=⟨b,1,none⟩) hB _
 ·intro k cs t fr U O Q;have C:=V k cs t fr U O Q;have X:k≠b:=by rintro rfl;rw[D] at C;simp only[Zsm,Obj.cells.injEq] at C;exact O C.2.1.symm
  have Y:k<w1.heap.size:=(Zrg.1 C).1;rw[Below.heap_setCell _ _ _ _ (λe=>X (by simpa using e))];rw[A.block k (by simp;omega) (λe=>Lib.ownBlock_ne F C Q e.symm),Lib.alloc_old w1 _ k Y];exact C
theorem Jn (c:Int) (w:Wq):Calls prog 107 #[.int .u8 c] w λe w'=>e= .returned (.bool (isSp c))/\w=w':=by
 unfold isSp;go_enter func107,ntmps107;go_wp2
 all_goals (go_ret;refine ⟨?_,rfl⟩)
 all_goals (refine ZqS (λb=>Ending.returned (.bool b)) (ZrG.2 ?_);simp at* <;>omega)
theorem ZT (c:Int) (w:Wq):Calls prog 103 #[.int .u8 c] w λe w'=>e= .returned (.bool (isSp c))/\w=w':=by
 unfold isSp;go_enter func103,ntmps103;go_wp2
 all_goals (go_ret;refine ⟨?_,rfl⟩)
 all_goals (refine ZqS (λb=>Ending.returned (.bool b)) (ZrG.2 ?_);simp at* <;>omega)
theorem QB (r:Int) (w:Wq):Calls prog 153 #[.int .i32 r] w λe w'=>e= .returned (.bool (isChar r))/\w=w':=by
 unfold isChar;go_enter func153,ntmps153;go_wp2
 all_goals (go_ret;refine ⟨?_,rfl⟩)
 all_goals (refine ZqS (λb=>Ending.returned (.bool b)) (ZrG.2 ?_);simp at* <;>omega)
theorem UN (r:Int) (w:Wq):Calls prog 141 #[nI r] w λe w'=>e= .returned (.bool (isChar r))/\w=w':=by
 unfold isChar;go_enter func141,ntmps141;go_wp2
 all_goals (go_ret;refine ⟨?_,rfl⟩)
 all_goals (refine ZqS (λb=>Ending.returned (.bool b)) (ZrG.2 ?_);simp at* <;>omega)
def laysM171_ren:Go.Shelf.Ren:=⟨fun|171=>164|243=>198|246=>213|283=>227|284=>228|285=>229|286=>230|129=>193|317=>235|318=>236|319=>237|320=>238|337=>241|338=>242|n=>n,fun|3=>3|9=>9|2=>2|4=>4|171=>295|0=>0|53=>256|37=>145|5=>5|173=>297|212=>306|51=>254|20=>20|213=>307|46=>223|232=>311|233=>312|n=>n,fun|17=>4|18=>6|19=>7|n=>n⟩
theorem laysM171:Go.Proofs.LaysM.n171 prog laysM171_ren:={
 mixed:=by kernel_rfl
 f129:=func193.trans (ZqS some (by kernel_rfl))
 f171:=func164.trans (ZqS some (by kernel_rfl))
 f243:=func198.trans (ZqS some (by kernel_rfl))
 f246:=func213.trans (ZqS some (by kernel_rfl))
 f283:=func227.trans (ZqS some (by kernel_rfl))
 f284:=func228.trans (ZqS some (by kernel_rfl))
 f285:=func229.trans (ZqS some (by kernel_rfl))
 f286:=func230.trans (ZqS some (by kernel_rfl))
 f317:=func235.trans (ZqS some (by kernel_rfl))
 f318:=func236.trans (ZqS some (by kernel_rfl))
 f319:=func237.trans (ZqS some (by kernel_rfl))
 f320:=func238.trans (ZqS some (by kernel_rfl))
 f337:=func241.trans (ZqS some (by kernel_rfl))
 f338:=func242.trans (ZqS some (by kernel_rfl))
 t0:=underlying0
 a0:=isAgg0
 z0:=sizeOf0
 v0:=zeroValue0
 t2:=underlying2
 a2:=isAgg2
 z2:=sizeOf2
 v2:=zeroValue2
 t3:=underlying3
 a3:=isAgg3
 z3:=sizeOf3
 v3:=zeroValue3
 t4:=underlying4
 a4:=isAgg4
 z4:=sizeOf4
 v4:=zeroValue4
 t5:=underlying5
 a5:=isAgg5
 z5:=sizeOf5
 v5:=zeroValue5
 t9:=underlying9
 a9:=isAgg9
 z9:=sizeOf9
 v9:=zeroValue9
 t20:=underlying20
 a20:=isAgg20
 z20:=sizeOf20
 v20:=zeroValue20
 t37:=underlying145
 a37:=isAgg145
 z37:=sizeOf145
 v37:=zeroValue145
 t46:=underlying223
 a46:=isAgg223
 z46:=sizeOf223
 v46:=zeroValue223
 t51:=underlying254
 a51:=isAgg254
 z51:=sizeOf254
 v51:=zeroValue254
 t53:=underlying256
 a53:=isAgg256
 z53:=sizeOf256
 v53:=zeroValue256
 t171:=underlying295
 a171:=isAgg295
 z171:=sizeOf295
 v171:=zeroValue295
 t173:=underlying297
 a173:=isAgg297
 z173:=sizeOf297
 v173:=zeroValue297
 t212:=underlying306
 a212:=isAgg306
 z212:=sizeOf306
 v212:=zeroValue306
 t213:=underlying307
 a213:=isAgg307
 z213:=sizeOf307
 t232:=underlying311
 a232:=isAgg311
 z232:=sizeOf311
 v232:=zeroValue311
 t233:=underlying312
 a233:=isAgg312
 z233:=sizeOf312
 v233:=zeroValue312
 g17:=by kernel_rfl
 g18:=by kernel_rfl
 g19:=by kernel_rfl
 i0:=by kernel_rfl
 i2:=by kernel_rfl
 i3:=by kernel_rfl
 i4:=by kernel_rfl
 i5:=by kernel_rfl
 i9:=by kernel_rfl
 i20:=by kernel_rfl
 i37:=by kernel_rfl
 i46:=by kernel_rfl
 i51:=by kernel_rfl
 i53:=by kernel_rfl
 i171:=by kernel_rfl
 i173:=by kernel_rfl
 i212:=by kernel_rfl
 i232:=by kernel_rfl
 i233:=by kernel_rfl
 m17:=by kernel_rfl
 m18:=by kernel_rfl
 m19:=by kernel_rfl}
open Go.RowKit Go.Sort Go.Lib in
theorem strconv_Itoa (n : Int) (h0 : -9223372036854775808 ≤ n) (h1 : n ≤ 9223372036854775807) (w : World) (htab : Lib.TabIs prog w "internal/strconv.uint64pow10" .u64 Lib.pow10Tab) :
 Calls prog 164 #[.int .i64 n] w λe w'=>e= .returned (.string ⟨(Lib.itoa n).toArray⟩)/\∃k os,w'=grow (w.drewN k) os:=Any.strconv_Itoa laysM171 n h0 h1 w htab
def laysM173_ren:Go.Shelf.Ren:=⟨fun|173=>219|246=>213|283=>227|284=>228|285=>229|286=>230|129=>193|317=>235|318=>236|319=>237|320=>238|337=>241|338=>242|n=>n,fun|2=>2|3=>3|9=>9|4=>4|171=>295|0=>0|53=>256|37=>145|5=>5|173=>297|212=>306|51=>254|20=>20|213=>307|46=>223|232=>311|233=>312|n=>n,fun|17=>4|18=>6|19=>7|n=>n⟩
theorem laysM173:Go.Proofs.LaysM.n173 prog laysM173_ren:={
 mixed:=by kernel_rfl
 f129:=func193.trans (ZqS some (by kernel_rfl))
 f173:=func219.trans (ZqS some (by kernel_rfl))
 f246:=func213.trans (ZqS some (by kernel_rfl))
 f283:=func227.trans (ZqS some (by kernel_rfl))
 f284:=func228.trans (ZqS some (by kernel_rfl))
 f285:=func229.trans (ZqS some (by kernel_rfl))
 f286:=func230.trans (ZqS some (by kernel_rfl))
 f317:=func235.trans (ZqS some (by kernel_rfl))
 f318:=func236.trans (ZqS some (by kernel_rfl))
 f319:=func237.trans (ZqS some (by kernel_rfl))
 f320:=func238.trans (ZqS some (by kernel_rfl))
 f337:=func241.trans (ZqS some (by kernel_rfl))
 f338:=func242.trans (ZqS some (by kernel_rfl))
 t0:=underlying0
 a0:=isAgg0
 z0:=sizeOf0
 v0:=zeroValue0
 t2:=underlying2
 a2:=isAgg2
 z2:=sizeOf2
 v2:=zeroValue2
 t3:=underlying3
 a3:=isAgg3
 z3:=sizeOf3
 v3:=zeroValue3
 t4:=underlying4
 a4:=isAgg4
 z4:=sizeOf4
 v4:=zeroValue4
 t5:=underlying5
 a5:=isAgg5
 z5:=sizeOf5
 v5:=zeroValue5
 t9:=underlying9
 a9:=isAgg9
 z9:=sizeOf9
 v9:=zeroValue9
 t20:=underlying20
 a20:=isAgg20
 z20:=sizeOf20
 v20:=zeroValue20
 t37:=underlying145
 a37:=isAgg145
 z37:=sizeOf145
 v37:=zeroValue145
 t46:=underlying223
 a46:=isAgg223
 z46:=sizeOf223
 v46:=zeroValue223
 t51:=underlying254
 a51:=isAgg254
 z51:=sizeOf254
 v51:=zeroValue254
 t53:=underlying256
 a53:=isAgg256
 z53:=sizeOf256
 v53:=zeroValue256
 t171:=underlying295
 a171:=isAgg295
 z171:=sizeOf295
 v171:=zeroValue295
 t173:=underlying297
 a173:=isAgg297
 z173:=sizeOf297
 v173:=zeroValue297
 t212:=underlying306
 a212:=isAgg306
 z212:=sizeOf306
 v212:=zeroValue306
 t213:=underlying307
 a213:=isAgg307
 z213:=sizeOf307
 t232:=underlying311
 a232:=isAgg311
 z232:=sizeOf311
 v232:=zeroValue311
 t233:=underlying312
 a233:=isAgg312
 z233:=sizeOf312
 v233:=zeroValue312
 g17:=by kernel_rfl
 g18:=by kernel_rfl
 g19:=by kernel_rfl
 i0:=by kernel_rfl
 i2:=by kernel_rfl
 i3:=by kernel_rfl
 i4:=by kernel_rfl
 i5:=by kernel_rfl
 i9:=by kernel_rfl
 i20:=by kernel_rfl
 i37:=by kernel_rfl
 i46:=by kernel_rfl
 i51:=by kernel_rfl
 i53:=by kernel_rfl
 i171:=by kernel_rfl
 i173:=by kernel_rfl
 i212:=by kernel_rfl
 i232:=by kernel_rfl
 i233:=by kernel_rfl
 m17:=by kernel_rfl
 m18:=by kernel_rfl
 m19:=by kernel_rfl}
open Go.RowKit Go.Sort Go.Lib in
theorem strconv_FormatInt_10 (n : Int) (h0 : -9223372036854775808 ≤ n) (h1 : n ≤ 9223372036854775807) (w : World) (htab : Lib.TabIs prog w "internal/strconv.uint64pow10" .u64 Lib.pow10Tab) :
 Calls prog 219 #[.int .i64 n,.int .i64 10] w λe w'=>e= .returned (.string ⟨(Lib.itoa n).toArray⟩)/\∃k os,w'=grow (w.drewN k) os:=Any.strconv_FormatInt_10 laysM173 n h0 h1 w htab
def lays197_ren:Go.Shelf.Ren:=⟨fun|197=>178|260=>202|n=>n,fun|9=>9|21=>21|3=>3|4=>4|5=>5|105=>214|119=>280|0=>0|46=>223|139=>283|138=>282|n=>n,fun|3=>0|4=>1|n=>n⟩
theorem lays197:Go.Proofs.Lays.n197 prog lays197_ren:={
 mixed:=by kernel_rfl
 f197:=func178.trans (ZqS some (by kernel_rfl))
 f260:=func202.trans (ZqS some (by kernel_rfl))
 t0:=underlying0
 a0:=isAgg0
 z0:=sizeOf0
 v0:=zeroValue0
 t3:=underlying3
 a3:=isAgg3
 z3:=sizeOf3
 v3:=zeroValue3
 t4:=underlying4
 a4:=isAgg4
 z4:=sizeOf4
 v4:=zeroValue4
 t5:=underlying5
 a5:=isAgg5
 z5:=sizeOf5
 v5:=zeroValue5
 t9:=underlying9
 a9:=isAgg9
 z9:=sizeOf9
 v9:=zeroValue9
 t21:=underlying21
 a21:=isAgg21
 z21:=sizeOf21
 v21:=zeroValue21
 t46:=underlying223
 a46:=isAgg223
 z46:=sizeOf223
 v46:=zeroValue223
 t105:=underlying214
 a105:=isAgg214
 z105:=sizeOf214
 v105:=zeroValue214
 t119:=underlying280
 a119:=isAgg280
 z119:=sizeOf280
 t138:=underlying282
 a138:=isAgg282
 z138:=sizeOf282
 v138:=zeroValue282
 t139:=underlying283
 a139:=isAgg283
 z139:=sizeOf283
 v139:=zeroValue283
 g3:=by kernel_rfl
 g4:=by kernel_rfl}
open Go.RowKit Go.Lib in
theorem utf8_DecodeRuneInString (s:ByteArray) (w:Wq) (h:Lib.Utf8Tabs 0 1 w):
 Calls prog 178 #[.string s] w λe w'=>e= .returned (.tuple #[.int .i32 (Lib.decodeGo s).1,nI (Lib.decodeGo s).2])/\Below w.heap.size w w':=Any.utf8_DecodeRuneInString lays197 s w h
def lays110_ren:Go.Shelf.Ren:=⟨fun|110=>67|109=>115|n=>n,fun|31=>29|9=>9|4=>4|3=>3|0=>0|n=>n,fun|n=>n⟩
theorem lays110:Go.Proofs.Lays.n110 prog lays110_ren:={
 mixed:=by kernel_rfl
 f109:=func115.trans (ZqS some (by kernel_rfl))
 f110:=func67.trans (ZqS some (by kernel_rfl))
 t0:=underlying0
 a0:=isAgg0
 z0:=sizeOf0
 v0:=zeroValue0
 t3:=underlying3
 a3:=isAgg3
 z3:=sizeOf3
 v3:=zeroValue3
 t4:=underlying4
 a4:=isAgg4
 z4:=sizeOf4
 v4:=zeroValue4
 t9:=underlying9
 a9:=isAgg9
 z9:=sizeOf9
 v9:=zeroValue9
 t31:=underlying29
 a31:=isAgg29
 z31:=sizeOf29
 v31:=zeroValue29}
open Go.Lib in
theorem slices_Contains_string (b h n c:Nat) (zs:List ByteArray) (x:ByteArray) (w:Wq) (D:n<=zs.length) (A:n<=9223372036854775807) (C:∀j,j<zs.length->w.cell? ⟨b,h+j,none⟩=some (.string (zs.getD j ByteArray.empty))):
 Calls prog 67 #[.slice (some ⟨b,h,none⟩) n c,.string x] w λe w'=>e= .returned (.bool (Lib.containsS (zs.take n) x))/\w'=w:=Any.slices_Contains_string lays110 b h n c zs x w D A C
open Go.Lib in
theorem slices_Contains_string_empty (a:Option Addr) (c:Nat) (x:ByteArray) (w:Wq):
 Calls prog 67 #[.slice a 0 c,.string x] w λe w'=>e= .returned (.bool false)/\w'=w:=Any.slices_Contains_string_empty lays110 a c x w
theorem Zb5 (s:ByteArray) (w:Wq) (h:Env w):Calls prog 178 #[.string s] w λe w'=>e= .returned (.tuple #[.int .i32 (Lib.decodeGo s).1,nI (Lib.decodeGo s).2])/\Ext w w':=
 utf8_DecodeRuneInString s w h.utf8
theorem ZeV {T:TypeId} (A:BT T) (B b:Nat) (bs:List Value) (w:Wq) (h:Lib.IsBuilder T 5 B b bs w):
 Calls prog 108 #[.pointer (some ⟨b,0,none⟩)] w λe w'=>e= .returned (nI bs.length)/\w'=w:=ZfR A B b bs w h
theorem Yk {T:TypeId} (I:BT T) (B b:Nat) (bs:List Value) (c:Int) (w:Wq) (h:Lib.IsBuilder T 5 B b bs w) (A:bs.length+1<=140737488355328) (C:B<=w.heap.size):
 Calls prog 95 #[.pointer (some ⟨b,0,none⟩),.int .u8 c] w λe w'=>e= .returned .nilIface/\(Lib.IsBuilder T 5 B b (bs++ [.int .u8 c]) w'/\Below B w w'):=
 (KS I B b bs c w h A C).mono λ_ _ ⟨D,F,H⟩=>⟨D,Or.inr F,H⟩
theorem Yu {T:TypeId} (I:BT T) (B b:Nat) (bs:List Value) (s:ByteArray) (w:Wq) (h:Lib.IsBuilder T 5 B b bs w) (A:bs.length+s.size<=140737488355328) (C:B<=w.heap.size):
 Calls prog 92 #[.pointer (some ⟨b,0,none⟩),.string s] w λe w'=>e= .returned (.tuple #[nI s.size,.nilIface])/\(Lib.IsBuilder T 5 B b (bs++Lib.byteCells s.data.toList) w'/\Below B w w'):=
 (Gj I B b bs s w h A C).mono λ_ _ ⟨D,F,H⟩=>⟨D,Or.inr F,H⟩
theorem VN {T:TypeId} (C:BT T) (B b:Nat) (l:List UInt8) (w:Wq) (h:Lib.IsBuilder T 5 B b (Lib.byteCells l) w) (A:B<=w.heap.size):
 Calls prog 96 #[.pointer (some ⟨b,0,none⟩)] w λe w'=>e= .returned (.string (str l))/\Below B w w':=GZ C B b l w h A
theorem ZbS (B b:Nat) (bs:List Value) (w:Wq) (h:Lib.IsBuilder 147 5 B b bs w):
 Calls prog 108 #[.pointer (some ⟨b,0,none⟩)] w λe w'=>e= .returned (nI bs.length)/\w'=w:=ZeV U3 B b bs w h
theorem Yt (B b:Nat) (bs:List Value) (c:Int) (w:Wq) (h:Lib.IsBuilder 147 5 B b bs w) (A:bs.length+1<=140737488355328) (C:B<=w.heap.size):
 Calls prog 95 #[.pointer (some ⟨b,0,none⟩),.int .u8 c] w λe w'=>e= .returned .nilIface/\(Lib.IsBuilder 147 5 B b (bs++ [.int .u8 c]) w'/\Below B w w'):=Yk U3 B b bs c w h A C
theorem ZZ (B b:Nat) (bs:List Value) (s:ByteArray) (w:Wq) (h:Lib.IsBuilder 147 5 B b bs w) (A:bs.length+s.size<=140737488355328) (C:B<=w.heap.size):
 Calls prog 92 #[.pointer (some ⟨b,0,none⟩),.string s] w λe w'=>e= .returned (.tuple #[nI s.size,.nilIface])/\(Lib.IsBuilder 147 5 B b (bs++Lib.byteCells s.data.toList) w'/\Below B w w'):=Yu U3 B b bs s w h A C
theorem Ys (B b:Nat) (l:List UInt8) (w:Wq) (h:Lib.IsBuilder 147 5 B b (Lib.byteCells l) w) (A:B<=w.heap.size):
 Calls prog 96 #[.pointer (some ⟨b,0,none⟩)] w λe w'=>e= .returned (.string (str l))/\Below B w w':=VN U3 B b l w h A
theorem Zf9 (s:ByteArray) (C:s.data.toList≠ []):Lib.decodeGo s=Lib.decodeL s.data.toList:=by
 unfold Lib.decodeGo Lib.decodeL;have A:s.size≠0:=by intro h;apply C;apply ZqX;simpa using h
 rw[ZqH A]
theorem Qi (t:ByteArray) (k:Nat):(t.extract k t.size).data.toList=t.data.toList.drop k:=by
 simp[Zq4]
theorem Zpz (s:ByteArray) (k:Nat) (A:k<s.size):Lib.decodeGo (s.extract k s.size)=Lib.decodeL (s.data.toList.drop k):=by
 rw[Zf9,Qi];rw[Qi];intro h;have:=ZqS List.length h;simp at this;have:s.data.size=s.size:=rfl;omega
def decVal (d:Nat×Nat):Value:= .tuple #[.int .i32 (d.1:Nat),nI (d.2:Nat)]
theorem GU (s:ByteArray) (k:Nat) (w:Wq) (S:Env w) (U:k<s.size) (V:s.size<=maxLen):
 Calls prog 152 #[.string s,nI (k:Nat)] w λe w'=>e= .returned (decVal (dec (s.data.toList.drop k)))/\Ext w w':=by
 have J:=Zpz s k U;have D:s.data.toList.drop k≠ []:=by intro h;have:=ZqS List.length h;simp at this;have:s.data.size=s.size:=rfl;omega
 obtain ⟨R,F⟩:∃R,(Lib.decodeL (s.data.toList.drop k)).1=R:=⟨_,rfl⟩;obtain ⟨K,hK⟩:∃K,(Lib.decodeL (s.data.toList.drop k)).2=K:=⟨_,rfl⟩;have I:=Zb5 (s.extract k s.size) w S;rw[J,F,hK] at I;have A:dec (s.data.toList.drop k)=if R=65533/\K=1 then (0,0) else (R,K):=by unfold dec;rw[ZqH D,F,hK,<-F,<-hK]
 rw[A];clear A hK F D J;unfold maxLen at V;have O:=gd I;clear I;by_cases C:R=65533/\K=1;obtain ⟨rfl,rfl⟩:=C
 rotate_left
 by_cases H:R=65533;have Y:((K:Int)==1)=false:=by rw[ZqW];omega
 have Q:((R:Int)==65533)=true:=by simp[H]
 have A:(if R=65533/\K=1 then ((0,0):Nat×Nat) else (R,K))=(R,K):=ZqH C;rw[A];clear A C H
 rotate_left
 have Q:((R:Int)==65533)=false:=by rw[ZqW];omega
 have A:(if R=65533/\K=1 then ((0,0):Nat×Nat) else (R,K))=(R,K):=ZqH C;rw[A];clear A C H
 all_goals
  go_enter func152,ntmps152
  go_wp2_with (go_at_call 178;refine (O.out).mono ?_;rintro e w' ⟨rfl,X⟩)
  all_goals go_ret2
  all_goals exact ⟨rfl,X⟩
theorem Zb (s:ByteArray):s.data.toList.length=s.size:=rfl
theorem UQ (s:ByteArray) (w:Wq) (hE:Env w) (hs:s.size<=maxLen):
 Calls prog 114 #[.string s] w λe w'=>e= .returned (.tuple #[nI ((checkS s).1:Nat),nI ((checkS s).2:Nat)])/\Ext w w':=by
 have ha:=hs;unfold maxLen at hs;go_enter func114,ntmps114;go_wp2;go_loopw [4,5,6] (λv _ _ wr=>∃k:Nat,k<=s.size/\v=nI k/\Hid (checkS s=checkGo s.data.toList.length k (s.data.toList.drop k))/\Ext w wr) (λv _ _ _=>s.size - (intOf v).toNat)
 case atStart=>exact ⟨0,ZqO _,rfl,rfl,Ext.refl _⟩
 case round=>
  obtain ⟨k,hk,rfl,X,V⟩:=hrel;by_cases S:k<s.size
  ·have U:=ZfZ s.data.toList k (by rw[Zb];exact S);have Q:=Xi (s.data.toList.drop k);rw[ZqP,Zb] at Q;have C:=GU s k wr (hE.ext V) S ha;unfold decVal at C;have H:=X.out.trans U;clear X U;obtain ⟨R,hR⟩:∃R,(dec (s.data.toList.drop k)).1=R:=⟨_,rfl⟩;obtain ⟨K,hK⟩:∃K,(dec (s.data.toList.drop k)).2=K:=⟨_,rfl⟩;rw[hR,hK] at C H;rw[hK] at Q;clear hR hK;have Y:=gd C;have I:=gd H;clear C H;by_cases h0:K=0
   ·subst h0;have A:=I.out;rw[ZqN rfl] at A;have J:=gd A;clear A I
    go_wp2_with (first|(go_at_call 152;refine (Y.out).mono ?_;rintro e w' ⟨rfl,D⟩))
    go_ret2
    exact ⟨by rw[J.out];rfl,V.trans D⟩
   ·have hb:((K:Int)==0)=false:=(by rw[ZqW];omega);by_cases F:isChar R=false
    ·have A:=I.out;rw[ZqH h0,ZqN F] at A;have J:=gd A;clear A I
     go_wp2_with (first|(go_at_call 152;refine (Y.out).mono ?_;rintro e w' ⟨rfl,D⟩)|(go_at_call 153;refine (QB _ _).mono ?_;rintro e w' ⟨rfl,rfl⟩))
     go_ret2
     exact ⟨by rw[J.out];rfl,V.trans D⟩
    ·have hd:isChar R=true:=(by simpa using F);have Z:Hid (checkS s=checkGo s.data.toList.length (k+K) (s.data.toList.drop (k+K))):=(by have h:=I.out;rw[ZqH h0,ZqH F] at h;exact h);clear I F
     go_wp2_with (first|(go_at_call 152;refine (Y.out).mono ?_;rintro e w' ⟨rfl,D⟩)|(go_at_call 153;refine (QB _ _).mono ?_;rintro e w' ⟨rfl,rfl⟩))
     go_roundw
     case rel=>exact ⟨k+K,om,by go_num,Z,V.trans D⟩
     case measure=>simp[intOf];omega
  ·have O:k=s.size:=om;have A:checkS s=(s.size,0):=(by rw[X.out,ZdS _ _ (by rw[Zb];omega),O]);have J:=gd A;clear A X O;go_wp2
   go_ret2
   exact ⟨by rw[J.out];rfl,V⟩
theorem ZdW (l out:List UInt8) (g:Bool) (k:Nat) (h:k<l.length):collGo (l.drop k) out g=if isSp (l[k]).toNat then collGo (l.drop (k+1)) out (!out.isEmpty) else collGo (l.drop (k+1)) (out++(if g then [32] else [])++ [l[k]]) false:=by
 rw[ZqR h];rfl
theorem Zf (a b:List UInt8):Lib.byteCells (a++b)=Lib.byteCells a++Lib.byteCells b:=by simp[Lib.byteCells]
theorem Zw (a:List UInt8):(Lib.byteCells a).length=a.length:=by simp[Lib.byteCells]
theorem ZjS (s:ByteArray) (out:List UInt8) (g:Bool) (k:Nat) (A:k<s.size) (h:isSp (s[k].toNat)=true):collGo (s.data.toList.drop k) out g=collGo (s.data.toList.drop (k+1)) out (!out.isEmpty):=by
 rw[ZdW _ _ _ k (by rw[Zb];exact A)];exact ZqN h
theorem ZjR (s:ByteArray) (out:List UInt8) (g:Bool) (k:Nat) (A:k<s.size) (h:isSp (s[k].toNat)=false):collGo (s.data.toList.drop k) out g=collGo (s.data.toList.drop (k+1)) (out++(if g then [32] else [])++ [s[k]]) false:=by
 rw[ZdW _ _ _ k (by rw[Zb];exact A)];exact ZqH (by rw[Bool.not_eq_true];exact h)
theorem Jr (s:ByteArray) (w:Wq) (hs:s.size<=140737488351232):
 Calls prog 62 #[.string s] w λe w'=>e= .returned (.string (collapse s))/\Ext w w':=by
 go_enter func62,ntmps62;go_wp2;go_loopw [4,5,8] (λv _ i wr=>∃(k:Nat) (out:List UInt8) (g:Bool),k<=s.size/\i=nI k/\v= .bool g/\out.length+(if g then 1 else 0)<=k/\
  Lib.IsBuilder 147 5 w.heap.size w.heap.size (Lib.byteCells out) wr/\Hid (coll s.data.toList=collGo (s.data.toList.drop k) out g)/\Ext w wr) (λ_ _ i _=>s.size - (intOf i).toNat)
 case atStart=>exact ⟨0,[],false,ZqO _,rfl,rfl,by simp,Lib.fresh_isBuilder _ _ _,rfl,(Ext.refl _).alloc _⟩
 case round=>
  obtain ⟨k,out,g,hk,rfl,rfl,h,O,I,J⟩:=hrel;have F:=J.size;by_cases R:k<s.size
  ·by_cases D:isSp (s[k]).toNat=true
   ·have X:=gd (I.out.trans (ZjS s out g k R D));have A:out.length<=k:=(by split at h<;>omega);have Q:decide (0<(Lib.byteCells out).length)= !out.isEmpty:=(by rw[Zw];cases out<;>simp);have HG:=gd Q;clear I Q h
    go_wp2_with (first|(go_at_call 107;refine (Jn _ _).mono ?_;rintro e w' ⟨rfl,rfl⟩)|(go_at_call 108;refine (ZbS _ _ _ _ O).mono ?_;rintro e w' ⟨rfl,rfl⟩))
    go_roundw
    case rel=>exact ⟨k+1,out,!out.isEmpty,om,by go_num,by rw[HG.out],by split<;>omega,O,X,J⟩
    case measure=>simp[intOf];omega
   ·have S:isSp (s[k]).toNat=false:=(by simpa using D);have X:=gd (I.out.trans (ZjR s out g k R S));clear I D;cases g
    ·have A:out.length<=k:=(by simpa using h);clear h
     go_wp2_with (first|(go_at_call 107;refine (Jn _ _).mono ?_;rintro e w' ⟨rfl,rfl⟩)|(go_at_call 95;refine (Yt _ _ _ _ _ O (by rw[Zw];omega) F).mono ?_;rintro e w' ⟨rfl,Y,H⟩))
     go_roundw
     case rel=>exact ⟨k+1,out++ [s[k]],false,om,by go_num,rfl,by simp;omega,by rw[Zf];exact Y,by simpa using X,J.then H⟩
     case measure=>simp[intOf];omega
    ·have A:out.length+1<=k:=(by simpa using h);clear h
     go_wp2_with fail
     refine (Jn _ _).mono ?_;rintro e w' ⟨rfl,rfl⟩
     go_wp2_with fail
     refine (Yt _ _ _ _ _ O (by rw[Zw];omega) F).mono ?_;rintro e w1 ⟨rfl,Z,V⟩;have U:=(J.then V).size
     go_wp2_with fail
     refine (Yt _ _ _ _ _ Z (by simp[Zw];omega) U).mono ?_;rintro e w2 ⟨rfl,ha,hd⟩
     go_wp2_with fail
     go_roundw
     case rel=>exact ⟨k+1,out++ [32]++ [s[k]],false,om,by go_num,rfl,by simp;omega,by rw[Zf,Zf];exact ha,by simpa using X,(J.then V).then hd⟩
     case measure=>simp[intOf];omega
  ·have hb:k=s.size:=om;have C:coll s.data.toList=out:=(by rw[I.out,Zq3 (by rw[Zb];omega)];rfl);have HF:Hid (str out=collapse s):=(by unfold collapse;rw[C];rfl);clear C I hb
   go_wp2_with (go_at_call 96;refine (Ys _ _ _ _ O F).mono ?_;rintro e w' ⟨rfl,H⟩)
   go_ret;exact ⟨by rw[<-HF.out];rfl,J.then H⟩
theorem ZdI (s:ByteArray) (w:Wq) (U:Env w) (V:s.size<=140737488351232):
 Calls prog 126 #[.string s] w λe w'=>e= .returned (.bool (validS s))/\Ext w w':=by
 have I:s.size<=maxLen:=by unfold maxLen;omega
 have A:=UQ s w U I;obtain ⟨K,hK⟩:∃K,(checkS s).2=K:=⟨_,rfl⟩;obtain ⟨R,H⟩:∃R,collapse s=R:=⟨_,rfl⟩;have C:validS s=(decide (K=0) && (R.data.toList==s.data.toList)):=by unfold validS;rw[hK,H]
 have h:=λw'=>Jr s w' V;rw[hK] at A;rw[H] at h;rw[C];clear C hK H;have O:=gd A;have Q:=gd h;clear A h;by_cases F:K=0
 ·subst F;go_enter func126,ntmps126
  go_wp2_with (first|(go_at_call 114;refine (O.out).mono ?_;rintro e w' ⟨rfl,J⟩)|(go_at_call 62;refine (Q.out _).mono ?_;rintro e w' ⟨rfl,D⟩))
  go_ret;exact ⟨by simp[VI],J.trans D⟩
 ·have X:((K:Int)==0)=false:=by rw[ZqW];omega
  have S:decide (K=0)=false:=by simp[F]
  rw[S];clear S F;go_enter func126,ntmps126
  go_wp2_with (first|(go_at_call 114;refine (O.out).mono ?_;rintro e w' ⟨rfl,J⟩)|(go_at_call 62;refine (Q.out _).mono ?_;rintro e w' ⟨rfl,D⟩))
  go_ret;exact ⟨by simp,J⟩
def encN (r:Nat):List UInt8:=
 if 1114111<r\/(55296<=r/\r<=57343) then []
 else if r<128 then [UInt8.ofNat r]
 else if r<2048 then [UInt8.ofNat (192+r / 64),UInt8.ofNat (128+r % 64)]
 else if r<65536 then [UInt8.ofNat (224+r / 4096),UInt8.ofNat (128+r / 64 % 64),UInt8.ofNat (128+r % 64)]
 else [UInt8.ofNat (240+r / 262144),UInt8.ofNat (128+r / 4096 % 64),UInt8.ofNat (128+r / 64 % 64),UInt8.ofNat (128+r % 64)]
def accStart (n:Nat) (b:Nat):Nat:=if n=2 then b % 32 else if n=3 then b % 16 else if n=4 then b % 8 else b
def acc (n:Nat) (l:List UInt8):Nat->Nat
 |0=>accStart n (l.getD 0 0).toNat
 |i+1=>acc n l i*64+(l.getD (i+1) 0).toNat % 64
def refFrom:Nat->Nat->List UInt8->Nat×Nat
 |0,_,_=>(0,0)
 |k+1,n,l=>if n<=4/\n<=l.length then (if encN (acc n l (n - 1))=l.take n then (acc n l (n - 1),n) else refFrom k (n+1) l) else (0,0)
def refDec (l:List UInt8):Nat×Nat:=refFrom 4 1 l
theorem Z6 (x:UInt8):x.toNat<256:=x.toNat_lt
theorem YL (x:UInt8) (n:Nat) (h:n<256):UInt8.ofNat n=x↔n=x.toNat:=by
 constructor
 ·rintro rfl;simp[Nat.mod_eq_of_lt h]
 ·rintro rfl;simp
theorem ZmH (a:UInt8):encN a.toNat= [a]↔a.toNat<128:=by
 have A:=Z6 a;unfold encN;rw[ZqH om];by_cases h:a.toNat<128
 ·rw[ZqN h];simp[h]
 ·rw[ZqH h,ZqN om];simp[h]
theorem ZpA (a b:UInt8):encN (a.toNat % 32*64+b.toNat % 64)= [a,b]↔(a.toNat / 32=6/\b.toNat / 64=2)/\128<=a.toNat % 32*64+b.toNat % 64:=by
 have A:=Z6 a;have C:=Z6 b;unfold encN;rw[ZqH om];by_cases h:a.toNat % 32*64+b.toNat % 64<128
 ·rw[ZqN h];simp;omega
 ·rw[ZqH h,ZqN om];simp only[Zsw,and_true];rw[YL _ _ om,YL _ _ om];omega
theorem Zqk (a b c:UInt8):encN ((a.toNat % 16*64+b.toNat % 64)*64+c.toNat % 64)= [a,b,c]↔(a.toNat / 16=14/\b.toNat / 64=2/\c.toNat / 64=2)/\
 2048<=(a.toNat % 16*64+b.toNat % 64)*64+c.toNat % 64/\((a.toNat % 16*64+b.toNat % 64)*64+c.toNat % 64<55296\/57344<=(a.toNat % 16*64+b.toNat % 64)*64+c.toNat % 64):=by
 have D:=Z6 a;have F:=Z6 b;have H:=Z6 c;unfold encN;generalize I:(a.toNat % 16*64+b.toNat % 64)*64+c.toNat % 64=r;by_cases A:1114111<r\/(55296<=r/\r<=57343)
 ·rw[ZqN A];simp;omega
 ·rw[ZqH A];by_cases h:r<128
  ·rw[ZqN h];simp;omega
  ·rw[ZqH h];by_cases C:r<2048
   ·rw[ZqN C];simp;omega
   ·rw[ZqH C,ZqN om];simp only[Zsw,and_true];rw[YL _ _ om,YL _ _ om,YL _ _ om];omega
theorem Zqx (a b c d:UInt8):encN (((a.toNat % 8*64+b.toNat % 64)*64+c.toNat % 64)*64+d.toNat % 64)= [a,b,c,d]↔(a.toNat / 8=30/\b.toNat / 64=2/\c.toNat / 64=2/\d.toNat / 64=2)/\
 65536<=((a.toNat % 8*64+b.toNat % 64)*64+c.toNat % 64)*64+d.toNat % 64/\((a.toNat % 8*64+b.toNat % 64)*64+c.toNat % 64)*64+d.toNat % 64<=1114111:=by
 have F:=Z6 a;have H:=Z6 b;have I:=Z6 c;have J:=Z6 d;unfold encN;generalize O:((a.toNat % 8*64+b.toNat % 64)*64+c.toNat % 64)*64+d.toNat % 64=r;by_cases A:1114111<r\/(55296<=r/\r<=57343)
 ·rw[ZqN A];simp;omega
 ·rw[ZqH A];by_cases h:r<128
  ·rw[ZqN h];simp;omega
  ·rw[ZqH h];by_cases C:r<2048
   ·rw[ZqN C];simp;omega
   ·rw[ZqH C];by_cases D:r<65536
    ·rw[ZqN D];simp;omega
    ·rw[ZqH D];simp only[Zsw,and_true];rw[YL _ _ om,YL _ _ om,YL _ _ om,YL _ _ om];omega
theorem Ga (l:List UInt8) (A:l≠ []):refDec l=dec l:=by
 have D:1<=l.length:=Zr3.2 A;unfold dec;rw[ZqH A,Jg]
 match l,A with
 | [a],_=>have h:=Z6 a;simp[refDec,refFrom,acc,accStart,Lib.decodeN,ZmH];split<;>simp;omega
 | [a,b],_=>
  have h:=Z6 a;have C:=Z6 b;simp[refDec,refFrom,acc,accStart,Lib.decodeN,ZmH,ZpA]
  repeat' split
  all_goals (simp at*;try omega)
 | [a,b,c],_=>
  have h:=Z6 a;have C:=Z6 b;have F:=Z6 c;simp[refDec,refFrom,acc,accStart,Lib.decodeN,ZmH,ZpA,Zqk]
  repeat' split
  all_goals (simp at*;try omega)
 |a::b::c::d::t,_=>
  have h:=Z6 a;have C:=Z6 b;have F:=Z6 c;have H:=Z6 d;simp[refDec,refFrom,acc,accStart,Lib.decodeN,ZmH,ZpA,Zqk,Zqx]
  repeat' split
  all_goals (simp at*;try omega)
theorem Vm (w:Wq) (xs:List Int) (n:Nat) (h:xs.length=n):
 (convert 145 9 (.slice (some ⟨w.heap.size,0,none⟩) n n)).run prog (w.alloc (.cells (xs.map (Value.int .u8)).toArray 5))= .ok (.string (strOfNums xs)) (w.alloc (.cells (xs.map (Value.int .u8)).toArray 5)):=by
 refine run_convert_bytes_arg _ _ 5 underlying145 underlying5 _ 0 n n xs h (λi A=> ?_) _ underlying9;have:=ZqJ w (.cells (xs.map (Value.int .u8)).toArray 5);rw[ZrH,Zrc this];simp[ZqL (show i<xs.length by omega),List.getD]
theorem Zph (w:Wq) (a:Int):(convert 145 9 (.slice (some ⟨w.heap.size,0,none⟩) 1 1)).run prog (w.alloc (.cells #[.int .u8 a] 5))= .ok (.string (strOfNums [a])) (w.alloc (.cells #[.int .u8 a] 5)):=Vm w [a] 1 rfl
theorem Zpi (w:Wq) (a b:Int):(convert 145 9 (.slice (some ⟨w.heap.size,0,none⟩) 2 2)).run prog (w.alloc (.cells #[.int .u8 a,.int .u8 b] 5))= .ok (.string (strOfNums [a,b])) (w.alloc (.cells #[.int .u8 a,.int .u8 b] 5)):=Vm w [a,b] 2 rfl
theorem Zqd (w:Wq) (a b c:Int):(convert 145 9 (.slice (some ⟨w.heap.size,0,none⟩) 3 3)).run prog (w.alloc (.cells #[.int .u8 a,.int .u8 b,.int .u8 c] 5))= .ok (.string (strOfNums [a,b,c])) (w.alloc (.cells #[.int .u8 a,.int .u8 b,.int .u8 c] 5)):=Vm w [a,b,c] 3 rfl
theorem Zqe (w:Wq) (a b c d:Int):(convert 145 9 (.slice (some ⟨w.heap.size,0,none⟩) 4 4)).run prog (w.alloc (.cells #[.int .u8 a,.int .u8 b,.int .u8 c,.int .u8 d] 5))= .ok (.string (strOfNums [a,b,c,d])) (w.alloc (.cells #[.int .u8 a,.int .u8 b,.int .u8 c,.int .u8 d] 5)):=Vm w [a,b,c,d] 4 rfl
theorem JY (xs:List Int):strOfNums xs=str (xs.map λn=>UInt8.ofNat n.toNat):=rfl
theorem ZhH (s:ByteArray) (k n:Nat) (m:Int) (C:m=n) (h:k+n<=s.size) (A:Wq):
 (Instr.slice 9 (.string s) (some (nI (k:Nat))) (some (nI ((k:Nat)+m))) none).run prog A= .ok (.string (s.extract k (k+n))) A:=by
 subst C;rw[run_slice_string (P:=prog) (w:=A) 9 s .i64 .i64 _ _ underlying9 om om om];rw[show ((k:Int)+(n:Int)).toNat=k+n by omega,show ((k:Nat):Int).toNat=k by omega]
theorem ZW (s:ByteArray) (k n:Nat):(s.extract k (k+n)).data.toList=(s.data.toList.drop k).take n:=by
 simp[Nat.add_sub_cancel_left]
theorem ZfH (L:List UInt8) (t:ByteArray):((str L).toList==t.toList)=decide (L=t.data.toList):=by
 rw[VI,Zg,ZrG];simp
section
attribute [local go_sem] Zph Zpi Zqd Zqe
theorem GP (r:Nat) (w:Wq) (C:r<4294967296):
 Calls prog 100 #[nI (r:Nat)] w λe w'=>e= .returned (.string (str (encN r)))/\Ext w w':=by
 obtain ⟨L,A⟩:∃L,encN r=L:=⟨_,rfl⟩;rw[A];obtain ⟨x,h⟩:∃x:Int,(r:Int)=x:=⟨_,rfl⟩;rw[h];have I:0<=x:=om
 have J:x<4294967296:=om
 have F:=gd h;have H:=gd C;have D:=gd A;clear h C A;go_enter func100,ntmps100;go_wp2
 all_goals go_ret
 all_goals (refine ⟨ZqS (λl=>Ending.returned (.string l)) ?_,by repeat (first|exact Ext.refl _|apply Ext.alloc)⟩)
 all_goals have h:=F.out
 all_goals (rw[<-D.out];unfold encN)
 all_goals first|(rw[ZqN om];rfl)|(rw[ZqH om,ZqH om,ZqH om,ZqN om];simp only[JY,Zq8,Zrz,show (224+x / 4096).toNat=224+r / 4096 by omega,show (128+x / 64 % 64).toNat=128+r / 64 % 64 by omega,show (128+x % 64).toNat=128+r % 64 by omega])|(rw[ZqH om,ZqH om,ZqH om,ZqH om];simp only[JY,Zq8,Zrz,show (240+x / 262144).toNat=240+r / 262144 by omega,show (128+x / 4096 % 64).toNat=128+r / 4096 % 64 by omega,show (128+x / 64 % 64).toNat=128+r / 64 % 64 by omega,show (128+x % 64).toNat=128+r % 64 by omega])|(rw[ZqH om,ZqN om];simp only[JY,Zq8,Zrz,show x.toNat=r by omega])|(rw[ZqH om,ZqH om,ZqN om];simp only[JY,Zq8,Zrz,show (192+x / 64).toNat=192+r / 64 by omega,show (128+x % 64).toNat=128+r % 64 by omega])
theorem Ja (x:Int) (w:Wq) (A:0<=x) (C:x<4294967296):
 Calls prog 100 #[nI x] w λe w'=>e= .returned (.string (str (encN x.toNat)))/\Ext w w':=by
 have h:=GP x.toNat w om
 rwa [Int.toNat_of_nonneg A] at h
end
theorem Xd (x:UInt8):(x.toNat:Int)<256:=by have:=Z6 x;omega
theorem X5 (s:ByteArray) (k i:Nat) (h:k+i<s.size):(s.data.toList.drop k).getD i 0=s[k+i]:=by
 rw[Zry,List.getElem?_drop,ZqL (by rw[Zb];exact h)];rfl
theorem ZbD (s:ByteArray) (k n:Nat) (H:1<=n) (A:n<=4) (I:k+n<=s.size) (x:Int) (F:acc n (s.data.toList.drop k) (n - 1)=x.toNat)
 (C:dec (s.data.toList.drop k)=refFrom (5 - n) n (s.data.toList.drop k)) (h:((str (encN x.toNat)).toList==(s.extract k (k+n)).toList)=true):dec (s.data.toList.drop k)=(x.toNat,n):=by
 rw[ZfH,ZW,Zrd] at h;obtain ⟨m,D⟩:∃m,5 - n=m+1:=⟨4 - n,om⟩;rw[C,D,refFrom,ZqN ⟨A,by rw[ZqP,Zb];omega⟩,F,ZqN h]
theorem ZfC (s:ByteArray) (k n:Nat) (I:1<=n) (D:n<=4) (J:k+n<=s.size) (x:Int) (H:acc n (s.data.toList.drop k) (n - 1)=x.toNat)
 (C:dec (s.data.toList.drop k)=refFrom (5 - n) n (s.data.toList.drop k)) (A:((str (encN x.toNat)).toList==(s.extract k (k+n)).toList)=false):Hid (dec (s.data.toList.drop k)=refFrom (5 - (n+1)) (n+1) (s.data.toList.drop k)):=by
 rw[ZfH,ZW,Zr0] at A;obtain ⟨m,F⟩:∃m,5 - n=m+1:=⟨4 - n,om⟩;have h:5 - (n+1)=m:=om
 rw[h];rw[F,refFrom,ZqN ⟨D,by rw[ZqP,Zb];omega⟩,H,ZqH A] at C;exact C
theorem XC (s:ByteArray) (k:Nat) (w:Wq) (hk:k<s.size) (hs:s.size<=maxLen):
 Calls prog 52 #[.string s,nI (k:Nat)] w λe w'=>e= .returned (.tuple #[nI ((dec (s.data.toList.drop k)).1:Nat),nI ((dec (s.data.toList.drop k)).2:Nat)])/\Ext w w':=by
 unfold maxLen at hs;have hb:s.data.toList.drop k≠ []:=by intro h;have:=ZqS List.length h;rw[ZqP,Zb] at this;simp at this;omega
 have X:Hid (dec (s.data.toList.drop k)=refFrom 4 1 (s.data.toList.drop k)):=(Ga _ hb).symm;clear hb;obtain ⟨l,S⟩:∃l,s.data.toList.drop k=l:=⟨_,rfl⟩;have Z:=gd S;rw[S] at X|-;clear S;have he:decide (s.size<=k)=false:=by simp;omega
 have hc:decide ((k:Int)<0)=false:=by simp
 go_enter func52,ntmps52;go_wp2;go_loopw [6,7,8] (λv _ _ wr=>∃n:Nat,1<=n/\n<=5/\k+n<=s.size+1/\v=nI n/\Hid (dec l=refFrom (5 - n) n l)/\Ext w wr) (λv _ _ _=>5 - (intOf v).toNat)
 case atStart=>exact ⟨1,om,om,om,rfl,X,Ext.refl _⟩
 case round=>
  obtain ⟨n,h1,h5,hn,rfl,U,R⟩:=hrel;clear X he hc;by_cases ha:n<=4/\k+n<=s.size
  ·obtain ⟨h4,F⟩:=ha;have V:n=1\/n=2\/n=3\/n=4:=om;rcases V with rfl|rfl|rfl|rfl
   ·clear h1 h5 h4 hn;have b0:=Xd (s[k]'(om));have C:Hid (acc 1 (s.data.toList.drop k) (1 - 1)=(s[k].toNat:Int).toNat):=(by show _=_;simp only[acc,accStart,show 1 - 1=0 from rfl,X5 s k 0 om];simp);go_wp2;refine Zsg 1 ?_;rw[rounds_succ];go_wp2;have I:(k:Int)+1<=s.size:=om;have H:0<=(k:Int)+1:=om;have J:(k:Int)<=(k:Int)+1:=om;have O:IntKind.i64.wrap ((k:Int)+1)=(k:Int)+1:=IntWalk.i64_in _ om;have Q:((k:Int)+1).toNat=k+1:=om
    go_region_with (go_at_call 100;refine (Ja _ _ om om).mono ?_;rintro e w' ⟨rfl,D⟩)
    clear I H J O Q;go_wp2
    all_goals have Y:((str (encN (s[k].toNat:Int).toNat)).toList==(s.extract k (k+1)).toList)=true\/((str (encN (s[k].toNat:Int).toNat)).toList==(s.extract k (k+1)).toList)=false:=by first|exact Or.inl ‹_› |exact Or.inr ‹_›
    all_goals have S:=Z.out
    all_goals subst S
    all_goals first|(have A:=ZbD s k 1 om om F _ C.out U.out ‹_›;go_ret2;exact ⟨by rw[A];exact ZbE (by simp only[];omega) rfl,(R.drew).trans D⟩)|(have A:=ZfC s k 1 om om F _ C.out U.out ‹_›;go_roundw;(case rel=>(first|exact ⟨1+1,om,om,om,rfl,A,(R.drew).trans D⟩|((repeat apply Zsb);exact ⟨⟨1+1,om,om,om,rfl,A,(R.drew).trans D⟩,rfl⟩)));(case measure=>simp[intOf]))
   ·clear h1 h5 h4 hn;have b0:=Xd (s[k]'(om));have b1:=Xd (s[k+1]'(om));have C:Hid (acc 2 (s.data.toList.drop k) (2 - 1)=((s[k].toNat:Int) % 32*64+(s[k+1].toNat:Int) % 64).toNat):=(by show _=_;simp only[acc,accStart,show 2 - 1=1 from rfl,X5 s k 0 om,X5 s k 1 om];simp;omega);go_wp2;refine Zsg 2 ?_;rw[rounds_succ];go_wp2;rw[rounds_succ];go_wp2;have I:(k:Int)+2<=s.size:=om;have H:0<=(k:Int)+2:=om;have J:(k:Int)<=(k:Int)+2:=om;have O:IntKind.i64.wrap ((k:Int)+2)=(k:Int)+2:=IntWalk.i64_in _ om;have Q:((k:Int)+2).toNat=k+2:=om
    go_region_with (go_at_call 100;refine (Ja _ _ om om).mono ?_;rintro e w' ⟨rfl,D⟩)
    clear I H J O Q;go_wp2
    all_goals have Y:((str (encN ((s[k].toNat:Int) % 32*64+(s[k+1].toNat:Int) % 64).toNat)).toList==(s.extract k (k+2)).toList)=true\/((str (encN ((s[k].toNat:Int) % 32*64+(s[k+1].toNat:Int) % 64).toNat)).toList==(s.extract k (k+2)).toList)=false:=by first|exact Or.inl ‹_› |exact Or.inr ‹_›
    all_goals have S:=Z.out
    all_goals subst S
    all_goals first|(have A:=ZbD s k 2 om om F _ C.out U.out ‹_›;go_ret2;exact ⟨by rw[A];exact ZbE (by simp only[];omega) rfl,(R.drew).trans D⟩)|(have A:=ZfC s k 2 om om F _ C.out U.out ‹_›;go_roundw;(case rel=>(first|exact ⟨2+1,om,om,om,rfl,A,(R.drew).trans D⟩|((repeat apply Zsb);exact ⟨⟨2+1,om,om,om,rfl,A,(R.drew).trans D⟩,rfl⟩)));(case measure=>simp[intOf]))
   ·clear h1 h5 h4 hn;have b0:=Xd (s[k]'(om));have b1:=Xd (s[k+1]'(om));have b2:=Xd (s[k+2]'(om));have C:Hid (acc 3 (s.data.toList.drop k) (3 - 1)=(((s[k].toNat:Int) % 16*64+(s[k+1].toNat:Int) % 64)*64+(s[k+2].toNat:Int) % 64).toNat):=(by show _=_;simp only[acc,accStart,show 3 - 1=2 from rfl,X5 s k 0 om,X5 s k 1 om,X5 s k 2 om];simp;omega);go_wp2;refine Zsg 3 ?_;rw[rounds_succ];go_wp2;rw[rounds_succ];go_wp2;rw[rounds_succ];go_wp2;have I:(k:Int)+3<=s.size:=om;have H:0<=(k:Int)+3:=om;have J:(k:Int)<=(k:Int)+3:=om;have O:IntKind.i64.wrap ((k:Int)+3)=(k:Int)+3:=IntWalk.i64_in _ om;have Q:((k:Int)+3).toNat=k+3:=om
    go_region_with (go_at_call 100;refine (Ja _ _ om om).mono ?_;rintro e w' ⟨rfl,D⟩)
    clear I H J O Q;go_wp2
    all_goals have Y:((str (encN (((s[k].toNat:Int) % 16*64+(s[k+1].toNat:Int) % 64)*64+(s[k+2].toNat:Int) % 64).toNat)).toList==(s.extract k (k+3)).toList)=true\/((str (encN (((s[k].toNat:Int) % 16*64+(s[k+1].toNat:Int) % 64)*64+(s[k+2].toNat:Int) % 64).toNat)).toList==(s.extract k (k+3)).toList)=false:=by first|exact Or.inl ‹_› |exact Or.inr ‹_›
    all_goals have S:=Z.out
    all_goals subst S
    all_goals first|(have A:=ZbD s k 3 om om F _ C.out U.out ‹_›;go_ret2;exact ⟨by rw[A];exact ZbE (by simp only[];omega) rfl,(R.drew).trans D⟩)|(have A:=ZfC s k 3 om om F _ C.out U.out ‹_›;go_roundw;(case rel=>(first|exact ⟨3+1,om,om,om,rfl,A,(R.drew).trans D⟩|((repeat apply Zsb);exact ⟨⟨3+1,om,om,om,rfl,A,(R.drew).trans D⟩,rfl⟩)));(case measure=>simp[intOf]))
   ·clear h1 h5 h4 hn;have b0:=Xd (s[k]'(om));have b1:=Xd (s[k+1]'(om));have b2:=Xd (s[k+2]'(om));have b3:=Xd (s[k+3]'(om));have C:Hid (acc 4 (s.data.toList.drop k) (4 - 1)=((((s[k].toNat:Int) % 8*64+(s[k+1].toNat:Int) % 64)*64+(s[k+2].toNat:Int) % 64)*64+(s[k+3].toNat:Int) % 64).toNat):=(by show _=_;simp only[acc,accStart,show 4 - 1=3 from rfl,X5 s k 0 om,X5 s k 1 om,X5 s k 2 om,X5 s k 3 om];simp;omega);go_wp2;refine Zsg 4 ?_;rw[rounds_succ];go_wp2;rw[rounds_succ];go_wp2;rw[rounds_succ];go_wp2;rw[rounds_succ];go_wp2;have I:(k:Int)+4<=s.size:=om;have H:0<=(k:Int)+4:=om;have J:(k:Int)<=(k:Int)+4:=om;have O:IntKind.i64.wrap ((k:Int)+4)=(k:Int)+4:=IntWalk.i64_in _ om;have Q:((k:Int)+4).toNat=k+4:=om
    go_region_with (go_at_call 100;refine (Ja _ _ om om).mono ?_;rintro e w' ⟨rfl,D⟩)
    clear I H J O Q;go_wp2
    all_goals have Y:((str (encN ((((s[k].toNat:Int) % 8*64+(s[k+1].toNat:Int) % 64)*64+(s[k+2].toNat:Int) % 64)*64+(s[k+3].toNat:Int) % 64).toNat)).toList==(s.extract k (k+4)).toList)=true\/((str (encN ((((s[k].toNat:Int) % 8*64+(s[k+1].toNat:Int) % 64)*64+(s[k+2].toNat:Int) % 64)*64+(s[k+3].toNat:Int) % 64).toNat)).toList==(s.extract k (k+4)).toList)=false:=by first|exact Or.inl ‹_› |exact Or.inr ‹_›
    all_goals have S:=Z.out
    all_goals subst S
    all_goals first|(have A:=ZbD s k 4 om om F _ C.out U.out ‹_›;go_ret2;exact ⟨by rw[A];exact ZbE (by simp only[];omega) rfl,(R.drew).trans D⟩)|(have A:=ZfC s k 4 om om F _ C.out U.out ‹_›;go_roundw;(case rel=>(first|exact ⟨4+1,om,om,om,rfl,A,(R.drew).trans D⟩|((repeat apply Zsb);exact ⟨⟨4+1,om,om,om,rfl,A,(R.drew).trans D⟩,rfl⟩)));(case measure=>simp[intOf]))
  ·have A:dec l=(0,0):=by
    rw[U.out];have hf:l.length=s.size - k:=(by rw[<-Z.out,ZqP,Zb]);cases h:5 - n with
    |zero=>rfl
    |succ m=>rw[refFrom,ZqH om]
   have HF:=gd A;clear A U;by_cases h6:n=5
   ·subst h6;go_wp2
    all_goals go_ret2
    all_goals exact ⟨by rw[HF.out];rfl,R⟩
   ·have h7:s.size<k+n:=om;clear ha h6;go_wp2
    all_goals go_ret2
    all_goals exact ⟨by rw[HF.out];rfl,R⟩
theorem VD (s:ByteArray) (w:Wq) (hs:s.size<=maxLen):
 Calls prog 99 #[.string s] w λe w'=>e= .returned (.tuple #[nI ((checkS s).1:Nat),nI ((checkS s).2:Nat)])/\Ext w w':=by
 have hd:=hs;unfold maxLen at hs;go_enter func99,ntmps99;go_wp2;go_loopw [4,5,6] (λv _ _ wr=>∃k:Nat,k<=s.size/\v=nI k/\Hid (checkS s=checkGo s.data.toList.length k (s.data.toList.drop k))/\Ext w wr) (λv _ _ _=>s.size - (intOf v).toNat)
 case atStart=>exact ⟨0,ZqO _,rfl,rfl,Ext.refl _⟩
 case round=>
  obtain ⟨k,hk,rfl,U,V⟩:=hrel;by_cases Q:k<s.size
  ·have S:=ZfZ s.data.toList k (by rw[Zb];exact Q);have O:=Xi (s.data.toList.drop k);rw[ZqP,Zb] at O;have C:=XC s k wr Q hd;have H:=U.out.trans S;clear U S;obtain ⟨R,hR⟩:∃R,(dec (s.data.toList.drop k)).1=R:=⟨_,rfl⟩;obtain ⟨K,hK⟩:∃K,(dec (s.data.toList.drop k)).2=K:=⟨_,rfl⟩;rw[hR,hK] at C H;rw[hK] at O;clear hR hK;have X:=gd C;have I:=gd H;clear C H;by_cases Z:K=0
   ·subst Z;have A:=I.out;rw[ZqN rfl] at A;have J:=gd A;clear A I
    go_wp2_with (first|(go_at_call 52;refine (X.out).mono ?_;rintro e w' ⟨rfl,D⟩))
    go_ret2
    exact ⟨by rw[J.out];rfl,V.trans D⟩
   ·have hb:((K:Int)==0)=false:=(by rw[ZqW];omega);by_cases F:isChar R=false
    ·have A:=I.out;rw[ZqH Z,ZqN F] at A;have J:=gd A;clear A I
     go_wp2_with (first|(go_at_call 52;refine (X.out).mono ?_;rintro e w' ⟨rfl,D⟩)|(go_at_call 141;refine (UN _ _).mono ?_;rintro e w' ⟨rfl,rfl⟩))
     go_ret2
     exact ⟨by rw[J.out];rfl,V.trans D⟩
    ·have he:isChar R=true:=(by simpa using F);have Y:Hid (checkS s=checkGo s.data.toList.length (k+K) (s.data.toList.drop (k+K))):=(by have h:=I.out;rw[ZqH Z,ZqH F] at h;exact h);clear I F
     go_wp2_with (first|(go_at_call 52;refine (X.out).mono ?_;rintro e w' ⟨rfl,D⟩)|(go_at_call 141;refine (UN _ _).mono ?_;rintro e w' ⟨rfl,rfl⟩))
     go_roundw
     case rel=>exact ⟨k+K,om,by go_num,Y,V.trans D⟩
     case measure=>simp[intOf];omega
  ·have ha:k=s.size:=om;have A:checkS s=(k,0):=(by rw[U.out,ZdS _ _ (by rw[Zb];omega)]);have J:=gd A;clear A U ha;go_wp2
   go_ret2
   exact ⟨by rw[J.out];rfl,V⟩
theorem JA (l:List UInt8):∀y∈Lib.byteCells l,y.oneCell'=true:=by
 intro y h;simp[Lib.byteCells] at h;obtain ⟨b,_,rfl⟩:=h;rfl
theorem U4 (w:Wq) (base:Nat) (v:Value) (l:List UInt8) (h:w.ownsRow base 5 1 v l.length (Lib.byteCells l)):
 (convert 145 9 v).run prog w= .ok (.string (str l)) w:=by
 rcases h.2 with ⟨rfl,F⟩|⟨g,cap,D,rfl,_⟩
 ·have:l= []:=ZqX F;subst this;exact run_convert_bytes_nil w _ 5 underlying145 underlying5 0 0 _ underlying9
 ·have:=run_convert_bytes_arg (P:=prog) w _ 5 underlying145 underlying5 g 0 l.length cap (l.map λb=>(b.toNat:Int)) (by simp) (λi C=> ?_) 9 underlying9
  ·rw[this];have e:strOfNums (l.map λb=>(b.toNat:Int))=str l:=(by rw[JY,ZsX];refine ZqS str ((List.map_congr_left ?_).trans (List.map_id l));intro x _;simp);rw[e]
  ·have A:=h.cells (g:=g) rfl i (.int .u8 (l[i].toNat)) (by simp[Lib.byteCells,ZqL C]);rw[show (⟨g,0,none⟩:Addr).add i=⟨g,0+i,none⟩ from by unfold Addr.add;split<;>simp_all] at A;rw[A];simp[List.getD,ZqL C]
def gapOf (l:List UInt8) (k:Nat) (out:List UInt8):Bool:=decide (0<k) && isSp (l.getD (k - 1) 0).toNat && !out.isEmpty
theorem ZpF (s:ByteArray) (out:List UInt8) (k:Nat) (A:k<s.size) (h:isSp (s[k].toNat)=true):gapOf s.data.toList (k+1) out= !out.isEmpty:=by
 unfold gapOf;have:s.data.toList.getD (k+1 - 1) 0=s[k]:=by rw[Nat.add_sub_cancel,Zry,ZqL (by rw[Zb];exact A)];rfl
 rw[this,h];simp
theorem Zcq (s:ByteArray) (out:List UInt8) (k:Nat) (A:k<s.size) (h:isSp (s[k].toNat)=false):gapOf s.data.toList (k+1) out=false:=by
 unfold gapOf;have:s.data.toList.getD (k+1 - 1) 0=s[k]:=by rw[Nat.add_sub_cancel,Zry,ZqL (by rw[Zb];exact A)];rfl
 rw[this,h];simp
theorem Xg (s:ByteArray) (w:Wq) (hs:s.size<=140737488351232):
 Calls prog 72 #[.string s] w λe w'=>e= .returned (.string (collapse s))/\Ext w w':=by
 obtain ⟨i0,Y,hb,hd,he⟩:=ZrE Ju;go_enter func72,ntmps72;go_wp2;go_loopw [3,4] (λv i wr=>∃(k:Nat) (out:List UInt8),k<=s.size/\i=nI k/\Hid (out.length+(if gapOf s.data.toList k out then 1 else 0)<=k)/\
  wr.ownsRow w.heap.size 5 1 v out.length (Lib.byteCells out)/\Hid (coll s.data.toList=collGo (s.data.toList.drop k) out (gapOf s.data.toList k out))/\Ext w wr) (λ_ i _=>s.size - (intOf i).toNat)
 case atStart=>exact ⟨0,[],ZqO _,rfl,by show _<=_;simp[gapOf],Zrt _ _ _ _,rfl,Ext.refl _⟩
 case round=>
  obtain ⟨k,out,hk,rfl,H,R,hc,hx⟩:=hrel;have hA:=hx.size;have hw:out.length<=k:=by have:=H.out;omega
  by_cases U:k<s.size
  ·by_cases ha:isSp (s[k]).toNat=true
   ·have V:=gd (hc.out.trans (ZjS s out _ k U ha));rw[<-ZpF s out k U ha] at V;have X:Hid (out.length+(if gapOf s.data.toList (k+1) out then 1 else 0)<=k+1):=(by show _<=_;split<;>omega);clear hc H
    go_wp2_with (go_at_call 103;refine (ZT _ _).mono ?_;rintro e w' ⟨rfl,rfl⟩)
    go_roundw
    case rel=>exact ⟨k+1,out,om,by go_num,X,R,V,hx⟩
    case measure=>simp[intOf];omega
   ·have S:isSp (s[k]).toNat=false:=(by simpa using ha);have hm:=Zcq s;have O:=hc.out.trans (ZjR s out _ k U S);cases hg:gapOf s.data.toList k out
    ·rw[hg] at O;simp only[ZrW,ZsJ,Zrb] at O;rw[<-Zcq s (out++ [s[k]]) k U S] at O;have V:=gd O;have X:Hid ((out++ [s[k]]).length+(if gapOf s.data.toList (k+1) (out++ [s[k]]) then 1 else 0)<=k+1):=(by show _<=_;rw[Zcq s _ k U S];simp;omega);clear hc H O hm ha;have F:=R;obtain ⟨_,A,c,rfl,hu,hq,_,_⟩:=RSl.of_own R;unfold gapOf at hg;have hh:k=0\/(∃j,k=j+1/\isSp (s.data.toList.getD j 0).toNat=false)\/(∃j,k=j+1/\isSp (s.data.toList.getD j 0).toNat=true/\out= []):=by
      cases k with
      |zero=>exact Or.inl rfl
      |succ j=>
       simp at hg;cases h:isSp (s.data.toList.getD j 0).toNat
       ·exact Or.inr (Or.inl ⟨j,rfl,h⟩)
       ·exact Or.inr (Or.inr ⟨j,rfl,h,by simpa using hg (by simpa using h)⟩)
     clear hg;rcases hh with rfl|⟨j,rfl,hj⟩|⟨j,rfl,hj,rfl⟩
     ·go_wp2_with (first|(go_at_call 103;refine (ZT _ _).mono ?_;rintro e w' ⟨rfl,rfl⟩)|(at_builtin;refine Za _ rfl (.tmp 33) (.tmp 37) _ rfl w.heap.size 5 i0 _ 1 1 underlying145 Y hb hd he rfl om _ _ _ rfl (F.alloc _) _ 1 _ rfl (Zj (cs:= [.int .u8 s[0].toNat]) (by simp) (by unfold maxLen;omega)) (JA [s[0]]) (by unfold maxLen;omega) om (by simp;omega) ?_;intro v1 w1 C I J))
      have Q:Ext w w1:=(hx.alloc _).app I (F.alloc _) (ZqE _);have D:w1.ownsRow w.heap.size 5 1 v1 (out++ [s[0]]).length (Lib.byteCells (out++ [s[0]])):=(by rw[Zf,ZqG];exact C);clear I J C;go_wp2;go_roundw
      case rel=>first|exact ⟨0+1,out++ [s[0]],om,by go_num,X,D,V,Q⟩|((repeat apply Zsb);exact ⟨⟨0+1,out++ [s[0]],om,by go_num,X,D,V,Q⟩,rfl⟩)
      case measure=>simp[intOf];omega
     ·have hn:isSp (s[j].toNat)=false:=by rw[<-hj,Zry,ZqL (by rw[Zb];omega)];rfl
      go_wp2_with (first|(go_at_call 103;refine (ZT _ _).mono ?_;rintro e w' ⟨rfl,rfl⟩)|(at_builtin;refine Za _ rfl (.tmp 33) (.tmp 37) _ rfl w.heap.size 5 i0 _ 1 1 underlying145 Y hb hd he rfl om _ _ _ rfl (F.alloc _) _ 1 _ rfl (Zj (cs:= [.int .u8 s[j+1].toNat]) (by simp) (by unfold maxLen;omega)) (JA [s[j+1]]) (by unfold maxLen;omega) om (by simp;omega) ?_;intro v1 w1 C I J))
      have Q:Ext w w1:=(hx.alloc _).app I (F.alloc _) (ZqE _);have D:w1.ownsRow w.heap.size 5 1 v1 (out++ [s[j+1]]).length (Lib.byteCells (out++ [s[j+1]])):=(by rw[Zf,ZqG];exact C);clear I J C;go_wp2;go_roundw
      case rel=>first|exact ⟨j+1+1,out++ [s[j+1]],om,by go_num,X,D,V,Q⟩|((repeat apply Zsb);exact ⟨⟨j+1+1,out++ [s[j+1]],om,by go_num,X,D,V,Q⟩,rfl⟩)
      case measure=>simp[intOf];omega
     ·have hn:isSp (s[j].toNat)=true:=by rw[<-hj,Zry,ZqL (by rw[Zb];omega)];rfl
      go_wp2_with (first|(go_at_call 103;refine (ZT _ _).mono ?_;rintro e w' ⟨rfl,rfl⟩)|(at_builtin;refine Za _ rfl (.tmp 33) (.tmp 37) _ rfl w.heap.size 5 i0 _ 1 1 underlying145 Y hb hd he rfl om _ _ _ rfl (F.alloc _) _ 1 _ rfl (Zj (cs:= [.int .u8 s[j+1].toNat]) (by simp) (by unfold maxLen;omega)) (JA [s[j+1]]) (by unfold maxLen;omega) om (by simp;omega) ?_;intro v1 w1 C I J))
      have Q:Ext w w1:=(hx.alloc _).app I (F.alloc _) (ZqE _);have D:w1.ownsRow w.heap.size 5 1 v1 (([]:List UInt8)++ [s[j+1]]).length (Lib.byteCells (([]:List UInt8)++ [s[j+1]])):=(by rw[Zf,ZqG];exact C);clear I J C;go_wp2;go_roundw
      case rel=>first|exact ⟨j+1+1,([]:List UInt8)++ [s[j+1]],om,by go_num,X,D,V,Q⟩|((repeat apply Zsb);exact ⟨⟨j+1+1,([]:List UInt8)++ [s[j+1]],om,by go_num,X,D,V,Q⟩,rfl⟩)
      case measure=>simp[intOf];omega
    ·rw[hg] at O H;simp only[Zsy] at O H;have ht:=H.out;rw[<-Zcq s (out++ [32]++ [s[k]]) k U S] at O;have V:=gd O;have X:Hid ((out++ [32]++ [s[k]]).length+(if gapOf s.data.toList (k+1) (out++ [32]++ [s[k]]) then 1 else 0)<=k+1):=(by show _<=_;rw[Zcq s _ k U S];simp;omega);clear hc H O hm ha;have F:=R;obtain ⟨_,A,c,rfl,hu,hq,_,_⟩:=RSl.of_own R;unfold gapOf at hg;simp only[ZqZ,Zrd] at hg;obtain ⟨⟨hr,hj⟩,ho⟩:=hg;obtain ⟨j,rfl⟩:∃j,k=j+1:=⟨k - 1,om⟩;rw[Nat.add_sub_cancel] at hj;have hn:isSp (s[j].toNat)=true:=(by rw[<-hj,Zry,ZqL (by rw[Zb];omega)];rfl);have hv:0<out.length:=by
      cases out with
      |nil=>simp at ho
      |cons a t=>simp
     clear hr hj ho
     go_wp2_with (first|(go_at_call 103;refine (ZT _ _).mono ?_;rintro e w' ⟨rfl,rfl⟩)|(at_builtin;refine Za _ rfl (.tmp 30) (.tmp 31) _ rfl w.heap.size 5 i0 _ 1 1 underlying145 Y hb hd he rfl om _ _ _ rfl (F.alloc _) _ 1 _ rfl (Zj (cs:= [.int .u8 32]) (by simp) (by unfold maxLen;omega)) (by intro y hy;simp at hy;subst hy;rfl) (by unfold maxLen;omega) om (by simp;omega) ?_;intro v1 w1 C I J;have hz:w.heap.size<=w1.heap.size:=((hx.alloc _).app I (F.alloc _) (ZqE _)).size)|(at_builtin;refine Za _ rfl (.tmp 33) (.tmp 37) _ rfl w.heap.size 5 i0 _ 1 1 underlying145 Y hb hd he rfl om _ _ _ rfl (C.alloc _) _ 1 _ rfl (Zj (cs:= [.int .u8 s[j+1].toNat]) (by simp) (by unfold maxLen;omega)) (JA [s[j+1]]) (by unfold maxLen;omega) om (by simp;omega) ?_;intro v2 w2 D hl hi))
     have Q:Ext w w1:=(hx.alloc _).app I (F.alloc _) (ZqE _);have hp:Ext w w2:=(Q.alloc _).app hl (C.alloc _) (ZqE _);have Z:w2.ownsRow w.heap.size 5 1 v2 (out++ [32]++ [s[j+1]]).length (Lib.byteCells (out++ [32]++ [s[j+1]])):=(by rw[Zf,Zf,ZqG,ZqG];exact D);clear I J C hl hi D;go_wp2;go_roundw
     case rel=>first|exact ⟨j+1+1,out++ [32]++ [s[j+1]],om,by go_num,X,Z,V,hp⟩|((repeat apply Zsb);exact ⟨⟨j+1+1,out++ [32]++ [s[j+1]],om,by go_num,X,Z,V,hp⟩,rfl⟩)
     case measure=>simp[intOf];omega
  ·have hf:coll s.data.toList=out:=(by rw[hc.out,Zq3 (by rw[Zb];omega)];rfl);have HF:Hid (str out=collapse s):=(by unfold collapse;rw[hf];rfl);have kc:=U4 wr _ _ out R;clear hf hc H;go_wp2;go_ret;exact ⟨by rw[<-HF.out];rfl,hx⟩
def hexD (n:Nat):UInt8:=UInt8.ofNat (if n<10 then 48+n else 87+n)
def escB (c:UInt8):List UInt8:=
 if c.toNat=34\/c.toNat=92 then [92,c]
 else if 32<=c.toNat then []
 else if c.toNat=8 then [92,98] else if c.toNat=12 then [92,102] else if c.toNat=10 then [92,110] else if c.toNat=13 then [92,114] else if c.toNat=9 then [92,116]
 else [92,117,48,48,hexD (c.toNat / 16),hexD (c.toNat % 16)]
def qB (c:UInt8):List UInt8:=if escB c= [] then [c] else escB c
def quoteL (l:List UInt8):List UInt8:=34::(l.flatMap qB++ [34])
def quoteS (s:ByteArray):ByteArray×Nat:=if Lib.validD s.data.toList then (str (quoteL s.data.toList),0) else (str [],5)
def letterN (c:Nat):Nat:=if c=34\/c=92 then c else if c=8 then 98 else if c=9 then 116 else if c=10 then 110 else if c=12 then 102 else if c=13 then 114 else 0
theorem ZaH (c:UInt8) (h:letterN c.toNat≠0):escB c= [92,UInt8.ofNat (letterN c.toNat)]:=by
 unfold letterN at h|-;unfold escB;by_cases A:c.toNat=34\/c.toNat=92
 ·rw[ZqN A,ZqN A];simp
 ·rw[ZqH A] at h|-;rw[ZqH A];have C:c.toNat=8\/c.toNat=9\/c.toNat=10\/c.toNat=12\/c.toNat=13:=by by_cases a:c.toNat=8<;>by_cases b:c.toNat=9<;>by_cases d:c.toNat=10<;>by_cases e:c.toNat=12<;>by_cases f:c.toNat=13<;>simp_all
  rcases C with e|e|e|e|e<;>rw[e]<;>rfl
theorem Zgg (c:UInt8) (h:letterN c.toNat=0) (C:c.toNat<32):escB c= [92,117,48,48,hexD (c.toNat / 16),hexD (c.toNat % 16)]:=by
 unfold letterN at h;unfold escB;by_cases A:c.toNat=34\/c.toNat=92
 ·omega
 ·rw[ZqH A] at h|-;rw[ZqH om];by_cases a:c.toNat=8
  ·rw[ZqN a] at h;omega
  ·rw[ZqH a] at h|-;by_cases b:c.toNat=9
   ·rw[ZqN b] at h;omega
   ·rw[ZqH b] at h;by_cases d:c.toNat=10
    ·rw[ZqN d] at h;omega
    ·rw[ZqH d] at h;by_cases e:c.toNat=12
     ·rw[ZqN e] at h;omega
     ·rw[ZqH e] at h|-;by_cases f:c.toNat=13
      ·rw[ZqN f] at h;omega
      ·rw[ZqH d,ZqH f,ZqH b]
theorem Zgh (c:UInt8):(escB c).length<=6:=by
 unfold escB
 repeat' split
 all_goals simp
theorem ZnT (c:UInt8):(qB c).length<=6:=by
 unfold qB;split
 ·simp
 ·exact Zgh c
theorem ZmU (l:List UInt8):(l.flatMap qB).length<=6*l.length:=by
 induction l with
 |nil=>simp
 |cons c t ih=>have:=ZnT c;simp only[ZrU,ZqG,ZqK];omega
def qPre (l:List UInt8) (k:Nat):List UInt8:=34::(l.take k).flatMap qB
theorem ZeB (s:ByteArray) (k:Nat) (h:k<s.size):qPre s.data.toList (k+1)=qPre s.data.toList k++qB s[k]:=by
 unfold qPre;rw[ZqQ (by rw[Zb];exact h)];simp;rfl
theorem Zhj (l:List UInt8) (k:Nat):(qPre l k).length<=1+6*k:=by
 unfold qPre;have h:=ZmU (l.take k);have A:(l.take k).length<=k:=List.length_take_le _ _;simp only[ZqK];omega
theorem Zhi (l:List UInt8):qPre l l.length++ [34]=quoteL l:=by
 unfold qPre quoteL;simp
def lays196_ren:Go.Shelf.Ren:=⟨fun|196=>232|259=>239|n=>n,fun|9=>9|4=>4|3=>3|5=>5|12=>12|119=>280|0=>0|46=>223|139=>283|138=>282|53=>256|n=>n,fun|3=>0|4=>1|n=>n⟩
theorem lays196:Go.Proofs.Lays.n196 prog lays196_ren:={
 mixed:=by kernel_rfl
 f196:=func232.trans (ZqS some (by kernel_rfl))
 f259:=func239.trans (ZqS some (by kernel_rfl))
 t0:=underlying0
 a0:=isAgg0
 z0:=sizeOf0
 v0:=zeroValue0
 t3:=underlying3
 a3:=isAgg3
 z3:=sizeOf3
 v3:=zeroValue3
 t4:=underlying4
 a4:=isAgg4
 z4:=sizeOf4
 v4:=zeroValue4
 t5:=underlying5
 a5:=isAgg5
 z5:=sizeOf5
 v5:=zeroValue5
 t9:=underlying9
 a9:=isAgg9
 z9:=sizeOf9
 v9:=zeroValue9
 t12:=underlying12
 a12:=isAgg12
 z12:=sizeOf12
 v12:=zeroValue12
 t46:=underlying223
 a46:=isAgg223
 z46:=sizeOf223
 v46:=zeroValue223
 t53:=underlying256
 a53:=isAgg256
 z53:=sizeOf256
 v53:=zeroValue256
 t119:=underlying280
 a119:=isAgg280
 z119:=sizeOf280
 t138:=underlying282
 a138:=isAgg282
 z138:=sizeOf282
 v138:=zeroValue282
 t139:=underlying283
 a139:=isAgg283
 z139:=sizeOf283
 v139:=zeroValue283
 g3:=by kernel_rfl
 g4:=by kernel_rfl}
open Go.RowKit in
theorem utf8_ValidString (s:ByteArray) (w:Wq) (A:s.size<=9223372036854775807) (h:Lib.Utf8Tabs 0 1 w):
 Calls prog 232 #[.string s] w λe w'=>e= .returned (.bool (Lib.validD s.data.toList))/\Below w.heap.size w w':=Any.utf8_ValidString lays196 s w A h
end Go.Proofs.YtmfinhgobjbecaaGreatDoor
