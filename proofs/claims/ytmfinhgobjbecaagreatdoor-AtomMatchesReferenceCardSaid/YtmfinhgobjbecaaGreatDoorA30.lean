/- Parts of the proof: contracts and plain laws. -/
import Derived.Test.YtmfinhgobjbecaaGreatDoorA29
namespace Go.Proofs.YtmfinhgobjbecaaGreatDoor
open Go Go.RowKit _root_.Go.Proofs.Tryz
set_option linter.unusedVariables false
set_option linter.unusedSimpArgs false
set_option maxRecDepth 100000
set_option maxHeartbeats 16000000
section
set_option linter.unusedSimpArgs false
def ComX (n:Nd) (e:Ending):Prop:=match comA n with
 | .error p=>e= .returned (.tuple #[.agg #[.string (str (txtOf idL n)),.string (str (txtOf titleL n)),.string (str (linkN n)),.string ⟨#[]⟩,.int .i64 (-62135596800)],.int .i64 (p.1:Nat),.int .i64 (p.2:Nat)])
 | .ok t=>e= .returned (.tuple #[.agg #[.string (str (txtOf idL n)),.string (str (txtOf titleL n)),.string (str (linkN n)),.string ⟨#[]⟩,.int .i64 t],.int .i64 0,.int .i64 0])
def dstX:Nat->Nat|1=>10|3=>12|5=>14|6=>15|_=>5
def depX:Nat->List Nat|6=> [1,3,5]|_=> []
def FX (I T K:List UInt8) (b:Nat) (i:Nat) (v:Value) (w:World):Prop:=match i with
 |1=>v= .string (str I)
 |3=>v= .string (str T)
 |5=>v= .string (str K)
 |6=>v= .agg #[.string (str I),.string (str T),.string (str K),.string ⟨#[]⟩,.int .i64 (-62135596800)]
 |_=>∃zb,v= .pointer (some ⟨zb,0,none⟩)/\b<=zb/\w.heap[zb]? =some (.cells #[.string ⟨#[]⟩,.string ⟨#[]⟩,.string ⟨#[]⟩,.string ⟨#[]⟩,.int .i64 0] 61 (0,0))
theorem Zpq {I T K:List UInt8} {b:Nat}:∀(i:Nat) (v:Value) (w w':World),FX I T K b i v w->Ext w w'->FX I T K b i v w':=by
 intro i v w w' h F;unfold FX at*;split at h
 ·exact h
 ·exact h
 ·exact h
 ·exact h
 ·obtain ⟨zb,A,C,D⟩:=h;exact ⟨zb,A,C,F.heap D⟩
theorem GI {w:World} {g o:Nat} {cs:Array Value} {T:TypeId} {fr:Nat×Nat} (A:w.heap[g]? =some (.cells cs T fr)) (h:cs.size<=o):w.cell? ⟨g,o,none⟩=none:=by
 rw[Zrc A];exact ZrT h
theorem YU:(prog.info? 61).map (λi=>i.size)=some 5:=by kernel_rfl
theorem GM {a b c e:ByteArray} {t:Int}:(#[Value.string a,.string b,.string c,.string e,.int .i64 t]).all (λu=>u.oneCell')=true:=by simp[Value.oneCell']
theorem ZbY {N M Bd:Nat} (hN:N<=4000000) (hM:M<=1000000) (gB:Bd<=16777216) (x:Nc) (w:World) (h:NcOk w N M x) (gl:comOk N M Bd x.nd):
 Calls prog 31 #[.agg (cellsN x).toArray] w λe w'=>ComX x.nd e/\Ext w w':=by
 have gm:(str (txtOf idL x.nd)).size<=16777216:=by rw[Zo];exact ZqM (gl.txtOf (by decide)) gB
 have hO:=λ(nm:List UInt8) (w':World) (hx:Ext w w')=>(show Calls prog 33 #[.agg (cellsN x).toArray,.string (str atomL),.string (str nm)] w' λe w2=>e= .returned (.string (str (txtOf nm x.nd)))/\Ext w' w2 from GT hN hM x atomL nm w' (h.ext hx));have hg:=hO idL;have hh:=hO titleL;have hB:=λ(w':World) (hx:Ext w w')=>Zht hN x w' (h.ext hx);have hA:=λ(w':World) (hx:Ext w w')=>VE hN x atomL updatedL w' (h.ext hx);simp only[Xo,Ek,Zn4,ZhQ] at hg hh hA;have gN:=gd (λ(y:Nc) (w':World) (hy:NcOk w' N M y)=>Za4 N hN y.nd.ht y w' (ZqE _) hy.fd hy.rd (hy.txt hN hM));have gM:=gd (λ(y:Nd) (hy:y∈kidsE atomL updatedL x.nd)=>(show (str y.txt).size<=16777216 by
  obtain ⟨k1,k2,k3⟩:=Ji hy;rw[Zo];exact ZqM (gl.fl y k1 k2 (by rw[k3];decide)) gB))
 obtain ⟨A,n,c,B,m,d,gD, -, -⟩:=ZR x (RdN.sl h.rd);have hD:x.nd.at_=x.at_:=by cases x;rw[Nc.nd];rfl
 have hp:comA x.nd=(if coll (txtOf idL x.nd)= [] then .error (x.at_,19) else match (kidsE atomL updatedL x.nd).head? with
  |none=> .ok (-62135596800)
  |some k=>match timeP (coll k.txt) with
   |some t=> .ok t
   |none=> .error (k.at_,20)):=by unfold comA;rw[hD];rfl
 rw[gD] at hg hh hB hA|-;obtain ⟨I,hI⟩:∃I,txtOf idL x.nd=I:=⟨_,rfl⟩;obtain ⟨T,hT⟩:∃T,txtOf titleL x.nd=T:=⟨_,rfl⟩;obtain ⟨K,hK⟩:∃K,linkN x.nd=K:=⟨_,rfl⟩;rw[hI] at hp gm;simp only[hI] at hg;simp only[hT] at hh;simp only[hK] at hB;have HI:=gd hI;have HT:=gd hT;have HK:=gd hK;have gy:=gd hg;have gz:=gd hh;have gx:=gd hB;have gf:=gd hA;obtain ⟨W0,h7⟩:∃W0,(w.alloc (.cells #[.int .i64 (x.kind:Nat),.string (str x.space),.string (str x.name),.slice A n c,.slice B m d,.string (str x.text),.int .i64 (x.at_:Nat)] 25)).alloc (.cells #[.string ⟨#[]⟩,.string ⟨#[]⟩,.string ⟨#[]⟩,.string ⟨#[]⟩,.int .i64 0] 61)=W0:=⟨_,rfl⟩;have gK:Ext w W0:=by rw[<-h7];exact ((Ext.refl w).alloc _).alloc _
 have gH:W0.heap[w.heap.size+1]? =some (.cells #[.string ⟨#[]⟩,.string ⟨#[]⟩,.string ⟨#[]⟩,.string ⟨#[]⟩,.int .i64 0] 61 (0,0)):=by rw[<-h7];exact ZI w _ _
 have gC:W0.heap[w.heap.size]? =some (.cells #[.int .i64 (x.kind:Nat),.string (str x.space),.string (str x.name),.slice A n c,.slice B m d,.string (str x.text),.int .i64 (x.at_:Nat)] 25 (0,0)):=by rw[<-h7];exact ((Ext.refl _).alloc _).heap (ZqJ w _)
 have ge:w.heap.size+2<=W0.heap.size:=by rw[<-h7,Zd,Zd];omega
 have hj:=gd gK;have h5:=gd gH;have hl:=gd gC;have gP:=gd ge;have gw:=gd gm;have h3:=gd hp;clear gD h gl gK gH gC ge gm hO hg hh hB hA hI hT hK hp hD;go_enter func31,ntmps31;go_wp2;refine rN ?_;change wpAny _ _ _ _ _ _ _ (World.drew _);have hc:=(Ext.refl W0).drew;refine ZE (λw'=>Ext W0 w') ?_;refine tS 0 (.agg #[.int .i64 (x.kind:Nat),.string (str x.space),.string (str x.name),.slice A n c,.slice B m d,.string (str x.text),.int .i64 (x.at_:Nat)]) rfl (λw' hS=>by have hP:=Ext.heap hS hl.out;obtain ⟨q0,q1,q2,q3,q4,q5,q6⟩:=Zs3 hP;go_simp) hc ?_;refine tS 2 (.agg #[.int .i64 (x.kind:Nat),.string (str x.space),.string (str x.name),.slice A n c,.slice B m d,.string (str x.text),.int .i64 (x.at_:Nat)]) rfl (λw' hS=>by have hP:=Ext.heap hS hl.out;obtain ⟨q0,q1,q2,q3,q4,q5,q6⟩:=Zs3 hP;go_simp) hc ?_;refine tS 4 (.agg #[.int .i64 (x.kind:Nat),.string (str x.space),.string (str x.name),.slice A n c,.slice B m d,.string (str x.text),.int .i64 (x.at_:Nat)]) rfl (λw' hS=>by have hP:=Ext.heap hS hl.out;obtain ⟨q0,q1,q2,q3,q4,q5,q6⟩:=Zs3 hP;go_simp) hc ?_;go_simp;refine Zh3 (m:=1) (f:=5) rfl #[true,true,true,true,true,true,true,true,false] (λa0 a' w'=>∃zb:Nat,a'=(((((a0.put (some 10) (.string (str I))).put (some 12) (.string (str T))).put (some 14) (.string (str K))).put (some 15) (.agg #[.string (str I),.string (str T),.string (str K),.string ⟨#[]⟩,.int .i64 (-62135596800)])).put (some 5) (.pointer (some ⟨zb,0,none⟩)))/\Ext W0 w'/\W0.heap.size<=zb/\w'.heap[zb]? =some (.cells #[.string ⟨#[]⟩,.string ⟨#[]⟩,.string ⟨#[]⟩,.string ⟨#[]⟩,.int .i64 0] 61 (0,0))) ?_ ?_
 ·refine Jy [1,3,5,6,7] dstX depX (FX I T K W0.heap.size) rfl (by kernel_rfl) (by decide) (by decide) (by kernel_rfl) (by decide) (by kernel_rfl) (λi _=>Zpq i) (λw' hx=>hc.trans hx) ?_ ?_
  ·intro i hi A1 w' vs hx U S;have gi:=gd (hj.out.trans (hc.trans hx));have gO:=gd ((hc.trans hx).size);simp only[Zq1,Zri,ZrD] at hi;rcases hi with rfl|rfl|rfl|rfl|rfl
   ·have e1:A1.tmps[9]?.getD undef= .agg #[.int .i64 (x.kind:Nat),.string (str x.space),.string (str x.name),.slice A n c,.slice B m d,.string (str x.text),.int .i64 (x.at_:Nat)]:=YM ((U 9 (by decide)).trans rfl);clear U S hx;refine Jq rfl rfl (λK2 hK=> ?_);go_simp;go_at_call 33;refine ZqD (gy.out w' gi.out) ?_;rintro e V ⟨rfl,hv⟩;exact hK _ _ hv rfl
   ·have e1:A1.tmps[11]?.getD undef= .agg #[.int .i64 (x.kind:Nat),.string (str x.space),.string (str x.name),.slice A n c,.slice B m d,.string (str x.text),.int .i64 (x.at_:Nat)]:=YM ((U 11 (by decide)).trans rfl);clear U S hx;refine Jq rfl rfl (λK2 hK=> ?_);go_simp;go_at_call 33;refine ZqD (gz.out w' gi.out) ?_;rintro e V ⟨rfl,hv⟩;exact hK _ _ hv rfl
   ·have e1:A1.tmps[13]?.getD undef= .agg #[.int .i64 (x.kind:Nat),.string (str x.space),.string (str x.name),.slice A n c,.slice B m d,.string (str x.text),.int .i64 (x.at_:Nat)]:=YM ((U 13 (by decide)).trans rfl);clear U S hx;refine Jq rfl rfl (λK2 hK=> ?_);go_simp;go_at_call 71;refine ZqD (gx.out w' gi.out) ?_;rintro e V ⟨rfl,hv⟩;exact hK _ _ hv rfl
   ·obtain ⟨e1,f1⟩:=S 1 (by simp[depX]);obtain ⟨e2,f2⟩:=S 3 (by simp[depX]);obtain ⟨e3,f3⟩:=S 5 (by simp[depX]);have e1:A1.tmps[10]?.getD undef=vs 1:=YM e1;have e2:A1.tmps[12]?.getD undef=vs 3:=YM e2;have e3:A1.tmps[14]?.getD undef=vs 5:=YM e3;have gT:vs 1= .string (str I):=f1;have gU:vs 3= .string (str T):=f2;have gV:vs 5= .string (str K):=f3;rw[gT] at e1;rw[gU] at e2;rw[gV] at e3;clear U S hx f1 f2 f3;refine Jq rfl rfl (λK2 hK=> ?_);go_simp;exact hK _ _ (Ext.refl _) rfl
   ·clear U S hx;refine Jq rfl rfl (λK2 hK=> ?_);go_simp;exact hK _ _ ((Ext.refl w').alloc _) ⟨_,rfl,gO.out,ZqJ w' _⟩
  ·intro vs w' hx hf;have e1':vs 1= .string (str I):=hf 1 (by decide);have e3':vs 3= .string (str T):=hf 3 (by decide);have gQ:vs 5= .string (str K):=hf 5 (by decide);have gR:vs 6= .agg #[.string (str I),.string (str T),.string (str K),.string ⟨#[]⟩,.int .i64 (-62135596800)]:=hf 6 (by decide);obtain ⟨zb,gS,z1,z2⟩:=(show ∃zb,vs 7= .pointer (some ⟨zb,0,none⟩)/\W0.heap.size<=zb/\w'.heap[zb]? =some (.cells #[.string ⟨#[]⟩,.string ⟨#[]⟩,.string ⟨#[]⟩,.string ⟨#[]⟩,.int .i64 0] 61 (0,0)) from hf 7 (by decide));exact ⟨by kernel_rfl,zb,by rw[<-gR,<-e1',<-e3',<-gQ,<-gS];kernel_rfl,hc.trans hx,z1,z2⟩
 rintro a' w3 ⟨zb,rfl,gL,gs,gr⟩;go_simp;refine Zv (i:=8) rfl (by kernel_rfl) (λK2 hK=> ?_);refine Zu rfl 61 (.tmp 5) (.tmp 15) rfl zb #[.string (str I),.string (str T),.string (str K),.string ⟨#[]⟩,.int .i64 (-62135596800)] rfl rfl _ _ gr YU rfl GM ?_;have h9:Ext W0 (w3.setRow zb #[.string (str I),.string (str T),.string (str K),.string ⟨#[]⟩,.int .i64 (-62135596800)]):=gL.setRow gs _;refine hK _ _ h9 ?_;clear hK K2;refine sE ?_;have gb:=ZqV w3 zb _ #[.string (str I),.string (str T),.string (str K),.string ⟨#[]⟩,.int .i64 (-62135596800)] _ _ gr;obtain ⟨W1,gj⟩:∃W1,w3.setRow zb #[.string (str I),.string (str T),.string (str K),.string ⟨#[]⟩,.int .i64 (-62135596800)]=W1:=⟨_,rfl⟩;rw[gj] at h9 gb
 try rw[gj]
 have J:=gd h9;have h4:=gd gb;have h6:Hid (w.heap.size+2<=zb):=gd (ZqM gP.out gs);have k0:=ZqI _ _ 0 _ _ _ gb;have X:=Xg (str I) W1 (ZqM gw.out (by decide));unfold collapse at X;rw[Zg] at X;clear gL gs gr hc h9 gb gj gy gz gx;by_cases hE:coll I= []
 ·have hm:=h3.out;rw[ZqN hE] at hm;have hn:=gd hm;rw[hE] at X;have hL:=gd X;have gZ:=Xh;clear hE X h3 hm gw
  go_wp2_with (first|(go_at_call 72;refine ZqD hL.out ?_;rintro e w4 ⟨rfl,H⟩))
  have F:=(J.out.trans H).heap hl.out;have gE:=H.heap h4.out;have gY:=(J.out.trans H).heap h5.out;have gF:w.heap.size≠w.heap.size+1:=Nat.ne_of_lt (ZrB _);have hV:zb≠w.heap.size+1:=by have:=h6.out;omega
  have hc:=(Ext.refl w4).drew;have hb:w4.drew.heap[w.heap.size]? =some (.cells #[.int .i64 (x.kind:Nat),.string (str x.space),.string (str x.name),.slice A n c,.slice B m d,.string (str x.text),.int .i64 (x.at_:Nat)] 25 (0,0))/\w4.drew.heap[zb]? =some (.cells #[.string (str I),.string (str T),.string (str K),.string ⟨#[]⟩,.int .i64 (-62135596800)] 61 (0,0)):=⟨F,gE⟩;have hQ:w4.drew.heap[w.heap.size+1]? =some (.cells #[.string ⟨#[]⟩,.string ⟨#[]⟩,.string ⟨#[]⟩,.string ⟨#[]⟩,.int .i64 0] 61 (0,0)):=gY;have ho:(w4.drew.setRow (w.heap.size+1) #[.string (str I),.string (str T),.string (str K),.string ⟨#[]⟩,.int .i64 (-62135596800)]).heap[w.heap.size]? =some (.cells #[.int .i64 (x.kind:Nat),.string (str x.space),.string (str x.name),.slice A n c,.slice B m d,.string (str x.text),.int .i64 (x.at_:Nat)] 25 (0,0))/\(w4.drew.setRow (w.heap.size+1) #[.string (str I),.string (str T),.string (str K),.string ⟨#[]⟩,.int .i64 (-62135596800)]).heap[zb]? =some (.cells #[.string (str I),.string (str T),.string (str K),.string ⟨#[]⟩,.int .i64 (-62135596800)] 61 (0,0)):=⟨(Zrn _ _ _ _ gF).trans F,(Zrn _ _ _ _ hV).trans gE⟩;refine rN ?_;change wpAny _ _ _ _ _ _ _ (World.drew _);refine ZE (λw'=>w'.heap[w.heap.size]? =some (.cells #[.int .i64 (x.kind:Nat),.string (str x.space),.string (str x.name),.slice A n c,.slice B m d,.string (str x.text),.int .i64 (x.at_:Nat)] 25 (0,0))/\w'.heap[zb]? =some (.cells #[.string (str I),.string (str T),.string (str K),.string ⟨#[]⟩,.int .i64 (-62135596800)] 61 (0,0))) ?_;refine tS 0 (.agg #[.string (str I),.string (str T),.string (str K),.string ⟨#[]⟩,.int .i64 (-62135596800)]) rfl (λw' hS=>by have hq:=And.right hS;obtain ⟨q0,q1,q2,q3,q4⟩:=Zs4 hq;go_simp) hb ?_;refine tG 1 (.pointer (some ⟨w.heap.size,6,none⟩)) hb ?_;refine tS 2 (.int .i64 (x.at_:Nat)) rfl (λw' hS=>by have hq:=ZqI _ _ 6 _ _ _ (And.left hS);go_simp) hb ?_;go_simp;refine Zv (i:=3) rfl (by kernel_rfl) (λK2 D=> ?_);refine Zu rfl 61 (.tmp 2) (.tmp 20) rfl (w.heap.size+1) #[.string (str I),.string (str T),.string (str K),.string ⟨#[]⟩,.int .i64 (-62135596800)] rfl rfl _ _ hQ YU rfl GM ?_;refine D _ _ ho ?_;clear D K2;refine Zv (i:=4) rfl (by kernel_rfl) (λK2 D=> ?_);go_simp;refine D _ _ ho ?_;clear D K2;refine Zv (i:=5) rfl (by kernel_rfl) (λK2 D=> ?_);go_simp;refine D _ _ ho ?_;clear D K2;refine sE ?_;go_wp2;((try simp only[Exit.inBlock,Exit.then]);refine ZqT (Zc rfl _ _ _ _ _ _ _ rfl (ZqV _ _ _ _ _ _ hQ) underlying61 rfl YU) rfl ?_);exact ⟨(by unfold ComX;rw[hn.out,HI.out,HT.out,HK.out];rfl),(hj.out.trans (J.out.trans H)).drew.setRow (ZrF _) _⟩
 ·have hL:=gd X;have gZ:=JX hE;have hm:=h3.out;rw[ZqH hE] at hm;have hJ:=gd hm;clear hE X h3 hm;cases hq:kidsE atomL updatedL x.nd with
  |nil=>
   have he:=hJ.out;rw[hq] at he;have ha:comA x.nd= .ok (-62135596800):=he;have hn:=gd ha;have HQ:=gd hq;clear hq he ha hJ
   go_wp2_with (first|(refine ZqF rfl 61 (.tmp 2) (.tmp 46) rfl (w.heap.size+1) #[.string (str I),.string (str T),.string (str K),.string ⟨#[]⟩,.int .i64 (-62135596800)] rfl rfl _ _ gI YU rfl GM ?_)|(go_at_call 32;have hz:=gf.out _ (hj.out.trans (J.out.trans H));refine ZqD hz ?_;clear hz;rintro e w5 ⟨KA,kc,l,rfl,hR,hW⟩;obtain ⟨hs,hr,C,hk⟩:=hR;rw[HQ.out] at C;obtain rfl:l= []:=List.map_eq_nil_iff.1 C;have Q:=H.trans hW;have hF:=Q.heap h4.out;have gI:=(J.out.trans Q).heap h5.out;have k0:=ZqI _ _ 0 _ _ _ hF;have k1:=ZqI _ _ 1 _ _ _ hF;have k2:=ZqI _ _ 2 _ _ _ hF;have k3:=ZqI _ _ 3 _ _ _ hF;have k4:=ZqI _ _ 4 _ _ _ hF;clear hF hs hr C hk d0 d1 d2 d3 d4 d5 d6)|(go_at_call 72;refine ZqD hL.out ?_;rintro e w4 ⟨rfl,H⟩;have F:=(J.out.trans H).heap hl.out;have d0:=ZqI _ _ 0 _ _ _ F;have d1:=ZqI _ _ 1 _ _ _ F;have d2:=ZqI _ _ 2 _ _ _ F;have d3:=ZqI _ _ 3 _ _ _ F;have d4:=ZqI _ _ 4 _ _ _ F;have d5:=ZqI _ _ 5 _ _ _ F;have d6:=ZqI _ _ 6 _ _ _ F;clear k0 F))
   ((try simp only[Exit.inBlock,Exit.then]);refine ZqT (Zc rfl _ _ _ _ _ _ _ rfl (ZqV _ _ _ _ _ _ gI) underlying61 rfl YU) rfl ?_);exact ⟨(by unfold ComX;rw[hn.out,HI.out,HT.out,HK.out];rfl),(hj.out.trans (J.out.trans Q)).setRow (ZrF _) _⟩
  |cons kd tl=>
   have he:=hJ.out;rw[hq] at he;have ha:comA x.nd=(match timeP (coll kd.txt) with
    |some t=> .ok t
    |none=> .error (kd.at_,20)):=he
   have ga:=gM.out kd (by rw[hq];exact Zq6);have HQ:=gd hq;have gA:=gd (λ(y:Nc) (w':World) (hy:NcOk w' N M y) (hd:y.nd=kd)=>(show Calls prog 74 #[.agg (cellsN y).toArray] w' λe w2=>e= .returned (.string (str kd.txt))/\Ext w' w2 from by
    have h:=gN.out y w' hy;rw[hd] at h;exact h))
   have go:(str (coll kd.txt)).size<=16777216:=(by have:=ZO (str kd.txt);unfold collapse at this;rw[Zg] at this;exact ZqM this ga);have gu:=gd (λ(w':World)=>(show Calls prog 72 #[.string (str kd.txt)] w' λe w2=>e= .returned (.string (str (coll kd.txt)))/\Ext w' w2 from by
    have h:=Xg (str kd.txt) w' (ZqM ga (by decide));unfold collapse at h;rw[Zg] at h;exact h))
   have R:=λ(w':World)=>Zhu (str (coll kd.txt)) w' go;unfold TimeR at R;rw[Zg] at R;cases htp:timeP (coll kd.txt) with
   |none=>
    rw[htp] at ha R;have hH:comA x.nd= .error (kd.at_,20):=ha;have hn:=gd hH;have gg:=gd R;clear hq he ha hH hJ go ga htp R
    go_wp2_with (first|(go_at_call 73;(refine ZqD (gg.out _) ?_);rintro e w8 ⟨⟨q,gX,rfl⟩,g0⟩;subst w8;(have g4:((q:Int) !=0)=true:=by simpa using gX);have hC:=gp.trans gq)|(go_at_call 72;(with_reducible refine ZqD (gu.out _) ?_);rintro e w7 ⟨rfl,gq⟩)|(go_at_call 74;refine ZqD gh.out ?_;rintro e w6 ⟨rfl,gp⟩)|(go_at_call 32;have hz:=gf.out _ (hj.out.trans (J.out.trans H));refine ZqD hz ?_;clear hz;rintro e w5 ⟨KA,kc,l,rfl,hR,hW⟩;obtain ⟨hs,hr,C,hk⟩:=hR;rw[HQ.out] at C;(obtain ⟨y,l',rfl,hd⟩:∃y l',l=y::l'/\y.nd=kd:=by cases l with|nil=>cases C|cons y l'=>(rw[Zq8] at C;injection C with h1 h2;exact ⟨y,l',rfl,h1⟩));have hy:=hr y Zq6;obtain ⟨YA,ym,yc,YB,g2,yd,h0,hY,hZ⟩:=ZR y (RdN.sl hy.rd);obtain ⟨ad,c',hw,hD⟩:=RNs.at hs (k:=0) (Nat.zero_lt_succ _);(injection hw with hv1 hw hv3);subst hv1;obtain ⟨a0,a1,a2,a3,a4,a5,a6⟩:=hD;(simp only[Zsk,Zsl,add_zero] at a0 a1 a2 a3 a4 a5 a6);rw[hY] at a3;rw[hZ] at a4;(have Y:(y.at_:Nat)=kd.at_:=by rw[<-hd];cases y;rw[Nc.nd];rfl);rw[Y] at a6;have gt:=gd (λ(w':World) (O:Ext w5 w')=>(⟨O.cell a0,O.cell a1,O.cell a2,O.cell a3,O.cell a4,O.cell a5,O.cell a6⟩:_/\_/\_/\_/\_/\_/\_));have hu:=gA.out y w5 hy hd;rw[h0,Y] at hu;have gh:=gd hu;(have gn:0<(y::l').length:=by rw[ZqK];omega);obtain ⟨ln,hU⟩:∃ln,(y::l').length=ln:=⟨_,rfl⟩;rw[hU] at gn|-;(have gc:(0:Int)<(ln:Int):=om);have Q:=H.trans hW;clear hw hv3 hs hr C hk hy h0 hY hZ hu hU hd Y d0 d1 d2 d3 d4 d5 d6)|(go_at_call 72;(with_reducible refine ZqD hL.out ?_);rintro e w4 ⟨rfl,H⟩;have F:=(J.out.trans H).heap hl.out;obtain ⟨d0,d1,d2,d3,d4,d5,d6⟩:=Zs3 F;clear k0 F))
    have hG:=(Q.trans hC).heap h4.out;have h8:=(J.out.trans (Q.trans hC)).heap h5.out;obtain ⟨s0,s1,s2,s3,s4,s5,s6⟩:=gt.out _ hC;have hV:zb≠w.heap.size+1:=(by have:=h6.out;omega);have gG:ad.block≠w.heap.size+1:=λe=>(by rw[e,GI h8 (by show 5<=ad.off+6;omega)] at s6;cases s6);have hb:w7.drew.heap[zb]? =some (.cells #[.string (str I),.string (str T),.string (str K),.string ⟨#[]⟩,.int .i64 (-62135596800)] 61 (0,0))/\w7.drew.cell? ⟨ad.block,ad.off+6,none⟩=some (.int .i64 (kd.at_:Nat)):=⟨hG,s6⟩;have hQ:w7.drew.heap[w.heap.size+1]? =some (.cells #[.string ⟨#[]⟩,.string ⟨#[]⟩,.string ⟨#[]⟩,.string ⟨#[]⟩,.int .i64 0] 61 (0,0)):=h8;have ho:(w7.drew.setRow (w.heap.size+1) #[.string (str I),.string (str T),.string (str K),.string ⟨#[]⟩,.int .i64 (-62135596800)]).heap[zb]? =some (.cells #[.string (str I),.string (str T),.string (str K),.string ⟨#[]⟩,.int .i64 (-62135596800)] 61 (0,0))/\(w7.drew.setRow (w.heap.size+1) #[.string (str I),.string (str T),.string (str K),.string ⟨#[]⟩,.int .i64 (-62135596800)]).cell? ⟨ad.block,ad.off+6,none⟩=some (.int .i64 (kd.at_:Nat)):=⟨(Zrn _ _ _ _ hV).trans hG,(Zrs (a:=⟨ad.block,ad.off+6,none⟩) (Zrn _ _ _ _ gG)).trans s6⟩;have g3:(0:Int)<(ln:Int):=gc;refine rN ?_;change wpAny _ _ _ _ _ _ _ (World.drew _);refine ZE (λw'=>w'.heap[zb]? =some (.cells #[.string (str I),.string (str T),.string (str K),.string ⟨#[]⟩,.int .i64 (-62135596800)] 61 (0,0))/\w'.cell? ⟨ad.block,ad.off+6,none⟩=some (.int .i64 (kd.at_:Nat))) ?_;refine tS 0 (.agg #[.string (str I),.string (str T),.string (str K),.string ⟨#[]⟩,.int .i64 (-62135596800)]) rfl (λw' hS=>by have hq:=And.left hS;obtain ⟨q0,q1,q2,q3,q4⟩:=Zs4 hq;go_simp) hb ?_;refine tG 1 (.slice (some ad) ln kc) hb ?_;refine tG 2 (.pointer (some ad)) hb ?_;refine tG 3 (.pointer (some ⟨ad.block,ad.off+6,none⟩)) hb ?_;refine tS 4 (.int .i64 (kd.at_:Nat)) rfl (λw' hS=>by have hq:=And.right hS;go_simp) hb ?_;go_simp;refine Zv (i:=5) rfl (by kernel_rfl) (λK2 D=> ?_);refine Zu rfl 61 (.tmp 2) (.tmp 39) rfl (w.heap.size+1) #[.string (str I),.string (str T),.string (str K),.string ⟨#[]⟩,.int .i64 (-62135596800)] rfl rfl _ _ hQ YU rfl GM ?_;refine D _ _ ho ?_;clear D K2;refine Zv (i:=6) rfl (by kernel_rfl) (λK2 D=> ?_);go_simp;refine D _ _ ho ?_;clear D K2;refine Zv (i:=7) rfl (by kernel_rfl) (λK2 D=> ?_);go_simp;refine D _ _ ho ?_;clear D K2;refine sE ?_;go_wp2;((try simp only[Exit.inBlock,Exit.then]);refine ZqT (Zc rfl _ _ _ _ _ _ _ rfl (ZqV _ _ _ _ _ _ hQ) underlying61 rfl YU) rfl ?_);exact ⟨(by unfold ComX;rw[hn.out,HI.out,HT.out,HK.out];rfl),(hj.out.trans (J.out.trans (Q.trans hC))).drew.setRow (ZrF _) _⟩
   |some t=>
    rw[htp] at ha R;have hH:comA x.nd= .ok t:=ha;have hn:=gd hH;have gg:=gd R;clear hq he ha hH hJ go ga htp R
    go_wp2_with (first|(refine ZqF rfl 61 (.tmp 2) (.tmp 46) rfl (w.heap.size+1) #[.string (str I),.string (str T),.string (str K),.string ⟨#[]⟩,.int .i64 t] rfl rfl _ _ gJ YU rfl GM ?_)|(go_at_call 73;(refine ZqD (gg.out _) ?_);rintro e w8 ⟨rfl,g0⟩;subst w8;have hX:=Q.trans (gp.trans gq);have hG:=hX.heap h4.out;have h8:=(J.out.trans hX).heap h5.out;have k4:=ZqI _ _ 4 _ _ _ hG;have f4:=Zrk hG 4;obtain ⟨W9,gk⟩:∃Z,w7.setCell ⟨zb,4,none⟩ (.int .i64 t)=Z:=⟨_,rfl⟩;(have gW:W9.heap[zb]? =some (.cells #[.string (str I),.string (str T),.string (str K),.string ⟨#[]⟩,.int .i64 t] 61 (0,0)):=by rw[<-gk];exact Zrh _ _ _ _ _ _ hG);(have gJ:W9.heap[w.heap.size+1]? =some (.cells #[.string ⟨#[]⟩,.string ⟨#[]⟩,.string ⟨#[]⟩,.string ⟨#[]⟩,.int .i64 0] 61 (0,0)):=by rw[<-gk];exact Bar.heap (Bar.setCell w7 ⟨zb,4,none⟩ _) h8 (by show w.heap.size+1≠zb;have:=h6.out;omega));(have g1:Ext w W9:=by rw[<-gk];exact (hj.out.trans (J.out.trans hX)).setCell (by show w.heap.size<=zb;have:=h6.out;omega) _);obtain ⟨n0,n1,n2,n3,n4⟩:=Zs4 gW)|(go_at_call 72;(with_reducible refine ZqD (gu.out _) ?_);rintro e w7 ⟨rfl,gq⟩)|(go_at_call 74;refine ZqD gh.out ?_;rintro e w6 ⟨rfl,gp⟩)|(go_at_call 32;have hz:=gf.out _ (hj.out.trans (J.out.trans H));refine ZqD hz ?_;clear hz;rintro e w5 ⟨KA,kc,l,rfl,hR,hW⟩;obtain ⟨hs,hr,C,hk⟩:=hR;rw[HQ.out] at C;(obtain ⟨y,l',rfl,hd⟩:∃y l',l=y::l'/\y.nd=kd:=by cases l with|nil=>cases C|cons y l'=>(rw[Zq8] at C;injection C with h1 h2;exact ⟨y,l',rfl,h1⟩));have hy:=hr y Zq6;obtain ⟨YA,ym,yc,YB,g2,yd,h0,hY,hZ⟩:=ZR y (RdN.sl hy.rd);obtain ⟨ad,c',hw,hD⟩:=RNs.at hs (k:=0) (Nat.zero_lt_succ _);(injection hw with hv1 hw hv3);subst hv1;obtain ⟨a0,a1,a2,a3,a4,a5,a6⟩:=hD;(simp only[Zsk,Zsl,add_zero] at a0 a1 a2 a3 a4 a5 a6);rw[hY] at a3;rw[hZ] at a4;(have Y:(y.at_:Nat)=kd.at_:=by rw[<-hd];cases y;rw[Nc.nd];rfl);rw[Y] at a6;have gt:=gd (λ(w':World) (O:Ext w5 w')=>(⟨O.cell a0,O.cell a1,O.cell a2,O.cell a3,O.cell a4,O.cell a5,O.cell a6⟩:_/\_/\_/\_/\_/\_/\_));have hu:=gA.out y w5 hy hd;rw[h0,Y] at hu;have gh:=gd hu;(have gn:0<(y::l').length:=by rw[ZqK];omega);obtain ⟨ln,hU⟩:∃ln,(y::l').length=ln:=⟨_,rfl⟩;rw[hU] at gn|-;(have gc:(0:Int)<(ln:Int):=om);have Q:=H.trans hW;clear hw hv3 hs hr C hk hy h0 hY hZ hu hU hd Y d0 d1 d2 d3 d4 d5 d6)|(go_at_call 72;(with_reducible refine ZqD hL.out ?_);rintro e w4 ⟨rfl,H⟩;have F:=(J.out.trans H).heap hl.out;obtain ⟨d0,d1,d2,d3,d4,d5,d6⟩:=Zs3 F;clear k0 F))
    ((try simp only[Exit.inBlock,Exit.then]);refine ZqT (Zc rfl _ _ _ _ #[.string (str I),.string (str T),.string (str K),.string ⟨#[]⟩,.int .i64 t] _ _ rfl (ZqV _ _ _ _ _ _ gJ) underlying61 rfl YU) rfl ?_);exact ⟨(by unfold ComX;rw[hn.out,HI.out,HT.out,HK.out];rfl),g1.setRow (ZrF _) _⟩
end
theorem ZdD (w:World) (g i:Nat) (u v:Value):(w.setCell ⟨g,i,none⟩ u).setCell ⟨g,i,none⟩ v=w.setCell ⟨g,i,none⟩ v:=by
 unfold World.setCell
 congr 1
 apply Array.ext_getElem?;intro k;simp only[Zr6];by_cases h:g=k
 ·rw[ZqN h,ZqN h,ZqN h,Option.map_map]
  congr 1
  funext o;cases o<;>simp
 ·rw[ZqH h,ZqH h,ZqH h]
theorem Ee (w:World) (g i:Nat) (v:Value) (h:w.cell? ⟨g,i,none⟩=some v):w.setCell ⟨g,i,none⟩ v=w:=by
 have F:(w.setCell ⟨g,i,none⟩ v).heap=w.heap:=by
  apply Array.ext_getElem?;intro k;by_cases D:k=g
  ·subst D;cases ho:w.heap[k]? with
   |none=>simp[World.setCell,Zr6,ho]
   |some o=>
    cases o with
    |cells c e fr=>
     have A:c[i]? =some v:=(by rw[ZqI _ _ _ _ _ _ ho] at h;exact h);have e1:c.setIfInBounds i v=c:=by
      apply Array.ext_getElem?;intro j;rw[Array.getElem?_setIfInBounds];by_cases C:i=j
      ·subst C;rw[ZqN rfl,ZqN (Zrg.1 A).1,A]
      ·rw[ZqH C]
     rw[setCell_eq_setRow w k i c e fr v ho,ZqV w k c _ e fr ho,e1]
    |_=>simp[World.setCell,Zr6,ho]
  ·exact ZrN w ⟨g,i,none⟩ k v D
 have e2:w.setCell ⟨g,i,none⟩ v={w with heap:=(w.setCell ⟨g,i,none⟩ v).heap}:=rfl;rw[e2,F]
theorem IK {a b:World} {g i:Nat} {u v:Value} (h:Ext (a.setCell ⟨g,i,none⟩ u) b):Ext (a.setCell ⟨g,i,none⟩ v) (b.setCell ⟨g,i,none⟩ v):=by
 have C:Below a.heap.size (a.setCell ⟨g,i,none⟩ u) b:=by
  have e:(a.setCell ⟨g,i,none⟩ u).heap.size=a.heap.size:=by simp[World.setCell]
  unfold Ext at h
  rwa [e] at h
 have A:=Ext.setBoth C ⟨g,i,none⟩ v;rw[ZdD] at A;have e2:(a.setCell ⟨g,i,none⟩ v).heap.size=a.heap.size:=by simp[World.setCell]
 unfold Ext;rw[e2];exact A
section
theorem Vd (l:List ByteArray):∀u∈l.map Value.string,u.oneCell'=true:=by
 intro u h;obtain ⟨s,_,rfl⟩:=Zrr.1 h;rfl
def toldQ (R:Act->World->Prop):Exit->Act->World->Prop
 | .normal,a',w'=>R a' w'
 |_,_,_=>False
theorem Zpg {P:Program} {c:Code} {Q:Exit->Act->World->Prop} {a:Act} {w:World} (R:Act->Act->World->Prop) (A:∀a' w',R a a' w'->Q .normal a' w') (C:c.wp P (toldQ (R a)) a w):c.wp P Q a w:=
 Code.wp_mono (λe a' w' h=>by cases e<;>first|exact A a' w' h|exact h.elim) C
theorem ZnQ (W:World) {a b c:ByteArray}:((W.drew.alloc (.cells #[.string a,.string b,.string c] 9)).alloc (.cells #[] 9)).ownsRow W.heap.size 9 1 (.slice (some ⟨W.heap.size+1,0,none⟩) 0 0) 0 []:=by
 have h:=Y9 (w:=W.drew.alloc (.cells #[.string a,.string b,.string c] 9)) (base:=W.heap.size) (e:=9) (size:=1) (n:=0) (cs:= []) (by rw[Zd];exact ZrF _) rfl (by decide);rw[Zd] at h;exact h
theorem Zqo (W:World) (a b c:ByteArray) {O:Obj}:RSl ((W.drew.alloc O).alloc (.cells #[.string a,.string b,.string c] 9)) 1 (.slice (some ⟨W.heap.size+1,0,none⟩) 3 3) 3 [.string a,.string b,.string c]:=by
 have h:=Zj (w:=W.drew.alloc O) (size:=1) (n:=3) (e:=9) (cs:= [.string a,.string b,.string c]) rfl (by decide);rw[Zd] at h;exact h
theorem Zqp (W:World) (a b c:ByteArray) {O:Obj}:RSl ((W.drew.alloc (.cells #[.string a,.string b,.string c] 9)).alloc O) 1 (.slice (some ⟨W.heap.size,0,none⟩) 3 3) 3 [.string a,.string b,.string c]:=
 (Zj (w:=W.drew) (size:=1) (n:=3) (e:=9) (cs:= [.string a,.string b,.string c]) rfl (by decide)).ext ((Ext.refl _).alloc _)
theorem Zis {w:World} {B:Nat} {v:Value} {path ents} {a b c:ByteArray} {u:Int} (h:w.ownsRow B 9 1 v (0+path.length+3) (([]++path.map Value.string)++ [.string a,.string b,.string c])):
 RSl w 1 v (path.length+3) ((strsF ⟨path,a,b,c,u,ents⟩).map Value.string):=by
 have h:=RSl.of_own h;unfold strsF;simpa using h
theorem ZaQ (s:ByteArray):s.toList.isEmpty=decide (s=noS):=by
 have A:noS.toList= []:=by rw[ZrC];rfl
 by_cases h:s=noS
 ·subst h;rw[Zrj rfl,A];rfl
 ·rw[Zre h];cases hl:s.toList with
  |nil=>exact absurd (toList_inj (by rw[hl,A])) h
  |cons _ _=>rfl
theorem Zg6 (a:ByteArray) (l:List ByteArray):((collapse a).toList.isEmpty||l.any λp=>(collapse p).toList.isEmpty)=decide (collapse a=noS\/(l.any λp=>decide (collapse p=noS))=true):=by
 have h:(λp:ByteArray=>(collapse p).toList.isEmpty)=λp=>decide (collapse p=noS):=funext λp=>ZaQ _;rw[h,ZaQ,Bool.decide_or,Bool.decide_eq_true]
theorem IP {f:Fd} {n:Nat} (h:headF f=n) (C:n≠0):errF f=n/\normF f=zeroF:=by
 have A:errF f=n:=by unfold errF;rw[h,ZqH C]
 exact ⟨A,by unfold normF;rw[A,ZqH C]⟩
theorem Zk8 {t:Int} (h:inT t=false):t< -62135596800\/253402300799<t:=by
 unfold inT at h;rw[Bool.and_eq_false_iff] at h;rcases h with h|h
 ·have:=of_decide_eq_false h;exact Or.inl om
 ·have:=of_decide_eq_false h;exact Or.inr om
theorem Zm8 {t:Int} (h:inT t=true):¬t< -62135596800/\¬253402300799<t:=by
 unfold inT at h;rw[ZqZ] at h;have A:=Zro h.1;have C:=Zro h.2;exact ⟨om,om⟩
attribute [local go_sem ↓] Go.wp_at_zero Go.wp_at_succ
attribute [local go_sem] calm1
theorem Zjv (x:Fc) (w:World) (hE:Env w) (hk:fokS x.f) (hr:RdC w x):
 Calls prog 34 #[.agg (cellsC x).toArray] w λe w'=>∃y:Fc,e= .returned (.tuple #[.agg (cellsC y).toArray,.int .i64 (errF x.f:Nat)])/\y.f=normF x.f/\RdC w' y/\(∀q,q<w.heap.size->awayC y (some q))/\Ext w w':=by
 obtain ⟨i0,ga,gc,ge,gf⟩:=ZrE Zgx;obtain ⟨F,hF⟩:∃F,x.f=F:=⟨_,rfl⟩;rw[hF];rw[hF] at hk;obtain ⟨EF,gR⟩:∃n,errF F=n:=⟨_,rfl⟩;obtain ⟨NF,gV⟩:∃n,normF F=n:=⟨_,rfl⟩;simp only[gR,gV];have hR:=gd gR;have hT:=gd gV;clear gR gV;have fJ:(strsF F).length=F.path.length+3:=by unfold strsF;simp
 have fO:∀s∈strsF F,s.size<=16777216:=by
  have h2:=hk.1.2;intro s hs;unfold strsF at hs;rcases Zq0.1 hs with hs|hs
  ·have:=Yd hs;omega
  ·simp only[Zq1,Zri,ZrD] at hs;rcases hs with rfl|rfl|rfl<;>omega
 have fk:=gd (λ(w':World) (v:Value) (h:RSl w' 1 v (F.path.length+3) ((strsF F).map Value.string))=>VO v (strsF F) w' (by rw[fJ];exact h) fO);have dC:F.path.length<=16777216:=by have:=hk.1.2;omega
 have gO:Hid (0+F.path.length<=maxLen):=gd (by unfold maxLen;omega);have gN:Hid ((0+F.path.length)*16<=140737488355328):=gd om;have gH:Hid (0+F.path.length+3<=maxLen):=gd (by unfold maxLen;omega);have gF:Hid ((0+F.path.length+3)*16<=140737488355328):=gd om;have g6:=hr.1;have dd:=hr.sl;rw[hF] at g6;have ft:=gd hr.2;have HK:=gd hk;obtain ⟨EC,gQ⟩:∃n,firstErr (strsF F)=n:=⟨_,rfl⟩;rw[gQ] at fk;have fn:=gd gQ;clear gQ fJ fO hk hr;obtain ⟨xp,dE,⟨A,I,C,H,J,D⟩⟩:=x;obtain ⟨⟨xA,xn,xc,dn⟩,⟨xB,xm,xd,dm⟩⟩:=dd;dsimp only at*;subst dn dm;have dt:=gd hF;subst hF;dsimp only at*;obtain ⟨A',c',e1, -, -⟩:=g6.form;injection e1 with e1 e2 e3;subst e1 e2 e3;have HP:=gd g6;have g7:=ft.out;obtain ⟨B',d',e1, -, -⟩:=g7.form;injection e1 with e1 e2 e3;subst e1 e2 e3;have fZ:=gd g7;clear g7 ft;unfold cellsC fCells;dsimp only;go_enter func34,ntmps34;go_wp2;obtain ⟨W,hW⟩:∃W,W=(w.alloc (.cells #[.slice xA A.length xc,.string I,.string C,.string H,.int .i64 J,.slice xB D.length xd] 32)).alloc (.cells #[.slice none 0 0,.string ⟨#[]⟩,.string ⟨#[]⟩,.string ⟨#[]⟩,.int .i64 0,.slice none 0 0] 32):=⟨_,rfl⟩;rw[<-hW];have ht:Ext w W:=by rw[hW];exact ((Ext.refl w).alloc _).alloc _
 have h9:Ext (w.alloc (.cells #[.slice xA A.length xc,.string I,.string C,.string H,.int .i64 J,.slice xB D.length xd] 32)) W:=by rw[hW];exact (Ext.refl _).alloc _
 have gE:W.heap[w.heap.size+1]? =some (.cells #[.slice none 0 0,.string ⟨#[]⟩,.string ⟨#[]⟩,.string ⟨#[]⟩,.int .i64 0,.slice none 0 0] 32):=by rw[hW];exact ZI _ _ _
 have gn:Hid (W.heap.size=w.heap.size+1+1):=gd (by rw[hW];simp only[Zd]);have hQ:Hid (∀w',Ext W w'->w'.cell? ⟨w.heap.size,0,none⟩=some (.slice xA A.length xc)/\w'.cell? ⟨w.heap.size,1,none⟩=some (.string I)/\w'.cell? ⟨w.heap.size,2,none⟩=some (.string C)/\w'.cell? ⟨w.heap.size,3,none⟩=some (.string H)/\w'.cell? ⟨w.heap.size,4,none⟩=some (.int .i64 J)/\w'.cell? ⟨w.heap.size,5,none⟩=some (.slice xB D.length xd)):=gd λw' h=>⟨(h9.trans h).boxed 0 _ rfl,(h9.trans h).boxed 1 _ rfl,(h9.trans h).boxed 2 _ rfl,(h9.trans h).boxed 3 _ rfl,(h9.trans h).boxed 4 _ rfl,(h9.trans h).boxed 5 _ rfl⟩;clear hW;refine Zpg (λa0 a' w'=>Ext W w'/\∃v11 fS v21 v22:Value,a'=((((((((((((((a0.put (some 11) v11).put (some 12) (.pointer (some ⟨w.heap.size,0,none⟩))).put (some 13) (.slice xA A.length xc)).put (some 14) fS).put (some 15) (.pointer (some ⟨w.heap.size,1,none⟩))).put (some 16) (.string I)).put (some 17) (.pointer (some ⟨w.heap.size,2,none⟩))).put (some 18) (.string C)).put (some 19) (.pointer (some ⟨w.heap.size,3,none⟩))).put (some 20) (.string H)).put (some 21) v21).put (some 22) v22).put (some 23) (.int .i64 EC)).put (some 4) (.int .i64 EC))) ?_ ?_
 ·rintro _ w1 ⟨gt,v11,fS,v21,v22,rfl⟩;have hZ:=gt.heap gE;have f0:=gd (ht.trans gt);by_cases hL:EC=0
  ·subst hL;have f5:=hQ.out w1 gt;obtain ⟨b0,b1,b2,b3,b4,b5⟩:=f5;have a1:∀d:Aft w1,d.w.cell? ⟨w.heap.size,1,none⟩=some (.string I):=Aft.cell b1;have a2:∀d:Aft w1,d.w.cell? ⟨w.heap.size,2,none⟩=some (.string C):=Aft.cell b2;have a3:∀d:Aft w1,d.w.cell? ⟨w.heap.size,3,none⟩=some (.string H):=Aft.cell b3;have a4:∀d:Aft w1,d.w.cell? ⟨w.heap.size,4,none⟩=some (.int .i64 J):=Aft.cell b4;have s1:I.size<=16777216:=(by have:=HK.out.1.2;simp only at this;omega);have s2:C.size<=16777216:=(by have:=HK.out.1.2;simp only at this;omega);have s3:H.size<=16777216:=(by have:=HK.out.1.2;simp only at this;omega);clear b0 b1 b2 b3 b4 b5;go_wp2;refine Jd 12 (.cells #[.slice none 0 0,.string ⟨#[]⟩,.string ⟨#[]⟩,.string ⟨#[]⟩,.int .i64 0,.slice none 0 0] 32) _ (by kernel_rfl) rfl (by kernel_rfl) (λa w K h=>by go_simp;exact h) ?_
   repeat (refine Xr (λK hK=> ?_);go_simp;first|(refine hK _ ?_;clear hK K)|(apply Zsb;refine ⟨λ_=> ?_,hK _ ?_⟩;(go_at_call 72;exact Qq (KH _ _ (by assumption)));clear hK K))
   refine X0 ?_;intro g c hg gK;refine Vh rfl 32 (.tmp 5) (.tmp 39) rfl g _ rfl rfl _ _ gK Z4 rfl KD ?_;intro W3 gp fx _;have fb:Ext w1 W3:=fx w1 c.ext hg;have gZ:W.heap.size<=g:=ZqM gt.size hg;have g0:g<W3.heap.size:=(Zrg.1 gp).1;obtain ⟨d0,d1,d2,d3,d4,d5⟩:=Zqv gp;clear gK fx a1 a2 a3 a4 s1 s2 s3;have fm:Hid (∀(v:Value) (wr:World),Ext (W3.setCell ⟨g,0,none⟩ v) wr->wr.cell? ⟨g,0,none⟩=some v/\wr.frozen? ⟨g,0,none⟩=false/\Ext W wr):=gd λv wr h=>
    ⟨h.cell (ZsD _ _ _ d0),(Zss h (by simp[World.setCell];exact g0)).trans (by rw[Zse];exact Zrk gp 0),(Ext.setCell (gt.trans fb) gZ _).trans h⟩
   have du:=gd fb;have fV:=gd d0;have gj:=gd g0;have gw:=gd gZ;have HD:Hid (W3.cell? ⟨g,1,none⟩=some (.string (collapse I))/\W3.cell? ⟨g,2,none⟩=some (.string (collapse C))/\W3.cell? ⟨g,3,none⟩=some (.string (collapse H))/\W3.cell? ⟨g,4,none⟩=some (.int .i64 J)/\W3.cell? ⟨g,5,none⟩=some (.slice none 0 0)):=gd ⟨d1,d2,d3,d4,d5⟩;have fh:=gd gp;obtain ⟨mb,fK⟩:∃mb,(collapse I).toList.isEmpty=mb:=⟨_,rfl⟩;have fY:=gd fK;have dr:g≠w.heap.size:=(by have:=gn.out;omega);have ds:g≠w.heap.size+1:=(by have:=gn.out;omega);clear gp fb g0 gZ;go_wp2;clear fK d0 d1 d2 d3 d4 d5;go_loopw [6,7] (λu i wr=>∃(k:Nat) (v:Value),k<=A.length/\i= .int .i64 k/\u= .bool (mb||(A.take k).any λp=>(collapse p).toList.isEmpty)/\wr.ownsRow W3.heap.size 9 1 v k ((A.take k).map λp=>Value.string (collapse p))/\Ext (W3.setCell ⟨g,0,none⟩ v) wr) (λ_ i _=>A.length - (intOf i).toNat)
   case atStart=>exact ⟨0,.slice none 0 0,ZqO _,rfl,by simp,Zrt _ _ _ _,by rw[Ee _ _ _ _ fV.out];exact Ext.refl _⟩
   case round=>
    obtain ⟨k,v,hk,rfl,rfl,U,hY⟩:=hrel;obtain ⟨ff,fT,h8⟩:=fm.out v wr hY;obtain ⟨b0,b1,b2,b3,b4,b5⟩:=hQ.out wr h8;by_cases hA:k<A.length;obtain ⟨ad,c1,e1,gX⟩:=HP.out.at hA;have hc:=(ht.trans h8).cell gX;injection e1 with e1 e1' e1'';subst e1;clear e1' e1'';obtain ⟨vA,vc,hv, -, -⟩:=(RSl.of_own U).2;subst hv;have g9:A[k].size<=16777216:=(by have h1:=Yd (Zq2 hA);have:=HK.out.1.2;simp only at this;omega);have hB:=ZqQ hA;obtain ⟨s,hs⟩:∃s,A[k]=s:=⟨_,rfl⟩;rw[hs] at gX hc g9 hB;obtain ⟨S,hS⟩:∃S,collapse s=S:=⟨_,rfl⟩;have fl:=gd (λw':World=>KH s w' g9);rw[hS] at fl;have fv:=gd hB;have fr:=gd U;have f3:=gd hY;have fG:(0:Int)<=(k:Int):=om;have fH:(k:Int)<(A.length:Int):=om;have fp:Hid (k+1<=maxLen):=gd (by unfold maxLen;omega);have fi:Hid ((k+1)*16<=140737488355328):=gd om;have f6:W3.heap.size<=wr.heap.size:=(by have:=hY.size;simpa [World.setCell] using this);have g1:(A.take k).length=k:=(by rw[Zra];omega);have fa:(A.take (k+1)).map (λp=>Value.string (collapse p))=(A.take k).map (λp=>Value.string (collapse p))++ [.string S]:=(by rw[hB,Zrf,<-hS];rfl);have fD:((A.take (k+1)).map λp=>Value.string (collapse p))[k]? =some (.string S):=(by rw[fa,ZrP (by rw[Zq9,g1];exact ZqE _),Zq9,g1,Nat.sub_self];rfl);have gP:Hid (∀(w5:World) (A5:Option Addr) (c5:Nat),w5.ownsRow W3.heap.size 9 1 (.slice A5 (k+1) c5) (k+1) ((A.take k).map (λp=>Value.string (collapse p))++ [.string S])->Ext (W3.setCell ⟨g,0,none⟩ (.slice vA k vc)) w5->
     w5.cell? ⟨g,0,none⟩=some (.slice vA k vc)/\w5.frozen? ⟨g,0,none⟩=false/\∃b5,A5=some b5/\(w5.setCell ⟨g,0,none⟩ (.slice (some b5) (k+1) c5)).cell? ⟨g,0,none⟩=some (.slice (some b5) (k+1) c5)/\(w5.setCell ⟨g,0,none⟩ (.slice (some b5) (k+1) c5)).cell? (b5.add k)=some (.string S)/\
     (w5.setCell ⟨g,0,none⟩ (.slice (some b5) (k+1) c5)).ownsRow W3.heap.size 9 1 (.slice (some b5) (k+1) c5) (k+1) ((A.take (k+1)).map λp=>Value.string (collapse p))/\Ext (W3.setCell ⟨g,0,none⟩ (.slice (some b5) (k+1) c5)) (w5.setCell ⟨g,0,none⟩ (.slice (some b5) (k+1) c5))):=gd λw5 A5 c5 Q hM=>by
     rw[<-fa] at Q
     have gC:=Q.lt
     obtain ⟨p0,pf,dv⟩:=fm.out _ w5 hM
     obtain ⟨b5,gW,f8⟩:=RSl.at1 (RSl.of_own Q) k _ fD
     subst gW
     have fP:(⟨g,0,none⟩:Addr)≠b5.add k:=by
      intro e
      have e1:=ZqS Addr.block e
      rw[Xt] at e1
      have h1:=(gC b5.block rfl).1
      have h2:=gj.out
      simp only at e1
      omega
     exact ⟨p0,pf,b5,rfl,ZsD w5 ⟨g,0,none⟩ (.slice (some b5) (k+1) c5) p0,(ZrS w5 ⟨g,0,none⟩ (b5.add k) (.slice (some b5) (k+1) c5) fP).trans f8,ZsM Q (a:=⟨g,0,none⟩) gj.out (.slice (some b5) (k+1) c5),IK (v:= .slice (some b5) (k+1) c5) hM⟩
    have hI:(mb||(A.take (k+1)).any λp=>(collapse p).toList.isEmpty)=((mb||(A.take k).any λp=>(collapse p).toList.isEmpty)||S.toList.isEmpty):=(by rw[hB,List.any_append,<-hS];simp[Bool.or_assoc]);obtain ⟨M1,gU⟩:∃M1,(mb||(A.take (k+1)).any λp=>(collapse p).toList.isEmpty)=M1:=⟨_,rfl⟩;obtain ⟨M0,gT⟩:∃M0,(mb||(A.take k).any λp=>(collapse p).toList.isEmpty)=M0:=⟨_,rfl⟩;rw[gT] at hI;rw[gT];rw[gU] at hI;have fX:=gd gU;have dq:(k:Int)<(k:Int)+1:=om;clear hs hB g9 U b1 b2 b3 b4 b5 gX g1 fa fD gU gT hS fT hY;cases hem:S.toList.isEmpty;rw[hem,Bool.or_false] at hI
    rotate_left
    rw[hem,Bool.or_true] at hI
    rotate_left
    ·have dc:k=A.length:=om;subst dc;have gb:A.take A.length=A:=Zq4 (ZqE _);rw[gb] at U|-;have gr:=Zg6 I A;rw[fY.out] at gr;rw[gr];have V:headF ⟨A,I,C,H,J,D⟩=if collapse I=noS\/(A.any λp=>decide (collapse p=noS))=true then 19 else if 64<A.length then 9 else if inT J then 0 else 3:=(by unfold headF;rw[fn.out,ZqH (by decide)])
     have gg:=h8.heap gE;have f1:=gd (ht.trans h8);clear gb gr;by_cases hC:collapse I=noS\/(A.any λp=>decide (collapse p=noS))=true
     focus
      have hh:=V
      rw[ZqN hC] at hh
      rw[Zrj hC]
      clear V hC
      obtain ⟨he,hn⟩:=IP hh (by decide)
      have hd:=hR.out.symm.trans he
      have hl:=hT.out.symm.trans hn
      subst hd hl
      clear he hn hh
      go_wp2_with (first|(refine ZqF rfl 32 (.tmp 2) (.tmp 68) rfl (w.heap.size+1) _ rfl rfl _ _ gg Z4 rfl KD ?_))
     rotate_left
     rw[ZqH hC] at V;rw[Zre hC];clear hC;by_cases gz:64<A.length
     focus
      have hh:=V
      rw[ZqN gz] at hh
      have gJ:(64:Int)<(A.length:Int):=om
      clear V gz
      obtain ⟨he,hn⟩:=IP hh (by decide)
      have hd:=hR.out.symm.trans he
      have hl:=hT.out.symm.trans hn
      subst hd hl
      clear he hn hh
      go_wp2_with (first|(refine ZqF rfl 32 (.tmp 2) (.tmp 73) rfl (w.heap.size+1) _ rfl rfl _ _ gg Z4 rfl KD ?_))
     rotate_left
     rw[ZqH gz] at V;have gJ:¬(64:Int)<(A.length:Int):=om;clear gz;cases hti:inT J;have hh:headF ⟨A,I,C,H,J,D⟩=3:=(by rw[V,hti];rfl);have g8:=Zk8 hti;clear V hti;rcases g8 with g8|g8
     focus
      have de:¬253402300799<J:=om
      obtain ⟨he,hn⟩:=IP hh (by decide)
      have hd:=hR.out.symm.trans he
      have hl:=hT.out.symm.trans hn
      subst hd hl
      clear he hn hh
      go_wp2_with (first|(refine ZqF rfl 32 (.tmp 2) (.tmp 82) rfl (w.heap.size+1) _ rfl rfl _ _ gg Z4 rfl KD ?_))
     rotate_left
     focus
      have de:¬J< -62135596800:=om
      obtain ⟨he,hn⟩:=IP hh (by decide)
      have hd:=hR.out.symm.trans he
      have hl:=hT.out.symm.trans hn
      subst hd hl
      clear he hn hh
      go_wp2_with (first|(refine ZqF rfl 32 (.tmp 2) (.tmp 82) rfl (w.heap.size+1) _ rfl rfl _ _ gg Z4 rfl KD ?_))
     rotate_left
     ·have hh:headF ⟨A,I,C,H,J,D⟩=0:=(by rw[V,hti];rfl);obtain ⟨df,dh⟩:=Zm8 hti;have HH:=gd hh;clear V hti hh;obtain ⟨vA,vc,hv, -, -⟩:=(RSl.of_own U).2;subst hv;have gM:=hY.size;have fE:g<wr.heap.size:=(by have h1:=gj.out;simp[World.setCell] at gM;omega);have gh:∀(i:Nat) (u:Value),i≠0->W3.cell? ⟨g,i,none⟩=some u->wr.cell? ⟨g,i,none⟩=some u:=λi u hi hu=>
       hY.cell ((ZrS W3 ⟨g,0,none⟩ ⟨g,i,none⟩ _ (by intro e;exact hi (ZqS Addr.off e).symm)).trans hu)
      have fC:wr.frozen? ⟨g,5,none⟩=false:=(Zss hY (by simp[World.setCell];exact gj.out)).trans (by rw[Zse];exact Zrk fh.out 5);have c5:=gh 5 _ (by decide) HD.out.2.2.2.2;have HC:=gd (Zr9 ff (Zr9 (gh 1 _ (by decide) HD.out.1) (Zr9 (gh 2 _ (by decide) HD.out.2.1) (Zr9 (gh 3 _ (by decide) HD.out.2.2.1) (gh 4 _ (by decide) HD.out.2.2.2.1)))));have gI:=gd U;have fW:=gd fC;have fj:=gd c5;have gk:=gd fE;have f2:=gd h8;have fo:Hid (∀e∈D,eok e):=gd λe he=>HK.out.2.2 e he;have dx:D.length<=1000000:=HK.out.2.1;clear gh gM fC c5 U ff fT;obtain ⟨wP,dk⟩:∃wP:World,wP=wr:=⟨_,rfl⟩;subst dk;go_wp2;clear b0 b1 b2 b3 b4 b5 df dh gJ fE h8 gg;go_loopw [8] (λi wr=>∃(j:Nat) (u:Value),j<=D.length/\i= .int .i64 j/\OEnts wr wP.heap.size u (ordE.canon ((D.take j).map collE))/\Hid (∀e∈D.take j,errE e=0)/\Ext (wP.setCell ⟨g,5,none⟩ u) wr) (λi _=>D.length - (intOf i).toNat)
      case atStart=>exact ⟨0,.slice none 0 0,ZqO _,rfl,show OEnts _ _ _ (ordE.canon []) from OEnts.nil _ _,gd (by simp),by rw[Ee _ _ _ _ fj.out];exact Ext.refl _⟩
      case round=>
       obtain ⟨j,u,hj,rfl,U,h5,hP⟩:=hrel;have q5:=hP.cell (ZsD _ _ _ fj.out);have hf:wr.frozen? ⟨g,5,none⟩=false:=(Zss hP (by simp[World.setCell];exact gk.out)).trans (by rw[Zse];exact fW.out);have hU:Ext W wr:=(Ext.setCell f2.out gw.out _).trans hP;obtain ⟨b0,b1,b2,b3,b4,b5⟩:=hQ.out wr hU;have hws:wP.heap.size<=wr.heap.size:=(by have:=hP.size;simpa [World.setCell] using this);obtain ⟨uA,uc,hu, -, -⟩:=U.reads.form;subst hu;have fF:g<wr.heap.size:=Zrx gk.out hws;by_cases hA:j<D.length
       ·obtain ⟨ad,c1,e1,fz⟩:=(fZ.out.ext (ht.trans hU)).at hA;injection e1 with e1 e1' e1'';subst e1;clear e1' e1'';have hB:=ZqQ hA;have gq:=Zce D j hA h5.out;have gB:=fo.out _ (Zq2 hA);obtain ⟨e,fB⟩:∃e,D[j]=e:=⟨_,rfl⟩;rw[fB] at fz hB gq gB;have fI:eokS e:=(by obtain ⟨_,h⟩:=gB;exact ⟨om,om,om,om⟩);have hm:=gd (λ(w':World) (h:Ext wr w')=>Zfx e w' (hE.ext ((ht.trans hU).trans h)) fI);have fv:=gd hB;have fg:=gd gq;have fG:(0:Int)<=(j:Int):=om;have fH:(j:Int)<(D.length:Int):=om;have fq:Hid (∀x∈ordE.canon ((D.take j).map collE),eok x):=gd λx hx=>(by obtain ⟨y,hy,rfl⟩:=Zrr.1 (ZbT hx);exact Zcd (fo.out y (Zs2 hy)));have fL:(ordE.canon ((D.take j).map collE)).length<=1000000:=(by have h1:=ZdQ ordE ((D.take j).map collE);rw[Zq9,Zra] at h1;omega);have gY:ordE.put (ordE.canon ((D.take j).map collE)) (collE e)=ordE.canon ((D.take (j+1)).map collE):=(by rw[hB,Zrf,Ord.canon_append];rfl);have hL:=Zcd gB;clear hB gq gB fI fB;obtain ⟨a0,a1,a2,a3,a4⟩:=fz;obtain ⟨E,gS⟩:∃E,errE e=E:=⟨_,rfl⟩;rw[gS] at hm fg;have gG:=gd gS;obtain ⟨O,hO⟩:∃O,ordE.canon ((D.take j).map collE)=O:=⟨_,rfl⟩;rw[hO] at U gY fL fq;simp only[hO] at b0 b1 b2 b3 b4 b5 q5|-;have fU:=gd gY;clear hO gY gS;obtain ⟨h7,Y,ha,R,hp⟩:=e;dsimp only at a0 a1 a2 a3 a4;unfold eCells at hm;dsimp only at hm;by_cases gA:E=0
        ·subst gA;have fy:normE ⟨h7,Y,ha,R,hp⟩=collE ⟨h7,Y,ha,R,hp⟩:=(by unfold normE;rw[ZqN gG.out]);rw[fy] at hm;have gi:=gd (λ(w':World) (h:Ext wr w')=>Zjq (.slice uA O.length uc) O (collE ⟨h7,Y,ha,R,hp⟩) w' ((OEnts.reads U).ext h) fq.out hL fL);unfold eCells at gi;unfold collE at hm gi;dsimp only at hm gi;obtain ⟨ni,g3⟩:∃ni,collapse h7=ni:=⟨_,rfl⟩;obtain ⟨nt,g5⟩:∃nt,collapse Y=nt:=⟨_,rfl⟩;obtain ⟨nl,g4⟩:∃nl,collapse ha=nl:=⟨_,rfl⟩;obtain ⟨nc,g2⟩:∃nc,collapse R=nc:=⟨_,rfl⟩;rw[g3,g5,g4,g2] at hm gi;have gx:=gd (Zr9 g3 (Zr9 g5 (Zr9 g4 g2)));clear g3 g5 g4 g2 fy U hL;have gy:=gd hP
         go_wp2_with (first|(go_at_call 77;have hz:=hm.out wr (Ext.refl _);refine ZqD hz ?_;clear hz;rintro e w8 ⟨rfl,fd⟩;have hX:=fd.alloc (.cells #[.string ni,.string nt,.string nl,.string nc,.int .i64 hp] 61);have r5:=hX.cell q5)|(go_at_call 78;go_loud ((have hz:=gi.out _ hX);refine ZqD hz ?_;clear hz;rintro e wA ⟨u',rfl,gs,dl⟩;obtain ⟨zA,zc,dp,_,_⟩:=gs.reads.form;subst dp;have gu:=hX.trans dl;have s5:=gu.cell q5;have sf:=(Zss gu (show g<wr.heap.size from fF)).trans hf)))
         go_roundw
         case rel=>
          have hn:collE ⟨h7,Y,ha,R,hp⟩=⟨ni,nt,nl,nc,hp⟩:=(by unfold collE;rw[gx.out.1,gx.out.2.1,gx.out.2.2.1,gx.out.2.2.2]);have hc:=fU.out;rw[hn] at hc;refine ⟨j+1,_,hA,by go_num,?_,gd λx hx=> ?_,IK (gy.out.trans gu)⟩
          ·rw[<-hc];exact ZsM (OEnts.mono gs (ZqM hws hX.size)) (a:=⟨g,5,none⟩) gk.out _
          ·rw[fv.out] at hx;rcases Zq0.1 hx with hx|hx
           ·exact h5.out x hx
           ·rw[ZqU.1 hx];exact gG.out
         case measure=>simp[intOf];omega
        ·have hb:((E:Int) !=0)=true:=(by simp;omega);have he:errF ⟨A,I,C,H,J,D⟩=E:=(by unfold errF;rw[HH.out,ZqN rfl];exact fg.out gA);have hn:normF ⟨A,I,C,H,J,D⟩=zeroF:=(by unfold normF;rw[he,ZqH gA]);have hd:=hR.out.symm.trans he;have hl:=hT.out.symm.trans hn;have go:=gd hU;subst hd hl;clear he hn gA hU;have hZ:=go.out.heap gE;obtain ⟨N,hN⟩:∃N,normE ⟨h7,Y,ha,R,hp⟩=N:=⟨_,rfl⟩;rw[hN] at hm;clear hN;obtain ⟨ni,nt,nl,nc,nu⟩:=N;dsimp only at hm
         go_wp2_with (first|(go_at_call 77;have hz:=hm.out wr (Ext.refl _);refine ZqD hz ?_;clear hz;rintro e w8 ⟨rfl,fd⟩;have hX:=fd.alloc (.cells #[.string ni,.string nt,.string nl,.string nc,.int .i64 nu] 61);have fR:=hX.heap hZ)|(refine ZqF rfl 32 (.tmp 2) (.tmp 101) rfl (w.heap.size+1) _ rfl rfl _ _ fR Z4 rfl KD ?_))
         ((try simp only[Exit.inBlock,Exit.then]);refine ZqT (Zl rfl _ _ _ _ _ _ _ rfl (ZqV _ _ _ _ _ _ fR) underlying32 rfl Z4) rfl ?_);exact ⟨⟨.slice none 0 0,.slice none 0 0,zeroF⟩,rfl,rfl,⟨RSl.nil _ 1,RSl.nil _ 5⟩,λ_ _=>⟨Or.inl rfl,Or.inl rfl⟩,((ht.trans go.out).trans hX).setRow om _⟩
       ·have db:j=D.length:=om;subst db;have gb:D.take D.length=D:=Zq4 (ZqE _);rw[gb] at U h5;simp only[gb] at q5 hP;have he:errF ⟨A,I,C,H,J,D⟩=0:=(by unfold errF;rw[HH.out,ZqN rfl];exact JM.2 h5.out);have hn:normF ⟨A,I,C,H,J,D⟩=collF ⟨A,I,C,H,J,D⟩:=(by unfold normF;rw[he,ZqN rfl]);have hd:=hR.out.symm.trans he;have hl:=hT.out.symm.trans hn;have go:=gd hU;have gy:=gd hP;have gl:=gd U;subst hd hl;clear he hn hU gb U;have hZ:=go.out.heap gE;have cq:∀(i:Nat) (v:Value),i≠5->wP.cell? ⟨g,i,none⟩=some v->wr.cell? ⟨g,i,none⟩=some v:=λi v hi hv=>
         gy.out.cell ((ZrS wP ⟨g,5,none⟩ ⟨g,i,none⟩ _ (by intro e;exact hi (ZqS Addr.off e).symm)).trans hv)
        have q0:=cq 0 _ (by decide) HC.out.1;have q1:=cq 1 _ (by decide) HC.out.2.1;have q2:=cq 2 _ (by decide) HC.out.2.2.1;have q3:=cq 3 _ (by decide) HC.out.2.2.2.1;have q4:=cq 4 _ (by decide) HC.out.2.2.2.2;obtain ⟨O,hO⟩:∃O,ordE.canon (D.map collE)=O:=⟨_,rfl⟩;rw[hO] at gl;simp only[hO] at q5;have HO:=gd hO;clear hO cq hP
        go_wp2_with (first|(refine ZqF rfl 32 (.tmp 2) (.tmp 108) rfl (w.heap.size+1) _ rfl rfl _ _ hZ Z4 rfl KD ?_))
        ((try simp only[Exit.inBlock,Exit.then]);refine ZqT (Zl rfl _ _ _ _ _ _ _ rfl (ZqV _ _ _ _ _ _ hZ) underlying32 rfl Z4) rfl ?_);have gC:=gI.out.lt;have fA:∀q,q<W3.heap.size->(A.map collapse).map Value.string= []\/(Value.slice vA A.length vc).ownBlock≠some q:=λq hq=>Or.inr λe=>(by have:=(gC q e).1;omega);have fN:RStrs wP (.slice vA A.length vc) (A.map collapse):=(by have h:=RSl.of_own gI.out;unfold RStrs;rw[Zq9,ZsX];exact h);have da:=gj.out;have dj:w.heap.size+1<W3.heap.size:=(by have h1:=gn.out;have h2:=gw.out;omega);have gL:=gl.out.lt;refine ⟨⟨.slice vA A.length vc,.slice uA O.length uc,⟨A.map collapse,collapse I,collapse C,collapse H,J,O⟩⟩,rfl,?_,⟨RSl.grown (RSl.ext (RSl.grown fN (ZY wP ⟨g,5,none⟩ _) (fA g da)) gy.out) (ZG wr (w.heap.size+1) _) (fA _ dj),RSl.grown gl.out.reads (ZG wr (w.heap.size+1) _) (Or.inr λe=>by have h1:=(gL _ e).1;have h2:=gk.out;have h3:=gn.out;have h4:=gw.out;omega)⟩,λq hq=>⟨Or.inr λe=>by have:=(gC q e).1;omega,Or.inr λe=>by have h1:=(gL q e).1;have h2:=gk.out;have h4:=gw.out;have h3:=gn.out;omega⟩,(ht.trans go.out).setRow om _⟩;rw[<-HO.out];rfl
     all_goals
      ((try simp only[Exit.inBlock,Exit.then]);refine ZqT (Zl rfl _ _ _ _ _ _ _ rfl (ZqV _ _ _ _ _ _ gg) underlying32 rfl Z4) rfl ?_)
      exact ⟨⟨.slice none 0 0,.slice none 0 0,zeroF⟩,rfl,rfl,⟨RSl.nil _ 1,RSl.nil _ 5⟩,λ_ _=>⟨Or.inl rfl,Or.inl rfl⟩,f1.out.setRow om _⟩
    all_goals
     subst hI
     go_wp2
     refine rN ?_
     change wpAny _ _ _ _ _ _ _ (World.drew _)
     refine tH 0 (.pointer (some ⟨g,0,none⟩)) ?_
     refine tH 2 (.pointer (some ⟨w.heap.size,0,none⟩)) ?_
     refine tH 4 (.int .i64 k) ?_
     refine Yn (i:=1) (v:= .slice vA k vc) (λw'=>Ext wr w') 9 rfl (by kernel_rfl) (λ_ _ _ h=>h) (Or.inl ⟨by rfl,λw' hS=>by have hq:=Ext.cell hS ff;go_simp⟩) (Ext.refl wr).drew ?_
     refine QF 9 [10,11] (AtIx.cons rfl (AtIx.cons rfl (AtIx.cons rfl AtIx.nil))) [3,5,6,7,8] _ _ _ _ (AtIx.cons rfl (AtIx.cons rfl (AtIx.cons rfl (AtIx.cons rfl (AtIx.cons rfl AtIx.nil))))) (by kernel_rfl) ?_
     have f4:=(Ext.refl wr).drew.cell b0
     have f9:=(Ext.refl wr).drew.cell hc
     have hG:=(Ext.refl wr).drew
     refine Zq (λK hK=> ?_);go_simp;refine hK _ _ hG ?_;clear hK K
     refine Zq (λK hK=> ?_);go_simp;refine hK _ _ hG ?_;clear hK K
     refine Zq (λK hK=> ?_);go_simp;refine hK _ _ hG ?_;clear hK K
     refine Zq (λK hK=> ?_);go_simp;refine ZqD (fl.out wr.drew) ?_;rintro e w4 ⟨rfl,Z⟩;refine hK _ _ (hG.trans Z) ?_;clear hK K
     refine Zq (λK hK=> ?_);go_simp;refine hK _ _ ((hG.trans Z).alloc _) ?_;clear hK K
     refine YJ ?_
     obtain ⟨c,f7⟩:∃c:Aft wr,c.w=w4:=⟨⟨w4,hG.trans Z⟩,rfl⟩
     subst f7
     have ho:=gd (Zt (Zt fr.out c.ext) ((Ext.refl c.w).alloc (.cells #[.string S] 9)))
     have fe:=gd (f3.out.trans (c.ext.trans ((Ext.refl c.w).alloc (.cells #[.string S] 9))))
     have dw:W3.heap.size<=c.w.heap.size:=ZqM f6 c.ext.size
     clear f4 f9 hG Z
     go_wp2_with (first|(at_builtin;go_loud (refine Za _ rfl (.tmp 51) (.tmp 58) _ rfl W3.heap.size 9 i0 _ 1 16 underlying29 ga gc ge gf rfl (by decide) _ k _ rfl ho.out _ 1 [.string S] rfl (Zj rfl (by decide)) (Vd [S]) fp.out fi.out ?_ ?_;(rw[Zd];omega);intro v5 w5 Q hV h0;obtain ⟨A5,c5,di, -, -⟩:=(RSl.of_own Q).2;subst di;(have fQ:=Ext.app fe.out hV ho.out (by simp[World.setCell]));obtain ⟨p0,pf,b5,gW,q0,q1,fM,fc⟩:=gP.out w5 A5 c5 Q fQ;subst gW)))
     go_roundw
     case rel=>exact ⟨k+1,_,hA,by go_num,by rw[fX.out],fM,fc⟩
     case measure=>simp[intOf];omega
  ·have hb:((EC:Int) !=0)=true:=(by simp;omega);have hh:headF ⟨A,I,C,H,J,D⟩=EC:=(by unfold headF;rw[fn.out,ZqN hL]);have he:errF ⟨A,I,C,H,J,D⟩=EC:=(by unfold errF;rw[hh,ZqH hL]);have hn:normF ⟨A,I,C,H,J,D⟩=zeroF:=(by unfold normF;rw[he,ZqH hL]);have hd:=hR.out.symm.trans he;have hl:=hT.out.symm.trans hn;subst hd hl;clear hh he hn hL
   go_wp2_with (first|(refine ZqF rfl 32 (.tmp 2) (.tmp 26) rfl (w.heap.size+1) _ rfl rfl _ _ hZ Z4 rfl KD ?_))
   ((try simp only[Exit.inBlock,Exit.then]);refine ZqT (Zl rfl _ _ _ _ _ _ _ rfl (ZqV _ _ _ _ _ _ hZ) underlying32 rfl Z4) rfl ?_);exact ⟨⟨.slice none 0 0,.slice none 0 0,zeroF⟩,rfl,rfl,⟨RSl.nil _ 1,RSl.nil _ 5⟩,λ_ _=>⟨Or.inl rfl,Or.inl rfl⟩,f0.out.setRow om _⟩
 ·have fN:=(hQ.out W (Ext.refl W)).1;have dy:=(hQ.out W (Ext.refl W)).2.1;have dz:=(hQ.out W (Ext.refl W)).2.2.1;have dA:=(hQ.out W (Ext.refl W)).2.2.2.1;have dB:=HP.out.ext ht;have dD:Ext W W:=Ext.refl W
  go_region_held3 (λw'=>Ext W w'/\w'.cell? ⟨w.heap.size,0,none⟩=some (.slice xA A.length xc)/\w'.cell? ⟨w.heap.size,1,none⟩=some (.string I)/\w'.cell? ⟨w.heap.size,2,none⟩=some (.string C)/\w'.cell? ⟨w.heap.size,3,none⟩=some (.string H))
   ((go_split_ands;refine ⟨?_,?_,?_,?_,?_⟩<;>first|assumption|((repeat (first|exact Ext.refl _|assumption|apply Ext.drew|apply Ext.alloc));done)|((refine Ext.trans ?_ (by assumption));(repeat (first|exact Ext.refl _|assumption|apply Ext.drew|apply Ext.alloc));done)|((refine Ext.cell (by assumption) ?_);first|assumption|(go_keep;done))|(go_keep;done)))
   (first|((have ho:=gd (Y9 (w:=W.drew) (base:=W.heap.size) (e:=9) (size:=1) (n:=0) (cs:= []) (ZqE _) rfl (by decide)));refine Zk _ (by rfl) (.tmp 11) (.tmp 13) _ (by rfl) W.heap.size 9 i0 _ 1 16 underlying29 ga gc ge gf rfl (by decide) _ 0 [] (by rfl) ho.out (.slice xA A.length xc) A.length (A.map Value.string) (by rfl) (HP.out.ext (ht.trans ((Ext.refl W).drew.alloc _))) (Vd _) gO.out gN.out ((show W.heap.size<=_ from ((Ext.refl W).drew.alloc _).size)) ?_;intro v4 w4 X hw hJ;(have Z:Ext W w4:=Ext.app ((Ext.refl W).drew.alloc _) hw ho.out (ZqE _));(have hD:=gd X);(have h6:=gd Z);clear X hw hJ;(have gD:=Z))|((have ho:=gd (Zt (Y9 (w:=W.drew) (base:=W.heap.size) (e:=9) (size:=1) (n:=0) (cs:= []) (ZqE _) rfl (by decide)) ((Ext.refl _).alloc (.cells #[.string I,.string C,.string H] 9))));refine Zk _ (by rfl) (.tmp 11) (.tmp 13) _ (by rfl) W.heap.size 9 i0 _ 1 16 underlying29 ga gc ge gf rfl (by decide) _ 0 [] (by rfl) ho.out (.slice xA A.length xc) A.length (A.map Value.string) (by rfl) (HP.out.ext (ht.trans (((Ext.refl W).drew.alloc _).alloc _))) (Vd _) gO.out gN.out ((show W.heap.size<=_ from (((Ext.refl W).drew.alloc _).alloc _).size)) ?_;intro v4 w4 X hw hJ;(have Z:Ext W w4:=Ext.app (((Ext.refl W).drew.alloc _).alloc _) hw ho.out (ZqE _));(have fu:Hid (RSl w4 1 (.slice (some ⟨W.heap.size+1,0,none⟩) 3 3) 3 [.string I,.string C,.string H]):=gd (RSl.grown (Zqo W I C H) hw (Or.inr (by intro e;injection e with e;exact absurd e (by show W.heap.size+1≠W.heap.size;omega)))));(have hD:=gd X);(have h6:=gd Z);clear X hw hJ;(have gD:=Z))|((have ho:=gd (ZnQ W (a:=I) (b:=C) (c:=H)));refine Zk _ (by rfl) (.tmp 11) (.tmp 13) _ (by rfl) W.heap.size 9 i0 _ 1 16 underlying29 ga gc ge gf rfl (by decide) _ 0 [] (by rfl) ho.out (.slice xA A.length xc) A.length (A.map Value.string) (by rfl) (HP.out.ext (ht.trans (((Ext.refl W).drew.alloc _).alloc _))) (Vd _) gO.out gN.out ((show W.heap.size<=_ from (((Ext.refl W).drew.alloc _).alloc _).size)) ?_;intro v4 w4 X hw hJ;(have Z:Ext W w4:=Ext.app (((Ext.refl W).drew.alloc _).alloc _) hw ho.out (ZqE _));(have fu:Hid (RSl w4 1 (.slice (some ⟨W.heap.size,0,none⟩) 3 3) 3 [.string I,.string C,.string H]):=gd (RSl.grown (Zqp W I C H) hw (Or.inr (by intro e;injection e with e;exact absurd e (by show W.heap.size≠W.heap.size+1;omega)))));(have hD:=gd X);(have h6:=gd Z);clear X hw hJ;(have gD:=Z))|((have hH:=gd (Zt hD.out ((Ext.refl w4).alloc (.cells #[.string I,.string C,.string H] 9))));refine Zk _ (by rfl) (.tmp 14) (.tmp 21) _ (by rfl) W.heap.size 9 i0 _ 1 16 underlying29 ga gc ge gf rfl (by decide) _ (0+A.length) _ (by rfl) hH.out _ 3 [.string I,.string C,.string H] (by rfl) (Zj (w:=w4) (size:=1) (n:=3) (e:=9) (cs:= [.string I,.string C,.string H]) rfl (by decide)) (Vd [I,C,H]) gH.out gF.out ((h6.out.alloc _).size) ?_;intro v5 w5 Q hV h0;(have hM:Ext W w5:=Ext.app (h6.out.alloc _) hV hH.out (ZqE _));(have gm:=gd Q);(have fw:=gd hM);clear Q hV h0 Z gD;(have fe:=hM))|((have hH:=gd (hD.out));refine Zk _ (by rfl) (.tmp 14) (.tmp 21) _ (by rfl) W.heap.size 9 i0 _ 1 16 underlying29 ga gc ge gf rfl (by decide) _ (0+A.length) _ (by rfl) hH.out _ 3 [.string I,.string C,.string H] (by rfl) (fu.out) (Vd [I,C,H]) gH.out gF.out (h6.out.size) ?_;intro v5 w5 Q hV h0;(have hM:Ext W w5:=Ext.app (h6.out) hV hH.out (ZqE _));(have gm:=gd Q);(have fw:=gd hM);clear Q hV h0 Z gD;(have fe:=hM))|(go_at_call 76;(have hz:=fk.out w5 v5 (Zis gm.out));(with_reducible refine ZqD hz ?_);clear hz;rintro e w6 ⟨rfl,fc⟩;(have hG:=fw.out.trans fc)))
  all_goals exact ⟨hG,_,_,_,_,rfl⟩
end
end Go.Proofs.YtmfinhgobjbecaaGreatDoor
