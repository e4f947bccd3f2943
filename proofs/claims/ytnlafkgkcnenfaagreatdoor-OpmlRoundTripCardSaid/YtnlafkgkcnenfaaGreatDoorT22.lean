/- Parts of the proof: contracts and plain laws. -/
import Derived.Test.YtnlafkgkcnenfaaGreatDoorT15
import Derived.Test.YtnlafkgkcnenfaaGreatDoorT21
namespace Go.Proofs.YtnlafkgkcnenfaaGreatDoor
open Go Go.RowKit Go.Sort Tryz
set_option linter.unusedVariables false
set_option linter.unusedSimpArgs false
set_option linter.unusedSimpArgs false
set_option maxRecDepth 100000
set_option maxHeartbeats 16000000
section
variable {c:Nat} {w:World}
theorem Zly:prog.underlying 53=some (.slice (prog.elem 53)):=by kernel_rfl
theorem ZmE (w:Wq):(Go.sizeOf (prog.elem 53)).run prog w= .ok 5 w:=by kernel_rfl
theorem ZnK {A:Option Addr} {x:Ent} {t:List Ent} (h:REnts w (.slice A (t.length+1) c) (x::t)):
 ∃v',(∀H:Wq,(Instr.slice 53 (.slice A (t.length+1) c) (some (nI 1)) none none).run prog H= .ok v' H)/\REnts w v' t:=by
 refine ⟨sliced A 1 (t.length+1) c 5,λH=> ?_,?_⟩
 ·rw[run_slice_l (P:=prog) (w:=H) 53 A (t.length+1) c Zly .i64 1 (by omega) (by omega)];rw[ZmE];rfl
 ·obtain ⟨Q,Z,c',e,R,J,S,U⟩:=h;injection e with e1 e2 e3;subst e1 e3;clear e2;have X:(flatE t).length=t.length*5:=by have:(flatE (x::t)).length=(t.length+1)*5:=(by simpa using Q);have e:flatE (x::t)=eCells x++flatE t:=(by unfold flatE;simp);rw[e,Zc] at this;have e5:(eCells x).length=5:=rfl;omega
  refine ⟨X,?_⟩;have D:∀j u,(flatE t)[j]? =some u->∃ad,A=some ad/\w.cell? (ad.add (5+j))=some u:=by intro j u F;refine U (5+j) u ?_;have e:flatE (x::t)=eCells x++flatE t:=(by unfold flatE;simp);rw[e,Ym (by show 5<=5+j;omega)];simpa [eCells] using F
  unfold sliced;have hn:t.length+1<=c:=by simpa using R
  by_cases V:c=1
  ·have Y:t= []:=Zr (by omega);subst Y;exact ⟨_,_,rfl,by simp,Zt (Jg _ _) J,λ_=>by omega,λj u F=>by simp[flatE] at F⟩
  ·cases A with
   |none=>have:=S rfl;omega
   |some ad=>refine ⟨some (ad.add 5),c - 1,by rw[Ze V];rfl,by omega,Zt (Jg _ _) J,(λe=>by cases e),λj u F=>⟨_,rfl,?_⟩⟩;obtain ⟨K,e,I⟩:=D j u F;injection e with e;subst e;rw[UK];exact I
def jE (l:List Ent) (s:ByteArray):Ent:=(ordE.got l s).getD zeroE
theorem Zbj (l:List Ent):ordE.joined l=(ordE.firsts l).map (jE l):=by
 have D:∀fs:List ByteArray,(∀s∈fs,s∈ordE.firsts l)->fs.filterMap (ordE.got l)=fs.map (jE l):=by
  intro fs
  induction fs with
  |nil=>intro _;rfl
  |cons s t ih=>intro h;obtain ⟨x,F⟩:=(Ord.got_isSome_iff (O:=ordE) l s).2 ((ordE.mem_firsts l s).1 (h s (by simp)));rw[List.filterMap_cons_some F,Zw,ih λs A=>h s (by simp[A])];unfold jE;rw[F];rfl
 exact D _ λs A=>A
theorem Zmo {l:List Ent} {s:ByteArray} {x:Ent} {t:List Ent} (h:grp l s=x::t):jE l s=t.foldl laterE x:=by
 unfold jE Ord.got;have A:(l.filter λx=>decide (ordE.id x=s))=x::t:=h;rw[A];rfl
theorem ZkU {l:List Ent} {s:ByteArray} (h:s∈ordE.firsts l):∃x t,grp l s=x::t:=by
 obtain ⟨x,A,e⟩:=(ordE.mem_firsts l s).1 h;have:x∈grp l s:=by unfold grp;exact Y0.2 ⟨A,by simpa using e⟩
 cases hg:grp l s with
 |nil=>rw[hg] at this;simp at this
 |cons y t=>exact ⟨y,t,rfl⟩
theorem Zfe:∀(t:List Ent) (x:Ent),eok x->(∀y∈t,eok y)->eok (t.foldl laterE x)
 | [],_,h,_=>h
 |y::t,x,h,ht=>Zfe t _ (Zbm h (ht y (by simp))) λz A=>ht z (by simp[A])
def LatE:Prop:=∀(a b:Ent) (w:Wq),Env w->eok a->eok b->Calls prog 112 #[.agg (eCells a).toArray,.agg (eCells b).toArray] w λx w'=>x= .returned (.agg (eCells (laterE a b)).toArray)/\Ext w w'
theorem KG (v:Value) (l:List Ent) (w:Wq) (hE:Env w) (h:REnts w v l) (hl:∀x∈l,eok x) (hn:l.length<=1000000) (h7:l.length<=1\/LatE):
 Calls prog 68 #[v] w λx w'=>∃v',x= .returned v'/\OEnts w' w.heap.size v' (ordE.canon l)/\Ext w w':=by
 obtain ⟨i0,gF,gN,gO,gP⟩:=Yu KQ;have h3:=gd (Zfj v l w h (λx hx=>by have:=(hl x hx).2;omega) hn);have gh:=gd (Za2 l);have HL:=gd hl;have gk:=gd h7;clear hl h7;go_enter func68,ntmps68
 go_wp2_with (go_at_call 110;refine (h3.out).mono ?_;rintro e w1 ⟨v1,gv,rfl,hG,hZ⟩;(obtain ⟨A1,c1,hX⟩:=hG.form);subst hX)
 have ga:=hG.len;have gA:=gh.out;have gD:gv.length<=1000000:=by omega
 have HG:=gd hG;have hq:=gd ga;clear hG ga gA;go_loopw [3,12] (λo i wr=>∃k:Nat,k<=gv.length/\i=nI k/\OEnts wr w1.heap.size o (((ordE.firsts l).take k).map (jE l))/\Ext w1 wr) (λ_ i _=>gv.length - (intOf i).toNat)
 case atStart=>exact ⟨0,Zh _,rfl,OEnts.nil _ _,Ext.refl _⟩
 case round=>
  obtain ⟨k,hk,rfl,R,hx⟩:=hrel;by_cases hS:k<gv.length
  ·have hi:=HG.out.ext hx;obtain ⟨g,cap,hv,_,_⟩:=hi.row.form (by omega);injection hv with hX hv2 hv3;subst hX;have gC:wr.cell? ⟨g,k,none⟩=some gv[k]:=(by rw[hv3] at hi;rw[hi.row.cellAt k (by omega)];exact Zl hS);have X:k<(ordE.firsts l).length:=(by rw[<-hq.out];exact hS);have hB:(ordE.firsts l)[k]∈ordE.firsts l:=ZE X;have hb:=hi.each k (ordE.firsts l)[k] gv[k] (Zl X) (Zl hS);obtain ⟨x,t,V⟩:=ZkU hB;have gb:=Zmo V;rw[V] at hb;have hW:((ordE.firsts l).take (k+1)).map (jE l)=((ordE.firsts l).take k).map (jE l)++ [jE l (ordE.firsts l)[k]]:=(by rw[Zn X,ZN];rfl);rw[gb] at hW;have gn:=gd hW;have hH:∀y∈x::t,eok y:=λy hy=>HL.out y (by rw[<-V] at hy;exact (Y0.1 hy).1);have hD:t.length+1<=l.length:=(by have:=Zh9 l (ordE.firsts l)[k];rw[V] at this;simpa using this);have gW:t.length+1<=1000000:=(by omega);have h5:=gd hD;clear hD;obtain ⟨u,hu⟩:∃u,gv[k]=u:=⟨_,rfl⟩;rw[hu] at hb gC;obtain ⟨A2,c2,gI,_,_⟩:=hb.reads.form;subst gI;have hC:REnts wr (.slice A2 (t.length+1) c2) (x::t):=hb.reads;obtain ⟨v2,gV,hL⟩:=ZnK hC;obtain ⟨ad,c3,gJ,ha⟩:=hb.reads.at (k:=0) (by simp);injection gJ with hv5 hv6 hv7;subst hv5;rw[Xa] at ha;have hj:ad.add 0=ad:=add_zero ad;rw[hj] at ha;obtain ⟨a0,a1,a2,a3,a4⟩:=ha;simp only[JB] at a0 a1 a2 a3 a4;have gl:=gd hL;have hI:=gd hH;obtain ⟨A3,c4,gK,_,_⟩:=hL.form;subst gK;have gS:=gd hu;clear hi hv2 hv3 hv6 hv7 hB V gb hW hb hC hH hL hu hj X;obtain ⟨U,gL⟩:∃U:Wq,U=wr:=⟨_,rfl⟩;subst gL;have gy:=gl.out;go_wp2;go_loopw [22] (λi w2=>∃m:Nat,m<=t.length/\i=nI m/\Ext (U.alloc (.cells (eCells ((t.take m).foldl laterE x)).toArray 76)) w2) (λi _=>t.length - (intOf i).toNat)
   case atStart=>exact ⟨0,Zh _,rfl,by dsimp only[List.take_zero,List.foldl_nil];exact Ext.refl _⟩
   case round=>
    obtain ⟨m,hm,rfl,K⟩:=hrel;have Z:Ext U wr:=((Ext.refl U).alloc _).trans K;by_cases gc:m<t.length
    ·obtain ⟨gT,c5,hY,ha⟩:=(gy.ext Z).at gc;injection hY with hY hv10 hv11;subst hY;clear hv10 hv11;have hN:(t.take (m+1)).foldl laterE x=laterE ((t.take m).foldl laterE x) t[m]:=(by rw[Zn gc,List.foldl_append];rfl);have hM:=Zfe (t.take m) x (hI.out x (by simp)) λy hy=>hI.out y (Zu _ (Y2 hy));have h0:=hI.out t[m] (by simp);obtain ⟨E,hK⟩:∃E,(t.take m).foldl laterE x=E:=⟨_,rfl⟩;obtain ⟨y,hy⟩:∃y,t[m]=y:=⟨_,rfl⟩;rw[hK,hy] at hN;rw[hK] at hM K;rw[hy] at h0 ha;have gi:=gd hN;have ht:=gd (λ(w':Wq) (gu:Env w')=>(gk.out.resolve_left (by have:=h5.out;omega)) E y w' gu hM h0);obtain ⟨r,hr⟩:∃r,laterE E y=r:=⟨_,rfl⟩;have HR:=gd hr;rw[hr] at ht;have gw:Env wr:=hE.ext (hZ.trans (hx.trans Z));have h8:=λ(d:Wq) (hd:Ext wr d)=>(K.trans hd).heap (Zg U _);have gg:=gd h8;have go:=gd K;clear hN hK hy hr hM h0 h8;obtain ⟨h6,Y,hh,Q,hA⟩:=E;obtain ⟨I,D,F,A,H⟩:=y;obtain ⟨gp,gq,gr,gs,gt⟩:=ha;simp only at gp gq gr gs gt;have gR:(0:Int)<=(m:Int):=(by omega);have gU:(m:Int)<(t.length:Int):=(by omega);have he:Ext (U.alloc (.cells (eCells ⟨h6,Y,hh,Q,hA⟩).toArray 76)) (wr.alloc (.cells #[.string I,.string D,.string F,.string A,nI H] 76)):=K.alloc _;have hf:Ext (wr.alloc (.cells (eCells ⟨I,D,F,A,H⟩).toArray 76)) (wr.alloc (.cells #[.string I,.string D,.string F,.string A,nI H] 76)):=Ext.refl _;have e0:(wr.alloc (.cells #[.string I,.string D,.string F,.string A,nI H] 76)).cell? ⟨U.heap.size,0,none⟩=some (.string h6):=he.boxed 0 _ rfl;have e1:(wr.alloc (.cells #[.string I,.string D,.string F,.string A,nI H] 76)).cell? ⟨U.heap.size,1,none⟩=some (.string Y):=he.boxed 1 _ rfl;have e2:(wr.alloc (.cells #[.string I,.string D,.string F,.string A,nI H] 76)).cell? ⟨U.heap.size,2,none⟩=some (.string hh):=he.boxed 2 _ rfl;have e3:(wr.alloc (.cells #[.string I,.string D,.string F,.string A,nI H] 76)).cell? ⟨U.heap.size,3,none⟩=some (.string Q):=he.boxed 3 _ rfl;have e4:(wr.alloc (.cells #[.string I,.string D,.string F,.string A,nI H] 76)).cell? ⟨U.heap.size,4,none⟩=some (nI hA):=he.boxed 4 _ rfl;have y0:(wr.alloc (.cells #[.string I,.string D,.string F,.string A,nI H] 76)).cell? ⟨wr.heap.size,0,none⟩=some (.string I):=hf.boxed 0 _ rfl;have y1:(wr.alloc (.cells #[.string I,.string D,.string F,.string A,nI H] 76)).cell? ⟨wr.heap.size,1,none⟩=some (.string D):=hf.boxed 1 _ rfl;have y2:(wr.alloc (.cells #[.string I,.string D,.string F,.string A,nI H] 76)).cell? ⟨wr.heap.size,2,none⟩=some (.string F):=hf.boxed 2 _ rfl;have y3:(wr.alloc (.cells #[.string I,.string D,.string F,.string A,nI H] 76)).cell? ⟨wr.heap.size,3,none⟩=some (.string A):=hf.boxed 3 _ rfl;have y4:(wr.alloc (.cells #[.string I,.string D,.string F,.string A,nI H] 76)).cell? ⟨wr.heap.size,4,none⟩=some (nI H):=hf.boxed 4 _ rfl;have gx:Env (wr.alloc (.cells #[.string I,.string D,.string F,.string A,nI H] 76)):=gw.ext ((Ext.refl wr).alloc _);unfold eCells at ht;dsimp only at ht;clear he hf
     go_wp2_with (first|(refine Zf rfl 76 (.tmp 6) (.tmp 28) rfl U.heap.size _ rfl rfl _ _ gz U3 rfl (Zed (XL r)) ?_)|(go_at_call 112;refine (ht.out _ gx).mono ?_;rintro e w3 ⟨rfl,hw⟩;(have gM:=go.out.trans (((Ext.refl wr).alloc _).trans hw));(have gz:=gg.out w3 (((Ext.refl wr).alloc _).trans hw))))
     go_roundw
     case rel=>have hR:=HR.out;have hF:=gi.out;refine ⟨m+1,by omega,by go_num,?_⟩;rw[hF,hR];exact ZaY gM
     case measure=>simp[intOf];omega
    ·have gH:m=t.length:=(by omega);subst gH;rw[ZR (Zb _)] at K;obtain ⟨r,hr⟩:∃r,t.foldl laterE x=r:=⟨_,rfl⟩;rw[hr] at K;have HR:=gd hr;clear hr;have e0:wr.cell? ⟨U.heap.size,0,none⟩=some (.string r.id):=K.boxed 0 _ rfl;have e1:wr.cell? ⟨U.heap.size,1,none⟩=some (.string r.title):=K.boxed 1 _ rfl;have e2:wr.cell? ⟨U.heap.size,2,none⟩=some (.string r.link):=K.boxed 2 _ rfl;have e3:wr.cell? ⟨U.heap.size,3,none⟩=some (.string r.content):=K.boxed 3 _ rfl;have e4:wr.cell? ⟨U.heap.size,4,none⟩=some (nI r.upd):=K.boxed 4 _ rfl;have S:=R.ext Z;have gf:=hx.trans Z;have hQ:(((ordE.firsts l).take k).map (jE l)).length=k:=(by have:=hq.out;rw[Zm,ZL];omega);unfold OEnts at S;have h1:Hid (((((ordE.firsts l).take k).map (jE l)).length+1)*72<=140737488355328):=gd (by rw[hQ];omega);have h4:Hid ((((ordE.firsts l).take k).map (jE l)).length+1<=maxLen):=gd (by rw[hQ];unfold maxLen;omega);obtain ⟨O,hO⟩:∃O,((ordE.firsts l).take k).map (jE l)=O:=⟨_,rfl⟩;rw[hO] at S hQ h1 h4;have HO:=gd hO;clear hO
     go_wp2_with (first|(at_builtin;refine ZP _ rfl (.tmp 30) (.tmp 32) _ rfl w1.heap.size 76 i0 _ 5 72 underlying53 gF gN gO gP rfl (by decide) _ _ _ rfl (S.alloc _) _ 1 (eCells r) rfl (Yq rfl (by decide)) (XL _) h4.out h1.out ?_ ?_;(have:=gf.size;simp;omega);intro v3 w3 hU gB gQ;(have hw:Ext w1 w3:=Ext.app (gf.alloc _) gB (S.alloc _) (Zb _))))
     go_roundw
     case rel=>have hT:=gn.out;have hO:=HO.out;have hR:=HR.out;refine ⟨k+1,by omega,by go_num,?_,hw⟩;rw[hT,hO,hR];exact OEnts.snoc hU
     case measure=>simp[intOf];omega
  ·have gG:k=gv.length:=(by omega);subst gG;have X:(ordE.firsts l).take gv.length=ordE.firsts l:=ZR (by rw[hq.out];exact Zb _);rw[X,<-Zbj] at R;have hP:(ordE.joined l).length<=1000000:=(by rw[Zbj,Zm,<-hq.out];exact gD);have ho:=λl'=>ordE.sorted_joined l l';obtain ⟨J,hJ⟩:∃J,ordE.joined l=J:=⟨_,rfl⟩;rw[hJ] at R hP ho;have h2:=gd ho;have hws:=hZ.size;have h9:∀g,u3.ownBlock=some g->w.heap.size<=g:=λg hg=>Zt hws (World.ownsRow.lt R g hg).1;have ge:=Zkb u3 J wr w1.heap.size R hP;obtain ⟨A9,c9,rfl,_,_⟩:=R.reads.form;have gm:=gd ge;have gj:=gd h9;clear ge ho hJ X hP h9
   go_wp2_with (go_at_call 113;(have hz:=gm.out);(with_reducible refine Za hz ?_);clear hz;rintro e w9 ⟨rfl,l',hp,hs,hV,gE⟩)
   go_ret;have hc:=h2.out l' hp hs;subst hc;exact ⟨_,rfl,hV.mono hws,Ext.grown' (B:=0) (hZ.trans hx) gE gj.out⟩
end
section
variable {W:World} {g:Nat} {v:Value} {z:ByteArray}
theorem Zml:(prog.info? 157).map (λi=>(i.zero,i.size,i.bytes))=some (some (.pointer none),1,8):=by kernel_rfl
theorem ZmI (l:List ByteArray):∀u∈l.map Value.string,u.oneCell'=true:=by
 intro u h;obtain ⟨s,_,rfl⟩:=ZS.1 h;rfl
def zeroC:Fc:=⟨sN,sN,zeroF⟩
theorem Zb5 (w:Wq):RdC w zeroC:=⟨RSl.nil w 1,RSl.nil w 5⟩
theorem Ko (g:Option Nat):awayC zeroC g:=⟨Or.inl rfl,Or.inl rfl⟩
theorem Zd1 {b:Nat} {l:List ByteArray} {x y:ByteArray} (H:Env W) (I:Ptrs W v (ptrsF g b l x y z)) (F:firstErr (l++ [x,y,z])≠0):
 Calls prog 103 #[v] W λe w'=>e= .returned (nI (firstErr (l++ [x,y,z]):Nat))/\Ext W w':=by
 refine (JD v _ W H I).mono ?_;rintro e w' ⟨A,D⟩;rw[Eh] at A D;exact ⟨A,D.elim (λh=>absurd h.1 F) λh=>h.2⟩
end
section
attribute [local go_sem ↓] Go.wp_at_zero Go.wp_at_succ
end
section
attribute [local go_sem ↓] Go.wp_at_zero Go.wp_at_succ
end
end Go.Proofs.YtnlafkgkcnenfaaGreatDoor
