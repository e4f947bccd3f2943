/- Parts of the proof: contracts and plain laws. -/
import Derived.Test.YtnlafkgkcnenfaaGreatDoorS16
import Derived.Test.YtnlafkgkcnenfaaGreatDoorS22
namespace Go.Proofs.YtnlafkgkcnenfaaGreatDoor
open Go Go.RowKit Go.Sort Tryz
set_option linter.unusedVariables false
set_option linter.unusedSimpArgs false
set_option maxRecDepth 100000
set_option maxHeartbeats 16000000
section
variable {c:Nat} {w:World}
theorem Zi2:prog.underlying 53=some (.slice (prog.elem 53)):=by kernel_rfl
theorem Zka (w:Wq):(Go.sizeOf (prog.elem 53)).run prog w= .ok 5 w:=by kernel_rfl
theorem Zld {A:Option Addr} {x:Ent} {t:List Ent} (h:REnts w (.slice A (t.length+1) c) (x::t)):
 ∃v',(∀F:Wq,(Instr.slice 53 (.slice A (t.length+1) c) (some (nI 1)) none none).run prog F= .ok v' F)/\REnts w v' t:=by
 refine ⟨sliced A 1 (t.length+1) c 5,λF=> ?_,?_⟩
 ·rw[run_slice_l (P:=prog) (w:=F) 53 A (t.length+1) c Zi2 .i64 1 (by omega) (by omega)];rw[Zka];rfl
 ·obtain ⟨K,X,Y,e,M,I,Q,R⟩:=h;injection e with e1 e2 e3;subst e1 e3;clear e2;have U:(flatE t).length=t.length*5:=by have:(flatE (x::t)).length=(t.length+1)*5:=(by simpa using K);have e:flatE (x::t)=eCells x++flatE t:=(by unfold flatE;simp);rw[e,Zc] at this;have e5:(eCells x).length=5:=rfl;omega
  refine ⟨U,?_⟩;have q:∀j u,(flatE t)[j]? =some u->∃ad,A=some ad/\w.cell? (ad.add (5+j))=some u:=by intro j u D;refine R (5+j) u ?_;have e:flatE (x::t)=eCells x++flatE t:=(by unfold flatE;simp);rw[e,Yl (by show 5<=5+j;omega)];simpa [eCells] using D
  unfold sliced;have Z:t.length+1<=c:=by simpa using M
  by_cases S:c=1
  ·have V:t= []:=Zw (by omega);subst V;exact ⟨_,_,rfl,by simp,Zu (GQ _ _) I,λ_=>by omega,λj u D=>by simp[flatE] at D⟩
  ·cases A with
   |none=>have:=Q rfl;omega
   |some ad=>refine ⟨some (ad.add 5),c - 1,by rw[Ze S];rfl,by omega,Zu (GQ _ _) I,(λe=>by cases e),λj u D=>⟨_,rfl,?_⟩⟩;obtain ⟨J,e,H⟩:=q j u D;injection e with e;subst e;rw[Vi];exact H
def jE (l:List Ent) (s:ByteArray):Ent:=(ordE.got l s).getD zeroE
theorem EH (l:List Ent):ordE.joined l=(ordE.firsts l).map (jE l):=by
 have A:∀fs:List ByteArray,(∀s∈fs,s∈ordE.firsts l)->fs.filterMap (ordE.got l)=fs.map (jE l):=by
  intro fs
  induction fs with
  |nil=>intro _;rfl
  |cons s t ih=>intro h;obtain ⟨x,D⟩:=(Ord.got_isSome_iff (O:=ordE) l s).2 ((ordE.mem_firsts l s).1 (h s (by simp)));rw[List.filterMap_cons_some D,ZP,ih λs q=>h s (by simp[q])];unfold jE;rw[D];rfl
 exact A _ λs q=>q
theorem ZjU {l:List Ent} {s:ByteArray} {x:Ent} {t:List Ent} (h:grp l s=x::t):jE l s=t.foldl laterE x:=by
 unfold jE Ord.got;have q:(l.filter λx=>decide (ordE.id x=s))=x::t:=h;rw[q];rfl
theorem Zis {l:List Ent} {s:ByteArray} (h:s∈ordE.firsts l):∃x t,grp l s=x::t:=by
 obtain ⟨x,q,e⟩:=(ordE.mem_firsts l s).1 h;have:x∈grp l s:=by unfold grp;exact Y1.2 ⟨q,by simpa using e⟩
 cases hg:grp l s with
 |nil=>rw[hg] at this;simp at this
 |cons y t=>exact ⟨y,t,rfl⟩
theorem Zdv:∀(t:List Ent) (x:Ent),eok x->(∀y∈t,eok y)->eok (t.foldl laterE x)
 | [],_,h,_=>h
 |y::t,x,h,ht=>Zdv t _ (EI h (ht y (by simp))) λz q=>ht z (by simp[q])
def LatE:Prop:=∀(a b:Ent) (w:Wq),Env w->eok a->eok b->Calls prog 112 #[.agg (eCells a).toArray,.agg (eCells b).toArray] w λx w'=>x= .returned (.agg (eCells (laterE a b)).toArray)/\Ext w w'
theorem GZ (v:Value) (l:List Ent) (w:Wq) (hE:Env w) (h:REnts w v l) (hl:∀x∈l,eok x) (hn:l.length<=1000000) (h5:l.length<=1\/LatE):
 Calls prog 68 #[v] w λx w'=>∃v',x= .returned v'/\OEnts w' w.heap.size v' (ordE.canon l)/\Ext w w':=by
 obtain ⟨i0,gD,gL,gM,gN⟩:=Yw G9;have h1:=gd (ZdA v l w h (λx hx=>by have:=(hl x hx).2;omega) hn);have gf:=gd (Eo l);have HL:=gd hl;have gi:=gd h5;clear hl h5;go_enter func68,ntmps68
 go_wp2_with (go_at_call 110;refine (h1.out).mono ?_;rintro e w1 ⟨v1,gv,rfl,hG,hX⟩;(obtain ⟨A1,c1,hV⟩:=hG.form);subst hV)
 have h8:=hG.len;have gy:=gf.out;have gB:gv.length<=1000000:=by omega
 have HG:=gd hG;have hj:=gd h8;clear hG h8 gy;go_loopw [3,12] (λo i wr=>∃k:Nat,k<=gv.length/\i=nI k/\OEnts wr w1.heap.size o (((ordE.firsts l).take k).map (jE l))/\Ext w1 wr) (λ_ i _=>gv.length - (intOf i).toNat)
 case atStart=>exact ⟨0,Zk _,rfl,OEnts.nil _ _,Ext.refl _⟩
 case round=>
  obtain ⟨k,hk,rfl,M,hx⟩:=hrel;by_cases hP:k<gv.length
  ·have hf:=HG.out.ext hx;obtain ⟨g,cap,hv,_,_⟩:=hf.row.form (by omega);injection hv with hV hv2 hv3;subst hV;have gA:wr.cell? ⟨g,k,none⟩=some gv[k]:=(by rw[hv3] at hf;rw[hf.row.cellAt k (by omega)];exact Zr hP);have U:k<(ordE.firsts l).length:=(by rw[<-hj.out];exact hP);have hw:(ordE.firsts l)[k]∈ordE.firsts l:=ZL U;have Z:=hf.each k (ordE.firsts l)[k] gv[k] (Zr U) (Zr hP);obtain ⟨x,t,S⟩:=Zis hw;have h9:=ZjU S;rw[S] at Z;have hU:((ordE.firsts l).take (k+1)).map (jE l)=((ordE.firsts l).take k).map (jE l)++ [jE l (ordE.firsts l)[k]]:=(by rw[Zx U,ZR];rfl);rw[h9] at hU;have gl:=gd hU;have hC:∀y∈x::t,eok y:=λy hy=>HL.out y (by rw[<-S] at hy;exact (Y1.1 hy).1);have hB:t.length+1<=l.length:=(by have:=Zf1 l (ordE.firsts l)[k];rw[S] at this;simpa using this);have gU:t.length+1<=1000000:=(by omega);have h3:=gd hB;clear hB;obtain ⟨u,hu⟩:∃u,gv[k]=u:=⟨_,rfl⟩;rw[hu] at Z gA;obtain ⟨A2,c2,gG,_,_⟩:=Z.reads.form;subst gG;have hA:REnts wr (.slice A2 (t.length+1) c2) (x::t):=Z.reads;obtain ⟨v2,gT,hI⟩:=Zld hA;obtain ⟨ad,c3,gH,Y⟩:=Z.reads.at (k:=0) (by simp);injection gH with hv5 hv6 hv7;subst hv5;rw[Xf] at Y;have hh:ad.add 0=ad:=add_zero ad;rw[hh] at Y;obtain ⟨a0,a1,a2,a3,a4⟩:=Y;simp only[Jp] at a0 a1 a2 a3 a4;have gj:=gd hI;have hD:=gd hC;obtain ⟨A3,c4,gI,_,_⟩:=hI.form;subst gI;have gQ:=gd hu;clear hf hv2 hv3 hv6 hv7 hw S h9 hU Z hA hC hI hu hh U;obtain ⟨R,gJ⟩:∃R:Wq,R=wr:=⟨_,rfl⟩;subst gJ;have gw:=gj.out;go_wp2;go_loopw [22] (λi w2=>∃m:Nat,m<=t.length/\i=nI m/\Ext (R.alloc (.cells (eCells ((t.take m).foldl laterE x)).toArray 76)) w2) (λi _=>t.length - (intOf i).toNat)
   case atStart=>exact ⟨0,Zk _,rfl,by dsimp only[List.take_zero,List.foldl_nil];exact Ext.refl _⟩
   case round=>
    obtain ⟨m,hm,rfl,I⟩:=hrel;have X:Ext R wr:=((Ext.refl R).alloc _).trans I;by_cases ga:m<t.length
    ·obtain ⟨gR,c5,hW,Y⟩:=(gw.ext X).at ga;injection hW with hW hv10 hv11;subst hW;clear hv10 hv11;have hL:(t.take (m+1)).foldl laterE x=laterE ((t.take m).foldl laterE x) t[m]:=(by rw[Zx ga,List.foldl_append];rfl);have hK:=Zdv (t.take m) x (hD.out x (by simp)) λy hy=>hD.out y (ZE _ (Jb hy));have hY:=hD.out t[m] (by simp);obtain ⟨E,hH⟩:∃E,(t.take m).foldl laterE x=E:=⟨_,rfl⟩;obtain ⟨y,hy⟩:∃y,t[m]=y:=⟨_,rfl⟩;rw[hH,hy] at hL;rw[hH] at hK I;rw[hy] at hY Y;have gg:=gd hL;have ho:=gd (λ(w':Wq) (gs:Env w')=>(gi.out.resolve_left (by have:=h3.out;omega)) E y w' gs hK hY);obtain ⟨r,hr⟩:∃r,laterE E y=r:=⟨_,rfl⟩;have HR:=gd hr;rw[hr] at ho;have gt:Env wr:=hE.ext (hX.trans (hx.trans X));have h6:=λ(d:Wq) (hd:Ext wr d)=>(I.trans hd).heap (Zg R _);have ge:=gd h6;have gm:=gd I;clear hL hH hy hr hK hY h6;obtain ⟨h4,V,he,K,ht⟩:=E;obtain ⟨H,A,D,q,F⟩:=y;obtain ⟨gn,go,gp,gq,gr⟩:=Y;simp only at gn go gp gq gr;have gP:(0:Int)<=(m:Int):=(by omega);have gS:(m:Int)<(t.length:Int):=(by omega);have ha:Ext (R.alloc (.cells (eCells ⟨h4,V,he,K,ht⟩).toArray 76)) (wr.alloc (.cells #[.string H,.string A,.string D,.string q,nI F] 76)):=I.alloc _;have hb:Ext (wr.alloc (.cells (eCells ⟨H,A,D,q,F⟩).toArray 76)) (wr.alloc (.cells #[.string H,.string A,.string D,.string q,nI F] 76)):=Ext.refl _;have e0:(wr.alloc (.cells #[.string H,.string A,.string D,.string q,nI F] 76)).cell? ⟨R.heap.size,0,none⟩=some (.string h4):=ha.boxed 0 _ rfl;have e1:(wr.alloc (.cells #[.string H,.string A,.string D,.string q,nI F] 76)).cell? ⟨R.heap.size,1,none⟩=some (.string V):=ha.boxed 1 _ rfl;have e2:(wr.alloc (.cells #[.string H,.string A,.string D,.string q,nI F] 76)).cell? ⟨R.heap.size,2,none⟩=some (.string he):=ha.boxed 2 _ rfl;have e3:(wr.alloc (.cells #[.string H,.string A,.string D,.string q,nI F] 76)).cell? ⟨R.heap.size,3,none⟩=some (.string K):=ha.boxed 3 _ rfl;have e4:(wr.alloc (.cells #[.string H,.string A,.string D,.string q,nI F] 76)).cell? ⟨R.heap.size,4,none⟩=some (nI ht):=ha.boxed 4 _ rfl;have y0:(wr.alloc (.cells #[.string H,.string A,.string D,.string q,nI F] 76)).cell? ⟨wr.heap.size,0,none⟩=some (.string H):=hb.boxed 0 _ rfl;have y1:(wr.alloc (.cells #[.string H,.string A,.string D,.string q,nI F] 76)).cell? ⟨wr.heap.size,1,none⟩=some (.string A):=hb.boxed 1 _ rfl;have y2:(wr.alloc (.cells #[.string H,.string A,.string D,.string q,nI F] 76)).cell? ⟨wr.heap.size,2,none⟩=some (.string D):=hb.boxed 2 _ rfl;have y3:(wr.alloc (.cells #[.string H,.string A,.string D,.string q,nI F] 76)).cell? ⟨wr.heap.size,3,none⟩=some (.string q):=hb.boxed 3 _ rfl;have y4:(wr.alloc (.cells #[.string H,.string A,.string D,.string q,nI F] 76)).cell? ⟨wr.heap.size,4,none⟩=some (nI F):=hb.boxed 4 _ rfl;have gu:Env (wr.alloc (.cells #[.string H,.string A,.string D,.string q,nI F] 76)):=gt.ext ((Ext.refl wr).alloc _);unfold eCells at ho;dsimp only at ho;clear ha hb
     go_wp2_with (first|(refine Zd rfl 76 (.tmp 6) (.tmp 28) rfl R.heap.size _ rfl rfl _ _ gx JU rfl (Zcp (XE r)) ?_)|(go_at_call 112;refine (ho.out _ gu).mono ?_;rintro e w3 ⟨rfl,hq⟩;(have gK:=gm.out.trans (((Ext.refl wr).alloc _).trans hq));(have gx:=ge.out w3 (((Ext.refl wr).alloc _).trans hq))))
     go_roundw
     case rel=>have hR:=HR.out;have hF:=gg.out;refine ⟨m+1,by omega,by go_num,?_⟩;rw[hF,hR];exact El gK
     case measure=>simp[intOf];omega
    ·have gF:m=t.length:=(by omega);subst gF;rw[ZT (Zb _)] at I;obtain ⟨r,hr⟩:∃r,t.foldl laterE x=r:=⟨_,rfl⟩;rw[hr] at I;have HR:=gd hr;clear hr;have e0:wr.cell? ⟨R.heap.size,0,none⟩=some (.string r.id):=I.boxed 0 _ rfl;have e1:wr.cell? ⟨R.heap.size,1,none⟩=some (.string r.title):=I.boxed 1 _ rfl;have e2:wr.cell? ⟨R.heap.size,2,none⟩=some (.string r.link):=I.boxed 2 _ rfl;have e3:wr.cell? ⟨R.heap.size,3,none⟩=some (.string r.content):=I.boxed 3 _ rfl;have e4:wr.cell? ⟨R.heap.size,4,none⟩=some (nI r.upd):=I.boxed 4 _ rfl;have Q:=M.ext X;have gc:=hx.trans X;have hN:(((ordE.firsts l).take k).map (jE l)).length=k:=(by have:=hj.out;rw[Zs,ZD];omega);unfold OEnts at Q;have hZ:Hid (((((ordE.firsts l).take k).map (jE l)).length+1)*72<=140737488355328):=gd (by rw[hN];omega);have h2:Hid ((((ordE.firsts l).take k).map (jE l)).length+1<=maxLen):=gd (by rw[hN];unfold maxLen;omega);obtain ⟨O,hO⟩:∃O,((ordE.firsts l).take k).map (jE l)=O:=⟨_,rfl⟩;rw[hO] at Q hN hZ h2;have HO:=gd hO;clear hO
     go_wp2_with (first|(at_builtin;refine ZJ _ rfl (.tmp 30) (.tmp 32) _ rfl w1.heap.size 76 i0 _ 5 72 underlying53 gD gL gM gN rfl (by decide) _ _ _ rfl (Q.alloc _) _ 1 (eCells r) rfl (Yn rfl (by decide)) (XE _) h2.out hZ.out ?_ ?_;(have:=gc.size;simp;omega);intro v3 w3 hQ gz gO;(have hq:Ext w1 w3:=Ext.app (gc.alloc _) gz (Q.alloc _) (Zb _))))
     go_roundw
     case rel=>have hT:=gl.out;have hO:=HO.out;have hR:=HR.out;refine ⟨k+1,by omega,by go_num,?_,hq⟩;rw[hT,hO,hR];exact OEnts.snoc hQ
     case measure=>simp[intOf];omega
  ·have gE:k=gv.length:=(by omega);subst gE;have U:(ordE.firsts l).take gv.length=ordE.firsts l:=ZT (by rw[hj.out];exact Zb _);rw[U,<-EH] at M;have hM:(ordE.joined l).length<=1000000:=(by rw[EH,Zs,<-hj.out];exact gB);have hi:=λl'=>ordE.sorted_joined l l';obtain ⟨J,hJ⟩:∃J,ordE.joined l=J:=⟨_,rfl⟩;rw[hJ] at M hM hi;have h0:=gd hi;have hws:=hX.size;have h7:∀g,u3.ownBlock=some g->w.heap.size<=g:=λg hg=>Zu hws (World.ownsRow.lt M g hg).1;have gb:=ZhK u3 J wr w1.heap.size M hM;obtain ⟨A9,c9,rfl,_,_⟩:=M.reads.form;have gk:=gd gb;have gh:=gd h7;clear gb hi hJ U hM h7
   go_wp2_with (go_at_call 113;(have hz:=gk.out);(with_reducible refine Za hz ?_);clear hz;rintro e w9 ⟨rfl,l',hp,hs,hS,gC⟩)
   go_ret;have hc:=h0.out l' hp hs;subst hc;exact ⟨_,rfl,hS.mono hws,Ext.grown' (B:=0) (hX.trans hx) gC gh.out⟩
end
section
variable {W:World} {g:Nat} {v:Value} {z:ByteArray}
theorem ZjR:(prog.info? 157).map (λi=>(i.zero,i.size,i.bytes))=some (some (.pointer none),1,8):=by kernel_rfl
theorem Zke (l:List ByteArray):∀u∈l.map Value.string,u.oneCell'=true:=by
 intro u h;obtain ⟨s,_,rfl⟩:=Z3.1 h;rfl
def zeroC:Fc:=⟨sN,sN,zeroF⟩
theorem Vx (w:Wq):RdC w zeroC:=⟨RSl.nil w 1,RSl.nil w 5⟩
theorem Ub (g:Option Nat):awayC zeroC g:=⟨Or.inl rfl,Or.inl rfl⟩
theorem Zcd {b:Nat} {l:List ByteArray} {x y:ByteArray} (F:Env W) (H:Ptrs W v (ptrsF g b l x y z)) (D:firstErr (l++ [x,y,z])≠0):
 Calls prog 103 #[v] W λe w'=>e= .returned (nI (firstErr (l++ [x,y,z]):Nat))/\Ext W w':=by
 refine (Js v _ W F H).mono ?_;rintro e w' ⟨q,A⟩;rw[KW] at q A;exact ⟨q,A.elim (λh=>absurd h.1 D) λh=>h.2⟩
end
section
attribute [local go_sem ↓] Go.wp_at_zero Go.wp_at_succ
end
section
attribute [local go_sem ↓] Go.wp_at_zero Go.wp_at_succ
end
end Go.Proofs.YtnlafkgkcnenfaaGreatDoor
