/- Parts of the proof: contracts and plain laws. -/
import Derived.Test.YtnlafkgkcnenfaaGreatDoorR16
import Derived.Test.YtnlafkgkcnenfaaGreatDoorR22
namespace Go.Proofs.YtnlafkgkcnenfaaGreatDoor
open Go Go.RowKit Go.Sort Tryz
set_option linter.unusedVariables false
set_option linter.unusedSimpArgs false
set_option maxRecDepth 100000
set_option maxHeartbeats 16000000
section
variable {c:Nat} {w:World}
theorem Zjy:prog.underlying 53=some (.slice (prog.elem 53)):=by kernel_rfl
theorem ZkD (w:Wq):(Go.sizeOf (prog.elem 53)).run prog w= .ok 5 w:=by kernel_rfl
theorem ZlF {A:Option Addr} {x:Ent} {t:List Ent} (h:REnts w (.slice A (t.length+1) c) (x::t)):
 ∃v',(∀H:Wq,(Instr.slice 53 (.slice A (t.length+1) c) (some (nI 1)) none none).run prog H= .ok v' H)/\REnts w v' t:=by
 refine ⟨sliced A 1 (t.length+1) c 5,λH=> ?_,?_⟩
 ·rw[run_slice_l (P:=prog) (w:=H) 53 A (t.length+1) c Zjy .i64 1 (by omega) (by omega)];rw[ZkD];rfl
 ·obtain ⟨M,Y,Z,e,Q,J,R,S⟩:=h;injection e with e1 e2 e3;subst e1 e3;clear e2;have V:(flatE t).length=t.length*5:=by have:(flatE (x::t)).length=(t.length+1)*5:=(by simpa using M);have e:flatE (x::t)=eCells x++flatE t:=(by unfold flatE;simp);rw[e,Zd] at this;have e5:(eCells x).length=5:=rfl;omega
  refine ⟨V,?_⟩;have D:∀j u,(flatE t)[j]? =some u->∃ad,A=some ad/\w.cell? (ad.add (5+j))=some u:=by intro j u F;refine S (5+j) u ?_;have e:flatE (x::t)=eCells x++flatE t:=(by unfold flatE;simp);rw[e,Yr (by show 5<=5+j;omega)];simpa [eCells] using F
  unfold sliced;have hn:t.length+1<=c:=by simpa using Q
  by_cases U:c=1
  ·have X:t= []:=ZF (by omega);subst X;exact ⟨_,_,rfl,by simp,Zv (Jk _ _) J,λ_=>by omega,λj u F=>by simp[flatE] at F⟩
  ·cases A with
   |none=>have:=R rfl;omega
   |some ad=>refine ⟨some (ad.add 5),c - 1,by rw[Zg U];rfl,by omega,Zv (Jk _ _) J,(λe=>by cases e),λj u F=>⟨_,rfl,?_⟩⟩;obtain ⟨K,e,I⟩:=D j u F;injection e with e;subst e;rw[UH];exact I
def jE (l:List Ent) (s:ByteArray):Ent:=(ordE.got l s).getD zeroE
theorem Zag (l:List Ent):ordE.joined l=(ordE.firsts l).map (jE l):=by
 have D:∀fs:List ByteArray,(∀s∈fs,s∈ordE.firsts l)->fs.filterMap (ordE.got l)=fs.map (jE l):=by
  intro fs
  induction fs with
  |nil=>intro _;rfl
  |cons s t ih=>intro h;obtain ⟨x,F⟩:=(Ord.got_isSome_iff (O:=ordE) l s).2 ((ordE.mem_firsts l s).1 (h s (by simp)));rw[List.filterMap_cons_some F,ZP,ih λs A=>h s (by simp[A])];unfold jE;rw[F];rfl
 exact D _ λs A=>A
theorem Zkn {l:List Ent} {s:ByteArray} {x:Ent} {t:List Ent} (h:grp l s=x::t):jE l s=t.foldl laterE x:=by
 unfold jE Ord.got;have A:(l.filter λx=>decide (ordE.id x=s))=x::t:=h;rw[A];rfl
theorem ZiU {l:List Ent} {s:ByteArray} (h:s∈ordE.firsts l):∃x t,grp l s=x::t:=by
 obtain ⟨x,A,e⟩:=(ordE.mem_firsts l s).1 h;have:x∈grp l s:=by unfold grp;exact Xb.2 ⟨A,by simpa using e⟩
 cases hg:grp l s with
 |nil=>rw[hg] at this;simp at this
 |cons y t=>exact ⟨y,t,rfl⟩
theorem Zdv:∀(t:List Ent) (x:Ent),eok x->(∀y∈t,eok y)->eok (t.foldl laterE x)
 | [],_,h,_=>h
 |y::t,x,h,ht=>Zdv t _ (Zah h (ht y (by simp))) λz A=>ht z (by simp[A])
def LatE:Prop:=∀(a b:Ent) (w:Wq),Env w->eok a->eok b->Calls prog 112 #[.agg (eCells a).toArray,.agg (eCells b).toArray] w λx w'=>x= .returned (.agg (eCells (laterE a b)).toArray)/\Ext w w'
theorem Ka (v:Value) (l:List Ent) (w:Wq) (hE:Env w) (h:REnts w v l) (hl:∀x∈l,eok x) (hn:l.length<=1000000) (h6:l.length<=1\/LatE):
 Calls prog 68 #[v] w λx w'=>∃v',x= .returned v'/\OEnts w' w.heap.size v' (ordE.canon l)/\Ext w w':=by
 obtain ⟨i0,gE,gM,gN,gO⟩:=Yw Kj;have h2:=gd (ZdA v l w h (λx hx=>by have:=(hl x hx).2;omega) hn);have gg:=gd (E1 l);have HL:=gd hl;have gj:=gd h6;clear hl h6;go_enter func68,ntmps68
 go_wp2_with (go_at_call 110;refine (h2.out).mono ?_;rintro e w1 ⟨v1,gv,rfl,hG,hY⟩;(obtain ⟨A1,c1,hW⟩:=hG.form);subst hW)
 have h9:=hG.len;have gz:=gg.out;have gC:gv.length<=1000000:=by omega
 have HG:=gd hG;have ho:=gd h9;clear hG h9 gz;go_loopw [3,12] (λo i wr=>∃k:Nat,k<=gv.length/\i=nI k/\OEnts wr w1.heap.size o (((ordE.firsts l).take k).map (jE l))/\Ext w1 wr) (λ_ i _=>gv.length - (intOf i).toNat)
 case atStart=>exact ⟨0,Zh _,rfl,OEnts.nil _ _,Ext.refl _⟩
 case round=>
  obtain ⟨k,hk,rfl,Q,hx⟩:=hrel;by_cases hQ:k<gv.length
  ·have hh:=HG.out.ext hx;obtain ⟨g,cap,hv,_,_⟩:=hh.row.form (by omega);injection hv with hW hv2 hv3;subst hW;have gB:wr.cell? ⟨g,k,none⟩=some gv[k]:=(by rw[hv3] at hh;rw[hh.row.cellAt k (by omega)];exact Zj hQ);have V:k<(ordE.firsts l).length:=(by rw[<-ho.out];exact hQ);have hA:(ordE.firsts l)[k]∈ordE.firsts l:=Zz V;have ha:=hh.each k (ordE.firsts l)[k] gv[k] (Zj V) (Zj hQ);obtain ⟨x,t,U⟩:=ZiU hA;have ga:=Zkn U;rw[U] at ha;have hV:((ordE.firsts l).take (k+1)).map (jE l)=((ordE.firsts l).take k).map (jE l)++ [jE l (ordE.firsts l)[k]]:=(by rw[Zq V,ZK];rfl);rw[ga] at hV;have gm:=gd hV;have hD:∀y∈x::t,eok y:=λy hy=>HL.out y (by rw[<-U] at hy;exact (Xb.1 hy).1);have hC:t.length+1<=l.length:=(by have:=Zgo l (ordE.firsts l)[k];rw[U] at this;simpa using this);have gV:t.length+1<=1000000:=(by omega);have h4:=gd hC;clear hC;obtain ⟨u,hu⟩:∃u,gv[k]=u:=⟨_,rfl⟩;rw[hu] at ha gB;obtain ⟨A2,c2,gH,_,_⟩:=ha.reads.form;subst gH;have hB:REnts wr (.slice A2 (t.length+1) c2) (x::t):=ha.reads;obtain ⟨v2,gU,hK⟩:=ZlF hB;obtain ⟨ad,c3,gI,Z⟩:=ha.reads.at (k:=0) (by simp);injection gI with hv5 hv6 hv7;subst hv5;rw[Xf] at Z;have hi:ad.add 0=ad:=add_zero ad;rw[hi] at Z;obtain ⟨a0,a1,a2,a3,a4⟩:=Z;simp only[JB] at a0 a1 a2 a3 a4;have gk:=gd hK;have hH:=gd hD;obtain ⟨A3,c4,gJ,_,_⟩:=hK.form;subst gJ;have gR:=gd hu;clear hh hv2 hv3 hv6 hv7 hA U ga hV ha hB hD hK hu hi V;obtain ⟨S,gK⟩:∃S:Wq,S=wr:=⟨_,rfl⟩;subst gK;have gx:=gk.out;go_wp2;go_loopw [22] (λi w2=>∃m:Nat,m<=t.length/\i=nI m/\Ext (S.alloc (.cells (eCells ((t.take m).foldl laterE x)).toArray 76)) w2) (λi _=>t.length - (intOf i).toNat)
   case atStart=>exact ⟨0,Zh _,rfl,by dsimp only[List.take_zero,List.foldl_nil];exact Ext.refl _⟩
   case round=>
    obtain ⟨m,hm,rfl,K⟩:=hrel;have Y:Ext S wr:=((Ext.refl S).alloc _).trans K;by_cases gb:m<t.length
    ·obtain ⟨gS,c5,hX,Z⟩:=(gx.ext Y).at gb;injection hX with hX hv10 hv11;subst hX;clear hv10 hv11;have hM:(t.take (m+1)).foldl laterE x=laterE ((t.take m).foldl laterE x) t[m]:=(by rw[Zq gb,List.foldl_append];rfl);have hL:=Zdv (t.take m) x (hH.out x (by simp)) λy hy=>hH.out y (ZJ _ (Jr hy));have hZ:=hH.out t[m] (by simp);obtain ⟨E,hI⟩:∃E,(t.take m).foldl laterE x=E:=⟨_,rfl⟩;obtain ⟨y,hy⟩:∃y,t[m]=y:=⟨_,rfl⟩;rw[hI,hy] at hM;rw[hI] at hL K;rw[hy] at hZ Z;have gh:=gd hM;have hq:=gd (λ(w':Wq) (gt:Env w')=>(gj.out.resolve_left (by have:=h4.out;omega)) E y w' gt hL hZ);obtain ⟨r,hr⟩:∃r,laterE E y=r:=⟨_,rfl⟩;have HR:=gd hr;rw[hr] at hq;have gu:Env wr:=hE.ext (hY.trans (hx.trans Y));have h7:=λ(d:Wq) (hd:Ext wr d)=>(K.trans hd).heap (Zf S _);have gf:=gd h7;have gn:=gd K;clear hM hI hy hr hL hZ h7;obtain ⟨h5,X,hf,M,hw⟩:=E;obtain ⟨I,D,F,A,H⟩:=y;obtain ⟨go,gp,gq,gr,gs⟩:=Z;simp only at go gp gq gr gs;have gQ:(0:Int)<=(m:Int):=(by omega);have gT:(m:Int)<(t.length:Int):=(by omega);have hb:Ext (S.alloc (.cells (eCells ⟨h5,X,hf,M,hw⟩).toArray 76)) (wr.alloc (.cells #[.string I,.string D,.string F,.string A,nI H] 76)):=K.alloc _;have he:Ext (wr.alloc (.cells (eCells ⟨I,D,F,A,H⟩).toArray 76)) (wr.alloc (.cells #[.string I,.string D,.string F,.string A,nI H] 76)):=Ext.refl _;have e0:(wr.alloc (.cells #[.string I,.string D,.string F,.string A,nI H] 76)).cell? ⟨S.heap.size,0,none⟩=some (.string h5):=hb.boxed 0 _ rfl;have e1:(wr.alloc (.cells #[.string I,.string D,.string F,.string A,nI H] 76)).cell? ⟨S.heap.size,1,none⟩=some (.string X):=hb.boxed 1 _ rfl;have e2:(wr.alloc (.cells #[.string I,.string D,.string F,.string A,nI H] 76)).cell? ⟨S.heap.size,2,none⟩=some (.string hf):=hb.boxed 2 _ rfl;have e3:(wr.alloc (.cells #[.string I,.string D,.string F,.string A,nI H] 76)).cell? ⟨S.heap.size,3,none⟩=some (.string M):=hb.boxed 3 _ rfl;have e4:(wr.alloc (.cells #[.string I,.string D,.string F,.string A,nI H] 76)).cell? ⟨S.heap.size,4,none⟩=some (nI hw):=hb.boxed 4 _ rfl;have y0:(wr.alloc (.cells #[.string I,.string D,.string F,.string A,nI H] 76)).cell? ⟨wr.heap.size,0,none⟩=some (.string I):=he.boxed 0 _ rfl;have y1:(wr.alloc (.cells #[.string I,.string D,.string F,.string A,nI H] 76)).cell? ⟨wr.heap.size,1,none⟩=some (.string D):=he.boxed 1 _ rfl;have y2:(wr.alloc (.cells #[.string I,.string D,.string F,.string A,nI H] 76)).cell? ⟨wr.heap.size,2,none⟩=some (.string F):=he.boxed 2 _ rfl;have y3:(wr.alloc (.cells #[.string I,.string D,.string F,.string A,nI H] 76)).cell? ⟨wr.heap.size,3,none⟩=some (.string A):=he.boxed 3 _ rfl;have y4:(wr.alloc (.cells #[.string I,.string D,.string F,.string A,nI H] 76)).cell? ⟨wr.heap.size,4,none⟩=some (nI H):=he.boxed 4 _ rfl;have gw:Env (wr.alloc (.cells #[.string I,.string D,.string F,.string A,nI H] 76)):=gu.ext ((Ext.refl wr).alloc _);unfold eCells at hq;dsimp only at hq;clear hb he
     go_wp2_with (first|(refine Zc rfl 76 (.tmp 6) (.tmp 28) rfl S.heap.size _ rfl rfl _ _ gy J1 rfl (Zcx (XK r)) ?_)|(go_at_call 112;refine (hq.out _ gw).mono ?_;rintro e w3 ⟨rfl,ht⟩;(have gL:=gn.out.trans (((Ext.refl wr).alloc _).trans ht));(have gy:=gf.out w3 (((Ext.refl wr).alloc _).trans ht))))
     go_roundw
     case rel=>have hR:=HR.out;have hF:=gh.out;refine ⟨m+1,by omega,by go_num,?_⟩;rw[hF,hR];exact EY gL
     case measure=>simp[intOf];omega
    ·have gG:m=t.length:=(by omega);subst gG;rw[ZM (Zb _)] at K;obtain ⟨r,hr⟩:∃r,t.foldl laterE x=r:=⟨_,rfl⟩;rw[hr] at K;have HR:=gd hr;clear hr;have e0:wr.cell? ⟨S.heap.size,0,none⟩=some (.string r.id):=K.boxed 0 _ rfl;have e1:wr.cell? ⟨S.heap.size,1,none⟩=some (.string r.title):=K.boxed 1 _ rfl;have e2:wr.cell? ⟨S.heap.size,2,none⟩=some (.string r.link):=K.boxed 2 _ rfl;have e3:wr.cell? ⟨S.heap.size,3,none⟩=some (.string r.content):=K.boxed 3 _ rfl;have e4:wr.cell? ⟨S.heap.size,4,none⟩=some (nI r.upd):=K.boxed 4 _ rfl;have R:=Q.ext Y;have ge:=hx.trans Y;have hP:(((ordE.firsts l).take k).map (jE l)).length=k:=(by have:=ho.out;rw[Zk,ZG];omega);unfold OEnts at R;have h0:Hid (((((ordE.firsts l).take k).map (jE l)).length+1)*72<=140737488355328):=gd (by rw[hP];omega);have h3:Hid ((((ordE.firsts l).take k).map (jE l)).length+1<=maxLen):=gd (by rw[hP];unfold maxLen;omega);obtain ⟨O,hO⟩:∃O,((ordE.firsts l).take k).map (jE l)=O:=⟨_,rfl⟩;rw[hO] at R hP h0 h3;have HO:=gd hO;clear hO
     go_wp2_with (first|(at_builtin;refine ZH _ rfl (.tmp 30) (.tmp 32) _ rfl w1.heap.size 76 i0 _ 5 72 underlying53 gE gM gN gO rfl (by decide) _ _ _ rfl (R.alloc _) _ 1 (eCells r) rfl (Yp rfl (by decide)) (XK _) h3.out h0.out ?_ ?_;(have:=ge.size;simp;omega);intro v3 w3 hS gA gP;(have ht:Ext w1 w3:=Ext.app (ge.alloc _) gA (R.alloc _) (Zb _))))
     go_roundw
     case rel=>have hT:=gm.out;have hO:=HO.out;have hR:=HR.out;refine ⟨k+1,by omega,by go_num,?_,ht⟩;rw[hT,hO,hR];exact OEnts.snoc hS
     case measure=>simp[intOf];omega
  ·have gF:k=gv.length:=(by omega);subst gF;have V:(ordE.firsts l).take gv.length=ordE.firsts l:=ZM (by rw[ho.out];exact Zb _);rw[V,<-Zag] at Q;have hN:(ordE.joined l).length<=1000000:=(by rw[Zag,Zk,<-ho.out];exact gC);have hj:=λl'=>ordE.sorted_joined l l';obtain ⟨J,hJ⟩:∃J,ordE.joined l=J:=⟨_,rfl⟩;rw[hJ] at Q hN hj;have h1:=gd hj;have hws:=hY.size;have h8:∀g,u3.ownBlock=some g->w.heap.size<=g:=λg hg=>Zv hws (World.ownsRow.lt Q g hg).1;have gc:=Zif u3 J wr w1.heap.size Q hN;obtain ⟨A9,c9,rfl,_,_⟩:=Q.reads.form;have gl:=gd gc;have gi:=gd h8;clear gc hj hJ V hN h8
   go_wp2_with (go_at_call 113;(have hz:=gl.out);(with_reducible refine Za hz ?_);clear hz;rintro e w9 ⟨rfl,l',hp,hs,hU,gD⟩)
   go_ret;have hc:=h1.out l' hp hs;subst hc;exact ⟨_,rfl,hU.mono hws,Ext.grown' (B:=0) (hY.trans hx) gD gi.out⟩
end
section
variable {W:World} {g:Nat} {v:Value} {z:ByteArray}
theorem Zkk:(prog.info? 157).map (λi=>(i.zero,i.size,i.bytes))=some (some (.pointer none),1,8):=by kernel_rfl
theorem ZkH (l:List ByteArray):∀u∈l.map Value.string,u.oneCell'=true:=by
 intro u h;obtain ⟨s,_,rfl⟩:=ZO.1 h;rfl
def zeroC:Fc:=⟨sN,sN,zeroF⟩
theorem VD (w:Wq):RdC w zeroC:=⟨RSl.nil w 1,RSl.nil w 5⟩
theorem Ug (g:Option Nat):awayC zeroC g:=⟨Or.inl rfl,Or.inl rfl⟩
theorem Zck {b:Nat} {l:List ByteArray} {x y:ByteArray} (H:Env W) (I:Ptrs W v (ptrsF g b l x y z)) (F:firstErr (l++ [x,y,z])≠0):
 Calls prog 103 #[v] W λe w'=>e= .returned (nI (firstErr (l++ [x,y,z]):Nat))/\Ext W w':=by
 refine (JD v _ W H I).mono ?_;rintro e w' ⟨A,D⟩;rw[It] at A D;exact ⟨A,D.elim (λh=>absurd h.1 F) λh=>h.2⟩
end
section
attribute [local go_sem ↓] Go.wp_at_zero Go.wp_at_succ
end
section
attribute [local go_sem ↓] Go.wp_at_zero Go.wp_at_succ
end
end Go.Proofs.YtnlafkgkcnenfaaGreatDoor
