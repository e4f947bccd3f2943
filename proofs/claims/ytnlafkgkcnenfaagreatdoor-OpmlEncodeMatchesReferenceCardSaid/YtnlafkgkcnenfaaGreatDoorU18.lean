/- Parts of the proof: contracts and plain laws. -/
import Derived.Test.YtnlafkgkcnenfaaGreatDoorU17
namespace Go.Proofs.YtnlafkgkcnenfaaGreatDoor
open Go Go.RowKit Go.Sort _root_.Go.Proofs.Tryz
set_option linter.unusedVariables false
set_option linter.unusedSimpArgs false
set_option maxRecDepth 100000
set_option maxHeartbeats 16000000
section
variable {c:Nat} {w:World}
theorem ZnH:prog.underlying 53=some (.slice (prog.elem 53)):=by kernel_rfl
theorem ZoQ (w:Wq):(Go.sizeOf (prog.elem 53)).run prog w= .ok 5 w:=by kernel_rfl
theorem ZpU {A:Option Addr} {x:Ent} {t:List Ent} (h:REnts w (.slice A (t.length+1) c) (x::t)):
 ∃v',(∀H:Wq,(Instr.slice 53 (.slice A (t.length+1) c) (some (nI 1)) none none).run prog H= .ok v' H)/\REnts w v' t:=by
 refine ⟨sliced A 1 (t.length+1) c 5,λH=> ?_,?_⟩
 ·rw[run_slice_l (P:=prog) (w:=H) 53 A (t.length+1) c ZnH .i64 1 om om];rw[ZoQ];rfl
 ·obtain ⟨Q,Y,Z,e,R,J,S,U⟩:=h;injection e with e1 e2 e3;subst e1 e3;clear e2;have V:(flatE t).length=t.length*5:=by have:(flatE (x::t)).length=(t.length+1)*5:=(by simpa using Q);have e:flatE (x::t)=eCells x++flatE t:=(by unfold flatE;simp);rw[e,Zb] at this;have e5:(eCells x).length=5:=rfl;omega
  refine ⟨V,?_⟩;have D:∀j u,(flatE t)[j]? =some u->∃ad,A=some ad/\w.cell? (ad.add (5+j))=some u:=by intro j u F;refine U (5+j) u ?_;have e:flatE (x::t)=eCells x++flatE t:=(by unfold flatE;simp);rw[e,Yt (by show 5<=5+j;omega)];simpa [eCells] using F
  unfold sliced;have hn:t.length+1<=c:=by simpa using R
  by_cases hc:c=1
  ·have X:t= []:=Zm om;subst X;exact ⟨_,_,rfl,by simp,Zp (Jz _ _) J,λ_=>by omega,λj u F=>by simp[flatE] at F⟩
  ·cases A with
   |none=>have:=S rfl;omega
   |some ad=>refine ⟨some (ad.add 5),c - 1,by rw[Ze hc];rfl,om,Zp (Jz _ _) J,(λe=>by cases e),λj u F=>⟨_,rfl,?_⟩⟩;obtain ⟨K,e,I⟩:=D j u F;injection e with e;subst e;rw[Qa];exact I
def jE (l:List Ent) (s:ByteArray):Ent:=(ordE.got l s).getD zeroE
theorem Zcj (l:List Ent):ordE.joined l=(ordE.firsts l).map (jE l):=by
 have D:∀fs:List ByteArray,(∀s∈fs,s∈ordE.firsts l)->fs.filterMap (ordE.got l)=fs.map (jE l):=by
  intro fs
  induction fs with
  |nil=>intro _;rfl
  |cons s t ih=>intro h;obtain ⟨x,F⟩:=(Ord.got_isSome_iff (O:=ordE) l s).2 ((ordE.mem_firsts l s).1 (h s (by simp)));rw[List.filterMap_cons_some F,Zw,ih λs A=>h s (by simp[A])];unfold jE;rw[F];rfl
 exact D _ λs A=>A
theorem Zox {l:List Ent} {s:ByteArray} {x:Ent} {t:List Ent} (h:grp l s=x::t):jE l s=t.foldl laterE x:=by
 unfold jE Ord.got;have A:(l.filter λx=>decide (ordE.id x=s))=x::t:=h;rw[A];rfl
theorem ZmP {l:List Ent} {s:ByteArray} (h:s∈ordE.firsts l):∃x t,grp l s=x::t:=by
 obtain ⟨x,A,e⟩:=(ordE.mem_firsts l s).1 h;have:x∈grp l s:=by unfold grp;exact YW.2 ⟨A,by simpa using e⟩
 cases hg:grp l s with
 |nil=>rw[hg] at this;simp at this
 |cons y t=>exact ⟨y,t,rfl⟩
theorem Zgz:∀(t:List Ent) (x:Ent),eok x->(∀y∈t,eok y)->eok (t.foldl laterE x)
 | [],_,h,_=>h
 |y::t,x,h,ht=>Zgz t _ (Zcr h (ht y (by simp))) λz A=>ht z (by simp[A])
def LatE:Prop:=∀(a b:Ent) (w:Wq),Env w->eok a->eok b->Calls prog 112 #[.agg (eCells a).toArray,.agg (eCells b).toArray] w λx w'=>x= .returned (.agg (eCells (laterE a b)).toArray)/\Ext w w'
theorem IB (v:Value) (l:List Ent) (w:Wq) (hE:Env w) (h:REnts w v l) (hl:∀x∈l,eok x) (hn:l.length<=1000000) (h7:l.length<=1\/LatE):
 Calls prog 68 #[v] w λx w'=>∃v',x= .returned v'/\OEnts w' w.heap.size v' (ordE.canon l)/\Ext w w':=by
 obtain ⟨i0,gF,gN,gO,gP⟩:=YH IN;have h3:=gd (ZgE v l w h (λx hx=>by have:=(hl x hx).2;omega) hn);have gh:=gd (Zb1 l);have HL:=gd hl;have gk:=gd h7;clear hl h7;go_enter func68,ntmps68
 go_wp2_with (go_at_call 110;refine (h3.out).mono ?_;rintro e w1 ⟨v1,gv,rfl,hG,hZ⟩;obtain ⟨A1,c1,hX⟩:=hG.form;subst hX)
 have ga:=hG.len;have gA:=gh.out;have gD:gv.length<=1000000:=om
 have HG:=gd hG;have hq:=gd ga;clear hG ga gA;go_loopw [3,12] (λo i wr=>∃k:Nat,k<=gv.length/\i=nI k/\OEnts wr w1.heap.size o (((ordE.firsts l).take k).map (jE l))/\Ext w1 wr) (λ_ i _=>gv.length - (intOf i).toNat)
 case atStart=>exact ⟨0,Zj _,rfl,OEnts.nil _ _,Ext.refl _⟩
 case round=>
  obtain ⟨k,hk,rfl,R,hx⟩:=hrel;by_cases hS:k<gv.length
  ·have hi:=HG.out.ext hx;obtain ⟨g,cap,hv,_,_⟩:=hi.row.form om;injection hv with hX hv2 hv3;subst hX;have gC:wr.cell? ⟨g,k,none⟩=some gv[k]:=(by rw[hv3] at hi;rw[hi.row.cellAt k om];exact Zh hS);have X:k<(ordE.firsts l).length:=(by rw[<-hq.out];exact hS);have hB:(ordE.firsts l)[k]∈ordE.firsts l:=ZL X;have hb:=hi.each k (ordE.firsts l)[k] gv[k] (Zh X) (Zh hS);obtain ⟨x,t,V⟩:=ZmP hB;have gb:=Zox V;rw[V] at hb;have hW:((ordE.firsts l).take (k+1)).map (jE l)=((ordE.firsts l).take k).map (jE l)++ [jE l (ordE.firsts l)[k]]:=(by rw[Zr X,ZS];rfl);rw[gb] at hW;have gn:=gd hW;have hH:∀y∈x::t,eok y:=λy hy=>HL.out y (by rw[<-V] at hy;exact (YW.1 hy).1);have hD:t.length+1<=l.length:=(by have:=ZjQ l (ordE.firsts l)[k];rw[V] at this;simpa using this);have gW:t.length+1<=1000000:=om;have h5:=gd hD;clear hD;obtain ⟨u,hu⟩:∃u,gv[k]=u:=⟨_,rfl⟩;rw[hu] at hb gC;obtain ⟨A2,c2,gI,_,_⟩:=hb.reads.form;subst gI;have hC:REnts wr (.slice A2 (t.length+1) c2) (x::t):=hb.reads;obtain ⟨v2,gV,hL⟩:=ZpU hC;obtain ⟨ad,c3,gJ,ha⟩:=hb.reads.at (k:=0) (by simp);injection gJ with hv5 hv6 hv7;subst hv5;rw[Xj] at ha;have hj:ad.add 0=ad:=add_zero ad;rw[hj] at ha;obtain ⟨a0,a1,a2,a3,a4⟩:=ha;simp only[JQ] at a0 a1 a2 a3 a4;have gl:=gd hL;have hI:=gd hH;obtain ⟨A3,c4,gK,_,_⟩:=hL.form;subst gK;have gS:=gd hu;clear hi hv2 hv3 hv6 hv7 hB V gb hW hb hC hH hL hu hj X;obtain ⟨U,gL⟩:∃U:Wq,U=wr:=⟨_,rfl⟩;subst gL;have gy:=gl.out;go_wp2;go_loopw [22] (λi w2=>∃m:Nat,m<=t.length/\i=nI m/\Ext (U.alloc (.cells (eCells ((t.take m).foldl laterE x)).toArray 76)) w2) (λi _=>t.length - (intOf i).toNat)
   case atStart=>exact ⟨0,Zj _,rfl,by dsimp only[List.take_zero,List.foldl_nil];exact Ext.refl _⟩
   case round=>
    obtain ⟨m,hm,rfl,K⟩:=hrel;have Z:Ext U wr:=((Ext.refl U).alloc _).trans K;by_cases gc:m<t.length
    ·obtain ⟨gT,c5,hY,ha⟩:=(gy.ext Z).at gc;injection hY with hY hv10 hv11;subst hY;clear hv10 hv11;have hN:(t.take (m+1)).foldl laterE x=laterE ((t.take m).foldl laterE x) t[m]:=(by rw[Zr gc,List.foldl_append];rfl);have hM:=Zgz (t.take m) x (hI.out x (by simp)) λy hy=>hI.out y (Zn _ (Y4 hy));have h0:=hI.out t[m] (by simp);obtain ⟨E,hK⟩:∃E,(t.take m).foldl laterE x=E:=⟨_,rfl⟩;obtain ⟨y,hy⟩:∃y,t[m]=y:=⟨_,rfl⟩;rw[hK,hy] at hN;rw[hK] at hM K;rw[hy] at h0 ha;have gi:=gd hN;have ht:=gd (λ(w':Wq) (gu:Env w')=>(gk.out.resolve_left (by have:=h5.out;omega)) E y w' gu hM h0);obtain ⟨r,hr⟩:∃r,laterE E y=r:=⟨_,rfl⟩;have HR:=gd hr;rw[hr] at ht;have gw:Env wr:=hE.ext (hZ.trans (hx.trans Z));have h8:=λ(d:Wq) (hd:Ext wr d)=>(K.trans hd).heap (Zg U _);have gg:=gd h8;have go:=gd K;clear hN hK hy hr hM h0 h8;obtain ⟨h6,Y,hh,Q,hA⟩:=E;obtain ⟨I,D,F,A,H⟩:=y;obtain ⟨gp,gq,gr,gs,gt⟩:=ha;simp only at gp gq gr gs gt;have gR:(0:Int)<=(m:Int):=om;have gU:(m:Int)<(t.length:Int):=om;have he:Ext (U.alloc (.cells (eCells ⟨h6,Y,hh,Q,hA⟩).toArray 76)) (wr.alloc (.cells #[.string I,.string D,.string F,.string A,nI H] 76)):=K.alloc _;have hf:Ext (wr.alloc (.cells (eCells ⟨I,D,F,A,H⟩).toArray 76)) (wr.alloc (.cells #[.string I,.string D,.string F,.string A,nI H] 76)):=Ext.refl _;have e0:(wr.alloc (.cells #[.string I,.string D,.string F,.string A,nI H] 76)).cell? ⟨U.heap.size,0,none⟩=some (.string h6):=he.boxed 0 _ rfl;have e1:(wr.alloc (.cells #[.string I,.string D,.string F,.string A,nI H] 76)).cell? ⟨U.heap.size,1,none⟩=some (.string Y):=he.boxed 1 _ rfl;have e2:(wr.alloc (.cells #[.string I,.string D,.string F,.string A,nI H] 76)).cell? ⟨U.heap.size,2,none⟩=some (.string hh):=he.boxed 2 _ rfl;have e3:(wr.alloc (.cells #[.string I,.string D,.string F,.string A,nI H] 76)).cell? ⟨U.heap.size,3,none⟩=some (.string Q):=he.boxed 3 _ rfl;have e4:(wr.alloc (.cells #[.string I,.string D,.string F,.string A,nI H] 76)).cell? ⟨U.heap.size,4,none⟩=some (nI hA):=he.boxed 4 _ rfl;have y0:(wr.alloc (.cells #[.string I,.string D,.string F,.string A,nI H] 76)).cell? ⟨wr.heap.size,0,none⟩=some (.string I):=hf.boxed 0 _ rfl;have y1:(wr.alloc (.cells #[.string I,.string D,.string F,.string A,nI H] 76)).cell? ⟨wr.heap.size,1,none⟩=some (.string D):=hf.boxed 1 _ rfl;have y2:(wr.alloc (.cells #[.string I,.string D,.string F,.string A,nI H] 76)).cell? ⟨wr.heap.size,2,none⟩=some (.string F):=hf.boxed 2 _ rfl;have y3:(wr.alloc (.cells #[.string I,.string D,.string F,.string A,nI H] 76)).cell? ⟨wr.heap.size,3,none⟩=some (.string A):=hf.boxed 3 _ rfl;have y4:(wr.alloc (.cells #[.string I,.string D,.string F,.string A,nI H] 76)).cell? ⟨wr.heap.size,4,none⟩=some (nI H):=hf.boxed 4 _ rfl;have gx:Env (wr.alloc (.cells #[.string I,.string D,.string F,.string A,nI H] 76)):=gw.ext ((Ext.refl wr).alloc _);unfold eCells at ht;dsimp only at ht;clear he hf
     go_wp2_with (first|(refine Zf rfl 76 (.tmp 6) (.tmp 28) rfl U.heap.size _ rfl rfl _ _ gz Vw rfl (Zcz (X1 r)) ?_)|(go_at_call 112;refine (ht.out _ gx).mono ?_;rintro e w3 ⟨rfl,hw⟩;have gM:=go.out.trans (((Ext.refl wr).alloc _).trans hw);have gz:=gg.out w3 (((Ext.refl wr).alloc _).trans hw)))
     go_roundw
     case rel=>have hR:=HR.out;have hF:=gi.out;refine ⟨m+1,om,by go_num,?_⟩;rw[hF,hR];exact ZbX gM
     case measure=>simp[intOf];omega
    ·have gH:m=t.length:=om;subst gH;rw[ZQ (Zc _)] at K;obtain ⟨r,hr⟩:∃r,t.foldl laterE x=r:=⟨_,rfl⟩;rw[hr] at K;have HR:=gd hr;clear hr;have e0:wr.cell? ⟨U.heap.size,0,none⟩=some (.string r.id):=K.boxed 0 _ rfl;have e1:wr.cell? ⟨U.heap.size,1,none⟩=some (.string r.title):=K.boxed 1 _ rfl;have e2:wr.cell? ⟨U.heap.size,2,none⟩=some (.string r.link):=K.boxed 2 _ rfl;have e3:wr.cell? ⟨U.heap.size,3,none⟩=some (.string r.content):=K.boxed 3 _ rfl;have e4:wr.cell? ⟨U.heap.size,4,none⟩=some (nI r.upd):=K.boxed 4 _ rfl;have S:=R.ext Z;have gf:=hx.trans Z;have hQ:(((ordE.firsts l).take k).map (jE l)).length=k:=(by have:=hq.out;rw[Zq,ZM];omega);unfold OEnts at S;have h1:Hid (((((ordE.firsts l).take k).map (jE l)).length+1)*72<=140737488355328):=gd (by rw[hQ];omega);have h4:Hid ((((ordE.firsts l).take k).map (jE l)).length+1<=maxLen):=gd (by rw[hQ];unfold maxLen;omega);obtain ⟨O,hO⟩:∃O,((ordE.firsts l).take k).map (jE l)=O:=⟨_,rfl⟩;rw[hO] at S hQ h1 h4;have HO:=gd hO;clear hO
     go_wp2_with (first|(at_builtin;refine ZO _ rfl (.tmp 30) (.tmp 32) _ rfl w1.heap.size 76 i0 _ 5 72 underlying53 gF gN gO gP rfl (by decide) _ _ _ rfl (S.alloc _) _ 1 (eCells r) rfl (Yo rfl (by decide)) (X1 _) h4.out h1.out ?_ ?_;(have:=gf.size;simp;omega);intro v3 w3 hU gB gQ;have hw:Ext w1 w3:=Ext.app (gf.alloc _) gB (S.alloc _) (Zc _)))
     go_roundw
     case rel=>have hT:=gn.out;have hO:=HO.out;have hR:=HR.out;refine ⟨k+1,om,by go_num,?_,hw⟩;rw[hT,hO,hR];exact OEnts.snoc hU
     case measure=>simp[intOf];omega
  ·have gG:k=gv.length:=om;subst gG;have X:(ordE.firsts l).take gv.length=ordE.firsts l:=ZQ (by rw[hq.out];exact Zc _);rw[X,<-Zcj] at R;have hP:(ordE.joined l).length<=1000000:=(by rw[Zcj,Zq,<-hq.out];exact gD);have ho:=λl'=>ordE.sorted_joined l l';obtain ⟨J,hJ⟩:∃J,ordE.joined l=J:=⟨_,rfl⟩;rw[hJ] at R hP ho;have h2:=gd ho;have hws:=hZ.size;have h9:∀g,u3.ownBlock=some g->w.heap.size<=g:=λg hg=>Zp hws (World.ownsRow.lt R g hg).1;have ge:=Zl0 u3 J wr w1.heap.size R hP;obtain ⟨A9,c9,rfl,_,_⟩:=R.reads.form;have gm:=gd ge;have gj:=gd h9;clear ge ho hJ X hP h9
   go_wp2_with (go_at_call 113;have hz:=gm.out;refine Za hz ?_;clear hz;rintro e w9 ⟨rfl,l',hp,hs,hV,gE⟩)
   go_ret;have hc:=h2.out l' hp hs;subst hc;exact ⟨_,rfl,hV.mono hws,Ext.grown' (B:=0) (hZ.trans hx) gE gj.out⟩
end
section
variable {W:World} {g:Nat} {v:Value} {z:ByteArray}
theorem Zou:(prog.info? 157).map (λi=>(i.zero,i.size,i.bytes))=some (some (.pointer none),1,8):=by kernel_rfl
theorem ZoT (l:List ByteArray):∀u∈l.map Value.string,u.oneCell'=true:=by
 intro u h;obtain ⟨s,_,rfl⟩:=ZU.1 h;rfl
def zeroC:Fc:=⟨sN,sN,zeroF⟩
theorem Zdd (w:Wq):RdC w zeroC:=⟨RSl.nil w 1,RSl.nil w 5⟩
theorem Ij (g:Option Nat):awayC zeroC g:=⟨Or.inl rfl,Or.inl rfl⟩
theorem Zfg {b:Nat} {l:List ByteArray} {x y:ByteArray} (H:Env W) (I:Ptrs W v (ptrsF g b l x y z)) (F:firstErr (l++ [x,y,z])≠0):
 Calls prog 103 #[v] W λe w'=>e= .returned (nI (firstErr (l++ [x,y,z]):Nat))/\Ext W w':=by
 refine (JX v _ W H I).mono ?_;rintro e w' ⟨A,D⟩;rw[Zad] at A D;exact ⟨A,D.elim (λh=>absurd h.1 F) λh=>h.2⟩
end
def PthC (w:Wq) (g:Nat) (x:Fc):Prop:=RdC w x/\awayC x (some g)/\x.f.path.length<=16777216
instance:Inhabited Fc:=⟨⟨.slice none 0 0,.slice none 0 0,zeroF⟩⟩
instance (w:World) (g:Nat):Inhabited {x:Fc // PthC w g x}:=⟨⟨⟨.slice none 0 0,.slice none 0 0,zeroF⟩,⟨RSl.nil w 1,RSl.nil w 5⟩,⟨Or.inl rfl,Or.inl rfl⟩,Zj _⟩⟩
theorem Zpg (w:Wq):(isAgg 55).run prog w= .ok true w:=by kernel_rfl
theorem ZpT (w:Wq):(Go.sizeOf 55).run prog w= .ok 6 w:=by kernel_rfl
theorem ZkF (args:Array Value) (w:Wq):(callFunc 70 args).run prog w= .ok (.enter 70 args) w:=enters_of func70 (by kernel_rfl) rfl args w
theorem Zl1 (v:Value) (l:List Fc) (w:Wq) (B:Nat) (h:HFs w B v l) (hp:∀x∈l,x.f.path.length<=16777216) (hn:l.length<=1000000):
 Calls prog 69 #[v,.func (.func 70) #[] #[]] w λe w'=>e= .returned (.tuple #[])/\
  ∃l':List Fc,l'.Perm l/\l'.Pairwise (λa b=>ordF.lt b.f a.f=false)/\HFs w' B v l'/\w.grownBy w' v.ownBlock:=by
 rcases YL l.length with Z|Z
 ·have hl:l= []:=Zm Z;subst hl;obtain ⟨A,c,rfl,_,_⟩:=h.row.reads.form;refine (slices_SortFunc_none_f69 (α:=Fc) A c _ w).mono ?_;rintro e w' ⟨rfl,rfl⟩;exact ⟨rfl,[],List.Perm.refl _,List.Pairwise.nil,h,World.grownBy.refl _ _⟩
 ·obtain ⟨g,cap,rfl,hb,hg⟩:=X6 h.row Z;have hP:∀x∈l,PthC w g x:=λx Q=>⟨h.rd x Q,h.away x Q,hp x Q⟩;obtain ⟨L,hL⟩:∃L:List {x:Fc // PthC w g x},L.map Subtype.val=l:=⟨l.attachWith _ hP,by simp⟩;have D:L.length=l.length:=by rw[<-hL,Zq]
  let enc:{x:Fc // PthC w g x}->List Value:=λs=>cellsC s.1
  have U:∀M:List {x:Fc // PthC w g x},(M.map enc).flatten=flatC (M.map Subtype.val):=λM=>by unfold flatC;rw[JR];rfl
  have Y:w.ownsRow B 55 6 (.slice (some ⟨g,0,none⟩) L.toArray.size cap) L.toArray.size (L.toArray.toList.map enc).flatten:=by rw[List.toList_toArray,U,hL,List.size_toArray,D];exact h.row
  let X:{x:Fc // PthC w g x}->{x:Fc // PthC w g x}->Int:=λs t=>feedCmp s.1.f t.1.f
  have ha:IsCmp X:=QE.comap λs:{x:Fc // PthC w g x}=>s.1.f;have R:∀(m:Nat) (os:Array Obj) (S:Array {x:Fc // PthC w g x}),S.size=L.toArray.size->∀s:{x:Fc // PthC w g x},RdC (sortWorldK enc 6 w g 0 m S os) s.1:=λm os S H s=>
   s.2.1.grown (GC enc 6 (λ_=>rfl) (m:=m) (os:=os) Y H).2 s.2.2.1
  have hc:=slices_SortFunc_f69 6 Zpg ZpT enc (λ_=>rfl) (λs=>Jv s.2.1.sl) X (ZnR ha) 70 #[] g 0 cap L.toArray w ZkF
   (λm os S H x y=>VJ x.1 y.1 _ x.2.1.sl.2 y.2.1.sl.2 (R m os S H x).1 (R m os S H y).1 x.2.2.2) (IM enc 6 (λ_=>rfl) Y) hg (by rw[List.size_toArray,D];omega)
  rw[List.size_toArray,D] at hc;refine hc.mono ?_;rintro e w' ⟨rfl,F,n,os,V,hs,rfl⟩;have I:F.size=L.toArray.size:=V.1;have ho:=GC enc 6 (λ_=>rfl) (m:=n) (os:=os) Y I;have J:F.toList.Perm L:=by
   have:=V.2.2;have hl:L.length=F.toList.length:=(by simpa using I.symm);rw[<-D] at this;simp at this
   rwa [hl,ZQ (Zc _)] at this
  have K:(F.toList.map Subtype.val).Perm l:=by rw[<-hL];exact J.map _
  refine ⟨rfl,F.toList.map Subtype.val,K,?_,⟨?_,?_,?_⟩,ho.2⟩
  ·rw[List.pairwise_map,Xh];intro i j hi hj hd;have h1:=hs i j (Zj _) hd (by rw[<-D,<-List.size_toArray,<-I];simpa using hj);rw[getElem!_pos F j (by simpa using hj),getElem!_pos F i (by simpa using hi)] at h1;simpa [ltOf,ordF,ltF,X] using h1
  ·unfold OFcs;have e1:(F.toList.map Subtype.val).length=l.length:=K.length_eq;rw[e1];have:=ho.1;rw[U,List.size_toArray,D] at this;exact this
  ·intro x Q;obtain ⟨s,_,rfl⟩:=ZU.1 Q;exact R n os F I s
  ·intro x Q;exact h.away x (K.mem_iff.1 Q)
theorem Zgn:∀(l:List Fd) (k:Nat) (A:k<l.length),(∀e∈l.take k,errF e=0)->errF l[k]≠0->errFs l=errF l[k]
 | [],k,A,_,_=>by simp at A
 |e::t,0,_,_,h=>by simp only[errFs];rw[Ze (by simpa using h)];rfl
 |e::t,k+1,A,h,h2=>by
  simp only[errFs]
  rw[Zi (h e (by simp)),Zgn t k (by simpa using A) (λx D=>h x (by simp[D])) (by simpa using h2)]
  rfl
theorem Xl:(prog.info? 31).map (λi=>i.size)=some 1:=by kernel_rfl
theorem Zmi:∀(L:List Fc) (l:List Fd),L.map Fc.f=l->allE L=(l.map λf=>f.ents.length).sum
 | [],_,h=>by subst h;rfl
 |x::t,_,h=>by subst h;unfold allE;rw[JR];rfl
theorem Ei:∀(l:List Fc),((l.map λx=>collF x.f).map λf=>f.ents.length).sum<=allE l
 | []=>Zc _
 |x::t=>by
  have h:=Ei t
  have A:(collF x.f).ents.length<=x.f.ents.length:=by
   show (ordE.canon (x.f.ents.map collE)).length<=_
   have:=Em ordE (x.f.ents.map collE)
   rwa [Zq] at this
  unfold allE at*
  simp only[Zw,YM] at h|-
  omega
theorem Zb3 (l:List Ent):∀u∈flatE l,u.oneCell'=true:=by
 intro u h;unfold flatE at h;obtain ⟨c,hc,h⟩:=Zdh.1 h;obtain ⟨e,_,rfl⟩:=ZU.1 hc;exact X1 e u h
section
variable {n:Nat}
theorem ZoD {l:List Nat} (h:n∈l):n<=l.sum:=by
 induction l with
 |nil=>simp at h
 |cons x t ih=>
  rw[YM];rcases ZH.1 h with h|h
  ·omega
  ·have:=ih h;omega
end
theorem Znv {s:List Ent} {e:Ent} (A:∀x∈s,eok x) (D:eok e):∀z∈ordE.put s e,eok z:=by
 intro z F;rcases (Ord.mem_ins _ _ _ _).1 F with h|h
 ·rw[h];exact ZcP s e A D
 ·exact A z (ZcQ s e z h)
theorem Zd6:∀(l s:List Ent),(∀x∈l,eok x)->(∀x∈s,eok x)->∀z∈l.foldl ordE.put s,eok z
 | [],s,_,hs=>hs
 |e::t,s,hl,hs=>Zd6 t _ (λx h=>hl x (Zn _ h)) (Znv hs (hl e (Zx ..)))
def hokF (f:Fd):Prop:=(fok f/\f.path.length<=1000000)/\∀e∈f.ents,eok e
theorem Zk6 {a b:Fd} (h:hokF a) (A:hokF b):hokF (joinF a b):=by
 refine ⟨⟨Zcs h.1.1 A.1.1,?_⟩,Zd6 _ _ A.2 h.2⟩;show (laterF a b).path.length<=1000000;unfold laterF;dsimp only;split
 ·exact A.1.2
 ·exact h.1.2
def sumE (l:List Fd):Nat:=(l.map λf=>f.ents.length).sum
theorem Qn (f:Fd) (t:List Fd):sumE (f::t)=f.ents.length+sumE t:=by unfold sumE;simp
theorem Zk7 (a b:Fd):(joinF a b).ents.length<=a.ents.length+b.ents.length:=QF ordE b.ents a.ents
theorem Zai:∀(l:List Fd) (e:Fd),(∀x∈l,hokF x)->hokF e->hokF (ordF.scan l e).2
 | [],_,_,h=>h
 |x::t,e,hl,h=>by
  unfold Ord.scan
  split
  ·exact Zai t _ (λy A=>hl y (Zn _ A)) (Zk6 (hl x (Zx ..)) h)
  ·exact Zai t e (λy A=>hl y (Zn _ A)) h
theorem Zaj:∀(l:List Fd) (e:Fd),sumE (ordF.scan l e).1+(ordF.scan l e).2.ents.length<=sumE l+e.ents.length
 | [],e=>by simp[Ord.scan,sumE]
 |x::t,e=>by
  have h:ordF.op x e=joinF x e:=rfl
  unfold Ord.scan
  split
  ·have A:=Zaj t (ordF.op x e)
   have D:=Zk7 x e
   rw[Qn]
   rw[h] at A|-
   omega
  ·have A:=Zaj t e
   simp only[Qn]
   omega
theorem ZgO:∀(l:List Fd) (e:Fd),sumE (ordF.ins l e)=sumE l+e.ents.length
 | [],e=>by simp[Ord.ins,sumE]
 |x::t,e=>by
  have ih:=ZgO t e
  unfold Ord.ins
  split
  ·simp only[Qn];omega
  ·simp only[Qn];omega
theorem Znx (l:List Fd) (e:Fd):sumE (ordF.put l e)<=sumE l+e.ents.length:=by
 unfold Ord.put;rw[ZgO];exact Zaj l e
theorem Znw {l:List Fd} {e:Fd} (D:∀x∈l,hokF x) (F:hokF e):∀z∈ordF.put l e,hokF z:=by
 intro z H;rcases (Ord.mem_ins _ _ _ _).1 H with h|h
 ·rw[h];exact Zai l e D F
 ·have A:∀(l:List Fd) (e z:Fd),z∈(ordF.scan l e).1->z∈l:=by
   intro l
   induction l with
   |nil=>intro e z h;simp[Ord.scan] at h
   |cons y t ih=>
    intro e z h;unfold Ord.scan at h;split at h
    ·exact Zn _ (ih _ z h)
    ·rcases ZH.1 h with h|h
     ·rw[h];exact Zx ..
     ·exact Zn _ (ih _ z h)
  exact D z (A l e z h)
section
variable {f:Fd}
theorem Zd9:∀(l s:List Fd),sumE (l.foldl ordF.put s)<=sumE s+sumE l
 | [],s=>by simp[sumE]
 |e::t,s=>by
  have h:=Zd9 t (ordF.put s e)
  have A:=Znx s e
  rw[List.foldl_cons,Qn]
  omega
theorem Zd8:∀(l s:List Fd),(∀x∈l,hokF x)->(∀x∈s,hokF x)->∀z∈l.foldl ordF.put s,hokF z
 | [],_,_,hs=>hs
 |e::t,s,hl,hs=>Zd8 t _ (λx h=>hl x (Zn _ h)) (Znw hs (hl e (Zx ..)))
theorem Ziu (l:List Fd):sumE (ordF.canon l)<=sumE l:=by
 have h:=Zd9 l [];have A:sumE []=0:=rfl;show sumE (l.foldl ordF.put [])<=_;omega
theorem Zit {l:List Fd} (h:∀x∈l,hokF x):∀z∈ordF.canon l,hokF z:=Zd8 l [] h (by simp)
theorem Zkj (h:fokS f) (D:f.path.length<=1000000):hokF (collF f):=by
 have A:=Zd5 h;refine ⟨⟨A.1,?_⟩,A.2.2⟩;show (f.path.map collapse).length<=1000000;rw[Zq];exact D
theorem Zl6 (l:List Fc):sumE (l.map λx=>collF x.f)<=allE l:=Ei l
theorem ZbC:∀{l:List Fc},(∀x∈l,x.f.ents= [])->allE l=0
 | [],_=>rfl
 |x::t,h=>by
  have D:=h x Zx
  have A:=ZbC (l:=t) λy F=>h y (Zn _ F)
  unfold allE at A|-
  rw[Zw,YM,A,D]
  rfl
end
section
variable {α:Type}
def WrV (w:Wq) (B:Nat) (v:Value) (m:Nat):Prop:=∀j,j<m->∃(ad:Addr) (n c:Nat) (u:Value),v= .slice (some ad) n c/\B<=ad.block/\w.cell? (ad.add j)=some u/\w.frozen? (ad.add j)=false
theorem WrV.zero (w:Wq) (B:Nat) (v:Value):WrV w B v 0:=λj h=>absurd h (Nat.not_lt_zero _)
theorem WrV.mono {w:Wq} {B B':Nat} {v:Value} {m:Nat} (h:WrV w B v m) (H:B'<=B):WrV w B' v m:=λj I=>
 let ⟨ad,n,c,u,e,A,D,F⟩:=h j I;⟨ad,n,c,u,e,Zp H A,D,F⟩
theorem WrV.ext {a b:Wq} {B:Nat} {v:Value} {m:Nat} (h:WrV a B v m) (D:Ext a b):WrV b B v m:=λj I=>
 let ⟨ad,n,c,u,e,F,A,H⟩:=h j I
 ⟨ad,n,c,u,e,F,D.cell A,(JP D (ZW a _ A)).trans H⟩
theorem WrV.grown {a b:Wq} {B:Nat} {v:Value} {m:Nat} {r:Option Nat} (h:WrV a B v m) (I:a.grownBy b r) (F:m=0\/v.ownBlock≠r):WrV b B v m:=λj Q=>by
 obtain ⟨ad,n,c,u,rfl,J,H,K⟩:=h j Q;have A:=ZW a _ H;have D:some (ad.add j).block≠r:=by
  rw[U1];rcases F with F|F
  ·omega
  ·exact F
 exact ⟨ad,n,c,u,rfl,J,(I.cell_far _ A D).trans H,(I.frozen_far _ A D).trans K⟩
theorem WrV.setCell {w:Wq} {B:Nat} {v:Value} {m:Nat} (h:WrV w B v m) (p:Addr) (x:Value):WrV (w.setCell p x) B v m:=λj H=>by
 obtain ⟨ad,n,c,u,rfl,A,D,F⟩:=h j H;by_cases e:p=ad.add j
 ·subst e;exact ⟨ad,n,c,x,rfl,A,KJ _ _ _ D,by rw[XX];exact F⟩
 ·exact ⟨ad,n,c,u,rfl,A,(Xi _ _ _ _ e).trans D,by rw[XX];exact F⟩
theorem WrV.setS:∀(l:List (Addr×ByteArray)) {w:Wq} {B:Nat} {v:Value} {m:Nat},WrV w B v m->WrV (setS w l) B v m
 | [],_,_,_,_,h=>h
 |p::t,_,_,_,_,h=>WrV.setS t (h.setCell p.1 _)
theorem WrV.own {w:Wq} {B:Nat} {e:TypeId} {size n:Nat} {v:Value} {xs:List Value} (h:w.ownsRow B e size v n xs):WrV w B v (n*size):=λj D=>by
 have J:0<n:=Nat.pos_of_ne_zero λF=>by rw[F,Xj] at D;exact Nat.not_lt_zero _ D
 obtain ⟨g,cap,rfl,H,_⟩:=X6 h J;have A:(⟨g,0,none⟩:Addr).add j=⟨g,j,none⟩:=by unfold Addr.add;split<;>simp_all
 have I:j<xs.length:=by rw[h.1];exact D
 exact ⟨⟨g,0,none⟩,n,cap,xs[j],rfl,H,by rw[A,h.cellAt j D];exact Zh I,by rw[A];exact h.frozenAt j⟩
def WcF (w:Wq) (B:Nat) (y:Fc):Prop:=WrV w B y.p y.f.path.length/\WrV w B y.es (y.f.ents.length*5)
theorem WcF.ext {a b:Wq} {B:Nat} {y:Fc} (h:WcF a B y) (A:Ext a b):WcF b B y:=⟨h.1.ext A,h.2.ext A⟩
theorem WcF.mono {w:Wq} {B B':Nat} {y:Fc} (h:WcF w B y) (A:B'<=B):WcF w B' y:=⟨h.1.mono A,h.2.mono A⟩
theorem ZbH {l:List α} {P:Prop} (h:l= []\/P):l.length=0\/P:=h.imp (λe=>by rw[e];rfl) λe=>e
theorem Ek {l:List α} {P:Prop} (h:l= []\/P):l.length*5=0\/P:=h.imp (λe=>by rw[e];rfl) λe=>e
theorem WcF.grown {a b:Wq} {B:Nat} {y:Fc} {r:Option Nat} (h:WcF a B y) (D:a.grownBy b r) (A:awayC y r):WcF b B y:=⟨h.1.grown D (ZbH A.1),h.2.grown D (Ek A.2)⟩
end
section
variable {W:World} {cap g:Nat} {v:Value} {z:ByteArray}
theorem Zde (w:Wq) (B:Nat):WcF w B zeroC:=⟨WrV.zero _ _ _,WrV.zero _ _ _⟩
theorem Zff {b:Nat} {A:Option Addr} {l:List ByteArray} {x y:ByteArray} {p e t:Value} (hE:Env W) (hP:Ptrs W v (ptrsF g b l x y z)) (I:g≠b)
 (hA:0<l.length->A=some ⟨g,0,none⟩) (hr:RStrs W (.slice A l.length cap) l)
 (R:W.cell? ⟨b,0,none⟩=some p) (V:W.cell? ⟨b,1,none⟩=some (.string x)) (X:W.cell? ⟨b,2,none⟩=some (.string y)) (Y:W.cell? ⟨b,3,none⟩=some (.string z)) (Z:W.cell? ⟨b,4,none⟩=some t) (h5:W.cell? ⟨b,5,none⟩=some e) (U:W.frozen? ⟨b,5,none⟩=false)
 (hz:firstErr (l++ [x,y,z])=0):
 Calls prog 103 #[v] W λu w'=>u= .returned (nI 0)/\RStrs w' (.slice A l.length cap) (l.map collapse)/\
  (w'.cell? ⟨b,0,none⟩=some p/\w'.cell? ⟨b,1,none⟩=some (.string (collapse x))/\w'.cell? ⟨b,2,none⟩=some (.string (collapse y))/\w'.cell? ⟨b,3,none⟩=some (.string (collapse z))/\w'.cell? ⟨b,4,none⟩=some t/\w'.cell? ⟨b,5,none⟩=some e)/\
  w'.frozen? ⟨b,5,none⟩=false/\(∀a:Wq,Ext a W->a.heap.size<=g->a.heap.size<=b->Ext a w')/\(∀k o,k≠g->k≠b->W.heap[k]? =some o->w'.heap[k]? =some o)/\(∀B v m,WrV W B v m->WrV w' B v m):=by
 refine (JX v _ W hE hP).mono ?_;rintro u w' ⟨q1,q2⟩;rw[Zad,hz] at q1 q2;rw[ZlL] at q2;rcases q2 with ⟨_,q2⟩|⟨q2,_⟩
 ·have F:Ext (setS W (ptrsF g b (l.map collapse) (collapse x) (collapse y) (collapse z))) w':=by unfold Ext;rw[Kg];exact q2
  have D:l.length=(l.map collapse).length:=by simp
  have S:=ZlM (l:=l.map collapse) (x:=collapse x) (y:=collapse y) (z:=collapse z) (A:=A) (cap:=cap) (ll:=l) I D (by rw[<-D];exact hA) (by rw[<-D];exact hr) R V X Y Z h5 F;rw[<-D] at S;obtain ⟨s0,s1⟩:=S;have H:b<W.heap.size:=ZW W _ R;refine ⟨q1,s0,s1,?_,λa ha hc hb=> ?_,λk o J K ho=> ?_,λB v m h=>(WrV.setS _ h).ext F⟩
  ·rw[JP F (by rw[Kg];exact H),GK];exact U
  ·refine Ext.trans (Ext.setS _ ha λq Q=> ?_) F;rcases ZeG Q with e|e<;>rw[e]<;>assumption
  ·refine F.heap ?_;rw[Gb _ _ _ λq Q=> ?_]
   ·exact ho
   ·rcases ZeG Q with e|e<;>rw[e]
    ·exact λe=>J e.symm
    ·exact λe=>K e.symm
 ·exact absurd rfl q2
theorem Zdo (x:Fc) (w:Wq) (hE:Env w) (hk:fokS x.f) (hr:RdC w x) (gw:x.f.ents.length<=1\/LatE):
 Calls prog 63 #[.agg (cellsC x).toArray] w λe w'=>∃y:Fc,e= .returned (.tuple #[.agg (cellsC y).toArray,nI (errF x.f:Nat)])/\y.f=normF x.f/\RdC w' y/\(∀g,g<w.heap.size->awayC y (some g))/\WcF w' w.heap.size y/\Ext w w':=by
 obtain ⟨i0,hR,hV,hu,hW⟩:=YH Zou;obtain ⟨i1,fJ,fO,fP,fQ⟩:=YH IN;obtain ⟨p,es,f⟩:=x;obtain ⟨F,hF⟩:∃F,f=F:=⟨_,rfl⟩;obtain ⟨EF,gu⟩:∃n,errF F=n:=⟨_,rfl⟩;obtain ⟨NF,gx⟩:∃n,normF F=n:=⟨_,rfl⟩;have e1:errF f=EF:=by rw[hF];exact gu
 have e2:normF f=NF:=by rw[hF];exact gx
 simp only[e1,e2];have h1:=gd gu;have hY:=gd gx;clear e1 e2 gu gx;have hA:Hid (∀n,errF F=n->n≠0->normF F=zeroF):=gd λn h h'=>by unfold normF;rw[h,Ze h']
 obtain ⟨path,id,title,link,upd,ents⟩:=f;obtain ⟨gk,gj⟩:=hr;obtain ⟨⟨fN,fg⟩,g6,gC⟩:=hk;simp only at gk gj fg g6 gC gw;have ft:=gd gw;clear gw;have fV:path.length<=16777216:=om
 have fA:Hid (∀s∈path++ [id,title,link],s.size<=16777216):=gd (by
  intro s hs;rcases Zs.1 hs with hs|hs
  ·have:=XZ hs;omega
  ·simp only[ZH,ZY,Y1] at hs;rcases hs with rfl|rfl|rfl<;>omega)
 have gO:=gd gC;have gL:=gd (λ(w':Wq) (h:Ext w w')=>G0 p path.length (path.map Value.string) w' (gk.ext h) (ZoT path) om);have fx:=gd gj;have HF:=gd hF;obtain ⟨pA,pc,gE,_,_⟩:=gk.form;obtain ⟨eA,ec,fH,_,_⟩:=gj.form;subst gE fH;clear gk gj gC fg fN hF;unfold cellsC fCells;dsimp only;go_enter func63,ntmps63
 go_wp2_with (go_at_call 33;refine (gL.out _ (((Ext.refl w).alloc _).alloc _)).mono ?_;rintro e w1 ⟨p1,rfl,hS,gf⟩;(obtain ⟨A1,V,gE⟩:∃A c,p1= .slice A path.length c:=(by obtain ⟨A,c,e,_⟩:=(RSl.of_own hS).2;exact ⟨A,c,e⟩));subst gE;have hj:=((Ext.refl _).alloc _).trans gf;have c0:=hj.boxed 0 _ rfl;have c1:=hj.boxed 1 _ rfl;have c2:=hj.boxed 2 _ rfl;have c3:=hj.boxed 3 _ rfl;have c4:=hj.boxed 4 _ rfl;have c5:=hj.boxed 5 _ rfl;have f0:=hj.boxedF 0;have f1:=hj.boxedF 1;have f2:=hj.boxedF 2;have f3:=hj.boxedF 3;have f5:=hj.boxedF 5)
 obtain ⟨W1,Y⟩:∃W,W=w1.setCell ⟨w.heap.size,0,none⟩ (.slice A1 path.length V):=⟨_,rfl⟩;rw[<-Y];have hD:w1.ownsRow (w.heap.size+2) 9 1 (.slice A1 path.length V) path.length (path.map Value.string):=X4 hS (by rw[Zu,Zu];exact Zc _);have b0:W1.cell? ⟨w.heap.size,0,none⟩=some (.slice A1 path.length V):=by rw[Y];exact KJ _ _ _ c0
 have b1:W1.cell? ⟨w.heap.size,1,none⟩=some (.string id):=by rw[Y,Xi _ _ _ _ (by simp)];exact c1
 have b2:W1.cell? ⟨w.heap.size,2,none⟩=some (.string title):=by rw[Y,Xi _ _ _ _ (by simp)];exact c2
 have b3:W1.cell? ⟨w.heap.size,3,none⟩=some (.string link):=by rw[Y,Xi _ _ _ _ (by simp)];exact c3
 have b4:W1.cell? ⟨w.heap.size,4,none⟩=some (nI upd):=by rw[Y,Xi _ _ _ _ (by simp)];exact c4
 have b5:W1.cell? ⟨w.heap.size,5,none⟩=some (.slice eA ents.length ec):=by rw[Y,Xi _ _ _ _ (by simp)];exact c5
 have g1:W1.frozen? ⟨w.heap.size,1,none⟩=false:=by rw[Y,XX];exact f1
 have g2:W1.frozen? ⟨w.heap.size,2,none⟩=false:=by rw[Y,XX];exact f2
 have g3:W1.frozen? ⟨w.heap.size,3,none⟩=false:=by rw[Y,XX];exact f3
 have g5:W1.frozen? ⟨w.heap.size,5,none⟩=false:=by rw[Y,XX];exact f5
 have I:W1.ownsRow (w.heap.size+2) 9 1 (.slice A1 path.length V) path.length (path.map Value.string):=by rw[Y];exact Jy hD (a:=⟨w.heap.size,0,none⟩) (λe=>absurd (hD.lt _ e).1 (show ¬(w.heap.size+2<=w.heap.size) by omega)) _
 have fi:W1.heap[w.heap.size+1]? =some (.cells #[sN,eS,eS,eS,nI 0,sN] 55):=by
  rw[Y,Z4 _ _ _ _ (by simp)];refine gf.heap ?_;have:=Zg (w.alloc (.cells #[.slice pA path.length pc,.string id,.string title,.string link,nI upd,.slice eA ents.length ec] 55)) (.cells #[sN,eS,eS,eS,nI 0,sN] 55)
  rwa [Zu] at this
 have gJ:Ext w W1:=by rw[Y];exact Ext.setCell ((((Ext.refl w).alloc _).alloc _).trans gf) (Zc _) _
 have gW:=hE.ext gJ;have fY:w.heap.size+2<=W1.heap.size:=by rw[Y];have:=gf.size;rw[Zu,Zu] at this;show w.heap.size+2<=(w1.heap.modify _ _).size;rw[Array.size_modify];exact this
 obtain ⟨g,g7,fU⟩:∃g,(0<path.length->A1=some ⟨g,0,none⟩)/\w.heap.size+2<=g:=by
  rcases YL path.length with h0|h0
  ·exact ⟨w.heap.size+2,λh=>by omega,Zc _⟩
  ·obtain ⟨g,cap,e,hb,_⟩:=X6 I h0;injection e with e1 e2 e3;exact ⟨g,λ_=>e1,hb⟩
 have gm:=gd I;have h6:Hid (WrV W1 (w.heap.size+2) (.slice A1 path.length V) path.length):=gd (by have h:=WrV.own I;rwa [Nat.mul_one] at h);have hC:=gd g7;have hw:=gd gJ;have gQ:=gd gW;clear Y hS hD I c0 c1 c2 c3 c4 c5 f0 f1 f2 f3 f5 hj gf gJ gW g7 gL;go_loopw [4,19] (λo i wr=>∃k:Nat,k<=path.length/\i=nI k/\wr.ownsRow W1.heap.size 157 1 o k (((ptrsAt g 0 path).take k).map λq=>Value.pointer (some q.1))/\Ext W1 wr) (λ_ i _=>path.length - (intOf i).toNat)
 case atStart=>exact ⟨0,Zj _,rfl,YF _ _ _ _,Ext.refl _⟩
 case round=>
  obtain ⟨k,hk,rfl,I,hx⟩:=hrel;by_cases hK:k<path.length
  ·have gs:=hC.out om;subst gs;have d0:=hx.cell b0;have g9:(0:Int)<=(k:Int):=om;have fa:(k:Int)<(path.length:Int):=om;have gF:=Zhx g path k hK;obtain ⟨X,hX⟩:∃X,((ptrsAt g 0 path).take k).map (λq=>Value.pointer (some q.1))=X:=⟨_,rfl⟩;rw[hX] at I gF;have fy:=gd gF;have hl:Hid ((k+1)*8<=140737488355328):=gd om;have hm:Hid (k+1<=maxLen):=gd (by unfold maxLen;omega);have Q:=gd I;have hh:=gd hx;have hws:=hx.size;clear gF hX I
   go_wp2_with (first|(at_builtin;refine ZO _ rfl (.tmp 22) (.tmp 27) _ rfl W1.heap.size 157 i0 _ 1 8 underlying156 hR hV hu hW rfl (by decide) _ k X rfl (Q.out.alloc _) _ 1 [.pointer (some ⟨g,k,none⟩)] rfl (Yo rfl (by decide)) (by intro y hy;simp at hy;subst hy;rfl) hm.out hl.out ?_ ?_;(simp;omega);intro v3 w3 H hc hp;have D:Ext W1 w3:=Ext.app (hh.out.alloc _) hc (Q.out.alloc _) (Zc _)))
   go_roundw
   case rel=>exact ⟨k+1,hK,by go_num,by rw[fy.out];exact H,D⟩
   case measure=>simp[intOf];omega
  have gD:k=path.length:=om
  subst gD;rw[ZQ (by rw[QN];exact Zc _)] at I;have d0:=hx.cell b0;have d1:=hx.cell b1;have d2:=hx.cell b2;have d3:=hx.cell b3;have d4:=hx.cell b4;have d5:=hx.cell b5;obtain ⟨X,hX⟩:∃X,(ptrsAt g 0 path).map (λq=>Value.pointer (some q.1))=X:=⟨_,rfl⟩;rw[hX] at I;have fd:(ptrsF g w.heap.size path id title link).map (λq=>Value.pointer (some q.1))=X++ [.pointer (some ⟨w.heap.size,1,none⟩),.pointer (some ⟨w.heap.size,2,none⟩),.pointer (some ⟨w.heap.size,3,none⟩)]:=by unfold ptrsF;rw[ZS,hX];rfl
  have fw:=gd fd;have Q:=gd I;have hh:=gd hx;have hws:=hx.size;have hl:Hid ((path.length+3)*8<=140737488355328):=gd om;have hm:Hid (path.length+3<=maxLen):=gd (by unfold maxLen;omega);have gn:g≠w.heap.size:=om
  have hP:∀(w4:Wq) (v4:Value),Ext W1 w4->w4.ownsRow W1.heap.size 157 1 v4 (path.length+3) (X++ [.pointer (some ⟨w.heap.size,1,none⟩),.pointer (some ⟨w.heap.size,2,none⟩),.pointer (some ⟨w.heap.size,3,none⟩)])->Ptrs w4 v4 (ptrsF g w.heap.size path id title link):=by intro w4 v4 R hU;have gy:w.heap.size<W1.heap.size:=om;refine ZmH (A:=A1) (cap:=V) gn hC.out (Ya gm.out R) (R.cell b1) (R.cell b2) (R.cell b3) ((JP R gy).trans g1) ((JP R gy).trans g2) ((JP R gy).trans g3) fA.out ?_;rw[fw.out];exact RSl.of_own hU
  have HP:=gd hP;have go:RStrs W1 (.slice A1 path.length V) path:=RSl.of_own gm.out;have fz:=gd go;have HB:=gd (V7 b0 (V7 b1 (V7 b2 (V7 b3 (V7 b4 b5)))));have fq:=gd g5;have h4:=gd fi;clear hX fd I hP go b0 b1 b2 b3 b4 b5 g1 g2 g3 g5 fi hx;by_cases h0:firstErr (path++ [id,title,link])=0;have g8:errF F=if collapse id=noS\/(path.any λp=>decide (collapse p=noS))=true then 19 else if 64<path.length then 9 else if inT upd=true then errEs ents else 3:=by
   rw[<-HF.out];unfold errF headF strsF;simp only[h0,ne_eq,not_true_eq_false,U4];split
   ·rfl
   ·split
    ·rfl
    ·split<;>rfl
  have h2:=gd g8;have ga:((path.map collapse).any λs=>decide (s=⟨#[]⟩))=path.any λp=>decide (collapse p=noS):=by rw[List.any_map];rfl
  obtain ⟨Bp,gt⟩:∃B,(path.any λp=>decide (collapse p=noS))=B:=⟨_,rfl⟩;rw[gt] at ga;have hH:=gd ga;have gK:=gd gt;have HT:=gd (λw'=>KW upd w');have hM:=gd (λ(w4:Wq) (v4:Value) (R:Ext W1 w4) hU=>Zff (W:=w4) (v:=v4) (g:=g) (b:=w.heap.size) (cap:=V) (A:=A1) (l:=path) (x:=id) (y:=title) (z:=link) (gQ.out.ext R) (HP.out w4 v4 R hU) gn hC.out (fz.out.ext R) (R.cell HB.out.1) (R.cell HB.out.2.1) (R.cell HB.out.2.2.1) (R.cell HB.out.2.2.2.1) (R.cell HB.out.2.2.2.2.1) (R.cell HB.out.2.2.2.2.2) ((JP R (show w.heap.size<W1.heap.size by omega)).trans fq.out) h0);clear g8 ga gt h0;obtain ⟨ci,gh⟩:∃c,collapse id=c:=⟨_,rfl⟩;obtain ⟨ct,gA⟩:∃c,collapse title=c:=⟨_,rfl⟩;obtain ⟨cl,gz⟩:∃c,collapse link=c:=⟨_,rfl⟩;rw[gh,gA,gz] at hM;rw[gh] at h2;have fl:=gd gh;have fm:=gd gA;have gM:=gd gz;clear gh gA gz;by_cases hZ:ci=noS
  focus
   subst hZ
   have fL:noS.toList= []:=(by rw[Jp];rfl)
   unfold noS at hM
   have he:errF F=19:=by
    rw[h2.out]
    rw[Zi (Or.inl rfl)]
   have HN:=gd (hA.out _ he (by decide))
   have hi:=h1.out.symm.trans he
   subst hi
   clear he
   go_wp2_with (first|(at_builtin;refine ZO _ rfl (.tmp 30) (.tmp 34) _ rfl W1.heap.size 157 i0 _ 1 8 underlying156 hR hV hu hW rfl (by decide) _ path.length X rfl (Q.out.alloc _) _ 3 [.pointer (some ⟨w.heap.size,1,none⟩),.pointer (some ⟨w.heap.size,2,none⟩),.pointer (some ⟨w.heap.size,3,none⟩)] rfl (Yo rfl (by decide)) (by intro y hy;simp at hy;rcases hy with rfl|rfl|rfl<;>rfl) hm.out hl.out ?_ ?_;(simp;omega);intro v3 w3 H hc hp;have D:Ext W1 w3:=Ext.app (hh.out.alloc _) hc (Q.out.alloc _) (Zc _))|(go_at_call 103;have K:=hM.out _ _ D H;refine Za K ?_;clear K;rintro e w5 ⟨rfl,S,⟨q0,q1,q2,q3,q4,q5⟩,f5,hg,hd,hf⟩;have h7:=gd (hf _ _ _ (h6.out.ext D));clear hf;(have ht:Ext w w5:=hg w (hw.out.trans D) om (Zc _));(have Z:=hd (w.heap.size+1) _ om om (D.heap h4.out));(have HC:=gd (Uf (w:=w5) (g:=g) (n:=path.length) (c:=V) (A:=A1) (l:=path.map collapse) ⟨#[]⟩ (by simp) (by simpa using hC.out) S (by simp;omega)));rw[hH.out] at HC;clear hg hd)|(refine Zf rfl 55 (.tmp 2) (.tmp 51) rfl (w.heap.size+1) _ rfl rfl _ _ Z Jh rfl Zfv ?_))
  rotate_left
  have fL:=VW hZ;have gR:=gd hZ;clear hZ;cases Bp;have gY:¬(ci=noS\/(path.any λp=>decide (collapse p=noS))=true):=by
   rintro (h|h)
   ·exact gR.out h
   ·rw[gK.out] at h;cases h
  have gq:=gd gY;clear gY;by_cases gi:64<path.length
  focus
   have g0:(64:Int)<(path.length:Int):=om
   have he:errF F=9:=by
    rw[h2.out]
    rw[Ze gq.out,Zi gi]
   have HN:=gd (hA.out _ he (by decide))
   have hi:=h1.out.symm.trans he
   subst hi
   clear he
   go_wp2_with (first|(at_builtin;refine ZO _ rfl (.tmp 30) (.tmp 34) _ rfl W1.heap.size 157 i0 _ 1 8 underlying156 hR hV hu hW rfl (by decide) _ path.length X rfl (Q.out.alloc _) _ 3 [.pointer (some ⟨w.heap.size,1,none⟩),.pointer (some ⟨w.heap.size,2,none⟩),.pointer (some ⟨w.heap.size,3,none⟩)] rfl (Yo rfl (by decide)) (by intro y hy;simp at hy;rcases hy with rfl|rfl|rfl<;>rfl) hm.out hl.out ?_ ?_;(simp;omega);intro v3 w3 H hc hp;have D:Ext W1 w3:=Ext.app (hh.out.alloc _) hc (Q.out.alloc _) (Zc _))|(go_at_call 103;have K:=hM.out _ _ D H;refine Za K ?_;clear K;rintro e w5 ⟨rfl,S,⟨q0,q1,q2,q3,q4,q5⟩,f5,hg,hd,hf⟩;have h7:=gd (hf _ _ _ (h6.out.ext D));clear hf;(have ht:Ext w w5:=hg w (hw.out.trans D) om (Zc _));(have Z:=hd (w.heap.size+1) _ om om (D.heap h4.out));(have HC:=gd (Uf (w:=w5) (g:=g) (n:=path.length) (c:=V) (A:=A1) (l:=path.map collapse) ⟨#[]⟩ (by simp) (by simpa using hC.out) S (by simp;omega)));rw[hH.out] at HC;clear hg hd)|(go_at_call 104;have K:=HC.out;refine Za K ?_;clear K;rintro e w6 ⟨rfl,rfl⟩)|(refine Zf rfl 55 (.tmp 2) (.tmp 57) rfl (w.heap.size+1) _ rfl rfl _ _ Z Jh rfl Zfv ?_))
  rotate_left
  have g0:¬(64:Int)<(path.length:Int):=om
  cases hti:inT upd
  focus
   rw[hti] at HT
   have he:errF F=3:=by
    rw[h2.out]
    rw[Ze gq.out,Ze gi,hti];rfl
   have HN:=gd (hA.out _ he (by decide))
   have hi:=h1.out.symm.trans he
   subst hi
   clear he
   go_wp2_with (first|(at_builtin;refine ZO _ rfl (.tmp 30) (.tmp 34) _ rfl W1.heap.size 157 i0 _ 1 8 underlying156 hR hV hu hW rfl (by decide) _ path.length X rfl (Q.out.alloc _) _ 3 [.pointer (some ⟨w.heap.size,1,none⟩),.pointer (some ⟨w.heap.size,2,none⟩),.pointer (some ⟨w.heap.size,3,none⟩)] rfl (Yo rfl (by decide)) (by intro y hy;simp at hy;rcases hy with rfl|rfl|rfl<;>rfl) hm.out hl.out ?_ ?_;(simp;omega);intro v3 w3 H hc hp;have D:Ext W1 w3:=Ext.app (hh.out.alloc _) hc (Q.out.alloc _) (Zc _))|(go_at_call 103;have K:=hM.out _ _ D H;refine Za K ?_;clear K;rintro e w5 ⟨rfl,S,⟨q0,q1,q2,q3,q4,q5⟩,f5,hg,hd,hf⟩;have h7:=gd (hf _ _ _ (h6.out.ext D));clear hf;(have ht:Ext w w5:=hg w (hw.out.trans D) om (Zc _));(have Z:=hd (w.heap.size+1) _ om om (D.heap h4.out));(have HC:=gd (Uf (w:=w5) (g:=g) (n:=path.length) (c:=V) (A:=A1) (l:=path.map collapse) ⟨#[]⟩ (by simp) (by simpa using hC.out) S (by simp;omega)));rw[hH.out] at HC;clear hg hd)|(go_at_call 104;have K:=HC.out;refine Za K ?_;clear K;rintro e w6 ⟨rfl,rfl⟩)|(go_at_call 105;refine (HT.out _).mono ?_;rintro e w6 ⟨rfl,rfl⟩)|(refine Zf rfl 55 (.tmp 2) (.tmp 63) rfl (w.heap.size+1) _ rfl rfl _ _ Z Jh rfl Zfv ?_))
  rotate_left
  ·rw[hti] at HT;have he:errF F=errEs ents:=(by rw[h2.out,Ze gq.out,Ze gi,hti,Zi rfl]);have hi:=h1.out.symm.trans he;subst hi;have gN:=gd he;clear he hti gi
   go_wp2_with (first|(at_builtin;refine ZO _ rfl (.tmp 30) (.tmp 34) _ rfl W1.heap.size 157 i0 _ 1 8 underlying156 hR hV hu hW rfl (by decide) _ path.length X rfl (Q.out.alloc _) _ 3 [.pointer (some ⟨w.heap.size,1,none⟩),.pointer (some ⟨w.heap.size,2,none⟩),.pointer (some ⟨w.heap.size,3,none⟩)] rfl (Yo rfl (by decide)) (by intro y hy;simp at hy;rcases hy with rfl|rfl|rfl<;>rfl) hm.out hl.out ?_ ?_;(simp;omega);intro v3 w3 H hc hp;have D:Ext W1 w3:=Ext.app (hh.out.alloc _) hc (Q.out.alloc _) (Zc _))|(go_at_call 103;have K:=hM.out _ _ D H;refine Za K ?_;clear K;rintro e w5 ⟨rfl,S,⟨q0,q1,q2,q3,q4,q5⟩,f5,hg,hd,hf⟩;have h7:=gd (hf _ _ _ (h6.out.ext D));clear hf;(have ht:Ext w w5:=hg w (hw.out.trans D) om (Zc _));(have Z:=hd (w.heap.size+1) _ om om (D.heap h4.out));(have HC:=gd (Uf (w:=w5) (g:=g) (n:=path.length) (c:=V) (A:=A1) (l:=path.map collapse) ⟨#[]⟩ (by simp) (by simpa using hC.out) S (by simp;omega)));rw[hH.out] at HC;clear hg hd)|(go_at_call 104;have K:=HC.out;refine Za K ?_;clear K;rintro e w6 ⟨rfl,rfl⟩)|(go_at_call 105;refine (HT.out _).mono ?_;rintro e w6 ⟨rfl,rfl⟩))
   have gU:=gd ht;have gT:=gd S;have fn:=gd (hE.ext ht);have HC:=();have hL:=gd (V7 q0 (V7 q1 (V7 q2 (V7 q3 (V7 q4 q5)))));have fp:=gd f5;have gV:=gd Z;have fW:w.heap.size+2<=w6.heap.size:=(by have:=(ZP.1 Z).1;omega);clear D H hc hp S q0 q1 q2 q3 q4 q5 f5 Z ht;go_loopw [7,67] (λo i wr=>∃k:Nat,k<=ents.length/\i=nI k/\OEnts wr w6.heap.size o ((ents.take k).map collE)/\Hid (∀e∈ents.take k,errE e=0)/\Ext w6 wr) (λ_ i _=>ents.length - (intOf i).toNat)
   case atStart=>exact ⟨0,Zj _,rfl,OEnts.nil _ _,gd (by simp),Ext.refl _⟩
   case round=>
    obtain ⟨k,hk,rfl,I,hJ,hx⟩:=hrel;have fh:Ext w wr:=gU.out.trans hx;by_cases hK:k<ents.length
    ·obtain ⟨ad,c',hv,gX⟩:=(fx.out.ext fh).at hK;injection hv with hv1 hv2 hv3;subst hv1;clear hv2 hv3;have gG:=Zr hK;have gb:=Zgm ents k hK hJ.out;have gB:=gO.out _ (ZL hK);obtain ⟨e,g4⟩:∃e,ents[k]=e:=⟨_,rfl⟩;rw[g4] at gX gG gb gB;have fb:eokS e:=(by obtain ⟨_,h⟩:=gB;exact ⟨om,om,om,om⟩);have h3:=gd (λ(w':Wq) (h:Ext w w')=>Zdn e w' (hE.ext h) fb);have fB:=gd gG;have gp:=gd gb;have hw:=gd fh;have hh:=gd hx;have Q:=gd I;have ge:((ents.take k).map collE).length=k:=(by rw[Zq,ZM];omega);have hl:Hid ((((ents.take k).map collE).length+1)*72<=140737488355328):=gd (by rw[ge];omega);have hm:Hid (((ents.take k).map collE).length+1<=maxLen):=gd (by rw[ge];unfold maxLen;omega);have g9:(0:Int)<=(k:Int):=om;have fa:(k:Int)<(ents.length:Int):=om;have hws:=hx.size;clear gG gb gB fb g4 I ge;obtain ⟨a0,a1,a2,a3,a4⟩:=gX;obtain ⟨E,h5⟩:∃E,errE e=E:=⟨_,rfl⟩;rw[h5] at h3 gp;have gl:=gd h5;obtain ⟨N,hN⟩:∃N,normE e=N:=⟨_,rfl⟩;rw[hN] at h3;have fv:=gd hN;clear hN h5;obtain ⟨O,hO⟩:∃O,(ents.take k).map collE=O:=⟨_,rfl⟩;rw[hO] at Q hl hm;have HO:=gd hO;clear hO;obtain ⟨h8,ha,ho,J,hI⟩:=e;simp only at a0 a1 a2 a3 a4;unfold eCells at h3;dsimp only at h3;by_cases h9:E=0
     ·subst h9
      go_wp2_with (first|(go_at_call 106;have K:=h3.out _ (hw.out.trans ((Ext.refl wr).alloc (.cells #[.string h8,.string ha,.string ho,.string J,nI hI] 76)));refine Za K ?_;clear K;rintro e w8 ⟨rfl,gH⟩;have hB:=((Ext.refl wr).alloc (.cells #[.string h8,.string ha,.string ho,.string J,nI hI] 76)).trans gH;have gS:=gd (OEnts.ext Q.out hB);have fC:=gd (hh.out.trans hB);have fX:=hB.size)|(at_builtin;refine ZO _ rfl (.tmp 80) (.tmp 82) _ rfl w6.heap.size 76 i1 _ 5 72 underlying53 fJ fO fP fQ rfl (by decide) _ _ (flatE O) rfl ((Ya gS.out ((Ext.refl _).alloc _)).alloc _) _ 1 (eCells N) rfl (Jb (e:=76) (fr:=(0,0)) (cs:=eCells N) (YS _ _ _) rfl (by decide)) (X1 _) hm.out hl.out ?_ ?_;(simp;omega);intro v9 w9 hG fI fS;have gI:Ext w6 w9:=Ext.app ((fC.out.alloc _).alloc _) fI ((Ya gS.out ((Ext.refl _).alloc _)).alloc _) (Zc _)))
      go_roundw
      case rel=>
       have fE:N=collE ⟨h8,ha,ho,J,hI⟩:=(by rw[<-fv.out];unfold normE;rw[Zi gl.out]);have hT:=fB.out;have hO:=HO.out;refine ⟨k+1,hK,by go_num,?_,gd λx hx=> ?_,gI⟩
       ·rw[hT,ZS,hO,Zw,Z2,<-fE];exact OEnts.snoc hG
       ·rw[hT] at hx;rcases Zs.1 hx with hx|hx
        ·exact hJ.out x hx
        ·rw[Zo.1 hx];exact gl.out
      case measure=>simp[intOf];omega
     ·have hb:((E:Int) !=0)=true:=(by simp;omega);have he:errF F=E:=gN.out.trans (gp.out h9);have HN:=gd (hA.out _ he h9);have fo:=gd (gp.out h9);clear he h9
      go_wp2_with (first|(go_at_call 106;have K:=h3.out _ (hw.out.trans ((Ext.refl wr).alloc (.cells #[.string h8,.string ha,.string ho,.string J,nI hI] 76)));refine Za K ?_;clear K;rintro e w8 ⟨rfl,gH⟩;have hB:=((Ext.refl wr).alloc (.cells #[.string h8,.string ha,.string ho,.string J,nI hI] 76)).trans gH;have fj:=(((hh.out.trans hB).alloc (.cells (eCells N).toArray 76))).heap gV.out)|(refine Zf rfl 55 (.tmp 2) (.tmp 78) rfl (w.heap.size+1) _ rfl rfl _ _ fj Jh rfl Zfv ?_))
      ((try simp only[Exit.inBlock,Exit.then]);refine ZD (Yn rfl _ _ _ _ _ _ _ rfl (ZF _ _ _ _ _ _ fj) underlying55 rfl Jh) rfl ?_);exact ⟨zeroC,by rw[fo.out];rfl,HN.out.symm.trans hY.out,Zdd _,λ_ _=>Ij _,Zde _ _,((hw.out.trans hB).alloc _).setRow om _⟩
    ·have gD:k=ents.length:=om;subst gD;rw[ZQ (Zc _)] at I hJ;have gc:errEs ents=0:=KT.2 hJ.out;have fc:normF F=collF F:=(by unfold normF;rw[Zi (gN.out.trans gc)]);have gZ:collF F=⟨path.map collapse,ci,ct,cl,upd,ordE.canon (ents.map collE)⟩:=(by rw[<-HF.out,<-fl.out,<-fm.out,<-gM.out];rfl);have fu:=gd (fc.trans gZ);have gg:=gd (IB _ (ents.map collE) wr (fn.out.ext hx) I.reads (λx hx=>by
      obtain ⟨e,he,rfl⟩:=ZU.1 hx;exact Zgl (gO.out e he)) (by rw[Zq];exact g6) (by rw[Zq];exact ft.out))
     have q0:=hx.cell hL.out.1;have gP:=gd gc;have hh:=gd hx;have hws:=hx.size;have fG:w.heap.size<w6.heap.size:=om;clear fc gZ gc I hJ
     go_wp2_with (first|(go_at_call 68;have K:=gg.out;refine Za K ?_;clear K;rintro e w9 ⟨fT,rfl,hG,gI⟩;obtain ⟨zA,zc,fR,_,_⟩:=hG.reads.form;subst fR;have U:=hh.out.trans gI;have r0:=U.cell hL.out.1;have r1:=U.cell hL.out.2.1;have r2:=U.cell hL.out.2.2.1;have r3:=U.cell hL.out.2.2.2.1;have r4:=U.cell hL.out.2.2.2.2.1;have r5:=U.cell hL.out.2.2.2.2.2;have s5:=(JP U fG).trans fp.out;have fk:=U.heap gV.out;have gr:=gd hG)|(refine Zf rfl 55 (.tmp 2) (.tmp 88) rfl (w.heap.size+1) _ rfl rfl _ _ ((Z4 _ _ _ _ (by simp)).trans fk) Jh rfl Zfv ?_))
     ((try simp only[Exit.inBlock,Exit.then]);refine ZD (Yn rfl _ _ _ _ _ _ _ rfl (ZF _ _ _ _ _ _ ((Z4 _ _ _ _ (by simp)).trans fk)) underlying55 rfl Jh) rfl ?_);have ff:=gT.out.ext U;have fe:=gr.out.reads;have fK:=gr.out.lt;have hQ:∀q,q<w.heap.size+2->awayC ⟨.slice A1 path.length V,.slice zA (ordE.canon (ents.map collE)).length zc,⟨path.map collapse,ci,ct,cl,upd,ordE.canon (ents.map collE)⟩⟩ (some q):=by
      intro q hq;refine ⟨?_,Or.inr λe=> ?_⟩
      ·rcases YL path.length with h|h
       ·exact Or.inl (by rw[Zm h];rfl)
       ·refine Or.inr λe=> ?_;have gs:=hC.out h;subst gs;injection e with e;simp only at e;omega
      ·have:=(fK q e).1;omega
     have fM:RdC w9 ⟨.slice A1 path.length V,.slice zA (ordE.canon (ents.map collE)).length zc,⟨path.map collapse,ci,ct,cl,upd,ordE.canon (ents.map collE)⟩⟩:=⟨ff,fe⟩;refine ⟨⟨.slice A1 path.length V,.slice zA (ordE.canon (ents.map collE)).length zc,⟨path.map collapse,ci,ct,cl,upd,ordE.canon (ents.map collE)⟩⟩,by rw[gP.out];rfl,fu.out.symm.trans hY.out,(fM.grown (Yw _ _ _) (hQ _ (by simp))).grown (Yx _ _ _) (hQ _ (by simp)),λq hq=>hQ q om,⟨?_,?_⟩,?_⟩
     ·rw[Zq];exact (((h7.out.ext U).grown (Yw _ _ _) (by have:=ZbH (hQ w.heap.size om).1;rwa [Zq] at this)).grown (Yx _ _ _) (by have:=ZbH (hQ (w.heap.size+1) om).1;rwa [Zq] at this)).mono om
     ·exact (((WrV.own gr.out).grown (Yw _ _ _) (Ek (hQ w.heap.size om).2)).grown (Yx _ _ _) (Ek (hQ (w.heap.size+1) om).2)).mono om
     exact (Ext.setCell (gU.out.trans U) (Zc _) _).setRow om _
  focus
   have he:errF F=19:=by
    rw[h2.out]
    rw[Zi (Or.inr gK.out)]
   have HN:=gd (hA.out _ he (by decide))
   have hi:=h1.out.symm.trans he
   subst hi
   clear he
   go_wp2_with (first|(at_builtin;refine ZO _ rfl (.tmp 30) (.tmp 34) _ rfl W1.heap.size 157 i0 _ 1 8 underlying156 hR hV hu hW rfl (by decide) _ path.length X rfl (Q.out.alloc _) _ 3 [.pointer (some ⟨w.heap.size,1,none⟩),.pointer (some ⟨w.heap.size,2,none⟩),.pointer (some ⟨w.heap.size,3,none⟩)] rfl (Yo rfl (by decide)) (by intro y hy;simp at hy;rcases hy with rfl|rfl|rfl<;>rfl) hm.out hl.out ?_ ?_;(simp;omega);intro v3 w3 H hc hp;have D:Ext W1 w3:=Ext.app (hh.out.alloc _) hc (Q.out.alloc _) (Zc _))|(go_at_call 103;have K:=hM.out _ _ D H;refine Za K ?_;clear K;rintro e w5 ⟨rfl,S,⟨q0,q1,q2,q3,q4,q5⟩,f5,hg,hd,hf⟩;have h7:=gd (hf _ _ _ (h6.out.ext D));clear hf;(have ht:Ext w w5:=hg w (hw.out.trans D) om (Zc _));(have Z:=hd (w.heap.size+1) _ om om (D.heap h4.out));(have HC:=gd (Uf (w:=w5) (g:=g) (n:=path.length) (c:=V) (A:=A1) (l:=path.map collapse) ⟨#[]⟩ (by simp) (by simpa using hC.out) S (by simp;omega)));rw[hH.out] at HC;clear hg hd)|(go_at_call 104;have K:=HC.out;refine Za K ?_;clear K;rintro e w6 ⟨rfl,rfl⟩)|(refine Zf rfl 55 (.tmp 2) (.tmp 51) rfl (w.heap.size+1) _ rfl rfl _ _ Z Jh rfl Zfv ?_))
  rotate_left
  ·have hb:((firstErr (path++ [id,title,link]):Int) !=0)=true:=(by simp;omega);have he:errF F=firstErr (path++ [id,title,link]):=(by rw[<-HF.out];unfold errF headF strsF;rw[Zi h0,Ze h0]);have hn:=hA.out _ he h0;have hi:=h1.out.symm.trans he;obtain ⟨E,h5⟩:∃E,firstErr (path++ [id,title,link])=E:=⟨_,rfl⟩;have gg:=gd (λ(w4:Wq) (v4:Value) fD fF=>Zfg (W:=w4) (v:=v4) (g:=g) (b:=w.heap.size) fD fF h0);rw[h5] at gg hb h0 hi;have HN:=gd hn;clear h5 he hn h0;subst hi
   go_wp2_with (first|(at_builtin;refine ZO _ rfl (.tmp 30) (.tmp 34) _ rfl W1.heap.size 157 i0 _ 1 8 underlying156 hR hV hu hW rfl (by decide) _ path.length X rfl (Q.out.alloc _) _ 3 [.pointer (some ⟨w.heap.size,1,none⟩),.pointer (some ⟨w.heap.size,2,none⟩),.pointer (some ⟨w.heap.size,3,none⟩)] rfl (Yo rfl (by decide)) (by intro y hy;simp at hy;rcases hy with rfl|rfl|rfl<;>rfl) hm.out hl.out ?_ ?_;(simp;omega);intro v3 w3 H hc hp;have D:Ext W1 w3:=Ext.app (hh.out.alloc _) hc (Q.out.alloc _) (Zc _))|(go_at_call 103;have K:=gg.out _ _ (gQ.out.ext D) (HP.out _ _ D H);refine Za K ?_;clear K;rintro e w5 ⟨rfl,ht⟩;have Z:=(D.trans ht).heap h4.out)|(refine Zf rfl 55 (.tmp 2) (.tmp 40) rfl (w.heap.size+1) _ rfl rfl _ _ Z Jh rfl Zfv ?_))
   ((try simp only[Exit.inBlock,Exit.then]);refine ZD (Yn rfl _ _ _ _ _ _ _ rfl (ZF _ _ _ _ _ _ Z) underlying55 rfl Jh) rfl ?_);exact ⟨zeroC,rfl,HN.out.symm.trans hY.out,Zdd _,λ_ _=>Ij _,Zde _ _,((hw.out.trans D).trans ht).setRow om _⟩
  all_goals
   ((try simp only[Exit.inBlock,Exit.then]);refine ZD (Yn rfl _ _ _ _ _ _ _ rfl (ZF _ _ _ _ _ _ Z) underlying55 rfl Jh) rfl ?_)
   exact ⟨zeroC,rfl,HN.out.symm.trans hY.out,Zdd _,λ_ _=>Ij _,Zde _ _,ht.setRow om _⟩
end
end Go.Proofs.YtnlafkgkcnenfaaGreatDoor
