/- Parts of the proof: contracts and plain laws. -/
import Derived.Test.YtmfinhgobjbecaaGreatDoorA04
namespace Go.Proofs.YtmfinhgobjbecaaGreatDoor
open Go Go.RowKit Go.WideMaps Go.Maps _root_.Go.Proofs.Tryz
set_option linter.unusedVariables false
set_option linter.unusedSimpArgs false
set_option maxRecDepth 100000
set_option maxHeartbeats 16000000
def ValidSaid (n:Nat):Prop:=∀(j:JV) (cs:List Value) (w:World) (d:Nat),RVn n w j cs->jok j->Env w->1<=d->d<=101->
 Calls prog 217 #[.agg cs.toArray,.int .i64 (d:Nat)] w λe w'=>e= .returned (.bool (jvalid j d))/\Ext w w'
theorem RVn.shape {w:World} {n:Nat} {j:JV} {cs:List Value} (h:RVn n w j cs):∃k b x s A m c B p q a,cs= [.int .i64 k,.bool b,.int .i64 x,.string s,.slice A m c,.slice B p q,.int .i64 a]:=by
 cases n with
 |zero=>exact h.elim
 |succ n=>
  obtain ⟨a,h⟩:=h;cases j with
  |arr l=>obtain ⟨v,css,rfl,_,⟨_,A,c,rfl,_⟩,_⟩:=h;exact ⟨_,_,_,_,_,_,_,_,_,_,_,rfl⟩
  |obj ks vs=>obtain ⟨v,ms,rfl,_,_,⟨_,A,c,rfl,_⟩,_⟩:=h;exact ⟨_,_,_,_,_,_,_,_,_,_,_,rfl⟩
  |_=>subst h;exact ⟨_,_,_,_,_,_,_,_,_,_,_,rfl⟩
theorem Zmc (n:Nat) (ih:ValidSaid n) (l:List JV) (cs:List Value) (w:World) (d:Nat) (h:RVn (n+1) w (.arr l) cs) (Y:jok (.arr l)) (hE:Env w) (hd:1<=d) (hS:d<=101):
 Calls prog 217 #[.agg cs.toArray,.int .i64 (d:Nat)] w λe w'=>e= .returned (.bool (jvalid (.arr l) d))/\Ext w w':=by
 obtain ⟨a,v,css,rfl,hI,hr,R⟩:=h;rw[Zff] at Y;rw[Vu];have hM:=hr;obtain ⟨_,A,c,rfl,hT,hJ,_,_⟩:=hM;have hn:=λw' (hv:Env w')=>YN ⟨#[]⟩ w' hv (by simp[ByteArray.size]);have hV:Lib.validD (⟨#[]⟩:ByteArray).data.toList=true:=by decide
 have hu:=gd hn;have hp:=gd ih;have ho:=gd R;have hs:=gd Y;have ht:=gd (λw' (O:Ext w w')=>XY (n+1) (.arr l) (vcells 4 false 0 ⟨#[]⟩ (.slice A l.length c) a) w' ⟨a,_,css,rfl,hI,hr.ext O,λi j c hj hc=>(R i j c hj hc).ext O⟩);have hU:= @run_makeMap prog;have hl:∀c∈css,c.length=7:=by intro c hc;obtain ⟨i,hi,rfl⟩:=List.mem_iff_getElem.1 hc;exact (R i l[i] css[i] (ZqL om) (ZqL hi)).len
 have hq:=gd hl;clear hn ih R Y hl;by_cases hh:d<=100
 ·have hK:decide ((100:Int)<(d:Nat))=false:=by simp;omega
  have hb:=gd hh;unfold vcells at*;go_enter func217,ntmps217
  go_wp2_with (first|(go_at_call 231;refine (ht.out _ ((Ext.refl _).alloc _)).mono ?_;rintro e w1 ⟨rfl,D⟩;have hQ:=D.boxed 3 _ rfl)|(go_at_call 232;refine (hu.out _ ((hE.alloc _).ext D)).mono ?_;rintro e w2 ⟨rfl,F⟩;have hR:=F.cell (D.boxed 4 _ rfl);have hy:=F.cell (D.boxed 5 _ rfl)))
  go_loopw [36] (λi wr=>∃k:Nat,k<=l.length/\i= .int .i64 k/\Hid ((l.all λj=>jvalid j (d+1))=((l.drop k).all λj=>jvalid j (d+1)))/\Ext w2 wr) (λi _=>l.length - (intOf i).toNat)
  case atStart=>exact ⟨0,ZqO _,rfl,rfl,Ext.refl _⟩
  case round=>
   obtain ⟨k,hk,rfl,I,O⟩:=hrel;by_cases hm:k<l.length
   ·have hg:k<css.length:=om;have Q:=ho.out k l[k] css[k] (ZqL hm) (ZqL hg);obtain ⟨ad,cap,hA,C⟩:=RSl.elem (hr.ext ((((Ext.refl w).alloc _).trans D).trans (F.trans O))) om hq.out k css[k] (ZqL hg);injection hA with hA1 hA2 hA3;subst hA1;clear hA2 hA3;rw[Zst] at C;obtain ⟨x0,x1,x2,x3,x4,x5,x6,y4,y5,y6,x7,hc⟩:=Q.shape;rw[hc] at C;have hz:=C 0 _ rfl;have hB:=C 1 _ rfl;have hC:=C 2 _ rfl;have hD:=C 3 _ rfl;have hF:=C 4 _ rfl;have hG:=C 5 _ rfl;have hH:=C 6 _ rfl;rw[add_zero] at hz;have U:∀i,0<i->(ad.add (k*7)).add i=⟨(ad.add (k*7)).block,(ad.add (k*7)).off+i,none⟩:=λi hi=>ZqH om;rw[U _ om] at hB hC hD hF hG hH;clear U;rw[hc] at Q;clear C;have hw:=hE.ext ((((Ext.refl w).alloc _).trans D).trans (F.trans O));have S:=Q.ext ((((Ext.refl w).alloc _).trans D).trans (F.trans O));have V:=hs.out l[k] (Zq2 _);have hN:IntKind.i64.wrap ((d:Int)+1)=((d+1:Nat):Int):=(by rw[IntKind.wrap];simp[IntKind.signed,IntKind.bits];omega);have J:=I.out.trans (by rw[ZqR hm,ZsK]:_=(jvalid l[k] (d+1) && (l.drop (k+1)).all λj=>jvalid j (d+1)));have H:=gd J;have he:=gd V;have hf:=gd S;clear I J V Q S;have Z:wrap64 ((k:Int)+1)=((k+1:Nat):Int):=(by rw[maxLen] at hJ;rw[Z9 _ ⟨om,om⟩];rfl);have hO:=(((Ext.refl w).alloc _).trans D).trans (F.trans O)
    go_wp2_with (first|(go_at_call 217;refine (hp.out l[k] _ _ (d+1) (hf.out.ext ((Ext.refl _).alloc _)) he.out (hw.alloc _) om om).mono ?_;rintro e w3 ⟨rfl,ha⟩))
    ·go_ret;refine ⟨?_,(hO.alloc _).trans ha⟩;have h1:=H.out
     simp_all
    ·go_roundw
     case rel=>first|exact ⟨k+1,om,by rw[Z],by have h1:=H.out;simp_all [Hid],(O.alloc _).trans ha⟩|((repeat apply Zsb);exact ⟨⟨k+1,om,by rw[Z],by have h1:=H.out;simp_all [Hid],(O.alloc _).trans ha⟩,rfl⟩)
     case measure=>rw[Z];simp[intOf];omega
   ·have hL:k=l.length:=om;subst hL;have X:=gd (I.out.trans (by simp:_=true));have hP:=((Ext.refl wr).alloc (.map #[] 0)).cell (O.cell hy);go_wp2;refine Zsg 1 ?_;rw[rounds_succ];go_wp2;go_ret;refine ⟨by rw[X.out];simp[hb.out],?_⟩;exact (((((Ext.refl w).alloc _).trans D).trans (F.trans O)).alloc _)
 ·have hK:decide ((100:Int)<(d:Nat))=true:=by simp;omega
  have hb:=gd hh;unfold vcells at*;go_enter func217,ntmps217;go_wp2;go_ret;exact ⟨by simp,(Ext.refl _).alloc _⟩
theorem Zg3 {w:World} {ad:Addr} {C:ByteArray} {cs:List Value} {at_:Int} {k:Nat} (H:cs.length=7) (h:∀j u,(mcell (C,cs,at_))[j]? =some u->w.cell? ((ad.add (k*9)).add j)=some u):
 w.cell? (ad.add (k*9))=some (.string C)/\(∀j u,cs[j]? =some u->w.cell? ⟨(ad.add (k*9)).block,(ad.add (k*9)).off+(j+1),none⟩=some u)/\w.cell? ⟨(ad.add (k*9)).block,(ad.add (k*9)).off+8,none⟩=some (.int .i64 at_):=by
 have A:∀i,0<i->(ad.add (k*9)).add i=⟨(ad.add (k*9)).block,(ad.add (k*9)).off+i,none⟩:=λi I=>ZqH om;refine ⟨?_,λj u F=> ?_,?_⟩
 ·have:=h 0 _ rfl
  rwa [add_zero] at this
 ·have D:j<cs.length:=(Zrw.1 F).1;have:=h (j+1) u (by show (cs++ [_])[j]? =some u;rw[Zsq D];exact F)
  rwa [A _ om] at this
 ·have:=h 8 (.int .i64 at_) (by show (cs++ [_])[7]? =_;rw[ZrP om,H];rfl)
  rwa [A _ om] at this
theorem Zme (n:Nat) (ih:ValidSaid n) (ks:List ByteArray) (vs:List JV) (cs:List Value) (w:World) (d:Nat) (h:RVn (n+1) w (.obj ks vs) cs) (hT:jok (.obj ks vs)) (hE:Env w) (hd:1<=d) (gt:d<=101):
 Calls prog 217 #[.agg cs.toArray,.int .i64 (d:Nat)] w λe w'=>e= .returned (.bool (jvalid (.obj ks vs) d))/\Ext w w':=by
 obtain ⟨a,v,ms,rfl,hs,gm,hr,ha⟩:=h;rw[Zj4] at hT;obtain ⟨gu,hS,hP,hU⟩:=hT;rw[Zcz];have gn:=hr;obtain ⟨_,A,c,rfl,gl,hp,_,_⟩:=gn;have hh:(⟨#[]⟩:ByteArray).size<=16777216:=by simp[ByteArray.size]
 have X:=λw' (gg:Env w')=>YN ⟨#[]⟩ w' gg hh;have hV:Lib.validD (⟨#[]⟩:ByteArray).data.toList=true:=by decide
 rw[hV] at X;have gc:=gd X;have gb:=gd (λw' (hx:Ext w w')=>XY (n+1) (.obj ks vs) (ocells (.slice A vs.length c) a) w' ⟨a,_,ms,rfl,hs,gm,hr.ext hx,λi j c hj hc=>(ha i j c hj hc).ext hx⟩);have gw:= @run_makeMap prog;have hR:∀c∈ms.map mcell,c.length=9:=by intro c hc;obtain ⟨m,hm,rfl⟩:=Zrr.1 hc;obtain ⟨i,hi,rfl⟩:=List.mem_iff_getElem.1 hm;have:=(ha i vs[i] ms[i] (ZqL om) (ZqL hi)).len;simp[mcell,this]
 have h5:=gd hR;have h0:=gd ih;have hZ:=gd ha;have ge:=gd hU;have h3:=gd hs;have h8:=gd hS;have h4:=gd hP;have HR:=gd hr;have HE:=gd hE;clear hR ih ha hU hs hS hP X hV hh;by_cases hN:d<=100
 ·have gi:decide ((100:Int)<(d:Nat))=false:=by simp;omega
  have hl:=gd hN;unfold ocells at*;go_enter func217,ntmps217
  go_wp2_with (first|(go_at_call 231;refine (gb.out _ ((Ext.refl _).alloc _)).mono ?_;rintro e w1 ⟨rfl,Y⟩;have gq:=Y.boxed 3 _ rfl)|(go_at_call 232;refine (gc.out _ ((HE.out.alloc _).ext Y)).mono ?_;rintro e w2 ⟨rfl,hw⟩;have gr:=hw.cell (Y.boxed 4 _ rfl);have gs:=((Ext.refl w2).alloc (.map #[] 0)).cell (hw.cell (Y.boxed 5 _ rfl))))
  refine Zsg 1 ?_;rw[rounds_succ];go_wp2;go_loopw [50] (λi wr=>∃(k:Nat) (D:DataW Unit),k<=vs.length/\i= .int .i64 k/\wr.ownsMap prog 9 (plainElem prog 4) w2.heap.size k D/\Hid (SeenMap D (λs=>(ks.take k).any (λe=>decide (e=s))))/\Hid ((vs.all λj=>jvalid j (d+1))=((vs.drop k).all λj=>jvalid j (d+1)))/\Ext w2 wr) (λi _=>vs.length - (intOf i).toNat)
  case atStart=>exact ⟨0,.map [],ZqO _,rfl,World.ownsMap_made _ _ _ _,gd SeenMap.nil,rfl,(Ext.refl _).alloc _⟩
  case round=>
   obtain ⟨k,D,hk,rfl,hM,hD,R,hx⟩:=hrel;have hX:Ext w w2:=(((Ext.refl w).alloc _).trans Y).trans hw;have Z:Ext w wr:=hX.trans hx;by_cases ht:k<vs.length
   ·have ho:k<ms.length:=om;have hq:k<ks.length:=om;have U:=hZ.out k vs[k] ms[k] (ZqL ht) (ZqL ho);obtain ⟨ad,cap,hA,F⟩:=RSl.elem (HR.out.ext Z) om h5.out k (mcell ms[k]) (by rw[Zrq,ZqL ho];rfl);injection hA with hA1 hA2 hA3;subst hA1;clear hA2 hA3;rw[Zst] at F;have S:ks[k]=ms[k].1:=(by have h1:(ms.map Prod.fst)[k]? =ks[k]?:=(by rw[h3.out]);rw[Zrq,ZqL ho,ZqL hq] at h1;injection h1 with h1;exact h1.symm);have O:(ks.take k).any (λe=>decide (e=ks[k]))=false:=(by rw[List.any_eq_false];intro x hx hy;have hy:x=ks[k]:=(by simpa using hy);obtain ⟨j,hj,gj⟩:=List.mem_take_iff_getElem.1 hx;have:=(Zsd.1 (List.nodup_iff_pairwise_ne.1 h8.out)) j k om hq om;exact this (gj.trans hy));have hv:=ZqQ hq;have J:=h4.out ks[k] (Zq2 _);have hg:=ge.out vs[k] (Zq2 _);have V:=R.out.trans (by rw[ZqR ht,ZsK]:_=(jvalid vs[k] (d+1) && (vs.drop (k+1)).all λj=>jvalid j (d+1)));obtain ⟨M,hJ⟩:∃M,ms[k]=M:=⟨_,rfl⟩;rw[hJ] at F U S;obtain ⟨Q,cv,at_⟩:=M;dsimp only at S U;rw[S] at O hv J;have hQ:=U.len;obtain ⟨x0,x1,x2,x3,x4,x5,x6,y4,y5,y6,x7,hc⟩:=U.shape;subst hc;obtain ⟨c0,cv_,c8⟩:=Zg3 hQ F;have c1:=cv_ 0 _ rfl;have c2:=cv_ 1 _ rfl;have c3:=cv_ 2 _ rfl;have c4:=cv_ 3 _ rfl;have c5:=cv_ 4 _ rfl;have c6:=cv_ 5 _ rfl;have c7:=cv_ 6 _ rfl;simp only[ZrH,Nat.reduceAdd] at c1 c2 c3 c4 c5 c6 c7;have hu:Q.size<=maxLen:=(by have:=J.1;unfold maxLen;omega);have hC:=gd (keyOf_string_mk underlying9 hu:keyOf prog 9 (.string Q)=some (.string Q.data.toList));have hG:Hid (SeenMap (D.put (.string Q.data.toList) (.lit (.bool true))) (λs=>(ks.take (k+1)).any (λe=>decide (e=s)))):=gd (hD.out.put λt=>by rw[hv,List.any_append];simp);obtain ⟨W1,hL⟩:∃W1,wr.alloc (.cells #[.string Q,.int .i64 x0,.bool x1,.int .i64 x2,.string x3,.slice x4 x5 x6,.slice y4 y5 y6,.int .i64 x7,.int .i64 at_] 290)=W1:=⟨_,rfl⟩;have H:Ext wr W1:=(by rw[<-hL];exact (Ext.refl _).alloc _);have gh:=Zaq (hM.kept (H.grown none) (by simp)) hD.out hu;simp only[O] at gh;have I:Hid (∀i u wz,#[Value.string Q,.int .i64 x0,.bool x1,.int .i64 x2,.string x3,.slice x4 x5 x6,.slice y4 y5 y6,.int .i64 x7,.int .i64 at_][i]? =some u->Ext W1 wz->wz.cell? ⟨wr.heap.size,i,none⟩=some u):=gd (λi u wz h hz=>Ext.boxed (w:=wr) (by rw[hL];exact hz) i u h);have hH:=gd (YN Q W1 (HE.out.ext (Z.trans H)) J.1);rw[J.2] at hH;have ga:=gd (U.ext (Z.trans H));have hF:=gd hg;have hf:=gd V;have HM:=gd (hM.kept (H.grown none) (by simp));have hI:=gd (Z.trans H);have gf:=gd (hx.trans H);have h2:Hid (k<maxLen):=gd (by have:=gl;have:=hp;omega);have hW:wrap64 ((k:Int)+1)=((k+1:Nat):Int):=(by rw[maxLen] at hp;rw[Z9 _ ⟨om,om⟩];rfl);have go:IntKind.i64.wrap ((d:Int)+1)=((d+1:Nat):Int):=(by rw[IntKind.wrap];simp[IntKind.signed,IntKind.bits];omega);have b0:=I.out 0 _ W1 rfl (Ext.refl _);clear R V hg U F cv_ hQ J hu O hv S hJ hM H hD hp
    go_wp2_with (first|(go_at_call 232;have hz:=hH.out;refine ZqD hz ?_;clear hz;rintro e w3 ⟨rfl,C⟩;have b1:=I.out 1 _ w3 rfl C;have b2:=I.out 2 _ w3 rfl C;have b3:=I.out 3 _ w3 rfl C;have b4:=I.out 4 _ w3 rfl C;have b5:=I.out 5 _ w3 rfl C;have b6:=I.out 6 _ w3 rfl C;have b7:=I.out 7 _ w3 rfl C;have h9:=gd (ga.out.ext C);have hY:=gd (HE.out.ext (hI.out.trans C)))|(go_at_call 217;(have hz:=h0.out vs[k] _ w3 (d+1) h9.out hF.out hY.out om om);(rw[show ((d+1:Nat):Int)=(d:Int)+1 from rfl] at hz);refine ZqD hz ?_;clear hz;rintro e w4 ⟨rfl,he⟩;have d0:=I.out 0 _ w4 rfl (C.trans he);(have h6:=gd (HM.out.kept ((C.trans he).grown none) (by simp))))|(at_mapUpdate;(refine ZsZ _ rfl (.tmp 72) (.tmp 74) (.const (.bool true)) 186 rfl 9 4 Ql underlying186 _ w2.heap.size k D rfl h6.out h2.out _ _ _ rfl rfl hC.out _ [] (plainElem_bool underlying4 true) ?_);intro w5 hK hO))
    ·go_ret;refine ⟨?_,hI.out.trans (C.trans he)⟩;have h1:=hf.out
     simp_all
    ·have gp:Ext w2 w5:=Ext.grown' (B:=0) (gf.out.trans (C.trans he)) hO (λb hb=>by cases hb;exact ZqE _);have h7:=gd hK;have hB:Hid ((vs.all λj=>jvalid j (d+1))=((vs.drop (k+1)).all λj=>jvalid j (d+1))):=(by have h1:=hf.out;simp_all [Hid]);clear hK hO;go_roundw
     case rel=>exact ⟨k+1,_,ht,by rw[hW],h7.out,hG,hB,gp⟩
     case measure=>rw[hW];simp[intOf];omega
   ·have gk:k=vs.length:=om;subst gk;have hn:=gd (R.out.trans (by simp:_=true));clear R;go_wp2;go_ret;exact ⟨by rw[hn.out];simp[hl.out],Z⟩
 ·have gi:decide ((100:Int)<(d:Nat))=true:=by simp;omega
  have hl:=gd hN;unfold ocells at*;go_enter func217,ntmps217;go_wp2;go_ret;exact ⟨by simp[hl.out],(Ext.refl _).alloc _⟩
theorem VK (k:Int) (b:Bool) (x:Int) (s:ByteArray) (a:Int) (w:World) (d:Nat) (Y:Env w) (Z:s.size<=16777216) (hk:0<=k) (hg:k<=5) (hd:1<=d) (hc:d<=101)
 (I:∀w',Calls prog 231 #[.agg (vcells k b x s (.slice none 0 0) a).toArray] w' λe X=>e= .returned (.bool true)/\Ext w' X):
 Calls prog 217 #[.agg (vcells k b x s (.slice none 0 0) a).toArray,.int .i64 (d:Nat)] w λe w'=>e= .returned (.bool (decide (d<=100) && Lib.validD s.data.toList))/\Ext w w':=by
 have O:=λw' (R:Env w')=>YN s w' R Z;have D:=gd O;have F:=gd I;have he:decide (k<0)=false:=by simp;omega
 have hf:decide (5<k)=false:=by simp;omega
 have hh:= @run_makeMap prog;clear O I Z;by_cases H:d<=100
 ·have U:decide ((100:Int)<(d:Nat))=false:=by simp;omega
  have C:=gd H;unfold vcells at*;have V:∀Q:Bool,Lib.validD s.data.toList=Q->Calls prog 217 #[.agg #[.int .i64 k,.bool b,.int .i64 x,.string s,.slice none 0 0,.slice none 0 0,.int .i64 a],.int .i64 (d:Nat)] w λe w'=>e= .returned (.bool Q)/\Ext w w':=by
   intro Q J;rw[J] at D;clear J;go_enter func217,ntmps217;cases Q
   ·go_wp2_with (first|(go_at_call 231;refine (F.out _).mono ?_;rintro e w1 ⟨rfl,h⟩;have S:=h.boxed 3 _ rfl)|(go_at_call 232;refine (D.out _ ((Y.alloc _).ext h)).mono ?_;rintro e w2 ⟨rfl,A⟩))
    go_ret;exact ⟨rfl,(((Ext.refl w).alloc _).trans h).trans A⟩
   ·go_wp2_with (first|(go_at_call 231;refine (F.out _).mono ?_;rintro e w1 ⟨rfl,h⟩;have S:=h.boxed 3 _ rfl)|(go_at_call 232;refine (D.out _ ((Y.alloc _).ext h)).mono ?_;rintro e w2 ⟨rfl,A⟩;have ha:=A.cell (h.boxed 4 _ rfl);have hb:=((Ext.refl w2).alloc (.map #[] 0)).cell (A.cell (h.boxed 5 _ rfl))))
    refine Zsg 1 ?_;rw[rounds_succ];go_wp2;refine Zsg 1 ?_;rw[rounds_succ];go_wp2;go_ret;exact ⟨rfl,((((Ext.refl w).alloc _).trans h).trans A).alloc _⟩
  refine (V _ rfl).mono ?_;rintro e w' ⟨rfl,hx⟩;exact ⟨by simp[C.out],hx⟩
 ·have U:decide ((100:Int)<(d:Nat))=true:=by simp;omega
  have C:=gd H;unfold vcells at*;go_enter func217,ntmps217;go_wp2;go_ret;exact ⟨by simp[C.out],(Ext.refl _).alloc _⟩
theorem Zp7:Lib.validD (⟨#[]⟩:ByteArray).data.toList=true:=by decide
theorem Zdc:∀n,ValidSaid n
 |0,_,_,_,_,h,_,_,_,_=>h.elim
 |n+1,j,cs,w,d,h,hok,hE,hd,hd1=>by
  cases j with
  |arr l=>exact Zmc n (Zdc n) l cs w d h hok hE hd hd1
  |obj ks vs=>exact Zme n (Zdc n) ks vs cs w d h hok hE hd hd1
  |null=>
   obtain ⟨a,rfl⟩:=h
   refine (VK 0 false 0 ⟨#[]⟩ a w d hE (by simp[ByteArray.size]) om om hd hd1 λw'=>XY (n+1) .null _ w' ⟨a,rfl⟩).mono ?_
   rintro e w' ⟨rfl,A⟩
   exact ⟨by rw[Zp7,ZsY];simp[jvalid],A⟩
  |bool b=>
   obtain ⟨a,rfl⟩:=h
   refine (VK 1 b 0 ⟨#[]⟩ a w d hE (by simp[ByteArray.size]) om om hd hd1 λw'=>XY (n+1) (.bool b) _ w' ⟨a,rfl⟩).mono ?_
   rintro e w' ⟨rfl,A⟩
   exact ⟨by rw[Zp7,ZsY];simp[jvalid],A⟩
  |int x=>
   obtain ⟨a,rfl⟩:=h
   refine (VK 2 false x ⟨#[]⟩ a w d hE (by simp[ByteArray.size]) om om hd hd1 λw'=>XY (n+1) (.int x) _ w' ⟨a,rfl⟩).mono ?_
   rintro e w' ⟨rfl,A⟩
   exact ⟨by rw[Zp7,ZsY];simp[jvalid],A⟩
  |str s=>
   obtain ⟨a,rfl⟩:=h
   refine (VK 3 false 0 s a w d hE (by simpa [jok] using hok) om om hd hd1 λw'=>XY (n+1) (.str s) _ w' ⟨a,rfl⟩).mono ?_
   rintro e w' ⟨rfl,A⟩
   exact ⟨by simp[jvalid],A⟩
theorem ZiF (j:JV) (cs:List Value) (w:World) (h:RV w j cs) (A:jok j) (D:Env w):
 Calls prog 203 #[.agg cs.toArray] w λe w'=>e= .returned (.int .i64 (if jvalid j 1 then 0 else 22))/\Ext w w':=by
 obtain ⟨n,h⟩:=h;obtain ⟨I,J,O,Q,R,S,U,X,Y,Z,V,F⟩:=h.shape;subst F;have H:=gd (λw' (C:Ext w w')=>Zdc n j _ w' 1 (h.ext C) A (D.ext C) om om);clear h A D;go_enter func203,ntmps203
 go_wp2_with (go_at_call 217;refine (H.out _ ((Ext.refl w).alloc _)).mono ?_;rintro e w' ⟨rfl,C⟩)
 all_goals go_ret
 all_goals exact ⟨by simp_all,((Ext.refl w).alloc _).trans C⟩
abbrev WB (B b:Nat) (bs:List Value) (w:World):Prop:=Lib.IsBuilder 266 5 B b bs w
theorem Znl (s:ByteArray) (B b:Nat) (bs:List Value) (w:World) (Y:Env w) (R:s.size<=16777216) (X:WB B b bs w) (C:B<=w.heap.size) (hl:bs.length+(quoteS s).1.size<=140737488355328):
 Calls prog 220 #[.pointer (some ⟨b,0,none⟩),.string s] w λe w'=>e= .returned (.tuple #[])/\(WB B b (bs++Lib.byteCells (quoteS s).1.data.toList) w'/\Below B w w'/\KeepsT 266 w w'):=by
 have O:=ZlN s w Y R;generalize Z:quoteS s=Q at*;clear Z R;obtain ⟨q,e⟩:=Q;have S:=gd O;clear O;go_enter func220,ntmps220
 go_wp2_with (first|(go_at_call 234;refine S.out.mono ?_;rintro e w1 ⟨rfl,A⟩;have F:=ZF X A;have D:=ZqM C A.size)|(go_at_call 92;refine (XH Yp _ _ _ _ _ F hl D).mono ?_;rintro e w2 ⟨rfl,H,J,I⟩))
 ((try simp only[Exit.inBlock,Exit.then]);refine bodyPost_end (results_none rfl _ _ _) rfl ?_);exact ⟨rfl,Or.inr H,(ZrV A C).trans J,λk cs t fr h U V=>I k cs t fr (A.heap h) U V⟩
theorem Znk (s:ByteArray) (B b:Nat) (bs:List Value) (w:World) (H:Env w) (J:s.size<=16777216) (F:WB B b bs w) (h:B<=w.heap.size) (I:bs.length+(quoteS s).1.size<=140737488355328):
 Calls prog 220 #[.pointer (some ⟨b,0,none⟩),.string s] w λe w'=>e= .returned (.tuple #[])/\(WB B b (bs++Lib.byteCells (quoteS s).1.data.toList) w'/\Below B w w'):=
 (Znl s B b bs w H J F h I).mono λ_ _ ⟨A,C,D,_⟩=>⟨A,C,D⟩
theorem ZiG:jtext .null= [110,117,108,108]:=by simp[jtext]
theorem Zcw (b:Bool):jtext (.bool b)=if b then [116,114,117,101] else [102,97,108,115,101]:=by simp[jtext]
theorem Zee (n:Int):jtext (.int n)=Lib.itoa n:=by simp[jtext]
theorem Zef (s:ByteArray):jtext (.str s)=quoteL s.data.toList:=by simp[jtext]
theorem Zco (x:Bool) (w:World):Calls prog 218 #[.bool x] w λe w'=>e= .returned (.string (str (jtext (.bool x))))/\w'=w:=by
 have h:Calls prog 233 #[.bool x] w λe w'=>e= .returned (.string (str (jtext (.bool x))))/\w'=w:=by
  go_enter func233,ntmps233;cases x
  ·go_wp2;go_ret;exact ⟨by rw[Zcw];rfl,rfl⟩
  ·go_wp2;go_ret;exact ⟨by rw[Zcw];rfl,rfl⟩
 go_enter func218,ntmps218
 go_wp2_with (go_at_call 233;refine h.mono ?_;rintro e w1 ⟨rfl,rfl⟩)
 go_ret;exact ⟨rfl,rfl⟩
def ValueSaid (n:Nat):Prop:=∀(j:JV) (cs:List Value) (w0 w:World) (B b:Nat) (bs:List Value) (d:Nat),RVn n w0 j cs->jok j->jvalid j d=true->Env w0->Ext w0 w->w0.heap.size<=B->
 WB B b bs w->B<=w.heap.size->bs.length+(jtext j).length<=140737488355328->
 Calls prog 204 #[.pointer (some ⟨b,0,none⟩),.agg cs.toArray] w λe w'=>e= .returned (.tuple #[])/\(WB B b (bs++Lib.byteCells (jtext j)) w'/\Below B w w')
theorem VL (n:Nat) (j:JV) (cs:List Value) (w0 w:World) (B b:Nat) (bs:List Value) (d:Nat) (C:RVn n w0 j cs) (H:jok j) (Q:jvalid j d=true) (hE:Env w0) (hx:Ext w0 w) (h0:w0.heap.size<=B)
 (hB:WB B b bs w) (S:B<=w.heap.size) (Y:bs.length+(jtext j).length<=140737488355328) (hj:∀l,j≠ .arr l) (hb:∀ks vs,j≠ .obj ks vs):
 Calls prog 204 #[.pointer (some ⟨b,0,none⟩),.agg cs.toArray] w λe w'=>e= .returned (.tuple #[])/\(WB B b (bs++Lib.byteCells (jtext j)) w'/\Below B w w'):=by
 have V:=hE.ext hx;cases n with
 |zero=>exact C.elim
 |succ n=>
  obtain ⟨a,C⟩:=C;have R:=λo=>ZF hB ((Ext.refl w).alloc o);have h:∀o,B<=(w.alloc o).heap.size:=λo=>ZqM S ((Ext.refl w).alloc o).size;have F:∀o,Below B w (w.alloc o):=λo=>ZrV ((Ext.refl w).alloc o) S;cases j with
  |arr l=>exact absurd rfl (hj l)
  |obj ks vs=>exact absurd rfl (hb ks vs)
  |null=>
   subst C;rw[ZiG] at*;unfold vcells;go_enter func204,ntmps204
   go_wp2_with (go_at_call 92;refine (Yu Yp _ _ _ _ _ (R _) (by exact Y) (h _)).mono ?_;rintro e w2 ⟨rfl,A,D⟩)
   ((try simp only[Exit.inBlock,Exit.then]);refine bodyPost_end (results_none rfl _ _ _) rfl ?_);exact ⟨rfl,A,(F _).trans D⟩
  |bool x=>
   subst C;unfold vcells;have Z:=gd (Zco x);generalize jtext (.bool x)=tx at*;clear H Q;go_enter func204,ntmps204
   go_wp2_with fail
   go_region_with (first|(go_at_call 218;refine (Z.out _).mono ?_;rintro e w1 ⟨rfl,rfl⟩)|(go_at_call 92;refine (Yu Yp _ _ _ _ _ (ZF hB ((Ext.refl w).alloc _).drew) (by exact Y) (h _)).mono ?_;rintro e w2 ⟨rfl,A,D⟩))
   all_goals ((try simp only[Exit.inBlock]);refine bodyPost_end (results_none rfl _ _ _) rfl ?_)
   all_goals exact ⟨rfl,A,(F _).drew.trans D⟩
  |int x=>
   subst C;unfold vcells;have Z:=gd (λw' J=>Zdq x w' J (by simpa [jok,i64ok] using H));rw[Zee] at*;have X:itoaS x=str (Lib.itoa x):=rfl;rw[X] at Z;clear X;generalize Lib.itoa x=tx at*;clear H Q;go_enter func204,ntmps204
   go_wp2_with fail
   go_region_with (first|(go_at_call 219;refine (Z.out _ (V.alloc _).drew).mono ?_;rintro e w1 ⟨rfl,O⟩)|(go_at_call 92;refine (Yu Yp _ _ _ _ _ (ZF hB (((Ext.refl w).alloc _).drew.trans O)) (by exact Y) (ZqM (h _) O.size)).mono ?_;rintro e w2 ⟨rfl,A,D⟩))
   all_goals ((try simp only[Exit.inBlock]);refine bodyPost_end (results_none rfl _ _ _) rfl ?_)
   all_goals exact ⟨rfl,A,(F _).drew.trans ((ZrV O (h _)).trans D)⟩
  |str s=>
   subst C;unfold vcells;have hQ:quoteS s=(str (jtext (.str s)),0):=(by unfold quoteS;rw[Zef,ZqN];rw[jvalid] at Q;simp at Q;exact Q.2);have I:=λw' J ha U=>Znk s B b bs w' J (by simpa [jok] using H) ha U (by rw[hQ];exact Y);rw[hQ] at I;have HS:=gd I;clear I hQ H Q Y;go_enter func204,ntmps204
   go_wp2_with (go_at_call 220;refine (HS.out _ (V.alloc _) (R _) (h _)).mono ?_;rintro e w2 ⟨rfl,A,D⟩)
   ((try simp only[Exit.inBlock,Exit.then]);refine bodyPost_end (results_none rfl _ _ _) rfl ?_);exact ⟨rfl,A,(F _).trans D⟩
theorem Zmr: [Value.int IntKind.u8 44]=Lib.byteCells [44]:=rfl
theorem Zpv: [Value.int IntKind.u8 93]=Lib.byteCells [93]:=rfl
theorem V7 (L:List (List UInt8)) (k:Nat) (h:k<L.length):commas (L.take (k+1))=(if k=0 then [] else commas (L.take k)++ [44])++L[k]:=by
 rw[ZqQ h,V6];by_cases A:k=0
 ·subst A;simp
 ·have:L.take k≠ []:=by
   intro C;have:=ZqS List.length C;rw[Zra] at this;simp at this;rcases this with h|h
   ·exact A h
   ·subst h;simp at*
  rw[ZqH this,ZqH A];simp
theorem ZdY (L:List (List UInt8)):∀k,k<=L.length->(commas (L.take k)).length<=(commas L).length:=by
 have step:∀k,k<L.length->(commas (L.take k)).length<=(commas (L.take (k+1))).length:=by
  intro k h;rw[V7 L k h];by_cases C:k=0
  ·subst C;simp[commas]
  ·rw[ZqH C];simp only[ZqG];omega
 have A:∀n k,k+n=L.length->(commas (L.take k)).length<=(commas L).length:=by
  intro n
  induction n with
  |zero=>intro k h;rw[Zq4 om];exact ZqE _
  |succ n ih=>intro k h;exact ZqM (step k om) (ih (k+1) om)
 intro k h;exact A (L.length - k) k om
theorem Zni (n:Nat) (ih:ValueSaid n) (l:List JV) (A:Option Addr) (c:Nat) (css:List (List Value)) (w0 w:World) (B b:Nat) (bs:List Value) (d:Nat) (ge:css.length=l.length)
 (hr:RSl w0 7 (.slice A l.length c) l.length css.flatten) (hn:∀(i:Nat) (j:JV) (c:List Value),l[i]? =some j->css[i]? =some c->RVn n w0 j c) (hK:∀j∈l,jok j) (hv:∀j∈l,jvalid j d=true) (hE:Env w0) (hx:Ext w0 w) (h0:w0.heap.size<=B)
 (hB:WB B b bs w) (hz:B<=w.heap.size) (hl:bs.length+(commas (l.map jtext)).length+2<=140737488355328):
 Calls prog 221 #[.pointer (some ⟨b,0,none⟩),.int .u8 91,.int .u8 93,.slice A l.length c,.func (.func 204) #[.pointer (some ⟨b,0,none⟩)] #[]] w
  λe w'=>e= .returned (.tuple #[])/\(WB B b (bs++Lib.byteCells (91::(commas (l.map jtext)++ [93]))) w'/\Below B w w'):=by
 obtain ⟨_,A',c',hT,gf,h7,_,_⟩:=id hr;injection hT with h1 h2 h3;subst h1 h3;have hI:∀c∈css,c.length=7:=by intro c hc;obtain ⟨i,hi,rfl⟩:=List.mem_iff_getElem.1 hc;exact (hn i l[i] css[i] (ZqL om) (ZqL hi)).len
 have hR:=gd hI;have hu:=gd ih;have hQ:=gd hn;have hS:=gd hK;have HV:=gd hv;have HL:=gd hl;have hF:∀k,k<=(l.map jtext).length->bs.length+(commas ((l.map jtext).take k)).length+2<=140737488355328:=λk hk=>by have:=ZdY _ k hk;omega
 have hs:=gd hF;clear hI ih hn hK hv hF hl;go_enter func221,ntmps221
 go_wp2_with (go_at_call 95;refine (Yk Yp _ _ _ _ _ hB (by have:=HL.out;omega) hz).mono ?_;rintro e w1 ⟨rfl,hU,ga⟩)
 go_loopw [19] (λi wr=>∃k:Nat,k<=l.length/\i= .int .i64 k/\WB B b (bs++Lib.byteCells (91::commas ((l.map jtext).take k))) wr/\Below B w wr) (λi _=>l.length - (intOf i).toNat)
 case atStart=>exact ⟨0,ZqO _,rfl,hU,ga⟩
 case round=>
  obtain ⟨k,hk,rfl,V,O⟩:=hrel;have hO:Ext w0 wr:=hx.then (ZrV O h0);have hh:=ZqM hz O.size;by_cases J:k<l.length
  ·have hD:k<css.length:=om;have X:=hQ.out k l[k] css[k] (ZqL J) (ZqL hD);obtain ⟨ad,cap,hA,h⟩:=RSl.elem (hr.ext hO) om hR.out k css[k] (ZqL hD);injection hA with hA1 hA2 hA3;subst hA1;clear hA2 hA3;rw[Zst] at h;obtain ⟨x0,x1,x2,x3,x4,x5,x6,y4,y5,y6,x7,hc⟩:=X.shape;rw[hc] at h;have hW:=h 0 _ rfl;have hX:=h 1 _ rfl;have hY:=h 2 _ rfl;have hZ:=h 3 _ rfl;have h4:=h 4 _ rfl;have h5:=h 5 _ rfl;have h6:=h 6 _ rfl;rw[add_zero] at hW;have hd:∀i,0<i->(ad.add (k*7)).add i=⟨(ad.add (k*7)).block,(ad.add (k*7)).off+i,none⟩:=λi hi=>ZqH om;rw[hd _ om] at hX hY hZ h4 h5 h6;clear hd;rw[hc] at X;clear h;have hM:wrap64 ((k:Int)+1)=((k+1:Nat):Int):=(by rw[maxLen] at h7;rw[Z9 _ ⟨om,om⟩];rfl);have hw:=gd X;have he:=hS.out l[k] (Zq2 _);have hL:=HV.out l[k] (Zq2 _);have Y:=V7 (l.map jtext) k (by simpa using J);have R:=hs.out (k+1) (by rw[Zq9];exact J);rw[ZsF] at Y;rw[Y] at R;clear X;have hq:=gd R;have ht:=gd Y;have hb:=gd he;have hy:=gd hL;have ha:∀o,Ext wr (wr.alloc o):=λo=>(Ext.refl wr).alloc o;have hj:∀o,Below B wr (wr.alloc o):=λo=>ZrV (ha o) hh;have hg:∀o,B<=(wr.alloc o).heap.size:=λo=>ZqM hh (ha o).size;clear Y R he hL;have hJ:l.length - (intOf (Value.int IntKind.i64 (wrap64 ((k:Int)+1)))).toNat<l.length - (intOf (Value.int IntKind.i64 (k:Int))).toNat:=(by rw[hM];exact Nat.sub_lt_sub_left J (ZrB k));have hN:=ZqS (Value.int .i64) hM;have hG:k+1<=l.length:=J;rcases ZrX k with C|C
   ·have h8:decide (0<k)=false:=Zre (by rw[C];exact Nat.lt_irrefl 0);have D:commas (List.take (k+1) (List.map jtext l))=jtext l[k]:=(by rw[ht.out,ZqN C];rfl);have S:commas (List.take k (List.map jtext l))= []:=(by have:∀m,m=0->commas (List.take m (List.map jtext l))= []:=(by rintro m rfl;rfl);exact this k C);have Q:bs.length+(jtext l[k]).length+2<=140737488355328:=(by have:=hq.out;rw[ZqN C] at this;exact this);have Z:Hid ((bs++Lib.byteCells (91::commas (List.take k (List.map jtext l)))).length+(jtext l[k]).length<=140737488355328):=(by unfold Hid;rw[S,ZqG,Zw];simp only[ZqK,Zq5];omega);have gc:=gd Z;have hf:=gd D;have hP:=gd S;clear C D S Q
    go_wp2_with (go_at_call 204;refine (hu.out l[k] _ w0 _ B b _ d hw.out hb.out hy.out hE (hO.alloc _) h0 (ZF V (ha _)) (hg _) Z.out).mono ?_;rintro e w2 ⟨rfl,I,H⟩)
    have U:WB B b (bs++Lib.byteCells (91::commas ((l.map jtext).take (k+1)))) w2:=(by rw[hf.out];have h2:=I;rw[hP.out,ZqY,<-Zf] at h2;exact h2);have hp:=O.trans ((hj _).trans H);go_roundw
    case rel=>exact ⟨k+1,hG,hN,U,hp⟩
    case measure=>exact hJ
   ·have h8:decide (0<k)=true:=Zrj C;have ho:k≠0:=Nat.pos_iff_ne_zero.1 C;have D:commas (List.take (k+1) (List.map jtext l))=commas (List.take k (List.map jtext l))++ [44]++jtext l[k]:=(by rw[ht.out,ZqH ho]);have Q:bs.length+(commas (List.take k (List.map jtext l))++ [44]++jtext l[k]).length+2<=140737488355328:=(by have:=hq.out;rw[ZqH ho] at this;exact this);rw[ZqG,ZqG] at Q;simp only[ZqK,Zq5] at Q;have Z:Hid ((bs++Lib.byteCells (91::commas (List.take k (List.map jtext l)))++ [Value.int .u8 44]).length+(jtext l[k]).length<=140737488355328):=(by unfold Hid;rw[ZqG,ZqG,Zw];simp only[ZqK,Zq5];omega);have hm:Hid ((bs++Lib.byteCells (91::commas (List.take k (List.map jtext l)))).length+1<=140737488355328):=(by unfold Hid;rw[ZqG,Zw];simp only[ZqK];omega);have hf:=gd D;clear C D Q ho
    go_wp2_with (first|(go_at_call 95;refine (YD Yp _ _ _ _ _ (ZF V (ha _)) hm.out (hg _)).mono ?_;rintro e w2 ⟨rfl,I,H,h9⟩;have hC:=ZqM (hg _) H.size;(have F:=h9 _ _ _ _ (ZqJ wr _) (by decide) (by decide));have gg:=(ZqI _ _ 0 _ _ _ F);have gh:=(ZqI _ _ 1 _ _ _ F);have gi:=(ZqI _ _ 2 _ _ _ F);have gj:=(ZqI _ _ 3 _ _ _ F);have gk:=(ZqI _ _ 4 _ _ _ F);have gl:=(ZqI _ _ 5 _ _ _ F);have gm:=(ZqI _ _ 6 _ _ _ F))|(go_at_call 204;refine (hu.out l[k] _ w0 _ B b _ d hw.out hb.out hy.out hE (hx.then (ZrV (O.trans ((hj _).trans H)) h0)) h0 (Or.inr I) hC Z.out).mono ?_;rintro e w3 ⟨rfl,hV,gb⟩))
    have U:WB B b (bs++Lib.byteCells (91::commas ((l.map jtext).take (k+1)))) w3:=(by rw[hf.out];have h2:=hV;rw[ZqY,ZqY,Zmr,<-Zf,<-Zf] at h2;simpa using h2);have hp:=O.trans ((hj _).trans (H.trans gb));go_roundw
    case rel=>exact ⟨k+1,hG,hN,U,hp⟩
    case measure=>exact hJ
  ·have hH:(l.map jtext).take k=l.map jtext:=Zq4 (by rw[Zq9];exact Nat.not_lt.1 J);rw[hH] at V;have hm:Hid ((bs++Lib.byteCells (91::commas (l.map jtext))).length+1<=140737488355328):=(by unfold Hid;rw[ZqG,Zw];have:=HL.out;simp only[ZqK];omega);clear hs HL hH
   go_wp2_with (go_at_call 95;refine (Yk Yp _ _ _ _ _ V hm.out hh).mono ?_;rintro e w2 ⟨rfl,I,H⟩)
   ((try simp only[Exit.inBlock,Exit.then]);refine bodyPost_end (results_none rfl _ _ _) rfl ?_);refine ⟨rfl,?_,O.trans H⟩;rw[Zpv,ZqY,<-Zf] at I;exact I
theorem Zmf (n:Nat) (ih:ValueSaid n) (l:List JV) (cs:List Value) (w0 w:World) (B b:Nat) (bs:List Value) (d:Nat) (U:RVn (n+1) w0 (.arr l) cs) (h:jok (.arr l)) (J:jvalid (.arr l) d=true) (hE:Env w0) (hx:Ext w0 w) (h0:w0.heap.size<=B)
 (hB:WB B b bs w) (C:B<=w.heap.size) (S:bs.length+(jtext (.arr l)).length<=140737488355328):
 Calls prog 204 #[.pointer (some ⟨b,0,none⟩),.agg cs.toArray] w λe w'=>e= .returned (.tuple #[])/\(WB B b (bs++Lib.byteCells (jtext (.arr l))) w'/\Below B w w'):=by
 obtain ⟨a,v,css,rfl,R,Y,H⟩:=U;obtain ⟨_,A,c,rfl,hb,ha,_,_⟩:=id Y;rw[Zff] at h;rw[Vu] at J;rw[U9] at S|-;simp only[ZqZ,Zrm] at J;have I:bs.length+(commas (l.map jtext)).length+2<=140737488355328:=by simp only[ZqK,ZqG,Zq5] at S;omega
 have Z:=gd (λw' (V:Ext w0 w') O D=>Zni n ih l A c css w0 w' B b bs (d+1) R Y H h J.2 hE V h0 O D I);have F:∀o,Below B w (w.alloc o):=λo=>ZrV ((Ext.refl w).alloc o) C;clear h J H S I ih;unfold vcells;go_enter func204,ntmps204
 go_wp2_with (go_at_call 221;refine (Z.out _ (hx.alloc _) (ZF hB ((Ext.refl w).alloc _)) (ZqM C ((Ext.refl w).alloc _).size)).mono ?_;rintro e w2 ⟨rfl,Q,X⟩)
 ((try simp only[Exit.inBlock,Exit.then]);refine bodyPost_end (results_none rfl _ _ _) rfl ?_);exact ⟨rfl,Q,(F _).trans X⟩
theorem Zpu: [Value.int IntKind.u8 58]=Lib.byteCells [58]:=rfl
theorem Zow: [Value.int IntKind.u8 125]=Lib.byteCells [125]:=rfl
theorem Zlf (k:ByteArray) (t:List UInt8):(keyed k t).length=(quoteL k.data.toList).length+1+t.length:=by
 rw[keyed,ZqG,ZqK];omega
theorem ZcI (n:Nat) (ih:ValueSaid n) (j:JV) (A:ByteArray) (cv:List Value) (at_:Int) (w0 w:World) (B b:Nat) (bs:List Value) (d:Nat) (J:RVn n w0 j cv) (Z:jok j) (hv:jvalid j d=true) (hk:A.size<=16777216/\Lib.validD A.data.toList=true) (hE:Env w0) (hx:Ext w0 w) (h0:w0.heap.size<=B)
 (hB:WB B b bs w) (I:B<=w.heap.size) (hl:bs.length+(keyed A (jtext j)).length<=140737488355328):
 Calls prog 223 #[.pointer (some ⟨b,0,none⟩),.agg (mcell (A,cv,at_)).toArray] w λe w'=>e= .returned (.tuple #[])/\(WB B b (bs++Lib.byteCells (keyed A (jtext j))) w'/\Below B w w'):=by
 rw[Zlf] at hl;have hn:=hE.ext hx;obtain ⟨x0,x1,x2,x3,x4,x5,x6,y4,y5,y6,x7,hc⟩:=J.shape;subst hc;obtain ⟨O,hO⟩:∃O,Obj.cells #[Value.string A,.int .i64 x0,.bool x1,.int .i64 x2,.string x3,.slice x4 x5 x6,.slice y4 y5 y6,.int .i64 x7,.int .i64 at_] 290=O:=⟨_,rfl⟩;have F:Ext w (w.alloc O):=(Ext.refl w).alloc O;have S:Below B w (w.alloc O):=ZrV F I;have hq:quoteS A=(str (quoteL A.data.toList),0):=by unfold quoteS;rw[ZqN hk.2]
 have ha:(str (quoteL A.data.toList)).size=(quoteL A.data.toList).length:=by rw[<-Zb,Zg]
 have C:=Znl A B b bs (w.alloc O) (hn.ext F) hk.1 (ZF hB F) (ZqM I F.size) (by rw[hq];show bs.length+(str (quoteL A.data.toList)).size<=_;rw[ha];omega);rw[hq] at C;dsimp only at C;rw[Zg] at C;have ho:(w.alloc O).heap[w.heap.size]? =some O:=ZqJ w _;have H:Hid ((bs++Lib.byteCells (quoteL A.data.toList)).length+1<=140737488355328/\(bs++Lib.byteCells (quoteL A.data.toList)++ [Value.int .u8 58]).length+(jtext j).length<=140737488355328):=by
  refine ⟨?_,?_⟩
  ·rw[ZqG,Zw];omega
  ·rw[ZqG,ZqG,Zw];simp only[ZqK,Zq5];omega
 have V:keyed A (jtext j)=quoteL A.data.toList++([58]++jtext j):=rfl;have U:∀w',WB B b (bs++Lib.byteCells (quoteL A.data.toList)++ [Value.int .u8 58]++Lib.byteCells (jtext j)) w'->WB B b (bs++Lib.byteCells (keyed A (jtext j))) w':=by intro w' h;rw[V,Zf,Zf,<-Zpu,<-ZqY,<-ZqY];exact h
 have hd:=gd U;have hh:=gd C;have he:=gd ih;have hg:=gd J;have hf:=gd Z;have HV:=gd hv;clear U V C ih J Z hv ha hq hl hk;subst hO;unfold mcell;go_enter func223,ntmps223
 go_wp2_with (first|(go_at_call 220;refine hh.out.mono ?_;rintro e w1 ⟨rfl,hi,Q,X⟩;(have hp:=X _ _ _ _ ho (by decide) (by decide));have hb:=ZqM (ZqM I F.size) Q.size)|(go_at_call 95;refine (YD Yp _ _ _ _ _ hi H.out.1 hb).mono ?_;rintro e w2 ⟨rfl,hj,R,Y⟩;have hr:=ZqM hb R.size;(have D:=Y _ _ _ _ hp (by decide) (by decide));have ht:=(ZqI _ _ 1 _ _ _ D);have hu:=(ZqI _ _ 2 _ _ _ D);have hw:=(ZqI _ _ 3 _ _ _ D);have hy:=(ZqI _ _ 4 _ _ _ D);have hz:=(ZqI _ _ 5 _ _ _ D);have hA:=(ZqI _ _ 6 _ _ _ D);have hC:=(ZqI _ _ 7 _ _ _ D))|(go_at_call 204;refine (he.out j _ w0 _ B b _ d hg.out hf.out HV.out hE (hx.then (ZrV ((S.trans Q).trans R) h0)) h0 (Or.inr hj) hr H.out.2).mono ?_;rintro e w3 ⟨rfl,hm,hs⟩))
 ((try simp only[Exit.inBlock,Exit.then]);refine bodyPost_end (results_none rfl _ _ _) rfl ?_);exact ⟨rfl,hd.out _ hm,((S.trans Q).trans R).trans hs⟩
theorem Znj (n:Nat) (ih:ValueSaid n) (ks:List ByteArray) (l:List JV) (A:Option Addr) (c:Nat) (ms:List (ByteArray×List Value×Int)) (w0 w:World) (B b:Nat) (bs:List Value) (d:Nat) (gu:ms.length=l.length) (he:ms.map Prod.fst=ks) (gn:ks.length=l.length) (hP:∀k∈ks,k.size<=16777216/\Lib.validD k.data.toList=true)
 (hr:RSl w0 9 (.slice A l.length c) l.length (ms.map mcell).flatten) (hu:∀(i:Nat) (j:JV) (m:ByteArray×List Value×Int),l[i]? =some j->ms[i]? =some m->RVn n w0 j m.2.1) (hT:∀j∈l,jok j) (hv:∀j∈l,jvalid j d=true) (hE:Env w0) (hx:Ext w0 w) (h0:w0.heap.size<=B)
 (hB:WB B b bs w) (hJ:B<=w.heap.size) (hl:bs.length+(commas (List.zipWith keyed ks (l.map jtext))).length+2<=140737488355328):
 Calls prog 222 #[.pointer (some ⟨b,0,none⟩),.int .u8 123,.int .u8 125,.slice A l.length c,.func (.func 223) #[.pointer (some ⟨b,0,none⟩)] #[]] w
  λe w'=>e= .returned (.tuple #[])/\(WB B b (bs++Lib.byteCells (123::(commas (List.zipWith keyed ks (l.map jtext))++ [125]))) w'/\Below B w w'):=by
 obtain ⟨_,A',c',h9,gt,gk,_,_⟩:=id hr;injection h9 with h1 h2 h3;subst h1 h3;have hR:∀c∈ms.map mcell,c.length=9:=by intro c hc;obtain ⟨m,hm,rfl⟩:=Zrr.1 hc;obtain ⟨i,hi,rfl⟩:=List.mem_iff_getElem.1 hm;have:=(hu i l[i] ms[i] (ZqL om) (ZqL hi)).len;simp[mcell,this]
 have hY:(List.zipWith keyed ks (l.map jtext)).length=l.length:=by rw[List.length_zipWith,Zq9,gn,Nat.min_self]
 have h7:=gd hR;have hF:=gd ih;have h4:=gd hu;have h8:=gd hT;have HV:=gd hv;have HL:=gd hl;have h6:=gd hP;have h5:=gd he;have hn:=gd hY;have hM:∀k,k<=(List.zipWith keyed ks (l.map jtext)).length->bs.length+(commas ((List.zipWith keyed ks (l.map jtext)).take k)).length+2<=140737488355328:=λk hk=>by have:=ZdY _ k hk;omega
 have hC:=gd hM;clear hR ih hu hT hv hM hl hP he hY;go_enter func222,ntmps222
 go_wp2_with (go_at_call 95;refine (Yk Yp _ _ _ _ _ hB (by have:=HL.out;omega) hJ).mono ?_;rintro e w1 ⟨rfl,ga,go⟩)
 go_loopw [19] (λi wr=>∃k:Nat,k<=l.length/\i= .int .i64 k/\WB B b (bs++Lib.byteCells (123::commas ((List.zipWith keyed ks (l.map jtext)).take k))) wr/\Below B w wr) (λi _=>l.length - (intOf i).toNat)
 case atStart=>exact ⟨0,ZqO _,rfl,ga,go⟩
 case round=>
  obtain ⟨k,hk,rfl,hb,S⟩:=hrel;have hX:Ext w0 wr:=hx.then (ZrV S h0);have hp:=ZqM hJ S.size;by_cases R:k<l.length
  ·have hs:k<ms.length:=om;have gm:k<ks.length:=om;have Q:=h4.out k l[k] ms[k] (ZqL R) (ZqL hs);obtain ⟨ad,cap,hA,h⟩:=RSl.elem (hr.ext hX) om h7.out k (mcell ms[k]) (by rw[Zrq,ZqL hs];rfl);injection hA with hA1 hA2 hA3;subst hA1;clear hA2 hA3;rw[Zst] at h;have J:ks[k]=ms[k].1:=(by have h1:(ms.map Prod.fst)[k]? =ks[k]?:=(by rw[h5.out]);rw[Zrq,ZqL hs,ZqL gm] at h1;injection h1 with h1;exact h1.symm);have ha:=h6.out ks[k] (Zq2 _);have X:=V7 (List.zipWith keyed ks (l.map jtext)) k (by rw[hn.out];exact R);rw[List.getElem_zipWith,ZsF] at X;obtain ⟨M,hK⟩:∃M,ms[k]=M:=⟨_,rfl⟩;rw[hK] at h Q J;obtain ⟨H,cv,at_⟩:=M;dsimp only at J Q;rw[J] at ha X;have hQ:=Q.len;obtain ⟨x0,x1,x2,x3,x4,x5,x6,y4,y5,y6,x7,hc⟩:=Q.shape;subst hc;obtain ⟨gr,cv_,gs⟩:=Zg3 hQ h;have gc:=cv_ 0 _ rfl;have ge:=cv_ 1 _ rfl;have gf:=cv_ 2 _ rfl;have gg:=cv_ 3 _ rfl;have gh:=cv_ 4 _ rfl;have gi:=cv_ 5 _ rfl;have gj:=cv_ 6 _ rfl;simp only[ZrH,Nat.reduceAdd] at gc ge gf gg gh gi gj;clear h cv_ hQ J hK;have hV:wrap64 ((k:Int)+1)=((k+1:Nat):Int):=(by rw[maxLen] at gk;rw[Z9 _ ⟨om,om⟩];rfl);have hH:=gd Q;have hG:=gd ha;have hh:=h8.out l[k] (Zq2 _);have hU:=HV.out l[k] (Zq2 _);have V:=hC.out (k+1) (by rw[hn.out];exact R);rw[X] at V;clear Q;have hz:=gd V;have hD:=gd X;have hg:=gd hh;have hI:=gd hU;have hf:∀o,Ext wr (wr.alloc o):=λo=>(Ext.refl wr).alloc o;have hq:∀o,Below B wr (wr.alloc o):=λo=>ZrV (hf o) hp;have ho:∀o,B<=(wr.alloc o).heap.size:=λo=>ZqM hp (hf o).size;clear X V hh hU ha;have hS:l.length - (intOf (Value.int IntKind.i64 (wrap64 ((k:Int)+1)))).toNat<l.length - (intOf (Value.int IntKind.i64 (k:Int))).toNat:=(by rw[hV];exact Nat.sub_lt_sub_left R (ZrB k));have hW:=ZqS (Value.int .i64) hV;have hN:k+1<=l.length:=R;rcases ZrX k with C|C
   ·have gl:decide (0<k)=false:=Zre (by rw[C];exact Nat.lt_irrefl 0);have F:commas (List.take (k+1) (List.zipWith keyed ks (l.map jtext)))=keyed H (jtext l[k]):=(by rw[hD.out,ZqN C];rfl);have Y:commas (List.take k (List.zipWith keyed ks (l.map jtext)))= []:=(by have:∀m,m=0->commas (List.take m (List.zipWith keyed ks (l.map jtext)))= []:=(by rintro m rfl;rfl);exact this k C);have U:bs.length+(keyed H (jtext l[k])).length+2<=140737488355328:=(by have:=hz.out;rw[ZqN C] at this;exact this);have hd:Hid ((bs++Lib.byteCells (123::commas (List.take k (List.zipWith keyed ks (l.map jtext))))).length+(keyed H (jtext l[k])).length<=140737488355328):=(by unfold Hid;rw[Y,ZqG,Zw];simp only[ZqK,Zq5];omega);have gq:=gd hd;have hj:=gd F;have hZ:=gd Y;clear C F Y U
    go_wp2_with (go_at_call 223;refine (ZcI n hF.out l[k] H _ at_ w0 _ B b _ d hH.out hg.out hI.out hG.out hE (hX.alloc _) h0 (ZF hb (hf _)) (ho _) hd.out).mono ?_;rintro e w2 ⟨rfl,O,I⟩)
    have Z:WB B b (bs++Lib.byteCells (123::commas ((List.zipWith keyed ks (l.map jtext)).take (k+1)))) w2:=(by rw[hj.out];have h2:=O;rw[hZ.out,ZqY,<-Zf] at h2;exact h2);have hy:=S.trans ((hq _).trans I);go_roundw
    case rel=>exact ⟨k+1,hN,hW,Z,hy⟩
    case measure=>exact hS
   ·have gl:decide (0<k)=true:=Zrj C;have hw:k≠0:=Nat.pos_iff_ne_zero.1 C;have F:commas (List.take (k+1) (List.zipWith keyed ks (l.map jtext)))=commas (List.take k (List.zipWith keyed ks (l.map jtext)))++ [44]++keyed H (jtext l[k]):=(by rw[hD.out,ZqH hw]);have U:bs.length+(commas (List.take k (List.zipWith keyed ks (l.map jtext)))++ [44]++keyed H (jtext l[k])).length+2<=140737488355328:=(by have:=hz.out;rw[ZqH hw] at this;exact this);rw[ZqG,ZqG] at U;simp only[ZqK,Zq5] at U;have hd:Hid ((bs++Lib.byteCells (123::commas (List.take k (List.zipWith keyed ks (l.map jtext))))++ [Value.int .u8 44]).length+(keyed H (jtext l[k])).length<=140737488355328):=(by unfold Hid;rw[ZqG,ZqG,Zw];simp only[ZqK,Zq5];omega);have ht:Hid ((bs++Lib.byteCells (123::commas (List.take k (List.zipWith keyed ks (l.map jtext))))).length+1<=140737488355328):=(by unfold Hid;rw[ZqG,Zw];simp only[ZqK];omega);have hj:=gd F;clear C F U hw
    go_wp2_with (first|(go_at_call 95;refine (YD Yp _ _ _ _ _ (ZF hb (hf _)) ht.out (ho _)).mono ?_;rintro e w2 ⟨rfl,O,I,he⟩;have hL:=ZqM (ho _) I.size;(have D:=he _ _ _ _ (ZqJ wr _) (by decide) (by decide));have gw:=(ZqI _ _ 0 _ _ _ D);have gx:=(ZqI _ _ 1 _ _ _ D);have gy:=(ZqI _ _ 2 _ _ _ D);have gz:=(ZqI _ _ 3 _ _ _ D);have gA:=(ZqI _ _ 4 _ _ _ D);have gB:=(ZqI _ _ 5 _ _ _ D);have gC:=(ZqI _ _ 6 _ _ _ D);have gD:=(ZqI _ _ 7 _ _ _ D);have gE:=(ZqI _ _ 8 _ _ _ D))|(go_at_call 223;refine (ZcI n hF.out l[k] H _ at_ w0 _ B b _ d hH.out hg.out hI.out hG.out hE (hx.then (ZrV (S.trans ((hq _).trans I)) h0)) h0 (Or.inr O) hL hd.out).mono ?_;rintro e w3 ⟨rfl,gb,gp⟩))
    have Z:WB B b (bs++Lib.byteCells (123::commas ((List.zipWith keyed ks (l.map jtext)).take (k+1)))) w3:=(by rw[hj.out];have h2:=gb;rw[ZqY,ZqY,Zmr,<-Zf,<-Zf] at h2;simpa using h2);have hy:=S.trans ((hq _).trans (I.trans gp));go_roundw
    case rel=>exact ⟨k+1,hN,hW,Z,hy⟩
    case measure=>exact hS
  ·have hO:(List.zipWith keyed ks (l.map jtext)).take k=List.zipWith keyed ks (l.map jtext):=Zq4 (by rw[hn.out];exact Nat.not_lt.1 R);rw[hO] at hb;have ht:Hid ((bs++Lib.byteCells (123::commas (List.zipWith keyed ks (l.map jtext)))).length+1<=140737488355328):=(by unfold Hid;rw[ZqG,Zw];have:=HL.out;simp only[ZqK];omega);clear hC HL hO
   go_wp2_with (go_at_call 95;refine (Yk Yp _ _ _ _ _ hb ht.out hp).mono ?_;rintro e w2 ⟨rfl,O,I⟩)
   ((try simp only[Exit.inBlock,Exit.then]);refine bodyPost_end (results_none rfl _ _ _) rfl ?_);refine ⟨rfl,?_,S.trans I⟩;rw[Zow,ZqY,<-Zf] at O;exact O
theorem Zmg (n:Nat) (ih:ValueSaid n) (ks:List ByteArray) (vs:List JV) (cs:List Value) (w0 w:World) (B b:Nat) (bs:List Value) (d:Nat) (ha:RVn (n+1) w0 (.obj ks vs) cs) (R:jok (.obj ks vs)) (U:jvalid (.obj ks vs) d=true) (hE:Env w0) (hx:Ext w0 w) (h0:w0.heap.size<=B)
 (hB:WB B b bs w) (h:B<=w.heap.size) (Y:bs.length+(jtext (.obj ks vs)).length<=140737488355328):
 Calls prog 204 #[.pointer (some ⟨b,0,none⟩),.agg cs.toArray] w λe w'=>e= .returned (.tuple #[])/\(WB B b (bs++Lib.byteCells (jtext (.obj ks vs))) w'/\Below B w w'):=by
 obtain ⟨a,v,ms,rfl,I,Q,hr,F⟩:=ha;obtain ⟨_,A,c,rfl,he,hd,_,_⟩:=id hr;rw[Zj4] at R;obtain ⟨H,Z,J,S⟩:=R;rw[Zcz] at U;rw[Zle] at Y|-;simp only[ZqZ,Zrm] at U;have O:bs.length+(commas (List.zipWith keyed ks (vs.map jtext))).length+2<=140737488355328:=by simp only[ZqK,ZqG,Zq5] at Y;omega
 have HJ:=gd (λw' (hb:Ext w0 w') V C=>Znj n ih ks vs A c ms w0 w' B b bs (d+1) Q I H J hr F S U.2 hE hb h0 V C O);have D:∀o,Below B w (w.alloc o):=λo=>ZrV ((Ext.refl w).alloc o) h;clear H Z J S I Q U F Y O ih;unfold ocells;go_enter func204,ntmps204
 go_wp2_with (go_at_call 222;refine (HJ.out _ (hx.alloc _) (ZF hB ((Ext.refl w).alloc _)) (ZqM h ((Ext.refl w).alloc _).size)).mono ?_;rintro e w2 ⟨rfl,X,hc⟩)
 ((try simp only[Exit.inBlock,Exit.then]);refine bodyPost_end (results_none rfl _ _ _) rfl ?_);exact ⟨rfl,X,(D _).trans hc⟩
theorem Zdd:∀n,ValueSaid n
 |0,_,_,_,_,_,_,_,_,h,_,_,_,_,_,_,_,_=>h.elim
 |n+1,j,cs,w0,w,B,b,bs,d,h,hok,hv,hE,hx,h0,hB,hBw,hl=>by
  cases j with
  |arr l=>exact Zmf n (Zdd n) l cs w0 w B b bs d h hok hv hE hx h0 hB hBw hl
  |obj ks vs=>exact Zmg n (Zdd n) ks vs cs w0 w B b bs d h hok hv hE hx h0 hB hBw hl
  |null=>exact VL (n+1) _ cs w0 w B b bs d h hok hv hE hx h0 hB hBw hl (by simp) (by simp)
  |bool x=>exact VL (n+1) _ cs w0 w B b bs d h hok hv hE hx h0 hB hBw hl (by simp) (by simp)
  |int x=>exact VL (n+1) _ cs w0 w B b bs d h hok hv hE hx h0 hB hBw hl (by simp) (by simp)
  |str s=>exact VL (n+1) _ cs w0 w B b bs d h hok hv hE hx h0 hB hBw hl (by simp) (by simp)
theorem Zgy:(prog.info? 242).map (λi=>(i.zero,i.size,i.bytes))=some (some (.agg #[.int .i64 0,.bool false,.int .i64 0,.string ⟨#[]⟩,.slice none 0 0,.slice none 0 0,.int .i64 0]),7,96):=by kernel_rfl
theorem Zky (v:Value) (n:Nat) (xs:List Value) (w:World) (h:RSl w 7 v n xs) (h1:∀u∈xs,u.oneCell'=true) (D:n*96<=140737488355328):
 Calls prog 205 #[v] w λe w'=>∃Z,e= .returned Z/\w'.ownsRow w.heap.size 242 7 Z n xs/\Ext w w':=by
 obtain ⟨i0,hi,S,U,V⟩:=ZrE Zgy;obtain ⟨hl,A,c,rfl,H,O,hA,J⟩:=id h;have F:Hid ((0+n)*96<=140737488355328):=by rw[ZrH];exact D
 have R:0+n<=maxLen:=by rw[ZrH];exact ZqM H O
 clear D;have hq:∀(w:World) (a:Option Addr) (n c X I:Nat),(binOp .eql 239 (.slice a n c) (.slice none X I)).run prog w= .ok (.bool a.isNone) w:=λw a n c X I=>Lib.run_eql_slice_nil w _ _ a n c X I underlying239;cases A with
 |none=>have hn:n=0:=Nat.le_zero.1 (hA rfl▸H);subst hn;have hx:xs= []:=ZqX (by rw[hl]);subst hx;go_enter func205,ntmps205;go_wp2;go_ret;exact ⟨_,rfl,Zrt _ _ _ _,Ext.refl _⟩
 |some ad=>
  go_enter func205,ntmps205
  go_wp2_with (at_builtin;refine Za _ rfl (.tmp 5) (.tmp 6) _ rfl w.heap.size 242 i0 _ 7 96 underlying239 hi S U V rfl (by decide) _ _ [] rfl (Y9 (cs:= []) (ZqE _) rfl (by decide)) _ n xs rfl (h.ext ((Ext.refl w).alloc _)) h1 R F.out ((Ext.refl w).alloc _).size ?_;intro v1 w2 C Q Y)
  go_ret;rw[ZrH] at C;exact ⟨v1,rfl,C,((Ext.refl w).alloc _).app Q (Y9 (cs:= []) (size:=7) (n:=0) (ZqE _) rfl (by decide)) (ZqE _)⟩
theorem Zgx:(prog.info? 9).map (λi=>(i.zero,i.size,i.bytes))=some (some (.string ⟨#[]⟩),1,16):=by kernel_rfl
theorem Zkx (v:Value) (n:Nat) (xs:List Value) (w:World) (h:RSl w 1 v n xs) (h1:∀u∈xs,u.oneCell'=true) (D:n*16<=140737488355328):
 Calls prog 65 #[v] w λe w'=>∃Z,e= .returned Z/\w'.ownsRow w.heap.size 9 1 Z n xs/\Ext w w':=by
 obtain ⟨i0,hi,S,U,V⟩:=ZrE Zgx;obtain ⟨hl,A,c,rfl,H,O,hA,J⟩:=id h;have F:Hid ((0+n)*16<=140737488355328):=by rw[ZrH];exact D
 have R:0+n<=maxLen:=by rw[ZrH];exact ZqM H O
 clear D;have hq:∀(w:World) (a:Option Addr) (n c X I:Nat),(binOp .eql 29 (.slice a n c) (.slice none X I)).run prog w= .ok (.bool a.isNone) w:=λw a n c X I=>Lib.run_eql_slice_nil w _ _ a n c X I underlying29;cases A with
 |none=>have hn:n=0:=Nat.le_zero.1 (hA rfl▸H);subst hn;have hx:xs= []:=ZqX (by rw[hl]);subst hx;go_enter func65,ntmps65;go_wp2;go_ret;exact ⟨_,rfl,Zrt _ _ _ _,Ext.refl _⟩
 |some ad=>
  go_enter func65,ntmps65
  go_wp2_with (at_builtin;refine Za _ rfl (.tmp 5) (.tmp 6) _ rfl w.heap.size 9 i0 _ 1 16 underlying29 hi S U V rfl (by decide) _ _ [] rfl (Y9 (cs:= []) (ZqE _) rfl (by decide)) _ n xs rfl (h.ext ((Ext.refl w).alloc _)) h1 R F.out ((Ext.refl w).alloc _).size ?_;intro v1 w2 C Q Y)
  go_ret;rw[ZrH] at C;exact ⟨v1,rfl,C,((Ext.refl w).alloc _).app Q (Y9 (cs:= []) (size:=1) (n:=0) (ZqE _) rfl (by decide)) (ZqE _)⟩
theorem ZiD:(prog.info? 61).map (λi=>(i.zero,i.size,i.bytes))=some (some (.agg #[.string ⟨#[]⟩,.string ⟨#[]⟩,.string ⟨#[]⟩,.string ⟨#[]⟩,.int .i64 0]),5,72):=by kernel_rfl
theorem ZiH (j:JV) (cs:List Value) (w:World) (h:RV w j cs) (F:jok j) (Y:Env w) (S:(jtext j).length<=140737488355328):
 Calls prog 180 #[.agg cs.toArray] w λe w'=>e= .returned (.tuple #[.string (jwrite j).1,.int .i64 ((jwrite j).2:Nat)])/\Ext w w':=by
 have D:=gd (λw' (J:Ext w w')=>ZiF j cs w' (h.ext J) F (Y.ext J));obtain ⟨n,h⟩:=h;obtain ⟨x0,x1,x2,x3,x4,x5,x6,y4,y5,y6,x7,hc⟩:=h.shape;subst hc;by_cases H:jvalid j 1=true
 ·have C:jwrite j=(str (jtext j),0):=by rw[jwrite,ZqN H]
  have I:=gd (λw0 w' (J:Ext w w0) B b bs (V:Ext w0 w') h0 hB R U=>Zdd n j _ w0 w' B b bs 1 (h.ext J) F H (Y.ext J) V h0 hB R U);rw[ZqN H] at D;have Z:=gd S;rw[C];clear H C S h F;go_enter func180,ntmps180
  go_wp2_with (first|(go_at_call 203;refine (D.out _ ((Ext.refl w).alloc _)).mono ?_;rintro e w1 ⟨rfl,A⟩;have ha:=((Ext.refl w1).alloc (.cells #[.pointer none,.slice none 0 0] 266)).cell (A.boxed 0 _ rfl);have hb:=((Ext.refl w1).alloc (.cells #[.pointer none,.slice none 0 0] 266)).cell (A.boxed 1 _ rfl);have hd:=((Ext.refl w1).alloc (.cells #[.pointer none,.slice none 0 0] 266)).cell (A.boxed 2 _ rfl);have he:=((Ext.refl w1).alloc (.cells #[.pointer none,.slice none 0 0] 266)).cell (A.boxed 3 _ rfl);have hf:=((Ext.refl w1).alloc (.cells #[.pointer none,.slice none 0 0] 266)).cell (A.boxed 4 _ rfl);have hg:=((Ext.refl w1).alloc (.cells #[.pointer none,.slice none 0 0] 266)).cell (A.boxed 5 _ rfl);have hh:=((Ext.refl w1).alloc (.cells #[.pointer none,.slice none 0 0] 266)).cell (A.boxed 6 _ rfl))|(go_at_call 204;refine (I.out w1 _ (((Ext.refl w).alloc _).trans A) w1.heap.size w1.heap.size [] ((Ext.refl w1).alloc _) (ZqE _) (Lib.fresh_isBuilder _ _ _) ((Ext.refl w1).alloc _).size (by simpa using Z.out)).mono ?_;rintro e w2 ⟨rfl,Q,O⟩)|(go_at_call 96;refine (VN Yp _ _ _ _ Q (ZqM ((Ext.refl w1).alloc _).size O.size)).mono ?_;rintro e w3 ⟨rfl,X⟩))
  go_ret2
  exact ⟨rfl,(((Ext.refl w).alloc _).trans A).then (ZrV ((((Ext.refl w1).alloc _).then O).then X) (((Ext.refl w).alloc _).trans A).size)⟩
 ·have C:jwrite j=(⟨#[]⟩,22):=by rw[jwrite,ZqH H]
  rw[ZqH H] at D;rw[C];clear H C S h F;go_enter func180,ntmps180
  go_wp2_with (go_at_call 203;refine (D.out _ ((Ext.refl w).alloc _)).mono ?_;rintro e w1 ⟨rfl,A⟩)
  go_ret2
  exact ⟨rfl,((Ext.refl w).alloc _).trans A⟩
theorem ZgF (s:ByteArray) (w:World):
 Calls prog 206 #[.string s] w λe w'=>e= .returned (.agg (vcells 3 false 0 s (.slice none 0 0) 0).toArray)/\Ext w w':=by
 go_enter func206,ntmps206;go_wp2;((try simp only[Exit.inBlock,Exit.then]);refine ZqT (ZrO rfl _ _ _ _ _ _ _ rfl (ZqJ _ _) underlying242 rfl rfl) rfl ?_);exact ⟨rfl,(Ext.refl w).alloc _⟩
theorem Znh (x:Int) (w:World):
 Calls prog 183 #[.int .i64 x] w λe w'=>e= .returned (.agg (vcells 2 false x ⟨#[]⟩ (.slice none 0 0) 0).toArray)/\Ext w w':=by
 go_enter func183,ntmps183;go_wp2;((try simp only[Exit.inBlock,Exit.then]);refine ZqT (ZrO rfl _ _ _ _ _ _ _ rfl (ZqJ _ _) underlying242 rfl rfl) rfl ?_);exact ⟨rfl,(Ext.refl w).alloc _⟩
theorem KN {k:Int} {b:Bool} {n:Int} {s:ByteArray} {A:Option Addr} {m c:Nat} {a:Int}:∀u∈vcells k b n s (.slice A m c) a,u.oneCell'=true:=by
 intro u h;simp[vcells] at h;rcases h with rfl|rfl|rfl|rfl|rfl|rfl|rfl<;>rfl
theorem RVn.one {w:World} {n:Nat} {j:JV} {cs:List Value} (h:RVn n w j cs):∀u∈cs,u.oneCell'=true:=by
 obtain ⟨C,D,F,H,I,J,O,R,S,U,Q,rfl⟩:=h.shape;intro u A;simp at A;rcases A with rfl|rfl|rfl|rfl|rfl|rfl|rfl<;>rfl
theorem ZmV {css:List (List Value)} (h:∀c∈css,∀u∈c,u.oneCell'=true):∀u∈css.flatten,u.oneCell'=true:=by
 intro u A;obtain ⟨c,C,A⟩:=Zs0.1 A;exact h c C u A
def RVs (w:World) (v:Value) (l:List JV) (css:List (List Value)):Prop:=css.length=l.length/\RSl w 7 v l.length css.flatten/\∃n,∀(i:Nat) (j:JV) (c:List Value),l[i]? =some j->css[i]? =some c->RVn n w j c
theorem ZhG:(prog.info? 242).map (λi=>i.size)=some 7:=by kernel_rfl
theorem Zos {cs:List Value} (h:∀u∈cs,u.oneCell'=true):cs.toArray.all (λu=>u.oneCell')=true:=by simpa using h
theorem ZiE (v:Value) (l:List JV) (css:List (List Value)) (w:World) (h:RVs w v l css) (C:l.length*96<=140737488355328):
 Calls prog 181 #[v] w λe w'=>∃cs,e= .returned (.agg cs.toArray)/\RV w' (.arr l) cs/\Ext w w':=by
 obtain ⟨V,hr,n,H⟩:=h;have D:∀u∈css.flatten,u.oneCell'=true:=ZmV λc U=>by obtain ⟨i,Y,rfl⟩:=List.mem_iff_getElem.1 U;exact (H i l[i] css[i] (ZqL om) (ZqL Y)).one
 have X:=gd (λw' (hx:Ext w w')=>Zky v l.length css.flatten w' (hr.ext hx) D C);have R:=gd H;clear H D C;go_enter func181,ntmps181
 go_wp2_with (first|(go_at_call 205;refine (X.out _ ((Ext.refl w).alloc _)).mono ?_;rintro e w1 ⟨v',rfl,F,J⟩;obtain ⟨_,Q,S,rfl,_⟩:=id (RSl.of_own F);have I:=J.heap (ZqJ w _))|(refine ZqF rfl 242 (.tmp 2) (.tmp 5) rfl w.heap.size _ rfl rfl _ _ I ZhG rfl (Zos (KN (k:=4) (b:=false) (n:=0) (s:=⟨#[]⟩) (A:=Q) (m:=l.length) (c:=S) (a:=0))) ?_))
 ((try simp only[Exit.inBlock,Exit.then]);refine ZqT (ZrO rfl _ _ _ _ _ _ _ rfl (ZqV _ _ _ _ _ _ I) underlying242 rfl ZhG) rfl ?_);have O:Ext w (w1.setRow w.heap.size #[Value.int .i64 4,.bool false,.int .i64 0,.string ⟨#[]⟩,.slice Q l.length S,.slice none 0 0,.int .i64 0]):=(((Ext.refl w).alloc _).trans J).setRow (ZqE _) _;exact ⟨vcells 4 false 0 ⟨#[]⟩ (.slice Q l.length S) 0,rfl,⟨n+1,0,_,css,rfl,V,RSl.of_own (Yh F (by show w.heap.size<(w.heap.push _).size;simp) _),λi j c Z U=>(R.out i j c Z U).ext O⟩,O⟩
theorem Qk:∃i0,prog.info? 242=some i0/\i0.zero=some (.agg #[.int .i64 0,.bool false,.int .i64 0,.string ⟨#[]⟩,.slice none 0 0,.slice none 0 0,.int .i64 0])/\i0.size=7/\i0.bytes=96:=ZrE Zgy
def strCells (s:ByteArray):List Value:=vcells 3 false 0 s (.slice none 0 0) 0
theorem Zau (v:Value) (l:List ByteArray) (w:World) (h:RSl w 1 v l.length (l.map Value.string)) (I:l.length*96<=1407374883553):
 Calls prog 182 #[v] w λe w'=>∃v',e= .returned v'/\w'.ownsRow w.heap.size 242 7 v' l.length (l.map strCells).flatten/\Ext w w':=by
 obtain ⟨_,A,c,rfl,hb,O,_,_⟩:=id h;obtain ⟨i0,Z,hj,hl,hm⟩:=Qk;go_enter func182,ntmps182;go_wp2;go_loopw [3,8] (λv i wr=>∃k:Nat,k<=l.length/\i= .int .i64 k/\wr.ownsRow w.heap.size 242 7 v k ((l.take k).map strCells).flatten/\Ext w wr) (λ_ i _=>l.length - (intOf i).toNat)
 case atStart=>exact ⟨0,ZqO _,rfl,Zrt _ _ _ _,Ext.refl _⟩
 case round=>
  obtain ⟨k,hk,rfl,C,S⟩:=hrel;by_cases H:k<l.length
  ·obtain ⟨ad,rfl,V⟩:=(h.ext S).at1 k (.string l[k]) (by rw[Zrq,ZqL H];rfl);have R:wrap64 ((k:Int)+1)=((k+1:Nat):Int):=(by rw[maxLen] at O;rw[Z9 _ ⟨om,om⟩];rfl);have hh:=ZqS (Value.int .i64) R;have hd:l.length - (intOf (Value.int IntKind.i64 (wrap64 ((k:Int)+1)))).toNat<l.length - (intOf (Value.int IntKind.i64 (k:Int))).toNat:=(by rw[R];exact Nat.sub_lt_sub_left H (ZrB k));have Q:k+1<=l.length:=H;have U:Hid ((k+1)*96<=140737488355328):=(by unfold Hid;omega);have hc:Hid (k+1<=maxLen):=ZqM Q (ZqM hb O);have hg:((l.take k).map strCells).flatten++strCells l[k]=((l.take (k+1)).map strCells).flatten:=(by rw[ZqQ H,Zrf,ZsP];simp);clear I
   go_wp2_with (first|(go_at_call 206;refine (ZgF _ _).mono ?_;rintro e w1 ⟨X,J⟩;(replace X:e= .returned (.agg #[.int .i64 3,.bool false,.int .i64 0,.string l[k],.slice none 0 0,.slice none 0 0,.int .i64 0]):=X);subst X;have D:=Zt C J;have hf:=ZqM S.size J.size)|(at_builtin;refine Za _ rfl (.tmp 12) (.tmp 15) _ rfl w.heap.size 242 i0 _ 7 96 underlying239 Z hj hl hm rfl (by decide) _ _ _ rfl (D.alloc _) _ 1 (strCells l[k]) rfl (Zj rfl (by decide)) KN hc.out U.out ?cb ?_;(case cb=>exact ZqM hf ((Ext.refl w1).alloc _).size);intro v1 w2 F Y hn))
   have hi:Ext w w2:=((S.trans J).alloc _).app Y (D.alloc _) (ZqE _);rw[hg] at F;go_roundw
   case rel=>exact ⟨k+1,Q,hh,F,hi⟩
   case measure=>exact hd
  ·have ha:k=l.length:=om;subst ha;rw[Zq4 (ZqE _)] at C;clear I;go_wp2;go_ret;exact ⟨_,rfl,C,S⟩
theorem ZfG (w:World) (s:ByteArray):RVn 1 w (.str s) (strCells s):=⟨0,rfl⟩
def intCells (x:Int):List Value:=vcells 2 false x ⟨#[]⟩ (.slice none 0 0) 0
theorem Zfe (w:World) (x:Int):RVn 1 w (.int x) (intCells x):=⟨0,rfl⟩
section
def eok (e:Ent):Prop:=i64ok e.upd/\e.id.size+e.title.size+e.link.size+e.content.size<=16777216
theorem ZoF (e:Ent) (h:eok e):jok (entJ e):=by
 obtain ⟨C,D⟩:=h;unfold entJ;rw[Zff];intro j A;simp only[Zq1,Zri,ZrD] at A;rcases A with rfl|rfl|rfl|rfl|rfl<;>simp only[jok]
 ·omega
 ·omega
 ·omega
 ·omega
 ·exact C
theorem ZmM (e:Ent) (h:eok e):(jtext (entJ e)).length<=140737488355328:=by
 obtain ⟨A,C⟩:=h;unfold entJ;rw[U9];have a:=XS e.id.data.toList;have b:=XS e.title.data.toList;have c:=XS e.link.data.toList;have d:=XS e.content.data.toList;have f:=Lib.itoa_length_le e.upd A.1 A.2;rw[Zb] at a b c d;simp only[Zq8,Zrz,Zef,Zee,commas,ZqK,ZqG,Zq5];omega
attribute [local go_sem ↓] Go.wp_at_zero Go.wp_at_succ
theorem IJ (e:Ent) (w:Wq) (hE:Env w) (hb:eok e):
 Calls prog 156 #[.agg (eCells e).toArray] w λx w'=>x= .returned (.string (entryKey e))/\Ext w w':=by
 obtain ⟨id,title,link,content,upd⟩:=e;obtain ⟨i0,hl,hn,ho,hp⟩:=Qk;have hf:(w.alloc (.cells (eCells ⟨id,title,link,content,upd⟩).toArray 61)).heap.size=w.heap.size+1:=by show (w.heap.push _).size=_;simp
 have hR:RSl (((w.alloc (.cells (eCells ⟨id,title,link,content,upd⟩).toArray 61)).alloc (.cells #[Value.string id,Value.string title,Value.string link,Value.string content] 9)).drew) 1 (.slice (some ⟨w.heap.size+1,0,none⟩) 4 4) 4 [Value.string id,.string title,.string link,.string content]:=by have:=RSl.ext (Zj (w:=w.alloc (.cells (eCells ⟨id,title,link,content,upd⟩).toArray 61)) (size:=1) (n:=4) (e:=9) (cs:= [Value.string id,.string title,.string link,.string content]) rfl (by decide)) (Ext.refl _).drew;rw[hf] at this;exact this
 have F:(((w.alloc (.cells (eCells ⟨id,title,link,content,upd⟩).toArray 61)).alloc (.cells #[Value.string id,Value.string title,Value.string link,Value.string content] 9)).drew).heap.size=w.heap.size+2:=by show ((w.heap.push _).push _).size=_;simp
 obtain ⟨X,hX⟩:∃X,([id,title,link,content].map strCells).flatten=X:=⟨_,rfl⟩;have A:Calls prog 182 #[.slice (some ⟨w.heap.size+1,0,none⟩) 4 4] (((w.alloc (.cells (eCells ⟨id,title,link,content,upd⟩).toArray 61)).alloc (.cells #[Value.string id,Value.string title,Value.string link,Value.string content] 9)).drew) λe w'=>∃v',e= .returned v'/\w'.ownsRow (w.heap.size+2) 242 7 v' 4 X/\Ext (((w.alloc (.cells (eCells ⟨id,title,link,content,upd⟩).toArray 61)).alloc (.cells #[Value.string id,Value.string title,Value.string link,Value.string content] 9)).drew) w':=by have:=Zau (.slice (some ⟨w.heap.size+1,0,none⟩) 4 4) [id,title,link,content] _ hR (by show 4*96<=1407374883553;decide);rw[F,hX] at this;exact this
 have HS:=gd A;clear A hf;have Y:X++intCells upd=([strCells id,strCells title,strCells link,strCells content,intCells upd]:List (List Value)).flatten:=by rw[<-hX];simp
 have O:∀w' v,w'.ownsRow (w.heap.size+2) 242 7 v (4+1) (X++intCells upd)->RVs w' v [.str id,.str title,.str link,.str content,.int upd] [strCells id,strCells title,strCells link,strCells content,intCells upd]:=by
  intro w' v J;rw[Y] at J;refine ⟨rfl,RSl.of_own J,1,λi j c hj hc=> ?_⟩
  match i with
  |0|1|2|3=>simp at hj hc;subst hj hc;exact ZfG _ _
  |4=>simp at hj hc;subst hj hc;exact Zfe _ _
  |i+5=>simp at hj
 have U:=gd O;clear O Y hX;have ha:=λw' cs h=>ZiH (entJ ⟨id,title,link,content,upd⟩) cs w' h;have I:jok (entJ ⟨id,title,link,content,upd⟩):=ZoF _ hb;have C:(jtext (entJ ⟨id,title,link,content,upd⟩)).length<=140737488355328:=ZmM _ hb;have hi:=gd (λw' cs h hk=>ha w' cs h I hk C);clear ha I C;have HR:=gd hR;clear hR;unfold eCells at*;go_enter func156,ntmps156;go_wp2
 go_region_held3 (λw'=>Ext w w'/\w'.cell? ⟨w.heap.size,0,none⟩=some (.string id)/\w'.cell? ⟨w.heap.size,1,none⟩=some (.string title)/\w'.cell? ⟨w.heap.size,2,none⟩=some (.string link)/\w'.cell? ⟨w.heap.size,3,none⟩=some (.string content)/\w'.cell? ⟨w.heap.size,4,none⟩=some (nI upd))
  ((go_split_ands;refine ⟨?_,?_,?_,?_,?_,?_⟩<;>first|assumption|((repeat (first|exact Ext.refl _|assumption|apply Ext.drew|apply Ext.alloc));done)|((refine Ext.trans ?_ (by assumption));(repeat (first|exact Ext.refl _|assumption|apply Ext.drew|apply Ext.alloc));done)|((refine Ext.cell (by assumption) ?_);first|assumption|(go_keep;done))|(go_keep;done)))
  (first|(go_at_call 182;refine HS.out.mono ?_;rintro e w1 ⟨v1,rfl,D,hg⟩)|(go_at_call 183;refine (Znh _ _).mono ?_;rintro e w2 ⟨he,H⟩;(replace he:e= .returned (.agg #[nI 2,.bool false,nI upd,eS,sN,sN,nI 0]):=he);subst he)|(refine Zk _ (by rfl) (.tmp 15) (.tmp 19) _ (by rfl) (w.heap.size+2) 242 i0 _ 7 96 underlying239 hl hn ho hp rfl (by decide) v1 4 X (by rfl) (Zt D (by repeat (first|exact H|apply Ext.drew|apply Ext.alloc))) _ 1 (intCells upd) (by rfl) (RSl.ext (Zj rfl (by decide)) (by repeat (first|exact Ext.refl _|apply Ext.drew))) KN (by decide) (by decide) (ZqM (Nat.le_of_eq F.symm) (hg.trans (by repeat (first|exact H|apply Ext.drew|apply Ext.alloc))).size) ?_;intro v2 w3 R Z V;have S:=Ext.app (hg.trans (by repeat (first|exact H|apply Ext.drew|apply Ext.alloc))) Z (Zt D (by repeat (first|exact H|apply Ext.drew|apply Ext.alloc))) (Nat.le_of_eq F);have Q:Ext w w3:=(((Ext.refl w).alloc _).alloc _).drew.trans S;have hr:=S;clear S Z V)|(go_at_call 181;refine (ZiE _ _ _ _ (U.out _ _ R) (by show 5*96<=140737488355328;decide)).mono ?_;rintro e w4 ⟨hq,rfl,hd,hh⟩)|(go_at_call 180;refine (hi.out _ _ hd (hE.ext (Q.trans hh))).mono ?_;rintro e w5 ⟨rfl,hm⟩))
 go_wp2;go_ret;exact ⟨rfl,Q.trans (hh.trans hm)⟩
end
section
theorem Kh (x y:Int) (w:Wq):
 Calls prog 128 #[nI x,nI y] w λe w'=>e= .returned (nI (if x<y then -1 else if y<x then 1 else 0))/\w'=w:=by
 go_enter func128,ntmps128;go_wp2
 all_goals go_ret
 all_goals exact ⟨by simp_all,rfl⟩
theorem ZbW (x y:ByteArray) (w:Wq):
 Calls prog 129 #[.string x,.string y] w λe w'=>e= .returned (nI (sCmp x y))/\w'=w:=by
 unfold sCmp;go_enter func129,ntmps129;go_wp2
 all_goals go_ret
 all_goals exact ⟨by simp_all,rfl⟩
theorem ZdU (x y:Int) (v:Value) (w:Wq) (h:RSl w 1 v 2 [nI x,nI y]):
 Calls prog 127 #[v] w λe w'=>e= .returned (nI (if x=0 then y else x))/\w'=w:=by
 obtain ⟨_,A,c,rfl,S,R,_,_⟩:=id h;obtain ⟨ad,rfl,O⟩:=h.at1 0 _ rfl;obtain ⟨I,J,F⟩:=h.at1 1 _ rfl;cases J;rw[add_zero] at O;have Q:w.cell? ⟨ad.block,ad.off+1,none⟩=some (nI y):=F;clear F;by_cases D:x=0
 ·subst D;have C:(if (0:Int)=0 then y else 0)=y:=rfl;rw[C];by_cases H:y=0
  ·subst H;go_enter func127,ntmps127;go_wp2;refine Zsg 3 ?_;rw[rounds_succ];go_wp2;rw[rounds_succ];go_wp2;rw[rounds_succ];go_wp2
   all_goals go_ret
   all_goals exact ⟨rfl,rfl⟩
  ·have V:(y==0)=false:=(by simpa using H);go_enter func127,ntmps127;go_wp2;refine Zsg 2 ?_;rw[rounds_succ];go_wp2;rw[rounds_succ];go_wp2
   all_goals go_ret
   all_goals exact ⟨rfl,rfl⟩
 ·have U:(x==0)=false:=by simpa using D
  rw[ZqH D];go_enter func127,ntmps127;go_wp2;refine Zsg 1 ?_;rw[rounds_succ];go_wp2
  all_goals go_ret
  all_goals exact ⟨rfl,rfl⟩
attribute [local go_sem ↓] Go.wp_at_zero Go.wp_at_succ
theorem Kj (a b:Ent) (w:Wq):
 Calls prog 86 #[.agg (eCells a).toArray,.agg (eCells b).toArray] w λx w'=>x= .returned (nI (entCmp a b))/\Ext w w':=by
 obtain ⟨F,R,U,O,A⟩:=a;obtain ⟨H,S,V,Q,C⟩:=b;unfold entCmp;obtain ⟨ci,I⟩:∃ci,iCmp C A=ci:=⟨_,rfl⟩;obtain ⟨cs,J⟩:∃cs,sCmp F H=cs:=⟨_,rfl⟩;simp only[I,J];have X:=gd (λw'=>Kh C A w');have Z:=gd (λw'=>ZbW F H w');rw[J] at Z;rw[show (if C<A then (-1:Int) else if A<C then 1 else 0)=ci from I] at X;have Y:=gd (λv w' h=>ZdU ci cs v w' h);obtain ⟨res,D⟩:∃res,(if ci=0 then cs else ci)=res:=⟨_,rfl⟩;rw[D] at Y;rw[D];clear I J D;unfold eCells;go_enter func86,ntmps86;go_wp2
 go_region_held3 (λw'=>Ext w w'/\w'.cell? ⟨w.heap.size,0,none⟩=some (.string F)/\w'.cell? ⟨w.heap.size,4,none⟩=some (nI A)/\w'.cell? ⟨w.heap.size+1,0,none⟩=some (.string H)/\w'.cell? ⟨w.heap.size+1,4,none⟩=some (nI C))
  ((go_split_ands;refine ⟨?_,?_,?_,?_,?_⟩<;>first|assumption|((repeat (first|exact Ext.refl _|assumption|apply Ext.drew|apply Ext.alloc));done)|((refine Ext.trans ?_ (by assumption));(repeat (first|exact Ext.refl _|assumption|apply Ext.drew|apply Ext.alloc));done)|((refine Ext.cell (by assumption) ?_);first|assumption|(go_keep;done))|(go_keep;done)))
  (first|(go_at_call 128;refine (X.out _).mono ?_;rintro e w1 ⟨rfl,rfl⟩)|(go_at_call 129;refine (Z.out _).mono ?_;rintro e w2 ⟨rfl,rfl⟩)|(go_at_call 127;refine (Y.out _ _ (Yr (e:=3) (fr:=(0,0)) (cs:= [nI ci,nI cs]) ?hg (by rfl) (by decide))).mono ?_;(case hg=>exact Z5 w _ _ _);rintro e w3 ⟨rfl,rfl⟩))
 go_wp2;go_ret;exact ⟨rfl,((((Ext.refl w).alloc _).alloc _).alloc _).drew⟩
end
def scalar (r:Nat):Prop:=r<55296\/(57344<=r/\r<=1114111)
theorem ZU {r:Nat} (h:isChar r=true):scalar r:=by
 unfold isChar at h;unfold scalar;simp only[Zrd] at h;omega
theorem ZP {n:Nat} (h:n<256):(UInt8.ofNat n).toNat=n:=by simp[Nat.mod_eq_of_lt h]
theorem Qg {r:Nat} (h:scalar r):1<=(encN r).length:=by
 unfold scalar at h;unfold encN;rw[ZqH om]
 repeat' split
 all_goals simp
theorem Yl {r:Nat} (h:r<128):encN r= [UInt8.ofNat r]:=by
 unfold encN;rw[ZqH om,ZqN h]
theorem ZpB {r:Nat} (h:128<=r) (k:r<2048):encN r= [UInt8.ofNat (192+r / 64),UInt8.ofNat (128+r % 64)]:=by
 unfold encN;rw[ZqH om,ZqH om,ZqN k]
theorem ZpC {r:Nat} (A:scalar r) (h:2048<=r) (k:r<65536):encN r= [UInt8.ofNat (224+r / 4096),UInt8.ofNat (128+r / 64 % 64),UInt8.ofNat (128+r % 64)]:=by
 unfold scalar at A;unfold encN;rw[ZqH om,ZqH om,ZqH om,ZqN k]
theorem ZpD {r:Nat} (A:scalar r) (h:65536<=r):encN r= [UInt8.ofNat (240+r / 262144),UInt8.ofNat (128+r / 4096 % 64),UInt8.ofNat (128+r / 64 % 64),UInt8.ofNat (128+r % 64)]:=by
 unfold scalar at A;unfold encN;rw[ZqH om,ZqH om,ZqH om,ZqH om]
theorem Ze2 {r m:Nat} {l:List UInt8} (A:l≠ []) (h:Lib.decodeN l.length (l.getD 0 0).toNat (l.getD 1 0).toNat (l.getD 2 0).toNat (l.getD 3 0).toNat=(r,m)) (C:¬(r=65533/\m=1)):dec l=(r,m):=by
 unfold dec;rw[ZqH A,Jg,h,ZqH C]
theorem QL {r:Nat} (h:scalar r) (t:List UInt8):dec (encN r++t)=(r,(encN r).length):=by
 have H:=h;unfold scalar at h;by_cases F:r<128
 ·rw[Yl F];refine Ze2 (by simp) ?_ om;have C:(([UInt8.ofNat r]++t).getD 0 0).toNat=r:=ZP om;rw[C];unfold Lib.decodeN;rw[ZqN F];rfl
 ·by_cases I:r<2048
  ·rw[ZpB om I];refine Ze2 (by simp) ?_ (by simp);have C:(([UInt8.ofNat (192+r / 64),UInt8.ofNat (128+r % 64)]++t).getD 0 0).toNat=192+r / 64:=ZP om;have e1:(([UInt8.ofNat (192+r / 64),UInt8.ofNat (128+r % 64)]++t).getD 1 0).toNat=128+r % 64:=ZP om;have D:([UInt8.ofNat (192+r / 64),UInt8.ofNat (128+r % 64)]++t).length=t.length+2:=rfl;rw[C,e1,D];unfold Lib.decodeN;rw[ZqH om,ZqN om,ZqN om,show (192+r / 64) % 32*64+(128+r % 64) % 64=r by omega];rfl
  ·by_cases J:r<65536
   ·rw[ZpC H om J];refine Ze2 (by simp) ?_ (by simp);generalize A: [UInt8.ofNat (224+r / 4096),UInt8.ofNat (128+r / 64 % 64),UInt8.ofNat (128+r % 64)]=l;have C:((l++t).getD 0 0).toNat=224+r / 4096:=(by rw[<-A];exact ZP om);have e1:((l++t).getD 1 0).toNat=128+r / 64 % 64:=(by rw[<-A];exact ZP om);have e2:((l++t).getD 2 0).toNat=128+r % 64:=(by rw[<-A];exact ZP om);have D:(l++t).length=t.length+3:=(by rw[<-A];rfl);rw[C,e1,e2,D];unfold Lib.decodeN;rw[ZqH om,ZqH om,ZqN om,ZqN om,show (224+r / 4096) % 16*4096+(128+r / 64 % 64) % 64*64+(128+r % 64) % 64=r by omega,<-A];rfl
   ·rw[ZpD H om];refine Ze2 (by simp) ?_ (by simp);generalize A: [UInt8.ofNat (240+r / 262144),UInt8.ofNat (128+r / 4096 % 64),UInt8.ofNat (128+r / 64 % 64),UInt8.ofNat (128+r % 64)]=l;have C:((l++t).getD 0 0).toNat=240+r / 262144:=(by rw[<-A];exact ZP om);have e1:((l++t).getD 1 0).toNat=128+r / 4096 % 64:=(by rw[<-A];exact ZP om);have e2:((l++t).getD 2 0).toNat=128+r / 64 % 64:=(by rw[<-A];exact ZP om);have e3:((l++t).getD 3 0).toNat=128+r % 64:=(by rw[<-A];exact ZP om);have D:(l++t).length=t.length+4:=(by rw[<-A];rfl);rw[C,e1,e2,e3,D];unfold Lib.decodeN;rw[ZqH om,ZqH om,ZqH om,ZqN om,ZqN om,show (240+r / 262144) % 8*262144+(128+r / 4096 % 64) % 64*4096+(128+r / 64 % 64) % 64*64+(128+r % 64) % 64=r by omega,<-A];rfl
theorem Za2:∀(k n:Nat) (l:List UInt8) (r m:Nat),refFrom k n l=(r,m)->m≠0->encN r=l.take m/\m<=l.length
 |0,n,l,r,m,h,hm=>by simp only[refFrom,Prod.mk.injEq] at h;exact absurd h.2.symm hm
 |k+1,n,l,r,m,h,hm=>by
  unfold refFrom at h
  split at h
  ·rename_i A
   split at h
   ·rename_i C
    simp only[Prod.mk.injEq] at h
    obtain ⟨rfl,rfl⟩:=h
    exact ⟨C,A.2⟩
   ·exact Za2 k (n+1) l r m h hm
  ·simp only[Prod.mk.injEq] at h;exact absurd h.2.symm hm
theorem QM {l:List UInt8} {r m:Nat} (h:dec l=(r,m)) (A:m≠0):l=encN r++l.drop m:=by
 have C:l≠ []:=by intro e;rw[e] at h;simp only[dec,Zsy,Prod.mk.injEq] at h;exact A h.2.symm
 rw[<-Ga l C] at h;have:=(Za2 4 1 l r m h A).1;rw[this,ZrR]
def isText (l:List UInt8):Prop:=∃rs:List Nat,(∀r∈rs,isChar r=true)/\l=rs.flatMap encN
theorem Zy:isText []:=⟨[],by simp,rfl⟩
theorem Zs {l m:List UInt8} (h:isText l) (k:isText m):isText (l++m):=by
 obtain ⟨rs,A,rfl⟩:=h;obtain ⟨F,C,rfl⟩:=k;exact ⟨rs++F,λr D=>(Zq0.1 D).elim (A r) (C r),by simp⟩
theorem Z1 {r:Nat} (h:isChar r=true):isText (encN r):=⟨[r],by simpa using h,by simp⟩
theorem Xf:∀(n at_:Nat) (l:List UInt8),l.length<=n->(checkGo n at_ l).2=0->isText l
 |0,_,l,hl,_=>by
  have e:l= []:=ZqX om
  rw[e];exact Zy
 |n+1,at_,l,hl,h=>by
  by_cases D:l= []
  ·subst D;exact Zy
  ·rw[JG n at_ l D] at h
   by_cases A:(dec l).2=0
   ·rw[ZqN A] at h;simp at h
   ·rw[ZqH A] at h
    by_cases C:isChar (dec l).1=false
    ·rw[ZqN C] at h;simp at h
    ·rw[ZqH C] at h
     have F:=QM (l:=l) (r:=(dec l).1) (m:=(dec l).2) rfl A
     rw[F]
     refine Zs (Z1 (by simpa using C)) (Xf n _ _ ?_ h)
     rw[ZqP];omega
theorem ZbV:∀(rs:List Nat) (n at_:Nat),(∀r∈rs,isChar r=true)->(rs.flatMap encN).length<=n->(checkGo n at_ (rs.flatMap encN)).2=0
 | [],n,at_,_,_=>by rw[List.flatMap_nil,ZdT]
 |r::rs,n,at_,h,hl=>by
  have A:isChar r=true:=h r (by simp)
  have D:=Qg (ZU A)
  have C:=QL (ZU A) (rs.flatMap encN)
  rw[ZrU] at hl|-
  rw[ZqG] at hl
  obtain ⟨n,rfl⟩:∃k,n=k+1:=⟨n - 1,om⟩
  rw[JG n at_ _ (by intro e;have:=ZqS List.length e;rw[ZqG,Zq5] at this;omega),C]
  rw[ZqH (by simp only[];omega),ZqH (by simp[A])]
  simp only[List.drop_left]
  exact ZbV rs n _ (λr A=>h r (by simp[A])) om
theorem XN (l:List UInt8):(check l).2=0↔isText l:=
 ⟨Xf _ _ _ (ZqE _),λ⟨rs,h,e⟩=>by subst e;exact ZbV rs _ _ h (ZqE _)⟩
theorem J7 {s:ByteArray} (h:validS s=true):(checkS s).2=0:=by
 unfold validS at h;simp only[ZqZ,Zrd] at h;exact h.1
end Go.Proofs.YtmfinhgobjbecaaGreatDoor
