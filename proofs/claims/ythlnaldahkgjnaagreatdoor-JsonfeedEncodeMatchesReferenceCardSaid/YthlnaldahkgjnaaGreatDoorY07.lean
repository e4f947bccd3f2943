/- Parts of the proof: contracts and plain laws. -/
import Derived.Test.YthlnaldahkgjnaaGreatDoorY06
namespace Go.Proofs.YthlnaldahkgjnaaGreatDoor
open Go Go.RowKit Go.WideMaps Go.Maps
set_option linter.unusedVariables false
set_option linter.unusedSimpArgs false
set_option maxRecDepth 100000
set_option maxHeartbeats 16000000
def ValidSaid (n:Nat):Prop:=∀(j:JV) (cs:List Value) (w:World) (d:Nat),RVn n w j cs→jok j→Env w→1≤d→d≤101→
 Calls Tryz.prog 144 #[.agg cs.toArray,.int .i64 (d:Nat)] w fun e w'=>e= .returned (.bool (jvalid j d))∧Ext w w'
theorem RVn.shape {w:World} {n:Nat} {j:JV} {cs:List Value} (h:RVn n w j cs):∃k b x s A m c B p q a,cs= [.int .i64 k,.bool b,.int .i64 x,.string s,.slice A m c,.slice B p q,.int .i64 a]:=by
 cases n with
 |zero=>exact h.elim
 |succ n=>
  obtain ⟨a,h⟩:=h
  cases j with
  |arr l=>obtain ⟨v,css,rfl,_,⟨_,A,c,rfl,_⟩,_⟩:=h;exact ⟨_,_,_,_,_,_,_,_,_,_,_,rfl⟩
  |obj ks vs=>obtain ⟨v,ms,rfl,_,_,⟨_,A,c,rfl,_⟩,_⟩:=h;exact ⟨_,_,_,_,_,_,_,_,_,_,_,rfl⟩
  |_=>subst h;exact ⟨_,_,_,_,_,_,_,_,_,_,_,rfl⟩
theorem valid_arr (n:Nat) (ih:ValidSaid n) (l:List JV) (cs:List Value) (w:World) (d:Nat) (h:RVn (n+1) w (.arr l) cs) (hok:jok (.arr l)) (hE:Env w) (hd:1≤d) (hd1:d≤101):
 Calls Tryz.prog 144 #[.agg cs.toArray,.int .i64 (d:Nat)] w fun e w'=>e= .returned (.bool (jvalid (.arr l) d))∧Ext w w':=by
 obtain ⟨a,v,css,rfl,hcl,hr,hel⟩:=h
 rw[jok_arr] at hok
 rw[jvalid_arr]
 have hr':=hr
 obtain ⟨_,A,c,rfl,hmc,hcm,_,_⟩:=hr'
 have hvs:=fun w' (hE':Env w')=>validString_any ⟨#[]⟩ w' hE' (by simp[ByteArray.size])
 have hvt:Lib.validD (⟨#[]⟩:ByteArray).data.toList=true:=by decide
 have HVS:=gd hvs
 have HIH:=gd ih
 have HEL:=gd hel
 have HOK:=gd hok
 have HUN:=gd (fun w' (hx:Ext w w')=>unused_any (n+1) (.arr l) (vcells 4 false 0 ⟨#[]⟩ (.slice A l.length c) a) w' ⟨a,_,css,rfl,hcl,hr.ext hx,fun i j c hj hc=>(hel i j c hj hc).ext hx⟩)
 have hmm:= @run_makeMap Tryz.prog
 have hln:∀c∈css,c.length=7:=by
  intro c hc
  obtain ⟨i,hi,rfl⟩:=List.mem_iff_getElem.1 hc
  exact (hel i l[i] css[i] (List.getElem?_eq_getElem (by omega)) (List.getElem?_eq_getElem hi)).len
 have HLN:=gd hln
 clear hvs ih hel hok hln
 by_cases hd2:d≤100
 ·have hd3:decide ((100:Int)<(d:Nat))=false:=by simp;omega
  have HDD:=gd hd2
  unfold vcells at*
  go_enter Tryz.func144,Tryz.ntmps144
  go_wp2_with (first|(go_at_call 177;refine (HUN.out _ ((Ext.refl _).alloc _)).mono ?_;rintro e w1 ⟨rfl,hx1⟩;(have hb3:=hx1.boxed 3 _ rfl))|(go_at_call 178;refine (HVS.out _ ((hE.alloc _).ext hx1)).mono ?_;rintro e w2 ⟨rfl,hx2⟩;(have hb4:=hx2.cell (hx1.boxed 4 _ rfl));(have hb5:=hx2.cell (hx1.boxed 5 _ rfl))))
  go_loopw [36] (fun i wr=>∃k:Nat,k≤l.length∧i= .int .i64 k∧Hid ((l.all fun j=>jvalid j (d+1))=((l.drop k).all fun j=>jvalid j (d+1)))∧Ext w2 wr) (fun i _=>l.length - (intOf i).toNat)
  case atStart=>exact ⟨0,Nat.zero_le _,rfl,rfl,Ext.refl _⟩
  case round=>
   obtain ⟨k,hk,rfl,hall,hx⟩:=hrel
   by_cases hlt:k<l.length
   ·have hck:k<css.length:=by omega
    have hRV:=HEL.out k l[k] css[k] (List.getElem?_eq_getElem hlt) (List.getElem?_eq_getElem hck)
    obtain ⟨ad,cap,hA,hcells⟩:=RSl.elem (hr.ext ((((Ext.refl w).alloc _).trans hx1).trans (hx2.trans hx))) (by omega) HLN.out k css[k] (List.getElem?_eq_getElem hck)
    injection hA with hA1 hA2 hA3
    subst hA1
    clear hA2 hA3
    rw[Nat.mul_comm] at hcells
    obtain ⟨x0,x1,x2,x3,x4,x5,x6,y4,y5,y6,x7,hc⟩:=hRV.shape
    rw[hc] at hcells
    have hc0:=hcells 0 _ rfl
    have hc1:=hcells 1 _ rfl
    have hc2:=hcells 2 _ rfl
    have hc3:=hcells 3 _ rfl
    have hc4:=hcells 4 _ rfl
    have hc5:=hcells 5 _ rfl
    have hc6:=hcells 6 _ rfl
    rw[add_zero] at hc0
    have hadd:∀i,0<i→(ad.add (k*7)).add i=⟨(ad.add (k*7)).block,(ad.add (k*7)).off+i,none⟩:=fun i hi=>if_neg (by omega)
    rw[hadd _ (by omega)] at hc1 hc2 hc3 hc4 hc5 hc6
    clear hadd
    rw[hc] at hRV
    clear hcells
    have hE2:=hE.ext ((((Ext.refl w).alloc _).trans hx1).trans (hx2.trans hx))
    have hRV2:=hRV.ext ((((Ext.refl w).alloc _).trans hx1).trans (hx2.trans hx))
    have hok1:=HOK.out l[k] (List.getElem_mem _)
    have hwrap:IntKind.i64.wrap ((d:Int)+1)=((d+1:Nat):Int):=by rw[IntKind.wrap];simp[IntKind.signed,IntKind.bits];omega
    have hall':=hall.out.trans (by rw[List.drop_eq_getElem_cons hlt,List.all_cons]:_=(jvalid l[k] (d+1) && (l.drop (k+1)).all fun j=>jvalid j (d+1)))
    have HALL:=gd hall'
    have HOK1:=gd hok1
    have HRV2:=gd hRV2
    clear hall hall' hok1 hRV hRV2
    have hw1:wrap64 ((k:Int)+1)=((k+1:Nat):Int):=by rw[maxLen] at hcm;rw[wrap_ok _ ⟨by omega,by omega⟩];rfl
    have hxw:=(((Ext.refl w).alloc _).trans hx1).trans (hx2.trans hx)
    go_wp2_with (first|(go_at_call 144;refine (HIH.out l[k] _ _ (d+1) (HRV2.out.ext ((Ext.refl _).alloc _)) HOK1.out (hE2.alloc _) (by omega) (by omega)).mono ?_;rintro e w3 ⟨rfl,hx3⟩))
    ·go_ret
     refine ⟨?_,(hxw.alloc _).trans hx3⟩
     have h1:=HALL.out
     simp_all
    ·go_roundw
     case rel=>first|exact ⟨k+1,by omega,by rw[hw1],by have h1:=HALL.out;simp_all [Hid],(hx.alloc _).trans hx3⟩|((repeat apply Exists.intro);exact ⟨⟨k+1,by omega,by rw[hw1],by have h1:=HALL.out;simp_all [Hid],(hx.alloc _).trans hx3⟩,rfl⟩)
     case measure=>rw[hw1];simp[intOf];omega
   ·have hk':k=l.length:=by omega
    subst hk'
    have hall1:=gd (hall.out.trans (by simp:_=true))
    have hb5':=((Ext.refl wr).alloc (.map #[] 0)).cell (hx.cell hb5)
    go_wp2
    refine wp_loop_rounds 1 ?_
    rw[rounds_succ]
    go_wp2
    go_ret
    refine ⟨by rw[hall1.out];simp[HDD.out],?_⟩
    exact (((((Ext.refl w).alloc _).trans hx1).trans (hx2.trans hx)).alloc _)
 ·have hd3:decide ((100:Int)<(d:Nat))=true:=by simp;omega
  have HDD:=gd hd2
  unfold vcells at*
  go_enter Tryz.func144,Tryz.ntmps144
  go_wp2
  go_ret
  exact ⟨by simp,(Ext.refl _).alloc _⟩
theorem mcell_at {w:World} {ad:Addr} {key:ByteArray} {cs:List Value} {at_:Int} {k:Nat} (hl:cs.length=7) (h:∀j u,(mcell (key,cs,at_))[j]? =some u→w.cell? ((ad.add (k*9)).add j)=some u):
 w.cell? (ad.add (k*9))=some (.string key)∧(∀j u,cs[j]? =some u→w.cell? ⟨(ad.add (k*9)).block,(ad.add (k*9)).off+(j+1),none⟩=some u)∧w.cell? ⟨(ad.add (k*9)).block,(ad.add (k*9)).off+8,none⟩=some (.int .i64 at_):=by
 have hadd:∀i,0<i→(ad.add (k*9)).add i=⟨(ad.add (k*9)).block,(ad.add (k*9)).off+i,none⟩:=fun i hi=>if_neg (by omega)
 refine ⟨?_,fun j u hj=> ?_,?_⟩
 ·have:=h 0 _ rfl
  rwa [add_zero] at this
 ·have hj7:j<cs.length:=(List.getElem?_eq_some_iff.1 hj).1
  have:=h (j+1) u (by show (cs++ [_])[j]? =some u;rw[List.getElem?_append_left hj7];exact hj)
  rwa [hadd _ (by omega)] at this
 ·have:=h 8 (.int .i64 at_) (by show (cs++ [_])[7]? =_;rw[List.getElem?_append_right (by omega),hl];rfl)
  rwa [hadd _ (by omega)] at this
theorem valid_obj (n:Nat) (ih:ValidSaid n) (ks:List ByteArray) (vs:List JV) (cs:List Value) (w:World) (d:Nat) (h:RVn (n+1) w (.obj ks vs) cs) (hok:jok (.obj ks vs)) (hE:Env w) (hd:1≤d) (hd1:d≤101):
 Calls Tryz.prog 144 #[.agg cs.toArray,.int .i64 (d:Nat)] w fun e w'=>e= .returned (.bool (jvalid (.obj ks vs) d))∧Ext w w':=by
 obtain ⟨a,v,ms,rfl,hks,hml,hr,hel⟩:=h
 rw[jok_obj] at hok
 obtain ⟨hkl,hnd,hkv,hvs⟩:=hok
 rw[jvalid_obj]
 have hr':=hr
 obtain ⟨_,A,c,rfl,hmc,hcm,_,_⟩:=hr'
 have hsz0:(⟨#[]⟩:ByteArray).size≤16777216:=by simp[ByteArray.size]
 have hvs0:=fun w' (hE':Env w')=>validString_any ⟨#[]⟩ w' hE' hsz0
 have hvt:Lib.validD (⟨#[]⟩:ByteArray).data.toList=true:=by decide
 rw[hvt] at hvs0
 have HVS:=gd hvs0
 have HUN:=gd (fun w' (hx:Ext w w')=>unused_any (n+1) (.obj ks vs) (ocells (.slice A vs.length c) a) w' ⟨a,_,ms,rfl,hks,hml,hr.ext hx,fun i j c hj hc=>(hel i j c hj hc).ext hx⟩)
 have hmm:= @run_makeMap Tryz.prog
 have hln:∀c∈ms.map mcell,c.length=9:=by
  intro c hc
  obtain ⟨m,hm,rfl⟩:=List.mem_map.1 hc
  obtain ⟨i,hi,rfl⟩:=List.mem_iff_getElem.1 hm
  have:=(hel i vs[i] ms[i] (List.getElem?_eq_getElem (by omega)) (List.getElem?_eq_getElem hi)).len
  simp[mcell,this]
 have HLN:=gd hln
 have HIH:=gd ih
 have HEL:=gd hel
 have HVV:=gd hvs
 have HKS:=gd hks
 have HND:=gd hnd
 have HKV:=gd hkv
 have HR:=gd hr
 have HE:=gd hE
 clear hln ih hel hvs hks hnd hkv hvs0 hvt hsz0
 by_cases hd2:d≤100
 ·have hd3:decide ((100:Int)<(d:Nat))=false:=by simp;omega
  have HDD:=gd hd2
  unfold ocells at*
  go_enter Tryz.func144,Tryz.ntmps144
  go_wp2_with (first|(go_at_call 177;refine (HUN.out _ ((Ext.refl _).alloc _)).mono ?_;rintro e w1 ⟨rfl,hx1⟩;(have hb3:=hx1.boxed 3 _ rfl))|(go_at_call 178;refine (HVS.out _ ((HE.out.alloc _).ext hx1)).mono ?_;rintro e w2 ⟨rfl,hx2⟩;(have hb4:=hx2.cell (hx1.boxed 4 _ rfl));(have hb5:=((Ext.refl w2).alloc (.map #[] 0)).cell (hx2.cell (hx1.boxed 5 _ rfl)))))
  refine wp_loop_rounds 1 ?_
  rw[rounds_succ]
  go_wp2
  go_loopw [50] (fun i wr=>∃(k:Nat) (D:DataW Unit),k≤vs.length∧i= .int .i64 k∧wr.ownsMap Tryz.prog 9 (plainElem Tryz.prog 4) w2.heap.size k D∧Hid (SeenMap D (fun s=>(ks.take k).any (fun e=>decide (e=s))))∧Hid ((vs.all fun j=>jvalid j (d+1))=((vs.drop k).all fun j=>jvalid j (d+1)))∧Ext w2 wr) (fun i _=>vs.length - (intOf i).toNat)
  case atStart=>exact ⟨0,.map [],Nat.zero_le _,rfl,World.ownsMap_made _ _ _ _,gd SeenMap.nil,rfl,(Ext.refl _).alloc _⟩
  case round=>
   obtain ⟨k,D,hk,rfl,hM,hD,hall,hx⟩:=hrel
   have hx2m:Ext w w2:=(((Ext.refl w).alloc _).trans hx1).trans hx2
   have hxw:Ext w wr:=hx2m.trans hx
   by_cases hlt:k<vs.length
   ·have hck:k<ms.length:=by omega
    have hkk:k<ks.length:=by omega
    have hRV:=HEL.out k vs[k] ms[k] (List.getElem?_eq_getElem hlt) (List.getElem?_eq_getElem hck)
    obtain ⟨ad,cap,hA,hcells⟩:=RSl.elem (HR.out.ext hxw) (by omega) HLN.out k (mcell ms[k]) (by rw[List.getElem?_map,List.getElem?_eq_getElem hck];rfl)
    injection hA with hA1 hA2 hA3
    subst hA1
    clear hA2 hA3
    rw[Nat.mul_comm] at hcells
    have hkey:ks[k]=ms[k].1:=by
     have h1:(ms.map Prod.fst)[k]? =ks[k]?:=by rw[HKS.out]
     rw[List.getElem?_map,List.getElem?_eq_getElem hck,List.getElem?_eq_getElem hkk] at h1
     injection h1 with h1
     exact h1.symm
    have hseen:(ks.take k).any (fun e=>decide (e=ks[k]))=false:=by
     rw[List.any_eq_false]
     intro x hx hxe
     have hxe:x=ks[k]:=by simpa using hxe
     obtain ⟨j,hj,hje⟩:=List.mem_take_iff_getElem.1 hx
     have:=(List.pairwise_iff_getElem.1 (List.nodup_iff_pairwise_ne.1 HND.out)) j k (by omega) hkk (by omega)
     exact this (hje.trans hxe)
    have htk:=List.take_succ_eq_append_getElem hkk
    have hkok:=HKV.out ks[k] (List.getElem_mem _)
    have hok1:=HVV.out vs[k] (List.getElem_mem _)
    have hall':=hall.out.trans (by rw[List.drop_eq_getElem_cons hlt,List.all_cons]:_=(jvalid vs[k] (d+1) && (vs.drop (k+1)).all fun j=>jvalid j (d+1)))
    obtain ⟨M,hM0⟩:∃M,ms[k]=M:=⟨_,rfl⟩
    rw[hM0] at hcells hRV hkey
    obtain ⟨key,cv,at_⟩:=M
    dsimp only at hkey hRV
    rw[hkey] at hseen htk hkok
    have hl7:=hRV.len
    obtain ⟨x0,x1,x2,x3,x4,x5,x6,y4,y5,y6,x7,hc⟩:=hRV.shape
    subst hc
    obtain ⟨c0,cv_,c8⟩:=mcell_at hl7 hcells
    have c1:=cv_ 0 _ rfl
    have c2:=cv_ 1 _ rfl
    have c3:=cv_ 2 _ rfl
    have c4:=cv_ 3 _ rfl
    have c5:=cv_ 4 _ rfl
    have c6:=cv_ 5 _ rfl
    have c7:=cv_ 6 _ rfl
    simp only[Nat.zero_add,Nat.reduceAdd] at c1 c2 c3 c4 c5 c6 c7
    have hmx:key.size≤maxLen:=by have:=hkok.1;unfold maxLen;omega
    have HKEY:=gd (keyOf_string_mk Tryz.underlying9 hmx:keyOf Tryz.prog 9 (.string key)=some (.string key.data.toList))
    have HPUT:Hid (SeenMap (D.put (.string key.data.toList) (.lit (.bool true))) (fun s=>(ks.take (k+1)).any (fun e=>decide (e=s)))):=gd (hD.out.put fun t=>by rw[htk,List.any_append];simp)
    obtain ⟨W1,hW1⟩:∃W1,wr.alloc (.cells #[.string key,.int .i64 x0,.bool x1,.int .i64 x2,.string x3,.slice x4 x5 x6,.slice y4 y5 y6,.int .i64 x7,.int .i64 at_] 56)=W1:=⟨_,rfl⟩
    have hx1':Ext wr W1:=by rw[←hW1];exact (Ext.refl _).alloc _
    have hLK:=seen_look (hM.kept (hx1'.grown none) (by simp)) hD.out hmx
    simp only[hseen] at hLK
    have HBX:Hid (∀i u wz,#[Value.string key,.int .i64 x0,.bool x1,.int .i64 x2,.string x3,.slice x4 x5 x6,.slice y4 y5 y6,.int .i64 x7,.int .i64 at_][i]? =some u→Ext W1 wz→wz.cell? ⟨wr.heap.size,i,none⟩=some u):=gd (fun i u wz h hz=>Ext.boxed (w:=wr) (by rw[hW1];exact hz) i u h)
    have HVK:=gd (validString_any key W1 (HE.out.ext (hxw.trans hx1')) hkok.1)
    rw[hkok.2] at HVK
    have HRV:=gd (hRV.ext (hxw.trans hx1'))
    have HOK1:=gd hok1
    have HALL:=gd hall'
    have HM:=gd (hM.kept (hx1'.grown none) (by simp))
    have HXW:=gd (hxw.trans hx1')
    have HXM:=gd (hx.trans hx1')
    have HKL:Hid (k<maxLen):=gd (by have:=hmc;have:=hcm;omega)
    have hw1:wrap64 ((k:Int)+1)=((k+1:Nat):Int):=by rw[maxLen] at hcm;rw[wrap_ok _ ⟨by omega,by omega⟩];rfl
    have hwrap:IntKind.i64.wrap ((d:Int)+1)=((d+1:Nat):Int):=by rw[IntKind.wrap];simp[IntKind.signed,IntKind.bits];omega
    have b0:=HBX.out 0 _ W1 rfl (Ext.refl _)
    clear hall hall' hok1 hRV hcells cv_ hl7 hkok hmx hseen htk hkey hM0 hM hx1' hD hcm
    go_wp2_with (first|(go_at_call 178;(have hz:=HVK.out);(with_reducible refine Calls.mono hz ?_);clear hz;rintro e w3 ⟨rfl,hx3⟩;(have b1:=HBX.out 1 _ w3 rfl hx3);(have b2:=HBX.out 2 _ w3 rfl hx3);(have b3:=HBX.out 3 _ w3 rfl hx3);(have b4:=HBX.out 4 _ w3 rfl hx3);(have b5:=HBX.out 5 _ w3 rfl hx3);(have b6:=HBX.out 6 _ w3 rfl hx3);(have b7:=HBX.out 7 _ w3 rfl hx3);(have HR3:=gd (HRV.out.ext hx3));(have HE3:=gd (HE.out.ext (HXW.out.trans hx3))))|(go_at_call 144;(have hz:=HIH.out vs[k] _ w3 (d+1) HR3.out HOK1.out HE3.out (by omega) (by omega));(rw[show ((d+1:Nat):Int)=(d:Int)+1 from rfl] at hz);(with_reducible refine Calls.mono hz ?_);clear hz;rintro e w4 ⟨rfl,hx4⟩;(have d0:=HBX.out 0 _ w4 rfl (hx3.trans hx4));(have HM4:=gd (HM.out.kept ((hx3.trans hx4).grown none) (by simp))))|(at_mapUpdate;(refine wpList_mapUpdate_own _ rfl (.tmp 72) (.tmp 74) (.const (.bool true)) 192 rfl 9 4 keyLaw Tryz.underlying192 _ w2.heap.size k D rfl HM4.out HKL.out _ _ _ rfl rfl HKEY.out _ [] (plainElem_bool Tryz.underlying4 true) ?_);intro w5 hM5 hg5))
    ·go_ret
     refine ⟨?_,HXW.out.trans (hx3.trans hx4)⟩
     have h1:=HALL.out
     simp_all
    ·have hxm:Ext w2 w5:=Ext.grown' (B:=0) (HXM.out.trans (hx3.trans hx4)) hg5 (fun b hb=>by cases hb;exact Nat.le_refl _)
     have HM5:=gd hM5
     have HAL2:Hid ((vs.all fun j=>jvalid j (d+1))=((vs.drop (k+1)).all fun j=>jvalid j (d+1))):=by have h1:=HALL.out;simp_all [Hid]
     clear hM5 hg5
     go_roundw
     case rel=>exact ⟨k+1,_,hlt,by rw[hw1],HM5.out,HPUT,HAL2,hxm⟩
     case measure=>rw[hw1];simp[intOf];omega
   ·have hk':k=vs.length:=by omega
    subst hk'
    have hall1:=gd (hall.out.trans (by simp:_=true))
    clear hall
    go_wp2
    go_ret
    exact ⟨by rw[hall1.out];simp[HDD.out],hxw⟩
 ·have hd3:decide ((100:Int)<(d:Nat))=true:=by simp;omega
  have HDD:=gd hd2
  unfold ocells at*
  go_enter Tryz.func144,Tryz.ntmps144
  go_wp2
  go_ret
  exact ⟨by simp[HDD.out],(Ext.refl _).alloc _⟩
theorem valid_leaf (k:Int) (b:Bool) (x:Int) (s:ByteArray) (a:Int) (w:World) (d:Nat) (hE:Env w) (hs:s.size≤16777216) (hk:0≤k) (hk5:k≤5) (hd:1≤d) (hd1:d≤101)
 (hun:∀w',Calls Tryz.prog 177 #[.agg (vcells k b x s (.slice none 0 0) a).toArray] w' fun e w''=>e= .returned (.bool true)∧Ext w' w''):
 Calls Tryz.prog 144 #[.agg (vcells k b x s (.slice none 0 0) a).toArray,.int .i64 (d:Nat)] w fun e w'=>e= .returned (.bool (decide (d≤100) && Lib.validD s.data.toList))∧Ext w w':=by
 have hvs:=fun w' (hE':Env w')=>validString_any s w' hE' hs
 have HVS:=gd hvs
 have HUN:=gd hun
 have hk1:decide (k<0)=false:=by simp;omega
 have hk2:decide (5<k)=false:=by simp;omega
 have hmm:= @run_makeMap Tryz.prog
 clear hvs hun hs
 by_cases hd2:d≤100
 ·have hd3:decide ((100:Int)<(d:Nat))=false:=by simp;omega
  have HDD:=gd hd2
  unfold vcells at*
  have key:∀vb:Bool,Lib.validD s.data.toList=vb→Calls Tryz.prog 144 #[.agg #[.int .i64 k,.bool b,.int .i64 x,.string s,.slice none 0 0,.slice none 0 0,.int .i64 a],.int .i64 (d:Nat)] w fun e w'=>e= .returned (.bool vb)∧Ext w w':=by
   intro vb hvb
   rw[hvb] at HVS
   clear hvb
   go_enter Tryz.func144,Tryz.ntmps144
   cases vb
   ·go_wp2_with (first|(go_at_call 177;refine (HUN.out _).mono ?_;rintro e w1 ⟨rfl,hx1⟩;(have hb3:=hx1.boxed 3 _ rfl))|(go_at_call 178;refine (HVS.out _ ((hE.alloc _).ext hx1)).mono ?_;rintro e w2 ⟨rfl,hx2⟩))
    go_ret
    exact ⟨rfl,(((Ext.refl w).alloc _).trans hx1).trans hx2⟩
   ·go_wp2_with (first|(go_at_call 177;refine (HUN.out _).mono ?_;rintro e w1 ⟨rfl,hx1⟩;(have hb3:=hx1.boxed 3 _ rfl))|(go_at_call 178;refine (HVS.out _ ((hE.alloc _).ext hx1)).mono ?_;rintro e w2 ⟨rfl,hx2⟩;(have hb4:=hx2.cell (hx1.boxed 4 _ rfl));(have hb5:=((Ext.refl w2).alloc (.map #[] 0)).cell (hx2.cell (hx1.boxed 5 _ rfl)))))
    refine wp_loop_rounds 1 ?_
    rw[rounds_succ]
    go_wp2
    refine wp_loop_rounds 1 ?_
    rw[rounds_succ]
    go_wp2
    go_ret
    exact ⟨rfl,((((Ext.refl w).alloc _).trans hx1).trans hx2).alloc _⟩
  refine (key _ rfl).mono ?_
  rintro e w' ⟨rfl,hx⟩
  exact ⟨by simp[HDD.out],hx⟩
 ·have hd3:decide ((100:Int)<(d:Nat))=true:=by simp;omega
  have HDD:=gd hd2
  unfold vcells at*
  go_enter Tryz.func144,Tryz.ntmps144
  go_wp2
  go_ret
  exact ⟨by simp[HDD.out],(Ext.refl _).alloc _⟩
theorem vnil:Lib.validD (⟨#[]⟩:ByteArray).data.toList=true:=by decide
theorem valid_in:∀n,ValidSaid n
 |0,_,_,_,_,h,_,_,_,_=>h.elim
 |n+1,j,cs,w,d,h,hok,hE,hd,hd1=>by
  cases j with
  |arr l=>exact valid_arr n (valid_in n) l cs w d h hok hE hd hd1
  |obj ks vs=>exact valid_obj n (valid_in n) ks vs cs w d h hok hE hd hd1
  |null=>
   obtain ⟨a,rfl⟩:=h
   refine (valid_leaf 0 false 0 ⟨#[]⟩ a w d hE (by simp[ByteArray.size]) (by omega) (by omega) hd hd1 fun w'=>unused_any (n+1) .null _ w' ⟨a,rfl⟩).mono ?_
   rintro e w' ⟨rfl,hx⟩
   exact ⟨by rw[vnil,Bool.and_true];simp[jvalid],hx⟩
  |bool b=>
   obtain ⟨a,rfl⟩:=h
   refine (valid_leaf 1 b 0 ⟨#[]⟩ a w d hE (by simp[ByteArray.size]) (by omega) (by omega) hd hd1 fun w'=>unused_any (n+1) (.bool b) _ w' ⟨a,rfl⟩).mono ?_
   rintro e w' ⟨rfl,hx⟩
   exact ⟨by rw[vnil,Bool.and_true];simp[jvalid],hx⟩
  |int x=>
   obtain ⟨a,rfl⟩:=h
   refine (valid_leaf 2 false x ⟨#[]⟩ a w d hE (by simp[ByteArray.size]) (by omega) (by omega) hd hd1 fun w'=>unused_any (n+1) (.int x) _ w' ⟨a,rfl⟩).mono ?_
   rintro e w' ⟨rfl,hx⟩
   exact ⟨by rw[vnil,Bool.and_true];simp[jvalid],hx⟩
  |str s=>
   obtain ⟨a,rfl⟩:=h
   refine (valid_leaf 3 false 0 s a w d hE (by simpa [jok] using hok) (by omega) (by omega) hd hd1 fun w'=>unused_any (n+1) (.str s) _ w' ⟨a,rfl⟩).mono ?_
   rintro e w' ⟨rfl,hx⟩
   exact ⟨by simp[jvalid],hx⟩
theorem jcheck_any (j:JV) (cs:List Value) (w:World) (h:RV w j cs) (hok:jok j) (hE:Env w):
 Calls Tryz.prog 103 #[.agg cs.toArray] w fun e w'=>e= .returned (.int .i64 (if jvalid j 1 then 0 else 22))∧Ext w w':=by
 obtain ⟨n,h⟩:=h
 obtain ⟨x0,x1,x2,x3,x4,x5,x6,y4,y5,y6,x7,hc⟩:=h.shape
 subst hc
 have H:=gd (fun w' (hx:Ext w w')=>valid_in n j _ w' 1 (h.ext hx) hok (hE.ext hx) (by omega) (by omega))
 clear h hok hE
 go_enter Tryz.func103,Tryz.ntmps103
 go_wp2_with (go_at_call 144;refine (H.out _ ((Ext.refl w).alloc _)).mono ?_;rintro e w' ⟨rfl,hx⟩)
 all_goals go_ret
 all_goals exact ⟨by simp_all,((Ext.refl w).alloc _).trans hx⟩
section
set_option linter.unusedSimpArgs false
def KeyR (o:Option (ByteArray×Nat)) (e:Ending):Prop:=match o with
 |some (k,to_)=>e= .returned (.tuple #[.string k,.int .i64 (to_:Nat),.int .i64 0])
 |none=>∃a x:Nat,x≠0∧e= .returned (.tuple #[.string ⟨#[]⟩,.int .i64 (a:Nat),.int .i64 (x:Nat)])
theorem any_step {ks:List ByteArray} {k:Nat} {n:ByteArray} (hk:k<ks.length):(ks.drop k).any (fun p=>decide (p=n))=(decide (ks[k]=n)||(ks.drop (k+1)).any fun p=>decide (p=n)):=by
 rw[List.drop_eq_getElem_cons hk,List.any_cons]
theorem jKey_any (s:ByteArray) (a fr:Nat) (ks:List (ByteArray×Nat)) (mv:Value) (ms:List (ByteArray×List Value×Int)) (w:World) (hs:s.size≤80000000000) (ha:a≤s.size)
 (hks:ms.map Prod.fst=ks.map Prod.fst) (hr:RSl w 9 mv ms.length (ms.map mcell).flatten) (h7:∀m∈ms,m.2.1.length=7):
 Calls Tryz.prog 156 #[.string s,.int .i64 (a:Nat),.agg (wcells 5 false 0 noS (.slice none 0 0) mv (fr:Nat)).toArray] w fun e w'=>KeyR (keyP s.data.toList a ks) e∧Ext w w':=by
 obtain ⟨_,A,c,rfl,hmc,hcm,_,_⟩:=id hr
 obtain ⟨V,hV⟩:∃V,keyP s.data.toList a ks=V:=⟨_,rfl⟩
 rw[hV]
 unfold keyP at hV
 have i0:(0:Int)≤(a:Int):=by omega
 by_cases hq:s.data.toList[a]? =some 34
 case neg=>
  have hst:strP s.data.toList a=none:=by unfold strP;rw[if_neg hq]
  rw[hst] at hV
  obtain rfl:V=none:=hV.symm
  clear hV hst
  have hway:(s.size:Int)≤(a:Int)∨∃h:a<s.size,¬(s.size:Int)≤(a:Int)∧(a:Int)<(s.size:Int)∧((s[a].toNat:Int) !=34)=true:=by
   by_cases h:s.size≤a
   ·exact Or.inl (by omega)
   ·refine Or.inr ⟨by omega,by omega,by omega,?_⟩
    rw[bne_iff_ne]
    intro e
    refine hq ?_
    rw[List.getElem?_eq_getElem (by rw[data_len];omega)]
    exact congrArg some ((u8_iff (n:=34) (by decide)).2 (by have:s[a].toNat=34:=(by omega);exact this))
  have HW:=gd (fun w'=>jWrong_any s a w')
  clear hq hks hr h7
  unfold wcells noS
  rcases hway with h1|⟨h0,h1,h2,h3⟩
  all_goals go_enter Tryz.func156,Tryz.ntmps156
  all_goals go_wp2_with (first|(go_at_call 107;(with_reducible refine Calls.mono (HW.out _) ?_);rintro e w3 ⟨⟨b,x,hx0,rfl⟩,hx3⟩))
  all_goals (
   have q7:∀d:Aft (w3.alloc (.cells #[.int .i64 0,.bool false,.int .i64 0,.string ⟨#[]⟩,.slice none 0 0,.slice none 0 0,.int .i64 0,.int .i64 (b:Nat),.int .i64 (x:Nat)] 109)),d.w.cell? ⟨w3.heap.size,7,none⟩=some (.int .i64 (b:Nat)):=Aft.cell ((Ext.refl _).boxed 7 _ rfl)
   have q8:∀d:Aft (w3.alloc (.cells #[.int .i64 0,.bool false,.int .i64 0,.string ⟨#[]⟩,.slice none 0 0,.slice none 0 0,.int .i64 0,.int .i64 (b:Nat),.int .i64 (x:Nat)] 109)),d.w.cell? ⟨w3.heap.size,8,none⟩=some (.int .i64 (x:Nat)):=Aft.cell ((Ext.refl _).boxed 8 _ rfl)
   refine rA ?_
   repeat (first|go_big_quiet_step (fail)|quiet_step (fail))
   refine wpQuiet_nil ?_
   rintro _ ⟨d1,rfl⟩
   go_wp2
   go_ret3
   exact ⟨⟨b,x,hx0,rfl⟩,((((Ext.refl w).alloc _).trans hx3).alloc _).trans d1.ext⟩)
 have haS:a<s.size:=by
  have:=(List.getElem?_eq_some_iff.1 hq).1
  rwa [data_len] at this
 have h34i:(s[a].toNat:Int)=34:=by
  rw[List.getElem?_eq_getElem (by rw[data_len];exact haS)] at hq
  injection hq with hq
  have e:s[a].toNat=34:=(u8_iff (n:=34) (by decide)).1 hq
  omega
 have h1:¬(s.size:Int)≤(a:Int):=by omega
 have h2:(a:Int)<(s.size:Int):=by omega
 have HS:=gd (fun w'=>refStrP_any s a w' hs haS hq)
 cases hst:strP s.data.toList a with
 |none=>
  rw[hst] at hV HS
  obtain rfl:V=none:=hV.symm
  clear hV hst hq hks hr h7
  unfold wcells noS
  go_enter Tryz.func156,Tryz.ntmps156
  go_wp2_with (first|(go_at_call 109;(with_reducible refine Calls.mono (HS.out _) ?_);rintro e w3 ⟨⟨b,x,hx0,rfl⟩,hx3⟩;(have hx0i:((x:Int) !=0)=true:=by rw[bne_iff_ne];omega)))
  go_ret3
  exact ⟨⟨b,x,hx0,rfl⟩,((Ext.refl w).alloc _).trans hx3⟩
 |some p=>
  obtain ⟨t,z⟩:=p
  obtain ⟨-, -,hz1,hz2⟩:=strP_ok hst
  rw[data_len] at hz2
  rw[hst] at hV HS
  simp only at hV
  have HR:=gd hr
  have H7:=gd h7
  have HKS:=gd hks
  have HV:=gd hV
  have hln:∀c∈ms.map mcell,c.length=9:=by
   intro c hc
   obtain ⟨m,hm,rfl⟩:=List.mem_map.1 hc
   simp[mcell,h7 m hm]
  have HLN:=gd hln
  have hkl:ks.length=ms.length:=by
   have:=congrArg List.length hks
   rw[List.length_map,List.length_map] at this
   exact this.symm
  have hcell5:∀w',Ext (w.alloc (.cells (wcells 5 false 0 noS (.slice none 0 0) (.slice A ms.length c) (fr:Nat)).toArray 25)) w'→w'.cell? ⟨w.heap.size,5,none⟩=some (.slice A ms.length c):=fun w' hx=>hx.boxed 5 _ rfl
  unfold wcells noS at*
  have HCM:Hid (ms.length≤maxLen):=Nat.le_trans hmc hcm
  clear hV hst hq hks hr h7 hln hcm hmc
  go_enter Tryz.func156,Tryz.ntmps156
  go_wp2_with (first|(go_at_call 109;(with_reducible refine Calls.mono (HS.out _) ?_);rintro e w3 ⟨he,hx3⟩;(replace he:e= .returned (.tuple #[.string (str t),.int .i64 (z:Nat),.int .i64 0]):=he);subst he))
  go_loopw [13] (fun i wr=>∃k:Nat,k≤ms.length∧i= .int .i64 (k:Nat)∧Hid ((ks.map Prod.fst).any (fun p=>decide (p=str t))=((ks.map Prod.fst).drop k).any fun p=>decide (p=str t))∧wr=w3) (fun i _=>ms.length - (intOf i).toNat)
  case atStart=>exact ⟨0,Nat.zero_le _,rfl,by rw[List.drop_zero];trivial,rfl⟩
  case round=>
   obtain ⟨k,hk,rfl,hany,rfl⟩:=hrel
   have q5:=hcell5 wr hx3
   by_cases hlt:k<ms.length
   ·have hkk:k<(ks.map Prod.fst).length:=by rw[List.length_map];omega
    have hst:=any_step (n:=str t) hkk
    obtain ⟨ad,cap,hA,hcells⟩:=RSl.elem (HR.out.ext (((Ext.refl w).alloc _).trans hx3)) (by omega) HLN.out k (mcell ms[k]) (by rw[List.getElem?_map,List.getElem?_eq_getElem hlt];rfl)
    injection hA with hA1 hA2 hA3
    subst hA1
    clear hA2 hA3
    rw[Nat.mul_comm] at hcells
    have hkey:(ks.map Prod.fst)[k]=ms[k].1:=by
     have e1:(ks.map Prod.fst)[k]? =(ms.map Prod.fst)[k]?:=by rw[HKS.out]
     rw[List.getElem?_eq_getElem hkk,List.getElem?_map,List.getElem?_eq_getElem hlt] at e1
     simpa using e1
    have hl7:=H7.out ms[k] (List.getElem_mem hlt)
    rw[hkey] at hst
    obtain ⟨M,hM0⟩:∃M,ms[k]=M:=⟨_,rfl⟩
    rw[hM0] at hcells hst hl7
    obtain ⟨key,cv,at_⟩:=M
    obtain ⟨c0, -, -⟩:=mcell_at hl7 hcells
    dsimp only at hst
    have hkb:(k:Int)<(ms.length:Int):=by omega
    have hk0:(0:Int)≤(k:Int):=by omega
    have hw1:Hid (wrap64 ((k:Int)+1)=((k+1:Nat):Int)):=by
     have h1:=HCM.out
     rw[maxLen] at h1
     show _=_
     rw[wrap_ok _ ⟨by omega,by omega⟩];rfl
    clear hcells hkey hM0 hl7
    by_cases hn:key=str t
    ·have hres:=hany.out.trans hst
     rw[decide_eq_true hn,Bool.true_or] at hres
     have hv:V=none:=by
      have:=HV.out
      rw[List.any_map] at hres
      rw[show (ks.any fun p=>decide (p.1=str t))=true from hres,if_pos rfl] at this
      exact this.symm
     subst hv
     have hbe:(key.toList==(str t).toList)=true:=by rw[hn];simp
     clear hst hres hany
     go_wp2
     go_ret3
     exact ⟨⟨a,10,by decide,rfl⟩,((Ext.refl w).alloc _).trans hx3⟩
    ·have hres:Hid _:=gd (hany.out.trans hst)
     rw[decide_eq_false hn,Bool.false_or] at hres
     have hbe:(key.toList==(str t).toList)=false:=by rw[toList_beq];simp only[beq_eq_false_iff_ne];exact fun e=>hn (bytes_inj e)
     clear hst hany
     go_wp2
     go_roundw
     case rel=>exact ⟨k+1,hlt,congrArg (Value.int .i64) hw1.out,hres,trivial⟩
     case measure=>rw[hw1.out];clear hw1;simp[intOf];omega
   ·have hke:k=ms.length:=by omega
    have hkb:¬(k:Int)<(ms.length:Int):=by omega
    have hres:=hany.out
    rw[List.drop_of_length_le (by rw[List.length_map];omega),List.any_nil,List.any_map] at hres
    have hv:=HV.out
    rw[show (ks.any fun p=>decide (p.1=str t))=false from hres,if_neg (by decide)] at hv
    have HSP:=gd (fun w'=>jSpaces_any s z w' hs hz2)
    have hsl:spAt s.data.toList z≤s.size:=by have:=spAt_le (s:=s.data.toList) (k:=z) (by rw[data_len];exact hz2);rwa [data_len] at this
    have HHC:=gd (fun w'=>jHas_any s ⟨#[58]⟩ (spAt s.data.toList z) w' (by unfold maxLen;omega) (by unfold maxLen;omega) (by unfold maxLen;decide) (by decide))
    obtain ⟨Z,hZ⟩:∃Z,spAt s.data.toList z=Z:=⟨_,rfl⟩
    rw[hZ] at HSP HHC hv hsl
    have HW:=gd (fun w'=>jWrong_any s Z w')
    clear hany hres hZ
    cases hh:hasAt s.data.toList Z (⟨#[58]⟩:ByteArray).data.toList with
    |true=>
     rw[if_pos (show hasAt s.data.toList Z [58]=true from hh)] at hv
     rw[hh] at HHC
     subst hv
     clear hh HV
     go_wp2_with (first|(go_at_call 65;(with_reducible refine Calls.mono (HSP.out _) ?_);rintro e w4 ⟨rfl,rfl⟩)|(go_at_call 63;(with_reducible refine Calls.mono (HHC.out _) ?_);rintro e w4 ⟨rfl,rfl⟩))
     go_ret3
     exact ⟨rfl,((Ext.refl w).alloc _).trans hx3⟩
    |false=>
     rw[if_neg (show ¬hasAt s.data.toList Z [58]=true by rw[show hasAt s.data.toList Z [58]=false from hh];decide)] at hv
     rw[hh] at HHC
     subst hv
     clear hh HV
     go_wp2_with (first|(go_at_call 65;(with_reducible refine Calls.mono (HSP.out _) ?_);rintro e w4 ⟨rfl,rfl⟩)|(go_at_call 63;(with_reducible refine Calls.mono (HHC.out _) ?_);rintro e w4 ⟨rfl,rfl⟩)|(go_at_call 107;(with_reducible refine Calls.mono (HW.out _) ?_);rintro e w5 ⟨⟨b,x,hx0,rfl⟩,hx5⟩))
     have q7:∀d:Aft (w5.alloc (.cells #[.int .i64 0,.bool false,.int .i64 0,.string ⟨#[]⟩,.slice none 0 0,.slice none 0 0,.int .i64 0,.int .i64 (b:Nat),.int .i64 (x:Nat)] 109)),d.w.cell? ⟨w5.heap.size,7,none⟩=some (.int .i64 (b:Nat)):=Aft.cell ((Ext.refl _).boxed 7 _ rfl)
     have q8:∀d:Aft (w5.alloc (.cells #[.int .i64 0,.bool false,.int .i64 0,.string ⟨#[]⟩,.slice none 0 0,.slice none 0 0,.int .i64 0,.int .i64 (b:Nat),.int .i64 (x:Nat)] 109)),d.w.cell? ⟨w5.heap.size,8,none⟩=some (.int .i64 (x:Nat)):=Aft.cell ((Ext.refl _).boxed 8 _ rfl)
     refine rA ?_
     repeat (first|go_big_quiet_step (fail)|quiet_step (fail))
     refine wpQuiet_nil ?_
     rintro _ ⟨d1,rfl⟩
     go_wp2
     go_ret3
     exact ⟨⟨b,x,hx0,rfl⟩,(((((Ext.refl w).alloc _).trans hx3).trans hx5).alloc _).trans d1.ext⟩
end
section
section
variable {P:Program} {md:Region.Mode} {ops:Array Oper} {Q:Exit→Act→World→Prop} {S:World→Prop} {T:Array Bool→Act→World→Prop} {t:Nat}
def wpAnyC (P:Program) (md:Region.Mode) (ops:Array Oper) (Q:Exit→Act→World→Prop) (S:World→Prop) (T:Array Bool→Act→World→Prop):Nat→Array Bool→Act→World→Prop
 |0,listed,a,w=>T listed a w
 |f+1,listed,a,w=>(Region.ready md ops listed= []→Q .normal a w)∧
  ∀i∈Region.ready md ops listed,wpOp P ops Q i (fun a' w'=>S w'∧wpAnyC P md ops Q S T f (listed.setIfInBounds i true) a' w') a w
theorem wpAnyT_cut {m:Nat} (hT:∀L a w,T L a w→wpAnyT P md ops Q S t m L a w):∀(f k:Nat) (listed:Array Bool) (a:Act) (w:World),k=f+m→wpAnyC P md ops Q S T f listed a w→wpAnyT P md ops Q S t k listed a w
 |0,k,listed,a,w,hk,h=>by rw[hk,Nat.zero_add];exact hT _ _ _ h
 |f+1,k,listed,a,w,hk,h=>by
  rw[hk,show f+1+m=(f+m)+1 by omega]
  exact ⟨h.1,fun i hi=>wpOp_mono (fun a' w' h'=>⟨fun _=>h'.1,wpAnyT_cut hT f (f+m) _ a' w' rfl h'.2⟩) (h.2 i hi)⟩
theorem wpAnyT_told {m f k:Nat} {l:List Oper} {listed:Array Bool} {a:Act} {w:World} (hk:k=f+m) (L':Array Bool) (R:Act→Act→World→Prop)
 (h1:wpAnyC P md l.toArray Q S (fun L a' w'=>L=L'∧R a a' w') f listed a w) (h2:∀a' w',R a a' w'→wpAnyT P md l.toArray Q S t m L' a' w'):wpAnyT P md l.toArray Q S t k listed a w:=
 wpAnyT_cut (fun L a w h=>by obtain ⟨rfl,h⟩:=h;exact h2 a w h) f k listed a w hk h1
theorem wpAnyC_key {l:List Oper} {f:Nat} {listed:Array Bool} {a:Act} {w:World} (q:Nat) (o:Oper) (ho:l[q]? =some o)
 (h:∀K:Act→World→Prop,(∀a' w',S w'→wpAnyC P md l.toArray Q S T f (listed.setIfInBounds q true) a' w'→K a' w')→if Region.wanted o (yielded l.toArray a.tmps) then Oper.wp P o a w K Q else K (a.put o.dst undef) w):
 wpOp P l.toArray Q q (fun a' w'=>S w'∧wpAnyC P md l.toArray Q S T f (listed.setIfInBounds q true) a' w') a w:=by
 have ho':l.toArray[q]? =some o:=by rw[List.getElem?_toArray];exact ho
 have h':=h (fun a' w'=>S w'∧wpAnyC P md l.toArray Q S T f (listed.setIfInBounds q true) a' w') fun _ _ h1 h2=>⟨h1,h2⟩
 unfold wpOp
 simp only[ho']
 split
 ·rename_i hw;rw[if_pos hw] at h';exact Or.inl h'
 ·rename_i hw;rw[if_neg hw] at h';exact h'
section
variable {l:List Oper} {f:Nat} {listed:Array Bool} {a:Act} {w:World} {i j k:Nat} {oi oj ok:Oper}
theorem wpAnyC_step (hoi:l[i]? =some oi) (hr:Region.ready md l.toArray listed= [i])
 (h1:∀K:Act→World→Prop,(∀a' w',S w'→wpAnyC P md l.toArray Q S T f (listed.setIfInBounds i true) a' w'→K a' w')→if Region.wanted oi (yielded l.toArray a.tmps) then Oper.wp P oi a w K Q else K (a.put oi.dst undef) w):wpAnyC P md l.toArray Q S T (f+1) listed a w:=by
 refine ⟨fun h=>(by rw[hr] at h;cases h),fun q hq=> ?_⟩
 rw[hr] at hq
 rw[List.mem_singleton.1 hq]
 exact wpAnyC_key i oi hoi h1
theorem wpAnyC_two (hoi:l[i]? =some oi) (hoj:l[j]? =some oj) (hr:Region.ready md l.toArray listed= [i,j])
 (h1:∀K:Act→World→Prop,(∀a' w',S w'→wpAnyC P md l.toArray Q S T f (listed.setIfInBounds i true) a' w'→K a' w')→if Region.wanted oi (yielded l.toArray a.tmps) then Oper.wp P oi a w K Q else K (a.put oi.dst undef) w)
 (h2:∀K:Act→World→Prop,(∀a' w',S w'→wpAnyC P md l.toArray Q S T f (listed.setIfInBounds j true) a' w'→K a' w')→if Region.wanted oj (yielded l.toArray a.tmps) then Oper.wp P oj a w K Q else K (a.put oj.dst undef) w):wpAnyC P md l.toArray Q S T (f+1) listed a w:=by
 refine ⟨fun h=>(by rw[hr] at h;cases h),fun q hq=> ?_⟩
 rw[hr] at hq
 simp only[List.mem_cons,List.mem_nil_iff,or_false] at hq
 rcases hq with hq|hq
 ·rw[hq];exact wpAnyC_key i oi hoi h1
 ·rw[hq];exact wpAnyC_key j oj hoj h2
end
end
section
variable {P:Program} {md:Region.Mode} {Q:Exit→Act→World→Prop} {S:World→Prop} {t:Nat} {l:List Oper} {f:Nat} {listed:Array Bool} {a:Act} {w:World} {i j:Nat} {oi oj:Oper}
theorem wpAnyT_one (hoi:l[i]? =some oi) (hr:Region.ready md l.toArray listed= [i])
 (h1:∀K:Act→World→Prop,(∀a' w',((listed.setIfInBounds i true).getD t true=false→S w')→wpAnyT P md l.toArray Q S t f (listed.setIfInBounds i true) a' w'→K a' w')→if Region.wanted oi (yielded l.toArray a.tmps) then Oper.wp P oi a w K Q else K (a.put oi.dst undef) w):wpAnyT P md l.toArray Q S t (f+1) listed a w:=by
 refine ⟨fun h=>(by rw[hr] at h;cases h),fun q hq=> ?_⟩
 rw[hr] at hq
 rw[List.mem_singleton.1 hq]
 have ho':l.toArray[i]? =some oi:=by rw[List.getElem?_toArray];exact hoi
 have h':=h1 (fun a' w'=>((listed.setIfInBounds i true).getD t true=false→S w')∧wpAnyT P md l.toArray Q S t f (listed.setIfInBounds i true) a' w') fun _ _ h1 h2=>⟨h1,h2⟩
 unfold wpOp
 simp only[ho']
 split
 ·rename_i hw;rw[if_pos hw] at h';exact Or.inl h'
 ·rename_i hw;rw[if_neg hw] at h';exact h'
theorem wpAnyT_end (hr:Region.ready md l.toArray listed= []) (h:Q .normal a w):wpAnyT P md l.toArray Q S t 0 listed a w:=⟨hr,h⟩
end
end
def KeepsT (T:TypeId) (w w':World):Prop:=∀(k:Nat) (cs:Array Value) (t:TypeId) (fr:Nat×Nat),w.heap[k]? =some (Obj.cells cs t fr)→t≠T→t≠5→w'.heap[k]? =some (Obj.cells cs t fr)
theorem Builder_copyCheck_k {T:TypeId} (hT:BT T) (B b:Nat) (bs:List Value) (w:World) (h:Lib.IsBuilder T 5 B b bs w):
 Calls Tryz.prog 116 #[.pointer (some ⟨b,0,none⟩)] w fun e w'=>e= .returned (.tuple #[])∧(Lib.BuilderAt T 5 B b (.pointer (some ⟨b,0,none⟩)) bs w'∧Below B w w'∧KeepsT T w w'):=by
 rcases h with h|h
 ·refine (Builder_copyCheck_fresh hT b w h.cell0 h.shape h.frozen0).mono ?_
  rintro e w' ⟨rfl,rfl⟩
  refine ⟨rfl,h.used _,(Below.refl B w).setCell (p:=⟨b,0,none⟩) h.1 _,?_⟩
  intro k cs t fr hk hT' he'
  rw[Below.heap_setCell _ _ _ _ (fun e=> ?_)]
  ·exact hk
  ·obtain ⟨_,v,hb,_⟩:=h
   simp at e
   subst e
   rw[hb] at hk
   simp only[Option.some.injEq,Obj.cells.injEq] at hk
   exact hT' hk.2.1.symm
 ·refine (Builder_copyCheck_used hT b w h.cell0).mono ?_
  rintro e w' ⟨rfl,rfl⟩
  exact ⟨rfl,h,Below.refl B _,fun _ _ _ _ hk _ _=>hk⟩
theorem Builder_WriteByte_k {T:TypeId} (hT:BT T) (B b:Nat) (bs:List Value) (c:Int) (w:World) (h:Lib.IsBuilder T 5 B b bs w) (hlen:bs.length+1≤140737488355328) (hBw:B≤w.heap.size):
 Calls Tryz.prog 69 #[.pointer (some ⟨b,0,none⟩),.int .u8 c] w fun e w'=>e= .returned .nilIface∧(Lib.BuilderAt T 5 B b (.pointer (some ⟨b,0,none⟩)) (bs++ [.int .u8 c]) w'∧Below B w w'∧KeepsT T w w'):=by
 obtain ⟨i0,hi,hz0,hz1,hz2⟩:=info_parts info_u8
 go_enter Tryz.func69,Tryz.ntmps69
 go_wp2_with (go_at_call 116;refine (Builder_copyCheck_k hT B b bs _ h).mono ?_)
 rintro e w1 ⟨rfl,h1,hb1,hk1⟩
 obtain ⟨hB,v,hbk,hown,hne⟩:=h1
 have c0:w1.cell? ⟨b,0,none⟩=some (.pointer (some ⟨b,0,none⟩)):=by rw[Lib.cell_of_heap hbk];rfl
 have c1:w1.cell? ⟨b,1,none⟩=some v:=by rw[Lib.cell_of_heap hbk];rfl
 go_wp2_with (at_builtin;refine wpList_append_own _ rfl _ _ 115 rfl B 5 i0 (.int .u8 0) 1 1 Tryz.underlying115 hi hz0 hz1 hz2 rfl (by decide) _ _ _ rfl (hown.alloc _) ⟨w1.heap.size,0,none⟩ 1 1 [.int .u8 c] rfl rfl ?c1 ?c2 ?c3 ?c4 ?c5 ?_)
 case c1=>
  intro j u hj
  match j,hj with
  |0,hj=>simp at hj;subst hj;simp[Addr.add]
 case c2=>intro u hu;simp at hu;subst hu;rfl
 case c3=>unfold maxLen;omega
 case c4=>omega
 case c5=>have:=hb1.size;simp;omega
 intro v' w2 hown' hgrow _
 have hlt:b<w1.heap.size:=by
  rcases Nat.lt_or_ge b w1.heap.size with h'|h'
  ·exact h'
  ·simp[Array.getElem?_eq_none h'] at hbk
 have hb2:w2.heap[b]? =some (.cells #[.pointer (some ⟨b,0,none⟩),v] T (0,0)):=by
  rw[hgrow.block b (by simp;omega) (fun e=>hne e.symm),Lib.alloc_old w1 _ b hlt]
  exact hbk
 have d0:w2.cell? ⟨b,0,none⟩=some (.pointer (some ⟨b,0,none⟩)):=by rw[Lib.cell_of_heap hb2];rfl
 have d1:w2.cell? ⟨b,1,none⟩=some v:=by rw[Lib.cell_of_heap hb2];rfl
 have f1:w2.frozen? ⟨b,1,none⟩=false:=Lib.frozen_of_heap hb2 1
 obtain ⟨g,cap,rfl⟩:∃g cap,v'= .slice (some ⟨g,0,none⟩) (bs.length+1) cap:=by
  rcases hown'.2 with ⟨_,h0⟩|⟨g,cap,cur,hv,_⟩
  ·omega
  ·exact ⟨g,cap,hv⟩
 go_wp2
 go_ret
 refine ⟨rfl,?_,?_,?_⟩
 ·exact Lib.BuilderAt.put (T:=T) (e:=5) hB hb2 (bs':=bs++ [.int .u8 c]) (by simpa using hown') hT.ne
 ·exact ((hb1.alloc (by have:=hb1.size;omega) _).grown hgrow (by have:=hb1.size;simp;omega) (fun k hk=>(hown.lt k hk).1)).setCell (p:=⟨b,1,none⟩) hB _
 ·intro k cs t fr hk hT' he'
  have hk':=hk1 k cs t fr hk hT' he'
  have hkb:k≠b:=by
   rintro rfl
   rw[hbk] at hk'
   simp only[Option.some.injEq,Obj.cells.injEq] at hk'
   exact hT' hk'.2.1.symm
  have hlk:k<w1.heap.size:=(Array.getElem?_eq_some_iff.1 hk').1
  rw[Below.heap_setCell _ _ _ _ (fun e=>hkb (by simpa using e))]
  rw[hgrow.block k (by simp;omega) (fun e=>Lib.ownBlock_ne hown hk' he' e.symm),Lib.alloc_old w1 _ k hlk]
  exact hk'
theorem Builder_WriteString_k {T:TypeId} (hT:BT T) (B b:Nat) (bs:List Value) (s:ByteArray) (w:World) (h:Lib.IsBuilder T 5 B b bs w) (hlen:bs.length+s.size≤140737488355328) (hBw:B≤w.heap.size):
 Calls Tryz.prog 145 #[.pointer (some ⟨b,0,none⟩),.string s] w fun e w'=>e= .returned (.tuple #[.int .i64 s.size,.nilIface])∧(Lib.BuilderAt T 5 B b (.pointer (some ⟨b,0,none⟩)) (bs++Lib.strCells s) w'∧Below B w w'∧KeepsT T w w'):=by
 obtain ⟨i0,hi,hz0,hz1,hz2⟩:=info_parts info_u8
 go_enter Tryz.func145,Tryz.ntmps145
 go_wp2_with (go_at_call 116;refine (Builder_copyCheck_k hT B b bs _ h).mono ?_)
 rintro e w1 ⟨rfl,h1,hb1,hk1⟩
 obtain ⟨hB,v,hbk,hown,hne⟩:=h1
 have c0:w1.cell? ⟨b,0,none⟩=some (.pointer (some ⟨b,0,none⟩)):=by rw[Lib.cell_of_heap hbk];rfl
 have c1:w1.cell? ⟨b,1,none⟩=some v:=by rw[Lib.cell_of_heap hbk];rfl
 go_wp2_with (at_builtin;refine Lib.wpList_append_own_string _ rfl _ _ 115 9 rfl B 5 i0 Tryz.underlying115 Tryz.underlying9 hi hz0 hz1 hz2 _ _ _ rfl hown s rfl ?c3 ?c4 ?c5 ?_)
 case c3=>unfold maxLen;omega
 case c4=>omega
 case c5=>have:=hb1.size;omega
 intro v' w2 hown' hgrow _
 have hlt:b<w1.heap.size:=by
  rcases Nat.lt_or_ge b w1.heap.size with h'|h'
  ·exact h'
  ·simp[Array.getElem?_eq_none h'] at hbk
 have hb2:w2.heap[b]? =some (.cells #[.pointer (some ⟨b,0,none⟩),v] T (0,0)):=by
  rw[hgrow.block b hlt (fun e=>hne e.symm)]
  exact hbk
 have d0:w2.cell? ⟨b,0,none⟩=some (.pointer (some ⟨b,0,none⟩)):=by rw[Lib.cell_of_heap hb2];rfl
 have d1:w2.cell? ⟨b,1,none⟩=some v:=by rw[Lib.cell_of_heap hb2];rfl
 have f1:w2.frozen? ⟨b,1,none⟩=false:=Lib.frozen_of_heap hb2 1
 obtain ⟨ao,n',cap,rfl⟩:∃ao n' cap,v'= .slice ao n' cap:=by
  rcases hown'.2 with ⟨hv,_⟩|⟨g,cap,cur,hv,_⟩
  ·exact ⟨_,_,_,hv⟩
  ·exact ⟨_,_,_,hv⟩
 go_wp2
 go_ret2
 refine ⟨rfl,?_,?_,?_⟩
 ·exact Lib.BuilderAt.put (T:=T) (e:=5) hB hb2 (bs':=bs++Lib.strCells s) (by simpa [Lib.strCells_length] using hown') hT.ne
 ·exact (hb1.grown hgrow (by have:=hb1.size;omega) (fun k hk=>(hown.lt k hk).1)).setCell (p:=⟨b,1,none⟩) hB _
 ·intro k cs t fr hk hT' he'
  have hk':=hk1 k cs t fr hk hT' he'
  have hkb:k≠b:=by
   rintro rfl
   rw[hbk] at hk'
   simp only[Option.some.injEq,Obj.cells.injEq] at hk'
   exact hT' hk'.2.1.symm
  have hlk:k<w1.heap.size:=(Array.getElem?_eq_some_iff.1 hk').1
  rw[Below.heap_setCell _ _ _ _ (fun e=>hkb (by simpa using e))]
  rw[hgrow.block k hlk (fun e=>Lib.ownBlock_ne hown hk' he' e.symm)]
  exact hk'
abbrev WB (B b:Nat) (bs:List Value) (w:World):Prop:=Lib.IsBuilder 161 5 B b bs w
theorem jstr_k (s:ByteArray) (B b:Nat) (bs:List Value) (w:World) (hE:Env w) (hs:s.size≤16777216) (hB:WB B b bs w) (hBw:B≤w.heap.size) (hl:bs.length+(quoteS s).1.size≤140737488355328):
 Calls Tryz.prog 147 #[.pointer (some ⟨b,0,none⟩),.string s] w fun e w'=>e= .returned (.tuple #[])∧(WB B b (bs++Lib.byteCells (quoteS s).1.data.toList) w'∧Below B w w'∧KeepsT 161 w w'):=by
 have hq:=quote_any s w hE hs
 generalize hQ:quoteS s=Q at*
 clear hQ hs
 obtain ⟨q,e⟩:=Q
 have HQ:=gd hq
 clear hq
 go_enter Tryz.func147,Tryz.ntmps147
 go_wp2_with (first|(go_at_call 180;refine HQ.out.mono ?_;rintro e w1 ⟨rfl,hx1⟩;(have hB1:=builder_ext hB hx1);(have hBw1:=Nat.le_trans hBw hx1.size))|(go_at_call 145;refine (Builder_WriteString_k bt_writer _ _ _ _ _ hB1 hl hBw1).mono ?_;rintro e w2 ⟨rfl,hB2,hx2,hk2⟩))
 ((try simp only[Exit.inBlock,Exit.then]);refine bodyPost_end (results_none rfl _ _ _) rfl ?_)
 exact ⟨rfl,Or.inr hB2,(Below.mono hx1 hBw).trans hx2,fun k cs t fr h h1 h2=>hk2 k cs t fr (hx1.heap h) h1 h2⟩
theorem jstr_any (s:ByteArray) (B b:Nat) (bs:List Value) (w:World) (hE:Env w) (hs:s.size≤16777216) (hB:WB B b bs w) (hBw:B≤w.heap.size) (hl:bs.length+(quoteS s).1.size≤140737488355328):
 Calls Tryz.prog 147 #[.pointer (some ⟨b,0,none⟩),.string s] w fun e w'=>e= .returned (.tuple #[])∧(WB B b (bs++Lib.byteCells (quoteS s).1.data.toList) w'∧Below B w w'):=
 (jstr_k s B b bs w hE hs hB hBw hl).mono fun _ _ ⟨h1,h2,h3,_⟩=>⟨h1,h2,h3⟩
theorem jtext_null:jtext .null= [110,117,108,108]:=by simp[jtext]
theorem jtext_bool (b:Bool):jtext (.bool b)=if b then [116,114,117,101] else [102,97,108,115,101]:=by simp[jtext]
theorem jtext_int (n:Int):jtext (.int n)=Lib.itoa n:=by simp[jtext]
theorem jtext_str (s:ByteArray):jtext (.str s)=quoteL s.data.toList:=by simp[jtext]
theorem formatBool_any (x:Bool) (w:World):Calls Tryz.prog 146 #[.bool x] w fun e w'=>e= .returned (.string (str (jtext (.bool x))))∧w'=w:=by
 have hin:Calls Tryz.prog 179 #[.bool x] w fun e w'=>e= .returned (.string (str (jtext (.bool x))))∧w'=w:=by
  go_enter Tryz.func179,Tryz.ntmps179
  cases x
  ·go_wp2
   go_ret
   exact ⟨by rw[jtext_bool];rfl,rfl⟩
  ·go_wp2
   go_ret
   exact ⟨by rw[jtext_bool];rfl,rfl⟩
 go_enter Tryz.func146,Tryz.ntmps146
 go_wp2_with (go_at_call 179;refine hin.mono ?_;rintro e w1 ⟨rfl,rfl⟩)
 go_ret
 exact ⟨rfl,rfl⟩
def ValueSaid (n:Nat):Prop:=∀(j:JV) (cs:List Value) (w0 w:World) (B b:Nat) (bs:List Value) (d:Nat),RVn n w0 j cs→jok j→jvalid j d=true→Env w0→Ext w0 w→w0.heap.size≤B→
 WB B b bs w→B≤w.heap.size→bs.length+(jtext j).length≤140737488355328→
 Calls Tryz.prog 104 #[.pointer (some ⟨b,0,none⟩),.agg cs.toArray] w fun e w'=>e= .returned (.tuple #[])∧(WB B b (bs++Lib.byteCells (jtext j)) w'∧Below B w w')
theorem value_leaf (n:Nat) (j:JV) (cs:List Value) (w0 w:World) (B b:Nat) (bs:List Value) (d:Nat) (hrv:RVn n w0 j cs) (hok:jok j) (hv:jvalid j d=true) (hE:Env w0) (hx:Ext w0 w) (h0:w0.heap.size≤B)
 (hB:WB B b bs w) (hBw:B≤w.heap.size) (hl:bs.length+(jtext j).length≤140737488355328) (hj:∀l,j≠ .arr l) (hj2:∀ks vs,j≠ .obj ks vs):
 Calls Tryz.prog 104 #[.pointer (some ⟨b,0,none⟩),.agg cs.toArray] w fun e w'=>e= .returned (.tuple #[])∧(WB B b (bs++Lib.byteCells (jtext j)) w'∧Below B w w'):=by
 have hEw:=hE.ext hx
 cases n with
 |zero=>exact hrv.elim
 |succ n=>
  obtain ⟨a,hrv⟩:=hrv
  have HB1:=fun o=>builder_ext hB ((Ext.refl w).alloc o)
  have hBw1:∀o,B≤(w.alloc o).heap.size:=fun o=>Nat.le_trans hBw ((Ext.refl w).alloc o).size
  have hbel:∀o,Below B w (w.alloc o):=fun o=>Below.mono ((Ext.refl w).alloc o) hBw
  cases j with
  |arr l=>exact absurd rfl (hj l)
  |obj ks vs=>exact absurd rfl (hj2 ks vs)
  |null=>
   subst hrv
   rw[jtext_null] at*
   unfold vcells
   go_enter Tryz.func104,Tryz.ntmps104
   go_wp2_with (go_at_call 145;refine (builderWriteString_t bt_writer _ _ _ _ _ (HB1 _) (by exact hl) (hBw1 _)).mono ?_;rintro e w2 ⟨rfl,hB2,hx2⟩)
   ((try simp only[Exit.inBlock,Exit.then]);refine bodyPost_end (results_none rfl _ _ _) rfl ?_)
   exact ⟨rfl,hB2,(hbel _).trans hx2⟩
  |bool x=>
   subst hrv
   unfold vcells
   have HF:=gd (formatBool_any x)
   generalize jtext (.bool x)=tx at*
   clear hok hv
   go_enter Tryz.func104,Tryz.ntmps104
   go_wp2_with fail
   go_region_with (first|(go_at_call 146;refine (HF.out _).mono ?_;rintro e w1 ⟨rfl,rfl⟩)|(go_at_call 145;refine (builderWriteString_t bt_writer _ _ _ _ _ (builder_ext hB ((Ext.refl w).alloc _).drew) (by exact hl) (hBw1 _)).mono ?_;rintro e w2 ⟨rfl,hB2,hx2⟩))
   all_goals ((try simp only[Exit.inBlock]);refine bodyPost_end (results_none rfl _ _ _) rfl ?_)
   all_goals exact ⟨rfl,hB2,(hbel _).drew.trans hx2⟩
  |int x=>
   subst hrv
   unfold vcells
   have HF:=gd (fun w' hE'=>formatInt_any x w' hE' (by simpa [jok,i64ok] using hok))
   rw[jtext_int] at*
   have hit:itoaS x=str (Lib.itoa x):=rfl
   rw[hit] at HF
   clear hit
   generalize Lib.itoa x=tx at*
   clear hok hv
   go_enter Tryz.func104,Tryz.ntmps104
   go_wp2_with fail
   go_region_with (first|(go_at_call 72;refine (HF.out _ (hEw.alloc _).drew).mono ?_;rintro e w1 ⟨rfl,hx1⟩)|(go_at_call 145;refine (builderWriteString_t bt_writer _ _ _ _ _ (builder_ext hB (((Ext.refl w).alloc _).drew.trans hx1)) (by exact hl) (Nat.le_trans (hBw1 _) hx1.size)).mono ?_;rintro e w2 ⟨rfl,hB2,hx2⟩))
   all_goals ((try simp only[Exit.inBlock]);refine bodyPost_end (results_none rfl _ _ _) rfl ?_)
   all_goals exact ⟨rfl,hB2,(hbel _).drew.trans ((Below.mono hx1 (hBw1 _)).trans hx2)⟩
  |str s=>
   subst hrv
   unfold vcells
   have hQ:quoteS s=(str (jtext (.str s)),0):=by
    unfold quoteS
    rw[jtext_str,if_pos]
    rw[jvalid] at hv
    simp at hv
    exact hv.2
   have hstr:=fun w' hE' hB' hBw'=>jstr_any s B b bs w' hE' (by simpa [jok] using hok) hB' hBw' (by rw[hQ];exact hl)
   rw[hQ] at hstr
   have HS:=gd hstr
   clear hstr hQ hok hv hl
   go_enter Tryz.func104,Tryz.ntmps104
   go_wp2_with (go_at_call 147;refine (HS.out _ (hEw.alloc _) (HB1 _) (hBw1 _)).mono ?_;rintro e w2 ⟨rfl,hB2,hx2⟩)
   ((try simp only[Exit.inBlock,Exit.then]);refine bodyPost_end (results_none rfl _ _ _) rfl ?_)
   exact ⟨rfl,hB2,(hbel _).trans hx2⟩
theorem cell44: [Value.int IntKind.u8 44]=Lib.byteCells [44]:=rfl
theorem cell93: [Value.int IntKind.u8 93]=Lib.byteCells [93]:=rfl
theorem commas_take (L:List (List UInt8)) (k:Nat) (h:k<L.length):commas (L.take (k+1))=(if k=0 then [] else commas (L.take k)++ [44])++L[k]:=by
 rw[List.take_succ_eq_append_getElem h,commas_snoc]
 by_cases hk:k=0
 ·subst hk;simp
 ·have:L.take k≠ []:=by
   intro h'
   have:=congrArg List.length h'
   rw[List.length_take] at this
   simp at this
   rcases this with h|h
   ·exact hk h
   ·subst h;simp at*
  rw[if_neg this,if_neg hk]
  simp
theorem commas_le (L:List (List UInt8)):∀k,k≤L.length→(commas (L.take k)).length≤(commas L).length:=by
 have step:∀k,k<L.length→(commas (L.take k)).length≤(commas (L.take (k+1))).length:=by
  intro k hk
  rw[commas_take L k hk]
  by_cases h0:k=0
  ·subst h0;simp[commas]
  ·rw[if_neg h0];simp only[List.length_append];omega
 have all:∀n k,k+n=L.length→(commas (L.take k)).length≤(commas L).length:=by
  intro n
  induction n with
  |zero=>intro k hk;rw[List.take_of_length_le (by omega)];exact Nat.le_refl _
  |succ n ih=>intro k hk;exact Nat.le_trans (step k (by omega)) (ih (k+1) (by omega))
 intro k hk
 exact all (L.length - k) k (by omega)
theorem join_arr (n:Nat) (ih:ValueSaid n) (l:List JV) (A:Option Addr) (c:Nat) (css:List (List Value)) (w0 w:World) (B b:Nat) (bs:List Value) (d:Nat) (hcl:css.length=l.length)
 (hr:RSl w0 7 (.slice A l.length c) l.length css.flatten) (hel:∀(i:Nat) (j:JV) (c:List Value),l[i]? =some j→css[i]? =some c→RVn n w0 j c) (hok:∀j∈l,jok j) (hv:∀j∈l,jvalid j d=true) (hE:Env w0) (hx:Ext w0 w) (h0:w0.heap.size≤B)
 (hB:WB B b bs w) (hBw:B≤w.heap.size) (hl:bs.length+(commas (l.map jtext)).length+2≤140737488355328):
 Calls Tryz.prog 148 #[.pointer (some ⟨b,0,none⟩),.int .u8 91,.int .u8 93,.slice A l.length c,.func (.func 104) #[.pointer (some ⟨b,0,none⟩)] #[]] w
  fun e w'=>e= .returned (.tuple #[])∧(WB B b (bs++Lib.byteCells (91::(commas (l.map jtext)++ [93]))) w'∧Below B w w'):=by
 obtain ⟨_,A',c',hAc,hmc,hcm,_,_⟩:=id hr
 injection hAc with h1 h2 h3
 subst h1 h3
 have hln:∀c∈css,c.length=7:=by
  intro c hc
  obtain ⟨i,hi,rfl⟩:=List.mem_iff_getElem.1 hc
  exact (hel i l[i] css[i] (List.getElem?_eq_getElem (by omega)) (List.getElem?_eq_getElem hi)).len
 have HLN:=gd hln
 have HIH:=gd ih
 have HEL:=gd hel
 have HOK:=gd hok
 have HV:=gd hv
 have HL:=gd hl
 have hcs:∀k,k≤(l.map jtext).length→bs.length+(commas ((l.map jtext).take k)).length+2≤140737488355328:=fun k hk=>by have:=commas_le _ k hk;omega
 have HCS:=gd hcs
 clear hln ih hel hok hv hcs hl
 go_enter Tryz.func148,Tryz.ntmps148
 go_wp2_with (go_at_call 69;refine (builderWriteByte_t bt_writer _ _ _ _ _ hB (by have:=HL.out;omega) hBw).mono ?_;rintro e w1 ⟨rfl,hB1,hx1⟩)
 go_loopw [19] (fun i wr=>∃k:Nat,k≤l.length∧i= .int .i64 k∧WB B b (bs++Lib.byteCells (91::commas ((l.map jtext).take k))) wr∧Below B w wr) (fun i _=>l.length - (intOf i).toNat)
 case atStart=>exact ⟨0,Nat.zero_le _,rfl,hB1,hx1⟩
 case round=>
  obtain ⟨k,hk,rfl,hBk,hxk⟩:=hrel
  have hxw:Ext w0 wr:=hx.then (Below.mono hxk h0)
  have hBs:=Nat.le_trans hBw hxk.size
  by_cases hlt:k<l.length
  ·have hck:k<css.length:=by omega
   have hRV:=HEL.out k l[k] css[k] (List.getElem?_eq_getElem hlt) (List.getElem?_eq_getElem hck)
   obtain ⟨ad,cap,hA,hcells⟩:=RSl.elem (hr.ext hxw) (by omega) HLN.out k css[k] (List.getElem?_eq_getElem hck)
   injection hA with hA1 hA2 hA3
   subst hA1
   clear hA2 hA3
   rw[Nat.mul_comm] at hcells
   obtain ⟨x0,x1,x2,x3,x4,x5,x6,y4,y5,y6,x7,hc⟩:=hRV.shape
   rw[hc] at hcells
   have hc0:=hcells 0 _ rfl
   have hc1:=hcells 1 _ rfl
   have hc2:=hcells 2 _ rfl
   have hc3:=hcells 3 _ rfl
   have hc4:=hcells 4 _ rfl
   have hc5:=hcells 5 _ rfl
   have hc6:=hcells 6 _ rfl
   rw[add_zero] at hc0
   have hadd:∀i,0<i→(ad.add (k*7)).add i=⟨(ad.add (k*7)).block,(ad.add (k*7)).off+i,none⟩:=fun i hi=>if_neg (by omega)
   rw[hadd _ (by omega)] at hc1 hc2 hc3 hc4 hc5 hc6
   clear hadd
   rw[hc] at hRV
   clear hcells
   have hw1:wrap64 ((k:Int)+1)=((k+1:Nat):Int):=by rw[maxLen] at hcm;rw[wrap_ok _ ⟨by omega,by omega⟩];rfl
   have HRV:=gd hRV
   have hok1:=HOK.out l[k] (List.getElem_mem _)
   have hv1:=HV.out l[k] (List.getElem_mem _)
   have hct:=commas_take (l.map jtext) k (by simpa using hlt)
   have hcl1:=HCS.out (k+1) (by rw[List.length_map];exact hlt)
   rw[List.getElem_map] at hct
   rw[hct] at hcl1
   clear hRV
   have HC1:=gd hcl1
   have HCT:=gd hct
   have HOK1:=gd hok1
   have HV1:=gd hv1
   have hxa:∀o,Ext wr (wr.alloc o):=fun o=>(Ext.refl wr).alloc o
   have hba:∀o,Below B wr (wr.alloc o):=fun o=>Below.mono (hxa o) hBs
   have hBa:∀o,B≤(wr.alloc o).heap.size:=fun o=>Nat.le_trans hBs (hxa o).size
   clear hct hcl1 hok1 hv1
   have hms:l.length - (intOf (Value.int IntKind.i64 (wrap64 ((k:Int)+1)))).toNat<l.length - (intOf (Value.int IntKind.i64 (k:Int))).toNat:=by
    rw[hw1]
    exact Nat.sub_lt_sub_left hlt (Nat.lt_succ_self k)
   have hwe:=congrArg (Value.int .i64) hw1
   have hk1:k+1≤l.length:=hlt
   rcases Nat.eq_zero_or_pos k with hk0|hk0
   ·have hd0:decide (0<k)=false:=decide_eq_false (by rw[hk0];exact Nat.lt_irrefl 0)
    have hct0:commas (List.take (k+1) (List.map jtext l))=jtext l[k]:=by rw[HCT.out,if_pos hk0];rfl
    have hct1:commas (List.take k (List.map jtext l))= []:=by
     have:∀m,m=0→commas (List.take m (List.map jtext l))= []:=by rintro m rfl;rfl
     exact this k hk0
    have hcb:bs.length+(jtext l[k]).length+2≤140737488355328:=by have:=HC1.out;rw[if_pos hk0] at this;exact this
    have hcv:Hid ((bs++Lib.byteCells (91::commas (List.take k (List.map jtext l)))).length+(jtext l[k]).length≤140737488355328):=by
     unfold Hid
     rw[hct1,List.length_append,byteCells_len]
     simp only[List.length_cons,List.length_nil]
     omega
    have HCB:=gd hcv
    have HC0:=gd hct0
    have HC2:=gd hct1
    clear hk0 hct0 hct1 hcb
    go_wp2_with (go_at_call 104;refine (HIH.out l[k] _ w0 _ B b _ d HRV.out HOK1.out HV1.out hE (hxw.alloc _) h0 (builder_ext hBk (hxa _)) (hBa _) hcv.out).mono ?_;rintro e w2 ⟨rfl,hB2,hx2⟩)
    have hfin:WB B b (bs++Lib.byteCells (91::commas ((l.map jtext).take (k+1)))) w2:=by
     rw[HC0.out]
     have h2:=hB2
     rw[HC2.out,List.append_assoc,←byteCells_app] at h2
     exact h2
    have hxf:=hxk.trans ((hba _).trans hx2)
    go_roundw
    case rel=>exact ⟨k+1,hk1,hwe,hfin,hxf⟩
    case measure=>exact hms
   ·have hd0:decide (0<k)=true:=decide_eq_true hk0
    have hne:k≠0:=Nat.pos_iff_ne_zero.1 hk0
    have hct0:commas (List.take (k+1) (List.map jtext l))=commas (List.take k (List.map jtext l))++ [44]++jtext l[k]:=by rw[HCT.out,if_neg hne]
    have hcb:bs.length+(commas (List.take k (List.map jtext l))++ [44]++jtext l[k]).length+2≤140737488355328:=by have:=HC1.out;rw[if_neg hne] at this;exact this
    rw[List.length_append,List.length_append] at hcb
    simp only[List.length_cons,List.length_nil] at hcb
    have hcv:Hid ((bs++Lib.byteCells (91::commas (List.take k (List.map jtext l)))++ [Value.int .u8 44]).length+(jtext l[k]).length≤140737488355328):=by
     unfold Hid
     rw[List.length_append,List.length_append,byteCells_len]
     simp only[List.length_cons,List.length_nil]
     omega
    have hcu:Hid ((bs++Lib.byteCells (91::commas (List.take k (List.map jtext l)))).length+1≤140737488355328):=by
     unfold Hid
     rw[List.length_append,byteCells_len]
     simp only[List.length_cons]
     omega
    have HC0:=gd hct0
    clear hk0 hct0 hcb hne
    go_wp2_with (first|(go_at_call 69;refine (Builder_WriteByte_k bt_writer _ _ _ _ _ (builder_ext hBk (hxa _)) hcu.out (hBa _)).mono ?_;rintro e w2 ⟨rfl,hB2,hx2,hks⟩;(have hbs2:=Nat.le_trans (hBa _) hx2.size);(have hk2:=hks _ _ _ _ (heap_alloc_new wr _) (by decide) (by decide));(have hy0:=(cell_of_row _ _ 0 _ _ _ hk2));(have hy1:=(cell_of_row _ _ 1 _ _ _ hk2));(have hy2:=(cell_of_row _ _ 2 _ _ _ hk2));(have hy3:=(cell_of_row _ _ 3 _ _ _ hk2));(have hy4:=(cell_of_row _ _ 4 _ _ _ hk2));(have hy5:=(cell_of_row _ _ 5 _ _ _ hk2));(have hy6:=(cell_of_row _ _ 6 _ _ _ hk2)))|(go_at_call 104;refine (HIH.out l[k] _ w0 _ B b _ d HRV.out HOK1.out HV1.out hE (hx.then (Below.mono (hxk.trans ((hba _).trans hx2)) h0)) h0 (Or.inr hB2) hbs2 hcv.out).mono ?_;rintro e w3 ⟨rfl,hB3,hx3⟩))
    have hfin:WB B b (bs++Lib.byteCells (91::commas ((l.map jtext).take (k+1)))) w3:=by
     rw[HC0.out]
     have h2:=hB3
     rw[List.append_assoc,List.append_assoc,cell44,←byteCells_app,←byteCells_app] at h2
     simpa using h2
    have hxf:=hxk.trans ((hba _).trans (hx2.trans hx3))
    go_roundw
    case rel=>exact ⟨k+1,hk1,hwe,hfin,hxf⟩
    case measure=>exact hms
  ·have hke:(l.map jtext).take k=l.map jtext:=List.take_of_length_le (by rw[List.length_map];exact Nat.not_lt.1 hlt)
   rw[hke] at hBk
   have hcu:Hid ((bs++Lib.byteCells (91::commas (l.map jtext))).length+1≤140737488355328):=by
    unfold Hid
    rw[List.length_append,byteCells_len]
    have:=HL.out
    simp only[List.length_cons]
    omega
   clear HCS HL hke
   go_wp2_with (go_at_call 69;refine (builderWriteByte_t bt_writer _ _ _ _ _ hBk hcu.out hBs).mono ?_;rintro e w2 ⟨rfl,hB2,hx2⟩)
   ((try simp only[Exit.inBlock,Exit.then]);refine bodyPost_end (results_none rfl _ _ _) rfl ?_)
   refine ⟨rfl,?_,hxk.trans hx2⟩
   rw[cell93,List.append_assoc,←byteCells_app] at hB2
   exact hB2
theorem value_arr (n:Nat) (ih:ValueSaid n) (l:List JV) (cs:List Value) (w0 w:World) (B b:Nat) (bs:List Value) (d:Nat) (hrv:RVn (n+1) w0 (.arr l) cs) (hok:jok (.arr l)) (hv:jvalid (.arr l) d=true) (hE:Env w0) (hx:Ext w0 w) (h0:w0.heap.size≤B)
 (hB:WB B b bs w) (hBw:B≤w.heap.size) (hl:bs.length+(jtext (.arr l)).length≤140737488355328):
 Calls Tryz.prog 104 #[.pointer (some ⟨b,0,none⟩),.agg cs.toArray] w fun e w'=>e= .returned (.tuple #[])∧(WB B b (bs++Lib.byteCells (jtext (.arr l))) w'∧Below B w w'):=by
 obtain ⟨a,v,css,rfl,hcl,hr,hel⟩:=hrv
 obtain ⟨_,A,c,rfl,hmc,hcm,_,_⟩:=id hr
 rw[jok_arr] at hok
 rw[jvalid_arr] at hv
 rw[jtext_arr] at hl⊢
 simp only[Bool.and_eq_true,List.all_eq_true] at hv
 have hl':bs.length+(commas (l.map jtext)).length+2≤140737488355328:=by
  simp only[List.length_cons,List.length_append,List.length_nil] at hl
  omega
 have HJ:=gd (fun w' (hx':Ext w0 w') hB' hBw'=>join_arr n ih l A c css w0 w' B b bs (d+1) hcl hr hel hok hv.2 hE hx' h0 hB' hBw' hl')
 have hbel:∀o,Below B w (w.alloc o):=fun o=>Below.mono ((Ext.refl w).alloc o) hBw
 clear hok hv hel hl hl' ih
 unfold vcells
 go_enter Tryz.func104,Tryz.ntmps104
 go_wp2_with (go_at_call 148;refine (HJ.out _ (hx.alloc _) (builder_ext hB ((Ext.refl w).alloc _)) (Nat.le_trans hBw ((Ext.refl w).alloc _).size)).mono ?_;rintro e w2 ⟨rfl,hB2,hx2⟩)
 ((try simp only[Exit.inBlock,Exit.then]);refine bodyPost_end (results_none rfl _ _ _) rfl ?_)
 exact ⟨rfl,hB2,(hbel _).trans hx2⟩
end Go.Proofs.YthlnaldahkgjnaaGreatDoor
