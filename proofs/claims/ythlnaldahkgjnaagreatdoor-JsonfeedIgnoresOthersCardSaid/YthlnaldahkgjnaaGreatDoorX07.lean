/- Parts of the proof: contracts and plain laws. -/
import Derived.Test.YthlnaldahkgjnaaGreatDoorV01
import Derived.Test.YthlnaldahkgjnaaGreatDoorV02
import Derived.Test.YthlnaldahkgjnaaGreatDoorV03
import Derived.Test.YthlnaldahkgjnaaGreatDoorV04
import Derived.Test.YthlnaldahkgjnaaGreatDoorV05
import Derived.Test.YthlnaldahkgjnaaGreatDoorV06
import Derived.Test.YthlnaldahkgjnaaGreatDoorV07
import Derived.Test.YthlnaldahkgjnaaGreatDoorV08
import Derived.Test.YthlnaldahkgjnaaGreatDoorV09
import Derived.Test.YthlnaldahkgjnaaGreatDoorV10
import Derived.Test.YthlnaldahkgjnaaGreatDoorV11
import Derived.Test.YthlnaldahkgjnaaGreatDoorV12
import Derived.Test.YthlnaldahkgjnaaGreatDoorV13
import Derived.Test.YthlnaldahkgjnaaGreatDoorV14
import Derived.Test.YthlnaldahkgjnaaGreatDoorV15
import Derived.Test.YthlnaldahkgjnaaGreatDoorV16
import Derived.Test.YthlnaldahkgjnaaGreatDoorV17
import Derived.Test.YthlnaldahkgjnaaGreatDoorV18
import Derived.Test.YthlnaldahkgjnaaGreatDoorV19
import Derived.Test.YthlnaldahkgjnaaGreatDoorV20
import Derived.Test.YthlnaldahkgjnaaGreatDoorV31
import Derived.Test.YthlnaldahkgjnaaGreatDoorX01
import Derived.Test.YthlnaldahkgjnaaGreatDoorX06
namespace Go.Proofs.YthlnaldahkgjnaaGreatDoor
open Go Go.RowKit Go.ChangeShapes Go.WideShapes Go.ChangeAt Go.Joins Go.Deep
set_option linter.unusedVariables false
set_option linter.unusedSimpArgs false
set_option maxRecDepth 100000
set_option maxHeartbeats 16000000
section
set_option linter.unusedSimpArgs false
theorem oth_none (s:ByteArray) (k:Int) (w:World) (hE:Env w) (hs:s.size≤reachBytes) (hj:docJ s=none):
 Calls Tryz.prog 9 #[.string s,.int .u8 k] w fun e w'=>e= .returned (.bool true)∧Ext w w':=by
 have HAL:=gd (fun (W':World) (h:Ext w W')=>alive18_any W' (hE.ext h))
 have HPS:=gd (parsed_any s w hs)
 rw[hj] at HPS
 clear hj
 go_enter Tryz.func9,Tryz.ntmps9
 go_wp2_with (first|(refine wpList_store_row rfl 25 (.tmp 5) (.tmp 21) rfl w2.heap.size #[.int .i64 0,.bool false,.int .i64 0,.string ⟨#[]⟩,.slice none 0 0,.slice none 0 0,.int .i64 0] rfl rfl _ _ hk2 size_valJ rfl oneJ ?_;rw[hs2])|(go_at_call 11;(have hz:=HAL.out _ hy2);(with_reducible refine Calls.mono hz ?_);clear hz;rintro e w3 ⟨rfl,hx3⟩;(have hy3:=hy2.trans hx3))|(go_at_call 10;(have hz:=HPS.out);(with_reducible refine Calls.mono hz ?_);clear hz;rintro e w2 ⟨rfl,hx2⟩;(obtain ⟨W2,hW2⟩:∃W0,w2.alloc (.cells #[.int .i64 0,.bool false,.int .i64 0,.string ⟨#[]⟩,.slice none 0 0,.slice none 0 0,.int .i64 0] 25)=W0:=⟨_,rfl⟩);(have hv2:Ext w2 W2:=by rw[←hW2];exact (Ext.refl _).alloc _);(have hb2:∀i v,(#[.int .i64 0,.bool false,.int .i64 0,.string ⟨#[]⟩,.slice none 0 0,.slice none 0 0,.int .i64 0]:Array Value)[i]? =some v→W2.cell? ⟨w2.heap.size,i,none⟩=some v:=fun i v h=>by rw[←hW2];exact (Ext.refl (w2.alloc _)).boxed i v h);(have HB2:Hid (∀W':World,Ext W2 W'→W'.cell? ⟨w2.heap.size,0,none⟩=some (.int .i64 0)∧W'.cell? ⟨w2.heap.size,1,none⟩=some (.bool false)∧W'.cell? ⟨w2.heap.size,2,none⟩=some (.int .i64 0)∧W'.cell? ⟨w2.heap.size,3,none⟩=some (.string ⟨#[]⟩)∧W'.cell? ⟨w2.heap.size,4,none⟩=some (.slice none 0 0)∧W'.cell? ⟨w2.heap.size,5,none⟩=some (.slice none 0 0)∧W'.cell? ⟨w2.heap.size,6,none⟩=some (.int .i64 0)):=gd fun W' h=>⟨h.cell (hb2 0 _ rfl),h.cell (hb2 1 _ rfl),h.cell (hb2 2 _ rfl),h.cell (hb2 3 _ rfl),h.cell (hb2 4 _ rfl),h.cell (hb2 5 _ rfl),h.cell (hb2 6 _ rfl)⟩);clear hb2;(have hs2:=hx2.trans hv2);(have hy2:=(Ext.refl w).trans hs2);(obtain ⟨q1_0_0,q1_0_1,q1_0_2,q1_0_3,q1_0_4,q1_0_5,q1_0_6⟩:=HB2.out _ (Ext.refl W2));(have hs2:W2.setRow w2.heap.size #[.int .i64 0,.bool false,.int .i64 0,.string ⟨#[]⟩,.slice none 0 0,.slice none 0 0,.int .i64 0]=W2:=by rw[←hW2,setRow_new18]);(have hk2:W2.heap[w2.heap.size]? =some (.cells #[.int .i64 0,.bool false,.int .i64 0,.string ⟨#[]⟩,.slice none 0 0,.slice none 0 0,.int .i64 0] 25 (0,0)):=by rw[←hW2];exact heap_alloc_new w2 _)))
 go_ret
 exact ⟨rfl,hy3⟩
theorem oth_kind (s:ByteArray) (k:Int) (w:World) (hE:Env w) (hs:s.size≤reachBytes) (o:JO) (hj:docJ s=some o) (h5:kindJ o≠5):
 Calls Tryz.prog 9 #[.string s,.int .u8 k] w fun e w'=>e= .returned (.bool true)∧Ext w w':=by
 have HAL:=gd (fun (W':World) (h:Ext w W')=>alive18_any W' (hE.ext h))
 have hps:=parsed_any s w hs
 rw[hj] at hps
 have HPS:Hid (Calls Tryz.prog 10 #[.string s] w fun e w'=>(∃K Bb Nn Ss A p c C q d At,e= .returned (.tuple #[.agg #[.int .i64 (K:Nat),.bool Bb,.int .i64 Nn,.string Ss,.slice A p c,.slice C q d,.int .i64 (At:Nat)],.int .i64 1])∧((K:Int) !=5)=true)∧Ext w w'):=gd (hps.mono fun e w' ⟨h1,h2⟩=>by
  obtain ⟨A,p,c,C,q,d,m,rfl, -⟩:=h1
  exact ⟨⟨_,_,_,_,A,p,c,C,q,d,_,rfl,by simp;omega⟩,h2⟩)
 clear hj hps h5
 go_enter Tryz.func9,Tryz.ntmps9
 go_wp2_with (first|(go_at_call 11;(have hz:=HAL.out _ hy2);(with_reducible refine Calls.mono hz ?_);clear hz;rintro e w3 ⟨rfl,hx3⟩;(have hy3:=hy2.trans hx3))|(go_at_call 10;(have hz:=HPS.out);(with_reducible refine Calls.mono hz ?_);clear hz;rintro e w2 ⟨⟨K,Bb,Nn,Ss,A,p,c,C,q,d,At,rfl,hne⟩,hx2⟩;(obtain ⟨W2,hW2⟩:∃W0,w2.alloc (.cells #[.int .i64 (K:Nat),.bool Bb,.int .i64 Nn,.string Ss,.slice A p c,.slice C q d,.int .i64 (At:Nat)] 25)=W0:=⟨_,rfl⟩);(have hv2:Ext w2 W2:=by rw[←hW2];exact (Ext.refl _).alloc _);(have hb2:∀i v,(#[.int .i64 (K:Nat),.bool Bb,.int .i64 Nn,.string Ss,.slice A p c,.slice C q d,.int .i64 (At:Nat)]:Array Value)[i]? =some v→W2.cell? ⟨w2.heap.size,i,none⟩=some v:=fun i v h=>by rw[←hW2];exact (Ext.refl (w2.alloc _)).boxed i v h);(have HB2:Hid (∀W':World,Ext W2 W'→W'.cell? ⟨w2.heap.size,0,none⟩=some (.int .i64 (K:Nat))∧W'.cell? ⟨w2.heap.size,1,none⟩=some (.bool Bb)∧W'.cell? ⟨w2.heap.size,2,none⟩=some (.int .i64 Nn)∧W'.cell? ⟨w2.heap.size,3,none⟩=some (.string Ss)∧W'.cell? ⟨w2.heap.size,4,none⟩=some (.slice A p c)∧W'.cell? ⟨w2.heap.size,5,none⟩=some (.slice C q d)∧W'.cell? ⟨w2.heap.size,6,none⟩=some (.int .i64 (At:Nat))):=gd fun W' h=>⟨h.cell (hb2 0 _ rfl),h.cell (hb2 1 _ rfl),h.cell (hb2 2 _ rfl),h.cell (hb2 3 _ rfl),h.cell (hb2 4 _ rfl),h.cell (hb2 5 _ rfl),h.cell (hb2 6 _ rfl)⟩);clear hb2;(have hs2:=hx2.trans hv2);(have hy2:=(Ext.refl w).trans hs2);(obtain ⟨q1_0_0,q1_0_1,q1_0_2,q1_0_3,q1_0_4,q1_0_5,q1_0_6⟩:=HB2.out _ (Ext.refl W2))))
 go_ret
 exact ⟨rfl,hy3⟩
theorem oth_obj (s:ByteArray) (k:Int) (w:World) (hE:Env w) (hs:s.size≤reachBytes) (hk8:0≤k∧k≤255) (a:Nat) (ks:List (ByteArray×Nat)) (vs:List JO) (hj:docJ s=some (.obj a ks vs)):
 Calls Tryz.prog 9 #[.string s,.int .u8 k] w fun e w'=>e= .returned (.bool true)∧Ext w w':=by
 have HAL:=gd (fun (W':World) (h:Ext w W')=>alive18_any W' (hE.ext h))
 have hps:=parsed_any s w hs
 rw[hj] at hps
 have hs5:s.size≤5000∧jsonP s.data.toList=some (.obj a ks vs):=by
  unfold docJ at hj
  split at hj
  ·cases hj
  ·exact ⟨by omega,hj⟩
 have hgd:=jsonP_ok hs5.2
 rw[data_len] at hgd
 have hnd:=jsonP_nodup hs5.2
 have hkv:ks.length=vs.length∧vs.length≤5000:=by rw[jgood] at hgd;exact ⟨hgd.2.1,by have:=hgd.2.2.1;omega⟩
 have hnz:=keys_nodup hnd hkv.1
 have hoz:JO.obj a ks vs=objZ a (ks.zip vs):=obj_zip hkv.1
 obtain ⟨z,hz⟩:∃z,ks.zip vs=z:=⟨_,rfl⟩
 have HPS:Hid (Calls Tryz.prog 10 #[.string s] w fun e w'=>(∃C d ms n,e= .returned (.tuple #[.agg #[.int .i64 5,.bool false,.int .i64 0,.string ⟨#[]⟩,.slice none 0 0,.slice C (List.length (α:=Mm) ms) d,.int .i64 (a:Nat)],.int .i64 1])∧RSl w' 9 (.slice C ms.length d) ms.length (ms.map mcell).flatten∧AllM (relM n w') ms z∧ms.length≤5000)∧Ext w w'):=gd (hps.mono fun e w' ⟨h1,h2⟩=>by
  obtain ⟨C,d,ms,n,e1,e2,e3,e4⟩:=parsed_obj h1
  rw[hz] at e3
  exact ⟨⟨C,d,ms,n,e1,e2,e3,by omega⟩,h2⟩)
 rw[hz] at hnz hoz
 rw[hoz] at hgd
 have HGT:=gd (fun (W':World) (cs:List Value) (hr:RJ W' (objZ a z) cs)=>refGet_any (objZ a z) cs nX W' W' hr (Ext.refl _))
 cases hgx:getJ (objZ a z) nX with
 |some x=>
  rw[hgx] at HGT
  clear hgd hs5 hps hj hz hgx hnd hkv hnz hoz
  go_enter Tryz.func9,Tryz.ntmps9
  go_wp2_with (first|(go_at_call 25;(have hz:=HCT.out);(with_reducible refine Calls.mono hz ?_);clear hz;rintro e w6 ⟨v6,rfl,hown6,hx6⟩;(obtain ⟨Q,hQ⟩:∃Q,Q=newM::ms:=⟨_,rfl⟩);(have hcq:catMm [((.slice (some ⟨W3.heap.size,0,none⟩) 1 1:Value),[newM]),((.slice C ms.length d:Value),ms)]=Q:=by rw[hQ];unfold catMm;simp);(rw[hcq] at hown6);(have hq1:0<Q.length∧Q.length≤5001:=by rw[hQ,List.length_cons];omega);(have HQ:=gd hQ);(obtain ⟨A6,c6,rfl⟩:=ownJ_form hown6);(have hk6:=hx6.heap HB5.out);(have fz6:=Lib.frozen_of_heap hk6 5);(have fc6:=cell_of_row _ _ 5 _ _ _ hk6);(obtain ⟨W7,hW7⟩:∃W7,w6.setCell ⟨W2.heap.size,5,none⟩ (.slice A6 Q.length c6)=W7:=⟨_,rfl⟩);(have hb7:W7.heap[W2.heap.size]? =some (.cells (obC a (.slice A6 Q.length c6)) 25 (0,0)):=by rw[←hW7,heap_setCell_same _ _ _ _ _ _ hk6];rfl);(have hset:w6.grownBy W7 (some W2.heap.size):=by rw[←hW7];exact ⟨rfl,rfl,rfl,by simp[World.setCell],fun k _ hk=>heap_setCell_other w6 ⟨W2.heap.size,5,none⟩ k _ (fun e=>hk (by rw[e]))⟩);(have HO7:=gd (hown6.kept hset (Or.inr (own_ne_type hown6 hk6 (by decide)))));(have HX27:Hid (Ext W2 W7):=gd (by rw[←hW7];exact (HX25.out.trans hx6).setCell (p:=⟨W2.heap.size,5,none⟩) (Nat.le_refl _) _));(have HB7:=gd hb7);(have u5:=cell_of_row _ _ 5 _ _ _ hb7);(have hq2:(0:Int)<(Q.length:Int):=by omega);(obtain ⟨i,hi,hiq⟩:∃i:Nat,k % (Q.length:Int)=(i:Int)∧i<Q.length:=⟨(k % (Q.length:Int)).toNat,(Int.toNat_of_nonneg (Int.emod_nonneg _ (by omega))).symm,by have h1:=Int.emod_lt_of_pos k hq2;have h2:=Int.emod_nonneg k (show (Q.length:Int)≠0 by omega);omega⟩);clear hown6 hx6 hQ hcq hk6 hset hb7 g5)|(go_at_call 10;(have hz:=HPS.out);(with_reducible refine Calls.mono hz ?_);clear hz;rintro e w2 ⟨⟨C,d,ms,n,rfl,hrow,hall,hml⟩,hx2⟩;(obtain ⟨W2,hW2⟩:∃W0,w2.alloc (.cells #[.int .i64 5,.bool false,.int .i64 0,.string ⟨#[]⟩,.slice none 0 0,.slice C ms.length d,.int .i64 (a:Nat)] 25)=W0:=⟨_,rfl⟩);(have hv2:Ext w2 W2:=by rw[←hW2];exact (Ext.refl _).alloc _);(have hb2:∀i v,(#[.int .i64 5,.bool false,.int .i64 0,.string ⟨#[]⟩,.slice none 0 0,.slice C ms.length d,.int .i64 (a:Nat)]:Array Value)[i]? =some v→W2.cell? ⟨w2.heap.size,i,none⟩=some v:=fun i v h=>by rw[←hW2];exact (Ext.refl (w2.alloc _)).boxed i v h);(have HB2:Hid (∀W':World,Ext W2 W'→W'.cell? ⟨w2.heap.size,0,none⟩=some (.int .i64 5)∧W'.cell? ⟨w2.heap.size,1,none⟩=some (.bool false)∧W'.cell? ⟨w2.heap.size,2,none⟩=some (.int .i64 0)∧W'.cell? ⟨w2.heap.size,3,none⟩=some (.string ⟨#[]⟩)∧W'.cell? ⟨w2.heap.size,4,none⟩=some (.slice none 0 0)∧W'.cell? ⟨w2.heap.size,5,none⟩=some (.slice C ms.length d)∧W'.cell? ⟨w2.heap.size,6,none⟩=some (.int .i64 (a:Nat))):=gd fun W' h=>⟨h.cell (hb2 0 _ rfl),h.cell (hb2 1 _ rfl),h.cell (hb2 2 _ rfl),h.cell (hb2 3 _ rfl),h.cell (hb2 4 _ rfl),h.cell (hb2 5 _ rfl),h.cell (hb2 6 _ rfl)⟩);clear hb2;(have hs2:=hx2.trans hv2);(have hy2:=(Ext.refl w).trans hs2);(obtain ⟨q1_0_0,q1_0_1,q1_0_2,q1_0_3,q1_0_4,q1_0_5,q1_0_6⟩:=HB2.out _ (Ext.refl W2));(have HROW:=gd (hrow.ext hv2));(have HALL:=gd (AllM.more (hall.ext hv2)));(have HY2:=gd hy2);clear hrow hall;(obtain ⟨W3,hW3⟩:∃W3,W2.alloc (.cells #[.int .i64 5,.bool false,.int .i64 0,.string ⟨#[]⟩,.slice none 0 0,.slice C ms.length d,.int .i64 (a:Nat)] 25)=W3:=⟨_,rfl⟩);(have hx3:Ext W2 W3:=by rw[←hW3];exact (Ext.refl W2).alloc _);(have HB3:Hid (W3.heap[W2.heap.size]? =some (.cells #[.int .i64 5,.bool false,.int .i64 0,.string ⟨#[]⟩,.slice none 0 0,.slice C ms.length d,.int .i64 (a:Nat)] 25 (0,0))):=gd (by rw[←hW3];exact heap_alloc_new W2 _));(obtain ⟨W4,hW4⟩:∃W4,W3.alloc (.cells #[.string ⟨#[95,120]⟩,.int .i64 1,.bool false,.int .i64 0,.string ⟨#[]⟩,.slice none 0 0,.slice none 0 0,.int .i64 0,.int .i64 0] 56)=W4:=⟨_,rfl⟩);(have hx4:Ext W3 W4:=by rw[←hW4];exact (Ext.refl W3).alloc _);(have hn4:RSl W4 9 (.slice (some ⟨W3.heap.size,0,none⟩) 1 1) 1 ([newM].map mcell).flatten:=by rw[←hW4];exact rsl_new (cs:=mcell newM) rfl (by decide));(obtain ⟨W5,hW5⟩:∃W5,W4.alloc (.cells #[.slice (some ⟨W3.heap.size,0,none⟩) 1 1,.slice C ms.length d] 23)=W5:=⟨_,rfl⟩);(have hx5:Ext W4 W5:=by rw[←hW5];exact (Ext.refl W4).alloc _);(have HCT:=gd (concatM_any (.slice (some ⟨W4.heap.size,0,none⟩) 2 2) [((.slice (some ⟨W3.heap.size,0,none⟩) 1 1:Value),[newM]),((.slice C ms.length d:Value),ms)] W5 (by rw[←hW5];exact rsl_new (cs:= [.slice (some ⟨W3.heap.size,0,none⟩) 1 1,.slice C ms.length d]) rfl (by decide)) (by intro p hp;simp only[List.mem_cons,List.not_mem_nil,or_false] at hp;rcases hp with rfl|rfl;exact ⟨hn4.ext hx5,fun u hu=>by simp[newM,mcell,wcells] at hu;rcases hu with rfl|rfl|rfl|rfl|rfl|rfl|rfl|rfl|rfl<;>rfl⟩;exact ⟨HROW.out.ext ((hx3.trans hx4).trans hx5),HALL.out.ones⟩) (by simp) (by unfold lensMm;simp;omega)));(have HX25:=gd ((hx3.trans hx4).trans hx5));(have HB5:=gd ((hx4.trans hx5).heap HB3.out));(have g5:=(hx3.trans hx4).cell q1_0_5);clear hx4 hx5 hn4))
  have hlq:∀c∈Q.map mcell,c.length=9:=by
   rw[HQ.out]
   intro c hc
   rcases List.mem_cons.1 hc with rfl|hc
   ·rfl
   ·exact HALL.out.lens c hc
  have hoq:∀u∈(Q.map mcell).flatten,u.oneCell'=true:=by
   rw[HQ.out]
   exact AllM.ones (n:=n+1) (w:=W2) (z:=newZ::z) ⟨new_rel n W2,HALL.out⟩
  obtain ⟨A2,c2,hrd,hsd⟩:=dropMr i (RSl.of_own HO7.out) hlq (by omega)
  obtain ⟨A3,c3,hrt,hst⟩:=takeM i (RSl.of_own HO7.out) hlq (by omega)
  have HSD:=gd hsd
  have HST:=gd hst
  have HOQ:=gd hoq
  clear hsd hst hoq hlq
  go_wp2_with fail
  have hxd:=(Ext.refl W7).drew
  refine rN ?_
  change wpAny _ _ _ _ _ _ _ (World.drew _)
  refine wpAny_load (i:=0) (v:= .pointer (some ⟨W2.heap.size,5,none⟩)) (fun w'=>Ext W7 w') 11 rfl (by kernel_rfl) (fun _ _ _ h=>h) (Or.inl ⟨by rfl,fun w' hS=>by go_simp⟩) hxd ?_
  refine tT 1 (.slice A6 Q.length c6) rfl (fun w' hS=>by have e5:=Ext.cell hS u5;go_simp) hxd ?_
  refine tT 2 (.int .i64 (i:Nat)) rfl (fun w' hS=>by go_simp) hxd ?_
  refine tT 3 (.slice A2 (Q.length - i) c2) rfl (fun w' hS=>by go_simp) hxd ?_
  refine tT 4 (.pointer (some ⟨W2.heap.size,5,none⟩)) rfl (fun w' hS=>by go_simp) hxd ?_
  refine tT 5 (.slice A6 Q.length c6) rfl (fun w' hS=>by have e5:=Ext.cell hS u5;go_simp) hxd ?_
  refine tT 6 (.int .i64 (i:Nat)) rfl (fun w' hS=>by go_simp) hxd ?_
  refine tT 7 (.slice A3 i c3) rfl (fun w' hS=>by go_simp) hxd ?_
  go_simp
  refine wpAnyT_one (i:=8) rfl (by kernel_rfl) (fun Kc hK=> ?_)
  go_simp
  obtain ⟨W8,hW8⟩:∃W8,(W7.alloc (.cells #[.slice A2 (Q.length - i) c2,.slice A3 i c3] 23)).drew=W8:=⟨_,rfl⟩
  have hx8:Ext W7 W8:=by rw[←hW8];exact ((Ext.refl W7).alloc _).drew
  rw[hW8]
  refine hK _ _ (fun _=>hx8) ?_
  clear hK Kc
  have HCT2:=gd (concatM_any (.slice (some ⟨W7.heap.size,0,none⟩) 2 2) [((.slice A2 (Q.length - i) c2:Value),Q.drop i),((.slice A3 i c3:Value),Q.take i)] W8 (by rw[←hW8];exact (rsl_new (w:=W7) (cs:= [.slice A2 (Q.length - i) c2,.slice A3 i c3]) rfl (by decide)).ext (Ext.refl _).drew) (by intro p hp;simp only[List.mem_cons,List.not_mem_nil,or_false] at hp;rcases hp with rfl|rfl;exact ⟨by have:=HSD.out.ext hx8;rw[List.length_drop] at this⊢;exact this,fun u hu=>HOQ.out u (by rw[flatM_td Q i];exact List.mem_append_right _ hu)⟩;exact ⟨HST.out.ext hx8,fun u hu=>HOQ.out u (by rw[flatM_td Q i];exact List.mem_append_left _ hu)⟩) (by simp) (by unfold lensMm;simp;omega))
  refine wpAnyT_one (i:=9) rfl (by kernel_rfl) (fun Kc hK=> ?_)
  go_simp
  go_at_call 25
  have hz:=HCT2.out
  with_reducible refine Calls.mono hz ?_
  clear hz
  rintro e w9 ⟨v9,rfl,hown9,hx9⟩
  have hcq:catMm [((.slice A2 (Q.length - i) c2:Value),Q.drop i),((.slice A3 i c3:Value),Q.take i)]=turnM ms i:=by unfold catMm turnM;rw[HQ.out];simp
  rw[hcq] at hown9
  obtain ⟨A9,c9,rfl⟩:=ownJ_form hown9
  have hx79:=hx8.trans hx9
  refine hK _ _ (fun _=>hx79) ?_
  clear hK Kc
  refine tT 10 (.pointer (some ⟨W2.heap.size,5,none⟩)) rfl (fun w' hS=>by go_simp) hx79 ?_
  have hk9:=hx79.heap HB7.out
  have fz9:=Lib.frozen_of_heap hk9 5
  have fc9:=cell_of_row _ _ 5 _ _ _ hk9
  obtain ⟨T,hT⟩:∃n,(turnM ms i).length=n:=⟨_,rfl⟩
  rw[hT] at hown9⊢
  refine wpAnyT_one (i:=11) rfl (by kernel_rfl) (fun Kc hK=> ?_)
  go_simp
  obtain ⟨X,hX⟩:∃X,w9.setCell ⟨W2.heap.size,5,none⟩ (.slice A9 T c9)=X:=⟨_,rfl⟩
  rw[hX]
  refine hK _ _ (fun h=>absurd (show true=false from h) (by decide)) ?_
  clear hK Kc
  have hbX:X.heap[W2.heap.size]? =some (.cells (obC a (.slice A9 T c9)) 25 (0,0)):=by rw[←hX,heap_setCell_same _ _ _ _ _ _ hk9];rfl
  have hset:w9.grownBy X (some W2.heap.size):=by rw[←hX];exact ⟨rfl,rfl,rfl,by simp[World.setCell],fun k _ hk=>heap_setCell_other w9 ⟨W2.heap.size,5,none⟩ k _ (fun e=>hk (by rw[e]))⟩
  have hoX:=hown9.kept hset (Or.inr (own_ne_type hown9 hk9 (by decide)))
  have hx2X:Ext W2 X:=by rw[←hX];exact (HX27.out.trans hx79).setCell (p:=⟨W2.heap.size,5,none⟩) (Nat.le_refl _) _
  have HRT:Hid (RJ X (objZ a (turnZ z i)) [.int .i64 5,.bool false,.int .i64 0,.string ⟨#[]⟩,.slice none 0 0,.slice A9 T c9,.int .i64 (a:Nat)]):=gd (by
   have h:=RSl.of_own hoX
   rw[←hT] at h⊢
   exact (turn_rel (HALL.out.ext hx2X) i).rj (a:=a) h)
  have HRO:Hid (RJ X (objZ a z) [.int .i64 5,.bool false,.int .i64 0,.string ⟨#[]⟩,.slice none 0 0,.slice C ms.length d,.int .i64 (a:Nat)]):=gd (((HALL.out.ext hx2X).rj (a:=a) (HROW.out.ext hx2X)))
  have HC5:Hid (∀W':World,Ext X W'→W'.cell? ⟨w2.heap.size,0,none⟩=some (.int .i64 5)∧W'.cell? ⟨w2.heap.size,1,none⟩=some (.bool false)∧W'.cell? ⟨w2.heap.size,2,none⟩=some (.int .i64 0)∧W'.cell? ⟨w2.heap.size,3,none⟩=some (.string ⟨#[]⟩)∧W'.cell? ⟨w2.heap.size,4,none⟩=some (.slice none 0 0)∧W'.cell? ⟨w2.heap.size,5,none⟩=some (.slice C ms.length d)∧W'.cell? ⟨w2.heap.size,6,none⟩=some (.int .i64 (a:Nat))):=gd fun W' h=>⟨h.cell (hx2X.cell q1_0_0),h.cell (hx2X.cell q1_0_1),h.cell (hx2X.cell q1_0_2),h.cell (hx2X.cell q1_0_3),h.cell (hx2X.cell q1_0_4),h.cell (hx2X.cell q1_0_5),h.cell (hx2X.cell q1_0_6)⟩
  have HC7:Hid (∀W':World,Ext X W'→W'.cell? ⟨W2.heap.size,0,none⟩=some (.int .i64 5)∧W'.cell? ⟨W2.heap.size,1,none⟩=some (.bool false)∧W'.cell? ⟨W2.heap.size,2,none⟩=some (.int .i64 0)∧W'.cell? ⟨W2.heap.size,3,none⟩=some (.string ⟨#[]⟩)∧W'.cell? ⟨W2.heap.size,4,none⟩=some (.slice none 0 0)∧W'.cell? ⟨W2.heap.size,5,none⟩=some (.slice A9 T c9)∧W'.cell? ⟨W2.heap.size,6,none⟩=some (.int .i64 (a:Nat))):=gd fun W' h=>⟨h.cell (cell_of_row _ _ 0 _ _ _ hbX),h.cell (cell_of_row _ _ 1 _ _ _ hbX),h.cell (cell_of_row _ _ 2 _ _ _ hbX),h.cell (cell_of_row _ _ 3 _ _ _ hbX),h.cell (cell_of_row _ _ 4 _ _ _ hbX),h.cell (cell_of_row _ _ 5 _ _ _ hbX),h.cell (cell_of_row _ _ 6 _ _ _ hbX)⟩
  have HX1:=gd (HY2.out.trans hx2X)
  clear hbX hset hoX hx2X hX hT hown9 hx79 hx9 hx8 hk9 fz9 fc9 hcq hxd hW8 hrd hrt hi u5 fz6 fc6 hW7 hq1 hq2 hiq q1_0_0 q1_0_1 q1_0_2 q1_0_3 q1_0_4 q1_0_5 q1_0_6
  refine wpAnyT_end (by kernel_rfl) ?_
  obtain ⟨q0_0_0,q0_0_1,q0_0_2,q0_0_3,q0_0_4,q0_0_5,q0_0_6⟩:=HC5.out _ (Ext.refl X)
  obtain ⟨q0_1_0,q0_1_1,q0_1_2,q0_1_3,q0_1_4,q0_1_5,q0_1_6⟩:=HC7.out _ (Ext.refl X)
  go_wp2_with (first|(go_at_call 11;(have hz:=HAL.out _ (HX1.out.trans hy13));(with_reducible refine Calls.mono hz ?_);clear hz;rintro e w14 ⟨rfl,hx14⟩;(have hy14:=hy13.trans hx14))|(go_at_call 26;(have hz:=HGT.out _ [.int .i64 5,.bool false,.int .i64 0,.string ⟨#[]⟩,.slice none 0 0,.slice C ms.length d,.int .i64 (a:Nat)] (HRO.out.ext (Ext.refl X)));(refine Calls.mono hz ?_);clear hz;rintro e w13 ⟨⟨gv,rfl,hgr⟩,hx13⟩;(obtain ⟨A1,p1,q1,B1,p2,q2,hgc⟩:=hgr.cells);(generalize kindJ _=K,bJ _=Bb,nJ _=Nn,sJ _=Ss,atJ _=At at hgc);(unfold wcells at hgc);subst hgc;clear hgr;(obtain ⟨W13,hW13⟩:∃W0,w13.alloc (.cells #[.int .i64 (K:Nat),.bool Bb,.int .i64 Nn,.string Ss,.slice A1 p1 q1,.slice B1 p2 q2,.int .i64 (At:Nat)] 25)=W0:=⟨_,rfl⟩);(have hv13:Ext w13 W13:=by rw[←hW13];exact (Ext.refl _).alloc _);(have hb13:∀i v,(#[.int .i64 (K:Nat),.bool Bb,.int .i64 Nn,.string Ss,.slice A1 p1 q1,.slice B1 p2 q2,.int .i64 (At:Nat)]:Array Value)[i]? =some v→W13.cell? ⟨w13.heap.size,i,none⟩=some v:=fun i v h=>by rw[←hW13];exact (Ext.refl (w13.alloc _)).boxed i v h);(have HB13:Hid (∀W':World,Ext W13 W'→W'.cell? ⟨w13.heap.size,0,none⟩=some (.int .i64 (K:Nat))∧W'.cell? ⟨w13.heap.size,1,none⟩=some (.bool Bb)∧W'.cell? ⟨w13.heap.size,2,none⟩=some (.int .i64 Nn)∧W'.cell? ⟨w13.heap.size,3,none⟩=some (.string Ss)∧W'.cell? ⟨w13.heap.size,4,none⟩=some (.slice A1 p1 q1)∧W'.cell? ⟨w13.heap.size,5,none⟩=some (.slice B1 p2 q2)∧W'.cell? ⟨w13.heap.size,6,none⟩=some (.int .i64 (At:Nat))):=gd fun W' h=>⟨h.cell (hb13 0 _ rfl),h.cell (hb13 1 _ rfl),h.cell (hb13 2 _ rfl),h.cell (hb13 3 _ rfl),h.cell (hb13 4 _ rfl),h.cell (hb13 5 _ rfl),h.cell (hb13 6 _ rfl)⟩);clear hb13;(have hs13:=hx13.trans hv13);(have hy13:=(Ext.refl X).trans hs13);(obtain ⟨q1_0_0,q1_0_1,q1_0_2,q1_0_3,q1_0_4,q1_0_5,q1_0_6⟩:=HC5.out _ hy13);(obtain ⟨q1_1_0,q1_1_1,q1_1_2,q1_1_3,q1_1_4,q1_1_5,q1_1_6⟩:=HC7.out _ hy13);clear q0_0_0 q0_0_1 q0_0_2 q0_0_3 q0_0_4 q0_0_5 q0_0_6 q0_1_0 q0_1_1 q0_1_2 q0_1_3 q0_1_4 q0_1_5 q0_1_6;(obtain ⟨q1_2_0,q1_2_1,q1_2_2,q1_2_3,q1_2_4,q1_2_5,q1_2_6⟩:=HB13.out _ (Ext.refl W13))))
  go_ret
  exact ⟨rfl,HX1.out.trans hy14⟩
 |none=>
  rw[hgx] at HGT
  have hfk:∀f,decJ (objZ a z)= .ok f→fokS f:=fun f hf=>(dec_small hgd (by omega) hf).1
  have hil:=itsW_len hgd
  have hsz:=jsz_good (Nat.le_refl _) _ hgd
  have HDE:Hid (∀(w':World) (cs:List Value),Ext w w'→(RJ w' (objZ a z) cs∨∃i,RJ w' (objZ a (turnZ z i)) cs)→Calls Tryz.prog 12 #[.agg cs.toArray] w' fun e w2=>DecR w2 (decJ (objZ a z)) e∧Ext w' w2):=gd fun w' cs hx hr=>by
   rcases hr with hr|⟨i,hr⟩
   ·exact jdecode_any s.size (objZ a z) cs w' hr hsz (by omega) (hE.ext hx) hfk (by omega)
   ·have hsame:=turn_dec (a:=a) hnz hgx i
    have h:=jdecode_any s.size (objZ a (turnZ z i)) cs w' hr (turn_sz hsz i) (by omega) (hE.ext hx) (by rw[hsame];exact hfk) (by rw[turn_its hnz hgx];omega)
    rw[hsame] at h
    exact h
  obtain ⟨r,hr⟩:∃r,decJ (objZ a z)=r:=⟨_,rfl⟩
  rw[hr] at hfk
  simp only[hr] at HDE
  have hgk:fokS (fdR r):=by
   cases r with
   |error f=>exact zeroF_fokJ
   |ok f=>exact norm_fokJ (hfk f rfl)
  obtain ⟨R,hR⟩:∃R,fdR r=R:=⟨_,rfl⟩
  obtain ⟨at_,hat⟩:∃x,atR r=x:=⟨_,rfl⟩
  obtain ⟨er,her⟩:∃x,erR r=x:=⟨_,rfl⟩
  rw[hR] at hgk
  obtain ⟨gpath,gid,gtitle,glink,gupd,gents⟩:=R
  have hnp:gpath.length≤16777216:=by have h:=hgk.1.2;dsimp only at h;omega
  have hne:gents.length≤16777216:=Nat.le_trans hgk.2.1 (by decide)
  have HD2:Hid (∀(w':World) (cs:List Value),Ext w w'→(RJ w' (objZ a z) cs∨∃i,RJ w' (objZ a (turnZ z i)) cs)→Calls Tryz.prog 12 #[.agg cs.toArray] w' fun e w2=>(∃A5 c5 B5 d5,e= .returned (.tuple #[.agg #[.slice A5 gpath.length c5,.string gid,.string gtitle,.string glink,.int .i64 gupd,.slice B5 gents.length d5],.int .i64 (at_:Nat),.int .i64 (er:Nat)])∧RdC w2 ⟨.slice A5 gpath.length c5,.slice B5 gents.length d5,⟨gpath,gid,gtitle,glink,gupd,gents⟩⟩)∧Ext w' w2):=gd fun w' cs hx h=>by
   refine (HDE.out w' cs hx h).mono fun e w2 ⟨h1,h2⟩=>⟨?_,h2⟩
   have h3:=dec_uni h1
   rw[hR,hat,her] at h3
   exact h3
  have HSM:Hid (∀(W':World) (A5:Option Addr) (c5:Nat) (B5:Option Addr) (d5:Nat) (A6:Option Addr) (c6:Nat) (B6:Option Addr) (d6:Nat),RdC W' ⟨.slice A5 gpath.length c5,.slice B5 gents.length d5,⟨gpath,gid,gtitle,glink,gupd,gents⟩⟩→RdC W' ⟨.slice A6 gpath.length c6,.slice B6 gents.length d6,⟨gpath,gid,gtitle,glink,gupd,gents⟩⟩→Calls Tryz.prog 16 #[.agg #[.slice A5 gpath.length c5,.string gid,.string gtitle,.string glink,.int .i64 gupd,.slice B5 gents.length d5],.agg #[.slice A6 gpath.length c6,.string gid,.string gtitle,.string glink,.int .i64 gupd,.slice B6 gents.length d6]] W' fun e w2=>e= .returned (.bool true)∧Ext W' w2):=gd fun W' A5 c5 B5 d5 A6 c6 B6 d6 hr hr2=>by
   have hz:=refSame_any ⟨.slice A5 gpath.length c5,.slice B5 gents.length d5,⟨gpath,gid,gtitle,glink,gupd,gents⟩⟩ ⟨.slice A6 gpath.length c6,.slice B6 gents.length d6,⟨gpath,gid,gtitle,glink,gupd,gents⟩⟩ W' hr hr2 hnp hne
   rw[decide_eq_true rfl] at hz
   exact hz
  clear hr hR hat her hgk hnp hne HDE hfk hil hsz hgd hs5 hps hj hz hgx hnd hkv hnz hoz
  go_enter Tryz.func9,Tryz.ntmps9
  go_wp2_with (first|(go_at_call 25;(have hz:=HCT.out);(with_reducible refine Calls.mono hz ?_);clear hz;rintro e w6 ⟨v6,rfl,hown6,hx6⟩;(obtain ⟨Q,hQ⟩:∃Q,Q=newM::ms:=⟨_,rfl⟩);(have hcq:catMm [((.slice (some ⟨W3.heap.size,0,none⟩) 1 1:Value),[newM]),((.slice C ms.length d:Value),ms)]=Q:=by rw[hQ];unfold catMm;simp);(rw[hcq] at hown6);(have hq1:0<Q.length∧Q.length≤5001:=by rw[hQ,List.length_cons];omega);(have HQ:=gd hQ);(obtain ⟨A6,c6,rfl⟩:=ownJ_form hown6);(have hk6:=hx6.heap HB5.out);(have fz6:=Lib.frozen_of_heap hk6 5);(have fc6:=cell_of_row _ _ 5 _ _ _ hk6);(obtain ⟨W7,hW7⟩:∃W7,w6.setCell ⟨W2.heap.size,5,none⟩ (.slice A6 Q.length c6)=W7:=⟨_,rfl⟩);(have hb7:W7.heap[W2.heap.size]? =some (.cells (obC a (.slice A6 Q.length c6)) 25 (0,0)):=by rw[←hW7,heap_setCell_same _ _ _ _ _ _ hk6];rfl);(have hset:w6.grownBy W7 (some W2.heap.size):=by rw[←hW7];exact ⟨rfl,rfl,rfl,by simp[World.setCell],fun k _ hk=>heap_setCell_other w6 ⟨W2.heap.size,5,none⟩ k _ (fun e=>hk (by rw[e]))⟩);(have HO7:=gd (hown6.kept hset (Or.inr (own_ne_type hown6 hk6 (by decide)))));(have HX27:Hid (Ext W2 W7):=gd (by rw[←hW7];exact (HX25.out.trans hx6).setCell (p:=⟨W2.heap.size,5,none⟩) (Nat.le_refl _) _));(have HB7:=gd hb7);(have u5:=cell_of_row _ _ 5 _ _ _ hb7);(have hq2:(0:Int)<(Q.length:Int):=by omega);(obtain ⟨i,hi,hiq⟩:∃i:Nat,k % (Q.length:Int)=(i:Int)∧i<Q.length:=⟨(k % (Q.length:Int)).toNat,(Int.toNat_of_nonneg (Int.emod_nonneg _ (by omega))).symm,by have h1:=Int.emod_lt_of_pos k hq2;have h2:=Int.emod_nonneg k (show (Q.length:Int)≠0 by omega);omega⟩);clear hown6 hx6 hQ hcq hk6 hset hb7 g5)|(go_at_call 10;(have hz:=HPS.out);(with_reducible refine Calls.mono hz ?_);clear hz;rintro e w2 ⟨⟨C,d,ms,n,rfl,hrow,hall,hml⟩,hx2⟩;(obtain ⟨W2,hW2⟩:∃W0,w2.alloc (.cells #[.int .i64 5,.bool false,.int .i64 0,.string ⟨#[]⟩,.slice none 0 0,.slice C ms.length d,.int .i64 (a:Nat)] 25)=W0:=⟨_,rfl⟩);(have hv2:Ext w2 W2:=by rw[←hW2];exact (Ext.refl _).alloc _);(have hb2:∀i v,(#[.int .i64 5,.bool false,.int .i64 0,.string ⟨#[]⟩,.slice none 0 0,.slice C ms.length d,.int .i64 (a:Nat)]:Array Value)[i]? =some v→W2.cell? ⟨w2.heap.size,i,none⟩=some v:=fun i v h=>by rw[←hW2];exact (Ext.refl (w2.alloc _)).boxed i v h);(have HB2:Hid (∀W':World,Ext W2 W'→W'.cell? ⟨w2.heap.size,0,none⟩=some (.int .i64 5)∧W'.cell? ⟨w2.heap.size,1,none⟩=some (.bool false)∧W'.cell? ⟨w2.heap.size,2,none⟩=some (.int .i64 0)∧W'.cell? ⟨w2.heap.size,3,none⟩=some (.string ⟨#[]⟩)∧W'.cell? ⟨w2.heap.size,4,none⟩=some (.slice none 0 0)∧W'.cell? ⟨w2.heap.size,5,none⟩=some (.slice C ms.length d)∧W'.cell? ⟨w2.heap.size,6,none⟩=some (.int .i64 (a:Nat))):=gd fun W' h=>⟨h.cell (hb2 0 _ rfl),h.cell (hb2 1 _ rfl),h.cell (hb2 2 _ rfl),h.cell (hb2 3 _ rfl),h.cell (hb2 4 _ rfl),h.cell (hb2 5 _ rfl),h.cell (hb2 6 _ rfl)⟩);clear hb2;(have hs2:=hx2.trans hv2);(have hy2:=(Ext.refl w).trans hs2);(obtain ⟨q1_0_0,q1_0_1,q1_0_2,q1_0_3,q1_0_4,q1_0_5,q1_0_6⟩:=HB2.out _ (Ext.refl W2));(have HROW:=gd (hrow.ext hv2));(have HALL:=gd (AllM.more (hall.ext hv2)));(have HY2:=gd hy2);clear hrow hall;(obtain ⟨W3,hW3⟩:∃W3,W2.alloc (.cells #[.int .i64 5,.bool false,.int .i64 0,.string ⟨#[]⟩,.slice none 0 0,.slice C ms.length d,.int .i64 (a:Nat)] 25)=W3:=⟨_,rfl⟩);(have hx3:Ext W2 W3:=by rw[←hW3];exact (Ext.refl W2).alloc _);(have HB3:Hid (W3.heap[W2.heap.size]? =some (.cells #[.int .i64 5,.bool false,.int .i64 0,.string ⟨#[]⟩,.slice none 0 0,.slice C ms.length d,.int .i64 (a:Nat)] 25 (0,0))):=gd (by rw[←hW3];exact heap_alloc_new W2 _));(obtain ⟨W4,hW4⟩:∃W4,W3.alloc (.cells #[.string ⟨#[95,120]⟩,.int .i64 1,.bool false,.int .i64 0,.string ⟨#[]⟩,.slice none 0 0,.slice none 0 0,.int .i64 0,.int .i64 0] 56)=W4:=⟨_,rfl⟩);(have hx4:Ext W3 W4:=by rw[←hW4];exact (Ext.refl W3).alloc _);(have hn4:RSl W4 9 (.slice (some ⟨W3.heap.size,0,none⟩) 1 1) 1 ([newM].map mcell).flatten:=by rw[←hW4];exact rsl_new (cs:=mcell newM) rfl (by decide));(obtain ⟨W5,hW5⟩:∃W5,W4.alloc (.cells #[.slice (some ⟨W3.heap.size,0,none⟩) 1 1,.slice C ms.length d] 23)=W5:=⟨_,rfl⟩);(have hx5:Ext W4 W5:=by rw[←hW5];exact (Ext.refl W4).alloc _);(have HCT:=gd (concatM_any (.slice (some ⟨W4.heap.size,0,none⟩) 2 2) [((.slice (some ⟨W3.heap.size,0,none⟩) 1 1:Value),[newM]),((.slice C ms.length d:Value),ms)] W5 (by rw[←hW5];exact rsl_new (cs:= [.slice (some ⟨W3.heap.size,0,none⟩) 1 1,.slice C ms.length d]) rfl (by decide)) (by intro p hp;simp only[List.mem_cons,List.not_mem_nil,or_false] at hp;rcases hp with rfl|rfl;exact ⟨hn4.ext hx5,fun u hu=>by simp[newM,mcell,wcells] at hu;rcases hu with rfl|rfl|rfl|rfl|rfl|rfl|rfl|rfl|rfl<;>rfl⟩;exact ⟨HROW.out.ext ((hx3.trans hx4).trans hx5),HALL.out.ones⟩) (by simp) (by unfold lensMm;simp;omega)));(have HX25:=gd ((hx3.trans hx4).trans hx5));(have HB5:=gd ((hx4.trans hx5).heap HB3.out));(have g5:=(hx3.trans hx4).cell q1_0_5);clear hx4 hx5 hn4))
  have hlq:∀c∈Q.map mcell,c.length=9:=by
   rw[HQ.out]
   intro c hc
   rcases List.mem_cons.1 hc with rfl|hc
   ·rfl
   ·exact HALL.out.lens c hc
  have hoq:∀u∈(Q.map mcell).flatten,u.oneCell'=true:=by
   rw[HQ.out]
   exact AllM.ones (n:=n+1) (w:=W2) (z:=newZ::z) ⟨new_rel n W2,HALL.out⟩
  obtain ⟨A2,c2,hrd,hsd⟩:=dropMr i (RSl.of_own HO7.out) hlq (by omega)
  obtain ⟨A3,c3,hrt,hst⟩:=takeM i (RSl.of_own HO7.out) hlq (by omega)
  have HSD:=gd hsd
  have HST:=gd hst
  have HOQ:=gd hoq
  clear hsd hst hoq hlq
  go_wp2_with fail
  have hxd:=(Ext.refl W7).drew
  refine rN ?_
  change wpAny _ _ _ _ _ _ _ (World.drew _)
  refine wpAny_load (i:=0) (v:= .pointer (some ⟨W2.heap.size,5,none⟩)) (fun w'=>Ext W7 w') 11 rfl (by kernel_rfl) (fun _ _ _ h=>h) (Or.inl ⟨by rfl,fun w' hS=>by go_simp⟩) hxd ?_
  refine tT 1 (.slice A6 Q.length c6) rfl (fun w' hS=>by have e5:=Ext.cell hS u5;go_simp) hxd ?_
  refine tT 2 (.int .i64 (i:Nat)) rfl (fun w' hS=>by go_simp) hxd ?_
  refine tT 3 (.slice A2 (Q.length - i) c2) rfl (fun w' hS=>by go_simp) hxd ?_
  refine tT 4 (.pointer (some ⟨W2.heap.size,5,none⟩)) rfl (fun w' hS=>by go_simp) hxd ?_
  refine tT 5 (.slice A6 Q.length c6) rfl (fun w' hS=>by have e5:=Ext.cell hS u5;go_simp) hxd ?_
  refine tT 6 (.int .i64 (i:Nat)) rfl (fun w' hS=>by go_simp) hxd ?_
  refine tT 7 (.slice A3 i c3) rfl (fun w' hS=>by go_simp) hxd ?_
  go_simp
  refine wpAnyT_one (i:=8) rfl (by kernel_rfl) (fun Kc hK=> ?_)
  go_simp
  obtain ⟨W8,hW8⟩:∃W8,(W7.alloc (.cells #[.slice A2 (Q.length - i) c2,.slice A3 i c3] 23)).drew=W8:=⟨_,rfl⟩
  have hx8:Ext W7 W8:=by rw[←hW8];exact ((Ext.refl W7).alloc _).drew
  rw[hW8]
  refine hK _ _ (fun _=>hx8) ?_
  clear hK Kc
  have HCT2:=gd (concatM_any (.slice (some ⟨W7.heap.size,0,none⟩) 2 2) [((.slice A2 (Q.length - i) c2:Value),Q.drop i),((.slice A3 i c3:Value),Q.take i)] W8 (by rw[←hW8];exact (rsl_new (w:=W7) (cs:= [.slice A2 (Q.length - i) c2,.slice A3 i c3]) rfl (by decide)).ext (Ext.refl _).drew) (by intro p hp;simp only[List.mem_cons,List.not_mem_nil,or_false] at hp;rcases hp with rfl|rfl;exact ⟨by have:=HSD.out.ext hx8;rw[List.length_drop] at this⊢;exact this,fun u hu=>HOQ.out u (by rw[flatM_td Q i];exact List.mem_append_right _ hu)⟩;exact ⟨HST.out.ext hx8,fun u hu=>HOQ.out u (by rw[flatM_td Q i];exact List.mem_append_left _ hu)⟩) (by simp) (by unfold lensMm;simp;omega))
  refine wpAnyT_one (i:=9) rfl (by kernel_rfl) (fun Kc hK=> ?_)
  go_simp
  go_at_call 25
  have hz:=HCT2.out
  with_reducible refine Calls.mono hz ?_
  clear hz
  rintro e w9 ⟨v9,rfl,hown9,hx9⟩
  have hcq:catMm [((.slice A2 (Q.length - i) c2:Value),Q.drop i),((.slice A3 i c3:Value),Q.take i)]=turnM ms i:=by unfold catMm turnM;rw[HQ.out];simp
  rw[hcq] at hown9
  obtain ⟨A9,c9,rfl⟩:=ownJ_form hown9
  have hx79:=hx8.trans hx9
  refine hK _ _ (fun _=>hx79) ?_
  clear hK Kc
  refine tT 10 (.pointer (some ⟨W2.heap.size,5,none⟩)) rfl (fun w' hS=>by go_simp) hx79 ?_
  have hk9:=hx79.heap HB7.out
  have fz9:=Lib.frozen_of_heap hk9 5
  have fc9:=cell_of_row _ _ 5 _ _ _ hk9
  obtain ⟨T,hT⟩:∃n,(turnM ms i).length=n:=⟨_,rfl⟩
  rw[hT] at hown9⊢
  refine wpAnyT_one (i:=11) rfl (by kernel_rfl) (fun Kc hK=> ?_)
  go_simp
  obtain ⟨X,hX⟩:∃X,w9.setCell ⟨W2.heap.size,5,none⟩ (.slice A9 T c9)=X:=⟨_,rfl⟩
  rw[hX]
  refine hK _ _ (fun h=>absurd (show true=false from h) (by decide)) ?_
  clear hK Kc
  have hbX:X.heap[W2.heap.size]? =some (.cells (obC a (.slice A9 T c9)) 25 (0,0)):=by rw[←hX,heap_setCell_same _ _ _ _ _ _ hk9];rfl
  have hset:w9.grownBy X (some W2.heap.size):=by rw[←hX];exact ⟨rfl,rfl,rfl,by simp[World.setCell],fun k _ hk=>heap_setCell_other w9 ⟨W2.heap.size,5,none⟩ k _ (fun e=>hk (by rw[e]))⟩
  have hoX:=hown9.kept hset (Or.inr (own_ne_type hown9 hk9 (by decide)))
  have hx2X:Ext W2 X:=by rw[←hX];exact (HX27.out.trans hx79).setCell (p:=⟨W2.heap.size,5,none⟩) (Nat.le_refl _) _
  have HRT:Hid (RJ X (objZ a (turnZ z i)) [.int .i64 5,.bool false,.int .i64 0,.string ⟨#[]⟩,.slice none 0 0,.slice A9 T c9,.int .i64 (a:Nat)]):=gd (by
   have h:=RSl.of_own hoX
   rw[←hT] at h⊢
   exact (turn_rel (HALL.out.ext hx2X) i).rj (a:=a) h)
  have HRO:Hid (RJ X (objZ a z) [.int .i64 5,.bool false,.int .i64 0,.string ⟨#[]⟩,.slice none 0 0,.slice C ms.length d,.int .i64 (a:Nat)]):=gd (((HALL.out.ext hx2X).rj (a:=a) (HROW.out.ext hx2X)))
  have HC5:Hid (∀W':World,Ext X W'→W'.cell? ⟨w2.heap.size,0,none⟩=some (.int .i64 5)∧W'.cell? ⟨w2.heap.size,1,none⟩=some (.bool false)∧W'.cell? ⟨w2.heap.size,2,none⟩=some (.int .i64 0)∧W'.cell? ⟨w2.heap.size,3,none⟩=some (.string ⟨#[]⟩)∧W'.cell? ⟨w2.heap.size,4,none⟩=some (.slice none 0 0)∧W'.cell? ⟨w2.heap.size,5,none⟩=some (.slice C ms.length d)∧W'.cell? ⟨w2.heap.size,6,none⟩=some (.int .i64 (a:Nat))):=gd fun W' h=>⟨h.cell (hx2X.cell q1_0_0),h.cell (hx2X.cell q1_0_1),h.cell (hx2X.cell q1_0_2),h.cell (hx2X.cell q1_0_3),h.cell (hx2X.cell q1_0_4),h.cell (hx2X.cell q1_0_5),h.cell (hx2X.cell q1_0_6)⟩
  have HC7:Hid (∀W':World,Ext X W'→W'.cell? ⟨W2.heap.size,0,none⟩=some (.int .i64 5)∧W'.cell? ⟨W2.heap.size,1,none⟩=some (.bool false)∧W'.cell? ⟨W2.heap.size,2,none⟩=some (.int .i64 0)∧W'.cell? ⟨W2.heap.size,3,none⟩=some (.string ⟨#[]⟩)∧W'.cell? ⟨W2.heap.size,4,none⟩=some (.slice none 0 0)∧W'.cell? ⟨W2.heap.size,5,none⟩=some (.slice A9 T c9)∧W'.cell? ⟨W2.heap.size,6,none⟩=some (.int .i64 (a:Nat))):=gd fun W' h=>⟨h.cell (cell_of_row _ _ 0 _ _ _ hbX),h.cell (cell_of_row _ _ 1 _ _ _ hbX),h.cell (cell_of_row _ _ 2 _ _ _ hbX),h.cell (cell_of_row _ _ 3 _ _ _ hbX),h.cell (cell_of_row _ _ 4 _ _ _ hbX),h.cell (cell_of_row _ _ 5 _ _ _ hbX),h.cell (cell_of_row _ _ 6 _ _ _ hbX)⟩
  have HX1:=gd (HY2.out.trans hx2X)
  clear hbX hset hoX hx2X hX hT hown9 hx79 hx9 hx8 hk9 fz9 fc9 hcq hxd hW8 hrd hrt hi u5 fz6 fc6 hW7 hq1 hq2 hiq q1_0_0 q1_0_1 q1_0_2 q1_0_3 q1_0_4 q1_0_5 q1_0_6
  refine wpAnyT_end (by kernel_rfl) ?_
  obtain ⟨q0_0_0,q0_0_1,q0_0_2,q0_0_3,q0_0_4,q0_0_5,q0_0_6⟩:=HC5.out _ (Ext.refl X)
  obtain ⟨q0_1_0,q0_1_1,q0_1_2,q0_1_3,q0_1_4,q0_1_5,q0_1_6⟩:=HC7.out _ (Ext.refl X)
  go_wp2_with (first|(go_at_call 16;(have hz:=HSM.out _ A5 c5 B5 d5 A6x c6x B6 d6 HF53.out HF63.out);(with_reducible refine Calls.mono hz ?_);clear hz;rintro e w17 ⟨rfl,hx17⟩;(have hy17:=hy16.trans hx17))|(go_at_call 11;(have hz:=HAL.out _ (HX1.out.trans hy15));(with_reducible refine Calls.mono hz ?_);clear hz;rintro e w16 ⟨rfl,hx16⟩;(have HF63:=gd (HF6.out.ext hx16));(have HF53:=gd (HF52.out.ext hx16));(have hy16:=hy15.trans hx16);(obtain ⟨q4_0_0,q4_0_1,q4_0_2,q4_0_3,q4_0_4,q4_0_5,q4_0_6⟩:=HC5.out _ hy16);(obtain ⟨q4_1_0,q4_1_1,q4_1_2,q4_1_3,q4_1_4,q4_1_5,q4_1_6⟩:=HC7.out _ hy16);(have hc2_16:=hc2_15.trans hx16);(obtain ⟨q4_2_0,q4_2_1,q4_2_2,q4_2_3,q4_2_4,q4_2_5,q4_2_6⟩:=HB13.out _ hc2_16);(have hc3_16:=hc3_15.trans hx16);(obtain ⟨q4_3_0,q4_3_1,q4_3_2,q4_3_3,q4_3_4,q4_3_5⟩:=HB14.out _ hc3_16);(have hc4_16:=(Ext.refl W15).trans hx16);(obtain ⟨q4_4_0,q4_4_1,q4_4_2,q4_4_3,q4_4_4,q4_4_5⟩:=HB15.out _ hc4_16);clear q3_0_0 q3_0_1 q3_0_2 q3_0_3 q3_0_4 q3_0_5 q3_0_6 q3_1_0 q3_1_1 q3_1_2 q3_1_3 q3_1_4 q3_1_5 q3_1_6 q3_2_0 q3_2_1 q3_2_2 q3_2_3 q3_2_4 q3_2_5 q3_2_6 q3_3_0 q3_3_1 q3_3_2 q3_3_3 q3_3_4 q3_3_5 q3_4_0 q3_4_1 q3_4_2 q3_4_3 q3_4_4 q3_4_5)|(go_at_call 12;(have hz:=HD2.out _ [.int .i64 5,.bool false,.int .i64 0,.string ⟨#[]⟩,.slice none 0 0,.slice A9 T c9,.int .i64 (a:Nat)] (HX1.out.trans hy14) (Or.inr ⟨i,HRT.out.ext hy14⟩));(refine Calls.mono hz ?_);clear hz;rintro e w15 ⟨⟨A6x,c6x,B6,d6,rfl,hrd⟩,hx15⟩;(obtain ⟨W15,hW15⟩:∃W0,w15.alloc (.cells #[.slice A6x gpath.length c6x,.string gid,.string gtitle,.string glink,.int .i64 gupd,.slice B6 gents.length d6] 32)=W0:=⟨_,rfl⟩);(have hv15:Ext w15 W15:=by rw[←hW15];exact (Ext.refl _).alloc _);(have hb15:∀i v,(#[.slice A6x gpath.length c6x,.string gid,.string gtitle,.string glink,.int .i64 gupd,.slice B6 gents.length d6]:Array Value)[i]? =some v→W15.cell? ⟨w15.heap.size,i,none⟩=some v:=fun i v h=>by rw[←hW15];exact (Ext.refl (w15.alloc _)).boxed i v h);(have HB15:Hid (∀W':World,Ext W15 W'→W'.cell? ⟨w15.heap.size,0,none⟩=some (.slice A6x gpath.length c6x)∧W'.cell? ⟨w15.heap.size,1,none⟩=some (.string gid)∧W'.cell? ⟨w15.heap.size,2,none⟩=some (.string gtitle)∧W'.cell? ⟨w15.heap.size,3,none⟩=some (.string glink)∧W'.cell? ⟨w15.heap.size,4,none⟩=some (.int .i64 gupd)∧W'.cell? ⟨w15.heap.size,5,none⟩=some (.slice B6 gents.length d6)):=gd fun W' h=>⟨h.cell (hb15 0 _ rfl),h.cell (hb15 1 _ rfl),h.cell (hb15 2 _ rfl),h.cell (hb15 3 _ rfl),h.cell (hb15 4 _ rfl),h.cell (hb15 5 _ rfl)⟩);clear hb15;(have hs15:=hx15.trans hv15);(have hy15:=hy14.trans hs15);(obtain ⟨q3_0_0,q3_0_1,q3_0_2,q3_0_3,q3_0_4,q3_0_5,q3_0_6⟩:=HC5.out _ hy15);(obtain ⟨q3_1_0,q3_1_1,q3_1_2,q3_1_3,q3_1_4,q3_1_5,q3_1_6⟩:=HC7.out _ hy15);(have hc2_15:=hc2_14.trans hs15);(obtain ⟨q3_2_0,q3_2_1,q3_2_2,q3_2_3,q3_2_4,q3_2_5,q3_2_6⟩:=HB13.out _ hc2_15);(have hc3_15:=(Ext.refl W14).trans hs15);(obtain ⟨q3_3_0,q3_3_1,q3_3_2,q3_3_3,q3_3_4,q3_3_5⟩:=HB14.out _ hc3_15);clear q2_0_0 q2_0_1 q2_0_2 q2_0_3 q2_0_4 q2_0_5 q2_0_6 q2_1_0 q2_1_1 q2_1_2 q2_1_3 q2_1_4 q2_1_5 q2_1_6 q2_2_0 q2_2_1 q2_2_2 q2_2_3 q2_2_4 q2_2_5 q2_2_6 q2_3_0 q2_3_1 q2_3_2 q2_3_3 q2_3_4 q2_3_5;(obtain ⟨q3_4_0,q3_4_1,q3_4_2,q3_4_3,q3_4_4,q3_4_5⟩:=HB15.out _ (Ext.refl W15));(have HF6:=gd (hrd.ext hv15));(have HF52:=gd (HF5.out.ext hs15));clear hrd)|(go_at_call 12;(have hz:=HD2.out _ [.int .i64 5,.bool false,.int .i64 0,.string ⟨#[]⟩,.slice none 0 0,.slice C ms.length d,.int .i64 (a:Nat)] (HX1.out.trans hy13) (Or.inl (HRO.out.ext hy13)));(refine Calls.mono hz ?_);clear hz;rintro e w14 ⟨⟨A5,c5,B5,d5,rfl,hrd⟩,hx14⟩;(obtain ⟨W14,hW14⟩:∃W0,w14.alloc (.cells #[.slice A5 gpath.length c5,.string gid,.string gtitle,.string glink,.int .i64 gupd,.slice B5 gents.length d5] 32)=W0:=⟨_,rfl⟩);(have hv14:Ext w14 W14:=by rw[←hW14];exact (Ext.refl _).alloc _);(have hb14:∀i v,(#[.slice A5 gpath.length c5,.string gid,.string gtitle,.string glink,.int .i64 gupd,.slice B5 gents.length d5]:Array Value)[i]? =some v→W14.cell? ⟨w14.heap.size,i,none⟩=some v:=fun i v h=>by rw[←hW14];exact (Ext.refl (w14.alloc _)).boxed i v h);(have HB14:Hid (∀W':World,Ext W14 W'→W'.cell? ⟨w14.heap.size,0,none⟩=some (.slice A5 gpath.length c5)∧W'.cell? ⟨w14.heap.size,1,none⟩=some (.string gid)∧W'.cell? ⟨w14.heap.size,2,none⟩=some (.string gtitle)∧W'.cell? ⟨w14.heap.size,3,none⟩=some (.string glink)∧W'.cell? ⟨w14.heap.size,4,none⟩=some (.int .i64 gupd)∧W'.cell? ⟨w14.heap.size,5,none⟩=some (.slice B5 gents.length d5)):=gd fun W' h=>⟨h.cell (hb14 0 _ rfl),h.cell (hb14 1 _ rfl),h.cell (hb14 2 _ rfl),h.cell (hb14 3 _ rfl),h.cell (hb14 4 _ rfl),h.cell (hb14 5 _ rfl)⟩);clear hb14;(have hs14:=hx14.trans hv14);(have hy14:=hy13.trans hs14);(obtain ⟨q2_0_0,q2_0_1,q2_0_2,q2_0_3,q2_0_4,q2_0_5,q2_0_6⟩:=HC5.out _ hy14);(obtain ⟨q2_1_0,q2_1_1,q2_1_2,q2_1_3,q2_1_4,q2_1_5,q2_1_6⟩:=HC7.out _ hy14);(have hc2_14:=(Ext.refl W13).trans hs14);(obtain ⟨q2_2_0,q2_2_1,q2_2_2,q2_2_3,q2_2_4,q2_2_5,q2_2_6⟩:=HB13.out _ hc2_14);clear q1_0_0 q1_0_1 q1_0_2 q1_0_3 q1_0_4 q1_0_5 q1_0_6 q1_1_0 q1_1_1 q1_1_2 q1_1_3 q1_1_4 q1_1_5 q1_1_6 q1_2_0 q1_2_1 q1_2_2 q1_2_3 q1_2_4 q1_2_5 q1_2_6;(obtain ⟨q2_3_0,q2_3_1,q2_3_2,q2_3_3,q2_3_4,q2_3_5⟩:=HB14.out _ (Ext.refl W14));(have HF5:=gd (hrd.ext hv14));clear hrd)|(go_at_call 26;(have hz:=HGT.out _ [.int .i64 5,.bool false,.int .i64 0,.string ⟨#[]⟩,.slice none 0 0,.slice C ms.length d,.int .i64 (a:Nat)] (HRO.out.ext (Ext.refl X)));(refine Calls.mono hz ?_);clear hz;rintro e w13 ⟨⟨gv,rfl,hgr⟩,hx13⟩;(obtain ⟨A1,p1,q1,B1,p2,q2,hgc⟩:=hgr.cells);(generalize kindJ _=K,bJ _=Bb,nJ _=Nn,sJ _=Ss,atJ _=At at hgc);(unfold wcells at hgc);subst hgc;clear hgr;(obtain ⟨W13,hW13⟩:∃W0,w13.alloc (.cells #[.int .i64 (K:Nat),.bool Bb,.int .i64 Nn,.string Ss,.slice A1 p1 q1,.slice B1 p2 q2,.int .i64 (At:Nat)] 25)=W0:=⟨_,rfl⟩);(have hv13:Ext w13 W13:=by rw[←hW13];exact (Ext.refl _).alloc _);(have hb13:∀i v,(#[.int .i64 (K:Nat),.bool Bb,.int .i64 Nn,.string Ss,.slice A1 p1 q1,.slice B1 p2 q2,.int .i64 (At:Nat)]:Array Value)[i]? =some v→W13.cell? ⟨w13.heap.size,i,none⟩=some v:=fun i v h=>by rw[←hW13];exact (Ext.refl (w13.alloc _)).boxed i v h);(have HB13:Hid (∀W':World,Ext W13 W'→W'.cell? ⟨w13.heap.size,0,none⟩=some (.int .i64 (K:Nat))∧W'.cell? ⟨w13.heap.size,1,none⟩=some (.bool Bb)∧W'.cell? ⟨w13.heap.size,2,none⟩=some (.int .i64 Nn)∧W'.cell? ⟨w13.heap.size,3,none⟩=some (.string Ss)∧W'.cell? ⟨w13.heap.size,4,none⟩=some (.slice A1 p1 q1)∧W'.cell? ⟨w13.heap.size,5,none⟩=some (.slice B1 p2 q2)∧W'.cell? ⟨w13.heap.size,6,none⟩=some (.int .i64 (At:Nat))):=gd fun W' h=>⟨h.cell (hb13 0 _ rfl),h.cell (hb13 1 _ rfl),h.cell (hb13 2 _ rfl),h.cell (hb13 3 _ rfl),h.cell (hb13 4 _ rfl),h.cell (hb13 5 _ rfl),h.cell (hb13 6 _ rfl)⟩);clear hb13;(have hs13:=hx13.trans hv13);(have hy13:=(Ext.refl X).trans hs13);(obtain ⟨q1_0_0,q1_0_1,q1_0_2,q1_0_3,q1_0_4,q1_0_5,q1_0_6⟩:=HC5.out _ hy13);(obtain ⟨q1_1_0,q1_1_1,q1_1_2,q1_1_3,q1_1_4,q1_1_5,q1_1_6⟩:=HC7.out _ hy13);clear q0_0_0 q0_0_1 q0_0_2 q0_0_3 q0_0_4 q0_0_5 q0_0_6 q0_1_0 q0_1_1 q0_1_2 q0_1_3 q0_1_4 q0_1_5 q0_1_6;(obtain ⟨q1_2_0,q1_2_1,q1_2_2,q1_2_3,q1_2_4,q1_2_5,q1_2_6⟩:=HB13.out _ (Ext.refl W13))))
  go_ret
  exact ⟨rfl,HX1.out.trans hy17⟩
theorem law28_any (s:ByteArray) (k:Int) (w:World) (hE:Env w) (hs:s.size≤reachBytes) (hk8:0≤k∧k≤255):
 Calls Tryz.prog 9 #[.string s,.int .u8 k] w fun e w'=>e= .returned (.bool true)∧Ext w w':=by
 cases hj:docJ s with
 |none=>exact oth_none s k w hE hs hj
 |some o=>
  by_cases h5:kindJ o=5
  ·cases o with
   |obj a ks vs=>exact oth_obj s k w hE hs hk8 a ks vs hj
   |_=>exact absurd h5 (by simp[kindJ])
  ·exact oth_kind s k w hE hs o hj h5
end
theorem lifted28 (os:Os) (started:os.Started) (H:Type) (enc:TypeId×Value→H):
 ReturnsInHanded {} Tryz.checked os 9 .any (fun w args=>(Rows.jsonfeedIgnoresOthersSpec.pre enc Tryz.prog Tryz.f9 [] false w args∧laidMetH Tryz.prog laidAll w)∧sizedMet enc Tryz.prog Tryz.f9 (OpenSpec.ofChange Rows.jsonfeedIgnoresOthersSpec) false w args)
  (Rows.jsonfeedIgnoresOthersSpec.post enc Tryz.prog Tryz.f9 false true false false):=by
 refine returnsInHanded_of_change_and (C:=Tryz.checked) (X:=fun w _=>laidMetH Tryz.prog laidAll w) (fun _ _ _ hh h=>h.of_heap hh) own1 started (by kernel_rfl) Tryz.func9
  (ChangeSpec.witness_shaped (enc:=enc) (C:=Tryz.checked) (os:=os) (X:=fun w _=>laidMetH Tryz.prog laidAll w) false (World.laidAll Tryz.prog os laidAll) #[.string ⟨#[]⟩,.int .u8 0] 8 (World.laidAll_os _ _ _)
   (World.shaped_of_ZipB (by kernel_rfl) (by kernel_rfl)) (by kernel_rfl) (by kernel_rfl) (by kernel_rfl)
   (by rw[MakeChecks.laidMetH_plain _ _ _ (by kernel_rfl)];exact laidMet_laidAll _ (by kernel_rfl) (by kernel_rfl))) ?_
 intro W base args ds gs before hval0 hW hc hsz hL _
 have hval:∀(j:Nat) t v,Tryz.f9.params[j]? =some t→args[j]? =some v→Value.okWide Tryz.prog W .any base t v:=hval0
 have hW':=hW
 obtain ⟨p,q,hA0,hV,rfl,_,_⟩:=hW
 have hA:DataW.TrodAll enc Tryz.prog W 0 (fun _=>true) true Tryz.f9.params.toList args.toList ds p:=hA0
 rw[Tryz.params9] at hA hval
 obtain ⟨v0,v1,d0,d1,p0,p1,rfl,rfl,rfl,h0,h1⟩:=trodAll_two hA
 obtain ⟨rfl,rfl⟩:=trodVars_none hV
 have h0k:=h0
 have h1k:=h1
 rw[MakeChecks.laidMetH_plain _ _ _ (by kernel_rfl)] at hL
 have hE:=env_of_laid hL
 have hwt:(DataW.weightsEach Tryz.prog [9,5] [d0,d1]).all (· ≤reachBytes)=true:=by
  have h:=hsz
  rw[Tryz.params9] at h
  exact h
 have hwa:=List.all_eq_true.1 hwt
 have hw0:∀n∈d0.weights Tryz.prog 9,n≤reachBytes:=fun n hn=>of_decide_eq_true (hwa n (by simp only[DataW.weightsEach,List.append_nil,List.mem_append];exact Or.inl hn))
 clear hsz hwt hwa
 have hlt:∀x∈(p0++p1),x.block<W.heap.size:=fun x hx=>by simpa using hW'.lt x (List.mem_append_left _ hx)
 obtain ⟨fuel0,hf0⟩:=h0
 obtain ⟨s0,rfl⟩:=okWide_string Tryz.underlying9 (hval 0 9 v0 rfl rfl)
 obtain ⟨q0,e0,u0,_⟩:=DataW.trod_string Tryz.underlying9 (show DataW.trod enc Tryz.prog W 0 (fun _=>true) true fuel0 9 [.string s0]=some (d0,p0) from hf0)
 injection e0 with e0 _
 injection e0 with e0
 subst e0
 rw[(Prod.mk.inj u0).1] at hw0
 have hz0:s0.size≤reachBytes:=hw0 s0.size (by simp[DataW.weights])
 obtain ⟨fuel1,hf1⟩:=h1
 obtain ⟨n1,rfl⟩:=okWide_int Tryz.underlying5 (hval 1 5 v1 rfl rfl)
 obtain ⟨m1,hm1,_,hwf1⟩:=DataW.trod_int Tryz.underlying5 (show DataW.trod enc Tryz.prog W 0 (fun _=>true) true fuel1 5 [.int .u8 n1]=some (d1,p1) from hf1)
 injection hm1 with hm1 _
 injection hm1 with _ hm1
 subst hm1
 refine (law28_any s0 n1 W hE hz0 (u8_of_wf hwf1)).mono fun e W' ⟨he,hx⟩=> ?_
 subst he
 have hB:Below W.heap.size W W':=hx
 refine ⟨_,rfl,_,_,_,[],(p0++p1),[],hW',?_,?_,?_,hB.frame _,fun h=>by cases h⟩
 ·exact trodAll_mk1 (shut_bool Tryz.underlying4 _)
 ·exact trodAll_mk2 (Below.trod laidOut1 (by kernel_rfl) (of_decide_eq_true (by kernel_rfl)) h0k hB fun x hx=>hlt x (List.mem_append_left _ hx)) (Below.trod laidOut1 (by kernel_rfl) (of_decide_eq_true (by kernel_rfl)) h1k hB fun x hx=>hlt x (List.mem_append_right _ hx))
 ·rfl
end Go.Proofs.YthlnaldahkgjnaaGreatDoor
