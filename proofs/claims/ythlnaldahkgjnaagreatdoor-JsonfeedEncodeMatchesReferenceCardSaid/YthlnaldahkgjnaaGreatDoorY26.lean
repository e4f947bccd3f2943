/- Parts of the proof: contracts and plain laws. -/
import Derived.Test.YthlnaldahkgjnaaGreatDoorY25
namespace Go.Proofs.YthlnaldahkgjnaaGreatDoor
open Go Go.RowKit
set_option linter.unusedVariables false
set_option linter.unusedSimpArgs false
set_option maxRecDepth 100000
set_option maxHeartbeats 16000000
section
set_option linter.unusedSimpArgs false
theorem wp_toldA {P:Program} {c:Code} {Q:Exit→Act→World→Prop} {a:Act} {w:World} (R:Act→Act→World→Prop) (h1:∀a' w',R a a' w'→Q .normal a' w') (h2:c.wp P (toldR (R a)) a w):c.wp P Q a w:=wp_toldR (R a) h1 h2
theorem empty_noS {s:ByteArray} (h:s.toList.isEmpty=true):s=noS:=by
 by_cases e:s=noS
 ·exact e
 ·rw[ne_noS e] at h
  cases h
theorem setRow_newE (w:World) (zs cs:Array Value) (t:TypeId):(w.alloc (.cells zs t)).setRow w.heap.size cs=w.alloc (.cells cs t):=by
 have e:(w.heap.push (.cells zs t)).modify w.heap.size (fun| .cells _ elem frozen=> .cells cs elem frozen|o=>o)=w.heap.push (.cells cs t):=by
  apply Array.ext_getElem?
  intro i
  rw[Array.getElem?_modify,Array.getElem?_push,Array.getElem?_push]
  split
  ·rename_i h
   rw[if_pos h.symm,if_pos h.symm]
   rfl
  ·rename_i h
   rw[if_neg (fun e=>h e.symm),if_neg (fun e=>h e.symm)]
 show ({(w.alloc (.cells zs t)) with heap:=_}:World)=_
 exact congrArg (fun H=>({w with heap:=H}:World)) e
def ObA (w0 w:World) (b:Nat) (l:List (ByteArray×ByteArray)) (A:Option Addr) (c:Nat):Prop:=
 w.heap[b]? =some (.cells #[.int .i64 5,.bool false,.int .i64 0,.string ⟨#[]⟩,.slice none 0 0,.slice A l.length c,.int .i64 0] 25 (0,0))∧w.ownsRow 0 56 9 (.slice A l.length c) l.length (l.map cellM).flatten∧Ext w0 w
section
variable {w0 w w':World} {b:Nat} {l:List (ByteArray×ByteArray)} {A:Option Addr} {c:Nat}
theorem ObA.ext (h:ObA w0 w b l A c) (hx:Ext w w'):ObA w0 w' b l A c:=⟨hx.heap h.1,own_ext h.2.1 hx,h.2.2.trans hx⟩
theorem ObA.cell (h:ObA w0 w b l A c):w.cell? ⟨b,0,none⟩=some (.int .i64 5)∧w.cell? ⟨b,1,none⟩=some (.bool false)∧w.cell? ⟨b,2,none⟩=some (.int .i64 0)∧w.cell? ⟨b,3,none⟩=some (.string ⟨#[]⟩)∧w.cell? ⟨b,4,none⟩=some (.slice none 0 0)∧w.cell? ⟨b,5,none⟩=some (.slice A l.length c)∧w.cell? ⟨b,6,none⟩=some (.int .i64 0):=
 ⟨cell_of_row _ _ 0 _ _ _ h.1,cell_of_row _ _ 1 _ _ _ h.1,cell_of_row _ _ 2 _ _ _ h.1,cell_of_row _ _ 3 _ _ _ h.1,cell_of_row _ _ 4 _ _ _ h.1,cell_of_row _ _ 5 _ _ _ h.1,cell_of_row _ _ 6 _ _ _ h.1⟩
theorem ObA.rsl (h:ObA w0 w b l A c):RSl w 9 (.slice A l.length c) l.length (l.map cellM).flatten:=RSl.of_own h.2.1
theorem ob_store {old:Array Value} {B:Nat} (hk:w.heap[b]? =some (.cells old 25 (0,0))) (ho:w.ownsRow B 56 9 (.slice A l.length c) l.length (l.map cellM).flatten) (hx:Ext w0 w) (hb:w0.heap.size≤b):ObA w0 (w.setRow b #[.int .i64 5,.bool false,.int .i64 0,.string ⟨#[]⟩,.slice none 0 0,.slice A l.length c,.int .i64 0]) b l A c:=
 ⟨setRow_heap _ _ _ _ _ _ hk,own_mono (own_other ho hk (by decide) _) (Nat.zero_le _),hx.setRow hb _⟩
theorem putM_any (l m:List (ByteArray×ByteArray)) (B:Option Addr) (d:Nat) (kn sv:ByteArray) (w:World) (hm:l++ [(kn,sv)]=m) (hr:RSl w 9 (.slice B l.length d) l.length (l.map cellM).flatten) (hl:l.length≤100):
 Calls Tryz.prog 54 #[.agg #[.int .i64 5,.bool false,.int .i64 0,.string ⟨#[]⟩,.slice none 0 0,.slice B l.length d,.int .i64 0],.string kn,.string sv] w fun e w'=>∃A c,e= .returned (.agg #[.int .i64 5,.bool false,.int .i64 0,.string ⟨#[]⟩,.slice none 0 0,.slice A m.length c,.int .i64 0])∧w'.ownsRow 0 56 9 (.slice A m.length c) m.length (m.map cellM).flatten∧Ext w w':=by
 subst hm
 refine Calls.mono (putL_any l B d kn sv w hr hl) ?_
 rintro e w' ⟨A,c,rfl,ho,hx⟩
 have e1:l.length+1=(l++ [(kn,sv)]).length:=by simp
 rw[e1] at ho⊢
 exact ⟨A,c,rfl,own_mono ho (Nat.zero_le _),hx⟩
end
theorem own_below {w:World} {B size n g:Nat} {e:TypeId} {v:Value} {xs:List Value} (h:w.ownsRow B e size v n xs) (hg:g<B):v.ownBlock≠some g:=fun eq=>by have:=(h.lt g eq).1;omega
theorem own_setC {w:World} {B size n g:Nat} {e:TypeId} {v:Value} {xs:List Value} (h:w.ownsRow B e size v n xs) (hg:g<B) (i:Nat) (u:Value):(w.setCell ⟨g,i,none⟩ u).ownsRow B e size v n xs:=
 h.kept (row:=some g) (Bar.setCell w ⟨g,i,none⟩ u) (Or.inr (own_below h hg))
theorem EncO.setCell {w:World} {l:List Ent} {css:List (List Value)} {p:Addr} {cs0:Array Value} {fr:Nat×Nat} (h:EncO w l css) (hb:w.heap[p.block]? =some (.cells cs0 25 fr)) (u:Value):EncO (w.setCell p u) l css:=
 ⟨h.1,fun i e c hj hc=>by
  obtain ⟨A,n,d,h1,h2⟩:=h.2 i e c hj hc
  exact ⟨A,n,d,h1,own_setJ h2 hb (by decide) u⟩⟩
theorem oneE5r {a b c d:ByteArray} {u:Int}:(#[Value.string a,.string b,.string c,.string d,.int .i64 u]).all (fun u=>u.oneCell')=true:=by simp[Value.oneCell']
theorem enc_rjn {w:World} {l:List (ByteArray×ByteArray)} {E:List Ent} {css:List (List Value)} {v u:Value} (h:EncO w E css) (hr:RSl w 7 u E.length css.flatten)
 (hm:RSl w 9 v (l.length+1) ((l.map cellM).flatten++ [.string nItems,.int .i64 4,.bool false,.int .i64 0,.string ⟨#[]⟩,u,.slice none 0 0,.int .i64 0,.int .i64 0])):
 RJn 4 w (.obj 0 (l.map (fun p=>(p.1,0))++ [(nItems,0)]) (l.map (fun p=>JO.str 0 p.2)++ [.arr 0 (E.map fun e=>objO (entM e))])) (ocells v 0):=by
 refine ⟨.slice none 0 0,v,rfl,⟨[],rfl,RSl.nil w 7,fun i j c hj _=>by simp[itemsJ] at hj⟩,⟨(l.map fun p=>(p.1,strCells p.2,0))++ [(nItems,vcells 4 false 0 ⟨#[]⟩ u 0,0)],?_,by simp[vsJ],?_,fun i j m hj hm2=> ?_⟩,fun _=>rfl,fun e=>absurd rfl e⟩
 ·simp[ksJ,List.map_map,Function.comp_def]
 ·show RSl w 9 v (l.map (fun p=>JO.str 0 p.2)++ [JO.arr 0 (E.map fun e=>objO (entM e))]).length _
  rw[List.length_append,List.length_map,List.map_append,List.flatten_append,List.map_map]
  exact hm
 ·have hj':(l.map (fun p=>JO.str 0 p.2)++ [JO.arr 0 (E.map fun e=>objO (entM e))])[i]? =some j:=hj
  by_cases hi:i<l.length
  ·rw[List.getElem?_append_left (by simpa using hi),List.getElem?_map,List.getElem?_eq_getElem hi] at hj' hm2
   injection hj' with hj'
   injection hm2 with hm2
   subst hj' hm2
   exact (str_rj w l[i].2).more (by decide)
  ·rw[List.getElem?_append_right (by simpa using hi),List.length_map] at hj' hm2
   have h0:i - l.length=0:=by
    by_cases h0:i - l.length=0
    ·exact h0
    ·rw[List.getElem?_eq_none (by simp;omega)] at hj'
     cases hj'
   rw[h0] at hj' hm2
   injection hj' with hj'
   injection hm2 with hm2
   subst hj' hm2
   exact arr_rj h hr
end
section
set_option linter.unusedSimpArgs false
def vUrl:ByteArray:=⟨#[104,116,116,112,115,58,47,47,106,115,111,110,102,101,101,100,46,111,114,103,47,118,101,114,115,105,111,110,47,49,46,49]⟩
theorem refEnc_yes (x:Fc) (w:World) (hr:RdC w x) (hk:fokS x.f) (hyes:okJ x.f=true):
 Calls Tryz.prog 19 #[.agg (cellsC x).toArray] w fun e w'=>∃A n c,e= .returned (.tuple #[.agg (ocells (.slice A n c) 0).toArray,.int .i64 0])∧RJn 4 w' (encO x.f) (ocells (.slice A n c) 0)∧Ext w w':=by
 have hyes2:okF x.f=true∧x.f.path= []:=by
  unfold okJ at hyes
  simpa using hyes
 obtain ⟨hokF,hpath⟩:=hyes2
 have HCK:=gd (fun (w':World) (h:Ext w w')=>refCheckF_any x w' (hr.ext h) hk)
 rw[if_pos hokF] at HCK
 have htF:inT x.f.upd=true:=(okH_iff.1 (okF_iff.1 hokF).1).2.2.2.1
 have htE:∀e∈x.f.ents,inT e.upd=true:=fun e he=>(okE_iff.1 ((okL_iff.1 (okF_iff.1 hokF).2).1 e he)).2.2
 have hnE:=hk.2.1
 have hr1:=hr.2
 clear hokF hyes hk
 obtain ⟨xp,xes,⟨xpath,xid,xtitle,xlink,xupd,xents⟩⟩:=x
 obtain ⟨hx0,hx1⟩:=hr
 dsimp only at*
 subst hpath
 obtain ⟨xA,xc,rfl, -, -⟩:=hx0.form
 obtain ⟨xB,xd,rfl, -, -⟩:=hx1.form
 unfold cellsC fCells at HCK⊢
 dsimp only[List.length_nil] at HCK⊢
 obtain ⟨i0,hi0,hz0,hz1,hz2⟩:=info_parts_val
 obtain ⟨i9,hi9,hz9,hs9,hb9⟩:=info_partsM
 obtain ⟨W0,hW0⟩:∃W0,(w.alloc (.cells #[.slice xA 0 xc,.string xid,.string xtitle,.string xlink,.int .i64 xupd,.slice xB xents.length xd] 32)).alloc (.cells #[.int .i64 0,.bool false,.int .i64 0,.string ⟨#[]⟩,.slice none 0 0,.slice none 0 0,.int .i64 0] 25)=W0:=⟨_,rfl⟩
 have hx0':Ext w W0:=by rw[←hW0];exact ((Ext.refl w).alloc _).alloc _
 have hr0:W0.heap[w.heap.size+1]? =some (.cells #[.int .i64 0,.bool false,.int .i64 0,.string ⟨#[]⟩,.slice none 0 0,.slice none 0 0,.int .i64 0] 25 (0,0)):=by
  rw[←hW0]
  have:=heap_alloc_new (w.alloc (.cells #[.slice xA 0 xc,.string xid,.string xtitle,.string xlink,.int .i64 xupd,.slice xB xents.length xd] 32)) (.cells #[.int .i64 0,.bool false,.int .i64 0,.string ⟨#[]⟩,.slice none 0 0,.slice none 0 0,.int .i64 0] 25)
  rwa [size_alloc] at this
 have hb0:∀i v,(#[.slice xA 0 xc,.string xid,.string xtitle,.string xlink,.int .i64 xupd,.slice xB xents.length xd]:Array Value)[i]? =some v→W0.cell? ⟨w.heap.size,i,none⟩=some v:=fun i v h=>by
  rw[←hW0]
  exact ((Ext.refl (w.alloc _)).alloc _).boxed i v h
 have c0:=hb0 0 _ rfl
 have c1:=hb0 1 _ rfl
 have c2:=hb0 2 _ rfl
 have c3:=hb0 3 _ rfl
 have c4:=hb0 4 _ rfl
 have c5:=hb0 5 _ rfl
 have hW0s:W0.heap.size=w.heap.size+2:=by rw[←hW0,size_alloc,size_alloc]
 have HFB:=gd (fun (w':World)=>refFormat_any xupd w' htF)
 have HFE:=gd (fun (w':World) (t:Int) (ht:inT t=true)=>refFormat_any t w' ht)
 have HTE:=gd htE
 have HNE:=gd hnE
 have HR1:=gd (fun (w':World) (h:Ext w w')=>hr1.ext h)
 have HX0:=gd hx0'
 have HR0:=gd hr0
 obtain ⟨F,hF⟩:∃F,F=str (fmtL xupd):=⟨_,rfl⟩
 rw[←hF] at HFB
 have HB:=gd hb0
 have HWS:=gd hW0s
 have HFF:=gd hF
 clear hF hx0' hr0 hx0 hx1 hb0 htF htE hnE hr1 hW0s
 go_enter Tryz.func19,Tryz.ntmps19
 go_wp2_with (first|(go_at_call 23;(have hz:=HCK.out W0 HX0.out);(with_reducible refine Calls.mono hz ?_);clear hz;rintro e w2 ⟨rfl,hx2⟩;(have d0:=hx2.cell c0);(have d2:=hx2.cell c2);(have HX2:=gd hx2)))
 clear d0 hx2
 have hxd:=(Ext.refl w2).drew
 refine rN ?_
 change wpAny _ _ _ _ _ _ _ (World.drew _)
 refine wpAny_load (i:=2) (v:= .pointer (some ⟨w.heap.size,2,none⟩)) (fun w'=>Ext w2 w') 6 rfl (by kernel_rfl) (fun _ _ _ h=>h) (Or.inl ⟨by rfl,fun w' hS=>by go_simp⟩) hxd ?_
 refine tT 3 (.string xtitle) rfl (fun w' hS=>by have hq:=Ext.cell hS d2;go_simp) hxd ?_
 refine tT 0 (.agg #[.int .i64 5,.bool false,.int .i64 0,.string ⟨#[]⟩,.slice none 0 0,.slice none 0 0,.int .i64 0]) rfl (fun w' hS=>by go_simp) hxd ?_
 go_simp
 refine wpAnyT_told (m:=1) (f:=3) rfl #[true,true,true,true,true,true,false] (fun a0 a' w'=>∃(v1:Value) (A2:Option Addr) (c2 bA:Nat),a'=((a0.put (some 24) v1).put (some 27) (.agg #[.int .i64 5,.bool false,.int .i64 0,.string ⟨#[]⟩,.slice none 0 0,.slice A2 2 c2,.int .i64 0])).put (some 4) (.pointer (some ⟨bA,0,none⟩))∧Ext w2 w'∧w'.ownsRow w2.heap.size 56 9 (.slice A2 2 c2) 2 (([(nVersion,vUrl),(nTitle,xtitle)]).map cellM).flatten∧w2.heap.size≤bA∧w'.heap[bA]? =some (.cells #[.int .i64 0,.bool false,.int .i64 0,.string ⟨#[]⟩,.slice none 0 0,.slice none 0 0,.int .i64 0] 25 (0,0))) ?_ ?_
 ·refine wpAnyC_two (i:=1) (j:=5) rfl rfl (by kernel_rfl) (fun K hK=> ?_) (fun K hK=> ?_)
  ·go_simp
   refine Calls.mono (putL_any [] none 0 nVersion vUrl w2.drew (RSl.nil _ _) (by decide)) ?_
   rintro e w3 ⟨A1,c1,rfl,ho1,hx1⟩
   have hx3:Ext w2 w3:=hxd.trans hx1
   refine hK _ _ hx3 ?_
   clear hK K
   refine wpAnyC_two (i:=4) (j:=5) rfl rfl (by kernel_rfl) (fun K hK=> ?_) (fun K hK=> ?_)
   ·go_simp
    refine Calls.mono (putL_any [(nVersion,vUrl)] A1 c1 nTitle xtitle w3 (RSl.of_own ho1) (by decide)) ?_
    rintro e w4 ⟨A2,c2,rfl,ho2,hx2⟩
    refine hK _ _ (hx3.trans hx2) ?_
    clear hK K
    refine wpAnyC_step (i:=5) rfl (by kernel_rfl) (fun K hK=> ?_)
    go_simp
    refine hK _ _ ((hx3.trans hx2).alloc _) ?_
    exact ⟨rfl,_,A2,c2,_,rfl,(hx3.trans hx2).alloc _,own_mono (own_ext ho2 ((Ext.refl _).alloc _)) hx3.size,(hx3.trans hx2).size,heap_alloc_new w4 _⟩
   ·go_simp
    refine hK _ _ (hx3.alloc _) ?_
    clear hK K
    refine wpAnyC_step (i:=4) rfl (by kernel_rfl) (fun K hK=> ?_)
    go_simp
    refine Calls.mono (putL_any [(nVersion,vUrl)] A1 c1 nTitle xtitle _ (RSl.of_own (own_ext ho1 ((Ext.refl _).alloc _))) (by decide)) ?_
    rintro e w4 ⟨A2,c2,rfl,ho2,hx2⟩
    refine hK _ _ ((hx3.alloc _).trans hx2) ?_
    exact ⟨rfl,_,A2,c2,_,rfl,(hx3.alloc _).trans hx2,own_mono ho2 (hx3.alloc _).size,hx3.size,hx2.heap (heap_alloc_new w3 _)⟩
  ·go_simp
   have hxa:=hxd.alloc (.cells #[.int .i64 0,.bool false,.int .i64 0,.string ⟨#[]⟩,.slice none 0 0,.slice none 0 0,.int .i64 0] 25)
   refine hK _ _ hxa ?_
   clear hK K
   refine wpAnyC_step (i:=1) rfl (by kernel_rfl) (fun K hK=> ?_)
   go_simp
   refine Calls.mono (putL_any [] none 0 nVersion vUrl _ (RSl.nil _ _) (by decide)) ?_
   rintro e w3 ⟨A1,c1,rfl,ho1,hx1⟩
   refine hK _ _ (hxa.trans hx1) ?_
   clear hK K
   refine wpAnyC_step (i:=4) rfl (by kernel_rfl) (fun K hK=> ?_)
   go_simp
   refine Calls.mono (putL_any [(nVersion,vUrl)] A1 c1 nTitle xtitle w3 (RSl.of_own ho1) (by decide)) ?_
   rintro e w4 ⟨A2,c2,rfl,ho2,hx2⟩
   refine hK _ _ ((hxa.trans hx1).trans hx2) ?_
   exact ⟨rfl,_,A2,c2,_,rfl,(hxa.trans hx1).trans hx2,own_mono ho2 (hxa.trans hx1).size,Nat.le_refl _,(hx1.trans hx2).heap (heap_alloc_new w2.drew _)⟩
 rintro a' w3 ⟨v1,A2,c2,bA,rfl,hx3,ho3,hbA,hk3⟩
 refine wpAnyT_one (i:=6) rfl (by kernel_rfl) (fun K hK=> ?_)
 refine step_store_row rfl 25 (.tmp 4) (.tmp 27) rfl bA #[.int .i64 5,.bool false,.int .i64 0,.string ⟨#[]⟩,.slice none 0 0,.slice A2 2 c2,.int .i64 0] rfl rfl _ _ hk3 size_val rfl oneV7 ?_
 refine hK _ _ (fun h=>absurd (show true=false from h) (by decide)) ?_
 clear hK K
 refine wpAnyT_end (by kernel_rfl) ?_
 have HX23:Hid (Ext W0 w3):=gd (HX2.out.trans hx3)
 have HB2:Hid (W0.heap.size≤bA):=gd (Nat.le_trans HX2.out.size hbA)
 have HOB:Hid (ObA W0 (w3.setRow bA #[.int .i64 5,.bool false,.int .i64 0,.string ⟨#[]⟩,.slice none 0 0,.slice A2 2 c2,.int .i64 0]) bA [(nVersion,vUrl),(nTitle,xtitle)] A2 c2):=gd (ob_store (l:= [(nVersion,vUrl),(nTitle,xtitle)]) hk3 ho3 HX23.out HB2.out)
 obtain ⟨W3,hW3⟩:∃W3,w3.setRow bA #[.int .i64 5,.bool false,.int .i64 0,.string ⟨#[]⟩,.slice none 0 0,.slice A2 2 c2,.int .i64 0]=W3:=⟨_,rfl⟩
 rw[hW3] at HOB
 have f3:=HOB.out.2.2.cell c3
 clear hx3 ho3 hbA hk3 HX23
 try rw[hW3]
 rename_i K0 hK0
 show K0 _ _
 refine hK0 _ _ ?_
 clear hK0
 refine wp_seq ?_
 refine wp_toldA (fun a0 a' w'=>∃(u1 u2 u3 u4 u5 u6 u7:Value) (l:List (ByteArray×ByteArray)) (A:Option Addr) (c:Nat),a'=((((((a0.put (some 28) u1).put (some 29) u2).put (some 30) u3).put (some 31) u4).put (some 32) u5).put (some 33) u6).put (some 34) u7∧l= [(nVersion,vUrl),(nTitle,xtitle)]++optM nHome xlink∧ObA W0 w' bA l A c) ?_ ?_
 case refine_2=>
  go_simp
  cases hlk:xlink.toList.isEmpty with
  |true=>
   have ho:optM nHome xlink= []:=by unfold optM;rw[if_pos (empty_noS hlk)]
   go_wp2
   rw[ho]
   exact ⟨⟨_,_,_,_,_,_,_,rfl⟩,A2,c2,HOB.out⟩
  |false=>
   have ho:optM nHome xlink= [(nHome,xlink)]:=by unfold optM;rw[if_neg (fun e=>by rw[noS_empty e] at hlk;cases hlk)]
   obtain ⟨q0,q1,q2,q3,q4,q5,q6⟩:=HOB.out.cell
   obtain ⟨l3,hl3⟩:∃l3,[(nVersion,vUrl),(nTitle,xtitle)]++ [(nHome,xlink)]=l3:=⟨_,rfl⟩
   have HPT:=gd (putM_any [(nVersion,vUrl),(nTitle,xtitle)] l3 A2 c2 nHome xlink W3 hl3 HOB.out.rsl (by show 2≤100;decide))
   have HL3:=gd hl3
   have HOO:=gd ho
   clear hl3 ho
   go_wp2_with (first|(refine wpList_store_row rfl 25 (.tmp 4) (.tmp 34) rfl bA #[.int .i64 5,.bool false,.int .i64 0,.string ⟨#[]⟩,.slice none 0 0,.slice A4 l3.length c4,.int .i64 0] rfl rfl _ _ (hx4.heap HOB.out.1) size_val rfl oneV7 ?_)|(go_at_call 54;(refine Calls.mono HPT.out ?_);rintro e w4 ⟨A4,c4,rfl,ho4,hx4⟩))
   have hq:(nVersion,vUrl)::(nTitle,xtitle)::optM nHome xlink=l3:=by rw[HOO.out];exact HL3.out
   rw[hq]
   exact ⟨⟨_,_,_,_,_,_,_,rfl⟩,A4,c4,ob_store (hx4.heap HOB.out.1) ho4 (HOB.out.2.2.trans hx4) HB2.out⟩
 rintro a' w5 ⟨u1,u2,u3,u4,u5,u6,u7,l5,A5,c5',rfl,hl5,hob⟩
 have hxx:=hob.2.2
 have e1:=hxx.cell c1
 have e4:=hxx.cell c4
 have HL5:=gd hl5
 have hln:l5.length≤3:=by have:=optM_len nHome xlink;rw[hl5,List.length_append];show 2+_≤3;omega
 have HLN:=gd hln
 have HOB5:=gd hob
 clear hl5 hob hxx hln HOB f3 W3 hW3
 go_simp
 go_wp2_with (first|(refine wpList_store_row rfl 25 (.tmp 7) (.tmp 47) rfl W8.heap.size #[.int .i64 4,.bool false,.int .i64 0,.string ⟨#[]⟩,.slice none 0 0,.slice none 0 0,.int .i64 0] rfl rfl _ _ (heap_alloc_new _ _) size_val rfl oneV7 ?_;rw[setRow_newE])|(refine wpList_store_row rfl 25 (.tmp 4) (.tmp 46) rfl bA #[.int .i64 5,.bool false,.int .i64 0,.string ⟨#[]⟩,.slice none 0 0,.slice A8 l8.length c8,.int .i64 0] rfl rfl _ _ hk8 size_val rfl oneV7 ?_;(obtain ⟨W8,hW8⟩:∃W8,w8.setRow bA #[.int .i64 5,.bool false,.int .i64 0,.string ⟨#[]⟩,.slice none 0 0,.slice A8 l8.length c8,.int .i64 0]=W8:=⟨_,rfl⟩);rw[hW8];(have HOB8:Hid (ObA W0 W8 bA l8 A8 c8):=gd (by rw[←hW8];exact ob_store hk8 ho8 (HOB5.out.2.2.trans (hx6.trans (hx7.trans hx8))) HB2.out)))|(go_at_call 54;(obtain ⟨l8,hl8⟩:∃l8,l7++ [(nUpdated,F)]=l8:=⟨_,rfl⟩);(have hz:=putM_any l7 l8 A7 c7 nUpdated F w7 hl8 (RSl.of_own ho7) (by have:=HLN.out;rw[←hl7,List.length_append];show _+1≤100;omega));(refine Calls.mono hz ?_);clear hz;rintro e w8 ⟨A8,c8,rfl,ho8,hx8⟩;(have hk8:=(hx7.trans hx8).heap (hx6.heap HOB5.out.1)))|(go_at_call 54;(obtain ⟨l7,hl7⟩:∃l7,l5++ [(nFeedUrl,xid)]=l7:=⟨_,rfl⟩);(have hz:=putM_any l5 l7 A5 c5' nFeedUrl xid w6 hl7 (HOB5.out.ext hx6).rsl (by have:=HLN.out;omega));(refine Calls.mono hz ?_);clear hz;rintro e w7 ⟨A7,c7,rfl,ho7,hx7⟩)|(go_at_call 55;(have hz:=HFB.out w5);(with_reducible refine Calls.mono hz ?_);clear hz;rintro e w6 ⟨rfl,hx6⟩;(have g1:=hx6.cell e1);(obtain ⟨q0,q1,q2,q3,q4,q5,q6⟩:=(HOB5.out.ext hx6).cell)))
 have e5:=HOB8.out.2.2.cell c5
 have HL7:=gd hl7
 have HL8:=gd hl8
 have HLN8:Hid (l8.length≤5):=gd (by have:=HLN.out;rw[←hl8,←hl7,List.length_append,List.length_append];show _+1+1≤5;omega)
 clear hl7 hl8 c0 c1 c3 c4 c5 e1 e4 g1 q0 q1 q2 q3 q4 q5 q6 hx6 hx7 hx8 ho7 ho8 hk8 hW8
 go_loopw [8] (fun v wr=>∃(k:Nat) (css:List (List Value)) (IA:Option Addr) (ic:Nat),k≤xents.length∧v= .int .i64 k∧Hid (EncO wr (xents.take k) css)∧Hid (wr.ownsRow (W8.heap.size+1) 25 7 (.slice IA k ic) k css.flatten)∧Hid (wr.heap[W8.heap.size]? =some (.cells #[.int .i64 4,.bool false,.int .i64 0,.string ⟨#[]⟩,.slice IA k ic,.slice none 0 0,.int .i64 0] 25 (0,0)))∧Hid (Ext W8 wr)) (fun v _=>xents.length - (intOf v).toNat)
 case atStart=>exact ⟨0,[],none,0,Nat.zero_le _,rfl,gd (EncO.nil _),gd (World.ownsRow_nil _ _ _ _),gd (heap_alloc_new W8 _),gd ((Ext.refl W8).alloc _)⟩
 case round=>
  obtain ⟨k,css,IA,ic,hkl,rfl,henc,hown,hbi,hx⟩:=hrel
  have hne2:=HNE.out
  have e5r:=hx.out.cell e5
  by_cases hlt:k<xents.length
  ·obtain ⟨ad,c',hv,hat⟩:=(HR1.out wr (HX0.out.trans (HOB8.out.2.2.trans hx.out))).at hlt
   injection hv with hv1 hv2 hv3
   subst hv1
   clear hv2 hv3
   have hte:=HTE.out _ (List.getElem_mem hlt)
   have htk:xents.take (k+1)=xents.take k++ [xents[k]]:=List.take_succ_eq_append_getElem hlt
   obtain ⟨E,hEE⟩:∃E,xents[k]=E:=⟨_,rfl⟩
   rw[hEE] at hat hte htk
   obtain ⟨eid,etitle,elink,econt,eupd⟩:=E
   obtain ⟨a0,a1,a2,a3,a4⟩:=hat
   dsimp only at a0 a1 a2 a3 a4 hte
   obtain ⟨F1,hF1⟩:∃F1,F1=str (fmtL eupd):=⟨_,rfl⟩
   have HF1:=gd (fun (w':World)=>HFE.out w' eupd hte)
   rw[←hF1] at HF1
   have HF1E:=gd hF1
   have HTK:=gd htk
   have hi0':(0:Int)≤(k:Int):=by omega
   have hi1:(k:Int)<(xents.length:Int):=by omega
   have hw1:wrap64 ((k:Int)+1)=(k:Int)+1:=wrap_ok _ ⟨by omega,by omega⟩
   have HBY:Hid ((k+1)*96≤140737488355328):=gd (by omega)
   have HML:Hid (k+1≤maxLen):=gd (by unfold maxLen;omega)
   have HWE:Hid (Value.int .i64 (wrap64 ((k:Int)+1))=Value.int .i64 ((k+1:Nat):Int)):=gd (by rw[hw1];rfl)
   have HMS:Hid (xents.length - (intOf (Value.int .i64 (wrap64 ((k:Int)+1)))).toNat<xents.length - (intOf (Value.int .i64 (k:Int))).toNat):=gd (by rw[hw1];simp only[intOf];omega)
   clear hEE hte htk hF1 hne2 hw1
   obtain ⟨W1,hW1⟩:∃W1,wr.alloc (.cells #[.string eid,.string etitle,.string elink,.string econt,.int .i64 eupd] 64)=W1:=⟨_,rfl⟩
   have hx1:Ext wr W1:=by rw[←hW1];exact (Ext.refl wr).alloc _
   have he0:∀i v,(#[.string eid,.string etitle,.string elink,.string econt,.int .i64 eupd]:Array Value)[i]? =some v→W1.cell? ⟨wr.heap.size,i,none⟩=some v:=fun i v h=>by
    rw[←hW1]
    exact (Ext.refl (wr.alloc _)).boxed i v h
   have b0:=he0 0 _ rfl
   have b1:=he0 1 _ rfl
   have b2:=he0 2 _ rfl
   have b3:=he0 3 _ rfl
   have b4:=he0 4 _ rfl
   have HX1:=gd hx1
   clear hx1 he0
   go_wp2_with (first|(refine wpList_store_row rfl 25 (.tmp 10) (.tmp 63) rfl w2'.heap.size #[.int .i64 5,.bool false,.int .i64 0,.string ⟨#[]⟩,.slice none 0 0,.slice A1 l1.length c1,.int .i64 0] rfl rfl _ _ (heap_alloc_new _ _) size_val rfl oneV7 ?_;rw[setRow_newE];(obtain ⟨W2,hW2⟩:∃W2,w2'.alloc (.cells #[.int .i64 5,.bool false,.int .i64 0,.string ⟨#[]⟩,.slice none 0 0,.slice A1 l1.length c1,.int .i64 0] 25)=W2:=⟨_,rfl⟩);rw[hW2];(have HOX:Hid (ObA W1 W2 w2'.heap.size l1 A1 c1):=gd (by rw[←hW2];exact ⟨heap_alloc_new w2' _,own_ext ho2 ((Ext.refl w2').alloc _),hx2.alloc _⟩));rename_i K5 hK5;(have HK5:=gd hK5);clear hK5)|(go_at_call 54;(obtain ⟨l1,hl1⟩:∃l1,[]++ [(nId,eid)]=l1:=⟨_,rfl⟩);(have hz:=putM_any [] l1 none 0 nId eid W1 hl1 (RSl.nil _ _) (by decide));(refine Calls.mono hz ?_);clear hz;rintro e w2' ⟨A1,c1,rfl,ho2,hx2⟩)|(refine wpList_store_row rfl 64 (.tmp 9) (.tmp 59) rfl wr.heap.size #[.string eid,.string etitle,.string elink,.string econt,.int .i64 eupd] rfl rfl _ _ (heap_alloc_new _ _) size_ent rfl oneE5r ?_;rw[setRow_newE];rw[hW1]))
   have HL1:=gd hl1
   have HXB:Hid (W1.heap.size≤w2'.heap.size):=gd hx2.size
   obtain ⟨xb,hxb⟩:∃xb,w2'.heap.size=xb:=⟨_,rfl⟩
   rw[hxb] at HOX HXB
   try rw[hxb]
   clear hl1 hx2 ho2 hW2 hxb
   refine HK5.out _ _ ?_
   clear HK5 K5
   have HOBX:=HOX
   have g2:=HOX.out.2.2.cell b2
   refine wp_seq ?_
   refine wp_toldA (fun a0 a' w'=>∃(u1 u2 u3 u4 u5 u6 u7:Value) (l:List (ByteArray×ByteArray)) (A:Option Addr) (c:Nat),a'=((((((a0.put (some 64) u1).put (some 65) u2).put (some 66) u3).put (some 67) u4).put (some 68) u5).put (some 69) u6).put (some 70) u7∧l=l1++optM nUrl elink∧ObA W1 w' xb l A c) ?_ ?_
   case refine_2=>
    go_simp
    cases hlk:elink.toList.isEmpty with
    |true=>
     have ho:optM nUrl elink= []:=by unfold optM;rw[if_pos (empty_noS hlk)]
     go_wp2
     rw[ho,List.append_nil]
     exact ⟨⟨_,_,_,_,_,_,_,rfl⟩,A1,c1,HOBX.out⟩
    |false=>
     have ho:optM nUrl elink= [(nUrl,elink)]:=by unfold optM;rw[if_neg (fun e=>by rw[noS_empty e] at hlk;cases hlk)]
     obtain ⟨q0,q1,q2,q3,q4,q5,q6⟩:=HOBX.out.cell
     obtain ⟨lj,hlj⟩:∃lj,l1++ [(nUrl,elink)]=lj:=⟨_,rfl⟩
     have HPT:=gd (putM_any l1 lj A1 c1 nUrl elink W2 hlj HOBX.out.rsl (by rw[←HL1.out];show 1≤100;decide))
     have HLJ:=gd hlj
     have HOO:=gd ho
     clear hlj ho
     go_wp2_with (first|(refine wpList_store_row rfl 25 (.tmp 10) (.tmp 70) rfl xb #[.int .i64 5,.bool false,.int .i64 0,.string ⟨#[]⟩,.slice none 0 0,.slice Aj lj.length cj,.int .i64 0] rfl rfl _ _ (hxj.heap HOBX.out.1) size_val rfl oneV7 ?_)|(go_at_call 54;(refine Calls.mono HPT.out ?_);rintro e wj ⟨Aj,cj,rfl,hoj,hxj⟩))
     rw[HOO.out,HLJ.out]
     exact ⟨⟨_,_,_,_,_,_,_,rfl⟩,Aj,cj,ob_store (hxj.heap HOBX.out.1) hoj (HOBX.out.2.2.trans hxj) HXB.out⟩
   rintro a' w5b ⟨u1,u2,u3,u4,u5,u6,u7,l5b,A5b,c5b,rfl,hlq,hob⟩
   have hxx:=hob.2.2
   have g1:=hxx.cell b1
   obtain ⟨q0,q1,q2,q3,q4,q5,q6⟩:=hob.cell
   have HL5b:=gd hlq
   have HLN5:Hid (l5b.length≤2):=gd (by have:=optM_len nUrl elink;rw[hlq,←HL1.out,List.length_append];show 1+_≤2;omega)
   have HOX5:=gd hob
   clear hlq hob hxx HOX HOBX b2
   go_simp
   go_wp2_with (first|(refine wpList_store_row rfl 25 (.tmp 10) (.tmp 74) rfl xb #[.int .i64 5,.bool false,.int .i64 0,.string ⟨#[]⟩,.slice none 0 0,.slice A6 l6.length c6,.int .i64 0] rfl rfl _ _ hk6 size_val rfl oneV7 ?_;(obtain ⟨W6,hW6⟩:∃W6,w6.setRow xb #[.int .i64 5,.bool false,.int .i64 0,.string ⟨#[]⟩,.slice none 0 0,.slice A6 l6.length c6,.int .i64 0]=W6:=⟨_,rfl⟩);rw[hW6];(have HOX6:Hid (ObA W1 W6 xb l6 A6 c6):=gd (by rw[←hW6];exact ob_store hk6 ho6 (HOX5.out.2.2.trans hx6) HXB.out));rename_i K6 hK6;(have HK6:=gd hK6);clear hK6)|(go_at_call 54;(obtain ⟨l6,hl6⟩:∃l6,l5b++ [(nTitle,etitle)]=l6:=⟨_,rfl⟩);(have hz:=putM_any l5b l6 A5b c5b nTitle etitle w5b hl6 HOX5.out.rsl (by have:=HLN5.out;omega));(refine Calls.mono hz ?_);clear hz;rintro e w6 ⟨A6,c6,rfl,ho6,hx6⟩;(have hk6:=hx6.heap HOX5.out.1)))
   have HL6:=gd hl6
   have HLN6:Hid (l6.length≤3):=gd (by have:=HLN5.out;rw[←hl6,List.length_append];show _+1≤3;omega)
   have g3:=HOX6.out.2.2.cell b3
   clear hl6 hk6 ho6 hx6 hW6
   refine HK6.out _ _ ?_
   clear HK6 K6
   refine wp_seq ?_
   refine wp_toldA (fun a0 a' w'=>∃(u1 u2 u3 u4 u5 u6 u7:Value) (l:List (ByteArray×ByteArray)) (A:Option Addr) (c:Nat),a'=((((((a0.put (some 75) u1).put (some 76) u2).put (some 77) u3).put (some 78) u4).put (some 79) u5).put (some 80) u6).put (some 81) u7∧l=l6++optM nText econt∧ObA W1 w' xb l A c) ?_ ?_
   case refine_2=>
    go_simp
    cases hlk:econt.toList.isEmpty with
    |true=>
     have ho:optM nText econt= []:=by unfold optM;rw[if_pos (empty_noS hlk)]
     go_wp2
     rw[ho,List.append_nil]
     exact ⟨⟨_,_,_,_,_,_,_,rfl⟩,A6,c6,HOX6.out⟩
    |false=>
     have ho:optM nText econt= [(nText,econt)]:=by unfold optM;rw[if_neg (fun e=>by rw[noS_empty e] at hlk;cases hlk)]
     obtain ⟨q0,q1,q2,q3,q4,q5,q6⟩:=HOX6.out.cell
     obtain ⟨lj,hlj⟩:∃lj,l6++ [(nText,econt)]=lj:=⟨_,rfl⟩
     have HPT:=gd (putM_any l6 lj A6 c6 nText econt W6 hlj HOX6.out.rsl (by have:=HLN6.out;omega))
     have HLJ:=gd hlj
     have HOO:=gd ho
     clear hlj ho
     go_wp2_with (first|(refine wpList_store_row rfl 25 (.tmp 10) (.tmp 81) rfl xb #[.int .i64 5,.bool false,.int .i64 0,.string ⟨#[]⟩,.slice none 0 0,.slice Aj lj.length cj,.int .i64 0] rfl rfl _ _ (hxj.heap HOX6.out.1) size_val rfl oneV7 ?_)|(go_at_call 54;(refine Calls.mono HPT.out ?_);rintro e wj ⟨Aj,cj,rfl,hoj,hxj⟩))
     rw[HOO.out,HLJ.out]
     exact ⟨⟨_,_,_,_,_,_,_,rfl⟩,Aj,cj,ob_store (hxj.heap HOX6.out.1) hoj (HOX6.out.2.2.trans hxj) HXB.out⟩
   rintro a' w7b ⟨u1,u2,u3,u4,u5,u6,u7,l7b,A7b,c7b,rfl,hlq,hob⟩
   have hxx:=hob.2.2
   have g4:=hxx.cell b4
   have HL7b:=gd hlq
   have HLN7:Hid (l7b.length≤4):=gd (by have:=optM_len nText econt;have h3:=HLN6.out;rw[hlq,List.length_append];omega)
   have HOX7:=gd hob
   clear hlq hob hxx HOX6 HOX5 g3 q0 q1 q2 q3 q4 q5 q6
   go_simp
   go_wp2_with (first|(go_at_call 55;(have hz:=HF1.out w7b);(with_reducible refine Calls.mono hz ?_);clear hz;rintro e w8b ⟨rfl,hx8⟩;(have HOX8:=gd (HOX7.out.ext hx8))))
   obtain ⟨lm,hlm⟩:∃lm,l7b++ [(nMod,F1)]=lm:=⟨_,rfl⟩
   have hx18:=HX1.out.trans HOX8.out.2.2
   have hbi8:=hx18.heap hbi.out
   have hxb8:=HOX8.out.1
   have hne1:(Value.slice IA k ic).ownBlock≠some W8.heap.size:=own_below hown.out (Nat.lt_succ_self _)
   have hne2:(Value.slice IA k ic).ownBlock≠some xb:=fun e=>by have h1:=(hown.out.lt _ e).2;have h2:=HXB.out;have h3:=HX1.out.size;omega
   have hxd:=(Ext.refl w8b).drew
   have hS0:w8b.drew.heap[W8.heap.size]? =some (.cells #[.int .i64 4,.bool false,.int .i64 0,.string ⟨#[]⟩,.slice IA k ic,.slice none 0 0,.int .i64 0] 25 (0,0))∧w8b.drew.heap[xb]? =some (.cells #[.int .i64 5,.bool false,.int .i64 0,.string ⟨#[]⟩,.slice none 0 0,.slice A7b l7b.length c7b,.int .i64 0] 25 (0,0)):=⟨hxd.heap hbi8,hxd.heap hxb8⟩
   have HLM:=gd hlm
   have HX18:=gd hx18
   have HOW:=gd (own_ext hown.out (hx18.trans hxd))
   clear hlm hx18 hbi8 hxb8 hx8 g1 g4 e5r a0 a1 a2 a3 a4 b0 b1 b3 b4
   refine rN ?_
   change wpAny _ _ _ _ _ _ _ (World.drew _)
   refine wpAny_load (i:=0) (v:= .pointer (some ⟨W8.heap.size,4,none⟩)) (fun w'=>w'.heap[W8.heap.size]? =some (.cells #[.int .i64 4,.bool false,.int .i64 0,.string ⟨#[]⟩,.slice IA k ic,.slice none 0 0,.int .i64 0] 25 (0,0))∧w'.heap[xb]? =some (.cells #[.int .i64 5,.bool false,.int .i64 0,.string ⟨#[]⟩,.slice none 0 0,.slice A7b l7b.length c7b,.int .i64 0] 25 (0,0))) 8 rfl (by kernel_rfl) (fun _ _ _ h=>h) (Or.inl ⟨by rfl,fun w' hS=>by go_simp⟩) hS0 ?_
   refine tT 1 (.slice IA k ic) rfl (fun w' hS=>by have hq:=cell_of_row _ _ 4 _ _ _ hS.1;go_simp) hS0 ?_
   refine tT 2 (.agg #[.int .i64 5,.bool false,.int .i64 0,.string ⟨#[]⟩,.slice none 0 0,.slice A7b l7b.length c7b,.int .i64 0]) rfl (fun w' hS=>by have p0:=cell_of_row _ _ 0 _ _ _ hS.2;have p1:=cell_of_row _ _ 1 _ _ _ hS.2;have p2:=cell_of_row _ _ 2 _ _ _ hS.2;have p3:=cell_of_row _ _ 3 _ _ _ hS.2;have p4:=cell_of_row _ _ 4 _ _ _ hS.2;have p5:=cell_of_row _ _ 5 _ _ _ hS.2;have p6:=cell_of_row _ _ 6 _ _ _ hS.2;go_simp) hS0 ?_
   refine tT 3 (.string F1) rfl (fun w' hS=>by go_simp) hS0 ?_
   go_simp
   refine wpAnyT_one (i:=4) rfl (by kernel_rfl) (fun K hK=> ?_)
   go_simp
   refine Calls.mono (putM_any l7b lm A7b c7b nMod F1 w8b.drew HLM.out (HOX8.out.rsl.ext hxd) (by have:=HLN7.out;omega)) ?_
   rintro e w9 ⟨Am,cm,rfl,hom,hxm⟩
   have hS9:=(⟨hxm.heap hS0.1,hxm.heap hS0.2⟩:w9.heap[W8.heap.size]? =some (.cells #[.int .i64 4,.bool false,.int .i64 0,.string ⟨#[]⟩,.slice IA k ic,.slice none 0 0,.int .i64 0] 25 (0,0))∧w9.heap[xb]? =some (.cells #[.int .i64 5,.bool false,.int .i64 0,.string ⟨#[]⟩,.slice none 0 0,.slice A7b l7b.length c7b,.int .i64 0] 25 (0,0)))
   refine hK _ _ (fun _=>hS9) ?_
   clear hK K
   refine wpAnyT_one (i:=5) rfl (by kernel_rfl) (fun K hK=> ?_)
   go_simp
   have hxa:=(Ext.refl w9).alloc (.cells #[.int .i64 5,.bool false,.int .i64 0,.string ⟨#[]⟩,.slice none 0 0,.slice Am lm.length cm,.int .i64 0] 25)
   refine hK _ _ (fun _=>⟨hxa.heap hS9.1,hxa.heap hS9.2⟩) ?_
   clear hK K
   have HOWA:=gd (own_ext HOW.out (hxm.trans hxa))
   have HNEW:Hid (RSl (w9.alloc (.cells #[.int .i64 5,.bool false,.int .i64 0,.string ⟨#[]⟩,.slice none 0 0,.slice Am lm.length cm,.int .i64 0] 25)) 7 (.slice (some ⟨w9.heap.size,0,none⟩) 1 1) 1 [.int .i64 5,.bool false,.int .i64 0,.string ⟨#[]⟩,.slice none 0 0,.slice Am lm.length cm,.int .i64 0]):=gd (rsl_new (w:=w9) (n:=1) (cs:= [.int .i64 5,.bool false,.int .i64 0,.string ⟨#[]⟩,.slice none 0 0,.slice Am lm.length cm,.int .i64 0]) rfl (by decide))
   have HX8A:=gd (hx.out.trans (HX18.out.trans (hxd.trans (hxm.trans hxa))))
   have HSZ:Hid (W8.heap.size+1≤(w9.alloc (.cells #[.int .i64 5,.bool false,.int .i64 0,.string ⟨#[]⟩,.slice none 0 0,.slice Am lm.length cm,.int .i64 0] 25)).heap.size):=gd (by have h1:=(Array.getElem?_eq_some_iff.1 hS9.1).1;have h2:=hxa.size;omega)
   refine wpAnyT_one (i:=6) rfl (by kernel_rfl) (fun K hK=> ?_)
   refine step_append_rsl _ (by rfl) (.tmp 89) (.tmp 93) _ (by rfl) (W8.heap.size+1) 25 i0 _ 7 96 Tryz.underlying22 hi0 hz0 hz1 hz2 rfl (by decide) _ k css.flatten (by rfl) HOWA.out _ 1 [.int .i64 5,.bool false,.int .i64 0,.string ⟨#[]⟩,.slice none 0 0,.slice Am lm.length cm,.int .i64 0] (by rfl) HNEW.out oneV7l HML.out HBY.out HSZ.out ?_
   intro v9 w9b hown9 hg9 hat9
   have hb9:=(hg9.block _ (Array.getElem?_eq_some_iff.1 (hxa.heap hS9.1)).1 (fun e=>hne1 e.symm)).trans (hxa.heap hS9.1)
   have hxb9:=(hg9.block _ (Array.getElem?_eq_some_iff.1 (hxa.heap hS9.2)).1 (fun e=>hne2 e.symm)).trans (hxa.heap hS9.2)
   obtain ⟨A9,c9,rfl⟩:=ownJ_form hown9
   refine hK _ _ (fun _=>⟨hb9,hxb9⟩) ?_
   clear hK K
   have q94:=cell_of_row _ _ 4 _ _ _ hb9
   have f94:w9b.frozen? ⟨W8.heap.size,4,none⟩=false:=Lib.frozen_of_heap hb9 4
   refine wpAnyT_one (i:=7) rfl (by kernel_rfl) (fun K hK=> ?_)
   go_simp
   refine hK _ _ (fun _=>⟨hb9,hxb9⟩) ?_
   clear hK K
   refine wpAnyT_one (i:=8) rfl (by kernel_rfl) (fun K hK=> ?_)
   go_simp
   refine hK _ _ (fun h=>absurd (show true=false from h) (by decide)) ?_
   clear hK K
   refine wpAnyT_end (by kernel_rfl) ?_
   obtain ⟨WN,hWN⟩:∃WN,w9b.setCell ⟨W8.heap.size,4,none⟩ (.slice A9 (k+1) c9)=WN:=⟨_,rfl⟩
   rw[hWN]
   have hlme:lm=entM ⟨eid,etitle,elink,econt,eupd⟩:=by
    rw[←HLM.out,HL7b.out,←HL6.out,HL5b.out,←HL1.out,HF1E.out]
    unfold entM
    simp
   have HEO:Hid (EncO WN (xents.take (k+1)) (css++ [ocells (.slice Am lm.length cm) 0])):=gd (by
    rw[HTK.out,←hWN]
    have h1:=(henc.out.ext (HX18.out.trans (hxd.trans (hxm.trans hxa)))).app HOWA.out hg9
    have h2:=own_types (own_ext hom hxa) HOWA.out (by decide) hg9
    exact (h1.snoc (by rw[←hlme];exact h2)).setCell hb9 _)
   have HOWN:Hid (WN.ownsRow (W8.heap.size+1) 25 7 (.slice A9 (k+1) c9) (k+1) (css++ [ocells (.slice Am lm.length cm) 0]).flatten):=gd (by
    rw[←hWN,List.flatten_append]
    exact own_setC (by simpa [ocells] using hown9) (Nat.lt_succ_self _) 4 _)
   have HBN:Hid (WN.heap[W8.heap.size]? =some (.cells #[.int .i64 4,.bool false,.int .i64 0,.string ⟨#[]⟩,.slice A9 (k+1) c9,.slice none 0 0,.int .i64 0] 25 (0,0))):=gd (by rw[←hWN,heap_setCell_same _ _ _ _ _ _ hb9];rfl)
   have HXN:Hid (Ext W8 WN):=gd (by rw[←hWN];exact (Ext.app HX8A.out hg9 HOWA.out (Nat.le_succ _)).setCell (p:=⟨W8.heap.size,4,none⟩) (Nat.le_refl _) _)
   clear hWN hb9 hxb9 hown9 hg9 hat9 hlme q94 f94 hS9 hS0 hxm hxa hom hxd
   go_wp2
   go_roundw
   case rel=>exact ⟨k+1,_,A9,c9,hlt,HWE.out,HEO,HOWN,HBN,HXN⟩
   case measure=>exact HMS.out
  ·have hke:k=xents.length:=by omega
   subst hke
   rw[List.take_length] at henc
   have HOBr:=gd (HOB8.out.ext hx.out)
   have HBI:=hbi
   clear hlt hkl hne2
   go_wp2
   clear e5r
   refine rN ?_
   change wpAny _ _ _ _ _ _ _ (World.drew _)
   have hxd:=(Ext.refl wr).drew
   refine wpAny_load (i:=1) (v:= .pointer (some ⟨bA,5,none⟩)) (fun w'=>Ext wr w') 9 rfl (by kernel_rfl) (fun _ _ _ h=>h) (Or.inl ⟨by rfl,fun w' hS=>by go_simp⟩) hxd ?_
   refine tT 2 (.slice A8 l8.length c8) rfl (fun w' hS=>by have hq:=Ext.cell hS HOBr.out.cell.2.2.2.2.2.1;go_simp) hxd ?_
   refine tT 4 (.agg #[.int .i64 4,.bool false,.int .i64 0,.string ⟨#[]⟩,.slice IA xents.length ic,.slice none 0 0,.int .i64 0]) rfl (fun w' hS=>by have hq:=Ext.heap hS HBI.out;have p0:=cell_of_row _ _ 0 _ _ _ hq;have p1:=cell_of_row _ _ 1 _ _ _ hq;have p2:=cell_of_row _ _ 2 _ _ _ hq;have p3:=cell_of_row _ _ 3 _ _ _ hq;have p4:=cell_of_row _ _ 4 _ _ _ hq;have p5:=cell_of_row _ _ 5 _ _ _ hq;have p6:=cell_of_row _ _ 6 _ _ _ hq;go_simp) hxd ?_
   refine tT 5 (.agg #[.string ⟨#[105,116,101,109,115]⟩,.int .i64 4,.bool false,.int .i64 0,.string ⟨#[]⟩,.slice IA xents.length ic,.slice none 0 0,.int .i64 0,.int .i64 0]) rfl (fun w' hS=>by go_simp) hxd ?_
   go_simp
   have hone:∀u∈(l8.map cellM).flatten,u.oneCell'=true:=flat_one (fun c hc=>by
    obtain ⟨m,hm,rfl⟩:=List.mem_map.1 hc
    exact cellM_one m)
   have HONE:=gd hone
   have hn8:=HLN8.out
   clear hone
   refine wpAnyT_told (m:=3) (f:=3) rfl #[true,true,true,true,true,true,true,false,false,false] (fun a0 a' w'=>∃(x1 v2:Value) (bN:Nat),a'=((a0.put (some 96) x1).put (some 99) v2).put (some 102) (.slice (some ⟨bN,0,none⟩) 1 1)∧Ext wr w'∧w'.ownsRow wr.heap.size 56 9 v2 l8.length (l8.map cellM).flatten∧RSl w' 9 (.slice (some ⟨bN,0,none⟩) 1 1) 1 [.string ⟨#[105,116,101,109,115]⟩,.int .i64 4,.bool false,.int .i64 0,.string ⟨#[]⟩,.slice IA xents.length ic,.slice none 0 0,.int .i64 0,.int .i64 0]) ?_ ?_
   ·refine wpAnyC_two (i:=0) (j:=6) rfl rfl (by kernel_rfl) (fun K hK=> ?_) (fun K hK=> ?_)
    ·go_simp
     have hxa:=hxd.alloc (.cells #[] 56)
     have HOW:=gd (own_newB (b:=wr.heap.size) (base:=wr.heap.size) (e:=56) (size:=9) (n:=0) (cs:= []) (Nat.le_refl _) (heap_alloc_new wr.drew (.cells #[] 56)) rfl (by decide))
     refine hK _ _ hxa ?_
     clear hK K
     refine wpAnyC_two (i:=3) (j:=6) rfl rfl (by kernel_rfl) (fun K hK=> ?_) (fun K hK=> ?_)
     ·refine step_append_rsl _ (by rfl) (.tmp 96) (.tmp 98) _ (by rfl) wr.heap.size 56 i9 _ 9 120 Tryz.underlying23 hi9 hz9 hs9 hb9 rfl (by decide) _ 0 [] (by rfl) HOW.out _ l8.length (l8.map cellM).flatten (by rfl) (HOBr.out.rsl.ext hxa) HONE.out (by unfold maxLen;omega) (by omega) (hxa).size ?_
      intro v9 w9 hown9 hg9 hat9
      have hx9:Ext wr w9:=Ext.app hxa hg9 HOW.out (Nat.le_refl _)
      rw[Nat.zero_add,List.nil_append] at hown9
      refine hK _ _ hx9 ?_
      clear hK K
      refine wpAnyC_step (i:=6) rfl (by kernel_rfl) (fun K hK=> ?_)
      go_simp
      refine hK _ _ (hx9.alloc _) ?_
      exact ⟨rfl,_,v9,_,rfl,hx9.alloc _,own_ext hown9 ((Ext.refl _).alloc _),rsl_new (w:=w9) (n:=1) (cs:= [.string ⟨#[105,116,101,109,115]⟩,.int .i64 4,.bool false,.int .i64 0,.string ⟨#[]⟩,.slice IA xents.length ic,.slice none 0 0,.int .i64 0,.int .i64 0]) rfl (by decide)⟩
     ·go_simp
      have hxb:=hxa.alloc (.cells #[.string ⟨#[105,116,101,109,115]⟩,.int .i64 4,.bool false,.int .i64 0,.string ⟨#[]⟩,.slice IA xents.length ic,.slice none 0 0,.int .i64 0,.int .i64 0] 56)
      have HOW2:=gd (own_ext HOW.out ((Ext.refl _).alloc (.cells #[.string ⟨#[105,116,101,109,115]⟩,.int .i64 4,.bool false,.int .i64 0,.string ⟨#[]⟩,.slice IA xents.length ic,.slice none 0 0,.int .i64 0,.int .i64 0] 56)))
      refine hK _ _ hxb ?_
      clear hK K
      refine wpAnyC_step (i:=3) rfl (by kernel_rfl) (fun K hK=> ?_)
      refine step_append_rsl _ (by rfl) (.tmp 96) (.tmp 98) _ (by rfl) wr.heap.size 56 i9 _ 9 120 Tryz.underlying23 hi9 hz9 hs9 hb9 rfl (by decide) _ 0 [] (by rfl) HOW2.out _ l8.length (l8.map cellM).flatten (by rfl) (HOBr.out.rsl.ext hxb) HONE.out (by unfold maxLen;omega) (by omega) (hxb).size ?_
      intro v9 w9 hown9 hg9 hat9
      have hx9:Ext wr w9:=Ext.app hxb hg9 HOW2.out (Nat.le_refl _)
      rw[Nat.zero_add,List.nil_append] at hown9
      refine hK _ _ hx9 ?_
      exact ⟨rfl,_,v9,_,rfl,hx9,hown9,RSl.grown (RSl.of_own (own_newB (b:=wr.heap.size+1) (base:=0) (e:=56) (size:=9) (n:=1) (cs:= [.string ⟨#[105,116,101,109,115]⟩,.int .i64 4,.bool false,.int .i64 0,.string ⟨#[]⟩,.slice IA xents.length ic,.slice none 0 0,.int .i64 0,.int .i64 0]) (Nat.zero_le _) (heap2J wr.drew (.cells #[] 56) (.cells #[.string ⟨#[105,116,101,109,115]⟩,.int .i64 4,.bool false,.int .i64 0,.string ⟨#[]⟩,.slice IA xents.length ic,.slice none 0 0,.int .i64 0,.int .i64 0] 56)) rfl (by decide))) hg9 (Or.inr (fun e=>absurd (Option.some.inj e) (by show ¬wr.heap.size+1=wr.heap.size;omega)))⟩
    ·go_simp
     have hxa:=hxd.alloc (.cells #[.string ⟨#[105,116,101,109,115]⟩,.int .i64 4,.bool false,.int .i64 0,.string ⟨#[]⟩,.slice IA xents.length ic,.slice none 0 0,.int .i64 0,.int .i64 0] 56)
     refine hK _ _ hxa ?_
     clear hK K
     refine wpAnyC_step (i:=0) rfl (by kernel_rfl) (fun K hK=> ?_)
     go_simp
     have hxb:=hxa.alloc (.cells #[] 56)
     have HOW:=gd (own_newB (b:=wr.heap.size+1) (base:=wr.heap.size) (e:=56) (size:=9) (n:=0) (cs:= []) (Nat.le_succ _) (heap2J wr.drew (.cells #[.string ⟨#[105,116,101,109,115]⟩,.int .i64 4,.bool false,.int .i64 0,.string ⟨#[]⟩,.slice IA xents.length ic,.slice none 0 0,.int .i64 0,.int .i64 0] 56) (.cells #[] 56)) rfl (by decide))
     refine hK _ _ hxb ?_
     clear hK K
     refine wpAnyC_step (i:=3) rfl (by kernel_rfl) (fun K hK=> ?_)
     refine step_append_rsl _ (by rfl) (.tmp 96) (.tmp 98) _ (by rfl) wr.heap.size 56 i9 _ 9 120 Tryz.underlying23 hi9 hz9 hs9 hb9 rfl (by decide) _ 0 [] (by rfl) HOW.out _ l8.length (l8.map cellM).flatten (by rfl) (HOBr.out.rsl.ext hxb) HONE.out (by unfold maxLen;omega) (by omega) (hxb).size ?_
     intro v9 w9 hown9 hg9 hat9
     have hx9:Ext wr w9:=Ext.app hxb hg9 HOW.out (Nat.le_refl _)
     rw[Nat.zero_add,List.nil_append] at hown9
     refine hK _ _ hx9 ?_
     exact ⟨rfl,_,v9,_,rfl,hx9,hown9,RSl.grown (RSl.of_own (own_newB (b:=wr.heap.size) (base:=0) (e:=56) (size:=9) (n:=1) (cs:= [.string ⟨#[105,116,101,109,115]⟩,.int .i64 4,.bool false,.int .i64 0,.string ⟨#[]⟩,.slice IA xents.length ic,.slice none 0 0,.int .i64 0,.int .i64 0]) (Nat.zero_le _) (((Ext.refl _).alloc _).heap (heap_alloc_new wr.drew (.cells #[.string ⟨#[105,116,101,109,115]⟩,.int .i64 4,.bool false,.int .i64 0,.string ⟨#[]⟩,.slice IA xents.length ic,.slice none 0 0,.int .i64 0,.int .i64 0] 56))) rfl (by decide))) hg9 (Or.inr (fun e=>absurd (Option.some.inj e) (by show ¬wr.heap.size=wr.heap.size+1;omega)))⟩
   rintro a' w7 ⟨x1,v2,bN,rfl,hx7,hown7,hnew7⟩
   obtain ⟨A2b,c2b,rfl⟩:=ownJ_form hown7
   refine wpAnyT_one (i:=7) rfl (by kernel_rfl) (fun K hK=> ?_)
   refine step_append_rsl _ (by rfl) (.tmp 99) (.tmp 102) _ (by rfl) wr.heap.size 56 i9 _ 9 120 Tryz.underlying23 hi9 hz9 hs9 hb9 rfl (by decide) _ l8.length (l8.map cellM).flatten (by rfl) hown7 _ 1 [.string ⟨#[105,116,101,109,115]⟩,.int .i64 4,.bool false,.int .i64 0,.string ⟨#[]⟩,.slice IA xents.length ic,.slice none 0 0,.int .i64 0,.int .i64 0] (by rfl) hnew7 oneV9 (by unfold maxLen;omega) (by omega) hx7.size ?_
   intro v9 w9 hown9 hg9 hat9
   have hx9:Ext wr w9:=Ext.app hx7 hg9 hown7 (Nat.le_refl _)
   obtain ⟨A3,c3',rfl⟩:=ownJ_form hown9
   refine hK _ _ (fun _=>hx9) ?_
   clear hK K
   have hbA:=hx9.heap HOBr.out.1
   have q95:=cell_of_row _ _ 5 _ _ _ hbA
   have f95:w9.frozen? ⟨bA,5,none⟩=false:=Lib.frozen_of_heap hbA 5
   have HX9:=gd hx9
   refine wpAnyT_one (i:=8) rfl (by kernel_rfl) (fun K hK=> ?_)
   go_simp
   refine hK _ _ (fun _=>HX9.out) ?_
   clear hK K
   refine wpAnyT_one (i:=9) rfl (by kernel_rfl) (fun K hK=> ?_)
   go_simp
   refine hK _ _ (fun h=>absurd (show true=false from h) (by decide)) ?_
   clear hK K
   refine wpAnyT_end (by kernel_rfl) ?_
   obtain ⟨WF,hWF⟩:∃WF,w9.setCell ⟨bA,5,none⟩ (.slice A3 (l8.length+1) c3')=WF:=⟨_,rfl⟩
   rw[hWF]
   have hbF:WF.heap[bA]? =some (.cells #[.int .i64 5,.bool false,.int .i64 0,.string ⟨#[]⟩,.slice none 0 0,.slice A3 (l8.length+1) c3',.int .i64 0] 25 (0,0)):=by rw[←hWF,heap_setCell_same _ _ _ _ _ _ hbA];rfl
   have hne:bA≠w.heap.size+1:=by have h1:=HB2.out;have h2:=HWS.out;omega
   have hx0r:=HOB8.out.2.2.trans hx.out
   have hkd:WF.heap[w.heap.size+1]? =some (.cells #[.int .i64 0,.bool false,.int .i64 0,.string ⟨#[]⟩,.slice none 0 0,.slice none 0 0,.int .i64 0] 25 (0,0)):=by
    rw[←hWF,heap_setCell_other _ _ _ _ (by show w.heap.size+1≠bA;omega)]
    exact (hx0r.trans hx9).heap HR0.out
   have p0:=cell_of_row _ _ 0 _ _ _ hbF
   have p1:=cell_of_row _ _ 1 _ _ _ hbF
   have p2:=cell_of_row _ _ 2 _ _ _ hbF
   have p3:=cell_of_row _ _ 3 _ _ _ hbF
   have p4:=cell_of_row _ _ 4 _ _ _ hbF
   have p5:=cell_of_row _ _ 5 _ _ _ hbF
   have p6:=cell_of_row _ _ 6 _ _ _ hbF
   have hbw8:bA<W8.heap.size:=(Array.getElem?_eq_some_iff.1 HOB8.out.1).1
   have hrw8:w.heap.size+1<W8.heap.size:=by have h1:=HOB8.out.2.2.size;have h2:=HWS.out;omega
   have hl8e:l8=feedM ⟨[],xid,xtitle,xlink,xupd,xents⟩:=by
    rw[←HL8.out,←HL7.out,HL5.out,HFF.out]
    unfold feedM
    simp
    rfl
   have HM9:Hid ((WF.setRow (w.heap.size+1) #[.int .i64 5,.bool false,.int .i64 0,.string ⟨#[]⟩,.slice none 0 0,.slice A3 (l8.length+1) c3',.int .i64 0]).ownsRow wr.heap.size 56 9 (.slice A3 (l8.length+1) c3') (l8.length+1) ((l8.map cellM).flatten++ [.string ⟨#[105,116,101,109,115]⟩,.int .i64 4,.bool false,.int .i64 0,.string ⟨#[]⟩,.slice IA xents.length ic,.slice none 0 0,.int .i64 0,.int .i64 0])):=gd (own_other (by rw[←hWF];exact own_setJ hown9 hbA (by decide) _) hkd (by decide) _)
   have HI9:Hid ((WF.setRow (w.heap.size+1) #[.int .i64 5,.bool false,.int .i64 0,.string ⟨#[]⟩,.slice none 0 0,.slice A3 (l8.length+1) c3',.int .i64 0]).ownsRow (W8.heap.size+1) 25 7 (.slice IA xents.length ic) xents.length css.flatten):=gd (own_setRow (by rw[←hWF];exact own_setC (own_ext hown.out hx9) (Nat.lt_succ_of_lt hbw8) 5 _) (Nat.lt_succ_of_lt hrw8) _)
   have HE9:Hid (EncO (WF.setRow (w.heap.size+1) #[.int .i64 5,.bool false,.int .i64 0,.string ⟨#[]⟩,.slice none 0 0,.slice A3 (l8.length+1) c3',.int .i64 0]) xents css):=gd (EncO.setRow (by rw[←hWF];exact (henc.out.ext hx9).setCell hbA _) hkd _)
   have HXF:Hid (Ext w (WF.setRow (w.heap.size+1) #[.int .i64 5,.bool false,.int .i64 0,.string ⟨#[]⟩,.slice none 0 0,.slice A3 (l8.length+1) c3',.int .i64 0])):=gd ((by rw[←hWF];exact (HX0.out.trans (hx0r.trans hx9)).setCell (p:=⟨bA,5,none⟩) (Nat.le_trans HX0.out.size HB2.out) _:Ext w WF).setRow (Nat.le_succ _) _)
   have HL8E:=gd hl8e
   clear hWF hbF hne hx0r hbw8 hrw8 hl8e hown9 hown7 hnew7 hg9 hat9 hx9 hx7 hbA q95 f95 hxd hn8
   go_wp2_with (first|(refine wpList_store_row rfl 25 (.tmp 2) (.tmp 105) rfl (w.heap.size+1) #[.int .i64 5,.bool false,.int .i64 0,.string ⟨#[]⟩,.slice none 0 0,.slice A3 (l8.length+1) c3',.int .i64 0] rfl rfl _ _ hkd size_val rfl oneV7 ?_))
   ((try simp only[Exit.inBlock,Exit.then]);refine bodyPost_ret (results_cell_row2 rfl _ _ _ _ #[.int .i64 5,.bool false,.int .i64 0,.string ⟨#[]⟩,.slice none 0 0,.slice A3 (l8.length+1) c3',.int .i64 0] _ _ rfl (setRow_heap _ _ _ _ _ _ hkd) Tryz.underlying25 rfl size_val) rfl ?_)
   refine ⟨A3,l8.length+1,c3',rfl,?_,HXF.out⟩
   unfold encO
   rw[←HL8E.out]
   exact enc_rjn HE9.out (RSl.of_own HI9.out) (RSl.of_own HM9.out)
end
section
set_option linter.unusedSimpArgs false
theorem refWrite_yes (x:Fc) (w:World) (hr:RdC w x) (hk:fokS x.f) (hyes:okJ x.f=true) (hs:smallJ x.f):
 Calls Tryz.prog 21 #[.agg (cellsC x).toArray] w fun e w'=>e= .returned (.tuple #[.string (textF x.f),.int .i64 0])∧Ext w w':=by
 have hwr:=smallJ_wr hs hyes
 have HEN:=gd (fun (w':World) (h:Ext w w')=>refEnc_yes x w' (hr.ext h) hk hyes)
 have hjl:(jtext (encJ x.f)).length≤140737488355328:=Nat.le_trans (encJ_len (by decide) hwr) (by have:=hk.2.1;omega)
 have HWR:=gd (fun (cs:List Value) (w':World) (hv:RJn 4 w' (encO x.f) cs)=>writeEnc_any hwr hjl 4 (by decide) cs w' hv)
 have hT0:str (jtext (encJ x.f))=textF x.f:=rfl
 rw[hT0] at HWR
 obtain ⟨T,hT⟩:∃T,textF x.f=T:=⟨_,rfl⟩
 obtain ⟨J,hJ⟩:∃J,encO x.f=J:=⟨_,rfl⟩
 rw[hT,hJ] at HWR
 rw[hJ] at HEN
 rw[hT]
 clear hT hJ hT0 hjl hwr hs
 obtain ⟨xp,xes,⟨xpath,xid,xtitle,xlink,xupd,xents⟩⟩:=x
 obtain ⟨hx0,hx1⟩:=hr
 dsimp only at*
 obtain ⟨xA,xc,rfl, -, -⟩:=hx0.form
 obtain ⟨xB,xd,rfl, -, -⟩:=hx1.form
 unfold cellsC fCells at HEN⊢
 dsimp only at HEN⊢
 clear hk hyes hx0 hx1
 go_enter Tryz.func21,Tryz.ntmps21
 go_wp2_with (first|(go_at_call 57;(have hz:=HWR.out _ _ (RJn.ext ((Ext.refl w2).alloc (.cells #[.int .i64 5,.bool false,.int .i64 0,.string ⟨#[]⟩,.slice none 0 0,.slice A n c,.int .i64 0] 25)) HV2.out));(refine Calls.mono hz ?_);clear hz;rintro e w3 ⟨rfl,hx3⟩)|(go_at_call 19;(have hz:=HEN.out _ ((Ext.refl w).alloc (.cells #[.slice xA xpath.length xc,.string xid,.string xtitle,.string xlink,.int .i64 xupd,.slice xB xents.length xd] 32)));(refine Calls.mono hz ?_);clear hz;rintro e w2 ⟨A,n,c,rfl,hv,hx2⟩;(unfold ocells at hv⊢);(have HV2:=gd hv);(have HX2:=gd (((Ext.refl w).alloc (.cells #[.slice xA xpath.length xc,.string xid,.string xtitle,.string xlink,.int .i64 xupd,.slice xB xents.length xd] 32)).trans hx2));clear hv))
 go_ret2
 exact ⟨rfl,(HX2.out.alloc _).trans hx3⟩
end
end Go.Proofs.YthlnaldahkgjnaaGreatDoor
