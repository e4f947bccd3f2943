/- Parts of the proof: contracts and plain laws. -/
import Derived.Test.YthlnaldahkgjnaaGreatDoorY09
namespace Go.Proofs.YthlnaldahkgjnaaGreatDoor
open Go Go.RowKit
set_option linter.unusedVariables false
set_option linter.unusedSimpArgs false
set_option maxRecDepth 100000
set_option maxHeartbeats 16000000
section
set_option linter.unusedSimpArgs false
attribute [local go_sem] calm1
theorem itemsGo_step {l:List UInt8} {V:Nat→Option (JO×Nat)} {k a:Nat} {acc:List JO}:itemsGo l V (k+1) a acc=match V (spAt l a) with
 |none=>none
 |some (v,to_)=>if hasAt l (spAt l to_) [93] then some (acc++ [v],spAt l to_+1) else if hasAt l (spAt l to_) [44] then itemsGo l V k (spAt l to_+1) (acc++ [v]) else none:=by
 conv=>lhs;unfold itemsGo
 rfl
theorem ownJ_form {w:World} {base size n:Nat} {e:TypeId} {v:Value} {xs:List Value} (h:w.ownsRow base e size v n xs):∃A c,v= .slice A n c:=by
 rcases h.2 with ⟨rfl,rfl⟩|⟨g,cap,cur,rfl,_⟩
 ·exact ⟨none,0,rfl⟩
 ·exact ⟨_,cap,rfl⟩
theorem own_newB {W:World} {b base size n:Nat} {cs:List Value} {e:TypeId} (hb:base≤b) (hk:W.heap[b]? =some (.cells cs.toArray e (0,0))) (h:cs.length=n*size) (hm:n≤maxLen):W.ownsRow base e size (.slice (some ⟨b,0,none⟩) n n) n cs:=
 ⟨h,.inr ⟨b,n,cs.toArray,rfl,hb,hk,Nat.le_refl _,hm,by simpa using h,by rw[←h];simp⟩⟩
theorem NIts.ones {n B:Nat} {w:World} {v:Value} {l:List JO} {css:List (List Value)} (h:NIts n B w v l css):∀u∈css.flatten,u.oneCell'=true:=by
 intro u hu
 obtain ⟨c,hc,hu⟩:=List.mem_flatten.1 hu
 obtain ⟨i,hi,rfl⟩:=List.mem_iff_getElem.1 hc
 obtain ⟨A,p,c,B,q,d,he⟩:=(h.2.2 i (l[i]'(by rw[←h.1];exact hi)) css[i] (List.getElem?_eq_getElem _) (List.getElem?_eq_getElem hi)).rj.cells
 rw[he] at hu
 exact wcells_one u hu
structure ReadV (s:ByteArray) (D:Nat) (V:Nat→Option (JO×Nat)):Prop where
 call:∀(a:Nat) (w:World),a≤s.size→Calls Tryz.prog 64 #[.string s,.int .i64 (a:Nat),.int .i64 ((D:Int)+1)] w fun e w'=>ValR w.heap.size w' (V a) e∧Ext w w'
 gt:∀a j to_,V a=some (j,to_)→a<to_∧to_≤s.size
theorem jArr_any (s:ByteArray) (fr D:Nat) (V:Nat→Option (JO×Nat)) (w:World) (hs:s.size≤1000000000000) (hfr:fr<s.size) (h91:s.data.toList[fr]? =some 91) (hV:ReadV s D V) (hD:D≤100) (hs2:s.size≤80000000000):
 Calls Tryz.prog 110 #[.string s,.int .i64 (fr:Nat),.int .i64 (D:Nat)] w fun e w'=>ValR w.heap.size w' (listP s.data.toList V fr false) e∧Ext w w':=by
 obtain ⟨i0,hi0,hz0,hz1,hz2⟩:=info_parts_val
 have hcf:(s[fr].toNat:Int)=91:=by
  rw[List.getElem?_eq_getElem (by rw[data_len];exact hfr)] at h91
  injection h91 with h91
  have e:s[fr].toNat=91:=(u8_iff (n:=91) (by decide)).1 h91
  omega
 have j0:(0:Int)≤(fr:Int):=by omega
 have hDi:(D:Int)≤100:=by omega
 have j1:(fr:Int)<(s.size:Int):=by omega
 have hlp:listP s.data.toList V fr false=if hasAt s.data.toList (spAt s.data.toList (fr+1)) [93] then some (.arr fr [],spAt s.data.toList (fr+1)+1) else match itemsGo s.data.toList V (s.size+1) (spAt s.data.toList (fr+1)) [] with
  |some (vs,to_)=>some (.arr fr vs,to_)
  |none=>none:=by unfold listP;rfl
 obtain ⟨F1,hF1⟩:∃F,fr+1=F:=⟨_,rfl⟩
 have hF1i:(fr:Int)+1=(F1:Int):=by omega
 have hF1s:F1≤s.size:=by omega
 rw[hF1] at hlp
 have HS1:=gd (fun w'=>jSpaces_any s F1 w' hs2 hF1s)
 have hP0:spAt s.data.toList F1≤s.size:=by have:=spAt_le (s:=s.data.toList) (k:=F1) (by rw[data_len];exact hF1s);rwa [data_len] at this
 obtain ⟨P0,hP0e⟩:∃P,spAt s.data.toList F1=P:=⟨_,rfl⟩
 rw[hP0e] at hlp HS1 hP0
 have HH0:=gd (fun w'=>jHas_any s ⟨#[93]⟩ P0 w' (by unfold maxLen;omega) (by unfold maxLen;omega) (by unfold maxLen;decide) (by decide))
 obtain ⟨R,hR⟩:∃R,listP s.data.toList V fr false=R:=⟨_,rfl⟩
 rw[hR] at hlp⊢
 obtain ⟨W1,hW1⟩:∃W1,(w.alloc (.cells #[.int .i64 0,.bool false,.int .i64 0,.string ⟨#[]⟩,.slice none 0 0,.slice none 0 0,.int .i64 0,.int .i64 0,.int .i64 0] 109)).alloc (.cells #[.int .i64 4,.bool false,.int .i64 0,.string ⟨#[]⟩,.slice none 0 0,.slice none 0 0,.int .i64 (fr:Nat)] 25)=W1:=⟨_,rfl⟩
 have hx1:Ext w W1:=by rw[←hW1];exact ((Ext.refl w).alloc _).alloc _
 have hb1:W1.heap[w.heap.size+1]? =some (.cells #[.int .i64 4,.bool false,.int .i64 0,.string ⟨#[]⟩,.slice none 0 0,.slice none 0 0,.int .i64 (fr:Nat)] 25 (0,0)):=by rw[←hW1];exact heap2J w _ _
 have hr1:W1.heap[w.heap.size]? =some (.cells #[.int .i64 0,.bool false,.int .i64 0,.string ⟨#[]⟩,.slice none 0 0,.slice none 0 0,.int .i64 0,.int .i64 0,.int .i64 0] 109 (0,0)):=by
  rw[←hW1]
  exact ((Ext.refl _).alloc _).heap (heap_alloc_new w _)
 have hsz1:W1.heap.size=w.heap.size+2:=by rw[←hW1,size_alloc,size_alloc]
 have HX1:=gd hx1
 have HB1:=gd hb1
 have HR1:=gd hr1
 have HSZ:=gd hsz1
 have b0:=cell_of_row _ _ 0 _ _ _ hb1
 have b1:=cell_of_row _ _ 1 _ _ _ hb1
 have b2:=cell_of_row _ _ 2 _ _ _ hb1
 have b3:=cell_of_row _ _ 3 _ _ _ hb1
 have b4:=cell_of_row _ _ 4 _ _ _ hb1
 have b5:=cell_of_row _ _ 5 _ _ _ hb1
 have b6:=cell_of_row _ _ 6 _ _ _ hb1
 clear hx1 hb1 hr1 hsz1 hF1 h91 hs
 cases hh:hasAt s.data.toList P0 (⟨#[93]⟩:ByteArray).data.toList with
 |true=>
  rw[hh] at HH0
  rw[if_pos (show hasAt s.data.toList P0 [93]=true from hh)] at hlp
  subst hlp
  clear hR hh hV hP0e
  go_enter Tryz.func110,Tryz.ntmps110
  go_wp2_with (first|(refine wpList_store_row rfl 109 (.tmp 6) (.tmp 32) rfl w.heap.size _ rfl rfl _ _ HR1.out size_res rfl oneR ?_)|(go_at_call 65;(with_reducible refine Calls.mono (HS1.out _) ?_);rintro e w4 ⟨rfl,hw4⟩;(have hw4':=hw4.symm);clear hw4;subst hw4')|(go_at_call 63;(with_reducible refine Calls.mono (HH0.out _) ?_);rintro e w4 ⟨rfl,hw4⟩;(have hw4':=hw4.symm);clear hw4;subst hw4'))
  ((try simp only[Exit.inBlock,Exit.then]);refine bodyPost_ret (results_cell_row rfl _ _ _ _ _ _ _ rfl (setRow_heap _ _ _ _ _ _ HR1.out) Tryz.underlying109 rfl size_res) rfl ?_)
  exact ⟨⟨none,0,0,none,0,0,1,rfl,NJn.leaf (j:= .arr fr []) ⟨rfl,rfl,rfl⟩⟩,HX1.out.setRow (Nat.le_refl _) _⟩
 |false=>
  rw[hh] at HH0
  rw[if_neg (show ¬hasAt s.data.toList P0 [93]=true by rw[show hasAt s.data.toList P0 [93]=false from hh];decide)] at hlp
  have HLP:=gd hlp
  have HV:=gd hV
  clear hR hh hlp hV hP0e
  have HN0:Hid (W1.ownsRow W1.heap.size 25 7 (.slice none 0 0) 0 []):=World.ownsRow_nil _ _ _ _
  go_enter Tryz.func110,Tryz.ntmps110
  go_wp2_with (first|(go_at_call 65;(with_reducible refine Calls.mono (HS1.out _) ?_);rintro e w4 ⟨rfl,hw4⟩;(have hw4':=hw4.symm);clear hw4;subst hw4')|(go_at_call 63;(with_reducible refine Calls.mono (HH0.out _) ?_);rintro e w4 ⟨rfl,hw4⟩;(have hw4':=hw4.symm);clear hw4;subst hw4'))
  clear b0 b1 b2 b3 b4 b5 b6
  go_loopw [9] (fun v wr=>∃(a k n:Nat) (acc:List JO) (css:List (List Value)) (IA:Option Addr) (ic:Nat),a≤s.size∧s.size<k+a∧acc.length≤a∧v= .int .i64 (a:Nat)∧Hid (itemsGo s.data.toList V (s.size+1) P0 []=itemsGo s.data.toList V k a acc)∧
   Hid (NIts n W1.heap.size wr (.slice IA acc.length ic) acc css)∧Hid (wr.heap[w.heap.size+1]? =some (.cells #[.int .i64 4,.bool false,.int .i64 0,.string ⟨#[]⟩,.slice IA acc.length ic,.slice none 0 0,.int .i64 (fr:Nat)] 25 (0,0)))∧Hid (wr.heap[w.heap.size]? =some (.cells #[.int .i64 0,.bool false,.int .i64 0,.string ⟨#[]⟩,.slice none 0 0,.slice none 0 0,.int .i64 0,.int .i64 0,.int .i64 0] 109 (0,0)))∧W1.heap.size≤wr.heap.size∧Ext w wr) (fun v _=>s.size - (intOf v).toNat)
  case atStart=>exact ⟨P0,s.size+1,0,[],[],none,0,hP0,by omega,Nat.zero_le _,rfl,rfl,⟨rfl,HN0.out,fun i j c hj _=>by simp at hj⟩,HB1.out,HR1.out,Nat.le_refl _,HX1.out⟩
  case round=>
   obtain ⟨a,k,n,acc,css,IA,ic,ha,hk,hla,rfl,hgo,hits,hvb,hrb,hsz,hxw⟩:=hrel
   obtain ⟨k,rfl⟩:∃k',k=k'+1:=⟨k - 1,by omega⟩
   have hgo2:=hgo.out.trans itemsGo_step
   have hPa:spAt s.data.toList a≤s.size:=by have:=spAt_le (s:=s.data.toList) (k:=a) (by rw[data_len];exact ha);rwa [data_len] at this
   have HSPa:=gd (fun w'=>jSpaces_any s a w' hs2 ha)
   have hage:=spAt_ge s.data.toList a
   obtain ⟨P,hP⟩:∃P,spAt s.data.toList a=P:=⟨_,rfl⟩
   rw[hP] at hPa hgo2 HSPa hage
   have HCV:=gd (HV.out.call P wr hPa)
   have hb:=hvb.out
   have c0:=cell_of_row _ _ 0 _ _ _ hb
   clear hP hb hgo
   cases hva:V P with
   |none=>
    rw[hva] at hgo2 HCV
    have hres:R=none:=by rw[HLP.out,hgo2]
    subst hres
    clear hgo2 hva
    go_wp2_with (first|(refine wpList_store_row rfl 109 (.tmp 6) (.tmp 61) rfl w.heap.size _ rfl rfl _ _ hrb5 size_res rfl oneR ?_)|(go_at_call 65;(with_reducible refine Calls.mono (HSPa.out _) ?_);rintro e w4 ⟨rfl,hw4⟩;(have hw4':=hw4.symm);clear hw4;subst hw4')|(go_at_call 64;go_loud ((have hz:=HCV.out);(with_reducible refine Calls.mono hz ?_);clear hz;rintro e w5 ⟨⟨b,x,hx0,rfl⟩,hx5⟩;(have hx0i:((x:Int) !=0)=true:=by rw[bne_iff_ne];omega);(have hrb5:=(hx5.alloc (.cells #[.int .i64 0,.bool false,.int .i64 0,.string ⟨#[]⟩,.slice none 0 0,.slice none 0 0,.int .i64 0,.int .i64 (b:Nat),.int .i64 (x:Nat)] 109)).heap hrb.out))))
    ((try simp only[Exit.inBlock,Exit.then]);refine bodyPost_ret (results_cell_row rfl _ _ _ _ _ _ _ rfl (setRow_heap _ _ _ _ _ _ hrb5) Tryz.underlying109 rfl size_res) rfl ?_)
    exact ⟨⟨b,x,hx0,rfl⟩,((hxw.trans hx5).alloc _).setRow (Nat.le_refl _) _⟩
   |some p=>
    obtain ⟨o,z⟩:=p
    rw[hva] at hgo2 HCV
    simp only at hgo2
    obtain ⟨hgt1,hgt2⟩:=HV.out.gt P o z hva
    have HSPz:=gd (fun w'=>jSpaces_any s z w' hs2 hgt2)
    have hQ:spAt s.data.toList z≤s.size:=by have:=spAt_le (s:=s.data.toList) (k:=z) (by rw[data_len];exact hgt2);rwa [data_len] at this
    have hQge:=spAt_ge s.data.toList z
    obtain ⟨Q,hQe⟩:∃Q,spAt s.data.toList z=Q:=⟨_,rfl⟩
    rw[hQe] at HSPz hQ hgo2 hQge
    have HH1:=gd (fun w'=>jHas_any s ⟨#[93]⟩ Q w' (by unfold maxLen;omega) (by unfold maxLen;omega) (by unfold maxLen;decide) (by decide))
    have HH2:=gd (fun w'=>jHas_any s ⟨#[44]⟩ Q w' (by unfold maxLen;omega) (by unfold maxLen;omega) (by unfold maxLen;decide) (by decide))
    have HW:=gd (fun w'=>jWrong_any s Q w')
    have HGO:=gd hgo2
    clear hgo2 hQe hva
    go_wp2_with (first|(go_at_call 65;(with_reducible refine Calls.mono (HSPa.out _) ?_);rintro e w4 ⟨rfl,hw4⟩;(have hw4':=hw4.symm);clear hw4;subst hw4')|(go_at_call 64;(have hzz:=HCV.out);(with_reducible refine Calls.mono hzz ?_);clear hzz;rintro e w5 ⟨⟨A,pp,cc,C,qq,dd,n2,rfl,hnj⟩,hx5⟩;(have HNJ:=gd hnj);clear hnj;(have c0:=hx5.cell c0);(have c0:=((Ext.refl w5).alloc (.cells #[.int .i64 (kindJ o:Nat),.bool (bJ o),.int .i64 (nJ o),.string (sJ o),.slice A pp cc,.slice C qq dd,.int .i64 (atJ o:Nat),.int .i64 (z:Nat),.int .i64 0] 109)).cell c0)))
    obtain ⟨W6,hW6⟩:∃W6,w5.alloc (.cells #[.int .i64 (kindJ o:Nat),.bool (bJ o),.int .i64 (nJ o),.string (sJ o),.slice A pp cc,.slice C qq dd,.int .i64 (atJ o:Nat),.int .i64 (z:Nat),.int .i64 0] 109)=W6:=⟨_,rfl⟩
    rw[hW6]
    have hx56:Ext w5 W6:=by rw[←hW6];exact (Ext.refl w5).alloc _
    have hx6:Ext wr W6:=hx5.trans hx56
    have ht6:W6.heap[w5.heap.size]? =some (.cells #[.int .i64 (kindJ o:Nat),.bool (bJ o),.int .i64 (nJ o),.string (sJ o),.slice A pp cc,.slice C qq dd,.int .i64 (atJ o:Nat),.int .i64 (z:Nat),.int .i64 0] 109 (0,0)):=by rw[←hW6];exact heap_alloc_new w5 _
    have hb6:=hx6.heap hvb.out
    have hr6:=hx6.heap hrb.out
    have hits6:=hits.out.keep (KF.of hx6)
    have hnj6:=HNJ.out.keep (KF.of hx56)
    have q0:=cell_of_row _ _ 0 _ _ _ ht6
    have q1:=cell_of_row _ _ 1 _ _ _ ht6
    have q2:=cell_of_row _ _ 2 _ _ _ ht6
    have q3:=cell_of_row _ _ 3 _ _ _ ht6
    have q4:=cell_of_row _ _ 4 _ _ _ ht6
    have q5:=cell_of_row _ _ 5 _ _ _ ht6
    have q6:=cell_of_row _ _ 6 _ _ _ ht6
    have q7:=cell_of_row _ _ 7 _ _ _ ht6
    have c4:=cell_of_row _ _ 4 _ _ _ hb6
    have HX6:=gd hx6
    have HXW:=gd hxw
    have HT6:=gd ht6
    have HB6:=gd hb6
    have HR6:=gd hr6
    have HI6:=gd hits6
    have HJ6:=gd hnj6
    have hwb:W1.heap.size≤W6.heap.size:=Nat.le_trans hsz hx6.size
    have htb:W1.heap.size≤w5.heap.size:=Nat.le_trans hsz hx5.size
    have hsz16:acc.length*96≤14073748835532:=by omega
    clear hx56 hx6 ht6 hb6 hr6 hits6 hnj6 hW6 hx5 hxw HNJ
    refine rN ?_
    change wpAny _ _ _ _ _ _ _ (World.drew _)
    have hxd:=(Ext.refl W6).drew
    refine wpAny_load (i:=1) (v:= .pointer (some ⟨w.heap.size+1,4,none⟩)) (fun w'=>Ext W6 w') 9 rfl (by kernel_rfl) (fun _ _ _ h=>h) (Or.inl ⟨by rfl,fun w' hS=>by go_simp⟩) hxd ?_
    refine tT 2 (.slice IA acc.length ic) rfl (fun w' hS=>by have hq:=Ext.cell hS c4;go_simp) hxd ?_
    refine tT 4 (.pointer (some ⟨w5.heap.size,0,none⟩)) rfl (fun w' hS=>by go_simp) hxd ?_
    refine tT 5 (.agg #[.int .i64 (kindJ o:Nat),.bool (bJ o),.int .i64 (nJ o),.string (sJ o),.slice A pp cc,.slice C qq dd,.int .i64 (atJ o:Nat)]) rfl (fun w' hS=>by have e0:=Ext.cell hS q0;have e1:=Ext.cell hS q1;have e2:=Ext.cell hS q2;have e3:=Ext.cell hS q3;have e4:=Ext.cell hS q4;have e5:=Ext.cell hS q5;have e6:=Ext.cell hS q6;go_simp) hxd ?_
    go_simp
    refine wpAnyT_told (m:=3) (f:=3) rfl #[true,true,true,true,true,true,true,false,false,false] (fun a0 a' w'=>∃(x1 v2:Value) (bA:Nat),a'=((a0.put (some 77) x1).put (some 80) v2).put (some 83) (.slice (some ⟨bA,0,none⟩) 1 1)∧Ext W6 w'∧w'.ownsRow W6.heap.size 25 7 v2 acc.length css.flatten∧RSl w' 7 (.slice (some ⟨bA,0,none⟩) 1 1) 1 (wcells (kindJ o) (bJ o) (nJ o) (sJ o) (.slice A pp cc) (.slice C qq dd) (atJ o))) ?_ ?_
    ·have HOI:=gd (RSl.of_own HI6.out.2.1)
     have HONE:=gd (NIts.ones HI6.out)
     refine wpAnyC_two (i:=0) (j:=6) rfl rfl (by kernel_rfl) (fun K hK=> ?_) (fun K hK=> ?_)
     ·go_simp
      have hxa:=hxd.alloc (.cells #[] 25)
      have HOW:=gd (own_newB (b:=W6.heap.size) (base:=W6.heap.size) (e:=25) (size:=7) (n:=0) (cs:= []) (Nat.le_refl _) (heap_alloc_new W6.drew (.cells #[] 25)) rfl (by decide))
      refine hK _ _ hxa ?_
      clear hK K
      refine wpAnyC_two (i:=3) (j:=6) rfl rfl (by kernel_rfl) (fun K hK=> ?_) (fun K hK=> ?_)
      ·refine step_append_rsl _ (by rfl) (.tmp 77) (.tmp 79) _ (by rfl) W6.heap.size 25 i0 _ 7 96 Tryz.underlying22 hi0 hz0 hz1 hz2 rfl (by decide) _ 0 [] (by rfl) HOW.out _ acc.length css.flatten (by rfl) (HOI.out.ext hxa) HONE.out (by unfold maxLen;omega) (by omega) (hxa).size ?_
       intro v9 w9 hown9 hg9 hat9
       have hx9:Ext W6 w9:=Ext.app hxa hg9 HOW.out (Nat.le_refl _)
       rw[Nat.zero_add,List.nil_append] at hown9
       refine hK _ _ hx9 ?_
       clear hK K
       refine wpAnyC_step (i:=6) rfl (by kernel_rfl) (fun K hK=> ?_)
       go_simp
       refine hK _ _ (hx9.alloc _) ?_
       refine ⟨rfl,_,v9,_,rfl,hx9.alloc _,own_ext hown9 ((Ext.refl _).alloc _),rsl_new (w:=w9) (n:=1) (cs:=(wcells (kindJ o) (bJ o) (nJ o) (sJ o) (.slice A pp cc) (.slice C qq dd) (atJ o))) rfl (by decide)⟩
      ·go_simp
       have hxb:=hxa.alloc (.cells #[.int .i64 (kindJ o:Nat),.bool (bJ o),.int .i64 (nJ o),.string (sJ o),.slice A pp cc,.slice C qq dd,.int .i64 (atJ o:Nat)] 25)
       have HOW2:=gd (own_ext HOW.out ((Ext.refl _).alloc (.cells #[.int .i64 (kindJ o:Nat),.bool (bJ o),.int .i64 (nJ o),.string (sJ o),.slice A pp cc,.slice C qq dd,.int .i64 (atJ o:Nat)] 25)))
       refine hK _ _ hxb ?_
       clear hK K
       refine wpAnyC_step (i:=3) rfl (by kernel_rfl) (fun K hK=> ?_)
       refine step_append_rsl _ (by rfl) (.tmp 77) (.tmp 79) _ (by rfl) W6.heap.size 25 i0 _ 7 96 Tryz.underlying22 hi0 hz0 hz1 hz2 rfl (by decide) _ 0 [] (by rfl) HOW2.out _ acc.length css.flatten (by rfl) (HOI.out.ext hxb) HONE.out (by unfold maxLen;omega) (by omega) (hxb).size ?_
       intro v9 w9 hown9 hg9 hat9
       have hx9:Ext W6 w9:=Ext.app hxb hg9 HOW2.out (Nat.le_refl _)
       rw[Nat.zero_add,List.nil_append] at hown9
       refine hK _ _ hx9 ?_
       refine ⟨rfl,_,v9,_,rfl,hx9,hown9,RSl.grown (RSl.of_own (own_newB (b:=W6.heap.size+1) (base:=0) (e:=25) (n:=1) (cs:=(wcells (kindJ o) (bJ o) (nJ o) (sJ o) (.slice A pp cc) (.slice C qq dd) (atJ o))) (Nat.zero_le _) (heap2J W6.drew (.cells #[] 25) (.cells #[.int .i64 (kindJ o:Nat),.bool (bJ o),.int .i64 (nJ o),.string (sJ o),.slice A pp cc,.slice C qq dd,.int .i64 (atJ o:Nat)] 25)) rfl (by decide))) hg9 (Or.inr (fun e=>absurd (Option.some.inj e) (by show ¬W6.heap.size+1=W6.heap.size;omega)))⟩
     ·go_simp
      have hxa:=hxd.alloc (.cells #[.int .i64 (kindJ o:Nat),.bool (bJ o),.int .i64 (nJ o),.string (sJ o),.slice A pp cc,.slice C qq dd,.int .i64 (atJ o:Nat)] 25)
      refine hK _ _ hxa ?_
      clear hK K
      refine wpAnyC_step (i:=0) rfl (by kernel_rfl) (fun K hK=> ?_)
      go_simp
      have hxb:=hxa.alloc (.cells #[] 25)
      have HOW:=gd (own_newB (b:=W6.heap.size+1) (base:=W6.heap.size) (e:=25) (size:=7) (n:=0) (cs:= []) (Nat.le_succ _) (heap2J W6.drew (.cells #[.int .i64 (kindJ o:Nat),.bool (bJ o),.int .i64 (nJ o),.string (sJ o),.slice A pp cc,.slice C qq dd,.int .i64 (atJ o:Nat)] 25) (.cells #[] 25)) rfl (by decide))
      refine hK _ _ hxb ?_
      clear hK K
      refine wpAnyC_step (i:=3) rfl (by kernel_rfl) (fun K hK=> ?_)
      refine step_append_rsl _ (by rfl) (.tmp 77) (.tmp 79) _ (by rfl) W6.heap.size 25 i0 _ 7 96 Tryz.underlying22 hi0 hz0 hz1 hz2 rfl (by decide) _ 0 [] (by rfl) HOW.out _ acc.length css.flatten (by rfl) (HOI.out.ext hxb) HONE.out (by unfold maxLen;omega) (by omega) (hxb).size ?_
      intro v9 w9 hown9 hg9 hat9
      have hx9:Ext W6 w9:=Ext.app hxb hg9 HOW.out (Nat.le_refl _)
      rw[Nat.zero_add,List.nil_append] at hown9
      refine hK _ _ hx9 ?_
      refine ⟨rfl,_,v9,_,rfl,hx9,hown9,RSl.grown (RSl.of_own (own_newB (b:=W6.heap.size) (base:=0) (e:=25) (n:=1) (cs:=(wcells (kindJ o) (bJ o) (nJ o) (sJ o) (.slice A pp cc) (.slice C qq dd) (atJ o))) (Nat.zero_le _) (((Ext.refl _).alloc _).heap (heap_alloc_new W6.drew (.cells #[.int .i64 (kindJ o:Nat),.bool (bJ o),.int .i64 (nJ o),.string (sJ o),.slice A pp cc,.slice C qq dd,.int .i64 (atJ o:Nat)] 25))) rfl (by decide))) hg9 (Or.inr (fun e=>absurd (Option.some.inj e) (by show ¬W6.heap.size=W6.heap.size+1;omega)))⟩
    rintro a' w7 ⟨x1,v2,bA,rfl,hx7,hown,hnew⟩
    obtain ⟨A2,c2,rfl⟩:=ownJ_form hown
    have HOW7:=gd hown
    have HNW7:=gd hnew
    have HX7:=gd hx7
    have hwb7:=Nat.le_trans (Nat.le_of_eq rfl) hx7.size
    clear hown hnew
    refine wpAnyT_one (i:=7) rfl (by kernel_rfl) (fun K hK=> ?_)
    refine step_append_rsl _ (by rfl) (.tmp 80) (.tmp 83) _ (by rfl) W6.heap.size 25 i0 _ 7 96 Tryz.underlying22 hi0 hz0 hz1 hz2 rfl (by decide) _ acc.length css.flatten (by rfl) HOW7.out _ 1 (wcells (kindJ o) (bJ o) (nJ o) (sJ o) (.slice A pp cc) (.slice C qq dd) (atJ o)) (by rfl) HNW7.out wcells_one (by unfold maxLen;omega) (by omega) hx7.size ?_
    intro v9 w9 hown9 hg9 hat9
    have hx9:Ext W6 w9:=Ext.app HX7.out hg9 HOW7.out (Nat.le_refl _)
    obtain ⟨A3,c3,rfl⟩:=ownJ_form hown9
    refine hK _ _ (fun _=>hx9) ?_
    clear hK K
    have HOW9:=gd hown9
    have HX9:=gd hx9
    have hb9:=hx9.heap HB6.out
    have c9:=cell_of_row _ _ 4 _ _ _ hb9
    have f9:w9.frozen? ⟨w.heap.size+1,4,none⟩=false:=Lib.frozen_of_heap hb9 4
    refine wpAnyT_one (i:=8) rfl (by kernel_rfl) (fun K hK=> ?_)
    go_simp
    refine hK _ _ (fun _=>HX9.out) ?_
    clear hK K
    refine wpAnyT_one (i:=9) rfl (by kernel_rfl) (fun K hK=> ?_)
    go_simp
    refine hK _ _ (fun h=>absurd (show true=false from h) (by decide)) ?_
    clear hK K
    refine wpAnyT_end (by kernel_rfl) ?_
    have hszw:=HSZ.out
    obtain ⟨W9,hW9⟩:∃W9,w9.setCell ⟨w.heap.size+1,4,none⟩ (.slice A3 (acc.length+1) c3)=W9:=⟨_,rfl⟩
    rw[hW9]
    have hk9:KF W1.heap.size w9 W9:=by rw[←hW9];exact KF.setCell _ _ _ (by show w.heap.size+1<_;omega)
    have hk69:KF W1.heap.size W6 W9:=(KF.of HX9.out).trans hk9
    have HNI:=gd (NIts.snoc HI6.out hk69 ((HJ6.out.mono hsz).keep hk69) (KF.own (own_mono HOW9.out hwb) hk9))
    have hb10:W9.heap[w.heap.size+1]? =some (.cells #[.int .i64 4,.bool false,.int .i64 0,.string ⟨#[]⟩,.slice A3 (acc.length+1) c3,.slice none 0 0,.int .i64 (fr:Nat)] 25 (0,0)):=by
     rw[←hW9,heap_setCell_same _ _ _ _ _ _ hb9];rfl
    have hr10:W9.heap[w.heap.size]? =some (.cells #[.int .i64 0,.bool false,.int .i64 0,.string ⟨#[]⟩,.slice none 0 0,.slice none 0 0,.int .i64 0,.int .i64 0,.int .i64 0] 109 (0,0)):=by
     rw[←hW9,heap_setCell_other _ _ _ _ (by show w.heap.size≠w.heap.size+1;omega)]
     exact HX9.out.heap HR6.out
    have ht10:W9.heap[w5.heap.size]? =some (.cells #[.int .i64 (kindJ o:Nat),.bool (bJ o),.int .i64 (nJ o),.string (sJ o),.slice A pp cc,.slice C qq dd,.int .i64 (atJ o:Nat),.int .i64 (z:Nat),.int .i64 0] 109 (0,0)):=by
     rw[←hW9,heap_setCell_other _ _ _ _ (by show w5.heap.size≠w.heap.size+1;omega)]
     exact HX9.out.heap HT6.out
    have hx10:Ext w W9:=by
     rw[←hW9]
     exact ((HXW.out.trans HX6.out).trans HX9.out).setCell (p:=⟨w.heap.size+1,4,none⟩) (Nat.le_succ _) _
    have d0:=cell_of_row _ _ 0 _ _ _ hb10
    have d1:=cell_of_row _ _ 1 _ _ _ hb10
    have d2:=cell_of_row _ _ 2 _ _ _ hb10
    have d3:=cell_of_row _ _ 3 _ _ _ hb10
    have d4:=cell_of_row _ _ 4 _ _ _ hb10
    have d5:=cell_of_row _ _ 5 _ _ _ hb10
    have d6:=cell_of_row _ _ 6 _ _ _ hb10
    have t7:=cell_of_row _ _ 7 _ _ _ ht10
    have hsz9:W1.heap.size≤W9.heap.size:=Nat.le_trans hwb hk69.1
    have HB10:=gd hb10
    have HR10:=gd hr10
    have HX10:=gd hx10
    clear hW9 hk9 hk69 hb9 c9 f9 hown9 hg9 hat9 hx9 hb10 hr10 ht10 hx10 q0 q1 q2 q3 q4 q5 q6 q7 c0 c4 hxd hx7 hwb htb hwb7
    cases hh1:hasAt s.data.toList Q (⟨#[93]⟩:ByteArray).data.toList with
    |true=>
     rw[hh1] at HH1
     have hres:R=some (JO.arr fr (acc++ [o]),Q+1):=by rw[HLP.out,HGO.out,if_pos (show hasAt s.data.toList Q [93]=true from hh1)]
     subst hres
     clear hh1
     go_wp2_with (first|(refine wpList_store_row rfl 109 (.tmp 6) (.tmp 97) rfl w.heap.size _ rfl rfl _ _ HR10.out size_res rfl oneR ?_)|(go_at_call 65;(with_reducible refine Calls.mono (HSPz.out _) ?_);rintro e w4 ⟨rfl,hw4⟩;(have hw4':=hw4.symm);clear hw4;subst hw4')|(go_at_call 63;(with_reducible refine Calls.mono (HH1.out _) ?_);rintro e w4 ⟨rfl,hw4⟩;(have hw4':=hw4.symm);clear hw4;subst hw4'))
     ((try simp only[Exit.inBlock,Exit.then]);refine bodyPost_ret (results_cell_row rfl _ _ _ _ _ _ _ rfl (setRow_heap _ _ _ _ _ _ HR10.out) Tryz.underlying109 rfl size_res) rfl ?_)
     exact ⟨⟨A3,_,c3,none,0,0,_,rfl,((NIts.arr HNI.out).keep (KF.setRow _ _ _ (by rw[HSZ.out];omega))).mono (by rw[HSZ.out];omega)⟩,HX10.out.setRow (Nat.le_refl _) _⟩
    |false=>
     rw[hh1] at HH1
     have hgo3:=HGO.out
     rw[if_neg (show ¬hasAt s.data.toList Q [93]=true by rw[show hasAt s.data.toList Q [93]=false from hh1];decide)] at hgo3
     cases hh2:hasAt s.data.toList Q (⟨#[44]⟩:ByteArray).data.toList with
     |true=>
      rw[hh2] at HH2
      rw[if_pos (show hasAt s.data.toList Q [44]=true from hh2)] at hgo3
      have hQ1:Q+1≤s.size:=by have:=has_lt (l:=s.data.toList) (t:= [44]) (i:=Q) hh2 (by decide);rw[data_len] at this;exact this
      have HGO3:=gd hgo3
      clear hgo3 hh1 hh2
      go_wp2_with (first|(go_at_call 65;(with_reducible refine Calls.mono (HSPz.out _) ?_);rintro e w4 ⟨rfl,hw4⟩;(have hw4':=hw4.symm);clear hw4;subst hw4')|(go_at_call 63;(with_reducible refine Calls.mono (HH1.out _) ?_);rintro e w4 ⟨rfl,hw4⟩;(have hw4':=hw4.symm);clear hw4;subst hw4')|(go_at_call 63;(with_reducible refine Calls.mono (HH2.out _) ?_);rintro e w4 ⟨rfl,hw4⟩;(have hw4':=hw4.symm);clear hw4;subst hw4'))
      go_roundw
      case rel=>exact ⟨Q+1,k,max n n2,acc++ [o],css++ [(wcells (kindJ o) (bJ o) (nJ o) (sJ o) (.slice A pp cc) (.slice C qq dd) (atJ o))],A3,c3,hQ1,by omega,by rw[List.length_append,List.length_singleton];omega,by go_num,HGO3,(by rw[List.length_append,List.length_singleton];exact HNI.out:Hid _),(by rw[List.length_append,List.length_singleton];exact HB10.out:Hid _),HR10,hsz9,HX10.out⟩
      case measure=>simp[intOf];omega
     |false=>
      rw[hh2] at HH2
      rw[if_neg (show ¬hasAt s.data.toList Q [44]=true by rw[show hasAt s.data.toList Q [44]=false from hh2];decide)] at hgo3
      have hres:R=none:=by rw[HLP.out,hgo3]
      subst hres
      clear hgo3 hh1 hh2
      go_wp2_with (first|(refine wpList_store_row rfl 109 (.tmp 6) (.tmp 104) rfl w.heap.size _ rfl rfl _ _ hr11 size_res rfl oneR ?_)|(go_at_call 107;(with_reducible refine Calls.mono (HW.out _) ?_);rintro e w11 ⟨⟨b,x,hx0,rfl⟩,hx11⟩;have hr11:=hx11.heap HR10.out)|(go_at_call 65;(with_reducible refine Calls.mono (HSPz.out _) ?_);rintro e w4 ⟨rfl,hw4⟩;(have hw4':=hw4.symm);clear hw4;subst hw4')|(go_at_call 63;(with_reducible refine Calls.mono (HH1.out _) ?_);rintro e w4 ⟨rfl,hw4⟩;(have hw4':=hw4.symm);clear hw4;subst hw4')|(go_at_call 63;(with_reducible refine Calls.mono (HH2.out _) ?_);rintro e w4 ⟨rfl,hw4⟩;(have hw4':=hw4.symm);clear hw4;subst hw4'))
      ((try simp only[Exit.inBlock,Exit.then]);refine bodyPost_ret (results_cell_row rfl _ _ _ _ _ _ _ rfl (setRow_heap _ _ _ _ _ _ hr11) Tryz.underlying109 rfl size_res) rfl ?_)
      exact ⟨⟨b,x,hx0,rfl⟩,(HX10.out.trans hx11).setRow (Nat.le_refl _) _⟩
end
section
set_option linter.unusedSimpArgs false
attribute [local go_sem] calm1
theorem memsGo_step {l:List UInt8} {V:Nat→Option (JO×Nat)} {k a:Nat} {ks:List (ByteArray×Nat)} {vs:List JO}:memsGo l V (k+1) a ks vs=match keyP l (spAt l a) ks with
 |none=>none
 |some (key,to_)=>match V to_ with
  |none=>none
  |some (v,to_)=>
   if hasAt l (spAt l to_) [125] then some ((ks++ [(key,spAt l a)],vs++ [v]),spAt l to_+1)
   else if hasAt l (spAt l to_) [44] then memsGo l V k (spAt l to_+1) (ks++ [(key,spAt l a)]) (vs++ [v]) else none:=by
 conv=>lhs;unfold memsGo
 rfl
theorem NMems.ones {n B:Nat} {w:World} {v:Value} {ks:List (ByteArray×Nat)} {vs:List JO} {ms:List (ByteArray×List Value×Int)} (h:NMems n B w v ks vs ms):∀u∈(ms.map mcell).flatten,u.oneCell'=true:=by
 intro u hu
 obtain ⟨c,hc,hu⟩:=List.mem_flatten.1 hu
 obtain ⟨m,hm,rfl⟩:=List.mem_map.1 hc
 obtain ⟨i,hi,rfl⟩:=List.mem_iff_getElem.1 hm
 obtain ⟨A,p,c,B,q,d,he⟩:=(h.2.2.2.2 i (vs[i]'(by rw[←h.2.1];exact hi)) ms[i] (List.getElem?_eq_getElem _) (List.getElem?_eq_getElem hi)).rj.cells
 rcases List.mem_cons.1 hu with rfl|hu
 ·rfl
 ·rcases List.mem_append.1 hu with hu|hu
  ·rw[he] at hu;exact wcells_one u hu
  ·rcases List.mem_singleton.1 hu with rfl;rfl
theorem mcell_ones {K:Int} {b:Bool} {n:Int} {s key:ByteArray} {A B:Option Addr} {p c q d:Nat} {a x:Int}:∀u∈mcell (key,wcells K b n s (.slice A p c) (.slice B q d) a,x),u.oneCell'=true:=by
 intro u hu
 rcases List.mem_cons.1 hu with rfl|hu
 ·rfl
 ·rcases List.mem_append.1 hu with hu|hu
  ·exact wcells_one u hu
  ·rcases List.mem_singleton.1 hu with rfl;rfl
theorem NMems.keys {n B:Nat} {w:World} {v:Value} {ks:List (ByteArray×Nat)} {vs:List JO} {ms:List (ByteArray×List Value×Int)} (h:NMems n B w v ks vs ms):ms.map Prod.fst=ks.map Prod.fst:=by
 have:=congrArg (List.map Prod.fst) h.1
 rw[List.map_map,List.map_map] at this
 exact this
theorem info_parts_mem:∃i0,Tryz.prog.info? 56=some i0∧i0.zero=some (.agg #[.string ⟨#[]⟩,.int .i64 0,.bool false,.int .i64 0,.string ⟨#[]⟩,.slice none 0 0,.slice none 0 0,.int .i64 0,.int .i64 0])∧i0.size=9∧i0.bytes=120:=info_parts info_mem
theorem jObj_any (s:ByteArray) (fr D:Nat) (V:Nat→Option (JO×Nat)) (w:World) (hs:s.size≤1000000000000) (hfr:fr<s.size) (h91:s.data.toList[fr]? =some 123) (hV:ReadV s D V) (hD:D≤100) (hs2:s.size≤80000000000):
 Calls Tryz.prog 110 #[.string s,.int .i64 (fr:Nat),.int .i64 (D:Nat)] w fun e w'=>ValR w.heap.size w' (listP s.data.toList V fr true) e∧Ext w w':=by
 obtain ⟨i0,hi0,hz0,hz1,hz2⟩:=info_parts_mem
 have hcf:(s[fr].toNat:Int)=123:=by
  rw[List.getElem?_eq_getElem (by rw[data_len];exact hfr)] at h91
  injection h91 with h91
  have e:s[fr].toNat=123:=(u8_iff (n:=123) (by decide)).1 h91
  omega
 have j0:(0:Int)≤(fr:Int):=by omega
 have hDi:(D:Int)≤100:=by omega
 have j1:(fr:Int)<(s.size:Int):=by omega
 have hlp:listP s.data.toList V fr true=if hasAt s.data.toList (spAt s.data.toList (fr+1)) [125] then some (.obj fr [] [],spAt s.data.toList (fr+1)+1) else match memsGo s.data.toList V (s.size+1) (spAt s.data.toList (fr+1)) [] [] with
  |some ((ks,vs),to_)=>some (.obj fr ks vs,to_)
  |none=>none:=by unfold listP;rfl
 obtain ⟨F1,hF1⟩:∃F,fr+1=F:=⟨_,rfl⟩
 have hF1i:(fr:Int)+1=(F1:Int):=by omega
 have hF1s:F1≤s.size:=by omega
 rw[hF1] at hlp
 have HS1:=gd (fun w'=>jSpaces_any s F1 w' hs2 hF1s)
 have hP0:spAt s.data.toList F1≤s.size:=by have:=spAt_le (s:=s.data.toList) (k:=F1) (by rw[data_len];exact hF1s);rwa [data_len] at this
 obtain ⟨P0,hP0e⟩:∃P,spAt s.data.toList F1=P:=⟨_,rfl⟩
 rw[hP0e] at hlp HS1 hP0
 have HH0:=gd (fun w'=>jHas_any s ⟨#[125]⟩ P0 w' (by unfold maxLen;omega) (by unfold maxLen;omega) (by unfold maxLen;decide) (by decide))
 obtain ⟨R,hR⟩:∃R,listP s.data.toList V fr true=R:=⟨_,rfl⟩
 rw[hR] at hlp⊢
 obtain ⟨W1,hW1⟩:∃W1,(w.alloc (.cells #[.int .i64 0,.bool false,.int .i64 0,.string ⟨#[]⟩,.slice none 0 0,.slice none 0 0,.int .i64 0,.int .i64 0,.int .i64 0] 109)).alloc (.cells #[.int .i64 5,.bool false,.int .i64 0,.string ⟨#[]⟩,.slice none 0 0,.slice none 0 0,.int .i64 (fr:Nat)] 25)=W1:=⟨_,rfl⟩
 have hx1:Ext w W1:=by rw[←hW1];exact ((Ext.refl w).alloc _).alloc _
 have hb1:W1.heap[w.heap.size+1]? =some (.cells #[.int .i64 5,.bool false,.int .i64 0,.string ⟨#[]⟩,.slice none 0 0,.slice none 0 0,.int .i64 (fr:Nat)] 25 (0,0)):=by rw[←hW1];exact heap2J w _ _
 have hr1:W1.heap[w.heap.size]? =some (.cells #[.int .i64 0,.bool false,.int .i64 0,.string ⟨#[]⟩,.slice none 0 0,.slice none 0 0,.int .i64 0,.int .i64 0,.int .i64 0] 109 (0,0)):=by
  rw[←hW1]
  exact ((Ext.refl _).alloc _).heap (heap_alloc_new w _)
 have hsz1:W1.heap.size=w.heap.size+2:=by rw[←hW1,size_alloc,size_alloc]
 have HX1:=gd hx1
 have HB1:=gd hb1
 have HR1:=gd hr1
 have HSZ:=gd hsz1
 have b0:=cell_of_row _ _ 0 _ _ _ hb1
 have b1:=cell_of_row _ _ 1 _ _ _ hb1
 have b2:=cell_of_row _ _ 2 _ _ _ hb1
 have b3:=cell_of_row _ _ 3 _ _ _ hb1
 have b4:=cell_of_row _ _ 4 _ _ _ hb1
 have b5:=cell_of_row _ _ 5 _ _ _ hb1
 have b6:=cell_of_row _ _ 6 _ _ _ hb1
 clear hx1 hb1 hr1 hsz1 hF1 h91 hs
 cases hh:hasAt s.data.toList P0 (⟨#[125]⟩:ByteArray).data.toList with
 |true=>
  rw[hh] at HH0
  rw[if_pos (show hasAt s.data.toList P0 [125]=true from hh)] at hlp
  subst hlp
  clear hR hh hV hP0e
  go_enter Tryz.func110,Tryz.ntmps110
  go_wp2_with (first|(refine wpList_store_row rfl 109 (.tmp 6) (.tmp 32) rfl w.heap.size _ rfl rfl _ _ HR1.out size_res rfl oneR ?_)|(go_at_call 65;(with_reducible refine Calls.mono (HS1.out _) ?_);rintro e w4 ⟨rfl,hw4⟩;(have hw4':=hw4.symm);clear hw4;subst hw4')|(go_at_call 63;(with_reducible refine Calls.mono (HH0.out _) ?_);rintro e w4 ⟨rfl,hw4⟩;(have hw4':=hw4.symm);clear hw4;subst hw4'))
  ((try simp only[Exit.inBlock,Exit.then]);refine bodyPost_ret (results_cell_row rfl _ _ _ _ _ _ _ rfl (setRow_heap _ _ _ _ _ _ HR1.out) Tryz.underlying109 rfl size_res) rfl ?_)
  exact ⟨⟨none,0,0,none,0,0,1,rfl,NJn.leaf (j:= .obj fr [] []) ⟨rfl,rfl,rfl⟩⟩,HX1.out.setRow (Nat.le_refl _) _⟩
 |false=>
  rw[hh] at HH0
  rw[if_neg (show ¬hasAt s.data.toList P0 [125]=true by rw[show hasAt s.data.toList P0 [125]=false from hh];decide)] at hlp
  have HLP:=gd hlp
  have HV:=gd hV
  clear hR hh hlp hV hP0e
  have HN0:Hid (W1.ownsRow W1.heap.size 56 9 (.slice none 0 0) 0 []):=World.ownsRow_nil _ _ _ _
  go_enter Tryz.func110,Tryz.ntmps110
  go_wp2_with (first|(go_at_call 65;(with_reducible refine Calls.mono (HS1.out _) ?_);rintro e w4 ⟨rfl,hw4⟩;(have hw4':=hw4.symm);clear hw4;subst hw4')|(go_at_call 63;(with_reducible refine Calls.mono (HH0.out _) ?_);rintro e w4 ⟨rfl,hw4⟩;(have hw4':=hw4.symm);clear hw4;subst hw4'))
  clear b0 b1 b2 b3 b4 b5 b6
  go_loopw [9] (fun v wr=>∃(a k n:Nat) (ks:List (ByteArray×Nat)) (vs:List JO) (ms:List (ByteArray×List Value×Int)) (IA:Option Addr) (ic:Nat),a≤s.size∧s.size<k+a∧vs.length≤a∧v= .int .i64 (a:Nat)∧Hid (memsGo s.data.toList V (s.size+1) P0 [] []=memsGo s.data.toList V k a ks vs)∧
   Hid (NMems n W1.heap.size wr (.slice IA vs.length ic) ks vs ms)∧Hid (wr.heap[w.heap.size+1]? =some (.cells #[.int .i64 5,.bool false,.int .i64 0,.string ⟨#[]⟩,.slice none 0 0,.slice IA vs.length ic,.int .i64 (fr:Nat)] 25 (0,0)))∧Hid (wr.heap[w.heap.size]? =some (.cells #[.int .i64 0,.bool false,.int .i64 0,.string ⟨#[]⟩,.slice none 0 0,.slice none 0 0,.int .i64 0,.int .i64 0,.int .i64 0] 109 (0,0)))∧W1.heap.size≤wr.heap.size∧Ext w wr) (fun v _=>s.size - (intOf v).toNat)
  case atStart=>exact ⟨P0,s.size+1,0,[],[],[],none,0,hP0,by omega,Nat.zero_le _,rfl,rfl,⟨rfl,rfl,HN0.out,by simp,fun i j c hj _=>by simp at hj⟩,HB1.out,HR1.out,Nat.le_refl _,HX1.out⟩
  case round=>
   obtain ⟨a,k,n,ks,vs,ms,IA,ic,ha,hk,hla,rfl,hgo,hits,hvb,hrb,hsz,hxw⟩:=hrel
   obtain ⟨k,rfl⟩:∃k',k=k'+1:=⟨k - 1,by omega⟩
   have hgo2:=hgo.out.trans memsGo_step
   have hPa:spAt s.data.toList a≤s.size:=by have:=spAt_le (s:=s.data.toList) (k:=a) (by rw[data_len];exact ha);rwa [data_len] at this
   have HSPa:=gd (fun w'=>jSpaces_any s a w' hs2 ha)
   have hage:=spAt_ge s.data.toList a
   obtain ⟨P,hP⟩:∃P,spAt s.data.toList a=P:=⟨_,rfl⟩
   rw[hP] at hPa hgo2 HSPa hage
   have hb:=hvb.out
   have c0:=cell_of_row _ _ 0 _ _ _ hb
   have c1:=cell_of_row _ _ 1 _ _ _ hb
   have c2:=cell_of_row _ _ 2 _ _ _ hb
   have c3:=cell_of_row _ _ 3 _ _ _ hb
   have c4:=cell_of_row _ _ 4 _ _ _ hb
   have c5:=cell_of_row _ _ 5 _ _ _ hb
   have c6:=cell_of_row _ _ 6 _ _ _ hb
   have hrm:RSl wr 9 (.slice IA vs.length ic) ms.length (ms.map mcell).flatten:=by rw[hits.out.2.1];exact RSl.of_own hits.out.2.2.1
   have hkey:=jKey_any s P fr ks (.slice IA vs.length ic) ms wr hs2 hPa (NMems.keys hits.out) hrm hits.out.2.2.2.1
   unfold wcells noS at hkey
   have HKEY:=gd hkey
   clear hP hb hgo hrm hkey
   cases hkp:keyP s.data.toList P ks with
   |none=>
    rw[hkp] at hgo2 HKEY
    have hres:R=none:=by rw[HLP.out,hgo2]
    subst hres
    clear hgo2 hkp
    go_wp2_with (first|(refine wpList_store_row rfl 109 (.tmp 6) (.tmp 52) rfl w.heap.size _ rfl rfl _ _ hrb5 size_res rfl oneR ?_)|(go_at_call 65;(with_reducible refine Calls.mono (HSPa.out _) ?_);rintro e w4 ⟨rfl,hw4⟩;(have hw4':=hw4.symm);clear hw4;subst hw4')|(go_at_call 156;(have hz:=HKEY.out);(with_reducible refine Calls.mono hz ?_);clear hz;rintro e w5 ⟨⟨b,x,hx0,rfl⟩,hx5⟩;(have hx0i:((x:Int) !=0)=true:=by rw[bne_iff_ne];omega);(have hrb5:=hx5.heap hrb.out)))
    ((try simp only[Exit.inBlock,Exit.then]);refine bodyPost_ret (results_cell_row rfl _ _ _ _ _ _ _ rfl (setRow_heap _ _ _ _ _ _ hrb5) Tryz.underlying109 rfl size_res) rfl ?_)
    exact ⟨⟨b,x,hx0,rfl⟩,(hxw.trans hx5).setRow (Nat.le_refl _) _⟩
   |some pk=>
   obtain ⟨key,u⟩:=pk
   obtain ⟨-, -,hu1,hu2⟩:=keyP_ok hkp
   rw[data_len] at hu2
   rw[hkp] at hgo2 HKEY
   simp only at hgo2
   have HCV:=gd (fun w'=>HV.out.call u w' hu2)
   clear hkp
   cases hva:V u with
   |none=>
    rw[hva] at hgo2 HCV
    have hres:R=none:=by rw[HLP.out,hgo2]
    subst hres
    clear hgo2 hva
    go_wp2_with (first|(refine wpList_store_row rfl 109 (.tmp 6) (.tmp 61) rfl w.heap.size _ rfl rfl _ _ hrb5 size_res rfl oneR ?_)|(go_at_call 65;(with_reducible refine Calls.mono (HSPa.out _) ?_);rintro e w4 ⟨rfl,hw4⟩;(have hw4':=hw4.symm);clear hw4;subst hw4')|(go_at_call 156;(have hz:=HKEY.out);(with_reducible refine Calls.mono hz ?_);clear hz;rintro e wk ⟨hek,hxk⟩;(replace hek:e= .returned (.tuple #[.string key,.int .i64 (u:Nat),.int .i64 0]):=hek);subst hek;(have c0:=hxk.cell c0))|(go_at_call 64;(have hz:=HCV.out wk);(with_reducible refine Calls.mono hz ?_);clear hz;rintro e w5 ⟨⟨b,x,hx0,rfl⟩,hx5⟩;(have hx0i:((x:Int) !=0)=true:=by rw[bne_iff_ne];omega);(have hrb5:=((hxk.trans hx5).alloc (.cells #[.int .i64 0,.bool false,.int .i64 0,.string ⟨#[]⟩,.slice none 0 0,.slice none 0 0,.int .i64 0,.int .i64 (b:Nat),.int .i64 (x:Nat)] 109)).heap hrb.out)))
    ((try simp only[Exit.inBlock,Exit.then]);refine bodyPost_ret (results_cell_row rfl _ _ _ _ _ _ _ rfl (setRow_heap _ _ _ _ _ _ hrb5) Tryz.underlying109 rfl size_res) rfl ?_)
    exact ⟨⟨b,x,hx0,rfl⟩,(((hxw.trans hxk).trans hx5).alloc _).setRow (Nat.le_refl _) _⟩
   |some p=>
    obtain ⟨o,z⟩:=p
    rw[hva] at hgo2 HCV
    simp only at hgo2
    obtain ⟨hgt1,hgt2⟩:=HV.out.gt u o z hva
    have HSPz:=gd (fun w'=>jSpaces_any s z w' hs2 hgt2)
    have hQ:spAt s.data.toList z≤s.size:=by have:=spAt_le (s:=s.data.toList) (k:=z) (by rw[data_len];exact hgt2);rwa [data_len] at this
    have hQge:=spAt_ge s.data.toList z
    obtain ⟨Q,hQe⟩:∃Q,spAt s.data.toList z=Q:=⟨_,rfl⟩
    rw[hQe] at HSPz hQ hgo2 hQge
    have HH1:=gd (fun w'=>jHas_any s ⟨#[125]⟩ Q w' (by unfold maxLen;omega) (by unfold maxLen;omega) (by unfold maxLen;decide) (by decide))
    have HH2:=gd (fun w'=>jHas_any s ⟨#[44]⟩ Q w' (by unfold maxLen;omega) (by unfold maxLen;omega) (by unfold maxLen;decide) (by decide))
    have HW:=gd (fun w'=>jWrong_any s Q w')
    have HGO:=gd hgo2
    clear hgo2 hQe hva
    go_wp2_with (first|(go_at_call 65;(with_reducible refine Calls.mono (HSPa.out _) ?_);rintro e w4 ⟨rfl,hw4⟩;(have hw4':=hw4.symm);clear hw4;subst hw4')|(go_at_call 156;(have hz:=HKEY.out);(with_reducible refine Calls.mono hz ?_);clear hz;rintro e wk ⟨hek,hxk⟩;(replace hek:e= .returned (.tuple #[.string key,.int .i64 (u:Nat),.int .i64 0]):=hek);subst hek;(have c0:=hxk.cell c0))|(go_at_call 64;(have hzz:=HCV.out wk);(with_reducible refine Calls.mono hzz ?_);clear hzz;rintro e w5 ⟨⟨A,pp,cc,C,qq,dd,n2,rfl,hnj⟩,hx5k⟩;(have hx5:=hxk.trans hx5k);(have HNJ:=gd (hnj.mono hxk.size));clear hnj;(have c0:=hx5k.cell c0);(have c0:=((Ext.refl w5).alloc (.cells #[.int .i64 (kindJ o:Nat),.bool (bJ o),.int .i64 (nJ o),.string (sJ o),.slice A pp cc,.slice C qq dd,.int .i64 (atJ o:Nat),.int .i64 (z:Nat),.int .i64 0] 109)).cell c0)))
    obtain ⟨W6,hW6⟩:∃W6,w5.alloc (.cells #[.int .i64 (kindJ o:Nat),.bool (bJ o),.int .i64 (nJ o),.string (sJ o),.slice A pp cc,.slice C qq dd,.int .i64 (atJ o:Nat),.int .i64 (z:Nat),.int .i64 0] 109)=W6:=⟨_,rfl⟩
    rw[hW6]
    have hx56:Ext w5 W6:=by rw[←hW6];exact (Ext.refl w5).alloc _
    have hx6:Ext wr W6:=hx5.trans hx56
    have ht6:W6.heap[w5.heap.size]? =some (.cells #[.int .i64 (kindJ o:Nat),.bool (bJ o),.int .i64 (nJ o),.string (sJ o),.slice A pp cc,.slice C qq dd,.int .i64 (atJ o:Nat),.int .i64 (z:Nat),.int .i64 0] 109 (0,0)):=by rw[←hW6];exact heap_alloc_new w5 _
    have hb6:=hx6.heap hvb.out
    have hr6:=hx6.heap hrb.out
    have hits6:=hits.out.keep (KF.of hx6)
    have hnj6:=HNJ.out.keep (KF.of hx56)
    have q0:=cell_of_row _ _ 0 _ _ _ ht6
    have q1:=cell_of_row _ _ 1 _ _ _ ht6
    have q2:=cell_of_row _ _ 2 _ _ _ ht6
    have q3:=cell_of_row _ _ 3 _ _ _ ht6
    have q4:=cell_of_row _ _ 4 _ _ _ ht6
    have q5:=cell_of_row _ _ 5 _ _ _ ht6
    have q6:=cell_of_row _ _ 6 _ _ _ ht6
    have q7:=cell_of_row _ _ 7 _ _ _ ht6
    have c5:=cell_of_row _ _ 5 _ _ _ hb6
    have HX6:=gd hx6
    have HXW:=gd hxw
    have HT6:=gd ht6
    have HB6:=gd hb6
    have HR6:=gd hr6
    have HI6:=gd hits6
    have HJ6:=gd hnj6
    have hwb:W1.heap.size≤W6.heap.size:=Nat.le_trans hsz hx6.size
    have htb:W1.heap.size≤w5.heap.size:=Nat.le_trans hsz hx5.size
    have hsz16:vs.length*120≤14073748835532:=by omega
    clear hx56 hx6 ht6 hb6 hr6 hits6 hnj6 hW6 hx5 hx5k hxk hxw HNJ c1 c2 c3 c4 c6
    refine rN ?_
    change wpAny _ _ _ _ _ _ _ (World.drew _)
    have hxd:=(Ext.refl W6).drew
    refine wpAny_load (i:=1) (v:= .pointer (some ⟨w.heap.size+1,5,none⟩)) (fun w'=>Ext W6 w') 12 rfl (by kernel_rfl) (fun _ _ _ h=>h) (Or.inl ⟨by rfl,fun w' hS=>by go_simp⟩) hxd ?_
    refine tT 2 (.slice IA vs.length ic) rfl (fun w' hS=>by have hq:=Ext.cell hS c5;go_simp) hxd ?_
    refine tT 4 (.string key) rfl (fun w' hS=>by go_simp) hxd ?_
    refine tT 5 (.pointer (some ⟨w5.heap.size,0,none⟩)) rfl (fun w' hS=>by go_simp) hxd ?_
    go_simp
    refine tT 6 (.agg #[.int .i64 (kindJ o:Nat),.bool (bJ o),.int .i64 (nJ o),.string (sJ o),.slice A pp cc,.slice C qq dd,.int .i64 (atJ o:Nat)]) rfl (fun w' hS=>by have e0:=Ext.cell hS q0;have e1:=Ext.cell hS q1;have e2:=Ext.cell hS q2;have e3:=Ext.cell hS q3;have e4:=Ext.cell hS q4;have e5:=Ext.cell hS q5;have e6:=Ext.cell hS q6;go_simp) hxd ?_
    refine tT 7 (.int .i64 (P:Nat)) rfl (fun w' hS=>by go_simp) hxd ?_
    go_simp
    refine tT 8 (.agg #[.string key,.int .i64 (kindJ o:Nat),.bool (bJ o),.int .i64 (nJ o),.string (sJ o),.slice A pp cc,.slice C qq dd,.int .i64 (atJ o:Nat),.int .i64 (P:Nat)]) rfl (fun w' hS=>by go_simp) hxd ?_
    go_simp
    refine wpAnyT_told (m:=3) (f:=3) rfl #[true,true,true,true,true,true,true,true,true,true,false,false,false] (fun a0 a' w'=>∃(x1 v2:Value) (bA:Nat),a'=((a0.put (some 65) x1).put (some 68) v2).put (some 74) (.slice (some ⟨bA,0,none⟩) 1 1)∧Ext W6 w'∧w'.ownsRow W6.heap.size 56 9 v2 vs.length (ms.map mcell).flatten∧RSl w' 9 (.slice (some ⟨bA,0,none⟩) 1 1) 1 (mcell (key,(wcells (kindJ o) (bJ o) (nJ o) (sJ o) (.slice A pp cc) (.slice C qq dd) (atJ o)),(P:Int)))) ?_ ?_
    ·have HOI:=gd (RSl.of_own HI6.out.2.2.1)
     have HONE:=gd (NMems.ones HI6.out)
     refine wpAnyC_two (i:=0) (j:=9) rfl rfl (by kernel_rfl) (fun K hK=> ?_) (fun K hK=> ?_)
     ·go_simp
      have hxa:=hxd.alloc (.cells #[] 56)
      have HOW:=gd (own_newB (b:=W6.heap.size) (base:=W6.heap.size) (e:=56) (size:=9) (n:=0) (cs:= []) (Nat.le_refl _) (heap_alloc_new W6.drew (.cells #[] 56)) rfl (by decide))
      refine hK _ _ hxa ?_
      clear hK K
      refine wpAnyC_two (i:=3) (j:=9) rfl rfl (by kernel_rfl) (fun K hK=> ?_) (fun K hK=> ?_)
      ·refine step_append_rsl _ (by rfl) (.tmp 65) (.tmp 67) _ (by rfl) W6.heap.size 56 i0 _ 9 120 Tryz.underlying23 hi0 hz0 hz1 hz2 rfl (by decide) _ 0 [] (by rfl) HOW.out _ vs.length (ms.map mcell).flatten (by rfl) (HOI.out.ext hxa) HONE.out (by unfold maxLen;omega) (by omega) (hxa).size ?_
       intro v9 w9 hown9 hg9 hat9
       have hx9:Ext W6 w9:=Ext.app hxa hg9 HOW.out (Nat.le_refl _)
       rw[Nat.zero_add,List.nil_append] at hown9
       refine hK _ _ hx9 ?_
       clear hK K
       refine wpAnyC_step (i:=9) rfl (by kernel_rfl) (fun K hK=> ?_)
       go_simp
       refine hK _ _ (hx9.alloc _) ?_
       refine ⟨rfl,_,v9,_,rfl,hx9.alloc _,own_ext hown9 ((Ext.refl _).alloc _),rsl_new (w:=w9) (n:=1) (cs:=(mcell (key,(wcells (kindJ o) (bJ o) (nJ o) (sJ o) (.slice A pp cc) (.slice C qq dd) (atJ o)),(P:Int)))) rfl (by decide)⟩
      ·go_simp
       have hxb:=hxa.alloc (.cells #[.string key,.int .i64 (kindJ o:Nat),.bool (bJ o),.int .i64 (nJ o),.string (sJ o),.slice A pp cc,.slice C qq dd,.int .i64 (atJ o:Nat),.int .i64 (P:Nat)] 56)
       have HOW2:=gd (own_ext HOW.out ((Ext.refl _).alloc (.cells #[.string key,.int .i64 (kindJ o:Nat),.bool (bJ o),.int .i64 (nJ o),.string (sJ o),.slice A pp cc,.slice C qq dd,.int .i64 (atJ o:Nat),.int .i64 (P:Nat)] 56)))
       refine hK _ _ hxb ?_
       clear hK K
       refine wpAnyC_step (i:=3) rfl (by kernel_rfl) (fun K hK=> ?_)
       refine step_append_rsl _ (by rfl) (.tmp 65) (.tmp 67) _ (by rfl) W6.heap.size 56 i0 _ 9 120 Tryz.underlying23 hi0 hz0 hz1 hz2 rfl (by decide) _ 0 [] (by rfl) HOW2.out _ vs.length (ms.map mcell).flatten (by rfl) (HOI.out.ext hxb) HONE.out (by unfold maxLen;omega) (by omega) (hxb).size ?_
       intro v9 w9 hown9 hg9 hat9
       have hx9:Ext W6 w9:=Ext.app hxb hg9 HOW2.out (Nat.le_refl _)
       rw[Nat.zero_add,List.nil_append] at hown9
       refine hK _ _ hx9 ?_
       refine ⟨rfl,_,v9,_,rfl,hx9,hown9,RSl.grown (RSl.of_own (own_newB (b:=W6.heap.size+1) (base:=0) (e:=56) (n:=1) (cs:=(mcell (key,(wcells (kindJ o) (bJ o) (nJ o) (sJ o) (.slice A pp cc) (.slice C qq dd) (atJ o)),(P:Int)))) (Nat.zero_le _) (heap2J W6.drew (.cells #[] 56) (.cells #[.string key,.int .i64 (kindJ o:Nat),.bool (bJ o),.int .i64 (nJ o),.string (sJ o),.slice A pp cc,.slice C qq dd,.int .i64 (atJ o:Nat),.int .i64 (P:Nat)] 56)) rfl (by decide))) hg9 (Or.inr (fun e=>absurd (Option.some.inj e) (by show ¬W6.heap.size+1=W6.heap.size;omega)))⟩
     ·go_simp
      have hxa:=hxd.alloc (.cells #[.string key,.int .i64 (kindJ o:Nat),.bool (bJ o),.int .i64 (nJ o),.string (sJ o),.slice A pp cc,.slice C qq dd,.int .i64 (atJ o:Nat),.int .i64 (P:Nat)] 56)
      refine hK _ _ hxa ?_
      clear hK K
      refine wpAnyC_step (i:=0) rfl (by kernel_rfl) (fun K hK=> ?_)
      go_simp
      have hxb:=hxa.alloc (.cells #[] 56)
      have HOW:=gd (own_newB (b:=W6.heap.size+1) (base:=W6.heap.size) (e:=56) (size:=9) (n:=0) (cs:= []) (Nat.le_succ _) (heap2J W6.drew (.cells #[.string key,.int .i64 (kindJ o:Nat),.bool (bJ o),.int .i64 (nJ o),.string (sJ o),.slice A pp cc,.slice C qq dd,.int .i64 (atJ o:Nat),.int .i64 (P:Nat)] 56) (.cells #[] 56)) rfl (by decide))
      refine hK _ _ hxb ?_
      clear hK K
      refine wpAnyC_step (i:=3) rfl (by kernel_rfl) (fun K hK=> ?_)
      refine step_append_rsl _ (by rfl) (.tmp 65) (.tmp 67) _ (by rfl) W6.heap.size 56 i0 _ 9 120 Tryz.underlying23 hi0 hz0 hz1 hz2 rfl (by decide) _ 0 [] (by rfl) HOW.out _ vs.length (ms.map mcell).flatten (by rfl) (HOI.out.ext hxb) HONE.out (by unfold maxLen;omega) (by omega) (hxb).size ?_
      intro v9 w9 hown9 hg9 hat9
      have hx9:Ext W6 w9:=Ext.app hxb hg9 HOW.out (Nat.le_refl _)
      rw[Nat.zero_add,List.nil_append] at hown9
      refine hK _ _ hx9 ?_
      refine ⟨rfl,_,v9,_,rfl,hx9,hown9,RSl.grown (RSl.of_own (own_newB (b:=W6.heap.size) (base:=0) (e:=56) (n:=1) (cs:=(mcell (key,(wcells (kindJ o) (bJ o) (nJ o) (sJ o) (.slice A pp cc) (.slice C qq dd) (atJ o)),(P:Int)))) (Nat.zero_le _) (((Ext.refl _).alloc _).heap (heap_alloc_new W6.drew (.cells #[.string key,.int .i64 (kindJ o:Nat),.bool (bJ o),.int .i64 (nJ o),.string (sJ o),.slice A pp cc,.slice C qq dd,.int .i64 (atJ o:Nat),.int .i64 (P:Nat)] 56))) rfl (by decide))) hg9 (Or.inr (fun e=>absurd (Option.some.inj e) (by show ¬W6.heap.size=W6.heap.size+1;omega)))⟩
    rintro a' w7 ⟨x1,v2,bA,rfl,hx7,hown,hnew⟩
    obtain ⟨A2,c2,rfl⟩:=ownJ_form hown
    have HOW7:=gd hown
    have HNW7:=gd hnew
    have HX7:=gd hx7
    have hwb7:=Nat.le_trans (Nat.le_of_eq rfl) hx7.size
    clear hown hnew
    refine wpAnyT_one (i:=10) rfl (by kernel_rfl) (fun K hK=> ?_)
    refine step_append_rsl _ (by rfl) (.tmp 68) (.tmp 74) _ (by rfl) W6.heap.size 56 i0 _ 9 120 Tryz.underlying23 hi0 hz0 hz1 hz2 rfl (by decide) _ vs.length (ms.map mcell).flatten (by rfl) HOW7.out _ 1 (mcell (key,(wcells (kindJ o) (bJ o) (nJ o) (sJ o) (.slice A pp cc) (.slice C qq dd) (atJ o)),(P:Int))) (by rfl) HNW7.out mcell_ones (by unfold maxLen;omega) (by omega) hx7.size ?_
    intro v9 w9 hown9 hg9 hat9
    have hx9:Ext W6 w9:=Ext.app HX7.out hg9 HOW7.out (Nat.le_refl _)
    obtain ⟨A3,c3,rfl⟩:=ownJ_form hown9
    refine hK _ _ (fun _=>hx9) ?_
    clear hK K
    have HOW9:=gd hown9
    have HX9:=gd hx9
    have hb9:=hx9.heap HB6.out
    have c9:=cell_of_row _ _ 5 _ _ _ hb9
    have f9:w9.frozen? ⟨w.heap.size+1,5,none⟩=false:=Lib.frozen_of_heap hb9 5
    refine wpAnyT_one (i:=11) rfl (by kernel_rfl) (fun K hK=> ?_)
    go_simp
    refine hK _ _ (fun _=>HX9.out) ?_
    clear hK K
    refine wpAnyT_one (i:=12) rfl (by kernel_rfl) (fun K hK=> ?_)
    go_simp
    refine hK _ _ (fun h=>absurd (show true=false from h) (by decide)) ?_
    clear hK K
    refine wpAnyT_end (by kernel_rfl) ?_
    have hszw:=HSZ.out
    obtain ⟨W9,hW9⟩:∃W9,w9.setCell ⟨w.heap.size+1,5,none⟩ (.slice A3 (vs.length+1) c3)=W9:=⟨_,rfl⟩
    rw[hW9]
    have hk9:KF W1.heap.size w9 W9:=by rw[←hW9];exact KF.setCell _ _ _ (by show w.heap.size+1<_;omega)
    have hk69:KF W1.heap.size W6 W9:=(KF.of HX9.out).trans hk9
    have HNI:=gd (NMems.snoc HI6.out hk69 rfl ((HJ6.out.mono hsz).keep hk69) (KF.own (own_mono HOW9.out hwb) hk9))
    have hb10:W9.heap[w.heap.size+1]? =some (.cells #[.int .i64 5,.bool false,.int .i64 0,.string ⟨#[]⟩,.slice none 0 0,.slice A3 (vs.length+1) c3,.int .i64 (fr:Nat)] 25 (0,0)):=by
     rw[←hW9,heap_setCell_same _ _ _ _ _ _ hb9];rfl
    have hr10:W9.heap[w.heap.size]? =some (.cells #[.int .i64 0,.bool false,.int .i64 0,.string ⟨#[]⟩,.slice none 0 0,.slice none 0 0,.int .i64 0,.int .i64 0,.int .i64 0] 109 (0,0)):=by
     rw[←hW9,heap_setCell_other _ _ _ _ (by show w.heap.size≠w.heap.size+1;omega)]
     exact HX9.out.heap HR6.out
    have ht10:W9.heap[w5.heap.size]? =some (.cells #[.int .i64 (kindJ o:Nat),.bool (bJ o),.int .i64 (nJ o),.string (sJ o),.slice A pp cc,.slice C qq dd,.int .i64 (atJ o:Nat),.int .i64 (z:Nat),.int .i64 0] 109 (0,0)):=by
     rw[←hW9,heap_setCell_other _ _ _ _ (by show w5.heap.size≠w.heap.size+1;omega)]
     exact HX9.out.heap HT6.out
    have hx10:Ext w W9:=by
     rw[←hW9]
     exact ((HXW.out.trans HX6.out).trans HX9.out).setCell (p:=⟨w.heap.size+1,5,none⟩) (Nat.le_succ _) _
    have d0:=cell_of_row _ _ 0 _ _ _ hb10
    have d1:=cell_of_row _ _ 1 _ _ _ hb10
    have d2:=cell_of_row _ _ 2 _ _ _ hb10
    have d3:=cell_of_row _ _ 3 _ _ _ hb10
    have d4:=cell_of_row _ _ 4 _ _ _ hb10
    have d5:=cell_of_row _ _ 5 _ _ _ hb10
    have d6:=cell_of_row _ _ 6 _ _ _ hb10
    have t7:=cell_of_row _ _ 7 _ _ _ ht10
    have hsz9:W1.heap.size≤W9.heap.size:=Nat.le_trans hwb hk69.1
    have HB10:=gd hb10
    have HR10:=gd hr10
    have HX10:=gd hx10
    clear hW9 hk9 hk69 hb9 c9 f9 hown9 hg9 hat9 hx9 hb10 hr10 ht10 hx10 q0 q1 q2 q3 q4 q5 q6 q7 c0 c5 hxd hx7 hwb htb hwb7
    cases hh1:hasAt s.data.toList Q (⟨#[125]⟩:ByteArray).data.toList with
    |true=>
     rw[hh1] at HH1
     have hres:R=some (JO.obj fr (ks++ [(key,P)]) (vs++ [o]),Q+1):=by rw[HLP.out,HGO.out,if_pos (show hasAt s.data.toList Q [125]=true from hh1)]
     subst hres
     clear hh1
     go_wp2_with (first|(refine wpList_store_row rfl 109 (.tmp 6) (.tmp 97) rfl w.heap.size _ rfl rfl _ _ HR10.out size_res rfl oneR ?_)|(go_at_call 65;(with_reducible refine Calls.mono (HSPz.out _) ?_);rintro e w4 ⟨rfl,hw4⟩;(have hw4':=hw4.symm);clear hw4;subst hw4')|(go_at_call 63;(with_reducible refine Calls.mono (HH1.out _) ?_);rintro e w4 ⟨rfl,hw4⟩;(have hw4':=hw4.symm);clear hw4;subst hw4'))
     ((try simp only[Exit.inBlock,Exit.then]);refine bodyPost_ret (results_cell_row rfl _ _ _ _ _ _ _ rfl (setRow_heap _ _ _ _ _ _ HR10.out) Tryz.underlying109 rfl size_res) rfl ?_)
     exact ⟨⟨none,0,0,A3,_,c3,_,rfl,((NMems.obj HNI.out).keep (KF.setRow _ _ _ (by rw[HSZ.out];omega))).mono (by rw[HSZ.out];omega)⟩,HX10.out.setRow (Nat.le_refl _) _⟩
    |false=>
     rw[hh1] at HH1
     have hgo3:=HGO.out
     rw[if_neg (show ¬hasAt s.data.toList Q [125]=true by rw[show hasAt s.data.toList Q [125]=false from hh1];decide)] at hgo3
     cases hh2:hasAt s.data.toList Q (⟨#[44]⟩:ByteArray).data.toList with
     |true=>
      rw[hh2] at HH2
      rw[if_pos (show hasAt s.data.toList Q [44]=true from hh2)] at hgo3
      have hQ1:Q+1≤s.size:=by have:=has_lt (l:=s.data.toList) (t:= [44]) (i:=Q) hh2 (by decide);rw[data_len] at this;exact this
      have HGO3:=gd hgo3
      clear hgo3 hh1 hh2
      go_wp2_with (first|(go_at_call 65;(with_reducible refine Calls.mono (HSPz.out _) ?_);rintro e w4 ⟨rfl,hw4⟩;(have hw4':=hw4.symm);clear hw4;subst hw4')|(go_at_call 63;(with_reducible refine Calls.mono (HH1.out _) ?_);rintro e w4 ⟨rfl,hw4⟩;(have hw4':=hw4.symm);clear hw4;subst hw4')|(go_at_call 63;(with_reducible refine Calls.mono (HH2.out _) ?_);rintro e w4 ⟨rfl,hw4⟩;(have hw4':=hw4.symm);clear hw4;subst hw4'))
      go_roundw
      case rel=>exact ⟨Q+1,k,max n n2,ks++ [(key,P)],vs++ [o],ms++ [(key,(wcells (kindJ o) (bJ o) (nJ o) (sJ o) (.slice A pp cc) (.slice C qq dd) (atJ o)),(P:Int))],A3,c3,hQ1,by omega,by rw[List.length_append,List.length_singleton];omega,by go_num,HGO3,(by rw[List.length_append,List.length_singleton];exact HNI.out:Hid _),(by rw[List.length_append,List.length_singleton];exact HB10.out:Hid _),HR10,hsz9,HX10.out⟩
      case measure=>simp[intOf];omega
     |false=>
      rw[hh2] at HH2
      rw[if_neg (show ¬hasAt s.data.toList Q [44]=true by rw[show hasAt s.data.toList Q [44]=false from hh2];decide)] at hgo3
      have hres:R=none:=by rw[HLP.out,hgo3]
      subst hres
      clear hgo3 hh1 hh2
      go_wp2_with (first|(refine wpList_store_row rfl 109 (.tmp 6) (.tmp 104) rfl w.heap.size _ rfl rfl _ _ hr11 size_res rfl oneR ?_)|(go_at_call 107;(with_reducible refine Calls.mono (HW.out _) ?_);rintro e w11 ⟨⟨b,x,hx0,rfl⟩,hx11⟩;have hr11:=hx11.heap HR10.out)|(go_at_call 65;(with_reducible refine Calls.mono (HSPz.out _) ?_);rintro e w4 ⟨rfl,hw4⟩;(have hw4':=hw4.symm);clear hw4;subst hw4')|(go_at_call 63;(with_reducible refine Calls.mono (HH1.out _) ?_);rintro e w4 ⟨rfl,hw4⟩;(have hw4':=hw4.symm);clear hw4;subst hw4')|(go_at_call 63;(with_reducible refine Calls.mono (HH2.out _) ?_);rintro e w4 ⟨rfl,hw4⟩;(have hw4':=hw4.symm);clear hw4;subst hw4'))
      ((try simp only[Exit.inBlock,Exit.then]);refine bodyPost_ret (results_cell_row rfl _ _ _ _ _ _ _ rfl (setRow_heap _ _ _ _ _ _ hr11) Tryz.underlying109 rfl size_res) rfl ?_)
      exact ⟨⟨b,x,hx0,rfl⟩,(HX10.out.trans hx11).setRow (Nat.le_refl _) _⟩
end
end Go.Proofs.YthlnaldahkgjnaaGreatDoor
