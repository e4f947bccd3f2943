/- Parts of the proof: contracts and plain laws. -/
import Derived.Test.YthlnaldahkgjnaaGreatDoorY21
namespace Go.Proofs.YthlnaldahkgjnaaGreatDoor
open Go Go.RowKit
set_option linter.unusedVariables false
set_option linter.unusedSimpArgs false
set_option maxRecDepth 100000
set_option maxHeartbeats 16000000
theorem indexS_any (v:Value) (x:ByteArray) (l:List ByteArray) (w:World) (h:RStrs w v l) (hn:l.length≤16777216):
 Calls Tryz.prog 122 #[v,.string x] w fun e w'=>(∃i:Int,e= .returned (.int .i64 i)∧(((l.any fun s=>decide (s=x))=true∧0≤i)∨((l.any fun s=>decide (s=x))=false∧i<0)))∧w=w':=by
 obtain ⟨A,c,rfl, -, -⟩:=h.form
 obtain ⟨R,hR⟩:∃R,(l.any fun s=>decide (s=x))=R:=⟨_,rfl⟩
 rw[hR]
 have HR:=gd hR
 have HH:=gd h
 clear hR h
 go_enter Tryz.func122,Tryz.ntmps122
 go_wp2
 go_loopw [8] (fun i wr=>∃k:Nat,k≤l.length∧i= .int .i64 k∧Hid (∀s∈l.take k,s≠x)∧w=wr) (fun i _=>l.length - (intOf i).toNat)
 case atStart=>exact ⟨0,Nat.zero_le _,rfl,gd (by simp),rfl⟩
 case round=>
  obtain ⟨k,hk,rfl,hinv,rfl⟩:=hrel
  by_cases hlt:k<l.length
  ·obtain ⟨ad,c1,e1,hc⟩:=(HH.out).at hlt
   injection e1 with e1 e1' e1''
   subst e1
   clear e1' e1''
   have hmem:l[k]∈l:=List.getElem_mem hlt
   have htk:=List.take_succ_eq_append_getElem hlt
   have hgood:l[k]=x→R=true:=fun h=>by
    rw[←HR.out,List.any_eq_true]
    exact ⟨_,hmem,by simpa using h⟩
   obtain ⟨p,hpp⟩:∃p,l[k]=p:=⟨_,rfl⟩
   rw[hpp] at hc htk hgood
   have HTK:=gd htk
   have hi0':(0:Int)≤(k:Int):=by omega
   have hi1:(k:Int)<(l.length:Int):=by omega
   clear hpp hmem htk
   cases hyz:(x.toList==p.toList) with
   |true=>
    have hRt:=hgood (toList_inj (by simpa using hyz)).symm
    subst hRt
    clear hgood
    go_wp2
    go_ret
    exact ⟨⟨_,rfl,hi0'⟩,rfl⟩
   |false=>
    have HNE:=gd (show p≠x from fun e=>by rw[e] at hyz;simp at hyz)
    clear hgood
    go_wp2
    go_roundw
    case rel=>exact ⟨k+1,hlt,by go_num,gd (fun s hs=>by
     rw[HTK.out] at hs
     rcases List.mem_append.1 hs with hs|hs
     ·exact hinv.out s hs
     ·rw[List.mem_singleton.1 hs];exact HNE.out),(by first|trivial|rfl)⟩
    case measure=>simp[intOf];omega
  ·have hke:k=l.length:=by omega
   subst hke
   have hi:=hinv.out
   rw[List.take_of_length_le (Nat.le_refl _)] at hi
   have hRf:R=false:=by
    rw[←HR.out,List.any_eq_false]
    intro s hs
    simpa using hi s hs
   subst hRf
   clear hi
   go_wp2
   go_ret
   exact ⟨⟨_,rfl,by omega⟩,rfl⟩
theorem containsS_any (v:Value) (x:ByteArray) (l:List ByteArray) (w:World) (h:RStrs w v l) (hn:l.length≤16777216):
 Calls Tryz.prog 75 #[v,.string x] w fun e w'=>e= .returned (.bool (l.any fun s=>decide (s=x)))∧w=w':=by
 have HI:=gd (indexS_any v x l w h hn)
 obtain ⟨A,c,rfl, -, -⟩:=h.form
 obtain ⟨R,hR⟩:∃R,(l.any fun s=>decide (s=x))=R:=⟨_,rfl⟩
 simp only[hR] at HI⊢
 clear h hR
 go_enter Tryz.func75,Tryz.ntmps75
 go_wp2_with (first|(go_at_call 122;(with_reducible refine Calls.mono (HI.out) ?_);rintro e w6 ⟨⟨i,rfl,hi⟩,rfl⟩))
 go_ret
 rcases hi with ⟨rfl,h⟩|⟨rfl,h⟩
 ·exact ⟨by simp[h],rfl⟩
 ·exact ⟨by simp;omega,rfl⟩
theorem mCheckF_0 (x:Fc) (w:World) (hE:Env w) (hr:RdC w x) (hk:fokS x.f) (h0:¬x.f.path.length≤64):
 Calls Tryz.prog 48 #[.agg (cellsC x).toArray] w fun e w'=>e= .returned (.int .i64 22)∧Ext w w':=by
 obtain ⟨⟨z0,z1⟩,z2,z3⟩:=hk
 have HC:=gd (fun w'=>checked_any (false) w')
 obtain ⟨xp,xes,⟨xpath,xid,xtitle,xlink,xupd,xents⟩⟩:=x
 obtain ⟨hx0,hx1⟩:=hr
 dsimp only at*
 obtain ⟨xA,xc,rfl, -, -⟩:=hx0.form
 obtain ⟨xB,xd,rfl, -, -⟩:=hx1.form
 have hb:¬(xpath.length:Int)≤64:=by omega
 clear hx0 hx1 z0 z1 z2 z3 hE h0
 unfold cellsC fCells
 dsimp only
 go_enter Tryz.func48,Tryz.ntmps48
 go_wp2_with (first|(go_at_call 90;(with_reducible refine Calls.mono (HC.out _) ?_);rintro e9 w9 ⟨rfl,rfl⟩))
 all_goals go_ret
 all_goals exact ⟨rfl,(Ext.refl _).alloc _⟩
theorem mCheckF_1 (x:Fc) (w:World) (hE:Env w) (hr:RdC w x) (hk:fokS x.f) (h0:x.f.path.length≤64) (c0:(x.f.path.any fun s=>decide (s=⟨#[]⟩))=true):
 Calls Tryz.prog 48 #[.agg (cellsC x).toArray] w fun e w'=>e= .returned (.int .i64 22)∧Ext w w':=by
 obtain ⟨⟨z0,z1⟩,z2,z3⟩:=hk
 have HCT:=gd (fun (w':World) (h:Ext w w')=>containsS_any x.p ⟨#[]⟩ x.f.path w' (hr.1.ext h) (by omega))
 rw[c0] at HCT
 have HC:=gd (fun w'=>checked_any (false) w')
 obtain ⟨xp,xes,⟨xpath,xid,xtitle,xlink,xupd,xents⟩⟩:=x
 obtain ⟨hx0,hx1⟩:=hr
 dsimp only at*
 obtain ⟨xA,xc,rfl, -, -⟩:=hx0.form
 obtain ⟨xB,xd,rfl, -, -⟩:=hx1.form
 have hb:(xpath.length:Int)≤64:=by omega
 clear hx0 hx1 z0 z1 z2 z3 hE h0 c0
 unfold cellsC fCells
 dsimp only
 go_enter Tryz.func48,Tryz.ntmps48
 go_wp2_with (first|(go_at_call 75;(with_reducible refine Calls.mono (HCT.out _ ((Ext.refl w).alloc _)) ?_);rintro e3 w3 ⟨rfl,rfl⟩)|(go_at_call 90;(with_reducible refine Calls.mono (HC.out _) ?_);rintro e9 w9 ⟨rfl,rfl⟩))
 all_goals go_ret
 all_goals exact ⟨rfl,(Ext.refl _).alloc _⟩
theorem mCheckF_2 (x:Fc) (w:World) (hE:Env w) (hr:RdC w x) (hk:fokS x.f) (h0:x.f.path.length≤64) (c0:(x.f.path.any fun s=>decide (s=⟨#[]⟩))=false) (v0:x.f.path.all validS=false):
 Calls Tryz.prog 48 #[.agg (cellsC x).toArray] w fun e w'=>e= .returned (.int .i64 22)∧Ext w w':=by
 obtain ⟨⟨z0,z1⟩,z2,z3⟩:=hk
 have HCT:=gd (fun (w':World) (h:Ext w w')=>containsS_any x.p ⟨#[]⟩ x.f.path w' (hr.1.ext h) (by omega))
 rw[c0] at HCT
 have HPA:=gd (fun (w':World) (h:Ext w w')=>mAll_any x.p x.f.path w' (hE.ext h) (hr.1.ext h) (fun s hs=>by have:=size_le_sizes hs;omega) (by omega))
 rw[v0] at HPA
 have HC:=gd (fun w'=>checked_any (false) w')
 obtain ⟨xp,xes,⟨xpath,xid,xtitle,xlink,xupd,xents⟩⟩:=x
 obtain ⟨hx0,hx1⟩:=hr
 dsimp only at*
 obtain ⟨xA,xc,rfl, -, -⟩:=hx0.form
 obtain ⟨xB,xd,rfl, -, -⟩:=hx1.form
 have hb:(xpath.length:Int)≤64:=by omega
 clear hx0 hx1 z0 z1 z2 z3 hE h0 c0 v0
 unfold cellsC fCells
 dsimp only
 go_enter Tryz.func48,Tryz.ntmps48
 go_wp2_with (first|(go_at_call 75;(with_reducible refine Calls.mono (HCT.out _ ((Ext.refl w).alloc _)) ?_);rintro e3 w3 ⟨rfl,rfl⟩)|(go_at_call 88;(with_reducible refine Calls.mono (HPA.out _ ((Ext.refl w).alloc _)) ?_);rintro e4 w4 ⟨rfl,hx4⟩;(have k1:=hx4.boxed 1 _ rfl);(have k2:=hx4.boxed 2 _ rfl);(have k3:=hx4.boxed 3 _ rfl);(have k4:=hx4.boxed 4 _ rfl))|(go_at_call 90;(with_reducible refine Calls.mono (HC.out _) ?_);rintro e9 w9 ⟨rfl,rfl⟩))
 all_goals go_ret
 all_goals exact ⟨rfl,((Ext.refl _).alloc _).trans hx4⟩
theorem mCheckF_3 (x:Fc) (w:World) (hE:Env w) (hr:RdC w x) (hk:fokS x.f) (h0:x.f.path.length≤64) (c0:(x.f.path.any fun s=>decide (s=⟨#[]⟩))=false) (v0:x.f.path.all validS=true) (i0:x.f.id.toList.isEmpty=true):
 Calls Tryz.prog 48 #[.agg (cellsC x).toArray] w fun e w'=>e= .returned (.int .i64 22)∧Ext w w':=by
 obtain ⟨⟨z0,z1⟩,z2,z3⟩:=hk
 have HCT:=gd (fun (w':World) (h:Ext w w')=>containsS_any x.p ⟨#[]⟩ x.f.path w' (hr.1.ext h) (by omega))
 rw[c0] at HCT
 have HPA:=gd (fun (w':World) (h:Ext w w')=>mAll_any x.p x.f.path w' (hE.ext h) (hr.1.ext h) (fun s hs=>by have:=size_le_sizes hs;omega) (by omega))
 rw[v0] at HPA
 have HC:=gd (fun w'=>checked_any (false) w')
 obtain ⟨xp,xes,⟨xpath,xid,xtitle,xlink,xupd,xents⟩⟩:=x
 obtain ⟨hx0,hx1⟩:=hr
 dsimp only at*
 obtain ⟨xA,xc,rfl, -, -⟩:=hx0.form
 obtain ⟨xB,xd,rfl, -, -⟩:=hx1.form
 have hb:(xpath.length:Int)≤64:=by omega
 clear hx0 hx1 z0 z1 z2 z3 hE h0 c0 v0
 unfold cellsC fCells
 dsimp only
 go_enter Tryz.func48,Tryz.ntmps48
 go_wp2_with (first|(go_at_call 75;(with_reducible refine Calls.mono (HCT.out _ ((Ext.refl w).alloc _)) ?_);rintro e3 w3 ⟨rfl,rfl⟩)|(go_at_call 88;(with_reducible refine Calls.mono (HPA.out _ ((Ext.refl w).alloc _)) ?_);rintro e4 w4 ⟨rfl,hx4⟩;(have k1:=hx4.boxed 1 _ rfl);(have k2:=hx4.boxed 2 _ rfl);(have k3:=hx4.boxed 3 _ rfl);(have k4:=hx4.boxed 4 _ rfl))|(go_at_call 90;(with_reducible refine Calls.mono (HC.out _) ?_);rintro e9 w9 ⟨rfl,rfl⟩))
 all_goals go_ret
 all_goals exact ⟨rfl,((Ext.refl _).alloc _).trans hx4⟩
theorem mCheckF_4 (x:Fc) (w:World) (hE:Env w) (hr:RdC w x) (hk:fokS x.f) (h0:x.f.path.length≤64) (c0:(x.f.path.any fun s=>decide (s=⟨#[]⟩))=false) (v0:x.f.path.all validS=true) (i0:x.f.id.toList.isEmpty=false) (t0:inT x.f.upd=false):
 Calls Tryz.prog 48 #[.agg (cellsC x).toArray] w fun e w'=>e= .returned (.int .i64 22)∧Ext w w':=by
 obtain ⟨⟨z0,z1⟩,z2,z3⟩:=hk
 have HCT:=gd (fun (w':World) (h:Ext w w')=>containsS_any x.p ⟨#[]⟩ x.f.path w' (hr.1.ext h) (by omega))
 rw[c0] at HCT
 have HPA:=gd (fun (w':World) (h:Ext w w')=>mAll_any x.p x.f.path w' (hE.ext h) (hr.1.ext h) (fun s hs=>by have:=size_le_sizes hs;omega) (by omega))
 rw[v0] at HPA
 have HIT:=gd (fun w'=>mInTime_any x.f.upd w')
 rw[t0] at HIT
 have HC:=gd (fun w'=>checked_any (false) w')
 obtain ⟨xp,xes,⟨xpath,xid,xtitle,xlink,xupd,xents⟩⟩:=x
 obtain ⟨hx0,hx1⟩:=hr
 dsimp only at*
 obtain ⟨xA,xc,rfl, -, -⟩:=hx0.form
 obtain ⟨xB,xd,rfl, -, -⟩:=hx1.form
 have hb:(xpath.length:Int)≤64:=by omega
 clear hx0 hx1 z0 z1 z2 z3 hE h0 c0 v0 t0
 unfold cellsC fCells
 dsimp only
 go_enter Tryz.func48,Tryz.ntmps48
 go_wp2_with (first|(go_at_call 75;(with_reducible refine Calls.mono (HCT.out _ ((Ext.refl w).alloc _)) ?_);rintro e3 w3 ⟨rfl,rfl⟩)|(go_at_call 88;(with_reducible refine Calls.mono (HPA.out _ ((Ext.refl w).alloc _)) ?_);rintro e4 w4 ⟨rfl,hx4⟩;(have k1:=hx4.boxed 1 _ rfl);(have k2:=hx4.boxed 2 _ rfl);(have k3:=hx4.boxed 3 _ rfl);(have k4:=hx4.boxed 4 _ rfl))|(go_at_call 91;(with_reducible refine Calls.mono (HIT.out _) ?_);rintro e5 w5 ⟨rfl,rfl⟩)|(go_at_call 90;(with_reducible refine Calls.mono (HC.out _) ?_);rintro e9 w9 ⟨rfl,rfl⟩))
 all_goals go_ret
 all_goals exact ⟨rfl,((Ext.refl _).alloc _).trans hx4⟩
theorem mCheckF_5 (x:Fc) (w:World) (hE:Env w) (hr:RdC w x) (hk:fokS x.f) (h0:x.f.path.length≤64) (c0:(x.f.path.any fun s=>decide (s=⟨#[]⟩))=false) (v0:x.f.path.all validS=true) (i0:x.f.id.toList.isEmpty=false) (t0:inT x.f.upd=true) (s0: [x.f.id,x.f.title,x.f.link].all validS=false):
 Calls Tryz.prog 48 #[.agg (cellsC x).toArray] w fun e w'=>e= .returned (.int .i64 22)∧Ext w w':=by
 obtain ⟨⟨z0,z1⟩,z2,z3⟩:=hk
 have HCT:=gd (fun (w':World) (h:Ext w w')=>containsS_any x.p ⟨#[]⟩ x.f.path w' (hr.1.ext h) (by omega))
 rw[c0] at HCT
 have HPA:=gd (fun (w':World) (h:Ext w w')=>mAll_any x.p x.f.path w' (hE.ext h) (hr.1.ext h) (fun s hs=>by have:=size_le_sizes hs;omega) (by omega))
 rw[v0] at HPA
 have HIT:=gd (fun w'=>mInTime_any x.f.upd w')
 rw[t0] at HIT
 have HA3:=gd (fun (w':World) (h:Ext w w')=>mAll_any _ [x.f.id,x.f.title,x.f.link] (w'.alloc (.cells ([x.f.id,x.f.title,x.f.link].map Value.string).toArray 9)) ((hE.ext h).alloc _) (strs_new w' [x.f.id,x.f.title,x.f.link] (by show 3≤maxLen;decide)) (fun s h=>by simp only[List.mem_cons,List.mem_nil_iff,or_false] at h;rcases h with rfl|rfl|rfl<;>omega) (by show 3≤16777216;decide))
 rw[s0] at HA3
 simp only[List.map_cons,List.map_nil,List.length_cons,List.length_nil] at HA3
 have HC:=gd (fun w'=>checked_any (false) w')
 obtain ⟨xp,xes,⟨xpath,xid,xtitle,xlink,xupd,xents⟩⟩:=x
 obtain ⟨hx0,hx1⟩:=hr
 dsimp only at*
 obtain ⟨xA,xc,rfl, -, -⟩:=hx0.form
 obtain ⟨xB,xd,rfl, -, -⟩:=hx1.form
 have hb:(xpath.length:Int)≤64:=by omega
 clear hx0 hx1 z0 z1 z2 z3 hE h0 c0 v0 t0 s0
 unfold cellsC fCells
 dsimp only
 go_enter Tryz.func48,Tryz.ntmps48
 go_wp2_with (first|(go_at_call 75;(with_reducible refine Calls.mono (HCT.out _ ((Ext.refl w).alloc _)) ?_);rintro e3 w3 ⟨rfl,rfl⟩)|(go_at_call 88;(with_reducible refine Calls.mono (HPA.out _ ((Ext.refl w).alloc _)) ?_);rintro e4 w4 ⟨rfl,hx4⟩;(have k1:=hx4.boxed 1 _ rfl);(have k2:=hx4.boxed 2 _ rfl);(have k3:=hx4.boxed 3 _ rfl);(have k4:=hx4.boxed 4 _ rfl))|(go_at_call 91;(with_reducible refine Calls.mono (HIT.out _) ?_);rintro e5 w5 ⟨rfl,rfl⟩)|(go_at_call 88;(have hz:=HA3.out _ (((Ext.refl w).alloc _).trans hx4));(with_reducible refine Calls.mono hz ?_);clear hz;rintro e7 w7 ⟨rfl,hx7⟩;(have hx47:=hx4.trans (((Ext.refl _).alloc _).trans hx7));(have k5:=hx47.boxed 5 _ rfl))|(go_at_call 90;(with_reducible refine Calls.mono (HC.out _) ?_);rintro e9 w9 ⟨rfl,rfl⟩))
 all_goals go_ret
 all_goals exact ⟨rfl,((Ext.refl _).alloc _).trans hx47⟩
theorem mCheckF_6 (x:Fc) (w:World) (hE:Env w) (hr:RdC w x) (hk:fokS x.f) (h0:x.f.path.length≤64) (c0:(x.f.path.any fun s=>decide (s=⟨#[]⟩))=false) (v0:x.f.path.all validS=true) (i0:x.f.id.toList.isEmpty=false) (t0:inT x.f.upd=true) (s0: [x.f.id,x.f.title,x.f.link].all validS=true):
 Calls Tryz.prog 48 #[.agg (cellsC x).toArray] w fun e w'=>e= .returned (.int .i64 (if okL okE ordE x.f.ents=true then 0 else 22))∧Ext w w':=by
 obtain ⟨⟨z0,z1⟩,z2,z3⟩:=hk
 have HCT:=gd (fun (w':World) (h:Ext w w')=>containsS_any x.p ⟨#[]⟩ x.f.path w' (hr.1.ext h) (by omega))
 rw[c0] at HCT
 have HPA:=gd (fun (w':World) (h:Ext w w')=>mAll_any x.p x.f.path w' (hE.ext h) (hr.1.ext h) (fun s hs=>by have:=size_le_sizes hs;omega) (by omega))
 rw[v0] at HPA
 have HIT:=gd (fun w'=>mInTime_any x.f.upd w')
 rw[t0] at HIT
 have HA3:=gd (fun (w':World) (h:Ext w w')=>mAll_any _ [x.f.id,x.f.title,x.f.link] (w'.alloc (.cells ([x.f.id,x.f.title,x.f.link].map Value.string).toArray 9)) ((hE.ext h).alloc _) (strs_new w' [x.f.id,x.f.title,x.f.link] (by show 3≤maxLen;decide)) (fun s h=>by simp only[List.mem_cons,List.mem_nil_iff,or_false] at h;rcases h with rfl|rfl|rfl<;>omega) (by show 3≤16777216;decide))
 rw[s0] at HA3
 simp only[List.map_cons,List.map_nil,List.length_cons,List.length_nil] at HA3
 have HOR:=gd (fun (w':World) (h:Ext w w')=>orderedE_any x.es x.f.ents w' (hE.ext h) (hr.2.ext h) (fun e he=>by obtain ⟨_,h⟩:=z3 e he;exact ⟨by omega,by omega,by omega,by omega⟩) z2)
 have HC:=gd (fun w'=>checked_any (okL okE ordE x.f.ents) w')
 obtain ⟨b,hb⟩:∃b,okL okE ordE x.f.ents=b:=⟨_,rfl⟩
 simp only[hb] at HOR HC⊢
 clear hb
 obtain ⟨xp,xes,⟨xpath,xid,xtitle,xlink,xupd,xents⟩⟩:=x
 obtain ⟨hx0,hx1⟩:=hr
 dsimp only at*
 obtain ⟨xA,xc,rfl, -, -⟩:=hx0.form
 obtain ⟨xB,xd,rfl, -, -⟩:=hx1.form
 have hb:(xpath.length:Int)≤64:=by omega
 clear hx0 hx1 z0 z1 z2 z3 hE h0 c0 v0 t0 s0
 unfold cellsC fCells
 dsimp only
 go_enter Tryz.func48,Tryz.ntmps48
 go_wp2_with (first|(go_at_call 75;(with_reducible refine Calls.mono (HCT.out _ ((Ext.refl w).alloc _)) ?_);rintro e3 w3 ⟨rfl,rfl⟩)|(go_at_call 88;(with_reducible refine Calls.mono (HPA.out _ ((Ext.refl w).alloc _)) ?_);rintro e4 w4 ⟨rfl,hx4⟩;(have k1:=hx4.boxed 1 _ rfl);(have k2:=hx4.boxed 2 _ rfl);(have k3:=hx4.boxed 3 _ rfl);(have k4:=hx4.boxed 4 _ rfl))|(go_at_call 91;(with_reducible refine Calls.mono (HIT.out _) ?_);rintro e5 w5 ⟨rfl,rfl⟩)|(go_at_call 88;(have hz:=HA3.out _ (((Ext.refl w).alloc _).trans hx4));(with_reducible refine Calls.mono hz ?_);clear hz;rintro e7 w7 ⟨rfl,hx7⟩;(have hx47:=hx4.trans (((Ext.refl _).alloc _).trans hx7));(have k5:=hx47.boxed 5 _ rfl))|(go_at_call 92;(with_reducible refine Calls.mono (HOR.out _ (((Ext.refl w).alloc _).trans hx47)) ?_);rintro e8 w8 ⟨rfl,hx8⟩)|(go_at_call 90;(with_reducible refine Calls.mono (HC.out _) ?_);rintro e9 w9 ⟨rfl,rfl⟩))
 all_goals go_ret
 all_goals exact ⟨rfl,(((Ext.refl _).alloc _).trans hx47).trans hx8⟩
theorem mCheckF_any (x:Fc) (w:World) (hE:Env w) (hr:RdC w x) (hk:fokS x.f):
 Calls Tryz.prog 48 #[.agg (cellsC x).toArray] w fun e w'=>e= .returned (.int .i64 (if okF x.f=true then 0 else 22))∧Ext w w':=by
 by_cases h0:x.f.path.length≤64
 case neg=>
  rw[if_neg (fun h'=>h0 (okH_iff.1 (okF_iff.1 h').1).1)]
  exact mCheckF_0 x w hE hr hk h0
 cases c0:(x.f.path.any fun s=>decide (s=⟨#[]⟩)) with
 |true=>
  rw[if_neg (fun h'=>by
   obtain ⟨s,hs,he⟩:=List.any_eq_true.1 c0
   exact (okH_iff.1 (okF_iff.1 h').1).2.2.2.2 s hs (of_decide_eq_true he))]
  exact mCheckF_1 x w hE hr hk h0 c0
 |false=>
 cases v0:x.f.path.all validS with
 |false=>
  rw[if_neg (fun h'=>by
   have hall:=(okH_iff.1 (okF_iff.1 h').1).2.1
   rw[List.all_eq_true.2 (fun s hs=>hall s (by unfold strsF;simp[hs]))] at v0
   cases v0)]
  exact mCheckF_2 x w hE hr hk h0 c0 v0
 |true=>
 by_cases h4:x.f.id=noS
 ·rw[if_neg (fun h'=>(okH_iff.1 (okF_iff.1 h').1).2.2.1 h4)]
  exact mCheckF_3 x w hE hr hk h0 c0 v0 (noS_empty h4)
 cases t0:inT x.f.upd with
 |false=>
  rw[if_neg (fun h'=>by have:=(okH_iff.1 (okF_iff.1 h').1).2.2.2.1;rw[t0] at this;cases this)]
  exact mCheckF_4 x w hE hr hk h0 c0 v0 (ne_noS h4) t0
 |true=>
 cases s0: [x.f.id,x.f.title,x.f.link].all validS with
 |false=>
  rw[if_neg (fun h'=>by
   have hall:=(okH_iff.1 (okF_iff.1 h').1).2.1
   rw[List.all_eq_true.2 (fun s hs=>hall s (by unfold strsF;simp only[List.mem_append];exact Or.inr hs))] at s0
   cases s0)]
  exact mCheckF_5 x w hE hr hk h0 c0 v0 (ne_noS h4) t0 s0
 |true=>
  have hH:okH x.f=true:=okH_iff.2 ⟨h0,fun s hs=>by
   unfold strsF at hs
   rcases List.mem_append.1 hs with hs|hs
   ·exact List.all_eq_true.1 v0 s hs
   ·exact List.all_eq_true.1 s0 s hs,h4,t0,fun p hp e=>by
   rw[List.any_eq_false] at c0
   exact c0 p hp (decide_eq_true e)⟩
  have hF:okF x.f=okL okE ordE x.f.ents:=by unfold okF;rw[hH];rfl
  rw[hF]
  exact mCheckF_6 x w hE hr hk h0 c0 v0 (ne_noS h4) t0 s0
section
set_option linter.unusedSimpArgs false
theorem pad2_any (b:World) (B:Nat) (hb:b.heap.size≤B) (hE:Env b) (v:Value) (l:List UInt8) (n:Nat) (w:World) (hx:Ext b w) (hB:B≤w.heap.size) (ho:OB w B v l) (hl:l.length≤1000) (hn:n<100):
 Calls Tryz.prog 96 #[v,.int .i64 (n:Nat),.int .i64 2] w fun e w'=>∃v',e= .returned v'∧OB w' B v' (l++pad2 n)∧Ext b w':=by
 have h:=padZ_2 hn
 have:=pad_any b B hb hE v l n 2 w hx hB ho hl (by omega) h.2 (by omega)
 rwa [h.1] at this
theorem pad4_any (b:World) (B:Nat) (hb:b.heap.size≤B) (hE:Env b) (v:Value) (l:List UInt8) (n:Nat) (w:World) (hx:Ext b w) (hB:B≤w.heap.size) (ho:OB w B v l) (hl:l.length≤1000) (hn:n<10000):
 Calls Tryz.prog 96 #[v,.int .i64 (n:Nat),.int .i64 4] w fun e w'=>∃v',e= .returned v'∧OB w' B v' (l++pad4 n)∧Ext b w':=by
 have h:=padZ_4 hn
 have:=pad_any b B hb hE v l n 4 w hx hB ho hl hn h.2 (by omega)
 rwa [h.1] at this
theorem sinceN_at {t:Int} (ht:inT t=true):(sinceN t:Int)=t+62135596800∧sinceN t / 86400<3652059:=by
 have h: -62135596800≤t∧t≤253402300799:=by simpa [inT] using ht
 unfold sinceN;omega
theorem format_any (t:Int) (w:World) (hE:Env w) (ht:inT t=true):
 Calls Tryz.prog 49 #[.int .i64 t] w fun e w'=>e= .returned (.tuple #[.string (str (fmtL t)),.int .i64 0])∧Ext w w':=by
 obtain ⟨i0,hi0,hz0,hz1,hz2⟩:=info_parts info_u8
 obtain ⟨hu,hn⟩:=sinceN_at ht
 have hd:=dateN_ok (sinceN t / 86400)
 have hy:=hd.top hn
 have HD:=gd (fun w' (h:w=w')=>date_ok (sinceN t / 86400) w' hn)
 have hR:fmtL t=fmtD (dateN (sinceN t / 86400)).1 (dateN (sinceN t / 86400)).2.1 (dateN (sinceN t / 86400)).2.2 (sinceN t % 86400):=rfl
 obtain ⟨N,hN⟩:∃N,sinceN t / 86400=N:=⟨_,rfl⟩
 obtain ⟨s,hs⟩:∃s,sinceN t % 86400=s:=⟨_,rfl⟩
 have hus:t+62135596800=86400*(N:Int)+(s:Int)∧s<86400:=by omega
 rw[hN,hs] at hR
 rw[hN] at hd hy HD hn
 obtain ⟨q,hq⟩:∃q,dateN N=q:=⟨_,rfl⟩
 rw[hq] at hd hy HD hR
 obtain ⟨y,m,d⟩:=q
 simp only at hd hy HD hR
 have hm:m<100:=by have:=hd.2.2.1;omega
 have hdd:d<100:=by have:=hd.2.2.2.2.1;have:=(dimN_pos y m).2;omega
 have hy:y<10000:=by omega
 obtain ⟨S1,hS1⟩:∃x,s / 3600=x:=⟨_,rfl⟩
 obtain ⟨S0,hS0⟩:∃x,s / 60=x:=⟨_,rfl⟩
 obtain ⟨S2,hS2⟩:∃x,S0 % 60=x:=⟨_,rfl⟩
 obtain ⟨S3,hS3⟩:∃x,s % 60=x:=⟨_,rfl⟩
 have HRR:Hid (str (((((((((((pad4 y++ [45])++pad2 m)++ [45])++pad2 d)++ [84])++pad2 S1)++ [58])++pad2 S2)++ [58])++pad2 S3)++ [90])=str (fmtL t)):=by show _=_;rw[hR];unfold fmtD;rw[hS0,hS1,hS2,hS3];simp
 have HE:=gd hE
 have HX0:Hid (w=w):=rfl
 obtain ⟨hus1,hs8⟩:=hus
 clear hN hs hq hd hR hE ht hu
 have hs9:(s:Int)≤86399:=by omega
 have h3:((s:Int) / 3600)=(S1:Int):=by omega
 have h60:((s:Int) / 60)=(S0:Int):=by omega
 have h62:((S0:Int) % 60)=(S2:Int):=by omega
 have h6:((s:Int) % 60)=(S3:Int):=by omega
 have hb1:S1<100:=by omega
 have hb2:S2<100:=by omega
 have hb3:S3<100:=by omega
 have hb0:(S0:Int)≤86399:=by omega
 clear hS1 hS0 hS2 hS3
 rcases (by omega:0≤t∨t<0) with h0|h0
 ·obtain ⟨a,rfl⟩:=Int.eq_ofNat_of_zero_le h0
  have hqa:((a:Int) / 86400)=(N:Int) - 719162:=by omega
  have hra:((a:Int) % 86400)=(s:Int):=by omega
  have ha:(a:Int)≤253402300799:=by omega
  clear hus1 h0
  go_enter Tryz.func49,Tryz.ntmps49
  go_wp2_with (first|(go_at_call 95;(have hz:=HD.out _ HX0.out);(with_reducible refine Calls.mono hz ?_);clear hz;rintro e w0 ⟨rfl,hx0⟩;(have ho0:OB w0 w.heap.size (.slice none 0 0) []:=World.ownsRow_nil _ _ _ _))|(go_at_call 96;(have hz:=pad4_any w w.heap.size (Nat.le_refl _) HE.out _ [] y w0 hx0 hx0.size ho0 (by simp) hy);(with_reducible refine Calls.mono hz ?_);clear hz;rintro e w1 ⟨v1,rfl,ho1,hx1⟩;rw[List.nil_append] at ho1)|(at_builtin;refine wpList_append_rsl _ rfl (.tmp 32) (.tmp 33) _ rfl w.heap.size 5 i0 _ 1 1 Tryz.underlying115 hi0 hz0 hz1 hz2 rfl (by omega) _ _ _ rfl (ho1.ext ((Ext.refl w1).alloc _)) _ 1 _ rfl (rsl_new (cs:= [.int .u8 45]) (by simp) (by unfold maxLen;omega)) (by intro y hy;simp at hy;subst hy;rfl) (by unfold maxLen;simp[pad2,pad4]) (by simp[pad2,pad4]) (Nat.le_trans hx1.size ((Ext.refl w1).alloc _).size) ?_;intro u1 x1 hp1 hg1 hq1;(have hxx1:Ext w x1:=(hx1.alloc _).app hg1 (ho1.ext ((Ext.refl w1).alloc _)) (Nat.le_refl _));(have hpp1:OB x1 w.heap.size u1 (pad4 y++ [45]):=OB.of hp1 (by rw[byteCells_app];rfl));clear hp1 hg1 hq1)|(go_at_call 96;(have hz:=pad2_any w w.heap.size (Nat.le_refl _) HE.out _ (pad4 y++ [45]) m x1 hxx1 hxx1.size hpp1 (by simp[pad2,pad4]) (by omega));(with_reducible refine Calls.mono hz ?_);clear hz;rintro e w2 ⟨v2,rfl,ho2,hx2⟩)|(at_builtin;refine wpList_append_rsl _ rfl (.tmp 37) (.tmp 38) _ rfl w.heap.size 5 i0 _ 1 1 Tryz.underlying115 hi0 hz0 hz1 hz2 rfl (by omega) _ _ _ rfl (ho2.ext ((Ext.refl w2).alloc _)) _ 1 _ rfl (rsl_new (cs:= [.int .u8 45]) (by simp) (by unfold maxLen;omega)) (by intro y hy;simp at hy;subst hy;rfl) (by unfold maxLen;simp[pad2,pad4]) (by simp[pad2,pad4]) (Nat.le_trans hx2.size ((Ext.refl w2).alloc _).size) ?_;intro u2 x2 hp2 hg2 hq2;(have hxx2:Ext w x2:=(hx2.alloc _).app hg2 (ho2.ext ((Ext.refl w2).alloc _)) (Nat.le_refl _));(have hpp2:OB x2 w.heap.size u2 (((pad4 y++ [45])++pad2 m)++ [45]):=OB.of hp2 (by rw[byteCells_app];rfl));clear hp2 hg2 hq2)|(go_at_call 96;(have hz:=pad2_any w w.heap.size (Nat.le_refl _) HE.out _ (((pad4 y++ [45])++pad2 m)++ [45]) d x2 hxx2 hxx2.size hpp2 (by simp[pad2,pad4]) (by omega));(with_reducible refine Calls.mono hz ?_);clear hz;rintro e w3 ⟨v3,rfl,ho3,hx3⟩)|(at_builtin;refine wpList_append_rsl _ rfl (.tmp 42) (.tmp 43) _ rfl w.heap.size 5 i0 _ 1 1 Tryz.underlying115 hi0 hz0 hz1 hz2 rfl (by omega) _ _ _ rfl (ho3.ext ((Ext.refl w3).alloc _)) _ 1 _ rfl (rsl_new (cs:= [.int .u8 84]) (by simp) (by unfold maxLen;omega)) (by intro y hy;simp at hy;subst hy;rfl) (by unfold maxLen;simp[pad2,pad4]) (by simp[pad2,pad4]) (Nat.le_trans hx3.size ((Ext.refl w3).alloc _).size) ?_;intro u3 x3 hp3 hg3 hq3;(have hxx3:Ext w x3:=(hx3.alloc _).app hg3 (ho3.ext ((Ext.refl w3).alloc _)) (Nat.le_refl _));(have hpp3:OB x3 w.heap.size u3 (((((pad4 y++ [45])++pad2 m)++ [45])++pad2 d)++ [84]):=OB.of hp3 (by rw[byteCells_app];rfl));clear hp3 hg3 hq3)|(go_at_call 96;(have hz:=pad2_any w w.heap.size (Nat.le_refl _) HE.out _ (((((pad4 y++ [45])++pad2 m)++ [45])++pad2 d)++ [84]) S1 x3 hxx3 hxx3.size hpp3 (by simp[pad2,pad4]) (by omega));(with_reducible refine Calls.mono hz ?_);clear hz;rintro e w4 ⟨v4,rfl,ho4,hx4⟩)|(at_builtin;refine wpList_append_rsl _ rfl (.tmp 48) (.tmp 49) _ rfl w.heap.size 5 i0 _ 1 1 Tryz.underlying115 hi0 hz0 hz1 hz2 rfl (by omega) _ _ _ rfl (ho4.ext ((Ext.refl w4).alloc _)) _ 1 _ rfl (rsl_new (cs:= [.int .u8 58]) (by simp) (by unfold maxLen;omega)) (by intro y hy;simp at hy;subst hy;rfl) (by unfold maxLen;simp[pad2,pad4]) (by simp[pad2,pad4]) (Nat.le_trans hx4.size ((Ext.refl w4).alloc _).size) ?_;intro u4 x4 hp4 hg4 hq4;(have hxx4:Ext w x4:=(hx4.alloc _).app hg4 (ho4.ext ((Ext.refl w4).alloc _)) (Nat.le_refl _));(have hpp4:OB x4 w.heap.size u4 (((((((pad4 y++ [45])++pad2 m)++ [45])++pad2 d)++ [84])++pad2 S1)++ [58]):=OB.of hp4 (by rw[byteCells_app];rfl));clear hp4 hg4 hq4)|(go_at_call 96;(have hz:=pad2_any w w.heap.size (Nat.le_refl _) HE.out _ (((((((pad4 y++ [45])++pad2 m)++ [45])++pad2 d)++ [84])++pad2 S1)++ [58]) S2 x4 hxx4 hxx4.size hpp4 (by simp[pad2,pad4]) (by omega));(with_reducible refine Calls.mono hz ?_);clear hz;rintro e w5 ⟨v5,rfl,ho5,hx5⟩)|(at_builtin;refine wpList_append_rsl _ rfl (.tmp 55) (.tmp 56) _ rfl w.heap.size 5 i0 _ 1 1 Tryz.underlying115 hi0 hz0 hz1 hz2 rfl (by omega) _ _ _ rfl (ho5.ext ((Ext.refl w5).alloc _)) _ 1 _ rfl (rsl_new (cs:= [.int .u8 58]) (by simp) (by unfold maxLen;omega)) (by intro y hy;simp at hy;subst hy;rfl) (by unfold maxLen;simp[pad2,pad4]) (by simp[pad2,pad4]) (Nat.le_trans hx5.size ((Ext.refl w5).alloc _).size) ?_;intro u5 x5 hp5 hg5 hq5;(have hxx5:Ext w x5:=(hx5.alloc _).app hg5 (ho5.ext ((Ext.refl w5).alloc _)) (Nat.le_refl _));(have hpp5:OB x5 w.heap.size u5 (((((((((pad4 y++ [45])++pad2 m)++ [45])++pad2 d)++ [84])++pad2 S1)++ [58])++pad2 S2)++ [58]):=OB.of hp5 (by rw[byteCells_app];rfl));clear hp5 hg5 hq5)|(go_at_call 96;(have hz:=pad2_any w w.heap.size (Nat.le_refl _) HE.out _ (((((((((pad4 y++ [45])++pad2 m)++ [45])++pad2 d)++ [84])++pad2 S1)++ [58])++pad2 S2)++ [58]) S3 x5 hxx5 hxx5.size hpp5 (by simp[pad2,pad4]) (by omega));(with_reducible refine Calls.mono hz ?_);clear hz;rintro e w6 ⟨v6,rfl,ho6,hx6⟩)|(at_builtin;refine wpList_append_rsl _ rfl (.tmp 61) (.tmp 62) _ rfl w.heap.size 5 i0 _ 1 1 Tryz.underlying115 hi0 hz0 hz1 hz2 rfl (by omega) _ _ _ rfl (ho6.ext ((Ext.refl w6).alloc _)) _ 1 _ rfl (rsl_new (cs:= [.int .u8 90]) (by simp) (by unfold maxLen;omega)) (by intro y hy;simp at hy;subst hy;rfl) (by unfold maxLen;simp[pad2,pad4]) (by simp[pad2,pad4]) (Nat.le_trans hx6.size ((Ext.refl w6).alloc _).size) ?_;intro u6 x6 hp6 hg6 hq6;(have hxx6:Ext w x6:=(hx6.alloc _).app hg6 (ho6.ext ((Ext.refl w6).alloc _)) (Nat.le_refl _));(have hpp6:OB x6 w.heap.size u6 (((((((((((pad4 y++ [45])++pad2 m)++ [45])++pad2 d)++ [84])++pad2 S1)++ [58])++pad2 S2)++ [58])++pad2 S3)++ [90]):=OB.of hp6 (by rw[byteCells_app];rfl));(have hcv:=conv_own x6 _ _ _ hpp6);clear hp6 hg6 hq6))
  go_ret2
  exact ⟨by rw[←HRR.out];rfl,hxx6⟩
 ·obtain ⟨a,rfl⟩:∃a:Nat,t= -(a:Int):=⟨t.natAbs,by omega⟩
  obtain ⟨A,hA⟩:∃A:Nat,a / 86400=A:=⟨_,rfl⟩
  obtain ⟨R,hR⟩:∃R:Nat,a % 86400=R:=⟨_,rfl⟩
  have hqa:((a:Int) / 86400)=(A:Int):=by omega
  have hra:((a:Int) % 86400)=(R:Int):=by omega
  have ha:(a:Int)≤253402300799:=by omega
  have hA9:(A:Int)≤3000000:=by omega
  have hR9:(R:Int)≤86399:=by omega
  have haA:a=86400*A+R∧R<86400:=by omega
  by_cases hR0:R=0
  ·have hrs: -(R:Int)=(s:Int):=by omega
   have hdd: -(A:Int)=(N:Int) - 719162:=by omega
   have b1:¬(s:Int)<0:=by omega
   clear hus1 h0 hA hR haA hR0
   go_enter Tryz.func49,Tryz.ntmps49
   go_wp2_with (first|(go_at_call 95;(have hz:=HD.out _ HX0.out);(with_reducible refine Calls.mono hz ?_);clear hz;rintro e w0 ⟨rfl,hx0⟩;(have ho0:OB w0 w.heap.size (.slice none 0 0) []:=World.ownsRow_nil _ _ _ _))|(go_at_call 96;(have hz:=pad4_any w w.heap.size (Nat.le_refl _) HE.out _ [] y w0 hx0 hx0.size ho0 (by simp) hy);(with_reducible refine Calls.mono hz ?_);clear hz;rintro e w1 ⟨v1,rfl,ho1,hx1⟩;rw[List.nil_append] at ho1)|(at_builtin;refine wpList_append_rsl _ rfl (.tmp 32) (.tmp 33) _ rfl w.heap.size 5 i0 _ 1 1 Tryz.underlying115 hi0 hz0 hz1 hz2 rfl (by omega) _ _ _ rfl (ho1.ext ((Ext.refl w1).alloc _)) _ 1 _ rfl (rsl_new (cs:= [.int .u8 45]) (by simp) (by unfold maxLen;omega)) (by intro y hy;simp at hy;subst hy;rfl) (by unfold maxLen;simp[pad2,pad4]) (by simp[pad2,pad4]) (Nat.le_trans hx1.size ((Ext.refl w1).alloc _).size) ?_;intro u1 x1 hp1 hg1 hq1;(have hxx1:Ext w x1:=(hx1.alloc _).app hg1 (ho1.ext ((Ext.refl w1).alloc _)) (Nat.le_refl _));(have hpp1:OB x1 w.heap.size u1 (pad4 y++ [45]):=OB.of hp1 (by rw[byteCells_app];rfl));clear hp1 hg1 hq1)|(go_at_call 96;(have hz:=pad2_any w w.heap.size (Nat.le_refl _) HE.out _ (pad4 y++ [45]) m x1 hxx1 hxx1.size hpp1 (by simp[pad2,pad4]) (by omega));(with_reducible refine Calls.mono hz ?_);clear hz;rintro e w2 ⟨v2,rfl,ho2,hx2⟩)|(at_builtin;refine wpList_append_rsl _ rfl (.tmp 37) (.tmp 38) _ rfl w.heap.size 5 i0 _ 1 1 Tryz.underlying115 hi0 hz0 hz1 hz2 rfl (by omega) _ _ _ rfl (ho2.ext ((Ext.refl w2).alloc _)) _ 1 _ rfl (rsl_new (cs:= [.int .u8 45]) (by simp) (by unfold maxLen;omega)) (by intro y hy;simp at hy;subst hy;rfl) (by unfold maxLen;simp[pad2,pad4]) (by simp[pad2,pad4]) (Nat.le_trans hx2.size ((Ext.refl w2).alloc _).size) ?_;intro u2 x2 hp2 hg2 hq2;(have hxx2:Ext w x2:=(hx2.alloc _).app hg2 (ho2.ext ((Ext.refl w2).alloc _)) (Nat.le_refl _));(have hpp2:OB x2 w.heap.size u2 (((pad4 y++ [45])++pad2 m)++ [45]):=OB.of hp2 (by rw[byteCells_app];rfl));clear hp2 hg2 hq2)|(go_at_call 96;(have hz:=pad2_any w w.heap.size (Nat.le_refl _) HE.out _ (((pad4 y++ [45])++pad2 m)++ [45]) d x2 hxx2 hxx2.size hpp2 (by simp[pad2,pad4]) (by omega));(with_reducible refine Calls.mono hz ?_);clear hz;rintro e w3 ⟨v3,rfl,ho3,hx3⟩)|(at_builtin;refine wpList_append_rsl _ rfl (.tmp 42) (.tmp 43) _ rfl w.heap.size 5 i0 _ 1 1 Tryz.underlying115 hi0 hz0 hz1 hz2 rfl (by omega) _ _ _ rfl (ho3.ext ((Ext.refl w3).alloc _)) _ 1 _ rfl (rsl_new (cs:= [.int .u8 84]) (by simp) (by unfold maxLen;omega)) (by intro y hy;simp at hy;subst hy;rfl) (by unfold maxLen;simp[pad2,pad4]) (by simp[pad2,pad4]) (Nat.le_trans hx3.size ((Ext.refl w3).alloc _).size) ?_;intro u3 x3 hp3 hg3 hq3;(have hxx3:Ext w x3:=(hx3.alloc _).app hg3 (ho3.ext ((Ext.refl w3).alloc _)) (Nat.le_refl _));(have hpp3:OB x3 w.heap.size u3 (((((pad4 y++ [45])++pad2 m)++ [45])++pad2 d)++ [84]):=OB.of hp3 (by rw[byteCells_app];rfl));clear hp3 hg3 hq3)|(go_at_call 96;(have hz:=pad2_any w w.heap.size (Nat.le_refl _) HE.out _ (((((pad4 y++ [45])++pad2 m)++ [45])++pad2 d)++ [84]) S1 x3 hxx3 hxx3.size hpp3 (by simp[pad2,pad4]) (by omega));(with_reducible refine Calls.mono hz ?_);clear hz;rintro e w4 ⟨v4,rfl,ho4,hx4⟩)|(at_builtin;refine wpList_append_rsl _ rfl (.tmp 48) (.tmp 49) _ rfl w.heap.size 5 i0 _ 1 1 Tryz.underlying115 hi0 hz0 hz1 hz2 rfl (by omega) _ _ _ rfl (ho4.ext ((Ext.refl w4).alloc _)) _ 1 _ rfl (rsl_new (cs:= [.int .u8 58]) (by simp) (by unfold maxLen;omega)) (by intro y hy;simp at hy;subst hy;rfl) (by unfold maxLen;simp[pad2,pad4]) (by simp[pad2,pad4]) (Nat.le_trans hx4.size ((Ext.refl w4).alloc _).size) ?_;intro u4 x4 hp4 hg4 hq4;(have hxx4:Ext w x4:=(hx4.alloc _).app hg4 (ho4.ext ((Ext.refl w4).alloc _)) (Nat.le_refl _));(have hpp4:OB x4 w.heap.size u4 (((((((pad4 y++ [45])++pad2 m)++ [45])++pad2 d)++ [84])++pad2 S1)++ [58]):=OB.of hp4 (by rw[byteCells_app];rfl));clear hp4 hg4 hq4)|(go_at_call 96;(have hz:=pad2_any w w.heap.size (Nat.le_refl _) HE.out _ (((((((pad4 y++ [45])++pad2 m)++ [45])++pad2 d)++ [84])++pad2 S1)++ [58]) S2 x4 hxx4 hxx4.size hpp4 (by simp[pad2,pad4]) (by omega));(with_reducible refine Calls.mono hz ?_);clear hz;rintro e w5 ⟨v5,rfl,ho5,hx5⟩)|(at_builtin;refine wpList_append_rsl _ rfl (.tmp 55) (.tmp 56) _ rfl w.heap.size 5 i0 _ 1 1 Tryz.underlying115 hi0 hz0 hz1 hz2 rfl (by omega) _ _ _ rfl (ho5.ext ((Ext.refl w5).alloc _)) _ 1 _ rfl (rsl_new (cs:= [.int .u8 58]) (by simp) (by unfold maxLen;omega)) (by intro y hy;simp at hy;subst hy;rfl) (by unfold maxLen;simp[pad2,pad4]) (by simp[pad2,pad4]) (Nat.le_trans hx5.size ((Ext.refl w5).alloc _).size) ?_;intro u5 x5 hp5 hg5 hq5;(have hxx5:Ext w x5:=(hx5.alloc _).app hg5 (ho5.ext ((Ext.refl w5).alloc _)) (Nat.le_refl _));(have hpp5:OB x5 w.heap.size u5 (((((((((pad4 y++ [45])++pad2 m)++ [45])++pad2 d)++ [84])++pad2 S1)++ [58])++pad2 S2)++ [58]):=OB.of hp5 (by rw[byteCells_app];rfl));clear hp5 hg5 hq5)|(go_at_call 96;(have hz:=pad2_any w w.heap.size (Nat.le_refl _) HE.out _ (((((((((pad4 y++ [45])++pad2 m)++ [45])++pad2 d)++ [84])++pad2 S1)++ [58])++pad2 S2)++ [58]) S3 x5 hxx5 hxx5.size hpp5 (by simp[pad2,pad4]) (by omega));(with_reducible refine Calls.mono hz ?_);clear hz;rintro e w6 ⟨v6,rfl,ho6,hx6⟩)|(at_builtin;refine wpList_append_rsl _ rfl (.tmp 61) (.tmp 62) _ rfl w.heap.size 5 i0 _ 1 1 Tryz.underlying115 hi0 hz0 hz1 hz2 rfl (by omega) _ _ _ rfl (ho6.ext ((Ext.refl w6).alloc _)) _ 1 _ rfl (rsl_new (cs:= [.int .u8 90]) (by simp) (by unfold maxLen;omega)) (by intro y hy;simp at hy;subst hy;rfl) (by unfold maxLen;simp[pad2,pad4]) (by simp[pad2,pad4]) (Nat.le_trans hx6.size ((Ext.refl w6).alloc _).size) ?_;intro u6 x6 hp6 hg6 hq6;(have hxx6:Ext w x6:=(hx6.alloc _).app hg6 (ho6.ext ((Ext.refl w6).alloc _)) (Nat.le_refl _));(have hpp6:OB x6 w.heap.size u6 (((((((((((pad4 y++ [45])++pad2 m)++ [45])++pad2 d)++ [84])++pad2 S1)++ [58])++pad2 S2)++ [58])++pad2 S3)++ [90]):=OB.of hp6 (by rw[byteCells_app];rfl));(have hcv:=conv_own x6 _ _ _ hpp6);clear hp6 hg6 hq6))
   go_ret2
   exact ⟨by rw[←HRR.out];rfl,hxx6⟩
  ·have b1: -(R:Int)<0:=by omega
   have hdd: -(A:Int) - 1=(N:Int) - 719162:=by omega
   have hrs: -(R:Int)+86400=(s:Int):=by omega
   clear hus1 h0 hA hR haA hR0
   go_enter Tryz.func49,Tryz.ntmps49
   go_wp2_with (first|(go_at_call 95;(have hz:=HD.out _ HX0.out);(with_reducible refine Calls.mono hz ?_);clear hz;rintro e w0 ⟨rfl,hx0⟩;(have ho0:OB w0 w.heap.size (.slice none 0 0) []:=World.ownsRow_nil _ _ _ _))|(go_at_call 96;(have hz:=pad4_any w w.heap.size (Nat.le_refl _) HE.out _ [] y w0 hx0 hx0.size ho0 (by simp) hy);(with_reducible refine Calls.mono hz ?_);clear hz;rintro e w1 ⟨v1,rfl,ho1,hx1⟩;rw[List.nil_append] at ho1)|(at_builtin;refine wpList_append_rsl _ rfl (.tmp 32) (.tmp 33) _ rfl w.heap.size 5 i0 _ 1 1 Tryz.underlying115 hi0 hz0 hz1 hz2 rfl (by omega) _ _ _ rfl (ho1.ext ((Ext.refl w1).alloc _)) _ 1 _ rfl (rsl_new (cs:= [.int .u8 45]) (by simp) (by unfold maxLen;omega)) (by intro y hy;simp at hy;subst hy;rfl) (by unfold maxLen;simp[pad2,pad4]) (by simp[pad2,pad4]) (Nat.le_trans hx1.size ((Ext.refl w1).alloc _).size) ?_;intro u1 x1 hp1 hg1 hq1;(have hxx1:Ext w x1:=(hx1.alloc _).app hg1 (ho1.ext ((Ext.refl w1).alloc _)) (Nat.le_refl _));(have hpp1:OB x1 w.heap.size u1 (pad4 y++ [45]):=OB.of hp1 (by rw[byteCells_app];rfl));clear hp1 hg1 hq1)|(go_at_call 96;(have hz:=pad2_any w w.heap.size (Nat.le_refl _) HE.out _ (pad4 y++ [45]) m x1 hxx1 hxx1.size hpp1 (by simp[pad2,pad4]) (by omega));(with_reducible refine Calls.mono hz ?_);clear hz;rintro e w2 ⟨v2,rfl,ho2,hx2⟩)|(at_builtin;refine wpList_append_rsl _ rfl (.tmp 37) (.tmp 38) _ rfl w.heap.size 5 i0 _ 1 1 Tryz.underlying115 hi0 hz0 hz1 hz2 rfl (by omega) _ _ _ rfl (ho2.ext ((Ext.refl w2).alloc _)) _ 1 _ rfl (rsl_new (cs:= [.int .u8 45]) (by simp) (by unfold maxLen;omega)) (by intro y hy;simp at hy;subst hy;rfl) (by unfold maxLen;simp[pad2,pad4]) (by simp[pad2,pad4]) (Nat.le_trans hx2.size ((Ext.refl w2).alloc _).size) ?_;intro u2 x2 hp2 hg2 hq2;(have hxx2:Ext w x2:=(hx2.alloc _).app hg2 (ho2.ext ((Ext.refl w2).alloc _)) (Nat.le_refl _));(have hpp2:OB x2 w.heap.size u2 (((pad4 y++ [45])++pad2 m)++ [45]):=OB.of hp2 (by rw[byteCells_app];rfl));clear hp2 hg2 hq2)|(go_at_call 96;(have hz:=pad2_any w w.heap.size (Nat.le_refl _) HE.out _ (((pad4 y++ [45])++pad2 m)++ [45]) d x2 hxx2 hxx2.size hpp2 (by simp[pad2,pad4]) (by omega));(with_reducible refine Calls.mono hz ?_);clear hz;rintro e w3 ⟨v3,rfl,ho3,hx3⟩)|(at_builtin;refine wpList_append_rsl _ rfl (.tmp 42) (.tmp 43) _ rfl w.heap.size 5 i0 _ 1 1 Tryz.underlying115 hi0 hz0 hz1 hz2 rfl (by omega) _ _ _ rfl (ho3.ext ((Ext.refl w3).alloc _)) _ 1 _ rfl (rsl_new (cs:= [.int .u8 84]) (by simp) (by unfold maxLen;omega)) (by intro y hy;simp at hy;subst hy;rfl) (by unfold maxLen;simp[pad2,pad4]) (by simp[pad2,pad4]) (Nat.le_trans hx3.size ((Ext.refl w3).alloc _).size) ?_;intro u3 x3 hp3 hg3 hq3;(have hxx3:Ext w x3:=(hx3.alloc _).app hg3 (ho3.ext ((Ext.refl w3).alloc _)) (Nat.le_refl _));(have hpp3:OB x3 w.heap.size u3 (((((pad4 y++ [45])++pad2 m)++ [45])++pad2 d)++ [84]):=OB.of hp3 (by rw[byteCells_app];rfl));clear hp3 hg3 hq3)|(go_at_call 96;(have hz:=pad2_any w w.heap.size (Nat.le_refl _) HE.out _ (((((pad4 y++ [45])++pad2 m)++ [45])++pad2 d)++ [84]) S1 x3 hxx3 hxx3.size hpp3 (by simp[pad2,pad4]) (by omega));(with_reducible refine Calls.mono hz ?_);clear hz;rintro e w4 ⟨v4,rfl,ho4,hx4⟩)|(at_builtin;refine wpList_append_rsl _ rfl (.tmp 48) (.tmp 49) _ rfl w.heap.size 5 i0 _ 1 1 Tryz.underlying115 hi0 hz0 hz1 hz2 rfl (by omega) _ _ _ rfl (ho4.ext ((Ext.refl w4).alloc _)) _ 1 _ rfl (rsl_new (cs:= [.int .u8 58]) (by simp) (by unfold maxLen;omega)) (by intro y hy;simp at hy;subst hy;rfl) (by unfold maxLen;simp[pad2,pad4]) (by simp[pad2,pad4]) (Nat.le_trans hx4.size ((Ext.refl w4).alloc _).size) ?_;intro u4 x4 hp4 hg4 hq4;(have hxx4:Ext w x4:=(hx4.alloc _).app hg4 (ho4.ext ((Ext.refl w4).alloc _)) (Nat.le_refl _));(have hpp4:OB x4 w.heap.size u4 (((((((pad4 y++ [45])++pad2 m)++ [45])++pad2 d)++ [84])++pad2 S1)++ [58]):=OB.of hp4 (by rw[byteCells_app];rfl));clear hp4 hg4 hq4)|(go_at_call 96;(have hz:=pad2_any w w.heap.size (Nat.le_refl _) HE.out _ (((((((pad4 y++ [45])++pad2 m)++ [45])++pad2 d)++ [84])++pad2 S1)++ [58]) S2 x4 hxx4 hxx4.size hpp4 (by simp[pad2,pad4]) (by omega));(with_reducible refine Calls.mono hz ?_);clear hz;rintro e w5 ⟨v5,rfl,ho5,hx5⟩)|(at_builtin;refine wpList_append_rsl _ rfl (.tmp 55) (.tmp 56) _ rfl w.heap.size 5 i0 _ 1 1 Tryz.underlying115 hi0 hz0 hz1 hz2 rfl (by omega) _ _ _ rfl (ho5.ext ((Ext.refl w5).alloc _)) _ 1 _ rfl (rsl_new (cs:= [.int .u8 58]) (by simp) (by unfold maxLen;omega)) (by intro y hy;simp at hy;subst hy;rfl) (by unfold maxLen;simp[pad2,pad4]) (by simp[pad2,pad4]) (Nat.le_trans hx5.size ((Ext.refl w5).alloc _).size) ?_;intro u5 x5 hp5 hg5 hq5;(have hxx5:Ext w x5:=(hx5.alloc _).app hg5 (ho5.ext ((Ext.refl w5).alloc _)) (Nat.le_refl _));(have hpp5:OB x5 w.heap.size u5 (((((((((pad4 y++ [45])++pad2 m)++ [45])++pad2 d)++ [84])++pad2 S1)++ [58])++pad2 S2)++ [58]):=OB.of hp5 (by rw[byteCells_app];rfl));clear hp5 hg5 hq5)|(go_at_call 96;(have hz:=pad2_any w w.heap.size (Nat.le_refl _) HE.out _ (((((((((pad4 y++ [45])++pad2 m)++ [45])++pad2 d)++ [84])++pad2 S1)++ [58])++pad2 S2)++ [58]) S3 x5 hxx5 hxx5.size hpp5 (by simp[pad2,pad4]) (by omega));(with_reducible refine Calls.mono hz ?_);clear hz;rintro e w6 ⟨v6,rfl,ho6,hx6⟩)|(at_builtin;refine wpList_append_rsl _ rfl (.tmp 61) (.tmp 62) _ rfl w.heap.size 5 i0 _ 1 1 Tryz.underlying115 hi0 hz0 hz1 hz2 rfl (by omega) _ _ _ rfl (ho6.ext ((Ext.refl w6).alloc _)) _ 1 _ rfl (rsl_new (cs:= [.int .u8 90]) (by simp) (by unfold maxLen;omega)) (by intro y hy;simp at hy;subst hy;rfl) (by unfold maxLen;simp[pad2,pad4]) (by simp[pad2,pad4]) (Nat.le_trans hx6.size ((Ext.refl w6).alloc _).size) ?_;intro u6 x6 hp6 hg6 hq6;(have hxx6:Ext w x6:=(hx6.alloc _).app hg6 (ho6.ext ((Ext.refl w6).alloc _)) (Nat.le_refl _));(have hpp6:OB x6 w.heap.size u6 (((((((((((pad4 y++ [45])++pad2 m)++ [45])++pad2 d)++ [84])++pad2 S1)++ [58])++pad2 S2)++ [58])++pad2 S3)++ [90]):=OB.of hp6 (by rw[byteCells_app];rfl));(have hcv:=conv_own x6 _ _ _ hpp6);clear hp6 hg6 hq6))
   go_ret2
   exact ⟨by rw[←HRR.out];rfl,hxx6⟩
end
section
set_option linter.unusedSimpArgs false
theorem own_low {w:World} {B b size n:Nat} {t:TypeId} {v:Value} {xs:List Value} (h:w.ownsRow B t size v n xs) (hb:b≤B):w.ownsRow b t size v n xs:=by
 refine ⟨h.1,?_⟩
 rcases h.2 with h0|⟨g,cap,cur,e,hg,hrest⟩
 ·exact Or.inl h0
 ·exact Or.inr ⟨g,cap,cur,e,Nat.le_trans hb hg,hrest⟩
def okJ (f:Fd):Bool:=okF f && decide (f.path= [])
def entQ (e:Ent):List QM:= [⟨nId,nId,false,e.id⟩,⟨⟨#[117,114,108,63]⟩,nUrl,true,e.link⟩,⟨nTitle,nTitle,false,e.title⟩,⟨⟨#[99,111,110,116,101,110,116,95,116,101,120,116,63]⟩,nText,true,e.content⟩,⟨nMod,nMod,false,str (fmtL e.upd)⟩]
def feedQ (f:Fd):List QM:= [⟨nVersion,nVersion,false,str (base1++ [49,46,49])⟩,⟨nTitle,nTitle,false,f.title⟩,⟨⟨#[104,111,109,101,95,112,97,103,101,95,117,114,108,63]⟩,nHome,true,f.link⟩,⟨nFeedUrl,nFeedUrl,false,f.id⟩,⟨nUpdated,nUpdated,false,str (fmtL f.upd)⟩]
theorem outQ_opt (k n v:ByteArray):outQ ⟨k,n,true,v⟩=optM n v:=by
 unfold outQ optM
 by_cases h:v=noS<;>simp[h]
theorem outQ_all (k n v:ByteArray):outQ ⟨k,n,false,v⟩= [(n,v)]:=rfl
theorem outM_ent (e:Ent):outM (entQ e)=entM e:=by
 unfold outM entQ entM
 simp only[List.flatMap_cons,List.flatMap_nil,outQ_opt,outQ_all]
 simp
theorem outM_feed (f:Fd):outM (feedQ f)=feedM f:=by
 unfold outM feedQ feedM
 simp only[List.flatMap_cons,List.flatMap_nil,outQ_opt,outQ_all]
 simp
def cutOk (q:QM):Prop:=Lib.hasSuffix q.k.data.toList [63]=q.o∧str (Lib.trimSuffix q.k.data.toList [63])=q.n∧q.k.size≤1000
theorem entQ_cut (e:Ent):∀q∈entQ e,cutOk q:=by
 intro q hq
 unfold entQ at hq
 simp only[List.mem_cons,List.not_mem_nil,or_false] at hq
 rcases hq with rfl|rfl|rfl|rfl|rfl<;>refine ⟨?_,?_,?_⟩<;>dsimp only<;>decide+kernel
theorem feedQ_cut (f:Fd):∀q∈feedQ f,cutOk q:=by
 intro q hq
 unfold feedQ at hq
 simp only[List.mem_cons,List.not_mem_nil,or_false] at hq
 rcases hq with rfl|rfl|rfl|rfl|rfl<;>refine ⟨?_,?_,?_⟩<;>dsimp only<;>decide+kernel
theorem members_ent (e:Ent) (F:ByteArray) (hF:F=str (fmtL e.upd)) (w:World):
 Calls Tryz.prog 51 #[.slice (some ⟨w.heap.size,0,none⟩) 10 10] (w.alloc (.cells #[.string ⟨#[105,100]⟩,.string e.id,.string ⟨#[117,114,108,63]⟩,.string e.link,.string ⟨#[116,105,116,108,101]⟩,.string e.title,.string ⟨#[99,111,110,116,101,110,116,95,116,101,120,116,63]⟩,.string e.content,.string ⟨#[100,97,116,101,95,109,111,100,105,102,105,101,100]⟩,.string F] 9))
  fun r w'=>∃v',r= .returned v'∧w'.ownsRow w.heap.size 56 9 v' (entM e).length ((entM e).map cellM).flatten∧Ext w w':=by
 subst hF
 have h:=members_any (entQ e) w.heap.size (w.alloc _) (heap_alloc_new w _) (entQ_cut e) (by show 5≤1000;decide)
 rw[outM_ent] at h
 refine Calls.mono h ?_
 rintro r w' ⟨v',rfl,ho,hx⟩
 exact ⟨v',rfl,own_low ho (by show w.heap.size≤(w.heap.push _).size;simp),((Ext.refl w).alloc _).trans hx⟩
theorem members_feed (f:Fd) (F:ByteArray) (hF:F=str (fmtL f.upd)) (w:World):
 Calls Tryz.prog 51 #[.slice (some ⟨w.heap.size,0,none⟩) 10 10] (w.alloc (.cells #[.string ⟨#[118,101,114,115,105,111,110]⟩,.string ⟨#[104,116,116,112,115,58,47,47,106,115,111,110,102,101,101,100,46,111,114,103,47,118,101,114,115,105,111,110,47,49,46,49]⟩,.string ⟨#[116,105,116,108,101]⟩,.string f.title,.string ⟨#[104,111,109,101,95,112,97,103,101,95,117,114,108,63]⟩,.string f.link,.string ⟨#[102,101,101,100,95,117,114,108]⟩,.string f.id,.string ⟨#[95,117,112,100,97,116,101,100]⟩,.string F] 9))
  fun r w'=>∃v',r= .returned v'∧w'.ownsRow w.heap.size 56 9 v' (feedM f).length ((feedM f).map cellM).flatten∧Ext w w':=by
 subst hF
 have h:=members_any (feedQ f) w.heap.size (w.alloc _) (heap_alloc_new w _) (feedQ_cut f) (by show 5≤1000;decide)
 rw[outM_feed] at h
 refine Calls.mono h ?_
 rintro r w' ⟨v',rfl,ho,hx⟩
 exact ⟨v',rfl,own_low ho (by show w.heap.size≤(w.heap.push _).size;simp),((Ext.refl w).alloc _).trans hx⟩
theorem rms_members {w:World} {v:Value} {l:List (ByteArray×ByteArray)} (h:RSl w 9 v l.length (l.map cellM).flatten):RMs w v (l.map Prod.fst) (l.map fun p=> .str p.2) (l.map fun p=>(p.1,strCells p.2,0)):=by
 refine ⟨by rw[List.map_map];rfl,by simp,?_,1,fun i j m hj hm=> ?_⟩
 ·rw[List.length_map,List.map_map]
  exact h
 ·rw[List.getElem?_map] at hj hm
  cases hl:l[i]? with
  |none=>rw[hl] at hj;simp at hj
  |some p=>
   rw[hl] at hj hm
   simp only[Option.map_some,Option.some.injEq] at hj hm
   subst hj hm
   exact strCells_rvn w p.2
theorem entM_len (e:Ent):(entM e).length≤5:=by
 rw[←outM_ent]
 exact outM_len (entQ e)
theorem feedM_len5 (f:Fd):(feedM f).length≤5:=by
 rw[←outM_feed]
 exact outM_len (feedQ f)
end
section
set_option linter.unusedSimpArgs false
theorem okJ_no {f:Fd} (h:okJ f=false):okF f=false∨okF f=true∧0<f.path.length:=by
 unfold okJ at h
 cases hf:okF f with
 |false=>exact Or.inl rfl
 |true=>
  rw[hf,Bool.true_and,decide_eq_false_iff_not] at h
  exact Or.inr ⟨rfl,List.length_pos_iff.2 h⟩
theorem jenc_no (x:Fc) (w:World) (hE:Env w) (hr:RdC w x) (hk:fokS x.f) (hno:okJ x.f=false):
 Calls Tryz.prog 18 #[.agg (cellsC x).toArray] w fun e w'=>e= .returned (.tuple #[.agg #[.int .i64 0,.bool false,.int .i64 0,.string ⟨#[]⟩,.slice none 0 0,.slice none 0 0,.int .i64 0],.int .i64 22])∧Ext w w':=by
 have HCK:=gd (fun (w':World) (h:Ext w w')=>mCheckF_any x w' (hE.ext h) (hr.ext h) hk)
 obtain ⟨C,hC⟩:∃C:Int,(if okF x.f=true then (0:Int) else 22)=C:=⟨_,rfl⟩
 rw[hC] at HCK
 have hno2:C=22∨C=0∧0<x.f.path.length:=by
  rcases okJ_no hno with h|⟨h,h2⟩
  ·rw[h] at hC;exact Or.inl hC.symm
  ·rw[h] at hC;exact Or.inr ⟨hC.symm,h2⟩
 clear hC hno
 obtain ⟨xp,xes,⟨xpath,xid,xtitle,xlink,xupd,xents⟩⟩:=x
 obtain ⟨hx0,hx1⟩:=hr
 dsimp only at*
 obtain ⟨xA,xc,rfl, -, -⟩:=hx0.form
 obtain ⟨xB,xd,rfl, -, -⟩:=hx1.form
 clear hk
 unfold cellsC fCells at HCK⊢
 dsimp only at HCK⊢
 obtain ⟨W0,hW0⟩:∃W0,(w.alloc (.cells #[.slice xA xpath.length xc,.string xid,.string xtitle,.string xlink,.int .i64 xupd,.slice xB xents.length xd] 32)).alloc (.cells #[.int .i64 0,.bool false,.int .i64 0,.string ⟨#[]⟩,.slice none 0 0,.slice none 0 0,.int .i64 0] 25)=W0:=⟨_,rfl⟩
 have hx0':Ext w W0:=by rw[←hW0];exact ((Ext.refl w).alloc _).alloc _
 have hr0:W0.heap[w.heap.size+1]? =some (.cells #[.int .i64 0,.bool false,.int .i64 0,.string ⟨#[]⟩,.slice none 0 0,.slice none 0 0,.int .i64 0] 25 (0,0)):=by
  rw[←hW0]
  have:=heap_alloc_new (w.alloc (.cells #[.slice xA xpath.length xc,.string xid,.string xtitle,.string xlink,.int .i64 xupd,.slice xB xents.length xd] 32)) (.cells #[.int .i64 0,.bool false,.int .i64 0,.string ⟨#[]⟩,.slice none 0 0,.slice none 0 0,.int .i64 0] 25)
  rwa [size_alloc] at this
 have hb0:∀i v,(#[.slice xA xpath.length xc,.string xid,.string xtitle,.string xlink,.int .i64 xupd,.slice xB xents.length xd]:Array Value)[i]? =some v→W0.cell? ⟨w.heap.size,i,none⟩=some v:=fun i v h=>by
  rw[←hW0]
  exact ((Ext.refl (w.alloc _)).alloc _).boxed i v h
 have c0:=hb0 0 _ rfl
 have c1:=hb0 1 _ rfl
 have c2:=hb0 2 _ rfl
 have c3:=hb0 3 _ rfl
 have c4:=hb0 4 _ rfl
 have c5:=hb0 5 _ rfl
 clear hb0
 have HX0:=gd hx0'
 have HR0:=gd hr0
 clear hx0' hr0 hx0 hx1 hE
 rcases hno2 with rfl|⟨rfl,hpl⟩
 case inl=>
  go_enter Tryz.func18,Tryz.ntmps18
  go_wp2_with (first|(go_at_call 48;(have hz:=HCK.out W0 HX0.out);(with_reducible refine Calls.mono hz ?_);clear hz;rintro e w2 ⟨rfl,hx2⟩;(have d0:=hx2.cell c0);(have hkd:=hx2.heap HR0.out))|(refine wpList_store_row rfl 25 (.tmp 2) (.tmp 21) rfl (w.heap.size+1) #[.int .i64 0,.bool false,.int .i64 0,.string ⟨#[]⟩,.slice none 0 0,.slice none 0 0,.int .i64 0] rfl rfl _ _ hkd size_val rfl (all_one (vcells_one (k:=0) (b:=false) (n:=0) (s:=⟨#[]⟩) (a:=0))) ?_))
  ((try simp only[Exit.inBlock,Exit.then]);refine bodyPost_ret (results_cell_row2 rfl _ _ _ _ _ _ _ rfl (setRow_heap _ _ _ _ _ _ hkd) Tryz.underlying25 rfl size_val) rfl ?_)
  exact ⟨rfl,(HX0.out.trans hx2).setRow (Nat.le_succ _) _⟩
 case inr=>
  have hpi:(0:Int)<(xpath.length:Int):=by omega
  go_enter Tryz.func18,Tryz.ntmps18
  go_wp2_with (first|(go_at_call 48;(have hz:=HCK.out W0 HX0.out);(with_reducible refine Calls.mono hz ?_);clear hz;rintro e w2 ⟨rfl,hx2⟩;(have d0:=hx2.cell c0);(have hkd:=hx2.heap HR0.out))|(refine wpList_store_row rfl 25 (.tmp 2) (.tmp 21) rfl (w.heap.size+1) #[.int .i64 0,.bool false,.int .i64 0,.string ⟨#[]⟩,.slice none 0 0,.slice none 0 0,.int .i64 0] rfl rfl _ _ hkd size_val rfl (all_one (vcells_one (k:=0) (b:=false) (n:=0) (s:=⟨#[]⟩) (a:=0))) ?_))
  ((try simp only[Exit.inBlock,Exit.then]);refine bodyPost_ret (results_cell_row2 rfl _ _ _ _ _ _ _ rfl (setRow_heap _ _ _ _ _ _ hkd) Tryz.underlying25 rfl size_val) rfl ?_)
  exact ⟨rfl,(HX0.out.trans hx2).setRow (Nat.le_succ _) _⟩
end
section
set_option linter.unusedSimpArgs false
theorem own_types {w w':World} {b b' sz sz' n n':Nat} {e e':TypeId} {v v':Value} {xs xs':List Value} (h:w.ownsRow b e sz v n xs) (h':w.ownsRow b' e' sz' v' n' xs') (hne:e≠e') (hg:w.grownBy w' v'.ownBlock):w'.ownsRow b e sz v n xs:=by
 refine h.kept hg ?_
 rcases h.2 with ⟨rfl,_⟩|⟨g,cap,cur,rfl,_,hb,_⟩
 ·exact Or.inl rfl
 ·refine Or.inr fun eq=> ?_
  rcases h'.2 with ⟨rfl,_⟩|⟨g',cap',cur',rfl,_,hb',_⟩
  ·cases eq
  ·have hgg:g'=g:=by simp[Value.ownBlock] at eq;omega
   subst hgg
   rw[hb] at hb'
   injection hb' with hb'
   injection hb' with _ hb'
   exact hne hb'
def EncO (w:World) (l:List Ent) (css:List (List Value)):Prop:=css.length=l.length∧∀(i:Nat) (e:Ent) (c:List Value),l[i]? =some e→css[i]? =some c→∃A n d,c=ocells (.slice A n d) 0∧w.ownsRow 0 56 9 (.slice A n d) (entM e).length ((entM e).map cellM).flatten
theorem EncO.nil (w:World):EncO w [] []:=⟨rfl,fun i j c hj _=>by simp at hj⟩
theorem EncO.ext {w w':World} {l:List Ent} {css:List (List Value)} (h:EncO w l css) (hx:Ext w w'):EncO w' l css:=
 ⟨h.1,fun i e c hj hc=>by
  obtain ⟨A,n,d,h1,h2⟩:=h.2 i e c hj hc
  exact ⟨A,n,d,h1,own_ext h2 hx⟩⟩
theorem EncO.app {w w':World} {l:List Ent} {css:List (List Value)} {b sz n:Nat} {v:Value} {xs:List Value} (h:EncO w l css) (ho:w.ownsRow b 25 sz v n xs) (hg:w.grownBy w' v.ownBlock):EncO w' l css:=
 ⟨h.1,fun i e c hj hc=>by
  obtain ⟨A,n,d,h1,h2⟩:=h.2 i e c hj hc
  exact ⟨A,n,d,h1,own_types h2 ho (by decide) hg⟩⟩
theorem EncO.snoc {w:World} {l:List Ent} {css:List (List Value)} {e:Ent} {A:Option Addr} {n d b:Nat} (h:EncO w l css) (hv:w.ownsRow b 56 9 (.slice A n d) (entM e).length ((entM e).map cellM).flatten):EncO w (l++ [e]) (css++ [ocells (.slice A n d) 0]):=by
 obtain ⟨h1,h2⟩:=h
 refine ⟨by simp[h1],fun i j c hj hc=> ?_⟩
 by_cases hi:i<l.length
 ·rw[List.getElem?_append_left hi] at hj
  rw[List.getElem?_append_left (by omega)] at hc
  exact h2 i j c hj hc
 ·rw[List.getElem?_append_right (by omega)] at hj
  rw[List.getElem?_append_right (by omega)] at hc
  have hi0:i - l.length=0:=by
   by_cases h0:i - l.length=0
   ·exact h0
   ·rw[List.getElem?_eq_none (by simp;omega)] at hj
    simp at hj
  rw[hi0] at hj
  rw[h1,hi0] at hc
  simp only[List.getElem?_cons_zero,Option.some.injEq] at hj hc
  subst hj hc
  exact ⟨A,n,d,rfl,own_low hv (Nat.zero_le _)⟩
def EncR (w:World) (l:List Ent) (css:List (List Value)):Prop:=css.length=l.length∧∃n,∀(i:Nat) (j:JV) (c:List Value),(l.map fun e=>objS (entM e))[i]? =some j→css[i]? =some c→RVn n w j c
theorem EncO.encR {w:World} {l:List Ent} {css:List (List Value)} (h:EncO w l css):EncR w l css:=by
 refine ⟨h.1,2,fun i j c hj hc=> ?_⟩
 rw[List.getElem?_map] at hj
 cases hl:l[i]? with
 |none=>rw[hl] at hj;simp at hj
 |some e=>
  rw[hl] at hj
  simp only[Option.map_some,Option.some.injEq] at hj
  subst hj
  obtain ⟨A,n,d,rfl,ho⟩:=h.2 i e c hl hc
  obtain ⟨h1,h2,h3, -⟩:=rms_members (RSl.of_own ho)
  refine ⟨0,_,_,rfl,h1,h2,h3,fun i j m hj hm=> ?_⟩
  rw[List.getElem?_map] at hj hm
  cases hl:(entM e)[i]? with
  |none=>rw[hl] at hj;simp at hj
  |some p=>
   rw[hl] at hj hm
   simp only[Option.map_some,Option.some.injEq] at hj hm
   subst hj hm
   exact strCells_rvn w p.2
theorem EncO.one {w:World} {l:List Ent} {css:List (List Value)} (h:EncO w l css):∀u∈css.flatten,u.oneCell'=true:=flat_one fun c hc=>by
 obtain ⟨i,hi,rfl⟩:=List.mem_iff_getElem.1 hc
 have hl:i<l.length:=by have:=h.1;omega
 obtain ⟨A,n,d,h1, -⟩:=h.2 i l[i] css[i] (List.getElem?_eq_getElem hl) (List.getElem?_eq_getElem hi)
 rw[h1]
 intro u hu
 unfold ocells at hu
 simp only[List.mem_cons,List.not_mem_nil,or_false] at hu
 rcases hu with rfl|rfl|rfl|rfl|rfl|rfl|rfl<;>rfl
theorem EncO.arr {w:World} {l:List Ent} {css:List (List Value)} {A:Option Addr} {n d:Nat} (h:EncO w l css) (hr:RSl w 7 (.slice A n d) l.length css.flatten):RV w (.arr (l.map fun e=>objS (entM e))) [.int .i64 4,.bool false,.int .i64 0,.string ⟨#[]⟩,.slice A n d,.slice none 0 0,.int .i64 0]:=by
 obtain ⟨h1,m,h2⟩:=h.encR
 exact ⟨m+1,0,.slice A n d,css,rfl,by rw[List.length_map];exact h1,by rw[List.length_map];exact hr,h2⟩
theorem arrayO_any (n:Nat) (xs:List Value) (v:Value) (w:World) (hr:RSl w 7 v n xs) (hone:∀u∈xs,u.oneCell'=true) (hl:n≤1000000):
 Calls Tryz.prog 53 #[v] w fun e w'=>∃A m c,e= .returned (.agg #[.int .i64 4,.bool false,.int .i64 0,.string ⟨#[]⟩,.slice A m c,.slice none 0 0,.int .i64 0])∧w'.ownsRow w.heap.size 25 7 (.slice A m c) n xs∧Ext w w':=by
 have HC:=gd (fun w' (hx:Ext w w')=>clone_val v n xs w' (hr.ext hx) hone (by omega))
 clear hone
 go_enter Tryz.func53,Tryz.ntmps53
 go_wp2_with (first|(go_at_call 100;refine (HC.out _ ((Ext.refl w).alloc _)).mono ?_;rintro e w1 ⟨v',rfl,hown,hx1⟩;(obtain ⟨_,A',c',rfl,_⟩:=id (RSl.of_own hown));(have hk1:=hx1.heap (heap_alloc_new w _)))|(refine wpList_store_row rfl 25 (.tmp 2) (.tmp 5) rfl w.heap.size _ rfl rfl _ _ hk1 size_val rfl (by simp[Value.oneCell']) ?_))
 ((try simp only[Exit.inBlock,Exit.then]);refine bodyPost_ret (results_cell_row rfl _ _ _ _ _ _ _ rfl (setRow_heap _ _ _ _ _ _ hk1) Tryz.underlying25 rfl size_val) rfl ?_)
 have hxw:Ext w (w1.setRow w.heap.size #[Value.int .i64 4,.bool false,.int .i64 0,.string ⟨#[]⟩,.slice A' n c',.slice none 0 0,.int .i64 0]):=(((Ext.refl w).alloc _).trans hx1).setRow (Nat.le_refl _) _
 exact ⟨A',n,c',rfl,own_low (own_setRow hown (by show w.heap.size<(w.heap.push _).size;simp) _) (by rw[size_alloc];omega),hxw⟩
theorem objectO_any (l:List (ByteArray×ByteArray)) (v:Value) (w:World) (hr:RSl w 9 v l.length (l.map cellM).flatten) (hl:l.length≤1000):
 Calls Tryz.prog 50 #[v] w fun e w'=>∃A n c,e= .returned (.agg #[.int .i64 5,.bool false,.int .i64 0,.string ⟨#[]⟩,.slice none 0 0,.slice A n c,.int .i64 0])∧w'.ownsRow 0 56 9 (.slice A n c) l.length (l.map cellM).flatten∧Ext w w':=by
 have hone:∀u∈(l.map cellM).flatten,u.oneCell'=true:=flat_one fun c hc=>by
  obtain ⟨m,hm,rfl⟩:=List.mem_map.1 hc
  exact cellM_one m
 have HC:=gd (fun w' (hx:Ext w w')=>clone_mem v l.length (l.map cellM).flatten w' (hr.ext hx) hone (by omega))
 clear hone
 go_enter Tryz.func50,Tryz.ntmps50
 go_wp2_with (first|(go_at_call 97;refine (HC.out _ ((Ext.refl w).alloc _)).mono ?_;rintro e w1 ⟨v',rfl,hown,hx1⟩;(obtain ⟨_,A',c',rfl,_⟩:=id (RSl.of_own hown));(have hk1:=hx1.heap (heap_alloc_new w _)))|(refine wpList_store_row rfl 25 (.tmp 2) (.tmp 5) rfl w.heap.size _ rfl rfl _ _ hk1 size_val rfl (by simp[Value.oneCell']) ?_))
 ((try simp only[Exit.inBlock,Exit.then]);refine bodyPost_ret (results_cell_row rfl _ _ _ _ _ _ _ rfl (setRow_heap _ _ _ _ _ _ hk1) Tryz.underlying25 rfl size_val) rfl ?_)
 have hxw:Ext w (w1.setRow w.heap.size #[Value.int .i64 5,.bool false,.int .i64 0,.string ⟨#[]⟩,.slice none 0 0,.slice A' l.length c',.int .i64 0]):=(((Ext.refl w).alloc _).trans hx1).setRow (Nat.le_refl _) _
 exact ⟨A',l.length,c',rfl,own_low (own_setRow hown (by show w.heap.size<(w.heap.push _).size;simp) _) (Nat.zero_le _),hxw⟩
theorem memberL_any (key:ByteArray) (j:JV) (k:Int) (b:Bool) (x:Int) (s:ByteArray) (A:Option Addr) (m c:Nat) (B:Option Addr) (p q:Nat) (a:Int) (w:World) (h:RV w j [.int .i64 k,.bool b,.int .i64 x,.string s,.slice A m c,.slice B p q,.int .i64 a]):
 Calls Tryz.prog 52 #[.string key,.agg #[.int .i64 k,.bool b,.int .i64 x,.string s,.slice A m c,.slice B p q,.int .i64 a]] w fun e w'=>e= .returned (.agg #[.string key,.int .i64 k,.bool b,.int .i64 x,.string s,.slice A m c,.slice B p q,.int .i64 a,.int .i64 0])∧Ext w w':=
 jMember_any key _ j _ w h.choose_spec
theorem objectG_any (n:Nat) (xs:List Value) (v:Value) (w:World) (hr:RSl w 9 v n xs) (hone:∀u∈xs,u.oneCell'=true) (hl:n≤1000000):
 Calls Tryz.prog 50 #[v] w fun e w'=>∃A m c,e= .returned (.agg #[.int .i64 5,.bool false,.int .i64 0,.string ⟨#[]⟩,.slice none 0 0,.slice A m c,.int .i64 0])∧w'.ownsRow w.heap.size 56 9 (.slice A m c) n xs∧Ext w w':=by
 have HC:=gd (fun w' (hx:Ext w w')=>clone_mem v n xs w' (hr.ext hx) hone (by omega))
 clear hone
 go_enter Tryz.func50,Tryz.ntmps50
 go_wp2_with (first|(go_at_call 97;refine (HC.out _ ((Ext.refl w).alloc _)).mono ?_;rintro e w1 ⟨v',rfl,hown,hx1⟩;(obtain ⟨_,A',c',rfl,_⟩:=id (RSl.of_own hown));(have hk1:=hx1.heap (heap_alloc_new w _)))|(refine wpList_store_row rfl 25 (.tmp 2) (.tmp 5) rfl w.heap.size _ rfl rfl _ _ hk1 size_val rfl (by simp[Value.oneCell']) ?_))
 ((try simp only[Exit.inBlock,Exit.then]);refine bodyPost_ret (results_cell_row rfl _ _ _ _ _ _ _ rfl (setRow_heap _ _ _ _ _ _ hk1) Tryz.underlying25 rfl size_val) rfl ?_)
 have hxw:Ext w (w1.setRow w.heap.size #[Value.int .i64 5,.bool false,.int .i64 0,.string ⟨#[]⟩,.slice none 0 0,.slice A' n c',.int .i64 0]):=(((Ext.refl w).alloc _).trans hx1).setRow (Nat.le_refl _) _
 exact ⟨A',n,c',rfl,own_low (own_setRow hown (by show w.heap.size<(w.heap.push _).size;simp) _) (by rw[size_alloc];omega),hxw⟩
theorem own_other {w:World} {b sz n g:Nat} {e e':TypeId} {v:Value} {xs:List Value} {cs0:Array Value} {fr:Nat×Nat} (h:w.ownsRow b e sz v n xs) (hg:w.heap[g]? =some (.cells cs0 e' fr)) (hne:e≠e') (cs:Array Value):(w.setRow g cs).ownsRow b e sz v n xs:=by
 refine h.kept (row:=some g) ⟨rfl,rfl,rfl,by simp[World.setRow],fun k _ hk=>setRow_other w g k cs (fun e=>hk (by rw[e]))⟩ ?_
 rcases h.2 with ⟨rfl,_⟩|⟨g',cap,cur,rfl,_,hb,_⟩
 ·exact Or.inl rfl
 ·refine Or.inr fun eq=> ?_
  have hgg:g'=g:=by simp[Value.ownBlock] at eq;omega
  subst hgg
  rw[hb] at hg
  injection hg with hg
  injection hg with _ hg
  exact hne hg
theorem EncO.setRow {w:World} {l:List Ent} {css:List (List Value)} {g:Nat} {cs0:Array Value} {fr:Nat×Nat} (h:EncO w l css) (hg:w.heap[g]? =some (.cells cs0 25 fr)) (cs:Array Value):EncO (w.setRow g cs) l css:=
 ⟨h.1,fun i e c hj hc=>by
  obtain ⟨A,n,d,h1,h2⟩:=h.2 i e c hj hc
  exact ⟨A,n,d,h1,own_other h2 hg (by decide) cs⟩⟩
theorem RMs.obj {w:World} {v:Value} {ks:List ByteArray} {vs:List JV} {ms:List (ByteArray×List Value×Int)} (h:RMs w v ks vs ms):RV w (.obj ks vs) (ocells v 0):=by
 obtain ⟨hks,hml,hr,n,hel⟩:=h
 exact ⟨n+1,0,v,ms,rfl,hks,hml,hr,hel⟩
theorem rms_items (l:List (ByteArray×ByteArray)) (key:ByteArray) (j:JV) (cs:List Value) (v:Value) (w:World) (h:RSl w 9 v (l.length+1) ((l.map cellM).flatten++mcell (key,cs,0))) (hj:RV w j cs):
 RMs w v (l.map Prod.fst++ [key]) (l.map (fun p=> .str p.2)++ [j]) (l.map (fun p=>(p.1,strCells p.2,0))++ [(key,cs,0)]):=by
 obtain ⟨n,hn⟩:=hj
 refine ⟨by rw[List.map_append,List.map_map];rfl,by simp,?_,max n 1,fun i j' m hj' hm=> ?_⟩
 ·rw[List.map_append,List.flatten_append,List.map_map]
  have he:(mcell∘fun p:ByteArray×ByteArray=>(p.1,strCells p.2,(0:Int)))=cellM:=rfl
  rw[he]
  simpa using h
 ·by_cases hi:i<l.length
  ·rw[List.getElem?_append_left (by simpa using hi),List.getElem?_map] at hj' hm
   rw[List.getElem?_eq_getElem hi] at hj' hm
   simp only[Option.map_some,Option.some.injEq] at hj' hm
   subst hj' hm
   exact RVn.more 1 _ _ _ (Nat.le_max_right _ _) (strCells_rvn w _)
  ·rw[List.getElem?_append_right (by simpa using hi),List.length_map] at hj' hm
   have hi0:i - l.length=0:=by
    by_cases h0:i - l.length=0
    ·exact h0
    ·rw[List.getElem?_eq_none (by simp;omega)] at hj'
     simp at hj'
   rw[hi0] at hj' hm
   simp only[List.getElem?_cons_zero,Option.some.injEq] at hj' hm
   subst hj' hm
   exact RVn.more n _ _ _ (Nat.le_max_left _ _) hn
end
end Go.Proofs.YthlnaldahkgjnaaGreatDoor
