/- Parts of the proof: contracts and plain laws. -/
import Derived.Test.YthlnaldahkgjnaaGreatDoorV20
namespace Go.Proofs.YthlnaldahkgjnaaGreatDoor
open Go Go.RowKit
set_option linter.unusedVariables false
set_option linter.unusedSimpArgs false
set_option maxRecDepth 100000
set_option maxHeartbeats 16000000
section
namespace Ord
section
variable {α κ:Type} (O:Ord α κ)
end
variable {α κ:Type} [DecidableEq κ] (O:Ord α κ)
theorem got_of_mem {S:List α} (h:S.Pairwise fun a b=>O.id a≠O.id b) {x:α} (hx:x∈S):O.got S (O.id x)=some x:=by
 have:(S.filter fun y=>decide (O.id y=O.id x))= [x]:=by
  induction S with
  |nil=>simp at hx
  |cons y t ih=>
   have h':=List.pairwise_cons.1 h
   rcases List.mem_cons.1 hx with e|e
   ·subst e
    rw[List.filter_cons_of_pos (by simp),List.filter_eq_nil_iff.2]
    intro z hz
    simpa using (h'.1 z hz).symm
   ·rw[List.filter_cons_of_neg (by simpa using h'.1 x e)]
    exact ih h'.2 e
 unfold got
 rw[this]
 rfl
theorem canon_self {S:List α} (hs:O.sorted S) (hi:S.Pairwise fun a b=>O.id a≠O.id b):O.canon S=S:=by
 refine IsCanon.unique O (O.canon_is S) ⟨hs,fun x=>⟨O.got_of_mem hi,fun h=> ?_⟩⟩
 have:x∈O.joined S:=(O.mem_joined S x).2 h
 unfold got at h
 generalize hg:(S.filter fun y=>O.id y=O.id x)=g at h
 cases g with
 |nil=>cases h
 |cons y t=>
  have hy:=List.mem_filter.1 (show y∈S.filter fun z=>decide (O.id z=O.id x) by rw[hg];simp)
  have hyx:O.id y=O.id x:=by simpa using hy.2
  have:=O.got_of_mem hi hy.1
  unfold got at this
  rw[hyx,hg,h] at this
  injection this with this
  rw[this];exact hy.1
end Ord
end
def hdr (f:Fd):Fd:={f with ents:= []}
section
section
variable {α κ:Type} [DecidableEq κ] {ok:α→Bool} {O:Ord α κ}
end
theorem okL_canon {α κ:Type} [DecidableEq κ] {ok:α→Bool} {O:Ord α κ} {l:List α} (h:okL ok O l=true):O.canon l=l:=by
 have h:=okL_iff.1 h
 exact O.canon_self h.2.1 h.2.2
theorem coll_okE {e:Ent} (h:okE e=true):errE e=0∧collE e=e:=by
 obtain ⟨h1,h2,h3⟩:=okE_iff.1 h
 have c1:=collapse_valid (h1 e.id (by simp[strsE]))
 have c2:=collapse_valid (h1 e.title (by simp[strsE]))
 have c3:=collapse_valid (h1 e.link (by simp[strsE]))
 have c4:=collapse_valid (h1 e.content (by simp[strsE]))
 refine ⟨errE_zero.2 ⟨firstErr_zero.2 fun s hs=>check_valid (h1 s hs),by rw[c1];exact h2,h3⟩,?_⟩
 unfold collE
 rw[c1,c2,c3,c4]
theorem map_self {α:Type} {g:α→α}:∀{l:List α},(∀x∈l,g x=x)→l.map g=l
 | [],_=>rfl
 |x::t,h=>by rw[List.map_cons,h x (by simp),map_self fun y hy=>h y (by simp[hy])]
theorem coll_okF {f:Fd} (h:okF f=true):errF f=0∧collF f=f:=by
 obtain ⟨h1,h2⟩:=okF_iff.1 h
 obtain ⟨g1,g2,g3,g4,g5⟩:=okH_iff.1 h1
 have c1:=collapse_valid (g2 f.id (by simp[strsF]))
 have c2:=collapse_valid (g2 f.title (by simp[strsF]))
 have c3:=collapse_valid (g2 f.link (by simp[strsF]))
 have c4:∀p∈f.path,collapse p=p:=fun p hp=>collapse_valid (g2 p (by simp[strsF,hp]))
 have h3:=(okL_iff.1 h2).1
 refine ⟨errF_zero.2 ⟨headF_zero.2 ⟨firstErr_zero.2 fun s hs=>check_valid (g2 s hs),by rw[c1];exact g3,fun p hp=>by rw[c4 p hp];exact g5 p hp,g1,g4⟩,errEs_zero.2 fun e he=>(coll_okE (h3 e he)).1⟩,?_⟩
 unfold collF
 rw[c1,c2,c3,map_self c4,map_self fun e he=>(coll_okE (h3 e he)).2,okL_canon h2]
end
section
set_option linter.unusedSimpArgs false
theorem cell_row_at {w:World} {ad:Addr} {g j:Nat} {cs:Array Value} {T:TypeId} {fr:Nat×Nat} {u:Value} (hz:w.heap[g]? =some (.cells cs T fr)) (he:ad.block=g) (hc:w.cell? (ad.add j)=some u):cs[ad.off+j]? =some u:=by
 unfold World.cell? at hc
 rw[block_of_add,he,hz] at hc
 dsimp only at hc
 split at hc
 ·cases hc
 ·have ho:(ad.add j).off=ad.off+j:=by unfold Addr.add;split<;>simp_all
  rw[ho] at hc
  exact hc
theorem RSl.nil_any {w w':World} {sz:Nat} {v:Value} (h:RSl w sz v 0 []):RSl w' sz v 0 []:=by
 obtain ⟨h1,A,c,rfl,h2,h3,h4,h5⟩:=h
 exact ⟨h1,A,c,rfl,h2,h3,h4,fun j u hu=>by simp at hu⟩
theorem REnts.setZero {w:World} {v:Value} {l:List Ent} {g:Nat} {T:TypeId} {fr:Nat×Nat} (h:REnts w v l) (hz:w.heap[g]? =some (.cells #[.slice none 0 0,.string ⟨#[]⟩,.string ⟨#[]⟩,.string ⟨#[]⟩,.int .i64 0,.slice none 0 0] T fr)) (cs:Array Value):REnts (w.setRow g cs) v l:=by
 cases l with
 |nil=>exact RSl.nil_any h
 |cons x t=>
  obtain ⟨h1,A,c,rfl,h2,h3,h4,h5⟩:=h
  obtain ⟨ad,rfl,q0⟩:=h5 0 (.string x.id) rfl
  obtain ⟨ad',he3,q3⟩:=h5 3 (.string x.content) rfl
  injection he3 with he3
  subst he3
  have hne:ad.block≠g:=fun he=>by
   have r0:=cell_row_at hz he q0
   have r3:=cell_row_at hz he q3
   match ad.off,r0,r3 with
   |0,r0,_=>simp at r0
   |1,_,r3=>simp at r3
   |2,_,r3=>simp at r3
   |3,_,r3=>simp at r3
   |4,r0,_=>simp at r0
   |5,r0,_=>simp at r0
   |n+6,r0,_=>simp at r0
  refine ⟨h1,some ad,c,rfl,h2,h3,h4,fun j u hu=> ?_⟩
  obtain ⟨ad2,e2,hc⟩:=h5 j u hu
  injection e2 with e2
  subst e2
  refine ⟨ad,rfl,?_⟩
  have hq:(w.setRow g cs).cell? (ad.add j)=w.cell? (ad.add j):=World.cell?_of_block (by rw[block_of_add];exact setRow_other w g ad.block cs hne)
  rw[hq]
  exact hc
def RdF (w':World) (r:Except (Nat×Nat) Fd) (e:Ending):Prop:=match r with
 | .error f=>e= .returned (.tuple #[.agg (cellsC zeroC).toArray,.int .i64 (f.2:Nat)])
 | .ok f=>∃y:Fc,e= .returned (.tuple #[.agg (cellsC y).toArray,.int .i64 (errF f:Nat)])∧y.f=normF f∧RdC w' y
theorem collF_path {f:Fd} (h:f.path= []):(normF f).path= []:=by
 unfold normF
 split
 ·unfold collF;simp[h]
 ·rfl
theorem read18_any (N:Nat) (s:ByteArray) (o:JO) (w:World) (hE:Env w) (hs:s.size≤80000000000) (hp:jsonP s.data.toList=some o) (hg:jsz N o) (hN:N≤16777216) (hk:∀f,decJ o= .ok f→fokS f) (hLn:(itsW o).length≤1000000):
 Calls Tryz.prog 24 #[.string s] w fun e w'=>RdF w' (decJ o) e∧Ext w w':=by
 obtain ⟨W0,hW0⟩:∃W0,w.alloc (.cells #[.slice none 0 0,.string ⟨#[]⟩,.string ⟨#[]⟩,.string ⟨#[]⟩,.int .i64 0,.slice none 0 0] 32)=W0:=⟨_,rfl⟩
 have hx0:Ext w W0:=by rw[←hW0];exact (Ext.refl w).alloc _
 have hk0:W0.heap[w.heap.size]? =some (.cells #[.slice none 0 0,.string ⟨#[]⟩,.string ⟨#[]⟩,.string ⟨#[]⟩,.int .i64 0,.slice none 0 0] 32 (0,0)):=by rw[←hW0];exact heap_alloc_new w _
 have hP:=jParse_any s W0 hs
 rw[hp] at hP
 have HP:=gd hP
 have HD:=gd (fun (w':World) (cs:List Value) (hx:Ext w w') (hr:RJ w' o cs)=>jdecode_any N o cs w' hr hg hN (hE.ext hx) hk hLn)
 have HX0:=gd hx0
 have HK0:=gd hk0
 clear hP hp hg hk hE hx0 hk0
 cases hd:decJ o with
 |error f=>
  rw[hd] at HD
  clear hd
  go_enter Tryz.func24,Tryz.ntmps24
  go_wp2_with (first|(refine wpList_store_row rfl 32 (.tmp 2) (.tmp 25) rfl w.heap.size #[.slice none 0 0,.string ⟨#[]⟩,.string ⟨#[]⟩,.string ⟨#[]⟩,.int .i64 0,.slice none 0 0] rfl rfl _ _ hkd size_fd18 rfl oneF18 ?_)|(go_at_call 12;(have hz:=HD.out _ _ (HX1.out.alloc (.cells #[.int .i64 (kindJ o:Nat),.bool (bJ o),.int .i64 (nJ o),.string (sJ o),.slice A p c,.slice C q d,.int .i64 (atJ o:Nat)] 25)) (HRJ.out.ext ((Ext.refl w1).alloc (.cells #[.int .i64 (kindJ o:Nat),.bool (bJ o),.int .i64 (nJ o),.string (sJ o),.slice A p c,.slice C q d,.int .i64 (atJ o:Nat)] 25))));(refine Calls.mono hz ?_);clear hz;rintro e w2 ⟨hdr,hx2⟩;(have hdr2:e= .returned (.tuple #[.agg #[.slice none 0 0,.string ⟨#[]⟩,.string ⟨#[]⟩,.string ⟨#[]⟩,.int .i64 0,.slice none 0 0],.int .i64 (f.1:Nat),.int .i64 (f.2:Nat)]):=hdr);subst hdr2;clear hdr;(have hkd:=((hx2.alloc (.cells #[.slice none 0 0,.string ⟨#[]⟩,.string ⟨#[]⟩,.string ⟨#[]⟩,.int .i64 0,.slice none 0 0] 32))).heap (HK1.out)))|(go_at_call 27;(have hz:=HP.out);(refine Calls.mono hz ?_);clear hz;rintro e w1 ⟨⟨A,p,c,C,q,d,m,rfl,hnj⟩,hx1⟩;(have HRJ:Hid (RJ w1 o (wcells (kindJ o) (bJ o) (nJ o) (sJ o) (.slice A p c) (.slice C q d) (atJ o))):=gd ⟨m,hnj.rj⟩);(have HX1:=gd (HX0.out.trans hx1));(have HK1:=gd ((hx1.alloc (.cells #[.int .i64 (kindJ o:Nat),.bool (bJ o),.int .i64 (nJ o),.string (sJ o),.slice A p c,.slice C q d,.int .i64 (atJ o:Nat)] 25)).heap HK0.out));clear hnj))
  ((try simp only[Exit.inBlock,Exit.then]);refine bodyPost_ret (results_cell_row2 rfl _ _ _ _ _ _ _ rfl (setRow_heap _ _ _ _ _ _ hkd) Tryz.underlying32 rfl size_fd18) rfl ?_)
  exact ⟨rfl,((((HX1.out.alloc _).trans hx2).alloc _)).setRow (Nat.le_refl _) _⟩
 |ok f=>
  rw[hd] at HD
  have hpath:=(decJ_ok hd).1
  have hpn:=collF_path hpath
  clear hd hpath
  go_enter Tryz.func24,Tryz.ntmps24
  go_wp2_with (first|(refine wpList_store_row rfl 32 (.tmp 2) (.tmp 25) rfl w.heap.size #[.slice A5 ypath.length c5,.string yid,.string ytitle,.string ylink,.int .i64 yupd,.slice B5 yents.length d5] rfl rfl _ _ hkd size_fd18 rfl oneF18 ?_)|(go_at_call 12;(have hz:=HD.out _ _ (HX1.out.alloc (.cells #[.int .i64 (kindJ o:Nat),.bool (bJ o),.int .i64 (nJ o),.string (sJ o),.slice A p c,.slice C q d,.int .i64 (atJ o:Nat)] 25)) (HRJ.out.ext ((Ext.refl w1).alloc (.cells #[.int .i64 (kindJ o:Nat),.bool (bJ o),.int .i64 (nJ o),.string (sJ o),.slice A p c,.slice C q d,.int .i64 (atJ o:Nat)] 25))));(refine Calls.mono hz ?_);clear hz;rintro e w2 ⟨⟨y,rfl,hyf,hyr, -⟩,hx2⟩;(obtain ⟨yp,yes,⟨ypath,yid,ytitle,ylink,yupd,yents⟩⟩:=y);(obtain ⟨hy0,hy1⟩:=hyr);(dsimp only at hyf hy0 hy1);(obtain ⟨A5,c5,rfl, -, -⟩:=hy0.form);(obtain ⟨B5,d5,rfl, -, -⟩:=hy1.form);(have HYF:=gd hyf);(have HY0:=gd hy0);(have HY1:=gd hy1);(unfold cellsC fCells;dsimp only);(have hkd:=((hx2.alloc (.cells #[.slice A5 ypath.length c5,.string yid,.string ytitle,.string ylink,.int .i64 yupd,.slice B5 yents.length d5] 32))).heap (HK1.out));clear hyf hy0 hy1)|(go_at_call 27;(have hz:=HP.out);(refine Calls.mono hz ?_);clear hz;rintro e w1 ⟨⟨A,p,c,C,q,d,m,rfl,hnj⟩,hx1⟩;(have HRJ:Hid (RJ w1 o (wcells (kindJ o) (bJ o) (nJ o) (sJ o) (.slice A p c) (.slice C q d) (atJ o))):=gd ⟨m,hnj.rj⟩);(have HX1:=gd (HX0.out.trans hx1));(have HK1:=gd ((hx1.alloc (.cells #[.int .i64 (kindJ o:Nat),.bool (bJ o),.int .i64 (nJ o),.string (sJ o),.slice A p c,.slice C q d,.int .i64 (atJ o:Nat)] 25)).heap HK0.out));clear hnj))
  ((try simp only[Exit.inBlock,Exit.then]);refine bodyPost_ret (results_cell_row2 rfl _ _ _ _ #[.slice A5 ypath.length c5,.string yid,.string ytitle,.string ylink,.int .i64 yupd,.slice B5 yents.length d5] _ _ rfl (setRow_heap _ _ _ _ _ _ hkd) Tryz.underlying32 rfl size_fd18) rfl ?_)
  have hyp:ypath= []:=by have h:=congrArg Fd.path HYF.out;rw[hpn] at h;exact h
  subst hyp
  refine ⟨⟨⟨.slice A5 0 c5,.slice B5 yents.length d5,⟨[],yid,ytitle,ylink,yupd,yents⟩⟩,rfl,HYF.out,RSl.nil_any HY0.out,?_⟩,((((HX1.out.alloc _).trans hx2).alloc _)).setRow (Nat.le_refl _) _⟩
  exact (HY1.out.ext ((Ext.refl w2).alloc _)).setZero hkd _
end
section
set_option linter.unusedSimpArgs false
def jvs (M:Nat):JV→Prop
 | .int n=> -9223372036854775808≤n∧n≤9223372036854775807
 | .str s=>s.size≤M
 | .arr l=>∀j∈l,jvs M j
 | .obj _ vs=>∀j∈vs,jvs M j
 |_=>True
theorem jsz_erase {M:Nat}:∀o:JO,jvs M (eraseJ o)→jsz M o
 | .null _,_=>by simp[jsz]
 | .bool _ _,_=>by simp[jsz]
 | .int _ _,h=>by rw[eraseJ,jvs] at h;rw[jsz];exact h
 | .str _ s,h=>by rw[eraseJ,jvs] at h;rw[jsz];exact h
 | .arr _ l,h=>by rw[eraseJ,jvs] at h;rw[jsz];exact fun j hj=>jsz_erase j (h _ (List.mem_map_of_mem hj))
 | .obj _ ks vs,h=>by rw[eraseJ,jvs] at h;rw[jsz];exact fun j hj=>jsz_erase j (h _ (List.mem_map_of_mem hj))
theorem objS_vs {M:Nat} {l:List (ByteArray×ByteArray)} (h:gl M l):jvs M (objS l):=by
 unfold objS
 rw[jvs]
 intro j hj
 obtain ⟨p,hp,rfl⟩:=List.mem_map.1 hj
 rw[jvs]
 exact (h.2 p hp).2.1
theorem encJ_vs {M:Nat} (hM:38≤M) {f:Fd} (h:wrF M f):jvs M (encJ f):=by
 unfold encJ
 rw[jvs]
 have hg:=feedM_gl hM h
 intro j hj
 rcases encJ_vals hj with ⟨p,hp,rfl⟩|rfl
 ·rw[jvs];exact (hg.2 p hp).2.1
 ·rw[jvs]
  intro j hj
  obtain ⟨e,he,rfl⟩:=List.mem_map.1 hj
  exact objS_vs (entM_gl hM (h.2 e he))
end
section
set_option linter.unusedSimpArgs false
theorem norm_ok {f:Fd} (h:okF f=true):normF f=f∧errF f=0:=by
 obtain ⟨h1,h2⟩:=coll_okF h
 refine ⟨?_,h1⟩
 unfold normF
 rw[if_pos h1,h2]
theorem itsW_ok {o:JO} {f:Fd} (h:decJ o= .ok f):(itsW o).length=f.ents.length:=by
 have hv:versJ o≠none:=fun hv=>by
  unfold decJ at h
  rw[if_pos hv] at h
  cases h
 rw[decJ_at o hv] at h
 split at h
 ·cases h
 ·split at h
  ·cases h
  ·split at h
   ·cases h
   ·rename_i l hl
    injection h with h
    subst h
    exact (entsJ_ok hl).2.symm
theorem back_law {M:Nat} (hM:38≤M) (hM2:M≤200000) {f:Fd} (hf:okF f=true) (hp:f.path= []) (hw:wrF M f) (hn:f.ents.length≤10000):
 ∃o,jsonP (textF f).data.toList=some o∧decJ o= .ok f∧jsz M o∧(itsW o).length≤10000∧(textF f).size≤80000000000:=by
 obtain ⟨o,h1,h2,h3⟩:=enc_back hf hp
 refine ⟨o,by unfold textF;rw[str_toL];exact h1,h3,jsz_erase o (by rw[h2];exact encJ_vs hM hw),by rw[itsW_ok h3];exact hn,?_⟩
 have h4:=encJ_len hM hw
 have h5:(f.ents.length+2)*(30*M+640)≤10002*(30*200000+640):=Nat.mul_le_mul (by omega) (by omega)
 unfold textF
 rw[str_size]
 omega
end
end Go.Proofs.YthlnaldahkgjnaaGreatDoor
