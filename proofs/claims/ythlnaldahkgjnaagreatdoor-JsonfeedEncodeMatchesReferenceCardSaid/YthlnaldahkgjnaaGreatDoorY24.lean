/- Parts of the proof: contracts and plain laws. -/
import Derived.Test.YthlnaldahkgjnaaGreatDoorY23
namespace Go.Proofs.YthlnaldahkgjnaaGreatDoor
open Go Go.RowKit
set_option linter.unusedVariables false
set_option linter.unusedSimpArgs false
set_option maxRecDepth 100000
set_option maxHeartbeats 16000000
section
set_option linter.unusedSimpArgs false
theorem rj_open2 {n:Nat} {w:World} {j:JO} {cs:List Value} (h:RJn (n+1) w j cs):∃(A:Option Addr) (c:Nat) (B:Option Addr) (d:Nat) (css:List (List Value)) (ms:List Mm),cs=wcells (kindJ j) (bJ j) (nJ j) (sJ j) (.slice A (itemsJ j).length c) (.slice B (vsJ j).length d) (atJ j)∧
 css.length=(itemsJ j).length∧RSl w 7 (.slice A (itemsJ j).length c) (itemsJ j).length css.flatten∧(∀(i:Nat) (x:JO) (c:List Value),(itemsJ j)[i]? =some x→css[i]? =some c→RJn n w x c)∧(∀c∈css,c.length=7)∧
 ms.map (fun m=>(m.1,m.2.2))=(ksJ j).map (fun k=>(k.1,(k.2:Int)))∧ms.length=(vsJ j).length∧RSl w 9 (.slice B (vsJ j).length d) (vsJ j).length (ms.map mcell).flatten∧(∀(i:Nat) (x:JO) (m:Mm),(vsJ j)[i]? =some x→ms[i]? =some m→RJn n w x m.2.1)∧∀c∈ms.map mcell,c.length=9:=by
 obtain ⟨its,mv,rfl,⟨css,hcl,hrow,hel⟩,⟨ms,hks,hml,hmr,hem⟩, -, -⟩:=h
 obtain ⟨_,A,c,rfl,_⟩:=id hrow
 obtain ⟨_,B,d,rfl,_⟩:=id hmr
 refine ⟨A,c,B,d,css,ms,rfl,hcl,hrow,hel,fun c hc=> ?_,hks,hml,hmr,hem,fun c hc=> ?_⟩
 ·obtain ⟨i,hi,rfl⟩:=List.mem_iff_getElem.1 hc
  exact (hel i _ _ (List.getElem?_eq_getElem (show i<(itemsJ j).length by omega)) (List.getElem?_eq_getElem hi)).len
 ·obtain ⟨m,hm,rfl⟩:=List.mem_map.1 hc
  obtain ⟨i,hi,rfl⟩:=List.mem_iff_getElem.1 hm
  have:=(hem i _ _ (List.getElem?_eq_getElem (show i<(vsJ j).length by omega)) (List.getElem?_eq_getElem hi)).len
  simp[mcell,this]
theorem eqJ_any:∀(n:Nat) (j:JO) (cs cs':List Value) (w:World),RJn n w j cs→RJn n w j cs'→Calls Tryz.prog 22 #[.agg cs.toArray,.agg cs'.toArray,.bool true] w fun e w'=>e= .returned (.bool true)∧Ext w w':=by
 intro n
 induction n with
 |zero=>intro j cs cs' w h _;exact h.elim
 |succ n ih=>
 intro j cs cs' w h h'
 obtain ⟨A,c,B,d,css,ms,rfl,hcl,hrow,hel,hl7,hks,hml,hmr,hem,hl9⟩:=rj_open2 h
 obtain ⟨A',c',B',d',css',ms',rfl,hcl',hrow',hel',hl7',hks',hml',hmr',hem',hl9'⟩:=rj_open2 h'
 clear h h'
 have hkk:=hks.trans hks'.symm
 obtain ⟨L,hL⟩:∃L,itemsJ j=L:=⟨_,rfl⟩
 obtain ⟨M,hM⟩:∃M,vsJ j=M:=⟨_,rfl⟩
 rw[hL] at hcl hrow hcl' hrow'
 simp only[hL] at hel hel'⊢
 rw[hM] at hml hmr hml' hmr'
 simp only[hM] at hem hem'⊢
 generalize kindJ j=K,bJ j=Bb,nJ j=Nn,sJ j=Ss,atJ j=At
 have hcmL:L.length≤maxLen:=by obtain ⟨_,_,_,e,h1,h2,_⟩:=id hrow;injection e with _ _ e;omega
 have hcmM:M.length≤maxLen:=by obtain ⟨_,_,_,e,h1,h2,_⟩:=id hmr;injection e with _ _ e;omega
 unfold maxLen at hcmL hcmM
 have HIH:=gd ih
 have HCL:=gd (And.intro hcl hcl')
 have HML:=gd (And.intro hml hml')
 have HROW:=gd hrow
 have HROW':=gd hrow'
 have HEL:=gd hel
 have HEL':=gd hel'
 have HL7:=gd hl7
 have HL7':=gd hl7'
 have HMR:=gd hmr
 have HMR':=gd hmr'
 have HEM:=gd hem
 have HEM':=gd hem'
 have HL9:=gd hl9
 have HL9':=gd hl9'
 have HKK:=gd hkk
 clear ih hcl hcl' hml hml' hrow hrow' hel hel' hl7 hl7' hmr hmr' hem hem' hl9 hl9' hkk hks hks' hL hM
 unfold wcells
 obtain ⟨w1,hw1⟩:∃w1,w.alloc (.cells #[.int .i64 (K:Nat),.bool Bb,.int .i64 Nn,.string Ss,.slice A L.length c,.slice B M.length d,.int .i64 (At:Nat)] 25)=w1:=⟨_,rfl⟩
 obtain ⟨w2,hw2⟩:∃w2,w1.alloc (.cells #[.int .i64 (K:Nat),.bool Bb,.int .i64 Nn,.string Ss,.slice A' L.length c',.slice B' M.length d',.int .i64 (At:Nat)] 25)=w2:=⟨_,rfl⟩
 have hx1:Ext w w1:=by rw[←hw1];exact (Ext.refl w).alloc _
 have hx2:Ext w1 w2:=by rw[←hw2];exact (Ext.refl w1).alloc _
 have hb1:w2.heap[w.heap.size]? =some (.cells #[.int .i64 (K:Nat),.bool Bb,.int .i64 Nn,.string Ss,.slice A L.length c,.slice B M.length d,.int .i64 (At:Nat)] 25 (0,0)):=hx2.heap (by rw[←hw1];exact heap_alloc_new w _)
 have hb2:w2.heap[w1.heap.size]? =some (.cells #[.int .i64 (K:Nat),.bool Bb,.int .i64 Nn,.string Ss,.slice A' L.length c',.slice B' M.length d',.int .i64 (At:Nat)] 25 (0,0)):=by rw[←hw2];exact heap_alloc_new w1 _
 have HA:Hid (∀W':World,Ext w2 W'→W'.cell? ⟨w.heap.size,0,none⟩=some (.int .i64 (K:Nat))∧W'.cell? ⟨w.heap.size,1,none⟩=some (.bool Bb)∧W'.cell? ⟨w.heap.size,2,none⟩=some (.int .i64 Nn)∧W'.cell? ⟨w.heap.size,3,none⟩=some (.string Ss)∧W'.cell? ⟨w.heap.size,4,none⟩=some (.slice A L.length c)∧W'.cell? ⟨w.heap.size,5,none⟩=some (.slice B M.length d)∧W'.cell? ⟨w.heap.size,6,none⟩=some (.int .i64 (At:Nat))):=gd fun W' h=>⟨h.cell (cell_of_row _ _ 0 _ _ _ hb1),h.cell (cell_of_row _ _ 1 _ _ _ hb1),h.cell (cell_of_row _ _ 2 _ _ _ hb1),h.cell (cell_of_row _ _ 3 _ _ _ hb1),h.cell (cell_of_row _ _ 4 _ _ _ hb1),h.cell (cell_of_row _ _ 5 _ _ _ hb1),h.cell (cell_of_row _ _ 6 _ _ _ hb1)⟩
 have HB:Hid (∀W':World,Ext w2 W'→W'.cell? ⟨w1.heap.size,0,none⟩=some (.int .i64 (K:Nat))∧W'.cell? ⟨w1.heap.size,1,none⟩=some (.bool Bb)∧W'.cell? ⟨w1.heap.size,2,none⟩=some (.int .i64 Nn)∧W'.cell? ⟨w1.heap.size,3,none⟩=some (.string Ss)∧W'.cell? ⟨w1.heap.size,4,none⟩=some (.slice A' L.length c')∧W'.cell? ⟨w1.heap.size,5,none⟩=some (.slice B' M.length d')∧W'.cell? ⟨w1.heap.size,6,none⟩=some (.int .i64 (At:Nat))):=gd fun W' h=>⟨h.cell (cell_of_row _ _ 0 _ _ _ hb2),h.cell (cell_of_row _ _ 1 _ _ _ hb2),h.cell (cell_of_row _ _ 2 _ _ _ hb2),h.cell (cell_of_row _ _ 3 _ _ _ hb2),h.cell (cell_of_row _ _ 4 _ _ _ hb2),h.cell (cell_of_row _ _ 5 _ _ _ hb2),h.cell (cell_of_row _ _ 6 _ _ _ hb2)⟩
 have HX:=gd (hx1.trans hx2)
 obtain ⟨x0,x1,x2,x3,x4,x5,x6⟩:=HA.out _ (Ext.refl w2)
 obtain ⟨y0,y1,y2,y3,y4,y5,y6⟩:=HB.out _ (Ext.refl w2)
 clear hx1 hx2 hb1 hb2
 go_enter Tryz.func22,Tryz.ntmps22
 go_wp2
 go_loopw [7] (fun i wr=>∃k:Nat,k≤L.length∧i= .int .i64 k∧Ext w2 wr) (fun i _=>L.length - (intOf i).toNat)
 case atStart=>exact ⟨0,Nat.zero_le _,rfl,Ext.refl _⟩
 case round=>
  obtain ⟨k,hk,rfl,hxw⟩:=hrel
  obtain ⟨cu0,cu1,cu2,cu3,cu4,cu5,cu6⟩:=HA.out _ hxw
  obtain ⟨cv0,cv1,cv2,cv3,cv4,cv5,cv6⟩:=HB.out _ hxw
  have HXW:=gd (HX.out.trans hxw)
  have HXR:=gd hxw
  clear x0 x1 x2 x3 x4 x5 x6 y0 y1 y2 y3 y4 y5 y6 hxw
  by_cases hlt:k<L.length
  focus
   have hk1:k<css.length:=by rw[HCL.out.1];exact hlt
   have hk2:k<css'.length:=by rw[HCL.out.2];exact hlt
   have hr1:=HEL.out k L[k] css[k] (List.getElem?_eq_getElem hlt) (List.getElem?_eq_getElem hk1)
   have hr2:=HEL'.out k L[k] css'[k] (List.getElem?_eq_getElem hlt) (List.getElem?_eq_getElem hk2)
   obtain ⟨ad,cap,hq,hcells⟩:=RSl.elem (HROW.out.ext HXW.out) (by omega) HL7.out k css[k] (List.getElem?_eq_getElem hk1)
   injection hq with hq1 hq2 hq3
   subst hq1
   clear hq2 hq3
   obtain ⟨ad',cap',hq,hcells'⟩:=RSl.elem (HROW'.out.ext HXW.out) (by omega) HL7'.out k css'[k] (List.getElem?_eq_getElem hk2)
   injection hq with hq1 hq2 hq3
   subst hq1
   clear hq2 hq3
   rw[Nat.mul_comm] at hcells hcells'
   have hih:=fun w' (hx:Ext w w')=>HIH.out L[k] css[k] css'[k] w' (hr1.ext hx) (hr2.ext hx)
   obtain ⟨cx,hcx⟩:∃x,css[k]=x:=⟨_,rfl⟩
   obtain ⟨cy,hcy⟩:∃x,css'[k]=x:=⟨_,rfl⟩
   obtain ⟨y,hy⟩:∃x,L[k]=x:=⟨_,rfl⟩
   rw[hcx,hy] at hr1
   rw[hcy,hy] at hr2
   rw[hcx] at hcells hih
   rw[hcy] at hcells' hih
   obtain ⟨e1,p1,q1,f1,r1,t1,hc1⟩:=hr1.cells
   obtain ⟨e2,p2,q2,f2,r2,t2,hc2⟩:=hr2.cells
   generalize kindJ y=K1,bJ y=b1,nJ y=n1,sJ y=s1,atJ y=a1 at hc1 hc2
   unfold wcells at hc1 hc2
   subst hc1 hc2
   have HI2:Hid (∀w':World,Ext w w'→Calls Tryz.prog 22 #[.agg #[.int .i64 (K1:Nat),.bool b1,.int .i64 n1,.string s1,.slice e1 p1 q1,.slice f1 r1 t1,.int .i64 (a1:Nat)],.agg #[.int .i64 (K1:Nat),.bool b1,.int .i64 n1,.string s1,.slice e2 p2 q2,.slice f2 r2 t2,.int .i64 (a1:Nat)],.bool true] w' fun e w2=>e= .returned (.bool true)∧Ext w' w2):=gd hih
   have g0:wr.cell? (ad.add (k*7))=some (.int .i64 (K1:Nat)):=hcells 0 _ rfl
   have g1:wr.cell? ⟨(ad.add (k*7)).block,(ad.add (k*7)).off+1,none⟩=some (.bool b1):=hcells 1 _ rfl
   have g2:wr.cell? ⟨(ad.add (k*7)).block,(ad.add (k*7)).off+2,none⟩=some (.int .i64 n1):=hcells 2 _ rfl
   have g3:wr.cell? ⟨(ad.add (k*7)).block,(ad.add (k*7)).off+3,none⟩=some (.string s1):=hcells 3 _ rfl
   have g4:wr.cell? ⟨(ad.add (k*7)).block,(ad.add (k*7)).off+4,none⟩=some (.slice e1 p1 q1):=hcells 4 _ rfl
   have g5:wr.cell? ⟨(ad.add (k*7)).block,(ad.add (k*7)).off+5,none⟩=some (.slice f1 r1 t1):=hcells 5 _ rfl
   have g6:wr.cell? ⟨(ad.add (k*7)).block,(ad.add (k*7)).off+6,none⟩=some (.int .i64 (a1:Nat)):=hcells 6 _ rfl
   have h0:wr.cell? (ad'.add (k*7))=some (.int .i64 (K1:Nat)):=hcells' 0 _ rfl
   have h1:wr.cell? ⟨(ad'.add (k*7)).block,(ad'.add (k*7)).off+1,none⟩=some (.bool b1):=hcells' 1 _ rfl
   have h2:wr.cell? ⟨(ad'.add (k*7)).block,(ad'.add (k*7)).off+2,none⟩=some (.int .i64 n1):=hcells' 2 _ rfl
   have h3:wr.cell? ⟨(ad'.add (k*7)).block,(ad'.add (k*7)).off+3,none⟩=some (.string s1):=hcells' 3 _ rfl
   have h4:wr.cell? ⟨(ad'.add (k*7)).block,(ad'.add (k*7)).off+4,none⟩=some (.slice e2 p2 q2):=hcells' 4 _ rfl
   have h5:wr.cell? ⟨(ad'.add (k*7)).block,(ad'.add (k*7)).off+5,none⟩=some (.slice f2 r2 t2):=hcells' 5 _ rfl
   have h6:wr.cell? ⟨(ad'.add (k*7)).block,(ad'.add (k*7)).off+6,none⟩=some (.int .i64 (a1:Nat)):=hcells' 6 _ rfl
   have cu4':∀dd:Aft wr,dd.w.cell? ⟨w.heap.size,4,none⟩=_:=Aft.cell cu4
   have cv4':∀dd:Aft wr,dd.w.cell? ⟨w1.heap.size,4,none⟩=_:=Aft.cell cv4
   have g0':=Aft.cell g0
   have h0':=Aft.cell h0
   have g1':=Aft.cell g1
   have h1':=Aft.cell h1
   have g2':=Aft.cell g2
   have h2':=Aft.cell h2
   have g3':=Aft.cell g3
   have h3':=Aft.cell h3
   have g4':=Aft.cell g4
   have h4':=Aft.cell h4
   have g5':=Aft.cell g5
   have h5':=Aft.cell h5
   have g6':=Aft.cell g6
   have h6':=Aft.cell h6
   clear hih hcx hcy hy hr1 hr2 hcells hcells' hk1 hk2 g0 g1 g2 g3 g4 g5 g6 h0 h1 h2 h3 h4 h5 h6 cu0 cu1 cu2 cu3 cu5 cu6 cv0 cv1 cv2 cv3 cv5 cv6
   go_wp2
   clear cu4 cv4
   refine rA ?_
   repeat (first|go_big_quiet_step ((go_at_call 22;with_reducible exact quiet_call (HI2.out _ (HXW.out.trans (Aft.ext _)))))|quiet_step ((go_at_call 22;with_reducible exact quiet_call (HI2.out _ (HXW.out.trans (Aft.ext _))))))
   refine wpQuiet_nil ?_
   rintro _ ⟨d1',rfl⟩
   go_wp2
   go_roundw
   case rel=>exact ⟨k+1,hlt,by go_num,HXR.out.trans d1'.ext⟩
   case measure=>simp[intOf];omega
  focus
   have hke:k=L.length:=by omega
   subst hke
   go_wp2
   go_loopw [8] (fun i wr=>∃k:Nat,k≤M.length∧i= .int .i64 k∧Ext w2 wr) (fun i _=>M.length - (intOf i).toNat)
   case atStart=>exact ⟨0,Nat.zero_le _,rfl,HXR.out⟩
   case round=>
    obtain ⟨k,hk,rfl,hxw⟩:=hrel
    have HXV:=gd (HX.out.trans hxw)
    have HXS:=gd hxw
    clear cu0 cu1 cu2 cu3 cu4 cu5 cu6 cv0 cv1 cv2 cv3 cv4 cv5 cv6
    obtain ⟨cu0,cu1,cu2,cu3,cu4,cu5,cu6⟩:=HA.out _ hxw
    obtain ⟨cv0,cv1,cv2,cv3,cv4,cv5,cv6⟩:=HB.out _ hxw
    by_cases hlt:k<M.length
    focus
     have hk1:k<ms.length:=by rw[HML.out.1];exact hlt
     have hk2:k<ms'.length:=by rw[HML.out.2];exact hlt
     have hr1:=HEM.out k M[k] ms[k] (List.getElem?_eq_getElem hlt) (List.getElem?_eq_getElem hk1)
     have hr2:=HEM'.out k M[k] ms'[k] (List.getElem?_eq_getElem hlt) (List.getElem?_eq_getElem hk2)
     have hkey:(ms[k].1,ms[k].2.2)=(ms'[k].1,ms'[k].2.2):=by
      have h1:(ms.map (fun m=>(m.1,m.2.2)))[k]? =(ms'.map (fun m=>(m.1,m.2.2)))[k]?:=by rw[HKK.out]
      rw[List.getElem?_map,List.getElem?_map,List.getElem?_eq_getElem hk1,List.getElem?_eq_getElem hk2] at h1
      exact Option.some.inj h1
     obtain ⟨ad,cap,hq,hcells⟩:=RSl.elem (HMR.out.ext HXV.out) (by omega) HL9.out k (mcell ms[k]) (by rw[List.getElem?_map,List.getElem?_eq_getElem hk1];rfl)
     injection hq with hq1 hq2 hq3
     subst hq1
     clear hq2 hq3
     obtain ⟨ad',cap',hq,hcells'⟩:=RSl.elem (HMR'.out.ext HXV.out) (by omega) HL9'.out k (mcell ms'[k]) (by rw[List.getElem?_map,List.getElem?_eq_getElem hk2];rfl)
     injection hq with hq1 hq2 hq3
     subst hq1
     clear hq2 hq3
     rw[Nat.mul_comm] at hcells hcells'
     have hih:=fun w' (hx:Ext w w')=>HIH.out M[k] ms[k].2.1 ms'[k].2.1 w' (hr1.ext hx) (hr2.ext hx)
     obtain ⟨cx,hcx⟩:∃x,ms[k]=x:=⟨_,rfl⟩
     obtain ⟨cy,hcy⟩:∃x,ms'[k]=x:=⟨_,rfl⟩
     obtain ⟨y,hy⟩:∃x,M[k]=x:=⟨_,rfl⟩
     rw[hcx,hy] at hr1
     rw[hcy,hy] at hr2
     rw[hcx] at hcells hih hkey
     rw[hcy] at hcells' hih hkey
     obtain ⟨key,c1,xt⟩:=cx
     obtain ⟨key',c2,xt'⟩:=cy
     injection hkey with hkey1 hkey2
     dsimp only at hkey1 hkey2 hr1 hr2
     subst hkey1 hkey2
     obtain ⟨e1,p1,q1,f1,r1,t1,hc1⟩:=hr1.cells
     obtain ⟨e2,p2,q2,f2,r2,t2,hc2⟩:=hr2.cells
     generalize kindJ y=K1,bJ y=b1,nJ y=n1,sJ y=s1,atJ y=a1 at hc1 hc2
     unfold wcells at hc1 hc2
     subst hc1 hc2
     have HI2:Hid (∀w':World,Ext w w'→Calls Tryz.prog 22 #[.agg #[.int .i64 (K1:Nat),.bool b1,.int .i64 n1,.string s1,.slice e1 p1 q1,.slice f1 r1 t1,.int .i64 (a1:Nat)],.agg #[.int .i64 (K1:Nat),.bool b1,.int .i64 n1,.string s1,.slice e2 p2 q2,.slice f2 r2 t2,.int .i64 (a1:Nat)],.bool true] w' fun e w2=>e= .returned (.bool true)∧Ext w' w2):=gd hih
     have g0:wr.cell? (ad.add (k*9))=some (.string key):=hcells 0 _ rfl
     have g1:wr.cell? ⟨(ad.add (k*9)).block,(ad.add (k*9)).off+1,none⟩=some (.int .i64 (K1:Nat)):=hcells 1 _ rfl
     have g2:wr.cell? ⟨(ad.add (k*9)).block,(ad.add (k*9)).off+2,none⟩=some (.bool b1):=hcells 2 _ rfl
     have g3:wr.cell? ⟨(ad.add (k*9)).block,(ad.add (k*9)).off+3,none⟩=some (.int .i64 n1):=hcells 3 _ rfl
     have g4:wr.cell? ⟨(ad.add (k*9)).block,(ad.add (k*9)).off+4,none⟩=some (.string s1):=hcells 4 _ rfl
     have g5:wr.cell? ⟨(ad.add (k*9)).block,(ad.add (k*9)).off+5,none⟩=some (.slice e1 p1 q1):=hcells 5 _ rfl
     have g6:wr.cell? ⟨(ad.add (k*9)).block,(ad.add (k*9)).off+6,none⟩=some (.slice f1 r1 t1):=hcells 6 _ rfl
     have g7:wr.cell? ⟨(ad.add (k*9)).block,(ad.add (k*9)).off+7,none⟩=some (.int .i64 (a1:Nat)):=hcells 7 _ rfl
     have g8:wr.cell? ⟨(ad.add (k*9)).block,(ad.add (k*9)).off+8,none⟩=some (.int .i64 xt):=hcells 8 _ rfl
     have h0:wr.cell? (ad'.add (k*9))=some (.string key):=hcells' 0 _ rfl
     have h1:wr.cell? ⟨(ad'.add (k*9)).block,(ad'.add (k*9)).off+1,none⟩=some (.int .i64 (K1:Nat)):=hcells' 1 _ rfl
     have h2:wr.cell? ⟨(ad'.add (k*9)).block,(ad'.add (k*9)).off+2,none⟩=some (.bool b1):=hcells' 2 _ rfl
     have h3:wr.cell? ⟨(ad'.add (k*9)).block,(ad'.add (k*9)).off+3,none⟩=some (.int .i64 n1):=hcells' 3 _ rfl
     have h4:wr.cell? ⟨(ad'.add (k*9)).block,(ad'.add (k*9)).off+4,none⟩=some (.string s1):=hcells' 4 _ rfl
     have h5:wr.cell? ⟨(ad'.add (k*9)).block,(ad'.add (k*9)).off+5,none⟩=some (.slice e2 p2 q2):=hcells' 5 _ rfl
     have h6:wr.cell? ⟨(ad'.add (k*9)).block,(ad'.add (k*9)).off+6,none⟩=some (.slice f2 r2 t2):=hcells' 6 _ rfl
     have h7:wr.cell? ⟨(ad'.add (k*9)).block,(ad'.add (k*9)).off+7,none⟩=some (.int .i64 (a1:Nat)):=hcells' 7 _ rfl
     have h8:wr.cell? ⟨(ad'.add (k*9)).block,(ad'.add (k*9)).off+8,none⟩=some (.int .i64 xt):=hcells' 8 _ rfl
     obtain ⟨X1,hX1⟩:∃X,wr.alloc (.cells #[.string key,.int .i64 (K1:Nat),.bool b1,.int .i64 n1,.string s1,.slice e1 p1 q1,.slice f1 r1 t1,.int .i64 (a1:Nat),.int .i64 xt] 56)=X:=⟨_,rfl⟩
     obtain ⟨X2,hX2⟩:∃X,X1.alloc (.cells #[.string key,.int .i64 (K1:Nat),.bool b1,.int .i64 n1,.string s1,.slice e2 p2 q2,.slice f2 r2 t2,.int .i64 (a1:Nat),.int .i64 xt] 56)=X:=⟨_,rfl⟩
     have hy1:Ext wr X1:=by rw[←hX1];exact (Ext.refl wr).alloc _
     have hy2:Ext X1 X2:=by rw[←hX2];exact (Ext.refl X1).alloc _
     have hbx:X2.heap[wr.heap.size]? =some (.cells #[.string key,.int .i64 (K1:Nat),.bool b1,.int .i64 n1,.string s1,.slice e1 p1 q1,.slice f1 r1 t1,.int .i64 (a1:Nat),.int .i64 xt] 56 (0,0)):=hy2.heap (by rw[←hX1];exact heap_alloc_new wr _)
     have hby:X2.heap[X1.heap.size]? =some (.cells #[.string key,.int .i64 (K1:Nat),.bool b1,.int .i64 n1,.string s1,.slice e2 p2 q2,.slice f2 r2 t2,.int .i64 (a1:Nat),.int .i64 xt] 56 (0,0)):=by rw[←hX2];exact heap_alloc_new X1 _
     obtain ⟨m0,m1,m2,m3,m4,m5,m6,m7,m8⟩:=box9 hbx
     obtain ⟨o0,o1,o2,o3,o4,o5,o6,o7,o8⟩:=box9 hby
     have h0':=hy1.cell h0
     have h1':=hy1.cell h1
     have h2':=hy1.cell h2
     have h3':=hy1.cell h3
     have h4':=hy1.cell h4
     have h5':=hy1.cell h5
     have h6':=hy1.cell h6
     have h7':=hy1.cell h7
     have h8':=hy1.cell h8
     have cv5':=hy1.cell cv5
     have HY:=gd (hy1.trans hy2)
     have r1:(key.toList !=key.toList)=false:=by simp
     clear hih hcx hcy hy hr1 hr2 hcells hcells' hk1 hk2 hbx hby hy1 hy2 cu0 cu1 cu2 cu3 cu4 cu6 cv0 cv1 cv2 cv3 cv4 cv6
     go_wp2_with (go_at_call 22;(have hz:=HI2.out X2 (HXV.out.trans HY.out));(with_reducible refine Calls.mono hz ?_);clear hz;rintro e w3 ⟨rfl,hx3⟩)
     go_roundw
     case rel=>exact ⟨k+1,hlt,by go_num,(HXS.out.trans HY.out).trans hx3⟩
     case measure=>simp[intOf];omega
    focus
     have hke:k=M.length:=by omega
     subst hke
     go_wp2
     go_ret
     exact ⟨rfl,HXV.out⟩
end
section
set_option linter.unusedSimpArgs false
def DepX (n:Nat) (e:Ending):Prop:=∃d:Nat,d≤n∧e= .returned (.int .i64 d)
theorem kind4 {j:JO} (h:0<(itemsJ j).length):kindJ j=4:=by
 cases j<;>first|rfl|simp[itemsJ] at h
theorem kind5 {j:JO} (h:0<(vsJ j).length):kindJ j=5:=by
 cases j<;>first|rfl|simp[vsJ] at h
theorem depthJ_any:∀(n:Nat) (j:JO) (cs:List Value) (w:World),n≤1000→RJn n w j cs→Calls Tryz.prog 152 #[.agg cs.toArray] w fun e w'=>DepX n e∧Ext w w':=by
 intro n
 induction n with
 |zero=>intro j cs w _ h;exact h.elim
 |succ n ih=>
 intro j cs w hn h
 obtain ⟨A,c,B,d,css,ms,rfl,hcl,hrow,hel,hl7,hks,hml,hmr,hem,hl9⟩:=rj_open2 h
 clear h hks
 have hk4:=kind4 (j:=j)
 have hk5:=kind5 (j:=j)
 obtain ⟨L,hL⟩:∃L,itemsJ j=L:=⟨_,rfl⟩
 obtain ⟨M,hM⟩:∃M,vsJ j=M:=⟨_,rfl⟩
 rw[hL] at hcl hrow hk4
 simp only[hL] at hel⊢
 rw[hM] at hml hmr hk5
 simp only[hM] at hem⊢
 generalize kindJ j=K at hk4 hk5⊢
 generalize bJ j=Bb,nJ j=Nn,sJ j=Ss,atJ j=At
 have hcmL:L.length≤maxLen:=by obtain ⟨_,_,_,e,h1,h2,_⟩:=id hrow;injection e with _ _ e;omega
 have hcmM:M.length≤maxLen:=by obtain ⟨_,_,_,e,h1,h2,_⟩:=id hmr;injection e with _ _ e;omega
 unfold maxLen at hcmL hcmM
 have HIH:=gd ih
 have HCL:=gd hcl
 have HML:=gd hml
 have HROW:=gd hrow
 have HEL:=gd hel
 have HL7:=gd hl7
 have HMR:=gd hmr
 have HEM:=gd hem
 have HL9:=gd hl9
 have HK4:=gd hk4
 have HK5:=gd hk5
 clear ih hcl hml hrow hel hl7 hmr hem hl9 hL hM hk4 hk5
 unfold wcells
 obtain ⟨w2,hw2⟩:∃w2,w.alloc (.cells #[.int .i64 (K:Nat),.bool Bb,.int .i64 Nn,.string Ss,.slice A L.length c,.slice B M.length d,.int .i64 (At:Nat)] 25)=w2:=⟨_,rfl⟩
 have hx2:Ext w w2:=by rw[←hw2];exact (Ext.refl w).alloc _
 have hb1:w2.heap[w.heap.size]? =some (.cells #[.int .i64 (K:Nat),.bool Bb,.int .i64 Nn,.string Ss,.slice A L.length c,.slice B M.length d,.int .i64 (At:Nat)] 25 (0,0)):=by rw[←hw2];exact heap_alloc_new w _
 have HA:Hid (∀W':World,Ext w2 W'→W'.cell? ⟨w.heap.size,0,none⟩=some (.int .i64 (K:Nat))∧W'.cell? ⟨w.heap.size,1,none⟩=some (.bool Bb)∧W'.cell? ⟨w.heap.size,2,none⟩=some (.int .i64 Nn)∧W'.cell? ⟨w.heap.size,3,none⟩=some (.string Ss)∧W'.cell? ⟨w.heap.size,4,none⟩=some (.slice A L.length c)∧W'.cell? ⟨w.heap.size,5,none⟩=some (.slice B M.length d)∧W'.cell? ⟨w.heap.size,6,none⟩=some (.int .i64 (At:Nat))):=gd fun W' h=>⟨h.cell (cell_of_row _ _ 0 _ _ _ hb1),h.cell (cell_of_row _ _ 1 _ _ _ hb1),h.cell (cell_of_row _ _ 2 _ _ _ hb1),h.cell (cell_of_row _ _ 3 _ _ _ hb1),h.cell (cell_of_row _ _ 4 _ _ _ hb1),h.cell (cell_of_row _ _ 5 _ _ _ hb1),h.cell (cell_of_row _ _ 6 _ _ _ hb1)⟩
 have HX:=gd hx2
 obtain ⟨x0,x1,x2,x3,x4,x5,x6⟩:=HA.out _ (Ext.refl w2)
 clear hx2 hb1
 go_enter Tryz.func152,Tryz.ntmps152
 go_wp2
 go_loopw [3,4] (fun m i wr=>∃k d:Nat,k≤L.length∧i= .int .i64 k∧m= .int .i64 d∧d≤n∧Ext w2 wr) (fun _ i _=>L.length - (intOf i).toNat)
 case atStart=>exact ⟨0,0,Nat.zero_le _,rfl,rfl,Nat.zero_le _,Ext.refl _⟩
 case round=>
  obtain ⟨k,dd,hk,rfl,rfl,hdd,hxw⟩:=hrel
  obtain ⟨cu0,cu1,cu2,cu3,cu4,cu5,cu6⟩:=HA.out _ hxw
  have HXW:=gd (HX.out.trans hxw)
  have HXR:=gd hxw
  clear x0 x1 x2 x3 x4 x5 x6 hxw
  by_cases hlt:k<L.length
  focus
   have hk1:k<css.length:=by rw[HCL.out];exact hlt
   have hr1:=HEL.out k L[k] css[k] (List.getElem?_eq_getElem hlt) (List.getElem?_eq_getElem hk1)
   obtain ⟨ad,cap,hq,hcells⟩:=RSl.elem (HROW.out.ext HXW.out) (by omega) HL7.out k css[k] (List.getElem?_eq_getElem hk1)
   injection hq with hq1 hq2 hq3
   subst hq1
   clear hq2 hq3
   rw[Nat.mul_comm] at hcells
   have hih:=fun w' (hx:Ext w w')=>HIH.out L[k] css[k] w' (by omega) (hr1.ext hx)
   obtain ⟨cx,hcx⟩:∃x,css[k]=x:=⟨_,rfl⟩
   obtain ⟨y,hy⟩:∃x,L[k]=x:=⟨_,rfl⟩
   rw[hcx,hy] at hr1
   rw[hcx] at hcells hih
   obtain ⟨e1,p1,q1,f1,r1,t1,hc1⟩:=hr1.cells
   generalize kindJ y=K1,bJ y=b1,nJ y=n1,sJ y=s1,atJ y=a1 at hc1
   unfold wcells at hc1
   subst hc1
   have HI2:Hid (∀w':World,Ext w w'→Calls Tryz.prog 152 #[.agg #[.int .i64 (K1:Nat),.bool b1,.int .i64 n1,.string s1,.slice e1 p1 q1,.slice f1 r1 t1,.int .i64 (a1:Nat)]] w' fun e w2=>DepX n e∧Ext w' w2):=gd hih
   have g0:wr.cell? (ad.add (k*7))=some (.int .i64 (K1:Nat)):=hcells 0 _ rfl
   have g1:wr.cell? ⟨(ad.add (k*7)).block,(ad.add (k*7)).off+1,none⟩=some (.bool b1):=hcells 1 _ rfl
   have g2:wr.cell? ⟨(ad.add (k*7)).block,(ad.add (k*7)).off+2,none⟩=some (.int .i64 n1):=hcells 2 _ rfl
   have g3:wr.cell? ⟨(ad.add (k*7)).block,(ad.add (k*7)).off+3,none⟩=some (.string s1):=hcells 3 _ rfl
   have g4:wr.cell? ⟨(ad.add (k*7)).block,(ad.add (k*7)).off+4,none⟩=some (.slice e1 p1 q1):=hcells 4 _ rfl
   have g5:wr.cell? ⟨(ad.add (k*7)).block,(ad.add (k*7)).off+5,none⟩=some (.slice f1 r1 t1):=hcells 5 _ rfl
   have g6:wr.cell? ⟨(ad.add (k*7)).block,(ad.add (k*7)).off+6,none⟩=some (.int .i64 (a1:Nat)):=hcells 6 _ rfl
   have hKK:K=4:=HK4.out (by omega)
   subst hKK
   clear hih hcx hy hr1 hcells hk1
   go_wp2_with (go_at_call 152;(have hz:=HI2.out wr HXW.out);(with_reducible refine Calls.mono hz ?_);clear hz;rintro e w3 ⟨⟨d2,hd2,rfl⟩,hx3⟩)
   go_roundw
   case rel=>(repeat apply Exists.intro);refine ⟨?_,rfl⟩;exact ⟨k+1,max dd d2,hlt,by go_num,(by congr 1;omega),by omega,HXR.out.trans hx3⟩
   case measure=>simp[intOf];omega
  focus
   have hke:k=L.length:=by omega
   subst hke
   go_wp2
   go_loopw [3,5] (fun m i wr=>∃k d:Nat,k≤M.length∧i= .int .i64 k∧m= .int .i64 d∧d≤n∧Ext w2 wr) (fun _ i _=>M.length - (intOf i).toNat)
   case atStart=>exact ⟨0,dd,Nat.zero_le _,rfl,rfl,hdd,HXR.out⟩
   case round=>
    obtain ⟨k,de,hk,rfl,rfl,hde,hxw⟩:=hrel
    have HXV:=gd (HX.out.trans hxw)
    have HXS:=gd hxw
    clear cu0 cu1 cu2 cu3 cu4 cu5 cu6
    obtain ⟨cu0,cu1,cu2,cu3,cu4,cu5,cu6⟩:=HA.out _ hxw
    by_cases hlt:k<M.length
    focus
     have hk1:k<ms.length:=by rw[HML.out];exact hlt
     have hr1:=HEM.out k M[k] ms[k] (List.getElem?_eq_getElem hlt) (List.getElem?_eq_getElem hk1)
     obtain ⟨ad,cap,hq,hcells⟩:=RSl.elem (HMR.out.ext HXV.out) (by omega) HL9.out k (mcell ms[k]) (by rw[List.getElem?_map,List.getElem?_eq_getElem hk1];rfl)
     injection hq with hq1 hq2 hq3
     subst hq1
     clear hq2 hq3
     rw[Nat.mul_comm] at hcells
     have hih:=fun w' (hx:Ext w w')=>HIH.out M[k] ms[k].2.1 w' (by omega) (hr1.ext hx)
     obtain ⟨cx,hcx⟩:∃x,ms[k]=x:=⟨_,rfl⟩
     obtain ⟨y,hy⟩:∃x,M[k]=x:=⟨_,rfl⟩
     rw[hcx,hy] at hr1
     rw[hcx] at hcells hih
     obtain ⟨key,c1,xt⟩:=cx
     dsimp only at hr1
     obtain ⟨e1,p1,q1,f1,r1,t1,hc1⟩:=hr1.cells
     generalize kindJ y=K1,bJ y=b1,nJ y=n1,sJ y=s1,atJ y=a1 at hc1
     unfold wcells at hc1
     subst hc1
     have HI2:Hid (∀w':World,Ext w w'→Calls Tryz.prog 152 #[.agg #[.int .i64 (K1:Nat),.bool b1,.int .i64 n1,.string s1,.slice e1 p1 q1,.slice f1 r1 t1,.int .i64 (a1:Nat)]] w' fun e w2=>DepX n e∧Ext w' w2):=gd hih
     have g0:wr.cell? (ad.add (k*9))=some (.string key):=hcells 0 _ rfl
     have g1:wr.cell? ⟨(ad.add (k*9)).block,(ad.add (k*9)).off+1,none⟩=some (.int .i64 (K1:Nat)):=hcells 1 _ rfl
     have g2:wr.cell? ⟨(ad.add (k*9)).block,(ad.add (k*9)).off+2,none⟩=some (.bool b1):=hcells 2 _ rfl
     have g3:wr.cell? ⟨(ad.add (k*9)).block,(ad.add (k*9)).off+3,none⟩=some (.int .i64 n1):=hcells 3 _ rfl
     have g4:wr.cell? ⟨(ad.add (k*9)).block,(ad.add (k*9)).off+4,none⟩=some (.string s1):=hcells 4 _ rfl
     have g5:wr.cell? ⟨(ad.add (k*9)).block,(ad.add (k*9)).off+5,none⟩=some (.slice e1 p1 q1):=hcells 5 _ rfl
     have g6:wr.cell? ⟨(ad.add (k*9)).block,(ad.add (k*9)).off+6,none⟩=some (.slice f1 r1 t1):=hcells 6 _ rfl
     have g7:wr.cell? ⟨(ad.add (k*9)).block,(ad.add (k*9)).off+7,none⟩=some (.int .i64 (a1:Nat)):=hcells 7 _ rfl
     have g8:wr.cell? ⟨(ad.add (k*9)).block,(ad.add (k*9)).off+8,none⟩=some (.int .i64 xt):=hcells 8 _ rfl
     have hKK:K=5:=HK5.out (by omega)
     subst hKK
     clear hih hcx hy hr1 hcells hk1 hxw
     go_wp2_with (go_at_call 152;(have hz:=HI2.out wr HXV.out);(with_reducible refine Calls.mono hz ?_);clear hz;rintro e w3 ⟨⟨d2,hd2,rfl⟩,hx3⟩)
     go_roundw
     case rel=>(repeat apply Exists.intro);refine ⟨?_,rfl⟩;exact ⟨k+1,max de d2,hlt,by go_num,(by congr 1;omega),by omega,HXS.out.trans hx3⟩
     case measure=>simp[intOf];omega
    focus
     have hke:k=M.length:=by omega
     subst hke
     go_wp2
     go_ret
     exact ⟨⟨de+1,by omega,rfl⟩,HXV.out⟩
end
section
set_option linter.unusedSimpArgs false
def gO:JO→Prop
 | .str _ s=>s.size≤16777216∧Lib.validD s.data.toList=true
 | .arr _ l=>∀j∈l,gO j
 | .obj _ ks vs=>ks.length=vs.length∧(ks.map Prod.fst).Nodup∧(∀k∈ks,k.1.size≤16777216∧Lib.validD k.1.data.toList=true)∧∀j∈vs,gO j
 |_=>False
theorem vd_str (Ss:ByteArray) (A B:Option Addr) (c d At:Nat) (w:World) (HVS:Hid (∀w':World,Calls Tryz.prog 181 #[.string Ss] w' fun e w2=>e= .returned (.bool true)∧Ext w' w2)):
 Calls Tryz.prog 151 #[.agg #[.int .i64 3,.bool false,.int .i64 0,.string Ss,.slice A 0 c,.slice B 0 d,.int .i64 (At:Nat)]] w fun e w'=>e= .returned (.bool true)∧Ext w w':=by
 obtain ⟨w2,hw2⟩:∃w2,w.alloc (.cells #[.int .i64 3,.bool false,.int .i64 0,.string Ss,.slice A 0 c,.slice B 0 d,.int .i64 (At:Nat)] 25)=w2:=⟨_,rfl⟩
 have hx2:Ext w w2:=by rw[←hw2];exact (Ext.refl w).alloc _
 have hb1:w2.heap[w.heap.size]? =some (.cells #[.int .i64 3,.bool false,.int .i64 0,.string Ss,.slice A 0 c,.slice B 0 d,.int .i64 (At:Nat)] 25 (0,0)):=by rw[←hw2];exact heap_alloc_new w _
 have HA:Hid (∀W':World,Ext w2 W'→W'.cell? ⟨w.heap.size,0,none⟩=some (.int .i64 3)∧W'.cell? ⟨w.heap.size,1,none⟩=some (.bool false)∧W'.cell? ⟨w.heap.size,2,none⟩=some (.int .i64 0)∧W'.cell? ⟨w.heap.size,3,none⟩=some (.string Ss)∧W'.cell? ⟨w.heap.size,4,none⟩=some (.slice A 0 c)∧W'.cell? ⟨w.heap.size,5,none⟩=some (.slice B 0 d)∧W'.cell? ⟨w.heap.size,6,none⟩=some (.int .i64 (At:Nat))):=gd fun W' h=>⟨h.cell (cell_of_row _ _ 0 _ _ _ hb1),h.cell (cell_of_row _ _ 1 _ _ _ hb1),h.cell (cell_of_row _ _ 2 _ _ _ hb1),h.cell (cell_of_row _ _ 3 _ _ _ hb1),h.cell (cell_of_row _ _ 4 _ _ _ hb1),h.cell (cell_of_row _ _ 5 _ _ _ hb1),h.cell (cell_of_row _ _ 6 _ _ _ hb1)⟩
 have HX:=gd hx2
 obtain ⟨x0,x1,x2,x3,x4,x5,x6⟩:=HA.out _ (Ext.refl w2)
 clear hx2 hb1
 go_enter Tryz.func151,Tryz.ntmps151
 go_wp2_with ((go_at_call 181;(have hz:=HVS.out w2);(with_reducible refine Calls.mono hz ?_);clear hz;rintro e w3 ⟨rfl,hx3⟩;(have HX3:=gd hx3);(obtain ⟨cu0,cu1,cu2,cu3,cu4,cu5,cu6⟩:=HA.out _ hx3);clear hx3 x0 x1 x2 x3 x4 x5 x6))
 refine wp_loop_rounds 1 ?_
 rw[rounds_succ]
 go_wp2
 refine wp_loop_rounds 1 ?_
 rw[rounds_succ]
 go_wp2
 go_ret
 exact ⟨rfl,HX.out.trans HX3.out⟩
theorem vd_arr (n:Nat) (A B:Option Addr) (c d At:Nat) (w:World) (HVS:Hid (∀w':World,Calls Tryz.prog 181 #[.string ⟨#[]⟩] w' fun e w2=>e= .returned (.bool true)∧Ext w' w2))
 (HIH:Hid (∀(j:JO) (cs:List Value) (w:World),RJn n w j cs→gO j→Calls Tryz.prog 151 #[.agg cs.toArray] w fun e w'=>e= .returned (.bool true)∧Ext w w'))
 (L:List JO) (css:List (List Value)) (HCL:Hid (css.length=L.length)) (HROW:Hid (RSl w 7 (.slice A L.length c) L.length css.flatten)) (HEL:Hid (∀(i:Nat) (x:JO) (c:List Value),L[i]? =some x→css[i]? =some c→RJn n w x c)) (HL7:Hid (∀c∈css,c.length=7)) (HGI:Hid (∀x∈L,gO x)):
 Calls Tryz.prog 151 #[.agg #[.int .i64 4,.bool false,.int .i64 0,.string ⟨#[]⟩,.slice A L.length c,.slice B 0 d,.int .i64 (At:Nat)]] w fun e w'=>e= .returned (.bool true)∧Ext w w':=by
 have hcmL:L.length≤maxLen:=by obtain ⟨_,_,_,e,h1,h2,_⟩:=id HROW.out;injection e with _ _ e;omega
 unfold maxLen at hcmL
 obtain ⟨w2,hw2⟩:∃w2,w.alloc (.cells #[.int .i64 4,.bool false,.int .i64 0,.string ⟨#[]⟩,.slice A L.length c,.slice B 0 d,.int .i64 (At:Nat)] 25)=w2:=⟨_,rfl⟩
 have hx2:Ext w w2:=by rw[←hw2];exact (Ext.refl w).alloc _
 have hb1:w2.heap[w.heap.size]? =some (.cells #[.int .i64 4,.bool false,.int .i64 0,.string ⟨#[]⟩,.slice A L.length c,.slice B 0 d,.int .i64 (At:Nat)] 25 (0,0)):=by rw[←hw2];exact heap_alloc_new w _
 have HA:Hid (∀W':World,Ext w2 W'→W'.cell? ⟨w.heap.size,0,none⟩=some (.int .i64 4)∧W'.cell? ⟨w.heap.size,1,none⟩=some (.bool false)∧W'.cell? ⟨w.heap.size,2,none⟩=some (.int .i64 0)∧W'.cell? ⟨w.heap.size,3,none⟩=some (.string ⟨#[]⟩)∧W'.cell? ⟨w.heap.size,4,none⟩=some (.slice A L.length c)∧W'.cell? ⟨w.heap.size,5,none⟩=some (.slice B 0 d)∧W'.cell? ⟨w.heap.size,6,none⟩=some (.int .i64 (At:Nat))):=gd fun W' h=>⟨h.cell (cell_of_row _ _ 0 _ _ _ hb1),h.cell (cell_of_row _ _ 1 _ _ _ hb1),h.cell (cell_of_row _ _ 2 _ _ _ hb1),h.cell (cell_of_row _ _ 3 _ _ _ hb1),h.cell (cell_of_row _ _ 4 _ _ _ hb1),h.cell (cell_of_row _ _ 5 _ _ _ hb1),h.cell (cell_of_row _ _ 6 _ _ _ hb1)⟩
 have HX:=gd hx2
 obtain ⟨x0,x1,x2,x3,x4,x5,x6⟩:=HA.out _ (Ext.refl w2)
 clear hx2 hb1
 go_enter Tryz.func151,Tryz.ntmps151
 go_wp2_with ((go_at_call 181;(have hz:=HVS.out w2);(with_reducible refine Calls.mono hz ?_);clear hz;rintro e w3 ⟨rfl,hx3⟩;(have HX3:=gd hx3);(obtain ⟨cu0,cu1,cu2,cu3,cu4,cu5,cu6⟩:=HA.out _ hx3);clear hx3 x0 x1 x2 x3 x4 x5 x6))
 go_loopw [4] (fun i wr=>∃k:Nat,k≤L.length∧i= .int .i64 k∧Ext w2 wr) (fun i _=>L.length - (intOf i).toNat)
 case atStart=>exact ⟨0,Nat.zero_le _,rfl,HX3.out⟩
 case round=>
  obtain ⟨k,hk,rfl,hxw⟩:=hrel
  clear cu0 cu1 cu2 cu3 cu4 cu5 cu6
  obtain ⟨cu0,cu1,cu2,cu3,cu4,cu5,cu6⟩:=HA.out _ hxw
  have HXW:=gd (HX.out.trans hxw)
  have HXR:=gd hxw
  clear hxw
  by_cases hlt:k<L.length
  focus
   have hk1:k<css.length:=by rw[HCL.out];exact hlt
   have hr1:=HEL.out k L[k] css[k] (List.getElem?_eq_getElem hlt) (List.getElem?_eq_getElem hk1)
   obtain ⟨ad,cap,hq,hcells⟩:=RSl.elem (HROW.out.ext HXW.out) (by omega) HL7.out k css[k] (List.getElem?_eq_getElem hk1)
   injection hq with hq1 hq2 hq3
   subst hq1
   clear hq2 hq3
   rw[Nat.mul_comm] at hcells
   have hih:=fun w' (hx:Ext w w')=>HIH.out L[k] css[k] w' (hr1.ext hx) (HGI.out _ (List.getElem_mem hlt))
   obtain ⟨cx,hcx⟩:∃x,css[k]=x:=⟨_,rfl⟩
   obtain ⟨y,hy⟩:∃x,L[k]=x:=⟨_,rfl⟩
   rw[hcx,hy] at hr1
   rw[hcx] at hcells hih
   obtain ⟨e1,p1,q1,f1,r1,t1,hc1⟩:=hr1.cells
   generalize kindJ y=K1,bJ y=b1,nJ y=n1,sJ y=s1,atJ y=a1 at hc1
   unfold wcells at hc1
   subst hc1
   have HI2:Hid (∀w':World,Ext w w'→Calls Tryz.prog 151 #[.agg #[.int .i64 (K1:Nat),.bool b1,.int .i64 n1,.string s1,.slice e1 p1 q1,.slice f1 r1 t1,.int .i64 (a1:Nat)]] w' fun e w2=>e= .returned (.bool true)∧Ext w' w2):=gd hih
   have g0:wr.cell? (ad.add (k*7))=some (.int .i64 (K1:Nat)):=hcells 0 _ rfl
   have g1:wr.cell? ⟨(ad.add (k*7)).block,(ad.add (k*7)).off+1,none⟩=some (.bool b1):=hcells 1 _ rfl
   have g2:wr.cell? ⟨(ad.add (k*7)).block,(ad.add (k*7)).off+2,none⟩=some (.int .i64 n1):=hcells 2 _ rfl
   have g3:wr.cell? ⟨(ad.add (k*7)).block,(ad.add (k*7)).off+3,none⟩=some (.string s1):=hcells 3 _ rfl
   have g4:wr.cell? ⟨(ad.add (k*7)).block,(ad.add (k*7)).off+4,none⟩=some (.slice e1 p1 q1):=hcells 4 _ rfl
   have g5:wr.cell? ⟨(ad.add (k*7)).block,(ad.add (k*7)).off+5,none⟩=some (.slice f1 r1 t1):=hcells 5 _ rfl
   have g6:wr.cell? ⟨(ad.add (k*7)).block,(ad.add (k*7)).off+6,none⟩=some (.int .i64 (a1:Nat)):=hcells 6 _ rfl
   clear hih hcx hy hr1 hcells hk1
   go_wp2_with (go_at_call 151;(have hz:=HI2.out wr HXW.out);(with_reducible refine Calls.mono hz ?_);clear hz;rintro e w4 ⟨rfl,hx4⟩)
   go_roundw
   case rel=>exact ⟨k+1,hlt,by go_num,HXR.out.trans hx4⟩
   case measure=>simp[intOf];omega
  focus
   have hke:k=L.length:=by omega
   subst hke
   go_wp2
   refine wp_loop_rounds 1 ?_
   rw[rounds_succ]
   go_wp2
   go_ret
   exact ⟨rfl,HXW.out⟩
theorem vd_obj (n:Nat) (A B:Option Addr) (c d At:Nat) (w:World) (HVS:Hid (∀w':World,Calls Tryz.prog 181 #[.string ⟨#[]⟩] w' fun e w2=>e= .returned (.bool true)∧Ext w' w2))
 (HIH:Hid (∀(j:JO) (cs:List Value) (w:World),RJn n w j cs→gO j→Calls Tryz.prog 151 #[.agg cs.toArray] w fun e w'=>e= .returned (.bool true)∧Ext w w'))
 (M:List JO) (ms:List Mm) (HML:Hid (ms.length=M.length)) (HMR:Hid (RSl w 9 (.slice B M.length d) M.length (ms.map mcell).flatten)) (HEM:Hid (∀(i:Nat) (x:JO) (m:Mm),M[i]? =some x→ms[i]? =some m→RJn n w x m.2.1)) (HL9:Hid (∀c∈ms.map mcell,c.length=9)) (HGM:Hid (∀x∈M,gO x))
 (HKY:Hid (∀(i:Nat) (h:i<ms.length),ms[i].1.size≤16777216∧Lib.validD ms[i].1.data.toList=true)) (HDS:Hid (∀(i k:Nat) (hi:i<ms.length) (hk:k<ms.length),i<k→ms[i].1≠ms[k].1)):
 Calls Tryz.prog 151 #[.agg #[.int .i64 5,.bool false,.int .i64 0,.string ⟨#[]⟩,.slice A 0 c,.slice B M.length d,.int .i64 (At:Nat)]] w fun e w'=>e= .returned (.bool true)∧Ext w w':=by
 have hcmM:M.length≤maxLen:=by obtain ⟨_,_,_,e,h1,h2,_⟩:=id HMR.out;injection e with _ _ e;omega
 unfold maxLen at hcmM
 have HVK:=gd (fun (s:ByteArray) (w':World) (h:s.size≤16777216∧Lib.validD s.data.toList=true)=>(by have hz:=ref10Valid_any s w' h.1;rw[h.2] at hz;exact hz:Calls Tryz.prog 181 #[.string s] w' fun e w2=>e= .returned (.bool true)∧Ext w' w2))
 obtain ⟨w2,hw2⟩:∃w2,w.alloc (.cells #[.int .i64 5,.bool false,.int .i64 0,.string ⟨#[]⟩,.slice A 0 c,.slice B M.length d,.int .i64 (At:Nat)] 25)=w2:=⟨_,rfl⟩
 have hx2:Ext w w2:=by rw[←hw2];exact (Ext.refl w).alloc _
 have hb1:w2.heap[w.heap.size]? =some (.cells #[.int .i64 5,.bool false,.int .i64 0,.string ⟨#[]⟩,.slice A 0 c,.slice B M.length d,.int .i64 (At:Nat)] 25 (0,0)):=by rw[←hw2];exact heap_alloc_new w _
 have HA:Hid (∀W':World,Ext w2 W'→W'.cell? ⟨w.heap.size,0,none⟩=some (.int .i64 5)∧W'.cell? ⟨w.heap.size,1,none⟩=some (.bool false)∧W'.cell? ⟨w.heap.size,2,none⟩=some (.int .i64 0)∧W'.cell? ⟨w.heap.size,3,none⟩=some (.string ⟨#[]⟩)∧W'.cell? ⟨w.heap.size,4,none⟩=some (.slice A 0 c)∧W'.cell? ⟨w.heap.size,5,none⟩=some (.slice B M.length d)∧W'.cell? ⟨w.heap.size,6,none⟩=some (.int .i64 (At:Nat))):=gd fun W' h=>⟨h.cell (cell_of_row _ _ 0 _ _ _ hb1),h.cell (cell_of_row _ _ 1 _ _ _ hb1),h.cell (cell_of_row _ _ 2 _ _ _ hb1),h.cell (cell_of_row _ _ 3 _ _ _ hb1),h.cell (cell_of_row _ _ 4 _ _ _ hb1),h.cell (cell_of_row _ _ 5 _ _ _ hb1),h.cell (cell_of_row _ _ 6 _ _ _ hb1)⟩
 have HX:=gd hx2
 obtain ⟨x0,x1,x2,x3,x4,x5,x6⟩:=HA.out _ (Ext.refl w2)
 clear hx2 hb1
 go_enter Tryz.func151,Tryz.ntmps151
 go_wp2_with ((go_at_call 181;(have hz:=HVS.out w2);(with_reducible refine Calls.mono hz ?_);clear hz;rintro e w3 ⟨rfl,hx3⟩;(have HX3:=gd hx3);(obtain ⟨cu0,cu1,cu2,cu3,cu4,cu5,cu6⟩:=HA.out _ hx3);clear hx3 x0 x1 x2 x3 x4 x5 x6))
 refine wp_loop_rounds 1 ?_
 rw[rounds_succ]
 go_wp2
 go_loopw [5] (fun i wr=>∃k:Nat,k≤M.length∧i= .int .i64 k∧Ext w2 wr) (fun i _=>M.length - (intOf i).toNat)
 case atStart=>exact ⟨0,Nat.zero_le _,rfl,HX3.out⟩
 case round=>
  obtain ⟨k,hk,rfl,hxw⟩:=hrel
  have HXV:=gd (HX.out.trans hxw)
  have HXS:=gd hxw
  clear cu0 cu1 cu2 cu3 cu4 cu5 cu6
  obtain ⟨cu0,cu1,cu2,cu3,cu4,cu5,cu6⟩:=HA.out _ hxw
  by_cases hlt:k<M.length
  focus
   have hk1:k<ms.length:=by rw[HML.out];exact hlt
   have hr1:=HEM.out k M[k] ms[k] (List.getElem?_eq_getElem hlt) (List.getElem?_eq_getElem hk1)
   obtain ⟨ad,cap,hq,hcells⟩:=RSl.elem (HMR.out.ext HXV.out) (by omega) HL9.out k (mcell ms[k]) (by rw[List.getElem?_map,List.getElem?_eq_getElem hk1];rfl)
   injection hq with hq1 hq2 hq3
   subst hq1
   clear hq2 hq3
   rw[Nat.mul_comm] at hcells
   have hih:=fun w' (hx:Ext w w')=>HIH.out M[k] ms[k].2.1 w' (hr1.ext hx) (HGM.out _ (List.getElem_mem hlt))
   have hky:=HKY.out k hk1
   have HDK:=gd (fun (i:Nat) (hi:i<ms.length) (hik:i<k)=>HDS.out i k hi hk1 hik)
   obtain ⟨cx,hcx⟩:∃x,ms[k]=x:=⟨_,rfl⟩
   obtain ⟨y,hy⟩:∃x,M[k]=x:=⟨_,rfl⟩
   rw[hcx,hy] at hr1
   rw[hcx] at hcells hih hky HDK
   obtain ⟨key,c1,xt⟩:=cx
   dsimp only at hr1 hky HDK
   obtain ⟨e1,p1,q1,f1,r1,t1,hc1⟩:=hr1.cells
   generalize kindJ y=K1,bJ y=b1,nJ y=n1,sJ y=s1,atJ y=a1 at hc1
   unfold wcells at hc1
   subst hc1
   have HI2:Hid (∀w':World,Ext w w'→Calls Tryz.prog 151 #[.agg #[.int .i64 (K1:Nat),.bool b1,.int .i64 n1,.string s1,.slice e1 p1 q1,.slice f1 r1 t1,.int .i64 (a1:Nat)]] w' fun e w2=>e= .returned (.bool true)∧Ext w' w2):=gd hih
   have HVK2:=gd (fun w'=>HVK.out key w' hky)
   have g0:wr.cell? (ad.add (k*9))=some (.string key):=hcells 0 _ rfl
   have g1:wr.cell? ⟨(ad.add (k*9)).block,(ad.add (k*9)).off+1,none⟩=some (.int .i64 (K1:Nat)):=hcells 1 _ rfl
   have g2:wr.cell? ⟨(ad.add (k*9)).block,(ad.add (k*9)).off+2,none⟩=some (.bool b1):=hcells 2 _ rfl
   have g3:wr.cell? ⟨(ad.add (k*9)).block,(ad.add (k*9)).off+3,none⟩=some (.int .i64 n1):=hcells 3 _ rfl
   have g4:wr.cell? ⟨(ad.add (k*9)).block,(ad.add (k*9)).off+4,none⟩=some (.string s1):=hcells 4 _ rfl
   have g5:wr.cell? ⟨(ad.add (k*9)).block,(ad.add (k*9)).off+5,none⟩=some (.slice e1 p1 q1):=hcells 5 _ rfl
   have g6:wr.cell? ⟨(ad.add (k*9)).block,(ad.add (k*9)).off+6,none⟩=some (.slice f1 r1 t1):=hcells 6 _ rfl
   have g7:wr.cell? ⟨(ad.add (k*9)).block,(ad.add (k*9)).off+7,none⟩=some (.int .i64 (a1:Nat)):=hcells 7 _ rfl
   have g8:wr.cell? ⟨(ad.add (k*9)).block,(ad.add (k*9)).off+8,none⟩=some (.int .i64 xt):=hcells 8 _ rfl
   have HG0:Hid (∀W':World,Ext wr W'→W'.cell? (ad.add (k*9))=some (.string key)):=gd fun W' h=>h.cell g0
   clear hih hcx hy hr1 hcells hk1 hky hxw
   go_wp2_with (first|(go_at_call 181;(have hz:=HVK2.out w4);(with_reducible refine Calls.mono hz ?_);clear hz;rintro e w5 ⟨rfl,hx5⟩;(have HX5:=gd (HX4.out.trans hx5));clear hx5)|(go_at_call 151;(have hz:=HI2.out wr HXV.out);(with_reducible refine Calls.mono hz ?_);clear hz;rintro e w4 ⟨rfl,hx4⟩;(have cu5':=hx4.cell cu5);(have g0':=hx4.cell g0);(have HX4:=gd hx4);clear hx4))
   obtain ⟨wP,hwP⟩:∃wP:World,wP=wr:=⟨_,rfl⟩
   subst hwP
   clear g0 g1 g2 g3 g4 g5 g6 g7 g8 g0' cu5' cu0 cu1 cu2 cu3 cu4 cu5 cu6
   go_loopw [6] (fun i wr=>∃m:Nat,m≤k∧i= .int .i64 m∧Ext wP wr) (fun i _=>k - (intOf i).toNat)
   case atStart=>exact ⟨0,Nat.zero_le _,rfl,HX5.out⟩
   case round=>
    obtain ⟨m,hm,rfl,hxm⟩:=hrel
    have HXM:=gd hxm
    have cm5:=(HA.out wr (HXS.out.trans hxm)).2.2.2.2.2.1
    by_cases hlm:m<k
    focus
     have hm1:m<ms.length:=by rw[HML.out];omega
     obtain ⟨ad2,cap2,hq,hcm⟩:=RSl.elem (HMR.out.ext (HXV.out.trans hxm)) (by omega) HL9.out m (mcell ms[m]) (by rw[List.getElem?_map,List.getElem?_eq_getElem hm1];rfl)
     injection hq with hq1 hq2 hq3
     injection hq1 with hq1
     subst hq1
     clear hq2 hq3
     rw[Nat.mul_comm] at hcm
     have hne:=HDK.out m hm1 hlm
     have hkm:wr.cell? (ad.add (m*9))=some (.string ms[m].1):=hcm 0 _ rfl
     have hkk:=HG0.out wr hxm
     obtain ⟨km,hkm2⟩:∃x,ms[m].1=x:=⟨_,rfl⟩
     rw[hkm2] at hkm hne
     have hbe:(km.toList==key.toList)=false:=beq_ne hne
     have i0:=Aft.cell hkm
     have i1:=Aft.cell hkk
     have i2:=Aft.cell cm5
     have hm0':(0:Int)≤(m:Int):=by omega
     have hk0':(0:Int)≤(k:Int):=by omega
     have hm1':(m:Int)<(M.length:Int):=by omega
     have hk1':(k:Int)<(M.length:Int):=by omega
     clear hkm hkk hcm hm1 hne hkm2 hxm cm5
     go_wp2
     refine rA ?_
     repeat (first|go_big_quiet_step (fail)|quiet_step (fail))
     refine wpQuiet_nil ?_
     rintro _ ⟨d1',rfl⟩
     go_wp2
     go_roundw
     case rel=>exact ⟨m+1,hlm,by go_num,HXM.out.trans d1'.ext⟩
     case measure=>simp[intOf];omega
    focus
     have hme:m=k:=by omega
     subst hme
     go_wp2
     go_roundw
     case rel=>exact ⟨m+1,hlt,by go_num,HXS.out.trans HXM.out⟩
     case measure=>simp[intOf];omega
  focus
   have hke:k=M.length:=by omega
   subst hke
   go_wp2
   go_ret
   exact ⟨rfl,HXV.out⟩
theorem validO_any:∀(n:Nat) (j:JO) (cs:List Value) (w:World),RJn n w j cs→gO j→Calls Tryz.prog 151 #[.agg cs.toArray] w fun e w'=>e= .returned (.bool true)∧Ext w w':=by
 intro n
 induction n with
 |zero=>intro j cs w h;exact h.elim
 |succ n ih=>
 intro j cs w h hg
 obtain ⟨A,c,B,d,css,ms,rfl,hcl,hrow,hel,hl7,hks,hml,hmr,hem,hl9⟩:=rj_open2 h
 have HV0:=gd (fun w'=>(by have hz:=ref10Valid_any ⟨#[]⟩ w' (by decide);rw[show Lib.validD (⟨#[]⟩:ByteArray).data.toList=true from valid_noS] at hz;exact hz:Calls Tryz.prog 181 #[.string ⟨#[]⟩] w' fun e w2=>e= .returned (.bool true)∧Ext w' w2))
 cases j with
 |str a s=>
  rw[gO] at hg
  exact vd_str s A B c d a w (gd fun w'=>by have hz:=ref10Valid_any s w' hg.1;rw[hg.2] at hz;exact hz)
 |arr a l=>
  rw[gO] at hg
  exact vd_arr n A B c d a w HV0 (gd ih) l css (gd hcl) (gd hrow) (gd hel) (gd hl7) (gd hg)
 |obj a ks vs=>
  rw[gO] at hg
  obtain ⟨hkl,hnd,hkv,hgm⟩:=hg
  replace hks:ms.map (fun m=>(m.1,m.2.2))=ks.map (fun k=>(k.1,(k.2:Int))):=hks
  have hkeys:ms.map (fun m=>m.1)=ks.map Prod.fst:=by
   have h1:=congrArg (List.map Prod.fst) hks
   rw[List.map_map,List.map_map] at h1
   exact h1
  refine vd_obj n A B c d a w HV0 (gd ih) vs ms (gd hml) (gd hmr) (gd hem) (gd hl9) (gd hgm) (gd fun i h=> ?_) (gd fun i k hi hk hik e=> ?_)
  ·have h1:ms[i].1∈ks.map Prod.fst:=by rw[←hkeys];exact List.mem_map_of_mem (List.getElem_mem h)
   obtain ⟨q,hq,hq2⟩:=List.mem_map.1 h1
   rw[←hq2]
   exact hkv q hq
  ·have h1:(ms.map fun m=>m.1).Nodup:=by rw[hkeys];exact hnd
   rw[List.nodup_iff_pairwise_ne,List.pairwise_map,List.pairwise_iff_getElem] at h1
   exact h1 i k hi hk hik e
 |_=>simp[gO] at hg
end
end Go.Proofs.YthlnaldahkgjnaaGreatDoor
