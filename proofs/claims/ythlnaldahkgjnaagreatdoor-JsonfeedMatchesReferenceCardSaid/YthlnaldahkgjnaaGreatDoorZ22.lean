/- Parts of the proof: contracts and plain laws. -/
import Derived.Test.YthlnaldahkgjnaaGreatDoorZ21
namespace Go.Proofs.YthlnaldahkgjnaaGreatDoor
open Go Go.RowKit _root_.Go.Proofs.Tryz
set_option linter.unusedVariables false
set_option linter.unusedSimpArgs false
set_option maxRecDepth 100000
set_option maxHeartbeats 16000000
section
set_option linter.unusedSimpArgs false
attribute [local go_sem] calm1
theorem Zcp (K:Int) (Bb:Bool) (Nn:Int) (Ss:ByteArray) (A B:Option Addr) (p c q d At:Nat) (w:World) (vs gM sti shm:ByteArray)
 (gq:Hid (∀W':World,Ext w W'->Calls prog 15 #[.agg #[.int .i64 K,.bool Bb,.int .i64 Nn,.string Ss,.slice A p c,.slice B q d,.int .i64 At]] W' λe w2=>e= .returned (.tuple #[.string vs,.bool true])/\Ext W' w2))
 (gQ:Hid (∀W':World,Ext w W'->Calls prog 37 #[.agg #[.int .i64 K,.bool Bb,.int .i64 Nn,.string Ss,.slice A p c,.slice B q d,.int .i64 At],.slice (some ⟨W'.heap.size,0,none⟩) 4 4,.bool false] (W'.alloc (.cells #[.string ⟨#[102,101,101,100,95,117,114,108]⟩,.string ⟨#[104,111,109,101,95,112,97,103,101,95,117,114,108]⟩,.string ⟨#[116,105,116,108,101]⟩,.string ⟨#[95,117,112,100,97,116,101,100]⟩] 9)) λe w2=>e= .returned (.tuple #[.int .i64 0,.int .i64 0])/\Ext W' w2))
 (g2:Hid (∀W':World,Ext w W'->Calls prog 38 #[.agg #[.int .i64 K,.bool Bb,.int .i64 Nn,.string Ss,.slice A p c,.slice B q d,.int .i64 At],.string ⟨#[102,101,101,100,95,117,114,108]⟩] W' λe w2=>e= .returned (.string gM)/\Ext W' w2))
 (hf:Hid (∀W':World,Ext w W'->Calls prog 38 #[.agg #[.int .i64 K,.bool Bb,.int .i64 Nn,.string Ss,.slice A p c,.slice B q d,.int .i64 At],.string ⟨#[116,105,116,108,101]⟩] W' λe w2=>e= .returned (.string sti)/\Ext W' w2))
 (g3:Hid (∀W':World,Ext w W'->Calls prog 38 #[.agg #[.int .i64 K,.bool Bb,.int .i64 Nn,.string Ss,.slice A p c,.slice B q d,.int .i64 At],.string ⟨#[104,111,109,101,95,112,97,103,101,95,117,114,108]⟩] W' λe w2=>e= .returned (.string shm)/\Ext W' w2))
 (gO:Hid (∀W':World,Calls prog 39 #[.string gM] W' λe w2=>e= .returned (.bool true)/\Ext W' w2))
 (gP:Hid (∀W':World,Calls prog 39 #[.string shm] W' λe w2=>e= .returned (.bool false)/\Ext W' w2)) (tt:Int)
 (gS:Hid (∀W':World,Ext w W'->Calls prog 40 #[.agg #[.int .i64 K,.bool Bb,.int .i64 Nn,.string Ss,.slice A p c,.slice B q d,.int .i64 At],.slice (some ⟨W'.heap.size,0,none⟩) 1 1] (W'.alloc (.cells #[.string ⟨#[95,117,112,100,97,116,101,100]⟩] 9)) λe w2=>e= .returned (.tuple #[.int .i64 tt,.int .i64 0,.int .i64 0])/\Ext W' w2)) (B2:Bool) (N2:Int) (S2:ByteArray) (A2 C2:Option Addr) (c2 q2 d2 At2:Nat) (L:List JO) (css:List (List Value)) (U:Env w)
 (g1:Hid (∀W':World,Ext w W'->Calls prog 41 #[.agg #[.int .i64 K,.bool Bb,.int .i64 Nn,.string Ss,.slice A p c,.slice B q d,.int .i64 At],.string ⟨#[105,116,101,109,115]⟩] W' λe w2=>e= .returned (.tuple #[.agg #[.int .i64 4,.bool B2,.int .i64 N2,.string S2,.slice A2 L.length c2,.slice C2 q2 d2,.int .i64 (At2:Nat)],.bool true])/\Ext W' w2))
 (hZ:RSl w 7 (.slice A2 L.length c2) L.length css.flatten) (gz:css.length=L.length) (ge:∀(i:Nat) (x:JO) (c:List Value),L[i]? =some x->css[i]? =some c->RJ w x c) (fq:L.length<=1000000)
 (gW:Hid (∀(x:JO) (c:List Value) (W':World),x∈L->RJ w x c->Ext w W'->Calls prog 42 #[.agg c.toArray] W' λe w2=>EntX (entryJ x) e/\Ext W' w2))
 (hK:∀E,entsJ L= .ok E->fokS ⟨[],shm,sti,shm,tt,E⟩):
 Calls prog 13 #[.agg #[.int .i64 K,.bool Bb,.int .i64 Nn,.string Ss,.slice A p c,.slice B q d,.int .i64 At]] w λe w'=>DecX w' (feedFrom shm sti shm tt (entsJ L)) e/\Ext w w':=by
 obtain ⟨W1,h9⟩:∃W1,(w.alloc (.cells #[.int .i64 K,.bool Bb,.int .i64 Nn,.string Ss,.slice A p c,.slice B q d,.int .i64 At] 25)).alloc (.cells #[.slice none 0 0,.string ⟨#[]⟩,.string ⟨#[]⟩,.string ⟨#[]⟩,.int .i64 0,.slice none 0 0] 32)=W1:=⟨_,rfl⟩;have gI:Ext w W1:=by rw[<-h9];exact ((Ext.refl w).alloc _).alloc _
 have hb:W1.heap[w.heap.size]? =some (.cells #[.int .i64 K,.bool Bb,.int .i64 Nn,.string Ss,.slice A p c,.slice B q d,.int .i64 At] 25 (0,0)):=by rw[<-h9];exact ((Ext.refl _).alloc _).heap (Zh w _)
 have hM:W1.heap[w.heap.size+1]? =some (.cells #[.slice none 0 0,.string ⟨#[]⟩,.string ⟨#[]⟩,.string ⟨#[]⟩,.int .i64 0,.slice none 0 0] 32 (0,0)):=by rw[<-h9];exact YN w _ _
 have hd:Hid (∀W':World,Ext W1 W'->W'.cell? ⟨w.heap.size,0,none⟩=some (.int .i64 K)/\W'.cell? ⟨w.heap.size,1,none⟩=some (.bool Bb)/\W'.cell? ⟨w.heap.size,2,none⟩=some (.int .i64 Nn)/\W'.cell? ⟨w.heap.size,3,none⟩=some (.string Ss)/\W'.cell? ⟨w.heap.size,4,none⟩=some (.slice A p c)/\W'.cell? ⟨w.heap.size,5,none⟩=some (.slice B q d)/\W'.cell? ⟨w.heap.size,6,none⟩=some (.int .i64 At)):=gd λW' h=>⟨h.cell (Zb _ _ 0 _ _ _ hb),h.cell (Zb _ _ 1 _ _ _ hb),h.cell (Zb _ _ 2 _ _ _ hb),h.cell (Zb _ _ 3 _ _ _ hb),h.cell (Zb _ _ 4 _ _ _ hb),h.cell (Zb _ _ 5 _ _ _ hb),h.cell (Zb _ _ 6 _ _ _ hb)⟩;have R:=gd gI;have hH:=gd hM;obtain ⟨c0,c1,fd,c3,c4,c5,c6⟩:=hd.out _ (Ext.refl W1);clear gI hb hM;have hu:∀c∈css,c.length=7:=by intro c hc;obtain ⟨i,hi,rfl⟩:=List.mem_iff_getElem.1 hc;obtain ⟨n,hn⟩:=ge i L[i] css[i] (Zc (by omega)) (Zc hi);exact hn.len
 have gp:=gd hZ;have g0:=gd hu;have gV:=gd ge;have gR:=gd gz;have gZ:=gd hK;have gX:=gd U;obtain ⟨i0,fh,fl,fm,fn⟩:=Yr XB;clear hZ hu ge gz hK U;go_enter func13,ntmps13
 go_wp2_with (first|(go_at_call 37;(have Q:=gQ.out w2 (R.out.trans hN));(with_reducible refine Za Q ?_);clear Q;rintro e w3 ⟨rfl,gJ⟩;(have C:=hN.trans gJ);(obtain ⟨f0,f1,f2,f3,f4,f5,f6⟩:=hd.out _ C);(clear e0 e1 e2 e3 e4 e5 e6))|(go_at_call 15;(have Q:=gq.out W1 R.out);(with_reducible refine Za Q ?_);clear Q;rintro e w2 ⟨rfl,hN⟩;(obtain ⟨e0,e1,e2,e3,e4,e5,e6⟩:=hd.out _ hN);(clear c0 c1 fd c3 c4 c5 c6)))
 have a0:∀y:Aft w3,y.w.cell? ⟨w.heap.size,0,none⟩=_:=Aft.cell f0;have a1:∀y:Aft w3,y.w.cell? ⟨w.heap.size,1,none⟩=_:=Aft.cell f1;have a2:∀y:Aft w3,y.w.cell? ⟨w.heap.size,2,none⟩=_:=Aft.cell f2;have a3:∀y:Aft w3,y.w.cell? ⟨w.heap.size,3,none⟩=_:=Aft.cell f3;have a4:∀y:Aft w3,y.w.cell? ⟨w.heap.size,4,none⟩=_:=Aft.cell f4;have a5:∀y:Aft w3,y.w.cell? ⟨w.heap.size,5,none⟩=_:=Aft.cell f5;have a6:∀y:Aft w3,y.w.cell? ⟨w.heap.size,6,none⟩=_:=Aft.cell f6;clear f0 f1 f2 f3 f4 f5 f6;refine Yy 7 (.cells #[.slice none 0 0,.string ⟨#[]⟩,.string ⟨#[]⟩,.string ⟨#[]⟩,.int .i64 0,.slice none 0 0] 32) _ (by kernel_rfl) rfl (by kernel_rfl) (λa w K h=>by go_simp;exact h) ?_
 repeat (refine YH (λKc hK=> ?_);go_simp;first|(refine hK _ ?_;clear hK Kc)|(apply Ye;refine ⟨λy=> ?_,hK _ ?_⟩;(go_at_call 38;first|with_reducible exact ZP (g2.out _ ((R.out.trans C).trans y.ext))|with_reducible exact ZP (hf.out _ ((R.out.trans C).trans y.ext))|with_reducible exact ZP (g3.out _ ((R.out.trans C).trans y.ext)));clear hK Kc))
 refine YO ?_;intro g c' hg hW;refine Yk rfl 32 (.tmp 9) (.tmp 42) rfl g _ rfl rfl _ _ hW ZA rfl YQ ?_;intro W4 hL gu ff;have gK:Ext w3 W4:=gu w3 c'.ext hg;have gD:W1.heap.size<=g:=Zl C.size hg;clear hW gu ff hg c' a0 a1 a2 a3 a4 a5 a6;have J:=C.trans gK;obtain ⟨e0,e1,e2,e3,e4,e5,e6⟩:=hd.out _ J;have k1:=Zb _ _ 1 _ _ _ hL;have k3:=Zb _ _ 3 _ _ _ hL;have g8:=gd J;have g4:=gd hL;have hq:=gd gD;clear J gK C gJ hN hL gD
 go_wp2_with (first|(go_at_call 41;(have Q:=g1.out W9 (R.out.trans hI.out));(with_reducible refine Za Q ?_);clear Q;rintro e ho ⟨rfl,hB⟩;(obtain ⟨hs,hS⟩:∃hs,ho.alloc (.cells #[.int .i64 4,.bool B2,.int .i64 N2,.string S2,.slice A2 L.length c2,.slice C2 q2 d2,.int .i64 (At2:Nat)] 25)=hs:=⟨_,rfl⟩);(have hC:Ext W9 hs:=by rw[<-hS];exact hB.alloc _);(have I:hs.heap[ho.heap.size]? =some (.cells #[.int .i64 4,.bool B2,.int .i64 N2,.string S2,.slice A2 L.length c2,.slice C2 q2 d2,.int .i64 (At2:Nat)] 25 (0,0)):=by rw[<-hS];exact Zh ho _);(have hR:=gd (hI.out.trans hC));(have hQ:=gd (hC.heap g7.out));(have fo:Hid (W1.heap.size<=ho.heap.size):=gd (hI.out.trans hB).size);(have z0:=Zb _ _ 0 _ _ _ I);(have z1:=Zb _ _ 1 _ _ _ I);(have z2:=Zb _ _ 2 _ _ _ I);(have z3:=Zb _ _ 3 _ _ _ I);(have z4:=Zb _ _ 4 _ _ _ I);(have z5:=Zb _ _ 5 _ _ _ I);(have z6:=Zb _ _ 6 _ _ _ I);(have hP:=gd I);clear hB hC I e0 e1 e2 e3 e4 e5 e6)|(go_at_call 40;(have Q:=gS.out w7 (R.out.trans h7.out));(with_reducible refine Za Q ?_);clear Q;rintro e w8 ⟨rfl,gh⟩;(have gf:=gh.heap g6.out);(have l4:w8.frozen? ⟨g,4,none⟩=false:=ZH gf 4);(have ft:=Zb _ _ 4 _ _ _ gf);(obtain ⟨W9,gy⟩:∃W9,w8.setCell ⟨g,4,none⟩ (.int .i64 tt)=W9:=⟨_,rfl⟩);(have g7:Hid (W9.heap[g]? =some (.cells #[.slice none 0 0,.string shm,.string sti,.string shm,.int .i64 tt,.slice none 0 0] 32 (0,0))):=gd (by rw[<-gy,ZR _ _ _ _ _ _ gf];rfl));(have hI:Hid (Ext W1 W9):=gd (by rw[<-gy];exact (h7.out.trans gh).setCell (p:=⟨g,4,none⟩) hq.out _));clear gh f0 f1 f2 f3 f4 f5 f6;(obtain ⟨e0,e1,e2,e3,e4,e5,e6⟩:=hd.out _ hI.out))|(go_at_call 39;(have Q:=gP.out W6);(with_reducible refine Za Q ?_);clear Q;rintro e w7 ⟨rfl,gg⟩;(have h7:=gd (g9.out.trans gg));(have g6:=gd (gg.heap gr.out));clear gg;(obtain ⟨f0,f1,f2,f3,f4,f5,f6⟩:=hd.out _ h7.out))|(go_at_call 39;(have Q:=gO.out W4);(with_reducible refine Za Q ?_);clear Q;rintro e w5 ⟨rfl,hF⟩;(have gE:=hF.heap g4.out);(have m3:=hF.cell k3);(have l1:w5.frozen? ⟨g,1,none⟩=false:=ZH gE 1);(have m1:=hF.cell k1);(obtain ⟨W6,gx⟩:∃W6,w5.setCell ⟨g,1,none⟩ (.string shm)=W6:=⟨_,rfl⟩);(have gr:Hid (W6.heap[g]? =some (.cells #[.slice none 0 0,.string shm,.string sti,.string shm,.int .i64 0,.slice none 0 0] 32 (0,0))):=gd (by rw[<-gx,ZR _ _ _ _ _ _ gE];rfl));(have g9:Hid (Ext W1 W6):=gd (by rw[<-gx];exact (g8.out.trans hF).setCell (p:=⟨g,1,none⟩) hq.out _));(have n1:=Zb _ _ 1 _ _ _ gr.out);clear k1 k3 hF e0 e1 e2 e3 e4 e5 e6))
 have go:Hid (RF W1 g ho.heap.size shm sti shm tt #[Value.int .i64 4,.bool B2,.int .i64 N2,.string S2,.slice A2 L.length c2,.slice C2 q2 d2,.int .i64 (At2:Nat)] (.slice none 0 0) [] hs):=gd ⟨hR.out,hQ.out,hP.out,Yc _ _ _ _⟩;clear z0 z1 z2 z3 z5 z6 hQ hP hR;go_loopw [11] (λi wr=>∃(k:Nat) (E:List Ent) (row:Value),k<=L.length/\i= .int .i64 k/\Hid (E.length=k/\entsJ L=entsFrom E (entsJ (L.drop k))/\RF W1 g ho.heap.size shm sti shm tt #[Value.int .i64 4,.bool B2,.int .i64 N2,.string S2,.slice A2 L.length c2,.slice C2 q2 d2,.int .i64 (At2:Nat)] row E wr)) (λi _=>L.length - (intOf i).toNat)
 case atStart=>exact ⟨0,[],_,Zt _,rfl,gd ⟨rfl,by unfold entsFrom;rw[XQ];cases entsJ L<;>rfl,go.out⟩⟩
 case round=>
  obtain ⟨k,E,row,hk,rfl,U⟩:=hrel;obtain ⟨rA,rc,rfl⟩:=Xx U.out.2.2.o;have g5:=Zb _ _ 5 _ _ _ U.out.2.2.f;have y4:=Zb _ _ 4 _ _ _ U.out.2.2.v;have hG:=U.out.2.2.ext;obtain ⟨e0,e1,e2,e3,e4,e5,e6⟩:=hd.out _ hG;by_cases hv:k<L.length
  focus
   have gb:k<css.length:=(by rw[gR.out];exact hv)
   have ht:=gV.out k L[k] css[k] (Zc hv) (Zc gb)
   obtain ⟨ad,cap,hA,j⟩:=RSl.elem (gp.out.ext (R.out.trans hG)) (by omega) g0.out k css[k] (Zc gb)
   injection hA with hA1 hA2 hA3
   subst hA1
   clear hA2 hA3
   rw[Y7] at j
   have S:=U.out.2.1
   rw[Zx hv] at S
   have gw:Hid (E.length<=1000000):=gd (by rw[U.out.1];omega)
   have H:=gW.out L[k] css[k] wr (ZO hv) ht (R.out.trans hG)
   obtain ⟨x,hx⟩:∃x,L[k]=x:=⟨_,rfl⟩
   obtain ⟨cs,gA⟩:∃c,css[k]=c:=⟨_,rfl⟩
   rw[hx] at ht S H
   rw[gA] at ht j H
   obtain ⟨A3,p3,gt,B3,q3,d3,gc⟩:=ht.cells
   generalize kindJ x=K3,bJ x=Bb3,nJ x=Nn3,sJ x=Ss3,atJ x=gj at gc
   unfold wcells at gc
   subst gc
   have u0:wr.cell? (ad.add (k*7))=some (.int .i64 (K3:Nat)):=j 0 _ rfl
   have u1:wr.cell? ⟨(ad.add (k*7)).block,(ad.add (k*7)).off+1,none⟩=some (.bool Bb3):=j 1 _ rfl
   have u2:wr.cell? ⟨(ad.add (k*7)).block,(ad.add (k*7)).off+2,none⟩=some (.int .i64 Nn3):=j 2 _ rfl
   have u3:wr.cell? ⟨(ad.add (k*7)).block,(ad.add (k*7)).off+3,none⟩=some (.string Ss3):=j 3 _ rfl
   have u4:wr.cell? ⟨(ad.add (k*7)).block,(ad.add (k*7)).off+4,none⟩=some (.slice A3 p3 gt):=j 4 _ rfl
   have u5:wr.cell? ⟨(ad.add (k*7)).block,(ad.add (k*7)).off+5,none⟩=some (.slice B3 q3 d3):=j 5 _ rfl
   have u6:wr.cell? ⟨(ad.add (k*7)).block,(ad.add (k*7)).off+6,none⟩=some (.int .i64 (gj:Nat)):=j 6 _ rfl
   have hr:=gd U.out.2.2
   have gU:=gd U.out.1
   clear ht j gA hx hG gb U
   cases hen:entryJ x with
   |error f=>
    rw[hen] at H
    have hf:=gd (S.trans (QQ hen))
    have fg:=VH hen
    obtain ⟨f1,f2⟩:=f
    have fr:((f2:Int) !=0)=true:=(by simp;omega)
    have h6:=gd H
    clear S hen fg H
    go_wp2_with (first|(refine Zg rfl 32 (.tmp 2) (.tmp 101) rfl (w.heap.size+1) #[.slice none 0 0,.string ⟨#[]⟩,.string ⟨#[]⟩,.string ⟨#[]⟩,.int .i64 0,.slice none 0 0] rfl rfl _ _ gF ZA rfl YQ ?_)|(go_at_call 42;(have Q:=h6.out);(refine Za Q ?_);clear Q;rintro e hO ⟨⟨⟨ea,eb,ec,ed,eu⟩,rfl⟩,C⟩;(unfold eCells;dsimp only);(have J:=C.alloc (.cells #[.string ea,.string eb,.string ec,.string ed,.int .i64 eu] 64));(have gF:=(hr.out.ext.trans J).heap hH.out)))
    ((try simp only[Exit.inBlock,Exit.then]);refine Zm (Zw rfl _ _ _ _ _ _ _ rfl (Zk _ _ _ _ _ _ gF) underlying32 rfl ZA) rfl ?_)
    rw[hf.out]
    exact ⟨rfl,(R.out.trans (hr.out.ext.trans J)).setRow (ZM _) _⟩
   |ok en=>
    rw[hen] at H
    have hf:=gd (S.trans (VI hen))
    obtain ⟨ea,eb,ec,ed,eu⟩:=en
    replace H:Calls prog 42 #[.agg #[.int .i64 (K3:Nat),.bool Bb3,.int .i64 Nn3,.string Ss3,.slice A3 p3 gt,.slice B3 q3 d3,.int .i64 (gj:Nat)]] wr λe w2=>e= .returned (.tuple #[.agg #[.string ea,.string eb,.string ec,.string ed,.int .i64 eu],.int .i64 0,.int .i64 0])/\Ext wr w2:=H
    have h6:=gd H
    clear S hen H
    go_wp2_with (first|(at_builtin;refine Zq _ rfl (.tmp 105) (.tmp 107) _ rfl W1.heap.size 64 i0 _ 5 72 underlying30 fh fl fm fn rfl (by decide) _ E.length (flatE E) rfl Y.out.o _ 1 (eCells ⟨ea,eb,ec,ed,eu⟩) rfl gm.out (Z1 _) (by have:=gw.out;unfold maxLen;omega) (by have:=gw.out;omega) Y.out.ext.size ?_;intro fu fv hw hj ga;(obtain ⟨A6,fp,rfl⟩:=Xx hw);(have fz:=ZH (Y.out.grow hj) 5);(have fc:=Zb _ _ 5 _ _ _ (Y.out.grow hj));(have gk:=gd (Y.out.snoc hq.out (e:=⟨ea,eb,ec,ed,eu⟩) hw hj));clear hw hj ga)|(go_at_call 42;(have Q:=h6.out);(with_reducible refine Za Q ?_);clear Q;rintro e hO ⟨rfl,C⟩;(obtain ⟨Z,hT⟩:∃Z,hO.alloc (.cells #[.string ea,.string eb,.string ec,.string ed,.int .i64 eu] 64)=Z:=⟨_,rfl⟩);(have J:Ext wr Z:=by rw[<-hT];exact C.alloc _);(have hV:Z.heap[hO.heap.size]? =some (.cells #[.string ea,.string eb,.string ec,.string ed,.int .i64 eu] 64 (0,0)):=by rw[<-hT];exact Zh hO _);(obtain ⟨v0,v1,v2,v3,v4⟩:=UC hV);(have h5:=J.cell g5);(obtain ⟨hJ,hU⟩:∃hJ,Z.alloc (.cells #[.string ea,.string eb,.string ec,.string ed,.int .i64 eu] 64)=hJ:=⟨_,rfl⟩);(have h0:Ext Z hJ:=by rw[<-hU];exact (Ext.refl Z).alloc _);(have gm:Hid (RSl hJ 5 (.slice (some ⟨Z.heap.size,0,none⟩) 1 1) 1 (eCells ⟨ea,eb,ec,ed,eu⟩)):=gd (by rw[<-hU];exact ZY (cs:=eCells ⟨ea,eb,ec,ed,eu⟩) rfl (by decide)));(have Y:=gd (hr.out.next (J.trans h0)));clear C hV h0 g5 y4 u0 u1 u2 u3 u4 u5 u6 e0 e1 e2 e3 e4 e5 e6))
    go_roundw
    case rel=>exact ⟨k+1,E++ [⟨ea,eb,ec,ed,eu⟩],_,hv,by go_num,gd ⟨by rw[Zj,gU.out];rfl,hf.out,gk.out⟩⟩
    case measure=>simp[intOf];omega
  focus
   have gG:L.drop k= []:=ZB (by omega)
   have S:=U.out.2.1
   rw[gG] at S
   have hy:entsJ L= .ok E:=(by rw[S];simp[entsFrom,entsJ])
   have gB:=gZ.out E hy
   have he:=gd U.out.2.2
   have gn:Hid (∀W':World,Ext wr W'->Calls prog 43 #[.agg #[.slice none 0 0,.string shm,.string sti,.string shm,.int .i64 tt,.slice rA E.length rc]] W' λe w2=>(∃y:Fc,e= .returned (.tuple #[.agg (cellsC y).toArray,.int .i64 (errF ⟨[],shm,sti,shm,tt,E⟩:Nat)])/\y.f=normF ⟨[],shm,sti,shm,tt,E⟩/\RdC w2 y/\∀q,q<W'.heap.size->awayC y (some q))/\Ext W' w2):=gd λW' hx=>(U8 ⟨.slice none 0 0,.slice rA E.length rc,⟨[],shm,sti,shm,tt,E⟩⟩ W' (gX.out.ext ((R.out.trans he.out.ext).trans hx)) gB ⟨RSl.nil W' 1,(RSl.of_own he.out.o).ext hx⟩).mono λe w2 ⟨y,h1,h2,h3,h4,h5⟩=>⟨⟨y,h1,h2,h3,h4⟩,h5⟩
   have hf:=gd hy
   obtain ⟨EF,h8⟩:∃n,errF ⟨[],shm,sti,shm,tt,E⟩=n:=⟨_,rfl⟩
   simp only[h8] at gn
   have gT:=gd h8
   have d0:=Zb _ _ 0 _ _ _ U.out.2.2.f
   have d1:=Zb _ _ 1 _ _ _ U.out.2.2.f
   have fe:=Zb _ _ 2 _ _ _ U.out.2.2.f
   have d3:=Zb _ _ 3 _ _ _ U.out.2.2.f
   have d4:=Zb _ _ 4 _ _ _ U.out.2.2.f
   have gC:w.heap.size+1≠g:=by
    have h1:=hq.out
    have h2:=(Ze.1 hH.out).1
    omega
   have gY:=gd gC
   clear gG S hy gB U h8 hG gC e0 e1 e2 e3 e4 e5 e6
   go_wp2_with (first|(refine Zg rfl 32 (.tmp 2) (.tmp 115) rfl (w.heap.size+1) #[.slice yA F.length yc,.string hp,.string G,.string O,.int .i64 X,.slice yB D.length yd] rfl rfl _ _ hY ZA rfl YQ ?_)|(refine Zg rfl 32 (.tmp 9) (.tmp 113) rfl g #[.slice yA F.length yc,.string hp,.string G,.string O,.int .i64 X,.slice yB D.length yd] rfl rfl _ _ gH ZA rfl YQ ?_;rw[ha])|(go_at_call 43;(have Q:=gn.out wr (Ext.refl wr));(with_reducible refine Za Q ?_);clear Q;rintro e gN ⟨⟨y,rfl,gi,fk,gL⟩,hD⟩;(obtain ⟨yp,fw,⟨F,hp,G,O,X,D⟩⟩:=y);(obtain ⟨hl,hm⟩:=fk);(dsimp only at gi hl hm);(obtain ⟨yA,yc,rfl, -, -⟩:=hl.form);(obtain ⟨yB,yd,rfl, -, -⟩:=hm.form);(have fa:=gd gi);(have fb:=gd (Z9 hl hm));(have gs:=gd gL);(unfold cellsC fCells;dsimp only);(have gH:=hD.heap he.out.f);(obtain ⟨hh,ha⟩:∃hh,gN.setRow g #[Value.slice yA F.length yc,.string hp,.string G,.string O,.int .i64 X,.slice yB D.length yd]=hh:=⟨_,rfl⟩);(have V:hh.heap[g]? =some (.cells #[Value.slice yA F.length yc,.string hp,.string G,.string O,.int .i64 X,.slice yB D.length yd] 32 (0,0)):=by rw[<-ha];exact Zk _ _ _ _ _ _ gH);(have n0:=Zb _ _ 0 _ _ _ V);(have n1:=Zb _ _ 1 _ _ _ V);(have n2:=Zb _ _ 2 _ _ _ V);(have n3:=Zb _ _ 3 _ _ _ V);(have n4:=Zb _ _ 4 _ _ _ V);(have n5:=Zb _ _ 5 _ _ _ V);(have hY:hh.heap[w.heap.size+1]? =some (.cells #[.slice none 0 0,.string ⟨#[]⟩,.string ⟨#[]⟩,.string ⟨#[]⟩,.int .i64 0,.slice none 0 0] 32 (0,0)):=by rw[<-ha];exact (ZD _ _ _ _ gY.out).trans ((he.out.ext.trans hD).heap hH.out));clear gi hl hm gL d0 d1 fe d3 d4 g5 y4))
   ((try simp only[Exit.inBlock,Exit.then]);refine Zm (Zw rfl _ _ _ _ _ _ _ rfl (Zk _ _ _ _ _ _ hY) underlying32 rfl ZA) rfl ?_)
   rw[hf.out]
   have fi:=(Ze.1 he.out.f).1
   have fj:=Z3 (Ze.1 hH.out).1 he.out.ext.size
   have hM:RdC hh ⟨.slice yA F.length yc,.slice yB D.length yd,⟨F,hp,G,O,X,D⟩⟩:=(by rw[<-ha];exact RdC.grown (x:=⟨.slice yA F.length yc,.slice yB D.length yd,⟨F,hp,G,O,X,D⟩⟩) fb.out (Yh gN g _) (gs.out g fi))
   have hX:Ext W1 hh:=(by rw[<-ha];exact (he.out.ext.trans hD).setRow hq.out _)
   exact ⟨⟨_,by rw[gT.out];rfl,fa.out,hM.grown (Yh hh (w.heap.size+1) _) (gs.out _ fj)⟩,(R.out.trans hX).setRow (ZM _) _⟩
end
section
set_option linter.unusedSimpArgs false
attribute [local go_sem] calm1
theorem Zcm (K:Int) (Bb:Bool) (Nn:Int) (Ss:ByteArray) (A B:Option Addr) (p c q d At:Nat) (w:World) (vs O sti shm:ByteArray)
 (gr:Hid (∀W':World,Ext w W'->Calls prog 15 #[.agg #[.int .i64 K,.bool Bb,.int .i64 Nn,.string Ss,.slice A p c,.slice B q d,.int .i64 At]] W' λe w2=>e= .returned (.tuple #[.string vs,.bool true])/\Ext W' w2))
 (gN:Hid (∀W':World,Ext w W'->Calls prog 37 #[.agg #[.int .i64 K,.bool Bb,.int .i64 Nn,.string Ss,.slice A p c,.slice B q d,.int .i64 At],.slice (some ⟨W'.heap.size,0,none⟩) 4 4,.bool false] (W'.alloc (.cells #[.string ⟨#[102,101,101,100,95,117,114,108]⟩,.string ⟨#[104,111,109,101,95,112,97,103,101,95,117,114,108]⟩,.string ⟨#[116,105,116,108,101]⟩,.string ⟨#[95,117,112,100,97,116,101,100]⟩] 9)) λe w2=>e= .returned (.tuple #[.int .i64 0,.int .i64 0])/\Ext W' w2))
 (gZ:Hid (∀W':World,Ext w W'->Calls prog 38 #[.agg #[.int .i64 K,.bool Bb,.int .i64 Nn,.string Ss,.slice A p c,.slice B q d,.int .i64 At],.string ⟨#[102,101,101,100,95,117,114,108]⟩] W' λe w2=>e= .returned (.string O)/\Ext W' w2))
 (hh:Hid (∀W':World,Ext w W'->Calls prog 38 #[.agg #[.int .i64 K,.bool Bb,.int .i64 Nn,.string Ss,.slice A p c,.slice B q d,.int .i64 At],.string ⟨#[116,105,116,108,101]⟩] W' λe w2=>e= .returned (.string sti)/\Ext W' w2))
 (g0:Hid (∀W':World,Ext w W'->Calls prog 38 #[.agg #[.int .i64 K,.bool Bb,.int .i64 Nn,.string Ss,.slice A p c,.slice B q d,.int .i64 At],.string ⟨#[104,111,109,101,95,112,97,103,101,95,117,114,108]⟩] W' λe w2=>e= .returned (.string shm)/\Ext W' w2))
 (gL:Hid (∀W':World,Calls prog 39 #[.string O] W' λe w2=>e= .returned (.bool false)/\Ext W' w2))
 (gM:Hid (∀W':World,Calls prog 39 #[.string O] W' λe w2=>e= .returned (.bool false)/\Ext W' w2)) (tt:Int)
 (gP:Hid (∀W':World,Ext w W'->Calls prog 40 #[.agg #[.int .i64 K,.bool Bb,.int .i64 Nn,.string Ss,.slice A p c,.slice B q d,.int .i64 At],.slice (some ⟨W'.heap.size,0,none⟩) 1 1] (W'.alloc (.cells #[.string ⟨#[95,117,112,100,97,116,101,100]⟩] 9)) λe w2=>e= .returned (.tuple #[.int .i64 tt,.int .i64 0,.int .i64 0])/\Ext W' w2)) (B2:Bool) (N2:Int) (S2:ByteArray) (A2 C2:Option Addr) (c2 q2 d2 At2:Nat) (L:List JO) (css:List (List Value)) (V:Env w)
 (gY:Hid (∀W':World,Ext w W'->Calls prog 41 #[.agg #[.int .i64 K,.bool Bb,.int .i64 Nn,.string Ss,.slice A p c,.slice B q d,.int .i64 At],.string ⟨#[105,116,101,109,115]⟩] W' λe w2=>e= .returned (.tuple #[.agg #[.int .i64 0,.bool B2,.int .i64 N2,.string S2,.slice A2 L.length c2,.slice C2 q2 d2,.int .i64 (At2:Nat)],.bool false])/\Ext W' w2))
 (h0:RSl w 7 (.slice A2 L.length c2) L.length css.flatten) (gy:css.length=L.length) (gf:∀(i:Nat) (x:JO) (c:List Value),L[i]? =some x->css[i]? =some c->RJ w x c) (fo:L.length<=1000000)
 (gT:Hid (∀(x:JO) (c:List Value) (W':World),x∈L->RJ w x c->Ext w W'->Calls prog 42 #[.agg c.toArray] W' λe w2=>EntX (entryJ x) e/\Ext W' w2))
 (hK:∀E,entsJ L= .ok E->fokS ⟨[],O,sti,shm,tt,E⟩):
 Calls prog 13 #[.agg #[.int .i64 K,.bool Bb,.int .i64 Nn,.string Ss,.slice A p c,.slice B q d,.int .i64 At]] w λe w'=>DecX w' (feedFrom O sti shm tt (entsJ L)) e/\Ext w w':=by
 obtain ⟨W1,ga⟩:∃W1,(w.alloc (.cells #[.int .i64 K,.bool Bb,.int .i64 Nn,.string Ss,.slice A p c,.slice B q d,.int .i64 At] 25)).alloc (.cells #[.slice none 0 0,.string ⟨#[]⟩,.string ⟨#[]⟩,.string ⟨#[]⟩,.int .i64 0,.slice none 0 0] 32)=W1:=⟨_,rfl⟩;have gG:Ext w W1:=by rw[<-ga];exact ((Ext.refl w).alloc _).alloc _
 have hd:W1.heap[w.heap.size]? =some (.cells #[.int .i64 K,.bool Bb,.int .i64 Nn,.string Ss,.slice A p c,.slice B q d,.int .i64 At] 25 (0,0)):=by rw[<-ga];exact ((Ext.refl _).alloc _).heap (Zh w _)
 have hM:W1.heap[w.heap.size+1]? =some (.cells #[.slice none 0 0,.string ⟨#[]⟩,.string ⟨#[]⟩,.string ⟨#[]⟩,.int .i64 0,.slice none 0 0] 32 (0,0)):=by rw[<-ga];exact YN w _ _
 have he:Hid (∀W':World,Ext W1 W'->W'.cell? ⟨w.heap.size,0,none⟩=some (.int .i64 K)/\W'.cell? ⟨w.heap.size,1,none⟩=some (.bool Bb)/\W'.cell? ⟨w.heap.size,2,none⟩=some (.int .i64 Nn)/\W'.cell? ⟨w.heap.size,3,none⟩=some (.string Ss)/\W'.cell? ⟨w.heap.size,4,none⟩=some (.slice A p c)/\W'.cell? ⟨w.heap.size,5,none⟩=some (.slice B q d)/\W'.cell? ⟨w.heap.size,6,none⟩=some (.int .i64 At)):=gd λW' h=>⟨h.cell (Zb _ _ 0 _ _ _ hd),h.cell (Zb _ _ 1 _ _ _ hd),h.cell (Zb _ _ 2 _ _ _ hd),h.cell (Zb _ _ 3 _ _ _ hd),h.cell (Zb _ _ 4 _ _ _ hd),h.cell (Zb _ _ 5 _ _ _ hd),h.cell (Zb _ _ 6 _ _ _ hd)⟩;have S:=gd gG;have hH:=gd hM;obtain ⟨c0,c1,fa,c3,c4,c5,c6⟩:=he.out _ (Ext.refl W1);clear gG hd hM;have hu:∀c∈css,c.length=7:=by intro c hc;obtain ⟨i,hi,rfl⟩:=List.mem_iff_getElem.1 hc;obtain ⟨n,hn⟩:=gf i L[i] css[i] (Zc (by omega)) (Zc hi);exact hn.len
 have gq:=gd h0;have gX:=gd hu;have gS:=gd gf;have gO:=gd gy;have gW:=gd hK;have gU:=gd V;obtain ⟨i0,ff,fj,fk,fl⟩:=Yr XB;clear h0 hu gf gy hK V;go_enter func13,ntmps13
 go_wp2_with (first|(go_at_call 37;(have R:=gN.out w2 (S.out.trans hN));(with_reducible refine Za R ?_);clear R;rintro e w3 ⟨rfl,gH⟩;(have C:=hN.trans gH);(obtain ⟨f0,f1,f2,f3,f4,f5,f6⟩:=he.out _ C);(clear e0 e1 e2 e3 e4 e5 e6))|(go_at_call 15;(have R:=gr.out W1 S.out);(with_reducible refine Za R ?_);clear R;rintro e w2 ⟨rfl,hN⟩;(obtain ⟨e0,e1,e2,e3,e4,e5,e6⟩:=he.out _ hN);(clear c0 c1 fa c3 c4 c5 c6)))
 have a0:∀y:Aft w3,y.w.cell? ⟨w.heap.size,0,none⟩=_:=Aft.cell f0;have a1:∀y:Aft w3,y.w.cell? ⟨w.heap.size,1,none⟩=_:=Aft.cell f1;have a2:∀y:Aft w3,y.w.cell? ⟨w.heap.size,2,none⟩=_:=Aft.cell f2;have a3:∀y:Aft w3,y.w.cell? ⟨w.heap.size,3,none⟩=_:=Aft.cell f3;have a4:∀y:Aft w3,y.w.cell? ⟨w.heap.size,4,none⟩=_:=Aft.cell f4;have a5:∀y:Aft w3,y.w.cell? ⟨w.heap.size,5,none⟩=_:=Aft.cell f5;have a6:∀y:Aft w3,y.w.cell? ⟨w.heap.size,6,none⟩=_:=Aft.cell f6;clear f0 f1 f2 f3 f4 f5 f6;refine Yy 7 (.cells #[.slice none 0 0,.string ⟨#[]⟩,.string ⟨#[]⟩,.string ⟨#[]⟩,.int .i64 0,.slice none 0 0] 32) _ (by kernel_rfl) rfl (by kernel_rfl) (λa w K h=>by go_simp;exact h) ?_
 repeat (refine YH (λKc hK=> ?_);go_simp;first|(refine hK _ ?_;clear hK Kc)|(apply Ye;refine ⟨λy=> ?_,hK _ ?_⟩;(go_at_call 38;first|with_reducible exact ZP (gZ.out _ ((S.out.trans C).trans y.ext))|with_reducible exact ZP (hh.out _ ((S.out.trans C).trans y.ext))|with_reducible exact ZP (g0.out _ ((S.out.trans C).trans y.ext)));clear hK Kc))
 refine YO ?_;intro g c' hg hY;refine Yk rfl 32 (.tmp 9) (.tmp 42) rfl g _ rfl rfl _ _ hY ZA rfl YQ ?_;intro W4 hL gu fd;have gI:Ext w3 W4:=gu w3 c'.ext hg;have gC:W1.heap.size<=g:=Zl C.size hg;clear hY gu fd hg c' a0 a1 a2 a3 a4 a5 a6;have J:=C.trans gI;obtain ⟨e0,e1,e2,e3,e4,e5,e6⟩:=he.out _ J;have k1:=Zb _ _ 1 _ _ _ hL;have k3:=Zb _ _ 3 _ _ _ hL;have g6:=gd J;have g1:=gd hL;have hG:=gd gC;clear J gI C gH hN hL gC
 go_wp2_with (first|(go_at_call 41;(have R:=gY.out W9 (S.out.trans hI.out));(with_reducible refine Za R ?_);clear R;rintro e hp ⟨rfl,hB⟩;(obtain ⟨hs,hT⟩:∃hs,hp.alloc (.cells #[.int .i64 0,.bool B2,.int .i64 N2,.string S2,.slice A2 L.length c2,.slice C2 q2 d2,.int .i64 (At2:Nat)] 25)=hs:=⟨_,rfl⟩);(have hC:Ext W9 hs:=by rw[<-hT];exact hB.alloc _);(have I:hs.heap[hp.heap.size]? =some (.cells #[.int .i64 0,.bool B2,.int .i64 N2,.string S2,.slice A2 L.length c2,.slice C2 q2 d2,.int .i64 (At2:Nat)] 25 (0,0)):=by rw[<-hT];exact Zh hp _);(have hS:=gd (hI.out.trans hC));(have hR:=gd (hC.heap g4.out));(have fm:Hid (W1.heap.size<=hp.heap.size):=gd (hI.out.trans hB).size);(have z0:=Zb _ _ 0 _ _ _ I);(have z1:=Zb _ _ 1 _ _ _ I);(have z2:=Zb _ _ 2 _ _ _ I);(have z3:=Zb _ _ 3 _ _ _ I);(have z4:=Zb _ _ 4 _ _ _ I);(have z5:=Zb _ _ 5 _ _ _ I);(have z6:=Zb _ _ 6 _ _ _ I);(have hQ:=gd I);clear hB hC I e0 e1 e2 e3 e4 e5 e6)|(go_at_call 40;(have R:=gP.out w7 (S.out.trans h8.out));(with_reducible refine Za R ?_);clear R;rintro e w8 ⟨rfl,gi⟩;(have gg:=gi.heap g3.out);(have l4:w8.frozen? ⟨g,4,none⟩=false:=ZH gg 4);(have fq:=Zb _ _ 4 _ _ _ gg);(obtain ⟨W9,gx⟩:∃W9,w8.setCell ⟨g,4,none⟩ (.int .i64 tt)=W9:=⟨_,rfl⟩);(have g4:Hid (W9.heap[g]? =some (.cells #[.slice none 0 0,.string O,.string sti,.string shm,.int .i64 tt,.slice none 0 0] 32 (0,0))):=gd (by rw[<-gx,ZR _ _ _ _ _ _ gg];rfl));(have hI:Hid (Ext W1 W9):=gd (by rw[<-gx];exact (h8.out.trans gi).setCell (p:=⟨g,4,none⟩) hG.out _));clear gi f0 f1 f2 f3 f4 f5 f6;(obtain ⟨e0,e1,e2,e3,e4,e5,e6⟩:=he.out _ hI.out))|(go_at_call 39;(have R:=gM.out w5);(with_reducible refine Za R ?_);clear R;rintro e w7 ⟨rfl,gh⟩;(have h8:=gd (g7.out.trans gh));(have g3:=gd (gh.heap g2.out));clear gh m1;(obtain ⟨f0,f1,f2,f3,f4,f5,f6⟩:=he.out _ h8.out))|(go_at_call 39;(have R:=gL.out W4);(with_reducible refine Za R ?_);clear R;rintro e w5 ⟨rfl,hO⟩;(have g7:=gd (g6.out.trans hO));(have g2:=gd (hO.heap g1.out));(have m1:=hO.cell k1);clear k1 k3 hO e0 e1 e2 e3 e4 e5 e6))
 have gp:Hid (RF W1 g hp.heap.size O sti shm tt #[Value.int .i64 0,.bool B2,.int .i64 N2,.string S2,.slice A2 L.length c2,.slice C2 q2 d2,.int .i64 (At2:Nat)] (.slice none 0 0) [] hs):=gd ⟨hS.out,hR.out,hQ.out,Yc _ _ _ _⟩;clear z0 z1 z2 z3 z5 z6 hR hQ hS;go_loopw [11] (λi wr=>∃(k:Nat) (E:List Ent) (row:Value),k<=L.length/\i= .int .i64 k/\Hid (E.length=k/\entsJ L=entsFrom E (entsJ (L.drop k))/\RF W1 g hp.heap.size O sti shm tt #[Value.int .i64 0,.bool B2,.int .i64 N2,.string S2,.slice A2 L.length c2,.slice C2 q2 d2,.int .i64 (At2:Nat)] row E wr)) (λi _=>L.length - (intOf i).toNat)
 case atStart=>exact ⟨0,[],_,Zt _,rfl,gd ⟨rfl,by unfold entsFrom;rw[XQ];cases entsJ L<;>rfl,gp.out⟩⟩
 case round=>
  obtain ⟨k,E,row,hk,rfl,V⟩:=hrel;obtain ⟨rA,rc,rfl⟩:=Xx V.out.2.2.o;have g5:=Zb _ _ 5 _ _ _ V.out.2.2.f;have y4:=Zb _ _ 4 _ _ _ V.out.2.2.v;have hF:=V.out.2.2.ext;obtain ⟨e0,e1,e2,e3,e4,e5,e6⟩:=he.out _ hF;by_cases hv:k<L.length
  focus
   have gc:k<css.length:=(by rw[gO.out];exact hv)
   have ht:=gS.out k L[k] css[k] (Zc hv) (Zc gc)
   obtain ⟨ad,cap,hA,j⟩:=RSl.elem (gq.out.ext (S.out.trans hF)) (by omega) gX.out k css[k] (Zc gc)
   injection hA with hA1 hA2 hA3
   subst hA1
   clear hA2 hA3
   rw[Y7] at j
   have U:=V.out.2.1
   rw[Zx hv] at U
   have gw:Hid (E.length<=1000000):=gd (by rw[V.out.1];omega)
   have H:=gT.out L[k] css[k] wr (ZO hv) ht (S.out.trans hF)
   obtain ⟨x,hx⟩:∃x,L[k]=x:=⟨_,rfl⟩
   obtain ⟨cs,gz⟩:∃c,css[k]=c:=⟨_,rfl⟩
   rw[hx] at ht U H
   rw[gz] at ht j H
   obtain ⟨A3,p3,gt,B3,q3,d3,ge⟩:=ht.cells
   generalize kindJ x=K3,bJ x=Bb3,nJ x=Nn3,sJ x=Ss3,atJ x=gk at ge
   unfold wcells at ge
   subst ge
   have u0:wr.cell? (ad.add (k*7))=some (.int .i64 (K3:Nat)):=j 0 _ rfl
   have u1:wr.cell? ⟨(ad.add (k*7)).block,(ad.add (k*7)).off+1,none⟩=some (.bool Bb3):=j 1 _ rfl
   have u2:wr.cell? ⟨(ad.add (k*7)).block,(ad.add (k*7)).off+2,none⟩=some (.int .i64 Nn3):=j 2 _ rfl
   have u3:wr.cell? ⟨(ad.add (k*7)).block,(ad.add (k*7)).off+3,none⟩=some (.string Ss3):=j 3 _ rfl
   have u4:wr.cell? ⟨(ad.add (k*7)).block,(ad.add (k*7)).off+4,none⟩=some (.slice A3 p3 gt):=j 4 _ rfl
   have u5:wr.cell? ⟨(ad.add (k*7)).block,(ad.add (k*7)).off+5,none⟩=some (.slice B3 q3 d3):=j 5 _ rfl
   have u6:wr.cell? ⟨(ad.add (k*7)).block,(ad.add (k*7)).off+6,none⟩=some (.int .i64 (gk:Nat)):=j 6 _ rfl
   have hr:=gd V.out.2.2
   have gR:=gd V.out.1
   clear ht j gz hx hF gc V
   cases hen:entryJ x with
   |error f=>
    rw[hen] at H
    have hh:=gd (U.trans (QQ hen))
    have fe:=VH hen
    obtain ⟨f1,f2⟩:=f
    have fp:((f2:Int) !=0)=true:=(by simp;omega)
    have h7:=gd H
    clear U hen fe H
    go_wp2_with (first|(refine Zg rfl 32 (.tmp 2) (.tmp 101) rfl (w.heap.size+1) #[.slice none 0 0,.string ⟨#[]⟩,.string ⟨#[]⟩,.string ⟨#[]⟩,.int .i64 0,.slice none 0 0] rfl rfl _ _ gD ZA rfl YQ ?_)|(go_at_call 42;(have R:=h7.out);(refine Za R ?_);clear R;rintro e hP ⟨⟨⟨ea,eb,ec,ed,eu⟩,rfl⟩,C⟩;(unfold eCells;dsimp only);(have J:=C.alloc (.cells #[.string ea,.string eb,.string ec,.string ed,.int .i64 eu] 64));(have gD:=(hr.out.ext.trans J).heap hH.out)))
    ((try simp only[Exit.inBlock,Exit.then]);refine Zm (Zw rfl _ _ _ _ _ _ _ rfl (Zk _ _ _ _ _ _ gD) underlying32 rfl ZA) rfl ?_)
    rw[hh.out]
    exact ⟨rfl,(S.out.trans (hr.out.ext.trans J)).setRow (ZM _) _⟩
   |ok en=>
    rw[hen] at H
    have hh:=gd (U.trans (VI hen))
    obtain ⟨ea,eb,ec,ed,eu⟩:=en
    replace H:Calls prog 42 #[.agg #[.int .i64 (K3:Nat),.bool Bb3,.int .i64 Nn3,.string Ss3,.slice A3 p3 gt,.slice B3 q3 d3,.int .i64 (gk:Nat)]] wr λe w2=>e= .returned (.tuple #[.agg #[.string ea,.string eb,.string ec,.string ed,.int .i64 eu],.int .i64 0,.int .i64 0])/\Ext wr w2:=H
    have h7:=gd H
    clear U hen H
    go_wp2_with (first|(at_builtin;refine Zq _ rfl (.tmp 105) (.tmp 107) _ rfl W1.heap.size 64 i0 _ 5 72 underlying30 ff fj fk fl rfl (by decide) _ E.length (flatE E) rfl Z.out.o _ 1 (eCells ⟨ea,eb,ec,ed,eu⟩) rfl gn.out (Z1 _) (by have:=gw.out;unfold maxLen;omega) (by have:=gw.out;omega) Z.out.ext.size ?_;intro fr ft hw hl gb;(obtain ⟨A6,fn,rfl⟩:=Xx hw);(have fz:=ZH (Z.out.grow hl) 5);(have fc:=Zb _ _ 5 _ _ _ (Z.out.grow hl));(have gm:=gd (Z.out.snoc hG.out (e:=⟨ea,eb,ec,ed,eu⟩) hw hl));clear hw hl gb)|(go_at_call 42;(have R:=h7.out);(with_reducible refine Za R ?_);clear R;rintro e hP ⟨rfl,C⟩;(obtain ⟨ha,hU⟩:∃ha,hP.alloc (.cells #[.string ea,.string eb,.string ec,.string ed,.int .i64 eu] 64)=ha:=⟨_,rfl⟩);(have J:Ext wr ha:=by rw[<-hU];exact C.alloc _);(have hW:ha.heap[hP.heap.size]? =some (.cells #[.string ea,.string eb,.string ec,.string ed,.int .i64 eu] 64 (0,0)):=by rw[<-hU];exact Zh hP _);(obtain ⟨v0,v1,v2,v3,v4⟩:=UC hW);(have h5:=J.cell g5);(obtain ⟨hJ,hV⟩:∃hJ,ha.alloc (.cells #[.string ea,.string eb,.string ec,.string ed,.int .i64 eu] 64)=hJ:=⟨_,rfl⟩);(have h6:Ext ha hJ:=by rw[<-hV];exact (Ext.refl ha).alloc _);(have gn:Hid (RSl hJ 5 (.slice (some ⟨ha.heap.size,0,none⟩) 1 1) 1 (eCells ⟨ea,eb,ec,ed,eu⟩)):=gd (by rw[<-hV];exact ZY (cs:=eCells ⟨ea,eb,ec,ed,eu⟩) rfl (by decide)));(have Z:=gd (hr.out.next (J.trans h6)));clear C hW h6 g5 y4 u0 u1 u2 u3 u4 u5 u6 e0 e1 e2 e3 e4 e5 e6))
    go_roundw
    case rel=>exact ⟨k+1,E++ [⟨ea,eb,ec,ed,eu⟩],_,hv,by go_num,gd ⟨by rw[Zj,gR.out];rfl,hh.out,gm.out⟩⟩
    case measure=>simp[intOf];omega
  focus
   have gE:L.drop k= []:=ZB (by omega)
   have U:=V.out.2.1
   rw[gE] at U
   have hy:entsJ L= .ok E:=(by rw[U];simp[entsFrom,entsJ])
   have gA:=gW.out E hy
   have hf:=gd V.out.2.2
   have go:Hid (∀W':World,Ext wr W'->Calls prog 43 #[.agg #[.slice none 0 0,.string O,.string sti,.string shm,.int .i64 tt,.slice rA E.length rc]] W' λe w2=>(∃y:Fc,e= .returned (.tuple #[.agg (cellsC y).toArray,.int .i64 (errF ⟨[],O,sti,shm,tt,E⟩:Nat)])/\y.f=normF ⟨[],O,sti,shm,tt,E⟩/\RdC w2 y/\∀q,q<W'.heap.size->awayC y (some q))/\Ext W' w2):=gd λW' hx=>(U8 ⟨.slice none 0 0,.slice rA E.length rc,⟨[],O,sti,shm,tt,E⟩⟩ W' (gU.out.ext ((S.out.trans hf.out.ext).trans hx)) gA ⟨RSl.nil W' 1,(RSl.of_own hf.out.o).ext hx⟩).mono λe w2 ⟨y,h1,h2,h3,h4,h5⟩=>⟨⟨y,h1,h2,h3,h4⟩,h5⟩
   have hh:=gd hy
   obtain ⟨EF,h9⟩:∃n,errF ⟨[],O,sti,shm,tt,E⟩=n:=⟨_,rfl⟩
   simp only[h9] at go
   have gQ:=gd h9
   have d0:=Zb _ _ 0 _ _ _ V.out.2.2.f
   have d1:=Zb _ _ 1 _ _ _ V.out.2.2.f
   have fb:=Zb _ _ 2 _ _ _ V.out.2.2.f
   have d3:=Zb _ _ 3 _ _ _ V.out.2.2.f
   have d4:=Zb _ _ 4 _ _ _ V.out.2.2.f
   have gB:w.heap.size+1≠g:=by
    have h1:=hG.out
    have h2:=(Ze.1 hH.out).1
    omega
   have gV:=gd gB
   clear gE U hy gA V h9 hF gB e0 e1 e2 e3 e4 e5 e6
   go_wp2_with (first|(refine Zg rfl 32 (.tmp 2) (.tmp 115) rfl (w.heap.size+1) #[.slice yA F.length yc,.string hq,.string G,.string Q,.int .i64 Y,.slice yB D.length yd] rfl rfl _ _ hZ ZA rfl YQ ?_)|(refine Zg rfl 32 (.tmp 9) (.tmp 113) rfl g #[.slice yA F.length yc,.string hq,.string G,.string Q,.int .i64 Y,.slice yB D.length yd] rfl rfl _ _ gF ZA rfl YQ ?_;rw[hb])|(go_at_call 43;(have R:=go.out wr (Ext.refl wr));(with_reducible refine Za R ?_);clear R;rintro e gK ⟨⟨y,rfl,gj,fi,gJ⟩,hD⟩;(obtain ⟨yp,fu,⟨F,hq,G,Q,Y,D⟩⟩:=y);(obtain ⟨hm,ho⟩:=fi);(dsimp only at gj hm ho);(obtain ⟨yA,yc,rfl, -, -⟩:=hm.form);(obtain ⟨yB,yd,rfl, -, -⟩:=ho.form);(have g8:=gd gj);(have g9:=gd (Z9 hm ho));(have gs:=gd gJ);(unfold cellsC fCells;dsimp only);(have gF:=hD.heap hf.out.f);(obtain ⟨hj,hb⟩:∃hj,gK.setRow g #[Value.slice yA F.length yc,.string hq,.string G,.string Q,.int .i64 Y,.slice yB D.length yd]=hj:=⟨_,rfl⟩);(have X:hj.heap[g]? =some (.cells #[Value.slice yA F.length yc,.string hq,.string G,.string Q,.int .i64 Y,.slice yB D.length yd] 32 (0,0)):=by rw[<-hb];exact Zk _ _ _ _ _ _ gF);(have n0:=Zb _ _ 0 _ _ _ X);(have n1:=Zb _ _ 1 _ _ _ X);(have n2:=Zb _ _ 2 _ _ _ X);(have n3:=Zb _ _ 3 _ _ _ X);(have n4:=Zb _ _ 4 _ _ _ X);(have n5:=Zb _ _ 5 _ _ _ X);(have hZ:hj.heap[w.heap.size+1]? =some (.cells #[.slice none 0 0,.string ⟨#[]⟩,.string ⟨#[]⟩,.string ⟨#[]⟩,.int .i64 0,.slice none 0 0] 32 (0,0)):=by rw[<-hb];exact (ZD _ _ _ _ gV.out).trans ((hf.out.ext.trans hD).heap hH.out));clear gj hm ho gJ d0 d1 fb d3 d4 g5 y4))
   ((try simp only[Exit.inBlock,Exit.then]);refine Zm (Zw rfl _ _ _ _ _ _ _ rfl (Zk _ _ _ _ _ _ hZ) underlying32 rfl ZA) rfl ?_)
   rw[hh.out]
   have fg:=(Ze.1 hf.out.f).1
   have fh:=Z3 (Ze.1 hH.out).1 hf.out.ext.size
   have hM:RdC hj ⟨.slice yA F.length yc,.slice yB D.length yd,⟨F,hq,G,Q,Y,D⟩⟩:=(by rw[<-hb];exact RdC.grown (x:=⟨.slice yA F.length yc,.slice yB D.length yd,⟨F,hq,G,Q,Y,D⟩⟩) g9.out (Yh gK g _) (gs.out g fg))
   have hX:Ext W1 hj:=(by rw[<-hb];exact (hf.out.ext.trans hD).setRow hG.out _)
   exact ⟨⟨_,by rw[gQ.out];rfl,g8.out,hM.grown (Yh hj (w.heap.size+1) _) (gs.out _ fh)⟩,(S.out.trans hX).setRow (ZM _) _⟩
end
section
set_option linter.unusedSimpArgs false
attribute [local go_sem] calm1
theorem Zcn (K:Int) (Bb:Bool) (Nn:Int) (Ss:ByteArray) (A B:Option Addr) (p c q d At:Nat) (w:World) (vs O sti shm:ByteArray)
 (gr:Hid (∀W':World,Ext w W'->Calls prog 15 #[.agg #[.int .i64 K,.bool Bb,.int .i64 Nn,.string Ss,.slice A p c,.slice B q d,.int .i64 At]] W' λe w2=>e= .returned (.tuple #[.string vs,.bool true])/\Ext W' w2))
 (gN:Hid (∀W':World,Ext w W'->Calls prog 37 #[.agg #[.int .i64 K,.bool Bb,.int .i64 Nn,.string Ss,.slice A p c,.slice B q d,.int .i64 At],.slice (some ⟨W'.heap.size,0,none⟩) 4 4,.bool false] (W'.alloc (.cells #[.string ⟨#[102,101,101,100,95,117,114,108]⟩,.string ⟨#[104,111,109,101,95,112,97,103,101,95,117,114,108]⟩,.string ⟨#[116,105,116,108,101]⟩,.string ⟨#[95,117,112,100,97,116,101,100]⟩] 9)) λe w2=>e= .returned (.tuple #[.int .i64 0,.int .i64 0])/\Ext W' w2))
 (gZ:Hid (∀W':World,Ext w W'->Calls prog 38 #[.agg #[.int .i64 K,.bool Bb,.int .i64 Nn,.string Ss,.slice A p c,.slice B q d,.int .i64 At],.string ⟨#[102,101,101,100,95,117,114,108]⟩] W' λe w2=>e= .returned (.string O)/\Ext W' w2))
 (hh:Hid (∀W':World,Ext w W'->Calls prog 38 #[.agg #[.int .i64 K,.bool Bb,.int .i64 Nn,.string Ss,.slice A p c,.slice B q d,.int .i64 At],.string ⟨#[116,105,116,108,101]⟩] W' λe w2=>e= .returned (.string sti)/\Ext W' w2))
 (g0:Hid (∀W':World,Ext w W'->Calls prog 38 #[.agg #[.int .i64 K,.bool Bb,.int .i64 Nn,.string Ss,.slice A p c,.slice B q d,.int .i64 At],.string ⟨#[104,111,109,101,95,112,97,103,101,95,117,114,108]⟩] W' λe w2=>e= .returned (.string shm)/\Ext W' w2))
 (gL:Hid (∀W':World,Calls prog 39 #[.string O] W' λe w2=>e= .returned (.bool false)/\Ext W' w2))
 (gM:Hid (∀W':World,Calls prog 39 #[.string O] W' λe w2=>e= .returned (.bool false)/\Ext W' w2)) (tt:Int)
 (gP:Hid (∀W':World,Ext w W'->Calls prog 40 #[.agg #[.int .i64 K,.bool Bb,.int .i64 Nn,.string Ss,.slice A p c,.slice B q d,.int .i64 At],.slice (some ⟨W'.heap.size,0,none⟩) 1 1] (W'.alloc (.cells #[.string ⟨#[95,117,112,100,97,116,101,100]⟩] 9)) λe w2=>e= .returned (.tuple #[.int .i64 tt,.int .i64 0,.int .i64 0])/\Ext W' w2)) (B2:Bool) (N2:Int) (S2:ByteArray) (A2 C2:Option Addr) (c2 q2 d2 At2:Nat) (L:List JO) (css:List (List Value)) (V:Env w)
 (gY:Hid (∀W':World,Ext w W'->Calls prog 41 #[.agg #[.int .i64 K,.bool Bb,.int .i64 Nn,.string Ss,.slice A p c,.slice B q d,.int .i64 At],.string ⟨#[105,116,101,109,115]⟩] W' λe w2=>e= .returned (.tuple #[.agg #[.int .i64 4,.bool B2,.int .i64 N2,.string S2,.slice A2 L.length c2,.slice C2 q2 d2,.int .i64 (At2:Nat)],.bool true])/\Ext W' w2))
 (h0:RSl w 7 (.slice A2 L.length c2) L.length css.flatten) (gy:css.length=L.length) (gf:∀(i:Nat) (x:JO) (c:List Value),L[i]? =some x->css[i]? =some c->RJ w x c) (fo:L.length<=1000000)
 (gT:Hid (∀(x:JO) (c:List Value) (W':World),x∈L->RJ w x c->Ext w W'->Calls prog 42 #[.agg c.toArray] W' λe w2=>EntX (entryJ x) e/\Ext W' w2))
 (hK:∀E,entsJ L= .ok E->fokS ⟨[],O,sti,shm,tt,E⟩):
 Calls prog 13 #[.agg #[.int .i64 K,.bool Bb,.int .i64 Nn,.string Ss,.slice A p c,.slice B q d,.int .i64 At]] w λe w'=>DecX w' (feedFrom O sti shm tt (entsJ L)) e/\Ext w w':=by
 obtain ⟨W1,ga⟩:∃W1,(w.alloc (.cells #[.int .i64 K,.bool Bb,.int .i64 Nn,.string Ss,.slice A p c,.slice B q d,.int .i64 At] 25)).alloc (.cells #[.slice none 0 0,.string ⟨#[]⟩,.string ⟨#[]⟩,.string ⟨#[]⟩,.int .i64 0,.slice none 0 0] 32)=W1:=⟨_,rfl⟩;have gG:Ext w W1:=by rw[<-ga];exact ((Ext.refl w).alloc _).alloc _
 have hd:W1.heap[w.heap.size]? =some (.cells #[.int .i64 K,.bool Bb,.int .i64 Nn,.string Ss,.slice A p c,.slice B q d,.int .i64 At] 25 (0,0)):=by rw[<-ga];exact ((Ext.refl _).alloc _).heap (Zh w _)
 have hM:W1.heap[w.heap.size+1]? =some (.cells #[.slice none 0 0,.string ⟨#[]⟩,.string ⟨#[]⟩,.string ⟨#[]⟩,.int .i64 0,.slice none 0 0] 32 (0,0)):=by rw[<-ga];exact YN w _ _
 have he:Hid (∀W':World,Ext W1 W'->W'.cell? ⟨w.heap.size,0,none⟩=some (.int .i64 K)/\W'.cell? ⟨w.heap.size,1,none⟩=some (.bool Bb)/\W'.cell? ⟨w.heap.size,2,none⟩=some (.int .i64 Nn)/\W'.cell? ⟨w.heap.size,3,none⟩=some (.string Ss)/\W'.cell? ⟨w.heap.size,4,none⟩=some (.slice A p c)/\W'.cell? ⟨w.heap.size,5,none⟩=some (.slice B q d)/\W'.cell? ⟨w.heap.size,6,none⟩=some (.int .i64 At)):=gd λW' h=>⟨h.cell (Zb _ _ 0 _ _ _ hd),h.cell (Zb _ _ 1 _ _ _ hd),h.cell (Zb _ _ 2 _ _ _ hd),h.cell (Zb _ _ 3 _ _ _ hd),h.cell (Zb _ _ 4 _ _ _ hd),h.cell (Zb _ _ 5 _ _ _ hd),h.cell (Zb _ _ 6 _ _ _ hd)⟩;have S:=gd gG;have hH:=gd hM;obtain ⟨c0,c1,fa,c3,c4,c5,c6⟩:=he.out _ (Ext.refl W1);clear gG hd hM;have hu:∀c∈css,c.length=7:=by intro c hc;obtain ⟨i,hi,rfl⟩:=List.mem_iff_getElem.1 hc;obtain ⟨n,hn⟩:=gf i L[i] css[i] (Zc (by omega)) (Zc hi);exact hn.len
 have gq:=gd h0;have gX:=gd hu;have gS:=gd gf;have gO:=gd gy;have gW:=gd hK;have gU:=gd V;obtain ⟨i0,ff,fj,fk,fl⟩:=Yr XB;clear h0 hu gf gy hK V;go_enter func13,ntmps13
 go_wp2_with (first|(go_at_call 37;(have R:=gN.out w2 (S.out.trans hN));(with_reducible refine Za R ?_);clear R;rintro e w3 ⟨rfl,gH⟩;(have C:=hN.trans gH);(obtain ⟨f0,f1,f2,f3,f4,f5,f6⟩:=he.out _ C);(clear e0 e1 e2 e3 e4 e5 e6))|(go_at_call 15;(have R:=gr.out W1 S.out);(with_reducible refine Za R ?_);clear R;rintro e w2 ⟨rfl,hN⟩;(obtain ⟨e0,e1,e2,e3,e4,e5,e6⟩:=he.out _ hN);(clear c0 c1 fa c3 c4 c5 c6)))
 have a0:∀y:Aft w3,y.w.cell? ⟨w.heap.size,0,none⟩=_:=Aft.cell f0;have a1:∀y:Aft w3,y.w.cell? ⟨w.heap.size,1,none⟩=_:=Aft.cell f1;have a2:∀y:Aft w3,y.w.cell? ⟨w.heap.size,2,none⟩=_:=Aft.cell f2;have a3:∀y:Aft w3,y.w.cell? ⟨w.heap.size,3,none⟩=_:=Aft.cell f3;have a4:∀y:Aft w3,y.w.cell? ⟨w.heap.size,4,none⟩=_:=Aft.cell f4;have a5:∀y:Aft w3,y.w.cell? ⟨w.heap.size,5,none⟩=_:=Aft.cell f5;have a6:∀y:Aft w3,y.w.cell? ⟨w.heap.size,6,none⟩=_:=Aft.cell f6;clear f0 f1 f2 f3 f4 f5 f6;refine Yy 7 (.cells #[.slice none 0 0,.string ⟨#[]⟩,.string ⟨#[]⟩,.string ⟨#[]⟩,.int .i64 0,.slice none 0 0] 32) _ (by kernel_rfl) rfl (by kernel_rfl) (λa w K h=>by go_simp;exact h) ?_
 repeat (refine YH (λKc hK=> ?_);go_simp;first|(refine hK _ ?_;clear hK Kc)|(apply Ye;refine ⟨λy=> ?_,hK _ ?_⟩;(go_at_call 38;first|with_reducible exact ZP (gZ.out _ ((S.out.trans C).trans y.ext))|with_reducible exact ZP (hh.out _ ((S.out.trans C).trans y.ext))|with_reducible exact ZP (g0.out _ ((S.out.trans C).trans y.ext)));clear hK Kc))
 refine YO ?_;intro g c' hg hY;refine Yk rfl 32 (.tmp 9) (.tmp 42) rfl g _ rfl rfl _ _ hY ZA rfl YQ ?_;intro W4 hL gu fd;have gI:Ext w3 W4:=gu w3 c'.ext hg;have gC:W1.heap.size<=g:=Zl C.size hg;clear hY gu fd hg c' a0 a1 a2 a3 a4 a5 a6;have J:=C.trans gI;obtain ⟨e0,e1,e2,e3,e4,e5,e6⟩:=he.out _ J;have k1:=Zb _ _ 1 _ _ _ hL;have k3:=Zb _ _ 3 _ _ _ hL;have g6:=gd J;have g1:=gd hL;have hG:=gd gC;clear J gI C gH hN hL gC
 go_wp2_with (first|(go_at_call 41;(have R:=gY.out W9 (S.out.trans hI.out));(with_reducible refine Za R ?_);clear R;rintro e hp ⟨rfl,hB⟩;(obtain ⟨hs,hT⟩:∃hs,hp.alloc (.cells #[.int .i64 4,.bool B2,.int .i64 N2,.string S2,.slice A2 L.length c2,.slice C2 q2 d2,.int .i64 (At2:Nat)] 25)=hs:=⟨_,rfl⟩);(have hC:Ext W9 hs:=by rw[<-hT];exact hB.alloc _);(have I:hs.heap[hp.heap.size]? =some (.cells #[.int .i64 4,.bool B2,.int .i64 N2,.string S2,.slice A2 L.length c2,.slice C2 q2 d2,.int .i64 (At2:Nat)] 25 (0,0)):=by rw[<-hT];exact Zh hp _);(have hS:=gd (hI.out.trans hC));(have hR:=gd (hC.heap g4.out));(have fm:Hid (W1.heap.size<=hp.heap.size):=gd (hI.out.trans hB).size);(have z0:=Zb _ _ 0 _ _ _ I);(have z1:=Zb _ _ 1 _ _ _ I);(have z2:=Zb _ _ 2 _ _ _ I);(have z3:=Zb _ _ 3 _ _ _ I);(have z4:=Zb _ _ 4 _ _ _ I);(have z5:=Zb _ _ 5 _ _ _ I);(have z6:=Zb _ _ 6 _ _ _ I);(have hQ:=gd I);clear hB hC I e0 e1 e2 e3 e4 e5 e6)|(go_at_call 40;(have R:=gP.out w7 (S.out.trans h8.out));(with_reducible refine Za R ?_);clear R;rintro e w8 ⟨rfl,gi⟩;(have gg:=gi.heap g3.out);(have l4:w8.frozen? ⟨g,4,none⟩=false:=ZH gg 4);(have fq:=Zb _ _ 4 _ _ _ gg);(obtain ⟨W9,gx⟩:∃W9,w8.setCell ⟨g,4,none⟩ (.int .i64 tt)=W9:=⟨_,rfl⟩);(have g4:Hid (W9.heap[g]? =some (.cells #[.slice none 0 0,.string O,.string sti,.string shm,.int .i64 tt,.slice none 0 0] 32 (0,0))):=gd (by rw[<-gx,ZR _ _ _ _ _ _ gg];rfl));(have hI:Hid (Ext W1 W9):=gd (by rw[<-gx];exact (h8.out.trans gi).setCell (p:=⟨g,4,none⟩) hG.out _));clear gi f0 f1 f2 f3 f4 f5 f6;(obtain ⟨e0,e1,e2,e3,e4,e5,e6⟩:=he.out _ hI.out))|(go_at_call 39;(have R:=gM.out w5);(with_reducible refine Za R ?_);clear R;rintro e w7 ⟨rfl,gh⟩;(have h8:=gd (g7.out.trans gh));(have g3:=gd (gh.heap g2.out));clear gh m1;(obtain ⟨f0,f1,f2,f3,f4,f5,f6⟩:=he.out _ h8.out))|(go_at_call 39;(have R:=gL.out W4);(with_reducible refine Za R ?_);clear R;rintro e w5 ⟨rfl,hO⟩;(have g7:=gd (g6.out.trans hO));(have g2:=gd (hO.heap g1.out));(have m1:=hO.cell k1);clear k1 k3 hO e0 e1 e2 e3 e4 e5 e6))
 have gp:Hid (RF W1 g hp.heap.size O sti shm tt #[Value.int .i64 4,.bool B2,.int .i64 N2,.string S2,.slice A2 L.length c2,.slice C2 q2 d2,.int .i64 (At2:Nat)] (.slice none 0 0) [] hs):=gd ⟨hS.out,hR.out,hQ.out,Yc _ _ _ _⟩;clear z0 z1 z2 z3 z5 z6 hR hQ hS;go_loopw [11] (λi wr=>∃(k:Nat) (E:List Ent) (row:Value),k<=L.length/\i= .int .i64 k/\Hid (E.length=k/\entsJ L=entsFrom E (entsJ (L.drop k))/\RF W1 g hp.heap.size O sti shm tt #[Value.int .i64 4,.bool B2,.int .i64 N2,.string S2,.slice A2 L.length c2,.slice C2 q2 d2,.int .i64 (At2:Nat)] row E wr)) (λi _=>L.length - (intOf i).toNat)
 case atStart=>exact ⟨0,[],_,Zt _,rfl,gd ⟨rfl,by unfold entsFrom;rw[XQ];cases entsJ L<;>rfl,gp.out⟩⟩
 case round=>
  obtain ⟨k,E,row,hk,rfl,V⟩:=hrel;obtain ⟨rA,rc,rfl⟩:=Xx V.out.2.2.o;have g5:=Zb _ _ 5 _ _ _ V.out.2.2.f;have y4:=Zb _ _ 4 _ _ _ V.out.2.2.v;have hF:=V.out.2.2.ext;obtain ⟨e0,e1,e2,e3,e4,e5,e6⟩:=he.out _ hF;by_cases hv:k<L.length
  focus
   have gc:k<css.length:=(by rw[gO.out];exact hv)
   have ht:=gS.out k L[k] css[k] (Zc hv) (Zc gc)
   obtain ⟨ad,cap,hA,j⟩:=RSl.elem (gq.out.ext (S.out.trans hF)) (by omega) gX.out k css[k] (Zc gc)
   injection hA with hA1 hA2 hA3
   subst hA1
   clear hA2 hA3
   rw[Y7] at j
   have U:=V.out.2.1
   rw[Zx hv] at U
   have gw:Hid (E.length<=1000000):=gd (by rw[V.out.1];omega)
   have H:=gT.out L[k] css[k] wr (ZO hv) ht (S.out.trans hF)
   obtain ⟨x,hx⟩:∃x,L[k]=x:=⟨_,rfl⟩
   obtain ⟨cs,gz⟩:∃c,css[k]=c:=⟨_,rfl⟩
   rw[hx] at ht U H
   rw[gz] at ht j H
   obtain ⟨A3,p3,gt,B3,q3,d3,ge⟩:=ht.cells
   generalize kindJ x=K3,bJ x=Bb3,nJ x=Nn3,sJ x=Ss3,atJ x=gk at ge
   unfold wcells at ge
   subst ge
   have u0:wr.cell? (ad.add (k*7))=some (.int .i64 (K3:Nat)):=j 0 _ rfl
   have u1:wr.cell? ⟨(ad.add (k*7)).block,(ad.add (k*7)).off+1,none⟩=some (.bool Bb3):=j 1 _ rfl
   have u2:wr.cell? ⟨(ad.add (k*7)).block,(ad.add (k*7)).off+2,none⟩=some (.int .i64 Nn3):=j 2 _ rfl
   have u3:wr.cell? ⟨(ad.add (k*7)).block,(ad.add (k*7)).off+3,none⟩=some (.string Ss3):=j 3 _ rfl
   have u4:wr.cell? ⟨(ad.add (k*7)).block,(ad.add (k*7)).off+4,none⟩=some (.slice A3 p3 gt):=j 4 _ rfl
   have u5:wr.cell? ⟨(ad.add (k*7)).block,(ad.add (k*7)).off+5,none⟩=some (.slice B3 q3 d3):=j 5 _ rfl
   have u6:wr.cell? ⟨(ad.add (k*7)).block,(ad.add (k*7)).off+6,none⟩=some (.int .i64 (gk:Nat)):=j 6 _ rfl
   have hr:=gd V.out.2.2
   have gR:=gd V.out.1
   clear ht j gz hx hF gc V
   cases hen:entryJ x with
   |error f=>
    rw[hen] at H
    have hh:=gd (U.trans (QQ hen))
    have fe:=VH hen
    obtain ⟨f1,f2⟩:=f
    have fp:((f2:Int) !=0)=true:=(by simp;omega)
    have h7:=gd H
    clear U hen fe H
    go_wp2_with (first|(refine Zg rfl 32 (.tmp 2) (.tmp 101) rfl (w.heap.size+1) #[.slice none 0 0,.string ⟨#[]⟩,.string ⟨#[]⟩,.string ⟨#[]⟩,.int .i64 0,.slice none 0 0] rfl rfl _ _ gD ZA rfl YQ ?_)|(go_at_call 42;(have R:=h7.out);(refine Za R ?_);clear R;rintro e hP ⟨⟨⟨ea,eb,ec,ed,eu⟩,rfl⟩,C⟩;(unfold eCells;dsimp only);(have J:=C.alloc (.cells #[.string ea,.string eb,.string ec,.string ed,.int .i64 eu] 64));(have gD:=(hr.out.ext.trans J).heap hH.out)))
    ((try simp only[Exit.inBlock,Exit.then]);refine Zm (Zw rfl _ _ _ _ _ _ _ rfl (Zk _ _ _ _ _ _ gD) underlying32 rfl ZA) rfl ?_)
    rw[hh.out]
    exact ⟨rfl,(S.out.trans (hr.out.ext.trans J)).setRow (ZM _) _⟩
   |ok en=>
    rw[hen] at H
    have hh:=gd (U.trans (VI hen))
    obtain ⟨ea,eb,ec,ed,eu⟩:=en
    replace H:Calls prog 42 #[.agg #[.int .i64 (K3:Nat),.bool Bb3,.int .i64 Nn3,.string Ss3,.slice A3 p3 gt,.slice B3 q3 d3,.int .i64 (gk:Nat)]] wr λe w2=>e= .returned (.tuple #[.agg #[.string ea,.string eb,.string ec,.string ed,.int .i64 eu],.int .i64 0,.int .i64 0])/\Ext wr w2:=H
    have h7:=gd H
    clear U hen H
    go_wp2_with (first|(at_builtin;refine Zq _ rfl (.tmp 105) (.tmp 107) _ rfl W1.heap.size 64 i0 _ 5 72 underlying30 ff fj fk fl rfl (by decide) _ E.length (flatE E) rfl Z.out.o _ 1 (eCells ⟨ea,eb,ec,ed,eu⟩) rfl gn.out (Z1 _) (by have:=gw.out;unfold maxLen;omega) (by have:=gw.out;omega) Z.out.ext.size ?_;intro fr ft hw hl gb;(obtain ⟨A6,fn,rfl⟩:=Xx hw);(have fz:=ZH (Z.out.grow hl) 5);(have fc:=Zb _ _ 5 _ _ _ (Z.out.grow hl));(have gm:=gd (Z.out.snoc hG.out (e:=⟨ea,eb,ec,ed,eu⟩) hw hl));clear hw hl gb)|(go_at_call 42;(have R:=h7.out);(with_reducible refine Za R ?_);clear R;rintro e hP ⟨rfl,C⟩;(obtain ⟨ha,hU⟩:∃ha,hP.alloc (.cells #[.string ea,.string eb,.string ec,.string ed,.int .i64 eu] 64)=ha:=⟨_,rfl⟩);(have J:Ext wr ha:=by rw[<-hU];exact C.alloc _);(have hW:ha.heap[hP.heap.size]? =some (.cells #[.string ea,.string eb,.string ec,.string ed,.int .i64 eu] 64 (0,0)):=by rw[<-hU];exact Zh hP _);(obtain ⟨v0,v1,v2,v3,v4⟩:=UC hW);(have h5:=J.cell g5);(obtain ⟨hJ,hV⟩:∃hJ,ha.alloc (.cells #[.string ea,.string eb,.string ec,.string ed,.int .i64 eu] 64)=hJ:=⟨_,rfl⟩);(have h6:Ext ha hJ:=by rw[<-hV];exact (Ext.refl ha).alloc _);(have gn:Hid (RSl hJ 5 (.slice (some ⟨ha.heap.size,0,none⟩) 1 1) 1 (eCells ⟨ea,eb,ec,ed,eu⟩)):=gd (by rw[<-hV];exact ZY (cs:=eCells ⟨ea,eb,ec,ed,eu⟩) rfl (by decide)));(have Z:=gd (hr.out.next (J.trans h6)));clear C hW h6 g5 y4 u0 u1 u2 u3 u4 u5 u6 e0 e1 e2 e3 e4 e5 e6))
    go_roundw
    case rel=>exact ⟨k+1,E++ [⟨ea,eb,ec,ed,eu⟩],_,hv,by go_num,gd ⟨by rw[Zj,gR.out];rfl,hh.out,gm.out⟩⟩
    case measure=>simp[intOf];omega
  focus
   have gE:L.drop k= []:=ZB (by omega)
   have U:=V.out.2.1
   rw[gE] at U
   have hy:entsJ L= .ok E:=(by rw[U];simp[entsFrom,entsJ])
   have gA:=gW.out E hy
   have hf:=gd V.out.2.2
   have go:Hid (∀W':World,Ext wr W'->Calls prog 43 #[.agg #[.slice none 0 0,.string O,.string sti,.string shm,.int .i64 tt,.slice rA E.length rc]] W' λe w2=>(∃y:Fc,e= .returned (.tuple #[.agg (cellsC y).toArray,.int .i64 (errF ⟨[],O,sti,shm,tt,E⟩:Nat)])/\y.f=normF ⟨[],O,sti,shm,tt,E⟩/\RdC w2 y/\∀q,q<W'.heap.size->awayC y (some q))/\Ext W' w2):=gd λW' hx=>(U8 ⟨.slice none 0 0,.slice rA E.length rc,⟨[],O,sti,shm,tt,E⟩⟩ W' (gU.out.ext ((S.out.trans hf.out.ext).trans hx)) gA ⟨RSl.nil W' 1,(RSl.of_own hf.out.o).ext hx⟩).mono λe w2 ⟨y,h1,h2,h3,h4,h5⟩=>⟨⟨y,h1,h2,h3,h4⟩,h5⟩
   have hh:=gd hy
   obtain ⟨EF,h9⟩:∃n,errF ⟨[],O,sti,shm,tt,E⟩=n:=⟨_,rfl⟩
   simp only[h9] at go
   have gQ:=gd h9
   have d0:=Zb _ _ 0 _ _ _ V.out.2.2.f
   have d1:=Zb _ _ 1 _ _ _ V.out.2.2.f
   have fb:=Zb _ _ 2 _ _ _ V.out.2.2.f
   have d3:=Zb _ _ 3 _ _ _ V.out.2.2.f
   have d4:=Zb _ _ 4 _ _ _ V.out.2.2.f
   have gB:w.heap.size+1≠g:=by
    have h1:=hG.out
    have h2:=(Ze.1 hH.out).1
    omega
   have gV:=gd gB
   clear gE U hy gA V h9 hF gB e0 e1 e2 e3 e4 e5 e6
   go_wp2_with (first|(refine Zg rfl 32 (.tmp 2) (.tmp 115) rfl (w.heap.size+1) #[.slice yA F.length yc,.string hq,.string G,.string Q,.int .i64 Y,.slice yB D.length yd] rfl rfl _ _ hZ ZA rfl YQ ?_)|(refine Zg rfl 32 (.tmp 9) (.tmp 113) rfl g #[.slice yA F.length yc,.string hq,.string G,.string Q,.int .i64 Y,.slice yB D.length yd] rfl rfl _ _ gF ZA rfl YQ ?_;rw[hb])|(go_at_call 43;(have R:=go.out wr (Ext.refl wr));(with_reducible refine Za R ?_);clear R;rintro e gK ⟨⟨y,rfl,gj,fi,gJ⟩,hD⟩;(obtain ⟨yp,fu,⟨F,hq,G,Q,Y,D⟩⟩:=y);(obtain ⟨hm,ho⟩:=fi);(dsimp only at gj hm ho);(obtain ⟨yA,yc,rfl, -, -⟩:=hm.form);(obtain ⟨yB,yd,rfl, -, -⟩:=ho.form);(have g8:=gd gj);(have g9:=gd (Z9 hm ho));(have gs:=gd gJ);(unfold cellsC fCells;dsimp only);(have gF:=hD.heap hf.out.f);(obtain ⟨hj,hb⟩:∃hj,gK.setRow g #[Value.slice yA F.length yc,.string hq,.string G,.string Q,.int .i64 Y,.slice yB D.length yd]=hj:=⟨_,rfl⟩);(have X:hj.heap[g]? =some (.cells #[Value.slice yA F.length yc,.string hq,.string G,.string Q,.int .i64 Y,.slice yB D.length yd] 32 (0,0)):=by rw[<-hb];exact Zk _ _ _ _ _ _ gF);(have n0:=Zb _ _ 0 _ _ _ X);(have n1:=Zb _ _ 1 _ _ _ X);(have n2:=Zb _ _ 2 _ _ _ X);(have n3:=Zb _ _ 3 _ _ _ X);(have n4:=Zb _ _ 4 _ _ _ X);(have n5:=Zb _ _ 5 _ _ _ X);(have hZ:hj.heap[w.heap.size+1]? =some (.cells #[.slice none 0 0,.string ⟨#[]⟩,.string ⟨#[]⟩,.string ⟨#[]⟩,.int .i64 0,.slice none 0 0] 32 (0,0)):=by rw[<-hb];exact (ZD _ _ _ _ gV.out).trans ((hf.out.ext.trans hD).heap hH.out));clear gj hm ho gJ d0 d1 fb d3 d4 g5 y4))
   ((try simp only[Exit.inBlock,Exit.then]);refine Zm (Zw rfl _ _ _ _ _ _ _ rfl (Zk _ _ _ _ _ _ hZ) underlying32 rfl ZA) rfl ?_)
   rw[hh.out]
   have fg:=(Ze.1 hf.out.f).1
   have fh:=Z3 (Ze.1 hH.out).1 hf.out.ext.size
   have hM:RdC hj ⟨.slice yA F.length yc,.slice yB D.length yd,⟨F,hq,G,Q,Y,D⟩⟩:=(by rw[<-hb];exact RdC.grown (x:=⟨.slice yA F.length yc,.slice yB D.length yd,⟨F,hq,G,Q,Y,D⟩⟩) g9.out (Yh gK g _) (gs.out g fg))
   have hX:Ext W1 hj:=(by rw[<-hb];exact (hf.out.ext.trans hD).setRow hG.out _)
   exact ⟨⟨_,by rw[gQ.out];rfl,g8.out,hM.grown (Yh hj (w.heap.size+1) _) (gs.out _ fh)⟩,(S.out.trans hX).setRow (ZM _) _⟩
end
section
set_option linter.unusedSimpArgs false
theorem KM {M:Nat} {y:JO} (h:jsz M y):∀x∈itemsJ y,jsz M x:=by
 cases y with
 |arr a l=>rw[jsz] at h;exact h
 |_=>intro x j;simp[itemsJ] at j
theorem GJ {sid sti shm:ByteArray} {tt:Int} {r:Except (Nat×Nat) (List Ent)}:feedFrom sid sti shm tt r=match r with
 | .error e=> .error e
 | .ok l=> .ok ⟨[],sid,sti,shm,tt,l⟩:=by cases r<;>rfl
theorem G2 (N:Nat) (j:JO) (cs:List Value) (w:World) (h:RJ w j cs) (hg:jsz N j) (hN:N<=16777216) (hE:Env w) (hk:∀f,decJ j= .ok f->fokS f) (Z:(itsW j).length<=1000000):
 Calls prog 13 #[.agg cs.toArray] w λe w'=>DecX w' (decJ j) e/\Ext w w':=by
 have Y:=λ(W':World) (C:Ext w W')=>Vz j cs w W' h C;have HC:=λ(W':World) (C:Ext w W')=>V0 N j cs W'.heap.size [nFeedUrl,nHome,nTitle,nUpdated] false w (W'.alloc (.cells ([nFeedUrl,nHome,nTitle,nUpdated].map Value.string).toArray 9)) h hg hN (C.alloc _) (Zh W' _) (by decide);have HD:=λ(W':World) (C:Ext w W')=>GT N j cs W'.heap.size [nUpdated] w (W'.alloc (.cells ([nUpdated].map Value.string).toArray 9)) h hg hN (C.alloc _) (Zh W' _) (by decide);have G:=λ(W':World) (n:ByteArray) (C:Ext w W')=>Id N j cs n w W' h hg hE C;obtain ⟨cv,ha,HM⟩:=XZ j cs nItems w h;have hn:∀n,(textJ j n).size<=16777216:=λn=>Zbw hg hN;have HB:=λ(W':World) (n:ByteArray)=>Q9 (textJ j n) W' (hn n);obtain ⟨A,p,c,B,q,d,hc⟩:=h.cells;generalize ho:((kindJ j:Nat):Int)=K at hc;generalize bJ j=Bb,nJ j=Nn,sJ j=Ss at hc;unfold wcells at hc;subst hc;cases hv:versJ j with
 |none=>
  rw[hv] at Y;have D:decJ j= .error (atJ j,18):=by unfold decJ;rw[Zi hv]
  rw[D];exact Zfv K Bb Nn Ss A B p c q d (atJ j) w noS (gd Y)
 |some vn=>
  rw[hv] at Y;have D:decJ j=match chkJ j false [nFeedUrl,nHome,nTitle,nUpdated] with
   |some e=> .error e
   |none=>if collapse (feedId j)=noS then .error (atJ j,19) else match dateJ j [nUpdated] with
    | .error e=> .error e
    | .ok t=>match memJ j nItems with
     |none=> .ok ⟨[],feedId j,textJ j nTitle,textJ j nHome,t,[]⟩
     |some x=>if kindJ x≠4 then .error (atJ x,21) else match entsJ (itemsJ x) with
      | .error e=> .error e
      | .ok l=> .ok ⟨[],feedId j,textJ j nTitle,textJ j nHome,t,l⟩:=by
   unfold decJ;rw[Zf (by rw[hv];exact λe=>by cases e)];rfl
  cases hck:chkJ j false [nFeedUrl,nHome,nTitle,nUpdated] with
  |some f=>rw[hck] at HC D;rw[D];exact Zfu K Bb Nn Ss A B p c q d (atJ j) w vn f.1 f.2 (VF hck) (gd Y) (gd λW' C=>(HC W' C).mono λe w2 ⟨R,S⟩=>⟨R,((Ext.refl W').alloc _).trans S⟩)
  |none=>
   rw[hck] at HC D;dsimp only at D;have U:=λ(W':World) (C:Ext w W')=>(HC W' C).mono (R':=λe w2=>e= .returned (.tuple #[.int .i64 0,.int .i64 0])/\Ext W' w2) λe w2 ⟨R,S⟩=>⟨R,((Ext.refl W').alloc _).trans S⟩;obtain ⟨A2,c2,B2,q2,d2,n2,css,he,J,F,O⟩:=U9 ha;unfold wcells at he;subst he;cases hb1:decide (collapse (textJ j nFeedUrl)=noS) with
   |true=>
    have hj:feedId j=textJ j nHome:=(by unfold feedId;rw[Zi (Yd hb1)]);rw[hj] at D;have Q:=λ(W':World)=>(HB W' nFeedUrl).mono (R':=λe w2=>e= .returned (.bool true)/\Ext W' w2) λe w2 ⟨R,S⟩=>⟨by rw[R,hb1],S⟩;cases hb2:decide (collapse (textJ j nHome)=noS) with
    |true=>have H:=λ(W':World)=>(HB W' nHome).mono (R':=λe w2=>e= .returned (.bool true)/\Ext W' w2) λe w2 ⟨R,S⟩=>⟨by rw[R,hb2],S⟩;rw[Zi (Yd hb2)] at D;rw[D];exact ZdP K Bb Nn Ss A B p c q d (atJ j) w vn (textJ j nFeedUrl) (textJ j nTitle) (textJ j nHome) (gd Y) (gd U) (gd λW' C=>G W' nFeedUrl C) (gd λW' C=>G W' nTitle C) (gd λW' C=>G W' nHome C) (gd Q) (gd H)
    |false=>
     have H:=λ(W':World)=>(HB W' nHome).mono (R':=λe w2=>e= .returned (.bool false)/\Ext W' w2) λe w2 ⟨R,S⟩=>⟨by rw[R,hb2],S⟩;rw[Zf (of_decide_eq_false hb2)] at D;cases hdt:dateJ j [nUpdated] with
     |error f=>rw[hdt] at HD D;rw[D];exact ZdR K Bb Nn Ss A B p c q d (atJ j) w vn (textJ j nFeedUrl) (textJ j nTitle) (textJ j nHome) (gd Y) (gd U) (gd λW' C=>G W' nFeedUrl C) (gd λW' C=>G W' nTitle C) (gd λW' C=>G W' nHome C) (gd Q) (gd H) f.1 f.2 (QI hdt) (gd λW' C=>(HD W' C).mono λe w2 ⟨R,S⟩=>⟨R,((Ext.refl W').alloc _).trans S⟩)
     |ok tt=>
      rw[hdt] at HD D;dsimp only at D;have V:=λ(W':World) (C:Ext w W')=>(HD W' C).mono (R':=λe w2=>e= .returned (.tuple #[.int .i64 tt,.int .i64 0,.int .i64 0])/\Ext W' w2) λe w2 ⟨R,S⟩=>⟨R,((Ext.refl W').alloc _).trans S⟩;cases hm:memJ j nItems with
      |none=>
       rw[hm] at HM ha J F O D;dsimp only at D;have h0:=Zco K Bb Nn Ss A B p c q d (atJ j) w vn (textJ j nFeedUrl) (textJ j nTitle) (textJ j nHome) (gd Y) (gd U) (gd λW' C=>G W' nFeedUrl C) (gd λW' C=>G W' nTitle C) (gd λW' C=>G W' nHome C) (gd Q) (gd H) tt (gd V) false 0 noS A2 B2 c2 q2 d2 0 [] css hE (gd λW' C=>HM W' C) F J (λi x c hi hc=>⟨n2,O i x c hi hc⟩) (by decide) (gd λx c W' C _ _=>by cases C) (λE I=>by
        have:entsJ []= .ok []:=rfl;rw[this] at I;injection I with I;subst I;exact hk _ D)
       rw[D];exact h0
      |some y=>
       have hb:(itemsJ y).length<=1000000:=(by unfold itsW at Z;rw[hm] at Z;exact Z);rw[hm] at HM ha J F O D;have hf:=YM hg hm;dsimp only at D
       replace J:css.length=(itemsJ y).length:=J
       replace F:RSl w 7 (.slice A2 (itemsJ y).length c2) (itemsJ y).length css.flatten:=F
       replace O:∀(i:Nat) (x:JO) (c:List Value),(itemsJ y)[i]? =some x->css[i]? =some c->RJn n2 w x c:=O
       by_cases h4:kindJ y=4
       ·rw[Zf (λhh=>hh h4)] at D;have X:∀W':World,Ext w W'->Calls prog 41 #[.agg #[.int .i64 K,.bool Bb,.int .i64 Nn,.string Ss,.slice A p c,.slice B q d,.int .i64 (atJ j:Nat)],.string ⟨#[105,116,101,109,115]⟩] W' λe w2=>e= .returned (.tuple #[.agg #[.int .i64 4,.bool (bJ y),.int .i64 (nJ y),.string (sJ y),.slice A2 (itemsJ y).length c2,.slice B2 q2 d2,.int .i64 (atJ y:Nat)],.bool true])/\Ext W' w2:=(by intro W' C;have hz:=HM W' C;simp only[Option.getD_some,Option.isSome_some,h4] at hz;exact hz);have h0:=Zcp K Bb Nn Ss A B p c q d (atJ j) w vn (textJ j nFeedUrl) (textJ j nTitle) (textJ j nHome) (gd Y) (gd U) (gd λW' C=>G W' nFeedUrl C) (gd λW' C=>G W' nTitle C) (gd λW' C=>G W' nHome C) (gd Q) (gd H) tt (gd V) (bJ y) (nJ y) (sJ y) A2 B2 c2 q2 d2 (atJ y) (itemsJ y) css hE (gd X) F J (λi x c hi hc=>⟨n2,O i x c hi hc⟩) hb (gd λx c W' C hr hl=>V2 N x c w W' hr (KM hf x C) hN hE hl) (λE I=>by
         rw[I] at D;exact hk _ D)
        rw[D,<-GJ];exact h0
       ·rw[Zi h4] at D;rw[D];have X:∀W':World,Ext w W'->Calls prog 41 #[.agg #[.int .i64 K,.bool Bb,.int .i64 Nn,.string Ss,.slice A p c,.slice B q d,.int .i64 (atJ j:Nat)],.string ⟨#[105,116,101,109,115]⟩] W' λe w2=>e= .returned (.tuple #[.agg #[.int .i64 (kindJ y:Nat),.bool (bJ y),.int .i64 (nJ y),.string (sJ y),.slice A2 (itemsJ y).length c2,.slice B2 q2 d2,.int .i64 (atJ y:Nat)],.bool true])/\Ext W' w2:=λW' C=>HM W' C;exact ZdT K Bb Nn Ss A B p c q d (atJ j) w vn (textJ j nFeedUrl) (textJ j nTitle) (textJ j nHome) (gd Y) (gd U) (gd λW' C=>G W' nFeedUrl C) (gd λW' C=>G W' nTitle C) (gd λW' C=>G W' nHome C) (gd Q) (gd H) tt (gd V) (kindJ y) (bJ y) (nJ y) (sJ y) A2 B2 (itemsJ y).length c2 q2 d2 (atJ y) h4 (gd X)
   |false=>
    have hj:feedId j=textJ j nFeedUrl:=(by unfold feedId;rw[Zf (of_decide_eq_false hb1)]);rw[hj] at D;have Q:=λ(W':World)=>(HB W' nFeedUrl).mono (R':=λe w2=>e= .returned (.bool false)/\Ext W' w2) λe w2 ⟨R,S⟩=>⟨by rw[R,hb1],S⟩;cases hb2:decide (collapse (textJ j nFeedUrl)=noS) with
    |true=>have H:=λ(W':World)=>(HB W' nFeedUrl).mono (R':=λe w2=>e= .returned (.bool true)/\Ext W' w2) λe w2 ⟨R,S⟩=>⟨by rw[R,hb2],S⟩;rw[Zi (Yd hb2)] at D;rw[D];exact ZdO K Bb Nn Ss A B p c q d (atJ j) w vn (textJ j nFeedUrl) (textJ j nTitle) (textJ j nHome) (gd Y) (gd U) (gd λW' C=>G W' nFeedUrl C) (gd λW' C=>G W' nTitle C) (gd λW' C=>G W' nHome C) (gd Q) (gd H)
    |false=>
     have H:=λ(W':World)=>(HB W' nFeedUrl).mono (R':=λe w2=>e= .returned (.bool false)/\Ext W' w2) λe w2 ⟨R,S⟩=>⟨by rw[R,hb2],S⟩;rw[Zf (of_decide_eq_false hb2)] at D;cases hdt:dateJ j [nUpdated] with
     |error f=>rw[hdt] at HD D;rw[D];exact ZdQ K Bb Nn Ss A B p c q d (atJ j) w vn (textJ j nFeedUrl) (textJ j nTitle) (textJ j nHome) (gd Y) (gd U) (gd λW' C=>G W' nFeedUrl C) (gd λW' C=>G W' nTitle C) (gd λW' C=>G W' nHome C) (gd Q) (gd H) f.1 f.2 (QI hdt) (gd λW' C=>(HD W' C).mono λe w2 ⟨R,S⟩=>⟨R,((Ext.refl W').alloc _).trans S⟩)
     |ok tt=>
      rw[hdt] at HD D;dsimp only at D;have V:=λ(W':World) (C:Ext w W')=>(HD W' C).mono (R':=λe w2=>e= .returned (.tuple #[.int .i64 tt,.int .i64 0,.int .i64 0])/\Ext W' w2) λe w2 ⟨R,S⟩=>⟨R,((Ext.refl W').alloc _).trans S⟩;cases hm:memJ j nItems with
      |none=>
       rw[hm] at HM ha J F O D;dsimp only at D;have h0:=Zcm K Bb Nn Ss A B p c q d (atJ j) w vn (textJ j nFeedUrl) (textJ j nTitle) (textJ j nHome) (gd Y) (gd U) (gd λW' C=>G W' nFeedUrl C) (gd λW' C=>G W' nTitle C) (gd λW' C=>G W' nHome C) (gd Q) (gd H) tt (gd V) false 0 noS A2 B2 c2 q2 d2 0 [] css hE (gd λW' C=>HM W' C) F J (λi x c hi hc=>⟨n2,O i x c hi hc⟩) (by decide) (gd λx c W' C _ _=>by cases C) (λE I=>by
        have:entsJ []= .ok []:=rfl;rw[this] at I;injection I with I;subst I;exact hk _ D)
       rw[D];exact h0
      |some y=>
       have hb:(itemsJ y).length<=1000000:=(by unfold itsW at Z;rw[hm] at Z;exact Z);rw[hm] at HM ha J F O D;have hf:=YM hg hm;dsimp only at D
       replace J:css.length=(itemsJ y).length:=J
       replace F:RSl w 7 (.slice A2 (itemsJ y).length c2) (itemsJ y).length css.flatten:=F
       replace O:∀(i:Nat) (x:JO) (c:List Value),(itemsJ y)[i]? =some x->css[i]? =some c->RJn n2 w x c:=O
       by_cases h4:kindJ y=4
       ·rw[Zf (λhh=>hh h4)] at D;have X:∀W':World,Ext w W'->Calls prog 41 #[.agg #[.int .i64 K,.bool Bb,.int .i64 Nn,.string Ss,.slice A p c,.slice B q d,.int .i64 (atJ j:Nat)],.string ⟨#[105,116,101,109,115]⟩] W' λe w2=>e= .returned (.tuple #[.agg #[.int .i64 4,.bool (bJ y),.int .i64 (nJ y),.string (sJ y),.slice A2 (itemsJ y).length c2,.slice B2 q2 d2,.int .i64 (atJ y:Nat)],.bool true])/\Ext W' w2:=(by intro W' C;have hz:=HM W' C;simp only[Option.getD_some,Option.isSome_some,h4] at hz;exact hz);have h0:=Zcn K Bb Nn Ss A B p c q d (atJ j) w vn (textJ j nFeedUrl) (textJ j nTitle) (textJ j nHome) (gd Y) (gd U) (gd λW' C=>G W' nFeedUrl C) (gd λW' C=>G W' nTitle C) (gd λW' C=>G W' nHome C) (gd Q) (gd H) tt (gd V) (bJ y) (nJ y) (sJ y) A2 B2 c2 q2 d2 (atJ y) (itemsJ y) css hE (gd X) F J (λi x c hi hc=>⟨n2,O i x c hi hc⟩) hb (gd λx c W' C hr hl=>V2 N x c w W' hr (KM hf x C) hN hE hl) (λE I=>by
         rw[I] at D;exact hk _ D)
        rw[D,<-GJ];exact h0
       ·rw[Zi h4] at D;rw[D];have X:∀W':World,Ext w W'->Calls prog 41 #[.agg #[.int .i64 K,.bool Bb,.int .i64 Nn,.string Ss,.slice A p c,.slice B q d,.int .i64 (atJ j:Nat)],.string ⟨#[105,116,101,109,115]⟩] W' λe w2=>e= .returned (.tuple #[.agg #[.int .i64 (kindJ y:Nat),.bool (bJ y),.int .i64 (nJ y),.string (sJ y),.slice A2 (itemsJ y).length c2,.slice B2 q2 d2,.int .i64 (atJ y:Nat)],.bool true])/\Ext W' w2:=λW' C=>HM W' C;exact ZdS K Bb Nn Ss A B p c q d (atJ j) w vn (textJ j nFeedUrl) (textJ j nTitle) (textJ j nHome) (gd Y) (gd U) (gd λW' C=>G W' nFeedUrl C) (gd λW' C=>G W' nTitle C) (gd λW' C=>G W' nHome C) (gd Q) (gd H) tt (gd V) (kindJ y) (bJ y) (nJ y) (sJ y) A2 B2 (itemsJ y).length c2 q2 d2 (atJ y) h4 (gd X)
end
end Go.Proofs.YthlnaldahkgjnaaGreatDoor
