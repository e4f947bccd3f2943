/- Parts of the proof: contracts and plain laws. -/
import Derived.Test.YthlnaldahkgjnaaGreatDoorZ12
namespace Go.Proofs.YthlnaldahkgjnaaGreatDoor
open Go Go.RowKit _root_.Go.Proofs.Tryz
set_option linter.unusedVariables false
set_option linter.unusedSimpArgs false
set_option maxRecDepth 100000
set_option maxHeartbeats 16000000
section
set_option linter.unusedSimpArgs false
attribute [local go_sem] calm1
theorem ZdO (K:Int) (Bb:Bool) (Nn:Int) (Ss:ByteArray) (A B:Option Addr) (p c q d At:Nat) (w:World) (vs hc sti shm:ByteArray)
 (hd:Hid (∀W':World,Ext w W'->Calls prog 15 #[.agg #[.int .i64 K,.bool Bb,.int .i64 Nn,.string Ss,.slice A p c,.slice B q d,.int .i64 At]] W' λe w2=>e= .returned (.tuple #[.string vs,.bool true])/\Ext W' w2))
 (ho:Hid (∀W':World,Ext w W'->Calls prog 37 #[.agg #[.int .i64 K,.bool Bb,.int .i64 Nn,.string Ss,.slice A p c,.slice B q d,.int .i64 At],.slice (some ⟨W'.heap.size,0,none⟩) 4 4,.bool false] (W'.alloc (.cells #[.string ⟨#[102,101,101,100,95,117,114,108]⟩,.string ⟨#[104,111,109,101,95,112,97,103,101,95,117,114,108]⟩,.string ⟨#[116,105,116,108,101]⟩,.string ⟨#[95,117,112,100,97,116,101,100]⟩] 9)) λe w2=>e= .returned (.tuple #[.int .i64 0,.int .i64 0])/\Ext W' w2))
 (hr:Hid (∀W':World,Ext w W'->Calls prog 38 #[.agg #[.int .i64 K,.bool Bb,.int .i64 Nn,.string Ss,.slice A p c,.slice B q d,.int .i64 At],.string ⟨#[102,101,101,100,95,117,114,108]⟩] W' λe w2=>e= .returned (.string hc)/\Ext W' w2))
 (ht:Hid (∀W':World,Ext w W'->Calls prog 38 #[.agg #[.int .i64 K,.bool Bb,.int .i64 Nn,.string Ss,.slice A p c,.slice B q d,.int .i64 At],.string ⟨#[116,105,116,108,101]⟩] W' λe w2=>e= .returned (.string sti)/\Ext W' w2))
 (hs:Hid (∀W':World,Ext w W'->Calls prog 38 #[.agg #[.int .i64 K,.bool Bb,.int .i64 Nn,.string Ss,.slice A p c,.slice B q d,.int .i64 At],.string ⟨#[104,111,109,101,95,112,97,103,101,95,117,114,108]⟩] W' λe w2=>e= .returned (.string shm)/\Ext W' w2))
 (hm:Hid (∀W':World,Calls prog 39 #[.string hc] W' λe w2=>e= .returned (.bool false)/\Ext W' w2))
 (hn:Hid (∀W':World,Calls prog 39 #[.string hc] W' λe w2=>e= .returned (.bool true)/\Ext W' w2)):
 Calls prog 13 #[.agg #[.int .i64 K,.bool Bb,.int .i64 Nn,.string Ss,.slice A p c,.slice B q d,.int .i64 At]] w λe w'=>e= .returned (.tuple #[.agg #[.slice none 0 0,.string ⟨#[]⟩,.string ⟨#[]⟩,.string ⟨#[]⟩,.int .i64 0,.slice none 0 0],.int .i64 (At:Nat),.int .i64 19])/\Ext w w':=by
 obtain ⟨W1,Z⟩:∃W1,(w.alloc (.cells #[.int .i64 K,.bool Bb,.int .i64 Nn,.string Ss,.slice A p c,.slice B q d,.int .i64 At] 25)).alloc (.cells #[.slice none 0 0,.string ⟨#[]⟩,.string ⟨#[]⟩,.string ⟨#[]⟩,.int .i64 0,.slice none 0 0] 32)=W1:=⟨_,rfl⟩;have hj:Ext w W1:=by rw[<-Z];exact ((Ext.refl w).alloc _).alloc _
 have D:W1.heap[w.heap.size]? =some (.cells #[.int .i64 K,.bool Bb,.int .i64 Nn,.string Ss,.slice A p c,.slice B q d,.int .i64 At] 25 (0,0)):=by rw[<-Z];exact ((Ext.refl _).alloc _).heap (Zh w _)
 have hi:W1.heap[w.heap.size+1]? =some (.cells #[.slice none 0 0,.string ⟨#[]⟩,.string ⟨#[]⟩,.string ⟨#[]⟩,.int .i64 0,.slice none 0 0] 32 (0,0)):=by rw[<-Z];exact YN w _ _
 have G:Hid (∀W':World,Ext W1 W'->W'.cell? ⟨w.heap.size,0,none⟩=some (.int .i64 K)/\W'.cell? ⟨w.heap.size,1,none⟩=some (.bool Bb)/\W'.cell? ⟨w.heap.size,2,none⟩=some (.int .i64 Nn)/\W'.cell? ⟨w.heap.size,3,none⟩=some (.string Ss)/\W'.cell? ⟨w.heap.size,4,none⟩=some (.slice A p c)/\W'.cell? ⟨w.heap.size,5,none⟩=some (.slice B q d)/\W'.cell? ⟨w.heap.size,6,none⟩=some (.int .i64 At)):=gd λW' h=>⟨h.cell (Zb _ _ 0 _ _ _ D),h.cell (Zb _ _ 1 _ _ _ D),h.cell (Zb _ _ 2 _ _ _ D),h.cell (Zb _ _ 3 _ _ _ D),h.cell (Zb _ _ 4 _ _ _ D),h.cell (Zb _ _ 5 _ _ _ D),h.cell (Zb _ _ 6 _ _ _ D)⟩;have F:=gd hj;have hp:=gd hi;obtain ⟨c0,c1,hy,c3,c4,c5,c6⟩:=G.out _ (Ext.refl W1);clear hj D hi;have ha:w.heap.size≠w.heap.size+1:=Nat.ne_of_lt (YY w.heap.size);go_enter func13,ntmps13
 go_wp2_with (first|(go_at_call 37;(have I:=ho.out w2 (F.out.trans Q));(with_reducible refine Za I ?_);clear I;rintro e S ⟨rfl,hk⟩;(have j:=Q.trans hk);(obtain ⟨f0,f1,f2,f3,f4,f5,f6⟩:=G.out _ j);(clear e0 e1 e2 e3 e4 e5 e6))|(go_at_call 15;(have I:=hd.out W1 F.out);(with_reducible refine Za I ?_);clear I;rintro e w2 ⟨rfl,Q⟩;(obtain ⟨e0,e1,e2,e3,e4,e5,e6⟩:=G.out _ Q);(clear c0 c1 hy c3 c4 c5 c6)))
 have a0:∀y:Aft S,y.w.cell? ⟨w.heap.size,0,none⟩=_:=Aft.cell f0;have a1:∀y:Aft S,y.w.cell? ⟨w.heap.size,1,none⟩=_:=Aft.cell f1;have a2:∀y:Aft S,y.w.cell? ⟨w.heap.size,2,none⟩=_:=Aft.cell f2;have a3:∀y:Aft S,y.w.cell? ⟨w.heap.size,3,none⟩=_:=Aft.cell f3;have a4:∀y:Aft S,y.w.cell? ⟨w.heap.size,4,none⟩=_:=Aft.cell f4;have a5:∀y:Aft S,y.w.cell? ⟨w.heap.size,5,none⟩=_:=Aft.cell f5;have a6:∀y:Aft S,y.w.cell? ⟨w.heap.size,6,none⟩=_:=Aft.cell f6;clear f0 f1 f2 f3 f4 f5 f6;refine Yy 7 (.cells #[.slice none 0 0,.string ⟨#[]⟩,.string ⟨#[]⟩,.string ⟨#[]⟩,.int .i64 0,.slice none 0 0] 32) _ (by kernel_rfl) rfl (by kernel_rfl) (λa w K h=>by go_simp;exact h) ?_
 repeat (refine YH (λU hK=> ?_);go_simp;first|(refine hK _ ?_;clear hK U)|(apply Ye;refine ⟨λy=> ?_,hK _ ?_⟩;(go_at_call 38;first|with_reducible exact ZP (hr.out _ ((F.out.trans j).trans y.ext))|with_reducible exact ZP (ht.out _ ((F.out.trans j).trans y.ext))|with_reducible exact ZP (hs.out _ ((F.out.trans j).trans y.ext)));clear hK U))
 refine YO ?_;intro g c' hg V;refine Yk rfl 32 (.tmp 9) (.tmp 42) rfl g _ rfl rfl _ _ V ZA rfl YQ ?_;intro W4 O he hA;have hl:Ext S W4:=he S c'.ext hg;have hf:W1.heap.size<=g:=Zl j.size hg;clear V he hA hg c' a0 a1 a2 a3 a4 a5 a6;have H:=j.trans hl;obtain ⟨e0,e1,e2,e3,e4,e5,e6⟩:=G.out _ H;have k1:=Zb _ _ 1 _ _ _ O;have k3:=Zb _ _ 3 _ _ _ O;have hw:=gd H;have hu:=gd O;have hB:=gd hf;clear H hl j hk Q O hf
 go_wp2_with (first|(go_at_call 39;(have I:=hn.out w5);(with_reducible refine Za I ?_);clear I;rintro e w7 ⟨rfl,hb⟩;(have X:=gd (hx.out.trans hb));(have hC:=gd (hb.heap hv.out));clear hb m1;(obtain ⟨f0,f1,f2,f3,f4,f5,f6⟩:=G.out _ X.out))|(go_at_call 39;(have I:=hm.out W4);(with_reducible refine Za I ?_);clear I;rintro e w5 ⟨rfl,R⟩;(have hx:=gd (hw.out.trans R));(have hv:=gd (R.heap hu.out));(have m1:=R.cell k1);clear k1 k3 R e0 e1 e2 e3 e4 e5 e6))
 have J:w7.drew.cell? ⟨w.heap.size,6,none⟩=some (.int .i64 At):=f6;have hh:=(X.out.trans (Ext.refl w7).drew).heap hp.out;refine rN ?_;change wpAny _ _ _ _ _ _ _ (World.drew _);refine Yi (λw'=>w'.cell? ⟨w.heap.size,6,none⟩=some (.int .i64 At)) ?_;refine tG 0 (.agg #[.slice none 0 0,.string ⟨#[]⟩,.string ⟨#[]⟩,.string ⟨#[]⟩,.int .i64 0,.slice none 0 0]) J ?_;refine tG 1 (.pointer (some ⟨w.heap.size,6,none⟩)) J ?_;refine tS 2 (.int .i64 At) rfl (λw' hS=>by have hq:w'.cell? ⟨w.heap.size,6,none⟩=some (.int .i64 At):=hS;go_simp) J ?_;go_simp;refine Zv (i:=3) rfl (by kernel_rfl) (λU C=> ?_);refine Z4 rfl 32 (.tmp 2) (.tmp 52) rfl (w.heap.size+1) #[.slice none 0 0,.string ⟨#[]⟩,.string ⟨#[]⟩,.string ⟨#[]⟩,.int .i64 0,.slice none 0 0] rfl rfl _ _ hh ZA rfl YQ ?_;have Y:(w7.drew.setRow (w.heap.size+1) #[.slice none 0 0,.string ⟨#[]⟩,.string ⟨#[]⟩,.string ⟨#[]⟩,.int .i64 0,.slice none 0 0]).cell? ⟨w.heap.size,6,none⟩=some (.int .i64 At):=by rw[Zu (a:=⟨w.heap.size,6,none⟩) (ZD _ _ _ _ ha)];exact J
 refine C _ _ Y ?_;clear C U;refine Zv (i:=4) rfl (by kernel_rfl) (λU C=> ?_);go_simp;refine C _ _ Y ?_;clear C U;refine Zv (i:=5) rfl (by kernel_rfl) (λU C=> ?_);go_simp;refine C _ _ Y ?_;clear C U;refine sE ?_;go_wp2;((try simp only[Exit.inBlock,Exit.then]);refine Zm (Zw rfl _ _ _ _ _ _ _ rfl (Zk _ _ _ _ _ _ hh) underlying32 rfl ZA) rfl ?_);exact ⟨rfl,(F.out.trans (X.out.trans (Ext.refl w7).drew)).setRow (ZM _) _⟩
theorem ZdQ (K:Int) (Bb:Bool) (Nn:Int) (Ss:ByteArray) (A B:Option Addr) (p c q d At:Nat) (w:World) (vs R sti shm:ByteArray)
 (hc:Hid (∀W':World,Ext w W'->Calls prog 15 #[.agg #[.int .i64 K,.bool Bb,.int .i64 Nn,.string Ss,.slice A p c,.slice B q d,.int .i64 At]] W' λe w2=>e= .returned (.tuple #[.string vs,.bool true])/\Ext W' w2))
 (ho:Hid (∀W':World,Ext w W'->Calls prog 37 #[.agg #[.int .i64 K,.bool Bb,.int .i64 Nn,.string Ss,.slice A p c,.slice B q d,.int .i64 At],.slice (some ⟨W'.heap.size,0,none⟩) 4 4,.bool false] (W'.alloc (.cells #[.string ⟨#[102,101,101,100,95,117,114,108]⟩,.string ⟨#[104,111,109,101,95,112,97,103,101,95,117,114,108]⟩,.string ⟨#[116,105,116,108,101]⟩,.string ⟨#[95,117,112,100,97,116,101,100]⟩] 9)) λe w2=>e= .returned (.tuple #[.int .i64 0,.int .i64 0])/\Ext W' w2))
 (hs:Hid (∀W':World,Ext w W'->Calls prog 38 #[.agg #[.int .i64 K,.bool Bb,.int .i64 Nn,.string Ss,.slice A p c,.slice B q d,.int .i64 At],.string ⟨#[102,101,101,100,95,117,114,108]⟩] W' λe w2=>e= .returned (.string R)/\Ext W' w2))
 (hu:Hid (∀W':World,Ext w W'->Calls prog 38 #[.agg #[.int .i64 K,.bool Bb,.int .i64 Nn,.string Ss,.slice A p c,.slice B q d,.int .i64 At],.string ⟨#[116,105,116,108,101]⟩] W' λe w2=>e= .returned (.string sti)/\Ext W' w2))
 (ht:Hid (∀W':World,Ext w W'->Calls prog 38 #[.agg #[.int .i64 K,.bool Bb,.int .i64 Nn,.string Ss,.slice A p c,.slice B q d,.int .i64 At],.string ⟨#[104,111,109,101,95,112,97,103,101,95,117,114,108]⟩] W' λe w2=>e= .returned (.string shm)/\Ext W' w2))
 (hm:Hid (∀W':World,Calls prog 39 #[.string R] W' λe w2=>e= .returned (.bool false)/\Ext W' w2))
 (hn:Hid (∀W':World,Calls prog 39 #[.string R] W' λe w2=>e= .returned (.bool false)/\Ext W' w2)) (d1 I:Nat) (hE:I≠0)
 (hp:Hid (∀W':World,Ext w W'->Calls prog 40 #[.agg #[.int .i64 K,.bool Bb,.int .i64 Nn,.string Ss,.slice A p c,.slice B q d,.int .i64 At],.slice (some ⟨W'.heap.size,0,none⟩) 1 1] (W'.alloc (.cells #[.string ⟨#[95,117,112,100,97,116,101,100]⟩] 9)) λe w2=>e= .returned (.tuple #[.int .i64 0,.int .i64 (d1:Nat),.int .i64 (I:Nat)])/\Ext W' w2)):
 Calls prog 13 #[.agg #[.int .i64 K,.bool Bb,.int .i64 Nn,.string Ss,.slice A p c,.slice B q d,.int .i64 At]] w λe w'=>e= .returned (.tuple #[.agg #[.slice none 0 0,.string ⟨#[]⟩,.string ⟨#[]⟩,.string ⟨#[]⟩,.int .i64 0,.slice none 0 0],.int .i64 (d1:Nat),.int .i64 (I:Nat)])/\Ext w w':=by
 obtain ⟨W1,Y⟩:∃W1,(w.alloc (.cells #[.int .i64 K,.bool Bb,.int .i64 Nn,.string Ss,.slice A p c,.slice B q d,.int .i64 At] 25)).alloc (.cells #[.slice none 0 0,.string ⟨#[]⟩,.string ⟨#[]⟩,.string ⟨#[]⟩,.int .i64 0,.slice none 0 0] 32)=W1:=⟨_,rfl⟩;have hj:Ext w W1:=by rw[<-Y];exact ((Ext.refl w).alloc _).alloc _
 have C:W1.heap[w.heap.size]? =some (.cells #[.int .i64 K,.bool Bb,.int .i64 Nn,.string Ss,.slice A p c,.slice B q d,.int .i64 At] 25 (0,0)):=by rw[<-Y];exact ((Ext.refl _).alloc _).heap (Zh w _)
 have hi:W1.heap[w.heap.size+1]? =some (.cells #[.slice none 0 0,.string ⟨#[]⟩,.string ⟨#[]⟩,.string ⟨#[]⟩,.int .i64 0,.slice none 0 0] 32 (0,0)):=by rw[<-Y];exact YN w _ _
 have G:Hid (∀W':World,Ext W1 W'->W'.cell? ⟨w.heap.size,0,none⟩=some (.int .i64 K)/\W'.cell? ⟨w.heap.size,1,none⟩=some (.bool Bb)/\W'.cell? ⟨w.heap.size,2,none⟩=some (.int .i64 Nn)/\W'.cell? ⟨w.heap.size,3,none⟩=some (.string Ss)/\W'.cell? ⟨w.heap.size,4,none⟩=some (.slice A p c)/\W'.cell? ⟨w.heap.size,5,none⟩=some (.slice B q d)/\W'.cell? ⟨w.heap.size,6,none⟩=some (.int .i64 At)):=gd λW' h=>⟨h.cell (Zb _ _ 0 _ _ _ C),h.cell (Zb _ _ 1 _ _ _ C),h.cell (Zb _ _ 2 _ _ _ C),h.cell (Zb _ _ 3 _ _ _ C),h.cell (Zb _ _ 4 _ _ _ C),h.cell (Zb _ _ 5 _ _ _ C),h.cell (Zb _ _ 6 _ _ _ C)⟩;have D:=gd hj;have hr:=gd hi;obtain ⟨c0,c1,hB,c3,c4,c5,c6⟩:=G.out _ (Ext.refl W1);clear hj C hi;have hF:((I:Int) !=0)=true:=by simp;omega
 go_enter func13,ntmps13
 go_wp2_with (first|(go_at_call 37;(have F:=ho.out w2 (D.out.trans O));(with_reducible refine Za F ?_);clear F;rintro e S ⟨rfl,hk⟩;(have j:=O.trans hk);(obtain ⟨f0,f1,f2,f3,f4,f5,f6⟩:=G.out _ j);(clear e0 e1 e2 e3 e4 e5 e6))|(go_at_call 15;(have F:=hc.out W1 D.out);(with_reducible refine Za F ?_);clear F;rintro e w2 ⟨rfl,O⟩;(obtain ⟨e0,e1,e2,e3,e4,e5,e6⟩:=G.out _ O);(clear c0 c1 hB c3 c4 c5 c6)))
 have a0:∀y:Aft S,y.w.cell? ⟨w.heap.size,0,none⟩=_:=Aft.cell f0;have a1:∀y:Aft S,y.w.cell? ⟨w.heap.size,1,none⟩=_:=Aft.cell f1;have a2:∀y:Aft S,y.w.cell? ⟨w.heap.size,2,none⟩=_:=Aft.cell f2;have a3:∀y:Aft S,y.w.cell? ⟨w.heap.size,3,none⟩=_:=Aft.cell f3;have a4:∀y:Aft S,y.w.cell? ⟨w.heap.size,4,none⟩=_:=Aft.cell f4;have a5:∀y:Aft S,y.w.cell? ⟨w.heap.size,5,none⟩=_:=Aft.cell f5;have a6:∀y:Aft S,y.w.cell? ⟨w.heap.size,6,none⟩=_:=Aft.cell f6;clear f0 f1 f2 f3 f4 f5 f6;refine Yy 7 (.cells #[.slice none 0 0,.string ⟨#[]⟩,.string ⟨#[]⟩,.string ⟨#[]⟩,.int .i64 0,.slice none 0 0] 32) _ (by kernel_rfl) rfl (by kernel_rfl) (λa w K h=>by go_simp;exact h) ?_
 repeat (refine YH (λKc hK=> ?_);go_simp;first|(refine hK _ ?_;clear hK Kc)|(apply Ye;refine ⟨λy=> ?_,hK _ ?_⟩;(go_at_call 38;first|with_reducible exact ZP (hs.out _ ((D.out.trans j).trans y.ext))|with_reducible exact ZP (hu.out _ ((D.out.trans j).trans y.ext))|with_reducible exact ZP (ht.out _ ((D.out.trans j).trans y.ext)));clear hK Kc))
 refine YO ?_;intro g c' hg U;refine Yk rfl 32 (.tmp 9) (.tmp 42) rfl g _ rfl rfl _ _ U ZA rfl YQ ?_;intro W4 J hd hC;have hl:Ext S W4:=hd S c'.ext hg;have hf:W1.heap.size<=g:=Zl j.size hg;clear U hd hC hg c' a0 a1 a2 a3 a4 a5 a6;have H:=j.trans hl;obtain ⟨e0,e1,e2,e3,e4,e5,e6⟩:=G.out _ H;have k1:=Zb _ _ 1 _ _ _ J;have k3:=Zb _ _ 3 _ _ _ J;have hy:=gd H;have hv:=gd J;have hq:=gd hf;clear H hl j hk O J hf
 go_wp2_with (first|(refine Zg rfl 32 (.tmp 2) (.tmp 65) rfl (w.heap.size+1) #[.slice none 0 0,.string ⟨#[]⟩,.string ⟨#[]⟩,.string ⟨#[]⟩,.int .i64 0,.slice none 0 0] rfl rfl _ _ hh ZA rfl YQ ?_)|(go_at_call 40;(have F:=hp.out w7 (D.out.trans V.out));(with_reducible refine Za F ?_);clear F;rintro e w8 ⟨rfl,hb⟩;(have Z:=hb.heap hx.out);(have l4:w8.frozen? ⟨g,4,none⟩=false:=ZH Z 4);(have hG:=Zb _ _ 4 _ _ _ Z);(obtain ⟨W9,he⟩:∃W9,w8.setCell ⟨g,4,none⟩ (.int .i64 0)=W9:=⟨_,rfl⟩);(have hD:Hid (W9.heap[g]? =some (.cells #[.slice none 0 0,.string R,.string sti,.string shm,.int .i64 0,.slice none 0 0] 32 (0,0))):=gd (by rw[<-he,ZR _ _ _ _ _ _ Z];rfl));(have X:Hid (Ext W1 W9):=gd (by rw[<-he];exact (V.out.trans hb).setCell (p:=⟨g,4,none⟩) hq.out _));clear hb f0 f1 f2 f3 f4 f5 f6;(obtain ⟨e0,e1,e2,e3,e4,e5,e6⟩:=G.out _ X.out);(have hh:=X.out.heap hr.out))|(go_at_call 39;(have F:=hn.out w5);(with_reducible refine Za F ?_);clear F;rintro e w7 ⟨rfl,ha⟩;(have V:=gd (hA.out.trans ha));(have hx:=gd (ha.heap hw.out));clear ha m1;(obtain ⟨f0,f1,f2,f3,f4,f5,f6⟩:=G.out _ V.out))|(go_at_call 39;(have F:=hm.out W4);(with_reducible refine Za F ?_);clear F;rintro e w5 ⟨rfl,Q⟩;(have hA:=gd (hy.out.trans Q));(have hw:=gd (Q.heap hv.out));(have m1:=Q.cell k1);clear k1 k3 Q e0 e1 e2 e3 e4 e5 e6))
 ((try simp only[Exit.inBlock,Exit.then]);refine Zm (Zw rfl _ _ _ _ _ _ _ rfl (Zk _ _ _ _ _ _ hh) underlying32 rfl ZA) rfl ?_);exact ⟨rfl,(D.out.trans X.out).setRow (ZM _) _⟩
theorem ZdS (K:Int) (Bb:Bool) (Nn:Int) (Ss:ByteArray) (A B:Option Addr) (p c q d At:Nat) (w:World) (vs ha sti shm:ByteArray)
 (hn:Hid (∀W':World,Ext w W'->Calls prog 15 #[.agg #[.int .i64 K,.bool Bb,.int .i64 Nn,.string Ss,.slice A p c,.slice B q d,.int .i64 At]] W' λe w2=>e= .returned (.tuple #[.string vs,.bool true])/\Ext W' w2))
 (hA:Hid (∀W':World,Ext w W'->Calls prog 37 #[.agg #[.int .i64 K,.bool Bb,.int .i64 Nn,.string Ss,.slice A p c,.slice B q d,.int .i64 At],.slice (some ⟨W'.heap.size,0,none⟩) 4 4,.bool false] (W'.alloc (.cells #[.string ⟨#[102,101,101,100,95,117,114,108]⟩,.string ⟨#[104,111,109,101,95,112,97,103,101,95,117,114,108]⟩,.string ⟨#[116,105,116,108,101]⟩,.string ⟨#[95,117,112,100,97,116,101,100]⟩] 9)) λe w2=>e= .returned (.tuple #[.int .i64 0,.int .i64 0])/\Ext W' w2))
 (hF:Hid (∀W':World,Ext w W'->Calls prog 38 #[.agg #[.int .i64 K,.bool Bb,.int .i64 Nn,.string Ss,.slice A p c,.slice B q d,.int .i64 At],.string ⟨#[102,101,101,100,95,117,114,108]⟩] W' λe w2=>e= .returned (.string ha)/\Ext W' w2))
 (hH:Hid (∀W':World,Ext w W'->Calls prog 38 #[.agg #[.int .i64 K,.bool Bb,.int .i64 Nn,.string Ss,.slice A p c,.slice B q d,.int .i64 At],.string ⟨#[116,105,116,108,101]⟩] W' λe w2=>e= .returned (.string sti)/\Ext W' w2))
 (hG:Hid (∀W':World,Ext w W'->Calls prog 38 #[.agg #[.int .i64 K,.bool Bb,.int .i64 Nn,.string Ss,.slice A p c,.slice B q d,.int .i64 At],.string ⟨#[104,111,109,101,95,112,97,103,101,95,117,114,108]⟩] W' λe w2=>e= .returned (.string shm)/\Ext W' w2))
 (hx:Hid (∀W':World,Calls prog 39 #[.string ha] W' λe w2=>e= .returned (.bool false)/\Ext W' w2))
 (hy:Hid (∀W':World,Calls prog 39 #[.string ha] W' λe w2=>e= .returned (.bool false)/\Ext W' w2)) (tt:Int)
 (hB:Hid (∀W':World,Ext w W'->Calls prog 40 #[.agg #[.int .i64 K,.bool Bb,.int .i64 Nn,.string Ss,.slice A p c,.slice B q d,.int .i64 At],.slice (some ⟨W'.heap.size,0,none⟩) 1 1] (W'.alloc (.cells #[.string ⟨#[95,117,112,100,97,116,101,100]⟩] 9)) λe w2=>e= .returned (.tuple #[.int .i64 tt,.int .i64 0,.int .i64 0])/\Ext W' w2)) (K2:Nat) (B2:Bool) (N2:Int) (S2:ByteArray) (A2 C2:Option Addr) (p2 c2 q2 d2 At2:Nat) (h4:K2≠4)
 (hE:Hid (∀W':World,Ext w W'->Calls prog 41 #[.agg #[.int .i64 K,.bool Bb,.int .i64 Nn,.string Ss,.slice A p c,.slice B q d,.int .i64 At],.string ⟨#[105,116,101,109,115]⟩] W' λe w2=>e= .returned (.tuple #[.agg #[.int .i64 (K2:Nat),.bool B2,.int .i64 N2,.string S2,.slice A2 p2 c2,.slice C2 q2 d2,.int .i64 (At2:Nat)],.bool true])/\Ext W' w2)):
 Calls prog 13 #[.agg #[.int .i64 K,.bool Bb,.int .i64 Nn,.string Ss,.slice A p c,.slice B q d,.int .i64 At]] w λe w'=>e= .returned (.tuple #[.agg #[.slice none 0 0,.string ⟨#[]⟩,.string ⟨#[]⟩,.string ⟨#[]⟩,.int .i64 0,.slice none 0 0],.int .i64 (At2:Nat),.int .i64 21])/\Ext w w':=by
 obtain ⟨W1,hh⟩:∃W1,(w.alloc (.cells #[.int .i64 K,.bool Bb,.int .i64 Nn,.string Ss,.slice A p c,.slice B q d,.int .i64 At] 25)).alloc (.cells #[.slice none 0 0,.string ⟨#[]⟩,.string ⟨#[]⟩,.string ⟨#[]⟩,.int .i64 0,.slice none 0 0] 32)=W1:=⟨_,rfl⟩;have hu:Ext w W1:=by rw[<-hh];exact ((Ext.refl w).alloc _).alloc _
 have I:W1.heap[w.heap.size]? =some (.cells #[.int .i64 K,.bool Bb,.int .i64 Nn,.string Ss,.slice A p c,.slice B q d,.int .i64 At] 25 (0,0)):=by rw[<-hh];exact ((Ext.refl _).alloc _).heap (Zh w _)
 have ht:W1.heap[w.heap.size+1]? =some (.cells #[.slice none 0 0,.string ⟨#[]⟩,.string ⟨#[]⟩,.string ⟨#[]⟩,.int .i64 0,.slice none 0 0] 32 (0,0)):=by rw[<-hh];exact YN w _ _
 have O:Hid (∀W':World,Ext W1 W'->W'.cell? ⟨w.heap.size,0,none⟩=some (.int .i64 K)/\W'.cell? ⟨w.heap.size,1,none⟩=some (.bool Bb)/\W'.cell? ⟨w.heap.size,2,none⟩=some (.int .i64 Nn)/\W'.cell? ⟨w.heap.size,3,none⟩=some (.string Ss)/\W'.cell? ⟨w.heap.size,4,none⟩=some (.slice A p c)/\W'.cell? ⟨w.heap.size,5,none⟩=some (.slice B q d)/\W'.cell? ⟨w.heap.size,6,none⟩=some (.int .i64 At)):=gd λW' h=>⟨h.cell (Zb _ _ 0 _ _ _ I),h.cell (Zb _ _ 1 _ _ _ I),h.cell (Zb _ _ 2 _ _ _ I),h.cell (Zb _ _ 3 _ _ _ I),h.cell (Zb _ _ 4 _ _ _ I),h.cell (Zb _ _ 5 _ _ _ I),h.cell (Zb _ _ 6 _ _ _ I)⟩;have F:=gd hu;have hm:=gd ht;obtain ⟨c0,c1,hP,c3,c4,c5,c6⟩:=O.out _ (Ext.refl W1);clear hu I ht;have hU:((K2:Int) !=4)=true:=by simp;omega
 go_enter func13,ntmps13
 go_wp2_with (first|(go_at_call 37;(have J:=hA.out w2 (F.out.trans Y));(with_reducible refine Za J ?_);clear J;rintro e w3 ⟨rfl,hv⟩;(have C:=Y.trans hv);(obtain ⟨f0,f1,f2,f3,f4,f5,f6⟩:=O.out _ C);(clear e0 e1 e2 e3 e4 e5 e6))|(go_at_call 15;(have J:=hn.out W1 F.out);(with_reducible refine Za J ?_);clear J;rintro e w2 ⟨rfl,Y⟩;(obtain ⟨e0,e1,e2,e3,e4,e5,e6⟩:=O.out _ Y);(clear c0 c1 hP c3 c4 c5 c6)))
 have a0:∀y:Aft w3,y.w.cell? ⟨w.heap.size,0,none⟩=_:=Aft.cell f0;have a1:∀y:Aft w3,y.w.cell? ⟨w.heap.size,1,none⟩=_:=Aft.cell f1;have a2:∀y:Aft w3,y.w.cell? ⟨w.heap.size,2,none⟩=_:=Aft.cell f2;have a3:∀y:Aft w3,y.w.cell? ⟨w.heap.size,3,none⟩=_:=Aft.cell f3;have a4:∀y:Aft w3,y.w.cell? ⟨w.heap.size,4,none⟩=_:=Aft.cell f4;have a5:∀y:Aft w3,y.w.cell? ⟨w.heap.size,5,none⟩=_:=Aft.cell f5;have a6:∀y:Aft w3,y.w.cell? ⟨w.heap.size,6,none⟩=_:=Aft.cell f6;clear f0 f1 f2 f3 f4 f5 f6;refine Yy 7 (.cells #[.slice none 0 0,.string ⟨#[]⟩,.string ⟨#[]⟩,.string ⟨#[]⟩,.int .i64 0,.slice none 0 0] 32) _ (by kernel_rfl) rfl (by kernel_rfl) (λa w K h=>by go_simp;exact h) ?_
 repeat (refine YH (λKc hK=> ?_);go_simp;first|(refine hK _ ?_;clear hK Kc)|(apply Ye;refine ⟨λy=> ?_,hK _ ?_⟩;(go_at_call 38;first|with_reducible exact ZP (hF.out _ ((F.out.trans C).trans y.ext))|with_reducible exact ZP (hH.out _ ((F.out.trans C).trans y.ext))|with_reducible exact ZP (hG.out _ ((F.out.trans C).trans y.ext)));clear hK Kc))
 refine YO ?_;intro g c' hg hd;refine Yk rfl 32 (.tmp 9) (.tmp 42) rfl g _ rfl rfl _ _ hd ZA rfl YQ ?_;intro W4 X ho hQ;have hw:Ext w3 W4:=ho w3 c'.ext hg;have hr:W1.heap.size<=g:=Zl C.size hg;clear hd ho hQ hg c' a0 a1 a2 a3 a4 a5 a6;have S:=C.trans hw;obtain ⟨e0,e1,e2,e3,e4,e5,e6⟩:=O.out _ S;have k1:=Zb _ _ 1 _ _ _ X;have k3:=Zb _ _ 3 _ _ _ X;have hN:=gd S;have hI:=gd X;have hD:=gd hr;clear S hw C hv Y X hr
 go_wp2_with (first|(go_at_call 41;(have J:=hE.out W9 (F.out.trans U.out));(with_reducible refine Za J ?_);clear J;rintro e D ⟨rfl,Q⟩;(obtain ⟨G,hc⟩:∃G,D.alloc (.cells #[.int .i64 (K2:Nat),.bool B2,.int .i64 N2,.string S2,.slice A2 p2 c2,.slice C2 q2 d2,.int .i64 (At2:Nat)] 25)=G:=⟨_,rfl⟩);(have R:Ext W9 G:=by rw[<-hc];exact Q.alloc _);(have j:G.heap[D.heap.size]? =some (.cells #[.int .i64 (K2:Nat),.bool B2,.int .i64 N2,.string S2,.slice A2 p2 c2,.slice C2 q2 d2,.int .i64 (At2:Nat)] 25 (0,0)):=by rw[<-hc];exact Zh D _);(have hb:=gd (U.out.trans R));(have hT:=gd (R.heap hM.out));(have hC:Hid (W1.heap.size<=D.heap.size):=gd (U.out.trans Q).size);(have z0:=Zb _ _ 0 _ _ _ j);(have z1:=Zb _ _ 1 _ _ _ j);(have z2:=Zb _ _ 2 _ _ _ j);(have z3:=Zb _ _ 3 _ _ _ j);(have z4:=Zb _ _ 4 _ _ _ j);(have z5:=Zb _ _ 5 _ _ _ j);(have z6:=Zb _ _ 6 _ _ _ j);(have hR:=gd j);clear Q R j e0 e1 e2 e3 e4 e5 e6)|(go_at_call 40;(have J:=hB.out w7 (F.out.trans he.out));(with_reducible refine Za J ?_);clear J;rintro e w8 ⟨rfl,hl⟩;(have hj:=hl.heap hL.out);(have l4:w8.frozen? ⟨g,4,none⟩=false:=ZH hj 4);(have hV:=Zb _ _ 4 _ _ _ hj);(obtain ⟨W9,hp⟩:∃W9,w8.setCell ⟨g,4,none⟩ (.int .i64 tt)=W9:=⟨_,rfl⟩);(have hM:Hid (W9.heap[g]? =some (.cells #[.slice none 0 0,.string ha,.string sti,.string shm,.int .i64 tt,.slice none 0 0] 32 (0,0))):=gd (by rw[<-hp,ZR _ _ _ _ _ _ hj];rfl));(have U:Hid (Ext W1 W9):=gd (by rw[<-hp];exact (he.out.trans hl).setCell (p:=⟨g,4,none⟩) hD.out _));clear hl f0 f1 f2 f3 f4 f5 f6;(obtain ⟨e0,e1,e2,e3,e4,e5,e6⟩:=O.out _ U.out))|(go_at_call 39;(have J:=hy.out w5);(with_reducible refine Za J ?_);clear J;rintro e w7 ⟨rfl,hk⟩;(have he:=gd (hO.out.trans hk));(have hL:=gd (hk.heap hJ.out));clear hk m1;(obtain ⟨f0,f1,f2,f3,f4,f5,f6⟩:=O.out _ he.out))|(go_at_call 39;(have J:=hx.out W4);(with_reducible refine Za J ?_);clear J;rintro e w5 ⟨rfl,Z⟩;(have hO:=gd (hN.out.trans Z));(have hJ:=gd (Z.heap hI.out));(have m1:=Z.cell k1);clear k1 k3 Z e0 e1 e2 e3 e4 e5 e6))
 have hi:D.heap.size≠w.heap.size+1:=by have h1:=hC.out;have h2:=(Ze.1 hm.out).1;omega
 have V:G.drew.cell? ⟨D.heap.size,6,none⟩=some (.int .i64 At2):=z6;have hs:=(hb.out.trans (Ext.refl G).drew).heap hm.out;refine rN ?_;change wpAny _ _ _ _ _ _ _ (World.drew _);refine Yi (λw'=>w'.cell? ⟨D.heap.size,6,none⟩=some (.int .i64 At2)) ?_;refine tG 0 (.agg #[.slice none 0 0,.string ⟨#[]⟩,.string ⟨#[]⟩,.string ⟨#[]⟩,.int .i64 0,.slice none 0 0]) V ?_;refine tG 1 (.pointer (some ⟨D.heap.size,6,none⟩)) V ?_;refine tS 2 (.int .i64 At2) rfl (λw' hS=>by have hq:w'.cell? ⟨D.heap.size,6,none⟩=some (.int .i64 At2):=hS;go_simp) V ?_;go_simp;refine Zv (i:=3) rfl (by kernel_rfl) (λKc H=> ?_);refine Z4 rfl 32 (.tmp 2) (.tmp 79) rfl (w.heap.size+1) #[.slice none 0 0,.string ⟨#[]⟩,.string ⟨#[]⟩,.string ⟨#[]⟩,.int .i64 0,.slice none 0 0] rfl rfl _ _ hs ZA rfl YQ ?_;have hf:(G.drew.setRow (w.heap.size+1) #[.slice none 0 0,.string ⟨#[]⟩,.string ⟨#[]⟩,.string ⟨#[]⟩,.int .i64 0,.slice none 0 0]).cell? ⟨D.heap.size,6,none⟩=some (.int .i64 At2):=by rw[Zu (a:=⟨D.heap.size,6,none⟩) (ZD _ _ _ _ hi)];exact V
 refine H _ _ hf ?_;clear H Kc;refine Zv (i:=4) rfl (by kernel_rfl) (λKc H=> ?_);go_simp;refine H _ _ hf ?_;clear H Kc;refine Zv (i:=5) rfl (by kernel_rfl) (λKc H=> ?_);go_simp;refine H _ _ hf ?_;clear H Kc;refine sE ?_;go_wp2;((try simp only[Exit.inBlock,Exit.then]);refine Zm (Zw rfl _ _ _ _ _ _ _ rfl (Zk _ _ _ _ _ _ hs) underlying32 rfl ZA) rfl ?_);exact ⟨rfl,(F.out.trans (hb.out.trans (Ext.refl G).drew)).setRow (ZM _) _⟩
end
theorem IM (w:World) (g i:Nat) (u v:Value):(w.setCell ⟨g,i,none⟩ u).setCell ⟨g,i,none⟩ v=w.setCell ⟨g,i,none⟩ v:=by
 unfold World.setCell
 congr 1
 apply Array.ext_getElem?;intro k;simp only[YZ];by_cases h:g=k
 ·rw[Zi h,Zi h,Zi h,Option.map_map]
  congr 1
  funext o;cases o<;>simp
 ·rw[Zf h,Zf h,Zf h]
theorem Gc (w:World) (g i:Nat) (v:Value) (h:w.cell? ⟨g,i,none⟩=some v):w.setCell ⟨g,i,none⟩ v=w:=by
 have F:(w.setCell ⟨g,i,none⟩ v).heap=w.heap:=by
  apply Array.ext_getElem?;intro k;by_cases D:k=g
  ·subst D;cases ho:w.heap[k]? with
   |none=>simp[World.setCell,YZ,ho]
   |some o=>
    cases o with
    |cells c e fr=>
     have A:c[i]? =some v:=(by rw[Zb _ _ _ _ _ _ ho] at h;exact h);have e1:c.setIfInBounds i v=c:=by
      apply Array.ext_getElem?;intro j;rw[Array.getElem?_setIfInBounds];by_cases C:i=j
      ·subst C;rw[Zi rfl,Zi (Ze.1 A).1,A]
      ·rw[Zf C]
     rw[setCell_eq_setRow w k i c e fr v ho,Zk w k c _ e fr ho,e1]
    |_=>simp[World.setCell,YZ,ho]
  ·exact Zs w ⟨g,i,none⟩ k v D
 have e2:w.setCell ⟨g,i,none⟩ v={w with heap:=(w.setCell ⟨g,i,none⟩ v).heap}:=rfl;rw[e2,F]
theorem QT {a b:World} {g i:Nat} {u v:Value} (h:Ext (a.setCell ⟨g,i,none⟩ u) b):Ext (a.setCell ⟨g,i,none⟩ v) (b.setCell ⟨g,i,none⟩ v):=by
 have A:Below a.heap.size (a.setCell ⟨g,i,none⟩ u) b:=by
  have e:(a.setCell ⟨g,i,none⟩ u).heap.size=a.heap.size:=by simp[World.setCell]
  unfold Ext at h
  rwa [e] at h
 have j:=Ext.setBoth A ⟨g,i,none⟩ v;rw[IM] at j;have e2:(a.setCell ⟨g,i,none⟩ v).heap.size=a.heap.size:=by simp[World.setCell]
 unfold Ext;rw[e2];exact j
theorem Zae {a b:List ByteArray} {k:Nat} (h:k<a.length) (j:k<b.length):pathCmp (a.drop k) (b.drop k)=if sCmp a[k] b[k]=0 then pathCmp (a.drop (k+1)) (b.drop (k+1)) else sCmp a[k] b[k]:=by
 rw[Zx h,Zx j];rfl
theorem RStrs.at {w:World} {v:Value} {l:List ByteArray} (h:RStrs w v l) {k:Nat} (D:k<l.length):∃ad c,v= .slice (some ad) l.length c/\w.cell? (ad.add k)=some (.string l[k]):=by
 obtain ⟨_,A,c,e,_,_,_,j⟩:=h;obtain ⟨ad,rfl,C⟩:=j k (.string l[k]) (by rw[ZT,Zc D];rfl);exact ⟨ad,c,e,C⟩
theorem Zd0 (a:ByteArray):sCmp a a=0:=VO.self a
theorem GS (u v:Value) (a b:List ByteArray) (w:World) (ha:RStrs w u a) (hb:RStrs w v b) (hn:a.length<=16777216):
 Calls prog 46 #[u,v] w λe w'=>e= .returned (.int .i64 (pathCmp a b))/\Ext w w':=by
 obtain ⟨A,c,rfl,hc,hf⟩:=ha.form;obtain ⟨B,d,rfl,he,hg⟩:=hb.form;have HA:Hid (a.length<=maxLen):=gd (by omega);have HB:Hid (b.length<=maxLen):=gd (by omega);clear hc hf he hg;go_enter func46,ntmps46;go_wp2;go_loopw [5] (λi wr=>∃k:Nat,k<=a.length/\k<=b.length/\i= .int .i64 k/\Hid (pathCmp a b=pathCmp (a.drop k) (b.drop k))/\Ext w wr) (λi _=>a.length - (intOf i).toNat)
 case atStart=>exact ⟨0,Zt _,Zt _,rfl,gd rfl,Ext.refl _⟩
 case round=>
  obtain ⟨k,hk,hl,rfl,j,R⟩:=hrel;by_cases O:k<a.length
  ·by_cases D:k<b.length
   ·have Q:=Zae O D;obtain ⟨ad,c1,e1,H⟩:=(ha.ext R).at O;injection e1 with e1 e2 e3;subst e1;obtain ⟨bd,F,Z,I⟩:=(hb.ext R).at D;injection Z with Z e5 e6;subst Z;clear e2 e3 e5 e6;obtain ⟨x,U⟩:∃x,a[k]=x:=⟨_,rfl⟩;obtain ⟨y,V⟩:∃y,b[k]=y:=⟨_,rfl⟩;rw[U,V] at Q;rw[U] at H;rw[V] at I;have Y:=gd Q;have HC:=gd (λw'=>Vy x y w');clear Q U V;have hj:(0:Int)<=(k:Int):=(by omega);have hh:(k:Int)<(a.length:Int):=(by omega);have J:(k:Int)<(b.length:Int):=(by omega);have f0:∀d:Aft wr,d.w.cell? (ad.add k)=some (.string x):=Aft.cell H;have f1:∀d:Aft wr,d.w.cell? (bd.add k)=some (.string y):=Aft.cell I;cases hxy:(x.toList==y.toList) with
    |true=>
     have C:x=y:=toList_inj (by simpa using hxy);have G:=gd C;clear C;go_wp2;refine rA ?_
     repeat (first|go_big_quiet_step (fail)|quiet_step (fail))
     refine YB ?_;rintro _ ⟨F,rfl⟩;have S:=R.trans F.ext;clear f0 f1;go_wp2;go_roundw
     case rel=>refine ⟨k+1,by omega,by omega,by go_num,gd ?_,S⟩;rw[j.out,Y.out,G.out,Zi (Zd0 _)]
     case measure=>simp[intOf];omega
    |false=>
     have C:¬sCmp x y=0:=(by intro e;have:=Zam e;rw[this] at hxy;simp at hxy);have G:=gd C;clear C;go_wp2;refine rA ?_
     repeat (first|go_big_quiet_step (fail)|quiet_step (fail))
     refine YB ?_;rintro _ ⟨F,rfl⟩;have S:=R.trans F.ext;have g0:∀d:Aft F.w,d.w.cell? (ad.add k)=some (.string x):=λd=>(F.ext.trans d.ext).cell H;have g1:∀d:Aft F.w,d.w.cell? (bd.add k)=some (.string y):=λd=>(F.ext.trans d.ext).cell I;clear f0 f1;go_wp2;refine rA ?_
     repeat (first|go_big_quiet_step ((go_at_call 87;with_reducible exact YU (HC.out _)))|quiet_step ((go_at_call 87;with_reducible exact YU (HC.out _))))
     refine YB ?_;rintro _ ⟨d2,rfl⟩;have hi:=S.trans d2.ext;clear g0 g1;go_wp2;go_ret;have h:pathCmp a b=sCmp x y:=(by rw[j.out,Y.out,Zf G.out]);exact ⟨by rw[h];rfl,hi⟩
   ·have K:k=b.length:=(by omega);subst K;have h:pathCmp a b=1:=(by rw[j.out,ZB (Zd _),Zx O];rfl);have X:=gd h;clear h j;have J:¬(b.length:Int)<(b.length:Int):=(by omega);have hh:(b.length:Int)<(a.length:Int):=(by omega);have hd:¬(a.length:Int)<(b.length:Int):=(by omega);go_wp2;go_ret;exact ⟨by rw[X.out];rfl,R⟩
  ·have K:k=a.length:=(by omega);subst K;by_cases D:a.length<b.length
   ·have h:pathCmp a b= -1:=(by rw[j.out,ZB (Zd a.length),Zx D];rfl);have X:=gd h;clear h j;have J:(a.length:Int)<(b.length:Int):=(by omega);go_wp2;go_ret;exact ⟨by rw[X.out];rfl,R⟩
   ·have hm:b.length=a.length:=(by omega);have h:pathCmp a b=0:=(by rw[j.out,ZB (Zd a.length),ZB (by omega)];rfl);have X:=gd h;clear h j;have J:¬(a.length:Int)<(b.length:Int):=(by omega);have hd:¬(b.length:Int)<(a.length:Int):=(by omega);go_wp2;go_ret;exact ⟨by rw[X.out];rfl,R⟩
section
theorem UU (l:List ByteArray):∀u∈l.map Value.string,u.oneCell'=true:=by
 intro u h;obtain ⟨s,_,rfl⟩:=Yq.1 h;rfl
def toldQ (R:Act->World->Prop):Exit->Act->World->Prop
 | .normal,a',w'=>R a' w'
 |_,_,_=>False
theorem Zgs {P:Program} {c:Code} {Q:Exit->Act->World->Prop} {a:Act} {w:World} (R:Act->Act->World->Prop) (j:∀a' w',R a a' w'->Q .normal a' w') (A:c.wp P (toldQ (R a)) a w):c.wp P Q a w:=
 Code.wp_mono (λe a' w' h=>by cases e<;>first|exact j a' w' h|exact h.elim) A
theorem Zfr (W:World) {a b c:ByteArray}:((W.drew.alloc (.cells #[.string a,.string b,.string c] 9)).alloc (.cells #[] 9)).ownsRow W.heap.size 9 1 (.slice (some ⟨W.heap.size+1,0,none⟩) 0 0) 0 []:=by
 have h:=JC (w:=W.drew.alloc (.cells #[.string a,.string b,.string c] 9)) (base:=W.heap.size) (e:=9) (size:=1) (n:=0) (cs:= []) (by rw[Zp];exact ZM _) rfl (by decide);rw[Zp] at h;exact h
theorem Zhe (W:World) (a b c:ByteArray) {O:Obj}:RSl ((W.drew.alloc O).alloc (.cells #[.string a,.string b,.string c] 9)) 1 (.slice (some ⟨W.heap.size+1,0,none⟩) 3 3) 3 [.string a,.string b,.string c]:=by
 have h:=ZY (w:=W.drew.alloc O) (size:=1) (n:=3) (e:=9) (cs:= [.string a,.string b,.string c]) rfl (by decide);rw[Zp] at h;exact h
theorem Zhf (W:World) (a b c:ByteArray) {O:Obj}:RSl ((W.drew.alloc (.cells #[.string a,.string b,.string c] 9)).alloc O) 1 (.slice (some ⟨W.heap.size,0,none⟩) 3 3) 3 [.string a,.string b,.string c]:=
 (ZY (w:=W.drew) (size:=1) (n:=3) (e:=9) (cs:= [.string a,.string b,.string c]) rfl (by decide)).ext ((Ext.refl _).alloc _)
theorem ZbO {w:World} {B:Nat} {v:Value} {path ents} {a b c:ByteArray} {u:Int} (h:w.ownsRow B 9 1 v (0+path.length+3) (([]++path.map Value.string)++ [.string a,.string b,.string c])):
 RSl w 1 v (path.length+3) ((strsF ⟨path,a,b,c,u,ents⟩).map Value.string):=by
 have h:=RSl.of_own h;unfold strsF;simpa using h
theorem GM (s:ByteArray):s.toList.isEmpty=decide (s=noS):=by
 have j:noS.toList= []:=by rw[Yx];rfl
 by_cases h:s=noS
 ·subst h;rw[Yg rfl,j];rfl
 ·rw[Ya h];cases hl:s.toList with
  |nil=>exact absurd (toList_inj (by rw[hl,j])) h
  |cons _ _=>rfl
theorem Za9 (a:ByteArray) (l:List ByteArray):((collapse a).toList.isEmpty||l.any λp=>(collapse p).toList.isEmpty)=decide (collapse a=noS\/(l.any λp=>decide (collapse p=noS))=true):=by
 have h:(λp:ByteArray=>(collapse p).toList.isEmpty)=λp=>decide (collapse p=noS):=funext λp=>GM _;rw[h,GM,Bool.decide_or,Bool.decide_eq_true]
theorem QY {f:Fd} {n:Nat} (h:headF f=n) (A:n≠0):errF f=n/\normF f=zeroF:=by
 have j:errF f=n:=by unfold errF;rw[h,Zf A]
 exact ⟨j,by unfold normF;rw[j,Zf A]⟩
theorem Zdq {t:Int} (h:inT t=false):t< -62135596800\/253402300799<t:=by
 unfold inT at h;rw[Bool.and_eq_false_iff] at h;rcases h with h|h
 ·have:=of_decide_eq_false h;exact Or.inl (by omega)
 ·have:=of_decide_eq_false h;exact Or.inr (by omega)
theorem ZeV {t:Int} (h:inT t=true):¬t< -62135596800/\¬253402300799<t:=by
 unfold inT at h;rw[ZU] at h;have j:=Yd h.1;have A:=Yd h.2;exact ⟨by omega,by omega⟩
attribute [local go_sem ↓] Go.wp_at_zero Go.wp_at_succ
attribute [local go_sem] calm1
theorem U8 (x:Fc) (w:World) (hE:Env w) (hk:fokS x.f) (hr:RdC w x):
 Calls prog 43 #[.agg (cellsC x).toArray] w λe w'=>∃y:Fc,e= .returned (.tuple #[.agg (cellsC y).toArray,.int .i64 (errF x.f:Nat)])/\y.f=normF x.f/\RdC w' y/\(∀q,q<w.heap.size->awayC y (some q))/\Ext w w':=by
 obtain ⟨i0,ga,gc,ge,gf⟩:=Yr ZaQ;obtain ⟨F,hF⟩:∃F,x.f=F:=⟨_,rfl⟩;rw[hF];rw[hF] at hk;obtain ⟨EF,gS⟩:∃n,errF F=n:=⟨_,rfl⟩;obtain ⟨NF,gW⟩:∃n,normF F=n:=⟨_,rfl⟩;simp only[gS,gW];have hR:=gd gS;have hT:=gd gW;clear gS gW;have fK:(strsF F).length=F.path.length+3:=by unfold strsF;simp
 have fP:∀s∈strsF F,s.size<=16777216:=by
  have h2:=hk.1.2;intro s hs;unfold strsF at hs;rcases ZZ.1 hs with hs|hs
  ·have:=Xp hs;omega
  ·simp only[ZG,YD,YK] at hs;rcases hs with rfl|rfl|rfl<;>omega
 have fl:=gd (λ(w':World) (v:Value) (h:RSl w' 1 v (F.path.length+3) ((strsF F).map Value.string))=>Vh v (strsF F) w' (by rw[fK];exact h) fP);have dD:F.path.length<=16777216:=by have:=hk.1.2;omega
 have gP:Hid (0+F.path.length<=maxLen):=gd (by unfold maxLen;omega);have gO:Hid ((0+F.path.length)*16<=140737488355328):=gd (by omega);have gI:Hid (0+F.path.length+3<=maxLen):=gd (by unfold maxLen;omega);have gG:Hid ((0+F.path.length+3)*16<=140737488355328):=gd (by omega);have g7:=hr.1;have de:=hr.sl;rw[hF] at g7;have fu:=gd hr.2;have HK:=gd hk;obtain ⟨EC,gR⟩:∃n,firstErr (strsF F)=n:=⟨_,rfl⟩;rw[gR] at fl;have fo:=gd gR;clear gR fK fP hk hr;obtain ⟨xp,dF,⟨A,H,C,G,I,D⟩⟩:=x;obtain ⟨⟨xA,xn,xc,dp⟩,⟨xB,xm,xd,dn⟩⟩:=de;dsimp only at*;subst dp dn;have du:=gd hF;subst hF;dsimp only at*;obtain ⟨A',c',e1, -, -⟩:=g7.form;injection e1 with e1 e2 e3;subst e1 e2 e3;have HP:=gd g7;have g8:=fu.out;obtain ⟨B',d',e1, -, -⟩:=g8.form;injection e1 with e1 e2 e3;subst e1 e2 e3;have f0:=gd g8;clear g8 fu;unfold cellsC fCells;dsimp only;go_enter func43,ntmps43;go_wp2;obtain ⟨W,hW⟩:∃W,W=(w.alloc (.cells #[.slice xA A.length xc,.string H,.string C,.string G,.int .i64 I,.slice xB D.length xd] 32)).alloc (.cells #[.slice none 0 0,.string ⟨#[]⟩,.string ⟨#[]⟩,.string ⟨#[]⟩,.int .i64 0,.slice none 0 0] 32):=⟨_,rfl⟩;rw[<-hW];have ht:Ext w W:=by rw[hW];exact ((Ext.refl w).alloc _).alloc _
 have h9:Ext (w.alloc (.cells #[.slice xA A.length xc,.string H,.string C,.string G,.int .i64 I,.slice xB D.length xd] 32)) W:=by rw[hW];exact (Ext.refl _).alloc _
 have gF:W.heap[w.heap.size+1]? =some (.cells #[.slice none 0 0,.string ⟨#[]⟩,.string ⟨#[]⟩,.string ⟨#[]⟩,.int .i64 0,.slice none 0 0] 32):=by rw[hW];exact Ep _ _ _
 have go:Hid (W.heap.size=w.heap.size+1+1):=gd (by rw[hW];simp only[Zp]);have hQ:Hid (∀w',Ext W w'->w'.cell? ⟨w.heap.size,0,none⟩=some (.slice xA A.length xc)/\w'.cell? ⟨w.heap.size,1,none⟩=some (.string H)/\w'.cell? ⟨w.heap.size,2,none⟩=some (.string C)/\w'.cell? ⟨w.heap.size,3,none⟩=some (.string G)/\w'.cell? ⟨w.heap.size,4,none⟩=some (.int .i64 I)/\w'.cell? ⟨w.heap.size,5,none⟩=some (.slice xB D.length xd)):=gd λw' h=>⟨(h9.trans h).boxed 0 _ rfl,(h9.trans h).boxed 1 _ rfl,(h9.trans h).boxed 2 _ rfl,(h9.trans h).boxed 3 _ rfl,(h9.trans h).boxed 4 _ rfl,(h9.trans h).boxed 5 _ rfl⟩;clear hW;refine Zgs (λa0 a' w'=>Ext W w'/\∃v11 fT v21 v22:Value,a'=((((((((((((((a0.put (some 11) v11).put (some 12) (.pointer (some ⟨w.heap.size,0,none⟩))).put (some 13) (.slice xA A.length xc)).put (some 14) fT).put (some 15) (.pointer (some ⟨w.heap.size,1,none⟩))).put (some 16) (.string H)).put (some 17) (.pointer (some ⟨w.heap.size,2,none⟩))).put (some 18) (.string C)).put (some 19) (.pointer (some ⟨w.heap.size,3,none⟩))).put (some 20) (.string G)).put (some 21) v21).put (some 22) v22).put (some 23) (.int .i64 EC)).put (some 4) (.int .i64 EC))) ?_ ?_
 ·rintro _ w1 ⟨gu,v11,fT,v21,v22,rfl⟩;have hZ:=gu.heap gF;have f1:=gd (ht.trans gu);by_cases hL:EC=0
  ·subst hL;have f6:=hQ.out w1 gu;obtain ⟨b0,b1,b2,b3,b4,b5⟩:=f6;have a1:∀d:Aft w1,d.w.cell? ⟨w.heap.size,1,none⟩=some (.string H):=Aft.cell b1;have a2:∀d:Aft w1,d.w.cell? ⟨w.heap.size,2,none⟩=some (.string C):=Aft.cell b2;have a3:∀d:Aft w1,d.w.cell? ⟨w.heap.size,3,none⟩=some (.string G):=Aft.cell b3;have a4:∀d:Aft w1,d.w.cell? ⟨w.heap.size,4,none⟩=some (.int .i64 I):=Aft.cell b4;have s1:H.size<=16777216:=(by have:=HK.out.1.2;simp only at this;omega);have s2:C.size<=16777216:=(by have:=HK.out.1.2;simp only at this;omega);have s3:G.size<=16777216:=(by have:=HK.out.1.2;simp only at this;omega);clear b0 b1 b2 b3 b4 b5;go_wp2;refine Yy 12 (.cells #[.slice none 0 0,.string ⟨#[]⟩,.string ⟨#[]⟩,.string ⟨#[]⟩,.int .i64 0,.slice none 0 0] 32) _ (by kernel_rfl) rfl (by kernel_rfl) (λa w K h=>by go_simp;exact h) ?_
   repeat (refine YH (λK hK=> ?_);go_simp;first|(refine hK _ ?_;clear hK K)|(apply Ye;refine ⟨λ_=> ?_,hK _ ?_⟩;(go_at_call 81;exact ZP (U6 _ _ (by assumption)));clear hK K))
   refine YO ?_;intro g c hg gL;refine Yk rfl 32 (.tmp 5) (.tmp 39) rfl g _ rfl rfl _ _ gL ZA rfl YQ ?_;intro W3 gq fy _;have fc:Ext w1 W3:=fy w1 c.ext hg;have g0:W.heap.size<=g:=Zl gu.size hg;have g1:g<W3.heap.size:=(Ze.1 gq).1;obtain ⟨d0,d1,d2,d3,d4,d5⟩:=Zhk gq;clear gL fy a1 a2 a3 a4 s1 s2 s3;have fn:Hid (∀(v:Value) (wr:World),Ext (W3.setCell ⟨g,0,none⟩ v) wr->wr.cell? ⟨g,0,none⟩=some v/\wr.frozen? ⟨g,0,none⟩=false/\Ext W wr):=gd λv wr h=>
    ⟨h.cell (Qe _ _ _ d0),(XP h (by simp[World.setCell];exact g1)).trans (by rw[XG];exact ZH gq 0),(Ext.setCell (gu.trans fc) g0 _).trans h⟩
   have dv:=gd fc;have fW:=gd d0;have gj:=gd g1;have gx:=gd g0;have HD:Hid (W3.cell? ⟨g,1,none⟩=some (.string (collapse H))/\W3.cell? ⟨g,2,none⟩=some (.string (collapse C))/\W3.cell? ⟨g,3,none⟩=some (.string (collapse G))/\W3.cell? ⟨g,4,none⟩=some (.int .i64 I)/\W3.cell? ⟨g,5,none⟩=some (.slice none 0 0)):=gd ⟨d1,d2,d3,d4,d5⟩;have fi:=gd gq;obtain ⟨mb,fL⟩:∃mb,(collapse H).toList.isEmpty=mb:=⟨_,rfl⟩;have fZ:=gd fL;have ds:g≠w.heap.size:=(by have:=go.out;omega);have dt:g≠w.heap.size+1:=(by have:=go.out;omega);clear gq fc g1 g0;go_wp2;clear fL d0 d1 d2 d3 d4 d5;go_loopw [6,7] (λu i wr=>∃(k:Nat) (v:Value),k<=A.length/\i= .int .i64 k/\u= .bool (mb||(A.take k).any λp=>(collapse p).toList.isEmpty)/\wr.ownsRow W3.heap.size 9 1 v k ((A.take k).map λp=>Value.string (collapse p))/\Ext (W3.setCell ⟨g,0,none⟩ v) wr) (λ_ i _=>A.length - (intOf i).toNat)
   case atStart=>exact ⟨0,.slice none 0 0,Zt _,rfl,by simp,Yc _ _ _ _,by rw[Gc _ _ _ _ fW.out];exact Ext.refl _⟩
   case round=>
    obtain ⟨k,v,hk,rfl,rfl,R,hY⟩:=hrel;obtain ⟨fg,fU,h8⟩:=fn.out v wr hY;obtain ⟨b0,b1,b2,b3,b4,b5⟩:=hQ.out wr h8;by_cases hA:k<A.length;obtain ⟨ad,c1,e1,gY⟩:=HP.out.at hA;have hc:=(ht.trans h8).cell gY;injection e1 with e1 e1' e1'';subst e1;clear e1' e1'';obtain ⟨vA,vc,hv, -, -⟩:=(RSl.of_own R).2;subst hv;have fa:A[k].size<=16777216:=(by have h1:=Xp (ZO hA);have:=HK.out.1.2;simp only at this;omega);have hB:=Zy hA;obtain ⟨s,hs⟩:∃s,A[k]=s:=⟨_,rfl⟩;rw[hs] at gY hc fa hB;obtain ⟨S,hS⟩:∃S,collapse s=S:=⟨_,rfl⟩;have fm:=gd (λw':World=>U6 s w' fa);rw[hS] at fm;have fw:=gd hB;have ft:=gd R;have f4:=gd hY;have fH:(0:Int)<=(k:Int):=(by omega);have fI:(k:Int)<(A.length:Int):=(by omega);have fq:Hid (k+1<=maxLen):=gd (by unfold maxLen;omega);have fj:Hid ((k+1)*16<=140737488355328):=gd (by omega);have f7:W3.heap.size<=wr.heap.size:=(by have:=hY.size;simpa [World.setCell] using this);have g2:(A.take k).length=k:=(by rw[YR];omega);have fb:(A.take (k+1)).map (λp=>Value.string (collapse p))=(A.take k).map (λp=>Value.string (collapse p))++ [.string S]:=(by rw[hB,Yp,<-hS];rfl);have fE:((A.take (k+1)).map λp=>Value.string (collapse p))[k]? =some (.string S):=(by rw[fb,ZK (by rw[ZS,g2];exact Zd _),ZS,g2,Nat.sub_self];rfl);have gQ:Hid (∀(w5:World) (A5:Option Addr) (c5:Nat),w5.ownsRow W3.heap.size 9 1 (.slice A5 (k+1) c5) (k+1) ((A.take k).map (λp=>Value.string (collapse p))++ [.string S])->Ext (W3.setCell ⟨g,0,none⟩ (.slice vA k vc)) w5->
     w5.cell? ⟨g,0,none⟩=some (.slice vA k vc)/\w5.frozen? ⟨g,0,none⟩=false/\∃b5,A5=some b5/\(w5.setCell ⟨g,0,none⟩ (.slice (some b5) (k+1) c5)).cell? ⟨g,0,none⟩=some (.slice (some b5) (k+1) c5)/\(w5.setCell ⟨g,0,none⟩ (.slice (some b5) (k+1) c5)).cell? (b5.add k)=some (.string S)/\
     (w5.setCell ⟨g,0,none⟩ (.slice (some b5) (k+1) c5)).ownsRow W3.heap.size 9 1 (.slice (some b5) (k+1) c5) (k+1) ((A.take (k+1)).map λp=>Value.string (collapse p))/\Ext (W3.setCell ⟨g,0,none⟩ (.slice (some b5) (k+1) c5)) (w5.setCell ⟨g,0,none⟩ (.slice (some b5) (k+1) c5))):=gd λw5 A5 c5 J hM=>by
     rw[<-fb] at J
     have gD:=J.lt
     obtain ⟨p0,pf,dw⟩:=fn.out _ w5 hM
     obtain ⟨b5,gX,f9⟩:=RSl.at1 (RSl.of_own J) k _ fE
     subst gX
     have fQ:(⟨g,0,none⟩:Addr)≠b5.add k:=by
      intro e
      have e1:=Zo Addr.block e
      rw[QC] at e1
      have h1:=(gD b5.block rfl).1
      have h2:=gj.out
      simp only at e1
      omega
     exact ⟨p0,pf,b5,rfl,Qe w5 ⟨g,0,none⟩ (.slice (some b5) (k+1) c5) p0,(YL w5 ⟨g,0,none⟩ (b5.add k) (.slice (some b5) (k+1) c5) fQ).trans f9,ownsRow_setCell_below J (a:=⟨g,0,none⟩) gj.out (.slice (some b5) (k+1) c5),QT (v:= .slice (some b5) (k+1) c5) hM⟩
    have hI:(mb||(A.take (k+1)).any λp=>(collapse p).toList.isEmpty)=((mb||(A.take k).any λp=>(collapse p).toList.isEmpty)||S.toList.isEmpty):=(by rw[hB,List.any_append,<-hS];simp[Bool.or_assoc]);obtain ⟨M1,gV⟩:∃M1,(mb||(A.take (k+1)).any λp=>(collapse p).toList.isEmpty)=M1:=⟨_,rfl⟩;obtain ⟨M0,gU⟩:∃M0,(mb||(A.take k).any λp=>(collapse p).toList.isEmpty)=M0:=⟨_,rfl⟩;rw[gU] at hI;rw[gU];rw[gV] at hI;have fY:=gd gV;have dr:(k:Int)<(k:Int)+1:=(by omega);clear hs hB fa R b1 b2 b3 b4 b5 gY g2 fb fE gV gU hS fU hY;cases hem:S.toList.isEmpty;rw[hem,Bool.or_false] at hI
    rotate_left
    rw[hem,Bool.or_true] at hI
    rotate_left
    ·have dd:k=A.length:=(by omega);subst dd;have gb:A.take A.length=A:=ZC (Zd _);rw[gb] at R|-;have gs:=Za9 H A;rw[fZ.out] at gs;rw[gs];have U:headF ⟨A,H,C,G,I,D⟩=if collapse H=noS\/(A.any λp=>decide (collapse p=noS))=true then 19 else if 64<A.length then 9 else if inT I then 0 else 3:=(by unfold headF;rw[fo.out,Zf (by decide)])
     have gg:=h8.heap gF;have f2:=gd (ht.trans h8);clear gb gs;by_cases hC:collapse H=noS\/(A.any λp=>decide (collapse p=noS))=true
     focus
      have hh:=U
      rw[Zi hC] at hh
      rw[Yg hC]
      clear U hC
      obtain ⟨he,hn⟩:=QY hh (by decide)
      have hd:=hR.out.symm.trans he
      have hl:=hT.out.symm.trans hn
      subst hd hl
      clear he hn hh
      go_wp2_with (first|(refine Zg rfl 32 (.tmp 2) (.tmp 68) rfl (w.heap.size+1) _ rfl rfl _ _ gg ZA rfl YQ ?_))
     rotate_left
     rw[Zf hC] at U;rw[Ya hC];clear hC;by_cases gA:64<A.length
     focus
      have hh:=U
      rw[Zi gA] at hh
      have gK:(64:Int)<(A.length:Int):=(by omega)
      clear U gA
      obtain ⟨he,hn⟩:=QY hh (by decide)
      have hd:=hR.out.symm.trans he
      have hl:=hT.out.symm.trans hn
      subst hd hl
      clear he hn hh
      go_wp2_with (first|(refine Zg rfl 32 (.tmp 2) (.tmp 73) rfl (w.heap.size+1) _ rfl rfl _ _ gg ZA rfl YQ ?_))
     rotate_left
     rw[Zf gA] at U;have gK:¬(64:Int)<(A.length:Int):=(by omega);clear gA;cases hti:inT I;have hh:headF ⟨A,H,C,G,I,D⟩=3:=(by rw[U,hti];rfl);have g9:=Zdq hti;clear U hti;rcases g9 with g9|g9
     focus
      have df:¬253402300799<I:=(by omega)
      obtain ⟨he,hn⟩:=QY hh (by decide)
      have hd:=hR.out.symm.trans he
      have hl:=hT.out.symm.trans hn
      subst hd hl
      clear he hn hh
      go_wp2_with (first|(refine Zg rfl 32 (.tmp 2) (.tmp 82) rfl (w.heap.size+1) _ rfl rfl _ _ gg ZA rfl YQ ?_))
     rotate_left
     focus
      have df:¬I< -62135596800:=(by omega)
      obtain ⟨he,hn⟩:=QY hh (by decide)
      have hd:=hR.out.symm.trans he
      have hl:=hT.out.symm.trans hn
      subst hd hl
      clear he hn hh
      go_wp2_with (first|(refine Zg rfl 32 (.tmp 2) (.tmp 82) rfl (w.heap.size+1) _ rfl rfl _ _ gg ZA rfl YQ ?_))
     rotate_left
     ·have hh:headF ⟨A,H,C,G,I,D⟩=0:=(by rw[U,hti];rfl);obtain ⟨dh,di⟩:=ZeV hti;have HH:=gd hh;clear U hti hh;obtain ⟨vA,vc,hv, -, -⟩:=(RSl.of_own R).2;subst hv;have gN:=hY.size;have fF:g<wr.heap.size:=(by have h1:=gj.out;simp[World.setCell] at gN;omega);have gh:∀(i:Nat) (u:Value),i≠0->W3.cell? ⟨g,i,none⟩=some u->wr.cell? ⟨g,i,none⟩=some u:=λi u hi hu=>
       hY.cell ((YL W3 ⟨g,0,none⟩ ⟨g,i,none⟩ _ (by intro e;exact hi (Zo Addr.off e).symm)).trans hu)
      have fD:wr.frozen? ⟨g,5,none⟩=false:=(XP hY (by simp[World.setCell];exact gj.out)).trans (by rw[XG];exact ZH fi.out 5);have c5:=gh 5 _ (by decide) HD.out.2.2.2.2;have HC:=gd (Z9 fg (Z9 (gh 1 _ (by decide) HD.out.1) (Z9 (gh 2 _ (by decide) HD.out.2.1) (Z9 (gh 3 _ (by decide) HD.out.2.2.1) (gh 4 _ (by decide) HD.out.2.2.2.1)))));have gJ:=gd R;have fX:=gd fD;have fk:=gd c5;have gk:=gd fF;have f3:=gd h8;have fp:Hid (∀e∈D,eok e):=gd λe he=>HK.out.2.2 e he;have dy:D.length<=1000000:=HK.out.2.1;clear gh gN fD c5 R fg fU;obtain ⟨wP,dl⟩:∃wP:World,wP=wr:=⟨_,rfl⟩;subst dl;go_wp2;clear b0 b1 b2 b3 b4 b5 dh di gK fF h8 gg;go_loopw [8] (λi wr=>∃(j:Nat) (u:Value),j<=D.length/\i= .int .i64 j/\OEnts wr wP.heap.size u (ordE.canon ((D.take j).map collE))/\Hid (∀e∈D.take j,errE e=0)/\Ext (wP.setCell ⟨g,5,none⟩ u) wr) (λi _=>D.length - (intOf i).toNat)
      case atStart=>exact ⟨0,.slice none 0 0,Zt _,rfl,show OEnts _ _ _ (ordE.canon []) from OEnts.nil _ _,gd (by simp),by rw[Gc _ _ _ _ fk.out];exact Ext.refl _⟩
      case round=>
       obtain ⟨j,u,hj,rfl,R,h5,hP⟩:=hrel;have q5:=hP.cell (Qe _ _ _ fk.out);have hf:wr.frozen? ⟨g,5,none⟩=false:=(XP hP (by simp[World.setCell];exact gk.out)).trans (by rw[XG];exact fX.out);have hU:Ext W wr:=(Ext.setCell f3.out gx.out _).trans hP;obtain ⟨b0,b1,b2,b3,b4,b5⟩:=hQ.out wr hU;have hws:wP.heap.size<=wr.heap.size:=(by have:=hP.size;simpa [World.setCell] using this);obtain ⟨uA,uc,hu, -, -⟩:=R.reads.form;subst hu;have fG:g<wr.heap.size:=Z3 gk.out hws;by_cases hA:j<D.length
       ·obtain ⟨ad,c1,e1,fA⟩:=(f0.out.ext (ht.trans hU)).at hA;injection e1 with e1 e1' e1'';subst e1;clear e1' e1'';have hB:=Zy hA;have gr:=Kw D j hA h5.out;have gC:=fp.out _ (ZO hA);obtain ⟨e,fC⟩:∃e,D[j]=e:=⟨_,rfl⟩;rw[fC] at fA hB gr gC;have fJ:eokS e:=(by obtain ⟨_,h⟩:=gC;exact ⟨by omega,by omega,by omega,by omega⟩);have hm:=gd (λ(w':World) (h:Ext wr w')=>Zai e w' (hE.ext ((ht.trans hU).trans h)) fJ);have fw:=gd hB;have fh:=gd gr;have fH:(0:Int)<=(j:Int):=(by omega);have fI:(j:Int)<(D.length:Int):=(by omega);have fr:Hid (∀x∈ordE.canon ((D.take j).map collE),eok x):=gd λx hx=>(by obtain ⟨y,hy,rfl⟩:=Yq.1 (Kk hx);exact QR (fp.out y (Zhr hy)));have fM:(ordE.canon ((D.take j).map collE)).length<=1000000:=(by have h1:=IW ordE ((D.take j).map collE);rw[ZS,YR] at h1;omega);have gZ:ordE.put (ordE.canon ((D.take j).map collE)) (collE e)=ordE.canon ((D.take (j+1)).map collE):=(by rw[hB,Yp,Ord.canon_append];rfl);have hL:=QR gC;clear hB gr gC fJ fC;obtain ⟨a0,a1,a2,a3,a4⟩:=fA;obtain ⟨E,gT⟩:∃E,errE e=E:=⟨_,rfl⟩;rw[gT] at hm fh;have gH:=gd gT;obtain ⟨O,hO⟩:∃O,ordE.canon ((D.take j).map collE)=O:=⟨_,rfl⟩;rw[hO] at R gZ fM fr;simp only[hO] at b0 b1 b2 b3 b4 b5 q5|-;have fV:=gd gZ;clear hO gZ gT;obtain ⟨h7,Y,ha,Q,hp⟩:=e;dsimp only at a0 a1 a2 a3 a4;unfold eCells at hm;dsimp only at hm;by_cases gB:E=0
        ·subst gB;have fz:normE ⟨h7,Y,ha,Q,hp⟩=collE ⟨h7,Y,ha,Q,hp⟩:=(by unfold normE;rw[Zi gH.out]);rw[fz] at hm;have gi:=gd (λ(w':World) (h:Ext wr w')=>Zck (.slice uA O.length uc) O (collE ⟨h7,Y,ha,Q,hp⟩) w' ((OEnts.reads R).ext h) fr.out hL fM);unfold eCells at gi;unfold collE at hm gi;dsimp only at hm gi;obtain ⟨ni,g4⟩:∃ni,collapse h7=ni:=⟨_,rfl⟩;obtain ⟨nt,g6⟩:∃nt,collapse Y=nt:=⟨_,rfl⟩;obtain ⟨nl,g5⟩:∃nl,collapse ha=nl:=⟨_,rfl⟩;obtain ⟨nc,g3⟩:∃nc,collapse Q=nc:=⟨_,rfl⟩;rw[g4,g6,g5,g3] at hm gi;have gy:=gd (Z9 g4 (Z9 g6 (Z9 g5 g3)));clear g4 g6 g5 g3 fz R hL;have gz:=gd hP
         go_wp2_with (first|(go_at_call 84;(have hz:=hm.out wr (Ext.refl _));(with_reducible refine Za hz ?_);clear hz;rintro e w8 ⟨rfl,fe⟩;(have hX:=fe.alloc (.cells #[.string ni,.string nt,.string nl,.string nc,.int .i64 hp] 64));(have r5:=hX.cell q5))|(go_at_call 85;go_loud ((have hz:=gi.out _ hX);(with_reducible refine Za hz ?_);clear hz;rintro e wA ⟨u',rfl,gt,dm⟩;(obtain ⟨zA,zc,dq,_,_⟩:=gt.reads.form);subst dq;(have gw:=hX.trans dm);(have s5:=gw.cell q5);(have sf:=(XP gw (show g<wr.heap.size from fG)).trans hf))))
         go_roundw
         case rel=>
          have hn:collE ⟨h7,Y,ha,Q,hp⟩=⟨ni,nt,nl,nc,hp⟩:=(by unfold collE;rw[gy.out.1,gy.out.2.1,gy.out.2.2.1,gy.out.2.2.2]);have hc:=fV.out;rw[hn] at hc;refine ⟨j+1,_,hA,by go_num,?_,gd λx hx=> ?_,QT (gz.out.trans gw)⟩
          ·rw[<-hc];exact ownsRow_setCell_below (OEnts.mono gt (Zl hws hX.size)) (a:=⟨g,5,none⟩) gk.out _
          ·rw[fw.out] at hx;rcases ZZ.1 hx with hx|hx
           ·exact h5.out x hx
           ·rw[Z8.1 hx];exact gH.out
         case measure=>simp[intOf];omega
        ·have hb:((E:Int) !=0)=true:=(by simp;omega);have he:errF ⟨A,H,C,G,I,D⟩=E:=(by unfold errF;rw[HH.out,Zi rfl];exact fh.out gB);have hn:normF ⟨A,H,C,G,I,D⟩=zeroF:=(by unfold normF;rw[he,Zf gB]);have hd:=hR.out.symm.trans he;have hl:=hT.out.symm.trans hn;have gp:=gd hU;subst hd hl;clear he hn gB hU;have hZ:=gp.out.heap gF;obtain ⟨N,hN⟩:∃N,normE ⟨h7,Y,ha,Q,hp⟩=N:=⟨_,rfl⟩;rw[hN] at hm;clear hN;obtain ⟨ni,nt,nl,nc,nu⟩:=N;dsimp only at hm
         go_wp2_with (first|(go_at_call 84;(have hz:=hm.out wr (Ext.refl _));(with_reducible refine Za hz ?_);clear hz;rintro e w8 ⟨rfl,fe⟩;(have hX:=fe.alloc (.cells #[.string ni,.string nt,.string nl,.string nc,.int .i64 nu] 64));(have fS:=hX.heap hZ))|(refine Zg rfl 32 (.tmp 2) (.tmp 101) rfl (w.heap.size+1) _ rfl rfl _ _ fS ZA rfl YQ ?_))
         ((try simp only[Exit.inBlock,Exit.then]);refine Zm (ZW rfl _ _ _ _ _ _ _ rfl (Zk _ _ _ _ _ _ fS) underlying32 rfl ZA) rfl ?_);exact ⟨⟨.slice none 0 0,.slice none 0 0,zeroF⟩,rfl,rfl,⟨RSl.nil _ 1,RSl.nil _ 5⟩,λ_ _=>⟨Or.inl rfl,Or.inl rfl⟩,((ht.trans gp.out).trans hX).setRow (by omega) _⟩
       ·have dc:j=D.length:=(by omega);subst dc;have gb:D.take D.length=D:=ZC (Zd _);rw[gb] at R h5;simp only[gb] at q5 hP;have he:errF ⟨A,H,C,G,I,D⟩=0:=(by unfold errF;rw[HH.out,Zi rfl];exact Qn.2 h5.out);have hn:normF ⟨A,H,C,G,I,D⟩=collF ⟨A,H,C,G,I,D⟩:=(by unfold normF;rw[he,Zi rfl]);have hd:=hR.out.symm.trans he;have hl:=hT.out.symm.trans hn;have gp:=gd hU;have gz:=gd hP;have gm:=gd R;subst hd hl;clear he hn hU gb R;have hZ:=gp.out.heap gF;have cq:∀(i:Nat) (v:Value),i≠5->wP.cell? ⟨g,i,none⟩=some v->wr.cell? ⟨g,i,none⟩=some v:=λi v hi hv=>
         gz.out.cell ((YL wP ⟨g,5,none⟩ ⟨g,i,none⟩ _ (by intro e;exact hi (Zo Addr.off e).symm)).trans hv)
        have q0:=cq 0 _ (by decide) HC.out.1;have q1:=cq 1 _ (by decide) HC.out.2.1;have q2:=cq 2 _ (by decide) HC.out.2.2.1;have q3:=cq 3 _ (by decide) HC.out.2.2.2.1;have q4:=cq 4 _ (by decide) HC.out.2.2.2.2;obtain ⟨O,hO⟩:∃O,ordE.canon (D.map collE)=O:=⟨_,rfl⟩;rw[hO] at gm;simp only[hO] at q5;have HO:=gd hO;clear hO cq hP
        go_wp2_with (first|(refine Zg rfl 32 (.tmp 2) (.tmp 108) rfl (w.heap.size+1) _ rfl rfl _ _ hZ ZA rfl YQ ?_))
        ((try simp only[Exit.inBlock,Exit.then]);refine Zm (ZW rfl _ _ _ _ _ _ _ rfl (Zk _ _ _ _ _ _ hZ) underlying32 rfl ZA) rfl ?_);have gD:=gJ.out.lt;have fB:∀q,q<W3.heap.size->(A.map collapse).map Value.string= []\/(Value.slice vA A.length vc).ownBlock≠some q:=λq hq=>Or.inr λe=>(by have:=(gD q e).1;omega);have fO:RStrs wP (.slice vA A.length vc) (A.map collapse):=(by have h:=RSl.of_own gJ.out;unfold RStrs;rw[ZS,Vo];exact h);have db:=gj.out;have dk:w.heap.size+1<W3.heap.size:=(by have h1:=go.out;have h2:=gx.out;omega);have gM:=gm.out.lt;refine ⟨⟨.slice vA A.length vc,.slice uA O.length uc,⟨A.map collapse,collapse H,collapse C,collapse G,I,O⟩⟩,rfl,?_,⟨RSl.grown (RSl.ext (RSl.grown fO (V6 wP ⟨g,5,none⟩ _) (fB g db)) gz.out) (Yh wr (w.heap.size+1) _) (fB _ dk),RSl.grown gm.out.reads (Yh wr (w.heap.size+1) _) (Or.inr λe=>by have h1:=(gM _ e).1;have h2:=gk.out;have h3:=go.out;have h4:=gx.out;omega)⟩,λq hq=>⟨Or.inr λe=>by have:=(gD q e).1;omega,Or.inr λe=>by have h1:=(gM q e).1;have h2:=gk.out;have h4:=gx.out;have h3:=go.out;omega⟩,(ht.trans gp.out).setRow (by omega) _⟩;rw[<-HO.out];rfl
     all_goals
      ((try simp only[Exit.inBlock,Exit.then]);refine Zm (ZW rfl _ _ _ _ _ _ _ rfl (Zk _ _ _ _ _ _ gg) underlying32 rfl ZA) rfl ?_)
      exact ⟨⟨.slice none 0 0,.slice none 0 0,zeroF⟩,rfl,rfl,⟨RSl.nil _ 1,RSl.nil _ 5⟩,λ_ _=>⟨Or.inl rfl,Or.inl rfl⟩,f2.out.setRow (by omega) _⟩
    all_goals
     subst hI
     go_wp2
     refine rN ?_
     change wpAny _ _ _ _ _ _ _ (World.drew _)
     refine tH 0 (.pointer (some ⟨g,0,none⟩)) ?_
     refine tH 2 (.pointer (some ⟨w.heap.size,0,none⟩)) ?_
     refine tH 4 (.int .i64 k) ?_
     refine X8 (i:=1) (v:= .slice vA k vc) (λw'=>Ext wr w') 9 rfl (by kernel_rfl) (λ_ _ _ h=>h) (Or.inl ⟨by rfl,λw' hS=>by have hq:=Ext.cell hS fg;go_simp⟩) (Ext.refl wr).drew ?_
     refine GZ 9 [10,11] (AtIx.cons rfl (AtIx.cons rfl (AtIx.cons rfl AtIx.nil))) [3,5,6,7,8] _ _ _ _ (AtIx.cons rfl (AtIx.cons rfl (AtIx.cons rfl (AtIx.cons rfl (AtIx.cons rfl AtIx.nil))))) (by kernel_rfl) ?_
     have f5:=(Ext.refl wr).drew.cell b0
     have da:=(Ext.refl wr).drew.cell hc
     have hG:=(Ext.refl wr).drew
     refine Jo (λK hK=> ?_);go_simp;refine hK _ _ hG ?_;clear hK K
     refine Jo (λK hK=> ?_);go_simp;refine hK _ _ hG ?_;clear hK K
     refine Jo (λK hK=> ?_);go_simp;refine hK _ _ hG ?_;clear hK K
     refine Jo (λK hK=> ?_);go_simp;refine Za (fm.out wr.drew) ?_;rintro e w4 ⟨rfl,Z⟩;refine hK _ _ (hG.trans Z) ?_;clear hK K
     refine Jo (λK hK=> ?_);go_simp;refine hK _ _ ((hG.trans Z).alloc _) ?_;clear hK K
     refine ZbA ?_
     obtain ⟨c,f8⟩:∃c:Aft wr,c.w=w4:=⟨⟨w4,hG.trans Z⟩,rfl⟩
     subst f8
     have ho:=gd (Yw (Yw ft.out c.ext) ((Ext.refl c.w).alloc (.cells #[.string S] 9)))
     have ff:=gd (f4.out.trans (c.ext.trans ((Ext.refl c.w).alloc (.cells #[.string S] 9))))
     have dx:W3.heap.size<=c.w.heap.size:=Zl f7 c.ext.size
     clear f5 da hG Z
     go_wp2_with (first|(at_builtin;go_loud (refine Zq _ rfl (.tmp 51) (.tmp 58) _ rfl W3.heap.size 9 i0 _ 1 16 underlying29 ga gc ge gf rfl (by decide) _ k _ rfl ho.out _ 1 [.string S] rfl (ZY rfl (by decide)) (UU [S]) fq.out fj.out ?_ ?_;(rw[Zp];omega);intro v5 w5 J hV h0;(obtain ⟨A5,c5,dj, -, -⟩:=(RSl.of_own J).2);subst dj;(have fR:=Ext.app ff.out hV ho.out (by simp[World.setCell]));(obtain ⟨p0,pf,b5,gX,q0,q1,fN,fd⟩:=gQ.out w5 A5 c5 J fR);subst gX)))
     go_roundw
     case rel=>exact ⟨k+1,_,hA,by go_num,by rw[fY.out],fN,fd⟩
     case measure=>simp[intOf];omega
  ·have hb:((EC:Int) !=0)=true:=(by simp;omega);have hh:headF ⟨A,H,C,G,I,D⟩=EC:=(by unfold headF;rw[fo.out,Zi hL]);have he:errF ⟨A,H,C,G,I,D⟩=EC:=(by unfold errF;rw[hh,Zf hL]);have hn:normF ⟨A,H,C,G,I,D⟩=zeroF:=(by unfold normF;rw[he,Zf hL]);have hd:=hR.out.symm.trans he;have hl:=hT.out.symm.trans hn;subst hd hl;clear hh he hn hL
   go_wp2_with (first|(refine Zg rfl 32 (.tmp 2) (.tmp 26) rfl (w.heap.size+1) _ rfl rfl _ _ hZ ZA rfl YQ ?_))
   ((try simp only[Exit.inBlock,Exit.then]);refine Zm (ZW rfl _ _ _ _ _ _ _ rfl (Zk _ _ _ _ _ _ hZ) underlying32 rfl ZA) rfl ?_);exact ⟨⟨.slice none 0 0,.slice none 0 0,zeroF⟩,rfl,rfl,⟨RSl.nil _ 1,RSl.nil _ 5⟩,λ_ _=>⟨Or.inl rfl,Or.inl rfl⟩,f1.out.setRow (by omega) _⟩
 ·have fO:=(hQ.out W (Ext.refl W)).1;have dz:=(hQ.out W (Ext.refl W)).2.1;have dA:=(hQ.out W (Ext.refl W)).2.2.1;have dB:=(hQ.out W (Ext.refl W)).2.2.2.1;have dC:=HP.out.ext ht;have dE:Ext W W:=Ext.refl W
  go_region_held3 (λw'=>Ext W w'/\w'.cell? ⟨w.heap.size,0,none⟩=some (.slice xA A.length xc)/\w'.cell? ⟨w.heap.size,1,none⟩=some (.string H)/\w'.cell? ⟨w.heap.size,2,none⟩=some (.string C)/\w'.cell? ⟨w.heap.size,3,none⟩=some (.string G))
   ((go_split_ands;refine ⟨?_,?_,?_,?_,?_⟩<;>first|assumption|((repeat (first|exact Ext.refl _|assumption|apply Ext.drew|apply Ext.alloc));done)|((refine Ext.trans ?_ (by assumption));(repeat (first|exact Ext.refl _|assumption|apply Ext.drew|apply Ext.alloc));done)|((refine Ext.cell (by assumption) ?_);first|assumption|(go_keep;done))|(go_keep;done)))
   (first|((have ho:=gd (JC (w:=W.drew) (base:=W.heap.size) (e:=9) (size:=1) (n:=0) (cs:= []) (Zd _) rfl (by decide)));refine Z5 _ (by rfl) (.tmp 11) (.tmp 13) _ (by rfl) W.heap.size 9 i0 _ 1 16 underlying29 ga gc ge gf rfl (by decide) _ 0 [] (by rfl) ho.out (.slice xA A.length xc) A.length (A.map Value.string) (by rfl) (HP.out.ext (ht.trans ((Ext.refl W).drew.alloc _))) (UU _) gP.out gO.out ((show W.heap.size<=_ from ((Ext.refl W).drew.alloc _).size)) ?_;intro v4 w4 X hw hJ;(have Z:Ext W w4:=Ext.app ((Ext.refl W).drew.alloc _) hw ho.out (Zd _));(have hD:=gd X);(have h6:=gd Z);clear X hw hJ;(have gE:=Z))|((have ho:=gd (Yw (JC (w:=W.drew) (base:=W.heap.size) (e:=9) (size:=1) (n:=0) (cs:= []) (Zd _) rfl (by decide)) ((Ext.refl _).alloc (.cells #[.string H,.string C,.string G] 9))));refine Z5 _ (by rfl) (.tmp 11) (.tmp 13) _ (by rfl) W.heap.size 9 i0 _ 1 16 underlying29 ga gc ge gf rfl (by decide) _ 0 [] (by rfl) ho.out (.slice xA A.length xc) A.length (A.map Value.string) (by rfl) (HP.out.ext (ht.trans (((Ext.refl W).drew.alloc _).alloc _))) (UU _) gP.out gO.out ((show W.heap.size<=_ from (((Ext.refl W).drew.alloc _).alloc _).size)) ?_;intro v4 w4 X hw hJ;(have Z:Ext W w4:=Ext.app (((Ext.refl W).drew.alloc _).alloc _) hw ho.out (Zd _));(have fv:Hid (RSl w4 1 (.slice (some ⟨W.heap.size+1,0,none⟩) 3 3) 3 [.string H,.string C,.string G]):=gd (RSl.grown (Zhe W H C G) hw (Or.inr (by intro e;injection e with e;exact absurd e (by show W.heap.size+1≠W.heap.size;omega)))));(have hD:=gd X);(have h6:=gd Z);clear X hw hJ;(have gE:=Z))|((have ho:=gd (Zfr W (a:=H) (b:=C) (c:=G)));refine Z5 _ (by rfl) (.tmp 11) (.tmp 13) _ (by rfl) W.heap.size 9 i0 _ 1 16 underlying29 ga gc ge gf rfl (by decide) _ 0 [] (by rfl) ho.out (.slice xA A.length xc) A.length (A.map Value.string) (by rfl) (HP.out.ext (ht.trans (((Ext.refl W).drew.alloc _).alloc _))) (UU _) gP.out gO.out ((show W.heap.size<=_ from (((Ext.refl W).drew.alloc _).alloc _).size)) ?_;intro v4 w4 X hw hJ;(have Z:Ext W w4:=Ext.app (((Ext.refl W).drew.alloc _).alloc _) hw ho.out (Zd _));(have fv:Hid (RSl w4 1 (.slice (some ⟨W.heap.size,0,none⟩) 3 3) 3 [.string H,.string C,.string G]):=gd (RSl.grown (Zhf W H C G) hw (Or.inr (by intro e;injection e with e;exact absurd e (by show W.heap.size≠W.heap.size+1;omega)))));(have hD:=gd X);(have h6:=gd Z);clear X hw hJ;(have gE:=Z))|((have hH:=gd (Yw hD.out ((Ext.refl w4).alloc (.cells #[.string H,.string C,.string G] 9))));refine Z5 _ (by rfl) (.tmp 14) (.tmp 21) _ (by rfl) W.heap.size 9 i0 _ 1 16 underlying29 ga gc ge gf rfl (by decide) _ (0+A.length) _ (by rfl) hH.out _ 3 [.string H,.string C,.string G] (by rfl) (ZY (w:=w4) (size:=1) (n:=3) (e:=9) (cs:= [.string H,.string C,.string G]) rfl (by decide)) (UU [H,C,G]) gI.out gG.out ((h6.out.alloc _).size) ?_;intro v5 w5 J hV h0;(have hM:Ext W w5:=Ext.app (h6.out.alloc _) hV hH.out (Zd _));(have gn:=gd J);(have fx:=gd hM);clear J hV h0 Z gE;(have ff:=hM))|((have hH:=gd (hD.out));refine Z5 _ (by rfl) (.tmp 14) (.tmp 21) _ (by rfl) W.heap.size 9 i0 _ 1 16 underlying29 ga gc ge gf rfl (by decide) _ (0+A.length) _ (by rfl) hH.out _ 3 [.string H,.string C,.string G] (by rfl) (fv.out) (UU [H,C,G]) gI.out gG.out (h6.out.size) ?_;intro v5 w5 J hV h0;(have hM:Ext W w5:=Ext.app (h6.out) hV hH.out (Zd _));(have gn:=gd J);(have fx:=gd hM);clear J hV h0 Z gE;(have ff:=hM))|(go_at_call 83;(have hz:=fl.out w5 v5 (ZbO gn.out));(with_reducible refine Za hz ?_);clear hz;rintro e w6 ⟨rfl,fd⟩;(have hG:=fx.out.trans fd)))
  all_goals exact ⟨hG,_,_,_,_,rfl⟩
end
theorem Uv {t l:List UInt8}:t.isPrefixOf l=true↔l.take t.length=t:=by
 rw[List.isPrefixOf_iff_prefix];exact ⟨λh=>(List.prefix_iff_eq_take.1 h).symm,λh=>List.prefix_iff_eq_take.2 h.symm⟩
theorem ZbP {s t:List UInt8} {k:Nat} (h:s.length<k+t.length) (A:t≠ []):hasAt s k t=false:=by
 unfold hasAt;cases hp:t.isPrefixOf (s.drop k) with
 |false=>rfl
 |true=>have j:=Zo List.length (Uv.1 hp);have C:0<t.length:=ZbB.2 A;rw[YR,ZL] at j;omega
theorem ZeO (s t:List UInt8) (k:Nat):hasAt s k t=((s.drop k).take t.length==t):=by
 unfold hasAt;cases hp:t.isPrefixOf (s.drop k) with
 |true=>rw[Uv.1 hp];simp
 |false=>
  have:(s.drop k).take t.length≠t:=λe=>by rw[Uv.2 e] at hp;cases hp
  simp[this]
def keeps (t:Tok):Prop:=t.kind≠3\/t.text≠ []
instance (t:Tok):Decidable (keeps t):=inferInstanceAs (Decidable (_\/_))
theorem ZcI {l:List UInt8} (r:List UInt8) (h:(dec l).2≠0):dec (l++r)=dec l/\scalar (dec l).1/\(encN (dec l).1).length=(dec l).2:=by
 have D:=Eg (l:=l) (r:=(dec l).1) (m:=(dec l).2) rfl h;have G:=Gk l;have j:(encN (dec l).1).length=(dec l).2:=by have:=Zo List.length D;rw[Zj,ZL] at this;omega
 have A:scalar (dec l).1:=by
  unfold scalar;rcases YG 1114111 (dec l).1 with C|C
  ·have:encN (dec l).1= []:=(by unfold encN;rw[Zi (Or.inl C)]);rw[this] at j;exact absurd j.symm h
  ·by_cases F:55296<=(dec l).1/\(dec l).1<=57343
   ·have:encN (dec l).1= []:=(by unfold encN;rw[Zi (Or.inr F)]);rw[this] at j;exact absurd j.symm h
   ·omega
 refine ⟨?_,A,j⟩
 calc dec (l++r)=dec (encN (dec l).1++(l.drop (dec l).2++r)):=by rw[<-Yl,<-D]
  _=((dec l).1,(encN (dec l).1).length):=G5 A _
  _=dec l:=by rw[j]
end Go.Proofs.YthlnaldahkgjnaaGreatDoor
