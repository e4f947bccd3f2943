/- Parts of the proof: contracts and plain laws. -/
import Derived.Test.YthlnaldahkgjnaaGreatDoorZ20
namespace Go.Proofs.YthlnaldahkgjnaaGreatDoor
open Go Go.RowKit _root_.Go.Proofs.Tryz
set_option linter.unusedVariables false
set_option linter.unusedSimpArgs false
set_option maxRecDepth 100000
set_option maxHeartbeats 16000000
section
set_option linter.unusedSimpArgs false
theorem Zgw {key:ByteArray} {k:Int} {b:Bool} {x:Int} {s:ByteArray} {A:Option Addr} {m c:Nat} {B:Option Addr} {p q:Nat} {a z:Int}:∀u∈([.string key,.int .i64 k,.bool b,.int .i64 x,.string s,.slice A m c,.slice B p q,.int .i64 a,.int .i64 z]:List Value),u.oneCell'=true:=by
 intro u h;simp only[ZG,List.not_mem_nil,YK] at h;rcases h with rfl|rfl|rfl|rfl|rfl|rfl|rfl|rfl|rfl<;>rfl
theorem Zfq {k:Int} {b:Bool} {x:Int} {s:ByteArray} {A:Option Addr} {m c:Nat} {B:Option Addr} {p q:Nat} {a:Int}:∀u∈([.int .i64 k,.bool b,.int .i64 x,.string s,.slice A m c,.slice B p q,.int .i64 a]:List Value),u.oneCell'=true:=by
 intro u h;simp only[ZG,List.not_mem_nil,YK] at h;rcases h with rfl|rfl|rfl|rfl|rfl|rfl|rfl<;>rfl
theorem Ze8 (x:Fc) (w:World) (hE:Env w) (hr:RdC w x) (hk:fokS x.f) (hi:okJ x.f=true):
 Calls prog 18 #[.agg (cellsC x).toArray] w λe w'=>∃cs,e= .returned (.tuple #[.agg cs.toArray,.int .i64 0])/\RV w' (encJ x.f) cs/\Ext w w':=by
 have h0:okF x.f=true/\x.f.path= []:=by unfold okJ at hi;simpa using hi
 obtain ⟨Y,hV⟩:=h0;have hj:=gd (λ(w':World) (h:Ext w w')=>Za3 x w' (hE.ext h) (hr.ext h) hk);rw[Zi Y] at hj;have gA:inT x.f.upd=true:=(Um.1 (Ul.1 Y).1).2.2.2.1;have gz:∀e∈x.f.ents,inT e.upd=true:=λe he=>(ZcQ.1 ((ZcR.1 (Ul.1 Y).2).1 e he)).2.2;have gq:=hk.2.1;have gy:=hr.2;clear Y hi hk;obtain ⟨xp,fh,⟨fa,V,A,C,G,j⟩⟩:=x;obtain ⟨gB,hh⟩:=hr;dsimp only at*;subst hV;obtain ⟨xA,xc,rfl, -, -⟩:=gB.form;obtain ⟨xB,xd,rfl, -, -⟩:=hh.form;unfold cellsC fCells at hj|-;dsimp only[ZF] at hj|-;obtain ⟨i0,g0,g5,g6,g7⟩:=Jh;obtain ⟨i9,g1,g8,g3,gZ⟩:=GL;obtain ⟨W0,hp⟩:∃W0,(w.alloc (.cells #[.slice xA 0 xc,.string V,.string A,.string C,.int .i64 G,.slice xB j.length xd] 32)).alloc (.cells #[.int .i64 0,.bool false,.int .i64 0,.string ⟨#[]⟩,.slice none 0 0,.slice none 0 0,.int .i64 0] 25)=W0:=⟨_,rfl⟩;have hG:Ext w W0:=by rw[<-hp];exact ((Ext.refl w).alloc _).alloc _
 have gx:W0.heap[w.heap.size+1]? =some (.cells #[.int .i64 0,.bool false,.int .i64 0,.string ⟨#[]⟩,.slice none 0 0,.slice none 0 0,.int .i64 0] 25 (0,0)):=by
  rw[<-hp];have:=Zh (w.alloc (.cells #[.slice xA 0 xc,.string V,.string A,.string C,.int .i64 G,.slice xB j.length xd] 32)) (.cells #[.int .i64 0,.bool false,.int .i64 0,.string ⟨#[]⟩,.slice none 0 0,.slice none 0 0,.int .i64 0] 25)
  rwa [Zp] at this
 have R:∀i v,(#[.slice xA 0 xc,.string V,.string A,.string C,.int .i64 G,.slice xB j.length xd]:Array Value)[i]? =some v->W0.cell? ⟨w.heap.size,i,none⟩=some v:=λi v h=>by rw[<-hp];exact ((Ext.refl (w.alloc _)).alloc _).boxed i v h
 have c0:=R 0 _ rfl;have c1:=R 1 _ rfl;have c2:=R 2 _ rfl;have c3:=R 3 _ rfl;have c4:=R 4 _ rfl;have c5:=R 5 _ rfl;have hA:W0.heap.size=w.heap.size+2:=by rw[<-hp,Zp,Zp]
 have h8:=gd (λ(w':World) (h:Ext w w')=>KB G w' (hE.ext h) gA);have gH:=gd (λ(w':World) (h:Ext w w') (t:Int) (ht:inT t=true)=>KB t w' (hE.ext h) ht);have gT:=gd gz;have gc:=gd gq;have gQ:=gd (λ(w':World) (h:Ext w w')=>gy.ext h);have hf:=gd hG;have gi:=gd gx;obtain ⟨F,hF⟩:∃F,F=str (fmtL G):=⟨_,rfl⟩;rw[<-hF] at h8;have hI:=gd (λ(w':World)=>E9 ⟨[],V,A,C,G,j⟩ F hF w');dsimp only at hI;have HB:=gd R;have hn:=gd hA;clear hG gx gB hh hE R gA gz gq gy hF hA;go_enter func18,ntmps18
 go_wp2_with (first|(go_at_call 48;(have D:=hj.out W0 hf.out);(with_reducible refine Za D ?_);clear D;rintro e w2 ⟨rfl,hw⟩;(have d0:=hw.cell c0);(have d5:=hw.cell c5);(have gW:=gd hw)))
 clear d0 d5 hw;go_loopw [4,25] (λv i wr=>∃(k:Nat) (css:List (List Value)),k<=j.length/\i= .int .i64 k/\Hid (EncO wr (j.take k) css)/\Hid (wr.ownsRow (w.heap.size+2) 25 7 v k css.flatten)/\Hid (Ext W0 wr)) (λ_ i _=>j.length - (intOf i).toNat)
 case atStart=>exact ⟨0,[],Zt _,rfl,gd (EncO.nil _),gd (Yc _ _ _ _),gW⟩
 case round=>
  obtain ⟨k,css,fg,rfl,S,hD,hx⟩:=hrel;have hB:=gc.out;by_cases hq:k<j.length
  ·obtain ⟨ad,c',hv,go⟩:=(gQ.out wr (hf.out.trans hx.out)).at hq;injection hv with hv1 hv2 hv3;subst hv1;clear hv2 hv3;have hs:=gT.out _ (ZO hq);have hW:j.take (k+1)=j.take k++ [j[k]]:=Zy hq;obtain ⟨E,gm⟩:∃E,j[k]=E:=⟨_,rfl⟩;rw[gm] at go hs hW;obtain ⟨ho,H,O,K,J⟩:=E;obtain ⟨a0,a1,a2,a3,a4⟩:=go;dsimp only at a0 a1 a2 a3 a4 hs;obtain ⟨F1,hO⟩:∃F1,F1=str (fmtL J):=⟨_,rfl⟩;have h9:=gd (λ(w':World)=>Za7 ⟨ho,H,O,K,J⟩ F1 hO w');dsimp only at h9;have h7:=gd (λ(w':World) (h:Ext w w')=>gH.out w' h J hs);rw[<-hO] at h7;have gU:=gd hW;have fd:(0:Int)<=(k:Int):=(by omega);have ff:(k:Int)<(j.length:Int):=(by omega);have hX:wrap64 ((k:Int)+1)=(k:Int)+1:=Xn _ ⟨by omega,by omega⟩;have gF:Hid ((k+1)*96<=140737488355328):=gd (by omega);have gK:Hid (k+1<=maxLen):=gd (by unfold maxLen;omega);have gV:Hid (Value.int .i64 (wrap64 ((k:Int)+1))=Value.int .i64 ((k+1:Nat):Int)):=gd (by rw[hX];rfl);have gL:Hid (j.length - (intOf (Value.int .i64 (wrap64 ((k:Int)+1)))).toNat<j.length - (intOf (Value.int .i64 (k:Int))).toNat):=gd (by rw[hX];simp only[intOf];omega);clear gm hs hW hO hB hX c0 c1 c2 c3 c4 c5;obtain ⟨W1,gn⟩:∃W1,wr.alloc (.cells #[.string ho,.string H,.string O,.string K,.int .i64 J] 64)=W1:=⟨_,rfl⟩;have hh:Ext wr W1:=(by rw[<-gn];exact (Ext.refl wr).alloc _);have hb:∀i v,(#[.string ho,.string H,.string O,.string K,.int .i64 J]:Array Value)[i]? =some v->W1.cell? ⟨wr.heap.size,i,none⟩=some v:=λi v h=>(by rw[<-gn];exact (Ext.refl (wr.alloc _)).boxed i v h);have b0:=hb 0 _ rfl;have b1:=hb 1 _ rfl;have b2:=hb 2 _ rfl;have b3:=hb 3 _ rfl;have b4:=hb 4 _ rfl;have hJ:=gd hh;clear hh hb
   go_wp2_with (first|(at_builtin;refine Zq _ rfl (.tmp 35) (.tmp 48) _ rfl (w.heap.size+2) 25 i0 _ 7 96 underlying22 g0 g5 g6 g7 rfl (by decide) _ k css.flatten rfl X.out _ 1 [.int .i64 5,.bool false,.int .i64 0,.string ⟨#[]⟩,.slice none 0 0,.slice A4 n4 Q,.int .i64 0] rfl gs Zfq gK.out gF.out gS.out ?_;intro v9 w9 hU hQ fc)|(go_at_call 50;(have D:=Zbc (entM ⟨ho,H,O,K,J⟩) v3 w3 (RSl.of_own gM.out) (Zl (Zez _) (by decide)));(refine Za D ?_);clear D;rintro e w4 ⟨A4,n4,Q,rfl,gu,g4⟩;(have hY:=((U.trans gC).trans g4).alloc (.cells #[.int .i64 5,.bool false,.int .i64 0,.string ⟨#[]⟩,.slice none 0 0,.slice A4 n4 Q,.int .i64 0] 25));(have gs:RSl (w4.alloc (.cells #[.int .i64 5,.bool false,.int .i64 0,.string ⟨#[]⟩,.slice none 0 0,.slice A4 n4 Q,.int .i64 0] 25)) 7 (.slice (some ⟨w4.heap.size,0,none⟩) 1 1) 1 [.int .i64 5,.bool false,.int .i64 0,.string ⟨#[]⟩,.slice none 0 0,.slice A4 n4 Q,.int .i64 0]:=ZY (w:=w4) (n:=1) (cs:= [.int .i64 5,.bool false,.int .i64 0,.string ⟨#[]⟩,.slice none 0 0,.slice A4 n4 Q,.int .i64 0]) rfl (by decide));(have X:=gd (Yw hD.out (hJ.out.trans hY)));(have hK:=gd (hJ.out.trans hY));(have gN:=gd (Yw gu ((Ext.refl w4).alloc (.cells #[.int .i64 5,.bool false,.int .i64 0,.string ⟨#[]⟩,.slice none 0 0,.slice A4 n4 Q,.int .i64 0] 25))));(have gS:=gd (Zl (Nat.le_of_eq hn.out.symm) (hx.out.trans hK.out).size));clear gu hY)|(go_at_call 51;(have D:=h9.out g9);(refine Za D ?_);clear D;rintro e w3 ⟨v3,rfl,gt,gC⟩;(have gM:=gd gt);clear gt)|(go_at_call 49;(have D:=h7.out W1 ((hf.out.trans hx.out).trans hJ.out));(with_reducible refine Za D ?_);clear D;rintro e g9 ⟨rfl,U⟩;(have f0:=U.cell b0);(have f1:=U.cell b1);(have f2:=U.cell b2);(have f3:=U.cell b3)))
   have gY:Hid (Ext W0 w9):=gd ((hx.out.trans hK.out).app hQ X.out (Nat.le_of_eq hn.out));have gh:Hid (w9.ownsRow (w.heap.size+2) 25 7 v9 (k+1) (css++ [ocells (.slice A4 n4 Q) 0]).flatten):=gd (by rw[J8];simpa [ocells] using hU);have gG:Hid (EncO w9 (j.take (k+1)) (css++ [ocells (.slice A4 n4 Q) 0])):=gd (by
    rw[gU.out];exact ((S.out.ext hK.out).app X.out hQ).snoc (Gw gN.out X.out (by decide) hQ))
   go_roundw
   case rel=>exact ⟨k+1,_,hq,gV.out,gG,gh,gY⟩
   case measure=>exact gL.out
  ·have g2:k=j.length:=(by omega);subst g2;rw[List.take_length] at S;have hd:=hx.out;have d1:=hd.cell c1;have d2:=hd.cell c2;have d3:=hd.cell c3;have d4:=hd.cell c4;have gp:=hd.heap gi.out;have fe:=gd gp;have h5:=ZbN ⟨[],V,A,C,G,j⟩;obtain ⟨L,hL⟩:∃L,feedM ⟨[],V,A,C,G,j⟩=L:=⟨_,rfl⟩;rw[hL] at h5;have HL:=gd hL;have ga:Hid (∀w':World,Calls prog 51 #[.slice (some ⟨w'.heap.size,0,none⟩) 10 10] (w'.alloc (.cells #[.string ⟨#[118,101,114,115,105,111,110]⟩,.string ⟨#[104,116,116,112,115,58,47,47,106,115,111,110,102,101,101,100,46,111,114,103,47,118,101,114,115,105,111,110,47,49,46,49]⟩,.string ⟨#[116,105,116,108,101]⟩,.string A,.string ⟨#[104,111,109,101,95,112,97,103,101,95,117,114,108,63]⟩,.string C,.string ⟨#[102,101,101,100,95,117,114,108]⟩,.string V,.string ⟨#[95,117,112,100,97,116,101,100]⟩,.string F] 9))
    λr w2=>∃v',r= .returned v'/\w2.ownsRow w'.heap.size 56 9 v' L.length (L.map cellM).flatten/\Ext w' w2):=gd (λw'=>by have h:=hI.out w';rw[HL.out] at h;exact h)
   have gb:Hid (L.length+1<=maxLen):=gd (by unfold maxLen;omega);have h4:Hid ((L.length+1)*120<=140737488355328):=gd (by omega);have gJ:=gd h5;have gr:=gc;have gg:Hid (∀(A7:Option Addr) (m7 c7:Nat),∀u∈(L.map cellM).flatten++ [.string nItems,.int .i64 4,.bool false,.int .i64 0,.string ⟨#[]⟩,.slice A7 m7 c7,.slice none 0 0,.int .i64 0,.int .i64 0],u.oneCell'=true):=gd (λA7 m7 c7 u hu=>by
    rcases ZZ.1 hu with hu|hu
    ·exact QV (λc hc=>by
      obtain ⟨m,hm,rfl⟩:=Yq.1 hc;exact Gg m) u hu
    ·exact Zgw u hu)
   clear hd gp hL h5 c0 c1 c2 c3 c4 c5 hI hB
   go_wp2_with (first|(refine Zg rfl 25 (.tmp 2) (.tmp 72) rfl (w.heap.size+1) #[.int .i64 5,.bool false,.int .i64 0,.string ⟨#[]⟩,.slice none 0 0,.slice A9 m9 c9,.int .i64 0] rfl rfl _ _ hR Yv rfl (ZcB Zfq) ?_)|(go_at_call 50;(have D:=Zbb (L.length+1) _ v8 w8 (RSl.of_own gf.out) (gg.out A7 m7 c7) (Zl (Nat.succ_le_succ gJ.out) (by decide)));(refine Za D ?_);clear D;rintro e w9 ⟨A9,m9,c9,rfl,gw,hy⟩;(have hR:=hy.heap gI.out);(have gX:=gd (hM.out.trans hy));(have gP:=gd gw);clear gw)|(at_builtin;refine Zq _ rfl (.tmp 66) (.tmp 70) _ rfl wa.heap.size 56 i9 _ 9 120 underlying23 g1 g8 g3 gZ rfl (by decide) _ L.length (L.map cellM).flatten rfl hl.out _ 1 [.string nItems,.int .i64 4,.bool false,.int .i64 0,.string ⟨#[]⟩,.slice A7 m7 c7,.slice none 0 0,.int .i64 0,.int .i64 0] rfl hS Zgw gb.out h4.out gk.out ?_;intro v8 w8 hg hP fb;(have hM:Hid (Ext W0 w8):=gd (hx.out.trans ((I.trans hN.out).app hP hl.out I.size)));(have gI:Hid (w8.heap[w.heap.size+1]? =some (.cells #[.int .i64 0,.bool false,.int .i64 0,.string ⟨#[]⟩,.slice none 0 0,.slice none 0 0,.int .i64 0] 25 (0,0))):=gd (hM.out.heap gi.out));(have gf:=gd hg);(have ge:=gd (Gw gO.out hl.out (by decide) hP));(have h6:=gd (S.out.ext ((I.trans hN.out).app hP hl.out I.size)));clear hg)|(go_at_call 52;(have D:=Za6 nItems _ 4 false 0 ⟨#[]⟩ A7 m7 c7 none 0 0 0 w7 gj.out);(refine Za D ?_);clear D;rintro e h3 ⟨rfl,hH⟩;(have hZ:=(gD.trans hH).alloc (.cells #[.string nItems,.int .i64 4,.bool false,.int .i64 0,.string ⟨#[]⟩,.slice A7 m7 c7,.slice none 0 0,.int .i64 0,.int .i64 0] 56));(have hS:RSl (h3.alloc (.cells #[.string nItems,.int .i64 4,.bool false,.int .i64 0,.string ⟨#[]⟩,.slice A7 m7 c7,.slice none 0 0,.int .i64 0,.int .i64 0] 56)) 9 (.slice (some ⟨h3.heap.size,0,none⟩) 1 1) 1 [.string nItems,.int .i64 4,.bool false,.int .i64 0,.string ⟨#[]⟩,.slice A7 m7 c7,.slice none 0 0,.int .i64 0,.int .i64 0]:=ZY (w:=h3) (n:=1) (cs:= [.string nItems,.int .i64 4,.bool false,.int .i64 0,.string ⟨#[]⟩,.slice A7 m7 c7,.slice none 0 0,.int .i64 0,.int .i64 0]) rfl (by decide));(have hN:=gd (Z.trans hZ));(have hl:=gd (Yw hC hZ));(have gO:=gd (Yw hT (hH.alloc (.cells #[.string nItems,.int .i64 4,.bool false,.int .i64 0,.string ⟨#[]⟩,.slice A7 m7 c7,.slice none 0 0,.int .i64 0,.int .i64 0] 56))));(have gk:=gd hN.out.size);clear hZ hT hC)|(go_at_call 53;(have D:=ZbE j.length css.flatten _ gE (RSl.of_own (Yw hD.out (I.trans Z))) S.out.one gr.out);(refine Za D ?_);clear D;rintro e w7 ⟨A7,m7,c7,rfl,hT,gD⟩;(have gj:=gd ((S.out.ext ((I.trans Z).trans gD)).arr (RSl.of_own hT))))|(go_at_call 51;(have D:=ga.out wa);(refine Za D ?_);clear D;rintro e gE ⟨v11,rfl,hC,Z⟩)|(go_at_call 49;(have D:=h8.out wr (hf.out.trans hx.out));(with_reducible refine Za D ?_);clear D;rintro e wa ⟨rfl,I⟩;(have f1:=I.cell d1);(have f2:=I.cell d2);(have f3:=I.cell d3)))
   ((try simp only[Exit.inBlock,Exit.then]);refine Zm (ZW rfl _ _ _ _ #[.int .i64 5,.bool false,.int .i64 0,.string ⟨#[]⟩,.slice none 0 0,.slice A9 m9 c9,.int .i64 0] _ _ rfl (Zk _ _ _ _ _ _ hR) underlying25 rfl Yv) rfl ?_);have HS:w.heap.size+1<w8.heap.size:=(by have h1:=hM.out.size;have h2:=hn.out;omega);have gR:w.heap.size+1<gE.heap.size:=(by have h1:=(hx.out.trans (I.trans Z)).size;have h2:=hn.out;omega);have hm:=X7 gP.out HS #[.int .i64 5,.bool false,.int .i64 0,.string ⟨#[]⟩,.slice none 0 0,.slice A9 m9 c9,.int .i64 0];have ha:=X7 (Yw ge.out hy) gR #[.int .i64 5,.bool false,.int .i64 0,.string ⟨#[]⟩,.slice none 0 0,.slice A9 m9 c9,.int .i64 0];have he:=(h6.out.ext hy).setRow hR #[.int .i64 5,.bool false,.int .i64 0,.string ⟨#[]⟩,.slice none 0 0,.slice A9 m9 c9,.int .i64 0];refine ⟨ocells (.slice A9 m9 c9) 0,rfl,?_,((hf.out.trans gX.out)).setRow (ZM _) _⟩;unfold encJ;rw[HL.out];exact (ZdZ L nItems _ _ _ _ (RSl.of_own hm) (he.arr (RSl.of_own ha))).obj
end
section
set_option linter.unusedSimpArgs false
def textF (f:Fd):ByteArray:=str (jtext (encJ f))
def smallJ (f:Fd):Prop:=(∀s∈ [f.id,f.title,f.link],s.size<=1000000)/\∀e∈f.ents,∀s∈strsE e,s.size<=1000000
theorem Zgg {f:Fd}:okJ f=true↔okF f=true/\f.path= []:=by unfold okJ;simp
theorem Zd7 {f:Fd} (h:smallJ f) (j:okJ f=true):wrF 1000000 f:=ZgS (Zgg.1 j).1 h.1 h.2
theorem Zgc (x:Fc) (w:World) (hE:Env w) (hr:RdC w x) (hk:fokS x.f) (A:okJ x.f=true) (hs:smallJ x.f):
 Calls prog 20 #[.agg (cellsC x).toArray] w λe w'=>e= .returned (.tuple #[.string (textF x.f),.int .i64 0])/\Ext w w':=by
 have H:=Zd7 hs A;have G:=gd (λ(w':World) (h:Ext w w')=>Ze8 x w' (hE.ext h) (hr.ext h) hk A);have Q:(jtext (encJ x.f)).length<=140737488355328:=Zl (Zew (by decide) H) (by have:=hk.2.1;omega);have R:jwrite (encJ x.f)=(textF x.f,0):=Zi (ZbH (by decide) H);have K:=gd (λ(cs:List Value) (w':World) (h:Ext w w') (S:RV w' (encJ x.f) cs)=>KR (encJ x.f) cs w' S (ZfU (M:=1000000) (by decide) (by decide) H) (hE.ext h) Q);rw[R] at K;obtain ⟨T,hT⟩:∃T,textF x.f=T:=⟨_,rfl⟩;obtain ⟨J,hJ⟩:∃J,encJ x.f=J:=⟨_,rfl⟩;rw[hT,hJ] at K;rw[hJ] at G;rw[hT];clear hT hJ R Q H hs;obtain ⟨xp,hc,⟨F,Y,j,D,I,C⟩⟩:=x;obtain ⟨U,V⟩:=hr;dsimp only at*;obtain ⟨xA,xc,rfl, -, -⟩:=U.form;obtain ⟨xB,xd,rfl, -, -⟩:=V.form;unfold cellsC fCells at G|-;dsimp only at G|-;clear hk A U V hE;go_enter func20,ntmps20
 go_wp2_with (first|(go_at_call 56;(have X:=K.out _ _ (O.out.alloc (.cells #[.int .i64 k9,.bool b9,.int .i64 x9,.string s9,.slice A9 m9 c9,.slice B9 p9 q9,.int .i64 a9] 25)) (RVn.ext ((Ext.refl w2).alloc (.cells #[.int .i64 k9,.bool b9,.int .i64 x9,.string s9,.slice A9 m9 c9,.slice B9 p9 q9,.int .i64 a9] 25)) _ _ _ Z.out|>λh=>⟨_,h⟩));(refine Za X ?_);clear X;rintro e w3 ⟨rfl,hb⟩)|(go_at_call 18;(have X:=G.out _ ((Ext.refl w).alloc (.cells #[.slice xA F.length xc,.string Y,.string j,.string D,.int .i64 I,.slice xB C.length xd] 32)));(refine Za X ?_);clear X;rintro e w2 ⟨cs,rfl,⟨nv,S⟩,ha⟩;(obtain ⟨k9,b9,x9,s9,A9,m9,c9,B9,p9,q9,a9,rfl⟩:=S.shape);(have Z:=gd S);(have O:=gd (((Ext.refl w).alloc (.cells #[.slice xA F.length xc,.string Y,.string j,.string D,.int .i64 I,.slice xB C.length xd] 32)).trans ha));clear S))
 go_ret2
 exact ⟨rfl,(O.out.alloc _).trans hb⟩
end
def docG:List UInt8:= [123,34,118,101,114,115,105,111,110,34,58,34,104,116,116,112,115,58,47,47,106,115,111,110,102,101,101,100,46,111,114,103,47,118,101,114,115,105,111,110,47,49,34,44,34,104,111,109,101,95,112,97,103,101,95,117,114,108,34,58,34,72,34,44,34,105,116,101,109,115,34,58,91,123,34,105,100,34,58,55,125,93,125]
def docH:List UInt8:= [123,34,118,101,114,115,105,111,110,34,58,34,104,116,116,112,115,58,47,47,106,115,111,110,102,101,101,100,46,111,114,103,47,118,101,114,115,105,111,110,47,49,34,44,34,104,111,109,101,95,112,97,103,101,95,117,114,108,34,58,34,72,34,44,34,105,116,101,109,115,34,58,91,123,34,105,100,34,58,116,114,117,101,125,93,125]
def docK:List UInt8:= [123,34,118,101,114,115,105,111,110,34,58,34,104,116,116,112,115,58,47,47,106,115,111,110,102,101,101,100,46,111,114,103,47,118,101,114,115,105,111,110,47,49,46,49,34,44,34,116,105,116,108,101,34,58,34,34,44,34,102,101,101,100,95,117,114,108,34,58,34,70,34,44,34,95,117,112,100,97,116,101,100,34,58,34,49,57,55,48,45,48,49,45,48,49,84,48,48,58,48,48,58,48,48,90,34,44,34,105,116,101,109,115,34,58,91,93,125]
def feedG:Fd:=⟨[],⟨#[72]⟩,noS,⟨#[72]⟩, -62135596800,[⟨⟨#[55]⟩,noS,noS,noS, -62135596800⟩]⟩
def feedK:Fd:=⟨[],⟨#[70]⟩,noS,noS,0,[]⟩
def rdIs (s:List UInt8) (p:JO->Bool):Bool:=match jsonP s with
 |some o=>p o
 |none=>false
theorem ZcT {s:List UInt8} {p:JO->Bool} (h:rdIs s p=true):∃o,jsonP s=some o/\p o=true:=by
 unfold rdIs at h;cases hj:jsonP s with
 |none=>rw[hj] at h;cases h
 |some o=>rw[hj] at h;exact ⟨o,rfl,h⟩
def okIs (r:Except (Nat×Nat) Fd) (f:Fd):Bool:=match r with
 | .ok g=>decide (g=f)
 | .error _=>false
theorem Zgf {r:Except (Nat×Nat) Fd} {f:Fd} (h:okIs r f=true):r= .ok f:=by
 cases r with
 |error e=>cases h
 |ok g=>have:=Yd h;rw[this]
def errIs (r:Except (Nat×Nat) Fd) (f:Nat×Nat):Bool:=match r with
 | .error g=>decide (g=f)
 | .ok _=>false
theorem ZeD {r:Except (Nat×Nat) Fd} {f:Nat×Nat} (h:errIs r f=true):r= .error f:=by
 cases r with
 |ok e=>cases h
 |error g=>have:=Yd h;rw[this]
theorem Zc4:∃o,jsonP docG=some o/\decJ o= .ok feedG/\versJ o=some ⟨#[49]⟩/\(itsW o).length<=10:=by
 obtain ⟨o,j,h⟩:=ZcT (s:=docG) (p:=λo=>okIs (decJ o) feedG && (decide (versJ o=some ⟨#[49]⟩) && decide ((itsW o).length<=10))) (by decide+kernel);rw[ZU,ZU] at h;exact ⟨o,j,Zgf h.1,Yd h.2.1,Yd h.2.2⟩
theorem Zc5:∃o,jsonP docH=some o/\decJ o= .error (79,21)/\(itsW o).length<=10:=by
 obtain ⟨o,j,h⟩:=ZcT (s:=docH) (p:=λo=>errIs (decJ o) (79,21) && decide ((itsW o).length<=10)) (by decide+kernel);rw[ZU] at h;exact ⟨o,j,ZeD h.1,Yd h.2⟩
theorem Qo:normF feedG=feedG/\errF feedG=0:=by decide+kernel
theorem ZeF:okJ feedK=true:=by decide+kernel
theorem Zdd:encJ feedK= .obj [nVersion,nTitle,nFeedUrl,nUpdated,nItems] [.str (str (base1++ [49,46,49])),.str noS,.str ⟨#[70]⟩,.str (str (fmtL 0)),.arr []]:=rfl
theorem ZbM:jtext (encJ feedK)=docK:=by
 rw[Zdd,VJ];simp only[Ym,Y6,UR,jtext];decide+kernel
theorem Zdf:textF feedK=⟨docK.toArray⟩:=by unfold textF;rw[ZbM];rfl
theorem E4 {t:Int} (h:inT t=true):i64ok t:=by
 unfold inT at h;rw[ZU] at h;have j:=Yd h.1;have A:=Yd h.2;exact ⟨by omega,by omega⟩
theorem ZeC {e:Ent} (h:errE e=0):inT e.upd=true:=by
 unfold errE at h;split at h
 ·rename_i j;exact absurd h j
 ·split at h
  ·cases h
  ·split at h
   ·assumption
   ·cases h
theorem Zdn {f:Fd} (h:headF f=0):inT f.upd=true:=by
 unfold headF at h;split at h
 ·rename_i j;exact absurd h j
 ·split at h
  ·cases h
  ·split at h
   ·cases h
   ·split at h
    ·assumption
    ·cases h
theorem El:∀{l:List Ent},errEs l=0->∀e∈l,errE e=0
 | [],_,_,h=>by cases h
 |a::t,h,e,A=>by
  unfold errEs at h
  split at h
  ·rename_i j
   rcases ZG.1 A with rfl|A
   ·exact j
   ·exact El h e A
  ·rename_i j;exact absurd h j
theorem Gl {N:Nat} {j:JO} {f:Fd} (h:jgood N j) (G:N<=1000000) (H:decJ j= .ok f):fokS f/\smallJ f:=by
 obtain ⟨A,F,J⟩:=Zc3 (M:=1000000) G (by decide) h H;obtain ⟨O,K⟩:=ZfS H;obtain ⟨C,D⟩:=Em.1 K;have R:=A f.id (by simp);have a2:=A f.title (by simp);have a3:=A f.link (by simp);refine ⟨⟨⟨E4 (Zdn C),?_⟩,Zl J G,λe I=>⟨E4 (ZeC (El D e I)),?_⟩⟩,A,F⟩
 ·rw[O];have Q:sizes []=0:=rfl;rw[Q,ZF];omega
 ·have b:=F e I;have S:=b e.id (by unfold strsE;simp);have U:=b e.title (by unfold strsE;simp);have V:=b e.link (by unfold strsE;simp);have X:=b e.content (by unfold strsE;simp);omega
theorem Zde:fokS feedK:=⟨⟨E4 (by decide),by show 0+0+1+0+0<=16777216;decide⟩,by show 0<=1000000;decide,λe h=>by simp[feedK] at h⟩
theorem ZaK:smallJ feedK:=⟨λs j=>by
 have h:s=(⟨#[70]⟩:ByteArray)\/s=noS:=by
  simp only[feedK,ZG,List.not_mem_nil,YK] at j;rcases j with h|h|h
  ·exact Or.inl h
  ·exact Or.inr h
  ·exact Or.inr h
 rcases h with rfl|rfl<;>decide,λe A=>by simp[feedK] at A⟩
section
set_option linter.unusedSimpArgs false
theorem Gd (w:World) (C cs:Array Value) (t:TypeId):(w.alloc (.cells C t)).setRow w.heap.size cs=w.alloc (.cells cs t):=by
 have e:(w.heap.push (.cells C t)).modify w.heap.size (fun| .cells _ A j=> .cells cs A j|o=>o)=w.heap.push (.cells cs t):=by
  apply Array.ext_getElem?;intro i;rw[YZ,Array.getElem?_push,Array.getElem?_push];split
  ·rename_i h;rw[Zi h.symm,Zi h.symm];rfl
  ·rename_i h;rw[Zf (λe=>h e.symm),Zf (λe=>h e.symm)]
 show ({(w.alloc (.cells C t)) with heap:=_}:World)=_;exact Zo (λH=>({w with heap:=H}:World)) e
theorem Zau (w:World) (hE:Env w):Calls prog 11 #[] w λe w'=>e= .returned (.bool true)/\Ext w w':=by
 obtain ⟨F,hc,hu,hv,hN⟩:=Zc4;obtain ⟨G,he,hw,hO⟩:=Zc5;have jG:=KP hc;have jH:=KP he;have hH:Hid (∀(s:ByteArray) (w':World),s.data.toList=docG->Calls prog 10 #[.string s] w' λe w2=>PrsR (w'.heap.size+1) w2 (some F) e/\Ext w' w2):=gd λs w' h=>by
  have hd:docJ s=some F:=by unfold docJ;rw[Zf (by rw[<-Zn s,h];decide),h];exact hc
  have:=Qv s w' (by rw[<-Zn s,h];unfold reachBytes;decide);rw[hd] at this;exact this
 have hI:Hid (∀(s:ByteArray) (w':World),s.data.toList=docH->Calls prog 10 #[.string s] w' λe w2=>PrsR (w'.heap.size+1) w2 (some G) e/\Ext w' w2):=gd λs w' h=>by
  have hd:docJ s=some G:=by unfold docJ;rw[Zf (by rw[<-Zn s,h];decide),h];exact he
  have:=Qv s w' (by rw[<-Zn s,h];unfold reachBytes;decide);rw[hd] at this;exact this
 have Z:=gd (λ(w':World) (cs:List Value) (hx:Ext w w') (hr:RJ w' F cs)=>Vt 5000 F cs w' hr (Vu (by decide) F jG) (by decide) (hE.ext hx) (λf hf=>(Gl jG (by decide) hf).1) (by omega));have ha:=gd (λ(w':World) (cs:List Value) (hx:Ext w w') (hr:RJ w' G cs)=>Vt 5000 G cs w' hr (Vu (by decide) G jH) (by decide) (hE.ext hx) (λf hf=>(Gl jH (by decide) hf).1) (by omega));rw[hu] at Z;rw[hw] at ha;have hb:=gd (λ(w':World) (cs:List Value) (hr:RJ w' F cs)=>Xm F cs w' w' hr (Ext.refl _));rw[hv] at hb;have hK:Hid (∀(w':World),Ext w w'->Calls prog 20 #[.agg #[.slice none 0 0,.string ⟨#[70]⟩,.string ⟨#[]⟩,.string ⟨#[]⟩,.int .i64 0,.slice none 0 0]] w' λe w2=>e= .returned (.tuple #[.string ⟨docK.toArray⟩,.int .i64 0])/\Ext w' w2):=gd λw' hx=>by have h:=Zgc ⟨.slice none 0 0,.slice none 0 0,feedK⟩ w' (hE.ext hx) ⟨RSl.nil w' 1,RSl.nil w' 5⟩ Zde ZeF ZaK;dsimp only at h;rw[Zdf] at h;exact h
 have hG:Hid (normF feedG=feedG/\errF feedG=0):=gd Qo;have hi:Hid (∀(w':World) (cs:List Value),Ext w w'->RJ w' F cs->Calls prog 12 #[.agg cs.toArray] w' λe w2=>(∃A5 c5 Q d5,e= .returned (.tuple #[.agg #[.slice A5 0 c5,.string ⟨#[72]⟩,.string ⟨#[]⟩,.string ⟨#[72]⟩,.int .i64 (-62135596800),.slice (some Q) 1 d5],.int .i64 0,.int .i64 0])/\w2.cell? Q=some (.string ⟨#[55]⟩))/\Ext w' w2):=gd λw' cs hx hr=>by refine Za (Z.out w' cs hx hr) ?_;rintro e w2 ⟨⟨y,rfl,hh,hV, -⟩,V⟩;refine ⟨?_,V⟩;rw[Qo.1] at hh;obtain ⟨yp,hX,yf⟩:=y;dsimp only at hh;subst hh;obtain ⟨hD,hF⟩:=hV;dsimp only at hD hF;obtain ⟨A5,c5,rfl, -, -⟩:=hD.form;obtain ⟨Q,d5,rfl,hP⟩:=REnts.at hF (k:=0) (by show 0<1;decide);have h0:=hP.c0;rw[Nat.zero_mul,add_zero] at h0;refine ⟨A5,c5,Q,d5,?_,h0⟩;rw[Qo.2];rfl
 have hj:Hid (∀(w':World) (cs:List Value),Ext w w'->RJ w' G cs->Calls prog 12 #[.agg cs.toArray] w' λe w2=>e= .returned (.tuple #[.agg #[.slice none 0 0,.string ⟨#[]⟩,.string ⟨#[]⟩,.string ⟨#[]⟩,.int .i64 0,.slice none 0 0],.int .i64 79,.int .i64 21])/\Ext w' w2):=ha;have hp:Hid (∀(w':World) (cs:List Value),RJ w' F cs->Calls prog 14 #[.agg cs.toArray] w' λe w2=>e= .returned (.tuple #[.string ⟨#[49]⟩,.bool true])/\Ext w' w2):=hb;clear Z ha hb hG hc hu hv hN he hw hO jG jH hE;go_enter func11,ntmps11
 go_wp2_with (first|(refine Zg rfl 32 (.tmp 8) (.tmp 32) rfl w7.heap.size #[.slice none 0 0,.string ⟨#[]⟩,.string ⟨#[]⟩,.string ⟨#[]⟩,.int .i64 0,.slice none 0 0] rfl rfl _ _ hQ Zd5 rfl ZgT ?_;rw[hR])|(go_at_call 20;(have S:=hK.out w9 ht.out);(refine Za S ?_);clear S;rintro e hW ⟨rfl,O⟩;(have s1:=O.cell r1);(have s3:=O.cell r3);(have s5:=O.cell r5);(have s7:=O.cell r7);clear r1 r3 r5 r7)|(go_at_call 14;(have S:=hp.out W8 _ hn.out);(refine Za S ?_);clear S;rintro e w9 ⟨rfl,R⟩;(have r1:=R.cell h1);(have r3:=R.cell h3);(have r5:=R.cell h5);(have r7:=R.cell h7);(have ht:=gd (hM.out.trans R));clear h1 h3 h5 h7)|(go_at_call 12;(have S:=hj.out W6 _ hs.out ho.out);(refine Za S ?_);clear S;rintro e w7 ⟨rfl,hU⟩;(obtain ⟨W8,hg⟩:∃W8,w7.alloc (.cells #[.slice none 0 0,.string ⟨#[]⟩,.string ⟨#[]⟩,.string ⟨#[]⟩,.int .i64 0,.slice none 0 0] 32)=W8:=⟨_,rfl⟩);(have hR:W8.setRow w7.heap.size #[.slice none 0 0,.string ⟨#[]⟩,.string ⟨#[]⟩,.string ⟨#[]⟩,.int .i64 0,.slice none 0 0]=W8:=by rw[<-hg,Gd]);(have hQ:W8.heap[w7.heap.size]? =some (.cells #[.slice none 0 0,.string ⟨#[]⟩,.string ⟨#[]⟩,.string ⟨#[]⟩,.int .i64 0,.slice none 0 0] 32 (0,0)):=by rw[<-hg];exact Zh w7 _);(have D:Ext W6 W8:=by rw[<-hg];exact hU.alloc _);(have o0:=(D).cell n0);(have o1:=(D).cell n1);(have o2:=(D).cell n2);(have o3:=(D).cell n3);(have o4:=(D).cell n4);(have o5:=(D).cell n5);(have o6:=(D).cell n6);(have h1:=D.cell g1);(have h3:=D.cell g3);(have h5:=D.cell g5);(have h7:=D.cell g7);(have hM:=gd (hs.out.trans D));(have hn:=gd (hm.out.ext D));clear g1 g3 g5 g7 n0 n1 n2 n3 n4 n5 n6)|(go_at_call 12;(have S:=hi.out W4 _ hq.out hk.out);(refine Za S ?_);clear S;rintro e w5 ⟨⟨A5,c5,Q,d5,rfl,q7⟩,hT⟩;(obtain ⟨W6,hB⟩:∃W6,w5.alloc (.cells #[.slice A5 0 c5,.string ⟨#[72]⟩,.string ⟨#[]⟩,.string ⟨#[72]⟩,.int .i64 (-62135596800),.slice (some Q) 1 d5] 32)=W6:=⟨_,rfl⟩);(have Y:Ext w5 W6:=by rw[<-hB];exact (Ext.refl w5).alloc _);(have j:=hT.trans Y);(have f0:=(j).cell e0);(have f1:=(j).cell e1);(have f2:=(j).cell e2);(have f3:=(j).cell e3);(have f4:=(j).cell e4);(have f5:=(j).cell e5);(have f6:=(j).cell e6);(have n0:=(j).cell b0);(have n1:=(j).cell b1);(have n2:=(j).cell b2);(have n3:=(j).cell b3);(have n4:=(j).cell b4);(have n5:=(j).cell b5);(have n6:=(j).cell b6);(have U:∀i v,(#[.slice A5 0 c5,.string ⟨#[72]⟩,.string ⟨#[]⟩,.string ⟨#[72]⟩,.int .i64 (-62135596800),.slice (some Q) 1 d5]:Array Value)[i]? =some v->W6.cell? ⟨w5.heap.size,i,none⟩=some v:=λi v h=>by rw[<-hB];exact (Ext.refl (w5.alloc _)).boxed i v h);(have g1:=U 1 _ rfl);(have g3:=U 3 _ rfl);(have g5:=U 5 _ rfl);(have g7:=Y.cell q7);(have hs:=gd (hq.out.trans j));(have hm:=gd (hk.out.ext j));(have ho:=gd (hJ.out.ext j));clear U q7 b0 b1 b2 b3 b4 b5 b6 e0 e1 e2 e3 e4 e5 e6)|(go_at_call 10;refine Za (hI.out _ _ (by exact rfl)) ?_;rintro e w3 ⟨⟨A2,p2,c2,C2,q2,d2,m2,rfl,X⟩,I⟩;(obtain ⟨W4,hA⟩:∃W4,w3.alloc (.cells #[.int .i64 (kindJ G:Nat),.bool (bJ G),.int .i64 (nJ G),.string (sJ G),.slice A2 p2 c2,.slice C2 q2 d2,.int .i64 (atJ G:Nat)] 25)=W4:=⟨_,rfl⟩);(have H:Ext w3 W4:=by rw[<-hA];exact (Ext.refl w3).alloc _);(have b0:=(I.trans H).cell a0);(have b1:=(I.trans H).cell a1);(have b2:=(I.trans H).cell a2);(have b3:=(I.trans H).cell a3);(have b4:=(I.trans H).cell a4);(have b5:=(I.trans H).cell a5);(have b6:=(I.trans H).cell a6);(have K:∀i v,(#[.int .i64 (kindJ G:Nat),.bool (bJ G),.int .i64 (nJ G),.string (sJ G),.slice A2 p2 c2,.slice C2 q2 d2,.int .i64 (atJ G:Nat)]:Array Value)[i]? =some v->W4.cell? ⟨w3.heap.size,i,none⟩=some v:=λi v h=>by rw[<-hA];exact (Ext.refl (w3.alloc _)).boxed i v h);(have e0:=K 0 _ rfl);(have e1:=K 1 _ rfl);(have e2:=K 2 _ rfl);(have e3:=K 3 _ rfl);(have e4:=K 4 _ rfl);(have e5:=K 5 _ rfl);(have e6:=K 6 _ rfl);(have hq:=gd (hL.out.trans (I.trans H)));(have hk:=gd (hl.out.ext (I.trans H)));(have hJ:Hid (RJ W4 G (wcells (kindJ G) (bJ G) (nJ G) (sJ G) (.slice A2 p2 c2) (.slice C2 q2 d2) (atJ G))):=gd (RJ.ext ⟨m2,X.rj⟩ H));clear X K a0 a1 a2 a3 a4 a5 a6)|(go_at_call 10;refine Za (hH.out _ _ (by exact rfl)) ?_;rintro e w1 ⟨⟨A,p,c,C,q,d,m,rfl,hC⟩,hS⟩;(obtain ⟨W2,hy⟩:∃W2,w1.alloc (.cells #[.int .i64 (kindJ F:Nat),.bool (bJ F),.int .i64 (nJ F),.string (sJ F),.slice A p c,.slice C q d,.int .i64 (atJ F:Nat)] 25)=W2:=⟨_,rfl⟩);(have V:Ext w1 W2:=by rw[<-hy];exact (Ext.refl w1).alloc _);(have J:∀i v,(#[.int .i64 (kindJ F:Nat),.bool (bJ F),.int .i64 (nJ F),.string (sJ F),.slice A p c,.slice C q d,.int .i64 (atJ F:Nat)]:Array Value)[i]? =some v->W2.cell? ⟨w1.heap.size,i,none⟩=some v:=λi v h=>by rw[<-hy];exact (Ext.refl (w1.alloc _)).boxed i v h);(have a0:=J 0 _ rfl);(have a1:=J 1 _ rfl);(have a2:=J 2 _ rfl);(have a3:=J 3 _ rfl);(have a4:=J 4 _ rfl);(have a5:=J 5 _ rfl);(have a6:=J 6 _ rfl);(have hL:=gd (hS.trans V));(have hl:Hid (RJ W2 F (wcells (kindJ F) (bJ F) (nJ F) (sJ F) (.slice A p c) (.slice C q d) (atJ F))):=gd (RJ.ext ⟨m,hC.rj⟩ V));clear hC J))
 go_ret;exact ⟨rfl,ht.out.trans O⟩
end
section
set_option linter.unusedSimpArgs false
theorem ZcA:fokS zeroF:=⟨⟨⟨by decide,by decide⟩,by decide⟩,by decide,λe h=>absurd h (by simp[zeroF])⟩
theorem ZdC {f:Fd} (h:fokS f):fokS (normF f):=by
 unfold normF;split
 ·exact Zdj h
 ·exact ⟨⟨⟨by decide,by decide⟩,by decide⟩,by decide,λe j=>absurd j (by simp[zeroF])⟩
theorem Ze2 {N:Nat} {j:JO} (h:jgood N j):(itsW j).length<=N:=by
 unfold itsW;cases hm:memJ j nItems with
 |none=>exact Zt _
 |some x=>
  have A:=E8 h hm;show (itemsJ x).length<=N;cases x with
  |arr a l=>rw[jgood] at A;exact A.2.1
  |_=>exact Zt _
end
section
set_option linter.unusedSimpArgs false
abbrev Mm:=ByteArray×List Value×Int
abbrev obC (a:Nat) (v:Value):Array Value:=#[.int .i64 5,.bool false,.int .i64 0,.string ⟨#[]⟩,.slice none 0 0,v,.int .i64 (a:Nat)]
structure NF (W2:World) (g8 g9 a:Nat) (v8 v9:Value) (l8 l9:List Mm) (W:World):Prop where
 ext:Ext W2 W
 b8:W.heap[g8]? =some (.cells (obC a v8) 25 (0,0))
 b9:W.heap[g9]? =some (.cells (obC a v9) 25 (0,0))
 o8:W.ownsRow W2.heap.size 56 9 v8 l8.length (l8.map mcell).flatten
 o9:W.ownsRow W2.heap.size 56 9 v9 l9.length (l9.map mcell).flatten
 ap:v8.ownBlock=none\/v8.ownBlock≠v9.ownBlock
section
variable {W2 W W':World} {g8 g9 a:Nat} {v8 v9 v':Value} {l8 l9:List Mm}
theorem Vx {w:World} {b sz n g:Nat} {e G:TypeId} {v:Value} {xs:List Value} {cs:Array Value} {fr:Nat×Nat} (h:w.ownsRow b e sz v n xs) (J:w.heap[g]? =some (.cells cs G fr)) (C:e≠G):v.ownBlock≠some g:=by
 intro H;rcases h.2 with ⟨rfl,_⟩|⟨I,D,F,rfl,_,j,_⟩
 ·cases H
 ·have A:I=g:=by simpa [Value.ownBlock] using H
  subst A;rw[J] at j;injection j with j;injection j with _ j;exact C j.symm
end
def fdR (r:Except (Nat×Nat) Fd):Fd:=match r with
 | .error _=>zeroF
 | .ok f=>normF f
def atR (r:Except (Nat×Nat) Fd):Nat:=match r with
 | .error f=>f.1
 | .ok _=>0
def erR (r:Except (Nat×Nat) Fd):Nat:=match r with
 | .error f=>f.2
 | .ok f=>errF f
theorem ZfT {w:World} {r:Except (Nat×Nat) Fd} {e:Ending} (h:DecR w r e):∃A c B d,e= .returned (.tuple #[.agg (cellsC ⟨.slice A (fdR r).path.length c,.slice B (fdR r).ents.length d,fdR r⟩).toArray,.int .i64 (atR r:Nat),.int .i64 (erR r:Nat)])/\RdC w ⟨.slice A (fdR r).path.length c,.slice B (fdR r).ents.length d,fdR r⟩:=by
 cases r with
 |error f=>exact ⟨none,0,none,0,h,RSl.nil w 1,RSl.nil w 5⟩
 |ok f=>obtain ⟨y,rfl,D,F,H⟩:=h;obtain ⟨J,G,I⟩:=y;dsimp only at D;subst D;obtain ⟨j,C⟩:=F;dsimp only at j C;obtain ⟨A,c,rfl, -, -⟩:=j.form;obtain ⟨B,d,rfl, -, -⟩:=C.form;exact ⟨A,c,B,d,rfl,j,C⟩
end
section
set_option linter.unusedSimpArgs false
def DecX (w':World) (r:Except (Nat×Nat) Fd) (e:Ending):Prop:=match r with
 | .error f=>e= .returned (.tuple #[.agg #[.slice none 0 0,.string ⟨#[]⟩,.string ⟨#[]⟩,.string ⟨#[]⟩,.int .i64 0,.slice none 0 0],.int .i64 (f.1:Nat),.int .i64 (f.2:Nat)])
 | .ok f=>∃y:Fc,e= .returned (.tuple #[.agg (cellsC y).toArray,.int .i64 0,.int .i64 (errF f:Nat)])/\y.f=normF f/\RdC w' y
def entsFrom (E:List Ent) (r:Except (Nat×Nat) (List Ent)):Except (Nat×Nat) (List Ent):=match r with
 | .error e=> .error e
 | .ok l=> .ok (E++l)
def feedFrom (sid sti shm:ByteArray) (tt:Int) (r:Except (Nat×Nat) (List Ent)):Except (Nat×Nat) Fd:=match r with
 | .error e=> .error e
 | .ok l=> .ok ⟨[],sid,sti,shm,tt,l⟩
theorem QQ {E:List Ent} {x:JO} {t:List JO} {f:Nat×Nat} (h:entryJ x= .error f):entsFrom E (entsJ (x::t))= .error f:=by
 unfold entsJ;rw[h];rfl
theorem VI {E:List Ent} {x:JO} {t:List JO} {e:Ent} (h:entryJ x= .ok e):entsFrom E (entsJ (x::t))=entsFrom (E++ [e]) (entsJ t):=by
 rw[show entsJ (x::t)=match entryJ x with| .error e=> .error e| .ok x=>match entsJ t with| .error e=> .error e| .ok l=> .ok (x::l) from rfl,h];cases entsJ t with
 |error e=>rfl
 |ok l=>simp[entsFrom]
theorem QI {j:JO}:∀{l:List ByteArray} {f:Nat×Nat},dateJ j l= .error f->f.2≠0
 | [],_,h=>by simp[dateJ] at h
 |n::l,f,h=>by
  rw[Qk] at h
  split at h
  ·exact QI h
  ·split at h
   ·cases h
   ·injection h with h;subst h;exact (by decide:(20:Nat)≠0)
theorem VH {x:JO} {f:Nat×Nat} (h:entryJ x= .error f):f.2≠0:=by
 unfold entryJ at h;split at h
 ·injection h with h;subst h;exact (by decide:(21:Nat)≠0)
 ·split at h
  ·rename_i j;injection h with h;subst h;exact VF j
  ·split at h
   ·injection h with h;subst h;exact (by decide:(19:Nat)≠0)
   ·split at h
    ·rename_i A;injection h with h;subst h;exact QI A
    ·cases h
structure RF (W1:World) (g gi:Nat) (sid sti shm:ByteArray) (tt:Int) (vc:Array Value) (row:Value) (E:List Ent) (W:World):Prop where
 ext:Ext W1 W
 f:W.heap[g]? =some (.cells #[.slice none 0 0,.string sid,.string sti,.string shm,.int .i64 tt,row] 32 (0,0))
 v:W.heap[gi]? =some (.cells vc 25 (0,0))
 o:W.ownsRow W1.heap.size 64 5 row E.length (flatE E)
section
variable {W1 W W':World} {g gi:Nat} {sid sti shm:ByteArray} {tt:Int} {vc:Array Value} {row row':Value} {E:List Ent}
theorem RF.next (h:RF W1 g gi sid sti shm tt vc row E W) (j:Ext W W'):RF W1 g gi sid sti shm tt vc row E W':=⟨h.ext.trans j,j.heap h.f,j.heap h.v,Yw h.o j⟩
theorem RF.grow (h:RF W1 g gi sid sti shm tt vc row E W) (j:W.grownBy W' row.ownBlock):W'.heap[g]? =some (.cells #[.slice none 0 0,.string sid,.string sti,.string shm,.int .i64 tt,row] 32 (0,0)):=
 (j.block g (Ze.1 h.f).1 (Ne.symm (Vx h.o h.f (by decide)))).trans h.f
theorem RF.snoc (h:RF W1 g gi sid sti shm tt vc row E W) (K:W1.heap.size<=g) {e:Ent} (G:W'.ownsRow W1.heap.size 64 5 row' (E.length+1) (flatE E++eCells e)) (D:W.grownBy W' row.ownBlock):
 RF W1 g gi sid sti shm tt vc row' (E++ [e]) (W'.setCell ⟨g,5,none⟩ row'):=by
 have I:Ext W1 W':=Ext.app h.ext D h.o (Zd _);have C:=h.grow D;have j:W'.heap[gi]? =some (.cells vc 25 (0,0)):=(D.block gi (Ze.1 h.v).1 (Ne.symm (Vx h.o h.v (by decide)))).trans h.v;have F:gi≠g:=λe2=>by rw[e2,C] at j;injection j with j;injection j with _ j;exact absurd j (by decide)
 have A:W'.grownBy (W'.setCell ⟨g,5,none⟩ row') (some g):=⟨rfl,rfl,rfl,by simp[World.setCell],λk _ H=>Zs W' ⟨g,5,none⟩ k row' (λe=>H (by rw[e]))⟩;refine ⟨I.setCell (p:=⟨g,5,none⟩) K row',?_,?_,?_⟩
 ·rw[ZR _ _ _ _ _ _ C];rfl
 ·rw[Zs _ _ _ _ F];exact j
 ·rw[Zj,Yb,Gq,Gr];exact G.kept A (Or.inr (Vx G C (by decide)))
end
end
section
set_option linter.unusedSimpArgs false
attribute [local go_sem] calm1
theorem Zco (K:Int) (Bb:Bool) (Nn:Int) (Ss:ByteArray) (A B:Option Addr) (p c q d At:Nat) (w:World) (vs gM sti shm:ByteArray)
 (gq:Hid (∀W':World,Ext w W'->Calls prog 15 #[.agg #[.int .i64 K,.bool Bb,.int .i64 Nn,.string Ss,.slice A p c,.slice B q d,.int .i64 At]] W' λe w2=>e= .returned (.tuple #[.string vs,.bool true])/\Ext W' w2))
 (gQ:Hid (∀W':World,Ext w W'->Calls prog 37 #[.agg #[.int .i64 K,.bool Bb,.int .i64 Nn,.string Ss,.slice A p c,.slice B q d,.int .i64 At],.slice (some ⟨W'.heap.size,0,none⟩) 4 4,.bool false] (W'.alloc (.cells #[.string ⟨#[102,101,101,100,95,117,114,108]⟩,.string ⟨#[104,111,109,101,95,112,97,103,101,95,117,114,108]⟩,.string ⟨#[116,105,116,108,101]⟩,.string ⟨#[95,117,112,100,97,116,101,100]⟩] 9)) λe w2=>e= .returned (.tuple #[.int .i64 0,.int .i64 0])/\Ext W' w2))
 (g2:Hid (∀W':World,Ext w W'->Calls prog 38 #[.agg #[.int .i64 K,.bool Bb,.int .i64 Nn,.string Ss,.slice A p c,.slice B q d,.int .i64 At],.string ⟨#[102,101,101,100,95,117,114,108]⟩] W' λe w2=>e= .returned (.string gM)/\Ext W' w2))
 (hf:Hid (∀W':World,Ext w W'->Calls prog 38 #[.agg #[.int .i64 K,.bool Bb,.int .i64 Nn,.string Ss,.slice A p c,.slice B q d,.int .i64 At],.string ⟨#[116,105,116,108,101]⟩] W' λe w2=>e= .returned (.string sti)/\Ext W' w2))
 (g3:Hid (∀W':World,Ext w W'->Calls prog 38 #[.agg #[.int .i64 K,.bool Bb,.int .i64 Nn,.string Ss,.slice A p c,.slice B q d,.int .i64 At],.string ⟨#[104,111,109,101,95,112,97,103,101,95,117,114,108]⟩] W' λe w2=>e= .returned (.string shm)/\Ext W' w2))
 (gO:Hid (∀W':World,Calls prog 39 #[.string gM] W' λe w2=>e= .returned (.bool true)/\Ext W' w2))
 (gP:Hid (∀W':World,Calls prog 39 #[.string shm] W' λe w2=>e= .returned (.bool false)/\Ext W' w2)) (tt:Int)
 (gS:Hid (∀W':World,Ext w W'->Calls prog 40 #[.agg #[.int .i64 K,.bool Bb,.int .i64 Nn,.string Ss,.slice A p c,.slice B q d,.int .i64 At],.slice (some ⟨W'.heap.size,0,none⟩) 1 1] (W'.alloc (.cells #[.string ⟨#[95,117,112,100,97,116,101,100]⟩] 9)) λe w2=>e= .returned (.tuple #[.int .i64 tt,.int .i64 0,.int .i64 0])/\Ext W' w2)) (B2:Bool) (N2:Int) (S2:ByteArray) (A2 C2:Option Addr) (c2 q2 d2 At2:Nat) (L:List JO) (css:List (List Value)) (U:Env w)
 (g1:Hid (∀W':World,Ext w W'->Calls prog 41 #[.agg #[.int .i64 K,.bool Bb,.int .i64 Nn,.string Ss,.slice A p c,.slice B q d,.int .i64 At],.string ⟨#[105,116,101,109,115]⟩] W' λe w2=>e= .returned (.tuple #[.agg #[.int .i64 0,.bool B2,.int .i64 N2,.string S2,.slice A2 L.length c2,.slice C2 q2 d2,.int .i64 (At2:Nat)],.bool false])/\Ext W' w2))
 (hZ:RSl w 7 (.slice A2 L.length c2) L.length css.flatten) (gz:css.length=L.length) (ge:∀(i:Nat) (x:JO) (c:List Value),L[i]? =some x->css[i]? =some c->RJ w x c) (fq:L.length<=1000000)
 (gW:Hid (∀(x:JO) (c:List Value) (W':World),x∈L->RJ w x c->Ext w W'->Calls prog 42 #[.agg c.toArray] W' λe w2=>EntX (entryJ x) e/\Ext W' w2))
 (hK:∀E,entsJ L= .ok E->fokS ⟨[],shm,sti,shm,tt,E⟩):
 Calls prog 13 #[.agg #[.int .i64 K,.bool Bb,.int .i64 Nn,.string Ss,.slice A p c,.slice B q d,.int .i64 At]] w λe w'=>DecX w' (feedFrom shm sti shm tt (entsJ L)) e/\Ext w w':=by
 obtain ⟨W1,h9⟩:∃W1,(w.alloc (.cells #[.int .i64 K,.bool Bb,.int .i64 Nn,.string Ss,.slice A p c,.slice B q d,.int .i64 At] 25)).alloc (.cells #[.slice none 0 0,.string ⟨#[]⟩,.string ⟨#[]⟩,.string ⟨#[]⟩,.int .i64 0,.slice none 0 0] 32)=W1:=⟨_,rfl⟩;have gI:Ext w W1:=by rw[<-h9];exact ((Ext.refl w).alloc _).alloc _
 have hb:W1.heap[w.heap.size]? =some (.cells #[.int .i64 K,.bool Bb,.int .i64 Nn,.string Ss,.slice A p c,.slice B q d,.int .i64 At] 25 (0,0)):=by rw[<-h9];exact ((Ext.refl _).alloc _).heap (Zh w _)
 have hM:W1.heap[w.heap.size+1]? =some (.cells #[.slice none 0 0,.string ⟨#[]⟩,.string ⟨#[]⟩,.string ⟨#[]⟩,.int .i64 0,.slice none 0 0] 32 (0,0)):=by rw[<-h9];exact YN w _ _
 have hd:Hid (∀W':World,Ext W1 W'->W'.cell? ⟨w.heap.size,0,none⟩=some (.int .i64 K)/\W'.cell? ⟨w.heap.size,1,none⟩=some (.bool Bb)/\W'.cell? ⟨w.heap.size,2,none⟩=some (.int .i64 Nn)/\W'.cell? ⟨w.heap.size,3,none⟩=some (.string Ss)/\W'.cell? ⟨w.heap.size,4,none⟩=some (.slice A p c)/\W'.cell? ⟨w.heap.size,5,none⟩=some (.slice B q d)/\W'.cell? ⟨w.heap.size,6,none⟩=some (.int .i64 At)):=gd λW' h=>⟨h.cell (Zb _ _ 0 _ _ _ hb),h.cell (Zb _ _ 1 _ _ _ hb),h.cell (Zb _ _ 2 _ _ _ hb),h.cell (Zb _ _ 3 _ _ _ hb),h.cell (Zb _ _ 4 _ _ _ hb),h.cell (Zb _ _ 5 _ _ _ hb),h.cell (Zb _ _ 6 _ _ _ hb)⟩;have R:=gd gI;have hH:=gd hM;obtain ⟨c0,c1,fd,c3,c4,c5,c6⟩:=hd.out _ (Ext.refl W1);clear gI hb hM;have hu:∀c∈css,c.length=7:=by intro c hc;obtain ⟨i,hi,rfl⟩:=List.mem_iff_getElem.1 hc;obtain ⟨n,hn⟩:=ge i L[i] css[i] (Zc (by omega)) (Zc hi);exact hn.len
 have gp:=gd hZ;have g0:=gd hu;have gV:=gd ge;have gR:=gd gz;have gZ:=gd hK;have gX:=gd U;obtain ⟨i0,fh,fl,fm,fn⟩:=Yr XB;clear hZ hu ge gz hK U;go_enter func13,ntmps13
 go_wp2_with (first|(go_at_call 37;(have Q:=gQ.out w2 (R.out.trans hN));(with_reducible refine Za Q ?_);clear Q;rintro e w3 ⟨rfl,gJ⟩;(have C:=hN.trans gJ);(obtain ⟨f0,f1,f2,f3,f4,f5,f6⟩:=hd.out _ C);(clear e0 e1 e2 e3 e4 e5 e6))|(go_at_call 15;(have Q:=gq.out W1 R.out);(with_reducible refine Za Q ?_);clear Q;rintro e w2 ⟨rfl,hN⟩;(obtain ⟨e0,e1,e2,e3,e4,e5,e6⟩:=hd.out _ hN);(clear c0 c1 fd c3 c4 c5 c6)))
 have a0:∀y:Aft w3,y.w.cell? ⟨w.heap.size,0,none⟩=_:=Aft.cell f0;have a1:∀y:Aft w3,y.w.cell? ⟨w.heap.size,1,none⟩=_:=Aft.cell f1;have a2:∀y:Aft w3,y.w.cell? ⟨w.heap.size,2,none⟩=_:=Aft.cell f2;have a3:∀y:Aft w3,y.w.cell? ⟨w.heap.size,3,none⟩=_:=Aft.cell f3;have a4:∀y:Aft w3,y.w.cell? ⟨w.heap.size,4,none⟩=_:=Aft.cell f4;have a5:∀y:Aft w3,y.w.cell? ⟨w.heap.size,5,none⟩=_:=Aft.cell f5;have a6:∀y:Aft w3,y.w.cell? ⟨w.heap.size,6,none⟩=_:=Aft.cell f6;clear f0 f1 f2 f3 f4 f5 f6;refine Yy 7 (.cells #[.slice none 0 0,.string ⟨#[]⟩,.string ⟨#[]⟩,.string ⟨#[]⟩,.int .i64 0,.slice none 0 0] 32) _ (by kernel_rfl) rfl (by kernel_rfl) (λa w K h=>by go_simp;exact h) ?_
 repeat (refine YH (λKc hK=> ?_);go_simp;first|(refine hK _ ?_;clear hK Kc)|(apply Ye;refine ⟨λy=> ?_,hK _ ?_⟩;(go_at_call 38;first|with_reducible exact ZP (g2.out _ ((R.out.trans C).trans y.ext))|with_reducible exact ZP (hf.out _ ((R.out.trans C).trans y.ext))|with_reducible exact ZP (g3.out _ ((R.out.trans C).trans y.ext)));clear hK Kc))
 refine YO ?_;intro g c' hg hW;refine Yk rfl 32 (.tmp 9) (.tmp 42) rfl g _ rfl rfl _ _ hW ZA rfl YQ ?_;intro W4 hL gu ff;have gK:Ext w3 W4:=gu w3 c'.ext hg;have gD:W1.heap.size<=g:=Zl C.size hg;clear hW gu ff hg c' a0 a1 a2 a3 a4 a5 a6;have J:=C.trans gK;obtain ⟨e0,e1,e2,e3,e4,e5,e6⟩:=hd.out _ J;have k1:=Zb _ _ 1 _ _ _ hL;have k3:=Zb _ _ 3 _ _ _ hL;have g8:=gd J;have g4:=gd hL;have hq:=gd gD;clear J gK C gJ hN hL gD
 go_wp2_with (first|(go_at_call 41;(have Q:=g1.out W9 (R.out.trans hI.out));(with_reducible refine Za Q ?_);clear Q;rintro e ho ⟨rfl,hB⟩;(obtain ⟨hs,hS⟩:∃hs,ho.alloc (.cells #[.int .i64 0,.bool B2,.int .i64 N2,.string S2,.slice A2 L.length c2,.slice C2 q2 d2,.int .i64 (At2:Nat)] 25)=hs:=⟨_,rfl⟩);(have hC:Ext W9 hs:=by rw[<-hS];exact hB.alloc _);(have I:hs.heap[ho.heap.size]? =some (.cells #[.int .i64 0,.bool B2,.int .i64 N2,.string S2,.slice A2 L.length c2,.slice C2 q2 d2,.int .i64 (At2:Nat)] 25 (0,0)):=by rw[<-hS];exact Zh ho _);(have hR:=gd (hI.out.trans hC));(have hQ:=gd (hC.heap g7.out));(have fo:Hid (W1.heap.size<=ho.heap.size):=gd (hI.out.trans hB).size);(have z0:=Zb _ _ 0 _ _ _ I);(have z1:=Zb _ _ 1 _ _ _ I);(have z2:=Zb _ _ 2 _ _ _ I);(have z3:=Zb _ _ 3 _ _ _ I);(have z4:=Zb _ _ 4 _ _ _ I);(have z5:=Zb _ _ 5 _ _ _ I);(have z6:=Zb _ _ 6 _ _ _ I);(have hP:=gd I);clear hB hC I e0 e1 e2 e3 e4 e5 e6)|(go_at_call 40;(have Q:=gS.out w7 (R.out.trans h7.out));(with_reducible refine Za Q ?_);clear Q;rintro e w8 ⟨rfl,gh⟩;(have gf:=gh.heap g6.out);(have l4:w8.frozen? ⟨g,4,none⟩=false:=ZH gf 4);(have ft:=Zb _ _ 4 _ _ _ gf);(obtain ⟨W9,gy⟩:∃W9,w8.setCell ⟨g,4,none⟩ (.int .i64 tt)=W9:=⟨_,rfl⟩);(have g7:Hid (W9.heap[g]? =some (.cells #[.slice none 0 0,.string shm,.string sti,.string shm,.int .i64 tt,.slice none 0 0] 32 (0,0))):=gd (by rw[<-gy,ZR _ _ _ _ _ _ gf];rfl));(have hI:Hid (Ext W1 W9):=gd (by rw[<-gy];exact (h7.out.trans gh).setCell (p:=⟨g,4,none⟩) hq.out _));clear gh f0 f1 f2 f3 f4 f5 f6;(obtain ⟨e0,e1,e2,e3,e4,e5,e6⟩:=hd.out _ hI.out))|(go_at_call 39;(have Q:=gP.out W6);(with_reducible refine Za Q ?_);clear Q;rintro e w7 ⟨rfl,gg⟩;(have h7:=gd (g9.out.trans gg));(have g6:=gd (gg.heap gr.out));clear gg;(obtain ⟨f0,f1,f2,f3,f4,f5,f6⟩:=hd.out _ h7.out))|(go_at_call 39;(have Q:=gO.out W4);(with_reducible refine Za Q ?_);clear Q;rintro e w5 ⟨rfl,hF⟩;(have gE:=hF.heap g4.out);(have m3:=hF.cell k3);(have l1:w5.frozen? ⟨g,1,none⟩=false:=ZH gE 1);(have m1:=hF.cell k1);(obtain ⟨W6,gx⟩:∃W6,w5.setCell ⟨g,1,none⟩ (.string shm)=W6:=⟨_,rfl⟩);(have gr:Hid (W6.heap[g]? =some (.cells #[.slice none 0 0,.string shm,.string sti,.string shm,.int .i64 0,.slice none 0 0] 32 (0,0))):=gd (by rw[<-gx,ZR _ _ _ _ _ _ gE];rfl));(have g9:Hid (Ext W1 W6):=gd (by rw[<-gx];exact (g8.out.trans hF).setCell (p:=⟨g,1,none⟩) hq.out _));(have n1:=Zb _ _ 1 _ _ _ gr.out);clear k1 k3 hF e0 e1 e2 e3 e4 e5 e6))
 have go:Hid (RF W1 g ho.heap.size shm sti shm tt #[Value.int .i64 0,.bool B2,.int .i64 N2,.string S2,.slice A2 L.length c2,.slice C2 q2 d2,.int .i64 (At2:Nat)] (.slice none 0 0) [] hs):=gd ⟨hR.out,hQ.out,hP.out,Yc _ _ _ _⟩;clear z0 z1 z2 z3 z5 z6 hQ hP hR;go_loopw [11] (λi wr=>∃(k:Nat) (E:List Ent) (row:Value),k<=L.length/\i= .int .i64 k/\Hid (E.length=k/\entsJ L=entsFrom E (entsJ (L.drop k))/\RF W1 g ho.heap.size shm sti shm tt #[Value.int .i64 0,.bool B2,.int .i64 N2,.string S2,.slice A2 L.length c2,.slice C2 q2 d2,.int .i64 (At2:Nat)] row E wr)) (λi _=>L.length - (intOf i).toNat)
 case atStart=>exact ⟨0,[],_,Zt _,rfl,gd ⟨rfl,by unfold entsFrom;rw[XQ];cases entsJ L<;>rfl,go.out⟩⟩
 case round=>
  obtain ⟨k,E,row,hk,rfl,U⟩:=hrel;obtain ⟨rA,rc,rfl⟩:=Xx U.out.2.2.o;have g5:=Zb _ _ 5 _ _ _ U.out.2.2.f;have y4:=Zb _ _ 4 _ _ _ U.out.2.2.v;have hG:=U.out.2.2.ext;obtain ⟨e0,e1,e2,e3,e4,e5,e6⟩:=hd.out _ hG;by_cases hv:k<L.length
  focus
   have gb:k<css.length:=(by rw[gR.out];exact hv)
   have ht:=gV.out k L[k] css[k] (Zc hv) (Zc gb)
   obtain ⟨ad,cap,hA,j⟩:=RSl.elem (gp.out.ext (R.out.trans hG)) (by omega) g0.out k css[k] (Zc gb)
   injection hA with hA1 hA2 hA3
   subst hA1
   clear hA2 hA3
   rw[Y7] at j
   have S:=U.out.2.1
   rw[Zx hv] at S
   have gw:Hid (E.length<=1000000):=gd (by rw[U.out.1];omega)
   have H:=gW.out L[k] css[k] wr (ZO hv) ht (R.out.trans hG)
   obtain ⟨x,hx⟩:∃x,L[k]=x:=⟨_,rfl⟩
   obtain ⟨cs,gA⟩:∃c,css[k]=c:=⟨_,rfl⟩
   rw[hx] at ht S H
   rw[gA] at ht j H
   obtain ⟨A3,p3,gt,B3,q3,d3,gc⟩:=ht.cells
   generalize kindJ x=K3,bJ x=Bb3,nJ x=Nn3,sJ x=Ss3,atJ x=gj at gc
   unfold wcells at gc
   subst gc
   have u0:wr.cell? (ad.add (k*7))=some (.int .i64 (K3:Nat)):=j 0 _ rfl
   have u1:wr.cell? ⟨(ad.add (k*7)).block,(ad.add (k*7)).off+1,none⟩=some (.bool Bb3):=j 1 _ rfl
   have u2:wr.cell? ⟨(ad.add (k*7)).block,(ad.add (k*7)).off+2,none⟩=some (.int .i64 Nn3):=j 2 _ rfl
   have u3:wr.cell? ⟨(ad.add (k*7)).block,(ad.add (k*7)).off+3,none⟩=some (.string Ss3):=j 3 _ rfl
   have u4:wr.cell? ⟨(ad.add (k*7)).block,(ad.add (k*7)).off+4,none⟩=some (.slice A3 p3 gt):=j 4 _ rfl
   have u5:wr.cell? ⟨(ad.add (k*7)).block,(ad.add (k*7)).off+5,none⟩=some (.slice B3 q3 d3):=j 5 _ rfl
   have u6:wr.cell? ⟨(ad.add (k*7)).block,(ad.add (k*7)).off+6,none⟩=some (.int .i64 (gj:Nat)):=j 6 _ rfl
   have hr:=gd U.out.2.2
   have gU:=gd U.out.1
   clear ht j gA hx hG gb U
   cases hen:entryJ x with
   |error f=>
    rw[hen] at H
    have hf:=gd (S.trans (QQ hen))
    have fg:=VH hen
    obtain ⟨f1,f2⟩:=f
    have fr:((f2:Int) !=0)=true:=(by simp;omega)
    have h6:=gd H
    clear S hen fg H
    go_wp2_with (first|(refine Zg rfl 32 (.tmp 2) (.tmp 101) rfl (w.heap.size+1) #[.slice none 0 0,.string ⟨#[]⟩,.string ⟨#[]⟩,.string ⟨#[]⟩,.int .i64 0,.slice none 0 0] rfl rfl _ _ gF ZA rfl YQ ?_)|(go_at_call 42;(have Q:=h6.out);(refine Za Q ?_);clear Q;rintro e hO ⟨⟨⟨ea,eb,ec,ed,eu⟩,rfl⟩,C⟩;(unfold eCells;dsimp only);(have J:=C.alloc (.cells #[.string ea,.string eb,.string ec,.string ed,.int .i64 eu] 64));(have gF:=(hr.out.ext.trans J).heap hH.out)))
    ((try simp only[Exit.inBlock,Exit.then]);refine Zm (Zw rfl _ _ _ _ _ _ _ rfl (Zk _ _ _ _ _ _ gF) underlying32 rfl ZA) rfl ?_)
    rw[hf.out]
    exact ⟨rfl,(R.out.trans (hr.out.ext.trans J)).setRow (ZM _) _⟩
   |ok en=>
    rw[hen] at H
    have hf:=gd (S.trans (VI hen))
    obtain ⟨ea,eb,ec,ed,eu⟩:=en
    replace H:Calls prog 42 #[.agg #[.int .i64 (K3:Nat),.bool Bb3,.int .i64 Nn3,.string Ss3,.slice A3 p3 gt,.slice B3 q3 d3,.int .i64 (gj:Nat)]] wr λe w2=>e= .returned (.tuple #[.agg #[.string ea,.string eb,.string ec,.string ed,.int .i64 eu],.int .i64 0,.int .i64 0])/\Ext wr w2:=H
    have h6:=gd H
    clear S hen H
    go_wp2_with (first|(at_builtin;refine Zq _ rfl (.tmp 105) (.tmp 107) _ rfl W1.heap.size 64 i0 _ 5 72 underlying30 fh fl fm fn rfl (by decide) _ E.length (flatE E) rfl Y.out.o _ 1 (eCells ⟨ea,eb,ec,ed,eu⟩) rfl gm.out (Z1 _) (by have:=gw.out;unfold maxLen;omega) (by have:=gw.out;omega) Y.out.ext.size ?_;intro fu fv hw hj ga;(obtain ⟨A6,fp,rfl⟩:=Xx hw);(have fz:=ZH (Y.out.grow hj) 5);(have fc:=Zb _ _ 5 _ _ _ (Y.out.grow hj));(have gk:=gd (Y.out.snoc hq.out (e:=⟨ea,eb,ec,ed,eu⟩) hw hj));clear hw hj ga)|(go_at_call 42;(have Q:=h6.out);(with_reducible refine Za Q ?_);clear Q;rintro e hO ⟨rfl,C⟩;(obtain ⟨Z,hT⟩:∃Z,hO.alloc (.cells #[.string ea,.string eb,.string ec,.string ed,.int .i64 eu] 64)=Z:=⟨_,rfl⟩);(have J:Ext wr Z:=by rw[<-hT];exact C.alloc _);(have hV:Z.heap[hO.heap.size]? =some (.cells #[.string ea,.string eb,.string ec,.string ed,.int .i64 eu] 64 (0,0)):=by rw[<-hT];exact Zh hO _);(obtain ⟨v0,v1,v2,v3,v4⟩:=UC hV);(have h5:=J.cell g5);(obtain ⟨hJ,hU⟩:∃hJ,Z.alloc (.cells #[.string ea,.string eb,.string ec,.string ed,.int .i64 eu] 64)=hJ:=⟨_,rfl⟩);(have h0:Ext Z hJ:=by rw[<-hU];exact (Ext.refl Z).alloc _);(have gm:Hid (RSl hJ 5 (.slice (some ⟨Z.heap.size,0,none⟩) 1 1) 1 (eCells ⟨ea,eb,ec,ed,eu⟩)):=gd (by rw[<-hU];exact ZY (cs:=eCells ⟨ea,eb,ec,ed,eu⟩) rfl (by decide)));(have Y:=gd (hr.out.next (J.trans h0)));clear C hV h0 g5 y4 u0 u1 u2 u3 u4 u5 u6 e0 e1 e2 e3 e4 e5 e6))
    go_roundw
    case rel=>exact ⟨k+1,E++ [⟨ea,eb,ec,ed,eu⟩],_,hv,by go_num,gd ⟨by rw[Zj,gU.out];rfl,hf.out,gk.out⟩⟩
    case measure=>simp[intOf];omega
  focus
   have gG:L.drop k= []:=ZB (by omega)
   have S:=U.out.2.1
   rw[gG] at S
   have hy:entsJ L= .ok E:=(by rw[S];simp[entsFrom,entsJ])
   have gB:=gZ.out E hy
   have he:=gd U.out.2.2
   have gn:Hid (∀W':World,Ext wr W'->Calls prog 43 #[.agg #[.slice none 0 0,.string shm,.string sti,.string shm,.int .i64 tt,.slice rA E.length rc]] W' λe w2=>(∃y:Fc,e= .returned (.tuple #[.agg (cellsC y).toArray,.int .i64 (errF ⟨[],shm,sti,shm,tt,E⟩:Nat)])/\y.f=normF ⟨[],shm,sti,shm,tt,E⟩/\RdC w2 y/\∀q,q<W'.heap.size->awayC y (some q))/\Ext W' w2):=gd λW' hx=>(U8 ⟨.slice none 0 0,.slice rA E.length rc,⟨[],shm,sti,shm,tt,E⟩⟩ W' (gX.out.ext ((R.out.trans he.out.ext).trans hx)) gB ⟨RSl.nil W' 1,(RSl.of_own he.out.o).ext hx⟩).mono λe w2 ⟨y,h1,h2,h3,h4,h5⟩=>⟨⟨y,h1,h2,h3,h4⟩,h5⟩
   have hf:=gd hy
   obtain ⟨EF,h8⟩:∃n,errF ⟨[],shm,sti,shm,tt,E⟩=n:=⟨_,rfl⟩
   simp only[h8] at gn
   have gT:=gd h8
   have d0:=Zb _ _ 0 _ _ _ U.out.2.2.f
   have d1:=Zb _ _ 1 _ _ _ U.out.2.2.f
   have fe:=Zb _ _ 2 _ _ _ U.out.2.2.f
   have d3:=Zb _ _ 3 _ _ _ U.out.2.2.f
   have d4:=Zb _ _ 4 _ _ _ U.out.2.2.f
   have gC:w.heap.size+1≠g:=by
    have h1:=hq.out
    have h2:=(Ze.1 hH.out).1
    omega
   have gY:=gd gC
   clear gG S hy gB U h8 hG gC e0 e1 e2 e3 e4 e5 e6
   go_wp2_with (first|(refine Zg rfl 32 (.tmp 2) (.tmp 115) rfl (w.heap.size+1) #[.slice yA F.length yc,.string hp,.string G,.string O,.int .i64 X,.slice yB D.length yd] rfl rfl _ _ hY ZA rfl YQ ?_)|(refine Zg rfl 32 (.tmp 9) (.tmp 113) rfl g #[.slice yA F.length yc,.string hp,.string G,.string O,.int .i64 X,.slice yB D.length yd] rfl rfl _ _ gH ZA rfl YQ ?_;rw[ha])|(go_at_call 43;(have Q:=gn.out wr (Ext.refl wr));(with_reducible refine Za Q ?_);clear Q;rintro e gN ⟨⟨y,rfl,gi,fk,gL⟩,hD⟩;(obtain ⟨yp,fw,⟨F,hp,G,O,X,D⟩⟩:=y);(obtain ⟨hl,hm⟩:=fk);(dsimp only at gi hl hm);(obtain ⟨yA,yc,rfl, -, -⟩:=hl.form);(obtain ⟨yB,yd,rfl, -, -⟩:=hm.form);(have fa:=gd gi);(have fb:=gd (Z9 hl hm));(have gs:=gd gL);(unfold cellsC fCells;dsimp only);(have gH:=hD.heap he.out.f);(obtain ⟨hh,ha⟩:∃hh,gN.setRow g #[Value.slice yA F.length yc,.string hp,.string G,.string O,.int .i64 X,.slice yB D.length yd]=hh:=⟨_,rfl⟩);(have V:hh.heap[g]? =some (.cells #[Value.slice yA F.length yc,.string hp,.string G,.string O,.int .i64 X,.slice yB D.length yd] 32 (0,0)):=by rw[<-ha];exact Zk _ _ _ _ _ _ gH);(have n0:=Zb _ _ 0 _ _ _ V);(have n1:=Zb _ _ 1 _ _ _ V);(have n2:=Zb _ _ 2 _ _ _ V);(have n3:=Zb _ _ 3 _ _ _ V);(have n4:=Zb _ _ 4 _ _ _ V);(have n5:=Zb _ _ 5 _ _ _ V);(have hY:hh.heap[w.heap.size+1]? =some (.cells #[.slice none 0 0,.string ⟨#[]⟩,.string ⟨#[]⟩,.string ⟨#[]⟩,.int .i64 0,.slice none 0 0] 32 (0,0)):=by rw[<-ha];exact (ZD _ _ _ _ gY.out).trans ((he.out.ext.trans hD).heap hH.out));clear gi hl hm gL d0 d1 fe d3 d4 g5 y4))
   ((try simp only[Exit.inBlock,Exit.then]);refine Zm (Zw rfl _ _ _ _ _ _ _ rfl (Zk _ _ _ _ _ _ hY) underlying32 rfl ZA) rfl ?_)
   rw[hf.out]
   have fi:=(Ze.1 he.out.f).1
   have fj:=Z3 (Ze.1 hH.out).1 he.out.ext.size
   have hM:RdC hh ⟨.slice yA F.length yc,.slice yB D.length yd,⟨F,hp,G,O,X,D⟩⟩:=(by rw[<-ha];exact RdC.grown (x:=⟨.slice yA F.length yc,.slice yB D.length yd,⟨F,hp,G,O,X,D⟩⟩) fb.out (Yh gN g _) (gs.out g fi))
   have hX:Ext W1 hh:=(by rw[<-ha];exact (he.out.ext.trans hD).setRow hq.out _)
   exact ⟨⟨_,by rw[gT.out];rfl,fa.out,hM.grown (Yh hh (w.heap.size+1) _) (gs.out _ fj)⟩,(R.out.trans hX).setRow (ZM _) _⟩
end
end Go.Proofs.YthlnaldahkgjnaaGreatDoor
