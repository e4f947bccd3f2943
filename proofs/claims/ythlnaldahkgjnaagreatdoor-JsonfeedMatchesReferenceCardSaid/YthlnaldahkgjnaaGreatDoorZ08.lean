/- Parts of the proof: contracts and plain laws. -/
import Derived.Test.YthlnaldahkgjnaaGreatDoorZ05
namespace Go.Proofs.YthlnaldahkgjnaaGreatDoor
open Go Go.RowKit Go.WideMaps Go.Maps _root_.Go.Proofs.Tryz
set_option linter.unusedVariables false
set_option linter.unusedSimpArgs false
set_option maxRecDepth 100000
set_option maxHeartbeats 16000000
section
def eok (e:Ent):Prop:=i64ok e.upd/\e.id.size+e.title.size+e.link.size+e.content.size<=16777216
theorem ZfV (e:Ent) (h:eok e):jok (entJ e):=by
 obtain ⟨C,D⟩:=h;unfold entJ;rw[G7];intro j A;simp only[ZG,YD,YK] at A;rcases A with rfl|rfl|rfl|rfl|rfl<;>simp only[jok]
 ·omega
 ·omega
 ·omega
 ·omega
 ·exact C
theorem Zey (e:Ent) (h:eok e):(jtext (entJ e)).length<=140737488355328:=by
 obtain ⟨j,A⟩:=h;unfold entJ;rw[UR];have a:=XD e.id.data.toList;have b:=XD e.title.data.toList;have c:=XD e.link.data.toList;have d:=XD e.content.data.toList;have f:=Lib.itoa_length_le e.upd j.1 j.2;rw[Zn] at a b c d;simp only[Ym,Y6,Et,Es,commas,Zr,Zj,ZF];omega
attribute [local go_sem ↓] Go.wp_at_zero Go.wp_at_succ
theorem QP (e:Ent) (w:World) (hE:Env w) (ha:eok e):
 Calls prog 167 #[.agg (eCells e).toArray] w λx w'=>x= .returned (.string (entryKey e))/\Ext w w':=by
 obtain ⟨id,title,link,content,upd⟩:=e;obtain ⟨i0,hk,hm,hn,ho⟩:=Jh;have hd:(w.alloc (.cells (eCells ⟨id,title,link,content,upd⟩).toArray 64)).heap.size=w.heap.size+1:=by show (w.heap.push _).size=_;simp
 have hR:RSl (((w.alloc (.cells (eCells ⟨id,title,link,content,upd⟩).toArray 64)).alloc (.cells #[Value.string id,Value.string title,Value.string link,Value.string content] 9)).drew) 1 (.slice (some ⟨w.heap.size+1,0,none⟩) 4 4) 4 [Value.string id,.string title,.string link,.string content]:=by have:=RSl.ext (ZY (w:=w.alloc (.cells (eCells ⟨id,title,link,content,upd⟩).toArray 64)) (size:=1) (n:=4) (e:=9) (cs:= [Value.string id,.string title,.string link,.string content]) rfl (by decide)) (Ext.refl _).drew;rw[hd] at this;exact this
 have F:(((w.alloc (.cells (eCells ⟨id,title,link,content,upd⟩).toArray 64)).alloc (.cells #[Value.string id,Value.string title,Value.string link,Value.string content] 9)).drew).heap.size=w.heap.size+2:=by show ((w.heap.push _).push _).size=_;simp
 obtain ⟨X,hX⟩:∃X,([id,title,link,content].map strCells).flatten=X:=⟨_,rfl⟩;have A:Calls prog 190 #[.slice (some ⟨w.heap.size+1,0,none⟩) 4 4] (((w.alloc (.cells (eCells ⟨id,title,link,content,upd⟩).toArray 64)).alloc (.cells #[Value.string id,Value.string title,Value.string link,Value.string content] 9)).drew) λe w'=>∃v',e= .returned v'/\w'.ownsRow (w.heap.size+2) 25 7 v' 4 X/\Ext (((w.alloc (.cells (eCells ⟨id,title,link,content,upd⟩).toArray 64)).alloc (.cells #[Value.string id,Value.string title,Value.string link,Value.string content] 9)).drew) w':=by have:=GC (.slice (some ⟨w.heap.size+1,0,none⟩) 4 4) [id,title,link,content] _ hR (by show 4*96<=1407374883553;decide);rw[F,hX] at this;exact this
 have HS:=gd A;clear A hd;have U:X++intCells upd=([strCells id,strCells title,strCells link,strCells content,intCells upd]:List (List Value)).flatten:=by rw[<-hX];simp
 have J:∀w' v,w'.ownsRow (w.heap.size+2) 25 7 v (4+1) (X++intCells upd)->RVs w' v [.str id,.str title,.str link,.str content,.int upd] [strCells id,strCells title,strCells link,strCells content,intCells upd]:=by
  intro w' v I;rw[U] at I;refine ⟨rfl,RSl.of_own I,1,λi j c Y hc=> ?_⟩
  match i with
  |0|1|2|3=>simp at Y hc;subst Y hc;exact Jm _ _
  |4=>simp at Y hc;subst Y hc;exact E5 _ _
  |i+5=>simp at Y
 have R:=gd J;clear J U hX;have Z:=λw' cs h=>KR (entJ ⟨id,title,link,content,upd⟩) cs w' h;have H:jok (entJ ⟨id,title,link,content,upd⟩):=ZfV _ ha;have C:(jtext (entJ ⟨id,title,link,content,upd⟩)).length<=140737488355328:=Zey _ ha;have hh:=gd (λw' cs h hi=>Z w' cs h H hi C);clear Z H C;have HR:=gd hR;clear hR;unfold eCells at*;go_enter func167,ntmps167;go_wp2
 go_region_held3 (λw'=>Ext w w'/\w'.cell? ⟨w.heap.size,0,none⟩=some (.string id)/\w'.cell? ⟨w.heap.size,1,none⟩=some (.string title)/\w'.cell? ⟨w.heap.size,2,none⟩=some (.string link)/\w'.cell? ⟨w.heap.size,3,none⟩=some (.string content)/\w'.cell? ⟨w.heap.size,4,none⟩=some (.int .i64 upd))
  ((go_split_ands;refine ⟨?_,?_,?_,?_,?_,?_⟩<;>first|assumption|((repeat (first|exact Ext.refl _|assumption|apply Ext.drew|apply Ext.alloc));done)|((refine Ext.trans ?_ (by assumption));(repeat (first|exact Ext.refl _|assumption|apply Ext.drew|apply Ext.alloc));done)|((refine Ext.cell (by assumption) ?_);first|assumption|(go_keep;done))|(go_keep;done)))
  (first|(go_at_call 190;refine HS.out.mono ?_;rintro e w1 ⟨v1,rfl,D,hf⟩)|(go_at_call 191;refine (Ze4 _ _).mono ?_;rintro e w2 ⟨he,G⟩;(replace he:e= .returned (.agg #[.int .i64 2,.bool false,.int .i64 upd,.string ⟨#[]⟩,.slice none 0 0,.slice none 0 0,.int .i64 0]):=he);subst he)|(refine Z5 _ (by rfl) (.tmp 15) (.tmp 19) _ (by rfl) (w.heap.size+2) 25 i0 _ 7 96 underlying22 hk hm hn ho rfl (by decide) v1 4 X (by rfl) (Yw D (by repeat (first|exact G|apply Ext.drew|apply Ext.alloc))) _ 1 (intCells upd) (by rfl) (RSl.ext (ZY rfl (by decide)) (by repeat (first|exact Ext.refl _|apply Ext.drew))) Vc (by decide) (by decide) (Zl (Nat.le_of_eq F.symm) (hf.trans (by repeat (first|exact G|apply Ext.drew|apply Ext.alloc))).size) ?_;intro v2 w3 O V S;have Q:=Ext.app (hf.trans (by repeat (first|exact G|apply Ext.drew|apply Ext.alloc))) V (Yw D (by repeat (first|exact G|apply Ext.drew|apply Ext.alloc))) (Nat.le_of_eq F);have K:Ext w w3:=(((Ext.refl w).alloc _).alloc _).drew.trans Q;have hq:=Q;clear Q V S)|(go_at_call 53;refine (ZbV _ _ _ _ (R.out _ _ O) (by show 5*96<=140737488355328;decide)).mono ?_;rintro e w4 ⟨hp,rfl,hb,hg⟩)|(go_at_call 56;refine (hh.out _ _ hb (hE.ext (K.trans hg))).mono ?_;rintro e w5 ⟨rfl,hl⟩))
 go_wp2;go_ret;exact ⟨rfl,K.trans (hg.trans hl)⟩
end
section
theorem Qi (x y:Int) (w:World):
 Calls prog 137 #[.int .i64 x,.int .i64 y] w λe w'=>e= .returned (.int .i64 (if x<y then -1 else if y<x then 1 else 0))/\w'=w:=by
 go_enter func137,ntmps137;go_wp2
 all_goals go_ret
 all_goals exact ⟨by simp_all,rfl⟩
theorem Km (x y:ByteArray) (w:World):
 Calls prog 138 #[.string x,.string y] w λe w'=>e= .returned (.int .i64 (sCmp x y))/\w'=w:=by
 unfold sCmp;go_enter func138,ntmps138;go_wp2
 all_goals go_ret
 all_goals exact ⟨by simp_all,rfl⟩
theorem Eb (x y:Int) (v:Value) (w:World) (h:RSl w 1 v 2 [.int .i64 x,.int .i64 y]):
 Calls prog 136 #[v] w λe w'=>e= .returned (.int .i64 (if x=0 then y else x))/\w'=w:=by
 obtain ⟨_,A,c,rfl,O,K,_,_⟩:=id h;obtain ⟨ad,rfl,I⟩:=h.at1 0 _ rfl;obtain ⟨G,H,D⟩:=h.at1 1 _ rfl;cases H;rw[add_zero] at I;have J:w.cell? ⟨ad.block,ad.off+1,none⟩=some (.int .i64 y):=D;clear D;by_cases C:x=0
 ·subst C;have j:(if (0:Int)=0 then y else 0)=y:=rfl;rw[j];by_cases F:y=0
  ·subst F;go_enter func136,ntmps136;go_wp2;refine Xe 3 ?_;rw[rounds_succ];go_wp2;rw[rounds_succ];go_wp2;rw[rounds_succ];go_wp2
   all_goals go_ret
   all_goals exact ⟨rfl,rfl⟩
  ·have R:(y==0)=false:=(by simpa using F);go_enter func136,ntmps136;go_wp2;refine Xe 2 ?_;rw[rounds_succ];go_wp2;rw[rounds_succ];go_wp2
   all_goals go_ret
   all_goals exact ⟨rfl,rfl⟩
 ·have Q:(x==0)=false:=by simpa using C
  rw[Zf C];go_enter func136,ntmps136;go_wp2;refine Xe 1 ?_;rw[rounds_succ];go_wp2
  all_goals go_ret
  all_goals exact ⟨rfl,rfl⟩
attribute [local go_sem ↓] Go.wp_at_zero Go.wp_at_succ
theorem Qj (a b:Ent) (w:World):
 Calls prog 94 #[.agg (eCells a).toArray,.agg (eCells b).toArray] w λx w'=>x= .returned (.int .i64 (entCmp a b))/\Ext w w':=by
 obtain ⟨D,O,R,I,j⟩:=a;obtain ⟨F,Q,S,J,A⟩:=b;unfold entCmp;obtain ⟨ci,G⟩:∃ci,iCmp A j=ci:=⟨_,rfl⟩;obtain ⟨cs,H⟩:∃cs,sCmp D F=cs:=⟨_,rfl⟩;simp only[G,H];have U:=gd (λw'=>Qi A j w');have X:=gd (λw'=>Km D F w');rw[H] at X;rw[show (if A<j then (-1:Int) else if j<A then 1 else 0)=ci from G] at U;have V:=gd (λv w' h=>Eb ci cs v w' h);obtain ⟨K,C⟩:∃K,(if ci=0 then cs else ci)=K:=⟨_,rfl⟩;rw[C] at V;rw[C];clear G H C;unfold eCells;go_enter func94,ntmps94;go_wp2
 go_region_held3 (λw'=>Ext w w'/\w'.cell? ⟨w.heap.size,0,none⟩=some (.string D)/\w'.cell? ⟨w.heap.size,4,none⟩=some (.int .i64 j)/\w'.cell? ⟨w.heap.size+1,0,none⟩=some (.string F)/\w'.cell? ⟨w.heap.size+1,4,none⟩=some (.int .i64 A))
  ((go_split_ands;refine ⟨?_,?_,?_,?_,?_⟩<;>first|assumption|((repeat (first|exact Ext.refl _|assumption|apply Ext.drew|apply Ext.alloc));done)|((refine Ext.trans ?_ (by assumption));(repeat (first|exact Ext.refl _|assumption|apply Ext.drew|apply Ext.alloc));done)|((refine Ext.cell (by assumption) ?_);first|assumption|(go_keep;done))|(go_keep;done)))
  (first|(go_at_call 137;refine (U.out _).mono ?_;rintro e w1 ⟨rfl,rfl⟩)|(go_at_call 138;refine (X.out _).mono ?_;rintro e w2 ⟨rfl,rfl⟩)|(go_at_call 136;refine (V.out _ _ (UT (e:=3) (fr:=(0,0)) (cs:= [.int .i64 ci,.int .i64 cs]) ?hg (by rfl) (by decide))).mono ?_;(case hg=>exact Xl w _ _ _);rintro e Y ⟨rfl,rfl⟩))
 go_wp2;go_ret;exact ⟨rfl,((((Ext.refl w).alloc _).alloc _).alloc _).drew⟩
end
section
theorem Zbx (e:Ent) (w:World):Calls prog 166 #[.agg (eCells e).toArray] w λx w'=>x= .returned (.int .i64 e.upd)/\Ext w w':=by
 unfold eCells;go_enter func166,ntmps166;go_wp2;go_ret;exact ⟨rfl,(Ext.refl _).alloc _⟩
theorem Zdp (x y:Int):iCmp x y= -1\/iCmp x y=0\/iCmp x y=1:=by
 unfold iCmp;split
 ·exact Or.inl rfl
 ·split
  ·exact Or.inr (Or.inr rfl)
  ·exact Or.inr (Or.inl rfl)
attribute [local go_sem ↓] Go.wp_at_zero Go.wp_at_succ
theorem U2 (a b r:Ent) (w:World) (hE:Env w) (ha:eok a) (hb:eok b) (Z:(iCmp a.upd b.upd= -1/\b=r)\/(iCmp a.upd b.upd=1/\a=r)\/(iCmp a.upd b.upd=0/\Op.bytesLess (entryKey a).toList (entryKey b).toList=true/\b=r)\/(iCmp a.upd b.upd=0/\Op.bytesLess (entryKey a).toList (entryKey b).toList=false/\a=r)):
 Calls prog 165 #[.agg (eCells a).toArray,.agg (eCells b).toArray,.func (.func 166) #[] #[],.func (.func 167) #[] #[]] w
  λx w'=>x= .returned (.agg (eCells r).toArray)/\Ext w w':=by
 have he:=gd (λw'=>Zbx a w');have hf:=gd (λw'=>Zbx b w');have U:=gd (λw' h=>QP a w' h ha);have V:=gd (λw' h=>QP b w' h hb);have HC:=gd (λw'=>Qi a.upd b.upd w');rw[show (if a.upd<b.upd then (-1:Int) else if b.upd<a.upd then 1 else 0)=iCmp a.upd b.upd from rfl] at HC;generalize iCmp a.upd b.upd=ci at*;generalize entryKey a=ka at*;generalize entryKey b=kb at*;clear ha hb;rcases Z with ⟨hc,hr⟩|⟨hc,hr⟩|⟨hc,hT,hr⟩|⟨hc,hT,hr⟩
 all_goals
  subst hr
  subst hc
  obtain ⟨O,D,G,j,I⟩:=a
  obtain ⟨Q,F,H,A,J⟩:=b
  unfold eCells at*
  dsimp only at*
  go_enter func165,ntmps165
  go_wp2
  obtain ⟨W,K⟩:∃W,W=((w.alloc (.cells #[.string O,.string D,.string G,.string j,.int .i64 I] 64)).alloc (.cells #[.string Q,.string F,.string H,.string A,.int .i64 J] 64)).alloc (.cells #[.string ⟨#[]⟩,.string ⟨#[]⟩,.string ⟨#[]⟩,.string ⟨#[]⟩,.int .i64 0] 64):=⟨_,rfl⟩
  rw[<-K]
  have hd:Ext w W:=by rw[K];exact (((Ext.refl w).alloc _).alloc _).alloc _
  have Y:∀d:Aft W,d.w.heap[w.heap.size+1+1]? =some (.cells #[.string ⟨#[]⟩,.string ⟨#[]⟩,.string ⟨#[]⟩,.string ⟨#[]⟩,.int .i64 0] 64):=by rw[K];exact λd=>d.ext.heap (Xl w _ _ _)
  have a0:∀d:Aft W,d.w.cell? ⟨w.heap.size,0,none⟩=some (.string O):=by rw[K];exact λd=>YJ d 0 _ rfl
  have a1:∀d:Aft W,d.w.cell? ⟨w.heap.size,1,none⟩=some (.string D):=by rw[K];exact λd=>YJ d 1 _ rfl
  have a2:∀d:Aft W,d.w.cell? ⟨w.heap.size,2,none⟩=some (.string G):=by rw[K];exact λd=>YJ d 2 _ rfl
  have a3:∀d:Aft W,d.w.cell? ⟨w.heap.size,3,none⟩=some (.string j):=by rw[K];exact λd=>YJ d 3 _ rfl
  have a4:∀d:Aft W,d.w.cell? ⟨w.heap.size,4,none⟩=some (.int .i64 I):=by rw[K];exact λd=>YJ d 4 _ rfl
  have b0:∀d:Aft W,d.w.cell? ⟨w.heap.size+1,0,none⟩=some (.string Q):=by rw[K];exact λd=>Jz d 0 _ rfl
  have b1:∀d:Aft W,d.w.cell? ⟨w.heap.size+1,1,none⟩=some (.string F):=by rw[K];exact λd=>Jz d 1 _ rfl
  have b2:∀d:Aft W,d.w.cell? ⟨w.heap.size+1,2,none⟩=some (.string H):=by rw[K];exact λd=>Jz d 2 _ rfl
  have b3:∀d:Aft W,d.w.cell? ⟨w.heap.size+1,3,none⟩=some (.string A):=by rw[K];exact λd=>Jz d 3 _ rfl
  have b4:∀d:Aft W,d.w.cell? ⟨w.heap.size+1,4,none⟩=some (.int .i64 J):=by rw[K];exact λd=>Jz d 4 _ rfl
  clear K
  refine rA ?_
  repeat (quiet_step ((first|(go_at_call 166;with_reducible exact ZX (he.out _))|(go_at_call 166;with_reducible exact ZX (hf.out _))|(go_at_call 137;with_reducible exact YU (HC.out _)))))
  refine YB ?_
  rintro _ ⟨C,rfl⟩
  have R:Env C.w:=hE.ext (hd.trans C.ext)
  have hh:=hd.trans C.ext
  have X:=Y C
  have hi:∀d:Aft C.w,d.w.cell? ⟨w.heap.size,0,none⟩=some (.string O):=λd=>a0 ⟨_,C.ext.trans d.ext⟩
  have hj:∀d:Aft C.w,d.w.cell? ⟨w.heap.size,1,none⟩=some (.string D):=λd=>a1 ⟨_,C.ext.trans d.ext⟩
  have hk:∀d:Aft C.w,d.w.cell? ⟨w.heap.size,2,none⟩=some (.string G):=λd=>a2 ⟨_,C.ext.trans d.ext⟩
  have hl:∀d:Aft C.w,d.w.cell? ⟨w.heap.size,3,none⟩=some (.string j):=λd=>a3 ⟨_,C.ext.trans d.ext⟩
  have hm:∀d:Aft C.w,d.w.cell? ⟨w.heap.size,4,none⟩=some (.int .i64 I):=λd=>a4 ⟨_,C.ext.trans d.ext⟩
  have hn:∀d:Aft C.w,d.w.cell? ⟨w.heap.size+1,0,none⟩=some (.string Q):=λd=>b0 ⟨_,C.ext.trans d.ext⟩
  have ho:∀d:Aft C.w,d.w.cell? ⟨w.heap.size+1,1,none⟩=some (.string F):=λd=>b1 ⟨_,C.ext.trans d.ext⟩
  have hp:∀d:Aft C.w,d.w.cell? ⟨w.heap.size+1,2,none⟩=some (.string H):=λd=>b2 ⟨_,C.ext.trans d.ext⟩
  have hq:∀d:Aft C.w,d.w.cell? ⟨w.heap.size+1,3,none⟩=some (.string A):=λd=>b3 ⟨_,C.ext.trans d.ext⟩
  have hs:∀d:Aft C.w,d.w.cell? ⟨w.heap.size+1,4,none⟩=some (.int .i64 J):=λd=>b4 ⟨_,C.ext.trans d.ext⟩
  have hg:∀d:Aft C.w,d.w.heap[w.heap.size+1+1]? =some (.cells #[.string ⟨#[]⟩,.string ⟨#[]⟩,.string ⟨#[]⟩,.string ⟨#[]⟩,.int .i64 0] 64):=λd=>d.ext.heap X
  clear a0 a1 a2 a3 a4 b0 b1 b2 b3 b4 Y X
  generalize C.w=W1 at*
  go_wp2
  refine rA ?_
  repeat (first|go_big_quiet_step ((first|(go_at_call 167;with_reducible exact ZX (U.out _ (R.ext (Aft.ext _))))|(go_at_call 167;with_reducible exact ZX (V.out _ (R.ext (Aft.ext _))))))|quiet_step ((first|(go_at_call 167;with_reducible exact ZX (U.out _ (R.ext (Aft.ext _))))|(go_at_call 167;with_reducible exact ZX (V.out _ (R.ext (Aft.ext _)))))))
  refine YB ?_
  rintro _ ⟨d2,rfl⟩
  have S:=hg d2
  go_wp2_with (first|(refine Zg rfl 64 (.tmp 8) (.tmp 32) rfl (w.heap.size+1+1) _ rfl rfl _ _ S Z7 rfl (UD (Z1 ⟨Q,F,H,A,J⟩)) ?_)|(refine Zg rfl 64 (.tmp 8) (.tmp 33) rfl (w.heap.size+1+1) _ rfl rfl _ _ S Z7 rfl (UD (Z1 ⟨O,D,G,j,I⟩)) ?_))
  ((try simp only[Exit.inBlock,Exit.then]);refine Zm (Zz rfl _ _ _ _ _ _ _ rfl (Zk _ _ _ _ _ _ S) underlying64 rfl Z7) rfl ?_)
  exact ⟨rfl,(hh.trans d2.ext).setRow (by omega) _⟩
theorem Zb4 (a b:Ent) (w:World) (j:Env w) (A:eok a) (C:eok b):
 Calls prog 165 #[.agg (eCells a).toArray,.agg (eCells b).toArray,.func (.func 166) #[] #[],.func (.func 167) #[] #[]] w
  λx w'=>x= .returned (.agg (eCells (laterE a b)).toArray)/\Ext w w':=by
 rcases Zdp a.upd b.upd with h|h|h
 ·have e:laterE a b=b:=by unfold laterE laterB;rw[h];rfl
  rw[e];exact U2 a b b w j A C (Or.inl ⟨h,rfl⟩)
 ·cases hT:Op.bytesLess (entryKey a).toList (entryKey b).toList with
  |true=>have e:laterE a b=b:=(by unfold laterE laterB;rw[h,hT];rfl);rw[e];exact U2 a b b w j A C (Or.inr (Or.inr (Or.inl ⟨h,hT,rfl⟩)))
  |false=>have e:laterE a b=a:=(by unfold laterE laterB;rw[h,hT];rfl);rw[e];exact U2 a b a w j A C (Or.inr (Or.inr (Or.inr ⟨h,hT,rfl⟩)))
 ·have e:laterE a b=a:=by unfold laterE laterB;rw[h];rfl
  rw[e];exact U2 a b a w j A C (Or.inr (Or.inl ⟨h,rfl⟩))
theorem KT (a b:Ent) (w:World) (hE:Env w) (ha:eok a) (hb:eok b):
 Calls prog 125 #[.agg (eCells a).toArray,.agg (eCells b).toArray] w λx w'=>x= .returned (.agg (eCells (laterE a b)).toArray)/\Ext w w':=by
 have K:∀(A B C:Obj),Ext w (((w.alloc A).alloc B).alloc C):=λA B C=>(((Ext.refl w).alloc A).alloc B).alloc C;have HL:=gd (λ(w':World) (h:Ext w w')=>Zb4 a b w' (hE.ext h) ha hb);generalize laterE a b=r at*;obtain ⟨hc,Q,S,G,Y⟩:=a;obtain ⟨hd,R,U,H,Z⟩:=b;obtain ⟨V,D,F,j,O⟩:=r;clear ha hb;have X:=gd K;clear K;unfold eCells at*;go_enter func125,ntmps125
 go_wp2_with (first|(go_at_call 165;refine (HL.out _ (X.out _ _ _)).mono ?_;rintro e w1 ⟨rfl,J⟩;(have I:=J.heap (Xl w _ _ _)))|(refine Zg rfl 64 (.tmp 4) (.tmp 7) rfl (w.heap.size+1+1) _ rfl rfl _ _ I Z7 rfl (UD (Z1 ⟨V,D,F,j,O⟩)) ?_))
 ((try simp only[Exit.inBlock,Exit.then]);refine Zm (Zz rfl _ _ _ _ _ _ _ rfl (Zk _ _ _ _ _ _ I) underlying64 rfl Z7) rfl ?_);exact ⟨rfl,((X.out _ _ _).trans J).setRow (by omega) _⟩
end
section
abbrev entR (w:World) (e:Ent):World:=((w.alloc (.cells (eCells e).toArray 64)).alloc (.cells (eCells zeroE).toArray 64)).alloc (.cells #[.string e.id,.string e.title,.string e.link,.string e.content] 9)
theorem Zah (e:Ent) (w:World) (j:eokS e):
 Calls prog 83 #[.slice (some ⟨w.heap.size+1+1,0,none⟩) 4 4] (entR w e) λx w'=>x= .returned (.int .i64 (firstErr (strsE e):Nat))/\Ext (entR w e) w':=
 Vh _ (strsE e) _ (UT (e:=9) (fr:=(0,0)) (cs:= [_,_,_,_]) (Xl w _ _ _) rfl (by decide)) (by
  obtain ⟨A,C,D,F⟩:=j;intro s h;simp only[strsE,ZG,YD,YK] at h;rcases h with rfl|rfl|rfl|rfl<;>assumption)
theorem U6 (s:ByteArray) (w:World) (h:s.size<=16777216):
 Calls prog 81 #[.string s] w λe w'=>e= .returned (.string (collapse s))/\Ext w w':=Vi s w (by omega)
attribute [local go_sem] calm1
theorem Zai (e:Ent) (w:World) (hE:Env w) (hs:eokS e):
 Calls prog 84 #[.agg (eCells e).toArray] w λx w'=>x= .returned (.tuple #[.agg (eCells (normE e)).toArray,.int .i64 (errE e:Nat)])/\Ext w w':=by
 have V:=gd (Zah e w hs);have hi:Ext w (entR w e):=(((Ext.refl w).alloc _).alloc _).alloc _;by_cases O:firstErr (strsE e)=0
 focus
  rw[O] at V
  have hd:=Gn (e:=e)
  have HF:=gd hd
  clear hd
  obtain ⟨s1,s2,s3,s4⟩:=hs
  obtain ⟨id,title,link,content,upd⟩:=e
  simp only at s1 s2 s3 s4
  unfold entR eCells zeroE noS at*
  go_enter func84,ntmps84
  go_wp2_with (first|(go_at_call 83;refine (V.out).mono ?_;rintro e w1 ⟨rfl,C⟩;(have G:=Gt C);(have c0:=YJ ⟨_,C⟩ 0 _ rfl);(have c1:=YJ ⟨_,C⟩ 1 _ rfl);(have c2:=YJ ⟨_,C⟩ 2 _ rfl);(have c3:=YJ ⟨_,C⟩ 3 _ rfl);(have c4:=YJ ⟨_,C⟩ 4 _ rfl);dsimp only at c0 c1 c2 c3 c4))
  have a0:∀d:Aft w1,d.w.cell? ⟨w.heap.size,0,none⟩=some (.string id):=Aft.cell c0
  have a1:∀d:Aft w1,d.w.cell? ⟨w.heap.size,1,none⟩=some (.string title):=Aft.cell c1
  have a2:∀d:Aft w1,d.w.cell? ⟨w.heap.size,2,none⟩=some (.string link):=Aft.cell c2
  have a3:∀d:Aft w1,d.w.cell? ⟨w.heap.size,3,none⟩=some (.string content):=Aft.cell c3
  have a4:∀d:Aft w1,d.w.cell? ⟨w.heap.size,4,none⟩=some (.int .i64 upd):=Aft.cell c4
  have he:∀d:Aft w1,d.w.heap[w.heap.size+1]? =some (.cells #[.string ⟨#[]⟩,.string ⟨#[]⟩,.string ⟨#[]⟩,.string ⟨#[]⟩,.int .i64 0] 64):=λd=>d.ext.heap G
  clear c0 c1 c2 c3 c4 G
  refine Yy 15 (.cells #[.string ⟨#[]⟩,.string ⟨#[]⟩,.string ⟨#[]⟩,.string ⟨#[]⟩,.int .i64 0] 64) _ (by kernel_rfl) rfl (by kernel_rfl) (λa w K h=>by go_simp;exact h) ?_
  repeat (refine YH (λK hK=> ?_);go_simp;first|(refine hK _ ?_;clear hK K)|(apply Ye;refine ⟨λ_=> ?_,hK _ ?_⟩;(go_at_call 81;exact ZP (U6 _ _ (by assumption)));clear hK K))
  refine YO ?_
  intro g c hg J
  refine Yk rfl 64 (.tmp 5) (.tmp 34) rfl g _ rfl rfl _ _ J Z7 rfl (UD (Z1 ⟨collapse id,collapse title,collapse link,collapse content,upd⟩)) ?_
  intro W3 ha Y _
  have R:Ext w1 W3:=Y w1 c.ext hg
  have U:=he ⟨W3,R⟩
  have e4:=a4 ⟨W3,R⟩
  dsimp only at U e4
  obtain ⟨d0,d1,d2,d3,d4⟩:=UC ha
  clear J Y ha a0 a1 a2 a3 a4 he
  have hf:∀n,errE ⟨id,title,link,content,upd⟩=n->n≠0->normE ⟨id,title,link,content,upd⟩=zeroE:=λn h h'=>by unfold normE;rw[h,Zf h']
  have hc:errE ⟨id,title,link,content,upd⟩=if collapse id=noS then 19 else if inT upd then 0 else 3:=by unfold errE;rw[Zf (by simpa using O)]
  have F:=gd hf
  have H:=gd hc
  clear hf hc O HF V
  by_cases S:collapse id=noS
 focus
  have A:=H.out
  rw[Zi S] at A
  have j:=F.out _ A (by decide)
  have hj:(collapse id).toList= []:=by rw[S,Yx];rfl
  have X:=gd (Z9 A j)
  clear A j S H F
  go_wp2_with (first|(refine Zg rfl 64 (.tmp 2) (.tmp 38) rfl (w.heap.size+1) _ rfl rfl _ _ U Z7 rfl (UD (Z1 zeroE)) ?_))
 rotate_left
 have hj:=XS S;have A:=H.out;rw[Zf S] at A;clear H S;by_cases I:upd< -62135596800
 focus
  have j:errE ⟨id,title,link,content,upd⟩=3:=by rw[A,Zf];unfold inT;simp;omega
  have D:=F.out _ j (by decide)
  have X:=gd (Z9 j D)
  have hl:=Yg I
  clear A j D F
  go_wp2_with (first|(refine Zg rfl 64 (.tmp 2) (.tmp 47) rfl (w.heap.size+1) _ rfl rfl _ _ U Z7 rfl (UD (Z1 zeroE)) ?_))
 rotate_left
 have hl:=Ya I;by_cases Q:253402300799<upd
 focus
  have j:errE ⟨id,title,link,content,upd⟩=3:=by rw[A,Zf];unfold inT;simp;omega
  have D:=F.out _ j (by decide)
  have X:=gd (Z9 j D)
  have hh:=Yg Q
  clear A j D F I
  go_wp2_with (first|(refine Zg rfl 64 (.tmp 2) (.tmp 47) rfl (w.heap.size+1) _ rfl rfl _ _ U Z7 rfl (UD (Z1 zeroE)) ?_))
 rotate_left
 focus
  have hh:=Ya Q
  have j:errE ⟨id,title,link,content,upd⟩=0:=by rw[A,Zi];unfold inT;simp;omega
  have D:normE ⟨id,title,link,content,upd⟩=⟨collapse id,collapse title,collapse link,collapse content,upd⟩:=by unfold normE;rw[Zi j];rfl
  have X:=gd (Z9 j D)
  clear A j D F I Q
  go_wp2_with (first|(refine Zg rfl 64 (.tmp 2) (.tmp 48) rfl (w.heap.size+1) _ rfl rfl _ _ U Z7 rfl (UD (Z1 ⟨collapse id,collapse title,collapse link,collapse content,upd⟩)) ?_))
 rotate_left
 ·have A:errE e=firstErr (strsE e):=by unfold errE;rw[Zi O]
  have j:normE e=zeroE:=by unfold normE;rw[Zf (by rw[A];exact O)]
  rw[A,j];clear A j;obtain ⟨E,Z⟩:∃E,firstErr (strsE e)=E:=⟨_,rfl⟩;rw[Z] at V O|-;have hb:((E:Int) !=0)=true:=by simp;omega
  clear Z O;obtain ⟨id,title,link,content,upd⟩:=e;unfold entR eCells zeroE noS at*;go_enter func84,ntmps84
  go_wp2_with (first|(go_at_call 83;refine (V.out).mono ?_;rintro e w1 ⟨rfl,C⟩;(have G:=Gt C))|(refine Zg rfl 64 (.tmp 2) (.tmp 18) rfl (w.heap.size+1) _ rfl rfl _ _ G Z7 rfl (UD (Z1 zeroE)) ?_))
  ((try simp only[Exit.inBlock,Exit.then]);refine Zm (ZW rfl _ _ _ _ _ _ _ rfl (Zk _ _ _ _ _ _ G) underlying64 rfl Z7) rfl ?_);exact ⟨rfl,(hi.trans C).setRow (by omega) _⟩
 all_goals
  ((try simp only[Exit.inBlock,Exit.then]);refine Zm (ZW rfl _ _ _ _ _ _ _ rfl (Zk _ _ _ _ _ _ U) underlying64 rfl Z7) rfl ?_)
  exact ⟨by rw[X.out.1,X.out.2];rfl,((hi.trans C).trans R).setRow (by omega) _⟩
end
def qAll (l:List ByteArray):ByteArray:=if l.all vld then str (commas (l.map λs=>quoteL s.data.toList)) else noS
def total (l:List ByteArray):Nat:=(l.map λs=>s.size).sum
theorem Kn (l:List ByteArray):(commas (l.map λs=>quoteL s.data.toList)).length<=6*total l+3*l.length:=by
 induction l with
 |nil=>simp[commas,total]
 |cons s t ih=>
  have h:=XD s.data.toList;rw[Zn] at h;cases t with
  |nil=>simp[commas,total];omega
  |cons u r=>have e:total (s::u::r)=s.size+total (u::r):=(by simp[total]);rw[e];simp only[Ym,commas,Zj,Zr] at ih|-;omega
theorem Zcx (l:List ByteArray) (k:Nat):total (l.take k)<=total l:=by
 induction l generalizing k with
 |nil=>simp[total]
 |cons s t ih=>
  cases k with
  |zero=>simp[total]
  |succ k=>have:=ih k;simp[total] at this|-;omega
theorem VR (a b:List UInt8):str a++str b=str (a++b):=by
 apply Xi;rw[Yz,ByteArray.data_append,Array.toList_append,Yz,Yz]
theorem Zfs {l:List ByteArray} {s:ByteArray} (h:s∈l) (j:vld s=false):qAll l=noS:=by
 unfold qAll;rw[Zf];simp only[Yn];intro A;rw[A s h] at j;cases j
theorem IK (v:Value) (l:List ByteArray) (w:World) (h:RSl w 1 v l.length (l.map Value.string)) (ht:total l<=16777216) (hn:l.length<=1000000):
 Calls prog 202 #[v] w λe w'=>e= .returned (.string (qAll l))/\Ext w w':=by
 obtain ⟨_,A,c,rfl,hh,hf,_,_⟩:=id h;clear hh hf;obtain ⟨R,hR⟩:∃R,qAll l=R:=⟨_,rfl⟩;rw[hR];have HR:=gd hR;have HT:=gd ht;clear hR ht;go_enter func202,ntmps202;go_wp2;go_loopw [3,4] (λu i wr=>∃(k:Nat) (S:ByteArray),k<=l.length/\i= .int .i64 k/\u= .string S/\Hid (S=str (commas ((l.take k).map λs=>quoteL s.data.toList))/\(l.take k).all vld=true)/\S.size<=110000000/\Ext w wr) (λ_ i _=>l.length - (intOf i).toNat)
 case atStart=>exact ⟨0,_,Zt _,rfl,rfl,⟨rfl,rfl⟩,by decide,Ext.refl _⟩
 case round=>
  obtain ⟨k,S,hk,rfl,rfl,H,ho,hx⟩:=hrel;by_cases D:k<l.length
  ·obtain ⟨ad,rfl,O⟩:=(h.ext hx).at1 k (.string l[k]) (by rw[ZT,Zc D];rfl);have hb:l[k].size<=total l:=by
    have:∀(l:List ByteArray) (s:ByteArray),s∈l->s.size<=total l:=by
     intro l
     induction l with
     |nil=>intro s h;simp at h
     |cons u t ih=>
      intro s h;have e:total (u::t)=u.size+total t:=(by simp[total]);rcases ZG.1 h with h|h
      ·subst h;omega
      ·have:=ih s h;omega
    exact this l _ (ZO D)
   have X:=gd (Ia l[k] wr (by have:=HT.out;omega));have F:=ZO D;have I:l.take (k+1)=l.take k++ [l[k]]:=Zy D;have ha:=Kn (l.take (k+1));have hc:=Zcx l (k+1);have U:=XD l[k].data.toList;rw[Zn] at U;cases hv:vld l[k] with
   |false=>
    have hq:quoteS l[k]=(str [],5):=(by unfold quoteS;rw[Zf];unfold vld at hv;rw[hv];decide);rw[hq] at X;have HB:=gd (HR.out.symm.trans (Zfs F hv));generalize l[k]=s at*;clear hb F I ha hc U hv hq H HR
    go_wp2_with (first|(go_at_call 153;refine (X.out).mono ?_;rintro e w' ⟨rfl,G⟩))
    go_ret;exact ⟨by rw[HB.out];rfl,hx.trans G⟩
   |true=>
    have hq:quoteS l[k]=(str (quoteL l[k].data.toList),0):=(by unfold quoteS;unfold vld at hv;rw[Zi hv]);rw[hq] at X;have j:(if k=0 then str (quoteL l[k].data.toList) else S++str [44]++str (quoteL l[k].data.toList))=str (commas ((l.take (k+1)).map λs=>quoteL s.data.toList)):=by
     rw[I,Yp,Ym,Y6,UG];by_cases V:k=0
     ·subst V;simp
     ·have hi:(l.take k).map (λs=>quoteL s.data.toList)≠ []:=(by intro e;have:=Zo List.length e;rw[ZS,YR,ZF] at this;omega);rw[Zf V,Zf hi,H.out.1,VR,VR];simp
    have J:(l.take (k+1)).all vld=true:=(by rw[I,List.all_append,H.out.2];simp[hv]);have HN:=gd (Z9 j J);have he:(str (quoteL l[k].data.toList)).size<=100663300:=(by rw[Xg];have:=HT.out;omega);have Y:(str (commas ((l.take (k+1)).map λs=>quoteL s.data.toList))).size<=110000000:=(by rw[Xg];have:=HT.out;have hl:(l.take (k+1)).length<=1000000:=(by rw[YR];omega);omega);have hd:=gd Y;clear j J I ha hc U hv hq F hb Y;generalize l[k]=s at*;generalize str (quoteL s.data.toList)=Q at*;have hj:S.size+Q.size<=9223372036854775807:=(by omega);by_cases V:k=0
    ·subst V;have Z:S=str []:=H.out.1.trans rfl;have j:S++Q=Q:=(by rw[Z];apply Xi;simp);have C:=gd j;clear j Z H;rw[add_zero] at O
     go_wp2_with (first|(go_at_call 153;refine (X.out).mono ?_;rintro e w' ⟨rfl,G⟩))
     go_roundw
     case rel=>exact ⟨0+1,_,D,by go_num,rfl,⟨C.out.trans HN.out.1,HN.out.2⟩,by rw[C.out];exact Zl he (by decide),hx.trans G⟩
     case measure=>simp[intOf];omega
    ·have hm:(0:Int)<(k:Int):=(by omega);have j:=HN.out.1;rw[Zf V] at j;have hr:S.size+1<=9223372036854775807:=(by omega);have hs:S.size+1+Q.size<=9223372036854775807:=(by omega);have hp:(S++str [44]).size=S.size+1:=(by rw[ByteArray.size_append];rfl);have C:=gd j;clear j H V
     go_wp2_with (first|(go_at_call 153;refine (X.out).mono ?_;rintro e w' ⟨rfl,G⟩))
     go_roundw
     case rel=>exact ⟨k+1,_,D,by go_num,rfl,⟨C.out,HN.out.2⟩,by rw[show (S++⟨#[44]⟩++Q:ByteArray)=_ from C.out];exact hd.out,hx.trans G⟩
     case measure=>simp[intOf];omega
  ·have hg:k=l.length:=(by omega);subst hg;rw[ZC (Zd _)] at H;have K:R=S:=(by rw[<-HR.out,H.out.1];unfold qAll;rw[Zi H.out.2]);have HF:=gd K;clear H K HR;go_wp2;go_ret;exact ⟨by rw[HF.out];rfl,hx⟩
theorem EE {l:List ByteArray} (h:l.all vld=true):qAll l=str (commas (l.map λs=>quoteL s.data.toList)):=by unfold qAll;rw[Zi h]
theorem EX {e:Ent} (h:(strsE e).all vld=false):entryKey e=noS:=by
 unfold entryKey jwrite entJ;rw[Uw];rw[Zf]
 ·rfl
 ·simp only[strsE,vld,List.all_cons,List.all_nil,ZfN] at h;simp only[jvalid,List.all_cons,List.all_nil,ZfN];simp;intro j A C;simpa [j,A,C] using h
theorem Zdl {e:Ent} (h:(strsE e).all vld=true):goodE e:=by
 simp only[strsE,List.all_cons,List.all_nil,ZfN,ZU] at h;exact h
theorem IF {e:Ent} (h:(strsE e).all vld=true):entryKey e=str [91]++qAll (strsE e)++str [44]++itoaS e.upd++str [93]:=by
 rw[IE (Zdl h),EE h];unfold itoaS;rw[VR,VR,VR,VR]
 congr 1
 unfold entJ strsE;rw[UR];simp only[Ym,Y6,Zb0,ZbY,commas,Yl,X6,YF]
theorem Zgi {l:List ByteArray} (h:l.all vld=true) (j:l≠ []):(qAll l).toList.isEmpty=false:=by
 rw[EE h,XE,Yz];cases l with
 |nil=>exact absurd rfl j
 |cons s t=>
  cases t with
  |nil=>rfl
  |cons u r=>rfl
theorem ZdL {l:List ByteArray} (j:total l<=16777216) (h:l.length<=1000000):(qAll l).size<=110000000:=by
 unfold qAll;split
 ·rw[Xg];have:=Kn l;omega
 ·decide
theorem Vj (e:Ent) (w:World) (I:eok e):
 Calls prog 171 #[.agg (eCells e).toArray] w λx w'=>x= .returned (.string (entryKey e))/\Ext w w':=by
 obtain ⟨H,S⟩:=I;have F:RSl ((w.alloc (.cells (eCells e).toArray 64)).alloc (.cells #[.string e.id,.string e.title,.string e.link,.string e.content] 9)) 1 (.slice (some ⟨w.heap.size+1,0,none⟩) 4 4) 4 [.string e.id,.string e.title,.string e.link,.string e.content]:=by
  have:=ZY (w:=w.alloc (.cells (eCells e).toArray 64)) (size:=1) (n:=4) (e:=9) (cs:= [.string e.id,.string e.title,.string e.link,.string e.content]) rfl (by decide)
  rwa [Zp] at this
 have h:total (strsE e)<=16777216:=by simp[total,strsE];omega
 have C:=gd (IK _ (strsE e) _ F h (by simp[strsE]));have O:=gd (λw'=>GF e.upd w' H);have J:=ZdL h (by simp[strsE]);have G:(itoaS e.upd).size<=21:=by unfold itoaS;rw[Xg];exact Lib.itoa_length_le e.upd H.1 H.2
 cases hv:(strsE e).all vld with
 |false=>
  have A:=EX hv;have R:qAll (strsE e)=noS:=by unfold qAll;rw[hv];rfl
  rw[R] at C;rw[A];clear A R hv J G h O F S;obtain ⟨id,title,link,content,upd⟩:=e;unfold eCells noS at*;dsimp only at*;go_enter func171,ntmps171
  go_wp2_with (first|(go_at_call 202;refine (C.out).mono ?_;rintro e w1 ⟨rfl,j⟩))
  go_ret;exact ⟨rfl,(((Ext.refl w).alloc _).alloc _).trans j⟩
 |true=>
  have A:=IF hv;have U:=Zgi hv (by simp[strsE]);rw[A];clear A hv h F S;generalize qAll (strsE e)=Q at*;generalize itoaS e.upd=D at*;obtain ⟨id,title,link,content,upd⟩:=e;unfold eCells at*;dsimp only at*;have V:1+Q.size<=9223372036854775807:=by omega
  have z2:1+Q.size+1<=9223372036854775807:=by omega
  have z3:1+Q.size+1+D.size<=9223372036854775807:=by omega
  have z4:1+Q.size+1+D.size+1<=9223372036854775807:=by omega
  go_enter func171,ntmps171
  go_wp2_with (first|(go_at_call 202;refine (C.out).mono ?_;rintro e w1 ⟨rfl,j⟩;(have c4:=j.cell (p:=⟨w.heap.size,4,none⟩) (((Ext.refl _).alloc _:Ext (w.alloc _) _).boxed 4 _ rfl)))|(go_at_call 80;refine (O.out _).mono ?_;rintro e w2 ⟨rfl,K⟩))
  go_ret;exact ⟨rfl,((((Ext.refl w).alloc _).alloc _).trans j).trans K⟩
theorem Zb3 (x y:Int) (ka kb:ByteArray):laterB (iCmp x y) ka kb=(decide (x<y)||(decide (y=x) && !(Op.bytesLess kb.toList ka.toList||kb.toList==ka.toList))):=by
 have key:(!(Op.bytesLess kb.toList ka.toList||kb.toList==ka.toList))=Op.bytesLess ka.toList kb.toList:=by
  cases h:Op.bytesLess ka.toList kb.toList with
  |true=>
   have j:Op.bytesLess kb.toList ka.toList=false:=by
    cases h':Op.bytesLess kb.toList ka.toList with
    |false=>rfl
    |true=>have:=QB _ _ _ h h';rw[Jr] at this;cases this
   have A:(kb.toList==ka.toList)=false:=(by rw[ZV];intro e;rw[e,Jr] at h;cases h);rw[j,A];rfl
  |false=>
   cases h':Op.bytesLess kb.toList ka.toList with
   |true=>rfl
   |false=>have:=Ki _ _ h' h;rw[this];simp
 rw[key];unfold laterB iCmp;by_cases j:x<y
 ·simp[j]
 ·by_cases A:y<x
  ·have:¬y=x:=(by omega);simp[j,A,this]
  ·have:y=x:=(by omega);simp[this]
theorem Un (a b r:Ent) (w:World) (ha:eok a) (hb:eok b) (U:(a.upd<b.upd/\b=r)\/(¬a.upd<b.upd/\(b.upd==a.upd)=true/\(!(Op.bytesLess (entryKey b).toList (entryKey a).toList||(entryKey b).toList==(entryKey a).toList))=true/\b=r)\/(¬a.upd<b.upd/\(b.upd==a.upd)=true/\(!(Op.bytesLess (entryKey b).toList (entryKey a).toList||(entryKey b).toList==(entryKey a).toList))=false/\a=r)\/(¬a.upd<b.upd/\(b.upd==a.upd)=false/\a=r)):
 Calls prog 133 #[.agg (eCells a).toArray,.agg (eCells b).toArray] w λx w'=>x= .returned (.agg (eCells r).toArray)/\Ext w w':=by
 have R:=gd (λw'=>Vj a w' ha);have S:=gd (λw'=>Vj b w' hb);generalize entryKey a=ka at*;generalize entryKey b=kb at*;clear ha hb;rcases U with ⟨h,V⟩|⟨h,h2,hT,V⟩|⟨h,h2,hT,V⟩|⟨h,h2,V⟩;have hd:=Yg h
 rotate_left
 iterate 3
  have hd:=Ya h
  rotate_left
 all_goals
  subst V
  obtain ⟨K,C,F,j,I⟩:=a
  obtain ⟨O,D,G,A,J⟩:=b
  unfold eCells at*
  dsimp only at*
  go_enter func133,ntmps133
  go_wp2
  obtain ⟨W,H⟩:∃W,W=((w.alloc (.cells #[.string K,.string C,.string F,.string j,.int .i64 I] 64)).alloc (.cells #[.string O,.string D,.string G,.string A,.int .i64 J] 64)).alloc (.cells #[.string ⟨#[]⟩,.string ⟨#[]⟩,.string ⟨#[]⟩,.string ⟨#[]⟩,.int .i64 0] 64):=⟨_,rfl⟩
  rw[<-H]
  have Y:Ext w W:=by rw[H];exact (((Ext.refl w).alloc _).alloc _).alloc _
  have X:∀d:Aft W,d.w.heap[w.heap.size+1+1]? =some (.cells #[.string ⟨#[]⟩,.string ⟨#[]⟩,.string ⟨#[]⟩,.string ⟨#[]⟩,.int .i64 0] 64):=by rw[H];exact λd=>d.ext.heap (Xl w _ _ _)
  have a0:∀d:Aft W,d.w.cell? ⟨w.heap.size,0,none⟩=some (.string K):=by rw[H];exact λd=>YJ d 0 _ rfl
  have a1:∀d:Aft W,d.w.cell? ⟨w.heap.size,1,none⟩=some (.string C):=by rw[H];exact λd=>YJ d 1 _ rfl
  have a2:∀d:Aft W,d.w.cell? ⟨w.heap.size,2,none⟩=some (.string F):=by rw[H];exact λd=>YJ d 2 _ rfl
  have a3:∀d:Aft W,d.w.cell? ⟨w.heap.size,3,none⟩=some (.string j):=by rw[H];exact λd=>YJ d 3 _ rfl
  have a4:∀d:Aft W,d.w.cell? ⟨w.heap.size,4,none⟩=some (.int .i64 I):=by rw[H];exact λd=>YJ d 4 _ rfl
  have b0:∀d:Aft W,d.w.cell? ⟨w.heap.size+1,0,none⟩=some (.string O):=by rw[H];exact λd=>Jz d 0 _ rfl
  have b1:∀d:Aft W,d.w.cell? ⟨w.heap.size+1,1,none⟩=some (.string D):=by rw[H];exact λd=>Jz d 1 _ rfl
  have b2:∀d:Aft W,d.w.cell? ⟨w.heap.size+1,2,none⟩=some (.string G):=by rw[H];exact λd=>Jz d 2 _ rfl
  have b3:∀d:Aft W,d.w.cell? ⟨w.heap.size+1,3,none⟩=some (.string A):=by rw[H];exact λd=>Jz d 3 _ rfl
  have b4:∀d:Aft W,d.w.cell? ⟨w.heap.size+1,4,none⟩=some (.int .i64 J):=by rw[H];exact λd=>Jz d 4 _ rfl
  clear H
  refine rA ?_
  repeat (first|go_big_quiet_step ((first|(go_at_call 171;with_reducible exact ZX (R.out _))|(go_at_call 171;with_reducible exact ZX (S.out _))))|quiet_step ((first|(go_at_call 171;with_reducible exact ZX (R.out _))|(go_at_call 171;with_reducible exact ZX (S.out _)))))
  refine YB ?_
  rintro _ ⟨Z,rfl⟩
  have Q:=X Z
  go_wp2_with (first|(refine Zg rfl 64 (.tmp 4) (.tmp 24) rfl (w.heap.size+1+1) _ rfl rfl _ _ Q Z7 rfl (UD (Z1 ⟨O,D,G,A,J⟩)) ?_)|(refine Zg rfl 64 (.tmp 4) (.tmp 25) rfl (w.heap.size+1+1) _ rfl rfl _ _ Q Z7 rfl (UD (Z1 ⟨K,C,F,j,I⟩)) ?_))
  ((try simp only[Exit.inBlock,Exit.then]);refine Zm (Zz rfl _ _ _ _ _ _ _ rfl (Zk _ _ _ _ _ _ Q) underlying64 rfl Z7) rfl ?_)
  exact ⟨rfl,(Y.trans Z.ext).setRow (by omega) _⟩
theorem Zaj (a b:Ent) (w:World) (C:eok a) (D:eok b):
 Calls prog 133 #[.agg (eCells a).toArray,.agg (eCells b).toArray] w λx w'=>x= .returned (.agg (eCells (laterE a b)).toArray)/\Ext w w':=by
 have A:=Zb3 a.upd b.upd (entryKey a) (entryKey b);by_cases h:a.upd<b.upd
 ·have e:laterE a b=b:=by unfold laterE;rw[A,Zi];simp[h]
  rw[e];exact Un a b b w C D (Or.inl ⟨h,rfl⟩)
 ·cases h2:(b.upd==a.upd) with
  |false=>have j:¬b.upd=a.upd:=(by simpa using h2);have e:laterE a b=a:=(by unfold laterE;rw[A,Zf];simp[h,j]);rw[e];exact Un a b a w C D (Or.inr (Or.inr (Or.inr ⟨h,h2,rfl⟩)))
  |true=>
   have j:b.upd=a.upd:=(by simpa using h2);cases hT:(!(Op.bytesLess (entryKey b).toList (entryKey a).toList||(entryKey b).toList==(entryKey a).toList)) with
   |true=>have e:laterE a b=b:=(by unfold laterE;rw[A,hT,Zi];simp[j]);rw[e];exact Un a b b w C D (Or.inr (Or.inl ⟨h,h2,hT,rfl⟩))
   |false=>have e:laterE a b=a:=(by unfold laterE;rw[A,hT,Zf];simp[j]);rw[e];exact Un a b a w C D (Or.inr (Or.inr (Or.inl ⟨h,h2,hT,rfl⟩)))
section
section
variable {α κ:Type} (O:Ord α κ)
theorem ZeY:∀(l:List α) (e:α) (k:Nat) (j:k<l.length),(∀x∈l.take k,O.lt e x=false)->O.lt e l[k]=true->O.ins l e=l.take k++e::l.drop k
 | [],_,k,j,_,_=>by simp at j
 |y::t,e,0,_,_,h=>by
  unfold Ord.ins
  rw[Zi (by simpa using h)]
  rfl
 |y::t,e,k+1,j,h,h2=>by
  unfold Ord.ins
  rw[Zf (by simp[h y (by simp)])]
  rw[ZeY t e k (by simpa using j) (λx A=>h x (by simp[A])) (by simpa using h2)]
  rfl
theorem ZaS:∀(l:List α) (e:α),(∀x∈l,O.lt e x=false)->O.ins l e=l++ [e]
 | [],_,_=>rfl
 |y::t,e,h=>by
  unfold Ord.ins
  rw[Zf (by simp[h y (by simp)]),ZaS t e λx j=>h x (by simp[j])]
  rfl
end
section
variable {α κ:Type} [DecidableEq κ] (O:Ord α κ)
theorem VA:∀(l:List α) (e:α),O.id (O.scan l e).2=O.id e
 | [],_=>rfl
 |x::t,e=>by
  unfold Ord.scan
  by_cases h:O.id x=O.id e
  ·rw[Zi h,VA t,O.op_id x e h]
  ·rw[Zf h];exact VA t e
theorem Gy:∀(l:List α) (e x:α),O.scan (l++ [x]) e=if O.id x=O.id e then ((O.scan l e).1,O.op x (O.scan l e).2) else ((O.scan l e).1++ [x],(O.scan l e).2)
 | [],e,x=>by simp only[YF,Ord.scan]
 |y::t,e,x=>by
  show O.scan (y::(t++ [x])) e=_
  unfold Ord.scan
  by_cases h:O.id y=O.id e
  ·rw[Zi h,Zi h,Gy t (O.op y e) x,O.op_id y e h]
  ·rw[Zf h,Zf h,Gy t e x]
   by_cases j:O.id x=O.id e
   ·rw[Zi j,Zi j]
   ·rw[Zf j,Zf j];rfl
end
def flatE (l:List Ent):List Value:=(l.map eCells).flatten
theorem Gq (a b:List Ent):flatE (a++b)=flatE a++flatE b:=by unfold flatE;rw[Yp,J8]
theorem Gr (x:Ent):flatE [x]=eCells x:=by unfold flatE;simp
def REnts (w:World) (v:Value) (l:List Ent):Prop:=RSl w 5 v l.length (flatE l)
def OEnts (w:World) (B:Nat) (v:Value) (l:List Ent):Prop:=w.ownsRow B 64 5 v l.length (flatE l)
theorem OEnts.reads {w:World} {B:Nat} {v:Value} {l:List Ent} (h:OEnts w B v l):REnts w v l:=RSl.of_own h
theorem REnts.ext {w w':World} {v:Value} {l:List Ent} (h:REnts w v l) (j:Ext w w'):REnts w' v l:=RSl.ext h j
theorem OEnts.ext {w w':World} {B:Nat} {v:Value} {l:List Ent} (h:OEnts w B v l) (j:Ext w w'):OEnts w' B v l:=Yw h j
theorem REnts.form {w:World} {v:Value} {l:List Ent} (h:REnts w v l):∃A c,v= .slice A l.length c/\l.length<=c/\c<=maxLen:=by
 obtain ⟨_,A,c,e,j,C,_⟩:=h;exact ⟨A,c,e,j,C⟩
structure AtEnt (w:World) (p:Addr) (e:Ent):Prop where
 c0:w.cell? p=some (.string e.id)
 c1:w.cell? ⟨p.block,p.off+1,none⟩=some (.string e.title)
 c2:w.cell? ⟨p.block,p.off+2,none⟩=some (.string e.link)
 c3:w.cell? ⟨p.block,p.off+3,none⟩=some (.string e.content)
 c4:w.cell? ⟨p.block,p.off+4,none⟩=some (.int .i64 e.upd)
theorem REnts.at {w:World} {v:Value} {l:List Ent} (h:REnts w v l) {k:Nat} (C:k<l.length):∃ad c,v= .slice (some ad) l.length c/\AtEnt w (ad.add (k*5)) l[k]:=by
 obtain ⟨ad,c,e,A⟩:=RSl.elem (k:=5) (css:=l.map eCells) h (by decide) (by intro c A;obtain ⟨x,_,rfl⟩:=Yq.1 A;rfl) k (eCells l[k]) (by rw[ZT,Zc C];rfl);rw[Y7] at A;have j:∀i,0<i->(ad.add (k*5)).add i=⟨(ad.add (k*5)).block,(ad.add (k*5)).off+i,none⟩:=λi D=>Zf (by omega);refine ⟨ad,c,e,?_,?_,?_,?_,?_⟩
 ·have:=A 0 _ rfl;rwa [add_zero] at this
 ·have:=A 1 _ rfl;rwa [j _ (by decide)] at this
 ·have:=A 2 _ rfl;rwa [j _ (by decide)] at this
 ·have:=A 3 _ rfl;rwa [j _ (by decide)] at this
 ·have:=A 4 _ rfl;rwa [j _ (by decide)] at this
theorem XB:(prog.info? 64).map (λi=>(i.zero,i.size,i.bytes))=some (some (.agg #[.string ⟨#[]⟩,.string ⟨#[]⟩,.string ⟨#[]⟩,.string ⟨#[]⟩,.int .i64 0]),5,72):=ZbT
theorem Kx {w C:World} {A D:Array Value} {t:TypeId} {fr:Nat×Nat} (h:Ext (w.alloc (.cells A t fr)) C):Ext (w.alloc (.cells D t fr)) (C.setRow w.heap.size D):=by
 have j:Below (w.alloc (.cells A t fr)).heap.size (w.alloc (.cells A t fr)) C:=h;refine ⟨j.os,j.tape,j.output,by have:=j.size;simp at this|-;simpa [World.setRow] using this,λk G=> ?_⟩;have F:k<w.heap.size+1:=by simpa using G
 by_cases e:k=w.heap.size
 ·subst e;rw[Zk C w.heap.size A D t fr (h.heap (Zh w _)),Zh]
 ·rw[ZD _ _ _ _ e,j.block k (by simpa using F),Below.heap_alloc _ _ _ (by omega),Below.heap_alloc _ _ _ (by omega)]
end
section
theorem KS {a b:Ent} (h:eok a) (j:eok b):eok (laterE a b):=by unfold laterE;split<;>assumption
theorem Ig:∀(l:List Ent) (e:Ent),(∀x∈l,eok x)->eok e->eok (ordE.scan l e).2
 | [],_,_,h=>h
 |x::t,e,hl,h=>by
  unfold Ord.scan
  split
  ·exact Ig t _ (λy j=>hl y (by simp[j])) (KS (hl x (by simp)) h)
  ·exact Ig t e (λy j=>hl y (by simp[j])) h
theorem Ih:∀(l:List Ent) (e:Ent),(ordE.scan l e).1.length<=l.length
 | [],_=>Zd _
 |x::t,e=>by
  unfold Ord.scan
  split
  ·have:=Ih t (ordE.op x e);simp;omega
  ·have:=Ih t e;simp;omega
theorem OEnts.mono {w:World} {B B':Nat} {v:Value} {l:List Ent} (h:OEnts w B v l) (F:B'<=B):OEnts w B' v l:=by
 refine ⟨h.1,?_⟩;rcases h.2 with A|⟨g,cap,j,C,A,D⟩
 ·exact Or.inl A
 ·exact Or.inr ⟨g,cap,j,C,Zl F A,D⟩
theorem OEnts.nil (w:World) (B:Nat):OEnts w B (.slice none 0 0) []:=Yc _ _ _ _
theorem OEnts.snoc {w:World} {B:Nat} {v:Value} {l:List Ent} {x:Ent} (h:w.ownsRow B 64 5 v (l.length+1) (flatE l++eCells x)):OEnts w B v (l++ [x]):=by
 unfold OEnts;rw[Zj,Gq,Gr];exact h
attribute [local go_sem] calm1
theorem Zck (v:Value) (l:List Ent) (e:Ent) (w:World) (h:REnts w v l) (hl:∀x∈l,eok x) (he:eok e) (hn:l.length<=1000000):
 Calls prog 85 #[v,.agg (eCells e).toArray] w λx w'=>∃v',x= .returned v'/\OEnts w' w.heap.size v' (ordE.put l e)/\Ext w w':=by
 obtain ⟨i0,hu,hz,hA,hB⟩:=Yr XB;obtain ⟨A,c,rfl,gn,gi⟩:=h.form;have h6:=gd (λk=>Ig (l.take k) e (λx hx=>hl x (Zhr hx)) he);have hQ:=gd (λk=>Ih (l.take k) e);have HL:=gd hl;clear gn gi hl;go_enter func85,ntmps85;go_wp2;go_loopw [5,6] (λu i wr=>∃k:Nat,k<=l.length/\i= .int .i64 k/\OEnts wr (w.heap.size+1) u (ordE.scan (l.take k) e).1/\Ext (w.alloc (.cells (eCells (ordE.scan (l.take k) e).2).toArray 64)) wr) (λ_ i _=>l.length - (intOf i).toNat)
 case atStart=>exact ⟨0,Zt _,rfl,OEnts.nil _ _,Ext.refl _⟩
 case round=>
  obtain ⟨k,hk,rfl,hf,hx⟩:=hrel;by_cases hi:k<l.length
  ·have hL:Ext w wr:=((Ext.refl w).alloc _).trans hx;obtain ⟨ad,c',hv,hE⟩:=(h.ext hL).at hi;injection hv with hv1 hv2 hv3;subst hv1;clear hv2 hv3;have hg:=Gy ordE (l.take k) e l[k];rw[<-Zy hi] at hg;have hZ:=VA ordE (l.take k) e;have hJ:=HL.out l[k] (ZO hi);have hC:=h6.out k;have hs:=hQ.out k;rw[YR] at hs;obtain ⟨R,hR⟩:∃R,(ordE.scan (l.take k) e).1=R:=⟨_,rfl⟩;obtain ⟨E,hq⟩:∃E,(ordE.scan (l.take k) e).2=E:=⟨_,rfl⟩;rw[hR,hq] at hg;rw[hq] at hZ hC hx;rw[hR] at hs hf;obtain ⟨S,hS⟩:∃S,ordE.scan (l.take (k+1)) e=S:=⟨_,rfl⟩;rw[hS] at hg;rw[<-hZ] at hg;obtain ⟨x,hM⟩:∃x,l[k]=x:=⟨_,rfl⟩;rw[hM] at hg hE hJ;have HS:=gd hS;have hh:=gd (λw'=>Zaj x E w' hJ hC);have gg:R.length<=1000000:=(by omega);clear hS hR hq hZ hM hJ hC hs;have gb:(0:Int)<=(k:Int):=(by omega);have gm:(k:Int)<(l.length:Int):=(by omega);obtain ⟨a0,a1,a2,a3,a4⟩:=hE;obtain ⟨V,C,F,j,J⟩:=E;obtain ⟨Y,H,Q,D,X⟩:=x;simp only at a0 a1 a2 a3 a4;have q0:∀d:Aft wr,d.w.cell? (ad.add (k*5))=some (.string Y):=Aft.cell a0;have b0:∀d:Aft wr,d.w.cell? ⟨w.heap.size,0,none⟩=some (.string V):=λd=>(hx.trans d.ext).boxed 0 _ rfl;cases hid:(Y.toList==V.toList) with
   |true=>
    have hm:Y=V:=toList_inj (by simpa using hid);rw[Zi (show ordE.id ⟨Y,H,Q,D,X⟩=ordE.id ⟨V,C,F,j,J⟩ from hm)] at hg;have hT:=gd hg;clear hg hm;obtain ⟨r,hr⟩:∃r,laterE ⟨Y,H,Q,D,X⟩ ⟨V,C,F,j,J⟩=r:=⟨_,rfl⟩;have HR:=gd hr;rw[hr] at hh;clear hr;unfold eCells at hh;dsimp only at hh;go_wp2;refine rA ?_
    repeat (first|go_big_quiet_step (fail)|quiet_step (fail))
    refine YB ?_;rintro _ ⟨d1,rfl⟩;have G:=hx.trans d1.ext;have O:=hf.ext d1.ext;have c0:∀d:Aft d1.w,d.w.cell? (ad.add (k*5))=some (.string Y):=λd=>(d1.ext.trans d.ext).cell a0;have c1:∀d:Aft d1.w,d.w.cell? ⟨(ad.add (k*5)).block,(ad.add (k*5)).off+1,none⟩=some (.string H):=λd=>(d1.ext.trans d.ext).cell a1;have c2:∀d:Aft d1.w,d.w.cell? ⟨(ad.add (k*5)).block,(ad.add (k*5)).off+2,none⟩=some (.string Q):=λd=>(d1.ext.trans d.ext).cell a2;have c3:∀d:Aft d1.w,d.w.cell? ⟨(ad.add (k*5)).block,(ad.add (k*5)).off+3,none⟩=some (.string D):=λd=>(d1.ext.trans d.ext).cell a3;have c4:∀d:Aft d1.w,d.w.cell? ⟨(ad.add (k*5)).block,(ad.add (k*5)).off+4,none⟩=some (.int .i64 X):=λd=>(d1.ext.trans d.ext).cell a4;have e0:∀d:Aft d1.w,d.w.cell? ⟨w.heap.size,0,none⟩=some (.string V):=λd=>(G.trans d.ext).boxed 0 _ rfl;have e1:∀d:Aft d1.w,d.w.cell? ⟨w.heap.size,1,none⟩=some (.string C):=λd=>(G.trans d.ext).boxed 1 _ rfl;have e2:∀d:Aft d1.w,d.w.cell? ⟨w.heap.size,2,none⟩=some (.string F):=λd=>(G.trans d.ext).boxed 2 _ rfl;have e3:∀d:Aft d1.w,d.w.cell? ⟨w.heap.size,3,none⟩=some (.string j):=λd=>(G.trans d.ext).boxed 3 _ rfl;have e4:∀d:Aft d1.w,d.w.cell? ⟨w.heap.size,4,none⟩=some (.int .i64 J):=λd=>(G.trans d.ext).boxed 4 _ rfl;have h8:∀d:Aft d1.w,d.w.heap[w.heap.size]? =some (.cells (eCells ⟨V,C,F,j,J⟩).toArray 64):=λd=>(G.trans d.ext).heap (Zh w _);clear q0 b0 a0 a1 a2 a3 a4 hid;go_wp2;refine Iw 6 (by kernel_rfl) (by kernel_rfl) ?_
    repeat (refine YH (λK hK=> ?_);go_simp;first|(refine hK _ ?_;clear hK K)|(apply Ye;refine ⟨λ_=> ?_,hK _ ?_⟩;(go_at_call 133;exact ZP (hh.out _));clear hK K))
    refine YO ?_;intro d;have gh:=h8 d;have gr:=G.trans d.ext;have go:=O.ext d.ext;clear c0 c1 c2 c3 c4 e0 e1 e2 e3 e4 h8;refine Zg rfl 64 (.tmp 3) (.tmp 29) rfl w.heap.size _ rfl rfl _ _ gh Z7 rfl (UD (Z1 r)) ?_;go_wp2;go_roundw
    case rel=>
     have hS:=HS.out;have hD:=hT.out;have hR:=HR.out;refine ⟨k+1,by omega,by go_num,?_,?_⟩
     ·rw[hS,hD];exact X7 go (by omega) _
     ·rw[hS,hD];show Ext (w.alloc (.cells (eCells (laterE _ _)).toArray 64)) _;rw[hR];exact Kx gr
    case measure=>simp[intOf];omega
   |false=>
    have hm:¬Y=V:=(by intro e';rw[e'] at hid;simp at hid);rw[Zf (show ¬ordE.id ⟨Y,H,Q,D,X⟩=ordE.id ⟨V,C,F,j,J⟩ from hm)] at hg;have hT:=gd hg;clear hg hm hh;go_wp2;refine rA ?_
    repeat (first|go_big_quiet_step (fail)|quiet_step (fail))
    refine YB ?_;rintro _ ⟨d1,rfl⟩;have G:=hx.trans d1.ext;have O:=hf.ext d1.ext;have c0:=d1.ext.cell a0;have c1:=d1.ext.cell a1;have c2:=d1.ext.cell a2;have c3:=d1.ext.cell a3;have c4:=d1.ext.cell a4;clear q0 b0 a0 a1 a2 a3 a4 hid;unfold OEnts at O;have hH:R.length+1<=maxLen:=(by unfold maxLen;omega);have hG:(R.length+1)*72<=140737488355328:=(by omega);have gw:w.heap.size+1<=d1.w.heap.size:=(by have:=G.size;simpa using this);have hp:=gd hH;have ho:=gd hG;clear hH hG
    go_wp2_with (first|(at_builtin;refine Zq _ rfl (.tmp 30) (.tmp 35) _ rfl (w.heap.size+1) 64 i0 _ 5 72 underlying30 hu hz hA hB rfl (by decide) _ _ _ rfl (O.alloc _) _ 1 (eCells ⟨Y,H,Q,D,X⟩) rfl (ZY rfl (by decide)) (Z1 _) hp.out ho.out ?cb ?_;(case cb=>simp;omega);intro v2 w2 Z gj gt))
    have gp:Ext (w.alloc (.cells (eCells ⟨V,C,F,j,J⟩).toArray 64)) w2:=Ext.app (G.alloc _) gj (O.alloc _) (by simp);go_roundw
    case rel=>
     have hS:=HS.out;have hD:=hT.out;refine ⟨k+1,by omega,by go_num,?_,?_⟩
     ·rw[hS,hD];exact OEnts.snoc Z
     ·rw[hS,hD];exact gp
    case measure=>simp[intOf];omega
  ·have hX:k=l.length:=(by omega);subst hX;rw[ZC (Zd _)] at hf hx;have hs:=hQ.out l.length;rw[ZC (Zd _)] at hs;obtain ⟨R,hR⟩:∃R,(ordE.scan l e).1=R:=⟨_,rfl⟩;obtain ⟨E,hq⟩:∃E,(ordE.scan l e).2=E:=⟨_,rfl⟩;have hP:ordE.put l e=ordE.ins R E:=(by unfold Ord.put;rw[hR,hq]);rw[hR] at hf hs;rw[hq] at hx;have HP:=gd hP;have gg:R.length<=1000000:=(by omega);clear hP hR hq hs h6 hQ HL hi hk hn h;obtain ⟨A2,c2,rfl,_,_⟩:=hf.reads.form;have hI:=hf.reads;obtain ⟨wo,hN⟩:∃wo:World,wo=wr:=⟨_,rfl⟩;have hw:Ext (w.alloc (.cells (eCells E).toArray 64)) wo:=(by rw[hN];exact hx);have gf:REnts wo (.slice A2 R.length c2) R:=(by rw[hN];exact hI);have gs:Ext wo wr:=(by rw[hN];exact Ext.refl _);clear hN hx hf hI;obtain ⟨V,C,F,j,J⟩:=E;have b0:wo.cell? ⟨w.heap.size,0,none⟩=some (.string V):=hw.boxed 0 _ rfl;have b1:wo.cell? ⟨w.heap.size,1,none⟩=some (.string C):=hw.boxed 1 _ rfl;have b2:wo.cell? ⟨w.heap.size,2,none⟩=some (.string F):=hw.boxed 2 _ rfl;have b3:wo.cell? ⟨w.heap.size,3,none⟩=some (.string j):=hw.boxed 3 _ rfl;have b4:wo.cell? ⟨w.heap.size,4,none⟩=some (.int .i64 J):=hw.boxed 4 _ rfl;have B0:=gd b0;have B1:=gd b1;have B2:=gd b2;have B3:=gd b3;have B4:=gd b4;clear b0 b1 b2 b3 b4;go_wp2;go_loopw [7,8,9] (λo dn i w2=>∃(k:Nat) (done:Bool) (out:List Ent),k<=R.length/\i= .int .i64 k/\dn= .bool done/\OEnts w2 wo.heap.size o out/\Ext wo w2/\out.length<=k+1/\
    Hid ((done=false->out=R.take k/\∀x∈R.take k,ordE.lt ⟨V,C,F,j,J⟩ x=false)/\(done=true->out++R.drop k=ordE.ins R ⟨V,C,F,j,J⟩))) (λ_ _ i _=>R.length - (intOf i).toNat)
   case atStart=>exact ⟨0,false,[],Zt _,rfl,rfl,OEnts.nil _ _,gs,by simp,⟨λ_=>⟨rfl,by simp⟩,λh=>by cases h⟩⟩
   case round=>
    obtain ⟨k,done,out,hk,rfl,rfl,Z,I,gc,hd⟩:=hrel;by_cases hi:k<R.length
    ·obtain ⟨ad,c',hv,hE⟩:=gf.at hi;injection hv with hv1 hv2 hv3;subst hv1;clear hv2 hv3;have h0:=Zy hi;have hV:=Zx hi;have hW:=ZeY ordE R ⟨V,C,F,j,J⟩ k hi;obtain ⟨x,hM⟩:∃x,R[k]=x:=⟨_,rfl⟩;rw[hM] at hE h0 hV hW;have h7:=gd h0;have h3:=gd hV;have ge:=gd hW;have hb:=gd (λw'=>Zbl ⟨V,C,F,j,J⟩ x w');have hO:ordE.lt ⟨V,C,F,j,J⟩ x=decide (entCmp ⟨V,C,F,j,J⟩ x<0):=rfl;have hh:=gd hO;clear h0 hV hW hO hM;obtain ⟨cc,h9⟩:∃cc,entCmp ⟨V,C,F,j,J⟩ x=cc:=⟨_,rfl⟩;rw[h9] at hb hh;clear h9;have gb:(0:Int)<=(k:Int):=(by omega);have gm:(k:Int)<(R.length:Int):=(by omega);obtain ⟨a0,a1,a2,a3,a4⟩:=hE;have b0:=B0.out;have b1:=B1.out;have b2:=B2.out;have b3:=B3.out;have b4:=B4.out;obtain ⟨Y,H,Q,D,X⟩:=x;simp only at a0 a1 a2 a3 a4;unfold eCells at hb;dsimp only at hb;have ho:Hid ((out.length+1)*72<=140737488355328):=gd (by omega);have h2:Hid ((out.length+1+1)*72<=140737488355328):=gd (by omega);have h4:Hid (out.length+1+1<=maxLen):=gd (by unfold maxLen;omega);have hp:Hid (out.length+1<=maxLen):=gd (by unfold maxLen;omega);have h5:=gd gc;clear gc;cases done with
     |true=>
      have U:=hd.out.2 rfl;have HI:=gd U;clear hd U;have f0:∀d:Aft wr,d.w.cell? (ad.add (k*5))=some (.string Y):=λd=>(I.trans d.ext).cell a0;have f1:∀d:Aft wr,d.w.cell? ⟨(ad.add (k*5)).block,(ad.add (k*5)).off+1,none⟩=some (.string H):=λd=>(I.trans d.ext).cell a1;have f2:∀d:Aft wr,d.w.cell? ⟨(ad.add (k*5)).block,(ad.add (k*5)).off+2,none⟩=some (.string Q):=λd=>(I.trans d.ext).cell a2;have f3:∀d:Aft wr,d.w.cell? ⟨(ad.add (k*5)).block,(ad.add (k*5)).off+3,none⟩=some (.string D):=λd=>(I.trans d.ext).cell a3;have f4:∀d:Aft wr,d.w.cell? ⟨(ad.add (k*5)).block,(ad.add (k*5)).off+4,none⟩=some (.int .i64 X):=λd=>(I.trans d.ext).cell a4;have g0:∀d:Aft wr,d.w.cell? ⟨w.heap.size,0,none⟩=some (.string V):=λd=>(I.trans d.ext).cell b0;have g1:∀d:Aft wr,d.w.cell? ⟨w.heap.size,1,none⟩=some (.string C):=λd=>(I.trans d.ext).cell b1;have g2:∀d:Aft wr,d.w.cell? ⟨w.heap.size,2,none⟩=some (.string F):=λd=>(I.trans d.ext).cell b2;have g3:∀d:Aft wr,d.w.cell? ⟨w.heap.size,3,none⟩=some (.string j):=λd=>(I.trans d.ext).cell b3;have g4:∀d:Aft wr,d.w.cell? ⟨w.heap.size,4,none⟩=some (.int .i64 J):=λd=>(I.trans d.ext).cell b4;go_wp2;refine rA ?_
      repeat (first|go_big_quiet_step ((first|(go_at_call 61;with_reducible exact ZX (hb.out _))))|quiet_step ((first|(go_at_call 61;with_reducible exact ZX (hb.out _)))))
      refine YB ?_;rintro _ ⟨d1,rfl⟩;have G:=I.trans d1.ext;have O:=Z.ext d1.ext;clear f0 f1 f2 f3 f4 g0 g1 g2 g3 g4;have p0:=G.cell a0;have p1:=G.cell a1;have p2:=G.cell a2;have p3:=G.cell a3;have p4:=G.cell a4;have r0:=G.cell b0;have r1:=G.cell b1;have r2:=G.cell b2;have r3:=G.cell b3;have r4:=G.cell b4;unfold OEnts at O
      go_wp2_with (first|(at_builtin;refine Zq _ rfl (.tmp 58) (.tmp 63) _ rfl wo.heap.size 64 i0 _ 5 72 underlying30 hu hz hA hB rfl (by decide) _ _ _ rfl (O.alloc _) _ 1 (eCells ⟨Y,H,Q,D,X⟩) rfl (ZY rfl (by decide)) (Z1 _) hp.out ho.out ?_ ?_;(have:=G.size;simp;omega);intro v3 w3 ha ht hF))
      have hc:Ext wo w3:=Ext.app (G.alloc _) ht (O.alloc _) (Zd _);go_roundw
      case rel=>exact ⟨k+1,true,out++ [⟨Y,H,Q,D,X⟩],by omega,by go_num,rfl,OEnts.snoc ha,hc,by have:=h5.out;simp;omega,⟨(λh=>by cases h),λ_=>by rw[Yl,List.singleton_append,<-h3.out];exact HI.out⟩⟩
      case measure=>simp[intOf];omega
     |false=>
      have U:=hd.out.1 rfl;have HI:=gd U;clear hd U;by_cases ga:cc<0
      ·have hU:=Yg ga;have f0:∀d:Aft wr,d.w.cell? (ad.add (k*5))=some (.string Y):=λd=>(I.trans d.ext).cell a0;have f1:∀d:Aft wr,d.w.cell? ⟨(ad.add (k*5)).block,(ad.add (k*5)).off+1,none⟩=some (.string H):=λd=>(I.trans d.ext).cell a1;have f2:∀d:Aft wr,d.w.cell? ⟨(ad.add (k*5)).block,(ad.add (k*5)).off+2,none⟩=some (.string Q):=λd=>(I.trans d.ext).cell a2;have f3:∀d:Aft wr,d.w.cell? ⟨(ad.add (k*5)).block,(ad.add (k*5)).off+3,none⟩=some (.string D):=λd=>(I.trans d.ext).cell a3;have f4:∀d:Aft wr,d.w.cell? ⟨(ad.add (k*5)).block,(ad.add (k*5)).off+4,none⟩=some (.int .i64 X):=λd=>(I.trans d.ext).cell a4;have g0:∀d:Aft wr,d.w.cell? ⟨w.heap.size,0,none⟩=some (.string V):=λd=>(I.trans d.ext).cell b0;have g1:∀d:Aft wr,d.w.cell? ⟨w.heap.size,1,none⟩=some (.string C):=λd=>(I.trans d.ext).cell b1;have g2:∀d:Aft wr,d.w.cell? ⟨w.heap.size,2,none⟩=some (.string F):=λd=>(I.trans d.ext).cell b2;have g3:∀d:Aft wr,d.w.cell? ⟨w.heap.size,3,none⟩=some (.string j):=λd=>(I.trans d.ext).cell b3;have g4:∀d:Aft wr,d.w.cell? ⟨w.heap.size,4,none⟩=some (.int .i64 J):=λd=>(I.trans d.ext).cell b4;go_wp2;refine rA ?_
       repeat (first|go_big_quiet_step ((first|(go_at_call 61;with_reducible exact ZX (hb.out _))))|quiet_step ((first|(go_at_call 61;with_reducible exact ZX (hb.out _)))))
       refine YB ?_;rintro _ ⟨d1,rfl⟩;have G:=I.trans d1.ext;have O:=Z.ext d1.ext;clear f0 f1 f2 f3 f4 g0 g1 g2 g3 g4;have p0:=G.cell a0;have p1:=G.cell a1;have p2:=G.cell a2;have p3:=G.cell a3;have p4:=G.cell a4;have r0:=G.cell b0;have r1:=G.cell b1;have r2:=G.cell b2;have r3:=G.cell b3;have r4:=G.cell b4;unfold OEnts at O
       go_wp2_with (first|(at_builtin;refine Zq _ rfl (.tmp 54) (.tmp 56) _ rfl wo.heap.size 64 i0 _ 5 72 underlying30 hu hz hA hB rfl (by decide) _ _ _ rfl (O.alloc _) _ 1 (eCells ⟨V,C,F,j,J⟩) rfl (ZY rfl (by decide)) (Z1 _) hp.out ho.out ?_ ?_;(have:=G.size;simp;omega);intro v3 w3 ha ht hF;(have hc:Ext wo w3:=Ext.app (G.alloc _) ht (O.alloc _) (Zd _));(have s0:=hc.cell a0);(have s1:=hc.cell a1);(have s2:=hc.cell a2);(have s3:=hc.cell a3);(have s4:=hc.cell a4))|(at_builtin;refine Zq _ rfl (.tmp 58) (.tmp 63) _ rfl wo.heap.size 64 i0 _ 5 72 underlying30 hu hz hA hB rfl (by decide) _ _ _ rfl (ha.alloc _) _ 1 (eCells ⟨Y,H,Q,D,X⟩) rfl (ZY rfl (by decide)) (Z1 _) h4.out h2.out ?_ ?_;(have:=hc.size;simp;omega);intro v4 w4 hY gk gu;(have gq:Ext wo w4:=Ext.app (hc.alloc _) gk (ha.alloc _) (Zd _))))
       go_roundw
       case rel=>
        have e1:w4.ownsRow wo.heap.size 64 5 v4 ((out++([⟨V,C,F,j,J⟩]:List Ent)).length+1) (flatE (out++([⟨V,C,F,j,J⟩]:List Ent))++eCells ⟨Y,H,Q,D,X⟩):=(by rw[Zj,Gq,Gr];exact hY);refine ⟨k+1,true,(out++ [⟨V,C,F,j,J⟩])++ [⟨Y,H,Q,D,X⟩],by omega,by go_num,rfl,OEnts.snoc e1,gq,?_,⟨(λh=>by cases h),λ_=> ?_⟩⟩
        ·have h1:=HI.out.1;rw[h1];simp;omega
        ·have h1:=HI.out;rw[ge.out h1.2 (by rw[hh.out];exact hU),h3.out,h1.1];simp
       case measure=>simp[intOf];omega
      ·have hU:=Ya ga;have f0:∀d:Aft wr,d.w.cell? (ad.add (k*5))=some (.string Y):=λd=>(I.trans d.ext).cell a0;have f1:∀d:Aft wr,d.w.cell? ⟨(ad.add (k*5)).block,(ad.add (k*5)).off+1,none⟩=some (.string H):=λd=>(I.trans d.ext).cell a1;have f2:∀d:Aft wr,d.w.cell? ⟨(ad.add (k*5)).block,(ad.add (k*5)).off+2,none⟩=some (.string Q):=λd=>(I.trans d.ext).cell a2;have f3:∀d:Aft wr,d.w.cell? ⟨(ad.add (k*5)).block,(ad.add (k*5)).off+3,none⟩=some (.string D):=λd=>(I.trans d.ext).cell a3;have f4:∀d:Aft wr,d.w.cell? ⟨(ad.add (k*5)).block,(ad.add (k*5)).off+4,none⟩=some (.int .i64 X):=λd=>(I.trans d.ext).cell a4;have g0:∀d:Aft wr,d.w.cell? ⟨w.heap.size,0,none⟩=some (.string V):=λd=>(I.trans d.ext).cell b0;have g1:∀d:Aft wr,d.w.cell? ⟨w.heap.size,1,none⟩=some (.string C):=λd=>(I.trans d.ext).cell b1;have g2:∀d:Aft wr,d.w.cell? ⟨w.heap.size,2,none⟩=some (.string F):=λd=>(I.trans d.ext).cell b2;have g3:∀d:Aft wr,d.w.cell? ⟨w.heap.size,3,none⟩=some (.string j):=λd=>(I.trans d.ext).cell b3;have g4:∀d:Aft wr,d.w.cell? ⟨w.heap.size,4,none⟩=some (.int .i64 J):=λd=>(I.trans d.ext).cell b4;go_wp2;refine rA ?_
       repeat (first|go_big_quiet_step ((first|(go_at_call 61;with_reducible exact ZX (hb.out _))))|quiet_step ((first|(go_at_call 61;with_reducible exact ZX (hb.out _)))))
       refine YB ?_;rintro _ ⟨d1,rfl⟩;have G:=I.trans d1.ext;have O:=Z.ext d1.ext;clear f0 f1 f2 f3 f4 g0 g1 g2 g3 g4;have p0:=G.cell a0;have p1:=G.cell a1;have p2:=G.cell a2;have p3:=G.cell a3;have p4:=G.cell a4;have r0:=G.cell b0;have r1:=G.cell b1;have r2:=G.cell b2;have r3:=G.cell b3;have r4:=G.cell b4;unfold OEnts at O
       go_wp2_with (first|(at_builtin;refine Zq _ rfl (.tmp 58) (.tmp 63) _ rfl wo.heap.size 64 i0 _ 5 72 underlying30 hu hz hA hB rfl (by decide) _ _ _ rfl (O.alloc _) _ 1 (eCells ⟨Y,H,Q,D,X⟩) rfl (ZY rfl (by decide)) (Z1 _) hp.out ho.out ?_ ?_;(have:=G.size;simp;omega);intro v3 w3 ha ht hF;(have hc:Ext wo w3:=Ext.app (G.alloc _) ht (O.alloc _) (Zd _))))
       go_roundw
       case rel=>
        refine ⟨k+1,false,out++ [⟨Y,H,Q,D,X⟩],by omega,by go_num,rfl,OEnts.snoc ha,hc,by have:=h5.out;simp;omega,⟨λ_=>⟨by rw[h7.out,HI.out.1],?_⟩,(λh=>by cases h)⟩⟩;intro y hy;rw[h7.out] at hy;rcases ZZ.1 hy with hy|hy
        ·exact HI.out.2 y hy
        ·simp only[ZG,YD,YK] at hy;rw[hy,hh.out];exact hU
       case measure=>simp[intOf];omega
    ·have hX:k=R.length:=(by omega);subst hX;have hL:Ext w wo:=((Ext.refl w).alloc _).trans hw;have hws:=hL.size;cases done with
     |true=>have U:=hd.out.2 rfl;rw[ZB (Zd _),Zhj] at U;have hj:ordE.put l e=out:=HP.out.trans U.symm;have HF:=gd hj;clear hj hd U;go_wp2;go_ret;exact ⟨_,rfl,by rw[HF.out];exact Z.mono hws,hL.trans I⟩
     |false=>
      have U:=hd.out.1 rfl;rw[ZC (Zd _)] at U;have hj:ordE.put l e=out++ [⟨V,C,F,j,J⟩]:=(by rw[HP.out,ZaS ordE R _ U.2,U.1]);have HF:=gd hj;clear hj hd U;have r0:=I.cell B0.out;have r1:=I.cell B1.out;have r2:=I.cell B2.out;have r3:=I.cell B3.out;have r4:=I.cell B4.out;have hH:out.length+1<=maxLen:=(by unfold maxLen;omega);have hG:(out.length+1)*72<=140737488355328:=(by omega);have hp:=gd hH;have ho:=gd hG;clear hH hG;unfold OEnts at Z
      go_wp2_with (first|(at_builtin;refine Zq _ rfl (.tmp 67) (.tmp 69) _ rfl wo.heap.size 64 i0 _ 5 72 underlying30 hu hz hA hB rfl (by decide) _ _ _ rfl (Z.alloc _) _ 1 (eCells ⟨V,C,F,j,J⟩) rfl (ZY rfl (by decide)) (Z1 _) hp.out ho.out ?_ ?_;(have:=I.size;simp;omega);intro v3 w3 ha ht hF;(have hc:Ext wo w3:=Ext.app (I.alloc _) ht (Z.alloc _) (Zd _))))
      go_ret;exact ⟨_,rfl,by rw[HF.out];exact (OEnts.snoc ha).mono hws,hL.trans hc⟩
end
def grp (l:List Ent) (s:ByteArray):List Ent:=l.filter λx=>decide (ordE.id x=s)
structure Grps (w:World) (B:Nat) (v:Value) (l:List Ent) (fs:List ByteArray) (gv:List Value):Prop where
 len:gv.length=fs.length
 row:w.ownsRow B 30 1 v gv.length gv
 each:∀(j:Nat) (s:ByteArray) (u:Value),fs[j]? =some s->gv[j]? =some u->OEnts w B u (grp l s)
 apart:∀(i j:Nat) (u u':Value),gv[i]? =some u->gv[j]? =some u'->i≠j->∀g,u.ownBlock=some g->u'.ownBlock≠some g
theorem Grps.ext {w w':World} {B:Nat} {v:Value} {l:List Ent} {fs:List ByteArray} {gv:List Value} (h:Grps w B v l fs gv) (A:Ext w w'):Grps w' B v l fs gv:=
 ⟨h.len,Yw h.row A,λj s u C D=>(h.each j s u C D).ext A,h.apart⟩
theorem Grps.nil (w:World) (B:Nat):Grps w B (.slice none 0 0) [] [] []:=⟨rfl,Yc _ _ _ _,by simp,by simp⟩
def IdxMap (D:DataW Unit) (fs:List ByteArray):Prop:=
 IsMap D/\∀s:ByteArray,(Maps.has D (.string s.data.toList)=true↔s∈fs)/\∀j:Nat,fs[j]? =some s->D.atKey (.string s.data.toList) (.lit (.int .i64 0))= .lit (.int .i64 j)
theorem IdxMap.nil:IdxMap (.map []) []:=⟨isMap_empty,λs=>⟨by simp[Maps.has],by simp⟩⟩
theorem IdxMap.put {D:DataW Unit} {fs:List ByteArray} {s:ByteArray} (h:IdxMap D fs) (K:s ∉ fs):IdxMap (D.put (.string s.data.toList) (.lit (.int .i64 (fs.length:Nat)))) (fs++ [s]):=by
 refine ⟨h.1.put _ _,λt=> ?_⟩;by_cases e:t=s
 ·subst e;refine ⟨⟨λ_=>by simp,λ_=>has_put_same h.1 (Qu _) _⟩,λj A=> ?_⟩;rw[atKey_put_same h.1 (Qu _)];have:j=fs.length:=by
   rcases Nat.lt_trichotomy j fs.length with C|C|C
   ·rw[Z2 C] at A;exact absurd (List.mem_of_getElem? A) K
   ·exact C
   ·rw[List.getElem?_eq_none (by simp;omega)] at A;cases A
  rw[this]
 ·have F:(Lit.string t.data.toList)≠ .string s.data.toList:=by intro G;injection G with G;exact e (Zay G)
  obtain ⟨C,J⟩:=h.2 t;rw[has_put_other F,C];refine ⟨by simp[e],λj A=> ?_⟩;rw[atKey_put_other F];refine J j ?_;rcases YG j fs.length with H|H
  ·rwa [Z2 H] at A
  ·rw[ZK H] at A;rcases YP (j - fs.length) with I|I
   ·rw[I] at A;simp at A;exact absurd A.symm e
   ·rw[List.getElem?_eq_none (by simp;omega)] at A;cases A
theorem ZaO (l:List Ent) (x:Ent) (s:ByteArray):grp (l++ [x]) s=if ordE.id x=s then grp l s++ [x] else grp l s:=by
 unfold grp;rw[List.filter_append];by_cases h:ordE.id x=s
 ·rw[Zi h];simp[h]
 ·rw[Zf h];simp[h]
theorem Za5 {l:List Ent} {s:ByteArray} (h:s ∉ ordE.firsts l):grp l s= []:=by
 unfold grp;rw[List.filter_eq_nil_iff];intro x j;simp only[Z6];intro e;exact h ((ordE.mem_firsts l s).2 ⟨x,j,e⟩)
theorem Grps.grow {w w2:World} {B g cap:Nat} {l:List Ent} {fs:List ByteArray} {gv:List Value} {x:Ent} {i:Nat} {u u':Value} {s:ByteArray}
 (h:Grps w B (.slice (some ⟨g,0,none⟩) gv.length cap) l fs gv) (hh:fs.Pairwise (· ≠ ·)) (hi:fs[i]? =some s) (Z:gv[i]? =some u) (hx:ordE.id x=s)
 (X:w2.ownsRow B 64 5 u' ((grp l s).length+1) (flatE (grp l s)++eCells x)) (hg:w.grownBy w2 u.ownBlock) (R:u'.ownBlock=u.ownBlock\/(∃W:Nat,w.heap.size<=W/\u'.ownBlock=some W)) (V:u.ownBlock≠some g):
 Grps (w2.setCell ⟨g,i,none⟩ u') B (.slice (some ⟨g,0,none⟩) gv.length cap) (l++ [x]) fs (gv.set i u'):=by
 have U:=h.len;have hp:=h.row.lt g rfl;have hc:u'.ownBlock≠some g:=by
  rcases R with e|⟨W,hW,e⟩
  ·rw[e];exact V
  ·rw[e];intro O;injection O with O;omega
 have hf:∀(j:Nat) (v:Value),gv[j]? =some v->j≠i->v.ownBlock=none\/v.ownBlock≠u.ownBlock:=by
  intro j v C F;cases A:v.ownBlock with
  |none=>exact Or.inl rfl
  |some b=>exact Or.inr λe=>h.apart j i v u C Z F b A e.symm
 have K:=(h.row.kept hg (Or.inr λe=>V e.symm));refine ⟨by rw[List.length_set];exact U,?_,?_,?_⟩
 ·rw[List.length_set];exact (K.stored i u').1
 ·intro j t v F C;have hl:∀(m:Nat) (q:Value),gv[m]? =some q->(∃t,fs[m]? =some t)->q.ownBlock=none\/q.ownBlock≠some g:=by
   intro m q Y ⟨t',hk⟩;cases D:q.ownBlock with
   |none=>exact Or.inl rfl
   |some b=>
    refine Or.inr λe=> ?_;injection e with e;subst e;have h1:=(h.each m t' q hk Y).2;have Q:=h.row.2;rcases h1 with ⟨rfl,_⟩|⟨b',c',hn,rfl,_,he,_⟩
    ·cases D
    ·rcases Q with ⟨Q,_⟩|⟨g',ho,hd,Q,_,S,_⟩
     ·cases Q
     ·cases Q;cases D;rw[he] at S;simp at S
  by_cases G:j=i
  ·subst G;rw[hi] at F;injection F with F;subst F;have A:v=u':=(by rw[List.getElem?_set] at C;have:j<gv.length:=(ZE.1 Z).1;simp[this] at C;exact C.symm);subst A;rw[ZaO,Zi hx];exact OEnts.snoc (ownsRow_setCell_other X (a:=⟨g,j,none⟩) hc v)
  ·rw[List.getElem?_set_ne (λe=>G e.symm)] at C;have ht:t≠s:=by
    intro e;subst e;have h1:=Xj.1 hh;obtain ⟨p1,q1⟩:=ZE.1 hi;obtain ⟨p2,q2⟩:=ZE.1 F;rcases Nat.lt_or_gt_of_ne G with h3|h3
    ·exact h1 j i p2 p1 h3 (q2.trans q1.symm)
    ·exact h1 i j p1 p2 h3 (q1.trans q2.symm)
   rw[ZaO,Zf (by rw[hx];exact λe=>ht e.symm)];have h4:=(h.each j t v F C).kept hg (hf j v C G);refine ownsRow_setCell_other h4 (a:=⟨g,i,none⟩) ?_ u';rcases hl j v C ⟨t,F⟩ with e|e
   ·rw[e];simp
   ·exact e
 ·intro a b v v' C A I q Y;rw[List.getElem?_set] at C A;have key:∀(m:Nat) (q':Value),gv[m]? =some q'->m≠i->∀b,u'.ownBlock=some b->q'.ownBlock≠some b:=by
   intro m q' D hm b H e;rcases R with O|⟨W,hW,O⟩
   ·rw[O] at H;exact h.apart i m u q' Z D (λe=>hm e.symm) b H e
   ·rw[O] at H;injection H with H;obtain ⟨pm,_⟩:=ZE.1 D;have h5:=h.each m (fs[m]'(by omega)) q' (Zc (by omega)) D;have:=(h5.lt b e).2;omega
  by_cases ha:i=a
  ·subst ha;have J:i<gv.length:=(ZE.1 Z).1;simp only[Eq,Zi J,ZQ] at C;subst C;rw[Zf I] at A;exact key b v' A (λe=>I e.symm) q Y
  ·rw[Zf ha] at C;by_cases H:i=b
   ·subst H;have J:i<gv.length:=(ZE.1 Z).1;simp only[Eq,Zi J,ZQ] at A;subst A;intro e;exact key a v C (λe=>ha e.symm) q e Y
   ·rw[Zf H] at A;exact h.apart a b v v' C A I q Y
theorem Grps.form {w:World} {B:Nat} {v:Value} {l:List Ent} {fs:List ByteArray} {gv:List Value} (h:Grps w B v l fs gv):∃A c,v= .slice A gv.length c:=by
 rcases h.row.2 with ⟨j,D⟩|⟨g,cap,C,j,_⟩
 ·exact ⟨none,0,by rw[j,D]⟩
 ·exact ⟨_,_,j⟩
theorem Grps.kept {w w2:World} {B m:Nat} {v:Value} {l:List Ent} {fs:List ByteArray} {gv:List Value} (h:Grps w B v l fs gv) (D:w.grownBy w2 (some m)) (G:m<B):Grps w2 B v l fs gv:=by
 have key:∀{e:TypeId} {n size:Nat} {u:Value} {xs:List Value},w.ownsRow B e size u n xs->u.ownBlock=none\/u.ownBlock≠some m:=by
  intro e n size u xs F;cases hb:u.ownBlock with
  |none=>exact Or.inl rfl
  |some b=>refine Or.inr λe=> ?_;injection e with e;have:=(F.lt b hb).1;omega
 exact ⟨h.len,h.row.kept D (key h.row),λj s u A C=>(h.each j s u A C).kept D (key (h.each j s u A C)),h.apart⟩
theorem Grps.more {w w2:World} {B:Nat} {v v':Value} {l:List Ent} {fs:List ByteArray} {gv:List Value} {s:ByteArray}
 (h:Grps w B v l fs gv) (hs:grp l s= []) (I:w2.ownsRow B 30 1 v' (gv.length+1) (gv++ [.slice none 0 0])) (hg:w.grownBy w2 v.ownBlock):
 Grps w2 B v' l (fs++ [s]) (gv++ [.slice none 0 0]):=by
 have H:=h.len;refine ⟨by simp[H],by simpa using I,?_,?_⟩
 ·intro j t u F C;rcases YG j gv.length with A|A
  ·rw[Z2 A] at C;rw[Z2 (by omega)] at F;have V:=h.each j t u F C;refine V.kept hg ?_;cases hu':u.ownBlock with
   |none=>exact Or.inl rfl
   |some b=>
    refine Or.inr λe=> ?_;rcases V.2 with ⟨rfl,_⟩|⟨b',c',U,rfl,_,Q,_⟩
    ·cases hu'
    ·rcases h.row.2 with ⟨rfl,_⟩|⟨g',Z,K,rfl,_,G,_⟩
     ·cases e
     ·cases hu';cases e;rw[Q] at G;simp at G
  ·rw[ZK A] at C;rw[ZK (by omega)] at F;have R:j - gv.length=0:=by
    rcases YP (j - gv.length) with X|X
    ·exact X
    ·rw[List.getElem?_eq_none (by simp;omega)] at C;cases C
   rw[R] at C;rw[show j - fs.length=0 by omega] at F;simp at C F;subst C F;rw[hs];exact OEnts.nil _ _
 ·intro a b q Y hq S O m J;have D:∀(n:Nat) (u:Value),(gv++ [Value.slice none 0 0])[n]? =some u->∀m,u.ownBlock=some m->gv[n]? =some u:=by
   intro n u C m J;rcases YG n gv.length with A|A
   ·rwa [Z2 A] at C
   ·rw[ZK A] at C;have:=List.mem_of_getElem? C;simp at this;subst this;cases J
  intro e;exact h.apart a b q Y (D a q hq m J) (D b Y S m e) O m J e
end Go.Proofs.YthlnaldahkgjnaaGreatDoor
