/- Parts of the proof: contracts and plain laws. -/
import Derived.Test.YtnlafkgkcnenfaaGreatDoorT12
namespace Go.Proofs.YtnlafkgkcnenfaaGreatDoor
open Go Go.RowKit Go.WideMaps Go.Maps Go.Sort Tryz
set_option linter.unusedVariables false
set_option linter.unusedSimpArgs false
set_option linter.unusedSimpArgs false
set_option maxRecDepth 100000
set_option maxHeartbeats 16000000
section
variable {P:Program} {e:TypeId} {k n:Nat} {v:Value} {w:World} {α:Type}
def SeenMap (D:DataW Unit) (p:ByteArray->Bool):Prop:=
 IsMap D/\∀s:ByteArray,D.atKey (.string s.data.toList) (.lit (.bool false))= .lit (.bool (p s))
theorem SeenMap.nil:SeenMap (.map []) (λ_=>false):=⟨isMap_empty,λ_=>rfl⟩
theorem SeenMap.put {D:DataW Unit} {p q:ByteArray->Bool} {s:ByteArray} (h:SeenMap D p) (H:∀t,q t=(p t||decide (s=t))):SeenMap (D.put (.string s.data.toList) (.lit (.bool true))) q:=by
 refine ⟨h.1.put _ _,λt=> ?_⟩;rw[H];by_cases e:s=t
 ·subst e;rw[atKey_put_same h.1 (Kb _)];simp
 ·have F:(Lit.string t.data.toList)≠ .string s.data.toList:=by intro A;injection A with A;exact e (KI A).symm
  rw[atKey_put_other F,h.2 t];simp[e]
theorem Kd (A:P.underlying e=some .bool) {z:DataW Unit×List MemPlace} (h:plainElem P e v=some z):∃b:Bool,v= .bool b/\z=(.lit (.bool b),[]):=by
 unfold plainElem at h;rw[A] at h;cases v<;>simp at h;exact ⟨_,rfl,h.symm⟩
theorem Zl0 (w:Wq):(zeroValue 4).run prog w= .ok (.bool false) w:=by kernel_rfl
theorem Eo {b:Nat} {D:DataW Unit} {p:ByteArray->Bool} {s:ByteArray} (H:w.ownsMap prog 9 (plainElem prog 4) b n D) (h:SeenMap D p) (I:s.size<=maxLen):
 (Instr.lookup 183 (.map (some b)) (.string s) false).run prog w= .ok (.bool (p s)) w:=by
 obtain ⟨v,ps,A,J⟩:=H.lookup Ux underlying183 (Zl0 w) (plainElem_bool underlying4 false) (keyOf_string_mk underlying9 I);obtain ⟨c,rfl,F⟩:=Kd underlying4 J;rw[h.2 s] at F;simp only[Prod.mk.injEq,DataW.lit.injEq,Lit.bool.injEq] at F;rw[A,F.1]
theorem Zbt {κ:Type} [DecidableEq κ] {ok:α->Bool} {O:Ord α κ} {l:List α} (D:k<l.length) (h:okAt ok O l k=false):okL ok O l=false:=by
 rw[Yv];intro A;have:=Yg.1 A k (XK.2 D);rw[h] at this;cases this
theorem Zdn {κ:Type} [DecidableEq κ] {ok:α->Bool} {O:Ord α κ} {l:List α} (h:∀k,k<l.length->okAt ok O l k=true):okL ok O l=true:=
 Yg.2 λk A=>h k (XK.1 A)
theorem QB {l:List α} {id:α->ByteArray} {s:ByteArray} (h:(l.take k).any (λx=>decide (id x=s))=false):∀j (A:j<l.length),j<k->id l[j]≠s:=λj A D e=>by
 rw[List.any_eq_false] at h;exact h l[j] (List.mem_take_iff_getElem.2 ⟨j,by omega,rfl⟩) (by simpa using e)
theorem GC {l:List α} {id:α->ByteArray} {s:ByteArray} (h:(l.take k).any (λx=>decide (id x=s))=true):∃j,∃D:j<l.length,j<k/\id l[j]=s:=by
 rw[XC] at h;obtain ⟨x,F,A⟩:=h;obtain ⟨j,D,rfl⟩:=List.mem_take_iff_getElem.1 F;exact ⟨j,by omega,by omega,by simpa using A⟩
theorem Zef (v:Value) (l:List Ent) (w:Wq) (hE:Env w) (h:REnts w v l) (hs:∀x∈l,eokS x) (hn:l.length<=1000000):
 Calls prog 131 #[v,.func (.func 132) #[] #[],.func (.func 114) #[] #[],.func (.func 129) #[] #[]] w λe w'=>e= .returned (.bool (okL okE ordE l))/\Ext w w':=by
 obtain ⟨A,c,rfl, -, -⟩:=h.form;have gf:= @run_makeMap prog;obtain ⟨R,hR⟩:∃R,okL okE ordE l=R:=⟨_,rfl⟩;rw[hR];have HR:=gd hR;have HS:=gd hs;have HH:=gd h;have hW:=gd hE;clear hR hs h hE;go_enter func131,ntmps131;go_wp2;go_loopw [15] (λi wr=>∃(k:Nat) (D:DataW Unit),k<=l.length/\i=nI k/\wr.ownsMap prog 9 (plainElem prog 4) w.heap.size k D/\Hid (SeenMap D (λs=>(l.take k).any (λe=>decide (e.id=s))))/\Hid (∀j,j<k->okAt okE ordE l j=true)/\Ext w wr) (λi _=>l.length - (intOf i).toNat)
 case atStart=>exact ⟨0,.map [],Zh _,rfl,World.ownsMap_made _ _ _ _,gd SeenMap.nil,gd (λj h=>by omega),(Ext.refl _).alloc _⟩
 case round=>
  obtain ⟨k,D,hk,rfl,hM,hD,ho,K⟩:=hrel;by_cases hf:k<l.length
  ·obtain ⟨ad,c1,e1,hI⟩:=(REnts.ext HH.out K).at hf;injection e1 with e1 e1' e1'';subst e1;clear e1' e1'';have hA:l[k]∈l:=ZE hf;have hr:=HS.out _ hA;have hU:=Zn hf;have hd:=JZ (ok:=okE) (O:=ordE) hf;have hb:∃b,(l.take k).any (λe=>decide (e.id=l[k].id))=b:=⟨_,rfl⟩;obtain ⟨b,hb⟩:=hb;have hJ:b=false->∀j (hj:j<k),ordE.id l[j]≠ordE.id l[k]:=λe j hj=>QB (id:=Ent.id) (hb.trans e) j (by omega) hj;have hS:b=true->okAt okE ordE l k=false:=λe=>(by rw[Yv];intro h;obtain ⟨j,hj,h3,he⟩:=GC (id:=Ent.id) (hb.trans e);exact (hd.1 h).2.2 j h3 he);have Y:Hid (okAt okE ordE l k=false->R=false):=gd λh=>(by rw[<-HR.out];exact Zbt hf h);have ha:Hid (SeenMap (D.put (.string l[k].id.data.toList) (.lit (.bool true))) (λs=>(l.take (k+1)).any (λe=>decide (e.id=s)))):=gd (hD.out.put λt=>by rw[hU,List.any_append];simp);obtain ⟨E,hY⟩:∃E,l[k]=E:=⟨_,rfl⟩;rw[hY] at hI hr hb ha hd hJ;have Z:=gd hd;have hN:=gd hJ;have hO:=gd hS;have hz:keyOf prog 9 (.string E.id)=some (.string E.id.data.toList):=keyOf_string_mk underlying9 (by have:=hr.1;unfold maxLen;omega);have h5:E.id.size<=maxLen:=(by have:=hr.1;unfold maxLen;omega);have hg:=gd hz;have HM:=gd hM;have V:=gd hf;clear hd hJ hS hU hA hz;obtain ⟨W1,hw⟩:∃W1,wr.alloc (.cells (eCells E).toArray 76)=W1:=⟨_,rfl⟩;have hy:Ext wr W1:=(by rw[<-hw];exact (Ext.refl _).alloc _);have hu:=λz:Aft W1=>Eo (hM.kept ((hy.trans z.ext).grown none) (by simp)) hD.out h5;simp only[hb] at hu;have H:=gd (λz:Aft W1=>ZfL E z.w (hW.out.ext (K.trans (hy.trans z.ext))) hr);have I:=gd (λz:Wq=>Zhm E z);have hx:W1.heap[wr.heap.size]? =some (.cells (eCells E).toArray 76):=(by rw[<-hw];exact Zg _ _);have U:=gd hy;have h8:(0:Int)<=(k:Int):=(by omega);have ga:(k:Int)<(l.length:Int):=(by omega);have hP:Hid (k<maxLen):=gd (by unfold maxLen;omega);clear hy hM hb;obtain ⟨id,title,link,content,upd⟩:=E;unfold eCells at hw hx H I;dsimp only at hw hx H I hI hu ha hg;obtain ⟨b0,b1,b2,b3,b4⟩:=Zm0 hx;obtain ⟨a0,a1,a2,a3,a4⟩:=hI;have B0:=λz:Aft W1=>Aft.cell b0 z;have B1:=λz:Aft W1=>Aft.cell b1 z;have B2:=λz:Aft W1=>Aft.cell b2 z;have B3:=λz:Aft W1=>Aft.cell b3 z;have B4:=λz:Aft W1=>Aft.cell b4 z;clear b0 b1 b2 b3 b4 hx;dsimp only at a0 a1 a2 a3 a4;cases hok:okE ⟨id,title,link,content,upd⟩ with
   |false=>
    have hR:=Y.out (by
     rw[Yv];intro h;have h1:=(Z.out.1 h).1;rw[hok] at h1;cases h1)
    subst hR;rw[hok] at H;clear hok;simp only[YV,Vq] at H;go_wp2;refine rA ?_
    repeat (first|go_big_quiet_step ((first|(go_at_call 132;with_reducible exact ZD (H.out _))|(go_at_call 129;with_reducible exact ZD (I.out _))))|quiet_step ((first|(go_at_call 132;with_reducible exact ZD (H.out _))|(go_at_call 129;with_reducible exact ZD (I.out _)))))
    refine Z8 ?_;rintro _ ⟨J,rfl⟩;go_wp2;go_ret;exact ⟨rfl,K.trans (U.out.trans J.ext)⟩
   |true=>
    have hQ:=gd hok;rw[hok] at H;clear hok;simp only[J9] at H;rcases YO k with h0|hT
    ·cases b with
     |true=>
      have hR:=Y.out (hO.out rfl);subst hR;subst h0;simp only[Xa,add_zero] at a0 a1 a2 a3 a4;go_wp2;refine rA ?_
      repeat (first|go_big_quiet_step ((first|(go_at_call 132;with_reducible exact ZD (H.out _))|(go_at_call 129;with_reducible exact ZD (I.out _))))|quiet_step ((first|(go_at_call 132;with_reducible exact ZD (H.out _))|(go_at_call 129;with_reducible exact ZD (I.out _)))))
      refine Z8 ?_;rintro _ ⟨J,rfl⟩;go_wp2;go_ret;exact ⟨rfl,K.trans (U.out.trans J.ext)⟩
     |false=>
      have X:=gd (Z.out.2 ⟨hQ.out,λh=>absurd h (by omega),hN.out rfl⟩);subst h0;simp only[Xa,add_zero] at a0 a1 a2 a3 a4;go_wp2;refine rA ?_
      repeat (first|go_big_quiet_step ((first|(go_at_call 132;with_reducible exact ZD (H.out _))|(go_at_call 129;with_reducible exact ZD (I.out _))))|quiet_step ((first|(go_at_call 132;with_reducible exact ZD (H.out _))|(go_at_call 129;with_reducible exact ZD (I.out _)))))
      refine Z8 ?_;rintro _ ⟨J,rfl⟩;have hC:=gd (HM.out.kept ((U.out.trans J.ext).grown none) (by simp));have hG:=gd (K.trans (U.out.trans J.ext));have D0:=B0 J;have D1:=B1 J;have D2:=B2 J;have D3:=B3 J;have D4:=B4 J;clear B0 B1 B2 B3 B4 hu
      go_wp2_with (first|(go_at_call 129;(with_reducible refine Za (I.out _) ?_);rintro e w2 ⟨rfl,hp⟩)|(at_mapUpdate;(refine Uf _ rfl (.tmp 46) (.tmp 49) (.const (.bool true)) 183 rfl 9 4 Ux underlying183 _ w.heap.size 0 D rfl (hC.out.kept (hp.grown none) (by simp)) hP.out _ _ _ rfl rfl hg.out _ [] (plainElem_bool underlying4 true) ?_);intro w5 hl hm))
      have hK:Ext w w5:=Ext.grown' (B:=0) (hG.out.trans hp) hm (λb hb=>by cases hb;exact Zb _);have hF:=gd hl;clear hl hm;go_roundw
      case rel=>exact ⟨0+1,_,V.out,by go_num,hF.out,ha,gd (λt ht=>by
       by_cases e:t=0
       ·rw[e];exact X.out
       ·exact ho.out t (by omega)),hK⟩
      case measure=>simp[intOf];have:=V.out;omega
    ·obtain ⟨q,hq⟩:∃q,k=q+1:=⟨k - 1,by omega⟩;have h6:q<l.length:=(by have:=V.out;omega);obtain ⟨af,c3,e3,hH⟩:=(REnts.ext HH.out (K.trans U.out)).at h6;injection e3 with e3 e3' e3'';injection e3 with e3;subst e3;clear e3' e3'';have hv:l[k - 1]'(XN (Jg _ _) V.out)=l[q]:=(by subst hq;rfl);obtain ⟨F,hH,hv⟩:∃F:Ent,AtEnt W1 (ad.add (q*5)) F/\l[k - 1]'(XN (Jg _ _) V.out)=F:=⟨_,hH,hv⟩;have hh:=gd hv;have Q:ordE.lt F ⟨id,title,link,content,upd⟩=decide (entCmp F ⟨id,title,link,content,upd⟩<0):=rfl;have S:=gd (λz:Aft W1=>G1 F ⟨id,title,link,content,upd⟩ z.w);obtain ⟨cc,hc⟩:∃cc,entCmp F ⟨id,title,link,content,upd⟩=cc:=⟨_,rfl⟩;rw[hc] at Q;simp only[hc] at S;clear hv hc;obtain ⟨h9,hV,hX,hL,h7⟩:=F;obtain ⟨k0,k1,k2,k3,k4⟩:=hH;dsimp only at k0 k1 k2 k3 k4;have C0:=λz:Aft W1=>Aft.cell k0 z;have C1:=λz:Aft W1=>Aft.cell k1 z;have C2:=λz:Aft W1=>Aft.cell k2 z;have C3:=λz:Aft W1=>Aft.cell k3 z;have C4:=λz:Aft W1=>Aft.cell k4 z;clear k0 k1 k2 k3 k4;have gb:(0:Int)<(k:Int):=(by omega);have ge:wrap64 ((k:Int) - 1)=(q:Int):=(by rw[Up _ ⟨by omega,by omega⟩];omega);have gc:(k:Int) - 1=(q:Int):=(by omega);have gg:(0:Int)<=(q:Int):=(by omega);have gh:(q:Int)<(l.length:Int):=(by omega);unfold eCells at S;dsimp only at S;by_cases hB:cc<0
     ·have hi:Hid (∀h:0<k,ordE.lt (l[k - 1]'(XN (Jg _ _) V.out)) ⟨id,title,link,content,upd⟩=true):=gd (λh=>by rw[hh.out,Q];exact YE hB);have h2:¬(0:Int)<=cc:=(by omega);cases b with
      |true=>
       have hR:=Y.out (hO.out rfl);subst hR;clear Q hq hh;go_wp2;refine rA ?_
       repeat (first|go_big_quiet_step ((first|(go_at_call 132;with_reducible exact ZD (H.out _))|(go_at_call 114;with_reducible exact ZD (S.out _))|(go_at_call 129;with_reducible exact ZD (I.out _))))|quiet_step ((first|(go_at_call 132;with_reducible exact ZD (H.out _))|(go_at_call 114;with_reducible exact ZD (S.out _))|(go_at_call 129;with_reducible exact ZD (I.out _)))))
       refine Z8 ?_;rintro _ ⟨J,rfl⟩;go_wp2;go_ret;exact ⟨rfl,K.trans (U.out.trans J.ext)⟩
      |false=>
       have X:=gd (Z.out.2 ⟨hQ.out,hi.out,hN.out rfl⟩);clear Q hq hh hi;go_wp2;refine rA ?_
       repeat (first|go_big_quiet_step ((first|(go_at_call 132;with_reducible exact ZD (H.out _))|(go_at_call 114;with_reducible exact ZD (S.out _))|(go_at_call 129;with_reducible exact ZD (I.out _))))|quiet_step ((first|(go_at_call 132;with_reducible exact ZD (H.out _))|(go_at_call 114;with_reducible exact ZD (S.out _))|(go_at_call 129;with_reducible exact ZD (I.out _)))))
       refine Z8 ?_;rintro _ ⟨J,rfl⟩;have hC:=gd (HM.out.kept ((U.out.trans J.ext).grown none) (by simp));have hG:=gd (K.trans (U.out.trans J.ext));have D0:=B0 J;have D1:=B1 J;have D2:=B2 J;have D3:=B3 J;have D4:=B4 J;clear B0 B1 B2 B3 B4 hu
       go_wp2_with (first|(go_at_call 129;(with_reducible refine Za (I.out _) ?_);rintro e w2 ⟨rfl,hp⟩)|(at_mapUpdate;(refine Uf _ rfl (.tmp 46) (.tmp 49) (.const (.bool true)) 183 rfl 9 4 Ux underlying183 _ w.heap.size k D rfl (hC.out.kept (hp.grown none) (by simp)) hP.out _ _ _ rfl rfl hg.out _ [] (plainElem_bool underlying4 true) ?_);intro w5 hl hm))
       have hK:Ext w w5:=Ext.grown' (B:=0) (hG.out.trans hp) hm (λb hb=>by cases hb;exact Zb _);have hF:=gd hl;clear hl hm;go_roundw
       case rel=>exact ⟨k+1,_,V.out,by go_num,hF.out,ha,gd (λt ht=>by
        by_cases e:t=k
        ·rw[e];exact X.out
        ·exact ho.out t (by omega)),hK⟩
       case measure=>simp[intOf];have:=V.out;omega
     ·have hR:=Y.out (by
       rw[Yv];intro h;have h1:=(Z.out.1 h).2.1 hT;rw[hh.out,Q] at h1;exact hB (Yw h1))
      subst hR;have h2:(0:Int)<=cc:=(by omega);clear Q hq hh;go_wp2;refine rA ?_
      repeat (first|go_big_quiet_step ((first|(go_at_call 132;with_reducible exact ZD (H.out _))|(go_at_call 114;with_reducible exact ZD (S.out _))|(go_at_call 129;with_reducible exact ZD (I.out _))))|quiet_step ((first|(go_at_call 132;with_reducible exact ZD (H.out _))|(go_at_call 114;with_reducible exact ZD (S.out _))|(go_at_call 129;with_reducible exact ZD (I.out _)))))
      refine Z8 ?_;rintro _ ⟨J,rfl⟩;go_wp2;go_ret;exact ⟨rfl,K.trans (U.out.trans J.ext)⟩
  ·have h4:k=l.length:=(by omega);subst h4;have hZ:R=true:=(by rw[<-HR.out];exact Zdn ho.out);subst hZ;go_wp2;go_ret;exact ⟨rfl,K⟩
end
section
variable {k:Nat}
theorem Zf9 (x:Fc) (w:Wq) (R:RdC w x) (Q:fokS x.f) (K:¬x.f.path.length<=64):
 Calls prog 40 #[.agg (cellsC x).toArray] w λe w'=>e= .returned (nI 22)/\Ext w w':=by
 obtain ⟨⟨z0,V⟩,X,z3⟩:=Q;obtain ⟨xp,S,⟨h,U,F,I,J,H⟩⟩:=x;obtain ⟨A,D⟩:=R;dsimp only at*;obtain ⟨Z,xc,rfl, -, -⟩:=A.form;obtain ⟨xB,xd,rfl, -, -⟩:=D.form;have Y:(64:Int)<(h.length:Int):=by omega
 clear A D z0 V X z3 K;unfold cellsC fCells;dsimp only;go_enter func40,ntmps40;go_wp2;go_ret;exact ⟨rfl,(Ext.refl _).alloc _⟩
theorem J0 (x:Fc) (w:Wq) (hr:RdC w x) (hk:fokS x.f) (h0:x.f.path.length<=64) (hw:validS x.f.id=false\/validS x.f.id=true/\(validS x.f.title=false\/validS x.f.title=true/\(validS x.f.link=false\/validS x.f.link=true/\(x.f.id.toList.isEmpty=true\/x.f.id.toList.isEmpty=false/\inT x.f.upd=false)))):
 Calls prog 40 #[.agg (cellsC x).toArray] w λe w'=>e= .returned (nI 22)/\Ext w w':=by
 obtain ⟨⟨z0,z1⟩,z2,z3⟩:=hk;have V:=gd (λw'=>Xf x.f.id w' (by omega));have X:=gd (λw'=>Xf x.f.title w' (by omega));have Y:=gd (λw'=>Xf x.f.link w' (by omega));have Z:=gd (λw'=>Vu x.f.upd w');obtain ⟨xp,ha,⟨F,U,A,D,K,S⟩⟩:=x;obtain ⟨H,h⟩:=hr;dsimp only at*;obtain ⟨xA,xc,rfl, -, -⟩:=H.form;obtain ⟨xB,xd,rfl, -, -⟩:=h.form;have hb:¬(64:Int)<(F.length:Int):=by omega
 clear H h z0 z1 z2 z3 h0;generalize validS U=b0 at*;generalize validS A=b1 at*;generalize validS D=b2 at*;generalize inT K=b5 at*;rcases hw with rfl|⟨rfl,rfl|⟨rfl,rfl|⟨rfl,h4|⟨h4,rfl⟩⟩⟩⟩
 all_goals
  unfold cellsC fCells
  dsimp only
  go_enter func40,ntmps40
  go_wp2_with (first|(go_at_call 76;(with_reducible refine Za (V.out _) ?_);rintro e w1 ⟨rfl,h⟩;(have k2:=h.boxed 2 _ rfl))|(go_at_call 76;(with_reducible refine Za (X.out _) ?_);rintro e w2 ⟨rfl,Q⟩;(have I:=h.trans Q);(have k3:=I.boxed 3 _ rfl))|(go_at_call 76;(with_reducible refine Za (Y.out _) ?_);rintro e w3 ⟨rfl,R⟩;(have J:=I.trans R);(have k1:=J.boxed 1 _ rfl);(have k4:=J.boxed 4 _ rfl))|(go_at_call 77;(with_reducible refine Za (Z.out _) ?_);rintro e w5 ⟨rfl,rfl⟩))
  go_ret
  exact ⟨rfl,((Ext.refl _).alloc _).trans (by assumption)⟩
def okP (l:List ByteArray):Bool:=l.all λp=> !decide (p=noS) && validS p
theorem Zlg {l:List ByteArray} (F:k<l.length) (h:∀p∈l.take k,p≠noS/\validS p=true) (D:l[k]≠noS/\validS l[k]=true):∀p∈l.take (k+1),p≠noS/\validS p=true:=by
 intro p A;rw[Zn F] at A;rcases Zx.1 A with A|A
 ·exact h p A
 ·rw[Zo.1 A];exact D
theorem ZjN {l:List ByteArray} {p:ByteArray} (A:p∈l) (h:p=noS\/validS p=false):okP l=false:=by
 unfold okP;rw[List.all_eq_false];refine ⟨p,A,?_⟩;rcases h with h|h<;>simp[h]
theorem Zlh {l:List ByteArray} (h:∀p∈l,p≠noS/\validS p=true):okP l=true:=by
 unfold okP;rw[Yg];intro p F;obtain ⟨A,D⟩:=h p F;simp[A,D]
theorem ZjM {l:List Ent} (A:k<l.length) (h:okAt okE ordE l k=false):okL okE ordE l=false:=by
 unfold okL;rw[List.all_eq_false];exact ⟨k,XK.2 A,by simp[h]⟩
theorem Zlf {l:List Ent} (h:∀k,k<l.length->okAt okE ordE l k=true):okL okE ordE l=true:=by
 unfold okL;rw[Yg];exact λk A=>h k (XK.1 A)
theorem Zga (x:Fc) (w:Wq) (hr:RdC w x) (hk:fokS x.f) (h0:x.f.path.length<=64) (v0:validS x.f.id=true) (v1:validS x.f.title=true) (v2:validS x.f.link=true) (h4:x.f.id.toList.isEmpty=false) (h5:inT x.f.upd=true):
 Calls prog 40 #[.agg (cellsC x).toArray] w λe w'=>e= .returned (nI (if (okP x.f.path && okL okE ordE x.f.ents)=true then 0 else 22))/\Ext w w':=by
 obtain ⟨⟨z0,z1⟩,z2,z3⟩:=hk;have V0:=gd (λw'=>Xf x.f.id w' (by omega));rw[v0] at V0;have V1:=gd (λw'=>Xf x.f.title w' (by omega));rw[v1] at V1;have V2:=gd (λw'=>Xf x.f.link w' (by omega));rw[v2] at V2;have VT:=gd (λw'=>Vu x.f.upd w');rw[h5] at VT;obtain ⟨xp,gt,⟨D,gu,h3,gk,gl,A⟩⟩:=x;obtain ⟨hK,hn⟩:=hr;dsimp only at*;obtain ⟨xA,xc,rfl, -, -⟩:=hK.form;obtain ⟨xB,xd,rfl, -, -⟩:=hn.form;have hb:¬(64:Int)<(D.length:Int):=by omega
 obtain ⟨R,hR⟩:∃R:Int,(if (okP D && okL okE ordE A)=true then 0 else 22)=R:=⟨_,rfl⟩;rw[hR];have HR:=gd hR;have hQ:=gd hK;have hF:=gd hn;have HS:Hid (∀p∈D,p.size<=16777216):=gd λp hp=>by have:=XZ hp;omega
 have h7:Hid (∀e∈A,eokS e):=gd λe he=>by obtain ⟨_,h⟩:=z3 e he;exact ⟨by omega,by omega,by omega,by omega⟩
 have gq:D.length<=64:=h0;have gm:A.length<=1000000:=z2;clear hK hn z0 z1 z2 z3 h0 v0 v1 v2 h5 hR;unfold cellsC fCells;dsimp only;go_enter func40,ntmps40
 go_wp2_with (first|(go_at_call 76;(with_reducible refine Za (V0.out _) ?_);rintro e w1 ⟨rfl,hn⟩;(have k2:=hn.boxed 2 _ rfl))|(go_at_call 76;(with_reducible refine Za (V1.out _) ?_);rintro e w2 ⟨rfl,hZ⟩;(have hM:=hn.trans hZ);(have k3:=hM.boxed 3 _ rfl))|(go_at_call 76;(with_reducible refine Za (V2.out _) ?_);rintro e w3 ⟨rfl,h2⟩;(have hx:=hM.trans h2);(have k1:=hx.boxed 1 _ rfl);(have k4:=hx.boxed 4 _ rfl))|(go_at_call 77;(with_reducible refine Za (VT.out _) ?_);rintro e w5 ⟨rfl,rfl⟩))
 have ho:Hid (∀wr:Wq,Ext w3 wr->wr.cell? ⟨w.heap.size,0,none⟩=some (.slice xA D.length xc)/\wr.cell? ⟨w.heap.size,5,none⟩=some (.slice xB A.length xd)):=gd λwr h=>⟨(hx.trans h).boxed 0 _ rfl,(hx.trans h).boxed 5 _ rfl⟩;have V:Hid (Ext w w3):=gd (((Ext.refl _).alloc _).trans hx);clear V0 V1 V2 VT hn hZ hM h2 hx k1 k2 k3 k4 hb h4;go_loopw [3] (λi wr=>∃k:Nat,k<=D.length/\i=nI k/\Hid (∀p∈D.take k,p≠noS/\validS p=true)/\Ext w3 wr) (λi _=>D.length - (intOf i).toNat)
 case atStart=>exact ⟨0,Zh _,rfl,gd (by simp),Ext.refl _⟩
 case round=>
  obtain ⟨k,hk,rfl,K,hw⟩:=hrel;obtain ⟨h8,hG⟩:=ho.out wr hw;by_cases X:k<D.length
  ·obtain ⟨ad,c1,e1,hc⟩:=(hQ.out.ext (V.out.trans hw)).at X;injection e1 with e1 e1' e1'';subst e1;clear e1' e1'';have hA:D[k]∈D:=ZE X;have H:=Zlg X K.out;have HV:=gd (Xf D[k] wr (by have:=HS.out _ hA;omega));have Y:(D[k]=noS\/validS D[k]=false)->R=22:=λh=>(by rw[<-HR.out,ZjN hA h];rfl);obtain ⟨p,hY⟩:∃p,D[k]=p:=⟨_,rfl⟩;rw[hY] at hc H HV Y;have hV:(0:Int)<=(k:Int):=(by omega);have gc:(k:Int)<(D.length:Int):=(by omega);clear hY hA;by_cases he:p=noS
   ·have hR:=Y (Or.inl he);subst hR;have ga:p.toList.isEmpty=true:=(by rw[he,X3];rfl);clear he H Y HV;go_wp2;go_ret;exact ⟨rfl,V.out.trans hw⟩
   ·have ga:=Vs he;cases hv:validS p with
    |false=>
     have hR:=Y (Or.inr hv);subst hR;rw[hv] at HV;clear he H Y hv
     go_wp2_with (first|(go_at_call 76;(with_reducible refine Za (HV.out) ?_);rintro e w6 ⟨rfl,hL⟩))
     go_ret;exact ⟨rfl,(V.out.trans hw).trans hL⟩
    |true=>
     have hD:=gd (H ⟨he,hv⟩);rw[hv] at HV;clear he H Y hv
     go_wp2_with (first|(go_at_call 76;(with_reducible refine Za (HV.out) ?_);rintro e w6 ⟨rfl,hL⟩))
     go_roundw
     case rel=>exact ⟨k+1,X,by go_num,hD,hw.trans hL⟩
     case measure=>simp[intOf];omega
  ·have hJ:k=D.length:=(by omega);subst hJ;rw[ZR (Zb _)] at K;have ha:=Zlh K.out;have hT:(if okL okE ordE A=true then 0 else 22)=R:=(by rw[<-HR.out,ha,Xv]);have hP:=gd hT;clear ha hT HR K hQ HS;obtain ⟨wA,gh⟩:∃wA:Wq,wA=wr:=⟨_,rfl⟩;subst gh;go_wp2;clear h8 hG;go_loopw [4] (λi wr=>∃k:Nat,k<=A.length/\i=nI k/\Hid (∀j,j<k->okAt okE ordE A j=true)/\Ext w3 wr) (λi _=>A.length - (intOf i).toNat)
   case atStart=>exact ⟨0,Zh _,rfl,gd (λj h=>by omega),hw⟩
   case round=>
    obtain ⟨k,hk,rfl,K,hi⟩:=hrel;obtain ⟨_,hG⟩:=ho.out wr hi;by_cases X:k<A.length
    ·have hX:REnts wr (.slice xB A.length xd) A:=hF.out.ext (V.out.trans hi);obtain ⟨ad,c1,e1,Z⟩:=hX.at X;injection e1 with e1 e1' e1'';subst e1;clear e1' e1'' hX;have hg:=gd (JZ (ok:=okE) (O:=ordE) X);have hB:=h7.out _ (ZE X);have hy:Hid (okAt okE ordE A k=false->R=22):=gd λh=>(by rw[<-hP.out,ZjM X h];rfl);obtain ⟨E,hE,Z,hB⟩:∃E,A[k]=E/\AtEnt wr (ad.add (k*5)) E/\eokS E:=⟨_,rfl,Z,hB⟩;have HE:=gd hE;have J:=gd X;have I:=gd (λw'=>Zcf E w' hB);have h6:=gd Z;have hV:(0:Int)<=(k:Int):=(by omega);have gc:(k:Int)<(A.length:Int):=(by omega);have B5:∀d:Aft wr,d.w.cell? ⟨w.heap.size,5,none⟩=some (.slice (some ad) A.length xd):=Aft.cell hG;clear hE hB;have A0:∀d:Aft wr,d.w.cell? (ad.add (k*5))=some (.string E.id):=Aft.cell Z.c0;have A1:∀d:Aft wr,d.w.cell? ⟨(ad.add (k*5)).block,(ad.add (k*5)).off+1,none⟩=some (.string E.title):=Aft.cell Z.c1;have A2:∀d:Aft wr,d.w.cell? ⟨(ad.add (k*5)).block,(ad.add (k*5)).off+2,none⟩=some (.string E.link):=Aft.cell Z.c2;have A3:∀d:Aft wr,d.w.cell? ⟨(ad.add (k*5)).block,(ad.add (k*5)).off+3,none⟩=some (.string E.content):=Aft.cell Z.c3;have A4:∀d:Aft wr,d.w.cell? ⟨(ad.add (k*5)).block,(ad.add (k*5)).off+4,none⟩=some (nI E.upd):=Aft.cell Z.c4;clear Z;cases ha:okE E with
     |false=>
      have hR:=hy.out (by
       rw[Yv];intro h;have h1:=((hg.out).1 h).1;rw[HE.out,ha] at h1;cases h1)
      subst hR;rw[ha] at I;clear ha;unfold eCells at I;simp only[YV,Vq] at I;go_wp2;refine rA ?_
      repeat (first|go_big_quiet_step ((first|(go_at_call 78;with_reducible exact ZD (I.out _))))|quiet_step ((first|(go_at_call 78;with_reducible exact ZD (I.out _)))))
      refine Z8 ?_;rintro _ ⟨d1,rfl⟩;go_wp2;go_ret;exact ⟨rfl,V.out.trans (hi.trans d1.ext)⟩
     |true=>
      have hO:=gd ha;rw[ha] at I;clear ha;unfold eCells at I;simp only[J9] at I;rcases YO k with h0|hW
      ·subst h0;have hl:Hid (∀h:0<0,ordE.lt (A[0 - 1]'(by have:=J.out;omega)) (A[0]'J.out)=true):=gd (λh=>by omega);simp only[add_zero,Xa] at A0 A1 A2 A3 A4;go_wp2;refine rA ?_
       repeat (first|go_big_quiet_step ((first|(go_at_call 78;with_reducible exact ZD (I.out _))))|quiet_step ((first|(go_at_call 78;with_reducible exact ZD (I.out _)))))
       refine Z8 ?_;rintro _ ⟨d1,rfl⟩;have hm:=hi.trans d1.ext;go_wp2;go_loopw [5] (λi wr=>∃j:Nat,j<=0/\i=nI j/\Hid (∀t (h:t<A.length),t<j->A[t].id≠E.id)/\Ext d1.w wr) (λi _=>0 - (intOf i).toNat)
       case atStart=>exact ⟨0,Zh _,rfl,gd (λt _ h=>by omega),Ext.refl _⟩
       case round=>
        obtain ⟨j,hj,rfl,hz,hd⟩:=hrel;obtain ⟨_,hS⟩:=ho.out wr (hm.trans hd);have hs:=J.out;by_cases hI:j<0
        ·exact absurd hI (Nat.not_lt_zero _)
        ·have hH:j=0:=(by omega);subst hH;have S:okAt okE ordE A 0=true:=(by refine (hg.out).2 ⟨by rw[HE.out];exact hO.out,hl.out,λt ht=> ?_⟩;rw[HE.out];exact hz.out t (by omega) ht);have HG:=gd S;clear S hs;go_wp2;go_roundw
         case rel=>exact ⟨0+1,J.out,by go_num,gd (λt ht=>by
          by_cases e:t=0
          ·rw[e];exact HG.out
          ·exact K.out t (by omega)),hm.trans hd⟩
         case measure=>simp[intOf];have:=J.out;omega
      ·obtain ⟨q,hq⟩:∃q,k=q+1:=⟨k - 1,by omega⟩;have gg:q<A.length:=(by have:=J.out;omega);have hX:REnts wr (.slice (some ad) A.length xd) A:=hF.out.ext (V.out.trans hi);obtain ⟨af,c3,e3,hh⟩:=hX.at gg;injection e3 with e3 e3' e3'';injection e3 with e3;subst e3;clear e3' e3'' hX;have U:ordE.lt A[q] E=decide (entCmp A[q] E<0):=rfl;have hu:Hid (A[k - 1]'(XN (Jg _ _) J.out)=A[q]):=gd (by subst hq;rfl);have hf:=gd (λw'=>Zgb A[q] E w');obtain ⟨F,hh,U,hu,hf⟩:∃F,AtEnt wr (ad.add (q*5)) F/\(ordE.lt F E=decide (entCmp F E<0))/\Hid (A[k - 1]'(XN (Jg _ _) J.out)=F)/\Hid (∀w',Calls prog 79 #[.agg (eCells F).toArray,.agg (eCells E).toArray] w' λe gj=>e= .returned (nI (entCmp F E))/\Ext w' gj):=⟨_,hh,U,hu,hf⟩;have C0:∀d:Aft wr,d.w.cell? (ad.add (q*5))=some (.string F.id):=Aft.cell hh.c0;have C1:∀d:Aft wr,d.w.cell? ⟨(ad.add (q*5)).block,(ad.add (q*5)).off+1,none⟩=some (.string F.title):=Aft.cell hh.c1;have C2:∀d:Aft wr,d.w.cell? ⟨(ad.add (q*5)).block,(ad.add (q*5)).off+2,none⟩=some (.string F.link):=Aft.cell hh.c2;have C3:∀d:Aft wr,d.w.cell? ⟨(ad.add (q*5)).block,(ad.add (q*5)).off+3,none⟩=some (.string F.content):=Aft.cell hh.c3;have C4:∀d:Aft wr,d.w.cell? ⟨(ad.add (q*5)).block,(ad.add (q*5)).off+4,none⟩=some (nI F.upd):=Aft.cell hh.c4;clear hh;obtain ⟨c,hc⟩:∃c,entCmp F E=c:=⟨_,rfl⟩;rw[hc] at U hf;have gn:(0:Int)<(k:Int):=(by omega);have gp:wrap64 ((k:Int) - 1)=(q:Int):=(by rw[Up _ ⟨by omega,by omega⟩];omega);have go:(k:Int) - 1=(q:Int):=(by omega);have gr:(0:Int)<=(q:Int):=(by omega);have gs:(q:Int)<(A.length:Int):=(by omega);unfold eCells at hf;by_cases hC:c<0
       ·have hl:Hid (∀h:0<k,ordE.lt (A[k - 1]'(XN (Jg _ _) J.out)) (A[k]'J.out)=true):=gd (λh=>by rw[hu.out,HE.out,U];exact YE hC);have gb:¬(0:Int)<=c:=(by omega);clear U hc hq hu;go_wp2;refine rA ?_
        repeat (first|go_big_quiet_step ((first|(go_at_call 78;with_reducible exact ZD (I.out _))|(go_at_call 79;with_reducible exact ZD (hf.out _))))|quiet_step ((first|(go_at_call 78;with_reducible exact ZD (I.out _))|(go_at_call 79;with_reducible exact ZD (hf.out _)))))
        refine Z8 ?_;rintro _ ⟨d1,rfl⟩;have hm:=hi.trans d1.ext;go_wp2;go_loopw [5] (λi wr=>∃j:Nat,j<=k/\i=nI j/\Hid (∀t (h:t<A.length),t<j->A[t].id≠E.id)/\Ext d1.w wr) (λi _=>k - (intOf i).toNat)
        case atStart=>exact ⟨0,Zh _,rfl,gd (λt _ h=>by omega),Ext.refl _⟩
        case round=>
         obtain ⟨j,hj,rfl,hz,hd⟩:=hrel;obtain ⟨_,hS⟩:=ho.out wr (hm.trans hd);have hs:=J.out;by_cases hI:j<k
         ·have ge:j<A.length:=(by omega);have hX:REnts wr (.slice (some ad) A.length xd) A:=hF.out.ext (V.out.trans (hm.trans hd));obtain ⟨ae,c2,e2,hU⟩:=hX.at ge;injection e2 with e2 e2' e2'';injection e2 with e2;subst e2;clear e2' e2'' hX;have H:A[j].id≠E.id->∀t (h:t<A.length),t<j+1->A[t].id≠E.id:=λgf t h ht=>by
           by_cases e:t=j
           ·subst e;exact gf
           ·exact hz.out t h (by omega)
          have Q:A[j].id=E.id->R=22:=λe=>(by refine hy.out ?_;rw[Yv];intro h;exact ((hg.out).1 h).2.2 j hI (by rw[HE.out];exact e));have q0:=hU.c0;have p0:=(h6.out.ext (d1.ext.trans hd)).c0;obtain ⟨y,gi⟩:∃y,A[j].id=y:=⟨_,rfl⟩;rw[gi] at H Q q0;obtain ⟨z,hN⟩:∃z,E.id=z:=⟨_,rfl⟩;simp only[hN] at H Q p0 hz|-;have HZ:=gd hN;clear hN hU;have B5:∀d:Aft wr,d.w.cell? ⟨w.heap.size,5,none⟩=some (.slice (some ad) A.length xd):=Aft.cell hS;have Q0:∀d:Aft wr,d.w.cell? (ad.add (j*5))=some (.string y):=Aft.cell q0;have P0:∀d:Aft wr,d.w.cell? (ad.add (k*5))=some (.string z):=Aft.cell p0;have j0:(0:Int)<=(j:Int):=(by omega);have j1:(j:Int)<(A.length:Int):=(by omega);have j2:(j:Int)<(k:Int):=(by omega);clear q0 p0 hs;cases hyz:(y.toList==z.toList) with
          |true=>
           have hR:=Q (toList_inj (by simpa using hyz));subst hR;clear Q H;go_wp2;refine rA ?_
           repeat (first|go_big_quiet_step (fail)|quiet_step (fail))
           refine Z8 ?_;rintro _ ⟨d2,rfl⟩;go_wp2;go_ret;exact ⟨rfl,V.out.trans ((hm.trans hd).trans d2.ext)⟩
          |false=>
           have hD:=gd (H (λe=>by rw[e] at hyz;simp at hyz));clear Q H;go_wp2;refine rA ?_
           repeat (first|go_big_quiet_step (fail)|quiet_step (fail))
           refine Z8 ?_;rintro _ ⟨d2,rfl⟩;go_wp2;go_roundw
           case rel=>exact ⟨j+1,by omega,by go_num,hD,hd.trans d2.ext⟩
           case measure=>simp[intOf];omega
         ·have hH:j=k:=(by omega);subst hH;have S:okAt okE ordE A j=true:=(by refine (hg.out).2 ⟨by rw[HE.out];exact hO.out,hl.out,λt ht=> ?_⟩;rw[HE.out];exact hz.out t (by omega) ht);have HG:=gd S;clear S hs;go_wp2;go_roundw
          case rel=>exact ⟨j+1,J.out,by go_num,gd (λt ht=>by
           by_cases e:t=j
           ·rw[e];exact HG.out
           ·exact K.out t (by omega)),hm.trans hd⟩
          case measure=>simp[intOf];have:=J.out;omega
       ·have hR:=hy.out (by
         rw[Yv];intro h;have h1:=((hg.out).1 h).2.1 hW;rw[hu.out,HE.out,U] at h1;exact hC (Yw h1))
        subst hR;have gb:(0:Int)<=c:=(by omega);clear U hc hq hu;go_wp2;refine rA ?_
        repeat (first|go_big_quiet_step ((first|(go_at_call 78;with_reducible exact ZD (I.out _))|(go_at_call 79;with_reducible exact ZD (hf.out _))))|quiet_step ((first|(go_at_call 78;with_reducible exact ZD (I.out _))|(go_at_call 79;with_reducible exact ZD (hf.out _)))))
        refine Z8 ?_;rintro _ ⟨d1,rfl⟩;go_wp2;go_ret;exact ⟨rfl,V.out.trans (hi.trans d1.ext)⟩
    ·have hJ:k=A.length:=(by omega);subst hJ;have h9:R=0:=(by rw[<-hP.out,Zlf K.out];rfl);subst h9;go_wp2;go_ret;exact ⟨rfl,V.out.trans hi⟩
theorem Zcg (x:Fc) (w:Wq) (I:RdC w x) (H:fokS x.f):
 Calls prog 40 #[.agg (cellsC x).toArray] w λe w'=>e= .returned (nI (if okF x.f=true then 0 else 22))/\Ext w w':=by
 have R:okF x.f=(okH x.f && okL okE ordE x.f.ents):=rfl;by_cases A:x.f.path.length<=64
 case neg=>rw[Ze (by rw[R];unfold okH;simp[A])];exact Zf9 x w I H A
 have Q:∀s,validS s=false->s∈ [x.f.id,x.f.title,x.f.link]->okF x.f=false:=λs h D=>by rw[Yv];intro F;have:=(X4.1 (Jf.1 F).1).2.1 s (by unfold strsF;simp only[Zx];exact Or.inr D);rw[h] at this;cases this
 cases v0:validS x.f.id with
 |false=>rw[Ze (by rw[Q _ v0 (by simp)];simp)];exact J0 x w I H A (Or.inl v0)
 |true=>
 cases v1:validS x.f.title with
 |false=>rw[Ze (by rw[Q _ v1 (by simp)];simp)];exact J0 x w I H A (Or.inr ⟨v0,Or.inl v1⟩)
 |true=>
 cases v2:validS x.f.link with
 |false=>rw[Ze (by rw[Q _ v2 (by simp)];simp)];exact J0 x w I H A (Or.inr ⟨v0,Or.inr ⟨v1,Or.inl v2⟩⟩)
 |true=>
 by_cases K:x.f.id=noS
 ·rw[Ze (λF=>(X4.1 (Jf.1 F).1).2.2.1 K)];exact J0 x w I H A (Or.inr ⟨v0,Or.inr ⟨v1,Or.inr ⟨v2,Or.inl (by rw[K,X3];rfl)⟩⟩⟩)
 cases h5:inT x.f.upd with
 |false=>rw[Ze (λF=>by have:=(X4.1 (Jf.1 F).1).2.2.2.1;rw[h5] at this;cases this)];exact J0 x w I H A (Or.inr ⟨v0,Or.inr ⟨v1,Or.inr ⟨v2,Or.inr ⟨Vs K,h5⟩⟩⟩⟩)
 |true=>
  have e:(okF x.f=true)=((okP x.f.path && okL okE ordE x.f.ents)=true):=by
   rw[R];have:okH x.f=okP x.f.path:=by
    rw[YZ,X4];unfold okP;rw[Yg];constructor
    ·rintro ⟨_,a,_,_,b⟩ p J;simp[b p J,a p (by unfold strsF;simp[J])]
    ·intro h;have F:∀p∈x.f.path,p≠noS/\validS p=true:=λp J=>(by have:=h p J;simpa using this);refine ⟨A,λs D=> ?_,K,h5,λp J=>(F p J).1⟩;unfold strsF at D;rcases Zx.1 D with D|D
     ·exact (F s D).2
     ·simp only[ZK,Z2,Xc] at D;rcases D with rfl|rfl|rfl<;>assumption
   rw[this]
  rw[show (if okF x.f=true then (0:Int) else 22)=(if (okP x.f.path && okL okE ordE x.f.ents)=true then 0 else 22) by simp only[e]];exact Zga x w I H A v0 v1 v2 (Vs K) h5
end
theorem Zhc (v:Value) (x:ByteArray) (l:List ByteArray) (w:Wq) (h:RStrs w v l) (hn:l.length<=16777216):
 Calls prog 151 #[v,.string x] w λe w'=>(∃i:Int,e= .returned (nI i)/\(((l.any λs=>decide (s=x))=true/\0<=i)\/((l.any λs=>decide (s=x))=false/\i<0)))/\w=w':=by
 obtain ⟨A,c,rfl, -, -⟩:=h.form;obtain ⟨R,X⟩:∃R,(l.any λs=>decide (s=x))=R:=⟨_,rfl⟩;rw[X];have HR:=gd X;have HH:=gd h;clear X h;go_enter func151,ntmps151;go_wp2;go_loopw [8] (λi wr=>∃k:Nat,k<=l.length/\i=nI k/\Hid (∀s∈l.take k,s≠x)/\w=wr) (λi _=>l.length - (intOf i).toNat)
 case atStart=>exact ⟨0,Zh _,rfl,gd (by simp),rfl⟩
 case round=>
  obtain ⟨k,hk,rfl,H,rfl⟩:=hrel;by_cases F:k<l.length
  ·obtain ⟨ad,c1,e1,hc⟩:=(HH.out).at F;injection e1 with e1 e1' e1'';subst e1;clear e1' e1'';have I:l[k]∈l:=ZE F;have K:=Zn F;have D:l[k]=x->R=true:=λh=>(by rw[<-HR.out,XC];exact ⟨_,I,by simpa using h⟩);obtain ⟨p,S⟩:∃p,l[k]=p:=⟨_,rfl⟩;rw[S] at hc K D;have V:=gd K;have Q:(0:Int)<=(k:Int):=(by omega);have hb:(k:Int)<(l.length:Int):=(by omega);clear S I K;cases hyz:(x.toList==p.toList) with
   |true=>have Z:=D (toList_inj (by simpa using hyz)).symm;subst Z;clear D;go_wp2;go_ret;exact ⟨⟨_,rfl,Q⟩,rfl⟩
   |false=>
    have U:=gd (show p≠x from λe=>by rw[e] at hyz;simp at hyz);clear D;go_wp2;go_roundw
    case rel=>exact ⟨k+1,F,by go_num,gd (λs J=>by
     rw[V.out] at J;rcases Zx.1 J with J|J
     ·exact H.out s J
     ·rw[Zo.1 J];exact U.out),(by first|trivial|rfl)⟩
    case measure=>simp[intOf];omega
  ·have ha:k=l.length:=(by omega);subst ha;have hi:=H.out;rw[ZR (Zb _)] at hi;have Y:R=false:=(by rw[<-HR.out,List.any_eq_false];intro s J;simpa using hi s J);subst Y;clear hi;go_wp2;go_ret;exact ⟨⟨_,rfl,by omega⟩,rfl⟩
theorem Jj (v:Value) (x:ByteArray) (l:List ByteArray) (w:Wq) (h:RStrs w v l) (I:l.length<=16777216):
 Calls prog 104 #[v,.string x] w λe w'=>e= .returned (.bool (l.any λs=>decide (s=x)))/\w=w':=by
 have D:=gd (Zhc v x l w h I);obtain ⟨A,c,rfl, -, -⟩:=h.form;obtain ⟨R,F⟩:∃R,(l.any λs=>decide (s=x))=R:=⟨_,rfl⟩;simp only[F] at D|-;clear h F;go_enter func104,ntmps104
 go_wp2_with (first|(go_at_call 151;(with_reducible refine Za (D.out) ?_);rintro e J ⟨⟨i,rfl,H⟩,rfl⟩))
 go_ret;rcases H with ⟨rfl,h⟩|⟨rfl,h⟩
 ·exact ⟨by simp[h],rfl⟩
 ·exact ⟨by simp;omega,rfl⟩
theorem Zju (x:Fc) (w:Wq) (R:Env w) (U:RdC w x) (S:fokS x.f) (Q:¬x.f.path.length<=64):
 Calls prog 87 #[.agg (cellsC x).toArray] w λe w'=>e= .returned (nI 22)/\Ext w w':=by
 obtain ⟨⟨z0,Y⟩,Z,z3⟩:=S;have K:=gd (λw'=>XJ (false) w');obtain ⟨xp,V,⟨h,X,F,I,J,H⟩⟩:=x;obtain ⟨A,D⟩:=U;dsimp only at*;obtain ⟨xA,xc,rfl, -, -⟩:=A.form;obtain ⟨xB,xd,rfl, -, -⟩:=D.form;have hb:¬(h.length:Int)<=64:=by omega
 clear A D z0 Y Z z3 R Q;unfold cellsC fCells;dsimp only;go_enter func87,ntmps87
 go_wp2_with (first|(go_at_call 85;(with_reducible refine Za (K.out _) ?_);rintro e9 w9 ⟨rfl,rfl⟩))
 all_goals go_ret
 all_goals exact ⟨rfl,(Ext.refl _).alloc _⟩
theorem Zjv (x:Fc) (w:Wq) (V:Env w) (Q:RdC w x) (X:fokS x.f) (U:x.f.path.length<=64) (c0:(x.f.path.any λs=>decide (s=⟨#[]⟩))=true):
 Calls prog 87 #[.agg (cellsC x).toArray] w λe w'=>e= .returned (nI 22)/\Ext w w':=by
 obtain ⟨⟨z0,z1⟩,z2,z3⟩:=X;have D:=gd (λ(w':Wq) (h:Ext w w')=>Jj x.p ⟨#[]⟩ x.f.path w' (Q.1.ext h) (by omega));rw[c0] at D;have S:=gd (λw'=>XJ (false) w');obtain ⟨xp,Y,⟨A,Z,I,K,R,J⟩⟩:=x;obtain ⟨F,H⟩:=Q;dsimp only at*;obtain ⟨xA,xc,rfl, -, -⟩:=F.form;obtain ⟨xB,xd,rfl, -, -⟩:=H.form;have hb:(A.length:Int)<=64:=by omega
 clear F H z0 z1 z2 z3 V U c0;unfold cellsC fCells;dsimp only;go_enter func87,ntmps87
 go_wp2_with (first|(go_at_call 104;(with_reducible refine Za (D.out _ ((Ext.refl w).alloc _)) ?_);rintro e3 w3 ⟨rfl,rfl⟩)|(go_at_call 85;(with_reducible refine Za (S.out _) ?_);rintro e9 w9 ⟨rfl,rfl⟩))
 all_goals go_ret
 all_goals exact ⟨rfl,(Ext.refl _).alloc _⟩
theorem Zjw (x:Fc) (w:Wq) (U:Env w) (Q:RdC w x) (Z:fokS x.f) (Y:x.f.path.length<=64) (c0:(x.f.path.any λs=>decide (s=⟨#[]⟩))=false) (v0:x.f.path.all validS=false):
 Calls prog 87 #[.agg (cellsC x).toArray] w λe w'=>e= .returned (nI 22)/\Ext w w':=by
 obtain ⟨⟨z0,z1⟩,z2,z3⟩:=Z;have F:=gd (λ(w':Wq) (h:Ext w w')=>Jj x.p ⟨#[]⟩ x.f.path w' (Q.1.ext h) (by omega));rw[c0] at F;have H:=gd (λ(w':Wq) (h:Ext w w')=>Ut x.p x.f.path w' (U.ext h) (Q.1.ext h) (λs hs=>by have:=XZ hs;omega) (by omega));rw[v0] at H;have X:=gd (λw'=>XJ (false) w');obtain ⟨xp,ha,⟨D,hc,K,S,V,R⟩⟩:=x;obtain ⟨I,J⟩:=Q;dsimp only at*;obtain ⟨xA,xc,rfl, -, -⟩:=I.form;obtain ⟨xB,xd,rfl, -, -⟩:=J.form;have hb:(D.length:Int)<=64:=by omega
 clear I J z0 z1 z2 z3 U Y c0 v0;unfold cellsC fCells;dsimp only;go_enter func87,ntmps87
 go_wp2_with (first|(go_at_call 104;(with_reducible refine Za (F.out _ ((Ext.refl w).alloc _)) ?_);rintro e3 w3 ⟨rfl,rfl⟩)|(go_at_call 128;(with_reducible refine Za (H.out _ ((Ext.refl w).alloc _)) ?_);rintro e4 w4 ⟨rfl,A⟩;(have k1:=A.boxed 1 _ rfl);(have k2:=A.boxed 2 _ rfl);(have k3:=A.boxed 3 _ rfl);(have k4:=A.boxed 4 _ rfl))|(go_at_call 85;(with_reducible refine Za (X.out _) ?_);rintro e9 w9 ⟨rfl,rfl⟩))
 all_goals go_ret
 all_goals exact ⟨rfl,((Ext.refl _).alloc _).trans A⟩
theorem Zjx (x:Fc) (w:Wq) (U:Env w) (Q:RdC w x) (Z:fokS x.f) (Y:x.f.path.length<=64) (c0:(x.f.path.any λs=>decide (s=⟨#[]⟩))=false) (v0:x.f.path.all validS=true) (i0:x.f.id.toList.isEmpty=true):
 Calls prog 87 #[.agg (cellsC x).toArray] w λe w'=>e= .returned (nI 22)/\Ext w w':=by
 obtain ⟨⟨z0,z1⟩,z2,z3⟩:=Z;have F:=gd (λ(w':Wq) (h:Ext w w')=>Jj x.p ⟨#[]⟩ x.f.path w' (Q.1.ext h) (by omega));rw[c0] at F;have H:=gd (λ(w':Wq) (h:Ext w w')=>Ut x.p x.f.path w' (U.ext h) (Q.1.ext h) (λs hs=>by have:=XZ hs;omega) (by omega));rw[v0] at H;have X:=gd (λw'=>XJ (false) w');obtain ⟨xp,ha,⟨D,hc,K,S,V,R⟩⟩:=x;obtain ⟨I,J⟩:=Q;dsimp only at*;obtain ⟨xA,xc,rfl, -, -⟩:=I.form;obtain ⟨xB,xd,rfl, -, -⟩:=J.form;have hb:(D.length:Int)<=64:=by omega
 clear I J z0 z1 z2 z3 U Y c0 v0;unfold cellsC fCells;dsimp only;go_enter func87,ntmps87
 go_wp2_with (first|(go_at_call 104;(with_reducible refine Za (F.out _ ((Ext.refl w).alloc _)) ?_);rintro e3 w3 ⟨rfl,rfl⟩)|(go_at_call 128;(with_reducible refine Za (H.out _ ((Ext.refl w).alloc _)) ?_);rintro e4 w4 ⟨rfl,A⟩;(have k1:=A.boxed 1 _ rfl);(have k2:=A.boxed 2 _ rfl);(have k3:=A.boxed 3 _ rfl);(have k4:=A.boxed 4 _ rfl))|(go_at_call 85;(with_reducible refine Za (X.out _) ?_);rintro e9 w9 ⟨rfl,rfl⟩))
 all_goals go_ret
 all_goals exact ⟨rfl,((Ext.refl _).alloc _).trans A⟩
theorem Zjy (x:Fc) (w:Wq) (V:Env w) (R:RdC w x) (hk:fokS x.f) (Z:x.f.path.length<=64) (c0:(x.f.path.any λs=>decide (s=⟨#[]⟩))=false) (v0:x.f.path.all validS=true) (i0:x.f.id.toList.isEmpty=false) (t0:inT x.f.upd=false):
 Calls prog 87 #[.agg (cellsC x).toArray] w λe w'=>e= .returned (nI 22)/\Ext w w':=by
 obtain ⟨⟨z0,z1⟩,z2,z3⟩:=hk;have F:=gd (λ(w':Wq) (h:Ext w w')=>Jj x.p ⟨#[]⟩ x.f.path w' (R.1.ext h) (by omega));rw[c0] at F;have I:=gd (λ(w':Wq) (h:Ext w w')=>Ut x.p x.f.path w' (V.ext h) (R.1.ext h) (λs hs=>by have:=XZ hs;omega) (by omega));rw[v0] at I;have H:=gd (λw'=>Vf x.f.upd w');rw[t0] at H;have Y:=gd (λw'=>XJ (false) w');obtain ⟨xp,ha,⟨D,hc,Q,U,X,S⟩⟩:=x;obtain ⟨J,K⟩:=R;dsimp only at*;obtain ⟨xA,xc,rfl, -, -⟩:=J.form;obtain ⟨xB,xd,rfl, -, -⟩:=K.form;have hb:(D.length:Int)<=64:=by omega
 clear J K z0 z1 z2 z3 V Z c0 v0 t0;unfold cellsC fCells;dsimp only;go_enter func87,ntmps87
 go_wp2_with (first|(go_at_call 104;(with_reducible refine Za (F.out _ ((Ext.refl w).alloc _)) ?_);rintro e3 w3 ⟨rfl,rfl⟩)|(go_at_call 128;(with_reducible refine Za (I.out _ ((Ext.refl w).alloc _)) ?_);rintro e4 w4 ⟨rfl,A⟩;(have k1:=A.boxed 1 _ rfl);(have k2:=A.boxed 2 _ rfl);(have k3:=A.boxed 3 _ rfl);(have k4:=A.boxed 4 _ rfl))|(go_at_call 130;(with_reducible refine Za (H.out _) ?_);rintro e5 w5 ⟨rfl,rfl⟩)|(go_at_call 85;(with_reducible refine Za (Y.out _) ?_);rintro e9 w9 ⟨rfl,rfl⟩))
 all_goals go_ret
 all_goals exact ⟨rfl,((Ext.refl _).alloc _).trans A⟩
theorem Zjz (x:Fc) (w:Wq) (U:Env w) (V:RdC w x) (hk:fokS x.f) (h0:x.f.path.length<=64) (c0:(x.f.path.any λs=>decide (s=⟨#[]⟩))=false) (v0:x.f.path.all validS=true) (i0:x.f.id.toList.isEmpty=false) (t0:inT x.f.upd=true) (s0: [x.f.id,x.f.title,x.f.link].all validS=false):
 Calls prog 87 #[.agg (cellsC x).toArray] w λe w'=>e= .returned (nI 22)/\Ext w w':=by
 obtain ⟨⟨z0,z1⟩,z2,z3⟩:=hk;have I:=gd (λ(w':Wq) (h:Ext w w')=>Jj x.p ⟨#[]⟩ x.f.path w' (V.1.ext h) (by omega));rw[c0] at I;have K:=gd (λ(w':Wq) (h:Ext w w')=>Ut x.p x.f.path w' (U.ext h) (V.1.ext h) (λs hs=>by have:=XZ hs;omega) (by omega));rw[v0] at K;have J:=gd (λw'=>Vf x.f.upd w');rw[t0] at J;have F:=gd (λ(w':Wq) (h:Ext w w')=>Ut _ [x.f.id,x.f.title,x.f.link] (w'.alloc (.cells ([x.f.id,x.f.title,x.f.link].map Value.string).toArray 9)) ((U.ext h).alloc _) (U5 w' [x.f.id,x.f.title,x.f.link] (by show 3<=maxLen;decide)) (λs h=>by simp only[ZK,Z2,Xc] at h;rcases h with rfl|rfl|rfl<;>omega) (by show 3<=16777216;decide));rw[s0] at F;simp only[Zw,Yc,Zd,ZM] at F;have HC:=gd (λw'=>XJ (false) w');obtain ⟨xp,hc,⟨H,hd,S,Z,ha,Y⟩⟩:=x;obtain ⟨Q,R⟩:=V;dsimp only at*;obtain ⟨xA,xc,rfl, -, -⟩:=Q.form;obtain ⟨xB,xd,rfl, -, -⟩:=R.form;have hb:(H.length:Int)<=64:=by omega
 clear Q R z0 z1 z2 z3 U h0 c0 v0 t0 s0;unfold cellsC fCells;dsimp only;go_enter func87,ntmps87
 go_wp2_with (first|(go_at_call 104;(with_reducible refine Za (I.out _ ((Ext.refl w).alloc _)) ?_);rintro e3 w3 ⟨rfl,rfl⟩)|(go_at_call 128;(with_reducible refine Za (K.out _ ((Ext.refl w).alloc _)) ?_);rintro e4 w4 ⟨rfl,A⟩;(have k1:=A.boxed 1 _ rfl);(have k2:=A.boxed 2 _ rfl);(have k3:=A.boxed 3 _ rfl);(have k4:=A.boxed 4 _ rfl))|(go_at_call 130;(with_reducible refine Za (J.out _) ?_);rintro e5 w5 ⟨rfl,rfl⟩)|(go_at_call 128;(have hz:=F.out _ (((Ext.refl w).alloc _).trans A));(with_reducible refine Za hz ?_);clear hz;rintro e7 w7 ⟨rfl,X⟩;(have D:=A.trans (((Ext.refl _).alloc _).trans X));(have k5:=D.boxed 5 _ rfl))|(go_at_call 85;(with_reducible refine Za (HC.out _) ?_);rintro e9 w9 ⟨rfl,rfl⟩))
 all_goals go_ret
 all_goals exact ⟨rfl,((Ext.refl _).alloc _).trans D⟩
theorem ZjA (x:Fc) (w:Wq) (U:Env w) (V:RdC w x) (hk:fokS x.f) (h0:x.f.path.length<=64) (c0:(x.f.path.any λs=>decide (s=⟨#[]⟩))=false) (v0:x.f.path.all validS=true) (i0:x.f.id.toList.isEmpty=false) (t0:inT x.f.upd=true) (s0: [x.f.id,x.f.title,x.f.link].all validS=true):
 Calls prog 87 #[.agg (cellsC x).toArray] w λe w'=>e= .returned (nI (if okL okE ordE x.f.ents=true then 0 else 22))/\Ext w w':=by
 obtain ⟨⟨z0,z1⟩,z2,z3⟩:=hk;have I:=gd (λ(w':Wq) (h:Ext w w')=>Jj x.p ⟨#[]⟩ x.f.path w' (V.1.ext h) (by omega));rw[c0] at I;have Q:=gd (λ(w':Wq) (h:Ext w w')=>Ut x.p x.f.path w' (U.ext h) (V.1.ext h) (λs hs=>by have:=XZ hs;omega) (by omega));rw[v0] at Q;have J:=gd (λw'=>Vf x.f.upd w');rw[t0] at J;have F:=gd (λ(w':Wq) (h:Ext w w')=>Ut _ [x.f.id,x.f.title,x.f.link] (w'.alloc (.cells ([x.f.id,x.f.title,x.f.link].map Value.string).toArray 9)) ((U.ext h).alloc _) (U5 w' [x.f.id,x.f.title,x.f.link] (by show 3<=maxLen;decide)) (λs h=>by simp only[ZK,Z2,Xc] at h;rcases h with rfl|rfl|rfl<;>omega) (by show 3<=16777216;decide));rw[s0] at F;simp only[Zw,Yc,Zd,ZM] at F;have K:=gd (λ(w':Wq) (h:Ext w w')=>Zef x.es x.f.ents w' (U.ext h) (V.2.ext h) (λe he=>by obtain ⟨_,h⟩:=z3 e he;exact ⟨by omega,by omega,by omega,by omega⟩) z2);have HC:=gd (λw'=>XJ (okL okE ordE x.f.ents) w');obtain ⟨b,Y⟩:∃b,okL okE ordE x.f.ents=b:=⟨_,rfl⟩;simp only[Y] at K HC|-;clear Y;obtain ⟨xp,hg,⟨H,hh,X,hd,hf,hc⟩⟩:=x;obtain ⟨R,S⟩:=V;dsimp only at*;obtain ⟨xA,xc,rfl, -, -⟩:=R.form;obtain ⟨xB,xd,rfl, -, -⟩:=S.form;have Y:(H.length:Int)<=64:=by omega
 clear R S z0 z1 z2 z3 U h0 c0 v0 t0 s0;unfold cellsC fCells;dsimp only;go_enter func87,ntmps87
 go_wp2_with (first|(go_at_call 104;(with_reducible refine Za (I.out _ ((Ext.refl w).alloc _)) ?_);rintro e3 w3 ⟨rfl,rfl⟩)|(go_at_call 128;(with_reducible refine Za (Q.out _ ((Ext.refl w).alloc _)) ?_);rintro e4 w4 ⟨rfl,A⟩;(have k1:=A.boxed 1 _ rfl);(have k2:=A.boxed 2 _ rfl);(have k3:=A.boxed 3 _ rfl);(have k4:=A.boxed 4 _ rfl))|(go_at_call 130;(with_reducible refine Za (J.out _) ?_);rintro e5 w5 ⟨rfl,rfl⟩)|(go_at_call 128;(have hz:=F.out _ (((Ext.refl w).alloc _).trans A));(with_reducible refine Za hz ?_);clear hz;rintro e7 w7 ⟨rfl,Z⟩;(have D:=A.trans (((Ext.refl _).alloc _).trans Z));(have k5:=D.boxed 5 _ rfl))|(go_at_call 131;(with_reducible refine Za (K.out _ (((Ext.refl w).alloc _).trans D)) ?_);rintro e8 w8 ⟨rfl,ha⟩)|(go_at_call 85;(with_reducible refine Za (HC.out _) ?_);rintro e9 w9 ⟨rfl,rfl⟩))
 all_goals go_ret
 all_goals exact ⟨rfl,(((Ext.refl _).alloc _).trans D).trans ha⟩
theorem ZfM (x:Fc) (w:Wq) (H:Env w) (J:RdC w x) (I:fokS x.f):
 Calls prog 87 #[.agg (cellsC x).toArray] w λe w'=>e= .returned (nI (if okF x.f=true then 0 else 22))/\Ext w w':=by
 by_cases F:x.f.path.length<=64
 case neg=>rw[Ze (λA=>F (X4.1 (Jf.1 A).1).1)];exact Zju x w H J I F
 cases c0:(x.f.path.any λs=>decide (s=⟨#[]⟩)) with
 |true=>
  rw[Ze (λA=>by
   obtain ⟨s,h,S⟩:=XC.1 c0;exact (X4.1 (Jf.1 A).1).2.2.2.2 s h (Yw S))]
  exact Zjv x w H J I F c0
 |false=>
 cases v0:x.f.path.all validS with
 |false=>
  rw[Ze (λA=>by
   have D:=(X4.1 (Jf.1 A).1).2.1;rw[Yg.2 (λs h=>D s (by unfold strsF;simp[h]))] at v0;cases v0)]
  exact Zjw x w H J I F c0 v0
 |true=>
 by_cases K:x.f.id=noS
 ·rw[Ze (λA=>(X4.1 (Jf.1 A).1).2.2.1 K)];exact Zjx x w H J I F c0 v0 (Zdi K)
 cases t0:inT x.f.upd with
 |false=>rw[Ze (λA=>by have:=(X4.1 (Jf.1 A).1).2.2.2.1;rw[t0] at this;cases this)];exact Zjy x w H J I F c0 v0 (Vs K) t0
 |true=>
 cases s0: [x.f.id,x.f.title,x.f.link].all validS with
 |false=>
  rw[Ze (λA=>by
   have D:=(X4.1 (Jf.1 A).1).2.1;rw[Yg.2 (λs h=>D s (by unfold strsF;simp only[Zx];exact Or.inr h))] at s0;cases s0)]
  exact Zjz x w H J I F c0 v0 (Vs K) t0 s0
 |true=>
  have R:okH x.f=true:=X4.2 ⟨F,λs h=>by
   unfold strsF at h;rcases Zx.1 h with h|h
   ·exact Yg.1 v0 s h
   ·exact Yg.1 s0 s h,K,t0,λp U e=>by
   rw[List.any_eq_false] at c0;exact c0 p U (YE e)⟩
  have Q:okF x.f=okL okE ordE x.f.ents:=by unfold okF;rw[R];rfl
  rw[Q];exact ZjA x w H J I F c0 v0 (Vs K) t0 s0
section
theorem Zcl (u v:Value) (a b:List ByteArray) (w:Wq) (ha:RStrs w u a) (hb:RStrs w v b) (hn:a.length<=16777216):
 Calls prog 171 #[u,v] w λe w'=>e= .returned (nI (pathCmp a b))/\w'=w:=by
 obtain ⟨A,c,rfl,hc,hf⟩:=ha.form;obtain ⟨B,d,rfl,hd,hg⟩:=hb.form;have HA:Hid (a.length<=maxLen):=gd (by omega);have HB:Hid (b.length<=maxLen):=gd (by omega);clear hc hf hd hg;go_enter func171,ntmps171;go_wp2;go_loopw [11] (λi wr=>∃k:Nat,k<=a.length/\k<=b.length/\i=nI k/\Hid (pathCmp a b=pathCmp (a.drop k) (b.drop k))/\wr=w) (λi _=>a.length - (intOf i).toNat)
 case atStart=>exact ⟨0,Zh _,Zh _,rfl,gd rfl,rfl⟩
 case round=>
  obtain ⟨k,hj,hk,rfl,D,rfl⟩:=hrel;by_cases H:k<a.length
  ·by_cases I:k<b.length
   ·have R:=Ip H I;obtain ⟨ad,c1,e1,K⟩:=ha.at H;injection e1 with e1 e2 e3;subst e1;obtain ⟨bd,d1,e4,he⟩:=hb.at I;injection e4 with e4 e5 e6;subst e4;clear e2 e3 e5 e6;obtain ⟨x,F⟩:∃x,a[k]=x:=⟨_,rfl⟩;obtain ⟨y,S⟩:∃y,b[k]=y:=⟨_,rfl⟩;rw[F,S] at R;rw[F] at K;rw[S] at he;have V:=gd R;have Y:=gd (λw'=>VV x y w');clear R F S;have hi:(0:Int)<=(k:Int):=(by omega);have hh:(k:Int)<(a.length:Int):=(by omega);have X:(k:Int)<(b.length:Int):=(by omega);obtain ⟨q,hq⟩:∃q,sCmp x y=q:=⟨_,rfl⟩;rw[hq] at Y;have HQ:=gd hq;clear hq;by_cases J:q=0
    ·subst J
     go_wp2_with (go_at_call 119;refine (Y.out _).mono ?_;rintro e w2 ⟨rfl,rfl⟩)
     go_roundw
     case rel=>refine ⟨k+1,by omega,by omega,by go_num,gd ?_,trivial⟩;rw[D.out,V.out,Zi HQ.out]
     case measure=>simp[intOf];omega
    ·have hm:(q !=0)=true:=(by simpa using J);have Z:=gd J;clear J
     go_wp2_with (go_at_call 119;refine (Y.out _).mono ?_;rintro e w2 ⟨rfl,rfl⟩)
     go_ret;have h:pathCmp a b=q:=(by rw[D.out,V.out,HQ.out,Ze Z.out]);exact ⟨by rw[h];rfl,rfl⟩
   ·have Q:k=b.length:=(by omega);subst Q;have h:pathCmp a b=1:=(by rw[D.out,Zs (Zb _),Zk H];rfl);have U:=gd h;clear h D;have hh:(b.length:Int)<(a.length:Int):=(by omega);obtain ⟨ad,c1,e1,K⟩:=ha.at H;injection e1 with e1 e2 e3;subst e1;clear e2 e3;obtain ⟨x,F⟩:∃x,a[b.length]=x:=⟨_,rfl⟩;rw[F] at K;clear F;go_wp2;go_ret;exact ⟨by rw[U.out];rfl,rfl⟩
  ·have Q:k=a.length:=(by omega);subst Q;by_cases I:a.length<b.length
   ·have h:pathCmp a b= -1:=(by rw[D.out,Zs (Zb a.length),Zk I];rfl);have U:=gd h;clear h D;have X:(a.length:Int)<(b.length:Int):=(by omega);go_wp2;go_ret;exact ⟨by rw[U.out];rfl,rfl⟩
   ·have hl:b.length=a.length:=(by omega);have h:pathCmp a b=0:=(by rw[D.out,Zs (Zb a.length),Zs (by omega)];rfl);have U:=gd h;clear h D;have X:¬(a.length:Int)<(b.length:Int):=(by omega);go_wp2;go_ret;exact ⟨by rw[U.out];rfl,rfl⟩
theorem ZdR (u v:Value) (a b:List ByteArray) (w:Wq) (h:RStrs w u a) (D:RStrs w v b) (H:a.length<=16777216):
 Calls prog 118 #[u,v] w λe w'=>e= .returned (nI (pathCmp a b))/\w'=w:=by
 have F:=gd (Zcl u v a b w h D H);obtain ⟨A,c,rfl,_,_⟩:=h.form;obtain ⟨B,d,rfl,_,_⟩:=D.form;go_enter func118,ntmps118
 go_wp2_with (go_at_call 171;refine (F.out).mono ?_;rintro e w2 ⟨rfl,rfl⟩)
 go_ret;exact ⟨rfl,rfl⟩
attribute [local go_sem ↓] Go.wp_at_zero Go.wp_at_succ
theorem Vb (x y:Fc) (w:Wq) (ha:isSl x.es) (hb:isSl y.es) (hx:RStrs w x.p x.f.path) (hy:RStrs w y.p y.f.path) (hn:x.f.path.length<=16777216):
 Calls prog 70 #[.agg (cellsC x).toArray,.agg (cellsC y).toArray] w λe w'=>e= .returned (nI (feedCmp x.f y.f))/\∃q os,w'=grow (w.drewN q) os:=by
 have HP:=gd (λ(w':Wq) (h:Ext w w')=>ZdR x.p y.p x.f.path y.f.path w' (hx.ext h) (hy.ext h) hn);have HC:=gd (λw'=>VV x.f.id y.f.id w');have D:feedCmp x.f y.f=if pathCmp x.f.path y.f.path=0 then sCmp x.f.id y.f.id else pathCmp x.f.path y.f.path:=rfl
 obtain ⟨ci,J⟩:∃c,pathCmp x.f.path y.f.path=c:=⟨_,rfl⟩;obtain ⟨cs,K⟩:∃c,sCmp x.f.id y.f.id=c:=⟨_,rfl⟩;rw[J] at HP D;rw[K] at HC D;rw[D];have HO:=gd (λv w' h=>IP ci cs v w' h);obtain ⟨res,F⟩:∃res,(if ci=0 then cs else ci)=res:=⟨_,rfl⟩;rw[F] at HO;rw[F];clear J K D F;obtain ⟨px,ex,⟨H,hc,V,he,hh,Y⟩⟩:=x;obtain ⟨py,ey,⟨I,hd,X,hf,hi,Z⟩⟩:=y;obtain ⟨A,c,S,_,_⟩:=hx.form;obtain ⟨B,d,U,_,_⟩:=hy.form;obtain ⟨A2,n2,c2,Q⟩:=ha;obtain ⟨B2,m2,d2,R⟩:=hb;simp only at S U Q R;subst S U Q R;clear hx hy;unfold cellsC fCells;dsimp only at*;go_enter func70,ntmps70;go_wp2
 go_region_held3 (λw'=>Ext w w'/\w'.cell? ⟨w.heap.size,0,none⟩=some (.slice A H.length c)/\w'.cell? ⟨w.heap.size,1,none⟩=some (.string hc)/\w'.cell? ⟨w.heap.size+1,0,none⟩=some (.slice B I.length d)/\w'.cell? ⟨w.heap.size+1,1,none⟩=some (.string hd))
  ((go_split_ands;refine ⟨?_,?_,?_,?_,?_⟩<;>first|assumption|((repeat (first|exact Ext.refl _|assumption|apply Ext.drew|apply Ext.alloc));done)|((refine Ext.trans ?_ (by assumption));(repeat (first|exact Ext.refl _|assumption|apply Ext.drew|apply Ext.alloc));done)|((refine Ext.cell (by assumption) ?_);first|assumption|(go_keep;done))|(go_keep;done)))
  (first|(go_at_call 118;refine (HP.out _ (by repeat (first|exact Ext.refl _|apply Ext.drew|apply Ext.alloc))).mono ?_;rintro e w1 ⟨rfl,rfl⟩)|(go_at_call 119;refine (HC.out _).mono ?_;rintro e w2 ⟨rfl,rfl⟩)|(go_at_call 117;refine (HO.out _ _ (X8 (e:=3) (fr:=(0,0)) (cs:= [nI ci,nI cs]) ?hg (by rfl) (by decide))).mono ?_;(case hg=>exact Jh w _ _ _);rintro e w3 ⟨rfl,rfl⟩))
 go_wp2;go_ret;exact ⟨rfl,1,_,by rw[alloc_eq_grow,alloc_eq_grow,alloc_eq_grow,grow_grow,grow_grow];rfl⟩
end
theorem Zgc (p q es fs:Value) (a b:Fd) (w:Wq) (J:RStrs w p a.path) (K:RStrs w q b.path) (Q:a.path.length<=16777216):
 Calls prog 41 #[.agg (fCells p es a).toArray,.agg (fCells q fs b).toArray] w λe w'=>e= .returned (nI (feedCmp a b))/\Ext w w':=by
 have F:=gd (λ(w':Wq) (h:Ext w w')=>QU p q a.path b.path w' (J.ext h) (K.ext h) Q);have I:=gd (λw'=>U0 a.id b.id w');have A:feedCmp a b=if pathCmp a.path b.path=0 then sCmp a.id b.id else pathCmp a.path b.path:=rfl
 obtain ⟨c,H⟩:∃c,pathCmp a.path b.path=c:=⟨_,rfl⟩;rw[H] at F A;rw[A];clear H A;unfold fCells;go_enter func41,ntmps41
 go_wp2_with (first|(go_at_call 75;refine (F.out _ (((Ext.refl _).alloc _).alloc _)).mono ?_;rintro e w1 ⟨rfl,D⟩;(have s0:w1.cell? ⟨w.heap.size,1,none⟩=some (.string a.id):=(((Ext.refl _).alloc _).trans D).boxed 1 _ rfl);(have R:w1.cell? ⟨w.heap.size+1,1,none⟩=some (.string b.id):=by have:=D.boxed 1 _ rfl;simpa using this))|(go_at_call 80;refine (I.out _).mono ?_;rintro e w2 ⟨rfl,rfl⟩))
 all_goals go_ret
 all_goals exact ⟨by simp_all,(((Ext.refl _).alloc _).alloc _).trans D⟩
section
variable {k:Nat}
theorem Zhx {l:List Fd} (D:k<l.length) (h:okAt okF ordF l k=false):okL okF ordF l=false:=by
 rw[Yv];intro A;have:=Yg.1 A k (XK.2 D);rw[h] at this;cases this
theorem ZjL {l:List Fd} (h:∀k,k<l.length->okAt okF ordF l k=true):okL okF ordF l=true:=
 Yg.2 λk A=>h k (XK.1 A)
theorem Zce (v:Value) (l:List Fc) (w:Wq) (hr:RFcs w v l) (hY:∀x∈l,RdC w x) (hk:∀x∈l,fokS x.f) (hn:l.length<=1000000):
 Calls prog 16 #[.agg #[v]] w λe w'=>e= .returned (nI (if okA (l.map Fc.f)=true then 0 else 22))/\Ext w w':=by
 obtain ⟨xB,xd,rfl, -, -⟩:=hr.form;obtain ⟨R,hR⟩:∃R:Int,(if okA (l.map Fc.f)=true then 0 else 22)=R:=⟨_,rfl⟩;rw[hR];have hC:=gd hR;have hD:=gd hr;have hQ:=gd hY;have hO:=gd hk;obtain ⟨L,hL⟩:∃L,l.map Fc.f=L:=⟨_,rfl⟩;have hU:L.length=l.length:=by rw[<-hL,Zm]
 have hp:=gd hU;have hA:Hid (∀(j:Nat) (h:j<l.length),L[j]'(by rw[hU];exact h)=l[j].f):=gd λj h=>by subst hL;rw[XD]
 rw[hL] at hC;have hG:Hid (∀wr:Wq,Ext (w.alloc (.cells #[.slice xB l.length xd] 31)) wr->wr.cell? ⟨w.heap.size,0,none⟩=some (.slice xB l.length xd)):=gd λwr h=>h.boxed 0 _ rfl;have J:Hid (Ext w (w.alloc (.cells #[.slice xB l.length xd] 31))):=gd ((Ext.refl _).alloc _);clear hr hY hk hR hL;go_enter func16,ntmps16;go_wp2;obtain ⟨w3,hZ⟩:∃w3,w.alloc (.cells #[.slice xB l.length xd] 31)=w3:=⟨_,rfl⟩;rw[hZ] at hG J|-;have hh:=hG;clear hZ hG;go_loopw [3] (λi wr=>∃k:Nat,k<=l.length/\i=nI k/\Hid (∀j,j<k->okAt okF ordF L j=true)/\Ext w3 wr) (λi _=>l.length - (intOf i).toNat)
 case atStart=>exact ⟨0,Zh _,rfl,gd (λj h=>by omega),Ext.refl _⟩
 case round=>
  obtain ⟨k,hk,rfl,hl,K⟩:=hrel;have h5:=hh.out wr K;by_cases hd:k<l.length
  ·have hX:=hD.out.ext (J.out.trans K);obtain ⟨ad,c1,e1,hx⟩:=hX.at hd;injection e1 with e1 e1' e1'';subst e1;clear e1' e1'' hX;have hm:k<L.length:=(by rw[hp.out];exact hd);have V:=gd (JZ (ok:=okF) (O:=ordF) hm);have hu:=hO.out _ (ZE hd);have hb:=(hQ.out _ (ZE hd)).ext (J.out.trans K);have he:Hid (okAt okF ordF L k=false->R=22):=gd λh=>(by rw[<-hC.out];unfold okA;rw[Zhx hm h];rfl);have hs:=hA.out k hd;obtain ⟨E,hE,hx,hu,hb,hs⟩:∃E,l[k]=E/\AtFc wr (ad.add (k*6)) E/\fokS E.f/\RdC wr E/\L[k]=E.f:=⟨_,rfl,hx,hu,hb,hs⟩;have HE:=gd hs;have ha:=gd hd;have X:=gd hm;have A:=gd (λz:Aft wr=>Zcg E z.w (hb.ext z.ext) hu);have h2:=gd hb;have h3:=gd hb.sl;have hN:=gd hx;have ge:(0:Int)<=(k:Int):=(by omega);have gf:(k:Int)<(l.length:Int):=(by omega);have B5:∀z:Aft wr,z.w.cell? ⟨w.heap.size,0,none⟩=some (.slice (some ad) l.length xd):=Aft.cell h5;clear hE hu hs hb;obtain ⟨EP,EE,EF⟩:=E;obtain ⟨⟨EA,EN,EC,hi⟩,⟨EB,EM,ED,S⟩⟩:=h3.out;dsimp only at hi S;subst hi S;obtain ⟨k0,k1,k2,k3,k4,k5⟩:=hx;dsimp only at k0 k1 k2 k3 k4 k5;have A0:=λz:Aft wr=>Aft.cell k0 z;have A1:=λz:Aft wr=>Aft.cell k1 z;have A2:=λz:Aft wr=>Aft.cell k2 z;have A3:=λz:Aft wr=>Aft.cell k3 z;have A4:=λz:Aft wr=>Aft.cell k4 z;have A5:=λz:Aft wr=>Aft.cell k5 z;clear k0 k1 k2 k3 k4 k5;unfold cellsC fCells at A;dsimp only at A HE hN;cases hok:okF EF with
   |false=>
    have hR:=he.out (by
     rw[Yv];intro h;have h1:=((V.out).1 h).1;rw[HE.out,hok] at h1;cases h1)
    subst hR;rw[hok] at A;clear hok;simp only[YV,Vq] at A;go_wp2;refine rA ?_
    repeat (first|go_big_quiet_step ((first|(go_at_call 40;with_reducible exact ZD (A.out _))))|quiet_step ((first|(go_at_call 40;with_reducible exact ZD (A.out _)))))
    refine Z8 ?_;rintro _ ⟨d1,rfl⟩;go_wp2;go_ret;exact ⟨rfl,J.out.trans (K.trans d1.ext)⟩
   |true=>
    have hP:=gd hok;rw[hok] at A;clear hok;simp only[J9] at A;rcases YO k with h0|hW
    ·subst h0;simp only[add_zero,Xa] at A0 A1 A2 A3 A4 A5;go_wp2;refine rA ?_
     repeat (first|go_big_quiet_step ((first|(go_at_call 40;with_reducible exact ZD (A.out _))))|quiet_step ((first|(go_at_call 40;with_reducible exact ZD (A.out _)))))
     refine Z8 ?_;rintro _ ⟨d1,rfl⟩;have Z:=K.trans d1.ext;go_wp2;go_loopw [4] (λi wr=>∃j:Nat,j<=0/\i=nI j/\Ext d1.w wr) (λi _=>0 - (intOf i).toNat)
     case atStart=>exact ⟨0,Zh _,rfl,Ext.refl _⟩
     case round=>
      obtain ⟨j,hj,rfl,U⟩:=hrel;have hS:=hh.out wr (Z.trans U);by_cases hI:j<0
      ·exact absurd hI (Nat.not_lt_zero _)
      ·have hH:j=0:=(by omega);subst hH;have I:okAt okF ordF L 0=true:=(V.out).2 ⟨by rw[HE.out];exact hP.out,λh=>absurd h (Nat.lt_irrefl _),λt ht=>absurd ht (Nat.not_lt_zero _)⟩;have HG:=gd I;clear I;go_wp2;go_roundw
       case rel=>exact ⟨0+1,ha.out,by go_num,gd (λt ht=>by
        by_cases e:t=0
        ·rw[e];exact HG.out
        ·exact hl.out t (by omega)),Z.trans U⟩
       case measure=>simp[intOf];have:=ha.out;omega
    ·obtain ⟨q,hq⟩:∃q,k=q+1:=⟨k - 1,by omega⟩;have ho:q<l.length:=(by have:=ha.out;omega);have gl:q<L.length:=(by rw[hp.out];exact ho);have hX:RFcs wr (.slice (some ad) l.length xd) l:=hD.out.ext (J.out.trans K);obtain ⟨af,c3,e3,hF⟩:=hX.at ho;injection e3 with e3 e3' e3'';injection e3 with e3;subst e3;clear e3' e3'' hX;have hg:=(hQ.out _ (ZE ho)).ext (J.out.trans K);have hw:=hO.out _ (ZE ho);have hv:∀h:k - 1<L.length,L[k - 1]=l[q].f:=λh=>(by subst hq;exact hA.out q ho);obtain ⟨F,hF,hg,hw,hv⟩:∃F:Fc,AtFc wr (ad.add (q*6)) F/\RdC wr F/\fokS F.f/\(∀h:k - 1<L.length,L[k - 1]=F.f):=⟨_,hF,hg,hw,hv⟩;have hf:=gd hv;have Q:ordF.lt F.f EF=decide (feedCmp F.f EF<0):=rfl;have S:=h2.out.1;dsimp only at S;have Y:=gd (λz:Aft wr=>Zgc F.p (.slice EA EN EC) F.es (.slice EB EM ED) F.f EF z.w (hg.1.ext z.ext) (S.ext z.ext) (by have:=hw.1.2;omega));have gb:=hg.sl;obtain ⟨c,hc⟩:∃c,feedCmp F.f EF=c:=⟨_,rfl⟩;rw[hc] at Q;simp only[hc] at Y;clear hg hw hv hc S;obtain ⟨FP,FE,FF⟩:=F;obtain ⟨⟨FA,FN,FC,hi⟩,⟨FB,FM,FD,S⟩⟩:=gb;dsimp only at hi S;subst hi S;obtain ⟨k0,k1,k2,k3,k4,k5⟩:=hF;dsimp only at k0 k1 k2 k3 k4 k5 Y Q hf;have C0:=λz:Aft wr=>Aft.cell k0 z;have C1:=λz:Aft wr=>Aft.cell k1 z;have C2:=λz:Aft wr=>Aft.cell k2 z;have C3:=λz:Aft wr=>Aft.cell k3 z;have C4:=λz:Aft wr=>Aft.cell k4 z;have C5:=λz:Aft wr=>Aft.cell k5 z;clear k0 k1 k2 k3 k4 k5;have gg:(0:Int)<(k:Int):=(by omega);have gi:wrap64 ((k:Int) - 1)=(q:Int):=(by rw[Up _ ⟨by omega,by omega⟩];omega);have gh:(k:Int) - 1=(q:Int):=(by omega);have gj:(0:Int)<=(q:Int):=(by omega);have gk:(q:Int)<(l.length:Int):=(by omega);unfold fCells at Y;by_cases hz:c<0
     ·have hB:Hid (∀h:0<k,ordF.lt (L[k - 1]'(XN (Jg _ _) X.out)) (L[k]'X.out)=true):=gd (λh=>by rw[hf.out (XN (Jg _ _) X.out),HE.out,Q];exact YE hz);have h7:¬(0:Int)<=c:=(by omega);clear Q hq hf;go_wp2;refine rA ?_
      repeat (first|go_big_quiet_step ((first|(go_at_call 40;with_reducible exact ZD (A.out _))|(go_at_call 41;with_reducible exact ZD (Y.out _))))|quiet_step ((first|(go_at_call 40;with_reducible exact ZD (A.out _))|(go_at_call 41;with_reducible exact ZD (Y.out _)))))
      refine Z8 ?_;rintro _ ⟨d1,rfl⟩;have Z:=K.trans d1.ext;go_wp2;go_loopw [4] (λi wr=>∃j:Nat,j<=k/\i=nI j/\Hid (∀t (h:t<L.length),t<j->L[t].id≠EF.id)/\Ext d1.w wr) (λi _=>k - (intOf i).toNat)
      case atStart=>exact ⟨0,Zh _,rfl,gd (λt _ h=>by omega),Ext.refl _⟩
      case round=>
       obtain ⟨j,hj,rfl,hK,U⟩:=hrel;have hS:=hh.out wr (Z.trans U);have hy:=ha.out;by_cases hI:j<k
       ·have hJ:j<l.length:=(by omega);have h8:j<L.length:=(by rw[hp.out];exact hJ);have hX:RFcs wr (.slice (some ad) l.length xd) l:=hD.out.ext (J.out.trans (Z.trans U));obtain ⟨ae,c2,e2,hV⟩:=hX.at hJ;injection e2 with e2 e2' e2'';injection e2 with e2;subst e2;clear e2' e2'' hX;have hT:=hA.out j hJ;have H:L[j].id≠EF.id->∀t (h:t<L.length),t<j+1->L[t].id≠EF.id:=λga t h ht=>by
         by_cases e:t=j
         ·subst e;exact ga
         ·exact hK.out t h (by omega)
        have D:L[j].id=EF.id->R=22:=λe=>(by refine he.out ?_;rw[Yv];intro h;exact ((V.out).1 h).2.2 j hI (by rw[HE.out];exact e));rw[hT] at H D;have q0:=hV.c1;have p0:=(hN.out.ext (d1.ext.trans U)).c1;dsimp only at p0;obtain ⟨y,gc⟩:∃y,l[j].f.id=y:=⟨_,rfl⟩;rw[gc] at H D q0;obtain ⟨z,hM⟩:∃z,EF.id=z:=⟨_,rfl⟩;simp only[hM] at H D p0 hK|-;have HZ:=gd hM;clear hM hV hT h8;have B5:∀z:Aft wr,z.w.cell? ⟨w.heap.size,0,none⟩=some (.slice (some ad) l.length xd):=Aft.cell hS;have Q0:∀z:Aft wr,z.w.cell? ⟨(ad.add (j*6)).block,(ad.add (j*6)).off+1,none⟩=some (.string y):=Aft.cell q0;have P0:∀u:Aft wr,u.w.cell? ⟨(ad.add (k*6)).block,(ad.add (k*6)).off+1,none⟩=some (.string z):=Aft.cell p0;have j0:(0:Int)<=(j:Int):=(by omega);have j1:(j:Int)<(l.length:Int):=(by omega);have j2:(j:Int)<(k:Int):=(by omega);clear q0 p0 hy;cases hyz:(y.toList==z.toList) with
        |true=>
         have hR:=D (toList_inj (by simpa using hyz));subst hR;clear D H;go_wp2;refine rA ?_
         repeat (first|go_big_quiet_step (fail)|quiet_step (fail))
         refine Z8 ?_;rintro _ ⟨d2,rfl⟩;go_wp2;go_ret;exact ⟨rfl,J.out.trans ((Z.trans U).trans d2.ext)⟩
        |false=>
         have h4:=gd (H (λe=>by rw[e] at hyz;simp at hyz));clear D H;go_wp2;refine rA ?_
         repeat (first|go_big_quiet_step (fail)|quiet_step (fail))
         refine Z8 ?_;rintro _ ⟨d2,rfl⟩;go_wp2;go_roundw
         case rel=>exact ⟨j+1,by omega,by go_num,h4,U.trans d2.ext⟩
         case measure=>simp[intOf];omega
       ·have hH:j=k:=(by omega);subst hH;have I:okAt okF ordF L j=true:=(by refine (V.out).2 ⟨by rw[HE.out];exact hP.out,hB.out,λt ht=> ?_⟩;rw[HE.out];exact hK.out t (by have:=X.out;omega) ht);have HG:=gd I;clear I hy;go_wp2;go_roundw
        case rel=>exact ⟨j+1,ha.out,by go_num,gd (λt ht=>by
         by_cases e:t=j
         ·rw[e];exact HG.out
         ·exact hl.out t (by omega)),Z.trans U⟩
        case measure=>simp[intOf];have:=ha.out;omega
     ·have hR:=he.out (by
       rw[Yv];intro h;have h1:=((V.out).1 h).2.1 hW;rw[hf.out (XN (Jg _ _) X.out),HE.out,Q] at h1;exact hz (Yw h1))
      subst hR;have h7:(0:Int)<=c:=(by omega);clear Q hq hf;go_wp2;refine rA ?_
      repeat (first|go_big_quiet_step ((first|(go_at_call 40;with_reducible exact ZD (A.out _))|(go_at_call 41;with_reducible exact ZD (Y.out _))))|quiet_step ((first|(go_at_call 40;with_reducible exact ZD (A.out _))|(go_at_call 41;with_reducible exact ZD (Y.out _)))))
      refine Z8 ?_;rintro _ ⟨d1,rfl⟩;go_wp2;go_ret;exact ⟨rfl,J.out.trans (K.trans d1.ext)⟩
  ·have h9:k=l.length:=(by omega);subst h9;have h6:R=0:=(by rw[<-hC.out];unfold okA;rw[ZjL (λj hj=>hl.out j (by rw[<-hp.out];exact hj))];rfl);subst h6;go_wp2;go_ret;exact ⟨rfl,J.out.trans K⟩
end
end Go.Proofs.YtnlafkgkcnenfaaGreatDoor
