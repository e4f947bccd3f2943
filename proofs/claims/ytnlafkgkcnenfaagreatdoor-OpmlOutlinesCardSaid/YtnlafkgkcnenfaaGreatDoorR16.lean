/- Parts of the proof: contracts and plain laws. -/
import Derived.Test.YtnlafkgkcnenfaaGreatDoorR13
namespace Go.Proofs.YtnlafkgkcnenfaaGreatDoor
open Go Go.RowKit Go.WideMaps Go.Maps Go.Sort Tryz
set_option linter.unusedVariables false
set_option linter.unusedSimpArgs false
set_option maxRecDepth 100000
set_option maxHeartbeats 16000000
section
variable {P:Program} {e:TypeId} {k n:Nat} {v:Value} {w:World} {α:Type}
def SeenMap (D:DataW Unit) (p:ByteArray->Bool):Prop:=
 IsMap D/\∀s:ByteArray,D.atKey (.string s.data.toList) (.lit (.bool false))= .lit (.bool (p s))
theorem SeenMap.nil:SeenMap (.map []) (λ_=>false):=⟨isMap_empty,λ_=>rfl⟩
theorem SeenMap.put {D:DataW Unit} {p q:ByteArray->Bool} {s:ByteArray} (h:SeenMap D p) (H:∀t,q t=(p t||decide (s=t))):SeenMap (D.put (.string s.data.toList) (.lit (.bool true))) q:=by
 refine ⟨h.1.put _ _,λt=> ?_⟩;rw[H];by_cases e:s=t
 ·subst e;rw[atKey_put_same h.1 (GR _)];simp
 ·have F:(Lit.string t.data.toList)≠ .string s.data.toList:=by intro A;injection A with A;exact e (Kb A).symm
  rw[atKey_put_other F,h.2 t];simp[e]
theorem GT (A:P.underlying e=some .bool) {z:DataW Unit×List MemPlace} (h:plainElem P e v=some z):∃b:Bool,v= .bool b/\z=(.lit (.bool b),[]):=by
 unfold plainElem at h;rw[A] at h;cases v<;>simp at h;exact ⟨_,rfl,h.symm⟩
theorem ZjX (w:Wq):(zeroValue 4).run prog w= .ok (.bool false) w:=by kernel_rfl
theorem Iz {b:Nat} {D:DataW Unit} {p:ByteArray->Bool} {s:ByteArray} (H:w.ownsMap prog 9 (plainElem prog 4) b n D) (h:SeenMap D p) (I:s.size<=maxLen):
 (Instr.lookup 183 (.map (some b)) (.string s) false).run prog w= .ok (.bool (p s)) w:=by
 obtain ⟨v,ps,A,J⟩:=H.lookup Uv underlying183 (ZjX w) (plainElem_bool underlying4 false) (keyOf_string_mk underlying9 I);obtain ⟨c,rfl,F⟩:=GT underlying4 J;rw[h.2 s] at F;simp only[Prod.mk.injEq,DataW.lit.injEq,Lit.bool.injEq] at F;rw[A,F.1]
theorem Zaj {κ:Type} [DecidableEq κ] {ok:α->Bool} {O:Ord α κ} {l:List α} (D:k<l.length) (h:okAt ok O l k=false):okL ok O l=false:=by
 rw[Yx];intro A;have:=Yk.1 A k (XG.2 D);rw[h] at this;cases this
theorem ZbP {κ:Type} [DecidableEq κ] {ok:α->Bool} {O:Ord α κ} {l:List α} (h:∀k,k<l.length->okAt ok O l k=true):okL ok O l=true:=
 Yk.2 λk A=>h k (XG.1 A)
theorem Qq {l:List α} {id:α->ByteArray} {s:ByteArray} (h:(l.take k).any (λx=>decide (id x=s))=false):∀j (A:j<l.length),j<k->id l[j]≠s:=λj A D e=>by
 rw[List.any_eq_false] at h;exact h l[j] (List.mem_take_iff_getElem.2 ⟨j,by omega,rfl⟩) (by simpa using e)
theorem Gm {l:List α} {id:α->ByteArray} {s:ByteArray} (h:(l.take k).any (λx=>decide (id x=s))=true):∃j,∃D:j<l.length,j<k/\id l[j]=s:=by
 rw[Xu] at h;obtain ⟨x,F,A⟩:=h;obtain ⟨j,D,rfl⟩:=List.mem_take_iff_getElem.1 F;exact ⟨j,by omega,by omega,by simpa using A⟩
theorem ZcA (v:Value) (l:List Ent) (w:Wq) (hE:Env w) (h:REnts w v l) (hs:∀x∈l,eokS x) (hn:l.length<=1000000):
 Calls prog 131 #[v,.func (.func 132) #[] #[],.func (.func 114) #[] #[],.func (.func 129) #[] #[]] w λe w'=>e= .returned (.bool (okL okE ordE l))/\Ext w w':=by
 obtain ⟨A,c,rfl, -, -⟩:=h.form;have gc:= @run_makeMap prog;obtain ⟨R,hR⟩:∃R,okL okE ordE l=R:=⟨_,rfl⟩;rw[hR];have HR:=gd hR;have HS:=gd hs;have HH:=gd h;have hU:=gd hE;clear hR hs h hE;go_enter func131,ntmps131;go_wp2;go_loopw [15] (λi wr=>∃(k:Nat) (D:DataW Unit),k<=l.length/\i=nI k/\wr.ownsMap prog 9 (plainElem prog 4) w.heap.size k D/\Hid (SeenMap D (λs=>(l.take k).any (λe=>decide (e.id=s))))/\Hid (∀j,j<k->okAt okE ordE l j=true)/\Ext w wr) (λi _=>l.length - (intOf i).toNat)
 case atStart=>exact ⟨0,.map [],Zh _,rfl,World.ownsMap_made _ _ _ _,gd SeenMap.nil,gd (λj h=>by omega),(Ext.refl _).alloc _⟩
 case round=>
  obtain ⟨k,D,hk,rfl,hM,hD,hl,J⟩:=hrel;by_cases ha:k<l.length
  ·obtain ⟨ad,c1,e1,hG⟩:=(REnts.ext HH.out J).at ha;injection e1 with e1 e1' e1'';subst e1;clear e1' e1'';have hy:l[k]∈l:=Zz ha;have ho:=HS.out _ hy;have hS:=Zq ha;have Z:=JZ (ok:=okE) (O:=ordE) ha;have hb:∃b,(l.take k).any (λe=>decide (e.id=l[k].id))=b:=⟨_,rfl⟩;obtain ⟨b,hb⟩:=hb;have hH:b=false->∀j (hj:j<k),ordE.id l[j]≠ordE.id l[k]:=λe j hj=>Qq (id:=Ent.id) (hb.trans e) j (by omega) hj;have hP:b=true->okAt okE ordE l k=false:=λe=>(by rw[Yx];intro h;obtain ⟨j,hj,hZ,he⟩:=Gm (id:=Ent.id) (hb.trans e);exact (Z.1 h).2.2 j hZ he);have V:Hid (okAt okE ordE l k=false->R=false):=gd λh=>(by rw[<-HR.out];exact Zaj ha h);have Y:Hid (SeenMap (D.put (.string l[k].id.data.toList) (.lit (.bool true))) (λs=>(l.take (k+1)).any (λe=>decide (e.id=s)))):=gd (hD.out.put λt=>by rw[hS,List.any_append];simp);obtain ⟨E,hW⟩:∃E,l[k]=E:=⟨_,rfl⟩;rw[hW] at hG ho hb Y Z hH;have X:=gd Z;have hK:=gd hH;have hL:=gd hP;have hx:keyOf prog 9 (.string E.id)=some (.string E.id.data.toList):=keyOf_string_mk underlying9 (by have:=ho.1;unfold maxLen;omega);have h3:E.id.size<=maxLen:=(by have:=ho.1;unfold maxLen;omega);have hd:=gd hx;have HM:=gd hM;have S:=gd ha;clear Z hH hP hS hy hx;obtain ⟨W1,hu⟩:∃W1,wr.alloc (.cells (eCells E).toArray 76)=W1:=⟨_,rfl⟩;have hw:Ext wr W1:=(by rw[<-hu];exact (Ext.refl _).alloc _);have hp:=λz:Aft W1=>Iz (hM.kept ((hw.trans z.ext).grown none) (by simp)) hD.out h3;simp only[hb] at hp;have H:=gd (λz:Aft W1=>ZdY E z.w (hU.out.ext (J.trans (hw.trans z.ext))) ho);have I:=gd (λz:Wq=>ZfG E z);have hv:W1.heap[wr.heap.size]? =some (.cells (eCells E).toArray 76):=(by rw[<-hu];exact Zf _ _);have Q:=gd hw;have h6:(0:Int)<=(k:Int):=(by omega);have h8:(k:Int)<(l.length:Int):=(by omega);have hN:Hid (k<maxLen):=gd (by unfold maxLen;omega);clear hw hM hb;obtain ⟨id,title,link,content,upd⟩:=E;unfold eCells at hu hv H I;dsimp only at hu hv H I hG hp Y hd;obtain ⟨b0,b1,b2,b3,b4⟩:=Zk0 hv;obtain ⟨a0,a1,a2,a3,a4⟩:=hG;have B0:=λz:Aft W1=>Aft.cell b0 z;have B1:=λz:Aft W1=>Aft.cell b1 z;have B2:=λz:Aft W1=>Aft.cell b2 z;have B3:=λz:Aft W1=>Aft.cell b3 z;have B4:=λz:Aft W1=>Aft.cell b4 z;clear b0 b1 b2 b3 b4 hv;dsimp only at a0 a1 a2 a3 a4;cases hok:okE ⟨id,title,link,content,upd⟩ with
   |false=>
    have hR:=V.out (by
     rw[Yx];intro h;have h1:=(X.out.1 h).1;rw[hok] at h1;cases h1)
    subst hR;rw[hok] at H;clear hok;simp only[XN,Zco] at H;go_wp2;refine rA ?_
    repeat (first|go_big_quiet_step ((first|(go_at_call 132;with_reducible exact ZE (H.out _))|(go_at_call 129;with_reducible exact ZE (I.out _))))|quiet_step ((first|(go_at_call 132;with_reducible exact ZE (H.out _))|(go_at_call 129;with_reducible exact ZE (I.out _)))))
    refine Z5 ?_;rintro _ ⟨d1,rfl⟩;go_wp2;go_ret;exact ⟨rfl,J.trans (Q.out.trans d1.ext)⟩
   |true=>
    have hO:=gd hok;rw[hok] at H;clear hok;simp only[QE] at H;rcases YP k with h0|hQ
    ·cases b with
     |true=>
      have hR:=V.out (hL.out rfl);subst hR;subst h0;simp only[Xf,add_zero] at a0 a1 a2 a3 a4;go_wp2;refine rA ?_
      repeat (first|go_big_quiet_step ((first|(go_at_call 132;with_reducible exact ZE (H.out _))|(go_at_call 129;with_reducible exact ZE (I.out _))))|quiet_step ((first|(go_at_call 132;with_reducible exact ZE (H.out _))|(go_at_call 129;with_reducible exact ZE (I.out _)))))
      refine Z5 ?_
      rintro _ ⟨d1,rfl⟩
      go_wp2
      go_ret
      exact ⟨rfl,J.trans (Q.out.trans d1.ext)⟩
     |false=>
      have U:=gd (X.out.2 ⟨hO.out,λh=>absurd h (by omega),hK.out rfl⟩)
      subst h0
      simp only[Xf,add_zero] at a0 a1 a2 a3 a4
      go_wp2
      refine rA ?_
      repeat (first|go_big_quiet_step ((first|(go_at_call 132;with_reducible exact ZE (H.out _))|(go_at_call 129;with_reducible exact ZE (I.out _))))|quiet_step ((first|(go_at_call 132;with_reducible exact ZE (H.out _))|(go_at_call 129;with_reducible exact ZE (I.out _)))))
      refine Z5 ?_
      rintro _ ⟨d1,rfl⟩
      have hA:=gd (HM.out.kept ((Q.out.trans d1.ext).grown none) (by simp))
      have hC:=gd (J.trans (Q.out.trans d1.ext))
      have D0:=B0 d1
      have D1:=B1 d1
      have D2:=B2 d1
      have D3:=B3 d1
      have D4:=B4 d1
      clear B0 B1 B2 B3 B4 hp
      go_wp2_with (first|(go_at_call 129;(with_reducible refine Za (I.out _) ?_);rintro e w2 ⟨rfl,hm⟩)|(at_mapUpdate;(refine Uf _ rfl (.tmp 46) (.tmp 49) (.const (.bool true)) 183 rfl 9 4 Uv underlying183 _ w.heap.size 0 D rfl (hA.out.kept (hm.grown none) (by simp)) hN.out _ _ _ rfl rfl hd.out _ [] (plainElem_bool underlying4 true) ?_);intro w5 hh hi))
      have hI:Ext w w5:=Ext.grown' (B:=0) (hC.out.trans hm) hi (λb hb=>by cases hb;exact Zb _)
      have hB:=gd hh
      clear hh hi
      go_roundw
      case rel=>exact ⟨0+1,_,S.out,by go_num,hB.out,Y,gd (λt ht=>by
       by_cases e:t=0
       ·rw[e];exact U.out
       ·exact hl.out t (by omega)),hI⟩
      case measure=>simp[intOf];have:=S.out;omega
    ·obtain ⟨q,hq⟩:∃q,k=q+1:=⟨k - 1,by omega⟩;have h4:q<l.length:=(by have:=S.out;omega);obtain ⟨af,c3,e3,hF⟩:=(REnts.ext HH.out (J.trans Q.out)).at h4;injection e3 with e3 e3' e3'';injection e3 with e3;subst e3;clear e3' e3'';have hr:l[k - 1]'(XP (Jk _ _) S.out)=l[q]:=(by subst hq;rfl);obtain ⟨F,hF,hr⟩:∃F:Ent,AtEnt W1 (ad.add (q*5)) F/\l[k - 1]'(XP (Jk _ _) S.out)=F:=⟨_,hF,hr⟩;have hf:=gd hr;have K:ordE.lt F ⟨id,title,link,content,upd⟩=decide (entCmp F ⟨id,title,link,content,upd⟩<0):=rfl;have M:=gd (λz:Aft W1=>GL F ⟨id,title,link,content,upd⟩ z.w);obtain ⟨cc,hc⟩:∃cc,entCmp F ⟨id,title,link,content,upd⟩=cc:=⟨_,rfl⟩;rw[hc] at K;simp only[hc] at M;clear hr hc;obtain ⟨h7,hT,hV,hJ,h5⟩:=F;obtain ⟨k0,k1,k2,k3,k4⟩:=hF;dsimp only at k0 k1 k2 k3 k4;have C0:=λz:Aft W1=>Aft.cell k0 z;have C1:=λz:Aft W1=>Aft.cell k1 z;have C2:=λz:Aft W1=>Aft.cell k2 z;have C3:=λz:Aft W1=>Aft.cell k3 z;have C4:=λz:Aft W1=>Aft.cell k4 z;clear k0 k1 k2 k3 k4;have h9:(0:Int)<(k:Int):=(by omega);have gb:wrap64 ((k:Int) - 1)=(q:Int):=(by rw[Uo _ ⟨by omega,by omega⟩];omega);have ga:(k:Int) - 1=(q:Int):=(by omega);have ge:(0:Int)<=(q:Int):=(by omega);have gf:(q:Int)<(l.length:Int):=(by omega);unfold eCells at M;dsimp only at M;by_cases hz:cc<0
     ·have hg:Hid (∀h:0<k,ordE.lt (l[k - 1]'(XP (Jk _ _) S.out)) ⟨id,title,link,content,upd⟩=true):=gd (λh=>by rw[hf.out,K];exact YJ hz);have hY:¬(0:Int)<=cc:=(by omega);cases b with
      |true=>
       have hR:=V.out (hL.out rfl);subst hR;clear K hq hf;go_wp2;refine rA ?_
       repeat (first|go_big_quiet_step ((first|(go_at_call 132;with_reducible exact ZE (H.out _))|(go_at_call 114;with_reducible exact ZE (M.out _))|(go_at_call 129;with_reducible exact ZE (I.out _))))|quiet_step ((first|(go_at_call 132;with_reducible exact ZE (H.out _))|(go_at_call 114;with_reducible exact ZE (M.out _))|(go_at_call 129;with_reducible exact ZE (I.out _)))))
       refine Z5 ?_
       rintro _ ⟨d1,rfl⟩
       go_wp2
       go_ret
       exact ⟨rfl,J.trans (Q.out.trans d1.ext)⟩
      |false=>
       have U:=gd (X.out.2 ⟨hO.out,hg.out,hK.out rfl⟩)
       clear K hq hf hg
       go_wp2
       refine rA ?_
       repeat (first|go_big_quiet_step ((first|(go_at_call 132;with_reducible exact ZE (H.out _))|(go_at_call 114;with_reducible exact ZE (M.out _))|(go_at_call 129;with_reducible exact ZE (I.out _))))|quiet_step ((first|(go_at_call 132;with_reducible exact ZE (H.out _))|(go_at_call 114;with_reducible exact ZE (M.out _))|(go_at_call 129;with_reducible exact ZE (I.out _)))))
       refine Z5 ?_
       rintro _ ⟨d1,rfl⟩
       have hA:=gd (HM.out.kept ((Q.out.trans d1.ext).grown none) (by simp))
       have hC:=gd (J.trans (Q.out.trans d1.ext))
       have D0:=B0 d1
       have D1:=B1 d1
       have D2:=B2 d1
       have D3:=B3 d1
       have D4:=B4 d1
       clear B0 B1 B2 B3 B4 hp
       go_wp2_with (first|(go_at_call 129;(with_reducible refine Za (I.out _) ?_);rintro e w2 ⟨rfl,hm⟩)|(at_mapUpdate;(refine Uf _ rfl (.tmp 46) (.tmp 49) (.const (.bool true)) 183 rfl 9 4 Uv underlying183 _ w.heap.size k D rfl (hA.out.kept (hm.grown none) (by simp)) hN.out _ _ _ rfl rfl hd.out _ [] (plainElem_bool underlying4 true) ?_);intro w5 hh hi))
       have hI:Ext w w5:=Ext.grown' (B:=0) (hC.out.trans hm) hi (λb hb=>by cases hb;exact Zb _)
       have hB:=gd hh
       clear hh hi
       go_roundw
       case rel=>exact ⟨k+1,_,S.out,by go_num,hB.out,Y,gd (λt ht=>by
        by_cases e:t=k
        ·rw[e];exact U.out
        ·exact hl.out t (by omega)),hI⟩
       case measure=>simp[intOf];have:=S.out;omega
     ·have hR:=V.out (by
       rw[Yx]
       intro h
       have h1:=(X.out.1 h).2.1 hQ
       rw[hf.out,K] at h1
       exact hz (YG h1))
      subst hR
      have hY:(0:Int)<=cc:=(by omega)
      clear K hq hf
      go_wp2
      refine rA ?_
      repeat (first|go_big_quiet_step ((first|(go_at_call 132;with_reducible exact ZE (H.out _))|(go_at_call 114;with_reducible exact ZE (M.out _))|(go_at_call 129;with_reducible exact ZE (I.out _))))|quiet_step ((first|(go_at_call 132;with_reducible exact ZE (H.out _))|(go_at_call 114;with_reducible exact ZE (M.out _))|(go_at_call 129;with_reducible exact ZE (I.out _)))))
      refine Z5 ?_
      rintro _ ⟨d1,rfl⟩
      go_wp2
      go_ret
      exact ⟨rfl,J.trans (Q.out.trans d1.ext)⟩
  ·have h2:k=l.length:=(by omega);subst h2;have hX:R=true:=(by rw[<-HR.out];exact ZbP hl.out);subst hX;go_wp2;go_ret;exact ⟨rfl,J⟩
end
section
variable {k:Nat}
theorem Zer (x:Fc) (w:Wq) (Q:RdC w x) (M:fokS x.f) (K:¬x.f.path.length<=64):
 Calls prog 40 #[.agg (cellsC x).toArray] w λe w'=>e= .returned (nI 22)/\Ext w w':=by
 obtain ⟨⟨z0,U⟩,V,z3⟩:=M;obtain ⟨xp,R,⟨h,S,F,I,J,H⟩⟩:=x;obtain ⟨A,D⟩:=Q;dsimp only at*;obtain ⟨Y,xc,rfl, -, -⟩:=A.form;obtain ⟨Z,xd,rfl, -, -⟩:=D.form;have X:(64:Int)<(h.length:Int):=by omega
 clear A D z0 U V z3 K;unfold cellsC fCells;dsimp only;go_enter func40,ntmps40;go_wp2;go_ret;exact ⟨rfl,(Ext.refl _).alloc _⟩
theorem Zes (x:Fc) (w:Wq) (R:RdC w x) (Q:fokS x.f) (M:x.f.path.length<=64) (v0:validS x.f.id=false):
 Calls prog 40 #[.agg (cellsC x).toArray] w λe w'=>e= .returned (nI 22)/\Ext w w':=by
 obtain ⟨⟨z0,V⟩,X,z3⟩:=Q;have J:=gd (λw'=>ZW x.f.id w' (by omega));rw[v0] at J;obtain ⟨xp,S,⟨A,U,F,I,K,H⟩⟩:=x;obtain ⟨D,h⟩:=R;dsimp only at*;obtain ⟨xA,xc,rfl, -, -⟩:=D.form;obtain ⟨xB,xd,rfl, -, -⟩:=h.form;have Y:¬(64:Int)<(A.length:Int):=by omega
 clear D h z0 V X z3 M v0;unfold cellsC fCells;dsimp only;go_enter func40,ntmps40
 go_wp2_with (first|(go_at_call 76;(with_reducible refine Za (J.out _) ?_);rintro e w1 ⟨rfl,h⟩;(have Z:=h.boxed 2 _ rfl)))
 go_ret;exact ⟨rfl,((Ext.refl _).alloc _).trans h⟩
theorem Zet (x:Fc) (w:Wq) (V:RdC w x) (U:fokS x.f) (S:x.f.path.length<=64) (v0:validS x.f.id=true) (v1:validS x.f.title=false):
 Calls prog 40 #[.agg (cellsC x).toArray] w λe w'=>e= .returned (nI 22)/\Ext w w':=by
 obtain ⟨⟨z0,Z⟩,z2,z3⟩:=U;have M:=gd (λw'=>ZW x.f.id w' (by omega));rw[v0] at M;have Q:=gd (λw'=>ZW x.f.title w' (by omega));rw[v1] at Q;obtain ⟨xp,X,⟨A,Y,H,K,R,J⟩⟩:=x;obtain ⟨D,h⟩:=V;dsimp only at*;obtain ⟨xA,xc,rfl, -, -⟩:=D.form;obtain ⟨xB,xd,rfl, -, -⟩:=h.form;have hb:¬(64:Int)<(A.length:Int):=by omega
 clear D h z0 Z z2 z3 S v0 v1;unfold cellsC fCells;dsimp only;go_enter func40,ntmps40
 go_wp2_with (first|(go_at_call 76;(with_reducible refine Za (M.out _) ?_);rintro e w1 ⟨rfl,h⟩;(have k2:=h.boxed 2 _ rfl))|(go_at_call 76;(with_reducible refine Za (Q.out _) ?_);rintro e w2 ⟨rfl,I⟩;(have F:=h.trans I);(have k3:=F.boxed 3 _ rfl)))
 go_ret;exact ⟨rfl,((Ext.refl _).alloc _).trans F⟩
theorem Zeu (x:Fc) (w:Wq) (Z:RdC w x) (Y:fokS x.f) (X:x.f.path.length<=64) (v0:validS x.f.id=true) (v1:validS x.f.title=true) (v2:validS x.f.link=false):
 Calls prog 40 #[.agg (cellsC x).toArray] w λe w'=>e= .returned (nI 22)/\Ext w w':=by
 obtain ⟨⟨z0,z1⟩,z2,z3⟩:=Y;have R:=gd (λw'=>ZW x.f.id w' (by omega));rw[v0] at R;have S:=gd (λw'=>ZW x.f.title w' (by omega));rw[v1] at S;have U:=gd (λw'=>ZW x.f.link w' (by omega));rw[v2] at U;obtain ⟨xp,ha,⟨D,hc,I,Q,V,M⟩⟩:=x;obtain ⟨F,h⟩:=Z;dsimp only at*;obtain ⟨xA,xc,rfl, -, -⟩:=F.form;obtain ⟨xB,xd,rfl, -, -⟩:=h.form;have hb:¬(64:Int)<(D.length:Int):=by omega
 clear F h z0 z1 z2 z3 X v0 v1 v2;unfold cellsC fCells;dsimp only;go_enter func40,ntmps40
 go_wp2_with (first|(go_at_call 76;(with_reducible refine Za (R.out _) ?_);rintro e w1 ⟨rfl,h⟩;(have k2:=h.boxed 2 _ rfl))|(go_at_call 76;(with_reducible refine Za (S.out _) ?_);rintro e w2 ⟨rfl,J⟩;(have H:=h.trans J);(have k3:=H.boxed 3 _ rfl))|(go_at_call 76;(with_reducible refine Za (U.out _) ?_);rintro e w3 ⟨rfl,K⟩;(have A:=H.trans K);(have k1:=A.boxed 1 _ rfl);(have k4:=A.boxed 4 _ rfl)))
 go_ret;exact ⟨rfl,((Ext.refl _).alloc _).trans A⟩
theorem Zev (x:Fc) (w:Wq) (Z:RdC w x) (Y:fokS x.f) (X:x.f.path.length<=64) (v0:validS x.f.id=true) (v1:validS x.f.title=true) (v2:validS x.f.link=true) (h4:x.f.id.toList.isEmpty=true):
 Calls prog 40 #[.agg (cellsC x).toArray] w λe w'=>e= .returned (nI 22)/\Ext w w':=by
 obtain ⟨⟨z0,z1⟩,z2,z3⟩:=Y;have R:=gd (λw'=>ZW x.f.id w' (by omega));rw[v0] at R;have S:=gd (λw'=>ZW x.f.title w' (by omega));rw[v1] at S;have U:=gd (λw'=>ZW x.f.link w' (by omega));rw[v2] at U;obtain ⟨xp,ha,⟨D,hc,I,Q,V,M⟩⟩:=x;obtain ⟨F,h⟩:=Z;dsimp only at*;obtain ⟨xA,xc,rfl, -, -⟩:=F.form;obtain ⟨xB,xd,rfl, -, -⟩:=h.form;have hb:¬(64:Int)<(D.length:Int):=by omega
 clear F h z0 z1 z2 z3 X v0 v1 v2;unfold cellsC fCells;dsimp only;go_enter func40,ntmps40
 go_wp2_with (first|(go_at_call 76;(with_reducible refine Za (R.out _) ?_);rintro e w1 ⟨rfl,h⟩;(have k2:=h.boxed 2 _ rfl))|(go_at_call 76;(with_reducible refine Za (S.out _) ?_);rintro e w2 ⟨rfl,J⟩;(have H:=h.trans J);(have k3:=H.boxed 3 _ rfl))|(go_at_call 76;(with_reducible refine Za (U.out _) ?_);rintro e w3 ⟨rfl,K⟩;(have A:=H.trans K);(have k1:=A.boxed 1 _ rfl);(have k4:=A.boxed 4 _ rfl)))
 go_ret;exact ⟨rfl,((Ext.refl _).alloc _).trans A⟩
theorem Zew (x:Fc) (w:Wq) (hr:RdC w x) (hk:fokS x.f) (Z:x.f.path.length<=64) (v0:validS x.f.id=true) (v1:validS x.f.title=true) (v2:validS x.f.link=true) (h4:x.f.id.toList.isEmpty=false) (X:inT x.f.upd=false):
 Calls prog 40 #[.agg (cellsC x).toArray] w λe w'=>e= .returned (nI 22)/\Ext w w':=by
 obtain ⟨⟨z0,z1⟩,z2,z3⟩:=hk;have R:=gd (λw'=>ZW x.f.id w' (by omega));rw[v0] at R;have S:=gd (λw'=>ZW x.f.title w' (by omega));rw[v1] at S;have U:=gd (λw'=>ZW x.f.link w' (by omega));rw[v2] at U;have V:=gd (λw'=>Ul x.f.upd w');rw[X] at V;obtain ⟨xp,ha,⟨D,hc,I,Q,Y,M⟩⟩:=x;obtain ⟨F,h⟩:=hr;dsimp only at*;obtain ⟨xA,xc,rfl, -, -⟩:=F.form;obtain ⟨xB,xd,rfl, -, -⟩:=h.form;have hb:¬(64:Int)<(D.length:Int):=by omega
 clear F h z0 z1 z2 z3 Z v0 v1 v2 X;unfold cellsC fCells;dsimp only;go_enter func40,ntmps40
 go_wp2_with (first|(go_at_call 76;(with_reducible refine Za (R.out _) ?_);rintro e w1 ⟨rfl,h⟩;(have k2:=h.boxed 2 _ rfl))|(go_at_call 76;(with_reducible refine Za (S.out _) ?_);rintro e w2 ⟨rfl,J⟩;(have H:=h.trans J);(have k3:=H.boxed 3 _ rfl))|(go_at_call 76;(with_reducible refine Za (U.out _) ?_);rintro e w3 ⟨rfl,K⟩;(have A:=H.trans K);(have k1:=A.boxed 1 _ rfl);(have k4:=A.boxed 4 _ rfl))|(go_at_call 77;(with_reducible refine Za (V.out _) ?_);rintro e w5 ⟨rfl,rfl⟩))
 go_ret;exact ⟨rfl,((Ext.refl _).alloc _).trans A⟩
def okP (l:List ByteArray):Bool:=l.all λp=> !decide (p=noS) && validS p
theorem Zjg {l:List ByteArray} (F:k<l.length) (h:∀p∈l.take k,p≠noS/\validS p=true) (D:l[k]≠noS/\validS l[k]=true):∀p∈l.take (k+1),p≠noS/\validS p=true:=by
 intro p A;rw[Zq F] at A;rcases Zu.1 A with A|A
 ·exact h p A
 ·rw[Zo.1 A];exact D
theorem ZhO {l:List ByteArray} {p:ByteArray} (A:p∈l) (h:p=noS\/validS p=false):okP l=false:=by
 unfold okP;rw[List.all_eq_false];refine ⟨p,A,?_⟩;rcases h with h|h<;>simp[h]
theorem Zjh {l:List ByteArray} (h:∀p∈l,p≠noS/\validS p=true):okP l=true:=by
 unfold okP;rw[Yk];intro p F;obtain ⟨A,D⟩:=h p F;simp[A,D]
theorem ZhN {l:List Ent} (A:k<l.length) (h:okAt okE ordE l k=false):okL okE ordE l=false:=by
 unfold okL;rw[List.all_eq_false];exact ⟨k,XG.2 A,by simp[h]⟩
theorem Zjf {l:List Ent} (h:∀k,k<l.length->okAt okE ordE l k=true):okL okE ordE l=true:=by
 unfold okL;rw[Yk];exact λk A=>h k (XG.1 A)
theorem Zex (x:Fc) (w:Wq) (hr:RdC w x) (hk:fokS x.f) (h0:x.f.path.length<=64) (v0:validS x.f.id=true) (v1:validS x.f.title=true) (v2:validS x.f.link=true) (h4:x.f.id.toList.isEmpty=false) (h5:inT x.f.upd=true):
 Calls prog 40 #[.agg (cellsC x).toArray] w λe w'=>e= .returned (nI (if (okP x.f.path && okL okE ordE x.f.ents)=true then 0 else 22))/\Ext w w':=by
 obtain ⟨⟨z0,z1⟩,z2,z3⟩:=hk;have V0:=gd (λw'=>ZW x.f.id w' (by omega));rw[v0] at V0;have V1:=gd (λw'=>ZW x.f.title w' (by omega));rw[v1] at V1;have V2:=gd (λw'=>ZW x.f.link w' (by omega));rw[v2] at V2;have VT:=gd (λw'=>Ul x.f.upd w');rw[h5] at VT;obtain ⟨xp,gs,⟨D,gt,h2,gj,gk,A⟩⟩:=x;obtain ⟨hJ,hm⟩:=hr;dsimp only at*;obtain ⟨xA,xc,rfl, -, -⟩:=hJ.form;obtain ⟨xB,xd,rfl, -, -⟩:=hm.form;have hb:¬(64:Int)<(D.length:Int):=by omega
 obtain ⟨R,hR⟩:∃R:Int,(if (okP D && okL okE ordE A)=true then 0 else 22)=R:=⟨_,rfl⟩;rw[hR];have HR:=gd hR;have hP:=gd hJ;have hD:=gd hm;have HS:Hid (∀p∈D,p.size<=16777216):=gd λp hp=>by have:=X1 hp;omega
 have h6:Hid (∀e∈A,eokS e):=gd λe he=>by obtain ⟨_,h⟩:=z3 e he;exact ⟨by omega,by omega,by omega,by omega⟩
 have gp:D.length<=64:=h0;have gl:A.length<=1000000:=z2;clear hJ hm z0 z1 z2 z3 h0 v0 v1 v2 h5 hR;unfold cellsC fCells;dsimp only;go_enter func40,ntmps40
 go_wp2_with (first|(go_at_call 76;(with_reducible refine Za (V0.out _) ?_);rintro e w1 ⟨rfl,hm⟩;(have k2:=hm.boxed 2 _ rfl))|(go_at_call 76;(with_reducible refine Za (V1.out _) ?_);rintro e w2 ⟨rfl,hY⟩;(have hL:=hm.trans hY);(have k3:=hL.boxed 3 _ rfl))|(go_at_call 76;(with_reducible refine Za (V2.out _) ?_);rintro e w3 ⟨rfl,hZ⟩;(have hw:=hL.trans hZ);(have k1:=hw.boxed 1 _ rfl);(have k4:=hw.boxed 4 _ rfl))|(go_at_call 77;(with_reducible refine Za (VT.out _) ?_);rintro e w5 ⟨rfl,rfl⟩))
 have hn:Hid (∀wr:Wq,Ext w3 wr->wr.cell? ⟨w.heap.size,0,none⟩=some (.slice xA D.length xc)/\wr.cell? ⟨w.heap.size,5,none⟩=some (.slice xB A.length xd)):=gd λwr h=>⟨(hw.trans h).boxed 0 _ rfl,(hw.trans h).boxed 5 _ rfl⟩;have U:Hid (Ext w w3):=gd (((Ext.refl _).alloc _).trans hw);clear V0 V1 V2 VT hm hY hL hZ hw k1 k2 k3 k4 hb h4;go_loopw [3] (λi wr=>∃k:Nat,k<=D.length/\i=nI k/\Hid (∀p∈D.take k,p≠noS/\validS p=true)/\Ext w3 wr) (λi _=>D.length - (intOf i).toNat)
 case atStart=>exact ⟨0,Zh _,rfl,gd (by simp),Ext.refl _⟩
 case round=>
  obtain ⟨k,hk,rfl,J,hu⟩:=hrel;obtain ⟨h7,hF⟩:=hn.out wr hu;by_cases V:k<D.length
  ·obtain ⟨ad,c1,e1,hc⟩:=(hP.out.ext (U.out.trans hu)).at V;injection e1 with e1 e1' e1'';subst e1;clear e1' e1'';have hz:D[k]∈D:=Zz V;have H:=Zjg V J.out;have HV:=gd (ZW D[k] wr (by have:=HS.out _ hz;omega));have X:(D[k]=noS\/validS D[k]=false)->R=22:=λh=>(by rw[<-HR.out,ZhO hz h];rfl);obtain ⟨p,hW⟩:∃p,D[k]=p:=⟨_,rfl⟩;rw[hW] at hc H HV X;have hU:(0:Int)<=(k:Int):=(by omega);have gb:(k:Int)<(D.length:Int):=(by omega);clear hW hz;by_cases he:p=noS
   ·have hR:=X (Or.inl he);subst hR;have h9:p.toList.isEmpty=true:=(by rw[he,X4];rfl);clear he H X HV;go_wp2;go_ret;exact ⟨rfl,U.out.trans hu⟩
   ·have h9:=UW he;cases hv:validS p with
    |false=>
     have hR:=X (Or.inr hv);subst hR;rw[hv] at HV;clear he H X hv
     go_wp2_with (first|(go_at_call 76;(with_reducible refine Za (HV.out) ?_);rintro e w6 ⟨rfl,hK⟩))
     go_ret;exact ⟨rfl,(U.out.trans hu).trans hK⟩
    |true=>
     have hC:=gd (H ⟨he,hv⟩);rw[hv] at HV;clear he H X hv
     go_wp2_with (first|(go_at_call 76;(with_reducible refine Za (HV.out) ?_);rintro e w6 ⟨rfl,hK⟩))
     go_roundw
     case rel=>exact ⟨k+1,V,by go_num,hC,hu.trans hK⟩
     case measure=>simp[intOf];omega
  ·have hI:k=D.length:=(by omega);subst hI;rw[ZM (Zb _)] at J;have Z:=Zjh J.out;have hS:(if okL okE ordE A=true then 0 else 22)=R:=(by rw[<-HR.out,Z,XF]);have hO:=gd hS;clear Z hS HR J hP HS;obtain ⟨wA,gg⟩:∃wA:Wq,wA=wr:=⟨_,rfl⟩;subst gg;go_wp2;clear h7 hF;go_loopw [4] (λi wr=>∃k:Nat,k<=A.length/\i=nI k/\Hid (∀j,j<k->okAt okE ordE A j=true)/\Ext w3 wr) (λi _=>A.length - (intOf i).toNat)
   case atStart=>exact ⟨0,Zh _,rfl,gd (λj h=>by omega),hu⟩
   case round=>
    obtain ⟨k,hk,rfl,J,hh⟩:=hrel;obtain ⟨_,hF⟩:=hn.out wr hh;by_cases V:k<A.length
    ·have hX:REnts wr (.slice xB A.length xd) A:=hD.out.ext (U.out.trans hh);obtain ⟨ad,c1,e1,Y⟩:=hX.at V;injection e1 with e1 e1' e1'';subst e1;clear e1' e1'' hX;have hf:=gd (JZ (ok:=okE) (O:=ordE) V);have hA:=h6.out _ (Zz V);have hx:Hid (okAt okE ordE A k=false->R=22):=gd λh=>(by rw[<-hO.out,ZhN V h];rfl);obtain ⟨E,hE,Y,hA⟩:∃E,A[k]=E/\AtEnt wr (ad.add (k*5)) E/\eokS E:=⟨_,rfl,Y,hA⟩;have HE:=gd hE;have K:=gd V;have I:=gd (λw'=>Za1 E w' hA);have h3:=gd Y;have hU:(0:Int)<=(k:Int):=(by omega);have gb:(k:Int)<(A.length:Int):=(by omega);have B5:∀d:Aft wr,d.w.cell? ⟨w.heap.size,5,none⟩=some (.slice (some ad) A.length xd):=Aft.cell hF;clear hE hA;have A0:∀d:Aft wr,d.w.cell? (ad.add (k*5))=some (.string E.id):=Aft.cell Y.c0;have A1:∀d:Aft wr,d.w.cell? ⟨(ad.add (k*5)).block,(ad.add (k*5)).off+1,none⟩=some (.string E.title):=Aft.cell Y.c1;have A2:∀d:Aft wr,d.w.cell? ⟨(ad.add (k*5)).block,(ad.add (k*5)).off+2,none⟩=some (.string E.link):=Aft.cell Y.c2;have A3:∀d:Aft wr,d.w.cell? ⟨(ad.add (k*5)).block,(ad.add (k*5)).off+3,none⟩=some (.string E.content):=Aft.cell Y.c3;have A4:∀d:Aft wr,d.w.cell? ⟨(ad.add (k*5)).block,(ad.add (k*5)).off+4,none⟩=some (nI E.upd):=Aft.cell Y.c4;clear Y;cases Z:okE E with
     |false=>
      have hR:=hx.out (by
       rw[Yx];intro h;have h1:=((hf.out).1 h).1;rw[HE.out,Z] at h1;cases h1)
      subst hR;rw[Z] at I;clear Z;unfold eCells at I;simp only[XN,Zco] at I;go_wp2;refine rA ?_
      repeat (first|go_big_quiet_step ((first|(go_at_call 78;with_reducible exact ZE (I.out _))))|quiet_step ((first|(go_at_call 78;with_reducible exact ZE (I.out _)))))
      refine Z5 ?_;rintro _ ⟨d1,rfl⟩;go_wp2;go_ret;exact ⟨rfl,U.out.trans (hh.trans d1.ext)⟩
     |true=>
      have hN:=gd Z;rw[Z] at I;clear Z;unfold eCells at I;simp only[QE] at I;rcases YP k with h0|hV
      ·subst h0;have hi:Hid (∀h:0<0,ordE.lt (A[0 - 1]'(by have:=K.out;omega)) (A[0]'K.out)=true):=gd (λh=>by omega);simp only[add_zero,Xf] at A0 A1 A2 A3 A4;go_wp2;refine rA ?_
       repeat (first|go_big_quiet_step ((first|(go_at_call 78;with_reducible exact ZE (I.out _))))|quiet_step ((first|(go_at_call 78;with_reducible exact ZE (I.out _)))))
       refine Z5 ?_;rintro _ ⟨d1,rfl⟩;have hl:=hh.trans d1.ext;go_wp2;go_loopw [5] (λi wr=>∃j:Nat,j<=0/\i=nI j/\Hid (∀t (h:t<A.length),t<j->A[t].id≠E.id)/\Ext d1.w wr) (λi _=>0 - (intOf i).toNat)
       case atStart=>exact ⟨0,Zh _,rfl,gd (λt _ h=>by omega),Ext.refl _⟩
       case round=>
        obtain ⟨j,hj,rfl,hy,ha⟩:=hrel;obtain ⟨_,hQ⟩:=hn.out wr (hl.trans ha);have ho:=K.out;by_cases hH:j<0
        ·exact absurd hH (Nat.not_lt_zero _)
        ·have hG:j=0:=(by omega);subst hG;have Q:okAt okE ordE A 0=true:=(by refine (hf.out).2 ⟨by rw[HE.out];exact hN.out,hi.out,λt ht=> ?_⟩;rw[HE.out];exact hy.out t (by omega) ht);have HG:=gd Q;clear Q ho;go_wp2;go_roundw
         case rel=>exact ⟨0+1,K.out,by go_num,gd (λt ht=>by
          by_cases e:t=0
          ·rw[e];exact HG.out
          ·exact J.out t (by omega)),hl.trans ha⟩
         case measure=>simp[intOf];have:=K.out;omega
      ·obtain ⟨q,hq⟩:∃q,k=q+1:=⟨k - 1,by omega⟩;have gf:q<A.length:=(by have:=K.out;omega);have hX:REnts wr (.slice (some ad) A.length xd) A:=hD.out.ext (U.out.trans hh);obtain ⟨af,c3,e3,hg⟩:=hX.at gf;injection e3 with e3 e3' e3'';injection e3 with e3;subst e3;clear e3' e3'' hX;have S:ordE.lt A[q] E=decide (entCmp A[q] E<0):=rfl;have hs:Hid (A[k - 1]'(XP (Jk _ _) K.out)=A[q]):=gd (by subst hq;rfl);have hd:=gd (λw'=>Zey A[q] E w');obtain ⟨F,hg,S,hs,hd⟩:∃F,AtEnt wr (ad.add (q*5)) F/\(ordE.lt F E=decide (entCmp F E<0))/\Hid (A[k - 1]'(XP (Jk _ _) K.out)=F)/\Hid (∀w',Calls prog 79 #[.agg (eCells F).toArray,.agg (eCells E).toArray] w' λe gi=>e= .returned (nI (entCmp F E))/\Ext w' gi):=⟨_,hg,S,hs,hd⟩;have C0:∀d:Aft wr,d.w.cell? (ad.add (q*5))=some (.string F.id):=Aft.cell hg.c0;have C1:∀d:Aft wr,d.w.cell? ⟨(ad.add (q*5)).block,(ad.add (q*5)).off+1,none⟩=some (.string F.title):=Aft.cell hg.c1;have C2:∀d:Aft wr,d.w.cell? ⟨(ad.add (q*5)).block,(ad.add (q*5)).off+2,none⟩=some (.string F.link):=Aft.cell hg.c2;have C3:∀d:Aft wr,d.w.cell? ⟨(ad.add (q*5)).block,(ad.add (q*5)).off+3,none⟩=some (.string F.content):=Aft.cell hg.c3;have C4:∀d:Aft wr,d.w.cell? ⟨(ad.add (q*5)).block,(ad.add (q*5)).off+4,none⟩=some (nI F.upd):=Aft.cell hg.c4;clear hg;obtain ⟨c,hc⟩:∃c,entCmp F E=c:=⟨_,rfl⟩;rw[hc] at S hd;have gm:(0:Int)<(k:Int):=(by omega);have go:wrap64 ((k:Int) - 1)=(q:Int):=(by rw[Uo _ ⟨by omega,by omega⟩];omega);have gn:(k:Int) - 1=(q:Int):=(by omega);have gq:(0:Int)<=(q:Int):=(by omega);have gr:(q:Int)<(A.length:Int):=(by omega);unfold eCells at hd;by_cases hB:c<0
       ·have hi:Hid (∀h:0<k,ordE.lt (A[k - 1]'(XP (Jk _ _) K.out)) (A[k]'K.out)=true):=gd (λh=>by rw[hs.out,HE.out,S];exact YJ hB);have ga:¬(0:Int)<=c:=(by omega);clear S hc hq hs;go_wp2;refine rA ?_
        repeat (first|go_big_quiet_step ((first|(go_at_call 78;with_reducible exact ZE (I.out _))|(go_at_call 79;with_reducible exact ZE (hd.out _))))|quiet_step ((first|(go_at_call 78;with_reducible exact ZE (I.out _))|(go_at_call 79;with_reducible exact ZE (hd.out _)))))
        refine Z5 ?_;rintro _ ⟨d1,rfl⟩;have hl:=hh.trans d1.ext;go_wp2;go_loopw [5] (λi wr=>∃j:Nat,j<=k/\i=nI j/\Hid (∀t (h:t<A.length),t<j->A[t].id≠E.id)/\Ext d1.w wr) (λi _=>k - (intOf i).toNat)
        case atStart=>exact ⟨0,Zh _,rfl,gd (λt _ h=>by omega),Ext.refl _⟩
        case round=>
         obtain ⟨j,hj,rfl,hy,ha⟩:=hrel;obtain ⟨_,hQ⟩:=hn.out wr (hl.trans ha);have ho:=K.out;by_cases hH:j<k
         ·have gc:j<A.length:=(by omega);have hX:REnts wr (.slice (some ad) A.length xd) A:=hD.out.ext (U.out.trans (hl.trans ha));obtain ⟨ae,c2,e2,hT⟩:=hX.at gc;injection e2 with e2 e2' e2'';injection e2 with e2;subst e2;clear e2' e2'' hX;have H:A[j].id≠E.id->∀t (h:t<A.length),t<j+1->A[t].id≠E.id:=λge t h ht=>by
           by_cases e:t=j
           ·subst e;exact ge
           ·exact hy.out t h (by omega)
          have M:A[j].id=E.id->R=22:=λe=>(by refine hx.out ?_;rw[Yx];intro h;exact ((hf.out).1 h).2.2 j hH (by rw[HE.out];exact e));have q0:=hT.c0;have p0:=(h3.out.ext (d1.ext.trans ha)).c0;obtain ⟨y,gh⟩:∃y,A[j].id=y:=⟨_,rfl⟩;rw[gh] at H M q0;obtain ⟨z,hM⟩:∃z,E.id=z:=⟨_,rfl⟩;simp only[hM] at H M p0 hy|-;have HZ:=gd hM;clear hM hT;have B5:∀d:Aft wr,d.w.cell? ⟨w.heap.size,5,none⟩=some (.slice (some ad) A.length xd):=Aft.cell hQ;have Q0:∀d:Aft wr,d.w.cell? (ad.add (j*5))=some (.string y):=Aft.cell q0;have P0:∀d:Aft wr,d.w.cell? (ad.add (k*5))=some (.string z):=Aft.cell p0;have j0:(0:Int)<=(j:Int):=(by omega);have j1:(j:Int)<(A.length:Int):=(by omega);have j2:(j:Int)<(k:Int):=(by omega);clear q0 p0 ho;cases hyz:(y.toList==z.toList) with
          |true=>
           have hR:=M (toList_inj (by simpa using hyz));subst hR;clear M H;go_wp2;refine rA ?_
           repeat (first|go_big_quiet_step (fail)|quiet_step (fail))
           refine Z5 ?_;rintro _ ⟨d2,rfl⟩;go_wp2;go_ret;exact ⟨rfl,U.out.trans ((hl.trans ha).trans d2.ext)⟩
          |false=>
           have hC:=gd (H (λe=>by rw[e] at hyz;simp at hyz));clear M H;go_wp2;refine rA ?_
           repeat (first|go_big_quiet_step (fail)|quiet_step (fail))
           refine Z5 ?_;rintro _ ⟨d2,rfl⟩;go_wp2;go_roundw
           case rel=>exact ⟨j+1,by omega,by go_num,hC,ha.trans d2.ext⟩
           case measure=>simp[intOf];omega
         ·have hG:j=k:=(by omega);subst hG;have Q:okAt okE ordE A j=true:=(by refine (hf.out).2 ⟨by rw[HE.out];exact hN.out,hi.out,λt ht=> ?_⟩;rw[HE.out];exact hy.out t (by omega) ht);have HG:=gd Q;clear Q ho;go_wp2;go_roundw
          case rel=>exact ⟨j+1,K.out,by go_num,gd (λt ht=>by
           by_cases e:t=j
           ·rw[e];exact HG.out
           ·exact J.out t (by omega)),hl.trans ha⟩
          case measure=>simp[intOf];have:=K.out;omega
       ·have hR:=hx.out (by
         rw[Yx];intro h;have h1:=((hf.out).1 h).2.1 hV;rw[hs.out,HE.out,S] at h1;exact hB (YG h1))
        subst hR;have ga:(0:Int)<=c:=(by omega);clear S hc hq hs;go_wp2;refine rA ?_
        repeat (first|go_big_quiet_step ((first|(go_at_call 78;with_reducible exact ZE (I.out _))|(go_at_call 79;with_reducible exact ZE (hd.out _))))|quiet_step ((first|(go_at_call 78;with_reducible exact ZE (I.out _))|(go_at_call 79;with_reducible exact ZE (hd.out _)))))
        refine Z5 ?_;rintro _ ⟨d1,rfl⟩;go_wp2;go_ret;exact ⟨rfl,U.out.trans (hh.trans d1.ext)⟩
    ·have hI:k=A.length:=(by omega);subst hI;have h8:R=0:=(by rw[<-hO.out,Zjf J.out];rfl);subst h8;go_wp2;go_ret;exact ⟨rfl,U.out.trans hh⟩
theorem Za2 (x:Fc) (w:Wq) (I:RdC w x) (H:fokS x.f):
 Calls prog 40 #[.agg (cellsC x).toArray] w λe w'=>e= .returned (nI (if okF x.f=true then 0 else 22))/\Ext w w':=by
 have Q:okF x.f=(okH x.f && okL okE ordE x.f.ents):=rfl;by_cases A:x.f.path.length<=64
 case neg=>rw[Zg (by rw[Q];unfold okH;simp[A])];exact Zer x w I H A
 have M:∀s,validS s=false->s∈ [x.f.id,x.f.title,x.f.link]->okF x.f=false:=λs h D=>by rw[Yx];intro F;have:=(X6.1 (Jq.1 F).1).2.1 s (by unfold strsF;simp only[Zu];exact Or.inr D);rw[h] at this;cases this
 cases v0:validS x.f.id with
 |false=>rw[Zg (by rw[M _ v0 (by simp)];simp)];exact Zes x w I H A v0
 |true=>
 cases v1:validS x.f.title with
 |false=>rw[Zg (by rw[M _ v1 (by simp)];simp)];exact Zet x w I H A v0 v1
 |true=>
 cases v2:validS x.f.link with
 |false=>rw[Zg (by rw[M _ v2 (by simp)];simp)];exact Zeu x w I H A v0 v1 v2
 |true=>
 by_cases K:x.f.id=noS
 ·rw[Zg (λF=>(X6.1 (Jq.1 F).1).2.2.1 K)];exact Zev x w I H A v0 v1 v2 (by rw[K,X4];rfl)
 cases h5:inT x.f.upd with
 |false=>rw[Zg (λF=>by have:=(X6.1 (Jq.1 F).1).2.2.2.1;rw[h5] at this;cases this)];exact Zew x w I H A v0 v1 v2 (UW K) h5
 |true=>
  have e:(okF x.f=true)=((okP x.f.path && okL okE ordE x.f.ents)=true):=by
   rw[Q];have:okH x.f=okP x.f.path:=by
    rw[Y4,X6];unfold okP;rw[Yk];constructor
    ·rintro ⟨_,a,_,_,b⟩ p J;simp[b p J,a p (by unfold strsF;simp[J])]
    ·intro h;have F:∀p∈x.f.path,p≠noS/\validS p=true:=λp J=>(by have:=h p J;simpa using this);refine ⟨A,λs D=> ?_,K,h5,λp J=>(F p J).1⟩;unfold strsF at D;rcases Zu.1 D with D|D
     ·exact (F s D).2
     ·simp only[ZI,Yg,Xx] at D;rcases D with rfl|rfl|rfl<;>assumption
   rw[this]
  rw[show (if okF x.f=true then (0:Int) else 22)=(if (okP x.f.path && okL okE ordE x.f.ents)=true then 0 else 22) by simp only[e]];exact Zex x w I H A v0 v1 v2 (UW K) h5
end
theorem Zfu (v:Value) (x:ByteArray) (l:List ByteArray) (w:Wq) (h:RStrs w v l) (hn:l.length<=16777216):
 Calls prog 151 #[v,.string x] w λe w'=>(∃i:Int,e= .returned (nI i)/\(((l.any λs=>decide (s=x))=true/\0<=i)\/((l.any λs=>decide (s=x))=false/\i<0)))/\w=w':=by
 obtain ⟨A,c,rfl, -, -⟩:=h.form;obtain ⟨R,V⟩:∃R,(l.any λs=>decide (s=x))=R:=⟨_,rfl⟩;rw[V];have HR:=gd V;have HH:=gd h;clear V h;go_enter func151,ntmps151;go_wp2;go_loopw [8] (λi wr=>∃k:Nat,k<=l.length/\i=nI k/\Hid (∀s∈l.take k,s≠x)/\w=wr) (λi _=>l.length - (intOf i).toNat)
 case atStart=>exact ⟨0,Zh _,rfl,gd (by simp),rfl⟩
 case round=>
  obtain ⟨k,hk,rfl,H,rfl⟩:=hrel;by_cases F:k<l.length
  ·obtain ⟨ad,c1,e1,hc⟩:=(HH.out).at F;injection e1 with e1 e1' e1'';subst e1;clear e1' e1'';have I:l[k]∈l:=Zz F;have K:=Zq F;have D:l[k]=x->R=true:=λh=>(by rw[<-HR.out,Xu];exact ⟨_,I,by simpa using h⟩);obtain ⟨p,Q⟩:∃p,l[k]=p:=⟨_,rfl⟩;rw[Q] at hc K D;have U:=gd K;have M:(0:Int)<=(k:Int):=(by omega);have hb:(k:Int)<(l.length:Int):=(by omega);clear Q I K;cases hyz:(x.toList==p.toList) with
   |true=>have Y:=D (toList_inj (by simpa using hyz)).symm;subst Y;clear D;go_wp2;go_ret;exact ⟨⟨_,rfl,M⟩,rfl⟩
   |false=>
    have S:=gd (show p≠x from λe=>by rw[e] at hyz;simp at hyz);clear D;go_wp2;go_roundw
    case rel=>exact ⟨k+1,F,by go_num,gd (λs J=>by
     rw[U.out] at J;rcases Zu.1 J with J|J
     ·exact H.out s J
     ·rw[Zo.1 J];exact S.out),(by first|trivial|rfl)⟩
    case measure=>simp[intOf];omega
  ·have ha:k=l.length:=(by omega);subst ha;have Z:=H.out;rw[ZM (Zb _)] at Z;have X:R=false:=(by rw[<-HR.out,List.any_eq_false];intro s J;simpa using Z s J);subst X;clear Z;go_wp2;go_ret;exact ⟨⟨_,rfl,by omega⟩,rfl⟩
theorem Jm (v:Value) (x:ByteArray) (l:List ByteArray) (w:Wq) (h:RStrs w v l) (I:l.length<=16777216):
 Calls prog 104 #[v,.string x] w λe w'=>e= .returned (.bool (l.any λs=>decide (s=x)))/\w=w':=by
 have D:=gd (Zfu v x l w h I);obtain ⟨A,c,rfl, -, -⟩:=h.form;obtain ⟨R,F⟩:∃R,(l.any λs=>decide (s=x))=R:=⟨_,rfl⟩;simp only[F] at D|-;clear h F;go_enter func104,ntmps104
 go_wp2_with (first|(go_at_call 151;(with_reducible refine Za (D.out) ?_);rintro e J ⟨⟨i,rfl,H⟩,rfl⟩))
 go_ret;rcases H with ⟨rfl,h⟩|⟨rfl,h⟩
 ·exact ⟨by simp[h],rfl⟩
 ·exact ⟨by simp;omega,rfl⟩
theorem Zhw (x:Fc) (w:Wq) (Q:Env w) (S:RdC w x) (R:fokS x.f) (M:¬x.f.path.length<=64):
 Calls prog 87 #[.agg (cellsC x).toArray] w λe w'=>e= .returned (nI 22)/\Ext w w':=by
 obtain ⟨⟨z0,X⟩,Y,z3⟩:=R;have K:=gd (λw'=>XC (false) w');obtain ⟨xp,U,⟨h,V,F,I,J,H⟩⟩:=x;obtain ⟨A,D⟩:=S;dsimp only at*;obtain ⟨xA,xc,rfl, -, -⟩:=A.form;obtain ⟨xB,xd,rfl, -, -⟩:=D.form;have hb:¬(h.length:Int)<=64:=by omega
 clear A D z0 X Y z3 Q M;unfold cellsC fCells;dsimp only;go_enter func87,ntmps87
 go_wp2_with (first|(go_at_call 85;(with_reducible refine Za (K.out _) ?_);rintro Z w9 ⟨rfl,rfl⟩))
 all_goals go_ret
 all_goals exact ⟨rfl,(Ext.refl _).alloc _⟩
theorem Zhx (x:Fc) (w:Wq) (U:Env w) (M:RdC w x) (V:fokS x.f) (S:x.f.path.length<=64) (c0:(x.f.path.any λs=>decide (s=⟨#[]⟩))=true):
 Calls prog 87 #[.agg (cellsC x).toArray] w λe w'=>e= .returned (nI 22)/\Ext w w':=by
 obtain ⟨⟨z0,Z⟩,z2,z3⟩:=V;have D:=gd (λ(w':Wq) (h:Ext w w')=>Jm x.p ⟨#[]⟩ x.f.path w' (M.1.ext h) (by omega));rw[c0] at D;have R:=gd (λw'=>XC (false) w');obtain ⟨xp,X,⟨A,Y,I,K,Q,J⟩⟩:=x;obtain ⟨F,H⟩:=M;dsimp only at*;obtain ⟨xA,xc,rfl, -, -⟩:=F.form;obtain ⟨xB,xd,rfl, -, -⟩:=H.form;have hb:(A.length:Int)<=64:=by omega
 clear F H z0 Z z2 z3 U S c0;unfold cellsC fCells;dsimp only;go_enter func87,ntmps87
 go_wp2_with (first|(go_at_call 104;(with_reducible refine Za (D.out _ ((Ext.refl w).alloc _)) ?_);rintro e3 w3 ⟨rfl,rfl⟩)|(go_at_call 85;(with_reducible refine Za (R.out _) ?_);rintro e9 w9 ⟨rfl,rfl⟩))
 all_goals go_ret
 all_goals exact ⟨rfl,(Ext.refl _).alloc _⟩
theorem Zhy (x:Fc) (w:Wq) (S:Env w) (M:RdC w x) (Y:fokS x.f) (X:x.f.path.length<=64) (c0:(x.f.path.any λs=>decide (s=⟨#[]⟩))=false) (v0:x.f.path.all validS=false):
 Calls prog 87 #[.agg (cellsC x).toArray] w λe w'=>e= .returned (nI 22)/\Ext w w':=by
 obtain ⟨⟨z0,z1⟩,z2,z3⟩:=Y;have F:=gd (λ(w':Wq) (h:Ext w w')=>Jm x.p ⟨#[]⟩ x.f.path w' (M.1.ext h) (by omega));rw[c0] at F;have H:=gd (λ(w':Wq) (h:Ext w w')=>Ut x.p x.f.path w' (S.ext h) (M.1.ext h) (λs Z=>by have:=X1 Z;omega) (by omega));rw[v0] at H;have V:=gd (λw'=>XC (false) w');obtain ⟨xp,ha,⟨D,hc,K,R,U,Q⟩⟩:=x;obtain ⟨I,J⟩:=M;dsimp only at*;obtain ⟨xA,xc,rfl, -, -⟩:=I.form;obtain ⟨xB,xd,rfl, -, -⟩:=J.form;have hb:(D.length:Int)<=64:=by omega
 clear I J z0 z1 z2 z3 S X c0 v0;unfold cellsC fCells;dsimp only;go_enter func87,ntmps87
 go_wp2_with (first|(go_at_call 104;(with_reducible refine Za (F.out _ ((Ext.refl w).alloc _)) ?_);rintro e3 w3 ⟨rfl,rfl⟩)|(go_at_call 128;(with_reducible refine Za (H.out _ ((Ext.refl w).alloc _)) ?_);rintro e4 w4 ⟨rfl,A⟩;(have k1:=A.boxed 1 _ rfl);(have k2:=A.boxed 2 _ rfl);(have k3:=A.boxed 3 _ rfl);(have k4:=A.boxed 4 _ rfl))|(go_at_call 85;(with_reducible refine Za (V.out _) ?_);rintro e9 w9 ⟨rfl,rfl⟩))
 all_goals go_ret
 all_goals exact ⟨rfl,((Ext.refl _).alloc _).trans A⟩
theorem Zhz (x:Fc) (w:Wq) (S:Env w) (M:RdC w x) (Y:fokS x.f) (X:x.f.path.length<=64) (c0:(x.f.path.any λs=>decide (s=⟨#[]⟩))=false) (v0:x.f.path.all validS=true) (i0:x.f.id.toList.isEmpty=true):
 Calls prog 87 #[.agg (cellsC x).toArray] w λe w'=>e= .returned (nI 22)/\Ext w w':=by
 obtain ⟨⟨z0,z1⟩,z2,z3⟩:=Y;have F:=gd (λ(w':Wq) (h:Ext w w')=>Jm x.p ⟨#[]⟩ x.f.path w' (M.1.ext h) (by omega));rw[c0] at F;have H:=gd (λ(w':Wq) (h:Ext w w')=>Ut x.p x.f.path w' (S.ext h) (M.1.ext h) (λs Z=>by have:=X1 Z;omega) (by omega));rw[v0] at H;have V:=gd (λw'=>XC (false) w');obtain ⟨xp,ha,⟨D,hc,K,R,U,Q⟩⟩:=x;obtain ⟨I,J⟩:=M;dsimp only at*;obtain ⟨xA,xc,rfl, -, -⟩:=I.form;obtain ⟨xB,xd,rfl, -, -⟩:=J.form;have hb:(D.length:Int)<=64:=by omega
 clear I J z0 z1 z2 z3 S X c0 v0;unfold cellsC fCells;dsimp only;go_enter func87,ntmps87
 go_wp2_with (first|(go_at_call 104;(with_reducible refine Za (F.out _ ((Ext.refl w).alloc _)) ?_);rintro e3 w3 ⟨rfl,rfl⟩)|(go_at_call 128;(with_reducible refine Za (H.out _ ((Ext.refl w).alloc _)) ?_);rintro e4 w4 ⟨rfl,A⟩;(have k1:=A.boxed 1 _ rfl);(have k2:=A.boxed 2 _ rfl);(have k3:=A.boxed 3 _ rfl);(have k4:=A.boxed 4 _ rfl))|(go_at_call 85;(with_reducible refine Za (V.out _) ?_);rintro e9 w9 ⟨rfl,rfl⟩))
 all_goals go_ret
 all_goals exact ⟨rfl,((Ext.refl _).alloc _).trans A⟩
theorem ZhA (x:Fc) (w:Wq) (U:Env w) (Q:RdC w x) (Z:fokS x.f) (Y:x.f.path.length<=64) (c0:(x.f.path.any λs=>decide (s=⟨#[]⟩))=false) (v0:x.f.path.all validS=true) (i0:x.f.id.toList.isEmpty=false) (t0:inT x.f.upd=false):
 Calls prog 87 #[.agg (cellsC x).toArray] w λe w'=>e= .returned (nI 22)/\Ext w w':=by
 obtain ⟨⟨z0,z1⟩,z2,z3⟩:=Z;have F:=gd (λ(w':Wq) (h:Ext w w')=>Jm x.p ⟨#[]⟩ x.f.path w' (Q.1.ext h) (by omega));rw[c0] at F;have I:=gd (λ(w':Wq) (h:Ext w w')=>Ut x.p x.f.path w' (U.ext h) (Q.1.ext h) (λs hs=>by have:=X1 hs;omega) (by omega));rw[v0] at I;have H:=gd (λw'=>Vc x.f.upd w');rw[t0] at H;have X:=gd (λw'=>XC (false) w');obtain ⟨xp,ha,⟨D,hc,M,S,V,R⟩⟩:=x;obtain ⟨J,K⟩:=Q;dsimp only at*;obtain ⟨xA,xc,rfl, -, -⟩:=J.form;obtain ⟨xB,xd,rfl, -, -⟩:=K.form;have hb:(D.length:Int)<=64:=by omega
 clear J K z0 z1 z2 z3 U Y c0 v0 t0;unfold cellsC fCells;dsimp only;go_enter func87,ntmps87
 go_wp2_with (first|(go_at_call 104;(with_reducible refine Za (F.out _ ((Ext.refl w).alloc _)) ?_);rintro e3 w3 ⟨rfl,rfl⟩)|(go_at_call 128;(with_reducible refine Za (I.out _ ((Ext.refl w).alloc _)) ?_);rintro e4 w4 ⟨rfl,A⟩;(have k1:=A.boxed 1 _ rfl);(have k2:=A.boxed 2 _ rfl);(have k3:=A.boxed 3 _ rfl);(have k4:=A.boxed 4 _ rfl))|(go_at_call 130;(with_reducible refine Za (H.out _) ?_);rintro e5 w5 ⟨rfl,rfl⟩)|(go_at_call 85;(with_reducible refine Za (X.out _) ?_);rintro e9 w9 ⟨rfl,rfl⟩))
 all_goals go_ret
 all_goals exact ⟨rfl,((Ext.refl _).alloc _).trans A⟩
theorem ZhB (x:Fc) (w:Wq) (S:Env w) (U:RdC w x) (hk:fokS x.f) (h0:x.f.path.length<=64) (c0:(x.f.path.any λs=>decide (s=⟨#[]⟩))=false) (v0:x.f.path.all validS=true) (i0:x.f.id.toList.isEmpty=false) (t0:inT x.f.upd=true) (s0: [x.f.id,x.f.title,x.f.link].all validS=false):
 Calls prog 87 #[.agg (cellsC x).toArray] w λe w'=>e= .returned (nI 22)/\Ext w w':=by
 obtain ⟨⟨z0,z1⟩,z2,z3⟩:=hk;have I:=gd (λ(w':Wq) (h:Ext w w')=>Jm x.p ⟨#[]⟩ x.f.path w' (U.1.ext h) (by omega));rw[c0] at I;have K:=gd (λ(w':Wq) (h:Ext w w')=>Ut x.p x.f.path w' (S.ext h) (U.1.ext h) (λs hs=>by have:=X1 hs;omega) (by omega));rw[v0] at K;have J:=gd (λw'=>Vc x.f.upd w');rw[t0] at J;have F:=gd (λ(w':Wq) (h:Ext w w')=>Ut _ [x.f.id,x.f.title,x.f.link] (w'.alloc (.cells ([x.f.id,x.f.title,x.f.link].map Value.string).toArray 9)) ((S.ext h).alloc _) (U2 w' [x.f.id,x.f.title,x.f.link] (by show 3<=maxLen;decide)) (λs h=>by simp only[ZI,Yg,Xx] at h;rcases h with rfl|rfl|rfl<;>omega) (by show 3<=16777216;decide));rw[s0] at F;simp only[ZP,Yt,Ze,ZT] at F;have HC:=gd (λw'=>XC (false) w');obtain ⟨xp,hc,⟨H,hd,R,Y,ha,X⟩⟩:=x;obtain ⟨M,Q⟩:=U;dsimp only at*;obtain ⟨xA,xc,rfl, -, -⟩:=M.form;obtain ⟨xB,xd,rfl, -, -⟩:=Q.form;have hb:(H.length:Int)<=64:=by omega
 clear M Q z0 z1 z2 z3 S h0 c0 v0 t0 s0;unfold cellsC fCells;dsimp only;go_enter func87,ntmps87
 go_wp2_with (first|(go_at_call 104;(with_reducible refine Za (I.out _ ((Ext.refl w).alloc _)) ?_);rintro e3 w3 ⟨rfl,rfl⟩)|(go_at_call 128;(with_reducible refine Za (K.out _ ((Ext.refl w).alloc _)) ?_);rintro e4 w4 ⟨rfl,A⟩;(have k1:=A.boxed 1 _ rfl);(have k2:=A.boxed 2 _ rfl);(have k3:=A.boxed 3 _ rfl);(have k4:=A.boxed 4 _ rfl))|(go_at_call 130;(with_reducible refine Za (J.out _) ?_);rintro e5 w5 ⟨rfl,rfl⟩)|(go_at_call 128;(have Z:=F.out _ (((Ext.refl w).alloc _).trans A));(with_reducible refine Za Z ?_);clear Z;rintro e7 w7 ⟨rfl,V⟩;(have D:=A.trans (((Ext.refl _).alloc _).trans V));(have k5:=D.boxed 5 _ rfl))|(go_at_call 85;(with_reducible refine Za (HC.out _) ?_);rintro e9 w9 ⟨rfl,rfl⟩))
 all_goals go_ret
 all_goals exact ⟨rfl,((Ext.refl _).alloc _).trans D⟩
theorem ZhC (x:Fc) (w:Wq) (S:Env w) (U:RdC w x) (hk:fokS x.f) (h0:x.f.path.length<=64) (c0:(x.f.path.any λs=>decide (s=⟨#[]⟩))=false) (v0:x.f.path.all validS=true) (i0:x.f.id.toList.isEmpty=false) (t0:inT x.f.upd=true) (s0: [x.f.id,x.f.title,x.f.link].all validS=true):
 Calls prog 87 #[.agg (cellsC x).toArray] w λe w'=>e= .returned (nI (if okL okE ordE x.f.ents=true then 0 else 22))/\Ext w w':=by
 obtain ⟨⟨z0,z1⟩,z2,z3⟩:=hk;have I:=gd (λ(w':Wq) (h:Ext w w')=>Jm x.p ⟨#[]⟩ x.f.path w' (U.1.ext h) (by omega));rw[c0] at I;have M:=gd (λ(w':Wq) (h:Ext w w')=>Ut x.p x.f.path w' (S.ext h) (U.1.ext h) (λs hs=>by have:=X1 hs;omega) (by omega));rw[v0] at M;have J:=gd (λw'=>Vc x.f.upd w');rw[t0] at J;have F:=gd (λ(w':Wq) (h:Ext w w')=>Ut _ [x.f.id,x.f.title,x.f.link] (w'.alloc (.cells ([x.f.id,x.f.title,x.f.link].map Value.string).toArray 9)) ((S.ext h).alloc _) (U2 w' [x.f.id,x.f.title,x.f.link] (by show 3<=maxLen;decide)) (λs h=>by simp only[ZI,Yg,Xx] at h;rcases h with rfl|rfl|rfl<;>omega) (by show 3<=16777216;decide));rw[s0] at F;simp only[ZP,Yt,Ze,ZT] at F;have K:=gd (λ(w':Wq) (h:Ext w w')=>ZcA x.es x.f.ents w' (S.ext h) (U.2.ext h) (λe he=>by obtain ⟨_,h⟩:=z3 e he;exact ⟨by omega,by omega,by omega,by omega⟩) z2);have HC:=gd (λw'=>XC (okL okE ordE x.f.ents) w');obtain ⟨b,X⟩:∃b,okL okE ordE x.f.ents=b:=⟨_,rfl⟩;simp only[X] at K HC|-;clear X;obtain ⟨xp,hf,⟨H,hg,V,hc,hd,ha⟩⟩:=x;obtain ⟨Q,R⟩:=U;dsimp only at*;obtain ⟨xA,xc,rfl, -, -⟩:=Q.form;obtain ⟨xB,xd,rfl, -, -⟩:=R.form;have X:(H.length:Int)<=64:=by omega
 clear Q R z0 z1 z2 z3 S h0 c0 v0 t0 s0;unfold cellsC fCells;dsimp only;go_enter func87,ntmps87
 go_wp2_with (first|(go_at_call 104;(with_reducible refine Za (I.out _ ((Ext.refl w).alloc _)) ?_);rintro e3 w3 ⟨rfl,rfl⟩)|(go_at_call 128;(with_reducible refine Za (M.out _ ((Ext.refl w).alloc _)) ?_);rintro e4 w4 ⟨rfl,A⟩;(have k1:=A.boxed 1 _ rfl);(have k2:=A.boxed 2 _ rfl);(have k3:=A.boxed 3 _ rfl);(have k4:=A.boxed 4 _ rfl))|(go_at_call 130;(with_reducible refine Za (J.out _) ?_);rintro e5 w5 ⟨rfl,rfl⟩)|(go_at_call 128;(have hz:=F.out _ (((Ext.refl w).alloc _).trans A));(with_reducible refine Za hz ?_);clear hz;rintro e7 w7 ⟨rfl,Y⟩;(have D:=A.trans (((Ext.refl _).alloc _).trans Y));(have k5:=D.boxed 5 _ rfl))|(go_at_call 131;(with_reducible refine Za (K.out _ (((Ext.refl w).alloc _).trans D)) ?_);rintro e8 w8 ⟨rfl,Z⟩)|(go_at_call 85;(with_reducible refine Za (HC.out _) ?_);rintro e9 w9 ⟨rfl,rfl⟩))
 all_goals go_ret
 all_goals exact ⟨rfl,(((Ext.refl _).alloc _).trans D).trans Z⟩
theorem ZdZ (x:Fc) (w:Wq) (H:Env w) (J:RdC w x) (I:fokS x.f):
 Calls prog 87 #[.agg (cellsC x).toArray] w λe w'=>e= .returned (nI (if okF x.f=true then 0 else 22))/\Ext w w':=by
 by_cases F:x.f.path.length<=64
 case neg=>rw[Zg (λA=>F (X6.1 (Jq.1 A).1).1)];exact Zhw x w H J I F
 cases c0:(x.f.path.any λs=>decide (s=⟨#[]⟩)) with
 |true=>
  rw[Zg (λA=>by
   obtain ⟨s,h,R⟩:=Xu.1 c0;exact (X6.1 (Jq.1 A).1).2.2.2.2 s h (YG R))]
  exact Zhx x w H J I F c0
 |false=>
 cases v0:x.f.path.all validS with
 |false=>
  rw[Zg (λA=>by
   have D:=(X6.1 (Jq.1 A).1).2.1;rw[Yk.2 (λs h=>D s (by unfold strsF;simp[h]))] at v0;cases v0)]
  exact Zhy x w H J I F c0 v0
 |true=>
 by_cases K:x.f.id=noS
 ·rw[Zg (λA=>(X6.1 (Jq.1 A).1).2.2.1 K)];exact Zhz x w H J I F c0 v0 (ZbN K)
 cases t0:inT x.f.upd with
 |false=>rw[Zg (λA=>by have:=(X6.1 (Jq.1 A).1).2.2.2.1;rw[t0] at this;cases this)];exact ZhA x w H J I F c0 v0 (UW K) t0
 |true=>
 cases s0: [x.f.id,x.f.title,x.f.link].all validS with
 |false=>
  rw[Zg (λA=>by
   have D:=(X6.1 (Jq.1 A).1).2.1;rw[Yk.2 (λs h=>D s (by unfold strsF;simp only[Zu];exact Or.inr h))] at s0;cases s0)]
  exact ZhB x w H J I F c0 v0 (UW K) t0 s0
 |true=>
  have Q:okH x.f=true:=X6.2 ⟨F,λs h=>by
   unfold strsF at h;rcases Zu.1 h with h|h
   ·exact Yk.1 v0 s h
   ·exact Yk.1 s0 s h,K,t0,λp S e=>by
   rw[List.any_eq_false] at c0;exact c0 p S (YJ e)⟩
  have M:okF x.f=okL okE ordE x.f.ents:=by unfold okF;rw[Q];rfl
  rw[M];exact ZhC x w H J I F c0 v0 (UW K) t0 s0
section
theorem Za7 (u v:Value) (a b:List ByteArray) (w:Wq) (Z:RStrs w u a) (hb:RStrs w v b) (hn:a.length<=16777216):
 Calls prog 171 #[u,v] w λe w'=>e= .returned (nI (pathCmp a b))/\w'=w:=by
 obtain ⟨A,c,rfl,hc,hf⟩:=Z.form;obtain ⟨B,d,rfl,hd,hg⟩:=hb.form;have HA:Hid (a.length<=maxLen):=gd (by omega);have HB:Hid (b.length<=maxLen):=gd (by omega);clear hc hf hd hg;go_enter func171,ntmps171;go_wp2;go_loopw [11] (λi wr=>∃k:Nat,k<=a.length/\k<=b.length/\i=nI k/\Hid (pathCmp a b=pathCmp (a.drop k) (b.drop k))/\wr=w) (λi _=>a.length - (intOf i).toNat)
 case atStart=>exact ⟨0,Zh _,Zh _,rfl,gd rfl,rfl⟩
 case round=>
  obtain ⟨k,hj,hk,rfl,D,rfl⟩:=hrel;by_cases H:k<a.length
  ·by_cases I:k<b.length
   ·have Q:=Kr H I;obtain ⟨ad,c1,e1,K⟩:=Z.at H;injection e1 with e1 e2 e3;subst e1;obtain ⟨bd,d1,e4,he⟩:=hb.at I;injection e4 with e4 e5 e6;subst e4;clear e2 e3 e5 e6;obtain ⟨x,F⟩:∃x,a[k]=x:=⟨_,rfl⟩;obtain ⟨y,R⟩:∃y,b[k]=y:=⟨_,rfl⟩;rw[F,R] at Q;rw[F] at K;rw[R] at he;have U:=gd Q;have X:=gd (λw'=>VL x y w');clear Q F R;have hi:(0:Int)<=(k:Int):=(by omega);have hh:(k:Int)<(a.length:Int):=(by omega);have V:(k:Int)<(b.length:Int):=(by omega);obtain ⟨q,hq⟩:∃q,sCmp x y=q:=⟨_,rfl⟩;rw[hq] at X;have HQ:=gd hq;clear hq;by_cases J:q=0
    ·subst J
     go_wp2_with (go_at_call 119;refine (X.out _).mono ?_;rintro e w2 ⟨rfl,rfl⟩)
     go_roundw
     case rel=>refine ⟨k+1,by omega,by omega,by go_num,gd ?_,trivial⟩;rw[D.out,U.out,Zl HQ.out]
     case measure=>simp[intOf];omega
    ·have hm:(q !=0)=true:=(by simpa using J);have Y:=gd J;clear J
     go_wp2_with (go_at_call 119;refine (X.out _).mono ?_;rintro e w2 ⟨rfl,rfl⟩)
     go_ret;have h:pathCmp a b=q:=(by rw[D.out,U.out,HQ.out,Zg Y.out]);exact ⟨by rw[h];rfl,rfl⟩
   ·have M:k=b.length:=(by omega);subst M;have h:pathCmp a b=1:=(by rw[D.out,Zw (Zb _),Zi H];rfl);have S:=gd h;clear h D;have hh:(b.length:Int)<(a.length:Int):=(by omega);obtain ⟨ad,c1,e1,K⟩:=Z.at H;injection e1 with e1 e2 e3;subst e1;clear e2 e3;obtain ⟨x,F⟩:∃x,a[b.length]=x:=⟨_,rfl⟩;rw[F] at K;clear F;go_wp2;go_ret;exact ⟨by rw[S.out];rfl,rfl⟩
  ·have M:k=a.length:=(by omega);subst M;by_cases I:a.length<b.length
   ·have h:pathCmp a b= -1:=(by rw[D.out,Zw (Zb a.length),Zi I];rfl);have S:=gd h;clear h D;have V:(a.length:Int)<(b.length:Int):=(by omega);go_wp2;go_ret;exact ⟨by rw[S.out];rfl,rfl⟩
   ·have hl:b.length=a.length:=(by omega);have h:pathCmp a b=0:=(by rw[D.out,Zw (Zb a.length),Zw (by omega)];rfl);have S:=gd h;clear h D;have V:¬(a.length:Int)<(b.length:Int):=(by omega);go_wp2;go_ret;exact ⟨by rw[S.out];rfl,rfl⟩
theorem Zcc (u v:Value) (a b:List ByteArray) (w:Wq) (h:RStrs w u a) (D:RStrs w v b) (H:a.length<=16777216):
 Calls prog 118 #[u,v] w λe w'=>e= .returned (nI (pathCmp a b))/\w'=w:=by
 have F:=gd (Za7 u v a b w h D H);obtain ⟨A,c,rfl,_,_⟩:=h.form;obtain ⟨B,d,rfl,_,_⟩:=D.form;go_enter func118,ntmps118
 go_wp2_with (go_at_call 171;refine (F.out).mono ?_;rintro e w2 ⟨rfl,rfl⟩)
 go_ret;exact ⟨rfl,rfl⟩
attribute [local go_sem ↓] Go.wp_at_zero Go.wp_at_succ
theorem U9 (x y:Fc) (w:Wq) (Z:isSl x.es) (ha:isSl y.es) (hx:RStrs w x.p x.f.path) (hy:RStrs w y.p y.f.path) (hn:x.f.path.length<=16777216):
 Calls prog 70 #[.agg (cellsC x).toArray,.agg (cellsC y).toArray] w λe w'=>e= .returned (nI (feedCmp x.f y.f))/\∃q os,w'=grow (w.drewN q) os:=by
 have HP:=gd (λ(w':Wq) (h:Ext w w')=>Zcc x.p y.p x.f.path y.f.path w' (hx.ext h) (hy.ext h) hn);have HC:=gd (λw'=>VL x.f.id y.f.id w');have D:feedCmp x.f y.f=if pathCmp x.f.path y.f.path=0 then sCmp x.f.id y.f.id else pathCmp x.f.path y.f.path:=rfl
 obtain ⟨ci,J⟩:∃c,pathCmp x.f.path y.f.path=c:=⟨_,rfl⟩;obtain ⟨cs,K⟩:∃c,sCmp x.f.id y.f.id=c:=⟨_,rfl⟩;rw[J] at HP D;rw[K] at HC D;rw[D];have HO:=gd (λv w' h=>KN ci cs v w' h);obtain ⟨res,F⟩:∃res,(if ci=0 then cs else ci)=res:=⟨_,rfl⟩;rw[F] at HO;rw[F];clear J K D F;obtain ⟨px,ex,⟨H,hb,U,hd,hf,X⟩⟩:=x;obtain ⟨py,ey,⟨I,hc,V,he,hh,Y⟩⟩:=y;obtain ⟨A,c,R,_,_⟩:=hx.form;obtain ⟨B,d,S,_,_⟩:=hy.form;obtain ⟨A2,n2,c2,M⟩:=Z;obtain ⟨B2,m2,d2,Q⟩:=ha;simp only at R S M Q;subst R S M Q;clear hx hy;unfold cellsC fCells;dsimp only at*;go_enter func70,ntmps70;go_wp2
 go_region_held3 (λw'=>Ext w w'/\w'.cell? ⟨w.heap.size,0,none⟩=some (.slice A H.length c)/\w'.cell? ⟨w.heap.size,1,none⟩=some (.string hb)/\w'.cell? ⟨w.heap.size+1,0,none⟩=some (.slice B I.length d)/\w'.cell? ⟨w.heap.size+1,1,none⟩=some (.string hc))
  ((go_split_ands;refine ⟨?_,?_,?_,?_,?_⟩<;>first|assumption|((repeat (first|exact Ext.refl _|assumption|apply Ext.drew|apply Ext.alloc));done)|((refine Ext.trans ?_ (by assumption));(repeat (first|exact Ext.refl _|assumption|apply Ext.drew|apply Ext.alloc));done)|((refine Ext.cell (by assumption) ?_);first|assumption|(go_keep;done))|(go_keep;done)))
  (first|(go_at_call 118;refine (HP.out _ (by repeat (first|exact Ext.refl _|apply Ext.drew|apply Ext.alloc))).mono ?_;rintro e w1 ⟨rfl,rfl⟩)|(go_at_call 119;refine (HC.out _).mono ?_;rintro e w2 ⟨rfl,rfl⟩)|(go_at_call 117;refine (HO.out _ _ (Xo (e:=3) (fr:=(0,0)) (cs:= [nI ci,nI cs]) ?hg (by rfl) (by decide))).mono ?_;(case hg=>exact Jl w _ _ _);rintro e w3 ⟨rfl,rfl⟩))
 go_wp2;go_ret;exact ⟨rfl,1,_,by rw[alloc_eq_grow,alloc_eq_grow,alloc_eq_grow,grow_grow,grow_grow];rfl⟩
end
theorem Zez (p q es fs:Value) (a b:Fd) (w:Wq) (J:RStrs w p a.path) (K:RStrs w q b.path) (M:a.path.length<=16777216):
 Calls prog 41 #[.agg (fCells p es a).toArray,.agg (fCells q fs b).toArray] w λe w'=>e= .returned (nI (feedCmp a b))/\Ext w w':=by
 have F:=gd (λ(w':Wq) (h:Ext w w')=>X9 p q a.path b.path w' (J.ext h) (K.ext h) M);have I:=gd (λw'=>UY a.id b.id w');have A:feedCmp a b=if pathCmp a.path b.path=0 then sCmp a.id b.id else pathCmp a.path b.path:=rfl
 obtain ⟨c,H⟩:∃c,pathCmp a.path b.path=c:=⟨_,rfl⟩;rw[H] at F A;rw[A];clear H A;unfold fCells;go_enter func41,ntmps41
 go_wp2_with (first|(go_at_call 75;refine (F.out _ (((Ext.refl _).alloc _).alloc _)).mono ?_;rintro e w1 ⟨rfl,D⟩;(have s0:w1.cell? ⟨w.heap.size,1,none⟩=some (.string a.id):=(((Ext.refl _).alloc _).trans D).boxed 1 _ rfl);(have Q:w1.cell? ⟨w.heap.size+1,1,none⟩=some (.string b.id):=by have:=D.boxed 1 _ rfl;simpa using this))|(go_at_call 80;refine (I.out _).mono ?_;rintro e w2 ⟨rfl,rfl⟩))
 all_goals go_ret
 all_goals exact ⟨by simp_all,(((Ext.refl _).alloc _).alloc _).trans D⟩
section
variable {k:Nat}
theorem ZfS {l:List Fd} (D:k<l.length) (h:okAt okF ordF l k=false):okL okF ordF l=false:=by
 rw[Yx];intro A;have:=Yk.1 A k (XG.2 D);rw[h] at this;cases this
theorem ZhM {l:List Fd} (h:∀k,k<l.length->okAt okF ordF l k=true):okL okF ordF l=true:=
 Yk.2 λk A=>h k (XG.1 A)
theorem Za0 (v:Value) (l:List Fc) (w:Wq) (hr:RFcs w v l) (hW:∀x∈l,RdC w x) (hk:∀x∈l,fokS x.f) (hn:l.length<=1000000):
 Calls prog 16 #[.agg #[v]] w λe w'=>e= .returned (nI (if okA (l.map Fc.f)=true then 0 else 22))/\Ext w w':=by
 obtain ⟨xB,xd,rfl, -, -⟩:=hr.form;obtain ⟨R,hR⟩:∃R:Int,(if okA (l.map Fc.f)=true then 0 else 22)=R:=⟨_,rfl⟩;rw[hR];have hB:=gd hR;have hC:=gd hr;have hP:=gd hW;have hN:=gd hk;obtain ⟨L,hL⟩:∃L,l.map Fc.f=L:=⟨_,rfl⟩;have hT:L.length=l.length:=by rw[<-hL,Zk]
 have ho:=gd hT;have hz:Hid (∀(j:Nat) (h:j<l.length),L[j]'(by rw[hT];exact h)=l[j].f):=gd λj h=>by subst hL;rw[Xv]
 rw[hL] at hB;have hF:Hid (∀wr:Wq,Ext (w.alloc (.cells #[.slice xB l.length xd] 31)) wr->wr.cell? ⟨w.heap.size,0,none⟩=some (.slice xB l.length xd)):=gd λwr h=>h.boxed 0 _ rfl;have J:Hid (Ext w (w.alloc (.cells #[.slice xB l.length xd] 31))):=gd ((Ext.refl _).alloc _);clear hr hW hk hR hL;go_enter func16,ntmps16;go_wp2;obtain ⟨w3,hY⟩:∃w3,w.alloc (.cells #[.slice xB l.length xd] 31)=w3:=⟨_,rfl⟩;rw[hY] at hF J|-;have hg:=hF;clear hY hF;go_loopw [3] (λi wr=>∃k:Nat,k<=l.length/\i=nI k/\Hid (∀j,j<k->okAt okF ordF L j=true)/\Ext w3 wr) (λi _=>l.length - (intOf i).toNat)
 case atStart=>exact ⟨0,Zh _,rfl,gd (λj h=>by omega),Ext.refl _⟩
 case round=>
  obtain ⟨k,hk,rfl,hi,K⟩:=hrel;have h4:=hg.out wr K;by_cases hb:k<l.length
  ·have hX:=hC.out.ext (J.out.trans K);obtain ⟨ad,c1,e1,hw⟩:=hX.at hb;injection e1 with e1 e1' e1'';subst e1;clear e1' e1'' hX;have hl:k<L.length:=(by rw[ho.out];exact hb);have U:=gd (JZ (ok:=okF) (O:=ordF) hl);have hs:=hN.out _ (Zz hb);have ha:=(hP.out _ (Zz hb)).ext (J.out.trans K);have hd:Hid (okAt okF ordF L k=false->R=22):=gd λh=>(by rw[<-hB.out];unfold okA;rw[ZfS hl h];rfl);have hp:=hz.out k hb;obtain ⟨E,hE,hw,hs,ha,hp⟩:∃E,l[k]=E/\AtFc wr (ad.add (k*6)) E/\fokS E.f/\RdC wr E/\L[k]=E.f:=⟨_,rfl,hw,hs,ha,hp⟩;have HE:=gd hp;have Z:=gd hb;have Y:=gd hl;have A:=gd (λz:Aft wr=>Za2 E z.w (ha.ext z.ext) hs);have hZ:=gd ha;have h2:=gd ha.sl;have hM:=gd hw;have gc:(0:Int)<=(k:Int):=(by omega);have ge:(k:Int)<(l.length:Int):=(by omega);have B5:∀z:Aft wr,z.w.cell? ⟨w.heap.size,0,none⟩=some (.slice (some ad) l.length xd):=Aft.cell h4;clear hE hs hp ha;obtain ⟨EP,EE,EF⟩:=E;obtain ⟨⟨EA,EN,EC,hh⟩,⟨EB,EM,ED,Q⟩⟩:=h2.out;dsimp only at hh Q;subst hh Q;obtain ⟨k0,k1,k2,k3,k4,k5⟩:=hw;dsimp only at k0 k1 k2 k3 k4 k5;have A0:=λz:Aft wr=>Aft.cell k0 z;have A1:=λz:Aft wr=>Aft.cell k1 z;have A2:=λz:Aft wr=>Aft.cell k2 z;have A3:=λz:Aft wr=>Aft.cell k3 z;have A4:=λz:Aft wr=>Aft.cell k4 z;have A5:=λz:Aft wr=>Aft.cell k5 z;clear k0 k1 k2 k3 k4 k5;unfold cellsC fCells at A;dsimp only at A HE hM;cases hok:okF EF with
   |false=>
    have hR:=hd.out (by
     rw[Yx];intro h;have h1:=((U.out).1 h).1;rw[HE.out,hok] at h1;cases h1)
    subst hR;rw[hok] at A;clear hok;simp only[XN,Zco] at A;go_wp2;refine rA ?_
    repeat (first|go_big_quiet_step ((first|(go_at_call 40;with_reducible exact ZE (A.out _))))|quiet_step ((first|(go_at_call 40;with_reducible exact ZE (A.out _)))))
    refine Z5 ?_;rintro _ ⟨d1,rfl⟩;go_wp2;go_ret;exact ⟨rfl,J.out.trans (K.trans d1.ext)⟩
   |true=>
    have hO:=gd hok;rw[hok] at A;clear hok;simp only[QE] at A;rcases YP k with h0|hV
    ·subst h0;simp only[add_zero,Xf] at A0 A1 A2 A3 A4 A5;go_wp2;refine rA ?_
     repeat (first|go_big_quiet_step ((first|(go_at_call 40;with_reducible exact ZE (A.out _))))|quiet_step ((first|(go_at_call 40;with_reducible exact ZE (A.out _)))))
     refine Z5 ?_;rintro _ ⟨d1,rfl⟩;have X:=K.trans d1.ext;go_wp2;go_loopw [4] (λi wr=>∃j:Nat,j<=0/\i=nI j/\Ext d1.w wr) (λi _=>0 - (intOf i).toNat)
     case atStart=>exact ⟨0,Zh _,rfl,Ext.refl _⟩
     case round=>
      obtain ⟨j,hj,rfl,S⟩:=hrel;have hQ:=hg.out wr (X.trans S);by_cases hH:j<0
      ·exact absurd hH (Nat.not_lt_zero _)
      ·have hG:j=0:=(by omega);subst hG;have I:okAt okF ordF L 0=true:=(U.out).2 ⟨by rw[HE.out];exact hO.out,λh=>absurd h (Nat.lt_irrefl _),λt ht=>absurd ht (Nat.not_lt_zero _)⟩;have HG:=gd I;clear I;go_wp2;go_roundw
       case rel=>exact ⟨0+1,Z.out,by go_num,gd (λt ht=>by
        by_cases e:t=0
        ·rw[e];exact HG.out
        ·exact hi.out t (by omega)),X.trans S⟩
       case measure=>simp[intOf];have:=Z.out;omega
    ·obtain ⟨q,hq⟩:∃q,k=q+1:=⟨k - 1,by omega⟩;have hm:q<l.length:=(by have:=Z.out;omega);have gk:q<L.length:=(by rw[ho.out];exact hm);have hX:RFcs wr (.slice (some ad) l.length xd) l:=hC.out.ext (J.out.trans K);obtain ⟨af,c3,e3,hD⟩:=hX.at hm;injection e3 with e3 e3' e3'';injection e3 with e3;subst e3;clear e3' e3'' hX;have hf:=(hP.out _ (Zz hm)).ext (J.out.trans K);have hv:=hN.out _ (Zz hm);have hu:∀h:k - 1<L.length,L[k - 1]=l[q].f:=λh=>(by subst hq;exact hz.out q hm);obtain ⟨F,hD,hf,hv,hu⟩:∃F:Fc,AtFc wr (ad.add (q*6)) F/\RdC wr F/\fokS F.f/\(∀h:k - 1<L.length,L[k - 1]=F.f):=⟨_,hD,hf,hv,hu⟩;have he:=gd hu;have M:ordF.lt F.f EF=decide (feedCmp F.f EF<0):=rfl;have Q:=hZ.out.1;dsimp only at Q;have V:=gd (λz:Aft wr=>Zez F.p (.slice EA EN EC) F.es (.slice EB EM ED) F.f EF z.w (hf.1.ext z.ext) (Q.ext z.ext) (by have:=hv.1.2;omega));have ga:=hf.sl;obtain ⟨c,hc⟩:∃c,feedCmp F.f EF=c:=⟨_,rfl⟩;rw[hc] at M;simp only[hc] at V;clear hf hv hu hc Q;obtain ⟨FP,FE,FF⟩:=F;obtain ⟨⟨FA,FN,FC,hh⟩,⟨FB,FM,FD,Q⟩⟩:=ga;dsimp only at hh Q;subst hh Q;obtain ⟨k0,k1,k2,k3,k4,k5⟩:=hD;dsimp only at k0 k1 k2 k3 k4 k5 V M he;have C0:=λz:Aft wr=>Aft.cell k0 z;have C1:=λz:Aft wr=>Aft.cell k1 z;have C2:=λz:Aft wr=>Aft.cell k2 z;have C3:=λz:Aft wr=>Aft.cell k3 z;have C4:=λz:Aft wr=>Aft.cell k4 z;have C5:=λz:Aft wr=>Aft.cell k5 z;clear k0 k1 k2 k3 k4 k5;have gf:(0:Int)<(k:Int):=(by omega);have gh:wrap64 ((k:Int) - 1)=(q:Int):=(by rw[Uo _ ⟨by omega,by omega⟩];omega);have gg:(k:Int) - 1=(q:Int):=(by omega);have gi:(0:Int)<=(q:Int):=(by omega);have gj:(q:Int)<(l.length:Int):=(by omega);unfold fCells at V;by_cases hy:c<0
     ·have hA:Hid (∀h:0<k,ordF.lt (L[k - 1]'(XP (Jk _ _) Y.out)) (L[k]'Y.out)=true):=gd (λh=>by rw[he.out (XP (Jk _ _) Y.out),HE.out,M];exact YJ hy);have h6:¬(0:Int)<=c:=(by omega);clear M hq he;go_wp2;refine rA ?_
      repeat (first|go_big_quiet_step ((first|(go_at_call 40;with_reducible exact ZE (A.out _))|(go_at_call 41;with_reducible exact ZE (V.out _))))|quiet_step ((first|(go_at_call 40;with_reducible exact ZE (A.out _))|(go_at_call 41;with_reducible exact ZE (V.out _)))))
      refine Z5 ?_;rintro _ ⟨d1,rfl⟩;have X:=K.trans d1.ext;go_wp2;go_loopw [4] (λi wr=>∃j:Nat,j<=k/\i=nI j/\Hid (∀t (h:t<L.length),t<j->L[t].id≠EF.id)/\Ext d1.w wr) (λi _=>k - (intOf i).toNat)
      case atStart=>exact ⟨0,Zh _,rfl,gd (λt _ h=>by omega),Ext.refl _⟩
      case round=>
       obtain ⟨j,hj,rfl,hJ,S⟩:=hrel;have hQ:=hg.out wr (X.trans S);have hx:=Z.out;by_cases hH:j<k
       ·have hI:j<l.length:=(by omega);have h7:j<L.length:=(by rw[ho.out];exact hI);have hX:RFcs wr (.slice (some ad) l.length xd) l:=hC.out.ext (J.out.trans (X.trans S));obtain ⟨ae,c2,e2,hU⟩:=hX.at hI;injection e2 with e2 e2' e2'';injection e2 with e2;subst e2;clear e2' e2'' hX;have hS:=hz.out j hI;have H:L[j].id≠EF.id->∀t (h:t<L.length),t<j+1->L[t].id≠EF.id:=λh9 t h ht=>by
         by_cases e:t=j
         ·subst e;exact h9
         ·exact hJ.out t h (by omega)
        have D:L[j].id=EF.id->R=22:=λe=>(by refine hd.out ?_;rw[Yx];intro h;exact ((U.out).1 h).2.2 j hH (by rw[HE.out];exact e));rw[hS] at H D;have q0:=hU.c1;have p0:=(hM.out.ext (d1.ext.trans S)).c1;dsimp only at p0;obtain ⟨y,gb⟩:∃y,l[j].f.id=y:=⟨_,rfl⟩;rw[gb] at H D q0;obtain ⟨z,hK⟩:∃z,EF.id=z:=⟨_,rfl⟩;simp only[hK] at H D p0 hJ|-;have HZ:=gd hK;clear hK hU hS h7;have B5:∀z:Aft wr,z.w.cell? ⟨w.heap.size,0,none⟩=some (.slice (some ad) l.length xd):=Aft.cell hQ;have Q0:∀z:Aft wr,z.w.cell? ⟨(ad.add (j*6)).block,(ad.add (j*6)).off+1,none⟩=some (.string y):=Aft.cell q0;have P0:∀u:Aft wr,u.w.cell? ⟨(ad.add (k*6)).block,(ad.add (k*6)).off+1,none⟩=some (.string z):=Aft.cell p0;have j0:(0:Int)<=(j:Int):=(by omega);have j1:(j:Int)<(l.length:Int):=(by omega);have j2:(j:Int)<(k:Int):=(by omega);clear q0 p0 hx;cases hyz:(y.toList==z.toList) with
        |true=>
         have hR:=D (toList_inj (by simpa using hyz));subst hR;clear D H;go_wp2;refine rA ?_
         repeat (first|go_big_quiet_step (fail)|quiet_step (fail))
         refine Z5 ?_;rintro _ ⟨d2,rfl⟩;go_wp2;go_ret;exact ⟨rfl,J.out.trans ((X.trans S).trans d2.ext)⟩
        |false=>
         have h3:=gd (H (λe=>by rw[e] at hyz;simp at hyz));clear D H;go_wp2;refine rA ?_
         repeat (first|go_big_quiet_step (fail)|quiet_step (fail))
         refine Z5 ?_;rintro _ ⟨d2,rfl⟩;go_wp2;go_roundw
         case rel=>exact ⟨j+1,by omega,by go_num,h3,S.trans d2.ext⟩
         case measure=>simp[intOf];omega
       ·have hG:j=k:=(by omega);subst hG;have I:okAt okF ordF L j=true:=(by refine (U.out).2 ⟨by rw[HE.out];exact hO.out,hA.out,λt ht=> ?_⟩;rw[HE.out];exact hJ.out t (by have:=Y.out;omega) ht);have HG:=gd I;clear I hx;go_wp2;go_roundw
        case rel=>exact ⟨j+1,Z.out,by go_num,gd (λt ht=>by
         by_cases e:t=j
         ·rw[e];exact HG.out
         ·exact hi.out t (by omega)),X.trans S⟩
        case measure=>simp[intOf];have:=Z.out;omega
     ·have hR:=hd.out (by
       rw[Yx];intro h;have h1:=((U.out).1 h).2.1 hV;rw[he.out (XP (Jk _ _) Y.out),HE.out,M] at h1;exact hy (YG h1))
      subst hR;have h6:(0:Int)<=c:=(by omega);clear M hq he;go_wp2;refine rA ?_
      repeat (first|go_big_quiet_step ((first|(go_at_call 40;with_reducible exact ZE (A.out _))|(go_at_call 41;with_reducible exact ZE (V.out _))))|quiet_step ((first|(go_at_call 40;with_reducible exact ZE (A.out _))|(go_at_call 41;with_reducible exact ZE (V.out _)))))
      refine Z5 ?_;rintro _ ⟨d1,rfl⟩;go_wp2;go_ret;exact ⟨rfl,J.out.trans (K.trans d1.ext)⟩
  ·have h8:k=l.length:=(by omega);subst h8;have h5:R=0:=(by rw[<-hB.out];unfold okA;rw[ZhM (λj hj=>hi.out j (by rw[<-ho.out];exact hj))];rfl);subst h5;go_wp2;go_ret;exact ⟨rfl,J.out.trans K⟩
end
end Go.Proofs.YtnlafkgkcnenfaaGreatDoor
