/- Parts of the proof: contracts and plain laws. -/
import Derived.Test.YtnlafkgkcnenfaaGreatDoorU12
namespace Go.Proofs.YtnlafkgkcnenfaaGreatDoor
open Go Go.RowKit Go.WideMaps Go.Maps Go.Sort _root_.Go.Proofs.Tryz
set_option linter.unusedVariables false
set_option linter.unusedSimpArgs false
set_option maxRecDepth 100000
set_option maxHeartbeats 16000000
section
variable {P:Program} {e:TypeId} {k n:Nat} {v:Value} {w:World} {α κ:Type}
def SeenMap (D:DataW Unit) (p:ByteArray->Bool):Prop:=
 IsMap D/\∀s:ByteArray,D.atKey (.string s.data.toList) (.lit (.bool false))= .lit (.bool (p s))
theorem SeenMap.nil:SeenMap (.map []) (λ_=>false):=⟨isMap_empty,λ_=>rfl⟩
theorem SeenMap.put {D:DataW Unit} {p q:ByteArray->Bool} {s:ByteArray} (h:SeenMap D p) (H:∀t,q t=(p t||decide (s=t))):SeenMap (D.put (.string s.data.toList) (.lit (.bool true))) q:=by
 refine ⟨h.1.put _ _,λt=> ?_⟩;rw[H];by_cases e:s=t
 ·subst e;rw[atKey_put_same h.1 (K3 _)];simp
 ·have F:(Lit.string t.data.toList)≠ .string s.data.toList:=by intro A;injection A with A;exact e (JA A).symm
  rw[atKey_put_other F,h.2 t];simp[e]
theorem K8 (A:P.underlying e=some .bool) {z:DataW Unit×List MemPlace} (h:plainElem P e v=some z):∃b:Bool,v= .bool b/\z=(.lit (.bool b),[]):=by
 unfold plainElem at h;rw[A] at h;cases v<;>simp at h;exact ⟨_,rfl,h.symm⟩
theorem Zn7 (w:Wq):(zeroValue 4).run prog w= .ok (.bool false) w:=by kernel_rfl
theorem Zak {b:Nat} {D:DataW Unit} {p:ByteArray->Bool} {s:ByteArray} (F:w.ownsMap prog 9 (plainElem prog 4) b n D) (h:SeenMap D p) (H:s.size<=maxLen):
 (Instr.lookup 183 (.map (some b)) (.string s) false).run prog w= .ok (.bool (p s)) w:=by
 obtain ⟨v,ps,A,I⟩:=F.lookup UT underlying183 (Zn7 w) (plainElem_bool underlying4 false) (keyOf_string_mk underlying9 H);obtain ⟨c,rfl,hc⟩:=K8 underlying4 I;rw[h.2 s] at hc;simp only[Prod.mk.injEq,DataW.lit.injEq,Lit.bool.injEq] at hc;rw[A,hc.1]
theorem Zcy [DecidableEq κ] {ok:α->Bool} {O:Ord α κ} {l:List α} (D:k<l.length) (h:okAt ok O l k=false):okL ok O l=false:=by
 rw[Yv];intro A;have:=Z6.1 A k (Ub.2 D);rw[h] at this;cases this
theorem Zex [DecidableEq κ] {ok:α->Bool} {O:Ord α κ} {l:List α} (h:∀k,k<l.length->okAt ok O l k=true):okL ok O l=true:=
 Z6.2 λk A=>h k (Ub.1 A)
theorem Gh {l:List α} {id:α->ByteArray} {s:ByteArray} (h:(l.take k).any (λx=>decide (id x=s))=false):∀j (A:j<l.length),j<k->id l[j]≠s:=λj A D e=>by
 rw[List.any_eq_false] at h;exact h l[j] (List.mem_take_iff_getElem.2 ⟨j,om,rfl⟩) (by simpa using e)
theorem Kl {l:List α} {id:α->ByteArray} {s:ByteArray} (h:(l.take k).any (λx=>decide (id x=s))=true):∃j,∃D:j<l.length,j<k/\id l[j]=s:=by
 rw[Xm] at h;obtain ⟨x,F,A⟩:=h;obtain ⟨j,D,rfl⟩:=List.mem_take_iff_getElem.1 F;exact ⟨j,om,om,by simpa using A⟩
theorem Zfx (v:Value) (l:List Ent) (w:Wq) (hE:Env w) (h:REnts w v l) (hs:∀x∈l,eokS x) (hn:l.length<=1000000):
 Calls prog 131 #[v,.func (.func 132) #[] #[],.func (.func 114) #[] #[],.func (.func 129) #[] #[]] w λe w'=>e= .returned (.bool (okL okE ordE l))/\Ext w w':=by
 obtain ⟨A,c,rfl, -, -⟩:=h.form;have gf:= @run_makeMap prog;obtain ⟨R,hR⟩:∃R,okL okE ordE l=R:=⟨_,rfl⟩;rw[hR];have HR:=gd hR;have HS:=gd hs;have HH:=gd h;have hW:=gd hE;clear hR hs h hE;go_enter func131,ntmps131;go_wp2;go_loopw [15] (λi wr=>∃(k:Nat) (D:DataW Unit),k<=l.length/\i=nI k/\wr.ownsMap prog 9 (plainElem prog 4) w.heap.size k D/\Hid (SeenMap D (λs=>(l.take k).any (λe=>decide (e.id=s))))/\Hid (∀j,j<k->okAt okE ordE l j=true)/\Ext w wr) (λi _=>l.length - (intOf i).toNat)
 case atStart=>exact ⟨0,.map [],Zj _,rfl,World.ownsMap_made _ _ _ _,gd SeenMap.nil,gd (λj h=>by omega),(Ext.refl _).alloc _⟩
 case round=>
  obtain ⟨k,D,hk,rfl,hM,hD,ho,K⟩:=hrel;by_cases hf:k<l.length
  ·obtain ⟨ad,c1,e1,hI⟩:=(REnts.ext HH.out K).at hf;injection e1 with e1 e1' e1'';subst e1;clear e1' e1'';have hA:l[k]∈l:=ZL hf;have hr:=HS.out _ hA;have hU:=Zr hf;have hd:=Ui (ok:=okE) (O:=ordE) hf;have hb:∃b,(l.take k).any (λe=>decide (e.id=l[k].id))=b:=⟨_,rfl⟩;obtain ⟨b,hb⟩:=hb;have hJ:b=false->∀j (hj:j<k),ordE.id l[j]≠ordE.id l[k]:=λe j hj=>Gh (id:=Ent.id) (hb.trans e) j om hj;have hS:b=true->okAt okE ordE l k=false:=λe=>(by rw[Yv];intro h;obtain ⟨j,hj,h3,he⟩:=Kl (id:=Ent.id) (hb.trans e);exact (hd.1 h).2.2 j h3 he);have Y:Hid (okAt okE ordE l k=false->R=false):=gd λh=>(by rw[<-HR.out];exact Zcy hf h);have ha:Hid (SeenMap (D.put (.string l[k].id.data.toList) (.lit (.bool true))) (λs=>(l.take (k+1)).any (λe=>decide (e.id=s)))):=gd (hD.out.put λt=>by rw[hU,List.any_append];simp);obtain ⟨E,hY⟩:∃E,l[k]=E:=⟨_,rfl⟩;rw[hY] at hI hr hb ha hd hJ;have Z:=gd hd;have hN:=gd hJ;have hO:=gd hS;have hz:keyOf prog 9 (.string E.id)=some (.string E.id.data.toList):=keyOf_string_mk underlying9 (by have:=hr.1;unfold maxLen;omega);have h5:E.id.size<=maxLen:=(by have:=hr.1;unfold maxLen;omega);have hg:=gd hz;have HM:=gd hM;have V:=gd hf;clear hd hJ hS hU hA hz;obtain ⟨W1,hw⟩:∃W1,wr.alloc (.cells (eCells E).toArray 76)=W1:=⟨_,rfl⟩;have hy:Ext wr W1:=(by rw[<-hw];exact (Ext.refl _).alloc _);have hu:=λz:Aft W1=>Zak (hM.kept ((hy.trans z.ext).grown none) (by simp)) hD.out h5;simp only[hb] at hu;have H:=gd (λz:Aft W1=>Zha E z.w (hW.out.ext (K.trans (hy.trans z.ext))) hr);have I:=gd (λz:Wq=>Zi4 E z);have hx:W1.heap[wr.heap.size]? =some (.cells (eCells E).toArray 76):=(by rw[<-hw];exact Zg _ _);have U:=gd hy;have h8:(0:Int)<=(k:Int):=om;have ga:(k:Int)<(l.length:Int):=om;have hP:Hid (k<maxLen):=gd (by unfold maxLen;omega);clear hy hM hb;obtain ⟨id,title,link,content,upd⟩:=E;unfold eCells at hw hx H I;dsimp only at hw hx H I hI hu ha hg;obtain ⟨b0,b1,b2,b3,b4⟩:=Zo4 hx;obtain ⟨a0,a1,a2,a3,a4⟩:=hI;have B0:=λz:Aft W1=>Aft.cell b0 z;have B1:=λz:Aft W1=>Aft.cell b1 z;have B2:=λz:Aft W1=>Aft.cell b2 z;have B3:=λz:Aft W1=>Aft.cell b3 z;have B4:=λz:Aft W1=>Aft.cell b4 z;clear b0 b1 b2 b3 b4 hx;dsimp only at a0 a1 a2 a3 a4;cases hok:okE ⟨id,title,link,content,upd⟩ with
   |false=>
    have hR:=Y.out (by
     rw[Yv];intro h;have h1:=(Z.out.1 h).1;rw[hok] at h1;cases h1)
    subst hR;rw[hok] at H;clear hok;simp only[YR,U4] at H;go_wp2;refine rA ?_
    repeat (first|go_big_quiet_step ((first|(go_at_call 132;with_reducible exact ZE (H.out _))|(go_at_call 129;with_reducible exact ZE (I.out _))))|quiet_step ((first|(go_at_call 132;with_reducible exact ZE (H.out _))|(go_at_call 129;with_reducible exact ZE (I.out _)))))
    refine Z9 ?_;rintro _ ⟨J,rfl⟩;go_wp2;go_ret;exact ⟨rfl,K.trans (U.out.trans J.ext)⟩
   |true=>
    have hQ:=gd hok;rw[hok] at H;clear hok;simp only[Us] at H;rcases YL k with h0|hT
    ·cases b with
     |true=>
      have hR:=Y.out (hO.out rfl);subst hR;subst h0;simp only[Xj,add_zero] at a0 a1 a2 a3 a4;go_wp2;refine rA ?_
      repeat (first|go_big_quiet_step ((first|(go_at_call 132;with_reducible exact ZE (H.out _))|(go_at_call 129;with_reducible exact ZE (I.out _))))|quiet_step ((first|(go_at_call 132;with_reducible exact ZE (H.out _))|(go_at_call 129;with_reducible exact ZE (I.out _)))))
      refine Z9 ?_;rintro _ ⟨J,rfl⟩;go_wp2;go_ret;exact ⟨rfl,K.trans (U.out.trans J.ext)⟩
     |false=>
      have X:=gd (Z.out.2 ⟨hQ.out,λh=>absurd h om,hN.out rfl⟩);subst h0;simp only[Xj,add_zero] at a0 a1 a2 a3 a4;go_wp2;refine rA ?_
      repeat (first|go_big_quiet_step ((first|(go_at_call 132;with_reducible exact ZE (H.out _))|(go_at_call 129;with_reducible exact ZE (I.out _))))|quiet_step ((first|(go_at_call 132;with_reducible exact ZE (H.out _))|(go_at_call 129;with_reducible exact ZE (I.out _)))))
      refine Z9 ?_;rintro _ ⟨J,rfl⟩;have hC:=gd (HM.out.kept ((U.out.trans J.ext).grown none) (by simp));have hG:=gd (K.trans (U.out.trans J.ext));have D0:=B0 J;have D1:=B1 J;have D2:=B2 J;have D3:=B3 J;have D4:=B4 J;clear B0 B1 B2 B3 B4 hu
      go_wp2_with (first|(go_at_call 129;refine Za (I.out _) ?_;rintro e w2 ⟨rfl,hp⟩)|(at_mapUpdate;(refine UC _ rfl (.tmp 46) (.tmp 49) (.const (.bool true)) 183 rfl 9 4 UT underlying183 _ w.heap.size 0 D rfl (hC.out.kept (hp.grown none) (by simp)) hP.out _ _ _ rfl rfl hg.out _ [] (plainElem_bool underlying4 true) ?_);intro w5 hl hm))
      have hK:Ext w w5:=Ext.grown' (B:=0) (hG.out.trans hp) hm (λb hb=>by cases hb;exact Zc _);have hF:=gd hl;clear hl hm;go_roundw
      case rel=>exact ⟨0+1,_,V.out,by go_num,hF.out,ha,gd (λt ht=>by
       by_cases e:t=0
       ·rw[e];exact X.out
       ·exact ho.out t om),hK⟩
      case measure=>simp[intOf];have:=V.out;omega
    ·obtain ⟨q,hq⟩:∃q,k=q+1:=⟨k - 1,om⟩;have h6:q<l.length:=(by have:=V.out;omega);obtain ⟨af,c3,e3,hH⟩:=(REnts.ext HH.out (K.trans U.out)).at h6;injection e3 with e3 e3' e3'';injection e3 with e3;subst e3;clear e3' e3'';have hv:l[k - 1]'(X5 (Jz _ _) V.out)=l[q]:=(by subst hq;rfl);obtain ⟨F,hH,hv⟩:∃F:Ent,AtEnt W1 (ad.add (q*5)) F/\l[k - 1]'(X5 (Jz _ _) V.out)=F:=⟨_,hH,hv⟩;have hh:=gd hv;have Q:ordE.lt F ⟨id,title,link,content,upd⟩=decide (entCmp F ⟨id,title,link,content,upd⟩<0):=rfl;have S:=gd (λz:Aft W1=>KO F ⟨id,title,link,content,upd⟩ z.w);obtain ⟨cc,hc⟩:∃cc,entCmp F ⟨id,title,link,content,upd⟩=cc:=⟨_,rfl⟩;rw[hc] at Q;simp only[hc] at S;clear hv hc;obtain ⟨h9,hV,hX,hL,h7⟩:=F;obtain ⟨k0,k1,k2,k3,k4⟩:=hH;dsimp only at k0 k1 k2 k3 k4;have C0:=λz:Aft W1=>Aft.cell k0 z;have C1:=λz:Aft W1=>Aft.cell k1 z;have C2:=λz:Aft W1=>Aft.cell k2 z;have C3:=λz:Aft W1=>Aft.cell k3 z;have C4:=λz:Aft W1=>Aft.cell k4 z;clear k0 k1 k2 k3 k4;have gb:(0:Int)<(k:Int):=om;have ge:wrap64 ((k:Int) - 1)=(q:Int):=(by rw[Q6 _ ⟨om,om⟩];omega);have gc:(k:Int) - 1=(q:Int):=om;have gg:(0:Int)<=(q:Int):=om;have gh:(q:Int)<(l.length:Int):=om;unfold eCells at S;dsimp only at S;by_cases hB:cc<0
     ·have hi:Hid (∀h:0<k,ordE.lt (l[k - 1]'(X5 (Jz _ _) V.out)) ⟨id,title,link,content,upd⟩=true):=gd (λh=>by rw[hh.out,Q];exact YG hB);have h2:¬(0:Int)<=cc:=om;cases b with
      |true=>
       have hR:=Y.out (hO.out rfl);subst hR;clear Q hq hh;go_wp2;refine rA ?_
       repeat (first|go_big_quiet_step ((first|(go_at_call 132;with_reducible exact ZE (H.out _))|(go_at_call 114;with_reducible exact ZE (S.out _))|(go_at_call 129;with_reducible exact ZE (I.out _))))|quiet_step ((first|(go_at_call 132;with_reducible exact ZE (H.out _))|(go_at_call 114;with_reducible exact ZE (S.out _))|(go_at_call 129;with_reducible exact ZE (I.out _)))))
       refine Z9 ?_;rintro _ ⟨J,rfl⟩;go_wp2;go_ret;exact ⟨rfl,K.trans (U.out.trans J.ext)⟩
      |false=>
       have X:=gd (Z.out.2 ⟨hQ.out,hi.out,hN.out rfl⟩);clear Q hq hh hi;go_wp2;refine rA ?_
       repeat (first|go_big_quiet_step ((first|(go_at_call 132;with_reducible exact ZE (H.out _))|(go_at_call 114;with_reducible exact ZE (S.out _))|(go_at_call 129;with_reducible exact ZE (I.out _))))|quiet_step ((first|(go_at_call 132;with_reducible exact ZE (H.out _))|(go_at_call 114;with_reducible exact ZE (S.out _))|(go_at_call 129;with_reducible exact ZE (I.out _)))))
       refine Z9 ?_;rintro _ ⟨J,rfl⟩;have hC:=gd (HM.out.kept ((U.out.trans J.ext).grown none) (by simp));have hG:=gd (K.trans (U.out.trans J.ext));have D0:=B0 J;have D1:=B1 J;have D2:=B2 J;have D3:=B3 J;have D4:=B4 J;clear B0 B1 B2 B3 B4 hu
       go_wp2_with (first|(go_at_call 129;refine Za (I.out _) ?_;rintro e w2 ⟨rfl,hp⟩)|(at_mapUpdate;(refine UC _ rfl (.tmp 46) (.tmp 49) (.const (.bool true)) 183 rfl 9 4 UT underlying183 _ w.heap.size k D rfl (hC.out.kept (hp.grown none) (by simp)) hP.out _ _ _ rfl rfl hg.out _ [] (plainElem_bool underlying4 true) ?_);intro w5 hl hm))
       have hK:Ext w w5:=Ext.grown' (B:=0) (hG.out.trans hp) hm (λb hb=>by cases hb;exact Zc _);have hF:=gd hl;clear hl hm;go_roundw
       case rel=>exact ⟨k+1,_,V.out,by go_num,hF.out,ha,gd (λt ht=>by
        by_cases e:t=k
        ·rw[e];exact X.out
        ·exact ho.out t om),hK⟩
       case measure=>simp[intOf];have:=V.out;omega
     ·have hR:=Y.out (by
       rw[Yv];intro h;have h1:=(Z.out.1 h).2.1 hT;rw[hh.out,Q] at h1;exact hB (YK h1))
      subst hR;have h2:(0:Int)<=cc:=om;clear Q hq hh;go_wp2;refine rA ?_
      repeat (first|go_big_quiet_step ((first|(go_at_call 132;with_reducible exact ZE (H.out _))|(go_at_call 114;with_reducible exact ZE (S.out _))|(go_at_call 129;with_reducible exact ZE (I.out _))))|quiet_step ((first|(go_at_call 132;with_reducible exact ZE (H.out _))|(go_at_call 114;with_reducible exact ZE (S.out _))|(go_at_call 129;with_reducible exact ZE (I.out _)))))
      refine Z9 ?_;rintro _ ⟨J,rfl⟩;go_wp2;go_ret;exact ⟨rfl,K.trans (U.out.trans J.ext)⟩
  ·have h4:k=l.length:=om;subst h4;have hZ:R=true:=(by rw[<-HR.out];exact Zex ho.out);subst hZ;go_wp2;go_ret;exact ⟨rfl,K⟩
end
theorem ZiP (v:Value) (x:ByteArray) (l:List ByteArray) (w:Wq) (h:RStrs w v l) (hn:l.length<=16777216):
 Calls prog 151 #[v,.string x] w λe w'=>(∃i:Int,e= .returned (nI i)/\(((l.any λs=>decide (s=x))=true/\0<=i)\/((l.any λs=>decide (s=x))=false/\i<0)))/\w=w':=by
 obtain ⟨A,c,rfl, -, -⟩:=h.form;obtain ⟨R,X⟩:∃R,(l.any λs=>decide (s=x))=R:=⟨_,rfl⟩;rw[X];have HR:=gd X;have HH:=gd h;clear X h;go_enter func151,ntmps151;go_wp2;go_loopw [8] (λi wr=>∃k:Nat,k<=l.length/\i=nI k/\Hid (∀s∈l.take k,s≠x)/\w=wr) (λi _=>l.length - (intOf i).toNat)
 case atStart=>exact ⟨0,Zj _,rfl,gd (by simp),rfl⟩
 case round=>
  obtain ⟨k,hk,rfl,H,rfl⟩:=hrel;by_cases F:k<l.length
  ·obtain ⟨ad,c1,e1,hc⟩:=(HH.out).at F;injection e1 with e1 e1' e1'';subst e1;clear e1' e1'';have I:l[k]∈l:=ZL F;have K:=Zr F;have D:l[k]=x->R=true:=λh=>(by rw[<-HR.out,Xm];exact ⟨_,I,by simpa using h⟩);obtain ⟨p,S⟩:∃p,l[k]=p:=⟨_,rfl⟩;rw[S] at hc K D;have V:=gd K;have Q:(0:Int)<=(k:Int):=om;have hb:(k:Int)<(l.length:Int):=om;clear S I K;cases hyz:(x.toList==p.toList) with
   |true=>have Z:=D (toList_inj (by simpa using hyz)).symm;subst Z;clear D;go_wp2;go_ret;exact ⟨⟨_,rfl,Q⟩,rfl⟩
   |false=>
    have U:=gd (show p≠x from λe=>by rw[e] at hyz;simp at hyz);clear D;go_wp2;go_roundw
    case rel=>exact ⟨k+1,F,by go_num,gd (λs J=>by
     rw[V.out] at J;rcases Zs.1 J with J|J
     ·exact H.out s J
     ·rw[Zo.1 J];exact U.out),(by first|trivial|rfl)⟩
    case measure=>simp[intOf];omega
  ·have ha:k=l.length:=om;subst ha;have hi:=H.out;rw[ZQ (Zc _)] at hi;have Y:R=false:=(by rw[<-HR.out,List.any_eq_false];intro s J;simpa using hi s J);subst Y;clear hi;go_wp2;go_ret;exact ⟨⟨_,rfl,om⟩,rfl⟩
theorem JB (v:Value) (x:ByteArray) (l:List ByteArray) (w:Wq) (h:RStrs w v l) (I:l.length<=16777216):
 Calls prog 104 #[v,.string x] w λe w'=>e= .returned (.bool (l.any λs=>decide (s=x)))/\w=w':=by
 have D:=gd (ZiP v x l w h I);obtain ⟨A,c,rfl, -, -⟩:=h.form;obtain ⟨R,F⟩:∃R,(l.any λs=>decide (s=x))=R:=⟨_,rfl⟩;simp only[F] at D|-;clear h F;go_enter func104,ntmps104
 go_wp2_with (first|(go_at_call 151;refine Za (D.out) ?_;rintro e J ⟨⟨i,rfl,H⟩,rfl⟩))
 go_ret;rcases H with ⟨rfl,h⟩|⟨rfl,h⟩
 ·exact ⟨by simp[h],rfl⟩
 ·exact ⟨by simp;omega,rfl⟩
theorem Zlk (x:Fc) (w:Wq) (R:Env w) (U:RdC w x) (S:fokS x.f) (Q:¬x.f.path.length<=64):
 Calls prog 87 #[.agg (cellsC x).toArray] w λe w'=>e= .returned (nI 22)/\Ext w w':=by
 obtain ⟨⟨z0,Y⟩,z2,z3⟩:=S;have K:=gd (λw'=>XY (false) w');obtain ⟨xp,V,⟨h,X,F,I,J,H⟩⟩:=x;obtain ⟨A,D⟩:=U;dsimp only at*;obtain ⟨xA,xc,rfl, -, -⟩:=A.form;obtain ⟨xB,xd,rfl, -, -⟩:=D.form;have hb:¬(h.length:Int)<=64:=om
 clear A D z0 Y z2 z3 R Q;unfold cellsC fCells;dsimp only;go_enter func87,ntmps87
 go_wp2_with (first|(go_at_call 85;refine Za (K.out _) ?_;rintro Z w9 ⟨rfl,rfl⟩))
 all_goals go_ret
 all_goals exact ⟨rfl,(Ext.refl _).alloc _⟩
theorem Zll (x:Fc) (w:Wq) (V:Env w) (Q:RdC w x) (X:fokS x.f) (U:x.f.path.length<=64) (c0:(x.f.path.any λs=>decide (s=⟨#[]⟩))=true):
 Calls prog 87 #[.agg (cellsC x).toArray] w λe w'=>e= .returned (nI 22)/\Ext w w':=by
 obtain ⟨⟨z0,z1⟩,z2,z3⟩:=X;have D:=gd (λ(w':Wq) (h:Ext w w')=>JB x.p ⟨#[]⟩ x.f.path w' (Q.1.ext h) om);rw[c0] at D;have S:=gd (λw'=>XY (false) w');obtain ⟨xp,Y,⟨A,Z,I,K,R,J⟩⟩:=x;obtain ⟨F,H⟩:=Q;dsimp only at*;obtain ⟨xA,xc,rfl, -, -⟩:=F.form;obtain ⟨xB,xd,rfl, -, -⟩:=H.form;have hb:(A.length:Int)<=64:=om
 clear F H z0 z1 z2 z3 V U c0;unfold cellsC fCells;dsimp only;go_enter func87,ntmps87
 go_wp2_with (first|(go_at_call 104;refine Za (D.out _ ((Ext.refl w).alloc _)) ?_;rintro e3 w3 ⟨rfl,rfl⟩)|(go_at_call 85;refine Za (S.out _) ?_;rintro e9 w9 ⟨rfl,rfl⟩))
 all_goals go_ret
 all_goals exact ⟨rfl,(Ext.refl _).alloc _⟩
theorem Zlm (x:Fc) (w:Wq) (U:Env w) (Q:RdC w x) (Z:fokS x.f) (Y:x.f.path.length<=64) (c0:(x.f.path.any λs=>decide (s=⟨#[]⟩))=false) (v0:x.f.path.all validS=false):
 Calls prog 87 #[.agg (cellsC x).toArray] w λe w'=>e= .returned (nI 22)/\Ext w w':=by
 obtain ⟨⟨z0,z1⟩,z2,z3⟩:=Z;have F:=gd (λ(w':Wq) (h:Ext w w')=>JB x.p ⟨#[]⟩ x.f.path w' (Q.1.ext h) om);rw[c0] at F;have H:=gd (λ(w':Wq) (h:Ext w w')=>UO x.p x.f.path w' (U.ext h) (Q.1.ext h) (λs hs=>by have:=XZ hs;omega) om);rw[v0] at H;have X:=gd (λw'=>XY (false) w');obtain ⟨xp,ha,⟨D,hc,K,S,V,R⟩⟩:=x;obtain ⟨I,J⟩:=Q;dsimp only at*;obtain ⟨xA,xc,rfl, -, -⟩:=I.form;obtain ⟨xB,xd,rfl, -, -⟩:=J.form;have hb:(D.length:Int)<=64:=om
 clear I J z0 z1 z2 z3 U Y c0 v0;unfold cellsC fCells;dsimp only;go_enter func87,ntmps87
 go_wp2_with (first|(go_at_call 104;refine Za (F.out _ ((Ext.refl w).alloc _)) ?_;rintro e3 w3 ⟨rfl,rfl⟩)|(go_at_call 128;refine Za (H.out _ ((Ext.refl w).alloc _)) ?_;rintro e4 w4 ⟨rfl,A⟩;have k1:=A.boxed 1 _ rfl;have k2:=A.boxed 2 _ rfl;have k3:=A.boxed 3 _ rfl;have k4:=A.boxed 4 _ rfl)|(go_at_call 85;refine Za (X.out _) ?_;rintro e9 w9 ⟨rfl,rfl⟩))
 all_goals go_ret
 all_goals exact ⟨rfl,((Ext.refl _).alloc _).trans A⟩
theorem Zln (x:Fc) (w:Wq) (U:Env w) (Q:RdC w x) (Z:fokS x.f) (Y:x.f.path.length<=64) (c0:(x.f.path.any λs=>decide (s=⟨#[]⟩))=false) (v0:x.f.path.all validS=true) (i0:x.f.id.toList.isEmpty=true):
 Calls prog 87 #[.agg (cellsC x).toArray] w λe w'=>e= .returned (nI 22)/\Ext w w':=by
 obtain ⟨⟨z0,z1⟩,z2,z3⟩:=Z;have F:=gd (λ(w':Wq) (h:Ext w w')=>JB x.p ⟨#[]⟩ x.f.path w' (Q.1.ext h) om);rw[c0] at F;have H:=gd (λ(w':Wq) (h:Ext w w')=>UO x.p x.f.path w' (U.ext h) (Q.1.ext h) (λs hs=>by have:=XZ hs;omega) om);rw[v0] at H;have X:=gd (λw'=>XY (false) w');obtain ⟨xp,ha,⟨D,hc,K,S,V,R⟩⟩:=x;obtain ⟨I,J⟩:=Q;dsimp only at*;obtain ⟨xA,xc,rfl, -, -⟩:=I.form;obtain ⟨xB,xd,rfl, -, -⟩:=J.form;have hb:(D.length:Int)<=64:=om
 clear I J z0 z1 z2 z3 U Y c0 v0;unfold cellsC fCells;dsimp only;go_enter func87,ntmps87
 go_wp2_with (first|(go_at_call 104;refine Za (F.out _ ((Ext.refl w).alloc _)) ?_;rintro e3 w3 ⟨rfl,rfl⟩)|(go_at_call 128;refine Za (H.out _ ((Ext.refl w).alloc _)) ?_;rintro e4 w4 ⟨rfl,A⟩;have k1:=A.boxed 1 _ rfl;have k2:=A.boxed 2 _ rfl;have k3:=A.boxed 3 _ rfl;have k4:=A.boxed 4 _ rfl)|(go_at_call 85;refine Za (X.out _) ?_;rintro e9 w9 ⟨rfl,rfl⟩))
 all_goals go_ret
 all_goals exact ⟨rfl,((Ext.refl _).alloc _).trans A⟩
theorem Zlo (x:Fc) (w:Wq) (V:Env w) (R:RdC w x) (hk:fokS x.f) (Z:x.f.path.length<=64) (c0:(x.f.path.any λs=>decide (s=⟨#[]⟩))=false) (v0:x.f.path.all validS=true) (i0:x.f.id.toList.isEmpty=false) (t0:inT x.f.upd=false):
 Calls prog 87 #[.agg (cellsC x).toArray] w λe w'=>e= .returned (nI 22)/\Ext w w':=by
 obtain ⟨⟨z0,z1⟩,z2,z3⟩:=hk;have F:=gd (λ(w':Wq) (h:Ext w w')=>JB x.p ⟨#[]⟩ x.f.path w' (R.1.ext h) om);rw[c0] at F;have I:=gd (λ(w':Wq) (h:Ext w w')=>UO x.p x.f.path w' (V.ext h) (R.1.ext h) (λs hs=>by have:=XZ hs;omega) om);rw[v0] at I;have H:=gd (λw'=>VM x.f.upd w');rw[t0] at H;have Y:=gd (λw'=>XY (false) w');obtain ⟨xp,ha,⟨D,hc,Q,U,X,S⟩⟩:=x;obtain ⟨J,K⟩:=R;dsimp only at*;obtain ⟨xA,xc,rfl, -, -⟩:=J.form;obtain ⟨xB,xd,rfl, -, -⟩:=K.form;have hb:(D.length:Int)<=64:=om
 clear J K z0 z1 z2 z3 V Z c0 v0 t0;unfold cellsC fCells;dsimp only;go_enter func87,ntmps87
 go_wp2_with (first|(go_at_call 104;refine Za (F.out _ ((Ext.refl w).alloc _)) ?_;rintro e3 w3 ⟨rfl,rfl⟩)|(go_at_call 128;refine Za (I.out _ ((Ext.refl w).alloc _)) ?_;rintro e4 w4 ⟨rfl,A⟩;have k1:=A.boxed 1 _ rfl;have k2:=A.boxed 2 _ rfl;have k3:=A.boxed 3 _ rfl;have k4:=A.boxed 4 _ rfl)|(go_at_call 130;refine Za (H.out _) ?_;rintro e5 w5 ⟨rfl,rfl⟩)|(go_at_call 85;refine Za (Y.out _) ?_;rintro e9 w9 ⟨rfl,rfl⟩))
 all_goals go_ret
 all_goals exact ⟨rfl,((Ext.refl _).alloc _).trans A⟩
theorem Zlp (x:Fc) (w:Wq) (U:Env w) (V:RdC w x) (hk:fokS x.f) (h0:x.f.path.length<=64) (c0:(x.f.path.any λs=>decide (s=⟨#[]⟩))=false) (v0:x.f.path.all validS=true) (i0:x.f.id.toList.isEmpty=false) (t0:inT x.f.upd=true) (s0: [x.f.id,x.f.title,x.f.link].all validS=false):
 Calls prog 87 #[.agg (cellsC x).toArray] w λe w'=>e= .returned (nI 22)/\Ext w w':=by
 obtain ⟨⟨z0,z1⟩,z2,z3⟩:=hk;have I:=gd (λ(w':Wq) (h:Ext w w')=>JB x.p ⟨#[]⟩ x.f.path w' (V.1.ext h) om);rw[c0] at I;have K:=gd (λ(w':Wq) (h:Ext w w')=>UO x.p x.f.path w' (U.ext h) (V.1.ext h) (λs hs=>by have:=XZ hs;omega) om);rw[v0] at K;have J:=gd (λw'=>VM x.f.upd w');rw[t0] at J;have F:=gd (λ(w':Wq) (h:Ext w w')=>UO _ [x.f.id,x.f.title,x.f.link] (w'.alloc (.cells ([x.f.id,x.f.title,x.f.link].map Value.string).toArray 9)) ((U.ext h).alloc _) (Vx w' [x.f.id,x.f.title,x.f.link] (by show 3<=maxLen;decide)) (λs h=>by simp only[ZH,ZY,Y1] at h;rcases h with rfl|rfl|rfl<;>omega) (by show 3<=16777216;decide));rw[s0] at F;simp only[Zw,Z2,Zd,ZK] at F;have HC:=gd (λw'=>XY (false) w');obtain ⟨xp,hc,⟨H,hd,S,Z,ha,Y⟩⟩:=x;obtain ⟨Q,R⟩:=V;dsimp only at*;obtain ⟨xA,xc,rfl, -, -⟩:=Q.form;obtain ⟨xB,xd,rfl, -, -⟩:=R.form;have hb:(H.length:Int)<=64:=om
 clear Q R z0 z1 z2 z3 U h0 c0 v0 t0 s0;unfold cellsC fCells;dsimp only;go_enter func87,ntmps87
 go_wp2_with (first|(go_at_call 104;refine Za (I.out _ ((Ext.refl w).alloc _)) ?_;rintro e3 w3 ⟨rfl,rfl⟩)|(go_at_call 128;(with_reducible refine Za (K.out _ ((Ext.refl w).alloc _)) ?_);rintro e4 w4 ⟨rfl,A⟩;have k1:=A.boxed 1 _ rfl;have k2:=A.boxed 2 _ rfl;have k3:=A.boxed 3 _ rfl;have k4:=A.boxed 4 _ rfl)|(go_at_call 130;refine Za (J.out _) ?_;rintro e5 w5 ⟨rfl,rfl⟩)|(go_at_call 128;have hz:=F.out _ (((Ext.refl w).alloc _).trans A);(with_reducible refine Za hz ?_);clear hz;rintro e7 w7 ⟨rfl,X⟩;have D:=A.trans (((Ext.refl _).alloc _).trans X);have k5:=D.boxed 5 _ rfl)|(go_at_call 85;refine Za (HC.out _) ?_;rintro e9 w9 ⟨rfl,rfl⟩))
 all_goals go_ret
 all_goals exact ⟨rfl,((Ext.refl _).alloc _).trans D⟩
theorem Zlq (x:Fc) (w:Wq) (U:Env w) (V:RdC w x) (hk:fokS x.f) (h0:x.f.path.length<=64) (c0:(x.f.path.any λs=>decide (s=⟨#[]⟩))=false) (v0:x.f.path.all validS=true) (i0:x.f.id.toList.isEmpty=false) (t0:inT x.f.upd=true) (s0: [x.f.id,x.f.title,x.f.link].all validS=true):
 Calls prog 87 #[.agg (cellsC x).toArray] w λe w'=>e= .returned (nI (if okL okE ordE x.f.ents=true then 0 else 22))/\Ext w w':=by
 obtain ⟨⟨z0,z1⟩,z2,z3⟩:=hk;have I:=gd (λ(w':Wq) (h:Ext w w')=>JB x.p ⟨#[]⟩ x.f.path w' (V.1.ext h) om);rw[c0] at I;have Q:=gd (λ(w':Wq) (h:Ext w w')=>UO x.p x.f.path w' (U.ext h) (V.1.ext h) (λs hs=>by have:=XZ hs;omega) om);rw[v0] at Q;have J:=gd (λw'=>VM x.f.upd w');rw[t0] at J;have F:=gd (λ(w':Wq) (h:Ext w w')=>UO _ [x.f.id,x.f.title,x.f.link] (w'.alloc (.cells ([x.f.id,x.f.title,x.f.link].map Value.string).toArray 9)) ((U.ext h).alloc _) (Vx w' [x.f.id,x.f.title,x.f.link] (by show 3<=maxLen;decide)) (λs h=>by simp only[ZH,ZY,Y1] at h;rcases h with rfl|rfl|rfl<;>omega) (by show 3<=16777216;decide));rw[s0] at F;simp only[Zw,Z2,Zd,ZK] at F;have K:=gd (λ(w':Wq) (h:Ext w w')=>Zfx x.es x.f.ents w' (U.ext h) (V.2.ext h) (λe he=>by obtain ⟨_,h⟩:=z3 e he;exact ⟨om,om,om,om⟩) z2);have HC:=gd (λw'=>XY (okL okE ordE x.f.ents) w');obtain ⟨b,Y⟩:∃b,okL okE ordE x.f.ents=b:=⟨_,rfl⟩;simp only[Y] at K HC|-;clear Y;obtain ⟨xp,hg,⟨H,hh,X,hd,hf,hc⟩⟩:=x;obtain ⟨R,S⟩:=V;dsimp only at*;obtain ⟨xA,xc,rfl, -, -⟩:=R.form;obtain ⟨xB,xd,rfl, -, -⟩:=S.form;have Y:(H.length:Int)<=64:=om
 clear R S z0 z1 z2 z3 U h0 c0 v0 t0 s0;unfold cellsC fCells;dsimp only;go_enter func87,ntmps87
 go_wp2_with (first|(go_at_call 104;refine Za (I.out _ ((Ext.refl w).alloc _)) ?_;rintro e3 w3 ⟨rfl,rfl⟩)|(go_at_call 128;(with_reducible refine Za (Q.out _ ((Ext.refl w).alloc _)) ?_);rintro e4 w4 ⟨rfl,A⟩;have k1:=A.boxed 1 _ rfl;have k2:=A.boxed 2 _ rfl;have k3:=A.boxed 3 _ rfl;have k4:=A.boxed 4 _ rfl)|(go_at_call 130;refine Za (J.out _) ?_;rintro e5 w5 ⟨rfl,rfl⟩)|(go_at_call 128;have hz:=F.out _ (((Ext.refl w).alloc _).trans A);(with_reducible refine Za hz ?_);clear hz;rintro e7 w7 ⟨rfl,Z⟩;have D:=A.trans (((Ext.refl _).alloc _).trans Z);have k5:=D.boxed 5 _ rfl)|(go_at_call 131;refine Za (K.out _ (((Ext.refl w).alloc _).trans D)) ?_;rintro e8 w8 ⟨rfl,ha⟩)|(go_at_call 85;refine Za (HC.out _) ?_;rintro e9 w9 ⟨rfl,rfl⟩))
 all_goals go_ret
 all_goals exact ⟨rfl,(((Ext.refl _).alloc _).trans D).trans ha⟩
theorem Zhb (x:Fc) (w:Wq) (H:Env w) (J:RdC w x) (I:fokS x.f):
 Calls prog 87 #[.agg (cellsC x).toArray] w λe w'=>e= .returned (nI (if okF x.f=true then 0 else 22))/\Ext w w':=by
 by_cases F:x.f.path.length<=64
 case neg=>rw[Ze (λA=>F (Jf.1 (XW.1 A).1).1)];exact Zlk x w H J I F
 cases c0:(x.f.path.any λs=>decide (s=⟨#[]⟩)) with
 |true=>
  rw[Ze (λA=>by
   obtain ⟨s,h,S⟩:=Xm.1 c0;exact (Jf.1 (XW.1 A).1).2.2.2.2 s h (YK S))]
  exact Zll x w H J I F c0
 |false=>
 cases v0:x.f.path.all validS with
 |false=>
  rw[Ze (λA=>by
   have D:=(Jf.1 (XW.1 A).1).2.1;rw[Z6.2 (λs h=>D s (by unfold strsF;simp[h]))] at v0;cases v0)]
  exact Zlm x w H J I F c0 v0
 |true=>
 by_cases K:x.f.id=noS
 ·rw[Ze (λA=>(Jf.1 (XW.1 A).1).2.2.1 K)];exact Zln x w H J I F c0 v0 (Zes K)
 cases t0:inT x.f.upd with
 |false=>rw[Ze (λA=>by have:=(Jf.1 (XW.1 A).1).2.2.2.1;rw[t0] at this;cases this)];exact Zlo x w H J I F c0 v0 (VW K) t0
 |true=>
 cases s0: [x.f.id,x.f.title,x.f.link].all validS with
 |false=>
  rw[Ze (λA=>by
   have D:=(Jf.1 (XW.1 A).1).2.1;rw[Z6.2 (λs h=>D s (by unfold strsF;simp only[Zs];exact Or.inr h))] at s0;cases s0)]
  exact Zlp x w H J I F c0 v0 (VW K) t0 s0
 |true=>
  have R:okH x.f=true:=Jf.2 ⟨F,λs h=>by
   unfold strsF at h;rcases Zs.1 h with h|h
   ·exact Z6.1 v0 s h
   ·exact Z6.1 s0 s h,K,t0,λp U e=>by
   rw[List.any_eq_false] at c0;exact c0 p U (YG e)⟩
  have Q:okF x.f=okL okE ordE x.f.ents:=by unfold okF;rw[R];rfl
  rw[Q];exact Zlq x w H J I F c0 v0 (VW K) t0 s0
section
theorem Zdx (u v:Value) (a b:List ByteArray) (w:Wq) (ha:RStrs w u a) (hb:RStrs w v b) (hn:a.length<=16777216):
 Calls prog 171 #[u,v] w λe w'=>e= .returned (nI (pathCmp a b))/\w'=w:=by
 obtain ⟨A,c,rfl,hc,hf⟩:=ha.form;obtain ⟨B,d,rfl,hd,hg⟩:=hb.form;have HA:Hid (a.length<=maxLen):=gd om;have HB:Hid (b.length<=maxLen):=gd om;clear hc hf hd hg;go_enter func171,ntmps171;go_wp2;go_loopw [11] (λi wr=>∃k:Nat,k<=a.length/\k<=b.length/\i=nI k/\Hid (pathCmp a b=pathCmp (a.drop k) (b.drop k))/\wr=w) (λi _=>a.length - (intOf i).toNat)
 case atStart=>exact ⟨0,Zj _,Zj _,rfl,gd rfl,rfl⟩
 case round=>
  obtain ⟨k,hj,hk,rfl,D,rfl⟩:=hrel;by_cases H:k<a.length
  ·by_cases I:k<b.length
   ·have R:=IY H I;obtain ⟨ad,c1,e1,K⟩:=ha.at H;injection e1 with e1 e2 e3;subst e1;obtain ⟨bd,d1,e4,he⟩:=hb.at I;injection e4 with e4 e5 e6;subst e4;clear e2 e3 e5 e6;obtain ⟨x,F⟩:∃x,a[k]=x:=⟨_,rfl⟩;obtain ⟨y,S⟩:∃y,b[k]=y:=⟨_,rfl⟩;rw[F,S] at R;rw[F] at K;rw[S] at he;have V:=gd R;have Y:=gd (λw'=>Qu x y w');clear R F S;have hi:(0:Int)<=(k:Int):=om;have hh:(k:Int)<(a.length:Int):=om;have X:(k:Int)<(b.length:Int):=om;obtain ⟨q,hq⟩:∃q,sCmp x y=q:=⟨_,rfl⟩;rw[hq] at Y;have HQ:=gd hq;clear hq;by_cases J:q=0
    ·subst J
     go_wp2_with (go_at_call 119;refine (Y.out _).mono ?_;rintro e w2 ⟨rfl,rfl⟩)
     go_roundw
     case rel=>refine ⟨k+1,om,om,by go_num,gd ?_,trivial⟩;rw[D.out,V.out,Zi HQ.out]
     case measure=>simp[intOf];omega
    ·have hm:(q !=0)=true:=(by simpa using J);have Z:=gd J;clear J
     go_wp2_with (go_at_call 119;refine (Y.out _).mono ?_;rintro e w2 ⟨rfl,rfl⟩)
     go_ret;have h:pathCmp a b=q:=(by rw[D.out,V.out,HQ.out,Ze Z.out]);exact ⟨by rw[h];rfl,rfl⟩
   ·have Q:k=b.length:=om;subst Q;have h:pathCmp a b=1:=(by rw[D.out,ZC (Zc _),Zl H];rfl);have U:=gd h;clear h D;have hh:(b.length:Int)<(a.length:Int):=om;obtain ⟨ad,c1,e1,K⟩:=ha.at H;injection e1 with e1 e2 e3;subst e1;clear e2 e3;obtain ⟨x,F⟩:∃x,a[b.length]=x:=⟨_,rfl⟩;rw[F] at K;clear F;go_wp2;go_ret;exact ⟨by rw[U.out];rfl,rfl⟩
  ·have Q:k=a.length:=om;subst Q;by_cases I:a.length<b.length
   ·have h:pathCmp a b= -1:=(by rw[D.out,ZC (Zc a.length),Zl I];rfl);have U:=gd h;clear h D;have X:(a.length:Int)<(b.length:Int):=om;go_wp2;go_ret;exact ⟨by rw[U.out];rfl,rfl⟩
   ·have hl:b.length=a.length:=om;have h:pathCmp a b=0:=(by rw[D.out,ZC (Zc a.length),ZC om];rfl);have U:=gd h;clear h D;have X:¬(a.length:Int)<(b.length:Int):=om;go_wp2;go_ret;exact ⟨by rw[U.out];rfl,rfl⟩
theorem Ze4 (u v:Value) (a b:List ByteArray) (w:Wq) (h:RStrs w u a) (D:RStrs w v b) (H:a.length<=16777216):
 Calls prog 118 #[u,v] w λe w'=>e= .returned (nI (pathCmp a b))/\w'=w:=by
 have F:=gd (Zdx u v a b w h D H);obtain ⟨A,c,rfl,_,_⟩:=h.form;obtain ⟨B,d,rfl,_,_⟩:=D.form;go_enter func118,ntmps118
 go_wp2_with (go_at_call 171;refine (F.out).mono ?_;rintro e w2 ⟨rfl,rfl⟩)
 go_ret;exact ⟨rfl,rfl⟩
attribute [local go_sem ↓] Go.wp_at_zero Go.wp_at_succ
theorem VJ (x y:Fc) (w:Wq) (ha:isSl x.es) (hb:isSl y.es) (hx:RStrs w x.p x.f.path) (hy:RStrs w y.p y.f.path) (hn:x.f.path.length<=16777216):
 Calls prog 70 #[.agg (cellsC x).toArray,.agg (cellsC y).toArray] w λe w'=>e= .returned (nI (feedCmp x.f y.f))/\∃q os,w'=grow (w.drewN q) os:=by
 have HP:=gd (λ(w':Wq) (h:Ext w w')=>Ze4 x.p y.p x.f.path y.f.path w' (hx.ext h) (hy.ext h) hn);have HC:=gd (λw'=>Qu x.f.id y.f.id w');have D:feedCmp x.f y.f=if pathCmp x.f.path y.f.path=0 then sCmp x.f.id y.f.id else pathCmp x.f.path y.f.path:=rfl
 obtain ⟨ci,J⟩:∃c,pathCmp x.f.path y.f.path=c:=⟨_,rfl⟩;obtain ⟨cs,K⟩:∃c,sCmp x.f.id y.f.id=c:=⟨_,rfl⟩;rw[J] at HP D;rw[K] at HC D;rw[D];have HO:=gd (λv w' h=>Ep ci cs v w' h);obtain ⟨res,F⟩:∃res,(if ci=0 then cs else ci)=res:=⟨_,rfl⟩;rw[F] at HO;rw[F];clear J K D F;obtain ⟨px,ex,⟨H,hc,V,he,hh,Y⟩⟩:=x;obtain ⟨py,ey,⟨I,hd,X,hf,hi,Z⟩⟩:=y;obtain ⟨A,c,S,_,_⟩:=hx.form;obtain ⟨B,d,U,_,_⟩:=hy.form;obtain ⟨A2,n2,c2,Q⟩:=ha;obtain ⟨B2,m2,d2,R⟩:=hb;simp only at S U Q R;subst S U Q R;clear hx hy;unfold cellsC fCells;dsimp only at*;go_enter func70,ntmps70;go_wp2
 go_region_held3 (λw'=>Ext w w'/\w'.cell? ⟨w.heap.size,0,none⟩=some (.slice A H.length c)/\w'.cell? ⟨w.heap.size,1,none⟩=some (.string hc)/\w'.cell? ⟨w.heap.size+1,0,none⟩=some (.slice B I.length d)/\w'.cell? ⟨w.heap.size+1,1,none⟩=some (.string hd))
  ((go_split_ands;refine ⟨?_,?_,?_,?_,?_⟩<;>first|assumption|((repeat (first|exact Ext.refl _|assumption|apply Ext.drew|apply Ext.alloc));done)|((refine Ext.trans ?_ (by assumption));(repeat (first|exact Ext.refl _|assumption|apply Ext.drew|apply Ext.alloc));done)|((refine Ext.cell (by assumption) ?_);first|assumption|(go_keep;done))|(go_keep;done)))
  (first|(go_at_call 118;refine (HP.out _ (by repeat (first|exact Ext.refl _|apply Ext.drew|apply Ext.alloc))).mono ?_;rintro e w1 ⟨rfl,rfl⟩)|(go_at_call 119;refine (HC.out _).mono ?_;rintro e w2 ⟨rfl,rfl⟩)|(go_at_call 117;refine (HO.out _ _ (Jb (e:=3) (fr:=(0,0)) (cs:= [nI ci,nI cs]) ?hg (by rfl) (by decide))).mono ?_;(case hg=>exact XR w _ _ _);rintro e w3 ⟨rfl,rfl⟩))
 go_wp2;go_ret;exact ⟨rfl,1,_,by rw[alloc_eq_grow,alloc_eq_grow,alloc_eq_grow,grow_grow,grow_grow];rfl⟩
end
theorem ZhE (p q es fs:Value) (a b:Fd) (w:Wq) (I:RStrs w p a.path) (J:RStrs w q b.path) (K:a.path.length<=16777216):
 Calls prog 41 #[.agg (fCells p es a).toArray,.agg (fCells q fs b).toArray] w λe w'=>e= .returned (nI (feedCmp a b))/\Ext w w':=by
 have F:=gd (λ(w':Wq) (h:Ext w w')=>GE p q a.path b.path w' (I.ext h) (J.ext h) K);have H:=gd (λw'=>Vt a.id b.id w');have A:feedCmp a b=if pathCmp a.path b.path=0 then sCmp a.id b.id else pathCmp a.path b.path:=rfl
 obtain ⟨c,hc⟩:∃c,pathCmp a.path b.path=c:=⟨_,rfl⟩;rw[hc] at F A;rw[A];clear hc A;unfold fCells;go_enter func41,ntmps41
 go_wp2_with (first|(go_at_call 75;refine (F.out _ (((Ext.refl _).alloc _).alloc _)).mono ?_;rintro e w1 ⟨rfl,D⟩;have s0:w1.cell? ⟨w.heap.size,1,none⟩=some (.string a.id):=(((Ext.refl _).alloc _).trans D).boxed 1 _ rfl;(have Q:w1.cell? ⟨w.heap.size+1,1,none⟩=some (.string b.id):=by have:=D.boxed 1 _ rfl;simpa using this))|(go_at_call 80;refine (H.out _).mono ?_;rintro e w2 ⟨rfl,rfl⟩))
 all_goals go_ret
 all_goals exact ⟨by simp_all,(((Ext.refl _).alloc _).alloc _).trans D⟩
theorem ZmE (w:Wq) (q:Nat) (os:Array Obj):Ext w (grow (w.drewN q) os):=
 ⟨rfl,rfl,rfl,by show w.heap.size<=(w.heap++os).size;simp,λk h=>by show (w.heap++os)[k]? =w.heap[k]?;rw[Array.getElem?_append_left h]⟩
theorem Eq (x y:Fc) (w:Wq) (A:isSl x.es) (D:isSl y.es) (I:RStrs w x.p x.f.path) (J:RStrs w y.p y.f.path) (H:x.f.path.length<=16777216):
 Calls prog 70 #[.agg (cellsC x).toArray,.agg (cellsC y).toArray] w λe w'=>e= .returned (nI (feedCmp x.f y.f))/\Ext w w':=
 (VJ x y w A D I J H).mono λe w' ⟨h,q,os,F⟩=>⟨h,by rw[F];exact ZmE w q os⟩
theorem Zfy (v:Value) (l:List Fc) (w:Wq) (hE:Env w) (hr:RFcs w v l) (gc:∀x∈l,RdC w x) (hk:∀x∈l,fokS x.f) (hn:l.length<=1000000):
 Calls prog 86 #[v,.func (.func 87) #[] #[],.func (.func 70) #[] #[],.func (.func 88) #[] #[]] w λe w'=>e= .returned (.bool (okL okF ordF (l.map Fc.f)))/\Ext w w':=by
 obtain ⟨A,c,rfl, -, -⟩:=hr.form;have gq:= @run_makeMap prog;obtain ⟨L,hL⟩:∃L,l.map Fc.f=L:=⟨_,rfl⟩;have h9:L.length=l.length:=by rw[<-hL,Zq]
 have h2:=gd h9;have hZ:Hid (∀(j:Nat) (h:j<l.length),L[j]'(by rw[h9];exact h)=l[j].f):=gd λj h=>by subst hL;rw[Xn]
 rw[hL];obtain ⟨R,hR⟩:∃R,okL okF ordF L=R:=⟨_,rfl⟩;rw[hR];have HR:=gd hR;have h5:=gd gc;have HS:=gd hk;have HH:=gd hr;have gf:=gd hE;clear hR hk hr gc hE hL;go_enter func86,ntmps86;go_wp2;go_loopw [15] (λi wr=>∃(k:Nat) (D:DataW Unit),k<=l.length/\i=nI k/\wr.ownsMap prog 9 (plainElem prog 4) w.heap.size k D/\Hid (SeenMap D (λs=>(L.take k).any (λe=>decide (e.id=s))))/\Hid (∀j,j<k->okAt okF ordF L j=true)/\Ext w wr) (λi _=>l.length - (intOf i).toNat)
 case atStart=>exact ⟨0,.map [],Zj _,rfl,World.ownsMap_made _ _ _ _,gd SeenMap.nil,gd (λj h=>by omega),(Ext.refl _).alloc _⟩
 case round=>
  obtain ⟨k,D,hk,rfl,hM,hD,hw,K⟩:=hrel;by_cases hx:k<l.length
  ·obtain ⟨ad,c1,e1,hS⟩:=(RFcs.ext HH.out K).at hx;injection e1 with e1 e1' e1'';subst e1;clear e1' e1'';have hy:l[k]∈l:=ZL hx;have hA:=HS.out _ hy;have ho:=(h5.out _ hy).ext K;have hd:k<L.length:=(by rw[h2.out];exact hx);have hU:=Zr hd;have V:=Ui (ok:=okF) (O:=ordF) hd;have h8:=hZ.out k hx;have hb:∃b,(L.take k).any (λe=>decide (e.id=l[k].f.id))=b:=⟨_,rfl⟩;obtain ⟨b,hb⟩:=hb;rw[h8] at V hU;have hT:b=false->∀j (hj:j<k),ordF.id L[j]≠ordF.id l[k].f:=λe j hj=>Gh (id:=Fd.id) (hb.trans e) j om hj;have ga:b=true->okAt okF ordF L k=false:=λe=>(by rw[Yv];intro h;obtain ⟨j,hj,gi,he⟩:=Kl (id:=Fd.id) (hb.trans e);exact (V.1 h).2.2 j gi he);have Y:Hid (okAt okF ordF L k=false->R=false):=gd λh=>(by rw[<-HR.out];exact Zcy hd h);have ha:Hid (SeenMap (D.put (.string l[k].f.id.data.toList) (.lit (.bool true))) (λs=>(L.take (k+1)).any (λe=>decide (e.id=s)))):=gd (hD.out.put λt=>by rw[hU,List.any_append];simp);obtain ⟨E,h7⟩:∃E,l[k]=E:=⟨_,rfl⟩;rw[h7] at hS hA ho hb ha V hT;have Z:=gd V;have hW:=gd hT;have hX:=gd ga;have hI:E.f.id.size<=maxLen:=(by have:=hA.1.2;unfold maxLen;omega);have hi:=gd (keyOf_string_mk underlying9 hI);have HM:=gd hM;have hl:=gd hx;have h3:=gd hd;clear V hT ga hU hy h8 h7;obtain ⟨W1,hG⟩:∃W1,wr.alloc (.cells (cellsC E).toArray 55)=W1:=⟨_,rfl⟩;have hh:Ext wr W1:=(by rw[<-hG];exact (Ext.refl _).alloc _);have hB:=λz:Aft W1=>Zak (hM.kept ((hh.trans z.ext).grown none) (by simp)) hD.out hI;simp only[hb] at hB;have H:=gd (λz:Aft W1=>Zhb E z.w (gf.out.ext (K.trans (hh.trans z.ext))) (ho.ext (hh.trans z.ext)) hA);have I:=gd (λz:Wq=>Zlr E.p E.es E.f z);have hH:W1.heap[wr.heap.size]? =some (.cells (cellsC E).toArray 55):=(by rw[<-hG];exact Zg _ _);have U:=gd hh;have ge:=gd (ho.ext hh);have h6:=gd ho.sl;have gl:(0:Int)<=(k:Int):=om;have gm:(k:Int)<(l.length:Int):=om;have hY:Hid (k<maxLen):=gd (by unfold maxLen;omega);clear hh hM hb ho hA;obtain ⟨EP,EE,⟨path,id,title,link,upd,ents⟩⟩:=E;obtain ⟨⟨EA,EN,EC,hu⟩,⟨EB,EM,ED,hs⟩⟩:=h6.out;dsimp only at hu hs;subst hu hs;unfold cellsC fCells at hG hH H;unfold fCells at I;dsimp only at hG hH H I hS hB ha hi hI;obtain ⟨b0,b1,b2,b3,b4,b5⟩:=Zo5 hH;obtain ⟨a0,a1,a2,a3,a4,a5⟩:=hS;have B0:=λz:Aft W1=>Aft.cell b0 z;have B1:=λz:Aft W1=>Aft.cell b1 z;have B2:=λz:Aft W1=>Aft.cell b2 z;have B3:=λz:Aft W1=>Aft.cell b3 z;have B4:=λz:Aft W1=>Aft.cell b4 z;have B5:=λz:Aft W1=>Aft.cell b5 z;clear b0 b1 b2 b3 b4 b5 hH hI;dsimp only at a0 a1 a2 a3 a4 a5;cases hok:okF ⟨path,id,title,link,upd,ents⟩ with
   |false=>
    have hR:=Y.out (by
     rw[Yv];intro h;have h1:=(Z.out.1 h).1;rw[hok] at h1;cases h1)
    subst hR;rw[hok] at H;clear hok;simp only[YR,U4] at H;go_wp2;refine rA ?_
    repeat (first|go_big_quiet_step ((first|(go_at_call 87;with_reducible exact ZE (H.out _))|(go_at_call 88;with_reducible exact ZE (I.out _))))|quiet_step ((first|(go_at_call 87;with_reducible exact ZE (H.out _))|(go_at_call 88;with_reducible exact ZE (I.out _)))))
    refine Z9 ?_;rintro _ ⟨J,rfl⟩;go_wp2;go_ret;exact ⟨rfl,K.trans (U.out.trans J.ext)⟩
   |true=>
    have h4:=gd hok;rw[hok] at H;clear hok;simp only[Us] at H;rcases YL k with h0|gb
    ·cases b with
     |true=>
      have hR:=Y.out (hX.out rfl);subst hR;subst h0;simp only[Xj,add_zero] at a0 a1 a2 a3 a4 a5;go_wp2;refine rA ?_
      repeat (first|go_big_quiet_step ((first|(go_at_call 87;with_reducible exact ZE (H.out _))|(go_at_call 88;with_reducible exact ZE (I.out _))))|quiet_step ((first|(go_at_call 87;with_reducible exact ZE (H.out _))|(go_at_call 88;with_reducible exact ZE (I.out _)))))
      refine Z9 ?_;rintro _ ⟨J,rfl⟩;go_wp2;go_ret;exact ⟨rfl,K.trans (U.out.trans J.ext)⟩
     |false=>
      have X:=gd (Z.out.2 ⟨h4.out,λh=>absurd h om,hW.out rfl⟩);subst h0;simp only[Xj,add_zero] at a0 a1 a2 a3 a4 a5;go_wp2;refine rA ?_
      repeat (first|go_big_quiet_step ((first|(go_at_call 87;with_reducible exact ZE (H.out _))|(go_at_call 88;with_reducible exact ZE (I.out _))))|quiet_step ((first|(go_at_call 87;with_reducible exact ZE (H.out _))|(go_at_call 88;with_reducible exact ZE (I.out _)))))
      refine Z9 ?_;rintro _ ⟨J,rfl⟩;have hN:=gd (HM.out.kept ((U.out.trans J.ext).grown none) (by simp));have hP:=gd (K.trans (U.out.trans J.ext));have D0:=B0 J;have D1:=B1 J;have D2:=B2 J;have D3:=B3 J;have D4:=B4 J;have D5:=B5 J;clear B0 B1 B2 B3 B4 B5 hB
      go_wp2_with (first|(go_at_call 88;refine Za (I.out _) ?_;rintro e w2 ⟨rfl,hz⟩)|(at_mapUpdate;(refine UC _ rfl (.tmp 46) (.tmp 49) (.const (.bool true)) 183 rfl 9 4 UT underlying183 _ w.heap.size 0 D rfl (hN.out.kept (hz.grown none) (by simp)) hY.out _ _ _ rfl rfl hi.out _ [] (plainElem_bool underlying4 true) ?_);intro w5 hp hv))
      have hV:Ext w w5:=Ext.grown' (B:=0) (hP.out.trans hz) hv (λb hb=>by cases hb;exact Zc _);have hO:=gd hp;clear hp hv;go_roundw
      case rel=>exact ⟨0+1,_,hl.out,by go_num,hO.out,ha,gd (λt ht=>by
       by_cases e:t=0
       ·rw[e];exact X.out
       ·exact hw.out t om),hV⟩
      case measure=>simp[intOf];have:=hl.out;omega
    ·obtain ⟨q,hq⟩:∃q,k=q+1:=⟨k - 1,om⟩;have hJ:q<l.length:=(by have:=hl.out;omega);obtain ⟨af,c3,e3,hQ⟩:=(RFcs.ext HH.out (K.trans U.out)).at hJ;injection e3 with e3 e3' e3'';injection e3 with e3;subst e3;clear e3' e3'';have hg:=(h5.out _ (ZL hJ)).ext (K.trans U.out);have hF:=HS.out _ (ZL hJ);have hC:∀h:k - 1<L.length,L[k - 1]=l[q].f:=λh=>(by subst hq;exact hZ.out q hJ);obtain ⟨F,hQ,hg,hF,hC⟩:∃F:Fc,AtFc W1 (ad.add (q*6)) F/\RdC W1 F/\fokS F.f/\(∀h:k - 1<L.length,L[k - 1]=F.f):=⟨_,hQ,hg,hF,hC⟩;have hf:=gd hC;have S:ordF.lt F.f ⟨path,id,title,link,upd,ents⟩=decide (feedCmp F.f ⟨path,id,title,link,upd,ents⟩<0):=rfl;have Q:=gd (λz:Aft W1=>Eq F ⟨.slice EA EN EC,.slice EB EM ED,⟨path,id,title,link,upd,ents⟩⟩ z.w hg.sl.2 h6.out.2 (hg.1.ext z.ext) (ge.out.1.ext z.ext) (by have:=hF.1.2;omega));have gk:=hg.sl;dsimp only at Q;obtain ⟨cc,hc⟩:∃cc,feedCmp F.f ⟨path,id,title,link,upd,ents⟩=cc:=⟨_,rfl⟩;rw[hc] at S;simp only[hc] at Q;clear hC hc hg hF;obtain ⟨FP,FE,FF⟩:=F;obtain ⟨⟨FA,FN,FC,hu⟩,⟨FB,FM,FD,hs⟩⟩:=gk;dsimp only at hu hs;subst hu hs;obtain ⟨k0,k1,k2,k3,k4,k5⟩:=hQ;dsimp only at k0 k1 k2 k3 k4 k5 Q S hf;have C0:=λz:Aft W1=>Aft.cell k0 z;have C1:=λz:Aft W1=>Aft.cell k1 z;have C2:=λz:Aft W1=>Aft.cell k2 z;have C3:=λz:Aft W1=>Aft.cell k3 z;have C4:=λz:Aft W1=>Aft.cell k4 z;have C5:=λz:Aft W1=>Aft.cell k5 z;clear k0 k1 k2 k3 k4 k5;have gn:(0:Int)<(k:Int):=om;have gp:wrap64 ((k:Int) - 1)=(q:Int):=(by rw[Q6 _ ⟨om,om⟩];omega);have go:(k:Int) - 1=(q:Int):=om;have gr:(0:Int)<=(q:Int):=om;have gs:(q:Int)<(l.length:Int):=om;unfold cellsC fCells at Q;dsimp only at Q;by_cases hK:cc<0
     ·have hm:Hid (∀h:0<k,ordF.lt (L[k - 1]'(X5 (Jz _ _) h3.out)) ⟨path,id,title,link,upd,ents⟩=true):=gd (λh=>by rw[hf.out,S];exact YG hK);have gh:¬(0:Int)<=cc:=om;cases b with
      |true=>
       have hR:=Y.out (hX.out rfl);subst hR;clear S hq hf;go_wp2;refine rA ?_
       repeat (first|go_big_quiet_step ((first|(go_at_call 87;with_reducible exact ZE (H.out _))|(go_at_call 70;with_reducible exact ZE (Q.out _))|(go_at_call 88;with_reducible exact ZE (I.out _))))|quiet_step ((first|(go_at_call 87;with_reducible exact ZE (H.out _))|(go_at_call 70;with_reducible exact ZE (Q.out _))|(go_at_call 88;with_reducible exact ZE (I.out _)))))
       refine Z9 ?_;rintro _ ⟨J,rfl⟩;go_wp2;go_ret;exact ⟨rfl,K.trans (U.out.trans J.ext)⟩
      |false=>
       have X:=gd (Z.out.2 ⟨h4.out,hm.out,hW.out rfl⟩);clear S hq hf hm;go_wp2;refine rA ?_
       repeat (first|go_big_quiet_step ((first|(go_at_call 87;with_reducible exact ZE (H.out _))|(go_at_call 70;with_reducible exact ZE (Q.out _))|(go_at_call 88;with_reducible exact ZE (I.out _))))|quiet_step ((first|(go_at_call 87;with_reducible exact ZE (H.out _))|(go_at_call 70;with_reducible exact ZE (Q.out _))|(go_at_call 88;with_reducible exact ZE (I.out _)))))
       refine Z9 ?_;rintro _ ⟨J,rfl⟩;have hN:=gd (HM.out.kept ((U.out.trans J.ext).grown none) (by simp));have hP:=gd (K.trans (U.out.trans J.ext));have D0:=B0 J;have D1:=B1 J;have D2:=B2 J;have D3:=B3 J;have D4:=B4 J;have D5:=B5 J;clear B0 B1 B2 B3 B4 B5 hB
       go_wp2_with (first|(go_at_call 88;refine Za (I.out _) ?_;rintro e w2 ⟨rfl,hz⟩)|(at_mapUpdate;(refine UC _ rfl (.tmp 46) (.tmp 49) (.const (.bool true)) 183 rfl 9 4 UT underlying183 _ w.heap.size k D rfl (hN.out.kept (hz.grown none) (by simp)) hY.out _ _ _ rfl rfl hi.out _ [] (plainElem_bool underlying4 true) ?_);intro w5 hp hv))
       have hV:Ext w w5:=Ext.grown' (B:=0) (hP.out.trans hz) hv (λb hb=>by cases hb;exact Zc _);have hO:=gd hp;clear hp hv;go_roundw
       case rel=>exact ⟨k+1,_,hl.out,by go_num,hO.out,ha,gd (λt ht=>by
        by_cases e:t=k
        ·rw[e];exact X.out
        ·exact hw.out t om),hV⟩
       case measure=>simp[intOf];have:=hl.out;omega
     ·have hR:=Y.out (by
       rw[Yv];intro h;have h1:=(Z.out.1 h).2.1 gb;rw[hf.out,S] at h1;exact hK (YK h1))
      subst hR;have gh:(0:Int)<=cc:=om;clear S hq hf;go_wp2;refine rA ?_
      repeat (first|go_big_quiet_step ((first|(go_at_call 87;with_reducible exact ZE (H.out _))|(go_at_call 70;with_reducible exact ZE (Q.out _))|(go_at_call 88;with_reducible exact ZE (I.out _))))|quiet_step ((first|(go_at_call 87;with_reducible exact ZE (H.out _))|(go_at_call 70;with_reducible exact ZE (Q.out _))|(go_at_call 88;with_reducible exact ZE (I.out _)))))
      refine Z9 ?_;rintro _ ⟨J,rfl⟩;go_wp2;go_ret;exact ⟨rfl,K.trans (U.out.trans J.ext)⟩
  ·have gj:k=l.length:=om;subst gj;have gg:R=true:=(by rw[<-HR.out];exact Zex (by rw[h2.out];exact hw.out));subst gg;go_wp2;go_ret;exact ⟨rfl,K⟩
theorem Zg9 (v:Value) (l:List Fc) (w:Wq) (K:Env w) (F:RFcs w v l) (D:∀x∈l,RdC w x) (R:∀x∈l,fokS x.f) (S:l.length<=1000000):
 Calls prog 43 #[.agg #[v]] w λe w'=>e= .returned (nI (if okA (l.map Fc.f)=true then 0 else 22))/\Ext w w':=by
 have J:=gd (λ(w':Wq) (h:Ext w w')=>Zfy v l w' (K.ext h) (F.ext h) (λx U=>(D x U).ext h) R S);have I:=gd (λw'=>XY (okL okF ordF (l.map Fc.f)) w');unfold okA;obtain ⟨b,Q⟩:∃b,okL okF ordF (l.map Fc.f)=b:=⟨_,rfl⟩;simp only[Q] at J I|-;obtain ⟨A,c,rfl, -, -⟩:=F.form;clear Q F D R K;go_enter func43,ntmps43
 go_wp2_with (first|(go_at_call 86;refine Za (J.out _ ((Ext.refl w).alloc _)) ?_;rintro e1 w1 ⟨rfl,H⟩)|(go_at_call 85;refine Za (I.out _) ?_;rintro e2 w2 ⟨rfl,rfl⟩))
 all_goals go_ret
 all_goals exact ⟨rfl,((Ext.refl _).alloc _).trans H⟩
section
variable {N:Nat} {f:Fd} {nm:List UInt8}
mutual
def Nd.small (N:Nat):Nd->Prop
 | .mk k s n al ks t a=>k=0/\s= []/\n.length<=7/\al.length<=4/\(∀b∈al,b.space= []/\b.name.length<=7/\b.value.length<=N/\b.at_=0)/\ks.length<=N/\t= []/\a=0/\Nds.small N ks
def Nds.small (N:Nat):List Nd->Prop
 | []=>True
 |x::t=>x.small N/\Nds.small N t
end
theorem QQ {N:Nat}:∀l:List Nd,Nds.small N l↔∀x∈l,x.small N
 | []=>by rw[Nds.small];simp
 |x::t=>by rw[Nds.small,QQ t];simp
theorem Zc4 (v:Bool):∀l:List UInt8,(wescL v l).length<=6*l.length
 | []=>Zc _
 |c::t=>by
  have ih:=Zc4 v t
  have h:(wescC v c).length<=6:=by
   unfold wescC wescB
   repeat' split
   all_goals simp
  show (wescC v c++wescL v t).length<=_
  rw[Zb,Zd]
  omega
theorem Ir {N:Nat}:∀al:List AtP,(∀b∈al,b.space= []/\b.name.length<=7/\b.value.length<=N/\b.at_=0)->(attrsW al).length<=al.length*(6*N+11)
 | [],_=>Zj _
 |b::t,h=>by
  have ih:=Ir t λx A=>h x (Zn _ A)
  obtain ⟨_,F,H,_⟩:=h b Zx
  have I:=Zc4 true b.value
  have D:(attrW b).length<=6*N+11:=by
   unfold attrW
   simp only[Zb,Zd,ZK]
   omega
  show (attrW b++attrsW t).length<=_
  rw[Zb,Zd,Nat.add_mul]
  omega
mutual
theorem ZeM {N:Nat}:∀n:Nd,n.small N->(nodeW n).length<=n.cnt*(24*N+100)
 | .mk k s n al ks t a,h=>by
  rw[Nd.small] at h
  obtain ⟨rfl,rfl,hn,ha,hb,hk,rfl,rfl,hs⟩:=h
  have ih:=ZcW ks hs
  have h1:=Ir al hb
  have h2:al.length*(6*N+11)<=4*(6*N+11):=Nat.mul_le_mul_right _ ha
  rw[nodeW,Ze (by decide),Nd.cnt,Nat.add_mul]
  split
  ·simp only[Zb,Zd,ZK]
   omega
  ·simp only[Zb,Zd,ZK]
   omega
theorem ZcW {N:Nat}:∀l:List Nd,Nds.small N l->(nodesW l).length<=Nds.cnt l*(24*N+100)
 | [],_=>by rw[nodesW];exact Zj _
 |x::t,h=>by
  rw[Nds.small] at h
  have h1:=ZeM x h.1
  have h2:=ZcW t h.2
  rw[nodesW,Zb,Nds.cnt,Nat.add_mul]
  omega
end
mutual
theorem ZcV {N:Nat} (hN:7<=N):∀n:Nd,n.small N->n.fits N
 | .mk k s n al ks t a,h=>by
  rw[Nd.small] at h
  obtain ⟨rfl,rfl,hn,ha,hb,hk,rfl,rfl,hs⟩:=h
  rw[Nd.fits]
  refine ⟨by decide,Zj _,by omega,by omega,λb hb'=> ?_,hk,Zj _,Zj _,Za0 hN ks hs⟩
  obtain ⟨e1,e2,e3,e4⟩:=hb b hb'
  refine ⟨by rw[e1];exact Zj _,by omega,by omega,by omega⟩
theorem Za0 {N:Nat} (hN:7<=N):∀l:List Nd,Nds.small N l->Nds.fits N l
 | [],_=>by rw[Nds.fits];trivial
 |x::t,h=>by
  rw[Nds.small] at h
  rw[Nds.fits]
  exact ⟨ZcV hN x h.1,Za0 hN t h.2⟩
end
def smF (N:Nat) (f:Fd):Prop:=(∀p∈f.path,p.size<=N)/\f.id.size<=N/\f.title.size<=N/\f.link.size<=N
theorem Zgu (J:3<=N) (h:smF N f):(feedN f).small N/\(feedN f).cnt=1:=by
 obtain ⟨_,F,H,I⟩:=h;have e:feedN f=if f.link.size=0 then .mk 0 [] outlineL ([(typeL,rssL),(textL,lst f.title),(xmlUrlL,lst f.id)].map pairA) [] [] 0 else .mk 0 [] outlineL ([(typeL,rssL),(textL,lst f.title),(xmlUrlL,lst f.id)].map pairA++ [(htmlUrlL,lst f.link)].map pairA) [] [] 0:=by unfold feedN;dsimp only;split<;>rfl
 have D:∀b∈([(typeL,rssL),(textL,lst f.title),(xmlUrlL,lst f.id),(htmlUrlL,lst f.link)]:List _).map pairA,b.space= []/\b.name.length<=7/\b.value.length<=N/\b.at_=0:=by
  intro b A;simp only[Zw,Z2,ZH,ZY,Y1] at A;rcases A with rfl|rfl|rfl|rfl
  ·exact ⟨rfl,by decide,J,rfl⟩
  ·exact ⟨rfl,by show 4<=7;decide,H,rfl⟩
  ·exact ⟨rfl,by show 6<=7;decide,F,rfl⟩
  ·exact ⟨rfl,by show 7<=7;decide,I,rfl⟩
 rw[e];split
 ·refine ⟨?_,by rw[Nd.cnt,Nds.cnt]⟩;rw[Nd.small];exact ⟨rfl,rfl,by decide,by show 3<=4;decide,λb A=>D b (by simp only[Zw,Z2,ZH,ZY,Y1] at A|-;rcases A with h|h|h<;>simp[h]),Zj _,rfl,rfl,by rw[Nds.small];trivial⟩
 ·refine ⟨?_,by rw[Nd.cnt,Nds.cnt]⟩;rw[Nd.small];exact ⟨rfl,rfl,by decide,by show 4<=4;decide,λb A=>D b A,Zj _,rfl,rfl,by rw[Nds.small];trivial⟩
theorem QC {K:List Nd} {ps:List (List UInt8×List UInt8)} (H:nm.length<=7) (hK:elems K) (J:Nds.small N K) (F:K.length<=N) (I:ps.length<=4) (A:∀p∈ps,p.1.length<=7/\p.2.length<=N):
 (withP (elemN nm K) ps).small N/\(withP (elemN nm K) ps).cnt=1+Nds.cnt K:=by
 have e:withP (elemN nm K) ps= .mk 0 [] nm (ps.map pairA) K [] 0:=by unfold elemN;rw[Jd hK];rfl
 rw[e];refine ⟨?_,by rw[Nd.cnt]⟩;rw[Nd.small];refine ⟨rfl,rfl,H,by rw[Zq];exact I,λb D=> ?_,F,rfl,rfl,J⟩;obtain ⟨p,h,rfl⟩:=ZU.1 D;exact ⟨rfl,(A p h).1,(A p h).2,rfl⟩
theorem ZaE {N:Nat} (A:3<=N):∀l:List Fd,(∀x∈l,smF N x)->Nds.small N (l.map feedN)/\Nds.cnt (l.map feedN)=l.length
 | [],_=>⟨by rw[Z2,Nds.small];trivial,by rw[Z2,Nds.cnt];rfl⟩
 |x::t,h=>by
  obtain ⟨D,F⟩:=Zgu A (h x Zx)
  obtain ⟨H,I⟩:=ZaE A t λy J=>h y (Zn _ J)
  rw[Zw,Nds.small,Nds.cnt,F,I,Zd]
  exact ⟨⟨D,H⟩,om⟩
theorem ZaL {N c:Nat} {rec_:List Fd->List Nd} {d:Nat} (S:3<=N) (A:∀g:List Fd,(∀x∈g,smF N x)->g.length<=N->elems (rec_ g)/\Nds.small N (rec_ g)/\(rec_ g).length<=g.length/\Nds.cnt (rec_ g)<=c*g.length):
 ∀(f:Nat) (l:List Fd),(∀x∈l,smF N x)->l.length<=N->Nds.small N (foldsP rec_ d f l)/\(foldsP rec_ d f l).length<=l.length/\Nds.cnt (foldsP rec_ d f l)<=(c+1)*l.length
 |0,l,_,_=>by rw[foldsP];exact ⟨by rw[Nds.small];trivial,Zj _,by rw[Nds.cnt];exact Zj _⟩
 |f+1,[],_,_=>by rw[foldsP];exact ⟨by rw[Nds.small];trivial,Zj _,by rw[Nds.cnt];exact Zj _⟩
 |f+1,x::t,h,hl=>by
  obtain ⟨n,H⟩:∃n,((x::t).takeWhile λy=>decide (pathAt y d=pathAt x d)).length=n:=⟨_,rfl⟩;have D:=IJ x t d;have U:n<=(x::t).length:=by rw[<-H];exact (YE _).length_le
  rw[H] at D;rw[foldsP];(try dsimp only);rw[H];have I:(pathAt x d).size<=N:=by
   unfold pathAt;rw[ZZ];cases hq:x.path[d]? with
   |none=>exact Zj _
   |some p=>exact (h x Zx).1 p (List.mem_of_getElem? hq)
  have J:((x::t).take n).length=n:=by rw[ZM];omega
  have F:((x::t).drop n).length=(x::t).length - n:=Zk;obtain ⟨r1,Y,r3,Z⟩:=A ((x::t).take n) (λy K=>h y (Y4 K)) om;obtain ⟨Q,R⟩:=QC (N:=N) (nm:=outlineL) (ps:= [(textL,lst (pathAt x d))]) (by decide) r1 Y om (by show 1<=4;decide) (λp V=>by rw[Zo.1 V];exact ⟨by show 4<=7;decide,I⟩);obtain ⟨X,i2,i3⟩:=ZaL (d:=d) S A f ((x::t).drop n) (λy K=>h y (Yq K)) om;rw[J] at r3 Z;rw[F] at i2 i3;refine ⟨by rw[Nds.small];exact ⟨Q,X⟩,by rw[Zd];omega,?_⟩;rw[Nds.cnt,R];have e1:(c+1)*(x::t).length=(c+1)*n+(c+1)*((x::t).length - n):=by rw[<-Nat.mul_add];congr 1;omega
  have e2:(c+1)*n=c*n+n:=by rw[Nat.add_mul,Nat.one_mul]
  rw[e1,e2];omega
theorem ZcB {N:Nat} (F:3<=N):∀(f d:Nat) (l:List Fd),(∀x∈l,smF N x)->l.length<=N->Nds.small N (outsP f d l)/\(outsP f d l).length<=l.length/\Nds.cnt (outsP f d l)<=(f+1)*l.length
 |0,d,l,_,_=>by rw[outsP];exact ⟨by rw[Nds.small];trivial,Zj _,by rw[Nds.cnt];exact Zj _⟩
 |f+1,d,l,h,hl=>by
  obtain ⟨n,K⟩:∃n,(l.takeWhile λx=>decide (x.path.length=d)).length=n:=⟨_,rfl⟩
  have J:l.takeWhile (λx=>decide (x.path.length=d))=l.take n:=by rw[<-K];exact YQ.1 (Xx _)
  have S:n<=l.length:=by rw[<-K];exact (YE _).length_le
  have A:(l.take n).length=n:=by rw[ZM];omega
  have H:(l.drop n).length=l.length - n:=Zk
  rw[outsP,J,A]
  obtain ⟨Q,a2⟩:=ZaE F (l.take n) λx D=>h x (Y4 D)
  obtain ⟨b1,b2,b3⟩:=ZaL (c:=f+1) (d:=d) (rec_:=outsP f (d+1)) F (λg R I=>by
   obtain ⟨r1,U,r3⟩:=ZcB F f (d+1) g R I
   exact ⟨J1 _ _ _,r1,U,r3⟩) (l.length+1) (l.drop n) (λx D=>h x (Yq D)) om
  rw[H] at b2 b3
  rw[A] at a2
  refine ⟨(QQ _).2 λx D=>(Zs.1 D).elim ((QQ _).1 Q x) ((QQ _).1 b1 x),by rw[Zb,Zq,A];omega,?_⟩
  rw[Nds.cnt_app,a2]
  have e1:(f+1+1)*l.length=(f+1+1)*n+(f+1+1)*(l.length - n):=by rw[<-Nat.mul_add];congr 1;omega
  have e2:n<=(f+1+1)*n:=Nat.le_mul_of_pos_left _ om
  rw[e1]
  omega
theorem ZdS {l:List Fd} (h:∀x∈l,smF 10000 x) (S:l.length<=10000):(encP l).small 10000/\(encP l).fits 10000/\(docW (encP l)).length<=140737488355328/\(encP l).cnt<=700000:=by
 obtain ⟨U,Y,Z⟩:=ZcB (N:=10000) (by decide) 66 0 l h S;have R:elemN headL []=withP (elemN headL []) []:=rfl;have Q:elemN bodyL (outsP 66 0 l)=withP (elemN bodyL (outsP 66 0 l)) []:=by unfold elemN withP;simp
 obtain ⟨b1,b2⟩:=QC (N:=10000) (nm:=bodyL) (ps:= []) (by decide) (J1 66 0 l) U om (by decide) (by intro p F;cases F);obtain ⟨c1,c2⟩:=QC (N:=10000) (nm:=headL) (K:= []) (ps:= []) (by decide) (by intro k A;cases A) (by rw[Nds.small];trivial) (Zj _) (by decide) (by intro p F;cases F);rw[<-Q] at b1 b2;rw[<-R] at c1 c2;have H:elems [elemN headL [],elemN bodyL (outsP 66 0 l)]:=λk A=>by
  rcases ZH.1 A with rfl|A
  ·rfl
  ·rw[Zo.1 A];rfl
 obtain ⟨I,t2⟩:=QC (N:=10000) (nm:=opmlL) (ps:= [(versionL,twoL)]) (by decide) H (by rw[Nds.small,Nds.small,Nds.small];exact ⟨c1,b1,trivial⟩) (by show 2<=10000;decide) (by show 1<=4;decide) (λp F=>by rw[Zo.1 F];exact ⟨by decide,by decide⟩);have D:=ZeM _ I;have hc:(encP l).cnt<=700000:=by show (withP (elemN opmlL [elemN headL [],elemN bodyL (outsP 66 0 l)]) [(versionL,twoL)]).cnt<=_;rw[t2,Nds.cnt,Nds.cnt,Nds.cnt,b2,c2,Nds.cnt];omega
 have V:(encP l).cnt*(24*10000+100)<=700000*(24*10000+100):=Nat.mul_le_mul_right _ hc;unfold docW;rw[Zb,Zb];have J:headW.length=39:=rfl;have X:(nodeW (encP l)).length<=(encP l).cnt*(24*10000+100):=D;rw[J];refine ⟨I,ZcV (by decide) _ I,?_,hc⟩;show 39+_+1<=_;omega
theorem ZkC {l:List Fd} (h:∀x∈l,smF 10000 x) (H:l.length<=10000):(encP l).small 10000/\(encP l).fits 10000/\(docW (encP l)).length<=140737488355328:=by
 obtain ⟨A,D,F, -⟩:=ZdS h H;exact ⟨A,D,F⟩
end
theorem Zn2 (v:Bool) {c:UInt8} (h:c=38):wescB v c= [38,97,109,112,59]:=by subst h;rfl
theorem Zn3 (v:Bool) {c:UInt8} (h:c=60):wescB v c= [38,108,116,59]:=by subst h;rfl
theorem Zn4 (v:Bool) {c:UInt8} (h:c=62):wescB v c= [38,103,116,59]:=by subst h;rfl
theorem Zn0 (v:Bool) {c:UInt8} (h:c=13):wescB v c= [38,35,49,51,59]:=by subst h;rfl
theorem Zn1 {c:UInt8} (h:c=34):wescB true c= [38,113,117,111,116,59]:=by subst h;rfl
theorem ZoU {c:UInt8} (h:c=9):wescB true c= [38,35,57,59]:=by subst h;rfl
theorem ZnZ {c:UInt8} (h:c=10):wescB true c= [38,35,49,48,59]:=by subst h;rfl
theorem ZoV {c:UInt8} (h:c≠38) (A:c≠60) (D:c≠62) (F:c≠13):wescB false c= []:=by unfold wescB;rw[Ze h,Ze A,Ze D,Ze F];rfl
theorem ZoW {c:UInt8} (h:c≠38) (A:c≠60) (D:c≠62) (F:c≠13) (H:c≠34) (I:c≠9) (J:c≠10):wescB true c= []:=by
 unfold wescB;rw[Ze h,Ze A,Ze D,Ze F,Ze (by decide),Ze H,Ze I,Ze J]
theorem Qt {c d:UInt8} (h:c=d):((c.toNat:Int)==(d.toNat:Int))=true:=by rw[h];simp
theorem Un {c d:UInt8} (h:c≠d):((c.toNat:Int)==(d.toNat:Int))=false:=by
 rw[Zv];intro e;exact h (Xc.1 om)
theorem ZnF (v:Bool) (Z:Int) (hk:(Z==0)= !v) (c:UInt8) (w:Wq):
 Calls prog 127 #[nI Z,.int .u8 (c.toNat:Nat)] w λe w'=>e= .returned (.string (str (wescB v c)))/\w'=w:=by
 obtain ⟨L,J⟩:∃L,wescB v c=L:=⟨_,rfl⟩;rw[J];by_cases A:c=38;have V:((c.toNat:Int)==38)=true:=Qt A;have K:L= [38,97,109,112,59]:=J.symm.trans (Zn2 v A)
 rotate_left
 have V:((c.toNat:Int)==38)=false:=Un A;by_cases D:c=60;have X:((c.toNat:Int)==60)=true:=Qt D;have K:L= [38,108,116,59]:=J.symm.trans (Zn3 v D)
 rotate_left
 have X:((c.toNat:Int)==60)=false:=Un D;by_cases F:c=62;have Y:((c.toNat:Int)==62)=true:=Qt F;have K:L= [38,103,116,59]:=J.symm.trans (Zn4 v F)
 rotate_left
 have Y:((c.toNat:Int)==62)=false:=Un F;by_cases h:c=13;have S:((c.toNat:Int)==13)=true:=Qt h;have K:L= [38,35,49,51,59]:=J.symm.trans (Zn0 v h)
 rotate_left
 have S:((c.toNat:Int)==13)=false:=Un h;cases v;have K:L= []:=J.symm.trans (ZoV A D F h)
 rotate_left
 by_cases I:c=34;have U:((c.toNat:Int)==34)=true:=Qt I;have K:L= [38,113,117,111,116,59]:=J.symm.trans (Zn1 I)
 rotate_left
 have U:((c.toNat:Int)==34)=false:=Un I;by_cases Q:c=9;have q9:((c.toNat:Int)==9)=true:=Qt Q;have K:L= [38,35,57,59]:=J.symm.trans (ZoU Q)
 rotate_left
 have q9:((c.toNat:Int)==9)=false:=Un Q;by_cases H:c=10;have R:((c.toNat:Int)==10)=true:=Qt H;have K:L= [38,35,49,48,59]:=J.symm.trans (ZnZ H)
 rotate_left
 have R:((c.toNat:Int)==10)=false:=Un H;have K:L= []:=J.symm.trans (ZoW A D F h I Q H)
 all_goals
  subst K
  clear J
  (try clear A)
  (try clear D)
  (try clear F)
  (try clear h)
  (try clear I)
  (try clear Q)
  (try clear H)
  go_enter func127,ntmps127
  go_wp2
  go_ret
  exact ⟨rfl,rfl⟩
theorem ZeU (v:Bool) (c:UInt8):(wescB v c).length<=6:=by
 unfold wescB
 repeat' split
 all_goals decide
theorem Zaq (v:Bool):∀l:List UInt8,(wescL v l).length<=6*l.length
 | []=>Zc _
 |c::t=>by
  have h:=Zaq v t
  have A:=ZeU v c
  rw[wescL,Zb,Zd]
  unfold wescC
  split
  ·simp only[Zd,ZK];omega
  ·omega
theorem Zc2 (v:Bool):∀a b:List UInt8,wescL v (a++b)=wescL v a++wescL v b
 | [],b=>rfl
 |c::t,b=>by
  show wescC v c++wescL v (t++b)=(wescC v c++wescL v t)++wescL v b
  rw[Zc2 v t b,Zt]
theorem ZjD (v:Bool) (s:ByteArray) (k:Nat) (h:k<s.size):wescL v (s.data.toList.take (k+1))=wescL v (s.data.toList.take k)++wescC v s[k]:=by
 rw[Zr (by rw[ZN];exact h),Zc2]
 congr 1
 show wescC v _++ []=_;rw[ZV];rfl
theorem Zgr (v:Bool) (kv:Int) (hh:(kv==0)= !v) (s:ByteArray) (w:Wq) (hs:s.size<=16777216):
 Calls prog 126 #[nI kv,.func (.func 127) #[] #[],.string s] w λe w'=>e= .returned (.string (str (wescL v s.data.toList)))/\Ext w w':=by
 obtain ⟨Q,hQ⟩:∃Q,wescL v s.data.toList=Q:=⟨_,rfl⟩;rw[hQ];have HQ:=gd hQ;have hl:=gd hh;clear hQ hh;go_enter func126,ntmps126;go_wp2;go_loopw [8,9,10,13] (λfr _ _ i wr=>∃k f:Nat,k<=s.size/\f<=k/\i=nI k/\fr=nI f/\Lib.IsBuilder 96 5 w.heap.size w.heap.size (Lib.byteCells (wescL v (s.data.toList.take f))) wr/\
  Hid (wescL v (s.data.toList.take k)=wescL v (s.data.toList.take f)++(s.data.toList.drop f).take (k - f))/\Ext w wr/\w.heap.size<=wr.heap.size) (λ_ _ _ i _=>s.size - (intOf i).toNat)
 case atStart=>exact ⟨0,0,Zj _,Zj _,rfl,rfl,Lib.fresh_isBuilder _ _ _,(by show _=_;simp),(Ext.refl w).alloc _,(by rw[Zu];omega)⟩
 case round=>
  obtain ⟨k,f,hk,hf,rfl,rfl,hB,hq,ha,F⟩:=hrel;have hu:(wescL v (s.data.toList.take f)).length<=6*s.size:=by have h1:=Zaq v (s.data.toList.take f);have h2:(s.data.toList.take f).length<=s.size:=(by rw[ZM,ZN];omega);omega
  by_cases hi:k<s.size
  ·have K:=ZnF v kv hl.out s[k] wr;have A:=ZjD v s k hi;have H:=ZhL s f k hf hi;unfold wescC at A;have D:=ZeU v s[k];obtain ⟨E,Z⟩:∃E,wescB v s[k]=E:=⟨_,rfl⟩;rw[Z] at K A D;have hc:=gd K;by_cases Y:E= []
   ·subst Y;rw[Zi rfl] at A;have X:Hid (wescL v (s.data.toList.take (k+1))=wescL v (s.data.toList.take f)++(s.data.toList.drop f).take (k+1 - f)):=(by show _=_;rw[A,hq.out,H,Zt]);have hp:(str ([]:List UInt8)).toList.isEmpty=true:=UN [];clear K A H Z hq D
    go_wp2_with (first|(go_at_call 127;refine Za hc.out ?_;rintro e w' ⟨rfl,rfl⟩))
    go_roundw
    case rel=>exact ⟨k+1,f,om,om,by go_num,rfl,hB,X,ha,F⟩
    case measure=>simp[intOf];omega
   ·rw[Ze Y] at A;have X:Hid (Lib.byteCells (wescL v (s.data.toList.take (k+1)))=Lib.byteCells (wescL v (s.data.toList.take f))++Lib.byteCells (s.extract f k).data.toList++Lib.byteCells (str E).data.toList):=(by show _=_;rw[A,hq.out,U3 s f k hf,Z3,Yl,Yl]);have hp:(str E).toList.isEmpty=false:=(by rw[UN];cases E<;>simp_all);have U:(s.extract f k).size<=16777216:=(by rw[ByteArray.size_extract];omega);have V:(str E).size<=6:=(by rw[YN];exact D);have hd:=gd U;have hn:=gd V;clear K A H Z hq Y U V D
    go_wp2_with (first|(go_at_call 127;refine Za hc.out ?_;rintro e w' ⟨rfl,rfl⟩))
    refine (Xo _ _ _ _ _ hB (by rw[YT];have:=hd.out;omega) F).mono ?_;rintro e w4 ⟨rfl,J,I⟩
    go_wp2_with fail
    have hr:(Lib.byteCells (wescL v (s.data.toList.take f))++Lib.byteCells (s.extract f k).data.toList).length<=6*s.size+16777216:=(by rw[Zb,YT,YT];have h1:(s.extract f k).data.toList.length=(s.extract f k).size:=rfl;have h2:=hd.out;omega);have hm:=gd hr;have hv:=I.size;refine (Xo _ _ _ _ _ J (by have:=hm.out;have:=hn.out;omega) om).mono ?_;rintro e w5 ⟨rfl,he,R⟩;rw[<-X.out] at he;go_wp2;have hb:Ext w w5:=(ha.then (XF I (Zc _))).then (XF R (Zc _));have ht:=R.size;go_roundw
    case rel=>exact ⟨k+1,k+1,om,om,by go_num,by go_num,he,by show _=_;simp,hb,om⟩
    case measure=>simp[intOf];omega
  ·have hg:k=s.size:=om;have hj:(s.extract f s.size).size<=16777216:=(by rw[ByteArray.size_extract];omega);have S:Lib.byteCells (wescL v (s.data.toList.take f))++Lib.byteCells (s.extract f s.size).data.toList=Lib.byteCells Q:=by
    rw[<-Yl,Gx]
    congr 1
    have h:=hq.out;have e1:s.data.toList.take s.size=s.data.toList:=ZQ (by rw[ZN];exact Zc _);have e2:(s.data.toList.drop f).take (s.size - f)=s.data.toList.drop f:=ZQ (by rw[Zk,ZN];exact Zc _);rw[hg,e1,e2,HQ.out] at h;exact h.symm
   have HF:=gd S;have ho:=gd hj;clear S hq hg hj
   go_wp2_with fail
   refine (Xo _ _ _ (s.extract f s.size) _ hB (by rw[YT];have:=ho.out;omega) F).mono ?_;rintro e w4 ⟨rfl,J,I⟩;rw[HF.out] at J;have ht:=I.size;have R:Ext w w4:=ha.then (XF I (Zc _))
   go_wp2_with (go_at_call 56;refine (JD _ _ _ _ J om).mono ?_;rintro e w5 ⟨rfl,hb⟩)
   go_ret;exact ⟨rfl,R.then (XF hb (Zc _))⟩
theorem Zie (s:ByteArray) (w:Wq) (h:s.size<=16777216):
 Calls prog 83 #[.string s] w λe w'=>e= .returned (.string (str (wescL false s.data.toList)))/\Ext w w':=by
 have H:=gd (Zgr false 0 rfl s w h);go_enter func83,ntmps83
 go_wp2_with (go_at_call 126;refine Za H.out ?_;rintro e w' ⟨rfl,A⟩)
 go_ret;exact ⟨rfl,A⟩
theorem Zid (s:ByteArray) (w:Wq) (h:s.size<=16777216):
 Calls prog 84 #[.string s] w λe w'=>e= .returned (.string (str (wescL true s.data.toList)))/\Ext w w':=by
 have H:=gd (Zgr true 1 rfl s w h);go_enter func84,ntmps84
 go_wp2_with (go_at_call 126;refine Za H.out ?_;rintro e w' ⟨rfl,A⟩)
 go_ret;exact ⟨rfl,A⟩
theorem ZdJ (s:ByteArray) (w:Wq) (J:Env w) (Q:s.size<=16777216):
 Calls prog 177 #[.string s] w λe w'=>e= .returned (.bool (charsOk s.data.toList))/\Ext w w':=by
 have A:=V6 s w J (by unfold maxLen;omega);have hc:charsOk s.data.toList=decide ((checkS s).2=0):=rfl;obtain ⟨a,F⟩:∃a,(checkS s).1=a:=⟨_,rfl⟩;obtain ⟨b,D⟩:∃b,(checkS s).2=b:=⟨_,rfl⟩;rw[hc];rw[F,D] at A;rw[D];have H:=gd A;clear A hc F D;have I:((b:Int)==0)=decide (b=0):=by
  by_cases h:b=0
  ·rw[h];rfl
  ·rw[Yd h,Zv];omega
 rw[<-I];clear I;go_enter func177,ntmps177
 go_wp2_with (go_at_call 150;refine Za H.out ?_;rintro e w' ⟨rfl,K⟩)
 go_ret;exact ⟨rfl,K⟩
end Go.Proofs.YtnlafkgkcnenfaaGreatDoor
