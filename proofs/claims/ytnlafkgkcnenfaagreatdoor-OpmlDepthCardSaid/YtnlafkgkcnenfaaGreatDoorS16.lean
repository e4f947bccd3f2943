/- Parts of the proof: contracts and plain laws. -/
import Derived.Test.YtnlafkgkcnenfaaGreatDoorS13
namespace Go.Proofs.YtnlafkgkcnenfaaGreatDoor
open Go Go.RowKit Go.WideMaps Go.Maps Go.Sort Tryz
set_option linter.unusedVariables false
set_option linter.unusedSimpArgs false
set_option maxRecDepth 100000
set_option maxHeartbeats 16000000
section
variable {P:Program} {e:TypeId} {k n:Nat} {v:Value} {w:World} {α:Type}
def SeenMap (D:DataW Unit) (p:ByteArray->Bool):Prop:=
 IsMap D/\∀s:ByteArray,D.atKey (.string s.data.toList) (.lit (.bool false))= .lit (.bool (p s))
theorem SeenMap.nil:SeenMap (.map []) (λ_=>false):=⟨isMap_empty,λ_=>rfl⟩
theorem SeenMap.put {D:DataW Unit} {p q:ByteArray->Bool} {s:ByteArray} (h:SeenMap D p) (H:∀t,q t=(p t||decide (s=t))):SeenMap (D.put (.string s.data.toList) (.lit (.bool true))) q:=by
 refine ⟨h.1.put _ _,λt=> ?_⟩;rw[H];by_cases e:s=t
 ·subst e;rw[atKey_put_same h.1 (GE _)];simp
 ·have F:(Lit.string t.data.toList)≠ .string s.data.toList:=by intro A;injection A with A;exact e (G1 A).symm
  rw[atKey_put_other F,h.2 t];simp[e]
theorem GG (q:P.underlying e=some .bool) {z:DataW Unit×List MemPlace} (h:plainElem P e v=some z):∃b:Bool,v= .bool b/\z=(.lit (.bool b),[]):=by
 unfold plainElem at h;rw[q] at h;cases v<;>simp at h;exact ⟨_,rfl,h.symm⟩
theorem Zju (w:Wq):(zeroValue 4).run prog w= .ok (.bool false) w:=by kernel_rfl
theorem K2 {b:Nat} {D:DataW Unit} {p:ByteArray->Bool} {s:ByteArray} (F:w.ownsMap prog 9 (plainElem prog 4) b n D) (h:SeenMap D p) (H:s.size<=maxLen):
 (Instr.lookup 183 (.map (some b)) (.string s) false).run prog w= .ok (.bool (p s)) w:=by
 obtain ⟨v,ps,q,I⟩:=F.lookup Ur underlying183 (Zju w) (plainElem_bool underlying4 false) (keyOf_string_mk underlying9 H);obtain ⟨c,rfl,A⟩:=GG underlying4 I;rw[h.2 s] at A;simp only[Prod.mk.injEq,DataW.lit.injEq,Lit.bool.injEq] at A;rw[q,A.1]
theorem EO {κ:Type} [DecidableEq κ] {ok:α->Bool} {O:Ord α κ} {l:List α} (A:k<l.length) (h:okAt ok O l k=false):okL ok O l=false:=by
 rw[Xu];intro q;have:=Yq.1 q k (List.mem_range.2 A);rw[h] at this;cases this
theorem ZbI {κ:Type} [DecidableEq κ] {ok:α->Bool} {O:Ord α κ} {l:List α} (h:∀k,k<l.length->okAt ok O l k=true):okL ok O l=true:=
 Yq.2 λk q=>h k (List.mem_range.1 q)
theorem Ql {l:List α} {id:α->ByteArray} {s:ByteArray} (h:(l.take k).any (λx=>decide (id x=s))=false):∀j (q:j<l.length),j<k->id l[j]≠s:=λj q A e=>by
 rw[List.any_eq_false] at h;exact h l[j] (List.mem_take_iff_getElem.2 ⟨j,by omega,rfl⟩) (by simpa using e)
theorem Gb {l:List α} {id:α->ByteArray} {s:ByteArray} (h:(l.take k).any (λx=>decide (id x=s))=true):∃j,∃A:j<l.length,j<k/\id l[j]=s:=by
 rw[Xp] at h;obtain ⟨x,D,q⟩:=h;obtain ⟨j,A,rfl⟩:=List.mem_take_iff_getElem.1 D;exact ⟨j,by omega,by omega,by simpa using q⟩
theorem ZcB (v:Value) (l:List Ent) (w:Wq) (hE:Env w) (h:REnts w v l) (hs:∀x∈l,eokS x) (hn:l.length<=1000000):
 Calls prog 131 #[v,.func (.func 132) #[] #[],.func (.func 114) #[] #[],.func (.func 129) #[] #[]] w λe w'=>e= .returned (.bool (okL okE ordE l))/\Ext w w':=by
 obtain ⟨A,c,rfl, -, -⟩:=h.form;have gc:= @run_makeMap prog;obtain ⟨R,hR⟩:∃R,okL okE ordE l=R:=⟨_,rfl⟩;rw[hR];have HR:=gd hR;have HS:=gd hs;have HH:=gd h;have hU:=gd hE;clear hR hs h hE;go_enter func131,ntmps131;go_wp2;go_loopw [15] (λi wr=>∃(k:Nat) (D:DataW Unit),k<=l.length/\i=nI k/\wr.ownsMap prog 9 (plainElem prog 4) w.heap.size k D/\Hid (SeenMap D (λs=>(l.take k).any (λe=>decide (e.id=s))))/\Hid (∀j,j<k->okAt okE ordE l j=true)/\Ext w wr) (λi _=>l.length - (intOf i).toNat)
 case atStart=>exact ⟨0,.map [],Zk _,rfl,World.ownsMap_made _ _ _ _,gd SeenMap.nil,gd (λj h=>by omega),(Ext.refl _).alloc _⟩
 case round=>
  obtain ⟨k,D,hk,rfl,hM,hD,hl,J⟩:=hrel;by_cases ha:k<l.length
  ·obtain ⟨ad,c1,e1,hG⟩:=(REnts.ext HH.out J).at ha;injection e1 with e1 e1' e1'';subst e1;clear e1' e1'';have hy:l[k]∈l:=ZL ha;have ho:=HS.out _ hy;have hS:=Zx ha;have Z:=UP (ok:=okE) (O:=ordE) ha;have hb:∃b,(l.take k).any (λe=>decide (e.id=l[k].id))=b:=⟨_,rfl⟩;obtain ⟨b,hb⟩:=hb;have hH:b=false->∀j (hj:j<k),ordE.id l[j]≠ordE.id l[k]:=λe j hj=>Ql (id:=Ent.id) (hb.trans e) j (by omega) hj;have hP:b=true->okAt okE ordE l k=false:=λe=>(by rw[Xu];intro h;obtain ⟨j,hj,hZ,he⟩:=Gb (id:=Ent.id) (hb.trans e);exact (Z.1 h).2.2 j hZ he);have V:Hid (okAt okE ordE l k=false->R=false):=gd λh=>(by rw[<-HR.out];exact EO ha h);have Y:Hid (SeenMap (D.put (.string l[k].id.data.toList) (.lit (.bool true))) (λs=>(l.take (k+1)).any (λe=>decide (e.id=s)))):=gd (hD.out.put λt=>by rw[hS,List.any_append];simp);obtain ⟨E,hW⟩:∃E,l[k]=E:=⟨_,rfl⟩;rw[hW] at hG ho hb Y Z hH;have X:=gd Z;have hK:=gd hH;have hL:=gd hP;have hx:keyOf prog 9 (.string E.id)=some (.string E.id.data.toList):=keyOf_string_mk underlying9 (by have:=ho.1;unfold maxLen;omega);have h3:E.id.size<=maxLen:=(by have:=ho.1;unfold maxLen;omega);have hd:=gd hx;have HM:=gd hM;have S:=gd ha;clear Z hH hP hS hy hx;obtain ⟨W1,hu⟩:∃W1,wr.alloc (.cells (eCells E).toArray 76)=W1:=⟨_,rfl⟩;have hw:Ext wr W1:=(by rw[<-hu];exact (Ext.refl _).alloc _);have hp:=λz:Aft W1=>K2 (hM.kept ((hw.trans z.ext).grown none) (by simp)) hD.out h3;simp only[hb] at hp;have H:=gd (λz:Aft W1=>ZdY E z.w (hU.out.ext (J.trans (hw.trans z.ext))) ho);have I:=gd (λz:Wq=>Zfn E z);have hv:W1.heap[wr.heap.size]? =some (.cells (eCells E).toArray 76):=(by rw[<-hu];exact Zg _ _);have Q:=gd hw;have h6:(0:Int)<=(k:Int):=(by omega);have h8:(k:Int)<(l.length:Int):=(by omega);have hN:Hid (k<maxLen):=gd (by unfold maxLen;omega);clear hw hM hb;obtain ⟨id,title,link,content,upd⟩:=E;unfold eCells at hu hv H I;dsimp only at hu hv H I hG hp Y hd;obtain ⟨b0,b1,b2,b3,b4⟩:=Zkt hv;obtain ⟨a0,a1,a2,a3,a4⟩:=hG;have B0:=λz:Aft W1=>Aft.cell b0 z;have B1:=λz:Aft W1=>Aft.cell b1 z;have B2:=λz:Aft W1=>Aft.cell b2 z;have B3:=λz:Aft W1=>Aft.cell b3 z;have B4:=λz:Aft W1=>Aft.cell b4 z;clear b0 b1 b2 b3 b4 hv;dsimp only at a0 a1 a2 a3 a4;cases hok:okE ⟨id,title,link,content,upd⟩ with
   |false=>
    have hR:=V.out (by
     rw[Xu];intro h;have h1:=(X.out.1 h).1;rw[hok] at h1;cases h1)
    subst hR;rw[hok] at H;clear hok;simp only[JG,ZkC] at H;go_wp2;refine rA ?_
    repeat (first|go_big_quiet_step ((first|(go_at_call 132;with_reducible exact ZO (H.out _))|(go_at_call 129;with_reducible exact ZO (I.out _))))|quiet_step ((first|(go_at_call 132;with_reducible exact ZO (H.out _))|(go_at_call 129;with_reducible exact ZO (I.out _)))))
    refine YH ?_;rintro _ ⟨d1,rfl⟩;go_wp2;go_ret;exact ⟨rfl,J.trans (Q.out.trans d1.ext)⟩
   |true=>
    have hO:=gd hok;rw[hok] at H;clear hok;simp only[Zjw] at H;rcases YY k with h0|hQ
    ·cases b with
     |true=>
      have hR:=V.out (hL.out rfl);subst hR;subst h0;simp only[Xf,add_zero] at a0 a1 a2 a3 a4;go_wp2;refine rA ?_
      repeat (first|go_big_quiet_step ((first|(go_at_call 132;with_reducible exact ZO (H.out _))|(go_at_call 129;with_reducible exact ZO (I.out _))))|quiet_step ((first|(go_at_call 132;with_reducible exact ZO (H.out _))|(go_at_call 129;with_reducible exact ZO (I.out _)))))
      refine YH ?_
      rintro _ ⟨d1,rfl⟩
      go_wp2
      go_ret
      exact ⟨rfl,J.trans (Q.out.trans d1.ext)⟩
     |false=>
      have U:=gd (X.out.2 ⟨hO.out,λh=>absurd h (by omega),hK.out rfl⟩)
      subst h0
      simp only[Xf,add_zero] at a0 a1 a2 a3 a4
      go_wp2
      refine rA ?_
      repeat (first|go_big_quiet_step ((first|(go_at_call 132;with_reducible exact ZO (H.out _))|(go_at_call 129;with_reducible exact ZO (I.out _))))|quiet_step ((first|(go_at_call 132;with_reducible exact ZO (H.out _))|(go_at_call 129;with_reducible exact ZO (I.out _)))))
      refine YH ?_
      rintro _ ⟨d1,rfl⟩
      have hA:=gd (HM.out.kept ((Q.out.trans d1.ext).grown none) (by simp))
      have hC:=gd (J.trans (Q.out.trans d1.ext))
      have D0:=B0 d1
      have D1:=B1 d1
      have D2:=B2 d1
      have D3:=B3 d1
      have D4:=B4 d1
      clear B0 B1 B2 B3 B4 hp
      go_wp2_with (first|(go_at_call 129;(with_reducible refine Za (I.out _) ?_);rintro e w2 ⟨rfl,hm⟩)|(at_mapUpdate;(refine Ua _ rfl (.tmp 46) (.tmp 49) (.const (.bool true)) 183 rfl 9 4 Ur underlying183 _ w.heap.size 0 D rfl (hA.out.kept (hm.grown none) (by simp)) hN.out _ _ _ rfl rfl hd.out _ [] (plainElem_bool underlying4 true) ?_);intro w5 hh hi))
      have hI:Ext w w5:=Ext.grown' (B:=0) (hC.out.trans hm) hi (λb hb=>by cases hb;exact Zb _)
      have hB:=gd hh
      clear hh hi
      go_roundw
      case rel=>exact ⟨0+1,_,S.out,by go_num,hB.out,Y,gd (λt ht=>by
       by_cases e:t=0
       ·rw[e];exact U.out
       ·exact hl.out t (by omega)),hI⟩
      case measure=>simp[intOf];have:=S.out;omega
    ·obtain ⟨q,hq⟩:∃q,k=q+1:=⟨k - 1,by omega⟩;have h4:q<l.length:=(by have:=S.out;omega);obtain ⟨af,c3,e3,hF⟩:=(REnts.ext HH.out (J.trans Q.out)).at h4;injection e3 with e3 e3' e3'';injection e3 with e3;subst e3;clear e3' e3'';have hr:l[k - 1]'(Nat.lt_of_le_of_lt (GQ _ _) S.out)=l[q]:=(by subst hq;rfl);obtain ⟨F,hF,hr⟩:∃F:Ent,AtEnt W1 (ad.add (q*5)) F/\l[k - 1]'(Nat.lt_of_le_of_lt (GQ _ _) S.out)=F:=⟨_,hF,hr⟩;have hf:=gd hr;have K:ordE.lt F ⟨id,title,link,content,upd⟩=decide (entCmp F ⟨id,title,link,content,upd⟩<0):=rfl;have M:=gd (λz:Aft W1=>Gy F ⟨id,title,link,content,upd⟩ z.w);obtain ⟨cc,hc⟩:∃cc,entCmp F ⟨id,title,link,content,upd⟩=cc:=⟨_,rfl⟩;rw[hc] at K;simp only[hc] at M;clear hr hc;obtain ⟨h7,hT,hV,hJ,h5⟩:=F;obtain ⟨k0,k1,k2,k3,k4⟩:=hF;dsimp only at k0 k1 k2 k3 k4;have C0:=λz:Aft W1=>Aft.cell k0 z;have C1:=λz:Aft W1=>Aft.cell k1 z;have C2:=λz:Aft W1=>Aft.cell k2 z;have C3:=λz:Aft W1=>Aft.cell k3 z;have C4:=λz:Aft W1=>Aft.cell k4 z;clear k0 k1 k2 k3 k4;have h9:(0:Int)<(k:Int):=(by omega);have gb:wrap64 ((k:Int) - 1)=(q:Int):=(by rw[Zgg _ ⟨by omega,by omega⟩];omega);have ga:(k:Int) - 1=(q:Int):=(by omega);have ge:(0:Int)<=(q:Int):=(by omega);have gf:(q:Int)<(l.length:Int):=(by omega);unfold eCells at M;dsimp only at M;by_cases hz:cc<0
     ·have hg:Hid (∀h:0<k,ordE.lt (l[k - 1]'(Nat.lt_of_le_of_lt (GQ _ _) S.out)) ⟨id,title,link,content,upd⟩=true):=gd (λh=>by rw[hf.out,K];exact YQ hz);have hY:¬(0:Int)<=cc:=(by omega);cases b with
      |true=>
       have hR:=V.out (hL.out rfl);subst hR;clear K hq hf;go_wp2;refine rA ?_
       repeat (first|go_big_quiet_step ((first|(go_at_call 132;with_reducible exact ZO (H.out _))|(go_at_call 114;with_reducible exact ZO (M.out _))|(go_at_call 129;with_reducible exact ZO (I.out _))))|quiet_step ((first|(go_at_call 132;with_reducible exact ZO (H.out _))|(go_at_call 114;with_reducible exact ZO (M.out _))|(go_at_call 129;with_reducible exact ZO (I.out _)))))
       refine YH ?_
       rintro _ ⟨d1,rfl⟩
       go_wp2
       go_ret
       exact ⟨rfl,J.trans (Q.out.trans d1.ext)⟩
      |false=>
       have U:=gd (X.out.2 ⟨hO.out,hg.out,hK.out rfl⟩)
       clear K hq hf hg
       go_wp2
       refine rA ?_
       repeat (first|go_big_quiet_step ((first|(go_at_call 132;with_reducible exact ZO (H.out _))|(go_at_call 114;with_reducible exact ZO (M.out _))|(go_at_call 129;with_reducible exact ZO (I.out _))))|quiet_step ((first|(go_at_call 132;with_reducible exact ZO (H.out _))|(go_at_call 114;with_reducible exact ZO (M.out _))|(go_at_call 129;with_reducible exact ZO (I.out _)))))
       refine YH ?_
       rintro _ ⟨d1,rfl⟩
       have hA:=gd (HM.out.kept ((Q.out.trans d1.ext).grown none) (by simp))
       have hC:=gd (J.trans (Q.out.trans d1.ext))
       have D0:=B0 d1
       have D1:=B1 d1
       have D2:=B2 d1
       have D3:=B3 d1
       have D4:=B4 d1
       clear B0 B1 B2 B3 B4 hp
       go_wp2_with (first|(go_at_call 129;(with_reducible refine Za (I.out _) ?_);rintro e w2 ⟨rfl,hm⟩)|(at_mapUpdate;(refine Ua _ rfl (.tmp 46) (.tmp 49) (.const (.bool true)) 183 rfl 9 4 Ur underlying183 _ w.heap.size k D rfl (hA.out.kept (hm.grown none) (by simp)) hN.out _ _ _ rfl rfl hd.out _ [] (plainElem_bool underlying4 true) ?_);intro w5 hh hi))
       have hI:Ext w w5:=Ext.grown' (B:=0) (hC.out.trans hm) hi (λb hb=>by cases hb;exact Zb _)
       have hB:=gd hh
       clear hh hi
       go_roundw
       case rel=>exact ⟨k+1,_,S.out,by go_num,hB.out,Y,gd (λt ht=>by
        by_cases e:t=k
        ·rw[e];exact U.out
        ·exact hl.out t (by omega)),hI⟩
       case measure=>simp[intOf];have:=S.out;omega
     ·have hR:=V.out (by
       rw[Xu]
       intro h
       have h1:=(X.out.1 h).2.1 hQ
       rw[hf.out,K] at h1
       exact hz (Y4 h1))
      subst hR
      have hY:(0:Int)<=cc:=(by omega)
      clear K hq hf
      go_wp2
      refine rA ?_
      repeat (first|go_big_quiet_step ((first|(go_at_call 132;with_reducible exact ZO (H.out _))|(go_at_call 114;with_reducible exact ZO (M.out _))|(go_at_call 129;with_reducible exact ZO (I.out _))))|quiet_step ((first|(go_at_call 132;with_reducible exact ZO (H.out _))|(go_at_call 114;with_reducible exact ZO (M.out _))|(go_at_call 129;with_reducible exact ZO (I.out _)))))
      refine YH ?_
      rintro _ ⟨d1,rfl⟩
      go_wp2
      go_ret
      exact ⟨rfl,J.trans (Q.out.trans d1.ext)⟩
  ·have h2:k=l.length:=(by omega);subst h2;have hX:R=true:=(by rw[<-HR.out];exact ZbI hl.out);subst hX;go_wp2;go_ret;exact ⟨rfl,J⟩
end
theorem Zfd (v:Value) (x:ByteArray) (l:List ByteArray) (w:Wq) (h:RStrs w v l) (hn:l.length<=16777216):
 Calls prog 151 #[v,.string x] w λe w'=>(∃i:Int,e= .returned (nI i)/\(((l.any λs=>decide (s=x))=true/\0<=i)\/((l.any λs=>decide (s=x))=false/\i<0)))/\w=w':=by
 obtain ⟨A,c,rfl, -, -⟩:=h.form;obtain ⟨R,U⟩:∃R,(l.any λs=>decide (s=x))=R:=⟨_,rfl⟩;rw[U];have HR:=gd U;have HH:=gd h;clear U h;go_enter func151,ntmps151;go_wp2;go_loopw [8] (λi wr=>∃k:Nat,k<=l.length/\i=nI k/\Hid (∀s∈l.take k,s≠x)/\w=wr) (λi _=>l.length - (intOf i).toNat)
 case atStart=>exact ⟨0,Zk _,rfl,gd (by simp),rfl⟩
 case round=>
  obtain ⟨k,hk,rfl,F,rfl⟩:=hrel;by_cases D:k<l.length
  ·obtain ⟨ad,c1,e1,hc⟩:=(HH.out).at D;injection e1 with e1 e1' e1'';subst e1;clear e1' e1'';have H:l[k]∈l:=ZL D;have J:=Zx D;have q:l[k]=x->R=true:=λh=>(by rw[<-HR.out,Xp];exact ⟨_,H,by simpa using h⟩);obtain ⟨p,M⟩:∃p,l[k]=p:=⟨_,rfl⟩;rw[M] at hc J q;have S:=gd J;have K:(0:Int)<=(k:Int):=(by omega);have ha:(k:Int)<(l.length:Int):=(by omega);clear M H J;cases hyz:(x.toList==p.toList) with
   |true=>have X:=q (toList_inj (by simpa using hyz)).symm;subst X;clear q;go_wp2;go_ret;exact ⟨⟨_,rfl,K⟩,rfl⟩
   |false=>
    have Q:=gd (show p≠x from λe=>by rw[e] at hyz;simp at hyz);clear q;go_wp2;go_roundw
    case rel=>exact ⟨k+1,D,by go_num,gd (λs I=>by
     rw[S.out] at I;rcases Zt.1 I with I|I
     ·exact F.out s I
     ·rw[Zo.1 I];exact Q.out),(by first|trivial|rfl)⟩
    case measure=>simp[intOf];omega
  ·have Z:k=l.length:=(by omega);subst Z;have Y:=F.out;rw[ZT (Zb _)] at Y;have V:R=false:=(by rw[<-HR.out,List.any_eq_false];intro s I;simpa using Y s I);subst V;clear Y;go_wp2;go_ret;exact ⟨⟨_,rfl,by omega⟩,rfl⟩
theorem X7 (v:Value) (x:ByteArray) (l:List ByteArray) (w:Wq) (h:RStrs w v l) (H:l.length<=16777216):
 Calls prog 104 #[v,.string x] w λe w'=>e= .returned (.bool (l.any λs=>decide (s=x)))/\w=w':=by
 have q:=gd (Zfd v x l w h H);obtain ⟨A,c,rfl, -, -⟩:=h.form;obtain ⟨R,D⟩:∃R,(l.any λs=>decide (s=x))=R:=⟨_,rfl⟩;simp only[D] at q|-;clear h D;go_enter func104,ntmps104
 go_wp2_with (first|(go_at_call 151;(with_reducible refine Za (q.out) ?_);rintro e I ⟨⟨i,rfl,F⟩,rfl⟩))
 go_ret;rcases F with ⟨rfl,h⟩|⟨rfl,h⟩
 ·exact ⟨by simp[h],rfl⟩
 ·exact ⟨by simp;omega,rfl⟩
theorem Zhh (x:Fc) (w:Wq) (M:Env w) (R:RdC w x) (Q:fokS x.f) (K:¬x.f.path.length<=64):
 Calls prog 87 #[.agg (cellsC x).toArray] w λe w'=>e= .returned (nI 22)/\Ext w w':=by
 obtain ⟨⟨z0,V⟩,X,z3⟩:=Q;have J:=gd (λw'=>Xy (false) w');obtain ⟨xp,S,⟨h,U,D,H,I,F⟩⟩:=x;obtain ⟨q,A⟩:=R;dsimp only at*;obtain ⟨xA,xc,rfl, -, -⟩:=q.form;obtain ⟨xB,xd,rfl, -, -⟩:=A.form;have Z:¬(h.length:Int)<=64:=by omega
 clear q A z0 V X z3 M K;unfold cellsC fCells;dsimp only;go_enter func87,ntmps87
 go_wp2_with (first|(go_at_call 85;(with_reducible refine Za (J.out _) ?_);rintro Y w9 ⟨rfl,rfl⟩))
 all_goals go_ret
 all_goals exact ⟨rfl,(Ext.refl _).alloc _⟩
theorem Zhi (x:Fc) (w:Wq) (S:Env w) (K:RdC w x) (U:fokS x.f) (R:x.f.path.length<=64) (c0:(x.f.path.any λs=>decide (s=⟨#[]⟩))=true):
 Calls prog 87 #[.agg (cellsC x).toArray] w λe w'=>e= .returned (nI 22)/\Ext w w':=by
 obtain ⟨⟨z0,Y⟩,Z,z3⟩:=U;have A:=gd (λ(w':Wq) (h:Ext w w')=>X7 x.p ⟨#[]⟩ x.f.path w' (K.1.ext h) (by omega));rw[c0] at A;have Q:=gd (λw'=>Xy (false) w');obtain ⟨xp,V,⟨q,X,H,J,M,I⟩⟩:=x;obtain ⟨D,F⟩:=K;dsimp only at*;obtain ⟨xA,xc,rfl, -, -⟩:=D.form;obtain ⟨xB,xd,rfl, -, -⟩:=F.form;have hb:(q.length:Int)<=64:=by omega
 clear D F z0 Y Z z3 S R c0;unfold cellsC fCells;dsimp only;go_enter func87,ntmps87
 go_wp2_with (first|(go_at_call 104;(with_reducible refine Za (A.out _ ((Ext.refl w).alloc _)) ?_);rintro e3 w3 ⟨rfl,rfl⟩)|(go_at_call 85;(with_reducible refine Za (Q.out _) ?_);rintro e9 w9 ⟨rfl,rfl⟩))
 all_goals go_ret
 all_goals exact ⟨rfl,(Ext.refl _).alloc _⟩
theorem Zhj (x:Fc) (w:Wq) (R:Env w) (K:RdC w x) (X:fokS x.f) (V:x.f.path.length<=64) (c0:(x.f.path.any λs=>decide (s=⟨#[]⟩))=false) (v0:x.f.path.all validS=false):
 Calls prog 87 #[.agg (cellsC x).toArray] w λe w'=>e= .returned (nI 22)/\Ext w w':=by
 obtain ⟨⟨z0,z1⟩,z2,z3⟩:=X;have D:=gd (λ(w':Wq) (h:Ext w w')=>X7 x.p ⟨#[]⟩ x.f.path w' (K.1.ext h) (by omega));rw[c0] at D;have F:=gd (λ(w':Wq) (h:Ext w w')=>Um x.p x.f.path w' (R.ext h) (K.1.ext h) (λs Y=>by have:=X9 Y;omega) (by omega));rw[v0] at F;have U:=gd (λw'=>Xy (false) w');obtain ⟨xp,Z,⟨A,ha,J,Q,S,M⟩⟩:=x;obtain ⟨H,I⟩:=K;dsimp only at*;obtain ⟨xA,xc,rfl, -, -⟩:=H.form;obtain ⟨xB,xd,rfl, -, -⟩:=I.form;have hb:(A.length:Int)<=64:=by omega
 clear H I z0 z1 z2 z3 R V c0 v0;unfold cellsC fCells;dsimp only;go_enter func87,ntmps87
 go_wp2_with (first|(go_at_call 104;(with_reducible refine Za (D.out _ ((Ext.refl w).alloc _)) ?_);rintro e3 w3 ⟨rfl,rfl⟩)|(go_at_call 128;(with_reducible refine Za (F.out _ ((Ext.refl w).alloc _)) ?_);rintro e4 w4 ⟨rfl,q⟩;(have k1:=q.boxed 1 _ rfl);(have k2:=q.boxed 2 _ rfl);(have k3:=q.boxed 3 _ rfl);(have k4:=q.boxed 4 _ rfl))|(go_at_call 85;(with_reducible refine Za (U.out _) ?_);rintro e9 w9 ⟨rfl,rfl⟩))
 all_goals go_ret
 all_goals exact ⟨rfl,((Ext.refl _).alloc _).trans q⟩
theorem Zhk (x:Fc) (w:Wq) (R:Env w) (K:RdC w x) (X:fokS x.f) (V:x.f.path.length<=64) (c0:(x.f.path.any λs=>decide (s=⟨#[]⟩))=false) (v0:x.f.path.all validS=true) (i0:x.f.id.toList.isEmpty=true):
 Calls prog 87 #[.agg (cellsC x).toArray] w λe w'=>e= .returned (nI 22)/\Ext w w':=by
 obtain ⟨⟨z0,z1⟩,z2,z3⟩:=X;have D:=gd (λ(w':Wq) (h:Ext w w')=>X7 x.p ⟨#[]⟩ x.f.path w' (K.1.ext h) (by omega));rw[c0] at D;have F:=gd (λ(w':Wq) (h:Ext w w')=>Um x.p x.f.path w' (R.ext h) (K.1.ext h) (λs Y=>by have:=X9 Y;omega) (by omega));rw[v0] at F;have U:=gd (λw'=>Xy (false) w');obtain ⟨xp,Z,⟨A,ha,J,Q,S,M⟩⟩:=x;obtain ⟨H,I⟩:=K;dsimp only at*;obtain ⟨xA,xc,rfl, -, -⟩:=H.form;obtain ⟨xB,xd,rfl, -, -⟩:=I.form;have hb:(A.length:Int)<=64:=by omega
 clear H I z0 z1 z2 z3 R V c0 v0;unfold cellsC fCells;dsimp only;go_enter func87,ntmps87
 go_wp2_with (first|(go_at_call 104;(with_reducible refine Za (D.out _ ((Ext.refl w).alloc _)) ?_);rintro e3 w3 ⟨rfl,rfl⟩)|(go_at_call 128;(with_reducible refine Za (F.out _ ((Ext.refl w).alloc _)) ?_);rintro e4 w4 ⟨rfl,q⟩;(have k1:=q.boxed 1 _ rfl);(have k2:=q.boxed 2 _ rfl);(have k3:=q.boxed 3 _ rfl);(have k4:=q.boxed 4 _ rfl))|(go_at_call 85;(with_reducible refine Za (U.out _) ?_);rintro e9 w9 ⟨rfl,rfl⟩))
 all_goals go_ret
 all_goals exact ⟨rfl,((Ext.refl _).alloc _).trans q⟩
theorem Zhl (x:Fc) (w:Wq) (S:Env w) (M:RdC w x) (Y:fokS x.f) (X:x.f.path.length<=64) (c0:(x.f.path.any λs=>decide (s=⟨#[]⟩))=false) (v0:x.f.path.all validS=true) (i0:x.f.id.toList.isEmpty=false) (t0:inT x.f.upd=false):
 Calls prog 87 #[.agg (cellsC x).toArray] w λe w'=>e= .returned (nI 22)/\Ext w w':=by
 obtain ⟨⟨z0,z1⟩,z2,z3⟩:=Y;have D:=gd (λ(w':Wq) (h:Ext w w')=>X7 x.p ⟨#[]⟩ x.f.path w' (M.1.ext h) (by omega));rw[c0] at D;have H:=gd (λ(w':Wq) (h:Ext w w')=>Um x.p x.f.path w' (S.ext h) (M.1.ext h) (λs Z=>by have:=X9 Z;omega) (by omega));rw[v0] at H;have F:=gd (λw'=>U4 x.f.upd w');rw[t0] at F;have V:=gd (λw'=>Xy (false) w');obtain ⟨xp,ha,⟨A,hc,K,R,U,Q⟩⟩:=x;obtain ⟨I,J⟩:=M;dsimp only at*;obtain ⟨xA,xc,rfl, -, -⟩:=I.form;obtain ⟨xB,xd,rfl, -, -⟩:=J.form;have hb:(A.length:Int)<=64:=by omega
 clear I J z0 z1 z2 z3 S X c0 v0 t0;unfold cellsC fCells;dsimp only;go_enter func87,ntmps87
 go_wp2_with (first|(go_at_call 104;(with_reducible refine Za (D.out _ ((Ext.refl w).alloc _)) ?_);rintro e3 w3 ⟨rfl,rfl⟩)|(go_at_call 128;(with_reducible refine Za (H.out _ ((Ext.refl w).alloc _)) ?_);rintro e4 w4 ⟨rfl,q⟩;(have k1:=q.boxed 1 _ rfl);(have k2:=q.boxed 2 _ rfl);(have k3:=q.boxed 3 _ rfl);(have k4:=q.boxed 4 _ rfl))|(go_at_call 130;(with_reducible refine Za (F.out _) ?_);rintro e5 w5 ⟨rfl,rfl⟩)|(go_at_call 85;(with_reducible refine Za (V.out _) ?_);rintro e9 w9 ⟨rfl,rfl⟩))
 all_goals go_ret
 all_goals exact ⟨rfl,((Ext.refl _).alloc _).trans q⟩
theorem Zhm (x:Fc) (w:Wq) (R:Env w) (S:RdC w x) (hk:fokS x.f) (h0:x.f.path.length<=64) (c0:(x.f.path.any λs=>decide (s=⟨#[]⟩))=false) (v0:x.f.path.all validS=true) (i0:x.f.id.toList.isEmpty=false) (t0:inT x.f.upd=true) (s0: [x.f.id,x.f.title,x.f.link].all validS=false):
 Calls prog 87 #[.agg (cellsC x).toArray] w λe w'=>e= .returned (nI 22)/\Ext w w':=by
 obtain ⟨⟨z0,z1⟩,z2,z3⟩:=hk;have H:=gd (λ(w':Wq) (h:Ext w w')=>X7 x.p ⟨#[]⟩ x.f.path w' (S.1.ext h) (by omega));rw[c0] at H;have J:=gd (λ(w':Wq) (h:Ext w w')=>Um x.p x.f.path w' (R.ext h) (S.1.ext h) (λs hs=>by have:=X9 hs;omega) (by omega));rw[v0] at J;have I:=gd (λw'=>U4 x.f.upd w');rw[t0] at I;have D:=gd (λ(w':Wq) (h:Ext w w')=>Um _ [x.f.id,x.f.title,x.f.link] (w'.alloc (.cells ([x.f.id,x.f.title,x.f.link].map Value.string).toArray 9)) ((R.ext h).alloc _) (UU w' [x.f.id,x.f.title,x.f.link] (by show 3<=maxLen;decide)) (λs h=>by simp only[ZF,Ya,Xs] at h;rcases h with rfl|rfl|rfl<;>omega) (by show 3<=16777216;decide));rw[s0] at D;simp only[ZP,Yv,Zf,ZK] at D;have HC:=gd (λw'=>Xy (false) w');obtain ⟨xp,ha,⟨F,hc,Q,X,Z,V⟩⟩:=x;obtain ⟨K,M⟩:=S;dsimp only at*;obtain ⟨xA,xc,rfl, -, -⟩:=K.form;obtain ⟨xB,xd,rfl, -, -⟩:=M.form;have hb:(F.length:Int)<=64:=by omega
 clear K M z0 z1 z2 z3 R h0 c0 v0 t0 s0;unfold cellsC fCells;dsimp only;go_enter func87,ntmps87
 go_wp2_with (first|(go_at_call 104;(with_reducible refine Za (H.out _ ((Ext.refl w).alloc _)) ?_);rintro e3 w3 ⟨rfl,rfl⟩)|(go_at_call 128;(with_reducible refine Za (J.out _ ((Ext.refl w).alloc _)) ?_);rintro e4 w4 ⟨rfl,q⟩;(have k1:=q.boxed 1 _ rfl);(have k2:=q.boxed 2 _ rfl);(have k3:=q.boxed 3 _ rfl);(have k4:=q.boxed 4 _ rfl))|(go_at_call 130;(with_reducible refine Za (I.out _) ?_);rintro e5 w5 ⟨rfl,rfl⟩)|(go_at_call 128;(have Y:=D.out _ (((Ext.refl w).alloc _).trans q));(with_reducible refine Za Y ?_);clear Y;rintro e7 w7 ⟨rfl,U⟩;(have A:=q.trans (((Ext.refl _).alloc _).trans U));(have k5:=A.boxed 5 _ rfl))|(go_at_call 85;(with_reducible refine Za (HC.out _) ?_);rintro e9 w9 ⟨rfl,rfl⟩))
 all_goals go_ret
 all_goals exact ⟨rfl,((Ext.refl _).alloc _).trans A⟩
theorem Zhn (x:Fc) (w:Wq) (R:Env w) (S:RdC w x) (hk:fokS x.f) (h0:x.f.path.length<=64) (c0:(x.f.path.any λs=>decide (s=⟨#[]⟩))=false) (v0:x.f.path.all validS=true) (i0:x.f.id.toList.isEmpty=false) (t0:inT x.f.upd=true) (s0: [x.f.id,x.f.title,x.f.link].all validS=true):
 Calls prog 87 #[.agg (cellsC x).toArray] w λe w'=>e= .returned (nI (if okL okE ordE x.f.ents=true then 0 else 22))/\Ext w w':=by
 obtain ⟨⟨z0,z1⟩,z2,z3⟩:=hk;have H:=gd (λ(w':Wq) (h:Ext w w')=>X7 x.p ⟨#[]⟩ x.f.path w' (S.1.ext h) (by omega));rw[c0] at H;have K:=gd (λ(w':Wq) (h:Ext w w')=>Um x.p x.f.path w' (R.ext h) (S.1.ext h) (λs hs=>by have:=X9 hs;omega) (by omega));rw[v0] at K;have I:=gd (λw'=>U4 x.f.upd w');rw[t0] at I;have D:=gd (λ(w':Wq) (h:Ext w w')=>Um _ [x.f.id,x.f.title,x.f.link] (w'.alloc (.cells ([x.f.id,x.f.title,x.f.link].map Value.string).toArray 9)) ((R.ext h).alloc _) (UU w' [x.f.id,x.f.title,x.f.link] (by show 3<=maxLen;decide)) (λs h=>by simp only[ZF,Ya,Xs] at h;rcases h with rfl|rfl|rfl<;>omega) (by show 3<=16777216;decide));rw[s0] at D;simp only[ZP,Yv,Zf,ZK] at D;have J:=gd (λ(w':Wq) (h:Ext w w')=>ZcB x.es x.f.ents w' (R.ext h) (S.2.ext h) (λe he=>by obtain ⟨_,h⟩:=z3 e he;exact ⟨by omega,by omega,by omega,by omega⟩) z2);have HC:=gd (λw'=>Xy (okL okE ordE x.f.ents) w');obtain ⟨b,V⟩:∃b,okL okE ordE x.f.ents=b:=⟨_,rfl⟩;simp only[V] at J HC|-;clear V;obtain ⟨xp,hd,⟨F,hf,U,ha,hc,Z⟩⟩:=x;obtain ⟨M,Q⟩:=S;dsimp only at*;obtain ⟨xA,xc,rfl, -, -⟩:=M.form;obtain ⟨xB,xd,rfl, -, -⟩:=Q.form;have V:(F.length:Int)<=64:=by omega
 clear M Q z0 z1 z2 z3 R h0 c0 v0 t0 s0;unfold cellsC fCells;dsimp only;go_enter func87,ntmps87
 go_wp2_with (first|(go_at_call 104;(with_reducible refine Za (H.out _ ((Ext.refl w).alloc _)) ?_);rintro e3 w3 ⟨rfl,rfl⟩)|(go_at_call 128;(with_reducible refine Za (K.out _ ((Ext.refl w).alloc _)) ?_);rintro e4 w4 ⟨rfl,q⟩;(have k1:=q.boxed 1 _ rfl);(have k2:=q.boxed 2 _ rfl);(have k3:=q.boxed 3 _ rfl);(have k4:=q.boxed 4 _ rfl))|(go_at_call 130;(with_reducible refine Za (I.out _) ?_);rintro e5 w5 ⟨rfl,rfl⟩)|(go_at_call 128;(have hz:=D.out _ (((Ext.refl w).alloc _).trans q));(with_reducible refine Za hz ?_);clear hz;rintro e7 w7 ⟨rfl,X⟩;(have A:=q.trans (((Ext.refl _).alloc _).trans X));(have k5:=A.boxed 5 _ rfl))|(go_at_call 131;(with_reducible refine Za (J.out _ (((Ext.refl w).alloc _).trans A)) ?_);rintro e8 w8 ⟨rfl,Y⟩)|(go_at_call 85;(with_reducible refine Za (HC.out _) ?_);rintro e9 w9 ⟨rfl,rfl⟩))
 all_goals go_ret
 all_goals exact ⟨rfl,(((Ext.refl _).alloc _).trans A).trans Y⟩
theorem ZdZ (x:Fc) (w:Wq) (F:Env w) (I:RdC w x) (H:fokS x.f):
 Calls prog 87 #[.agg (cellsC x).toArray] w λe w'=>e= .returned (nI (if okF x.f=true then 0 else 22))/\Ext w w':=by
 by_cases D:x.f.path.length<=64
 case neg=>rw[Ze (λq=>D (JR.1 (Ue.1 q).1).1)];exact Zhh x w F I H D
 cases c0:(x.f.path.any λs=>decide (s=⟨#[]⟩)) with
 |true=>
  rw[Ze (λq=>by
   obtain ⟨s,h,Q⟩:=Xp.1 c0;exact (JR.1 (Ue.1 q).1).2.2.2.2 s h (Y4 Q))]
  exact Zhi x w F I H D c0
 |false=>
 cases v0:x.f.path.all validS with
 |false=>
  rw[Ze (λq=>by
   have A:=(JR.1 (Ue.1 q).1).2.1;rw[Yq.2 (λs h=>A s (by unfold strsF;simp[h]))] at v0;cases v0)]
  exact Zhj x w F I H D c0 v0
 |true=>
 by_cases J:x.f.id=noS
 ·rw[Ze (λq=>(JR.1 (Ue.1 q).1).2.2.1 J)];exact Zhk x w F I H D c0 v0 (ZbG J)
 cases t0:inT x.f.upd with
 |false=>rw[Ze (λq=>by have:=(JR.1 (Ue.1 q).1).2.2.2.1;rw[t0] at this;cases this)];exact Zhl x w F I H D c0 v0 (KU J) t0
 |true=>
 cases s0: [x.f.id,x.f.title,x.f.link].all validS with
 |false=>
  rw[Ze (λq=>by
   have A:=(JR.1 (Ue.1 q).1).2.1;rw[Yq.2 (λs h=>A s (by unfold strsF;simp only[Zt];exact Or.inr h))] at s0;cases s0)]
  exact Zhm x w F I H D c0 v0 (KU J) t0 s0
 |true=>
  have M:okH x.f=true:=JR.2 ⟨D,λs h=>by
   unfold strsF at h;rcases Zt.1 h with h|h
   ·exact Yq.1 v0 s h
   ·exact Yq.1 s0 s h,J,t0,λp R e=>by
   rw[List.any_eq_false] at c0;exact c0 p R (YQ e)⟩
  have K:okF x.f=okL okE ordE x.f.ents:=by unfold okF;rw[M];rfl
  rw[K];exact Zhn x w F I H D c0 v0 (KU J) t0 s0
section
theorem ZaX (u v:Value) (a b:List ByteArray) (w:Wq) (Z:RStrs w u a) (hb:RStrs w v b) (hn:a.length<=16777216):
 Calls prog 171 #[u,v] w λe w'=>e= .returned (nI (pathCmp a b))/\w'=w:=by
 obtain ⟨A,c,rfl,hc,hf⟩:=Z.form;obtain ⟨B,d,rfl,hd,hg⟩:=hb.form;have HA:Hid (a.length<=maxLen):=gd (by omega);have HB:Hid (b.length<=maxLen):=gd (by omega);clear hc hf hd hg;go_enter func171,ntmps171;go_wp2;go_loopw [11] (λi wr=>∃k:Nat,k<=a.length/\k<=b.length/\i=nI k/\Hid (pathCmp a b=pathCmp (a.drop k) (b.drop k))/\wr=w) (λi _=>a.length - (intOf i).toNat)
 case atStart=>exact ⟨0,Zk _,Zk _,rfl,gd rfl,rfl⟩
 case round=>
  obtain ⟨k,hj,hk,rfl,D,rfl⟩:=hrel;by_cases H:k<a.length
  ·by_cases I:k<b.length
   ·have Q:=ZcE H I;obtain ⟨ad,c1,e1,K⟩:=Z.at H;injection e1 with e1 e2 e3;subst e1;obtain ⟨bd,d1,e4,he⟩:=hb.at I;injection e4 with e4 e5 e6;subst e4;clear e2 e3 e5 e6;obtain ⟨x,F⟩:∃x,a[k]=x:=⟨_,rfl⟩;obtain ⟨y,R⟩:∃y,b[k]=y:=⟨_,rfl⟩;rw[F,R] at Q;rw[F] at K;rw[R] at he;have U:=gd Q;have X:=gd (λw'=>VG x y w');clear Q F R;have hi:(0:Int)<=(k:Int):=(by omega);have hh:(k:Int)<(a.length:Int):=(by omega);have V:(k:Int)<(b.length:Int):=(by omega);obtain ⟨q,hq⟩:∃q,sCmp x y=q:=⟨_,rfl⟩;rw[hq] at X;have HQ:=gd hq;clear hq;by_cases J:q=0
    ·subst J
     go_wp2_with (go_at_call 119;refine (X.out _).mono ?_;rintro e w2 ⟨rfl,rfl⟩)
     go_roundw
     case rel=>refine ⟨k+1,by omega,by omega,by go_num,gd ?_,trivial⟩;rw[D.out,U.out,Zh HQ.out]
     case measure=>simp[intOf];omega
    ·have hm:(q !=0)=true:=(by simpa using J);have Y:=gd J;clear J
     go_wp2_with (go_at_call 119;refine (X.out _).mono ?_;rintro e w2 ⟨rfl,rfl⟩)
     go_ret;have h:pathCmp a b=q:=(by rw[D.out,U.out,HQ.out,Ze Y.out]);exact ⟨by rw[h];rfl,rfl⟩
   ·have M:k=b.length:=(by omega);subst M;have h:pathCmp a b=1:=(by rw[D.out,ZC (Zb _),Zi H];rfl);have S:=gd h;clear h D;have hh:(b.length:Int)<(a.length:Int):=(by omega);obtain ⟨ad,c1,e1,K⟩:=Z.at H;injection e1 with e1 e2 e3;subst e1;clear e2 e3;obtain ⟨x,F⟩:∃x,a[b.length]=x:=⟨_,rfl⟩;rw[F] at K;clear F;go_wp2;go_ret;exact ⟨by rw[S.out];rfl,rfl⟩
  ·have M:k=a.length:=(by omega);subst M;by_cases I:a.length<b.length
   ·have h:pathCmp a b= -1:=(by rw[D.out,ZC (Zb a.length),Zi I];rfl);have S:=gd h;clear h D;have V:(a.length:Int)<(b.length:Int):=(by omega);go_wp2;go_ret;exact ⟨by rw[S.out];rfl,rfl⟩
   ·have hl:b.length=a.length:=(by omega);have h:pathCmp a b=0:=(by rw[D.out,ZC (Zb a.length),ZC (by omega)];rfl);have S:=gd h;clear h D;have V:¬(a.length:Int)<(b.length:Int):=(by omega);go_wp2;go_ret;exact ⟨by rw[S.out];rfl,rfl⟩
theorem Zb5 (u v:Value) (a b:List ByteArray) (w:Wq) (h:RStrs w u a) (q:RStrs w v b) (F:a.length<=16777216):
 Calls prog 118 #[u,v] w λe w'=>e= .returned (nI (pathCmp a b))/\w'=w:=by
 have D:=gd (ZaX u v a b w h q F);obtain ⟨A,c,rfl,_,_⟩:=h.form;obtain ⟨B,d,rfl,_,_⟩:=q.form;go_enter func118,ntmps118
 go_wp2_with (go_at_call 171;refine (D.out).mono ?_;rintro e w2 ⟨rfl,rfl⟩)
 go_ret;exact ⟨rfl,rfl⟩
attribute [local go_sem ↓] Go.wp_at_zero Go.wp_at_succ
theorem U1 (x y:Fc) (w:Wq) (Z:isSl x.es) (ha:isSl y.es) (hx:RStrs w x.p x.f.path) (hy:RStrs w y.p y.f.path) (hn:x.f.path.length<=16777216):
 Calls prog 70 #[.agg (cellsC x).toArray,.agg (cellsC y).toArray] w λe w'=>e= .returned (nI (feedCmp x.f y.f))/\∃q os,w'=grow (w.drewN q) os:=by
 have HP:=gd (λ(w':Wq) (h:Ext w w')=>Zb5 x.p y.p x.f.path y.f.path w' (hx.ext h) (hy.ext h) hn);have HC:=gd (λw'=>VG x.f.id y.f.id w');have D:feedCmp x.f y.f=if pathCmp x.f.path y.f.path=0 then sCmp x.f.id y.f.id else pathCmp x.f.path y.f.path:=rfl
 obtain ⟨ci,J⟩:∃c,pathCmp x.f.path y.f.path=c:=⟨_,rfl⟩;obtain ⟨cs,K⟩:∃c,sCmp x.f.id y.f.id=c:=⟨_,rfl⟩;rw[J] at HP D;rw[K] at HC D;rw[D];have HO:=gd (λv w' h=>KJ ci cs v w' h);obtain ⟨res,F⟩:∃res,(if ci=0 then cs else ci)=res:=⟨_,rfl⟩;rw[F] at HO;rw[F];clear J K D F;obtain ⟨px,ex,⟨H,hb,U,hd,hf,X⟩⟩:=x;obtain ⟨py,ey,⟨I,hc,V,he,hh,Y⟩⟩:=y;obtain ⟨A,c,R,_,_⟩:=hx.form;obtain ⟨B,d,S,_,_⟩:=hy.form;obtain ⟨A2,n2,c2,M⟩:=Z;obtain ⟨B2,m2,d2,Q⟩:=ha;simp only at R S M Q;subst R S M Q;clear hx hy;unfold cellsC fCells;dsimp only at*;go_enter func70,ntmps70;go_wp2
 go_region_held3 (λw'=>Ext w w'/\w'.cell? ⟨w.heap.size,0,none⟩=some (.slice A H.length c)/\w'.cell? ⟨w.heap.size,1,none⟩=some (.string hb)/\w'.cell? ⟨w.heap.size+1,0,none⟩=some (.slice B I.length d)/\w'.cell? ⟨w.heap.size+1,1,none⟩=some (.string hc))
  ((go_split_ands;refine ⟨?_,?_,?_,?_,?_⟩<;>first|assumption|((repeat (first|exact Ext.refl _|assumption|apply Ext.drew|apply Ext.alloc));done)|((refine Ext.trans ?_ (by assumption));(repeat (first|exact Ext.refl _|assumption|apply Ext.drew|apply Ext.alloc));done)|((refine Ext.cell (by assumption) ?_);first|assumption|(go_keep;done))|(go_keep;done)))
  (first|(go_at_call 118;refine (HP.out _ (by repeat (first|exact Ext.refl _|apply Ext.drew|apply Ext.alloc))).mono ?_;rintro e w1 ⟨rfl,rfl⟩)|(go_at_call 119;refine (HC.out _).mono ?_;rintro e w2 ⟨rfl,rfl⟩)|(go_at_call 117;refine (HO.out _ _ (Xi (e:=3) (fr:=(0,0)) (cs:= [nI ci,nI cs]) ?hg (by rfl) (by decide))).mono ?_;(case hg=>exact X6 w _ _ _);rintro e w3 ⟨rfl,rfl⟩))
 go_wp2;go_ret;exact ⟨rfl,1,_,by rw[alloc_eq_grow,alloc_eq_grow,alloc_eq_grow,grow_grow,grow_grow];rfl⟩
end
theorem Zil (w:Wq) (q:Nat) (os:Array Obj):Ext w (grow (w.drewN q) os):=
 ⟨rfl,rfl,rfl,by show w.heap.size<=(w.heap++os).size;simp,λk h=>by show (w.heap++os)[k]? =w.heap[k]?;rw[Array.getElem?_append_left h]⟩
theorem KK (x y:Fc) (w:Wq) (A:isSl x.es) (D:isSl y.es) (I:RStrs w x.p x.f.path) (J:RStrs w y.p y.f.path) (H:x.f.path.length<=16777216):
 Calls prog 70 #[.agg (cellsC x).toArray,.agg (cellsC y).toArray] w λe w'=>e= .returned (nI (feedCmp x.f y.f))/\Ext w w':=
 (U1 x y w A D I J H).mono λe w' ⟨h,q,os,F⟩=>⟨h,by rw[F];exact Zil w q os⟩
theorem ZcC (v:Value) (l:List Fc) (w:Wq) (hE:Env w) (hr:RFcs w v l) (ga:∀x∈l,RdC w x) (hk:∀x∈l,fokS x.f) (hn:l.length<=1000000):
 Calls prog 86 #[v,.func (.func 87) #[] #[],.func (.func 70) #[] #[],.func (.func 88) #[] #[]] w λe w'=>e= .returned (.bool (okL okF ordF (l.map Fc.f)))/\Ext w w':=by
 obtain ⟨A,c,rfl, -, -⟩:=hr.form;have go:= @run_makeMap prog;obtain ⟨L,hL⟩:∃L,l.map Fc.f=L:=⟨_,rfl⟩;have h7:L.length=l.length:=by rw[<-hL,Zs]
 have hY:=gd h7;have hX:Hid (∀(j:Nat) (h:j<l.length),L[j]'(by rw[h7];exact h)=l[j].f):=gd λj h=>by subst hL;rw[Ju]
 rw[hL];obtain ⟨R,hR⟩:∃R,okL okF ordF L=R:=⟨_,rfl⟩;rw[hR];have HR:=gd hR;have h3:=gd ga;have HS:=gd hk;have HH:=gd hr;have gc:=gd hE;clear hR hk hr ga hE hL;go_enter func86,ntmps86;go_wp2;go_loopw [15] (λi wr=>∃(k:Nat) (D:DataW Unit),k<=l.length/\i=nI k/\wr.ownsMap prog 9 (plainElem prog 4) w.heap.size k D/\Hid (SeenMap D (λs=>(L.take k).any (λe=>decide (e.id=s))))/\Hid (∀j,j<k->okAt okF ordF L j=true)/\Ext w wr) (λi _=>l.length - (intOf i).toNat)
 case atStart=>exact ⟨0,.map [],Zk _,rfl,World.ownsMap_made _ _ _ _,gd SeenMap.nil,gd (λj h=>by omega),(Ext.refl _).alloc _⟩
 case round=>
  obtain ⟨k,D,hk,rfl,hM,hD,hu,J⟩:=hrel;by_cases hv:k<l.length
  ·obtain ⟨ad,c1,e1,hP⟩:=(RFcs.ext HH.out J).at hv;injection e1 with e1 e1' e1'';subst e1;clear e1' e1'';have hw:l[k]∈l:=ZL hv;have hy:=HS.out _ hw;have hl:=(h3.out _ hw).ext J;have Z:k<L.length:=(by rw[hY.out];exact hv);have hS:=Zx Z;have S:=UP (ok:=okF) (O:=ordF) Z;have h6:=hX.out k hv;have hb:∃b,(L.take k).any (λe=>decide (e.id=l[k].f.id))=b:=⟨_,rfl⟩;obtain ⟨b,hb⟩:=hb;rw[h6] at S hS;have hQ:b=false->∀j (hj:j<k),ordF.id L[j]≠ordF.id l[k].f:=λe j hj=>Ql (id:=Fd.id) (hb.trans e) j (by omega) hj;have h8:b=true->okAt okF ordF L k=false:=λe=>(by rw[Xu];intro h;obtain ⟨j,hj,gg,he⟩:=Gb (id:=Fd.id) (hb.trans e);exact (S.1 h).2.2 j gg he);have V:Hid (okAt okF ordF L k=false->R=false):=gd λh=>(by rw[<-HR.out];exact EO Z h);have Y:Hid (SeenMap (D.put (.string l[k].f.id.data.toList) (.lit (.bool true))) (λs=>(L.take (k+1)).any (λe=>decide (e.id=s)))):=gd (hD.out.put λt=>by rw[hS,List.any_append];simp);obtain ⟨E,h5⟩:∃E,l[k]=E:=⟨_,rfl⟩;rw[h5] at hP hy hl hb Y S hQ;have X:=gd S;have hU:=gd hQ;have hV:=gd h8;have hG:E.f.id.size<=maxLen:=(by have:=hy.1.2;unfold maxLen;omega);have hg:=gd (keyOf_string_mk underlying9 hG);have HM:=gd hM;have hh:=gd hv;have hZ:=gd Z;clear S hQ h8 hS hw h6 h5;obtain ⟨W1,hC⟩:∃W1,wr.alloc (.cells (cellsC E).toArray 55)=W1:=⟨_,rfl⟩;have hf:Ext wr W1:=(by rw[<-hC];exact (Ext.refl _).alloc _);have hz:=λz:Aft W1=>K2 (hM.kept ((hf.trans z.ext).grown none) (by simp)) hD.out hG;simp only[hb] at hz;have H:=gd (λz:Aft W1=>ZdZ E z.w (gc.out.ext (J.trans (hf.trans z.ext))) (hl.ext (hf.trans z.ext)) hy);have I:=gd (λz:Wq=>Zho E.p E.es E.f z);have hF:W1.heap[wr.heap.size]? =some (.cells (cellsC E).toArray 55):=(by rw[<-hC];exact Zg _ _);have Q:=gd hf;have gb:=gd (hl.ext hf);have h4:=gd hl.sl;have gj:(0:Int)<=(k:Int):=(by omega);have gk:(k:Int)<(l.length:Int):=(by omega);have hW:Hid (k<maxLen):=gd (by unfold maxLen;omega);clear hf hM hb hl hy;obtain ⟨EP,EE,⟨path,id,title,link,upd,ents⟩⟩:=E;obtain ⟨⟨EA,EN,EC,hp⟩,⟨EB,EM,ED,ho⟩⟩:=h4.out;dsimp only at hp ho;subst hp ho;unfold cellsC fCells at hC hF H;unfold fCells at I;dsimp only at hC hF H I hP hz Y hg hG;obtain ⟨b0,b1,b2,b3,b4,b5⟩:=Zku hF;obtain ⟨a0,a1,a2,a3,a4,a5⟩:=hP;have B0:=λz:Aft W1=>Aft.cell b0 z;have B1:=λz:Aft W1=>Aft.cell b1 z;have B2:=λz:Aft W1=>Aft.cell b2 z;have B3:=λz:Aft W1=>Aft.cell b3 z;have B4:=λz:Aft W1=>Aft.cell b4 z;have B5:=λz:Aft W1=>Aft.cell b5 z;clear b0 b1 b2 b3 b4 b5 hF hG;dsimp only at a0 a1 a2 a3 a4 a5;cases hok:okF ⟨path,id,title,link,upd,ents⟩ with
   |false=>
    have hR:=V.out (by
     rw[Xu];intro h;have h1:=(X.out.1 h).1;rw[hok] at h1;cases h1)
    subst hR;rw[hok] at H;clear hok;simp only[JG,ZkC] at H;go_wp2;refine rA ?_
    repeat (first|go_big_quiet_step ((first|(go_at_call 87;with_reducible exact ZO (H.out _))|(go_at_call 88;with_reducible exact ZO (I.out _))))|quiet_step ((first|(go_at_call 87;with_reducible exact ZO (H.out _))|(go_at_call 88;with_reducible exact ZO (I.out _)))))
    refine YH ?_;rintro _ ⟨d1,rfl⟩;go_wp2;go_ret;exact ⟨rfl,J.trans (Q.out.trans d1.ext)⟩
   |true=>
    have h2:=gd hok;rw[hok] at H;clear hok;simp only[Zjw] at H;rcases YY k with h0|h9
    ·cases b with
     |true=>
      have hR:=V.out (hV.out rfl);subst hR;subst h0;simp only[Xf,add_zero] at a0 a1 a2 a3 a4 a5;go_wp2;refine rA ?_
      repeat (first|go_big_quiet_step ((first|(go_at_call 87;with_reducible exact ZO (H.out _))|(go_at_call 88;with_reducible exact ZO (I.out _))))|quiet_step ((first|(go_at_call 87;with_reducible exact ZO (H.out _))|(go_at_call 88;with_reducible exact ZO (I.out _)))))
      refine YH ?_
      rintro _ ⟨d1,rfl⟩
      go_wp2
      go_ret
      exact ⟨rfl,J.trans (Q.out.trans d1.ext)⟩
     |false=>
      have U:=gd (X.out.2 ⟨h2.out,λh=>absurd h (by omega),hU.out rfl⟩)
      subst h0
      simp only[Xf,add_zero] at a0 a1 a2 a3 a4 a5
      go_wp2
      refine rA ?_
      repeat (first|go_big_quiet_step ((first|(go_at_call 87;with_reducible exact ZO (H.out _))|(go_at_call 88;with_reducible exact ZO (I.out _))))|quiet_step ((first|(go_at_call 87;with_reducible exact ZO (H.out _))|(go_at_call 88;with_reducible exact ZO (I.out _)))))
      refine YH ?_
      rintro _ ⟨d1,rfl⟩
      have hJ:=gd (HM.out.kept ((Q.out.trans d1.ext).grown none) (by simp))
      have hN:=gd (J.trans (Q.out.trans d1.ext))
      have D0:=B0 d1
      have D1:=B1 d1
      have D2:=B2 d1
      have D3:=B3 d1
      have D4:=B4 d1
      have D5:=B5 d1
      clear B0 B1 B2 B3 B4 B5 hz
      go_wp2_with (first|(go_at_call 88;(with_reducible refine Za (I.out _) ?_);rintro e w2 ⟨rfl,hx⟩)|(at_mapUpdate;(refine Ua _ rfl (.tmp 46) (.tmp 49) (.const (.bool true)) 183 rfl 9 4 Ur underlying183 _ w.heap.size 0 D rfl (hJ.out.kept (hx.grown none) (by simp)) hW.out _ _ _ rfl rfl hg.out _ [] (plainElem_bool underlying4 true) ?_);intro w5 hm hs))
      have hT:Ext w w5:=Ext.grown' (B:=0) (hN.out.trans hx) hs (λb hb=>by cases hb;exact Zb _)
      have hK:=gd hm
      clear hm hs
      go_roundw
      case rel=>exact ⟨0+1,_,hh.out,by go_num,hK.out,Y,gd (λt ht=>by
       by_cases e:t=0
       ·rw[e];exact U.out
       ·exact hu.out t (by omega)),hT⟩
      case measure=>simp[intOf];have:=hh.out;omega
    ·obtain ⟨q,hq⟩:∃q,k=q+1:=⟨k - 1,by omega⟩;have hH:q<l.length:=(by have:=hh.out;omega);obtain ⟨af,c3,e3,hO⟩:=(RFcs.ext HH.out (J.trans Q.out)).at hH;injection e3 with e3 e3' e3'';injection e3 with e3;subst e3;clear e3' e3'';have hd:=(h3.out _ (ZL hH)).ext (J.trans Q.out);have hB:=HS.out _ (ZL hH);have hA:∀h:k - 1<L.length,L[k - 1]=l[q].f:=λh=>(by subst hq;exact hX.out q hH);obtain ⟨F,hO,hd,hB,hA⟩:∃F:Fc,AtFc W1 (ad.add (q*6)) F/\RdC W1 F/\fokS F.f/\(∀h:k - 1<L.length,L[k - 1]=F.f):=⟨_,hO,hd,hB,hA⟩;have ha:=gd hA;have M:ordF.lt F.f ⟨path,id,title,link,upd,ents⟩=decide (feedCmp F.f ⟨path,id,title,link,upd,ents⟩<0):=rfl;have K:=gd (λz:Aft W1=>KK F ⟨.slice EA EN EC,.slice EB EM ED,⟨path,id,title,link,upd,ents⟩⟩ z.w hd.sl.2 h4.out.2 (hd.1.ext z.ext) (gb.out.1.ext z.ext) (by have:=hB.1.2;omega));have gi:=hd.sl;dsimp only at K;obtain ⟨cc,hc⟩:∃cc,feedCmp F.f ⟨path,id,title,link,upd,ents⟩=cc:=⟨_,rfl⟩;rw[hc] at M;simp only[hc] at K;clear hA hc hd hB;obtain ⟨FP,FE,FF⟩:=F;obtain ⟨⟨FA,FN,FC,hp⟩,⟨FB,FM,FD,ho⟩⟩:=gi;dsimp only at hp ho;subst hp ho;obtain ⟨k0,k1,k2,k3,k4,k5⟩:=hO;dsimp only at k0 k1 k2 k3 k4 k5 K M ha;have C0:=λz:Aft W1=>Aft.cell k0 z;have C1:=λz:Aft W1=>Aft.cell k1 z;have C2:=λz:Aft W1=>Aft.cell k2 z;have C3:=λz:Aft W1=>Aft.cell k3 z;have C4:=λz:Aft W1=>Aft.cell k4 z;have C5:=λz:Aft W1=>Aft.cell k5 z;clear k0 k1 k2 k3 k4 k5;have gl:(0:Int)<(k:Int):=(by omega);have gn:wrap64 ((k:Int) - 1)=(q:Int):=(by rw[Zgg _ ⟨by omega,by omega⟩];omega);have gm:(k:Int) - 1=(q:Int):=(by omega);have gp:(0:Int)<=(q:Int):=(by omega);have gq:(q:Int)<(l.length:Int):=(by omega);unfold cellsC fCells at K;dsimp only at K;by_cases hI:cc<0
     ·have hi:Hid (∀h:0<k,ordF.lt (L[k - 1]'(Nat.lt_of_le_of_lt (GQ _ _) hZ.out)) ⟨path,id,title,link,upd,ents⟩=true):=gd (λh=>by rw[ha.out,M];exact YQ hI);have gf:¬(0:Int)<=cc:=(by omega);cases b with
      |true=>
       have hR:=V.out (hV.out rfl);subst hR;clear M hq ha;go_wp2;refine rA ?_
       repeat (first|go_big_quiet_step ((first|(go_at_call 87;with_reducible exact ZO (H.out _))|(go_at_call 70;with_reducible exact ZO (K.out _))|(go_at_call 88;with_reducible exact ZO (I.out _))))|quiet_step ((first|(go_at_call 87;with_reducible exact ZO (H.out _))|(go_at_call 70;with_reducible exact ZO (K.out _))|(go_at_call 88;with_reducible exact ZO (I.out _)))))
       refine YH ?_
       rintro _ ⟨d1,rfl⟩
       go_wp2
       go_ret
       exact ⟨rfl,J.trans (Q.out.trans d1.ext)⟩
      |false=>
       have U:=gd (X.out.2 ⟨h2.out,hi.out,hU.out rfl⟩)
       clear M hq ha hi
       go_wp2
       refine rA ?_
       repeat (first|go_big_quiet_step ((first|(go_at_call 87;with_reducible exact ZO (H.out _))|(go_at_call 70;with_reducible exact ZO (K.out _))|(go_at_call 88;with_reducible exact ZO (I.out _))))|quiet_step ((first|(go_at_call 87;with_reducible exact ZO (H.out _))|(go_at_call 70;with_reducible exact ZO (K.out _))|(go_at_call 88;with_reducible exact ZO (I.out _)))))
       refine YH ?_
       rintro _ ⟨d1,rfl⟩
       have hJ:=gd (HM.out.kept ((Q.out.trans d1.ext).grown none) (by simp))
       have hN:=gd (J.trans (Q.out.trans d1.ext))
       have D0:=B0 d1
       have D1:=B1 d1
       have D2:=B2 d1
       have D3:=B3 d1
       have D4:=B4 d1
       have D5:=B5 d1
       clear B0 B1 B2 B3 B4 B5 hz
       go_wp2_with (first|(go_at_call 88;(with_reducible refine Za (I.out _) ?_);rintro e w2 ⟨rfl,hx⟩)|(at_mapUpdate;(refine Ua _ rfl (.tmp 46) (.tmp 49) (.const (.bool true)) 183 rfl 9 4 Ur underlying183 _ w.heap.size k D rfl (hJ.out.kept (hx.grown none) (by simp)) hW.out _ _ _ rfl rfl hg.out _ [] (plainElem_bool underlying4 true) ?_);intro w5 hm hs))
       have hT:Ext w w5:=Ext.grown' (B:=0) (hN.out.trans hx) hs (λb hb=>by cases hb;exact Zb _)
       have hK:=gd hm
       clear hm hs
       go_roundw
       case rel=>exact ⟨k+1,_,hh.out,by go_num,hK.out,Y,gd (λt ht=>by
        by_cases e:t=k
        ·rw[e];exact U.out
        ·exact hu.out t (by omega)),hT⟩
       case measure=>simp[intOf];have:=hh.out;omega
     ·have hR:=V.out (by
       rw[Xu]
       intro h
       have h1:=(X.out.1 h).2.1 h9
       rw[ha.out,M] at h1
       exact hI (Y4 h1))
      subst hR
      have gf:(0:Int)<=cc:=(by omega)
      clear M hq ha
      go_wp2
      refine rA ?_
      repeat (first|go_big_quiet_step ((first|(go_at_call 87;with_reducible exact ZO (H.out _))|(go_at_call 70;with_reducible exact ZO (K.out _))|(go_at_call 88;with_reducible exact ZO (I.out _))))|quiet_step ((first|(go_at_call 87;with_reducible exact ZO (H.out _))|(go_at_call 70;with_reducible exact ZO (K.out _))|(go_at_call 88;with_reducible exact ZO (I.out _)))))
      refine YH ?_
      rintro _ ⟨d1,rfl⟩
      go_wp2
      go_ret
      exact ⟨rfl,J.trans (Q.out.trans d1.ext)⟩
  ·have gh:k=l.length:=(by omega);subst gh;have ge:R=true:=(by rw[<-HR.out];exact ZbI (by rw[hY.out];exact hu.out));subst ge;go_wp2;go_ret;exact ⟨rfl,J⟩
theorem ZdX (v:Value) (l:List Fc) (w:Wq) (J:Env w) (D:RFcs w v l) (q:∀x∈l,RdC w x) (M:∀x∈l,fokS x.f) (Q:l.length<=1000000):
 Calls prog 43 #[.agg #[v]] w λe w'=>e= .returned (nI (if okA (l.map Fc.f)=true then 0 else 22))/\Ext w w':=by
 have I:=gd (λ(w':Wq) (h:Ext w w')=>ZcC v l w' (J.ext h) (D.ext h) (λx R=>(q x R).ext h) M Q);have H:=gd (λw'=>Xy (okL okF ordF (l.map Fc.f)) w');unfold okA;obtain ⟨b,K⟩:∃b,okL okF ordF (l.map Fc.f)=b:=⟨_,rfl⟩;simp only[K] at I H|-;obtain ⟨A,c,rfl, -, -⟩:=D.form;clear K D q M J;go_enter func43,ntmps43
 go_wp2_with (first|(go_at_call 86;(with_reducible refine Za (I.out _ ((Ext.refl w).alloc _)) ?_);rintro e1 w1 ⟨rfl,F⟩)|(go_at_call 85;(with_reducible refine Za (H.out _) ?_);rintro e2 w2 ⟨rfl,rfl⟩))
 all_goals go_ret
 all_goals exact ⟨rfl,((Ext.refl _).alloc _).trans F⟩
section
variable {N c d:Nat} {nm:List UInt8}
mutual
def Nd.small (N:Nat):Nd->Prop
 | .mk k s n al ks t a=>k=0/\s= []/\n.length<=7/\al.length<=4/\(∀b∈al,b.space= []/\b.name.length<=7/\b.value.length<=N/\b.at_=0)/\ks.length<=N/\t= []/\a=0/\Nds.small N ks
def Nds.small (N:Nat):List Nd->Prop
 | []=>True
 |x::t=>x.small N/\Nds.small N t
end
theorem V3:∀l:List Nd,Nds.small N l↔∀x∈l,x.small N
 | []=>by rw[Nds.small];simp
 |x::t=>by rw[Nds.small,V3 t];simp
theorem ZeC (v:Bool):∀l:List UInt8,(wescL v l).length<=6*l.length
 | []=>Zb _
 |c::t=>by
  have ih:=ZeC v t
  have h:(wescC v c).length<=6:=by
   unfold wescC wescB
   repeat' split
   all_goals simp
  show (wescC v c++wescL v t).length<=_
  rw[Zc,Zf]
  omega
theorem GS:∀al:List AtP,(∀b∈al,b.space= []/\b.name.length<=7/\b.value.length<=N/\b.at_=0)->(attrsW al).length<=al.length*(6*N+11)
 | [],_=>Zk _
 |b::t,h=>by
  have ih:=GS t λx q=>h x (ZE _ q)
  obtain ⟨_,D,F,_⟩:=h b ZH
  have H:=ZeC true b.value
  have A:(attrW b).length<=6*N+11:=by
   unfold attrW
   simp only[Zc,Zf,ZK]
   omega
  show (attrW b++attrsW t).length<=_
  rw[Zc,Zf,Nat.add_mul]
  omega
mutual
theorem ZbR {N:Nat}:∀n:Nd,n.small N->(nodeW n).length<=n.cnt*(24*N+100)
 | .mk k s n al ks t a,h=>by
  rw[Nd.small] at h
  obtain ⟨rfl,rfl,hn,ha,hb,hk,rfl,rfl,hs⟩:=h
  have ih:=Zaa ks hs
  have h1:=GS al hb
  have h2:al.length*(6*N+11)<=4*(6*N+11):=Nat.mul_le_mul_right _ ha
  rw[nodeW,Ze (by decide),Nd.cnt,Nat.add_mul]
  split
  ·simp only[Zc,Zf,ZK]
   omega
  ·simp only[Zc,Zf,ZK]
   omega
theorem Zaa {N:Nat}:∀l:List Nd,Nds.small N l->(nodesW l).length<=Nds.cnt l*(24*N+100)
 | [],_=>by rw[nodesW];exact Zk _
 |x::t,h=>by
  rw[Nds.small] at h
  have h1:=ZbR x h.1
  have h2:=Zaa t h.2
  rw[nodesW,Zc,Nds.cnt,Nat.add_mul]
  omega
end
mutual
theorem E9 {N:Nat} (hN:7<=N):∀n:Nd,n.small N->n.fits N
 | .mk k s n al ks t a,h=>by
  rw[Nd.small] at h
  obtain ⟨rfl,rfl,hn,ha,hb,hk,rfl,rfl,hs⟩:=h
  rw[Nd.fits]
  refine ⟨by decide,Zk _,by omega,by omega,λb hb'=> ?_,hk,Zk _,Zk _,Ix hN ks hs⟩
  obtain ⟨e1,e2,e3,e4⟩:=hb b hb'
  refine ⟨by rw[e1];exact Zk _,by omega,by omega,by omega⟩
theorem Ix {N:Nat} (hN:7<=N):∀l:List Nd,Nds.small N l->Nds.fits N l
 | [],_=>by rw[Nds.fits];trivial
 |x::t,h=>by
  rw[Nds.small] at h
  rw[Nds.fits]
  exact ⟨E9 hN x h.1,Ix hN t h.2⟩
end
def smF (N:Nat) (f:Fd):Prop:=(∀p∈f.path,p.size<=N)/\f.id.size<=N/\f.title.size<=N/\f.link.size<=N
theorem Zdr {f:Fd} (I:3<=N) (h:smF N f):(feedN f).small N/\(feedN f).cnt=1:=by
 obtain ⟨_,D,F,H⟩:=h;have e:feedN f=if f.link.size=0 then .mk 0 [] outlineL ([(typeL,rssL),(textL,lst f.title),(xmlUrlL,lst f.id)].map pairA) [] [] 0 else .mk 0 [] outlineL ([(typeL,rssL),(textL,lst f.title),(xmlUrlL,lst f.id)].map pairA++ [(htmlUrlL,lst f.link)].map pairA) [] [] 0:=by unfold feedN;dsimp only;split<;>rfl
 have A:∀b∈([(typeL,rssL),(textL,lst f.title),(xmlUrlL,lst f.id),(htmlUrlL,lst f.link)]:List _).map pairA,b.space= []/\b.name.length<=7/\b.value.length<=N/\b.at_=0:=by
  intro b q;simp only[ZP,Yv,ZF,Ya,Xs] at q;rcases q with rfl|rfl|rfl|rfl
  ·exact ⟨rfl,by decide,I,rfl⟩
  ·exact ⟨rfl,by show 4<=7;decide,F,rfl⟩
  ·exact ⟨rfl,by show 6<=7;decide,D,rfl⟩
  ·exact ⟨rfl,by show 7<=7;decide,H,rfl⟩
 rw[e];split
 ·refine ⟨?_,by rw[Nd.cnt,Nds.cnt]⟩;rw[Nd.small];exact ⟨rfl,rfl,by decide,by show 3<=4;decide,λb q=>A b (by simp only[ZP,Yv,ZF,Ya,Xs] at q|-;rcases q with h|h|h<;>simp[h]),Zk _,rfl,rfl,by rw[Nds.small];trivial⟩
 ·refine ⟨?_,by rw[Nd.cnt,Nds.cnt]⟩;rw[Nd.small];exact ⟨rfl,rfl,by decide,by show 4<=4;decide,λb q=>A b q,Zk _,rfl,rfl,by rw[Nds.small];trivial⟩
theorem VL {K:List Nd} {ps:List (List UInt8×List UInt8)} (F:nm.length<=7) (hK:elems K) (I:Nds.small N K) (D:K.length<=N) (H:ps.length<=4) (q:∀p∈ps,p.1.length<=7/\p.2.length<=N):
 (withP (elemN nm K) ps).small N/\(withP (elemN nm K) ps).cnt=1+Nds.cnt K:=by
 have e:withP (elemN nm K) ps= .mk 0 [] nm (ps.map pairA) K [] 0:=by unfold elemN;rw[Jk hK];rfl
 rw[e];refine ⟨?_,by rw[Nd.cnt]⟩;rw[Nd.small];refine ⟨rfl,rfl,F,by rw[Zs];exact H,λb A=> ?_,D,rfl,rfl,I⟩;obtain ⟨p,h,rfl⟩:=Z3.1 A;exact ⟨rfl,(q p h).1,(q p h).2,rfl⟩
theorem Ii (q:3<=N):∀l:List Fd,(∀x∈l,smF N x)->Nds.small N (l.map feedN)/\Nds.cnt (l.map feedN)=l.length
 | [],_=>⟨by rw[Yv,Nds.small];trivial,by rw[Yv,Nds.cnt];rfl⟩
 |x::t,h=>by
  obtain ⟨A,D⟩:=Zdr q (h x ZH)
  obtain ⟨F,H⟩:=Ii q t λy I=>h y (ZE _ I)
  rw[ZP,Nds.small,Nds.cnt,D,H,Zf]
  exact ⟨⟨A,F⟩,by omega⟩
theorem Ip {rec_:List Fd->List Nd} (Q:3<=N) (q:∀g:List Fd,(∀x∈g,smF N x)->g.length<=N->elems (rec_ g)/\Nds.small N (rec_ g)/\(rec_ g).length<=g.length/\Nds.cnt (rec_ g)<=c*g.length):
 ∀(f:Nat) (l:List Fd),(∀x∈l,smF N x)->l.length<=N->Nds.small N (foldsP rec_ d f l)/\(foldsP rec_ d f l).length<=l.length/\Nds.cnt (foldsP rec_ d f l)<=(c+1)*l.length
 |0,l,_,_=>by rw[foldsP];exact ⟨by rw[Nds.small];trivial,Zk _,by rw[Nds.cnt];exact Zk _⟩
 |f+1,[],_,_=>by rw[foldsP];exact ⟨by rw[Nds.small];trivial,Zk _,by rw[Nds.cnt];exact Zk _⟩
 |f+1,x::t,h,hl=>by
  obtain ⟨n,F⟩:∃n,((x::t).takeWhile λy=>decide (pathAt y d=pathAt x d)).length=n:=⟨_,rfl⟩;have A:=Zce x t d;have R:n<=(x::t).length:=by rw[<-F];exact (Yp _).length_le
  rw[F] at A;rw[foldsP];(try dsimp only);rw[F];have H:(pathAt x d).size<=N:=by
   unfold pathAt;rw[Yk];cases hq:x.path[d]? with
   |none=>exact Zk _
   |some p=>exact (h x ZH).1 p (List.mem_of_getElem? hq)
  have I:((x::t).take n).length=n:=by rw[ZD];omega
  have D:((x::t).drop n).length=(x::t).length - n:=Zj;obtain ⟨Y,Z,r3,r4⟩:=q ((x::t).take n) (λy J=>h y (Jb J)) (by omega);obtain ⟨K,M⟩:=VL (N:=N) (nm:=outlineL) (ps:= [(textL,lst (pathAt x d))]) (by decide) Y Z (by omega) (by show 1<=4;decide) (λp S=>by rw[Zo.1 S];exact ⟨by show 4<=7;decide,H⟩);obtain ⟨U,V,X⟩:=Ip Q q f ((x::t).drop n) (λy J=>h y (YJ J)) (by omega);rw[I] at r3 r4;rw[D] at V X;refine ⟨by rw[Nds.small];exact ⟨K,U⟩,by rw[Zf];omega,?_⟩;rw[Nds.cnt,M];have e1:(c+1)*(x::t).length=(c+1)*n+(c+1)*((x::t).length - n):=by rw[<-Nat.mul_add];congr 1;omega
  have e2:(c+1)*n=c*n+n:=by rw[Nat.add_mul,Nat.one_mul]
  rw[e1,e2];omega
theorem EQ (D:3<=N):∀(f d:Nat) (l:List Fd),(∀x∈l,smF N x)->l.length<=N->Nds.small N (outsP f d l)/\(outsP f d l).length<=l.length/\Nds.cnt (outsP f d l)<=(f+1)*l.length
 |0,d,l,_,_=>by rw[outsP];exact ⟨by rw[Nds.small];trivial,Zk _,by rw[Nds.cnt];exact Zk _⟩
 |f+1,d,l,h,hl=>by
  obtain ⟨n,K⟩:∃n,(l.takeWhile λx=>decide (x.path.length=d)).length=n:=⟨_,rfl⟩
  have I:l.takeWhile (λx=>decide (x.path.length=d))=l.take n:=by rw[<-K];exact Xh.1 (JK _)
  have V:n<=l.length:=by rw[<-K];exact (Yp _).length_le
  have q:(l.take n).length=n:=by rw[ZD];omega
  have F:(l.drop n).length=l.length - n:=Zj
  rw[outsP,I,q]
  obtain ⟨M,J⟩:=Ii D (l.take n) λx A=>h x (Jb A)
  obtain ⟨Q,R,S⟩:=Ip (c:=f+1) (d:=d) (rec_:=outsP f (d+1)) D (λg U H=>by
   obtain ⟨X,Y,Z⟩:=EQ D f (d+1) g U H
   exact ⟨UO _ _ _,X,Y,Z⟩) (l.length+1) (l.drop n) (λx A=>h x (YJ A)) (by omega)
  rw[F] at R S
  rw[q] at J
  refine ⟨(V3 _).2 λx A=>(Zt.1 A).elim ((V3 _).1 M x) ((V3 _).1 Q x),by rw[Zc,Zs,q];omega,?_⟩
  rw[Nds.cnt_app,J]
  have e1:(f+1+1)*l.length=(f+1+1)*n+(f+1+1)*(l.length - n):=by rw[<-Nat.mul_add];congr 1;omega
  have e2:n<=(f+1+1)*n:=Nat.le_mul_of_pos_left _ (by omega)
  rw[e1]
  omega
theorem ZgG {l:List Fd} (h:∀x∈l,smF 10000 x) (U:l.length<=10000):(encP l).small 10000/\(encP l).fits 10000/\(docW (encP l)).length<=140737488355328:=by
 obtain ⟨V,o2,o3⟩:=EQ (N:=10000) (by decide) 66 0 l h U;have S:elemN headL []=withP (elemN headL []) []:=rfl;have Q:elemN bodyL (outsP 66 0 l)=withP (elemN bodyL (outsP 66 0 l)) []:=by unfold elemN withP;simp
 obtain ⟨I,J⟩:=VL (N:=10000) (nm:=bodyL) (ps:= []) (by decide) (UO 66 0 l) V (by omega) (by decide) (by intro p D;cases D);obtain ⟨c1,c2⟩:=VL (N:=10000) (nm:=headL) (K:= []) (ps:= []) (by decide) (by intro k q;cases q) (by rw[Nds.small];trivial) (Zk _) (by decide) (by intro p D;cases D);rw[<-Q] at I J;rw[<-S] at c1 c2;have F:elems [elemN headL [],elemN bodyL (outsP 66 0 l)]:=λk q=>by
  rcases ZF.1 q with rfl|q
  ·rfl
  ·rw[Zo.1 q];rfl
 obtain ⟨H,X⟩:=VL (N:=10000) (nm:=opmlL) (ps:= [(versionL,twoL)]) (by decide) F (by rw[Nds.small,Nds.small,Nds.small];exact ⟨c1,I,trivial⟩) (by show 2<=10000;decide) (by show 1<=4;decide) (λp D=>by rw[Zo.1 D];exact ⟨by decide,by decide⟩);refine ⟨H,E9 (by decide) _ H,?_⟩;have A:=ZbR _ H;have R:(encP l).cnt<=700000:=by show (withP (elemN opmlL [elemN headL [],elemN bodyL (outsP 66 0 l)]) [(versionL,twoL)]).cnt<=_;rw[X,Nds.cnt,Nds.cnt,Nds.cnt,J,c2,Nds.cnt];omega
 have Y:(encP l).cnt*(24*10000+100)<=700000*(24*10000+100):=Nat.mul_le_mul_right _ R;unfold docW;rw[Zc,Zc];have M:headW.length=39:=rfl;have Z:(nodeW (encP l)).length<=(encP l).cnt*(24*10000+100):=A;rw[M];show 39+_+1<=_;omega
end
theorem Zjp (v:Bool) {c:UInt8} (h:c=38):wescB v c= [38,97,109,112,59]:=by subst h;rfl
theorem Zjq (v:Bool) {c:UInt8} (h:c=60):wescB v c= [38,108,116,59]:=by subst h;rfl
theorem Zjr (v:Bool) {c:UInt8} (h:c=62):wescB v c= [38,103,116,59]:=by subst h;rfl
theorem Zjn (v:Bool) {c:UInt8} (h:c=13):wescB v c= [38,35,49,51,59]:=by subst h;rfl
theorem Zjo {c:UInt8} (h:c=34):wescB true c= [38,113,117,111,116,59]:=by subst h;rfl
theorem Zkf {c:UInt8} (h:c=9):wescB true c= [38,35,57,59]:=by subst h;rfl
theorem Zjm {c:UInt8} (h:c=10):wescB true c= [38,35,49,48,59]:=by subst h;rfl
theorem Zkg {c:UInt8} (h:c≠38) (q:c≠60) (A:c≠62) (D:c≠13):wescB false c= []:=by unfold wescB;rw[Ze h,Ze q,Ze A,Ze D];rfl
theorem Zkh {c:UInt8} (h:c≠38) (q:c≠60) (A:c≠62) (D:c≠13) (F:c≠34) (H:c≠9) (I:c≠10):wescB true c= []:=by
 unfold wescB;rw[Ze h,Ze q,Ze A,Ze D,Ze (by decide),Ze F,Ze H,Ze I]
theorem VE {c d:UInt8} (h:c=d):((c.toNat:Int)==(d.toNat:Int))=true:=by rw[h];simp
theorem JZ {c d:UInt8} (h:c≠d):((c.toNat:Int)==(d.toNat:Int))=false:=by
 rw[Zy];intro e;exact h (YF.1 (by omega))
theorem ZiY (v:Bool) (J:Int) (V:(J==0)= !v) (c:UInt8) (w:Wq):
 Calls prog 127 #[nI J,.int .u8 (c.toNat:Nat)] w λe w'=>e= .returned (.string (str (wescB v c)))/\w'=w:=by
 by_cases q:c=38
 ·rw[Zjp v q];have R:((c.toNat:Int)==38)=true:=VE q;clear q;go_enter func127,ntmps127;go_wp2;go_ret;exact ⟨rfl,rfl⟩
 have R:((c.toNat:Int)==38)=false:=JZ q;by_cases A:c=60
 ·rw[Zjq v A];have S:((c.toNat:Int)==60)=true:=VE A;clear A;go_enter func127,ntmps127;go_wp2;go_ret;exact ⟨rfl,rfl⟩
 have S:((c.toNat:Int)==60)=false:=JZ A;by_cases D:c=62
 ·rw[Zjr v D];have U:((c.toNat:Int)==62)=true:=VE D;clear D;go_enter func127,ntmps127;go_wp2;go_ret;exact ⟨rfl,rfl⟩
 have U:((c.toNat:Int)==62)=false:=JZ D;by_cases h:c=13
 ·rw[Zjn v h];have M:((c.toNat:Int)==13)=true:=VE h;clear h;go_enter func127,ntmps127;go_wp2;go_ret;exact ⟨rfl,rfl⟩
 have M:((c.toNat:Int)==13)=false:=JZ h;cases v with
 |false=>rw[Zkg q A D h];clear q A D h;go_enter func127,ntmps127;go_wp2;go_ret;exact ⟨rfl,rfl⟩
 |true=>
  have X:(J==0)=false:=V;by_cases H:c=34
  ·rw[Zjo H];have Q:((c.toNat:Int)==34)=true:=VE H;clear H q A D h;go_enter func127,ntmps127;go_wp2;go_ret;exact ⟨rfl,rfl⟩
  have Q:((c.toNat:Int)==34)=false:=JZ H;by_cases I:c=9
  ·rw[Zkf I];have Y:((c.toNat:Int)==9)=true:=VE I;clear I q A D h;go_enter func127,ntmps127;go_wp2;go_ret;exact ⟨rfl,rfl⟩
  have Y:((c.toNat:Int)==9)=false:=JZ I;by_cases F:c=10
  ·rw[Zjm F];have K:((c.toNat:Int)==10)=true:=VE F;clear F q A D h;go_enter func127,ntmps127;go_wp2;go_ret;exact ⟨rfl,rfl⟩
  have K:((c.toNat:Int)==10)=false:=JZ F;rw[Zkh q A D h H I F];clear q A D h H I F;go_enter func127,ntmps127;go_wp2;go_ret;exact ⟨rfl,rfl⟩
theorem ZbW (v:Bool) (c:UInt8):(wescB v c).length<=6:=by
 unfold wescB
 repeat' split
 all_goals decide
theorem Ib (v:Bool):∀l:List UInt8,(wescL v l).length<=6*l.length
 | []=>Zb _
 |c::t=>by
  have h:=Ib v t
  have q:=ZbW v c
  rw[wescL,Zc,Zf]
  unfold wescC
  split
  ·simp only[Zf,ZK];omega
  ·omega
theorem Zai (v:Bool):∀a b:List UInt8,wescL v (a++b)=wescL v a++wescL v b
 | [],b=>rfl
 |c::t,b=>by
  show wescC v c++wescL v (t++b)=(wescC v c++wescL v t)++wescL v b
  rw[Zai v t b,ZN]
theorem ZfP (v:Bool) (s:ByteArray) (k:Nat) (h:k<s.size):wescL v (s.data.toList.take (k+1))=wescL v (s.data.toList.take k)++wescC v s[k]:=by
 rw[Zx (by rw[ZI];exact h),Zai]
 congr 1
 show wescC v _++ []=_;rw[Yi];rfl
theorem Zdp (v:Bool) (kv:Int) (he:(kv==0)= !v) (s:ByteArray) (w:Wq) (hs:s.size<=16777216):
 Calls prog 126 #[nI kv,.func (.func 127) #[] #[],.string s] w λe w'=>e= .returned (.string (str (wescL v s.data.toList)))/\Ext w w':=by
 obtain ⟨Q,hQ⟩:∃Q,wescL v s.data.toList=Q:=⟨_,rfl⟩;rw[hQ];have HQ:=gd hQ;have hi:=gd he;clear hQ he;go_enter func126,ntmps126;go_wp2;go_loopw [8,9,10,13] (λfr _ _ i wr=>∃k f:Nat,k<=s.size/\f<=k/\i=nI k/\fr=nI f/\Lib.IsBuilder 96 5 w.heap.size w.heap.size (Lib.byteCells (wescL v (s.data.toList.take f))) wr/\
  Hid (wescL v (s.data.toList.take k)=wescL v (s.data.toList.take f)++(s.data.toList.drop f).take (k - f))/\Ext w wr/\w.heap.size<=wr.heap.size) (λ_ _ _ i _=>s.size - (intOf i).toNat)
 case atStart=>exact ⟨0,0,Zk _,Zk _,rfl,rfl,Lib.fresh_isBuilder _ _ _,(by show _=_;simp),(Ext.refl w).alloc _,(by rw[Zq];omega)⟩
 case round=>
  obtain ⟨k,f,hk,hf,rfl,rfl,hB,hq,Y,D⟩:=hrel;have hr:(wescL v (s.data.toList.take f)).length<=6*s.size:=by have h1:=Ib v (s.data.toList.take f);have h2:(s.data.toList.take f).length<=s.size:=(by rw[ZD,ZI];omega);omega
  by_cases hg:k<s.size
  ·have J:=ZiY v kv hi.out s[k] wr;have q:=ZfP v s k hg;have F:=Zi5 s f k hf hg;unfold wescC at q;have A:=ZbW v s[k];obtain ⟨E,X⟩:∃E,wescB v s[k]=E:=⟨_,rfl⟩;rw[X] at J q A;have ha:=gd J;by_cases V:E= []
   ·subst V;rw[Zh rfl] at q;have U:Hid (wescL v (s.data.toList.take (k+1))=wescL v (s.data.toList.take f)++(s.data.toList.drop f).take (k+1 - f)):=(by show _=_;rw[q,hq.out,F,ZN]);have hn:(str ([]:List UInt8)).toList.isEmpty=true:=Qy [];clear J q F X hq A
    go_wp2_with (first|(go_at_call 127;refine Za ha.out ?_;rintro e w' ⟨rfl,rfl⟩))
    go_roundw
    case rel=>exact ⟨k+1,f,by omega,by omega,by go_num,rfl,hB,U,Y,D⟩
    case measure=>simp[intOf];omega
   ·rw[Ze V] at q;have U:Hid (Lib.byteCells (wescL v (s.data.toList.take (k+1)))=Lib.byteCells (wescL v (s.data.toList.take f))++Lib.byteCells (s.extract f k).data.toList++Lib.byteCells (str E).data.toList):=(by show _=_;rw[q,hq.out,G4 s f k hf,Z5,Y2,Y2]);have hn:(str E).toList.isEmpty=false:=(by rw[Qy];cases E<;>simp_all);have R:(s.extract f k).size<=16777216:=(by rw[ByteArray.size_extract];omega);have S:(str E).size<=6:=(by rw[Yu];exact A);have hb:=gd R;have hl:=gd S;clear J q F X hq V R S A
    go_wp2_with (first|(go_at_call 127;refine Za ha.out ?_;rintro e w' ⟨rfl,rfl⟩))
    refine (XZ _ _ _ _ _ hB (by rw[Xx];have:=hb.out;omega) D).mono ?_;rintro e w4 ⟨rfl,I,H⟩
    go_wp2_with fail
    have ho:(Lib.byteCells (wescL v (s.data.toList.take f))++Lib.byteCells (s.extract f k).data.toList).length<=6*s.size+16777216:=(by rw[Zc,Xx,Xx];have h1:(s.extract f k).data.toList.length=(s.extract f k).size:=rfl;have h2:=hb.out;omega);have hj:=gd ho;have ht:=H.size;refine (XZ _ _ _ _ _ I (by have:=hj.out;have:=hl.out;omega) (by omega)).mono ?_;rintro e w5 ⟨rfl,hc,K⟩;rw[<-U.out] at hc;go_wp2;have Z:Ext w w5:=(Y.then (Zgh H (Zb _))).then (Zgh K (Zb _));have hp:=K.size;go_roundw
    case rel=>exact ⟨k+1,k+1,by omega,by omega,by go_num,by go_num,hc,by show _=_;simp,Z,by omega⟩
    case measure=>simp[intOf];omega
  ·have hd:k=s.size:=(by omega);have hh:(s.extract f s.size).size<=16777216:=(by rw[ByteArray.size_extract];omega);have M:Lib.byteCells (wescL v (s.data.toList.take f))++Lib.byteCells (s.extract f s.size).data.toList=Lib.byteCells Q:=by
    rw[<-Y2,Ek]
    congr 1
    have h:=hq.out;have e1:s.data.toList.take s.size=s.data.toList:=ZT (by rw[ZI];exact Zb _);have e2:(s.data.toList.drop f).take (s.size - f)=s.data.toList.drop f:=ZT (by rw[Zj,ZI];exact Zb _);rw[hd,e1,e2,HQ.out] at h;exact h.symm
   have HF:=gd M;have hm:=gd hh;clear M hq hd hh
   go_wp2_with fail
   refine (XZ _ _ _ (s.extract f s.size) _ hB (by rw[Xx];have:=hm.out;omega) D).mono ?_;rintro e w4 ⟨rfl,I,H⟩;rw[HF.out] at I;have hp:=H.size;have K:Ext w w4:=Y.then (Zgh H (Zb _))
   go_wp2_with (go_at_call 56;refine (JM _ _ _ _ I (by omega)).mono ?_;rintro e w5 ⟨rfl,Z⟩)
   go_ret;exact ⟨rfl,K.then (Zgh Z (Zb _))⟩
theorem ZeJ (s:ByteArray) (w:Wq) (h:s.size<=16777216):
 Calls prog 83 #[.string s] w λe w'=>e= .returned (.string (str (wescL false s.data.toList)))/\Ext w w':=by
 have H:=gd (Zdp false 0 rfl s w h);go_enter func83,ntmps83
 go_wp2_with (go_at_call 126;refine Za H.out ?_;rintro e w' ⟨rfl,q⟩)
 go_ret;exact ⟨rfl,q⟩
theorem ZeI (s:ByteArray) (w:Wq) (h:s.size<=16777216):
 Calls prog 84 #[.string s] w λe w'=>e= .returned (.string (str (wescL true s.data.toList)))/\Ext w w':=by
 have H:=gd (Zdp true 1 rfl s w h);go_enter func84,ntmps84
 go_wp2_with (go_at_call 126;refine Za H.out ?_;rintro e w' ⟨rfl,q⟩)
 go_ret;exact ⟨rfl,q⟩
theorem Za7 (s:ByteArray) (w:Wq) (J:Env w) (M:s.size<=16777216):
 Calls prog 177 #[.string s] w λe w'=>e= .returned (.bool (charsOk s.data.toList))/\Ext w w':=by
 have q:=Vf s w J (by unfold maxLen;omega);have F:charsOk s.data.toList=decide ((checkS s).2=0):=rfl;obtain ⟨a,D⟩:∃a,(checkS s).1=a:=⟨_,rfl⟩;obtain ⟨b,A⟩:∃b,(checkS s).2=b:=⟨_,rfl⟩;rw[F];rw[D,A] at q;rw[A];have H:=gd q;clear q F D A;have I:((b:Int)==0)=decide (b=0):=by
  by_cases h:b=0
  ·rw[h];rfl
  ·rw[YG h,Zy];omega
 rw[<-I];clear I;go_enter func177,ntmps177
 go_wp2_with (go_at_call 150;refine Za H.out ?_;rintro e w' ⟨rfl,K⟩)
 go_ret;exact ⟨rfl,K⟩
end Go.Proofs.YtnlafkgkcnenfaaGreatDoor
