/- Parts of the proof: contracts and plain laws. -/
import Derived.Test.YthlnaldahkgjnaaGreatDoorZ19
namespace Go.Proofs.YthlnaldahkgjnaaGreatDoor
open Go Go.RowKit Go.WideMaps Go.Maps _root_.Go.Proofs.Tryz
set_option linter.unusedVariables false
set_option linter.unusedSimpArgs false
set_option maxRecDepth 100000
set_option maxHeartbeats 16000000
theorem Zcg {α κ:Type} [DecidableEq κ] {ok:α->Bool} {O:Ord α κ} {l:List α} {k:Nat} (A:k<l.length) (h:okAt ok O l k=false):okL ok O l=false:=by
 rw[Jq];intro j;have:=Yn.1 j k (List.mem_range.2 A);rw[h] at this;cases this
theorem ZdF {α κ:Type} [DecidableEq κ] {ok:α->Bool} {O:Ord α κ} {l:List α} (h:∀k,k<l.length->okAt ok O l k=true):okL ok O l=true:=
 Yn.2 λk j=>h k (List.mem_range.1 j)
theorem Kg {α:Type} {l:List α} {k:Nat} {id:α->ByteArray} {s:ByteArray} (h:(l.take k).any (λx=>decide (id x=s))=false):∀j (A:j<l.length),j<k->id l[j]≠s:=λj A C e=>by
 rw[List.any_eq_false] at h;exact h l[j] (List.mem_take_iff_getElem.2 ⟨j,by omega,rfl⟩) (by simpa using e)
theorem ID {α:Type} {l:List α} {k:Nat} {id:α->ByteArray} {s:ByteArray} (h:(l.take k).any (λx=>decide (id x=s))=true):∃j,∃C:j<l.length,j<k/\id l[j]=s:=by
 rw[IC] at h;obtain ⟨x,D,A⟩:=h;obtain ⟨j,C,rfl⟩:=List.mem_take_iff_getElem.1 D;exact ⟨j,by omega,by omega,by simpa using A⟩
theorem Zad (v:Value) (l:List Ent) (w:World) (hE:Env w) (h:REnts w v l) (hs:∀x∈l,eokS x) (hn:l.length<=1000000):
 Calls prog 92 #[v,.func (.func 93) #[] #[],.func (.func 94) #[] #[],.func (.func 89) #[] #[]] w λe w'=>e= .returned (.bool (okL okE ordE l))/\Ext w w':=by
 obtain ⟨A,c,rfl, -, -⟩:=h.form;have gc:= @run_makeMap prog;obtain ⟨R,hR⟩:∃R,okL okE ordE l=R:=⟨_,rfl⟩;rw[hR];have HR:=gd hR;have HS:=gd hs;have HH:=gd h;have hU:=gd hE;clear hR hs h hE;go_enter func92,ntmps92;go_wp2;go_loopw [15] (λi wr=>∃(k:Nat) (D:DataW Unit),k<=l.length/\i= .int .i64 k/\wr.ownsMap prog 9 (plainElem prog 4) w.heap.size k D/\Hid (SeenMap D (λs=>(l.take k).any (λe=>decide (e.id=s))))/\Hid (∀j,j<k->okAt okE ordE l j=true)/\Ext w wr) (λi _=>l.length - (intOf i).toNat)
 case atStart=>exact ⟨0,.map [],Zt _,rfl,World.ownsMap_made _ _ _ _,gd SeenMap.nil,gd (λj h=>by omega),(Ext.refl _).alloc _⟩
 case round=>
  obtain ⟨k,D,hk,rfl,hM,hD,hl,I⟩:=hrel;by_cases ha:k<l.length
  ·obtain ⟨ad,c1,e1,hG⟩:=(REnts.ext HH.out I).at ha;injection e1 with e1 e1' e1'';subst e1;clear e1' e1'';have hy:l[k]∈l:=ZO ha;have ho:=HS.out _ hy;have hS:=Zy ha;have Z:=US (ok:=okE) (O:=ordE) ha;have hb:∃b,(l.take k).any (λe=>decide (e.id=l[k].id))=b:=⟨_,rfl⟩;obtain ⟨b,hb⟩:=hb;have hH:b=false->∀j (hj:j<k),ordE.id l[j]≠ordE.id l[k]:=λe j hj=>Kg (id:=Ent.id) (hb.trans e) j (by omega) hj;have hP:b=true->okAt okE ordE l k=false:=λe=>(by rw[Jq];intro h;obtain ⟨j,hj,hZ,he⟩:=ID (id:=Ent.id) (hb.trans e);exact (Z.1 h).2.2 j hZ he);have V:Hid (okAt okE ordE l k=false->R=false):=gd λh=>(by rw[<-HR.out];exact Zcg ha h);have Y:Hid (SeenMap (D.put (.string l[k].id.data.toList) (.lit (.bool true))) (λs=>(l.take (k+1)).any (λe=>decide (e.id=s)))):=gd (hD.out.put λt=>by rw[hS,List.any_append];simp);obtain ⟨E,hW⟩:∃E,l[k]=E:=⟨_,rfl⟩;rw[hW] at hG ho hb Y Z hH;have X:=gd Z;have hK:=gd hH;have hL:=gd hP;have hx:keyOf prog 9 (.string E.id)=some (.string E.id.data.toList):=keyOf_string_mk underlying9 (by have:=ho.1;unfold maxLen;omega);have h3:E.id.size<=maxLen:=(by have:=ho.1;unfold maxLen;omega);have hd:=gd hx;have HM:=gd hM;have S:=gd ha;clear Z hH hP hS hy hx;obtain ⟨W1,hu⟩:∃W1,wr.alloc (.cells (eCells E).toArray 64)=W1:=⟨_,rfl⟩;have hw:Ext wr W1:=(by rw[<-hu];exact (Ext.refl _).alloc _);have hp:=λz:Aft W1=>EI (hM.kept ((hw.trans z.ext).grown none) (by simp)) hD.out h3;simp only[hb] at hp;have C:=gd (λz:Aft W1=>Za2 E z.w (hU.out.ext (I.trans (hw.trans z.ext))) ho);have G:=gd (λz:World=>Zcb E z);have hv:W1.heap[wr.heap.size]? =some (.cells (eCells E).toArray 64):=(by rw[<-hu];exact Zh _ _);have Q:=gd hw;have h6:(0:Int)<=(k:Int):=(by omega);have h8:(k:Int)<(l.length:Int):=(by omega);have hN:Hid (k<maxLen):=gd (by unfold maxLen;omega);clear hw hM hb;obtain ⟨id,title,link,content,upd⟩:=E;unfold eCells at hu hv C G;dsimp only at hu hv C G hG hp Y hd;obtain ⟨b0,b1,b2,b3,b4⟩:=UC hv;obtain ⟨a0,a1,a2,a3,a4⟩:=hG;have B0:=λz:Aft W1=>Aft.cell b0 z;have B1:=λz:Aft W1=>Aft.cell b1 z;have B2:=λz:Aft W1=>Aft.cell b2 z;have B3:=λz:Aft W1=>Aft.cell b3 z;have B4:=λz:Aft W1=>Aft.cell b4 z;clear b0 b1 b2 b3 b4 hv;dsimp only at a0 a1 a2 a3 a4;cases hok:okE ⟨id,title,link,content,upd⟩ with
   |false=>
    have hR:=V.out (by
     rw[Jq];intro h;have h1:=(X.out.1 h).1;rw[hok] at h1;cases h1)
    subst hR;rw[hok] at C;clear hok;simp only[Ja,ZgK] at C;go_wp2;refine rA ?_
    repeat (first|go_big_quiet_step ((first|(go_at_call 93;with_reducible exact ZX (C.out _))|(go_at_call 89;with_reducible exact ZX (G.out _))))|quiet_step ((first|(go_at_call 93;with_reducible exact ZX (C.out _))|(go_at_call 89;with_reducible exact ZX (G.out _)))))
    refine YB ?_;rintro _ ⟨H,rfl⟩;go_wp2;go_ret;exact ⟨rfl,I.trans (Q.out.trans H.ext)⟩
   |true=>
    have hO:=gd hok;rw[hok] at C;clear hok;simp only[Eq] at C;rcases YP k with h0|hQ
    ·cases b with
     |true=>
      have hR:=V.out (hL.out rfl);subst hR;subst h0;simp only[Nat.zero_mul,add_zero] at a0 a1 a2 a3 a4;go_wp2;refine rA ?_
      repeat (first|go_big_quiet_step ((first|(go_at_call 93;with_reducible exact ZX (C.out _))|(go_at_call 89;with_reducible exact ZX (G.out _))))|quiet_step ((first|(go_at_call 93;with_reducible exact ZX (C.out _))|(go_at_call 89;with_reducible exact ZX (G.out _)))))
      refine YB ?_;rintro _ ⟨H,rfl⟩;go_wp2;go_ret;exact ⟨rfl,I.trans (Q.out.trans H.ext)⟩
     |false=>
      have U:=gd (X.out.2 ⟨hO.out,λh=>absurd h (by omega),hK.out rfl⟩);subst h0;simp only[Nat.zero_mul,add_zero] at a0 a1 a2 a3 a4;go_wp2;refine rA ?_
      repeat (first|go_big_quiet_step ((first|(go_at_call 93;with_reducible exact ZX (C.out _))|(go_at_call 89;with_reducible exact ZX (G.out _))))|quiet_step ((first|(go_at_call 93;with_reducible exact ZX (C.out _))|(go_at_call 89;with_reducible exact ZX (G.out _)))))
      refine YB ?_;rintro _ ⟨H,rfl⟩;have hA:=gd (HM.out.kept ((Q.out.trans H.ext).grown none) (by simp));have hC:=gd (I.trans (Q.out.trans H.ext));have D0:=B0 H;have D1:=B1 H;have D2:=B2 H;have D3:=B3 H;have D4:=B4 H;clear B0 B1 B2 B3 B4 hp
      go_wp2_with (first|(go_at_call 89;(with_reducible refine Za (G.out _) ?_);rintro e w2 ⟨rfl,hm⟩)|(at_mapUpdate;(refine Zhs _ rfl (.tmp 46) (.tmp 49) (.const (.bool true)) 192 rfl 9 4 Qt underlying192 _ w.heap.size 0 D rfl (hA.out.kept (hm.grown none) (by simp)) hN.out _ _ _ rfl rfl hd.out _ [] (plainElem_bool underlying4 true) ?_);intro w5 hh hi))
      have hI:Ext w w5:=Ext.grown' (B:=0) (hC.out.trans hm) hi (λb hb=>by cases hb;exact Zd _);have hB:=gd hh;clear hh hi;go_roundw
      case rel=>exact ⟨0+1,_,S.out,by go_num,hB.out,Y,gd (λt ht=>by
       by_cases e:t=0
       ·rw[e];exact U.out
       ·exact hl.out t (by omega)),hI⟩
      case measure=>simp[intOf];have:=S.out;omega
    ·obtain ⟨q,hq⟩:∃q,k=q+1:=⟨k - 1,by omega⟩;have h4:q<l.length:=(by have:=S.out;omega);obtain ⟨af,c3,e3,hF⟩:=(REnts.ext HH.out (I.trans Q.out)).at h4;injection e3 with e3 e3' e3'';injection e3 with e3;subst e3;clear e3' e3'';have hr:l[k - 1]'(Nat.lt_of_le_of_lt (Nat.sub_le _ _) S.out)=l[q]:=(by subst hq;rfl);obtain ⟨F,hF,hr⟩:∃F:Ent,AtEnt W1 (ad.add (q*5)) F/\l[k - 1]'(Nat.lt_of_le_of_lt (Nat.sub_le _ _) S.out)=F:=⟨_,hF,hr⟩;have hf:=gd hr;have J:ordE.lt F ⟨id,title,link,content,upd⟩=decide (entCmp F ⟨id,title,link,content,upd⟩<0):=rfl;have K:=gd (λz:Aft W1=>Qj F ⟨id,title,link,content,upd⟩ z.w);obtain ⟨cc,hc⟩:∃cc,entCmp F ⟨id,title,link,content,upd⟩=cc:=⟨_,rfl⟩;rw[hc] at J;simp only[hc] at K;clear hr hc;obtain ⟨h7,hT,hV,hJ,h5⟩:=F;obtain ⟨k0,k1,k2,k3,k4⟩:=hF;dsimp only at k0 k1 k2 k3 k4;have C0:=λz:Aft W1=>Aft.cell k0 z;have C1:=λz:Aft W1=>Aft.cell k1 z;have C2:=λz:Aft W1=>Aft.cell k2 z;have C3:=λz:Aft W1=>Aft.cell k3 z;have C4:=λz:Aft W1=>Aft.cell k4 z;clear k0 k1 k2 k3 k4;have h9:(0:Int)<(k:Int):=(by omega);have gb:wrap64 ((k:Int) - 1)=(q:Int):=(by rw[Xn _ ⟨by omega,by omega⟩];omega);have ga:(k:Int) - 1=(q:Int):=(by omega);have ge:(0:Int)<=(q:Int):=(by omega);have gf:(q:Int)<(l.length:Int):=(by omega);unfold eCells at K;dsimp only at K;by_cases hz:cc<0
     ·have hg:Hid (∀h:0<k,ordE.lt (l[k - 1]'(Nat.lt_of_le_of_lt (Nat.sub_le _ _) S.out)) ⟨id,title,link,content,upd⟩=true):=gd (λh=>by rw[hf.out,J];exact Yg hz);have hY:¬(0:Int)<=cc:=(by omega);cases b with
      |true=>
       have hR:=V.out (hL.out rfl);subst hR;clear J hq hf;go_wp2;refine rA ?_
       repeat (first|go_big_quiet_step ((first|(go_at_call 93;with_reducible exact ZX (C.out _))|(go_at_call 94;with_reducible exact ZX (K.out _))|(go_at_call 89;with_reducible exact ZX (G.out _))))|quiet_step ((first|(go_at_call 93;with_reducible exact ZX (C.out _))|(go_at_call 94;with_reducible exact ZX (K.out _))|(go_at_call 89;with_reducible exact ZX (G.out _)))))
       refine YB ?_;rintro _ ⟨H,rfl⟩;go_wp2;go_ret;exact ⟨rfl,I.trans (Q.out.trans H.ext)⟩
      |false=>
       have U:=gd (X.out.2 ⟨hO.out,hg.out,hK.out rfl⟩);clear J hq hf hg;go_wp2;refine rA ?_
       repeat (first|go_big_quiet_step ((first|(go_at_call 93;with_reducible exact ZX (C.out _))|(go_at_call 94;with_reducible exact ZX (K.out _))|(go_at_call 89;with_reducible exact ZX (G.out _))))|quiet_step ((first|(go_at_call 93;with_reducible exact ZX (C.out _))|(go_at_call 94;with_reducible exact ZX (K.out _))|(go_at_call 89;with_reducible exact ZX (G.out _)))))
       refine YB ?_;rintro _ ⟨H,rfl⟩;have hA:=gd (HM.out.kept ((Q.out.trans H.ext).grown none) (by simp));have hC:=gd (I.trans (Q.out.trans H.ext));have D0:=B0 H;have D1:=B1 H;have D2:=B2 H;have D3:=B3 H;have D4:=B4 H;clear B0 B1 B2 B3 B4 hp
       go_wp2_with (first|(go_at_call 89;(with_reducible refine Za (G.out _) ?_);rintro e w2 ⟨rfl,hm⟩)|(at_mapUpdate;(refine Zhs _ rfl (.tmp 46) (.tmp 49) (.const (.bool true)) 192 rfl 9 4 Qt underlying192 _ w.heap.size k D rfl (hA.out.kept (hm.grown none) (by simp)) hN.out _ _ _ rfl rfl hd.out _ [] (plainElem_bool underlying4 true) ?_);intro w5 hh hi))
       have hI:Ext w w5:=Ext.grown' (B:=0) (hC.out.trans hm) hi (λb hb=>by cases hb;exact Zd _);have hB:=gd hh;clear hh hi;go_roundw
       case rel=>exact ⟨k+1,_,S.out,by go_num,hB.out,Y,gd (λt ht=>by
        by_cases e:t=k
        ·rw[e];exact U.out
        ·exact hl.out t (by omega)),hI⟩
       case measure=>simp[intOf];have:=S.out;omega
     ·have hR:=V.out (by
       rw[Jq];intro h;have h1:=(X.out.1 h).2.1 hQ;rw[hf.out,J] at h1;exact hz (Yd h1))
      subst hR;have hY:(0:Int)<=cc:=(by omega);clear J hq hf;go_wp2;refine rA ?_
      repeat (first|go_big_quiet_step ((first|(go_at_call 93;with_reducible exact ZX (C.out _))|(go_at_call 94;with_reducible exact ZX (K.out _))|(go_at_call 89;with_reducible exact ZX (G.out _))))|quiet_step ((first|(go_at_call 93;with_reducible exact ZX (C.out _))|(go_at_call 94;with_reducible exact ZX (K.out _))|(go_at_call 89;with_reducible exact ZX (G.out _)))))
      refine YB ?_;rintro _ ⟨H,rfl⟩;go_wp2;go_ret;exact ⟨rfl,I.trans (Q.out.trans H.ext)⟩
  ·have h2:k=l.length:=(by omega);subst h2;have hX:R=true:=(by rw[<-HR.out];exact ZdF hl.out);subst hX;go_wp2;go_ret;exact ⟨rfl,I⟩
theorem ZbS (v:Value) (x:ByteArray) (l:List ByteArray) (w:World) (h:RStrs w v l) (hn:l.length<=16777216):
 Calls prog 122 #[v,.string x] w λe w'=>(∃i:Int,e= .returned (.int .i64 i)/\(((l.any λs=>decide (s=x))=true/\0<=i)\/((l.any λs=>decide (s=x))=false/\i<0)))/\w=w':=by
 obtain ⟨A,c,rfl, -, -⟩:=h.form;obtain ⟨R,Q⟩:∃R,(l.any λs=>decide (s=x))=R:=⟨_,rfl⟩;rw[Q];have Y:=gd Q;have Z:=gd h;clear Q h;go_enter func122,ntmps122;go_wp2;go_loopw [8] (λi wr=>∃k:Nat,k<=l.length/\i= .int .i64 k/\Hid (∀s∈l.take k,s≠x)/\w=wr) (λi _=>l.length - (intOf i).toNat)
 case atStart=>exact ⟨0,Zt _,rfl,gd (by simp),rfl⟩
 case round=>
  obtain ⟨k,hk,rfl,D,rfl⟩:=hrel;by_cases C:k<l.length
  ·obtain ⟨ad,c1,e1,hc⟩:=(Z.out).at C;injection e1 with e1 e1' e1'';subst e1;clear e1' e1'';have F:l[k]∈l:=ZO C;have H:=Zy C;have j:l[k]=x->R=true:=λh=>(by rw[<-Y.out,IC];exact ⟨_,F,by simpa using h⟩);obtain ⟨p,J⟩:∃p,l[k]=p:=⟨_,rfl⟩;rw[J] at hc H j;have O:=gd H;have I:(0:Int)<=(k:Int):=(by omega);have ha:(k:Int)<(l.length:Int):=(by omega);clear J F H;cases hyz:(x.toList==p.toList) with
   |true=>have U:=j (toList_inj (by simpa using hyz)).symm;subst U;clear j;go_wp2;go_ret;exact ⟨⟨_,rfl,I⟩,rfl⟩
   |false=>
    have K:=gd (show p≠x from λe=>by rw[e] at hyz;simp at hyz);clear j;go_wp2;go_roundw
    case rel=>exact ⟨k+1,C,by go_num,gd (λs G=>by
     rw[O.out] at G;rcases ZZ.1 G with G|G
     ·exact D.out s G
     ·rw[Z8.1 G];exact K.out),(by first|trivial|rfl)⟩
    case measure=>simp[intOf];omega
  ·have X:k=l.length:=(by omega);subst X;have V:=D.out;rw[ZC (Zd _)] at V;have S:R=false:=(by rw[<-Y.out,List.any_eq_false];intro s G;simpa using V s G);subst S;clear V;go_wp2;go_ret;exact ⟨⟨_,rfl,by omega⟩,rfl⟩
theorem XM (v:Value) (x:ByteArray) (l:List ByteArray) (w:World) (h:RStrs w v l) (F:l.length<=16777216):
 Calls prog 75 #[v,.string x] w λe w'=>e= .returned (.bool (l.any λs=>decide (s=x)))/\w=w':=by
 have j:=gd (ZbS v x l w h F);obtain ⟨A,c,rfl, -, -⟩:=h.form;obtain ⟨R,C⟩:∃R,(l.any λs=>decide (s=x))=R:=⟨_,rfl⟩;simp only[C] at j|-;clear h C;go_enter func75,ntmps75
 go_wp2_with (first|(go_at_call 122;(with_reducible refine Za (j.out) ?_);rintro e G ⟨⟨i,rfl,D⟩,rfl⟩))
 go_ret;rcases D with ⟨rfl,h⟩|⟨rfl,h⟩
 ·exact ⟨by simp[h],rfl⟩
 ·exact ⟨by simp;omega,rfl⟩
theorem Zdv (x:Fc) (w:World) (J:Env w) (O:RdC w x) (K:fokS x.f) (I:¬x.f.path.length<=64):
 Calls prog 48 #[.agg (cellsC x).toArray] w λe w'=>e= .returned (.int .i64 22)/\Ext w w':=by
 obtain ⟨⟨z0,S⟩,z2,z3⟩:=K;have H:=gd (λw'=>XA (false) w');obtain ⟨xp,Q,⟨h,R,C,F,G,D⟩⟩:=x;obtain ⟨j,A⟩:=O;dsimp only at*;obtain ⟨Y,xc,rfl, -, -⟩:=j.form;obtain ⟨Z,xd,rfl, -, -⟩:=A.form;have V:¬(h.length:Int)<=64:=by omega
 clear j A z0 S z2 z3 J I;unfold cellsC fCells;dsimp only;go_enter func48,ntmps48
 go_wp2_with (first|(go_at_call 90;(with_reducible refine Za (H.out _) ?_);rintro U X ⟨rfl,rfl⟩))
 all_goals go_ret
 all_goals exact ⟨rfl,(Ext.refl _).alloc _⟩
theorem Zdw (x:Fc) (w:World) (Q:Env w) (I:RdC w x) (R:fokS x.f) (O:x.f.path.length<=64) (c0:(x.f.path.any λs=>decide (s=⟨#[]⟩))=true):
 Calls prog 48 #[.agg (cellsC x).toArray] w λe w'=>e= .returned (.int .i64 22)/\Ext w w':=by
 obtain ⟨⟨z0,V⟩,z2,z3⟩:=R;have A:=gd (λ(w':World) (h:Ext w w')=>XM x.p ⟨#[]⟩ x.f.path w' (I.1.ext h) (by omega));rw[c0] at A;have K:=gd (λw'=>XA (false) w');obtain ⟨xp,S,⟨j,U,F,H,J,G⟩⟩:=x;obtain ⟨C,D⟩:=I;dsimp only at*;obtain ⟨xA,xc,rfl, -, -⟩:=C.form;obtain ⟨xB,xd,rfl, -, -⟩:=D.form;have Y:(j.length:Int)<=64:=by omega
 clear C D z0 V z2 z3 Q O c0;unfold cellsC fCells;dsimp only;go_enter func48,ntmps48
 go_wp2_with (first|(go_at_call 75;(with_reducible refine Za (A.out _ ((Ext.refl w).alloc _)) ?_);rintro e3 Z ⟨rfl,rfl⟩)|(go_at_call 90;(with_reducible refine Za (K.out _) ?_);rintro X w9 ⟨rfl,rfl⟩))
 all_goals go_ret
 all_goals exact ⟨rfl,(Ext.refl _).alloc _⟩
theorem Zdx (x:Fc) (w:World) (O:Env w) (I:RdC w x) (U:fokS x.f) (S:x.f.path.length<=64) (c0:(x.f.path.any λs=>decide (s=⟨#[]⟩))=false) (v0:x.f.path.all validS=false):
 Calls prog 48 #[.agg (cellsC x).toArray] w λe w'=>e= .returned (.int .i64 22)/\Ext w w':=by
 obtain ⟨⟨z0,Z⟩,z2,z3⟩:=U;have C:=gd (λ(w':World) (h:Ext w w')=>XM x.p ⟨#[]⟩ x.f.path w' (I.1.ext h) (by omega));rw[c0] at C;have D:=gd (λ(w':World) (h:Ext w w')=>JE x.p x.f.path w' (O.ext h) (I.1.ext h) (λs V=>by have:=Xp V;omega) (by omega));rw[v0] at D;have R:=gd (λw'=>XA (false) w');obtain ⟨xp,X,⟨A,Y,H,K,Q,J⟩⟩:=x;obtain ⟨F,G⟩:=I;dsimp only at*;obtain ⟨xA,xc,rfl, -, -⟩:=F.form;obtain ⟨xB,xd,rfl, -, -⟩:=G.form;have hb:(A.length:Int)<=64:=by omega
 clear F G z0 Z z2 z3 O S c0 v0;unfold cellsC fCells;dsimp only;go_enter func48,ntmps48
 go_wp2_with (first|(go_at_call 75;(with_reducible refine Za (C.out _ ((Ext.refl w).alloc _)) ?_);rintro e3 w3 ⟨rfl,rfl⟩)|(go_at_call 88;(with_reducible refine Za (D.out _ ((Ext.refl w).alloc _)) ?_);rintro e4 w4 ⟨rfl,j⟩;(have k1:=j.boxed 1 _ rfl);(have k2:=j.boxed 2 _ rfl);(have k3:=j.boxed 3 _ rfl);(have k4:=j.boxed 4 _ rfl))|(go_at_call 90;(with_reducible refine Za (R.out _) ?_);rintro e9 w9 ⟨rfl,rfl⟩))
 all_goals go_ret
 all_goals exact ⟨rfl,((Ext.refl _).alloc _).trans j⟩
theorem Zdy (x:Fc) (w:World) (O:Env w) (I:RdC w x) (U:fokS x.f) (S:x.f.path.length<=64) (c0:(x.f.path.any λs=>decide (s=⟨#[]⟩))=false) (v0:x.f.path.all validS=true) (i0:x.f.id.toList.isEmpty=true):
 Calls prog 48 #[.agg (cellsC x).toArray] w λe w'=>e= .returned (.int .i64 22)/\Ext w w':=by
 obtain ⟨⟨z0,Z⟩,z2,z3⟩:=U;have C:=gd (λ(w':World) (h:Ext w w')=>XM x.p ⟨#[]⟩ x.f.path w' (I.1.ext h) (by omega));rw[c0] at C;have D:=gd (λ(w':World) (h:Ext w w')=>JE x.p x.f.path w' (O.ext h) (I.1.ext h) (λs V=>by have:=Xp V;omega) (by omega));rw[v0] at D;have R:=gd (λw'=>XA (false) w');obtain ⟨xp,X,⟨A,Y,H,K,Q,J⟩⟩:=x;obtain ⟨F,G⟩:=I;dsimp only at*;obtain ⟨xA,xc,rfl, -, -⟩:=F.form;obtain ⟨xB,xd,rfl, -, -⟩:=G.form;have hb:(A.length:Int)<=64:=by omega
 clear F G z0 Z z2 z3 O S c0 v0;unfold cellsC fCells;dsimp only;go_enter func48,ntmps48
 go_wp2_with (first|(go_at_call 75;(with_reducible refine Za (C.out _ ((Ext.refl w).alloc _)) ?_);rintro e3 w3 ⟨rfl,rfl⟩)|(go_at_call 88;(with_reducible refine Za (D.out _ ((Ext.refl w).alloc _)) ?_);rintro e4 w4 ⟨rfl,j⟩;(have k1:=j.boxed 1 _ rfl);(have k2:=j.boxed 2 _ rfl);(have k3:=j.boxed 3 _ rfl);(have k4:=j.boxed 4 _ rfl))|(go_at_call 90;(with_reducible refine Za (R.out _) ?_);rintro e9 w9 ⟨rfl,rfl⟩))
 all_goals go_ret
 all_goals exact ⟨rfl,((Ext.refl _).alloc _).trans j⟩
theorem Zdz (x:Fc) (w:World) (Q:Env w) (J:RdC w x) (V:fokS x.f) (U:x.f.path.length<=64) (c0:(x.f.path.any λs=>decide (s=⟨#[]⟩))=false) (v0:x.f.path.all validS=true) (i0:x.f.id.toList.isEmpty=false) (t0:inT x.f.upd=false):
 Calls prog 48 #[.agg (cellsC x).toArray] w λe w'=>e= .returned (.int .i64 22)/\Ext w w':=by
 obtain ⟨⟨z0,z1⟩,z2,z3⟩:=V;have C:=gd (λ(w':World) (h:Ext w w')=>XM x.p ⟨#[]⟩ x.f.path w' (J.1.ext h) (by omega));rw[c0] at C;have F:=gd (λ(w':World) (h:Ext w w')=>JE x.p x.f.path w' (Q.ext h) (J.1.ext h) (λs X=>by have:=Xp X;omega) (by omega));rw[v0] at F;have D:=gd (λw'=>UJ x.f.upd w');rw[t0] at D;have S:=gd (λw'=>XA (false) w');obtain ⟨xp,Y,⟨A,Z,I,O,R,K⟩⟩:=x;obtain ⟨G,H⟩:=J;dsimp only at*;obtain ⟨xA,xc,rfl, -, -⟩:=G.form;obtain ⟨xB,xd,rfl, -, -⟩:=H.form;have hb:(A.length:Int)<=64:=by omega
 clear G H z0 z1 z2 z3 Q U c0 v0 t0;unfold cellsC fCells;dsimp only;go_enter func48,ntmps48
 go_wp2_with (first|(go_at_call 75;(with_reducible refine Za (C.out _ ((Ext.refl w).alloc _)) ?_);rintro e3 w3 ⟨rfl,rfl⟩)|(go_at_call 88;(with_reducible refine Za (F.out _ ((Ext.refl w).alloc _)) ?_);rintro e4 w4 ⟨rfl,j⟩;(have k1:=j.boxed 1 _ rfl);(have k2:=j.boxed 2 _ rfl);(have k3:=j.boxed 3 _ rfl);(have k4:=j.boxed 4 _ rfl))|(go_at_call 91;(with_reducible refine Za (D.out _) ?_);rintro e5 w5 ⟨rfl,rfl⟩)|(go_at_call 90;(with_reducible refine Za (S.out _) ?_);rintro e9 w9 ⟨rfl,rfl⟩))
 all_goals go_ret
 all_goals exact ⟨rfl,((Ext.refl _).alloc _).trans j⟩
theorem ZdA (x:Fc) (w:World) (O:Env w) (Q:RdC w x) (hk:fokS x.f) (Z:x.f.path.length<=64) (c0:(x.f.path.any λs=>decide (s=⟨#[]⟩))=false) (v0:x.f.path.all validS=true) (i0:x.f.id.toList.isEmpty=false) (t0:inT x.f.upd=true) (s0: [x.f.id,x.f.title,x.f.link].all validS=false):
 Calls prog 48 #[.agg (cellsC x).toArray] w λe w'=>e= .returned (.int .i64 22)/\Ext w w':=by
 obtain ⟨⟨z0,z1⟩,z2,z3⟩:=hk;have F:=gd (λ(w':World) (h:Ext w w')=>XM x.p ⟨#[]⟩ x.f.path w' (Q.1.ext h) (by omega));rw[c0] at F;have H:=gd (λ(w':World) (h:Ext w w')=>JE x.p x.f.path w' (O.ext h) (Q.1.ext h) (λs hs=>by have:=Xp hs;omega) (by omega));rw[v0] at H;have G:=gd (λw'=>UJ x.f.upd w');rw[t0] at G;have C:=gd (λ(w':World) (h:Ext w w')=>JE _ [x.f.id,x.f.title,x.f.link] (w'.alloc (.cells ([x.f.id,x.f.title,x.f.link].map Value.string).toArray 9)) ((O.ext h).alloc _) (Im w' [x.f.id,x.f.title,x.f.link] (by show 3<=maxLen;decide)) (λs h=>by simp only[ZG,YD,YK] at h;rcases h with rfl|rfl|rfl<;>omega) (by show 3<=16777216;decide));rw[s0] at C;simp only[Ym,Y6,Zr,ZF] at C;have Y:=gd (λw'=>XA (false) w');obtain ⟨xp,ha,⟨D,hc,K,U,X,S⟩⟩:=x;obtain ⟨I,J⟩:=Q;dsimp only at*;obtain ⟨xA,xc,rfl, -, -⟩:=I.form;obtain ⟨xB,xd,rfl, -, -⟩:=J.form;have hb:(D.length:Int)<=64:=by omega
 clear I J z0 z1 z2 z3 O Z c0 v0 t0 s0;unfold cellsC fCells;dsimp only;go_enter func48,ntmps48
 go_wp2_with (first|(go_at_call 75;(with_reducible refine Za (F.out _ ((Ext.refl w).alloc _)) ?_);rintro e3 w3 ⟨rfl,rfl⟩)|(go_at_call 88;(with_reducible refine Za (H.out _ ((Ext.refl w).alloc _)) ?_);rintro e4 w4 ⟨rfl,j⟩;(have k1:=j.boxed 1 _ rfl);(have k2:=j.boxed 2 _ rfl);(have k3:=j.boxed 3 _ rfl);(have k4:=j.boxed 4 _ rfl))|(go_at_call 91;(with_reducible refine Za (G.out _) ?_);rintro e5 w5 ⟨rfl,rfl⟩)|(go_at_call 88;(have V:=C.out _ (((Ext.refl w).alloc _).trans j));(with_reducible refine Za V ?_);clear V;rintro e7 w7 ⟨rfl,R⟩;(have A:=j.trans (((Ext.refl _).alloc _).trans R));(have k5:=A.boxed 5 _ rfl))|(go_at_call 90;(with_reducible refine Za (Y.out _) ?_);rintro e9 w9 ⟨rfl,rfl⟩))
 all_goals go_ret
 all_goals exact ⟨rfl,((Ext.refl _).alloc _).trans A⟩
theorem ZdB (x:Fc) (w:World) (O:Env w) (Q:RdC w x) (hk:fokS x.f) (h0:x.f.path.length<=64) (c0:(x.f.path.any λs=>decide (s=⟨#[]⟩))=false) (v0:x.f.path.all validS=true) (i0:x.f.id.toList.isEmpty=false) (t0:inT x.f.upd=true) (s0: [x.f.id,x.f.title,x.f.link].all validS=true):
 Calls prog 48 #[.agg (cellsC x).toArray] w λe w'=>e= .returned (.int .i64 (if okL okE ordE x.f.ents=true then 0 else 22))/\Ext w w':=by
 obtain ⟨⟨z0,z1⟩,z2,z3⟩:=hk;have F:=gd (λ(w':World) (h:Ext w w')=>XM x.p ⟨#[]⟩ x.f.path w' (Q.1.ext h) (by omega));rw[c0] at F;have I:=gd (λ(w':World) (h:Ext w w')=>JE x.p x.f.path w' (O.ext h) (Q.1.ext h) (λs hs=>by have:=Xp hs;omega) (by omega));rw[v0] at I;have G:=gd (λw'=>UJ x.f.upd w');rw[t0] at G;have C:=gd (λ(w':World) (h:Ext w w')=>JE _ [x.f.id,x.f.title,x.f.link] (w'.alloc (.cells ([x.f.id,x.f.title,x.f.link].map Value.string).toArray 9)) ((O.ext h).alloc _) (Im w' [x.f.id,x.f.title,x.f.link] (by show 3<=maxLen;decide)) (λs h=>by simp only[ZG,YD,YK] at h;rcases h with rfl|rfl|rfl<;>omega) (by show 3<=16777216;decide));rw[s0] at C;simp only[Ym,Y6,Zr,ZF] at C;have H:=gd (λ(w':World) (h:Ext w w')=>Zad x.es x.f.ents w' (O.ext h) (Q.2.ext h) (λe he=>by obtain ⟨_,h⟩:=z3 e he;exact ⟨by omega,by omega,by omega,by omega⟩) z2);have Z:=gd (λw'=>XA (okL okE ordE x.f.ents) w');obtain ⟨b,S⟩:∃b,okL okE ordE x.f.ents=b:=⟨_,rfl⟩;simp only[S] at H Z|-;clear S;obtain ⟨xp,hc,⟨D,hd,R,Y,ha,X⟩⟩:=x;obtain ⟨J,K⟩:=Q;dsimp only at*;obtain ⟨xA,xc,rfl, -, -⟩:=J.form;obtain ⟨xB,xd,rfl, -, -⟩:=K.form;have S:(D.length:Int)<=64:=by omega
 clear J K z0 z1 z2 z3 O h0 c0 v0 t0 s0;unfold cellsC fCells;dsimp only;go_enter func48,ntmps48
 go_wp2_with (first|(go_at_call 75;(with_reducible refine Za (F.out _ ((Ext.refl w).alloc _)) ?_);rintro e3 w3 ⟨rfl,rfl⟩)|(go_at_call 88;(with_reducible refine Za (I.out _ ((Ext.refl w).alloc _)) ?_);rintro e4 w4 ⟨rfl,j⟩;(have k1:=j.boxed 1 _ rfl);(have k2:=j.boxed 2 _ rfl);(have k3:=j.boxed 3 _ rfl);(have k4:=j.boxed 4 _ rfl))|(go_at_call 91;(with_reducible refine Za (G.out _) ?_);rintro e5 w5 ⟨rfl,rfl⟩)|(go_at_call 88;(have hz:=C.out _ (((Ext.refl w).alloc _).trans j));(with_reducible refine Za hz ?_);clear hz;rintro e7 w7 ⟨rfl,U⟩;(have A:=j.trans (((Ext.refl _).alloc _).trans U));(have k5:=A.boxed 5 _ rfl))|(go_at_call 92;(with_reducible refine Za (H.out _ (((Ext.refl w).alloc _).trans A)) ?_);rintro e8 w8 ⟨rfl,V⟩)|(go_at_call 90;(with_reducible refine Za (Z.out _) ?_);rintro e9 w9 ⟨rfl,rfl⟩))
 all_goals go_ret
 all_goals exact ⟨rfl,(((Ext.refl _).alloc _).trans A).trans V⟩
theorem Za3 (x:Fc) (w:World) (D:Env w) (G:RdC w x) (F:fokS x.f):
 Calls prog 48 #[.agg (cellsC x).toArray] w λe w'=>e= .returned (.int .i64 (if okF x.f=true then 0 else 22))/\Ext w w':=by
 by_cases C:x.f.path.length<=64
 case neg=>rw[Zf (λj=>C (Um.1 (Ul.1 j).1).1)];exact Zdv x w D G F C
 cases c0:(x.f.path.any λs=>decide (s=⟨#[]⟩)) with
 |true=>
  rw[Zf (λj=>by
   obtain ⟨s,h,K⟩:=IC.1 c0;exact (Um.1 (Ul.1 j).1).2.2.2.2 s h (Yd K))]
  exact Zdw x w D G F C c0
 |false=>
 cases v0:x.f.path.all validS with
 |false=>
  rw[Zf (λj=>by
   have A:=(Um.1 (Ul.1 j).1).2.1;rw[Yn.2 (λs h=>A s (by unfold strsF;simp[h]))] at v0;cases v0)]
  exact Zdx x w D G F C c0 v0
 |true=>
 by_cases H:x.f.id=noS
 ·rw[Zf (λj=>(Um.1 (Ul.1 j).1).2.2.1 H)];exact Zdy x w D G F C c0 v0 (Ew H)
 cases t0:inT x.f.upd with
 |false=>rw[Zf (λj=>by have:=(Um.1 (Ul.1 j).1).2.2.2.1;rw[t0] at this;cases this)];exact Zdz x w D G F C c0 v0 (XS H) t0
 |true=>
 cases s0: [x.f.id,x.f.title,x.f.link].all validS with
 |false=>
  rw[Zf (λj=>by
   have A:=(Um.1 (Ul.1 j).1).2.1;rw[Yn.2 (λs h=>A s (by unfold strsF;simp only[ZZ];exact Or.inr h))] at s0;cases s0)]
  exact ZdA x w D G F C c0 v0 (XS H) t0 s0
 |true=>
  have J:okH x.f=true:=Um.2 ⟨C,λs h=>by
   unfold strsF at h;rcases ZZ.1 h with h|h
   ·exact Yn.1 v0 s h
   ·exact Yn.1 s0 s h,H,t0,λp O e=>by
   rw[List.any_eq_false] at c0;exact c0 p O (Yg e)⟩
  have I:okF x.f=okL okE ordE x.f.ents:=by unfold okF;rw[J];rfl
  rw[I];exact ZdB x w D G F C c0 v0 (XS H) t0 s0
section
set_option linter.unusedSimpArgs false
theorem Xs (b:World) (B:Nat) (C:b.heap.size<=B) (A:Env b) (v:Value) (l:List UInt8) (n:Nat) (w:World) (H:Ext b w) (j:B<=w.heap.size) (G:OB w B v l) (D:l.length<=1000) (F:n<100):
 Calls prog 96 #[v,.int .i64 (n:Nat),.int .i64 2] w λe w'=>∃v',e= .returned v'/\OB w' B v' (l++pad2 n)/\Ext b w':=by
 have h:=ZgU F;have:=ZcS b B C A v l n 2 w H j G D (by omega) h.2 (by omega)
 rwa [h.1] at this
theorem K0 (b:World) (B:Nat) (D:b.heap.size<=B) (C:Env b) (v:Value) (l:List UInt8) (n:Nat) (w:World) (H:Ext b w) (A:B<=w.heap.size) (G:OB w B v l) (F:l.length<=1000) (j:n<10000):
 Calls prog 96 #[v,.int .i64 (n:Nat),.int .i64 4] w λe w'=>∃v',e= .returned v'/\OB w' B v' (l++pad4 n)/\Ext b w':=by
 have h:=ZgV j;have:=ZcS b B D C v l n 4 w H A G F j h.2 (by omega)
 rwa [h.1] at this
theorem Zd4 {t:Int} (j:inT t=true):(sinceN t:Int)=t+62135596800/\sinceN t / 86400<3652059:=by
 have h: -62135596800<=t/\t<=253402300799:=by simpa [inT] using j
 unfold sinceN;omega
theorem KB (t:Int) (w:World) (hE:Env w) (ht:inT t=true):
 Calls prog 49 #[.int .i64 t] w λe w'=>e= .returned (.tuple #[.string (str (fmtL t)),.int .i64 0])/\Ext w w':=by
 obtain ⟨i0,D,F,G,H⟩:=Yr UI;obtain ⟨hu,hn⟩:=Zd4 ht;have hd:=Zaz (sinceN t / 86400);have C:=hd.top hn;have HD:=gd (λw' (h:w=w')=>ZfR (sinceN t / 86400) w' hn);have hR:fmtL t=fmtD (dateN (sinceN t / 86400)).1 (dateN (sinceN t / 86400)).2.1 (dateN (sinceN t / 86400)).2.2 (sinceN t % 86400):=rfl;obtain ⟨N,hN⟩:∃N,sinceN t / 86400=N:=⟨_,rfl⟩;obtain ⟨s,hs⟩:∃s,sinceN t % 86400=s:=⟨_,rfl⟩;have gf:t+62135596800=86400*(N:Int)+(s:Int)/\s<86400:=by omega
 rw[hN,hs] at hR;rw[hN] at hd C HD hn;obtain ⟨q,hq⟩:∃q,dateN N=q:=⟨_,rfl⟩;rw[hq] at hd C HD hR;obtain ⟨y,m,d⟩:=q;simp only at hd C HD hR;have hm:m<100:=by have:=hd.2.2.1;omega
 have ga:d<100:=by have:=hd.2.2.2.2.1;have:=(UP y m).2;omega
 have C:y<10000:=by omega
 obtain ⟨U,h4⟩:∃x,s / 3600=x:=⟨_,rfl⟩;obtain ⟨S0,h2⟩:∃x,s / 60=x:=⟨_,rfl⟩;obtain ⟨S2,h5⟩:∃x,S0 % 60=x:=⟨_,rfl⟩;obtain ⟨S3,h7⟩:∃x,s % 60=x:=⟨_,rfl⟩;have hY:Hid (str (((((((((((pad4 y++ [45])++pad2 m)++ [45])++pad2 d)++ [84])++pad2 U)++ [58])++pad2 S2)++ [58])++pad2 S3)++ [90])=str (fmtL t)):=by show _=_;rw[hR];unfold fmtD;rw[h2,h4,h5,h7];simp
 have V:=gd hE;have hZ:Hid (w=w):=rfl;obtain ⟨hX,gp⟩:=gf;clear hN hs hq hd hR hE ht hu;have gq:(s:Int)<=86399:=by omega
 have h3:((s:Int) / 3600)=(U:Int):=by omega
 have gg:((s:Int) / 60)=(S0:Int):=by omega
 have gh:((S0:Int) % 60)=(S2:Int):=by omega
 have h6:((s:Int) % 60)=(S3:Int):=by omega
 have gm:U<100:=by omega
 have gn:S2<100:=by omega
 have go:S3<100:=by omega
 have gk:(S0:Int)<=86399:=by omega
 clear h4 h2 h5 h7;rcases (by omega:0<=t\/t<0) with h0|h0
 ·obtain ⟨a,rfl⟩:=Int.eq_ofNat_of_zero_le h0;have gb:((a:Int) / 86400)=(N:Int) - 719162:=by omega
  have gc:((a:Int) % 86400)=(s:Int):=by omega
  have ha:(a:Int)<=253402300799:=by omega
  clear hX h0;go_enter func49,ntmps49
  go_wp2_with (first|(go_at_call 95;(have j:=HD.out _ hZ.out);(with_reducible refine Za j ?_);clear j;rintro e w0 ⟨rfl,hG⟩;(have hP:OB w0 w.heap.size (.slice none 0 0) []:=Yc _ _ _ _))|(go_at_call 96;(have j:=K0 w w.heap.size (Zd _) V.out _ [] y w0 hG hG.size hP (by simp) C);(with_reducible refine Za j ?_);clear j;rintro e w1 ⟨v1,rfl,S,hH⟩;rw[YF] at S)|(at_builtin;refine Zq _ rfl (.tmp 32) (.tmp 33) _ rfl w.heap.size 5 i0 _ 1 1 underlying115 D F G H rfl (by omega) _ _ _ rfl (S.ext ((Ext.refl w1).alloc _)) _ 1 _ rfl (ZY (cs:= [.int .u8 45]) (by simp) (by unfold maxLen;omega)) (by intro y C;simp at C;subst C;rfl) (by unfold maxLen;simp[pad2,pad4]) (by simp[pad2,pad4]) (Zl hH.size ((Ext.refl w1).alloc _).size) ?_;intro u1 x1 hk X hQ;(have I:Ext w x1:=(hH.alloc _).app X (S.ext ((Ext.refl w1).alloc _)) (Zd _));(have hw:OB x1 w.heap.size u1 (pad4 y++ [45]):=OB.of hk (by rw[ZJ];rfl));clear hk X hQ)|(go_at_call 96;(have j:=Xs w w.heap.size (Zd _) V.out _ (pad4 y++ [45]) m x1 I I.size hw (by simp[pad2,pad4]) (by omega));(with_reducible refine Za j ?_);clear j;rintro e w2 ⟨v2,rfl,hf,hI⟩)|(at_builtin;refine Zq _ rfl (.tmp 37) (.tmp 38) _ rfl w.heap.size 5 i0 _ 1 1 underlying115 D F G H rfl (by omega) _ _ _ rfl (hf.ext ((Ext.refl w2).alloc _)) _ 1 _ rfl (ZY (cs:= [.int .u8 45]) (by simp) (by unfold maxLen;omega)) (by intro y C;simp at C;subst C;rfl) (by unfold maxLen;simp[pad2,pad4]) (by simp[pad2,pad4]) (Zl hI.size ((Ext.refl w2).alloc _).size) ?_;intro u2 x2 hl Y hS;(have J:Ext w x2:=(hI.alloc _).app Y (hf.ext ((Ext.refl w2).alloc _)) (Zd _));(have hx:OB x2 w.heap.size u2 (((pad4 y++ [45])++pad2 m)++ [45]):=OB.of hl (by rw[ZJ];rfl));clear hl Y hS)|(go_at_call 96;(have j:=Xs w w.heap.size (Zd _) V.out _ (((pad4 y++ [45])++pad2 m)++ [45]) d x2 J J.size hx (by simp[pad2,pad4]) (by omega));(with_reducible refine Za j ?_);clear j;rintro e w3 ⟨v3,rfl,hg,hJ⟩)|(at_builtin;refine Zq _ rfl (.tmp 42) (.tmp 43) _ rfl w.heap.size 5 i0 _ 1 1 underlying115 D F G H rfl (by omega) _ _ _ rfl (hg.ext ((Ext.refl w3).alloc _)) _ 1 _ rfl (ZY (cs:= [.int .u8 84]) (by simp) (by unfold maxLen;omega)) (by intro y C;simp at C;subst C;rfl) (by unfold maxLen;simp[pad2,pad4]) (by simp[pad2,pad4]) (Zl hJ.size ((Ext.refl w3).alloc _).size) ?_;intro u3 x3 ho Z hT;(have K:Ext w x3:=(hJ.alloc _).app Z (hg.ext ((Ext.refl w3).alloc _)) (Zd _));(have hB:OB x3 w.heap.size u3 (((((pad4 y++ [45])++pad2 m)++ [45])++pad2 d)++ [84]):=OB.of ho (by rw[ZJ];rfl));clear ho Z hT)|(go_at_call 96;(have j:=Xs w w.heap.size (Zd _) V.out _ (((((pad4 y++ [45])++pad2 m)++ [45])++pad2 d)++ [84]) U x3 K K.size hB (by simp[pad2,pad4]) (by omega));(with_reducible refine Za j ?_);clear j;rintro e w4 ⟨v4,rfl,hh,hK⟩)|(at_builtin;refine Zq _ rfl (.tmp 48) (.tmp 49) _ rfl w.heap.size 5 i0 _ 1 1 underlying115 D F G H rfl (by omega) _ _ _ rfl (hh.ext ((Ext.refl w4).alloc _)) _ 1 _ rfl (ZY (cs:= [.int .u8 58]) (by simp) (by unfold maxLen;omega)) (by intro y C;simp at C;subst C;rfl) (by unfold maxLen;simp[pad2,pad4]) (by simp[pad2,pad4]) (Zl hK.size ((Ext.refl w4).alloc _).size) ?_;intro u4 x4 hp hb hU;(have O:Ext w x4:=(hK.alloc _).app hb (hh.ext ((Ext.refl w4).alloc _)) (Zd _));(have hC:OB x4 w.heap.size u4 (((((((pad4 y++ [45])++pad2 m)++ [45])++pad2 d)++ [84])++pad2 U)++ [58]):=OB.of hp (by rw[ZJ];rfl));clear hp hb hU)|(go_at_call 96;(have j:=Xs w w.heap.size (Zd _) V.out _ (((((((pad4 y++ [45])++pad2 m)++ [45])++pad2 d)++ [84])++pad2 U)++ [58]) S2 x4 O O.size hC (by simp[pad2,pad4]) (by omega));(with_reducible refine Za j ?_);clear j;rintro e w5 ⟨v5,rfl,hi,hL⟩)|(at_builtin;refine Zq _ rfl (.tmp 55) (.tmp 56) _ rfl w.heap.size 5 i0 _ 1 1 underlying115 D F G H rfl (by omega) _ _ _ rfl (hi.ext ((Ext.refl w5).alloc _)) _ 1 _ rfl (ZY (cs:= [.int .u8 58]) (by simp) (by unfold maxLen;omega)) (by intro y C;simp at C;subst C;rfl) (by unfold maxLen;simp[pad2,pad4]) (by simp[pad2,pad4]) (Zl hL.size ((Ext.refl w5).alloc _).size) ?_;intro u5 x5 hr hc hV;(have Q:Ext w x5:=(hL.alloc _).app hc (hi.ext ((Ext.refl w5).alloc _)) (Zd _));(have hD:OB x5 w.heap.size u5 (((((((((pad4 y++ [45])++pad2 m)++ [45])++pad2 d)++ [84])++pad2 U)++ [58])++pad2 S2)++ [58]):=OB.of hr (by rw[ZJ];rfl));clear hr hc hV)|(go_at_call 96;(have j:=Xs w w.heap.size (Zd _) V.out _ (((((((((pad4 y++ [45])++pad2 m)++ [45])++pad2 d)++ [84])++pad2 U)++ [58])++pad2 S2)++ [58]) S3 x5 Q Q.size hD (by simp[pad2,pad4]) (by omega));(with_reducible refine Za j ?_);clear j;rintro e w6 ⟨v6,rfl,hj,hM⟩)|(at_builtin;refine Zq _ rfl (.tmp 61) (.tmp 62) _ rfl w.heap.size 5 i0 _ 1 1 underlying115 D F G H rfl (by omega) _ _ _ rfl (hj.ext ((Ext.refl w6).alloc _)) _ 1 _ rfl (ZY (cs:= [.int .u8 90]) (by simp) (by unfold maxLen;omega)) (by intro y C;simp at C;subst C;rfl) (by unfold maxLen;simp[pad2,pad4]) (by simp[pad2,pad4]) (Zl hM.size ((Ext.refl w6).alloc _).size) ?_;intro u6 x6 hv he hW;(have hO:Ext w x6:=(hM.alloc _).app he (hj.ext ((Ext.refl w6).alloc _)) (Zd _));(have hF:OB x6 w.heap.size u6 (((((((((((pad4 y++ [45])++pad2 m)++ [45])++pad2 d)++ [84])++pad2 U)++ [58])++pad2 S2)++ [58])++pad2 S3)++ [90]):=OB.of hv (by rw[ZJ];rfl));(have h9:=Vr x6 _ _ _ hF);clear hv he hW))
  go_ret2
  exact ⟨by rw[<-hY.out];rfl,hO⟩
 ·obtain ⟨a,rfl⟩:∃a:Nat,t= -(a:Int):=⟨t.natAbs,by omega⟩;obtain ⟨A,hA⟩:∃A:Nat,a / 86400=A:=⟨_,rfl⟩;obtain ⟨R,hR⟩:∃R:Nat,a % 86400=R:=⟨_,rfl⟩;have gb:((a:Int) / 86400)=(A:Int):=by omega
  have gc:((a:Int) % 86400)=(R:Int):=by omega
  have ha:(a:Int)<=253402300799:=by omega
  have gi:(A:Int)<=3000000:=by omega
  have gj:(R:Int)<=86399:=by omega
  have h8:a=86400*A+R/\R<86400:=by omega
  by_cases h1:R=0
  ·have ge: -(R:Int)=(s:Int):=(by omega);have ga: -(A:Int)=(N:Int) - 719162:=(by omega);have b1:¬(s:Int)<0:=(by omega);clear hX h0 hA hR h8 h1;go_enter func49,ntmps49
   go_wp2_with (first|(go_at_call 95;(have j:=HD.out _ hZ.out);(with_reducible refine Za j ?_);clear j;rintro e w0 ⟨rfl,hG⟩;(have hP:OB w0 w.heap.size (.slice none 0 0) []:=Yc _ _ _ _))|(go_at_call 96;(have j:=K0 w w.heap.size (Zd _) V.out _ [] y w0 hG hG.size hP (by simp) C);(with_reducible refine Za j ?_);clear j;rintro e w1 ⟨v1,rfl,S,hH⟩;rw[YF] at S)|(at_builtin;refine Zq _ rfl (.tmp 32) (.tmp 33) _ rfl w.heap.size 5 i0 _ 1 1 underlying115 D F G H rfl (by omega) _ _ _ rfl (S.ext ((Ext.refl w1).alloc _)) _ 1 _ rfl (ZY (cs:= [.int .u8 45]) (by simp) (by unfold maxLen;omega)) (by intro y C;simp at C;subst C;rfl) (by unfold maxLen;simp[pad2,pad4]) (by simp[pad2,pad4]) (Zl hH.size ((Ext.refl w1).alloc _).size) ?_;intro u1 x1 hk X hQ;(have I:Ext w x1:=(hH.alloc _).app X (S.ext ((Ext.refl w1).alloc _)) (Zd _));(have hw:OB x1 w.heap.size u1 (pad4 y++ [45]):=OB.of hk (by rw[ZJ];rfl));clear hk X hQ)|(go_at_call 96;(have j:=Xs w w.heap.size (Zd _) V.out _ (pad4 y++ [45]) m x1 I I.size hw (by simp[pad2,pad4]) (by omega));(with_reducible refine Za j ?_);clear j;rintro e w2 ⟨v2,rfl,hf,hI⟩)|(at_builtin;refine Zq _ rfl (.tmp 37) (.tmp 38) _ rfl w.heap.size 5 i0 _ 1 1 underlying115 D F G H rfl (by omega) _ _ _ rfl (hf.ext ((Ext.refl w2).alloc _)) _ 1 _ rfl (ZY (cs:= [.int .u8 45]) (by simp) (by unfold maxLen;omega)) (by intro y C;simp at C;subst C;rfl) (by unfold maxLen;simp[pad2,pad4]) (by simp[pad2,pad4]) (Zl hI.size ((Ext.refl w2).alloc _).size) ?_;intro u2 x2 hl Y hS;(have J:Ext w x2:=(hI.alloc _).app Y (hf.ext ((Ext.refl w2).alloc _)) (Zd _));(have hx:OB x2 w.heap.size u2 (((pad4 y++ [45])++pad2 m)++ [45]):=OB.of hl (by rw[ZJ];rfl));clear hl Y hS)|(go_at_call 96;(have j:=Xs w w.heap.size (Zd _) V.out _ (((pad4 y++ [45])++pad2 m)++ [45]) d x2 J J.size hx (by simp[pad2,pad4]) (by omega));(with_reducible refine Za j ?_);clear j;rintro e w3 ⟨v3,rfl,hg,hJ⟩)|(at_builtin;refine Zq _ rfl (.tmp 42) (.tmp 43) _ rfl w.heap.size 5 i0 _ 1 1 underlying115 D F G H rfl (by omega) _ _ _ rfl (hg.ext ((Ext.refl w3).alloc _)) _ 1 _ rfl (ZY (cs:= [.int .u8 84]) (by simp) (by unfold maxLen;omega)) (by intro y C;simp at C;subst C;rfl) (by unfold maxLen;simp[pad2,pad4]) (by simp[pad2,pad4]) (Zl hJ.size ((Ext.refl w3).alloc _).size) ?_;intro u3 x3 ho Z hT;(have K:Ext w x3:=(hJ.alloc _).app Z (hg.ext ((Ext.refl w3).alloc _)) (Zd _));(have hB:OB x3 w.heap.size u3 (((((pad4 y++ [45])++pad2 m)++ [45])++pad2 d)++ [84]):=OB.of ho (by rw[ZJ];rfl));clear ho Z hT)|(go_at_call 96;(have j:=Xs w w.heap.size (Zd _) V.out _ (((((pad4 y++ [45])++pad2 m)++ [45])++pad2 d)++ [84]) U x3 K K.size hB (by simp[pad2,pad4]) (by omega));(with_reducible refine Za j ?_);clear j;rintro e w4 ⟨v4,rfl,hh,hK⟩)|(at_builtin;refine Zq _ rfl (.tmp 48) (.tmp 49) _ rfl w.heap.size 5 i0 _ 1 1 underlying115 D F G H rfl (by omega) _ _ _ rfl (hh.ext ((Ext.refl w4).alloc _)) _ 1 _ rfl (ZY (cs:= [.int .u8 58]) (by simp) (by unfold maxLen;omega)) (by intro y C;simp at C;subst C;rfl) (by unfold maxLen;simp[pad2,pad4]) (by simp[pad2,pad4]) (Zl hK.size ((Ext.refl w4).alloc _).size) ?_;intro u4 x4 hp hb hU;(have O:Ext w x4:=(hK.alloc _).app hb (hh.ext ((Ext.refl w4).alloc _)) (Zd _));(have hC:OB x4 w.heap.size u4 (((((((pad4 y++ [45])++pad2 m)++ [45])++pad2 d)++ [84])++pad2 U)++ [58]):=OB.of hp (by rw[ZJ];rfl));clear hp hb hU)|(go_at_call 96;(have j:=Xs w w.heap.size (Zd _) V.out _ (((((((pad4 y++ [45])++pad2 m)++ [45])++pad2 d)++ [84])++pad2 U)++ [58]) S2 x4 O O.size hC (by simp[pad2,pad4]) (by omega));(with_reducible refine Za j ?_);clear j;rintro e w5 ⟨v5,rfl,hi,hL⟩)|(at_builtin;refine Zq _ rfl (.tmp 55) (.tmp 56) _ rfl w.heap.size 5 i0 _ 1 1 underlying115 D F G H rfl (by omega) _ _ _ rfl (hi.ext ((Ext.refl w5).alloc _)) _ 1 _ rfl (ZY (cs:= [.int .u8 58]) (by simp) (by unfold maxLen;omega)) (by intro y C;simp at C;subst C;rfl) (by unfold maxLen;simp[pad2,pad4]) (by simp[pad2,pad4]) (Zl hL.size ((Ext.refl w5).alloc _).size) ?_;intro u5 x5 hr hc hV;(have Q:Ext w x5:=(hL.alloc _).app hc (hi.ext ((Ext.refl w5).alloc _)) (Zd _));(have hD:OB x5 w.heap.size u5 (((((((((pad4 y++ [45])++pad2 m)++ [45])++pad2 d)++ [84])++pad2 U)++ [58])++pad2 S2)++ [58]):=OB.of hr (by rw[ZJ];rfl));clear hr hc hV)|(go_at_call 96;(have j:=Xs w w.heap.size (Zd _) V.out _ (((((((((pad4 y++ [45])++pad2 m)++ [45])++pad2 d)++ [84])++pad2 U)++ [58])++pad2 S2)++ [58]) S3 x5 Q Q.size hD (by simp[pad2,pad4]) (by omega));(with_reducible refine Za j ?_);clear j;rintro e w6 ⟨v6,rfl,hj,hM⟩)|(at_builtin;refine Zq _ rfl (.tmp 61) (.tmp 62) _ rfl w.heap.size 5 i0 _ 1 1 underlying115 D F G H rfl (by omega) _ _ _ rfl (hj.ext ((Ext.refl w6).alloc _)) _ 1 _ rfl (ZY (cs:= [.int .u8 90]) (by simp) (by unfold maxLen;omega)) (by intro y C;simp at C;subst C;rfl) (by unfold maxLen;simp[pad2,pad4]) (by simp[pad2,pad4]) (Zl hM.size ((Ext.refl w6).alloc _).size) ?_;intro u6 x6 hv he hW;(have hO:Ext w x6:=(hM.alloc _).app he (hj.ext ((Ext.refl w6).alloc _)) (Zd _));(have hF:OB x6 w.heap.size u6 (((((((((((pad4 y++ [45])++pad2 m)++ [45])++pad2 d)++ [84])++pad2 U)++ [58])++pad2 S2)++ [58])++pad2 S3)++ [90]):=OB.of hv (by rw[ZJ];rfl));(have h9:=Vr x6 _ _ _ hF);clear hv he hW))
   go_ret2
   exact ⟨by rw[<-hY.out];rfl,hO⟩
  ·have b1: -(R:Int)<0:=(by omega);have ga: -(A:Int) - 1=(N:Int) - 719162:=(by omega);have ge: -(R:Int)+86400=(s:Int):=(by omega);clear hX h0 hA hR h8 h1;go_enter func49,ntmps49
   go_wp2_with (first|(go_at_call 95;(have j:=HD.out _ hZ.out);(with_reducible refine Za j ?_);clear j;rintro e w0 ⟨rfl,hG⟩;(have hP:OB w0 w.heap.size (.slice none 0 0) []:=Yc _ _ _ _))|(go_at_call 96;(have j:=K0 w w.heap.size (Zd _) V.out _ [] y w0 hG hG.size hP (by simp) C);(with_reducible refine Za j ?_);clear j;rintro e w1 ⟨v1,rfl,S,hH⟩;rw[YF] at S)|(at_builtin;refine Zq _ rfl (.tmp 32) (.tmp 33) _ rfl w.heap.size 5 i0 _ 1 1 underlying115 D F G H rfl (by omega) _ _ _ rfl (S.ext ((Ext.refl w1).alloc _)) _ 1 _ rfl (ZY (cs:= [.int .u8 45]) (by simp) (by unfold maxLen;omega)) (by intro y C;simp at C;subst C;rfl) (by unfold maxLen;simp[pad2,pad4]) (by simp[pad2,pad4]) (Zl hH.size ((Ext.refl w1).alloc _).size) ?_;intro u1 x1 hk X hQ;(have I:Ext w x1:=(hH.alloc _).app X (S.ext ((Ext.refl w1).alloc _)) (Zd _));(have hw:OB x1 w.heap.size u1 (pad4 y++ [45]):=OB.of hk (by rw[ZJ];rfl));clear hk X hQ)|(go_at_call 96;(have j:=Xs w w.heap.size (Zd _) V.out _ (pad4 y++ [45]) m x1 I I.size hw (by simp[pad2,pad4]) (by omega));(with_reducible refine Za j ?_);clear j;rintro e w2 ⟨v2,rfl,hf,hI⟩)|(at_builtin;refine Zq _ rfl (.tmp 37) (.tmp 38) _ rfl w.heap.size 5 i0 _ 1 1 underlying115 D F G H rfl (by omega) _ _ _ rfl (hf.ext ((Ext.refl w2).alloc _)) _ 1 _ rfl (ZY (cs:= [.int .u8 45]) (by simp) (by unfold maxLen;omega)) (by intro y C;simp at C;subst C;rfl) (by unfold maxLen;simp[pad2,pad4]) (by simp[pad2,pad4]) (Zl hI.size ((Ext.refl w2).alloc _).size) ?_;intro u2 x2 hl Y hS;(have J:Ext w x2:=(hI.alloc _).app Y (hf.ext ((Ext.refl w2).alloc _)) (Zd _));(have hx:OB x2 w.heap.size u2 (((pad4 y++ [45])++pad2 m)++ [45]):=OB.of hl (by rw[ZJ];rfl));clear hl Y hS)|(go_at_call 96;(have j:=Xs w w.heap.size (Zd _) V.out _ (((pad4 y++ [45])++pad2 m)++ [45]) d x2 J J.size hx (by simp[pad2,pad4]) (by omega));(with_reducible refine Za j ?_);clear j;rintro e w3 ⟨v3,rfl,hg,hJ⟩)|(at_builtin;refine Zq _ rfl (.tmp 42) (.tmp 43) _ rfl w.heap.size 5 i0 _ 1 1 underlying115 D F G H rfl (by omega) _ _ _ rfl (hg.ext ((Ext.refl w3).alloc _)) _ 1 _ rfl (ZY (cs:= [.int .u8 84]) (by simp) (by unfold maxLen;omega)) (by intro y C;simp at C;subst C;rfl) (by unfold maxLen;simp[pad2,pad4]) (by simp[pad2,pad4]) (Zl hJ.size ((Ext.refl w3).alloc _).size) ?_;intro u3 x3 ho Z hT;(have K:Ext w x3:=(hJ.alloc _).app Z (hg.ext ((Ext.refl w3).alloc _)) (Zd _));(have hB:OB x3 w.heap.size u3 (((((pad4 y++ [45])++pad2 m)++ [45])++pad2 d)++ [84]):=OB.of ho (by rw[ZJ];rfl));clear ho Z hT)|(go_at_call 96;(have j:=Xs w w.heap.size (Zd _) V.out _ (((((pad4 y++ [45])++pad2 m)++ [45])++pad2 d)++ [84]) U x3 K K.size hB (by simp[pad2,pad4]) (by omega));(with_reducible refine Za j ?_);clear j;rintro e w4 ⟨v4,rfl,hh,hK⟩)|(at_builtin;refine Zq _ rfl (.tmp 48) (.tmp 49) _ rfl w.heap.size 5 i0 _ 1 1 underlying115 D F G H rfl (by omega) _ _ _ rfl (hh.ext ((Ext.refl w4).alloc _)) _ 1 _ rfl (ZY (cs:= [.int .u8 58]) (by simp) (by unfold maxLen;omega)) (by intro y C;simp at C;subst C;rfl) (by unfold maxLen;simp[pad2,pad4]) (by simp[pad2,pad4]) (Zl hK.size ((Ext.refl w4).alloc _).size) ?_;intro u4 x4 hp hb hU;(have O:Ext w x4:=(hK.alloc _).app hb (hh.ext ((Ext.refl w4).alloc _)) (Zd _));(have hC:OB x4 w.heap.size u4 (((((((pad4 y++ [45])++pad2 m)++ [45])++pad2 d)++ [84])++pad2 U)++ [58]):=OB.of hp (by rw[ZJ];rfl));clear hp hb hU)|(go_at_call 96;(have j:=Xs w w.heap.size (Zd _) V.out _ (((((((pad4 y++ [45])++pad2 m)++ [45])++pad2 d)++ [84])++pad2 U)++ [58]) S2 x4 O O.size hC (by simp[pad2,pad4]) (by omega));(with_reducible refine Za j ?_);clear j;rintro e w5 ⟨v5,rfl,hi,hL⟩)|(at_builtin;refine Zq _ rfl (.tmp 55) (.tmp 56) _ rfl w.heap.size 5 i0 _ 1 1 underlying115 D F G H rfl (by omega) _ _ _ rfl (hi.ext ((Ext.refl w5).alloc _)) _ 1 _ rfl (ZY (cs:= [.int .u8 58]) (by simp) (by unfold maxLen;omega)) (by intro y C;simp at C;subst C;rfl) (by unfold maxLen;simp[pad2,pad4]) (by simp[pad2,pad4]) (Zl hL.size ((Ext.refl w5).alloc _).size) ?_;intro u5 x5 hr hc hV;(have Q:Ext w x5:=(hL.alloc _).app hc (hi.ext ((Ext.refl w5).alloc _)) (Zd _));(have hD:OB x5 w.heap.size u5 (((((((((pad4 y++ [45])++pad2 m)++ [45])++pad2 d)++ [84])++pad2 U)++ [58])++pad2 S2)++ [58]):=OB.of hr (by rw[ZJ];rfl));clear hr hc hV)|(go_at_call 96;(have j:=Xs w w.heap.size (Zd _) V.out _ (((((((((pad4 y++ [45])++pad2 m)++ [45])++pad2 d)++ [84])++pad2 U)++ [58])++pad2 S2)++ [58]) S3 x5 Q Q.size hD (by simp[pad2,pad4]) (by omega));(with_reducible refine Za j ?_);clear j;rintro e w6 ⟨v6,rfl,hj,hM⟩)|(at_builtin;refine Zq _ rfl (.tmp 61) (.tmp 62) _ rfl w.heap.size 5 i0 _ 1 1 underlying115 D F G H rfl (by omega) _ _ _ rfl (hj.ext ((Ext.refl w6).alloc _)) _ 1 _ rfl (ZY (cs:= [.int .u8 90]) (by simp) (by unfold maxLen;omega)) (by intro y C;simp at C;subst C;rfl) (by unfold maxLen;simp[pad2,pad4]) (by simp[pad2,pad4]) (Zl hM.size ((Ext.refl w6).alloc _).size) ?_;intro u6 x6 hv he hW;(have hO:Ext w x6:=(hM.alloc _).app he (hj.ext ((Ext.refl w6).alloc _)) (Zd _));(have hF:OB x6 w.heap.size u6 (((((((((((pad4 y++ [45])++pad2 m)++ [45])++pad2 d)++ [84])++pad2 U)++ [58])++pad2 S2)++ [58])++pad2 S3)++ [90]):=OB.of hv (by rw[ZJ];rfl));(have h9:=Vr x6 _ _ _ hF);clear hv he hW))
   go_ret2
   exact ⟨by rw[<-hY.out];rfl,hO⟩
end
section
set_option linter.unusedSimpArgs false
theorem VN {w:World} {B b size n:Nat} {t:TypeId} {v:Value} {xs:List Value} (h:w.ownsRow B t size v n xs) (D:b<=B):w.ownsRow b t size v n xs:=by
 refine ⟨h.1,?_⟩;rcases h.2 with C|⟨g,cap,A,e,F,j⟩
 ·exact Or.inl C
 ·exact Or.inr ⟨g,cap,A,e,Zl D F,j⟩
def okJ (f:Fd):Bool:=okF f && decide (f.path= [])
def entQ (e:Ent):List QM:= [⟨nId,nId,false,e.id⟩,⟨⟨#[117,114,108,63]⟩,nUrl,true,e.link⟩,⟨nTitle,nTitle,false,e.title⟩,⟨⟨#[99,111,110,116,101,110,116,95,116,101,120,116,63]⟩,nText,true,e.content⟩,⟨nMod,nMod,false,str (fmtL e.upd)⟩]
def feedQ (f:Fd):List QM:= [⟨nVersion,nVersion,false,str (base1++ [49,46,49])⟩,⟨nTitle,nTitle,false,f.title⟩,⟨⟨#[104,111,109,101,95,112,97,103,101,95,117,114,108,63]⟩,nHome,true,f.link⟩,⟨nFeedUrl,nFeedUrl,false,f.id⟩,⟨nUpdated,nUpdated,false,str (fmtL f.upd)⟩]
theorem Zbg (k n v:ByteArray):outQ ⟨k,n,true,v⟩=optM n v:=by
 unfold outQ optM;by_cases h:v=noS<;>simp[h]
theorem Zbf (k n v:ByteArray):outQ ⟨k,n,false,v⟩= [(n,v)]:=rfl
theorem Zbe (e:Ent):outM (entQ e)=entM e:=by
 unfold outM entQ entM;simp only[XU,List.flatMap_nil,Zbg,Zbf];simp
theorem EA (f:Fd):outM (feedQ f)=feedM f:=by
 unfold outM feedQ feedM;simp only[XU,List.flatMap_nil,Zbg,Zbf];simp
def cutOk (q:QM):Prop:=Lib.hasSuffix q.k.data.toList [63]=q.o/\str (Lib.trimSuffix q.k.data.toList [63])=q.n/\q.k.size<=1000
theorem ZeA (e:Ent):∀q∈entQ e,cutOk q:=by
 intro q h;unfold entQ at h;simp only[ZG,List.not_mem_nil,YK] at h;rcases h with rfl|rfl|rfl|rfl|rfl<;>refine ⟨?_,?_,?_⟩<;>dsimp only<;>decide+kernel
theorem Zdh (f:Fd):∀q∈feedQ f,cutOk q:=by
 intro q h;unfold feedQ at h;simp only[ZG,List.not_mem_nil,YK] at h;rcases h with rfl|rfl|rfl|rfl|rfl<;>refine ⟨?_,?_,?_⟩<;>dsimp only<;>decide+kernel
theorem Za7 (e:Ent) (F:ByteArray) (j:F=str (fmtL e.upd)) (w:World):
 Calls prog 51 #[.slice (some ⟨w.heap.size,0,none⟩) 10 10] (w.alloc (.cells #[.string ⟨#[105,100]⟩,.string e.id,.string ⟨#[117,114,108,63]⟩,.string e.link,.string ⟨#[116,105,116,108,101]⟩,.string e.title,.string ⟨#[99,111,110,116,101,110,116,95,116,101,120,116,63]⟩,.string e.content,.string ⟨#[100,97,116,101,95,109,111,100,105,102,105,101,100]⟩,.string F] 9))
  λr w'=>∃v',r= .returned v'/\w'.ownsRow w.heap.size 56 9 v' (entM e).length ((entM e).map cellM).flatten/\Ext w w':=by
 subst j;have h:=GQ (entQ e) w.heap.size (w.alloc _) (Zh w _) (ZeA e) (by show 5<=1000;decide);rw[Zbe] at h;refine Za h ?_;rintro r w' ⟨v',rfl,A,C⟩;exact ⟨v',rfl,VN A (by show w.heap.size<=(w.heap.push _).size;simp),((Ext.refl w).alloc _).trans C⟩
theorem E9 (f:Fd) (F:ByteArray) (j:F=str (fmtL f.upd)) (w:World):
 Calls prog 51 #[.slice (some ⟨w.heap.size,0,none⟩) 10 10] (w.alloc (.cells #[.string ⟨#[118,101,114,115,105,111,110]⟩,.string ⟨#[104,116,116,112,115,58,47,47,106,115,111,110,102,101,101,100,46,111,114,103,47,118,101,114,115,105,111,110,47,49,46,49]⟩,.string ⟨#[116,105,116,108,101]⟩,.string f.title,.string ⟨#[104,111,109,101,95,112,97,103,101,95,117,114,108,63]⟩,.string f.link,.string ⟨#[102,101,101,100,95,117,114,108]⟩,.string f.id,.string ⟨#[95,117,112,100,97,116,101,100]⟩,.string F] 9))
  λr w'=>∃v',r= .returned v'/\w'.ownsRow w.heap.size 56 9 v' (feedM f).length ((feedM f).map cellM).flatten/\Ext w w':=by
 subst j;have h:=GQ (feedQ f) w.heap.size (w.alloc _) (Zh w _) (Zdh f) (by show 5<=1000;decide);rw[EA] at h;refine Za h ?_;rintro r w' ⟨v',rfl,A,C⟩;exact ⟨v',rfl,VN A (by show w.heap.size<=(w.heap.push _).size;simp),((Ext.refl w).alloc _).trans C⟩
theorem Zbq {w:World} {v:Value} {l:List (ByteArray×ByteArray)} (h:RSl w 9 v l.length (l.map cellM).flatten):RMs w v (l.map Prod.fst) (l.map λp=> .str p.2) (l.map λp=>(p.1,strCells p.2,0)):=by
 refine ⟨by rw[Vo];rfl,by simp,?_,1,λi j m A C=> ?_⟩
 ·rw[ZS,Vo];exact h
 ·rw[ZT] at A C;cases hl:l[i]? with
  |none=>rw[hl] at A;simp at A
  |some p=>rw[hl] at A C;simp only[Option.map_some,ZQ] at A C;subst A C;exact Jm w p.2
theorem Zez (e:Ent):(entM e).length<=5:=by
 rw[<-Zbe];exact Q5 (entQ e)
theorem ZbN (f:Fd):(feedM f).length<=5:=by
 rw[<-EA];exact Q5 (feedQ f)
end
section
set_option linter.unusedSimpArgs false
theorem Gw {w w':World} {b K sz D n V:Nat} {e I:TypeId} {v v':Value} {xs F:List Value} (h:w.ownsRow b e sz v n xs) (R:w.ownsRow K I D v' V F) (C:e≠I) (U:w.grownBy w' v'.ownBlock):w'.ownsRow b e sz v n xs:=by
 refine h.kept U ?_;rcases h.2 with ⟨rfl,_⟩|⟨g,cap,O,rfl,_,S,_⟩
 ·exact Or.inl rfl
 ·refine Or.inr λJ=> ?_;rcases R.2 with ⟨rfl,_⟩|⟨Q,G,H,rfl,_,j,_⟩
  ·cases J
  ·have A:Q=g:=(by simp[Value.ownBlock] at J;omega);subst A;rw[S] at j;injection j with j;injection j with _ j;exact C j
def EncO (w:World) (l:List Ent) (css:List (List Value)):Prop:=css.length=l.length/\∀(i:Nat) (e:Ent) (c:List Value),l[i]? =some e->css[i]? =some c->∃A n d,c=ocells (.slice A n d) 0/\w.ownsRow 0 56 9 (.slice A n d) (entM e).length ((entM e).map cellM).flatten
theorem EncO.nil (w:World):EncO w [] []:=⟨rfl,λi j c h _=>by simp at h⟩
theorem EncO.ext {w w':World} {l:List Ent} {css:List (List Value)} (h:EncO w l css) (G:Ext w w'):EncO w' l css:=
 ⟨h.1,λi e c F D=>by
  obtain ⟨A,n,d,j,C⟩:=h.2 i e c F D;exact ⟨A,n,d,j,Yw C G⟩⟩
theorem EncO.app {w w':World} {l:List Ent} {css:List (List Value)} {b sz n:Nat} {v:Value} {xs:List Value} (h:EncO w l css) (H:w.ownsRow b 25 sz v n xs) (F:w.grownBy w' v.ownBlock):EncO w' l css:=
 ⟨h.1,λi e c G D=>by
  obtain ⟨A,n,d,j,C⟩:=h.2 i e c G D;exact ⟨A,n,d,j,Gw C H (by decide) F⟩⟩
theorem EncO.snoc {w:World} {l:List Ent} {css:List (List Value)} {e:Ent} {A:Option Addr} {n d b:Nat} (h:EncO w l css) (K:w.ownsRow b 56 9 (.slice A n d) (entM e).length ((entM e).map cellM).flatten):EncO w (l++ [e]) (css++ [ocells (.slice A n d) 0]):=by
 obtain ⟨G,I⟩:=h;refine ⟨by simp[G],λi j c C D=> ?_⟩;by_cases J:i<l.length
 ·rw[Z2 J] at C;rw[Z2 (by omega)] at D;exact I i j c C D
 ·rw[ZK (by omega)] at C;rw[ZK (by omega)] at D;have F:i - l.length=0:=by
   by_cases H:i - l.length=0
   ·exact H
   ·rw[List.getElem?_eq_none (by simp;omega)] at C;simp at C
  rw[F] at C;rw[G,F] at D;simp only[List.getElem?_cons_zero,ZQ] at C D;subst C D;exact ⟨A,n,d,rfl,VN K (Zt _)⟩
def EncR (w:World) (l:List Ent) (css:List (List Value)):Prop:=css.length=l.length/\∃n,∀(i:Nat) (j:JV) (c:List Value),(l.map λe=>objS (entM e))[i]? =some j->css[i]? =some c->RVn n w j c
theorem EncO.encR {w:World} {l:List Ent} {css:List (List Value)} (h:EncO w l css):EncR w l css:=by
 refine ⟨h.1,2,λi j c C I=> ?_⟩;rw[ZT] at C;cases hl:l[i]? with
 |none=>rw[hl] at C;simp at C
 |some e=>
  rw[hl] at C;simp only[Option.map_some,ZQ] at C;subst C;obtain ⟨A,n,d,rfl,J⟩:=h.2 i e c hl I;obtain ⟨F,G,H, -⟩:=Zbq (RSl.of_own J);refine ⟨0,_,_,rfl,F,G,H,λi j m C D=> ?_⟩;rw[ZT] at C D;cases hl:(entM e)[i]? with
  |none=>rw[hl] at C;simp at C
  |some p=>rw[hl] at C D;simp only[Option.map_some,ZQ] at C D;subst C D;exact Jm w p.2
theorem EncO.one {w:World} {l:List Ent} {css:List (List Value)} (h:EncO w l css):∀u∈css.flatten,u.oneCell'=true:=QV λc D=>by
 obtain ⟨i,F,rfl⟩:=List.mem_iff_getElem.1 D;have G:i<l.length:=by have:=h.1;omega
 obtain ⟨A,n,d,C, -⟩:=h.2 i l[i] css[i] (Zc G) (Zc F);rw[C];intro u j;unfold ocells at j;simp only[ZG,List.not_mem_nil,YK] at j;rcases j with rfl|rfl|rfl|rfl|rfl|rfl|rfl<;>rfl
theorem EncO.arr {w:World} {l:List Ent} {css:List (List Value)} {A:Option Addr} {n d:Nat} (h:EncO w l css) (D:RSl w 7 (.slice A n d) l.length css.flatten):RV w (.arr (l.map λe=>objS (entM e))) [.int .i64 4,.bool false,.int .i64 0,.string ⟨#[]⟩,.slice A n d,.slice none 0 0,.int .i64 0]:=by
 obtain ⟨j,m,C⟩:=h.encR;exact ⟨m+1,0,.slice A n d,css,rfl,by rw[ZS];exact j,by rw[ZS];exact D,C⟩
theorem ZbE (n:Nat) (xs:List Value) (v:Value) (w:World) (J:RSl w 7 v n xs) (h:∀u∈xs,u.oneCell'=true) (O:n<=1000000):
 Calls prog 53 #[v] w λe w'=>∃A m c,e= .returned (.agg #[.int .i64 4,.bool false,.int .i64 0,.string ⟨#[]⟩,.slice A m c,.slice none 0 0,.int .i64 0])/\w'.ownsRow w.heap.size 25 7 (.slice A m c) n xs/\Ext w w':=by
 have I:=gd (λw' (K:Ext w w')=>Ea v n xs w' (J.ext K) h (by omega));clear h;go_enter func53,ntmps53
 go_wp2_with (first|(go_at_call 100;refine (I.out _ ((Ext.refl w).alloc _)).mono ?_;rintro e w1 ⟨v',rfl,j,D⟩;(obtain ⟨_,G,H,rfl,_⟩:=id (RSl.of_own j));(have C:=D.heap (Zh w _)))|(refine Zg rfl 25 (.tmp 2) (.tmp 5) rfl w.heap.size _ rfl rfl _ _ C Yv rfl (by simp[Value.oneCell']) ?_))
 ((try simp only[Exit.inBlock,Exit.then]);refine Zm (Zz rfl _ _ _ _ _ _ _ rfl (Zk _ _ _ _ _ _ C) underlying25 rfl Yv) rfl ?_);have F:Ext w (w1.setRow w.heap.size #[Value.int .i64 4,.bool false,.int .i64 0,.string ⟨#[]⟩,.slice G n H,.slice none 0 0,.int .i64 0]):=(((Ext.refl w).alloc _).trans D).setRow (Zd _) _;exact ⟨G,n,H,rfl,VN (X7 j (by show w.heap.size<(w.heap.push _).size;simp) _) (by rw[Zp];omega),F⟩
theorem Zbc (l:List (ByteArray×ByteArray)) (v:Value) (w:World) (K:RSl w 9 v l.length (l.map cellM).flatten) (Q:l.length<=1000):
 Calls prog 50 #[v] w λe w'=>∃A n c,e= .returned (.agg #[.int .i64 5,.bool false,.int .i64 0,.string ⟨#[]⟩,.slice none 0 0,.slice A n c,.int .i64 0])/\w'.ownsRow 0 56 9 (.slice A n c) l.length (l.map cellM).flatten/\Ext w w':=by
 have h:∀u∈(l.map cellM).flatten,u.oneCell'=true:=QV λc J=>by obtain ⟨m,R,rfl⟩:=Yq.1 J;exact Gg m
 have I:=gd (λw' (O:Ext w w')=>I9 v l.length (l.map cellM).flatten w' (K.ext O) h (by omega));clear h;go_enter func50,ntmps50
 go_wp2_with (first|(go_at_call 97;refine (I.out _ ((Ext.refl w).alloc _)).mono ?_;rintro e w1 ⟨v',rfl,j,D⟩;(obtain ⟨_,G,H,rfl,_⟩:=id (RSl.of_own j));(have C:=D.heap (Zh w _)))|(refine Zg rfl 25 (.tmp 2) (.tmp 5) rfl w.heap.size _ rfl rfl _ _ C Yv rfl (by simp[Value.oneCell']) ?_))
 ((try simp only[Exit.inBlock,Exit.then]);refine Zm (Zz rfl _ _ _ _ _ _ _ rfl (Zk _ _ _ _ _ _ C) underlying25 rfl Yv) rfl ?_);have F:Ext w (w1.setRow w.heap.size #[Value.int .i64 5,.bool false,.int .i64 0,.string ⟨#[]⟩,.slice none 0 0,.slice G l.length H,.int .i64 0]):=(((Ext.refl w).alloc _).trans D).setRow (Zd _) _;exact ⟨G,l.length,H,rfl,VN (X7 j (by show w.heap.size<(w.heap.push _).size;simp) _) (Zt _),F⟩
theorem Za6 (key:ByteArray) (j:JV) (k:Int) (b:Bool) (x:Int) (s:ByteArray) (A:Option Addr) (m c:Nat) (B:Option Addr) (p q:Nat) (a:Int) (w:World) (h:RV w j [.int .i64 k,.bool b,.int .i64 x,.string s,.slice A m c,.slice B p q,.int .i64 a]):
 Calls prog 52 #[.string key,.agg #[.int .i64 k,.bool b,.int .i64 x,.string s,.slice A m c,.slice B p q,.int .i64 a]] w λe w'=>e= .returned (.agg #[.string key,.int .i64 k,.bool b,.int .i64 x,.string s,.slice A m c,.slice B p q,.int .i64 a,.int .i64 0])/\Ext w w':=
 GN key _ j _ w h.choose_spec
theorem Zbb (n:Nat) (xs:List Value) (v:Value) (w:World) (J:RSl w 9 v n xs) (h:∀u∈xs,u.oneCell'=true) (O:n<=1000000):
 Calls prog 50 #[v] w λe w'=>∃A m c,e= .returned (.agg #[.int .i64 5,.bool false,.int .i64 0,.string ⟨#[]⟩,.slice none 0 0,.slice A m c,.int .i64 0])/\w'.ownsRow w.heap.size 56 9 (.slice A m c) n xs/\Ext w w':=by
 have I:=gd (λw' (K:Ext w w')=>I9 v n xs w' (J.ext K) h (by omega));clear h;go_enter func50,ntmps50
 go_wp2_with (first|(go_at_call 97;refine (I.out _ ((Ext.refl w).alloc _)).mono ?_;rintro e w1 ⟨v',rfl,j,D⟩;(obtain ⟨_,G,H,rfl,_⟩:=id (RSl.of_own j));(have C:=D.heap (Zh w _)))|(refine Zg rfl 25 (.tmp 2) (.tmp 5) rfl w.heap.size _ rfl rfl _ _ C Yv rfl (by simp[Value.oneCell']) ?_))
 ((try simp only[Exit.inBlock,Exit.then]);refine Zm (Zz rfl _ _ _ _ _ _ _ rfl (Zk _ _ _ _ _ _ C) underlying25 rfl Yv) rfl ?_);have F:Ext w (w1.setRow w.heap.size #[Value.int .i64 5,.bool false,.int .i64 0,.string ⟨#[]⟩,.slice none 0 0,.slice G n H,.int .i64 0]):=(((Ext.refl w).alloc _).trans D).setRow (Zd _) _;exact ⟨G,n,H,rfl,VN (X7 j (by show w.heap.size<(w.heap.push _).size;simp) _) (by rw[Zp];omega),F⟩
theorem ZdH {w:World} {b sz n g:Nat} {e F:TypeId} {v:Value} {xs:List Value} {A:Array Value} {fr:Nat×Nat} (h:w.ownsRow b e sz v n xs) (j:w.heap[g]? =some (.cells A F fr)) (D:e≠F) (cs:Array Value):(w.setRow g cs).ownsRow b e sz v n xs:=by
 refine h.kept (row:=some g) ⟨rfl,rfl,rfl,by simp[World.setRow],λk _ K=>ZD w g k cs (λe=>K (by rw[e]))⟩ ?_;rcases h.2 with ⟨rfl,_⟩|⟨I,cap,G,rfl,_,J,_⟩
 ·exact Or.inl rfl
 ·refine Or.inr λH=> ?_;have C:I=g:=by simp[Value.ownBlock] at H;omega
  subst C;rw[J] at j;injection j with j;injection j with _ j;exact D j
theorem EncO.setRow {w:World} {l:List Ent} {css:List (List Value)} {g:Nat} {j:Array Value} {fr:Nat×Nat} (h:EncO w l css) (G:w.heap[g]? =some (.cells j 25 fr)) (cs:Array Value):EncO (w.setRow g cs) l css:=
 ⟨h.1,λi e c H F=>by
  obtain ⟨A,n,d,C,D⟩:=h.2 i e c H F;exact ⟨A,n,d,C,ZdH D G (by decide) cs⟩⟩
theorem RMs.obj {w:World} {v:Value} {ks:List ByteArray} {vs:List JV} {ms:List (ByteArray×List Value×Int)} (h:RMs w v ks vs ms):RV w (.obj ks vs) (ocells v 0):=by
 obtain ⟨A,C,D,n,j⟩:=h;exact ⟨n+1,0,v,ms,rfl,A,C,D,j⟩
theorem ZdZ (l:List (ByteArray×ByteArray)) (key:ByteArray) (j:JV) (cs:List Value) (v:Value) (w:World) (h:RSl w 9 v (l.length+1) ((l.map cellM).flatten++mcell (key,cs,0))) (I:RV w j cs):
 RMs w v (l.map Prod.fst++ [key]) (l.map (λp=> .str p.2)++ [j]) (l.map (λp=>(p.1,strCells p.2,0))++ [(key,cs,0)]):=by
 obtain ⟨n,J⟩:=I;refine ⟨by rw[Yp,Vo];rfl,by simp,?_,max n 1,λi K m A C=> ?_⟩
 ·rw[Yp,J8,Vo];have H:(mcell∘λp:ByteArray×ByteArray=>(p.1,strCells p.2,(0:Int)))=cellM:=rfl;rw[H];simpa using h
 ·by_cases D:i<l.length
  ·rw[Z2 (by simpa using D),ZT] at A C;rw[Zc D] at A C;simp only[Option.map_some,ZQ] at A C;subst A C;exact RVn.more 1 _ _ _ (Nat.le_max_right _ _) (Jm w _)
  ·rw[ZK (by simpa using D),ZS] at A C;have F:i - l.length=0:=by
    by_cases G:i - l.length=0
    ·exact G
    ·rw[List.getElem?_eq_none (by simp;omega)] at A;simp at A
   rw[F] at A C;simp only[List.getElem?_cons_zero,ZQ] at A C;subst A C;exact RVn.more n _ _ _ (Nat.le_max_left _ _) J
end
end Go.Proofs.YthlnaldahkgjnaaGreatDoor
