/- Parts of the proof: contracts and plain laws. -/
import Derived.Test.YtnlafkgkcnenfaaGreatDoorU22
import Derived.Test.YtnlafkgkcnenfaaGreatDoorU38
namespace Go.Proofs.YtnlafkgkcnenfaaGreatDoor
open Go Go.RowKit Go.Joins _root_.Go.Proofs.Tryz
set_option linter.unusedVariables false
set_option linter.unusedSimpArgs false
set_option maxRecDepth 100000
set_option maxHeartbeats 16000000
theorem Zsl (N:Nat) (g2:3<=N) (hN:N<=10000):∀(f d:Nat) (path:List ByteArray) (v:Value) (l:List Fc) (w:Wq),path.length=d->65<=f+d->d<=1000->(f=0->l≠ [])->asc (l.map Fc.f)->(∀x∈l,Pref path x.f/\x.f.path.length<=64)->RFcs w v l->(∀x∈l,RdC w x/\smF N x.f)->l.length<=N->
 Calls prog 48 #[v,nI (d:Nat)] w (FolR w (outsP f d (l.map Fc.f))):=by
 intro f
 induction f with
 |zero=>
  intro d path v l w hp hf hd gH hs hl;cases l with
  |nil=>exact absurd rfl (gH rfl)
  |cons x t=>have h1:=(hl x Zx).1.len;have h2:=(hl x Zx).2;omega
 |succ f ih=>
 intro d path v l w hp hf hd gH hs hl hv fb fM;obtain ⟨i0,gE,gP,gQ,gR⟩:=YH Vh;obtain ⟨i1,fD,fE,fF,fG⟩:=YH ZmT;obtain ⟨A,c,fB, -, -⟩:=hv.form;subst fB;obtain ⟨gq,gK⟩:=Qb hp hs λx Z=>by obtain ⟨y,hy,rfl⟩:=ZU.1 Z;exact (hl y hy).1
 have fd:(l.map Fc.f).takeWhile (λx=>decide (x.path.length=d))=(l.map Fc.f).take (ownN d (l.map Fc.f)):=YQ.1 (Xx _);have fJ:ownN d (l.map Fc.f)<=l.length:=by have:=List.IsPrefix.length_le (Xx (p:=λx:Fd=>decide (x.path.length=d)) (l:=l.map Fc.f));rw[Zq] at this;exact this
 rw[fd] at gq;have hR:=Zux f d (l.map Fc.f);obtain ⟨F,gF⟩:∃F,ownN d (l.map Fc.f)=F:=⟨_,rfl⟩;rw[show ((l.map Fc.f).takeWhile λx=>decide (x.path.length=d)).length=F from gF] at gK;rw[gF] at gq fJ hR;have gw:∀j (h:j<l.length),j<F->l[j].f.path.length=d:=λj h hj=>by rw[gq l[j].f (List.mem_iff_getElem.2 ⟨j,by rw[ZM,Zq];omega,by simp⟩),hp]
 have gx:∀j (h:j<l.length),¬j<F->d<l[j].f.path.length:=λj h hj=>gK _ (List.mem_iff_getElem.2 ⟨j - F,by rw[Zk,Zq];omega,by simp[show F+(j - F)=j by omega]⟩);have fp:=gd ih;have HV:=gd hv;have hO:=gd fb;have HS:=gd hs;have HL:=gd hl;have HR:=gd hR;have HA:=gd gw;have HB:=gd gx;have HP:=gd hp;have gT:=gd fM;have HF:=gd hf;have fU:d<=1000:=hd;clear ih hv fb hs hl hR gw gx hp gq gK fd gH hf gF;go_enter func48,ntmps48;go_wp2;go_loopw [5,6] (λu i wr=>∃(j:Nat) (O:List Nc),j<=l.length/\i=nI j/\FoI w u O (((l.map Fc.f).take (min j F)).map feedN) wr) (λ_ i _=>l.length - (intOf i).toNat)
 case atStart=>exact ⟨0,[],Zj _,rfl,HNs.nil _ _,by rw[Nc.nds,Nat.zero_min,List.take_zero];rfl,newNs.nil _,Ext.refl _,Zj _⟩
 case round=>
  obtain ⟨j,O,hj,rfl,hI⟩:=hrel;obtain ⟨U,uc,hu, -, -⟩:=RNs.form hI.nodes.reads;subst hu;have gC:O.length=min j F:=by have h1:=Zz List.length hI.nds;rw[Jw,Zq,ZM,Zq] at h1;omega
  by_cases H:j<l.length
  ·obtain ⟨ad,c',gh,ha⟩:=(HV.out.ext hI.ext).at H;injection gh with hv1 hv2 hv3;subst hv1;clear hv2 hv3;have ga:=gT.out;have g6:(0:Int)<=(j:Int):=om;have fH:(j:Int)<(l.length:Int):=om;obtain ⟨Y,fi⟩:=hO.out l[j] (ZL H);have V:=HA.out j H;have X:=HB.out j H;have hc:=(HL.out l[j] (ZL H)).2;have gN:((l.map Fc.f).take (min (j+1) F)).map feedN=if j<F then ((l.map Fc.f).take (min j F)).map feedN++ [feedN l[j].f] else ((l.map Fc.f).take (min j F)).map feedN:=by
    split
    ·rename_i h;rw[show min (j+1) F=j+1 by omega,show min j F=j by omega,Zr (by rw[Zq];exact H),ZS,Xn];rfl
    ·rw[show min (j+1) F=min j F by omega]
   obtain ⟨x,Z⟩:∃x,l[j]=x:=⟨_,rfl⟩;rw[Z] at ha Y fi V X hc gN;obtain ⟨xp,xe,D⟩:=x;obtain ⟨PA,pc,hq, -, -⟩:=Y.1.form;obtain ⟨EA,ec,h9, -, -⟩:=Y.2.form;dsimp only at hq h9 V X hc;subst hq;subst h9;obtain ⟨a0,a1,a2,a3,a4,a5⟩:=ha;dsimp only at a0 a1 a2 a3 a4 a5;obtain ⟨W2,h8⟩:∃W2,wr.alloc (.cells #[.slice PA D.path.length pc,.string D.id,.string D.title,.string D.link,nI D.upd,.slice EA D.ents.length ec] 55)=W2:=⟨_,rfl⟩;have fS:Ext wr W2:=(by rw[<-h8];exact (Ext.refl wr).alloc _);have hU:W2.heap[wr.heap.size]? =some (.cells #[.slice PA D.path.length pc,.string D.id,.string D.title,.string D.link,nI D.upd,.slice EA D.ents.length ec] 55):=(by rw[<-h8];exact Zg wr _);have k0:=(Zy hU 0).trans rfl;have k1:=(Zy hU 1).trans rfl;have k2:=(Zy hU 2).trans rfl;have k3:=(Zy hU 3).trans rfl;have gS:=gd (λW (Z:Ext W2 W)=>(Zy (Z.heap hU) 3).trans rfl);have hA:=gd (hI.ext_ fS);have hM:=gd gC;have gX:=gd gN;clear gN Y fi Z hU hI gC;by_cases gn:j<F
   ·have q1:((D.path.length:Int)==(d:Int))=true:=(by rw[V gn];simp);have hK:Hid (((l.map Fc.f).take (min (j+1) F)).map feedN=((l.map Fc.f).take (min j F)).map feedN++ [feedN D]):=gd (gX.out.trans (Zi gn));clear V X hc;obtain ⟨HM,hh⟩:=ZtJ (n:=O.length) (by have:=hM.out;omega);have HM:=gd HM;have hh:=gd hh;have gY:=gd (ZtC _ D.title D.id _ (Zlf W2 D.title D.id));cases hlk:D.link.toList.isEmpty with
    |true=>
     have gG:∀al,(leafC none 0 al D).nd=feedN D:=λal=>Zm4 (Zlj hlk)
     go_wp2_with (first|(refine Zf rfl 55 (.tmp 7) (.tmp 22) rfl wr.heap.size _ rfl rfl _ _ (Zg _ _) Jh rfl Zfv ?_;rw[Z0];rw[h8])|(go_at_call 49;refine Za (gY.out) ?_;rintro e w3 ⟨AB,ac,rfl,hJ,hr⟩)|(refine Zf rfl 25 (.tmp 8) (.tmp 34) rfl w3.heap.size _ rfl rfl _ _ (Zg _ _) ZJ rfl (by simp[Value.oneCell']) ?_;rw[Z0];obtain ⟨W4,hC⟩:∃W4,w3.alloc (.cells #[nI 0,eS,.string ⟨#[111,117,116,108,105,110,101]⟩,.slice AB 3 ac,sN,eS,nI 0] 25)=W4:=⟨_,rfl⟩;rw[hC];(have K:Ext w3 W4:=by rw[<-hC];exact (Ext.refl w3).alloc _);(have I:W4.heap[w3.heap.size]? =some (.cells #[nI 0,eS,.string ⟨#[111,117,116,108,105,110,101]⟩,.slice AB 3 ac,sN,eS,nI 0] 25):=by rw[<-hC];exact Zg w3 _);have g3:=gS.out _ (((Ext.refl W2).alloc _).trans (hr.trans K));have c0:=(Zy I 0).trans rfl;have c1:=(Zy I 1).trans rfl;have c2:=(Zy I 2).trans rfl;have c3:=(Zy I 3).trans rfl;have c4:=(Zy I 4).trans rfl;have c5:=(Zy I 5).trans rfl;have c6:=(Zy I 6).trans rfl)|(at_builtin;refine ZO _ rfl (.tmp 43) (.tmp 45) _ rfl w.heap.size 25 i0 _ 7 112 underlying23 gE gP gQ gR rfl (by decide) _ _ _ rfl ((hA.out.ext_ (((Ext.refl W2).alloc _).trans (hr.trans K))).nodes.ext ((Ext.refl W4).alloc _)).row _ 1 (cellsN (leafC none 0 (.slice AB 3 ac) D)) rfl (Yo rfl (by decide)) (Xp ⟨⟨_,_,_,rfl⟩,⟨_,_,_,rfl⟩⟩) HM.out hh.out ?_ ?_;(rw[Zu];have:=((hA.out.ext_ (((Ext.refl W2).alloc _).trans (hr.trans K))).ext).size;omega);intro v9 w9 J ho R))
     have ff:Ext W2 W4:=((Ext.refl W2).alloc _).trans (hr.trans K);have h0:=(hA.out.ext_ ff).ext_ ((Ext.refl W4).alloc (.cells #[nI 0,eS,.string ⟨#[111,117,116,108,105,110,101]⟩,.slice AB 3 ac,sN,eS,nI 0] 25));have hH:=Ya (Ya hJ K) ((Ext.refl W4).alloc (.cells #[nI 0,eS,.string ⟨#[111,117,116,108,105,110,101]⟩,.slice AB 3 ac,sN,eS,nI 0] 25));have hws:=hA.out.ext.size;go_roundw
     case rel=>refine ⟨j+1,O++ [leafC none 0 (.slice AB 3 ac) D],H,by go_num,?_⟩;rw[hK.out,<-gG (.slice AB 3 ac)];exact h0.snoc (Zm5 hH (RNs.nil _)) (Zg5 hH (by rw[Zu];omega)).1 (Zst h0.nodes.row hH (by simp[flatA,cellsA,pairA])).1 J ho R (by have:=hM.out;omega)
     case measure=>simp[intOf];omega
    |false=>
     have gG:∀al,(leafC2 none 0 al D).nd=feedN D:=λal=>Zld (Zlh hlk)
     go_wp2_with (first|(refine Zf rfl 55 (.tmp 7) (.tmp 22) rfl wr.heap.size _ rfl rfl _ _ (Zg _ _) Jh rfl Zfv ?_;rw[Z0];rw[h8])|(go_at_call 49;(with_reducible refine Za (gY.out) ?_);rintro e w3 ⟨AB,ac,rfl,hJ,hr⟩)|(refine Zf rfl 25 (.tmp 8) (.tmp 34) rfl w3.heap.size _ rfl rfl _ _ (Zg _ _) ZJ rfl (by simp[Value.oneCell']) ?_;rw[Z0];obtain ⟨W4,hC⟩:∃W4,w3.alloc (.cells #[nI 0,eS,.string ⟨#[111,117,116,108,105,110,101]⟩,.slice AB 3 ac,sN,eS,nI 0] 25)=W4:=⟨_,rfl⟩;rw[hC];(have K:Ext w3 W4:=by rw[<-hC];exact (Ext.refl w3).alloc _);(have I:W4.heap[w3.heap.size]? =some (.cells #[nI 0,eS,.string ⟨#[111,117,116,108,105,110,101]⟩,.slice AB 3 ac,sN,eS,nI 0] 25):=by rw[<-hC];exact Zg w3 _);have g3:=gS.out _ (((Ext.refl W2).alloc _).trans (hr.trans K));have c0:=(Zy I 0).trans rfl;have c1:=(Zy I 1).trans rfl;have c2:=(Zy I 2).trans rfl;have c3:=(Zy I 3).trans rfl;have c4:=(Zy I 4).trans rfl;have c5:=(Zy I 5).trans rfl;have c6:=(Zy I 6).trans rfl)|(go_at_call 49;have fA:=RSl.of_own (Ya (Ya hJ K) ((Ext.refl W4).alloc (.cells #[.string ⟨#[104,116,109,108,85,114,108]⟩,.string D.link] 9)));have hz:=Zs4 AB ac _ D.title D.id D.link _ fA (Zli W4 D.link);(with_reducible refine Za hz ?_);clear hz;rintro e W6 ⟨AC,hm,rfl,hb,gO⟩;have gy:Ext W4 W6:=((Ext.refl W4).alloc _).trans gO;have g5:=gy.heap I)|(refine Zf rfl 25 (.tmp 8) (.tmp 42) rfl w3.heap.size _ rfl rfl _ _ g5 ZJ rfl (by simp[Value.oneCell']) ?_;obtain ⟨W7,gl⟩:∃W7,(W6.setRow w3.heap.size #[nI 0,eS,.string ⟨#[111,117,116,108,105,110,101]⟩,.slice AC 4 hm,sN,eS,nI 0])=W7:=⟨_,rfl⟩;rw[gl];(have hD:W7.heap[w3.heap.size]? =some (.cells #[nI 0,eS,.string ⟨#[111,117,116,108,105,110,101]⟩,.slice AC 4 hm,sN,eS,nI 0] 25 (0,0)):=by rw[<-gl];exact ZF _ _ _ _ _ _ g5);have e0:=(Zy hD 0).trans rfl;have e1:=(Zy hD 1).trans rfl;have e2:=(Zy hD 2).trans rfl;have e3:=(Zy hD 3).trans rfl;have e4:=(Zy hD 4).trans rfl;have e5:=(Zy hD 5).trans rfl;have e6:=(Zy hD 6).trans rfl;have hws:=hA.out.ext.size;have fe:W2.heap.size<=w3.heap.size:=(((Ext.refl W2).alloc _).trans hr).size;(have hB:FoI w (.slice U O.length uc) O (((l.map Fc.f).take (min j F)).map feedN) W7:=by rw[<-gl];exact hA.out.row (((Ext.refl W2).alloc _).trans (hr.trans (K.trans gy))) fe _);(have fN:W7.ownsRow (W4.heap.size+1) 88 4 (.slice AC 4 hm) 4 (flatA ([(typeL,rssL),(textL,lst D.title),(xmlUrlL,lst D.id)].map pairA++ [(htmlUrlL,lst D.link)].map pairA)):=by rw[<-gl];exact Jk (by rw[Zu] at hb;exact hb) (by have:=K.size;omega) _))|(at_builtin;refine ZO _ rfl (.tmp 43) (.tmp 45) _ rfl w.heap.size 25 i0 _ 7 112 underlying23 gE gP gQ gR rfl (by decide) _ _ _ rfl (hB.nodes.ext ((Ext.refl W7).alloc _)).row _ 1 (cellsN (leafC2 none 0 (.slice AC 4 hm) D)) rfl (Yo rfl (by decide)) (Xp ⟨⟨_,_,_,rfl⟩,⟨_,_,_,rfl⟩⟩) HM.out hh.out ?_ ?_;(rw[Zu];have:=hB.ext.size;omega);intro v9 w9 J ho R))
     have h0:=hB.ext_ ((Ext.refl W7).alloc (.cells #[nI 0,eS,.string ⟨#[111,117,116,108,105,110,101]⟩,.slice AC 4 hm,sN,eS,nI 0] 25));have hH:=Ya fN ((Ext.refl W7).alloc (.cells #[nI 0,eS,.string ⟨#[111,117,116,108,105,110,101]⟩,.slice AC 4 hm,sN,eS,nI 0] 25));have f6:=K.size;go_roundw
     case rel=>refine ⟨j+1,O++ [leafC2 none 0 (.slice AC 4 hm) D],H,by go_num,?_⟩;rw[hK.out,<-gG (.slice AC 4 hm)];exact h0.snoc (Zle hH (RNs.nil _)) (Zg5 hH om).2 (Zst h0.nodes.row hH (by simp[flatA,cellsA,pairA])).2 J ho R (by have:=hM.out;omega)
     case measure=>simp[intOf];omega
   ·have q1:((D.path.length:Int)==(d:Int))=false:=(by have:=X gn;rw[Zv];omega);have hK:Hid (((l.map Fc.f).take (min (j+1) F)).map feedN=((l.map Fc.f).take (min j F)).map feedN):=gd (gX.out.trans (Ze gn));clear V X hc
    go_wp2_with (first|(refine Zf rfl 55 (.tmp 7) (.tmp 22) rfl wr.heap.size _ rfl rfl _ _ (Zg _ _) Jh rfl Zfv ?_;rw[Z0];rw[h8]))
    go_roundw
    case rel=>exact ⟨j+1,O,H,by go_num,by rw[hK.out];exact hA.out⟩
    case measure=>simp[intOf];omega
  ·have fI:j=l.length:=om;subst fI;rw[show min l.length F=F by omega] at hI;have fy:Hid (((l.map Fc.f).take F).map feedN++FO f d ((l.map Fc.f).drop (max 0 F))=outsP (f+1) d (l.map Fc.f)):=gd (by rw[show max 0 F=F by omega];exact HR.out.symm);have HI:=gd hI;clear hI gC H;go_wp2;go_loopw [5,9] (λu i wr=>∃(k:Nat) (O:List Nc) (R':List Nd),k<=l.length/\i=nI k/\FoI w u O R' wr/\Hid (R'++FO f d ((l.map Fc.f).drop (max k F))=outsP (f+1) d (l.map Fc.f))) (λ_ i _=>l.length - (intOf i).toNat)
   case atStart=>exact ⟨0,O,_,Zj _,rfl,HI.out,fy⟩
   case round=>
    obtain ⟨k,O2,R2,hk,rfl,hI,h6⟩:=hrel;obtain ⟨U2,dc,hu, -, -⟩:=RNs.form hI.nodes.reads;subst hu;by_cases H:k<l.length
    ·obtain ⟨ad,c',gh,ha⟩:=(HV.out.ext hI.ext).at H;injection gh with hv1 hv2 hv3;subst hv1;clear hv2 hv3;have ga:=gT.out;have g6:(0:Int)<=(k:Int):=om;have fH:(k:Int)<(l.length:Int):=om;have V:=HA.out k H;have X:=HB.out k H;have hc:=(HL.out l[k] (ZL H)).2;have Y:=(hO.out l[k] (ZL H)).1;have hE:l.drop k=l[k]::l.drop (k+1):=Zl H;obtain ⟨x,Z⟩:∃x,l[k]=x:=⟨_,rfl⟩;rw[Z] at ha V X hc Y hE;obtain ⟨xp,xe,D⟩:=x;obtain ⟨PA,pc,hq, -, -⟩:=Y.1.form;dsimp only at hq V X hc Y;subst hq;have a0:=ha.c0;dsimp only at a0;clear ha Z;by_cases go:k<F
     ·have q1:((D.path.length:Int)==(d:Int))=true:=(by rw[V go];simp);have fw:Hid (R2++FO f d ((l.map Fc.f).drop (max (k+1) F))=outsP (f+1) d (l.map Fc.f)):=gd (by rw[show max (k+1) F=max k F by omega];exact h6.out);have hL:=gd hI;clear V X hc Y hE hI h6;go_wp2;go_roundw
      case rel=>exact ⟨k+1,O2,R2,H,by go_num,hL.out,fw⟩
      case measure=>simp[intOf];omega
     ·have gD:=X go;have q1:((D.path.length:Int)==(d:Int))=false:=(by rw[Zv];omega);obtain ⟨pa,f8,gM,gL⟩:=RStrs.at Y.1 gD;injection gM with hv1 hv2 hv3;subst hv1;clear hv2 hv3
      replace gL:=hI.ext.cell gL
      have fC:(0:Int)<=(d:Int):=om;have f0:(d:Int)<(D.path.length:Int):=om;have hP:pathAt D d=D.path[d]:=(by unfold pathAt;rw[ZZ,Zh gD];rfl);obtain ⟨S,hS⟩:∃S,D.path[d]=S:=⟨_,rfl⟩;rw[hS] at gL hP;obtain ⟨n,hn⟩:∃n,runN d ((l.drop k).map Fc.f)=n:=⟨_,rfl⟩;have g7:n=0+((((l.drop k).map Fc.f).drop 0).takeWhile λy=>decide (pathAt y d=S)).length:=(by rw[<-hn,hE,<-hP,YI];rfl);have g8:1<=n:=(by rw[<-hn,hE];exact ZcM d _ _);have g9:n<=l.length - k:=(by rw[<-hn];have h:=ZoR d ((l.drop k).map Fc.f);rwa [Zq,Zk] at h);have gk:((l.drop k).take n).length=n:=(by rw[ZM,Zk];omega);have hZ:((l.drop k).take n).Sublist l:=(List.take_sublist _ _).trans (List.drop_sublist _ _);have g1:∀x∈(l.drop k).take n,Pref (path++ [S]) x.f/\x.f.path.length<=64:=λx Z=>(by have fh:=hZ.subset Z;have h1:pathAt x.f d=S:=(by rw[<-hP];have h:=Zbs D ((l.drop (k+1)).map Fc.f) d x.f;refine h ?_;have h2:x.f∈((l.drop k).take n).map Fc.f:=Yc Z;rw[List.map_take,<-hn,hE] at h2;exact h2);obtain ⟨i,hi,he⟩:=List.mem_iff_getElem.1 Z;rw[List.getElem_take,List.getElem_drop] at he;have h3:d<x.f.path.length:=(by rw[<-he];exact HB.out (k+i) (by rw[gk] at hi;omega) om);refine ⟨?_,(HL.out x fh).2⟩;rw[<-h1];exact (HL.out x fh).1.next HP.out h3);have gz:Hid (∀(g:Value) (W:Wq),HFs W wr.heap.size g ((l.drop k).take n)->Calls prog 48 #[g,nI ((d:Int)+1)] W (FolR W (outsP f (d+1) (((l.drop k).take n).map Fc.f)))):=gd (λg W hg=>fp.out (d+1) (path++ [S]) g ((l.drop k).take n) W (by rw[Zb,HP.out];rfl) (by have:=HF.out;omega) om (λ_ e=>by rw[e] at gk;simp at gk;omega) (UD (hZ.map _) HS.out) g1 hg.row.reads (λx Z=>⟨hg.rd x Z,(hO.out x (hZ.subset Z)).2⟩) om);have fr:Hid (∀O3:List Nc,Nc.nds O3=outsP f (d+1) (((l.drop k).take n).map Fc.f)->(∀y∈O3,y.nd.small N)/\O3.length<=16777216):=gd (λO3 e=>by
       have h:=ZcB g2 f (d+1) (((l.drop k).take n).map Fc.f) (λx Z=>by obtain ⟨y,hy,rfl⟩:=ZU.1 Z;exact (hO.out y (hZ.subset hy)).2) (by rw[Zq];omega);rw[<-e] at h;refine ⟨λy hy=>(QQ _).1 h.1 _ (by rw[Je];exact Yc hy),?_⟩;have h2:=h.2.1;rw[Jw,Zq] at h2;omega)
      have fn:Hid (FO f d ((l.map Fc.f).drop (max k F))=withP (elemN outlineL (outsP f (d+1) (((l.drop k).take n).map Fc.f))) [(textL,lst S)]::FO f d ((l.map Fc.f).drop (max (k+n) F))):=gd (by
       have e1:(l.map Fc.f).drop k=D::(l.drop (k+1)).map Fc.f:=(by rw[<-List.map_drop,hE];rfl);rw[show max k F=k by omega,show max (k+n) F=k+n by omega,e1,Zut,<-e1,<-List.map_drop,hn,hP,<-List.map_take,<-List.map_drop,List.drop_drop,List.map_drop])
      have HI:=gd hI;have fY:=gd hP;have gU:=gd g8;have fq:=gd go;have ft:=gd g7;have fu:=gd g9;have hM:Hid (O2.length+1<=16777216):=gd (by
       have h1:=ZcB g2 (f+1) d (l.map Fc.f) (λx Z=>by obtain ⟨y,hy,rfl⟩:=ZU.1 Z;exact (hO.out y hy).2) (by rw[Zq];exact ga);have h2:=h6.out;have h3:=Zz List.length h2;have h4:=Zz List.length hI.nds;have h5:=h1.2.1;rw[Zb] at h3;rw[Jw] at h4;rw[Zq] at h5;omega)
      obtain ⟨HM,hh⟩:=ZtJ (n:=O2.length) (by have:=hM.out;omega);have HM:=gd HM;have hh:=gd hh;have fV:d<=64:=om;have f7:IntKind.i64.wrap ((d:Int)+1)=(d:Int)+1:=IntWalk.i64_in _ om;clear V X hc Y hE hI hP hn g7 g8 g9 gk hZ g1 go hS gD;obtain ⟨wK,fR⟩:∃wK:Wq,wK=wr:=⟨_,rfl⟩;subst fR;go_wp2;go_loopw [11,12] (λg v wr=>∃(q t:Nat),t=k+q/\t<=l.length/\v=nI t/\HFs wr wK.heap.size g ((l.drop k).take q)/\Hid (n=q+((((l.map Fc.f).drop k).drop q).takeWhile λy=>decide (pathAt y d=S)).length)/\Ext wK wr) (λ_ v _=>l.length - (intOf v).toNat)
      case atStart=>exact ⟨0,k,rfl,om,rfl,HFs.nil _ _,(by rw[<-List.map_drop];exact ft),Ext.refl _⟩
      case round=>
       obtain ⟨q,t,ht,f3,rfl,hG,hW,hY⟩:=hrel;have ge:((l.drop k).take q).length=q:=(by rw[ZM,Zk];omega);obtain ⟨GA,gc,hg, -, -⟩:=hG.row.reads.form;rw[ge] at hg;subst hg;have f2:(0:Int)<=(t:Int):=om;have hF:q=n->True:=λ_=>trivial;by_cases hX:t<l.length;have fP:(t:Int)<(l.length:Int):=om;obtain ⟨fZ,c2,gh,ha⟩:=(HV.out.ext (HI.out.ext.trans hY)).at hX;injection gh with hv1 hv2 hv3;injection hv1 with hv1;subst hv1;clear hv2 hv3;have gr:=HB.out t hX (by have:=fq.out;omega);have hw:=(hO.out l[t] (ZL hX)).1;have gs:=(HL.out l[t] (ZL hX)).2;have hV:((l.map Fc.f).drop k).drop q=l[t].f::((l.map Fc.f).drop k).drop (q+1):=(by rw[List.drop_drop,List.drop_drop,<-ht,show k+(q+1)=t+1 by omega,Zl (by rw[Zq];exact hX),Xn]);have gm:(l.drop k).take (q+1)=(l.drop k).take q++ [l[t]]:=by
        rw[Zr (by rw[Zk];omega),List.getElem_drop]
        congr 2
        simp only[ht]
       obtain ⟨y,hy⟩:∃y,l[t]=y:=⟨_,rfl⟩;rw[hy] at ha gr hw gs hV gm;obtain ⟨yp,ye,Q⟩:=y;have gi:=hw;obtain ⟨PB,gt,hq, -, -⟩:=hw.1.form;obtain ⟨EB,gj,h9, -, -⟩:=hw.2.form;dsimp only at hq h9 gr gs hw hV;subst hq;subst h9;obtain ⟨pb,fW,gM,gb⟩:=RStrs.at hw.1 gr;injection gM with hv1 hv2 hv3;subst hv1;clear hv2 hv3
       replace gb:=(HI.out.ext.trans hY).cell gb
       have h7:pathAt Q d=Q.path[d]:=(by unfold pathAt;rw[ZZ,Zh gr];rfl);obtain ⟨T,hT⟩:∃T,Q.path[d]=T:=⟨_,rfl⟩;rw[hT] at gb h7;obtain ⟨a0,a1,a2,a3,a4,a5⟩:=ha;dsimp only at a0 a1 a2 a3 a4 a5;have fC:(0:Int)<=(d:Int):=om;have f1:(d:Int)<(Q.path.length:Int):=om;by_cases hQ:T=S
       ·have q2:(T.toList==S.toList)=true:=(by rw[hQ];simp);have fv:Hid (n=q+1+((((l.map Fc.f).drop k).drop (q+1)).takeWhile λy=>decide (pathAt y d=S)).length):=gd (by
         have h:=hW.out;rw[hV,Yi,Zi (by simp[h7,hQ]),Zd] at h;omega)
        have fo:=gd gm;have HG:=gd hG;have g0:=gd hY;have gB:=gd (gi.ext HI.out.ext);have gA:=gd ge;have gf:q+1<=maxLen/\(q+1)*104<=140737488355328:=(by unfold maxLen;omega);have gW:=gd gf;have HT:=gd ht;clear ht gf gm hG hY hw gi hV hW ge gs hy hT h7 hQ hF
        go_wp2_with (first|(at_builtin;refine ZO _ rfl (.tmp 88) (.tmp 93) _ rfl wK.heap.size 55 i1 _ 6 104 underlying29 fD fE fF fG rfl (by decide) _ q (flatC ((l.drop k).take q)) rfl (by have h:=Ya HG.out.row ((Ext.refl wr).alloc (.cells #[.slice (some pb) Q.path.length gt,.string Q.id,.string Q.title,.string Q.link,nI Q.upd,.slice EB Q.ents.length gj] 55));rw[gA.out] at h;exact h) _ 1 (cellsC ⟨.slice (some pb) Q.path.length gt,.slice EB Q.ents.length gj,Q⟩) rfl (Yo rfl (by decide)) (Jv ⟨⟨_,_,_,rfl⟩,⟨_,_,_,rfl⟩⟩) gW.out.1 gW.out.2 ?_ ?_;(rw[Zu];have:=g0.out.size;omega);intro v9 w9 J ho R))
        have fg:=g0.out.alloc (.cells #[.slice (some pb) Q.path.length gt,.string Q.id,.string Q.title,.string Q.link,nI Q.upd,.slice EB Q.ents.length gj] 55);go_roundw
        case rel=>
         refine ⟨q+1,t+1,(by have:=HT.out;omega),hX,by go_num,?_,fv,Ext.app fg ho (by have h:=Ya HG.out.row ((Ext.refl wr).alloc (.cells #[.slice (some pb) Q.path.length gt,.string Q.id,.string Q.title,.string Q.link,nI Q.upd,.slice EB Q.ents.length gj] 55));rw[gA.out] at h;exact h) (Zc _)⟩;rw[fo.out];exact (HG.out.ext ((Ext.refl wr).alloc _)).snoc (gB.out.ext fg) (by
          cases hob:(Value.slice GA q gc).ownBlock with
          |none=>exact ZbG gB.out
          |some g=>exact GX gB.out (HG.out.row.lt g hob).1) (by rw[gA.out];exact J) ho R
        case measure=>simp[intOf];omega
       have q2:(T.toList==S.toList)=false:=(by rw[Zv];exact λe=>hQ (toList_inj e));have gV:Hid (n=q):=gd (by
        have h:=hW.out;rw[hV,Yi,Ze (by simp[h7,hQ])] at h;exact h)
       have HT:=gd ht;clear ht gm hw gi hV hW ge gs hy hT h7 hQ hF
       rotate_left
       have gV:Hid (n=q):=gd (by
        have h:=hW.out;rw[List.drop_drop,ZC (by rw[Zq];omega)] at h;exact h)
       have fP:¬(t:Int)<(l.length:Int):=om;have HT:=gd ht;clear ht hW ge hF
       all_goals
        have fO:=gV.out
        subst fO
        have fm:=gd hG
        have fx:=gd hY
        obtain ⟨p,hp⟩:∃p,n=p+1:=⟨n - 1,by have:=gU.out;omega⟩
        have fX:=gd hp
        have fL:k+n<=l.length:=(by have:=fu.out;omega)
        have f4:IntKind.i64.wrap ((n:Int) - 1)=(p:Int):=(by rw[show (n:Int) - 1=(p:Int) by omega];exact IntWalk.i64_in _ om)
        have f5:IntKind.i64.wrap ((k:Int)+(p:Int))=(k:Int)+(p:Int):=IntWalk.i64_in _ om
        have gZ:Hid (Value.int .i64 (wrap64 ((k:Int)+(p:Int)+1))=Value.int .i64 ((k+n:Nat):Int)):=gd (Zz (Value.int .i64) ((IntWalk.wrap64_in _ om).trans om))
        clear hG hY hp
        go_wp2_with
      (first|(go_at_call 48;(have fj:=gz.out _ _ fm.out);(with_reducible refine Za fj ?_);clear fj;rintro e w4 ⟨u2,O3,rfl,gp,gu,gI,K⟩;(have gg:=fr.out O3 gu);(obtain ⟨f9,da,fQ, -, -⟩:=RNs.form gp.reads);subst fQ;(have fk:=Ztz N _ O3 w4 gp.reads (λy hy=>⟨(XC _).1 gp.rd y hy,gg.1 y hy⟩) gg.2))|(go_at_call 47;(with_reducible refine Za fk ?_);clear fk;rintro e w5 ⟨KB,kc,rfl,gJ,fT⟩;(have fl:=ZtB KB O3.length kc _ S _ (ZkR w5 S)))|(go_at_call 49;(with_reducible refine Za fl ?_);clear fl;rintro e w6 ⟨AB,ac,rfl,hb,gO⟩;(obtain ⟨hB,fc,fa,g4⟩:=ZtP HI.out fx.out gp gI K gJ fT ((Ext.refl w5).alloc _) hb gO))|(at_builtin;refine ZO _ rfl (.tmp 100) (.tmp 109) _ rfl w.heap.size 25 i0 _ 7 112 underlying23 gE gP gQ gR rfl (by decide) _ _ _ rfl (hB.nodes.ext ((Ext.refl w6).alloc _)).row _ 1 (cellsN (foldC (.slice AB 1 ac) (.slice KB O3.length kc) O3 S)) rfl (Yo rfl (by decide)) (Xp ⟨⟨_,_,_,rfl⟩,⟨_,_,_,rfl⟩⟩) HM.out hh.out ?_ ?_;(rw[Zu];have:=hB.ext.size;omega);intro v9 w9 J ho R))
        have fz:Hid ((R2++ [(foldC (.slice AB 1 ac) (.slice KB O3.length kc) O3 S).nd])++FO f d ((l.map Fc.f).drop (max (k+n) F))=outsP (f+1) d (l.map Fc.f)):=gd (by
         rw[<-h6.out,fn.out,ZmK (λy hy=>ZtD (gg.1 y hy)),gu,Zt];rfl)
        go_roundw
        case rel=>exact ⟨k+n,O2++ [foldC (.slice AB 1 ac) (.slice KB O3.length kc) O3 S],_,fL,gZ.out,FoI.snoc (hB.ext_ ((Ext.refl w6).alloc _)) (RdN.ext ((Ext.refl w6).alloc _) _ fc) fa g4 J ho R hM.out,fz⟩
        case measure=>
         rw[gZ.out]
         have:=gU.out
         simp[intOf]
         omega
    ·have fK:k=l.length:=om;subst fK;have hf:=h6.out;rw[show max l.length F=l.length by omega,ZC (by rw[Zq];exact Zc _),ZuF,ZV] at hf;subst hf;have hL:=gd hI;clear hI;go_wp2;go_ret;exact ⟨_,O2,rfl,hL.out.nodes,hL.out.nds,hL.out.new,hL.out.ext⟩
section
variable {B kc:Nat} {w:World}
theorem Zso (N:Nat) (R:N<=16777216) (x:Nc) (w:Wq) (J:x.nd.small N) (H:nodeOk 1 x.nd=true) (S:(docW x.nd).length<=140737488355328) (Q:RdN w x):
 Calls prog 50 #[.agg (cellsN x).toArray] w λe w'=>e= .returned (.tuple #[.string (str (docW x.nd)),nI 0])/\Ext w w':=by
 have hd:=Zsv _ _ J H;have hl:(docW x.nd).length=headW.length+(nodeW x.nd).length+1:=by unfold docW;rw[Zb,Zb];rfl
 have hh:headW.length=39:=rfl;have X:=gd (λw' (U:Ext w w')=>Zsi N R x w' J H (RdN.ext U _ Q));have Y:=gd (λw' (U:Ext w w')=>Zs1 N R 100 x w' om J om (RdN.ext U _ Q));have h:docW x.nd=headW++nodeW x.nd++ [10]:=rfl;rw[h];have g1:¬9223372036854775807<39+(nodeW x.nd).length:=om
 have g2:¬9223372036854775807<39+(nodeW x.nd).length+1:=om
 obtain ⟨n,A,c,l0,B,d,kids,rfl, -⟩:=Zp5 J Q;simp only[Zqg,bxE] at*;generalize nodeW _=D at*;have K:=gd ((Ext.refl w).alloc (.cells (bxE n (.slice A l0.length c) (.slice B kids.length d)).toArray 25));have F:=gd (λW=> @Zqf w W n (.slice A l0.length c) (.slice B kids.length d));obtain ⟨b0,b1,b2,b3,b4,b5,Z⟩:=F.out _ (Ext.refl _);simp only[bxE] at K b0 b1 b2 b3 b4 b5 Z F;clear J H Q hd R S hl hh h;go_enter func50,ntmps50
 go_wp2_with (first|(go_at_call 90;refine Za (X.out _ K.out) ?_;rintro e w3 ⟨rfl,I⟩;obtain ⟨d0,d1,d2,d3,d4,d5,d6⟩:=F.out _ I)|(go_at_call 91;refine Za (Y.out _ (K.out.trans I)) ?_;rintro e w4 ⟨rfl,V⟩))
 go_ret2
 exact ⟨Zz (λs=>Ending.returned (.tuple #[.string s,nI 0])) (by rw[<-Zp6,<-Zp6];rfl),(K.out.trans I).trans V⟩
theorem Zs3 (N:Nat) (nm:List UInt8) (v:Value) (l:List Nc) (w:Wq) (F:RNs w v l) (A:∀y∈l,RdN w y/\y.nd.small N) (D:l.length<=16777216):Calls prog 47 #[.string (str nm),v] w λe w'=>
 ∃KB kc,e= .returned (.agg #[nI 0,eS,.string (str nm),sN,.slice KB l.length kc,eS,nI 0])/\w'.ownsRow w.heap.size 25 7 (.slice KB l.length kc) l.length (flatN l)/\Ext w w':=by
 refine Za (ZrV N nm v l w F A D) ?_;rintro e w' ⟨ks,rfl,h,H⟩;obtain ⟨KB,kc,rfl⟩:=Ym h;exact ⟨KB,kc,rfl,h,H⟩
theorem ZtW (RB:Option Addr) (n rc:Nat) (v:Value) (w:Wq) (h:RStrs w v (pairS [(versionL,twoL)])):
 Calls prog 49 #[.agg #[nI 0,eS,.string ⟨#[111,112,109,108]⟩,sN,.slice RB n rc,eS,nI 0],v] w λe w'=>
  ∃AB ac,e= .returned (.agg #[nI 0,eS,.string ⟨#[111,112,109,108]⟩,.slice AB 1 ac,.slice RB n rc,eS,nI 0])/\w'.ownsRow w.heap.size 88 4 (.slice AB 1 ac) 1 (flatA [pairA (versionL,twoL)])/\Ext w w':=
 ZrZ opmlL sN [] n rc RB v [(versionL,twoL)] w (RAts.nil w) h (by show 0+1<=1000000;omega)
def headC:Nc:= .mk 0 [] headL sN [] sN [] [] 0
def bodyC (KB:Option Addr) (kc:Nat) (kids:List Nc):Nc:= .mk 0 [] bodyL sN [] (.slice KB kids.length kc) kids [] 0
theorem ZsO (w:Wq):RdN w headC:=by unfold headC;rw[RdN];exact ⟨RAts.nil w,RNs.nil w,by rw[RdNs];trivial⟩
theorem Zub {l:List Fd} (h:(encP l).small 10000):(Nd.mk 0 [] bodyL [] (outsP 66 0 l) [] 0).small 10000:=by
 have D:(elemN bodyL (outsP 66 0 l)).small 10000:=by unfold encP at h;rw[ZnS (by intro k A;rcases ZH.1 A with rfl|A;rfl;rw[Zo.1 A];rfl),Nd.small] at h;exact (QQ _).1 h.2.2.2.2.2.2.2.2 _ (Zn _ Zx)
 unfold elemN at D
 rwa [Jd (J1 66 0 l)] at D
theorem Zty (v:Value) (l:List Nc) (w:Wq) (D:RNs w v l) (h:∀y∈l,RdN w y/\y.nd.small 10000) (A:l.length<=16777216):Calls prog 47 #[.string ⟨#[98,111,100,121]⟩,v] w λe w'=>
 ∃KB kc,e= .returned (.agg #[nI 0,eS,.string ⟨#[98,111,100,121]⟩,sN,.slice KB l.length kc,eS,nI 0])/\w'.ownsRow w.heap.size 25 7 (.slice KB l.length kc) l.length (flatN l)/\Ext w w':=Zs3 10000 bodyL v l w D h A
theorem ZtA (v:Value) (l:List Nc) (w:Wq) (D:RNs w v l) (h:∀y∈l,RdN w y/\y.nd.small 10000) (A:l.length<=16777216):Calls prog 47 #[.string ⟨#[111,112,109,108]⟩,v] w λe w'=>
 ∃KB kc,e= .returned (.agg #[nI 0,eS,.string ⟨#[111,112,109,108]⟩,sN,.slice KB l.length kc,eS,nI 0])/\w'.ownsRow w.heap.size 25 7 (.slice KB l.length kc) l.length (flatN l)/\Ext w w':=Zs3 10000 opmlL v l w D h A
theorem Zuq (w:Wq) (KB:Option Addr) (kc:Nat) (kids:List Nc):RNs (w.alloc (.cells #[nI 0,eS,.string ⟨#[104,101,97,100]⟩,sN,sN,eS,nI 0,nI 0,eS,.string ⟨#[98,111,100,121]⟩,sN,.slice KB kids.length kc,eS,nI 0] 25)) (.slice (some ⟨w.heap.size,0,none⟩) 2 2) [headC,bodyC KB kc kids]:=
 Yo (w:=w) (size:=7) (n:=2) (cs:=flatN [headC,bodyC KB kc kids]) rfl (by decide)
theorem ZsP:headC.nd.small 10000:=by unfold headC;rw[Nc.nd,Nd.small];exact ⟨rfl,rfl,by decide,Zj _,(by intro b h;cases h),by rw[Nc.nds];exact Zj _,rfl,rfl,by rw[Nc.nds,Nds.small];trivial⟩
theorem ZsN {KB:Option Addr} {kids:List Nc} (h:w.ownsRow B 25 7 (.slice KB kids.length kc) kids.length (flatN kids)) (A:RdNs w kids):RdN w (bodyC KB kc kids):=by
 unfold bodyC;rw[RdN];exact ⟨RAts.nil w,RSl.of_own h,A⟩
theorem ZsC (v:Value) (l:List Fc) (w:Wq) (hr:RFcs w v l) (he:∀x∈l,RdC w x) (hs:(∀f∈l.map Fc.f,fokS f/\smF 10000 f)/\(l.map Fc.f).length<=10000):
 Calls prog 21 #[.agg #[v]] w λe w'=>∃r,e= .returned r/\EncRet w' r (l.map Fc.f)/\Ext w w':=by
 obtain ⟨A,c,rfl, -, -⟩:=hr.form;have hD:l.length<=10000:=by have:=hs.2;rwa [Zq] at this
 have hi:∀x∈l,smF 10000 x.f:=λx D=>(hs.1 x.f (Yc D)).2;obtain ⟨W0,Z⟩:∃W0,(w.alloc (.cells #[.slice A l.length c] 31)).alloc (.cells #[nI 0,eS,eS,sN,sN,eS,nI 0] 25)=W0:=⟨_,rfl⟩;have hj:Ext w W0:=by rw[<-Z];exact ((Ext.refl w).alloc _).alloc _
 have ha:W0.heap[w.heap.size]? =some (.cells #[.slice A l.length c] 31 (0,0)):=by rw[<-Z];exact (Uc _ _ (by rw[Zu];omega)).trans (Zg w _)
 have hn:W0.heap[w.heap.size+1]? =some (.cells #[nI 0,eS,eS,sN,sN,eS,nI 0] 25 (0,0)):=by rw[<-Z];exact YS w _ _
 have hh:W0.heap.size=w.heap.size+2:=by rw[<-Z,Zu,Zu]
 have b0:W0.cell? ⟨w.heap.size,0,none⟩=some (.slice A l.length c):=(Zy ha 0).trans rfl;have R:=gd hj;have hp:=gd hn;have hP:=gd hh;have hJ:=gd (λW (D:Ext W0 W)=>(Zy (D.heap ha) 0).trans rfl);have J:=gd (λw' (D:Ext w w')=>Zdq _ l w' (hr.ext D) (λx H=>(he x H).ext D) (λx D=>(hs.1 x.f (Yc D)).1) om);unfold EncRet;by_cases ho:okA (l.map Fc.f)=true
 ·have Q:=J;rw[Zi ho] at Q;simp only[Zi ho];have hM:=gd (λw' (D:Ext w w')=>Zsl 10000 (by decide) (by decide) 66 0 [] (.slice A l.length c) l w' rfl (by decide) (by decide) (λe=>by cases e) (Zbo ho) (λx D=>⟨⟨x.f.path,rfl⟩,(ZjX (XW.1 ((JM.1 ho).1 x.f (Yc D))).1).2.2⟩) (hr.ext D) (λx H=>⟨(he x H).ext D,hi x H⟩) hD);have hA:=ZkC (λx D=>(hs.1 x D).2) hs.2;have hL:Hid (∀O:List Nc,Nc.nds O=outsP 66 0 (l.map Fc.f)->(∀y∈O,y.nd.small 10000)/\O.length<=10000/\∀KB kc,(bodyC KB kc O).nd.small 10000):=gd (λO e=>by
   have hk:=Zub hA.1;have h:=ZcB (N:=10000) (by decide) 66 0 (l.map Fc.f) (λx D=>(hs.1 x D).2) hs.2;rw[<-e] at hk h;rw[Jw,Zq] at h;refine ⟨λy hy=>(QQ _).1 h.1 _ (by rw[Je];exact Yc hy),Zp h.2.1 hD,λKB kc=> ?_⟩;unfold bodyC;rw[Nc.nd];exact hk)
  clear ho J hr he hs hi hj ha hn hh hA;go_enter func21,ntmps21
  go_wp2_with (first|(go_at_call 16;refine Za (Q.out _ R.out) ?_;rintro e1 w1 ⟨rfl,F⟩;have b1:=hJ.out _ F)|(go_at_call 48;have hz:=hM.out _ (R.out.trans F);refine Za hz ?_;clear hz;rintro e2 w2 ⟨u,kids,rfl,K,hB,hC,H⟩;obtain ⟨UB,uc,hu, -, -⟩:=RNs.form K.reads;subst hu;have hd:=hL.out kids hB;(have hG:=Zty _ kids w2 K.reads (λy hy=>⟨(XC _).1 K.rd y hy,hd.1 y hy⟩) (by have:=hd.2.1;omega)))|(go_at_call 47;first|(with_reducible refine Za hG ?_;clear hG;rintro e3 w3 ⟨KB,kc,rfl,hb,V⟩)|(with_reducible refine Za hH ?_;clear hH;rintro e6 w6 ⟨RB,rc,rfl,hF,hl⟩;have hI:=ZtW RB 2 rc _ _ (ZnX w6)))|(refine Zf rfl 25 (.tmp 4) (.tmp 12) rfl w3.heap.size _ rfl rfl _ _ (Zg _ _) ZJ rfl (by simp[Value.oneCell']) ?_;rw[Z0];obtain ⟨Y,hf⟩:∃Y,w3.alloc (.cells #[nI 0,eS,.string ⟨#[98,111,100,121]⟩,sN,.slice KB kids.length kc,eS,nI 0] 25)=Y:=⟨_,rfl⟩;rw[hf];(have I:Ext w3 Y:=by rw[<-hf];exact (Ext.refl w3).alloc _);(have ht:Y.heap[w3.heap.size]? =some (.cells #[nI 0,eS,.string ⟨#[98,111,100,121]⟩,sN,.slice KB kids.length kc,eS,nI 0] 25):=by rw[<-hf];exact Zg w3 _);obtain ⟨e0,e1,e2,e3,e4,e5,e6⟩:=ZpX ht;(have hH:=ZtA _ _ _ (Zuq Y KB kc kids) (λy hy=>by rcases ZH.1 hy with rfl|hy;exact ⟨ZsO _,ZsP⟩;rw[Zo.1 hy];exact ⟨RdN.ext ((Ext.refl Y).alloc _) _ (ZsN (Ya hb I) (RdNs.ext (V.trans I) _ K.rd)),hd.2.2 KB kc⟩) (by show 2<=16777216;omega)))|(go_at_call 49;refine Za hI ?_;clear hI;rintro e7 w7 ⟨AB,ac,rfl,hg,hm⟩;have z7:=((F.trans (H.trans (V.trans I))).trans (((Ext.refl Y).alloc _).trans (hl.trans (((Ext.refl w6).alloc _).trans hm)))).heap hp.out)|(refine Zf rfl 25 (.tmp 2) (.tmp 18) rfl (w.heap.size+1) _ rfl rfl _ _ z7 ZJ rfl ZpR ?_))
  have X:Ext Y w7:=((Ext.refl Y).alloc _).trans (hl.trans (((Ext.refl w6).alloc _).trans hm));have s0:=hP.out;have s1:=F.size;have s2:=H.size;have s3:=V.size;have s4:=I.size;have s5:=hl.size;rw[Zu] at s5;have hR:Y.heap.size<=w6.heap.size:=om
  have S:=Ya (Ya hF ((Ext.refl w6).alloc (.cells #[.string ⟨#[118,101,114,115,105,111,110]⟩,.string ⟨#[50,46,48]⟩] 9))) hm;have hw:RdN w7 (bodyC KB kc kids):=RdN.ext X _ (ZsN (Ya hb I) (RdNs.ext (V.trans I) _ K.rd));have U:RdN w7 (.mk 0 [] opmlL (.slice AB 1 ac) [pairA (versionL,twoL)] (.slice RB 2 rc) [headC,bodyC KB kc kids] [] 0):=by rw[RdN,RdNs,RdNs,RdNs];exact ⟨RSl.of_own hg,RSl.of_own S,ZsO _,hw,trivial⟩
  have hq:awayN (some (w.heap.size+1)) (.mk 0 [] opmlL (.slice AB 1 ac) [pairA (versionL,twoL)] (.slice RB 2 rc) [headC,bodyC KB kc kids] [] 0):=by
   rw[awayN,awayNs,awayNs,awayNs];refine ⟨Or.inr (Jq hg (by rw[Zu];omega)),Or.inr (Jq S (by rw[Zu];omega)),?_,?_,trivial⟩
   ·unfold headC;rw[awayN];exact ⟨Or.inl rfl,Or.inl rfl,by rw[awayNs];trivial⟩
   ·unfold bodyC;rw[awayN];exact ⟨Or.inl rfl,Or.inr (Jq hb om),hC _ om⟩
  have hE:=ZoP (AB:=AB) (RB:=RB) (HB:=none) (KB:=KB) (ac:=ac) (rc:=rc) (hc:=0) (kc:=kc) hB;have hO:=gd (RdN.grown (Yx w7 (w.heap.size+1) #[nI 0,eS,.string ⟨#[111,112,109,108]⟩,.slice AB 1 ac,.slice RB 2 rc,eS,nI 0]) _ U hq);have hQ:=gd ((R.out.trans (F.trans (H.trans (V.trans I)))).trans X);have hN:=gd hE;have hv:(w7.setRow (w.heap.size+1) #[nI 0,eS,.string ⟨#[111,112,109,108]⟩,.slice AB 1 ac,.slice RB 2 rc,eS,nI 0]).heap[w.heap.size+1]? =some (.cells #[nI 0,eS,.string ⟨#[111,112,109,108]⟩,.slice AB 1 ac,.slice RB 2 rc,eS,nI 0] 25 (0,0)):=ZF _ _ _ _ _ _ z7;have hK:=gd hv;clear hv;clear U hq hw S hb K hC hg hF X hE s0 s1 s2 s3 s4 s5 hR hd e0 e1 e2 e3 e4 e5 e6 ht;((try simp only[Exit.inBlock,Exit.then]);refine ZD (Yn rfl _ _ _ _ _ _ _ rfl hK.out underlying25 rfl ZJ) rfl ?_);exact ⟨_,rfl,⟨.mk 0 [] opmlL (.slice AB 1 ac) [pairA (versionL,twoL)] (.slice RB 2 rc) [headC,bodyC KB kc kids] [] 0,rfl,hN.out,hO.out⟩,hQ.out.setRow (Yu _) _⟩
 ·have Q:=J;rw[Ze ho] at Q;simp only[Ze ho];clear ho J hr he hs hi hj ha hn hh;go_enter func21,ntmps21
  go_wp2_with (first|(go_at_call 16;refine Za (Q.out _ R.out) ?_;rintro e1 w1 ⟨rfl,F⟩;have z1:=F.heap hp.out)|(refine Zf rfl 25 (.tmp 2) (.tmp 8) rfl (w.heap.size+1) _ rfl rfl _ _ z1 ZJ rfl Zno ?_))
  ((try simp only[Exit.inBlock,Exit.then]);refine ZD (Yn rfl _ _ _ _ _ _ _ rfl (ZF _ _ _ _ _ _ z1) underlying25 rfl ZJ) rfl ?_);exact ⟨_,rfl,rfl,(R.out.trans F).setRow (Yu _) _⟩
end
section
variable {L:List Fd} {c n:Nat} {w w':World}
def zeroX:Nd:= .mk 0 [] [] [] [] [] 0
def encX (P:List Fd):Nd:=if okA P=true then encP P else zeroX
def encE (P:List Fd):Nat:=if okA P=true then 0 else 22
theorem Zrs {P:List Fd} (h:smA P):(encX P).small 10000:=by
 unfold encX;split
 ·exact (ZkC (λx D=>(h.1 x D).2) h.2).1
 ·unfold zeroX;rw[Nd.small];exact ⟨rfl,rfl,Zj _,Zj _,(by intro b A;cases A),Zj _,rfl,rfl,by rw[Nds.small];trivial⟩
theorem Zua (P:List Fd) (h:smA P):(encX P).dep<=100:=by
 have A:=Zrs h;unfold encX at A|-;split
 ·rename_i D;rw[Zi D] at A;have:=Zsv _ _ A (Ziz D).1;omega
 ·unfold zeroX;rw[Nd.dep,Nds.dep];decide
def EncX (P:List Fd) (w:Wq) (e:Ending) (w':Wq):Prop:=
 ∃n A c l B d kids,e= .returned (.tuple #[.agg (bxE n (.slice A (List.length l) c) (.slice B (List.length kids) d)).toArray,nI (encE P:Nat)])/\(Nc.mk 0 [] n (.slice A l.length c) l (.slice B kids.length d) kids [] 0).nd=encX P/\RdN w' (.mk 0 [] n (.slice A l.length c) l (.slice B kids.length d) kids [] 0)/\Ext w w'
theorem ZtI {P:List Fd} {r:Value} (K:smA P) (h:EncRet w' r P) (J:Ext w w'):EncX P w (.returned r) w':=by
 have D:=Zrs K;unfold EncRet at h;unfold EncX encE;unfold encX at D|-;split at h
 ·rename_i F;simp only[Zi F] at D|-;obtain ⟨x,rfl,H,I⟩:=h;obtain ⟨n,A,c,l,B,d,kids,rfl, -⟩:=Zp5 (N:=10000) (by rw[H];exact D) I;rw[Zqg];exact ⟨n,A,c,l,B,d,kids,rfl,H,I,J⟩
 ·rename_i F;simp only[Ze F];subst h;exact ⟨[],none,0,[],none,0,[],rfl,by rw[Nc.nd,Nc.nds];rfl,by rw[RdN];exact ⟨RAts.nil _,RNs.nil _,by rw[RdNs];trivial⟩,J⟩
theorem Zuc {A:Option Addr} (w:Wq) (J:Env w) (K:ArcG w A n c L) (D:smA L):Calls prog 20 #[.agg #[.slice A n c]] w (EncX L w):=by
 obtain ⟨lc,rfl,rfl,H,I⟩:=K;refine Za (ZiA _ lc w J H I (λx F=>(D.1 x.f (Yc F)).1) (by have:=D.2;rw[Zq] at this;omega)) ?_;rintro e w' ⟨r,rfl,h,F⟩;exact ZtI D h F
theorem ZrW {A:Option Addr} (w:Wq) (I:ArcG w A n c L) (D:smA L):Calls prog 21 #[.agg #[.slice A n c]] w (EncX L w):=by
 obtain ⟨lc,rfl,rfl,F,H⟩:=I;refine Za (ZsC _ lc w F H D) ?_;rintro e w' ⟨r,rfl,h,J⟩;exact ZtI D h J
theorem Ztx {A:Option Addr} (w:Wq) (hL:ArcG w A n c L) (K:smA L):
 Calls prog 22 #[.agg #[.slice A n c]] w λe w'=>e= .returned (.tuple #[.string (str (if okA L=true then docW (encP L) else [])),nI (if okA L=true then 0 else 22)])/\Ext w w':=by
 have HX:=gd ((Ext.refl w).alloc (.cells #[.slice A n c] 31));have b0:=(Ext.refl (w.alloc (.cells #[.slice A n c] 31))).boxed 0 (.slice A n c) rfl;have h:=gd (ZrW _ (hL.ext ((Ext.refl w).alloc (.cells #[.slice A n c] 31))) K);have F:=Zrs K;unfold EncX at h;by_cases D:okA L=true
 ·have Q:encE L=0:=Zi D;have e1:encX L=encP L:=Zi D;rw[Q,e1] at h;rw[e1] at F;rw[Zi D,Zi D];have U:=(ZkC (λx V=>(K.1 x V).2) K.2).2.2;have R:=(Ziz D).1;have ha:=gd (λ(x:Nc) W (V:x.nd=encP L)=>Zso 10000 (by decide) x W (by rw[V];exact F) (by rw[V];exact R) (by rw[V];exact U));generalize encP L=X at*;clear D K hL F Q e1 U R;go_enter func22,ntmps22
  go_wp2_with (first|(go_at_call 21;have H:=h.out;refine Za H ?_;clear H;rintro e w2 ⟨nm,Y,nc,l,Z,nd,kids,rfl,I,S,J⟩;(simp only[bxE]);have H:=ha.out _ (w2.alloc (.cells #[nI 0,.string (str []),.string (str nm),.slice Y l.length nc,.slice Z kids.length nd,.string (str []),nI 0] 25)) I (RdN.ext ((Ext.refl w2).alloc _) _ S);rw[I] at H;(simp only[Zqg,bxE] at H))|(refine Zf rfl 25 (.tmp 4) (.tmp 9) rfl w2.heap.size _ rfl rfl _ _ (Zg _ _) ZJ rfl (by simp[Value.oneCell']) ?_;rw[Z0];have hb:=Zqf (n:=nm) (al:= .slice Y l.length nc) (ks:= .slice Z kids.length nd) (Ext.refl (w2.alloc (.cells (bxE nm (.slice Y l.length nc) (.slice Z kids.length nd)).toArray 25)));(simp only[bxE] at hb);obtain ⟨c0,c1,c2,c3,c4,c5,c6⟩:=hb)|(go_at_call 50;refine Za H ?_;rintro e w3 ⟨rfl,hc⟩))
  go_ret2
  exact ⟨rfl,HX.out.trans (J.trans (((Ext.refl w2).alloc _).trans hc))⟩
 ·have Q:encE L=22:=Ze D;rw[Q] at h;rw[Ze D,Ze D];clear D K hL F Q;go_enter func22,ntmps22
  go_wp2_with (first|(go_at_call 21;have H:=h.out;refine Za H ?_;clear H;rintro e w2 ⟨nm,Y,nc,l,Z,nd,kids,rfl,I,S,J⟩;(simp only[bxE]))|(refine Zf rfl 25 (.tmp 4) (.tmp 9) rfl w2.heap.size _ rfl rfl _ _ (Zg _ _) ZJ rfl (by simp[Value.oneCell']) ?_;rw[Z0]))
  go_ret2
  exact ⟨rfl,HX.out.trans (J.alloc _)⟩
end
section
structure OutB (w:Wq) (b:Nat) (u:Value) (O:List Fc):Prop where
 bk:w.heap[b]? =some (.cells #[u] 31)
 hf:HFs w (b+1) u O
 far:∀x∈O,awayC x (some b)
section
variable {w w' w5:World} {b:Nat} {u u':Value} {O O':List Fc}
theorem OutB.ext (h:OutB w b u O) (A:Ext w w'):OutB w' b u O:=⟨A.heap h.bk,h.hf.ext A,h.far⟩
theorem OutB.row_ne (h:OutB w b u O) {k:Nat} (A:k<=b):u.ownBlock≠some k:=λe=>by
 have:=(h.hf.row.lt k e).1;omega
theorem OutB.cell (h:OutB w b u O):w.cell? ⟨b,0,none⟩=some u/\w.frozen? ⟨b,0,none⟩=false:=⟨by rw[JW h.bk];rfl,Xy h.bk 0⟩
theorem OutB.store (h:OutB w b u O) (H:w.grownBy w5 u.ownBlock) (F:HFs w5 (b+1) u' O') (A:∀x∈O',awayC x (some b)):OutB (w5.setCell ⟨b,0,none⟩ u') b u' O':=by
 have D:w5.heap[b]? =w.heap[b]?:=H.block b (ZP.1 h.bk).1 (λe=>h.row_ne (Zc _) e.symm);exact ⟨block_setCell (D.trans h.bk) _,F.setCell (Yy b) A,A⟩
end
theorem ZrG:(prog.info? 31).map (λi=>i.size)=some 1:=by kernel_rfl
theorem Zsc (v:Value) (l:List Fc) (w:Wq) (hr:RFcs w v l) (gc:∀x∈l,RdC w x) (hk:∀x∈l,x.f.path.length<=16777216) (hn:l.length<=1000000):
 Calls prog 18 #[.agg #[v]] w λe w'=>∃A n c lc,e= .returned (.agg #[.slice A n c])/\(n=lc.length/\lc.map Fc.f=(l.map Fc.f).map outl/\RFcs w' (.slice A n c) lc/\∀y∈lc,RdC w' y)/\Ext w w':=by
 obtain ⟨A,c,rfl, -, -⟩:=hr.form;obtain ⟨i0,gs,gx,gy,gz⟩:=YH ZmT;obtain ⟨s0,gA,gB,gC,gD⟩:=YH ZkZ;have HR:=gd hr;have hC:=gd gc;have HK:=gd hk;have hw:Ext w (((w.alloc (.cells #[.slice A l.length c] 31)).alloc (.cells #[sN] 31)).alloc (.cells #[sN] 31)):=(((Ext.refl w).alloc _).alloc _).alloc _;have hU:=gd hw;have ga:=(((Ext.refl (w.alloc (.cells #[.slice A l.length c] 31))).alloc (.cells #[sN] 31)).alloc (.cells #[sN] 31)).heap (Zg w _);have gb:=((Ext.refl ((w.alloc (.cells #[.slice A l.length c] 31)).alloc (.cells #[sN] 31))).alloc (.cells #[sN] 31)).heap (YS w _ _);have hG:=Zg ((w.alloc (.cells #[.slice A l.length c] 31)).alloc (.cells #[sN] 31)) (.cells #[sN] 31);simp only[Zu] at hG;have gm:=gd ga;have gn:=gd gb;have go:=gd hG;clear hr gc hk hw ga gb hG;go_enter func18,ntmps18;go_wp2;go_loopw [4] (λi wr=>∃(j:Nat) (u:Value) (O:List Fc),j<=l.length/\i=nI j/\OutB wr (w.heap.size+1+1) u O/\wr.cell? ⟨w.heap.size,0,none⟩=some (.slice A l.length c)/\wr.heap[w.heap.size+1]? =some (.cells #[sN] 31)/\
  Hid (O.map Fc.f=((l.take j).map Fc.f).map outl)/\Hid (O.length=j)/\Hid (∀x∈O,awayC x (some (w.heap.size+1)))/\Ext w wr) (λi _=>l.length - (intOf i).toNat)
 case atStart=>exact ⟨0,sN,[],Zj _,rfl,⟨go.out,HFs.nil _ _,by intro x hx;cases hx⟩,(Zy gm.out 0).trans rfl,gn.out,rfl,rfl,(by intro x hx;cases hx),hU.out⟩
 case round=>
  obtain ⟨j,u,O,hj,rfl,hO,h6,hl,hY,hZ,hu,hx⟩:=hrel;obtain ⟨OA,oc,gw⟩:=Ym hO.hf.row;subst gw;by_cases ho:j<l.length
  ·obtain ⟨ad,c',hv,hE⟩:=(HR.out.ext hx).at ho;injection hv with hv1 hv2 hv3;subst hv1;clear hv2 hv3;have hb:l[j]∈l:=ZL ho;have ge:=(hC.out _ hb).ext hx;have hm:=HK.out _ hb;have hH:(l.take (j+1)).map Fc.f=(l.take j).map Fc.f++ [l[j].f]:=(by rw[Zr ho,ZS];rfl);obtain ⟨x,gf⟩:∃x,l[j]=x:=⟨_,rfl⟩;rw[gf] at hE ge hm hH;have hT:=gd hH;clear gf hH hb;obtain ⟨xp,gJ,⟨D,S,H,I,hz,hh⟩⟩:=x;obtain ⟨hp,hI⟩:=ge;dsimp only at hE hp hI hm hT;obtain ⟨xA,xc,rfl, -, -⟩:=hp.form;obtain ⟨xB,xd,rfl, -, -⟩:=hI.form;obtain ⟨a0,a1,a2,a3,a4,a5⟩:=hE;dsimp only at a0 a1 a2 a3 a4 a5;have gG:(0:Int)<=(j:Int):=om;have gI:(j:Int)<(l.length:Int):=om;have gp:=gd hp;have HO:=gd hO;have hV:=gd hx;have gh:=gd h6;have hM:=gd hl;have gj:=gd hm;have h5:=hO.cell.1;obtain ⟨W5,h0⟩:∃W5,wr.alloc (.cells #[.slice xA D.length xc,.string S,.string H,.string I,nI hz,.slice xB hh.length xd] 55)=W5:=⟨_,rfl⟩;have hJ:Ext wr W5:=(by rw[<-h0];exact (Ext.refl wr).alloc _);have h4:W5.heap[wr.heap.size]? =some (.cells #[.slice xA D.length xc,.string S,.string H,.string I,nI hz,.slice xB hh.length xd] 55):=(by rw[<-h0];exact Zg wr _);have V:=gd hJ;obtain ⟨b0,b1,b2,b3,b4,b5⟩:=Zo5 h4;have f0:=hJ.cell h5;have R:Hid (∀w',Ext W5 w'->w'.cell? ⟨w.heap.size+1+1,0,none⟩=some (.slice OA O.length oc)/\w'.cell? ⟨wr.heap.size,0,none⟩=some (.slice xA D.length xc)/\w'.cell? ⟨wr.heap.size,1,none⟩=some (.string S)/\w'.cell? ⟨wr.heap.size,2,none⟩=some (.string H)/\w'.cell? ⟨wr.heap.size,3,none⟩=some (.string I)):=gd λw' h=>⟨h.cell f0,h.cell b0,h.cell b1,h.cell b2,h.cell b3⟩;clear hO hl hm hp hI hJ hx h4 h5;go_wp2;refine rN ?_;change wpAny _ _ _ _ _ _ _ (World.drew _);have ha:=(Ext.refl W5).drew;refine tH 0 (.pointer (some ⟨w.heap.size+1+1,0,none⟩)) ?_;refine tH 3 (.pointer (some ⟨wr.heap.size,0,none⟩)) ?_;refine tH 6 (.pointer (some ⟨wr.heap.size,1,none⟩)) ?_;refine tH 8 (.pointer (some ⟨wr.heap.size,2,none⟩)) ?_;refine tH 10 (.pointer (some ⟨wr.heap.size,3,none⟩)) ?_;go_simp;refine XS (i:=1) (v:= .slice OA O.length oc) (λw'=>w'.cell? ⟨w.heap.size+1+1,0,none⟩=some (.slice OA O.length oc)/\w'.cell? ⟨wr.heap.size,0,none⟩=some (.slice xA D.length xc)/\w'.cell? ⟨wr.heap.size,1,none⟩=some (.string S)/\w'.cell? ⟨wr.heap.size,2,none⟩=some (.string H)/\w'.cell? ⟨wr.heap.size,3,none⟩=some (.string I)) 16 rfl (by kernel_rfl) (λ_ _ _ h=>h) (Or.inl ⟨by rfl,λw' hS=>by have hq:=hS.1;go_simp⟩) (R.out _ ha) ?_;refine tT 4 (.slice xA D.length xc) rfl (λw' hS=>by have hq:=hS.2.1;go_simp) (R.out _ ha) ?_;refine tT 7 (.string S) rfl (λw' hS=>by have hq:=hS.2.2.1;go_simp) (R.out _ ha) ?_;refine tT 9 (.string H) rfl (λw' hS=>by have hq:=hS.2.2.2.1;go_simp) (R.out _ ha) ?_;refine tT 11 (.string I) rfl (λw' hS=>by have hq:=hS.2.2.2.2;go_simp) (R.out _ ha) ?_;go_simp;refine GS (i:=2) rfl (by kernel_rfl) (λK hK=> ?_);go_simp;have hg:=ha.alloc (.cells #[] 9);refine hK _ _ (R.out _ hg) ?_;clear hK K;have hB:=gd (Jx (w:=W5.drew) (base:=W5.heap.size) (e:=9) (size:=1) (n:=0) (cs:= []) (Zc _) rfl (by decide));have hD:=gd (ZeN (n:=0) (m:=D.length) (by have:=gj.out;omega));refine GS (i:=5) rfl (by kernel_rfl) (λK hK=> ?_);refine Z1 _ (by rfl) (.tmp 21) (.tmp 23) _ (by rfl) W5.heap.size 9 s0 _ 1 16 underlying52 gA gB gC gD rfl (by decide) _ 0 [] (by rfl) hB.out (.slice xA D.length xc) D.length (D.map Value.string) (by rfl) (gp.out.ext (V.out.trans hg)) (Zan _) hD.out.1 hD.out.2 hg.size ?_;intro v4 w4 U h7 h3;have he:Ext W5 w4:=Ext.app hg h7 hB.out (Zc _);rw[YI,Z7] at U;obtain ⟨PB,pb,gr⟩:=Ym U;subst gr;have hA:=gd U;have gH:=gd he;clear U h7 h3 hB hD;refine hK _ _ (R.out _ he) ?_;clear hK K;refine GS (i:=12) rfl (by kernel_rfl) (λK hK=> ?_);go_simp;refine hK _ _ (R.out _ he) ?_;clear hK K;refine XQ 16 [] (AtIx.cons rfl AtIx.nil) [13,14,15] (AtIx.cons rfl (AtIx.cons rfl (AtIx.cons rfl AtIx.nil))) rfl (by kernel_rfl) ?_;refine Yg (λK hK=> ?_);go_simp;have Z:=he.alloc (.cells #[.slice PB D.length pb,.string S,.string H,.string I,nI (-62135596800),sN] 55);refine hK _ _ (R.out _ Z) ?_;clear hK K;obtain ⟨F,hF⟩:∃F:Fc,F=⟨.slice PB D.length pb,sN,⟨D,S,H,I, -62135596800,[]⟩⟩:=⟨_,rfl⟩;have gi:=gd hF;have hR:Hid (∀u∈cellsC F,u.oneCell'=true):=gd (by rw[hF];exact Jv ⟨⟨_,_,_,rfl⟩,⟨_,_,_,rfl⟩⟩);have hQ:Hid (RSl (w4.alloc (.cells #[.slice PB D.length pb,.string S,.string H,.string I,nI (-62135596800),sN] 55)) 6 (.slice (some ⟨w4.heap.size,0,none⟩) 1 1) 1 (cellsC F)):=gd (by rw[hF];exact Yo rfl (by decide));have hP:=gd (ZkI (n:=O.length) (m:=1) (by have:=hZ.out;omega));have Q:=gd (HO.out.ext (V.out.trans Z));have hC:Hid (RdC (w4.alloc (.cells #[.slice PB D.length pb,.string S,.string H,.string I,nI (-62135596800),sN] 55)) F):=gd (by rw[hF];exact ⟨RSl.of_own (Ya hA.out ((Ext.refl w4).alloc _)),RSl.nil _ 5⟩);have hs:Hid (∀r,r<W5.heap.size->awayC F (some r)):=gd (λr hr=>by
    rw[hF];refine ⟨?_,Or.inl rfl⟩;by_cases hd:D= []
    ·exact Or.inl hd
    ·exact Or.inr (ZkG hA.out (by simpa using hd) hr))
   have gg:Hid (awayC F (Value.slice OA O.length oc).ownBlock):=gd (by
    rw[hF];refine ⟨?_,Or.inl rfl⟩;by_cases hd:D= []
    ·exact Or.inl hd
    ·exact Or.inr (Ziq (HO.out.ext V.out).hf.row hA.out (by simpa using hd)))
   clear hF;refine Yg (λK hK=> ?_);refine Z1 _ (by rfl) (.tmp 20) (.tmp 32) _ (by rfl) (w.heap.size+1+1+1) 55 i0 _ 6 104 underlying29 gs gx gy gz rfl (by decide) _ O.length (flatC O) (by rfl) Q.out.hf.row _ 1 (cellsC F) (by rfl) hQ.out hR.out hP.out.1 hP.out.2 (by have:=(ZP.1 Q.out.bk).1;(simp only[nI,sN] at *;omega)) ?_;intro v8 w8 Y X ht;have hW:=HFs.snoc Q.out.hf hC.out gg.out Y X ht;obtain ⟨OB,ob,gu⟩:=Ym Y;subst gu;have J:∀(k i:Nat) (y:Value),k<=w.heap.size+1+1\/k=wr.heap.size->W5.cell? ⟨k,i,none⟩=some y->w8.cell? ⟨k,i,none⟩=some y:=λk i y hk hc=>by
    refine X.cell (Z.cell hc) λe=> ?_;rcases hk with hk|hk
    ·exact Q.out.row_ne hk e.symm
    ·have h1:=(HO.out.hf.row.lt k e.symm).2;omega
   have h8:w.heap.size+1+1<W5.heap.size:=(by have h1:=(ZP.1 HO.out.bk).1;have h2:=V.out.size;omega);have hX:=Q.out.store X hW (λx hx=>(Zs.1 hx).elim (Q.out.far x) λh=>by rw[Zo.1 h];exact hs.out _ h8);have hi:w8.cell? ⟨w.heap.size+1+1,0,none⟩=some (.slice OA O.length oc)/\w8.cell? ⟨wr.heap.size,0,none⟩=some (.slice xA D.length xc)/\w8.cell? ⟨wr.heap.size,1,none⟩=some (.string S)/\w8.cell? ⟨wr.heap.size,2,none⟩=some (.string H)/\w8.cell? ⟨wr.heap.size,3,none⟩=some (.string I):=(by obtain ⟨e0,e1,e2,e3,e4⟩:=R.out _ (Ext.refl W5);exact ⟨J _ _ _ (Or.inl (Zc _)) e0,J _ _ _ (Or.inr rfl) e1,J _ _ _ (Or.inr rfl) e2,J _ _ _ (Or.inr rfl) e3,J _ _ _ (Or.inr rfl) e4⟩);have gl:=gd hX;have gE:=hi.1;have gF:w8.frozen? ⟨w.heap.size+1+1,0,none⟩=false:=(World.frozen?_of_block (a:=⟨w.heap.size+1+1,0,none⟩) (X.block (w.heap.size+1+1) (by have:=(ZP.1 Q.out.bk).1;omega) (λe=>Q.out.row_ne (Zc _) e.symm))).trans Q.out.cell.2;have gq:Hid (Ext w w8):=gd (Ext.app (hV.out.trans (V.out.trans Z)) X Q.out.hf.row (by have:=hV.out.size;have:=hU.out.size;simp only[Zu] at this;omega));have hL:Hid (w8.cell? ⟨w.heap.size,0,none⟩=some (.slice (some ad) l.length c)):=gd (J _ _ _ (Or.inl om) (V.out.cell gh.out));have hN:Hid (w8.heap[w.heap.size+1]? =some (.cells #[sN] 31)):=gd ((X.block (w.heap.size+1) (by have:=(ZP.1 hM.out).1;have:=(V.out.trans Z).size;(simp only[nI,sN] at *;omega)) (λe=>Q.out.row_ne om e.symm)).trans ((V.out.trans Z).heap hM.out));refine hK _ _ hi ?_;clear hK K Y X ht hW hX J;refine Yg (λK hK=> ?_);go_simp;refine hK _ _ hi ?_;clear hK K;refine X0 ?_;clear Z he hg ha hi f0 b0 b1 b2 b3 b4 b5 h6;go_wp2;go_roundw
   case rel=>
    refine ⟨j+1,_,O++ [F],ho,by go_num,gl.out,(Xi _ _ _ _ (by intro e;injection e with e;omega)).trans hL.out,(Z4 _ _ _ _ (by show w.heap.size+1≠w.heap.size+1+1;omega)).trans hN.out,gd ?_,gd ?_,gd ?_,gq.out.setCell (by show w.heap.size<=w.heap.size+1+1;omega) _⟩
    ·rw[ZS,hY.out,hT.out,ZS];rw[gi.out];rfl
    ·rw[Zb,hZ.out];rfl
    ·exact λy hy=>(Zs.1 hy).elim (hu.out y) λh=>by rw[Zo.1 h];exact hs.out _ om
   case measure=>simp[intOf];omega
  ·have gt:j=l.length:=om;subst gt;have f0:=hO.cell.1;have HO:=gd hO;have HX:=gd hx;have h9:(Value.slice OA O.length oc).ownBlock≠some (w.heap.size+1):=hO.row_ne (Yu _);have gk:=gd h9;clear hO hx h9
   go_wp2_with (first|(refine Zf rfl 31 (.tmp 2) (.tmp 35) rfl (w.heap.size+1) _ rfl rfl _ _ hl ZrG rfl GB ?_))
   ((try simp only[Exit.inBlock,Exit.then]);refine ZD (Xe rfl _ _ _ _ _ _ _ rfl (ZF _ _ _ _ _ _ hl) underlying31 rfl ZrG) rfl ?_);refine ⟨OA,O.length,oc,O,rfl,⟨rfl,?_,RSl.grown (RSl.of_own HO.out.hf.row) (Yx _ _ _) (Or.inr λe=>gk.out e),λy hy=>(HO.out.hf.rd y hy).grown (Yx _ _ _) (hu.out y hy)⟩,HX.out.setRow (Yu _) _⟩;rw[hY.out,ZQ (Zc _)]
end
def PathOwn (w:Wq) (B:Nat) (y:Fc):Prop:=y.f.path= []\/w.ownsRow B 9 1 y.p y.f.path.length (y.f.path.map Value.string)
theorem PathOwn.grown {w w':Wq} {B:Nat} {y:Fc} {r:Option Nat} (h:PathOwn w B y) (F:w.grownBy w' r) (D:awayC y r):PathOwn w' B y:=by
 rcases h with h|h
 ·exact Or.inl h
 ·rcases D.1 with A|A
  ·exact Or.inl A
  ·exact Or.inr (h.kept F (Or.inr A))
theorem PathOwn.ext {w w':Wq} {B:Nat} {y:Fc} (h:PathOwn w B y) (A:Ext w w'):PathOwn w' B y:=h.imp id λh=>Ya h A
theorem ZsY (v:Value) (l:List Fc) (w:World) (hr:RFcs w v l) (h6:∀x∈l,RdC w x) (hk:∀x∈l,x.f.path.length<=16777216) (hn:l.length<=1000000):
 Calls prog 23 #[.agg #[v]] w λe w'=>∃A n c lc,e= .returned (.agg #[.slice A n c])/\(n=lc.length/\lc.map Fc.f=(l.map Fc.f).map outl/\HFs w' w.heap.size (.slice A n c) lc/\∀y∈lc,PathOwn w' w.heap.size y)/\Ext w w':=by
 obtain ⟨A,c,rfl, -, -⟩:=hr.form;obtain ⟨i0,gp,gs,gt,gu⟩:=YH ZmT;obtain ⟨s0,gF,gG,gH,gI⟩:=YH ZkZ;have HR:=gd hr;have he:=gd h6;have HK:=gd hk;have hp:Ext w (((w.alloc (.cells #[.slice A l.length c] 31)).alloc (.cells #[.slice none 0 0] 31)).alloc (.cells #[.slice none 0 0] 31)):=(((Ext.refl w).alloc _).alloc _).alloc _;have hT:=gd hp;have h4:=(((Ext.refl (w.alloc (.cells #[.slice A l.length c] 31))).alloc (.cells #[.slice none 0 0] 31)).alloc (.cells #[.slice none 0 0] 31)).heap (Zg w _);have h5:=((Ext.refl ((w.alloc (.cells #[.slice A l.length c] 31)).alloc (.cells #[.slice none 0 0] 31))).alloc (.cells #[.slice none 0 0] 31)).heap (YS w _ _);have hC:=Zg ((w.alloc (.cells #[.slice A l.length c] 31)).alloc (.cells #[.slice none 0 0] 31)) (.cells #[.slice none 0 0] 31);simp only[Zu] at hC;have gi:=gd h4;have gj:=gd h5;have gk:=gd hC;clear hr h6 hk hp h4 h5 hC;go_enter func23,ntmps23;go_wp2;go_loopw [9] (λi wr=>∃(j:Nat) (u:Value) (O:List Fc),j<=l.length/\i= .int .i64 j/\OutB wr (w.heap.size+1+1) u O/\wr.cell? ⟨w.heap.size,0,none⟩=some (.slice A l.length c)/\wr.heap[w.heap.size+1]? =some (.cells #[.slice none 0 0] 31)/\
  Hid (O.map Fc.f=((l.take j).map Fc.f).map outl)/\Hid (O.length=j)/\Hid (∀x∈O,awayC x (some (w.heap.size+1)))/\Hid (∀x∈O,PathOwn wr w.heap.size x)/\Ext w wr) (λi _=>l.length - (intOf i).toNat)
 case atStart=>exact ⟨0,.slice none 0 0,[],Zj _,rfl,⟨gk.out,HFs.nil _ _,by intro x V;cases V⟩,(Zy gi.out 0).trans rfl,gj.out,rfl,rfl,(by intro x V;cases V),(by intro x V;cases V),hT.out⟩
 case round=>
  obtain ⟨j,u,O,hj,rfl,hO,hY,hg,hV,hW,hb,h3,V⟩:=hrel;obtain ⟨OA,oc,gr⟩:=Ym hO.hf.row;subst gr;by_cases hi:j<l.length
  ·obtain ⟨ad,c',hv,hu⟩:=(HR.out.ext V).at hi;injection hv with hv1 hv2 hv3;subst hv1;clear hv2 hv3;have hc:l[j]∈l:=ZL hi;have h7:=(he.out _ hc).ext V;have hh:=HK.out _ hc;have hD:(l.take (j+1)).map Fc.f=(l.take j).map Fc.f++ [l[j].f]:=(by rw[Zr hi,ZS];rfl);obtain ⟨x,ga⟩:∃x,l[j]=x:=⟨_,rfl⟩;rw[ga] at hu h7 hh hD;have hS:=gd hD;clear ga hD hc;obtain ⟨xp,gJ,⟨D,R,H,I,hq,hd⟩⟩:=x;obtain ⟨hl,hE⟩:=h7;dsimp only at hu hl hE hh hS;obtain ⟨xA,xc,rfl, -, -⟩:=hl.form;obtain ⟨xB,xd,rfl, -, -⟩:=hE.form;obtain ⟨a0,a1,a2,a3,a4,a5⟩:=hu;dsimp only at a0 a1 a2 a3 a4 a5;have gy:(0:Int)<=(j:Int):=om;have gE:(j:Int)<(l.length:Int):=om;have gl:=gd hl;have HO:=gd hO;have hs:=gd V;have gb:=gd hY;have hL:=gd hg;have gf:=gd hh;have hA:=hO.cell.1;obtain ⟨W5,hX⟩:∃W5,wr.alloc (.cells #[.slice xA D.length xc,.string R,.string H,.string I,.int .i64 hq,.slice xB hd.length xd] 55)=W5:=⟨_,rfl⟩;have hG:Ext wr W5:=(by rw[<-hX];exact (Ext.refl wr).alloc _);have hw:W5.heap[wr.heap.size]? =some (.cells #[.slice xA D.length xc,.string R,.string H,.string I,.int .i64 hq,.slice xB hd.length xd] 55):=(by rw[<-hX];exact Zg wr _);have Z:=gd hG;obtain ⟨b0,b1,b2,b3,b4,b5⟩:=Zo5 hw;have f0:=hG.cell hA;have gA:Hid (∀w',Ext W5 w'->w'.cell? ⟨w.heap.size+1+1,0,none⟩=some (.slice OA O.length oc)/\w'.cell? ⟨wr.heap.size,0,none⟩=some (.slice xA D.length xc)/\w'.cell? ⟨wr.heap.size,1,none⟩=some (.string R)/\w'.cell? ⟨wr.heap.size,2,none⟩=some (.string H)/\w'.cell? ⟨wr.heap.size,3,none⟩=some (.string I)):=gd λw' h=>⟨h.cell f0,h.cell b0,h.cell b1,h.cell b2,h.cell b3⟩;have gc:=gd (λ(w':World) (h:Ext wr w')=>G0 _ D.length (D.map Value.string) w' (gl.out.ext h) (Zan _) (by have:=gf.out;omega));have hI:=gd hw;have hJ:=gd hA;clear hO hg hh hl hE hG V hw b1 b2 b3 b4 b5 f0 hA
   go_wp2_with (first|(go_at_call 33;have hz:=gc.out _ Z.out;refine Za hz ?_;clear hz;rintro e w6 ⟨v6,rfl,K,h8⟩;obtain ⟨PB,pb,gn⟩:=Ym K;subst gn;have ha:=h8.heap hI.out;obtain ⟨y0,y1,y2,y3,y4,y5⟩:=Zo5 ha;have z0:=Xy ha 0;have z4:=Xy ha 4;have z5:=Xy ha 5;obtain ⟨W7,ht⟩:∃W7,(((w6.setCell ⟨wr.heap.size,0,none⟩ (.slice PB D.length pb)).setCell ⟨wr.heap.size,4,none⟩ (.int .i64 (-62135596800))).setCell ⟨wr.heap.size,5,none⟩ (.slice none 0 0))=W7:=⟨_,rfl⟩;(have go:W7.heap[wr.heap.size]? =some (.cells #[.slice PB D.length pb,.string R,.string H,.string I,.int .i64 (-62135596800),.slice none 0 0] 55):=by rw[<-ht];exact block_setCell (block_setCell (block_setCell ha _) _) _);(have h9:Ext wr W7:=by rw[<-ht];exact (((Z.out.trans h8).setCell (Zc _) _).setCell (Zc _) _).setCell (Zc _) _);(have ho:w6.grownBy W7 (some wr.heap.size):=by rw[<-ht];exact ((Yw w6 ⟨wr.heap.size,0,none⟩ _).trans (Yw _ ⟨wr.heap.size,4,none⟩ _)).trans (Yw _ ⟨wr.heap.size,5,none⟩ _));have f0:=h9.cell hJ.out;obtain ⟨c0,gB,gC,c3,c4,c5⟩:=Zo5 go;have U:=h9.alloc (.cells #[.slice PB D.length pb,.string R,.string H,.string I,.int .i64 (-62135596800),.slice none 0 0] 55);obtain ⟨F,hF⟩:∃F:Fc,F=⟨.slice PB D.length pb,.slice none 0 0,⟨D,R,H,I, -62135596800,[]⟩⟩:=⟨_,rfl⟩;have ge:=gd hF;(have hR:Hid (∀u∈cellsC F,u.oneCell'=true):=gd (by rw[hF];exact Jv ⟨⟨_,_,_,rfl⟩,⟨_,_,_,rfl⟩⟩));(have hP:Hid (RSl (W7.alloc (.cells #[.slice PB D.length pb,.string R,.string H,.string I,.int .i64 (-62135596800),.slice none 0 0] 55)) 6 (.slice (some ⟨W7.heap.size,0,none⟩) 1 1) 1 (cellsC F)):=gd (by rw[hF];exact Yo rfl (by decide)));(have hN:=gd (ZkI (n:=O.length) (m:=1) (by have:=hW.out;omega)));have J:=gd (HO.out.ext U);have gD:wr.heap.size<W5.heap.size:=(ZP.1 hI.out).1;(have he:Hid (RdC (W7.alloc (.cells #[.slice PB D.length pb,.string R,.string H,.string I,.int .i64 (-62135596800),.slice none 0 0] 55)) F):=gd (by rw[hF];refine ⟨(RSl.grown (RSl.of_own K) ho (Or.inr λe=> ?_)).ext ((Ext.refl W7).alloc _),RSl.nil _ 5⟩;have:=(K.lt _ e).1;omega));(have gg:Hid (PathOwn (W7.alloc (.cells #[.slice PB D.length pb,.string R,.string H,.string I,.int .i64 (-62135596800),.slice none 0 0] 55)) w.heap.size F):=gd (by rw[hF];refine Or.inr (X4 (Ya (K.kept ho (Or.inr λe=> ?_)) ((Ext.refl W7).alloc _)) (Zp hs.out.size Z.out.size));have:=(K.lt _ e).1;omega));(have Y:Hid (∀r,r<W5.heap.size->awayC F (some r)):=gd (λr hr=>by rw[hF];refine ⟨Or.inr λe=> ?_,Or.inl rfl⟩;have:=(K.lt _ e).1;omega));(have hH:Hid (awayC F (Value.slice OA O.length oc).ownBlock):=gd (by cases hB:(Value.slice OA O.length oc).ownBlock with|none=>exact ZbG he.out|some g=>exact Y.out g (by have:=(HO.out.hf.row.lt g hB).2;have:=Z.out.size;omega)));clear hF)|(at_builtin;refine ZO _ rfl (.tmp 20) (.tmp 22) _ rfl (w.heap.size+1+1+1) 55 i0 _ 6 104 underlying29 gp gs gt gu rfl (by decide) _ O.length (flatC O) rfl J.out.hf.row _ 1 (cellsC F) rfl hP.out hR.out hN.out.1 hN.out.2 (by have:=(ZP.1 J.out.bk).1;omega) ?_;intro v8 w8 S Q hm;have hU:=HFs.snoc J.out.hf he.out hH.out S Q hm;obtain ⟨OB,ob,hB⟩:=Ym S;subst hB;(have hZ:w.heap.size+1+1<W5.heap.size:=by have h1:=(ZP.1 HO.out.bk).1;have h2:=Z.out.size;omega);(have hQ:=gd (J.out.store Q hU (λx V=>(Zs.1 V).elim (J.out.far x) λh=>by rw[Zo.1 h];exact Y.out _ hZ)));have gw:=Q.cell (U.cell hJ.out) (λe=>J.out.row_ne (Zc _) e.symm);(have gx:w8.frozen? ⟨w.heap.size+1+1,0,none⟩=false:=(World.frozen?_of_block (a:=⟨w.heap.size+1+1,0,none⟩) (Q.block (w.heap.size+1+1) (by have:=(ZP.1 J.out.bk).1;omega) (λe=>J.out.row_ne (Zc _) e.symm))).trans J.out.cell.2);(have gm:Hid (Ext w w8):=gd (Ext.app (hs.out.trans U) Q J.out.hf.row (by have:=hs.out.size;have:=hT.out.size;simp only[Zu] at this;omega)));(have hK:Hid (w8.cell? ⟨w.heap.size,0,none⟩=some (.slice (some ad) l.length c)):=gd (Q.cell (U.cell gb.out) (λe=>J.out.row_ne (by show w.heap.size<=_;omega) e.symm)));(have hM:Hid (w8.heap[w.heap.size+1]? =some (.cells #[.slice none 0 0] 31)):=gd ((Q.block (w.heap.size+1) (by have:=(ZP.1 hL.out).1;have:=U.size;omega) (λe=>J.out.row_ne om e.symm)).trans (U.heap hL.out)));(have gh:Hid (∀y∈O++ [F],PathOwn (w8.setCell ⟨w.heap.size+1+1,0,none⟩ (.slice OB (O.length+1) ob)) w.heap.size y):=gd (λy X=>by refine PathOwn.grown ?_ (Yw _ _ _) (hQ.out.far y X);exact (Zs.1 X).elim (λX=>((h3.out y X).ext U).grown Q (J.out.hf.away y X)) (λX=>by rw[Zo.1 X];exact gg.out.grown Q hH.out)));clear S Q hm hU))
   clear y0 y1 y2 y3 y4 y5 z0 z4 z5 b0;go_roundw
   case rel=>
    refine ⟨j+1,_,O++ [F],hi,by go_num,hQ.out,(Xi _ _ _ _ (by intro e;injection e with e;omega)).trans hK.out,(Z4 _ _ _ _ (by show w.heap.size+1≠w.heap.size+1+1;omega)).trans hM.out,gd ?_,gd ?_,gd ?_,gh,gm.out.setCell (by show w.heap.size<=w.heap.size+1+1;omega) _⟩
    ·rw[ZS,hV.out,hS.out,ZS];rw[ge.out];rfl
    ·rw[Zb,hW.out];rfl
    ·exact λy X=>(Zs.1 X).elim (hb.out y) λh=>by rw[Zo.1 h];exact Y.out _ om
   case measure=>simp[intOf];omega
  ·have gq:j=l.length:=om;subst gq;have f0:=hO.cell.1;have HO:=gd hO;have HX:=gd V;have h0:(Value.slice OA O.length oc).ownBlock≠some (w.heap.size+1):=hO.row_ne (Yu _);have gz:=gd h0;clear hO V h0 hY
   go_wp2_with (first|(refine Zf rfl 31 (.tmp 2) (.tmp 26) rfl (w.heap.size+1) _ rfl rfl _ _ hg ZrG rfl GB ?_))
   ((try simp only[Exit.inBlock,Exit.then]);refine ZD (Xe rfl _ _ _ _ _ _ _ rfl (ZF _ _ _ _ _ _ hg) underlying31 rfl ZrG) rfl ?_);refine ⟨OA,O.length,oc,O,rfl,⟨rfl,?_,HFs.setRow HO.out.hf om om hb.out _,λy X=>(h3.out y X).grown (Yx _ _ _) (hb.out y X)⟩,HX.out.setRow (Yu _) _⟩;rw[hV.out,ZQ (Zc _)]
section
variable {L:List Fd} {f:Fd} {n:Nat}
theorem ZsM:∀l:List Fd,l.length<=bigL l
 | []=>Zj _
 |f::t=>by
  have h:=ZsM t
  have e:bigL (f::t)=bigF f+bigL t:=by unfold bigL;rw[Zw,YM]
  have A:1<=bigF f:=by unfold bigF bigH capN;omega
  rw[e,Zd]
  omega
theorem Zr3 (h:capN n<=5000):n<=5000:=by unfold capN at h;omega
theorem Zt1 (h:bigF f<=5000):smF 10000 f:=by
 have A:capN (f.id.size+f.title.size+f.link.size)<=5000:=by unfold bigF bigH at h;omega
 have F:=Zr3 A;refine ⟨λp D=> ?_,om,om,om⟩;have H:capN p.size<=bigP f.path:=ZoD (ZU.2 ⟨p,D,rfl⟩);have I:=Zr3 (n:=p.size) (by unfold bigF at h;omega);omega
theorem Zt0 {l:List Fc} (D:∀x∈l,fwide x.f) (h:bigL (l.map Fc.f)<=5000):smA (l.map Fc.f):=by
 refine ⟨λf A=> ?_,by have:=ZsM (l.map Fc.f);omega⟩;obtain ⟨x,F,rfl⟩:=ZU.1 A;exact ⟨ZtL D h x F,Zt1 (Zp (ZsL A) h)⟩
theorem Zup (h:smA L):smA (L.map outl):=by
 refine ⟨λf H=> ?_,by rw[Zq];exact h.2⟩;obtain ⟨g,I,rfl⟩:=ZU.1 H;obtain ⟨A,D⟩:=h.1 g I;exact ⟨⟨⟨⟨by show (-9223372036854775808:Int)<= -62135596800;decide,by show (-62135596800:Int)<=9223372036854775807;decide⟩,A.1.2⟩,Zj _,by intro e F;cases F⟩,D⟩
end
section
variable {c d q:Nat}
theorem Zur {a b:Nat} (h:a<=140737488351232) (A:b<=140737488351232):wrap64 ((a:Int)+(b:Int))=(a:Int)+(b:Int):=Q6 _ ⟨om,om⟩
theorem Zus {a b:Nat} (h:a<=140737488351232) (A:b<=140737488351232) (D:c<=140737488351232):wrap64 ((a:Int)+(b:Int)+(c:Int))=(a:Int)+(b:Int)+(c:Int):=Q6 _ ⟨om,om⟩
theorem ZuB {a b:Nat} (h:a<=140737488351232) (A:b<=140737488351232) (D:c<=140737488351232) (F:d<=140737488351232):wrap64 ((a:Int)+(b:Int)+(c:Int)+(d:Int))=(a:Int)+(b:Int)+(c:Int)+(d:Int):=Q6 _ ⟨om,om⟩
theorem ZuE {a:Nat} (h:a<=1000000000000000):wrap64 (a:Int)=(a:Int):=Q6 _ ⟨om,om⟩
theorem ZuC {M:Int} (h:0<=M) (A:M<=9000):wrap64 (1+M)=1+M:=Q6 _ ⟨om,om⟩
theorem ZuD {M:Int} (h:q<=2000000000000000000) (A:0<=M) (D:M<=9000):wrap64 ((q:Int)+(1+M))=(q:Int)+(1+M):=Q6 _ ⟨om,om⟩
theorem ZsK (v:Value) (l:List Fc) (w:Wq) (hr:RFcs w v l) (gb:∀x∈l,RdC w x) (hn:l.length<=reachBytes) (hk:∀x∈l,fwide x.f):
 Calls prog 15 #[.agg #[v]] w λe w'=>e= .returned (nI (if 5000<bigL (l.map Fc.f) then 1 else 0))/\Ext w w':=by
 obtain ⟨A,c,rfl,gz,gw⟩:=hr.form;have HK:=gd hk;have gq:=gd gb;obtain ⟨R,hR⟩:∃R:Int,(if 5000<bigL (l.map Fc.f) then 1 else 0)=R:=⟨_,rfl⟩;rw[hR];have HR:=gd hR;unfold reachBytes at hn;clear gz gw hk gb hR;go_enter func15,ntmps15;go_wp2;go_loopw [3,13] (λu i wr=>∃(k n:Nat),k<=l.length/\i=nI k/\u=nI n/\n<=5000/\Hid (n=bigL ((l.take k).map Fc.f))/\Ext w wr) (λ_ i _=>l.length - (intOf i).toNat)
 case atStart=>exact ⟨0,0,Zj _,rfl,rfl,by decide,gd rfl,(Ext.refl _).alloc _⟩
 case round=>
  obtain ⟨k,n,hk,rfl,rfl,h8,hp,hx⟩:=hrel;by_cases hb:k<l.length
  ·obtain ⟨ad,c',hv,hg⟩:=(hr.ext hx).at hb;injection hv with hv1 hv2 hv3;subst hv1;clear hv2 hv3;have hi:l[k]∈l:=ZL hb;have gc:=(gq.out _ hi).ext hx;have hY:=HK.out _ hi;have Q:=ZtM hb;rw[<-hp.out] at Q;have hZ:=Zuu l (k+1);obtain ⟨x,gk⟩:∃x,l[k]=x:=⟨_,rfl⟩;rw[gk] at hg gc hY Q;have hS:=gd Q;have hN:=gd hZ;clear gk Q hZ hi hp;obtain ⟨k1,k2,k3,k4,k5,k6,k7,k8⟩:=hY;unfold reachBytes at k2 k4 k5 k6 k7;have go:=gd k3;have gp:=gd k8;obtain ⟨xp,gF,⟨F,S,H,I,Y,D⟩⟩:=x;obtain ⟨hJ,hK⟩:=gc;dsimp only at*;obtain ⟨xA,xc,rfl, -, -⟩:=hJ.form;obtain ⟨xB,xd,rfl, -, -⟩:=hK.form;have gs:=gd hJ;have gt:=gd hK;have HX:=gd hx;obtain ⟨a0,a1,a2,a3,a4,a5⟩:=hg;dsimp only at a0 a1 a2 a3 a4 a5;have hA:(0:Int)<=(k:Int):=om;have hV:(k:Int)<(l.length:Int):=om;have ht:wrap64 ((S.size:Int)+(H.size:Int))=(S.size:Int)+(H.size:Int):=Zur k4 k5;have hu:wrap64 ((S.size:Int)+(H.size:Int)+(I.size:Int))=(S.size:Int)+(H.size:Int)+(I.size:Int):=Zus k4 k5 k6;clear k1 k3 k8 hJ hK;obtain ⟨S0,hH⟩:∃S0,S.size+H.size+I.size=S0:=⟨_,rfl⟩;have hP:=gd hH;have hz:(S.size:Int)+(H.size:Int)+(I.size:Int)=(S0:Int):=om;obtain ⟨wB,gB⟩:∃wB:Wq,wB=wr:=⟨_,rfl⟩;subst gB;have gi:Ext w (wB.alloc (.cells #[.slice xA F.length xc,.string S,.string H,.string I,nI Y,.slice xB D.length xd] 55)):=hx.alloc _;have hT:=gd gi;have gl:Hid (∀w',Ext (wB.alloc (.cells #[.slice xA F.length xc,.string S,.string H,.string I,nI Y,.slice xB D.length xd] 55)) w'->w'.cell? ⟨wB.heap.size,5,none⟩=some (.slice xB D.length xd)):=gd λw' h=>h.boxed 5 _ rfl;clear gi;go_wp2;clear ht hu a0 a1 a2 a3 a4 a5;go_loopw [3,35] (λu i wr=>∃(j m:Nat),j<=F.length/\i=nI j/\u=nI m/\m<=14001+9001*j/\Hid (m=n+capN S0+bigP (F.take j))/\Ext (wB.alloc (.cells #[.slice xA F.length xc,.string S,.string H,.string I,nI Y,.slice xB D.length xd] 55)) wr) (λ_ i _=>F.length - (intOf i).toNat)
   case atStart=>exact ⟨0,n+capN S0,Zj _,rfl,Zz (Value.int .i64) (by unfold capN;omega),by have:=ZtG S0;omega,gd rfl,Ext.refl _⟩
   case round=>
    obtain ⟨j,m,hj,rfl,rfl,h0,ho,hw⟩:=hrel;by_cases ha:j<F.length
    ·obtain ⟨ae,c2,e2,hc⟩:=((gs.out.ext ((Ext.refl _).alloc _)).ext hw).at ha;injection e2 with e2 e2' e2'';subst e2;clear e2' e2'';have hm:=go.out _ (ZL ha);unfold reachBytes at hm;have Q:=ZtN ha;obtain ⟨s,hs⟩:∃s,F[j]=s:=⟨_,rfl⟩;rw[hs] at hc hm Q;have gr:=gd Q;have hA:(0:Int)<=(j:Int):=om;have hV:(j:Int)<(F.length:Int):=om;clear hs Q;go_wp2;go_roundw
     case rel=>exact ⟨j+1,m+capN s.size,ha,by go_num,Zz (Value.int .i64) (by unfold capN;omega),by have:=ZtG s.size;omega,gd (by have:=ho.out;have:=gr.out;omega),hw⟩
     case measure=>simp[intOf];omega
    ·have gx:j=F.length:=om;subst gx;rw[ZQ (Zc _)] at ho;have b5:=gl.out _ hw;obtain ⟨wC,gC⟩:∃wC:Wq,wC=wr:=⟨_,rfl⟩;subst gC;have hD:=gd hw;go_wp2;go_loopw [3,49] (λu i wr=>∃(j q:Nat),j<=D.length/\i=nI j/\u=nI q/\q<=14001+9001*F.length/\Hid (q=m+bigEs (D.take j))/\Ext wC wr) (λ_ i _=>D.length - (intOf i).toNat)
     case atStart=>exact ⟨0,m,Zj _,rfl,rfl,om,gd rfl,Ext.refl _⟩
     case round=>
      obtain ⟨j,q,hW,rfl,rfl,ga,hl,hy⟩:=hrel;by_cases U:j<D.length
      ·obtain ⟨ae,c2,e2,hg⟩:=(((gt.out.ext ((Ext.refl _).alloc _)).ext hD.out).ext hy).at U;injection e2 with e2 e2' e2'';subst e2;clear e2' e2'';have hm:=gp.out _ (ZL U);have Q:=Zs7 U;have hB:=Zt6 D (j+1);obtain ⟨e,he⟩:∃e,D[j]=e:=⟨_,rfl⟩;rw[he] at hg hm Q;have hQ:=gd Q;have hO:=gd hB;clear he Q hB;obtain ⟨hF,V,Z,J,hU⟩:=e;obtain ⟨_,g1,g2,g3,g4⟩:=hm;unfold reachBytes at g1 g2 g3 g4;obtain ⟨p0,p1,p2,p3,p4⟩:=hg;dsimp only at g1 g2 g3 g4 p0 p1 p2 p3 p4;have hA:(0:Int)<=(j:Int):=om;have hV:(j:Int)<(D.length:Int):=om;obtain ⟨S1,hI⟩:∃S1,hF.size+V.size+Z.size+J.size=S1:=⟨_,rfl⟩;have hE:bigE ⟨hF,V,Z,J,hU⟩=capN S1:=(by rw[<-hI];rfl);have gD:(hF.size:Int)+(V.size:Int)+(Z.size:Int)+(J.size:Int)=(S1:Int):=om;have hC:q<=2000000000000000000:=om;have hL:=gd U;have gE:j<=1000000000000000:=om;by_cases K:5000<q+capN S1
       ·have hh:(5000:Int)<(q:Int)+(1+min (S1:Int) 9000):=(by unfold capN at K;omega);have hG:R=1:=(by rw[<-HR.out,Zi];have h1:=hS.out;have h2:=hN.out;have h3:=hl.out;have h4:=ho.out;have h5:=hQ.out;have h6:=hO.out;rw[hE] at h5;have h7:bigF ⟨F,S,H,I,Y,D⟩=capN S0+bigP F+bigEs D:=(by unfold bigF bigH;rw[<-hP.out]);omega);subst hG;obtain ⟨M,hM⟩:∃M:Int,min (S1:Int) 9000=M:=⟨_,rfl⟩;have hd:0<=M:=om;have hf:M<=9000:=om;rw[hM] at hh;have HM:=gd hM;have X:S1<=1000000000000000:=om;have gh:=Zz (Value.int .i64) (ZuE X);have gf:=Zz (Value.int .i64) (ZuC hd hf);have gg:=Zz (Value.int .i64) (ZuD hC hd hf);clear K hE hI X;have ht:=Zz (Value.int .i64) (Zur g1 g2);have hu:=Zz (Value.int .i64) (Zus g1 g2 g3);have ge:=Zz (Value.int .i64) (ZuB g1 g2 g3 g4);clear g1 g2 g3 g4 k2 k4 k5 k6 k7 hn hH hz h0 ga h8 hW U ha hj hk hb;go_wp2;go_ret;exact ⟨rfl,(hT.out.trans hD.out).trans (hy.alloc _)⟩
       ·have hh:¬(5000:Int)<(q:Int)+(1+min (S1:Int) 9000):=(by unfold capN at K;omega);have gm:=gd K;have gn:=gd hE;obtain ⟨M,hM⟩:∃M:Int,min (S1:Int) 9000=M:=⟨_,rfl⟩;have hd:0<=M:=om;have hf:M<=9000:=om;rw[hM] at hh;have HM:=gd hM;have X:S1<=1000000000000000:=om;have gh:=Zz (Value.int .i64) (ZuE X);have gf:=Zz (Value.int .i64) (ZuC hd hf);have gg:=Zz (Value.int .i64) (ZuD hC hd hf);clear K hE hI X;have ht:=Zz (Value.int .i64) (Zur g1 g2);have hu:=Zz (Value.int .i64) (Zus g1 g2 g3);have ge:=Zz (Value.int .i64) (ZuB g1 g2 g3 g4);clear g1 g2 g3 g4 k2 k4 k5 k6 k7 hn hH hz h0 ga h8 hW U ha hj hk hb;go_wp2;clear ht hu ge gh gf gg;go_roundw
        case rel=>refine ⟨j+1,q+capN S1,hL.out,by go_num,Zz (Value.int .i64) (by have:=HM.out;unfold capN;omega),by have:=gm.out;omega,gd ?_,hy.alloc _⟩;have h3:=hl.out;have h5:=hQ.out;rw[gn.out] at h5;omega
        case measure=>simp[intOf];have:=hL.out;omega
      ·have hX:j=D.length:=om;subst hX;rw[ZQ (Zc _)] at hl;have h7:bigF ⟨F,S,H,I,Y,D⟩=capN S0+bigP F+bigEs D:=(by unfold bigF bigH;rw[<-hP.out]);have hq:q=bigL ((l.take (k+1)).map Fc.f):=(by have h1:=hS.out;have h3:=hl.out;have h4:=ho.out;rw[h7] at h1;omega);have HQ:=gd hq;have gj:=(hT.out.trans hD.out).trans hy;clear hq h7 hl;by_cases K:5000<q
       ·have hh:(5000:Int)<(q:Int):=om;have hG:R=1:=(by rw[<-HR.out,Zi];have h2:=hN.out;have:=HQ.out;omega);subst hG;clear K;go_wp2;go_ret;exact ⟨rfl,gj⟩
       ·have hh:¬(5000:Int)<(q:Int):=om;have gA:q<=5000:=om;clear K;go_wp2;go_roundw
        case rel=>exact ⟨k+1,q,hb,by go_num,rfl,gA,HQ,gj⟩
        case measure=>simp[intOf];omega
  ·have gy:k=l.length:=om;subst gy;have h9:=hp.out;rw[ZQ (Zc _)] at h9;have gu:R=0:=(by rw[<-HR.out,Ze];omega);subst gu;clear h9 hp;go_wp2;go_ret;exact ⟨rfl,hx⟩
end
end Go.Proofs.YtnlafkgkcnenfaaGreatDoor
