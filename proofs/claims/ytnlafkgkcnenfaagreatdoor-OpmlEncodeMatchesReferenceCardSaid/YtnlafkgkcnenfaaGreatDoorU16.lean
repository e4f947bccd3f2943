/- Parts of the proof: contracts and plain laws. -/
import Derived.Test.YtnlafkgkcnenfaaGreatDoorU15
namespace Go.Proofs.YtnlafkgkcnenfaaGreatDoor
open Go Go.RowKit Go.Joins Go.WideMaps Go.Maps _root_.Go.Proofs.Tryz
set_option linter.unusedVariables false
set_option linter.unusedSimpArgs false
set_option maxRecDepth 100000
set_option maxHeartbeats 16000000
section
variable {j r:Nat}
def startL:List (Nat×Nat):= [(65,90),(95,95),(97,122),(192,214),(216,246),(248,767),(880,893),(895,8191),(8204,8205),(8304,8591),(11264,12271),(12289,55295),(63744,64975),(65008,65533),(65536,983039)]
def moreL:List (Nat×Nat):= [(45,46),(48,57),(183,183),(768,879),(8255,8256)]
def pairCells (l:List (Nat×Nat)):Array Value:=(l.flatMap λp=> [Value.int .i32 (p.1:Nat),Value.int .i32 (p.2:Nat)]).toArray
def inL (l:List (Nat×Nat)) (r:Nat):Bool:=l.any λp=>decide (p.1<=r) && decide (r<=p.2)
theorem ZjT {l:List (Nat×Nat)} (D:j<l.length) (h:l[j].1<=r) (A:r<=l[j].2):inL (l.drop j) r=true:=by
 unfold inL;rw[Zl D,List.any_cons,YG h,YG A];rfl
theorem ZgL {l:List (Nat×Nat)} (A:j<l.length) (h:¬(l[j].1<=r/\r<=l[j].2)):inL (l.drop j) r=inL (l.drop (j+1)) r:=by
 unfold inL;rw[Zl A,List.any_cons];have:(decide (l[j].1<=r) && decide (r<=l[j].2))=false:=by rw[Bool.and_eq_false_iff,X9,X9];omega
 rw[this,Bool.false_or]
theorem ZkW (r:Nat):inL startL r=nmStart r:=by
 unfold inL startL nmStart;simp only[List.any_cons,List.any_nil,Bool.or_false];rw[Y2];simp only[Ik,ZG,ZT];omega
theorem ZmS (r:Nat):(inL moreL r||nmStart r)=nmChar r:=by
 unfold nmChar;rw[Bool.or_comm]
 congr 1
 unfold inL moreL;simp only[List.any_cons,List.any_nil,Bool.or_false];rw[Y2];simp only[Ik,ZG,ZT];omega
structure NmTabs (w:Wq):Prop where
 start:∃t fr,w.heap[2]? =some (.cells (pairCells startL) t fr)
 more:∃t fr,w.heap[1]? =some (.cells (pairCells moreL) t fr)
theorem NmTabs.ext {w w':Wq} (h:NmTabs w) (D:Ext w w'):NmTabs w':=by
 obtain ⟨⟨t,fr,F⟩,⟨t2,A,H⟩⟩:=h;exact ⟨⟨t,fr,D.heap F⟩,⟨t2,A,D.heap H⟩⟩
theorem Vk:(prog.info? 284).map (·.size)=some 2:=by kernel_rfl
theorem ZhT:∀(j:Nat) (h:j<startL.length) (w:Wq),(Instr.index 286 (.agg (pairCells startL)) (nI (j:Nat))).run prog w= .ok (.agg #[.int .i32 (startL[j].1:Nat),.int .i32 (startL[j].2:Nat)]) w
 |0,_,w=>by kernel_rfl
 |1,_,w=>by kernel_rfl
 |2,_,w=>by kernel_rfl
 |3,_,w=>by kernel_rfl
 |4,_,w=>by kernel_rfl
 |5,_,w=>by kernel_rfl
 |6,_,w=>by kernel_rfl
 |7,_,w=>by kernel_rfl
 |8,_,w=>by kernel_rfl
 |9,_,w=>by kernel_rfl
 |10,_,w=>by kernel_rfl
 |11,_,w=>by kernel_rfl
 |12,_,w=>by kernel_rfl
 |13,_,w=>by kernel_rfl
 |14,_,w=>by kernel_rfl
 |j+15,h,w=>absurd h (by show ¬j+15<15;omega)
theorem Zi8:∀(j:Nat) (h:j<moreL.length) (w:Wq),(Instr.index 285 (.agg (pairCells moreL)) (nI (j:Nat))).run prog w= .ok (.agg #[.int .i32 (moreL[j].1:Nat),.int .i32 (moreL[j].2:Nat)]) w
 |0,_,w=>by kernel_rfl
 |1,_,w=>by kernel_rfl
 |2,_,w=>by kernel_rfl
 |3,_,w=>by kernel_rfl
 |4,_,w=>by kernel_rfl
 |j+5,h,w=>absurd h (by show ¬j+5<5;omega)
theorem Ko (r:Nat) (w:Wq) (hN:NmTabs w) (hr:r<=1114111):
 Calls prog 231 #[.int .i32 (r:Nat)] w λe w'=>e= .returned (.bool (nmStart r))/\Ext w w':=by
 obtain ⟨t,fr,hg⟩:=hN.start;have J:startL.length=15:=rfl;have Q:=gd ZhT;have D:(prog.info? 286).map (·.size)=some (pairCells startL).size:=by kernel_rfl
 rw[<-ZkW];obtain ⟨L,hL⟩:∃L,startL=L:=⟨_,rfl⟩;rw[hL] at hg J Q D|-;obtain ⟨CS,Y⟩:∃CS,pairCells L=CS:=⟨_,rfl⟩;rw[Y] at hg Q D;obtain ⟨R,h⟩:∃R,inL L r=R:=⟨_,rfl⟩;rw[h];have HR:Hid (inL (L.drop 0) r=R):=h;have X:=gd J;clear hL Y h J;go_enter func231,ntmps231
 go_wp2_with (refine wpList_load_row rfl 286 _ rfl 2 rfl t _ fr _ hg underlying286 rfl D ?_)
 go_loopw [6] (λv wr=>∃j:Nat,j<=15/\v=nI j/\Hid (inL (L.drop j) r=R)/\Ext w wr) (λv _=>15 - (intOf v).toNat)
 case atStart=>exact ⟨0,Zj _,rfl,HR,Ext.refl _⟩
 case round=>
  obtain ⟨j,hj,rfl,A,hx⟩:=hrel;by_cases U:j<15
  ·have S:j<L.length:=(by rw[X.out];exact U);have he:=Q.out j S;have hh:(j:Int)<15:=om;have HH:=gd (ZjT (r:=r) S);have HM:=gd (ZgL (r:=r) S);obtain ⟨F,ha⟩:∃F,L[j].1=F:=⟨_,rfl⟩;obtain ⟨H,Z⟩:∃H,L[j].2=H:=⟨_,rfl⟩;rw[ha,Z] at he HH HM;clear ha Z;obtain ⟨V,I⟩:∃V,wr.alloc (.cells #[.int .i32 (F:Nat),.int .i32 (H:Nat)] 284)=V:=⟨_,rfl⟩;have hb:V.heap[wr.heap.size]? =some (.cells #[.int .i32 (F:Nat),.int .i32 (H:Nat)] 284):=(by rw[<-I];exact Zg wr _);have hc:Ext wr V:=(by rw[<-I];exact (Ext.refl wr).alloc _);have c0:V.cell? ⟨wr.heap.size,0,none⟩=some (.int .i32 (F:Nat)):=(by rw[YO _ _ _ _ _ _ hb];rfl);have c1:V.cell? ⟨wr.heap.size,1,none⟩=some (.int .i32 (H:Nat)):=(by rw[YO _ _ _ _ _ _ hb];rfl);have HX:=gd (hx.trans hc);have K:(#[Value.int .i32 (F:Nat),.int .i32 (H:Nat)]).all (λu=>u.oneCell')=true:=(by simp[Value.oneCell']);clear hb hx hc;by_cases h1:F<=r
   ·by_cases h2:r<=H
    ·have h:=A.out;rw[HH.out h1 h2] at h;subst h;have q1:(F:Int)<=(r:Int):=om;have q2:(r:Int)<=(H:Int):=om;clear h1 h2 A HR
     go_wp2_with (refine Zf rfl 284 (.tmp 4) (.tmp 8) rfl wr.heap.size #[.int .i32 (F:Nat),.int .i32 (H:Nat)] rfl rfl _ _ (Zg _ _) Vk rfl K ?_;rw[Z0];rw[I])
     go_ret;exact ⟨rfl,HX.out⟩
    ·have h:=A.out;rw[HM.out om] at h;have HN:=gd h;have q1:(F:Int)<=(r:Int):=om;have q2:¬(r:Int)<=(H:Int):=om;clear h1 h2 A h
     go_wp2_with (refine Zf rfl 284 (.tmp 4) (.tmp 8) rfl wr.heap.size #[.int .i32 (F:Nat),.int .i32 (H:Nat)] rfl rfl _ _ (Zg _ _) Vk rfl K ?_;rw[Z0];rw[I])
     go_roundw
     case rel=>exact ⟨j+1,U,by go_num,HN,HX.out⟩
     case measure=>simp[intOf];omega
   ·have h:=A.out;rw[HM.out om] at h;have HN:=gd h;have q1:¬(F:Int)<=(r:Int):=om;clear h1 A h
    go_wp2_with (refine Zf rfl 284 (.tmp 4) (.tmp 8) rfl wr.heap.size #[.int .i32 (F:Nat),.int .i32 (H:Nat)] rfl rfl _ _ (Zg _ _) Vk rfl K ?_;rw[Z0];rw[I])
    go_roundw
    case rel=>exact ⟨j+1,U,by go_num,HN,HX.out⟩
    case measure=>simp[intOf];omega
  ·have hf:j=15:=om;have h:=A.out;rw[ZC (by rw[X.out];omega)] at h;have hd:false=R:=h;subst hd;subst hf;clear A h HR;go_wp2;go_ret;exact ⟨rfl,hx⟩
theorem Zfq (r:Nat) (w:Wq) (hN:NmTabs w) (hr:r<=1114111):
 Calls prog 230 #[.int .i32 (r:Nat)] w λe w'=>e= .returned (.bool (nmChar r))/\Ext w w':=by
 obtain ⟨t,fr,hg⟩:=hN.more;have J:moreL.length=5:=rfl;have Q:=gd Zi8;have D:(prog.info? 285).map (·.size)=some (pairCells moreL).size:=by kernel_rfl
 have Z:=gd (λw' (X:Ext w w')=>Ko r w' (hN.ext X) hr);rw[<-ZmS];obtain ⟨L,hL⟩:∃L,moreL=L:=⟨_,rfl⟩;rw[hL] at hg J Q D|-;obtain ⟨NS,hf⟩:∃NS,nmStart r=NS:=⟨_,rfl⟩;rw[hf] at Z|-;obtain ⟨CS,ha⟩:∃CS,pairCells L=CS:=⟨_,rfl⟩;rw[ha] at hg Q D;obtain ⟨R,h⟩:∃R,inL L r=R:=⟨_,rfl⟩;rw[h];have HR:Hid (inL (L.drop 0) r=R):=h;have Y:=gd J;clear hL ha h J;go_enter func230,ntmps230
 go_wp2_with (refine wpList_load_row rfl 285 _ rfl 1 rfl t _ fr _ hg underlying285 rfl D ?_)
 go_loopw [6] (λv wr=>∃j:Nat,j<=5/\v=nI j/\Hid (inL (L.drop j) r=R)/\Ext w wr) (λv _=>5 - (intOf v).toNat)
 case atStart=>exact ⟨0,Zj _,rfl,HR,Ext.refl _⟩
 case round=>
  obtain ⟨j,hj,rfl,A,X⟩:=hrel;by_cases U:j<5
  ·have S:j<L.length:=(by rw[Y.out];exact U);have hk:=Q.out j S;have hn:(j:Int)<5:=om;have HH:=gd (ZjT (r:=r) S);have HM:=gd (ZgL (r:=r) S);obtain ⟨F,hd⟩:∃F,L[j].1=F:=⟨_,rfl⟩;obtain ⟨H,hc⟩:∃H,L[j].2=H:=⟨_,rfl⟩;rw[hd,hc] at hk HH HM;clear hd hc;obtain ⟨V,I⟩:∃V,wr.alloc (.cells #[.int .i32 (F:Nat),.int .i32 (H:Nat)] 284)=V:=⟨_,rfl⟩;have hb:V.heap[wr.heap.size]? =some (.cells #[.int .i32 (F:Nat),.int .i32 (H:Nat)] 284):=(by rw[<-I];exact Zg wr _);have he:Ext wr V:=(by rw[<-I];exact (Ext.refl wr).alloc _);have c0:V.cell? ⟨wr.heap.size,0,none⟩=some (.int .i32 (F:Nat)):=(by rw[YO _ _ _ _ _ _ hb];rfl);have c1:V.cell? ⟨wr.heap.size,1,none⟩=some (.int .i32 (H:Nat)):=(by rw[YO _ _ _ _ _ _ hb];rfl);have HX:=gd (X.trans he);have K:(#[Value.int .i32 (F:Nat),.int .i32 (H:Nat)]).all (λu=>u.oneCell')=true:=(by simp[Value.oneCell']);clear hb X he;by_cases h1:F<=r
   ·by_cases h2:r<=H
    ·have h:=A.out;rw[HH.out h1 h2] at h;subst h;have q1:(F:Int)<=(r:Int):=om;have q2:(r:Int)<=(H:Int):=om;clear h1 h2 A HR
     go_wp2_with (refine Zf rfl 284 (.tmp 4) (.tmp 8) rfl wr.heap.size #[.int .i32 (F:Nat),.int .i32 (H:Nat)] rfl rfl _ _ (Zg _ _) Vk rfl K ?_;rw[Z0];rw[I])
     go_ret;exact ⟨rfl,HX.out⟩
    ·have h:=A.out;rw[HM.out om] at h;have HN:=gd h;have q1:(F:Int)<=(r:Int):=om;have q2:¬(r:Int)<=(H:Int):=om;clear h1 h2 A h
     go_wp2_with (refine Zf rfl 284 (.tmp 4) (.tmp 8) rfl wr.heap.size #[.int .i32 (F:Nat),.int .i32 (H:Nat)] rfl rfl _ _ (Zg _ _) Vk rfl K ?_;rw[Z0];rw[I])
     go_roundw
     case rel=>exact ⟨j+1,U,by go_num,HN,HX.out⟩
     case measure=>simp[intOf];omega
   ·have h:=A.out;rw[HM.out om] at h;have HN:=gd h;have q1:¬(F:Int)<=(r:Int):=om;clear h1 A h
    go_wp2_with (refine Zf rfl 284 (.tmp 4) (.tmp 8) rfl wr.heap.size #[.int .i32 (F:Nat),.int .i32 (H:Nat)] rfl rfl _ _ (Zg _ _) Vk rfl K ?_;rw[Z0];rw[I])
    go_roundw
    case rel=>exact ⟨j+1,U,by go_num,HN,HX.out⟩
    case measure=>simp[intOf];omega
  ·have hl:j=5:=om;have h:=A.out;rw[ZC (by rw[Y.out];omega)] at h;have hh:false=R:=h;subst hh;subst hl;clear A h HR
   go_wp2_with (first|(go_at_call 231;refine Za (Z.out _ X) ?_;rintro e w' ⟨rfl,hm⟩))
   go_ret;exact ⟨rfl,X.trans hm⟩
end
section
variable {l:List UInt8} {r:Nat}
theorem Zn6 {a b:Nat} (h:a<=16777216) (A:b<=16777216):wrap64 ((a:Int)+(b:Int))=(a:Int)+(b:Int):=by unfold wrap64;omega
theorem Zgd (h:(dec l).2=0):dec l=(0,0):=by
 unfold dec at h|-;split
 ·rfl
 ·rename_i A;rw[Ze A] at h;split
  ·rfl
  ·rename_i D;rw[Ze D] at h;have F:1<=l.length:=Xt.2 A;rw[UM] at h;have:=(Gs l.length (l.getD 0 0).toNat (l.getD 1 0).toNat (l.getD 2 0).toNat (l.getD 3 0).toNat F).1;omega
theorem ZcY (s:ByteArray) (k:Nat) (w:Wq) (D:s.size<=k):
 Calls prog 188 #[.string s,nI (k:Nat)] w λe w'=>e= .returned (decVal (0,0))/\Ext w w':=by
 have h:¬(k:Int)<0:=om
 have A:(s.size:Int)<=(k:Int):=om
 go_enter func188,ntmps188;go_wp2
 go_ret2
 exact ⟨rfl,Ext.refl _⟩
theorem Zdz (s:ByteArray) (k:Nat) (w:Wq) (A:Env w) (D:s.size<=maxLen):
 Calls prog 188 #[.string s,nI (k:Nat)] w λe w'=>e= .returned (.tuple #[.int .i32 ((dec (s.data.toList.drop k)).1:Nat),nI ((dec (s.data.toList.drop k)).2:Nat)])/\Ext w w':=by
 by_cases h:k<s.size
 ·exact Ky s k w A h D
 ·have:=ZcY s k w om;rw[ZC (by rw[ZN];omega)];exact this
theorem Zgc:(dec l).1<=1114111:=by
 by_cases h:(dec l).2=0
 ·rw[Zgd h];exact Zj _
 ·have:=(Ze9 [] h).2.1;unfold scalar at this;omega
theorem ZoF (b:Bool):nmOk true b 58=true:=by cases b<;>rfl
theorem Zhh (h:(r==58)=false):nmOk true true r=nmStart r:=by unfold nmOk;rw[h];rfl
theorem Zjb (h:(r==58)=false):nmOk true false r=nmChar r:=by unfold nmOk;rw[h];rfl
theorem Zjy (h:nmChar r=false):nmStart r=false:=by unfold nmChar at h;rw[Bool.or_eq_false_iff] at h;exact h.1
theorem Zlw (s:ByteArray) (b w:Wq) (g:Nat) (hE:Env b) (hN:NmTabs b) (hs:s.size<=16777216) (hJ:b.heap.size<=g) (hM:Ext b w) (hg:w.heap[g]? =some (.cells #[.string s,nI 0,nI 0,nI 0] 261)):
 Calls prog 211 #[.pointer (some ⟨g,0,none⟩)] w λe w'=>e= .returned (.string (s.extract 0 (nmLen true s.data.toList)))/\Ext b w':=by
 have hW:s.size<=maxLen:=by unfold maxLen;omega
 obtain ⟨l,hl⟩:∃l,s.data.toList=l:=⟨_,rfl⟩;have hL:l.length=s.size:=by rw[<-hl,ZN]
 rw[hl];obtain ⟨R0,hy⟩:∃n,nmLen true l=n:=⟨_,rfl⟩;rw[hy];have hT:=gd hy;have HL:=gd hl;have hQ:=gd hL;have c0:w.cell? ⟨g,0,none⟩=some (.string s):=by rw[JW hg];rfl
 have c1:w.cell? ⟨g,1,none⟩=some (nI 0):=by rw[JW hg];rfl
 have hP:=gd hg;have hw:=gd hJ;have hU:=gd hM;have HE:=gd hE;have hC:=gd hN;clear hy hl hL hg hJ hM hE hN;go_enter func211,ntmps211;go_wp2;go_loopw [4] (λv wr=>∃j:Nat,v=v/\j<=s.size/\wr.heap[g]? =some (.cells #[.string s,nI (j:Nat),nI 0,nI 0] 261)/\Hid (NmPre true true l j)/\Ext b wr) (λv wr=>s.size - (intOf ((wr.cell? ⟨g,1,none⟩).getD undef)).toNat)
 case atStart=>exact ⟨0,(by trivial),Zj _,hP.out,gd (.zero _ _),hU.out⟩
 case round=>
  obtain ⟨j, -,hj,hu,hp,hO⟩:=hrel;have c0:wr.cell? ⟨g,0,none⟩=some (.string s):=by rw[JW hu];rfl
  have c1:wr.cell? ⟨g,1,none⟩=some (nI (j:Nat)):=by rw[JW hu];rfl
  have hm:Hid ((intOf ((wr.cell? ⟨g,1,none⟩).getD undef)).toNat=j):=by show _=_;rw[c1];simp[intOf]
  have hD:=λw' (hx:Ext b w')=>Zdz s j w' (HE.out.ext hx) hW;have hA:=Ug (l.drop j);rw[Zk,hQ.out] at hA;have ha:((dec (l.drop j)).2=0\/nmOk true (decide (j=0)) (dec (l.drop j)).1=false)->R0=j:=λh=>by
   rw[<-hT.out];by_cases hV:j<l.length
   ·exact (Zch hp.out hV h).2
   ·have h1:=hp.out.go;unfold nmLen;rw[h1.2,ZC om,UP];rfl
  have Y:(dec (l.drop j)).2≠0->nmOk true (decide (j=0)) (dec (l.drop j)).1=true->NmPre true true l (j+(dec (l.drop j)).2):=λh1 h2=>hp.out.snoc h1 (by simpa using h2);have hc:(dec (l.drop j)).2=0->(dec (l.drop j)).1=0:=λh=>by rw[Zgd h]
  have hv:=Zgc (l:=l.drop j);rw[HL.out] at hD;obtain ⟨R,hR⟩:∃R,(dec (l.drop j)).1=R:=⟨_,rfl⟩;obtain ⟨n,hn⟩:∃n,(dec (l.drop j)).2=n:=⟨_,rfl⟩;rw[hR,hn] at hD ha Y;rw[hn] at hA hc;rw[hR] at hc hv;have HD:=gd hD;have HC:=gd (λw' (hx:Ext b w')=>Zfq R w' (hC.out.ext hx) hv);have HS:=gd (λw' (hx:Ext b w')=>Ko R w' (hC.out.ext hx) hv);have Z:=gd hO;have HG:=gd hu;have hh:Hid (j+n<=s.size):=gd om;have hi:Hid (wrap64 ((j:Int)+(n:Int))=(j:Int)+(n:Int)):=gd (Zn6 om om);have hF:=gd (λwx=>GL s 0 j 0 j rfl rfl (Zj _) hj wx);have hZ:(0:Int)<=(j:Int):=om
  clear hD hR hn hu hO hA hv;by_cases he:R=58
  ·have X:n≠0:=λe=>(by have:=hc e;omega);have ho:=gd (Y X (by rw[he];exact ZoF _));have hq:=gd X;have hY:((R:Int)==58)=true:=(by rw[JI];omega);have qn:((n:Int)==0)=false:=(by rw[Zv];omega);clear he X hc ha Y hp;go_wp2;have H:=(Ext.refl wr).drew;have A:wr.drew.cell? ⟨g,0,none⟩=some (.string s)/\wr.drew.cell? ⟨g,1,none⟩=some (nI (j:Nat)):=⟨H.cell c0,H.cell c1⟩;refine rN ?_;change wpAny _ _ _ _ _ _ _ (World.drew _);refine YD (λw'=>w'.cell? ⟨g,0,none⟩=some (.string s)/\w'.cell? ⟨g,1,none⟩=some (nI (j:Nat))) ?_;refine tG 0 (.pointer (some ⟨g,0,none⟩)) A ?_;refine tG 1 (.pointer (some ⟨g,0,none⟩)) A ?_;refine tG 2 (.pointer (some ⟨g,0,none⟩)) A ?_;refine tS 3 (.string s) rfl (λw' S=>by have q1:=S.1;have q2:=S.2;go_simp) A ?_;refine tG 4 (.pointer (some ⟨g,0,none⟩)) A ?_;refine tG 5 (.pointer (some ⟨g,0,none⟩)) A ?_;refine tG 6 (.pointer (some ⟨g,1,none⟩)) A ?_;refine tS 7 (nI (j:Nat)) rfl (λw' S=>by have q1:=S.1;have q2:=S.2;go_simp) A ?_;go_simp;refine sS 8 λK hK=> ?_;go_simp;go_at_call 188;have hz:=HD.out _ (Z.out.trans H)
   with_reducible refine Za hz ?_
   clear hz;rintro e w3 ⟨rfl,J⟩;have D:w3.cell? ⟨g,0,none⟩=some (.string s)/\w3.cell? ⟨g,1,none⟩=some (nI (j:Nat)):=⟨J.cell A.1,J.cell A.2⟩;refine hK _ _ D ?_;clear hK K;refine sS 9 λK hK=> ?_;go_simp;refine hK _ _ D ?_;clear hK K;refine tG 10 (.int .i32 (R:Nat)) D ?_;refine tG 11 (nI (n:Nat)) D ?_;go_simp;refine sS 12 λK hK=> ?_;go_simp;refine hK _ _ D ?_;clear hK K;refine sS 13 λK hK=> ?_;go_simp;refine hK _ _ D ?_;clear hK K;refine sE ?_;have I:=H.trans J;have V:=gd (Z.out.trans I);have U:=gd (I.heap HG.out);clear c0 c1 A H J HD;obtain ⟨d0,d1⟩:=D;have ht:w3.frozen? ⟨g,1,none⟩=false:=Xy (I.heap HG.out) 1;have e0:=d0;have e1:=d1;have ef:=ht;have F:=Ext.refl w3;go_wp2;go_roundw
   case rel=>exact ⟨j+n,(by trivial),hh.out,by rw[Int.natCast_add,hi.out];exact Yh _ g 1 _ _ _ (F.heap U.out),ho.out,(V.out.trans F).setCell hw.out _⟩
   case measure=>have h8:=hm.out;have h9:(w3.setCell ⟨g,1,none⟩ (nI ((j:Int)+(n:Int)))).cell? ⟨g,1,none⟩=some (nI ((j:Int)+(n:Int))):=(by rw[JW (Yh _ g 1 _ _ _ (F.heap U.out))];rfl);have hG:=hh.out;have hH:=hq.out;rw[h8,hi.out,h9];simp[intOf];omega
  have hd:(R==58)=false:=by simpa using he
  have hY:((R:Int)==58)=false:=by rw[Zv];omega
  by_cases hk:j=0
  ·have qj:¬(0:Int)<(j:Int):=om;rw[YG hk,Zhh hd] at ha Y;cases hb:nmStart R
   focus
    have hr:=gd (ha (Or.inr hb))
    rw[hb] at HS
    clear he hd hc ha Y hp hk hb
    go_wp2
    have H:=(Ext.refl wr).drew
    have A:wr.drew.cell? ⟨g,0,none⟩=some (.string s)/\wr.drew.cell? ⟨g,1,none⟩=some (nI (j:Nat)):=⟨H.cell c0,H.cell c1⟩
    refine rN ?_
    change wpAny _ _ _ _ _ _ _ (World.drew _)
    refine YD (λw'=>w'.cell? ⟨g,0,none⟩=some (.string s)/\w'.cell? ⟨g,1,none⟩=some (nI (j:Nat))) ?_
    refine tG 0 (.pointer (some ⟨g,0,none⟩)) A ?_
    refine tG 1 (.pointer (some ⟨g,0,none⟩)) A ?_
    refine tG 2 (.pointer (some ⟨g,0,none⟩)) A ?_
    refine tS 3 (.string s) rfl (λw' S=>by have q1:=S.1;have q2:=S.2;go_simp) A ?_
    refine tG 4 (.pointer (some ⟨g,0,none⟩)) A ?_
    refine tG 5 (.pointer (some ⟨g,0,none⟩)) A ?_
    refine tG 6 (.pointer (some ⟨g,1,none⟩)) A ?_
    refine tS 7 (nI (j:Nat)) rfl (λw' S=>by have q1:=S.1;have q2:=S.2;go_simp) A ?_
    go_simp
    refine sS 8 λK hK=> ?_
    go_simp
    go_at_call 188
    have hz:=HD.out _ (Z.out.trans H)
    with_reducible refine Za hz ?_
    clear hz
    rintro e w3 ⟨rfl,J⟩
    have D:w3.cell? ⟨g,0,none⟩=some (.string s)/\w3.cell? ⟨g,1,none⟩=some (nI (j:Nat)):=⟨J.cell A.1,J.cell A.2⟩
    refine hK _ _ D ?_
    clear hK K
    refine sS 9 λK hK=> ?_
    go_simp
    refine hK _ _ D ?_
    clear hK K
    refine tG 10 (.int .i32 (R:Nat)) D ?_
    refine tG 11 (nI (n:Nat)) D ?_
    go_simp
    refine sS 12 λK hK=> ?_
    go_simp
    refine hK _ _ D ?_
    clear hK K
    refine sS 13 λK hK=> ?_
    go_simp
    refine hK _ _ D ?_
    clear hK K
    refine sE ?_
    have I:=H.trans J
    have V:=gd (Z.out.trans I)
    have U:=gd (I.heap HG.out)
    clear c0 c1 A H J HD
    obtain ⟨d0,d1⟩:=D
    have ht:w3.frozen? ⟨g,1,none⟩=false:=Xy (I.heap HG.out) 1
    cases hqn:((n:Int)==0)
   rotate_left
   rotate_left
   ·have X:n≠0:=λe=>(by rw[hc e] at hb;revert hb;decide);have ho:=gd (Y X hb);have hq:=gd X;have qn:((n:Int)==0)=false:=(by rw[Zv];omega);rw[hb] at HS;clear he hd X hc ha Y hp hk hb;go_wp2;have H:=(Ext.refl wr).drew;have A:wr.drew.cell? ⟨g,0,none⟩=some (.string s)/\wr.drew.cell? ⟨g,1,none⟩=some (nI (j:Nat)):=⟨H.cell c0,H.cell c1⟩;refine rN ?_;change wpAny _ _ _ _ _ _ _ (World.drew _);refine YD (λw'=>w'.cell? ⟨g,0,none⟩=some (.string s)/\w'.cell? ⟨g,1,none⟩=some (nI (j:Nat))) ?_;refine tG 0 (.pointer (some ⟨g,0,none⟩)) A ?_;refine tG 1 (.pointer (some ⟨g,0,none⟩)) A ?_;refine tG 2 (.pointer (some ⟨g,0,none⟩)) A ?_;refine tS 3 (.string s) rfl (λw' S=>by have q1:=S.1;have q2:=S.2;go_simp) A ?_;refine tG 4 (.pointer (some ⟨g,0,none⟩)) A ?_;refine tG 5 (.pointer (some ⟨g,0,none⟩)) A ?_;refine tG 6 (.pointer (some ⟨g,1,none⟩)) A ?_;refine tS 7 (nI (j:Nat)) rfl (λw' S=>by have q1:=S.1;have q2:=S.2;go_simp) A ?_;go_simp;refine sS 8 λK hK=> ?_;go_simp;go_at_call 188;have hz:=HD.out _ (Z.out.trans H)
    with_reducible refine Za hz ?_
    clear hz;rintro e w3 ⟨rfl,J⟩;have D:w3.cell? ⟨g,0,none⟩=some (.string s)/\w3.cell? ⟨g,1,none⟩=some (nI (j:Nat)):=⟨J.cell A.1,J.cell A.2⟩;refine hK _ _ D ?_;clear hK K;refine sS 9 λK hK=> ?_;go_simp;refine hK _ _ D ?_;clear hK K;refine tG 10 (.int .i32 (R:Nat)) D ?_;refine tG 11 (nI (n:Nat)) D ?_;go_simp;refine sS 12 λK hK=> ?_;go_simp;refine hK _ _ D ?_;clear hK K;refine sS 13 λK hK=> ?_;go_simp;refine hK _ _ D ?_;clear hK K;refine sE ?_;have I:=H.trans J;have V:=gd (Z.out.trans I);have U:=gd (I.heap HG.out);clear c0 c1 A H J HD;obtain ⟨d0,d1⟩:=D;have ht:w3.frozen? ⟨g,1,none⟩=false:=Xy (I.heap HG.out) 1
    go_wp2_with (first|(go_at_call 231;refine Za (HS.out _ V.out) ?_;rintro e w4 ⟨rfl,F⟩;have e0:=F.cell d0;have e1:=F.cell d1;have ef:w4.frozen? ⟨g,1,none⟩=false:=Xy (F.heap U.out) 1))
    go_roundw
    case rel=>exact ⟨j+n,(by trivial),hh.out,by rw[Int.natCast_add,hi.out];exact Yh _ g 1 _ _ _ (F.heap U.out),ho.out,(V.out.trans F).setCell hw.out _⟩
    case measure=>have h8:=hm.out;have h9:(w4.setCell ⟨g,1,none⟩ (nI ((j:Int)+(n:Int)))).cell? ⟨g,1,none⟩=some (nI ((j:Int)+(n:Int))):=(by rw[JW (Yh _ g 1 _ _ _ (F.heap U.out))];rfl);have hG:=hh.out;have hH:=hq.out;rw[h8,hi.out,h9];simp[intOf];omega
   all_goals
    go_wp2_with (first|(go_at_call 231;refine Za (HS.out _ V.out) ?_;rintro e w4 ⟨rfl,F⟩;have e0:=F.cell d0;have e1:=F.cell d1;have ef:w4.frozen? ⟨g,1,none⟩=false:=Xy (F.heap U.out) 1))
    have hf:=(Ext.refl w4).drew
    have Q:w4.drew.cell? ⟨g,0,none⟩=some (.string s)/\w4.drew.cell? ⟨g,1,none⟩=some (nI (j:Nat)):=⟨hf.cell e0,hf.cell e1⟩
    have hX:=hF.out
    refine rN ?_
    change wpAny _ _ _ _ _ _ _ (World.drew _)
    refine YD (λw'=>w'.cell? ⟨g,0,none⟩=some (.string s)/\w'.cell? ⟨g,1,none⟩=some (nI (j:Nat))) ?_
    refine tG 0 (.pointer (some ⟨g,0,none⟩)) Q ?_
    refine tG 1 (.pointer (some ⟨g,0,none⟩)) Q ?_
    refine tG 2 (.pointer (some ⟨g,0,none⟩)) Q ?_
    refine tS 3 (.string s) rfl (λw' S=>by have q1:=S.1;have q2:=S.2;go_simp) Q ?_
    refine tG 4 (nI 0) Q ?_
    refine tG 5 (.pointer (some ⟨g,0,none⟩)) Q ?_
    refine tG 6 (.pointer (some ⟨g,0,none⟩)) Q ?_
    refine tG 7 (.pointer (some ⟨g,1,none⟩)) Q ?_
    refine tS 8 (nI (j:Nat)) rfl (λw' S=>by have q1:=S.1;have q2:=S.2;go_simp) Q ?_
    go_simp
    refine sS 9 λK hK=> ?_
    go_simp
    refine hK _ _ Q ?_
    clear hK K
    refine sS 10 λK hK=> ?_
    go_simp
    refine hK _ _ Q ?_
    clear hK K
    refine sE ?_
    go_wp2
    go_ret
    exact ⟨by rw[hr.out];rfl,(V.out.trans F).trans hf⟩
  have qj:(0:Int)<(j:Int):=om
  rw[Yd hk,Zjb hd] at ha Y;cases hb:nmChar R
  focus
   have hr:=gd (ha (Or.inr hb))
   have hI:=Zjy hb
   rw[hb] at HC
   rw[hI] at HS
   clear he hd hc ha Y hp hk hb hI
   go_wp2
   have H:=(Ext.refl wr).drew
   have A:wr.drew.cell? ⟨g,0,none⟩=some (.string s)/\wr.drew.cell? ⟨g,1,none⟩=some (nI (j:Nat)):=⟨H.cell c0,H.cell c1⟩
   refine rN ?_
   change wpAny _ _ _ _ _ _ _ (World.drew _)
   refine YD (λw'=>w'.cell? ⟨g,0,none⟩=some (.string s)/\w'.cell? ⟨g,1,none⟩=some (nI (j:Nat))) ?_
   refine tG 0 (.pointer (some ⟨g,0,none⟩)) A ?_
   refine tG 1 (.pointer (some ⟨g,0,none⟩)) A ?_
   refine tG 2 (.pointer (some ⟨g,0,none⟩)) A ?_
   refine tS 3 (.string s) rfl (λw' S=>by have q1:=S.1;have q2:=S.2;go_simp) A ?_
   refine tG 4 (.pointer (some ⟨g,0,none⟩)) A ?_
   refine tG 5 (.pointer (some ⟨g,0,none⟩)) A ?_
   refine tG 6 (.pointer (some ⟨g,1,none⟩)) A ?_
   refine tS 7 (nI (j:Nat)) rfl (λw' S=>by have q1:=S.1;have q2:=S.2;go_simp) A ?_
   go_simp
   refine sS 8 λK hK=> ?_
   go_simp
   go_at_call 188
   have hz:=HD.out _ (Z.out.trans H)
   with_reducible refine Za hz ?_
   clear hz
   rintro e w3 ⟨rfl,J⟩
   have D:w3.cell? ⟨g,0,none⟩=some (.string s)/\w3.cell? ⟨g,1,none⟩=some (nI (j:Nat)):=⟨J.cell A.1,J.cell A.2⟩
   refine hK _ _ D ?_
   clear hK K
   refine sS 9 λK hK=> ?_
   go_simp
   refine hK _ _ D ?_
   clear hK K
   refine tG 10 (.int .i32 (R:Nat)) D ?_
   refine tG 11 (nI (n:Nat)) D ?_
   go_simp
   refine sS 12 λK hK=> ?_
   go_simp
   refine hK _ _ D ?_
   clear hK K
   refine sS 13 λK hK=> ?_
   go_simp
   refine hK _ _ D ?_
   clear hK K
   refine sE ?_
   have I:=H.trans J
   have V:=gd (Z.out.trans I)
   have U:=gd (I.heap HG.out)
   clear c0 c1 A H J HD
   obtain ⟨d0,d1⟩:=D
   have ht:w3.frozen? ⟨g,1,none⟩=false:=Xy (I.heap HG.out) 1
   cases hqn:((n:Int)==0)
  rotate_left
  rotate_left
  ·have X:n≠0:=λe=>(by rw[hc e] at hb;revert hb;decide);have ho:=gd (Y X hb);have hq:=gd X;have qn:((n:Int)==0)=false:=(by rw[Zv];omega);rw[hb] at HC;clear he hd X hc ha Y hp hk hb;go_wp2;have H:=(Ext.refl wr).drew;have A:wr.drew.cell? ⟨g,0,none⟩=some (.string s)/\wr.drew.cell? ⟨g,1,none⟩=some (nI (j:Nat)):=⟨H.cell c0,H.cell c1⟩;refine rN ?_;change wpAny _ _ _ _ _ _ _ (World.drew _);refine YD (λw'=>w'.cell? ⟨g,0,none⟩=some (.string s)/\w'.cell? ⟨g,1,none⟩=some (nI (j:Nat))) ?_;refine tG 0 (.pointer (some ⟨g,0,none⟩)) A ?_;refine tG 1 (.pointer (some ⟨g,0,none⟩)) A ?_;refine tG 2 (.pointer (some ⟨g,0,none⟩)) A ?_;refine tS 3 (.string s) rfl (λw' S=>by have q1:=S.1;have q2:=S.2;go_simp) A ?_;refine tG 4 (.pointer (some ⟨g,0,none⟩)) A ?_;refine tG 5 (.pointer (some ⟨g,0,none⟩)) A ?_;refine tG 6 (.pointer (some ⟨g,1,none⟩)) A ?_;refine tS 7 (nI (j:Nat)) rfl (λw' S=>by have q1:=S.1;have q2:=S.2;go_simp) A ?_;go_simp;refine sS 8 λK hK=> ?_;go_simp;go_at_call 188;have hz:=HD.out _ (Z.out.trans H)
   with_reducible refine Za hz ?_
   clear hz;rintro e w3 ⟨rfl,J⟩;have D:w3.cell? ⟨g,0,none⟩=some (.string s)/\w3.cell? ⟨g,1,none⟩=some (nI (j:Nat)):=⟨J.cell A.1,J.cell A.2⟩;refine hK _ _ D ?_;clear hK K;refine sS 9 λK hK=> ?_;go_simp;refine hK _ _ D ?_;clear hK K;refine tG 10 (.int .i32 (R:Nat)) D ?_;refine tG 11 (nI (n:Nat)) D ?_;go_simp;refine sS 12 λK hK=> ?_;go_simp;refine hK _ _ D ?_;clear hK K;refine sS 13 λK hK=> ?_;go_simp;refine hK _ _ D ?_;clear hK K;refine sE ?_;have I:=H.trans J;have V:=gd (Z.out.trans I);have U:=gd (I.heap HG.out);clear c0 c1 A H J HD;obtain ⟨d0,d1⟩:=D;have ht:w3.frozen? ⟨g,1,none⟩=false:=Xy (I.heap HG.out) 1
   go_wp2_with (first|(go_at_call 230;refine Za (HC.out _ V.out) ?_;rintro e w4 ⟨rfl,F⟩;have e0:=F.cell d0;have e1:=F.cell d1;have ef:w4.frozen? ⟨g,1,none⟩=false:=Xy (F.heap U.out) 1))
   go_roundw
   case rel=>exact ⟨j+n,(by trivial),hh.out,by rw[Int.natCast_add,hi.out];exact Yh _ g 1 _ _ _ (F.heap U.out),ho.out,(V.out.trans F).setCell hw.out _⟩
   case measure=>have h8:=hm.out;have h9:(w4.setCell ⟨g,1,none⟩ (nI ((j:Int)+(n:Int)))).cell? ⟨g,1,none⟩=some (nI ((j:Int)+(n:Int))):=(by rw[JW (Yh _ g 1 _ _ _ (F.heap U.out))];rfl);have hG:=hh.out;have hH:=hq.out;rw[h8,hi.out,h9];simp[intOf];omega
  all_goals
   go_wp2_with (first|(go_at_call 230;refine Za (HC.out _ V.out) ?_;rintro e w4 ⟨rfl,F⟩;have e0:=F.cell d0;have e1:=F.cell d1;have ef:w4.frozen? ⟨g,1,none⟩=false:=Xy (F.heap U.out) 1)|(go_at_call 231;refine Za (HS.out _ (V.out.trans F)) ?_;rintro e w5 ⟨rfl,hB⟩;have f0:=(F.trans hB).cell d0;have f1:=(F.trans hB).cell d1))
   have hf:=(Ext.refl w5).drew
   have Q:w5.drew.cell? ⟨g,0,none⟩=some (.string s)/\w5.drew.cell? ⟨g,1,none⟩=some (nI (j:Nat)):=⟨hf.cell f0,hf.cell f1⟩
   have hX:=hF.out
   refine rN ?_
   change wpAny _ _ _ _ _ _ _ (World.drew _)
   refine YD (λw'=>w'.cell? ⟨g,0,none⟩=some (.string s)/\w'.cell? ⟨g,1,none⟩=some (nI (j:Nat))) ?_
   refine tG 0 (.pointer (some ⟨g,0,none⟩)) Q ?_
   refine tG 1 (.pointer (some ⟨g,0,none⟩)) Q ?_
   refine tG 2 (.pointer (some ⟨g,0,none⟩)) Q ?_
   refine tS 3 (.string s) rfl (λw' S=>by have q1:=S.1;have q2:=S.2;go_simp) Q ?_
   refine tG 4 (nI 0) Q ?_
   refine tG 5 (.pointer (some ⟨g,0,none⟩)) Q ?_
   refine tG 6 (.pointer (some ⟨g,0,none⟩)) Q ?_
   refine tG 7 (.pointer (some ⟨g,1,none⟩)) Q ?_
   refine tS 8 (nI (j:Nat)) rfl (λw' S=>by have q1:=S.1;have q2:=S.2;go_simp) Q ?_
   go_simp
   refine sS 9 λK hK=> ?_
   go_simp
   refine hK _ _ Q ?_
   clear hK K
   refine sS 10 λK hK=> ?_
   go_simp
   refine hK _ _ Q ?_
   clear hK K
   refine sE ?_
   go_wp2
   go_ret
   exact ⟨by rw[hr.out];rfl,(V.out.trans (F.trans hB)).trans hf⟩
theorem ZcS:(prog.info? 261).map (·.size)=some 4:=by kernel_rfl
theorem ZaN (s:ByteArray) (w:Wq) (hE:Env w) (hN:NmTabs w) (hs:s.size<=16777216):
 Calls prog 175 #[.string s] w λe w'=>e= .returned (.bool (isQ s.data.toList))/\Ext w w':=by
 obtain ⟨Q,A⟩:∃Q,w.alloc (.cells #[.string s,nI 0,nI 0,nI 0] 261)=Q:=⟨_,rfl⟩;have K:Ext w Q:=by rw[<-A];exact (Ext.refl w).alloc _
 have Y:Q.heap[w.heap.size]? =some (.cells #[.string s,nI 0,nI 0,nI 0] 261):=by rw[<-A];exact Zg w _
 have F:(#[Value.string s,nI 0,nI 0,nI 0]).all (λu=>u.oneCell')=true:=by simp[Value.oneCell']
 have H:=gd (Zlw s w Q w.heap.size hE hN hs (Zc _) K Y);have U:isQ s.data.toList=(decide (0<s.size) && decide (nmLen true s.data.toList=s.size)):=by unfold isQ;rw[ZN,Bool.decide_and]
 have I:nmLen true s.data.toList<=s.size:=by
  unfold nmLen;have:=Zfs true s.data.toList.length true s.data.toList
  rwa [ZN] at this
 rw[U];obtain ⟨m,Z⟩:∃m,nmLen true s.data.toList=m:=⟨_,rfl⟩;rw[Z] at H I|-;have D:(s.extract 0 m=s)↔m=s.size:=by
  constructor
  ·intro e;have h1:=Zz ByteArray.size e;rw[ByteArray.size_extract] at h1;omega
  ·intro e;rw[e];apply JA;rw[U3 _ _ _ (Zj _),Jm,Nat.sub_zero,ZQ (by rw[ZN];omega)]
 have V:=gd K;clear Z K Y U;by_cases R:s.size=0
 ·have hb:s.toList.isEmpty=true:=by rw[Yb,U0];exact Zm R
  have h:(decide (0<s.size) && decide (m=s.size))=false:=by rw[Yd om];rfl
  rw[h];clear h R I D;go_enter func175,ntmps175
  go_wp2_with (first|(refine Zf rfl 261 (.tmp 3) (.tmp 5) rfl w.heap.size #[.string s,nI 0,nI 0,nI 0] rfl rfl _ _ (Zg _ _) ZcS rfl F ?_;rw[Z0];rw[A]))
  go_ret;exact ⟨rfl,V.out⟩
 ·have hb:s.toList.isEmpty=false:=by
   rw[Yb];cases hl:s.data.toList with
   |nil=>exact absurd (by have:=Zz List.length hl;rw[ZN] at this;exact this) R
   |cons a t=>rfl
  cases hd:decide (m=s.size) with
  |true=>
   have X:=D.2 (YK hd);have h:(decide (0<s.size) && true)=true:=(by rw[YG om];rfl);rw[h];rw[X] at H;clear h R I D hd X;go_enter func175,ntmps175
   go_wp2_with (first|(refine Zf rfl 261 (.tmp 3) (.tmp 5) rfl w.heap.size #[.string s,nI 0,nI 0,nI 0] rfl rfl _ _ (Zg _ _) ZcS rfl F ?_;rw[Z0];rw[A])|(go_at_call 211;refine Za H.out ?_;rintro e w' ⟨rfl,J⟩))
   go_ret;exact ⟨by simp,J⟩
  |false=>
   have S:s.extract 0 m≠s:=λe=>(by have:=D.1 e;rw[YG this] at hd;cases hd);have ha:((s.extract 0 m).toList==s.toList)=false:=(by rw[Zv];intro e;rw[Yb,Yb] at e;exact S (JA e));rw[Bool.and_false];clear R I D hd S;go_enter func175,ntmps175
   go_wp2_with (first|(refine Zf rfl 261 (.tmp 3) (.tmp 5) rfl w.heap.size #[.string s,nI 0,nI 0,nI 0] rfl rfl _ _ (Zg _ _) ZcS rfl F ?_;rw[Z0];rw[A])|(go_at_call 211;refine Za H.out ?_;rintro e w' ⟨rfl,J⟩))
   go_ret;exact ⟨rfl,J⟩
end
theorem Zjv (l:List AtP) (nm:List UInt8):(l.map AtP.name).contains nm=l.any (λe=>decide (str e.name=str nm)):=by
 induction l with
 |nil=>rfl
 |cons a t ih=>
  rw[Zw,List.contains_cons,List.any_cons,ih]
  congr 1
  by_cases h:a.name=nm
  ·rw[h,YG rfl];simp
  ·rw[Yd (λe=>h (ZfO e))];simpa using λe=>h e.symm
theorem Zio (v:Value) (l:List AtP) (w:Wq) (hE:Env w) (hN:NmTabs w) (h:RAts w v l) (hf:∀a∈l,a.name.length<=16777216/\a.value.length<=16777216) (hn:l.length<=16777216):
 Calls prog 176 #[v] w λe w'=>e= .returned (.bool (attrsOk l []))/\Ext w w':=by
 obtain ⟨A,c,rfl, -, -⟩:=h.form;have hH:= @run_makeMap prog;obtain ⟨R,hR⟩:∃R,attrsOk l []=R:=⟨_,rfl⟩;rw[hR];have HR:Hid (attrsOk (l.drop 0) ((l.take 0).map AtP.name)=R):=hR;have HF:=gd hf;have HH:=gd h;have hh:=gd hE;have hw:=gd hN;clear hR hf h hE hN;go_enter func176,ntmps176;go_wp2;go_loopw [9] (λi wr=>∃(k:Nat) (D:DataW Unit),k<=l.length/\i=nI k/\wr.ownsMap prog 9 (plainElem prog 4) w.heap.size k D/\Hid (SeenMap D (λs=>(l.take k).any (λe=>decide (str e.name=s))))/\Hid (attrsOk (l.drop k) ((l.take k).map AtP.name)=R)/\Ext w wr) (λi _=>l.length - (intOf i).toNat)
 case atStart=>exact ⟨0,.map [],Zj _,rfl,World.ownsMap_made _ _ _ _,gd SeenMap.nil,HR,(Ext.refl _).alloc _⟩
 case round=>
  obtain ⟨k,D,hk,rfl,hM,hD,S,hg⟩:=hrel;by_cases U:k<l.length
  ·obtain ⟨ad,c1,e1,hl⟩:=(RAts.ext HH.out hg).at U;injection e1 with e1 e1' e1'';subst e1;clear e1' e1'';have Y:=HF.out _ (ZL U);have he:=Zr U;have I:=S.out;rw[Zl U,attrsOk,Zjv] at I;have hc:(l.take (k+1)).map AtP.name=(l.take k).map AtP.name++ [l[k].name]:=(by rw[he,ZS];rfl);rw[<-hc] at I;have ha:Hid (SeenMap (D.put (.string (str l[k].name).data.toList) (.lit (.bool true))) (λs=>(l.take (k+1)).any (λe=>decide (str e.name=s)))):=gd (hD.out.put λt=>by rw[he,List.any_append];simp);obtain ⟨b,hb⟩:∃b,(l.take k).any (λe=>decide (str e.name=str l[k].name))=b:=⟨_,rfl⟩;rw[hb] at I;obtain ⟨x,hp⟩:∃x,l[k]=x:=⟨_,rfl⟩;rw[hp] at hl Y I ha hb;have hd:(str x.name).size<=maxLen:=(by rw[YN];unfold maxLen;omega);have hi:=gd (show keyOf prog 9 (.string (str x.name))=some (.string (str x.name).data.toList) from keyOf_string_mk underlying9 hd);have HM:=gd hM;have ht:Hid (k<maxLen):=gd (by unfold maxLen;omega);obtain ⟨W2,K⟩:∃W2,wr.alloc (.cells #[.string (str x.space),.string (str x.name),.string (str x.value),nI (x.at_:Nat)] 88)=W2:=⟨_,rfl⟩;have Z:Ext wr W2:=(by rw[<-K];exact (Ext.refl _).alloc _);have X:W2.heap[wr.heap.size]? =some (.cells #[.string (str x.space),.string (str x.name),.string (str x.value),nI (x.at_:Nat)] 88):=(by rw[<-K];exact Zg _ _);have hA:=Zak (hM.kept (Z.grown none) (by simp)) hD.out hd;simp only[hb] at hA;have c0:W2.cell? ⟨wr.heap.size,0,none⟩=some (.string (str x.space)):=(by rw[YO _ _ _ _ _ _ X];rfl);have c1:W2.cell? ⟨wr.heap.size,1,none⟩=some (.string (str x.name)):=(by rw[YO _ _ _ _ _ _ X];rfl);have c2:W2.cell? ⟨wr.heap.size,2,none⟩=some (.string (str x.value)):=(by rw[YO _ _ _ _ _ _ X];rfl);have hy:=gd Z;have H:=gd (hg.trans Z);have HQ:=gd (λw' (hx:Ext w w')=>ZaN (str x.name) w' (hh.out.ext hx) (hw.out.ext hx) (by rw[YN];exact Y.1));have HC:=gd (λw' (hx:Ext w w')=>ZdJ (str x.value) w' (hh.out.ext hx) (by rw[YN];exact Y.2));simp only[Z3] at HQ HC;have hF:(0:Int)<=(k:Int):=om;have hG:(k:Int)<(l.length:Int):=om;obtain ⟨q,hq⟩:∃q,isQ x.name=q:=⟨_,rfl⟩;obtain ⟨ch,hm⟩:∃ch,charsOk x.value=ch:=⟨_,rfl⟩;rw[hq] at HQ I;rw[hm] at HC I;obtain ⟨a0,a1,a2,a3⟩:=hl;clear Z X hM hb hq hm he hc Y hp hd;by_cases hs:x.space= []
   ·have hB:(str x.space).toList.isEmpty=true:=(by rw[hs];exact UK);have V:x.space.isEmpty=true:=(by rw[hs];rfl);rw[V,XL] at I;clear hs V;cases b with
    |true=>
     have Q:false=R:=I;subst Q;clear I HR
     skip
     go_wp2_with (first|(refine Zf rfl 88 (.tmp 5) (.tmp 12) rfl wr.heap.size #[.string (str x.space),.string (str x.name),.string (str x.value),nI (x.at_:Nat)] rfl rfl _ _ (Zg _ _) Xz rfl (Vq x) ?_;rw[Z0];rw[K]))
     go_ret;exact ⟨rfl,H.out⟩
    |false=>
     cases q with
     |false=>
      have Q:false=R:=I;subst Q;clear I HR
      skip
      go_wp2_with (first|(refine Zf rfl 88 (.tmp 5) (.tmp 12) rfl wr.heap.size #[.string (str x.space),.string (str x.name),.string (str x.value),nI (x.at_:Nat)] rfl rfl _ _ (Zg _ _) Xz rfl (Vq x) ?_;rw[Z0];rw[K])|(go_at_call 175;refine Za (HQ.out _ H.out) ?_;rintro e w3 ⟨rfl,F⟩;have d0:=F.cell c0;have d1:=F.cell c1;have d2:=F.cell c2))
      go_ret;exact ⟨rfl,H.out.trans F⟩
     |true=>
      cases ch with
      |false=>
       have Q:false=R:=I;subst Q;clear I HR
       skip
       go_wp2_with (first|(refine Zf rfl 88 (.tmp 5) (.tmp 12) rfl wr.heap.size #[.string (str x.space),.string (str x.name),.string (str x.value),nI (x.at_:Nat)] rfl rfl _ _ (Zg _ _) Xz rfl (Vq x) ?_;rw[Z0];rw[K])|(go_at_call 175;refine Za (HQ.out _ H.out) ?_;rintro e w3 ⟨rfl,F⟩;have d0:=F.cell c0;have d1:=F.cell c1;have d2:=F.cell c2)|(go_at_call 177;refine Za (HC.out _ (H.out.trans F)) ?_;rintro e w4 ⟨rfl,J⟩;have e0:=J.cell d0;have e1:=J.cell d1;have e2:=J.cell d2))
       go_ret;exact ⟨rfl,(H.out.trans F).trans J⟩
      |true=>
       have hv:Hid (attrsOk (l.drop (k+1)) ((l.take (k+1)).map AtP.name)=R):=gd I;clear I
       go_wp2_with (first|(refine Zf rfl 88 (.tmp 5) (.tmp 12) rfl wr.heap.size #[.string (str x.space),.string (str x.name),.string (str x.value),nI (x.at_:Nat)] rfl rfl _ _ (Zg _ _) Xz rfl (Vq x) ?_;rw[Z0];rw[K])|(go_at_call 175;refine Za (HQ.out _ H.out) ?_;rintro e w3 ⟨rfl,F⟩;have d0:=F.cell c0;have d1:=F.cell c1;have d2:=F.cell c2)|(go_at_call 177;refine Za (HC.out _ (H.out.trans F)) ?_;rintro e w4 ⟨rfl,J⟩;have e0:=J.cell d0;have e1:=J.cell d1;have e2:=J.cell d2)|(at_mapUpdate;(refine UC _ rfl (.tmp 34) (.tmp 36) (.const (.bool true)) 183 rfl 9 4 UT underlying183 _ w.heap.size k D rfl (HM.out.kept (((hy.out.trans F).trans J).grown none) (by simp)) ht.out _ _ _ rfl rfl hi.out _ [] (plainElem_bool underlying4 true) ?_);intro w5 hj ho))
       have hC:Ext w w5:=Ext.grown' (B:=0) ((H.out.trans F).trans J) ho (λb hb=>by cases hb;exact Zc _);have hu:=gd hj;clear hj ho;go_roundw
       case rel=>exact ⟨k+1,_,U,by go_num,hu.out,ha,hv,hC⟩
       case measure=>simp[intOf];omega
   ·have hB:(str x.space).toList.isEmpty=false:=V4 hs;have V:x.space.isEmpty=false:=by cases hx:x.space with
     |nil=>exact absurd hx hs
     |cons a t=>rfl
    rw[V] at I;have Q:false=R:=I;subst Q;clear I HR hs V
    skip
    go_wp2_with (first|(refine Zf rfl 88 (.tmp 5) (.tmp 12) rfl wr.heap.size #[.string (str x.space),.string (str x.name),.string (str x.value),nI (x.at_:Nat)] rfl rfl _ _ (Zg _ _) Xz rfl (Vq x) ?_;rw[Z0];rw[K]))
    go_ret;exact ⟨rfl,H.out⟩
  ·have hz:k=l.length:=om;have I:=S.out;rw[ZC om,attrsOk] at I;subst I;subst hz;clear HR S;go_wp2;go_ret;exact ⟨rfl,hg⟩
section
variable {d:Nat}
theorem ZgY {data:Bool} {x:Nd} {t:List Nd} (h:x.kind=1):kidsOk d data (x::t)=(!data && !x.text.isEmpty && charsOk x.text && x.space.isEmpty && x.name.isEmpty && x.attrs.isEmpty && x.kids.isEmpty && kidsOk d true t):=by
 rw[kidsOk,Zi h,YG h]
theorem ZgX {data:Bool} {x:Nd} {t:List Nd} (h:x.kind≠1):kidsOk d data (x::t)=(nodeOk (d+1) x && kidsOk d false t):=by
 rw[kidsOk,Ze h,Yd h]
theorem ZrD (l:List UInt8):(str l).toList.isEmpty=l.isEmpty:=UN l
theorem Zkh {a b:List UInt8}:(str a++str b).toList.isEmpty=(a.isEmpty && b.isEmpty):=by
 have h:(str a++str b).toList=a++b:=by rw[Yb,JS,Z3,Z3]
 rw[h];cases a<;>cases b<;>rfl
theorem Zl8 (N:Nat) (hN:N<=4000000):∀(h:Nat) (x:Nc) (Z:Nat) (w:Wq),x.nd.ht<=h->x.nd.fits N->Z<=101->Env w->NmTabs w->RdN w x->
 Calls prog 125 #[.agg (cellsN x).toArray,nI (Z:Nat)] w λe w'=>e= .returned (.bool (nodeOk Z x.nd))/\Ext w w':=by
 intro h
 induction h with
 |zero=>intro x Z w hu;exact absurd (ZiO x.nd) om
 |succ h ih=>
 intro x Z w hu H gn hE hp hr;obtain ⟨k,s,n,al,l0,ks,kids,t,a⟩:=x;have gf:=hr;rw[RdN] at hr;obtain ⟨hG,hJ,hT⟩:=hr;have hA:=(XC kids).1 hT;rw[Nc.nd] at hu H|-;rw[Nd.ht] at hu;rw[Nd.fits] at H;have hS:=H.2.2.2.2.2.2.2.2;have hQ:=H.2.2.2.2.1;have h7:kids.length<=N:=by have:=H.2.2.2.2.2.1;rwa [Jw] at this
 have gb:l0.length<=N:=H.2.2.2.1;have gc:n.length<=N:=H.2.2.1;have hc:k<=1:=H.1;obtain ⟨A,c,h3, -, -⟩:=hG.form;obtain ⟨B,d,ga, -, -⟩:=RNs.form hJ;subst h3;subst ga;obtain ⟨W0,hO⟩:∃W0,w.alloc (.cells #[nI (k:Nat),.string (str s),.string (str n),.slice A l0.length c,.slice B kids.length d,.string (str t),nI (a:Nat)] 25)=W0:=⟨_,rfl⟩;have he:Ext w W0:=by rw[<-hO];exact (Ext.refl w).alloc _
 have hH:BxN W0 w.heap.size k s n (.slice A l0.length c) (.slice B kids.length d) t a:=by rw[<-hO];exact Zg w _
 obtain ⟨b0,b1,b2,b3,b4,b5,b6⟩:=hH.cells;have ho:=gd he;have hi:=gd hH;have hD:=gd (λw' (hx:Ext W0 w')=>ZaN (str n) w' (hE.ext (he.trans hx)) (hp.ext (he.trans hx)) (by rw[YN];omega));have hL:=gd (λw' (hx:Ext W0 w')=>Zio (.slice A l0.length c) l0 w' (hE.ext (he.trans hx)) (hp.ext (he.trans hx)) (hG.ext (he.trans hx)) (λb hb=>by have:=hQ b hb;unfold AtP.fits at this;omega) om);simp only[Z3] at hD;have hZ:=gd (show RNs w (.slice B kids.length d) kids from hJ);have HY:=gd (λy (hy:y∈kids)=>(⟨hA y hy,(Nds.fits_iff _).1 hS y.nd (by rw[Je];exact Yc hy),(by
  have:=Zcf (x:=y.nd) (l:=Nc.nds kids) (by rw[Je];exact Yc hy);omega)⟩:RdN w y/\y.nd.fits N/\y.nd.ht<=h))
 have hX:=gd ih;have hM:=gd hE;have h1:=gd hp;have hY:Hid (kids.length<=16777216):=gd om;simp only[cellsN];rw[nodeOk];clear ih gf hG hJ hT hA H hu hS hQ h7 gb gc he hH hE hp;have e1:decide (k=0)=((k:Int)==0):=by
  by_cases h0:k=0
  ·rw[h0];rfl
  ·rw[Yd h0];symm;rw[Zv];omega
 by_cases V:k=0;have q1:((k:Int) !=0)=false:=by rw[V];rfl
 rw[YG V,XL];by_cases hd:Z<=100;have q2:¬(100:Int)<(Z:Int):=om
 rw[YG hd,XL];cases hs:s.isEmpty;have q3:(str s).toList.isEmpty=false:=by rw[ZrD];exact hs
 rw[Yk,Yk,Yk,Yk];clear hs e1 V hc
 rotate_left
 have q3:(str s).toList.isEmpty=true:=by rw[ZrD];exact hs
 rw[XL];cases ht:t.isEmpty;have q4:(str t).toList.isEmpty=false:=by rw[ZrD];exact ht
 rw[Yk,Yk,Yk];clear ht hs e1 V hc
 rotate_left
 ·have q4:(str t).toList.isEmpty=true:=by rw[ZrD];exact ht
  rw[XL];have HQ:=hD;clear hD;cases hq:isQ n with
  |true=>
   rw[hq] at HQ;rw[XL];have HA:=hL;clear hL;cases ha:attrsOk l0 [] with
   |true=>
    rw[ha] at HA;rw[XL];obtain ⟨R,hR⟩:∃R,kidsOk Z false (Nc.nds kids)=R:=⟨_,rfl⟩;rw[hR];have HR:Hid (kidsOk Z false ((Nc.nds kids).drop 0)=R):=hR;clear hR ha hq ht hs e1 V hc;go_enter func125,ntmps125
    go_wp2_with (first|(go_at_call 175;refine Za (HQ.out _ (Ext.refl _)) ?_;rintro e w3 ⟨rfl,J⟩;obtain ⟨d0,d1,d2,d3,d4,d5,d6⟩:=(hi.out.ext J).cells)|(go_at_call 176;refine Za (HA.out _ J) ?_;rintro e w4 ⟨rfl,hg⟩;obtain ⟨e0,e1,e2,e3,e4,e5,e6⟩:=(hi.out.ext (J.trans hg)).cells))
    have h2:=gd (ho.out.trans (J.trans hg));clear d0 d1 d2 d3 d4 d5 d6 e0 e1 e2 e3 e4 e5 e6 b0 b1 b2 b3 b4 b5 b6 J hg;go_loopw [5,40] (λu v wr=>∃j:Nat,j<=kids.length/\v=nI j/\(∃dt:Bool,u= .bool dt/\Hid (kidsOk Z dt ((Nc.nds kids).drop j)=R))/\Ext w wr) (λ_ v _=>kids.length - (intOf v).toNat)
    case atStart=>exact ⟨0,Zj _,rfl,⟨false,rfl,HR⟩,h2.out⟩
    case round=>
     obtain ⟨j,hj,rfl,⟨dt,rfl,hr⟩,hw⟩:=hrel;by_cases hl:j<kids.length;obtain ⟨ad,c',hv,ha⟩:=(RNs.ext hZ.out hw).at hl;injection hv with hv1 hv2 hv3;subst hv1;clear hv2 hv3;have h6:=hY.out;have gk:(0:Int)<=(j:Int):=om;have go:(j:Int)<(kids.length:Int):=om;obtain ⟨hh,U,hK⟩:=HY.out kids[j] (ZL hl);have F:=hr.out;rw[Zhg hl] at F;obtain ⟨y,hW⟩:∃y,kids[j]=y:=⟨_,rfl⟩;rw[hW] at ha hh U hK F;have Y:=gd (λw' (hx:Ext w w') (h4:Z+1<=101)=>hX.out y (Z+1) w' hK U h4 (hM.out.ext hx) (h1.out.ext hx) (RdN.ext hx _ hh));obtain ⟨yk,ys,yn,gp,yl,gq,D,yt,ya⟩:=y;rw[RdN] at hh;obtain ⟨YA,yc,gg, -, -⟩:=hh.1.form;obtain ⟨YB,yd,gh, -, -⟩:=RNs.form hh.2.1;subst gg;subst gh;rw[Nc.nd] at U F Y;rw[Nd.fits] at U;simp only[cellsN] at Y;obtain ⟨a0,a1,a2,a3,a4,a5,a6⟩:=ha;simp only[Nc.kind,Nc.space,Nc.name,Nc.al,Nc.ks,Nc.text,Nc.at_] at a0 a1 a2 a3 a4 a5 a6;have hB:yk<=1:=U.1;have hC:yt.length<=16777216:=(by have:=U.2.2.2.2.2.2.1;omega);have gj:¬9223372036854775807<ys.length+yn.length:=(by have:=U.2.1;have:=U.2.2.1;omega);have gm:yl.length<=16777216:=(by have:=U.2.2.2.1;omega);have gl:D.length<=16777216:=(by have:=U.2.2.2.2.2.1;rw[Jw] at this;omega);have HC:=gd (λw' (hx:Ext w w')=>ZdJ (str yt) w' (hM.out.ext hx) (by rw[YN];exact hC));simp only[Z3] at HC;obtain ⟨W2,hf⟩:∃W2,wr.alloc (.cells #[nI (yk:Nat),.string (str ys),.string (str yn),.slice YA yl.length yc,.slice YB D.length yd,.string (str yt),nI (ya:Nat)] 25)=W2:=⟨_,rfl⟩;have hV:Ext wr W2:=(by rw[<-hf];exact (Ext.refl wr).alloc _);have hI:BxN W2 wr.heap.size yk ys yn (.slice YA yl.length yc) (.slice YB D.length yd) yt ya:=(by rw[<-hf];exact Zg wr _);obtain ⟨c0,c1,c2,c3,c4,c5,c6⟩:=hI.cells;have K:=gd hV;have hk:=gd hI;have Q:=gd hw;have hF:(Nc.nds D).isEmpty=D.isEmpty:=(by cases D<;>(rw[Nc.nds];rfl));clear hh U hK hV hI hw hr hC hW;by_cases hm:yk=1;rw[ZgY (x:=Nd.mk yk ys yn yl (Nc.nds D) yt ya) hm] at F;simp only[Nd.text,Nd.space,Nd.name,Nd.attrs,Nd.kids] at F;rw[hF] at F;have gi:((yk:Int)==1)=true:=(by rw[hm];rfl);clear hm Y hB hF;cases dt;cases hte:yt.isEmpty;have q5:(str yt).toList.isEmpty=false:=(by rw[ZrD];exact hte);rw[hte] at F;cases hch:charsOk yt;rw[hch] at F HC;have S:false=R:=(by rw[<-F];simp);subst S;clear F HR hte hch
     rotate_left
     rw[hch] at F HC;have hP:=Zkh (a:=ys) (b:=yn);cases hcb:(ys.isEmpty && yn.isEmpty);rw[hcb] at hP;have X:=F;simp only[Bool.not_false,XL] at X;have S:false=R:=(by rw[<-X];revert hcb;cases ys.isEmpty<;>cases yn.isEmpty<;>simp);subst S;clear F X HR hte hch hcb
     rotate_left
     ·rw[hcb] at hP;have X:=F;simp only[Bool.not_false,XL] at X;by_cases hz:yl.length+D.length=0
      ·have ge:¬(0:Int)<(yl.length:Int)+(D.length:Int):=om;have h8:yl= []:=Zm om;have h9:D= []:=Zm om;have HN:Hid (kidsOk Z true ((Nc.nds kids).drop (j+1))=R):=gd (by
        rw[<-X,h8,h9];revert hcb;cases ys.isEmpty<;>cases yn.isEmpty<;>simp)
       clear F X hte hch hcb h8 h9 hz
       go_wp2_with (first|(refine Zf rfl 25 (.tmp 7) (.tmp 43) rfl wr.heap.size _ rfl rfl _ _ (Zg _ _) ZJ rfl YU ?_;rw[Z0];rw[hf])|(go_at_call 177;refine Za (HC.out _ (Q.out.trans K.out)) ?_;rintro e w6 ⟨rfl,I⟩;obtain ⟨f0,f1,f2,f3,f4,f5,f6⟩:=(hk.out.ext I).cells))
       go_roundw
       case rel=>exact ⟨j+1,hl,by go_num,⟨true,rfl,HN⟩,(Q.out.trans K.out).trans I⟩
       case measure=>simp[intOf];omega
      ·have ge:(0:Int)<(yl.length:Int)+(D.length:Int):=om;have S:false=R:=by
        rw[<-X];have h8:(yl.isEmpty && D.isEmpty)=false:=by
         cases yl with
         |nil=>cases D with
          |nil=>exact absurd rfl hz
          |cons _ _=>rfl
         |cons _ _=>rfl
        revert hcb h8;cases ys.isEmpty<;>cases yn.isEmpty<;>cases yl.isEmpty<;>cases D.isEmpty<;>simp
       subst S;clear F X HR hte hch hcb hz
       go_wp2_with (first|(refine Zf rfl 25 (.tmp 7) (.tmp 43) rfl wr.heap.size _ rfl rfl _ _ (Zg _ _) ZJ rfl YU ?_;rw[Z0];rw[hf])|(go_at_call 177;refine Za (HC.out _ (Q.out.trans K.out)) ?_;rintro e w6 ⟨rfl,I⟩;obtain ⟨f0,f1,f2,f3,f4,f5,f6⟩:=(hk.out.ext I).cells))
       go_ret;exact ⟨rfl,(Q.out.trans K.out).trans I⟩
     ·have q5:(str yt).toList.isEmpty=true:=(by rw[ZrD];exact hte);rw[hte] at F;have S:false=R:=(by rw[<-F];simp);subst S;clear F HR hte;go_wp2;go_ret;exact ⟨rfl,Q.out.trans K.out⟩
     ·have S:false=R:=(by rw[<-F];simp);subst S;clear F HR;go_wp2;go_ret;exact ⟨rfl,Q.out.trans K.out⟩
     ·rw[ZgX (x:=Nd.mk yk ys yn yl (Nc.nds D) yt ya) hm] at F;have gi:((yk:Int)==1)=false:=(by rw[Zv];omega);have hn:=gd (λw' (hx:Ext w w')=>Y.out w' hx om);rw[Int.natCast_add] at hn;obtain ⟨vb,hU⟩:∃vb,nodeOk (Z+1) (Nd.mk yk ys yn yl (Nc.nds D) yt ya)=vb:=⟨_,rfl⟩;rw[hU] at hn F;clear hm Y hB hU HC hF;cases vb with
      |false=>
       have S:false=R:=(by rw[<-F];simp);subst S;clear F HR
       go_wp2_with (first|(refine Zf rfl 25 (.tmp 7) (.tmp 43) rfl wr.heap.size _ rfl rfl _ _ (Zg _ _) ZJ rfl YU ?_;rw[Z0];rw[hf])|(go_at_call 125;have hz:=hn.out W2 (Q.out.trans K.out);refine Za hz ?_;clear hz;rintro e w6 ⟨rfl,I⟩;obtain ⟨f0,f1,f2,f3,f4,f5,f6⟩:=(hk.out.ext I).cells))
       go_ret;exact ⟨rfl,(Q.out.trans K.out).trans I⟩
      |true=>
       have HN:Hid (kidsOk Z false ((Nc.nds kids).drop (j+1))=R):=gd F;clear F
       go_wp2_with (first|(refine Zf rfl 25 (.tmp 7) (.tmp 43) rfl wr.heap.size _ rfl rfl _ _ (Zg _ _) ZJ rfl YU ?_;rw[Z0];rw[hf])|(go_at_call 125;have hz:=hn.out W2 (Q.out.trans K.out);refine Za hz ?_;clear hz;rintro e w6 ⟨rfl,I⟩;obtain ⟨f0,f1,f2,f3,f4,f5,f6⟩:=(hk.out.ext I).cells))
       go_roundw
       case rel=>exact ⟨j+1,hl,by go_num,⟨false,rfl,HN⟩,(Q.out.trans K.out).trans I⟩
       case measure=>simp[intOf];omega
     ·have h5:j=kids.length:=om;have F:=hr.out;rw[ZC (by rw[Jw];omega),kidsOk] at F;subst F;subst h5;clear HR hr;go_wp2;go_ret;exact ⟨rfl,hw⟩
     all_goals
      go_wp2_with (first|(go_at_call 177;refine Za (HC.out _ (Q.out.trans K.out)) ?_;rintro e w6 ⟨rfl,I⟩;obtain ⟨f0,f1,f2,f3,f4,f5,f6⟩:=(hk.out.ext I).cells))
      go_ret
      exact ⟨rfl,(Q.out.trans K.out).trans I⟩
   |false=>
    rw[ha] at HA;rw[Yk];clear ha hq ht hs e1 V hc;go_enter func125,ntmps125
    go_wp2_with (first|(go_at_call 175;refine Za (HQ.out _ (Ext.refl _)) ?_;rintro e w3 ⟨rfl,J⟩;obtain ⟨d0,d1,d2,d3,d4,d5,d6⟩:=(hi.out.ext J).cells)|(go_at_call 176;refine Za (HA.out _ J) ?_;rintro e w4 ⟨rfl,hg⟩;obtain ⟨e0,e1,e2,e3,e4,e5,e6⟩:=(hi.out.ext (J.trans hg)).cells))
    go_ret;exact ⟨rfl,ho.out.trans (J.trans hg)⟩
  |false=>
   rw[hq] at HQ;rw[Yk,Yk];clear hq ht hs e1 V hc;go_enter func125,ntmps125
   go_wp2_with (first|(go_at_call 175;refine Za (HQ.out _ (Ext.refl _)) ?_;rintro e w3 ⟨rfl,J⟩;obtain ⟨d0,d1,d2,d3,d4,d5,d6⟩:=(hi.out.ext J).cells))
   go_ret;exact ⟨rfl,ho.out.trans J⟩
 have q2:(100:Int)<(Z:Int):=om
 rw[Yd hd];rw[Yk,Yk,Yk,Yk,Yk];clear e1 V hc hd
 rotate_left
 have q1:((k:Int) !=0)=true:=by rw[Xk];omega
 rw[Yd V];rw[Yk,Yk,Yk,Yk,Yk,Yk];clear e1 V hc
 all_goals
  go_enter func125,ntmps125
  go_wp2
  go_ret
  exact ⟨rfl,ho.out⟩
theorem ZfS (N:Nat) (X:N<=4000000) (x:Nc) (w:Wq) (U:x.nd.fits N) (V:Env w) (K:NmTabs w) (Q:RdN w x):
 Calls prog 81 #[.agg (cellsN x).toArray] w λe w'=>e= .returned (nI (if nodeOk 1 x.nd then 0 else 22))/\Ext w w':=by
 have J:=λw' (F:Ext w w')=>Zl8 N X x.nd.ht x 1 w' (Zc _) U om (V.ext F) (K.ext F) (RdN.ext F _ Q);have R:=RdN.sl Q;obtain ⟨b,S⟩:∃b,nodeOk 1 x.nd=b:=⟨_,rfl⟩;rw[S] at J|-;clear S U Q;obtain ⟨k,s,n,al,l0,ks,kids,t,a⟩:=x;obtain ⟨⟨A,Y,c,h⟩,⟨B,Z,d,D⟩⟩:=R;simp only[Nc.al,Nc.ks] at h D;subst h;subst D;simp only[cellsN] at J|-;have H:=gd J;clear J;have I:=(Ext.refl w).alloc (.cells #[nI (k:Nat),.string (str s),.string (str n),.slice A Y c,.slice B Z d,.string (str t),nI (a:Nat)] 25);cases b
 rotate_left
 all_goals
  go_enter func81,ntmps81
  go_wp2_with (first|(go_at_call 125;refine Za (H.out _ I) ?_;rintro e w' ⟨rfl,F⟩))
  go_ret
  exact ⟨rfl,I.trans F⟩
end
section
variable {T:TypeId}
theorem Gd (hT:BT T) (B b:Nat) (bs:List Value) (s:ByteArray) (w:Wq) (h:Lib.IsBuilder T 5 B b bs w) (he:bs.length+s.size<=140737488355328) (hg:B<=w.heap.size):
 Calls prog 54 #[.pointer (some ⟨b,0,none⟩),.string s] w λe w'=>e= .returned (.tuple #[nI s.size,.nilIface])/\(Lib.BuilderAt T 5 B b (.pointer (some ⟨b,0,none⟩)) (bs++Lib.strCells s) w'/\Below B w w'/\KeepsT T w w'):=by
 obtain ⟨i0,hi,hb,hc,hd⟩:=YH G9;go_enter func54,ntmps54
 go_wp2_with (go_at_call 95;refine (UY hT B b bs _ h).mono ?_)
 rintro e w1 ⟨rfl,h1,K,V⟩;obtain ⟨hB,v,F,H,ha⟩:=h1;have c0:w1.cell? ⟨b,0,none⟩=some (.pointer (some ⟨b,0,none⟩)):=by rw[Zy F];rfl
 have c1:w1.cell? ⟨b,1,none⟩=some v:=by rw[Zy F];rfl
 go_wp2_with (at_builtin;refine Lib.wpList_append_own_string _ rfl _ _ 94 9 rfl B 5 i0 underlying94 underlying9 hi hb hc hd _ _ _ rfl H s rfl ?c3 ?c4 ?c5 ?_)
 case c3=>unfold maxLen;omega
 case c4=>omega
 case c5=>have:=K.size;omega
 intro v' w2 I A _;have Z:b<w1.heap.size:=by
  rcases Y9 b w1.heap.size with S|S
  ·exact S
  ·simp[Y3 S] at F
 have J:w2.heap[b]? =some (.cells #[.pointer (some ⟨b,0,none⟩),v] T (0,0)):=by rw[A.block b Z (λe=>ha e.symm)];exact F
 have d0:w2.cell? ⟨b,0,none⟩=some (.pointer (some ⟨b,0,none⟩)):=by rw[Zy J];rfl
 have d1:w2.cell? ⟨b,1,none⟩=some v:=by rw[Zy J];rfl
 have f1:w2.frozen? ⟨b,1,none⟩=false:=Z5 J 1;obtain ⟨ao,n',cap,rfl⟩:∃ao n' cap,v'= .slice ao n' cap:=by
  rcases I.2 with ⟨hv,_⟩|⟨g,cap,hf,hv,_⟩
  ·exact ⟨_,_,_,hv⟩
  ·exact ⟨_,_,_,hv⟩
 go_wp2
 go_ret2
 refine ⟨rfl,?_,?_,?_⟩
 ·exact Lib.BuilderAt.put (T:=T) (e:=5) hB J (bs':=bs++Lib.strCells s) (by simpa [Lib.strCells_length] using I) hT.ne
 ·exact (K.grown A (by have:=K.size;omega) (λk U=>(H.lt k U).1)).setCell (p:=⟨b,1,none⟩) hB _
 ·intro k cs t fr U Q R;have D:=V k cs t fr U Q R;have X:k≠b:=by rintro rfl;rw[F] at D;simp only[Y5,Obj.cells.injEq] at D;exact Q D.2.1.symm
  have Y:k<w1.heap.size:=(ZP.1 D).1;rw[Below.heap_setCell _ _ _ _ (λe=>X (by simpa using e))];rw[A.block k Y (λe=>Lib.ownBlock_ne H D R e.symm)];exact D
structure BKeep (B:Nat) (w w':Wq):Prop where
 below:Below B w w'
 keeps:KeepsT 96 w w'
theorem BKeep.trans {B:Nat} {a b c:Wq} (h:BKeep B a b) (A:BKeep B b c):BKeep B a c:=⟨h.below.trans A.below,λk cs t fr H D F=>A.keeps k cs t fr (h.keeps k cs t fr H D F) D F⟩
theorem BKeep.of_ext {B:Nat} {a b:Wq} (h:Ext a b) (A:B<=a.heap.size):BKeep B a b:=⟨XF h.below A,λk cs t fr D _ _=>h.heap D⟩
theorem BKeep.then_ext {B:Nat} {a b c:Wq} (h:BKeep B a b) (A:Ext b c) (D:B<=a.heap.size):BKeep B a c:=h.trans (BKeep.of_ext A (Zp D h.below.size))
theorem BKeep.ext {B:Nat} {z a b:Wq} (h:Ext z a) (A:BKeep B a b) (D:z.heap.size<=B):Ext z b:=h.then (XF A.below D)
theorem BKeep.size {B:Nat} {a b:Wq} (h:BKeep B a b) (A:B<=a.heap.size):B<=b.heap.size:=Zp A h.below.size
theorem bwS (B b:Nat) (l:List UInt8) (s:ByteArray) (w:Wq) (h:Lib.IsBuilder 96 5 B b (Lib.byteCells l) w) (A:l.length+s.size<=140737488355328) (D:B<=w.heap.size):
 Calls prog 54 #[.pointer (some ⟨b,0,none⟩),.string s] w λe w'=>e= .returned (.tuple #[nI s.size,.nilIface])/\Lib.IsBuilder 96 5 B b (Lib.byteCells (l++s.data.toList)) w'/\BKeep B w w':=
 (Gd Qe B b _ s w h (by rw[Lib.byteCells_length];exact A) D).mono λ_ _ ⟨F,H,I,J⟩=>⟨F,(by rw[Yl];exact Or.inr H),I,J⟩
theorem bwB (B b:Nat) (l:List UInt8) (c:UInt8) (w:Wq) (h:Lib.IsBuilder 96 5 B b (Lib.byteCells l) w) (A:l.length+1<=140737488355328) (D:B<=w.heap.size):
 Calls prog 62 #[.pointer (some ⟨b,0,none⟩),.int .u8 (c.toNat:Nat)] w λe w'=>e= .returned .nilIface/\Lib.IsBuilder 96 5 B b (Lib.byteCells (l++ [c])) w'/\BKeep B w w':=
 (UX Qe B b _ _ w h (by rw[Lib.byteCells_length];exact A) D).mono λ_ _ ⟨F,H,I,J⟩=>⟨F,(by rw[Yl];exact Or.inr H),I,J⟩
end
section
variable {j:Nat}
theorem KK:∀a b:List AtP,attrsW (a++b)=attrsW a++attrsW b
 | [],b=>rfl
 |x::t,b=>by
  show attrW x++attrsW (t++b)=(attrW x++attrsW t)++attrsW b
  rw[KK t b,Zt]
theorem Zf2 {l:List AtP} (h:j<l.length):attrsW (l.take (j+1))=attrsW (l.take j)++attrW l[j]:=by
 rw[Zr h,KK]
 congr 1
 show attrW _++ []=_;rw[ZV]
theorem Zkf (l:List AtP) (j:Nat):(attrsW (l.take j)).length<=(attrsW l).length:=by
 have h:attrsW l=attrsW (l.take j)++attrsW (l.drop j):=by rw[<-KK,Yz]
 rw[h,Zb];omega
theorem K6:∀a b:List Nd,nodesW (a++b)=nodesW a++nodesW b
 | [],b=>by rw[Z7,nodesW,Z7]
 |x::t,b=>by rw[ZX,nodesW,nodesW,K6 t b,Zt]
theorem Zhj {l:List Nc} (h:j<l.length):nodesW ((Nc.nds l).take (j+1))=nodesW ((Nc.nds l).take j)++nodeW l[j].nd:=by
 have A:j<(Nc.nds l).length:=by rw[Jw];exact h
 have e:(Nc.nds l)[j]=l[j].nd:=by simp only[Je,Xn]
 rw[Zr A,K6,e]
 congr 1
 rw[nodesW,nodesW,ZV]
theorem Zlz (l:List Nd) (j:Nat):(nodesW (l.take j)).length<=(nodesW l).length:=by
 have h:nodesW l=nodesW (l.take j)++nodesW (l.drop j):=by rw[<-K6,Yz]
 rw[h,Zb];omega
def AbX (w:Wq) (g:Nat) (x:AtP):Prop:=w.heap[g]? =some (.cells #[.string (str x.space),.string (str x.name),.string (str x.value),nI (x.at_:Nat)] 88 (0,0))
theorem AbX.ext {w w':Wq} {g:Nat} {x:AtP} (h:AbX w g x) (A:Ext w w'):AbX w' g x:=A.heap h
theorem AbX.cells {w:Wq} {g:Nat} {x:AtP} (h:AbX w g x):w.cell? ⟨g,0,none⟩=some (.string (str x.space))/\w.cell? ⟨g,1,none⟩=some (.string (str x.name))/\w.cell? ⟨g,2,none⟩=some (.string (str x.value))/\w.cell? ⟨g,3,none⟩=some (nI (x.at_:Nat)):=
 ⟨(Zy h _).trans rfl,(Zy h _).trans rfl,(Zy h _).trans rfl,(Zy h _).trans rfl⟩
def FnAt (w:Wq) (fb bb:Nat):Prop:=w.heap[fb]? =some (.cells #[.func (.func 82) #[] #[.pointer (some ⟨bb,0,none⟩),.pointer (some ⟨fb,0,none⟩)]] 133 (0,0))
theorem FnAt.cell {w:Wq} {fb bb:Nat} (h:FnAt w fb bb):w.cell? ⟨fb,0,none⟩=some (.func (.func 82) #[] #[.pointer (some ⟨bb,0,none⟩),.pointer (some ⟨fb,0,none⟩)]):=(Zy h _).trans rfl
section
variable {B:Nat} {w w':World}
theorem BKeep.fn {fb bb:Nat} (h:BKeep B w w') (A:FnAt w fb bb):FnAt w' fb bb:=h.keeps _ _ _ _ A (by decide) (by decide)
theorem BKeep.box {g k:Nat} {s n t:List UInt8} {al ks:Value} {a:Nat} (h:BKeep B w w') (A:BxN w g k s n al ks t a):BxN w' g k s n al ks t a:=h.keeps _ _ _ _ A (by decide) (by decide)
end
theorem Zmf (N:Nat) (hN:N<=4000000):∀(h:Nat) (x:Nc) (z w:Wq) (B bb fb:Nat) (l:List UInt8),x.nd.ht<=h->x.nd.fits N->RdN z x->Ext z w->z.heap.size<=B->B<=w.heap.size->FnAt w fb bb->
 Lib.IsBuilder 96 5 B bb (Lib.byteCells (l)) w->l.length+(nodeW x.nd).length<=140737488355328->
 Calls prog 82 #[.agg (cellsN x).toArray,.pointer (some ⟨bb,0,none⟩),.pointer (some ⟨fb,0,none⟩)] w λe w'=>e= .returned (.tuple #[])/\Lib.IsBuilder 96 5 B bb (Lib.byteCells (l++nodeW x.nd)) w'/\BKeep B w w':=by
 intro h
 induction h with
 |zero=>intro x z w B bb fb l hC;exact absurd (ZiO x.nd) om
 |succ h ih=>
 intro x z w B bb fb l hC I hr gu gt hg hB hb D;obtain ⟨k,s,n,al,l0,ks,kids,t,a⟩:=x;rw[RdN] at hr;obtain ⟨hX,h2,gk⟩:=hr;have hJ:=(XC kids).1 gk;rw[Nc.nd] at hC I D|-;rw[Nd.ht] at hC;rw[Nd.fits] at I;have gi:=I.2.2.2.2.2.2.2.2;have gh:=I.2.2.2.2.1;have X:kids.length<=N:=by have:=I.2.2.2.2.2.1;rwa [Jw] at this
 have g0:l0.length<=N:=I.2.2.2.1;have fa:n.length<=N:=I.2.2.1;have hh:k<=1:=I.1;have h3:t.length<=16777216:=by have:=I.2.2.2.2.2.2.1;omega
 obtain ⟨A,c,gS, -, -⟩:=hX.form;obtain ⟨B0,d,gY, -, -⟩:=RNs.form h2;subst gS;subst gY;obtain ⟨W0,gf⟩:∃W0,w.alloc (.cells #[nI (k:Nat),.string (str s),.string (str n),.slice A l0.length c,.slice B0 kids.length d,.string (str t),nI (a:Nat)] 25)=W0:=⟨_,rfl⟩;have he:Ext w W0:=by rw[<-gf];exact (Ext.refl w).alloc _
 have hY:BxN W0 w.heap.size k s n (.slice A l0.length c) (.slice B0 kids.length d) t a:=by rw[<-gf];exact Zg w _
 obtain ⟨b0,b1,b2,b3,b4,b5,b6⟩:=hY.cells;have g7:=gd he;have hs:=gd hY;have h6:=gd (Xd hb he);have gG:=gd (show FnAt W0 fb bb from he.heap hB);have hl:=gd (gu.trans he);have hw:=gd gt;have S:=gd (Zp hg he.size);have gE:=gd hg;have hO:=gd (BKeep.of_ext he hg);have gy:=gd hX;have gN:=gd (show RNs z (.slice B0 kids.length d) kids from h2);have HY:=gd (λy (hy:y∈kids)=>(⟨hJ y hy,(Nds.fits_iff _).1 gi y.nd (by rw[Je];exact Yc hy),(by
  have:=Zcf (x:=y.nd) (l:=Nc.nds kids) (by rw[Je];exact Yc hy);omega)⟩:RdN z y/\y.nd.fits N/\y.nd.ht<=h))
 have gI:=gd ih;have gM:Hid (kids.length<=16777216):=gd om;have gO:Hid (l0.length<=16777216):=gd om;have gF:Hid (∀b∈l0,b.name.length<=16777216/\b.value.length<=16777216):=gd (λb hb=>by have:=gh b hb;unfold AtP.fits at this;omega);simp only[cellsN];clear ih hX h2 gk hJ I hC gi gh X g0 he hY gu gt hg hB hb;by_cases hp:k=1
 ·rw[nodeW,Zi hp] at D|-;have q1:((k:Int)==1)=true:=by rw[hp];rfl
  have HT:=gd (λw'=>Zie (str t) w' (by rw[YN];exact h3));simp only[Z3] at HT;have hf:=gd D;clear hp hh D h3;go_enter func82,ntmps82
  go_wp2_with (first|(go_at_call 83;refine Za (HT.out _) ?_;rintro e w2 ⟨rfl,J⟩)|(go_at_call 54;refine Za (bwS B bb l _ _ (Xd h6.out J) (by rw[YN];exact hf.out) (Zp S.out J.size)) ?_;rintro e w3 ⟨rfl,gc,gW⟩))
  refine ZD (results_none rfl _ _ _) rfl ?_;rw[Z3] at gc;exact ⟨rfl,gc,(hO.out.then_ext J gE.out).trans gW⟩
 ·rw[nodeW,Ze hp] at D|-;have q1:((k:Int)==1)=false:=by rw[Zv];omega
  obtain ⟨R,hR⟩:∃R,[60]++n++attrsW l0++(if (Nc.nds kids).isEmpty then [47,62] else [62]++nodesW (Nc.nds kids)++ [60,47]++n++ [62])=R:=⟨_,rfl⟩;rw[hR] at D|-;have ge:1+n.length+(attrsW l0).length<=R.length:=by rw[<-hR];simp only[Zb,Zd,ZK];omega
  have HR:=gd hR;have gP:=gd ge;have hf:=gd D;have g4:¬9223372036854775807<1+n.length:=om
  have g5:¬9223372036854775807<2+n.length:=om
  have g6:¬9223372036854775807<2+n.length+1:=om
  clear hp hh h3 hR;go_enter func82,ntmps82;have gl:l.length+((⟨#[60]⟩:ByteArray)++str n).size<=140737488355328:=by simp only[Zdf,YN];show l.length+(1+n.length)<=_;omega
  go_wp2_with (go_at_call 54;refine Za (bwS B bb l _ W0 h6.out gl S.out) ?_;rintro e w1 ⟨rfl,hU,hh⟩;obtain ⟨d0,d1,d2,d3,d4,d5,d6⟩:=(BKeep.box hh hs.out).cells)
  simp only[JS,Z3] at hU;have gA:=gd (show Lib.IsBuilder 96 5 B bb (Lib.byteCells (l++([60]++n))) w1 from hU);have gJ:=gd hh;clear hU hh D gl ge b0 b1 b2 b3 b4 b5 b6;go_loopw [22] (λv wr=>∃j:Nat,j<=l0.length/\v=nI j/\Lib.IsBuilder 96 5 B bb (Lib.byteCells (l++([60]++n)++attrsW (l0.take j))) wr/\BKeep B W0 wr) (λv _=>l0.length - (intOf v).toNat)
  case atStart=>exact ⟨0,Zj _,rfl,(by rw[List.take_zero];show Lib.IsBuilder 96 5 B bb (Lib.byteCells (l++([60]++n)++ [])) w1;rw[ZV];exact gA.out),gJ.out⟩
  case round=>
   obtain ⟨j,hj,rfl,Q,H⟩:=hrel;by_cases U:j<l0.length
   ·obtain ⟨ad,c',hv,hm⟩:=(RAts.ext gy.out (BKeep.ext hl.out H hw.out)).at U;injection hv with hv1 hv2 hv3;subst hv1;clear hv2 hv3;have D:=hf.out;have hd:=Zkf l0 (j+1);have F:=Zf2 U;rw[F,Zb] at hd;have V:=gF.out _ (ZL U);obtain ⟨x,gp⟩:∃x,l0[j]=x:=⟨_,rfl⟩;rw[gp] at hm hd F V;obtain ⟨a0,a1,a2,a3⟩:=hm;have ho:=BKeep.size H S.out;obtain ⟨W2,hc⟩:∃W2,wr.alloc (.cells #[.string (str x.space),.string (str x.name),.string (str x.value),nI (x.at_:Nat)] 88)=W2:=⟨_,rfl⟩;have J:Ext wr W2:=(by rw[<-hc];exact (Ext.refl wr).alloc _);have gR:AbX W2 wr.heap.size x:=(by rw[<-hc];exact Zg wr _);have gb:=gd J;have gx:=gd gR;have hT:=gd (λw'=>Zid (str x.value) w' (by rw[YN];exact V.2));simp only[Z3] at hT;have go:=Zaq true x.value;have gT:(attrW x).length=1+x.name.length+2+(wescL true x.value).length+1:=(by unfold attrW;simp only[Zb,Zd,ZK]);have hQ:=gd F;have gD:=gd (Xd Q J);have hk:=gd H;have gm:(l++([60]++n)++attrsW (l0.take j)).length+(1+x.name.length+2+(wescL true x.value).length+1)<=140737488355328:=(by have fc:=gP.out;simp only[Zb,Zd,ZK] at D|-;omega);have h9:=gd gm;obtain ⟨E,hE⟩:∃E,wescL true x.value=E:=⟨_,rfl⟩;have gg: [32]++x.name++ [61,34]++E++ [34]=attrW x:=(by rw[<-hE];rfl);have gz:=gd gg;rw[hE] at hT go h9;have o1:¬9223372036854775807<1+x.name.length:=(by have:=V.1;omega);have o2:¬9223372036854775807<1+x.name.length+2:=(by have:=V.1;omega);have o3:¬9223372036854775807<1+x.name.length+2+E.length:=(by have:=V.1;have:=V.2;omega);have o4:¬9223372036854775807<1+x.name.length+2+E.length+1:=(by have:=V.1;have:=V.2;omega);have hi:=gd ho;have gU:(0:Int)<=(j:Int):=om;have gV:(j:Int)<(l0.length:Int):=om;have g9:l0.length<=16777216:=gO.out;clear hd F V gp D gT go gg hE Q H ho gm
    go_wp2_with (first|(refine Zf rfl 88 (.tmp 5) (.tmp 25) rfl wr.heap.size _ rfl rfl _ _ (Zg _ _) size_attr rfl YU ?_;rw[Z0];rw[hc]))
    refine rN ?_;change wpAny _ _ _ _ _ _ _ (World.drew _);have hG:=(Ext.refl W2).drew;have Z:=gx.out.ext hG;refine YD (λw'=>AbX w' wr.heap.size x) ?_;refine tG 0 (.pointer (some ⟨wr.heap.size,1,none⟩)) Z ?_;refine tS 1 (.string (str x.name)) rfl (λw' hS=>by obtain ⟨q0,q1,q2,q3⟩:=AbX.cells hS;go_simp) Z ?_;refine tG 2 (.string (⟨#[32]⟩++str x.name)) Z ?_;refine tG 3 (.string (⟨#[32]⟩++str x.name++⟨#[61,34]⟩)) Z ?_;refine tG 4 (.pointer (some ⟨wr.heap.size,2,none⟩)) Z ?_;refine tS 5 (.string (str x.value)) rfl (λw' hS=>by obtain ⟨q0,q1,q2,q3⟩:=AbX.cells hS;go_simp) Z ?_;go_simp;refine sS 6 λK hK=> ?_;go_simp;go_at_call 84;have hz:=hT.out W2.drew
    with_reducible refine Za hz ?_
    clear hz;rintro e w3 ⟨rfl,hF⟩;have hx:=Z.ext hF;refine hK _ _ hx ?_;clear hK K;refine sS 7 λK hK=> ?_;go_simp;refine hK _ _ hx ?_;clear hK K;refine sS 8 λK hK=> ?_;go_simp;refine hK _ _ hx ?_;clear hK K;refine sS 9 λK hK=> ?_;go_simp;go_at_call 54;refine Za (bwS B bb (l++([60]++n)++attrsW (l0.take j)) _ w3 (Xd gD.out (hG.trans hF)) (by simp only[Zdf,YN];exact h9.out) (Zp hi.out (gb.out.trans (hG.trans hF)).size)) ?_;rintro e w4 ⟨rfl,hV,gj⟩;simp only[JS,Z3] at hV;have Y:Lib.IsBuilder 96 5 B bb (Lib.byteCells (l++([60]++n)++attrsW (l0.take (j+1)))) w4:=(by rw[hQ.out,<-gz.out,<-Zt (l++([60]++n)) (attrsW (l0.take j))];exact hV);have hL:=gd Y;have hM:=gd (hk.out.trans ((BKeep.of_ext (gb.out.trans (hG.trans hF)) hi.out).trans gj));refine hK _ _ (gj.keeps _ _ _ _ hx (by decide) (by decide)) ?_;clear hK K hV Y;refine sE ?_;go_wp2;go_roundw
    case rel=>exact ⟨j+1,U,by go_num,hL.out,hM.out⟩
    case measure=>simp[intOf];omega
   ·have h0:j=l0.length:=om;subst h0;rw[List.take_length] at Q;have hn:=BKeep.box H hs.out;obtain ⟨b0,b1,b2,b3,b4,b5,b6⟩:=hn.cells;have ho:=BKeep.size H S.out;have D:=hf.out;obtain ⟨wP,g1⟩:∃wP:Wq,wP=wr:=⟨_,rfl⟩;subst g1;have hk:=gd H;have hi:=gd ho;clear U hj H ho hn;cases hke:kids.isEmpty with
    |true=>
     have X:kids= []:=U0.1 hke;have ha:R= [60]++n++attrsW l0++ [47,62]:=(by rw[<-HR.out,X,Nc.nds];rfl);have q2:((kids.length:Int)==0)=true:=(by rw[X];rfl);have hD:(l++([60]++n)++attrsW l0).length+(⟨#[47,62]⟩:ByteArray).size<=140737488355328:=(by rw[ha] at D;show _+2<=_;simp only[Zb,Zd,ZK] at D|-;omega);have hP:=gd ha;clear hke X ha D
     go_wp2_with (go_at_call 54;refine Za (bwS B bb (l++([60]++n)++attrsW l0) _ wP Q hD hi.out) ?_;rintro e w5 ⟨rfl,Y,hq⟩)
     refine ZD (results_none rfl _ _ _) rfl ?_;refine ⟨rfl,?_,(hO.out.trans hk.out).trans hq⟩;rw[hP.out];simp only[Zt] at Y|-;exact Y
    |false=>
     have X:kids≠ []:=λe=>(by rw[e] at hke;cases hke);have ha:R= [60]++n++attrsW l0++([62]++nodesW (Nc.nds kids)++ [60,47]++n++ [62]):=by
      rw[<-HR.out];cases kids with
      |nil=>exact absurd rfl X
      |cons y ys=>rw[Nc.nds];rfl
     have q2:((kids.length:Int)==0)=false:=(by rw[Zv];have:=Xt.2 X;omega);have hu:Hid ((l++([60]++n)++attrsW l0).length+1+(nodesW (Nc.nds kids)).length+2+n.length+1<=140737488355328):=gd (by
      rw[ha] at D;simp only[Zb,Zd,ZK] at D|-;omega)
     have hP:=gd ha;obtain ⟨L1,hW⟩:∃L1,l++([60]++n)++attrsW l0=L1:=⟨_,rfl⟩;rw[hW] at Q hu;have ga:=gd hW;have hD:L1.length+1<=140737488355328:=(by have:=hu.out;omega);clear hke X ha D hW
     go_wp2_with (go_at_call 62;refine Za (bwB B bb L1 62 wP Q hD hi.out) ?_;rintro e w5 ⟨rfl,Y,hq⟩;obtain ⟨d0,d1,d2,d3,d4,d5,d6⟩:=(BKeep.box (hk.out.trans hq) hs.out).cells)
     have hM:=gd (hk.out.trans hq);have hL:=gd Y;clear b0 b1 b2 b3 b4 b5 b6 Y hq hD Q;go_loopw [46] (λv wr=>∃j:Nat,j<=kids.length/\v=nI j/\Lib.IsBuilder 96 5 B bb (Lib.byteCells (L1++ [62]++nodesW ((Nc.nds kids).take j))) wr/\BKeep B W0 wr) (λv _=>kids.length - (intOf v).toNat)
     case atStart=>exact ⟨0,Zj _,rfl,(by rw[List.take_zero,nodesW,ZV];exact hL.out),hM.out⟩
     case round=>
      obtain ⟨j,hj,rfl,Q,H⟩:=hrel;by_cases U:j<kids.length
      ·obtain ⟨ad,c',hv,hm⟩:=(RNs.ext gN.out (BKeep.ext hl.out H hw.out)).at U;injection hv with hv1 hv2 hv3;subst hv1;clear hv2 hv3;have gX:=gM.out;have gU:(0:Int)<=(j:Int):=om;have gV:(j:Int)<(kids.length:Int):=om;obtain ⟨hH,h4,h5⟩:=HY.out kids[j] (ZL U);have F:=Zhj U;have hd:=Zlz (Nc.nds kids) (j+1);rw[F,Zb] at hd;obtain ⟨y,gs⟩:∃y,kids[j]=y:=⟨_,rfl⟩;rw[gs] at hm hH h4 h5 F hd;have gn:(L1++ [62]++nodesW ((Nc.nds kids).take j)).length+(nodeW y.nd).length<=140737488355328:=(by have:=hu.out;simp only[Zb,Zd,ZK];omega);have hI:=gd (λ(w':Wq) (hz:Ext z w') (hg:B<=w'.heap.size) (hB:FnAt w' fb bb) (hb:Lib.IsBuilder 96 5 B bb (Lib.byteCells (L1++ [62]++nodesW ((Nc.nds kids).take j))) w')=>gI.out y z w' B bb fb _ h5 h4 hH hz hw.out hg hB hb gn);have hQ:=gd F;have g2:=RdN.sl hH;obtain ⟨yk,ys,yn,fd,yl,fe,g3,yt,ya⟩:=y;obtain ⟨⟨YA,ym,yc,gq⟩,⟨YB,gw,yd,gr⟩⟩:=g2;simp only[Nc.al,Nc.ks] at gq gr;subst gq;subst gr;simp only[cellsN] at hI;obtain ⟨a0,a1,a2,a3,a4,a5,a6⟩:=hm;simp only[Nc.kind,Nc.space,Nc.name,Nc.al,Nc.ks,Nc.text,Nc.at_] at a0 a1 a2 a3 a4 a5 a6;obtain ⟨W2,hc⟩:∃W2,wr.alloc (.cells #[nI (yk:Nat),.string (str ys),.string (str yn),.slice YA ym yc,.slice YB gw yd,.string (str yt),nI (ya:Nat)] 25)=W2:=⟨_,rfl⟩;have J:Ext wr W2:=(by rw[<-hc];exact (Ext.refl wr).alloc _);have hn:BxN W2 wr.heap.size yk ys yn (.slice YA ym yc) (.slice YB gw yd) yt ya:=(by rw[<-hc];exact Zg wr _);obtain ⟨c0,c1,c2,c3,c4,c5,c6⟩:=hn.cells;have hZ:FnAt W2 fb bb:=J.heap (BKeep.fn H gG.out);have g8:=hZ.cell;have gH:=gd hZ;clear hZ;have h7:=gd (Zp (BKeep.size H S.out) J.size);have gC:=gd (Xd Q J);have gQ:=gd ((BKeep.ext hl.out H hw.out).trans J);have gK:=gd (H.then_ext J S.out);clear hH h4 h5 F hd gs gn hn J Q H d0 d1 d2 d3 d4 d5 d6
       go_wp2_with (first|(refine Zf rfl 25 (.tmp 7) (.tmp 49) rfl wr.heap.size _ rfl rfl _ _ (Zg _ _) ZJ rfl YU ?_;rw[Z0];rw[hc])|(go_at_call 82;refine Za (hI.out W2 gQ.out h7.out gH.out gC.out) ?_;rintro e w6 ⟨rfl,hA,h1⟩))
       have gB:=gd (show Lib.IsBuilder 96 5 B bb (Lib.byteCells (L1++ [62]++nodesW ((Nc.nds kids).take (j+1)))) w6 by rw[hQ.out,<-Zt (L1++ [62])];exact hA);have gL:=gd (gK.out.trans h1);go_roundw
       case rel=>exact ⟨j+1,U,by go_num,gB.out,gL.out⟩
       case measure=>simp[intOf];omega
      ·have h0:j=kids.length:=om;subst h0;rw[ZQ (by rw[Jw];exact Zc _)] at Q;obtain ⟨b0,b1,b2,b3,b4,b5,b6⟩:=(BKeep.box H hs.out).cells;have gZ:(L1++ [62]++nodesW (Nc.nds kids)).length+((⟨#[60,47]⟩:ByteArray)++str n++(⟨#[62]⟩:ByteArray)).size<=140737488355328:=(by have:=hu.out;simp only[Zdf,YN,Zb,Zd,ZK] at this|-;show _+(2+n.length+1)<=_;omega);have h8:=gd (BKeep.size H S.out);clear U hj d0 d1 d2 d3 d4 d5 d6
       go_wp2_with (go_at_call 54;refine Za (bwS B bb (L1++ [62]++nodesW (Nc.nds kids)) _ wr Q gZ h8.out) ?_;rintro e w6 ⟨rfl,hA,h1⟩)
       go_end0;simp only[JS,Z3] at hA;refine ⟨rfl,?_,(hO.out.trans H).trans h1⟩;rw[hP.out];have e2:l++([60]++n++attrsW l0++([62]++nodesW (Nc.nds kids)++ [60,47]++n++ [62]))=L1++ [62]++nodesW (Nc.nds kids)++([60,47]++n++ [62]):=(by rw[<-ga.out];simp only[Zt]);rw[e2];exact hA
end
end Go.Proofs.YtnlafkgkcnenfaaGreatDoor
