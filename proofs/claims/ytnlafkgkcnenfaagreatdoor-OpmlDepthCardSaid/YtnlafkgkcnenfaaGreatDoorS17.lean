/- Parts of the proof: contracts and plain laws. -/
import Derived.Test.YtnlafkgkcnenfaaGreatDoorS16
namespace Go.Proofs.YtnlafkgkcnenfaaGreatDoor
open Go Go.RowKit Go.Joins Go.WideMaps Go.Maps Tryz
set_option linter.unusedVariables false
set_option linter.unusedSimpArgs false
set_option maxRecDepth 100000
set_option maxHeartbeats 16000000
section
variable {j r:Nat} {w w':World}
def startL:List (Nat×Nat):= [(65,90),(95,95),(97,122),(192,214),(216,246),(248,767),(880,893),(895,8191),(8204,8205),(8304,8591),(11264,12271),(12289,55295),(63744,64975),(65008,65533),(65536,983039)]
def moreL:List (Nat×Nat):= [(45,46),(48,57),(183,183),(768,879),(8255,8256)]
def pairCells (l:List (Nat×Nat)):Array Value:=(l.flatMap λp=> [Value.int .i32 (p.1:Nat),Value.int .i32 (p.2:Nat)]).toArray
def inL (l:List (Nat×Nat)) (r:Nat):Bool:=l.any λp=>decide (p.1<=r) && decide (r<=p.2)
theorem Zf4 {l:List (Nat×Nat)} (A:j<l.length) (h:l[j].1<=r) (q:r<=l[j].2):inL (l.drop j) r=true:=by
 unfold inL;rw[Zi A,List.any_cons,YQ h,YQ q];rfl
theorem ZdH {l:List (Nat×Nat)} (q:j<l.length) (h:¬(l[j].1<=r/\r<=l[j].2)):inL (l.drop j) r=inL (l.drop (j+1)) r:=by
 unfold inL;rw[Zi q,List.any_cons];have:(decide (l[j].1<=r) && decide (r<=l[j].2))=false:=by rw[Bool.and_eq_false_iff,Jj,Jj];omega
 rw[this,Bool.false_or]
theorem ZgY (r:Nat):inL startL r=nmStart r:=by
 unfold inL startL nmStart;simp only[List.any_cons,List.any_nil,Bool.or_false];rw[Y0];simp only[Bool.or_eq_true,ZZ,Yb];omega
theorem Ziv (r:Nat):(inL moreL r||nmStart r)=nmChar r:=by
 unfold nmChar;rw[Bool.or_comm]
 congr 1
 unfold inL moreL;simp only[List.any_cons,List.any_nil,Bool.or_false];rw[Y0];simp only[Bool.or_eq_true,ZZ,Yb];omega
structure NmTabs (w:Wq):Prop where
 start:∃t fr,w.heap[2]? =some (.cells (pairCells startL) t fr)
 more:∃t fr,w.heap[1]? =some (.cells (pairCells moreL) t fr)
theorem NmTabs.ext (h:NmTabs w) (A:Ext w w'):NmTabs w':=by
 obtain ⟨⟨t,fr,D⟩,⟨H,q,F⟩⟩:=h;exact ⟨⟨t,fr,A.heap D⟩,⟨H,q,A.heap F⟩⟩
theorem UI:(prog.info? 284).map (·.size)=some 2:=by kernel_rfl
theorem Zew:∀(j:Nat) (h:j<startL.length) (w:Wq),(Instr.index 286 (.agg (pairCells startL)) (nI (j:Nat))).run prog w= .ok (.agg #[.int .i32 (startL[j].1:Nat),.int .i32 (startL[j].2:Nat)]) w
 |0,_,w=>by kernel_rfl
 |1,_,w=>by kernel_rfl
 |2,_,w=>by kernel_rfl
 |3,_,w=>by kernel_rfl
 |4,_,w=>by kernel_rfl
 |5,_,w=>by kernel_rfl
 |6,_,w=>by kernel_rfl
 |7,_,w=>by kernel_rfl
 |8,_,w=>by kernel_rfl
 |9,_,w=>by kernel_rfl
 |10,_,w=>by kernel_rfl
 |11,_,w=>by kernel_rfl
 |12,_,w=>by kernel_rfl
 |13,_,w=>by kernel_rfl
 |14,_,w=>by kernel_rfl
 |j+15,h,w=>absurd h (by show ¬j+15<15;omega)
theorem Zfs:∀(j:Nat) (h:j<moreL.length) (w:Wq),(Instr.index 285 (.agg (pairCells moreL)) (nI (j:Nat))).run prog w= .ok (.agg #[.int .i32 (moreL[j].1:Nat),.int .i32 (moreL[j].2:Nat)]) w
 |0,_,w=>by kernel_rfl
 |1,_,w=>by kernel_rfl
 |2,_,w=>by kernel_rfl
 |3,_,w=>by kernel_rfl
 |4,_,w=>by kernel_rfl
 |j+5,h,w=>absurd h (by show ¬j+5<5;omega)
theorem Ge (r:Nat) (w:Wq) (hN:NmTabs w) (hr:r<=1114111):
 Calls prog 231 #[.int .i32 (r:Nat)] w λe w'=>e= .returned (.bool (nmStart r))/\Ext w w':=by
 obtain ⟨t,fr,hg⟩:=hN.start;have I:startL.length=15:=rfl;have K:=gd Zew;have A:(prog.info? 286).map (·.size)=some (pairCells startL).size:=by kernel_rfl
 rw[<-ZgY];obtain ⟨L,hL⟩:∃L,startL=L:=⟨_,rfl⟩;rw[hL] at hg I K A|-;obtain ⟨CS,V⟩:∃CS,pairCells L=CS:=⟨_,rfl⟩;rw[V] at hg K A;obtain ⟨R,h⟩:∃R,inL L r=R:=⟨_,rfl⟩;rw[h];have HR:Hid (inL (L.drop 0) r=R):=h;have U:=gd I;clear hL V h I;go_enter func231,ntmps231
 go_wp2_with (refine wpList_load_row rfl 286 _ rfl 2 rfl t _ fr _ hg underlying286 rfl A ?_)
 go_loopw [6] (λv wr=>∃j:Nat,j<=15/\v=nI j/\Hid (inL (L.drop j) r=R)/\Ext w wr) (λv _=>15 - (intOf v).toNat)
 case atStart=>exact ⟨0,Zk _,rfl,HR,Ext.refl _⟩
 case round=>
  obtain ⟨j,hj,rfl,q,hx⟩:=hrel;by_cases Q:j<15
  ·have M:j<L.length:=(by rw[U.out];exact Q);have hc:=K.out j M;have he:(j:Int)<15:=(by omega);have HH:=gd (Zf4 (r:=r) M);have HM:=gd (ZdH (r:=r) M);obtain ⟨D,Y⟩:∃D,L[j].1=D:=⟨_,rfl⟩;obtain ⟨F,X⟩:∃F,L[j].2=F:=⟨_,rfl⟩;rw[Y,X] at hc HH HM;clear Y X;obtain ⟨S,H⟩:∃S,wr.alloc (.cells #[.int .i32 (D:Nat),.int .i32 (F:Nat)] 284)=S:=⟨_,rfl⟩;have hb:S.heap[wr.heap.size]? =some (.cells #[.int .i32 (D:Nat),.int .i32 (F:Nat)] 284):=(by rw[<-H];exact Zg wr _);have Z:Ext wr S:=(by rw[<-H];exact (Ext.refl wr).alloc _);have c0:S.cell? ⟨wr.heap.size,0,none⟩=some (.int .i32 (D:Nat)):=(by rw[Xc _ _ _ _ _ _ hb];rfl);have c1:S.cell? ⟨wr.heap.size,1,none⟩=some (.int .i32 (F:Nat)):=(by rw[Xc _ _ _ _ _ _ hb];rfl);have HX:=gd (hx.trans Z);have J:(#[Value.int .i32 (D:Nat),.int .i32 (F:Nat)]).all (λu=>u.oneCell')=true:=(by simp[Value.oneCell']);clear hb hx Z;by_cases h1:D<=r
   ·by_cases h2:r<=F
    ·have h:=q.out;rw[HH.out h1 h2] at h;subst h;have q1:(D:Int)<=(r:Int):=(by omega);have q2:(r:Int)<=(F:Int):=(by omega);clear h1 h2 q HR
     go_wp2_with (refine Zd rfl 284 (.tmp 4) (.tmp 8) rfl wr.heap.size #[.int .i32 (D:Nat),.int .i32 (F:Nat)] rfl rfl _ _ (Zg _ _) UI rfl J ?_;rw[ZW];rw[H])
     go_ret;exact ⟨rfl,HX.out⟩
    ·have h:=q.out;rw[HM.out (by omega)] at h;have HN:=gd h;have q1:(D:Int)<=(r:Int):=(by omega);have q2:¬(r:Int)<=(F:Int):=(by omega);clear h1 h2 q h
     go_wp2_with (refine Zd rfl 284 (.tmp 4) (.tmp 8) rfl wr.heap.size #[.int .i32 (D:Nat),.int .i32 (F:Nat)] rfl rfl _ _ (Zg _ _) UI rfl J ?_;rw[ZW];rw[H])
     go_roundw
     case rel=>exact ⟨j+1,Q,by go_num,HN,HX.out⟩
     case measure=>simp[intOf];omega
   ·have h:=q.out;rw[HM.out (by omega)] at h;have HN:=gd h;have q1:¬(D:Int)<=(r:Int):=(by omega);clear h1 q h
    go_wp2_with (refine Zd rfl 284 (.tmp 4) (.tmp 8) rfl wr.heap.size #[.int .i32 (D:Nat),.int .i32 (F:Nat)] rfl rfl _ _ (Zg _ _) UI rfl J ?_;rw[ZW];rw[H])
    go_roundw
    case rel=>exact ⟨j+1,Q,by go_num,HN,HX.out⟩
    case measure=>simp[intOf];omega
  ·have hd:j=15:=(by omega);have h:=q.out;rw[ZC (by rw[U.out];omega)] at h;have ha:false=R:=h;subst ha;subst hd;clear q h HR;go_wp2;go_ret;exact ⟨rfl,hx⟩
theorem Zcl (r:Nat) (w:Wq) (hN:NmTabs w) (hr:r<=1114111):
 Calls prog 230 #[.int .i32 (r:Nat)] w λe w'=>e= .returned (.bool (nmChar r))/\Ext w w':=by
 obtain ⟨t,fr,hg⟩:=hN.more;have I:moreL.length=5:=rfl;have K:=gd Zfs;have A:(prog.info? 285).map (·.size)=some (pairCells moreL).size:=by kernel_rfl
 have X:=gd (λw' (U:Ext w w')=>Ge r w' (hN.ext U) hr);rw[<-Ziv];obtain ⟨L,hL⟩:∃L,moreL=L:=⟨_,rfl⟩;rw[hL] at hg I K A|-;obtain ⟨NS,hd⟩:∃NS,nmStart r=NS:=⟨_,rfl⟩;rw[hd] at X|-;obtain ⟨CS,Y⟩:∃CS,pairCells L=CS:=⟨_,rfl⟩;rw[Y] at hg K A;obtain ⟨R,h⟩:∃R,inL L r=R:=⟨_,rfl⟩;rw[h];have HR:Hid (inL (L.drop 0) r=R):=h;have V:=gd I;clear hL Y h I;go_enter func230,ntmps230
 go_wp2_with (refine wpList_load_row rfl 285 _ rfl 1 rfl t _ fr _ hg underlying285 rfl A ?_)
 go_loopw [6] (λv wr=>∃j:Nat,j<=5/\v=nI j/\Hid (inL (L.drop j) r=R)/\Ext w wr) (λv _=>5 - (intOf v).toNat)
 case atStart=>exact ⟨0,Zk _,rfl,HR,Ext.refl _⟩
 case round=>
  obtain ⟨j,hj,rfl,q,U⟩:=hrel;by_cases Q:j<5
  ·have M:j<L.length:=(by rw[V.out];exact Q);have hf:=K.out j M;have hl:(j:Int)<5:=(by omega);have HH:=gd (Zf4 (r:=r) M);have HM:=gd (ZdH (r:=r) M);obtain ⟨D,ha⟩:∃D,L[j].1=D:=⟨_,rfl⟩;obtain ⟨F,Z⟩:∃F,L[j].2=F:=⟨_,rfl⟩;rw[ha,Z] at hf HH HM;clear ha Z;obtain ⟨S,H⟩:∃S,wr.alloc (.cells #[.int .i32 (D:Nat),.int .i32 (F:Nat)] 284)=S:=⟨_,rfl⟩;have hb:S.heap[wr.heap.size]? =some (.cells #[.int .i32 (D:Nat),.int .i32 (F:Nat)] 284):=(by rw[<-H];exact Zg wr _);have hc:Ext wr S:=(by rw[<-H];exact (Ext.refl wr).alloc _);have c0:S.cell? ⟨wr.heap.size,0,none⟩=some (.int .i32 (D:Nat)):=(by rw[Xc _ _ _ _ _ _ hb];rfl);have c1:S.cell? ⟨wr.heap.size,1,none⟩=some (.int .i32 (F:Nat)):=(by rw[Xc _ _ _ _ _ _ hb];rfl);have HX:=gd (U.trans hc);have J:(#[Value.int .i32 (D:Nat),.int .i32 (F:Nat)]).all (λu=>u.oneCell')=true:=(by simp[Value.oneCell']);clear hb U hc;by_cases h1:D<=r
   ·by_cases h2:r<=F
    ·have h:=q.out;rw[HH.out h1 h2] at h;subst h;have q1:(D:Int)<=(r:Int):=(by omega);have q2:(r:Int)<=(F:Int):=(by omega);clear h1 h2 q HR
     go_wp2_with (refine Zd rfl 284 (.tmp 4) (.tmp 8) rfl wr.heap.size #[.int .i32 (D:Nat),.int .i32 (F:Nat)] rfl rfl _ _ (Zg _ _) UI rfl J ?_;rw[ZW];rw[H])
     go_ret;exact ⟨rfl,HX.out⟩
    ·have h:=q.out;rw[HM.out (by omega)] at h;have HN:=gd h;have q1:(D:Int)<=(r:Int):=(by omega);have q2:¬(r:Int)<=(F:Int):=(by omega);clear h1 h2 q h
     go_wp2_with (refine Zd rfl 284 (.tmp 4) (.tmp 8) rfl wr.heap.size #[.int .i32 (D:Nat),.int .i32 (F:Nat)] rfl rfl _ _ (Zg _ _) UI rfl J ?_;rw[ZW];rw[H])
     go_roundw
     case rel=>exact ⟨j+1,Q,by go_num,HN,HX.out⟩
     case measure=>simp[intOf];omega
   ·have h:=q.out;rw[HM.out (by omega)] at h;have HN:=gd h;have q1:¬(D:Int)<=(r:Int):=(by omega);clear h1 q h
    go_wp2_with (refine Zd rfl 284 (.tmp 4) (.tmp 8) rfl wr.heap.size #[.int .i32 (D:Nat),.int .i32 (F:Nat)] rfl rfl _ _ (Zg _ _) UI rfl J ?_;rw[ZW];rw[H])
    go_roundw
    case rel=>exact ⟨j+1,Q,by go_num,HN,HX.out⟩
    case measure=>simp[intOf];omega
  ·have hh:j=5:=(by omega);have h:=q.out;rw[ZC (by rw[V.out];omega)] at h;have he:false=R:=h;subst he;subst hh;clear q h HR
   go_wp2_with (first|(go_at_call 231;(with_reducible refine Za (X.out _ U) ?_);rintro e w' ⟨rfl,hk⟩))
   go_ret;exact ⟨rfl,U.trans hk⟩
end
section
variable {r:Nat}
theorem Zjt {a b:Nat} (h:a<=16777216) (q:b<=16777216):wrap64 ((a:Int)+(b:Int))=(a:Int)+(b:Int):=by unfold wrap64;omega
theorem Zdf {l:List UInt8} (h:(dec l).2=0):dec l=(0,0):=by
 unfold dec at h|-;split
 ·rfl
 ·rename_i q;rw[Ze q] at h;split
  ·rfl
  ·rename_i A;rw[Ze A] at h;have D:1<=l.length:=Jm.2 q;rw[U3] at h;have:=(Ig l.length (l.getD 0 0).toNat (l.getD 1 0).toNat (l.getD 2 0).toNat (l.getD 3 0).toNat D).1;omega
theorem Zae (s:ByteArray) (k:Nat) (w:Wq) (A:s.size<=k):
 Calls prog 188 #[.string s,nI (k:Nat)] w λe w'=>e= .returned (decVal (0,0))/\Ext w w':=by
 have h:¬(k:Int)<0:=by omega
 have q:(s.size:Int)<=(k:Int):=by omega
 go_enter func188,ntmps188;go_wp2
 go_ret2
 exact ⟨rfl,Ext.refl _⟩
theorem ZaZ (s:ByteArray) (k:Nat) (w:Wq) (q:Env w) (A:s.size<=maxLen):
 Calls prog 188 #[.string s,nI (k:Nat)] w λe w'=>e= .returned (.tuple #[.int .i32 ((dec (s.data.toList.drop k)).1:Nat),nI ((dec (s.data.toList.drop k)).2:Nat)])/\Ext w w':=by
 by_cases h:k<s.size
 ·exact Gk s k w q h A
 ·have:=Zae s k w (by omega);rw[ZC (by rw[ZI];omega)];exact this
theorem Zde {l:List UInt8}:(dec l).1<=1114111:=by
 by_cases h:(dec l).2=0
 ·rw[Zdf h];exact Zk _
 ·have:=(ZfW [] h).2.1;unfold scalar at this;omega
theorem Zj0 (b:Bool):nmOk true b 58=true:=by cases b<;>rfl
theorem Zd6 (h:(r==58)=false):nmOk true true r=nmStart r:=by unfold nmOk;rw[h];rfl
theorem Zfv (h:(r==58)=false):nmOk true false r=nmChar r:=by unfold nmOk;rw[h];rfl
theorem ZfN (h:nmChar r=false):nmStart r=false:=by unfold nmChar at h;rw[Bool.or_eq_false_iff] at h;exact h.1
theorem Zhu (s:ByteArray) (b w:Wq) (g:Nat) (hE:Env b) (hN:NmTabs b) (hs:s.size<=16777216) (hI:b.heap.size<=g) (hL:Ext b w) (hg:w.heap[g]? =some (.cells #[.string s,nI 0,nI 0,nI 0] 261)):
 Calls prog 211 #[.pointer (some ⟨g,0,none⟩)] w λe w'=>e= .returned (.string (s.extract 0 (nmLen true s.data.toList)))/\Ext b w':=by
 have hV:s.size<=maxLen:=by unfold maxLen;omega
 obtain ⟨l,hl⟩:∃l,s.data.toList=l:=⟨_,rfl⟩;have hJ:l.length=s.size:=by rw[<-hl,ZI]
 rw[hl];obtain ⟨R0,hy⟩:∃n,nmLen true l=n:=⟨_,rfl⟩;rw[hy];have hQ:=gd hy;have HL:=gd hl;have hP:=gd hJ;have c0:w.cell? ⟨g,0,none⟩=some (.string s):=by rw[Jr hg];rfl
 have c1:w.cell? ⟨g,1,none⟩=some (nI 0):=by rw[Jr hg];rfl
 have hO:=gd hg;have hw:=gd hI;have hT:=gd hL;have HE:=gd hE;have hC:=gd hN;clear hy hl hJ hg hI hL hE hN;go_enter func211,ntmps211;go_wp2;go_loopw [4] (λv wr=>∃j:Nat,v=v/\j<=s.size/\wr.heap[g]? =some (.cells #[.string s,nI (j:Nat),nI 0,nI 0] 261)/\Hid (NmPre true true l j)/\Ext b wr) (λv wr=>s.size - (intOf ((wr.cell? ⟨g,1,none⟩).getD undef)).toNat)
 case atStart=>exact ⟨0,(by trivial),Zk _,hO.out,gd (.zero _ _),hT.out⟩
 case round=>
  obtain ⟨j, -,hj,hu,hp,hM⟩:=hrel;have c0:wr.cell? ⟨g,0,none⟩=some (.string s):=by rw[Jr hu];rfl
  have c1:wr.cell? ⟨g,1,none⟩=some (nI (j:Nat)):=by rw[Jr hu];rfl
  have hm:Hid ((intOf ((wr.cell? ⟨g,1,none⟩).getD undef)).toNat=j):=by show _=_;rw[c1];simp[intOf]
  have hD:=λw' (hx:Ext b w')=>ZaZ s j w' (HE.out.ext hx) hV;have hA:=Up (l.drop j);rw[Zj,hP.out] at hA;have Z:((dec (l.drop j)).2=0\/nmOk true (decide (j=0)) (dec (l.drop j)).1=false)->R0=j:=λh=>by
   rw[<-hQ.out];by_cases hU:j<l.length
   ·exact (Ey hp.out hU h).2
   ·have h1:=hp.out.go;unfold nmLen;rw[h1.2,ZC (by omega),Un];rfl
  have X:(dec (l.drop j)).2≠0->nmOk true (decide (j=0)) (dec (l.drop j)).1=true->NmPre true true l (j+(dec (l.drop j)).2):=λh1 h2=>hp.out.snoc h1 (by simpa using h2);have ha:(dec (l.drop j)).2=0->(dec (l.drop j)).1=0:=λh=>by rw[Zdf h]
  have hv:=Zde (l:=l.drop j);rw[HL.out] at hD;obtain ⟨R,hR⟩:∃R,(dec (l.drop j)).1=R:=⟨_,rfl⟩;obtain ⟨n,hn⟩:∃n,(dec (l.drop j)).2=n:=⟨_,rfl⟩;rw[hR,hn] at hD Z X;rw[hn] at hA ha;rw[hR] at ha hv;have HD:=gd hD;have HC:=gd (λw' (hx:Ext b w')=>Zcl R w' (hC.out.ext hx) hv);have HS:=gd (λw' (hx:Ext b w')=>Ge R w' (hC.out.ext hx) hv);have Y:=gd hM;have HG:=gd hu;have hh:Hid (j+n<=s.size):=gd (by omega);have hi:Hid (wrap64 ((j:Int)+(n:Int))=(j:Int)+(n:Int)):=gd (Zjt (by omega) (by omega));have ht:=gd (λwx=>QJ s 0 j 0 j rfl rfl (Zk _) hj wx);have hX:(0:Int)<=(j:Int):=by omega
  clear hD hR hn hu hM hA hv;by_cases he:R=58
  ·have V:n≠0:=λe=>(by have:=ha e;omega);have ho:=gd (X V (by rw[he];exact Zj0 _));have hq:=gd V;have hW:((R:Int)==58)=true:=(by rw[JI];omega);have qn:((n:Int)==0)=false:=(by rw[Zy];omega);clear he V ha Z X hp;go_wp2;have H:=(Ext.refl wr).drew;have q:wr.drew.cell? ⟨g,0,none⟩=some (.string s)/\wr.drew.cell? ⟨g,1,none⟩=some (nI (j:Nat)):=⟨H.cell c0,H.cell c1⟩;refine rN ?_;change wpAny _ _ _ _ _ _ _ (World.drew _);refine Yj (λw'=>w'.cell? ⟨g,0,none⟩=some (.string s)/\w'.cell? ⟨g,1,none⟩=some (nI (j:Nat))) ?_;refine tG 0 (.pointer (some ⟨g,0,none⟩)) q ?_;refine tG 1 (.pointer (some ⟨g,0,none⟩)) q ?_;refine tG 2 (.pointer (some ⟨g,0,none⟩)) q ?_;refine tS 3 (.string s) rfl (λw' J=>by have q1:=J.1;have q2:=J.2;go_simp) q ?_;refine tG 4 (.pointer (some ⟨g,0,none⟩)) q ?_;refine tG 5 (.pointer (some ⟨g,0,none⟩)) q ?_;refine tG 6 (.pointer (some ⟨g,1,none⟩)) q ?_;refine tS 7 (nI (j:Nat)) rfl (λw' J=>by have q1:=J.1;have q2:=J.2;go_simp) q ?_;go_simp;refine sS 8 λK hK=> ?_;go_simp;go_at_call 188;have hz:=HD.out _ (Y.out.trans H)
   with_reducible refine Za hz ?_
   clear hz;rintro e w3 ⟨rfl,M⟩;have F:w3.cell? ⟨g,0,none⟩=some (.string s)/\w3.cell? ⟨g,1,none⟩=some (nI (j:Nat)):=⟨M.cell q.1,M.cell q.2⟩;refine hK _ _ F ?_;clear hK K;refine sS 9 λK hK=> ?_;go_simp;refine hK _ _ F ?_;clear hK K;refine tG 10 (.int .i32 (R:Nat)) F ?_;refine tG 11 (nI (n:Nat)) F ?_;go_simp;refine sS 12 λK hK=> ?_;go_simp;refine hK _ _ F ?_;clear hK K;refine sS 13 λK hK=> ?_;go_simp;refine hK _ _ F ?_;clear hK K;refine sE ?_;have I:=H.trans M;have Q:=gd (Y.out.trans I);have S:=gd (I.heap HG.out);clear c0 c1 q H M HD;obtain ⟨d0,d1⟩:=F;have hr:w3.frozen? ⟨g,1,none⟩=false:=YR (I.heap HG.out) 1;have e0:=d0;have e1:=d1;have ef:=hr;have D:=Ext.refl w3;go_wp2;go_roundw
   case rel=>exact ⟨j+n,(by trivial),hh.out,by rw[Int.natCast_add,hi.out];exact Z7 _ g 1 _ _ _ (D.heap S.out),ho.out,(Q.out.trans D).setCell hw.out _⟩
   case measure=>have h8:=hm.out;have h9:(w3.setCell ⟨g,1,none⟩ (nI ((j:Int)+(n:Int)))).cell? ⟨g,1,none⟩=some (nI ((j:Int)+(n:Int))):=(by rw[Jr (Z7 _ g 1 _ _ _ (D.heap S.out))];rfl);have hF:=hh.out;have hG:=hq.out;rw[h8,hi.out,h9];simp[intOf];omega
  ·have hc:(R==58)=false:=(by simpa using he);have hW:((R:Int)==58)=false:=(by rw[Zy];omega);by_cases hk:j=0
   ·have qj:¬(0:Int)<(j:Int):=(by omega);rw[YQ hk,Zd6 hc] at Z X;cases hb:nmStart R with
    |true=>
     have V:n≠0:=λe=>(by rw[ha e] at hb;revert hb;decide);have ho:=gd (X V hb);have hq:=gd V;have qn:((n:Int)==0)=false:=(by rw[Zy];omega);rw[hb] at HS;clear he hc V ha Z X hp hk hb;go_wp2;have H:=(Ext.refl wr).drew;have q:wr.drew.cell? ⟨g,0,none⟩=some (.string s)/\wr.drew.cell? ⟨g,1,none⟩=some (nI (j:Nat)):=⟨H.cell c0,H.cell c1⟩;refine rN ?_;change wpAny _ _ _ _ _ _ _ (World.drew _);refine Yj (λw'=>w'.cell? ⟨g,0,none⟩=some (.string s)/\w'.cell? ⟨g,1,none⟩=some (nI (j:Nat))) ?_;refine tG 0 (.pointer (some ⟨g,0,none⟩)) q ?_;refine tG 1 (.pointer (some ⟨g,0,none⟩)) q ?_;refine tG 2 (.pointer (some ⟨g,0,none⟩)) q ?_;refine tS 3 (.string s) rfl (λw' J=>by have q1:=J.1;have q2:=J.2;go_simp) q ?_;refine tG 4 (.pointer (some ⟨g,0,none⟩)) q ?_;refine tG 5 (.pointer (some ⟨g,0,none⟩)) q ?_;refine tG 6 (.pointer (some ⟨g,1,none⟩)) q ?_;refine tS 7 (nI (j:Nat)) rfl (λw' J=>by have q1:=J.1;have q2:=J.2;go_simp) q ?_;go_simp;refine sS 8 λK hK=> ?_;go_simp;go_at_call 188;have hz:=HD.out _ (Y.out.trans H)
     with_reducible refine Za hz ?_
     clear hz;rintro e w3 ⟨rfl,M⟩;have F:w3.cell? ⟨g,0,none⟩=some (.string s)/\w3.cell? ⟨g,1,none⟩=some (nI (j:Nat)):=⟨M.cell q.1,M.cell q.2⟩;refine hK _ _ F ?_;clear hK K;refine sS 9 λK hK=> ?_;go_simp;refine hK _ _ F ?_;clear hK K;refine tG 10 (.int .i32 (R:Nat)) F ?_;refine tG 11 (nI (n:Nat)) F ?_;go_simp;refine sS 12 λK hK=> ?_;go_simp;refine hK _ _ F ?_;clear hK K;refine sS 13 λK hK=> ?_;go_simp;refine hK _ _ F ?_;clear hK K;refine sE ?_;have I:=H.trans M;have Q:=gd (Y.out.trans I);have S:=gd (I.heap HG.out);clear c0 c1 q H M HD;obtain ⟨d0,d1⟩:=F;have hr:w3.frozen? ⟨g,1,none⟩=false:=YR (I.heap HG.out) 1
     go_wp2_with (first|(go_at_call 231;(with_reducible refine Za (HS.out _ Q.out) ?_);rintro e w4 ⟨rfl,D⟩;(have e0:=D.cell d0);(have e1:=D.cell d1);(have ef:w4.frozen? ⟨g,1,none⟩=false:=YR (D.heap S.out) 1)))
     go_roundw
     case rel=>exact ⟨j+n,(by trivial),hh.out,by rw[Int.natCast_add,hi.out];exact Z7 _ g 1 _ _ _ (D.heap S.out),ho.out,(Q.out.trans D).setCell hw.out _⟩
     case measure=>have h8:=hm.out;have h9:(w4.setCell ⟨g,1,none⟩ (nI ((j:Int)+(n:Int)))).cell? ⟨g,1,none⟩=some (nI ((j:Int)+(n:Int))):=(by rw[Jr (Z7 _ g 1 _ _ _ (D.heap S.out))];rfl);have hF:=hh.out;have hG:=hq.out;rw[h8,hi.out,h9];simp[intOf];omega
    |false=>
     have hd:=gd (Z (Or.inr hb));rw[hb] at HS;clear he hc ha Z X hp hk hb;go_wp2;have H:=(Ext.refl wr).drew;have q:wr.drew.cell? ⟨g,0,none⟩=some (.string s)/\wr.drew.cell? ⟨g,1,none⟩=some (nI (j:Nat)):=⟨H.cell c0,H.cell c1⟩;refine rN ?_;change wpAny _ _ _ _ _ _ _ (World.drew _);refine Yj (λw'=>w'.cell? ⟨g,0,none⟩=some (.string s)/\w'.cell? ⟨g,1,none⟩=some (nI (j:Nat))) ?_;refine tG 0 (.pointer (some ⟨g,0,none⟩)) q ?_;refine tG 1 (.pointer (some ⟨g,0,none⟩)) q ?_;refine tG 2 (.pointer (some ⟨g,0,none⟩)) q ?_;refine tS 3 (.string s) rfl (λw' J=>by have q1:=J.1;have q2:=J.2;go_simp) q ?_;refine tG 4 (.pointer (some ⟨g,0,none⟩)) q ?_;refine tG 5 (.pointer (some ⟨g,0,none⟩)) q ?_;refine tG 6 (.pointer (some ⟨g,1,none⟩)) q ?_;refine tS 7 (nI (j:Nat)) rfl (λw' J=>by have q1:=J.1;have q2:=J.2;go_simp) q ?_;go_simp;refine sS 8 λK hK=> ?_;go_simp;go_at_call 188;have hz:=HD.out _ (Y.out.trans H)
     with_reducible refine Za hz ?_
     clear hz;rintro e w3 ⟨rfl,M⟩;have F:w3.cell? ⟨g,0,none⟩=some (.string s)/\w3.cell? ⟨g,1,none⟩=some (nI (j:Nat)):=⟨M.cell q.1,M.cell q.2⟩;refine hK _ _ F ?_;clear hK K;refine sS 9 λK hK=> ?_;go_simp;refine hK _ _ F ?_;clear hK K;refine tG 10 (.int .i32 (R:Nat)) F ?_;refine tG 11 (nI (n:Nat)) F ?_;go_simp;refine sS 12 λK hK=> ?_;go_simp;refine hK _ _ F ?_;clear hK K;refine sS 13 λK hK=> ?_;go_simp;refine hK _ _ F ?_;clear hK K;refine sE ?_;have I:=H.trans M;have Q:=gd (Y.out.trans I);have S:=gd (I.heap HG.out);clear c0 c1 q H M HD;obtain ⟨d0,d1⟩:=F;have hr:w3.frozen? ⟨g,1,none⟩=false:=YR (I.heap HG.out) 1;cases hqn:((n:Int)==0) with
     |true=>
      go_wp2_with (first|(go_at_call 231;(with_reducible refine Za (HS.out _ Q.out) ?_);rintro e w4 ⟨rfl,D⟩;(have e0:=D.cell d0);(have e1:=D.cell d1);(have ef:w4.frozen? ⟨g,1,none⟩=false:=YR (D.heap S.out) 1)))
      have U:=(Ext.refl w4).drew;have A:w4.drew.cell? ⟨g,0,none⟩=some (.string s)/\w4.drew.cell? ⟨g,1,none⟩=some (nI (j:Nat)):=⟨U.cell e0,U.cell e1⟩;have hB:=ht.out;refine rN ?_;change wpAny _ _ _ _ _ _ _ (World.drew _);refine Yj (λw'=>w'.cell? ⟨g,0,none⟩=some (.string s)/\w'.cell? ⟨g,1,none⟩=some (nI (j:Nat))) ?_;refine tG 0 (.pointer (some ⟨g,0,none⟩)) A ?_;refine tG 1 (.pointer (some ⟨g,0,none⟩)) A ?_;refine tG 2 (.pointer (some ⟨g,0,none⟩)) A ?_;refine tS 3 (.string s) rfl (λw' J=>by have q1:=J.1;have q2:=J.2;go_simp) A ?_;refine tG 4 (nI 0) A ?_;refine tG 5 (.pointer (some ⟨g,0,none⟩)) A ?_;refine tG 6 (.pointer (some ⟨g,0,none⟩)) A ?_;refine tG 7 (.pointer (some ⟨g,1,none⟩)) A ?_;refine tS 8 (nI (j:Nat)) rfl (λw' J=>by have q1:=J.1;have q2:=J.2;go_simp) A ?_;go_simp;refine sS 9 λK hK=> ?_;go_simp;refine hK _ _ A ?_;clear hK K;refine sS 10 λK hK=> ?_;go_simp;refine hK _ _ A ?_;clear hK K;refine sE ?_;go_wp2;go_ret;exact ⟨by rw[hd.out];rfl,(Q.out.trans D).trans U⟩
     |false=>
      go_wp2_with (first|(go_at_call 231;(with_reducible refine Za (HS.out _ Q.out) ?_);rintro e w4 ⟨rfl,D⟩;(have e0:=D.cell d0);(have e1:=D.cell d1);(have ef:w4.frozen? ⟨g,1,none⟩=false:=YR (D.heap S.out) 1)))
      have U:=(Ext.refl w4).drew;have A:w4.drew.cell? ⟨g,0,none⟩=some (.string s)/\w4.drew.cell? ⟨g,1,none⟩=some (nI (j:Nat)):=⟨U.cell e0,U.cell e1⟩;have hB:=ht.out;refine rN ?_;change wpAny _ _ _ _ _ _ _ (World.drew _);refine Yj (λw'=>w'.cell? ⟨g,0,none⟩=some (.string s)/\w'.cell? ⟨g,1,none⟩=some (nI (j:Nat))) ?_;refine tG 0 (.pointer (some ⟨g,0,none⟩)) A ?_;refine tG 1 (.pointer (some ⟨g,0,none⟩)) A ?_;refine tG 2 (.pointer (some ⟨g,0,none⟩)) A ?_;refine tS 3 (.string s) rfl (λw' J=>by have q1:=J.1;have q2:=J.2;go_simp) A ?_;refine tG 4 (nI 0) A ?_;refine tG 5 (.pointer (some ⟨g,0,none⟩)) A ?_;refine tG 6 (.pointer (some ⟨g,0,none⟩)) A ?_;refine tG 7 (.pointer (some ⟨g,1,none⟩)) A ?_;refine tS 8 (nI (j:Nat)) rfl (λw' J=>by have q1:=J.1;have q2:=J.2;go_simp) A ?_;go_simp;refine sS 9 λK hK=> ?_;go_simp;refine hK _ _ A ?_;clear hK K;refine sS 10 λK hK=> ?_;go_simp;refine hK _ _ A ?_;clear hK K;refine sE ?_;go_wp2;go_ret;exact ⟨by rw[hd.out];rfl,(Q.out.trans D).trans U⟩
   ·have qj:(0:Int)<(j:Int):=(by omega);rw[YG hk,Zfv hc] at Z X;cases hb:nmChar R with
    |true=>
     have V:n≠0:=λe=>(by rw[ha e] at hb;revert hb;decide);have ho:=gd (X V hb);have hq:=gd V;have qn:((n:Int)==0)=false:=(by rw[Zy];omega);rw[hb] at HC;clear he hc V ha Z X hp hk hb;go_wp2;have H:=(Ext.refl wr).drew;have q:wr.drew.cell? ⟨g,0,none⟩=some (.string s)/\wr.drew.cell? ⟨g,1,none⟩=some (nI (j:Nat)):=⟨H.cell c0,H.cell c1⟩;refine rN ?_;change wpAny _ _ _ _ _ _ _ (World.drew _);refine Yj (λw'=>w'.cell? ⟨g,0,none⟩=some (.string s)/\w'.cell? ⟨g,1,none⟩=some (nI (j:Nat))) ?_;refine tG 0 (.pointer (some ⟨g,0,none⟩)) q ?_;refine tG 1 (.pointer (some ⟨g,0,none⟩)) q ?_;refine tG 2 (.pointer (some ⟨g,0,none⟩)) q ?_;refine tS 3 (.string s) rfl (λw' J=>by have q1:=J.1;have q2:=J.2;go_simp) q ?_;refine tG 4 (.pointer (some ⟨g,0,none⟩)) q ?_;refine tG 5 (.pointer (some ⟨g,0,none⟩)) q ?_;refine tG 6 (.pointer (some ⟨g,1,none⟩)) q ?_;refine tS 7 (nI (j:Nat)) rfl (λw' J=>by have q1:=J.1;have q2:=J.2;go_simp) q ?_;go_simp;refine sS 8 λK hK=> ?_;go_simp;go_at_call 188;have hz:=HD.out _ (Y.out.trans H)
     with_reducible refine Za hz ?_
     clear hz;rintro e w3 ⟨rfl,M⟩;have F:w3.cell? ⟨g,0,none⟩=some (.string s)/\w3.cell? ⟨g,1,none⟩=some (nI (j:Nat)):=⟨M.cell q.1,M.cell q.2⟩;refine hK _ _ F ?_;clear hK K;refine sS 9 λK hK=> ?_;go_simp;refine hK _ _ F ?_;clear hK K;refine tG 10 (.int .i32 (R:Nat)) F ?_;refine tG 11 (nI (n:Nat)) F ?_;go_simp;refine sS 12 λK hK=> ?_;go_simp;refine hK _ _ F ?_;clear hK K;refine sS 13 λK hK=> ?_;go_simp;refine hK _ _ F ?_;clear hK K;refine sE ?_;have I:=H.trans M;have Q:=gd (Y.out.trans I);have S:=gd (I.heap HG.out);clear c0 c1 q H M HD;obtain ⟨d0,d1⟩:=F;have hr:w3.frozen? ⟨g,1,none⟩=false:=YR (I.heap HG.out) 1
     go_wp2_with (first|(go_at_call 230;(with_reducible refine Za (HC.out _ Q.out) ?_);rintro e w4 ⟨rfl,D⟩;(have e0:=D.cell d0);(have e1:=D.cell d1);(have ef:w4.frozen? ⟨g,1,none⟩=false:=YR (D.heap S.out) 1)))
     go_roundw
     case rel=>exact ⟨j+n,(by trivial),hh.out,by rw[Int.natCast_add,hi.out];exact Z7 _ g 1 _ _ _ (D.heap S.out),ho.out,(Q.out.trans D).setCell hw.out _⟩
     case measure=>have h8:=hm.out;have h9:(w4.setCell ⟨g,1,none⟩ (nI ((j:Int)+(n:Int)))).cell? ⟨g,1,none⟩=some (nI ((j:Int)+(n:Int))):=(by rw[Jr (Z7 _ g 1 _ _ _ (D.heap S.out))];rfl);have hF:=hh.out;have hG:=hq.out;rw[h8,hi.out,h9];simp[intOf];omega
    |false=>
     have hd:=gd (Z (Or.inr hb));have hH:=ZfN hb;rw[hb] at HC;rw[hH] at HS;clear he hc ha Z X hp hk hb hH;go_wp2;have H:=(Ext.refl wr).drew;have q:wr.drew.cell? ⟨g,0,none⟩=some (.string s)/\wr.drew.cell? ⟨g,1,none⟩=some (nI (j:Nat)):=⟨H.cell c0,H.cell c1⟩;refine rN ?_;change wpAny _ _ _ _ _ _ _ (World.drew _);refine Yj (λw'=>w'.cell? ⟨g,0,none⟩=some (.string s)/\w'.cell? ⟨g,1,none⟩=some (nI (j:Nat))) ?_;refine tG 0 (.pointer (some ⟨g,0,none⟩)) q ?_;refine tG 1 (.pointer (some ⟨g,0,none⟩)) q ?_;refine tG 2 (.pointer (some ⟨g,0,none⟩)) q ?_;refine tS 3 (.string s) rfl (λw' J=>by have q1:=J.1;have q2:=J.2;go_simp) q ?_;refine tG 4 (.pointer (some ⟨g,0,none⟩)) q ?_;refine tG 5 (.pointer (some ⟨g,0,none⟩)) q ?_;refine tG 6 (.pointer (some ⟨g,1,none⟩)) q ?_;refine tS 7 (nI (j:Nat)) rfl (λw' J=>by have q1:=J.1;have q2:=J.2;go_simp) q ?_;go_simp;refine sS 8 λK hK=> ?_;go_simp;go_at_call 188;have hz:=HD.out _ (Y.out.trans H)
     with_reducible refine Za hz ?_
     clear hz;rintro e w3 ⟨rfl,M⟩;have F:w3.cell? ⟨g,0,none⟩=some (.string s)/\w3.cell? ⟨g,1,none⟩=some (nI (j:Nat)):=⟨M.cell q.1,M.cell q.2⟩;refine hK _ _ F ?_;clear hK K;refine sS 9 λK hK=> ?_;go_simp;refine hK _ _ F ?_;clear hK K;refine tG 10 (.int .i32 (R:Nat)) F ?_;refine tG 11 (nI (n:Nat)) F ?_;go_simp;refine sS 12 λK hK=> ?_;go_simp;refine hK _ _ F ?_;clear hK K;refine sS 13 λK hK=> ?_;go_simp;refine hK _ _ F ?_;clear hK K;refine sE ?_;have I:=H.trans M;have Q:=gd (Y.out.trans I);have S:=gd (I.heap HG.out);clear c0 c1 q H M HD;obtain ⟨d0,d1⟩:=F;have hr:w3.frozen? ⟨g,1,none⟩=false:=YR (I.heap HG.out) 1;cases hqn:((n:Int)==0) with
     |true=>
      go_wp2_with (first|(go_at_call 230;(with_reducible refine Za (HC.out _ Q.out) ?_);rintro e w4 ⟨rfl,D⟩;(have e0:=D.cell d0);(have e1:=D.cell d1);(have ef:w4.frozen? ⟨g,1,none⟩=false:=YR (D.heap S.out) 1))|(go_at_call 231;(with_reducible refine Za (HS.out _ (Q.out.trans D)) ?_);rintro e w5 ⟨rfl,hf⟩;(have f0:=(D.trans hf).cell d0);(have f1:=(D.trans hf).cell d1)))
      have U:=(Ext.refl w5).drew;have A:w5.drew.cell? ⟨g,0,none⟩=some (.string s)/\w5.drew.cell? ⟨g,1,none⟩=some (nI (j:Nat)):=⟨U.cell f0,U.cell f1⟩;have hB:=ht.out;refine rN ?_;change wpAny _ _ _ _ _ _ _ (World.drew _);refine Yj (λw'=>w'.cell? ⟨g,0,none⟩=some (.string s)/\w'.cell? ⟨g,1,none⟩=some (nI (j:Nat))) ?_;refine tG 0 (.pointer (some ⟨g,0,none⟩)) A ?_;refine tG 1 (.pointer (some ⟨g,0,none⟩)) A ?_;refine tG 2 (.pointer (some ⟨g,0,none⟩)) A ?_;refine tS 3 (.string s) rfl (λw' J=>by have q1:=J.1;have q2:=J.2;go_simp) A ?_;refine tG 4 (nI 0) A ?_;refine tG 5 (.pointer (some ⟨g,0,none⟩)) A ?_;refine tG 6 (.pointer (some ⟨g,0,none⟩)) A ?_;refine tG 7 (.pointer (some ⟨g,1,none⟩)) A ?_;refine tS 8 (nI (j:Nat)) rfl (λw' J=>by have q1:=J.1;have q2:=J.2;go_simp) A ?_;go_simp;refine sS 9 λK hK=> ?_;go_simp;refine hK _ _ A ?_;clear hK K;refine sS 10 λK hK=> ?_;go_simp;refine hK _ _ A ?_;clear hK K;refine sE ?_;go_wp2;go_ret;exact ⟨by rw[hd.out];rfl,(Q.out.trans (D.trans hf)).trans U⟩
     |false=>
      go_wp2_with (first|(go_at_call 230;(with_reducible refine Za (HC.out _ Q.out) ?_);rintro e w4 ⟨rfl,D⟩;(have e0:=D.cell d0);(have e1:=D.cell d1);(have ef:w4.frozen? ⟨g,1,none⟩=false:=YR (D.heap S.out) 1))|(go_at_call 231;(with_reducible refine Za (HS.out _ (Q.out.trans D)) ?_);rintro e w5 ⟨rfl,hf⟩;(have f0:=(D.trans hf).cell d0);(have f1:=(D.trans hf).cell d1)))
      have U:=(Ext.refl w5).drew;have A:w5.drew.cell? ⟨g,0,none⟩=some (.string s)/\w5.drew.cell? ⟨g,1,none⟩=some (nI (j:Nat)):=⟨U.cell f0,U.cell f1⟩;have hB:=ht.out;refine rN ?_;change wpAny _ _ _ _ _ _ _ (World.drew _);refine Yj (λw'=>w'.cell? ⟨g,0,none⟩=some (.string s)/\w'.cell? ⟨g,1,none⟩=some (nI (j:Nat))) ?_;refine tG 0 (.pointer (some ⟨g,0,none⟩)) A ?_;refine tG 1 (.pointer (some ⟨g,0,none⟩)) A ?_;refine tG 2 (.pointer (some ⟨g,0,none⟩)) A ?_;refine tS 3 (.string s) rfl (λw' J=>by have q1:=J.1;have q2:=J.2;go_simp) A ?_;refine tG 4 (nI 0) A ?_;refine tG 5 (.pointer (some ⟨g,0,none⟩)) A ?_;refine tG 6 (.pointer (some ⟨g,0,none⟩)) A ?_;refine tG 7 (.pointer (some ⟨g,1,none⟩)) A ?_;refine tS 8 (nI (j:Nat)) rfl (λw' J=>by have q1:=J.1;have q2:=J.2;go_simp) A ?_;go_simp;refine sS 9 λK hK=> ?_;go_simp;refine hK _ _ A ?_;clear hK K;refine sS 10 λK hK=> ?_;go_simp;refine hK _ _ A ?_;clear hK K;refine sE ?_;go_wp2;go_ret;exact ⟨by rw[hd.out];rfl,(Q.out.trans (D.trans hf)).trans U⟩
theorem E7:(prog.info? 261).map (·.size)=some 4:=by kernel_rfl
theorem Iq (s:ByteArray) (w:Wq) (Z:Env w) (hN:NmTabs w) (hs:s.size<=16777216):
 Calls prog 175 #[.string s] w λe w'=>e= .returned (.bool (isQ s.data.toList))/\Ext w w':=by
 obtain ⟨K,q⟩:∃K,w.alloc (.cells #[.string s,nI 0,nI 0,nI 0] 261)=K:=⟨_,rfl⟩;have J:Ext w K:=by rw[<-q];exact (Ext.refl w).alloc _
 have V:K.heap[w.heap.size]? =some (.cells #[.string s,nI 0,nI 0,nI 0] 261):=by rw[<-q];exact Zg w _
 have D:(#[Value.string s,nI 0,nI 0,nI 0]).all (λu=>u.oneCell')=true:=by simp[Value.oneCell']
 have F:=gd (Zhu s w K w.heap.size Z hN hs (Zb _) J V);have R:isQ s.data.toList=(decide (0<s.size) && decide (nmLen true s.data.toList=s.size)):=by unfold isQ;rw[ZI,Bool.decide_and]
 have H:nmLen true s.data.toList<=s.size:=by
  unfold nmLen;have:=Zcn true s.data.toList.length true s.data.toList
  rwa [ZI] at this
 rw[R];obtain ⟨m,X⟩:∃m,nmLen true s.data.toList=m:=⟨_,rfl⟩;rw[X] at F H|-;have A:(s.extract 0 m=s)↔m=s.size:=by
  constructor
  ·intro e;have Y:=Zz ByteArray.size e;rw[ByteArray.size_extract] at Y;omega
  ·intro e;rw[e];apply G1;rw[G4 _ _ _ (Zk _),JH,Nat.sub_zero,ZT (by rw[ZI];omega)]
 have S:=gd J;clear X J V R;by_cases M:s.size=0
 ·have hb:s.toList.isEmpty=true:=by rw[Z2,List.isEmpty_iff];exact Zw M
  have h:(decide (0<s.size) && decide (m=s.size))=false:=by rw[YG (by omega)];rfl
  rw[h];clear h M H A;go_enter func175,ntmps175
  go_wp2_with (first|(refine Zd rfl 261 (.tmp 3) (.tmp 5) rfl w.heap.size #[.string s,nI 0,nI 0,nI 0] rfl rfl _ _ (Zg _ _) E7 rfl D ?_;rw[ZW];rw[q]))
  go_ret;exact ⟨rfl,S.out⟩
 ·have hb:s.toList.isEmpty=false:=by
   rw[Z2];cases hl:s.data.toList with
   |nil=>exact absurd (by have:=Zz List.length hl;rw[ZI] at this;exact this) M
   |cons a t=>rfl
  cases hd:decide (m=s.size) with
  |true=>
   have U:=A.2 (Y4 hd);have h:(decide (0<s.size) && true)=true:=(by rw[YQ (by omega)];rfl);rw[h];rw[U] at F;clear h M H A hd U;go_enter func175,ntmps175
   go_wp2_with (first|(refine Zd rfl 261 (.tmp 3) (.tmp 5) rfl w.heap.size #[.string s,nI 0,nI 0,nI 0] rfl rfl _ _ (Zg _ _) E7 rfl D ?_;rw[ZW];rw[q])|(go_at_call 211;(with_reducible refine Za F.out ?_);rintro e w' ⟨rfl,I⟩))
   go_ret;exact ⟨by simp,I⟩
  |false=>
   have Q:s.extract 0 m≠s:=λe=>(by have:=A.1 e;rw[YQ this] at hd;cases hd);have ha:((s.extract 0 m).toList==s.toList)=false:=(by rw[Zy];intro e;rw[Z2,Z2] at e;exact Q (G1 e));rw[Bool.and_false];clear M H A hd Q;go_enter func175,ntmps175
   go_wp2_with (first|(refine Zd rfl 261 (.tmp 3) (.tmp 5) rfl w.heap.size #[.string s,nI 0,nI 0,nI 0] rfl rfl _ _ (Zg _ _) E7 rfl D ?_;rw[ZW];rw[q])|(go_at_call 211;(with_reducible refine Za F.out ?_);rintro e w' ⟨rfl,I⟩))
   go_ret;exact ⟨rfl,I⟩
end
theorem ZfL (l:List AtP) (nm:List UInt8):(l.map AtP.name).contains nm=l.any (λe=>decide (str e.name=str nm)):=by
 induction l with
 |nil=>rfl
 |cons a t ih=>
  rw[ZP,List.contains_cons,List.any_cons,ih]
  congr 1
  by_cases h:a.name=nm
  ·rw[h,YQ rfl];simp
  ·rw[YG (λe=>h (Zkd e))];simpa using λe=>h e.symm
theorem ZeT (v:Value) (l:List AtP) (w:Wq) (hE:Env w) (hN:NmTabs w) (h:RAts w v l) (hf:∀a∈l,a.name.length<=16777216/\a.value.length<=16777216) (hn:l.length<=16777216):
 Calls prog 176 #[v] w λe w'=>e= .returned (.bool (attrsOk l []))/\Ext w w':=by
 obtain ⟨A,c,rfl, -, -⟩:=h.form;have hG:= @run_makeMap prog;obtain ⟨R,hR⟩:∃R,attrsOk l []=R:=⟨_,rfl⟩;rw[hR];have HR:Hid (attrsOk (l.drop 0) ((l.take 0).map AtP.name)=R):=hR;have HF:=gd hf;have HH:=gd h;have hg:=gd hE;have hv:=gd hN;clear hR hf h hE hN;go_enter func176,ntmps176;go_wp2;go_loopw [9] (λi wr=>∃(k:Nat) (D:DataW Unit),k<=l.length/\i=nI k/\wr.ownsMap prog 9 (plainElem prog 4) w.heap.size k D/\Hid (SeenMap D (λs=>(l.take k).any (λe=>decide (str e.name=s))))/\Hid (attrsOk (l.drop k) ((l.take k).map AtP.name)=R)/\Ext w wr) (λi _=>l.length - (intOf i).toNat)
 case atStart=>exact ⟨0,.map [],Zk _,rfl,World.ownsMap_made _ _ _ _,gd SeenMap.nil,HR,(Ext.refl _).alloc _⟩
 case round=>
  obtain ⟨k,D,hk,rfl,hM,hD,Q,he⟩:=hrel;by_cases S:k<l.length
  ·obtain ⟨ad,c1,e1,hj⟩:=(RAts.ext HH.out he).at S;injection e1 with e1 e1' e1'';subst e1;clear e1' e1'';have X:=HF.out _ (ZL S);have hd:=Zx S;have I:=Q.out;rw[Zi S,attrsOk,ZfL] at I;have ha:(l.take (k+1)).map AtP.name=(l.take k).map AtP.name++ [l[k].name]:=(by rw[hd,ZR];rfl);rw[<-ha] at I;have Z:Hid (SeenMap (D.put (.string (str l[k].name).data.toList) (.lit (.bool true))) (λs=>(l.take (k+1)).any (λe=>decide (str e.name=s)))):=gd (hD.out.put λt=>by rw[hd,List.any_append];simp);obtain ⟨b,hb⟩:∃b,(l.take k).any (λe=>decide (str e.name=str l[k].name))=b:=⟨_,rfl⟩;rw[hb] at I;obtain ⟨x,ho⟩:∃x,l[k]=x:=⟨_,rfl⟩;rw[ho] at hj X I Z hb;have hc:(str x.name).size<=maxLen:=(by rw[Yu];unfold maxLen;omega);have hh:=gd (show keyOf prog 9 (.string (str x.name))=some (.string (str x.name).data.toList) from keyOf_string_mk underlying9 hc);have HM:=gd hM;have hp:Hid (k<maxLen):=gd (by unfold maxLen;omega);obtain ⟨W2,K⟩:∃W2,wr.alloc (.cells #[.string (str x.space),.string (str x.name),.string (str x.value),nI (x.at_:Nat)] 88)=W2:=⟨_,rfl⟩;have Y:Ext wr W2:=(by rw[<-K];exact (Ext.refl _).alloc _);have V:W2.heap[wr.heap.size]? =some (.cells #[.string (str x.space),.string (str x.name),.string (str x.value),nI (x.at_:Nat)] 88):=(by rw[<-K];exact Zg _ _);have hz:=K2 (hM.kept (Y.grown none) (by simp)) hD.out hc;simp only[hb] at hz;have c0:W2.cell? ⟨wr.heap.size,0,none⟩=some (.string (str x.space)):=(by rw[Xc _ _ _ _ _ _ V];rfl);have c1:W2.cell? ⟨wr.heap.size,1,none⟩=some (.string (str x.name)):=(by rw[Xc _ _ _ _ _ _ V];rfl);have c2:W2.cell? ⟨wr.heap.size,2,none⟩=some (.string (str x.value)):=(by rw[Xc _ _ _ _ _ _ V];rfl);have hw:=gd Y;have H:=gd (he.trans Y);have HQ:=gd (λw' (hx:Ext w w')=>Iq (str x.name) w' (hg.out.ext hx) (hv.out.ext hx) (by rw[Yu];exact X.1));have HC:=gd (λw' (hx:Ext w w')=>Za7 (str x.value) w' (hg.out.ext hx) (by rw[Yu];exact X.2));simp only[Z5] at HQ HC;have hC:(0:Int)<=(k:Int):=(by omega);have hF:(k:Int)<(l.length:Int):=(by omega);obtain ⟨q,hq⟩:∃q,isQ x.name=q:=⟨_,rfl⟩;obtain ⟨ch,hl⟩:∃ch,charsOk x.value=ch:=⟨_,rfl⟩;rw[hq] at HQ I;rw[hl] at HC I;obtain ⟨a0,a1,a2,a3⟩:=hj;clear Y V hM hb hq hl hd ha X ho hc;by_cases hs:x.space= []
   ·have hA:(str x.space).toList.isEmpty=true:=(by rw[hs];exact Ui);have U:x.space.isEmpty=true:=(by rw[hs];rfl);rw[U,XQ] at I;clear hs U;cases b with
    |true=>
     have M:false=R:=I;subst M;clear I HR
     skip
     go_wp2_with (first|(refine Zd rfl 88 (.tmp 5) (.tmp 12) rfl wr.heap.size #[.string (str x.space),.string (str x.name),.string (str x.value),nI (x.at_:Nat)] rfl rfl _ _ (Zg _ _) Yt rfl (Je x) ?_;rw[ZW];rw[K]))
     go_ret;exact ⟨rfl,H.out⟩
    |false=>
     cases q with
     |false=>
      have M:false=R:=I;subst M;clear I HR
      skip
      go_wp2_with (first|(refine Zd rfl 88 (.tmp 5) (.tmp 12) rfl wr.heap.size #[.string (str x.space),.string (str x.name),.string (str x.value),nI (x.at_:Nat)] rfl rfl _ _ (Zg _ _) Yt rfl (Je x) ?_;rw[ZW];rw[K])|(go_at_call 175;(with_reducible refine Za (HQ.out _ H.out) ?_);rintro e w3 ⟨rfl,F⟩;(have d0:=F.cell c0);(have d1:=F.cell c1);(have d2:=F.cell c2)))
      go_ret;exact ⟨rfl,H.out.trans F⟩
     |true=>
      cases ch with
      |false=>
       have M:false=R:=I;subst M;clear I HR
       skip
       go_wp2_with (first|(refine Zd rfl 88 (.tmp 5) (.tmp 12) rfl wr.heap.size #[.string (str x.space),.string (str x.name),.string (str x.value),nI (x.at_:Nat)] rfl rfl _ _ (Zg _ _) Yt rfl (Je x) ?_;rw[ZW];rw[K])|(go_at_call 175;(with_reducible refine Za (HQ.out _ H.out) ?_);rintro e w3 ⟨rfl,F⟩;(have d0:=F.cell c0);(have d1:=F.cell c1);(have d2:=F.cell c2))|(go_at_call 177;(with_reducible refine Za (HC.out _ (H.out.trans F)) ?_);rintro e w4 ⟨rfl,J⟩;(have e0:=J.cell d0);(have e1:=J.cell d1);(have e2:=J.cell d2)))
       go_ret;exact ⟨rfl,(H.out.trans F).trans J⟩
      |true=>
       have hu:Hid (attrsOk (l.drop (k+1)) ((l.take (k+1)).map AtP.name)=R):=gd I;clear I
       go_wp2_with (first|(refine Zd rfl 88 (.tmp 5) (.tmp 12) rfl wr.heap.size #[.string (str x.space),.string (str x.name),.string (str x.value),nI (x.at_:Nat)] rfl rfl _ _ (Zg _ _) Yt rfl (Je x) ?_;rw[ZW];rw[K])|(go_at_call 175;(with_reducible refine Za (HQ.out _ H.out) ?_);rintro e w3 ⟨rfl,F⟩;(have d0:=F.cell c0);(have d1:=F.cell c1);(have d2:=F.cell c2))|(go_at_call 177;(with_reducible refine Za (HC.out _ (H.out.trans F)) ?_);rintro e w4 ⟨rfl,J⟩;(have e0:=J.cell d0);(have e1:=J.cell d1);(have e2:=J.cell d2))|(at_mapUpdate;(refine Ua _ rfl (.tmp 34) (.tmp 36) (.const (.bool true)) 183 rfl 9 4 Ur underlying183 _ w.heap.size k D rfl (HM.out.kept (((hw.out.trans F).trans J).grown none) (by simp)) hp.out _ _ _ rfl rfl hh.out _ [] (plainElem_bool underlying4 true) ?_);intro w5 hi hm))
       have hB:Ext w w5:=Ext.grown' (B:=0) ((H.out.trans F).trans J) hm (λb hb=>by cases hb;exact Zb _);have ht:=gd hi;clear hi hm;go_roundw
       case rel=>exact ⟨k+1,_,S,by go_num,ht.out,Z,hu,hB⟩
       case measure=>simp[intOf];omega
   ·have hA:(str x.space).toList.isEmpty=false:=Ve hs;have U:x.space.isEmpty=false:=by cases hx:x.space with
     |nil=>exact absurd hx hs
     |cons a t=>rfl
    rw[U] at I;have M:false=R:=I;subst M;clear I HR hs U
    skip
    go_wp2_with (first|(refine Zd rfl 88 (.tmp 5) (.tmp 12) rfl wr.heap.size #[.string (str x.space),.string (str x.name),.string (str x.value),nI (x.at_:Nat)] rfl rfl _ _ (Zg _ _) Yt rfl (Je x) ?_;rw[ZW];rw[K]))
    go_ret;exact ⟨rfl,H.out⟩
  ·have hy:k=l.length:=(by omega);have I:=Q.out;rw[ZC (by omega),attrsOk] at I;subst I;subst hy;clear HR Q;go_wp2;go_ret;exact ⟨rfl,he⟩
section
variable {d:Nat}
theorem ZdO {data:Bool} {x:Nd} {t:List Nd} (h:x.kind=1):kidsOk d data (x::t)=(!data && !x.text.isEmpty && charsOk x.text && x.space.isEmpty && x.name.isEmpty && x.attrs.isEmpty && x.kids.isEmpty && kidsOk d true t):=by
 rw[kidsOk,Zh h,YQ h]
theorem ZdN {data:Bool} {x:Nd} {t:List Nd} (h:x.kind≠1):kidsOk d data (x::t)=(nodeOk (d+1) x && kidsOk d false t):=by
 rw[kidsOk,Ze h,YG h]
theorem QU (l:List UInt8):(str l).toList.isEmpty=l.isEmpty:=Qy l
theorem Zgq {a b:List UInt8}:(str a++str b).toList.isEmpty=(a.isEmpty && b.isEmpty):=by
 have h:(str a++str b).toList=a++b:=by rw[Z2,UL,Z5,Z5]
 rw[h];cases a<;>cases b<;>rfl
theorem ZhR (N:Nat) (hN:N<=4000000):∀(h:Nat) (x:Nc) (X:Nat) (w:Wq),x.nd.ht<=h->x.nd.fits N->X<=101->Env w->NmTabs w->RdN w x->
 Calls prog 125 #[.agg (cellsN x).toArray,nI (X:Nat)] w λe w'=>e= .returned (.bool (nodeOk X x.nd))/\Ext w w':=by
 intro h
 induction h with
 |zero=>intro x X w ho;exact absurd (Zfc x.nd) (by omega)
 |succ h ih=>
 intro x X w ho J gl hE hn hr;obtain ⟨k,s,n,al,l0,ks,kids,t,a⟩:=x;have gc:=hr;rw[RdN] at hr;obtain ⟨hD,hH,hQ⟩:=hr;have hu:=(Xg kids).1 hQ;rw[Nc.nd] at ho J|-;rw[Nd.ht] at ho;rw[Nd.fits] at J;have hP:=J.2.2.2.2.2.2.2.2;have hO:=J.2.2.2.2.1;have h5:kids.length<=N:=by have:=J.2.2.2.2.2.1;rwa [X2] at this
 have h7:l0.length<=N:=J.2.2.2.1;have ga:n.length<=N:=J.2.2.1;have ha:k<=1:=J.1;obtain ⟨A,c,h1, -, -⟩:=hD.form;obtain ⟨B,d,h6, -, -⟩:=RNs.form hH;subst h1;subst h6;obtain ⟨W0,hL⟩:∃W0,w.alloc (.cells #[nI (k:Nat),.string (str s),.string (str n),.slice A l0.length c,.slice B kids.length d,.string (str t),nI (a:Nat)] 25)=W0:=⟨_,rfl⟩;have hc:Ext w W0:=by rw[<-hL];exact (Ext.refl w).alloc _
 have hF:BxN W0 w.heap.size k s n (.slice A l0.length c) (.slice B kids.length d) t a:=by rw[<-hL];exact Zg w _
 obtain ⟨b0,b1,b2,b3,b4,b5,b6⟩:=hF.cells;have Y:=gd hc;have hi:=gd hF;have hB:=gd (λw' (hx:Ext W0 w')=>Iq (str n) w' (hE.ext (hc.trans hx)) (hn.ext (hc.trans hx)) (by rw[Yu];omega));have hJ:=gd (λw' (hx:Ext W0 w')=>ZeT (.slice A l0.length c) l0 w' (hE.ext (hc.trans hx)) (hn.ext (hc.trans hx)) (hD.ext (hc.trans hx)) (λb hb=>by have:=hO b hb;unfold AtP.fits at this;omega) (by omega));simp only[Z5] at hB;have hX:=gd (show RNs w (.slice B kids.length d) kids from hH);have HY:=gd (λy (hy:y∈kids)=>(⟨hu y hy,(Nds.fits_iff _).1 hP y.nd (by rw[XL];exact Yg hy),(by
  have:=Ew (x:=y.nd) (l:=Nc.nds kids) (by rw[XL];exact Yg hy);omega)⟩:RdN w y/\y.nd.fits N/\y.nd.ht<=h))
 have hV:=gd ih;have hK:=gd hE;have hY:=gd hn;have hW:Hid (kids.length<=16777216):=gd (by omega);simp only[cellsN];rw[nodeOk];clear ih gc hD hH hQ hu J ho hP hO h5 h7 ga hc hF hE hn;have e1:decide (k=0)=((k:Int)==0):=by
  by_cases h0:k=0
  ·rw[h0];rfl
  ·rw[YG h0];symm;rw[Zy];omega
 by_cases S:k=0
 ·have q1:((k:Int) !=0)=false:=by rw[S];rfl
  rw[YQ S,XQ];by_cases hd:X<=100
  ·have q2:¬(100:Int)<(X:Int):=(by omega);rw[YQ hd,XQ];cases hs:s.isEmpty with
   |true=>
    have q3:(str s).toList.isEmpty=true:=(by rw[QU];exact hs);rw[XQ];cases ht:t.isEmpty with
    |true=>
     have q4:(str t).toList.isEmpty=true:=(by rw[QU];exact ht);rw[XQ];have HQ:=hB;clear hB;cases hq:isQ n with
     |true=>
      rw[hq] at HQ;rw[XQ];have HA:=hJ;clear hJ;cases Z:attrsOk l0 [] with
      |true=>
       rw[Z] at HA;rw[XQ];obtain ⟨R,hR⟩:∃R,kidsOk X false (Nc.nds kids)=R:=⟨_,rfl⟩;rw[hR];have HR:Hid (kidsOk X false ((Nc.nds kids).drop 0)=R):=hR;clear hR Z hq ht hs e1 S ha;go_enter func125,ntmps125
       go_wp2_with (first|(go_at_call 175;(with_reducible refine Za (HQ.out _ (Ext.refl _)) ?_);rintro e w3 ⟨rfl,K⟩;obtain ⟨d0,d1,d2,d3,d4,d5,d6⟩:=(hi.out.ext K).cells)|(go_at_call 176;(with_reducible refine Za (HA.out _ K) ?_);rintro e w4 ⟨rfl,hg⟩;obtain ⟨e0,e1,e2,e3,e4,e5,e6⟩:=(hi.out.ext (K.trans hg)).cells))
       have hZ:=gd (Y.out.trans (K.trans hg));clear d0 d1 d2 d3 d4 d5 d6 e0 e1 e2 e3 e4 e5 e6 b0 b1 b2 b3 b4 b5 b6 K hg;go_loopw [5,40] (λu v wr=>∃j:Nat,j<=kids.length/\v=nI j/\(∃dt:Bool,u= .bool dt/\Hid (kidsOk X dt ((Nc.nds kids).drop j)=R))/\Ext w wr) (λ_ v _=>kids.length - (intOf v).toNat)
       case atStart=>exact ⟨0,Zk _,rfl,⟨false,rfl,HR⟩,hZ.out⟩
       case round=>
        obtain ⟨j,hj,rfl,⟨dt,rfl,hr⟩,hp⟩:=hrel;by_cases hk:j<kids.length
        ·obtain ⟨ad,c',hv,Z⟩:=(RNs.ext hX.out hp).at hk;injection hv with hv1 hv2 hv3;subst hv1;clear hv2 hv3;have h4:=hW.out;have gi:(0:Int)<=(j:Int):=(by omega);have gm:(j:Int)<(kids.length:Int):=(by omega);obtain ⟨hh,Q,hI⟩:=HY.out kids[j] (ZL hk);have D:=hr.out;rw[Zd5 hk] at D;obtain ⟨y,hU⟩:∃y,kids[j]=y:=⟨_,rfl⟩;rw[hU] at Z hh Q hI D;have V:=gd (λw' (hx:Ext w w') (h2:X+1<=101)=>hV.out y (X+1) w' hI Q h2 (hK.out.ext hx) (hY.out.ext hx) (RdN.ext hx _ hh));obtain ⟨yk,ys,yn,gn,yl,go,q,yt,ya⟩:=y;rw[RdN] at hh;obtain ⟨YA,yc,ge, -, -⟩:=hh.1.form;obtain ⟨YB,yd,gf, -, -⟩:=RNs.form hh.2.1;subst ge;subst gf;rw[Nc.nd] at Q D V;rw[Nd.fits] at Q;simp only[cellsN] at V;obtain ⟨a0,a1,a2,a3,a4,a5,a6⟩:=Z;simp only[Nc.kind,Nc.space,Nc.name,Nc.al,Nc.ks,Nc.text,Nc.at_] at a0 a1 a2 a3 a4 a5 a6;have hw:yk<=1:=Q.1;have hA:yt.length<=16777216:=(by have:=Q.2.2.2.2.2.2.1;omega);have gh:¬9223372036854775807<ys.length+yn.length:=(by have:=Q.2.1;have:=Q.2.2.1;omega);have gk:yl.length<=16777216:=(by have:=Q.2.2.2.1;omega);have gj:q.length<=16777216:=(by have:=Q.2.2.2.2.2.1;rw[X2] at this;omega);have HC:=gd (λw' (hx:Ext w w')=>Za7 (str yt) w' (hK.out.ext hx) (by rw[Yu];exact hA));simp only[Z5] at HC;obtain ⟨W2,hf⟩:∃W2,wr.alloc (.cells #[nI (yk:Nat),.string (str ys),.string (str yn),.slice YA yl.length yc,.slice YB q.length yd,.string (str yt),nI (ya:Nat)] 25)=W2:=⟨_,rfl⟩;have hT:Ext wr W2:=(by rw[<-hf];exact (Ext.refl wr).alloc _);have hG:BxN W2 wr.heap.size yk ys yn (.slice YA yl.length yc) (.slice YB q.length yd) yt ya:=(by rw[<-hf];exact Zg wr _);obtain ⟨c0,c1,c2,c3,c4,c5,c6⟩:=hG.cells;have H:=gd hT;have he:=gd hG;have I:=gd hp;have hC:(Nc.nds q).isEmpty=q.isEmpty:=(by cases q<;>(rw[Nc.nds];rfl));clear hh Q hI hT hG hp hr hA hU;by_cases hl:yk=1
         ·rw[ZdO (x:=Nd.mk yk ys yn yl (Nc.nds q) yt ya) hl] at D;simp only[Nd.text,Nd.space,Nd.name,Nd.attrs,Nd.kids] at D;rw[hC] at D;have gg:((yk:Int)==1)=true:=(by rw[hl];rfl);clear hl V hw hC;cases dt with
          |true=>have M:false=R:=(by rw[<-D];simp);subst M;clear D HR;go_wp2;go_ret;exact ⟨rfl,I.out.trans H.out⟩
          |false=>
           cases hte:yt.isEmpty with
           |true=>have q5:(str yt).toList.isEmpty=true:=(by rw[QU];exact hte);rw[hte] at D;have M:false=R:=(by rw[<-D];simp);subst M;clear D HR hte;go_wp2;go_ret;exact ⟨rfl,I.out.trans H.out⟩
           |false=>
            have q5:(str yt).toList.isEmpty=false:=(by rw[QU];exact hte);rw[hte] at D;cases hch:charsOk yt with
            |false=>
             rw[hch] at D HC;have M:false=R:=(by rw[<-D];simp);subst M;clear D HR hte hch
             go_wp2_with (first|(go_at_call 177;(with_reducible refine Za (HC.out _ (I.out.trans H.out)) ?_);rintro e w6 ⟨rfl,F⟩;obtain ⟨f0,f1,f2,f3,f4,f5,f6⟩:=(he.out.ext F).cells))
             go_ret;exact ⟨rfl,(I.out.trans H.out).trans F⟩
            |true=>
             rw[hch] at D HC;have hM:=Zgq (a:=ys) (b:=yn);cases hcb:(ys.isEmpty && yn.isEmpty) with
             |false=>
              rw[hcb] at hM;have U:=D;simp only[Bool.not_false,XQ] at U;have M:false=R:=(by rw[<-U];revert hcb;cases ys.isEmpty<;>cases yn.isEmpty<;>simp);subst M;clear D U HR hte hch hcb
              go_wp2_with (first|(go_at_call 177;(with_reducible refine Za (HC.out _ (I.out.trans H.out)) ?_);rintro e w6 ⟨rfl,F⟩;obtain ⟨f0,f1,f2,f3,f4,f5,f6⟩:=(he.out.ext F).cells))
              go_ret;exact ⟨rfl,(I.out.trans H.out).trans F⟩
             |true=>
              rw[hcb] at hM;have U:=D;simp only[Bool.not_false,XQ] at U;by_cases hz:yl.length+q.length=0
              ·have gb:¬(0:Int)<(yl.length:Int)+(q.length:Int):=(by omega);have h8:yl= []:=Zw (by omega);have h9:q= []:=Zw (by omega);have HN:Hid (kidsOk X true ((Nc.nds kids).drop (j+1))=R):=gd (by
                rw[<-U,h8,h9];revert hcb;cases ys.isEmpty<;>cases yn.isEmpty<;>simp)
               clear D U hte hch hcb h8 h9 hz
               go_wp2_with (first|(refine Zd rfl 25 (.tmp 7) (.tmp 43) rfl wr.heap.size _ rfl rfl _ _ (Zg _ _) Zv rfl Yx ?_;rw[ZW];rw[hf])|(go_at_call 177;(with_reducible refine Za (HC.out _ (I.out.trans H.out)) ?_);rintro e w6 ⟨rfl,F⟩;obtain ⟨f0,f1,f2,f3,f4,f5,f6⟩:=(he.out.ext F).cells))
               go_roundw
               case rel=>exact ⟨j+1,hk,by go_num,⟨true,rfl,HN⟩,(I.out.trans H.out).trans F⟩
               case measure=>simp[intOf];omega
              ·have gb:(0:Int)<(yl.length:Int)+(q.length:Int):=(by omega);have M:false=R:=by
                rw[<-U];have h8:(yl.isEmpty && q.isEmpty)=false:=by
                 cases yl with
                 |nil=>cases q with
                  |nil=>exact absurd rfl hz
                  |cons _ _=>rfl
                 |cons _ _=>rfl
                revert hcb h8;cases ys.isEmpty<;>cases yn.isEmpty<;>cases yl.isEmpty<;>cases q.isEmpty<;>simp
               subst M;clear D U HR hte hch hcb hz
               go_wp2_with (first|(refine Zd rfl 25 (.tmp 7) (.tmp 43) rfl wr.heap.size _ rfl rfl _ _ (Zg _ _) Zv rfl Yx ?_;rw[ZW];rw[hf])|(go_at_call 177;(with_reducible refine Za (HC.out _ (I.out.trans H.out)) ?_);rintro e w6 ⟨rfl,F⟩;obtain ⟨f0,f1,f2,f3,f4,f5,f6⟩:=(he.out.ext F).cells))
               go_ret;exact ⟨rfl,(I.out.trans H.out).trans F⟩
         ·rw[ZdN (x:=Nd.mk yk ys yn yl (Nc.nds q) yt ya) hl] at D;have gg:((yk:Int)==1)=false:=(by rw[Zy];omega);have hm:=gd (λw' (hx:Ext w w')=>V.out w' hx (by omega));rw[Int.natCast_add] at hm;obtain ⟨vb,hS⟩:∃vb,nodeOk (X+1) (Nd.mk yk ys yn yl (Nc.nds q) yt ya)=vb:=⟨_,rfl⟩;rw[hS] at hm D;clear hl V hw hS HC hC;cases vb with
          |false=>
           have M:false=R:=(by rw[<-D];simp);subst M;clear D HR
           go_wp2_with (first|(refine Zd rfl 25 (.tmp 7) (.tmp 43) rfl wr.heap.size _ rfl rfl _ _ (Zg _ _) Zv rfl Yx ?_;rw[ZW];rw[hf])|(go_at_call 125;(have hz:=hm.out W2 (I.out.trans H.out));(with_reducible refine Za hz ?_);clear hz;rintro e w6 ⟨rfl,F⟩;obtain ⟨f0,f1,f2,f3,f4,f5,f6⟩:=(he.out.ext F).cells))
           go_ret;exact ⟨rfl,(I.out.trans H.out).trans F⟩
          |true=>
           have HN:Hid (kidsOk X false ((Nc.nds kids).drop (j+1))=R):=gd D;clear D
           go_wp2_with (first|(refine Zd rfl 25 (.tmp 7) (.tmp 43) rfl wr.heap.size _ rfl rfl _ _ (Zg _ _) Zv rfl Yx ?_;rw[ZW];rw[hf])|(go_at_call 125;(have hz:=hm.out W2 (I.out.trans H.out));(with_reducible refine Za hz ?_);clear hz;rintro e w6 ⟨rfl,F⟩;obtain ⟨f0,f1,f2,f3,f4,f5,f6⟩:=(he.out.ext F).cells))
           go_roundw
           case rel=>exact ⟨j+1,hk,by go_num,⟨false,rfl,HN⟩,(I.out.trans H.out).trans F⟩
           case measure=>simp[intOf];omega
        ·have h3:j=kids.length:=(by omega);have D:=hr.out;rw[ZC (by rw[X2];omega),kidsOk] at D;subst D;subst h3;clear HR hr;go_wp2;go_ret;exact ⟨rfl,hp⟩
      |false=>
       rw[Z] at HA;rw[Yh];clear Z hq ht hs e1 S ha;go_enter func125,ntmps125
       go_wp2_with (first|(go_at_call 175;(with_reducible refine Za (HQ.out _ (Ext.refl _)) ?_);rintro e w3 ⟨rfl,K⟩;obtain ⟨d0,d1,d2,d3,d4,d5,d6⟩:=(hi.out.ext K).cells)|(go_at_call 176;(with_reducible refine Za (HA.out _ K) ?_);rintro e w4 ⟨rfl,hg⟩;obtain ⟨e0,e1,e2,e3,e4,e5,e6⟩:=(hi.out.ext (K.trans hg)).cells))
       go_ret;exact ⟨rfl,Y.out.trans (K.trans hg)⟩
     |false=>
      rw[hq] at HQ;rw[Yh,Yh];clear hq ht hs e1 S ha;go_enter func125,ntmps125
      go_wp2_with (first|(go_at_call 175;(with_reducible refine Za (HQ.out _ (Ext.refl _)) ?_);rintro e w3 ⟨rfl,K⟩;obtain ⟨d0,d1,d2,d3,d4,d5,d6⟩:=(hi.out.ext K).cells))
      go_ret;exact ⟨rfl,Y.out.trans K⟩
    |false=>have q4:(str t).toList.isEmpty=false:=(by rw[QU];exact ht);rw[Yh,Yh,Yh];clear ht hs e1 S ha;go_enter func125,ntmps125;go_wp2;go_ret;exact ⟨rfl,Y.out⟩
   |false=>have q3:(str s).toList.isEmpty=false:=(by rw[QU];exact hs);rw[Yh,Yh,Yh,Yh];clear hs e1 S ha;go_enter func125,ntmps125;go_wp2;go_ret;exact ⟨rfl,Y.out⟩
  ·have q2:(100:Int)<(X:Int):=(by omega);rw[YG hd];rw[Yh,Yh,Yh,Yh,Yh];clear e1 S ha hd;go_enter func125,ntmps125;go_wp2;go_ret;exact ⟨rfl,Y.out⟩
 ·have q1:((k:Int) !=0)=true:=by rw[YI];omega
  rw[YG S];rw[Yh,Yh,Yh,Yh,Yh,Yh];clear e1 S ha;go_enter func125,ntmps125;go_wp2;go_ret;exact ⟨rfl,Y.out⟩
theorem ZcW (N:Nat) (U:N<=4000000) (x:Nc) (w:Wq) (R:x.nd.fits N) (S:Env w) (J:NmTabs w) (K:RdN w x):
 Calls prog 81 #[.agg (cellsN x).toArray] w λe w'=>e= .returned (nI (if nodeOk 1 x.nd then 0 else 22))/\Ext w w':=by
 have I:=λw' (q:Ext w w')=>ZhR N U x.nd.ht x 1 w' (Zb _) R (by omega) (S.ext q) (J.ext q) (RdN.ext q _ K);have M:=RdN.sl K;obtain ⟨b,Q⟩:∃b,nodeOk 1 x.nd=b:=⟨_,rfl⟩;rw[Q] at I|-;clear Q R K;obtain ⟨k,s,n,al,l0,ks,kids,t,a⟩:=x;obtain ⟨⟨A,V,c,D⟩,⟨B,X,d,F⟩⟩:=M;simp only[Nc.al,Nc.ks] at D F;subst D;subst F;simp only[cellsN] at I|-;have H:=gd I;clear I;have gzz:=(Ext.refl w).alloc (.cells #[nI (k:Nat),.string (str s),.string (str n),.slice A V c,.slice B X d,.string (str t),nI (a:Nat)] 25);cases b with
 |true=>
  go_enter func81,ntmps81
  go_wp2_with (first|(go_at_call 125;(with_reducible refine Za (H.out _ gzz) ?_);rintro e w' ⟨rfl,q⟩))
  go_ret;exact ⟨rfl,gzz.trans q⟩
 |false=>
  go_enter func81,ntmps81
  go_wp2_with (first|(go_at_call 125;(with_reducible refine Za (H.out _ gzz) ?_);rintro e w' ⟨rfl,q⟩))
  go_ret;exact ⟨rfl,gzz.trans q⟩
end
section
variable {B:Nat} {T:TypeId} {b:World}
theorem Qi (hT:BT T) (B b:Nat) (bs:List Value) (s:ByteArray) (w:Wq) (h:Lib.IsBuilder T 5 B b bs w) (hd:bs.length+s.size<=140737488355328) (hf:B<=w.heap.size):
 Calls prog 54 #[.pointer (some ⟨b,0,none⟩),.string s] w λe w'=>e= .returned (.tuple #[nI s.size,.nilIface])/\(Lib.BuilderAt T 5 B b (.pointer (some ⟨b,0,none⟩)) (bs++Lib.strCells s) w'/\Below B w w'/\KeepsT T w w'):=by
 obtain ⟨i0,hi,ha,hb,hc⟩:=Yw Ka;go_enter func54,ntmps54
 go_wp2_with (go_at_call 95;refine (Ut hT B b bs _ h).mono ?_)
 rintro e w1 ⟨rfl,h1,J,S⟩;obtain ⟨hB,v,D,F,Y⟩:=h1;have c0:w1.cell? ⟨b,0,none⟩=some (.pointer (some ⟨b,0,none⟩)):=by rw[Zp D];rfl
 have c1:w1.cell? ⟨b,1,none⟩=some v:=by rw[Zp D];rfl
 go_wp2_with (at_builtin;refine Lib.wpList_append_own_string _ rfl _ _ 94 9 rfl B 5 i0 underlying94 underlying9 hi ha hb hc _ _ _ rfl F s rfl ?c3 ?c4 ?c5 ?_)
 case c3=>unfold maxLen;omega
 case c4=>omega
 case c5=>have:=J.size;omega
 intro v' w2 H q _;have X:b<w1.heap.size:=by
  rcases Xq b w1.heap.size with Q|Q
  ·exact Q
  ·simp[YP Q] at D
 have I:w2.heap[b]? =some (.cells #[.pointer (some ⟨b,0,none⟩),v] T (0,0)):=by rw[q.block b X (λe=>Y e.symm)];exact D
 have d0:w2.cell? ⟨b,0,none⟩=some (.pointer (some ⟨b,0,none⟩)):=by rw[Zp I];rfl
 have d1:w2.cell? ⟨b,1,none⟩=some v:=by rw[Zp I];rfl
 have f1:w2.frozen? ⟨b,1,none⟩=false:=ZX I 1;obtain ⟨ao,n',cap,rfl⟩:∃ao n' cap,v'= .slice ao n' cap:=by
  rcases H.2 with ⟨Z,_⟩|⟨g,cap,he,Z,_⟩
  ·exact ⟨_,_,_,Z⟩
  ·exact ⟨_,_,_,Z⟩
 go_wp2
 go_ret2
 refine ⟨rfl,?_,?_,?_⟩
 ·exact Lib.BuilderAt.put (T:=T) (e:=5) hB I (bs':=bs++Lib.strCells s) (by simpa [Lib.strCells_length] using H) hT.ne
 ·exact (J.grown q (by have:=J.size;omega) (λk R=>(F.lt k R).1)).setCell (p:=⟨b,1,none⟩) hB _
 ·intro k cs t fr R K M;have A:=S k cs t fr R K M;have U:k≠b:=by rintro rfl;rw[D] at A;simp only[Y3,Obj.cells.injEq] at A;exact K A.2.1.symm
  have V:k<w1.heap.size:=(ZG.1 A).1;rw[Below.heap_setCell _ _ _ _ (λe=>U (by simpa using e))];rw[q.block k V (λe=>Lib.ownBlock_ne F A M e.symm)];exact A
structure BKeep (B:Nat) (w w':Wq):Prop where
 below:Below B w w'
 keeps:KeepsT 96 w w'
theorem BKeep.trans {a c:Wq} (h:BKeep B a b) (q:BKeep B b c):BKeep B a c:=⟨h.below.trans q.below,λk cs t fr F A D=>q.keeps k cs t fr (h.keeps k cs t fr F A D) A D⟩
theorem BKeep.of_ext {a:Wq} (h:Ext a b) (q:B<=a.heap.size):BKeep B a b:=⟨Zgh h.below q,λk cs t fr A _ _=>h.heap A⟩
theorem BKeep.then_ext {a c:Wq} (h:BKeep B a b) (q:Ext b c) (A:B<=a.heap.size):BKeep B a c:=h.trans (BKeep.of_ext q (Zu A h.below.size))
theorem BKeep.ext {z a:Wq} (h:Ext z a) (q:BKeep B a b) (A:z.heap.size<=B):Ext z b:=h.then (Zgh q.below A)
theorem BKeep.size {a:Wq} (h:BKeep B a b) (q:B<=a.heap.size):B<=b.heap.size:=Zu q h.below.size
theorem bwS (B b:Nat) (l:List UInt8) (s:ByteArray) (w:Wq) (h:Lib.IsBuilder 96 5 B b (Lib.byteCells l) w) (q:l.length+s.size<=140737488355328) (A:B<=w.heap.size):
 Calls prog 54 #[.pointer (some ⟨b,0,none⟩),.string s] w λe w'=>e= .returned (.tuple #[nI s.size,.nilIface])/\Lib.IsBuilder 96 5 B b (Lib.byteCells (l++s.data.toList)) w'/\BKeep B w w':=
 (Qi Vk B b _ s w h (by rw[Lib.byteCells_length];exact q) A).mono λ_ _ ⟨D,F,H,I⟩=>⟨D,(by rw[Y2];exact Or.inr F),H,I⟩
theorem bwB (B b:Nat) (l:List UInt8) (c:UInt8) (w:Wq) (h:Lib.IsBuilder 96 5 B b (Lib.byteCells l) w) (q:l.length+1<=140737488355328) (A:B<=w.heap.size):
 Calls prog 62 #[.pointer (some ⟨b,0,none⟩),.int .u8 (c.toNat:Nat)] w λe w'=>e= .returned .nilIface/\Lib.IsBuilder 96 5 B b (Lib.byteCells (l++ [c])) w'/\BKeep B w w':=
 (Q6 Vk B b _ _ w h (by rw[Lib.byteCells_length];exact q) A).mono λ_ _ ⟨D,F,H,I⟩=>⟨D,(by rw[Y2];exact Or.inr F),H,I⟩
end
end Go.Proofs.YtnlafkgkcnenfaaGreatDoor
