/- Parts of the proof: contracts and plain laws. -/
import Derived.Test.YtmfinhgobjbecaaGreatDoorA19
namespace Go.Proofs.YtmfinhgobjbecaaGreatDoor
open Go Go.RowKit Go.Joins Go.WideMaps Go.Maps _root_.Go.Proofs.Tryz
set_option linter.unusedVariables false
set_option linter.unusedSimpArgs false
set_option maxRecDepth 100000
set_option maxHeartbeats 16000000
theorem Zoh {a b:Nat} (h:a<=16777216) (A:b<=16777216):wrap64 ((a:Int)+(b:Int))=(a:Int)+(b:Int):=by unfold wrap64;omega
theorem Zf7 {l:List UInt8} (h:(dec l).2=0):dec l=(0,0):=by
 unfold dec at h|-;split
 ·rfl
 ·rename_i A;rw[ZqH A] at h;split
  ·rfl
  ·rename_i C;rw[ZqH C] at h;have D:1<=l.length:=Zr3.2 A;rw[Jg] at h;have:=(Qc l.length (l.getD 0 0).toNat (l.getD 1 0).toNat (l.getD 2 0).toNat (l.getD 3 0).toNat D).1;omega
theorem Zc8 (s:ByteArray) (k:Nat) (w:Wq) (C:s.size<=k):
 Calls prog 152 #[.string s,nI (k:Nat)] w λe w'=>e= .returned (decVal (0,0))/\Ext w w':=by
 have h:¬(k:Int)<0:=om
 have A:(s.size:Int)<=(k:Int):=om
 go_enter func152,ntmps152;go_wp2
 go_ret2
 exact ⟨rfl,Ext.refl _⟩
theorem ZdH (s:ByteArray) (k:Nat) (w:Wq) (A:Env w) (C:s.size<=maxLen):
 Calls prog 152 #[.string s,nI (k:Nat)] w λe w'=>e= .returned (.tuple #[.int .i32 ((dec (s.data.toList.drop k)).1:Nat),nI ((dec (s.data.toList.drop k)).2:Nat)])/\Ext w w':=by
 by_cases h:k<s.size
 ·exact GU s k w A h C
 ·have:=Zc8 s k w om;rw[Zq3 (by rw[Zb];omega)];exact this
theorem Zf6 {l:List UInt8}:(dec l).1<=1114111:=by
 by_cases h:(dec l).2=0
 ·rw[Zf7 h];exact ZqO _
 ·have:=(Ze1 [] h).2.1;unfold scalar at this;omega
theorem ZoU (b:Bool):nmOk true b 58=true:=by cases b<;>rfl
theorem Zg7 {r:Nat} (h:(r==58)=false):nmOk true true r=nmStart r:=by unfold nmOk;rw[h];rfl
theorem Zjd {r:Nat} (h:(r==58)=false):nmOk true false r=nmChar r:=by unfold nmOk;rw[h];rfl
theorem ZjC {r:Nat} (h:nmChar r=false):nmStart r=false:=by unfold nmChar at h;rw[Bool.or_eq_false_iff] at h;exact h.1
theorem Zlx (s:ByteArray) (b w:Wq) (g:Nat) (hE:Env b) (hN:NmTabs b) (hs:s.size<=16777216) (hH:b.heap.size<=g) (hJ:Ext b w) (hg:w.heap[g]? =some (.cells #[.string s,nI 0,nI 0,nI 0] 261)):
 Calls prog 199 #[.pointer (some ⟨g,0,none⟩)] w λe w'=>e= .returned (.string (s.extract 0 (nmLen true s.data.toList)))/\Ext b w':=by
 have hU:s.size<=maxLen:=by unfold maxLen;omega
 obtain ⟨l,hl⟩:∃l,s.data.toList=l:=⟨_,rfl⟩;have hI:l.length=s.size:=by rw[<-hl,Zb]
 rw[hl];obtain ⟨R0,hv⟩:∃n,nmLen true l=n:=⟨_,rfl⟩;rw[hv];have hP:=gd hv;have HL:=gd hl;have hO:=gd hI;have c0:w.cell? ⟨g,0,none⟩=some (.string s):=by rw[ZsQ hg];rfl
 have c1:w.cell? ⟨g,1,none⟩=some (nI 0):=by rw[ZsQ hg];rfl
 have hM:=gd hg;have hu:=gd hH;have hQ:=gd hJ;have HE:=gd hE;have hA:=gd hN;clear hv hl hI hg hH hJ hE hN;go_enter func199,ntmps199;go_wp2;go_loopw [4] (λv wr=>∃j:Nat,v=v/\j<=s.size/\wr.heap[g]? =some (.cells #[.string s,nI (j:Nat),nI 0,nI 0] 261)/\Hid (NmPre true true l j)/\Ext b wr) (λv wr=>s.size - (intOf ((wr.cell? ⟨g,1,none⟩).getD undef)).toNat)
 case atStart=>exact ⟨0,(by trivial),ZqO _,hM.out,gd (.zero _ _),hQ.out⟩
 case round=>
  obtain ⟨j, -,hj,hr,hp,hL⟩:=hrel;have c0:wr.cell? ⟨g,0,none⟩=some (.string s):=by rw[ZsQ hr];rfl
  have c1:wr.cell? ⟨g,1,none⟩=some (nI (j:Nat)):=by rw[ZsQ hr];rfl
  have hi:Hid ((intOf ((wr.cell? ⟨g,1,none⟩).getD undef)).toNat=j):=by show _=_;rw[c1];simp[intOf]
  have hD:=λw' (hx:Ext b w')=>ZdH s j w' (HE.out.ext hx) hU;have hw:=Xi (l.drop j);rw[ZqP,hO.out] at hw;have Y:((dec (l.drop j)).2=0\/nmOk true (decide (j=0)) (dec (l.drop j)).1=false)->R0=j:=λh=>by
   rw[<-hP.out];by_cases hT:j<l.length
   ·exact (Zcu hp.out hT h).2
   ·have h1:=hp.out.go;unfold nmLen;rw[h1.2,Zq3 om,Jk];rfl
  have V:(dec (l.drop j)).2≠0->nmOk true (decide (j=0)) (dec (l.drop j)).1=true->NmPre true true l (j+(dec (l.drop j)).2):=λh1 h2=>hp.out.snoc h1 (by simpa using h2);have Z:(dec (l.drop j)).2=0->(dec (l.drop j)).1=0:=λh=>by rw[Zf7 h]
  have ht:=Zf6 (l:=l.drop j);rw[HL.out] at hD;obtain ⟨R,hR⟩:∃R,(dec (l.drop j)).1=R:=⟨_,rfl⟩;obtain ⟨n,hn⟩:∃n,(dec (l.drop j)).2=n:=⟨_,rfl⟩;rw[hR,hn] at hD Y V;rw[hn] at hw Z;rw[hR] at Z ht;have HD:=gd hD;have HC:=gd (λw' (hx:Ext b w')=>Zfi R w' (hA.out.ext hx) ht);have HS:=gd (λw' (hx:Ext b w')=>GL R w' (hA.out.ext hx) ht);have X:=gd hL;have HG:=gd hr;have he:Hid (j+n<=s.size):=gd om;have hf:Hid (wrap64 ((j:Int)+(n:Int))=(j:Int)+(n:Int)):=gd (Zoh om om);have hB:=gd (λwx=>Qz s 0 j 0 j rfl rfl (ZqO _) hj wx);have hX:(0:Int)<=(j:Int):=om
  clear hD hR hn hr hL hw ht;by_cases hc:R=58
  ·have U:n≠0:=λe=>(by have:=Z e;omega);have hk:=gd (V U (by rw[hc];exact ZoU _));have hm:=gd U;have hW:((R:Int)==58)=true:=(by rw[ZsE];omega);have qn:((n:Int)==0)=false:=(by rw[ZqW];omega);clear hc U Z Y V hp;go_wp2;have F:=(Ext.refl wr).drew;have A:wr.drew.cell? ⟨g,0,none⟩=some (.string s)/\wr.drew.cell? ⟨g,1,none⟩=some (nI (j:Nat)):=⟨F.cell c0,F.cell c1⟩;refine rN ?_;change wpAny _ _ _ _ _ _ _ (World.drew _);refine ZE (λw'=>w'.cell? ⟨g,0,none⟩=some (.string s)/\w'.cell? ⟨g,1,none⟩=some (nI (j:Nat))) ?_;refine tG 0 (.pointer (some ⟨g,0,none⟩)) A ?_;refine tG 1 (.pointer (some ⟨g,0,none⟩)) A ?_;refine tG 2 (.pointer (some ⟨g,0,none⟩)) A ?_;refine tS 3 (.string s) rfl (λw' O=>by have q1:=O.1;have q2:=O.2;go_simp) A ?_;refine tG 4 (.pointer (some ⟨g,0,none⟩)) A ?_;refine tG 5 (.pointer (some ⟨g,0,none⟩)) A ?_;refine tG 6 (.pointer (some ⟨g,1,none⟩)) A ?_;refine tS 7 (nI (j:Nat)) rfl (λw' O=>by have q1:=O.1;have q2:=O.2;go_simp) A ?_;go_simp;refine sS 8 λK hK=> ?_;go_simp;go_at_call 152;have hz:=HD.out _ (X.out.trans F)
   with_reducible refine ZqD hz ?_
   clear hz;rintro e w3 ⟨rfl,I⟩;have C:w3.cell? ⟨g,0,none⟩=some (.string s)/\w3.cell? ⟨g,1,none⟩=some (nI (j:Nat)):=⟨I.cell A.1,I.cell A.2⟩;refine hK _ _ C ?_;clear hK K;refine sS 9 λK hK=> ?_;go_simp;refine hK _ _ C ?_;clear hK K;refine tG 10 (.int .i32 (R:Nat)) C ?_;refine tG 11 (nI (n:Nat)) C ?_;go_simp;refine sS 12 λK hK=> ?_;go_simp;refine hK _ _ C ?_;clear hK K;refine sS 13 λK hK=> ?_;go_simp;refine hK _ _ C ?_;clear hK K;refine sE ?_;have H:=F.trans I;have S:=gd (X.out.trans H);have Q:=gd (H.heap HG.out);clear c0 c1 A F I HD;obtain ⟨d0,d1⟩:=C;have hq:w3.frozen? ⟨g,1,none⟩=false:=Zso (H.heap HG.out) 1;have e0:=d0;have e1:=d1;have ef:=hq;have D:=Ext.refl w3;go_wp2;go_roundw
   case rel=>exact ⟨j+n,(by trivial),he.out,by rw[Int.natCast_add,hf.out];exact Zrh _ g 1 _ _ _ (D.heap Q.out),hk.out,(S.out.trans D).setCell hu.out _⟩
   case measure=>have h8:=hi.out;have h9:(w3.setCell ⟨g,1,none⟩ (nI ((j:Int)+(n:Int)))).cell? ⟨g,1,none⟩=some (nI ((j:Int)+(n:Int))):=(by rw[ZsQ (Zrh _ g 1 _ _ _ (D.heap Q.out))];rfl);have hC:=he.out;have hF:=hm.out;rw[h8,hf.out,h9];simp[intOf];omega
  have ha:(R==58)=false:=by simpa using hc
  have hW:((R:Int)==58)=false:=by rw[ZqW];omega
  by_cases hh:j=0
  ·have qj:¬(0:Int)<(j:Int):=om;rw[Zrj hh,Zg7 ha] at Y V;cases hb:nmStart R
   focus
    have ho:=gd (Y (Or.inr hb))
    rw[hb] at HS
    clear hc ha Z Y V hp hh hb
    go_wp2
    have F:=(Ext.refl wr).drew
    have A:wr.drew.cell? ⟨g,0,none⟩=some (.string s)/\wr.drew.cell? ⟨g,1,none⟩=some (nI (j:Nat)):=⟨F.cell c0,F.cell c1⟩
    refine rN ?_
    change wpAny _ _ _ _ _ _ _ (World.drew _)
    refine ZE (λw'=>w'.cell? ⟨g,0,none⟩=some (.string s)/\w'.cell? ⟨g,1,none⟩=some (nI (j:Nat))) ?_
    refine tG 0 (.pointer (some ⟨g,0,none⟩)) A ?_
    refine tG 1 (.pointer (some ⟨g,0,none⟩)) A ?_
    refine tG 2 (.pointer (some ⟨g,0,none⟩)) A ?_
    refine tS 3 (.string s) rfl (λw' O=>by have q1:=O.1;have q2:=O.2;go_simp) A ?_
    refine tG 4 (.pointer (some ⟨g,0,none⟩)) A ?_
    refine tG 5 (.pointer (some ⟨g,0,none⟩)) A ?_
    refine tG 6 (.pointer (some ⟨g,1,none⟩)) A ?_
    refine tS 7 (nI (j:Nat)) rfl (λw' O=>by have q1:=O.1;have q2:=O.2;go_simp) A ?_
    go_simp
    refine sS 8 λK hK=> ?_
    go_simp
    go_at_call 152
    have hz:=HD.out _ (X.out.trans F)
    with_reducible refine ZqD hz ?_
    clear hz
    rintro e w3 ⟨rfl,I⟩
    have C:w3.cell? ⟨g,0,none⟩=some (.string s)/\w3.cell? ⟨g,1,none⟩=some (nI (j:Nat)):=⟨I.cell A.1,I.cell A.2⟩
    refine hK _ _ C ?_
    clear hK K
    refine sS 9 λK hK=> ?_
    go_simp
    refine hK _ _ C ?_
    clear hK K
    refine tG 10 (.int .i32 (R:Nat)) C ?_
    refine tG 11 (nI (n:Nat)) C ?_
    go_simp
    refine sS 12 λK hK=> ?_
    go_simp
    refine hK _ _ C ?_
    clear hK K
    refine sS 13 λK hK=> ?_
    go_simp
    refine hK _ _ C ?_
    clear hK K
    refine sE ?_
    have H:=F.trans I
    have S:=gd (X.out.trans H)
    have Q:=gd (H.heap HG.out)
    clear c0 c1 A F I HD
    obtain ⟨d0,d1⟩:=C
    have hq:w3.frozen? ⟨g,1,none⟩=false:=Zso (H.heap HG.out) 1
    cases hqn:((n:Int)==0)
   rotate_left
   rotate_left
   ·have U:n≠0:=λe=>(by rw[Z e] at hb;revert hb;decide);have hk:=gd (V U hb);have hm:=gd U;have qn:((n:Int)==0)=false:=(by rw[ZqW];omega);rw[hb] at HS;clear hc ha U Z Y V hp hh hb;go_wp2;have F:=(Ext.refl wr).drew;have A:wr.drew.cell? ⟨g,0,none⟩=some (.string s)/\wr.drew.cell? ⟨g,1,none⟩=some (nI (j:Nat)):=⟨F.cell c0,F.cell c1⟩;refine rN ?_;change wpAny _ _ _ _ _ _ _ (World.drew _);refine ZE (λw'=>w'.cell? ⟨g,0,none⟩=some (.string s)/\w'.cell? ⟨g,1,none⟩=some (nI (j:Nat))) ?_;refine tG 0 (.pointer (some ⟨g,0,none⟩)) A ?_;refine tG 1 (.pointer (some ⟨g,0,none⟩)) A ?_;refine tG 2 (.pointer (some ⟨g,0,none⟩)) A ?_;refine tS 3 (.string s) rfl (λw' O=>by have q1:=O.1;have q2:=O.2;go_simp) A ?_;refine tG 4 (.pointer (some ⟨g,0,none⟩)) A ?_;refine tG 5 (.pointer (some ⟨g,0,none⟩)) A ?_;refine tG 6 (.pointer (some ⟨g,1,none⟩)) A ?_;refine tS 7 (nI (j:Nat)) rfl (λw' O=>by have q1:=O.1;have q2:=O.2;go_simp) A ?_;go_simp;refine sS 8 λK hK=> ?_;go_simp;go_at_call 152;have hz:=HD.out _ (X.out.trans F)
    with_reducible refine ZqD hz ?_
    clear hz;rintro e w3 ⟨rfl,I⟩;have C:w3.cell? ⟨g,0,none⟩=some (.string s)/\w3.cell? ⟨g,1,none⟩=some (nI (j:Nat)):=⟨I.cell A.1,I.cell A.2⟩;refine hK _ _ C ?_;clear hK K;refine sS 9 λK hK=> ?_;go_simp;refine hK _ _ C ?_;clear hK K;refine tG 10 (.int .i32 (R:Nat)) C ?_;refine tG 11 (nI (n:Nat)) C ?_;go_simp;refine sS 12 λK hK=> ?_;go_simp;refine hK _ _ C ?_;clear hK K;refine sS 13 λK hK=> ?_;go_simp;refine hK _ _ C ?_;clear hK K;refine sE ?_;have H:=F.trans I;have S:=gd (X.out.trans H);have Q:=gd (H.heap HG.out);clear c0 c1 A F I HD;obtain ⟨d0,d1⟩:=C;have hq:w3.frozen? ⟨g,1,none⟩=false:=Zso (H.heap HG.out) 1
    go_wp2_with (first|(go_at_call 215;refine ZqD (HS.out _ S.out) ?_;rintro e w4 ⟨rfl,D⟩;have e0:=D.cell d0;have e1:=D.cell d1;have ef:w4.frozen? ⟨g,1,none⟩=false:=Zso (D.heap Q.out) 1))
    go_roundw
    case rel=>exact ⟨j+n,(by trivial),he.out,by rw[Int.natCast_add,hf.out];exact Zrh _ g 1 _ _ _ (D.heap Q.out),hk.out,(S.out.trans D).setCell hu.out _⟩
    case measure=>have h8:=hi.out;have h9:(w4.setCell ⟨g,1,none⟩ (nI ((j:Int)+(n:Int)))).cell? ⟨g,1,none⟩=some (nI ((j:Int)+(n:Int))):=(by rw[ZsQ (Zrh _ g 1 _ _ _ (D.heap Q.out))];rfl);have hC:=he.out;have hF:=hm.out;rw[h8,hf.out,h9];simp[intOf];omega
   all_goals
    go_wp2_with (first|(go_at_call 215;refine ZqD (HS.out _ S.out) ?_;rintro e w4 ⟨rfl,D⟩;have e0:=D.cell d0;have e1:=D.cell d1;have ef:w4.frozen? ⟨g,1,none⟩=false:=Zso (D.heap Q.out) 1))
    have hd:=(Ext.refl w4).drew
    have J:w4.drew.cell? ⟨g,0,none⟩=some (.string s)/\w4.drew.cell? ⟨g,1,none⟩=some (nI (j:Nat)):=⟨hd.cell e0,hd.cell e1⟩
    have hV:=hB.out
    refine rN ?_
    change wpAny _ _ _ _ _ _ _ (World.drew _)
    refine ZE (λw'=>w'.cell? ⟨g,0,none⟩=some (.string s)/\w'.cell? ⟨g,1,none⟩=some (nI (j:Nat))) ?_
    refine tG 0 (.pointer (some ⟨g,0,none⟩)) J ?_
    refine tG 1 (.pointer (some ⟨g,0,none⟩)) J ?_
    refine tG 2 (.pointer (some ⟨g,0,none⟩)) J ?_
    refine tS 3 (.string s) rfl (λw' O=>by have q1:=O.1;have q2:=O.2;go_simp) J ?_
    refine tG 4 (nI 0) J ?_
    refine tG 5 (.pointer (some ⟨g,0,none⟩)) J ?_
    refine tG 6 (.pointer (some ⟨g,0,none⟩)) J ?_
    refine tG 7 (.pointer (some ⟨g,1,none⟩)) J ?_
    refine tS 8 (nI (j:Nat)) rfl (λw' O=>by have q1:=O.1;have q2:=O.2;go_simp) J ?_
    go_simp
    refine sS 9 λK hK=> ?_
    go_simp
    refine hK _ _ J ?_
    clear hK K
    refine sS 10 λK hK=> ?_
    go_simp
    refine hK _ _ J ?_
    clear hK K
    refine sE ?_
    go_wp2
    go_ret
    exact ⟨by rw[ho.out];rfl,(S.out.trans D).trans hd⟩
  have qj:(0:Int)<(j:Int):=om
  rw[Zre hh,Zjd ha] at Y V;cases hb:nmChar R
  focus
   have ho:=gd (Y (Or.inr hb))
   have hG:=ZjC hb
   rw[hb] at HC
   rw[hG] at HS
   clear hc ha Z Y V hp hh hb hG
   go_wp2
   have F:=(Ext.refl wr).drew
   have A:wr.drew.cell? ⟨g,0,none⟩=some (.string s)/\wr.drew.cell? ⟨g,1,none⟩=some (nI (j:Nat)):=⟨F.cell c0,F.cell c1⟩
   refine rN ?_
   change wpAny _ _ _ _ _ _ _ (World.drew _)
   refine ZE (λw'=>w'.cell? ⟨g,0,none⟩=some (.string s)/\w'.cell? ⟨g,1,none⟩=some (nI (j:Nat))) ?_
   refine tG 0 (.pointer (some ⟨g,0,none⟩)) A ?_
   refine tG 1 (.pointer (some ⟨g,0,none⟩)) A ?_
   refine tG 2 (.pointer (some ⟨g,0,none⟩)) A ?_
   refine tS 3 (.string s) rfl (λw' O=>by have q1:=O.1;have q2:=O.2;go_simp) A ?_
   refine tG 4 (.pointer (some ⟨g,0,none⟩)) A ?_
   refine tG 5 (.pointer (some ⟨g,0,none⟩)) A ?_
   refine tG 6 (.pointer (some ⟨g,1,none⟩)) A ?_
   refine tS 7 (nI (j:Nat)) rfl (λw' O=>by have q1:=O.1;have q2:=O.2;go_simp) A ?_
   go_simp
   refine sS 8 λK hK=> ?_
   go_simp
   go_at_call 152
   have hz:=HD.out _ (X.out.trans F)
   with_reducible refine ZqD hz ?_
   clear hz
   rintro e w3 ⟨rfl,I⟩
   have C:w3.cell? ⟨g,0,none⟩=some (.string s)/\w3.cell? ⟨g,1,none⟩=some (nI (j:Nat)):=⟨I.cell A.1,I.cell A.2⟩
   refine hK _ _ C ?_
   clear hK K
   refine sS 9 λK hK=> ?_
   go_simp
   refine hK _ _ C ?_
   clear hK K
   refine tG 10 (.int .i32 (R:Nat)) C ?_
   refine tG 11 (nI (n:Nat)) C ?_
   go_simp
   refine sS 12 λK hK=> ?_
   go_simp
   refine hK _ _ C ?_
   clear hK K
   refine sS 13 λK hK=> ?_
   go_simp
   refine hK _ _ C ?_
   clear hK K
   refine sE ?_
   have H:=F.trans I
   have S:=gd (X.out.trans H)
   have Q:=gd (H.heap HG.out)
   clear c0 c1 A F I HD
   obtain ⟨d0,d1⟩:=C
   have hq:w3.frozen? ⟨g,1,none⟩=false:=Zso (H.heap HG.out) 1
   cases hqn:((n:Int)==0)
  rotate_left
  rotate_left
  ·have U:n≠0:=λe=>(by rw[Z e] at hb;revert hb;decide);have hk:=gd (V U hb);have hm:=gd U;have qn:((n:Int)==0)=false:=(by rw[ZqW];omega);rw[hb] at HC;clear hc ha U Z Y V hp hh hb;go_wp2;have F:=(Ext.refl wr).drew;have A:wr.drew.cell? ⟨g,0,none⟩=some (.string s)/\wr.drew.cell? ⟨g,1,none⟩=some (nI (j:Nat)):=⟨F.cell c0,F.cell c1⟩;refine rN ?_;change wpAny _ _ _ _ _ _ _ (World.drew _);refine ZE (λw'=>w'.cell? ⟨g,0,none⟩=some (.string s)/\w'.cell? ⟨g,1,none⟩=some (nI (j:Nat))) ?_;refine tG 0 (.pointer (some ⟨g,0,none⟩)) A ?_;refine tG 1 (.pointer (some ⟨g,0,none⟩)) A ?_;refine tG 2 (.pointer (some ⟨g,0,none⟩)) A ?_;refine tS 3 (.string s) rfl (λw' O=>by have q1:=O.1;have q2:=O.2;go_simp) A ?_;refine tG 4 (.pointer (some ⟨g,0,none⟩)) A ?_;refine tG 5 (.pointer (some ⟨g,0,none⟩)) A ?_;refine tG 6 (.pointer (some ⟨g,1,none⟩)) A ?_;refine tS 7 (nI (j:Nat)) rfl (λw' O=>by have q1:=O.1;have q2:=O.2;go_simp) A ?_;go_simp;refine sS 8 λK hK=> ?_;go_simp;go_at_call 152;have hz:=HD.out _ (X.out.trans F)
   with_reducible refine ZqD hz ?_
   clear hz;rintro e w3 ⟨rfl,I⟩;have C:w3.cell? ⟨g,0,none⟩=some (.string s)/\w3.cell? ⟨g,1,none⟩=some (nI (j:Nat)):=⟨I.cell A.1,I.cell A.2⟩;refine hK _ _ C ?_;clear hK K;refine sS 9 λK hK=> ?_;go_simp;refine hK _ _ C ?_;clear hK K;refine tG 10 (.int .i32 (R:Nat)) C ?_;refine tG 11 (nI (n:Nat)) C ?_;go_simp;refine sS 12 λK hK=> ?_;go_simp;refine hK _ _ C ?_;clear hK K;refine sS 13 λK hK=> ?_;go_simp;refine hK _ _ C ?_;clear hK K;refine sE ?_;have H:=F.trans I;have S:=gd (X.out.trans H);have Q:=gd (H.heap HG.out);clear c0 c1 A F I HD;obtain ⟨d0,d1⟩:=C;have hq:w3.frozen? ⟨g,1,none⟩=false:=Zso (H.heap HG.out) 1
   go_wp2_with (first|(go_at_call 214;refine ZqD (HC.out _ S.out) ?_;rintro e w4 ⟨rfl,D⟩;have e0:=D.cell d0;have e1:=D.cell d1;have ef:w4.frozen? ⟨g,1,none⟩=false:=Zso (D.heap Q.out) 1))
   go_roundw
   case rel=>exact ⟨j+n,(by trivial),he.out,by rw[Int.natCast_add,hf.out];exact Zrh _ g 1 _ _ _ (D.heap Q.out),hk.out,(S.out.trans D).setCell hu.out _⟩
   case measure=>have h8:=hi.out;have h9:(w4.setCell ⟨g,1,none⟩ (nI ((j:Int)+(n:Int)))).cell? ⟨g,1,none⟩=some (nI ((j:Int)+(n:Int))):=(by rw[ZsQ (Zrh _ g 1 _ _ _ (D.heap Q.out))];rfl);have hC:=he.out;have hF:=hm.out;rw[h8,hf.out,h9];simp[intOf];omega
  all_goals
   go_wp2_with (first|(go_at_call 214;refine ZqD (HC.out _ S.out) ?_;rintro e w4 ⟨rfl,D⟩;have e0:=D.cell d0;have e1:=D.cell d1;have ef:w4.frozen? ⟨g,1,none⟩=false:=Zso (D.heap Q.out) 1)|(go_at_call 215;refine ZqD (HS.out _ (S.out.trans D)) ?_;rintro e w5 ⟨rfl,hy⟩;have f0:=(D.trans hy).cell d0;have f1:=(D.trans hy).cell d1))
   have hd:=(Ext.refl w5).drew
   have J:w5.drew.cell? ⟨g,0,none⟩=some (.string s)/\w5.drew.cell? ⟨g,1,none⟩=some (nI (j:Nat)):=⟨hd.cell f0,hd.cell f1⟩
   have hV:=hB.out
   refine rN ?_
   change wpAny _ _ _ _ _ _ _ (World.drew _)
   refine ZE (λw'=>w'.cell? ⟨g,0,none⟩=some (.string s)/\w'.cell? ⟨g,1,none⟩=some (nI (j:Nat))) ?_
   refine tG 0 (.pointer (some ⟨g,0,none⟩)) J ?_
   refine tG 1 (.pointer (some ⟨g,0,none⟩)) J ?_
   refine tG 2 (.pointer (some ⟨g,0,none⟩)) J ?_
   refine tS 3 (.string s) rfl (λw' O=>by have q1:=O.1;have q2:=O.2;go_simp) J ?_
   refine tG 4 (nI 0) J ?_
   refine tG 5 (.pointer (some ⟨g,0,none⟩)) J ?_
   refine tG 6 (.pointer (some ⟨g,0,none⟩)) J ?_
   refine tG 7 (.pointer (some ⟨g,1,none⟩)) J ?_
   refine tS 8 (nI (j:Nat)) rfl (λw' O=>by have q1:=O.1;have q2:=O.2;go_simp) J ?_
   go_simp
   refine sS 9 λK hK=> ?_
   go_simp
   refine hK _ _ J ?_
   clear hK K
   refine sS 10 λK hK=> ?_
   go_simp
   refine hK _ _ J ?_
   clear hK K
   refine sE ?_
   go_wp2
   go_ret
   exact ⟨by rw[ho.out];rfl,(S.out.trans (D.trans hy)).trans hd⟩
theorem Zc2:(prog.info? 261).map (·.size)=some 4:=by kernel_rfl
theorem ZaR (s:ByteArray) (w:Wq) (hE:Env w) (hN:NmTabs w) (hs:s.size<=16777216):
 Calls prog 167 #[.string s] w λe w'=>e= .returned (.bool (isQ s.data.toList))/\Ext w w':=by
 obtain ⟨O,A⟩:∃O,w.alloc (.cells #[.string s,nI 0,nI 0,nI 0] 261)=O:=⟨_,rfl⟩;have J:Ext w O:=by rw[<-A];exact (Ext.refl w).alloc _
 have X:O.heap[w.heap.size]? =some (.cells #[.string s,nI 0,nI 0,nI 0] 261):=by rw[<-A];exact ZqJ w _
 have D:(#[Value.string s,nI 0,nI 0,nI 0]).all (λu=>u.oneCell')=true:=by simp[Value.oneCell']
 have F:=gd (Zlx s w O w.heap.size hE hN hs (ZqE _) J X);have S:isQ s.data.toList=(decide (0<s.size) && decide (nmLen true s.data.toList=s.size)):=by unfold isQ;rw[Zb,Bool.decide_and]
 have H:nmLen true s.data.toList<=s.size:=by
  unfold nmLen;have:=Zfj true s.data.toList.length true s.data.toList
  rwa [Zb] at this
 rw[S];obtain ⟨m,Y⟩:∃m,nmLen true s.data.toList=m:=⟨_,rfl⟩;rw[Y] at F H|-;have C:(s.extract 0 m=s)↔m=s.size:=by
  constructor
  ·intro e;have Z:=ZqS ByteArray.size e;rw[ByteArray.size_extract] at Z;omega
  ·intro e;rw[e];apply Jf;rw[Jt _ _ _ (ZqO _),Zsf,Nat.sub_zero,Zq4 (by rw[Zb];omega)]
 have U:=gd J;clear Y J X S;by_cases Q:s.size=0
 ·have hb:s.toList.isEmpty=true:=by rw[Zn,Zsi];exact ZqX Q
  have h:(decide (0<s.size) && decide (m=s.size))=false:=by rw[Zre om];rfl
  rw[h];clear h Q H C;go_enter func167,ntmps167
  go_wp2_with (first|(refine ZqF rfl 261 (.tmp 3) (.tmp 5) rfl w.heap.size #[.string s,nI 0,nI 0,nI 0] rfl rfl _ _ (ZqJ _ _) Zc2 rfl D ?_;rw[Zh];rw[A]))
  go_ret;exact ⟨rfl,U.out⟩
 ·have hb:s.toList.isEmpty=false:=by
   rw[Zn];cases hl:s.data.toList with
   |nil=>exact absurd (by have:=ZqS List.length hl;rw[Zb] at this;exact this) Q
   |cons a t=>rfl
  cases hd:decide (m=s.size) with
  |true=>
   have V:=C.2 (Zro hd);have h:(decide (0<s.size) && true)=true:=(by rw[Zrj om];rfl);rw[h];rw[V] at F;clear h Q H C hd V;go_enter func167,ntmps167
   go_wp2_with (first|(refine ZqF rfl 261 (.tmp 3) (.tmp 5) rfl w.heap.size #[.string s,nI 0,nI 0,nI 0] rfl rfl _ _ (ZqJ _ _) Zc2 rfl D ?_;rw[Zh];rw[A])|(go_at_call 199;refine ZqD F.out ?_;rintro e w' ⟨rfl,I⟩))
   go_ret;exact ⟨by simp,I⟩
  |false=>
   have R:s.extract 0 m≠s:=λe=>(by have:=C.1 e;rw[Zrj this] at hd;cases hd);have ha:((s.extract 0 m).toList==s.toList)=false:=(by rw[ZqW];intro e;rw[Zn,Zn] at e;exact R (Jf e));rw[Bool.and_false];clear Q H C hd R;go_enter func167,ntmps167
   go_wp2_with (first|(refine ZqF rfl 261 (.tmp 3) (.tmp 5) rfl w.heap.size #[.string s,nI 0,nI 0,nI 0] rfl rfl _ _ (ZqJ _ _) Zc2 rfl D ?_;rw[Zh];rw[A])|(go_at_call 199;refine ZqD F.out ?_;rintro e w' ⟨rfl,I⟩))
   go_ret;exact ⟨rfl,I⟩
theorem Zjz (l:List AtP) (nm:List UInt8):(l.map AtP.name).contains nm=l.any (λe=>decide (str e.name=str nm)):=by
 induction l with
 |nil=>rfl
 |cons a t ih=>
  rw[Zq8,List.contains_cons,List.any_cons,ih]
  congr 1
  by_cases h:a.name=nm
  ·rw[h,Zrj rfl];simp
  ·rw[Zre (λe=>h (Zkh e))];simpa using λe=>h e.symm
theorem Zie (v:Value) (l:List AtP) (w:Wq) (hE:Env w) (hN:NmTabs w) (h:RAts w v l) (hf:∀a∈l,a.name.length<=16777216/\a.value.length<=16777216) (hn:l.length<=16777216):
 Calls prog 168 #[v] w λe w'=>e= .returned (.bool (attrsOk l []))/\Ext w w':=by
 obtain ⟨A,c,rfl, -, -⟩:=h.form;have hG:= @run_makeMap prog;obtain ⟨R,hR⟩:∃R,attrsOk l []=R:=⟨_,rfl⟩;rw[hR];have HR:Hid (attrsOk (l.drop 0) ((l.take 0).map AtP.name)=R):=hR;have HF:=gd hf;have HH:=gd h;have hg:=gd hE;have hv:=gd hN;clear hR hf h hE hN;go_enter func168,ntmps168;go_wp2;go_loopw [9] (λi wr=>∃(k:Nat) (D:DataW Unit),k<=l.length/\i=nI k/\wr.ownsMap prog 9 (plainElem prog 4) w.heap.size k D/\Hid (SeenMap D (λs=>(l.take k).any (λe=>decide (str e.name=s))))/\Hid (attrsOk (l.drop k) ((l.take k).map AtP.name)=R)/\Ext w wr) (λi _=>l.length - (intOf i).toNat)
 case atStart=>exact ⟨0,.map [],ZqO _,rfl,World.ownsMap_made _ _ _ _,gd SeenMap.nil,HR,(Ext.refl _).alloc _⟩
 case round=>
  obtain ⟨k,D,hk,rfl,hM,hD,Q,he⟩:=hrel;by_cases S:k<l.length
  ·obtain ⟨ad,c1,e1,hj⟩:=(RAts.ext HH.out he).at S;injection e1 with e1 e1' e1'';subst e1;clear e1' e1'';have X:=HF.out _ (Zq2 S);have hd:=ZqQ S;have H:=Q.out;rw[ZqR S,attrsOk,Zjz] at H;have ha:(l.take (k+1)).map AtP.name=(l.take k).map AtP.name++ [l[k].name]:=(by rw[hd,Zrf];rfl);rw[<-ha] at H;have Z:Hid (SeenMap (D.put (.string (str l[k].name).data.toList) (.lit (.bool true))) (λs=>(l.take (k+1)).any (λe=>decide (str e.name=s)))):=gd (hD.out.put λt=>by rw[hd,List.any_append];simp);obtain ⟨b,hb⟩:∃b,(l.take k).any (λe=>decide (str e.name=str l[k].name))=b:=⟨_,rfl⟩;rw[hb] at H;obtain ⟨x,ho⟩:∃x,l[k]=x:=⟨_,rfl⟩;rw[ho] at hj X H Z hb;have hc:(str x.name).size<=maxLen:=(by rw[Zo];unfold maxLen;omega);have hh:=gd (show keyOf prog 9 (.string (str x.name))=some (.string (str x.name).data.toList) from keyOf_string_mk underlying9 hc);have HM:=gd hM;have hp:Hid (k<maxLen):=gd (by unfold maxLen;omega);obtain ⟨W2,J⟩:∃W2,wr.alloc (.cells #[.string (str x.space),.string (str x.name),.string (str x.value),nI (x.at_:Nat)] 53)=W2:=⟨_,rfl⟩;have Y:Ext wr W2:=(by rw[<-J];exact (Ext.refl _).alloc _);have V:W2.heap[wr.heap.size]? =some (.cells #[.string (str x.space),.string (str x.name),.string (str x.value),nI (x.at_:Nat)] 53):=(by rw[<-J];exact ZqJ _ _);have hz:=Zaq (hM.kept (Y.grown none) (by simp)) hD.out hc;simp only[hb] at hz;have c0:W2.cell? ⟨wr.heap.size,0,none⟩=some (.string (str x.space)):=(by rw[ZqI _ _ _ _ _ _ V];rfl);have c1:W2.cell? ⟨wr.heap.size,1,none⟩=some (.string (str x.name)):=(by rw[ZqI _ _ _ _ _ _ V];rfl);have c2:W2.cell? ⟨wr.heap.size,2,none⟩=some (.string (str x.value)):=(by rw[ZqI _ _ _ _ _ _ V];rfl);have hw:=gd Y;have F:=gd (he.trans Y);have HQ:=gd (λw' (hx:Ext w w')=>ZaR (str x.name) w' (hg.out.ext hx) (hv.out.ext hx) (by rw[Zo];exact X.1));have HC:=gd (λw' (hx:Ext w w')=>ZdR (str x.value) w' (hg.out.ext hx) (by rw[Zo];exact X.2));simp only[Zg] at HQ HC;have hC:(0:Int)<=(k:Int):=om;have hF:(k:Int)<(l.length:Int):=om;obtain ⟨q,hq⟩:∃q,isQ x.name=q:=⟨_,rfl⟩;obtain ⟨ch,hl⟩:∃ch,charsOk x.value=ch:=⟨_,rfl⟩;rw[hq] at HQ H;rw[hl] at HC H;obtain ⟨a0,a1,a2,a3⟩:=hj;clear Y V hM hb hq hl hd ha X ho hc;by_cases hs:x.space= []
   ·have hA:(str x.space).toList.isEmpty=true:=(by rw[hs];exact Xh);have U:x.space.isEmpty=true:=(by rw[hs];rfl);rw[U,Zr2] at H;clear hs U;cases b with
    |true=>
     have O:false=R:=H;subst O;clear H HR
     skip
     go_wp2_with (first|(refine ZqF rfl 53 (.tmp 5) (.tmp 12) rfl wr.heap.size #[.string (str x.space),.string (str x.name),.string (str x.value),nI (x.at_:Nat)] rfl rfl _ _ (ZqJ _ _) Z7 rfl (JS x) ?_;rw[Zh];rw[J]))
     go_ret;exact ⟨rfl,F.out⟩
    |false=>
     cases q with
     |false=>
      have O:false=R:=H;subst O;clear H HR
      skip
      go_wp2_with (first|(refine ZqF rfl 53 (.tmp 5) (.tmp 12) rfl wr.heap.size #[.string (str x.space),.string (str x.name),.string (str x.value),nI (x.at_:Nat)] rfl rfl _ _ (ZqJ _ _) Z7 rfl (JS x) ?_;rw[Zh];rw[J])|(go_at_call 167;refine ZqD (HQ.out _ F.out) ?_;rintro e w3 ⟨rfl,C⟩;have d0:=C.cell c0;have d1:=C.cell c1;have d2:=C.cell c2))
      go_ret;exact ⟨rfl,F.out.trans C⟩
     |true=>
      cases ch with
      |false=>
       have O:false=R:=H;subst O;clear H HR
       skip
       go_wp2_with (first|(refine ZqF rfl 53 (.tmp 5) (.tmp 12) rfl wr.heap.size #[.string (str x.space),.string (str x.name),.string (str x.value),nI (x.at_:Nat)] rfl rfl _ _ (ZqJ _ _) Z7 rfl (JS x) ?_;rw[Zh];rw[J])|(go_at_call 167;refine ZqD (HQ.out _ F.out) ?_;rintro e w3 ⟨rfl,C⟩;have d0:=C.cell c0;have d1:=C.cell c1;have d2:=C.cell c2)|(go_at_call 169;refine ZqD (HC.out _ (F.out.trans C)) ?_;rintro e w4 ⟨rfl,I⟩;have e0:=I.cell d0;have e1:=I.cell d1;have e2:=I.cell d2))
       go_ret;exact ⟨rfl,(F.out.trans C).trans I⟩
      |true=>
       have hu:Hid (attrsOk (l.drop (k+1)) ((l.take (k+1)).map AtP.name)=R):=gd H;clear H
       go_wp2_with (first|(refine ZqF rfl 53 (.tmp 5) (.tmp 12) rfl wr.heap.size #[.string (str x.space),.string (str x.name),.string (str x.value),nI (x.at_:Nat)] rfl rfl _ _ (ZqJ _ _) Z7 rfl (JS x) ?_;rw[Zh];rw[J])|(go_at_call 167;refine ZqD (HQ.out _ F.out) ?_;rintro e w3 ⟨rfl,C⟩;have d0:=C.cell c0;have d1:=C.cell c1;have d2:=C.cell c2)|(go_at_call 169;refine ZqD (HC.out _ (F.out.trans C)) ?_;rintro e w4 ⟨rfl,I⟩;have e0:=I.cell d0;have e1:=I.cell d1;have e2:=I.cell d2)|(at_mapUpdate;(refine ZsZ _ rfl (.tmp 34) (.tmp 36) (.const (.bool true)) 186 rfl 9 4 Ql underlying186 _ w.heap.size k D rfl (HM.out.kept (((hw.out.trans C).trans I).grown none) (by simp)) hp.out _ _ _ rfl rfl hh.out _ [] (plainElem_bool underlying4 true) ?_);intro w5 hi hm))
       have hB:Ext w w5:=Ext.grown' (B:=0) ((F.out.trans C).trans I) hm (λb hb=>by cases hb;exact ZqE _);have ht:=gd hi;clear hi hm;go_roundw
       case rel=>exact ⟨k+1,_,S,by go_num,ht.out,Z,hu,hB⟩
       case measure=>simp[intOf];omega
   ·have hA:(str x.space).toList.isEmpty=false:=JX hs;have U:x.space.isEmpty=false:=by cases hx:x.space with
     |nil=>exact absurd hx hs
     |cons a t=>rfl
    rw[U] at H;have O:false=R:=H;subst O;clear H HR hs U
    skip
    go_wp2_with (first|(refine ZqF rfl 53 (.tmp 5) (.tmp 12) rfl wr.heap.size #[.string (str x.space),.string (str x.name),.string (str x.value),nI (x.at_:Nat)] rfl rfl _ _ (ZqJ _ _) Z7 rfl (JS x) ?_;rw[Zh];rw[J]))
    go_ret;exact ⟨rfl,F.out⟩
  ·have hy:k=l.length:=om;have H:=Q.out;rw[Zq3 om,attrsOk] at H;subst H;subst hy;clear HR Q;go_wp2;go_ret;exact ⟨rfl,he⟩
theorem Zm5 (n:Nd):1<=n.ht:=by cases n;rw[Nd.ht];omega
theorem ZnD {l:List Nc} {j:Nat} (h:j<l.length):(Nc.nds l).drop j=l[j].nd::(Nc.nds l).drop (j+1):=by
 rw[Yc,ZqR (by rw[Zq9];exact h),ZsF]
theorem ZgH {d:Nat} {data:Bool} {x:Nd} {t:List Nd} (h:x.kind=1):kidsOk d data (x::t)=(!data && !x.text.isEmpty && charsOk x.text && x.space.isEmpty && x.name.isEmpty && x.attrs.isEmpty && x.kids.isEmpty && kidsOk d true t):=by
 rw[kidsOk,ZqN h,Zrj h]
theorem ZgG {d:Nat} {data:Bool} {x:Nd} {t:List Nd} (h:x.kind≠1):kidsOk d data (x::t)=(nodeOk (d+1) x && kidsOk d false t):=by
 rw[kidsOk,ZqH h,Zre h]
theorem QP (l:List UInt8):(str l).toList.isEmpty=l.isEmpty:=Jh l
theorem Zkw {a b:List UInt8}:(str a++str b).toList.isEmpty=(a.isEmpty && b.isEmpty):=by
 have h:(str a++str b).toList=a++b:=by rw[Zn,Xb,Zg,Zg]
 rw[h];cases a<;>cases b<;>rfl
theorem Zmb (N:Nat) (hN:N<=4000000):∀(h:Nat) (x:Nc) (Y:Nat) (w:Wq),x.nd.ht<=h->x.nd.fits N->Y<=101->Env w->NmTabs w->RdN w x->
 Calls prog 134 #[.agg (cellsN x).toArray,nI (Y:Nat)] w λe w'=>e= .returned (.bool (nodeOk Y x.nd))/\Ext w w':=by
 intro h
 induction h with
 |zero=>intro x Y w hp;exact absurd (Zm5 x.nd) om
 |succ h ih=>
 intro x Y w hp F gm hE ho hr;obtain ⟨k,s,n,al,l0,ks,kids,t,a⟩:=x;have ge:=hr;rw[RdN] at hr;obtain ⟨hF,hI,hS⟩:=hr;have hw:=(ZD kids).1 hS;rw[Nc.nd] at hp F|-;rw[Nd.ht] at hp;rw[Nd.fits] at F;have hQ:=F.2.2.2.2.2.2.2.2;have hP:=F.2.2.2.2.1;have h6:kids.length<=N:=by have:=F.2.2.2.2.2.1;rwa [Y8] at this
 have ga:l0.length<=N:=F.2.2.2.1;have gb:n.length<=N:=F.2.2.1;have ha:k<=1:=F.1;obtain ⟨A,c,h2, -, -⟩:=hF.form;obtain ⟨B,d,h7, -, -⟩:=RNs.form hI;subst h2;subst h7;obtain ⟨W0,hM⟩:∃W0,w.alloc (.cells #[nI (k:Nat),.string (str s),.string (str n),.slice A l0.length c,.slice B kids.length d,.string (str t),nI (a:Nat)] 25)=W0:=⟨_,rfl⟩;have hc:Ext w W0:=by rw[<-hM];exact (Ext.refl w).alloc _
 have hG:BxN W0 w.heap.size k s n (.slice A l0.length c) (.slice B kids.length d) t a:=by rw[<-hM];exact ZqJ w _
 obtain ⟨b0,b1,b2,b3,b4,b5,b6⟩:=hG.cells;have hn:=gd hc;have hh:=gd hG;have hC:=gd (λw' (hx:Ext W0 w')=>ZaR (str n) w' (hE.ext (hc.trans hx)) (ho.ext (hc.trans hx)) (by rw[Zo];omega));have hK:=gd (λw' (hx:Ext W0 w')=>Zie (.slice A l0.length c) l0 w' (hE.ext (hc.trans hx)) (ho.ext (hc.trans hx)) (hF.ext (hc.trans hx)) (λb hb=>by have:=hP b hb;unfold AtP.fits at this;omega) om);simp only[Zg] at hC;have hY:=gd (show RNs w (.slice B kids.length d) kids from hI);have HY:=gd (λy (hy:y∈kids)=>(⟨hw y hy,(Nds.fits_iff _).1 hQ y.nd (by rw[Yc];exact Zrv hy),(by
  have:=Zaf (x:=y.nd) (l:=Nc.nds kids) (by rw[Yc];exact Zrv hy);omega)⟩:RdN w y/\y.nd.fits N/\y.nd.ht<=h))
 have hW:=gd ih;have hL:=gd hE;have hZ:=gd ho;have hX:Hid (kids.length<=16777216):=gd om;simp only[cellsN];rw[nodeOk];clear ih ge hF hI hS hw F hp hQ hP h6 ga gb hc hG hE ho;have e1:decide (k=0)=((k:Int)==0):=by
  by_cases h0:k=0
  ·rw[h0];rfl
  ·rw[Zre h0];symm;rw[ZqW];omega
 by_cases U:k=0;have q1:((k:Int) !=0)=false:=by rw[U];rfl
 rw[Zrj U,Zr2];by_cases hd:Y<=100;have q2:¬(100:Int)<(Y:Int):=om
 rw[Zrj hd,Zr2];cases hs:s.isEmpty;have q3:(str s).toList.isEmpty=false:=by rw[QP];exact hs
 rw[ZrA,ZrA,ZrA,ZrA];clear hs e1 U ha
 rotate_left
 have q3:(str s).toList.isEmpty=true:=by rw[QP];exact hs
 rw[Zr2];cases ht:t.isEmpty;have q4:(str t).toList.isEmpty=false:=by rw[QP];exact ht
 rw[ZrA,ZrA,ZrA];clear ht hs e1 U ha
 rotate_left
 ·have q4:(str t).toList.isEmpty=true:=by rw[QP];exact ht
  rw[Zr2];have HQ:=hC;clear hC;cases hq:isQ n with
  |true=>
   rw[hq] at HQ;rw[Zr2];have HA:=hK;clear hK;cases Z:attrsOk l0 [] with
   |true=>
    rw[Z] at HA;rw[Zr2];obtain ⟨R,hR⟩:∃R,kidsOk Y false (Nc.nds kids)=R:=⟨_,rfl⟩;rw[hR];have HR:Hid (kidsOk Y false ((Nc.nds kids).drop 0)=R):=hR;clear hR Z hq ht hs e1 U ha;go_enter func134,ntmps134
    go_wp2_with (first|(go_at_call 167;refine ZqD (HQ.out _ (Ext.refl _)) ?_;rintro e w3 ⟨rfl,I⟩;obtain ⟨d0,d1,d2,d3,d4,d5,d6⟩:=(hh.out.ext I).cells)|(go_at_call 168;refine ZqD (HA.out _ I) ?_;rintro e w4 ⟨rfl,hf⟩;obtain ⟨e0,e1,e2,e3,e4,e5,e6⟩:=(hh.out.ext (I.trans hf)).cells))
    have h1:=gd (hn.out.trans (I.trans hf));clear d0 d1 d2 d3 d4 d5 d6 e0 e1 e2 e3 e4 e5 e6 b0 b1 b2 b3 b4 b5 b6 I hf;go_loopw [5,40] (λu v wr=>∃j:Nat,j<=kids.length/\v=nI j/\(∃dt:Bool,u= .bool dt/\Hid (kidsOk Y dt ((Nc.nds kids).drop j)=R))/\Ext w wr) (λ_ v _=>kids.length - (intOf v).toNat)
    case atStart=>exact ⟨0,ZqO _,rfl,⟨false,rfl,HR⟩,h1.out⟩
    case round=>
     obtain ⟨j,hj,rfl,⟨dt,rfl,hr⟩,hu⟩:=hrel;by_cases hk:j<kids.length;obtain ⟨ad,c',hv,Z⟩:=(RNs.ext hY.out hu).at hk;injection hv with hv1 hv2 hv3;subst hv1;clear hv2 hv3;have h5:=hX.out;have gj:(0:Int)<=(j:Int):=om;have gn:(j:Int)<(kids.length:Int):=om;obtain ⟨hg,S,hJ⟩:=HY.out kids[j] (Zq2 hk);have D:=hr.out;rw[ZnD hk] at D;obtain ⟨y,hV⟩:∃y,kids[j]=y:=⟨_,rfl⟩;rw[hV] at Z hg S hJ D;have X:=gd (λw' (hx:Ext w w') (h3:Y+1<=101)=>hW.out y (Y+1) w' hJ S h3 (hL.out.ext hx) (hZ.out.ext hx) (RdN.ext hx _ hg));obtain ⟨yk,ys,yn,go,yl,gp,C,yt,ya⟩:=y;rw[RdN] at hg;obtain ⟨YA,yc,gf, -, -⟩:=hg.1.form;obtain ⟨YB,yd,gg, -, -⟩:=RNs.form hg.2.1;subst gf;subst gg;rw[Nc.nd] at S D X;rw[Nd.fits] at S;simp only[cellsN] at X;obtain ⟨a0,a1,a2,a3,a4,a5,a6⟩:=Z;simp only[Nc.kind,Nc.space,Nc.name,Nc.al,Nc.ks,Nc.text,Nc.at_] at a0 a1 a2 a3 a4 a5 a6;have hA:yk<=1:=S.1;have hB:yt.length<=16777216:=(by have:=S.2.2.2.2.2.2.1;omega);have gi:¬9223372036854775807<ys.length+yn.length:=(by have:=S.2.1;have:=S.2.2.1;omega);have gl:yl.length<=16777216:=(by have:=S.2.2.2.1;omega);have gk:C.length<=16777216:=(by have:=S.2.2.2.2.2.1;rw[Y8] at this;omega);have HC:=gd (λw' (hx:Ext w w')=>ZdR (str yt) w' (hL.out.ext hx) (by rw[Zo];exact hB));simp only[Zg] at HC;obtain ⟨W2,he⟩:∃W2,wr.alloc (.cells #[nI (yk:Nat),.string (str ys),.string (str yn),.slice YA yl.length yc,.slice YB C.length yd,.string (str yt),nI (ya:Nat)] 25)=W2:=⟨_,rfl⟩;have hU:Ext wr W2:=(by rw[<-he];exact (Ext.refl wr).alloc _);have hH:BxN W2 wr.heap.size yk ys yn (.slice YA yl.length yc) (.slice YB C.length yd) yt ya:=(by rw[<-he];exact ZqJ wr _);obtain ⟨c0,c1,c2,c3,c4,c5,c6⟩:=hH.cells;have J:=gd hU;have hi:=gd hH;have O:=gd hu;have hD:(Nc.nds C).isEmpty=C.isEmpty:=(by cases C<;>(rw[Nc.nds];rfl));clear hg S hJ hU hH hu hr hB hV;by_cases hl:yk=1;rw[ZgH (x:=Nd.mk yk ys yn yl (Nc.nds C) yt ya) hl] at D;simp only[Nd.text,Nd.space,Nd.name,Nd.attrs,Nd.kids] at D;rw[hD] at D;have gh:((yk:Int)==1)=true:=(by rw[hl];rfl);clear hl X hA hD;cases dt;cases hte:yt.isEmpty;have q5:(str yt).toList.isEmpty=false:=(by rw[QP];exact hte);rw[hte] at D;cases hch:charsOk yt;rw[hch] at D HC;have Q:false=R:=(by rw[<-D];simp);subst Q;clear D HR hte hch
     rotate_left
     rw[hch] at D HC;have hO:=Zkw (a:=ys) (b:=yn);cases hcb:(ys.isEmpty && yn.isEmpty);rw[hcb] at hO;have V:=D;simp only[Bool.not_false,Zr2] at V;have Q:false=R:=(by rw[<-V];revert hcb;cases ys.isEmpty<;>cases yn.isEmpty<;>simp);subst Q;clear D V HR hte hch hcb
     rotate_left
     ·rw[hcb] at hO;have V:=D;simp only[Bool.not_false,Zr2] at V;by_cases hz:yl.length+C.length=0
      ·have gc:¬(0:Int)<(yl.length:Int)+(C.length:Int):=om;have h8:yl= []:=ZqX om;have h9:C= []:=ZqX om;have HN:Hid (kidsOk Y true ((Nc.nds kids).drop (j+1))=R):=gd (by
        rw[<-V,h8,h9];revert hcb;cases ys.isEmpty<;>cases yn.isEmpty<;>simp)
       clear D V hte hch hcb h8 h9 hz
       go_wp2_with (first|(refine ZqF rfl 25 (.tmp 7) (.tmp 43) rfl wr.heap.size _ rfl rfl _ _ (ZqJ _ _) Ze rfl Zz ?_;rw[Zh];rw[he])|(go_at_call 169;refine ZqD (HC.out _ (O.out.trans J.out)) ?_;rintro e w6 ⟨rfl,H⟩;obtain ⟨f0,f1,f2,f3,f4,f5,f6⟩:=(hi.out.ext H).cells))
       go_roundw
       case rel=>exact ⟨j+1,hk,by go_num,⟨true,rfl,HN⟩,(O.out.trans J.out).trans H⟩
       case measure=>simp[intOf];omega
      ·have gc:(0:Int)<(yl.length:Int)+(C.length:Int):=om;have Q:false=R:=by
        rw[<-V];have h8:(yl.isEmpty && C.isEmpty)=false:=by
         cases yl with
         |nil=>cases C with
          |nil=>exact absurd rfl hz
          |cons _ _=>rfl
         |cons _ _=>rfl
        revert hcb h8;cases ys.isEmpty<;>cases yn.isEmpty<;>cases yl.isEmpty<;>cases C.isEmpty<;>simp
       subst Q;clear D V HR hte hch hcb hz
       go_wp2_with (first|(refine ZqF rfl 25 (.tmp 7) (.tmp 43) rfl wr.heap.size _ rfl rfl _ _ (ZqJ _ _) Ze rfl Zz ?_;rw[Zh];rw[he])|(go_at_call 169;refine ZqD (HC.out _ (O.out.trans J.out)) ?_;rintro e w6 ⟨rfl,H⟩;obtain ⟨f0,f1,f2,f3,f4,f5,f6⟩:=(hi.out.ext H).cells))
       go_ret;exact ⟨rfl,(O.out.trans J.out).trans H⟩
     ·have q5:(str yt).toList.isEmpty=true:=(by rw[QP];exact hte);rw[hte] at D;have Q:false=R:=(by rw[<-D];simp);subst Q;clear D HR hte;go_wp2;go_ret;exact ⟨rfl,O.out.trans J.out⟩
     ·have Q:false=R:=(by rw[<-D];simp);subst Q;clear D HR;go_wp2;go_ret;exact ⟨rfl,O.out.trans J.out⟩
     ·rw[ZgG (x:=Nd.mk yk ys yn yl (Nc.nds C) yt ya) hl] at D;have gh:((yk:Int)==1)=false:=(by rw[ZqW];omega);have hm:=gd (λw' (hx:Ext w w')=>X.out w' hx om);rw[Int.natCast_add] at hm;obtain ⟨vb,hT⟩:∃vb,nodeOk (Y+1) (Nd.mk yk ys yn yl (Nc.nds C) yt ya)=vb:=⟨_,rfl⟩;rw[hT] at hm D;clear hl X hA hT HC hD;cases vb with
      |false=>
       have Q:false=R:=(by rw[<-D];simp);subst Q;clear D HR
       go_wp2_with (first|(refine ZqF rfl 25 (.tmp 7) (.tmp 43) rfl wr.heap.size _ rfl rfl _ _ (ZqJ _ _) Ze rfl Zz ?_;rw[Zh];rw[he])|(go_at_call 134;have hz:=hm.out W2 (O.out.trans J.out);refine ZqD hz ?_;clear hz;rintro e w6 ⟨rfl,H⟩;obtain ⟨f0,f1,f2,f3,f4,f5,f6⟩:=(hi.out.ext H).cells))
       go_ret;exact ⟨rfl,(O.out.trans J.out).trans H⟩
      |true=>
       have HN:Hid (kidsOk Y false ((Nc.nds kids).drop (j+1))=R):=gd D;clear D
       go_wp2_with (first|(refine ZqF rfl 25 (.tmp 7) (.tmp 43) rfl wr.heap.size _ rfl rfl _ _ (ZqJ _ _) Ze rfl Zz ?_;rw[Zh];rw[he])|(go_at_call 134;have hz:=hm.out W2 (O.out.trans J.out);refine ZqD hz ?_;clear hz;rintro e w6 ⟨rfl,H⟩;obtain ⟨f0,f1,f2,f3,f4,f5,f6⟩:=(hi.out.ext H).cells))
       go_roundw
       case rel=>exact ⟨j+1,hk,by go_num,⟨false,rfl,HN⟩,(O.out.trans J.out).trans H⟩
       case measure=>simp[intOf];omega
     ·have h4:j=kids.length:=om;have D:=hr.out;rw[Zq3 (by rw[Y8];omega),kidsOk] at D;subst D;subst h4;clear HR hr;go_wp2;go_ret;exact ⟨rfl,hu⟩
     all_goals
      go_wp2_with (first|(go_at_call 169;refine ZqD (HC.out _ (O.out.trans J.out)) ?_;rintro e w6 ⟨rfl,H⟩;obtain ⟨f0,f1,f2,f3,f4,f5,f6⟩:=(hi.out.ext H).cells))
      go_ret
      exact ⟨rfl,(O.out.trans J.out).trans H⟩
   |false=>
    rw[Z] at HA;rw[ZrA];clear Z hq ht hs e1 U ha;go_enter func134,ntmps134
    go_wp2_with (first|(go_at_call 167;refine ZqD (HQ.out _ (Ext.refl _)) ?_;rintro e w3 ⟨rfl,I⟩;obtain ⟨d0,d1,d2,d3,d4,d5,d6⟩:=(hh.out.ext I).cells)|(go_at_call 168;refine ZqD (HA.out _ I) ?_;rintro e w4 ⟨rfl,hf⟩;obtain ⟨e0,e1,e2,e3,e4,e5,e6⟩:=(hh.out.ext (I.trans hf)).cells))
    go_ret;exact ⟨rfl,hn.out.trans (I.trans hf)⟩
  |false=>
   rw[hq] at HQ;rw[ZrA,ZrA];clear hq ht hs e1 U ha;go_enter func134,ntmps134
   go_wp2_with (first|(go_at_call 167;refine ZqD (HQ.out _ (Ext.refl _)) ?_;rintro e w3 ⟨rfl,I⟩;obtain ⟨d0,d1,d2,d3,d4,d5,d6⟩:=(hh.out.ext I).cells))
   go_ret;exact ⟨rfl,hn.out.trans I⟩
 have q2:(100:Int)<(Y:Int):=om
 rw[Zre hd];rw[ZrA,ZrA,ZrA,ZrA,ZrA];clear e1 U ha hd
 rotate_left
 have q1:((k:Int) !=0)=true:=by rw[ZrQ];omega
 rw[Zre U];rw[ZrA,ZrA,ZrA,ZrA,ZrA,ZrA];clear e1 U ha
 all_goals
  go_enter func134,ntmps134
  go_wp2
  go_ret
  exact ⟨rfl,hn.out⟩
theorem ZfP (N:Nat) (V:N<=4000000) (x:Nc) (w:Wq) (S:x.nd.fits N) (U:Env w) (J:NmTabs w) (O:RdN w x):
 Calls prog 90 #[.agg (cellsN x).toArray] w λe w'=>e= .returned (nI (if nodeOk 1 x.nd then 0 else 22))/\Ext w w':=by
 have I:=λw' (D:Ext w w')=>Zmb N V x.nd.ht x 1 w' (ZqE _) S om (U.ext D) (J.ext D) (RdN.ext D _ O);have Q:=RdN.sl O;obtain ⟨b,R⟩:∃b,nodeOk 1 x.nd=b:=⟨_,rfl⟩;rw[R] at I|-;clear R S O;obtain ⟨k,s,n,al,Z,ks,kids,t,a⟩:=x;obtain ⟨⟨A,X,c,h⟩,⟨B,Y,d,C⟩⟩:=Q;simp only[Nc.al,Nc.ks] at h C;subst h;subst C;simp only[cellsN] at I|-;have H:=gd I;clear I;have F:=(Ext.refl w).alloc (.cells #[nI (k:Nat),.string (str s),.string (str n),.slice A X c,.slice B Y d,.string (str t),nI (a:Nat)] 25);cases b
 rotate_left
 all_goals
  go_enter func90,ntmps90
  go_wp2_with (first|(go_at_call 134;refine ZqD (H.out _ F) ?_;rintro e w' ⟨rfl,D⟩))
  go_ret
  exact ⟨rfl,F.trans D⟩
section
theorem Kd:∀a b:List AtP,attrsW (a++b)=attrsW a++attrsW b
 | [],b=>rfl
 |x::t,b=>by
  show attrW x++attrsW (t++b)=(attrW x++attrsW t)++attrsW b
  rw[Kd t b,ZqY]
theorem ZfW {l:List AtP} {j:Nat} (h:j<l.length):attrsW (l.take (j+1))=attrsW (l.take j)++attrW l[j]:=by
 rw[ZqQ h,Kd]
 congr 1
 show attrW _++ []=_;rw[Zrb]
theorem Zkq (l:List AtP) (j:Nat):(attrsW (l.take j)).length<=(attrsW l).length:=by
 have h:attrsW l=attrsW (l.take j)++attrsW (l.drop j):=by rw[<-Kd,ZrR]
 rw[h,ZqG];omega
theorem KC:∀a b:List Nd,nodesW (a++b)=nodesW a++nodesW b
 | [],b=>by rw[Zrl,nodesW,Zrl]
 |x::t,b=>by rw[Zrp,nodesW,nodesW,KC t b,ZqY]
theorem Zha {l:List Nc} {j:Nat} (h:j<l.length):nodesW ((Nc.nds l).take (j+1))=nodesW ((Nc.nds l).take j)++nodeW l[j].nd:=by
 have A:j<(Nc.nds l).length:=by rw[Y8];exact h
 have e:(Nc.nds l)[j]=l[j].nd:=by simp only[Yc,ZsF]
 rw[ZqQ A,KC,e]
 congr 1
 rw[nodesW,nodesW,Zrb]
theorem Zlz (l:List Nd) (j:Nat):(nodesW (l.take j)).length<=(nodesW l).length:=by
 have h:nodesW l=nodesW (l.take j)++nodesW (l.drop j):=by rw[<-KC,ZrR]
 rw[h,ZqG];omega
def AbX (w:Wq) (g:Nat) (x:AtP):Prop:=w.heap[g]? =some (.cells #[.string (str x.space),.string (str x.name),.string (str x.value),nI (x.at_:Nat)] 53 (0,0))
theorem AbX.ext {w w':Wq} {g:Nat} {x:AtP} (h:AbX w g x) (A:Ext w w'):AbX w' g x:=A.heap h
theorem AbX.cells {w:Wq} {g:Nat} {x:AtP} (h:AbX w g x):w.cell? ⟨g,0,none⟩=some (.string (str x.space))/\w.cell? ⟨g,1,none⟩=some (.string (str x.name))/\w.cell? ⟨g,2,none⟩=some (.string (str x.value))/\w.cell? ⟨g,3,none⟩=some (nI (x.at_:Nat)):=
 ⟨(Zrc h _).trans rfl,(Zrc h _).trans rfl,(Zrc h _).trans rfl,(Zrc h _).trans rfl⟩
def FnAt (w:Wq) (fb bb:Nat):Prop:=w.heap[fb]? =some (.cells #[.func (.func 91) #[] #[.pointer (some ⟨bb,0,none⟩),.pointer (some ⟨fb,0,none⟩)]] 148 (0,0))
theorem FnAt.cell {w:Wq} {fb bb:Nat} (h:FnAt w fb bb):w.cell? ⟨fb,0,none⟩=some (.func (.func 91) #[] #[.pointer (some ⟨bb,0,none⟩),.pointer (some ⟨fb,0,none⟩)]):=(Zrc h _).trans rfl
section
variable {B:Nat} {w w':World}
theorem BKeep.fn {fb bb:Nat} (h:BKeep B w w') (A:FnAt w fb bb):FnAt w' fb bb:=h.keeps _ _ _ _ A (by decide) (by decide)
theorem BKeep.box {g k:Nat} {s n t:List UInt8} {al ks:Value} {a:Nat} (h:BKeep B w w') (A:BxN w g k s n al ks t a):BxN w' g k s n al ks t a:=h.keeps _ _ _ _ A (by decide) (by decide)
end
theorem Zmh (N:Nat) (hN:N<=4000000):∀(h:Nat) (x:Nc) (z w:Wq) (B bb fb:Nat) (l:List UInt8),x.nd.ht<=h->x.nd.fits N->RdN z x->Ext z w->z.heap.size<=B->B<=w.heap.size->FnAt w fb bb->
 Lib.IsBuilder 147 5 B bb (Lib.byteCells (l)) w->l.length+(nodeW x.nd).length<=140737488355328->
 Calls prog 91 #[.agg (cellsN x).toArray,.pointer (some ⟨bb,0,none⟩),.pointer (some ⟨fb,0,none⟩)] w λe w'=>e= .returned (.tuple #[])/\Lib.IsBuilder 147 5 B bb (Lib.byteCells (l++nodeW x.nd)) w'/\BKeep B w w':=by
 intro h
 induction h with
 |zero=>intro x z w B bb fb l hB;exact absurd (Zm5 x.nd) om
 |succ h ih=>
 intro x z w B bb fb l hB H hr gt gs hf hA hb C;obtain ⟨k,s,n,al,J,ks,kids,t,a⟩:=x;rw[RdN] at hr;obtain ⟨hW,h1,gj⟩:=hr;have hI:=(ZD kids).1 gj;rw[Nc.nd] at hB H C|-;rw[Nd.ht] at hB;rw[Nd.fits] at H;have gh:=H.2.2.2.2.2.2.2.2;have gg:=H.2.2.2.2.1;have V:kids.length<=N:=by have:=H.2.2.2.2.2.1;rwa [Y8] at this
 have gZ:J.length<=N:=H.2.2.2.1;have g9:n.length<=N:=H.2.2.1;have hg:k<=1:=H.1;have h2:t.length<=16777216:=by have:=H.2.2.2.2.2.2.1;omega
 obtain ⟨A,c,gR, -, -⟩:=hW.form;obtain ⟨B0,d,gX, -, -⟩:=RNs.form h1;subst gR;subst gX;obtain ⟨W0,ge⟩:∃W0,w.alloc (.cells #[nI (k:Nat),.string (str s),.string (str n),.slice A J.length c,.slice B0 kids.length d,.string (str t),nI (a:Nat)] 25)=W0:=⟨_,rfl⟩;have hd:Ext w W0:=by rw[<-ge];exact (Ext.refl w).alloc _
 have hX:BxN W0 w.heap.size k s n (.slice A J.length c) (.slice B0 kids.length d) t a:=by rw[<-ge];exact ZqJ w _
 obtain ⟨b0,b1,b2,b3,b4,b5,b6⟩:=hX.cells;have g6:=gd hd;have hq:=gd hX;have h5:=gd (ZF hb hd);have gF:=gd (show FnAt W0 fb bb from hd.heap hA);have hk:=gd (gt.trans hd);have hu:=gd gs;have Q:=gd (ZqM hf hd.size);have gD:=gd hf;have hM:=gd (BKeep.of_ext hd hf);have gx:=gd hW;have gM:=gd (show RNs z (.slice B0 kids.length d) kids from h1);have HY:=gd (λy (hy:y∈kids)=>(⟨hI y hy,(Nds.fits_iff _).1 gh y.nd (by rw[Yc];exact Zrv hy),(by
  have:=Zaf (x:=y.nd) (l:=Nc.nds kids) (by rw[Yc];exact Zrv hy);omega)⟩:RdN z y/\y.nd.fits N/\y.nd.ht<=h))
 have gH:=gd ih;have gL:Hid (kids.length<=16777216):=gd om;have gN:Hid (J.length<=16777216):=gd om;have gE:Hid (∀b∈J,b.name.length<=16777216/\b.value.length<=16777216):=gd (λb hb=>by have:=gg b hb;unfold AtP.fits at this;omega);simp only[cellsN];clear ih hW h1 gj hI H hB gh gg V gZ hd hX gt gs hf hA hb;by_cases ho:k=1
 ·rw[nodeW,ZqN ho] at C|-;have q1:((k:Int)==1)=true:=by rw[ho];rfl
  have HT:=gd (λw'=>Zh6 (str t) w' (by rw[Zo];exact h2));simp only[Zg] at HT;have he:=gd C;clear ho hg C h2;go_enter func91,ntmps91
  go_wp2_with (first|(go_at_call 93;refine ZqD (HT.out _) ?_;rintro e w2 ⟨rfl,I⟩)|(go_at_call 92;refine ZqD (bwS B bb l _ _ (ZF h5.out I) (by rw[Zo];exact he.out) (ZqM Q.out I.size)) ?_;rintro e w3 ⟨rfl,gb,gV⟩))
  refine ZqT (results_none rfl _ _ _) rfl ?_;rw[Zg] at gb;exact ⟨rfl,gb,(hM.out.then_ext I gD.out).trans gV⟩
 ·rw[nodeW,ZqH ho] at C|-;have q1:((k:Int)==1)=false:=by rw[ZqW];omega
  obtain ⟨R,hR⟩:∃R,[60]++n++attrsW J++(if (Nc.nds kids).isEmpty then [47,62] else [62]++nodesW (Nc.nds kids)++ [60,47]++n++ [62])=R:=⟨_,rfl⟩;rw[hR] at C|-;have gc:1+n.length+(attrsW J).length<=R.length:=by rw[<-hR];simp only[ZqG,ZqK,Zq5];omega
  have HR:=gd hR;have gO:=gd gc;have he:=gd C;have g3:¬9223372036854775807<1+n.length:=om
  have g4:¬9223372036854775807<2+n.length:=om
  have g5:¬9223372036854775807<2+n.length+1:=om
  clear ho hg h2 hR;go_enter func91,ntmps91;have gk:l.length+((⟨#[60]⟩:ByteArray)++str n).size<=140737488355328:=by simp only[ZsL,Zo];show l.length+(1+n.length)<=_;omega
  go_wp2_with (go_at_call 92;refine ZqD (bwS B bb l _ W0 h5.out gk Q.out) ?_;rintro e w1 ⟨rfl,hT,hg⟩;obtain ⟨d0,d1,d2,d3,d4,d5,d6⟩:=(BKeep.box hg hq.out).cells)
  simp only[Xb,Zg] at hT;have gz:=gd (show Lib.IsBuilder 147 5 B bb (Lib.byteCells (l++([60]++n))) w1 from hT);have gI:=gd hg;clear hT hg C gk gc b0 b1 b2 b3 b4 b5 b6;go_loopw [22] (λv wr=>∃j:Nat,j<=J.length/\v=nI j/\Lib.IsBuilder 147 5 B bb (Lib.byteCells (l++([60]++n)++attrsW (J.take j))) wr/\BKeep B W0 wr) (λv _=>J.length - (intOf v).toNat)
  case atStart=>exact ⟨0,ZqO _,rfl,(by rw[List.take_zero];show Lib.IsBuilder 147 5 B bb (Lib.byteCells (l++([60]++n)++ [])) w1;rw[Zrb];exact gz.out),gI.out⟩
  case round=>
   obtain ⟨j,hj,rfl,O,F⟩:=hrel;by_cases S:j<J.length
   ·obtain ⟨ad,c',hv,hl⟩:=(RAts.ext gx.out (BKeep.ext hk.out F hu.out)).at S;injection hv with hv1 hv2 hv3;subst hv1;clear hv2 hv3;have C:=he.out;have hc:=Zkq J (j+1);have D:=ZfW S;rw[D,ZqG] at hc;have U:=gE.out _ (Zq2 S);obtain ⟨x,go⟩:∃x,J[j]=x:=⟨_,rfl⟩;rw[go] at hl hc D U;obtain ⟨a0,a1,a2,a3⟩:=hl;have hn:=BKeep.size F Q.out;obtain ⟨W2,ha⟩:∃W2,wr.alloc (.cells #[.string (str x.space),.string (str x.name),.string (str x.value),nI (x.at_:Nat)] 53)=W2:=⟨_,rfl⟩;have I:Ext wr W2:=(by rw[<-ha];exact (Ext.refl wr).alloc _);have gQ:AbX W2 wr.heap.size x:=(by rw[<-ha];exact ZqJ wr _);have ga:=gd I;have gw:=gd gQ;have hQ:=gd (λw'=>Zh5 (str x.value) w' (by rw[Zo];exact U.2));simp only[Zg] at hQ;have gn:=Zaw true x.value;have gS:(attrW x).length=1+x.name.length+2+(wescL true x.value).length+1:=(by unfold attrW;simp only[ZqG,ZqK,Zq5]);have hP:=gd D;have gC:=gd (ZF O I);have hi:=gd F;have gl:(l++([60]++n)++attrsW (J.take j)).length+(1+x.name.length+2+(wescL true x.value).length+1)<=140737488355328:=(by have fa:=gO.out;simp only[ZqG,ZqK,Zq5] at C|-;omega);have h8:=gd gl;obtain ⟨E,hE⟩:∃E,wescL true x.value=E:=⟨_,rfl⟩;have gf: [32]++x.name++ [61,34]++E++ [34]=attrW x:=(by rw[<-hE];rfl);have gy:=gd gf;rw[hE] at hQ gn h8;have o1:¬9223372036854775807<1+x.name.length:=(by have:=U.1;omega);have o2:¬9223372036854775807<1+x.name.length+2:=(by have:=U.1;omega);have o3:¬9223372036854775807<1+x.name.length+2+E.length:=(by have:=U.1;have:=U.2;omega);have o4:¬9223372036854775807<1+x.name.length+2+E.length+1:=(by have:=U.1;have:=U.2;omega);have hh:=gd hn;have gT:(0:Int)<=(j:Int):=om;have gU:(j:Int)<(J.length:Int):=om;have g8:J.length<=16777216:=gN.out;clear hc D U go C gS gn gf hE O F hn gl
    go_wp2_with (first|(refine ZqF rfl 53 (.tmp 5) (.tmp 25) rfl wr.heap.size _ rfl rfl _ _ (ZqJ _ _) size_attr rfl Zz ?_;rw[Zh];rw[ha]))
    refine rN ?_;change wpAny _ _ _ _ _ _ _ (World.drew _);have hF:=(Ext.refl W2).drew;have Y:=gw.out.ext hF;refine ZE (λw'=>AbX w' wr.heap.size x) ?_;refine tG 0 (.pointer (some ⟨wr.heap.size,1,none⟩)) Y ?_;refine tS 1 (.string (str x.name)) rfl (λw' hS=>by obtain ⟨q0,q1,q2,q3⟩:=AbX.cells hS;go_simp) Y ?_;refine tG 2 (.string (⟨#[32]⟩++str x.name)) Y ?_;refine tG 3 (.string (⟨#[32]⟩++str x.name++⟨#[61,34]⟩)) Y ?_;refine tG 4 (.pointer (some ⟨wr.heap.size,2,none⟩)) Y ?_;refine tS 5 (.string (str x.value)) rfl (λw' hS=>by obtain ⟨q0,q1,q2,q3⟩:=AbX.cells hS;go_simp) Y ?_;go_simp;refine sS 6 λK hK=> ?_;go_simp;go_at_call 94;have hz:=hQ.out W2.drew
    with_reducible refine ZqD hz ?_
    clear hz;rintro e w3 ⟨rfl,hD⟩;have hw:=Y.ext hD;refine hK _ _ hw ?_;clear hK K;refine sS 7 λK hK=> ?_;go_simp;refine hK _ _ hw ?_;clear hK K;refine sS 8 λK hK=> ?_;go_simp;refine hK _ _ hw ?_;clear hK K;refine sS 9 λK hK=> ?_;go_simp;go_at_call 92;refine ZqD (bwS B bb (l++([60]++n)++attrsW (J.take j)) _ w3 (ZF gC.out (hF.trans hD)) (by simp only[ZsL,Zo];exact h8.out) (ZqM hh.out (ga.out.trans (hF.trans hD)).size)) ?_;rintro e w4 ⟨rfl,hU,gi⟩;simp only[Xb,Zg] at hU;have X:Lib.IsBuilder 147 5 B bb (Lib.byteCells (l++([60]++n)++attrsW (J.take (j+1)))) w4:=(by rw[hP.out,<-gy.out,<-ZqY (l++([60]++n)) (attrsW (J.take j))];exact hU);have hJ:=gd X;have hL:=gd (hi.out.trans ((BKeep.of_ext (ga.out.trans (hF.trans hD)) hh.out).trans gi));refine hK _ _ (gi.keeps _ _ _ _ hw (by decide) (by decide)) ?_;clear hK K hU X;refine sE ?_;go_wp2;go_roundw
    case rel=>exact ⟨j+1,S,by go_num,hJ.out,hL.out⟩
    case measure=>simp[intOf];omega
   ·have hZ:j=J.length:=om;subst hZ;rw[List.take_length] at O;have hm:=BKeep.box F hq.out;obtain ⟨b0,b1,b2,b3,b4,b5,b6⟩:=hm.cells;have hn:=BKeep.size F Q.out;have C:=he.out;obtain ⟨wP,g0⟩:∃wP:Wq,wP=wr:=⟨_,rfl⟩;subst g0;have hi:=gd F;have hh:=gd hn;clear S hj F hn hm;cases hke:kids.isEmpty with
    |true=>
     have V:kids= []:=Zsi.1 hke;have Z:R= [60]++n++attrsW J++ [47,62]:=(by rw[<-HR.out,V,Nc.nds];rfl);have q2:((kids.length:Int)==0)=true:=(by rw[V];rfl);have hC:(l++([60]++n)++attrsW J).length+(⟨#[47,62]⟩:ByteArray).size<=140737488355328:=(by rw[Z] at C;show _+2<=_;simp only[ZqG,ZqK,Zq5] at C|-;omega);have hO:=gd Z;clear hke V Z C
     go_wp2_with (go_at_call 92;refine ZqD (bwS B bb (l++([60]++n)++attrsW J) _ wP O hC hh.out) ?_;rintro e w5 ⟨rfl,X,hp⟩)
     refine ZqT (results_none rfl _ _ _) rfl ?_;refine ⟨rfl,?_,(hM.out.trans hi.out).trans hp⟩;rw[hO.out];simp only[ZqY] at X|-;exact X
    |false=>
     have V:kids≠ []:=λe=>(by rw[e] at hke;cases hke);have Z:R= [60]++n++attrsW J++([62]++nodesW (Nc.nds kids)++ [60,47]++n++ [62]):=by
      rw[<-HR.out];cases kids with
      |nil=>exact absurd rfl V
      |cons y ys=>rw[Nc.nds];rfl
     have q2:((kids.length:Int)==0)=false:=(by rw[ZqW];have:=Zr3.2 V;omega);have hs:Hid ((l++([60]++n)++attrsW J).length+1+(nodesW (Nc.nds kids)).length+2+n.length+1<=140737488355328):=gd (by
      rw[Z] at C;simp only[ZqG,ZqK,Zq5] at C|-;omega)
     have hO:=gd Z;obtain ⟨L1,hV⟩:∃L1,l++([60]++n)++attrsW J=L1:=⟨_,rfl⟩;rw[hV] at O hs;have h9:=gd hV;have hC:L1.length+1<=140737488355328:=(by have:=hs.out;omega);clear hke V Z C hV
     go_wp2_with (go_at_call 95;refine ZqD (bwB B bb L1 62 wP O hC hh.out) ?_;rintro e w5 ⟨rfl,X,hp⟩;obtain ⟨d0,d1,d2,d3,d4,d5,d6⟩:=(BKeep.box (hi.out.trans hp) hq.out).cells)
     have hL:=gd (hi.out.trans hp);have hJ:=gd X;clear b0 b1 b2 b3 b4 b5 b6 X hp hC O;go_loopw [46] (λv wr=>∃j:Nat,j<=kids.length/\v=nI j/\Lib.IsBuilder 147 5 B bb (Lib.byteCells (L1++ [62]++nodesW ((Nc.nds kids).take j))) wr/\BKeep B W0 wr) (λv _=>kids.length - (intOf v).toNat)
     case atStart=>exact ⟨0,ZqO _,rfl,(by rw[List.take_zero,nodesW,Zrb];exact hJ.out),hL.out⟩
     case round=>
      obtain ⟨j,hj,rfl,O,F⟩:=hrel;by_cases S:j<kids.length
      ·obtain ⟨ad,c',hv,hl⟩:=(RNs.ext gM.out (BKeep.ext hk.out F hu.out)).at S;injection hv with hv1 hv2 hv3;subst hv1;clear hv2 hv3;have gW:=gL.out;have gT:(0:Int)<=(j:Int):=om;have gU:(j:Int)<(kids.length:Int):=om;obtain ⟨hG,h3,h4⟩:=HY.out kids[j] (Zq2 S);have D:=Zha S;have hc:=Zlz (Nc.nds kids) (j+1);rw[D,ZqG] at hc;obtain ⟨y,gr⟩:∃y,kids[j]=y:=⟨_,rfl⟩;rw[gr] at hl hG h3 h4 D hc;have gm:(L1++ [62]++nodesW ((Nc.nds kids).take j)).length+(nodeW y.nd).length<=140737488355328:=(by have:=hs.out;simp only[ZqG,ZqK,Zq5];omega);have hH:=gd (λ(w':Wq) (hz:Ext z w') (hf:B<=w'.heap.size) (hA:FnAt w' fb bb) (hb:Lib.IsBuilder 147 5 B bb (Lib.byteCells (L1++ [62]++nodesW ((Nc.nds kids).take j))) w')=>gH.out y z w' B bb fb _ h4 h3 hG hz hu.out hf hA hb gm);have hP:=gd D;have g1:=RdN.sl hG;obtain ⟨yk,ys,yn,fc,yl,fd,g2,yt,ya⟩:=y;obtain ⟨⟨YA,ym,yc,gp⟩,⟨YB,gu,yd,gq⟩⟩:=g1;simp only[Nc.al,Nc.ks] at gp gq;subst gp;subst gq;simp only[cellsN] at hH;obtain ⟨a0,a1,a2,a3,a4,a5,a6⟩:=hl;simp only[Nc.kind,Nc.space,Nc.name,Nc.al,Nc.ks,Nc.text,Nc.at_] at a0 a1 a2 a3 a4 a5 a6;obtain ⟨W2,ha⟩:∃W2,wr.alloc (.cells #[nI (yk:Nat),.string (str ys),.string (str yn),.slice YA ym yc,.slice YB gu yd,.string (str yt),nI (ya:Nat)] 25)=W2:=⟨_,rfl⟩;have I:Ext wr W2:=(by rw[<-ha];exact (Ext.refl wr).alloc _);have hm:BxN W2 wr.heap.size yk ys yn (.slice YA ym yc) (.slice YB gu yd) yt ya:=(by rw[<-ha];exact ZqJ wr _);obtain ⟨c0,c1,c2,c3,c4,c5,c6⟩:=hm.cells;have hY:FnAt W2 fb bb:=I.heap (BKeep.fn F gF.out);have g7:=hY.cell;have gG:=gd hY;clear hY;have h6:=gd (ZqM (BKeep.size F Q.out) I.size);have gB:=gd (ZF O I);have gP:=gd ((BKeep.ext hk.out F hu.out).trans I);have gJ:=gd (F.then_ext I Q.out);clear hG h3 h4 D hc gr gm hm I O F d0 d1 d2 d3 d4 d5 d6
       go_wp2_with (first|(refine ZqF rfl 25 (.tmp 7) (.tmp 49) rfl wr.heap.size _ rfl rfl _ _ (ZqJ _ _) Ze rfl Zz ?_;rw[Zh];rw[ha])|(go_at_call 91;refine ZqD (hH.out W2 gP.out h6.out gG.out gB.out) ?_;rintro e w6 ⟨rfl,hx,h0⟩))
       have gA:=gd (show Lib.IsBuilder 147 5 B bb (Lib.byteCells (L1++ [62]++nodesW ((Nc.nds kids).take (j+1)))) w6 by rw[hP.out,<-ZqY (L1++ [62])];exact hx);have gK:=gd (gJ.out.trans h0);go_roundw
       case rel=>exact ⟨j+1,S,by go_num,gA.out,gK.out⟩
       case measure=>simp[intOf];omega
      ·have hZ:j=kids.length:=om;subst hZ;rw[Zq4 (by rw[Y8];exact ZqE _)] at O;obtain ⟨b0,b1,b2,b3,b4,b5,b6⟩:=(BKeep.box F hq.out).cells;have gY:(L1++ [62]++nodesW (Nc.nds kids)).length+((⟨#[60,47]⟩:ByteArray)++str n++(⟨#[62]⟩:ByteArray)).size<=140737488355328:=(by have:=hs.out;simp only[ZsL,Zo,ZqG,ZqK,Zq5] at this|-;show _+(2+n.length+1)<=_;omega);have h7:=gd (BKeep.size F Q.out);clear S hj d0 d1 d2 d3 d4 d5 d6
       go_wp2_with (go_at_call 92;refine ZqD (bwS B bb (L1++ [62]++nodesW (Nc.nds kids)) _ wr O gY h7.out) ?_;rintro e w6 ⟨rfl,hx,h0⟩)
       go_end0;simp only[Xb,Zg] at hx;refine ⟨rfl,?_,(hM.out.trans F).trans h0⟩;rw[hO.out];have e2:l++([60]++n++attrsW J++([62]++nodesW (Nc.nds kids)++ [60,47]++n++ [62]))=L1++ [62]++nodesW (Nc.nds kids)++([60,47]++n++ [62]):=(by rw[<-h9.out];simp only[ZqY]);rw[e2];exact hx
end
theorem Zk1 (w1:Wq):Lib.IsBuilder 147 5 (w1.heap.size) (w1.heap.size) (Lib.byteCells ([])) (((w1.alloc (.cells #[.pointer none,sN] 147)).alloc (.cells #[.nilFunc] 148)).setCell ⟨w1.heap.size+1,0,none⟩ (.func (.func 91) #[] #[.pointer (some ⟨w1.heap.size,0,none⟩),.pointer (some ⟨w1.heap.size+1,0,none⟩)])):=
 Or.inl ⟨ZqE _,sN,(ZrN _ ⟨w1.heap.size+1,0,none⟩ w1.heap.size _ (by show w1.heap.size≠w1.heap.size+1;omega)).trans ((Zsz _ _ (by rw[Zd];omega)).trans (ZqJ w1 _)),Zrt _ _ _ _,by simp[Value.ownBlock]⟩
theorem ZfQ (N:Nat) (hN:N<=4000000) (x:Nc) (w:Wq) (hf:x.nd.fits N) (hE:Env w) (V:NmTabs w) (hr:RdN w x) (D:(docW x.nd).length<=140737488355328):
 Calls prog 46 #[.agg (cellsN x).toArray] w λe w'=>e= .returned (.tuple #[.string (str (if nodeOk 1 x.nd then docW x.nd else [])),nI (if nodeOk 1 x.nd then 0 else 22)])/\Ext w w':=by
 have h:=λw' (hx:Ext w w')=>ZfP N hN x w' hf (hE.ext hx) (V.ext hx) (RdN.ext hx _ hr);have hd:docW x.nd=headW++nodeW x.nd++ [10]:=rfl;have he:headW.length=39:=rfl;have C:=λ(w':Wq) (z:Wq) (B bb fb:Nat) (l:List UInt8) (hx:Ext w z)=>Zmh N hN x.nd.ht x z w' B bb fb l (ZqE _) hf (RdN.ext hx _ hr);obtain ⟨R,hR⟩:∃R,nodeW x.nd=R:=⟨_,rfl⟩;rw[hd] at D|-;rw[hR] at C D|-;have hz:R.length+40<=140737488355328:=by simp only[ZqG,ZqK,Zq5] at D;omega
 have hv:=RdN.sl hr;obtain ⟨b,hb⟩:∃b,nodeOk 1 x.nd=b:=⟨_,rfl⟩;rw[hb] at h|-;clear hb hf hr hd hR D hE V;obtain ⟨k,s,n,al,l0,ks,kids,t,a⟩:=x;obtain ⟨⟨A,m1,c,Y⟩,⟨B0,m2,d,hg⟩⟩:=hv;simp only[Nc.al,Nc.ks] at Y hg;subst Y;subst hg;simp only[cellsN] at h C|-;have U:=gd h;have hk:=gd C;obtain ⟨W0,X⟩:∃W0,w.alloc (.cells #[nI (k:Nat),.string (str s),.string (str n),.slice A m1 c,.slice B0 m2 d,.string (str t),nI (a:Nat)] 25)=W0:=⟨_,rfl⟩;have hh:Ext w W0:=by rw[<-X];exact (Ext.refl w).alloc _
 have J:BxN W0 w.heap.size k s n (.slice A m1 c) (.slice B0 m2 d) t a:=by rw[<-X];exact ZqJ w _
 obtain ⟨b0,b1,b2,b3,b4,b5,b6⟩:=J.cells;have H:=gd hh;have S:=gd J;clear h C hh J;cases b with
 |false=>
  go_enter func46,ntmps46
  go_wp2_with (first|(go_at_call 90;refine ZqD (U.out _ H.out) ?_;rintro e w1 ⟨rfl,F⟩))
  go_ret2
  exact ⟨rfl,H.out.trans F⟩
 |true=>
  go_enter func46,ntmps46
  go_wp2_with (first|(go_at_call 90;refine ZqD (U.out _ H.out) ?_;rintro e w1 ⟨rfl,F⟩;obtain ⟨d0,d1,d2,d3,d4,d5,d6⟩:=(S.out.ext F).cells;(have hq:((w1.alloc (.cells #[.pointer none,sN] 147)).alloc (.cells #[.nilFunc] 148)).cell? ⟨w1.heap.size+1,0,none⟩=some .nilFunc:=by rw[ZsQ (ZI w1 _ _)];rfl);have hp:((w1.alloc (.cells #[.pointer none,sN] 147)).alloc (.cells #[.nilFunc] 148)).frozen? ⟨w1.heap.size+1,0,none⟩=false:=Zso (ZI w1 _ _) 0;have ha:=Zk1 w1;have hc:FnAt (((w1.alloc (.cells #[.pointer none,sN] 147)).alloc (.cells #[.nilFunc] 148)).setCell ⟨w1.heap.size+1,0,none⟩ (.func (.func 91) #[] #[.pointer (some ⟨w1.heap.size,0,none⟩),.pointer (some ⟨w1.heap.size+1,0,none⟩)])) (w1.heap.size+1) w1.heap.size:=block_setCell (ZI w1 _ _) _;have I:Ext w1 (((w1.alloc (.cells #[.pointer none,sN] 147)).alloc (.cells #[.nilFunc] 148)).setCell ⟨w1.heap.size+1,0,none⟩ (.func (.func 91) #[] #[.pointer (some ⟨w1.heap.size,0,none⟩),.pointer (some ⟨w1.heap.size+1,0,none⟩)])):=(((Ext.refl w1).alloc _).alloc _).setCell (ZrF _) _;obtain ⟨WB,ho⟩:∃WB,(w1.alloc (.cells #[.pointer none,sN] 147)).alloc (.cells #[.nilFunc] 148)=WB:=⟨_,rfl⟩;rw[ho] at hq hp ha hc I)|(go_at_call 92;refine ZqD (bwS _ _ [] _ _ ha (by show 0+39<=_;omega) I.size) ?_;rintro e w2 ⟨rfl,hl,O⟩;obtain ⟨e0,e1,e2,e3,e4,e5,e6⟩:=(O.box ((S.out.ext F).ext I)).cells;have Z:=O.fn hc;have hy:=Z.cell;have Q:Ext w1 w2:=BKeep.ext I O (ZqE _))|(go_at_call 91;refine ZqD (hk.out w2 w1 w1.heap.size w1.heap.size (w1.heap.size+1) headW (H.out.trans F) Q (ZqE _) Q.size Z hl (by rw[he];omega)) ?_;rintro e w3 ⟨rfl,hm,hs⟩;have hi:Ext w1 w3:=Q.then hs.below)|(go_at_call 95;refine ZqD (bwB _ _ _ 10 _ hm (by rw[ZqG,he];omega) hi.size) ?_;rintro e w4 ⟨rfl,hn,hu⟩;have hj:Ext w1 w4:=hi.then hu.below)|(go_at_call 96;refine ZqD (Ys _ _ _ _ hn hj.size) ?_;rintro e w5 ⟨rfl,hw⟩))
  go_ret2
  exact ⟨rfl,(H.out.trans F).trans (hj.then hw)⟩
section
set_option linter.unusedSimpArgs false
def textA (f:Fd):ByteArray:=str (docW (encA f))
def okA17 (f:Fd):Bool:=okF f && decide (f.path= [])
theorem XR {f:Fd}:okA17 f=true↔okF f=true/\f.path= []:=by unfold okA17;simp
theorem Zfm {f:Fd} (h:okF f=true):inT f.upd=true/\∀e∈f.ents,inT e.upd=true:=by
 obtain ⟨A,C⟩:=YE.1 h;exact ⟨(YF.1 A).2.2.2.1,λe D=>(Q6.1 ((Q9.1 C).1 e D)).2.2⟩
theorem EY (x:Fc) (w:World) (hE:Env w) (hb:NmTabs w) (hr:RdC w x) (hk:fokS x.f) (O:okA17 x.f=true) (hs:szA 10000 9996 x.f):
 Calls prog 17 #[.agg (cellsC x).toArray] w λe w'=>e= .returned (.tuple #[.string (textA x.f),.int .i64 0])/\Ext w w':=by
 obtain ⟨I,hp⟩:=XR.1 O;obtain ⟨hu,hg⟩:=Zfm I;obtain ⟨-,s2, -,s4⟩:=Zb8 (N:=10000) hs (by decide) (by decide) (by decide);have he:x.f.ents.length<=1000000:=by have:=hs.2.2;omega
 have F:=gd (λ(w':World) (h:Ext w w')=>Zml x w' (hE.ext h) (hr.ext h) hk I hp hu hg he);have H:=(Ze5 I).1;have hd:(docW (encA x.f)).length<=140737488355328:=ZqM s4 (by decide);have ha:=gd (λ(y:Nc) (w':World) (h:Ext w w') (hx:y.nd=encA x.f) (hm:RdN w' y)=>ZfQ 10000 (by decide) y w' (by rw[hx];exact s2) (hE.ext h) (hb.ext h) hm (by rw[hx];exact hd));obtain ⟨T,hT⟩:∃T,encA x.f=T:=⟨_,rfl⟩;unfold textA;simp only[hT] at F ha H|-;clear hT s2 s4 hs I hp hu hg he hd O;obtain ⟨xp,ht,⟨Z,hq,J,Y,hi,X⟩⟩:=x;obtain ⟨hh,D⟩:=hr;dsimp only at*;obtain ⟨xA,xc,rfl, -, -⟩:=hh.form;obtain ⟨xB,xd,rfl, -, -⟩:=D.form;unfold cellsC fCells at F|-;dsimp only at F|-;clear hk hh D hE hb;have Q:=gd ((Ext.refl w).alloc (.cells #[.slice xA Z.length xc,.string hq,.string J,.string Y,.int .i64 hi,.slice xB X.length xd] 32));go_enter func17,ntmps17
 go_wp2_with (first|(go_at_call 46;refine ZqD (HW.out _ hl.out) ?_;rintro e w3 ⟨rfl,ho⟩)|(refine ZqF rfl 25 (.tmp 4) (.tmp 9) rfl w1.heap.size _ rfl rfl _ _ (ZqJ _ _) Ze rfl Zz ?_;rw[Zh];rw[R])|(go_at_call 15;(refine ZqD (F.out _ Q.out) ?_);rintro e w1 ⟨x,rfl,⟨V, -,U⟩,D⟩;have hn:=RdN.sl V;have HW:=gd (λ(w':World) (h:Ext w1 w')=>ha.out x w' ((Q.out.trans D).trans h) U (RdN.ext h _ V));rw[U,ZqN H,ZqN H] at HW;obtain ⟨k,s,n,al,l0,ks,kids,t,a⟩:=x;obtain ⟨⟨A,m,c,hc⟩,⟨B,m2,d,hf⟩⟩:=hn;simp only[Nc.al,Nc.ks] at hc hf;subst hc;subst hf;simp only[cellsN] at HW|-;obtain ⟨W2,R⟩:∃W2,w1.alloc (.cells #[.int .i64 (k:Nat),.string (str s),.string (str n),.slice A m c,.slice B m2 d,.string (str t),.int .i64 (a:Nat)] 25)=W2:=⟨_,rfl⟩;(have S:Ext w1 W2:=by rw[<-R];exact (Ext.refl w1).alloc _);(have C:W2.heap[w1.heap.size]? =some (.cells #[.int .i64 (k:Nat),.string (str s),.string (str n),.slice A m c,.slice B m2 d,.string (str t),.int .i64 (a:Nat)] 25 (0,0)):=by rw[<-R];exact ZqJ w1 _);have c0:=ZqI _ _ 0 _ _ _ C;have c1:=ZqI _ _ 1 _ _ _ C;have c2:=ZqI _ _ 2 _ _ _ C;have c3:=ZqI _ _ 3 _ _ _ C;have c4:=ZqI _ _ 4 _ _ _ C;have c5:=ZqI _ _ 5 _ _ _ C;have c6:=ZqI _ _ 6 _ _ _ C;have hj:=gd ((Q.out.trans D).trans S);have hl:=gd S;clear U V D S C H))
 go_ret2
 exact ⟨rfl,hj.out.trans ho⟩
end
section
set_option linter.unusedSimpArgs false
theorem Zjh {A B:Option Addr} {n m c d:Nat} {a b e:ByteArray} {u:Int}:(#[Value.slice A n c,.string a,.string b,.string e,.int .i64 u,.slice B m d]).all (λu=>u.oneCell')=true:=by simp[Value.oneCell']
theorem Ge:(prog.info? 32).map (λi=>i.size)=some 6:=by kernel_rfl
end
end Go.Proofs.YtmfinhgobjbecaaGreatDoor
