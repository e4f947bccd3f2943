/- Parts of the proof: contracts and plain laws. -/
import Derived.Test.YtmfinhgobjbecaaGreatDoorA03
namespace Go.Proofs.YtmfinhgobjbecaaGreatDoor
open Go Go.RowKit Go.WideMaps Go.Maps _root_.Go.Proofs.Tryz
set_option linter.unusedVariables false
set_option linter.unusedSimpArgs false
set_option maxRecDepth 100000
set_option maxHeartbeats 16000000
def nmA (r:Nat):Bool:=decide ((65<=r/\r<=90)\/(97<=r/\r<=122)\/r=95)
def nmB (r:Nat):Bool:=decide ((192<=r/\r<=767/\r≠215/\r≠247)\/(880<=r/\r<=8191/\r≠894))
def nmC (r:Nat):Bool:=decide (r=8204\/r=8205\/(8304<=r/\r<=8591)\/(11264<=r/\r<=12271)\/(12289<=r/\r<=55295))
def nmD (r:Nat):Bool:=decide ((63744<=r/\r<=64975)\/(65008<=r/\r<=65533)\/(65536<=r/\r<=983039))
theorem ZnG (r:Nat):nmStart r=(nmA r||nmB r||nmC r||nmD r):=rfl
def nmT1 (r:Nat) (w:Wq) (a':Act) (w':Wq):Prop:=∃v u7 u8 u9 u10 u11 u12 u13 u14 u15 u16 u17 u18 u19 u20 u21 u22 u23 u24:Value,v= .bool (nmA r)/\a'={tmps:=#[nI (r:Nat),undef,.bool false,v,undef,undef,undef,u7,u8,u9,u10,u11,u12,u13,u14,u15,u16,u17,u18,u19,u20,u21,u22,u23,u24,undef,undef,undef,undef,undef,undef,undef,undef,undef,undef,undef,undef,undef,undef,undef,undef,undef,undef,undef,undef,undef,undef,undef,undef,undef,undef,undef,undef,undef,undef,undef,undef,undef,undef,undef,undef,undef,undef,undef,undef,undef,undef,undef,undef,undef,undef,undef,undef,undef,undef,undef,undef,undef,undef,undef,undef,undef,undef,undef,undef,undef,undef,undef,undef,undef,undef,undef,undef,undef,undef,undef,undef,undef,undef,undef,undef,undef,undef,undef,undef,undef,undef,undef,undef,undef,undef,undef,undef],defers:= []}/\w=w'
def nmT2 (r:Nat) (u7 u8 u9 u10 u11 u12 u13 u14 u15 u16 u17 u18 u19 u20 u21 u22 u23 u24:Value) (w:Wq) (a':Act) (w':Wq):Prop:=∃v u25 u26 u27 u28 u29 u30 u31 u32 u33 u34 u35 u36 u37 u38 u39 u40 u41 u42 u43 u44 u45 u46 u47 u48 u49 u50:Value,v= .bool (nmB r)/\a'={tmps:=#[nI (r:Nat),undef,.bool false,.bool (nmA r),v,undef,undef,u7,u8,u9,u10,u11,u12,u13,u14,u15,u16,u17,u18,u19,u20,u21,u22,u23,u24,u25,u26,u27,u28,u29,u30,u31,u32,u33,u34,u35,u36,u37,u38,u39,u40,u41,u42,u43,u44,u45,u46,u47,u48,u49,u50,undef,undef,undef,undef,undef,undef,undef,undef,undef,undef,undef,undef,undef,undef,undef,undef,undef,undef,undef,undef,undef,undef,undef,undef,undef,undef,undef,undef,undef,undef,undef,undef,undef,undef,undef,undef,undef,undef,undef,undef,undef,undef,undef,undef,undef,undef,undef,undef,undef,undef,undef,undef,undef,undef,undef,undef,undef,undef,undef,undef,undef,undef],defers:= []}/\w=w'
def nmT3 (r:Nat) (u7 u8 u9 u10 u11 u12 u13 u14 u15 u16 u17 u18 u19 u20 u21 u22 u23 u24 u25 u26 u27 u28 u29 u30 u31 u32 u33 u34 u35 u36 u37 u38 u39 u40 u41 u42 u43 u44 u45 u46 u47 u48 u49 u50:Value) (w:Wq) (a':Act) (w':Wq):Prop:=∃v u51 u52 u53 u54 u55 u56 u57 u58 u59 u60 u61 u62 u63 u64 u65 u66 u67 u68 u69 u70 u71 u72 u73 u74 u75 u76 u77 u78 u79 u80:Value,v= .bool (nmC r)/\a'={tmps:=#[nI (r:Nat),undef,.bool false,.bool (nmA r),.bool (nmB r),v,undef,u7,u8,u9,u10,u11,u12,u13,u14,u15,u16,u17,u18,u19,u20,u21,u22,u23,u24,u25,u26,u27,u28,u29,u30,u31,u32,u33,u34,u35,u36,u37,u38,u39,u40,u41,u42,u43,u44,u45,u46,u47,u48,u49,u50,u51,u52,u53,u54,u55,u56,u57,u58,u59,u60,u61,u62,u63,u64,u65,u66,u67,u68,u69,u70,u71,u72,u73,u74,u75,u76,u77,u78,u79,u80,undef,undef,undef,undef,undef,undef,undef,undef,undef,undef,undef,undef,undef,undef,undef,undef,undef,undef,undef,undef,undef,undef,undef,undef,undef,undef,undef,undef,undef,undef,undef,undef],defers:= []}/\w=w'
def nmT4 (r:Nat) (u7 u8 u9 u10 u11 u12 u13 u14 u15 u16 u17 u18 u19 u20 u21 u22 u23 u24 u25 u26 u27 u28 u29 u30 u31 u32 u33 u34 u35 u36 u37 u38 u39 u40 u41 u42 u43 u44 u45 u46 u47 u48 u49 u50 u51 u52 u53 u54 u55 u56 u57 u58 u59 u60 u61 u62 u63 u64 u65 u66 u67 u68 u69 u70 u71 u72 u73 u74 u75 u76 u77 u78 u79 u80:Value) (w:Wq) (a':Act) (w':Wq):Prop:=∃v u81 u82 u83 u84 u85 u86 u87 u88 u89 u90 u91 u92 u93 u94 u95 u96 u97 u98 u99 u100 u101 u102:Value,v= .bool (nmD r)/\a'={tmps:=#[nI (r:Nat),undef,.bool false,.bool (nmA r),.bool (nmB r),.bool (nmC r),v,u7,u8,u9,u10,u11,u12,u13,u14,u15,u16,u17,u18,u19,u20,u21,u22,u23,u24,u25,u26,u27,u28,u29,u30,u31,u32,u33,u34,u35,u36,u37,u38,u39,u40,u41,u42,u43,u44,u45,u46,u47,u48,u49,u50,u51,u52,u53,u54,u55,u56,u57,u58,u59,u60,u61,u62,u63,u64,u65,u66,u67,u68,u69,u70,u71,u72,u73,u74,u75,u76,u77,u78,u79,u80,u81,u82,u83,u84,u85,u86,u87,u88,u89,u90,u91,u92,u93,u94,u95,u96,u97,u98,u99,u100,u101,u102,undef,undef,undef,undef,undef,undef,undef,undef,undef,undef],defers:= []}/\w=w'
theorem XU (r:Nat) (w:Wq):Calls prog 54 #[nI (r:Nat)] w λe w'=>e= .returned (.bool (nmStart r))/\w'=w:=by
 rw[ZnG];go_enter func54,ntmps54;refine wp_seq ?_;refine QI (λa' w'=>a'={tmps:=#[nI (r:Nat),undef,.bool false,undef,undef,undef,undef,undef,undef,undef,undef,undef,undef,undef,undef,undef,undef,undef,undef,undef,undef,undef,undef,undef,undef,undef,undef,undef,undef,undef,undef,undef,undef,undef,undef,undef,undef,undef,undef,undef,undef,undef,undef,undef,undef,undef,undef,undef,undef,undef,undef,undef,undef,undef,undef,undef,undef,undef,undef,undef,undef,undef,undef,undef,undef,undef,undef,undef,undef,undef,undef,undef,undef,undef,undef,undef,undef,undef,undef,undef,undef,undef,undef,undef,undef,undef,undef,undef,undef,undef,undef,undef,undef,undef,undef,undef,undef,undef,undef,undef,undef,undef,undef,undef,undef,undef,undef,undef,undef,undef,undef,undef,undef],defers:= []}/\w=w') ?_ (by go_wp2;exact ⟨rfl,rfl⟩);rintro _ _ ⟨rfl,rfl⟩;refine wp_seq ?_;refine QI (λa' w'=>nmT1 r w a' w') ?_ ?_
 case refine_2=>
  go_wp2
  all_goals try (first|((have h:r=95:=om);subst h)|((have h:r=215:=om);subst h)|((have h:r=247:=om);subst h)|((have h:r=894:=om);subst h)|((have h:r=8204:=om);subst h)|((have h:r=8205:=om);subst h))
  all_goals (refine ⟨_,_,_,_,_,_,_,_,_,_,_,_,_,_,_,_,_,_,_,?_,rfl,rfl⟩)
  all_goals (refine ZqS Value.bool (ZrG.2 ?_);unfold nmA;simp at* <;>omega)
 intro a' w' A;obtain ⟨_,u7,u8,u9,u10,u11,u12,u13,u14,u15,u16,u17,u18,u19,u20,u21,u22,u23,u24,rfl,rfl,rfl⟩:=A;refine wp_seq ?_;refine QI (λa' w'=>nmT2 r u7 u8 u9 u10 u11 u12 u13 u14 u15 u16 u17 u18 u19 u20 u21 u22 u23 u24 w a' w') ?_ ?_
 case refine_2=>
  go_wp2
  all_goals try (first|((have h:r=95:=om);subst h)|((have h:r=215:=om);subst h)|((have h:r=247:=om);subst h)|((have h:r=894:=om);subst h)|((have h:r=8204:=om);subst h)|((have h:r=8205:=om);subst h))
  all_goals (refine ⟨_,_,_,_,_,_,_,_,_,_,_,_,_,_,_,_,_,_,_,_,_,_,_,_,_,_,_,?_,rfl,rfl⟩)
  all_goals (refine ZqS Value.bool (ZrG.2 ?_);unfold nmB;simp at* <;>omega)
 intro a' w' A;obtain ⟨_,u25,u26,u27,u28,u29,u30,u31,u32,u33,u34,u35,u36,u37,u38,u39,u40,u41,u42,u43,u44,u45,u46,u47,u48,u49,u50,rfl,rfl,rfl⟩:=A;refine wp_seq ?_;refine QI (λa' w'=>nmT3 r u7 u8 u9 u10 u11 u12 u13 u14 u15 u16 u17 u18 u19 u20 u21 u22 u23 u24 u25 u26 u27 u28 u29 u30 u31 u32 u33 u34 u35 u36 u37 u38 u39 u40 u41 u42 u43 u44 u45 u46 u47 u48 u49 u50 w a' w') ?_ ?_
 case refine_2=>
  go_wp2
  all_goals try (first|((have h:r=95:=om);subst h)|((have h:r=215:=om);subst h)|((have h:r=247:=om);subst h)|((have h:r=894:=om);subst h)|((have h:r=8204:=om);subst h)|((have h:r=8205:=om);subst h))
  all_goals (refine ⟨_,_,_,_,_,_,_,_,_,_,_,_,_,_,_,_,_,_,_,_,_,_,_,_,_,_,_,_,_,_,_,?_,rfl,rfl⟩)
  all_goals (refine ZqS Value.bool (ZrG.2 ?_);unfold nmC;simp at* <;>omega)
 intro a' w' A;obtain ⟨_,u51,u52,u53,u54,u55,u56,u57,u58,u59,u60,u61,u62,u63,u64,u65,u66,u67,u68,u69,u70,u71,u72,u73,u74,u75,u76,u77,u78,u79,u80,rfl,rfl,rfl⟩:=A;refine wp_seq ?_;refine QI (λa' w'=>nmT4 r u7 u8 u9 u10 u11 u12 u13 u14 u15 u16 u17 u18 u19 u20 u21 u22 u23 u24 u25 u26 u27 u28 u29 u30 u31 u32 u33 u34 u35 u36 u37 u38 u39 u40 u41 u42 u43 u44 u45 u46 u47 u48 u49 u50 u51 u52 u53 u54 u55 u56 u57 u58 u59 u60 u61 u62 u63 u64 u65 u66 u67 u68 u69 u70 u71 u72 u73 u74 u75 u76 u77 u78 u79 u80 w a' w') ?_ ?_
 case refine_2=>
  go_wp2
  all_goals try (first|((have h:r=95:=om);subst h)|((have h:r=215:=om);subst h)|((have h:r=247:=om);subst h)|((have h:r=894:=om);subst h)|((have h:r=8204:=om);subst h)|((have h:r=8205:=om);subst h))
  all_goals (refine ⟨_,_,_,_,_,_,_,_,_,_,_,_,_,_,_,_,_,_,_,_,_,_,_,?_,rfl,rfl⟩)
  all_goals (refine ZqS Value.bool (ZrG.2 ?_);unfold nmD;simp at* <;>omega)
 intro a' w' A;obtain ⟨_,u81,u82,u83,u84,u85,u86,u87,u88,u89,u90,u91,u92,u93,u94,u95,u96,u97,u98,u99,u100,u101,u102,rfl,rfl,rfl⟩:=A;cases nmA r<;>cases nmB r<;>cases nmC r<;>cases nmD r
 all_goals (go_wp2;go_ret;exact ⟨rfl,rfl⟩)
theorem VS (r:Nat) (w:Wq):Calls prog 53 #[nI (r:Nat)] w λe w'=>e= .returned (.bool (nmChar r))/\w'=w:=by
 have h:=gd (XU r w);unfold nmChar;cases hs:nmStart r with
 |true=>
  rw[hs] at h;rw[Bool.true_or];clear hs;go_enter func53,ntmps53
  go_wp2_with (first|(go_at_call 54;refine ZqD h.out ?_;rintro e w2 ⟨rfl,rfl⟩))
  go_ret;exact ⟨rfl,rfl⟩
 |false=>
  rw[hs] at h;rw[Bool.false_or];clear hs;go_enter func53,ntmps53
  go_wp2_with (first|(go_at_call 54;refine ZqD h.out ?_;rintro e w2 ⟨rfl,rfl⟩))
  all_goals (go_ret;refine ⟨?_,rfl⟩)
  all_goals (refine ZqS (λb=>Ending.returned (.bool b)) (ZrG.2 ?_);simp at* <;>omega)
theorem NmPre.snoc {c:Bool}:∀{first:Bool} {l:List UInt8} {k:Nat},NmPre c first l k->(dec (l.drop k)).2≠0->nmOk c (first && decide (k=0)) (dec (l.drop k)).1=true->NmPre c first l (k+(dec (l.drop k)).2)
 |first,l,_,.zero _ _,h0,hok=>by
  rw[Zsf] at*
  rw[ZrH]
  have:=NmPre.step (k:=0) h0 (by simpa using hok) (NmPre.zero false _)
  exact this
 |first,l,_,.step (k:=k) h0 hok0 t,h1,hok=>by
  have h:(first && decide ((dec l).2+k=0))=(false && decide (k=0)):=by
   rw[Zre (show ¬(dec l).2+k=0 by omega)]
   simp
  rw[h] at hok
  rw[<-List.drop_drop] at h1 hok|-
  have:=NmPre.step h0 hok0 (t.snoc h1 hok)
  rw[Nat.add_assoc]
  exact this
theorem Zcu {l:List UInt8} {k:Nat} (h:NmPre true true l k) (F:k<l.length) (D:(dec (l.drop k)).2=0\/nmOk true (decide (k=0)) (dec (l.drop k)).1=false):isQ l=false/\nmLen true l=k:=by
 have A:=h.go.2;have e:=YH (c:=true) (f:=l.length) (first:=true && decide (k=0)) (l:=l.drop k) (Or.inr (by simpa using D));rw[e,Nat.add_zero] at A;refine ⟨?_,A⟩;have C:nmLen true l=k:=A;unfold isQ;rw[C];exact Zre om
theorem ZgB {l:List UInt8} (h:NmPre true true l l.length):isQ l=decide (0<l.length)/\nmLen true l=l.length:=by
 have A:=h.go.2;rw[Zq3 (ZqE _),Jk] at A;refine ⟨?_,A⟩;unfold isQ nmLen;rw[A];simp
theorem Zjc (first:Bool):nmOk true first 58=true:=rfl
theorem ZbA {r:Nat} (h:r≠58) (first:Bool):nmOk true first r=if first then nmStart r else nmChar r:=by
 unfold nmOk;rw[ZqW.2 h];simp
theorem IT {r:Nat} (h:nmChar r=false):nmStart r=false:=by
 unfold nmChar at h;rw[Bool.or_eq_false_iff] at h;exact h.1
theorem Zjw (s:ByteArray) (w:Wq) (hs:s.size<=80000000000):
 Calls prog 172 #[.string s] w λe w'=>e= .returned (.bool (isQ s.data.toList))/\Ext w w':=by
 have hh:s.size<=maxLen:=by unfold maxLen;omega
 have hj:=Zb s;obtain ⟨R0,V⟩:∃b,isQ s.data.toList=b:=⟨_,rfl⟩;rw[V];have ha:=gd V;clear V;go_enter func172,ntmps172;go_wp2;go_loopw [3,4,5] (λv _ _ wr=>∃k:Nat,k<=s.size/\v=nI k/\Hid (NmPre true true s.data.toList k)/\Ext w wr) (λv _ _ _=>s.size - (intOf v).toNat)
 case atStart=>exact ⟨0,ZqO _,rfl,gd (.zero _ _),Ext.refl _⟩
 case round=>
  obtain ⟨k,hk,rfl,hp,S⟩:=hrel;by_cases hd:k<s.size
  ·have hc:=Xi (s.data.toList.drop k);rw[ZqP,Zb] at hc;have O:=XC s k wr hd hh;have Y:((dec (s.data.toList.drop k)).2=0\/nmOk true (decide (k=0)) (dec (s.data.toList.drop k)).1=false)->R0=false:=λh=>ha.out.symm.trans (Zcu hp.out (by rw[Zb];exact hd) h).1;have X:(dec (s.data.toList.drop k)).2≠0->nmOk true (decide (k=0)) (dec (s.data.toList.drop k)).1=true->NmPre true true s.data.toList (k+(dec (s.data.toList.drop k)).2):=λh1 h2=>hp.out.snoc h1 (by simpa using h2);obtain ⟨R,hR⟩:∃R,(dec (s.data.toList.drop k)).1=R:=⟨_,rfl⟩;obtain ⟨K,hK⟩:∃K,(dec (s.data.toList.drop k)).2=K:=⟨_,rfl⟩;rw[hR,hK] at O Y X;rw[hK] at hc;have U:=gd O;have F:=gd Y;have D:=gd X;have H:=gd (λw'=>VS R w');have I:=gd (λw'=>XU R w');clear O Y X hR hK hp;by_cases h0:K=0
   ·subst h0;have Q:=F.out (Or.inl rfl);subst Q
    go_wp2_with (first|(go_at_call 52;refine ZqD U.out ?_;rintro e w2 ⟨rfl,A⟩))
    go_ret;exact ⟨rfl,S.trans A⟩
   ·have hb:((K:Int)==0)=false:=(by rw[ZqW];omega);by_cases C:R=58
    ·subst C;have J:=gd (D.out h0 (Zjc _));clear F D H I;by_cases Z:k=0
     ·subst Z
      go_wp2_with (first|(go_at_call 52;refine ZqD U.out ?_;rintro e w2 ⟨rfl,A⟩))
      go_roundw
      case rel=>exact ⟨0+K,om,by go_num,J,S.trans A⟩
      case measure=>simp[intOf];omega
     ·have he:((k:Int)==0)=false:=by rw[ZqW];omega
      go_wp2_with (first|(go_at_call 52;refine ZqD U.out ?_;rintro e w2 ⟨rfl,A⟩))
      go_roundw
      case rel=>exact ⟨k+K,om,by go_num,J,S.trans A⟩
      case measure=>simp[intOf];omega
    ·have hl:((R:Int) !=58)=true:=(by simp;omega);cases hnc:nmChar R with
     |false=>
      have Q:=F.out (Or.inr (by rw[ZbA C,hnc,IT hnc];simp));subst Q;rw[hnc] at H;clear F D I C
      go_wp2_with (first|(go_at_call 52;refine ZqD U.out ?_;rintro e w2 ⟨rfl,A⟩)|(go_at_call 53;refine ZqD (H.out _) ?_;rintro e w3 ⟨rfl,rfl⟩))
      go_ret;exact ⟨rfl,S.trans A⟩
     |true=>
      rw[hnc] at H;by_cases Z:k=0
      ·subst Z;cases hns:nmStart R with
       |false=>
        have Q:=F.out (Or.inr (by rw[ZbA C,hns];simp));subst Q;rw[hns] at I;clear F D C
        go_wp2_with (first|(go_at_call 52;refine ZqD U.out ?_;rintro e w2 ⟨rfl,A⟩)|(go_at_call 53;refine ZqD (H.out _) ?_;rintro e w3 ⟨rfl,rfl⟩)|(go_at_call 54;refine ZqD (I.out _) ?_;rintro e w3 ⟨rfl,rfl⟩))
        go_ret;exact ⟨rfl,S.trans A⟩
       |true=>
        have J:=gd (D.out h0 (by rw[ZbA C,hns];simp));rw[hns] at I;clear F D C
        go_wp2_with (first|(go_at_call 52;refine ZqD U.out ?_;rintro e w2 ⟨rfl,A⟩)|(go_at_call 53;refine ZqD (H.out _) ?_;rintro e w3 ⟨rfl,rfl⟩)|(go_at_call 54;refine ZqD (I.out _) ?_;rintro e w3 ⟨rfl,rfl⟩))
        go_roundw
        case rel=>exact ⟨0+K,om,by go_num,J,S.trans A⟩
        case measure=>simp[intOf];omega
      ·have he:((k:Int)==0)=false:=(by rw[ZqW];omega);have J:=gd (D.out h0 (by rw[ZbA C,hnc,Zre Z];simp));clear F D I C
       go_wp2_with (first|(go_at_call 52;refine ZqD U.out ?_;rintro e w2 ⟨rfl,A⟩)|(go_at_call 53;refine ZqD (H.out _) ?_;rintro e w3 ⟨rfl,rfl⟩))
       go_roundw
       case rel=>exact ⟨k+K,om,by go_num,J,S.trans A⟩
       case measure=>simp[intOf];omega
  ·have hg:k=s.size:=om;subst hg;have Q:=ha.out.symm.trans (ZgB (by rw[Zb];exact hp.out)).1;rw[Zb] at Q;by_cases Z:0<s.size
   ·have hi:(0:Int)<(s.size:Int):=om;rw[Zrj Z] at Q;subst Q;go_wp2;go_ret;exact ⟨rfl,S⟩
   ·have hi:¬(0:Int)<(s.size:Int):=om;rw[Zre Z] at Q;subst Q;go_wp2;go_ret;exact ⟨rfl,S⟩
theorem Qu (s:ByteArray) (k:Nat) (w:Wq) (hs:s.size<=80000000000) (hk:k<=s.size):
 Calls prog 173 #[.string s,nI (k:Nat)] w λe w'=>e= .returned (nI (nmAt s.data.toList k:Nat))/\Ext w w':=by
 have hm:s.size<=maxLen:=by unfold maxLen;omega
 obtain ⟨l,hl⟩:∃l,s.data.toList.drop k=l:=⟨_,rfl⟩;have hu:l.length=s.size - k:=by rw[<-hl,ZqP,Zb]
 have S:nmAt s.data.toList k=k+nmLen true l:=by unfold nmAt;rw[hl]
 rw[S];obtain ⟨R0,V⟩:∃n,k+nmLen true l=n:=⟨_,rfl⟩;rw[V];have U:=gd V;have HL:=gd hl;clear V S hl;have hq:(0:Int)<=(k:Int):=om
 go_enter func173,ntmps173;go_wp2;go_loopw [5,6,7] (λv _ _ wr=>∃j:Nat,k+j<=s.size/\v=nI ((k+j:Nat):Int)/\Hid (NmPre true true l j)/\Ext w wr) (λv _ _ _=>s.size - (intOf v).toNat)
 case atStart=>exact ⟨0,hk,rfl,gd (.zero _ _),Ext.refl _⟩
 case round=>
  obtain ⟨j,hj,rfl,hp,hx⟩:=hrel;obtain ⟨J,O⟩:∃J,k+j=J:=⟨_,rfl⟩;by_cases hi:k+j<s.size
  ·have hd:s.data.toList.drop (k+j)=l.drop j:=(by rw[<-HL.out,List.drop_drop]);have hg:=Xi (l.drop j);rw[ZqP] at hg;have C:=XC s (k+j) wr hi hm;rw[hd] at C;have Y:j<l.length:=om;have ha:((dec (l.drop j)).2=0\/nmOk true (decide (j=0)) (dec (l.drop j)).1=false)->R0=k+j:=λh=>(by rw[<-U.out,(Zcu hp.out Y h).2]);have Z:(dec (l.drop j)).2≠0->nmOk true (decide (j=0)) (dec (l.drop j)).1=true->NmPre true true l (j+(dec (l.drop j)).2)/\isQ (l.take (j+(dec (l.drop j)).2))=true:=λh1 h2=>(by have h3:=hp.out.snoc h1 (by simpa using h2);exact ⟨h3,ZoL h3 om⟩);have F:(dec (l.drop j)).2≠0->nmOk true (decide (j=0)) (dec (l.drop j)).1=false->isQ (l.take (j+(dec (l.drop j)).2))=false:=λh1 h2=>ZoM hp.out h1 h2;obtain ⟨R,hR⟩:∃R,(dec (l.drop j)).1=R:=⟨_,rfl⟩;obtain ⟨K,hK⟩:∃K,(dec (l.drop j)).2=K:=⟨_,rfl⟩;rw[hR,hK] at C ha Z F;rw[hK] at hg;have X:(s.extract k (k+(j+K))).data.toList=l.take (j+K):=(by rw[ZW,HL.out]);have HQ:=gd (λw'=>Zjw (s.extract k (k+(j+K))) w' (by
    have:(s.extract k (k+(j+K))).size=(s.extract k (k+(j+K))).data.toList.length:=rfl;rw[this,X,Zra];omega))
   rw[X] at HQ;have hv:∀wx,(Instr.slice 9 (.string s) (some (nI (k:Nat))) (some (nI ((J:Nat)+(K:Int)))) none).run prog wx= .ok (.string (s.extract k (k+(j+K)))) wx:=λwx=>(by have:=ZhH s k (j+K) ((j:Int)+(K:Int)) om om wx;rw[show ((k:Nat):Int)+((j:Int)+(K:Int))=((J:Nat):Int)+(K:Int) by omega] at this;exact this);have HC:=gd C;have D:=gd ha;have I:=gd Z;have A:=gd F;clear C ha Z F hR hK hp hd X;rw[O] at HC|-;have HJ:=gd O;have hr:(J:Int)<(s.size:Int):=om;have ht:J<s.size:=om;by_cases h0:K=0
   ·subst h0;have Q:=D.out (Or.inl rfl);rw[O] at Q;subst Q;clear D I A HQ O
    go_wp2_with (first|(go_at_call 52;refine ZqD HC.out ?_;rintro e w2 ⟨rfl,H⟩))
    go_ret;exact ⟨rfl,hx.trans H⟩
   ·have hb:((K:Int)==0)=false:=(by rw[ZqW];omega);cases hok:nmOk true (decide (j=0)) R with
    |false=>
     have Q:=D.out (Or.inr hok);rw[O] at Q;subst Q;rw[A.out h0 hok] at HQ;clear D I A O hok
     go_wp2_with (first|(go_at_call 52;refine ZqD HC.out ?_;rintro e w2 ⟨rfl,H⟩)|(go_at_call 172;refine ZqD (HQ.out _) ?_;rintro e w3 ⟨rfl,hc⟩))
     go_ret;exact ⟨rfl,(hx.trans H).trans hc⟩
    |true=>
     obtain ⟨h1,h2⟩:=I.out h0 hok;rw[h2] at HQ;have hh:=gd h1;clear D I A O hok h1 h2
     go_wp2_with (first|(go_at_call 52;refine ZqD HC.out ?_;rintro e w2 ⟨rfl,H⟩)|(go_at_call 172;refine ZqD (HQ.out _) ?_;rintro e w3 ⟨rfl,hc⟩))
     go_roundw
     case rel=>have he:=HJ.out;exact ⟨j+K,om,by rw[<-Nat.add_assoc,he];go_num,hh,(hx.trans H).trans hc⟩
     case measure=>have he:=HJ.out;simp[intOf];omega
  ·have Q:R0=k+j:=(by have hn:=hp.out;have Y:j=l.length:=om;subst Y;rw[<-U.out,(ZgB hn).2]);rw[O] at Q;subst Q;have ho:¬((R0:Int)<(s.size:Int)):=om;rw[O];clear U hp;go_wp2;go_ret;exact ⟨rfl,hx⟩
theorem Yf (s:ByteArray) (a b:Nat) (w:Wq) (C:s.size<=maxLen):
 Calls prog 175 #[.string s,nI (a:Nat),nI (b:Nat)] w λe w'=>
  e= .returned (.tuple #[nI ((missP s.data.toList a b).1:Nat),nI ((missP s.data.toList a b).2:Nat)])/\w'=w:=by
 unfold missP;rw[Zb];by_cases h:s.size<=b;have A:(s.size:Int)<=(b:Int):=om
 rw[ZqN h]
 rotate_left
 have A:¬(s.size:Int)<=(b:Int):=om
 rw[ZqH h]
 all_goals
  go_enter func175,ntmps175
  go_wp2
  go_ret2
  exact ⟨rfl,rfl⟩
theorem I8 (s:ByteArray) (w:Wq) (hs:s.size<=80000000000):
 Calls prog 143 #[.string s] w λe w'=>e= .returned (.string (str (lns s.data.toList)))/\Ext w w':=by
 obtain ⟨i0,Z,ha,hd,he⟩:=ZrE Ju;have hn:=Zb s;go_enter func143,ntmps143;go_wp2;go_loopw [3,4] (λv i wr=>∃(k:Nat) (out:List UInt8),k<=s.size/\i=nI k/\Hid (out.length<=k)/\
  wr.ownsRow w.heap.size 5 1 v out.length (Lib.byteCells out)/\Hid (lns s.data.toList=out++lns (s.data.toList.drop k))/\Ext w wr) (λ_ i _=>s.size - (intOf i).toNat)
 case atStart=>exact ⟨0,[],ZqO _,rfl,ZqE _,Zrt _ _ _ _,rfl,Ext.refl _⟩
 case round=>
  obtain ⟨k,out,hk,rfl,F,H,S,hx⟩:=hrel;have hp:=hx.size;have U:out.length<=k:=F.out;by_cases ho:k<s.size;have hl:k<s.data.toList.length:=om
  have hm:s.data.toList[k]=s[k]:=rfl;by_cases C:s[k]=13;have hb:(((s[k]).toNat:Int)==13)=true:=by rw[C];rfl
  by_cases h2:k+1<s.size;have hf:((k:Int)+1<(s.size:Int)):=om
  have hi:k+1<s.data.toList.length:=om
  by_cases O:s[k+1]=10
  ·have hg:(((s[k+1]).toNat:Int)==10)=true:=(by rw[O];rfl);have X:=gd (S.out.trans (by rw[ZnA hi C O]));clear S F C O;go_wp2;go_roundw
   case rel=>exact ⟨k+1,out,om,by go_num,Nat.le_succ_of_le U,H,X,hx⟩
   case measure=>simp[intOf];omega
  have hg:(((s[k+1]).toNat:Int)==10)=false:=by rw[ZqW];intro e;exact O (ZrY.1 (by simpa using (show (s[k+1]).toNat=10 by omega)))
  have X:=gd (S.out.trans (by rw[Zak hl (λ_ h=>O h.2),ZqN (show s.data.toList[k]=13 from C),List.append_cons]));have HL:Hid ((out++ [10]).length<=k+1):=by show _<=_;rw[ZqG];exact Nat.succ_le_succ U
  clear S F C O
  rotate_left
  have hf:¬((k:Int)+1<(s.size:Int)):=om
  have X:=gd (S.out.trans (by rw[Zak hl (λh _=>h2 om),ZqN (show s.data.toList[k]=13 from C),List.append_cons]));have HL:Hid ((out++ [10]).length<=k+1):=by show _<=_;rw[ZqG];exact Nat.succ_le_succ U
  clear S F C
  rotate_left
  ·have hb:(((s[k]).toNat:Int)==13)=false:=(by rw[ZqW];intro e;exact C (ZrY.1 (by simpa using (show (s[k]).toNat=13 by omega))));have X:=gd (S.out.trans (by rw[Zak hl (λ_ h=>C h.1),ZqH (show ¬s.data.toList[k]=13 from C),List.append_cons]));rw[hm] at X;have HL:Hid ((out++ [s[k]]).length<=k+1):=(by show _<=_;rw[ZqG];exact Nat.succ_le_succ U);clear S F C;have I:=H;obtain ⟨_,A,c,rfl,hj,hh,_,_⟩:=RSl.of_own H
   go_wp2_with (first|(at_builtin;refine Za _ rfl (.tmp 36) (.tmp 40) _ rfl w.heap.size 5 i0 _ 1 1 underlying145 Z ha hd he rfl om _ _ _ rfl (I.alloc _) _ 1 _ rfl (Zj (cs:= [.int .u8 s[k].toNat]) (by simp) (by unfold maxLen;omega)) (JA [s[k]]) (by unfold maxLen;omega) om (by simp;omega) ?_;intro v1 w1 D R Q))
   have Y:Ext w w1:=(hx.alloc _).app R (I.alloc _) (ZqE _);have J:w1.ownsRow w.heap.size 5 1 v1 (out++ [s[k]]).length (Lib.byteCells (out++ [s[k]])):=(by rw[Zf,ZqG];exact D);clear R Q D;go_wp2;go_roundw
   case rel=>exact ⟨k+1,out++ [s[k]],om,by go_num,HL,J,X,Y⟩
   case measure=>simp[intOf];omega
  ·have V:lns s.data.toList=out:=(by rw[S.out,ZoO om,Zrb]);have HF:Hid (lns s.data.toList=out):=V;have kc:=U4 wr _ _ out H;clear V S F;go_wp2;go_ret;exact ⟨by rw[<-HF.out];rfl,hx⟩
  all_goals
   have I:=H
   obtain ⟨_,A,c,rfl,hj,hh,_,_⟩:=RSl.of_own H
   go_wp2_with (first|(at_builtin;refine Za _ rfl (.tmp 33) (.tmp 34) _ rfl w.heap.size 5 i0 _ 1 1 underlying145 Z ha hd he rfl om _ _ _ rfl (I.alloc _) _ 1 _ rfl (Zj (cs:= [.int .u8 10]) (by simp) (by unfold maxLen;omega)) (JA [10]) (by unfold maxLen;omega) om (by simp;omega) ?_;intro v1 w1 D R Q))
   have Y:Ext w w1:=(hx.alloc _).app R (I.alloc _) (ZqE _)
   have J:w1.ownsRow w.heap.size 5 1 v1 (out++ [10]).length (Lib.byteCells (out++ [10])):=(by rw[Zf,ZqG];exact D)
   clear R Q D
   go_wp2
   go_roundw
   case rel=>exact ⟨k+1,out++ [10],om,by go_num,HL,J,X,Y⟩
   case measure=>simp[intOf];omega
def iopt (o:Option Nat):Int:=match o with|some n=>(n:Int)|none=> -1
theorem ZoI (c:UInt8):hexV c<=16:=by
 unfold hexV;split
 ·omega
 ·split
  ·omega
  ·split<;>omega
theorem Zfu (c:UInt8) (w:Wq):Calls prog 216 #[.int .u8 (c.toNat:Nat)] w λe w'=>e= .returned (nI (hexV c:Nat))/\w'=w:=by
 obtain ⟨n,J⟩:∃n,c.toNat=n:=⟨_,rfl⟩;have Q:n<256:=by rw[<-J];exact c.toNat_lt
 unfold hexV;rw[J];by_cases h:48<=n/\n<=57
 ·rw[ZqN h];obtain ⟨h,A⟩:=h;have C:(48:Int)<=(n:Int):=om
  have D:(n:Int)<=57:=om
  go_enter func216,ntmps216;go_wp2;go_ret;exact ⟨by go_num,rfl⟩
 ·rw[ZqH h];by_cases A:97<=n/\n<=102
  ·rw[ZqN A];obtain ⟨A,F⟩:=A;have C:(48:Int)<=(n:Int):=om;have D:¬(n:Int)<=57:=om;have H:(97:Int)<=(n:Int):=om;have I:(n:Int)<=102:=om;clear h;go_enter func216,ntmps216;go_wp2;go_ret;exact ⟨by go_num,rfl⟩
  ·rw[ZqH A];by_cases F:65<=n/\n<=70
   ·rw[ZqN F];obtain ⟨F,R⟩:=F;have C:(48:Int)<=(n:Int):=om;have D:¬(n:Int)<=57:=om;have H:¬(97:Int)<=(n:Int):=om;have I:(65:Int)<=(n:Int):=om;have O:(n:Int)<=70:=om;clear h A;go_enter func216,ntmps216;go_wp2;go_ret;exact ⟨by go_num,rfl⟩
   ·rw[ZqH F];go_enter func216,ntmps216;go_wp2
    all_goals (go_ret;exact ⟨by go_num,rfl⟩)
theorem Zfz (s:ByteArray) (w:Wq):
 Calls prog 200 #[.string s] w λe w'=>e= .returned (nI (iopt (namedL s.data.toList)))/\w'=w:=by
 obtain ⟨R,h⟩:∃R,namedL s.data.toList=R:=⟨_,rfl⟩;rw[h];unfold namedL at h;go_enter func200,ntmps200;by_cases A:s.data.toList= [108,116]
 ·have b0:(s.toList== [108,116])=true:=by rw[Zn,A];rfl
  rw[ZqN A] at h;subst h;clear A;go_wp2;go_ret;exact ⟨rfl,rfl⟩
 ·have b0:(s.toList== [108,116])=false:=by rw[Zn];simpa using A
  rw[ZqH A] at h;clear A;by_cases C:s.data.toList= [103,116]
  ·have b1:(s.toList== [103,116])=true:=(by rw[Zn,C];rfl);rw[ZqN C] at h;subst h;clear C;go_wp2;go_ret;exact ⟨rfl,rfl⟩
  ·have b1:(s.toList== [103,116])=false:=(by rw[Zn];simpa using C);rw[ZqH C] at h;clear C;by_cases D:s.data.toList= [97,109,112]
   ·have b2:(s.toList== [97,109,112])=true:=(by rw[Zn,D];rfl);rw[ZqN D] at h;subst h;clear D;go_wp2;go_ret;exact ⟨rfl,rfl⟩
   ·have b2:(s.toList== [97,109,112])=false:=(by rw[Zn];simpa using D);rw[ZqH D] at h;clear D;by_cases F:s.data.toList= [97,112,111,115]
    ·have b3:(s.toList== [97,112,111,115])=true:=(by rw[Zn,F];rfl);rw[ZqN F] at h;subst h;clear F;go_wp2;go_ret;exact ⟨rfl,rfl⟩
    ·have b3:(s.toList== [97,112,111,115])=false:=(by rw[Zn];simpa using F);rw[ZqH F] at h;clear F;by_cases H:s.data.toList= [113,117,111,116]
     ·have b4:(s.toList== [113,117,111,116])=true:=(by rw[Zn,H];rfl);rw[ZqN H] at h;subst h;clear H;go_wp2;go_ret;exact ⟨rfl,rfl⟩
     ·have b4:(s.toList== [113,117,111,116])=false:=(by rw[Zn];simpa using H);rw[ZqH H] at h;clear H;subst h;go_wp2;go_ret;exact ⟨rfl,rfl⟩
theorem GR (s:ByteArray) (base:Nat) (w:Wq) (hs:s.size<=80000000000) (hb:0<base) (V:base<=16):
 Calls prog 201 #[.string s,nI (base:Nat)] w λe w'=>e= .returned (nI (iopt (numL base s.data.toList)))/\w'=w:=by
 obtain ⟨R,F⟩:∃R,numL base s.data.toList=R:=⟨_,rfl⟩;rw[F];unfold numL at F;have he:=Zb s;go_enter func201,ntmps201;by_cases D:s.data.toList= []
 ·have b0:(s.toList== [])=true:=by rw[Zn,D];rfl
  rw[ZqN D] at F;subst F;clear D;go_wp2;go_ret;exact ⟨rfl,rfl⟩
 ·have b0:(s.toList== [])=false:=by rw[Zn];simpa using D
  rw[ZqH D] at F;clear D;go_wp2;go_loopw [5,6] (λv i wr=>∃(k n:Nat),k<=s.size/\v=nI n/\n<=2000000/\i=nI k/\Hid (numGo base (s.data.toList.drop k) n=R)/\wr=w) (λ_ i _=>s.size - (intOf i).toNat)
  case atStart=>exact ⟨0,0,ZqO _,rfl,ZqO _,rfl,gd F,rfl⟩
  case round=>
   obtain ⟨k,n,hk,rfl,hn,rfl,S,rfl⟩:=hrel;by_cases hf:k<s.size
   ·have hl:k<s.data.toList.length:=om;have h:=S.out;rw[ZqR hl,numGo,show s.data.toList[k]=s[k] from rfl] at h;have Q:=gd (λw'=>Zfu s[k] w');have U:=ZoI s[k];obtain ⟨d,hd⟩:∃d,hexV s[k]=d:=⟨_,rfl⟩;rw[hd] at h Q U;clear S hd;by_cases H:base<=d
    ·have X:(base:Int)<=(d:Int):=om;rw[ZqN H] at h;subst h
     go_wp2_with (first|(go_at_call 216;refine ZqD (Q.out _) ?_;rintro e w2 ⟨rfl,rfl⟩))
     go_ret;exact ⟨rfl,rfl⟩
    ·have X:¬(base:Int)<=(d:Int):=om;rw[ZqH H] at h;obtain ⟨m,Y⟩:∃m,n*base+d=m:=⟨_,rfl⟩;have ha:n*base<=2000000*16:=Nat.mul_le_mul hn V;rw[Y] at h;have Z:(n:Int)*(base:Int)+(d:Int)=(m:Int):=(by rw[<-Y];push_cast;rfl);have A:(n:Int)*(base:Int)=((n*base:Nat):Int):=(by push_cast;rfl);obtain ⟨O,hc⟩:∃O,n*base=O:=⟨_,rfl⟩;rw[hc] at A ha Y;have hh:Value.int .i64 (wrap64 ((n:Int)*(base:Int)))=nI (O:Nat):=ZqS (Value.int .i64) ((IntWalk.wrap64_in _ (by rw[A];omega)).trans A);have HR:=gd h;clear h Z;by_cases hg:2000000<m
     ·have J:(2000000:Int)<(O:Int)+(d:Int):=om;have C:Hid (numGo base (List.drop (k+1) s.data.toList) 2000000=R):=by have:=HR.out;rw[Nat.min_eq_right om] at this;exact this
      go_wp2_with (first|(go_at_call 216;refine ZqD (Q.out _) ?_;rintro e w2 ⟨rfl,rfl⟩))
      go_roundw
      case rel=>exact ⟨k+1,2000000,om,rfl,om,by go_num,C,by trivial⟩
      case measure=>simp[intOf];omega
     ·have J:¬(2000000:Int)<(O:Int)+(d:Int):=om;have C:Hid (numGo base (List.drop (k+1) s.data.toList) m=R):=by have:=HR.out;rw[Nat.min_eq_left om] at this;exact this
      go_wp2_with (first|(go_at_call 216;refine ZqD (Q.out _) ?_;rintro e w2 ⟨rfl,rfl⟩))
      go_roundw
      case rel=>exact ⟨k+1,m,om,ZqS (Value.int .i64) om,om,by go_num,C,by trivial⟩
      case measure=>simp[intOf];omega
   ·have I:R=some n:=(by rw[<-S.out,Zq3 om];rfl);subst I;clear S;go_wp2;go_ret;exact ⟨rfl,rfl⟩
def charO (o:Option Nat):Bool:=match o with|some n=>isChar n|none=>false
theorem JU (o:Option Nat) (w:Wq):Calls prog 141 #[nI (iopt o)] w λe w'=>e= .returned (.bool (charO o))/\w'=w:=by
 have e:charO o=isChar (iopt o):=by cases o<;>rfl
 rw[e];refine (UN (iopt o) w).mono ?_;rintro e w' ⟨rfl,rfl⟩;exact ⟨rfl,rfl⟩
def refInner (s:List UInt8) (k:Nat):List UInt8:=(s.drop (k+1)).takeWhile λc=>c !=59
theorem ZlP {s:List UInt8} {k:Nat} (h:k<s.length) (A:s[k]≠38):refAt s k=none:=by
 unfold refAt;rw[ZqR h];dsimp only;rw[ZsR,ZqH (λe=>A (by injection e))]
theorem ZnV {s:List UInt8} {k:Nat} (h:k<s.length) (A:s[k]=38):
 refAt s k=if k+1+(refInner s k).length<s.length then (match refRune (refInner s k) with|some n=>if isChar n then some (n,k+1+(refInner s k).length+1) else none|none=>none) else none:=by
 unfold refAt refInner;rw[ZqR h];dsimp only;rw[ZsR,ZqN (by rw[A]),List.tail_cons,ZqK,ZqP];obtain ⟨x,D⟩:∃x,List.takeWhile (λc=>c !=59) (List.drop (k+1) s)=x:=⟨_,rfl⟩;rw[D];by_cases C:k+1+x.length<s.length
 ·rw[ZqN C,ZqN om,show k+x.length+2=k+1+x.length+1 by omega];rfl
 ·rw[ZqH C,ZqH om]
theorem J3 {s:List UInt8} {p:UInt8->Bool} {k:Nat} (h:k<s.length) (A:p s[k]=true):k+((s.drop k).takeWhile p).length=(k+1)+((s.drop (k+1)).takeWhile p).length:=by
 rw[ZqR h,Zr4,ZqN A,ZqK];omega
theorem J4 {s:List UInt8} {p:UInt8->Bool} {k:Nat} (h:k<s.length) (A:p s[k]=false):k+((s.drop k).takeWhile p).length=k:=by
 rw[ZqR h,Zr4,A];rfl
theorem Zax {s:List UInt8} {p:UInt8->Bool} {k:Nat} (h:s.length<=k):k+((s.drop k).takeWhile p).length=k:=by
 rw[Zq3 h];rfl
theorem Qz (s:ByteArray) (a b:Nat) (A B:Int) (D:A=a) (F:B=b) (h:a<=b) (H:b<=s.size) (C:Wq):
 (Instr.slice 9 (.string s) (some (nI A)) (some (nI B)) none).run prog C= .ok (.string (s.extract a b)) C:=by
 subst D F;rw[run_slice_string (P:=prog) (w:=C) 9 s .i64 .i64 _ _ underlying9 om om om];rw[show ((a:Nat):Int).toNat=a by omega,show ((b:Nat):Int).toNat=b by omega]
theorem ZhI (s:ByteArray) (b:Nat) (A:b<=s.size) (h:Wq):
 (Instr.slice 9 (.string s) none (some (nI (b:Nat))) none).run prog h= .ok (.string (s.extract 0 b)) h:=by
 rw[run_slice_string_h (P:=prog) (w:=h) 9 s underlying9 .i64 _ om om];rw[show ((b:Nat):Int).toNat=b by omega]
theorem KJ (s:ByteArray) (a:Nat) (A:Int) (C:A=a) (D:a<=s.size) (h:Wq):
 (Instr.slice 9 (.string s) (some (nI A)) none none).run prog h= .ok (.string (s.extract a s.size)) h:=by
 subst C;rw[run_slice_string_l (P:=prog) (w:=h) 9 s underlying9 .i64 _ om om];rw[show ((a:Nat):Int).toNat=a by omega]
theorem Kq (s:ByteArray) (a:Nat):(s.extract a s.size).data.toList=s.data.toList.drop a:=by
 by_cases h:a<=s.size
 ·have:=ZW s a (s.size - a);rw[show a+(s.size - a)=s.size by omega] at this;rw[this,Zq4 (by rw[ZqP,Zb];omega)]
 ·rw[Zq3 (by rw[Zb];omega)];refine ZqX ?_;rw[Zb,ByteArray.size_extract];omega
theorem ZfB {o:Option Nat} {A:Option (Nat×Nat)} {j:Nat} (h:A=match o with|some n=>if isChar n then some (n,j+1) else none|none=>none):
 (charO o=true->∃n:Nat,iopt o=n/\A=some (n,j+1))/\(charO o=false->A=none):=by
 cases o with
 |none=>exact ⟨(λe=>by cases e),λ_=>h⟩
 |some n=>
  refine ⟨λe=>⟨n,rfl,?_⟩,λe=> ?_⟩
  ·rw[h];exact ZqN e
  ·rw[h];exact ZqH (by rw[show isChar n=false from e];simp)
def refAns (o:Option (Nat×Nat)):Value:=match o with|some (r,e)=> .tuple #[nI (r:Nat),nI (e:Nat),nI 0]|none=> .tuple #[nI 0,nI 0,nI 12]
theorem Zao (s:ByteArray) (k:Nat) (w:Wq) (hs:s.size<=80000000000) (hk:k<s.size):
 Calls prog 177 #[.string s,nI (k:Nat)] w λe w'=>e= .returned (refAns (refAt s.data.toList k))/\w'=w:=by
 have hy:=Zb s;have hL:¬(s.size:Int)<=(k:Int):=om
 have hM:¬(k:Int)<0:=om
 have hl:k<s.data.toList.length:=om
 by_cases F:s[k]=38
 ·have hb:(((s[k]).toNat:Int)==38)=true:=by rw[F];rfl
  have h:=ZnV hl F;have ha:k+((s.data.toList.drop k).takeWhile λc=>c !=59).length=k+1+(refInner s.data.toList k).length:=J3 hl (by show (s[k] !=59)=true;rw[F];rfl);obtain ⟨E,hE⟩:∃E,k+1+(refInner s.data.toList k).length=E:=⟨_,rfl⟩;have hv:E<=s.size:=by rw[<-hE];have h1:=(Zr1 (λc:UInt8=>c !=59) (l:=s.data.toList.drop (k+1))).length_le;rw[ZqP] at h1;unfold refInner;omega
  have S:(s.extract (k+1) E).data.toList=refInner s.data.toList k:=by rw[<-hE,ZW];exact (ZsG.1 (Zs1 _)).symm
  have hi:(s.extract (k+1) E).size=E - (k+1):=by rw[<-Zb,S];omega
  rw[hE,hy] at h;rw[hE] at ha;obtain ⟨x,hu⟩:∃x,refInner s.data.toList k=x:=⟨_,rfl⟩;rw[hu] at h S;have hC:=Qz s (k+1) E ((k:Int)+1) (E:Nat) om rfl om hv;obtain ⟨X,hX⟩:∃X,s.extract (k+1) E=X:=⟨_,rfl⟩;rw[hX] at hC hi S;have hK:k+1<=E:=om
  obtain ⟨A,H⟩:∃A,refAt s.data.toList k=A:=⟨_,rfl⟩;rw[H];rw[H] at h;have Q:=gd h;have HE:=gd ha;clear F h ha hE hu hX H;go_enter func177,ntmps177;go_wp2;go_loopw [7] (λv wr=>∃j:Nat,j<=s.size/\v=nI j/\Hid (j+((s.data.toList.drop j).takeWhile λc=>c !=59).length=E)/\wr=w) (λv _=>s.size - (intOf v).toNat)
  case atStart=>exact ⟨k,om,rfl,HE,rfl⟩
  case round=>
   obtain ⟨j,hj,rfl,hr,rfl⟩:=hrel;by_cases hh:j<s.size;have ht:j<s.data.toList.length:=om;have hQ:s.data.toList[j]=s[j]:=rfl;by_cases R:s[j]=59;have hw:(((s[j]).toNat:Int) !=59)=false:=(by rw[R];rfl);have hd:j=E:=(J4 (p:=λc=>c !=59) ht (by show (s[j] !=59)=false;rw[R];rfl)).symm.trans hr.out;subst hd;have hN:((j:Int)==(s.size:Int))=false:=(by rw[ZqW];omega);have hJ:(j:Int)<(s.size:Int):=om;have h:=Q.out;rw[ZqN hh] at h;have HN:=gd (λw'=>Zfz X w');rw[S] at HN;clear R hr Q HE;by_cases D:∃c t,x=35::c::t
   ·obtain ⟨c,t,J⟩:=D;have hm:X.size=t.length+2:=(by rw[<-Zb,S,J];rfl);have hF:(1:Int)<(X.size:Int):=om;have hG:0<X.size:=om;have hH:1<X.size:=om;have hp:(0:Int)<(X.size:Int):=om;have e0:X[0]=35:=(by have:X.data.toList[0]'(by rw[Zb];omega)=35:=(by simp only[S,J,Zsk]);exact this);have e1:X[1]=c:=(by have:X.data.toList[1]'(by rw[Zb];omega)=c:=(by simp only[S,J,List.getElem_cons_succ,Zsk]);exact this);have hD:(((X[0]).toNat:Int)==35)=true:=(by rw[e0];rfl);have hO:=KJ X 1 1 rfl om;have hP:=KJ X 2 2 rfl om;have he:(X.extract 1 X.size).data.toList=c::t:=(by rw[Kq,S,J];rfl);have hf:(X.extract 2 X.size).data.toList=t:=(by rw[Kq,S,J];rfl);have U:=gd (λw'=>(GR (X.extract 1 X.size) 10 w' (by rw[<-Zb,he,ZqK];omega) om om:Calls prog 201 #[.string (X.extract 1 X.size),nI 10] w' λe w2=>e= .returned (nI (iopt (numL 10 (X.extract 1 X.size).data.toList)))/\w2=w'));have V:=gd (λw'=>(GR (X.extract 2 X.size) 16 w' (by rw[<-Zb,hf];omega) om om:Calls prog 201 #[.string (X.extract 2 X.size),nI 16] w' λe w2=>e= .returned (nI (iopt (numL 16 (X.extract 2 X.size).data.toList)))/\w2=w'));rw[he] at U;rw[hf] at V;have Z:refRune x=if c=120 then numL 16 t else numL 10 (c::t):=(by rw[J];rfl)
    rw[Z] at h;clear he hf Z S J e0 hi hm;by_cases C:c=120;have hc:(((X[1]).toNat:Int)==120)=true:=(by rw[e1,C];rfl);rw[ZqN C] at h;obtain ⟨o,ho⟩:∃o,numL 16 t=o:=⟨_,rfl⟩;rw[ho] at h V;have O:=gd (λw'=>JU o w');have Y:=gd (ZfB h);obtain ⟨I,hI⟩:∃I,iopt o=I:=⟨_,rfl⟩;rw[hI] at O Y V;clear hI h;cases hco:charO o;rw[hco] at O;have H:=Y.out.2 hco;subst H
    rotate_left
    rw[hco] at O;obtain ⟨n,hn,H⟩:=Y.out.1 hco;subst hn H
    rotate_left
    ·have hc:(((X[1]).toNat:Int)==120)=false:=(by rw[ZqW];intro e;exact C (e1.symm.trans (ZrY.1 (by simpa using (show (X[1]).toNat=120 by omega)))));rw[ZqH C] at h;obtain ⟨o,ho⟩:∃o,numL 10 (c::t)=o:=⟨_,rfl⟩;rw[ho] at h U;have O:=gd (λw'=>JU o w');have Y:=gd (ZfB h);obtain ⟨I,hI⟩:∃I,iopt o=I:=⟨_,rfl⟩;rw[hI] at O Y U;clear hI h;clear V;cases hco:charO o;rw[hco] at O;have H:=Y.out.2 hco;subst H
     rotate_left
     rw[hco] at O;obtain ⟨n,hn,H⟩:=Y.out.1 hco;subst hn H
     all_goals
      clear ho hco C e1
      go_wp2_with (first|(go_at_call 200;refine ZqD (HN.out _) ?_;rintro e w2 ⟨rfl,rfl⟩)|(go_at_call 201;refine ZqD (U.out _) ?_;rintro e w2 ⟨rfl,rfl⟩)|(go_at_call 141;refine ZqD (O.out _) ?_;rintro e w2 ⟨rfl,rfl⟩))
      go_ret3
      exact ⟨rfl,rfl⟩
    all_goals
     clear ho hco C e1
     go_wp2_with (first|(go_at_call 200;refine ZqD (HN.out _) ?_;rintro e w2 ⟨rfl,rfl⟩)|(go_at_call 201;(first|(with_reducible refine ZqD (U.out _) ?_)|(with_reducible refine ZqD (V.out _) ?_));rintro e w2 ⟨rfl,rfl⟩)|(go_at_call 141;refine ZqD (O.out _) ?_;rintro e w2 ⟨rfl,rfl⟩))
     go_ret3
     exact ⟨rfl,rfl⟩
   have Z:refRune x=namedL x:=by
    unfold refRune;split
    ·exact absurd ⟨_,_,rfl⟩ D
    ·rfl
   rw[Z] at h;have hg:¬(1:Int)<(X.size:Int)\/((1:Int)<(X.size:Int)/\∃h0:0<X.size,(((X[0]).toNat:Int)==35)=false):=by
    by_cases h1:(1:Int)<(X.size:Int)
    ·refine Or.inr ⟨h1,om,?_⟩;rw[ZqW];intro e;have e0:X.data.toList[0]'(by rw[Zb];omega)=35:=ZrY.1 (show (X[0]).toNat=35 by omega);refine D ⟨X.data.toList[1]'(by rw[Zb];omega),X.data.toList.drop 2,?_⟩;rw[<-S,<-e0,<-ZqR,<-ZqR,Zsf]
    ·exact Or.inl h1
   obtain ⟨o,ho⟩:∃o,namedL x=o:=⟨_,rfl⟩;rw[ho] at h HN;have O:=gd (λw'=>JU o w');have Y:=gd (ZfB h);obtain ⟨I,hI⟩:∃I,iopt o=I:=⟨_,rfl⟩;rw[hI] at O Y HN;clear hI h;clear D Z ho;cases hco:charO o;rw[hco] at O;have H:=Y.out.2 hco;subst H;clear hco S;rcases hg with hg|⟨hg,hp,hq⟩
   rotate_left
   have hz:(0:Int)<(X.size:Int):=om
   rotate_left
   rw[hco] at O;obtain ⟨n,hn,H⟩:=Y.out.1 hco;subst hn H;clear hco S;rcases hg with hg|⟨hg,hp,hq⟩
   rotate_left
   have hz:(0:Int)<(X.size:Int):=om
   rotate_left
   ·have hw:(((s[j]).toNat:Int) !=59)=true:=(by rw[ZrQ];intro e;exact R (ZrY.1 (by simpa using (show (s[j]).toNat=59 by omega))));have HN:=gd ((J3 (p:=λc=>c !=59) ht (by show (s[j] !=59)=true;simpa using R)).symm.trans hr.out);clear hr R;go_wp2;go_roundw
    case rel=>exact ⟨j+1,hh,by go_num,HN,by trivial⟩
    case measure=>simp[intOf];omega
   ·have hd:j=E:=(Zax (p:=λc=>c !=59) om).symm.trans hr.out;have hB:j=s.size:=om;subst hd;have h:=Q.out;rw[ZqH hh] at h;subst h;clear hr Q HE;subst hB;go_wp2
    go_ret3
    exact ⟨rfl,rfl⟩
   all_goals
    go_wp2_with (first|(go_at_call 200;refine ZqD (HN.out _) ?_;rintro e w2 ⟨rfl,rfl⟩)|(go_at_call 141;refine ZqD (O.out _) ?_;rintro e w2 ⟨rfl,rfl⟩))
    go_ret3
    exact ⟨rfl,rfl⟩
 ·have hb:(((s[k]).toNat:Int) !=38)=true:=by rw[ZrQ];intro e;exact F (ZrY.1 (by simpa using (show (s[k]).toNat=38 by omega)))
  rw[ZlP hl F];clear F;go_enter func177,ntmps177;go_wp2
  go_ret3
  exact ⟨rfl,rfl⟩
theorem Ext.bytes {a w:World} (h:Ext a w) (e:TypeId) (s:ByteArray):Ext a (Lib.bytesWorld w e s):=by
 have C:=h.size;refine ⟨h.os,h.tape,h.output,?_,?_⟩
 ·rw[Lib.bytesWorld_size];omega
 ·intro k A;rw[Lib.bytesWorld_at_old w e s k om];exact h.block k A
structure BR (w:World) (g:Nat) (L:List UInt8):Prop where
 cell:∀j (hj:j<L.length),w.cell? ⟨g,j,none⟩=some (.int .u8 (L[j].toNat:Nat))
 froz:∀j,j<L.length->w.frozen? ⟨g,j,none⟩=false
theorem BR.bytes (w:World) (s:ByteArray):BR (Lib.bytesWorld w 5 s) w.heap.size s.data.toList:=by
 refine ⟨λj A=> ?_,λj A=> ?_⟩
 ·have h:j<s.size:=by rw[<-Zb];exact A
  rw[Lib.bytesWorld_cell w _ s j h,Zry,ZqL A];rfl
 ·have h:j<s.size:=by rw[<-Zb];exact A
  unfold World.frozen?;rw[show (Lib.bytesWorld w 5 s).heap[(⟨w.heap.size,j,none⟩:Addr).block]? =_ from Lib.bytesWorld_at_new w 5 s];have:s.size<=(Lib.bytesCells w 5 s).size:=by simp[Lib.bytesCells]
  simp;omega
theorem BR.set {w:World} {g j:Nat} {L:List UInt8} (h:BR w g L) (C:j<L.length) (b:UInt8):BR (w.setCell ⟨g,j,none⟩ (.int .u8 (b.toNat:Nat))) g (L.set j b):=by
 refine ⟨λi A=> ?_,λi A=> ?_⟩
 ·rw[ZsA] at A;by_cases e:j=i
  ·subst e;rw[ZsD _ _ _ (h.cell j C),List.getElem_set_self]
  ·rw[ZrS _ _ _ _ (by intro e2;injection e2 with _ e3;exact e e3),h.cell i A,List.getElem_set_ne e]
 ·rw[ZsA] at A;rw[Zse];exact h.froz i A
theorem BR.conv {w:World} {g n c:Nat} {L:List UInt8} (h:BR w g L) (C:n=L.length):(convert 145 9 (.slice (some ⟨g,0,none⟩) n c)).run prog w= .ok (.string (str L)) w:=by
 subst C;exact run_convert_bytes_back w _ _ 5 ⟨g,0,none⟩ c L underlying145 underlying5 underlying9 λj A=>by rw[show (⟨g,0,none⟩:Addr).add j=⟨g,j,none⟩ from by unfold Addr.add;split<;>simp_all];exact h.cell j A
def finC (value:Bool) (l:List UInt8):List UInt8:=if value then spaced l else l
theorem Zit (l:List UInt8):finC false l=l:=rfl
theorem Za8 (c:UInt8) (t:List UInt8):spaced (c::t)=(if isSp c.toNat then 32 else c)::spaced t:=rfl
theorem ZhL {M F:List UInt8} {j:Nat} (A:j<M.length) (C:isSp (M[j]).toNat=false) (h:M.take j++spaced (M.drop j)=F):M.take (j+1)++spaced (M.drop (j+1))=F:=by
 rw[<-h,ZqR A,Za8,C,ZqQ A];simp only[ZrW,ZsJ,ZqY,List.singleton_append]
theorem ZjA {M F:List UInt8} {j:Nat} (A:j<M.length) (C:isSp (M[j]).toNat=true) (h:M.take j++spaced (M.drop j)=F):(M.set j 32).take (j+1)++spaced ((M.set j 32).drop (j+1))=F:=by
 rw[<-h,ZqR A,Za8,C,ZqQ (by rw[ZsA];exact A),List.drop_set_of_lt om,List.getElem_set_self,List.take_set_of_le om];simp
def contAns (tz:Nat):Except PErr (List UInt8)->Value
 | .ok v=> .tuple #[.string (str v),nI (tz:Nat),nI 0]
 | .error (i,c)=> .tuple #[.string (str []),nI (i:Nat),nI (c:Nat)]
theorem Zla {n:Nat} (h:isChar n=true):n<1114112:=by
 unfold isChar at h;have:=Zro h;omega
theorem ZoD (r:Nat):(encN r).length<=4:=by
 unfold encN
 (repeat' split)<;>simp
theorem Zjr {s:List UInt8} {i r e:Nat} (h:refAt s i=some (r,e)):isChar r=true:=by
 unfold refAt at h;dsimp only at h;split at h
 ·split at h
  ·split at h
   ·split at h
    ·rename_i A;injection h with h;injection h with h1 h2;subst h1;exact A
    ·cases h
   ·cases h
  ·cases h
 ·cases h
theorem Qs (s:ByteArray) (a z:Nat) (value:Bool) (w:Wq) (hs:s.size<=80000000000) (ha:a<=z) (gj:z<=s.size):
 Calls prog 147 #[.string s,nI (a:Nat),nI (z:Nat),.bool value] w λe w'=>e= .returned (contAns z (contP value s.data.toList a z))/\Ext w w':=by
 have gr:=Zb s;rw[Zf4];obtain ⟨R,hR⟩:∃R,contAt value s.data.toList z a []=R:=⟨_,rfl⟩;rw[hR];have hW:=ZhI s z gj;have he:(s.extract 0 z).data.toList=s.data.toList.take z:=by have:=ZW s 0 z;rw[ZrH,Zsf] at this;exact this
 have hB:(s.extract 0 z).size=z:=by rw[<-Zb,he,Zra];omega
 obtain ⟨S,hS⟩:∃S,s.extract 0 z=S:=⟨_,rfl⟩;rw[hS] at hW he hB;have hG:=gd hB;have hZ:=gd he;clear hS hB he;go_enter func147,ntmps147;go_wp2;go_loopw [11,12,13,14,15,16,17,18] (λo i _ _ _ _ _ _ wr=>∃(k:Nat) (O:ByteArray),a<=k/\k<=z/\o= .string O/\i=nI k/\Hid (O.size<=4*k)/\Hid (contAt value s.data.toList z k O.data.toList=R)/\Ext w wr) (λ_ i _ _ _ _ _ _ _=>z - (intOf i).toNat)
 case atStart=>exact ⟨a,⟨#[]⟩,ZqE _,ha,rfl,rfl,ZqO _,gd hR,Ext.refl _⟩
 case round=>
  obtain ⟨k,O,go,hk,rfl,rfl,hO,hr,hx⟩:=hrel;by_cases hn:k<z
  ·have gh:(k:Int)<(z:Int):=om;have gy:k<s.size:=om;have hl:k<s.data.toList.length:=om;by_cases F:s[k]=38
   ·have hb:(((s[k]).toNat:Int)==38)=true:=(by rw[F];rfl);have hh:(s.data.toList.drop k).head? =some 38:=(by rw[ZqR hl,ZsR];exact ZqS some F);have HC:=gd (λw'=>Zao S k w' (by have:=hG.out;omega) (by have:=hG.out;omega));rw[hZ.out] at HC;cases hra:refAt (s.data.toList.take z) k with
    |none=>
     have I:=(Zij (value:=value) (out:=O.data.toList) hn hh hra).symm.trans hr.out;subst I;rw[hra] at HC;clear F hh hra hr
     go_wp2_with (first|(go_at_call 177;refine ZqD (HC.out _) ?_;rintro e w2 ⟨rfl,rfl⟩;simp only[refAns]))
     go_ret3
     exact ⟨rfl,hx⟩
    |some re=>
     obtain ⟨r,e⟩:=re;have gb:=IY hra;have gq:=Zla (Zjr hra);rw[Zra] at gb;have D:=gd ((Zb1 (value:=value) (out:=O.data.toList) om hn hh hra).symm.trans hr.out);rw[hra] at HC;have HE:=gd (λw'=>GP r w' om);have ga:=ZoD r;obtain ⟨L,hL⟩:∃L,encN r=L:=⟨_,rfl⟩;rw[hL] at HE D ga;have gi:(str L).size=L.length:=(by rw[<-Zb,Zg]);have h5:=hO.out;have HN:Hid (contAt value s.data.toList z e (O++str L).data.toList=R):=(by show _=_;rw[Xb,Zg];exact D.out);have hy:Hid ((O++str L).size<=4*e):=(by show _<=_;rw[ZsL,gi];omega);clear F hh hra hr D hL
     go_wp2_with (first|(go_at_call 177;refine ZqD (HC.out _) ?_;rintro e w2 ⟨rfl,rfl⟩;simp only[refAns])|(go_at_call 100;refine ZqD (HE.out _) ?_;rintro e w2 ⟨rfl,hq⟩))
     go_roundw
     case rel=>exact ⟨e,O++str L,om,om,rfl,rfl,hy,HN,hx.trans hq⟩
     case measure=>simp[intOf];omega
   ·have hb:(((s[k]).toNat:Int)==38)=false:=(by rw[ZqW];intro e;exact F (ZrY.1 (by simpa using (show (s[k]).toNat=38 by omega))));have hh:(s.data.toList.drop k).head?≠some 38:=(by rw[ZqR hl,ZsR];intro e;injection e with e;exact F e);have U:=Uh (s:=s.data.toList) hn om hh;have ho:=Iz (value:=value) (s:=s.data.toList) (out:=O.data.toList) om hn hh;have hv:k+(plainAt s.data.toList z k).length<=z:=(by have h1:=(Zr1 (λc:UInt8=>c !=38) (l:=(s.data.toList.take z).drop k)).length_le;rw[ZqP,Zra] at h1;unfold plainAt;omega);have Z:k+((((s.data.toList.take z).drop k).takeWhile λc=>c !=38)).length=k+(plainAt s.data.toList z k).length:=rfl;have H:(s.extract k (k+(plainAt s.data.toList z k).length)).data.toList=plainAt s.data.toList z k:=by
     rw[ZW];have h1:(s.data.toList.drop k).take (z - k)=(s.data.toList.take z).drop k:=(by rw[List.drop_take]);have h2:plainAt s.data.toList z k=((s.data.toList.take z).drop k).take (plainAt s.data.toList z k).length:=ZsG.1 (Zs1 _);rw[h2,Zra,<-h1,List.take_take]
     congr 1
     rw[Zra,ZqP];omega
    obtain ⟨P,hP⟩:∃P,plainAt s.data.toList z k=P:=⟨_,rfl⟩;rw[hP] at U ho hv Z H;obtain ⟨E,hE⟩:∃E,k+P.length=E:=⟨_,rfl⟩;rw[hE] at ho hv Z H;have hV:=Qz s k E (k:Nat) (E:Nat) rfl rfl om om;obtain ⟨X,hX⟩:∃X,s.extract k E=X:=⟨_,rfl⟩;rw[hX] at hV H;have h6:X.size=P.length:=(by rw[<-Zb,H]);have hU:=IR P;have HL:=gd (λw'=>I8 X w' om);rw[H] at HL;obtain ⟨Y,hY⟩:∃Y,str (lns P)=Y:=⟨_,rfl⟩;have hz:Y.data.toList=lns P:=(by rw[<-hY,Zg]);have hA:Y.data.toList.length=Y.size:=Zb Y;have hu:Y.size<=P.length:=(by rw[<-hA,hz];exact hU);rw[hY] at HL;have D:=gd (ho.symm.trans hr.out);rw[<-hz] at D;have h0:=gd hA;have ht:=gd hu;have V:=gd hE;have hw:=gd Z;have hH:=gd U;clear F hh hr ho U Z H hX h6 hU hY hz hA hu hP hE;go_wp2;obtain ⟨wP,gk⟩:∃wP:Wq,wP=wr:=⟨_,rfl⟩;subst gk;go_loopw [16] (λv wr=>∃j:Nat,k<=j/\j<=E/\v=nI j/\Hid (j+((((s.data.toList.take z).drop j).takeWhile λc=>c !=38)).length=E)/\wr=wP) (λv _=>z - (intOf v).toNat)
    case atStart=>exact ⟨k,ZqE _,by have:=V.out;omega,rfl,hw,rfl⟩
    case round=>
     obtain ⟨j,gx,gt,rfl,hj,rfl⟩:=hrel;have hp:∀h:j<(s.data.toList.take z).length,∀h2:j<s.size,(s.data.toList.take z)[j]=s[j]:=λh h2=>(by rw[List.getElem_take];rfl);by_cases gw:j<z;have gf:(j:Int)<(z:Int):=om;have hT:j<s.size:=om;have hm:j<(s.data.toList.take z).length:=(by rw[Zra];omega);by_cases A:s[j]=38;have h8:(((s[j]).toNat:Int) !=38)=false:=(by rw[A];rfl);have hC:j=E:=(J4 (p:=λc=>c !=38) hm (by rw[hp hm hT,A];rfl)).symm.trans hj.out;subst hC;clear A hp hj hw
     rotate_left
     ·have h8:(((s[j]).toNat:Int) !=38)=true:=(by rw[ZrQ];intro e;exact A (ZrY.1 (by simpa using (show (s[j]).toNat=38 by omega))));have HN:=gd ((J3 (p:=λc=>c !=38) hm (by rw[hp hm hT];simpa using A)).symm.trans hj.out);clear hj A;have hQ:j+1<=E:=(by have:=HN.out;omega);go_wp2;go_roundw
      case rel=>exact ⟨j+1,om,hQ,by go_num,HN,by trivial⟩
      case measure=>simp[intOf];omega
     have gf:¬(j:Int)<(z:Int):=om;have hC:j=E:=(Zax (p:=λc=>c !=38) (s:=s.data.toList.take z) (by rw[Zra];omega)).symm.trans hj.out;subst hC;clear hp hj hw
     all_goals
      have h9:=λwx=>Lib.run_convert_string_bytes (P:=prog) wx 9 145 5 Y (u:= .string) underlying9 underlying145 underlying5
      go_wp2_with (first|(go_at_call 143;refine ZqD (HL.out _) ?_;rintro e w2 ⟨rfl,hq⟩))
      obtain ⟨W1,hd⟩:∃W1,W1=Lib.bytesWorld w2 5 Y:=⟨_,rfl⟩
      have gl:Ext w W1:=(by rw[hd];exact (hx.trans hq).bytes _ _)
      have C:BR W1 w2.heap.size Y.data.toList:=(by rw[hd];exact BR.bytes w2 Y)
      have hg:w.heap.size<=w2.heap.size:=(hx.trans hq).size
      have h7:Y.size<=80000000000:=(by have h1:=ht.out;have h2:=V.out;omega)
      rw[<-hd]
      generalize Go.grownCap w2 Y.size 0 5=cap
      obtain ⟨g,hK⟩:∃g,w2.heap.size=g:=⟨_,rfl⟩
      rw[hK] at C hg|-
      clear hd h9 hK hV
      go_loopw [18] (λv wr=>∃(i:Nat) (M:List UInt8),i<=Y.size/\v=nI i/\Hid (M.length=Y.size)/\BR wr g M/\Hid (M.take i++finC value (M.drop i)=finC value Y.data.toList)/\Ext w wr) (λv _=>Y.size - (intOf v).toNat)
      case atStart=>exact ⟨0,Y.data.toList,ZqO _,rfl,h0,C,rfl,gl⟩
      case round=>
       obtain ⟨i,M,hi,rfl,hM,C,I,hF⟩:=hrel
       have J:=hM.out
       by_cases hN:i<Y.size
       have ge:(i:Int)<(Y.size:Int):=om
       have Q:i<M.length:=om
       cases value
       focus
        have HF:Hid (M.take (i+1)++finC false (M.drop (i+1))=finC false Y.data.toList):=by
         show _=_
         have:=I.out
         rw[Zit,ZrR] at this|-
         exact this
        clear I J
        go_wp2
       rotate_left
       have hc:=C.cell i Q
       have gs:=C.froz i Q
       cases hsp:isSp (M[i].toNat)
       focus
        have HF:Hid (M.take (i+1)++finC true (M.drop (i+1))=finC true Y.data.toList):=ZhL Q hsp I.out
        have HS:=gd (λw'=>ZT ((M[i].toNat:Nat):Int) w')
        rw[hsp] at HS
        obtain ⟨b,hb⟩:∃b,M[i]=b:=⟨_,rfl⟩
        rw[hb] at HS hc
        clear I J hsp hb
        go_wp2_with (first|(go_at_call 103;refine ZqD (HS.out _) ?_;rintro e w5 ⟨rfl,rfl⟩))
       rotate_left
       ·have HF:Hid ((M.set i 32).take (i+1)++finC true ((M.set i 32).drop (i+1))=finC true Y.data.toList):=ZjA Q hsp I.out
        have hJ:=C.set Q 32
        have h4:Hid ((M.set i 32).length=Y.size):=(by show _=_;rw[ZsA];exact J)
        have gm:=hF.setCell (p:=⟨g,i,none⟩) hg (.int .u8 32)
        have HS:=gd (λw'=>ZT ((M[i].toNat:Nat):Int) w')
        rw[hsp] at HS
        obtain ⟨b,hb⟩:∃b,M[i]=b:=⟨_,rfl⟩
        rw[hb] at HS hc
        clear I J hsp hb
        go_wp2_with (first|(go_at_call 103;refine ZqD (HS.out _) ?_;rintro e w5 ⟨rfl,rfl⟩))
        go_roundw
        case rel=>exact ⟨i+1,M.set i 32,hN,by go_num,h4,hJ,HF,gm⟩
        case measure=>simp[intOf];omega
       ·have ge:¬(i:Int)<(Y.size:Int):=om
        have gc:i=Y.size:=om
        subst gc
        have hI:M=finC value Y.data.toList:=by
         have:=I.out
         rw[Zq3 om,Zq4 om] at this
         have e0:finC value ([]:List UInt8)= []:=(by unfold finC;split<;>rfl)
         rw[e0,Zrb] at this
         exact this
        have gp:=C.conv (c:=cap) (hM.out.symm)
        have h5:=hO.out
        have hD:(str M).size=Y.size:=(by rw[<-Zb,Zg,hM.out])
        have HN:Hid (contAt value s.data.toList z j (O++str M).data.toList=R):=by
         show _=_
         rw[Xb,Zg,hI]
         exact D.out
        have hy:Hid ((O++str M).size<=4*j):=by
         show _<=_
         have h1:=ht.out
         have h2:=V.out
         rw[ZsL,hD]
         omega
        have gu:k<j:=(by have h2:=V.out;have h3:=hH.out;omega)
        have gn:(str M).size<=80000000000:=(by rw[hD];exact h7)
        clear I J hI hM D hO hD
        go_wp2
        go_roundw
        case rel=>exact ⟨j,O++str M,om,om,rfl,rfl,hy,HN,hF⟩
        case measure=>simp[intOf];omega
       all_goals
        go_roundw
        case rel=>exact ⟨i+1,M,hN,by go_num,hM,C,HF,hF⟩
        case measure=>simp[intOf];omega
  ·have gh:¬(k:Int)<(z:Int):=om;have gg:k=z:=om;subst gg;have I:=(Zb0 (ZqE _)).symm.trans hr.out;subst I;clear hr;go_wp2
   go_ret3
   refine ⟨?_,hx⟩;rw[contAns,show str O.data.toList=O from Yj (Zg _)];rfl
section
attribute [local go_sem] Zph strOfNums_size
def i64ok (n:Int):Prop:= -9223372036854775808<=n/\n<=9223372036854775807
def itoaS (n:Int):ByteArray:=str (Lib.itoa n)
theorem IC (u:Nat) (h:u<10):Lib.decDigits u= [UInt8.ofNat (48+u)]:=by rw[Lib.decDigits,dif_pos h]
theorem Vq (u:Nat) (h:¬u<10):Lib.decDigits u=Lib.decDigits (u / 10)++ [UInt8.ofNat (48+u % 10)]:=by rw[Lib.decDigits,dif_neg h]
theorem Z9 (x:Int) (h:i64ok x):wrap64 x=x:=by unfold wrap64;have:=h.1;have:=h.2;omega
theorem Zdq (n:Int) (w:World) (A:Env w) (h:i64ok n):
 Calls prog 219 #[.int .i64 n,.int .i64 10] w λe w'=>e= .returned (.string (itoaS n))/\Ext w w':=by
 refine (strconv_FormatInt_10 n h.1 h.2 w A.pow).mono ?_;rintro e w' ⟨rfl,k,os,rfl⟩;exact ⟨rfl,Lib.below_grow _ w (ZqE _) k os⟩
end
def vcells (k:Int) (b:Bool) (n:Int) (s:ByteArray) (its:Value) (at_:Int):List Value:= [.int .i64 k,.bool b,.int .i64 n,.string s,its,.slice none 0 0,.int .i64 at_]
def ocells (ms:Value) (at_:Int):List Value:= [.int .i64 5,.bool false,.int .i64 0,.string ⟨#[]⟩,.slice none 0 0,ms,.int .i64 at_]
def mcell (m:ByteArray×List Value×Int):List Value:= .string m.1::(m.2.1++ [.int .i64 m.2.2])
def RVn:Nat->World->JV->List Value->Prop
 |0,_,_,_=>False
 |n+1,w,j,cs=>∃a:Int,match j with
  | .null=>cs=vcells 0 false 0 ⟨#[]⟩ (.slice none 0 0) a
  | .bool b=>cs=vcells 1 b 0 ⟨#[]⟩ (.slice none 0 0) a
  | .int x=>cs=vcells 2 false x ⟨#[]⟩ (.slice none 0 0) a
  | .str s=>cs=vcells 3 false 0 s (.slice none 0 0) a
  | .obj ks vs=>∃(v:Value) (ms:List (ByteArray×List Value×Int)),cs=ocells v a/\ms.map Prod.fst=ks/\ms.length=vs.length/\RSl w 9 v vs.length (ms.map mcell).flatten/\∀(i:Nat) (j:JV) (m:ByteArray×List Value×Int),vs[i]? =some j->ms[i]? =some m->RVn n w j m.2.1
  | .arr l=>∃(v:Value) (css:List (List Value)),cs=vcells 4 false 0 ⟨#[]⟩ v a/\css.length=l.length/\RSl w 7 v l.length css.flatten/\∀(i:Nat) (j:JV) (c:List Value),l[i]? =some j->css[i]? =some c->RVn n w j c
def RV (w:World) (j:JV) (cs:List Value):Prop:=∃n,RVn n w j cs
theorem RVn.ext {w w':World} (A:Ext w w'):∀(n:Nat) (j:JV) (cs:List Value),RVn n w j cs->RVn n w' j cs
 |0,_,_,h=>h.elim
 |n+1,j,cs,⟨a,h⟩=>by
  refine ⟨a,?_⟩
  cases j with
  |arr l=>
   obtain ⟨v,css,C,D,F,H⟩:=h
   exact ⟨v,css,C,D,F.ext A,λi j c J I=>RVn.ext A n j c (H i j c J I)⟩
  |obj ks vs=>
   obtain ⟨v,ms,C,D,F,H,O⟩:=h
   exact ⟨v,ms,C,D,F,H.ext A,λi j c J I=>RVn.ext A n j c.2.1 (O i j c J I)⟩
  |_=>exact h
theorem RV.ext {w w':World} {j:JV} {cs:List Value} (h:RV w j cs) (A:Ext w w'):RV w' j cs:=let ⟨n,h⟩:=h;⟨n,h.ext A⟩
theorem RVn.len {w:World} {n:Nat} {j:JV} {cs:List Value} (h:RVn n w j cs):cs.length=7:=by
 cases n with
 |zero=>exact h.elim
 |succ n=>
  obtain ⟨a,h⟩:=h;cases j with
  |arr l=>obtain ⟨v,css,rfl,_⟩:=h;rfl
  |obj ks vs=>obtain ⟨v,ms,rfl,_⟩:=h;rfl
  |_=>subst h;rfl
theorem XY (n:Nat) (j:JV) (cs:List Value) (w:World) (h:RVn n w j cs):
 Calls prog 231 #[.agg cs.toArray] w λe w'=>e= .returned (.bool true)/\Ext w w':=by
 cases n with
 |zero=>exact h.elim
 |succ n=>
  obtain ⟨a,h⟩:=h;cases j with
  |arr l=>
   obtain ⟨v,css,rfl,H,F,_⟩:=h;obtain ⟨_,A,c,rfl,D,C,_,_⟩:=F;unfold vcells;go_enter func231,ntmps231;go_wp2
   all_goals go_ret
   all_goals exact ⟨by first|rfl|(refine ZqS (λb=>Ending.returned (.bool b)) ?_;simp_all),by repeat (first|exact Ext.refl _|apply Ext.drew|apply Ext.alloc|(refine Ext.setCell ?_ (by simp) _))⟩
  |obj ks vs=>
   obtain ⟨v,ms,rfl, -, -,F,_⟩:=h;obtain ⟨_,A,c,rfl,D,C,_,_⟩:=F;unfold ocells;go_enter func231,ntmps231;go_wp2
   all_goals go_ret
   all_goals exact ⟨by first|rfl|(refine ZqS (λb=>Ending.returned (.bool b)) ?_;simp_all),by repeat (first|exact Ext.refl _|apply Ext.drew|apply Ext.alloc|(refine Ext.setCell ?_ (by simp) _))⟩
  |null=>
   subst h;unfold vcells;go_enter func231,ntmps231;go_wp2
   all_goals go_ret
   all_goals exact ⟨by first|rfl|(refine ZqS (λb=>Ending.returned (.bool b)) ?_;simp_all),by repeat (first|exact Ext.refl _|apply Ext.drew|apply Ext.alloc|(refine Ext.setCell ?_ (by simp) _))⟩
  |bool b=>
   subst h;unfold vcells;go_enter func231,ntmps231;go_wp2
   all_goals go_ret
   all_goals exact ⟨by first|rfl|(refine ZqS (λb=>Ending.returned (.bool b)) ?_;simp_all),by repeat (first|exact Ext.refl _|apply Ext.drew|apply Ext.alloc|(refine Ext.setCell ?_ (by simp) _))⟩
  |int x=>
   subst h;unfold vcells;go_enter func231,ntmps231;go_wp2
   all_goals go_ret
   all_goals exact ⟨by first|rfl|(refine ZqS (λb=>Ending.returned (.bool b)) ?_;simp_all),by repeat (first|exact Ext.refl _|apply Ext.drew|apply Ext.alloc|(refine Ext.setCell ?_ (by simp) _))⟩
  |str t=>
   subst h;unfold vcells;go_enter func231,ntmps231;go_wp2
   all_goals go_ret
   all_goals exact ⟨by first|rfl|(refine ZqS (λb=>Ending.returned (.bool b)) ?_;simp_all),by repeat (first|exact Ext.refl _|apply Ext.drew|apply Ext.alloc|(refine Ext.setCell ?_ (by simp) _))⟩
section
section
variable {P:Program}
end
theorem Ext.setRow {a b:Wq} (h:Ext a b) {g:Nat} (A:a.heap.size<=g) (cs:Array Value):Ext a (b.setRow g cs):=
 h.then ⟨rfl,rfl,rfl,by simp[World.setRow],λk C=>Zrn b g k cs om⟩
theorem Yh {w:Wq} {base size n:Nat} {e:TypeId} {v:Value} {xs:List Value} (h:w.ownsRow base e size v n xs) {g:Nat} (D:g<base) (cs:Array Value):(w.setRow g cs).ownsRow base e size v n xs:=by
 refine h.kept (row:=some g) ⟨rfl,rfl,rfl,by simp[World.setRow],λk _ A=>Zrn w g k cs (λe=>A (by rw[e]))⟩ (Or.inr λC=> ?_);have:=(h.lt g C).1;omega
theorem Z5 (w:Wq) (A B C:Obj):(((w.alloc A).alloc B).alloc C).heap[w.heap.size+1+1]? =some C:=by
 have h:=ZqJ ((w.alloc A).alloc B) C;have e:((w.alloc A).alloc B).heap.size=w.heap.size+1+1:=by show ((w.heap.push A).push B).size=_;simp
 rwa [e] at h
theorem Yr {w:Wq} {g n size:Nat} {cs:List Value} {e:TypeId} {fr:Nat×Nat} (C:w.heap[g]? =some (.cells cs.toArray e fr)) (h:cs.length=n*size) (D:n<=maxLen):RSl w size (.slice (some ⟨g,0,none⟩) n n) n cs:=by
 refine ⟨h,some ⟨g,0,none⟩,n,rfl,ZqE _,D,(λh=>by cases h),λj u F=>⟨_,rfl,?_⟩⟩;have A:(⟨g,0,none⟩:Addr).add j=⟨g,j,none⟩:=by unfold Addr.add;split<;>simp_all
 rw[A,Zrc C];simpa using F
theorem RSl.at1 {w:Wq} {size n c m:Nat} {A:Option Addr} {xs:List Value} (h:RSl w size (.slice A m c) n xs) (k:Nat) (u:Value) (D:xs[k]? =some u):∃ad,A=some ad/\w.cell? (ad.add k)=some u:=by
 obtain ⟨_,F,H,e,_,_,_,C⟩:=h;cases e;exact C k u D
theorem QJ (a:Addr) (m n:Nat):(a.add m).add n=a.add (m+n):=by
 unfold Addr.add;by_cases h:m=0<;>by_cases A:n=0<;>simp_all [Nat.add_assoc]
theorem RSl.elem {w:Wq} {k:Nat} {v:Value} {n:Nat} {css:List (List Value)} (h:RSl w k v n css.flatten) (X:0<k) (F:∀c∈css,c.length=k) (i:Nat) (c:List Value) (D:css[i]? =some c):
 ∃ad cap,v= .slice (some ad) n cap/\∀j u,c[j]? =some u->w.cell? ((ad.add (k*i)).add j)=some u:=by
 obtain ⟨_,A,cap,rfl,_,_,V,C⟩:=h;have I:∀(l:List (List Value)) (i:Nat) (c:List Value) (j:Nat) (u:Value),(∀c∈l,c.length=k)->l[i]? =some c->c[j]? =some u->l.flatten[k*i+j]? =some u:=by
  intro l
  induction l with
  |nil=>intro i c j u _ h;simp at h
  |cons x l ih=>
   intro i c j u F D H;have U:x.length=k:=F x (by simp);cases i with
   |zero=>simp at D;subst D;have S:j<x.length:=(by have:=(Zrw.mp H).1;exact this);simpa [List.getElem?_append,S] using (Zrw.mp H).2
   |succ i=>have:=ih i c j u (λc h=>F c (by simp[h])) (by simpa using D) H;simp only[ZsB];have e:k*(i+1)+j=x.length+(k*i+j):=(by rw[U,Nat.mul_succ];omega);rw[e,ZrP om];simpa using this
 have R:c.length=k:=F c (List.mem_of_getElem? D);have Q:0<c.length:=om
 obtain ⟨ad,rfl,_⟩:=C _ _ (I css i c 0 c[0] F D (ZqL Q));refine ⟨ad,cap,rfl,λj u H=> ?_⟩;obtain ⟨O,h,J⟩:=C _ _ (I css i c j u F D H);injection h with h;subst h;rw[QJ];exact J
theorem Ext.boxed {w w':Wq} {cs:Array Value} {t:TypeId} {fr:Nat×Nat} (h:Ext (w.alloc (.cells cs t fr)) w') (i:Nat) (v:Value) (A:cs[i]? =some v):w'.cell? ⟨w.heap.size,i,none⟩=some v:=
 h.cell (p:=⟨w.heap.size,i,none⟩) (by rw[ZqI _ _ _ cs t fr (ZqJ w _)];exact A)
end
theorem Zkh {l m:List UInt8} (h:str l=str m):l=m:=by
 have:=ZqS (λs:ByteArray=>s.data.toList) h;simpa using this
theorem Jf {a b:ByteArray} (h:a.data.toList=b.data.toList):a=b:=by
 rw[<-VH a,<-VH b,h]
def hdr (f:Fd):Fd:={f with ents:= []}
theorem Kz (s:List UInt8):WideAt.IsKeyLit (.string s):=trivial
theorem Ql:Keyed prog 9:=string_keyed underlying9
theorem Ext.grown' {B:Nat} {a b c:World} {row:Option Nat} (h:Ext a b) (A:b.grownBy c row) (D:∀g,row=some g->a.heap.size<=g):Ext a c:=
 Below.grown h A h.size λk C=>D k C
def SeenMap (D:DataW Unit) (p:ByteArray->Bool):Prop:=
 IsMap D/\∀s:ByteArray,D.atKey (.string s.data.toList) (.lit (.bool false))= .lit (.bool (p s))
theorem SeenMap.nil:SeenMap (.map []) (λ_=>false):=⟨isMap_empty,λ_=>rfl⟩
theorem SeenMap.put {D:DataW Unit} {p q:ByteArray->Bool} {s:ByteArray} (h:SeenMap D p) (F:∀t,q t=(p t||decide (s=t))):SeenMap (D.put (.string s.data.toList) (.lit (.bool true))) q:=by
 refine ⟨h.1.put _ _,λt=> ?_⟩;rw[F];by_cases e:s=t
 ·subst e;rw[atKey_put_same h.1 (Kz _)];simp
 ·have C:(Lit.string t.data.toList)≠ .string s.data.toList:=by intro A;injection A with A;exact e (Jf A).symm
  rw[atKey_put_other C,h.2 t];simp[e]
theorem KE {P:Program} {e:TypeId} (A:P.underlying e=some .bool) {v:Value} {z:DataW Unit×List MemPlace} (h:plainElem P e v=some z):∃b:Bool,v= .bool b/\z=(.lit (.bool b),[]):=by
 unfold plainElem at h;rw[A] at h;cases v<;>simp at h;exact ⟨_,rfl,h.symm⟩
theorem Zoj (w:World):(zeroValue 4).run prog w= .ok (.bool false) w:=by kernel_rfl
theorem Zaq {w:World} {b n:Nat} {D:DataW Unit} {p:ByteArray->Bool} {s:ByteArray} (F:w.ownsMap prog 9 (plainElem prog 4) b n D) (h:SeenMap D p) (H:s.size<=maxLen):
 (Instr.lookup 186 (.map (some b)) (.string s) false).run prog w= .ok (.bool (p s)) w:=by
 obtain ⟨v,ps,A,I⟩:=F.lookup Ql underlying186 (Zoj w) (plainElem_bool underlying4 false) (keyOf_string_mk underlying9 H);obtain ⟨c,rfl,C⟩:=KE underlying4 I;rw[h.2 s] at C;simp only[Prod.mk.injEq,DataW.lit.injEq,Lit.bool.injEq] at C;rw[A,C.1]
end Go.Proofs.YtmfinhgobjbecaaGreatDoor
