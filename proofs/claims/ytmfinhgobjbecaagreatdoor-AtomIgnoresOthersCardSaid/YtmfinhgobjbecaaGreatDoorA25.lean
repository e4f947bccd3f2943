/- Parts of the proof: contracts and plain laws. -/
import Derived.Test.YtmfinhgobjbecaaGreatDoorA22
namespace Go.Proofs.YtmfinhgobjbecaaGreatDoor
open Go Go.RowKit _root_.Go.Proofs.Tryz
set_option linter.unusedVariables false
set_option linter.unusedSimpArgs false
set_option maxRecDepth 100000
set_option maxHeartbeats 16000000
theorem ZhZ (l:List UInt8) (k:Nat) (D:k<l.length):Lib.validD (l.drop k)=if (dec (l.drop k)).2=0 then false else Lib.validD (l.drop (k+(dec (l.drop k)).2)):=by
 have A:l.drop k≠ []:=by intro h;have:=ZqS List.length h;simp at this;omega
 rw[Lib.validD_step _ A];have C:dec (l.drop k)=if (Lib.decodeL (l.drop k)).1=65533/\(Lib.decodeL (l.drop k)).2=1 then (0,0) else Lib.decodeL (l.drop k):=by unfold dec;rw[ZqH A]
 by_cases h:(Lib.decodeL (l.drop k)).1=65533/\(Lib.decodeL (l.drop k)).2=1
 ·rw[ZqN h] at C|-;rw[C];rfl
 ·rw[ZqH h] at C|-;rw[C,ZqH,List.drop_drop];rw[Jg];have:=(Qc (l.drop k).length ((l.drop k).getD 0 0).toNat ((l.drop k).getD 1 0).toNat ((l.drop k).getD 2 0).toNat ((l.drop k).getD 3 0).toNat (Zr3.2 A)).1;omega
def vld (s:ByteArray):Bool:=Lib.validD s.data.toList
def goodE (e:Ent):Prop:=vld e.id=true/\vld e.title=true/\vld e.link=true/\vld e.content=true
theorem UL {e:Ent} (h:goodE e):entryKey e=str (jtext (entJ e)):=by
 obtain ⟨A,C,D,F⟩:=h;unfold vld at A C D F;unfold entryKey jwrite;rw[ZqN];unfold entJ;rw[Vu];simp[jvalid,A,C,D,F]
theorem Zcy (s:ByteArray):jtext (.str s)=quoteL s.data.toList:=by rw[jtext]
theorem Zcx (n:Int):jtext (.int n)=Lib.itoa n:=by rw[jtext]
section
theorem Zec:∀(t:List Ent) (x:Ent),t.foldl laterE x∈x::t
 | [],x=>by simp
 |y::t,x=>by
  have h:=Zec t (laterE x y)
  rw[List.foldl_cons]
  rcases Zq1.1 h with h|h
  ·rw[h]
   unfold laterE
   split<;>simp
  ·simp[h]
theorem ZbT {l:List Ent} {x:Ent} (h:x∈ordE.canon l):x∈l:=by
 have A:=((ordE.canon_is l).2 x).1 h;unfold Ord.got at A;cases hf:l.filter λy=>decide (ordE.id y=ordE.id x) with
 |nil=>rw[hf] at A;cases A
 |cons y t=>
  rw[hf] at A;have D:t.foldl laterE y=x:=by unfold Ord.fold1 at A;injection A
  have C:=Zec t y;rw[D,<-hf] at C;exact (ZrK.1 C).1
section
variable {α κ:Type} (O:Ord α κ)
theorem Zj3:∀(l:List α) (e:α),(O.ins l e).length=l.length+1
 | [],_=>rfl
 |x::t,e=>by
  unfold Ord.ins
  split
  ·rfl
  ·rw[ZqK,Zj3 t e,ZqK]
end
section
variable {α κ:Type} [DecidableEq κ] (O:Ord α κ)
theorem Zo2 (l:List α) (e:α):(O.put l e).length<=l.length+1:=by
 unfold Ord.put;rw[Zj3,O.scan_fst];have:=List.length_filter_le (λx=> !decide (O.id x=O.id e)) l;omega
theorem IL:∀(l s:List α),(l.foldl O.put s).length<=s.length+l.length
 | [],s=>by simp
 |x::t,s=>by
  have h:=IL t (O.put s x)
  have:=Zo2 O s x
  rw[List.foldl_cons,ZqK]
  omega
theorem ZdQ (l:List α):(O.canon l).length<=l.length:=by
 have:=IL O l [];unfold Ord.canon;simpa using this
end
end
theorem ZhR {M K:Nat} {f:Fd} (h:szA M K f):szA M K (normF f):=by
 obtain ⟨D,F,O⟩:=h;unfold normF;split
 ·refine ⟨λs A=> ?_,λe I s A=> ?_,?_⟩
  ·simp only[collF,Zq1,List.not_mem_nil,ZrD] at A;rcases A with rfl|rfl|rfl
   ·exact ZqM (ZO _) (D _ (by simp))
   ·exact ZqM (ZO _) (D _ (by simp))
   ·exact ZqM (ZO _) (D _ (by simp))
  ·obtain ⟨x,J,rfl⟩:=Zrr.1 (ZbT (show e∈ordE.canon (f.ents.map collE) from I));have C:=F x J;unfold strsE collE at A;simp only[Zq1,List.not_mem_nil,ZrD] at A;rcases A with rfl|rfl|rfl|rfl
   ·exact ZqM (ZO _) (C _ (by simp[strsE]))
   ·exact ZqM (ZO _) (C _ (by simp[strsE]))
   ·exact ZqM (ZO _) (C _ (by simp[strsE]))
   ·exact ZqM (ZO _) (C _ (by simp[strsE]))
  ·show (ordE.canon (f.ents.map collE)).length<=K;have:=ZdQ ordE (f.ents.map collE);rw[Zq9] at this;omega
 ·refine ⟨λs A=> ?_,λe H=>absurd H (by simp[zeroF]),ZqO _⟩;simp only[zeroF,Zq1,List.not_mem_nil,ZrD] at A;rcases A with rfl|rfl|rfl<;>exact ZqO _
section
set_option linter.unusedSimpArgs false
theorem Zbg {s:ByteArray} (h:treeP s.data.toList=none) (w:World) (C:s.size<=maxLen):
 Calls prog 9 #[.string s] w λe w'=>e= .returned (.tuple #[.agg #[.int .i64 0,.string ⟨#[]⟩,.string ⟨#[]⟩,.slice none 0 0,.slice none 0 0,.string ⟨#[]⟩,.int .i64 0],.int .i64 0])/\Ext w w':=by
 refine ZqD (ZaX s w C) ?_;rintro e w' ⟨v,rfl,A,D⟩;rw[h] at A;have A:v=_:=A;subst A;exact ⟨rfl,D⟩
end
end Go.Proofs.YtmfinhgobjbecaaGreatDoor
