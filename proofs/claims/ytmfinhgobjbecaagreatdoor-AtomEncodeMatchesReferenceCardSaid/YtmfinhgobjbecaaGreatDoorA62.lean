/- Parts of the proof: contracts and plain laws. -/
import Derived.Deep.MidRow
import Derived.Lib.AppendZerosOnto
import Derived.Lib.SliceRun
import Derived.Test.YtmfinhgobjbecaaGreatDoorA13
namespace Go.Proofs.YtmfinhgobjbecaaGreatDoor
open Go Go.RowKit _root_.Go.Proofs.Tryz
set_option linter.unusedVariables false
set_option linter.unusedSimpArgs false
set_option maxRecDepth 100000
set_option maxHeartbeats 16000000
section
attribute [local go_sem] Zph strOfNums_size
theorem ZdZ (x:Int) (d:Nat) (l:List UInt8) (h:x.toNat=d):strOfNums [x]++str l=str (UInt8.ofNat d::l):=by
 subst h;exact Yj (by simp[JY])
end
section
set_option linter.unusedSimpArgs false
theorem Za3 (y:Nat) (w:World) (A:1<=y) (C:y<=9999):
 Calls prog 165 #[.int .i64 (y:Nat)] w λe w'=>e= .returned (.bool (leapN y))/\w'=w:=by
 have h:(1:Int)<=(y:Int):=om
 have a2:(y:Int)<=9999:=om
 go_enter func165,ntmps165;go_wp2
 all_goals go_ret
 all_goals exact ⟨ZqS (λb=>Ending.returned (Value.bool b)) (ZrG.2 (by rw[QX];simp;omega)),rfl⟩
theorem GO (y m:Int) (w:World):
 Calls prog 166 #[.int .i64 y,.int .i64 m] w λe w'=>e= .returned (.int .i64 (dimI y m:Nat))/\w'=w:=by
 by_cases h:1<=y/\y<=9999/\1<=m/\m<=12
 ·obtain ⟨y,rfl⟩:=Int.eq_ofNat_of_zero_le (show 0<=y by omega);obtain ⟨m,rfl⟩:=Int.eq_ofNat_of_zero_le (show 0<=m by omega);have R:1<=y/\y<=9999/\1<=m/\m<=12:=om
  have D:=gd (Xv R);obtain ⟨O,Q,S,U⟩:=R;have H:=gd (λw'=>Za3 y w' O Q);have Y:¬(y:Int)<1:=om
  have a2:¬9999<(y:Int):=om
  have a3:¬(m:Int)<1:=om
  have a4:¬12<(m:Int):=om
  by_cases F:m=2
  ·have A:Hid (dimN y m=if leapN y then 29 else 28):=(by show _=_;unfold dimN;rw[ZqN F]);subst F;cases hb:leapN y
   ·rw[hb] at H;clear h O Q S U;go_enter func166,ntmps166
    go_wp2_with (first|(go_at_call 165;refine ZqD (H.out _) ?_;rintro e w1 ⟨rfl,rfl⟩))
    go_ret;exact ⟨by rw[D.out,A.out,hb];rfl,rfl⟩
   ·rw[hb] at H;clear h O Q S U;go_enter func166,ntmps166
    go_wp2_with (first|(go_at_call 165;refine ZqD (H.out _) ?_;rintro e w1 ⟨rfl,rfl⟩))
    go_ret;exact ⟨by rw[D.out,A.out,hb];rfl,rfl⟩
  ·have a5:¬(m:Int)=2:=om;have A:Hid (dimN y m=if m=4\/m=6\/m=9\/m=11 then 30 else 31):=(by show _=_;unfold dimN;rw[ZqH F]);by_cases I:m=4\/m=6\/m=9\/m=11
   ·have J:Hid (dimN y m=30):=(by show _=_;rw[A.out,ZqN I]);clear h F A;rcases I with rfl|rfl|rfl|rfl
    all_goals go_enter func166,ntmps166
    all_goals go_wp2
    all_goals go_ret
    all_goals exact ⟨ZqS (λn:Nat=>Ending.returned (.int .i64 n)) (D.out.trans J.out).symm,rfl⟩
   ·have J:Hid (dimN y m=31):=(by show _=_;rw[A.out,ZqH I]);have C:m=1\/m=3\/m=5\/m=7\/m=8\/m=10\/m=12:=om;clear h F A I a5 a3 a4;rcases C with rfl|rfl|rfl|rfl|rfl|rfl|rfl
    all_goals go_enter func166,ntmps166
    all_goals go_wp2
    all_goals go_ret
    all_goals exact ⟨ZqS (λn:Nat=>Ending.returned (.int .i64 n)) (D.out.trans J.out).symm,rfl⟩
 ·have D:=gd (IE h);have C:y<1\/(¬y<1/\9999<y)\/(¬y<1/\¬9999<y/\m<1)\/(¬y<1/\¬9999<y/\¬m<1/\12<m):=om
  clear h;go_enter func166,ntmps166;rcases C with C|⟨C,V⟩|⟨C,V,X⟩|⟨C,V,X,Z⟩
  all_goals go_wp2
  all_goals go_ret
  all_goals exact ⟨by rw[D.out];rfl,rfl⟩
end
end Go.Proofs.YtmfinhgobjbecaaGreatDoor
