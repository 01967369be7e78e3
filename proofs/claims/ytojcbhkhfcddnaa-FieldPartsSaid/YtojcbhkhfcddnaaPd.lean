/-
  Contracts of functions of the program, walked over their shallow forms. No condition but the ones that each states.
-/
import Derived.Test.YtojcbhkhfcddnaaPc
namespace Go.Proofs.Ytojcbhkhfcddnaa
open Go Go.Sh
set_option linter.unusedVariables false
set_option maxRecDepth 100000


/-- greenscreen/greenscreenref01.Held -/
theorem c_greenscreenref01_Held {n lo hi : Int} {w : World} :
    Calls Try.prog 47 #[.int .i64 n, .int .i64 lo, .int .i64 hi] w fun e w' => e = .returned (.int .i64 (if n < lo then lo else if hi < n then hi else n)) ∧ Upd no w w' := by
  refine F47.calls ?_
  unfold F47
  have hF : Upd no w w := Fr.refl _ _ _
  refine opv_dec (lss _ _ _ _) (fun h1 => ?_) (fun h1 => ?_)
  · refine condt ?_
    first | exact ⟨retI (by rw [if_pos (by assumption)]), hF⟩ | exact ⟨retI (by rw [if_neg (by assumption), if_pos (by assumption)]), hF⟩ | exact ⟨retI (by rw [if_neg (by assumption), if_neg (by assumption)]), hF⟩
  · refine condf ?_
    refine opv_dec (gtr _ _ _ _) (fun h3 => ?_) (fun h3 => ?_)
    · refine condt ?_
      first | exact ⟨retI (by rw [if_pos (by assumption)]), hF⟩ | exact ⟨retI (by rw [if_neg (by assumption), if_pos (by assumption)]), hF⟩ | exact ⟨retI (by rw [if_neg (by assumption), if_neg (by assumption)]), hF⟩
    · refine condf ?_
      first | exact ⟨retI (by rw [if_pos (by assumption)]), hF⟩ | exact ⟨retI (by rw [if_neg (by assumption), if_pos (by assumption)]), hF⟩ | exact ⟨retI (by rw [if_neg (by assumption), if_neg (by assumption)]), hF⟩

end Go.Proofs.Ytojcbhkhfcddnaa
