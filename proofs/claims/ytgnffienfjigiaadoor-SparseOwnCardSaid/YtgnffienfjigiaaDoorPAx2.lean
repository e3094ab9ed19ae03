-- WRITTEN BY a program of this session (pp.sh)
import Derived.Test.YtgnffienfjigiaaDoorPAx0
namespace Go.Proofs.YtgnffienfjigiaaDoor.PA
open Go.RowKit Go.Proofs.YtgnffienfjigiaaDoorW.PrintWords Go.Proofs.YtgnffienfjigiaaDoorW.PrintLast Go.Proofs.YtgnffienfjigiaaDoorW.PrintMore Go.Proofs.YtgnffienfjigiaaDoor.Plain
attribute [local go_sem] max2_int min2_int max_two min_two max_three min_three max_four min_four binOp_leq_s binOp_gtr_s binOp_geq_s lit_byte   -- for this text's walks alone
set_option linter.unusedVariables false
set_option linter.unusedSimpArgs false

/-! ### strings_Trim: function 30, by hand -/
/-- strings.Trim of zero bytes. -/
def strings_Trim.f (a0 a1 : ByteArray) : Option ByteArray := if a1.data.toList = [0] ∧ a0.size ≤ 9223372036854775807 then some ⟨(Lib.trimB a0.data.toList 0).toArray⟩ else none
theorem strings_Trim.calls (a0 a1 : ByteArray) (r : ByteArray) (w : World) (h : strings_Trim.f a0 a1 = some r) :
    Calls Tryd.prog 30 #[.string a0, .string a1] w fun e w' => e = .returned (.string r) ∧ Drawn0 w w' := by
  unfold strings_Trim.f at h
  split at h
  case isFalse => cases h
  case isTrue hh =>
  obtain rfl := Option.some.inj h
  have e1 : a1 = ⟨#[0]⟩ := by
    obtain ⟨⟨l⟩⟩ := a1
    have : l = [0] := hh.1
    rw [this]
  subst e1
  refine (Tryd.strings_Trim_one a0 0 (by decide) w hh.2).mono fun e w' ⟨he, hw⟩ => ⟨he, ?_⟩
  rcases hw with rfl | rfl
  · exact ⟨0, rfl⟩
  · exact ⟨1, rfl⟩


end Go.Proofs.YtgnffienfjigiaaDoor.PA
