import Derived.Test.YtgnffienfjigiaaDoorPAx6
import Derived.Test.YtgnffienfjigiaaDoorPAx7
import Derived.Test.YtgnffienfjigiaaDoorPAx8
import Derived.Test.YtgnffienfjigiaaDoorSpE
/-! The statements' own functions: awake, own, Great. -/
set_option linter.unusedVariables false
set_option linter.unusedSimpArgs false
namespace Go.Proofs.YtgnffienfjigiaaDoor.SpP
open Go.RowKit Go.Proofs.YtgnffienfjigiaaDoor.PA Go.Proofs.YtgnffienfjigiaaDoorW.PrintWords Go.Proofs.YtgnffienfjigiaaDoorW.PrintMore
open Go.Proofs.YtgnffienfjigiaaDoor.Plain
theorem i64_wf {a : Int} (h : (Lit.int .i64 a).wf = true) : -9223372036854775808 ≤ a ∧ a ≤ 9223372036854775807 := by
  simp [Lit.wf, IntKind.min, IntKind.max, IntKind.signed, IntKind.bits] at h; omega
theorem own_f {l : List Pc} (h : l.length ≤ 100000) : coppicelaw13_own.f l = some l := by
  unfold coppicelaw13_own.f
  rw [Option.bind_some, if_pos (by simp; omega), List.nil_append]
theorem great_l (l : List Pc) (hl : l.length ≤ 200) (n : Nat) : ∀ k j : Nat, n = l.length - j → n < k → j ≤ l.length → ∃ b, coppiceref13_Great.l0 k l (j : Int) = some b := by
  induction n with
  | zero =>
    intro k j hn hk hj
    obtain ⟨k, rfl⟩ : ∃ q, k = q + 1 := ⟨k - 1, by omega⟩
    refine ⟨false, ?_⟩
    simp only [coppiceref13_Great.l0]; rw [if_neg (by omega)]
  | succ n ih =>
    intro k j hn hk hj
    obtain ⟨k, rfl⟩ : ∃ q, k = q + 1 := ⟨k - 1, by omega⟩
    simp only [coppiceref13_Great.l0]
    rw [if_pos (by omega), if_pos (by omega), w1 (by omega)]
    by_cases h : (((rd_T39 l (j : Int)).f1).size : Int) > 1000
    · rw [if_pos h]; exact ⟨true, rfl⟩
    · rw [if_neg h]; exact ih k (j + 1) (by omega) (by omega) (by omega)
theorem great_f (l : List Pc) (k : Nat) (hk : 201 ≤ k) : ∃ b, coppiceref13_Great.f k l = some b ∧ (b = false → l.length ≤ 200) := by
  unfold coppiceref13_Great.f
  by_cases h : (l.length : Int) > 200
  · rw [if_pos h]; exact ⟨true, rfl, fun h => by cases h⟩
  · rw [if_neg h]
    obtain ⟨b, hb⟩ := great_l l (by omega) l.length k 0 (by omega) (by omega) (by omega)
    exact ⟨b, hb, fun _ => by omega⟩
theorem awake_f (k : Nat) (hk : 201 ≤ k) : coppicelaw13_awake.f k = some true := by
  unfold coppicelaw13_awake.f
  have hx : (⟨#[120]⟩ : ByteArray).size = 1 := rfl
  have e : writeL [] 200 ⟨#[120]⟩ = [pieceW [] 200 ⟨#[120]⟩ 3] := by
    unfold writeL
    rw [show countW 200 ⟨#[120]⟩ = 1 from rfl]
    rfl
  have hw : sparse_Write.f k [] 0 200 ⟨#[120]⟩ = some ([pieceW [] 200 ⟨#[120]⟩ 3], 201, 0) := by
    rw [write_f [] 0 200 ⟨#[120]⟩ (by decide) k (by simp; omega), if_pos (by rfl), if_neg (by rw [hx]; omega), if_neg (by rw [hx]; omega), e, hx]
    rfl
  rw [hw, Option.bind_some]
  have e0 : rd_T39 [pieceW [] 200 ⟨#[120]⟩ 3] 0 = pieceW [] 200 ⟨#[120]⟩ 3 := rfl
  have e1 : (pieceW [] 200 ⟨#[120]⟩ 3).f1.size = 64 := mkB_size _ _
  have e2 : bt (pieceW [] 200 ⟨#[120]⟩ 3).f1 8 = 120 := by
    have := bt_pieceW [] 200 ⟨#[120]⟩ 200
    rw [show (200 : Int) / 64 = 3 from rfl, show (200 : Int) % 64 = 8 from rfl] at this
    rw [this]
    rfl
  simp only [e0, e1, e2]
  rfl
end Go.Proofs.YtgnffienfjigiaaDoor.SpP
