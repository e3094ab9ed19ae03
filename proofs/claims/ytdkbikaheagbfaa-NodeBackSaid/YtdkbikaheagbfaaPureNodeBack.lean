/- What Encode writes Decode reads as it was; what Decode reads has just these bytes: no condition. -/
import Derived.Test.YtdkbikaheagbfaaPAx22
import Derived.Test.YtdkbikaheagbfaaNodeK
import Derived.Test.YtdkbikaheagbfaaNodeS
namespace Go.Proofs.Ytdkbikaheagbfaa.Pure
open Go.RowKit Go.Proofs.Ytdkbikaheagbfaa.PA Go.Proofs.YtdkbikaheagbfaaW.PrintWords Go.Proofs.YtdkbikaheagbfaaW.PrintLast Go.Proofs.Ytdkbikaheagbfaa.NodeP

theorem back_j1 (s : ByteArray) (h : s.size ≤ 4096) (k : Nat) (hk : 13001 ≤ k) : coppicelaw06_NodeBack.j1 k s false = some true := by
  obtain ⟨k, rfl⟩ : ∃ q, k = q + 1 := ⟨k - 1, by omega⟩
  rw [coppicelaw06_NodeBack.j1, if_neg Bool.false_ne_true]
  obtain ⟨r, h1, h2⟩ := decode_ok s h k (by omega)
  rw [h1, Option.bind_some]
  rcases h2 with rfl | ⟨b, l, m, rfl, hc, hs⟩
  · rw [nencode_ok false [] [] (small_of (by simp) (by simp) (by simp) (by simp)), Option.bind_some]
    have : encR false [] [] = (⟨#[]⟩, 60) := by decide +kernel
    rw [this, if_neg (by decide), if_pos (by rfl)]
    rfl
  · rw [nencode_ok b l m (small_ok b l m hc), Option.bind_some]
    have : encR b l m = (ofL (refBytes b l m), 0) := by unfold encR; rw [if_pos hc]
    rw [this, if_pos (by rfl), if_pos (by rfl), if_pos (by show (ofL (refBytes b l m)).toList = s.toList; rw [hs])]
theorem NodeBack : coppicelaw06_NodeBack.Pure := by
  intro x s _ _
  refine ⟨20001, ?_⟩
  unfold coppicelaw06_NodeBack.f
  obtain ⟨b, hb, hsm⟩ := great_ok 20001 x.f0 x.f1 x.f2 (by decide)
  rw [awake_ok, Option.bind_some, if_pos rfl, hb, Option.bind_some]
  have j1 : ∀ a l m, coppicelaw06_NodeBack.j0 20001 s true a l m = some true := fun a l m => by rw [coppicelaw06_NodeBack.j0, if_pos rfl]
  cases b with
  | true => rw [if_pos rfl, j1]
  | false =>
    have hs := hsm rfl
    rw [if_neg (by decide)]
    by_cases c : (s.size : Int) > 4096
    · rw [decide_eq_true c, j1]
    rw [decide_eq_false c, coppicelaw06_NodeBack.j0, if_neg Bool.false_ne_true, nencode_ok _ _ _ hs, Option.bind_some]
    have hj := back_j1 s (by omega) 20000 (by decide)
    by_cases hc : checkR x.f0 x.f1 x.f2 = 0
    · have he : encR x.f0 x.f1 x.f2 = (ofL (refBytes x.f0 x.f1 x.f2), 0) := by unfold encR; rw [if_pos hc]
      rw [he]
      show (node_Decode.f 20000 (ofL (refBytes x.f0 x.f1 x.f2))).bind _ = _
      rw [decode_at _ _ _ hc 20000 (by decide), Option.bind_some, if_pos (by rfl), if_pos (by rfl)]
      show (coppiceref06_Same.f 20000 x.f0 x.f1 x.f2 x.f0 x.f1 x.f2).bind _ = _
      rw [same_self _ _ _ hs.1 hs.2.1 20000 (by decide), Option.bind_some, if_pos rfl, nsize_ok _ _ _ hs, Option.bind_some, if_pos (by unfold sizeR; rw [if_pos (checkR_ok _ _ _ hc).1]; show _ = ((ofL (refBytes x.f0 x.f1 x.f2)).size : Int); rw [ofL_size])]
      exact hj
    · have he : encR x.f0 x.f1 x.f2 = (⟨#[]⟩, checkR x.f0 x.f1 x.f2) := by unfold encR; rw [if_neg hc]
      rw [he]
      obtain ⟨r, h1, _⟩ := decode_ok ⟨#[]⟩ (by decide) 20000 (by decide)
      show (node_Decode.f 20000 ⟨#[]⟩).bind _ = _
      rw [h1, Option.bind_some, if_neg hc]
      have : ((⟨#[]⟩ : ByteArray).toList != ([] : List UInt8)) = false := by rw [ByteArray.toList_eq]; rfl
      show coppicelaw06_NodeBack.j1 20000 s ((⟨#[]⟩ : ByteArray).toList != ([] : List UInt8)) = some true
      rw [this]
      exact hj

end Go.Proofs.Ytdkbikaheagbfaa.Pure
