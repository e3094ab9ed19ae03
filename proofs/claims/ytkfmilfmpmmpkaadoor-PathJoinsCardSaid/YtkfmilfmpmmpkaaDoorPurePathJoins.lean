/- Paths: names are joined as the document says, and split again into themselves. -/
import Derived.Test.YtkfmilfmpmmpkaaDoorPAx19
import Derived.Test.YtkfmilfmpmmpkaaDoorPathJ
import Derived.Test.YtkfmilfmpmmpkaaDoorPathE
namespace Go.Proofs.YtkfmilfmpmmpkaaDoor.Pure
open Go.RowKit Go.Proofs.YtkfmilfmpmmpkaaDoor.PA Go.Proofs.YtkfmilfmpmmpkaaDoorW.PrintWords Go.Proofs.YtkfmilfmpmmpkaaDoorW.PrintLast
open Go.Proofs.YtkfmilfmpmmpkaaDoor.Plain Go.Proofs.YtkfmilfmpmmpkaaDoor.PathP
theorem joins_end (l : List ByteArray) (hl : l.length ≤ 300) (hx : ∀ x ∈ l, x.size ≤ 2000) (k : Nat) (hk : 4000000 ≤ k) :
    ((some (([] : List ByteArray) : List ByteArray)).bind fun y225 => (if y225.length + l.length < 8796093022208 then ((path_Join.f k (y225 ++ l)).bind fun bt231 => ((coppiceref12_Join.f k l).bind fun bt233 => (if bt231.1.toList = bt233.1.toList then (coppicelaw12_PathJoins.j1 k l bt231.1 bt231.2 (bt231.2 != bt233.2)) else (coppicelaw12_PathJoins.j1 k l bt231.1 bt231.2 true)))) else (none))) = some true := by
  have hzj := joined_size l hl hx
  rw [Option.bind_some, if_pos (by simp only [List.length_nil]; omega), List.nil_append, pjoin_f l hl hx k (by omega), Option.bind_some, rjoin_f l hl hx k (by omega), Option.bind_some, if_pos rfl]
  obtain ⟨k, rfl⟩ : ∃ q, k = q + 1 := ⟨k - 1, by omega⟩
  simp only [coppicelaw12_PathJoins.j1]
  have hne : ((joinR l).2 != (joinR l).2) = false := by simp
  rw [hne, if_neg (by decide)]
  by_cases hc : l.all nameB = true ∧ l.length ≤ 32 ∧ (joined l).size ≤ 1023
  · rw [joinR_yes l hc.1 hc.2, psplit_f (joined l) (by omega) k (by omega), Option.bind_some, split_joined l hc.1, if_pos hc.2]
    simp only
    first | rw [if_pos trivial, if_pos trivial] | rw [if_pos trivial] | skip
    rw [same_f l l (by omega) k (by omega), decide_eq_true rfl, Option.bind_some]
  · rw [joinR_no l hc]
    have hz0 : (⟨#[]⟩ : ByteArray).size = 0 := rfl
    rw [psplit_f (⟨#[]⟩ : ByteArray) (by omega) k (by omega), Option.bind_some, if_neg (by decide)]
theorem joins_l0 (l : List ByteArray) (hl : l.length ≤ 100) : ∀ (m k i : Nat), l.length = i + m → m + 4000000 < k → (∀ j : Nat, j < i → ∀ h : j < l.length, (l[j]'h).size ≤ 1024) →
    coppicelaw12_PathJoins.l0 k l (i : Int) = some true
  | 0, k, i, hz, hk, hb => by
    obtain ⟨k, rfl⟩ : ∃ q, k = q + 1 := ⟨k - 1, by omega⟩
    have hx : ∀ x ∈ l, x.size ≤ 2000 := by
      intro x hm
      obtain ⟨j, hj, rfl⟩ := List.mem_iff_getElem.1 hm
      have := hb j (by omega) hj
      omega
    simp only [coppicelaw12_PathJoins.l0]
    rw [if_neg (by omega)]
    exact joins_end l (by omega) hx k (by omega)
  | m + 1, k, i, hz, hk, hb => by
    obtain ⟨k, rfl⟩ : ∃ q, k = q + 1 := ⟨k - 1, by omega⟩
    have hi : i < l.length := by omega
    simp only [coppicelaw12_PathJoins.l0]
    rw [if_pos (by omega), if_pos (by omega), rd_get l i hi]
    by_cases hs : ((l[i]'hi).size : Int) > 1024
    · rw [if_pos hs]
    · rw [if_neg hs, wrapn (by omega)]
      refine joins_l0 l hl m k (i + 1) (by omega) (by omega) (fun j hj h => ?_)
      by_cases e : j = i
      · subst e; omega
      · exact hb j (by omega) h
theorem PathJoins : coppicelaw12_PathJoins.Pure := by
  intro l hl
  refine ⟨5000000, ?_⟩
  unfold coppicelaw12_PathJoins.f
  rw [awake_ok 5000000 (by omega), Option.bind_some, if_pos rfl]
  by_cases hb : (l.length : Int) > 100
  · rw [if_pos hb]
  · rw [if_neg hb]
    exact joins_l0 l (by omega) l.length 5000000 0 (by omega) (by omega) (fun j hj => by omega)
end Go.Proofs.YtkfmilfmpmmpkaaDoor.Pure
