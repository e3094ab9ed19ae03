import Derived.Test.YtofdpgcnconibaaGreatDoorPAx5
import Derived.Test.YtofdpgcnconibaaGreatDoorPAx6
import Derived.Test.YtofdpgcnconibaaGreatDoorPAx7
import Derived.Test.YtofdpgcnconibaaGreatDoorPathS
/-! Paths: the program's Loose. -/
set_option linter.unusedVariables false
set_option linter.unusedSimpArgs false
namespace Go.Proofs.YtofdpgcnconibaaGreatDoor.PathP
open Go.RowKit Go.Proofs.YtofdpgcnconibaaGreatDoor.PA Go.Proofs.YtofdpgcnconibaaGreatDoorW.PrintWords Go.Proofs.YtofdpgcnconibaaGreatDoorW.PrintLast Go.Proofs.YtofdpgcnconibaaGreatDoorW.PrintMore
open Go.Proofs.YtofdpgcnconibaaGreatDoor.Plain
/-- What may be a loose path's first name. -/
def looseB (s : ByteArray) : Bool := (orphanV s).2 || nameB s
theorem porph_f (s : ByteArray) (hs : s.size ≤ 1000000) : path_OrphanOf.f s = some (orphanV s) := if_pos (by omega)
theorem loosely_f (s : ByteArray) (hs : s.size ≤ 1000000) : path_loosely.f s = some (looseB s) := by
  unfold path_loosely.f looseB
  rw [porph_f s hs, Option.bind_some, name_f, Option.bind_some]
  cases (orphanV s).2 with
  | true => rfl
  | false => rfl
theorem lnames_f (s : ByteArray) (most : Nat) (hs : s.size ≤ 1000000) (k : Nat) (hk : s.size + 10 ≤ k) : path_names_path_loosely.f k s (most : Int) = some (pathNames looseB most s) := by
  obtain ⟨k, rfl⟩ : ∃ q, k = q + 1 := ⟨k - 1, by omega⟩
  unfold path_names_path_loosely.f pathNames
  by_cases h0 : s = ofL [47]
  · rw [if_pos ((toList_iff _ _).2 h0), if_pos h0]
  · rw [if_neg (fun h => h0 ((toList_iff _ _).1 h)), if_neg h0, cutPrefix_slash, Option.bind_some]
    by_cases hh : s.data.toList.head? = some 47
    · rw [if_pos hh]
      simp only [if_true]
      by_cases hm : s.size ≤ most
      · rw [if_pos ⟨hh, hm⟩, decide_eq_false (by omega)]
        simp only [path_names_path_loosely.j0]
        have hz : (ofL s.data.toList.tail).size ≤ s.size := by
          show s.data.toList.tail.toArray.size ≤ _
          rw [List.size_toArray, List.length_tail, lenL]; omega
        have hlen : (cutS (ofL s.data.toList.tail)).length ≤ s.size + 1 := by
          unfold cutS
          rw [cutFrom_len, toList_ofL]
          have := List.count_le_length (a := (47 : UInt8)) (l := s.data.toList.tail)
          rw [List.length_tail, lenL] at this
          omega
        rw [if_neg (by decide), split_f _ (by omega) k (by omega), Option.bind_some]
        generalize hcut : cutS (ofL s.data.toList.tail) = l at *
        obtain ⟨x, r, hx⟩ := cutS_ne (ofL s.data.toList.tail)
        rw [hcut] at hx
        subst hx
        by_cases h32 : (x :: r).length ≤ 32
        · rw [if_neg (by omega), if_pos (by simp only [List.length_cons]; omega)]
          have hrd : rdOf ByteArray.empty (x :: r) 0 = x := rfl
          rw [hrd, loosely_f x (by have := cutS_sizes (ofL s.data.toList.tail) x (by rw [hcut]; exact List.mem_cons_self ..); omega), Option.bind_some]
          cases hxn : looseB x with
          | false => rw [if_neg (by decide), if_neg (by rintro ⟨_, h, _⟩; simp [hxn] at h)]
          | true =>
            rw [if_pos rfl, if_pos (by simp only [List.length_cons]; omega), List.drop_one, List.tail_cons]
            rw [contains_names r (by simp only [List.length_cons] at hlen; omega) k (by simp only [List.length_cons] at hlen; omega), Option.bind_some]
            cases hr : r.all nameB with
            | true => rw [if_neg (by decide), if_pos ⟨h32, by simp [hxn], by first | rfl | simpa using hr⟩]
            | false => rw [if_pos (by rfl), if_neg (by rintro ⟨_, _, h⟩; cases h)]
        · rw [if_pos (by omega), if_neg (by rintro ⟨h, _⟩; exact h32 h)]
      · rw [if_neg (by rintro ⟨_, h⟩; exact hm h), decide_eq_true (by omega)]
        simp only [path_names_path_loosely.j0]
        first | rw [if_pos rfl] | rw [if_pos trivial] | rfl
    · rw [if_neg (fun h : s.data.toList.head? = some 47 ∧ s.size ≤ most => hh h.1), if_neg hh]
      show path_names_path_loosely.j0 (k + 1) s true = _
      simp only [path_names_path_loosely.j0]
      first | done | rfl | rw [if_pos rfl] | rw [if_pos trivial]
/-- What Loose answers. -/
def looseR (s : ByteArray) : List ByteArray × Int := pathNames looseB 1037 s
theorem ploose_f (s : ByteArray) (hs : s.size ≤ 1000000) (k : Nat) (hk : s.size + 10 ≤ k) : path_Loose.f k s = some (looseR s) := by
  unfold path_Loose.f
  rw [show (1037 : Int) = ((1037 : Nat) : Int) from rfl, lnames_f s 1037 hs k hk, Option.bind_some]
  rfl
end Go.Proofs.YtofdpgcnconibaaGreatDoor.PathP
