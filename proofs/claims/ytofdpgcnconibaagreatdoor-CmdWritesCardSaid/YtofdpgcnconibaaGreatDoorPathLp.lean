import Derived.Test.YtofdpgcnconibaaGreatDoorPAx16
import Derived.Test.YtofdpgcnconibaaGreatDoorPAx17
import Derived.Test.YtofdpgcnconibaaGreatDoorPAx7
import Derived.Test.YtofdpgcnconibaaGreatDoorPathR
import Derived.Test.YtofdpgcnconibaaGreatDoorPathLo
import Derived.Test.YtofdpgcnconibaaGreatDoorPathO
/-! Paths: the document's Loose. -/
set_option linter.unusedVariables false
set_option linter.unusedSimpArgs false
namespace Go.Proofs.YtofdpgcnconibaaGreatDoor.PathP
open Go.RowKit Go.Proofs.YtofdpgcnconibaaGreatDoor.PA Go.Proofs.YtofdpgcnconibaaGreatDoorW.PrintWords Go.Proofs.YtofdpgcnconibaaGreatDoorW.PrintLast Go.Proofs.YtofdpgcnconibaaGreatDoorW.PrintMore
open Go.Proofs.YtofdpgcnconibaaGreatDoor.Plain
theorem lwalk_l0 (l : List ByteArray) (hl : l.length ≤ 1000) (N : Nat) (hN : ∀ x ∈ l, x.size ≤ N) (hN2 : N ≤ 1000000) : ∀ (m k i : Nat), l.length = i + 1 + m → m + N + 5 < k →
    coppiceref12_walk.l0 k true l ((i + 1 : Nat) : Int) = some (if (l.drop (i + 1)).all nameB = true then (l, 0) else ([], 120))
  | 0, k, i, hz, hk => by
    obtain ⟨k, rfl⟩ : ∃ q, k = q + 1 := ⟨k - 1, by omega⟩
    simp only [coppiceref12_walk.l0]
    rw [if_neg (by omega), List.drop_of_length_le (by omega)]
    rfl
  | m + 1, k, i, hz, hk => by
    obtain ⟨k, rfl⟩ : ∃ q, k = q + 1 := ⟨k - 1, by omega⟩
    have hi : i + 1 < l.length := by omega
    have hx : (rdOf ByteArray.empty l ((i + 1 : Nat) : Int)).size ≤ N := by rw [rd_get l (i + 1) hi]; exact hN _ (List.getElem_mem hi)
    simp only [coppiceref12_walk.l0]
    rw [if_pos (by omega), if_pos (by omega), rorph_f _ (by omega) k (by omega), Option.bind_some, rname_f _ (by omega) k (by omega), Option.bind_some, drop_rd l (i + 1) hi, List.all_cons]
    cases hn : nameB (rdOf ByteArray.empty l ((i + 1 : Nat) : Int)) with
    | true => rw [if_pos rfl, wrapn (by omega), lwalk_l0 l hl N hN hN2 m k (i + 1) (by omega) (by omega), Bool.true_and]
    | false => rw [if_neg (by decide), if_pos trivial, if_neg (by omega)]; rfl
theorem lwalk_0 (x : ByteArray) (r : List ByteArray) (hl : (x :: r).length ≤ 1000) (N : Nat) (hN : ∀ y ∈ x :: r, y.size ≤ N) (hN2 : N ≤ 1000000) (k : Nat) (hk : r.length + N + 10 < k) :
    coppiceref12_walk.l0 k true (x :: r) ((0 : Nat) : Int) = some (if looseB x = true ∧ r.all nameB = true then (x :: r, 0) else ([], 120)) := by
  obtain ⟨k, rfl⟩ : ∃ q, k = q + 1 := ⟨k - 1, by omega⟩
  have hx : x.size ≤ N := hN x (List.mem_cons_self ..)
  have hr : rdOf ByteArray.empty (x :: r) ((0 : Nat) : Int) = x := rfl
  have ih := lwalk_l0 (x :: r) hl N hN hN2 r.length k 0 (by simp only [List.length_cons]; omega) (by omega)
  have hd : (x :: r).drop (0 + 1) = r := rfl
  rw [hd] at ih
  simp only [coppiceref12_walk.l0]
  rw [if_pos (by simp only [List.length_cons]; omega), if_pos (by omega), hr, rorph_f _ (by omega) k (by omega), Option.bind_some, rname_f _ (by omega) k (by omega), Option.bind_some, orph_eq, wrapn (by omega), ih]
  have e0 : (((0 : Nat) : Int) = 0) = True := eq_true rfl
  unfold looseB
  cases nameB x <;> cases (orphanV x).2 <;> cases hb : r.all nameB <;> simp
theorem rloose_f (s : ByteArray) (hs : s.size ≤ 1000000) (k : Nat) (hk : 2 * s.size + 50 ≤ k) : coppiceref12_Loose.f k s = some (looseR s) := by
  obtain ⟨k, rfl⟩ : ∃ q, k = q + 3 := ⟨k - 3, by omega⟩
  unfold coppiceref12_Loose.f looseR
  have key : coppiceref12_walk.f (k + 3) s true = some (pathNames looseB 1037 s) := by
    unfold coppiceref12_walk.f
    unfold pathNames
    by_cases h0 : s = ofL [47]
    · rw [if_pos ((toList_iff _ _).2 h0), if_pos h0]
    · rw [if_neg (fun h => h0 ((toList_iff _ _).1 h)), if_neg h0, if_pos rfl]
      have bad : coppiceref12_walk.j1 (k + 2) s true true = some ([], 120) := by
        simp only [coppiceref12_walk.j1]; first | done | rfl | rw [if_pos rfl] | rw [if_pos trivial]
      simp only [coppiceref12_walk.j0]
      rcases hd : s.data.toList with _ | ⟨c, t⟩
      · have hz : s.size = 0 := by rw [← lenL, hd]; rfl
        rw [if_pos ((nil_iff s).2 hz), bad, if_neg (by rintro ⟨h, _⟩; cases h)]
      · have hz : s.size = t.length + 1 := by rw [← lenL, hd]; rfl
        rw [if_neg (fun h => by have := (nil_iff s).1 h; omega), if_pos (by omega)]
        have hc0 : s[0]'(by omega) = c := by
          have := dropL s 0 (by omega)
          rw [List.drop_zero, hd] at this
          injection this with h1 h2
          exact h1.symm
        have h1 : bt s 0 = 47 ↔ s[0]'(by omega) = 47 := bt_eq s 0 (by omega) 47 (by decide)
        rw [hc0] at h1
        by_cases c47 : c = 47
        · rw [if_pos (h1.2 c47)]
          by_cases hm : s.size ≤ 1037
          · rw [decide_eq_false (by omega), if_pos ⟨by rw [c47]; rfl, hm⟩]
            simp only [coppiceref12_walk.j1]
            have e2 : s.extract 1 s.size = ofL t := extract_tail s [c] t (by rw [hd]; rfl)
            have hzt : (ofL t).size = t.length := by show t.toArray.size = _; simp
            rw [if_neg (by decide), if_pos (by omega), e2, rcut_f (ofL t) (by omega) _ (by omega), Option.bind_some, List.tail_cons]
            obtain ⟨x, r, hx⟩ := cutS_ne (ofL t)
            have hsz := cutS_sizes (ofL t)
            rw [hx] at hsz ⊢
            by_cases h32 : (x :: r).length ≤ 32
            · rw [if_neg (by omega), show (0 : Int) = ((0 : Nat) : Int) from rfl, lwalk_0 x r (by omega) (ofL t).size hsz (by omega) _ (by simp only [List.length_cons] at h32; omega)]
              by_cases ha : looseB x = true ∧ r.all nameB = true
              · rw [if_pos ha, if_pos ⟨h32, by rw [List.head?_cons]; exact ha.1, ha.2⟩]; first | done | rfl
              · rw [if_neg ha, if_neg (fun h => ha ⟨h.2.1, h.2.2⟩)]; first | done | rfl
            · rw [if_pos (by omega), if_neg (fun h => h32 h.1)]
          · rw [decide_eq_true (by omega), bad, if_neg (fun h => hm h.2)]
        · rw [if_neg (fun h => c47 (h1.1 h)), bad, if_neg (by rintro ⟨h, _⟩; exact c47 (Option.some.inj h))]
  rw [key, Option.bind_some]
end Go.Proofs.YtofdpgcnconibaaGreatDoor.PathP
