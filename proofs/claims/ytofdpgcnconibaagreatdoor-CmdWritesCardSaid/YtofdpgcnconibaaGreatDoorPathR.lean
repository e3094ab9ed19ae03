import Derived.Test.YtofdpgcnconibaaGreatDoorPAx16
import Derived.Test.YtofdpgcnconibaaGreatDoorPAx5
import Derived.Test.YtofdpgcnconibaaGreatDoorPAx6
import Derived.Test.YtofdpgcnconibaaGreatDoorPathS
/-! Paths: the document's names, what it cuts, its Split. -/
set_option linter.unusedVariables false
set_option linter.unusedSimpArgs false
namespace Go.Proofs.YtofdpgcnconibaaGreatDoor.PathP
open Go.RowKit Go.Proofs.YtofdpgcnconibaaGreatDoor.PA Go.Proofs.YtofdpgcnconibaaGreatDoorW.PrintWords Go.Proofs.YtofdpgcnconibaaGreatDoorW.PrintLast Go.Proofs.YtofdpgcnconibaaGreatDoorW.PrintMore
open Go.Proofs.YtofdpgcnconibaaGreatDoor.Plain
theorem rname_l0 (s : ByteArray) (hs : s.size ≤ 1000000) : ∀ (m k i : Nat), s.size = i + m → m < k → coppiceref12_Name.l0 k s (i : Int) = some (freeL (s.data.toList.drop i))
  | 0, k, i, hz, hk => by
    obtain ⟨k, rfl⟩ : ∃ q, k = q + 1 := ⟨k - 1, by omega⟩
    simp only [coppiceref12_Name.l0]
    rw [if_neg (by omega), List.drop_of_length_le (by rw [lenL]; omega)]
    rfl
  | m + 1, k, i, hz, hk => by
    obtain ⟨k, rfl⟩ : ∃ q, k = q + 1 := ⟨k - 1, by omega⟩
    have hi : i < s.size := by omega
    simp only [coppiceref12_Name.l0]
    rw [if_pos (by omega), if_pos (by omega), dropL s i hi]
    have h1 : bt s (i : Int) = 47 ↔ s[i]'hi = 47 := bt_eq s i hi 47 (by decide)
    have h2 : bt s (i : Int) = 0 ↔ s[i]'hi = 0 := bt_eq s i hi 0 (by decide)
    have ih := rname_l0 s hs m k (i + 1) (by omega) (by omega)
    generalize s[i]'hi = c at *
    by_cases c47 : c = 47
    · rw [if_pos (h1.2 c47), c47]; rfl
    · rw [if_neg (fun h => c47 (h1.1 h))]
      by_cases c0 : c = 0
      · rw [if_pos (h2.2 c0), c0]; rfl
      · rw [if_neg (fun h => c0 (h2.1 h)), wrapn (by omega), ih]
        unfold freeL
        rw [List.all_cons]
        have e1 : (c != 47) = true := by simp [c47]
        have e2 : (c != 0) = true := by simp [c0]
        rw [e1, e2]; rfl
theorem rname_f (s : ByteArray) (hs : s.size ≤ 1000000) (k : Nat) (hk : s.size + 3 ≤ k) : coppiceref12_Name.f k s = some (nameB s) := by
  obtain ⟨k, rfl⟩ : ∃ q, k = q + 1 := ⟨k - 1, by omega⟩
  unfold coppiceref12_Name.f nameB nameOk
  by_cases h0 : s.toList = ([] : List UInt8)
  · rw [if_pos h0, h0]; simp [coppiceref12_Name.j0]
  · rw [if_neg h0]
    have e0 : s.toList.isEmpty = false := by simp [h0]
    by_cases h1 : (s.size : Int) > 255
    · rw [if_pos h1, decide_eq_false (by omega)]; simp [coppiceref12_Name.j0]
    · rw [if_neg h1, decide_eq_true (by omega)]
      by_cases h2 : s.toList = ([46] : List UInt8)
      · rw [if_pos h2, h2]; simp [coppiceref12_Name.j0]
      · have e2 : (s.toList == ([46] : List UInt8)) = false := by simp [h2]
        rw [if_neg h2, e0, e2]
        simp only [coppiceref12_Name.j0]
        cases h3 : s.toList == ([46, 46] : List UInt8) with
        | true => simp
        | false =>
          have := rname_l0 s hs s.size k 0 (by omega) (by omega)
          rw [List.drop_zero] at this
          rw [if_neg (by decide), show (0 : Int) = ((0 : Nat) : Int) from rfl, this]
          simp
theorem rcut_l0 (s : ByteArray) (hs : s.size ≤ 1000000) : ∀ (m k i : Nat) (acc : List ByteArray) (one : ByteArray), s.size = i + m → m < k → acc.length ≤ i → one.size ≤ i →
    coppiceref12_cut.l0 k s acc one (i : Int) = some (acc ++ cutFrom one (s.data.toList.drop i))
  | 0, k, i, acc, one, hz, hk, ha, ho => by
    obtain ⟨k, rfl⟩ : ∃ q, k = q + 1 := ⟨k - 1, by omega⟩
    simp only [coppiceref12_cut.l0]
    rw [if_neg (by omega), if_pos (by omega), List.drop_of_length_le (by rw [lenL]; omega)]
    rfl
  | m + 1, k, i, acc, one, hz, hk, ha, ho => by
    obtain ⟨k, rfl⟩ : ∃ q, k = q + 1 := ⟨k - 1, by omega⟩
    have hi : i < s.size := by omega
    simp only [coppiceref12_cut.l0]
    rw [if_pos (by omega), if_pos (by omega), wrapn (by omega), dropL s i hi]
    have h1 : bt s (i : Int) = 47 ↔ s[i]'hi = 47 := bt_eq s i hi 47 (by decide)
    by_cases c47 : s[i]'hi = 47
    · rw [if_pos (h1.2 c47), if_pos (by omega), rcut_l0 s hs m k (i + 1) _ _ (by omega) (by omega) (by rw [List.length_append]; simp only [List.length_cons, List.length_nil]; omega) (Nat.zero_le _)]
      simp only [cutFrom]
      rw [if_pos c47, List.append_assoc]; rfl
    · rw [if_neg (fun h => c47 (h1.1 h)), if_pos (by omega), if_pos (by omega), Int.toNat_natCast, Int.toNat_natCast, extract_one s i hi]
      have hz1 : (⟨#[s[i]'hi]⟩ : ByteArray).size = 1 := rfl
      rw [hz1, if_pos (by omega), rcut_l0 s hs m k (i + 1) _ _ (by omega) (by omega) (by omega) (by rw [ByteArray.size_append, hz1]; omega)]
      simp only [cutFrom]
      rw [if_neg c47]
theorem rcut_f (s : ByteArray) (hs : s.size ≤ 1000000) (k : Nat) (hk : s.size < k) : coppiceref12_cut.f k s = some (cutS s) := by
  have := rcut_l0 s hs s.size k 0 [] ⟨#[]⟩ (by omega) hk (Nat.le_refl _) (Nat.le_refl _)
  rw [List.drop_zero, List.nil_append] at this
  exact this
theorem rorph_l0 (s : ByteArray) (hs : s.size ≤ 1000000) : ∀ (m k i : Nat) (x : Int), s.size = i + m → m < k → ∃ r, coppiceref12_OrphanOf.l0 k s x (i : Int) = some r
  | 0, k, i, x, hz, hk => by
    obtain ⟨k, rfl⟩ : ∃ q, k = q + 1 := ⟨k - 1, by omega⟩
    simp only [coppiceref12_OrphanOf.l0]
    rw [if_neg (by omega)]
    repeat' split
    all_goals exact ⟨_, rfl⟩
  | m + 1, k, i, x, hz, hk => by
    obtain ⟨k, rfl⟩ : ∃ q, k = q + 1 := ⟨k - 1, by omega⟩
    simp only [coppiceref12_OrphanOf.l0]
    rw [if_pos (by omega), if_pos (by omega), wrapn (by omega)]
    by_cases h1 : bt s (i : Int) < 48
    · rw [if_pos h1]; exact ⟨_, rfl⟩
    · rw [if_neg h1]
      by_cases h2 : bt s (i : Int) > 57
      · rw [if_pos h2]; exact ⟨_, rfl⟩
      · rw [if_neg h2]; exact rorph_l0 s hs m k (i + 1) _ (by omega) (by omega)
theorem rorph_some (s : ByteArray) (hs : s.size ≤ 1000000) (k : Nat) (hk : s.size + 3 ≤ k) : ∃ r, coppiceref12_OrphanOf.f k s = some r := by
  obtain ⟨k, rfl⟩ : ∃ q, k = q + 1 := ⟨k - 1, by omega⟩
  have key : ∀ b : Bool, 2 ≤ s.size → ∃ r, coppiceref12_OrphanOf.j0 (k + 1) s b = some r := by
    intro b hb
    simp only [coppiceref12_OrphanOf.j0]
    cases b with
    | true => exact ⟨_, rfl⟩
    | false => exact rorph_l0 s hs (s.size - 1) k 1 0 (by omega) (by omega)
  unfold coppiceref12_OrphanOf.f
  by_cases h0 : (s.size : Int) < 2
  · rw [if_pos h0]; simp only [coppiceref12_OrphanOf.j0]; exact ⟨_, rfl⟩
  · rw [if_neg h0]
    by_cases h1 : (s.size : Int) > 14
    · rw [if_pos h1]; exact key _ (by omega)
    · rw [if_neg h1, if_pos (by omega)]
      by_cases h2 : bt s 0 = 0
      · rw [if_pos h2, if_pos (by omega)]; exact key _ (by omega)
      · rw [if_neg h2]; exact key _ (by omega)
theorem rwalk_l0 (l : List ByteArray) (hl : l.length ≤ 1000) (N : Nat) (hN : ∀ x ∈ l, x.size ≤ N) (hN2 : N ≤ 1000000) : ∀ (m k i : Nat), l.length = i + m → m + N + 5 < k →
    coppiceref12_walk.l0 k false l (i : Int) = some (if (l.drop i).all nameB = true then (l, 0) else ([], 120))
  | 0, k, i, hz, hk => by
    obtain ⟨k, rfl⟩ : ∃ q, k = q + 1 := ⟨k - 1, by omega⟩
    simp only [coppiceref12_walk.l0]
    rw [if_neg (by omega), List.drop_of_length_le (by omega)]
    rfl
  | m + 1, k, i, hz, hk => by
    obtain ⟨k, rfl⟩ : ∃ q, k = q + 1 := ⟨k - 1, by omega⟩
    have hi : i < l.length := by omega
    have hx : (rdOf ByteArray.empty l (i : Int)).size ≤ N := by rw [rd_get l i hi]; exact hN _ (List.getElem_mem hi)
    simp only [coppiceref12_walk.l0]
    obtain ⟨r, hr⟩ := rorph_some (rdOf ByteArray.empty l (i : Int)) (by omega) k (by omega)
    rw [if_pos (by omega), if_pos (by omega), hr, Option.bind_some, rname_f _ (by omega) k (by omega), Option.bind_some, drop_rd l i hi, List.all_cons]
    cases hn : nameB (rdOf ByteArray.empty l (i : Int)) with
    | true => rw [if_pos rfl, wrapn (by omega), rwalk_l0 l hl N hN hN2 m k (i + 1) (by omega) (by omega), Bool.true_and]
    | false => rw [if_neg (by decide), if_neg (by decide)]; rfl
end Go.Proofs.YtofdpgcnconibaaGreatDoor.PathP
