import Derived.Test.YtgnffienfjigiaaDoorPAx19
import Derived.Test.YtgnffienfjigiaaDoorSpG
namespace Go.Proofs.YtgnffienfjigiaaDoor.Pure
open Go.RowKit Go.Proofs.YtgnffienfjigiaaDoor.PA Go.Proofs.YtgnffienfjigiaaDoorW.PrintWords Go.Proofs.YtgnffienfjigiaaDoorW.PrintLast
open Go.Proofs.YtgnffienfjigiaaDoor.Plain Go.Proofs.YtgnffienfjigiaaDoor.SpP
set_option linter.unusedVariables false
set_option linter.unusedSimpArgs false
theorem rdS_mem (l : List S42) (j : Nat) (hj : j < l.length) : rd_T42 l (j : Int) ∈ l := by
  unfold rd_T42
  rw [Int.toNat_natCast, List.getD_eq_getElem?_getD, List.getElem?_eq_getElem hj]
  exact List.getElem_mem hj
/-- The end of a step. -/
theorem plays_j3 (s : List S42) (l : List Pc) (size : Int) (hg : SpP.Good l size) (hl : l.length ≤ 1000) (j : Nat) (hj : j < 100) (k : Nat) (hk : 100000 < k) (nxt : coppicelaw13_SparsePlays.l0 k s l l size ((j + 1 : Nat) : Int) = some true) : coppicelaw13_SparsePlays.j3 (k + 1) s l l size (j : Int) = some true := by
  simp only [coppicelaw13_SparsePlays.j3]
  rw [same_f l (by omega) k (by omega), Option.bind_some, if_pos rfl, check_f l size (by omega) k (by omega), Option.bind_some, if_pos (goodB_of hg), if_pos rfl, w1 (by omega)]
  exact nxt
theorem plays_l0 (s : List S42) (hs : s.length ≤ 60) (hw : ∀ y ∈ s, wf42 y) (n : Nat) : ∀ (k j : Nat) (l : List Pc) (size : Int), n = s.length - j → 3 * n + 300000 < k → j ≤ s.length → SpP.Good l size → l.length ≤ 10 * j →
    coppicelaw13_SparsePlays.l0 k s l l size (j : Int) = some true := by
  induction n with
  | zero =>
    intro k j l size hn hk hj hg hl
    obtain ⟨k, rfl⟩ : ∃ q, k = q + 1 := ⟨k - 1, by omega⟩
    simp only [coppicelaw13_SparsePlays.l0]
    rw [if_neg (by omega)]
  | succ n ih =>
    intro k j l size hn hk hj hg hl
    obtain ⟨k, rfl⟩ : ∃ q, k = q + 3 := ⟨k - 3, by omega⟩
    obtain ⟨x, hx⟩ : ∃ x, rd_T42 s (j : Int) = x := ⟨_, rfl⟩
    have hwx := hw x (by rw [← hx]; exact rdS_mem s j (by omega))
    have o2 := (i64_wf hwx.2.1).2
    clear hwx
    have hgb := goodB_of hg
    have hlo := hg.lo
    have hhi := hg.hi
    have hsame : coppicelaw13_SparsePlays.j3 (k + 1) s l l size (j : Int) = some true := plays_j3 s l size hg (by omega) j (by omega) k (by omega) (ih k (j + 1) l size (by omega) (by omega) (by omega) hg (by omega))
    have hsame2 : coppicelaw13_SparsePlays.j3 (k + 2) s l l size (j : Int) = some true := plays_j3 s l size hg (by omega) j (by omega) (k + 1) (by omega) (ih (k + 1) (j + 1) l size (by omega) (by omega) (by omega) hg (by omega))
    simp only [coppicelaw13_SparsePlays.l0]
    rw [hx, if_pos (by omega), if_pos (by omega)]
    by_cases c0 : (x.f3.size : Int) > 300
    · rw [if_pos c0]
    rw [if_neg c0]
    by_cases k0 : x.f0 = 0
    · rw [if_pos k0, write_f l size x.f1 x.f3 (by omega) _ (by omega), Option.bind_some, rwrite_f l size x.f1 x.f3 (by omega) _ (by omega), Option.bind_some, if_pos hgb, if_pos rfl]
      by_cases c1 : x.f1 < 0 ∨ (x.f3.size : Int) > 4096
      · rw [if_pos c1]
        simp only [coppicelaw13_SparsePlays.j1]
        rw [if_neg (by simp), if_neg (by decide)]
        exact hsame
      rw [if_neg c1]
      by_cases c2 : x.f1 > 4611686018427387904 - (x.f3.size : Int)
      · rw [if_pos c2]
        simp only [coppicelaw13_SparsePlays.j1]
        rw [if_neg (by simp), if_neg (by decide)]
        exact hsame
      rw [if_neg c2]
      have hgw := good_write (data := x.f3) hg (off := x.f1) (by omega) (by omega)
      have hlen : (writeL l x.f1 x.f3).length ≤ l.length + 10 := by
        have h1 := len_writeFrom x.f1 x.f3 (countW x.f1 x.f3) (x.f1 / 64) l
        have h2 : countW x.f1 x.f3 ≤ 10 := by unfold countW; split <;> omega
        show (writeFrom _ _ _ _ _).length ≤ _
        omega
      obtain ⟨L, hL⟩ : ∃ L, writeL l x.f1 x.f3 = L := ⟨_, rfl⟩
      obtain ⟨Z, hZ⟩ : ∃ Z, (if x.f3.size = 0 then size else max size (x.f1 + (x.f3.size : Int))) = Z := ⟨_, rfl⟩
      rw [hL, hZ] at hgw
      rw [hL] at hlen
      rw [hL, hZ]
      simp only [coppicelaw13_SparsePlays.j1]
      rw [if_neg (by simp), if_pos trivial]
      exact plays_j3 s L Z hgw (by omega) j (by omega) k (by omega) (ih k (j + 1) L Z (by omega) (by omega) (by omega) hgw (by omega))
    rw [if_neg k0]
    by_cases k1 : x.f0 = 1
    · rw [if_pos k1, trunc_f l size x.f2 (by omega) _ (by omega), Option.bind_some, rtrunc_f l size x.f2 (by omega) _ (by omega), Option.bind_some, if_pos hgb, if_pos rfl]
      by_cases c1 : x.f2 < 0
      · rw [if_pos c1]
        simp only [coppicelaw13_SparsePlays.j2]
        rw [if_neg (by simp), if_neg (by decide)]
        exact hsame
      rw [if_neg c1]
      by_cases c2 : x.f2 > 4611686018427387904
      · rw [if_pos c2]
        simp only [coppicelaw13_SparsePlays.j2]
        rw [if_neg (by simp), if_neg (by decide)]
        exact hsame
      rw [if_neg c2]
      have hgt := trunc_good hg (n := x.f2) (by omega) (by omega)
      have hlen : (truncL l x.f2).length ≤ l.length := cut_len _ _ _ _
      simp only [coppicelaw13_SparsePlays.j2]
      rw [if_neg (by simp), if_pos trivial]
      exact plays_j3 s _ x.f2 hgt (by omega) j (by omega) k (by omega) (ih k (j + 1) _ x.f2 (by omega) (by omega) (by omega) hgt (by omega))
    rw [if_neg k1]
    by_cases k2 : x.f0 = 2
    · rw [if_pos k2, punch_f l size x.f1 x.f2 (by omega) _ (by omega), Option.bind_some, rpunch_f l size x.f1 x.f2 (by omega) o2 _ (by omega), Option.bind_some, if_pos hgb, if_pos rfl]
      by_cases c1 : x.f1 < 0 ∨ x.f2 < 0
      · rw [if_pos c1, if_neg (by decide)]
        exact hsame2
      rw [if_neg c1, if_pos rfl]
      have hgp := punch_good (off := x.f1) (n := x.f2) hg
      have hlen : (punchL l size x.f1 x.f2).length ≤ l.length := cut_len _ _ _ _
      exact plays_j3 s _ size hgp (by omega) j (by omega) (k + 1) (by omega) (ih (k + 1) (j + 1) _ size (by omega) (by omega) (by omega) hgp (by omega))
    rw [if_neg k2, read_f l size x.f1 x.f2 (by omega) o2 _ (by omega), Option.bind_some, rread_f l size x.f1 x.f2 (by omega) _ (by omega), Option.bind_some, if_pos rfl, if_pos rfl]
    exact hsame2
theorem SparsePlays : coppicelaw13_SparsePlays.Pure := by
  intro s hs
  refine ⟨400000, ?_⟩
  unfold coppicelaw13_SparsePlays.f
  rw [awake_f 400000 (by omega), Option.bind_some, if_pos rfl]
  by_cases c : (s.length : Int) > 60
  · rw [if_pos c]
  · rw [if_neg c]
    exact plays_l0 s (by omega) hs.2 s.length 400000 0 [] 0 (by omega) (by omega) (by omega) (good_nil (by omega) (by omega)) (by simp)
end Go.Proofs.YtgnffienfjigiaaDoor.Pure
