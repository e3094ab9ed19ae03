import Derived.Test.YtgnffienfjigiaaDoorPAx9
import Derived.Test.YtgnffienfjigiaaDoorSpF
import Derived.Test.YtgnffienfjigiaaDoorSpG
namespace Go.Proofs.YtgnffienfjigiaaDoor.Pure
open Go.RowKit Go.Proofs.YtgnffienfjigiaaDoor.PA Go.Proofs.YtgnffienfjigiaaDoorW.PrintWords Go.Proofs.YtgnffienfjigiaaDoorW.PrintLast
open Go.Proofs.YtgnffienfjigiaaDoor.Plain Go.Proofs.YtgnffienfjigiaaDoor.SpP
set_option linter.unusedVariables false
theorem writes_true (k : Nat) (l : List Pc) (size off : Int) (data : ByteArray) (a n : Int) : coppicelaw13_SparseWrites.j0 (k + 1) l size off data a n true = some true := by
  simp only [coppicelaw13_SparseWrites.j0, if_true]
/-- The loop over what was read. -/
theorem writes_l0 (l : List Pc) (size m off : Int) (data : ByteArray) (a : Int) (N M : Nat) (hg : SpP.Good l size) (h0 : 0 ≤ off) (ho : off ≤ 4611686018427387904) (hd : (data.size : Int) ≤ 4096) (ha0 : 0 ≤ a) (hM : M ≤ 4096) (ha : M ≠ 0 → a + (M : Int) ≤ 4611686018427387904) (hNM : N ≤ M) (hN : N < M → size ≤ a + (N : Int)) (n : Nat) : ∀ (k i : Nat), n = M - i → 2 * n < k → i ≤ M →
    coppicelaw13_SparseWrites.l0 k off data a (readL l a N) (readL (writeL l off data) a M) (i : Int) = some true := by
  induction n with
  | zero =>
    intro k i hn hk hi
    obtain ⟨k, rfl⟩ : ∃ q, k = q + 1 := ⟨k - 1, by omega⟩
    simp only [coppicelaw13_SparseWrites.l0]
    rw [if_neg (by rw [show (readL (writeL l off data) a M).size = M from mkB_size _ _]; omega)]
  | succ n ih =>
    intro k i hn hk hi
    obtain ⟨k, rfl⟩ : ∃ q, k = q + 2 := ⟨k - 2, by omega⟩
    have hM2 := ha (by omega)
    have sM : (readL (writeL l off data) a M).size = M := mkB_size _ _
    have sN : (readL l a N).size = N := mkB_size _ _
    have bM : bt (readL (writeL l off data) a M) (i : Int) = fill l off data (a + (i : Int)) := by rw [bt_readL _ _ _ i (by omega), at_write]
    have nxt := ih k (i + 1) (by omega) (by omega) (by omega)
    have ew : wrap64 (a + (i : Int)) = a + (i : Int) := w64 (by omega) (by omega)
    simp only [coppicelaw13_SparseWrites.l0]
    rw [sM, if_pos (by omega), ew]
    by_cases c1 : a + (i : Int) ≥ off
    · rw [if_pos c1]
      simp only [coppicelaw13_SparseWrites.j3]
      rw [sM, sN, bM, w1 (by omega), w64 (x := a + (i : Int) - off) (by omega) (by omega), nxt]
      by_cases c2 : a + (i : Int) - off < (data.size : Int)
      · rw [if_pos (decide_eq_true c2), if_pos (by omega), if_pos (by omega), if_pos (by omega), if_pos c2]
        have ef : fill l off data (a + (i : Int)) = bt data (a + (i : Int) - off) := by unfold fill; rw [if_pos (by omega)]
        rw [ef, if_pos rfl]
      · rw [if_neg (by rw [decide_eq_false c2]; decide)]
        have ef : fill l off data (a + (i : Int)) = atL l (a + (i : Int)) := by unfold fill; rw [if_neg (by omega)]
        rw [ef]
        by_cases c3 : (i : Int) < (N : Int)
        · rw [if_pos c3, if_pos (by omega), if_pos (by omega), bt_readL _ _ _ i (by omega), if_pos rfl, if_neg (by omega)]
        · rw [if_neg c3, if_pos (by omega), if_pos (by omega), if_pos (by omega), good_at hg (by omega), if_pos rfl]
    · rw [if_neg c1]
      simp only [coppicelaw13_SparseWrites.j3]
      rw [sM, sN, bM, w1 (by omega), nxt, if_neg (by decide)]
      have ef : fill l off data (a + (i : Int)) = atL l (a + (i : Int)) := by unfold fill; rw [if_neg (by omega)]
      rw [ef]
      by_cases c3 : (i : Int) < (N : Int)
      · rw [if_pos c3, if_pos (by omega), if_pos (by omega), bt_readL _ _ _ i (by omega), if_pos rfl, if_neg (by omega)]
      · rw [if_neg c3, if_pos (by omega), if_pos (by omega), if_pos (by omega), good_at hg (by omega), if_pos rfl]
theorem writes_false (l : List Pc) (size off : Int) (data : ByteArray) (a n : Int) (hl : l.length ≤ 200) (hd : (data.size : Int) ≤ 4096) (ho : off ≤ 9223372036854775807) (ha0 : 0 ≤ a) (ha : a ≤ 9223372036854775807) (hn0 : 0 ≤ n) (hn : n ≤ 4096) : coppicelaw13_SparseWrites.j0 20000 l size off data a n false = some true := by
  simp only [coppicelaw13_SparseWrites.j0]
  rw [if_neg (by decide), own_f (by omega), Option.bind_some, write_f l size off data (by omega) _ (by omega), Option.bind_some]
  by_cases g : goodB l size = true
  · have hg := (goodB_iff _ _).1 g
    rw [if_pos g]
    by_cases c1 : off < 0 ∨ (data.size : Int) > 4096
    · rw [if_pos c1, if_neg (by decide)]
      rfl
    · rw [if_neg c1]
      by_cases c2 : off > 4611686018427387904 - (data.size : Int)
      · rw [if_pos c2, if_neg (by decide)]
        rfl
      · rw [if_neg c2, if_pos rfl]
        have hw := good_write (data := data) hg (off := off) (by omega) (by omega)
        have hwl : (writeL l off data).length ≤ 300 := by
          have := len_writeFrom off data (countW off data) (off / 64) l
          have h2 : countW off data ≤ 66 := by unfold countW; split <;> omega
          show (writeFrom _ _ _ _ _).length ≤ _
          omega
        obtain ⟨m, hm⟩ : ∃ m, m = (if data.size = 0 then size else max size (off + (data.size : Int))) := ⟨_, rfl⟩
        rw [← hm] at hw ⊢
        have hm1 : size ≤ m := by rw [hm]; split <;> omega
        have hm2 : m ≤ 4611686018427387904 := hw.hi
        have hm3 : data.size ≠ 0 → off + (data.size : Int) ≤ m := fun h => by rw [hm, if_neg h]; omega
        show (sparse_Read.f _ (writeL l off data) m off _).bind _ = _
        rw [read_f (writeL l off data) m off _ (by omega) ho _ (by omega), if_pos (goodB_of hw), if_neg (by omega), Option.bind_some, Option.bind_some,
          read_f l size a n (by omega) ha _ (by omega), if_pos g, if_neg (by omega), Option.bind_some,
          read_f (writeL l off data) m a n (by omega) ha _ (by omega), if_pos (goodB_of hw), if_neg (by omega), Option.bind_some, if_pos rfl, if_pos rfl, if_pos rfl]
        have eb : readL (writeL l off data) off (max (min (data.size : Int) (m - off)) 0).toNat = data := by
          refine (eq_mkB data _ _ ?_ (fun k hk => ?_)).symm
          · by_cases z : data.size = 0
            · omega
            · have := hm3 z; omega
          · rw [at_write]
            unfold fill
            rw [if_pos (by omega)]
            congr 1
            omega
        have hsz : ∀ (L : List Pc) (q : Int) (N : Nat), (readL L q N).size = N := fun L q N => mkB_size _ _
        rw [eb, if_pos rfl, hsz, hsz, decide_eq_false (by omega)]
        simp only [coppicelaw13_SparseWrites.j1]
        rw [if_neg (by decide)]
        exact writes_l0 l size m off data a _ _ hg (by omega) (by omega) hd ha0 (by omega) (fun h => by omega) (by omega) (fun h => by omega) _ _ 0 rfl (by omega) (by omega)
  · rw [if_neg g, if_neg (by decide)]
    rfl
theorem SparseWrites : coppicelaw13_SparseWrites.Pure := by
  intro l size off data a n _ _ ho _ ha hn
  have ho := i64_wf ho
  have ha := i64_wf ha
  refine ⟨20000, ?_⟩
  unfold coppicelaw13_SparseWrites.f
  obtain ⟨b, hb, hb2⟩ := great_f l 20000 (by omega)
  rw [awake_f 20000 (by omega), Option.bind_some, if_pos rfl, hb, Option.bind_some]
  cases b with
  | true => rw [if_pos rfl]; exact writes_true 19999 _ _ _ _ _ _
  | false =>
    rw [if_neg (by decide)]
    by_cases c1 : (data.size : Int) > 4096
    · rw [if_pos c1]; exact writes_true 19999 _ _ _ _ _ _
    rw [if_neg c1]
    by_cases c2 : a < 0
    · rw [if_pos c2]; exact writes_true 19999 _ _ _ _ _ _
    rw [if_neg c2]
    by_cases c3 : n < 0
    · rw [if_pos c3]; exact writes_true 19999 _ _ _ _ _ _
    rw [if_neg c3]
    by_cases c4 : n > 4096
    · rw [decide_eq_true c4]; exact writes_true 19999 _ _ _ _ _ _
    rw [decide_eq_false c4]
    exact writes_false l size off data a n (hb2 rfl) (by omega) ho.2 (by omega) ha.2 (by omega) (by omega)
end Go.Proofs.YtgnffienfjigiaaDoor.Pure
