import Derived.Test.YtgnffienfjigiaaDoorPAx10
import Derived.Test.YtgnffienfjigiaaDoorPAx9
import Derived.Test.YtgnffienfjigiaaDoorSpE
/-! The program's Truncate and Punch. -/
set_option linter.unusedVariables false
set_option linter.unusedSimpArgs false
namespace Go.Proofs.YtgnffienfjigiaaDoor.SpP
open Go.RowKit Go.Proofs.YtgnffienfjigiaaDoor.PA Go.Proofs.YtgnffienfjigiaaDoorW.PrintWords Go.Proofs.YtgnffienfjigiaaDoorW.PrintMore
open Go.Proofs.YtgnffienfjigiaaDoor.Plain
theorem zer_bt (p : Pc) (lo hi k : Nat) (hp : p.f1.size = 64) (h : lo ≤ hi) (h2 : hi ≤ 64) (hk : k < 64) : bt (sparse_Truncate.zer p lo hi) (k : Int) = if lo ≤ k ∧ k < hi then 0 else bt p.f1 (k : Int) := by
  have hbl : p.f1.data.toList.length = 64 := by rw [Array.length_toList]; exact hp
  have htk : (p.f1.data.toList.take lo).length = lo := by rw [List.length_take]; omega
  have e : bt (sparse_Truncate.zer p lo hi) (k : Int) = ((((p.f1.data.toList.take lo ++ (List.replicate (hi - lo) (0 : UInt8) ++ p.f1.data.toList.drop (lo + (List.replicate (hi - lo) (0 : UInt8)).length)))[k]?).getD 0).toNat : Int) := by
    rw [bt_getD]
    rfl
  rw [e, List.length_replicate]
  clear e
  rcases Nat.lt_or_ge k lo with c1 | c1
  · rw [List.getElem?_append_left (by omega), List.getElem?_take_of_lt c1, ← bt_getD, if_neg (by omega)]
  · rw [List.getElem?_append_right (by omega), htk]
    rcases Nat.lt_or_ge (k - lo) (hi - lo) with c2 | c2
    · rw [List.getElem?_append_left (by rw [List.length_replicate]; exact c2), List.getElem?_replicate, if_pos c2, if_pos (by omega)]
      rfl
    · rw [List.getElem?_append_right (by rw [List.length_replicate]; exact c2), List.getElem?_drop, List.length_replicate, show lo + (hi - lo) + (k - lo - (hi - lo)) = k by omega, ← bt_getD, if_neg (by omega)]
theorem clr_eq (a b : Int) (p : Pc) (hp : p.f1.size = 64) : sparse_Truncate.clr a b p = clr a b p := by
  refine pc_ext rfl ?_
  show (if sparse_Truncate.lo a p < sparse_Truncate.hi b p then sparse_Truncate.zer p (sparse_Truncate.lo a p).toNat (sparse_Truncate.hi b p).toNat else p.f1) = mkB 64 _
  have h0 : sparse_Truncate.lo a p = max (a - p.f0 * 64) 0 := rfl
  have h1 : sparse_Truncate.hi b p = min (b - p.f0 * 64) 64 := rfl
  by_cases c : sparse_Truncate.lo a p < sparse_Truncate.hi b p
  · rw [if_pos c]
    refine eq_mkB _ 64 _ (sparse_Truncate.zer_size p _ _ hp (by omega) (by omega)) (fun k hk => ?_)
    rw [zer_bt p _ _ k hp (by omega) (by omega) hk]
    by_cases c2 : a ≤ p.f0 * 64 + (k : Int) ∧ p.f0 * 64 + (k : Int) < b
    · rw [if_pos c2, if_pos (by omega)]
    · rw [if_neg c2, if_neg (by omega)]
  · rw [if_neg c]
    refine eq_mkB _ 64 _ hp (fun k hk => ?_)
    rw [if_neg (by omega)]
theorem cut_eq (l : List Pc) (a b : Int) (gone : Int → Bool) (hp : ∀ p ∈ l, p.f1.size = 64) : sparse_Truncate.cut l a b gone = cutL l a b gone := by
  unfold sparse_Truncate.cut cutL
  apply List.map_congr_left
  intro p h
  exact clr_eq a b p (hp p (List.mem_filter.1 h).1)
theorem ok_good {l : List Pc} {size : Int} (h : Good l size) (hl : l.length ≤ 1000000) : sparse_Truncate.okB l = true := by
  unfold sparse_Truncate.okB
  rw [Bool.and_eq_true, List.all_eq_true, decide_eq_true_iff]
  refine ⟨by omega, fun p hp => decide_eq_true ⟨(h.idx p hp).1, ?_, h.sz p hp⟩⟩
  have := (h.idx p hp).2
  have := h.hi
  omega
theorem trunc_f (l : List Pc) (size n : Int) (hl : l.length ≤ 1000000) (k : Nat) (hk : 2 * l.length + 1 < k) : sparse_Truncate.f k l size n = some (if goodB l size = true then (if n < 0 then ([], 0, 1) else if n > 4611686018427387904 then ([], 0, 130) else (truncL l n, n, 0)) else ([], 0, 21)) := by
  unfold sparse_Truncate.f
  rw [check_f l size (by omega) k (by omega), Option.bind_some]
  by_cases g : goodB l size = true
  · have hg := (goodB_iff _ _).1 g
    rw [if_pos g, if_pos g, if_neg (by decide)]
    by_cases c1 : n < 0
    · rw [if_pos c1, if_pos c1]
    · rw [if_neg c1, if_neg c1]
      by_cases c2 : n > 4611686018427387904
      · rw [if_pos c2, if_pos c2]
      · rw [if_neg c2, if_neg c2, if_pos (ok_good hg hl), cut_eq _ _ _ _ hg.sz]
        rfl
  · rw [if_neg g, if_neg g, if_pos (by decide)]
theorem punch_f (l : List Pc) (size off n : Int) (hl : l.length ≤ 1000000) (k : Nat) (hk : 2 * l.length + 1 < k) : sparse_Punch.f k l size off n = some (if goodB l size = true then (if off < 0 ∨ n < 0 then ([], 1) else (punchL l size off n, 0)) else ([], 21)) := by
  unfold sparse_Punch.f
  rw [check_f l size (by omega) k (by omega), Option.bind_some]
  by_cases g : goodB l size = true
  · have hg := (goodB_iff _ _).1 g
    rw [if_pos g, if_pos g, if_neg (by decide)]
    by_cases c1 : off < 0 ∨ n < 0
    · rw [if_pos c1, if_pos c1]
    · rw [if_neg c1, if_neg c1, if_pos ⟨ok_good hg hl, hg.lo, hg.hi⟩, cut_eq _ _ _ _ hg.sz]
      rfl
  · rw [if_neg g, if_neg g, if_pos (by decide)]
theorem cut_len (l : List Pc) (a b : Int) (gone : Int → Bool) : (cutL l a b gone).length ≤ l.length := by
  unfold cutL
  rw [List.length_map]
  exact List.length_filter_le _ _
end Go.Proofs.YtgnffienfjigiaaDoor.SpP
