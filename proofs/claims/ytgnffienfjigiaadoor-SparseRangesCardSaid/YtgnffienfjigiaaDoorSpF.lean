import Derived.Test.YtgnffienfjigiaaDoorPAx4
import Derived.Test.YtgnffienfjigiaaDoorPAx8
import Derived.Test.YtgnffienfjigiaaDoorSpE
/-! The program's Read. -/
set_option linter.unusedVariables false
set_option linter.unusedSimpArgs false
namespace Go.Proofs.YtgnffienfjigiaaDoor.SpP
open Go.RowKit Go.Proofs.YtgnffienfjigiaaDoor.PA Go.Proofs.YtgnffienfjigiaaDoorW.PrintWords Go.Proofs.YtgnffienfjigiaaDoorW.PrintMore
open Go.Proofs.YtgnffienfjigiaaDoor.Plain
theorem at_app {a b : List Pc} {q : Int} (h : ∀ x ∈ b, x.f0 ≠ q / 64) : atL (a ++ b) q = atL a q := by
  induction a with
  | nil => exact at_none h
  | cons p a ih => rw [List.cons_append, at_cons, at_cons, ih]
theorem at_snoc {a : List Pc} {p : Pc} {q : Int} (h : ∀ x ∈ a, x.f0 ≠ p.f0) : atL (a ++ [p]) q = if p.f0 = q / 64 then bt p.f1 (q % 64) else atL a q := by
  induction a with
  | nil => rfl
  | cons y a ih =>
    rw [List.cons_append, at_cons, at_cons, ih (fun x hx => h x (List.mem_cons_of_mem _ hx))]
    have := h y (List.mem_cons_self ..)
    by_cases c : y.f0 = q / 64
    · rw [if_pos c, if_pos c, if_neg (by omega)]
    · rw [if_neg c, if_neg c]
theorem rlay_bt (b : ByteArray) (o : Nat) (d : ByteArray) (k : Nat) (ho : o ≤ b.size) (hk : k < b.size) : bt (sparse_Read.lay b o d) (k : Int) = if o ≤ k ∧ k < o + d.size then bt d ((k - o : Nat) : Int) else bt b (k : Int) := by
  obtain ⟨t, ht⟩ : ∃ t, t = d.data.toList.take (Nat.min d.size (b.size - o)) := ⟨_, rfl⟩
  have htl : t.length = Nat.min d.size (b.size - o) := by
    rw [ht, List.length_take, Array.length_toList]
    exact Nat.min_eq_left (Nat.min_le_left _ _)
  have hmin : Nat.min d.size (b.size - o) = if d.size ≤ b.size - o then d.size else b.size - o := rfl
  have hbl : b.data.toList.length = b.size := by rw [Array.length_toList]; rfl
  have htk : (b.data.toList.take o).length = o := by rw [List.length_take]; omega
  have e : bt (sparse_Read.lay b o d) (k : Int) = ((((b.data.toList.take o ++ (t ++ b.data.toList.drop (o + t.length)))[k]?).getD 0).toNat : Int) := by
    rw [bt_getD, ht]
    rfl
  rw [e]
  clear e
  rcases Nat.lt_or_ge k o with c1 | c1
  · rw [List.getElem?_append_left (by omega), List.getElem?_take_of_lt c1, ← bt_getD, if_neg (by omega)]
  · rw [List.getElem?_append_right (by omega), htk]
    rcases Nat.lt_or_ge (k - o) t.length with c2 | c2
    · rw [List.getElem?_append_left c2]
      rw [htl] at c2
      rw [ht, List.getElem?_take_of_lt c2, ← bt_getD]
      rw [hmin] at c2
      rw [if_pos (by split at c2 <;> omega)]
    · rw [List.getElem?_append_right c2, List.getElem?_drop, show o + t.length + (k - o - t.length) = k by omega, ← bt_getD, if_neg]
      rw [htl, hmin] at c2
      split at c2 <;> omega
theorem take_snoc (l : List Pc) (i : Nat) (hi : i < l.length) : l.take (i + 1) = l.take i ++ [rd_T39 l (i : Int)] := by
  rw [List.take_add_one, List.getElem?_eq_getElem hi]
  unfold rd_T39
  rw [Int.toNat_natCast, List.getD_eq_getElem?_getD, List.getElem?_eq_getElem hi]
  rfl
theorem mem_take_rd {l : List Pc} {i : Nat} {x : Pc} (h : x ∈ l.take i) : ∃ j : Nat, j < i ∧ j < l.length ∧ x = rd_T39 l (j : Int) := by
  obtain ⟨j, hj, rfl⟩ := List.mem_iff_getElem.1 h
  have h2 : j < i ∧ j < l.length := by
    rw [List.length_take] at hj
    omega
  refine ⟨j, h2.1, h2.2, ?_⟩
  unfold rd_T39
  rw [Int.toNat_natCast, List.getD_eq_getElem?_getD, List.getElem?_eq_getElem h2.2, List.getElem_take]
  rfl
theorem mem_drop_rd {l : List Pc} {i : Nat} {x : Pc} (h : x ∈ l.drop i) : ∃ j : Nat, i ≤ j ∧ j < l.length ∧ x = rd_T39 l (j : Int) := by
  obtain ⟨j, hj, rfl⟩ := List.mem_iff_getElem.1 h
  rw [List.length_drop] at hj
  refine ⟨i + j, by omega, by omega, ?_⟩
  unfold rd_T39
  rw [Int.toNat_natCast, List.getD_eq_getElem?_getD, List.getElem?_eq_getElem (by omega), List.getElem_drop]
  rfl
theorem read_l0 (l : List Pc) (off : Int) (N : Nat) (hN : N ≤ 4096) (hr : Rise l) (hl : l.length ≤ 1000000000) (hp : ∀ p ∈ l, p.f1.size = 64 ∧ 0 ≤ p.f0 ∧ p.f0 ≤ 72057594037927936) (h0 : 0 ≤ off) (n : Nat) : ∀ (m i : Nat) (out : ByteArray), n = l.length - i → n < m → i ≤ l.length →
    (∀ j : Nat, i ≤ j → j < l.length → off / 64 ≤ (rd_T39 l (j : Int)).f0) → out = mkB N (fun k => atL (l.take i) (off + (k : Int))) → sparse_Read.l0 l off m (i : Int) out = some (readL l off N) := by
  induction n with
  | zero =>
    intro m i out hn hm hi hge ho
    obtain ⟨m, rfl⟩ : ∃ q, m = q + 1 := ⟨m - 1, by omega⟩
    unfold sparse_Read.l0
    rw [if_neg (by omega), ho, List.take_of_length_le (by omega)]
    rfl
  | succ n ih =>
    intro m i out hn hm hi hge ho
    obtain ⟨m, rfl⟩ : ∃ q, m = q + 1 := ⟨m - 1, by omega⟩
    have hos : out.size = N := by rw [ho, mkB_size]
    unfold sparse_Read.l0
    rw [hos]
    by_cases hz : N = 0
    · rw [if_neg (by omega)]
      subst hz
      rw [ho]
      rfl
    · have hilt : i < l.length := by omega
      obtain ⟨p, hpe⟩ : ∃ p, rd_T39 l (i : Int) = p := ⟨_, rfl⟩
      have hpm := rd_mem l i hilt
      have hg := hge i (Nat.le_refl _) hilt
      have hlow : ∀ x ∈ l.take i, x.f0 < p.f0 := fun x hx => by
        obtain ⟨j, a1, a2, rfl⟩ := mem_take_rd hx
        rw [← hpe]
        exact rise_rd hr a1 hilt
      have hstep : ∀ q : Int, atL (l.take (i + 1)) q = if p.f0 = q / 64 then bt p.f1 (q % 64) else atL (l.take i) q := fun q => by
        rw [take_snoc l i hilt, hpe]
        exact at_snoc (fun x hx => by have := hlow x hx; omega)
      rw [hpe] at hpm hg ⊢
      have hq := hp p hpm
      rw [if_pos (by omega), if_pos (by omega)]
      have hbo : ∀ k : Nat, k < N → bt out (k : Int) = atL (l.take i) (off + (k : Int)) := fun k hk => by
        rw [ho, bt_mkB N _ (fun _ _ => at_range _ _) k hk]
      by_cases c1 : p.f0 * 64 - off ≥ (N : Int)
      · rw [if_pos c1, ho]
        congr 1
        refine mkB_congr (fun k hk => ?_)
        have hsp := (List.take_append_drop i l).symm
        have := at_app (a := l.take i) (b := l.drop i) (q := off + (k : Int)) (fun x hx => by
          obtain ⟨j, a1, a2, rfl⟩ := mem_drop_rd hx
          have := rise_rd_le hr a1 a2
          rw [hpe] at this
          omega)
        rw [← hsp] at this
        exact this.symm
      · rw [if_neg c1]
        by_cases c2 : p.f0 * 64 - off < 0
        · rw [if_pos c2, if_pos (by omega)]
          refine ih m (i + 1) _ (by omega) (by omega) (by omega) (fun j a1 a2 => hge j (by omega) a2) ?_
          refine eq_mkB _ N _ ((sparse_Read.lay_size _ _ _ (by omega)).trans hos) (fun k hk => ?_)
          have hes : (p.f1.extract (off - p.f0 * 64).toNat p.f1.size).size = 64 - (off - p.f0 * 64).toNat := by rw [ByteArray.size_extract, hq.1]; omega
          rw [rlay_bt _ _ _ k (by omega) (by omega), hstep, hes]
          by_cases c3 : p.f0 = (off + (k : Int)) / 64
          · rw [if_pos c3, if_pos (by omega), bt_extract _ _ _ _ (by rw [hes]; omega)]
            congr 1
            omega
          · rw [if_neg c3, if_neg (by omega), hbo k hk]
        · rw [if_neg c2]
          refine ih m (i + 1) _ (by omega) (by omega) (by omega) (fun j a1 a2 => hge j (by omega) a2) ?_
          refine eq_mkB _ N _ ((sparse_Read.lay_size _ _ _ (by omega)).trans hos) (fun k hk => ?_)
          rw [rlay_bt _ _ _ k (by omega) (by omega), hstep, hq.1]
          by_cases c3 : p.f0 = (off + (k : Int)) / 64
          · rw [if_pos c3, if_pos (by omega)]
            congr 1
            omega
          · rw [if_neg c3, if_neg (by omega), hbo k hk]
/-- What Read answers. -/
theorem read_f (l : List Pc) (size off n : Int) (hl : l.length ≤ 1000000) (ho : off ≤ 9223372036854775807) (k : Nat) (hk : 2 * l.length + 2 < k) :
    sparse_Read.f k l size off n = some (if goodB l size = true then (if off < 0 ∨ n < 0 ∨ n > 4096 then (⟨#[]⟩, 1) else (readL l off (max (min n (size - off)) 0).toNat, 0)) else (⟨#[]⟩, 21)) := by
  unfold sparse_Read.f
  rw [check_f l size (by omega) k (by omega), Option.bind_some]
  by_cases g : goodB l size = true
  · have hg := (goodB_iff _ _).1 g
    rw [if_pos g, if_pos g, if_neg (by decide)]
    by_cases c1 : off < 0 ∨ n < 0 ∨ n > 4096
    · rw [if_pos c1, if_pos c1]
    · have hpp : ∀ p ∈ l, p.f1.size = 64 ∧ 0 ≤ p.f0 ∧ p.f0 ≤ 72057594037927936 := fun p hp => ⟨hg.sz p hp, (hg.idx p hp).1, by have := (hg.idx p hp).2; have := hg.hi; omega⟩
      rw [if_neg c1, if_neg c1, if_pos ⟨hg.lo, hg.hi, ho⟩, tdiv0 (by omega), find_f l (off / 64) hg.rise (by omega) (by omega) (by omega) (fun p hp => ⟨(hpp p hp).2.1, by have := (hpp p hp).2.2; omega⟩) k (by omega), Option.bind_some]
      have hlb := lb_le l (off / 64)
      rw [read_l0 l off (max (min n (size - off)) 0).toNat (by omega) hg.rise (by omega) hpp (by omega) (l.length - lb l (off / 64)) k (lb l (off / 64)) _ rfl (by omega) hlb (fun j a1 a2 => lb_ge hg.rise _ j a1 a2) ?_, Option.bind_some]
      refine eq_mkB _ _ _ (by show (List.replicate _ (0 : UInt8)).toArray.size = _; rw [List.size_toArray, List.length_replicate]) (fun i hi => ?_)
      rw [bt_getD]
      show ((((List.replicate _ (0 : UInt8)).toArray.toList[i]?).getD 0).toNat : Int) = _
      rw [List.toList_toArray, List.getElem?_replicate, if_pos hi, at_none]
      · rfl
      · intro x hx
        obtain ⟨j, a1, a2, rfl⟩ := mem_take_rd hx
        have := lb_lt l (off / 64) j a1
        omega
  · rw [if_neg g, if_neg g, if_pos (by decide)]
end Go.Proofs.YtgnffienfjigiaaDoor.SpP
