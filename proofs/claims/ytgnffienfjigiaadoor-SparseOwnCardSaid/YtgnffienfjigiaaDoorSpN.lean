import Derived.Test.YtgnffienfjigiaaDoorPAx3
import Derived.Test.YtgnffienfjigiaaDoorSpM
/-! Pieces: bytes read, bytes cut away, where pieces are; plain, no program in sight. -/
set_option linter.unusedVariables false
set_option linter.unusedSimpArgs false
namespace Go.Proofs.YtgnffienfjigiaaDoor.SpP
open Go.RowKit Go.Proofs.YtgnffienfjigiaaDoor.PA Go.Proofs.YtgnffienfjigiaaDoorW.PrintWords Go.Proofs.YtgnffienfjigiaaDoorW.PrintMore
open Go.Proofs.YtgnffienfjigiaaDoor.Plain
def readL (l : List Pc) (off : Int) (n : Nat) : ByteArray := mkB n fun k => atL l (off + (k : Int))
theorem bt_readL (l : List Pc) (off : Int) (n k : Nat) (hk : k < n) : bt (readL l off n) (k : Int) = atL l (off + (k : Int)) := bt_mkB n _ (fun _ _ => at_range _ _) k hk
/-! Bytes made zeros, pieces gone. -/
def clr (a b : Int) (p : Pc) : Pc := ⟨p.f0, mkB 64 fun k => if a ≤ p.f0 * 64 + (k : Int) ∧ p.f0 * 64 + (k : Int) < b then 0 else bt p.f1 (k : Int)⟩
def cutL (l : List Pc) (a b : Int) (gone : Int → Bool) : List Pc := (l.filter fun p => !gone p.f0).map (clr a b)
theorem bt_clr (a b : Int) (p : Pc) (k : Int) (h0 : 0 ≤ k) (h1 : k < 64) : bt (clr a b p).f1 k = if a ≤ p.f0 * 64 + k ∧ p.f0 * 64 + k < b then 0 else bt p.f1 k := by
  obtain ⟨j, rfl⟩ : ∃ j : Nat, k = (j : Int) := ⟨k.toNat, by omega⟩
  refine bt_mkB 64 _ (fun i hi => ?_) j (by omega)
  split
  · omega
  · exact bt_lt _ _
theorem cut_cons (p : Pc) (l : List Pc) (a b : Int) (gone : Int → Bool) : cutL (p :: l) a b gone = if gone p.f0 = true then cutL l a b gone else clr a b p :: cutL l a b gone := by
  unfold cutL
  rw [List.filter_cons]
  cases gone p.f0
  · rfl
  · rfl
theorem mem_cut {l : List Pc} {a b : Int} {gone : Int → Bool} {x : Pc} (h : x ∈ cutL l a b gone) : ∃ p ∈ l, gone p.f0 = false ∧ x = clr a b p := by
  unfold cutL at h
  rw [List.mem_map] at h
  obtain ⟨p, hp, rfl⟩ := h
  rw [List.mem_filter] at hp
  refine ⟨p, hp.1, ?_, rfl⟩
  have := hp.2
  simpa using this
theorem rise_cut {l : List Pc} {a b : Int} {gone : Int → Bool} (h : Rise l) : Rise (cutL l a b gone) := by
  unfold cutL Rise
  rw [List.pairwise_map]
  exact List.Pairwise.filter _ h
theorem at_cut {l : List Pc} {a b : Int} {gone : Int → Bool} (h : Rise l) (hg : ∀ p ∈ l, gone p.f0 = true → ∀ k : Int, 0 ≤ k → k < 64 → (a ≤ p.f0 * 64 + k ∧ p.f0 * 64 + k < b) ∨ bt p.f1 k = 0) (q : Int) :
    atL (cutL l a b gone) q = if a ≤ q ∧ q < b then 0 else atL l q := by
  induction l with
  | nil => exact (ite_self (0 : Int)).symm
  | cons p l ih =>
    obtain ⟨h1, h2⟩ := List.pairwise_cons.1 h
    have ih := ih h2 (fun x hx => hg x (List.mem_cons_of_mem _ hx))
    rw [cut_cons]
    by_cases hp : p.f0 = q / 64
    · have ez : atL (p :: l) q = bt p.f1 (q % 64) := by unfold atL; rw [if_pos hp]
      have en : atL l q = 0 := at_none (fun x hx => by have := h1 x hx; omega)
      rw [ez]
      by_cases hgo : gone p.f0 = true
      · rw [if_pos hgo, ih, en, ite_self]
        rcases hg p (List.mem_cons_self ..) hgo (q % 64) (by omega) (by omega) with h3 | h3
        · rw [if_pos (by omega)]
        · rw [h3, ite_self]
      · rw [if_neg hgo]
        rw [at_cons, show (clr a b p).f0 = p.f0 from rfl, if_pos hp, bt_clr a b p _ (by omega) (by omega), show p.f0 * 64 + q % 64 = q by omega]
    · have ez : atL (p :: l) q = atL l q := by show (if p.f0 = q / 64 then _ else _) = _; rw [if_neg hp]
      rw [ez]
      by_cases hgo : gone p.f0 = true
      · rw [if_pos hgo, ih]
      · rw [if_neg hgo]
        rw [at_cons, show (clr a b p).f0 = p.f0 from rfl, if_neg hp, ih]
/-- Pieces cut are right for a size above which all bytes were zeros, or are made zeros. -/
theorem good_cut {l : List Pc} {size size' a b : Int} {gone : Int → Bool} (h : Good l size) (h0 : 0 ≤ size') (h1 : size' ≤ 4611686018427387904) (hi : ∀ p ∈ l, gone p.f0 = false → p.f0 * 64 < size')
    (hz : ∀ p ∈ l, ∀ k : Int, 0 ≤ k → k < 64 → size' ≤ p.f0 * 64 + k → size ≤ p.f0 * 64 + k ∨ (a ≤ p.f0 * 64 + k ∧ p.f0 * 64 + k < b)) : Good (cutL l a b gone) size' := by
  refine ⟨h0, h1, rise_cut h.rise, fun x hx => ?_, fun x hx => ?_, fun x hx k hk0 hk1 hk => ?_⟩
  · obtain ⟨p, hp, hg, rfl⟩ := mem_cut hx
    exact ⟨(h.idx p hp).1, hi p hp hg⟩
  · obtain ⟨p, hp, hg, rfl⟩ := mem_cut hx
    exact mkB_size _ _
  · obtain ⟨p, hp, hg, rfl⟩ := mem_cut hx
    rw [bt_clr a b p k hk0 hk1]
    split
    · rfl
    · rename_i hn
      rcases hz p hp k hk0 hk1 hk with h2 | h2
      · exact h.zero p hp k hk0 hk1 h2
      · exact absurd h2 hn
/-! Truncate, Punch. -/
def truncL (l : List Pc) (n : Int) : List Pc := cutL l n 4611686018427387904 (fun i => decide (i * 64 ≥ n))
theorem trunc_good {l : List Pc} {size n : Int} (h : Good l size) (h0 : 0 ≤ n) (h1 : n ≤ 4611686018427387904) : Good (truncL l n) n := by
  refine good_cut h h0 h1 (fun p _ hg => ?_) (fun p hp k hk0 hk1 hk => .inr ⟨hk, ?_⟩)
  · have := of_decide_eq_false hg
    omega
  · have := h.idx p hp
    have := h.hi
    omega
theorem at_trunc {l : List Pc} {size n : Int} (h : Good l size) (q : Int) (hq : q < 4611686018427387904) : atL (truncL l n) q = if n ≤ q then 0 else atL l q := by
  unfold truncL
  rw [at_cut h.rise (fun p hp hg k hk0 hk1 => .inl ?_)]
  · by_cases hn : n ≤ q
    · rw [if_pos ⟨hn, hq⟩, if_pos hn]
    · rw [if_neg (fun h => hn h.1), if_neg hn]
  · have := of_decide_eq_true hg
    have := h.idx p hp
    have := h.hi
    omega
def loP (size off : Int) : Int := min off size
def hiP (size off n : Int) : Int := min off size + min n (size - min off size)
def goneP (size off n i : Int) : Bool := decide (i * 64 ≥ loP size off) && (decide (min size ((i + 1) * 64) ≤ hiP size off n) && decide (loP size off < hiP size off n))
def punchL (l : List Pc) (size off n : Int) : List Pc := cutL l (loP size off) (hiP size off n) (goneP size off n)
theorem goneP_iff (size off n i : Int) : goneP size off n i = true ↔ loP size off ≤ i * 64 ∧ min size ((i + 1) * 64) ≤ hiP size off n ∧ loP size off < hiP size off n := by
  unfold goneP
  rw [Bool.and_eq_true, Bool.and_eq_true, decide_eq_true_iff, decide_eq_true_iff, decide_eq_true_iff]
theorem punch_good {l : List Pc} {size off n : Int} (h : Good l size) : Good (punchL l size off n) size :=
  good_cut h h.lo h.hi (fun p hp _ => (h.idx p hp).2) (fun p hp k hk0 hk1 hk => .inl hk)
theorem at_punch {l : List Pc} {size off n : Int} (h : Good l size) (h0 : 0 ≤ off) (h1 : 0 ≤ n) (q : Int) (hq : q < size) : atL (punchL l size off n) q = if off ≤ q ∧ q - off < n then 0 else atL l q := by
  unfold punchL
  rw [at_cut h.rise (fun p hp hg k hk0 hk1 => ?_)]
  · have e : (loP size off ≤ q ∧ q < hiP size off n) ↔ (off ≤ q ∧ q - off < n) := by unfold loP hiP; omega
    by_cases hc : off ≤ q ∧ q - off < n
    · rw [if_pos hc, if_pos (e.2 hc)]
    · rw [if_neg hc, if_neg (fun h => hc (e.1 h))]
  · obtain ⟨g1, g2, g3⟩ := (goneP_iff _ _ _ _).1 hg
    by_cases hs : size ≤ p.f0 * 64 + k
    · exact .inr (h.zero p hp k hk0 hk1 hs)
    · exact .inl (by omega)
end Go.Proofs.YtgnffienfjigiaaDoor.SpP
