-- WRITTEN BY a program of this session (mergeset.py): several texts as one
import Derived.Test.YtgnffienfjigiaaDoorPAx3
import Derived.Test.YtgnffienfjigiaaDoorBytes
import Derived.Test.YtgnffienfjigiaaDoorPAx12
import Derived.Test.YtgnffienfjigiaaDoorPAx5
import Derived.Test.YtgnffienfjigiaaDoorPAx6
import Derived.Test.YtgnffienfjigiaaDoorPAx8
import Derived.Test.YtgnffienfjigiaaDoorPAx10
import Derived.Test.YtgnffienfjigiaaDoorPAx9
import Derived.Test.YtgnffienfjigiaaDoorPAx13
import Derived.Test.YtgnffienfjigiaaDoorPAx14
import Derived.Test.YtgnffienfjigiaaDoorPAx15
import Derived.Test.YtgnffienfjigiaaDoorPAx18
import Derived.Test.YtgnffienfjigiaaDoorPAx11
import Derived.Test.YtgnffienfjigiaaDoorPAx16
import Derived.Test.YtgnffienfjigiaaDoorPAx17
import Derived.Test.YtgnffienfjigiaaDoorPAx7
/-! Pieces of a file's bytes: the byte at a place, a piece put in, bytes laid over; plain, no program in sight. -/
set_option linter.unusedVariables false
set_option linter.unusedSimpArgs false
namespace Go.Proofs.YtgnffienfjigiaaDoor.SpP
open Go.RowKit Go.Proofs.YtgnffienfjigiaaDoor.PA Go.Proofs.YtgnffienfjigiaaDoorW.PrintWords Go.Proofs.YtgnffienfjigiaaDoorW.PrintMore
open Go.Proofs.YtgnffienfjigiaaDoor.Plain
abbrev Pc := S39
theorem pc_ext {p q : Pc} (h0 : p.f0 = q.f0) (h1 : p.f1 = q.f1) : p = q := by cases p; cases q; cases h0; cases h1; rfl
/-- The byte at a place. -/
def atL : List Pc → Int → Int
  | [], _ => 0
  | p :: l, q => if p.f0 = q / 64 then bt p.f1 (q % 64) else atL l q
theorem at_cons (p : Pc) (l : List Pc) (q : Int) : atL (p :: l) q = if p.f0 = q / 64 then bt p.f1 (q % 64) else atL l q := rfl
/-- A piece put in, or laid in another one's place. -/
def putL (p : Pc) : List Pc → List Pc
  | [] => [p]
  | q :: l => if q.f0 < p.f0 then q :: putL p l else if q.f0 = p.f0 then p :: l else p :: q :: l
def Rise (l : List Pc) : Prop := l.Pairwise (fun a b => a.f0 < b.f0)
/-- A text of n bytes, told one by one. -/
def mkB (n : Nat) (g : Nat → Int) : ByteArray := strOfNums ((List.range n).map g)
theorem mkB_size (n : Nat) (g : Nat → Int) : (mkB n g).size = n := by
  unfold mkB
  rw [strOfNums_size, List.length_map, List.length_range]
theorem bt_mkB (n : Nat) (g : Nat → Int) (hg : ∀ k, k < n → 0 ≤ g k ∧ g k < 256) (k : Nat) (hk : k < n) : bt (mkB n g) (k : Int) = g k := by
  unfold mkB
  rw [bt_strOfNums _ _ k (by rw [List.length_map, List.length_range]; exact hk)]
  · rw [List.getElem_map, List.getElem_range]
  · intro x hx
    rw [List.mem_map] at hx
    obtain ⟨j, hj, rfl⟩ := hx
    exact hg j (List.mem_range.1 hj)
theorem eq_mkB (s : ByteArray) (n : Nat) (g : Nat → Int) (hs : s.size = n) (hg : ∀ k, k < n → bt s (k : Int) = g k) : s = mkB n g := by
  apply ba_ext
  · rw [mkB_size, hs]
  · intro i hi
    rw [bt_mkB n g (fun k hk => by rw [← hg k hk]; exact bt_lt _ _) i (by omega)]
    exact hg i (by omega)
theorem mkB_congr {n : Nat} {g h : Nat → Int} (e : ∀ k, k < n → g k = h k) : mkB n g = mkB n h := by
  unfold mkB
  congr 1
  apply List.map_congr_left
  intro k hk
  exact e k (List.mem_range.1 hk)
theorem at_range (l : List Pc) (q : Int) : 0 ≤ atL l q ∧ atL l q < 256 := by
  induction l with
  | nil => exact ⟨Int.le_refl _, by show (0 : Int) < 256; omega⟩
  | cons p l ih =>
    unfold atL
    split
    · exact bt_lt _ _
    · exact ih
theorem at_put (p : Pc) (l : List Pc) (q : Int) : atL (putL p l) q = if p.f0 = q / 64 then bt p.f1 (q % 64) else atL l q := by
  induction l with
  | nil => rfl
  | cons x l ih =>
    unfold putL
    by_cases h1 : x.f0 < p.f0
    · rw [if_pos h1]
      unfold atL
      rw [ih]
      by_cases h2 : x.f0 = q / 64
      · rw [if_pos h2, if_neg (by omega), if_pos h2]
      · rw [if_neg h2, if_neg h2]
    · rw [if_neg h1]
      by_cases h2 : x.f0 = p.f0
      · rw [if_pos h2]
        unfold atL
        by_cases h3 : p.f0 = q / 64
        · rw [if_pos h3, if_pos h3]
        · rw [if_neg h3, if_neg h3, if_neg (by omega)]
      · rw [if_neg h2, atL]
theorem mem_put {p x : Pc} {l : List Pc} (h : x ∈ putL p l) : x = p ∨ x ∈ l := by
  induction l with
  | nil => exact .inl (List.mem_singleton.1 h)
  | cons y l ih =>
    unfold putL at h
    split at h
    · rcases List.mem_cons.1 h with rfl | h
      · exact .inr (List.mem_cons_self ..)
      · rcases ih h with h | h
        · exact .inl h
        · exact .inr (List.mem_cons_of_mem _ h)
    · split at h
      · rcases List.mem_cons.1 h with rfl | h
        · exact .inl rfl
        · exact .inr (List.mem_cons_of_mem _ h)
      · rcases List.mem_cons.1 h with rfl | h
        · exact .inl rfl
        · exact .inr h
theorem rise_put {p : Pc} {l : List Pc} (h : Rise l) : Rise (putL p l) := by
  induction l with
  | nil => exact List.pairwise_singleton _ _
  | cons x l ih =>
    obtain ⟨h1, h2⟩ := List.pairwise_cons.1 h
    unfold putL
    split
    · rename_i hx
      refine List.pairwise_cons.2 ⟨fun y hy => ?_, ih h2⟩
      rcases mem_put hy with rfl | hy
      · exact hx
      · exact h1 y hy
    · split
      · rename_i hx he
        refine List.pairwise_cons.2 ⟨fun y hy => ?_, h2⟩
        have := h1 y hy
        omega
      · rename_i hx he
        refine List.pairwise_cons.2 ⟨fun y hy => ?_, h⟩
        rcases List.mem_cons.1 hy with rfl | hy
        · omega
        · have := h1 y hy
          omega
theorem put_len (p : Pc) (l : List Pc) : (putL p l).length ≤ l.length + 1 := by
  induction l with
  | nil => exact Nat.le_refl _
  | cons x l ih =>
    unfold putL
    split
    · simp only [List.length_cons]; omega
    · split <;> simp only [List.length_cons] <;> omega
/-- A piece of a rising list tells its bytes. -/
theorem at_mem {l : List Pc} (h : Rise l) {p : Pc} (hp : p ∈ l) {q : Int} (hq : q / 64 = p.f0) : atL l q = bt p.f1 (q % 64) := by
  induction l with
  | nil => cases hp
  | cons x l ih =>
    obtain ⟨h1, h2⟩ := List.pairwise_cons.1 h
    unfold atL
    rcases List.mem_cons.1 hp with rfl | hp
    · rw [if_pos hq.symm]
    · rw [if_neg (by have := h1 p hp; omega)]
      exact ih h2 hp
theorem at_none {l : List Pc} {q : Int} (h : ∀ p ∈ l, p.f0 ≠ q / 64) : atL l q = 0 := by
  induction l with
  | nil => rfl
  | cons x l ih =>
    unfold atL
    rw [if_neg (h x (List.mem_cons_self ..))]
    exact ih (fun p hp => h p (List.mem_cons_of_mem _ hp))
/-- Right bytes. -/
structure Good (l : List Pc) (size : Int) : Prop where
  lo : 0 ≤ size
  hi : size ≤ 4611686018427387904
  rise : Rise l
  idx : ∀ p ∈ l, 0 ≤ p.f0 ∧ p.f0 * 64 < size
  sz : ∀ p ∈ l, p.f1.size = 64
  zero : ∀ p ∈ l, ∀ k : Int, 0 ≤ k → k < 64 → size ≤ p.f0 * 64 + k → bt p.f1 k = 0
theorem good_nil {size : Int} (h0 : 0 ≤ size) (h1 : size ≤ 4611686018427387904) : Good [] size :=
  ⟨h0, h1, List.Pairwise.nil, (fun p hp => by cases hp), (fun p hp => by cases hp), (fun p hp => by cases hp)⟩
theorem good_at {l : List Pc} {size : Int} (h : Good l size) {q : Int} (hq : size ≤ q) : atL l q = 0 := by
  by_cases he : ∃ p ∈ l, p.f0 = q / 64
  · obtain ⟨p, hp, e⟩ := he
    rw [at_mem h.rise hp e.symm]
    exact h.zero p hp _ (by omega) (by omega) (by omega)
  · exact at_none (fun p hp e => he ⟨p, hp, e⟩)
/-! Bytes laid over. -/
def fill (l : List Pc) (off : Int) (data : ByteArray) (q : Int) : Int := if off ≤ q ∧ q < off + (data.size : Int) then bt data (q - off) else atL l q
theorem fill_range (l : List Pc) (off : Int) (data : ByteArray) (q : Int) : 0 ≤ fill l off data q ∧ fill l off data q < 256 := by
  unfold fill
  split
  · exact bt_lt _ _
  · exact at_range _ _
def pieceW (l : List Pc) (off : Int) (data : ByteArray) (i : Int) : Pc := ⟨i, mkB 64 fun k => fill l off data (i * 64 + (k : Int))⟩
def writeFrom (off : Int) (data : ByteArray) : Nat → Int → List Pc → List Pc
  | 0, _, l => l
  | n + 1, i, l => writeFrom off data n (i + 1) (putL (pieceW l off data i) l)
def countW (off : Int) (data : ByteArray) : Nat := if data.size = 0 then 0 else ((off + (data.size : Int) - 1) / 64 - off / 64 + 1).toNat
def writeL (l : List Pc) (off : Int) (data : ByteArray) : List Pc := writeFrom off data (countW off data) (off / 64) l
theorem bt_pieceW (l : List Pc) (off : Int) (data : ByteArray) (q : Int) : bt (pieceW l off data (q / 64)).f1 (q % 64) = fill l off data q := by
  obtain ⟨k, hk⟩ : ∃ k : Nat, q % 64 = (k : Int) := ⟨(q % 64).toNat, by omega⟩
  rw [hk]
  show bt (mkB 64 _) _ = _
  rw [bt_mkB 64 _ (fun j _ => fill_range _ _ _ _) k (by omega)]
  congr 1
  omega
theorem at_writeFrom (off : Int) (data : ByteArray) (q : Int) : ∀ (n : Nat) (i : Int) (l : List Pc), atL (writeFrom off data n i l) q = if i ≤ q / 64 ∧ q / 64 < i + (n : Int) then fill l off data q else atL l q
  | 0, i, l => by
    rw [if_neg (by omega)]
    rfl
  | n + 1, i, l => by
    show atL (writeFrom off data n (i + 1) _) q = _
    rw [at_writeFrom off data q n (i + 1), at_put]
    have h0 : (pieceW l off data i).f0 = i := rfl
    rw [h0]
    by_cases h : i = q / 64
    · subst h
      rw [if_neg (by omega), if_pos rfl, if_pos (by omega), bt_pieceW]
    · rw [if_neg h]
      have hf : fill (putL (pieceW l off data i) l) off data q = fill l off data q := by
        unfold fill
        rw [at_put, h0, if_neg h]
      rw [hf]
      by_cases h2 : i + 1 ≤ q / 64 ∧ q / 64 < i + 1 + (n : Int)
      · rw [if_pos h2, if_pos (by omega)]
      · rw [if_neg h2, if_neg (by omega)]
theorem at_write (l : List Pc) (off : Int) (data : ByteArray) (q : Int) : atL (writeL l off data) q = fill l off data q := by
  unfold writeL
  rw [at_writeFrom]
  by_cases h : off ≤ q ∧ q < off + (data.size : Int)
  · rw [if_pos]
    unfold countW
    rw [if_neg (by omega)]
    omega
  · have : fill l off data q = atL l q := by unfold fill; rw [if_neg h]
    rw [this, ite_self]
theorem rise_writeFrom (off : Int) (data : ByteArray) : ∀ (n : Nat) (i : Int) (l : List Pc), Rise l → Rise (writeFrom off data n i l)
  | 0, _, _, h => h
  | n + 1, i, l, h => rise_writeFrom off data n (i + 1) _ (rise_put h)
theorem len_writeFrom (off : Int) (data : ByteArray) : ∀ (n : Nat) (i : Int) (l : List Pc), (writeFrom off data n i l).length ≤ l.length + n
  | 0, _, _ => Nat.le_refl _
  | n + 1, i, l => by
    have h1 := len_writeFrom off data n (i + 1) (putL (pieceW l off data i) l)
    have h2 := put_len (pieceW l off data i) l
    show (writeFrom off data n (i + 1) _).length ≤ _
    omega
theorem mem_writeFrom (off : Int) (data : ByteArray) (x : Pc) : ∀ (n : Nat) (i : Int) (l : List Pc), x ∈ writeFrom off data n i l → x ∈ l ∨ (i ≤ x.f0 ∧ x.f0 < i + (n : Int) ∧ x.f1.size = 64)
  | 0, _, _, h => .inl h
  | n + 1, i, l, h => by
    rcases mem_writeFrom off data x n (i + 1) _ h with h | ⟨h1, h2, h3⟩
    · rcases mem_put h with rfl | h
      · exact .inr ⟨Int.le_refl _, by show i < _; omega, mkB_size _ _⟩
      · exact .inl h
    · exact .inr ⟨by omega, by omega, h3⟩
theorem good_write {l : List Pc} {size off : Int} {data : ByteArray} (h : Good l size) (h0 : 0 ≤ off) (h1 : off + (data.size : Int) ≤ 4611686018427387904) :
    Good (writeL l off data) (if data.size = 0 then size else max size (off + (data.size : Int))) := by
  by_cases hz : data.size = 0
  · rw [if_pos hz]
    unfold writeL countW
    rw [if_pos hz]
    exact h
  · rw [if_neg hz]
    have hr : Rise (writeL l off data) := rise_writeFrom _ _ _ _ _ h.rise
    have hm : ∀ p ∈ writeL l off data, p ∈ l ∨ (off / 64 ≤ p.f0 ∧ p.f0 ≤ (off + (data.size : Int) - 1) / 64 ∧ p.f1.size = 64) := by
      intro p hp
      rcases mem_writeFrom off data p _ _ _ hp with h | ⟨h1, h2, h3⟩
      · exact .inl h
      · refine .inr ⟨h1, ?_, h3⟩
        unfold countW at h2
        rw [if_neg hz] at h2
        omega
    have hlo := h.lo
    have hhi := h.hi
    refine ⟨by omega, by omega, hr, fun p hp => ?_, fun p hp => ?_, fun p hp k hk0 hk1 hk => ?_⟩
    · rcases hm p hp with h2 | ⟨h2, h3, h4⟩
      · have := h.idx p h2
        omega
      · omega
    · rcases hm p hp with h2 | ⟨h2, h3, h4⟩
      · exact h.sz p h2
      · exact h4
    · have e := at_mem hr hp (q := p.f0 * 64 + k) (by omega)
      rw [at_write] at e
      have e2 : (p.f0 * 64 + k) % 64 = k := by omega
      rw [e2] at e
      rw [← e]
      unfold fill
      rw [if_neg (by omega)]
      exact good_at h (by omega)
end Go.Proofs.YtgnffienfjigiaaDoor.SpP
/-! Pieces: bytes read, bytes cut away, where pieces are; plain, no program in sight. -/
set_option linter.unusedVariables false
set_option linter.unusedSimpArgs false
namespace Go.Proofs.YtgnffienfjigiaaDoor.SpP
open Go.RowKit Go.Proofs.YtgnffienfjigiaaDoor.PA Go.Proofs.YtgnffienfjigiaaDoorW.PrintWords Go.Proofs.YtgnffienfjigiaaDoorW.PrintMore
open Go.Proofs.YtgnffienfjigiaaDoor.Plain
def readL (l : List Pc) (off : Int) (n : Nat) : ByteArray := mkB n fun k => atL l (off + (k : Int))
theorem bt_readL (l : List Pc) (off : Int) (n k : Nat) (hk : k < n) : bt (readL l off n) (k : Int) = atL l (off + (k : Int)) := bt_mkB n _ (fun _ _ => at_range _ _) k hk
/-! Bytes made zeros, pieces gone. -/
def clr (a b : Int) (p : Pc) : Pc := ⟨p.f0, mkB 64 fun k => if a ≤ p.f0 * 64 + (k : Int) ∧ p.f0 * 64 + (k : Int) < b then 0 else bt p.f1 (k : Int)⟩
def cutL (l : List Pc) (a b : Int) (gone : Int → Bool) : List Pc := (l.filter fun p => !gone p.f0).map (clr a b)
theorem bt_clr (a b : Int) (p : Pc) (k : Int) (h0 : 0 ≤ k) (h1 : k < 64) : bt (clr a b p).f1 k = if a ≤ p.f0 * 64 + k ∧ p.f0 * 64 + k < b then 0 else bt p.f1 k := by
  obtain ⟨j, rfl⟩ : ∃ j : Nat, k = (j : Int) := ⟨k.toNat, by omega⟩
  refine bt_mkB 64 _ (fun i hi => ?_) j (by omega)
  split
  · omega
  · exact bt_lt _ _
theorem cut_cons (p : Pc) (l : List Pc) (a b : Int) (gone : Int → Bool) : cutL (p :: l) a b gone = if gone p.f0 = true then cutL l a b gone else clr a b p :: cutL l a b gone := by
  unfold cutL
  rw [List.filter_cons]
  cases gone p.f0
  · rfl
  · rfl
theorem mem_cut {l : List Pc} {a b : Int} {gone : Int → Bool} {x : Pc} (h : x ∈ cutL l a b gone) : ∃ p ∈ l, gone p.f0 = false ∧ x = clr a b p := by
  unfold cutL at h
  rw [List.mem_map] at h
  obtain ⟨p, hp, rfl⟩ := h
  rw [List.mem_filter] at hp
  refine ⟨p, hp.1, ?_, rfl⟩
  have := hp.2
  simpa using this
theorem rise_cut {l : List Pc} {a b : Int} {gone : Int → Bool} (h : Rise l) : Rise (cutL l a b gone) := by
  unfold cutL Rise
  rw [List.pairwise_map]
  exact List.Pairwise.filter _ h
theorem at_cut {l : List Pc} {a b : Int} {gone : Int → Bool} (h : Rise l) (hg : ∀ p ∈ l, gone p.f0 = true → ∀ k : Int, 0 ≤ k → k < 64 → (a ≤ p.f0 * 64 + k ∧ p.f0 * 64 + k < b) ∨ bt p.f1 k = 0) (q : Int) :
    atL (cutL l a b gone) q = if a ≤ q ∧ q < b then 0 else atL l q := by
  induction l with
  | nil => exact (ite_self (0 : Int)).symm
  | cons p l ih =>
    obtain ⟨h1, h2⟩ := List.pairwise_cons.1 h
    have ih := ih h2 (fun x hx => hg x (List.mem_cons_of_mem _ hx))
    rw [cut_cons]
    by_cases hp : p.f0 = q / 64
    · have ez : atL (p :: l) q = bt p.f1 (q % 64) := by unfold atL; rw [if_pos hp]
      have en : atL l q = 0 := at_none (fun x hx => by have := h1 x hx; omega)
      rw [ez]
      by_cases hgo : gone p.f0 = true
      · rw [if_pos hgo, ih, en, ite_self]
        rcases hg p (List.mem_cons_self ..) hgo (q % 64) (by omega) (by omega) with h3 | h3
        · rw [if_pos (by omega)]
        · rw [h3, ite_self]
      · rw [if_neg hgo]
        rw [at_cons, show (clr a b p).f0 = p.f0 from rfl, if_pos hp, bt_clr a b p _ (by omega) (by omega), show p.f0 * 64 + q % 64 = q by omega]
    · have ez : atL (p :: l) q = atL l q := by show (if p.f0 = q / 64 then _ else _) = _; rw [if_neg hp]
      rw [ez]
      by_cases hgo : gone p.f0 = true
      · rw [if_pos hgo, ih]
      · rw [if_neg hgo]
        rw [at_cons, show (clr a b p).f0 = p.f0 from rfl, if_neg hp, ih]
/-- Pieces cut are right for a size above which all bytes were zeros, or are made zeros. -/
theorem good_cut {l : List Pc} {size size' a b : Int} {gone : Int → Bool} (h : Good l size) (h0 : 0 ≤ size') (h1 : size' ≤ 4611686018427387904) (hi : ∀ p ∈ l, gone p.f0 = false → p.f0 * 64 < size')
    (hz : ∀ p ∈ l, ∀ k : Int, 0 ≤ k → k < 64 → size' ≤ p.f0 * 64 + k → size ≤ p.f0 * 64 + k ∨ (a ≤ p.f0 * 64 + k ∧ p.f0 * 64 + k < b)) : Good (cutL l a b gone) size' := by
  refine ⟨h0, h1, rise_cut h.rise, fun x hx => ?_, fun x hx => ?_, fun x hx k hk0 hk1 hk => ?_⟩
  · obtain ⟨p, hp, hg, rfl⟩ := mem_cut hx
    exact ⟨(h.idx p hp).1, hi p hp hg⟩
  · obtain ⟨p, hp, hg, rfl⟩ := mem_cut hx
    exact mkB_size _ _
  · obtain ⟨p, hp, hg, rfl⟩ := mem_cut hx
    rw [bt_clr a b p k hk0 hk1]
    split
    · rfl
    · rename_i hn
      rcases hz p hp k hk0 hk1 hk with h2 | h2
      · exact h.zero p hp k hk0 hk1 h2
      · exact absurd h2 hn
/-! Truncate, Punch. -/
def truncL (l : List Pc) (n : Int) : List Pc := cutL l n 4611686018427387904 (fun i => decide (i * 64 ≥ n))
theorem trunc_good {l : List Pc} {size n : Int} (h : Good l size) (h0 : 0 ≤ n) (h1 : n ≤ 4611686018427387904) : Good (truncL l n) n := by
  refine good_cut h h0 h1 (fun p _ hg => ?_) (fun p hp k hk0 hk1 hk => .inr ⟨hk, ?_⟩)
  · have := of_decide_eq_false hg
    omega
  · have := h.idx p hp
    have := h.hi
    omega
theorem at_trunc {l : List Pc} {size n : Int} (h : Good l size) (q : Int) (hq : q < 4611686018427387904) : atL (truncL l n) q = if n ≤ q then 0 else atL l q := by
  unfold truncL
  rw [at_cut h.rise (fun p hp hg k hk0 hk1 => .inl ?_)]
  · by_cases hn : n ≤ q
    · rw [if_pos ⟨hn, hq⟩, if_pos hn]
    · rw [if_neg (fun h => hn h.1), if_neg hn]
  · have := of_decide_eq_true hg
    have := h.idx p hp
    have := h.hi
    omega
def loP (size off : Int) : Int := min off size
def hiP (size off n : Int) : Int := min off size + min n (size - min off size)
def goneP (size off n i : Int) : Bool := decide (i * 64 ≥ loP size off) && (decide (min size ((i + 1) * 64) ≤ hiP size off n) && decide (loP size off < hiP size off n))
def punchL (l : List Pc) (size off n : Int) : List Pc := cutL l (loP size off) (hiP size off n) (goneP size off n)
theorem goneP_iff (size off n i : Int) : goneP size off n i = true ↔ loP size off ≤ i * 64 ∧ min size ((i + 1) * 64) ≤ hiP size off n ∧ loP size off < hiP size off n := by
  unfold goneP
  rw [Bool.and_eq_true, Bool.and_eq_true, decide_eq_true_iff, decide_eq_true_iff, decide_eq_true_iff]
theorem punch_good {l : List Pc} {size off n : Int} (h : Good l size) : Good (punchL l size off n) size :=
  good_cut h h.lo h.hi (fun p hp _ => (h.idx p hp).2) (fun p hp k hk0 hk1 hk => .inl hk)
theorem at_punch {l : List Pc} {size off n : Int} (h : Good l size) (h0 : 0 ≤ off) (h1 : 0 ≤ n) (q : Int) (hq : q < size) : atL (punchL l size off n) q = if off ≤ q ∧ q - off < n then 0 else atL l q := by
  unfold punchL
  rw [at_cut h.rise (fun p hp hg k hk0 hk1 => ?_)]
  · have e : (loP size off ≤ q ∧ q < hiP size off n) ↔ (off ≤ q ∧ q - off < n) := by unfold loP hiP; omega
    by_cases hc : off ≤ q ∧ q - off < n
    · rw [if_pos hc, if_pos (e.2 hc)]
    · rw [if_neg hc, if_neg (fun h => hc (e.1 h))]
  · obtain ⟨g1, g2, g3⟩ := (goneP_iff _ _ _ _).1 hg
    by_cases hs : size ≤ p.f0 * 64 + k
    · exact .inr (h.zero p hp k hk0 hk1 hs)
    · exact .inl (by omega)
end Go.Proofs.YtgnffienfjigiaaDoor.SpP
/-! Right bytes: what the program's Check and the document's one answer. -/
set_option linter.unusedVariables false
set_option linter.unusedSimpArgs false
namespace Go.Proofs.YtgnffienfjigiaaDoor.SpP
open Go.RowKit Go.Proofs.YtgnffienfjigiaaDoor.PA Go.Proofs.YtgnffienfjigiaaDoorW.PrintWords Go.Proofs.YtgnffienfjigiaaDoorW.PrintMore
open Go.Proofs.YtgnffienfjigiaaDoor.Plain
theorem dropP (l : List Pc) (j : Nat) (hj : j < l.length) : l.drop j = rd_T39 l (j : Int) :: l.drop (j + 1) := by
  rw [List.drop_eq_getElem_cons hj]
  unfold rd_T39
  rw [Int.toNat_natCast, List.getD_eq_getElem?_getD, List.getElem?_eq_getElem hj]; rfl
theorem rd_mem (l : List Pc) (j : Nat) (hj : j < l.length) : rd_T39 l (j : Int) ∈ l := by
  unfold rd_T39
  rw [Int.toNat_natCast, List.getD_eq_getElem?_getD, List.getElem?_eq_getElem hj]
  exact List.getElem_mem hj
theorem w64 {x : Int} (h0 : -9223372036854775808 ≤ x) (h1 : x ≤ 9223372036854775807) : wrap64 x = x := by unfold wrap64; omega
theorem w1 {j : Nat} (h : j < 4611686018427387904) : wrap64 ((j : Int) + 1) = ((j + 1 : Nat) : Int) := by rw [w64 (by omega) (by omega)]; omega
theorem bt_getD (s : ByteArray) (k : Nat) : bt s (k : Int) = (((s.data.toList[k]?).getD 0).toNat : Int) := by
  rw [← rd_bytesOf]
  unfold rd bytesOf
  rw [Int.toNat_natCast, List.getD_eq_getElem?_getD, List.getElem?_map]
  cases s.data.toList[k]? with
  | none => rfl
  | some b => rfl
/-! One piece, and the pieces behind it. -/
def zeroB (size : Int) (p : Pc) : Bool := (List.range 64).all fun k => decide (p.f0 * 64 + (k : Int) < size) || (bt p.f1 (k : Int) == 0)
def okP (size last : Int) (p : Pc) : Bool := decide (last < p.f0) && (decide (p.f0 * 64 < size) && (decide (p.f1.size = 64) && zeroB size p))
def okL (size : Int) : Int → List Pc → Bool
  | _, [] => true
  | last, p :: l => okP size last p && okL size p.f0 l
def goodB (l : List Pc) (size : Int) : Bool := decide (0 ≤ size) && (decide (size ≤ 4611686018427387904) && okL size (-1) l)
theorem zeroB_iff (size : Int) (p : Pc) : zeroB size p = true ↔ ∀ k : Int, 0 ≤ k → k < 64 → size ≤ p.f0 * 64 + k → bt p.f1 k = 0 := by
  unfold zeroB
  rw [List.all_eq_true]
  constructor
  · intro h k h0 h1 h2
    have := h k.toNat (List.mem_range.2 (by omega))
    rw [Bool.or_eq_true, decide_eq_true_iff, beq_iff_eq, Int.toNat_of_nonneg h0] at this
    rcases this with h3 | h3
    · omega
    · exact h3
  · intro h k hk
    have hk := List.mem_range.1 hk
    rw [Bool.or_eq_true, decide_eq_true_iff, beq_iff_eq]
    by_cases h1 : p.f0 * 64 + (k : Int) < size
    · exact .inl h1
    · exact .inr (h k (by omega) (by omega) (by omega))
theorem okP_iff (size last : Int) (p : Pc) : okP size last p = true ↔ last < p.f0 ∧ p.f0 * 64 < size ∧ p.f1.size = 64 ∧ zeroB size p = true := by
  unfold okP
  rw [Bool.and_eq_true, Bool.and_eq_true, Bool.and_eq_true, decide_eq_true_iff, decide_eq_true_iff, decide_eq_true_iff]
theorem okL_iff (size : Int) : ∀ (l : List Pc) (last : Int), okL size last l = true ↔ Rise l ∧ ∀ p ∈ l, okP size last p = true
  | [], last => ⟨fun _ => ⟨List.Pairwise.nil, (fun p hp => by cases hp)⟩, fun _ => rfl⟩
  | p :: l, last => by
    show (okP size last p && okL size p.f0 l) = true ↔ _
    rw [Bool.and_eq_true, okL_iff size l p.f0]
    constructor
    · rintro ⟨h1, h2, h3⟩
      have h1' := (okP_iff _ _ _).1 h1
      refine ⟨List.pairwise_cons.2 ⟨fun x hx => ((okP_iff _ _ _).1 (h3 x hx)).1, h2⟩, fun x hx => ?_⟩
      rcases List.mem_cons.1 hx with rfl | hx
      · exact h1
      · have h4 := (okP_iff _ _ _).1 (h3 x hx)
        exact (okP_iff _ _ _).2 ⟨by omega, h4.2⟩
    · rintro ⟨h1, h2⟩
      obtain ⟨h3, h4⟩ := List.pairwise_cons.1 h1
      refine ⟨h2 p (List.mem_cons_self ..), h4, fun x hx => ?_⟩
      have h5 := (okP_iff _ _ _).1 (h2 x (List.mem_cons_of_mem _ hx))
      exact (okP_iff _ _ _).2 ⟨h3 x hx, h5.2⟩
theorem goodB_iff (l : List Pc) (size : Int) : goodB l size = true ↔ Good l size := by
  unfold goodB
  rw [Bool.and_eq_true, Bool.and_eq_true, decide_eq_true_iff, decide_eq_true_iff, okL_iff]
  constructor
  · rintro ⟨h0, h1, h2, h3⟩
    have h4 := fun p hp => (okP_iff _ _ _).1 (h3 p hp)
    exact ⟨h0, h1, h2, fun p hp => ⟨by have := (h4 p hp).1; omega, (h4 p hp).2.1⟩, fun p hp => (h4 p hp).2.2.1, fun p hp => (zeroB_iff _ _).1 (h4 p hp).2.2.2⟩
  · intro h
    exact ⟨h.lo, h.hi, h.rise, fun p hp => (okP_iff _ _ _).2 ⟨by have := (h.idx p hp).1; omega, (h.idx p hp).2, h.sz p hp, (zeroB_iff _ _).2 (h.zero p hp)⟩⟩
theorem goodB_of {l : List Pc} {size : Int} (h : Good l size) : goodB l size = true := (goodB_iff _ _).2 h
/-! Trim of zero bytes leaves nothing just where all are zeros. -/
theorem dropWhile_all (p : UInt8 → Bool) : ∀ l : List UInt8, (∀ x ∈ l.dropWhile p, p x = true) → ∀ x ∈ l, p x = true
  | [], _ => fun x hx => by cases hx
  | y :: l, h => by
    rw [List.dropWhile_cons] at h
    split at h
    · rename_i hy
      intro x hx
      rcases List.mem_cons.1 hx with rfl | hx
      · exact hy
      · exact dropWhile_all p l h x hx
    · exact h
theorem dropWhile_nil (p : UInt8 → Bool) : ∀ l : List UInt8, l.dropWhile p = [] ↔ ∀ x ∈ l, p x = true
  | [] => ⟨fun _ => (fun x hx => by cases hx), fun _ => rfl⟩
  | y :: l => by
    rw [List.dropWhile_cons]
    by_cases hy : p y = true
    · rw [if_pos hy, dropWhile_nil p l]
      constructor
      · intro h x hx
        rcases List.mem_cons.1 hx with rfl | hx
        · exact hy
        · exact h x hx
      · exact fun h x hx => h x (List.mem_cons_of_mem _ hx)
    · rw [if_neg hy]
      exact ⟨fun h => (by cases h), fun h => absurd (h y (List.mem_cons_self ..)) hy⟩
theorem trim_nil (l : List UInt8) : Lib.trimB l 0 = [] ↔ ∀ x ∈ l, x = 0 := by
  unfold Lib.trimB Lib.trimLeftB
  rw [dropWhile_nil]
  unfold Lib.trimRightB
  constructor
  · intro h x hx
    have h2 : ∀ x ∈ l.reverse.dropWhile (· == 0), (x == 0) = true := fun x hx => h x (List.mem_reverse.2 hx)
    exact eq_of_beq (dropWhile_all _ _ h2 x (List.mem_reverse.2 hx))
  · intro h x hx
    have := List.mem_reverse.1 hx
    have := (List.dropWhile_suffix (· == 0)).subset this
    rw [h x (List.mem_reverse.1 this)]
    rfl
theorem trimmed {p : Pc} {size left : Int} (hs : p.f1.size = 64) (hl : left = size - p.f0 * 64) (h0 : 0 ≤ left) (h1 : left < 64) :
    strings_Trim.f (p.f1.extract left.toNat p.f1.size) (⟨#[0]⟩ : ByteArray) = some ⟨(Lib.trimB (p.f1.extract left.toNat p.f1.size).data.toList 0).toArray⟩ ∧
    ((⟨(Lib.trimB (p.f1.extract left.toNat p.f1.size).data.toList 0).toArray⟩ : ByteArray).toList = ([] : List UInt8) ↔ zeroB size p = true) := by
  constructor
  · unfold strings_Trim.f
    rw [if_pos ⟨rfl, by rw [ByteArray.size_extract, hs]; omega⟩]
  · rw [ByteArray.toList_eq]
    show Lib.trimB _ 0 = [] ↔ _
    rw [trim_nil, zeroB_iff]
    have hsz : (p.f1.extract left.toNat p.f1.size).size = 64 - left.toNat := by rw [ByteArray.size_extract, hs]; omega
    constructor
    · intro h k k0 k1 k2
      obtain ⟨j, hj⟩ : ∃ j : Nat, k = ((left.toNat + j : Nat) : Int) := ⟨(k - left).toNat, by omega⟩
      have hlt : j < (p.f1.extract left.toNat p.f1.size).size := by omega
      rw [hj, ← bt_extract p.f1 left.toNat p.f1.size j hlt, bt_nat _ j hlt]
      have := h (p.f1.extract left.toNat p.f1.size)[j] (by rw [Array.mem_toList_iff]; exact Array.getElem_mem _)
      rw [this]
      rfl
    · intro h x hx
      obtain ⟨j, hj, rfl⟩ := List.mem_iff_getElem.1 hx
      have hlt : j < (p.f1.extract left.toNat p.f1.size).size := by rw [Array.length_toList] at hj; exact hj
      have e := h ((left.toNat + j : Nat) : Int) (by omega) (by omega) (by omega)
      rw [← bt_extract p.f1 left.toNat p.f1.size j hlt, bt_nat _ j hlt] at e
      rw [Array.getElem_toList]
      have e2 : ((p.f1.extract left.toNat p.f1.size)[j]).toNat = 0 := by exact_mod_cast e
      exact UInt8.toNat_inj.mp e2
end Go.Proofs.YtgnffienfjigiaaDoor.SpP
/-! Check: the program's and the document's. -/
set_option linter.unusedVariables false
set_option linter.unusedSimpArgs false
namespace Go.Proofs.YtgnffienfjigiaaDoor.SpP
open Go.RowKit Go.Proofs.YtgnffienfjigiaaDoor.PA Go.Proofs.YtgnffienfjigiaaDoorW.PrintWords Go.Proofs.YtgnffienfjigiaaDoorW.PrintMore
open Go.Proofs.YtgnffienfjigiaaDoor.Plain
theorem tdiv0 {a : Int} (h : 0 ≤ a) (b : Int) : Int.tdiv a b = a / b := Int.tdiv_eq_ediv_of_nonneg h
theorem tmod0 {a : Int} (h : 0 ≤ a) (b : Int) : Int.tmod a b = a % b := Int.tmod_eq_emod_of_nonneg h
theorem check_j2 (k : Nat) (size : Int) (l : List Pc) (j : Nat) (last : Int) (p : Pc) (h0 : 0 ≤ size) (h1 : size ≤ 4611686018427387904) (hl : -1 ≤ last) (hlt : last < p.f0) (hs : p.f0 * 64 < size) (hz : p.f1.size = 64) (n : Int) :
    sparse_Check.j2 (k + 1) size l n (j : Int) false p.f0 p.f1 = if zeroB size p = true then sparse_Check.l0 k size p.f0 l n (wrap64 ((j : Int) + 1)) else some 21 := by
  simp only [sparse_Check.j2]
  rw [if_neg (by decide)]
  have e1 : wrap64 (p.f0 * 64) = p.f0 * 64 := w64 (by omega) (by omega)
  have e2 : wrap64 (size - p.f0 * 64) = size - p.f0 * 64 := w64 (by omega) (by omega)
  rw [e1, e2]
  by_cases hc : size - p.f0 * 64 < 64
  · obtain ⟨t1, t2⟩ := trimmed (p := p) (size := size) hz rfl (by omega) hc
    rw [if_pos hc, if_pos (by omega), if_pos (by omega), t1, Option.bind_some]
    by_cases hq : zeroB size p = true
    · rw [if_pos (t2.2 hq), if_pos hq]
    · rw [if_neg (fun h => hq (t2.1 h)), if_neg hq]
  · rw [if_neg hc, if_pos ((zeroB_iff _ _).2 (fun k k0 k1 k2 => by omega))]
theorem check_l0 (size : Int) (h0 : 0 ≤ size) (h1 : size ≤ 4611686018427387904) (l : List Pc) (hl : l.length ≤ 1000000000) (n : Nat) : ∀ (k j : Nat) (last : Int), n = l.length - j → 2 * n < k → j ≤ l.length → -1 ≤ last →
    sparse_Check.l0 k size last l (l.length : Int) (j : Int) = some (if okL size last (l.drop j) = true then 0 else 21) := by
  induction n with
  | zero =>
    intro k j last hn hk hj hla
    obtain ⟨k, rfl⟩ : ∃ q, k = q + 1 := ⟨k - 1, by omega⟩
    simp only [sparse_Check.l0]
    rw [if_neg (by omega), List.drop_of_length_le (by omega)]
    rfl
  | succ n ih =>
    intro k j last hn hk hj hla
    obtain ⟨k, rfl⟩ : ∃ q, k = q + 2 := ⟨k - 2, by omega⟩
    simp only [sparse_Check.l0]
    rw [if_pos (by omega), if_pos (by omega), if_pos (by omega), dropP l j (by omega)]
    generalize hp : rd_T39 l (j : Int) = p
    show _ = some (if (okP size last p && okL size p.f0 (l.drop (j + 1))) = true then 0 else 21)
    have hno : okP size last p = false → sparse_Check.j2 (k + 1) size l (l.length : Int) (j : Int) true p.f0 p.f1 = some (if (okP size last p && okL size p.f0 (l.drop (j + 1))) = true then 0 else 21) := by
      intro h
      simp only [sparse_Check.j2]
      rw [if_pos trivial, h, Bool.false_and, if_neg (by decide)]
    by_cases c1 : p.f0 ≤ last
    · rw [if_pos c1]
      exact hno (by rw [Bool.eq_false_iff]; intro h; have := (okP_iff _ _ _).1 h; omega)
    · rw [if_neg c1]
      have ed : wrap64 (Int.tdiv (wrap64 (size - 1)) 64) = if size = 0 then 0 else (size - 1) / 64 := by
        by_cases hz : size = 0
        · subst hz
          rw [if_pos rfl, w64 (x := 0 - 1) (by omega) (by omega), show Int.tdiv (0 - 1) 64 = 0 from by decide, w64 (by omega) (by omega)]
        · rw [if_neg hz, w64 (x := size - 1) (by omega) (by omega), tdiv0 (by omega), w64 (by omega) (by omega)]
      rw [ed]
      by_cases c2 : p.f0 > if size = 0 then 0 else (size - 1) / 64
      · rw [if_pos c2]
        refine hno ?_
        rw [Bool.eq_false_iff]
        intro h
        have := (okP_iff _ _ _).1 h
        split at c2 <;> omega
      · rw [if_neg c2]
        by_cases c3 : size = 0
        · rw [if_pos c3]
          refine hno ?_
          rw [Bool.eq_false_iff]
          intro h
          have := (okP_iff _ _ _).1 h
          omega
        · rw [if_neg c3]
          rw [if_neg c3] at c2
          by_cases c4 : p.f1.size = 64
          · have e4 : ((p.f1.size : Int) != 64) = false := by rw [c4]; rfl
            rw [e4, check_j2 k size l j last p h0 h1 hla (by omega) (by omega) c4]
            have hok : okP size last p = zeroB size p := by
              unfold okP
              rw [decide_eq_true (show last < p.f0 by omega), decide_eq_true (show p.f0 * 64 < size by omega), decide_eq_true c4]
              rfl
            rw [hok]
            by_cases hq : zeroB size p = true
            · rw [if_pos hq, hq, Bool.true_and, w1 (by omega)]
              exact ih k (j + 1) p.f0 (by omega) (by omega) (by omega) (by omega)
            · rw [if_neg hq, Bool.eq_false_iff.2 hq, Bool.false_and, if_neg (by decide)]
          · have e4 : ((p.f1.size : Int) != 64) = true := by
              rw [bne_iff_ne]
              omega
            rw [e4]
            refine hno ?_
            rw [Bool.eq_false_iff]
            intro h
            exact c4 ((okP_iff _ _ _).1 h).2.2.1
theorem check_f (l : List Pc) (size : Int) (hl : l.length ≤ 1000000000) (k : Nat) (hk : 2 * l.length + 1 < k) : sparse_Check.f k l size = some (if goodB l size = true then 0 else 21) := by
  obtain ⟨k, rfl⟩ : ∃ q, k = q + 1 := ⟨k - 1, by omega⟩
  unfold sparse_Check.f
  have hj : sparse_Check.j0 (k + 1) l size true = some 21 := by
    simp only [sparse_Check.j0]
    rw [if_pos trivial]
  by_cases c1 : size < 0
  · rw [if_pos c1, hj, if_neg]
    intro h
    have := ((goodB_iff _ _).1 h).lo
    omega
  · rw [if_neg c1]
    by_cases c2 : size > 4611686018427387904
    · rw [decide_eq_true c2, hj, if_neg]
      intro h
      have := ((goodB_iff _ _).1 h).hi
      omega
    · rw [decide_eq_false c2]
      simp only [sparse_Check.j0]
      rw [if_neg (by decide), show (0 : Int) = ((0 : Nat) : Int) from rfl, check_l0 size (by omega) (by omega) l hl l.length k 0 (-1) (by omega) (by omega) (by omega) (by omega), List.drop_zero]
      unfold goodB
      rw [decide_eq_true (show 0 ≤ size by omega), decide_eq_true (show size ≤ 4611686018427387904 by omega)]
      rfl
theorem zeroFrom (size : Int) (p : Pc) (i : Nat) (h : ∀ j : Nat, j < i → (p.f0 * 64 + (j : Int) < size ∨ bt p.f1 (j : Int) = 0)) (he : 64 ≤ i) : zeroB size p = true := by
  rw [zeroB_iff]
  intro k k0 k1 k2
  rcases h k.toNat (by omega) with h | h
  · omega
  · rw [← h]; congr 1; omega
theorem rcheck_l1 (size : Int) (h0 : 0 ≤ size) (h1 : size ≤ 4611686018427387904) (l : List Pc) (j : Int) (p : Pc) (hp0 : 0 ≤ p.f0) (hs : p.f0 * 64 < size) (hz : p.f1.size = 64) (n : Nat) : ∀ (k i : Nat), n = 64 - i → n < k → i ≤ 64 → (∀ q : Nat, q < i → (p.f0 * 64 + (q : Int) < size ∨ bt p.f1 (q : Int) = 0)) →
    ∃ k', k ≤ k' + n + 1 ∧ k' < k ∧ coppiceref13_Check.l1 k l size j (i : Int) p.f0 p.f1 = if zeroB size p = true then coppiceref13_Check.l0 k' l size (wrap64 (j + 1)) else some 21 := by
  induction n with
  | zero =>
    intro k i hn hk hi hq
    obtain ⟨k, rfl⟩ : ∃ q, k = q + 1 := ⟨k - 1, by omega⟩
    refine ⟨k, by omega, by omega, ?_⟩
    simp only [coppiceref13_Check.l1]
    rw [if_neg (by omega), if_pos (zeroFrom size p i hq (by omega))]
  | succ n ih =>
    intro k i hn hk hi hq
    obtain ⟨k, rfl⟩ : ∃ q, k = q + 1 := ⟨k - 1, by omega⟩
    simp only [coppiceref13_Check.l1]
    have e1 : wrap64 (p.f0 * 64) = p.f0 * 64 := w64 (by omega) (by omega)
    rw [if_pos (by omega), e1, w64 (x := p.f0 * 64 + (i : Int)) (by omega) (by omega), w1 (by omega)]
    by_cases c : p.f0 * 64 + (i : Int) ≥ size
    · rw [if_pos c, if_pos (by omega), if_pos (by omega)]
      by_cases c2 : bt p.f1 (i : Int) = 0
      · rw [if_pos c2]
        obtain ⟨k', a1, a2, a3⟩ := ih k (i + 1) (by omega) (by omega) (by omega) (fun q hlt => by
          by_cases hqi : q = i
          · subst hqi; exact .inr c2
          · exact hq q (by omega))
        exact ⟨k', by omega, by omega, a3⟩
      · rw [if_neg c2]
        refine ⟨k, by omega, by omega, ?_⟩
        rw [if_neg]
        intro h
        exact c2 ((zeroB_iff _ _).1 h (i : Int) (by omega) (by omega) c)
    · rw [if_neg c]
      obtain ⟨k', a1, a2, a3⟩ := ih k (i + 1) (by omega) (by omega) (by omega) (fun q hlt => by
        by_cases hqi : q = i
        · subst hqi; exact .inl (by omega)
        · exact hq q (by omega))
      exact ⟨k', by omega, by omega, a3⟩
theorem rcheck_l0 (size : Int) (h0 : 0 ≤ size) (h1 : size ≤ 4611686018427387904) (l : List Pc) (hl : l.length ≤ 1000000000) (n : Nat) : ∀ (k j : Nat) (last : Int), n = l.length - j → 67 * n < k → j ≤ l.length → (last = if j = 0 then -1 else (rd_T39 l ((j - 1 : Nat) : Int)).f0) → (-1 ≤ last) →
    coppiceref13_Check.l0 k l size (j : Int) = some (if okL size last (l.drop j) = true then 0 else 21) := by
  induction n with
  | zero =>
    intro k j last hn hk hj hla hlb
    obtain ⟨k, rfl⟩ : ∃ q, k = q + 1 := ⟨k - 1, by omega⟩
    simp only [coppiceref13_Check.l0]
    rw [if_neg (by omega), List.drop_of_length_le (by omega)]
    rfl
  | succ n ih =>
    intro k j last hn hk hj hla hlb
    obtain ⟨k, rfl⟩ : ∃ q, k = q + 2 := ⟨k - 2, by omega⟩
    simp only [coppiceref13_Check.l0]
    rw [if_pos (by omega), if_pos (by omega), dropP l j (by omega)]
    generalize hp : rd_T39 l (j : Int) = p
    show _ = some (if (okP size last p && okL size p.f0 (l.drop (j + 1))) = true then 0 else 21)
    have hno : okP size last p = false → coppiceref13_Check.j2 (k + 1) l size (j : Int) true p.f0 p.f1 = some (if (okP size last p && okL size p.f0 (l.drop (j + 1))) = true then 0 else 21) := by
      intro h
      simp only [coppiceref13_Check.j2]
      rw [if_pos trivial, h, Bool.false_and, if_neg (by decide)]
    by_cases c1 : p.f0 < 0
    · rw [if_pos c1]
      exact hno (by rw [Bool.eq_false_iff]; intro h; have := (okP_iff _ _ _).1 h; omega)
    rw [if_neg c1]
    by_cases c2 : p.f0 ≥ 72057594037927936
    · rw [if_pos c2]
      exact hno (by rw [Bool.eq_false_iff]; intro h; have := (okP_iff _ _ _).1 h; omega)
    rw [if_neg c2, w64 (x := p.f0 * 64) (by omega) (by omega)]
    by_cases c3 : p.f0 * 64 ≥ size
    · rw [if_pos c3]
      exact hno (by rw [Bool.eq_false_iff]; intro h; have := (okP_iff _ _ _).1 h; omega)
    rw [if_neg c3]
    by_cases c4 : (p.f1.size : Int) = 64
    rotate_left
    · rw [if_neg c4]
      exact hno (by rw [Bool.eq_false_iff]; intro h; have := (okP_iff _ _ _).1 h; omega)
    rw [if_pos c4]
    have hyes : last < p.f0 → coppiceref13_Check.j2 (k + 1) l size (j : Int) false p.f0 p.f1 = some (if (okP size last p && okL size p.f0 (l.drop (j + 1))) = true then 0 else 21) := by
      intro hlt
      simp only [coppiceref13_Check.j2]
      rw [if_neg (by decide)]
      obtain ⟨k', a1, a2, a3⟩ := rcheck_l1 size h0 h1 l (j : Int) p (by omega) (by omega) (by omega) 64 k 0 (by omega) (by omega) (by omega) (fun q hq => by omega)
      rw [show (0 : Int) = ((0 : Nat) : Int) from rfl, a3]
      have hok : okP size last p = zeroB size p := by
        unfold okP
        rw [decide_eq_true hlt, decide_eq_true (show p.f0 * 64 < size by omega), decide_eq_true (show p.f1.size = 64 by omega)]
        rfl
      rw [hok]
      by_cases hq : zeroB size p = true
      · rw [if_pos hq, hq, Bool.true_and, w1 (by omega)]
        exact ih k' (j + 1) p.f0 (by omega) (by omega) (by omega) (by rw [if_neg (by omega), Nat.add_sub_cancel, hp]) (by omega)
      · rw [if_neg hq, Bool.eq_false_iff.2 hq, Bool.false_and, if_neg (by decide)]
    by_cases c5 : (j : Int) > 0
    · rw [if_pos c5]
      have ej : wrap64 ((j : Int) - 1) = ((j - 1 : Nat) : Int) := by rw [w64 (by omega) (by omega)]; omega
      rw [ej, if_pos (by omega), if_pos (by omega)]
      rw [if_neg (by omega)] at hla
      rw [← hla]
      by_cases c6 : last ≥ p.f0
      · rw [decide_eq_true c6]
        exact hno (by rw [Bool.eq_false_iff]; intro h; have := (okP_iff _ _ _).1 h; omega)
      · rw [decide_eq_false c6]
        exact hyes (by omega)
    · rw [if_neg c5]
      rw [if_pos (by omega)] at hla
      exact hyes (by omega)
theorem rcheck_f (l : List Pc) (size : Int) (hl : l.length ≤ 1000000000) (k : Nat) (hk : 67 * l.length + 1 < k) : coppiceref13_Check.f k l size = some (if goodB l size = true then 0 else 21) := by
  obtain ⟨k, rfl⟩ : ∃ q, k = q + 1 := ⟨k - 1, by omega⟩
  unfold coppiceref13_Check.f
  have hj : coppiceref13_Check.j0 (k + 1) l size true = some 21 := by
    simp only [coppiceref13_Check.j0]
    rw [if_pos trivial]
  by_cases c1 : size < 0
  · rw [if_pos c1, hj, if_neg]
    intro h
    have := ((goodB_iff _ _).1 h).lo
    omega
  · rw [if_neg c1]
    by_cases c2 : size > 4611686018427387904
    · rw [decide_eq_true c2, hj, if_neg]
      intro h
      have := ((goodB_iff _ _).1 h).hi
      omega
    · rw [decide_eq_false c2]
      simp only [coppiceref13_Check.j0]
      rw [if_neg (by decide), show (0 : Int) = ((0 : Nat) : Int) from rfl, rcheck_l0 size (by omega) (by omega) l hl l.length k 0 (-1) (by omega) (by omega) (by omega) (by rfl) (by omega), List.drop_zero]
      unfold goodB
      rw [decide_eq_true (show 0 ≤ size by omega), decide_eq_true (show size ≤ 4611686018427387904 by omega)]
      rfl
end Go.Proofs.YtgnffienfjigiaaDoor.SpP
/-! Where a piece stands; the program's Write. -/
set_option linter.unusedVariables false
set_option linter.unusedSimpArgs false
namespace Go.Proofs.YtgnffienfjigiaaDoor.SpP
open Go.RowKit Go.Proofs.YtgnffienfjigiaaDoor.PA Go.Proofs.YtgnffienfjigiaaDoorW.PrintWords Go.Proofs.YtgnffienfjigiaaDoorW.PrintMore
open Go.Proofs.YtgnffienfjigiaaDoor.Plain
def lb : List Pc → Int → Nat
  | [], _ => 0
  | p :: l, i => if p.f0 < i then lb l i + 1 else 0
def hasB : List Pc → Int → Bool
  | [], _ => false
  | p :: l, i => if p.f0 < i then hasB l i else decide (p.f0 = i)
theorem lb_le (l : List Pc) (i : Int) : lb l i ≤ l.length := by
  induction l with
  | nil => exact Nat.le_refl _
  | cons p l ih =>
    unfold lb
    split <;> simp only [List.length_cons] <;> omega
theorem rd0 (p : Pc) (l : List Pc) : rd_T39 (p :: l) ((0 : Nat) : Int) = p := rfl
theorem rdS (p : Pc) (l : List Pc) (j : Nat) : rd_T39 (p :: l) ((j + 1 : Nat) : Int) = rd_T39 l (j : Int) := by
  unfold rd_T39
  rw [Int.toNat_natCast, Int.toNat_natCast, List.getD_cons_succ]
theorem lb_is (i : Int) : ∀ (l : List Pc) (pos : Nat), pos ≤ l.length → (∀ j : Nat, j < pos → (rd_T39 l (j : Int)).f0 < i) → (∀ j : Nat, pos ≤ j → j < l.length → i ≤ (rd_T39 l (j : Int)).f0) → pos = lb l i
  | [], pos, h0, _, _ => by
    have : pos = 0 := by simpa using h0
    subst this
    rfl
  | p :: l, 0, h0, h1, h2 => by
    unfold lb
    have := h2 0 (by omega) (by simp)
    rw [rd0] at this
    rw [if_neg (by omega)]
  | p :: l, pos + 1, h0, h1, h2 => by
    unfold lb
    have h3 := h1 0 (by omega)
    rw [rd0] at h3
    rw [if_pos h3, ← lb_is i l pos (by simpa using h0) (fun j hj => by have := h1 (j + 1) (by omega); rwa [rdS] at this) (fun j h4 h5 => by have := h2 (j + 1) (by omega) (by simpa using h5); rwa [rdS] at this)]
theorem has_eq : ∀ (l : List Pc) (i : Int), hasB l i = (decide (lb l i < l.length) && decide ((rd_T39 l (lb l i : Int)).f0 = i))
  | [], i => rfl
  | p :: l, i => by
    unfold hasB lb
    by_cases h : p.f0 < i
    · rw [if_pos h, if_pos h, rdS, has_eq l i]
      congr 1
      simp only [List.length_cons, Nat.add_lt_add_iff_right]
    · rw [if_neg h, if_neg h, rd0, decide_eq_true (show 0 < (p :: l).length by simp), Bool.true_and]
theorem put_eq (p : Pc) : ∀ l : List Pc, putL p l = if hasB l p.f0 = true then l.set (lb l p.f0) p else l.take (lb l p.f0) ++ p :: l.drop (lb l p.f0)
  | [] => rfl
  | q :: l => by
    unfold putL hasB lb
    by_cases h : q.f0 < p.f0
    · rw [if_pos h, if_pos h, if_pos h, put_eq p l]
      by_cases h2 : hasB l p.f0 = true
      · rw [if_pos h2, if_pos h2]
        rfl
      · rw [if_neg h2, if_neg h2]
        rfl
    · rw [if_neg h, if_neg h, if_neg h]
      by_cases h2 : q.f0 = p.f0
      · rw [if_pos h2, if_pos (decide_eq_true h2)]
        rfl
      · rw [if_neg h2, if_neg (by rw [decide_eq_false h2]; decide)]
        rfl
theorem rise_rd {l : List Pc} (h : Rise l) {i j : Nat} (hij : i < j) (hj : j < l.length) : (rd_T39 l (i : Int)).f0 < (rd_T39 l (j : Int)).f0 := by
  have := List.pairwise_iff_getElem.1 h i j (by omega) hj hij
  unfold rd_T39
  rw [Int.toNat_natCast, Int.toNat_natCast, List.getD_eq_getElem?_getD, List.getD_eq_getElem?_getD, List.getElem?_eq_getElem hj, List.getElem?_eq_getElem (by omega)]
  exact this
theorem rise_rd_le {l : List Pc} (h : Rise l) {i j : Nat} (hij : i ≤ j) (hj : j < l.length) : (rd_T39 l (i : Int)).f0 ≤ (rd_T39 l (j : Int)).f0 := by
  rcases Nat.lt_or_ge i j with hlt | hge
  · have := rise_rd h hlt hj; omega
  · have : i = j := by omega
    subst this
    omega
theorem bsearch (l : List Pc) (i : Int) (hr : Rise l) (hl : l.length ≤ 1000000000) (hi0 : 0 ≤ i) (hi1 : i ≤ 144115188075855872) (hp : ∀ p ∈ l, 0 ≤ p.f0 ∧ p.f0 ≤ 144115188075855872) (n : Nat) : ∀ (k lo hi : Nat), n = hi - lo → n < k → lo ≤ hi → hi ≤ l.length → (∀ j : Nat, j < lo → (rd_T39 l (j : Int)).f0 < i) → (∀ j : Nat, hi ≤ j → j < l.length → i ≤ (rd_T39 l (j : Int)).f0) →
    slices_BinarySearchFunc_Piece_int_sparse_find_1.l0 k l i (l.length : Int) (lo : Int) (hi : Int) = some ((lb l i : Int), hasB l i) := by
  induction n using Nat.strongRecOn with
  | ind n ih =>
    intro k lo hi hn hk hlo hhi h1 h2
    obtain ⟨k, rfl⟩ : ∃ q, k = q + 1 := ⟨k - 1, by omega⟩
    simp only [slices_BinarySearchFunc_Piece_int_sparse_find_1.l0]
    by_cases c : lo < hi
    · rw [if_pos (by omega)]
      have em : wrap64 (IntKind.u64.wrap (wrap64 ((lo : Int) + (hi : Int))) / 2) = (((lo + hi) / 2 : Nat) : Int) := by
        rw [w64 (x := (lo : Int) + (hi : Int)) (by omega) (by omega), wraps_u64 _ (by omega) (by omega), w64 (by omega) (by omega)]
        omega
      rw [em, if_pos (by omega), if_pos (by omega)]
      have hm : (lo + hi) / 2 < l.length := by omega
      have hq := hp _ (rd_mem l _ hm)
      unfold sparse_find_1.f
      rw [Option.bind_some, w64 (x := (rd_T39 l (((lo + hi) / 2 : Nat) : Int)).f0 - i) (by omega) (by omega)]
      by_cases c2 : (rd_T39 l (((lo + hi) / 2 : Nat) : Int)).f0 - i < 0
      · rw [if_pos c2, w1 (by omega)]
        refine ih (hi - ((lo + hi) / 2 + 1)) (by omega) k ((lo + hi) / 2 + 1) hi rfl (by omega) (by omega) hhi (fun j hj => ?_) h2
        have := rise_rd_le hr (show j ≤ (lo + hi) / 2 by omega) hm
        omega
      · rw [if_neg c2]
        refine ih ((lo + hi) / 2 - lo) (by omega) k lo ((lo + hi) / 2) rfl (by omega) (by omega) (by omega) h1 (fun j hj hj2 => ?_)
        have := rise_rd_le hr hj hj2
        omega
    · have e : lo = hi := by omega
      subst e
      rw [if_neg (by omega)]
      have hlb := lb_is i l lo hhi h1 h2
      rw [has_eq, ← hlb]
      by_cases c2 : lo < l.length
      · have hq := hp _ (rd_mem l _ c2)
        rw [if_pos (by omega), if_pos (by omega), if_pos (by omega)]
        unfold sparse_find_1.f
        rw [Option.bind_some, w64 (by omega) (by omega), decide_eq_true c2, Bool.true_and]
        congr 2
        by_cases c3 : (rd_T39 l (lo : Int)).f0 = i
        · rw [decide_eq_true c3, c3, Int.sub_self]; rfl
        · rw [decide_eq_false c3, beq_eq_false_iff_ne]; omega
      · rw [if_neg (by omega), decide_eq_false c2, Bool.false_and]
theorem find_f (l : List Pc) (i : Int) (hr : Rise l) (hl : l.length ≤ 1000000000) (hi0 : 0 ≤ i) (hi1 : i ≤ 144115188075855872) (hp : ∀ p ∈ l, 0 ≤ p.f0 ∧ p.f0 ≤ 144115188075855872) (k : Nat) (hk : l.length < k) :
    sparse_find.f k l i = some ((lb l i : Int), hasB l i) := by
  unfold sparse_find.f slices_BinarySearchFunc_Piece_int_sparse_find_1.f
  have := bsearch l i hr hl hi0 hi1 hp l.length k 0 l.length (by omega) hk (by omega) (Nat.le_refl _) (fun j hj => by omega) (fun j h1 h2 => by omega)
  rw [show ((0 : Nat) : Int) = 0 from rfl] at this
  rw [this]
  rfl
theorem has_mem {l : List Pc} {i : Int} (h : hasB l i = true) : lb l i < l.length ∧ (rd_T39 l (lb l i : Int)) ∈ l ∧ (rd_T39 l (lb l i : Int)).f0 = i := by
  rw [has_eq, Bool.and_eq_true, decide_eq_true_iff, decide_eq_true_iff] at h
  exact ⟨h.1, rd_mem l _ h.1, h.2⟩
theorem lb_lt : ∀ (l : List Pc) (i : Int) (j : Nat), j < lb l i → (rd_T39 l (j : Int)).f0 < i
  | [], i, j, h => by simp [lb] at h
  | p :: l, i, j, h => by
    unfold lb at h
    by_cases c : p.f0 < i
    · rw [if_pos c] at h
      rcases j with _ | j
      · rw [rd0]; exact c
      · rw [rdS]
        exact lb_lt l i j (by omega)
    · rw [if_neg c] at h
      omega
theorem lb_ge {l : List Pc} (hr : Rise l) (i : Int) (j : Nat) (h : lb l i ≤ j) (hj : j < l.length) : i ≤ (rd_T39 l (j : Int)).f0 := by
  induction l generalizing j with
  | nil => simp at hj
  | cons p l ih =>
    unfold lb at h
    by_cases c : p.f0 < i
    · rw [if_pos c] at h
      rcases j with _ | j
      · omega
      · rw [rdS]
        exact ih (List.pairwise_cons.1 hr).2 j (by omega) (by simpa using hj)
    · rcases j with _ | j
      · rw [rd0]; omega
      · rw [rdS]
        have := (List.pairwise_cons.1 hr).1 _ (rd_mem l j (by simpa using hj))
        omega
theorem has_none {l : List Pc} (hr : Rise l) {i : Int} (h : ¬ hasB l i = true) : ∀ p ∈ l, p.f0 ≠ i := by
  intro p hp e
  obtain ⟨j, hj, rfl⟩ := List.mem_iff_getElem.1 hp
  have er : rd_T39 l (j : Int) = l[j] := by
    unfold rd_T39
    rw [Int.toNat_natCast, List.getD_eq_getElem?_getD, List.getElem?_eq_getElem hj]; rfl
  have h1 : lb l i ≤ j := by
    rcases Nat.lt_or_ge j (lb l i) with hlt | hge
    · have := lb_lt l i j hlt
      rw [er] at this
      omega
    · exact hge
  have h2 := lb_ge hr i (lb l i) (Nat.le_refl _) (by omega)
  have h3 := rise_rd_le hr h1 hj
  rw [er] at h3
  apply h
  rw [has_eq, decide_eq_true (show lb l i < l.length by omega), decide_eq_true (by omega)]
  rfl
/-- The bytes of the piece that stands there, or zeros. -/
theorem got_eq {l : List Pc} (hr : Rise l) (hs : ∀ p ∈ l, p.f1.size = 64) (i : Int) : (sparse_Write.got l (lb l i : Int) (hasB l i)).size = 64 ∧ ∀ k : Int, 0 ≤ k → k < 64 → bt (sparse_Write.got l (lb l i : Int) (hasB l i)) k = atL l (i * 64 + k) := by
  unfold sparse_Write.got
  by_cases h : hasB l i = true
  · obtain ⟨h1, h2, h3⟩ := has_mem h
    rw [if_pos h]
    refine ⟨hs _ h2, fun k k0 k1 => ?_⟩
    rw [at_mem hr h2 (by omega), show (i * 64 + k) % 64 = k by omega]
  · rw [if_neg h]
    refine ⟨sparse_Write.zero_size, fun k k0 k1 => ?_⟩
    rw [at_none (fun p hp => by have := has_none hr h p hp; omega)]
    obtain ⟨j, rfl⟩ : ∃ j : Nat, k = (j : Int) := ⟨k.toNat, by omega⟩
    rw [bt_getD]
    show ((((List.replicate 64 (0 : UInt8)).toArray.toList[j]?).getD 0).toNat : Int) = 0
    rw [List.toList_toArray, List.getElem?_replicate, if_pos (by omega)]
    rfl
/-- Bytes laid over are what the piece is to have. -/
theorem lay_eq {l : List Pc} (hr : Rise l) (hs : ∀ p ∈ l, p.f1.size = 64) (off : Int) (data : ByteArray) (pos : Int) (h0 : 0 ≤ off) (h1 : off ≤ pos) (h2 : pos < off + (data.size : Int)) (h3 : pos = off ∨ pos % 64 = 0) :
    sparse_Write.lay (sparse_Write.got l (lb l (pos / 64) : Int) (hasB l (pos / 64))) (pos % 64).toNat (sparse_Write.rest off data pos) = (pieceW l off data (pos / 64)).f1 := by
  obtain ⟨g1, g2⟩ := got_eq hr hs (pos / 64)
  generalize sparse_Write.got l (lb l (pos / 64) : Int) (hasB l (pos / 64)) = b at *
  have hsk : (pos % 64).toNat ≤ 64 := by omega
  have hrs : (sparse_Write.rest off data pos).size = data.size - (pos - off).toNat := by
    unfold sparse_Write.rest
    rw [ByteArray.size_extract]
    omega
  refine eq_mkB _ 64 _ (sparse_Write.lay_size _ _ _ g1 hsk) (fun k hk => ?_)
  obtain ⟨t, ht⟩ : ∃ t, t = (sparse_Write.rest off data pos).data.toList.take (Nat.min (sparse_Write.rest off data pos).size (64 - (pos % 64).toNat)) := ⟨_, rfl⟩
  have htl : t.length = Nat.min (sparse_Write.rest off data pos).size (64 - (pos % 64).toNat) := by
    rw [ht, List.length_take, Array.length_toList]
    exact Nat.min_eq_left (Nat.min_le_left _ _)
  have hmin : Nat.min (sparse_Write.rest off data pos).size (64 - (pos % 64).toNat) = if (sparse_Write.rest off data pos).size ≤ 64 - (pos % 64).toNat then (sparse_Write.rest off data pos).size else 64 - (pos % 64).toNat := rfl
  have hbl : b.data.toList.length = 64 := by rw [Array.length_toList]; exact g1
  have htk : (b.data.toList.take (pos % 64).toNat).length = (pos % 64).toNat := by rw [List.length_take]; omega
  have e : bt (sparse_Write.lay b (pos % 64).toNat (sparse_Write.rest off data pos)) (k : Int) = ((((b.data.toList.take (pos % 64).toNat ++ (t ++ b.data.toList.drop ((pos % 64).toNat + t.length)))[k]?).getD 0).toNat : Int) := by
    rw [bt_getD, ht]
    rfl
  rw [e]
  clear e
  unfold fill
  rcases Nat.lt_or_ge k (pos % 64).toNat with c1 | c1
  · rw [List.getElem?_append_left (by omega), List.getElem?_take_of_lt c1, ← bt_getD, g2 _ (by omega) (by omega), if_neg (by omega)]
  · rw [List.getElem?_append_right (by omega), htk]
    rcases Nat.lt_or_ge (k - (pos % 64).toNat) t.length with c2 | c2
    · have hin : k - (pos % 64).toNat < (sparse_Write.rest off data pos).size := by
        rw [htl, hmin] at c2
        split at c2 <;> omega
      rw [List.getElem?_append_left c2]
      rw [htl] at c2
      rw [ht, List.getElem?_take_of_lt c2, ← bt_getD]
      have hin2 : k - (pos % 64).toNat < (data.extract (pos - off).toNat data.size).size := hin
      show bt (data.extract (pos - off).toNat data.size) _ = _
      rw [bt_extract _ _ _ _ hin2, if_pos (by omega)]
      congr 1
      omega
    · rw [List.getElem?_append_right c2, List.getElem?_drop, show (pos % 64).toNat + t.length + (k - (pos % 64).toNat - t.length) = k by omega, ← bt_getD, g2 _ (by omega) (by omega), if_neg]
      rw [htl, hmin] at c2
      split at c2 <;> omega
def cntW (off : Int) (data : ByteArray) (pos : Int) : Nat := if pos < off + (data.size : Int) then ((off + (data.size : Int) - 1) / 64 - pos / 64 + 1).toNat else 0
theorem write_l0 (k : Nat) (off : Int) (data : ByteArray) (h0 : 0 ≤ off) (h1 : off + (data.size : Int) ≤ 4611686018427387904) : ∀ (m : Nat) (pos : Int) (out : List Pc), Rise out → (∀ p ∈ out, p.f1.size = 64 ∧ 0 ≤ p.f0 ∧ p.f0 ≤ 72057594037927936) → off ≤ pos → pos ≤ off + (data.size : Int) → (pos = off ∨ pos % 64 = 0 ∨ pos = off + (data.size : Int)) →
    cntW off data pos < m → out.length + cntW off data pos ≤ 1000000 → out.length + cntW off data pos < k →
    sparse_Write.l0 k off data m pos out = some (writeFrom off data (cntW off data pos) (pos / 64) out)
  | 0, pos, out, _, _, _, _, _, hm, _, _ => absurd hm (Nat.not_lt_zero _)
  | m + 1, pos, out, hr, hp, p0, p1, p2, hm, hl, hk => by
    unfold sparse_Write.l0
    by_cases c : pos < off + (data.size : Int)
    · rw [if_pos c, tdiv0 (by omega), tmod0 (by omega), find_f out (pos / 64) hr (by omega) (by omega) (by omega) (fun p h => ⟨(hp p h).2.1, by have := (hp p h).2.2; omega⟩) k (by omega), Option.bind_some]
      have hlb := lb_le out (pos / 64)
      have hok : sparse_Write.ok out (lb out (pos / 64) : Int) (hasB out (pos / 64)) := by
        refine ⟨by omega, by omega, fun h => ?_, by omega⟩
        obtain ⟨a1, a2, a3⟩ := has_mem h
        exact ⟨by omega, (hp _ a2).1⟩
      rw [if_pos hok]
      have hla := lay_eq hr (fun p h => (hp p h).1) off data pos h0 p0 c (by omega)
      show sparse_Write.l0 k off data m _ (sparse_Write.put out (lb out (pos / 64) : Int) (hasB out (pos / 64)) ⟨pos / 64, sparse_Write.lay (sparse_Write.got out (lb out (pos / 64) : Int) (hasB out (pos / 64))) (pos % 64).toNat (sparse_Write.rest off data pos)⟩) = _
      rw [hla]
      have epw : (⟨pos / 64, (pieceW out off data (pos / 64)).f1⟩ : Pc) = pieceW out off data (pos / 64) := rfl
      rw [epw]
      have eput : sparse_Write.put out (lb out (pos / 64) : Int) (hasB out (pos / 64)) (pieceW out off data (pos / 64)) = putL (pieceW out off data (pos / 64)) out := by
        rw [put_eq]
        unfold sparse_Write.put
        rw [Int.toNat_natCast]
        rfl
      rw [eput]
      have hrs : (sparse_Write.rest off data pos).size = data.size - (pos - off).toNat := by
        unfold sparse_Write.rest
        rw [ByteArray.size_extract]
        omega
      obtain ⟨n, hn⟩ : ∃ n, Nat.min (sparse_Write.rest off data pos).size (64 - (pos % 64).toNat) = n := ⟨_, rfl⟩
      have hn2 : n = if (sparse_Write.rest off data pos).size ≤ 64 - (pos % 64).toNat then (sparse_Write.rest off data pos).size else 64 - (pos % 64).toNat := hn ▸ rfl
      rw [hn]
      have hput := put_len (pieceW out off data (pos / 64)) out
      have hc1 : cntW off data pos = cntW off data (pos + (n : Int)) + 1 := by
        unfold cntW
        rw [if_pos c]
        rw [hrs] at hn2
        split at hn2
        · rw [if_neg (by omega)]; omega
        · split <;> omega
      have hnx : pos + (n : Int) = off + (data.size : Int) ∨ ((pos + (n : Int)) % 64 = 0 ∧ (pos + (n : Int)) / 64 = pos / 64 + 1) := by
        rw [hrs] at hn2
        split at hn2
        · left; omega
        · right; omega
      have hle : pos + (n : Int) ≤ off + (data.size : Int) := by
        rw [hrs] at hn2
        split at hn2 <;> omega
      rw [write_l0 k off data h0 h1 m (pos + (n : Int)) _ (rise_put hr) (fun p h => by
        rcases mem_put h with rfl | h
        · exact ⟨mkB_size _ _, by show 0 ≤ pos / 64; omega, by show pos / 64 ≤ _; omega⟩
        · exact hp p h) (by omega) hle (by omega) (by omega) (by omega) (by omega), hc1]
      congr 1
      rcases hnx with he | ⟨_, he⟩
      · have hz : cntW off data (pos + (n : Int)) = 0 := by unfold cntW; rw [if_neg (by omega)]
        rw [hz]
        rfl
      · rw [he]
        rfl
    · rw [if_neg c]
      unfold cntW
      rw [if_neg c]
      rfl
/-- What Write answers. -/
theorem write_f (l : List Pc) (size off : Int) (data : ByteArray) (hl : l.length ≤ 100000) (k : Nat) (hk : 2 * l.length + 200 < k) :
    sparse_Write.f k l size off data = some (if goodB l size = true then (if off < 0 ∨ (data.size : Int) > 4096 then ([], 0, 1) else if off > 4611686018427387904 - (data.size : Int) then ([], 0, 130) else (writeL l off data, if data.size = 0 then size else max size (off + (data.size : Int)), 0)) else ([], 0, 21)) := by
  unfold sparse_Write.f
  rw [check_f l size (by omega) k (by omega), Option.bind_some]
  by_cases g : goodB l size = true
  · have hg := (goodB_iff _ _).1 g
    rw [if_pos g, if_pos g, if_neg (by decide)]
    by_cases c1 : off < 0 ∨ (data.size : Int) > 4096
    · rw [if_pos c1, if_pos c1]
    · rw [if_neg c1, if_neg c1]
      by_cases c2 : off > 4611686018427387904 - (data.size : Int)
      · rw [if_pos c2, if_pos c2]
      · rw [if_neg c2, if_neg c2, if_pos ⟨hg.lo, hg.hi⟩]
        unfold slices_Clone_Piece.f
        rw [if_pos (by omega), Option.bind_some]
        have hc : cntW off data off ≤ 66 := by unfold cntW; split <;> omega
        rw [write_l0 k off data (by omega) (by omega) k off l hg.rise (fun p hp => ⟨hg.sz p hp, (hg.idx p hp).1, by have := (hg.idx p hp).2; have := hg.hi; omega⟩) (by omega) (by omega) (.inl rfl) (by omega) (by omega) (by omega), Option.bind_some]
        have e : cntW off data off = countW off data := by
          unfold cntW countW
          by_cases z : data.size = 0
          · rw [if_pos z, if_neg (by omega)]
          · rw [if_neg z, if_pos (by omega)]
        rw [e]
        rfl
  · rw [if_neg g, if_neg g, if_pos (by decide)]
end Go.Proofs.YtgnffienfjigiaaDoor.SpP
/-! The program's Read. -/
set_option linter.unusedVariables false
set_option linter.unusedSimpArgs false
namespace Go.Proofs.YtgnffienfjigiaaDoor.SpP
open Go.RowKit Go.Proofs.YtgnffienfjigiaaDoor.PA Go.Proofs.YtgnffienfjigiaaDoorW.PrintWords Go.Proofs.YtgnffienfjigiaaDoorW.PrintMore
open Go.Proofs.YtgnffienfjigiaaDoor.Plain
theorem at_app {a b : List Pc} {q : Int} (h : ∀ x ∈ b, x.f0 ≠ q / 64) : atL (a ++ b) q = atL a q := by
  induction a with
  | nil => exact at_none h
  | cons p a ih => rw [List.cons_append, at_cons, at_cons, ih]
theorem at_snoc {a : List Pc} {p : Pc} {q : Int} (h : ∀ x ∈ a, x.f0 ≠ p.f0) : atL (a ++ [p]) q = if p.f0 = q / 64 then bt p.f1 (q % 64) else atL a q := by
  induction a with
  | nil => rfl
  | cons y a ih =>
    rw [List.cons_append, at_cons, at_cons, ih (fun x hx => h x (List.mem_cons_of_mem _ hx))]
    have := h y (List.mem_cons_self ..)
    by_cases c : y.f0 = q / 64
    · rw [if_pos c, if_pos c, if_neg (by omega)]
    · rw [if_neg c, if_neg c]
theorem rlay_bt (b : ByteArray) (o : Nat) (d : ByteArray) (k : Nat) (ho : o ≤ b.size) (hk : k < b.size) : bt (sparse_Read.lay b o d) (k : Int) = if o ≤ k ∧ k < o + d.size then bt d ((k - o : Nat) : Int) else bt b (k : Int) := by
  obtain ⟨t, ht⟩ : ∃ t, t = d.data.toList.take (Nat.min d.size (b.size - o)) := ⟨_, rfl⟩
  have htl : t.length = Nat.min d.size (b.size - o) := by
    rw [ht, List.length_take, Array.length_toList]
    exact Nat.min_eq_left (Nat.min_le_left _ _)
  have hmin : Nat.min d.size (b.size - o) = if d.size ≤ b.size - o then d.size else b.size - o := rfl
  have hbl : b.data.toList.length = b.size := by rw [Array.length_toList]; rfl
  have htk : (b.data.toList.take o).length = o := by rw [List.length_take]; omega
  have e : bt (sparse_Read.lay b o d) (k : Int) = ((((b.data.toList.take o ++ (t ++ b.data.toList.drop (o + t.length)))[k]?).getD 0).toNat : Int) := by
    rw [bt_getD, ht]
    rfl
  rw [e]
  clear e
  rcases Nat.lt_or_ge k o with c1 | c1
  · rw [List.getElem?_append_left (by omega), List.getElem?_take_of_lt c1, ← bt_getD, if_neg (by omega)]
  · rw [List.getElem?_append_right (by omega), htk]
    rcases Nat.lt_or_ge (k - o) t.length with c2 | c2
    · rw [List.getElem?_append_left c2]
      rw [htl] at c2
      rw [ht, List.getElem?_take_of_lt c2, ← bt_getD]
      rw [hmin] at c2
      rw [if_pos (by split at c2 <;> omega)]
    · rw [List.getElem?_append_right c2, List.getElem?_drop, show o + t.length + (k - o - t.length) = k by omega, ← bt_getD, if_neg]
      rw [htl, hmin] at c2
      split at c2 <;> omega
theorem take_snoc (l : List Pc) (i : Nat) (hi : i < l.length) : l.take (i + 1) = l.take i ++ [rd_T39 l (i : Int)] := by
  rw [List.take_add_one, List.getElem?_eq_getElem hi]
  unfold rd_T39
  rw [Int.toNat_natCast, List.getD_eq_getElem?_getD, List.getElem?_eq_getElem hi]
  rfl
theorem mem_take_rd {l : List Pc} {i : Nat} {x : Pc} (h : x ∈ l.take i) : ∃ j : Nat, j < i ∧ j < l.length ∧ x = rd_T39 l (j : Int) := by
  obtain ⟨j, hj, rfl⟩ := List.mem_iff_getElem.1 h
  have h2 : j < i ∧ j < l.length := by
    rw [List.length_take] at hj
    omega
  refine ⟨j, h2.1, h2.2, ?_⟩
  unfold rd_T39
  rw [Int.toNat_natCast, List.getD_eq_getElem?_getD, List.getElem?_eq_getElem h2.2, List.getElem_take]
  rfl
theorem mem_drop_rd {l : List Pc} {i : Nat} {x : Pc} (h : x ∈ l.drop i) : ∃ j : Nat, i ≤ j ∧ j < l.length ∧ x = rd_T39 l (j : Int) := by
  obtain ⟨j, hj, rfl⟩ := List.mem_iff_getElem.1 h
  rw [List.length_drop] at hj
  refine ⟨i + j, by omega, by omega, ?_⟩
  unfold rd_T39
  rw [Int.toNat_natCast, List.getD_eq_getElem?_getD, List.getElem?_eq_getElem (by omega), List.getElem_drop]
  rfl
theorem read_l0 (l : List Pc) (off : Int) (N : Nat) (hN : N ≤ 4096) (hr : Rise l) (hl : l.length ≤ 1000000000) (hp : ∀ p ∈ l, p.f1.size = 64 ∧ 0 ≤ p.f0 ∧ p.f0 ≤ 72057594037927936) (h0 : 0 ≤ off) (n : Nat) : ∀ (m i : Nat) (out : ByteArray), n = l.length - i → n < m → i ≤ l.length →
    (∀ j : Nat, i ≤ j → j < l.length → off / 64 ≤ (rd_T39 l (j : Int)).f0) → out = mkB N (fun k => atL (l.take i) (off + (k : Int))) → sparse_Read.l0 l off m (i : Int) out = some (readL l off N) := by
  induction n with
  | zero =>
    intro m i out hn hm hi hge ho
    obtain ⟨m, rfl⟩ : ∃ q, m = q + 1 := ⟨m - 1, by omega⟩
    unfold sparse_Read.l0
    rw [if_neg (by omega), ho, List.take_of_length_le (by omega)]
    rfl
  | succ n ih =>
    intro m i out hn hm hi hge ho
    obtain ⟨m, rfl⟩ : ∃ q, m = q + 1 := ⟨m - 1, by omega⟩
    have hos : out.size = N := by rw [ho, mkB_size]
    unfold sparse_Read.l0
    rw [hos]
    by_cases hz : N = 0
    · rw [if_neg (by omega)]
      subst hz
      rw [ho]
      rfl
    · have hilt : i < l.length := by omega
      obtain ⟨p, hpe⟩ : ∃ p, rd_T39 l (i : Int) = p := ⟨_, rfl⟩
      have hpm := rd_mem l i hilt
      have hg := hge i (Nat.le_refl _) hilt
      have hlow : ∀ x ∈ l.take i, x.f0 < p.f0 := fun x hx => by
        obtain ⟨j, a1, a2, rfl⟩ := mem_take_rd hx
        rw [← hpe]
        exact rise_rd hr a1 hilt
      have hstep : ∀ q : Int, atL (l.take (i + 1)) q = if p.f0 = q / 64 then bt p.f1 (q % 64) else atL (l.take i) q := fun q => by
        rw [take_snoc l i hilt, hpe]
        exact at_snoc (fun x hx => by have := hlow x hx; omega)
      rw [hpe] at hpm hg ⊢
      have hq := hp p hpm
      rw [if_pos (by omega), if_pos (by omega)]
      have hbo : ∀ k : Nat, k < N → bt out (k : Int) = atL (l.take i) (off + (k : Int)) := fun k hk => by
        rw [ho, bt_mkB N _ (fun _ _ => at_range _ _) k hk]
      by_cases c1 : p.f0 * 64 - off ≥ (N : Int)
      · rw [if_pos c1, ho]
        congr 1
        refine mkB_congr (fun k hk => ?_)
        have hsp := (List.take_append_drop i l).symm
        have := at_app (a := l.take i) (b := l.drop i) (q := off + (k : Int)) (fun x hx => by
          obtain ⟨j, a1, a2, rfl⟩ := mem_drop_rd hx
          have := rise_rd_le hr a1 a2
          rw [hpe] at this
          omega)
        rw [← hsp] at this
        exact this.symm
      · rw [if_neg c1]
        by_cases c2 : p.f0 * 64 - off < 0
        · rw [if_pos c2, if_pos (by omega)]
          refine ih m (i + 1) _ (by omega) (by omega) (by omega) (fun j a1 a2 => hge j (by omega) a2) ?_
          refine eq_mkB _ N _ ((sparse_Read.lay_size _ _ _ (by omega)).trans hos) (fun k hk => ?_)
          have hes : (p.f1.extract (off - p.f0 * 64).toNat p.f1.size).size = 64 - (off - p.f0 * 64).toNat := by rw [ByteArray.size_extract, hq.1]; omega
          rw [rlay_bt _ _ _ k (by omega) (by omega), hstep, hes]
          by_cases c3 : p.f0 = (off + (k : Int)) / 64
          · rw [if_pos c3, if_pos (by omega), bt_extract _ _ _ _ (by rw [hes]; omega)]
            congr 1
            omega
          · rw [if_neg c3, if_neg (by omega), hbo k hk]
        · rw [if_neg c2]
          refine ih m (i + 1) _ (by omega) (by omega) (by omega) (fun j a1 a2 => hge j (by omega) a2) ?_
          refine eq_mkB _ N _ ((sparse_Read.lay_size _ _ _ (by omega)).trans hos) (fun k hk => ?_)
          rw [rlay_bt _ _ _ k (by omega) (by omega), hstep, hq.1]
          by_cases c3 : p.f0 = (off + (k : Int)) / 64
          · rw [if_pos c3, if_pos (by omega)]
            congr 1
            omega
          · rw [if_neg c3, if_neg (by omega), hbo k hk]
/-- What Read answers. -/
theorem read_f (l : List Pc) (size off n : Int) (hl : l.length ≤ 1000000) (ho : off ≤ 9223372036854775807) (k : Nat) (hk : 2 * l.length + 2 < k) :
    sparse_Read.f k l size off n = some (if goodB l size = true then (if off < 0 ∨ n < 0 ∨ n > 4096 then (⟨#[]⟩, 1) else (readL l off (max (min n (size - off)) 0).toNat, 0)) else (⟨#[]⟩, 21)) := by
  unfold sparse_Read.f
  rw [check_f l size (by omega) k (by omega), Option.bind_some]
  by_cases g : goodB l size = true
  · have hg := (goodB_iff _ _).1 g
    rw [if_pos g, if_pos g, if_neg (by decide)]
    by_cases c1 : off < 0 ∨ n < 0 ∨ n > 4096
    · rw [if_pos c1, if_pos c1]
    · have hpp : ∀ p ∈ l, p.f1.size = 64 ∧ 0 ≤ p.f0 ∧ p.f0 ≤ 72057594037927936 := fun p hp => ⟨hg.sz p hp, (hg.idx p hp).1, by have := (hg.idx p hp).2; have := hg.hi; omega⟩
      rw [if_neg c1, if_neg c1, if_pos ⟨hg.lo, hg.hi, ho⟩, tdiv0 (by omega), find_f l (off / 64) hg.rise (by omega) (by omega) (by omega) (fun p hp => ⟨(hpp p hp).2.1, by have := (hpp p hp).2.2; omega⟩) k (by omega), Option.bind_some]
      have hlb := lb_le l (off / 64)
      rw [read_l0 l off (max (min n (size - off)) 0).toNat (by omega) hg.rise (by omega) hpp (by omega) (l.length - lb l (off / 64)) k (lb l (off / 64)) _ rfl (by omega) hlb (fun j a1 a2 => lb_ge hg.rise _ j a1 a2) ?_, Option.bind_some]
      refine eq_mkB _ _ _ (by show (List.replicate _ (0 : UInt8)).toArray.size = _; rw [List.size_toArray, List.length_replicate]) (fun i hi => ?_)
      rw [bt_getD]
      show ((((List.replicate _ (0 : UInt8)).toArray.toList[i]?).getD 0).toNat : Int) = _
      rw [List.toList_toArray, List.getElem?_replicate, if_pos hi, at_none]
      · rfl
      · intro x hx
        obtain ⟨j, a1, a2, rfl⟩ := mem_take_rd hx
        have := lb_lt l (off / 64) j a1
        omega
  · rw [if_neg g, if_neg g, if_pos (by decide)]
end Go.Proofs.YtgnffienfjigiaaDoor.SpP
/-! The program's Truncate and Punch. -/
set_option linter.unusedVariables false
set_option linter.unusedSimpArgs false
namespace Go.Proofs.YtgnffienfjigiaaDoor.SpP
open Go.RowKit Go.Proofs.YtgnffienfjigiaaDoor.PA Go.Proofs.YtgnffienfjigiaaDoorW.PrintWords Go.Proofs.YtgnffienfjigiaaDoorW.PrintMore
open Go.Proofs.YtgnffienfjigiaaDoor.Plain
theorem zer_bt (p : Pc) (lo hi k : Nat) (hp : p.f1.size = 64) (h : lo ≤ hi) (h2 : hi ≤ 64) (hk : k < 64) : bt (sparse_Truncate.zer p lo hi) (k : Int) = if lo ≤ k ∧ k < hi then 0 else bt p.f1 (k : Int) := by
  have hbl : p.f1.data.toList.length = 64 := by rw [Array.length_toList]; exact hp
  have htk : (p.f1.data.toList.take lo).length = lo := by rw [List.length_take]; omega
  have e : bt (sparse_Truncate.zer p lo hi) (k : Int) = ((((p.f1.data.toList.take lo ++ (List.replicate (hi - lo) (0 : UInt8) ++ p.f1.data.toList.drop (lo + (List.replicate (hi - lo) (0 : UInt8)).length)))[k]?).getD 0).toNat : Int) := by
    rw [bt_getD]
    rfl
  rw [e, List.length_replicate]
  clear e
  rcases Nat.lt_or_ge k lo with c1 | c1
  · rw [List.getElem?_append_left (by omega), List.getElem?_take_of_lt c1, ← bt_getD, if_neg (by omega)]
  · rw [List.getElem?_append_right (by omega), htk]
    rcases Nat.lt_or_ge (k - lo) (hi - lo) with c2 | c2
    · rw [List.getElem?_append_left (by rw [List.length_replicate]; exact c2), List.getElem?_replicate, if_pos c2, if_pos (by omega)]
      rfl
    · rw [List.getElem?_append_right (by rw [List.length_replicate]; exact c2), List.getElem?_drop, List.length_replicate, show lo + (hi - lo) + (k - lo - (hi - lo)) = k by omega, ← bt_getD, if_neg (by omega)]
theorem clr_eq (a b : Int) (p : Pc) (hp : p.f1.size = 64) : sparse_Truncate.clr a b p = clr a b p := by
  refine pc_ext rfl ?_
  show (if sparse_Truncate.lo a p < sparse_Truncate.hi b p then sparse_Truncate.zer p (sparse_Truncate.lo a p).toNat (sparse_Truncate.hi b p).toNat else p.f1) = mkB 64 _
  have h0 : sparse_Truncate.lo a p = max (a - p.f0 * 64) 0 := rfl
  have h1 : sparse_Truncate.hi b p = min (b - p.f0 * 64) 64 := rfl
  by_cases c : sparse_Truncate.lo a p < sparse_Truncate.hi b p
  · rw [if_pos c]
    refine eq_mkB _ 64 _ (sparse_Truncate.zer_size p _ _ hp (by omega) (by omega)) (fun k hk => ?_)
    rw [zer_bt p _ _ k hp (by omega) (by omega) hk]
    by_cases c2 : a ≤ p.f0 * 64 + (k : Int) ∧ p.f0 * 64 + (k : Int) < b
    · rw [if_pos c2, if_pos (by omega)]
    · rw [if_neg c2, if_neg (by omega)]
  · rw [if_neg c]
    refine eq_mkB _ 64 _ hp (fun k hk => ?_)
    rw [if_neg (by omega)]
theorem cut_eq (l : List Pc) (a b : Int) (gone : Int → Bool) (hp : ∀ p ∈ l, p.f1.size = 64) : sparse_Truncate.cut l a b gone = cutL l a b gone := by
  unfold sparse_Truncate.cut cutL
  apply List.map_congr_left
  intro p h
  exact clr_eq a b p (hp p (List.mem_filter.1 h).1)
theorem ok_good {l : List Pc} {size : Int} (h : Good l size) (hl : l.length ≤ 1000000) : sparse_Truncate.okB l = true := by
  unfold sparse_Truncate.okB
  rw [Bool.and_eq_true, List.all_eq_true, decide_eq_true_iff]
  refine ⟨by omega, fun p hp => decide_eq_true ⟨(h.idx p hp).1, ?_, h.sz p hp⟩⟩
  have := (h.idx p hp).2
  have := h.hi
  omega
theorem trunc_f (l : List Pc) (size n : Int) (hl : l.length ≤ 1000000) (k : Nat) (hk : 2 * l.length + 1 < k) : sparse_Truncate.f k l size n = some (if goodB l size = true then (if n < 0 then ([], 0, 1) else if n > 4611686018427387904 then ([], 0, 130) else (truncL l n, n, 0)) else ([], 0, 21)) := by
  unfold sparse_Truncate.f
  rw [check_f l size (by omega) k (by omega), Option.bind_some]
  by_cases g : goodB l size = true
  · have hg := (goodB_iff _ _).1 g
    rw [if_pos g, if_pos g, if_neg (by decide)]
    by_cases c1 : n < 0
    · rw [if_pos c1, if_pos c1]
    · rw [if_neg c1, if_neg c1]
      by_cases c2 : n > 4611686018427387904
      · rw [if_pos c2, if_pos c2]
      · rw [if_neg c2, if_neg c2, if_pos (ok_good hg hl), cut_eq _ _ _ _ hg.sz]
        rfl
  · rw [if_neg g, if_neg g, if_pos (by decide)]
theorem punch_f (l : List Pc) (size off n : Int) (hl : l.length ≤ 1000000) (k : Nat) (hk : 2 * l.length + 1 < k) : sparse_Punch.f k l size off n = some (if goodB l size = true then (if off < 0 ∨ n < 0 then ([], 1) else (punchL l size off n, 0)) else ([], 21)) := by
  unfold sparse_Punch.f
  rw [check_f l size (by omega) k (by omega), Option.bind_some]
  by_cases g : goodB l size = true
  · have hg := (goodB_iff _ _).1 g
    rw [if_pos g, if_pos g, if_neg (by decide)]
    by_cases c1 : off < 0 ∨ n < 0
    · rw [if_pos c1, if_pos c1]
    · rw [if_neg c1, if_neg c1, if_pos ⟨ok_good hg hl, hg.lo, hg.hi⟩, cut_eq _ _ _ _ hg.sz]
      rfl
  · rw [if_neg g, if_neg g, if_pos (by decide)]
theorem cut_len (l : List Pc) (a b : Int) (gone : Int → Bool) : (cutL l a b gone).length ≤ l.length := by
  unfold cutL
  rw [List.length_map]
  exact List.length_filter_le _ _
end Go.Proofs.YtgnffienfjigiaaDoor.SpP
/-! The document's at, Read, put and Write. -/
set_option linter.unusedVariables false
set_option linter.unusedSimpArgs false
namespace Go.Proofs.YtgnffienfjigiaaDoor.SpP
open Go.RowKit Go.Proofs.YtgnffienfjigiaaDoor.PA Go.Proofs.YtgnffienfjigiaaDoorW.PrintWords Go.Proofs.YtgnffienfjigiaaDoorW.PrintMore
open Go.Proofs.YtgnffienfjigiaaDoor.Plain
theorem rat_l0 (l : List Pc) (q : Int) (hq : 0 ≤ q) (hq2 : q ≤ 9223372036854775807) (hl : l.length ≤ 1000000000) (hs : ∀ p ∈ l, p.f1.size = 64) (n : Nat) : ∀ (k j : Nat), n = l.length - j → n < k → j ≤ l.length →
    coppiceref13_at.l0 k l q (j : Int) = some (atL (l.drop j) q) := by
  induction n with
  | zero =>
    intro k j hn hk hj
    obtain ⟨k, rfl⟩ : ∃ q, k = q + 1 := ⟨k - 1, by omega⟩
    simp only [coppiceref13_at.l0]
    rw [if_neg (by omega), List.drop_of_length_le (by omega)]
    rfl
  | succ n ih =>
    intro k j hn hk hj
    obtain ⟨k, rfl⟩ : ∃ q, k = q + 1 := ⟨k - 1, by omega⟩
    have nxt := ih k (j + 1) (by omega) (by omega) (by omega)
    simp only [coppiceref13_at.l0]
    have hm := hs _ (rd_mem l j (by omega))
    rw [if_pos (by omega), if_pos (by omega), dropP l j (by omega), at_cons, tdiv0 hq, tmod0 hq, w64 (x := q / 64) (by omega) (by omega), w1 (by omega), nxt]
    by_cases c : (rd_T39 l (j : Int)).f0 = q / 64
    · rw [if_pos c, if_pos c, if_pos (by omega), if_pos (by omega)]
    · rw [if_neg c, if_neg c]
theorem rat_f (l : List Pc) (q : Int) (hq : 0 ≤ q) (hq2 : q ≤ 9223372036854775807) (hl : l.length ≤ 1000000000) (hs : ∀ p ∈ l, p.f1.size = 64) (k : Nat) (hk : l.length < k) : coppiceref13_at.f k l q = some (atL l q) := by
  unfold coppiceref13_at.f
  rw [show (0 : Int) = ((0 : Nat) : Int) from rfl, rat_l0 l q hq hq2 hl hs l.length k 0 (by omega) hk (by omega), List.drop_zero]
theorem mkB_snoc (n : Nat) (g : Nat → Int) : (List.range (n + 1)).map g = (List.range n).map g ++ [g n] := by
  rw [List.range_succ, List.map_append]
  rfl
theorem rread_l0 (l : List Pc) (size off n : Int) (N : Nat) (hN : (max (min n (size - off)) 0).toNat = N) (h0 : 0 ≤ off) (hn0 : 0 ≤ n) (hn : n ≤ 4096) (hz : 0 ≤ size) (hsz : size ≤ 4611686018427387904) (hl : l.length ≤ 1000000) (hs : ∀ p ∈ l, p.f1.size = 64) (m : Nat) : ∀ (k j : Nat), m = N - j → m + l.length + 1 < k → j ≤ N →
    coppiceref13_Read.l0 k l size off n ((List.range j).map fun (i : Nat) => atL l (off + (i : Int))) (j : Int) = some (readL l off N, 0) := by
  induction m with
  | zero =>
    intro k j hm hk hj
    obtain ⟨k, rfl⟩ : ∃ q, k = q + 1 := ⟨k - 1, by omega⟩
    obtain rfl : j = N := by omega
    simp only [coppiceref13_Read.l0]
    by_cases c : (j : Int) < n
    · rw [if_pos c, w64 (x := size - (j : Int)) (by omega) (by omega), if_neg (by omega)]
      rfl
    · rw [if_neg c]
      rfl
  | succ m ih =>
    intro k j hm hk hj
    obtain ⟨k, rfl⟩ : ∃ q, k = q + 1 := ⟨k - 1, by omega⟩
    have nxt := ih k (j + 1) (by omega) (by omega) (by omega)
    rw [mkB_snoc] at nxt
    simp only [coppiceref13_Read.l0]
    rw [if_pos (by omega), w64 (x := size - (j : Int)) (by omega) (by omega), if_pos (by omega), w64 (x := off + (j : Int)) (by omega) (by omega), rat_f l _ (by omega) (by omega) (by omega) hs k (by omega), Option.bind_some, if_pos (by rw [List.length_map, List.length_range]; omega), w1 (by omega)]
    exact nxt
theorem rread_f (l : List Pc) (size off n : Int) (hl : l.length ≤ 1000000) (k : Nat) (hk : 67 * l.length + 5000 < k) :
    coppiceref13_Read.f k l size off n = some (if goodB l size = true then (if off < 0 ∨ n < 0 ∨ n > 4096 then (⟨#[]⟩, 1) else (readL l off (max (min n (size - off)) 0).toNat, 0)) else (⟨#[]⟩, 21)) := by
  unfold coppiceref13_Read.f
  rw [rcheck_f l size (by omega) k (by omega), Option.bind_some]
  obtain ⟨k, rfl⟩ : ∃ q, k = q + 1 := ⟨k - 1, by omega⟩
  by_cases g : goodB l size = true
  · have hg := (goodB_iff _ _).1 g
    have hlo := hg.lo
    have hhi := hg.hi
    rw [if_pos g, if_pos g, if_pos rfl]
    have ht : coppiceref13_Read.j0 (k + 1) l size off n true = some (⟨#[]⟩, 1) := by
      simp only [coppiceref13_Read.j0]
      rw [if_pos trivial]
    by_cases c1 : off < 0
    · rw [if_pos c1, ht, if_pos (.inl c1)]
    rw [if_neg c1]
    by_cases c2 : n < 0
    · rw [if_pos c2, ht, if_pos (.inr (.inl c2))]
    rw [if_neg c2]
    by_cases c3 : n > 4096
    · rw [decide_eq_true c3, ht, if_pos (.inr (.inr c3))]
    rw [decide_eq_false c3, if_neg (by omega)]
    simp only [coppiceref13_Read.j0]
    rw [if_neg (by decide)]
    exact rread_l0 l size off n _ rfl (by omega) (by omega) (by omega) hlo hhi hl hg.sz _ k 0 rfl (by omega) (by omega)
  · rw [if_neg g, if_neg g, if_neg (by decide)]
/-! put -/
theorem rput_l1 (l : List Pc) (hl : l.length ≤ 1000000) (i : Int) (b : ByteArray) (n : Nat) : ∀ (k j : Nat) (out : List Pc), n = l.length - j → n < k → j ≤ l.length → out.length ≤ 10000000 + j →
    coppiceref13_put.l1 k l out (j : Int) i b = some (out ++ (l.drop j).filter fun p => decide (p.f0 ≠ i)) := by
  induction n with
  | zero =>
    intro k j out hn hk hj ho
    obtain ⟨k, rfl⟩ : ∃ q, k = q + 1 := ⟨k - 1, by omega⟩
    simp only [coppiceref13_put.l1]
    rw [if_neg (by omega), List.drop_of_length_le (by omega), List.filter_nil, List.append_nil]
  | succ n ih =>
    intro k j out hn hk hj ho
    obtain ⟨k, rfl⟩ : ∃ q, k = q + 1 := ⟨k - 1, by omega⟩
    simp only [coppiceref13_put.l1]
    rw [if_pos (by omega), if_pos (by omega), dropP l j (by omega), w1 (by omega)]
    obtain ⟨p, hp⟩ : ∃ p, rd_T39 l (j : Int) = p := ⟨_, rfl⟩
    rw [hp]
    by_cases c : p.f0 = i
    · rw [if_pos c, ih k (j + 1) out (by omega) (by omega) (by omega) (by omega), List.filter_cons_of_neg (by simp [c])]
    · rw [if_neg c, if_pos (by omega), List.filter_cons_of_pos (by simp [c])]
      have := ih k (j + 1) (out ++ [p]) (by omega) (by omega) (by omega) (by rw [List.length_append, List.length_singleton]; omega)
      rw [List.append_assoc] at this
      exact this
theorem rput_l0 (l : List Pc) (hl : l.length ≤ 1000000) (i : Int) (b : ByteArray) (hr : Rise l) (n : Nat) : ∀ (k j : Nat), n = l.length - j → 2 * n + 2 < k → j ≤ l.length → (∀ q : Nat, q < j → (rd_T39 l (q : Int)).f0 < i) →
    coppiceref13_put.l0 k l (l.take j) (j : Int) i b = some (putL ⟨i, b⟩ l) := by
  have hend : ∀ (k j : Nat), j ≤ l.length → l.length - j + 1 < k → (∀ q : Nat, q < j → (rd_T39 l (q : Int)).f0 < i) → (∀ q : Nat, j ≤ q → q < l.length → i ≤ (rd_T39 l (q : Int)).f0) → coppiceref13_put.j1 k l (l.take j) (j : Int) i b = some (putL ⟨i, b⟩ l) := by
    intro k j hj hk h1 h2
    obtain ⟨k, rfl⟩ : ∃ q, k = q + 1 := ⟨k - 1, by omega⟩
    simp only [coppiceref13_put.j1]
    rw [if_pos (by rw [List.length_take]; omega), rput_l1 l hl i b (l.length - j) k j _ rfl (by omega) hj (by rw [List.length_append, List.length_take, List.length_singleton]; omega), List.append_assoc]
    have hlb := lb_is i l j hj h1 h2
    rw [put_eq]
    show some (l.take j ++ (⟨i, b⟩ :: (l.drop j).filter _)) = some (if hasB l i = true then l.set (lb l i) ⟨i, b⟩ else l.take (lb l i) ++ ⟨i, b⟩ :: l.drop (lb l i))
    rw [← hlb]
    by_cases c : hasB l i = true
    · rw [if_pos c]
      obtain ⟨a1, a2, a3⟩ := has_mem c
      rw [← hlb] at a1 a2 a3
      rw [dropP l j a1, List.filter_cons_of_neg (by simp [a3])]
      have hall : (l.drop (j + 1)).filter (fun p => decide (p.f0 ≠ i)) = l.drop (j + 1) := by
        rw [List.filter_eq_self]
        intro p hp
        obtain ⟨q, hq⟩ := List.mem_iff_getElem.1 hp
        obtain ⟨hq1, hq2⟩ := hq
        rw [List.length_drop] at hq1
        have h3 := rise_rd hr (show j < j + 1 + q by omega) (by omega)
        have h4 : rd_T39 l ((j + 1 + q : Nat) : Int) = p := by
          unfold rd_T39
          rw [Int.toNat_natCast, List.getD_eq_getElem?_getD, List.getElem?_eq_getElem (by omega), ← hq2, List.getElem_drop]
          rfl
        rw [h4] at h3
        simp
        omega
      rw [hall, List.set_eq_take_append_cons_drop, if_pos a1]
    · rw [if_neg c]
      have hall : (l.drop j).filter (fun p => decide (p.f0 ≠ i)) = l.drop j := by
        rw [List.filter_eq_self]
        intro p hp
        have := has_none hr c p (List.mem_of_mem_drop hp)
        simp [this]
      rw [hall]
  induction n with
  | zero =>
    intro k j hn hk hj h1
    obtain ⟨k, rfl⟩ : ∃ q, k = q + 1 := ⟨k - 1, by omega⟩
    simp only [coppiceref13_put.l0]
    rw [if_neg (by omega)]
    exact hend k j hj (by omega) h1 (fun q h2 h3 => by omega)
  | succ n ih =>
    intro k j hn hk hj h1
    obtain ⟨k, rfl⟩ : ∃ q, k = q + 1 := ⟨k - 1, by omega⟩
    simp only [coppiceref13_put.l0]
    rw [if_pos (by omega), if_pos (by omega), w1 (by omega)]
    by_cases c : (rd_T39 l (j : Int)).f0 < i
    · rw [if_pos c, if_pos (by rw [List.length_take]; omega)]
      have e : l.take (j + 1) = l.take j ++ [rd_T39 l (j : Int)] := by
        rw [List.take_add_one, List.getElem?_eq_getElem (by omega)]
        unfold rd_T39
        rw [Int.toNat_natCast, List.getD_eq_getElem?_getD, List.getElem?_eq_getElem (by omega)]
        rfl
      have := ih k (j + 1) (by omega) (by omega) (by omega) (fun q hq => by
        by_cases hqj : q = j
        · subst hqj; exact c
        · exact h1 q (by omega))
      rw [e] at this
      exact this
    · rw [if_neg c]
      exact hend k j hj (by omega) h1 (fun q h2 h3 => by
        have := rise_rd_le hr h2 h3
        omega)
theorem rput_f (l : List Pc) (hl : l.length ≤ 1000000) (i : Int) (b : ByteArray) (hr : Rise l) (k : Nat) (hk : 2 * l.length + 2 < k) : coppiceref13_put.f k l i b = some (putL ⟨i, b⟩ l) := by
  unfold coppiceref13_put.f
  have := rput_l0 l hl i b hr l.length k 0 (by omega) hk (by omega) (fun q hq => by omega)
  rw [List.take_zero] at this
  exact this
/-! Write -/
theorem rwrite_l1 (l : List Pc) (size off : Int) (data : ByteArray) (h0 : 0 ≤ off) (h1 : off + (data.size : Int) ≤ 4611686018427387904) (i : Int) (hi0 : 0 ≤ i) (hi1 : i ≤ 72057594037927936) (hl : l.length ≤ 1000000) (hr : Rise l) (hs : ∀ p ∈ l, p.f1.size = 64) (n : Nat) : ∀ (k j : Nat), n = 64 - j → n + 2 * l.length + 10 < k → j ≤ 64 →
    ∃ k', k ≤ k' + n + 1 ∧ k' < k ∧ coppiceref13_Write.l1 k l size off data i ((List.range j).map fun (q : Nat) => fill l off data (i * 64 + (q : Int))) (j : Int) = coppiceref13_Write.l0 k' (putL (pieceW l off data i) l) size off data (wrap64 (i + 1)) := by
  induction n with
  | zero =>
    intro k j hn hk hj
    obtain ⟨k, rfl⟩ : ∃ q, k = q + 1 := ⟨k - 1, by omega⟩
    obtain rfl : j = 64 := by omega
    refine ⟨k, by omega, by omega, ?_⟩
    simp only [coppiceref13_Write.l1]
    rw [if_neg (by omega), rput_f l hl i _ hr k (by omega), Option.bind_some]
    rfl
  | succ n ih =>
    intro k j hn hk hj
    obtain ⟨k, rfl⟩ : ∃ q, k = q + 1 := ⟨k - 1, by omega⟩
    obtain ⟨k', a1, a2, nxt⟩ := ih k (j + 1) (by omega) (by omega) (by omega)
    rw [mkB_snoc] at nxt
    refine ⟨k', by omega, by omega, ?_⟩
    simp only [coppiceref13_Write.l1]
    have hlen : ((List.range j).map fun (q : Nat) => fill l off data (i * 64 + (q : Int))).length < 140737488355328 := by rw [List.length_map, List.length_range]; omega
    rw [if_pos (by omega), w64 (x := i * 64) (by omega) (by omega), w64 (x := i * 64 + (j : Int)) (by omega) (by omega), w1 (by omega), if_pos hlen, rat_f l _ (by omega) (by omega) (by omega) hs k (by omega), Option.bind_some]
    by_cases c1 : i * 64 + (j : Int) ≥ off
    · rw [if_pos c1, w64 (x := i * 64 + (j : Int) - off) (by omega) (by omega)]
      by_cases c2 : i * 64 + (j : Int) - off < (data.size : Int)
      · have e : fill l off data (i * 64 + (j : Int)) = bt data (i * 64 + (j : Int) - off) := by unfold fill; rw [if_pos (by omega)]
        rw [e] at nxt
        rw [if_pos c2, if_pos (by omega)]
        exact nxt
      · have e : fill l off data (i * 64 + (j : Int)) = atL l (i * 64 + (j : Int)) := by unfold fill; rw [if_neg (by omega)]
        rw [e] at nxt
        rw [if_neg c2, if_pos hlen]
        exact nxt
    · have e : fill l off data (i * 64 + (j : Int)) = atL l (i * 64 + (j : Int)) := by unfold fill; rw [if_neg (by omega)]
      rw [e] at nxt
      rw [if_neg c1, if_pos hlen]
      exact nxt
theorem rwrite_l0 (size off : Int) (data : ByteArray) (h0 : 0 ≤ off) (h1 : off + (data.size : Int) ≤ 4611686018427387904) (hd : 0 < data.size) (n : Nat) : ∀ (k : Nat) (i : Int) (l : List Pc), 0 ≤ i → (n : Int) = (off + (data.size : Int) - 1) / 64 - i + 1 → 70 * n + 2 * (l.length + n) + 100 < k → l.length + n ≤ 1000000 → Rise l → (∀ p ∈ l, p.f1.size = 64) →
    coppiceref13_Write.l0 k l size off data i = some (writeFrom off data n i l, max size (off + (data.size : Int)), 0) := by
  induction n with
  | zero =>
    intro k i l hi hn hk hl hr hs
    obtain ⟨k, rfl⟩ : ∃ q, k = q + 1 := ⟨k - 1, by omega⟩
    simp only [coppiceref13_Write.l0]
    rw [w64 (x := off + (data.size : Int)) (by omega) (by omega), w64 (x := off + (data.size : Int) - 1) (by omega) (by omega), tdiv0 (by omega), w64 (x := (off + (data.size : Int) - 1) / 64) (by omega) (by omega), if_neg (by omega)]
    have : mx size (off + (data.size : Int)) = max size (off + (data.size : Int)) := by unfold mx; omega
    rw [this]
    rfl
  | succ n ih =>
    intro k i l hi hn hk hl hr hs
    obtain ⟨k, rfl⟩ : ∃ q, k = q + 1 := ⟨k - 1, by omega⟩
    simp only [coppiceref13_Write.l0]
    rw [w64 (x := off + (data.size : Int)) (by omega) (by omega), w64 (x := off + (data.size : Int) - 1) (by omega) (by omega), tdiv0 (by omega), w64 (x := (off + (data.size : Int) - 1) / 64) (by omega) (by omega), if_pos (by omega)]
    obtain ⟨k', a1, a2, e⟩ := rwrite_l1 l size off data h0 h1 i hi (by omega) (by omega) hr hs 64 k 0 rfl (by omega) (by omega)
    have e' : coppiceref13_Write.l1 k l size off data i [] 0 = coppiceref13_Write.l0 k' (putL (pieceW l off data i) l) size off data (wrap64 (i + 1)) := e
    have hp := put_len (pieceW l off data i) l
    rw [e', w64 (x := i + 1) (by omega) (by omega), ih k' (i + 1) _ (by omega) (by omega) (by omega) (by omega) (rise_put hr) (fun p h => by
      rcases mem_put h with rfl | h
      · exact mkB_size _ _
      · exact hs p h)]
    rfl
theorem rwrite_f (l : List Pc) (size off : Int) (data : ByteArray) (hl : l.length ≤ 100000) (k : Nat) (hk : 67 * l.length + 20000 < k) :
    coppiceref13_Write.f k l size off data = some (if goodB l size = true then (if off < 0 ∨ (data.size : Int) > 4096 then ([], 0, 1) else if off > 4611686018427387904 - (data.size : Int) then ([], 0, 130) else (writeL l off data, if data.size = 0 then size else max size (off + (data.size : Int)), 0)) else ([], 0, 21)) := by
  unfold coppiceref13_Write.f
  rw [rcheck_f l size (by omega) k (by omega), Option.bind_some]
  obtain ⟨k, rfl⟩ : ∃ q, k = q + 1 := ⟨k - 1, by omega⟩
  by_cases g : goodB l size = true
  · have hg := (goodB_iff _ _).1 g
    have hlo := hg.lo
    have hhi := hg.hi
    rw [if_pos g, if_pos g, if_pos rfl]
    have ht : coppiceref13_Write.j0 (k + 1) l size off data true = some ([], 0, 1) := by
      simp only [coppiceref13_Write.j0]
      rw [if_pos trivial]
    by_cases c1 : off < 0
    · rw [if_pos c1, ht, if_pos (.inl c1)]
    rw [if_neg c1]
    by_cases c2 : (data.size : Int) > 4096
    · rw [decide_eq_true c2, ht, if_pos (.inr c2)]
    rw [decide_eq_false c2, if_neg (by omega)]
    simp only [coppiceref13_Write.j0]
    rw [if_neg (by decide), w64 (x := 4611686018427387904 - (data.size : Int)) (by omega) (by omega)]
    by_cases c3 : off > 4611686018427387904 - (data.size : Int)
    · rw [if_pos c3, if_pos c3]
    rw [if_neg c3, if_neg c3, Option.bind_some, if_pos (by simp; omega), Option.bind_some, List.nil_append]
    by_cases z : data.size = 0
    · have hz : data.toList = ([] : List UInt8) := by
        rw [ByteArray.toList_eq]
        exact List.length_eq_zero_iff.1 (by rw [Array.length_toList]; exact z)
      rw [if_pos hz, if_pos z]
      unfold writeL countW
      rw [if_pos z]
      rfl
    · have hz : ¬ data.toList = ([] : List UInt8) := by
        rw [ByteArray.toList_eq]
        intro h
        apply z
        show data.data.size = 0
        rw [← Array.length_toList, h]
        rfl
      have hc : countW off data = ((off + (data.size : Int) - 1) / 64 - off / 64 + 1).toNat := by unfold countW; rw [if_neg z]
      rw [if_neg hz, if_neg z, tdiv0 (by omega), w64 (x := off / 64) (by omega) (by omega), rwrite_l0 size off data (by omega) (by omega) (by omega) (countW off data) k (off / 64) l (by omega) (by omega) (by omega) (by omega) hg.rise hg.sz]
      rfl
  · rw [if_neg g, if_neg g, if_neg (by decide)]
end Go.Proofs.YtgnffienfjigiaaDoor.SpP
/-! The document's Truncate, Punch; Same. -/
set_option linter.unusedVariables false
set_option linter.unusedSimpArgs false
namespace Go.Proofs.YtgnffienfjigiaaDoor.SpP
open Go.RowKit Go.Proofs.YtgnffienfjigiaaDoor.PA Go.Proofs.YtgnffienfjigiaaDoorW.PrintWords Go.Proofs.YtgnffienfjigiaaDoorW.PrintMore
open Go.Proofs.YtgnffienfjigiaaDoor.Plain
theorem mapR_snoc (n : Nat) (g : Nat → Int) : (List.range (n + 1)).map g = (List.range n).map g ++ [g n] := by
  rw [List.range_succ, List.map_append]
  rfl
theorem cut_take (l : List Pc) (j : Nat) (hj : j < l.length) (a b : Int) (gone : Int → Bool) : cutL (l.take (j + 1)) a b gone = if gone (rd_T39 l (j : Int)).f0 = true then cutL (l.take j) a b gone else cutL (l.take j) a b gone ++ [clr a b (rd_T39 l (j : Int))] := by
  have e : l.take (j + 1) = l.take j ++ [rd_T39 l (j : Int)] := by
    rw [List.take_add_one, List.getElem?_eq_getElem hj]
    unfold rd_T39
    rw [Int.toNat_natCast, List.getD_eq_getElem?_getD, List.getElem?_eq_getElem hj]
    rfl
  rw [e]
  unfold cutL
  rw [List.filter_append, List.map_append]
  by_cases h : gone (rd_T39 l (j : Int)).f0 = true
  · rw [if_pos h]
    simp [h]
  · rw [if_neg h]
    simp [h]
theorem cut_take_len (l : List Pc) (j : Nat) (a b : Int) (gone : Int → Bool) : (cutL (l.take j) a b gone).length ≤ l.length := by
  refine Nat.le_trans (cut_len _ _ _ _) ?_
  rw [List.length_take]
  omega
theorem rtrunc_l1 (l : List Pc) (n : Int) (hl : l.length ≤ 1000000) (out : List Pc) (ho : out.length ≤ 1000000) (j : Nat) (hj : j < l.length) (p : Pc) (hp : rd_T39 l (j : Int) = p) (h0 : 0 ≤ p.f0) (h1 : p.f0 ≤ 72057594037927936) (h64 : p.f1.size = 64) (m : Nat) : ∀ (k i : Nat), m = 64 - i → m + 2 < k → i ≤ 64 →
    ∃ k', k ≤ k' + m + 1 ∧ k' < k ∧ coppiceref13_Truncate.l1 k l n out (j : Int) ((List.range i).map fun (q : Nat) => if n ≤ p.f0 * 64 + (q : Int) then 0 else bt p.f1 (q : Int)) (i : Int) = coppiceref13_Truncate.l0 k' l n (out ++ [⟨p.f0, mkB 64 fun (q : Nat) => if n ≤ p.f0 * 64 + (q : Int) then 0 else bt p.f1 (q : Int)⟩]) (wrap64 ((j : Int) + 1)) := by
  induction m with
  | zero =>
    intro k i hm hk hi
    obtain ⟨k, rfl⟩ : ∃ q, k = q + 1 := ⟨k - 1, by omega⟩
    obtain rfl : i = 64 := by omega
    refine ⟨k, by omega, by omega, ?_⟩
    simp only [coppiceref13_Truncate.l1]
    rw [if_neg (by omega), if_pos (by omega), if_pos (by omega), if_pos (by omega), hp]
    rfl
  | succ m ih =>
    intro k i hm hk hi
    obtain ⟨k, rfl⟩ : ∃ q, k = q + 1 := ⟨k - 1, by omega⟩
    obtain ⟨k', a1, a2, nxt⟩ := ih k (i + 1) (by omega) (by omega) (by omega)
    rw [mapR_snoc] at nxt
    refine ⟨k', by omega, by omega, ?_⟩
    have hlen : ((List.range i).map fun (q : Nat) => if n ≤ p.f0 * 64 + (q : Int) then 0 else bt p.f1 (q : Int)).length < 140737488355328 := by rw [List.length_map, List.length_range]; omega
    simp only [coppiceref13_Truncate.l1]
    rw [if_pos (by omega), if_pos (by omega), if_pos (by omega), hp, w64 (x := p.f0 * 64) (by omega) (by omega), w64 (x := p.f0 * 64 + (i : Int)) (by omega) (by omega), w1 (by omega)]
    by_cases c : p.f0 * 64 + (i : Int) < n
    · rw [if_neg (by omega)] at nxt
      rw [if_pos c, if_pos (by omega), if_pos (by omega), if_pos hlen]
      exact nxt
    · rw [if_pos (by omega)] at nxt
      rw [if_neg c, if_pos hlen]
      exact nxt
theorem rtrunc_l0 (l : List Pc) (n : Int) (hl : l.length ≤ 1000000) (hn0 : 0 ≤ n) (hn : n ≤ 4611686018427387904) (hp : ∀ p ∈ l, 0 ≤ p.f0 ∧ p.f0 < 72057594037927936 ∧ p.f1.size = 64) (m : Nat) : ∀ (k j : Nat), m = l.length - j → 70 * m + 100 < k → j ≤ l.length →
    coppiceref13_Truncate.l0 k l n (cutL (l.take j) n 4611686018427387904 (fun i => decide (i * 64 ≥ n))) (j : Int) = some (truncL l n, n, 0) := by
  induction m with
  | zero =>
    intro k j hm hk hj
    obtain ⟨k, rfl⟩ : ∃ q, k = q + 1 := ⟨k - 1, by omega⟩
    simp only [coppiceref13_Truncate.l0]
    rw [if_neg (by omega), List.take_of_length_le (by omega)]
    rfl
  | succ m ih =>
    intro k j hm hk hj
    obtain ⟨k, rfl⟩ : ∃ q, k = q + 1 := ⟨k - 1, by omega⟩
    obtain ⟨p, hpe⟩ : ∃ p, rd_T39 l (j : Int) = p := ⟨_, rfl⟩
    have hq := hp p (by rw [← hpe]; exact rd_mem l j (by omega))
    have hsn := cut_take l j (by omega) n 4611686018427387904 (fun i => decide (i * 64 ≥ n))
    rw [hpe] at hsn
    simp only [coppiceref13_Truncate.l0]
    rw [if_pos (by omega), if_pos (by omega), hpe, w64 (x := p.f0 * 64) (by omega) (by omega)]
    by_cases c : p.f0 * 64 ≥ n
    · rw [if_pos (decide_eq_true c)] at hsn
      rw [if_pos c, w1 (by omega), ← hsn]
      exact ih k (j + 1) (by omega) (by omega) (by omega)
    · rw [if_neg (by rw [decide_eq_false c]; decide)] at hsn
      rw [if_neg c]
      obtain ⟨k', a1, a2, e⟩ := rtrunc_l1 l n hl _ (Nat.le_trans (cut_take_len l j n 4611686018427387904 (fun i => decide (i * 64 ≥ n))) hl) j (by omega) p hpe hq.1 (by omega) hq.2.2 64 k 0 rfl (by omega) (by omega)
      have ec : (⟨p.f0, mkB 64 fun (q : Nat) => if n ≤ p.f0 * 64 + (q : Int) then 0 else bt p.f1 (q : Int)⟩ : Pc) = clr n 4611686018427387904 p := by
        refine pc_ext rfl (mkB_congr (fun q hq2 => ?_))
        by_cases c2 : n ≤ p.f0 * 64 + (q : Int)
        · rw [if_pos c2, if_pos ⟨c2, by omega⟩]
        · rw [if_neg c2, if_neg (fun h => c2 h.1)]
      rw [ec, ← hsn, w1 (by omega)] at e
      have e' : coppiceref13_Truncate.l1 k l n (cutL (l.take j) n 4611686018427387904 (fun i => decide (i * 64 ≥ n))) (j : Int) [] 0 = _ := e
      rw [e']
      exact ih k' (j + 1) (by omega) (by omega) (by omega)
theorem good_bounds {l : List Pc} {size : Int} (h : Good l size) : ∀ p ∈ l, 0 ≤ p.f0 ∧ p.f0 < 72057594037927936 ∧ p.f1.size = 64 := fun p hp => by
  have h1 := h.idx p hp
  have h2 := h.hi
  exact ⟨h1.1, by omega, h.sz p hp⟩
theorem rtrunc_f (l : List Pc) (size n : Int) (hl : l.length ≤ 1000000) (k : Nat) (hk : 70 * l.length + 200 < k) : coppiceref13_Truncate.f k l size n = some (if goodB l size = true then (if n < 0 then ([], 0, 1) else if n > 4611686018427387904 then ([], 0, 130) else (truncL l n, n, 0)) else ([], 0, 21)) := by
  unfold coppiceref13_Truncate.f
  rw [rcheck_f l size (by omega) k (by omega), Option.bind_some]
  by_cases g : goodB l size = true
  · have hg := (goodB_iff _ _).1 g
    rw [if_pos g, if_pos g, if_pos rfl]
    by_cases c1 : n < 0
    · rw [if_pos c1, if_pos c1]
    · rw [if_neg c1, if_neg c1]
      by_cases c2 : n > 4611686018427387904
      · rw [if_pos c2, if_pos c2]
      · rw [if_neg c2, if_neg c2]
        exact rtrunc_l0 l n hl (by omega) (by omega) (good_bounds hg) l.length k 0 (by omega) (by omega) (by omega)
  · rw [if_neg g, if_neg g, if_neg (by decide)]
/-! Same -/
theorem same_l (l : List Pc) (hl : l.length ≤ 1000000) (n : Nat) : ∀ k j : Nat, n = l.length - j → n < k → j ≤ l.length → coppiceref13_Same.l0 k l l (j : Int) = some true := by
  induction n with
  | zero =>
    intro k j hn hk hj
    obtain ⟨k, rfl⟩ : ∃ q, k = q + 1 := ⟨k - 1, by omega⟩
    simp only [coppiceref13_Same.l0]; rw [if_neg (by omega)]
  | succ n ih =>
    intro k j hn hk hj
    obtain ⟨k, rfl⟩ : ∃ q, k = q + 1 := ⟨k - 1, by omega⟩
    simp only [coppiceref13_Same.l0]
    rw [if_pos (by omega), if_pos (by omega), if_pos (by omega), if_neg (by simp), w1 (by omega)]
    exact ih k (j + 1) (by omega) (by omega) (by omega)
theorem same_f (l : List Pc) (hl : l.length ≤ 1000000) (k : Nat) (hk : l.length < k) : coppiceref13_Same.f k l l = some true := by
  unfold coppiceref13_Same.f
  rw [if_pos rfl]
  exact same_l l hl l.length k 0 (by omega) hk (by omega)
end Go.Proofs.YtgnffienfjigiaaDoor.SpP
/-! The document's Punch. -/
set_option linter.unusedVariables false
set_option linter.unusedSimpArgs false
namespace Go.Proofs.YtgnffienfjigiaaDoor.SpP
open Go.RowKit Go.Proofs.YtgnffienfjigiaaDoor.PA Go.Proofs.YtgnffienfjigiaaDoorW.PrintWords Go.Proofs.YtgnffienfjigiaaDoorW.PrintMore
open Go.Proofs.YtgnffienfjigiaaDoor.Plain
/-- Is a byte below the size left, among the first ones? -/
def leftB (size off n : Int) (p : Pc) (i : Nat) : Bool := (List.range i).any fun q => decide (p.f0 * 64 + (q : Int) < size) && !(decide (off ≤ p.f0 * 64 + (q : Int)) && decide (p.f0 * 64 + (q : Int) - off < n))
theorem left_snoc (size off n : Int) (p : Pc) (i : Nat) : leftB size off n p (i + 1) = (leftB size off n p i || (decide (p.f0 * 64 + (i : Int) < size) && !(decide (off ≤ p.f0 * 64 + (i : Int)) && decide (p.f0 * 64 + (i : Int) - off < n)))) := by
  unfold leftB
  rw [List.range_succ, List.any_append]
  simp
theorem left_gone {size off n : Int} (p : Pc) (h0 : 0 ≤ off) (hn : 0 ≤ n) (hs : p.f0 * 64 < size) : leftB size off n p 64 = !goneP size off n p.f0 := by
  have key : leftB size off n p 64 = true ↔ ¬ goneP size off n p.f0 = true := by
    rw [goneP_iff]
    unfold leftB
    rw [List.any_eq_true]
    constructor
    · rintro ⟨q, hq, h⟩ ⟨g1, g2, g3⟩
      have hq := List.mem_range.1 hq
      rw [Bool.and_eq_true, Bool.not_eq_true', Bool.and_eq_false_iff, decide_eq_true_iff, decide_eq_false_iff_not, decide_eq_false_iff_not] at h
      unfold loP at g1
      unfold hiP at g2
      omega
    · intro h
      by_cases c1 : loP size off ≤ p.f0 * 64
      · refine ⟨(min size ((p.f0 + 1) * 64) - 1 - p.f0 * 64).toNat, List.mem_range.2 (by omega), ?_⟩
        rw [Bool.and_eq_true, Bool.not_eq_true', Bool.and_eq_false_iff, decide_eq_true_iff, decide_eq_false_iff_not, decide_eq_false_iff_not]
        unfold loP hiP at h
        unfold loP at c1
        refine ⟨by omega, ?_⟩
        by_cases c2 : min size ((p.f0 + 1) * 64) ≤ min off size + min n (size - min off size)
        · exfalso
          apply h
          omega
        · right
          omega
      · refine ⟨0, List.mem_range.2 (by omega), ?_⟩
        rw [Bool.and_eq_true, Bool.not_eq_true', Bool.and_eq_false_iff, decide_eq_true_iff, decide_eq_false_iff_not, decide_eq_false_iff_not]
        unfold loP at c1
        refine ⟨by omega, .inl (by omega)⟩
  rw [Bool.eq_iff_iff, key]
  cases goneP size off n p.f0 <;> simp
def pfill (off n : Int) (p : Pc) (q : Nat) : Int := if off ≤ p.f0 * 64 + (q : Int) ∧ p.f0 * 64 + (q : Int) - off < n then 0 else bt p.f1 (q : Int)
theorem punch_clr {size off n : Int} {p : Pc} (h0 : 0 ≤ off) (hn : 0 ≤ n) (hz : ∀ k : Int, 0 ≤ k → k < 64 → size ≤ p.f0 * 64 + k → bt p.f1 k = 0) : (⟨p.f0, mkB 64 (pfill off n p)⟩ : Pc) = clr (loP size off) (hiP size off n) p := by
  refine pc_ext rfl (mkB_congr (fun q hq => ?_))
  unfold pfill
  by_cases c : p.f0 * 64 + (q : Int) < size
  · by_cases c2 : off ≤ p.f0 * 64 + (q : Int) ∧ p.f0 * 64 + (q : Int) - off < n
    · rw [if_pos c2, if_pos (by unfold loP hiP; omega)]
    · rw [if_neg c2, if_neg (by unfold loP hiP; omega)]
  · have e := hz (q : Int) (by omega) (by omega) (by omega)
    rw [e, ite_self, ite_self]
theorem rpunch_l1 (l : List Pc) (size off n : Int) (hl : l.length ≤ 1000000) (h0 : 0 ≤ off) (hoff : off ≤ 9223372036854775807) (out : List Pc) (ho : out.length ≤ 1000000) (j : Nat) (hj : j < l.length) (p : Pc) (hp : rd_T39 l (j : Int) = p) (hp0 : 0 ≤ p.f0) (hp1 : p.f0 ≤ 72057594037927936) (h64 : p.f1.size = 64) (m : Nat) : ∀ (k i : Nat), m = 64 - i → 3 * m + 2 < k → i ≤ 64 →
    ∃ k', k ≤ k' + 3 * m + 1 ∧ k' < k ∧ coppiceref13_Punch.l1 k l size off n out (j : Int) ((List.range i).map (pfill off n p)) (leftB size off n p i) (i : Int) = coppiceref13_Punch.l0 k' l size off n (if leftB size off n p 64 = true then out ++ [⟨p.f0, mkB 64 (pfill off n p)⟩] else out) (wrap64 ((j : Int) + 1)) := by
  induction m with
  | zero =>
    intro k i hm hk hi
    obtain ⟨k, rfl⟩ : ∃ q, k = q + 1 := ⟨k - 1, by omega⟩
    obtain rfl : i = 64 := by omega
    refine ⟨k, by omega, by omega, ?_⟩
    simp only [coppiceref13_Punch.l1]
    rw [if_neg (by omega)]
    by_cases c : leftB size off n p 64 = true
    · rw [if_pos c, if_pos c, if_pos (by omega), if_pos (by omega), if_pos (by omega), hp]
      rfl
    · rw [if_neg c, if_neg c]
  | succ m ih =>
    intro k i hm hk hi
    obtain ⟨k, rfl⟩ : ∃ q, k = q + 3 := ⟨k - 3, by omega⟩
    obtain ⟨k', a1, a2, nxt⟩ := ih k (i + 1) (by omega) (by omega) (by omega)
    rw [mapR_snoc, left_snoc] at nxt
    refine ⟨k', by omega, by omega, ?_⟩
    have hlen : ((List.range i).map (pfill off n p)).length < 140737488355328 := by rw [List.length_map, List.length_range]; omega
    have hb : bt p.f1 (i : Int) = bt p.f1 (i : Int) := rfl
    simp only [coppiceref13_Punch.l1]
    rw [if_pos (by omega), if_pos (by omega), if_pos (by omega), hp, w64 (x := p.f0 * 64) (by omega) (by omega), w64 (x := p.f0 * 64 + (i : Int)) (by omega) (by omega)]
    -- what is reckoned of this byte
    have step : ∀ b : Bool, b = (decide (off ≤ p.f0 * 64 + (i : Int)) && decide (p.f0 * 64 + (i : Int) - off < n)) → coppiceref13_Punch.j3 (k + 2) l size off n out (j : Int) ((List.range i).map (pfill off n p)) (leftB size off n p i) (i : Int) (p.f0 * 64 + (i : Int)) b = coppiceref13_Punch.l0 k' l size off n (if leftB size off n p 64 = true then out ++ [⟨p.f0, mkB 64 (pfill off n p)⟩] else out) (wrap64 ((j : Int) + 1)) := by
      intro b hbe
      rw [← hbe] at nxt
      have hpf : pfill off n p i = if b = true then 0 else bt p.f1 (i : Int) := by
        unfold pfill
        by_cases c : off ≤ p.f0 * 64 + (i : Int) ∧ p.f0 * 64 + (i : Int) - off < n
        · rw [if_pos c, if_pos (by rw [hbe, decide_eq_true c.1, decide_eq_true c.2]; rfl)]
        · rw [if_neg c, if_neg]
          intro h
          rw [hbe, Bool.and_eq_true, decide_eq_true_iff, decide_eq_true_iff] at h
          exact c h
      rw [hpf] at nxt
      simp only [coppiceref13_Punch.j3]
      by_cases cs : p.f0 * 64 + (i : Int) < size
      · rw [decide_eq_true cs, Bool.true_and] at nxt
        rw [if_pos cs]
        cases b with
        | true =>
          rw [if_pos rfl, show (leftB size off n p i || !true) = leftB size off n p i from Bool.or_false _] at nxt
          simp only [coppiceref13_Punch.j4]
          rw [if_neg (by decide), if_pos trivial, if_pos hlen, w1 (by omega)]
          exact nxt
        | false =>
          rw [if_neg (by decide), show (leftB size off n p i || !false) = true from Bool.or_true _] at nxt
          simp only [coppiceref13_Punch.j4]
          rw [if_pos (by rfl), if_neg (by decide), if_pos (by omega), if_pos (by omega), if_pos (by omega), hp, if_pos (by omega), if_pos hlen, w1 (by omega)]
          exact nxt
      · rw [decide_eq_false cs, Bool.false_and, Bool.or_false] at nxt
        rw [if_neg cs]
        cases b with
        | true =>
          rw [if_pos rfl] at nxt
          simp only [coppiceref13_Punch.j4]
          rw [if_neg (by decide), if_pos trivial, if_pos hlen, w1 (by omega)]
          exact nxt
        | false =>
          rw [if_neg (by decide)] at nxt
          simp only [coppiceref13_Punch.j4]
          rw [if_neg (by decide), if_neg (by decide), if_pos (by omega), if_pos (by omega), if_pos (by omega), hp, if_pos (by omega), if_pos hlen, w1 (by omega)]
          exact nxt
    by_cases c1 : p.f0 * 64 + (i : Int) ≥ off
    · rw [if_pos c1, w64 (x := p.f0 * 64 + (i : Int) - off) (by omega) (by omega)]
      exact step _ (by rw [decide_eq_true (show off ≤ p.f0 * 64 + (i : Int) from c1), Bool.true_and])
    · rw [if_neg c1]
      exact step false (by rw [decide_eq_false (show ¬ off ≤ p.f0 * 64 + (i : Int) from c1), Bool.false_and])
theorem rpunch_l0 (l : List Pc) (size off n : Int) (hg : Good l size) (hl : l.length ≤ 1000000) (h0 : 0 ≤ off) (hoff : off ≤ 9223372036854775807) (hn : 0 ≤ n) (m : Nat) : ∀ (k j : Nat), m = l.length - j → 200 * m + 300 < k → j ≤ l.length →
    coppiceref13_Punch.l0 k l size off n (cutL (l.take j) (loP size off) (hiP size off n) (goneP size off n)) (j : Int) = some (punchL l size off n, 0) := by
  induction m with
  | zero =>
    intro k j hm hk hj
    obtain ⟨k, rfl⟩ : ∃ q, k = q + 1 := ⟨k - 1, by omega⟩
    simp only [coppiceref13_Punch.l0]
    rw [if_neg (by omega), List.take_of_length_le (by omega)]
    rfl
  | succ m ih =>
    intro k j hm hk hj
    obtain ⟨k, rfl⟩ : ∃ q, k = q + 1 := ⟨k - 1, by omega⟩
    obtain ⟨p, hpe⟩ : ∃ p, rd_T39 l (j : Int) = p := ⟨_, rfl⟩
    have hm2 : p ∈ l := by rw [← hpe]; exact rd_mem l j (by omega)
    have hq := good_bounds hg p hm2
    have hsn := cut_take l j (by omega) (loP size off) (hiP size off n) (goneP size off n)
    rw [hpe] at hsn
    simp only [coppiceref13_Punch.l0]
    rw [if_pos (by omega)]
    obtain ⟨k', a1, a2, e⟩ := rpunch_l1 l size off n hl h0 hoff _ (Nat.le_trans (cut_take_len l j (loP size off) (hiP size off n) (goneP size off n)) hl) j (by omega) p hpe hq.1 (by omega) hq.2.2 64 k 0 rfl (by omega) (by omega)
    rw [punch_clr h0 hn (hg.zero p hm2), left_gone p h0 hn (hg.idx p hm2).2, w1 (by omega)] at e
    have e' : coppiceref13_Punch.l1 k l size off n (cutL (l.take j) (loP size off) (hiP size off n) (goneP size off n)) (j : Int) [] false 0 = _ := e
    have e2 : (if (!goneP size off n p.f0) = true then cutL (l.take j) (loP size off) (hiP size off n) (goneP size off n) ++ [clr (loP size off) (hiP size off n) p] else cutL (l.take j) (loP size off) (hiP size off n) (goneP size off n)) = cutL (l.take (j + 1)) (loP size off) (hiP size off n) (goneP size off n) := by
      rw [hsn]
      cases goneP size off n p.f0 <;> rfl
    rw [e', e2]
    exact ih k' (j + 1) (by omega) (by omega) (by omega)
theorem rpunch_f (l : List Pc) (size off n : Int) (hl : l.length ≤ 1000000) (hoff : off ≤ 9223372036854775807) (k : Nat) (hk : 200 * l.length + 400 < k) : coppiceref13_Punch.f k l size off n = some (if goodB l size = true then (if off < 0 ∨ n < 0 then ([], 1) else (punchL l size off n, 0)) else ([], 21)) := by
  unfold coppiceref13_Punch.f
  rw [rcheck_f l size (by omega) k (by omega), Option.bind_some]
  obtain ⟨k, rfl⟩ : ∃ q, k = q + 1 := ⟨k - 1, by omega⟩
  by_cases g : goodB l size = true
  · have hg := (goodB_iff _ _).1 g
    rw [if_pos g, if_pos g, if_pos rfl]
    have ht : coppiceref13_Punch.j0 (k + 1) l size off n true = some ([], 1) := by
      simp only [coppiceref13_Punch.j0]
      rw [if_pos trivial]
    by_cases c1 : off < 0
    · rw [if_pos c1, ht, if_pos (.inl c1)]
    rw [if_neg c1]
    by_cases c2 : n < 0
    · rw [decide_eq_true c2, ht, if_pos (.inr c2)]
    rw [decide_eq_false c2, if_neg (by omega)]
    simp only [coppiceref13_Punch.j0]
    rw [if_neg (by decide)]
    exact rpunch_l0 l size off n hg hl (by omega) hoff (by omega) l.length k 0 (by omega) (by omega) (by omega)
  · rw [if_neg g, if_neg g, if_neg (by decide)]
end Go.Proofs.YtgnffienfjigiaaDoor.SpP
/-! The statements' own functions: awake, own, Great. -/
set_option linter.unusedVariables false
set_option linter.unusedSimpArgs false
namespace Go.Proofs.YtgnffienfjigiaaDoor.SpP
open Go.RowKit Go.Proofs.YtgnffienfjigiaaDoor.PA Go.Proofs.YtgnffienfjigiaaDoorW.PrintWords Go.Proofs.YtgnffienfjigiaaDoorW.PrintMore
open Go.Proofs.YtgnffienfjigiaaDoor.Plain
theorem i64_wf {a : Int} (h : (Lit.int .i64 a).wf = true) : -9223372036854775808 ≤ a ∧ a ≤ 9223372036854775807 := by
  simp [Lit.wf, IntKind.min, IntKind.max, IntKind.signed, IntKind.bits] at h; omega
theorem awake_f (k : Nat) (hk : 201 ≤ k) : coppicelaw13_awake.f k = some true := by
  unfold coppicelaw13_awake.f
  have hx : (⟨#[120]⟩ : ByteArray).size = 1 := rfl
  have e : writeL [] 200 ⟨#[120]⟩ = [pieceW [] 200 ⟨#[120]⟩ 3] := by
    unfold writeL
    rw [show countW 200 ⟨#[120]⟩ = 1 from rfl]
    rfl
  have hw : sparse_Write.f k [] 0 200 ⟨#[120]⟩ = some ([pieceW [] 200 ⟨#[120]⟩ 3], 201, 0) := by
    rw [write_f [] 0 200 ⟨#[120]⟩ (by decide) k (by simp; omega), if_pos (by rfl), if_neg (by rw [hx]; omega), if_neg (by rw [hx]; omega), e, hx]
    rfl
  rw [hw, Option.bind_some]
  have e0 : rd_T39 [pieceW [] 200 ⟨#[120]⟩ 3] 0 = pieceW [] 200 ⟨#[120]⟩ 3 := rfl
  have e1 : (pieceW [] 200 ⟨#[120]⟩ 3).f1.size = 64 := mkB_size _ _
  have e2 : bt (pieceW [] 200 ⟨#[120]⟩ 3).f1 8 = 120 := by
    have := bt_pieceW [] 200 ⟨#[120]⟩ 200
    rw [show (200 : Int) / 64 = 3 from rfl, show (200 : Int) % 64 = 8 from rfl] at this
    rw [this]
    rfl
  simp only [e0, e1, e2]
  rfl
end Go.Proofs.YtgnffienfjigiaaDoor.SpP
