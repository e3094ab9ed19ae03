import Derived.Test.YtgnffienfjigiaaDoorPAx3
import Derived.Test.YtgnffienfjigiaaDoorBytes
/-! Pieces of a file's bytes: the byte at a place, a piece put in, bytes laid over; plain, no program in sight. -/
set_option linter.unusedVariables false
set_option linter.unusedSimpArgs false
namespace Go.Proofs.YtgnffienfjigiaaDoor.SpP
open Go.RowKit Go.Proofs.YtgnffienfjigiaaDoor.PA Go.Proofs.YtgnffienfjigiaaDoorW.PrintWords Go.Proofs.YtgnffienfjigiaaDoorW.PrintMore
open Go.Proofs.YtgnffienfjigiaaDoor.Plain
abbrev Pc := S39
theorem pc_ext {p q : Pc} (h0 : p.f0 = q.f0) (h1 : p.f1 = q.f1) : p = q := by cases p; cases q; cases h0; cases h1; rfl
/-- The byte at a place. -/
def atL : List Pc → Int → Int
  | [], _ => 0
  | p :: l, q => if p.f0 = q / 64 then bt p.f1 (q % 64) else atL l q
theorem at_cons (p : Pc) (l : List Pc) (q : Int) : atL (p :: l) q = if p.f0 = q / 64 then bt p.f1 (q % 64) else atL l q := rfl
/-- A piece put in, or laid in another one's place. -/
def putL (p : Pc) : List Pc → List Pc
  | [] => [p]
  | q :: l => if q.f0 < p.f0 then q :: putL p l else if q.f0 = p.f0 then p :: l else p :: q :: l
def Rise (l : List Pc) : Prop := l.Pairwise (fun a b => a.f0 < b.f0)
/-- A text of n bytes, told one by one. -/
def mkB (n : Nat) (g : Nat → Int) : ByteArray := strOfNums ((List.range n).map g)
theorem mkB_size (n : Nat) (g : Nat → Int) : (mkB n g).size = n := by
  unfold mkB
  rw [strOfNums_size, List.length_map, List.length_range]
theorem bt_mkB (n : Nat) (g : Nat → Int) (hg : ∀ k, k < n → 0 ≤ g k ∧ g k < 256) (k : Nat) (hk : k < n) : bt (mkB n g) (k : Int) = g k := by
  unfold mkB
  rw [bt_strOfNums _ _ k (by rw [List.length_map, List.length_range]; exact hk)]
  · rw [List.getElem_map, List.getElem_range]
  · intro x hx
    rw [List.mem_map] at hx
    obtain ⟨j, hj, rfl⟩ := hx
    exact hg j (List.mem_range.1 hj)
theorem eq_mkB (s : ByteArray) (n : Nat) (g : Nat → Int) (hs : s.size = n) (hg : ∀ k, k < n → bt s (k : Int) = g k) : s = mkB n g := by
  apply ba_ext
  · rw [mkB_size, hs]
  · intro i hi
    rw [bt_mkB n g (fun k hk => by rw [← hg k hk]; exact bt_lt _ _) i (by omega)]
    exact hg i (by omega)
theorem mkB_congr {n : Nat} {g h : Nat → Int} (e : ∀ k, k < n → g k = h k) : mkB n g = mkB n h := by
  unfold mkB
  congr 1
  apply List.map_congr_left
  intro k hk
  exact e k (List.mem_range.1 hk)
theorem at_range (l : List Pc) (q : Int) : 0 ≤ atL l q ∧ atL l q < 256 := by
  induction l with
  | nil => exact ⟨Int.le_refl _, by show (0 : Int) < 256; omega⟩
  | cons p l ih =>
    unfold atL
    split
    · exact bt_lt _ _
    · exact ih
theorem at_put (p : Pc) (l : List Pc) (q : Int) : atL (putL p l) q = if p.f0 = q / 64 then bt p.f1 (q % 64) else atL l q := by
  induction l with
  | nil => rfl
  | cons x l ih =>
    unfold putL
    by_cases h1 : x.f0 < p.f0
    · rw [if_pos h1]
      unfold atL
      rw [ih]
      by_cases h2 : x.f0 = q / 64
      · rw [if_pos h2, if_neg (by omega), if_pos h2]
      · rw [if_neg h2, if_neg h2]
    · rw [if_neg h1]
      by_cases h2 : x.f0 = p.f0
      · rw [if_pos h2]
        unfold atL
        by_cases h3 : p.f0 = q / 64
        · rw [if_pos h3, if_pos h3]
        · rw [if_neg h3, if_neg h3, if_neg (by omega)]
      · rw [if_neg h2, atL]
theorem mem_put {p x : Pc} {l : List Pc} (h : x ∈ putL p l) : x = p ∨ x ∈ l := by
  induction l with
  | nil => exact .inl (List.mem_singleton.1 h)
  | cons y l ih =>
    unfold putL at h
    split at h
    · rcases List.mem_cons.1 h with rfl | h
      · exact .inr (List.mem_cons_self ..)
      · rcases ih h with h | h
        · exact .inl h
        · exact .inr (List.mem_cons_of_mem _ h)
    · split at h
      · rcases List.mem_cons.1 h with rfl | h
        · exact .inl rfl
        · exact .inr (List.mem_cons_of_mem _ h)
      · rcases List.mem_cons.1 h with rfl | h
        · exact .inl rfl
        · exact .inr h
theorem rise_put {p : Pc} {l : List Pc} (h : Rise l) : Rise (putL p l) := by
  induction l with
  | nil => exact List.pairwise_singleton _ _
  | cons x l ih =>
    obtain ⟨h1, h2⟩ := List.pairwise_cons.1 h
    unfold putL
    split
    · rename_i hx
      refine List.pairwise_cons.2 ⟨fun y hy => ?_, ih h2⟩
      rcases mem_put hy with rfl | hy
      · exact hx
      · exact h1 y hy
    · split
      · rename_i hx he
        refine List.pairwise_cons.2 ⟨fun y hy => ?_, h2⟩
        have := h1 y hy
        omega
      · rename_i hx he
        refine List.pairwise_cons.2 ⟨fun y hy => ?_, h⟩
        rcases List.mem_cons.1 hy with rfl | hy
        · omega
        · have := h1 y hy
          omega
theorem put_len (p : Pc) (l : List Pc) : (putL p l).length ≤ l.length + 1 := by
  induction l with
  | nil => exact Nat.le_refl _
  | cons x l ih =>
    unfold putL
    split
    · simp only [List.length_cons]; omega
    · split <;> simp only [List.length_cons] <;> omega
/-- A piece of a rising list tells its bytes. -/
theorem at_mem {l : List Pc} (h : Rise l) {p : Pc} (hp : p ∈ l) {q : Int} (hq : q / 64 = p.f0) : atL l q = bt p.f1 (q % 64) := by
  induction l with
  | nil => cases hp
  | cons x l ih =>
    obtain ⟨h1, h2⟩ := List.pairwise_cons.1 h
    unfold atL
    rcases List.mem_cons.1 hp with rfl | hp
    · rw [if_pos hq.symm]
    · rw [if_neg (by have := h1 p hp; omega)]
      exact ih h2 hp
theorem at_none {l : List Pc} {q : Int} (h : ∀ p ∈ l, p.f0 ≠ q / 64) : atL l q = 0 := by
  induction l with
  | nil => rfl
  | cons x l ih =>
    unfold atL
    rw [if_neg (h x (List.mem_cons_self ..))]
    exact ih (fun p hp => h p (List.mem_cons_of_mem _ hp))
/-- Right bytes. -/
structure Good (l : List Pc) (size : Int) : Prop where
  lo : 0 ≤ size
  hi : size ≤ 4611686018427387904
  rise : Rise l
  idx : ∀ p ∈ l, 0 ≤ p.f0 ∧ p.f0 * 64 < size
  sz : ∀ p ∈ l, p.f1.size = 64
  zero : ∀ p ∈ l, ∀ k : Int, 0 ≤ k → k < 64 → size ≤ p.f0 * 64 + k → bt p.f1 k = 0
theorem good_nil {size : Int} (h0 : 0 ≤ size) (h1 : size ≤ 4611686018427387904) : Good [] size :=
  ⟨h0, h1, List.Pairwise.nil, (fun p hp => by cases hp), (fun p hp => by cases hp), (fun p hp => by cases hp)⟩
theorem good_at {l : List Pc} {size : Int} (h : Good l size) {q : Int} (hq : size ≤ q) : atL l q = 0 := by
  by_cases he : ∃ p ∈ l, p.f0 = q / 64
  · obtain ⟨p, hp, e⟩ := he
    rw [at_mem h.rise hp e.symm]
    exact h.zero p hp _ (by omega) (by omega) (by omega)
  · exact at_none (fun p hp e => he ⟨p, hp, e⟩)
/-! Bytes laid over. -/
def fill (l : List Pc) (off : Int) (data : ByteArray) (q : Int) : Int := if off ≤ q ∧ q < off + (data.size : Int) then bt data (q - off) else atL l q
theorem fill_range (l : List Pc) (off : Int) (data : ByteArray) (q : Int) : 0 ≤ fill l off data q ∧ fill l off data q < 256 := by
  unfold fill
  split
  · exact bt_lt _ _
  · exact at_range _ _
def pieceW (l : List Pc) (off : Int) (data : ByteArray) (i : Int) : Pc := ⟨i, mkB 64 fun k => fill l off data (i * 64 + (k : Int))⟩
def writeFrom (off : Int) (data : ByteArray) : Nat → Int → List Pc → List Pc
  | 0, _, l => l
  | n + 1, i, l => writeFrom off data n (i + 1) (putL (pieceW l off data i) l)
def countW (off : Int) (data : ByteArray) : Nat := if data.size = 0 then 0 else ((off + (data.size : Int) - 1) / 64 - off / 64 + 1).toNat
def writeL (l : List Pc) (off : Int) (data : ByteArray) : List Pc := writeFrom off data (countW off data) (off / 64) l
theorem bt_pieceW (l : List Pc) (off : Int) (data : ByteArray) (q : Int) : bt (pieceW l off data (q / 64)).f1 (q % 64) = fill l off data q := by
  obtain ⟨k, hk⟩ : ∃ k : Nat, q % 64 = (k : Int) := ⟨(q % 64).toNat, by omega⟩
  rw [hk]
  show bt (mkB 64 _) _ = _
  rw [bt_mkB 64 _ (fun j _ => fill_range _ _ _ _) k (by omega)]
  congr 1
  omega
theorem at_writeFrom (off : Int) (data : ByteArray) (q : Int) : ∀ (n : Nat) (i : Int) (l : List Pc), atL (writeFrom off data n i l) q = if i ≤ q / 64 ∧ q / 64 < i + (n : Int) then fill l off data q else atL l q
  | 0, i, l => by
    rw [if_neg (by omega)]
    rfl
  | n + 1, i, l => by
    show atL (writeFrom off data n (i + 1) _) q = _
    rw [at_writeFrom off data q n (i + 1), at_put]
    have h0 : (pieceW l off data i).f0 = i := rfl
    rw [h0]
    by_cases h : i = q / 64
    · subst h
      rw [if_neg (by omega), if_pos rfl, if_pos (by omega), bt_pieceW]
    · rw [if_neg h]
      have hf : fill (putL (pieceW l off data i) l) off data q = fill l off data q := by
        unfold fill
        rw [at_put, h0, if_neg h]
      rw [hf]
      by_cases h2 : i + 1 ≤ q / 64 ∧ q / 64 < i + 1 + (n : Int)
      · rw [if_pos h2, if_pos (by omega)]
      · rw [if_neg h2, if_neg (by omega)]
theorem at_write (l : List Pc) (off : Int) (data : ByteArray) (q : Int) : atL (writeL l off data) q = fill l off data q := by
  unfold writeL
  rw [at_writeFrom]
  by_cases h : off ≤ q ∧ q < off + (data.size : Int)
  · rw [if_pos]
    unfold countW
    rw [if_neg (by omega)]
    omega
  · have : fill l off data q = atL l q := by unfold fill; rw [if_neg h]
    rw [this, ite_self]
theorem rise_writeFrom (off : Int) (data : ByteArray) : ∀ (n : Nat) (i : Int) (l : List Pc), Rise l → Rise (writeFrom off data n i l)
  | 0, _, _, h => h
  | n + 1, i, l, h => rise_writeFrom off data n (i + 1) _ (rise_put h)
theorem len_writeFrom (off : Int) (data : ByteArray) : ∀ (n : Nat) (i : Int) (l : List Pc), (writeFrom off data n i l).length ≤ l.length + n
  | 0, _, _ => Nat.le_refl _
  | n + 1, i, l => by
    have h1 := len_writeFrom off data n (i + 1) (putL (pieceW l off data i) l)
    have h2 := put_len (pieceW l off data i) l
    show (writeFrom off data n (i + 1) _).length ≤ _
    omega
theorem mem_writeFrom (off : Int) (data : ByteArray) (x : Pc) : ∀ (n : Nat) (i : Int) (l : List Pc), x ∈ writeFrom off data n i l → x ∈ l ∨ (i ≤ x.f0 ∧ x.f0 < i + (n : Int) ∧ x.f1.size = 64)
  | 0, _, _, h => .inl h
  | n + 1, i, l, h => by
    rcases mem_writeFrom off data x n (i + 1) _ h with h | ⟨h1, h2, h3⟩
    · rcases mem_put h with rfl | h
      · exact .inr ⟨Int.le_refl _, by show i < _; omega, mkB_size _ _⟩
      · exact .inl h
    · exact .inr ⟨by omega, by omega, h3⟩
theorem good_write {l : List Pc} {size off : Int} {data : ByteArray} (h : Good l size) (h0 : 0 ≤ off) (h1 : off + (data.size : Int) ≤ 4611686018427387904) :
    Good (writeL l off data) (if data.size = 0 then size else max size (off + (data.size : Int))) := by
  by_cases hz : data.size = 0
  · rw [if_pos hz]
    unfold writeL countW
    rw [if_pos hz]
    exact h
  · rw [if_neg hz]
    have hr : Rise (writeL l off data) := rise_writeFrom _ _ _ _ _ h.rise
    have hm : ∀ p ∈ writeL l off data, p ∈ l ∨ (off / 64 ≤ p.f0 ∧ p.f0 ≤ (off + (data.size : Int) - 1) / 64 ∧ p.f1.size = 64) := by
      intro p hp
      rcases mem_writeFrom off data p _ _ _ hp with h | ⟨h1, h2, h3⟩
      · exact .inl h
      · refine .inr ⟨h1, ?_, h3⟩
        unfold countW at h2
        rw [if_neg hz] at h2
        omega
    have hlo := h.lo
    have hhi := h.hi
    refine ⟨by omega, by omega, hr, fun p hp => ?_, fun p hp => ?_, fun p hp k hk0 hk1 hk => ?_⟩
    · rcases hm p hp with h2 | ⟨h2, h3, h4⟩
      · have := h.idx p h2
        omega
      · omega
    · rcases hm p hp with h2 | ⟨h2, h3, h4⟩
      · exact h.sz p h2
      · exact h4
    · have e := at_mem hr hp (q := p.f0 * 64 + k) (by omega)
      rw [at_write] at e
      have e2 : (p.f0 * 64 + k) % 64 = k := by omega
      rw [e2] at e
      rw [← e]
      unfold fill
      rw [if_neg (by omega)]
      exact good_at h (by omega)
end Go.Proofs.YtgnffienfjigiaaDoor.SpP
