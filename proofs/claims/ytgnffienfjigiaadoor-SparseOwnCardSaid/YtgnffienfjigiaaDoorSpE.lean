import Derived.Test.YtgnffienfjigiaaDoorPAx5
import Derived.Test.YtgnffienfjigiaaDoorPAx6
import Derived.Test.YtgnffienfjigiaaDoorSpD
/-! Where a piece stands; the program's Write. -/
set_option linter.unusedVariables false
set_option linter.unusedSimpArgs false
namespace Go.Proofs.YtgnffienfjigiaaDoor.SpP
open Go.RowKit Go.Proofs.YtgnffienfjigiaaDoor.PA Go.Proofs.YtgnffienfjigiaaDoorW.PrintWords Go.Proofs.YtgnffienfjigiaaDoorW.PrintMore
open Go.Proofs.YtgnffienfjigiaaDoor.Plain
def lb : List Pc → Int → Nat
  | [], _ => 0
  | p :: l, i => if p.f0 < i then lb l i + 1 else 0
def hasB : List Pc → Int → Bool
  | [], _ => false
  | p :: l, i => if p.f0 < i then hasB l i else decide (p.f0 = i)
theorem lb_le (l : List Pc) (i : Int) : lb l i ≤ l.length := by
  induction l with
  | nil => exact Nat.le_refl _
  | cons p l ih =>
    unfold lb
    split <;> simp only [List.length_cons] <;> omega
theorem rd0 (p : Pc) (l : List Pc) : rd_T39 (p :: l) ((0 : Nat) : Int) = p := rfl
theorem rdS (p : Pc) (l : List Pc) (j : Nat) : rd_T39 (p :: l) ((j + 1 : Nat) : Int) = rd_T39 l (j : Int) := by
  unfold rd_T39
  rw [Int.toNat_natCast, Int.toNat_natCast, List.getD_cons_succ]
theorem lb_is (i : Int) : ∀ (l : List Pc) (pos : Nat), pos ≤ l.length → (∀ j : Nat, j < pos → (rd_T39 l (j : Int)).f0 < i) → (∀ j : Nat, pos ≤ j → j < l.length → i ≤ (rd_T39 l (j : Int)).f0) → pos = lb l i
  | [], pos, h0, _, _ => by
    have : pos = 0 := by simpa using h0
    subst this
    rfl
  | p :: l, 0, h0, h1, h2 => by
    unfold lb
    have := h2 0 (by omega) (by simp)
    rw [rd0] at this
    rw [if_neg (by omega)]
  | p :: l, pos + 1, h0, h1, h2 => by
    unfold lb
    have h3 := h1 0 (by omega)
    rw [rd0] at h3
    rw [if_pos h3, ← lb_is i l pos (by simpa using h0) (fun j hj => by have := h1 (j + 1) (by omega); rwa [rdS] at this) (fun j h4 h5 => by have := h2 (j + 1) (by omega) (by simpa using h5); rwa [rdS] at this)]
theorem has_eq : ∀ (l : List Pc) (i : Int), hasB l i = (decide (lb l i < l.length) && decide ((rd_T39 l (lb l i : Int)).f0 = i))
  | [], i => rfl
  | p :: l, i => by
    unfold hasB lb
    by_cases h : p.f0 < i
    · rw [if_pos h, if_pos h, rdS, has_eq l i]
      congr 1
      simp only [List.length_cons, Nat.add_lt_add_iff_right]
    · rw [if_neg h, if_neg h, rd0, decide_eq_true (show 0 < (p :: l).length by simp), Bool.true_and]
theorem put_eq (p : Pc) : ∀ l : List Pc, putL p l = if hasB l p.f0 = true then l.set (lb l p.f0) p else l.take (lb l p.f0) ++ p :: l.drop (lb l p.f0)
  | [] => rfl
  | q :: l => by
    unfold putL hasB lb
    by_cases h : q.f0 < p.f0
    · rw [if_pos h, if_pos h, if_pos h, put_eq p l]
      by_cases h2 : hasB l p.f0 = true
      · rw [if_pos h2, if_pos h2]
        rfl
      · rw [if_neg h2, if_neg h2]
        rfl
    · rw [if_neg h, if_neg h, if_neg h]
      by_cases h2 : q.f0 = p.f0
      · rw [if_pos h2, if_pos (decide_eq_true h2)]
        rfl
      · rw [if_neg h2, if_neg (by rw [decide_eq_false h2]; decide)]
        rfl
theorem rise_rd {l : List Pc} (h : Rise l) {i j : Nat} (hij : i < j) (hj : j < l.length) : (rd_T39 l (i : Int)).f0 < (rd_T39 l (j : Int)).f0 := by
  have := List.pairwise_iff_getElem.1 h i j (by omega) hj hij
  unfold rd_T39
  rw [Int.toNat_natCast, Int.toNat_natCast, List.getD_eq_getElem?_getD, List.getD_eq_getElem?_getD, List.getElem?_eq_getElem hj, List.getElem?_eq_getElem (by omega)]
  exact this
theorem rise_rd_le {l : List Pc} (h : Rise l) {i j : Nat} (hij : i ≤ j) (hj : j < l.length) : (rd_T39 l (i : Int)).f0 ≤ (rd_T39 l (j : Int)).f0 := by
  rcases Nat.lt_or_ge i j with hlt | hge
  · have := rise_rd h hlt hj; omega
  · have : i = j := by omega
    subst this
    omega
theorem bsearch (l : List Pc) (i : Int) (hr : Rise l) (hl : l.length ≤ 1000000000) (hi0 : 0 ≤ i) (hi1 : i ≤ 144115188075855872) (hp : ∀ p ∈ l, 0 ≤ p.f0 ∧ p.f0 ≤ 144115188075855872) (n : Nat) : ∀ (k lo hi : Nat), n = hi - lo → n < k → lo ≤ hi → hi ≤ l.length → (∀ j : Nat, j < lo → (rd_T39 l (j : Int)).f0 < i) → (∀ j : Nat, hi ≤ j → j < l.length → i ≤ (rd_T39 l (j : Int)).f0) →
    slices_BinarySearchFunc_Piece_int_sparse_find_1.l0 k l i (l.length : Int) (lo : Int) (hi : Int) = some ((lb l i : Int), hasB l i) := by
  induction n using Nat.strongRecOn with
  | ind n ih =>
    intro k lo hi hn hk hlo hhi h1 h2
    obtain ⟨k, rfl⟩ : ∃ q, k = q + 1 := ⟨k - 1, by omega⟩
    simp only [slices_BinarySearchFunc_Piece_int_sparse_find_1.l0]
    by_cases c : lo < hi
    · rw [if_pos (by omega)]
      have em : wrap64 (IntKind.u64.wrap (wrap64 ((lo : Int) + (hi : Int))) / 2) = (((lo + hi) / 2 : Nat) : Int) := by
        rw [w64 (x := (lo : Int) + (hi : Int)) (by omega) (by omega), wraps_u64 _ (by omega) (by omega), w64 (by omega) (by omega)]
        omega
      rw [em, if_pos (by omega), if_pos (by omega)]
      have hm : (lo + hi) / 2 < l.length := by omega
      have hq := hp _ (rd_mem l _ hm)
      unfold sparse_find_1.f
      rw [Option.bind_some, w64 (x := (rd_T39 l (((lo + hi) / 2 : Nat) : Int)).f0 - i) (by omega) (by omega)]
      by_cases c2 : (rd_T39 l (((lo + hi) / 2 : Nat) : Int)).f0 - i < 0
      · rw [if_pos c2, w1 (by omega)]
        refine ih (hi - ((lo + hi) / 2 + 1)) (by omega) k ((lo + hi) / 2 + 1) hi rfl (by omega) (by omega) hhi (fun j hj => ?_) h2
        have := rise_rd_le hr (show j ≤ (lo + hi) / 2 by omega) hm
        omega
      · rw [if_neg c2]
        refine ih ((lo + hi) / 2 - lo) (by omega) k lo ((lo + hi) / 2) rfl (by omega) (by omega) (by omega) h1 (fun j hj hj2 => ?_)
        have := rise_rd_le hr hj hj2
        omega
    · have e : lo = hi := by omega
      subst e
      rw [if_neg (by omega)]
      have hlb := lb_is i l lo hhi h1 h2
      rw [has_eq, ← hlb]
      by_cases c2 : lo < l.length
      · have hq := hp _ (rd_mem l _ c2)
        rw [if_pos (by omega), if_pos (by omega), if_pos (by omega)]
        unfold sparse_find_1.f
        rw [Option.bind_some, w64 (by omega) (by omega), decide_eq_true c2, Bool.true_and]
        congr 2
        by_cases c3 : (rd_T39 l (lo : Int)).f0 = i
        · rw [decide_eq_true c3, c3, Int.sub_self]; rfl
        · rw [decide_eq_false c3, beq_eq_false_iff_ne]; omega
      · rw [if_neg (by omega), decide_eq_false c2, Bool.false_and]
theorem find_f (l : List Pc) (i : Int) (hr : Rise l) (hl : l.length ≤ 1000000000) (hi0 : 0 ≤ i) (hi1 : i ≤ 144115188075855872) (hp : ∀ p ∈ l, 0 ≤ p.f0 ∧ p.f0 ≤ 144115188075855872) (k : Nat) (hk : l.length < k) :
    sparse_find.f k l i = some ((lb l i : Int), hasB l i) := by
  unfold sparse_find.f slices_BinarySearchFunc_Piece_int_sparse_find_1.f
  have := bsearch l i hr hl hi0 hi1 hp l.length k 0 l.length (by omega) hk (by omega) (Nat.le_refl _) (fun j hj => by omega) (fun j h1 h2 => by omega)
  rw [show ((0 : Nat) : Int) = 0 from rfl] at this
  rw [this]
  rfl
theorem has_mem {l : List Pc} {i : Int} (h : hasB l i = true) : lb l i < l.length ∧ (rd_T39 l (lb l i : Int)) ∈ l ∧ (rd_T39 l (lb l i : Int)).f0 = i := by
  rw [has_eq, Bool.and_eq_true, decide_eq_true_iff, decide_eq_true_iff] at h
  exact ⟨h.1, rd_mem l _ h.1, h.2⟩
theorem lb_lt : ∀ (l : List Pc) (i : Int) (j : Nat), j < lb l i → (rd_T39 l (j : Int)).f0 < i
  | [], i, j, h => by simp [lb] at h
  | p :: l, i, j, h => by
    unfold lb at h
    by_cases c : p.f0 < i
    · rw [if_pos c] at h
      rcases j with _ | j
      · rw [rd0]; exact c
      · rw [rdS]
        exact lb_lt l i j (by omega)
    · rw [if_neg c] at h
      omega
theorem lb_ge {l : List Pc} (hr : Rise l) (i : Int) (j : Nat) (h : lb l i ≤ j) (hj : j < l.length) : i ≤ (rd_T39 l (j : Int)).f0 := by
  induction l generalizing j with
  | nil => simp at hj
  | cons p l ih =>
    unfold lb at h
    by_cases c : p.f0 < i
    · rw [if_pos c] at h
      rcases j with _ | j
      · omega
      · rw [rdS]
        exact ih (List.pairwise_cons.1 hr).2 j (by omega) (by simpa using hj)
    · rcases j with _ | j
      · rw [rd0]; omega
      · rw [rdS]
        have := (List.pairwise_cons.1 hr).1 _ (rd_mem l j (by simpa using hj))
        omega
theorem has_none {l : List Pc} (hr : Rise l) {i : Int} (h : ¬ hasB l i = true) : ∀ p ∈ l, p.f0 ≠ i := by
  intro p hp e
  obtain ⟨j, hj, rfl⟩ := List.mem_iff_getElem.1 hp
  have er : rd_T39 l (j : Int) = l[j] := by
    unfold rd_T39
    rw [Int.toNat_natCast, List.getD_eq_getElem?_getD, List.getElem?_eq_getElem hj]; rfl
  have h1 : lb l i ≤ j := by
    rcases Nat.lt_or_ge j (lb l i) with hlt | hge
    · have := lb_lt l i j hlt
      rw [er] at this
      omega
    · exact hge
  have h2 := lb_ge hr i (lb l i) (Nat.le_refl _) (by omega)
  have h3 := rise_rd_le hr h1 hj
  rw [er] at h3
  apply h
  rw [has_eq, decide_eq_true (show lb l i < l.length by omega), decide_eq_true (by omega)]
  rfl
/-- The bytes of the piece that stands there, or zeros. -/
theorem got_eq {l : List Pc} (hr : Rise l) (hs : ∀ p ∈ l, p.f1.size = 64) (i : Int) : (sparse_Write.got l (lb l i : Int) (hasB l i)).size = 64 ∧ ∀ k : Int, 0 ≤ k → k < 64 → bt (sparse_Write.got l (lb l i : Int) (hasB l i)) k = atL l (i * 64 + k) := by
  unfold sparse_Write.got
  by_cases h : hasB l i = true
  · obtain ⟨h1, h2, h3⟩ := has_mem h
    rw [if_pos h]
    refine ⟨hs _ h2, fun k k0 k1 => ?_⟩
    rw [at_mem hr h2 (by omega), show (i * 64 + k) % 64 = k by omega]
  · rw [if_neg h]
    refine ⟨sparse_Write.zero_size, fun k k0 k1 => ?_⟩
    rw [at_none (fun p hp => by have := has_none hr h p hp; omega)]
    obtain ⟨j, rfl⟩ : ∃ j : Nat, k = (j : Int) := ⟨k.toNat, by omega⟩
    rw [bt_getD]
    show ((((List.replicate 64 (0 : UInt8)).toArray.toList[j]?).getD 0).toNat : Int) = 0
    rw [List.toList_toArray, List.getElem?_replicate, if_pos (by omega)]
    rfl
/-- Bytes laid over are what the piece is to have. -/
theorem lay_eq {l : List Pc} (hr : Rise l) (hs : ∀ p ∈ l, p.f1.size = 64) (off : Int) (data : ByteArray) (pos : Int) (h0 : 0 ≤ off) (h1 : off ≤ pos) (h2 : pos < off + (data.size : Int)) (h3 : pos = off ∨ pos % 64 = 0) :
    sparse_Write.lay (sparse_Write.got l (lb l (pos / 64) : Int) (hasB l (pos / 64))) (pos % 64).toNat (sparse_Write.rest off data pos) = (pieceW l off data (pos / 64)).f1 := by
  obtain ⟨g1, g2⟩ := got_eq hr hs (pos / 64)
  generalize sparse_Write.got l (lb l (pos / 64) : Int) (hasB l (pos / 64)) = b at *
  have hsk : (pos % 64).toNat ≤ 64 := by omega
  have hrs : (sparse_Write.rest off data pos).size = data.size - (pos - off).toNat := by
    unfold sparse_Write.rest
    rw [ByteArray.size_extract]
    omega
  refine eq_mkB _ 64 _ (sparse_Write.lay_size _ _ _ g1 hsk) (fun k hk => ?_)
  obtain ⟨t, ht⟩ : ∃ t, t = (sparse_Write.rest off data pos).data.toList.take (Nat.min (sparse_Write.rest off data pos).size (64 - (pos % 64).toNat)) := ⟨_, rfl⟩
  have htl : t.length = Nat.min (sparse_Write.rest off data pos).size (64 - (pos % 64).toNat) := by
    rw [ht, List.length_take, Array.length_toList]
    exact Nat.min_eq_left (Nat.min_le_left _ _)
  have hmin : Nat.min (sparse_Write.rest off data pos).size (64 - (pos % 64).toNat) = if (sparse_Write.rest off data pos).size ≤ 64 - (pos % 64).toNat then (sparse_Write.rest off data pos).size else 64 - (pos % 64).toNat := rfl
  have hbl : b.data.toList.length = 64 := by rw [Array.length_toList]; exact g1
  have htk : (b.data.toList.take (pos % 64).toNat).length = (pos % 64).toNat := by rw [List.length_take]; omega
  have e : bt (sparse_Write.lay b (pos % 64).toNat (sparse_Write.rest off data pos)) (k : Int) = ((((b.data.toList.take (pos % 64).toNat ++ (t ++ b.data.toList.drop ((pos % 64).toNat + t.length)))[k]?).getD 0).toNat : Int) := by
    rw [bt_getD, ht]
    rfl
  rw [e]
  clear e
  unfold fill
  rcases Nat.lt_or_ge k (pos % 64).toNat with c1 | c1
  · rw [List.getElem?_append_left (by omega), List.getElem?_take_of_lt c1, ← bt_getD, g2 _ (by omega) (by omega), if_neg (by omega)]
  · rw [List.getElem?_append_right (by omega), htk]
    rcases Nat.lt_or_ge (k - (pos % 64).toNat) t.length with c2 | c2
    · have hin : k - (pos % 64).toNat < (sparse_Write.rest off data pos).size := by
        rw [htl, hmin] at c2
        split at c2 <;> omega
      rw [List.getElem?_append_left c2]
      rw [htl] at c2
      rw [ht, List.getElem?_take_of_lt c2, ← bt_getD]
      have hin2 : k - (pos % 64).toNat < (data.extract (pos - off).toNat data.size).size := hin
      show bt (data.extract (pos - off).toNat data.size) _ = _
      rw [bt_extract _ _ _ _ hin2, if_pos (by omega)]
      congr 1
      omega
    · rw [List.getElem?_append_right c2, List.getElem?_drop, show (pos % 64).toNat + t.length + (k - (pos % 64).toNat - t.length) = k by omega, ← bt_getD, g2 _ (by omega) (by omega), if_neg]
      rw [htl, hmin] at c2
      split at c2 <;> omega
def cntW (off : Int) (data : ByteArray) (pos : Int) : Nat := if pos < off + (data.size : Int) then ((off + (data.size : Int) - 1) / 64 - pos / 64 + 1).toNat else 0
theorem write_l0 (k : Nat) (off : Int) (data : ByteArray) (h0 : 0 ≤ off) (h1 : off + (data.size : Int) ≤ 4611686018427387904) : ∀ (m : Nat) (pos : Int) (out : List Pc), Rise out → (∀ p ∈ out, p.f1.size = 64 ∧ 0 ≤ p.f0 ∧ p.f0 ≤ 72057594037927936) → off ≤ pos → pos ≤ off + (data.size : Int) → (pos = off ∨ pos % 64 = 0 ∨ pos = off + (data.size : Int)) →
    cntW off data pos < m → out.length + cntW off data pos ≤ 1000000 → out.length + cntW off data pos < k →
    sparse_Write.l0 k off data m pos out = some (writeFrom off data (cntW off data pos) (pos / 64) out)
  | 0, pos, out, _, _, _, _, _, hm, _, _ => absurd hm (Nat.not_lt_zero _)
  | m + 1, pos, out, hr, hp, p0, p1, p2, hm, hl, hk => by
    unfold sparse_Write.l0
    by_cases c : pos < off + (data.size : Int)
    · rw [if_pos c, tdiv0 (by omega), tmod0 (by omega), find_f out (pos / 64) hr (by omega) (by omega) (by omega) (fun p h => ⟨(hp p h).2.1, by have := (hp p h).2.2; omega⟩) k (by omega), Option.bind_some]
      have hlb := lb_le out (pos / 64)
      have hok : sparse_Write.ok out (lb out (pos / 64) : Int) (hasB out (pos / 64)) := by
        refine ⟨by omega, by omega, fun h => ?_, by omega⟩
        obtain ⟨a1, a2, a3⟩ := has_mem h
        exact ⟨by omega, (hp _ a2).1⟩
      rw [if_pos hok]
      have hla := lay_eq hr (fun p h => (hp p h).1) off data pos h0 p0 c (by omega)
      show sparse_Write.l0 k off data m _ (sparse_Write.put out (lb out (pos / 64) : Int) (hasB out (pos / 64)) ⟨pos / 64, sparse_Write.lay (sparse_Write.got out (lb out (pos / 64) : Int) (hasB out (pos / 64))) (pos % 64).toNat (sparse_Write.rest off data pos)⟩) = _
      rw [hla]
      have epw : (⟨pos / 64, (pieceW out off data (pos / 64)).f1⟩ : Pc) = pieceW out off data (pos / 64) := rfl
      rw [epw]
      have eput : sparse_Write.put out (lb out (pos / 64) : Int) (hasB out (pos / 64)) (pieceW out off data (pos / 64)) = putL (pieceW out off data (pos / 64)) out := by
        rw [put_eq]
        unfold sparse_Write.put
        rw [Int.toNat_natCast]
        rfl
      rw [eput]
      have hrs : (sparse_Write.rest off data pos).size = data.size - (pos - off).toNat := by
        unfold sparse_Write.rest
        rw [ByteArray.size_extract]
        omega
      obtain ⟨n, hn⟩ : ∃ n, Nat.min (sparse_Write.rest off data pos).size (64 - (pos % 64).toNat) = n := ⟨_, rfl⟩
      have hn2 : n = if (sparse_Write.rest off data pos).size ≤ 64 - (pos % 64).toNat then (sparse_Write.rest off data pos).size else 64 - (pos % 64).toNat := hn ▸ rfl
      rw [hn]
      have hput := put_len (pieceW out off data (pos / 64)) out
      have hc1 : cntW off data pos = cntW off data (pos + (n : Int)) + 1 := by
        unfold cntW
        rw [if_pos c]
        rw [hrs] at hn2
        split at hn2
        · rw [if_neg (by omega)]; omega
        · split <;> omega
      have hnx : pos + (n : Int) = off + (data.size : Int) ∨ ((pos + (n : Int)) % 64 = 0 ∧ (pos + (n : Int)) / 64 = pos / 64 + 1) := by
        rw [hrs] at hn2
        split at hn2
        · left; omega
        · right; omega
      have hle : pos + (n : Int) ≤ off + (data.size : Int) := by
        rw [hrs] at hn2
        split at hn2 <;> omega
      rw [write_l0 k off data h0 h1 m (pos + (n : Int)) _ (rise_put hr) (fun p h => by
        rcases mem_put h with rfl | h
        · exact ⟨mkB_size _ _, by show 0 ≤ pos / 64; omega, by show pos / 64 ≤ _; omega⟩
        · exact hp p h) (by omega) hle (by omega) (by omega) (by omega) (by omega), hc1]
      congr 1
      rcases hnx with he | ⟨_, he⟩
      · have hz : cntW off data (pos + (n : Int)) = 0 := by unfold cntW; rw [if_neg (by omega)]
        rw [hz]
        rfl
      · rw [he]
        rfl
    · rw [if_neg c]
      unfold cntW
      rw [if_neg c]
      rfl
/-- What Write answers. -/
theorem write_f (l : List Pc) (size off : Int) (data : ByteArray) (hl : l.length ≤ 100000) (k : Nat) (hk : 2 * l.length + 200 < k) :
    sparse_Write.f k l size off data = some (if goodB l size = true then (if off < 0 ∨ (data.size : Int) > 4096 then ([], 0, 1) else if off > 4611686018427387904 - (data.size : Int) then ([], 0, 130) else (writeL l off data, if data.size = 0 then size else max size (off + (data.size : Int)), 0)) else ([], 0, 21)) := by
  unfold sparse_Write.f
  rw [check_f l size (by omega) k (by omega), Option.bind_some]
  by_cases g : goodB l size = true
  · have hg := (goodB_iff _ _).1 g
    rw [if_pos g, if_pos g, if_neg (by decide)]
    by_cases c1 : off < 0 ∨ (data.size : Int) > 4096
    · rw [if_pos c1, if_pos c1]
    · rw [if_neg c1, if_neg c1]
      by_cases c2 : off > 4611686018427387904 - (data.size : Int)
      · rw [if_pos c2, if_pos c2]
      · rw [if_neg c2, if_neg c2, if_pos ⟨hg.lo, hg.hi⟩]
        unfold slices_Clone_Piece.f
        rw [if_pos (by omega), Option.bind_some]
        have hc : cntW off data off ≤ 66 := by unfold cntW; split <;> omega
        rw [write_l0 k off data (by omega) (by omega) k off l hg.rise (fun p hp => ⟨hg.sz p hp, (hg.idx p hp).1, by have := (hg.idx p hp).2; have := hg.hi; omega⟩) (by omega) (by omega) (.inl rfl) (by omega) (by omega) (by omega), Option.bind_some]
        have e : cntW off data off = countW off data := by
          unfold cntW countW
          by_cases z : data.size = 0
          · rw [if_pos z, if_neg (by omega)]
          · rw [if_neg z, if_pos (by omega)]
        rw [e]
        rfl
  · rw [if_neg g, if_neg g, if_pos (by decide)]
end Go.Proofs.YtgnffienfjigiaaDoor.SpP
