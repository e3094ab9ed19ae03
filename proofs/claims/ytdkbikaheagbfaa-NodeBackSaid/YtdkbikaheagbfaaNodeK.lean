import Derived.Test.YtdkbikaheagbfaaPAx21
import Derived.Test.YtdkbikaheagbfaaNodeI
/-! Nodes: a node's bytes are read as it was. -/
set_option linter.unusedVariables false
set_option linter.unusedSectionVars false
set_option linter.unusedSimpArgs false
namespace Go.Proofs.Ytdkbikaheagbfaa.NodeP
open Go.RowKit Go.Proofs.Ytdkbikaheagbfaa.PA Go.Proofs.YtdkbikaheagbfaaW.PrintWords Go.Proofs.YtdkbikaheagbfaaW.PrintLast Go.Proofs.YtdkbikaheagbfaaW.PrintMore
open Go.Proofs.Ytdkbikaheagbfaa.Plain Go.Proofs.Ytdkbikaheagbfaa.SimP
theorem flat_ge {α : Type} (f : α → List UInt8) : ∀ l : List α, (∀ x ∈ l, 1 ≤ (f x).length) → l.length ≤ (l.flatMap f).length
  | [], _ => by simp
  | x :: r, h => by
    rw [List.flatMap_cons, List.length_append, List.length_cons]
    have := h x (by simp); have := flat_ge f r (fun y hy => h y (by simp [hy]))
    omega
theorem item_ge (x : S44) : 1 ≤ (itemBytes x).length := by simp only [itemBytes, List.length_append, toList_len]; have := size_text x.f0; omega
theorem kid_ge (x : S46) : 1 ≤ (kidBytes x).length := by simp only [kidBytes, List.length_append, toList_len]; have := size_text x.f0; omega
theorem leaf_facts {l : List S44} {m : List S46} (h : rightB true l m = true) : m = [] ∧ 0 < l.length ∧ ∀ x ∈ l, itemFits x = true := by
  unfold rightB at h
  rw [if_pos rfl] at h
  simp only [Bool.and_eq_true, Bool.not_eq_true', List.any_eq_false, beq_iff_eq, decide_eq_true_eq] at h
  exact ⟨List.length_eq_zero_iff.mp (by omega), by omega, fun x hx => by have := h.2.2.2 x hx; simpa using this⟩
theorem kids_facts {l : List S44} {m : List S46} (h : rightB false l m = true) : l = [] ∧ 0 < m.length ∧ ∀ x ∈ m, kidFits x = true := by
  unfold rightB at h
  rw [if_neg Bool.false_ne_true] at h
  simp only [Bool.and_eq_true, Bool.not_eq_true', List.any_eq_false, beq_iff_eq, decide_eq_true_eq] at h
  exact ⟨List.length_eq_zero_iff.mp (by omega), by omega, fun x hx => by have := h.2.2.2 x hx; simpa using this⟩
theorem itemFits_of {x : S44} (h : itemFits x = true) : x.f0.size ≤ 272 ∧ x.f1.size ≤ 160 := by
  simp only [itemFits, Bool.and_eq_true, decide_eq_true_eq] at h; omega
theorem kidFits_of {x : S46} (h : kidFits x = true) : x.f0.size ≤ 272 ∧ 2 ≤ x.f1 ∧ x.f1 < 4096 := by
  simp only [kidFits, Bool.and_eq_true, decide_eq_true_eq] at h; omega
theorem sub1 (c : Int) (h0 : 0 < c) (h1 : c ≤ 1007) : IntKind.u64.wrap (c - 1) = c - 1 := by rw [wrap_u64]; omega
section
variable (l : List S44) (hck : checkR true l [] = 0)
def preL (j : Nat) : List UInt8 := [1] ++ ((shortB (l.length : Int)).toList ++ (l.take j).flatMap itemBytes)
theorem preL_zero : preL l 0 = [1] ++ (shortB (l.length : Int)).toList := by simp [preL]
theorem preL_all : preL l l.length = refBytes true l [] := by
  unfold preL refBytes
  rw [List.take_length]
  simp
theorem preL_succ (j : Nat) (hj : j < l.length) : preL l (j + 1) = preL l j ++ (textB (rd_T44 l (j : Int)).f0).toList ++ (textB (rd_T44 l (j : Int)).f1).toList := by
  unfold preL
  have : l.take (j + 1) = l.take j ++ [rd_T44 l (j : Int)] := by
    rw [List.take_succ_eq_append_getElem hj]
    unfold rd_T44
    rw [Int.toNat_natCast, List.getD_eq_getElem?_getD, List.getElem?_eq_getElem hj]; rfl
  rw [this, List.flatMap_append]
  simp [itemBytes]
theorem preL_split (j : Nat) (hj : j ≤ l.length) : refBytes true l [] = preL l j ++ (l.drop j).flatMap itemBytes := by
  rw [← preL_all]
  unfold preL
  rw [List.take_length]
  have : l.flatMap itemBytes = (l.take j).flatMap itemBytes ++ (l.drop j).flatMap itemBytes := by rw [← List.flatMap_append, List.take_append_drop]
  rw [this]
  simp
include hck
theorem leaf_len : l.length ≤ 1007 ∧ (refBytes true l []).length ≤ 1007 := by
  obtain ⟨h1, h2⟩ := checkR_ok true l [] hck
  have h3 := flat_ge itemBytes l (fun x _ => item_ge x)
  refine ⟨?_, h2⟩
  simp only [refBytes, List.length_append, List.flatMap_nil, List.append_nil] at h2
  omega
theorem leaf_at (n : Nat) : ∀ (k j : Nat) (R : ByteArray), n = l.length - j → 2 * n + 10200 < k → j ≤ l.length → Sim (ofL (refBytes true l [])) ((preL l j).length : Int) R →
    node_Decode.l0 k 1 ((l.length : Int) - j) (ofL (refBytes true l [])) ((preL l j).length : Int) 0 (decide (0 < j)) (l.take j) [] = some (true, l, [], 0) := by
  obtain ⟨z1, z2⟩ := leaf_len l hck
  have hr := (checkR_ok true l [] hck).1
  obtain ⟨_, hpos, hfit⟩ := leaf_facts hr
  have hsm : small l [] := small_of (by omega) (by simp) (fun x hx => by have := itemFits_of (hfit x hx); omega) (by simp)
  have hS : (ofL (refBytes true l [])).size ≤ 1007 := by rw [ofL_size]; exact z2
  induction n with
  | zero =>
    intro k j R hn hk hj h
    obtain ⟨k, rfl⟩ : ∃ q, k = q + 2 := ⟨k - 2, by omega⟩
    have hjl : j = l.length := by omega
    subst hjl
    obtain ⟨v, p1, p2, p3⟩ := end_both (ofL (refBytes true l [])) ((preL l l.length).length : Int) 0 R h (by omega)
    have hv : v = 0 := p3.mpr ⟨rfl, by rw [preL_all, ofL_size]⟩
    subst hv
    rw [List.take_length, decide_eq_true hpos]
    · rw [node_Decode.l0, if_neg (by omega), node_Decode.j1, if_neg Bool.false_ne_true, p1, Option.bind_some, if_pos rfl, ncheck_ok true l [] hsm, Option.bind_some, if_pos hck]
  | succ n ih =>
    intro k j R hn hk hj h
    obtain ⟨k, rfl⟩ : ∃ q, k = q + 2 := ⟨k - 2, by omega⟩
    have hjl : j < l.length := by omega
    have hd := drop44 l j hjl
    have hx := itemFits_of (hfit (rd_T44 l (j : Int)) (List.mem_of_mem_drop (i := j) (by rw [hd]; simp)))
    have hsp := preL_split l j (by omega)
    rw [hd, List.flatMap_cons] at hsp
    have e1 : ofL (refBytes true l []) = ofL (preL l j ++ ((textB (rd_T44 l (j : Int)).f0).toList ++ ((textB (rd_T44 l (j : Int)).f1).toList ++ (l.drop (j + 1)).flatMap itemBytes))) := by rw [hsp]; simp only [itemBytes, List.append_assoc]
    obtain ⟨p1, R1, p2, p3⟩ := text_at _ (preL l j) _ (rd_T44 l (j : Int)).f0 272 (by omega) e1 (by omega) R h k (by omega)
    have e2 : ofL (refBytes true l []) = ofL ((preL l j ++ (textB (rd_T44 l (j : Int)).f0).toList) ++ ((textB (rd_T44 l (j : Int)).f1).toList ++ (l.drop (j + 1)).flatMap itemBytes)) := by rw [e1, List.append_assoc]
    obtain ⟨q1, R2, q2, q3⟩ := text_at _ (preL l j ++ (textB (rd_T44 l (j : Int)).f0).toList) _ (rd_T44 l (j : Int)).f1 160 (by omega) e2 (by omega) R1 p3 k (by omega)
    rw [← preL_succ l j hjl] at q1 q3
    have htk : l.take j ++ [(⟨(rd_T44 l (j : Int)).f0, (rd_T44 l (j : Int)).f1⟩ : S44)] = l.take (j + 1) := by
      rw [List.take_succ_eq_append_getElem hjl]
      unfold rd_T44
      rw [Int.toNat_natCast, List.getD_eq_getElem?_getD, List.getElem?_eq_getElem hjl]; rfl
    have htl : (l.take j).length ≤ 1007 := by rw [List.length_take]; omega
    have g1 := ih k (j + 1) R2 (by omega) (by omega) (by omega) q3
    · obtain ⟨k, rfl⟩ : ∃ q, k = q := ⟨k, rfl⟩
      rw [node_Decode.l0, if_pos (by omega)]
      unfold pack_Reader_Err.f
      rw [Option.bind_some]
      show node_Decode.j1 (k + 1) 1 ((l.length : Int) - j) true (ofL (refBytes true l [])) ((preL l j).length : Int) 0 (decide (0 < j)) (l.take j) [] = _
      rw [node_Decode.j1, if_pos rfl, if_pos rfl, p1, Option.bind_some, q1, Option.bind_some, if_pos (by omega), htk, sub1 _ (by omega) (by omega)]
      rw [decide_eq_true (by omega), show (l.length : Int) - ((j + 1 : Nat) : Int) = (l.length : Int) - j - 1 by omega] at g1
      exact g1
end
section
variable (m : List S46) (hck : checkR false [] m = 0)
def preK (j : Nat) : List UInt8 := [2] ++ ((shortB (m.length : Int)).toList ++ (m.take j).flatMap kidBytes)
theorem preK_zero : preK m 0 = [2] ++ (shortB (m.length : Int)).toList := by simp [preK]
theorem preK_all : preK m m.length = refBytes false [] m := by
  unfold preK refBytes
  rw [List.take_length]
  simp
theorem preK_succ (j : Nat) (hj : j < m.length) : preK m (j + 1) = preK m j ++ (textB (rd_T46 m (j : Int)).f0).toList ++ (shortB ((rd_T46 m (j : Int)).f1 % 18446744073709551616)).toList := by
  unfold preK
  have : m.take (j + 1) = m.take j ++ [rd_T46 m (j : Int)] := by
    rw [List.take_succ_eq_append_getElem hj]
    unfold rd_T46
    rw [Int.toNat_natCast, List.getD_eq_getElem?_getD, List.getElem?_eq_getElem hj]; rfl
  rw [this, List.flatMap_append]
  simp [kidBytes]
theorem preK_split (j : Nat) (hj : j ≤ m.length) : refBytes false [] m = preK m j ++ (m.drop j).flatMap kidBytes := by
  rw [← preK_all]
  unfold preK
  rw [List.take_length]
  have : m.flatMap kidBytes = (m.take j).flatMap kidBytes ++ (m.drop j).flatMap kidBytes := by rw [← List.flatMap_append, List.take_append_drop]
  rw [this]
  simp
include hck
theorem kids_len : m.length ≤ 1007 ∧ (refBytes false [] m).length ≤ 1007 := by
  obtain ⟨h1, h2⟩ := checkR_ok false [] m hck
  have h3 := flat_ge kidBytes m (fun x _ => kid_ge x)
  refine ⟨?_, h2⟩
  simp only [refBytes, List.length_append, List.flatMap_nil, List.nil_append] at h2
  omega
theorem kids_at (n : Nat) : ∀ (k j : Nat) (R : ByteArray), n = m.length - j → 2 * n + 10200 < k → j ≤ m.length → Sim (ofL (refBytes false [] m)) ((preK m j).length : Int) R →
    node_Decode.l0 k 2 ((m.length : Int) - j) (ofL (refBytes false [] m)) ((preK m j).length : Int) 0 false [] (m.take j) = some (false, [], m, 0) := by
  obtain ⟨z1, z2⟩ := kids_len m hck
  have hr := (checkR_ok false [] m hck).1
  obtain ⟨_, hpos, hfit⟩ := kids_facts hr
  have hsm : small [] m := small_of (by simp) (by omega) (by simp) (fun x hx => by have := kidFits_of (hfit x hx); omega)
  have hS : (ofL (refBytes false [] m)).size ≤ 1007 := by rw [ofL_size]; exact z2
  induction n with
  | zero =>
    intro k j R hn hk hj h
    obtain ⟨k, rfl⟩ : ∃ q, k = q + 2 := ⟨k - 2, by omega⟩
    have hjl : j = m.length := by omega
    subst hjl
    obtain ⟨v, p1, p2, p3⟩ := end_both (ofL (refBytes false [] m)) ((preK m m.length).length : Int) 0 R h (by omega)
    have hv : v = 0 := p3.mpr ⟨rfl, by rw [preK_all, ofL_size]⟩
    subst hv
    rw [List.take_length]
    · rw [node_Decode.l0, if_neg (by omega), node_Decode.j1, if_neg Bool.false_ne_true, p1, Option.bind_some, if_pos rfl, ncheck_ok false [] m hsm, Option.bind_some, if_pos hck]
  | succ n ih =>
    intro k j R hn hk hj h
    obtain ⟨k, rfl⟩ : ∃ q, k = q + 2 := ⟨k - 2, by omega⟩
    have hjl : j < m.length := by omega
    have hd := drop46 m j hjl
    have hx := kidFits_of (hfit (rd_T46 m (j : Int)) (List.mem_of_mem_drop (i := j) (by rw [hd]; simp)))
    have hmod : (rd_T46 m (j : Int)).f1 % 18446744073709551616 = (rd_T46 m (j : Int)).f1 := Int.emod_eq_of_lt (by omega) (by omega)
    have hsp := preK_split m j (by omega)
    rw [hd, List.flatMap_cons] at hsp
    have hsuc := preK_succ m j hjl
    simp only [kidBytes, hmod] at hsp
    rw [hmod] at hsuc
    have e1 : ofL (refBytes false [] m) = ofL (preK m j ++ ((textB (rd_T46 m (j : Int)).f0).toList ++ ((shortB (rd_T46 m (j : Int)).f1).toList ++ (m.drop (j + 1)).flatMap kidBytes))) := by rw [hsp]; simp only [List.append_assoc]
    obtain ⟨p1, R1, p2, p3⟩ := text_at _ (preK m j) _ (rd_T46 m (j : Int)).f0 272 (by omega) e1 (by omega) R h k (by omega)
    have e2 : ofL (refBytes false [] m) = ofL ((preK m j ++ (textB (rd_T46 m (j : Int)).f0).toList) ++ ((shortB (rd_T46 m (j : Int)).f1).toList ++ (m.drop (j + 1)).flatMap kidBytes)) := by rw [e1, List.append_assoc]
    obtain ⟨q1, R2, q2, q3⟩ := short_at _ (preK m j ++ (textB (rd_T46 m (j : Int)).f0).toList) _ (rd_T46 m (j : Int)).f1 (by omega) e2 (by omega) R1 p3 k (by omega)
    rw [← hsuc] at q1 q3
    have hmn : wrap64 (mn (rd_T46 m (j : Int)).f1 4096) = (rd_T46 m (j : Int)).f1 := by
      unfold mn; rw [if_neg (by omega), wrap_in (by omega) (by omega)]
    have htk : m.take j ++ [(⟨(rd_T46 m (j : Int)).f0, (rd_T46 m (j : Int)).f1⟩ : S46)] = m.take (j + 1) := by
      rw [List.take_succ_eq_append_getElem hjl]
      unfold rd_T46
      rw [Int.toNat_natCast, List.getD_eq_getElem?_getD, List.getElem?_eq_getElem hjl]; rfl
    have htl : (m.take j).length ≤ 1007 := by rw [List.length_take]; omega
    have g1 := ih k (j + 1) R2 (by omega) (by omega) (by omega) q3
    · rw [node_Decode.l0, if_pos (by omega)]
      unfold pack_Reader_Err.f
      rw [Option.bind_some]
      show node_Decode.j1 (k + 1) 2 ((m.length : Int) - j) true (ofL (refBytes false [] m)) ((preK m j).length : Int) 0 false [] (m.take j) = _
      rw [node_Decode.j1, if_pos rfl, if_neg (by decide), if_pos rfl, p1, Option.bind_some, q1, Option.bind_some, if_pos (by omega), hmn, htk, sub1 _ (by omega) (by omega)]
      rw [show (m.length : Int) - ((j + 1 : Nat) : Int) = (m.length : Int) - j - 1 by omega] at g1
      exact g1
end
theorem decode_at (b : Bool) (l : List S44) (m : List S46) (hck : checkR b l m = 0) (k : Nat) (hk : 13000 ≤ k) :
    node_Decode.f k (ofL (refBytes b l m)) = some (b, l, m, 0) := by
  have hr := (checkR_ok b l m hck).1
  obtain ⟨k, rfl⟩ : ∃ q, k = q + 1 := ⟨k - 1, by omega⟩
  have head : ∀ (c : UInt8) (cnt : Int) (M : List UInt8), 0 ≤ cnt → cnt < 18446744073709551616 → refBytes b l m = [c] ++ ((shortB cnt).toList ++ M) → (ofL (refBytes b l m)).size ≤ 1007 →
      ∃ R R', pack_Reader_Byte.f (ofL (refBytes b l m)) 0 0 = some ((c.toNat : Int), ofL (refBytes b l m), 1, 0) ∧ coppiceref02_Reader_Byte.f (ofL (refBytes b l m)) 0 = some ((c.toNat : Int), R, 0) ∧
        pack_Reader_Short.f (ofL (refBytes b l m)) 1 0 = some (cnt, ofL (refBytes b l m), (([c] ++ (shortB cnt).toList).length : Int), 0) ∧ coppiceref02_Reader_Short.f (k + 1) R 0 = some (cnt, R', 0) ∧ Sim (ofL (refBytes b l m)) (([c] ++ (shortB cnt).toList).length : Int) R' := by
    intro c cnt M h0 h1 hb hS
    have hz : 1 ≤ (refBytes b l m).length := refBytes_pos b l m
    obtain ⟨v, a1, e1, R1, p1, p2, p3, p4, p5⟩ := byte_both (ofL (refBytes b l m)) 0 0 _ (Sim.start _) (by omega)
    have hB := PackP.byte_ok (ofL (refBytes b l m)) 0 (by omega) (by omega) (by omega) (by rw [ofL_size]; omega)
    have hbt : bt (ofL (refBytes b l m)) 0 = (c.toNat : Int) := by
      rw [hb]
      have := bt_nat (ofL ([c] ++ ((shortB cnt).toList ++ M))) 0 (by rw [ofL_size]; simp)
      exact this
    rw [hbt] at hB
    rw [hB] at p1
    simp only [Option.some.injEq, Prod.mk.injEq] at p1
    obtain ⟨rfl, _, rfl, rfl⟩ := p1
    obtain ⟨q1, R2, q2, q3⟩ := short_at (ofL (refBytes b l m)) [c] M cnt ⟨h0, h1⟩ (by rw [hb]) (by omega) R1 p3 (k + 1) (by omega)
    exact ⟨R1, R2, hB, p2, q1, q2, q3⟩
  cases b with
  | true =>
    obtain ⟨rfl, hpos, _⟩ := leaf_facts hr
    obtain ⟨z1, z2⟩ := leaf_len l hck
    have hS : (ofL (refBytes true l [])).size ≤ 1007 := by rw [ofL_size]; exact z2
    obtain ⟨R, R', g1, g2, g3, g4, g5⟩ := head 1 (l.length : Int) (l.flatMap itemBytes) (by omega) (by omega) (by simp [refBytes]) hS
    rw [← preL_zero] at g3 g5
    have f1 := leaf_at l hck l.length (k + 1) 0 R' (by omega) (by omega) (by omega) g5
    · unfold node_Decode.f pack_Read.f
      rw [Option.bind_some, g1, Option.bind_some, g3, Option.bind_some]
      have : (l.length : Int) - ((0 : Nat) : Int) = l.length := by omega
      rw [this] at f1
      exact f1
  | false =>
    obtain ⟨rfl, hpos, _⟩ := kids_facts hr
    obtain ⟨z1, z2⟩ := kids_len m hck
    have hS : (ofL (refBytes false [] m)).size ≤ 1007 := by rw [ofL_size]; exact z2
    obtain ⟨R, R', g1, g2, g3, g4, g5⟩ := head 2 (m.length : Int) (m.flatMap kidBytes) (by omega) (by omega) (by simp [refBytes]) hS
    rw [← preK_zero] at g3 g5
    have f1 := kids_at m hck m.length (k + 1) 0 R' (by omega) (by omega) (by omega) g5
    · unfold node_Decode.f pack_Read.f
      rw [Option.bind_some, g1, Option.bind_some, g3, Option.bind_some]
      have : (m.length : Int) - ((0 : Nat) : Int) = m.length := by omega
      rw [this] at f1
      exact f1
theorem small_ok (b : Bool) (l : List S44) (m : List S46) (hc : checkR b l m = 0) : small l m := by
  have hr := (checkR_ok b l m hc).1
  cases b with
  | true =>
    obtain ⟨rfl, _, hf⟩ := leaf_facts hr
    have := leaf_len l hc
    exact small_of (by omega) (by simp) (fun x hx => by have := itemFits_of (hf x hx); omega) (by simp)
  | false =>
    obtain ⟨rfl, _, hf⟩ := kids_facts hr
    have := kids_len m hc
    exact small_of (by simp) (by omega) (by simp) (fun x hx => by have := kidFits_of (hf x hx); omega)
end Go.Proofs.Ytdkbikaheagbfaa.NodeP
