/- PackBack: what was written is read, one behind the other, and nothing is left. -/
import Derived.Test.YtlicdfipockgaaaPAx17
import Derived.Test.YtlicdfipockgaaaPackAt
import Derived.Test.YtlicdfipockgaaaPackLeft
namespace Go.Proofs.Ytlicdfipockgaaa.PureBack
open Go.RowKit Go.Proofs.Ytlicdfipockgaaa.PA Go.Proofs.YtlicdfipockgaaaW.PrintWords Go.Proofs.YtlicdfipockgaaaW.PrintLast Go.Proofs.YtlicdfipockgaaaW.PrintMore
open Go.Proofs.Ytlicdfipockgaaa.Plain Go.Proofs.Ytlicdfipockgaaa.PackP

theorem awake_true : coppicelaw02_awake.f = some true := by decide +kernel
theorem u64_bounds (a : Int) (h : (Lit.int .u64 a).wf = true) : 0 ≤ a ∧ a < 18446744073709551616 := by
  simp [Lit.wf, IntKind.min, IntKind.max, IntKind.signed, IntKind.bits] at h; omega
theorem rd_mid (l : List Int) (n : Int) (r : List Int) : rd (l ++ n :: r) (l.length : Int) = n := by simp [rd]
theorem rdOf_mid (d : ByteArray) (l : List ByteArray) (n : ByteArray) (r : List ByteArray) : rdOf d (l ++ n :: r) (l.length : Int) = n := by simp [rdOf]
def encN : List Int → ByteArray
  | [] => ⟨#[]⟩
  | n :: r => strOfNums (fixedNums n) ++ strOfNums (shortNums 9 n) ++ encN r
def encT : List ByteArray → ByteArray
  | [] => ⟨#[]⟩
  | t :: r => (strOfNums (shortNums 9 t.size) ++ t) ++ encT r
theorem app_nil (x : ByteArray) : x ++ (⟨#[]⟩ : ByteArray) = x := ByteArray.append_empty
theorem nil_app (x : ByteArray) : (⟨#[]⟩ : ByteArray) ++ x = x := ByteArray.empty_append
theorem encN_size : ∀ l, (encN l).size ≤ 18 * l.length
  | [] => by simp [encN, ByteArray.size]
  | n :: r => by
    have := encN_size r
    have h9 := shortNums_len 9 n
    have h8 : (fixedNums n).length = 8 := rfl
    rw [encN, mid_size, strOfNums_size, strOfNums_size, List.length_cons]; omega
theorem encT_size : ∀ l : List ByteArray, (∀ t ∈ l, t.size ≤ 4096) → (encT l).size ≤ 4106 * l.length
  | [], _ => by simp [encT, ByteArray.size]
  | t :: r, h => by
    have := encT_size r (fun x hx => h x (List.mem_cons_of_mem _ hx))
    have h9 := shortNums_len 9 t.size
    have ht := h t (List.mem_cons_self ..)
    rw [encT, mid_size, strOfNums_size, List.length_cons]; omega
theorem step0 (K : Nat) (done : List Int) (n : Int) (rest : List Int) (x1 : List ByteArray) (acc : ByteArray) (hn : 0 ≤ n ∧ n < 18446744073709551616) (hz : acc.size ≤ 4611686018427387904) (hd : done.length ≤ 1000) :
    coppicelaw02_PackBack.l0 (K + 1) (done ++ n :: rest) x1 acc (done.length : Int) = coppicelaw02_PackBack.l0 K ((done ++ [n]) ++ rest) x1 (acc ++ (strOfNums (fixedNums n) ++ strOfNums (shortNums 9 n))) ((done ++ [n]).length : Int) := by
  have h9 := shortNums_len 9 n
  have h8 : (fixedNums n).length = 8 := rfl
  have hF : pack_Fixed.f n = some (strOfNums (fixedNums n)) := by unfold pack_Fixed.f; rw [if_pos hn]
  have hS : pack_Short.f n = some (strOfNums (shortNums 9 n)) := by unfold pack_Short.f; rw [if_pos hn]
  have z1 := strOfNums_size (fixedNums n)
  have z2 := strOfNums_size (shortNums 9 n)
  rw [coppicelaw02_PackBack.l0, rd_mid, if_pos (by rw [List.length_append, List.length_cons]; omega), if_pos (by omega), hF, Option.bind_some, if_pos (by omega), hS, Option.bind_some, if_pos (by omega), w64 _ (by omega) (by omega)]
  rw [List.append_assoc, List.singleton_append, ByteArray.append_assoc, List.length_append, List.length_singleton]
  rfl
theorem l0_all (x1 : List ByteArray) (K : Nat) : ∀ (rest done : List Int) (acc : ByteArray), (∀ n ∈ rest, 0 ≤ n ∧ n < 18446744073709551616) → done.length + rest.length ≤ 100 → acc.size ≤ 18 * done.length →
    coppicelaw02_PackBack.l0 (K + rest.length + 1) (done ++ rest) x1 acc (done.length : Int) = coppicelaw02_PackBack.l1 K (done ++ rest) x1 (acc ++ encN rest) 0
  | [], done, acc, _, _, _ => by
    rw [coppicelaw02_PackBack.l0, if_neg (by rw [List.append_nil]; omega), encN, app_nil]; rfl
  | n :: rest, done, acc, hr, hd, hz => by
    have h9 := shortNums_len 9 n
    have h8 : (fixedNums n).length = 8 := rfl
    have := l0_all x1 K rest (done ++ [n]) (acc ++ (strOfNums (fixedNums n) ++ strOfNums (shortNums 9 n))) (fun x hx => hr x (List.mem_cons_of_mem _ hx)) (by simp only [List.length_append, List.length_cons, List.length_nil] at *; omega) (by
      rw [ByteArray.size_append, ByteArray.size_append, strOfNums_size, strOfNums_size, List.length_append, List.length_singleton]; omega)
    rw [List.length_cons, show K + (rest.length + 1) + 1 = (K + rest.length + 1) + 1 by omega, step0 _ done n rest x1 acc (hr n (List.mem_cons_self ..)) (by simp only [List.length_cons] at hd; omega) (by omega), this]
    rw [encN, List.append_assoc, List.singleton_append, ByteArray.append_assoc]
def zed : ByteArray := ⟨#[122]⟩
theorem l1_all (x0 : List Int) (K : Nat) (B : Nat) (hB : B ≤ 1000000) : ∀ (rest done : List ByteArray) (acc : ByteArray), done.length + rest.length ≤ 100 → acc.size ≤ B + 4106 * done.length →
    coppicelaw02_PackBack.l1 (K + rest.length + 1) x0 (done ++ rest) acc (done.length : Int) = some true ∨ ((∀ t ∈ rest, t.size ≤ 4096) ∧
    coppicelaw02_PackBack.l1 (K + rest.length + 1) x0 (done ++ rest) acc (done.length : Int) = coppicelaw02_PackBack.l2 K x0 (done ++ rest) 0 (acc ++ encT rest ++ zed) 0 0)
  | [], done, acc, _, hz => by
    refine Or.inr ⟨by simp, ?_⟩
    rw [coppicelaw02_PackBack.l1, if_neg (by rw [List.append_nil]; omega), if_pos (by omega), encT, app_nil]; rfl
  | t :: rest, done, acc, hd, hz => by
    have h9 := shortNums_len 9 t.size
    rw [List.length_cons, show K + (rest.length + 1) + 1 = (K + rest.length + 1) + 1 by omega, coppicelaw02_PackBack.l1, rdOf_mid, if_pos (by rw [List.length_append, List.length_cons]; omega), if_pos (by omega)]
    by_cases c : (t.size : Int) > 4096
    · exact Or.inl (by rw [if_pos c])
    have hT : pack_Text.f t = some (strOfNums (shortNums 9 t.size) ++ t) := by unfold pack_Text.f; rw [if_pos (by omega)]
    have z1 : (strOfNums (shortNums 9 t.size) ++ t).size = (shortNums 9 t.size).length + t.size := by rw [ByteArray.size_append, strOfNums_size]
    simp only [List.length_cons] at hd
    rw [if_neg c, hT, Option.bind_some, if_pos (by omega), w64 _ (by omega) (by omega)]
    have := l1_all x0 K B hB rest (done ++ [t]) (acc ++ (strOfNums (shortNums 9 t.size) ++ t)) (by simp only [List.length_append, List.length_cons, List.length_nil] at *; omega) (by
      rw [ByteArray.size_append, z1, List.length_append, List.length_singleton]; omega)
    rw [List.append_assoc, List.singleton_append, List.length_append, List.length_singleton] at this
    rcases this with h | ⟨h1, h2⟩
    · exact Or.inl h
    · refine Or.inr ⟨?_, ?_⟩
      · intro x hx
        rcases List.mem_cons.1 hx with rfl | hx
        · omega
        · exact h1 x hx
      · refine Eq.trans h2 ?_
        rw [encT]
        simp only [ByteArray.append_assoc]
theorem l2_all (x1 : List ByteArray) (K : Nat) (hK : 8 < K) (s : ByteArray) (hs2 : s.size ≤ 4611686018427387904) (w : ByteArray) : ∀ (rest done : List Int) (u : ByteArray), (∀ n ∈ rest, 0 ≤ n ∧ n < 18446744073709551616) → done.length + rest.length ≤ 100 → s = u ++ encN rest ++ w →
    coppicelaw02_PackBack.l2 (K + rest.length + 1) (done ++ rest) x1 (done.length : Int) s (u.size : Int) 0 = coppicelaw02_PackBack.l3 K x1 0 s ((u ++ encN rest).size : Int) 0
  | [], done, u, _, _, hs => by
    rw [coppicelaw02_PackBack.l2, if_neg (by rw [List.append_nil]; omega), encN, app_nil]; rfl
  | n :: rest, done, u, hr, hd, hs => by
    have hn := hr n (List.mem_cons_self ..)
    have h9 := shortNums_len 9 n
    have h8 : (fixedNums n).length = 8 := rfl
    have z1 := strOfNums_size (fixedNums n)
    have z2 := strOfNums_size (shortNums 9 n)
    have r1 := at_fixed u (strOfNums (shortNums 9 n) ++ encN rest ++ w) n hn.1 hn.2 (K + rest.length + 1) (by omega) s u.size (by rw [hs, encN]; simp only [ByteArray.append_assoc]) rfl hs2
    have r2 := at_short (u ++ strOfNums (fixedNums n)) (encN rest ++ w) n hn.1 hn.2 s ((u.size : Int) + 8) (by rw [hs, encN]; simp only [ByteArray.append_assoc]) (by rw [ByteArray.size_append, z1, h8]; omega) hs2
    have ih := l2_all x1 K hK s hs2 w rest (done ++ [n]) (u ++ strOfNums (fixedNums n) ++ strOfNums (shortNums 9 n)) (fun x hx => hr x (List.mem_cons_of_mem _ hx)) (by simp only [List.length_append, List.length_cons, List.length_nil] at *; omega) (by rw [hs, encN]; simp only [ByteArray.append_assoc])
    rw [mid_size, z1, z2, h8, List.append_assoc, List.singleton_append, List.length_append, List.length_singleton] at ih
    have e1 : (u.size : Int) + 8 + ((shortNums 9 n).length : Int) = ((u.size + 8 + (shortNums 9 n).length : Nat) : Int) := by omega
    simp only [List.length_cons] at hd
    rw [List.length_cons, show K + (rest.length + 1) + 1 = (K + rest.length + 1) + 1 by omega, coppicelaw02_PackBack.l2, rd_mid, if_pos (by rw [List.length_append, List.length_cons]; omega), r1, Option.bind_some, if_pos (by omega), if_pos rfl, r2, Option.bind_some, if_pos rfl, w64 _ (by omega) (by omega), e1]
    refine Eq.trans ih ?_
    rw [encN]
    simp only [ByteArray.append_assoc]
theorem l3_all (K : Nat) (hK : 8 < K) (s : ByteArray) (hs2 : s.size ≤ 4611686018427387904) : ∀ (rest done : List ByteArray) (u : ByteArray), (∀ t ∈ rest, t.size ≤ 4096) → done.length + rest.length ≤ 100 → s = u ++ encT rest ++ zed →
    coppicelaw02_PackBack.l3 (K + rest.length + 1) (done ++ rest) (done.length : Int) s (u.size : Int) 0 = some true
  | [], done, u, _, _, hs => by
    rw [encT, app_nil] at hs
    have hz : s.size = u.size + 1 := by rw [hs, ByteArray.size_append]; rfl
    have hb : bt s (u.size : Int) = 122 := by
      have := mid_bt u zed ⟨#[]⟩ 0 (by decide)
      rw [app_nil, ← hs] at this
      rw [show (u.size : Int) + ((0 : Nat) : Int) = (u.size : Int) by omega] at this
      rw [this]; rfl
    have hl := left_ok s u.size (by omega) (by omega) hs2
    have hB := byte_ok s u.size (by omega) (by omega) hs2 (by omega)
    have e1 : (s.size : Int) - (u.size : Int) = 1 := by omega
    rw [e1] at hl
    rw [hb] at hB
    rw [coppicelaw02_PackBack.l3, if_neg (by rw [List.append_nil]; omega), hl, Option.bind_some, if_pos rfl, hB, Option.bind_some, if_pos rfl]
    unfold pack_Reader_End.f
    rw [if_neg (show ¬ ((0 : Int) = 0 ∧ (u.size : Int) + 1 < (s.size : Int)) by omega), Option.bind_some]
    rfl
  | t :: rest, done, u, hr, hd, hs => by
    have ht := hr t (List.mem_cons_self ..)
    have h9 := shortNums_len 9 t.size
    have r1 := at_text u (encT rest ++ zed) t (K + rest.length + 1) (by omega) s u.size (by rw [hs, encT]; simp only [ByteArray.append_assoc]) rfl hs2 t.size (by omega)
    have ih := l3_all K hK s hs2 rest (done ++ [t]) (u ++ strOfNums (shortNums 9 t.size) ++ t) (fun x hx => hr x (List.mem_cons_of_mem _ hx)) (by simp only [List.length_append, List.length_cons, List.length_nil] at *; omega) (by rw [hs, encT]; simp only [ByteArray.append_assoc])
    rw [mid_size, strOfNums_size, List.append_assoc, List.singleton_append, List.length_append, List.length_singleton] at ih
    have e1 : (u.size : Int) + ((shortNums 9 t.size).length : Int) + (t.size : Int) = ((u.size + (shortNums 9 t.size).length + t.size : Nat) : Int) := by omega
    simp only [List.length_cons] at hd
    rw [List.length_cons, show K + (rest.length + 1) + 1 = (K + rest.length + 1) + 1 by omega, coppicelaw02_PackBack.l3, rdOf_mid, if_pos (by rw [List.length_append, List.length_cons]; omega), if_pos (by omega), r1, Option.bind_some, if_pos rfl, w64 _ (by omega) (by omega), e1]
    exact ih
theorem PackBack : coppicelaw02_PackBack.Pure := by
  intro x0 x1 h0 h1
  have h0 : ∀ n ∈ x0, 0 ≤ n ∧ n < 18446744073709551616 := fun n hn => u64_bounds n (h0.2 n hn)
  by_cases c0 : (x0.length : Int) > 100
  · refine ⟨1, ?_⟩
    unfold coppicelaw02_PackBack.f
    rw [awake_true, Option.bind_some, if_pos rfl, if_pos c0, coppicelaw02_PackBack.j0, if_pos rfl]
  by_cases c1 : (x1.length : Int) > 100
  · refine ⟨1, ?_⟩
    unfold coppicelaw02_PackBack.f
    rw [awake_true, Option.bind_some, if_pos rfl, if_neg c0, coppicelaw02_PackBack.j0, if_pos (decide_eq_true c1)]
  have e0 := l0_all x1 (((20 + x1.length + 1) + x0.length + 1) + x1.length + 1) x0 [] ⟨#[]⟩ h0 (by simp only [List.length_nil]; omega) (by decide)
  rw [nil_app, List.nil_append] at e0
  have zN := encN_size x0
  have e1 := l1_all x0 ((20 + x1.length + 1) + x0.length + 1) (encN x0).size (by omega) x1 [] (encN x0) (by simp only [List.length_nil]; omega) (by simp)
  refine ⟨((((20 + x1.length + 1) + x0.length + 1) + x1.length + 1) + x0.length + 1) + 1, ?_⟩
  unfold coppicelaw02_PackBack.f
  rw [awake_true, Option.bind_some, if_pos rfl, if_neg c0, coppicelaw02_PackBack.j0, decide_eq_false c1, if_neg (by decide)]
  refine Eq.trans e0 ?_
  rcases e1 with h | ⟨ht, h⟩
  · exact h
  refine Eq.trans h ?_
  rw [List.nil_append]
  have zT := encT_size x1 ht
  have hs2 : (encN x0 ++ encT x1 ++ zed).size ≤ 4611686018427387904 := by
    rw [mid_size]
    have : zed.size = 1 := rfl
    omega
  have e2 := l2_all x1 (20 + x1.length + 1) (by omega) (encN x0 ++ encT x1 ++ zed) hs2 (encT x1 ++ zed) x0 [] ⟨#[]⟩ h0 (by simp only [List.length_nil]; omega) (by rw [nil_app, ByteArray.append_assoc])
  rw [nil_app, List.nil_append] at e2
  refine Eq.trans e2 ?_
  exact l3_all 20 (by omega) (encN x0 ++ encT x1 ++ zed) hs2 x1 [] (encN x0) ht (by simp only [List.length_nil]; omega) rfl
end Go.Proofs.Ytlicdfipockgaaa.PureBack
namespace Go.Proofs.Ytlicdfipockgaaa.Pure
theorem PackBack : Go.Proofs.Ytlicdfipockgaaa.PA.coppicelaw02_PackBack.Pure := Go.Proofs.Ytlicdfipockgaaa.PureBack.PackBack
end Go.Proofs.Ytlicdfipockgaaa.Pure
