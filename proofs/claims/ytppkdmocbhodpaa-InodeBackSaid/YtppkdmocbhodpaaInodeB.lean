import Derived.Test.YtppkdmocbhodpaaPAx11
import Derived.Test.YtppkdmocbhodpaaInode
import Derived.Test.YtppkdmocbhodpaaOwn
/-! inode's Decode: what is decoded has just these bytes; what was encoded is decoded as it was. -/
namespace Go.Proofs.Ytppkdmocbhodpaa.InodeP
open Go.RowKit Go.Proofs.Ytppkdmocbhodpaa.PA Go.Proofs.YtppkdmocbhodpaaW.PrintWords Go.Proofs.YtppkdmocbhodpaaW.PrintLast Go.Proofs.YtppkdmocbhodpaaW.PrintMore
open Go.Proofs.Ytppkdmocbhodpaa.Plain Go.Proofs.Ytppkdmocbhodpaa.TargetP Go.Proofs.Ytppkdmocbhodpaa.OwnP

abbrev Ino := Int × Int × Int × Int × Int × ByteArray × Int
def noIno : Ino := (0, 0, 0, 0, 0, E, 21)
/-- What both answer of bytes that were read up to an inode's end. -/
def decEnd (a0 a1 a2 a3 a4 : Int) (T : ByteArray) (ok : Bool) : Ino := if ok && isRight a0 a1 a3 a4 T then (a0, a1, a2, a3, a4, T, 0) else noIno
theorem pw64 (x : Int) (h0 : -9223372036854775808 ≤ x) (h1 : x ≤ 9223372036854775807) : wrap64 x = x := by unfold wrap64; omega
section
variable (s : ByteArray) (a e : Int) (h : OwnP.In s a) (h2 : s.size ≤ 4611686018427387904)
include h h2
theorem j0_ok (k : Nat) (hk : 2 ≤ k) (a0 a1 a2 a3 a4 : Int) (T : ByteArray) :
    inode_Decode.j0 (k + 1) s a e a0 a1 a2 a3 a4 T = some (decEnd a0 a1 a2 a3 a4 T (decide (e = 0 ∧ a = s.size))) := by
  obtain ⟨v, hv, hz⟩ := end_own s a e h h2
  rw [inode_Decode.j0, hv, Option.bind_some]
  unfold decEnd
  by_cases c : v = 0
  · rw [if_pos c, check_ok a0 a1 a2 a3 a4 T k hk, Option.bind_some, decide_eq_true (hz.1 c), Bool.true_and]
    unfold code
    cases isRight a0 a1 a3 a4 T <;> rfl
  · rw [if_neg c, decide_eq_false (fun q => c (hz.2 q))]
    rfl
end
theorem two_extract (s : ByteArray) (a b c : Nat) (h1 : a ≤ b) (h2 : b ≤ c) (h3 : c ≤ s.size) : s.extract a b ++ s.extract b c = s.extract a c := by
  have z1 : (s.extract a b).size = b - a := by rw [ByteArray.size_extract]; omega
  have z2 : (s.extract b c).size = c - b := by rw [ByteArray.size_extract]; omega
  have z3 : (s.extract a c).size = c - a := by rw [ByteArray.size_extract]; omega
  apply ba_ext _ _ (by rw [ByteArray.size_append]; omega)
  intro i hi
  rw [ByteArray.size_append] at hi
  rw [bt_extract s a c i (by omega)]
  rcases Nat.lt_or_ge i (b - a) with hl | hl
  · rw [bt_append_left _ _ i (by omega), bt_extract s a b i (by omega)]
  · obtain ⟨j, rfl⟩ : ∃ j, i = (b - a) + j := ⟨i - (b - a), by omega⟩
    have := bt_append_right (s.extract a b) (s.extract b c) j (by omega)
    rw [z1] at this
    rw [this, bt_extract s b c j (by omega)]
    congr 1
    omega
theorem tm_wrap (x : Int) (h0 : 0 ≤ x) (h1 : x < 18446744073709551616) : tm (wrap64 x) = x := by
  have : tm (wrap64 x) = wrap64 x % 18446744073709551616 := wrap_u64 _
  rw [this]; unfold wrap64; omega
/-- What is decoded is right, and has just these bytes. -/
theorem decode_own (s : ByteArray) (h2 : s.size ≤ 4611686018427387904) (k : Nat) (hk : 200 ≤ k) :
    ∃ r : Ino, inode_Decode.f k s = some r ∧ (r = noIno ∨ (r.2.2.2.2.2.2 = 0 ∧ isRight r.1 r.2.1 r.2.2.2.1 r.2.2.2.2.1 r.2.2.2.2.2.1 = true ∧ bytes r.1 r.2.1 r.2.2.1 r.2.2.2.1 r.2.2.2.2.1 r.2.2.2.2.2.1 = s)) := by
  obtain ⟨v0, b0, e0, p0, S0, P0, w0⟩ := byte_own s 0 0 ⟨by omega, by omega⟩ h2
  obtain ⟨v1, b1, e1, p1, S1, P1, w1⟩ := short_own s b0 e0 S0 h2
  obtain ⟨v2, b2, e2, p2, S2, P2, w2⟩ := fixed_own s b1 e1 S1 h2 k (by omega)
  obtain ⟨v3, b3, e3, p3, S3, P3, w3⟩ := short_own s b2 e2 S2 h2
  obtain ⟨m, rfl⟩ : ∃ m, k = m + 3 := ⟨k - 3, by omega⟩
  unfold inode_Decode.f
  rw [show pack_Read.f s = some (s, 0, 0) from rfl, Option.bind_some, p0, Option.bind_some, p1, Option.bind_some, p2, Option.bind_some, p3, Option.bind_some, pw64 v0 (by omega) (by omega)]
  -- what the end says
  have fin : ∀ (b4 e4 v4 : Int) (T t : ByteArray) (a4 : Int), b3 ≤ b4 → b4 ≤ s.size → (e4 = 0 → e3 = 0 ∧ s.extract b3.toNat b4.toNat = t) → (isRight v0 (wrap64 v1) (wrap64 v3) a4 T = true → t = tail v0 a4 T) →
      (decEnd v0 (wrap64 v1) (wrap64 v2) (wrap64 v3) a4 T (decide (e4 = 0 ∧ b4 = s.size)) = noIno ∨
        ((decEnd v0 (wrap64 v1) (wrap64 v2) (wrap64 v3) a4 T (decide (e4 = 0 ∧ b4 = s.size))).2.2.2.2.2.2 = 0 ∧
         isRight (decEnd v0 (wrap64 v1) (wrap64 v2) (wrap64 v3) a4 T (decide (e4 = 0 ∧ b4 = s.size))).1 (decEnd v0 (wrap64 v1) (wrap64 v2) (wrap64 v3) a4 T (decide (e4 = 0 ∧ b4 = s.size))).2.1 (decEnd v0 (wrap64 v1) (wrap64 v2) (wrap64 v3) a4 T (decide (e4 = 0 ∧ b4 = s.size))).2.2.2.1 (decEnd v0 (wrap64 v1) (wrap64 v2) (wrap64 v3) a4 T (decide (e4 = 0 ∧ b4 = s.size))).2.2.2.2.1 (decEnd v0 (wrap64 v1) (wrap64 v2) (wrap64 v3) a4 T (decide (e4 = 0 ∧ b4 = s.size))).2.2.2.2.2.1 = true ∧
         bytes (decEnd v0 (wrap64 v1) (wrap64 v2) (wrap64 v3) a4 T (decide (e4 = 0 ∧ b4 = s.size))).1 (decEnd v0 (wrap64 v1) (wrap64 v2) (wrap64 v3) a4 T (decide (e4 = 0 ∧ b4 = s.size))).2.1 (decEnd v0 (wrap64 v1) (wrap64 v2) (wrap64 v3) a4 T (decide (e4 = 0 ∧ b4 = s.size))).2.2.1 (decEnd v0 (wrap64 v1) (wrap64 v2) (wrap64 v3) a4 T (decide (e4 = 0 ∧ b4 = s.size))).2.2.2.1 (decEnd v0 (wrap64 v1) (wrap64 v2) (wrap64 v3) a4 T (decide (e4 = 0 ∧ b4 = s.size))).2.2.2.2.1 (decEnd v0 (wrap64 v1) (wrap64 v2) (wrap64 v3) a4 T (decide (e4 = 0 ∧ b4 = s.size))).2.2.2.2.2.1 = s)) := by
    intro b4 e4 v4 T t a4 hb hb' ht htt
    unfold decEnd
    by_cases c : e4 = 0 ∧ b4 = s.size
    · rw [decide_eq_true c, Bool.true_and]
      cases hR : isRight v0 (wrap64 v1) (wrap64 v3) a4 T with
      | false => exact .inl rfl
      | true =>
        refine .inr ⟨rfl, hR, ?_⟩
        obtain ⟨t3, tt⟩ := ht c.1
        obtain ⟨t2, l3, x3⟩ := w3 t3
        obtain ⟨t1, l2, x2⟩ := w2 t2
        obtain ⟨t0, l1, x1⟩ := w1 t1
        obtain ⟨_, l0, x0⟩ := w0 t0
        obtain ⟨f1, f2, f3, f4, f5, f6, f7, f8, f9⟩ := right_facts v0 (wrap64 v1) (wrap64 v3) a4 T hR
        have m1 : wrap64 v1 = v1 := by unfold wrap64 at *; omega
        have m3 : wrap64 v3 = v3 := by unfold wrap64 at *; omega
        show bytes v0 (wrap64 v1) (wrap64 v2) (wrap64 v3) a4 T = s
        unfold bytes
        rw [← htt hR, ← tt, m1, m3, tm_wrap v2 P2.1 P2.2, show v0 % 256 = v0 by omega]
        replace x0 : s.extract (0 : Int).toNat b0.toNat = strOfNums [v0] := x0
        replace x1 : s.extract b0.toNat b1.toNat = strOfNums (shortNums 9 v1) := x1
        replace x2 : s.extract b1.toNat b2.toNat = strOfNums (fixedNums v2) := x2
        replace x3 : s.extract b2.toNat b3.toNat = strOfNums (shortNums 9 v3) := x3
        rw [← x0, ← x1, ← x2, ← x3]
        have g0 := S0.h0; have g1 := S1.h0; have g2 := S2.h0; have g3 := S3.h0
        have g0' := S0.h1; have g1' := S1.h1; have g2' := S2.h1; have g3' := S3.h1
        rw [two_extract s _ _ _ (by omega) (by omega) (by omega), two_extract s _ _ _ (by omega) (by omega) (by omega), two_extract s _ _ _ (by omega) (by omega) (by omega), two_extract s _ _ _ (by omega) (by omega) (by omega)]
        rw [c.2, show ((0 : Int).toNat) = 0 from rfl, Int.toNat_natCast, ByteArray.extract_zero_size]
    · rw [decide_eq_false c]
      exact .inl rfl
  by_cases k1 : v0 = 1
  · obtain ⟨v4, b4, e4, p4, S4, P4, w4⟩ := short_own s b3 e3 S3 h2
    rw [if_pos k1, p4, Option.bind_some, j0_ok s b4 e4 S4 h2 (m + 2) (by omega)]
    refine ⟨_, rfl, ?_⟩
    by_cases ce : e4 = 0
    · have ww := w4 ce
      refine fin b4 e4 v4 ⟨#[]⟩ (strOfNums (shortNums 9 v4)) (wrap64 v4) ww.2.1 S4.h1 (fun _ => ⟨ww.1, ww.2.2⟩) ?_
      intro hR
      obtain ⟨f1, f2, f3, f4, f5, f6, f7, f8, f9⟩ := right_facts v0 (wrap64 v1) (wrap64 v3) (wrap64 v4) _ hR
      have m4 : wrap64 v4 = v4 := by unfold wrap64 at *; omega
      unfold tail
      rw [if_pos k1, m4]
    · left
      unfold decEnd
      rw [decide_eq_false (fun q => ce q.1)]
      rfl
  by_cases k3 : v0 = 3
  · obtain ⟨T, b4, e4, p4, S4, P4, w4⟩ := text_own s b3 e3 S3 h2 (m + 3) (by omega) 100 (by omega)
    rw [if_neg k1, if_pos k3, p4, Option.bind_some, j0_ok s b4 e4 S4 h2 (m + 2) (by omega)]
    refine ⟨_, rfl, ?_⟩
    by_cases ce : e4 = 0
    · have ww := w4 ce
      refine fin b4 e4 0 T (strOfNums (shortNums 9 T.size) ++ T) 0 ww.2.1 S4.h1 (fun _ => ⟨ww.1, ww.2.2⟩) ?_
      intro hR
      unfold tail
      rw [if_neg k1, if_pos k3]
    · left
      unfold decEnd
      rw [decide_eq_false (fun q => ce q.1)]
      rfl
  rw [if_neg k1, if_neg k3, j0_ok s b3 e3 S3 h2 (m + 2) (by omega)]
  refine ⟨_, rfl, ?_⟩
  refine fin b3 e3 0 ⟨#[]⟩ E 0 (by omega) S3.h1 (fun q => ⟨q, ?_⟩) ?_
  · apply ba_ext
    · rw [ByteArray.size_extract]; show min b3.toNat s.size - b3.toNat = 0; omega
    · intro i hi
      rw [ByteArray.size_extract] at hi
      omega
  · intro hR
    unfold tail
    rw [if_neg k1, if_neg k3]
section
variable (a0 a1 a2 a3 a4 : Int) (T : ByteArray)
theorem tail_size (h : isRight a0 a1 a3 a4 T = true) : (tail a0 a4 T).size ≤ 110 := by
  have f := right_facts a0 a1 a3 a4 T h
  have l4 := shortNums_len 9 a4
  have l5 := shortNums_len 9 T.size
  unfold tail
  by_cases k1 : a0 = 1
  · rw [if_pos k1, strOfNums_size]; omega
  rw [if_neg k1]
  by_cases k3 : a0 = 3
  · rw [if_pos k3, ByteArray.size_append, strOfNums_size]; omega
  rw [if_neg k3]
  show 0 ≤ 110
  omega
theorem bytes_size (h : isRight a0 a1 a3 a4 T = true) : (bytes a0 a1 a2 a3 a4 T).size ≤ 139 := by
  have := tail_size a0 a1 a3 a4 T h
  have l1 := shortNums_len 9 a1
  have l3 := shortNums_len 9 a3
  have l2 : (fixedNums (tm a2)).length = 8 := rfl
  unfold bytes
  rw [ByteArray.size_append, ByteArray.size_append, ByteArray.size_append, ByteArray.size_append, strOfNums_size, strOfNums_size, strOfNums_size, strOfNums_size, List.length_singleton]
  omega
theorem wrap_tm (h0 : -9223372036854775808 ≤ a2) (h1 : a2 ≤ 9223372036854775807) : wrap64 (tm a2) = a2 := by
  have : tm a2 = a2 % 18446744073709551616 := wrap_u64 a2
  rw [this]; unfold wrap64; omega
/-- The facts that are behind isRight, kind by kind. -/
theorem right_rest (h : isRight a0 a1 a3 a4 T = true) : (a0 ≠ 1 → a4 = 0) ∧ (a0 ≠ 3 → T = E) := by
  have f := right_facts a0 a1 a3 a4 T h
  unfold isRight rest at h
  rw [Bool.and_eq_true] at h
  replace h := h.2
  have nil : T.size = 0 → T = E := fun q => ba_ext T E q (fun i hi => by omega)
  by_cases k1 : a0 = 1
  · rw [if_pos k1] at h; simp only [Bool.and_eq_true, decide_eq_true_eq] at h
    exact ⟨fun q => absurd k1 q, fun _ => nil h.2.2⟩
  rw [if_neg k1] at h
  by_cases k2 : a0 = 2
  · rw [if_pos k2] at h; simp only [Bool.and_eq_true, decide_eq_true_eq] at h
    exact ⟨fun _ => h.2.1, fun _ => nil h.2.2⟩
  rw [if_neg k2] at h
  have k3 : a0 = 3 := by omega
  rw [if_pos k3] at h; simp only [Bool.and_eq_true, decide_eq_true_eq] at h
  exact ⟨fun _ => h.1, fun q => absurd k3 q⟩
theorem decode_back (h : isRight a0 a1 a3 a4 T = true) (h0 : -9223372036854775808 ≤ a2) (h1 : a2 ≤ 9223372036854775807) (k : Nat) (hk : 200 ≤ k) :
    inode_Decode.f k (bytes a0 a1 a2 a3 a4 T) = some (a0, a1, a2, a3, a4, T, 0) := by
  obtain ⟨f1, f2, f3, f4, f5, f6, f7, f8, f9⟩ := right_facts a0 a1 a3 a4 T h
  have hz := bytes_size a0 a1 a2 a3 a4 T h
  have ht := tm_range a2
  obtain ⟨r1, r2⟩ := right_rest a0 a1 a3 a4 T h
  have l2 : (fixedNums (tm a2)).length = 8 := rfl
  have zz : (bytes a0 a1 a2 a3 a4 T).size = 1 + (shortNums 9 a1).length + 8 + (shortNums 9 a3).length + (tail a0 a4 T).size := by
    unfold bytes
    rw [ByteArray.size_append, ByteArray.size_append, ByteArray.size_append, ByteArray.size_append, strOfNums_size, strOfNums_size, strOfNums_size, strOfNums_size, List.length_singleton, l2]
  have d0 : bytes a0 a1 a2 a3 a4 T = E ++ strOfNums [a0 % 256] ++ (strOfNums (shortNums 9 a1) ++ strOfNums (fixedNums (tm a2)) ++ strOfNums (shortNums 9 a3) ++ tail a0 a4 T) := by
    unfold bytes
    rw [show E ++ strOfNums [a0 % 256] = strOfNums [a0 % 256] from ByteArray.empty_append]
    simp only [ByteArray.append_assoc]
  have d1 : bytes a0 a1 a2 a3 a4 T = strOfNums [a0 % 256] ++ strOfNums (shortNums 9 a1) ++ (strOfNums (fixedNums (tm a2)) ++ strOfNums (shortNums 9 a3) ++ tail a0 a4 T) := by
    unfold bytes; simp only [ByteArray.append_assoc]
  have d2 : bytes a0 a1 a2 a3 a4 T = (strOfNums [a0 % 256] ++ strOfNums (shortNums 9 a1)) ++ strOfNums (fixedNums (tm a2)) ++ (strOfNums (shortNums 9 a3) ++ tail a0 a4 T) := by
    unfold bytes; simp only [ByteArray.append_assoc]
  have d3 : bytes a0 a1 a2 a3 a4 T = (strOfNums [a0 % 256] ++ strOfNums (shortNums 9 a1) ++ strOfNums (fixedNums (tm a2))) ++ strOfNums (shortNums 9 a3) ++ tail a0 a4 T := by
    unfold bytes; rfl
  have d4 : bytes a0 a1 a2 a3 a4 T = (strOfNums [a0 % 256] ++ strOfNums (shortNums 9 a1) ++ strOfNums (fixedNums (tm a2)) ++ strOfNums (shortNums 9 a3)) ++ tail a0 a4 T ++ E := by
    unfold bytes; rw [show ∀ x, x ++ E = x from fun x => ByteArray.append_empty]
  have z0 : (strOfNums [a0 % 256]).size = 1 := by rw [strOfNums_size]; rfl
  have z1 := strOfNums_size (shortNums 9 a1)
  have z2 := strOfNums_size (fixedNums (tm a2))
  have z3 := strOfNums_size (shortNums 9 a3)
  generalize hs : bytes a0 a1 a2 a3 a4 T = s at *
  have b0 : bt s 0 = a0 := by
    have := PackP.mid_nums E (strOfNums (shortNums 9 a1) ++ strOfNums (fixedNums (tm a2)) ++ strOfNums (shortNums 9 a3) ++ tail a0 a4 T) [a0 % 256] (by intro x hx; rw [List.mem_singleton] at hx; subst hx; omega) 0 (show 0 < 1 by decide)
    rw [← d0] at this
    rw [show ((E.size : Nat) : Int) + ((0 : Nat) : Int) = 0 from rfl] at this
    rw [this]
    show a0 % 256 = a0
    omega
  have p0 := PackP.byte_ok s 0 (by omega) (by omega) (by omega) (by omega)
  rw [b0] at p0
  have p1 := PackP.at_short (strOfNums [a0 % 256]) _ a1 f3 (by omega) s (0 + 1) d1 (by omega) (by omega)
  have p2 := PackP.at_fixed (strOfNums [a0 % 256] ++ strOfNums (shortNums 9 a1)) _ (tm a2) ht.1 ht.2 k (by omega) s (0 + 1 + (shortNums 9 a1).length) d2 (by rw [ByteArray.size_append]; omega) (by omega)
  have p3 := PackP.at_short (strOfNums [a0 % 256] ++ strOfNums (shortNums 9 a1) ++ strOfNums (fixedNums (tm a2))) _ a3 (by omega) (by omega) s (0 + 1 + (shortNums 9 a1).length + 8) d3 (by rw [ByteArray.size_append, ByteArray.size_append]; omega) (by omega)
  have w0 := pw64 a0 (by omega) (by omega)
  have w1 := pw64 a1 (by omega) (by omega)
  have w2 := wrap_tm a2 h0 h1
  have w3 := pw64 a3 (by omega) (by omega)
  obtain ⟨m, rfl⟩ : ∃ m, k = m + 1 := ⟨k - 1, by omega⟩
  unfold inode_Decode.f
  rw [show pack_Read.f s = some (s, 0, 0) from rfl, Option.bind_some, p0, Option.bind_some, p1, Option.bind_some, p2, Option.bind_some, p3, Option.bind_some, w0, w1, w2, w3]
  have fin : ∀ (b : Int) (S : OwnP.In s b), b = s.size → inode_Decode.j0 (m + 1) s b 0 a0 a1 a2 a3 a4 T = some (a0, a1, a2, a3, a4, T, 0) := by
    intro b S hb
    rw [j0_ok s b 0 S (by omega) m (by omega), decide_eq_true ⟨rfl, hb⟩]
    unfold decEnd
    rw [h]
    rfl
  have mk : ∀ b : Int, b = s.size → OwnP.In s b := fun b hb => ⟨by omega, by omega⟩
  have zp : (strOfNums [a0 % 256] ++ strOfNums (shortNums 9 a1) ++ strOfNums (fixedNums (tm a2)) ++ strOfNums (shortNums 9 a3)).size = 1 + (shortNums 9 a1).length + 8 + (shortNums 9 a3).length := by
    rw [ByteArray.size_append, ByteArray.size_append, ByteArray.size_append]; omega
  by_cases k1 : a0 = 1
  · have ht : tail a0 a4 T = strOfNums (shortNums 9 a4) := by unfold tail; rw [if_pos k1]
    rw [ht] at d4 zz
    have z4 := strOfNums_size (shortNums 9 a4)
    have p4 := PackP.at_short _ _ a4 f7 (by omega) s (0 + 1 + (shortNums 9 a1).length + 8 + (shortNums 9 a3).length) d4 (by rw [zp]; omega) (by omega)
    have w4 := pw64 a4 (by omega) (by omega)
    rw [if_pos k1, p4, Option.bind_some, w4]
    have hT := r2 (by omega)
    have := fin (0 + 1 + (shortNums 9 a1).length + 8 + (shortNums 9 a3).length + (shortNums 9 a4).length) (mk _ (by omega)) (by omega)
    rw [hT] at this ⊢
    exact this
  rw [if_neg k1]
  have h4 := r1 k1
  by_cases k3 : a0 = 3
  · have ht : tail a0 a4 T = strOfNums (shortNums 9 T.size) ++ T := by unfold tail; rw [if_neg k1, if_pos k3]
    rw [ht] at d4 zz
    have z4 : (strOfNums (shortNums 9 T.size) ++ T).size = (shortNums 9 T.size).length + T.size := by rw [ByteArray.size_append, strOfNums_size]
    have p4 := PackP.at_text _ _ T (m + 1) (by omega) s (0 + 1 + (shortNums 9 a1).length + 8 + (shortNums 9 a3).length) d4 (by rw [zp]; omega) (by omega) 100 (by omega)
    rw [if_pos k3, p4, Option.bind_some]
    have := fin (0 + 1 + (shortNums 9 a1).length + 8 + (shortNums 9 a3).length + (shortNums 9 T.size).length + T.size) (mk _ (by omega)) (by omega)
    rw [h4] at this ⊢
    exact this
  rw [if_neg k3]
  have ht : tail a0 a4 T = E := by unfold tail; rw [if_neg k1, if_neg k3]
  rw [ht] at zz
  have zE : E.size = 0 := rfl
  have hT := r2 k3
  have := fin (0 + 1 + (shortNums 9 a1).length + 8 + (shortNums 9 a3).length) (mk _ (by omega)) (by omega)
  rw [h4, hT] at this ⊢
  exact this
end
end Go.Proofs.Ytppkdmocbhodpaa.InodeP
