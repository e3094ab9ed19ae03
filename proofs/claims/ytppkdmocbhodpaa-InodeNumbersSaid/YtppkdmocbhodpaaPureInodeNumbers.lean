/- InodeNumbers: a next number's bytes are the document's, there and back: for every int and every text (the law itself lets go texts above 2^10 bytes). -/
import Derived.Test.YtppkdmocbhodpaaPAx25
import Derived.Test.YtppkdmocbhodpaaPack
import Derived.Test.YtppkdmocbhodpaaRef02
import Derived.Test.YtppkdmocbhodpaaRef02R
namespace Go.Proofs.Ytppkdmocbhodpaa.PureNumbers
open Go.RowKit Go.Proofs.Ytppkdmocbhodpaa.PA Go.Proofs.YtppkdmocbhodpaaW.PrintWords Go.Proofs.YtppkdmocbhodpaaW.PrintLast Go.Proofs.YtppkdmocbhodpaaW.PrintMore
open Go.Proofs.Ytppkdmocbhodpaa.Plain Go.Proofs.Ytppkdmocbhodpaa.PackP Go.Proofs.Ytppkdmocbhodpaa.Ref02P

theorem i64_bounds (a : Int) (h : (Lit.int .i64 a).wf = true) : -9223372036854775808 ≤ a ∧ a ≤ 9223372036854775807 := by
  simp [Lit.wf, IntKind.min, IntKind.max, IntKind.signed, IntKind.bits] at h; omega
theorem awake_true : coppicelaw14_awake.f 20 = some true := by decide +kernel
/-- What both answer of bytes. -/
def numOf (s : ByteArray) : Int × Int := if s.size = 8 ∧ 2 ≤ fixedVal s 0 ∧ fixedVal s 0 ≤ 1099511627777 then (fixedVal s 0, 0) else (0, 21)
def num (n : Int) : ByteArray × Int := if 2 ≤ n ∧ n ≤ 1099511627777 then (strOfNums (fixedNums n), 0) else (⟨#[]⟩, 1)
theorem number_ok (n : Int) : inode_Number.f n = some (num n) := by
  unfold inode_Number.f num
  by_cases c1 : n < 2
  · rw [if_pos c1, if_neg (by omega)]
  by_cases c2 : n > 1099511627777
  · rw [if_neg c1, if_pos c2, if_neg (by omega)]
  rw [if_neg c1, if_neg c2, if_pos (by omega), u64 n (by omega) (by omega)]
  unfold pack_Fixed.f
  rw [if_pos (by omega)]
  rfl
theorem rnumber_ok (k : Nat) (hk : 8 < k) (n : Int) : coppiceref14_Number.f k n = some (num n) := by
  unfold coppiceref14_Number.f num
  by_cases c1 : n < 2
  · rw [if_pos c1, if_neg (by omega)]
  by_cases c2 : n > 1099511627777
  · rw [if_neg c1, if_pos c2, if_neg (by omega)]
  rw [if_neg c1, if_neg c2, if_pos (by omega), u64 n (by omega) (by omega), refFixed k hk n (by omega)]
  rfl
theorem read_ (s : ByteArray) : pack_Read.f s = some (s, 0, 0) := rfl
theorem num_good (n : Int) (h : 2 ≤ n ∧ n ≤ 1099511627777) : num n = (strOfNums (fixedNums n), 0) := by unfold num; rw [if_pos h]
theorem num_bad (n : Int) (h : ¬ (2 ≤ n ∧ n ≤ 1099511627777)) : num n = (⟨#[]⟩, 1) := by unfold num; rw [if_neg h]
theorem numOf_good (s : ByteArray) (h : s.size = 8 ∧ 2 ≤ fixedVal s 0 ∧ fixedVal s 0 ≤ 1099511627777) : numOf s = (fixedVal s 0, 0) := by unfold numOf; rw [if_pos h]
theorem numOf_bad (s : ByteArray) (h : ¬ (s.size = 8 ∧ 2 ≤ fixedVal s 0 ∧ fixedVal s 0 ≤ 1099511627777)) : numOf s = (0, 21) := by unfold numOf; rw [if_neg h]
theorem numberOf_ok (s : ByteArray) (hs : s.size ≤ 4611686018427387904) (k : Nat) (hk : 8 < k) : inode_NumberOf.f k s = some (numOf s) := by
  unfold inode_NumberOf.f
  rw [read_, Option.bind_some]
  have hgood := numOf_good s
  have hbad := numOf_bad s
  by_cases c : 8 ≤ s.size
  · have hr := fixedVal_range s 0
    have h1 := fixed_ok s 0 (by omega) (by omega) hs k hk (by omega)
    rw [Int.zero_add] at h1
    generalize fixedVal s 0 = v at *
    rw [h1, Option.bind_some, number_ok, Option.bind_some]
    by_cases c1 : 2 ≤ v ∧ v ≤ 1099511627777
    · rw [w64 v (by omega) (by omega), num_good v c1, if_pos rfl]
      unfold pack_Reader_End.f
      by_cases c2 : s.size = 8
      · rw [if_neg (by simp; omega), Option.bind_some, if_pos rfl, hgood ⟨c2, c1⟩]
      · rw [if_pos (by simp; omega), Option.bind_some, if_neg (show ¬ ((22 : Int) = 0) by decide), hbad (by omega)]
    · rw [num_bad (wrap64 v) (by unfold wrap64; omega), if_neg (show ¬ ((1 : Int) = 0) by decide), hbad (by omega)]
  · rw [fixed_short s 0 (by omega) (by omega) hs k (by omega) (by omega), Option.bind_some, number_ok, Option.bind_some, num_bad (wrap64 0) (by unfold wrap64; decide), if_neg (show ¬ ((1 : Int) = 0) by decide), hbad (by omega)]
theorem rend_ (s : ByteArray) : coppiceref02_Reader_End.f s 0 = some (if s.size = 0 then 0 else 22, s, 0) := by
  unfold coppiceref02_Reader_End.f
  rw [if_pos rfl]
  have e : (s.toList = ([] : List UInt8)) ↔ s.size = 0 := by
    rw [ByteArray.toList_eq]
    constructor
    · intro h; have : s.data.toList.length = 0 := by rw [h]; rfl
      exact this
    · intro h; exact List.eq_nil_of_length_eq_zero h
  by_cases c : s.size = 0
  · rw [if_pos (e.mpr c), if_pos c]
  · rw [if_neg (fun h => c (e.mp h)), if_neg c]
theorem rnumberOf_ok (s : ByteArray) (k : Nat) (hk : 8 < k) : coppiceref14_NumberOf.f k s = some (numOf s) := by
  unfold coppiceref14_NumberOf.f
  have hgood := numOf_good s
  have hbad := numOf_bad s
  by_cases c : 8 ≤ s.size
  · have hr := fixedVal_range s 0
    have hz : (s.extract 8 s.size).size = s.size - 8 := by rw [ByteArray.size_extract]; omega
    rw [rfixed_ok s c k hk]
    generalize fixedVal s 0 = v at *
    rw [Option.bind_some, rend_, hz, Option.bind_some]
    by_cases c2 : s.size = 8
    · rw [if_pos (by omega)]
      by_cases c3 : v < 2
      · rw [if_pos c3, hbad (by omega)]
      by_cases c4 : v > 1099511627777
      · rw [if_neg c3, if_pos c4, hbad (by omega)]
      rw [if_neg c3, if_neg c4, hgood (by omega), w64 v (by omega) (by omega)]
    · rw [if_neg (by omega), hbad (by omega)]
  · rw [rfixed_short s c k, Option.bind_some]
    have : coppiceref02_Reader_End.f s 20 = some (20, s, 20) := rfl
    rw [this, Option.bind_some, if_neg (show ¬ ((20 : Int) = 0) by decide), hbad (by omega)]
theorem fixedVal_num (n : Int) (h : 0 ≤ n ∧ n < 18446744073709551616) : fixedVal (strOfNums (fixedNums n)) 0 = n := by
  have hr := fixedNums_range n h.1 h.2
  have k0 : bt (strOfNums (fixedNums n)) 0 = n / 72057594037927936 := bt_strOfNums _ hr 0 (by simp [fixedNums])
  have k1 : bt (strOfNums (fixedNums n)) (0 + 1) = n / 281474976710656 % 256 := bt_strOfNums _ hr 1 (by simp [fixedNums])
  have k2 : bt (strOfNums (fixedNums n)) (0 + 2) = n / 1099511627776 % 256 := bt_strOfNums _ hr 2 (by simp [fixedNums])
  have k3 : bt (strOfNums (fixedNums n)) (0 + 3) = n / 4294967296 % 256 := bt_strOfNums _ hr 3 (by simp [fixedNums])
  have k4 : bt (strOfNums (fixedNums n)) (0 + 4) = n / 16777216 % 256 := bt_strOfNums _ hr 4 (by simp [fixedNums])
  have k5 : bt (strOfNums (fixedNums n)) (0 + 5) = n / 65536 % 256 := bt_strOfNums _ hr 5 (by simp [fixedNums])
  have k6 : bt (strOfNums (fixedNums n)) (0 + 6) = n / 256 % 256 := bt_strOfNums _ hr 6 (by simp [fixedNums])
  have k7 : bt (strOfNums (fixedNums n)) (0 + 7) = n % 256 := bt_strOfNums _ hr 7 (by simp [fixedNums])
  unfold fixedVal
  rw [k0, k1, k2, k3, k4, k5, k6, k7]
  exact val_fixed n
theorem InodeNumbers : coppicelaw14_InodeNumbers.Pure := by
  intro n s hn hs
  refine ⟨20, ?_⟩
  unfold coppicelaw14_InodeNumbers.f
  rw [awake_true, Option.bind_some, if_pos rfl]
  by_cases c : (s.size : Int) > 1024
  · rw [if_pos c]
  have hz : (num n).1.size ≤ 8 := by
    unfold num
    split
    · show (strOfNums (fixedNums n)).size ≤ 8
      rw [strOfNums_size]; simp [fixedNums]
    · show (0 : Nat) ≤ 8; omega
  rw [if_neg c, number_ok, Option.bind_some, rnumber_ok 20 (by omega), Option.bind_some, numberOf_ok s (by omega) 20 (by omega), Option.bind_some, rnumberOf_ok s 20 (by omega), Option.bind_some, numberOf_ok _ (by omega) 20 (by omega), Option.bind_some]
  rw [if_pos rfl, if_pos rfl, if_pos rfl, if_pos rfl]
  by_cases c2 : 2 ≤ n ∧ n ≤ 1099511627777
  · have e : num n = (strOfNums (fixedNums n), 0) := by unfold num; rw [if_pos c2]
    have hv := fixedVal_num n (by omega)
    have hsz : (strOfNums (fixedNums n)).size = 8 := by rw [strOfNums_size]; rfl
    have e3 : numOf (strOfNums (fixedNums n)) = (n, 0) := by unfold numOf; rw [hv, if_pos ⟨hsz, c2⟩]
    rw [e, if_pos rfl, e3, if_pos rfl]
    simp
  · have e : num n = (⟨#[]⟩, 1) := by unfold num; rw [if_neg c2]
    rw [e, if_neg (show ¬ ((1 : Int) = 0) by decide)]
end Go.Proofs.Ytppkdmocbhodpaa.PureNumbers
namespace Go.Proofs.Ytppkdmocbhodpaa.Pure
theorem InodeNumbers : Go.Proofs.Ytppkdmocbhodpaa.PA.coppicelaw14_InodeNumbers.Pure := Go.Proofs.Ytppkdmocbhodpaa.PureNumbers.InodeNumbers
end Go.Proofs.Ytppkdmocbhodpaa.Pure
