import Derived.Handy
import Derived.WalkMore
import Derived.Deep.LoopGhost
import Derived.Laws.BitsLemmas
import Derived.Laws.BytesArg
import Derived.Test.YtgnffienfjigiaaDoorWWords
import Derived.Test.YtgnffienfjigiaaDoorWMore
/-! Plain facts on bits, bytes and blocks, that the hand-made contracts of this seat share. -/
namespace Go.Proofs.YtgnffienfjigiaaDoor.Plain
open Go.RowKit Go.Proofs.YtgnffienfjigiaaDoorW.PrintWords Go.Proofs.YtgnffienfjigiaaDoorW.PrintMore

theorem R_slen {α : Type} {d : Kd α} {e n c : Nat} {w : World} {base : Nat} {ok : Nat → Prop} {A : Option Addr} {xs : List α} (h : d.R e w base ok (.slice A n c) xs) : n = xs.length := by
  obtain ⟨h0, inner, ho, hr⟩ := h
  obtain ⟨A', c', he⟩ := own_slice ho
  injection he
theorem ret_str {a b : ByteArray} (h : a = b) : Ending.returned (.string a) = .returned (.string b) := by rw [h]
theorem conv_new {P : Program} (w : World) (src dst e T : TypeId) (hs : P.underlying src = some (.slice e)) (he : P.underlying e = some (.int .u8)) (hd : P.underlying dst = some .string)
    (xs : List Int) (n cap : Nat) (hn : n ≤ xs.length) :
    (convert src dst (.slice (some ⟨w.heap.size, 0, none⟩) n cap)).run P (w.alloc (.cells (xs.map (.int .u8)).toArray T)) = .ok (.string (strOfNums (xs.take n))) (w.alloc (.cells (xs.map (.int .u8)).toArray T)) := by
  refine run_convert_bytes_arg _ src e hs he _ _ n cap _ (by simp; omega) (fun i hi => ?_) dst hd
  have hb : (w.alloc (.cells (xs.map (Value.int .u8)).toArray T)).heap[w.heap.size]? = some (.cells (xs.map (Value.int .u8)).toArray T (0, 0)) := by simpa using heap_alloc_new w _
  refine (blk_cell hb (0 + i)).trans ?_
  simp [List.getElem?_eq_getElem (show i < xs.length by omega), hi]
def unInt : Value → Int | .int _ q => q | _ => 0
/-- string(b[:n]), b a new array of bytes. -/
theorem conv_arr {P : Program} (w : World) (src dst e T : TypeId) (hs : P.underlying src = some (.slice e)) (he : P.underlying e = some (.int .u8)) (hd : P.underlying dst = some .string)
    (cs : Array Value) (n cap : Nat) (hn : n ≤ cs.size) (hcs : cs.toList = (cs.toList.map unInt).map (.int .u8)) :
    (convert src dst (.slice (some ⟨w.heap.size, 0, none⟩) n cap)).run P (w.alloc (.cells cs T)) = .ok (.string (strOfNums ((cs.toList.map unInt).take n))) (w.alloc (.cells cs T)) := by
  have h := conv_new (P := P) w src dst e T hs he hd (cs.toList.map unInt) n cap (by simp; omega)
  rw [← hcs] at h
  simpa using h
theorem or128 (x : Int) (h0 : 0 ≤ x) (h1 : x < 256) : Go.bits .or .u8 x 128 = x % 128 + 128 := by
  have h : ∀ n : Fin 256, Go.bits .or .u8 (n.val : Int) 128 = (n.val : Int) % 128 + 128 := by decide +kernel
  have := h ⟨x.toNat, by omega⟩
  simpa [Int.toNat_of_nonneg h0] using this
theorem and127 (x : Int) (h0 : 0 ≤ x) (h1 : x < 256) : Go.bits .and .u8 x 127 = x % 128 := by
  have h : ∀ n : Fin 256, Go.bits .and .u8 (n.val : Int) 127 = (n.val : Int) % 128 := by decide +kernel
  have := h ⟨x.toNat, by omega⟩
  simpa [Int.toNat_of_nonneg h0] using this
theorem wrap_u64 (n : Int) : IntKind.u64.wrap n = n % 18446744073709551616 := by simp [IntKind.wrap, IntKind.bits, IntKind.signed]
theorem wraps_u64 (n : Int) (h₀ : 0 ≤ n) (h₁ : n < 2 ^ 64) : IntKind.u64.wrap n = n := by rw [wrap_u64]; omega
theorem bits_or_comm (k : IntKind) (x y : Int) : Go.bits .or k x y = Go.bits .or k y x := by unfold Go.bits; simp only [BitVec.or_comm]
theorem or_shl_nat (i : Nat) (n x : Int) (hi : i ≤ 9) (hn0 : 0 ≤ n) (hn : n < 128 ^ i) (hx0 : 0 ≤ x) (hx : x < 128) (h9 : i = 9 → x ≤ 1) :
    Go.bits .or .u64 n (shl .u64 x (7 * (i : Int))) = n + x * 128 ^ i := by
  have key : ∀ (j : Nat), j ≤ 63 → n < 2 ^ j → x * 2 ^ j < 2 ^ 64 → Go.bits .or .u64 n (shl .u64 x (j : Int)) = n + x * 2 ^ j := by
    intro j hj hnj hxj
    have hp : (0 : Int) < 2 ^ j := Int.pow_pos (by decide)
    have hs : shl .u64 x (j : Int) = x * 2 ^ j := by
      unfold shl
      rw [Int.toNat_natCast, Nat.min_eq_left (by show j ≤ 64; omega)]
      exact wraps_u64 _ (Int.mul_nonneg hx0 (Int.le_of_lt hp)) hxj
    rw [hs, bits_or_comm]
    rw [bits_join .u64 64 (by decide) wraps_u64 j (x * 2 ^ j) n (Int.mul_nonneg hx0 (Int.le_of_lt hp)) (Int.mul_emod_left _ _) hxj hn0 hnj (by
      refine Int.lt_of_lt_of_le hnj ?_
      exact_mod_cast Nat.pow_le_pow_right (by decide : 0 < 2) (by omega : j ≤ 64))]
    omega
  have hc : i = 0 ∨ i = 1 ∨ i = 2 ∨ i = 3 ∨ i = 4 ∨ i = 5 ∨ i = 6 ∨ i = 7 ∨ i = 8 ∨ i = 9 := by omega
  rcases hc with rfl | rfl | rfl | rfl | rfl | rfl | rfl | rfl | rfl | rfl
  · exact key 0 (by omega) (by simpa using hn) (by omega)
  · exact key 7 (by omega) (by simpa using hn) (by omega)
  · exact key 14 (by omega) (by simpa using hn) (by omega)
  · exact key 21 (by omega) (by simpa using hn) (by omega)
  · exact key 28 (by omega) (by simpa using hn) (by omega)
  · exact key 35 (by omega) (by simpa using hn) (by omega)
  · exact key 42 (by omega) (by simpa using hn) (by omega)
  · exact key 49 (by omega) (by simpa using hn) (by omega)
  · exact key 56 (by omega) (by simpa using hn) (by omega)
  · have := h9 rfl
    exact key 63 (by omega) (by simpa using hn) (by omega)
theorem run_shl {P : Program} (W : World) (k yk : IntKind) (x y : Int) (hy : 0 ≤ y) : (Op.shift BinOp.shl k x yk y).run P W = .ok (.int k (shl k x y)) W := by
  unfold Op.shift shl
  rw [if_neg (by omega)]
  rfl

/-! ### bytes of numbers: eight bytes, the highest first; by seven bits, the lowest first -/
def fixedNums (n : Int) : List Int := [n / 72057594037927936, n / 281474976710656 % 256, n / 1099511627776 % 256, n / 4294967296 % 256, n / 16777216 % 256, n / 65536 % 256, n / 256 % 256, n % 256]
def shortNums : Nat → Int → List Int
  | 0, n => [n]
  | k + 1, n => if 127 < n then (n % 128 + 128) :: shortNums k (n / 128) else [n]
theorem shortNums_len : ∀ (k : Nat) (n : Int), (shortNums k n).length ≤ k + 1
  | 0, _ => by simp [shortNums]
  | k + 1, n => by
    unfold shortNums
    split
    · have := shortNums_len k (n / 128)
      simp only [List.length_cons]
      omega
    · simp
theorem strOfNums_size (l : List Int) : (strOfNums l).size = l.length := by simp [strOfNums, ByteArray.size]
/-- The next round of a short number's reader. -/
def acc7 (n b i : Int) : Int := n + b % 128 * 128 ^ i.toNat
def rsl (s : ByteArray) (was : Int) : Nat → Int → Int → Option (Int × ByteArray × Int × Int)
  | 0, _, _ => none
  | k + 1, i, n =>
    if was + i = (s.size : Int) then some (0, s, was, 20) else
    if (i = 9 ∧ 1 < bt s (was + i)) ∨ (bt s (was + i) = 0 ∧ 0 < i) then some (0, s, was, 21) else
    if bt s (was + i) < 128 then some (acc7 n (bt s (was + i)) i, s, was + i + 1, 0) else
    rsl s was k (i + 1) (acc7 n (bt s (was + i)) i)
theorem acc7_of (n b i : Int) (hi0 : 0 ≤ i) (hi : i ≤ 9) (hn0 : 0 ≤ n) (hn : n < 128 ^ i.toNat) (hb : 0 ≤ b) (hb1 : b < 256) (h9 : i = 9 → b ≤ 1) :
    Go.bits .or .u64 n (shl .u64 (b % 128) (7 * i)) = acc7 n b i := by
  obtain ⟨j, rfl⟩ := Int.eq_ofNat_of_zero_le hi0
  unfold acc7
  rw [Int.toNat_natCast] at hn ⊢
  exact or_shl_nat j n (b % 128) (by omega) hn0 hn (by omega) (by omega) (by intro h; have := h9 (by omega); omega)
theorem acc7_lt (n b i : Int) (hi0 : 0 ≤ i) (hn0 : 0 ≤ n) (hn : n < 128 ^ i.toNat) : 0 ≤ acc7 n b i ∧ acc7 n b i < 128 ^ (i + 1).toNat := by
  unfold acc7
  have hp : (0 : Int) < 128 ^ i.toNat := Int.pow_pos (by decide)
  have hx : 0 ≤ b % 128 ∧ b % 128 ≤ 127 := by omega
  have e : (i + 1).toNat = i.toNat + 1 := by omega
  rw [e, Int.pow_succ]
  have h1 : 0 ≤ b % 128 * 128 ^ i.toNat := Int.mul_nonneg hx.1 (Int.le_of_lt hp)
  have h2 : b % 128 * 128 ^ i.toNat ≤ 127 * 128 ^ i.toNat := Int.mul_le_mul_of_nonneg_right hx.2 (Int.le_of_lt hp)
  omega
end Go.Proofs.YtgnffienfjigiaaDoor.Plain
