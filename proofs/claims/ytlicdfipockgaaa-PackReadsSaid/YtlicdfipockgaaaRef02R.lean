import Derived.Test.YtlicdfipockgaaaPAx12
import Derived.Test.YtlicdfipockgaaaBytes
/-! coppiceref02's reader of fixed numbers. -/
namespace Go.Proofs.Ytlicdfipockgaaa.Ref02P
open Go.RowKit Go.Proofs.Ytlicdfipockgaaa.PA Go.Proofs.YtlicdfipockgaaaW.PrintWords Go.Proofs.YtlicdfipockgaaaW.PrintLast Go.Proofs.YtlicdfipockgaaaW.PrintMore
open Go.Proofs.Ytlicdfipockgaaa.Plain
theorem or_step (v b : Int) (hv0 : 0 ≤ v) (hv : v < 72057594037927936) (hb0 : 0 ≤ b) (hb : b < 256) : Go.bits .or .u64 (IntKind.u64.wrap (v * 256)) (IntKind.u64.wrap b) = v * 256 + b := by
  rw [wrap_u64, wrap_u64, Int.emod_eq_of_lt (a := v * 256) (by omega) (by omega), Int.emod_eq_of_lt (a := b) (by omega) (by omega)]
  exact bits_join .u64 64 (by decide) wraps_u64 8 (v * 256) b (by omega) (by omega) (by omega) hb0 (by omega) (by omega)
theorem rfixed_step (k : Nat) (n i e : Int) (s : ByteArray) (hs : 8 ≤ s.size) (h0 : 0 ≤ i) (h : i < 8) (hn0 : 0 ≤ n) (hn : n < 72057594037927936) :
    coppiceref02_Reader_Fixed.l0 (k + 1) n i s e = coppiceref02_Reader_Fixed.l0 k (n * 256 + bt s i) (i + 1) s e := by
  have hbt := bt_lt s i
  have e1 : wrap64 (i + 1) = i + 1 := by unfold wrap64; omega
  rw [coppiceref02_Reader_Fixed.l0, if_pos h, if_pos h0, if_pos (by omega), or_step n _ hn0 hn hbt.1 hbt.2, e1]
theorem rfixed_ok (s : ByteArray) (hs : 8 ≤ s.size) (k : Nat) (hk : 8 < k) : coppiceref02_Reader_Fixed.f k s 0 = some (fixedVal s 0, s.extract 8 s.size, 0) := by
  obtain ⟨k, rfl⟩ : ∃ m, k = m + 9 := ⟨k - 9, by omega⟩
  unfold coppiceref02_Reader_Fixed.f
  rw [if_pos rfl, if_neg (by omega)]
  have b0 := bt_lt s 0; have b1 := bt_lt s 1; have b2 := bt_lt s 2; have b3 := bt_lt s 3
  have b4 := bt_lt s 4; have b5 := bt_lt s 5; have b6 := bt_lt s 6; have b7 := bt_lt s 7
  unfold fixedVal
  simp only [Int.zero_add, val, List.length_cons, List.length_nil]
  generalize hx0 : bt s 0 = x0 at *
  generalize hx1 : bt s 1 = x1 at *
  generalize hx2 : bt s 2 = x2 at *
  generalize hx3 : bt s 3 = x3 at *
  generalize hx4 : bt s 4 = x4 at *
  generalize hx5 : bt s 5 = x5 at *
  generalize hx6 : bt s 6 = x6 at *
  generalize hx7 : bt s 7 = x7 at *
  rw [rfixed_step (k + 8) _ 0 0 s hs (by omega) (by omega) (by omega) (by omega), hx0, show (0 : Int) + 1 = 1 from rfl]
  rw [rfixed_step (k + 7) _ 1 0 s hs (by omega) (by omega) (by omega) (by omega), hx1, show (1 : Int) + 1 = 2 from rfl]
  rw [rfixed_step (k + 6) _ 2 0 s hs (by omega) (by omega) (by omega) (by omega), hx2, show (2 : Int) + 1 = 3 from rfl]
  rw [rfixed_step (k + 5) _ 3 0 s hs (by omega) (by omega) (by omega) (by omega), hx3, show (3 : Int) + 1 = 4 from rfl]
  rw [rfixed_step (k + 4) _ 4 0 s hs (by omega) (by omega) (by omega) (by omega), hx4, show (4 : Int) + 1 = 5 from rfl]
  rw [rfixed_step (k + 3) _ 5 0 s hs (by omega) (by omega) (by omega) (by omega), hx5, show (5 : Int) + 1 = 6 from rfl]
  rw [rfixed_step (k + 2) _ 6 0 s hs (by omega) (by omega) (by omega) (by omega), hx6, show (6 : Int) + 1 = 7 from rfl]
  rw [rfixed_step (k + 1) _ 7 0 s hs (by omega) (by omega) (by omega) (by omega), hx7, show (7 : Int) + 1 = 8 from rfl]
  rw [coppiceref02_Reader_Fixed.l0, if_neg (by decide), if_pos (by omega)]
  congr 2
  omega
theorem rfixed_short (s : ByteArray) (hs : ¬ 8 ≤ s.size) (k : Nat) : coppiceref02_Reader_Fixed.f k s 0 = some (0, s, 20) := by
  unfold coppiceref02_Reader_Fixed.f
  rw [if_pos rfl, if_pos (by omega)]
end Go.Proofs.Ytlicdfipockgaaa.Ref02P
