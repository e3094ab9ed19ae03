import Derived.Test.YtdkbikaheagbfaaPAx13
import Derived.Test.YtdkbikaheagbfaaPAx8
import Derived.Test.YtdkbikaheagbfaaNodeG
/-! Nodes: may they be; their bytes. -/
set_option linter.unusedVariables false
set_option linter.unusedSectionVars false
set_option linter.unusedSimpArgs false
namespace Go.Proofs.Ytdkbikaheagbfaa.NodeP
open Go.RowKit Go.Proofs.Ytdkbikaheagbfaa.PA Go.Proofs.YtdkbikaheagbfaaW.PrintWords Go.Proofs.YtdkbikaheagbfaaW.PrintLast Go.Proofs.YtdkbikaheagbfaaW.PrintMore
open Go.Proofs.Ytdkbikaheagbfaa.Plain
def ofL (L : List UInt8) : ByteArray := ⟨L.toArray⟩
theorem ofL_app (L M : List UInt8) : ofL L ++ ofL M = ofL (L ++ M) := by
  unfold ofL
  apply ByteArray.ext
  simp [ByteArray.data_append]
theorem ofL_size (L : List UInt8) : (ofL L).size = L.length := by simp [ofL, ByteArray.size]
theorem ofL_toList (L : List UInt8) : (ofL L).toList = L := by rw [ByteArray.toList_eq]; simp [ofL]
theorem ofL_of (s : ByteArray) : ofL s.toList = s := by rw [ByteArray.toList_eq]; rfl
theorem textB_le (s : ByteArray) : (textB s).size ≤ s.size + 10 := by unfold textB; rw [ByteArray.size_append, strOfNums_size]; have := shortNums_len 9 s.size; omega
theorem shortB_le (n : Int) : (shortB n).size ≤ 10 := by unfold shortB; rw [strOfNums_size]; have := shortNums_len 9 n; omega
theorem item_len (x : S44) (h : x.f0.size ≤ 1000 ∧ x.f1.size ≤ 1000) : (itemBytes x).length ≤ 2020 := by
  simp only [itemBytes, List.length_append, toList_len]
  have := textB_le x.f0; have := textB_le x.f1; omega
theorem kid_len (x : S46) (h : x.f0.size ≤ 1000) : (kidBytes x).length ≤ 1020 := by
  simp only [kidBytes, List.length_append, toList_len]
  have := textB_le x.f0; have := shortB_le (x.f1 % 18446744073709551616); omega
theorem flat_len {α : Type} (f : α → List UInt8) (c : Nat) : ∀ l : List α, (∀ x ∈ l, (f x).length ≤ c) → (l.flatMap f).length ≤ l.length * c
  | [], _ => by simp
  | x :: r, h => by
    rw [List.flatMap_cons, List.length_append, List.length_cons]
    have := h x (by simp); have := flat_len f c r (fun y hy => h y (by simp [hy]))
    rw [Nat.add_mul]; omega
/-- The document's bytes. -/
def refBytes (a : Bool) (l : List S44) (m : List S46) : List UInt8 :=
  [if a = true then 1 else 2] ++ ((shortB (if a = true then (l.length : Int) else (m.length : Int))).toList ++ (l.flatMap itemBytes ++ m.flatMap kidBytes))
theorem refBytes_len (a : Bool) (l : List S44) (m : List S46) (hs : small l m) : (refBytes a l m).length ≤ 20000000 := by
  obtain ⟨h1, h2, h3, h4⟩ := hs
  have e1 := flat_len itemBytes 2020 l (fun x hx => item_len x (h3 x hx))
  have e2 := flat_len kidBytes 1020 m (fun x hx => kid_len x (h4 x hx))
  have e3 := shortB_le (if a = true then (l.length : Int) else (m.length : Int))
  simp only [refBytes, List.length_append, toList_len, List.length_cons, List.length_nil]
  omega
theorem nright_ok (a : Bool) (l : List S44) (m : List S46) (hl : (l.length : Int) ≤ 9223372036854775000) (hm : (m.length : Int) ≤ 9223372036854775000) : node_right.f a l m = some (rightB a l m) := by
  unfold node_right.f; rw [if_pos ⟨hl, hm⟩]
/-- Of a node that may be, the two tell the same bytes. -/
theorem same_bytes (a : Bool) (l : List S44) (m : List S46) (h : rightB a l m = true) : nodeBytes a l m = refBytes a l m := by
  unfold rightB at h
  unfold nodeBytes refBytes
  cases a with
  | true =>
    rw [if_pos rfl] at h
    simp only [Bool.and_eq_true, beq_iff_eq] at h
    rw [h.1, if_pos rfl, if_pos rfl, Int.add_zero]
  | false =>
    rw [if_neg (by decide)] at h
    simp only [Bool.and_eq_true, beq_iff_eq] at h
    rw [h.1, if_neg (by decide), if_neg (by decide), Int.zero_add]
theorem written_ok (a : Bool) (l : List S44) (m : List S46) (hs : small l m) (h : rightB a l m = true) : node_written.f a l m = some (ofL (refBytes a l m)) := by
  unfold node_written.f
  have e := refBytes_len a l m hs
  rw [same_bytes a l m h, if_pos ⟨by omega, by have := hs.1; have := hs.2.1; omega⟩]
  rfl
end Go.Proofs.Ytdkbikaheagbfaa.NodeP
