import Derived.Test.YtgnffienfjigiaaDoorWMore
import Derived.Shelf.Abstract
import Derived.Laws.EntriesVeiled
import Derived.Lib.SliceRun
import Derived.Test.YtgnffienfjigiaaDoorWLast
/-! A call through a temporary that holds a known function value. -/
namespace Go.Proofs.YtgnffienfjigiaaDoor.Plain
open Go.RowKit Go.Proofs.YtgnffienfjigiaaDoorW.PrintWords Go.Proofs.YtgnffienfjigiaaDoorW.PrintLast
section
variable {P : Program} {ops : Array Oper} {Q : Exit → Act → World → Prop} {rest : List Oper} {o oi : Oper} {a : Act} {W w : World}
/-- The operation is a call through this temporary (a cheap look ahead of a dear step). -/
theorem gate_dyn {x : Tmp} {ags : Array Operand} {ts : Array TypeId} (_ho : o.op = .call { callee := .value (.tmp x), args := ags, argTypes := ts }) (h : wpList P ops Q (o :: rest) a W) : wpList P ops Q (o :: rest) a W := h
theorem enter_dyn {x : Tmp} {f : FuncId} {fn : Func} {ags : Array Operand} {ts : Array TypeId} {first captured : Array Value} (hf : P.funcs[f]? = some fn) (hname : (fn.name == "runtime.NumGoroutine") = false) (hb : fn.body.isSome = true) (args : Array Value)
    (hop : oi.op = .call { callee := .value (.tmp x), args := ags, argTypes := ts }) (hv : a.eval (.tmp x) = .func (.func f) first captured) (hargs : first ++ ags.map a.eval ++ captured = args) : (execOp a.eval oi).run P w = .ok (.enter f args) w := by
  have he := enters_ hf hname hb args w
  unfold execOp
  simp [hop, resolve, hv, Deferred.ofValue, invoke, hargs, he]
/-- A call in a plain region, ags an arm of go_wp2_with. -/
theorem goesDL_ (N : Option Tmp) (hd : oi.dst = N) (hg : oi.guard = none) {x : Tmp} {f : FuncId} {fn : Func} {ags : Array Operand} {ts : Array TypeId} {first captured : Array Value} (hf : P.funcs[f]? = some fn) (hname : (fn.name == "runtime.NumGoroutine") = false) (hb : fn.body.isSome = true) (args : Array Value)
    (hop : oi.op = .call { callee := .value (.tmp x), args := ags, argTypes := ts }) (hv : a.eval (.tmp x) = .func (.func f) first captured) (hargs : first ++ ags.map a.eval ++ captured = args)
    (h : Calls P f args w fun e w' => ∃ v, e = .returned v ∧ wpList P ops Q rest (a.put N v) w') : wpList P ops Q (oi :: rest) a w := by
  refine wpList_plain hg fun K hK => ?_
  have hrun := enter_dyn (w := w) hf hname hb args hop hv hargs
  unfold Oper.wp
  rw [hrun, Oper.upon_enter]
  refine h.mono fun e w'' hh => ?_
  obtain ⟨v, rfl, hk⟩ := hh
  subst hd
  exact hK _ _ hk
/-- The same in a region that draws. -/
theorem goesD_ {N : Option Tmp} {K : Act → World → Prop} {x : Tmp} {f : FuncId} {fn : Func} {ags : Array Operand} {ts : Array TypeId} {first captured : Array Value} (hf : P.funcs[f]? = some fn) (hname : (fn.name == "runtime.NumGoroutine") = false) (hb : fn.body.isSome = true) (args : Array Value)
    (hw : Region.wanted oi (yielded ops a.tmps) = true) (hN : oi.dst = N) (hop : oi.op = .call { callee := .value (.tmp x), args := ags, argTypes := ts }) (hv : a.eval (.tmp x) = .func (.func f) first captured) (hargs : first ++ ags.map a.eval ++ captured = args)
    (h : Calls P f args w fun e w' => ∃ v, e = .returned v ∧ K (a.put N v) w') : if Region.wanted oi (yielded ops a.tmps) = true then Oper.wp P oi a w K Q else K (a.put N undef) w :=
  call_ f args hw hN (enter_dyn hf hname hb args hop hv hargs) h
end
/-! Texts compared, ags the print spells it. -/
theorem bytesLess_flip : ∀ a b : List UInt8, (!(Op.bytesLess a b || a == b)) = Op.bytesLess b a
  | [], [] => rfl
  | [], _ :: _ => rfl
  | _ :: _, [] => rfl
  | x :: l, y :: m => by
    have ih := bytesLess_flip l m
    have hb : (x :: l == y :: m) = (x == y && l == m) := rfl
    rw [hb]
    simp only [Op.bytesLess]
    by_cases h : x = y
    · subst h
      have hx : decide (x < x) = false := by simp
      have hq : (x == x) = true := by simp
      rw [hx, hq, Bool.false_or, Bool.false_or, Bool.true_and, Bool.true_and, Bool.true_and]
      exact ih
    · have hq : (x == y) = false := by simpa using h
      have hq2 : (y == x) = false := by simpa using fun e => h e.symm
      rw [hq, hq2, Bool.false_and, Bool.false_and, Bool.false_and, Bool.or_false, Bool.or_false, Bool.or_false]
      have hn : x.toNat ≠ y.toNat := fun e => h (UInt8.toNat_inj.mp e)
      by_cases hl : x < y
      · have hl' := UInt8.lt_iff_toNat_lt.mp hl
        have : ¬ y < x := fun h' => by have := UInt8.lt_iff_toNat_lt.mp h'; omega
        simp [hl, this]
      · have : y < x := UInt8.lt_iff_toNat_lt.mpr (by have : ¬ x.toNat < y.toNat := fun h' => hl (UInt8.lt_iff_toNat_lt.mpr h'); omega)
        simp [hl, this]
theorem lit_byte (c : UInt8) (h : 0 < (⟨#[c]⟩ : ByteArray).size) : (⟨#[c]⟩ : ByteArray)[0]'h = c := rfl
theorem ret_i {a b : Int} (h : a = b) : Ending.returned (.int .i64 a) = .returned (.int .i64 b) := by rw [h]
theorem ret_b {a b : Bool} (h : a = b) : Ending.returned (.bool a) = .returned (.bool b) := by rw [h]
theorem bcell {W w1 : World} (hb : Below W.heap.size W w1) : (∀ b o, b < W.heap.size → w1.cell? ⟨b, o, none⟩ = W.cell? ⟨b, o, none⟩) ∧ (∀ b o, b < W.heap.size → w1.frozen? ⟨b, o, none⟩ = W.frozen? ⟨b, o, none⟩) :=
  ⟨fun b o h => hb.cell (p := ⟨b, o, none⟩) h, fun b o h => hb.frozen (p := ⟨b, o, none⟩) h⟩
theorem wrap_in {x : Int} (h0 : -9223372036854775808 ≤ x) (h1 : x ≤ 9223372036854775807) : wrap64 x = x := by unfold wrap64; omega
/-- The place of the first element of which p holds, counted from i on; -1: there is none. -/
def idxB {α : Type} (p : α → Bool) : List α → Int → Int
  | [], _ => -1
  | x :: r, i => if p x = true then i else idxB p r (i + 1)
theorem idxB_any {α : Type} (p : α → Bool) (l : List α) : ∀ i : Int, 0 ≤ i → decide (0 ≤ idxB p l i) = l.any p := by
  induction l with
  | nil => intro i h; simp [idxB]
  | cons x r ih =>
    intro i h
    unfold idxB
    by_cases hx : p x = true
    · rw [if_pos hx]; simp [hx, h]
    · rw [if_neg hx, ih (i + 1) (by omega)]; simp [hx]
/-- Texts that rise. -/
def risesB : List ByteArray → Bool
  | a :: b :: r => Op.bytesLess a.toList b.toList && risesB (b :: r)
  | _ => true
theorem binOp_leq_s (t : TypeId) (a b : ByteArray) : binOp .leq t (.string a) (.string b) = pure (.bool !(Op.bytesLess b.toList a.toList)) := by
  have h := bytesLess_flip a.toList b.toList
  have h2 : (Op.bytesLess a.toList b.toList || a.toList == b.toList) = !(Op.bytesLess b.toList a.toList) := by rw [← h, Bool.not_not]
  simp [binOp, Op.stringOp, h2]
theorem binOp_gtr_s (t : TypeId) (a b : ByteArray) : binOp .gtr t (.string a) (.string b) = pure (.bool (Op.bytesLess b.toList a.toList)) := by
  have h := bytesLess_flip a.toList b.toList
  rw [← h]
  simp [binOp, Op.stringOp]
theorem binOp_geq_s (t : TypeId) (a b : ByteArray) : binOp .geq t (.string a) (.string b) = pure (.bool !(Op.bytesLess a.toList b.toList)) := by simp [binOp, Op.stringOp]
end Go.Proofs.YtgnffienfjigiaaDoor.Plain
