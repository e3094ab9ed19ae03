-- WRITTEN BY a program of this session (pp.sh)
import Derived.Test.YtkfmilfmpmmpkaaDoorRows
import Derived.Test.YtkfmilfmpmmpkaaDoorCards
import Derived.Test.YtkfmilfmpmmpkaaDoorTie
import Derived.ChangeSame
import Derived.ChangeVars
import Derived.JoinedOf
import Derived.LaidLaws
import Derived.LaidHandle
import Derived.SevenTiedAt
import Derived.Test.YtkfmilfmpmmpkaaDoorPBx24
import Derived.Test.YtkfmilfmpmmpkaaDoorPurePathBack
import Derived.Test.YtkfmilfmpmmpkaaDoorRead
import Derived.WalkKit
import Derived.ProofKit
import Derived.OpenShut
import Derived.ShutString
import Derived.ChangeOld
import Derived.Below
import Derived.SizedLaws
import Derived.Carry
namespace Go.Proofs.YtkfmilfmpmmpkaaDoor.pathBack
open Go.ChangeShapes Go.WideShapes Go.ChangeAt Go.RowKit
open Go.ChangeMaps (open_string shut_string)
open Go.Proofs.YtkfmilfmpmmpkaaDoor.PB Go.Proofs.YtkfmilfmpmmpkaaDoorW.PrintWords Go.Proofs.YtkfmilfmpmmpkaaDoorW.PrintLast Go.Proofs.YtkfmilfmpmmpkaaDoorW.PrintMore
open Go.Proofs.YtkfmilfmpmmpkaaDoor.Read
set_option linter.unusedVariables false
theorem own : ownKnob Tryd.prog.godebug = none := by kernel_rfl
theorem laidOut : laidOutB Tryd.prog = true := by kernel_rfl
/-! One start that fits: the listed variables as the text lays them. -/
def flatF : Nat → DataW Unit → List Value
  | k + 1, .lit (.int i n) => [.int i n]
  | k + 1, .agg l => l.flatMap (flatF k)
  | _, _ => []
def putT (h : Array Obj) (g : Nat) (d : DataW Unit) : Array Obj := h.modify g fun
  | .cells _ t frozen => .cells (flatF 4 d).toArray t frozen
  | o => o
def putV (h : Array Obj) (g : Nat) (v : Value) : Array Obj := h.modify g fun
  | .cells _ t frozen => .cells #[v] t frozen
  | o => o
def textOf : DataW Unit → ByteArray
  | .iface _ (.ptr (.agg [.lit (.string b)])) => ⟨b.toArray⟩
  | _ => ⟨#[]⟩
noncomputable def low : Nat := (World.holding Tryd.prog default ⟨#[], #[], []⟩).heap.size
noncomputable def base0 (os : Os) : World := World.holding Tryd.prog os ⟨#[.cells #[.string (textOf Rows.laid_strconv_ErrRange)] 110, .cells #[.string (textOf Rows.laid_strconv_ErrSyntax)] 110], #[], []⟩
noncomputable def laidWorld (os : Os) : World := { base0 os with heap := (putV (putV (putT (putT (putT (putT (putT (base0 os).heap 6 Rows.laid_math_bits_deBruijn32tab) 7 Rows.laid_math_bits_deBruijn64tab) 3 Rows.laid_internal_strconv_uint64pow10) 5 Rows.laid_unicode_utf8_acceptRanges) 4 Rows.laid_unicode_utf8_first) 2 (.iface 108 (.pointer (some ⟨low, 0, none⟩)))) 1 (.iface 108 (.pointer (some ⟨low + 1, 0, none⟩)))) }
set_option maxRecDepth 100000 in
theorem laidWorld_met (os : Os) (args : Array Value) : laidMetH Tryd.prog Rows.pathBackRow.laid ((laidWorld os).forCall (fun _ _ => 0) ⟨#[], args, []⟩).memory :=
  laidMetH_of_parts (laidMet_of_run' 8 (by kernel_rfl) (by kernel_rfl)) (by kernel_rfl)
set_option maxRecDepth 100000 in
theorem lifted (os : Os) (started : os.Started) (H : Type) (enc : TypeId × Value → H) :
    ReturnsInHanded {} Tryd.checked os 7 .any (fun w args => (Rows.pathBackSpec.pre enc Tryd.prog Tryd.f7 Rows.pathBackRow.domain false w args ∧ laidMetH Tryd.prog Rows.pathBackRow.laid w) ∧ sizedMet enc Tryd.prog Tryd.f7 (OpenSpec.ofChange Rows.pathBackSpec) false w args) (Rows.pathBackSpec.post enc Tryd.prog Tryd.f7 false true false false) := by
  refine returnsInHanded_of_change_and (C := Tryd.checked) (X := fun w _ => laidMetH Tryd.prog Rows.pathBackRow.laid w) (fun _ _ _ hh h => h.of_heap hh) own started (by kernel_rfl) Tryd.func7
    (ChangeSpec.witness_at (enc := enc) (C := Tryd.checked) (os := os) (X := fun w _ => laidMetH Tryd.prog Rows.pathBackRow.laid w) false (laidWorld os) #[.string ByteArray.empty] 8 rfl (by kernel_rfl) (by kernel_rfl) (by kernel_rfl) (by kernel_rfl) (by kernel_rfl) (laidWorld_met os _)) ?_
  intro W base args ds gs before hval0 hW hcnd hsz0 hL _
  have hsz : (DataW.weightsEach Tryd.prog (Tryd.f7.params.toList ++ Rows.pathBackSpec.plain.varTypes Tryd.prog) (ds ++ gs)).all (· ≤ reachBytes) = true := hsz0
  have hval : ∀ (j : Nat) t v, Tryd.f7.params[j]? = some t → args[j]? = some v → Value.okWide Tryd.prog W .any base t v := hval0
  have hW' := hW
  obtain ⟨p, q, hA0, hV, rfl, hfz, hnd⟩ := hW
  have hA : DataW.TrodAll enc Tryd.prog W 0 (fun _ => true) true Tryd.f7.params.toList args.toList ds p := hA0
  rw [Tryd.params7] at hA hval hsz
  obtain ⟨v0, vs0, d0, ds0, p0, q0, hargs, rfl, rfl, h0, r0⟩ := trodAll_cons hA
  obtain ⟨rfl, rfl, rfl⟩ := trodAll_nil r0
  obtain rfl : args = #[v0] := by cases args; simp_all
  obtain ⟨rfl, rfl⟩ := trodVars_none hV
  obtain ⟨x0, rfl, rfl, rfl, y0⟩ := open_string Tryd.underlying9 (hval 0 9 v0 rfl rfl) h0
  have w0 : x0.size ≤ 140737488351232 := by
    have z := sized_string hsz (j := 0) (t := 9) rfl rfl
    rw [Array.length_toList] at z
    exact z
  obtain ⟨k, hP⟩ := Pure.PathBack x0 w0
  clear hA0 hval0 hsz0 hsz
  refine (PB.coppicelaw12_PathBack.calls k x0 true W  (Go.Proofs.YtkfmilfmpmmpkaaDoor.Tabs.of_laid hL) hP).mono fun e W' ⟨he, bel0⟩ => ?_
  have bel : Below W.heap.size W W' := bel0
  subst he
  exact ⟨_, rfl, _, _, _, [], _, [], hW', trodAll_mk1 (shut_bool Tryd.underlying4 _), (trodAll_cons_mk (shut_string Tryd.underlying9 y0) trodAll_mk0), rfl, bel.frame _, fun h => by cases h⟩
theorem over : Rows.pathBackRow.holds Tryd.pinned (OpenSpec.ofChange Rows.pathBackSpec) :=
  OpenClaim.holds_of_wide 7 Tryd.f7 rfl rfl rfl rfl rfl rfl rfl ⟨rfl, rfl, rfl, rfl, rfl⟩ rfl rfl rfl rfl rfl (by kernel_rfl) Tryd.func7 (by kernel_rfl)
    (of_decide_eq_true (by kernel_rfl)) (by unfold Func.isWrapper; first | (rw [if_pos (by decide +kernel)]; kernel_rfl) | (rw [if_neg (by decide +kernel)]; exact ⟨rfl, rfl⟩))
    (fun os started H enc _ => lifted os started H enc)
theorem card : Rows.PathBackCardSaid :=
  Claim7.holds_tied_plain_at .later [] [.data, .data, .data, .data, .sentinel, .sentinel, .pinned] true (true, "8206dd83b667f53223acb1f93b354a5756e59ef88347c7c6998f39be5e19703e") true over (fun _ h => by cases h) (by kernel_rfl) (fun _ h => by cases h) pathBack_row_tie rfl ⟨rfl, rfl⟩ (by kernel_rfl) rfl
    (fun f fn hf hfn => by
      obtain rfl : f = 7 := Option.some.inj ((show Tryd.prog.funcNamed "coppice/coppicelaw12.PathBack" = some 7 by kernel_rfl).symm.trans hf) |>.symm
      obtain rfl : fn = Tryd.f7 := (Option.some.inj (Tryd.func7.symm.trans hfn)).symm
      refine ⟨by kernel_rfl, fun j t ht => ?_⟩
      rw [Tryd.params7] at ht
      have h3 : t ∈ [9] := by
        have := List.mem_of_getElem? (by simpa using ht)
        exact this
      revert h3
      simp only [List.mem_cons, List.not_mem_nil, or_false]
      intro h3
      (try rcases h3 with rfl) <;> (try subst h3) <;> (show Tryd.prog.wantsStandIn _ = false; kernel_rfl))
    (by kernel_rfl)
theorem proved : Rows.PathBackCardSaid := card
#print axioms proved
end Go.Proofs.YtkfmilfmpmmpkaaDoor.pathBack
namespace Go.Proofs.YtkfmilfmpmmpkaaDoor
/-- The row, under a short name, for the claim. -/
theorem pathBack_holds : Rows.PathBackCardSaid := pathBack.proved
end Go.Proofs.YtkfmilfmpmmpkaaDoor
