-- WRITTEN BY a program of this session (pp.sh)
import Derived.Test.YtdkbikaheagbfaaRows
import Derived.Test.YtdkbikaheagbfaaPTx20
import Derived.Test.YtdkbikaheagbfaaPureNodeSplits
import Derived.Test.YtdkbikaheagbfaaRead
import Derived.WalkKit
import Derived.ProofKit
import Derived.OpenShut
import Derived.ShutString
import Derived.ChangeOld
import Derived.Below
import Derived.SizedLaws
import Derived.Carry
namespace Go.Proofs.Ytdkbikaheagbfaa.nodeSplits
open Go.ChangeShapes Go.WideShapes Go.ChangeAt Go.RowKit
open Go.ChangeMaps (open_string shut_string)
open Go.Proofs.Ytdkbikaheagbfaa.PT Go.Proofs.YtdkbikaheagbfaaW.PrintWords Go.Proofs.YtdkbikaheagbfaaW.PrintLast Go.Proofs.YtdkbikaheagbfaaW.PrintMore
open Go.Proofs.Ytdkbikaheagbfaa.Read
set_option linter.unusedVariables false
theorem own : ownKnob Try.prog.godebug = none := by kernel_rfl
theorem laidOut : laidOutB Try.prog = true := by kernel_rfl
set_option maxRecDepth 100000 in
theorem rd44 : Rd Try.prog 44 k44 wf44 := Rd.struct (fun x : S44 => (x.f0, x.f1)) (fun p => ⟨p.1, p.2⟩) Try.underlying44 (fun _ => rfl) (fun _ h => h) (RdF.cons (Rd.string (P := Try.prog) Try.underlying9) rfl (by kernel_rfl) (RdF.one (Rd.string (P := Try.prog) Try.underlying9) rfl (by kernel_rfl))) (by kernel_rfl)
set_option maxRecDepth 100000 in
theorem rd46 : Rd Try.prog 46 k46 wf46 := Rd.struct (fun x : S46 => (x.f0, x.f1)) (fun p => ⟨p.1, p.2⟩) Try.underlying46 (fun _ => rfl) (fun _ h => h) (RdF.cons (Rd.string (P := Try.prog) Try.underlying9) rfl (by kernel_rfl) (RdF.one (Rd.int (P := Try.prog) (k := .i64) Try.underlying3) rfl (by kernel_rfl))) (by kernel_rfl)
set_option maxRecDepth 100000 in
theorem rd25 : Rd Try.prog 25 k25 wf25 := Rd.struct (fun x : S25 => (x.f0, x.f1, x.f2)) (fun p => ⟨p.1, p.2.1, p.2.2⟩) Try.underlying25 (fun _ => rfl) (fun _ h => h) (RdF.cons (Rd.bool (P := Try.prog) Try.underlying4) rfl (by kernel_rfl) (RdF.cons (Rd.slice (P := Try.prog) Try.underlying22 rd44 (by kernel_rfl)) rfl (by kernel_rfl) (RdF.one (Rd.slice (P := Try.prog) Try.underlying23 rd46 (by kernel_rfl)) rfl (by kernel_rfl)))) (by kernel_rfl)
set_option maxRecDepth 100000 in
theorem lifted (os : Os) (started : os.Started) (H : Type) (enc : TypeId × Value → H) :
    ReturnsInHanded {} Try.checked os 5 .any (Rows.nodeSplitsSpec.pre6 enc Try.prog Try.f5 Rows.nodeSplitsRow.domain false) (Rows.nodeSplitsSpec.post enc Try.prog Try.f5 false true false false) := by
  refine returnsInHanded_of_change_sized (C := Try.checked) own started (by kernel_rfl) Try.func5
    (ChangeSpec.witness6 (enc := enc) (C := Try.checked) false ⟨#[], #[.agg #[.bool false, .slice none 0 0, .slice none 0 0]], []⟩ 8 (by kernel_rfl) (by kernel_rfl) (by kernel_rfl) (by kernel_rfl)) ?_
  intro W base args ds gs before hval0 hW hcnd hsz0 _
  have hsz : (DataW.weightsEach Try.prog (Try.f5.params.toList ++ Rows.nodeSplitsSpec.plain.varTypes Try.prog) (ds ++ gs)).all (· ≤ reachBytes) = true := hsz0
  have hval : ∀ (j : Nat) t v, Try.f5.params[j]? = some t → args[j]? = some v → Value.okWide Try.prog W .any base t v := hval0
  have hW' := hW
  obtain ⟨p, q, hA0, hV, rfl, hfz, hnd⟩ := hW
  have hA : DataW.TrodAll enc Try.prog W 0 (fun _ => true) true Try.f5.params.toList args.toList ds p := hA0
  rw [Try.params5] at hA hval hsz
  obtain ⟨v0, vs0, d0, ds0, p0, q0, hargs, rfl, rfl, h0, r0⟩ := trodAll_cons hA
  obtain ⟨rfl, rfl, rfl⟩ := trodAll_nil r0
  obtain rfl : args = #[v0] := by cases args; simp_all
  obtain ⟨rfl, rfl⟩ := trodVars_none hV
  have k0 := h0
  have lt0 : ∀ x ∈ p0, x.block < W.heap.size := by obtain ⟨m, hm⟩ := k0; exact DataW.trod_lt m _ _ _ hm
  obtain ⟨fuel0, hf0⟩ := h0
  obtain ⟨cs0, rfl, _⟩ := okWide_struct Try.underlying25 (hval 0 25 v0 rfl rfl)
  obtain ⟨x0, hK0, wf0_⟩ := rd25 H enc W 0 _ _ fuel0 _ _ hf0
  obtain ⟨A0_1, c0_1, A0_2, c0_2, hcs0, hc0_1, hr0_1, hc0_2, hr0_2⟩ := k25_open hK0
  obtain ⟨cl0⟩ := cs0
  obtain rfl := (show cl0 = _ from hcs0)
  obtain ⟨k, hP⟩ := Pure.NodeSplits x0 wf0_
  clear hA0 hval0 hsz0 hsz
  refine (PT.coppicelaw06_NodeSplits.calls k x0.f0 _ _ x0.f1 _ _ x0.f2 true W hr0_1 hc0_1 hr0_2 hc0_2 hP).mono fun e W' ⟨he, bel0⟩ => ?_
  have bel : Below W.heap.size W W' := bel0
  subst he
  exact ⟨_, rfl, _, _, _, [], _, [], hW', trodAll_mk1 (shut_bool Try.underlying4 _), (trodAll_cons_mk (Below.trod laidOut (by kernel_rfl) (of_decide_eq_true (by kernel_rfl)) k0 bel lt0) trodAll_mk0), rfl, bel.frame _, fun h => by cases h⟩
theorem over : Rows.nodeSplitsRow.holds Try.pinned (OpenSpec.ofChange Rows.nodeSplitsSpec) :=
  OpenClaim.holds_of_wide 5 Try.f5 rfl rfl rfl rfl rfl rfl rfl ⟨rfl, rfl, rfl, rfl, rfl⟩ rfl rfl rfl rfl rfl (by kernel_rfl) Try.func5 (by kernel_rfl)
    (of_decide_eq_true (by kernel_rfl)) (by unfold Func.isWrapper; first | (rw [if_pos (by decide +kernel)]; kernel_rfl) | (rw [if_neg (by decide +kernel)]; exact ⟨rfl, rfl⟩))
    (fun os started H enc _ => lifted os started H enc)
theorem proved : Rows.NodeSplitsSaid := over
#print axioms proved
end Go.Proofs.Ytdkbikaheagbfaa.nodeSplits
namespace Go.Proofs.Ytdkbikaheagbfaa
/-- The row, under a short name, for the claim. -/
theorem nodeSplits_holds : Rows.NodeSplitsSaid := nodeSplits.proved
end Go.Proofs.Ytdkbikaheagbfaa
