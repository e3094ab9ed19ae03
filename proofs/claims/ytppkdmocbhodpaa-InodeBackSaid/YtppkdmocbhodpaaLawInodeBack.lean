-- WRITTEN BY a program of this session (pp.sh)
import Derived.Test.YtppkdmocbhodpaaRows
import Derived.Test.YtppkdmocbhodpaaPAx12
import Derived.Test.YtppkdmocbhodpaaPureInodeBack
import Derived.Test.YtppkdmocbhodpaaRead
import Derived.WalkKit
import Derived.ProofKit
import Derived.OpenShut
import Derived.ShutString
import Derived.ChangeOld
import Derived.Below
import Derived.SizedLaws
import Derived.Carry
namespace Go.Proofs.Ytppkdmocbhodpaa.inodeBack
open Go.ChangeShapes Go.WideShapes Go.ChangeAt Go.RowKit
open Go.ChangeMaps (open_string shut_string)
open Go.Proofs.Ytppkdmocbhodpaa.PA Go.Proofs.YtppkdmocbhodpaaW.PrintWords Go.Proofs.YtppkdmocbhodpaaW.PrintLast Go.Proofs.YtppkdmocbhodpaaW.PrintMore
open Go.Proofs.Ytppkdmocbhodpaa.Read
set_option linter.unusedVariables false
theorem own : ownKnob Try.prog.godebug = none := by kernel_rfl
theorem laidOut : laidOutB Try.prog = true := by kernel_rfl
theorem rd23 : Rd Try.prog 23 k23 wf23 := Rd.struct (fun x : S23 => (x.f0, x.f1, x.f2, x.f3, x.f4, x.f5)) (fun p => ⟨p.1, p.2.1, p.2.2.1, p.2.2.2.1, p.2.2.2.2.1, p.2.2.2.2.2⟩) Try.underlying23 (fun _ => rfl) (fun _ h => h) (RdF.cons (Rd.int (P := Try.prog) (k := .i64) Try.underlying3) rfl (by kernel_rfl) (RdF.cons (Rd.int (P := Try.prog) (k := .i64) Try.underlying3) rfl (by kernel_rfl) (RdF.cons (Rd.int (P := Try.prog) (k := .i64) Try.underlying3) rfl (by kernel_rfl) (RdF.cons (Rd.int (P := Try.prog) (k := .i64) Try.underlying3) rfl (by kernel_rfl) (RdF.cons (Rd.int (P := Try.prog) (k := .i64) Try.underlying3) rfl (by kernel_rfl) (RdF.one (Rd.string (P := Try.prog) Try.underlying9) rfl (by kernel_rfl))))))) (by kernel_rfl)
set_option maxRecDepth 100000 in
theorem lifted (os : Os) (started : os.Started) (H : Type) (enc : TypeId × Value → H) :
    ReturnsInHanded {} Try.checked os 6 .any (Rows.inodeBackSpec.pre6 enc Try.prog Try.f6 Rows.inodeBackRow.domain false) (Rows.inodeBackSpec.post enc Try.prog Try.f6 false true false false) := by
  refine returnsInHanded_of_change_sized (C := Try.checked) own started (by kernel_rfl) Try.func6
    (ChangeSpec.witness6 (enc := enc) (C := Try.checked) false ⟨#[], #[.agg #[.int .i64 0, .int .i64 0, .int .i64 0, .int .i64 0, .int .i64 0, .string ByteArray.empty], .string ByteArray.empty], []⟩ 8 (by kernel_rfl) (by kernel_rfl) (by kernel_rfl) (by kernel_rfl)) ?_
  intro W base args ds gs before hval0 hW hcnd hsz0 _
  have hsz : (DataW.weightsEach Try.prog (Try.f6.params.toList ++ Rows.inodeBackSpec.plain.varTypes Try.prog) (ds ++ gs)).all (· ≤ reachBytes) = true := hsz0
  have hval : ∀ (j : Nat) t v, Try.f6.params[j]? = some t → args[j]? = some v → Value.okWide Try.prog W .any base t v := hval0
  have hW' := hW
  obtain ⟨p, q, hA0, hV, rfl, hfz, hnd⟩ := hW
  have hA : DataW.TrodAll enc Try.prog W 0 (fun _ => true) true Try.f6.params.toList args.toList ds p := hA0
  rw [Try.params6] at hA hval hsz
  obtain ⟨v0, vs0, d0, ds0, p0, q0, hargs, rfl, rfl, h0, r0⟩ := trodAll_cons hA
  obtain ⟨v1, vs1, d1, ds1, p1, q1, rfl, rfl, rfl, h1, r1⟩ := trodAll_cons r0
  obtain ⟨rfl, rfl, rfl⟩ := trodAll_nil r1
  obtain rfl : args = #[v0, v1] := by cases args; simp_all
  obtain ⟨rfl, rfl⟩ := trodVars_none hV
  have k0 := h0
  have lt0 : ∀ x ∈ p0, x.block < W.heap.size := by obtain ⟨m, hm⟩ := k0; exact DataW.trod_lt m _ _ _ hm
  obtain ⟨fuel0, hf0⟩ := h0
  obtain ⟨cs0, rfl, _⟩ := okWide_struct Try.underlying23 (hval 0 23 v0 rfl rfl)
  obtain ⟨x0, hK0, wf0_⟩ := rd23 H enc W 0 _ _ fuel0 _ _ hf0
  have hcs0 := k23_open hK0
  obtain ⟨cl0⟩ := cs0
  obtain rfl := (show cl0 = _ from hcs0)
  obtain ⟨x1, rfl, rfl, rfl, y1⟩ := open_string Try.underlying9 (hval 1 9 v1 rfl rfl) h1
  have w1 : x1.size ≤ 140737488351232 := by
    have z := sized_string hsz (j := 1) (t := 9) rfl rfl
    rw [Array.length_toList] at z
    exact z
  obtain ⟨k, hP⟩ := Pure.InodeBack x0 x1 wf0_ w1
  clear hA0 hval0 hsz0 hsz
  refine (PA.coppicelaw14_InodeBack.calls k x0.f0 x0.f1 x0.f2 x0.f3 x0.f4 x0.f5 x1 true W  hP).mono fun e W' ⟨he, bel0⟩ => ?_
  have bel : Below W.heap.size W W' := bel0
  subst he
  exact ⟨_, rfl, _, _, _, [], _, [], hW', trodAll_mk1 (shut_bool Try.underlying4 _), (trodAll_cons_mk (Below.trod laidOut (by kernel_rfl) (of_decide_eq_true (by kernel_rfl)) k0 bel lt0) (trodAll_cons_mk (shut_string Try.underlying9 y1) trodAll_mk0)), rfl, bel.frame _, fun h => by cases h⟩
theorem over : Rows.inodeBackRow.holds Try.pinned (OpenSpec.ofChange Rows.inodeBackSpec) :=
  OpenClaim.holds_of_wide 6 Try.f6 rfl rfl rfl rfl rfl rfl rfl ⟨rfl, rfl, rfl, rfl, rfl⟩ rfl rfl rfl rfl rfl (by kernel_rfl) Try.func6 (by kernel_rfl)
    (of_decide_eq_true (by kernel_rfl)) (by unfold Func.isWrapper; first | (rw [if_pos (by decide +kernel)]; kernel_rfl) | (rw [if_neg (by decide +kernel)]; exact ⟨rfl, rfl⟩))
    (fun os started H enc _ => lifted os started H enc)
theorem proved : Rows.InodeBackSaid := over
#print axioms proved
end Go.Proofs.Ytppkdmocbhodpaa.inodeBack
namespace Go.Proofs.Ytppkdmocbhodpaa
/-- The row, under a short name, for the claim. -/
theorem inodeBack_holds : Rows.InodeBackSaid := inodeBack.proved
end Go.Proofs.Ytppkdmocbhodpaa
