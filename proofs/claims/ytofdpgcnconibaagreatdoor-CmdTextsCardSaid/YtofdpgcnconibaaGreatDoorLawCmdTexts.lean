-- WRITTEN BY a program of this session (pp.sh)
import Derived.Test.YtofdpgcnconibaaGreatDoorRows
import Derived.Test.YtofdpgcnconibaaGreatDoorCards
import Derived.Test.YtofdpgcnconibaaGreatDoorTie
import Derived.ChangeSame
import Derived.ChangeVars
import Derived.JoinedOf
import Derived.LaidLaws
import Derived.LaidHandle
import Derived.SevenTiedAt
import Derived.Test.YtofdpgcnconibaaGreatDoorPAx34
import Derived.Test.YtofdpgcnconibaaGreatDoorPureCmdTexts
import Derived.Test.YtofdpgcnconibaaGreatDoorRead
import Derived.WalkKit
import Derived.ProofKit
import Derived.OpenShut
import Derived.ShutString
import Derived.ChangeOld
import Derived.Below
import Derived.SizedLaws
import Derived.Carry
set_option linter.unusedVariables false
set_option linter.unusedSimpArgs false
namespace Go.Proofs.YtofdpgcnconibaaGreatDoor.cmdTexts
open Go.ChangeShapes Go.WideShapes Go.ChangeAt Go.RowKit
open Go.ChangeMaps (open_string shut_string)
open Go.Proofs.YtofdpgcnconibaaGreatDoor.PA Go.Proofs.YtofdpgcnconibaaGreatDoorW.PrintWords Go.Proofs.YtofdpgcnconibaaGreatDoorW.PrintLast Go.Proofs.YtofdpgcnconibaaGreatDoorW.PrintMore
open Go.Proofs.YtofdpgcnconibaaGreatDoor.Read
set_option linter.unusedVariables false
theorem own : ownKnob Tryz.prog.godebug = none := by kernel_rfl
theorem laidOut : laidOutB Tryz.prog = true := by kernel_rfl
set_option maxRecDepth 100000 in
theorem rd23 : Rd Tryz.prog 23 k23 wf23 := Rd.struct (fun x : S23 => (x.f0, x.f1, x.f2, x.f3, x.f4, x.f5)) (fun p => ⟨p.1, p.2.1, p.2.2.1, p.2.2.2.1, p.2.2.2.2.1, p.2.2.2.2.2⟩) Tryz.underlying23 (fun _ => rfl) (fun _ h => h) (RdF.cons (Rd.int (P := Tryz.prog) (k := .i64) Tryz.underlying3) rfl (by kernel_rfl) (RdF.cons (Rd.string (P := Tryz.prog) Tryz.underlying9) rfl (by kernel_rfl) (RdF.cons (Rd.string (P := Tryz.prog) Tryz.underlying9) rfl (by kernel_rfl) (RdF.cons (Rd.string (P := Tryz.prog) Tryz.underlying9) rfl (by kernel_rfl) (RdF.cons (Rd.int (P := Tryz.prog) (k := .i64) Tryz.underlying3) rfl (by kernel_rfl) (RdF.one (Rd.string (P := Tryz.prog) Tryz.underlying9) rfl (by kernel_rfl))))))) (by kernel_rfl)
/-! One start that fits: the listed variables as the text lays them. -/
def flatF : Nat → DataW Unit → List Value
  | k + 1, .lit (.int i n) => [.int i n]
  | k + 1, .agg l => l.flatMap (flatF k)
  | _, _ => []
def putT (h : Array Obj) (g : Nat) (d : DataW Unit) : Array Obj := h.modify g fun
  | .cells _ t frozen => .cells (flatF 4 d).toArray t frozen
  | o => o
def putV (h : Array Obj) (g : Nat) (v : Value) : Array Obj := h.modify g fun
  | .cells _ t frozen => .cells #[v] t frozen
  | o => o
def textOf : DataW Unit → ByteArray
  | .iface _ (.ptr (.agg [.lit (.string b)])) => ⟨b.toArray⟩
  | _ => ⟨#[]⟩
noncomputable def low : Nat := (World.holding Tryz.prog default ⟨#[], #[], []⟩).heap.size
noncomputable def base0 (os : Os) : World := World.holding Tryz.prog os ⟨#[.cells #[.string (textOf Rows.laid_strconv_ErrRange)] 203, .cells #[.string (textOf Rows.laid_strconv_ErrSyntax)] 203], #[], []⟩
noncomputable def laidWorld (os : Os) : World := { base0 os with heap := (putV (putV (putV (putT (putT (putT (putT (putT (base0 os).heap 7 Rows.laid_math_bits_deBruijn32tab) 8 Rows.laid_math_bits_deBruijn64tab) 6 Rows.laid_internal_strconv_uint64pow10) 5 Rows.laid_unicode_utf8_acceptRanges) 4 Rows.laid_unicode_utf8_first) 3 (.iface 201 (.pointer (some ⟨low, 0, none⟩)))) 2 (.iface 201 (.pointer (some ⟨low + 1, 0, none⟩)))) 0 (.iface 146 (.agg #[.pointer (some ⟨9, 55, none⟩)]))) }
set_option maxRecDepth 100000 in
theorem laidWorld_met (os : Os) (args : Array Value) : laidMetH Tryz.prog Rows.cmdTextsRow.laid ((laidWorld os).forCall (fun _ _ => 0) ⟨#[], args, []⟩).memory :=
  laidMetH_of_parts (laidMet_of_run' 8 (by kernel_rfl) (by kernel_rfl)) (by kernel_rfl)
set_option maxRecDepth 100000 in
theorem lifted (os : Os) (started : os.Started) (H : Type) (enc : TypeId × Value → H) :
    ReturnsInHanded {} Tryz.checked os 7 .any (fun w args => (Rows.cmdTextsSpec.pre enc Tryz.prog Tryz.f7 Rows.cmdTextsRow.domain false w args ∧ laidMetH Tryz.prog Rows.cmdTextsRow.laid w) ∧ sizedMet enc Tryz.prog Tryz.f7 (OpenSpec.ofChange Rows.cmdTextsSpec) false w args) (Rows.cmdTextsSpec.post enc Tryz.prog Tryz.f7 false true false false) := by
  refine returnsInHanded_of_change_and (C := Tryz.checked) (X := fun w _ => laidMetH Tryz.prog Rows.cmdTextsRow.laid w) (fun _ _ _ hh h => h.of_heap hh) own started (by kernel_rfl) Tryz.func7
    (ChangeSpec.witness_at (enc := enc) (C := Tryz.checked) (os := os) (X := fun w _ => laidMetH Tryz.prog Rows.cmdTextsRow.laid w) false (laidWorld os) #[.slice none 0 0, .string ByteArray.empty] 8 rfl (by kernel_rfl) (by kernel_rfl) (by kernel_rfl) (by kernel_rfl) (by kernel_rfl) (laidWorld_met os _)) ?_
  intro W base args ds gs before hval0 hW hcnd hsz0 hL _
  have hsz : (DataW.weightsEach Tryz.prog (Tryz.f7.params.toList ++ Rows.cmdTextsSpec.plain.varTypes Tryz.prog) (ds ++ gs)).all (· ≤ reachBytes) = true := hsz0
  have hval : ∀ (j : Nat) t v, Tryz.f7.params[j]? = some t → args[j]? = some v → Value.okWide Tryz.prog W .any base t v := hval0
  have hW' := hW
  obtain ⟨p, q, hA0, hV, rfl, hfz, hnd⟩ := hW
  have hA : DataW.TrodAll enc Tryz.prog W 0 (fun _ => true) true Tryz.f7.params.toList args.toList ds p := hA0
  rw [Tryz.params7] at hA hval hsz
  obtain ⟨v0, vs0, d0, ds0, p0, q0, hargs, rfl, rfl, h0, r0⟩ := trodAll_cons hA
  obtain ⟨v1, vs1, d1, ds1, p1, q1, rfl, rfl, rfl, h1, r1⟩ := trodAll_cons r0
  obtain ⟨rfl, rfl, rfl⟩ := trodAll_nil r1
  obtain rfl : args = #[v0, v1] := by cases args; simp_all
  obtain ⟨rfl, rfl⟩ := trodVars_none hV
  have k0 := h0
  have lt0 : ∀ x ∈ p0, x.block < W.heap.size := by obtain ⟨m, hm⟩ := k0; exact DataW.trod_lt m _ _ _ hm
  obtain ⟨fuel0, hf0⟩ := h0
  obtain ⟨a0, len0, cap0, rfl⟩ := okWide_slice Tryz.underlying26 (hval 0 26 v0 rfl rfl)
  obtain ⟨x0, ⟨A0, c0, he0, hc0, hr0⟩, wf0_⟩ := (Rd.slice (P := Tryz.prog) Tryz.underlying26 rd23 (by kernel_rfl)) H enc W 0 _ _ fuel0 _ _ hf0
  obtain ⟨rfl, rfl, rfl⟩ : a0 = A0 ∧ len0 = x0.length ∧ cap0 = c0 := by simpa [Value.cells] using he0
  obtain ⟨x1, rfl, rfl, rfl, y1⟩ := open_string Tryz.underlying9 (hval 1 9 v1 rfl rfl) h1
  have w1 : x1.size ≤ 140737488351232 := by
    have z := sized_string hsz (j := 1) (t := 9) rfl rfl
    rw [Array.length_toList] at z
    exact z
  obtain ⟨k, hP⟩ := Pure.CmdTexts x0 x1 wf0_ w1
  clear hA0 hval0 hsz0 hsz
  refine (PA.coppicelaw19_CmdTexts.calls k _ _ x0 x1 true W hr0 hc0 (Go.Proofs.YtofdpgcnconibaaGreatDoor.Tabs.of_laid hL) hP).mono fun e W' ⟨he, bel0⟩ => ?_
  have bel : Below W.heap.size W W' := bel0
  subst he
  exact ⟨_, rfl, _, _, _, [], _, [], hW', trodAll_mk1 (shut_bool Tryz.underlying4 _), (trodAll_cons_mk (Below.trod laidOut (by kernel_rfl) (of_decide_eq_true (by kernel_rfl)) k0 bel lt0) (trodAll_cons_mk (shut_string Tryz.underlying9 y1) trodAll_mk0)), rfl, bel.frame _, fun h => by cases h⟩
theorem over : Rows.cmdTextsRow.holds Tryz.pinned (OpenSpec.ofChange Rows.cmdTextsSpec) :=
  OpenClaim.holds_of_wide 7 Tryz.f7 rfl rfl rfl rfl rfl rfl rfl ⟨rfl, rfl, rfl, rfl, rfl⟩ rfl rfl rfl rfl rfl (by kernel_rfl) Tryz.func7 (by kernel_rfl)
    (of_decide_eq_true (by kernel_rfl)) (by unfold Func.isWrapper; first | (rw [if_pos (by decide +kernel)]; kernel_rfl) | (rw [if_neg (by decide +kernel)]; exact ⟨rfl, rfl⟩))
    (fun os started H enc _ => lifted os started H enc)
theorem card : Rows.CmdTextsCardSaid :=
  Claim7.holds_tied_plain_at .later [] [.data, .data, .data, .data, .handle, .sentinel, .sentinel, .pinned] true (true, "cd4543b1b72ac9d4d699e839f1ee402112abcc7eb4e8a93bcdfd11fa0deb44f9") true over (fun _ h => by cases h) (by kernel_rfl) (fun _ h => by cases h) cmdTexts_row_tie rfl ⟨rfl, rfl⟩ (by kernel_rfl) rfl
    (fun f fn hf hfn => by
      obtain rfl : f = 7 := Option.some.inj ((show Tryz.prog.funcNamed "coppice/coppicelaw19.CmdTexts" = some 7 by kernel_rfl).symm.trans hf) |>.symm
      obtain rfl : fn = Tryz.f7 := (Option.some.inj (Tryz.func7.symm.trans hfn)).symm
      refine ⟨by kernel_rfl, fun j t ht => ?_⟩
      rw [Tryz.params7] at ht
      have h3 : t ∈ [26, 9] := by
        have := List.mem_of_getElem? (by simpa using ht)
        exact this
      revert h3
      simp only [List.mem_cons, List.not_mem_nil, or_false]
      intro h3
      (try rcases h3 with rfl | rfl) <;> (try subst h3) <;> (show Tryz.prog.wantsStandIn _ = false; kernel_rfl))
    (by kernel_rfl)
theorem proved : Rows.CmdTextsCardSaid := card
#print axioms proved
end Go.Proofs.YtofdpgcnconibaaGreatDoor.cmdTexts
namespace Go.Proofs.YtofdpgcnconibaaGreatDoor
/-- The row, under a short name, for the claim. -/
theorem cmdTexts_holds : Rows.CmdTextsCardSaid := cmdTexts.proved
end Go.Proofs.YtofdpgcnconibaaGreatDoor
