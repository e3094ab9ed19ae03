-- WRITTEN BY a program of this session (pp.sh)
import Derived.Test.YtgnffienfjigiaaDoorRows
import Derived.Test.YtgnffienfjigiaaDoorCards
import Derived.Test.YtgnffienfjigiaaDoorTie
import Derived.ChangeSame
import Derived.ChangeVars
import Derived.JoinedOf
import Derived.LaidLaws
import Derived.LaidHandle
import Derived.SevenTiedAt
import Derived.Test.YtgnffienfjigiaaDoorPAx12
import Derived.Test.YtgnffienfjigiaaDoorPureSparseOwn
import Derived.Test.YtgnffienfjigiaaDoorRead
import Derived.WalkKit
import Derived.ProofKit
import Derived.OpenShut
import Derived.ShutString
import Derived.ChangeOld
import Derived.Below
import Derived.SizedLaws
import Derived.Carry
namespace Go.Proofs.YtgnffienfjigiaaDoor.sparseOwn
open Go.ChangeShapes Go.WideShapes Go.ChangeAt Go.RowKit
open Go.ChangeMaps (open_string shut_string)
open Go.Proofs.YtgnffienfjigiaaDoor.PA Go.Proofs.YtgnffienfjigiaaDoorW.PrintWords Go.Proofs.YtgnffienfjigiaaDoorW.PrintLast Go.Proofs.YtgnffienfjigiaaDoorW.PrintMore
open Go.Proofs.YtgnffienfjigiaaDoor.Read
set_option linter.unusedVariables false
theorem own : ownKnob Tryd.prog.godebug = none := by kernel_rfl
theorem laidOut : laidOutB Tryd.prog = true := by kernel_rfl
set_option maxRecDepth 100000 in
theorem rd39 : Rd Tryd.prog 39 k39 wf39 := Rd.struct (fun x : S39 => (x.f0, x.f1)) (fun p => ⟨p.1, p.2⟩) Tryd.underlying39 (fun _ => rfl) (fun _ h => h) (RdF.cons (Rd.int (P := Tryd.prog) (k := .i64) Tryd.underlying3) rfl (by kernel_rfl) (RdF.one (Rd.string (P := Tryd.prog) Tryd.underlying9) rfl (by kernel_rfl))) (by kernel_rfl)
set_option maxRecDepth 100000 in
theorem rd42 : Rd Tryd.prog 42 k42 wf42 := Rd.struct (fun x : S42 => (x.f0, x.f1, x.f2, x.f3)) (fun p => ⟨p.1, p.2.1, p.2.2.1, p.2.2.2⟩) Tryd.underlying42 (fun _ => rfl) (fun _ h => h) (RdF.cons (Rd.int (P := Tryd.prog) (k := .i64) Tryd.underlying3) rfl (by kernel_rfl) (RdF.cons (Rd.int (P := Tryd.prog) (k := .i64) Tryd.underlying3) rfl (by kernel_rfl) (RdF.cons (Rd.int (P := Tryd.prog) (k := .i64) Tryd.underlying3) rfl (by kernel_rfl) (RdF.one (Rd.string (P := Tryd.prog) Tryd.underlying9) rfl (by kernel_rfl))))) (by kernel_rfl)
/-! One start that fits: the listed variables as the text lays them. -/
def flatF : Nat → DataW Unit → List Value
  | k + 1, .lit (.int i n) => [.int i n]
  | k + 1, .agg l => l.flatMap (flatF k)
  | _, _ => []
def putT (h : Array Obj) (g : Nat) (d : DataW Unit) : Array Obj := h.modify g fun
  | .cells _ t frozen => .cells (flatF 4 d).toArray t frozen
  | o => o
def putV (h : Array Obj) (g : Nat) (v : Value) : Array Obj := h.modify g fun
  | .cells _ t frozen => .cells #[v] t frozen
  | o => o
def textOf : DataW Unit → ByteArray
  | .iface _ (.ptr (.agg [.lit (.string b)])) => ⟨b.toArray⟩
  | _ => ⟨#[]⟩
noncomputable def low : Nat := (World.holding Tryd.prog default ⟨#[], #[], []⟩).heap.size
noncomputable def base0 (os : Os) : World := World.holding Tryd.prog os ⟨#[], #[], []⟩
noncomputable def laidWorld (os : Os) : World := { base0 os with heap := (putT (putT (base0 os).heap 1 Rows.laid_unicode_utf8_acceptRanges) 0 Rows.laid_unicode_utf8_first) }
set_option maxRecDepth 100000 in
theorem laidWorld_met (os : Os) (args : Array Value) : laidMetH Tryd.prog Rows.sparseOwnRow.laid ((laidWorld os).forCall (fun _ _ => 0) ⟨#[], args, []⟩).memory :=
  laidMetH_of_parts (laidMet_of_run' 8 (by kernel_rfl) (by kernel_rfl)) (by kernel_rfl)
set_option maxRecDepth 100000 in
theorem lifted (os : Os) (started : os.Started) (H : Type) (enc : TypeId × Value → H) :
    ReturnsInHanded {} Tryd.checked os 5 .any (fun w args => (Rows.sparseOwnSpec.pre enc Tryd.prog Tryd.f5 Rows.sparseOwnRow.domain false w args ∧ laidMetH Tryd.prog Rows.sparseOwnRow.laid w) ∧ sizedMet enc Tryd.prog Tryd.f5 (OpenSpec.ofChange Rows.sparseOwnSpec) false w args) (Rows.sparseOwnSpec.post enc Tryd.prog Tryd.f5 false true false false) := by
  refine returnsInHanded_of_change_and (C := Tryd.checked) (X := fun w _ => laidMetH Tryd.prog Rows.sparseOwnRow.laid w) (fun _ _ _ hh h => h.of_heap hh) own started (by kernel_rfl) Tryd.func5
    (ChangeSpec.witness_at (enc := enc) (C := Tryd.checked) (os := os) (X := fun w _ => laidMetH Tryd.prog Rows.sparseOwnRow.laid w) false (laidWorld os) #[.slice none 0 0, .int .i64 0, .agg #[.int .i64 0, .int .i64 0, .int .i64 0, .string ByteArray.empty]] 8 rfl (by kernel_rfl) (by kernel_rfl) (by kernel_rfl) (by kernel_rfl) (by kernel_rfl) (laidWorld_met os _)) ?_
  intro W base args ds gs before hval0 hW hcnd hsz0 hL _
  have hsz : (DataW.weightsEach Tryd.prog (Tryd.f5.params.toList ++ Rows.sparseOwnSpec.plain.varTypes Tryd.prog) (ds ++ gs)).all (· ≤ reachBytes) = true := hsz0
  have hval : ∀ (j : Nat) t v, Tryd.f5.params[j]? = some t → args[j]? = some v → Value.okWide Tryd.prog W .any base t v := hval0
  have hW' := hW
  obtain ⟨p, q, hA0, hV, rfl, hfz, hnd⟩ := hW
  have hA : DataW.TrodAll enc Tryd.prog W 0 (fun _ => true) true Tryd.f5.params.toList args.toList ds p := hA0
  rw [Tryd.params5] at hA hval hsz
  obtain ⟨v0, vs0, d0, ds0, p0, q0, hargs, rfl, rfl, h0, r0⟩ := trodAll_cons hA
  obtain ⟨v1, vs1, d1, ds1, p1, q1, rfl, rfl, rfl, h1, r1⟩ := trodAll_cons r0
  obtain ⟨v2, vs2, d2, ds2, p2, q2, rfl, rfl, rfl, h2, r2⟩ := trodAll_cons r1
  obtain ⟨rfl, rfl, rfl⟩ := trodAll_nil r2
  obtain rfl : args = #[v0, v1, v2] := by cases args; simp_all
  obtain ⟨rfl, rfl⟩ := trodVars_none hV
  have k0 := h0
  have lt0 : ∀ x ∈ p0, x.block < W.heap.size := by obtain ⟨m, hm⟩ := k0; exact DataW.trod_lt m _ _ _ hm
  obtain ⟨fuel0, hf0⟩ := h0
  obtain ⟨a0, len0, cap0, rfl⟩ := okWide_slice Tryd.underlying22 (hval 0 22 v0 rfl rfl)
  obtain ⟨x0, ⟨A0, c0, he0, hc0, hr0⟩, wf0_⟩ := (Rd.slice (P := Tryd.prog) Tryd.underlying22 rd39 (by kernel_rfl)) H enc W 0 _ _ fuel0 _ _ hf0
  obtain ⟨rfl, rfl, rfl⟩ : a0 = A0 ∧ len0 = x0.length ∧ cap0 = c0 := by simpa [Value.cells] using he0
  obtain ⟨x1, rfl, rfl, rfl, w1⟩ := open_int Tryd.underlying3 (hval 1 3 v1 rfl rfl) h1
  have k2 := h2
  have lt2 : ∀ x ∈ p2, x.block < W.heap.size := by obtain ⟨m, hm⟩ := k2; exact DataW.trod_lt m _ _ _ hm
  obtain ⟨fuel2, hf2⟩ := h2
  obtain ⟨cs2, rfl, _⟩ := okWide_struct Tryd.underlying42 (hval 2 42 v2 rfl rfl)
  obtain ⟨x2, hK2, wf2_⟩ := rd42 H enc W 0 _ _ fuel2 _ _ hf2
  have hcs2 := k42_open hK2
  obtain ⟨cl2⟩ := cs2
  obtain rfl := (show cl2 = _ from hcs2)
  obtain ⟨k, hP⟩ := Pure.SparseOwn x0 x1 x2 wf0_ w1 wf2_
  clear hA0 hval0 hsz0 hsz
  refine (PA.coppicelaw13_SparseOwn.calls k _ _ x0 x1 x2.f0 x2.f1 x2.f2 x2.f3 true W hr0 hc0 hP).mono fun e W' ⟨he, bel0⟩ => ?_
  have bel : Below W.heap.size W W' := bel0
  subst he
  exact ⟨_, rfl, _, _, _, [], _, [], hW', trodAll_mk1 (shut_bool Tryd.underlying4 _), (trodAll_cons_mk (Below.trod laidOut (by kernel_rfl) (of_decide_eq_true (by kernel_rfl)) k0 bel lt0) (trodAll_cons_mk (shut_int Tryd.underlying3 w1) (trodAll_cons_mk (Below.trod laidOut (by kernel_rfl) (of_decide_eq_true (by kernel_rfl)) k2 bel lt2) trodAll_mk0))), rfl, bel.frame _, fun h => by cases h⟩
theorem over : Rows.sparseOwnRow.holds Tryd.pinned (OpenSpec.ofChange Rows.sparseOwnSpec) :=
  OpenClaim.holds_of_wide 5 Tryd.f5 rfl rfl rfl rfl rfl rfl rfl ⟨rfl, rfl, rfl, rfl, rfl⟩ rfl rfl rfl rfl rfl (by kernel_rfl) Tryd.func5 (by kernel_rfl)
    (of_decide_eq_true (by kernel_rfl)) (by unfold Func.isWrapper; first | (rw [if_pos (by decide +kernel)]; kernel_rfl) | (rw [if_neg (by decide +kernel)]; exact ⟨rfl, rfl⟩))
    (fun os started H enc _ => lifted os started H enc)
theorem card : Rows.SparseOwnCardSaid :=
  Claim7.holds_tied_plain_at .later [] [.data, .pinned] true (true, "16e3500739b51b141fbd4bbeded98d22787d6ee255111f5332b91da7d4dc2c22") false over (fun _ h => by cases h) (by kernel_rfl) (fun _ h => by cases h) sparseOwn_row_tie rfl ⟨rfl, rfl⟩ (by kernel_rfl) rfl
    (fun f fn hf hfn => by
      obtain rfl : f = 5 := Option.some.inj ((show Tryd.prog.funcNamed "coppice/coppicelaw13.SparseOwn" = some 5 by kernel_rfl).symm.trans hf) |>.symm
      obtain rfl : fn = Tryd.f5 := (Option.some.inj (Tryd.func5.symm.trans hfn)).symm
      refine ⟨by kernel_rfl, fun j t ht => ?_⟩
      rw [Tryd.params5] at ht
      have h3 : t ∈ [22, 3, 42] := by
        have := List.mem_of_getElem? (by simpa using ht)
        exact this
      revert h3
      simp only [List.mem_cons, List.not_mem_nil, or_false]
      intro h3
      (try rcases h3 with rfl | rfl | rfl) <;> (try subst h3) <;> (show Tryd.prog.wantsStandIn _ = false; kernel_rfl))
    (by kernel_rfl)
theorem proved : Rows.SparseOwnCardSaid := card
#print axioms proved
end Go.Proofs.YtgnffienfjigiaaDoor.sparseOwn
namespace Go.Proofs.YtgnffienfjigiaaDoor
/-- The row, under a short name, for the claim. -/
theorem sparseOwn_holds : Rows.SparseOwnCardSaid := sparseOwn.proved
end Go.Proofs.YtgnffienfjigiaaDoor
