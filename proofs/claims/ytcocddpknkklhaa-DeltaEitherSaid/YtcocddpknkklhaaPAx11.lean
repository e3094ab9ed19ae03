-- WRITTEN BY a program of this session (pp.sh)
import Derived.Test.YtcocddpknkklhaaPAx0
import Derived.Test.YtcocddpknkklhaaPAx4
import Derived.Test.YtcocddpknkklhaaPAx5
import Derived.Test.YtcocddpknkklhaaPAx7
namespace Go.Proofs.Ytcocddpknkklhaa.PA
open Go.RowKit Go.Proofs.YtcocddpknkklhaaW.PrintWords Go.Proofs.YtcocddpknkklhaaW.PrintLast Go.Proofs.YtcocddpknkklhaaW.PrintMore Go.Proofs.Ytcocddpknkklhaa.Plain
attribute [local go_sem] max2_int min2_int max_two min_two max_three min_three max_four min_four binOp_leq_s binOp_gtr_s binOp_geq_s lit_byte   -- for this text's walks alone
set_option linter.unusedVariables false
set_option linter.unusedSimpArgs false

/-! ### delta_Apply: function 14, by hand -/
/-- Both heads, and what has been made since. -/
structure delta_beside.K_item_change (w W : World) (q p : Addr) (x : S59) (y : S61) : Prop where
  x0 : W.cell? q = some (.string x.f0)
  x1 : W.cell? ⟨q.block, q.off + 1, none⟩ = some (.string x.f1)
  y0 : W.cell? p = some (.string y.f0)
  y1 : W.cell? ⟨p.block, p.off + 1, none⟩ = some (.bool y.f1)
  y2 : W.cell? ⟨p.block, p.off + 2, none⟩ = some (.bool y.f2)
  y3 : W.cell? ⟨p.block, p.off + 3, none⟩ = some (.string y.f3)
  y4 : W.cell? ⟨p.block, p.off + 4, none⟩ = some (.string y.f4)
  hB : Below w.heap.size w W
theorem delta_beside.K_item_change.step {w W W' : World} {q p : Addr} {x : S59} {y : S61} (h : delta_beside.K_item_change w W q p x y) (hb : Below W.heap.size W W') : delta_beside.K_item_change w W' q p x y :=
  ⟨(hb.cell (World.block_lt_of_cell? _ _ h.x0)).trans h.x0, (hb.cell (World.block_lt_of_cell? _ _ h.x1)).trans h.x1, (hb.cell (World.block_lt_of_cell? _ _ h.y0)).trans h.y0, (hb.cell (World.block_lt_of_cell? _ _ h.y1)).trans h.y1, (hb.cell (World.block_lt_of_cell? _ _ h.y2)).trans h.y2, (hb.cell (World.block_lt_of_cell? _ _ h.y3)).trans h.y3, (hb.cell (World.block_lt_of_cell? _ _ h.y4)).trans h.y4, below_step h.hB hb⟩
theorem delta_beside.K_item_change.drew {w W : World} {q p : Addr} {x : S59} {y : S61} (h : delta_beside.K_item_change w W q p x y) : delta_beside.K_item_change w W.drew q p x y :=
  ⟨h.x0, h.x1, h.y0, h.y1, h.y2, h.y3, h.y4, h.hB.drew⟩
theorem delta_beside.K_item_change.start {w : World} {q p : Addr} {x : S59} {y : S61} (hqx : delta_beside.At_item w q x) (hpy : delta_beside.At_change w p y) : delta_beside.K_item_change w w q p x y :=
  ⟨hqx.1, hqx.2, hpy.1, hpy.2.1, hpy.2.2.1, hpy.2.2.2.1, hpy.2.2.2.2, Below.refl _ _⟩
set_option maxHeartbeats 8000000 in
set_option maxRecDepth 100000 in
theorem delta_beside.all_item_change (g : Nat) (lb : Array Value) (eg : ∀ args w, (callFunc g args).run Try.prog w = .ok (.enter g args) w) (ok : Option S59 → Option S61 → Bool) (I : List (Option S59 × Option S61) → World → Prop) (w w1 : World)
    (A0 : Option Addr) (c0 : Nat) (l0 : List S59) (hr0 : Kd.C k59 w A0 l0.length l0) (hc0 : l0.length ≤ c0) (B0 : Option Addr) (d0 : Nat) (m0 : List S61) (hs0 : Kd.C k61 w B0 m0.length m0) (hd0 : m0.length ≤ d0) (hl : l0.length + m0.length ≤ 9223372036854775000)
    (hI0 : I [] w1) (hIK : ∀ dn W W', I dn W → Below W.heap.size W W' → I dn W') (hIB : ∀ dn W, I dn W → Below w.heap.size w W)
    (hst : ∀ W dn x y vx vy, I dn W → dn.length < l0.length + m0.length → delta_beside.Pt_item w vx x → delta_beside.Pt_change w vy y → (x.isSome || y.isSome) = true →
      Calls Try.prog g (#[vx, vy] ++ lb) W fun e w' => e = .returned (.bool (ok x y)) ∧ (ok x y = true → I (dn ++ [(x, y)]) w') ∧ Below w.heap.size w w') :
    Calls Try.prog 36 #[.slice A0 l0.length c0, .slice B0 m0.length d0, .func (.func 31) #[] #[], .func (.func 37) #[] #[], .func (.func g) #[] lb] w1 fun e w' =>
      e = .returned (.bool ((MergeP.pairs (·.f0) (·.f0) l0 m0).all fun p => ok p.1 p.2)) ∧ (((MergeP.pairs (·.f0) (·.f0) l0 m0).all fun p => ok p.1 p.2) = true → I (MergeP.pairs (·.f0) (·.f0) l0 m0) w') ∧ Below w.heap.size w w' := by
  have HR0 := Aside0.mk hr0
  have HS0 := Aside0.mk hs0
  have HC0 := Aside0.mk hc0
  have HD0 := Aside0.mk hd0
  have HL := Aside0.mk hl
  have HI0 := Aside0.mk hI0
  have HIK := Aside0.mk hIK
  have HIB := Aside0.mk hIB
  have HST := Aside0.mk hst
  have ega := enters_of (P := Try.prog) Try.func31 (by kernel_rfl) rfl
  have egb := enters_of (P := Try.prog) Try.func37 (by kernel_rfl) rfl
  clear hr0 hs0 hc0 hd0 hl hI0 hIK hIB hst
  obtain ⟨R, hR⟩ : ∃ R : Bool, ((MergeP.pairs (·.f0) (·.f0) l0 m0).all fun p => ok p.1 p.2) = R := ⟨_, rfl⟩
  have HQ := Aside0.mk hR
  rw [hR]
  clear hR
  go_enter Try.func36, Try.ntmps36
  go_wp2
  go_loopg [0, 1] (l0.length + m0.length + 1) (fun kq v0 v1 w' => ∃ (la : List S59) (lb : List S61) (dn : List (Option S59 × Option S61)) (Aa Ab : Option Addr) (na ca nb cb : Nat), v0 = .slice Aa na ca ∧ v1 = .slice Ab nb cb ∧ Aside0 (na = la.length ∧ nb = lb.length ∧ na ≤ ca ∧ nb ≤ cb ∧ na + nb < kq ∧ la.length ≤ l0.length ∧ lb.length ≤ m0.length) ∧ Aside0 (dn ++ MergeP.pairs (·.f0) (·.f0) la lb = MergeP.pairs (·.f0) (·.f0) l0 m0) ∧ Aside0 (dn.all (fun p => ok p.1 p.2) = true) ∧ Aside0 (Kd.C k59 w Aa la.length la) ∧ Aside0 (Kd.C k61 w Ab lb.length lb) ∧ Aside0 (I dn w'))
  case atStart => exact ⟨l0, m0, [], _, _, _, _, _, _, rfl, rfl, ⟨rfl, rfl, HC0.out, HD0.out, by omega, Nat.le_refl _, Nat.le_refl _⟩, ⟨rfl⟩, ⟨rfl⟩, HR0, HS0, HI0⟩
  case round =>
    clear HI0 HR0 HS0
    obtain ⟨la, lb2, dn, Aa, Ab, na, ca, nb, cb, rfl, rfl, HJ, HP, HA, HCA, HCB, HI⟩ := hrel
    cases gk with
    | zero => exact absurd HJ.out (by omega)
    | succ k1 =>
      rcases la with _ | ⟨x, ra⟩
      · obtain rfl : na = 0 := HJ.out.1
        rcases lb2 with _ | ⟨y, rb⟩
        · obtain rfl : nb = 0 := HJ.out.2.1
          go_wp2
          go_ret
          have hp : dn = MergeP.pairs (·.f0) (·.f0) l0 m0 := by have := HP.out; rw [MergeP.pairs_nil, List.append_nil] at this; exact this
          have ht : (MergeP.pairs (·.f0) (·.f0) l0 m0).all (fun p => ok p.1 p.2) = true := by rw [← hp]; exact HA.out
          exact ⟨ret_b (by rw [← HQ.out, ht]), ⟨(fun _ => hp ▸ HI.out), HIB.out _ _ HI.out⟩⟩
        have HP2 : Aside0 (dn ++ (none, some y) :: MergeP.pairs (·.f0) (·.f0) [] rb = MergeP.pairs (·.f0) (·.f0) l0 m0) := ⟨by have := HP.out; rw [MergeP.pairs_nr] at this; exact this⟩
        have HN := Aside0.mk (MergeP.done_lt HP2.out)
        obtain ⟨p, e, hy, A', hcut, hC2⟩ := delta_beside.head_change HCB.out HJ.out.2.1 HJ.out.2.2.2.1
        subst e
        have HAY := Aside0.mk hy
        have HCB2 := Aside0.mk hC2
        clear hC2 hy HP
        have b1 : 0 < nb := by have := HJ.out.2.1; simp at this; omega
        have b2 : (0 : Int) < (nb : Int) := by omega
        have b3 : ((nb : Int) == 0) = false := by simp; omega
        have b4 : decide ((nb : Int) > 0) = true := decide_eq_true (by omega)
        obtain ⟨t, ht⟩ : ∃ t : Bool, ok (none) (some y) = t := ⟨_, rfl⟩
        have HT := Aside0.mk ht
        clear ht
        cases t with
        | true =>
          go_wp2
          go_region_held3 (fun _ => True) (exact trivial) (fail)
          go_wp2_with (go_at_fn g; refine (HST.out _ dn (none) (some y) _ _ (HIK.out _ _ _ HI.out (by repeat (first | exact Below.refl _ _ | apply below_drew1))) HN.out (rfl) (⟨_, rfl, HAY.out⟩) rfl).mono ?_; rintro e w2 ⟨rfl, hi, hb⟩; have HI2 := Aside0.mk hi; have HB2 := Aside0.mk hb; clear hi hb; rw [HT.out])
          all_goals
            go_roundg k1
            case measure => omega
            case rel => exact ⟨[], rb, dn ++ [(none, some y)], _, _, _, _, _, _, rfl, rfl, ⟨by have := HJ.out; simp only [List.length_cons] at this; refine ⟨?_, ?_, ?_, ?_, ?_, ?_, ?_⟩ <;> simp only [List.length_cons, List.length_nil] at * <;> omega⟩, ⟨by rw [List.append_assoc]; exact HP2.out⟩, ⟨by rw [List.all_append, HA.out]; simp [HT.out]⟩, HCA, HCB2, ⟨HI2.out HT.out⟩⟩
        | false =>
          go_wp2
          go_region_held3 (fun _ => True) (exact trivial) (fail)
          go_wp2_with (go_at_fn g; refine (HST.out _ dn (none) (some y) _ _ (HIK.out _ _ _ HI.out (by repeat (first | exact Below.refl _ _ | apply below_drew1))) HN.out (rfl) (⟨_, rfl, HAY.out⟩) rfl).mono ?_; rintro e w2 ⟨rfl, hi, hb⟩; have HI2 := Aside0.mk hi; have HB2 := Aside0.mk hb; clear hi hb; rw [HT.out])
          all_goals
            go_ret
            have hf : (MergeP.pairs (·.f0) (·.f0) l0 m0).all (fun p => ok p.1 p.2) = false := by rw [← HP2.out, List.all_append, List.all_cons, HT.out]; simp
            exact ⟨ret_b (by rw [← HQ.out, hf]), ⟨(fun h => by rw [← HQ.out, hf] at h; cases h), HB2.out⟩⟩
      · have b1 : 0 < na := by have := HJ.out.1; simp at this; omega
        have b2 : (0 : Int) < (na : Int) := by omega
        have b3 : ((na : Int) == 0) = false := by simp; omega
        have b4 : decide ((na : Int) > 0) = true := decide_eq_true (by omega)
        obtain ⟨q, e, hx, A', hcut, hC2⟩ := delta_beside.head_item HCA.out HJ.out.1 HJ.out.2.2.1
        subst e
        have HAX := Aside0.mk hx
        have HCA2 := Aside0.mk hC2
        clear hC2
        rcases lb2 with _ | ⟨y, rb⟩
        rotate_left
        · skip
          obtain ⟨p, e, hy, A'', hcut2, hC2⟩ := delta_beside.head_change HCB.out HJ.out.2.1 HJ.out.2.2.2.1
          subst e
          have HAY := Aside0.mk hy
          have HCB2 := Aside0.mk hC2
          have hbw := HIB.out _ _ HI.out
          have k0 := Aside0.mk (delta_beside.K_item_change.start (hx.below hbw) (hy.below hbw))
          clear hC2 hx hy hbw
          have b5 : 0 < nb := by have := HJ.out.2.1; simp at this; omega
          have b6 : (0 : Int) < (nb : Int) := by omega
          have b7 : ((nb : Int) == 0) = false := by simp; omega
          have b8 : decide ((nb : Int) > 0) = true := decide_eq_true (by omega)
          obtain ⟨o, ho⟩ : ∃ o : Int, Lib.compareBytes x.f0.data.toList y.f0.data.toList = o := ⟨_, rfl⟩
          have HCMP : Aside0 (∀ W : World, Calls Try.prog 59 #[.string x.f0, .string y.f0] W fun e w' => e = .returned (.int .i64 o) ∧ w' = W) := ⟨fun W => by rw [← ho]; exact (Try.strings_Compare x.f0 y.f0 W).mono fun e w' h => ⟨h.1, h.2 ▸ rfl⟩⟩
          have hcase : (o < 0 ∧ MergeP.lt x.f0 y.f0 = true) ∨ (0 < o ∧ MergeP.lt x.f0 y.f0 = false ∧ MergeP.lt y.f0 x.f0 = true) ∨ (o = 0 ∧ MergeP.lt x.f0 y.f0 = false ∧ MergeP.lt y.f0 x.f0 = false) := by rw [← ho]; exact MergeP.cb_cases x.f0 y.f0
          clear ho
          have kd := k0.out.drew
          rcases hcase with ⟨hlt, HL1⟩ | ⟨hlt, HL1, HL2⟩ | ⟨rfl, HL1, HL2⟩
          · have HP2 : Aside0 (dn ++ (some x, none) :: MergeP.pairs (·.f0) (·.f0) ra (y :: rb) = MergeP.pairs (·.f0) (·.f0) l0 m0) := ⟨by have := HP.out; rw [MergeP.pairs_lt HL1] at this; exact this⟩
            have HN := Aside0.mk (MergeP.done_lt HP2.out)
            clear HP HL1
            have d1 : decide (o ≤ 0) = true := decide_eq_true (by omega)
            have d2 : decide (o ≥ 0) = false := decide_eq_false (by omega)
            have d3 : o ≤ 0 := by omega
            have d4 : ¬ 0 ≤ o := by omega
            go_wp2
            go_region_held3 (fun W' => W'.cell? q = some (.string x.f0) ∧ W'.cell? ⟨q.block, q.off + 1, none⟩ = some (.string x.f1) ∧ W'.cell? p = some (.string y.f0) ∧ W'.cell? ⟨p.block, p.off + 1, none⟩ = some (.bool y.f1) ∧ W'.cell? ⟨p.block, p.off + 2, none⟩ = some (.bool y.f2) ∧ W'.cell? ⟨p.block, p.off + 3, none⟩ = some (.string y.f3) ∧ W'.cell? ⟨p.block, p.off + 4, none⟩ = some (.string y.f4))
              (first | exact ⟨kab.x0, kab.x1, kab.y0, kab.y1, kab.y2, kab.y3, kab.y4⟩ | exact ⟨kb.x0, kb.x1, kb.y0, kb.y1, kb.y2, kb.y3, kb.y4⟩ | exact ⟨ka.x0, ka.x1, ka.y0, ka.y1, ka.y2, ka.y3, ka.y4⟩ | exact ⟨kd.x0, kd.x1, kd.y0, kd.y1, kd.y2, kd.y3, kd.y4⟩)
              (first
                | (go_at_call 31; (with_reducible refine (delta_rises.key_item x _).mono ?_); rintro e wa ⟨rfl, hb⟩; have ka := kd.step hb; clear hb)
                | (go_at_call 37; (with_reducible refine (delta_rises.key_change y _).mono ?_); rintro e wb ⟨rfl, hb⟩; have kb := (by first | exact ka.step hb | exact kd.step hb); clear hb)
                | (go_at_call 59; (with_reducible refine (HCMP.out _).mono ?_); rintro e wc ⟨rfl, rfl⟩))
            all_goals
              have HK := Aside0.mk (by first | exact kb | exact ka)
              skip
            obtain ⟨t, ht⟩ : ∃ t : Bool, ok (some x) (none) = t := ⟨_, rfl⟩
            have HT := Aside0.mk ht
            clear ht
            cases t with
            | true =>
              go_wp2
              go_region_held3 (fun _ => True) (exact trivial) (fail)
              go_wp2_with (go_at_fn g; refine (HST.out _ dn (some x) (none) _ _ (HIK.out _ _ _ HI.out (by repeat (first | exact HK.out.hB | apply below_drew1))) HN.out (⟨_, rfl, HAX.out⟩) (rfl) rfl).mono ?_; rintro e w2 ⟨rfl, hi, hb⟩; have HI2 := Aside0.mk hi; have HB2 := Aside0.mk hb; clear hi hb; rw [HT.out])
              all_goals
                go_roundg k1
                case measure => omega
                case rel => exact ⟨ra, y :: rb, dn ++ [(some x, none)], _, _, _, _, _, _, rfl, rfl, ⟨by have := HJ.out; simp only [List.length_cons] at this; refine ⟨?_, ?_, ?_, ?_, ?_, ?_, ?_⟩ <;> simp only [List.length_cons, List.length_nil] at * <;> omega⟩, ⟨by rw [List.append_assoc]; exact HP2.out⟩, ⟨by rw [List.all_append, HA.out]; simp [HT.out]⟩, HCA2, HCB, ⟨HI2.out HT.out⟩⟩
            | false =>
              go_wp2
              go_region_held3 (fun _ => True) (exact trivial) (fail)
              go_wp2_with (go_at_fn g; refine (HST.out _ dn (some x) (none) _ _ (HIK.out _ _ _ HI.out (by repeat (first | exact HK.out.hB | apply below_drew1))) HN.out (⟨_, rfl, HAX.out⟩) (rfl) rfl).mono ?_; rintro e w2 ⟨rfl, hi, hb⟩; have HI2 := Aside0.mk hi; have HB2 := Aside0.mk hb; clear hi hb; rw [HT.out])
              all_goals
                go_ret
                have hf : (MergeP.pairs (·.f0) (·.f0) l0 m0).all (fun p => ok p.1 p.2) = false := by rw [← HP2.out, List.all_append, List.all_cons, HT.out]; simp
                exact ⟨ret_b (by rw [← HQ.out, hf]), ⟨(fun h => by rw [← HQ.out, hf] at h; cases h), HB2.out⟩⟩
          · have HP2 : Aside0 (dn ++ (none, some y) :: MergeP.pairs (·.f0) (·.f0) (x :: ra) rb = MergeP.pairs (·.f0) (·.f0) l0 m0) := ⟨by have := HP.out; rw [MergeP.pairs_gt HL1 HL2] at this; exact this⟩
            have HN := Aside0.mk (MergeP.done_lt HP2.out)
            clear HP HL1 HL2
            have d1 : decide (o ≤ 0) = false := decide_eq_false (by omega)
            have d2 : decide (o ≥ 0) = true := decide_eq_true (by omega)
            have d3 : ¬ o ≤ 0 := by omega
            have d4 : 0 ≤ o := by omega
            go_wp2
            go_region_held3 (fun W' => W'.cell? q = some (.string x.f0) ∧ W'.cell? ⟨q.block, q.off + 1, none⟩ = some (.string x.f1) ∧ W'.cell? p = some (.string y.f0) ∧ W'.cell? ⟨p.block, p.off + 1, none⟩ = some (.bool y.f1) ∧ W'.cell? ⟨p.block, p.off + 2, none⟩ = some (.bool y.f2) ∧ W'.cell? ⟨p.block, p.off + 3, none⟩ = some (.string y.f3) ∧ W'.cell? ⟨p.block, p.off + 4, none⟩ = some (.string y.f4))
              (first | exact ⟨kab.x0, kab.x1, kab.y0, kab.y1, kab.y2, kab.y3, kab.y4⟩ | exact ⟨kb.x0, kb.x1, kb.y0, kb.y1, kb.y2, kb.y3, kb.y4⟩ | exact ⟨ka.x0, ka.x1, ka.y0, ka.y1, ka.y2, ka.y3, ka.y4⟩ | exact ⟨kd.x0, kd.x1, kd.y0, kd.y1, kd.y2, kd.y3, kd.y4⟩)
              (first
                | (go_at_call 31; (with_reducible refine (delta_rises.key_item x _).mono ?_); rintro e wa ⟨rfl, hb⟩; have ka := kd.step hb; clear hb)
                | (go_at_call 37; (with_reducible refine (delta_rises.key_change y _).mono ?_); rintro e wb ⟨rfl, hb⟩; have kb := (by first | exact ka.step hb | exact kd.step hb); clear hb)
                | (go_at_call 59; (with_reducible refine (HCMP.out _).mono ?_); rintro e wc ⟨rfl, rfl⟩))
            all_goals
              have HK := Aside0.mk (by first | exact kb | exact ka)
              skip
            obtain ⟨t, ht⟩ : ∃ t : Bool, ok (none) (some y) = t := ⟨_, rfl⟩
            have HT := Aside0.mk ht
            clear ht
            cases t with
            | true =>
              go_wp2
              go_region_held3 (fun _ => True) (exact trivial) (fail)
              go_wp2_with (go_at_fn g; refine (HST.out _ dn (none) (some y) _ _ (HIK.out _ _ _ HI.out (by repeat (first | exact HK.out.hB | apply below_drew1))) HN.out (rfl) (⟨_, rfl, HAY.out⟩) rfl).mono ?_; rintro e w2 ⟨rfl, hi, hb⟩; have HI2 := Aside0.mk hi; have HB2 := Aside0.mk hb; clear hi hb; rw [HT.out])
              all_goals
                go_roundg k1
                case measure => omega
                case rel => exact ⟨x :: ra, rb, dn ++ [(none, some y)], _, _, _, _, _, _, rfl, rfl, ⟨by have := HJ.out; simp only [List.length_cons] at this; refine ⟨?_, ?_, ?_, ?_, ?_, ?_, ?_⟩ <;> simp only [List.length_cons, List.length_nil] at * <;> omega⟩, ⟨by rw [List.append_assoc]; exact HP2.out⟩, ⟨by rw [List.all_append, HA.out]; simp [HT.out]⟩, HCA, HCB2, ⟨HI2.out HT.out⟩⟩
            | false =>
              go_wp2
              go_region_held3 (fun _ => True) (exact trivial) (fail)
              go_wp2_with (go_at_fn g; refine (HST.out _ dn (none) (some y) _ _ (HIK.out _ _ _ HI.out (by repeat (first | exact HK.out.hB | apply below_drew1))) HN.out (rfl) (⟨_, rfl, HAY.out⟩) rfl).mono ?_; rintro e w2 ⟨rfl, hi, hb⟩; have HI2 := Aside0.mk hi; have HB2 := Aside0.mk hb; clear hi hb; rw [HT.out])
              all_goals
                go_ret
                have hf : (MergeP.pairs (·.f0) (·.f0) l0 m0).all (fun p => ok p.1 p.2) = false := by rw [← HP2.out, List.all_append, List.all_cons, HT.out]; simp
                exact ⟨ret_b (by rw [← HQ.out, hf]), ⟨(fun h => by rw [← HQ.out, hf] at h; cases h), HB2.out⟩⟩
          · have HP2 : Aside0 (dn ++ (some x, some y) :: MergeP.pairs (·.f0) (·.f0) ra rb = MergeP.pairs (·.f0) (·.f0) l0 m0) := ⟨by have := HP.out; rw [MergeP.pairs_eq HL1 HL2] at this; exact this⟩
            have HN := Aside0.mk (MergeP.done_lt HP2.out)
            clear HP HL1 HL2
            go_wp2
            go_region_held3 (fun W' => W'.cell? q = some (.string x.f0) ∧ W'.cell? ⟨q.block, q.off + 1, none⟩ = some (.string x.f1) ∧ W'.cell? p = some (.string y.f0) ∧ W'.cell? ⟨p.block, p.off + 1, none⟩ = some (.bool y.f1) ∧ W'.cell? ⟨p.block, p.off + 2, none⟩ = some (.bool y.f2) ∧ W'.cell? ⟨p.block, p.off + 3, none⟩ = some (.string y.f3) ∧ W'.cell? ⟨p.block, p.off + 4, none⟩ = some (.string y.f4))
              (first | exact ⟨kab.x0, kab.x1, kab.y0, kab.y1, kab.y2, kab.y3, kab.y4⟩ | exact ⟨kb.x0, kb.x1, kb.y0, kb.y1, kb.y2, kb.y3, kb.y4⟩ | exact ⟨ka.x0, ka.x1, ka.y0, ka.y1, ka.y2, ka.y3, ka.y4⟩ | exact ⟨kd.x0, kd.x1, kd.y0, kd.y1, kd.y2, kd.y3, kd.y4⟩)
              (first
                | (go_at_call 31; (with_reducible refine (delta_rises.key_item x _).mono ?_); rintro e wa ⟨rfl, hb⟩; have ka := kd.step hb; clear hb)
                | (go_at_call 37; (with_reducible refine (delta_rises.key_change y _).mono ?_); rintro e wb ⟨rfl, hb⟩; have kb := (by first | exact ka.step hb | exact kd.step hb); clear hb)
                | (go_at_call 59; (with_reducible refine (HCMP.out _).mono ?_); rintro e wc ⟨rfl, rfl⟩))
            all_goals
              have HK := Aside0.mk (by first | exact kb | exact ka)
              skip
            obtain ⟨t, ht⟩ : ∃ t : Bool, ok (some x) (some y) = t := ⟨_, rfl⟩
            have HT := Aside0.mk ht
            clear ht
            cases t with
            | true =>
              go_wp2
              go_region_held3 (fun _ => True) (exact trivial) (fail)
              go_wp2
              go_region_held3 (fun _ => True) (exact trivial) (fail)
              go_wp2_with (go_at_fn g; refine (HST.out _ dn (some x) (some y) _ _ (HIK.out _ _ _ HI.out (by repeat (first | exact HK.out.hB | apply below_drew1))) HN.out (⟨_, rfl, HAX.out⟩) (⟨_, rfl, HAY.out⟩) rfl).mono ?_; rintro e w2 ⟨rfl, hi, hb⟩; have HI2 := Aside0.mk hi; have HB2 := Aside0.mk hb; clear hi hb; rw [HT.out])
              all_goals
                go_roundg k1
                case measure => omega
                case rel => exact ⟨ra, rb, dn ++ [(some x, some y)], _, _, _, _, _, _, rfl, rfl, ⟨by have := HJ.out; simp only [List.length_cons] at this; refine ⟨?_, ?_, ?_, ?_, ?_, ?_, ?_⟩ <;> simp only [List.length_cons, List.length_nil] at * <;> omega⟩, ⟨by rw [List.append_assoc]; exact HP2.out⟩, ⟨by rw [List.all_append, HA.out]; simp [HT.out]⟩, HCA2, HCB2, ⟨HI2.out HT.out⟩⟩
            | false =>
              go_wp2
              go_region_held3 (fun _ => True) (exact trivial) (fail)
              go_wp2
              go_region_held3 (fun _ => True) (exact trivial) (fail)
              go_wp2_with (go_at_fn g; refine (HST.out _ dn (some x) (some y) _ _ (HIK.out _ _ _ HI.out (by repeat (first | exact HK.out.hB | apply below_drew1))) HN.out (⟨_, rfl, HAX.out⟩) (⟨_, rfl, HAY.out⟩) rfl).mono ?_; rintro e w2 ⟨rfl, hi, hb⟩; have HI2 := Aside0.mk hi; have HB2 := Aside0.mk hb; clear hi hb; rw [HT.out])
              all_goals
                go_ret
                have hf : (MergeP.pairs (·.f0) (·.f0) l0 m0).all (fun p => ok p.1 p.2) = false := by rw [← HP2.out, List.all_append, List.all_cons, HT.out]; simp
                exact ⟨ret_b (by rw [← HQ.out, hf]), ⟨(fun h => by rw [← HQ.out, hf] at h; cases h), HB2.out⟩⟩
        obtain rfl : nb = 0 := HJ.out.2.1
        have HP2 : Aside0 (dn ++ (some x, none) :: MergeP.pairs (·.f0) (·.f0) ra [] = MergeP.pairs (·.f0) (·.f0) l0 m0) := ⟨by have := HP.out; rw [MergeP.pairs_nl] at this; exact this⟩
        have HN := Aside0.mk (MergeP.done_lt HP2.out)
        clear hx HP
        obtain ⟨t, ht⟩ : ∃ t : Bool, ok (some x) (none) = t := ⟨_, rfl⟩
        have HT := Aside0.mk ht
        clear ht
        cases t with
        | true =>
          go_wp2
          go_region_held3 (fun _ => True) (exact trivial) (fail)
          go_wp2_with (go_at_fn g; refine (HST.out _ dn (some x) (none) _ _ (HIK.out _ _ _ HI.out (by repeat (first | exact Below.refl _ _ | apply below_drew1))) HN.out (⟨_, rfl, HAX.out⟩) (rfl) rfl).mono ?_; rintro e w2 ⟨rfl, hi, hb⟩; have HI2 := Aside0.mk hi; have HB2 := Aside0.mk hb; clear hi hb; rw [HT.out])
          all_goals
            go_roundg k1
            case measure => omega
            case rel => exact ⟨ra, [], dn ++ [(some x, none)], _, _, _, _, _, _, rfl, rfl, ⟨by have := HJ.out; simp only [List.length_cons] at this; refine ⟨?_, ?_, ?_, ?_, ?_, ?_, ?_⟩ <;> simp only [List.length_cons, List.length_nil] at * <;> omega⟩, ⟨by rw [List.append_assoc]; exact HP2.out⟩, ⟨by rw [List.all_append, HA.out]; simp [HT.out]⟩, HCA2, HCB, ⟨HI2.out HT.out⟩⟩
        | false =>
          go_wp2
          go_region_held3 (fun _ => True) (exact trivial) (fail)
          go_wp2_with (go_at_fn g; refine (HST.out _ dn (some x) (none) _ _ (HIK.out _ _ _ HI.out (by repeat (first | exact Below.refl _ _ | apply below_drew1))) HN.out (⟨_, rfl, HAX.out⟩) (rfl) rfl).mono ?_; rintro e w2 ⟨rfl, hi, hb⟩; have HI2 := Aside0.mk hi; have HB2 := Aside0.mk hb; clear hi hb; rw [HT.out])
          all_goals
            go_ret
            have hf : (MergeP.pairs (·.f0) (·.f0) l0 m0).all (fun p => ok p.1 p.2) = false := by rw [← HP2.out, List.all_append, List.all_cons, HT.out]; simp
            exact ⟨ret_b (by rw [← HQ.out, hf]), ⟨(fun h => by rw [← HQ.out, hf] at h; cases h), HB2.out⟩⟩
/-- Does a change fit what stands at its key? -/
def delta_Apply.fitA : Option S59 → Option S61 → Bool
  | _, none => true
  | none, some y => !y.f1
  | some x, some y => y.f1 && decide (x.f1 = y.f3)
/-- What stands there behind it. -/
def delta_Apply.applyF : Option S59 → Option S61 → Option S59
  | x, none => x
  | _, some y => if y.f2 = true then some ⟨y.f0, y.f4⟩ else none
set_option maxHeartbeats 8000000 in
set_option maxRecDepth 100000 in
theorem delta_Apply.both (w0 : World) (B : Nat) (dn : List (Option S59 × Option S61)) (x : Option S59) (y : Option S61) (vx vy : Value) (w : World) (hI : ∃ v, delta_beside.Out_item w0 w B v (MergeP.made delta_Apply.applyF dn)) (hlen : dn.length ≤ 2000000000)
    (hx : delta_beside.Pt_item w0 vx x) (hy : delta_beside.Pt_change w0 vy y) (hne : (x.isSome || y.isSome) = true) :
    Calls Try.prog 38 #[vx, vy, .pointer (some ⟨B, 0, none⟩)] w fun e w' => e = .returned (.bool (delta_Apply.fitA x y)) ∧ (delta_Apply.fitA x y = true → ∃ v, delta_beside.Out_item w0 w' B v (MergeP.made delta_Apply.applyF (dn ++ [(x, y)]))) ∧ Below w0.heap.size w0 w' := by
  obtain ⟨v, hS⟩ := hI
  have HS := Aside0.mk hS
  have HLEN := Aside0.mk (Nat.le_trans (MergeP.made_len (F := delta_Apply.applyF) (dn := dn)) hlen)
  obtain ⟨l, hl⟩ : ∃ l, MergeP.made delta_Apply.applyF dn = l := ⟨_, rfl⟩
  rw [hl] at HS HLEN
  have HLL := Aside0.mk hl
  clear hl hS hlen
  have hcB := HS.out.cell
  rcases y with _ | y
  · obtain rfl : vy = .pointer none := hy
    rcases x with _ | x
    · cases hne
    · obtain ⟨xk, xv⟩ := x
      obtain ⟨q, rfl, hq⟩ := hx
      have HAx := Aside0.mk hq
      clear hq hne
      go_enter Try.func38, Try.ntmps38
      go_wp2
      refine start_ (n := 7) (S := fun w' => w'.cell? ⟨B, 0, none⟩ = some v ∧ w'.cell? q = some (.string xk) ∧ w'.cell? ⟨q.block, q.off + 1, none⟩ = some (.string xv)) (ds := [6]) #[false, false, false, false, false, false, false] (by kernel_rfl) rfl rfl ⟨HS.out.drew.cell, (HAx.out.below HS.out.drew.hw).1, (HAx.out.below HS.out.drew.hw).2⟩ (fun hHeld => ?_)
      have HD := Aside0.mk HS.out.drew
      generalize w.drew = wd at hHeld HD ⊢
      refine pure_ (i := 1) (N := some 10) (v := ?_) (a' := ?_) #[false, true, false, false, false, false, false] rfl rfl (by kernel_rfl) (fun _ _ _ h => h) (Or.inl ⟨by rfl, ?_⟩) ?_ ?_
      rotate_left
      · intro w'
        go_simp
        with_reducible rfl
      rotate_left
      · simp only [Act.put, List.setIfInBounds_toArray, List.set_cons_zero, List.set_cons_succ, i64_w, i32_w]
        rfl
      refine pure_ (i := 2) (N := some 11) (v := ?_) (a' := ?_) #[false, true, true, false, false, false, false] rfl rfl (by kernel_rfl) (fun _ _ _ h => h) (Or.inl ⟨by rfl, ?_⟩) ?_ ?_
      rotate_left
      · intro w'
        go_simp
        with_reducible rfl
      rotate_left
      · simp only [Act.put, List.setIfInBounds_toArray, List.set_cons_zero, List.set_cons_succ, i64_w, i32_w]
        rfl
      refine take_ (i := 0) (N := some 9) (v := ?_) (a' := ?_) #[true, true, true, false, false, false, false] rfl rfl (by kernel_rfl) (fun _ _ _ h => h) (Or.inl ⟨by rfl, ?_⟩) hHeld ?_ ?_
      rotate_left
      · rintro w' ⟨s0, s1, s2⟩
        go_simp
        with_reducible rfl
      rotate_left
      · simp only [Act.put, List.setIfInBounds_toArray, List.set_cons_zero, List.set_cons_succ, i64_w, i32_w]
        rfl
      refine take_ (i := 3) (N := some 12) (v := ?_) (a' := ?_) #[true, true, true, true, false, false, false] rfl rfl (by kernel_rfl) (fun _ _ _ h => h) (Or.inl ⟨by rfl, ?_⟩) hHeld ?_ ?_
      rotate_left
      · rintro w' ⟨s0, s1, s2⟩
        go_simp
        with_reducible rfl
      rotate_left
      · simp only [Act.put, List.setIfInBounds_toArray, List.set_cons_zero, List.set_cons_succ, i64_w, i32_w]
        rfl
      refine one_ (i := 4) (N := some 13) #[true, true, true, true, true, false, false] rfl rfl (by kernel_rfl) (by decide) (fun K hK => ?_)
      refine value_ (w1 := ?_) (v := ?_) (by rfl) rfl ?_ ?_
      rotate_left 2
      · go_simp
        constructor
        · rfl
        · rfl
      refine hK.out _ _ ⟨(HD.out.alloc _).cell, (HAx.out.below (HD.out.alloc _).hw).1, (HAx.out.below (HD.out.alloc _).hw).2⟩ (fun hHeld => ?_)
      clear hK K
      refine norm_ (a' := ?_) ?_ ?_
      rotate_left
      · show Act.put _ (some 13) _ = _
        simp only [Act.put, List.setIfInBounds_toArray, List.set_cons_zero, List.set_cons_succ, i64_w, i32_w]
        rfl
      refine one_ (i := 5) (N := some 14) #[true, true, true, true, true, true, false] rfl rfl (by kernel_rfl) (by decide) (fun K hK => ?_)
      refine Kd.R_append_step k59 (w0 := w0) w0.heap.size (by rfl) (.tmp 9) (.tmp 13) 22 59 (.agg #[(.string ⟨#[]⟩), (.string ⟨#[]⟩)]) 32 rfl Try.underlying22 info59 rfl (by decide) (by omega) v l (⟨xk, xv⟩ : S59) [.string xk, .string xv] (fun k => k ≠ B) (fun _ => False) rfl rfl ?aP1 (fun _ hk => hk.elim) ?aF1 ?aO1 ?aB1 ?aS1 ?aL1 ?_
      (case aP1 => exact k59_mkM _ _ _ (⟨xk, xv⟩ : S59))
      (case aF1 => exact HD.out.fresh)
      (case aO1 => exact HD.out.hR)
      (case aB1 => exact HD.out.hw)
      (case aS1 => exact HD.out.hw.size)
      (case aL1 => have := HLEN.out; omega)
      intro v1 w4 ho hb hg hat
      obtain ⟨A1, c1, hv1⟩ := Kd.R_slice ho
      rw [List.length_append, List.length_singleton] at hv1
      subst hv1
      have hB4 := HD.out.grown hg
      have HO4 := Aside0.mk ho
      have HB4 := Aside0.mk hb
      have HK4 := Aside0.mk hB4
      have hf4 := blk_frozen hB4 0
      clear ho hb hg hat hB4
      refine hK.out _ _ ⟨((blk_cell HK4.out 0).trans rfl), (HAx.out.below HB4.out).1, (HAx.out.below HB4.out).2⟩ (fun hHeld => ?_)
      clear hK K
      refine norm_ (a' := ?_) ?_ ?_
      rotate_left
      · show Act.put _ (some 14) _ = _
        simp only [Act.put, List.setIfInBounds_toArray, List.set_cons_zero, List.set_cons_succ, i64_w, i32_w]
        rfl
      refine last_ (i := 6) (N := none) #[true, true, true, true, true, true, true] rfl rfl (by kernel_rfl) (by decide) (fun K hK => ?_)
      have hc4 : w4.cell? ⟨B, 0, none⟩ = some v := (blk_cell HK4.out 0).trans rfl
      refine skip_ (w1 := ?_) (by rfl) rfl ?_ ?_
      rotate_left
      · go_simp
        rfl
      refine hK.out _ _ ?_
      clear hK K
      refine done_ (by kernel_rfl) ?_
      go_wp2
      go_ret
      exact ⟨rfl, ⟨(fun _ => ⟨_, by rw [MergeP.made_some (z := (⟨xk, xv⟩ : S59)) rfl, HLL.out]; exact delta_beside.Out_item.put HS.out HK4.out HO4.out HB4.out⟩), (delta_beside.Out_item.put HS.out HK4.out HO4.out HB4.out).hw⟩⟩
  · obtain ⟨yk, yh, yn, yo, yu⟩ := y
    obtain ⟨p, rfl, hp⟩ := hy
    have HAy := Aside0.mk hp
    clear hp hne
    rcases x with _ | x
    · obtain rfl : vx = .pointer none := hx
      cases yh with
      | true =>
        skip
        go_enter Try.func38, Try.ntmps38
        go_wp2
        refine start_ (n := 23) (S := fun w' => w'.cell? p = some (.string yk) ∧ w'.cell? ⟨p.block, p.off + 1, none⟩ = some (.bool true) ∧ w'.cell? ⟨p.block, p.off + 2, none⟩ = some (.bool yn) ∧ w'.cell? ⟨p.block, p.off + 3, none⟩ = some (.string yo) ∧ w'.cell? ⟨p.block, p.off + 4, none⟩ = some (.string yu)) (ds := []) #[false, false, false, false, false, false, false, false, false, false, false, false, false, false, false, false, false, false, false, false, false, false, false] (by kernel_rfl) rfl rfl ⟨(HAy.out.below HS.out.drew.hw).1, (HAy.out.below HS.out.drew.hw).2.1, (HAy.out.below HS.out.drew.hw).2.2.1, (HAy.out.below HS.out.drew.hw).2.2.2.1, (HAy.out.below HS.out.drew.hw).2.2.2.2⟩ (fun hHeld => ?_)
        have HD := Aside0.mk HS.out.drew
        generalize w.drew = wd at hHeld HD ⊢
        refine pure_ (i := 0) (N := some 16) (v := ?_) (a' := ?_) #[true, false, false, false, false, false, false, false, false, false, false, false, false, false, false, false, false, false, false, false, false, false, false] rfl rfl (by kernel_rfl) (fun _ _ _ h => h) (Or.inl ⟨by rfl, ?_⟩) ?_ ?_
        rotate_left
        · intro w'
          go_simp
          with_reducible rfl
        rotate_left
        · simp only [Act.put, List.setIfInBounds_toArray, List.set_cons_zero, List.set_cons_succ, i64_w, i32_w]
          rfl
        refine pure_ (i := 1) (N := some 17) (v := ?_) (a' := ?_) #[true, true, false, false, false, false, false, false, false, false, false, false, false, false, false, false, false, false, false, false, false, false, false] rfl rfl (by kernel_rfl) (fun _ _ _ h => h) (Or.inl ⟨by rfl, ?_⟩) ?_ ?_
        rotate_left
        · intro w'
          go_simp
          with_reducible rfl
        rotate_left
        · simp only [Act.put, List.setIfInBounds_toArray, List.set_cons_zero, List.set_cons_succ, i64_w, i32_w]
          rfl
        refine pure_ (i := 2) (N := some 18) (v := ?_) (a' := ?_) #[true, true, true, false, false, false, false, false, false, false, false, false, false, false, false, false, false, false, false, false, false, false, false] rfl rfl (by kernel_rfl) (fun _ _ _ h => h) (Or.inl ⟨by rfl, ?_⟩) ?_ ?_
        rotate_left
        · intro w'
          go_simp
          with_reducible rfl
        rotate_left
        · simp only [Act.put, List.setIfInBounds_toArray, List.set_cons_zero, List.set_cons_succ, i64_w, i32_w]
          rfl
        refine pure_ (i := 4) (N := some 20) (v := ?_) (a' := ?_) #[true, true, true, false, true, false, false, false, false, false, false, false, false, false, false, false, false, false, false, false, false, false, false] rfl rfl (by kernel_rfl) (fun _ _ _ h => h) (Or.inl ⟨by rfl, ?_⟩) ?_ ?_
        rotate_left
        · intro w'
          go_simp
          with_reducible rfl
        rotate_left
        · simp only [Act.put, List.setIfInBounds_toArray, List.set_cons_zero, List.set_cons_succ, i64_w, i32_w]
          rfl
        refine pure_ (i := 5) (N := some 21) (v := ?_) (a' := ?_) #[true, true, true, false, true, true, false, false, false, false, false, false, false, false, false, false, false, false, false, false, false, false, false] rfl rfl (by kernel_rfl) (fun _ _ _ h => h) (Or.inl ⟨by rfl, ?_⟩) ?_ ?_
        rotate_left
        · intro w'
          go_simp
          with_reducible rfl
        rotate_left
        · simp only [Act.put, List.setIfInBounds_toArray, List.set_cons_zero, List.set_cons_succ, i64_w, i32_w]
          rfl
        refine take_ (i := 3) (N := some 19) (v := ?_) (a' := ?_) #[true, true, true, true, true, true, false, false, false, false, false, false, false, false, false, false, false, false, false, false, false, false, false] rfl rfl (by kernel_rfl) (fun _ _ _ h => h) (Or.inl ⟨by rfl, ?_⟩) hHeld ?_ ?_
        rotate_left
        · rintro w' ⟨s0, s1, s2, s3, s4⟩
          go_simp
          with_reducible rfl
        rotate_left
        · simp only [Act.put, List.setIfInBounds_toArray, List.set_cons_zero, List.set_cons_succ, i64_w, i32_w]
          rfl
        refine pure_ (i := 6) (N := some 22) (v := ?_) (a' := ?_) #[true, true, true, true, true, true, true, false, false, false, false, false, false, false, false, false, false, false, false, false, false, false, false] rfl rfl (by kernel_rfl) (fun _ _ _ h => h) (Or.inl ⟨by rfl, ?_⟩) ?_ ?_
        rotate_left
        · intro w'
          go_simp
          with_reducible rfl
        rotate_left
        · simp only [Act.put, List.setIfInBounds_toArray, List.set_cons_zero, List.set_cons_succ, i64_w, i32_w]
          rfl
        refine pure_ (i := 7) (N := some 23) (v := ?_) (a' := ?_) #[true, true, true, true, true, true, true, true, false, false, false, false, false, false, false, false, false, false, false, false, false, false, false] rfl rfl (by kernel_rfl) (fun _ _ _ h => h) (Or.inl ⟨by rfl, ?_⟩) ?_ ?_
        rotate_left
        · intro w'
          go_simp
          with_reducible rfl
        rotate_left
        · simp only [Act.put, List.setIfInBounds_toArray, List.set_cons_zero, List.set_cons_succ, i64_w, i32_w]
          rfl
        refine pure_ (i := 8) (N := some 24) (v := undef) (a' := ?_) #[true, true, true, true, true, true, true, true, true, false, false, false, false, false, false, false, false, false, false, false, false, false, false] rfl rfl (by kernel_rfl) (fun _ _ _ h => h) (Or.inr ⟨by rfl, rfl⟩) ?_ ?_
        rotate_left
        · simp only [Act.put, List.setIfInBounds_toArray, List.set_cons_zero, List.set_cons_succ, i64_w, i32_w]
          rfl
        refine pure_ (i := 9) (N := some 25) (v := undef) (a' := ?_) #[true, true, true, true, true, true, true, true, true, true, false, false, false, false, false, false, false, false, false, false, false, false, false] rfl rfl (by kernel_rfl) (fun _ _ _ h => h) (Or.inr ⟨by rfl, rfl⟩) ?_ ?_
        rotate_left
        · simp only [Act.put, List.setIfInBounds_toArray, List.set_cons_zero, List.set_cons_succ, i64_w, i32_w]
          rfl
        refine pure_ (i := 10) (N := some 26) (v := undef) (a' := ?_) #[true, true, true, true, true, true, true, true, true, true, true, false, false, false, false, false, false, false, false, false, false, false, false] rfl rfl (by kernel_rfl) (fun _ _ _ h => h) (Or.inr ⟨by rfl, rfl⟩) ?_ ?_
        rotate_left
        · simp only [Act.put, List.setIfInBounds_toArray, List.set_cons_zero, List.set_cons_succ, i64_w, i32_w]
          rfl
        refine pure_ (i := 11) (N := some 27) (v := undef) (a' := ?_) #[true, true, true, true, true, true, true, true, true, true, true, true, false, false, false, false, false, false, false, false, false, false, false] rfl rfl (by kernel_rfl) (fun _ _ _ h => h) (Or.inr ⟨by rfl, rfl⟩) ?_ ?_
        rotate_left
        · simp only [Act.put, List.setIfInBounds_toArray, List.set_cons_zero, List.set_cons_succ, i64_w, i32_w]
          rfl
        refine pure_ (i := 12) (N := some 28) (v := undef) (a' := ?_) #[true, true, true, true, true, true, true, true, true, true, true, true, true, false, false, false, false, false, false, false, false, false, false] rfl rfl (by kernel_rfl) (fun _ _ _ h => h) (Or.inr ⟨by rfl, rfl⟩) ?_ ?_
        rotate_left
        · simp only [Act.put, List.setIfInBounds_toArray, List.set_cons_zero, List.set_cons_succ, i64_w, i32_w]
          rfl
        refine pure_ (i := 13) (N := some 29) (v := undef) (a' := ?_) #[true, true, true, true, true, true, true, true, true, true, true, true, true, true, false, false, false, false, false, false, false, false, false] rfl rfl (by kernel_rfl) (fun _ _ _ h => h) (Or.inr ⟨by rfl, rfl⟩) ?_ ?_
        rotate_left
        · simp only [Act.put, List.setIfInBounds_toArray, List.set_cons_zero, List.set_cons_succ, i64_w, i32_w]
          rfl
        refine pure_ (i := 14) (N := some 30) (v := undef) (a' := ?_) #[true, true, true, true, true, true, true, true, true, true, true, true, true, true, true, false, false, false, false, false, false, false, false] rfl rfl (by kernel_rfl) (fun _ _ _ h => h) (Or.inr ⟨by rfl, rfl⟩) ?_ ?_
        rotate_left
        · simp only [Act.put, List.setIfInBounds_toArray, List.set_cons_zero, List.set_cons_succ, i64_w, i32_w]
          rfl
        refine pure_ (i := 15) (N := some 31) (v := undef) (a' := ?_) #[true, true, true, true, true, true, true, true, true, true, true, true, true, true, true, true, false, false, false, false, false, false, false] rfl rfl (by kernel_rfl) (fun _ _ _ h => h) (Or.inr ⟨by rfl, rfl⟩) ?_ ?_
        rotate_left
        · simp only [Act.put, List.setIfInBounds_toArray, List.set_cons_zero, List.set_cons_succ, i64_w, i32_w]
          rfl
        refine pure_ (i := 16) (N := some 32) (v := undef) (a' := ?_) #[true, true, true, true, true, true, true, true, true, true, true, true, true, true, true, true, true, false, false, false, false, false, false] rfl rfl (by kernel_rfl) (fun _ _ _ h => h) (Or.inr ⟨by rfl, rfl⟩) ?_ ?_
        rotate_left
        · simp only [Act.put, List.setIfInBounds_toArray, List.set_cons_zero, List.set_cons_succ, i64_w, i32_w]
          rfl
        refine pure_ (i := 17) (N := some 33) (v := undef) (a' := ?_) #[true, true, true, true, true, true, true, true, true, true, true, true, true, true, true, true, true, true, false, false, false, false, false] rfl rfl (by kernel_rfl) (fun _ _ _ h => h) (Or.inr ⟨by rfl, rfl⟩) ?_ ?_
        rotate_left
        · simp only [Act.put, List.setIfInBounds_toArray, List.set_cons_zero, List.set_cons_succ, i64_w, i32_w]
          rfl
        refine pure_ (i := 18) (N := some 34) (v := undef) (a' := ?_) #[true, true, true, true, true, true, true, true, true, true, true, true, true, true, true, true, true, true, true, false, false, false, false] rfl rfl (by kernel_rfl) (fun _ _ _ h => h) (Or.inr ⟨by rfl, rfl⟩) ?_ ?_
        rotate_left
        · simp only [Act.put, List.setIfInBounds_toArray, List.set_cons_zero, List.set_cons_succ, i64_w, i32_w]
          rfl
        refine pure_ (i := 19) (N := some 35) (v := undef) (a' := ?_) #[true, true, true, true, true, true, true, true, true, true, true, true, true, true, true, true, true, true, true, true, false, false, false] rfl rfl (by kernel_rfl) (fun _ _ _ h => h) (Or.inr ⟨by rfl, rfl⟩) ?_ ?_
        rotate_left
        · simp only [Act.put, List.setIfInBounds_toArray, List.set_cons_zero, List.set_cons_succ, i64_w, i32_w]
          rfl
        refine pure_ (i := 20) (N := some 36) (v := undef) (a' := ?_) #[true, true, true, true, true, true, true, true, true, true, true, true, true, true, true, true, true, true, true, true, true, false, false] rfl rfl (by kernel_rfl) (fun _ _ _ h => h) (Or.inr ⟨by rfl, rfl⟩) ?_ ?_
        rotate_left
        · simp only [Act.put, List.setIfInBounds_toArray, List.set_cons_zero, List.set_cons_succ, i64_w, i32_w]
          rfl
        refine pure_ (i := 21) (N := some 37) (v := ?_) (a' := ?_) #[true, true, true, true, true, true, true, true, true, true, true, true, true, true, true, true, true, true, true, true, true, true, false] rfl rfl (by kernel_rfl) (fun _ _ _ h => h) (Or.inl ⟨by rfl, ?_⟩) ?_ ?_
        rotate_left
        · intro w'
          go_simp
          with_reducible rfl
        rotate_left
        · simp only [Act.put, List.setIfInBounds_toArray, List.set_cons_zero, List.set_cons_succ, i64_w, i32_w]
          rfl
        refine pure_ (i := 22) (N := some 15) (v := ?_) (a' := ?_) #[true, true, true, true, true, true, true, true, true, true, true, true, true, true, true, true, true, true, true, true, true, true, true] rfl rfl (by kernel_rfl) (fun _ _ _ h => h) (Or.inl ⟨by rfl, ?_⟩) ?_ ?_
        rotate_left
        · intro w'
          go_simp
          with_reducible rfl
        rotate_left
        · simp only [Act.put, List.setIfInBounds_toArray, List.set_cons_zero, List.set_cons_succ, i64_w, i32_w]
          rfl
        refine done_ (by kernel_rfl) ?_
        go_wp2
        go_ret
        exact ⟨ret_b (by rfl), ⟨(fun h => by cases h), HD.out.hw⟩⟩
      | false =>
        cases yn with
        | true =>
          skip
          go_enter Try.func38, Try.ntmps38
          go_wp2
          refine start_ (n := 23) (S := fun w' => w'.cell? p = some (.string yk) ∧ w'.cell? ⟨p.block, p.off + 1, none⟩ = some (.bool false) ∧ w'.cell? ⟨p.block, p.off + 2, none⟩ = some (.bool true) ∧ w'.cell? ⟨p.block, p.off + 3, none⟩ = some (.string yo) ∧ w'.cell? ⟨p.block, p.off + 4, none⟩ = some (.string yu)) (ds := []) #[false, false, false, false, false, false, false, false, false, false, false, false, false, false, false, false, false, false, false, false, false, false, false] (by kernel_rfl) rfl rfl ⟨(HAy.out.below HS.out.drew.hw).1, (HAy.out.below HS.out.drew.hw).2.1, (HAy.out.below HS.out.drew.hw).2.2.1, (HAy.out.below HS.out.drew.hw).2.2.2.1, (HAy.out.below HS.out.drew.hw).2.2.2.2⟩ (fun hHeld => ?_)
          have HD := Aside0.mk HS.out.drew
          generalize w.drew = wd at hHeld HD ⊢
          refine pure_ (i := 0) (N := some 16) (v := ?_) (a' := ?_) #[true, false, false, false, false, false, false, false, false, false, false, false, false, false, false, false, false, false, false, false, false, false, false] rfl rfl (by kernel_rfl) (fun _ _ _ h => h) (Or.inl ⟨by rfl, ?_⟩) ?_ ?_
          rotate_left
          · intro w'
            go_simp
            with_reducible rfl
          rotate_left
          · simp only [Act.put, List.setIfInBounds_toArray, List.set_cons_zero, List.set_cons_succ, i64_w, i32_w]
            rfl
          refine pure_ (i := 1) (N := some 17) (v := ?_) (a' := ?_) #[true, true, false, false, false, false, false, false, false, false, false, false, false, false, false, false, false, false, false, false, false, false, false] rfl rfl (by kernel_rfl) (fun _ _ _ h => h) (Or.inl ⟨by rfl, ?_⟩) ?_ ?_
          rotate_left
          · intro w'
            go_simp
            with_reducible rfl
          rotate_left
          · simp only [Act.put, List.setIfInBounds_toArray, List.set_cons_zero, List.set_cons_succ, i64_w, i32_w]
            rfl
          refine pure_ (i := 2) (N := some 18) (v := ?_) (a' := ?_) #[true, true, true, false, false, false, false, false, false, false, false, false, false, false, false, false, false, false, false, false, false, false, false] rfl rfl (by kernel_rfl) (fun _ _ _ h => h) (Or.inl ⟨by rfl, ?_⟩) ?_ ?_
          rotate_left
          · intro w'
            go_simp
            with_reducible rfl
          rotate_left
          · simp only [Act.put, List.setIfInBounds_toArray, List.set_cons_zero, List.set_cons_succ, i64_w, i32_w]
            rfl
          refine pure_ (i := 4) (N := some 20) (v := ?_) (a' := ?_) #[true, true, true, false, true, false, false, false, false, false, false, false, false, false, false, false, false, false, false, false, false, false, false] rfl rfl (by kernel_rfl) (fun _ _ _ h => h) (Or.inl ⟨by rfl, ?_⟩) ?_ ?_
          rotate_left
          · intro w'
            go_simp
            with_reducible rfl
          rotate_left
          · simp only [Act.put, List.setIfInBounds_toArray, List.set_cons_zero, List.set_cons_succ, i64_w, i32_w]
            rfl
          refine pure_ (i := 5) (N := some 21) (v := ?_) (a' := ?_) #[true, true, true, false, true, true, false, false, false, false, false, false, false, false, false, false, false, false, false, false, false, false, false] rfl rfl (by kernel_rfl) (fun _ _ _ h => h) (Or.inl ⟨by rfl, ?_⟩) ?_ ?_
          rotate_left
          · intro w'
            go_simp
            with_reducible rfl
          rotate_left
          · simp only [Act.put, List.setIfInBounds_toArray, List.set_cons_zero, List.set_cons_succ, i64_w, i32_w]
            rfl
          refine take_ (i := 3) (N := some 19) (v := ?_) (a' := ?_) #[true, true, true, true, true, true, false, false, false, false, false, false, false, false, false, false, false, false, false, false, false, false, false] rfl rfl (by kernel_rfl) (fun _ _ _ h => h) (Or.inl ⟨by rfl, ?_⟩) hHeld ?_ ?_
          rotate_left
          · rintro w' ⟨s0, s1, s2, s3, s4⟩
            go_simp
            with_reducible rfl
          rotate_left
          · simp only [Act.put, List.setIfInBounds_toArray, List.set_cons_zero, List.set_cons_succ, i64_w, i32_w]
            rfl
          refine pure_ (i := 6) (N := some 22) (v := ?_) (a' := ?_) #[true, true, true, true, true, true, true, false, false, false, false, false, false, false, false, false, false, false, false, false, false, false, false] rfl rfl (by kernel_rfl) (fun _ _ _ h => h) (Or.inl ⟨by rfl, ?_⟩) ?_ ?_
          rotate_left
          · intro w'
            go_simp
            with_reducible rfl
          rotate_left
          · simp only [Act.put, List.setIfInBounds_toArray, List.set_cons_zero, List.set_cons_succ, i64_w, i32_w]
            rfl
          refine pure_ (i := 7) (N := some 23) (v := ?_) (a' := ?_) #[true, true, true, true, true, true, true, true, false, false, false, false, false, false, false, false, false, false, false, false, false, false, false] rfl rfl (by kernel_rfl) (fun _ _ _ h => h) (Or.inl ⟨by rfl, ?_⟩) ?_ ?_
          rotate_left
          · intro w'
            go_simp
            with_reducible rfl
          rotate_left
          · simp only [Act.put, List.setIfInBounds_toArray, List.set_cons_zero, List.set_cons_succ, i64_w, i32_w]
            rfl
          refine pure_ (i := 8) (N := some 24) (v := ?_) (a' := ?_) #[true, true, true, true, true, true, true, true, true, false, false, false, false, false, false, false, false, false, false, false, false, false, false] rfl rfl (by kernel_rfl) (fun _ _ _ h => h) (Or.inl ⟨by rfl, ?_⟩) ?_ ?_
          rotate_left
          · intro w'
            go_simp
            with_reducible rfl
          rotate_left
          · simp only [Act.put, List.setIfInBounds_toArray, List.set_cons_zero, List.set_cons_succ, i64_w, i32_w]
            rfl
          refine pure_ (i := 9) (N := some 25) (v := ?_) (a' := ?_) #[true, true, true, true, true, true, true, true, true, true, false, false, false, false, false, false, false, false, false, false, false, false, false] rfl rfl (by kernel_rfl) (fun _ _ _ h => h) (Or.inl ⟨by rfl, ?_⟩) ?_ ?_
          rotate_left
          · intro w'
            go_simp
            with_reducible rfl
          rotate_left
          · simp only [Act.put, List.setIfInBounds_toArray, List.set_cons_zero, List.set_cons_succ, i64_w, i32_w]
            rfl
          refine pure_ (i := 10) (N := some 26) (v := ?_) (a' := ?_) #[true, true, true, true, true, true, true, true, true, true, true, false, false, false, false, false, false, false, false, false, false, false, false] rfl rfl (by kernel_rfl) (fun _ _ _ h => h) (Or.inl ⟨by rfl, ?_⟩) ?_ ?_
          rotate_left
          · intro w'
            go_simp
            with_reducible rfl
          rotate_left
          · simp only [Act.put, List.setIfInBounds_toArray, List.set_cons_zero, List.set_cons_succ, i64_w, i32_w]
            rfl
          refine pure_ (i := 11) (N := some 27) (v := undef) (a' := ?_) #[true, true, true, true, true, true, true, true, true, true, true, true, false, false, false, false, false, false, false, false, false, false, false] rfl rfl (by kernel_rfl) (fun _ _ _ h => h) (Or.inr ⟨by rfl, rfl⟩) ?_ ?_
          rotate_left
          · simp only [Act.put, List.setIfInBounds_toArray, List.set_cons_zero, List.set_cons_succ, i64_w, i32_w]
            rfl
          refine pure_ (i := 12) (N := some 28) (v := undef) (a' := ?_) #[true, true, true, true, true, true, true, true, true, true, true, true, true, false, false, false, false, false, false, false, false, false, false] rfl rfl (by kernel_rfl) (fun _ _ _ h => h) (Or.inr ⟨by rfl, rfl⟩) ?_ ?_
          rotate_left
          · simp only [Act.put, List.setIfInBounds_toArray, List.set_cons_zero, List.set_cons_succ, i64_w, i32_w]
            rfl
          refine pure_ (i := 13) (N := some 29) (v := undef) (a' := ?_) #[true, true, true, true, true, true, true, true, true, true, true, true, true, true, false, false, false, false, false, false, false, false, false] rfl rfl (by kernel_rfl) (fun _ _ _ h => h) (Or.inr ⟨by rfl, rfl⟩) ?_ ?_
          rotate_left
          · simp only [Act.put, List.setIfInBounds_toArray, List.set_cons_zero, List.set_cons_succ, i64_w, i32_w]
            rfl
          refine pure_ (i := 14) (N := some 30) (v := undef) (a' := ?_) #[true, true, true, true, true, true, true, true, true, true, true, true, true, true, true, false, false, false, false, false, false, false, false] rfl rfl (by kernel_rfl) (fun _ _ _ h => h) (Or.inr ⟨by rfl, rfl⟩) ?_ ?_
          rotate_left
          · simp only [Act.put, List.setIfInBounds_toArray, List.set_cons_zero, List.set_cons_succ, i64_w, i32_w]
            rfl
          refine pure_ (i := 15) (N := some 31) (v := undef) (a' := ?_) #[true, true, true, true, true, true, true, true, true, true, true, true, true, true, true, true, false, false, false, false, false, false, false] rfl rfl (by kernel_rfl) (fun _ _ _ h => h) (Or.inr ⟨by rfl, rfl⟩) ?_ ?_
          rotate_left
          · simp only [Act.put, List.setIfInBounds_toArray, List.set_cons_zero, List.set_cons_succ, i64_w, i32_w]
            rfl
          refine pure_ (i := 16) (N := some 32) (v := undef) (a' := ?_) #[true, true, true, true, true, true, true, true, true, true, true, true, true, true, true, true, true, false, false, false, false, false, false] rfl rfl (by kernel_rfl) (fun _ _ _ h => h) (Or.inr ⟨by rfl, rfl⟩) ?_ ?_
          rotate_left
          · simp only [Act.put, List.setIfInBounds_toArray, List.set_cons_zero, List.set_cons_succ, i64_w, i32_w]
            rfl
          refine pure_ (i := 17) (N := some 33) (v := undef) (a' := ?_) #[true, true, true, true, true, true, true, true, true, true, true, true, true, true, true, true, true, true, false, false, false, false, false] rfl rfl (by kernel_rfl) (fun _ _ _ h => h) (Or.inr ⟨by rfl, rfl⟩) ?_ ?_
          rotate_left
          · simp only [Act.put, List.setIfInBounds_toArray, List.set_cons_zero, List.set_cons_succ, i64_w, i32_w]
            rfl
          refine pure_ (i := 18) (N := some 34) (v := undef) (a' := ?_) #[true, true, true, true, true, true, true, true, true, true, true, true, true, true, true, true, true, true, true, false, false, false, false] rfl rfl (by kernel_rfl) (fun _ _ _ h => h) (Or.inr ⟨by rfl, rfl⟩) ?_ ?_
          rotate_left
          · simp only [Act.put, List.setIfInBounds_toArray, List.set_cons_zero, List.set_cons_succ, i64_w, i32_w]
            rfl
          refine pure_ (i := 19) (N := some 35) (v := undef) (a' := ?_) #[true, true, true, true, true, true, true, true, true, true, true, true, true, true, true, true, true, true, true, true, false, false, false] rfl rfl (by kernel_rfl) (fun _ _ _ h => h) (Or.inr ⟨by rfl, rfl⟩) ?_ ?_
          rotate_left
          · simp only [Act.put, List.setIfInBounds_toArray, List.set_cons_zero, List.set_cons_succ, i64_w, i32_w]
            rfl
          refine pure_ (i := 20) (N := some 36) (v := ?_) (a' := ?_) #[true, true, true, true, true, true, true, true, true, true, true, true, true, true, true, true, true, true, true, true, true, false, false] rfl rfl (by kernel_rfl) (fun _ _ _ h => h) (Or.inl ⟨by rfl, ?_⟩) ?_ ?_
          rotate_left
          · intro w'
            go_simp
            with_reducible rfl
          rotate_left
          · simp only [Act.put, List.setIfInBounds_toArray, List.set_cons_zero, List.set_cons_succ, i64_w, i32_w]
            rfl
          refine pure_ (i := 21) (N := some 37) (v := ?_) (a' := ?_) #[true, true, true, true, true, true, true, true, true, true, true, true, true, true, true, true, true, true, true, true, true, true, false] rfl rfl (by kernel_rfl) (fun _ _ _ h => h) (Or.inl ⟨by rfl, ?_⟩) ?_ ?_
          rotate_left
          · intro w'
            go_simp
            with_reducible rfl
          rotate_left
          · simp only [Act.put, List.setIfInBounds_toArray, List.set_cons_zero, List.set_cons_succ, i64_w, i32_w]
            rfl
          refine pure_ (i := 22) (N := some 15) (v := ?_) (a' := ?_) #[true, true, true, true, true, true, true, true, true, true, true, true, true, true, true, true, true, true, true, true, true, true, true] rfl rfl (by kernel_rfl) (fun _ _ _ h => h) (Or.inl ⟨by rfl, ?_⟩) ?_ ?_
          rotate_left
          · intro w'
            go_simp
            with_reducible rfl
          rotate_left
          · simp only [Act.put, List.setIfInBounds_toArray, List.set_cons_zero, List.set_cons_succ, i64_w, i32_w]
            rfl
          refine done_ (by kernel_rfl) ?_
          have hY := HAy.out.below HD.out.hw
          have hy0 : wd.cell? p = some (.string yk) := hY.1
          have hy1 : wd.cell? ⟨p.block, p.off + 1, none⟩ = some (.bool false) := hY.2.1
          have hy2 : wd.cell? ⟨p.block, p.off + 2, none⟩ = some (.bool true) := hY.2.2.1
          have hy3 : wd.cell? ⟨p.block, p.off + 3, none⟩ = some (.string yo) := hY.2.2.2.1
          have hy4 : wd.cell? ⟨p.block, p.off + 4, none⟩ = some (.string yu) := hY.2.2.2.2
          clear hY
          go_wp2
          clear hy0 hy1 hy2 hy3 hy4 HS
          have HS := HD
          clear HD
          refine start_ (n := 13) (S := fun w' => w'.cell? ⟨B, 0, none⟩ = some v ∧ w'.cell? p = some (.string yk) ∧ w'.cell? ⟨p.block, p.off + 1, none⟩ = some (.bool false) ∧ w'.cell? ⟨p.block, p.off + 2, none⟩ = some (.bool true) ∧ w'.cell? ⟨p.block, p.off + 3, none⟩ = some (.string yo) ∧ w'.cell? ⟨p.block, p.off + 4, none⟩ = some (.string yu)) (ds := [12]) #[false, false, false, false, false, false, false, false, false, false, false, false, false] (by kernel_rfl) rfl rfl ⟨HS.out.drew.cell, (HAy.out.below HS.out.drew.hw).1, (HAy.out.below HS.out.drew.hw).2.1, (HAy.out.below HS.out.drew.hw).2.2.1, (HAy.out.below HS.out.drew.hw).2.2.2.1, (HAy.out.below HS.out.drew.hw).2.2.2.2⟩ (fun hHeld => ?_)
          have HD := Aside0.mk HS.out.drew
          generalize wd.drew = wd at hHeld HD ⊢
          refine pure_ (i := 1) (N := some 44) (v := ?_) (a' := ?_) #[false, true, false, false, false, false, false, false, false, false, false, false, false] rfl rfl (by kernel_rfl) (fun _ _ _ h => h) (Or.inl ⟨by rfl, ?_⟩) ?_ ?_
          rotate_left
          · intro w'
            go_simp
            with_reducible rfl
          rotate_left
          · simp only [Act.put, List.setIfInBounds_toArray, List.set_cons_zero, List.set_cons_succ, i64_w, i32_w]
            rfl
          refine pure_ (i := 2) (N := some 45) (v := ?_) (a' := ?_) #[false, true, true, false, false, false, false, false, false, false, false, false, false] rfl rfl (by kernel_rfl) (fun _ _ _ h => h) (Or.inl ⟨by rfl, ?_⟩) ?_ ?_
          rotate_left
          · intro w'
            go_simp
            with_reducible rfl
          rotate_left
          · simp only [Act.put, List.setIfInBounds_toArray, List.set_cons_zero, List.set_cons_succ, i64_w, i32_w]
            rfl
          refine pure_ (i := 3) (N := some 46) (v := ?_) (a' := ?_) #[false, true, true, true, false, false, false, false, false, false, false, false, false] rfl rfl (by kernel_rfl) (fun _ _ _ h => h) (Or.inl ⟨by rfl, ?_⟩) ?_ ?_
          rotate_left
          · intro w'
            go_simp
            with_reducible rfl
          rotate_left
          · simp only [Act.put, List.setIfInBounds_toArray, List.set_cons_zero, List.set_cons_succ, i64_w, i32_w]
            rfl
          refine pure_ (i := 5) (N := some 48) (v := ?_) (a' := ?_) #[false, true, true, true, false, true, false, false, false, false, false, false, false] rfl rfl (by kernel_rfl) (fun _ _ _ h => h) (Or.inl ⟨by rfl, ?_⟩) ?_ ?_
          rotate_left
          · intro w'
            go_simp
            with_reducible rfl
          rotate_left
          · simp only [Act.put, List.setIfInBounds_toArray, List.set_cons_zero, List.set_cons_succ, i64_w, i32_w]
            rfl
          refine pure_ (i := 6) (N := some 49) (v := ?_) (a' := ?_) #[false, true, true, true, false, true, true, false, false, false, false, false, false] rfl rfl (by kernel_rfl) (fun _ _ _ h => h) (Or.inl ⟨by rfl, ?_⟩) ?_ ?_
          rotate_left
          · intro w'
            go_simp
            with_reducible rfl
          rotate_left
          · simp only [Act.put, List.setIfInBounds_toArray, List.set_cons_zero, List.set_cons_succ, i64_w, i32_w]
            rfl
          refine pure_ (i := 7) (N := some 50) (v := ?_) (a' := ?_) #[false, true, true, true, false, true, true, true, false, false, false, false, false] rfl rfl (by kernel_rfl) (fun _ _ _ h => h) (Or.inl ⟨by rfl, ?_⟩) ?_ ?_
          rotate_left
          · intro w'
            go_simp
            with_reducible rfl
          rotate_left
          · simp only [Act.put, List.setIfInBounds_toArray, List.set_cons_zero, List.set_cons_succ, i64_w, i32_w]
            rfl
          refine take_ (i := 0) (N := some 43) (v := ?_) (a' := ?_) #[true, true, true, true, false, true, true, true, false, false, false, false, false] rfl rfl (by kernel_rfl) (fun _ _ _ h => h) (Or.inl ⟨by rfl, ?_⟩) hHeld ?_ ?_
          rotate_left
          · rintro w' ⟨s0, s1, s2, s3, s4, s5⟩
            go_simp
            with_reducible rfl
          rotate_left
          · simp only [Act.put, List.setIfInBounds_toArray, List.set_cons_zero, List.set_cons_succ, i64_w, i32_w]
            rfl
          refine take_ (i := 4) (N := some 47) (v := ?_) (a' := ?_) #[true, true, true, true, true, true, true, true, false, false, false, false, false] rfl rfl (by kernel_rfl) (fun _ _ _ h => h) (Or.inl ⟨by rfl, ?_⟩) hHeld ?_ ?_
          rotate_left
          · rintro w' ⟨s0, s1, s2, s3, s4, s5⟩
            go_simp
            with_reducible rfl
          rotate_left
          · simp only [Act.put, List.setIfInBounds_toArray, List.set_cons_zero, List.set_cons_succ, i64_w, i32_w]
            rfl
          refine take_ (i := 8) (N := some 51) (v := ?_) (a' := ?_) #[true, true, true, true, true, true, true, true, true, false, false, false, false] rfl rfl (by kernel_rfl) (fun _ _ _ h => h) (Or.inl ⟨by rfl, ?_⟩) hHeld ?_ ?_
          rotate_left
          · rintro w' ⟨s0, s1, s2, s3, s4, s5⟩
            go_simp
            with_reducible rfl
          rotate_left
          · simp only [Act.put, List.setIfInBounds_toArray, List.set_cons_zero, List.set_cons_succ, i64_w, i32_w]
            rfl
          refine pure_ (i := 9) (N := some 52) (v := ?_) (a' := ?_) #[true, true, true, true, true, true, true, true, true, true, false, false, false] rfl rfl (by kernel_rfl) (fun _ _ _ h => h) (Or.inl ⟨by rfl, ?_⟩) ?_ ?_
          rotate_left
          · intro w'
            go_simp
            with_reducible rfl
          rotate_left
          · simp only [Act.put, List.setIfInBounds_toArray, List.set_cons_zero, List.set_cons_succ, i64_w, i32_w]
            rfl
          refine one_ (i := 10) (N := some 53) #[true, true, true, true, true, true, true, true, true, true, true, false, false] rfl rfl (by kernel_rfl) (by decide) (fun K hK => ?_)
          refine value_ (w1 := ?_) (v := ?_) (by rfl) rfl ?_ ?_
          rotate_left 2
          · go_simp
            constructor
            · rfl
            · rfl
          refine hK.out _ _ ⟨(HD.out.alloc _).cell, (HAy.out.below (HD.out.alloc _).hw).1, (HAy.out.below (HD.out.alloc _).hw).2.1, (HAy.out.below (HD.out.alloc _).hw).2.2.1, (HAy.out.below (HD.out.alloc _).hw).2.2.2.1, (HAy.out.below (HD.out.alloc _).hw).2.2.2.2⟩ (fun hHeld => ?_)
          clear hK K
          refine norm_ (a' := ?_) ?_ ?_
          rotate_left
          · show Act.put _ (some 53) _ = _
            simp only [Act.put, List.setIfInBounds_toArray, List.set_cons_zero, List.set_cons_succ, i64_w, i32_w]
            rfl
          refine one_ (i := 11) (N := some 54) #[true, true, true, true, true, true, true, true, true, true, true, true, false] rfl rfl (by kernel_rfl) (by decide) (fun K hK => ?_)
          refine Kd.R_append_step k59 (w0 := w0) w0.heap.size (by rfl) (.tmp 43) (.tmp 53) 22 59 (.agg #[(.string ⟨#[]⟩), (.string ⟨#[]⟩)]) 32 rfl Try.underlying22 info59 rfl (by decide) (by omega) v l (⟨yk, yu⟩ : S59) [.string yk, .string yu] (fun k => k ≠ B) (fun _ => False) rfl rfl ?aP4 (fun _ hk => hk.elim) ?aF4 ?aO4 ?aB4 ?aS4 ?aL4 ?_
          (case aP4 => exact k59_mkM _ _ _ (⟨yk, yu⟩ : S59))
          (case aF4 => exact HD.out.fresh)
          (case aO4 => exact HD.out.hR)
          (case aB4 => exact HD.out.hw)
          (case aS4 => exact HD.out.hw.size)
          (case aL4 => have := HLEN.out; omega)
          intro v1 w4 ho hb hg hat
          obtain ⟨A1, c1, hv1⟩ := Kd.R_slice ho
          rw [List.length_append, List.length_singleton] at hv1
          subst hv1
          have hB4 := HD.out.grown hg
          have HO4 := Aside0.mk ho
          have HB4 := Aside0.mk hb
          have HK4 := Aside0.mk hB4
          have hf4 := blk_frozen hB4 0
          clear ho hb hg hat hB4
          refine hK.out _ _ ⟨((blk_cell HK4.out 0).trans rfl), (HAy.out.below HB4.out).1, (HAy.out.below HB4.out).2.1, (HAy.out.below HB4.out).2.2.1, (HAy.out.below HB4.out).2.2.2.1, (HAy.out.below HB4.out).2.2.2.2⟩ (fun hHeld => ?_)
          clear hK K
          refine norm_ (a' := ?_) ?_ ?_
          rotate_left
          · show Act.put _ (some 54) _ = _
            simp only [Act.put, List.setIfInBounds_toArray, List.set_cons_zero, List.set_cons_succ, i64_w, i32_w]
            rfl
          refine last_ (i := 12) (N := none) #[true, true, true, true, true, true, true, true, true, true, true, true, true] rfl rfl (by kernel_rfl) (by decide) (fun K hK => ?_)
          have hc4 : w4.cell? ⟨B, 0, none⟩ = some v := (blk_cell HK4.out 0).trans rfl
          refine skip_ (w1 := ?_) (by rfl) rfl ?_ ?_
          rotate_left
          · go_simp
            rfl
          refine hK.out _ _ ?_
          clear hK K
          refine done_ (by kernel_rfl) ?_
          go_wp2
          go_ret
          exact ⟨rfl, ⟨(fun _ => ⟨_, by rw [MergeP.made_some (z := (⟨yk, yu⟩ : S59)) rfl, HLL.out]; exact delta_beside.Out_item.put HS.out HK4.out HO4.out HB4.out⟩), (delta_beside.Out_item.put HS.out HK4.out HO4.out HB4.out).hw⟩⟩
        | false =>
          skip
          go_enter Try.func38, Try.ntmps38
          go_wp2
          refine start_ (n := 23) (S := fun w' => w'.cell? p = some (.string yk) ∧ w'.cell? ⟨p.block, p.off + 1, none⟩ = some (.bool false) ∧ w'.cell? ⟨p.block, p.off + 2, none⟩ = some (.bool false) ∧ w'.cell? ⟨p.block, p.off + 3, none⟩ = some (.string yo) ∧ w'.cell? ⟨p.block, p.off + 4, none⟩ = some (.string yu)) (ds := []) #[false, false, false, false, false, false, false, false, false, false, false, false, false, false, false, false, false, false, false, false, false, false, false] (by kernel_rfl) rfl rfl ⟨(HAy.out.below HS.out.drew.hw).1, (HAy.out.below HS.out.drew.hw).2.1, (HAy.out.below HS.out.drew.hw).2.2.1, (HAy.out.below HS.out.drew.hw).2.2.2.1, (HAy.out.below HS.out.drew.hw).2.2.2.2⟩ (fun hHeld => ?_)
          have HD := Aside0.mk HS.out.drew
          generalize w.drew = wd at hHeld HD ⊢
          refine pure_ (i := 0) (N := some 16) (v := ?_) (a' := ?_) #[true, false, false, false, false, false, false, false, false, false, false, false, false, false, false, false, false, false, false, false, false, false, false] rfl rfl (by kernel_rfl) (fun _ _ _ h => h) (Or.inl ⟨by rfl, ?_⟩) ?_ ?_
          rotate_left
          · intro w'
            go_simp
            with_reducible rfl
          rotate_left
          · simp only [Act.put, List.setIfInBounds_toArray, List.set_cons_zero, List.set_cons_succ, i64_w, i32_w]
            rfl
          refine pure_ (i := 1) (N := some 17) (v := ?_) (a' := ?_) #[true, true, false, false, false, false, false, false, false, false, false, false, false, false, false, false, false, false, false, false, false, false, false] rfl rfl (by kernel_rfl) (fun _ _ _ h => h) (Or.inl ⟨by rfl, ?_⟩) ?_ ?_
          rotate_left
          · intro w'
            go_simp
            with_reducible rfl
          rotate_left
          · simp only [Act.put, List.setIfInBounds_toArray, List.set_cons_zero, List.set_cons_succ, i64_w, i32_w]
            rfl
          refine pure_ (i := 2) (N := some 18) (v := ?_) (a' := ?_) #[true, true, true, false, false, false, false, false, false, false, false, false, false, false, false, false, false, false, false, false, false, false, false] rfl rfl (by kernel_rfl) (fun _ _ _ h => h) (Or.inl ⟨by rfl, ?_⟩) ?_ ?_
          rotate_left
          · intro w'
            go_simp
            with_reducible rfl
          rotate_left
          · simp only [Act.put, List.setIfInBounds_toArray, List.set_cons_zero, List.set_cons_succ, i64_w, i32_w]
            rfl
          refine pure_ (i := 4) (N := some 20) (v := ?_) (a' := ?_) #[true, true, true, false, true, false, false, false, false, false, false, false, false, false, false, false, false, false, false, false, false, false, false] rfl rfl (by kernel_rfl) (fun _ _ _ h => h) (Or.inl ⟨by rfl, ?_⟩) ?_ ?_
          rotate_left
          · intro w'
            go_simp
            with_reducible rfl
          rotate_left
          · simp only [Act.put, List.setIfInBounds_toArray, List.set_cons_zero, List.set_cons_succ, i64_w, i32_w]
            rfl
          refine pure_ (i := 5) (N := some 21) (v := ?_) (a' := ?_) #[true, true, true, false, true, true, false, false, false, false, false, false, false, false, false, false, false, false, false, false, false, false, false] rfl rfl (by kernel_rfl) (fun _ _ _ h => h) (Or.inl ⟨by rfl, ?_⟩) ?_ ?_
          rotate_left
          · intro w'
            go_simp
            with_reducible rfl
          rotate_left
          · simp only [Act.put, List.setIfInBounds_toArray, List.set_cons_zero, List.set_cons_succ, i64_w, i32_w]
            rfl
          refine take_ (i := 3) (N := some 19) (v := ?_) (a' := ?_) #[true, true, true, true, true, true, false, false, false, false, false, false, false, false, false, false, false, false, false, false, false, false, false] rfl rfl (by kernel_rfl) (fun _ _ _ h => h) (Or.inl ⟨by rfl, ?_⟩) hHeld ?_ ?_
          rotate_left
          · rintro w' ⟨s0, s1, s2, s3, s4⟩
            go_simp
            with_reducible rfl
          rotate_left
          · simp only [Act.put, List.setIfInBounds_toArray, List.set_cons_zero, List.set_cons_succ, i64_w, i32_w]
            rfl
          refine pure_ (i := 6) (N := some 22) (v := ?_) (a' := ?_) #[true, true, true, true, true, true, true, false, false, false, false, false, false, false, false, false, false, false, false, false, false, false, false] rfl rfl (by kernel_rfl) (fun _ _ _ h => h) (Or.inl ⟨by rfl, ?_⟩) ?_ ?_
          rotate_left
          · intro w'
            go_simp
            with_reducible rfl
          rotate_left
          · simp only [Act.put, List.setIfInBounds_toArray, List.set_cons_zero, List.set_cons_succ, i64_w, i32_w]
            rfl
          refine pure_ (i := 7) (N := some 23) (v := ?_) (a' := ?_) #[true, true, true, true, true, true, true, true, false, false, false, false, false, false, false, false, false, false, false, false, false, false, false] rfl rfl (by kernel_rfl) (fun _ _ _ h => h) (Or.inl ⟨by rfl, ?_⟩) ?_ ?_
          rotate_left
          · intro w'
            go_simp
            with_reducible rfl
          rotate_left
          · simp only [Act.put, List.setIfInBounds_toArray, List.set_cons_zero, List.set_cons_succ, i64_w, i32_w]
            rfl
          refine pure_ (i := 8) (N := some 24) (v := ?_) (a' := ?_) #[true, true, true, true, true, true, true, true, true, false, false, false, false, false, false, false, false, false, false, false, false, false, false] rfl rfl (by kernel_rfl) (fun _ _ _ h => h) (Or.inl ⟨by rfl, ?_⟩) ?_ ?_
          rotate_left
          · intro w'
            go_simp
            with_reducible rfl
          rotate_left
          · simp only [Act.put, List.setIfInBounds_toArray, List.set_cons_zero, List.set_cons_succ, i64_w, i32_w]
            rfl
          refine pure_ (i := 9) (N := some 25) (v := ?_) (a' := ?_) #[true, true, true, true, true, true, true, true, true, true, false, false, false, false, false, false, false, false, false, false, false, false, false] rfl rfl (by kernel_rfl) (fun _ _ _ h => h) (Or.inl ⟨by rfl, ?_⟩) ?_ ?_
          rotate_left
          · intro w'
            go_simp
            with_reducible rfl
          rotate_left
          · simp only [Act.put, List.setIfInBounds_toArray, List.set_cons_zero, List.set_cons_succ, i64_w, i32_w]
            rfl
          refine pure_ (i := 10) (N := some 26) (v := ?_) (a' := ?_) #[true, true, true, true, true, true, true, true, true, true, true, false, false, false, false, false, false, false, false, false, false, false, false] rfl rfl (by kernel_rfl) (fun _ _ _ h => h) (Or.inl ⟨by rfl, ?_⟩) ?_ ?_
          rotate_left
          · intro w'
            go_simp
            with_reducible rfl
          rotate_left
          · simp only [Act.put, List.setIfInBounds_toArray, List.set_cons_zero, List.set_cons_succ, i64_w, i32_w]
            rfl
          refine pure_ (i := 11) (N := some 27) (v := undef) (a' := ?_) #[true, true, true, true, true, true, true, true, true, true, true, true, false, false, false, false, false, false, false, false, false, false, false] rfl rfl (by kernel_rfl) (fun _ _ _ h => h) (Or.inr ⟨by rfl, rfl⟩) ?_ ?_
          rotate_left
          · simp only [Act.put, List.setIfInBounds_toArray, List.set_cons_zero, List.set_cons_succ, i64_w, i32_w]
            rfl
          refine pure_ (i := 12) (N := some 28) (v := undef) (a' := ?_) #[true, true, true, true, true, true, true, true, true, true, true, true, true, false, false, false, false, false, false, false, false, false, false] rfl rfl (by kernel_rfl) (fun _ _ _ h => h) (Or.inr ⟨by rfl, rfl⟩) ?_ ?_
          rotate_left
          · simp only [Act.put, List.setIfInBounds_toArray, List.set_cons_zero, List.set_cons_succ, i64_w, i32_w]
            rfl
          refine pure_ (i := 13) (N := some 29) (v := undef) (a' := ?_) #[true, true, true, true, true, true, true, true, true, true, true, true, true, true, false, false, false, false, false, false, false, false, false] rfl rfl (by kernel_rfl) (fun _ _ _ h => h) (Or.inr ⟨by rfl, rfl⟩) ?_ ?_
          rotate_left
          · simp only [Act.put, List.setIfInBounds_toArray, List.set_cons_zero, List.set_cons_succ, i64_w, i32_w]
            rfl
          refine pure_ (i := 14) (N := some 30) (v := undef) (a' := ?_) #[true, true, true, true, true, true, true, true, true, true, true, true, true, true, true, false, false, false, false, false, false, false, false] rfl rfl (by kernel_rfl) (fun _ _ _ h => h) (Or.inr ⟨by rfl, rfl⟩) ?_ ?_
          rotate_left
          · simp only [Act.put, List.setIfInBounds_toArray, List.set_cons_zero, List.set_cons_succ, i64_w, i32_w]
            rfl
          refine pure_ (i := 15) (N := some 31) (v := undef) (a' := ?_) #[true, true, true, true, true, true, true, true, true, true, true, true, true, true, true, true, false, false, false, false, false, false, false] rfl rfl (by kernel_rfl) (fun _ _ _ h => h) (Or.inr ⟨by rfl, rfl⟩) ?_ ?_
          rotate_left
          · simp only [Act.put, List.setIfInBounds_toArray, List.set_cons_zero, List.set_cons_succ, i64_w, i32_w]
            rfl
          refine pure_ (i := 16) (N := some 32) (v := undef) (a' := ?_) #[true, true, true, true, true, true, true, true, true, true, true, true, true, true, true, true, true, false, false, false, false, false, false] rfl rfl (by kernel_rfl) (fun _ _ _ h => h) (Or.inr ⟨by rfl, rfl⟩) ?_ ?_
          rotate_left
          · simp only [Act.put, List.setIfInBounds_toArray, List.set_cons_zero, List.set_cons_succ, i64_w, i32_w]
            rfl
          refine pure_ (i := 17) (N := some 33) (v := undef) (a' := ?_) #[true, true, true, true, true, true, true, true, true, true, true, true, true, true, true, true, true, true, false, false, false, false, false] rfl rfl (by kernel_rfl) (fun _ _ _ h => h) (Or.inr ⟨by rfl, rfl⟩) ?_ ?_
          rotate_left
          · simp only [Act.put, List.setIfInBounds_toArray, List.set_cons_zero, List.set_cons_succ, i64_w, i32_w]
            rfl
          refine pure_ (i := 18) (N := some 34) (v := undef) (a' := ?_) #[true, true, true, true, true, true, true, true, true, true, true, true, true, true, true, true, true, true, true, false, false, false, false] rfl rfl (by kernel_rfl) (fun _ _ _ h => h) (Or.inr ⟨by rfl, rfl⟩) ?_ ?_
          rotate_left
          · simp only [Act.put, List.setIfInBounds_toArray, List.set_cons_zero, List.set_cons_succ, i64_w, i32_w]
            rfl
          refine pure_ (i := 19) (N := some 35) (v := undef) (a' := ?_) #[true, true, true, true, true, true, true, true, true, true, true, true, true, true, true, true, true, true, true, true, false, false, false] rfl rfl (by kernel_rfl) (fun _ _ _ h => h) (Or.inr ⟨by rfl, rfl⟩) ?_ ?_
          rotate_left
          · simp only [Act.put, List.setIfInBounds_toArray, List.set_cons_zero, List.set_cons_succ, i64_w, i32_w]
            rfl
          refine pure_ (i := 20) (N := some 36) (v := ?_) (a' := ?_) #[true, true, true, true, true, true, true, true, true, true, true, true, true, true, true, true, true, true, true, true, true, false, false] rfl rfl (by kernel_rfl) (fun _ _ _ h => h) (Or.inl ⟨by rfl, ?_⟩) ?_ ?_
          rotate_left
          · intro w'
            go_simp
            with_reducible rfl
          rotate_left
          · simp only [Act.put, List.setIfInBounds_toArray, List.set_cons_zero, List.set_cons_succ, i64_w, i32_w]
            rfl
          refine pure_ (i := 21) (N := some 37) (v := ?_) (a' := ?_) #[true, true, true, true, true, true, true, true, true, true, true, true, true, true, true, true, true, true, true, true, true, true, false] rfl rfl (by kernel_rfl) (fun _ _ _ h => h) (Or.inl ⟨by rfl, ?_⟩) ?_ ?_
          rotate_left
          · intro w'
            go_simp
            with_reducible rfl
          rotate_left
          · simp only [Act.put, List.setIfInBounds_toArray, List.set_cons_zero, List.set_cons_succ, i64_w, i32_w]
            rfl
          refine pure_ (i := 22) (N := some 15) (v := ?_) (a' := ?_) #[true, true, true, true, true, true, true, true, true, true, true, true, true, true, true, true, true, true, true, true, true, true, true] rfl rfl (by kernel_rfl) (fun _ _ _ h => h) (Or.inl ⟨by rfl, ?_⟩) ?_ ?_
          rotate_left
          · intro w'
            go_simp
            with_reducible rfl
          rotate_left
          · simp only [Act.put, List.setIfInBounds_toArray, List.set_cons_zero, List.set_cons_succ, i64_w, i32_w]
            rfl
          refine done_ (by kernel_rfl) ?_
          have hY := HAy.out.below HD.out.hw
          have hy0 : wd.cell? p = some (.string yk) := hY.1
          have hy1 : wd.cell? ⟨p.block, p.off + 1, none⟩ = some (.bool false) := hY.2.1
          have hy2 : wd.cell? ⟨p.block, p.off + 2, none⟩ = some (.bool false) := hY.2.2.1
          have hy3 : wd.cell? ⟨p.block, p.off + 3, none⟩ = some (.string yo) := hY.2.2.2.1
          have hy4 : wd.cell? ⟨p.block, p.off + 4, none⟩ = some (.string yu) := hY.2.2.2.2
          clear hY
          go_wp2
          go_ret
          exact ⟨ret_b (by rfl), ⟨(fun _ => ⟨_, by rw [MergeP.made_none rfl, HLL.out]; exact HD.out⟩), HD.out.hw⟩⟩
    · obtain ⟨xk, xv⟩ := x
      obtain ⟨q, rfl, hq⟩ := hx
      have HAx := Aside0.mk hq
      clear hq
      cases yh with
      | false =>
        skip
        go_enter Try.func38, Try.ntmps38
        go_wp2
        refine start_ (n := 23) (S := fun w' => w'.cell? q = some (.string xk) ∧ w'.cell? ⟨q.block, q.off + 1, none⟩ = some (.string xv) ∧ w'.cell? p = some (.string yk) ∧ w'.cell? ⟨p.block, p.off + 1, none⟩ = some (.bool false) ∧ w'.cell? ⟨p.block, p.off + 2, none⟩ = some (.bool yn) ∧ w'.cell? ⟨p.block, p.off + 3, none⟩ = some (.string yo) ∧ w'.cell? ⟨p.block, p.off + 4, none⟩ = some (.string yu)) (ds := []) #[false, false, false, false, false, false, false, false, false, false, false, false, false, false, false, false, false, false, false, false, false, false, false] (by kernel_rfl) rfl rfl ⟨(HAx.out.below HS.out.drew.hw).1, (HAx.out.below HS.out.drew.hw).2, (HAy.out.below HS.out.drew.hw).1, (HAy.out.below HS.out.drew.hw).2.1, (HAy.out.below HS.out.drew.hw).2.2.1, (HAy.out.below HS.out.drew.hw).2.2.2.1, (HAy.out.below HS.out.drew.hw).2.2.2.2⟩ (fun hHeld => ?_)
        have HD := Aside0.mk HS.out.drew
        generalize w.drew = wd at hHeld HD ⊢
        refine pure_ (i := 0) (N := some 16) (v := ?_) (a' := ?_) #[true, false, false, false, false, false, false, false, false, false, false, false, false, false, false, false, false, false, false, false, false, false, false] rfl rfl (by kernel_rfl) (fun _ _ _ h => h) (Or.inl ⟨by rfl, ?_⟩) ?_ ?_
        rotate_left
        · intro w'
          go_simp
          with_reducible rfl
        rotate_left
        · simp only [Act.put, List.setIfInBounds_toArray, List.set_cons_zero, List.set_cons_succ, i64_w, i32_w]
          rfl
        refine pure_ (i := 1) (N := some 17) (v := ?_) (a' := ?_) #[true, true, false, false, false, false, false, false, false, false, false, false, false, false, false, false, false, false, false, false, false, false, false] rfl rfl (by kernel_rfl) (fun _ _ _ h => h) (Or.inl ⟨by rfl, ?_⟩) ?_ ?_
        rotate_left
        · intro w'
          go_simp
          with_reducible rfl
        rotate_left
        · simp only [Act.put, List.setIfInBounds_toArray, List.set_cons_zero, List.set_cons_succ, i64_w, i32_w]
          rfl
        refine pure_ (i := 2) (N := some 18) (v := ?_) (a' := ?_) #[true, true, true, false, false, false, false, false, false, false, false, false, false, false, false, false, false, false, false, false, false, false, false] rfl rfl (by kernel_rfl) (fun _ _ _ h => h) (Or.inl ⟨by rfl, ?_⟩) ?_ ?_
        rotate_left
        · intro w'
          go_simp
          with_reducible rfl
        rotate_left
        · simp only [Act.put, List.setIfInBounds_toArray, List.set_cons_zero, List.set_cons_succ, i64_w, i32_w]
          rfl
        refine pure_ (i := 4) (N := some 20) (v := ?_) (a' := ?_) #[true, true, true, false, true, false, false, false, false, false, false, false, false, false, false, false, false, false, false, false, false, false, false] rfl rfl (by kernel_rfl) (fun _ _ _ h => h) (Or.inl ⟨by rfl, ?_⟩) ?_ ?_
        rotate_left
        · intro w'
          go_simp
          with_reducible rfl
        rotate_left
        · simp only [Act.put, List.setIfInBounds_toArray, List.set_cons_zero, List.set_cons_succ, i64_w, i32_w]
          rfl
        refine pure_ (i := 5) (N := some 21) (v := ?_) (a' := ?_) #[true, true, true, false, true, true, false, false, false, false, false, false, false, false, false, false, false, false, false, false, false, false, false] rfl rfl (by kernel_rfl) (fun _ _ _ h => h) (Or.inl ⟨by rfl, ?_⟩) ?_ ?_
        rotate_left
        · intro w'
          go_simp
          with_reducible rfl
        rotate_left
        · simp only [Act.put, List.setIfInBounds_toArray, List.set_cons_zero, List.set_cons_succ, i64_w, i32_w]
          rfl
        refine take_ (i := 3) (N := some 19) (v := ?_) (a' := ?_) #[true, true, true, true, true, true, false, false, false, false, false, false, false, false, false, false, false, false, false, false, false, false, false] rfl rfl (by kernel_rfl) (fun _ _ _ h => h) (Or.inl ⟨by rfl, ?_⟩) hHeld ?_ ?_
        rotate_left
        · rintro w' ⟨s0, s1, s2, s3, s4, s5, s6⟩
          go_simp
          with_reducible rfl
        rotate_left
        · simp only [Act.put, List.setIfInBounds_toArray, List.set_cons_zero, List.set_cons_succ, i64_w, i32_w]
          rfl
        refine pure_ (i := 6) (N := some 22) (v := ?_) (a' := ?_) #[true, true, true, true, true, true, true, false, false, false, false, false, false, false, false, false, false, false, false, false, false, false, false] rfl rfl (by kernel_rfl) (fun _ _ _ h => h) (Or.inl ⟨by rfl, ?_⟩) ?_ ?_
        rotate_left
        · intro w'
          go_simp
          with_reducible rfl
        rotate_left
        · simp only [Act.put, List.setIfInBounds_toArray, List.set_cons_zero, List.set_cons_succ, i64_w, i32_w]
          rfl
        refine pure_ (i := 7) (N := some 23) (v := ?_) (a' := ?_) #[true, true, true, true, true, true, true, true, false, false, false, false, false, false, false, false, false, false, false, false, false, false, false] rfl rfl (by kernel_rfl) (fun _ _ _ h => h) (Or.inl ⟨by rfl, ?_⟩) ?_ ?_
        rotate_left
        · intro w'
          go_simp
          with_reducible rfl
        rotate_left
        · simp only [Act.put, List.setIfInBounds_toArray, List.set_cons_zero, List.set_cons_succ, i64_w, i32_w]
          rfl
        refine pure_ (i := 8) (N := some 24) (v := undef) (a' := ?_) #[true, true, true, true, true, true, true, true, true, false, false, false, false, false, false, false, false, false, false, false, false, false, false] rfl rfl (by kernel_rfl) (fun _ _ _ h => h) (Or.inr ⟨by rfl, rfl⟩) ?_ ?_
        rotate_left
        · simp only [Act.put, List.setIfInBounds_toArray, List.set_cons_zero, List.set_cons_succ, i64_w, i32_w]
          rfl
        refine pure_ (i := 9) (N := some 25) (v := undef) (a' := ?_) #[true, true, true, true, true, true, true, true, true, true, false, false, false, false, false, false, false, false, false, false, false, false, false] rfl rfl (by kernel_rfl) (fun _ _ _ h => h) (Or.inr ⟨by rfl, rfl⟩) ?_ ?_
        rotate_left
        · simp only [Act.put, List.setIfInBounds_toArray, List.set_cons_zero, List.set_cons_succ, i64_w, i32_w]
          rfl
        refine pure_ (i := 10) (N := some 26) (v := undef) (a' := ?_) #[true, true, true, true, true, true, true, true, true, true, true, false, false, false, false, false, false, false, false, false, false, false, false] rfl rfl (by kernel_rfl) (fun _ _ _ h => h) (Or.inr ⟨by rfl, rfl⟩) ?_ ?_
        rotate_left
        · simp only [Act.put, List.setIfInBounds_toArray, List.set_cons_zero, List.set_cons_succ, i64_w, i32_w]
          rfl
        refine pure_ (i := 11) (N := some 27) (v := undef) (a' := ?_) #[true, true, true, true, true, true, true, true, true, true, true, true, false, false, false, false, false, false, false, false, false, false, false] rfl rfl (by kernel_rfl) (fun _ _ _ h => h) (Or.inr ⟨by rfl, rfl⟩) ?_ ?_
        rotate_left
        · simp only [Act.put, List.setIfInBounds_toArray, List.set_cons_zero, List.set_cons_succ, i64_w, i32_w]
          rfl
        refine pure_ (i := 12) (N := some 28) (v := undef) (a' := ?_) #[true, true, true, true, true, true, true, true, true, true, true, true, true, false, false, false, false, false, false, false, false, false, false] rfl rfl (by kernel_rfl) (fun _ _ _ h => h) (Or.inr ⟨by rfl, rfl⟩) ?_ ?_
        rotate_left
        · simp only [Act.put, List.setIfInBounds_toArray, List.set_cons_zero, List.set_cons_succ, i64_w, i32_w]
          rfl
        refine pure_ (i := 13) (N := some 29) (v := undef) (a' := ?_) #[true, true, true, true, true, true, true, true, true, true, true, true, true, true, false, false, false, false, false, false, false, false, false] rfl rfl (by kernel_rfl) (fun _ _ _ h => h) (Or.inr ⟨by rfl, rfl⟩) ?_ ?_
        rotate_left
        · simp only [Act.put, List.setIfInBounds_toArray, List.set_cons_zero, List.set_cons_succ, i64_w, i32_w]
          rfl
        refine pure_ (i := 14) (N := some 30) (v := undef) (a' := ?_) #[true, true, true, true, true, true, true, true, true, true, true, true, true, true, true, false, false, false, false, false, false, false, false] rfl rfl (by kernel_rfl) (fun _ _ _ h => h) (Or.inr ⟨by rfl, rfl⟩) ?_ ?_
        rotate_left
        · simp only [Act.put, List.setIfInBounds_toArray, List.set_cons_zero, List.set_cons_succ, i64_w, i32_w]
          rfl
        refine pure_ (i := 15) (N := some 31) (v := undef) (a' := ?_) #[true, true, true, true, true, true, true, true, true, true, true, true, true, true, true, true, false, false, false, false, false, false, false] rfl rfl (by kernel_rfl) (fun _ _ _ h => h) (Or.inr ⟨by rfl, rfl⟩) ?_ ?_
        rotate_left
        · simp only [Act.put, List.setIfInBounds_toArray, List.set_cons_zero, List.set_cons_succ, i64_w, i32_w]
          rfl
        refine pure_ (i := 16) (N := some 32) (v := undef) (a' := ?_) #[true, true, true, true, true, true, true, true, true, true, true, true, true, true, true, true, true, false, false, false, false, false, false] rfl rfl (by kernel_rfl) (fun _ _ _ h => h) (Or.inr ⟨by rfl, rfl⟩) ?_ ?_
        rotate_left
        · simp only [Act.put, List.setIfInBounds_toArray, List.set_cons_zero, List.set_cons_succ, i64_w, i32_w]
          rfl
        refine pure_ (i := 17) (N := some 33) (v := undef) (a' := ?_) #[true, true, true, true, true, true, true, true, true, true, true, true, true, true, true, true, true, true, false, false, false, false, false] rfl rfl (by kernel_rfl) (fun _ _ _ h => h) (Or.inr ⟨by rfl, rfl⟩) ?_ ?_
        rotate_left
        · simp only [Act.put, List.setIfInBounds_toArray, List.set_cons_zero, List.set_cons_succ, i64_w, i32_w]
          rfl
        refine pure_ (i := 18) (N := some 34) (v := undef) (a' := ?_) #[true, true, true, true, true, true, true, true, true, true, true, true, true, true, true, true, true, true, true, false, false, false, false] rfl rfl (by kernel_rfl) (fun _ _ _ h => h) (Or.inr ⟨by rfl, rfl⟩) ?_ ?_
        rotate_left
        · simp only [Act.put, List.setIfInBounds_toArray, List.set_cons_zero, List.set_cons_succ, i64_w, i32_w]
          rfl
        refine pure_ (i := 19) (N := some 35) (v := undef) (a' := ?_) #[true, true, true, true, true, true, true, true, true, true, true, true, true, true, true, true, true, true, true, true, false, false, false] rfl rfl (by kernel_rfl) (fun _ _ _ h => h) (Or.inr ⟨by rfl, rfl⟩) ?_ ?_
        rotate_left
        · simp only [Act.put, List.setIfInBounds_toArray, List.set_cons_zero, List.set_cons_succ, i64_w, i32_w]
          rfl
        refine pure_ (i := 20) (N := some 36) (v := undef) (a' := ?_) #[true, true, true, true, true, true, true, true, true, true, true, true, true, true, true, true, true, true, true, true, true, false, false] rfl rfl (by kernel_rfl) (fun _ _ _ h => h) (Or.inr ⟨by rfl, rfl⟩) ?_ ?_
        rotate_left
        · simp only [Act.put, List.setIfInBounds_toArray, List.set_cons_zero, List.set_cons_succ, i64_w, i32_w]
          rfl
        refine pure_ (i := 21) (N := some 37) (v := ?_) (a' := ?_) #[true, true, true, true, true, true, true, true, true, true, true, true, true, true, true, true, true, true, true, true, true, true, false] rfl rfl (by kernel_rfl) (fun _ _ _ h => h) (Or.inl ⟨by rfl, ?_⟩) ?_ ?_
        rotate_left
        · intro w'
          go_simp
          with_reducible rfl
        rotate_left
        · simp only [Act.put, List.setIfInBounds_toArray, List.set_cons_zero, List.set_cons_succ, i64_w, i32_w]
          rfl
        refine pure_ (i := 22) (N := some 15) (v := ?_) (a' := ?_) #[true, true, true, true, true, true, true, true, true, true, true, true, true, true, true, true, true, true, true, true, true, true, true] rfl rfl (by kernel_rfl) (fun _ _ _ h => h) (Or.inl ⟨by rfl, ?_⟩) ?_ ?_
        rotate_left
        · intro w'
          go_simp
          with_reducible rfl
        rotate_left
        · simp only [Act.put, List.setIfInBounds_toArray, List.set_cons_zero, List.set_cons_succ, i64_w, i32_w]
          rfl
        refine done_ (by kernel_rfl) ?_
        go_wp2
        go_ret
        exact ⟨ret_b (by rfl), ⟨(fun h => by cases h), HD.out.hw⟩⟩
      | true =>
        obtain ⟨t, ht⟩ : ∃ t : Bool, decide (xv = yo) = t := ⟨_, rfl⟩
        have hs : (xv.toList == yo.toList) = t := by rw [MergeP.beq_dec, ht]
        have hf : delta_Apply.fitA (some ⟨xk, xv⟩) (some ⟨yk, true, yn, yo, yu⟩) = t := by simp [delta_Apply.fitA, ht]
        have HF := Aside0.mk hf
        clear hf ht
        cases t with
        | false =>
          skip
          go_enter Try.func38, Try.ntmps38
          go_wp2
          refine start_ (n := 23) (S := fun w' => w'.cell? q = some (.string xk) ∧ w'.cell? ⟨q.block, q.off + 1, none⟩ = some (.string xv) ∧ w'.cell? p = some (.string yk) ∧ w'.cell? ⟨p.block, p.off + 1, none⟩ = some (.bool true) ∧ w'.cell? ⟨p.block, p.off + 2, none⟩ = some (.bool yn) ∧ w'.cell? ⟨p.block, p.off + 3, none⟩ = some (.string yo) ∧ w'.cell? ⟨p.block, p.off + 4, none⟩ = some (.string yu)) (ds := []) #[false, false, false, false, false, false, false, false, false, false, false, false, false, false, false, false, false, false, false, false, false, false, false] (by kernel_rfl) rfl rfl ⟨(HAx.out.below HS.out.drew.hw).1, (HAx.out.below HS.out.drew.hw).2, (HAy.out.below HS.out.drew.hw).1, (HAy.out.below HS.out.drew.hw).2.1, (HAy.out.below HS.out.drew.hw).2.2.1, (HAy.out.below HS.out.drew.hw).2.2.2.1, (HAy.out.below HS.out.drew.hw).2.2.2.2⟩ (fun hHeld => ?_)
          have HD := Aside0.mk HS.out.drew
          generalize w.drew = wd at hHeld HD ⊢
          refine pure_ (i := 0) (N := some 16) (v := ?_) (a' := ?_) #[true, false, false, false, false, false, false, false, false, false, false, false, false, false, false, false, false, false, false, false, false, false, false] rfl rfl (by kernel_rfl) (fun _ _ _ h => h) (Or.inl ⟨by rfl, ?_⟩) ?_ ?_
          rotate_left
          · intro w'
            go_simp
            with_reducible rfl
          rotate_left
          · simp only [Act.put, List.setIfInBounds_toArray, List.set_cons_zero, List.set_cons_succ, i64_w, i32_w]
            rfl
          refine pure_ (i := 1) (N := some 17) (v := ?_) (a' := ?_) #[true, true, false, false, false, false, false, false, false, false, false, false, false, false, false, false, false, false, false, false, false, false, false] rfl rfl (by kernel_rfl) (fun _ _ _ h => h) (Or.inl ⟨by rfl, ?_⟩) ?_ ?_
          rotate_left
          · intro w'
            go_simp
            with_reducible rfl
          rotate_left
          · simp only [Act.put, List.setIfInBounds_toArray, List.set_cons_zero, List.set_cons_succ, i64_w, i32_w]
            rfl
          refine pure_ (i := 2) (N := some 18) (v := ?_) (a' := ?_) #[true, true, true, false, false, false, false, false, false, false, false, false, false, false, false, false, false, false, false, false, false, false, false] rfl rfl (by kernel_rfl) (fun _ _ _ h => h) (Or.inl ⟨by rfl, ?_⟩) ?_ ?_
          rotate_left
          · intro w'
            go_simp
            with_reducible rfl
          rotate_left
          · simp only [Act.put, List.setIfInBounds_toArray, List.set_cons_zero, List.set_cons_succ, i64_w, i32_w]
            rfl
          refine pure_ (i := 4) (N := some 20) (v := ?_) (a' := ?_) #[true, true, true, false, true, false, false, false, false, false, false, false, false, false, false, false, false, false, false, false, false, false, false] rfl rfl (by kernel_rfl) (fun _ _ _ h => h) (Or.inl ⟨by rfl, ?_⟩) ?_ ?_
          rotate_left
          · intro w'
            go_simp
            with_reducible rfl
          rotate_left
          · simp only [Act.put, List.setIfInBounds_toArray, List.set_cons_zero, List.set_cons_succ, i64_w, i32_w]
            rfl
          refine pure_ (i := 5) (N := some 21) (v := ?_) (a' := ?_) #[true, true, true, false, true, true, false, false, false, false, false, false, false, false, false, false, false, false, false, false, false, false, false] rfl rfl (by kernel_rfl) (fun _ _ _ h => h) (Or.inl ⟨by rfl, ?_⟩) ?_ ?_
          rotate_left
          · intro w'
            go_simp
            with_reducible rfl
          rotate_left
          · simp only [Act.put, List.setIfInBounds_toArray, List.set_cons_zero, List.set_cons_succ, i64_w, i32_w]
            rfl
          refine take_ (i := 3) (N := some 19) (v := ?_) (a' := ?_) #[true, true, true, true, true, true, false, false, false, false, false, false, false, false, false, false, false, false, false, false, false, false, false] rfl rfl (by kernel_rfl) (fun _ _ _ h => h) (Or.inl ⟨by rfl, ?_⟩) hHeld ?_ ?_
          rotate_left
          · rintro w' ⟨s0, s1, s2, s3, s4, s5, s6⟩
            go_simp
            with_reducible rfl
          rotate_left
          · simp only [Act.put, List.setIfInBounds_toArray, List.set_cons_zero, List.set_cons_succ, i64_w, i32_w]
            rfl
          refine pure_ (i := 6) (N := some 22) (v := ?_) (a' := ?_) #[true, true, true, true, true, true, true, false, false, false, false, false, false, false, false, false, false, false, false, false, false, false, false] rfl rfl (by kernel_rfl) (fun _ _ _ h => h) (Or.inl ⟨by rfl, ?_⟩) ?_ ?_
          rotate_left
          · intro w'
            go_simp
            with_reducible rfl
          rotate_left
          · simp only [Act.put, List.setIfInBounds_toArray, List.set_cons_zero, List.set_cons_succ, i64_w, i32_w]
            rfl
          refine pure_ (i := 7) (N := some 23) (v := ?_) (a' := ?_) #[true, true, true, true, true, true, true, true, false, false, false, false, false, false, false, false, false, false, false, false, false, false, false] rfl rfl (by kernel_rfl) (fun _ _ _ h => h) (Or.inl ⟨by rfl, ?_⟩) ?_ ?_
          rotate_left
          · intro w'
            go_simp
            with_reducible rfl
          rotate_left
          · simp only [Act.put, List.setIfInBounds_toArray, List.set_cons_zero, List.set_cons_succ, i64_w, i32_w]
            rfl
          refine pure_ (i := 8) (N := some 24) (v := ?_) (a' := ?_) #[true, true, true, true, true, true, true, true, true, false, false, false, false, false, false, false, false, false, false, false, false, false, false] rfl rfl (by kernel_rfl) (fun _ _ _ h => h) (Or.inl ⟨by rfl, ?_⟩) ?_ ?_
          rotate_left
          · intro w'
            go_simp
            with_reducible rfl
          rotate_left
          · simp only [Act.put, List.setIfInBounds_toArray, List.set_cons_zero, List.set_cons_succ, i64_w, i32_w]
            rfl
          refine pure_ (i := 9) (N := some 25) (v := ?_) (a' := ?_) #[true, true, true, true, true, true, true, true, true, true, false, false, false, false, false, false, false, false, false, false, false, false, false] rfl rfl (by kernel_rfl) (fun _ _ _ h => h) (Or.inl ⟨by rfl, ?_⟩) ?_ ?_
          rotate_left
          · intro w'
            go_simp
            with_reducible rfl
          rotate_left
          · simp only [Act.put, List.setIfInBounds_toArray, List.set_cons_zero, List.set_cons_succ, i64_w, i32_w]
            rfl
          refine pure_ (i := 10) (N := some 26) (v := ?_) (a' := ?_) #[true, true, true, true, true, true, true, true, true, true, true, false, false, false, false, false, false, false, false, false, false, false, false] rfl rfl (by kernel_rfl) (fun _ _ _ h => h) (Or.inl ⟨by rfl, ?_⟩) ?_ ?_
          rotate_left
          · intro w'
            go_simp
            with_reducible rfl
          rotate_left
          · simp only [Act.put, List.setIfInBounds_toArray, List.set_cons_zero, List.set_cons_succ, i64_w, i32_w]
            rfl
          refine pure_ (i := 11) (N := some 27) (v := ?_) (a' := ?_) #[true, true, true, true, true, true, true, true, true, true, true, true, false, false, false, false, false, false, false, false, false, false, false] rfl rfl (by kernel_rfl) (fun _ _ _ h => h) (Or.inl ⟨by rfl, ?_⟩) ?_ ?_
          rotate_left
          · intro w'
            go_simp
            with_reducible rfl
          rotate_left
          · simp only [Act.put, List.setIfInBounds_toArray, List.set_cons_zero, List.set_cons_succ, i64_w, i32_w]
            rfl
          refine pure_ (i := 12) (N := some 28) (v := ?_) (a' := ?_) #[true, true, true, true, true, true, true, true, true, true, true, true, true, false, false, false, false, false, false, false, false, false, false] rfl rfl (by kernel_rfl) (fun _ _ _ h => h) (Or.inl ⟨by rfl, ?_⟩) ?_ ?_
          rotate_left
          · intro w'
            go_simp
            with_reducible rfl
          rotate_left
          · simp only [Act.put, List.setIfInBounds_toArray, List.set_cons_zero, List.set_cons_succ, i64_w, i32_w]
            rfl
          refine pure_ (i := 13) (N := some 29) (v := ?_) (a' := ?_) #[true, true, true, true, true, true, true, true, true, true, true, true, true, true, false, false, false, false, false, false, false, false, false] rfl rfl (by kernel_rfl) (fun _ _ _ h => h) (Or.inl ⟨by rfl, ?_⟩) ?_ ?_
          rotate_left
          · intro w'
            go_simp
            with_reducible rfl
          rotate_left
          · simp only [Act.put, List.setIfInBounds_toArray, List.set_cons_zero, List.set_cons_succ, i64_w, i32_w]
            rfl
          refine pure_ (i := 15) (N := some 31) (v := ?_) (a' := ?_) #[true, true, true, true, true, true, true, true, true, true, true, true, true, true, false, true, false, false, false, false, false, false, false] rfl rfl (by kernel_rfl) (fun _ _ _ h => h) (Or.inl ⟨by rfl, ?_⟩) ?_ ?_
          rotate_left
          · intro w'
            go_simp
            with_reducible rfl
          rotate_left
          · simp only [Act.put, List.setIfInBounds_toArray, List.set_cons_zero, List.set_cons_succ, i64_w, i32_w]
            rfl
          refine pure_ (i := 16) (N := some 32) (v := ?_) (a' := ?_) #[true, true, true, true, true, true, true, true, true, true, true, true, true, true, false, true, true, false, false, false, false, false, false] rfl rfl (by kernel_rfl) (fun _ _ _ h => h) (Or.inl ⟨by rfl, ?_⟩) ?_ ?_
          rotate_left
          · intro w'
            go_simp
            with_reducible rfl
          rotate_left
          · simp only [Act.put, List.setIfInBounds_toArray, List.set_cons_zero, List.set_cons_succ, i64_w, i32_w]
            rfl
          refine pure_ (i := 17) (N := some 33) (v := ?_) (a' := ?_) #[true, true, true, true, true, true, true, true, true, true, true, true, true, true, false, true, true, true, false, false, false, false, false] rfl rfl (by kernel_rfl) (fun _ _ _ h => h) (Or.inl ⟨by rfl, ?_⟩) ?_ ?_
          rotate_left
          · intro w'
            go_simp
            with_reducible rfl
          rotate_left
          · simp only [Act.put, List.setIfInBounds_toArray, List.set_cons_zero, List.set_cons_succ, i64_w, i32_w]
            rfl
          refine take_ (i := 14) (N := some 30) (v := ?_) (a' := ?_) #[true, true, true, true, true, true, true, true, true, true, true, true, true, true, true, true, true, true, false, false, false, false, false] rfl rfl (by kernel_rfl) (fun _ _ _ h => h) (Or.inl ⟨by rfl, ?_⟩) hHeld ?_ ?_
          rotate_left
          · rintro w' ⟨s0, s1, s2, s3, s4, s5, s6⟩
            go_simp
            with_reducible rfl
          rotate_left
          · simp only [Act.put, List.setIfInBounds_toArray, List.set_cons_zero, List.set_cons_succ, i64_w, i32_w]
            rfl
          refine take_ (i := 18) (N := some 34) (v := ?_) (a' := ?_) #[true, true, true, true, true, true, true, true, true, true, true, true, true, true, true, true, true, true, true, false, false, false, false] rfl rfl (by kernel_rfl) (fun _ _ _ h => h) (Or.inl ⟨by rfl, ?_⟩) hHeld ?_ ?_
          rotate_left
          · rintro w' ⟨s0, s1, s2, s3, s4, s5, s6⟩
            go_simp
            with_reducible rfl
          rotate_left
          · simp only [Act.put, List.setIfInBounds_toArray, List.set_cons_zero, List.set_cons_succ, i64_w, i32_w]
            rfl
          refine pure_ (i := 19) (N := some 35) (v := ?_) (a' := ?_) #[true, true, true, true, true, true, true, true, true, true, true, true, true, true, true, true, true, true, true, true, false, false, false] rfl rfl (by kernel_rfl) (fun _ _ _ h => h) (Or.inl ⟨by rfl, ?_⟩) ?_ ?_
          rotate_left
          · intro w'
            go_simp
            with_reducible rfl
          rotate_left
          · simp only [Act.put, List.setIfInBounds_toArray, List.set_cons_zero, List.set_cons_succ, i64_w, i32_w]
            rfl
          refine pure_ (i := 20) (N := some 36) (v := ?_) (a' := ?_) #[true, true, true, true, true, true, true, true, true, true, true, true, true, true, true, true, true, true, true, true, true, false, false] rfl rfl (by kernel_rfl) (fun _ _ _ h => h) (Or.inl ⟨by rfl, ?_⟩) ?_ ?_
          rotate_left
          · intro w'
            go_simp
            with_reducible rfl
          rotate_left
          · simp only [Act.put, List.setIfInBounds_toArray, List.set_cons_zero, List.set_cons_succ, i64_w, i32_w]
            rfl
          refine pure_ (i := 21) (N := some 37) (v := ?_) (a' := ?_) #[true, true, true, true, true, true, true, true, true, true, true, true, true, true, true, true, true, true, true, true, true, true, false] rfl rfl (by kernel_rfl) (fun _ _ _ h => h) (Or.inl ⟨by rfl, ?_⟩) ?_ ?_
          rotate_left
          · intro w'
            go_simp
            with_reducible rfl
          rotate_left
          · simp only [Act.put, List.setIfInBounds_toArray, List.set_cons_zero, List.set_cons_succ, i64_w, i32_w]
            rfl
          refine pure_ (i := 22) (N := some 15) (v := ?_) (a' := ?_) #[true, true, true, true, true, true, true, true, true, true, true, true, true, true, true, true, true, true, true, true, true, true, true] rfl rfl (by kernel_rfl) (fun _ _ _ h => h) (Or.inl ⟨by rfl, ?_⟩) ?_ ?_
          rotate_left
          · intro w'
            go_simp
            with_reducible rfl
          rotate_left
          · simp only [Act.put, List.setIfInBounds_toArray, List.set_cons_zero, List.set_cons_succ, i64_w, i32_w]
            rfl
          refine done_ (by kernel_rfl) ?_
          go_wp2
          go_ret
          exact ⟨ret_b (by rw [HF.out]), ⟨(fun h => by rw [HF.out] at h; cases h), HD.out.hw⟩⟩
        | true =>
          cases yn with
          | true =>
            skip
            go_enter Try.func38, Try.ntmps38
            go_wp2
            refine start_ (n := 23) (S := fun w' => w'.cell? q = some (.string xk) ∧ w'.cell? ⟨q.block, q.off + 1, none⟩ = some (.string xv) ∧ w'.cell? p = some (.string yk) ∧ w'.cell? ⟨p.block, p.off + 1, none⟩ = some (.bool true) ∧ w'.cell? ⟨p.block, p.off + 2, none⟩ = some (.bool true) ∧ w'.cell? ⟨p.block, p.off + 3, none⟩ = some (.string yo) ∧ w'.cell? ⟨p.block, p.off + 4, none⟩ = some (.string yu)) (ds := []) #[false, false, false, false, false, false, false, false, false, false, false, false, false, false, false, false, false, false, false, false, false, false, false] (by kernel_rfl) rfl rfl ⟨(HAx.out.below HS.out.drew.hw).1, (HAx.out.below HS.out.drew.hw).2, (HAy.out.below HS.out.drew.hw).1, (HAy.out.below HS.out.drew.hw).2.1, (HAy.out.below HS.out.drew.hw).2.2.1, (HAy.out.below HS.out.drew.hw).2.2.2.1, (HAy.out.below HS.out.drew.hw).2.2.2.2⟩ (fun hHeld => ?_)
            have HD := Aside0.mk HS.out.drew
            generalize w.drew = wd at hHeld HD ⊢
            refine pure_ (i := 0) (N := some 16) (v := ?_) (a' := ?_) #[true, false, false, false, false, false, false, false, false, false, false, false, false, false, false, false, false, false, false, false, false, false, false] rfl rfl (by kernel_rfl) (fun _ _ _ h => h) (Or.inl ⟨by rfl, ?_⟩) ?_ ?_
            rotate_left
            · intro w'
              go_simp
              with_reducible rfl
            rotate_left
            · simp only [Act.put, List.setIfInBounds_toArray, List.set_cons_zero, List.set_cons_succ, i64_w, i32_w]
              rfl
            refine pure_ (i := 1) (N := some 17) (v := ?_) (a' := ?_) #[true, true, false, false, false, false, false, false, false, false, false, false, false, false, false, false, false, false, false, false, false, false, false] rfl rfl (by kernel_rfl) (fun _ _ _ h => h) (Or.inl ⟨by rfl, ?_⟩) ?_ ?_
            rotate_left
            · intro w'
              go_simp
              with_reducible rfl
            rotate_left
            · simp only [Act.put, List.setIfInBounds_toArray, List.set_cons_zero, List.set_cons_succ, i64_w, i32_w]
              rfl
            refine pure_ (i := 2) (N := some 18) (v := ?_) (a' := ?_) #[true, true, true, false, false, false, false, false, false, false, false, false, false, false, false, false, false, false, false, false, false, false, false] rfl rfl (by kernel_rfl) (fun _ _ _ h => h) (Or.inl ⟨by rfl, ?_⟩) ?_ ?_
            rotate_left
            · intro w'
              go_simp
              with_reducible rfl
            rotate_left
            · simp only [Act.put, List.setIfInBounds_toArray, List.set_cons_zero, List.set_cons_succ, i64_w, i32_w]
              rfl
            refine pure_ (i := 4) (N := some 20) (v := ?_) (a' := ?_) #[true, true, true, false, true, false, false, false, false, false, false, false, false, false, false, false, false, false, false, false, false, false, false] rfl rfl (by kernel_rfl) (fun _ _ _ h => h) (Or.inl ⟨by rfl, ?_⟩) ?_ ?_
            rotate_left
            · intro w'
              go_simp
              with_reducible rfl
            rotate_left
            · simp only [Act.put, List.setIfInBounds_toArray, List.set_cons_zero, List.set_cons_succ, i64_w, i32_w]
              rfl
            refine pure_ (i := 5) (N := some 21) (v := ?_) (a' := ?_) #[true, true, true, false, true, true, false, false, false, false, false, false, false, false, false, false, false, false, false, false, false, false, false] rfl rfl (by kernel_rfl) (fun _ _ _ h => h) (Or.inl ⟨by rfl, ?_⟩) ?_ ?_
            rotate_left
            · intro w'
              go_simp
              with_reducible rfl
            rotate_left
            · simp only [Act.put, List.setIfInBounds_toArray, List.set_cons_zero, List.set_cons_succ, i64_w, i32_w]
              rfl
            refine take_ (i := 3) (N := some 19) (v := ?_) (a' := ?_) #[true, true, true, true, true, true, false, false, false, false, false, false, false, false, false, false, false, false, false, false, false, false, false] rfl rfl (by kernel_rfl) (fun _ _ _ h => h) (Or.inl ⟨by rfl, ?_⟩) hHeld ?_ ?_
            rotate_left
            · rintro w' ⟨s0, s1, s2, s3, s4, s5, s6⟩
              go_simp
              with_reducible rfl
            rotate_left
            · simp only [Act.put, List.setIfInBounds_toArray, List.set_cons_zero, List.set_cons_succ, i64_w, i32_w]
              rfl
            refine pure_ (i := 6) (N := some 22) (v := ?_) (a' := ?_) #[true, true, true, true, true, true, true, false, false, false, false, false, false, false, false, false, false, false, false, false, false, false, false] rfl rfl (by kernel_rfl) (fun _ _ _ h => h) (Or.inl ⟨by rfl, ?_⟩) ?_ ?_
            rotate_left
            · intro w'
              go_simp
              with_reducible rfl
            rotate_left
            · simp only [Act.put, List.setIfInBounds_toArray, List.set_cons_zero, List.set_cons_succ, i64_w, i32_w]
              rfl
            refine pure_ (i := 7) (N := some 23) (v := ?_) (a' := ?_) #[true, true, true, true, true, true, true, true, false, false, false, false, false, false, false, false, false, false, false, false, false, false, false] rfl rfl (by kernel_rfl) (fun _ _ _ h => h) (Or.inl ⟨by rfl, ?_⟩) ?_ ?_
            rotate_left
            · intro w'
              go_simp
              with_reducible rfl
            rotate_left
            · simp only [Act.put, List.setIfInBounds_toArray, List.set_cons_zero, List.set_cons_succ, i64_w, i32_w]
              rfl
            refine pure_ (i := 8) (N := some 24) (v := ?_) (a' := ?_) #[true, true, true, true, true, true, true, true, true, false, false, false, false, false, false, false, false, false, false, false, false, false, false] rfl rfl (by kernel_rfl) (fun _ _ _ h => h) (Or.inl ⟨by rfl, ?_⟩) ?_ ?_
            rotate_left
            · intro w'
              go_simp
              with_reducible rfl
            rotate_left
            · simp only [Act.put, List.setIfInBounds_toArray, List.set_cons_zero, List.set_cons_succ, i64_w, i32_w]
              rfl
            refine pure_ (i := 9) (N := some 25) (v := ?_) (a' := ?_) #[true, true, true, true, true, true, true, true, true, true, false, false, false, false, false, false, false, false, false, false, false, false, false] rfl rfl (by kernel_rfl) (fun _ _ _ h => h) (Or.inl ⟨by rfl, ?_⟩) ?_ ?_
            rotate_left
            · intro w'
              go_simp
              with_reducible rfl
            rotate_left
            · simp only [Act.put, List.setIfInBounds_toArray, List.set_cons_zero, List.set_cons_succ, i64_w, i32_w]
              rfl
            refine pure_ (i := 10) (N := some 26) (v := ?_) (a' := ?_) #[true, true, true, true, true, true, true, true, true, true, true, false, false, false, false, false, false, false, false, false, false, false, false] rfl rfl (by kernel_rfl) (fun _ _ _ h => h) (Or.inl ⟨by rfl, ?_⟩) ?_ ?_
            rotate_left
            · intro w'
              go_simp
              with_reducible rfl
            rotate_left
            · simp only [Act.put, List.setIfInBounds_toArray, List.set_cons_zero, List.set_cons_succ, i64_w, i32_w]
              rfl
            refine pure_ (i := 11) (N := some 27) (v := ?_) (a' := ?_) #[true, true, true, true, true, true, true, true, true, true, true, true, false, false, false, false, false, false, false, false, false, false, false] rfl rfl (by kernel_rfl) (fun _ _ _ h => h) (Or.inl ⟨by rfl, ?_⟩) ?_ ?_
            rotate_left
            · intro w'
              go_simp
              with_reducible rfl
            rotate_left
            · simp only [Act.put, List.setIfInBounds_toArray, List.set_cons_zero, List.set_cons_succ, i64_w, i32_w]
              rfl
            refine pure_ (i := 12) (N := some 28) (v := ?_) (a' := ?_) #[true, true, true, true, true, true, true, true, true, true, true, true, true, false, false, false, false, false, false, false, false, false, false] rfl rfl (by kernel_rfl) (fun _ _ _ h => h) (Or.inl ⟨by rfl, ?_⟩) ?_ ?_
            rotate_left
            · intro w'
              go_simp
              with_reducible rfl
            rotate_left
            · simp only [Act.put, List.setIfInBounds_toArray, List.set_cons_zero, List.set_cons_succ, i64_w, i32_w]
              rfl
            refine pure_ (i := 13) (N := some 29) (v := ?_) (a' := ?_) #[true, true, true, true, true, true, true, true, true, true, true, true, true, true, false, false, false, false, false, false, false, false, false] rfl rfl (by kernel_rfl) (fun _ _ _ h => h) (Or.inl ⟨by rfl, ?_⟩) ?_ ?_
            rotate_left
            · intro w'
              go_simp
              with_reducible rfl
            rotate_left
            · simp only [Act.put, List.setIfInBounds_toArray, List.set_cons_zero, List.set_cons_succ, i64_w, i32_w]
              rfl
            refine pure_ (i := 15) (N := some 31) (v := ?_) (a' := ?_) #[true, true, true, true, true, true, true, true, true, true, true, true, true, true, false, true, false, false, false, false, false, false, false] rfl rfl (by kernel_rfl) (fun _ _ _ h => h) (Or.inl ⟨by rfl, ?_⟩) ?_ ?_
            rotate_left
            · intro w'
              go_simp
              with_reducible rfl
            rotate_left
            · simp only [Act.put, List.setIfInBounds_toArray, List.set_cons_zero, List.set_cons_succ, i64_w, i32_w]
              rfl
            refine pure_ (i := 16) (N := some 32) (v := ?_) (a' := ?_) #[true, true, true, true, true, true, true, true, true, true, true, true, true, true, false, true, true, false, false, false, false, false, false] rfl rfl (by kernel_rfl) (fun _ _ _ h => h) (Or.inl ⟨by rfl, ?_⟩) ?_ ?_
            rotate_left
            · intro w'
              go_simp
              with_reducible rfl
            rotate_left
            · simp only [Act.put, List.setIfInBounds_toArray, List.set_cons_zero, List.set_cons_succ, i64_w, i32_w]
              rfl
            refine pure_ (i := 17) (N := some 33) (v := ?_) (a' := ?_) #[true, true, true, true, true, true, true, true, true, true, true, true, true, true, false, true, true, true, false, false, false, false, false] rfl rfl (by kernel_rfl) (fun _ _ _ h => h) (Or.inl ⟨by rfl, ?_⟩) ?_ ?_
            rotate_left
            · intro w'
              go_simp
              with_reducible rfl
            rotate_left
            · simp only [Act.put, List.setIfInBounds_toArray, List.set_cons_zero, List.set_cons_succ, i64_w, i32_w]
              rfl
            refine take_ (i := 14) (N := some 30) (v := ?_) (a' := ?_) #[true, true, true, true, true, true, true, true, true, true, true, true, true, true, true, true, true, true, false, false, false, false, false] rfl rfl (by kernel_rfl) (fun _ _ _ h => h) (Or.inl ⟨by rfl, ?_⟩) hHeld ?_ ?_
            rotate_left
            · rintro w' ⟨s0, s1, s2, s3, s4, s5, s6⟩
              go_simp
              with_reducible rfl
            rotate_left
            · simp only [Act.put, List.setIfInBounds_toArray, List.set_cons_zero, List.set_cons_succ, i64_w, i32_w]
              rfl
            refine take_ (i := 18) (N := some 34) (v := ?_) (a' := ?_) #[true, true, true, true, true, true, true, true, true, true, true, true, true, true, true, true, true, true, true, false, false, false, false] rfl rfl (by kernel_rfl) (fun _ _ _ h => h) (Or.inl ⟨by rfl, ?_⟩) hHeld ?_ ?_
            rotate_left
            · rintro w' ⟨s0, s1, s2, s3, s4, s5, s6⟩
              go_simp
              with_reducible rfl
            rotate_left
            · simp only [Act.put, List.setIfInBounds_toArray, List.set_cons_zero, List.set_cons_succ, i64_w, i32_w]
              rfl
            refine pure_ (i := 19) (N := some 35) (v := ?_) (a' := ?_) #[true, true, true, true, true, true, true, true, true, true, true, true, true, true, true, true, true, true, true, true, false, false, false] rfl rfl (by kernel_rfl) (fun _ _ _ h => h) (Or.inl ⟨by rfl, ?_⟩) ?_ ?_
            rotate_left
            · intro w'
              go_simp
              with_reducible rfl
            rotate_left
            · simp only [Act.put, List.setIfInBounds_toArray, List.set_cons_zero, List.set_cons_succ, i64_w, i32_w]
              rfl
            refine pure_ (i := 20) (N := some 36) (v := ?_) (a' := ?_) #[true, true, true, true, true, true, true, true, true, true, true, true, true, true, true, true, true, true, true, true, true, false, false] rfl rfl (by kernel_rfl) (fun _ _ _ h => h) (Or.inl ⟨by rfl, ?_⟩) ?_ ?_
            rotate_left
            · intro w'
              go_simp
              with_reducible rfl
            rotate_left
            · simp only [Act.put, List.setIfInBounds_toArray, List.set_cons_zero, List.set_cons_succ, i64_w, i32_w]
              rfl
            refine pure_ (i := 21) (N := some 37) (v := ?_) (a' := ?_) #[true, true, true, true, true, true, true, true, true, true, true, true, true, true, true, true, true, true, true, true, true, true, false] rfl rfl (by kernel_rfl) (fun _ _ _ h => h) (Or.inl ⟨by rfl, ?_⟩) ?_ ?_
            rotate_left
            · intro w'
              go_simp
              with_reducible rfl
            rotate_left
            · simp only [Act.put, List.setIfInBounds_toArray, List.set_cons_zero, List.set_cons_succ, i64_w, i32_w]
              rfl
            refine pure_ (i := 22) (N := some 15) (v := ?_) (a' := ?_) #[true, true, true, true, true, true, true, true, true, true, true, true, true, true, true, true, true, true, true, true, true, true, true] rfl rfl (by kernel_rfl) (fun _ _ _ h => h) (Or.inl ⟨by rfl, ?_⟩) ?_ ?_
            rotate_left
            · intro w'
              go_simp
              with_reducible rfl
            rotate_left
            · simp only [Act.put, List.setIfInBounds_toArray, List.set_cons_zero, List.set_cons_succ, i64_w, i32_w]
              rfl
            refine done_ (by kernel_rfl) ?_
            have hY := HAy.out.below HD.out.hw
            have hy0 : wd.cell? p = some (.string yk) := hY.1
            have hy1 : wd.cell? ⟨p.block, p.off + 1, none⟩ = some (.bool true) := hY.2.1
            have hy2 : wd.cell? ⟨p.block, p.off + 2, none⟩ = some (.bool true) := hY.2.2.1
            have hy3 : wd.cell? ⟨p.block, p.off + 3, none⟩ = some (.string yo) := hY.2.2.2.1
            have hy4 : wd.cell? ⟨p.block, p.off + 4, none⟩ = some (.string yu) := hY.2.2.2.2
            clear hY
            go_wp2
            clear hy0 hy1 hy2 hy3 hy4 HS
            have HS := HD
            clear HD
            refine start_ (n := 13) (S := fun w' => w'.cell? ⟨B, 0, none⟩ = some v ∧ w'.cell? p = some (.string yk) ∧ w'.cell? ⟨p.block, p.off + 1, none⟩ = some (.bool true) ∧ w'.cell? ⟨p.block, p.off + 2, none⟩ = some (.bool true) ∧ w'.cell? ⟨p.block, p.off + 3, none⟩ = some (.string yo) ∧ w'.cell? ⟨p.block, p.off + 4, none⟩ = some (.string yu)) (ds := [12]) #[false, false, false, false, false, false, false, false, false, false, false, false, false] (by kernel_rfl) rfl rfl ⟨HS.out.drew.cell, (HAy.out.below HS.out.drew.hw).1, (HAy.out.below HS.out.drew.hw).2.1, (HAy.out.below HS.out.drew.hw).2.2.1, (HAy.out.below HS.out.drew.hw).2.2.2.1, (HAy.out.below HS.out.drew.hw).2.2.2.2⟩ (fun hHeld => ?_)
            have HD := Aside0.mk HS.out.drew
            generalize wd.drew = wd at hHeld HD ⊢
            refine pure_ (i := 1) (N := some 44) (v := ?_) (a' := ?_) #[false, true, false, false, false, false, false, false, false, false, false, false, false] rfl rfl (by kernel_rfl) (fun _ _ _ h => h) (Or.inl ⟨by rfl, ?_⟩) ?_ ?_
            rotate_left
            · intro w'
              go_simp
              with_reducible rfl
            rotate_left
            · simp only [Act.put, List.setIfInBounds_toArray, List.set_cons_zero, List.set_cons_succ, i64_w, i32_w]
              rfl
            refine pure_ (i := 2) (N := some 45) (v := ?_) (a' := ?_) #[false, true, true, false, false, false, false, false, false, false, false, false, false] rfl rfl (by kernel_rfl) (fun _ _ _ h => h) (Or.inl ⟨by rfl, ?_⟩) ?_ ?_
            rotate_left
            · intro w'
              go_simp
              with_reducible rfl
            rotate_left
            · simp only [Act.put, List.setIfInBounds_toArray, List.set_cons_zero, List.set_cons_succ, i64_w, i32_w]
              rfl
            refine pure_ (i := 3) (N := some 46) (v := ?_) (a' := ?_) #[false, true, true, true, false, false, false, false, false, false, false, false, false] rfl rfl (by kernel_rfl) (fun _ _ _ h => h) (Or.inl ⟨by rfl, ?_⟩) ?_ ?_
            rotate_left
            · intro w'
              go_simp
              with_reducible rfl
            rotate_left
            · simp only [Act.put, List.setIfInBounds_toArray, List.set_cons_zero, List.set_cons_succ, i64_w, i32_w]
              rfl
            refine pure_ (i := 5) (N := some 48) (v := ?_) (a' := ?_) #[false, true, true, true, false, true, false, false, false, false, false, false, false] rfl rfl (by kernel_rfl) (fun _ _ _ h => h) (Or.inl ⟨by rfl, ?_⟩) ?_ ?_
            rotate_left
            · intro w'
              go_simp
              with_reducible rfl
            rotate_left
            · simp only [Act.put, List.setIfInBounds_toArray, List.set_cons_zero, List.set_cons_succ, i64_w, i32_w]
              rfl
            refine pure_ (i := 6) (N := some 49) (v := ?_) (a' := ?_) #[false, true, true, true, false, true, true, false, false, false, false, false, false] rfl rfl (by kernel_rfl) (fun _ _ _ h => h) (Or.inl ⟨by rfl, ?_⟩) ?_ ?_
            rotate_left
            · intro w'
              go_simp
              with_reducible rfl
            rotate_left
            · simp only [Act.put, List.setIfInBounds_toArray, List.set_cons_zero, List.set_cons_succ, i64_w, i32_w]
              rfl
            refine pure_ (i := 7) (N := some 50) (v := ?_) (a' := ?_) #[false, true, true, true, false, true, true, true, false, false, false, false, false] rfl rfl (by kernel_rfl) (fun _ _ _ h => h) (Or.inl ⟨by rfl, ?_⟩) ?_ ?_
            rotate_left
            · intro w'
              go_simp
              with_reducible rfl
            rotate_left
            · simp only [Act.put, List.setIfInBounds_toArray, List.set_cons_zero, List.set_cons_succ, i64_w, i32_w]
              rfl
            refine take_ (i := 0) (N := some 43) (v := ?_) (a' := ?_) #[true, true, true, true, false, true, true, true, false, false, false, false, false] rfl rfl (by kernel_rfl) (fun _ _ _ h => h) (Or.inl ⟨by rfl, ?_⟩) hHeld ?_ ?_
            rotate_left
            · rintro w' ⟨s0, s1, s2, s3, s4, s5⟩
              go_simp
              with_reducible rfl
            rotate_left
            · simp only [Act.put, List.setIfInBounds_toArray, List.set_cons_zero, List.set_cons_succ, i64_w, i32_w]
              rfl
            refine take_ (i := 4) (N := some 47) (v := ?_) (a' := ?_) #[true, true, true, true, true, true, true, true, false, false, false, false, false] rfl rfl (by kernel_rfl) (fun _ _ _ h => h) (Or.inl ⟨by rfl, ?_⟩) hHeld ?_ ?_
            rotate_left
            · rintro w' ⟨s0, s1, s2, s3, s4, s5⟩
              go_simp
              with_reducible rfl
            rotate_left
            · simp only [Act.put, List.setIfInBounds_toArray, List.set_cons_zero, List.set_cons_succ, i64_w, i32_w]
              rfl
            refine take_ (i := 8) (N := some 51) (v := ?_) (a' := ?_) #[true, true, true, true, true, true, true, true, true, false, false, false, false] rfl rfl (by kernel_rfl) (fun _ _ _ h => h) (Or.inl ⟨by rfl, ?_⟩) hHeld ?_ ?_
            rotate_left
            · rintro w' ⟨s0, s1, s2, s3, s4, s5⟩
              go_simp
              with_reducible rfl
            rotate_left
            · simp only [Act.put, List.setIfInBounds_toArray, List.set_cons_zero, List.set_cons_succ, i64_w, i32_w]
              rfl
            refine pure_ (i := 9) (N := some 52) (v := ?_) (a' := ?_) #[true, true, true, true, true, true, true, true, true, true, false, false, false] rfl rfl (by kernel_rfl) (fun _ _ _ h => h) (Or.inl ⟨by rfl, ?_⟩) ?_ ?_
            rotate_left
            · intro w'
              go_simp
              with_reducible rfl
            rotate_left
            · simp only [Act.put, List.setIfInBounds_toArray, List.set_cons_zero, List.set_cons_succ, i64_w, i32_w]
              rfl
            refine one_ (i := 10) (N := some 53) #[true, true, true, true, true, true, true, true, true, true, true, false, false] rfl rfl (by kernel_rfl) (by decide) (fun K hK => ?_)
            refine value_ (w1 := ?_) (v := ?_) (by rfl) rfl ?_ ?_
            rotate_left 2
            · go_simp
              constructor
              · rfl
              · rfl
            refine hK.out _ _ ⟨(HD.out.alloc _).cell, (HAy.out.below (HD.out.alloc _).hw).1, (HAy.out.below (HD.out.alloc _).hw).2.1, (HAy.out.below (HD.out.alloc _).hw).2.2.1, (HAy.out.below (HD.out.alloc _).hw).2.2.2.1, (HAy.out.below (HD.out.alloc _).hw).2.2.2.2⟩ (fun hHeld => ?_)
            clear hK K
            refine norm_ (a' := ?_) ?_ ?_
            rotate_left
            · show Act.put _ (some 53) _ = _
              simp only [Act.put, List.setIfInBounds_toArray, List.set_cons_zero, List.set_cons_succ, i64_w, i32_w]
              rfl
            refine one_ (i := 11) (N := some 54) #[true, true, true, true, true, true, true, true, true, true, true, true, false] rfl rfl (by kernel_rfl) (by decide) (fun K hK => ?_)
            refine Kd.R_append_step k59 (w0 := w0) w0.heap.size (by rfl) (.tmp 43) (.tmp 53) 22 59 (.agg #[(.string ⟨#[]⟩), (.string ⟨#[]⟩)]) 32 rfl Try.underlying22 info59 rfl (by decide) (by omega) v l (⟨yk, yu⟩ : S59) [.string yk, .string yu] (fun k => k ≠ B) (fun _ => False) rfl rfl ?aP9 (fun _ hk => hk.elim) ?aF9 ?aO9 ?aB9 ?aS9 ?aL9 ?_
            (case aP9 => exact k59_mkM _ _ _ (⟨yk, yu⟩ : S59))
            (case aF9 => exact HD.out.fresh)
            (case aO9 => exact HD.out.hR)
            (case aB9 => exact HD.out.hw)
            (case aS9 => exact HD.out.hw.size)
            (case aL9 => have := HLEN.out; omega)
            intro v1 w4 ho hb hg hat
            obtain ⟨A1, c1, hv1⟩ := Kd.R_slice ho
            rw [List.length_append, List.length_singleton] at hv1
            subst hv1
            have hB4 := HD.out.grown hg
            have HO4 := Aside0.mk ho
            have HB4 := Aside0.mk hb
            have HK4 := Aside0.mk hB4
            have hf4 := blk_frozen hB4 0
            clear ho hb hg hat hB4
            refine hK.out _ _ ⟨((blk_cell HK4.out 0).trans rfl), (HAy.out.below HB4.out).1, (HAy.out.below HB4.out).2.1, (HAy.out.below HB4.out).2.2.1, (HAy.out.below HB4.out).2.2.2.1, (HAy.out.below HB4.out).2.2.2.2⟩ (fun hHeld => ?_)
            clear hK K
            refine norm_ (a' := ?_) ?_ ?_
            rotate_left
            · show Act.put _ (some 54) _ = _
              simp only [Act.put, List.setIfInBounds_toArray, List.set_cons_zero, List.set_cons_succ, i64_w, i32_w]
              rfl
            refine last_ (i := 12) (N := none) #[true, true, true, true, true, true, true, true, true, true, true, true, true] rfl rfl (by kernel_rfl) (by decide) (fun K hK => ?_)
            have hc4 : w4.cell? ⟨B, 0, none⟩ = some v := (blk_cell HK4.out 0).trans rfl
            refine skip_ (w1 := ?_) (by rfl) rfl ?_ ?_
            rotate_left
            · go_simp
              rfl
            refine hK.out _ _ ?_
            clear hK K
            refine done_ (by kernel_rfl) ?_
            go_wp2
            go_ret
            exact ⟨ret_b (by rw [HF.out]), ⟨(fun _ => ⟨_, by rw [MergeP.made_some (z := (⟨yk, yu⟩ : S59)) rfl, HLL.out]; exact delta_beside.Out_item.put HS.out HK4.out HO4.out HB4.out⟩), (delta_beside.Out_item.put HS.out HK4.out HO4.out HB4.out).hw⟩⟩
          | false =>
            skip
            go_enter Try.func38, Try.ntmps38
            go_wp2
            refine start_ (n := 23) (S := fun w' => w'.cell? q = some (.string xk) ∧ w'.cell? ⟨q.block, q.off + 1, none⟩ = some (.string xv) ∧ w'.cell? p = some (.string yk) ∧ w'.cell? ⟨p.block, p.off + 1, none⟩ = some (.bool true) ∧ w'.cell? ⟨p.block, p.off + 2, none⟩ = some (.bool false) ∧ w'.cell? ⟨p.block, p.off + 3, none⟩ = some (.string yo) ∧ w'.cell? ⟨p.block, p.off + 4, none⟩ = some (.string yu)) (ds := []) #[false, false, false, false, false, false, false, false, false, false, false, false, false, false, false, false, false, false, false, false, false, false, false] (by kernel_rfl) rfl rfl ⟨(HAx.out.below HS.out.drew.hw).1, (HAx.out.below HS.out.drew.hw).2, (HAy.out.below HS.out.drew.hw).1, (HAy.out.below HS.out.drew.hw).2.1, (HAy.out.below HS.out.drew.hw).2.2.1, (HAy.out.below HS.out.drew.hw).2.2.2.1, (HAy.out.below HS.out.drew.hw).2.2.2.2⟩ (fun hHeld => ?_)
            have HD := Aside0.mk HS.out.drew
            generalize w.drew = wd at hHeld HD ⊢
            refine pure_ (i := 0) (N := some 16) (v := ?_) (a' := ?_) #[true, false, false, false, false, false, false, false, false, false, false, false, false, false, false, false, false, false, false, false, false, false, false] rfl rfl (by kernel_rfl) (fun _ _ _ h => h) (Or.inl ⟨by rfl, ?_⟩) ?_ ?_
            rotate_left
            · intro w'
              go_simp
              with_reducible rfl
            rotate_left
            · simp only [Act.put, List.setIfInBounds_toArray, List.set_cons_zero, List.set_cons_succ, i64_w, i32_w]
              rfl
            refine pure_ (i := 1) (N := some 17) (v := ?_) (a' := ?_) #[true, true, false, false, false, false, false, false, false, false, false, false, false, false, false, false, false, false, false, false, false, false, false] rfl rfl (by kernel_rfl) (fun _ _ _ h => h) (Or.inl ⟨by rfl, ?_⟩) ?_ ?_
            rotate_left
            · intro w'
              go_simp
              with_reducible rfl
            rotate_left
            · simp only [Act.put, List.setIfInBounds_toArray, List.set_cons_zero, List.set_cons_succ, i64_w, i32_w]
              rfl
            refine pure_ (i := 2) (N := some 18) (v := ?_) (a' := ?_) #[true, true, true, false, false, false, false, false, false, false, false, false, false, false, false, false, false, false, false, false, false, false, false] rfl rfl (by kernel_rfl) (fun _ _ _ h => h) (Or.inl ⟨by rfl, ?_⟩) ?_ ?_
            rotate_left
            · intro w'
              go_simp
              with_reducible rfl
            rotate_left
            · simp only [Act.put, List.setIfInBounds_toArray, List.set_cons_zero, List.set_cons_succ, i64_w, i32_w]
              rfl
            refine pure_ (i := 4) (N := some 20) (v := ?_) (a' := ?_) #[true, true, true, false, true, false, false, false, false, false, false, false, false, false, false, false, false, false, false, false, false, false, false] rfl rfl (by kernel_rfl) (fun _ _ _ h => h) (Or.inl ⟨by rfl, ?_⟩) ?_ ?_
            rotate_left
            · intro w'
              go_simp
              with_reducible rfl
            rotate_left
            · simp only [Act.put, List.setIfInBounds_toArray, List.set_cons_zero, List.set_cons_succ, i64_w, i32_w]
              rfl
            refine pure_ (i := 5) (N := some 21) (v := ?_) (a' := ?_) #[true, true, true, false, true, true, false, false, false, false, false, false, false, false, false, false, false, false, false, false, false, false, false] rfl rfl (by kernel_rfl) (fun _ _ _ h => h) (Or.inl ⟨by rfl, ?_⟩) ?_ ?_
            rotate_left
            · intro w'
              go_simp
              with_reducible rfl
            rotate_left
            · simp only [Act.put, List.setIfInBounds_toArray, List.set_cons_zero, List.set_cons_succ, i64_w, i32_w]
              rfl
            refine take_ (i := 3) (N := some 19) (v := ?_) (a' := ?_) #[true, true, true, true, true, true, false, false, false, false, false, false, false, false, false, false, false, false, false, false, false, false, false] rfl rfl (by kernel_rfl) (fun _ _ _ h => h) (Or.inl ⟨by rfl, ?_⟩) hHeld ?_ ?_
            rotate_left
            · rintro w' ⟨s0, s1, s2, s3, s4, s5, s6⟩
              go_simp
              with_reducible rfl
            rotate_left
            · simp only [Act.put, List.setIfInBounds_toArray, List.set_cons_zero, List.set_cons_succ, i64_w, i32_w]
              rfl
            refine pure_ (i := 6) (N := some 22) (v := ?_) (a' := ?_) #[true, true, true, true, true, true, true, false, false, false, false, false, false, false, false, false, false, false, false, false, false, false, false] rfl rfl (by kernel_rfl) (fun _ _ _ h => h) (Or.inl ⟨by rfl, ?_⟩) ?_ ?_
            rotate_left
            · intro w'
              go_simp
              with_reducible rfl
            rotate_left
            · simp only [Act.put, List.setIfInBounds_toArray, List.set_cons_zero, List.set_cons_succ, i64_w, i32_w]
              rfl
            refine pure_ (i := 7) (N := some 23) (v := ?_) (a' := ?_) #[true, true, true, true, true, true, true, true, false, false, false, false, false, false, false, false, false, false, false, false, false, false, false] rfl rfl (by kernel_rfl) (fun _ _ _ h => h) (Or.inl ⟨by rfl, ?_⟩) ?_ ?_
            rotate_left
            · intro w'
              go_simp
              with_reducible rfl
            rotate_left
            · simp only [Act.put, List.setIfInBounds_toArray, List.set_cons_zero, List.set_cons_succ, i64_w, i32_w]
              rfl
            refine pure_ (i := 8) (N := some 24) (v := ?_) (a' := ?_) #[true, true, true, true, true, true, true, true, true, false, false, false, false, false, false, false, false, false, false, false, false, false, false] rfl rfl (by kernel_rfl) (fun _ _ _ h => h) (Or.inl ⟨by rfl, ?_⟩) ?_ ?_
            rotate_left
            · intro w'
              go_simp
              with_reducible rfl
            rotate_left
            · simp only [Act.put, List.setIfInBounds_toArray, List.set_cons_zero, List.set_cons_succ, i64_w, i32_w]
              rfl
            refine pure_ (i := 9) (N := some 25) (v := ?_) (a' := ?_) #[true, true, true, true, true, true, true, true, true, true, false, false, false, false, false, false, false, false, false, false, false, false, false] rfl rfl (by kernel_rfl) (fun _ _ _ h => h) (Or.inl ⟨by rfl, ?_⟩) ?_ ?_
            rotate_left
            · intro w'
              go_simp
              with_reducible rfl
            rotate_left
            · simp only [Act.put, List.setIfInBounds_toArray, List.set_cons_zero, List.set_cons_succ, i64_w, i32_w]
              rfl
            refine pure_ (i := 10) (N := some 26) (v := ?_) (a' := ?_) #[true, true, true, true, true, true, true, true, true, true, true, false, false, false, false, false, false, false, false, false, false, false, false] rfl rfl (by kernel_rfl) (fun _ _ _ h => h) (Or.inl ⟨by rfl, ?_⟩) ?_ ?_
            rotate_left
            · intro w'
              go_simp
              with_reducible rfl
            rotate_left
            · simp only [Act.put, List.setIfInBounds_toArray, List.set_cons_zero, List.set_cons_succ, i64_w, i32_w]
              rfl
            refine pure_ (i := 11) (N := some 27) (v := ?_) (a' := ?_) #[true, true, true, true, true, true, true, true, true, true, true, true, false, false, false, false, false, false, false, false, false, false, false] rfl rfl (by kernel_rfl) (fun _ _ _ h => h) (Or.inl ⟨by rfl, ?_⟩) ?_ ?_
            rotate_left
            · intro w'
              go_simp
              with_reducible rfl
            rotate_left
            · simp only [Act.put, List.setIfInBounds_toArray, List.set_cons_zero, List.set_cons_succ, i64_w, i32_w]
              rfl
            refine pure_ (i := 12) (N := some 28) (v := ?_) (a' := ?_) #[true, true, true, true, true, true, true, true, true, true, true, true, true, false, false, false, false, false, false, false, false, false, false] rfl rfl (by kernel_rfl) (fun _ _ _ h => h) (Or.inl ⟨by rfl, ?_⟩) ?_ ?_
            rotate_left
            · intro w'
              go_simp
              with_reducible rfl
            rotate_left
            · simp only [Act.put, List.setIfInBounds_toArray, List.set_cons_zero, List.set_cons_succ, i64_w, i32_w]
              rfl
            refine pure_ (i := 13) (N := some 29) (v := ?_) (a' := ?_) #[true, true, true, true, true, true, true, true, true, true, true, true, true, true, false, false, false, false, false, false, false, false, false] rfl rfl (by kernel_rfl) (fun _ _ _ h => h) (Or.inl ⟨by rfl, ?_⟩) ?_ ?_
            rotate_left
            · intro w'
              go_simp
              with_reducible rfl
            rotate_left
            · simp only [Act.put, List.setIfInBounds_toArray, List.set_cons_zero, List.set_cons_succ, i64_w, i32_w]
              rfl
            refine pure_ (i := 15) (N := some 31) (v := ?_) (a' := ?_) #[true, true, true, true, true, true, true, true, true, true, true, true, true, true, false, true, false, false, false, false, false, false, false] rfl rfl (by kernel_rfl) (fun _ _ _ h => h) (Or.inl ⟨by rfl, ?_⟩) ?_ ?_
            rotate_left
            · intro w'
              go_simp
              with_reducible rfl
            rotate_left
            · simp only [Act.put, List.setIfInBounds_toArray, List.set_cons_zero, List.set_cons_succ, i64_w, i32_w]
              rfl
            refine pure_ (i := 16) (N := some 32) (v := ?_) (a' := ?_) #[true, true, true, true, true, true, true, true, true, true, true, true, true, true, false, true, true, false, false, false, false, false, false] rfl rfl (by kernel_rfl) (fun _ _ _ h => h) (Or.inl ⟨by rfl, ?_⟩) ?_ ?_
            rotate_left
            · intro w'
              go_simp
              with_reducible rfl
            rotate_left
            · simp only [Act.put, List.setIfInBounds_toArray, List.set_cons_zero, List.set_cons_succ, i64_w, i32_w]
              rfl
            refine pure_ (i := 17) (N := some 33) (v := ?_) (a' := ?_) #[true, true, true, true, true, true, true, true, true, true, true, true, true, true, false, true, true, true, false, false, false, false, false] rfl rfl (by kernel_rfl) (fun _ _ _ h => h) (Or.inl ⟨by rfl, ?_⟩) ?_ ?_
            rotate_left
            · intro w'
              go_simp
              with_reducible rfl
            rotate_left
            · simp only [Act.put, List.setIfInBounds_toArray, List.set_cons_zero, List.set_cons_succ, i64_w, i32_w]
              rfl
            refine take_ (i := 14) (N := some 30) (v := ?_) (a' := ?_) #[true, true, true, true, true, true, true, true, true, true, true, true, true, true, true, true, true, true, false, false, false, false, false] rfl rfl (by kernel_rfl) (fun _ _ _ h => h) (Or.inl ⟨by rfl, ?_⟩) hHeld ?_ ?_
            rotate_left
            · rintro w' ⟨s0, s1, s2, s3, s4, s5, s6⟩
              go_simp
              with_reducible rfl
            rotate_left
            · simp only [Act.put, List.setIfInBounds_toArray, List.set_cons_zero, List.set_cons_succ, i64_w, i32_w]
              rfl
            refine take_ (i := 18) (N := some 34) (v := ?_) (a' := ?_) #[true, true, true, true, true, true, true, true, true, true, true, true, true, true, true, true, true, true, true, false, false, false, false] rfl rfl (by kernel_rfl) (fun _ _ _ h => h) (Or.inl ⟨by rfl, ?_⟩) hHeld ?_ ?_
            rotate_left
            · rintro w' ⟨s0, s1, s2, s3, s4, s5, s6⟩
              go_simp
              with_reducible rfl
            rotate_left
            · simp only [Act.put, List.setIfInBounds_toArray, List.set_cons_zero, List.set_cons_succ, i64_w, i32_w]
              rfl
            refine pure_ (i := 19) (N := some 35) (v := ?_) (a' := ?_) #[true, true, true, true, true, true, true, true, true, true, true, true, true, true, true, true, true, true, true, true, false, false, false] rfl rfl (by kernel_rfl) (fun _ _ _ h => h) (Or.inl ⟨by rfl, ?_⟩) ?_ ?_
            rotate_left
            · intro w'
              go_simp
              with_reducible rfl
            rotate_left
            · simp only [Act.put, List.setIfInBounds_toArray, List.set_cons_zero, List.set_cons_succ, i64_w, i32_w]
              rfl
            refine pure_ (i := 20) (N := some 36) (v := ?_) (a' := ?_) #[true, true, true, true, true, true, true, true, true, true, true, true, true, true, true, true, true, true, true, true, true, false, false] rfl rfl (by kernel_rfl) (fun _ _ _ h => h) (Or.inl ⟨by rfl, ?_⟩) ?_ ?_
            rotate_left
            · intro w'
              go_simp
              with_reducible rfl
            rotate_left
            · simp only [Act.put, List.setIfInBounds_toArray, List.set_cons_zero, List.set_cons_succ, i64_w, i32_w]
              rfl
            refine pure_ (i := 21) (N := some 37) (v := ?_) (a' := ?_) #[true, true, true, true, true, true, true, true, true, true, true, true, true, true, true, true, true, true, true, true, true, true, false] rfl rfl (by kernel_rfl) (fun _ _ _ h => h) (Or.inl ⟨by rfl, ?_⟩) ?_ ?_
            rotate_left
            · intro w'
              go_simp
              with_reducible rfl
            rotate_left
            · simp only [Act.put, List.setIfInBounds_toArray, List.set_cons_zero, List.set_cons_succ, i64_w, i32_w]
              rfl
            refine pure_ (i := 22) (N := some 15) (v := ?_) (a' := ?_) #[true, true, true, true, true, true, true, true, true, true, true, true, true, true, true, true, true, true, true, true, true, true, true] rfl rfl (by kernel_rfl) (fun _ _ _ h => h) (Or.inl ⟨by rfl, ?_⟩) ?_ ?_
            rotate_left
            · intro w'
              go_simp
              with_reducible rfl
            rotate_left
            · simp only [Act.put, List.setIfInBounds_toArray, List.set_cons_zero, List.set_cons_succ, i64_w, i32_w]
              rfl
            refine done_ (by kernel_rfl) ?_
            have hY := HAy.out.below HD.out.hw
            have hy0 : wd.cell? p = some (.string yk) := hY.1
            have hy1 : wd.cell? ⟨p.block, p.off + 1, none⟩ = some (.bool true) := hY.2.1
            have hy2 : wd.cell? ⟨p.block, p.off + 2, none⟩ = some (.bool false) := hY.2.2.1
            have hy3 : wd.cell? ⟨p.block, p.off + 3, none⟩ = some (.string yo) := hY.2.2.2.1
            have hy4 : wd.cell? ⟨p.block, p.off + 4, none⟩ = some (.string yu) := hY.2.2.2.2
            clear hY
            go_wp2
            go_ret
            exact ⟨ret_b (by rw [HF.out]), ⟨(fun _ => ⟨_, by rw [MergeP.made_none rfl, HLL.out]; exact HD.out⟩), HD.out.hw⟩⟩
/-- delta.Apply. -/
def delta_Apply.f (l0 : List S59) (l1 : List S61) : Option (List S59 × Int) :=
  if l0.length ≤ 1000000000 ∧ l1.length ≤ 1000000000 then some (if ((delta_rises.sortB_item l0 && delta_rises.neB_item l0) && (delta_Check.all l1)) = true then (if (MergeP.pairs (·.f0) (·.f0) l0 l1).all (fun p => delta_Apply.fitA p.1 p.2) = true then (MergeP.made delta_Apply.applyF (MergeP.pairs (·.f0) (·.f0) l0 l1), 0) else ([], 180)) else ([], 21)) else none
theorem delta_Apply.went (A0 : Option Addr) (c0 : Nat) (l0 : List S59) (A1 : Option Addr) (c1 : Nat) (l1 : List S61) (w : World) (hr0 : Kd.C k59 w A0 l0.length l0) (hc0 : l0.length ≤ c0) (hr1 : Kd.C k61 w A1 l1.length l1) (hc1 : l1.length ≤ c1) (hl : l0.length ≤ 1000000000 ∧ l1.length ≤ 1000000000) (W : World) (hb : Below w.heap.size w W) :
    Calls Try.prog 36 #[.slice A0 l0.length c0, .slice A1 l1.length c1, .func (.func 31) #[] #[], .func (.func 37) #[] #[], .func (.func 38) #[] #[.pointer (some ⟨W.heap.size, 0, none⟩)]] (W.alloc (.cells #[.slice none 0 0] 22)) fun e w' =>
      e = .returned (.bool ((MergeP.pairs (·.f0) (·.f0) l0 l1).all fun p => delta_Apply.fitA p.1 p.2)) ∧ (((MergeP.pairs (·.f0) (·.f0) l0 l1).all fun p => delta_Apply.fitA p.1 p.2) = true → ∃ v, delta_beside.Out_item w w' W.heap.size v (MergeP.made delta_Apply.applyF (MergeP.pairs (·.f0) (·.f0) l0 l1))) ∧ Below w.heap.size w w' := by
  have eg := enters_of (P := Try.prog) Try.func38 (by kernel_rfl) rfl
  refine delta_beside.all_item_change 38 #[.pointer (some ⟨W.heap.size, 0, none⟩)] (fun args w => eg args w) delta_Apply.fitA (fun dn W' => ∃ v, delta_beside.Out_item w W' W.heap.size v (MergeP.made delta_Apply.applyF dn)) w _ A0 c0 l0 hr0 hc0 A1 c1 l1 hr1 hc1 (by omega) ?_ ?_ ?_ ?_
  · exact ⟨_, blk_new W _, Kd.R_nil _ _ _ _ _, hb.alloc hb.size _, hb.size⟩
  · rintro dn W1 W2 ⟨v, h⟩ h2
    exact ⟨v, h.below h2⟩
  · rintro dn W1 ⟨v, h⟩
    exact h.hw
  · intro W1 dn x y vx vy hI hn hx hy hne
    exact delta_Apply.both w W.heap.size dn x y vx vy W1 hI (by omega) hx hy hne
set_option maxHeartbeats 8000000 in
set_option maxRecDepth 100000 in
theorem delta_Apply.calls (A0 : Option Addr) (c0 : Nat) (l0 : List S59) (A1 : Option Addr) (c1 : Nat) (l1 : List S61) (r1 : List S59) (r2 : Int) (w : World) (hr0 : Kd.C k59 w A0 l0.length l0) (hc0 : l0.length ≤ c0) (hr1 : Kd.C k61 w A1 l1.length l1) (hc1 : l1.length ≤ c1) (h : delta_Apply.f l0 l1 = some (r1, r2)) :
    Calls Try.prog 14 #[.slice A0 l0.length c0, .slice A1 l1.length c1] w fun e w' => ∃ v0_ : Value, e = .returned (.tuple #[v0_, .int .i64 r2]) ∧ Kd.R k59 59 w' w.heap.size (fun _ => True) v0_ r1 ∧ Below w.heap.size w w' := by
  unfold delta_Apply.f at h
  by_cases hl : l0.length ≤ 1000000000 ∧ l1.length ≤ 1000000000
  · rw [if_pos hl] at h
    have hrr := Option.some.inj h
    clear h
    have HBES := Aside0.mk (delta_Apply.went A0 c0 l0 A1 c1 l1 w hr0 hc0 hr1 hc1 hl)
    have HR0 := Aside0.mk hr0
    have HC0 := Aside0.mk hc0
    have HR1 := Aside0.mk hr1
    have HC1 := Aside0.mk hc1
    have HL0 := Aside0.mk hl.1
    have HL1 := Aside0.mk hl.2
    have HB0 := Aside0.mk (Below.refl w.heap.size w)
    clear hr0 hc0 hr1 hc1 hl
    obtain ⟨q0, hq0⟩ : ∃ q : Bool, (delta_rises.sortB_item l0 && delta_rises.neB_item l0) = q := ⟨_, rfl⟩
    obtain ⟨q1, hq1⟩ : ∃ q : Bool, (delta_Check.all l1) = q := ⟨_, rfl⟩
    have HQ0 := Aside0.mk hq0
    have HQ1 := Aside0.mk hq1
    rw [hq0, hq1] at hrr
    clear hq0 hq1
    have HT0 := Aside0.mk (show ∀ W, Below w.heap.size w W → Calls Try.prog 30 #[.slice A0 l0.length c0, .func (.func 31) #[] #[]] W fun e w' => e = .returned (.bool q0) ∧ Below W.heap.size W w' from fun W hb => by rw [← HQ0.out]; exact delta_rises.all_item A0 c0 l0 W (Kd.C_below HR0.out hb) HC0.out HL0.out)
    have HT1 := Aside0.mk (show ∀ W, Below w.heap.size w W → Calls Try.prog 19 #[.slice A1 l1.length c1] W fun e w' => e = .returned (.int .i64 (if q1 = true then 0 else 21)) ∧ Below W.heap.size W w' from fun W hb => delta_Check.all_calls A1 c1 l1 W (Kd.C_below HR1.out hb) HC1.out HL1.out q1 HQ1.out)
    clear HR0 HC0 HR1 HC1 HL0 HL1 HQ0 HQ1
    generalize ((MergeP.pairs (·.f0) (·.f0) l0 l1).all fun p => delta_Apply.fitA p.1 p.2) = R at *
    generalize MergeP.made delta_Apply.applyF (MergeP.pairs (·.f0) (·.f0) l0 l1) = M at *
    cases q0 with
    | false =>
      obtain ⟨rfl, rfl⟩ := Prod.mk.inj hrr
      clear hrr
      go_enter Try.func14, Try.ntmps14
      go_wp2_with (go_at_call 30; (with_reducible refine (HT0.out _ HB0.out).mono ?_); rintro e w1 ⟨rfl, hb⟩; have HB1 := Aside0.mk (below_step HB0.out hb); clear hb)
      go_ret2
      exact ⟨_, rfl, Kd.R_nil _ _ _ _ _, HB1.out⟩
    | true =>
      cases q1 with
      | false =>
        obtain ⟨rfl, rfl⟩ := Prod.mk.inj hrr
        clear hrr
        go_enter Try.func14, Try.ntmps14
        go_wp2_with (first | (go_at_call 30; (with_reducible refine (HT0.out _ HB0.out).mono ?_); rintro e w1 ⟨rfl, hb⟩; have HB1 := Aside0.mk (below_step HB0.out hb); clear hb) | (go_at_call 19; (with_reducible refine (HT1.out _ HB1.out).mono ?_); rintro e w2 ⟨rfl, hb⟩; have HB2 := Aside0.mk (below_step HB1.out hb); clear hb))
        go_ret2
        exact ⟨_, rfl, Kd.R_nil _ _ _ _ _, HB2.out⟩
      | true =>
        cases R with
        | false =>
          obtain ⟨rfl, rfl⟩ := Prod.mk.inj hrr
          clear hrr
          go_enter Try.func14, Try.ntmps14
          go_wp2_with (first | (go_at_call 30; (with_reducible refine (HT0.out _ HB0.out).mono ?_); rintro e w1 ⟨rfl, hb⟩; have HB1 := Aside0.mk (below_step HB0.out hb); clear hb) | (go_at_call 19; (with_reducible refine (HT1.out _ HB1.out).mono ?_); rintro e w2 ⟨rfl, hb⟩; have HB2 := Aside0.mk (below_step HB1.out hb); clear hb) | (go_at_call 36; (with_reducible refine (HBES.out _ HB2.out).mono ?_); rintro e w3 ⟨rfl, hi, hb⟩; have HI := Aside0.mk hi; have HB3 := Aside0.mk hb; clear hi hb))
          go_ret2
          exact ⟨_, rfl, Kd.R_nil _ _ _ _ _, HB3.out⟩
        | true =>
          obtain ⟨rfl, rfl⟩ := Prod.mk.inj hrr
          clear hrr
          go_enter Try.func14, Try.ntmps14
          go_wp2_with (first | (go_at_call 30; (with_reducible refine (HT0.out _ HB0.out).mono ?_); rintro e w1 ⟨rfl, hb⟩; have HB1 := Aside0.mk (below_step HB0.out hb); clear hb) | (go_at_call 19; (with_reducible refine (HT1.out _ HB1.out).mono ?_); rintro e w2 ⟨rfl, hb⟩; have HB2 := Aside0.mk (below_step HB1.out hb); clear hb) | (go_at_call 36; (with_reducible refine (HBES.out _ HB2.out).mono ?_); rintro e w3 ⟨rfl, hi, hb⟩; obtain ⟨v, hO⟩ := hi (by first | rfl | trivial); obtain ⟨A4, c4, hv4⟩ := Kd.R_slice hO.hR; subst hv4; have hc4 := hO.cell; have HO := Aside0.mk hO; clear hi hb hO))
          go_ret2
          exact ⟨_, rfl, Kd.R_mono HO.out.hR (fun _ _ => trivial), HO.out.hw⟩
  · rw [if_neg hl] at h; cases h


end Go.Proofs.Ytcocddpknkklhaa.PA
