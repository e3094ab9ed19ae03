-- WRITTEN BY a program of this session (pp.sh)
import Derived.Test.YtcocddpknkklhaaPAx0
import Derived.Test.YtcocddpknkklhaaPAx4
import Derived.Test.YtcocddpknkklhaaPAx5
import Derived.Test.YtcocddpknkklhaaPAx11
import Derived.Test.YtcocddpknkklhaaPAx16
import Derived.Test.YtcocddpknkklhaaPAx17
import Derived.Test.YtcocddpknkklhaaPAx18
namespace Go.Proofs.Ytcocddpknkklhaa.PA
open Go.RowKit Go.Proofs.YtcocddpknkklhaaW.PrintWords Go.Proofs.YtcocddpknkklhaaW.PrintLast Go.Proofs.YtcocddpknkklhaaW.PrintMore Go.Proofs.Ytcocddpknkklhaa.Plain
attribute [local go_sem] max2_int min2_int max_two min_two max_three min_three max_four min_four binOp_leq_s binOp_gtr_s binOp_geq_s lit_byte   -- for this text's walks alone
set_option linter.unusedVariables false
set_option linter.unusedSimpArgs false

/-! ### coppiceref18_Apply: function 16, by hand -/
-- 16
/-- The changes, one after the other. -/
def coppiceref18_Apply.go (k : Nat) (l0 : List S59) : List S61 → List S59 → Option (List S59 × Int)
  | [], out => some (out, 0)
  | x :: r, out => (coppiceref18_find.f k l0 x.f0).bind fun t =>
    if t = -1 then (if x.f1 = true then some ([], 180) else (coppiceref08_Delete.f k out x.f0).bind fun o1 => if x.f2 = true then (coppiceref08_Put.f k o1 x.f0 x.f4).bind fun o2 => coppiceref18_Apply.go k l0 r o2 else coppiceref18_Apply.go k l0 r o1)
    else if 0 ≤ t ∧ t < l0.length then (if x.f1 = true ∧ (rd_T59 l0 t).f1.toList = x.f3.toList then (coppiceref08_Delete.f k out x.f0).bind fun o1 => if x.f2 = true then (coppiceref08_Put.f k o1 x.f0 x.f4).bind fun o2 => coppiceref18_Apply.go k l0 r o2 else coppiceref18_Apply.go k l0 r o1 else some ([], 180))
    else none
/-- The document's Apply. -/
def coppiceref18_Apply.f (k : Nat) (l0 : List S59) (l1 : List S61) : Option (List S59 × Int) :=
  if l0.length ≤ 1000000000 ∧ l1.length ≤ 1000000000 then (coppiceref18_Rises.f k l0).bind fun a => if a = true then (coppiceref18_Right.f l1).bind fun b => if b = true then coppiceref18_Apply.go k l0 l1 l0 else some ([], 21) else some ([], 21) else none
theorem coppiceref18_Apply.go_mono (l0 : List S59) (k : Nat) : ∀ (c : List S61) (out : List S59), LeO (coppiceref18_Apply.go k l0 c out) (coppiceref18_Apply.go (k + 1) l0 c out)
  | [], out => LeO.refl _
  | x :: r, out => by
    have ih := coppiceref18_Apply.go_mono l0 k r
    have hb : LeO ((coppiceref08_Delete.f k out x.f0).bind fun o1 => if x.f2 = true then (coppiceref08_Put.f k o1 x.f0 x.f4).bind fun o2 => coppiceref18_Apply.go k l0 r o2 else coppiceref18_Apply.go k l0 r o1)
        ((coppiceref08_Delete.f (k + 1) out x.f0).bind fun o1 => if x.f2 = true then (coppiceref08_Put.f (k + 1) o1 x.f0 x.f4).bind fun o2 => coppiceref18_Apply.go (k + 1) l0 r o2 else coppiceref18_Apply.go (k + 1) l0 r o1) :=
      LeO.bind (coppiceref08_Delete.mono _ _ _) (fun o1 => LeO.ite (LeO.bind (coppiceref08_Put.mono _ _ _ _) (fun o2 => ih o2)) (ih o1))
    unfold coppiceref18_Apply.go
    exact LeO.bind (coppiceref18_find.mono _ _ _) (fun t => LeO.ite (LeO.ite (LeO.refl _) hb) (LeO.ite (LeO.ite hb (LeO.refl _)) (LeO.refl _)))
theorem coppiceref18_Apply.mono : ∀ a0 a1 k, LeO (coppiceref18_Apply.f k a0 a1) (coppiceref18_Apply.f (k + 1) a0 a1) := by
  intro a0 a1 k
  unfold coppiceref18_Apply.f
  exact LeO.ite (LeO.bind (coppiceref18_Rises.mono _ _) (fun _ => LeO.ite (LeO.bind (LeO.refl _) (fun _ => LeO.ite (coppiceref18_Apply.go_mono _ _ _ _) (LeO.refl _))) (LeO.refl _))) (LeO.refl _)
set_option maxHeartbeats 16000000 in
set_option maxRecDepth 100000 in
theorem coppiceref18_Apply.calls (k : Nat) (A0 : Option Addr) (c0 : Nat) (l0 : List S59) (A1 : Option Addr) (c1 : Nat) (l1 : List S61) (r1 : List S59) (r2 : Int) (w : World) (hr0 : Kd.C k59 w A0 l0.length l0) (hc0 : l0.length ≤ c0) (hr1 : Kd.C k61 w A1 l1.length l1) (hc1 : l1.length ≤ c1) (h : coppiceref18_Apply.f k l0 l1 = some (r1, r2)) :
    Calls Try.prog 16 #[.slice A0 l0.length c0, .slice A1 l1.length c1] w fun e w' => ∃ v0_ : Value, e = .returned (.tuple #[v0_, .int .i64 r2]) ∧ Kd.R k59 59 w' w.heap.size (fun _ => True) v0_ r1 ∧ Below w.heap.size w w' := by
  unfold coppiceref18_Apply.f at h
  by_cases hl : l0.length ≤ 1000000000 ∧ l1.length ≤ 1000000000
  rotate_left
  · rw [if_neg hl] at h; cases h
  rw [if_pos hl] at h
  obtain ⟨a, ha, h⟩ := Option.bind_eq_some_iff.1 h
  have HR0 := Aside0.mk hr0
  have HC0 := Aside0.mk hc0
  have HR1 := Aside0.mk hr1
  have HC1 := Aside0.mk hc1
  have HL0 := Aside0.mk hl.1
  have HL1 := Aside0.mk hl.2
  have HB := Aside0.mk (Below.refl w.heap.size w)
  have HRI := Aside0.mk (coppiceref18_Rises.calls k A0 c0 l0 a w hr0 hc0 ha)
  clear ha hr0 hc0 hr1 hc1 hl
  cases a with
  | false =>
    rw [if_neg (by decide)] at h
    obtain ⟨rfl, rfl⟩ := Prod.mk.inj (Option.some.inj h)
    clear h
    go_enter Try.func16, Try.ntmps16
    go_wp2_with (go_at_call 34; (with_reducible refine HRI.out.mono ?_); rintro e w1 ⟨rfl, hd⟩; have HB1 := Aside0.mk (Drawn0.below hd); clear hd)
    go_ret2
    exact ⟨_, rfl, Kd.R_nil _ _ _ _ _, HB1.out⟩
  | true =>
    rw [if_pos rfl] at h
    obtain ⟨b, hb, h⟩ := Option.bind_eq_some_iff.1 h
    have HRT := Aside0.mk (fun W hW => coppiceref18_Right.calls A1 c1 l1 b W (Kd.C_below HR1.out hW) HC1.out hb)
    clear hb
    cases b with
    | false =>
      rw [if_neg (by decide)] at h
      obtain ⟨rfl, rfl⟩ := Prod.mk.inj (Option.some.inj h)
      clear h
      go_enter Try.func16, Try.ntmps16
      go_wp2_with (first | (go_at_call 34; (with_reducible refine HRI.out.mono ?_); rintro e w1 ⟨rfl, hd⟩; have HB1 := Aside0.mk (Drawn0.below hd); clear hd) | (go_at_call 20; (with_reducible refine (HRT.out _ HB1.out).mono ?_); rintro e w2 ⟨rfl, hb⟩; have HB2 := Aside0.mk (below_step HB1.out hb); clear hb))
      go_ret2
      exact ⟨_, rfl, Kd.R_nil _ _ _ _ _, HB2.out⟩
    | true =>
      rw [if_pos rfl] at h
      have HG := Aside0.mk h
      clear h
      obtain ⟨y1, hy1⟩ : ∃ y_ : List S59, y_ = [] ++ l0 := ⟨_, rfl⟩
      have NY := Aside0.mk hy1
      clear hy1
      go_enter Try.func16, Try.ntmps16
      go_wp2_with (first | (go_at_call 34; (with_reducible refine HRI.out.mono ?_); rintro e w1 ⟨rfl, hd⟩; have HB1 := Aside0.mk (Drawn0.below hd); clear hd) | (go_at_call 20; (with_reducible refine (HRT.out _ HB1.out).mono ?_); rintro e w2 ⟨rfl, hb⟩; have HB2 := Aside0.mk (below_step HB1.out hb); clear hb) | ((with_reducible refine gate_dst (N := 17) rfl ?_); refine Kd.R_lit k59 _ 59 ?hg (N := 17) ?hd (xs := ([] : List S59)) (inner := []) (ok := fun _ => True) (okp := fun _ => True) ?hr ?hp (fun _ hk => hk) trivial (Below.refl _ _) (Nat.le_refl _) (by simp) ?_; (case hd => rfl); (case hg => rfl); (case hr => first | (go_simp; done) | (go_simp; rfl)); (case hp => exact (Reps.none _ _)); intro va wa ho4 hb hg_ hnew_; clear hg_ hnew_; have HOA := Aside0.mk (Kd.R_lower ho4 HB2.out.size); have HBA := Aside0.mk (below_step HB2.out hb); clear hb ho4) | ((with_reducible refine gate_builtin (b := .append) (xs := #[.tmp 17, .tmp 18]) rfl ?_); at_builtin; refine Kd.R_append_rows k59 (w0 := w) w.heap.size rfl (.tmp 17) (.tmp 18) 22 59 (.agg #[(.string ⟨#[]⟩), (.string ⟨#[]⟩)]) 32 rfl Try.underlying22 info59 rfl (by decide) (by omega) va [] l0 _ _ _ (fun _ => True) (fun _ => False) rfl rfl ?aO ?aR (fun _ _ h => h) (fun _ h => h.elim) ?aF ?aB ?aS ?aL ?_; (case aR => exact (Kd.C_below HR0.out HBA.out)); (case aB => exact HBA.out); (case aF => exact (fun _ _ => trivial)); (case aO => exact HOA.out); (case aS => exact HBA.out.size); (case aL => have := HL0.out; simp; omega); intro vb wb ho hb hg hat; rw [List.nil_append] at ho; obtain ⟨Ab, cb, rfl⟩ := Kd.R_slice ho; have HO := Aside0.mk ho; have HB3 := Aside0.mk hb; clear ho hb hg hat))
      go_loopg [7, 6, 8] (l1.length + 1) (fun kq v7 v6 v8 w' => ∃ (i : Nat) (out : List S59) (A4 : Option Addr) (c4 : Nat), v7 = .int .i64 (i : Int) ∧ v6 = .slice A4 out.length c4 ∧ Aside0 (i ≤ l1.length ∧ l1.length < i + kq) ∧ Aside0 (coppiceref18_Apply.go k l0 (l1.drop i) out = some (r1, r2)) ∧ Aside0 (Kd.R k59 59 w' w.heap.size (fun _ => True) (.slice A4 out.length c4) out) ∧ Aside0 (Below w.heap.size w w'))
      case atStart => exact ⟨0, l0, _, _, rfl, rfl, ⟨⟨Nat.zero_le _, by omega⟩⟩, HG, HO, HB3⟩
      case round =>
        clear HO HB3 HG HRT HRI HB HB1 HB2
        obtain ⟨i, out, A4, c4, rfl, rfl, HJ, HG, HO, HB⟩ := hrel
        cases gk with
        | zero => exact absurd HJ.out (by omega)
        | succ k1 =>
        by_cases hi : i < l1.length
        rotate_left
        · have hii : i = l1.length := by have := HJ.out; omega
          have hg := HG.out
          rw [hii, List.drop_length] at hg
          have hg2 := Prod.mk.inj (Option.some.inj hg)
          have HE := Aside0.mk hg2
          have d0 : decide ((i : Int) < (l1.length : Int)) = false := decide_eq_false (by omega)
          clear hg hg2 hii
          go_wp2
          go_ret2
          exact ⟨.slice A4 out.length c4, (by rw [← HE.out.2]; rfl), HE.out.1 ▸ HO.out, HB.out⟩
        have d0 : decide ((i : Int) < (l1.length : Int)) = true := decide_eq_true (by omega)
        have b1 : (0 : Int) ≤ (i : Int) := by omega
        have b2 : (i : Int) < (l1.length : Int) := by omega
        have d4 : IntKind.i64.wrap ((i : Int) + 1) = ((i + 1 : Nat) : Int) := by have := HL1.out; rw [i64_w]; unfold wrap64; omega
        obtain ⟨ad, e, hx0, hx1, hx2, hx3, hx4⟩ := at_T61 HR1.out (i : Int) b1 b2
        cases e
        rw [Int.toNat_natCast] at hx0 hx1 hx2 hx3 hx4
        have hg := HG.out
        rw [delta_rises.drop_change l1 i hi] at hg
        generalize rd_T61 l1 (i : Int) = z at *
        obtain ⟨xk, xh, xn, xo, xu⟩ := z
        have HX := Aside0.mk (show delta_beside.At_change w (ad.add (i * 5)) ⟨xk, xh, xn, xo, xu⟩ from ⟨hx0, hx1, hx2, hx3, hx4⟩)
        clear hx0 hx1 hx2 hx3 hx4 HG
        unfold coppiceref18_Apply.go at hg
        obtain ⟨t, ht, hg⟩ := Option.bind_eq_some_iff.1 hg
        have HF := Aside0.mk (fun W (hW : Below w.heap.size w W) => coppiceref18_find.calls k A0 c0 l0 xk t W (Kd.C_below HR0.out hW) HC0.out ht)
        have HG := Aside0.mk hg
        clear ht hg
        have hX := HX.out.below HB.out
        have hx0 : wr.cell? (ad.add (i * 5)) = some (.string xk) := hX.1
        have hx1 : wr.cell? ⟨(ad.add (i * 5)).block, (ad.add (i * 5)).off + 1, none⟩ = some (.bool xh) := hX.2.1
        have hx2 : wr.cell? ⟨(ad.add (i * 5)).block, (ad.add (i * 5)).off + 2, none⟩ = some (.bool xn) := hX.2.2.1
        have hx3 : wr.cell? ⟨(ad.add (i * 5)).block, (ad.add (i * 5)).off + 3, none⟩ = some (.string xo) := hX.2.2.2.1
        have hx4 : wr.cell? ⟨(ad.add (i * 5)).block, (ad.add (i * 5)).off + 4, none⟩ = some (.string xu) := hX.2.2.2.2
        clear hX
        by_cases hm : t = -1
        · subst hm
          have hg := HG.out
          rw [if_pos rfl] at hg
          cases xh with
          | true =>
            rw [if_pos rfl] at hg
            have HE := Aside0.mk (Prod.mk.inj (Option.some.inj hg))
            clear hg HG
            go_upto_region 8 with (go_at_call 39; (with_reducible refine (HF.out _ HB.out).mono ?_); rintro e w3 ⟨rfl, hd⟩; have HB3w := Aside0.mk (Drawn0.below hd); have HB3 := Aside0.mk (below_step HB.out HB3w.out); clear hd)
            clear hx0 hx1 hx2 hx3 hx4
            have hX := HX.out.below HB3.out
            have hx0 : w3.cell? (ad.add (i * 5)) = some (.string xk) := hX.1
            have hx1 : w3.cell? ⟨(ad.add (i * 5)).block, (ad.add (i * 5)).off + 1, none⟩ = some (.bool true) := hX.2.1
            have hx2 : w3.cell? ⟨(ad.add (i * 5)).block, (ad.add (i * 5)).off + 2, none⟩ = some (.bool xn) := hX.2.2.1
            have hx3 : w3.cell? ⟨(ad.add (i * 5)).block, (ad.add (i * 5)).off + 3, none⟩ = some (.string xo) := hX.2.2.2.1
            have hx4 : w3.cell? ⟨(ad.add (i * 5)).block, (ad.add (i * 5)).off + 4, none⟩ = some (.string xu) := hX.2.2.2.2
            clear hX
            have d1 : decide ((-1 : Int) ≥ 0) = false := by decide
            have d2 : decide ((0 : Int) ≤ -1) = false := by decide
            go_quiet (fail)
            go_wp2
            go_ret2
            exact ⟨.slice none 0 0, (by rw [← HE.out.2]; rfl), HE.out.1 ▸ Kd.R_nil _ _ _ _ _, HB3.out.trans (pw_below_drewN (Below.refl _ _) _)⟩
          | false =>
            rw [if_neg (show ¬ ((⟨xk, false, xn, xo, xu⟩ : S61).f1 = true) from Bool.false_ne_true)] at hg
            obtain ⟨o1, ho1, hg⟩ := Option.bind_eq_some_iff.1 hg
            have HD := Aside0.mk (fun W A c hA hC => coppiceref08_Delete.calls k A c out xk o1 W hA hC ho1)
            have HH := Aside0.mk hg
            clear hg HG ho1
            go_upto_region 8 with (go_at_call 39; (with_reducible refine (HF.out _ HB.out).mono ?_); rintro e w3 ⟨rfl, hd⟩; have HB3w := Aside0.mk (Drawn0.below hd); have HB3 := Aside0.mk (below_step HB.out HB3w.out); clear hd)
            clear hx0 hx1 hx2 hx3 hx4
            have hX := HX.out.below HB3.out
            have hx0 : w3.cell? (ad.add (i * 5)) = some (.string xk) := hX.1
            have hx1 : w3.cell? ⟨(ad.add (i * 5)).block, (ad.add (i * 5)).off + 1, none⟩ = some (.bool false) := hX.2.1
            have hx2 : w3.cell? ⟨(ad.add (i * 5)).block, (ad.add (i * 5)).off + 2, none⟩ = some (.bool xn) := hX.2.2.1
            have hx3 : w3.cell? ⟨(ad.add (i * 5)).block, (ad.add (i * 5)).off + 3, none⟩ = some (.string xo) := hX.2.2.2.1
            have hx4 : w3.cell? ⟨(ad.add (i * 5)).block, (ad.add (i * 5)).off + 4, none⟩ = some (.string xu) := hX.2.2.2.2
            clear hX
            have d1 : decide ((-1 : Int) ≥ 0) = false := by decide
            have d2 : decide ((0 : Int) ≤ -1) = false := by decide
            go_quiet (fail)
            generalize hw4 : w3.drewN _ = w4
            have HB4 : Aside0 (Below w.heap.size w w4) := ⟨hw4 ▸ HB3.out.trans (pw_below_drewN (Below.refl _ _) _)⟩
            have HO3 : Aside0 (Kd.R k59 59 w4 w.heap.size (fun _ => True) (.slice A4 out.length c4) out) := ⟨Kd.R_below (Kd.R_below HO.out (HB3w.out)) (hw4 ▸ pw_below_drewN (Below.refl _ _) _)⟩
            clear hw4 hx0 hx1 hx2 hx3 hx4
            have hX := HX.out.below HB4.out
            have hx0 : w4.cell? (ad.add (i * 5)) = some (.string xk) := hX.1
            have hx1 : w4.cell? ⟨(ad.add (i * 5)).block, (ad.add (i * 5)).off + 1, none⟩ = some (.bool false) := hX.2.1
            have hx2 : w4.cell? ⟨(ad.add (i * 5)).block, (ad.add (i * 5)).off + 2, none⟩ = some (.bool xn) := hX.2.2.1
            have hx3 : w4.cell? ⟨(ad.add (i * 5)).block, (ad.add (i * 5)).off + 3, none⟩ = some (.string xo) := hX.2.2.2.1
            have hx4 : w4.cell? ⟨(ad.add (i * 5)).block, (ad.add (i * 5)).off + 4, none⟩ = some (.string xu) := hX.2.2.2.2
            clear hX
            go_upto_region 11 with (go_at_call 40; (with_reducible refine (HD.out _ _ _ (Kd.R_reads' HO3.out).2.2 (Kd.R_reads' HO3.out).2.1).mono ?_); rintro e w5 ⟨v5, rfl, ho, hb⟩; obtain ⟨A5, c5, rfl⟩ := Kd.R_slice ho; have HO5 := Aside0.mk (Kd.R_lower ho HB4.out.size); have HB5 := Aside0.mk (below_step HB4.out hb); clear ho hb)
            clear hx0 hx1 hx2 hx3 hx4
            have hX := HX.out.below HB5.out
            have hx0 : w5.cell? (ad.add (i * 5)) = some (.string xk) := hX.1
            have hx1 : w5.cell? ⟨(ad.add (i * 5)).block, (ad.add (i * 5)).off + 1, none⟩ = some (.bool false) := hX.2.1
            have hx2 : w5.cell? ⟨(ad.add (i * 5)).block, (ad.add (i * 5)).off + 2, none⟩ = some (.bool xn) := hX.2.2.1
            have hx3 : w5.cell? ⟨(ad.add (i * 5)).block, (ad.add (i * 5)).off + 3, none⟩ = some (.string xo) := hX.2.2.2.1
            have hx4 : w5.cell? ⟨(ad.add (i * 5)).block, (ad.add (i * 5)).off + 4, none⟩ = some (.string xu) := hX.2.2.2.2
            clear hX
            cases xn with
            | false =>
              have hh := HH.out
              rw [if_neg Bool.false_ne_true] at hh
              have HN := Aside0.mk hh
              clear hh HH
              go_wp2
              go_roundg k1
              case measure => omega
              case rel => exact ⟨i + 1, o1, _, _, by first | rfl | (simp [*]; done) | skip, rfl, ⟨by have := HJ.out; omega⟩, HN, HO5, HB5⟩
            | true =>
              have hh := HH.out
              rw [if_pos rfl] at hh
              obtain ⟨o2, ho2, hh⟩ := Option.bind_eq_some_iff.1 hh
              have HP := Aside0.mk (fun W A c hA hC => coppiceref08_Put.calls k A c o1 xk xu o2 W hA hC ho2)
              have HN := Aside0.mk hh
              clear hh HH ho2
              go_wp2
              have HO6 := Aside0.mk (show Kd.R k59 59 w5.drew w.heap.size (fun _ => True) (.slice A5 o1.length c5) o1 from Kd.R_below HO5.out (below_drew (Below.refl _ _)))
              have HB6 := Aside0.mk (show Below w.heap.size w w5.drew from HB5.out.drew)
              go_region_held3 (fun W' => W'.cell? (ad.add (i * 5)) = some (.string xk) ∧ W'.cell? ⟨(ad.add (i * 5)).block, (ad.add (i * 5)).off + 1, none⟩ = some (.bool false) ∧ W'.cell? ⟨(ad.add (i * 5)).block, (ad.add (i * 5)).off + 2, none⟩ = some (.bool true) ∧ W'.cell? ⟨(ad.add (i * 5)).block, (ad.add (i * 5)).off + 3, none⟩ = some (.string xo) ∧ W'.cell? ⟨(ad.add (i * 5)).block, (ad.add (i * 5)).off + 4, none⟩ = some (.string xu))
                (first | exact ⟨(HX.out.below HB7.out).1, (HX.out.below HB7.out).2.1, (HX.out.below HB7.out).2.2.1, (HX.out.below HB7.out).2.2.2.1, (HX.out.below HB7.out).2.2.2.2⟩ | exact ⟨(HX.out.below HB6.out).1, (HX.out.below HB6.out).2.1, (HX.out.below HB6.out).2.2.1, (HX.out.below HB6.out).2.2.2.1, (HX.out.below HB6.out).2.2.2.2⟩)
                ((go_at_call 41; (with_reducible refine (HP.out _ _ _ (Kd.R_reads' HO6.out).2.2 (Kd.R_reads' HO6.out).2.1).mono ?_); rintro e w7 ⟨v7, rfl, ho, hb⟩; obtain ⟨A7, c7, rfl⟩ := Kd.R_slice ho; have HO7 := Aside0.mk (Kd.R_lower ho HB6.out.size); have HB7 := Aside0.mk (below_step HB6.out hb); clear ho hb))
              all_goals
                go_wp2
                go_roundg k1
                case measure => omega
                case rel => exact ⟨i + 1, o2, _, _, by first | rfl | (simp [*]; done) | skip, rfl, ⟨by have := HJ.out; omega⟩, HN, HO7, HB7⟩
        · have hg := HG.out
          rw [if_neg hm] at hg
          by_cases hr : 0 ≤ t ∧ t < l0.length
          rotate_left
          · rw [if_neg hr] at hg; cases hg
          rw [if_pos hr] at hg
          obtain ⟨m, rfl⟩ : ∃ m : Nat, t = (m : Int) := ⟨t.toNat, by omega⟩
          have b3 : (0 : Int) ≤ (m : Int) := by omega
          have b4 : (m : Int) < (l0.length : Int) := hr.2
          have d1 : decide ((m : Int) ≥ 0) = true := decide_eq_true b3
          obtain ⟨al, e, hy0, hy1⟩ := at_T59 HR0.out (m : Int) b3 b4
          cases e
          rw [Int.toNat_natCast] at hy0 hy1
          generalize rd_T59 l0 (m : Int) = y at *
          obtain ⟨yk, yv⟩ := y
          have HY := Aside0.mk (show delta_beside.At_item w (al.add (m * 2)) ⟨yk, yv⟩ from ⟨hy0, hy1⟩)
          clear hy0 hy1 hm hr HG
          cases xh with
          | false =>
            rw [if_neg (by rintro ⟨h, _⟩; cases h)] at hg
            have HE := Aside0.mk (Prod.mk.inj (Option.some.inj hg))
            clear hg
            go_upto_region 8 with (go_at_call 39; (with_reducible refine (HF.out _ HB.out).mono ?_); rintro e w3 ⟨rfl, hd⟩; have HB3w := Aside0.mk (Drawn0.below hd); have HB3 := Aside0.mk (below_step HB.out HB3w.out); clear hd)
            clear hx0 hx1 hx2 hx3 hx4
            have hX := HX.out.below HB3.out
            have hx0 : w3.cell? (ad.add (i * 5)) = some (.string xk) := hX.1
            have hx1 : w3.cell? ⟨(ad.add (i * 5)).block, (ad.add (i * 5)).off + 1, none⟩ = some (.bool false) := hX.2.1
            have hx2 : w3.cell? ⟨(ad.add (i * 5)).block, (ad.add (i * 5)).off + 2, none⟩ = some (.bool xn) := hX.2.2.1
            have hx3 : w3.cell? ⟨(ad.add (i * 5)).block, (ad.add (i * 5)).off + 3, none⟩ = some (.string xo) := hX.2.2.2.1
            have hx4 : w3.cell? ⟨(ad.add (i * 5)).block, (ad.add (i * 5)).off + 4, none⟩ = some (.string xu) := hX.2.2.2.2
            clear hX
            have hY := HY.out.below HB3.out
            have hy0 : w3.cell? (al.add (m * 2)) = some (.string yk) := hY.1
            have hy1 : w3.cell? ⟨(al.add (m * 2)).block, (al.add (m * 2)).off + 1, none⟩ = some (.string yv) := hY.2
            clear hY
            go_quiet (fail)
            go_wp2
            go_ret2
            exact ⟨.slice none 0 0, (by rw [← HE.out.2]; rfl), HE.out.1 ▸ Kd.R_nil _ _ _ _ _, HB3.out.trans (pw_below_drewN (Below.refl _ _) _)⟩
          | true =>
            by_cases hv : yv.toList = xo.toList
            rotate_left
            · rw [if_neg (fun h => hv h.2)] at hg
              have HE := Aside0.mk (Prod.mk.inj (Option.some.inj hg))
              have f1 : (yv.toList == xo.toList) = false := beq_eq_false_iff_ne.mpr hv
              have f2 : (yv.toList != xo.toList) = true := bne_iff_ne.mpr hv
              clear hg hv
              go_upto_region 8 with (go_at_call 39; (with_reducible refine (HF.out _ HB.out).mono ?_); rintro e w3 ⟨rfl, hd⟩; have HB3w := Aside0.mk (Drawn0.below hd); have HB3 := Aside0.mk (below_step HB.out HB3w.out); clear hd)
              clear hx0 hx1 hx2 hx3 hx4
              have hX := HX.out.below HB3.out
              have hx0 : w3.cell? (ad.add (i * 5)) = some (.string xk) := hX.1
              have hx1 : w3.cell? ⟨(ad.add (i * 5)).block, (ad.add (i * 5)).off + 1, none⟩ = some (.bool true) := hX.2.1
              have hx2 : w3.cell? ⟨(ad.add (i * 5)).block, (ad.add (i * 5)).off + 2, none⟩ = some (.bool xn) := hX.2.2.1
              have hx3 : w3.cell? ⟨(ad.add (i * 5)).block, (ad.add (i * 5)).off + 3, none⟩ = some (.string xo) := hX.2.2.2.1
              have hx4 : w3.cell? ⟨(ad.add (i * 5)).block, (ad.add (i * 5)).off + 4, none⟩ = some (.string xu) := hX.2.2.2.2
              clear hX
              have hY := HY.out.below HB3.out
              have hy0 : w3.cell? (al.add (m * 2)) = some (.string yk) := hY.1
              have hy1 : w3.cell? ⟨(al.add (m * 2)).block, (al.add (m * 2)).off + 1, none⟩ = some (.string yv) := hY.2
              clear hY
              go_quiet (fail)
              go_wp2
              go_ret2
              exact ⟨.slice none 0 0, (by rw [← HE.out.2]; rfl), HE.out.1 ▸ Kd.R_nil _ _ _ _ _, HB3.out.trans (pw_below_drewN (Below.refl _ _) _)⟩
            rw [if_pos ⟨rfl, hv⟩] at hg
            have f1 : (yv.toList == xo.toList) = true := beq_iff_eq.mpr hv
            have f2 : (yv.toList != xo.toList) = false := bne_eq_false_iff_eq.mpr hv
            obtain ⟨o1, ho1, hg⟩ := Option.bind_eq_some_iff.1 hg
            have HD := Aside0.mk (fun W A c hA hC => coppiceref08_Delete.calls k A c out xk o1 W hA hC ho1)
            have HH := Aside0.mk hg
            clear hg ho1 hv
            go_upto_region 8 with (go_at_call 39; (with_reducible refine (HF.out _ HB.out).mono ?_); rintro e w3 ⟨rfl, hd⟩; have HB3w := Aside0.mk (Drawn0.below hd); have HB3 := Aside0.mk (below_step HB.out HB3w.out); clear hd)
            clear hx0 hx1 hx2 hx3 hx4
            have hX := HX.out.below HB3.out
            have hx0 : w3.cell? (ad.add (i * 5)) = some (.string xk) := hX.1
            have hx1 : w3.cell? ⟨(ad.add (i * 5)).block, (ad.add (i * 5)).off + 1, none⟩ = some (.bool true) := hX.2.1
            have hx2 : w3.cell? ⟨(ad.add (i * 5)).block, (ad.add (i * 5)).off + 2, none⟩ = some (.bool xn) := hX.2.2.1
            have hx3 : w3.cell? ⟨(ad.add (i * 5)).block, (ad.add (i * 5)).off + 3, none⟩ = some (.string xo) := hX.2.2.2.1
            have hx4 : w3.cell? ⟨(ad.add (i * 5)).block, (ad.add (i * 5)).off + 4, none⟩ = some (.string xu) := hX.2.2.2.2
            clear hX
            have hY := HY.out.below HB3.out
            have hy0 : w3.cell? (al.add (m * 2)) = some (.string yk) := hY.1
            have hy1 : w3.cell? ⟨(al.add (m * 2)).block, (al.add (m * 2)).off + 1, none⟩ = some (.string yv) := hY.2
            clear hY
            go_quiet (fail)
            clear hy0 hy1
            generalize hw4 : w3.drewN _ = w4
            have HB4 : Aside0 (Below w.heap.size w w4) := ⟨hw4 ▸ HB3.out.trans (pw_below_drewN (Below.refl _ _) _)⟩
            have HO3 : Aside0 (Kd.R k59 59 w4 w.heap.size (fun _ => True) (.slice A4 out.length c4) out) := ⟨Kd.R_below (Kd.R_below HO.out (HB3w.out)) (hw4 ▸ pw_below_drewN (Below.refl _ _) _)⟩
            clear hw4 hx0 hx1 hx2 hx3 hx4
            have hX := HX.out.below HB4.out
            have hx0 : w4.cell? (ad.add (i * 5)) = some (.string xk) := hX.1
            have hx1 : w4.cell? ⟨(ad.add (i * 5)).block, (ad.add (i * 5)).off + 1, none⟩ = some (.bool true) := hX.2.1
            have hx2 : w4.cell? ⟨(ad.add (i * 5)).block, (ad.add (i * 5)).off + 2, none⟩ = some (.bool xn) := hX.2.2.1
            have hx3 : w4.cell? ⟨(ad.add (i * 5)).block, (ad.add (i * 5)).off + 3, none⟩ = some (.string xo) := hX.2.2.2.1
            have hx4 : w4.cell? ⟨(ad.add (i * 5)).block, (ad.add (i * 5)).off + 4, none⟩ = some (.string xu) := hX.2.2.2.2
            clear hX
            go_upto_region 11 with (go_at_call 40; (with_reducible refine (HD.out _ _ _ (Kd.R_reads' HO3.out).2.2 (Kd.R_reads' HO3.out).2.1).mono ?_); rintro e w5 ⟨v5, rfl, ho, hb⟩; obtain ⟨A5, c5, rfl⟩ := Kd.R_slice ho; have HO5 := Aside0.mk (Kd.R_lower ho HB4.out.size); have HB5 := Aside0.mk (below_step HB4.out hb); clear ho hb)
            clear hx0 hx1 hx2 hx3 hx4
            have hX := HX.out.below HB5.out
            have hx0 : w5.cell? (ad.add (i * 5)) = some (.string xk) := hX.1
            have hx1 : w5.cell? ⟨(ad.add (i * 5)).block, (ad.add (i * 5)).off + 1, none⟩ = some (.bool true) := hX.2.1
            have hx2 : w5.cell? ⟨(ad.add (i * 5)).block, (ad.add (i * 5)).off + 2, none⟩ = some (.bool xn) := hX.2.2.1
            have hx3 : w5.cell? ⟨(ad.add (i * 5)).block, (ad.add (i * 5)).off + 3, none⟩ = some (.string xo) := hX.2.2.2.1
            have hx4 : w5.cell? ⟨(ad.add (i * 5)).block, (ad.add (i * 5)).off + 4, none⟩ = some (.string xu) := hX.2.2.2.2
            clear hX
            cases xn with
            | false =>
              have hh := HH.out
              rw [if_neg Bool.false_ne_true] at hh
              have HN := Aside0.mk hh
              clear hh HH
              go_wp2
              go_roundg k1
              case measure => omega
              case rel => exact ⟨i + 1, o1, _, _, by first | rfl | (simp [*]; done) | skip, rfl, ⟨by have := HJ.out; omega⟩, HN, HO5, HB5⟩
            | true =>
              have hh := HH.out
              rw [if_pos rfl] at hh
              obtain ⟨o2, ho2, hh⟩ := Option.bind_eq_some_iff.1 hh
              have HP := Aside0.mk (fun W A c hA hC => coppiceref08_Put.calls k A c o1 xk xu o2 W hA hC ho2)
              have HN := Aside0.mk hh
              clear hh HH ho2
              go_wp2
              have HO6 := Aside0.mk (show Kd.R k59 59 w5.drew w.heap.size (fun _ => True) (.slice A5 o1.length c5) o1 from Kd.R_below HO5.out (below_drew (Below.refl _ _)))
              have HB6 := Aside0.mk (show Below w.heap.size w w5.drew from HB5.out.drew)
              go_region_held3 (fun W' => W'.cell? (ad.add (i * 5)) = some (.string xk) ∧ W'.cell? ⟨(ad.add (i * 5)).block, (ad.add (i * 5)).off + 1, none⟩ = some (.bool true) ∧ W'.cell? ⟨(ad.add (i * 5)).block, (ad.add (i * 5)).off + 2, none⟩ = some (.bool true) ∧ W'.cell? ⟨(ad.add (i * 5)).block, (ad.add (i * 5)).off + 3, none⟩ = some (.string xo) ∧ W'.cell? ⟨(ad.add (i * 5)).block, (ad.add (i * 5)).off + 4, none⟩ = some (.string xu))
                (first | exact ⟨(HX.out.below HB7.out).1, (HX.out.below HB7.out).2.1, (HX.out.below HB7.out).2.2.1, (HX.out.below HB7.out).2.2.2.1, (HX.out.below HB7.out).2.2.2.2⟩ | exact ⟨(HX.out.below HB6.out).1, (HX.out.below HB6.out).2.1, (HX.out.below HB6.out).2.2.1, (HX.out.below HB6.out).2.2.2.1, (HX.out.below HB6.out).2.2.2.2⟩)
                ((go_at_call 41; (with_reducible refine (HP.out _ _ _ (Kd.R_reads' HO6.out).2.2 (Kd.R_reads' HO6.out).2.1).mono ?_); rintro e w7 ⟨v7, rfl, ho, hb⟩; obtain ⟨A7, c7, rfl⟩ := Kd.R_slice ho; have HO7 := Aside0.mk (Kd.R_lower ho HB6.out.size); have HB7 := Aside0.mk (below_step HB6.out hb); clear ho hb))
              all_goals
                go_wp2
                go_roundg k1
                case measure => omega
                case rel => exact ⟨i + 1, o2, _, _, by first | rfl | (simp [*]; done) | skip, rfl, ⟨by have := HJ.out; omega⟩, HN, HO7, HB7⟩


end Go.Proofs.Ytcocddpknkklhaa.PA
